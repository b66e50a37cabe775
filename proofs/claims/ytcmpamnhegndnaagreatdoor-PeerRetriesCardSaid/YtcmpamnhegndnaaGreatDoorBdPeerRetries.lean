/- Texts joined: engine, contracts and laws, in the order in which they build. -/
import Derived.Shelf.SlSortCmp.WholeK
import Derived.Shelf.SlSortCmp.NoneTotal
import Derived.Shelf.SlLaysF0
import Derived.Test.YtcmpamnhegndnaaGreatDoorBcPeerRetries
/- attr: a known attribute taken in, walked. -/
namespace Go.Proofs.YtcmpamnhegndnaaGreatDoor
open Go.RowKit

/-- What take leaves behind. -/
def TakeP (w0 w' : World) (ga : Nat) (a : AtL) (all v : List Int) (K L : List Ent) (e : Ending) : Prop :=
  ∃ a' K', AtOwn K' a' ∧ a'.others = a.others ∧ a'.oad = a.oad ∧ a'.oc = a.oc ∧ (fOf all 1 = 8 ∨ (a'.cad = a.cad ∧ a'.cc = a.cc)) ∧ St (fun _ => False) w0 w' (.row ga a'.cells :: (K' ++ L)) ∧ (∀ e ∈ K, e ∈ K') ∧
    (match takeD a.d all v with | .inr (s, d) => e = .returned (.agg (fltL 3 s d).toArray) | .inl d => e = .returned (.agg (fltL 0 0 ⟨#[]⟩).toArray) ∧ a'.d = d)
theorem good_1 (w : World) (a : AtL) : Calls Tryz.prog 122 #[.agg a.cells.toArray, .int .i64 ((1 : Nat) : Int)] w fun e w' => e = .returned (.bool (wiB a.origin 2)) ∧ Frm (fun _ => False) w w' := by
  refine enter Tryz.func122 rfl Tryz.ntmps122 rfl (St.start (fun _ => False) w) ?_
  refine WC.seq <| WC.region <| WL.box rfl rfl rfl (.none rfl) rfl rfl <| ?_
  intro g2 hg2
  refine WL.v (v_assign rfl rfl) rfl <| WL.nt <| WC.seq <| WC.seq <| WC.region <| WL.v (v_move rfl rfl) rfl <| WL.nt <| WC.block <| WC.seq <| WC.region <| ?_
  refine WL.v ((v_eql rfl rfl rfl).t (by omega)) rfl ?_
  refine WL.v (v_assign rfl rfl) rfl <| WL.nt <| WC.cond_t rfl <| WC.seq <| WC.region <| WL.v (v_fieldAddr0 rfl rfl fld_35_1) rfl <| WL.v (v_load1 rfl rfl one_3 (cellAt rfl)) rfl <| WL.call rfl rfl ck_132 (.none rfl) rfl rfl <| ?_
  intro w hS
  refine Calls.then (AWithin_c w a.origin 2) hS ?_
  refine WL.v (v_assign rfl rfl) rfl <| WL.nt <| WC.ret <| WE.block_ret <| WE.then_ret <| WE.ret1 (P := Tryz.prog) (.inl rfl) Tryz.results122 rfl <| ?_
  exact fun w' h => ⟨rfl, h.frm⟩
theorem good_3 (w : World) (a : AtL) : Calls Tryz.prog 122 #[.agg a.cells.toArray, .int .i64 ((3 : Nat) : Int)] w fun e w' => e = .returned (.bool (hopB a.hop)) ∧ Frm (fun _ => False) w w' := by
  refine enter Tryz.func122 rfl Tryz.ntmps122 rfl (St.start (fun _ => False) w) ?_
  refine WC.seq <| WC.region <| WL.box rfl rfl rfl (.none rfl) rfl rfl <| ?_
  intro g2 hg2
  refine WL.v (v_assign rfl rfl) rfl <| WL.nt <| WC.seq <| WC.seq <| WC.region <| WL.v (v_move rfl rfl) rfl <| WL.nt <| WC.block <| WC.seq <| WC.region <| ?_
  refine WL.v ((v_eql rfl rfl rfl).f (by omega)) rfl ?_
  refine WL.v (v_assign rfl rfl) rfl <| WL.nt <| WC.cond_f rfl <| WC.seq <| WC.region <| ?_
  refine WL.v ((v_eql rfl rfl rfl).f (by omega)) rfl ?_
  refine WL.v (v_assign rfl rfl) rfl <| WL.nt <| WC.cond_f rfl <| WC.seq <| WC.region <| ?_
  refine WL.v ((v_eql rfl rfl rfl).t (by omega)) rfl ?_
  refine WL.v (v_assign rfl rfl) rfl <| WL.nt <| WC.cond_t rfl <| WC.seq <| WC.region <| WL.v (v_fieldAddr0 rfl rfl fld_35_3) rfl <| WL.v (v_load1 rfl rfl one_23 (cellAt rfl)) rfl <| WL.call rfl rfl ck_134 (.none rfl) rfl rfl <| ?_
  intro w hS
  refine Calls.then (goodHop_c w a.hop) hS ?_
  refine WL.v (v_assign rfl rfl) rfl <| WL.nt <| WC.ret <| WE.block_ret <| WE.then_ret <| WE.ret1 (P := Tryz.prog) (.inl rfl) Tryz.results122 rfl <| ?_
  exact fun w' h => ⟨rfl, h.frm⟩
theorem setD_keep {d d' : AtD} {t : Nat} {v : List Int} (h : setD d t v = some d') : d'.has = d.has ∧ d'.others = d.others := by
  unfold setD at h
  split at h
  · cases h; exact ⟨rfl, rfl⟩
  split at h
  · obtain ⟨p, _, rfl⟩ := Option.map_eq_some_iff.1 h; exact ⟨rfl, rfl⟩
  split at h
  · cases h; exact ⟨rfl, rfl⟩
  split at h
  · cases h; exact ⟨rfl, rfl⟩
  split at h
  · cases h; exact ⟨rfl, rfl⟩
  split at h
  · cases h; exact ⟨rfl, rfl⟩
  split at h
  · cases h; exact ⟨rfl, rfl⟩
  · cases h; exact ⟨rfl, rfl⟩
theorem pow2_9 : ∀ t : Nat, t ≤ 8 → 1 ≤ (2 : Int) ^ t ∧ (2 : Int) ^ t ≤ 256 := by
  intro t ht
  have : t = 0 ∨ t = 1 ∨ t = 2 ∨ t = 3 ∨ t = 4 ∨ t = 5 ∨ t = 6 ∨ t = 7 ∨ t = 8 := by omega
  rcases this with rfl | rfl | rfl | rfl | rfl | rfl | rfl | rfl | rfl <;> decide
theorem path_all (ss : List SegL) : ((ss.map segD).all fun p => segB ⟨p.1, none, 0, p.2⟩) = ss.all segB := by rw [List.all_map]; rfl
set_option maxHeartbeats 4000000 in
theorem take_c (w0 w1 : World) (ga b oa ca ov cv : Nat) (all v : List Int) (a : AtL) (K L : List Ent) (hG : GF w0) (hZ : GZ w0) (hWa : Win w0 b oa ca all) (hWv : Win w0 b ov cv v) (hn : all.length ≤ 100000) (hnv : v.length ≤ 100000) (h2 : 2 ≤ all.length) (t : Nat) (ht : fOf all 1 = t) (ht1 : 1 ≤ t) (ht8 : t ≤ 8)
    (hA : AtOwn K a) (hh0 : 0 ≤ a.has) (hh1 : a.has ≤ 511) (hb : a.has / 2 ^ t % 2 = 0) (h8 : t = 8 → a.cad = none ∧ a.cc = 0 ∧ a.comms = []) (hS0 : St (fun _ => False) w0 w1 (.row ga a.cells :: (K ++ L))) :
    Calls Tryz.prog 137 #[.pointer (some ⟨ga, 0, none⟩), .slice (some ⟨b, oa, none⟩) all.length ca, .slice (some ⟨b, ov, none⟩) v.length cv] w1 fun e w' => TakeP w0 w' ga a all v K L e := by
  have b0 := fOf_b hWa.bys 0
  have hab := and_byte b0
  refine enter Tryz.func137 rfl Tryz.ntmps137 rfl hS0 ?_
  refine WC.seq <| WC.region <| WL.alloc rfl zero_37 (.none rfl) rfl rfl <| ?_
  intro g6 hg6
  refine WL.nt <| WC.seq <| WC.region <| WL.v (v_move rfl rfl) rfl <| ?_
  refine WL.v (v_indexAddr (lo := 1) rfl rfl rfl Tryz.underlying25 sz_5 rfl (by omega)) rfl ?_
  refine WL.v (v_load1 rfl rfl one_5 (cellOld (fun h => h) (hWa.get (fOf_get (by omega))))) rfl ?_
  refine WL.v (v_conv rfl rfl Tryz.underlying3 Tryz.underlying5 (w_i64 (by omega) (by omega))) rfl ?_
  rw [ht]
  refine WL.v (v_assign rfl rfl) rfl <| WL.nt <| WC.seq <| WC.region <| WL.v (v_move rfl rfl) rfl <| ?_
  refine WL.v (v_indexAddr (lo := 0) rfl rfl rfl Tryz.underlying25 sz_5 rfl (by omega)) rfl ?_
  refine WL.v (v_load1 rfl rfl one_5 (cellOld (fun h => h) (hWa.get (fOf_get (by omega))))) rfl ?_
  refine WL.v (v_conv rfl rfl Tryz.underlying3 Tryz.underlying5 (w_i64 (by omega) (by omega))) rfl ?_
  refine WL.v (v_and rfl rfl rfl (hab.2.2.2)) rfl <| WL.v (v_assign rfl rfl) rfl <| WL.nt <| ?_
  refine WC.cut (fun _ : Unit => [(7, .int .i64 t), (0, .pointer (some ⟨ga, 0, none⟩)), (1, .slice (some ⟨b, oa, none⟩) all.length ca), (2, .slice (some ⟨b, ov, none⟩) v.length cv), (6, .pointer (some ⟨g6, 0, none⟩))]) (fun _ => .row g6 (fltL 0 0 ⟨#[]⟩) :: .row ga a.cells :: (K ++ L)) (fun _ => ¬ (fOf all 0 / 64 * 64 ≠ flagI t ∨ (fOf all 0 / 32 % 2 * 32 ≠ 0 ∧ fOf all 0 / 64 * 64 ≠ 192))) ?_ ?_
  ·
   refine WC.seq <| WC.region <| WL.v (v_move rfl rfl) rfl <| WL.v (v_move rfl rfl) rfl <| ?_
   refine WL.v (v_indexAddrA (lo := t) rfl rfl rfl Tryz.underlying179 sz_3 (by omega) (by omega)) rfl ?_
   refine WL.v (v_load1 rfl rfl one_3 (cellOld (v := .int .i64 (flagI t)) (fun h => h) (by rw [Nat.zero_add, Nat.mul_one]; exact hG t (by omega)))) rfl ?_
   refine WL.test (v_neq rfl rfl rfl) (.none rfl) rfl rfl (fun h22 => ?_) (fun h22 => ?_)
   ·
    refine WL.v (v_move rfl rfl) rfl ?_
    iterate 9 refine WL.sk rfl ?_
    refine WL.v (v_pick_t rfl rfl rfl) rfl <| WL.nt <| WC.cond_t rfl <| WC.seq <| WC.region <| WL.v (v_move rfl rfl) rfl <| WL.v (v_convBS (fOf all) rfl rfl Tryz.underlying25 Tryz.underlying5 Tryz.underlying9 (fun w' hS' _ => ⟨b, oa, rfl, rd_u8s (hWa.st hS').at_⟩)) rfl <| WL.v (v_build rfl rfl zero_37 plc_37 rfl) rfl <| WL.storeW rfl rfl rfl rfl many_37 rfl rfl (.none rfl) rfl <| WL.nt <| ?_
    refine WC.ret <| WE.then_ret <| WE.ret1 (P := Tryz.prog) (.inl rfl) Tryz.results137 (resRow rfl many_37 rfl) <| ?_
    have e0 : takeD a.d all v = .inr (4, strOf all) := (by unfold takeD; rw [ht, Int.toNat_natCast, if_pos (by omega)])
    exact fun w' h => ⟨a, K, hA, rfl, rfl, rfl, .inr ⟨rfl, rfl⟩, h.sub (.cons _ (.refl _)), fun _ h => h, by rw [e0]; rfl⟩
   ·
    refine WL.v (v_move rfl rfl) rfl <| WL.val (v_move rfl rfl) (.some rfl rfl rfl) rfl rfl <| ?_
    refine WL.val (v_indexAddr (lo := 0) rfl rfl rfl Tryz.underlying25 sz_5 rfl (by omega)) (.some rfl rfl rfl) rfl rfl ?_
    refine WL.val (v_load1 rfl rfl one_5 (cellOld (fun h => h) (hWa.get (fOf_get (by omega))))) (.some rfl rfl rfl) rfl rfl ?_
    refine WL.val (v_and rfl rfl rfl (hab.1)) (.some rfl rfl rfl) rfl rfl ?_
    refine WL.test (v_neq rfl rfl rfl) (.some rfl rfl rfl) rfl rfl (fun h28 => ?_) (fun h28 => ?_)
    ·
     refine WL.val (v_move rfl rfl) (.some rfl rfl rfl) rfl rfl <| WL.val (v_move rfl rfl) (.some rfl rfl rfl) rfl rfl <| ?_
     refine WL.test (v_neq rfl rfl rfl) (.some rfl rfl rfl) rfl rfl (fun h31 => ?_) (fun h31 => ?_)
     ·
      refine WL.val (v_pick_t rfl rfl rfl) (.some rfl rfl rfl) rfl rfl <| WL.v (v_pick_f rfl rfl rfl) rfl <| WL.nt <| WC.cond_t rfl <| WC.seq <| WC.region <| WL.v (v_move rfl rfl) rfl <| WL.v (v_convBS (fOf all) rfl rfl Tryz.underlying25 Tryz.underlying5 Tryz.underlying9 (fun w' hS' _ => ⟨b, oa, rfl, rd_u8s (hWa.st hS').at_⟩)) rfl <| WL.v (v_build rfl rfl zero_37 plc_37 rfl) rfl <| WL.storeW rfl rfl rfl rfl many_37 rfl rfl (.none rfl) rfl <| ?_
      refine WL.nt <| WC.ret <| WE.then_ret <| WE.ret1 (P := Tryz.prog) (.inl rfl) Tryz.results137 (resRow rfl many_37 rfl) <| ?_
      have e0 : takeD a.d all v = .inr (4, strOf all) := (by unfold takeD; rw [ht, Int.toNat_natCast, if_pos (by omega)])
      exact fun w' h => ⟨a, K, hA, rfl, rfl, rfl, .inr ⟨rfl, rfl⟩, h.sub (.cons _ (.refl _)), fun _ h => h, by rw [e0]; rfl⟩
     ·
      refine WL.val (v_pick_t rfl rfl rfl) (.some rfl rfl rfl) rfl rfl <| WL.v (v_pick_f rfl rfl rfl) rfl <| WL.nt <| WC.cond_f rfl <| WC.skip <| ?_
      exact WE.mid () (by omega) (.cons rfl (.cons rfl (.cons rfl (.cons rfl (.cons rfl .nil))))) (.refl _)
    ·
     refine WL.val (v_move rfl rfl) (.some rfl rfl rfl) rfl rfl ?_
     iterate 2 refine WL.sk rfl ?_
     refine WL.val (v_pick_f rfl rfl rfl) (.some rfl rfl rfl) rfl rfl <| WL.v (v_pick_f rfl rfl rfl) rfl <| WL.nt <| WC.cond_f rfl <| WC.skip <| ?_
     exact WE.mid () (by omega) (.cons rfl (.cons rfl (.cons rfl (.cons rfl (.cons rfl .nil))))) (.refl _)
  ·
   intro _ hfl
   refine WC.cut (fun _ : Unit => [(7, .int .i64 t), (0, .pointer (some ⟨ga, 0, none⟩)), (1, .slice (some ⟨b, oa, none⟩) all.length ca), (2, .slice (some ⟨b, ov, none⟩) v.length cv), (6, .pointer (some ⟨g6, 0, none⟩))]) (fun _ => .row g6 (fltL 0 0 ⟨#[]⟩) :: .row ga a.cells :: (K ++ L)) (fun _ => ¬ ((0 ≤ sizeI t ∧ (v.length : Int) ≠ sizeI t) ∨ (t = 8 ∧ v.length % 4 ≠ 0))) ?_ ?_
   ·
    refine WC.seq <| WC.region <| WL.v (v_move rfl rfl) rfl <| ?_
    refine WL.v (v_indexAddrA (lo := t) rfl rfl rfl Tryz.underlying179 sz_3 (by omega) (by omega)) rfl ?_
    refine WL.v (v_load1 rfl rfl one_3 (cellOld (v := .int .i64 (sizeI t)) (fun h => h) (by rw [Nat.zero_add, Nat.mul_one]; exact hZ t (by omega)))) rfl ?_
    refine WL.test (v_geq rfl rfl rfl) (.none rfl) rfl rfl (fun h40 => ?_) (fun h40 => ?_)
    ·
     refine WL.v (v_move rfl rfl) rfl <| WL.val (v_move rfl rfl) (.some rfl rfl rfl) rfl rfl <| WL.val (v_len_slice rfl rfl Tryz.underlying25) (.some rfl rfl rfl) rfl rfl <| WL.val (v_move rfl rfl) (.some rfl rfl rfl) rfl rfl <| ?_
     refine WL.val (v_indexAddrA (lo := t) rfl rfl rfl Tryz.underlying179 sz_3 (by omega) (by omega)) (.some rfl rfl rfl) rfl rfl ?_
     refine WL.val (v_load1 rfl rfl one_3 (cellOld (v := .int .i64 (sizeI t)) (fun h => h) (by rw [Nat.zero_add, Nat.mul_one]; exact hZ t (by omega)))) (.some rfl rfl rfl) rfl rfl ?_
     refine WL.test (v_neq rfl rfl rfl) (.some rfl rfl rfl) rfl rfl (fun h47 => ?_) (fun h47 => ?_)
     ·
      refine WL.v (v_pick_t rfl rfl rfl) rfl <| WL.v (v_move rfl rfl) rfl <| ?_
      iterate 8 refine WL.sk rfl ?_
      refine WL.v (v_pick_t rfl rfl rfl) rfl <| WL.nt <| WC.cond_t rfl <| WC.seq <| WC.region <| WL.v (v_move rfl rfl) rfl <| WL.v (v_convBS (fOf all) rfl rfl Tryz.underlying25 Tryz.underlying5 Tryz.underlying9 (fun w' hS' _ => ⟨b, oa, rfl, rd_u8s (hWa.st hS').at_⟩)) rfl <| WL.v (v_build rfl rfl zero_37 plc_37 rfl) rfl <| WL.storeW rfl rfl rfl rfl many_37 rfl rfl (.none rfl) rfl <| WL.nt <| ?_
      refine WC.ret <| WE.then_ret <| WE.ret1 (P := Tryz.prog) (.inl rfl) Tryz.results137 (resRow rfl many_37 rfl) <| ?_
      have e0 : takeD a.d all v = .inr (5, strOf all) := (by unfold takeD; rw [ht, Int.toNat_natCast, if_neg hfl, if_pos (by omega)])
      exact fun w' h => ⟨a, K, hA, rfl, rfl, rfl, .inr ⟨rfl, rfl⟩, h.sub (.cons _ (.refl _)), fun _ h => h, by rw [e0]; rfl⟩
     ·
      refine WL.v (v_pick_t rfl rfl rfl) rfl <| WL.v (v_move rfl rfl) rfl <| WL.val (v_move rfl rfl) (.some rfl rfl rfl) rfl rfl <| ?_
      refine WL.test (v_eql rfl rfl rfl) (.some rfl rfl rfl) rfl rfl (fun h51 => ?_) (fun h51 => ?_)
      ·
       refine WL.val (v_move rfl rfl) (.some rfl rfl rfl) rfl rfl <| WL.val (v_move rfl rfl) (.some rfl rfl rfl) rfl rfl <| WL.val (v_len_slice rfl rfl Tryz.underlying25) (.some rfl rfl rfl) rfl rfl <| ?_
       refine WL.val (v_rem rfl rfl rfl (by omega) (by omega)) (.some rfl rfl rfl) rfl rfl ?_
       refine WL.test (v_neq rfl rfl rfl) (.some rfl rfl rfl) rfl rfl (fun h56 => ?_) (fun h56 => ?_)
       ·
        refine WL.val (v_pick_t rfl rfl rfl) (.some rfl rfl rfl) rfl rfl <| WL.v (v_pick_f rfl rfl rfl) rfl <| WL.nt <| WC.cond_t rfl <| WC.seq <| WC.region <| WL.v (v_move rfl rfl) rfl <| WL.v (v_convBS (fOf all) rfl rfl Tryz.underlying25 Tryz.underlying5 Tryz.underlying9 (fun w' hS' _ => ⟨b, oa, rfl, rd_u8s (hWa.st hS').at_⟩)) rfl <| WL.v (v_build rfl rfl zero_37 plc_37 rfl) rfl <| WL.storeW rfl rfl rfl rfl many_37 rfl rfl (.none rfl) rfl <| ?_
        refine WL.nt <| WC.ret <| WE.then_ret <| WE.ret1 (P := Tryz.prog) (.inl rfl) Tryz.results137 (resRow rfl many_37 rfl) <| ?_
        have e0 : takeD a.d all v = .inr (5, strOf all) := (by unfold takeD; rw [ht, Int.toNat_natCast, if_neg hfl, if_pos (by omega)])
        exact fun w' h => ⟨a, K, hA, rfl, rfl, rfl, .inr ⟨rfl, rfl⟩, h.sub (.cons _ (.refl _)), fun _ h => h, by rw [e0]; rfl⟩
       ·
        refine WL.val (v_pick_t rfl rfl rfl) (.some rfl rfl rfl) rfl rfl <| WL.v (v_pick_f rfl rfl rfl) rfl <| WL.nt <| WC.cond_f rfl <| WC.skip <| ?_
        exact WE.mid () (by omega) (.cons rfl (.cons rfl (.cons rfl (.cons rfl (.cons rfl .nil))))) (.refl _)
      ·
       refine WL.val (v_move rfl rfl) (.some rfl rfl rfl) rfl rfl ?_
       iterate 4 refine WL.sk rfl ?_
       refine WL.val (v_pick_f rfl rfl rfl) (.some rfl rfl rfl) rfl rfl <| WL.v (v_pick_f rfl rfl rfl) rfl <| WL.nt <| WC.cond_f rfl <| WC.skip <| ?_
       exact WE.mid () (by omega) (.cons rfl (.cons rfl (.cons rfl (.cons rfl (.cons rfl .nil))))) (.refl _)
    ·
     refine WL.v (v_move rfl rfl) rfl ?_
     iterate 6 refine WL.sk rfl ?_
     refine WL.v (v_pick_f rfl rfl rfl) rfl <| WL.v (v_move rfl rfl) rfl <| WL.val (v_move rfl rfl) (.some rfl rfl rfl) rfl rfl <| ?_
     refine WL.test (v_eql rfl rfl rfl) (.some rfl rfl rfl) rfl rfl (fun h51 => ?_) (fun h51 => ?_)
     ·
      refine WL.val (v_move rfl rfl) (.some rfl rfl rfl) rfl rfl <| WL.val (v_move rfl rfl) (.some rfl rfl rfl) rfl rfl <| WL.val (v_len_slice rfl rfl Tryz.underlying25) (.some rfl rfl rfl) rfl rfl <| ?_
      refine WL.val (v_rem rfl rfl rfl (by omega) (by omega)) (.some rfl rfl rfl) rfl rfl ?_
      refine WL.test (v_neq rfl rfl rfl) (.some rfl rfl rfl) rfl rfl (fun h56 => ?_) (fun h56 => ?_)
      ·
       refine WL.val (v_pick_t rfl rfl rfl) (.some rfl rfl rfl) rfl rfl <| WL.v (v_pick_f rfl rfl rfl) rfl <| WL.nt <| WC.cond_t rfl <| WC.seq <| WC.region <| WL.v (v_move rfl rfl) rfl <| WL.v (v_convBS (fOf all) rfl rfl Tryz.underlying25 Tryz.underlying5 Tryz.underlying9 (fun w' hS' _ => ⟨b, oa, rfl, rd_u8s (hWa.st hS').at_⟩)) rfl <| WL.v (v_build rfl rfl zero_37 plc_37 rfl) rfl <| WL.storeW rfl rfl rfl rfl many_37 rfl rfl (.none rfl) rfl <| ?_
       refine WL.nt <| WC.ret <| WE.then_ret <| WE.ret1 (P := Tryz.prog) (.inl rfl) Tryz.results137 (resRow rfl many_37 rfl) <| ?_
       have e0 : takeD a.d all v = .inr (5, strOf all) := (by unfold takeD; rw [ht, Int.toNat_natCast, if_neg hfl, if_pos (by omega)])
       exact fun w' h => ⟨a, K, hA, rfl, rfl, rfl, .inr ⟨rfl, rfl⟩, h.sub (.cons _ (.refl _)), fun _ h => h, by rw [e0]; rfl⟩
      ·
       refine WL.val (v_pick_t rfl rfl rfl) (.some rfl rfl rfl) rfl rfl <| WL.v (v_pick_f rfl rfl rfl) rfl <| WL.nt <| WC.cond_f rfl <| WC.skip <| ?_
       exact WE.mid () (by omega) (.cons rfl (.cons rfl (.cons rfl (.cons rfl (.cons rfl .nil))))) (.refl _)
     ·
      refine WL.val (v_move rfl rfl) (.some rfl rfl rfl) rfl rfl ?_
      iterate 4 refine WL.sk rfl ?_
      refine WL.val (v_pick_f rfl rfl rfl) (.some rfl rfl rfl) rfl rfl <| WL.v (v_pick_f rfl rfl rfl) rfl <| WL.nt <| WC.cond_f rfl <| WC.skip <| ?_
      exact WE.mid () (by omega) (.cons rfl (.cons rfl (.cons rfl (.cons rfl (.cons rfl .nil))))) (.refl _)
   ·
    intro _ hsz
    refine WC.cut (fun _ : Unit => [(7, .int .i64 t), (0, .pointer (some ⟨ga, 0, none⟩)), (1, .slice (some ⟨b, oa, none⟩) all.length ca), (2, .slice (some ⟨b, ov, none⟩) v.length cv), (6, .pointer (some ⟨g6, 0, none⟩))]) (fun _ => .row g6 (fltL 0 0 ⟨#[]⟩) :: .row ga a.cells :: (K ++ L)) (fun _ => ¬ (t = 8 ∧ 256 < v.length / 4)) ?_ ?_
    ·
     refine WC.seq <| WC.region <| WL.v (v_move rfl rfl) rfl <| ?_
     refine WL.test (v_eql rfl rfl rfl) (.none rfl) rfl rfl (fun h63 => ?_) (fun h63 => ?_)
     ·
      refine WL.v (v_move rfl rfl) rfl <| WL.val (v_move rfl rfl) (.some rfl rfl rfl) rfl rfl <| WL.val (v_len_slice rfl rfl Tryz.underlying25) (.some rfl rfl rfl) rfl rfl <| ?_
      refine WL.val (v_quo rfl rfl rfl (by omega) (by omega) (w_i64 (by omega) (by omega))) (.some rfl rfl rfl) rfl rfl ?_
      refine WL.test (v_gtr rfl rfl rfl) (.some rfl rfl rfl) rfl rfl (fun h68 => ?_) (fun h68 => ?_)
      ·
       refine WL.v (v_pick_t rfl rfl rfl) rfl <| WL.nt <| WC.cond_t rfl <| WC.seq <| WC.region <| WL.v (v_move rfl rfl) rfl <| WL.v (v_convBS (fOf all) rfl rfl Tryz.underlying25 Tryz.underlying5 Tryz.underlying9 (fun w' hS' _ => ⟨b, oa, rfl, rd_u8s (hWa.st hS').at_⟩)) rfl <| WL.v (v_build rfl rfl zero_37 plc_37 rfl) rfl <| WL.storeW rfl rfl rfl rfl many_37 rfl rfl (.none rfl) rfl <| WL.nt <| ?_
       refine WC.ret <| WE.then_ret <| WE.ret1 (P := Tryz.prog) (.inl rfl) Tryz.results137 (resRow rfl many_37 rfl) <| ?_
       have e0 : takeD a.d all v = .inr (9, strOf all) := (by unfold takeD; rw [ht, Int.toNat_natCast, if_neg hfl, if_neg (by omega), if_pos (by omega)])
       exact fun w' h => ⟨a, K, hA, rfl, rfl, rfl, .inr ⟨rfl, rfl⟩, h.sub (.cons _ (.refl _)), fun _ h => h, by rw [e0]; rfl⟩
      ·
       refine WL.v (v_pick_t rfl rfl rfl) rfl <| WL.nt <| WC.cond_f rfl <| WC.skip <| ?_
       exact WE.mid () (by omega) (.cons rfl (.cons rfl (.cons rfl (.cons rfl (.cons rfl .nil))))) (.refl _)
     ·
      refine WL.v (v_move rfl rfl) rfl ?_
      iterate 4 refine WL.sk rfl ?_
      refine WL.v (v_pick_f rfl rfl rfl) rfl <| WL.nt <| WC.cond_f rfl <| WC.skip <| ?_
      exact WE.mid () (by omega) (.cons rfl (.cons rfl (.cons rfl (.cons rfl (.cons rfl .nil))))) (.refl _)
    ·
     intro _ hmc
     refine WC.to (L' := .row ga a.cells :: (K ++ (.row g6 (fltL 0 0 ⟨#[]⟩) :: L))) (fun w hS => St.front (R := .row ga a.cells :: K) (L := L) [.row g6 (fltL 0 0 ⟨#[]⟩)] hS) <| WC.seq <| WC.seq <| WC.region <| WL.v (v_move rfl rfl) rfl <| WL.v (v_move rfl rfl) rfl <| WL.v (v_move rfl rfl) rfl <| WL.call rfl rfl ck_143 (.none rfl) rfl rfl <| ?_
     intro w1 hS
     refine (set_c w0 w1 ga b ov cv v a t K (.row g6 (fltL 0 0 ⟨#[]⟩) :: L) hWv hnv hA hS (fun e => by subst e; unfold sizeI at hsz; simp at hsz; omega) (fun e => by rcases e with rfl | rfl | rfl <;> (unfold sizeI at hsz; simp at hsz; omega)) (fun e => by subst e; unfold sizeI at hsz; simp at hsz; omega) (fun e => ⟨by omega, h8 e⟩)).mono ?_
     rintro e w' ⟨a', K', ok, rfl, hA', hq1, hq2, hq3, hq4, hS', hKK, hD⟩
     have hq4' : fOf all 1 = 8 ∨ (a'.cad = a.cad ∧ a'.cc = a.cc) := hq4.imp (fun h => by omega) id
     refine ⟨_, _, rfl, hS', ?_⟩
     skip
     cases ok
     ·
      refine WL.v (v_not rfl rfl rfl) rfl <| WL.nt <| WC.cond_t rfl <| WC.seq <| WC.region <| WL.v (v_build rfl rfl zero_37 plc_37 rfl) rfl <| WL.storeW rfl rfl rfl rfl many_37 rfl rfl (.none rfl) rfl <| WL.nt <| WC.ret <| WE.then_ret <| ?_
      refine WE.ret1 (P := Tryz.prog) (.inl rfl) Tryz.results137 (resRow rfl many_37 rfl) ?_
      have e0 : takeD a.d all v = .inr (11, ⟨#[]⟩) := (by
        unfold takeD
        rw [ht, Int.toNat_natCast, if_neg hfl, if_neg (by omega), if_neg (by omega)]
        cases hs : setD a.d t v with
        | none => rfl
        | some d' =>
          rw [hs] at hD
          obtain ⟨hd, hok⟩ := hD
          by_cases h2 : t = 2
          · rw [if_pos h2] at hok
            show (if _ then _ else _) = _
            rw [if_pos ⟨by omega, by rw [← hd]; show ((a'.path.map segD).all _) = _; rw [path_all]; exact hok.symm⟩]
          · rw [if_neg h2] at hok; cases hok)
      exact fun w' h => ⟨a', K', hA', hq1, hq2, hq3, hq4', h.sub (.cons_cons _ (List.Sublist.append_left (.cons _ (.refl _)) _)), hKK, by rw [e0]; rfl⟩
     ·
      refine WL.v (v_not rfl rfl rfl) rfl <| WL.nt <| WC.cond_f rfl <| WC.skip <| WE.then_n <| WC.seq <| WC.seq <| WC.region <| ?_
      obtain ⟨d', hs, hd, hgp⟩ : ∃ d', setD a.d t v = some d' ∧ a'.d = d' ∧ (t = 2 → a'.path.all segB = true) := (by
        cases hs : setD a.d t v with
        | none => rw [hs] at hD; cases hD
        | some d' =>
          rw [hs] at hD
          exact ⟨d', rfl, hD.1, fun e => by rw [if_pos e] at hD; exact hD.2.symm⟩)
      have e1 : takeD a.d all v = if t = 1 ∧ wiB a'.origin 2 = false then .inr (6, strOf all) else if t = 3 ∧ hopB a'.hop = false then .inr (8, strOf all) else .inl { a'.d with has := a.has + 2 ^ t } := (by
        unfold takeD
        rw [ht, Int.toNat_natCast, if_neg hfl, if_neg (by omega), if_neg (by omega), hs]
        show (if _ then _ else _) = _
        rw [if_neg (by
          rintro ⟨h2, h3⟩
          rw [← hd] at h3
          have h4 : ((a'.path.map segD).all fun p => segB ⟨p.1, none, 0, p.2⟩) = false := h3
          rw [path_all, hgp (by omega)] at h4
          cases h4), (setD_keep hs).1, ← hd]
        exact ite_congr (propext (by constructor <;> (rintro ⟨h1, h2⟩; exact ⟨by omega, h2⟩))) (fun _ => rfl) (fun _ => ite_congr (propext (by constructor <;> (rintro ⟨h1, h2⟩; exact ⟨by omega, h2⟩))) (fun _ => rfl) (fun _ => rfl)))
      have hhas : a'.has = a.has := (by have := (setD_keep hs).1; rw [← hd] at this; exact this)
      refine WL.v (v_move rfl rfl) rfl ?_
      refine WL.test (v_eql rfl rfl rfl) (.none rfl) rfl rfl (fun h80 => ?_) (fun h80 => ?_)
      ·
       refine WL.v (v_move rfl rfl) rfl ?_
       obtain rfl : t = 1 := (by omega)
       refine WL.val (v_move rfl rfl) (.some rfl rfl rfl) rfl rfl <| WL.val (v_nilCheck rfl rfl) (.some rfl rfl rfl) rfl rfl <| WL.val (v_loadN rfl rfl many_35 rfl (segAt (m := 10) rfl)) (.some rfl rfl rfl) rfl rfl <| WL.val (v_move rfl rfl) (.some rfl rfl rfl) rfl rfl <| WL.call rfl rfl ck_122 (.some rfl rfl rfl) rfl rfl <| ?_
       intro w hS
       refine Calls.then (good_1 w a') hS ?_
       generalize hg : wiB a'.origin 2 = bg
       cases bg
       ·
        refine WL.val (v_not rfl rfl rfl) (.some rfl rfl rfl) rfl rfl <| WL.v (v_pick_t rfl rfl rfl) rfl <| WL.nt <| WC.cond_t rfl <| WC.seq <| WC.region <| WL.v (v_move rfl rfl) rfl <| WL.v (v_convBS (fOf all) rfl rfl Tryz.underlying25 Tryz.underlying5 Tryz.underlying9 (fun w' hS' _ => ⟨b, oa, rfl, rd_u8s (hWa.st hS').at_⟩)) rfl <| WL.v (v_build rfl rfl zero_37 plc_37 rfl) rfl <| WL.storeW rfl rfl rfl rfl many_37 rfl rfl (.none rfl) rfl <| ?_
        refine WL.nt <| WC.ret <| WE.then_ret <| WE.ret1 (P := Tryz.prog) (.inl rfl) Tryz.results137 (resRow rfl many_37 rfl) <| ?_
        rw [if_pos ⟨rfl, hg⟩] at e1
        exact fun w' h => ⟨a', K', hA', hq1, hq2, hq3, hq4', h.sub (.cons_cons _ (List.Sublist.append_left (.cons _ (.refl _)) _)), hKK, by rw [e1]; rfl⟩
       ·
        refine WL.val (v_not rfl rfl rfl) (.some rfl rfl rfl) rfl rfl <| WL.v (v_pick_t rfl rfl rfl) rfl <| WL.nt <| WC.cond_f rfl <| WC.skip <| WE.then_n <| WC.seq <| WC.seq <| WC.region <| WL.v (v_move rfl rfl) rfl <| ?_
        refine WL.v ((v_eql rfl rfl rfl).f (by omega)) rfl ?_
        refine WL.v (v_move rfl rfl) rfl ?_
        iterate 6 refine WL.sk rfl ?_
        refine WL.v (v_pick_f rfl rfl rfl) rfl <| WL.nt <| WC.cond_f rfl <| WC.skip <| WE.then_n <| WC.seq <| WC.orders mixed <| ?_
        refine WR.first (g := 5) [0, 1, 2, 4, 5] (by kernel_rfl) (by kernel_rfl) ?_
        rw [if_neg (by rintro ⟨_, h⟩; rw [hg] at h; cases h), if_neg (by omega)] at e1
        have hpw := pow2_9 _ ht8
        refine WP.val (v_move rfl rfl) (.none rfl) rfl rfl <| WP.val (v_nilCheck rfl rfl) (.none rfl) rfl rfl <| WP.val (v_fieldAddr0 rfl rfl fld_35_0) (.none rfl) rfl rfl <| WP.val (v_move rfl rfl) (.none rfl) rfl rfl <| ?_
        refine WP.val (v_shl (m := 1) (c := (2 : Int) ^ 1) rfl rfl rfl rfl (by decide) rfl (show _ = (2 : Int) ^ 1 from by decide)) (.none rfl) rfl rfl ?_
        refine WP.nil ?_
        refine WR.read (g := 1) [3, 6, 7, 8] (by kernel_rfl) (by kernel_rfl) (by kernel_rfl) (by kernel_rfl) rfl ?_
        refine WQ.val (v_load1 rfl rfl one_3 (cellAt rfl)) (.none rfl) rfl rfl ?_
        refine WQ.val (v_or rfl rfl rfl (show _ = a.has + 2 ^ 1 from by rw [hhas]; exact or_has hh0 hh1 ht8 hb)) (.none rfl) rfl rfl ?_
        refine WQ.val (v_nilCheck rfl rfl) (.none rfl) rfl rfl <| WQ.val (v_fieldAddr0 rfl rfl fld_35_0) (.none rfl) rfl rfl <| WQ.nilR <| ?_
        refine WR.ones (g := 0) [9] (by kernel_rfl) ?_
        refine WL.store1 rfl rfl rfl rfl one_3 (Nat.le_of_ble_eq_true rfl) (.none rfl) rfl <| WL.as (L' := .row ga (AtL.cells { a' with has := a.has + 2 ^ 1 }) :: (K' ++ (.row g6 (fltL 0 0 ⟨#[]⟩) :: L))) rfl <| WL.nilR <| ?_
        refine WR.done (by kernel_rfl) ?_
        refine WE.then_n <| WC.seq <| WC.region <| WL.v (v_build rfl rfl zero_37 plc_37 rfl) rfl <| WL.storeW rfl rfl rfl rfl many_37 rfl rfl (.none rfl) rfl <| WL.nt <| WC.ret <| WE.ret1 (P := Tryz.prog) (.inl rfl) Tryz.results137 (resRow rfl many_37 rfl) <| ?_
        exact fun w' h => ⟨{ a' with has := a.has + 2 ^ 1 }, K', ⟨hA'.path, hA'.segs, hA'.comms⟩, hq1, hq2, hq3, hq4', h.sub (.cons_cons _ (List.Sublist.append_left (.cons _ (.refl _)) _)), hKK, by rw [e1]; exact ⟨rfl, rfl⟩⟩
      ·
       refine WL.v (v_move rfl rfl) rfl ?_
       iterate 6 refine WL.sk rfl ?_
       refine WL.v (v_pick_f rfl rfl rfl) rfl <| WL.nt <| WC.cond_f rfl <| WC.skip <| WE.then_n <| WC.seq <| WC.seq <| WC.region <| WL.v (v_move rfl rfl) rfl <| ?_
       refine WL.test (v_eql rfl rfl rfl) (.none rfl) rfl rfl (fun h93 => ?_) (fun h93 => ?_)
       ·
        refine WL.v (v_move rfl rfl) rfl ?_
        obtain rfl : t = 3 := (by omega)
        refine WL.val (v_move rfl rfl) (.some rfl rfl rfl) rfl rfl <| WL.val (v_nilCheck rfl rfl) (.some rfl rfl rfl) rfl rfl <| WL.val (v_loadN rfl rfl many_35 rfl (segAt (m := 10) rfl)) (.some rfl rfl rfl) rfl rfl <| WL.val (v_move rfl rfl) (.some rfl rfl rfl) rfl rfl <| WL.call rfl rfl ck_122 (.some rfl rfl rfl) rfl rfl <| ?_
        intro w hS
        refine Calls.then (good_3 w a') hS ?_
        generalize hg3 : hopB a'.hop = bg3
        cases bg3
        ·
         refine WL.val (v_not rfl rfl rfl) (.some rfl rfl rfl) rfl rfl <| WL.v (v_pick_t rfl rfl rfl) rfl <| WL.nt <| WC.cond_t rfl <| WC.seq <| WC.region <| WL.v (v_move rfl rfl) rfl <| WL.v (v_convBS (fOf all) rfl rfl Tryz.underlying25 Tryz.underlying5 Tryz.underlying9 (fun w' hS' _ => ⟨b, oa, rfl, rd_u8s (hWa.st hS').at_⟩)) rfl <| WL.v (v_build rfl rfl zero_37 plc_37 rfl) rfl <| WL.storeW rfl rfl rfl rfl many_37 rfl rfl (.none rfl) rfl <| ?_
         refine WL.nt <| WC.ret <| WE.then_ret <| WE.ret1 (P := Tryz.prog) (.inl rfl) Tryz.results137 (resRow rfl many_37 rfl) <| ?_
         rw [if_neg (by omega), if_pos ⟨rfl, hg3⟩] at e1
         exact fun w' h => ⟨a', K', hA', hq1, hq2, hq3, hq4', h.sub (.cons_cons _ (List.Sublist.append_left (.cons _ (.refl _)) _)), hKK, by rw [e1]; rfl⟩
        ·
         refine WL.val (v_not rfl rfl rfl) (.some rfl rfl rfl) rfl rfl <| WL.v (v_pick_t rfl rfl rfl) rfl <| WL.nt <| WC.cond_f rfl <| WC.skip <| WE.then_n <| WC.seq <| WC.orders mixed <| ?_
         refine WR.first (g := 5) [0, 1, 2, 4, 5] (by kernel_rfl) (by kernel_rfl) ?_
         rw [if_neg (by omega), if_neg (by rintro ⟨_, h⟩; rw [hg3] at h; cases h)] at e1
         have hpw := pow2_9 _ ht8
         refine WP.val (v_move rfl rfl) (.none rfl) rfl rfl <| WP.val (v_nilCheck rfl rfl) (.none rfl) rfl rfl <| WP.val (v_fieldAddr0 rfl rfl fld_35_0) (.none rfl) rfl rfl <| WP.val (v_move rfl rfl) (.none rfl) rfl rfl <| ?_
         refine WP.val (v_shl (m := 3) (c := (2 : Int) ^ 3) rfl rfl rfl rfl (by decide) rfl (show _ = (2 : Int) ^ 3 from by decide)) (.none rfl) rfl rfl ?_
         refine WP.nil ?_
         refine WR.read (g := 1) [3, 6, 7, 8] (by kernel_rfl) (by kernel_rfl) (by kernel_rfl) (by kernel_rfl) rfl ?_
         refine WQ.val (v_load1 rfl rfl one_3 (cellAt rfl)) (.none rfl) rfl rfl ?_
         refine WQ.val (v_or rfl rfl rfl (show _ = a.has + 2 ^ 3 from by rw [hhas]; exact or_has hh0 hh1 ht8 hb)) (.none rfl) rfl rfl ?_
         refine WQ.val (v_nilCheck rfl rfl) (.none rfl) rfl rfl <| WQ.val (v_fieldAddr0 rfl rfl fld_35_0) (.none rfl) rfl rfl <| WQ.nilR <| ?_
         refine WR.ones (g := 0) [9] (by kernel_rfl) ?_
         refine WL.store1 rfl rfl rfl rfl one_3 (Nat.le_of_ble_eq_true rfl) (.none rfl) rfl <| WL.as (L' := .row ga (AtL.cells { a' with has := a.has + 2 ^ 3 }) :: (K' ++ (.row g6 (fltL 0 0 ⟨#[]⟩) :: L))) rfl <| WL.nilR <| ?_
         refine WR.done (by kernel_rfl) ?_
         refine WE.then_n <| WC.seq <| WC.region <| WL.v (v_build rfl rfl zero_37 plc_37 rfl) rfl <| WL.storeW rfl rfl rfl rfl many_37 rfl rfl (.none rfl) rfl <| WL.nt <| WC.ret <| WE.ret1 (P := Tryz.prog) (.inl rfl) Tryz.results137 (resRow rfl many_37 rfl) <| ?_
         exact fun w' h => ⟨{ a' with has := a.has + 2 ^ 3 }, K', ⟨hA'.path, hA'.segs, hA'.comms⟩, hq1, hq2, hq3, hq4', h.sub (.cons_cons _ (List.Sublist.append_left (.cons _ (.refl _)) _)), hKK, by rw [e1]; exact ⟨rfl, rfl⟩⟩
       ·
        refine WL.v (v_move rfl rfl) rfl ?_
        iterate 6 refine WL.sk rfl ?_
        refine WL.v (v_pick_f rfl rfl rfl) rfl <| WL.nt <| WC.cond_f rfl <| WC.skip <| WE.then_n <| WC.seq <| WC.orders mixed <| ?_
        refine WR.first (g := 5) [0, 1, 2, 4, 5] (by kernel_rfl) (by kernel_rfl) ?_
        rw [if_neg (by omega), if_neg (by omega)] at e1
        have hpw := pow2_9 _ ht8
        refine WP.val (v_move rfl rfl) (.none rfl) rfl rfl <| WP.val (v_nilCheck rfl rfl) (.none rfl) rfl rfl <| WP.val (v_fieldAddr0 rfl rfl fld_35_0) (.none rfl) rfl rfl <| WP.val (v_move rfl rfl) (.none rfl) rfl rfl <| ?_
        refine WP.val ((v_shl (m := t) (c := (2 : Int) ^ t) rfl rfl rfl rfl (by show t ≤ 64; omega) rfl (show _ = (2 : Int) ^ t from by rw [Int.one_mul]; exact w_i64 (by omega) (by omega)))) (.none rfl) rfl rfl ?_
        refine WP.nil ?_
        refine WR.read (g := 1) [3, 6, 7, 8] (by kernel_rfl) (by kernel_rfl) (by kernel_rfl) (by kernel_rfl) rfl ?_
        refine WQ.val (v_load1 rfl rfl one_3 (cellAt rfl)) (.none rfl) rfl rfl ?_
        refine WQ.val (v_or rfl rfl rfl (show _ = a.has + 2 ^ t from by rw [hhas]; exact or_has hh0 hh1 ht8 hb)) (.none rfl) rfl rfl ?_
        refine WQ.val (v_nilCheck rfl rfl) (.none rfl) rfl rfl <| WQ.val (v_fieldAddr0 rfl rfl fld_35_0) (.none rfl) rfl rfl <| WQ.nilR <| ?_
        refine WR.ones (g := 0) [9] (by kernel_rfl) ?_
        refine WL.store1 rfl rfl rfl rfl one_3 (Nat.le_of_ble_eq_true rfl) (.none rfl) rfl <| WL.as (L' := .row ga (AtL.cells { a' with has := a.has + 2 ^ t }) :: (K' ++ (.row g6 (fltL 0 0 ⟨#[]⟩) :: L))) rfl <| WL.nilR <| ?_
        refine WR.done (by kernel_rfl) ?_
        refine WE.then_n <| WC.seq <| WC.region <| WL.v (v_build rfl rfl zero_37 plc_37 rfl) rfl <| WL.storeW rfl rfl rfl rfl many_37 rfl rfl (.none rfl) rfl <| WL.nt <| WC.ret <| WE.ret1 (P := Tryz.prog) (.inl rfl) Tryz.results137 (resRow rfl many_37 rfl) <| ?_
        exact fun w' h => ⟨{ a' with has := a.has + 2 ^ t }, K', ⟨hA'.path, hA'.segs, hA'.comms⟩, hq1, hq2, hq3, hq4', h.sub (.cons_cons _ (List.Sublist.append_left (.cons _ (.refl _)) _)), hKK, by rw [e1]; exact ⟨rfl, rfl⟩⟩
end Go.Proofs.YtcmpamnhegndnaaGreatDoor
/- attr: an attribute that isn't known taken in; slices.Clone of bytes. -/
namespace Go.Proofs.YtcmpamnhegndnaaGreatDoor
open Go.RowKit

set_option maxHeartbeats 1000000 in
theorem CloneB_c (w : World) (b o c : Nat) (v : List Int) (hW : Win w b o c v) (hn : v.length ≤ 1000000) :
    Calls Tryz.prog 86 #[.slice (some ⟨b, o, none⟩) v.length c] w fun e w' => ∃ x, e = .returned x ∧ OwnB w w' v x := by
  refine enter Tryz.func86 rfl Tryz.ntmps86 rfl (St.start (fun _ => False) w) ?_
  refine WC.seq <| WC.region <| WL.v (v_assign rfl rfl) rfl <| WL.nt <| WC.seq <| WC.seq <| WC.region <| WL.v (v_move rfl rfl) rfl <| WL.v (v_eql_nil false rfl rfl Tryz.underlying25 rfl) rfl <| WL.nt <| ?_
  refine WC.cond_f rfl <| WC.skip <| WE.then_n <| WC.seq <| WC.region <| ?_
  refine WL.buildSlice rfl rfl Tryz.underlying25 sz_5 zero_5 rfl (by decide) rfl (.none rfl) rfl rfl ?_
  intro g5 hg5
  refine WL.v (v_move rfl rfl) rfl ?_
  refine WL.appendL rfl rfl rfl Tryz.underlying25 Tryz.underlying25 sz_5 by_5 zero_5 rfl rfl (E := [.row g5 []]) (Vec.row (k := 0) (s := 1) (c := 0) rfl rfl (by omega)) (new := u8s v) (fun h => ⟨b, o, rfl, fun w hS' => hS'.rng (fun _ h => h) _ _ _ hW.at_⟩) (by rw [u8s_len]; omega) (u8s_one _) (by omega) (.none rfl) rfl rfl ?_
  intro ad7 c7 E7 hV7 hr7
  refine WL.v (v_assign rfl rfl) rfl <| WL.nt <| WC.ret <| WE.ret1 (P := Tryz.prog) (.inl rfl) Tryz.results86 rfl <| ?_
  exact fun w' h => ⟨_, rfl, ad7, c7, E7, by rw [Nat.zero_add], by simpa using hV7, h.sub (List.sublist_append_left _ _)⟩
def othsL (os : List OthL) : List Value := os.flatMap OthL.cells
theorem othsL_snoc (os : List OthL) (o : OthL) : othsL (os ++ [o]) = othsL os ++ o.cells := by unfold othsL; rw [List.flatMap_append, List.flatMap_cons, List.flatMap_nil, List.append_nil]
def OthOwn (K : List Ent) (o : OthL) : Prop := ∃ E, BV o.ad o.cap o.val E ∧ ∀ e ∈ E, e ∈ K
/-- An unknown attribute. -/
def otherD (d : AtD) (all v : List Int) : AtD ⊕ (Int × ByteArray) :=
  if fOf all 0 / 128 % 2 = 0 then .inr (2, strOf all)
  else if fOf all 0 / 64 % 2 ≠ 0 ∧ fOf all 1 ≠ 0 then .inl { d with others := d.others ++ [(fOf all 1, v)] } else .inl d
def OtherP (w0 w' : World) (ga : Nat) (a : AtL) (all v : List Int) (L : List Ent) (e : Ending) : Prop :=
  ∃ ad oc os E' K, Vec 2 ad os.length oc (othsL os) E' ∧ os.length ≤ a.others.length + 1 ∧ (∀ KO, (∀ o ∈ a.others, OthOwn KO o) → ∀ o ∈ os, OthOwn (K ++ KO) o) ∧ St (fun _ => False) w0 w' (E' ++ (K ++ (.row ga (AtL.cells { a with oad := ad, oc := oc, others := os }) :: L))) ∧
    (match otherD a.d all v with | .inr (s, d) => e = .returned (.agg (fltL 3 s d).toArray) | .inl d => e = .returned (.agg (fltL 0 0 ⟨#[]⟩).toArray) ∧ AtL.d { a with oad := ad, oc := oc, others := os } = d)
set_option maxHeartbeats 4000000 in
theorem other_c (w0 w1 : World) (ga b oa ca ov cv : Nat) (all v : List Int) (a : AtL) (E L : List Ent) (hWa : Win w0 b oa ca all) (hWv : Win w0 b ov cv v) (hn : all.length ≤ 100000) (hnv : v.length ≤ 100000) (h2 : 2 ≤ all.length)
    (hV : Vec 2 a.oad a.others.length a.oc (othsL a.others) E) (hol : a.others.length ≤ 100000) (hS0 : St (fun _ => False) w0 w1 (E ++ (.row ga a.cells :: L))) :
    Calls Tryz.prog 138 #[.pointer (some ⟨ga, 0, none⟩), .slice (some ⟨b, oa, none⟩) all.length ca, .slice (some ⟨b, ov, none⟩) v.length cv] w1 fun e w' => OtherP w0 w' ga a all v L e := by
  have b0 := fOf_b hWa.bys 0
  have b1 := fOf_b hWa.bys 1
  have hab := and_byte b0
  refine enter Tryz.func138 rfl Tryz.ntmps138 rfl hS0 ?_
  refine WC.seq <| WC.region <| WL.alloc rfl zero_37 (.none rfl) rfl rfl <| ?_
  intro g6 hg6
  refine WL.nt <| WC.seq <| WC.region <| WL.v (v_move rfl rfl) rfl <| ?_
  refine WL.v (v_indexAddr (lo := 1) rfl rfl rfl Tryz.underlying25 sz_5 rfl (by omega)) rfl ?_
  refine WL.v (v_load1 rfl rfl one_5 (cellOld (fun h => h) (hWa.get (fOf_get (by omega))))) rfl ?_
  refine WL.v (v_conv rfl rfl Tryz.underlying3 Tryz.underlying5 (w_i64 (by omega) (by omega))) rfl ?_
  refine WL.v (v_assign rfl rfl) rfl <| WL.nt <| WC.seq <| WC.seq <| WC.region <| WL.v (v_move rfl rfl) rfl <| ?_
  refine WL.v (v_indexAddr (lo := 0) rfl rfl rfl Tryz.underlying25 sz_5 rfl (by omega)) rfl ?_
  refine WL.v (v_load1 rfl rfl one_5 (cellOld (fun h => h) (hWa.get (fOf_get (by omega))))) rfl ?_
  refine WL.v (v_and rfl rfl rfl (hab.2.2.1)) rfl ?_
  refine WL.test (v_eql rfl rfl rfl) (.none rfl) rfl rfl (fun h16 => ?_) (fun h16 => ?_)
  ·
   refine WL.nt <| WC.cond_t rfl <| WC.seq <| WC.region <| WL.v (v_move rfl rfl) rfl <| WL.v (v_convBS (fOf all) rfl rfl Tryz.underlying25 Tryz.underlying5 Tryz.underlying9 (fun w' hS' _ => ⟨b, oa, rfl, rd_u8s (hWa.st hS').at_⟩)) rfl <| WL.v (v_build rfl rfl zero_37 plc_37 rfl) rfl <| WL.storeW rfl rfl rfl rfl many_37 rfl rfl (.none rfl) rfl <| WL.nt <| WC.ret <| ?_
   refine WE.then_ret <| WE.ret1 (P := Tryz.prog) (.inl rfl) Tryz.results138 (resRow rfl many_37 rfl) <| ?_
   have e0 : otherD a.d all v = .inr (2, strOf all) := (by unfold otherD; rw [if_pos (by omega)])
   exact fun w' h => ⟨a.oad, a.oc, a.others, E, [], hV, Nat.le_succ _, fun KO h => h, h.sub (.cons _ (.refl _)), by rw [e0]; rfl⟩
  ·
   refine WL.nt <| WC.cond_f rfl <| WC.skip <| WE.then_n <| WC.seq <| WC.seq <| WC.region <| WL.v (v_move rfl rfl) rfl <| ?_
   refine WL.v (v_indexAddr (lo := 0) rfl rfl rfl Tryz.underlying25 sz_5 rfl (by omega)) rfl ?_
   refine WL.v (v_load1 rfl rfl one_5 (cellOld (fun h => h) (hWa.get (fOf_get (by omega))))) rfl ?_
   refine WL.v (v_and rfl rfl rfl (hab.2.1)) rfl ?_
   refine WL.test (v_neq rfl rfl rfl) (.none rfl) rfl rfl (fun h24 => ?_) (fun h24 => ?_)
   ·
    refine WL.v (v_move rfl rfl) rfl <| WL.val (v_move rfl rfl) (.some rfl rfl rfl) rfl rfl <| ?_
    refine WL.test (v_neq rfl rfl rfl) (.some rfl rfl rfl) rfl rfl (fun h27 => ?_) (fun h27 => ?_)
    ·
     refine WL.v (v_pick_t rfl rfl rfl) rfl <| WL.nt <| WC.cond_t rfl <| WC.orders mixed <| ?_
     refine WR.first (g := 8) [0, 1, 2, 3, 5, 6] (by kernel_rfl) (by kernel_rfl) ?_
     refine WP.val (v_move rfl rfl) (.none rfl) rfl rfl <| WP.val (v_move rfl rfl) (.none rfl) rfl rfl <| WP.val (v_nilCheck rfl rfl) (.none rfl) rfl rfl <| WP.val (v_fieldAddr0 rfl rfl fld_35_9) (.none rfl) rfl rfl <| WP.val (v_move rfl rfl) (.none rfl) rfl rfl <| WP.val (v_move rfl rfl) (.none rfl) rfl rfl <| WP.nil <| ?_
     refine WR.each (g := 7) [4, 7] (by kernel_rfl) (by decide) ?_
     refine ⟨?_, ?_⟩
     ·
      refine WL.v (v_load1 rfl rfl one_33 (cellAt rfl)) rfl <| WL.nilR <| ?_
      refine WR.ones (g := 6) [7] (by kernel_rfl) ?_
      refine WL.call rfl rfl ck_86 (.none rfl) rfl rfl ?_
      intro w1 hS
      refine (CloneB_c w1 b ov cv v (hWv.st hS) (by omega)).mono ?_
      rintro e w' ⟨_, rfl, ad36, c36, E36, rfl, hV36, hS'⟩
      refine ⟨_, _, rfl, hS.join hS', ?_⟩
      refine WL.nilR ?_
      refine WR.first (g := 5) [8] (by kernel_rfl) (by kernel_rfl) ?_
      refine WP.val (v_build rfl rfl zero_181 plc_181 rfl) (.none rfl) rfl rfl <| WP.nil <| ?_
      refine WR.ones (g := 3) [9, 10] (by kernel_rfl) ?_
      refine WL.buildSlice rfl rfl Tryz.underlying33 sz_181 zero_181 rfl (by decide) rfl (.none rfl) rfl rfl ?_
      intro g38 hg38
      refine WL.as (L' := .row g38 (OthL.cells ⟨fOf all 1, ad36, c36, v⟩) :: (E36 ++ (.row g6 (fltL 0 0 ⟨#[]⟩) :: (E ++ (.row ga a.cells :: L))))) rfl ?_
      refine WL.to (L' := E ++ (.row g38 (OthL.cells ⟨fOf all 1, ad36, c36, v⟩) :: (E36 ++ (.row g6 (fltL 0 0 ⟨#[]⟩) :: .row ga a.cells :: L)))) (fun w hS => by
        have := St.front (R := E) (L := .row ga a.cells :: L) (.row g38 (OthL.cells ⟨fOf all 1, ad36, c36, v⟩) :: (E36 ++ [.row g6 (fltL 0 0 ⟨#[]⟩)])) (by simpa only [List.cons_append, List.append_assoc, List.nil_append] using hS)
        simpa only [List.cons_append, List.append_assoc, List.nil_append] using this) ?_
      refine WL.appendL rfl rfl rfl Tryz.underlying33 Tryz.underlying33 sz_181 by_181 zero_181 rfl rfl hV (new := OthL.cells ⟨fOf all 1, ad36, c36, v⟩) (fun _ => ⟨g38, 0, rfl, fun w hS => allAt (g := g38) w hS⟩) rfl rfl (by omega) (.none rfl) rfl rfl ?_
      intro ad39 c39 E39 hV39 hr39
      rw [← othsL_snoc] at hV39
      rw [show a.others.length + 1 = (a.others ++ [(⟨fOf all 1, ad36, c36, v⟩ : OthL)]).length by rw [List.length_append]; rfl] at hV39 ⊢
      refine WL.nilR ?_
      refine WR.first (g := 1) [11, 12] (by kernel_rfl) (by kernel_rfl) ?_
      refine WP.val (v_nilCheck rfl rfl) (.none rfl) rfl rfl <| WP.val (v_fieldAddr0 rfl rfl fld_35_9) (.none rfl) rfl rfl <| WP.nil <| ?_
      refine WR.ones (g := 0) [13] (by kernel_rfl) ?_
      refine WL.store1 rfl rfl rfl rfl one_33 (Nat.le_of_ble_eq_true rfl) (.none rfl) rfl <| WL.as (L' := E39 ++ (.row g38 (OthL.cells ⟨fOf all 1, ad36, c36, v⟩) :: (E36 ++ (.row g6 (fltL 0 0 ⟨#[]⟩) :: .row ga (AtL.cells { a with oad := ad39, oc := c39, others := a.others ++ [⟨fOf all 1, ad36, c36, v⟩] }) :: L)))) rfl <| WL.nilR <| ?_
      refine WR.done (by kernel_rfl) ?_
      refine WE.then_n <| WC.seq <| WC.region <| WL.v (v_build rfl rfl zero_37 plc_37 rfl) rfl <| WL.storeW rfl rfl rfl rfl many_37 rfl rfl (.none rfl) rfl <| WL.nt <| WC.ret <| WE.ret1 (P := Tryz.prog) (.inl rfl) Tryz.results138 (resRow rfl many_37 rfl) <| ?_
      have e0 : otherD a.d all v = .inl { a.d with others := a.d.others ++ [(fOf all 1, v)] } := (by unfold otherD; rw [if_neg (by omega), if_pos ⟨by omega, by omega⟩])
      refine fun w' h => ⟨ad39, c39, a.others ++ [⟨fOf all 1, ad36, c36, v⟩], E39, E36, hV39, by rw [List.length_append]; exact Nat.le_refl _, ?_, h.sub (List.Sublist.append_left (.cons _ (List.Sublist.append_left (.cons _ (.refl _)) _)) _), ?_⟩
      · intro KO hK o ho
        rcases List.mem_append.1 ho with ho | ho
        · obtain ⟨E', r1, r2⟩ := hK o ho
          exact ⟨E', r1, fun e he => List.mem_append_right _ (r2 e he)⟩
        · rcases List.mem_cons.1 ho with rfl | ho
          · exact ⟨E36, hV36, fun e he => List.mem_append_left _ he⟩
          · cases ho
      · rw [e0]
        refine ⟨rfl, ?_⟩
        show AtD.mk _ _ _ _ _ _ _ _ _ (List.map othD (a.others ++ [⟨fOf all 1, ad36, c36, v⟩])) = _
        rw [List.map_append]
        rfl
     ·
      refine WL.call rfl rfl ck_86 (.none rfl) rfl rfl ?_
      intro w1 hS
      refine (CloneB_c w1 b ov cv v (hWv.st hS) (by omega)).mono ?_
      rintro e w' ⟨_, rfl, ad36, c36, E36, rfl, hV36, hS'⟩
      refine ⟨_, _, rfl, hS.join hS', ?_⟩
      refine WL.nilR ?_
      refine WR.first (g := 6) [8] (by kernel_rfl) (by kernel_rfl) ?_
      refine WP.val (v_build rfl rfl zero_181 plc_181 rfl) (.none rfl) rfl rfl <| WP.nil <| ?_
      refine WR.each (g := 5) [4, 9] (by kernel_rfl) (by decide) ?_
      refine ⟨?_, ?_⟩
      ·
       refine WL.v (v_load1 rfl rfl one_33 (cellAt rfl)) rfl <| WL.nilR <| ?_
       refine WR.ones (g := 3) [9, 10] (by kernel_rfl) ?_
       refine WL.buildSlice rfl rfl Tryz.underlying33 sz_181 zero_181 rfl (by decide) rfl (.none rfl) rfl rfl ?_
       intro g38 hg38
       refine WL.as (L' := .row g38 (OthL.cells ⟨fOf all 1, ad36, c36, v⟩) :: (E36 ++ (.row g6 (fltL 0 0 ⟨#[]⟩) :: (E ++ (.row ga a.cells :: L))))) rfl ?_
       refine WL.to (L' := E ++ (.row g38 (OthL.cells ⟨fOf all 1, ad36, c36, v⟩) :: (E36 ++ (.row g6 (fltL 0 0 ⟨#[]⟩) :: .row ga a.cells :: L)))) (fun w hS => by
         have := St.front (R := E) (L := .row ga a.cells :: L) (.row g38 (OthL.cells ⟨fOf all 1, ad36, c36, v⟩) :: (E36 ++ [.row g6 (fltL 0 0 ⟨#[]⟩)])) (by simpa only [List.cons_append, List.append_assoc, List.nil_append] using hS)
         simpa only [List.cons_append, List.append_assoc, List.nil_append] using this) ?_
       refine WL.appendL rfl rfl rfl Tryz.underlying33 Tryz.underlying33 sz_181 by_181 zero_181 rfl rfl hV (new := OthL.cells ⟨fOf all 1, ad36, c36, v⟩) (fun _ => ⟨g38, 0, rfl, fun w hS => allAt (g := g38) w hS⟩) rfl rfl (by omega) (.none rfl) rfl rfl ?_
       intro ad39 c39 E39 hV39 hr39
       rw [← othsL_snoc] at hV39
       rw [show a.others.length + 1 = (a.others ++ [(⟨fOf all 1, ad36, c36, v⟩ : OthL)]).length by rw [List.length_append]; rfl] at hV39 ⊢
       refine WL.nilR ?_
       refine WR.first (g := 1) [11, 12] (by kernel_rfl) (by kernel_rfl) ?_
       refine WP.val (v_nilCheck rfl rfl) (.none rfl) rfl rfl <| WP.val (v_fieldAddr0 rfl rfl fld_35_9) (.none rfl) rfl rfl <| WP.nil <| ?_
       refine WR.ones (g := 0) [13] (by kernel_rfl) ?_
       refine WL.store1 rfl rfl rfl rfl one_33 (Nat.le_of_ble_eq_true rfl) (.none rfl) rfl <| WL.as (L' := E39 ++ (.row g38 (OthL.cells ⟨fOf all 1, ad36, c36, v⟩) :: (E36 ++ (.row g6 (fltL 0 0 ⟨#[]⟩) :: .row ga (AtL.cells { a with oad := ad39, oc := c39, others := a.others ++ [⟨fOf all 1, ad36, c36, v⟩] }) :: L)))) rfl <| WL.nilR <| ?_
       refine WR.done (by kernel_rfl) ?_
       refine WE.then_n <| WC.seq <| WC.region <| WL.v (v_build rfl rfl zero_37 plc_37 rfl) rfl <| WL.storeW rfl rfl rfl rfl many_37 rfl rfl (.none rfl) rfl <| WL.nt <| WC.ret <| WE.ret1 (P := Tryz.prog) (.inl rfl) Tryz.results138 (resRow rfl many_37 rfl) <| ?_
       have e0 : otherD a.d all v = .inl { a.d with others := a.d.others ++ [(fOf all 1, v)] } := (by unfold otherD; rw [if_neg (by omega), if_pos ⟨by omega, by omega⟩])
       refine fun w' h => ⟨ad39, c39, a.others ++ [⟨fOf all 1, ad36, c36, v⟩], E39, E36, hV39, by rw [List.length_append]; exact Nat.le_refl _, ?_, h.sub (List.Sublist.append_left (.cons _ (List.Sublist.append_left (.cons _ (.refl _)) _)) _), ?_⟩
       · intro KO hK o ho
         rcases List.mem_append.1 ho with ho | ho
         · obtain ⟨E', r1, r2⟩ := hK o ho
           exact ⟨E', r1, fun e he => List.mem_append_right _ (r2 e he)⟩
         · rcases List.mem_cons.1 ho with rfl | ho
           · exact ⟨E36, hV36, fun e he => List.mem_append_left _ he⟩
           · cases ho
       · rw [e0]
         refine ⟨rfl, ?_⟩
         show AtD.mk _ _ _ _ _ _ _ _ _ (List.map othD (a.others ++ [⟨fOf all 1, ad36, c36, v⟩])) = _
         rw [List.map_append]
         rfl
      ·
       refine WL.buildSlice rfl rfl Tryz.underlying33 sz_181 zero_181 rfl (by decide) rfl (.none rfl) rfl rfl ?_
       intro g38 hg38
       refine WL.as (L' := .row g38 (OthL.cells ⟨fOf all 1, ad36, c36, v⟩) :: (E36 ++ (.row g6 (fltL 0 0 ⟨#[]⟩) :: (E ++ (.row ga a.cells :: L))))) rfl ?_
       refine WL.to (L' := E ++ (.row g38 (OthL.cells ⟨fOf all 1, ad36, c36, v⟩) :: (E36 ++ (.row g6 (fltL 0 0 ⟨#[]⟩) :: .row ga a.cells :: L)))) (fun w hS => by
         have := St.front (R := E) (L := .row ga a.cells :: L) (.row g38 (OthL.cells ⟨fOf all 1, ad36, c36, v⟩) :: (E36 ++ [.row g6 (fltL 0 0 ⟨#[]⟩)])) (by simpa only [List.cons_append, List.append_assoc, List.nil_append] using hS)
         simpa only [List.cons_append, List.append_assoc, List.nil_append] using this) ?_
       refine WL.nilR ?_
       refine WR.read (g := 4) [4] (by kernel_rfl) (by kernel_rfl) (by kernel_rfl) (by kernel_rfl) rfl ?_
       refine WQ.val (v_load1 rfl rfl one_33 (cellAt rfl)) (.none rfl) rfl rfl <| WQ.nilR <| ?_
       refine WR.ones (g := 3) [10] (by kernel_rfl) ?_
       refine WL.appendL rfl rfl rfl Tryz.underlying33 Tryz.underlying33 sz_181 by_181 zero_181 rfl rfl hV (new := OthL.cells ⟨fOf all 1, ad36, c36, v⟩) (fun _ => ⟨g38, 0, rfl, fun w hS => allAt (g := g38) w hS⟩) rfl rfl (by omega) (.none rfl) rfl rfl ?_
       intro ad39 c39 E39 hV39 hr39
       rw [← othsL_snoc] at hV39
       rw [show a.others.length + 1 = (a.others ++ [(⟨fOf all 1, ad36, c36, v⟩ : OthL)]).length by rw [List.length_append]; rfl] at hV39 ⊢
       refine WL.nilR ?_
       refine WR.first (g := 1) [11, 12] (by kernel_rfl) (by kernel_rfl) ?_
       refine WP.val (v_nilCheck rfl rfl) (.none rfl) rfl rfl <| WP.val (v_fieldAddr0 rfl rfl fld_35_9) (.none rfl) rfl rfl <| WP.nil <| ?_
       refine WR.ones (g := 0) [13] (by kernel_rfl) ?_
       refine WL.store1 rfl rfl rfl rfl one_33 (Nat.le_of_ble_eq_true rfl) (.none rfl) rfl <| WL.as (L' := E39 ++ (.row g38 (OthL.cells ⟨fOf all 1, ad36, c36, v⟩) :: (E36 ++ (.row g6 (fltL 0 0 ⟨#[]⟩) :: .row ga (AtL.cells { a with oad := ad39, oc := c39, others := a.others ++ [⟨fOf all 1, ad36, c36, v⟩] }) :: L)))) rfl <| WL.nilR <| ?_
       refine WR.done (by kernel_rfl) ?_
       refine WE.then_n <| WC.seq <| WC.region <| WL.v (v_build rfl rfl zero_37 plc_37 rfl) rfl <| WL.storeW rfl rfl rfl rfl many_37 rfl rfl (.none rfl) rfl <| WL.nt <| WC.ret <| WE.ret1 (P := Tryz.prog) (.inl rfl) Tryz.results138 (resRow rfl many_37 rfl) <| ?_
       have e0 : otherD a.d all v = .inl { a.d with others := a.d.others ++ [(fOf all 1, v)] } := (by unfold otherD; rw [if_neg (by omega), if_pos ⟨by omega, by omega⟩])
       refine fun w' h => ⟨ad39, c39, a.others ++ [⟨fOf all 1, ad36, c36, v⟩], E39, E36, hV39, by rw [List.length_append]; exact Nat.le_refl _, ?_, h.sub (List.Sublist.append_left (.cons _ (List.Sublist.append_left (.cons _ (.refl _)) _)) _), ?_⟩
       · intro KO hK o ho
         rcases List.mem_append.1 ho with ho | ho
         · obtain ⟨E', r1, r2⟩ := hK o ho
           exact ⟨E', r1, fun e he => List.mem_append_right _ (r2 e he)⟩
         · rcases List.mem_cons.1 ho with rfl | ho
           · exact ⟨E36, hV36, fun e he => List.mem_append_left _ he⟩
           · cases ho
       · rw [e0]
         refine ⟨rfl, ?_⟩
         show AtD.mk _ _ _ _ _ _ _ _ _ (List.map othD (a.others ++ [⟨fOf all 1, ad36, c36, v⟩])) = _
         rw [List.map_append]
         rfl
    ·
     refine WL.v (v_pick_t rfl rfl rfl) rfl <| WL.nt <| WC.cond_f rfl <| WC.skip <| WE.then_n <| WC.seq <| WC.region <| WL.v (v_build rfl rfl zero_37 plc_37 rfl) rfl <| WL.storeW rfl rfl rfl rfl many_37 rfl rfl (.none rfl) rfl <| WL.nt <| ?_
     refine WC.ret <| WE.ret1 (P := Tryz.prog) (.inl rfl) Tryz.results138 (resRow rfl many_37 rfl) <| ?_
     have e0 : otherD a.d all v = .inl a.d := (by unfold otherD; rw [if_neg (by omega), if_neg (by omega)])
     exact fun w' h => ⟨a.oad, a.oc, a.others, E, [], hV, Nat.le_succ _, fun KO h => h, h.sub (.cons _ (.refl _)), by rw [e0]; exact ⟨rfl, rfl⟩⟩
   ·
    refine WL.v (v_move rfl rfl) rfl ?_
    iterate 2 refine WL.sk rfl ?_
    refine WL.v (v_pick_f rfl rfl rfl) rfl <| WL.nt <| WC.cond_f rfl <| WC.skip <| WE.then_n <| WC.seq <| WC.region <| WL.v (v_build rfl rfl zero_37 plc_37 rfl) rfl <| WL.storeW rfl rfl rfl rfl many_37 rfl rfl (.none rfl) rfl <| WL.nt <| ?_
    refine WC.ret <| WE.ret1 (P := Tryz.prog) (.inl rfl) Tryz.results138 (resRow rfl many_37 rfl) <| ?_
    have e0 : otherD a.d all v = .inl a.d := (by unfold otherD; rw [if_neg (by omega), if_neg (by omega)])
    exact fun w' h => ⟨a.oad, a.oc, a.others, E, [], hV, Nat.le_succ _, fun KO h => h, h.sub (.cons _ (.refl _)), by rw [e0]; exact ⟨rfl, rfl⟩⟩
end Go.Proofs.YtcmpamnhegndnaaGreatDoor
/- attr: all attributes of bytes, as plain lists. -/
namespace Go.Proofs.YtcmpamnhegndnaaGreatDoor
open Go.RowKit

theorem fromN_b (xs : List Int) : 3 ≤ fromN xs ∧ fromN xs ≤ 4 := by unfold fromN; split <;> omega
theorem toN_ge (xs : List Int) : fromN xs ≤ toN xs := by unfold toN; omega
def stepD (d : AtD) (all v : List Int) : AtD ⊕ (Int × ByteArray) := if 1 ≤ fOf all 1 ∧ fOf all 1 ≤ 8 then takeD d all v else otherD d all v
/-- The attributes of bytes, or what is wrong: the sub, the data. -/
def decD (d : AtD) (seen : List Int) (xs : List Int) : AtD ⊕ (Int × ByteArray) :=
  if _h : xs.length = 0 then .inl d
  else if xs.length < fromN xs ∨ xs.length < toN xs ∨ fOf xs 1 ∈ seen then .inr (1, ⟨#[]⟩)
  else match stepD d (xs.take (toN xs)) ((xs.take (toN xs)).drop (fromN xs)) with
    | .inr f => .inr f
    | .inl d' => decD d' (fOf xs 1 :: seen) (xs.drop (toN xs))
termination_by xs.length
decreasing_by have := fromN_b xs; have := toN_ge xs; rw [List.length_drop]; omega
theorem decD_nil (d : AtD) (seen : List Int) : decD d seen [] = .inl d := by rw [decD]; rfl
theorem decD_bad {d : AtD} {seen xs : List Int} (h0 : 0 < xs.length) (h : xs.length < fromN xs ∨ xs.length < toN xs ∨ fOf xs 1 ∈ seen) : decD d seen xs = .inr (1, ⟨#[]⟩) := by
  rw [decD, dif_neg (by omega), if_pos h]
theorem decD_step {d : AtD} {seen xs : List Int} (h0 : 0 < xs.length) (h : ¬ (xs.length < fromN xs ∨ xs.length < toN xs ∨ fOf xs 1 ∈ seen)) : decD d seen xs = match stepD d (xs.take (toN xs)) ((xs.take (toN xs)).drop (fromN xs)) with
    | .inr f => .inr f
    | .inl d' => decD d' (fOf xs 1 :: seen) (xs.drop (toN xs)) := by
  rw [decD, dif_neg (by omega), if_neg h]
/-- What has been seen. -/
structure SeenI (d : AtD) (seen : List Int) : Prop where
  h0 : 0 ≤ d.has
  h1 : d.has ≤ 511
  bit : ∀ t : Nat, t ≤ 8 → (t = 0 ∨ (t : Int) ∉ seen) → d.has / 2 ^ t % 2 = 0
  com : (8 : Int) ∉ seen → d.comms = []
  nd : (d.others.map (·.1)).Nodup
  sub : ∀ t ∈ d.others.map (·.1), t ∈ seen
theorem bits_le : ∀ t : Nat, t < 9 → ∀ n : Nat, n < 512 → n / 2 ^ t % 2 = 0 → n + 2 ^ t ≤ 511 := by
  set_option maxRecDepth 20000 in decide +kernel
theorem bits_add : ∀ t : Nat, t < 9 → ∀ s : Nat, s < 9 → s ≠ t → ∀ n : Nat, n < 512 → n / 2 ^ t % 2 = 0 → (n + 2 ^ t) / 2 ^ s % 2 = n / 2 ^ s % 2 := by
  set_option maxRecDepth 20000 in decide +kernel
theorem pow_cast (t : Nat) : (2 : Int) ^ t = ((2 ^ t : Nat) : Int) := by simp
theorem bits_addI {h : Int} {t : Nat} (h0 : 0 ≤ h) (h1 : h ≤ 511) (ht : t ≤ 8) (hb : h / 2 ^ t % 2 = 0) : h + 2 ^ t ≤ 511 ∧ ∀ s : Nat, s ≤ 8 → s ≠ t → (h + 2 ^ t) / 2 ^ s % 2 = h / 2 ^ s % 2 := by
  obtain ⟨n, rfl⟩ := Int.eq_ofNat_of_zero_le h0
  rw [pow_cast] at hb ⊢
  have hb' : n / 2 ^ t % 2 = 0 := by exact_mod_cast hb
  have a := bits_le t (by omega) n (by omega) hb'
  refine ⟨by omega, fun s hs hne => ?_⟩
  have := bits_add t (by omega) s (by omega) hne n (by omega) hb'
  rw [pow_cast]
  exact_mod_cast this
theorem takeD_keep {d d' : AtD} {all v : List Int} (h : takeD d all v = .inl d') : d'.has = d.has + 2 ^ (fOf all 1).toNat ∧ (fOf all 1 ≠ 8 → d'.comms = d.comms) ∧ d'.others = d.others := by
  unfold takeD at h
  split at h
  · cases h
  split at h
  · cases h
  split at h
  · cases h
  split at h
  · cases h
  rename_i d2 hs
  split at h
  · cases h
  split at h
  · cases h
  split at h
  · cases h
  cases h
  refine ⟨by rw [(setD_keep hs).1], fun hne => ?_, (setD_keep hs).2⟩
  unfold setD at hs
  show d2.comms = d.comms
  split at hs
  · cases hs; rfl
  split at hs
  · obtain ⟨p, _, rfl⟩ := Option.map_eq_some_iff.1 hs; rfl
  split at hs
  · cases hs; rfl
  split at hs
  · cases hs; rfl
  split at hs
  · cases hs; rfl
  split at hs
  · cases hs; rfl
  split at hs
  · omega
  · cases hs; rfl
theorem otherD_keep {d d' : AtD} {all v : List Int} (h : otherD d all v = .inl d') : d'.has = d.has ∧ d'.comms = d.comms ∧ (d'.others = d.others ∨ d'.others = d.others ++ [(fOf all 1, v)]) := by
  unfold otherD at h
  split at h
  · cases h
  split at h
  · cases h; exact ⟨rfl, rfl, .inr rfl⟩
  · cases h; exact ⟨rfl, rfl, .inl rfl⟩
theorem SeenI.step {d d' : AtD} {seen all v : List Int} (h : SeenI d seen) (hB : Bys all) (hn : fOf all 1 ∉ seen) (hs : stepD d all v = .inl d') : SeenI d' (fOf all 1 :: seen) := by
  have hb := fOf_b hB 1
  unfold stepD at hs
  split at hs
  · rename_i hk
    obtain ⟨k1, k2, k3⟩ := takeD_keep hs
    obtain ⟨t, ht⟩ := Int.eq_ofNat_of_zero_le hb.1
    rw [ht, Int.toNat_natCast] at k1
    rw [ht] at k2 hn hk ⊢
    have hbt := h.bit t (by omega) (.inr hn)
    obtain ⟨a, b⟩ := bits_addI h.h0 h.h1 (by omega : t ≤ 8) hbt
    refine ⟨by rw [k1]; have := h.h0; have := (pow2_9 t (by omega)).1; omega, by rw [k1]; exact a, fun s hs8 hns => ?_, fun h8 => ?_, by rw [k3]; exact h.nd, by rw [k3]; exact fun x hx => List.mem_cons_of_mem _ (h.sub x hx)⟩
    · have hne : s ≠ t := by
        rcases hns with rfl | hns
        · omega
        · rintro rfl; exact hns (List.mem_cons_self ..)
      rw [k1, b s hs8 hne]
      exact h.bit s hs8 (hns.imp id fun hns hm => hns (List.mem_cons_of_mem _ hm))
    · rw [k2 (by rintro e; exact h8 (by rw [show ((t : Nat) : Int) = 8 from e]; exact List.mem_cons_self ..))]
      exact h.com fun hm => h8 (List.mem_cons_of_mem _ hm)
  · obtain ⟨k1, k2, k3⟩ := otherD_keep hs
    refine ⟨by rw [k1]; exact h.h0, by rw [k1]; exact h.h1, fun s hs8 hns => ?_, fun h8 => ?_, ?_, ?_⟩
    · rw [k1]; exact h.bit s hs8 (hns.imp id fun hns hm => hns (List.mem_cons_of_mem _ hm))
    · rw [k2]; exact h.com fun hm => h8 (List.mem_cons_of_mem _ hm)
    · rcases k3 with e | e <;> rw [e]
      · exact h.nd
      · rw [List.map_append, List.nodup_append]
        refine ⟨h.nd, by simp, fun x hx y hy e => ?_⟩
        have : y = fOf all 1 := by simpa using hy
        subst this e
        exact hn (h.sub _ hx)
    · rcases k3 with e | e <;> rw [e]
      · exact fun x hx => List.mem_cons_of_mem _ (h.sub x hx)
      · intro x hx
        rw [List.map_append] at hx
        rcases List.mem_append.1 hx with hx | hx
        · exact List.mem_cons_of_mem _ (h.sub x hx)
        · have : x = fOf all 1 := by simpa using hx
          subst this; exact List.mem_cons_self ..
/-- In order of their types. -/
def sortO (os : List (Int × List Int)) : List (Int × List Int) := os.mergeSort fun x y => decide (x.1 ≤ y.1)
theorem nd_inj {α β : Type} {f : α → β} : ∀ {l : List α}, (l.map f).Nodup → ∀ a ∈ l, ∀ b ∈ l, f a = f b → a = b
  | [], _, a, ha, _, _, _ => by cases ha
  | x :: l, h, a, ha, b, hb, e => by
    rw [List.map_cons, List.nodup_cons] at h
    rcases List.mem_cons.1 ha with h1 | h1 <;> rcases List.mem_cons.1 hb with h2 | h2
    · rw [h1, h2]
    · exact absurd (List.mem_map.2 ⟨b, h2, by rw [← e, h1]⟩) h.1
    · exact absurd (List.mem_map.2 ⟨a, h1, by rw [e, h2]⟩) h.1
    · exact nd_inj h.2 a h1 b h2 e
theorem sortO_asc (os : List (Int × List Int)) : (sortO os).Pairwise (fun x y => x.1 ≤ y.1) := by
  have := List.pairwise_mergeSort (le := fun (x y : Int × List Int) => decide (x.1 ≤ y.1)) (fun a b c h1 h2 => by simp only [decide_eq_true_eq] at *; omega) (fun a b => by simp only [Bool.or_eq_true, decide_eq_true_eq]; omega) os
  exact this.imp fun h => by simpa using h
theorem sortO_perm (os : List (Int × List Int)) : (sortO os).Perm os := List.mergeSort_perm _ _
theorem sortO_is {os ps : List (Int × List Int)} (hp : os.Perm ps) (hnd : (ps.map (·.1)).Nodup) (ha : os.Pairwise (fun x y => x.1 ≤ y.1)) : os = sortO ps := by
  have hq : os.Perm (sortO ps) := hp.trans (sortO_perm ps).symm
  refine List.Perm.eq_of_pairwise (le := fun x y => x.1 ≤ y.1) (fun a b h1 h2 h3 h4 => ?_) ha (sortO_asc ps) hq
  have hnd' : (os.map (·.1)).Nodup := (hp.map _).nodup_iff.2 hnd
  exact nd_inj hnd' a h1 b (hq.mem_iff.2 h2) (by omega)
end Go.Proofs.YtcmpamnhegndnaaGreatDoor
/- slices.SortFunc at any element of k cells, whatever their number: the kit's sort as my worlds. -/
namespace Go.Proofs.YtcmpamnhegndnaaGreatDoor
open Go.RowKit Go.Sort Go.Shelf

theorem gs_ext : ∀ a b : World, a.heap = b.heap → a.tape = b.tape → a.drawn = b.drawn → a.os = b.os → a.output = b.output → a = b := by
  rintro ⟨⟩ ⟨⟩ h1 h2 h3 h4 h5
  dsimp only at h1 h2 h3 h4 h5
  subst h1 h2 h3 h4 h5
  rfl
theorem Frm.grows {w w' : World} (h : Frm (fun _ => False) w w') : ∃ q os', w' = Go.Sort.grow (w.drewN q) os' := by
  refine ⟨w'.drawn - w.drawn, (w'.heap.toList.drop w.heap.size).toArray, ?_⟩
  have h1 := h.drawn
  have hh : w'.heap = w.heap ++ (w'.heap.toList.drop w.heap.size).toArray := by
    apply Array.ext_getElem?
    intro k
    rw [Array.getElem?_append]
    split
    · rename_i hk; exact h.block k hk (fun h => h)
    · rename_i hk
      simp only [List.getElem?_toArray, List.getElem?_drop, Array.getElem?_toList]
      rw [show w.heap.size + (k - w.heap.size) = k by omega]
  exact gs_ext _ _ hh h.tape (by show w'.drawn = w.drawn + (w'.drawn - w.drawn); omega) h.os h.output
/-- Elements as cells. -/
def encL {α : Type} (enc : α → List Value) : List α → List Value
  | [] => []
  | x :: xs => enc x ++ encL enc xs
theorem encL_len {α : Type} {enc : α → List Value} {k : Nat} (hk : ∀ x, (enc x).length = k) : ∀ xs : List α, (encL enc xs).length = xs.length * k
  | [] => by simp [encL]
  | x :: xs => by
    show (enc x ++ encL enc xs).length = _
    rw [List.length_append, encL_len hk xs, hk, List.length_cons, Nat.add_mul, Nat.one_mul]; omega
theorem encL_seg {α : Type} {enc : α → List Value} {k : Nat} (hk : ∀ x, (enc x).length = k) : ∀ (xs : List α) (i : Nat) (x : α), xs[i]? = some x → ((encL enc xs).drop (i * k)).take k = enc x
  | [], _, _, h => by simp at h
  | y :: xs, 0, x, h => by
    simp only [List.getElem?_cons_zero, Option.some.injEq] at h
    subst h
    show ((enc y ++ encL enc xs).drop (0 * k)).take k = _
    rw [Nat.zero_mul, List.drop_zero, List.take_left' (hk y)]
  | y :: xs, i + 1, x, h => by
    rw [List.getElem?_cons_succ] at h
    show ((enc y ++ encL enc xs).drop ((i + 1) * k)).take k = _
    rw [Nat.add_mul, Nat.one_mul, Nat.add_comm, ← List.drop_drop, List.drop_left' (hk y)]
    exact encL_seg hk xs i x h
section
variable {α : Type} [Inhabited α] {enc : α → List Value} {k : Nat}
theorem gsW_frm (w : World) (blk off m : Nat) (d : Array α) (os : Array Obj) : Frm (fun b => b = blk) w (sortWorldK enc k w blk off m d os) := by
  have hsz : (putRowK enc k (Go.Sort.ahead w m) blk off d).heap.size = w.heap.size := by unfold putRowK; rw [Go.Sort.size_putRow]; rfl
  refine ⟨rfl, rfl, rfl, ?_, ?_, Nat.le_add_right _ _⟩
  · show w.heap.size ≤ ((putRowK enc k (Go.Sort.ahead w m) blk off d).heap ++ os).size
    rw [Array.size_append, hsz]; omega
  · intro j hj hn
    show ((putRowK enc k (Go.Sort.ahead w m) blk off d).heap ++ os)[j]? = _
    rw [Array.getElem?_append_left (by rw [hsz]; exact hj)]
    show (w.heap.modify blk _)[j]? = _
    rw [Array.getElem?_modify, if_neg (fun e => hn e.symm)]
def gsL (enc : α → List Value) (k : Nat) (d : Array α) (cs : List Value) : List Value := (Go.Sort.putCells id 0 (flatK enc k d) cs.toArray).toList
theorem gsL_len (d : Array α) (cs : List Value) : (gsL enc k d cs).length = cs.length := by simp [gsL, Go.Sort.putCells]
theorem encL_get (hk : ∀ x, (enc x).length = k) (hk0 : 0 < k) (d : Array α) {t : Nat} (ht : t < d.size * k) : (encL enc d.toList)[t]? = some ((enc d[t / k]!)[t % k]!) := by
  have hq : t / k < d.size := (Nat.div_lt_iff_lt_mul hk0).2 ht
  have hr : t % k < k := Nat.mod_lt _ hk0
  have e2 : d.toList[t / k]? = some d[t / k]! := by
    rw [Array.getElem?_toList, Array.getElem?_eq_getElem hq, getElem!_pos d (t / k) hq]
  have e3 := encL_seg hk _ _ _ e2
  have e4 : (enc d[t / k]!)[t % k]? = (encL enc d.toList)[t]? := by
    rw [← e3, List.getElem?_take, if_pos hr, List.getElem?_drop]
    congr 1
    exact Nat.div_add_mod' t k
  rw [← e4, getElem!_pos (enc d[t / k]!) (t % k) (by rw [hk]; exact hr)]
  exact List.getElem?_eq_getElem _
theorem gsL_take (hk : ∀ x, (enc x).length = k) (hk0 : 0 < k) (d : Array α) (cs : List Value) (h : d.size * k ≤ cs.length) : (gsL enc k d cs).take (d.size * k) = encL enc d.toList := by
  have hl : (encL enc d.toList).length = d.size * k := by rw [encL_len hk, Array.length_toList]
  apply List.ext_getElem?
  intro t
  by_cases ht : t < d.size * k
  · rw [List.getElem?_take, if_pos ht]
    have e1 : (gsL enc k d cs)[t]? = some ((enc d[t / k]!)[t % k]!) := by
      unfold gsL Go.Sort.putCells
      rw [Array.getElem?_toList, Array.getElem?_mapIdx]
      rw [show cs.toArray[t]? = some (cs[t]'(by omega)) by rw [List.getElem?_toArray]; exact List.getElem?_eq_getElem _]
      simp only [Option.map_some, size_flatK]
      rw [if_pos (by omega), Nat.sub_zero, get_flatK _ _ _ _ ht]
      rfl
    rw [e1, encL_get hk hk0 d ht]
  · rw [List.getElem?_eq_none (by rw [List.length_take]; omega), List.getElem?_eq_none (by rw [hl]; omega)]
theorem gsW_row {w : World} {blk m : Nat} {cs : List Value} {d : Array α} {os : Array Obj} (h : Row w blk cs) : Row (sortWorldK enc k w blk 0 m d os) blk (gsL enc k d cs) := by
  have hlt := h.lt
  obtain ⟨T, lo, hi, hb, hf⟩ := h
  refine ⟨T, lo, hi, ?_, by rw [gsL_len]; exact hf⟩
  have hsz : (putRowK enc k (Go.Sort.ahead w m) blk 0 d).heap.size = w.heap.size := by unfold putRowK; rw [Go.Sort.size_putRow]; rfl
  show ((putRowK enc k (Go.Sort.ahead w m) blk 0 d).heap ++ os)[blk]? = _
  rw [Array.getElem?_append_left (by rw [hsz]; exact hlt)]
  show (w.heap.modify blk _)[blk]? = _
  rw [Array.getElem?_modify, if_pos rfl, hb]
  rfl
theorem gsW_st {p : Nat → Prop} {w0 w : World} {blk m : Nat} {cs : List Value} {d : Array α} {os : Array Obj} {L : List Ent} (hS : St p w0 w (.row blk cs :: L)) : St p w0 (sortWorldK enc k w blk 0 m d os) (.row blk (gsL enc k d cs) :: L) := by
  have hF := gsW_frm (enc := enc) (k := k) w blk 0 m d os
  have hR : Row w blk cs := hS.holds (.row blk cs) (by simp)
  have hm := hS.mine (.row blk cs) (by simp)
  refine ⟨⟨hF.os.trans hS.frm.os, hF.tape.trans hS.frm.tape, hF.output.trans hS.frm.output, Nat.le_trans hS.frm.size hF.size, fun j hj hn => ?_, Nat.le_trans hS.frm.drawn hF.drawn⟩, ?_, hS.dist, ?_⟩
  · have hne : ¬ j = blk := fun e => by
      subst e
      rcases hm with h | h
      · exact hn h
      · exact absurd hj (by show ¬ j < w0.heap.size; have : w0.heap.size ≤ j := h; omega)
    exact (hF.block j (Nat.lt_of_lt_of_le hj hS.frm.size) hne).trans (hS.frm.block j hj hn)
  · intro e he
    rcases List.mem_cons.1 he with rfl | he
    · exact gsW_row hR
    · have hh := hS.holds e (List.mem_cons_of_mem _ he)
      refine Ent.keep hh (hF.block _ (Ent.lt hh) fun e' => ?_)
      have hd := hS.dist
      simp only [List.map_cons, List.nodup_cons] at hd
      exact hd.1 (List.mem_map.2 ⟨e, he, e'⟩)
  · intro e he
    rcases List.mem_cons.1 he with rfl | he
    · exact hm
    · exact hS.mine e (List.mem_cons_of_mem _ he)
/-- Ascending by an order: no later one is less than an earlier one. -/
def AscBy (cf : α → α → Int) (ys : List α) : Prop := ∀ (i j : Nat) (x y : α), ys[i]? = some x → ys[j]? = some y → i < j → ¬ cf y x < 0
theorem gsort_c {P : Program} {ρ : Go.Shelf.Ren} (Ly : SlLaysF0.n6 P ρ) (hk0 : 0 < k) (aE : ∀ w, (isAgg (ρ.t 24)).run P w = .ok true w) (zE : ∀ w, (Go.sizeOf (ρ.t 24)).run P w = .ok k w) (hk : ∀ x, (enc x).length = k) (h1 : ∀ x, ∀ v ∈ enc x, v.oneCell' = true)
    (cf : α → α → Int) (hO : SWO (ltOf cf)) (g : Nat) (cb : Array Value) (eg : ∀ args w, (callFunc g args).run P w = .ok (.enter g args) w) (p : Nat → Prop) (w0 w : World) (L E : List Ent) (ad : Option Addr) (c : Nat) (xs : List α)
    (hcmp : ∀ gb cs, St p w0 w (.row gb cs :: L) → ∀ w', Frm (fun b => b = gb) w w' → ∀ x y, Calls P g (#[.agg (enc x).toArray, .agg (enc y).toArray] ++ cb) w' fun e w'' => e = .returned (.int .i64 (cf x y)) ∧ Frm (fun _ => False) w' w'')
    (hV : Vec k ad xs.length c (encL enc xs) E) (hS : St p w0 w (E ++ L)) (hlen : xs.length < 4611686018427387904) :
    Calls P (ρ.f 6) #[.slice ad xs.length c, .func (.func g) #[] cb] w fun e w' =>
      e = .returned (.tuple #[]) ∧ ∃ ys E', ys.Perm xs ∧ AscBy cf ys ∧ Vec k ad xs.length c (encL enc ys) E' ∧ St p w0 w' (E' ++ L) := by
  rcases hV with ⟨ha, hn, hc, hx, hE⟩ | ⟨gb, cs, rfl, rfl, hx, hcl, hkc⟩
  · have e0 : xs = [] := List.length_eq_zero_iff.1 hn
    subst e0
    refine (Go.Proofs.AnyF.slices_SortFunc_none Ly ad c _ w).mono fun e w' h => ⟨h.1, [], E, .refl _, fun i j A B h => by simp at h, .inl ⟨ha, hn, hc, hx, hE⟩, by rw [h.2]; exact hS⟩
  · have hS' : St p w0 w (.row gb cs :: L) := hS
    have hR : Row w gb cs := hS'.holds (.row gb cs) (by simp)
    have hcs : xs.length * k ≤ cs.length := by rw [hcl]; exact Nat.mul_le_mul_right k hkc
    have hsz : xs.toArray.size = xs.length := by simp
    have hcm : CmpLays P g cb enc k cf gb 0 xs.toArray.size w := fun m os dk hs x y =>
      (hcmp gb cs hS' _ (gsW_frm w gb 0 m dk os) x y).mono fun e w' ⟨he, hF⟩ => ⟨he, hF.grows⟩
    have hH : HoldsK enc k w gb 0 xs.toArray := fun t ht => by
      rw [size_flatK] at ht
      have ht2 : t < cs.length := by rw [hsz] at ht; omega
      rw [Nat.zero_add]
      refine ⟨hR.cell ?_, hR.frozen ht2⟩
      show cs[t]? = some ((flatK enc k xs.toArray)[t]!)
      rw [get_flatK _ _ _ _ ht, ← encL_get hk hk0 _ ht]
      show cs[t]? = (encL enc xs)[t]?
      rw [← hx, List.getElem?_take, if_pos (by rw [← hsz]; exact ht)]
    have key := Go.Proofs.AnyQ.slices_SortFunc Ly k aE zE enc hk h1 cf hO g cb gb 0 c xs.toArray w eg hcm hH hR.lt (by rw [hsz]; exact hlen)
    rw [hsz] at key
    refine key.mono ?_
    rintro e w' ⟨he, d', n, os, ⟨hs1, _, hperm⟩, hsort, rfl⟩
    have hd' : d'.size = xs.length := by rw [hs1, hsz]
    have f1 : d'.extract 0 xs.length = d' := by rw [← hd']; simp
    have f2 : xs.toArray.extract 0 xs.length = xs.toArray := by rw [← hsz]; exact Array.extract_size
    rw [f1, f2] at hperm
    have hrow := gsL_take hk hk0 d' cs (by rw [hd']; exact hcs)
    refine ⟨he, d'.toList, [.row gb (gsL enc k d' cs)], ?_, ?_, ?_, gsW_st hS'⟩
    · exact hperm
    · intro i j A B hi hj hij
      have li := (List.getElem?_eq_some_iff.1 hi).1
      have lj := (List.getElem?_eq_some_iff.1 hj).1
      rw [Array.length_toList] at li lj
      have h := hsort i j (Nat.zero_le _) hij (by rw [← hd']; exact lj)
      rw [Array.getElem?_toList, Array.getElem?_eq_getElem li] at hi
      rw [Array.getElem?_toList, Array.getElem?_eq_getElem lj] at hj
      rw [getElem!_pos d' i li, getElem!_pos d' j lj] at h
      have ea := Option.some.inj hi
      have eb := Option.some.inj hj
      subst ea eb
      exact of_decide_eq_false h
    · exact .inr ⟨gb, gsL enc k d' cs, rfl, rfl, by rw [← hd', hrow], by rw [gsL_len]; exact hcl, hkc⟩
end
end Go.Proofs.YtcmpamnhegndnaaGreatDoor
/- The kit's laying SlLaysF0.n6 at this seat's functions. Printed by wip/tools/lays.py. -/
namespace Go.Proofs.YtcmpamnhegndnaaGreatDoor
open Go.RowKit Go.Shelf

def ren139 : Ren := ⟨fun n => match n with | 6 => 139 | 14 => 144 | 15 => 145 | 20 => 148 | 21 => 149 | 22 => 150 | 23 => 151 | 24 => 152 | 25 => 153 | 26 => 154 | 27 => 155 | 28 => 156 | 29 => 157 | 46 => 158 | 47 => 159 | 48 => 160 | 49 => 161 | 50 => 162 | 57 => 163 | n => n, fun n => match n with | 0 => 0 | 3 => 3 | 4 => 4 | 5 => 5 | 9 => 9 | 22 => 33 | 24 => 181 | 25 => 230 | 39 => 145 | 45 => 238 | 46 => 239 | 50 => 125 | 53 => 22 | 55 => 184 | 66 => 246 | 70 => 250 | 76 => 252 | 77 => 253 | n => n, fun n => n⟩
set_option maxRecDepth 100000 in
theorem lays139 : SlLaysF0.n6 Tryz.prog ren139 where
  mixed := mixed
  f6 := ⟨Tryz.f139.name, by decide, Tryz.func139.trans (congrArg some (by kernel_rfl))⟩
  f14 := ⟨Tryz.f144.name, by decide, Tryz.func144.trans (congrArg some (by kernel_rfl))⟩
  f15 := Tryz.func145.trans (congrArg some (by kernel_rfl))
  f20 := ⟨Tryz.f148.name, by decide, Tryz.func148.trans (congrArg some (by kernel_rfl))⟩
  f21 := ⟨Tryz.f149.name, by decide, Tryz.func149.trans (congrArg some (by kernel_rfl))⟩
  f22 := ⟨Tryz.f150.name, by decide, Tryz.func150.trans (congrArg some (by kernel_rfl))⟩
  f23 := ⟨Tryz.f151.name, by decide, Tryz.func151.trans (congrArg some (by kernel_rfl))⟩
  f24 := ⟨Tryz.f152.name, by decide, Tryz.func152.trans (congrArg some (by kernel_rfl))⟩
  f25 := ⟨Tryz.f153.name, by decide, Tryz.func153.trans (congrArg some (by kernel_rfl))⟩
  f26 := ⟨Tryz.f154.name, by decide, Tryz.func154.trans (congrArg some (by kernel_rfl))⟩
  f27 := ⟨Tryz.f155.name, by decide, Tryz.func155.trans (congrArg some (by kernel_rfl))⟩
  f28 := Tryz.func156.trans (congrArg some (by kernel_rfl))
  f29 := Tryz.func157.trans (congrArg some (by kernel_rfl))
  f46 := ⟨Tryz.f158.name, by decide, Tryz.func158.trans (congrArg some (by kernel_rfl))⟩
  f47 := Tryz.func159.trans (congrArg some (by kernel_rfl))
  f48 := Tryz.func160.trans (congrArg some (by kernel_rfl))
  f49 := ⟨Tryz.f161.name, by decide, Tryz.func161.trans (congrArg some (by kernel_rfl))⟩
  f50 := ⟨Tryz.f162.name, by decide, Tryz.func162.trans (congrArg some (by kernel_rfl))⟩
  f57 := ⟨Tryz.f163.name, by decide, Tryz.func163.trans (congrArg some (by kernel_rfl))⟩
  t0 := Tryz.underlying0
  a0 := Tryz.isAgg0
  z0 := Tryz.sizeOf0
  v0 := Tryz.zeroValue0
  t3 := Tryz.underlying3
  a3 := Tryz.isAgg3
  z3 := Tryz.sizeOf3
  v3 := Tryz.zeroValue3
  t4 := Tryz.underlying4
  a4 := Tryz.isAgg4
  z4 := Tryz.sizeOf4
  v4 := Tryz.zeroValue4
  t5 := Tryz.underlying5
  a5 := Tryz.isAgg5
  z5 := Tryz.sizeOf5
  v5 := Tryz.zeroValue5
  t9 := Tryz.underlying9
  a9 := Tryz.isAgg9
  z9 := Tryz.sizeOf9
  v9 := Tryz.zeroValue9
  t22 := Tryz.underlying33
  a22 := Tryz.isAgg33
  z22 := Tryz.sizeOf33
  v22 := Tryz.zeroValue33
  t25 := Tryz.underlying230
  a25 := Tryz.isAgg230
  z25 := Tryz.sizeOf230
  v25 := Tryz.zeroValue230
  t39 := Tryz.underlying145
  a39 := Tryz.isAgg145
  z39 := Tryz.sizeOf145
  v39 := Tryz.zeroValue145
  t45 := Tryz.underlying238
  a45 := Tryz.isAgg238
  z45 := Tryz.sizeOf238
  v45 := Tryz.zeroValue238
  t46 := Tryz.underlying239
  a46 := Tryz.isAgg239
  z46 := Tryz.sizeOf239
  v46 := Tryz.zeroValue239
  t50 := Tryz.underlying125
  a50 := Tryz.isAgg125
  z50 := Tryz.sizeOf125
  v50 := Tryz.zeroValue125
  t53 := Tryz.underlying22
  a53 := Tryz.isAgg22
  z53 := Tryz.sizeOf22
  v53 := Tryz.zeroValue22
  t55 := Tryz.underlying184
  a55 := Tryz.isAgg184
  z55 := Tryz.sizeOf184
  v55 := Tryz.zeroValue184
  t66 := Tryz.underlying246
  a66 := Tryz.isAgg246
  z66 := Tryz.sizeOf246
  v66 := Tryz.zeroValue246
  t70 := Tryz.underlying250
  a70 := Tryz.isAgg250
  z70 := Tryz.sizeOf250
  v70 := Tryz.zeroValue250
  t76 := Tryz.underlying252
  a76 := Tryz.isAgg252
  z76 := Tryz.sizeOf252
  v76 := Tryz.zeroValue252
  t77 := Tryz.underlying253
  a77 := Tryz.isAgg253
  z77 := Tryz.sizeOf253
  v77 := Tryz.zeroValue253
end Go.Proofs.YtcmpamnhegndnaaGreatDoor
/- attr: the others in order. -/
namespace Go.Proofs.YtcmpamnhegndnaaGreatDoor
open Go.RowKit Go.Sort

theorem isNaNI_c (w : World) (x : Int) : Calls Tryz.prog 146 #[.int .i64 x] w fun e w' => e = .returned (.bool false) ∧ Frm (fun _ => False) w w' := by
  refine enter Tryz.func146 rfl Tryz.ntmps146 rfl (St.start (fun _ => False) w) ?_
  refine WC.seq <| WC.region <| WL.v (v_assign rfl rfl) rfl <| WL.nt <| WC.seq <| WC.region <| WL.v (v_move rfl rfl) rfl <| WL.v (v_move rfl rfl) rfl <| WL.v ((v_neq rfl rfl rfl).f (fun h => h rfl)) rfl <| WL.v (v_assign rfl rfl) rfl <| ?_
  refine WL.nt <| WC.ret <| WE.ret1 (P := Tryz.prog) (.inl rfl) Tryz.results146 rfl <| ?_
  exact fun w' h => ⟨rfl, h.frm⟩
/-- How two numbers compare. -/
def cmpI (x y : Int) : Int := if x < y then -1 else if y < x then 1 else 0
theorem CmpI_c (w : World) (x y : Int) : Calls Tryz.prog 141 #[.int .i64 x, .int .i64 y] w fun e w' => e = .returned (.int .i64 (cmpI x y)) ∧ Frm (fun _ => False) w w' := by
  refine enter Tryz.func141 rfl Tryz.ntmps141 rfl (St.start (fun _ => False) w) ?_
  refine WC.seq <| WC.region <| WL.v (v_assign rfl rfl) rfl <| WL.nt <| WC.seq <| WC.region <| WL.v (v_move rfl rfl) rfl <| WL.call rfl rfl ck_146 (.none rfl) rfl rfl <| ?_
  intro w hS
  refine Calls.then (isNaNI_c w x) hS ?_
  refine WL.v (v_assign rfl rfl) rfl <| WL.nt <| WC.seq <| WC.region <| WL.v (v_move rfl rfl) rfl <| WL.call rfl rfl ck_146 (.none rfl) rfl rfl <| ?_
  intro w hS
  refine Calls.then (isNaNI_c w y) hS ?_
  refine WL.v (v_assign rfl rfl) rfl <| WL.nt <| WC.seq <| WC.seq <| WC.region <| WL.v (v_move rfl rfl) rfl <| WL.nt <| WC.cond_f rfl <| WC.skip <| WE.then_n <| ?_
  refine WC.seq <| WC.seq <| WC.region <| WL.v (v_move rfl rfl) rfl <| WL.nt <| WC.cond_f rfl <| WC.skip <| WE.then_n <| WC.seq <| WC.seq <| ?_
  refine WC.region <| WL.v (v_move rfl rfl) rfl <| WL.v (v_move rfl rfl) rfl <| ?_
  refine WL.test (v_lss rfl rfl rfl) (.none rfl) rfl rfl (fun h16 => ?_) (fun h16 => ?_)
  ·
   refine WL.nt <| WC.cond_t rfl <| WC.seq <| WC.region <| WL.v (v_assign rfl rfl) rfl <| WL.nt <| WC.ret <| WE.then_ret <| WE.ret1 (P := Tryz.prog) (.inl rfl) Tryz.results141 rfl <| ?_
   exact fun w' h => ⟨by unfold cmpI; rw [if_pos h16], h.frm⟩
  ·
   refine WL.nt <| WC.cond_f rfl <| WC.skip <| WE.then_n <| WC.seq <| WC.seq <| WC.region <| WL.v (v_move rfl rfl) rfl <| WL.v (v_move rfl rfl) rfl <| ?_
   refine WL.test (v_gtr rfl rfl rfl) (.none rfl) rfl rfl (fun h19 => ?_) (fun h19 => ?_)
   ·
    refine WL.nt <| WC.cond_t rfl <| WC.seq <| WC.region <| WL.v (v_assign rfl rfl) rfl <| WL.nt <| WC.ret <| WE.then_ret <| WE.ret1 (P := Tryz.prog) (.inl rfl) Tryz.results141 rfl <| ?_
    exact fun w' h => ⟨by unfold cmpI; rw [if_neg h16, if_pos h19], h.frm⟩
   ·
    refine WL.nt <| WC.cond_f rfl <| WC.skip <| WE.then_n <| WC.seq <| WC.region <| WL.v (v_assign rfl rfl) rfl <| WL.nt <| WC.ret <| WE.ret1 (P := Tryz.prog) (.inl rfl) Tryz.results141 rfl <| ?_
    exact fun w' h => ⟨by unfold cmpI; rw [if_neg h16, if_neg h19], h.frm⟩
theorem cmpI_lt (x y : Int) : cmpI x y < 0 ↔ x < y := by unfold cmpI; split <;> (try split) <;> omega
theorem OthCmp_c (w : World) (x y : OthL) : Calls Tryz.prog 140 #[.agg x.cells.toArray, .agg y.cells.toArray] w fun e w' => e = .returned (.int .i64 (cmpI x.ty y.ty)) ∧ Frm (fun _ => False) w w' := by
  refine enter Tryz.func140 rfl Tryz.ntmps140 rfl (St.start (fun _ => False) w) ?_
  refine WC.seq <| WC.region <| WL.box rfl rfl rfl (.none rfl) rfl rfl <| ?_
  intro g2 hg2
  refine WL.box rfl rfl rfl (.none rfl) rfl rfl ?_
  intro g3 hg3
  refine WL.v (v_assign rfl rfl) rfl <| WL.nt <| WC.seq <| WC.region <| WL.v (v_fieldAddr0 rfl rfl fld_181_0) rfl <| WL.v (v_load1 rfl rfl one_3 (cellAt rfl)) rfl <| WL.v (v_fieldAddr0 rfl rfl fld_181_0) rfl <| WL.v (v_load1 rfl rfl one_3 (cellAt rfl)) rfl <| WL.call rfl rfl ck_141 (.none rfl) rfl rfl <| ?_
  intro w hS
  refine Calls.then (CmpI_c w x.ty y.ty) hS ?_
  refine WL.v (v_assign rfl rfl) rfl <| WL.nt <| WC.ret <| WE.ret1 (P := Tryz.prog) (.inl rfl) Tryz.results140 rfl <| ?_
  exact fun w' h => ⟨rfl, h.frm⟩
instance : Inhabited OthL := ⟨⟨0, none, 0, []⟩⟩
def othCf (x y : OthL) : Int := cmpI x.ty y.ty
theorem othCf_swo : Go.Sort.SWO (ltOf othCf) := by
  constructor
  · intro x; unfold ltOf othCf; exact decide_eq_false (by rw [cmpI_lt]; omega)
  · intro x y z h1 h2; unfold ltOf othCf at *; have a := of_decide_eq_true h1; have b := of_decide_eq_true h2; rw [cmpI_lt] at a b; exact decide_eq_true (by rw [cmpI_lt]; omega)
  · intro x y z h1 h2; unfold ltOf othCf at *; have a := of_decide_eq_false h1; have b := of_decide_eq_false h2; rw [cmpI_lt] at a b; exact decide_eq_false (by rw [cmpI_lt]; omega)
theorem othsL_enc : ∀ os : List OthL, othsL os = encL OthL.cells os
  | [] => rfl
  | o :: os => by show o.cells ++ othsL os = o.cells ++ encL OthL.cells os; rw [othsL_enc os]
theorem SortOth_c (w0 w : World) (L E : List Ent) (ad : Option Addr) (c : Nat) (os : List OthL) (hV : Vec 2 ad os.length c (othsL os) E) (hS : St (fun _ => False) w0 w (E ++ L)) (hlen : os.length < 1000000) :
    Calls Tryz.prog 139 #[.slice ad os.length c, .func (.func 140) #[] #[]] w fun e w' =>
      e = .returned (.tuple #[]) ∧ ∃ ys E', ys.Perm os ∧ (ys.map othD).Pairwise (fun x y => x.1 ≤ y.1) ∧ Vec 2 ad os.length c (othsL ys) E' ∧ St (fun _ => False) w0 w' (E' ++ L) := by
  rw [othsL_enc] at hV
  refine (gsort_c (P := Tryz.prog) lays139 (by omega) Tryz.isAgg181 Tryz.sizeOf181 (fun _ => rfl) (fun x v hv => by
      unfold OthL.cells at hv
      simp only [List.mem_cons, List.not_mem_nil, or_false] at hv
      rcases hv with h | h <;> (subst h; rfl)) othCf othCf_swo 140 #[] ck_140 (fun _ => False) w0 w L E ad c os (fun gb cs _ w' _ x y => OthCmp_c w' x y) hV hS (by omega)).mono ?_
  rintro e w' ⟨he, ys, E', hp, ha, hV', hS'⟩
  refine ⟨he, ys, E', hp, ?_, by rw [othsL_enc]; exact hV', hS'⟩
  rw [List.pairwise_map, List.pairwise_iff_getElem]
  intro i j hi hj hij
  have := ha i j _ _ (List.getElem?_eq_getElem hi) (List.getElem?_eq_getElem hj) hij
  unfold othCf at this
  rw [cmpI_lt] at this
  show ys[i].ty ≤ ys[j].ty
  omega
end Go.Proofs.YtcmpamnhegndnaaGreatDoor
/- attr.Decode, walked. -/
namespace Go.Proofs.YtcmpamnhegndnaaGreatDoor
open Go.RowKit

theorem cut_u (w : World) (b o c : Nat) (xs : List Int) (hW : Win w b o c xs) (hn : xs.length ≤ 1000000) :
    Calls Tryz.prog 136 #[.slice (some ⟨b, o, none⟩) xs.length c] w fun e w' => ∃ (f t : Nat) (ok : Bool), e = .returned (.tuple #[.int .i64 f, .int .i64 t, .bool ok]) ∧ Frm (fun _ => False) w w' ∧
      (ok = false → xs.length < fromN xs ∨ xs.length < toN xs) ∧ (ok = true → f = fromN xs ∧ t = toN xs ∧ fromN xs ≤ xs.length ∧ toN xs ≤ xs.length) :=
  (cut_c w b o c xs hW hn).mono fun e w' h => by
    obtain ⟨rfl, hF⟩ := h
    unfold cutV
    split
    · rename_i h1
      exact ⟨0, 0, false, rfl, hF, fun _ => .inl h1, fun e => by cases e⟩
    · rename_i h1
      exact ⟨fromN xs, toN xs, decide (toN xs ≤ xs.length), rfl, hF, fun e => .inr (by have := of_decide_eq_false e; omega), fun e => ⟨rfl, rfl, by omega, of_decide_eq_true e⟩⟩
theorem take_u (w0 w1 : World) (ga b oa ca ov cv : Nat) (all v : List Int) (a : AtL) (K L : List Ent) (hG : GF w0) (hZ : GZ w0) (hWa : Win w0 b oa ca all) (hWv : Win w0 b ov cv v) (hn : all.length ≤ 100000) (hnv : v.length ≤ 100000) (h2 : 2 ≤ all.length) (ht : 1 ≤ fOf all 1 ∧ fOf all 1 ≤ 8)
    (hA : AtOwn K a) (hh0 : 0 ≤ a.has) (hh1 : a.has ≤ 511) (hb : ∀ t : Nat, fOf all 1 = t → a.has / 2 ^ t % 2 = 0) (h8 : fOf all 1 = 8 → a.cad = none ∧ a.cc = 0 ∧ a.comms = []) (hS0 : St (fun _ => False) w0 w1 (.row ga a.cells :: (K ++ L))) :
    Calls Tryz.prog 137 #[.pointer (some ⟨ga, 0, none⟩), .slice (some ⟨b, oa, none⟩) all.length ca, .slice (some ⟨b, ov, none⟩) v.length cv] w1 fun e w' => ∃ (ok : Bool) (s : Int) (d : ByteArray) (a' : AtL) (K' : List Ent),
      e = .returned (.agg (fltL (if ok then 0 else 3) s d).toArray) ∧ AtOwn K' a' ∧ a'.others = a.others ∧ a'.oad = a.oad ∧ a'.oc = a.oc ∧ (fOf all 1 = 8 ∨ (a'.cad = a.cad ∧ a'.cc = a.cc)) ∧ St (fun _ => False) w0 w' (.row ga a'.cells :: (K' ++ L)) ∧
      (ok = false → stepD a.d all v = .inr (s, d)) ∧ (ok = true → s = 0 ∧ d = ⟨#[]⟩ ∧ stepD a.d all v = .inl a'.d) := by
  obtain ⟨t, et⟩ := Int.eq_ofNat_of_zero_le (show 0 ≤ fOf all 1 by omega)
  have es : stepD a.d all v = takeD a.d all v := by unfold stepD; rw [if_pos ht]
  rw [es]
  refine (take_c w0 w1 ga b oa ca ov cv all v a K L hG hZ hWa hWv hn hnv h2 t et (by omega) (by omega) hA hh0 hh1 (hb t et) (fun e => h8 (by omega)) hS0).mono ?_
  rintro e w' ⟨a', K', hA', q1, q2, q3, q4, hS', hK, hD⟩
  cases hq : takeD a.d all v with
  | inr x =>
    obtain ⟨s, d⟩ := x
    rw [hq] at hD
    exact ⟨false, s, d, a', K', hD, hA', q1, q2, q3, q4, hS', fun _ => rfl, fun e => by cases e⟩
  | inl d =>
    rw [hq] at hD
    exact ⟨true, 0, ⟨#[]⟩, a', K', hD.1, hA', q1, q2, q3, q4, hS', (fun e => by cases e), fun _ => ⟨rfl, rfl, by rw [hD.2]⟩⟩
theorem other_u (w0 w1 : World) (ga b oa ca ov cv : Nat) (all v : List Int) (a : AtL) (E L : List Ent) (hWa : Win w0 b oa ca all) (hWv : Win w0 b ov cv v) (hn : all.length ≤ 100000) (hnv : v.length ≤ 100000) (h2 : 2 ≤ all.length) (ht : ¬ (1 ≤ fOf all 1 ∧ fOf all 1 ≤ 8))
    (hV : Vec 2 a.oad a.others.length a.oc (othsL a.others) E) (hol : a.others.length ≤ 100000) (hS0 : St (fun _ => False) w0 w1 (E ++ (.row ga a.cells :: L))) :
    Calls Tryz.prog 138 #[.pointer (some ⟨ga, 0, none⟩), .slice (some ⟨b, oa, none⟩) all.length ca, .slice (some ⟨b, ov, none⟩) v.length cv] w1 fun e w' => ∃ (ok : Bool) (s : Int) (d : ByteArray) (ad : Option Addr) (oc : Nat) (os : List OthL) (E' K : List Ent),
      e = .returned (.agg (fltL (if ok then 0 else 3) s d).toArray) ∧ Vec 2 ad os.length oc (othsL os) E' ∧ os.length ≤ a.others.length + 1 ∧ (∀ KO, (∀ o ∈ a.others, OthOwn KO o) → ∀ o ∈ os, OthOwn (K ++ KO) o) ∧ St (fun _ => False) w0 w' (E' ++ (K ++ (.row ga (AtL.cells { a with oad := ad, oc := oc, others := os }) :: L))) ∧
      (ok = false → stepD a.d all v = .inr (s, d)) ∧ (ok = true → s = 0 ∧ d = ⟨#[]⟩ ∧ stepD a.d all v = .inl (AtL.d { a with oad := ad, oc := oc, others := os })) := by
  have es : stepD a.d all v = otherD a.d all v := by unfold stepD; rw [if_neg ht]
  rw [es]
  refine (other_c w0 w1 ga b oa ca ov cv all v a E L hWa hWv hn hnv h2 hV hol hS0).mono ?_
  rintro e w' ⟨ad, oc, os, E', K, hV', hol', hO', hS', hD⟩
  cases hq : otherD a.d all v with
  | inr x =>
    obtain ⟨s, d⟩ := x
    rw [hq] at hD
    exact ⟨false, s, d, ad, oc, os, E', K, hD, hV', hol', hO', hS', fun _ => rfl, fun e => by cases e⟩
  | inl d =>
    rw [hq] at hD
    exact ⟨true, 0, ⟨#[]⟩, ad, oc, os, E', K, hD.1, hV', hol', hO', hS', (fun e => by cases e), fun _ => ⟨rfl, rfl, by rw [hD.2]⟩⟩
/-- Which have been seen. -/
def seenL (seen : List Int) : List Value := (List.range 256).map fun (i : Nat) => .bool (decide ((i : Int) ∈ seen))
theorem seenL_get (seen : List Int) {k : Nat} (hk : k < 256) : (seenL seen)[k]? = some (.bool (decide ((k : Int) ∈ seen))) := by
  unfold seenL; rw [List.getElem?_map, List.getElem?_range hk]; rfl
theorem seenL_set (seen : List Int) {x : Int} (h0 : 0 ≤ x) (h1 : x ≤ 255) : (seenL seen).set x.toNat (.bool true) = seenL (x :: seen) := by
  apply List.ext_getElem?
  intro i
  rw [List.getElem?_set]
  by_cases hi : i < 256
  · rw [seenL_get _ hi, seenL_get _ hi]
    split
    · rename_i e
      rw [if_pos (by rw [show (seenL seen).length = 256 by simp [seenL]]; omega)]
      rw [decide_eq_true (show (i : Int) ∈ x :: seen by rw [show (i : Int) = x by omega]; exact List.mem_cons_self ..)]
    · rename_i e
      congr 2
      have : (i : Int) ≠ x := by omega
      exact decide_eq_decide.2 (by simp [this])
  · have l1 : (seenL seen).length = 256 := by simp [seenL]
    have l2 : (seenL (x :: seen)).length = 256 := by simp [seenL]
    rw [if_neg (by omega), List.getElem?_eq_none (by omega), List.getElem?_eq_none (by omega)]
theorem zero_224 : Zero Tryz.prog 224 (seenL []) := Zero.mk (z := .agg (seenL []).toArray) (by kernel_rfl) rfl
/-- All that an Attrs holds lies in blocks of K. -/
structure AtAll (K : List Ent) (a : AtL) : Prop where
  own : AtOwn K a
  oths : ∃ E, Vec 2 a.oad a.others.length a.oc (othsL a.others) E ∧ ∀ e ∈ E, e ∈ K
  vals : ∀ o ∈ a.others, OthOwn K o
structure DecS where
  a : AtL
  K : List Ent
  E : List Ent
  KO : List Ent
def AtDecP (w0 w' : World) (xs : List Int) (e : Ending) : Prop :=
  match decD AtL.zero.d [] xs with
  | .inr (s, d) => e = .returned (.tuple #[.agg AtL.zero.cells.toArray, .agg (fltL 3 s d).toArray]) ∧ Frm (fun _ => False) w0 w'
  | .inl d => ∃ a K, e = .returned (.tuple #[.agg a.cells.toArray, .agg (fltL 0 0 ⟨#[]⟩).toArray]) ∧ a.d = { d with others := sortO d.others } ∧ AtAll K a ∧ St (fun _ => False) w0 w' K
set_option maxHeartbeats 4000000 in
theorem AtDecode_c (w0 : World) (b o c : Nat) (xs : List Int) (hG : GF w0) (hZ : GZ w0) (hW : Win w0 b o c xs) (hn : xs.length ≤ 90000) :
    Calls Tryz.prog 129 #[.slice (some ⟨b, o, none⟩) xs.length c] w0 fun e w' => AtDecP w0 w' xs e := by
  refine enter Tryz.func129 rfl Tryz.ntmps129 rfl (St.start (fun _ => False) w0) ?_
  refine WC.seq <| WC.region <| WL.alloc rfl zero_35 (.none rfl) rfl rfl <| ?_
  intro g2 hg2
  refine WL.alloc rfl zero_37 (.none rfl) rfl rfl ?_
  intro g3 hg3
  refine WL.nt <| WC.seq <| WC.region <| WL.alloc rfl zero_35 (.none rfl) rfl rfl <| ?_
  intro g4 hg4
  refine WL.nt <| WC.seq <| WC.region <| WL.alloc rfl zero_224 (.none rfl) rfl rfl <| ?_
  intro g5 hg5
  refine WL.as (L' := .row g5 (seenL []) :: .row g4 AtL.zero.cells :: [.row g3 (fltL 0 0 ⟨#[]⟩), .row g2 AtL.zero.cells]) (by kernel_rfl) ?_
  refine WL.to (L' := .row g4 AtL.zero.cells :: [.row g5 (seenL []), .row g3 (fltL 0 0 ⟨#[]⟩), .row g2 AtL.zero.cells]) (fun w hS => hS.perm (List.Perm.swap _ _ _)) <| WL.nt <| WC.seq <| WC.block <| ?_
  refine WC.loop (fun x : List Int × Nat × Nat × List Int × DecS => [(0, .slice (some ⟨b, x.2.1, none⟩) x.1.length x.2.2.1), (2, .pointer (some ⟨g2, 0, none⟩)), (3, .pointer (some ⟨g3, 0, none⟩)), (4, .pointer (some ⟨g4, 0, none⟩)), (5, .pointer (some ⟨g5, 0, none⟩))]) (fun x => .row g4 x.2.2.2.2.a.cells :: (x.2.2.2.2.K ++ (x.2.2.2.2.E ++ (x.2.2.2.2.KO ++ [.row g5 (seenL x.2.2.2.1), .row g3 (fltL 0 0 ⟨#[]⟩), .row g2 AtL.zero.cells])))) (fun x => x.1.length + x.2.2.2.2.a.others.length ≤ xs.length ∧ Win w0 b x.2.1 x.2.2.1 x.1 ∧ decD AtL.zero.d [] xs = decD x.2.2.2.2.a.d x.2.2.2.1 x.1 ∧ AtOwn x.2.2.2.2.K x.2.2.2.2.a ∧ Vec 2 x.2.2.2.2.a.oad x.2.2.2.2.a.others.length x.2.2.2.2.a.oc (othsL x.2.2.2.2.a.others) x.2.2.2.2.E ∧ (∀ o ∈ x.2.2.2.2.a.others, OthOwn x.2.2.2.2.KO o) ∧ SeenI x.2.2.2.2.a.d x.2.2.2.1 ∧ ((8 : Int) ∉ x.2.2.2.1 → x.2.2.2.2.a.cad = none ∧ x.2.2.2.2.a.cc = 0)) (fun x => x.1.length) (xs, o, c, [], ⟨.zero, [], [], []⟩) ⟨Nat.le_refl _, hW, rfl, AtOwn.zero, Vec.nil 2, (fun _ h => by cases h), ⟨by show (0 : Int) ≤ 0; decide, by show (0 : Int) ≤ 511; decide, fun t _ _ => by show (0 : Int) / _ % 2 = 0; simp, fun _ => rfl, List.nodup_nil, fun _ h => by cases h⟩, fun _ => ⟨rfl, rfl⟩⟩ (.cons rfl (.cons rfl (.cons rfl (.cons rfl (.cons rfl .nil))))) (.refl _) ?_
  rintro ⟨ys, o2, c2, seen, ⟨a, K, E, KO⟩⟩ ⟨hl, hW2, hy, hA, hV, hO, hSn, h8⟩
  dsimp only at hl hW2 hy hA hV hO hSn h8
  dsimp only
  have hle := hW2.le
  have h1 := fOf_b hW2.bys 1
  have hfr := fromN_b ys
  refine WC.seq <| WC.seq <| WC.region <| WL.v (v_move rfl rfl) rfl <| WL.v (v_len_slice rfl rfl Tryz.underlying25) rfl <| ?_
  refine WL.test (v_gtr rfl rfl rfl) (.none rfl) rfl rfl (fun h12 => ?_) (fun h12 => ?_)
  ·
   refine WL.nt <| WC.cond_t rfl <| WC.skip <| WE.then_n <| WC.block <| WC.seq <| WC.region <| WL.v (v_move rfl rfl) rfl <| WL.call rfl rfl ck_136 (.none rfl) rfl rfl <| ?_
   intro w1 hS
   refine (cut_u w1 b o2 c2 ys (hW2.st hS) (by omega)).mono ?_
   rintro e w' ⟨f, t, ok, rfl, hF, hok0, hok1⟩
   refine ⟨_, _, rfl, hS.ext hF, ?_⟩
   refine WL.v (v_move rfl rfl) rfl <| WL.v (v_extract rfl rfl rfl) rfl <| WL.v (v_extract rfl rfl rfl) rfl <| WL.v (v_extract rfl rfl rfl) rfl <| WL.v (v_assign rfl rfl) rfl <| WL.v (v_assign rfl rfl) rfl <| WL.v (v_assign rfl rfl) rfl <| WL.nt <| ?_
   refine WC.cut (fun _ : Unit => [(0, .slice (some ⟨b, o2, none⟩) ys.length c2), (2, .pointer (some ⟨g2, 0, none⟩)), (3, .pointer (some ⟨g3, 0, none⟩)), (4, .pointer (some ⟨g4, 0, none⟩)), (5, .pointer (some ⟨g5, 0, none⟩)), (6, .int .i64 (fromN ys)), (7, .int .i64 (toN ys))]) (fun _ => .row g4 a.cells :: (K ++ (E ++ (KO ++ [.row g5 (seenL seen), .row g3 (fltL 0 0 ⟨#[]⟩), .row g2 AtL.zero.cells])))) (fun _ => 0 < ys.length ∧ fromN ys ≤ ys.length ∧ toN ys ≤ ys.length ∧ fOf ys 1 ∉ seen) ?_ ?_
   ·
    refine WC.seq <| WC.region <| WL.v (v_move rfl rfl) rfl <| ?_
    skip
    cases ok
    ·
     refine WL.v (v_not rfl rfl rfl) rfl <| WL.v (v_move rfl rfl) rfl <| ?_
     iterate 5 refine WL.sk rfl ?_
     generalize hsn : decide ((((fOf ys 1).toNat : Nat) : Int) ∈ seen) = bs
     cases bs
     ·
      refine WL.v (v_pick_t rfl rfl rfl) rfl <| WL.nt <| WC.cond_t rfl <| WC.seq <| WC.region <| WL.v (v_build rfl rfl zero_35 plc_35 rfl) rfl <| WL.v (v_build rfl rfl zero_37 plc_37 rfl) rfl <| WL.storeW rfl rfl rfl rfl many_35 rfl rfl (.none rfl) rfl <| WL.storeW rfl rfl rfl rfl many_37 rfl rfl (.none rfl) rfl <| WL.nt <| ?_
      refine WC.ret <| WE.then_ret <| WE.block_ret <| WE.then_ret <| WE.block_ret <| WE.then_ret <| WE.ret2 (P := Tryz.prog) (.inl rfl) Tryz.results129 (resRow rfl many_35 rfl) (resRow rfl many_37 rfl) <| ?_
      have e0 : decD AtL.zero.d [] xs = .inr (1, ⟨#[]⟩) := (by rw [hy]; exact decD_bad (by omega) ((hok0 rfl).elim .inl fun h => .inr (.inl h)))
      exact fun w' h => by unfold AtDecP; rw [e0]; exact ⟨rfl, h.frm⟩
     ·
      refine WL.v (v_pick_t rfl rfl rfl) rfl <| WL.nt <| WC.cond_t rfl <| WC.seq <| WC.region <| WL.v (v_build rfl rfl zero_35 plc_35 rfl) rfl <| WL.v (v_build rfl rfl zero_37 plc_37 rfl) rfl <| WL.storeW rfl rfl rfl rfl many_35 rfl rfl (.none rfl) rfl <| WL.storeW rfl rfl rfl rfl many_37 rfl rfl (.none rfl) rfl <| WL.nt <| ?_
      refine WC.ret <| WE.then_ret <| WE.block_ret <| WE.then_ret <| WE.block_ret <| WE.then_ret <| WE.ret2 (P := Tryz.prog) (.inl rfl) Tryz.results129 (resRow rfl many_35 rfl) (resRow rfl many_37 rfl) <| ?_
      have e0 : decD AtL.zero.d [] xs = .inr (1, ⟨#[]⟩) := (by rw [hy]; exact decD_bad (by omega) ((hok0 rfl).elim .inl fun h => .inr (.inl h)))
      exact fun w' h => by unfold AtDecP; rw [e0]; exact ⟨rfl, h.frm⟩
    ·
     refine WL.v (v_not rfl rfl rfl) rfl <| WL.v (v_move rfl rfl) rfl <| ?_
     obtain ⟨rfl, rfl, hf2, ht2⟩ := hok1 rfl
     refine WL.val (v_move rfl rfl) (.some rfl rfl rfl) rfl rfl ?_
     refine WL.val (v_indexAddr (lo := 1) rfl rfl rfl Tryz.underlying25 sz_5 rfl (by omega)) (.some rfl rfl rfl) rfl rfl ?_
     refine WL.val (v_load1 rfl rfl one_5 (cellOld (fun h => h) (hW2.get (fOf_get (by omega))))) (.some rfl rfl rfl) rfl rfl ?_
     refine WL.val (v_indexAddrA (lo := (fOf ys 1).toNat) rfl rfl rfl Tryz.underlying224 sz_4 (by omega) (by omega)) (.some rfl rfl rfl) rfl rfl ?_
     refine WL.val (v_load1 rfl rfl one_4 (cellAt (by rw [Nat.zero_add, Nat.mul_one]; exact seenL_get seen (by omega)))) (.some rfl rfl rfl) rfl rfl ?_
     generalize hsn : decide ((((fOf ys 1).toNat : Nat) : Int) ∈ seen) = bs
     cases bs
     ·
      refine WL.v (v_pick_f rfl rfl rfl) rfl <| WL.nt <| WC.cond_f rfl <| WC.skip <| ?_
      exact WE.mid () ⟨by omega, hf2, ht2, by rw [show fOf ys 1 = (((fOf ys 1).toNat : Nat) : Int) by omega]; exact of_decide_eq_false hsn⟩ (.cons rfl (.cons rfl (.cons rfl (.cons rfl (.cons rfl (.cons rfl (.cons rfl .nil))))))) (.refl _)
     ·
      refine WL.v (v_pick_f rfl rfl rfl) rfl <| WL.nt <| WC.cond_t rfl <| WC.seq <| WC.region <| WL.v (v_build rfl rfl zero_35 plc_35 rfl) rfl <| WL.v (v_build rfl rfl zero_37 plc_37 rfl) rfl <| WL.storeW rfl rfl rfl rfl many_35 rfl rfl (.none rfl) rfl <| WL.storeW rfl rfl rfl rfl many_37 rfl rfl (.none rfl) rfl <| WL.nt <| ?_
      refine WC.ret <| WE.then_ret <| WE.block_ret <| WE.then_ret <| WE.block_ret <| WE.then_ret <| WE.ret2 (P := Tryz.prog) (.inl rfl) Tryz.results129 (resRow rfl many_35 rfl) (resRow rfl many_37 rfl) <| ?_
      have e0 : decD AtL.zero.d [] xs = .inr (1, ⟨#[]⟩) := (by rw [hy]; exact decD_bad (by omega) (.inr (.inr (by rw [show fOf ys 1 = (((fOf ys 1).toNat : Nat) : Int) by omega]; exact of_decide_eq_true hsn))))
      exact fun w' h => by unfold AtDecP; rw [e0]; exact ⟨rfl, h.frm⟩
   ·
    rintro _ ⟨h0, hf2, ht2, hns⟩
    have htg := toN_ge ys
    have hst := decD_step (d := a.d) (seen := seen) (xs := ys) h0 (fun h => by rcases h with h | h | h <;> first | omega | exact hns h)
    have hWa := hW2.take (toN ys)
    have hWv := hWa.drop (fromN ys)
    have hal : (ys.take (toN ys)).length = toN ys := (by rw [List.length_take]; omega)
    have hvl : ((ys.take (toN ys)).drop (fromN ys)).length = toN ys - fromN ys := (by rw [List.length_drop, hal])
    have hf1 : fOf (ys.take (toN ys)) 1 = fOf ys 1 := (by rw [fOf_take, if_pos (by omega)])
    refine WC.seq <| WC.region <| WL.v (v_move rfl rfl) rfl <| ?_
    refine WL.v (v_indexAddr (lo := 1) rfl rfl rfl Tryz.underlying25 sz_5 rfl (by omega)) rfl ?_
    refine WL.v (v_load1 rfl rfl one_5 (cellOld (fun h => h) (hW2.get (fOf_get (by omega))))) rfl ?_
    refine WL.v (v_indexAddrA (lo := (fOf ys 1).toNat) rfl rfl rfl Tryz.underlying224 sz_4 (by omega) (by omega)) rfl ?_
    refine WL.store1 rfl rfl rfl rfl one_4 (by rw [show (seenL seen).length = 256 by simp [seenL]]; omega) (.none rfl) rfl ?_
    refine WL.as (L' := .row g4 a.cells :: (K ++ (E ++ (KO ++ [.row g5 (seenL (fOf ys 1 :: seen)), .row g3 (fltL 0 0 ⟨#[]⟩), .row g2 AtL.zero.cells])))) (by rw [← seenL_set seen h1.1 h1.2, Nat.zero_add, Nat.mul_one]) ?_
    refine WL.nt <| WC.seq <| WC.region <| WL.v (v_build rfl rfl zero_37 plc_37 rfl) rfl <| WL.alloc rfl zero_37 (.none rfl) rfl rfl <| ?_
    intro g9 hg9
    refine WL.storeW rfl rfl rfl rfl many_37 rfl rfl (.none rfl) rfl <| WL.nt <| ?_
    refine WC.cut (fun y : Bool × Int × ByteArray × DecS => [(0, .slice (some ⟨b, o2, none⟩) ys.length c2), (2, .pointer (some ⟨g2, 0, none⟩)), (3, .pointer (some ⟨g3, 0, none⟩)), (4, .pointer (some ⟨g4, 0, none⟩)), (5, .pointer (some ⟨g5, 0, none⟩)), (7, .int .i64 (toN ys)), (9, .pointer (some ⟨g9, 0, none⟩))]) (fun y => .row g9 (fltL (if y.1 then 0 else 3) y.2.1 y.2.2.1) :: .row g4 y.2.2.2.a.cells :: (y.2.2.2.K ++ (y.2.2.2.E ++ (y.2.2.2.KO ++ [.row g5 (seenL (fOf ys 1 :: seen)), .row g3 (fltL 0 0 ⟨#[]⟩), .row g2 AtL.zero.cells])))) (fun y => AtOwn y.2.2.2.K y.2.2.2.a ∧ Vec 2 y.2.2.2.a.oad y.2.2.2.a.others.length y.2.2.2.a.oc (othsL y.2.2.2.a.others) y.2.2.2.E ∧ (∀ o ∈ y.2.2.2.a.others, OthOwn y.2.2.2.KO o) ∧ y.2.2.2.a.others.length ≤ a.others.length + 1 ∧ ((8 : Int) ∉ fOf ys 1 :: seen → y.2.2.2.a.cad = none ∧ y.2.2.2.a.cc = 0) ∧
    (y.1 = false → stepD a.d (ys.take (toN ys)) ((ys.take (toN ys)).drop (fromN ys)) = .inr (y.2.1, y.2.2.1)) ∧ (y.1 = true → y.2.1 = 0 ∧ y.2.2.1 = ⟨#[]⟩ ∧ stepD a.d (ys.take (toN ys)) ((ys.take (toN ys)).drop (fromN ys)) = .inl y.2.2.2.a.d)) ?_ ?_
    ·
     refine WC.seq <| WC.region <| WL.v (v_move rfl rfl) rfl <| ?_
     refine WL.v (v_indexAddr (lo := 1) rfl rfl rfl Tryz.underlying25 sz_5 rfl (by omega)) rfl ?_
     refine WL.v (v_load1 rfl rfl one_5 (cellOld (fun h => h) (hW2.get (fOf_get (by omega))))) rfl ?_
     refine WL.v (v_conv rfl rfl Tryz.underlying3 Tryz.underlying5 (w_i64 (by omega) (by omega))) rfl ?_
     refine WL.call rfl rfl ck_121 (.none rfl) rfl rfl ?_
     intro w hS
     refine Calls.then (isKnown_c w (fOf ys 1)) hS ?_
     refine WL.nt ?_
     refine WC.cond_d rfl (fun h39 => ?_) (fun h39 => ?_)
     ·
      refine WC.orders mixed ?_
      refine WR.first (g := 2) [0, 1, 2, 3, 4, 5, 6] (by kernel_rfl) (by kernel_rfl) ?_
      refine WP.val (v_move rfl rfl) (.none rfl) rfl rfl <| WP.val (v_move rfl rfl) (.none rfl) rfl rfl <| ?_
      refine WP.val ((v_slice_hi (hi := toN ys) rfl rfl rfl Tryz.underlying25 sz_5 rfl (by omega))) (.none rfl) rfl rfl ?_
      refine WP.val (v_move rfl rfl) (.none rfl) rfl rfl <| WP.val (v_move rfl rfl) (.none rfl) rfl rfl <| WP.val (v_move rfl rfl) (.none rfl) rfl rfl <| ?_
      refine WP.val ((v_slice_lh (lo := fromN ys) (hi := toN ys) rfl rfl rfl rfl Tryz.underlying25 sz_5 rfl rfl (by omega) (by omega))) (.none rfl) rfl rfl ?_
      refine WP.nil ?_
      refine WR.ones (g := 0) [7, 8] (by kernel_rfl) ?_
      refine WL.call rfl rfl ck_137 (.none rfl) rfl rfl ?_
      intro w1 hS
      have hc := take_u w0 w1 g4 b o2 c2 (sAddr o2 (fromN ys) c2 1) (c2 - fromN ys) (ys.take (toN ys)) ((ys.take (toN ys)).drop (fromN ys)) a K (.row g9 (fltL 0 0 ⟨#[]⟩) :: (E ++ (KO ++ [.row g5 (seenL (fOf ys 1 :: seen)), .row g3 (fltL 0 0 ⟨#[]⟩), .row g2 AtL.zero.cells]))) hG hZ hWa hWv (by omega) (by omega) (by omega) (by rw [hf1]; exact h39) hA hSn.h0 hSn.h1 (fun t et => hSn.bit t (by omega) (.inr (by rw [← et, hf1]; exact hns))) (fun e8 => by
        rw [hf1] at e8
        rw [e8] at hns
        exact ⟨(h8 hns).1, (h8 hns).2, hSn.com hns⟩) (St.front (R := .row g4 a.cells :: K) (L := E ++ (KO ++ [.row g5 (seenL (fOf ys 1 :: seen)), .row g3 (fltL 0 0 ⟨#[]⟩), .row g2 AtL.zero.cells])) [.row g9 (fltL 0 0 ⟨#[]⟩)] hS)
      rw [hal, hvl] at hc
      refine hc.mono ?_
      rintro e w' ⟨ok, s, d, a', K', rfl, hA', q1, q2, q3, q4, hS', hF, hT⟩
      refine ⟨_, _, rfl, hS', ?_⟩
      refine WL.storeW rfl rfl rfl rfl many_37 rfl rfl (.none rfl) rfl <| WL.as (L' := .row g4 a'.cells :: (K' ++ (.row g9 (fltL (if ok then 0 else 3) s d) :: (E ++ (KO ++ [.row g5 (seenL (fOf ys 1 :: seen)), .row g3 (fltL 0 0 ⟨#[]⟩), .row g2 AtL.zero.cells]))))) rfl <| WL.to (L' := .row g9 (fltL (if ok then 0 else 3) s d) :: .row g4 a'.cells :: (K' ++ (E ++ (KO ++ [.row g5 (seenL (fOf ys 1 :: seen)), .row g3 (fltL 0 0 ⟨#[]⟩), .row g2 AtL.zero.cells])))) (fun w hS => St.front (R := [.row g9 (fltL (if ok then 0 else 3) s d)]) (L := E ++ (KO ++ [.row g5 (seenL (fOf ys 1 :: seen)), .row g3 (fltL 0 0 ⟨#[]⟩), .row g2 AtL.zero.cells])) (.row g4 a'.cells :: K') hS) <| WL.nilR <| ?_
      refine WR.done (by kernel_rfl) ?_
      exact WE.mid (ok, s, d, ⟨a', K', E, KO⟩) ⟨hA', by dsimp only; rw [q1, q2, q3]; exact hV, by dsimp only; rw [q1]; exact hO, by dsimp only; rw [q1]; omega, fun hn8 => by
      dsimp only
      rcases q4 with q4 | q4
      · rw [hf1] at q4; rw [q4] at hn8; exact absurd (List.mem_cons_self ..) hn8
      · rw [q4.1, q4.2]; exact h8 fun hm => hn8 (List.mem_cons_of_mem _ hm), hF, hT⟩ (.cons rfl (.cons rfl (.cons rfl (.cons rfl (.cons rfl (.cons rfl (.cons rfl .nil))))))) (.refl _)
     ·
      refine WC.orders mixed ?_
      refine WR.first (g := 2) [0, 1, 2, 3, 4, 5, 6] (by kernel_rfl) (by kernel_rfl) ?_
      refine WP.val (v_move rfl rfl) (.none rfl) rfl rfl <| WP.val (v_move rfl rfl) (.none rfl) rfl rfl <| ?_
      refine WP.val ((v_slice_hi (hi := toN ys) rfl rfl rfl Tryz.underlying25 sz_5 rfl (by omega))) (.none rfl) rfl rfl ?_
      refine WP.val (v_move rfl rfl) (.none rfl) rfl rfl <| WP.val (v_move rfl rfl) (.none rfl) rfl rfl <| WP.val (v_move rfl rfl) (.none rfl) rfl rfl <| ?_
      refine WP.val ((v_slice_lh (lo := fromN ys) (hi := toN ys) rfl rfl rfl rfl Tryz.underlying25 sz_5 rfl rfl (by omega) (by omega))) (.none rfl) rfl rfl ?_
      refine WP.nil ?_
      refine WR.ones (g := 0) [7, 8] (by kernel_rfl) ?_
      refine WL.call rfl rfl ck_138 (.none rfl) rfl rfl ?_
      intro w1 hS
      have hc := other_u w0 w1 g4 b o2 c2 (sAddr o2 (fromN ys) c2 1) (c2 - fromN ys) (ys.take (toN ys)) ((ys.take (toN ys)).drop (fromN ys)) a E (.row g9 (fltL 0 0 ⟨#[]⟩) :: (K ++ (KO ++ [.row g5 (seenL (fOf ys 1 :: seen)), .row g3 (fltL 0 0 ⟨#[]⟩), .row g2 AtL.zero.cells]))) hWa hWv (by omega) (by omega) (by omega) (by rw [hf1]; exact h39) hV (by omega)
        ((St.front (R := E) (L := KO ++ [.row g5 (seenL (fOf ys 1 :: seen)), .row g3 (fltL 0 0 ⟨#[]⟩), .row g2 AtL.zero.cells]) (.row g9 (fltL 0 0 ⟨#[]⟩) :: .row g4 a.cells :: K) hS).perm (List.Perm.append_left E (List.Perm.swap _ _ _)))
      rw [hal, hvl] at hc
      refine hc.mono ?_
      rintro e w' ⟨ok, s, d, ad, oc, os, E', K2, rfl, hV', hol', hO', hS', hF, hT⟩
      refine ⟨_, _, rfl, hS', ?_⟩
      refine WL.storeW rfl rfl rfl rfl many_37 rfl rfl (.none rfl) rfl <| WL.as (L' := E' ++ (K2 ++ (.row g4 (AtL.cells { a with oad := ad, oc := oc, others := os }) :: .row g9 (fltL (if ok then 0 else 3) s d) :: (K ++ (KO ++ [.row g5 (seenL (fOf ys 1 :: seen)), .row g3 (fltL 0 0 ⟨#[]⟩), .row g2 AtL.zero.cells]))))) rfl <| ?_
      refine WL.to (L' := .row g9 (fltL (if ok then 0 else 3) s d) :: .row g4 (AtL.cells { a with oad := ad, oc := oc, others := os }) :: (K ++ (E' ++ ((K2 ++ KO) ++ [.row g5 (seenL (fOf ys 1 :: seen)), .row g3 (fltL 0 0 ⟨#[]⟩), .row g2 AtL.zero.cells])))) (fun w hS => by
        have := St.front (R := .row g4 (AtL.cells { a with oad := ad, oc := oc, others := os }) :: .row g9 (fltL (if ok then 0 else 3) s d) :: K) (L := KO ++ [.row g5 (seenL (fOf ys 1 :: seen)), .row g3 (fltL 0 0 ⟨#[]⟩), .row g2 AtL.zero.cells]) (E' ++ K2) (by simpa only [List.cons_append, List.append_assoc, List.nil_append] using hS)
        refine St.perm ?_ (List.Perm.swap _ _ _)
        simpa only [List.cons_append, List.append_assoc, List.nil_append] using this) ?_
      refine WL.nilR ?_
      refine WR.done (by kernel_rfl) ?_
      exact WE.mid (ok, s, d, ⟨{ a with oad := ad, oc := oc, others := os }, K, E', K2 ++ KO⟩) ⟨⟨hA.path, hA.segs, hA.comms⟩, hV', hO' KO hO, hol', fun hn8 => h8 fun hm => hn8 (List.mem_cons_of_mem _ hm), hF, hT⟩ (.cons rfl (.cons rfl (.cons rfl (.cons rfl (.cons rfl (.cons rfl (.cons rfl .nil))))))) (.refl _)
    ·
     rintro ⟨ok, s, d, ⟨a', K', E', KO'⟩⟩ ⟨hA', hV', hO', hlo, h8', hF, hT⟩
     dsimp only at hA' hV' hO' hlo h8' hF hT
     dsimp only
     refine WC.seq <| WC.seq <| WC.region <| WL.v (v_loadN rfl rfl many_37 rfl allAt) rfl <| ?_
     skip
     cases ok
     ·
      refine WL.v (v_build rfl rfl zero_37 plc_37 rfl) rfl ?_
      refine WL.v (v_neq_aggT rfl rfl rfl eqk_37 eqg_37 rfl rfl (by (intro h; simp [fltL] at h))) rfl ?_
      refine WL.nt <| WC.cond_t rfl <| WC.seq <| WC.orders mixed <| ?_
      refine WR.first (g := 3) [0] (by kernel_rfl) (by kernel_rfl) ?_
      refine WP.val (v_build rfl rfl zero_35 plc_35 rfl) (.none rfl) rfl rfl <| WP.nil <| ?_
      refine WR.each (g := 2) [1, 2] (by kernel_rfl) (by decide) ?_
      refine ⟨?_, ?_⟩
      ·
       refine WL.v (v_loadN rfl rfl many_37 rfl allAt) rfl <| WL.nilR <| ?_
       refine WR.ones (g := 0) [2, 3] (by kernel_rfl) ?_
       refine WL.storeW rfl rfl rfl rfl many_35 rfl rfl (.none rfl) rfl <| WL.storeW rfl rfl rfl rfl many_37 rfl rfl (.none rfl) rfl <| WL.nilR <| ?_
       refine WR.done (by kernel_rfl) ?_
       refine WE.then_n <| WC.ret <| WE.then_ret <| WE.block_ret <| WE.then_ret <| WE.block_ret <| WE.then_ret <| WE.ret2 (P := Tryz.prog) (.inl rfl) Tryz.results129 (resRow rfl many_35 rfl) (resRow rfl many_37 rfl) <| ?_
       have e0 : decD AtL.zero.d [] xs = .inr (s, d) := (by rw [hy, hst, hF rfl])
       exact fun w' h => by unfold AtDecP; rw [e0]; exact ⟨rfl, h.frm⟩
      ·
       refine WL.storeW rfl rfl rfl rfl many_35 rfl rfl (.none rfl) rfl <| WL.nilR <| ?_
       refine WR.read (g := 1) [1] (by kernel_rfl) (by kernel_rfl) (by kernel_rfl) (by kernel_rfl) rfl ?_
       refine WQ.val (v_loadN rfl rfl many_37 rfl allAt) (.none rfl) rfl rfl <| WQ.nilR <| ?_
       refine WR.ones (g := 0) [3] (by kernel_rfl) ?_
       refine WL.storeW rfl rfl rfl rfl many_37 rfl rfl (.none rfl) rfl <| WL.nilR <| ?_
       refine WR.done (by kernel_rfl) ?_
       refine WE.then_n <| WC.ret <| WE.then_ret <| WE.block_ret <| WE.then_ret <| WE.block_ret <| WE.then_ret <| WE.ret2 (P := Tryz.prog) (.inl rfl) Tryz.results129 (resRow rfl many_35 rfl) (resRow rfl many_37 rfl) <| ?_
       have e0 : decD AtL.zero.d [] xs = .inr (s, d) := (by rw [hy, hst, hF rfl])
       exact fun w' h => by unfold AtDecP; rw [e0]; exact ⟨rfl, h.frm⟩
     ·
      obtain ⟨rfl, rfl, hst2⟩ := hT rfl
      refine WL.v (v_build rfl rfl zero_37 plc_37 rfl) rfl ?_
      refine WL.v (v_neq_aggF rfl rfl rfl eqk_37 eqg_37 rfl rfl (by rfl)) rfl ?_
      refine WL.nt <| WC.cond_f rfl <| WC.skip <| WE.then_n <| WC.region <| WL.v (v_move rfl rfl) rfl <| WL.v (v_move rfl rfl) rfl <| ?_
      refine WL.v ((v_slice_lo (lo := toN ys) rfl rfl rfl Tryz.underlying25 sz_5 rfl (by omega))) rfl ?_
      refine WL.v (v_assign rfl rfl) rfl <| WL.nil <| WE.block_n <| ?_
      exact WE.next (ys.drop (toN ys), sAddr o2 (toN ys) c2 1, c2 - toN ys, fOf ys 1 :: seen, ⟨a', K', E', KO'⟩) (by dsimp only; rw [List.length_drop]; omega) ⟨by dsimp only; rw [List.length_drop]; omega, hW2.drop (toN ys), by dsimp only; rw [hy, hst, hst2], hA', hV', hO', by
      have := hSn.step (all := ys.take (toN ys)) (v := (ys.take (toN ys)).drop (fromN ys)) hWa.bys (by rw [hf1]; exact hns) hst2
      rwa [hf1] at this, h8'⟩ (.eq rfl (by dsimp only; rw [List.length_drop]) (.cons rfl (.cons rfl (.cons rfl (.cons rfl .nil))))) (.cons _ (.refl _))
  ·
   refine WL.nt <| WC.cond_f rfl <| WC.exit <| WE.then_exit <| WE.then_exit <| WE.block_hit <| WE.then_n <| WC.seq <| WC.region <| WL.v (v_fieldAddr0 rfl rfl fld_35_9) rfl <| ?_
   refine WL.v (v_load1 rfl rfl one_33 (cellAt rfl)) rfl <| WL.call rfl rfl ck_139 (.none rfl) rfl rfl <| ?_
   intro w1 hS
   refine (SortOth_c w0 w1 ((.row g4 a.cells :: K) ++ (KO ++ [.row g5 (seenL seen), .row g3 (fltL 0 0 ⟨#[]⟩), .row g2 AtL.zero.cells])) E a.oad a.oc a.others hV (St.front (R := E) (L := KO ++ [.row g5 (seenL seen), .row g3 (fltL 0 0 ⟨#[]⟩), .row g2 AtL.zero.cells]) (.row g4 a.cells :: K) hS) (by omega)).mono ?_
   rintro e w' ⟨rfl, zs, E2, hp, ha, hV2, hS'⟩
   refine ⟨_, E2 ++ (.row g4 a.cells :: (K ++ (KO ++ [.row g5 (seenL seen), .row g3 (fltL 0 0 ⟨#[]⟩), .row g2 AtL.zero.cells]))), rfl, hS', ?_⟩
   refine WL.nt <| WC.seq <| WC.region <| WL.v (v_loadN rfl rfl many_35 rfl allAt) rfl <| WL.v (v_build rfl rfl zero_37 plc_37 rfl) rfl <| WL.storeW rfl rfl rfl rfl many_35 rfl rfl (.none rfl) rfl <| WL.storeW rfl rfl rfl rfl many_37 rfl rfl (.none rfl) rfl <| WL.nt <| WC.ret <| WE.ret2 (P := Tryz.prog) (.inl rfl) Tryz.results129 (resRow rfl many_35 rfl) (resRow rfl many_37 rfl) <| ?_
   obtain rfl : ys = [] := List.length_eq_zero_iff.1 (by omega)
   have e0 : decD AtL.zero.d [] xs = .inl a.d := (by rw [hy, decD_nil])
   have hzl : a.others.length = zs.length := hp.length_eq.symm
   have ez : AtL.cells { a with others := zs } = a.cells := (by unfold AtL.cells; rw [hzl])
   refine fun w' h => ?_
   unfold AtDecP
   rw [e0]
   refine ⟨{ a with others := zs }, E2 ++ (K ++ KO), by rw [ez]; rfl, ?_, ⟨⟨?_, ?_, ?_⟩, ⟨E2, by rw [hzl] at hV2; exact hV2, fun e he => List.mem_append_left _ he⟩, ?_⟩, h.sub (List.Sublist.append_left (.cons _ (List.Sublist.append_left (List.sublist_append_left _ _) _)) _)⟩
   · have eo : zs.map othD = sortO (a.others.map othD) := sortO_is (hp.map _) hSn.nd ha
     show AtD.mk _ _ _ _ _ _ _ _ _ (zs.map othD) = AtD.mk _ _ _ _ _ _ _ _ _ (sortO (a.others.map othD))
     rw [eo]
     rfl
   · obtain ⟨E', r1, r2⟩ := hA.path
     exact ⟨E', r1, fun e he => List.mem_append_right _ (List.mem_append_left _ (r2 e he))⟩
   · intro s hs
     obtain ⟨E', r1, r2⟩ := hA.segs s hs
     exact ⟨E', r1, fun e he => List.mem_append_right _ (List.mem_append_left _ (r2 e he))⟩
   · obtain ⟨E', r1, r2⟩ := hA.comms
     exact ⟨E', r1, fun e he => List.mem_append_right _ (List.mem_append_left _ (r2 e he))⟩
   · intro o ho
     obtain ⟨E', r1, r2⟩ := hO o (hp.mem_iff.1 ho)
     exact ⟨E', r1, fun e he => List.mem_append_right _ (List.mem_append_right _ (r2 e he))⟩
end Go.Proofs.YtcmpamnhegndnaaGreatDoor
/- bgp: what an Open has behind its head. -/
namespace Go.Proofs.YtcmpamnhegndnaaGreatDoor
open Go.RowKit

theorem fOf_drop (xs : List Int) (k i : Nat) : fOf (xs.drop k) i = fOf xs (k + i) := by
  unfold fOf; rw [List.getD_eq_getElem?_getD, List.getD_eq_getElem?_getD, List.getElem?_drop]
def capD (c : CapL) : Int × List Int := (c.code, c.val)
def capsL (cs : List CapL) : List Value := cs.flatMap CapL.cells
theorem capsL_snoc (cs : List CapL) (c : CapL) : capsL (cs ++ [c]) = capsL cs ++ c.cells := by unfold capsL; rw [List.flatMap_append, List.flatMap_cons, List.flatMap_nil, List.append_nil]
def CapOwn (K : List Ent) (c : CapL) : Prop := ∃ E, BV c.ad c.cap c.val E ∧ ∀ e ∈ E, e ∈ K
/-- The capabilities of an option, behind others. -/
def capsR (acc : List (Int × List Int)) : List Int → Option (List (Int × List Int))
  | [] => some acc
  | [_] => none
  | x :: n :: xs => if xs.length < n.toNat then none else capsR (acc ++ [(x, xs.take n.toNat)]) (xs.drop n.toNat)
termination_by xs => xs.length
decreasing_by simp only [List.length_drop, List.length_cons]; omega
theorem capsR_nil (acc : List (Int × List Int)) : capsR acc [] = some acc := by rw [capsR]
theorem capsR_cons (acc : List (Int × List Int)) (x n : Int) (xs : List Int) : capsR acc (x :: n :: xs) = if xs.length < n.toNat then none else capsR (acc ++ [(x, xs.take n.toNat)]) (xs.drop n.toNat) := by rw [capsR]
theorem capsR_bad (acc : List (Int × List Int)) {ys : List Int} (h0 : 0 < ys.length) (h : ys.length < 2 ∨ (ys.length : Int) < 2 + fOf ys 1) : capsR acc ys = none := by
  match ys, h0, h with
  | [y], _, _ => rw [capsR]
  | x :: n :: zs, _, h =>
    rw [capsR_cons, if_pos]
    have e : fOf (x :: n :: zs) 1 = n := rfl
    rw [e] at h
    simp only [List.length_cons] at h
    omega
/-- The capabilities of all options, behind others; or what is wrong. -/
def optsR (acc : List (Int × List Int)) : List Int → List (Int × List Int) ⊕ Int
  | [] => .inl acc
  | [_] => .inr 0
  | x :: n :: xs => if xs.length < n.toNat then .inr 0 else if x ≠ 2 then .inr 4 else match capsR acc (xs.take n.toNat) with
    | none => .inr 0
    | some acc' => optsR acc' (xs.drop n.toNat)
termination_by xs => xs.length
decreasing_by simp only [List.length_drop, List.length_cons]; omega
theorem optsR_nil (acc : List (Int × List Int)) : optsR acc [] = .inl acc := by rw [optsR]
theorem optsR_cons (acc : List (Int × List Int)) (x n : Int) (xs : List Int) : optsR acc (x :: n :: xs) = if xs.length < n.toNat then .inr 0 else if x ≠ 2 then .inr 4 else match capsR acc (xs.take n.toNat) with
    | none => .inr 0
    | some acc' => optsR acc' (xs.drop n.toNat) := by rw [optsR]
theorem optsR_bad (acc : List (Int × List Int)) {ys : List Int} (h0 : 0 < ys.length) (h : ys.length < 2 ∨ (ys.length : Int) < 2 + fOf ys 1) : optsR acc ys = .inr 0 := by
  match ys, h0, h with
  | [y], _, _ => rw [optsR]
  | x :: n :: zs, _, h =>
    rw [optsR_cons, if_pos]
    have e : fOf (x :: n :: zs) 1 = n := rfl
    rw [e] at h
    simp only [List.length_cons] at h
    omega
def asnB (xs : List Int) : Int := fOf xs 1 * 256 + fOf xs 2
def holdB (xs : List Int) : Int := fOf xs 3 * 256 + fOf xs 4
def idB (xs : List Int) : Int := addrI ((xs.take 9).drop 5)
def s04 : ByteArray := ⟨#[0, 4]⟩
/-- The capabilities of an Open, or what is wrong: the sub, the data. -/
def openR (xs : List Int) : List (Int × List Int) ⊕ (Int × ByteArray) :=
  if fOf xs 0 ≠ 4 then .inr (1, s04)
  else if asnB xs = 0 then .inr (2, ⟨#[]⟩)
  else if holdB xs = 1 ∨ holdB xs = 2 then .inr (6, ⟨#[]⟩)
  else if idB xs = 0 then .inr (3, ⟨#[]⟩)
  else if fOf xs 9 ≠ ((xs.drop 10).length : Int) then .inr (0, ⟨#[]⟩)
  else match optsR [] (xs.drop 10) with | .inl cs => .inl cs | .inr s => .inr (s, ⟨#[]⟩)
/-- What part says, and whether. -/
theorem part_u (w : World) (b o c : Nat) (xs : List Int) (hW : Win w b o c xs) (hn : xs.length ≤ 1000000) :
    Calls Tryz.prog 126 #[.slice (some ⟨b, o, none⟩) xs.length c] w fun e w' => ∃ (x : Int) (u r : Value) (ok : Bool), e = .returned (.tuple #[.int .i64 x, u, r, .bool ok]) ∧ Frm (fun _ => False) w w' ∧
      (ok = false → xs.length < 2 ∨ (xs.length : Int) < 2 + fOf xs 1) ∧
      (ok = true → ∃ (n : Nat) (zs : List Int), xs = x :: (n : Int) :: zs ∧ n ≤ zs.length ∧ u = .slice (some ⟨b, sAddr o 2 c 1, none⟩) (zs.take n).length (c - 2) ∧ r = .slice (some ⟨b, sAddr o (2 + n) c 1, none⟩) (zs.drop n).length (c - (2 + n))) := by
  by_cases h : xs.length < 2 ∨ (xs.length : Int) < 2 + fOf xs 1
  · exact (part_no w b o c xs hW hn h).mono fun e w' ⟨he, hF⟩ => ⟨0, _, _, false, he, hF, fun _ => h, fun e => by cases e⟩
  · obtain ⟨n, en⟩ := Int.eq_ofNat_of_zero_le (fOf_b hW.bys 1).1
    refine (part_ok w b o c xs hW hn (by omega) n en.symm (by omega)).mono fun e w' ⟨he, hF⟩ => ⟨fOf xs 0, _, _, true, he, hF, fun e => (by cases e), fun _ => ?_⟩
    obtain ⟨x, y, zs, rfl⟩ := two_of (ys := xs) (by omega)
    have ey : y = n := en
    subst ey
    have hl : (x :: (n : Int) :: zs).length = zs.length + 2 := rfl
    refine ⟨n, zs, rfl, by omega, ?_, ?_⟩
    · unfold winV; rw [List.length_take, Nat.min_eq_left (by omega), Nat.add_sub_cancel_left]
    · unfold winV; rw [List.length_drop, hl]; congr 1; omega
end Go.Proofs.YtcmpamnhegndnaaGreatDoor
/- bgp: what an Open has behind its head, walked. -/
namespace Go.Proofs.YtcmpamnhegndnaaGreatDoor
open Go.RowKit

theorem Win.get2d {w : World} {b o c : Nat} {xs : List Int} (h : Win w b o c xs) (k : Nat) (hk : k + 2 ≤ xs.length) : Calls Tryz.prog 110 #[.slice (some ⟨b, sAddr o k c 1, none⟩) (xs.length - k) (c - k)] w fun e w' => e = .returned (.int .i64 (fOf xs k * 256 + fOf xs (k + 1))) ∧ Frm (fun _ => False) w w' := by
  have e := (h.drop k).get2 (by rw [List.length_drop]; omega)
  rw [List.length_drop, fOf_drop, fOf_drop] at e
  exact e
theorem Win.addrd {w : World} {b o c : Nat} {xs : List Int} (h : Win w b o c xs) (hk : 9 ≤ xs.length) : Calls Tryz.prog 125 #[.slice (some ⟨b, sAddr o 5 c 1, none⟩) (9 - 5) (c - 5)] w fun e w' => e = .returned (.int .u32 (idB xs)) ∧ Frm (fun _ => False) w w' := by
  have hl : ((xs.take 9).drop 5).length = 9 - 5 := by rw [List.length_drop, List.length_take]; omega
  have e := getAddr_c w b (sAddr o 5 c 1) (c - 5) ((xs.take 9).drop 5) ((h.take 9).drop 5) (by omega)
  rw [hl] at e
  exact e
structure CapS where
  ys : List Int
  o : Nat
  c : Nat
  cs : List CapL
  ad : Option Addr
  kc : Nat
  E : List Ent
  KO : List Ent
def MsL.opened (k : Int) (xs : List Int) (ad : Option Addr) (kc : Nat) (cs : List CapL) : MsL := { MsL.zero k with asn := asnB xs, hold := holdB xs, id := idB xs, kad := ad, kc := kc, caps := cs }
def OpenP (w0 w' : World) (gm : Nat) (k : Int) (xs : List Int) (L : List Ent) (e : Ending) : Prop :=
  ∃ (ok : Bool) (s : Int) (d : ByteArray) (ad : Option Addr) (kc : Nat) (cs : List CapL) (E K : List Ent), e = .returned (.agg (fltL (if ok then 0 else 2) s d).toArray) ∧ St (fun _ => False) w0 w' (.row gm (MsL.opened k xs ad kc cs).cells :: (E ++ (K ++ L))) ∧
    Vec 2 ad cs.length kc (capsL cs) E ∧ (∀ c ∈ cs, CapOwn K c) ∧ (ok = false → openR xs = .inr (s, d)) ∧ (ok = true → s = 0 ∧ d = ⟨#[]⟩ ∧ openR xs = .inl (cs.map capD))
set_option maxHeartbeats 4000000 in
theorem readOpen_c (w0 w1 : World) (gm b o c : Nat) (k : Int) (xs : List Int) (L : List Ent) (hW : Win w0 b o c xs) (h10 : 10 ≤ xs.length) (hn : xs.length ≤ 90000) (hS0 : St (fun _ => False) w0 w1 (.row gm (MsL.zero k).cells :: L)) :
    Calls Tryz.prog 113 #[.pointer (some ⟨gm, 0, none⟩), .slice (some ⟨b, o, none⟩) xs.length c] w1 fun e w' => OpenP w0 w' gm k xs L e := by
  have hle := hW.le
  have h9 := fOf_b hW.bys 9
  refine enter Tryz.func113 rfl Tryz.ntmps113 rfl hS0 ?_
  refine WC.seq <| WC.region <| WL.alloc rfl zero_37 (.none rfl) rfl rfl <| ?_
  intro g4 hg4
  refine WL.nt <| WC.seq <| WC.orders mixed <| ?_
  refine WR.first (g := 12) [0, 1, 2, 3, 4, 6, 7, 9, 10] (by kernel_rfl) (by kernel_rfl) ?_
  refine WP.val (v_move rfl rfl) (.none rfl) rfl rfl <| WP.val (v_move rfl rfl) (.none rfl) rfl rfl <| WP.val (v_move rfl rfl) (.none rfl) rfl rfl <| WP.val (v_move rfl rfl) (.none rfl) rfl rfl <| ?_
  refine WP.val ((v_slice_lo (lo := 1) rfl rfl rfl Tryz.underlying25 sz_5 rfl (by omega))) (.none rfl) rfl rfl ?_
  refine WP.val (v_move rfl rfl) (.none rfl) rfl rfl ?_
  refine WP.val ((v_slice_lo (lo := 3) rfl rfl rfl Tryz.underlying25 sz_5 rfl (by omega))) (.none rfl) rfl rfl ?_
  refine WP.val (v_move rfl rfl) (.none rfl) rfl rfl ?_
  refine WP.val ((v_slice_lh (lo := 5) (hi := 9) rfl rfl rfl rfl Tryz.underlying25 sz_5 rfl rfl (by omega) (by omega))) (.none rfl) rfl rfl ?_
  refine WP.nil ?_
  refine WR.read (g := 7) [5, 8, 11, 12, 13] (by kernel_rfl) (by kernel_rfl) (by kernel_rfl) (by kernel_rfl) rfl ?_
  refine WQ.call _ rfl rfl ck_110 (.none rfl) rfl rfl (fun w hS => Calls.still ((hW.st hS).get2d 1 (by omega)) hS) ?_
  refine WQ.call _ rfl rfl ck_110 (.none rfl) rfl rfl (fun w hS => Calls.still ((hW.st hS).get2d 3 (by omega)) hS) ?_
  refine WQ.call _ rfl rfl ck_125 (.none rfl) rfl rfl (fun w hS => Calls.still ((hW.st hS).addrd (by omega)) hS) ?_
  refine WQ.val (v_nilCheck rfl rfl) (.none rfl) rfl rfl <| WQ.val (v_fieldAddr0 rfl rfl fld_39_1) (.none rfl) rfl rfl <| WQ.nilR <| ?_
  refine WR.ones (g := 6) [14] (by kernel_rfl) ?_
  refine WL.store1 rfl rfl rfl rfl one_3 (Nat.le_of_ble_eq_true rfl) (.none rfl) rfl <| WL.nilR <| ?_
  refine WR.first (g := 4) [15, 16] (by kernel_rfl) (by kernel_rfl) ?_
  refine WP.val (v_nilCheck rfl rfl) (.none rfl) rfl rfl <| WP.val (v_fieldAddr0 rfl rfl fld_39_2) (.none rfl) rfl rfl <| WP.nil <| ?_
  refine WR.ones (g := 3) [17] (by kernel_rfl) ?_
  refine WL.store1 rfl rfl rfl rfl one_3 (Nat.le_of_ble_eq_true rfl) (.none rfl) rfl <| WL.nilR <| ?_
  refine WR.first (g := 1) [18, 19] (by kernel_rfl) (by kernel_rfl) ?_
  refine WP.val (v_nilCheck rfl rfl) (.none rfl) rfl rfl <| WP.val (v_fieldAddr0 rfl rfl fld_39_3) (.none rfl) rfl rfl <| WP.nil <| ?_
  refine WR.ones (g := 0) [20] (by kernel_rfl) ?_
  refine WL.store1 rfl rfl rfl rfl one_23 (Nat.le_of_ble_eq_true rfl) (.none rfl) rfl <| WL.as (L' := .row g4 (fltL 0 0 ⟨#[]⟩) :: .row gm (MsL.opened k xs none 0 []).cells :: L) rfl <| WL.nilR <| ?_
  refine WR.done (by kernel_rfl) ?_
  refine WE.then_n <| WC.seq <| WC.region <| WL.v (v_move rfl rfl) rfl <| ?_
  refine WL.v ((v_slice_lo (lo := 10) rfl rfl rfl Tryz.underlying25 sz_5 rfl (by omega))) rfl ?_
  rw [show xs.length - 10 = (xs.drop 10).length by rw [List.length_drop]]
  refine WL.v (v_assign rfl rfl) rfl <| WL.nt <| ?_
  refine WC.cut (fun _ : Unit => [(0, .pointer (some ⟨gm, 0, none⟩)), (4, .pointer (some ⟨g4, 0, none⟩)), (5, .slice (some ⟨b, sAddr o 10 c 1, none⟩) (xs.drop 10).length (c - 10))]) (fun _ => .row g4 (fltL 0 0 ⟨#[]⟩) :: .row gm (MsL.opened k xs none 0 []).cells :: L) (fun _ => openR xs = match optsR [] (xs.drop 10) with | .inl cs => .inl cs | .inr s => .inr (s, ⟨#[]⟩)) ?_ ?_
  ·
   refine WC.block <| WC.seq <| WC.region <| WL.v (v_move rfl rfl) rfl <| ?_
   refine WL.v (v_indexAddr (lo := 0) rfl rfl rfl Tryz.underlying25 sz_5 rfl (by omega)) rfl ?_
   refine WL.v (v_load1 rfl rfl one_5 (cellOld (fun h => h) (hW.get (fOf_get (by omega))))) rfl ?_
   refine WL.test (v_neq rfl rfl rfl) (.none rfl) rfl rfl (fun h38 => ?_) (fun h38 => ?_)
   ·
    refine WL.v (v_assign rfl rfl) rfl <| WL.nt <| WC.cond_t rfl <| WC.seq <| WC.region <| WL.v (v_build rfl rfl zero_37 plc_37 rfl) rfl <| WL.storeW rfl rfl rfl rfl many_37 rfl rfl (.none rfl) rfl <| WL.nt <| WC.ret <| WE.block_ret <| ?_
    refine WE.then_ret <| WE.ret1 (P := Tryz.prog) (.inl rfl) Tryz.results113 (resRow rfl many_37 rfl) <| ?_
    have e0 : openR xs = .inr (1, s04) := (by unfold openR; rw [if_pos h38])
    exact fun w' h => ⟨false, 1, s04, none, 0, [], [], [], rfl, h.sub (.cons _ (.refl _)), Vec.nil 2, (fun _ h => by cases h), fun _ => e0, fun e => by cases e⟩
   ·
    refine WL.v (v_assign rfl rfl) rfl <| WL.nt <| WC.cond_f rfl <| WC.seq <| WC.region <| WL.v (v_move rfl rfl) rfl <| WL.v (v_nilCheck rfl rfl) rfl <| WL.v (v_fieldAddr0 rfl rfl fld_39_1) rfl <| WL.v (v_load1 rfl rfl one_3 (cellAt rfl)) rfl <| ?_
    refine WL.test (v_eql rfl rfl rfl) (.none rfl) rfl rfl (fun h45 => ?_) (fun h45 => ?_)
    ·
     refine WL.v (v_assign rfl rfl) rfl <| WL.nt <| WC.cond_t rfl <| WC.seq <| WC.region <| WL.v (v_build rfl rfl zero_37 plc_37 rfl) rfl <| WL.storeW rfl rfl rfl rfl many_37 rfl rfl (.none rfl) rfl <| WL.nt <| WC.ret <| WE.block_ret <| ?_
     refine WE.then_ret <| WE.ret1 (P := Tryz.prog) (.inl rfl) Tryz.results113 (resRow rfl many_37 rfl) <| ?_
     have e0 : openR xs = .inr (2, ⟨#[]⟩) := (by unfold openR; rw [if_neg h38, if_pos (show asnB xs = 0 from h45)])
     exact fun w' h => ⟨false, 2, _, none, 0, [], [], [], rfl, h.sub (.cons _ (.refl _)), Vec.nil 2, (fun _ h => by cases h), fun _ => e0, fun e => by cases e⟩
    ·
     refine WL.v (v_assign rfl rfl) rfl <| WL.nt <| WC.cond_f rfl <| WC.seq <| WC.region <| WL.v (v_move rfl rfl) rfl <| WL.v (v_nilCheck rfl rfl) rfl <| WL.v (v_fieldAddr0 rfl rfl fld_39_2) rfl <| WL.v (v_load1 rfl rfl one_3 (cellAt rfl)) rfl <| ?_
     refine WL.test (v_eql rfl rfl rfl) (.none rfl) rfl rfl (fun h52 => ?_) (fun h52 => ?_)
     ·
      refine WL.v (v_move rfl rfl) rfl ?_
      iterate 5 refine WL.sk rfl ?_
      refine WL.v (v_pick_t rfl rfl rfl) rfl <| WL.v (v_assign rfl rfl) rfl <| WL.nt <| WC.cond_t rfl <| WC.seq <| WC.region <| WL.v (v_build rfl rfl zero_37 plc_37 rfl) rfl <| WL.storeW rfl rfl rfl rfl many_37 rfl rfl (.none rfl) rfl <| WL.nt <| WC.ret <| ?_
      refine WE.block_ret <| WE.then_ret <| WE.ret1 (P := Tryz.prog) (.inl rfl) Tryz.results113 (resRow rfl many_37 rfl) <| ?_
      have e0 : openR xs = .inr (6, ⟨#[]⟩) := (by unfold openR; rw [if_neg h38, if_neg (show ¬ asnB xs = 0 from h45), if_pos (show holdB xs = 1 ∨ holdB xs = 2 from .inl h52)])
      exact fun w' h => ⟨false, 6, _, none, 0, [], [], [], rfl, h.sub (.cons _ (.refl _)), Vec.nil 2, (fun _ h => by cases h), fun _ => e0, fun e => by cases e⟩
     ·
      refine WL.v (v_move rfl rfl) rfl <| WL.val (v_move rfl rfl) (.some rfl rfl rfl) rfl rfl <| WL.val (v_nilCheck rfl rfl) (.some rfl rfl rfl) rfl rfl <| WL.val (v_fieldAddr0 rfl rfl fld_39_2) (.some rfl rfl rfl) rfl rfl <| WL.val (v_load1 rfl rfl one_3 (cellAt rfl)) (.some rfl rfl rfl) rfl rfl <| ?_
      refine WL.test (v_eql rfl rfl rfl) (.some rfl rfl rfl) rfl rfl (fun h58 => ?_) (fun h58 => ?_)
      ·
       refine WL.v (v_pick_f rfl rfl rfl) rfl <| WL.v (v_assign rfl rfl) rfl <| WL.nt <| WC.cond_t rfl <| WC.seq <| WC.region <| WL.v (v_build rfl rfl zero_37 plc_37 rfl) rfl <| WL.storeW rfl rfl rfl rfl many_37 rfl rfl (.none rfl) rfl <| WL.nt <| WC.ret <| ?_
       refine WE.block_ret <| WE.then_ret <| WE.ret1 (P := Tryz.prog) (.inl rfl) Tryz.results113 (resRow rfl many_37 rfl) <| ?_
       have e0 : openR xs = .inr (6, ⟨#[]⟩) := (by unfold openR; rw [if_neg h38, if_neg (show ¬ asnB xs = 0 from h45), if_pos (show holdB xs = 1 ∨ holdB xs = 2 from .inr h58)])
       exact fun w' h => ⟨false, 6, _, none, 0, [], [], [], rfl, h.sub (.cons _ (.refl _)), Vec.nil 2, (fun _ h => by cases h), fun _ => e0, fun e => by cases e⟩
      ·
       refine WL.v (v_pick_f rfl rfl rfl) rfl <| WL.v (v_assign rfl rfl) rfl <| WL.nt <| WC.cond_f rfl <| WC.seq <| WC.region <| WL.v (v_move rfl rfl) rfl <| WL.v (v_nilCheck rfl rfl) rfl <| WL.v (v_fieldAddr0 rfl rfl fld_39_3) rfl <| WL.v (v_load1 rfl rfl one_23 (cellAt rfl)) rfl <| ?_
       refine WL.test (v_eql rfl rfl rfl) (.none rfl) rfl rfl (fun h66 => ?_) (fun h66 => ?_)
       ·
        refine WL.v (v_assign rfl rfl) rfl <| WL.nt <| WC.cond_t rfl <| WC.seq <| WC.region <| WL.v (v_build rfl rfl zero_37 plc_37 rfl) rfl <| WL.storeW rfl rfl rfl rfl many_37 rfl rfl (.none rfl) rfl <| WL.nt <| WC.ret <| WE.block_ret <| ?_
        refine WE.then_ret <| WE.ret1 (P := Tryz.prog) (.inl rfl) Tryz.results113 (resRow rfl many_37 rfl) <| ?_
        have e0 : openR xs = .inr (3, ⟨#[]⟩) := (by unfold openR; rw [if_neg h38, if_neg (show ¬ asnB xs = 0 from h45), if_neg (show ¬ (holdB xs = 1 ∨ holdB xs = 2) from fun h => h.elim h52 h58), if_pos (show idB xs = 0 from h66)])
        exact fun w' h => ⟨false, 3, _, none, 0, [], [], [], rfl, h.sub (.cons _ (.refl _)), Vec.nil 2, (fun _ h => by cases h), fun _ => e0, fun e => by cases e⟩
       ·
        refine WL.v (v_assign rfl rfl) rfl <| WL.nt <| WC.cond_f rfl <| WC.seq <| WC.region <| WL.v (v_move rfl rfl) rfl <| ?_
        refine WL.v (v_indexAddr (lo := 9) rfl rfl rfl Tryz.underlying25 sz_5 rfl (by omega)) rfl ?_
        refine WL.v (v_load1 rfl rfl one_5 (cellOld (fun h => h) (hW.get (fOf_get (by omega))))) rfl ?_
        refine WL.v (v_conv rfl rfl Tryz.underlying3 Tryz.underlying5 (w_i64 (by omega) (by omega))) rfl ?_
        refine WL.v (v_move rfl rfl) rfl <| WL.v (v_len_slice rfl rfl Tryz.underlying25) rfl <| ?_
        refine WL.test (v_neq rfl rfl rfl) (.none rfl) rfl rfl (fun h75 => ?_) (fun h75 => ?_)
        ·
         refine WL.v (v_assign rfl rfl) rfl <| WL.nt <| WC.cond_t rfl <| WC.seq <| WC.region <| WL.v (v_build rfl rfl zero_37 plc_37 rfl) rfl <| WL.storeW rfl rfl rfl rfl many_37 rfl rfl (.none rfl) rfl <| WL.nt <| WC.ret <| WE.block_ret <| ?_
         refine WE.then_ret <| WE.ret1 (P := Tryz.prog) (.inl rfl) Tryz.results113 (resRow rfl many_37 rfl) <| ?_
         have e0 : openR xs = .inr (0, ⟨#[]⟩) := (by unfold openR; rw [if_neg h38, if_neg (show ¬ asnB xs = 0 from h45), if_neg (show ¬ (holdB xs = 1 ∨ holdB xs = 2) from fun h => h.elim h52 h58), if_neg (show ¬ idB xs = 0 from h66), if_pos h75])
         exact fun w' h => ⟨false, 0, _, none, 0, [], [], [], rfl, h.sub (.cons _ (.refl _)), Vec.nil 2, (fun _ h => by cases h), fun _ => e0, fun e => by cases e⟩
        ·
         refine WL.v (v_assign rfl rfl) rfl <| WL.nt <| WC.cond_f rfl <| WC.skip <| WE.block_n <| ?_
         exact WE.mid () (by unfold openR; rw [if_neg h38, if_neg (show ¬ asnB xs = 0 from h45), if_neg (show ¬ (holdB xs = 1 ∨ holdB xs = 2) from fun h => h.elim h52 h58), if_neg (show ¬ idB xs = 0 from h66), if_neg h75]; try (cases optsR [] (xs.drop 10) <;> rfl)) (.cons rfl (.cons rfl (.cons rfl .nil))) (.refl _)
  ·
   intro _ hop
   refine WC.seq <| WC.block <| ?_
   refine WC.loop (fun x : CapS => [(0, .pointer (some ⟨gm, 0, none⟩)), (4, .pointer (some ⟨g4, 0, none⟩)), (5, .slice (some ⟨b, x.o, none⟩) x.ys.length x.c)]) (fun x => x.E ++ (.row g4 (fltL 0 0 ⟨#[]⟩) :: .row gm (MsL.opened k xs x.ad x.kc x.cs).cells :: (x.KO ++ L))) (fun x => x.cs.length + x.ys.length ≤ xs.length ∧ Win w0 b x.o x.c x.ys ∧ optsR [] (xs.drop 10) = optsR (x.cs.map capD) x.ys ∧ Vec 2 x.ad x.cs.length x.kc (capsL x.cs) x.E ∧ ∀ c ∈ x.cs, CapOwn x.KO c) (fun x => x.ys.length) ⟨xs.drop 10, sAddr o 10 c 1, c - 10, [], none, 0, [], []⟩ ⟨by simp, hW.drop 10, rfl, Vec.nil 2, fun _ h => by cases h⟩ (.cons rfl (.cons rfl (.cons rfl .nil))) (.refl _) ?_
   rintro ⟨ys, o2, c2, cs, ad, kc, E, KO⟩ ⟨hl, hW2, hy, hV, hO⟩
   dsimp only at hl hW2 hy hV hO
   dsimp only
   refine WC.seq <| WC.seq <| WC.region <| WL.v (v_move rfl rfl) rfl <| WL.v (v_len_slice rfl rfl Tryz.underlying25) rfl <| ?_
   refine WL.test (v_gtr rfl rfl rfl) (.none rfl) rfl rfl (fun h79 => ?_) (fun h79 => ?_)
   ·
    refine WL.nt <| WC.cond_t rfl <| WC.skip <| WE.then_n <| WC.block <| WC.seq <| WC.region <| WL.v (v_move rfl rfl) rfl <| WL.call rfl rfl ck_126 (.none rfl) rfl rfl <| ?_
    intro w1 hS
    refine (part_u w1 b o2 c2 ys (hW2.st hS) (by omega)).mono ?_
    rintro e w' ⟨x, u, r, ok, rfl, hF, hbad, hok⟩
    refine ⟨_, _, rfl, hS.ext hF, ?_⟩
    refine WL.v (v_move rfl rfl) rfl <| WL.v (v_extract rfl rfl rfl) rfl <| WL.v (v_extract rfl rfl rfl) rfl <| WL.v (v_extract rfl rfl rfl) rfl <| WL.v (v_extract rfl rfl rfl) rfl <| WL.v (v_assign rfl rfl) rfl <| WL.v (v_assign rfl rfl) rfl <| WL.v (v_assign rfl rfl) rfl <| WL.v (v_assign rfl rfl) rfl <| WL.nt <| ?_
    refine WC.seq <| WC.seq <| WC.region <| WL.v (v_move rfl rfl) rfl <| ?_
    skip
    cases ok
    ·
     refine WL.v (v_not rfl rfl rfl) rfl <| WL.nt <| WC.cond_t rfl <| WC.seq <| WC.region <| WL.v (v_build rfl rfl zero_37 plc_37 rfl) rfl <| WL.storeW rfl rfl rfl rfl many_37 rfl rfl (.none rfl) rfl <| WL.nt <| WC.ret <| WE.then_ret <| ?_
     refine WE.block_ret <| WE.then_ret <| WE.block_ret <| WE.then_ret <| WE.ret1 (P := Tryz.prog) (.inl rfl) Tryz.results113 (resRow rfl many_37 rfl) <| ?_
     have e0 : openR xs = .inr (0, ⟨#[]⟩) := (by rw [hop, hy, optsR_bad _ (by omega) (hbad rfl)])
     exact fun w' h => ⟨false, 0, _, ad, kc, cs, E, KO, rfl, by
       have := St.front (R := [.row gm (MsL.opened k xs ad kc cs).cells]) (L := KO ++ L) E (h.sub (List.Sublist.append_left (.cons _ (.refl _)) _))
       exact this, hV, hO, fun _ => e0, fun e => by cases e⟩
    ·
     refine WL.v (v_not rfl rfl rfl) rfl <| WL.nt <| WC.cond_f rfl <| WC.skip <| WE.then_n <| WC.seq <| WC.seq <| WC.region <| ?_
     obtain ⟨n, zs, rfl, hnz, rfl, rfl⟩ := hok rfl
     have hcl : (x :: (n : Int) :: zs).length = zs.length + 2 := rfl
     rw [optsR_cons, Int.toNat_natCast, if_neg (by omega)] at hy
     have htl : (zs.take n).length = n := (by rw [List.length_take]; omega)
     have hdl : (zs.drop n).length = zs.length - n := (by rw [List.length_drop])
     refine WL.v (v_move rfl rfl) rfl ?_
     refine WL.test (v_neq rfl rfl rfl) (.none rfl) rfl rfl (fun h91 => ?_) (fun h91 => ?_)
     ·
      refine WL.nt <| WC.cond_t rfl <| WC.seq <| WC.region <| WL.v (v_build rfl rfl zero_37 plc_37 rfl) rfl <| WL.storeW rfl rfl rfl rfl many_37 rfl rfl (.none rfl) rfl <| WL.nt <| WC.ret <| WE.then_ret <| WE.block_ret <| ?_
      refine WE.then_ret <| WE.block_ret <| WE.then_ret <| WE.ret1 (P := Tryz.prog) (.inl rfl) Tryz.results113 (resRow rfl many_37 rfl) <| ?_
      have e0 : openR xs = .inr (4, ⟨#[]⟩) := (by rw [hop, hy, if_pos h91])
      exact fun w' h => ⟨false, 4, _, ad, kc, cs, E, KO, rfl, by
        have := St.front (R := [.row gm (MsL.opened k xs ad kc cs).cells]) (L := KO ++ L) E (h.sub (List.Sublist.append_left (.cons _ (.refl _)) _))
        exact this, hV, hO, fun _ => e0, fun e => by cases e⟩
     ·
      refine WL.nt <| WC.cond_f rfl <| WC.skip <| WE.then_n <| WC.seq <| WC.block <| ?_
      refine WC.loop (fun y : CapS => [(0, .pointer (some ⟨gm, 0, none⟩)), (4, .pointer (some ⟨g4, 0, none⟩)), (7, .slice (some ⟨b, y.o, none⟩) y.ys.length y.c), (8, .slice (some ⟨b, sAddr o2 (2 + n) c2 1, none⟩) (zs.drop n).length (c2 - (2 + n)))]) (fun y => y.E ++ (.row g4 (fltL 0 0 ⟨#[]⟩) :: .row gm (MsL.opened k xs y.ad y.kc y.cs).cells :: (y.KO ++ L))) (fun y => y.cs.length + y.ys.length + (zs.drop n).length ≤ xs.length ∧ Win w0 b y.o y.c y.ys ∧ capsR (cs.map capD) (zs.take n) = capsR (y.cs.map capD) y.ys ∧ Vec 2 y.ad y.cs.length y.kc (capsL y.cs) y.E ∧ ∀ c ∈ y.cs, CapOwn y.KO c) (fun y => y.ys.length) ⟨zs.take n, sAddr o2 2 c2 1, c2 - 2, cs, ad, kc, E, KO⟩ ⟨by dsimp only; omega, by
      have h1 := (hW2.take (2 + n)).drop 2
      rwa [show ((x :: (n : Int) :: zs).take (2 + n)).drop 2 = zs.take n by rw [show 2 + n = n + 1 + 1 by omega]; rfl] at h1, rfl, hV, hO⟩ (.cons rfl (.cons rfl (.cons rfl (.cons rfl .nil)))) (.refl _) ?_
      rintro ⟨vs, o3, c3, ds, ad2, kc2, E2, KO2⟩ ⟨hl3, hW3, hy3, hV3, hO3⟩
      dsimp only at hl3 hW3 hy3 hV3 hO3
      dsimp only
      refine WC.seq <| WC.seq <| WC.region <| WL.v (v_move rfl rfl) rfl <| WL.v (v_len_slice rfl rfl Tryz.underlying25) rfl <| ?_
      refine WL.test (v_gtr rfl rfl rfl) (.none rfl) rfl rfl (fun h95 => ?_) (fun h95 => ?_)
      ·
       refine WL.nt <| WC.cond_t rfl <| WC.skip <| WE.then_n <| WC.block <| WC.seq <| WC.region <| WL.v (v_move rfl rfl) rfl <| WL.call rfl rfl ck_126 (.none rfl) rfl rfl <| ?_
       intro w1 hS
       refine (part_u w1 b o3 c3 vs (hW3.st hS) (by omega)).mono ?_
       rintro e w' ⟨x3, u3, r3, ok3, rfl, hF3, hbad3, hok3⟩
       refine ⟨_, _, rfl, hS.ext hF3, ?_⟩
       refine WL.v (v_move rfl rfl) rfl <| WL.v (v_extract rfl rfl rfl) rfl <| WL.v (v_extract rfl rfl rfl) rfl <| WL.v (v_extract rfl rfl rfl) rfl <| WL.v (v_extract rfl rfl rfl) rfl <| WL.v (v_assign rfl rfl) rfl <| WL.v (v_assign rfl rfl) rfl <| WL.v (v_assign rfl rfl) rfl <| WL.v (v_assign rfl rfl) rfl <| WL.nt <| ?_
       refine WC.seq <| WC.seq <| WC.region <| WL.v (v_move rfl rfl) rfl <| ?_
       skip
       cases ok3
       ·
        refine WL.v (v_not rfl rfl rfl) rfl <| WL.nt <| WC.cond_t rfl <| WC.seq <| WC.region <| WL.v (v_build rfl rfl zero_37 plc_37 rfl) rfl <| WL.storeW rfl rfl rfl rfl many_37 rfl rfl (.none rfl) rfl <| WL.nt <| WC.ret <| WE.then_ret <| ?_
        refine WE.block_ret <| WE.then_ret <| WE.block_ret <| WE.then_ret <| WE.block_ret <| WE.then_ret <| WE.block_ret <| WE.then_ret <| WE.ret1 (P := Tryz.prog) (.inl rfl) Tryz.results113 (resRow rfl many_37 rfl) <| ?_
        have e0 : openR xs = .inr (0, ⟨#[]⟩) := (by rw [hop, hy, if_neg (by omega), hy3, capsR_bad _ (by omega) (hbad3 rfl)])
        exact fun w' h => ⟨false, 0, _, ad2, kc2, ds, E2, KO2, rfl, by
          have := St.front (R := [.row gm (MsL.opened k xs ad2 kc2 ds).cells]) (L := KO2 ++ L) E2 (h.sub (List.Sublist.append_left (.cons _ (.refl _)) _))
          exact this, hV3, hO3, fun _ => e0, fun e => by cases e⟩
       ·
        refine WL.v (v_not rfl rfl rfl) rfl <| WL.nt <| WC.cond_f rfl <| WC.skip <| WE.then_n <| WC.seq <| WC.orders mixed <| ?_
        refine WR.first (g := 8) [0, 1, 2, 3, 5, 6] (by kernel_rfl) (by kernel_rfl) ?_
        obtain ⟨n3, zs3, rfl, hnz3, rfl, rfl⟩ := hok3 rfl
        have hcl3 : (x3 :: (n3 : Int) :: zs3).length = zs3.length + 2 := rfl
        rw [capsR_cons, Int.toNat_natCast, if_neg (by omega)] at hy3
        have htl3 : (zs3.take n3).length = n3 := (by rw [List.length_take]; omega)
        have hdl3 : (zs3.drop n3).length = zs3.length - n3 := (by rw [List.length_drop])
        have hx3 := hW3.bys x3 (List.mem_cons_self ..)
        have hWv : Win w0 b (sAddr o3 2 c3 1) (c3 - 2) (zs3.take n3) := (by
          have h1 := (hW3.take (2 + n3)).drop 2
          rwa [show ((x3 :: (n3 : Int) :: zs3).take (2 + n3)).drop 2 = zs3.take n3 by rw [show 2 + n3 = n3 + 1 + 1 by omega]; rfl] at h1)
        refine WP.val (v_move rfl rfl) (.none rfl) rfl rfl <| WP.val (v_move rfl rfl) (.none rfl) rfl rfl <| WP.val (v_nilCheck rfl rfl) (.none rfl) rfl rfl <| WP.val (v_fieldAddr0 rfl rfl fld_39_4) (.none rfl) rfl rfl <| WP.val (v_move rfl rfl) (.none rfl) rfl rfl <| WP.val (v_move rfl rfl) (.none rfl) rfl rfl <| WP.nil <| ?_
        refine WR.each (g := 7) [4, 7] (by kernel_rfl) (by decide) ?_
        refine ⟨?_, ?_⟩
        ·
         refine WL.v (v_load1 rfl rfl one_29 (cellAt (v := .slice ad2 ds.length kc2) rfl)) rfl <| WL.nilR <| ?_
         refine WR.ones (g := 6) [7] (by kernel_rfl) ?_
         refine WL.call rfl rfl ck_86 (.none rfl) rfl rfl ?_
         intro w1 hS
         refine (CloneB_c w1 b (sAddr o3 2 c3 1) (c3 - 2) (zs3.take n3) (hWv.st hS) (by omega)).mono ?_
         rintro e w' ⟨_, rfl, ad113, c113, E113, rfl, hV113, hS'⟩
         refine ⟨_, _, rfl, hS.join hS', ?_⟩
         refine WL.nilR ?_
         refine WR.first (g := 5) [8] (by kernel_rfl) (by kernel_rfl) ?_
         refine WP.val (v_build rfl rfl zero_140 plc_140 rfl) (.none rfl) rfl rfl <| WP.nil <| ?_
         refine WR.ones (g := 3) [9, 10] (by kernel_rfl) ?_
         refine WL.buildSlice rfl rfl Tryz.underlying29 sz_140 zero_140 rfl (by decide) rfl (.none rfl) rfl rfl ?_
         intro g115 hg115
         refine WL.as (L' := .row g115 (CapL.cells ⟨x3, ad113, c113, zs3.take n3⟩) :: (E113 ++ (E2 ++ (.row g4 (fltL 0 0 ⟨#[]⟩) :: .row gm (MsL.opened k xs ad2 kc2 ds).cells :: (KO2 ++ L))))) rfl ?_
         refine WL.to (L' := E2 ++ (.row g115 (CapL.cells ⟨x3, ad113, c113, zs3.take n3⟩) :: (E113 ++ (.row g4 (fltL 0 0 ⟨#[]⟩) :: .row gm (MsL.opened k xs ad2 kc2 ds).cells :: (KO2 ++ L))))) (fun w hS => by
           have := St.front (R := E2) (L := .row g4 (fltL 0 0 ⟨#[]⟩) :: .row gm (MsL.opened k xs ad2 kc2 ds).cells :: (KO2 ++ L)) (.row g115 (CapL.cells ⟨x3, ad113, c113, zs3.take n3⟩) :: E113) (by simpa only [List.cons_append, List.append_assoc, List.nil_append] using hS)
           simpa only [List.cons_append, List.append_assoc, List.nil_append] using this) ?_
         refine WL.appendL rfl rfl rfl Tryz.underlying29 Tryz.underlying29 sz_140 by_140 zero_140 rfl rfl hV3 (new := CapL.cells ⟨x3, ad113, c113, zs3.take n3⟩) (fun _ => ⟨g115, 0, rfl, fun w hS => allAt (g := g115) w hS⟩) rfl rfl (by omega) (.none rfl) rfl rfl ?_
         intro ad116 c116 E116 hV116 hr116
         rw [← capsL_snoc] at hV116
         rw [show ds.length + 1 = (ds ++ [(⟨x3, ad113, c113, zs3.take n3⟩ : CapL)]).length by rw [List.length_append]; rfl] at hV116 ⊢
         refine WL.nilR ?_
         refine WR.first (g := 1) [11, 12] (by kernel_rfl) (by kernel_rfl) ?_
         refine WP.val (v_nilCheck rfl rfl) (.none rfl) rfl rfl <| WP.val (v_fieldAddr0 rfl rfl fld_39_4) (.none rfl) rfl rfl <| WP.nil <| ?_
         refine WR.ones (g := 0) [13] (by kernel_rfl) ?_
         refine WL.store1 rfl rfl rfl rfl one_29 (Nat.le_of_ble_eq_true rfl) (.none rfl) rfl <| WL.as (L' := E116 ++ (.row g115 (CapL.cells ⟨x3, ad113, c113, zs3.take n3⟩) :: (E113 ++ (.row g4 (fltL 0 0 ⟨#[]⟩) :: .row gm (MsL.opened k xs ad116 c116 (ds ++ [⟨x3, ad113, c113, zs3.take n3⟩])).cells :: (KO2 ++ L))))) rfl <| ?_
         refine WL.to (L' := E116 ++ (.row g4 (fltL 0 0 ⟨#[]⟩) :: .row gm (MsL.opened k xs ad116 c116 (ds ++ [⟨x3, ad113, c113, zs3.take n3⟩])).cells :: ((E113 ++ KO2) ++ L))) (fun w hS => by
           have h1 : St (fun _ => False) w0 w (E116 ++ (E113 ++ (.row g4 (fltL 0 0 ⟨#[]⟩) :: .row gm (MsL.opened k xs ad116 c116 (ds ++ [⟨x3, ad113, c113, zs3.take n3⟩])).cells :: (KO2 ++ L)))) := hS.sub (List.Sublist.append_left (.cons _ (.refl _)) _)
           refine h1.perm (List.Perm.append_left E116 ?_)
           have := List.perm_append_comm_assoc E113 [.row g4 (fltL 0 0 ⟨#[]⟩), .row gm (MsL.opened k xs ad116 c116 (ds ++ [⟨x3, ad113, c113, zs3.take n3⟩])).cells] (KO2 ++ L)
           simpa only [List.cons_append, List.append_assoc, List.nil_append] using this.symm) ?_
         refine WL.nilR ?_
         refine WR.done (by kernel_rfl) ?_
         refine WE.then_n <| WC.region <| WL.v (v_move rfl rfl) rfl <| WL.v (v_assign rfl rfl) rfl <| WL.nil <| WE.block_n <| ?_
         exact WE.next ⟨zs3.drop n3, sAddr o3 (2 + n3) c3 1, c3 - (2 + n3), ds ++ [⟨x3, ad113, c113, zs3.take n3⟩], ad116, c116, E116, E113 ++ KO2⟩ (by dsimp only; omega) ⟨by dsimp only; rw [List.length_append, List.length_cons, List.length_nil]; omega, by
         have h1 := hW3.drop (2 + n3)
         rwa [show (x3 :: (n3 : Int) :: zs3).drop (2 + n3) = zs3.drop n3 by rw [show 2 + n3 = n3 + 1 + 1 by omega]; rfl] at h1, by dsimp only; rw [hy3, List.map_append]; rfl, hV116, fun c hc => by
         rcases List.mem_append.1 hc with hc | hc
         · obtain ⟨E', r1, r2⟩ := hO3 c hc
           exact ⟨E', r1, fun e he => List.mem_append_right _ (r2 e he)⟩
         · rcases List.mem_cons.1 hc with rfl | hc
           · exact ⟨E113, hV113, fun e he => List.mem_append_left _ he⟩
           · cases hc⟩ (.cons rfl (.cons rfl (.cons rfl (.cons rfl .nil)))) (.refl _)
        ·
         refine WL.call rfl rfl ck_86 (.none rfl) rfl rfl ?_
         intro w1 hS
         refine (CloneB_c w1 b (sAddr o3 2 c3 1) (c3 - 2) (zs3.take n3) (hWv.st hS) (by omega)).mono ?_
         rintro e w' ⟨_, rfl, ad113, c113, E113, rfl, hV113, hS'⟩
         refine ⟨_, _, rfl, hS.join hS', ?_⟩
         refine WL.nilR ?_
         refine WR.first (g := 6) [8] (by kernel_rfl) (by kernel_rfl) ?_
         refine WP.val (v_build rfl rfl zero_140 plc_140 rfl) (.none rfl) rfl rfl <| WP.nil <| ?_
         refine WR.each (g := 5) [4, 9] (by kernel_rfl) (by decide) ?_
         refine ⟨?_, ?_⟩
         ·
          refine WL.v (v_load1 rfl rfl one_29 (cellAt (v := .slice ad2 ds.length kc2) rfl)) rfl <| WL.nilR <| ?_
          refine WR.ones (g := 3) [9, 10] (by kernel_rfl) ?_
          refine WL.buildSlice rfl rfl Tryz.underlying29 sz_140 zero_140 rfl (by decide) rfl (.none rfl) rfl rfl ?_
          intro g115 hg115
          refine WL.as (L' := .row g115 (CapL.cells ⟨x3, ad113, c113, zs3.take n3⟩) :: (E113 ++ (E2 ++ (.row g4 (fltL 0 0 ⟨#[]⟩) :: .row gm (MsL.opened k xs ad2 kc2 ds).cells :: (KO2 ++ L))))) rfl ?_
          refine WL.to (L' := E2 ++ (.row g115 (CapL.cells ⟨x3, ad113, c113, zs3.take n3⟩) :: (E113 ++ (.row g4 (fltL 0 0 ⟨#[]⟩) :: .row gm (MsL.opened k xs ad2 kc2 ds).cells :: (KO2 ++ L))))) (fun w hS => by
            have := St.front (R := E2) (L := .row g4 (fltL 0 0 ⟨#[]⟩) :: .row gm (MsL.opened k xs ad2 kc2 ds).cells :: (KO2 ++ L)) (.row g115 (CapL.cells ⟨x3, ad113, c113, zs3.take n3⟩) :: E113) (by simpa only [List.cons_append, List.append_assoc, List.nil_append] using hS)
            simpa only [List.cons_append, List.append_assoc, List.nil_append] using this) ?_
          refine WL.appendL rfl rfl rfl Tryz.underlying29 Tryz.underlying29 sz_140 by_140 zero_140 rfl rfl hV3 (new := CapL.cells ⟨x3, ad113, c113, zs3.take n3⟩) (fun _ => ⟨g115, 0, rfl, fun w hS => allAt (g := g115) w hS⟩) rfl rfl (by omega) (.none rfl) rfl rfl ?_
          intro ad116 c116 E116 hV116 hr116
          rw [← capsL_snoc] at hV116
          rw [show ds.length + 1 = (ds ++ [(⟨x3, ad113, c113, zs3.take n3⟩ : CapL)]).length by rw [List.length_append]; rfl] at hV116 ⊢
          refine WL.nilR ?_
          refine WR.first (g := 1) [11, 12] (by kernel_rfl) (by kernel_rfl) ?_
          refine WP.val (v_nilCheck rfl rfl) (.none rfl) rfl rfl <| WP.val (v_fieldAddr0 rfl rfl fld_39_4) (.none rfl) rfl rfl <| WP.nil <| ?_
          refine WR.ones (g := 0) [13] (by kernel_rfl) ?_
          refine WL.store1 rfl rfl rfl rfl one_29 (Nat.le_of_ble_eq_true rfl) (.none rfl) rfl <| WL.as (L' := E116 ++ (.row g115 (CapL.cells ⟨x3, ad113, c113, zs3.take n3⟩) :: (E113 ++ (.row g4 (fltL 0 0 ⟨#[]⟩) :: .row gm (MsL.opened k xs ad116 c116 (ds ++ [⟨x3, ad113, c113, zs3.take n3⟩])).cells :: (KO2 ++ L))))) rfl <| ?_
          refine WL.to (L' := E116 ++ (.row g4 (fltL 0 0 ⟨#[]⟩) :: .row gm (MsL.opened k xs ad116 c116 (ds ++ [⟨x3, ad113, c113, zs3.take n3⟩])).cells :: ((E113 ++ KO2) ++ L))) (fun w hS => by
            have h1 : St (fun _ => False) w0 w (E116 ++ (E113 ++ (.row g4 (fltL 0 0 ⟨#[]⟩) :: .row gm (MsL.opened k xs ad116 c116 (ds ++ [⟨x3, ad113, c113, zs3.take n3⟩])).cells :: (KO2 ++ L)))) := hS.sub (List.Sublist.append_left (.cons _ (.refl _)) _)
            refine h1.perm (List.Perm.append_left E116 ?_)
            have := List.perm_append_comm_assoc E113 [.row g4 (fltL 0 0 ⟨#[]⟩), .row gm (MsL.opened k xs ad116 c116 (ds ++ [⟨x3, ad113, c113, zs3.take n3⟩])).cells] (KO2 ++ L)
            simpa only [List.cons_append, List.append_assoc, List.nil_append] using this.symm) ?_
          refine WL.nilR ?_
          refine WR.done (by kernel_rfl) ?_
          refine WE.then_n <| WC.region <| WL.v (v_move rfl rfl) rfl <| WL.v (v_assign rfl rfl) rfl <| WL.nil <| WE.block_n <| ?_
          exact WE.next ⟨zs3.drop n3, sAddr o3 (2 + n3) c3 1, c3 - (2 + n3), ds ++ [⟨x3, ad113, c113, zs3.take n3⟩], ad116, c116, E116, E113 ++ KO2⟩ (by dsimp only; omega) ⟨by dsimp only; rw [List.length_append, List.length_cons, List.length_nil]; omega, by
          have h1 := hW3.drop (2 + n3)
          rwa [show (x3 :: (n3 : Int) :: zs3).drop (2 + n3) = zs3.drop n3 by rw [show 2 + n3 = n3 + 1 + 1 by omega]; rfl] at h1, by dsimp only; rw [hy3, List.map_append]; rfl, hV116, fun c hc => by
          rcases List.mem_append.1 hc with hc | hc
          · obtain ⟨E', r1, r2⟩ := hO3 c hc
            exact ⟨E', r1, fun e he => List.mem_append_right _ (r2 e he)⟩
          · rcases List.mem_cons.1 hc with rfl | hc
            · exact ⟨E113, hV113, fun e he => List.mem_append_left _ he⟩
            · cases hc⟩ (.cons rfl (.cons rfl (.cons rfl (.cons rfl .nil)))) (.refl _)
         ·
          refine WL.buildSlice rfl rfl Tryz.underlying29 sz_140 zero_140 rfl (by decide) rfl (.none rfl) rfl rfl ?_
          intro g115 hg115
          refine WL.as (L' := .row g115 (CapL.cells ⟨x3, ad113, c113, zs3.take n3⟩) :: (E113 ++ (E2 ++ (.row g4 (fltL 0 0 ⟨#[]⟩) :: .row gm (MsL.opened k xs ad2 kc2 ds).cells :: (KO2 ++ L))))) rfl ?_
          refine WL.to (L' := E2 ++ (.row g115 (CapL.cells ⟨x3, ad113, c113, zs3.take n3⟩) :: (E113 ++ (.row g4 (fltL 0 0 ⟨#[]⟩) :: .row gm (MsL.opened k xs ad2 kc2 ds).cells :: (KO2 ++ L))))) (fun w hS => by
            have := St.front (R := E2) (L := .row g4 (fltL 0 0 ⟨#[]⟩) :: .row gm (MsL.opened k xs ad2 kc2 ds).cells :: (KO2 ++ L)) (.row g115 (CapL.cells ⟨x3, ad113, c113, zs3.take n3⟩) :: E113) (by simpa only [List.cons_append, List.append_assoc, List.nil_append] using hS)
            simpa only [List.cons_append, List.append_assoc, List.nil_append] using this) ?_
          refine WL.nilR ?_
          refine WR.read (g := 4) [4] (by kernel_rfl) (by kernel_rfl) (by kernel_rfl) (by kernel_rfl) rfl ?_
          refine WQ.val (v_load1 rfl rfl one_29 (cellAt (v := .slice ad2 ds.length kc2) rfl)) (.none rfl) rfl rfl <| WQ.nilR <| ?_
          refine WR.ones (g := 3) [10] (by kernel_rfl) ?_
          refine WL.appendL rfl rfl rfl Tryz.underlying29 Tryz.underlying29 sz_140 by_140 zero_140 rfl rfl hV3 (new := CapL.cells ⟨x3, ad113, c113, zs3.take n3⟩) (fun _ => ⟨g115, 0, rfl, fun w hS => allAt (g := g115) w hS⟩) rfl rfl (by omega) (.none rfl) rfl rfl ?_
          intro ad116 c116 E116 hV116 hr116
          rw [← capsL_snoc] at hV116
          rw [show ds.length + 1 = (ds ++ [(⟨x3, ad113, c113, zs3.take n3⟩ : CapL)]).length by rw [List.length_append]; rfl] at hV116 ⊢
          refine WL.nilR ?_
          refine WR.first (g := 1) [11, 12] (by kernel_rfl) (by kernel_rfl) ?_
          refine WP.val (v_nilCheck rfl rfl) (.none rfl) rfl rfl <| WP.val (v_fieldAddr0 rfl rfl fld_39_4) (.none rfl) rfl rfl <| WP.nil <| ?_
          refine WR.ones (g := 0) [13] (by kernel_rfl) ?_
          refine WL.store1 rfl rfl rfl rfl one_29 (Nat.le_of_ble_eq_true rfl) (.none rfl) rfl <| WL.as (L' := E116 ++ (.row g115 (CapL.cells ⟨x3, ad113, c113, zs3.take n3⟩) :: (E113 ++ (.row g4 (fltL 0 0 ⟨#[]⟩) :: .row gm (MsL.opened k xs ad116 c116 (ds ++ [⟨x3, ad113, c113, zs3.take n3⟩])).cells :: (KO2 ++ L))))) rfl <| ?_
          refine WL.to (L' := E116 ++ (.row g4 (fltL 0 0 ⟨#[]⟩) :: .row gm (MsL.opened k xs ad116 c116 (ds ++ [⟨x3, ad113, c113, zs3.take n3⟩])).cells :: ((E113 ++ KO2) ++ L))) (fun w hS => by
            have h1 : St (fun _ => False) w0 w (E116 ++ (E113 ++ (.row g4 (fltL 0 0 ⟨#[]⟩) :: .row gm (MsL.opened k xs ad116 c116 (ds ++ [⟨x3, ad113, c113, zs3.take n3⟩])).cells :: (KO2 ++ L)))) := hS.sub (List.Sublist.append_left (.cons _ (.refl _)) _)
            refine h1.perm (List.Perm.append_left E116 ?_)
            have := List.perm_append_comm_assoc E113 [.row g4 (fltL 0 0 ⟨#[]⟩), .row gm (MsL.opened k xs ad116 c116 (ds ++ [⟨x3, ad113, c113, zs3.take n3⟩])).cells] (KO2 ++ L)
            simpa only [List.cons_append, List.append_assoc, List.nil_append] using this.symm) ?_
          refine WL.nilR ?_
          refine WR.done (by kernel_rfl) ?_
          refine WE.then_n <| WC.region <| WL.v (v_move rfl rfl) rfl <| WL.v (v_assign rfl rfl) rfl <| WL.nil <| WE.block_n <| ?_
          exact WE.next ⟨zs3.drop n3, sAddr o3 (2 + n3) c3 1, c3 - (2 + n3), ds ++ [⟨x3, ad113, c113, zs3.take n3⟩], ad116, c116, E116, E113 ++ KO2⟩ (by dsimp only; omega) ⟨by dsimp only; rw [List.length_append, List.length_cons, List.length_nil]; omega, by
          have h1 := hW3.drop (2 + n3)
          rwa [show (x3 :: (n3 : Int) :: zs3).drop (2 + n3) = zs3.drop n3 by rw [show 2 + n3 = n3 + 1 + 1 by omega]; rfl] at h1, by dsimp only; rw [hy3, List.map_append]; rfl, hV116, fun c hc => by
          rcases List.mem_append.1 hc with hc | hc
          · obtain ⟨E', r1, r2⟩ := hO3 c hc
            exact ⟨E', r1, fun e he => List.mem_append_right _ (r2 e he)⟩
          · rcases List.mem_cons.1 hc with rfl | hc
            · exact ⟨E113, hV113, fun e he => List.mem_append_left _ he⟩
            · cases hc⟩ (.cons rfl (.cons rfl (.cons rfl (.cons rfl .nil)))) (.refl _)
      ·
       refine WL.nt <| WC.cond_f rfl <| WC.exit <| WE.then_exit <| WE.then_exit <| WE.block_hit <| WE.then_n <| WC.region <| WL.v (v_move rfl rfl) rfl <| WL.v (v_assign rfl rfl) rfl <| ?_
       refine WL.nil <| WE.block_n <| ?_
       obtain rfl : vs = [] := List.length_eq_zero_iff.1 (by omega)
       exact WE.next ⟨zs.drop n, sAddr o2 (2 + n) c2 1, c2 - (2 + n), ds, ad2, kc2, E2, KO2⟩ (by dsimp only; omega) ⟨by dsimp only; simp only [List.length_nil] at hl3; omega, by
         have h1 := hW2.drop (2 + n)
         rwa [show (x :: (n : Int) :: zs).drop (2 + n) = zs.drop n by rw [show 2 + n = n + 1 + 1 by omega]; rfl] at h1, by dsimp only; rw [hy, if_neg h91, hy3, capsR_nil], hV3, hO3⟩ (.cons rfl (.cons rfl (.cons rfl .nil))) (.refl _)
   ·
    refine WL.nt <| WC.cond_f rfl <| WC.exit <| WE.then_exit <| WE.then_exit <| WE.block_hit <| WE.then_n <| WC.seq <| WC.region <| WL.v (v_build rfl rfl zero_37 plc_37 rfl) rfl <| ?_
    refine WL.storeW rfl rfl rfl rfl many_37 rfl rfl (.none rfl) rfl <| WL.nt <| WC.ret <| WE.ret1 (P := Tryz.prog) (.inl rfl) Tryz.results113 (resRow rfl many_37 rfl) <| ?_
    obtain rfl : ys = [] := List.length_eq_zero_iff.1 (by omega)
    have e0 : openR xs = .inl (cs.map capD) := (by rw [hop, hy, optsR_nil])
    exact fun w' h => ⟨true, 0, _, ad, kc, cs, E, KO, rfl, by
      have := St.front (R := [.row gm (MsL.opened k xs ad kc cs).cells]) (L := KO ++ L) E (h.sub (List.Sublist.append_left (.cons _ (.refl _)) _))
      exact this, hV, hO, fun e => (by cases e), fun _ => ⟨rfl, rfl, e0⟩⟩
end Go.Proofs.YtcmpamnhegndnaaGreatDoor
/- bgp: what an Update has behind its head. -/
namespace Go.Proofs.YtcmpamnhegndnaaGreatDoor
open Go.RowKit

/-- The bytes behind a length of two bytes, and what is behind them. -/
def countR (xs : List Int) : Option (List Int × List Int) :=
  if xs.length < 2 ∨ (xs.length : Int) < 2 + (fOf xs 0 * 256 + fOf xs 1) then none else some ((xs.drop 2).take (fOf xs 0 * 256 + fOf xs 1).toNat, xs.drop (2 + (fOf xs 0 * 256 + fOf xs 1).toNat))
theorem netsR_len : ∀ (n : Nat) {xs : List Int} {ps : List PfL}, xs.length ≤ n → netsR xs = some ps → ps.length ≤ xs.length
  | _, [], ps, _, h => by rw [netsR] at h; cases h; exact Nat.le_refl _
  | 0, x :: xs, ps, hn, h => by simp at hn
  | n + 1, x :: xs, ps, hn, h => by
    rw [netsR_cons] at h
    split at h
    · cases h
    · obtain ⟨q, hq, rfl⟩ := Option.map_eq_some_iff.1 h
      rw [List.length_cons] at hn
      have := netsR_len n (by rw [List.length_drop]; omega) hq
      rw [List.length_drop] at this
      simp only [List.length_cons]; omega
theorem counted_u (w : World) (b o c : Nat) (xs : List Int) (hW : Win w b o c xs) (hn : xs.length ≤ 1000000) :
    Calls Tryz.prog 127 #[.slice (some ⟨b, o, none⟩) xs.length c] w fun e w' => ∃ (u r : Value) (ok : Bool), e = .returned (.tuple #[u, r, .bool ok]) ∧ Frm (fun _ => False) w w' ∧ (ok = false → countR xs = none) ∧
      (ok = true → ∃ (y z : List Int) (o1 c1 o2 c2 : Nat), countR xs = some (y, z) ∧ y.length ≤ xs.length ∧ z.length ≤ xs.length ∧ u = .slice (some ⟨b, o1, none⟩) y.length c1 ∧ r = .slice (some ⟨b, o2, none⟩) z.length c2 ∧ ∀ w0, Win w0 b o c xs → Win w0 b o1 c1 y ∧ Win w0 b o2 c2 z) := by
  by_cases h : xs.length < 2 ∨ (xs.length : Int) < 2 + (fOf xs 0 * 256 + fOf xs 1)
  · exact (counted_no w b o c xs hW hn h).mono fun e w' ⟨he, hF⟩ => ⟨_, _, false, he, hF, fun _ => by unfold countR; rw [if_pos h], fun e => by cases e⟩
  · have b0 := fOf_b hW.bys 0
    have b1 := fOf_b hW.bys 1
    obtain ⟨k, ek⟩ := Int.eq_ofNat_of_zero_le (show 0 ≤ fOf xs 0 * 256 + fOf xs 1 by omega)
    refine (counted_ok w b o c xs hW hn (by omega) k ek.symm (by omega)).mono fun e w' ⟨he, hF⟩ => ⟨_, _, true, he, hF, fun e => (by cases e), fun _ => ?_⟩
    have hl : ((xs.drop 2).take k).length = k := by rw [List.length_take, List.length_drop]; omega
    refine ⟨(xs.drop 2).take k, xs.drop (2 + k), sAddr o 2 c 1, c - 2, sAddr o (2 + k) c 1, c - (2 + k), by unfold countR; rw [if_neg h, ek, Int.toNat_natCast], by omega, by rw [List.length_drop]; omega, ?_, ?_, fun w0 hW0 => ⟨(hW0.drop 2).take k, hW0.drop (2 + k)⟩⟩
    · unfold winV; rw [hl, Nat.add_sub_cancel_left]
    · unfold winV; rw [List.length_drop]
theorem getNets_u (w0 : World) (b o c : Nat) (xs : List Int) (hW : Win w0 b o c xs) (hn : xs.length ≤ 100000) :
    Calls Tryz.prog 128 #[.slice (some ⟨b, o, none⟩) xs.length c] w0 fun e w' => ∃ (ps : List PfL) (ad : Option Addr) (c' : Nat) (E : List Ent) (ok : Bool), e = .returned (.tuple #[.slice ad ps.length c', .bool ok]) ∧ Vec 2 ad ps.length c' (pfsL ps) E ∧ St (fun _ => False) w0 w' E ∧ (ok = false → netsR xs = none) ∧ (ok = true → netsR xs = some ps) :=
  (getNets_c w0 b o c xs hW hn).mono fun e w' h => by
    unfold NetsP at h
    cases hp : netsR xs with
    | none =>
      rw [hp] at h
      exact ⟨[], none, 0, [], false, h.1, Vec.nil 2, (St.start _ _).ext h.2, fun _ => rfl, fun e => by cases e⟩
    | some ps =>
      rw [hp] at h
      obtain ⟨ad, c', E, he, hV, hS⟩ := h
      exact ⟨ps, ad, c', E, true, he, hV, hS, (fun e => by cases e), fun _ => rfl⟩
theorem AtDecode_u (w0 : World) (b o c : Nat) (xs : List Int) (hG : GF w0) (hZ : GZ w0) (hW : Win w0 b o c xs) (hn : xs.length ≤ 90000) :
    Calls Tryz.prog 129 #[.slice (some ⟨b, o, none⟩) xs.length c] w0 fun e w' => ∃ (ok : Bool) (s : Int) (d : ByteArray) (a : AtL) (K : List Ent), e = .returned (.tuple #[.agg a.cells.toArray, .agg (fltL (if ok then 0 else 3) s d).toArray]) ∧ AtAll K a ∧ St (fun _ => False) w0 w' K ∧
      (ok = false → decD AtL.zero.d [] xs = .inr (s, d)) ∧ (ok = true → s = 0 ∧ d = ⟨#[]⟩ ∧ ∃ dd, decD AtL.zero.d [] xs = .inl dd ∧ a.d = { dd with others := sortO dd.others }) :=
  (AtDecode_c w0 b o c xs hG hZ hW hn).mono fun e w' h => by
    unfold AtDecP at h
    cases hp : decD AtL.zero.d [] xs with
    | inr x =>
      obtain ⟨s, d⟩ := x
      rw [hp] at h
      exact ⟨false, s, d, .zero, [], h.1, ⟨AtOwn.zero, ⟨[], Vec.nil 2, fun _ h => by cases h⟩, fun _ h => by cases h⟩, (St.start _ _).ext h.2, fun _ => rfl, fun e => by cases e⟩
    | inl dd =>
      rw [hp] at h
      obtain ⟨a, K, he, ha, hA, hS⟩ := h
      exact ⟨true, 0, ⟨#[]⟩, a, K, he, hA, hS, (fun e => by cases e), fun _ => ⟨rfl, rfl, dd, rfl, ha⟩⟩
theorem AtAll.mono {K K' : List Ent} {a : AtL} (h : AtAll K a) (hm : ∀ e ∈ K, e ∈ K') : AtAll K' a := by
  obtain ⟨h1, ⟨E, r1, r2⟩, h3⟩ := h
  exact ⟨h1.mono hm, ⟨E, r1, fun e he => hm e (r2 e he)⟩, fun o ho => by obtain ⟨E, q1, q2⟩ := h3 o ho; exact ⟨E, q1, fun e he => hm e (q2 e he)⟩⟩
/-- All that a message holds lies in blocks of K. -/
structure MsAll (K : List Ent) (m : MsL) : Prop where
  caps : ∃ E, Vec 2 m.kad m.caps.length m.kc (capsL m.caps) E ∧ ∀ e ∈ E, e ∈ K
  vals : ∀ c ∈ m.caps, CapOwn K c
  gone : ∃ E, Vec 2 m.gad m.gone.length m.gc (pfsL m.gone) E ∧ ∀ e ∈ E, e ∈ K
  nets : ∃ E, Vec 2 m.nad m.nets.length m.nc (pfsL m.nets) E ∧ ∀ e ∈ E, e ∈ K
  at_ : AtAll K m.atr
theorem AtAll.zero : AtAll [] .zero := ⟨AtOwn.zero, ⟨[], Vec.nil 2, fun _ h => by cases h⟩, fun _ h => by cases h⟩
theorem MsAll.zero (k : Int) : MsAll [] (.zero k) := ⟨⟨[], Vec.nil 2, fun _ h => by cases h⟩, (fun _ h => by cases h), ⟨[], Vec.nil 2, fun _ h => by cases h⟩, ⟨[], Vec.nil 2, fun _ h => by cases h⟩, AtAll.zero⟩
def oneS (x : Int) : ByteArray := str (fun _ => x) 1
/-- The routes of an Update, or what is wrong. -/
def updR (xs : List Int) : (List PfL × AtD × List PfL) ⊕ (Int × Int × ByteArray) :=
  match countR xs with
  | none => .inr (3, 1, ⟨#[]⟩)
  | some (g, r) => match countR r with
    | none => .inr (3, 1, ⟨#[]⟩)
    | some (s, n) => match netsR g with
      | none => .inr (3, 1, ⟨#[]⟩)
      | some gs => match decD AtL.zero.d [] s with
        | .inr (s, d) => .inr (3, s, d)
        | .inl a => match netsR n with
          | none => .inr (3, 10, ⟨#[]⟩)
          | some ns => if 200 < gs.length ∨ 200 < ns.length then .inr (6, 1, ⟨#[]⟩) else if missI a.has ≠ 0 ∧ 0 < ns.length then .inr (3, 3, oneS (missI a.has)) else .inl (gs, { a with others := sortO a.others }, ns)
theorem missI_b (h : Int) : 0 ≤ missI h ∧ missI h ≤ 3 := by unfold missI; split <;> (try split) <;> (try split) <;> omega
def MsL.upd (k : Int) (gad : Option Addr) (gc : Nat) (gone : List PfL) (atr : AtL) (nad : Option Addr) (nc : Nat) (nets : List PfL) : MsL := { MsL.zero k with gad := gad, gc := gc, gone := gone, atr := atr, nad := nad, nc := nc, nets := nets }
def UpdP (w0 w' : World) (gm : Nat) (k : Int) (xs : List Int) (L : List Ent) (e : Ending) : Prop :=
  ∃ (ok : Bool) (c s : Int) (d : ByteArray) (gad : Option Addr) (gc : Nat) (gs : List PfL) (a : AtL) (nad : Option Addr) (nc : Nat) (ns : List PfL) (K : List Ent), e = .returned (.agg (fltL c s d).toArray) ∧ St (fun _ => False) w0 w' (.row gm (MsL.upd k gad gc gs a nad nc ns).cells :: (K ++ L)) ∧ MsAll K (MsL.upd k gad gc gs a nad nc ns) ∧
    (ok = false → c ≠ 0 ∧ updR xs = .inr (c, s, d)) ∧ (ok = true → c = 0 ∧ s = 0 ∧ d = ⟨#[]⟩ ∧ updR xs = .inl (gs, a.d, ns))
set_option maxHeartbeats 4000000 in
theorem readUpdate_c (w0 w1 : World) (gm b o c : Nat) (k : Int) (xs : List Int) (L : List Ent) (hG : GF w0) (hZ : GZ w0) (hW : Win w0 b o c xs) (hn : xs.length ≤ 90000) (hS0 : St (fun _ => False) w0 w1 (.row gm (MsL.zero k).cells :: L)) :
    Calls Tryz.prog 114 #[.pointer (some ⟨gm, 0, none⟩), .slice (some ⟨b, o, none⟩) xs.length c] w1 fun e w' => UpdP w0 w' gm k xs L e := by
  refine enter Tryz.func114 rfl Tryz.ntmps114 rfl hS0 ?_
  refine WC.seq <| WC.region <| WL.alloc rfl zero_37 (.none rfl) rfl rfl <| ?_
  intro g4 hg4
  refine WL.nt <| WC.seq <| WC.region <| WL.v (v_move rfl rfl) rfl <| WL.call rfl rfl ck_127 (.none rfl) rfl rfl <| ?_
  intro w1 hS
  refine (counted_u w1 b o c xs (hW.st hS) (by omega)).mono ?_
  rintro e w' ⟨u1, r1, ok1, rfl, hF, hbad1, hok1⟩
  refine ⟨_, _, rfl, hS.ext hF, ?_⟩
  refine WL.v (v_move rfl rfl) rfl <| WL.v (v_extract rfl rfl rfl) rfl <| WL.v (v_extract rfl rfl rfl) rfl <| WL.v (v_extract rfl rfl rfl) rfl <| WL.v (v_assign rfl rfl) rfl <| WL.v (v_assign rfl rfl) rfl <| WL.v (v_assign rfl rfl) rfl <| WL.nt <| WC.seq <| WC.seq <| ?_
  refine WC.region <| WL.v (v_move rfl rfl) rfl <| ?_
  skip
  cases ok1
  ·
   refine WL.v (v_not rfl rfl rfl) rfl <| WL.nt <| WC.cond_t rfl <| WC.seq <| WC.region <| WL.v (v_build rfl rfl zero_37 plc_37 rfl) rfl <| WL.storeW rfl rfl rfl rfl many_37 rfl rfl (.none rfl) rfl <| WL.nt <| WC.ret <| WE.then_ret <| ?_
   refine WE.ret1 (P := Tryz.prog) (.inl rfl) Tryz.results114 (resRow rfl many_37 rfl) ?_
   have e0 : updR xs = .inr (3, 1, ⟨#[]⟩) := (by unfold updR; rw [hbad1 rfl])
   exact fun w' h => ⟨false, 3, 1, _, none, 0, [], .zero, none, 0, [], [], rfl, h.sub (.cons _ (.refl _)), MsAll.zero k, fun _ => ⟨by decide, e0⟩, fun e => by cases e⟩
  ·
   refine WL.v (v_not rfl rfl rfl) rfl <| WL.nt <| WC.cond_f rfl <| WC.skip <| WE.then_n <| WC.seq <| WC.region <| ?_
   obtain ⟨xg, xr, o1, c1, o2, c2, ec1, lg, lr, rfl, rfl, hWW⟩ := hok1 rfl
   obtain ⟨hWg, hWr⟩ := hWW w0 hW
   refine WL.v (v_move rfl rfl) rfl <| WL.call rfl rfl ck_127 (.none rfl) rfl rfl <| ?_
   intro w1 hS
   refine (counted_u w1 b o2 c2 xr (hWr.st hS) (by omega)).mono ?_
   rintro e w' ⟨u2, r2, ok2, rfl, hF2, hbad2, hok2⟩
   refine ⟨_, _, rfl, hS.ext hF2, ?_⟩
   refine WL.v (v_move rfl rfl) rfl <| WL.v (v_extract rfl rfl rfl) rfl <| WL.v (v_extract rfl rfl rfl) rfl <| WL.v (v_extract rfl rfl rfl) rfl <| WL.v (v_assign rfl rfl) rfl <| WL.v (v_assign rfl rfl) rfl <| WL.v (v_assign rfl rfl) rfl <| WL.nt <| WC.seq <| WC.seq <| ?_
   refine WC.region <| WL.v (v_move rfl rfl) rfl <| ?_
   skip
   cases ok2
   ·
    refine WL.v (v_not rfl rfl rfl) rfl <| WL.nt <| WC.cond_t rfl <| WC.seq <| WC.region <| WL.v (v_build rfl rfl zero_37 plc_37 rfl) rfl <| WL.storeW rfl rfl rfl rfl many_37 rfl rfl (.none rfl) rfl <| WL.nt <| WC.ret <| WE.then_ret <| ?_
    refine WE.ret1 (P := Tryz.prog) (.inl rfl) Tryz.results114 (resRow rfl many_37 rfl) ?_
    have e0 : updR xs = .inr (3, 1, ⟨#[]⟩) := (by unfold updR; rw [ec1]; dsimp only; rw [hbad2 rfl])
    exact fun w' h => ⟨false, 3, 1, _, none, 0, [], .zero, none, 0, [], [], rfl, h.sub (.cons _ (.refl _)), MsAll.zero k, fun _ => ⟨by decide, e0⟩, fun e => by cases e⟩
   ·
    refine WL.v (v_not rfl rfl rfl) rfl <| WL.nt <| WC.cond_f rfl <| WC.skip <| WE.then_n <| WC.seq <| WC.seq <| WC.region <| ?_
    obtain ⟨xs2, xn, o3, c3, o4, c4, ec2, ls, ln, rfl, rfl, hWW2⟩ := hok2 rfl
    obtain ⟨hWs, hWn⟩ := hWW2 w0 hWr
    refine WL.v (v_move rfl rfl) rfl <| WL.v (v_move rfl rfl) rfl <| WL.call rfl rfl ck_128 (.none rfl) rfl rfl <| ?_
    intro w1 hS
    refine (getNets_u w1 b o1 c1 xg (hWg.st hS) (by omega)).mono ?_
    rintro e w' ⟨gs, gad, gc, Eg, ok3, rfl, hVg, hSg, hbad3, hok3⟩
    refine ⟨_, _, rfl, hS.join hSg, ?_⟩
    refine WL.v (v_move rfl rfl) rfl <| WL.v (v_extract rfl rfl rfl) rfl <| WL.v (v_extract rfl rfl rfl) rfl <| WL.v (v_nilCheck rfl rfl) rfl <| WL.v (v_fieldAddr0 rfl rfl fld_39_5) rfl <| WL.store1 rfl rfl rfl rfl one_30 (Nat.le_of_ble_eq_true rfl) (.none rfl) rfl <| WL.as (L' := Eg ++ (.row g4 (fltL 0 0 ⟨#[]⟩) :: .row gm (MsL.upd k gad gc gs .zero none 0 []).cells :: L)) rfl <| WL.v (v_assign rfl rfl) rfl <| WL.nt <| WC.seq <| ?_
    refine WC.region <| WL.v (v_move rfl rfl) rfl <| ?_
    skip
    cases ok3
    ·
     refine WL.v (v_not rfl rfl rfl) rfl <| WL.nt <| WC.cond_t rfl <| WC.seq <| WC.region <| WL.v (v_build rfl rfl zero_37 plc_37 rfl) rfl <| WL.storeW rfl rfl rfl rfl many_37 rfl rfl (.none rfl) rfl <| WL.nt <| WC.ret <| WE.then_ret <| ?_
     refine WE.ret1 (P := Tryz.prog) (.inl rfl) Tryz.results114 (resRow rfl many_37 rfl) ?_
     have e0 : updR xs = .inr (3, 1, ⟨#[]⟩) := (by unfold updR; rw [ec1]; dsimp only; rw [ec2]; dsimp only; rw [hbad3 rfl])
     exact fun w' h => ⟨false, 3, 1, _, gad, gc, gs, .zero, none, 0, [], Eg, rfl, St.front (R := [.row gm (MsL.upd k gad gc gs .zero none 0 []).cells]) (L := L) Eg (h.sub (List.Sublist.append_left (.cons _ (.refl _)) _)), ⟨⟨[], Vec.nil 2, fun _ h => by cases h⟩, (fun _ h => by cases h), ⟨Eg, hVg, fun _ h => h⟩, ⟨[], Vec.nil 2, fun _ h => by cases h⟩, AtAll.zero.mono fun _ h => by cases h⟩, fun _ => ⟨by decide, e0⟩, fun e => by cases e⟩
    ·
     refine WL.v (v_not rfl rfl rfl) rfl <| WL.nt <| WC.cond_f rfl <| WC.skip <| WE.then_n <| WC.seq <| WC.region <| WL.v (v_move rfl rfl) rfl <| WL.call rfl rfl ck_129 (.none rfl) rfl rfl <| ?_
     intro w1 hS
     refine (AtDecode_u w1 b o3 c3 xs2 (hG.keep (fun h => h) hS) (hZ.keep (fun h => h) hS) (hWs.st hS) (by omega)).mono ?_
     rintro e w' ⟨ok4, s4, d4, a, Ka, rfl, hAa, hSa, hbad4, hok4⟩
     refine ⟨_, _, rfl, hS.join hSa, ?_⟩
     refine WL.v (v_move rfl rfl) rfl <| WL.v (v_extract rfl rfl rfl) rfl <| WL.v (v_extract rfl rfl rfl) rfl <| WL.alloc rfl zero_35 (.none rfl) rfl rfl <| ?_
     intro g9 hg9
     refine WL.alloc rfl zero_37 (.none rfl) rfl rfl ?_
     intro g10 hg10
     refine WL.storeW rfl rfl rfl rfl many_35 rfl rfl (.none rfl) rfl <| WL.storeW rfl rfl rfl rfl many_37 rfl rfl (.none rfl) rfl <| WL.as (L' := .row g10 (fltL (if ok4 then 0 else 3) s4 d4) :: .row g9 a.cells :: (Ka ++ (Eg ++ (.row g4 (fltL 0 0 ⟨#[]⟩) :: .row gm (MsL.upd k gad gc gs .zero none 0 []).cells :: L)))) rfl <| WL.nt <| WC.seq <| WC.seq <| WC.region <| WL.v (v_loadN rfl rfl many_37 rfl allAt) rfl <| ?_
     skip
     cases ok4
     ·
      refine WL.v (v_build rfl rfl zero_37 plc_37 rfl) rfl ?_
      refine WL.v (v_neq_aggT rfl rfl rfl eqk_37 eqg_37 rfl rfl (by (intro h; simp [fltL] at h))) rfl ?_
      refine WL.nt <| WC.cond_t rfl <| WC.seq <| WC.region <| WL.v (v_loadN rfl rfl many_37 rfl allAt) rfl <| WL.storeW rfl rfl rfl rfl many_37 rfl rfl (.none rfl) rfl <| WL.nt <| WC.ret <| WE.then_ret <| WE.ret1 (P := Tryz.prog) (.inl rfl) Tryz.results114 (resRow rfl many_37 rfl) <| ?_
      have e0 : updR xs = .inr (3, s4, d4) := (by unfold updR; rw [ec1]; dsimp only; rw [ec2]; dsimp only; rw [hok3 rfl]; dsimp only; rw [hbad4 rfl])
      exact fun w' h => ⟨false, 3, s4, d4, gad, gc, gs, .zero, none, 0, [], Eg, rfl, St.front (R := [.row gm (MsL.upd k gad gc gs .zero none 0 []).cells]) (L := L) Eg (h.sub (.cons _ (.cons _ (List.sublist_append_of_sublist_right (List.Sublist.append_left (.cons _ (.refl _)) _))))), ⟨⟨[], Vec.nil 2, fun _ h => by cases h⟩, (fun _ h => by cases h), ⟨Eg, hVg, fun _ h => h⟩, ⟨[], Vec.nil 2, fun _ h => by cases h⟩, AtAll.zero.mono fun _ h => by cases h⟩, fun _ => ⟨by decide, e0⟩, fun e => by cases e⟩
     ·
      obtain ⟨rfl, rfl, dd, ed, ea⟩ := hok4 rfl
      refine WL.v (v_build rfl rfl zero_37 plc_37 rfl) rfl ?_
      refine WL.v (v_neq_aggF rfl rfl rfl eqk_37 eqg_37 rfl rfl (by rfl)) rfl ?_
      refine WL.nt <| WC.cond_f rfl <| WC.skip <| WE.then_n <| WC.seq <| WC.region <| WL.v (v_move rfl rfl) rfl <| WL.v (v_loadN rfl rfl many_35 rfl allAt) rfl <| WL.v (v_nilCheck rfl rfl) rfl <| WL.v (v_fieldAddr0 rfl rfl fld_39_6) rfl <| ?_
      refine WL.storeN rfl rfl rfl rfl many_35 rfl (by first | exact Nat.le_of_ble_eq_true rfl | simp) (.none rfl) rfl ?_
      refine WL.as (L' := .row g10 (fltL 0 0 ⟨#[]⟩) :: .row g9 a.cells :: (Ka ++ (Eg ++ (.row g4 (fltL 0 0 ⟨#[]⟩) :: .row gm (MsL.upd k gad gc gs a none 0 []).cells :: L)))) rfl <| WL.nt <| WC.seq <| WC.seq <| WC.region <| WL.v (v_move rfl rfl) rfl <| WL.v (v_move rfl rfl) rfl <| WL.call rfl rfl ck_128 (.none rfl) rfl rfl <| ?_
      intro w1 hS
      refine (getNets_u w1 b o4 c4 xn (hWn.st hS) (by omega)).mono ?_
      rintro e w' ⟨ns, nad, nc, En, ok5, rfl, hVn, hSn, hbad5, hok5⟩
      refine ⟨_, _, rfl, hS.join hSn, ?_⟩
      refine WL.v (v_move rfl rfl) rfl <| WL.v (v_extract rfl rfl rfl) rfl <| WL.v (v_extract rfl rfl rfl) rfl <| WL.v (v_nilCheck rfl rfl) rfl <| WL.v (v_fieldAddr0 rfl rfl fld_39_7) rfl <| WL.store1 rfl rfl rfl rfl one_30 (Nat.le_of_ble_eq_true rfl) (.none rfl) rfl <| WL.as (L' := En ++ (.row g10 (fltL 0 0 ⟨#[]⟩) :: .row g9 a.cells :: (Ka ++ (Eg ++ (.row g4 (fltL 0 0 ⟨#[]⟩) :: .row gm (MsL.upd k gad gc gs a nad nc ns).cells :: L))))) rfl <| ?_
      refine WL.to (L' := .row g4 (fltL 0 0 ⟨#[]⟩) :: .row gm (MsL.upd k gad gc gs a nad nc ns).cells :: ((En ++ (.row g9 a.cells :: (Ka ++ Eg))) ++ L)) (fun w hS => by
        have := St.front (R := [.row g4 (fltL 0 0 ⟨#[]⟩), .row gm (MsL.upd k gad gc gs a nad nc ns).cells]) (L := L) (En ++ (.row g9 a.cells :: (Ka ++ Eg))) (by
          have h1 := hS.sub (List.Sublist.append_left (List.sublist_cons_self _ _) En)
          simpa only [List.cons_append, List.append_assoc, List.nil_append] using h1)
        exact this) ?_
      refine WL.as (L' := .row g4 (fltL 0 0 ⟨#[]⟩) :: .row gm (MsL.upd k gad gc gs a nad nc ns).cells :: (En ++ (.row g9 a.cells :: (Ka ++ (Eg ++ L))))) (by simp only [List.cons_append, List.append_assoc]) ?_
      refine WL.v (v_assign rfl rfl) rfl <| WL.nt <| WC.seq <| WC.region <| ?_
      skip
      have hAll : MsAll (En ++ (.row g9 a.cells :: (Ka ++ Eg))) (MsL.upd k gad gc gs a nad nc ns) := ⟨⟨[], Vec.nil 2, fun _ h => by cases h⟩, (fun _ h => by cases h), ⟨Eg, hVg, fun e he => List.mem_append_right _ (List.mem_cons_of_mem _ (List.mem_append_right _ he))⟩, ⟨En, hVn, fun e he => List.mem_append_left _ he⟩, hAa.mono fun e he => List.mem_append_right _ (List.mem_cons_of_mem _ (List.mem_append_left _ he))⟩
      have hfin : ∀ w', St (fun _ => False) w0 w' (.row gm (MsL.upd k gad gc gs a nad nc ns).cells :: (En ++ (.row g9 a.cells :: (Ka ++ (Eg ++ L))))) → St (fun _ => False) w0 w' (.row gm (MsL.upd k gad gc gs a nad nc ns).cells :: ((En ++ (.row g9 a.cells :: (Ka ++ Eg))) ++ L)) := (fun w' h => by simpa only [List.cons_append, List.append_assoc, List.nil_append] using h)
      have e1 : updR xs = match netsR xn with
          | none => .inr (3, 10, ⟨#[]⟩)
          | some ns => if 200 < gs.length ∨ 200 < ns.length then .inr (6, 1, ⟨#[]⟩) else if missI dd.has ≠ 0 ∧ 0 < ns.length then .inr (3, 3, oneS (missI dd.has)) else .inl (gs, { dd with others := sortO dd.others }, ns) := (by
        unfold updR; rw [ec1]; dsimp only; rw [ec2]; dsimp only; rw [hok3 rfl]; dsimp only; rw [ed])
      have hah : dd.has = a.has := (by have := congrArg AtD.has ea; exact this.symm)
      rw [← ea, hah] at e1
      have hmi := missI_b a.has
      have hgl := netsR_len _ (Nat.le_refl _) (hok3 rfl)
      refine WL.v (v_move rfl rfl) rfl ?_
      skip
      cases ok5
      ·
       refine WL.v (v_not rfl rfl rfl) rfl <| WL.nt <| WC.cond_t rfl <| WC.seq <| WC.region <| WL.v (v_build rfl rfl zero_37 plc_37 rfl) rfl <| WL.storeW rfl rfl rfl rfl many_37 rfl rfl (.none rfl) rfl <| WL.nt <| WC.ret <| WE.then_ret <| ?_
       refine WE.ret1 (P := Tryz.prog) (.inl rfl) Tryz.results114 (resRow rfl many_37 rfl) ?_
       rw [hbad5 rfl] at e1
       exact fun w' h => ⟨false, 3, 10, _, gad, gc, gs, a, nad, nc, ns, _, rfl, hfin _ (h.sub (.cons _ (.refl _))), hAll, fun _ => ⟨by decide, e1⟩, fun e => by cases e⟩
      ·
       refine WL.v (v_not rfl rfl rfl) rfl <| WL.nt <| WC.cond_f rfl <| WC.skip <| WE.then_n <| WC.seq <| WC.seq <| WC.region <| ?_
       have hnl := netsR_len _ (Nat.le_refl _) (hok5 rfl)
       rw [hok5 rfl] at e1
       dsimp only at e1
       refine WL.v (v_move rfl rfl) rfl <| WL.v (v_nilCheck rfl rfl) rfl <| WL.v (v_fieldAddr0 rfl rfl fld_39_5) rfl <| WL.v (v_load1 rfl rfl one_30 (cellAt (v := .slice gad gs.length gc) rfl)) rfl <| WL.v (v_len_slice rfl rfl Tryz.underlying30) rfl <| ?_
       refine WL.test (v_gtr rfl rfl rfl) (.none rfl) rfl rfl (fun h70 => ?_) (fun h70 => ?_)
       ·
        refine WL.v (v_move rfl rfl) rfl ?_
        iterate 6 refine WL.sk rfl ?_
        refine WL.v (v_pick_t rfl rfl rfl) rfl <| WL.nt <| WC.cond_t rfl <| WC.seq <| WC.region <| WL.v (v_build rfl rfl zero_37 plc_37 rfl) rfl <| WL.storeW rfl rfl rfl rfl many_37 rfl rfl (.none rfl) rfl <| WL.nt <| WC.ret <| WE.then_ret <| ?_
        refine WE.ret1 (P := Tryz.prog) (.inl rfl) Tryz.results114 (resRow rfl many_37 rfl) ?_
        rw [if_pos (.inl (by omega))] at e1
        exact fun w' h => ⟨false, 6, 1, _, gad, gc, gs, a, nad, nc, ns, _, rfl, hfin _ (h.sub (.cons _ (.refl _))), hAll, fun _ => ⟨by decide, e1⟩, fun e => by cases e⟩
       ·
        refine WL.v (v_move rfl rfl) rfl <| WL.val (v_move rfl rfl) (.some rfl rfl rfl) rfl rfl <| WL.val (v_nilCheck rfl rfl) (.some rfl rfl rfl) rfl rfl <| WL.val (v_fieldAddr0 rfl rfl fld_39_7) (.some rfl rfl rfl) rfl rfl <| WL.val (v_load1 rfl rfl one_30 (cellAt (v := .slice nad ns.length nc) rfl)) (.some rfl rfl rfl) rfl rfl <| WL.val (v_len_slice rfl rfl Tryz.underlying30) (.some rfl rfl rfl) rfl rfl <| ?_
        refine WL.test (v_gtr rfl rfl rfl) (.some rfl rfl rfl) rfl rfl (fun h77 => ?_) (fun h77 => ?_)
        ·
         refine WL.v (v_pick_f rfl rfl rfl) rfl <| WL.nt <| WC.cond_t rfl <| WC.seq <| WC.region <| WL.v (v_build rfl rfl zero_37 plc_37 rfl) rfl <| WL.storeW rfl rfl rfl rfl many_37 rfl rfl (.none rfl) rfl <| WL.nt <| WC.ret <| WE.then_ret <| ?_
         refine WE.ret1 (P := Tryz.prog) (.inl rfl) Tryz.results114 (resRow rfl many_37 rfl) ?_
         rw [if_pos (.inr (by omega))] at e1
         exact fun w' h => ⟨false, 6, 1, _, gad, gc, gs, a, nad, nc, ns, _, rfl, hfin _ (h.sub (.cons _ (.refl _))), hAll, fun _ => ⟨by decide, e1⟩, fun e => by cases e⟩
        ·
         refine WL.v (v_pick_f rfl rfl rfl) rfl <| WL.nt <| WC.cond_f rfl <| WC.skip <| WE.then_n <| WC.seq <| WC.seq <| WC.region <| ?_
         rw [if_neg (by omega)] at e1
         refine WL.v (v_loadN rfl rfl many_35 rfl allAt) rfl <| WL.call rfl rfl ck_76 (.none rfl) rfl rfl <| ?_
         intro w hS
         refine Calls.then (Missing_c w a) hS ?_
         refine WL.v (v_assign rfl rfl) rfl <| WL.nt <| WC.seq <| WC.region <| WL.v (v_move rfl rfl) rfl <| ?_
         refine WL.test (v_neq rfl rfl rfl) (.none rfl) rfl rfl (fun h83 => ?_) (fun h83 => ?_)
         ·
          refine WL.v (v_move rfl rfl) rfl <| WL.val (v_move rfl rfl) (.some rfl rfl rfl) rfl rfl <| WL.val (v_nilCheck rfl rfl) (.some rfl rfl rfl) rfl rfl <| WL.val (v_fieldAddr0 rfl rfl fld_39_7) (.some rfl rfl rfl) rfl rfl <| WL.val (v_load1 rfl rfl one_30 (cellAt (v := .slice nad ns.length nc) rfl)) (.some rfl rfl rfl) rfl rfl <| WL.val (v_len_slice rfl rfl Tryz.underlying30) (.some rfl rfl rfl) rfl rfl <| ?_
          refine WL.test (v_gtr rfl rfl rfl) (.some rfl rfl rfl) rfl rfl (fun h90 => ?_) (fun h90 => ?_)
          ·
           refine WL.v (v_pick_t rfl rfl rfl) rfl <| WL.nt <| WC.cond_t rfl <| WC.seq <| WC.region <| WL.v (v_move rfl rfl) rfl <| ?_
           refine WL.v (v_conv rfl rfl Tryz.underlying5 Tryz.underlying3 (by first | exact w_u8 (by omega) (by omega) | exact w_u8m _)) rfl ?_
           refine WL.buildSlice rfl rfl Tryz.underlying25 sz_5 zero_5 rfl (by decide) rfl (.none rfl) rfl rfl ?_
           intro g94 hg94
           refine WL.val (v_convBS ((fun _ => missI a.has)) rfl rfl Tryz.underlying25 Tryz.underlying5 Tryz.underlying9 (fun w' hS' _ => ⟨g94, 0, rfl, fun i hi => by
           obtain rfl : i = 0 := (by omega)
           exact hS'.cell (g := g94) rfl⟩)) (.none rfl) rfl rfl ?_
           refine WL.v (v_build rfl rfl zero_37 plc_37 rfl) rfl <| WL.storeW rfl rfl rfl rfl many_37 rfl rfl (.none rfl) rfl <| WL.nt <| WC.ret <| WE.then_ret <| WE.ret1 (P := Tryz.prog) (.inl rfl) Tryz.results114 (resRow rfl many_37 rfl) <| ?_
           rw [if_pos ⟨h83, by omega⟩] at e1
           exact fun w' h => ⟨false, 3, 3, _, gad, gc, gs, a, nad, nc, ns, _, rfl, hfin _ (h.sub (.cons _ (.cons _ (.refl _)))), hAll, fun _ => ⟨by decide, e1⟩, fun e => by cases e⟩
          ·
           refine WL.v (v_pick_t rfl rfl rfl) rfl <| WL.nt <| WC.cond_f rfl <| WC.skip <| WE.then_n <| WC.seq <| WC.region <| WL.v (v_build rfl rfl zero_37 plc_37 rfl) rfl <| WL.storeW rfl rfl rfl rfl many_37 rfl rfl (.none rfl) rfl <| WL.nt <| ?_
           refine WC.ret <| WE.ret1 (P := Tryz.prog) (.inl rfl) Tryz.results114 (resRow rfl many_37 rfl) <| ?_
           rw [if_neg (fun h => h90 (by omega))] at e1
           exact fun w' h => ⟨true, 0, 0, _, gad, gc, gs, a, nad, nc, ns, _, rfl, hfin _ (h.sub (.cons _ (.refl _))), hAll, fun e => (by cases e), fun _ => ⟨rfl, rfl, rfl, e1⟩⟩
         ·
          refine WL.v (v_move rfl rfl) rfl ?_
          iterate 6 refine WL.sk rfl ?_
          refine WL.v (v_pick_f rfl rfl rfl) rfl <| WL.nt <| WC.cond_f rfl <| WC.skip <| WE.then_n <| WC.seq <| WC.region <| WL.v (v_build rfl rfl zero_37 plc_37 rfl) rfl <| WL.storeW rfl rfl rfl rfl many_37 rfl rfl (.none rfl) rfl <| WL.nt <| ?_
          refine WC.ret <| WE.ret1 (P := Tryz.prog) (.inl rfl) Tryz.results114 (resRow rfl many_37 rfl) <| ?_
          rw [if_neg (fun h => h.1 (by omega))] at e1
          exact fun w' h => ⟨true, 0, 0, _, gad, gc, gs, a, nad, nc, ns, _, rfl, hfin _ (h.sub (.cons _ (.refl _))), hAll, fun e => (by cases e), fun _ => ⟨rfl, rfl, rfl, e1⟩⟩
end Go.Proofs.YtcmpamnhegndnaaGreatDoor
/- bgp.Decode, exactly. -/
namespace Go.Proofs.YtcmpamnhegndnaaGreatDoor
open Go.RowKit

/-- A message as plain numbers and lists. -/
structure MsD where
  kind : Int
  asn : Int
  hold : Int
  id : Int
  caps : List (Int × List Int)
  gone : List PfL
  atr : AtD
  nets : List PfL
  fc : Int
  fs : Int
  fd : ByteArray
def MsL.d (m : MsL) : MsD := ⟨m.kind, m.asn, m.hold, m.id, m.caps.map capD, m.gone, m.atr.d, m.nets, m.fc, m.fs, m.fd⟩
def strD (xs : List Int) : ByteArray := str (fun i => fOf xs (2 + i)) (xs.length - 2)
/-- A message of a kind and what it has behind its head, or what is wrong. -/
def bodyM (k : Int) (xs : List Int) : MsD ⊕ (Int × Int × ByteArray) :=
  if k = 1 then match openR xs with
    | .inl cs => .inl { (MsL.zero k).d with asn := asnB xs, hold := holdB xs, id := idB xs, caps := cs }
    | .inr (s, d) => .inr (2, s, d)
  else if k = 2 then match updR xs with
    | .inl (g, a, n) => .inl { (MsL.zero k).d with gone := g, atr := a, nets := n }
    | .inr f => .inr f
  else if k = 3 then .inl { (MsL.zero k).d with fc := fOf xs 0, fs := fOf xs 1, fd := strD xs }
  else .inl (MsL.zero k).d
/-- The message of bytes, or what is wrong. -/
def decM (xs : List Int) : MsD ⊕ (Int × Int × ByteArray) :=
  if (sizeR xs.length (fOf xs)).2.1 ≠ 0 then .inr (sizeR xs.length (fOf xs)).2
  else if (sizeR xs.length (fOf xs)).1 ≠ xs.length then .inr (1, 2, str (fun i => fOf xs (16 + i)) 2)
  else bodyM (fOf xs 18) (xs.drop 19)
theorem sizeR_cases (n : Nat) (f : Nat → Int) : (∃ C S d, sizeR n f = (0, C, S, d) ∧ C ≠ 0) ∨ (sizeR n f = (lenI f, 0, 0, ⟨#[]⟩) ∧ 19 ≤ n ∧ mark255 f = true ∧ 19 ≤ lenI f ∧ lenI f ≤ 4096 ∧ 1 ≤ f 18 ∧ f 18 ≤ 4 ∧ leastI (f 18) ≤ lenI f ∧ (f 18 = 4 → lenI f = 19)) := by
  by_cases h1 : n < 19
  · left; exact ⟨1, 2, ⟨#[]⟩, by unfold sizeR; rw [if_pos h1], by decide⟩
  by_cases h2 : mark255 f = true
  · rw [sizeR_on h1 h2]
    split
    · left; exact ⟨1, 2, _, rfl, by decide⟩
    split
    · left; exact ⟨1, 3, _, rfl, by decide⟩
    split
    · left; exact ⟨1, 2, _, rfl, by decide⟩
    · rename_i h3 h4 h5
      right
      have := Classical.byContradiction fun h => h4 (leastI_zero.2 h)
      refine ⟨rfl, by omega, h2, by omega, by omega, by omega, by omega, by omega, fun e => by omega⟩
  · left; exact ⟨1, 1, ⟨#[]⟩, by unfold sizeR; rw [if_neg h1]; simp [h2], by decide⟩
def DecP (w0 w' : World) (xs : List Int) (e : Ending) : Prop :=
  match decM xs with
  | .inr (c, s, d) => e = .returned (.tuple #[.agg (MsL.zero 0).cells.toArray, .agg (fltL c s d).toArray]) ∧ Frm (fun _ => False) w0 w'
  | .inl md => ∃ m K, e = .returned (.tuple #[.agg m.cells.toArray, .agg (fltL 0 0 ⟨#[]⟩).toArray]) ∧ m.d = md ∧ MsAll K m ∧ St (fun _ => False) w0 w' K
structure DecT where
  ok : Bool
  c : Int
  s : Int
  d : ByteArray
  m : MsL
  K : List Ent
set_option maxHeartbeats 4000000 in
theorem DecOk_c (w0 : World) (b o c : Nat) (xs : List Int) (hG : GF w0) (hZ : GZ w0) (hW : Win w0 b o c xs) (hn : xs.length ≤ 90000) (hs : sizeR xs.length (fOf xs) = ((xs.length : Int), 0, 0, ⟨#[]⟩)) (h19 : 19 ≤ xs.length) (h18 : 1 ≤ fOf xs 18 ∧ fOf xs 18 ≤ 4) (hle2 : leastI (fOf xs 18) ≤ xs.length) :
    Calls Tryz.prog 85 #[.slice (some ⟨b, o, none⟩) xs.length c] w0 fun e w' => DecP w0 w' xs e := by
  have hle := hW.le
  have e00 : decM xs = bodyM (fOf xs 18) (xs.drop 19) := by unfold decM; rw [hs]; dsimp only; rw [if_neg (by simp), if_neg (by simp)]
  have hWd := hW.drop 19
  have hdl : (xs.drop 19).length = xs.length - 19 := List.length_drop ..
  have hlst : leastI (fOf xs 18) = if fOf xs 18 = 1 then 29 else if fOf xs 18 = 2 then 23 else if fOf xs 18 = 3 then 21 else 19 := by unfold leastI; repeat' split; all_goals first | rfl | omega
  refine enter Tryz.func85 rfl Tryz.ntmps85 rfl (St.start (fun _ => False) w0) ?_
  refine WC.seq <| WC.region <| WL.alloc rfl zero_39 (.none rfl) rfl rfl <| ?_
  intro g2 hg2
  refine WL.alloc rfl zero_37 (.none rfl) rfl rfl ?_
  intro g3 hg3
  refine WL.nt <| WC.seq <| WC.region <| WL.v (v_move rfl rfl) rfl <| WL.call rfl rfl ck_84 (.none rfl) rfl rfl <| ?_
  intro w hS
  refine Calls.then (by rw [show (Ending.returned (.tuple #[.int .i64 xs.length, .agg (fltL 0 0 ⟨#[]⟩).toArray])) = .returned (sizeV (sizeR xs.length (fOf xs))) by rw [hs]; rfl]; exact Size_c w (some ⟨b, o, none⟩) xs.length c (fOf xs) (fOf_byt hW.bys) (fun _ => ⟨b, o, rfl, rd_u8s (hW.st hS).at_⟩) (by omega) hle) hS ?_
  refine WL.v (v_move rfl rfl) rfl <| WL.v (v_extract rfl rfl rfl) rfl <| WL.v (v_extract rfl rfl rfl) rfl <| WL.alloc rfl zero_37 (.none rfl) rfl rfl <| ?_
  intro g5 hg5
  refine WL.v (v_assign rfl rfl) rfl <| WL.storeW rfl rfl rfl rfl many_37 rfl rfl (.none rfl) rfl <| WL.nt <| WC.seq <| WC.seq <| WC.region <| WL.v (v_loadN rfl rfl many_37 rfl allAt) rfl <| WL.v (v_build rfl rfl zero_37 plc_37 rfl) rfl <| ?_
  refine WL.v (v_neq_aggF rfl rfl rfl eqk_37 eqg_37 rfl rfl (by rfl)) rfl ?_
  refine WL.nt <| WC.cond_f rfl <| WC.skip <| WE.then_n <| WC.seq <| WC.seq <| WC.region <| WL.v (v_move rfl rfl) rfl <| WL.v (v_move rfl rfl) rfl <| WL.v (v_len_slice rfl rfl Tryz.underlying25) rfl <| ?_
  refine WL.v ((v_neq rfl rfl rfl).f (by omega)) rfl ?_
  refine WL.nt <| WC.cond_f rfl <| WC.skip <| WE.then_n <| WC.seq <| WC.region <| WL.v (v_move rfl rfl) rfl <| ?_
  refine WL.v (v_indexAddr (lo := 18) rfl rfl rfl Tryz.underlying25 sz_5 rfl (by omega)) rfl ?_
  refine WL.v (v_load1 rfl rfl one_5 (cellOld (fun h => h) (hW.get (fOf_get (by omega))))) rfl ?_
  refine WL.v (v_conv rfl rfl Tryz.underlying3 Tryz.underlying5 (w_i64 (by omega) (by omega))) rfl ?_
  refine WL.v (v_build rfl rfl zero_39 plc_39 rfl) rfl <| WL.alloc rfl zero_39 (.none rfl) rfl rfl <| ?_
  intro g6 hg6
  refine WL.storeW rfl rfl rfl rfl many_39 rfl rfl (.none rfl) rfl <| WL.as (L' := .row g6 (MsL.zero (fOf xs 18)).cells :: .row g5 (fltL 0 0 ⟨#[]⟩) :: .row g3 (fltL 0 0 ⟨#[]⟩) :: [.row g2 (MsL.zero 0).cells]) rfl <| WL.nt <| WC.seq <| WC.region <| WL.v (v_move rfl rfl) rfl <| ?_
  refine WL.v ((v_slice_lo (lo := 19) rfl rfl rfl Tryz.underlying25 sz_5 rfl (by omega))) rfl ?_
  rw [show xs.length - 19 = (xs.drop 19).length by rw [List.length_drop]]
  refine WL.v (v_assign rfl rfl) rfl <| WL.nt <| ?_
  refine WC.cut (fun y : DecT => [(2, .pointer (some ⟨g2, 0, none⟩)), (3, .pointer (some ⟨g3, 0, none⟩)), (5, .pointer (some ⟨g5, 0, none⟩)), (6, .pointer (some ⟨g6, 0, none⟩))]) (fun y => .row g6 y.m.cells :: (y.K ++ (.row g5 (fltL y.c y.s y.d) :: .row g3 (fltL 0 0 ⟨#[]⟩) :: [.row g2 (MsL.zero 0).cells]))) (fun y => MsAll y.K y.m ∧ (y.ok = false → y.c ≠ 0 ∧ bodyM (fOf xs 18) (xs.drop 19) = .inr (y.c, y.s, y.d)) ∧ (y.ok = true → y.c = 0 ∧ y.s = 0 ∧ y.d = ⟨#[]⟩ ∧ bodyM (fOf xs 18) (xs.drop 19) = .inl y.m.d)) ?_ ?_
  ·
   refine WC.seq <| WC.region <| WL.v (v_fieldAddr0 rfl rfl fld_39_0) rfl <| WL.v (v_load1 rfl rfl one_3 (cellAt (v := .int .i64 (fOf xs 18)) rfl)) rfl <| WL.nt <| WC.block <| WC.seq <| WC.region <| ?_
   refine WL.test (v_eql rfl rfl rfl) (.none rfl) rfl rfl (fun h35 => ?_) (fun h35 => ?_)
   ·
    refine WL.v (v_assign rfl rfl) rfl <| WL.nt <| WC.cond_t rfl <| WC.region <| WL.v (v_move rfl rfl) rfl <| WL.call rfl rfl ck_113 (.none rfl) rfl rfl <| ?_
    intro w1 hS
    refine (readOpen_c w0 w1 g6 b (sAddr o 19 c 1) (c - 19) (fOf xs 18) (xs.drop 19) (.row g5 (fltL 0 0 ⟨#[]⟩) :: .row g3 (fltL 0 0 ⟨#[]⟩) :: [.row g2 (MsL.zero 0).cells]) hWd (by rw [hlst, if_pos h35] at hle2; omega) (by omega) hS).mono ?_
    rintro e w' ⟨ok, s, d, ad, kc, cs, E, K, rfl, hS', hV, hO, hF, hT⟩
    refine ⟨_, _, rfl, hS', ?_⟩
    refine WL.storeW rfl rfl rfl rfl many_37 rfl rfl (.none rfl) rfl <| WL.as (L' := .row g6 (MsL.opened (fOf xs 18) (xs.drop 19) ad kc cs).cells :: (E ++ (K ++ (.row g5 (fltL (if ok then 0 else 2) s d) :: .row g3 (fltL 0 0 ⟨#[]⟩) :: [.row g2 (MsL.zero 0).cells])))) rfl <| WL.nil <| WE.block_n <| ?_
    exact WE.mid ⟨ok, if ok then 0 else 2, s, d, MsL.opened (fOf xs 18) (xs.drop 19) ad kc cs, E ++ K⟩ ⟨⟨⟨E, hV, fun e he => List.mem_append_left _ he⟩, fun c hc => (by
    obtain ⟨E', r1, r2⟩ := hO c hc
    exact ⟨E', r1, fun e he => List.mem_append_right _ (r2 e he)⟩), ⟨[], Vec.nil 2, fun _ h => by cases h⟩, ⟨[], Vec.nil 2, fun _ h => by cases h⟩, AtAll.zero.mono fun _ h => by cases h⟩, fun e => (by
    cases e
    exact ⟨by show (2 : Int) ≠ 0; decide, by unfold bodyM; rw [if_pos h35, hF rfl]; rfl⟩), fun e => by
    cases e
    obtain ⟨rfl, rfl, e1⟩ := hT rfl
    exact ⟨rfl, rfl, rfl, by unfold bodyM; rw [if_pos h35, e1]; rfl⟩⟩ (.cons rfl (.cons rfl (.cons rfl (.cons rfl .nil)))) (by dsimp only; rw [List.append_assoc]; exact .refl _)
   ·
    refine WL.v (v_assign rfl rfl) rfl <| WL.nt <| WC.cond_f rfl <| WC.seq <| WC.region <| ?_
    refine WL.test (v_eql rfl rfl rfl) (.none rfl) rfl rfl (fun h39 => ?_) (fun h39 => ?_)
    ·
     refine WL.v (v_assign rfl rfl) rfl <| WL.nt <| WC.cond_t rfl <| WC.region <| WL.v (v_move rfl rfl) rfl <| WL.call rfl rfl ck_114 (.none rfl) rfl rfl <| ?_
     intro w1 hS
     refine (readUpdate_c w0 w1 g6 b (sAddr o 19 c 1) (c - 19) (fOf xs 18) (xs.drop 19) (.row g5 (fltL 0 0 ⟨#[]⟩) :: .row g3 (fltL 0 0 ⟨#[]⟩) :: [.row g2 (MsL.zero 0).cells]) hG hZ hWd (by omega) hS).mono ?_
     rintro e w' ⟨ok, fc, s, d, gad, gc, gs, a, nad, nc, ns, K, rfl, hS', hM, hF, hT⟩
     refine ⟨_, _, rfl, hS', ?_⟩
     refine WL.storeW rfl rfl rfl rfl many_37 rfl rfl (.none rfl) rfl <| WL.as (L' := .row g6 (MsL.upd (fOf xs 18) gad gc gs a nad nc ns).cells :: (K ++ (.row g5 (fltL fc s d) :: .row g3 (fltL 0 0 ⟨#[]⟩) :: [.row g2 (MsL.zero 0).cells]))) rfl <| WL.nil <| WE.block_n <| ?_
     exact WE.mid ⟨ok, fc, s, d, MsL.upd (fOf xs 18) gad gc gs a nad nc ns, K⟩ ⟨hM, fun e => (by
     have := hF e
     exact ⟨this.1, by unfold bodyM; rw [if_neg h35, if_pos h39, this.2]⟩), fun e => by
     obtain ⟨e1, e2, e3, e4⟩ := hT e
     exact ⟨e1, e2, e3, by unfold bodyM; rw [if_neg h35, if_pos h39, e4]; rfl⟩⟩ (.cons rfl (.cons rfl (.cons rfl (.cons rfl .nil)))) (.refl _)
    ·
     refine WL.v (v_assign rfl rfl) rfl <| WL.nt <| WC.cond_f rfl <| WC.seq <| WC.region <| ?_
     refine WL.test (v_eql rfl rfl rfl) (.none rfl) rfl rfl (fun h43 => ?_) (fun h43 => ?_)
     ·
      refine WL.v (v_assign rfl rfl) rfl <| WL.nt <| WC.cond_t rfl <| WC.orders mixed <| ?_
      refine WR.first (g := 8) [0, 1, 4, 5, 8, 9] (by kernel_rfl) (by kernel_rfl) ?_
      have h2l : 2 ≤ (xs.drop 19).length := (by rw [hlst, if_neg h35, if_neg h39, if_pos h43] at hle2; omega)
      have b0 := fOf_b hWd.bys 0
      have b1 := fOf_b hWd.bys 1
      refine WP.val (v_move rfl rfl) (.none rfl) rfl rfl ?_
      refine WP.val (v_indexAddr (lo := 0) rfl rfl rfl Tryz.underlying25 sz_5 rfl (by omega)) (.none rfl) rfl rfl ?_
      refine WP.val (v_move rfl rfl) (.none rfl) rfl rfl ?_
      refine WP.val (v_indexAddr (lo := 1) rfl rfl rfl Tryz.underlying25 sz_5 rfl (by omega)) (.none rfl) rfl rfl ?_
      refine WP.val (v_move rfl rfl) (.none rfl) rfl rfl ?_
      refine WP.val ((v_slice_lo (lo := 2) rfl rfl rfl Tryz.underlying25 sz_5 rfl (by omega))) (.none rfl) rfl rfl ?_
      refine WP.nil ?_
      refine WR.read (g := 1) [2, 3, 6, 7, 10, 11, 12] (by kernel_rfl) (by kernel_rfl) (by kernel_rfl) (by kernel_rfl) rfl ?_
      refine WQ.val (v_load1 rfl rfl one_5 (cellOld (fun h => h) (hWd.get (fOf_get (by omega))))) (.none rfl) rfl rfl ?_
      refine WQ.val (v_conv rfl rfl Tryz.underlying3 Tryz.underlying5 (w_i64 (by omega) (by omega))) (.none rfl) rfl rfl ?_
      refine WQ.val (v_load1 rfl rfl one_5 (cellOld (fun h => h) (hWd.get (fOf_get (by omega))))) (.none rfl) rfl rfl ?_
      refine WQ.val (v_conv rfl rfl Tryz.underlying3 Tryz.underlying5 (w_i64 (by omega) (by omega))) (.none rfl) rfl rfl ?_
      refine WQ.val (v_convBS ((fun i => fOf (xs.drop 19) (2 + i))) rfl rfl Tryz.underlying25 Tryz.underlying5 Tryz.underlying9 (fun w' hS' _ => ⟨b, sAddr (sAddr o 19 c 1) 2 (c - 19) 1, rfl, fun i hi => by
      have := ((hWd.st hS').drop 2).get (i := i) (x := fOf (xs.drop 19) (2 + i)) (by rw [List.getElem?_drop]; exact fOf_get (by omega))
      rwa [Nat.mul_one] at this⟩)) (.none rfl) rfl rfl ?_
      refine WQ.val (v_build rfl rfl zero_37 plc_37 rfl) (.none rfl) rfl rfl <| WQ.val (v_fieldAddr0 rfl rfl fld_39_8) (.none rfl) rfl rfl <| WQ.nilR <| ?_
      refine WR.ones (g := 0) [13] (by kernel_rfl) ?_
      refine WL.storeN rfl rfl rfl rfl many_37 rfl (by first | exact Nat.le_of_ble_eq_true rfl | simp) (.none rfl) rfl ?_
      refine WL.as (L' := .row g6 (MsL.cells { MsL.zero (fOf xs 18) with fc := fOf (xs.drop 19) 0, fs := fOf (xs.drop 19) 1, fd := strD (xs.drop 19) }) :: .row g5 (fltL 0 0 ⟨#[]⟩) :: .row g3 (fltL 0 0 ⟨#[]⟩) :: [.row g2 (MsL.zero 0).cells]) rfl <| WL.nilR <| ?_
      refine WR.done (by kernel_rfl) ?_
      refine WE.block_n ?_
      exact WE.mid ⟨true, 0, 0, ⟨#[]⟩, { MsL.zero (fOf xs 18) with fc := fOf (xs.drop 19) 0, fs := fOf (xs.drop 19) 1, fd := strD (xs.drop 19) }, []⟩ ⟨⟨⟨[], Vec.nil 2, fun _ h => by cases h⟩, (fun _ h => by cases h), ⟨[], Vec.nil 2, fun _ h => by cases h⟩, ⟨[], Vec.nil 2, fun _ h => by cases h⟩, AtAll.zero⟩, fun e => (by cases e), fun _ => ⟨rfl, rfl, rfl, by unfold bodyM; rw [if_neg h35, if_neg h39, if_pos h43]; rfl⟩⟩ (.cons rfl (.cons rfl (.cons rfl (.cons rfl .nil)))) (.refl _)
     ·
      refine WL.v (v_assign rfl rfl) rfl <| WL.nt <| WC.cond_f rfl <| WC.skip <| WE.block_n <| ?_
      exact WE.mid ⟨true, 0, 0, ⟨#[]⟩, MsL.zero (fOf xs 18), []⟩ ⟨MsAll.zero _, fun e => (by cases e), fun _ => ⟨rfl, rfl, rfl, by unfold bodyM; rw [if_neg h35, if_neg h39, if_neg h43]⟩⟩ (.cons rfl (.cons rfl (.cons rfl (.cons rfl .nil)))) (.refl _)
  ·
   rintro ⟨ok, fc, s, d, m, K⟩ ⟨hM, hF, hT⟩
   dsimp only at hM hF hT
   dsimp only
   refine WC.seq <| WC.seq <| WC.region <| WL.v (v_loadN rfl rfl many_37 rfl allAt) rfl <| ?_
   skip
   cases ok
   ·
    refine WL.v (v_build rfl rfl zero_37 plc_37 rfl) rfl ?_
    refine WL.v (v_neq_aggT rfl rfl rfl eqk_37 eqg_37 rfl rfl (by exact fun h => by injection h with h1 _; injection h1 with _ h1; exact (hF rfl).1 h1)) rfl ?_
    refine WL.nt <| WC.cond_t rfl <| WC.seq <| WC.orders mixed <| ?_
    refine WR.first (g := 3) [0] (by kernel_rfl) (by kernel_rfl) ?_
    refine WP.val (v_build rfl rfl zero_39 plc_39 rfl) (.none rfl) rfl rfl <| WP.nil <| ?_
    refine WR.each (g := 2) [1, 2] (by kernel_rfl) (by decide) ?_
    refine ⟨?_, ?_⟩
    ·
     refine WL.v (v_loadN rfl rfl many_37 rfl allAt) rfl <| WL.nilR <| ?_
     refine WR.ones (g := 0) [2, 3] (by kernel_rfl) ?_
     refine WL.storeW rfl rfl rfl rfl many_39 rfl rfl (.none rfl) rfl <| WL.storeW rfl rfl rfl rfl many_37 rfl rfl (.none rfl) rfl <| WL.nilR <| ?_
     refine WR.done (by kernel_rfl) ?_
     refine WE.then_n <| WC.ret <| WE.then_ret <| WE.ret2 (P := Tryz.prog) (.inl rfl) Tryz.results85 (resRow rfl many_39 rfl) (resRow rfl many_37 rfl) <| ?_
     exact fun w' h => by unfold DecP; rw [e00, (hF rfl).2]; exact ⟨rfl, h.frm⟩
    ·
     refine WL.storeW rfl rfl rfl rfl many_39 rfl rfl (.none rfl) rfl <| WL.nilR <| ?_
     refine WR.read (g := 1) [1] (by kernel_rfl) (by kernel_rfl) (by kernel_rfl) (by kernel_rfl) rfl ?_
     refine WQ.val (v_loadN rfl rfl many_37 rfl allAt) (.none rfl) rfl rfl <| WQ.nilR <| ?_
     refine WR.ones (g := 0) [3] (by kernel_rfl) ?_
     refine WL.storeW rfl rfl rfl rfl many_37 rfl rfl (.none rfl) rfl <| WL.nilR <| ?_
     refine WR.done (by kernel_rfl) ?_
     refine WE.then_n <| WC.ret <| WE.then_ret <| WE.ret2 (P := Tryz.prog) (.inl rfl) Tryz.results85 (resRow rfl many_39 rfl) (resRow rfl many_37 rfl) <| ?_
     exact fun w' h => by unfold DecP; rw [e00, (hF rfl).2]; exact ⟨rfl, h.frm⟩
   ·
    obtain ⟨rfl, rfl, rfl, e1⟩ := hT rfl
    refine WL.v (v_build rfl rfl zero_37 plc_37 rfl) rfl ?_
    refine WL.v (v_neq_aggF rfl rfl rfl eqk_37 eqg_37 rfl rfl (by rfl)) rfl ?_
    refine WL.nt <| WC.cond_f rfl <| WC.skip <| WE.then_n <| WC.seq <| WC.region <| WL.v (v_loadN rfl rfl many_39 rfl allAt) rfl <| WL.v (v_build rfl rfl zero_37 plc_37 rfl) rfl <| WL.storeW rfl rfl rfl rfl many_39 rfl rfl (.none rfl) rfl <| WL.storeW rfl rfl rfl rfl many_37 rfl rfl (.none rfl) rfl <| ?_
    refine WL.nt <| WC.ret <| WE.ret2 (P := Tryz.prog) (.inl rfl) Tryz.results85 (resRow rfl many_39 rfl) (resRow rfl many_37 rfl) <| ?_
    exact fun w' h => by unfold DecP; rw [e00, e1]; exact ⟨m, K, rfl, rfl, hM, (h.sub (List.sublist_cons_self _ _)).sub (List.sublist_append_left _ _)⟩
/-- bgp.Decode, whatever bytes. -/
theorem Decode_c (w0 : World) (b o c : Nat) (xs : List Int) (hG : GF w0) (hZ : GZ w0) (hW : Win w0 b o c xs) (hn : xs.length ≤ 90000) :
    Calls Tryz.prog 85 #[.slice (some ⟨b, o, none⟩) xs.length c] w0 fun e w' => DecP w0 w' xs e := by
  rcases sizeR_cases xs.length (fOf xs) with ⟨C, S, d, e, hC⟩ | ⟨e, h1, h2, h3, h4, h5, h6, h7, h8⟩
  · refine (DecBad_c w0 _ xs.length c (fOf xs) (fOf_byt hW.bys) (fun _ => ⟨b, o, rfl, rd_u8s hW.at_⟩) (by omega) hW.le C S d e hC).mono fun en w' h => ?_
    have e0 : decM xs = .inr (C, S, d) := by unfold decM; rw [e]; exact if_pos hC
    unfold DecP; rw [e0]; exact h
  · by_cases hk : lenI (fOf xs) = xs.length
    · rw [hk] at e
      exact DecOk_c w0 b o c xs hG hZ hW hn e h1 ⟨h5, h6⟩ (by omega)
    · refine (DecLong_c w0 b o xs.length c (fOf xs) (fOf_byt hW.bys) (rd_u8s hW.at_) (by omega) hW.le h1 _ e hk).mono fun en w' h => ?_
      have e0 : decM xs = .inr (1, 2, str (fun i => fOf xs (16 + i)) 2) := by unfold decM; rw [e]; dsimp only; rw [if_neg (by simp), if_pos hk]
      unfold DecP; rw [e0]; exact h
end Go.Proofs.YtcmpamnhegndnaaGreatDoor
/- stream: an append of made zeros; slices.Grow, slices.Concat of bytes. -/
namespace Go.Proofs.YtcmpamnhegndnaaGreatDoor
open Go.RowKit

theorem append_made {P : Program} {p : Nat → Prop} {w0 : World} {t tx e s by_ m : Nat} {kk : IntKind} {zs : List Value} {L0 : List Ent} {w : World} {ty : TypeId}
    (hu : P.underlying t = some (.slice e)) (hux : P.underlying tx = some (.int kk)) (hs : (P.info? e).map (·.size) = some s) (hb : (P.info? e).map (·.bytes) = some by_) (hz : Zero P e zs) (hzl : zs.length = s) (hs1 : 0 < s)
    (_ : 0 < by_) (hm : 0 < m) (hm2 : m ≤ 1000000) (hby2 : by_ ≤ 1000) (hS : St p w0 w L0) :
    ∃ g c' cs w', (Builtin.append_ #[t, tx] ty #[.slice none 0 0, .int .i64 m]).run P w = .ok (.slice (some ⟨g, 0, none⟩) m c') w' ∧ m ≤ c' ∧ cs.length = c' * s ∧ St p w0 w' (.row g cs :: L0) := by
  have hq : ∃ i, P.info? e = some i ∧ i.bytes = by_ := by
    cases hq : P.info? e with
    | none => simp [hq] at hb
    | some i => exact ⟨i, rfl, by simpa [hq] using hb⟩
  obtain ⟨ti, hi, hib⟩ := hq
  have hask : ∀ (k : Nat) (w : World), (askRoom k).run P w = .ok () w := fun k w => by
    unfold askRoom
    by_cases h : k > roomBytes
    · rw [if_pos h]; rfl
    · rw [if_neg h]; rfl
  have hcapE : Builtin.nextslicecap m 0 = m := by unfold Builtin.nextslicecap; rw [if_pos (by omega)]
  have hmb : m * by_ ≤ 1000000 * 1000 := Nat.mul_le_mul hm2 hby2
  have hcap : ¬ (m * by_ > 2 ^ 48) := by omega
  obtain ⟨z, hz, hzs⟩ := hz
  have hzc : z.cells = zs.toArray := by rw [← hzs]
  have hd := hS.drew
  let nc := (Question.appendCap m 0 e).cut (w.tape w.drawn (.appendCap m 0 e))
  have hnc : m ≤ nc := by show m ≤ m + _; omega
  let A := Builtin.zeroCells zs.toArray m
  let B := Builtin.zeroCells zs.toArray (nc - m)
  have hAl : A.size = m * s := by show (Builtin.zeroCells zs.toArray m).size = _; simp [Builtin.zeroCells, hzl]
  have hBl : B.size = (nc - m) * s := by show (Builtin.zeroCells zs.toArray (nc - m)).size = _; simp [Builtin.zeroCells, hzl]
  have hnew : St p w0 (w.drew.alloc (.cells (A ++ B) e)) (.row w.drew.heap.size (A ++ B).toList :: L0) := St.new hd
  refine ⟨w.drew.heap.size, nc, (A ++ B).toList, _, ?_, hnc, ?_, hnew⟩
  · have hcut : (choose (.appendCap m 0 e)).run P w = .ok nc w.drew := rfl
    have hw : IntKind.i64.wrap (m : Int) = (m : Int) := w_i64 (by omega) (by omega)
    have hb0 : ¬ ((m : Int) * (by_ : Int) > 2 ^ 48) := by rw [← Int.natCast_mul]; omega
    have hms : ¬ (m * s = 0) := by have := Nat.mul_pos hm hs1; omega
    have hpos : ¬ ((m : Int) < 0) := by omega
    have hroom : ¬ (m ≤ 0) := by omega
    have hmax : ¬ ((m : Int) > IntKind.i64.max) := by show ¬ ((m : Int) > 9223372036854775807); omega
    have hasI : (asIntOf (Value.int .i64 (m : Int))).run P w = .ok (.i64, (m : Int)) w := rfl
    simp only [Builtin.append_, List.getElem?_toArray, List.getElem?_cons_zero, List.getElem?_cons_succ, Sem.run_bind, run_underlying hu, run_underlying hux, Result.andThen_ok, run_sizeOf hs, Sem.run_pure, if_true, asInt, hasI, hw, hpos, if_false]
    simp only [typeInfo, program, Sem.run, hi, Sem.run_bind, Result.andThen_ok, hib, hb0, if_false, Sem.run_pure, Int.toNat_natCast, Nat.zero_add, hroom, hmax, false_and, hcapE, hcap, hcut, hask, hms, Bool.not_true, Bool.false_eq_true, run_zeroValue hz, hzc, newRow, newObj]
    have hfc : (Builtin.firstCells s 0 (Value.slice none 0 0)).run P w.drew = .ok #[] w.drew := rfl
    rw [hfc]
    simp only [Result.andThen_ok, Array.empty_append]
    rfl
  · rw [Array.length_toList, Array.size_append, hAl, hBl, ← Nat.add_mul]; congr 1; omega
section
variable {P : Program} {ops : Array Oper} {Q : Exit → Act → World → Prop} {n : Nat} {p : Nat → Prop} {w0 : World} {o : Oper} {rest : List Oper} {l : Kn} {L : List Ent}
/-- A slice's capacity. -/
theorem v_cap_slice {C : World → Prop} {t e len cap : Nat} {ad : Option Addr} {x : Operand} (ho : o.op = .call { callee := .builtin .cap, args := #[x], argTypes := #[t] }) (hx : ev l x = some (.slice ad len cap)) (hu : P.underlying t = some (.slice e)) : Val P C n l o (.int .i64 cap) := fun a w ha _ => by
  have hx' : evs l [x] = some [.slice ad len cap] := by simp [evs, hx]
  obtain ⟨cs, h⟩ := run_builtin (P := P) (w := w) (xs := [x]) ho hx' ha
  rw [h]
  simp [builtin, Builtin.cap_, run_underlying hu, goInt]
/-- append(x, make(.., m)...) where x is nil. -/
theorem WL.appendZ {t tx e s by_ d m : Nat} {kk : IntKind} {zs : List Value} {x y : Operand} (ho : o.op = .call { callee := .builtin .append, args := #[x, y], argTypes := #[t, tx] }) (hx : ev l x = some (.slice none 0 0)) (hy : ev l y = some (.int .i64 m))
    (hu : P.underlying t = some (.slice e)) (hux : P.underlying tx = some (.int kk)) (hs : (P.info? e).map (·.size) = some s) (hb : (P.info? e).map (·.bytes) = some by_) (hz : Zero P e zs) (hzl : zs.length = s) (hs1 : Nat.blt 0 s = true) (hby : Nat.blt 0 by_ = true) (hm : 0 < m) (hm2 : m ≤ 1000000) (hby2 : Nat.ble by_ 1000 = true)
    (hg : On ops o l) (hd : o.dst = some d) (hn : Nat.blt d n = true)
    (h : ∀ g c' cs, m ≤ c' → cs.length = c' * s → WL P ops Q n p w0 rest ((d, .slice (some ⟨g, 0, none⟩) m c') :: l) (.row g cs :: L)) : WL P ops Q n p w0 (o :: rest) l L := by
  refine WL.op hg hd hn fun a w ha hS => ?_
  have hxy : evs l [x, y] = some [.slice none 0 0, .int .i64 m] := by simp [evs, hx, hy]
  obtain ⟨cc, hr⟩ := run_builtin (P := P) (w := w) (xs := [x, y]) ho hxy ha
  obtain ⟨g, c', cs, w', h1, h2, h3, h4⟩ := append_made (P := P) (ty := o.type) hu hux hs hb hz hzl (by simpa using hs1) (by simpa using hby) hm hm2 (by simpa using hby2) hS
  refine ⟨_, w', .row g cs :: L, ?_, h4, h g c' cs h2 h3⟩
  rw [hr]
  simp [builtin, h1]
end
set_option maxHeartbeats 1000000 in
theorem Grow_c (w : World) (m : Nat) (hm : m ≤ 1000000) : Calls Tryz.prog 109 #[.slice none 0 0, .int .i64 m] w fun e w' => ∃ ad c E, e = .returned (.slice ad 0 c) ∧ BV ad c [] E ∧ St (fun _ => False) w w' E := by
  refine enter Tryz.func109 rfl Tryz.ntmps109 rfl (St.start (fun _ => False) w) ?_
  refine WC.seq <| WC.region <| WL.v (v_assign rfl rfl) rfl <| WL.nt <| WC.seq <| WC.seq <| WC.region <| WL.v (v_move rfl rfl) rfl <| ?_
  refine WL.v ((v_lss rfl rfl rfl).f (by omega)) rfl ?_
  refine WL.nt <| WC.cond_f rfl <| WC.skip <| WE.then_n <| WC.seq <| WC.seq <| WC.region <| WL.v (v_move rfl rfl) rfl <| WL.v (v_move rfl rfl) rfl <| WL.v ((v_cap_slice rfl rfl Tryz.underlying25)) rfl <| ?_
  refine WL.v (v_move rfl rfl) rfl <| WL.v (v_len_slice rfl rfl Tryz.underlying25) rfl <| ?_
  refine WL.v (v_sub rfl rfl rfl (w_i64 (by omega) (by omega))) rfl ?_
  refine WL.v (v_sub rfl rfl rfl (show _ = ((m : Nat) : Int) from (w_i64 (by omega) (by omega)).trans (by omega))) rfl ?_
  refine WL.v (v_assign rfl rfl) rfl <| WL.nt <| WC.seq <| WC.region <| WL.v (v_move rfl rfl) rfl <| ?_
  refine WL.test (v_gtr rfl rfl rfl) (.none rfl) rfl rfl (fun h16 => ?_) (fun h16 => ?_)
  ·
   refine WL.nt <| WC.cond_t rfl <| WC.region <| WL.v (v_move rfl rfl) rfl <| WL.v (v_move rfl rfl) rfl <| WL.v ((v_cap_slice rfl rfl Tryz.underlying25)) rfl <| ?_
   refine WL.v ((v_slice_hi (hi := 0) rfl rfl rfl Tryz.underlying25 sz_5 rfl (by omega))) rfl ?_
   refine WL.v (v_move rfl rfl) rfl ?_
   refine WL.appendZ rfl rfl rfl Tryz.underlying25 Tryz.underlying3 sz_5 by_5 zero_5 rfl rfl rfl (by omega) hm rfl (.none rfl) rfl rfl ?_
   intro g22 c22 cs22 hc22 hl22
   refine WL.v (v_move rfl rfl) rfl <| WL.v (v_len_slice rfl rfl Tryz.underlying25) rfl <| ?_
   refine WL.v ((v_slice_hi (hi := 0) rfl rfl rfl Tryz.underlying25 sz_5 rfl (by omega))) rfl ?_
   refine WL.v (v_assign rfl rfl) rfl <| WL.nt <| WC.seq <| WC.region <| WL.v (v_move rfl rfl) rfl <| WL.v (v_assign rfl rfl) rfl <| WL.nt <| WC.ret <| WE.ret1 (P := Tryz.prog) (.inl rfl) Tryz.results109 rfl <| ?_
   exact fun w' h => ⟨_, _, [.row g22 cs22], rfl, Vec.row (k := 0) rfl hl22 (Nat.zero_le _), h.sub (.refl _)⟩
  ·
   refine WL.nt <| WC.cond_f rfl <| WC.skip <| WE.then_n <| WC.seq <| WC.region <| WL.v (v_move rfl rfl) rfl <| WL.v (v_assign rfl rfl) rfl <| WL.nt <| WC.ret <| ?_
   refine WE.ret1 (P := Tryz.prog) (.inl rfl) Tryz.results109 rfl ?_
   exact fun w' h => ⟨none, 0, [], rfl, Vec.nil 1, h⟩
structure SlL where
  ad : Option Addr
  cap : Nat
  val : List Int
def SlL.cells (s : SlL) : List Value := [.slice s.ad s.val.length s.cap]
def catL (ss : List SlL) : List Int := ss.flatMap SlL.val
theorem catL_take {ss : List SlL} {k : Nat} {s : SlL} (h : ss[k]? = some s) : catL (ss.take (k + 1)) = catL (ss.take k) ++ s.val := by
  rw [take_succ_get h]; unfold catL; rw [List.flatMap_append, List.flatMap_cons, List.flatMap_nil, List.append_nil]
theorem catL_le (ss : List SlL) (k : Nat) : (catL (ss.take k)).length ≤ (catL ss).length := by
  have h : ss = ss.take k ++ ss.drop k := (List.take_append_drop k ss).symm
  have e : catL ss = catL (ss.take k) ++ catL (ss.drop k) := by
    conv => lhs; rw [h]
    unfold catL; rw [List.flatMap_append]
  rw [e, List.length_append]; omega
set_option maxHeartbeats 2000000 in
theorem Concat_c (w0 : World) (gs os c : Nat) (ss : List SlL) (hR : RowsAt w0 (some ⟨gs, os, none⟩) 1 SlL.cells ss) (hC : ∀ s ∈ ss, CellsAt w0 s.ad (u8s s.val)) (hn : (catL ss).length ≤ 100000) (hl : ss.length ≤ 1000) :
    Calls Tryz.prog 83 #[.slice (some ⟨gs, os, none⟩) ss.length c] w0 fun e w' => ∃ v, e = .returned v ∧ OwnB w0 w' (catL ss) v := by
  refine enter Tryz.func83 rfl Tryz.ntmps83 rfl (St.start (fun _ => False) w0) ?_
  refine WC.seq <| WC.region <| WL.v (v_assign rfl rfl) rfl <| WL.nt <| WC.seq <| WC.region <| WL.v (v_assign rfl rfl) rfl <| WL.nt <| WC.seq <| WC.seq <| ?_
  refine WC.region <| WL.v (v_move rfl rfl) rfl <| WL.v (v_len_slice rfl rfl Tryz.underlying193) rfl <| WL.v (v_move rfl rfl) rfl <| WL.nt <| WC.block <| WC.loop (fun k : Nat => [(11, .int .i64 k), (10, .int .i64 ss.length), (9, .slice (some ⟨gs, os, none⟩) ss.length c), (3, .int .i64 (catL (ss.take k)).length), (0, .slice (some ⟨gs, os, none⟩) ss.length c)]) (fun _ => []) (fun k => k ≤ ss.length) (fun k => ss.length - k) 0 (Nat.zero_le _) (.cons rfl (.cons rfl (.cons rfl (.cons rfl (.cons rfl .nil))))) (.refl _) <| ?_
  intro k hk
  refine WC.seq <| WC.region <| ?_
  refine WL.test (v_lss rfl rfl rfl) (.none rfl) rfl rfl (fun h12 => ?_) (fun h12 => ?_)
  ·
   refine WL.nt <| WC.seq <| WC.cond_t rfl <| WC.skip <| WE.then_n <| WC.seq <| WC.block <| WC.seq <| WC.region <| ?_
   obtain ⟨s, hs⟩ : ∃ s, ss[k]? = some s := ⟨ss[k]'(by omega), List.getElem?_eq_getElem _⟩
   have hr := hR.get hs
   have hct := catL_take hs
   have hle := catL_le ss (k + 1)
   have hlen : (catL (ss.take (k + 1))).length = (catL (ss.take k)).length + s.val.length := (by rw [hct, List.length_append])
   refine WL.v (v_indexAddr (lo := k) rfl rfl rfl Tryz.underlying193 sz_25 (by omega) (by omega)) rfl ?_
   refine WL.v (v_load1 rfl rfl one_25 (cellOld (v := .slice s.ad s.val.length s.cap) (fun h => h) (by have := hr 0 _ rfl; exact this))) rfl ?_
   refine WL.v (v_assign rfl rfl) rfl <| WL.nt <| WC.seq <| WC.region <| WL.v (v_move rfl rfl) rfl <| WL.v (v_move rfl rfl) rfl <| WL.v (v_len_slice rfl rfl Tryz.underlying25) rfl <| ?_
   refine WL.v (v_add rfl rfl rfl (show _ = ((catL (ss.take (k + 1))).length : Int) from (w_i64 (by omega) (by omega)).trans (by omega))) rfl ?_
   refine WL.v (v_assign rfl rfl) rfl <| WL.nt <| WC.seq <| WC.region <| WL.v (v_move rfl rfl) rfl <| ?_
   refine WL.v ((v_lss rfl rfl rfl).f (by omega)) rfl ?_
   refine WL.nt <| WC.cond_f rfl <| WC.skip <| WE.block_n <| WE.then_n <| WC.region <| ?_
   refine WL.v (v_add rfl rfl rfl (w_i64 (by omega) (by omega))) rfl ?_
   refine WL.v (v_move rfl rfl) rfl <| WL.nil <| ?_
   exact WE.next (k + 1) (by omega) (by omega) (.int rfl (by omega) (.cons rfl (.cons rfl (.cons rfl (.cons rfl .nil))))) (.refl _)
  ·
   refine WL.nt <| WC.seq <| WC.cond_f rfl <| WC.exit <| WE.then_exit <| WE.then_exit <| WE.block_hit <| WE.then_n <| WC.seq <| WC.region <| ?_
   refine WL.v (v_move rfl rfl) rfl <| WL.call rfl rfl ck_109 (.none rfl) rfl rfl <| ?_
   intro w1 hS
   refine (Grow_c w1 (catL (ss.take k)).length (by have := catL_le ss k; omega)).mono ?_
   rintro e w' ⟨ad24, c24, E24, rfl, hV24, hS'⟩
   refine ⟨_, _, rfl, hS.join hS', ?_⟩
   refine WL.v (v_assign rfl rfl) rfl <| WL.nt <| WC.seq <| WC.seq <| WC.region <| WL.v (v_move rfl rfl) rfl <| WL.v (v_len_slice rfl rfl Tryz.underlying193) rfl <| WL.v (v_move rfl rfl) rfl <| WL.nt <| WC.block <| ?_
   refine WC.loop (fun x : Nat × Option Addr × Nat × List Ent => [(27, .int .i64 x.1), (26, .int .i64 ss.length), (25, .slice (some ⟨gs, os, none⟩) ss.length c), (6, .slice x.2.1 (catL (ss.take x.1)).length x.2.2.1)]) (fun x => x.2.2.2 ++ []) (fun x => x.1 ≤ ss.length ∧ BV x.2.1 x.2.2.1 (catL (ss.take x.1)) x.2.2.2) (fun x => ss.length - x.1) (0, ad24, c24, E24) ⟨Nat.zero_le _, hV24⟩ (.cons rfl (.cons rfl (.cons rfl (.cons rfl .nil)))) (.refl _) ?_
   rintro ⟨k, ad, c6, E⟩ ⟨hk2, hV⟩
   dsimp only at hk2 hV
   dsimp only
   refine WC.seq <| WC.region <| ?_
   refine WL.test (v_lss rfl rfl rfl) (.none rfl) rfl rfl (fun h28 => ?_) (fun h28 => ?_)
   ·
    refine WL.nt <| WC.seq <| WC.cond_t rfl <| WC.skip <| WE.then_n <| WC.seq <| WC.block <| WC.seq <| WC.region <| ?_
    obtain ⟨s, hs⟩ : ∃ s, ss[k]? = some s := ⟨ss[k]'(by omega), List.getElem?_eq_getElem _⟩
    have hr := hR.get hs
    have hct := catL_take hs
    have hle := catL_le ss (k + 1)
    have hlen : (catL (ss.take (k + 1))).length = (catL (ss.take k)).length + s.val.length := (by rw [hct, List.length_append])
    have hsrc : 0 < s.val.length → ∃ b so, s.ad = some ⟨b, so, none⟩ ∧ ∀ w, St (fun _ => False) w0 w (E ++ []) → w.rangeAt b so (u8s s.val) := (fun h => by
      obtain ⟨b, o, e, hr⟩ := hC s (List.mem_of_getElem? hs) (by rw [u8s_len]; exact h)
      exact ⟨b, o, e, fun w hS => hS.rng (fun _ h => h) _ _ _ hr⟩)
    refine WL.v (v_indexAddr (lo := k) rfl rfl rfl Tryz.underlying193 sz_25 (by omega) (by omega)) rfl ?_
    refine WL.v (v_load1 rfl rfl one_25 (cellOld (v := .slice s.ad s.val.length s.cap) (fun h => h) (by have := hr 0 _ rfl; exact this))) rfl ?_
    refine WL.v (v_assign rfl rfl) rfl <| WL.nt <| WC.region <| WL.v (v_move rfl rfl) rfl <| WL.v (v_move rfl rfl) rfl <| ?_
    refine WL.appendL rfl rfl rfl Tryz.underlying25 Tryz.underlying25 sz_5 by_5 zero_5 rfl rfl hV (new := u8s s.val) hsrc (by rw [u8s_len]; omega) (u8s_one _) (by omega) (.none rfl) rfl rfl ?_
    intro ad33 c33 E33 hV33 hr33
    rw [← u8s_app, ← hct] at hV33
    rw [← hlen] at hV33 ⊢
    refine WL.v (v_assign rfl rfl) rfl <| WL.nil <| WE.block_n <| WE.then_n <| WC.region <| ?_
    refine WL.v (v_add rfl rfl rfl (w_i64 (by omega) (by omega))) rfl ?_
    refine WL.v (v_move rfl rfl) rfl <| WL.nil <| ?_
    exact WE.next (k + 1, ad33, c33, E33) (by dsimp only; omega) ⟨by dsimp only; omega, hV33⟩ (.int rfl (by dsimp only; omega) (.cons rfl (.cons rfl (.cons rfl .nil)))) (.refl _)
   ·
    refine WL.nt <| WC.seq <| WC.cond_f rfl <| WC.exit <| WE.then_exit <| WE.then_exit <| WE.block_hit <| WE.then_n <| WC.seq <| WC.region <| ?_
    refine WL.v (v_move rfl rfl) rfl <| WL.v (v_assign rfl rfl) rfl <| WL.nt <| WC.ret <| WE.ret1 (P := Tryz.prog) (.inl rfl) Tryz.results83 rfl <| ?_
    have ek : k = ss.length := (by omega)
    rw [ek, List.take_length] at hV ⊢
    exact fun w' h => ⟨_, rfl, ad, c6, E, rfl, hV, h.sub (List.sublist_append_left _ _)⟩
end Go.Proofs.YtcmpamnhegndnaaGreatDoor
/- stream: what a Reader makes of bytes, as plain lists. -/
namespace Go.Proofs.YtcmpamnhegndnaaGreatDoor
open Go.RowKit

/-- Bytes seen through a slice, in blocks of E. -/
structure View (E : List Ent) (aa : Option Addr) (c : Nat) (ys : List Int) : Prop where
  le : ys.length ≤ c
  bys : Bys ys
  at_ : (aa = none ∧ c = 0 ∧ ys = []) ∨ ∃ b o, aa = some ⟨b, o, none⟩ ∧ ∀ w, (∀ e ∈ E, e.holds w) → w.rangeAt b o (u8s ys)
theorem View.of {ad : Option Addr} {c : Nat} {xs : List Int} {E : List Ent} (h : BV ad c xs E) (hb : Bys xs) : View E ad c xs := by
  refine ⟨h.len.2, hb, ?_⟩
  rcases h with ⟨ha, hn, hc, _⟩ | ⟨g, cs, rfl, rfl, hx, _, _⟩
  · exact .inl ⟨ha, hc, List.length_eq_zero_iff.1 hn⟩
  · refine .inr ⟨g, 0, rfl, fun w hw j v hj => ?_⟩
    have hR : Row w g cs := hw (.row g cs) (List.mem_cons_self ..)
    rw [← hx, List.getElem?_take] at hj
    split at hj
    · rw [Nat.zero_add]; exact hR.cell hj
    · cases hj
theorem View.win {E : List Ent} {b o c : Nat} {ys : List Int} (h : View E (some ⟨b, o, none⟩) c ys) {w : World} (hw : ∀ e ∈ E, e.holds w) : Win w b o c ys := by
  rcases h.at_ with ⟨h1, _, _⟩ | ⟨b', o', e, hr⟩
  · exact nomatch h1
  · cases e; exact ⟨hr w hw, h.bys, h.le⟩
theorem View.some {E : List Ent} {aa : Option Addr} {c : Nat} {ys : List Int} (h : View E aa c ys) (h0 : 0 < ys.length) : ∃ b o, aa = some ⟨b, o, none⟩ := by
  rcases h.at_ with ⟨_, _, e⟩ | ⟨b, o, e, _⟩
  · rw [e] at h0; exact absurd h0 (Nat.lt_irrefl 0)
  · exact ⟨b, o, e⟩
theorem View.drop {E : List Ent} {b o c : Nat} {ys : List Int} (h : View E (.some ⟨b, o, none⟩) c ys) (k : Nat) : View E (.some ⟨b, sAddr o k c 1, none⟩) (c - k) (ys.drop k) := by
  have hle := h.le
  refine ⟨by rw [List.length_drop]; omega, fun x hx => h.bys x (List.mem_of_mem_drop hx), .inr ⟨b, sAddr o k c 1, rfl, fun w hw => ((h.win hw).drop k).at_⟩⟩
/-- A Reader. -/
structure RdL where
  ad : Option Addr
  cap : Nat
  wait : List Int
  count : Int
  fc : Int
  fs : Int
  fd : ByteArray
def RdL.cells (r : RdL) : List Value := [.slice r.ad r.wait.length r.cap, .int .i64 r.count, .int .i64 r.fc, .int .i64 r.fs, .string r.fd]
def szL (xs : List Int) : Nat := (sizeR xs.length (fOf xs)).1.toNat
/-- The messages behind others that bytes are, the fault, what waits. -/
def feedM (acc : List MsD) (xs : List Int) : List MsD × Option (Int × Int × ByteArray) × List Int :=
  if xs.length < 19 then (acc, none, xs)
  else if (sizeR xs.length (fOf xs)).2.1 ≠ 0 then (acc, some (sizeR xs.length (fOf xs)).2, [])
  else if xs.length < szL xs then (acc, none, xs)
  else match decM (xs.take (szL xs)) with
    | .inr f => (acc, some f, [])
    | .inl m => feedM (acc ++ [m]) (xs.drop (szL xs))
termination_by xs.length
decreasing_by
  rename_i _ h2 _
  rw [List.length_drop]
  rcases sizeR_cases xs.length (fOf xs) with ⟨C, S, d, e, hC⟩ | ⟨e, _, _, h, _⟩
  · rw [e] at h2; exact absurd hC h2
  · have : szL xs = (lenI (fOf xs)).toNat := by unfold szL; rw [e]
    omega
theorem feedM_few {acc : List MsD} {xs : List Int} (h : xs.length < 19) : feedM acc xs = (acc, none, xs) := by rw [feedM, if_pos h]
theorem feedM_bad {acc : List MsD} {xs : List Int} (h : ¬ xs.length < 19) {f : Int × Int × ByteArray} (hs : (sizeR xs.length (fOf xs)).2 = f) (hC : f.1 ≠ 0) : feedM acc xs = (acc, some f, []) := by
  rw [feedM, if_neg h, if_pos (by rw [hs]; exact hC), hs]
theorem feedM_wait {acc : List MsD} {xs : List Int} (h : ¬ xs.length < 19) (hs : (sizeR xs.length (fOf xs)).2.1 = 0) (hl : xs.length < szL xs) : feedM acc xs = (acc, none, xs) := by
  rw [feedM, if_neg h, if_neg (by rw [hs]; decide), if_pos hl]
theorem feedM_flt {acc : List MsD} {xs : List Int} (h : ¬ xs.length < 19) (hs : (sizeR xs.length (fOf xs)).2.1 = 0) (hl : ¬ xs.length < szL xs) {f : Int × Int × ByteArray} (hd : decM (xs.take (szL xs)) = .inr f) : feedM acc xs = (acc, some f, []) := by
  rw [feedM, if_neg h, if_neg (by rw [hs]; decide), if_neg hl, hd]
theorem feedM_on {acc : List MsD} {xs : List Int} (h : ¬ xs.length < 19) (hs : (sizeR xs.length (fOf xs)).2.1 = 0) (hl : ¬ xs.length < szL xs) {m : MsD} (hd : decM (xs.take (szL xs)) = .inl m) : feedM acc xs = feedM (acc ++ [m]) (xs.drop (szL xs)) := by
  rw [feedM, if_neg h, if_neg (by rw [hs]; decide), if_neg hl, hd]
theorem Size_u (w0 : World) (b o c : Nat) (xs : List Int) (hW : Win w0 b o c xs) (hn : xs.length ≤ 100000) :
    Calls Tryz.prog 84 #[.slice (some ⟨b, o, none⟩) xs.length c] w0 fun e w' => ∃ (ok : Bool) (n : Nat) (C S : Int) (d : ByteArray), e = .returned (.tuple #[.int .i64 n, .agg (fltL C S d).toArray]) ∧ Frm (fun _ => False) w0 w' ∧
      (ok = false → C ≠ 0 ∧ (sizeR xs.length (fOf xs)).2 = (C, S, d)) ∧ (ok = true → C = 0 ∧ S = 0 ∧ d = ⟨#[]⟩ ∧ (sizeR xs.length (fOf xs)).2.1 = 0 ∧ n = szL xs ∧ 19 ≤ n ∧ n ≤ 4096) := by
  refine (Size_c w0 (some ⟨b, o, none⟩) xs.length c (fOf xs) (fOf_byt hW.bys) (fun _ => ⟨b, o, rfl, rd_u8s hW.at_⟩) (by omega) hW.le).mono fun e w' h => ?_
  obtain ⟨rfl, hF⟩ := h
  rcases sizeR_cases xs.length (fOf xs) with ⟨C, S, d, e, hC⟩ | ⟨e, h1, h2, h3, h4, _⟩
  · exact ⟨false, 0, C, S, d, by rw [e]; rfl, hF, fun _ => ⟨hC, by rw [e]⟩, fun e => by cases e⟩
  · obtain ⟨n, hn⟩ := Int.eq_ofNat_of_zero_le (show 0 ≤ lenI (fOf xs) by omega)
    have es : szL xs = n := by unfold szL; rw [e]; dsimp only; rw [hn, Int.toNat_natCast]
    exact ⟨true, n, 0, 0, ⟨#[]⟩, by rw [e, hn]; rfl, hF, fun e => (by cases e), fun _ => ⟨rfl, rfl, rfl, by rw [e], es.symm, by omega, by omega⟩⟩
theorem updR_code {xs : List Int} {c s : Int} {d : ByteArray} (h : updR xs = .inr (c, s, d)) : c ≠ 0 := by
  unfold updR at h
  split at h
  · cases h; decide
  split at h
  · cases h; decide
  split at h
  · cases h; decide
  split at h
  · cases h; decide
  split at h
  · cases h; decide
  split at h
  · cases h; decide
  split at h
  · cases h; decide
  · cases h
theorem decM_code {xs : List Int} {c s : Int} {d : ByteArray} (h : decM xs = .inr (c, s, d)) : c ≠ 0 := by
  unfold decM at h
  split at h
  · rename_i h1; cases hq : (sizeR xs.length (fOf xs)) with | mk a r => rw [hq] at h h1; cases h; exact h1
  split at h
  · cases h; decide
  unfold bodyM at h
  split at h
  · split at h
    · cases h
    · cases h; decide
  split at h
  · split at h
    · cases h
    · cases h; rename_i h2; exact updR_code h2
  split at h
  · cases h
  · cases h
theorem Decode_u (w0 : World) (b o c : Nat) (xs : List Int) (hG : GF w0) (hZ : GZ w0) (hW : Win w0 b o c xs) (hn : xs.length ≤ 90000) :
    Calls Tryz.prog 85 #[.slice (some ⟨b, o, none⟩) xs.length c] w0 fun e w' => ∃ (ok : Bool) (C S : Int) (d : ByteArray) (m : MsL) (K : List Ent), e = .returned (.tuple #[.agg m.cells.toArray, .agg (fltL C S d).toArray]) ∧ MsAll K m ∧ St (fun _ => False) w0 w' K ∧
      (ok = false → C ≠ 0 ∧ decM xs = .inr (C, S, d)) ∧ (ok = true → C = 0 ∧ S = 0 ∧ d = ⟨#[]⟩ ∧ decM xs = .inl m.d) :=
  (Decode_c w0 b o c xs hG hZ hW hn).mono fun e w' h => by
    unfold DecP at h
    cases hp : decM xs with
    | inr x =>
      obtain ⟨C, S, d⟩ := x
      rw [hp] at h
      exact ⟨false, C, S, d, .zero 0, [], h.1, MsAll.zero 0, (St.start _ _).ext h.2, fun _ => ⟨decM_code hp, rfl⟩, fun e => by cases e⟩
    | inl dd =>
      rw [hp] at h
      obtain ⟨m, K, he, hm, hM, hS⟩ := h
      exact ⟨true, 0, 0, ⟨#[]⟩, m, K, he, hM, hS, (fun e => by cases e), fun _ => ⟨rfl, rfl, rfl, by rw [hm]⟩⟩
def msgsL (ms : List MsL) : List Value := ms.flatMap MsL.cells
theorem msgsL_snoc (ms : List MsL) (m : MsL) : msgsL (ms ++ [m]) = msgsL ms ++ m.cells := by unfold msgsL; rw [List.flatMap_append, List.flatMap_cons, List.flatMap_nil, List.append_nil]
theorem MsAll.mono {K K' : List Ent} {m : MsL} (h : MsAll K m) (hm : ∀ e ∈ K, e ∈ K') : MsAll K' m := by
  obtain ⟨⟨E1, a1, b1⟩, h2, ⟨E3, a3, b3⟩, ⟨E4, a4, b4⟩, h5⟩ := h
  exact ⟨⟨E1, a1, fun e he => hm e (b1 e he)⟩, fun c hc => by obtain ⟨E, q1, q2⟩ := h2 c hc; exact ⟨E, q1, fun e he => hm e (q2 e he)⟩, ⟨E3, a3, fun e he => hm e (b3 e he)⟩, ⟨E4, a4, fun e he => hm e (b4 e he)⟩, h5.mono hm⟩
end Go.Proofs.YtcmpamnhegndnaaGreatDoor
/- stream: Reader.Feed, walked. -/
namespace Go.Proofs.YtcmpamnhegndnaaGreatDoor
open Go.RowKit

theorem CloneV_c (w : World) (E : List Ent) (aa : Option Addr) (c : Nat) (ys : List Int) (hV : View E aa c ys) (hw : ∀ e ∈ E, e.holds w) (hn : ys.length ≤ 1000000) :
    Calls Tryz.prog 86 #[.slice aa ys.length c] w fun e w' => ∃ x, e = .returned x ∧ OwnB w w' ys x := by
  rcases hV.at_ with ⟨rfl, rfl, rfl⟩ | ⟨b, o, rfl, _⟩
  · refine enter Tryz.func86 rfl Tryz.ntmps86 rfl (St.start (fun _ => False) w) ?_
    refine WC.seq <| WC.region <| WL.v (v_assign rfl rfl) rfl <| WL.nt <| WC.seq <| WC.seq <| WC.region <| WL.v (v_move rfl rfl) rfl <| WL.v (v_eql_nil true rfl rfl Tryz.underlying25 rfl) rfl <| WL.nt <| ?_
    refine WC.cond_t rfl <| WC.seq <| WC.region <| WL.v (v_assign rfl rfl) rfl <| WL.nt <| WC.ret <| WE.then_ret <| WE.ret1 (P := Tryz.prog) (.inl rfl) Tryz.results86 rfl <| ?_
    exact fun w' h => ⟨_, rfl, none, 0, [], rfl, Vec.nil 1, h⟩
  · exact CloneB_c w b o c ys (hV.win hw) hn
theorem rows1 {w : World} {g : Nat} {cs : List Value} {ss : List SlL} (h : w.rangeAt g 0 cs) (hcs : cs = ss.map fun s => .slice s.ad s.val.length s.cap) : RowsAt w (some ⟨g, 0, none⟩) 1 SlL.cells ss := fun i s hi => ⟨g, 0, rfl, fun j v hj => by
  match j, hj with
  | 0, hj =>
    cases hj
    have := h i _ (by rw [hcs, List.getElem?_map, hi]; rfl)
    simpa using this
  | j + 1, hj => simp [SlL.cells] at hj⟩
structure FdS where
  ys : List Int
  aa : Option Addr
  c : Nat
  ms : List MsL
  ad : Option Addr
  mc : Nat
  Em : List Ent
  K : List Ent
def RdL.more (r : RdL) (k : Nat) : RdL := { r with count := r.count + k }
def fltOf (f : Option (Int × Int × ByteArray)) : Int × Int × ByteArray := f.getD (0, 0, ⟨#[]⟩)
end Go.Proofs.YtcmpamnhegndnaaGreatDoor
