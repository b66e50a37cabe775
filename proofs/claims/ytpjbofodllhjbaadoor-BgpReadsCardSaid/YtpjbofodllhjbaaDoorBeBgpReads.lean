/- Texts joined: engine, contracts and laws, in the order in which they build. -/
import Derived.Test.YtpjbofodllhjbaaDoorBdBgpReads
/- carrefourref06.Same, carrefourref07.Same: what says the same is the same. -/
namespace Go.Proofs.YtpjbofodllhjbaaDoor
open Go.RowKit

theorem map_get_eq {α β : Type} {f : α → β} {xs ys : List α} (h : xs.map f = ys.map f) {k : Nat} {x : α} (hx : xs[k]? = some x) : ∃ y, ys[k]? = some y ∧ f x = f y := by
  have e : (xs.map f)[k]? = (ys.map f)[k]? := by rw [h]
  rw [List.getElem?_map, List.getElem?_map, hx] at e
  cases hy : ys[k]? with
  | none => rw [hy] at e; cases e
  | some y => rw [hy] at e; exact ⟨y, rfl, Option.some.inj e⟩
theorem map_len_eq {α β : Type} {f : α → β} {xs ys : List α} (h : xs.map f = ys.map f) : xs.length = ys.length := by
  have e := congrArg List.length h
  rwa [List.length_map, List.length_map] at e
theorem rdVal {w w' : World} {L : List Ent} {ad : Option Addr} {xs : List Int} (h : CellsAt w ad (u8s xs)) (hS : St (fun _ => False) w w' L) : RdO w' ad xs.length (fOf xs) := fun hn => by
  obtain ⟨b, o, e, hr⟩ := h (by rw [u8s_len]; exact hn)
  exact ⟨b, o, e, rd_u8s (hS.rng (fun _ h => h) _ _ _ hr)⟩
set_option maxHeartbeats 4000000 in
theorem RSame06_c (w : World) (A B : AtL) (hA : A.At w) (hB : B.At w) (he : A.d = B.d) (hI : A.In) (hp : A.path.length ≤ 1000000) (ho : A.others.length ≤ 1000000) :
    Calls Tryd.prog 47 #[.agg A.rcells.toArray, .agg B.rcells.toArray] w fun e w' => e = .returned (.bool true) ∧ Frm (fun _ => False) w w' := by
  have e1 : A.has = B.has := congrArg AtD.has he
  have e2 : A.origin = B.origin := congrArg AtD.origin he
  have e3 : A.hop = B.hop := congrArg AtD.hop he
  have e4 : A.med = B.med := congrArg AtD.med he
  have e5 : A.loc = B.loc := congrArg AtD.loc he
  have e6 : A.aas = B.aas := congrArg AtD.aas he
  have e7 : A.aid = B.aid := congrArg AtD.aid he
  have e8 : A.comms = B.comms := congrArg AtD.comms he
  have e9 : A.path.map segD = B.path.map segD := congrArg AtD.path he
  have e10 : A.others.map othD = B.others.map othD := congrArg AtD.others he
  have l9 := map_len_eq e9
  have l10 := map_len_eq e10
  refine enter Tryd.func47 rfl Tryd.ntmps47 rfl (St.start (fun _ => False) w) ?_
  refine WC.seq ?_
  refine WC.region ?_
  refine WL.box rfl rfl rfl (.none rfl) rfl rfl ?_
  intro g2 hg2
  refine WL.box rfl rfl rfl (.none rfl) rfl rfl ?_
  intro g3 hg3
  refine WL.val (v_assign rfl rfl) (.none rfl) rfl rfl ?_
  refine WL.nil ?_
  refine WE.then_n ?_
  refine WC.seq ?_
  refine WC.seq ?_
  refine WC.region ?_
  refine WL.val (v_fieldAddr0 rfl rfl fld_51_0) (.none rfl) rfl rfl ?_
  refine WL.val (v_load1 rfl rfl one_3 (cellAt rfl)) (.none rfl) rfl rfl ?_
  refine WL.val (v_fieldAddr0 rfl rfl fld_51_0) (.none rfl) rfl rfl ?_
  refine WL.val (v_load1 rfl rfl one_3 (cellAt rfl)) (.none rfl) rfl rfl ?_
  refine WL.val ((v_neq rfl rfl rfl).f (by omega)) (.none rfl) rfl rfl ?_
  refine WL.val (v_move rfl rfl) (.none rfl) rfl rfl ?_
  refine WL.val (v_fieldAddr0 rfl rfl fld_51_1) (.some rfl rfl rfl) rfl rfl ?_
  refine WL.val (v_load1 rfl rfl one_3 (cellAt rfl)) (.some rfl rfl rfl) rfl rfl ?_
  refine WL.val (v_fieldAddr0 rfl rfl fld_51_1) (.some rfl rfl rfl) rfl rfl ?_
  refine WL.val (v_load1 rfl rfl one_3 (cellAt rfl)) (.some rfl rfl rfl) rfl rfl ?_
  refine WL.val ((v_neq rfl rfl rfl).f (by omega)) (.some rfl rfl rfl) rfl rfl ?_
  refine WL.val (v_pick_f rfl rfl rfl) (.none rfl) rfl rfl ?_
  refine WL.val (v_move rfl rfl) (.none rfl) rfl rfl ?_
  refine WL.val (v_fieldAddr0 rfl rfl fld_51_3) (.some rfl rfl rfl) rfl rfl ?_
  refine WL.val (v_load1 rfl rfl one_3 (cellAt rfl)) (.some rfl rfl rfl) rfl rfl ?_
  refine WL.val (v_fieldAddr0 rfl rfl fld_51_3) (.some rfl rfl rfl) rfl rfl ?_
  refine WL.val (v_load1 rfl rfl one_3 (cellAt rfl)) (.some rfl rfl rfl) rfl rfl ?_
  refine WL.val ((v_neq rfl rfl rfl).f (by omega)) (.some rfl rfl rfl) rfl rfl ?_
  refine WL.val (v_pick_f rfl rfl rfl) (.none rfl) rfl rfl ?_
  refine WL.val (v_move rfl rfl) (.none rfl) rfl rfl ?_
  refine WL.val (v_fieldAddr0 rfl rfl fld_51_4) (.some rfl rfl rfl) rfl rfl ?_
  refine WL.val (v_load1 rfl rfl one_3 (cellAt rfl)) (.some rfl rfl rfl) rfl rfl ?_
  refine WL.val (v_fieldAddr0 rfl rfl fld_51_4) (.some rfl rfl rfl) rfl rfl ?_
  refine WL.val (v_load1 rfl rfl one_3 (cellAt rfl)) (.some rfl rfl rfl) rfl rfl ?_
  refine WL.val ((v_neq rfl rfl rfl).f (by omega)) (.some rfl rfl rfl) rfl rfl ?_
  refine WL.val (v_pick_f rfl rfl rfl) (.none rfl) rfl rfl ?_
  refine WL.val (v_move rfl rfl) (.none rfl) rfl rfl ?_
  refine WL.val (v_fieldAddr0 rfl rfl fld_51_5) (.some rfl rfl rfl) rfl rfl ?_
  refine WL.val (v_load1 rfl rfl one_3 (cellAt rfl)) (.some rfl rfl rfl) rfl rfl ?_
  refine WL.val (v_fieldAddr0 rfl rfl fld_51_5) (.some rfl rfl rfl) rfl rfl ?_
  refine WL.val (v_load1 rfl rfl one_3 (cellAt rfl)) (.some rfl rfl rfl) rfl rfl ?_
  refine WL.val ((v_neq rfl rfl rfl).f (by omega)) (.some rfl rfl rfl) rfl rfl ?_
  refine WL.val (v_pick_f rfl rfl rfl) (.none rfl) rfl rfl ?_
  refine WL.val (v_move rfl rfl) (.none rfl) rfl rfl ?_
  refine WL.val (v_fieldAddr0 rfl rfl fld_51_6) (.some rfl rfl rfl) rfl rfl ?_
  refine WL.val (v_load1 rfl rfl one_3 (cellAt rfl)) (.some rfl rfl rfl) rfl rfl ?_
  refine WL.val (v_fieldAddr0 rfl rfl fld_51_6) (.some rfl rfl rfl) rfl rfl ?_
  refine WL.val (v_load1 rfl rfl one_3 (cellAt rfl)) (.some rfl rfl rfl) rfl rfl ?_
  refine WL.val ((v_neq rfl rfl rfl).f (by omega)) (.some rfl rfl rfl) rfl rfl ?_
  refine WL.val (v_pick_f rfl rfl rfl) (.none rfl) rfl rfl ?_
  refine WL.val (v_move rfl rfl) (.none rfl) rfl rfl ?_
  refine WL.val (v_fieldAddr0 rfl rfl fld_51_7) (.some rfl rfl rfl) rfl rfl ?_
  refine WL.val (v_load1 rfl rfl one_3 (cellAt rfl)) (.some rfl rfl rfl) rfl rfl ?_
  refine WL.val (v_fieldAddr0 rfl rfl fld_51_7) (.some rfl rfl rfl) rfl rfl ?_
  refine WL.val (v_load1 rfl rfl one_3 (cellAt rfl)) (.some rfl rfl rfl) rfl rfl ?_
  refine WL.val ((v_neq rfl rfl rfl).f (by omega)) (.some rfl rfl rfl) rfl rfl ?_
  refine WL.val (v_pick_f rfl rfl rfl) (.none rfl) rfl rfl ?_
  refine WL.val (v_move rfl rfl) (.none rfl) rfl rfl ?_
  refine WL.val (v_fieldAddr0 rfl rfl fld_51_8) (.some rfl rfl rfl) rfl rfl ?_
  refine WL.val (v_load1 rfl rfl one_38 (cellAt rfl)) (.some rfl rfl rfl) rfl rfl ?_
  refine WL.val (v_fieldAddr0 rfl rfl fld_51_8) (.some rfl rfl rfl) rfl rfl ?_
  refine WL.val (v_load1 rfl rfl one_38 (cellAt rfl)) (.some rfl rfl rfl) rfl rfl ?_
  refine WL.call rfl rfl ck_69 (.some rfl rfl rfl) rfl rfl ?_
  intro w hS
  refine Calls.then (list_c _ A.cad B.cad A.cc B.cc A.comms B.comms e8 ((hA.st hS).comms) ((hB.st hS).comms) hI.lens.2.1) hS ?_
  refine WL.val (v_not rfl rfl rfl) (.some rfl rfl rfl) rfl rfl ?_
  refine WL.val (v_pick_f rfl rfl rfl) (.none rfl) rfl rfl ?_
  refine WL.val (v_move rfl rfl) (.none rfl) rfl rfl ?_
  refine WL.val (v_fieldAddr0 rfl rfl fld_51_2) (.some rfl rfl rfl) rfl rfl ?_
  refine WL.val (v_load1 rfl rfl one_48 (cellAt rfl)) (.some rfl rfl rfl) rfl rfl ?_
  refine WL.val (v_len_slice rfl rfl Tryd.underlying48) (.some rfl rfl rfl) rfl rfl ?_
  refine WL.val (v_fieldAddr0 rfl rfl fld_51_2) (.some rfl rfl rfl) rfl rfl ?_
  refine WL.val (v_load1 rfl rfl one_48 (cellAt rfl)) (.some rfl rfl rfl) rfl rfl ?_
  refine WL.val (v_len_slice rfl rfl Tryd.underlying48) (.some rfl rfl rfl) rfl rfl ?_
  refine WL.val ((v_neq rfl rfl rfl).f (by omega)) (.some rfl rfl rfl) rfl rfl ?_
  refine WL.val (v_pick_f rfl rfl rfl) (.none rfl) rfl rfl ?_
  refine WL.val (v_move rfl rfl) (.none rfl) rfl rfl ?_
  refine WL.val (v_fieldAddr0 rfl rfl fld_51_9) (.some rfl rfl rfl) rfl rfl ?_
  refine WL.val (v_load1 rfl rfl one_49 (cellAt rfl)) (.some rfl rfl rfl) rfl rfl ?_
  refine WL.val (v_len_slice rfl rfl Tryd.underlying49) (.some rfl rfl rfl) rfl rfl ?_
  refine WL.val (v_fieldAddr0 rfl rfl fld_51_9) (.some rfl rfl rfl) rfl rfl ?_
  refine WL.val (v_load1 rfl rfl one_49 (cellAt rfl)) (.some rfl rfl rfl) rfl rfl ?_
  refine WL.val (v_len_slice rfl rfl Tryd.underlying49) (.some rfl rfl rfl) rfl rfl ?_
  refine WL.val ((v_neq rfl rfl rfl).f (by omega)) (.some rfl rfl rfl) rfl rfl ?_
  refine WL.val (v_pick_f rfl rfl rfl) (.none rfl) rfl rfl ?_
  refine WL.nil ?_
  refine WE.then_n ?_
  refine WC.cond_f rfl ?_
  refine WC.skip ?_
  refine WE.then_n ?_
  refine WC.seq ?_
  refine WC.seq ?_
  refine WC.region ?_
  refine WL.val (v_fieldAddr0 rfl rfl fld_51_2) (.none rfl) rfl rfl ?_
  refine WL.val (v_load1 rfl rfl one_48 (cellAt rfl)) (.none rfl) rfl rfl ?_
  refine WL.val (v_len_slice rfl rfl Tryd.underlying48) (.none rfl) rfl rfl ?_
  refine WL.val (v_move rfl rfl) (.none rfl) rfl rfl ?_
  refine WL.nil ?_
  refine WE.then_n ?_
  refine WC.block ?_
  refine WC.loop (fun k : Nat => [(83, .int .i64 k), (82, .int .i64 A.path.length), (3, .pointer (some ⟨g3, 0, none⟩)), (2, .pointer (some ⟨g2, 0, none⟩))]) (fun _ => [.row g3 B.rcells, .row g2 A.rcells]) (fun k => k ≤ A.path.length) (fun k => A.path.length - k) 0 (Nat.zero_le _) (.cons rfl (.cons rfl (.cons rfl (.cons rfl .nil)))) (.refl _) ?_
  intro k hk
  refine WC.seq ?_
  refine WC.region ?_
  refine WL.test (v_lss rfl rfl rfl) (.none rfl) rfl rfl (fun h84 => ?_) (fun h84 => ?_)
  ·
   refine WL.nil ?_
   refine WE.then_n ?_
   refine WC.seq ?_
   refine WC.cond_t rfl ?_
   refine WC.skip ?_
   refine WE.then_n ?_
   refine WC.seq ?_
   refine WC.block ?_
   refine WC.seq ?_
   refine WC.region ?_
   refine WL.val (v_move rfl rfl) (.none rfl) rfl rfl ?_
   refine WL.val (v_assign rfl rfl) (.none rfl) rfl rfl ?_
   refine WL.nil ?_
   refine WE.then_n ?_
   refine WC.seq ?_
   refine WC.quiet mixed (by kernel_rfl) ?_
   obtain ⟨x, hx⟩ : ∃ x, A.path[k]? = some x := ⟨A.path[k]'(by omega), List.getElem?_eq_getElem _⟩
   obtain ⟨y, hy, exy⟩ := map_get_eq e9 hx
   have es : x.set = y.set := congrArg Prod.fst exy
   have el : x.asl = y.asl := congrArg Prod.snd exy
   obtain ⟨b1, o1, ea1, r1⟩ := hA.path k x hx
   obtain ⟨b2, o2, ea2, r2⟩ := hB.path k y hy
   have hxm := List.mem_of_getElem? hx
   have hym := List.mem_of_getElem? hy
   refine WQ.val (v_fieldAddr0 rfl rfl fld_51_2) (.none rfl) rfl rfl ?_
   refine WQ.val (v_load1 rfl rfl one_48 (cellAt rfl)) (.none rfl) rfl rfl ?_
   refine WQ.val (v_move rfl rfl) (.none rfl) rfl rfl ?_
   refine WQ.val ((v_indexAddr (b := b1) (off := o1) (lo := k) rfl (by show some (Value.slice A.pad _ _) = _; rw [ea1]) rfl Tryd.underlying48 sz_140 rfl (by omega))) (.none rfl) rfl rfl ?_
   refine WQ.val (v_fieldAddr rfl rfl fld_140_0) (.none rfl) rfl rfl ?_
   refine WQ.val (v_load1 rfl rfl one_4 (cellOld (fun h => h) (r1 0 _ rfl))) (.none rfl) rfl rfl ?_
   refine WQ.val (v_fieldAddr0 rfl rfl fld_51_2) (.none rfl) rfl rfl ?_
   refine WQ.val (v_load1 rfl rfl one_48 (cellAt rfl)) (.none rfl) rfl rfl ?_
   refine WQ.val (v_move rfl rfl) (.none rfl) rfl rfl ?_
   refine WQ.val ((v_indexAddr (b := b2) (off := o2) (lo := k) rfl (by show some (Value.slice B.pad _ _) = _; rw [ea2]) rfl Tryd.underlying48 sz_140 rfl (by omega))) (.none rfl) rfl rfl ?_
   refine WQ.val (v_fieldAddr rfl rfl fld_140_0) (.none rfl) rfl rfl ?_
   refine WQ.val (v_load1 rfl rfl one_4 (cellOld (fun h => h) (r2 0 _ rfl))) (.none rfl) rfl rfl ?_
   refine WQ.val ((v_neq_bool rfl rfl rfl Tryd.underlying4).f (fun h => h es)) (.none rfl) rfl rfl ?_
   refine WQ.val (v_move rfl rfl) (.none rfl) rfl rfl ?_
   refine WQ.val (v_fieldAddr0 rfl rfl fld_51_2) (.some rfl rfl rfl) rfl rfl ?_
   refine WQ.val (v_load1 rfl rfl one_48 (cellAt rfl)) (.some rfl rfl rfl) rfl rfl ?_
   refine WQ.val (v_move rfl rfl) (.some rfl rfl rfl) rfl rfl ?_
   refine WQ.val ((v_indexAddr (b := b1) (off := o1) (lo := k) rfl (by show some (Value.slice A.pad _ _) = _; rw [ea1]) rfl Tryd.underlying48 sz_140 rfl (by omega))) (.some rfl rfl rfl) rfl rfl ?_
   refine WQ.val (v_fieldAddr rfl rfl fld_140_1) (.some rfl rfl rfl) rfl rfl ?_
   refine WQ.val (v_load1 rfl rfl one_38 (cellOld (fun h => h) (r1 1 _ rfl))) (.some rfl rfl rfl) rfl rfl ?_
   refine WQ.val (v_fieldAddr0 rfl rfl fld_51_2) (.some rfl rfl rfl) rfl rfl ?_
   refine WQ.val (v_load1 rfl rfl one_48 (cellAt rfl)) (.some rfl rfl rfl) rfl rfl ?_
   refine WQ.val (v_move rfl rfl) (.some rfl rfl rfl) rfl rfl ?_
   refine WQ.val ((v_indexAddr (b := b2) (off := o2) (lo := k) rfl (by show some (Value.slice B.pad _ _) = _; rw [ea2]) rfl Tryd.underlying48 sz_140 rfl (by omega))) (.some rfl rfl rfl) rfl rfl ?_
   refine WQ.val (v_fieldAddr rfl rfl fld_140_1) (.some rfl rfl rfl) rfl rfl ?_
   refine WQ.val (v_load1 rfl rfl one_38 (cellOld (fun h => h) (r2 1 _ rfl))) (.some rfl rfl rfl) rfl rfl ?_
   refine WQ.call _ rfl rfl ck_69 (.some rfl rfl rfl) rfl rfl (fun w hS => Calls.still (list_c _ x.ad y.ad x.cap y.cap x.asl y.asl el ((hA.st hS).segs x hxm) ((hB.st hS).segs y hym) (hI.segs x hxm).1) hS) ?_
   refine WQ.val (v_not rfl rfl rfl) (.some rfl rfl rfl) rfl rfl ?_
   refine WQ.val (v_pick_f rfl rfl rfl) (.none rfl) rfl rfl ?_
   refine WQ.nil ?_
   refine WE.then_n ?_
   refine WC.cond_f rfl ?_
   refine WC.skip ?_
   refine WE.block_n ?_
   refine WE.then_n ?_
   refine WC.region ?_
   refine WL.val (v_add rfl rfl rfl (w_i64 (by omega) (by omega))) (.none rfl) rfl rfl ?_
   refine WL.val (v_move rfl rfl) (.none rfl) rfl rfl ?_
   refine WL.nil ?_
   exact WE.next (k + 1) (by omega) (by omega) (.int rfl (by omega) (.cons rfl (.cons rfl (.cons rfl .nil)))) (.refl _)
  ·
   refine WL.nil ?_
   refine WE.then_n ?_
   refine WC.seq ?_
   refine WC.cond_f rfl ?_
   refine WC.exit ?_
   refine WE.then_exit ?_
   refine WE.then_exit ?_
   refine WE.block_hit ?_
   refine WE.then_n ?_
   refine WC.seq ?_
   refine WC.seq ?_
   refine WC.region ?_
   refine WL.val (v_fieldAddr0 rfl rfl fld_51_9) (.none rfl) rfl rfl ?_
   refine WL.val (v_load1 rfl rfl one_49 (cellAt rfl)) (.none rfl) rfl rfl ?_
   refine WL.val (v_len_slice rfl rfl Tryd.underlying49) (.none rfl) rfl rfl ?_
   refine WL.val (v_move rfl rfl) (.none rfl) rfl rfl ?_
   refine WL.nil ?_
   refine WE.then_n ?_
   refine WC.block ?_
   refine WC.loop (fun k : Nat => [(119, .int .i64 k), (118, .int .i64 A.others.length), (3, .pointer (some ⟨g3, 0, none⟩)), (2, .pointer (some ⟨g2, 0, none⟩))]) (fun _ => [.row g3 B.rcells, .row g2 A.rcells]) (fun k => k ≤ A.others.length) (fun k => A.others.length - k) 0 (Nat.zero_le _) (.cons rfl (.cons rfl (.cons rfl (.cons rfl .nil)))) (.refl _) ?_
   intro k hk
   refine WC.seq ?_
   refine WC.region ?_
   refine WL.test (v_lss rfl rfl rfl) (.none rfl) rfl rfl (fun h120 => ?_) (fun h120 => ?_)
   ·
    refine WL.nil ?_
    refine WE.then_n ?_
    refine WC.seq ?_
    refine WC.cond_t rfl ?_
    refine WC.skip ?_
    refine WE.then_n ?_
    refine WC.seq ?_
    refine WC.block ?_
    refine WC.seq ?_
    refine WC.region ?_
    refine WL.val (v_move rfl rfl) (.none rfl) rfl rfl ?_
    refine WL.val (v_assign rfl rfl) (.none rfl) rfl rfl ?_
    refine WL.nil ?_
    refine WE.then_n ?_
    refine WC.seq ?_
    refine WC.quiet mixed (by kernel_rfl) ?_
    obtain ⟨x, hx⟩ : ∃ x, A.others[k]? = some x := ⟨A.others[k]'(by omega), List.getElem?_eq_getElem _⟩
    obtain ⟨y, hy, exy⟩ := map_get_eq e10 hx
    have es : x.ty = y.ty := congrArg Prod.fst exy
    have el : x.val = y.val := congrArg Prod.snd exy
    obtain ⟨b1, o1, ea1, r1⟩ := hA.oths k x hx
    obtain ⟨b2, o2, ea2, r2⟩ := hB.oths k y hy
    have hxm := List.mem_of_getElem? hx
    have hym := List.mem_of_getElem? hy
    refine WQ.val (v_fieldAddr0 rfl rfl fld_51_9) (.none rfl) rfl rfl ?_
    refine WQ.val (v_load1 rfl rfl one_49 (cellAt rfl)) (.none rfl) rfl rfl ?_
    refine WQ.val (v_move rfl rfl) (.none rfl) rfl rfl ?_
    refine WQ.val ((v_indexAddr (b := b1) (off := o1) (lo := k) rfl (by show some (Value.slice A.oad _ _) = _; rw [ea1]) rfl Tryd.underlying49 sz_135 rfl (by omega))) (.none rfl) rfl rfl ?_
    refine WQ.val (v_fieldAddr rfl rfl fld_135_0) (.none rfl) rfl rfl ?_
    refine WQ.val (v_load1 rfl rfl one_3 (cellOld (fun h => h) (r1 0 _ rfl))) (.none rfl) rfl rfl ?_
    refine WQ.val (v_fieldAddr0 rfl rfl fld_51_9) (.none rfl) rfl rfl ?_
    refine WQ.val (v_load1 rfl rfl one_49 (cellAt rfl)) (.none rfl) rfl rfl ?_
    refine WQ.val (v_move rfl rfl) (.none rfl) rfl rfl ?_
    refine WQ.val ((v_indexAddr (b := b2) (off := o2) (lo := k) rfl (by show some (Value.slice B.oad _ _) = _; rw [ea2]) rfl Tryd.underlying49 sz_135 rfl (by omega))) (.none rfl) rfl rfl ?_
    refine WQ.val (v_fieldAddr rfl rfl fld_135_0) (.none rfl) rfl rfl ?_
    refine WQ.val (v_load1 rfl rfl one_3 (cellOld (fun h => h) (r2 0 _ rfl))) (.none rfl) rfl rfl ?_
    refine WQ.val ((v_neq rfl rfl rfl).f (by omega)) (.none rfl) rfl rfl ?_
    refine WQ.val (v_move rfl rfl) (.none rfl) rfl rfl ?_
    refine WQ.val (v_fieldAddr0 rfl rfl fld_51_9) (.some rfl rfl rfl) rfl rfl ?_
    refine WQ.val (v_load1 rfl rfl one_49 (cellAt rfl)) (.some rfl rfl rfl) rfl rfl ?_
    refine WQ.val (v_move rfl rfl) (.some rfl rfl rfl) rfl rfl ?_
    refine WQ.val ((v_indexAddr (b := b1) (off := o1) (lo := k) rfl (by show some (Value.slice A.oad _ _) = _; rw [ea1]) rfl Tryd.underlying49 sz_135 rfl (by omega))) (.some rfl rfl rfl) rfl rfl ?_
    refine WQ.val (v_fieldAddr rfl rfl fld_135_1) (.some rfl rfl rfl) rfl rfl ?_
    refine WQ.val (v_load1 rfl rfl one_22 (cellOld (fun h => h) (r1 1 _ rfl))) (.some rfl rfl rfl) rfl rfl ?_
    refine WQ.val (v_convBS (fOf x.val) rfl rfl Tryd.underlying22 Tryd.underlying5 Tryd.underlying9 (fun w' hS' => rdVal (hA.vals x hxm) hS')) (.some rfl rfl rfl) rfl rfl ?_
    refine WQ.val (v_fieldAddr0 rfl rfl fld_51_9) (.some rfl rfl rfl) rfl rfl ?_
    refine WQ.val (v_load1 rfl rfl one_49 (cellAt rfl)) (.some rfl rfl rfl) rfl rfl ?_
    refine WQ.val (v_move rfl rfl) (.some rfl rfl rfl) rfl rfl ?_
    refine WQ.val ((v_indexAddr (b := b2) (off := o2) (lo := k) rfl (by show some (Value.slice B.oad _ _) = _; rw [ea2]) rfl Tryd.underlying49 sz_135 rfl (by omega))) (.some rfl rfl rfl) rfl rfl ?_
    refine WQ.val (v_fieldAddr rfl rfl fld_135_1) (.some rfl rfl rfl) rfl rfl ?_
    refine WQ.val (v_load1 rfl rfl one_22 (cellOld (fun h => h) (r2 1 _ rfl))) (.some rfl rfl rfl) rfl rfl ?_
    refine WQ.val (v_convBS (fOf y.val) rfl rfl Tryd.underlying22 Tryd.underlying5 Tryd.underlying9 (fun w' hS' => rdVal (hB.vals y hym) hS')) (.some rfl rfl rfl) rfl rfl ?_
    refine WQ.val ((v_neq_string rfl rfl rfl Tryd.underlying9).f (fun h => h (by rw [el]))) (.some rfl rfl rfl) rfl rfl ?_
    refine WQ.val (v_pick_f rfl rfl rfl) (.none rfl) rfl rfl ?_
    refine WQ.nil ?_
    refine WE.then_n ?_
    refine WC.cond_f rfl ?_
    refine WC.skip ?_
    refine WE.block_n ?_
    refine WE.then_n ?_
    refine WC.region ?_
    refine WL.val (v_add rfl rfl rfl (w_i64 (by omega) (by omega))) (.none rfl) rfl rfl ?_
    refine WL.val (v_move rfl rfl) (.none rfl) rfl rfl ?_
    refine WL.nil ?_
    exact WE.next (k + 1) (by omega) (by omega) (.int rfl (by omega) (.cons rfl (.cons rfl (.cons rfl .nil)))) (.refl _)
   ·
    refine WL.nil ?_
    refine WE.then_n ?_
    refine WC.seq ?_
    refine WC.cond_f rfl ?_
    refine WC.exit ?_
    refine WE.then_exit ?_
    refine WE.then_exit ?_
    refine WE.block_hit ?_
    refine WE.then_n ?_
    refine WC.seq ?_
    refine WC.region ?_
    refine WL.val (v_assign rfl rfl) (.none rfl) rfl rfl ?_
    refine WL.nil ?_
    refine WE.then_n ?_
    refine WC.ret ?_
    refine WE.ret1 (P := Tryd.prog) (.inl rfl) Tryd.results47 rfl ?_
    exact fun w' h => ⟨rfl, h.frm⟩
end Go.Proofs.YtpjbofodllhjbaaDoor
/- carrefourref07.Same: what says the same is the same. -/
namespace Go.Proofs.YtpjbofodllhjbaaDoor
open Go.RowKit

set_option maxHeartbeats 4000000 in
theorem RSame07_c (w : World) (A B : MsL) (hA : A.At w) (hB : B.At w) (he : A.d = B.d) (hI : A.In) (hf : A.Few) :
    Calls Tryd.prog 19 #[.agg A.rcells.toArray, .agg B.rcells.toArray] w fun e w' => e = .returned (.bool true) ∧ Frm (fun _ => False) w w' := by
  have e1 : A.kind = B.kind := congrArg MsD.kind he
  have e2 : A.asn = B.asn := congrArg MsD.asn he
  have e3 : A.hold = B.hold := congrArg MsD.hold he
  have e4 : A.id = B.id := congrArg MsD.id he
  have e5 : A.caps.map capD = B.caps.map capD := congrArg MsD.caps he
  have e6 : A.gone = B.gone := congrArg MsD.gone he
  have e7 : A.nets = B.nets := congrArg MsD.nets he
  have e8 : A.atr.d = B.atr.d := congrArg MsD.atr he
  have e9 : A.fc = B.fc := congrArg MsD.fc he
  have e10 : A.fs = B.fs := congrArg MsD.fs he
  have e11 : A.fd = B.fd := congrArg MsD.fd he
  have l5 := map_len_eq e5
  have hkl := hf.caps
  refine enter Tryd.func19 rfl Tryd.ntmps19 rfl (St.start (fun _ => False) w) ?_
  refine WC.seq ?_
  refine WC.region ?_
  refine WL.box rfl rfl rfl (.none rfl) rfl rfl ?_
  intro g2 hg2
  refine WL.box rfl rfl rfl (.none rfl) rfl rfl ?_
  intro g3 hg3
  refine WL.val (v_assign rfl rfl) (.none rfl) rfl rfl ?_
  refine WL.nil ?_
  refine WE.then_n ?_
  refine WC.seq ?_
  refine WC.seq ?_
  refine WC.region ?_
  refine WL.val (v_fieldAddr0 rfl rfl fld_53_0) (.none rfl) rfl rfl ?_
  refine WL.val (v_load1 rfl rfl one_3 (cellAt rfl)) (.none rfl) rfl rfl ?_
  refine WL.val (v_fieldAddr0 rfl rfl fld_53_0) (.none rfl) rfl rfl ?_
  refine WL.val (v_load1 rfl rfl one_3 (cellAt rfl)) (.none rfl) rfl rfl ?_
  refine WL.val ((v_neq rfl rfl rfl).f (by omega)) (.none rfl) rfl rfl ?_
  refine WL.val (v_move rfl rfl) (.none rfl) rfl rfl ?_
  refine WL.val (v_fieldAddr0 rfl rfl fld_53_1) (.some rfl rfl rfl) rfl rfl ?_
  refine WL.val (v_load1 rfl rfl one_3 (cellAt rfl)) (.some rfl rfl rfl) rfl rfl ?_
  refine WL.val (v_fieldAddr0 rfl rfl fld_53_1) (.some rfl rfl rfl) rfl rfl ?_
  refine WL.val (v_load1 rfl rfl one_3 (cellAt rfl)) (.some rfl rfl rfl) rfl rfl ?_
  refine WL.val ((v_neq rfl rfl rfl).f (by omega)) (.some rfl rfl rfl) rfl rfl ?_
  refine WL.val (v_pick_f rfl rfl rfl) (.none rfl) rfl rfl ?_
  refine WL.val (v_move rfl rfl) (.none rfl) rfl rfl ?_
  refine WL.val (v_fieldAddr0 rfl rfl fld_53_2) (.some rfl rfl rfl) rfl rfl ?_
  refine WL.val (v_load1 rfl rfl one_3 (cellAt rfl)) (.some rfl rfl rfl) rfl rfl ?_
  refine WL.val (v_fieldAddr0 rfl rfl fld_53_2) (.some rfl rfl rfl) rfl rfl ?_
  refine WL.val (v_load1 rfl rfl one_3 (cellAt rfl)) (.some rfl rfl rfl) rfl rfl ?_
  refine WL.val ((v_neq rfl rfl rfl).f (by omega)) (.some rfl rfl rfl) rfl rfl ?_
  refine WL.val (v_pick_f rfl rfl rfl) (.none rfl) rfl rfl ?_
  refine WL.val (v_move rfl rfl) (.none rfl) rfl rfl ?_
  refine WL.val (v_fieldAddr0 rfl rfl fld_53_3) (.some rfl rfl rfl) rfl rfl ?_
  refine WL.val (v_load1 rfl rfl one_33 (cellAt rfl)) (.some rfl rfl rfl) rfl rfl ?_
  refine WL.val (v_fieldAddr0 rfl rfl fld_53_3) (.some rfl rfl rfl) rfl rfl ?_
  refine WL.val (v_load1 rfl rfl one_33 (cellAt rfl)) (.some rfl rfl rfl) rfl rfl ?_
  refine WL.val ((v_neq rfl rfl rfl).f (by omega)) (.some rfl rfl rfl) rfl rfl ?_
  refine WL.val (v_pick_f rfl rfl rfl) (.none rfl) rfl rfl ?_
  refine WL.val (v_move rfl rfl) (.none rfl) rfl rfl ?_
  refine WL.val (v_fieldAddr0 rfl rfl fld_53_4) (.some rfl rfl rfl) rfl rfl ?_
  refine WL.val (v_load1 rfl rfl one_46 (cellAt rfl)) (.some rfl rfl rfl) rfl rfl ?_
  refine WL.val (v_len_slice rfl rfl Tryd.underlying46) (.some rfl rfl rfl) rfl rfl ?_
  refine WL.val (v_fieldAddr0 rfl rfl fld_53_4) (.some rfl rfl rfl) rfl rfl ?_
  refine WL.val (v_load1 rfl rfl one_46 (cellAt rfl)) (.some rfl rfl rfl) rfl rfl ?_
  refine WL.val (v_len_slice rfl rfl Tryd.underlying46) (.some rfl rfl rfl) rfl rfl ?_
  refine WL.val ((v_neq rfl rfl rfl).f (by omega)) (.some rfl rfl rfl) rfl rfl ?_
  refine WL.val (v_pick_f rfl rfl rfl) (.none rfl) rfl rfl ?_
  refine WL.val (v_move rfl rfl) (.none rfl) rfl rfl ?_
  refine WL.val (v_fieldAddr0 rfl rfl fld_53_5) (.some rfl rfl rfl) rfl rfl ?_
  refine WL.val (v_load1 rfl rfl one_47 (cellAt rfl)) (.some rfl rfl rfl) rfl rfl ?_
  refine WL.val (v_fieldAddr0 rfl rfl fld_53_5) (.some rfl rfl rfl) rfl rfl ?_
  refine WL.val (v_load1 rfl rfl one_47 (cellAt rfl)) (.some rfl rfl rfl) rfl rfl ?_
  refine WL.call rfl rfl ck_46 (.some rfl rfl rfl) rfl rfl ?_
  intro w hS
  refine Calls.then (same_c _ A.gad B.gad A.gc B.gc A.gone B.gone e6 ((hA.st hS).gone) ((hB.st hS).gone) hf.gone) hS ?_
  refine WL.val (v_not rfl rfl rfl) (.some rfl rfl rfl) rfl rfl ?_
  refine WL.val (v_pick_f rfl rfl rfl) (.none rfl) rfl rfl ?_
  refine WL.val (v_move rfl rfl) (.none rfl) rfl rfl ?_
  refine WL.val (v_fieldAddr0 rfl rfl fld_53_7) (.some rfl rfl rfl) rfl rfl ?_
  refine WL.val (v_load1 rfl rfl one_47 (cellAt rfl)) (.some rfl rfl rfl) rfl rfl ?_
  refine WL.val (v_fieldAddr0 rfl rfl fld_53_7) (.some rfl rfl rfl) rfl rfl ?_
  refine WL.val (v_load1 rfl rfl one_47 (cellAt rfl)) (.some rfl rfl rfl) rfl rfl ?_
  refine WL.call rfl rfl ck_46 (.some rfl rfl rfl) rfl rfl ?_
  intro w hS
  refine Calls.then (same_c _ A.nad B.nad A.nc B.nc A.nets B.nets e7 ((hA.st hS).nets) ((hB.st hS).nets) hf.nets) hS ?_
  refine WL.val (v_not rfl rfl rfl) (.some rfl rfl rfl) rfl rfl ?_
  refine WL.val (v_pick_f rfl rfl rfl) (.none rfl) rfl rfl ?_
  refine WL.val (v_move rfl rfl) (.none rfl) rfl rfl ?_
  refine WL.val (v_fieldAddr0 rfl rfl fld_53_6) (.some rfl rfl rfl) rfl rfl ?_
  refine WL.val (v_loadN rfl rfl many_51 rfl (segAt (m := 10) rfl)) (.some rfl rfl rfl) rfl rfl ?_
  refine WL.val (v_fieldAddr0 rfl rfl fld_53_6) (.some rfl rfl rfl) rfl rfl ?_
  refine WL.val (v_loadN rfl rfl many_51 rfl (segAt (m := 10) rfl)) (.some rfl rfl rfl) rfl rfl ?_
  refine WL.call rfl rfl ck_47 (.some rfl rfl rfl) rfl rfl ?_
  intro w hS
  refine Calls.then (RSame06_c _ A.atr B.atr ((hA.st hS).at_) ((hB.st hS).at_) e8 hI.at_ hf.path hf.oths) hS ?_
  refine WL.val (v_not rfl rfl rfl) (.some rfl rfl rfl) rfl rfl ?_
  refine WL.val (v_pick_f rfl rfl rfl) (.none rfl) rfl rfl ?_
  refine WL.val (v_move rfl rfl) (.none rfl) rfl rfl ?_
  refine WL.val (v_fieldAddr0 rfl rfl fld_53_8) (.some rfl rfl rfl) rfl rfl ?_
  refine WL.val (v_fieldAddr rfl rfl fld_28_0) (.some rfl rfl rfl) rfl rfl ?_
  refine WL.val (v_load1 rfl rfl one_3 (cellAt rfl)) (.some rfl rfl rfl) rfl rfl ?_
  refine WL.val (v_fieldAddr0 rfl rfl fld_53_8) (.some rfl rfl rfl) rfl rfl ?_
  refine WL.val (v_fieldAddr rfl rfl fld_28_0) (.some rfl rfl rfl) rfl rfl ?_
  refine WL.val (v_load1 rfl rfl one_3 (cellAt rfl)) (.some rfl rfl rfl) rfl rfl ?_
  refine WL.val ((v_neq rfl rfl rfl).f (by omega)) (.some rfl rfl rfl) rfl rfl ?_
  refine WL.val (v_pick_f rfl rfl rfl) (.none rfl) rfl rfl ?_
  refine WL.val (v_move rfl rfl) (.none rfl) rfl rfl ?_
  refine WL.val (v_fieldAddr0 rfl rfl fld_53_8) (.some rfl rfl rfl) rfl rfl ?_
  refine WL.val (v_fieldAddr rfl rfl fld_28_1) (.some rfl rfl rfl) rfl rfl ?_
  refine WL.val (v_load1 rfl rfl one_3 (cellAt rfl)) (.some rfl rfl rfl) rfl rfl ?_
  refine WL.val (v_fieldAddr0 rfl rfl fld_53_8) (.some rfl rfl rfl) rfl rfl ?_
  refine WL.val (v_fieldAddr rfl rfl fld_28_1) (.some rfl rfl rfl) rfl rfl ?_
  refine WL.val (v_load1 rfl rfl one_3 (cellAt rfl)) (.some rfl rfl rfl) rfl rfl ?_
  refine WL.val ((v_neq rfl rfl rfl).f (by omega)) (.some rfl rfl rfl) rfl rfl ?_
  refine WL.val (v_pick_f rfl rfl rfl) (.none rfl) rfl rfl ?_
  refine WL.val (v_move rfl rfl) (.none rfl) rfl rfl ?_
  refine WL.val (v_fieldAddr0 rfl rfl fld_53_8) (.some rfl rfl rfl) rfl rfl ?_
  refine WL.val (v_fieldAddr rfl rfl fld_28_2) (.some rfl rfl rfl) rfl rfl ?_
  refine WL.val (v_load1 rfl rfl one_9 (cellAt rfl)) (.some rfl rfl rfl) rfl rfl ?_
  refine WL.val (v_fieldAddr0 rfl rfl fld_53_8) (.some rfl rfl rfl) rfl rfl ?_
  refine WL.val (v_fieldAddr rfl rfl fld_28_2) (.some rfl rfl rfl) rfl rfl ?_
  refine WL.val (v_load1 rfl rfl one_9 (cellAt rfl)) (.some rfl rfl rfl) rfl rfl ?_
  refine WL.val ((v_neq_string rfl rfl rfl Tryd.underlying9).f (fun h => h (congrArg ByteArray.toList e11))) (.some rfl rfl rfl) rfl rfl ?_
  refine WL.val (v_pick_f rfl rfl rfl) (.none rfl) rfl rfl ?_
  refine WL.nil ?_
  refine WE.then_n ?_
  refine WC.cond_f rfl ?_
  refine WC.skip ?_
  refine WE.then_n ?_
  refine WC.seq ?_
  refine WC.seq ?_
  refine WC.region ?_
  refine WL.val (v_fieldAddr0 rfl rfl fld_53_4) (.none rfl) rfl rfl ?_
  refine WL.val (v_load1 rfl rfl one_46 (cellAt rfl)) (.none rfl) rfl rfl ?_
  refine WL.val (v_len_slice rfl rfl Tryd.underlying46) (.none rfl) rfl rfl ?_
  refine WL.val (v_move rfl rfl) (.none rfl) rfl rfl ?_
  refine WL.nil ?_
  refine WE.then_n ?_
  refine WC.block ?_
  refine WC.loop (fun k : Nat => [(95, .int .i64 k), (94, .int .i64 A.caps.length), (3, .pointer (some ⟨g3, 0, none⟩)), (2, .pointer (some ⟨g2, 0, none⟩))]) (fun _ => [.row g3 B.rcells, .row g2 A.rcells]) (fun k => k ≤ A.caps.length) (fun k => A.caps.length - k) 0 (Nat.zero_le _) (.cons rfl (.cons rfl (.cons rfl (.cons rfl .nil)))) (.refl _) ?_
  intro k hk
  refine WC.seq ?_
  refine WC.region ?_
  refine WL.test (v_lss rfl rfl rfl) (.none rfl) rfl rfl (fun h96 => ?_) (fun h96 => ?_)
  ·
   refine WL.nil ?_
   refine WE.then_n ?_
   refine WC.seq ?_
   refine WC.cond_t rfl ?_
   refine WC.skip ?_
   refine WE.then_n ?_
   refine WC.seq ?_
   refine WC.block ?_
   refine WC.seq ?_
   refine WC.region ?_
   refine WL.val (v_move rfl rfl) (.none rfl) rfl rfl ?_
   refine WL.val (v_assign rfl rfl) (.none rfl) rfl rfl ?_
   refine WL.nil ?_
   refine WE.then_n ?_
   refine WC.seq ?_
   refine WC.quiet mixed (by kernel_rfl) ?_
   obtain ⟨x, hx⟩ : ∃ x, A.caps[k]? = some x := ⟨A.caps[k]'(by omega), List.getElem?_eq_getElem _⟩
   obtain ⟨y, hy, exy⟩ := map_get_eq e5 hx
   have es : x.code = y.code := congrArg Prod.fst exy
   have el : x.val = y.val := congrArg Prod.snd exy
   obtain ⟨b1, o1, ea1, r1⟩ := hA.caps k x hx
   obtain ⟨b2, o2, ea2, r2⟩ := hB.caps k y hy
   have hxm := List.mem_of_getElem? hx
   have hym := List.mem_of_getElem? hy
   refine WQ.val (v_fieldAddr0 rfl rfl fld_53_4) (.none rfl) rfl rfl ?_
   refine WQ.val (v_load1 rfl rfl one_46 (cellAt rfl)) (.none rfl) rfl rfl ?_
   refine WQ.val (v_move rfl rfl) (.none rfl) rfl rfl ?_
   refine WQ.val ((v_indexAddr (b := b1) (off := o1) (lo := k) rfl (by show some (Value.slice A.kad _ _) = _; rw [ea1]) rfl Tryd.underlying46 sz_99 rfl (by omega))) (.none rfl) rfl rfl ?_
   refine WQ.val (v_fieldAddr rfl rfl fld_99_0) (.none rfl) rfl rfl ?_
   refine WQ.val (v_load1 rfl rfl one_3 (cellOld (fun h => h) (r1 0 _ rfl))) (.none rfl) rfl rfl ?_
   refine WQ.val (v_fieldAddr0 rfl rfl fld_53_4) (.none rfl) rfl rfl ?_
   refine WQ.val (v_load1 rfl rfl one_46 (cellAt rfl)) (.none rfl) rfl rfl ?_
   refine WQ.val (v_move rfl rfl) (.none rfl) rfl rfl ?_
   refine WQ.val ((v_indexAddr (b := b2) (off := o2) (lo := k) rfl (by show some (Value.slice B.kad _ _) = _; rw [ea2]) rfl Tryd.underlying46 sz_99 rfl (by omega))) (.none rfl) rfl rfl ?_
   refine WQ.val (v_fieldAddr rfl rfl fld_99_0) (.none rfl) rfl rfl ?_
   refine WQ.val (v_load1 rfl rfl one_3 (cellOld (fun h => h) (r2 0 _ rfl))) (.none rfl) rfl rfl ?_
   refine WQ.val ((v_neq rfl rfl rfl).f (by omega)) (.none rfl) rfl rfl ?_
   refine WQ.val (v_move rfl rfl) (.none rfl) rfl rfl ?_
   refine WQ.val (v_fieldAddr0 rfl rfl fld_53_4) (.some rfl rfl rfl) rfl rfl ?_
   refine WQ.val (v_load1 rfl rfl one_46 (cellAt rfl)) (.some rfl rfl rfl) rfl rfl ?_
   refine WQ.val (v_move rfl rfl) (.some rfl rfl rfl) rfl rfl ?_
   refine WQ.val ((v_indexAddr (b := b1) (off := o1) (lo := k) rfl (by show some (Value.slice A.kad _ _) = _; rw [ea1]) rfl Tryd.underlying46 sz_99 rfl (by omega))) (.some rfl rfl rfl) rfl rfl ?_
   refine WQ.val (v_fieldAddr rfl rfl fld_99_1) (.some rfl rfl rfl) rfl rfl ?_
   refine WQ.val (v_load1 rfl rfl one_22 (cellOld (fun h => h) (r1 1 _ rfl))) (.some rfl rfl rfl) rfl rfl ?_
   refine WQ.val (v_convBS (fOf x.val) rfl rfl Tryd.underlying22 Tryd.underlying5 Tryd.underlying9 (fun w' hS' => rdVal (hA.vals x hxm) hS')) (.some rfl rfl rfl) rfl rfl ?_
   refine WQ.val (v_fieldAddr0 rfl rfl fld_53_4) (.some rfl rfl rfl) rfl rfl ?_
   refine WQ.val (v_load1 rfl rfl one_46 (cellAt rfl)) (.some rfl rfl rfl) rfl rfl ?_
   refine WQ.val (v_move rfl rfl) (.some rfl rfl rfl) rfl rfl ?_
   refine WQ.val ((v_indexAddr (b := b2) (off := o2) (lo := k) rfl (by show some (Value.slice B.kad _ _) = _; rw [ea2]) rfl Tryd.underlying46 sz_99 rfl (by omega))) (.some rfl rfl rfl) rfl rfl ?_
   refine WQ.val (v_fieldAddr rfl rfl fld_99_1) (.some rfl rfl rfl) rfl rfl ?_
   refine WQ.val (v_load1 rfl rfl one_22 (cellOld (fun h => h) (r2 1 _ rfl))) (.some rfl rfl rfl) rfl rfl ?_
   refine WQ.val (v_convBS (fOf y.val) rfl rfl Tryd.underlying22 Tryd.underlying5 Tryd.underlying9 (fun w' hS' => rdVal (hB.vals y hym) hS')) (.some rfl rfl rfl) rfl rfl ?_
   refine WQ.val ((v_neq_string rfl rfl rfl Tryd.underlying9).f (fun h => h (by rw [el]))) (.some rfl rfl rfl) rfl rfl ?_
   refine WQ.val (v_pick_f rfl rfl rfl) (.none rfl) rfl rfl ?_
   refine WQ.nil ?_
   refine WE.then_n ?_
   refine WC.cond_f rfl ?_
   refine WC.skip ?_
   refine WE.block_n ?_
   refine WE.then_n ?_
   refine WC.region ?_
   refine WL.val (v_add rfl rfl rfl (w_i64 (by omega) (by omega))) (.none rfl) rfl rfl ?_
   refine WL.val (v_move rfl rfl) (.none rfl) rfl rfl ?_
   refine WL.nil ?_
   exact WE.next (k + 1) (by omega) (by omega) (.int rfl (by omega) (.cons rfl (.cons rfl (.cons rfl .nil)))) (.refl _)
  ·
   refine WL.nil ?_
   refine WE.then_n ?_
   refine WC.seq ?_
   refine WC.cond_f rfl ?_
   refine WC.exit ?_
   refine WE.then_exit ?_
   refine WE.then_exit ?_
   refine WE.block_hit ?_
   refine WE.then_n ?_
   refine WC.seq ?_
   refine WC.region ?_
   refine WL.val (v_assign rfl rfl) (.none rfl) rfl rfl ?_
   refine WL.nil ?_
   refine WE.then_n ?_
   refine WC.ret ?_
   refine WE.ret1 (P := Tryd.prog) (.inl rfl) Tryd.results19 rfl ?_
   exact fun w' h => ⟨rfl, h.frm⟩
end Go.Proofs.YtpjbofodllhjbaaDoor
/- bgp: BgpForm walked: bytes that are a message. -/
namespace Go.Proofs.YtpjbofodllhjbaaDoor
open Go.RowKit

/-- What a read message must be for BgpForm. -/
structure FormOk (md : MsD) : Prop where
  in_ : md.In
  path : md.atr.path.length ≤ 1100
  oths : md.atr.others.length ≤ 300
  caps : md.caps.length ≤ 5000
  gone : md.gone.length ≤ 5000
  nets : md.nets.length ≤ 5000
  code : msgCD md = 0 ∨ msgCD md = 6 ∨ msgCD md = 1 ∧ (md.kind = 3 ∧ md.fc = 0 ∨ 32 < md.caps.length)
  back : msgCD md = 0 → decM (msgBD md) = .inl md ∧ Bys (msgBD md) ∧ 0 < (msgBD md).length ∧ (msgBD md).length ≤ 5000
theorem FormOk.few {md : MsD} (h : FormOk md) {m : MsL} (e : m.d = md) : m.Few ∧ m.In ∧ m.atr.path.length ≤ 1100 ∧ m.atr.others.length ≤ 300 ∧ m.caps.length = md.caps.length := by
  subst e
  have h1 := map_len_eq (f := capD) (xs := m.caps) (ys := m.caps) rfl
  have e1 : m.d.caps.length = m.caps.length := List.length_map ..
  have e2 : m.d.atr.path.length = m.atr.path.length := List.length_map ..
  have e3 : m.d.atr.others.length = m.atr.others.length := List.length_map ..
  have h2 := h.caps
  have h3 := h.path
  have h4 := h.oths
  have h5 : m.gone.length ≤ 5000 := h.gone
  have h6 : m.nets.length ≤ 5000 := h.nets
  exact ⟨⟨by omega, by omega, by omega, by omega, by omega⟩, MsL.in_d.2 h.in_, by omega, by omega, by omega⟩
end Go.Proofs.YtpjbofodllhjbaaDoor
/- attr: what was read is well formed. -/
namespace Go.Proofs.YtpjbofodllhjbaaDoor
open Go.RowKit

/-- Attributes as they are read: what is there is good, what is not is zero. -/
structure AtG (N : Nat) (d : AtD) : Prop where
  each : ∀ k, 1 ≤ k → k ≤ 8 → eachBD d k = true
  hop : U32 d.hop
  aid : U32 d.aid
  path : 4 * d.path.length ≤ N
  oths : ∀ o ∈ d.others, 9 ≤ o.1 ∧ o.1 ≤ 255 ∧ Bys o.2 ∧ o.2.length ≤ N
theorem each_keep {d d' : AtD} {k : Nat} (h1 : hasB d'.has k = hasB d.has k) (h2 : goodBD d' k = goodBD d k) (h3 : zeroBD d' k = zeroBD d k) (h : eachBD d k = true) : eachBD d' k = true := by
  unfold eachBD at h ⊢
  rw [h1, h2, h3]
  exact h
theorem each_new {d : AtD} {k : Nat} (h1 : hasB d.has k = true) (h2 : goodBD d k = true) : eachBD d k = true := by
  unfold eachBD
  rw [h1]
  exact h2
theorem hasB_same {h : Int} {t : Nat} (h1 : 1 ≤ t) (h8 : t ≤ 8) (hb : h / 2 ^ t % 2 = 0) : hasB (h + 2 ^ t) t = true := by
  refine (hasB_iff h1 h8).2 ?_
  have : t = 1 ∨ t = 2 ∨ t = 3 ∨ t = 4 ∨ t = 5 ∨ t = 6 ∨ t = 7 ∨ t = 8 := by omega
  rcases this with rfl | rfl | rfl | rfl | rfl | rfl | rfl | rfl <;> omega
theorem hasB_other {h : Int} {t k : Nat} (h0 : 0 ≤ h) (h1 : h ≤ 511) (ht : t ≤ 8) (hb : h / 2 ^ t % 2 = 0) (hk : k ≤ 8) (hne : k ≠ t) : hasB (h + 2 ^ t) k = hasB h k := by
  have := (bits_addI h0 h1 ht hb).2 k hk hne
  unfold hasB
  rw [this]
theorem readI2 {v : List Int} (h : Bys v) (hl : v.length = 2) : 0 ≤ readI v ∧ readI v ≤ 65535 := by
  match v, hl with
  | [a, b], _ => have := h a (by simp); have := h b (by simp); show 0 ≤ (0 * 256 + a) * 256 + b ∧ (0 * 256 + a) * 256 + b ≤ 65535; omega
theorem readI4 {v : List Int} (h : Bys v) (hl : v.length = 4) : 0 ≤ readI v ∧ readI v ≤ 4294967295 := by
  match v, hl with
  | [a, b, c, d], _ =>
    have := h a (by simp); have := h b (by simp); have := h c (by simp); have := h d (by simp)
    show 0 ≤ (((0 * 256 + a) * 256 + b) * 256 + c) * 256 + d ∧ (((0 * 256 + a) * 256 + b) * 256 + c) * 256 + d ≤ 4294967295; omega
theorem fours_b : ∀ {v : List Int}, Bys v → ∀ x ∈ fours v, 0 ≤ x ∧ x ≤ 4294967295
  | a :: b :: c :: d :: xs, h, x, hx => by
    rw [fours] at hx
    rcases List.mem_cons.1 hx with rfl | hx
    · exact readI4 (fun y hy => h y (by simp at hy ⊢; rcases hy with h | h | h | h <;> simp [h])) rfl
    · exact fours_b (fun y hy => h y (by simp [hy])) x hx
  | [], _, x, hx => by simp [fours] at hx
  | [_], _, x, hx => by simp [fours] at hx
  | [_, _], _, x, hx => by simp [fours] at hx
  | [_, _, _], _, x, hx => by simp [fours] at hx
theorem fours_l : ∀ (v : List Int), (fours v).length ≤ v.length / 4
  | a :: b :: c :: d :: xs => by have := fours_l xs; simp only [fours, List.length_cons]; omega
  | [] => by simp [fours]
  | [_] => by simp [fours]
  | [_, _] => by simp [fours]
  | [_, _, _] => by simp [fours]
theorem pathR_len : ∀ (v : List Int) {p : List (Bool × List Int)}, pathR v = some p → p.all segBD = true → 4 * p.length ≤ v.length
  | [], p, h, _ => by rw [pathR] at h; cases h; exact Nat.le_refl _
  | [_], p, h, _ => by rw [pathR] at h; cases h
  | x :: n :: xs, p, h, ha => by
    rw [pathR_cons] at h
    split at h
    · cases h
    · rename_i hn
      obtain ⟨q, hq, rfl⟩ := Option.map_eq_some_iff.1 h
      rw [List.all_cons, Bool.and_eq_true] at ha
      have ih := pathR_len (xs.drop (2 * n.toNat)) hq ha.2
      have h1 := ha.1
      unfold segBD at h1
      rw [Bool.and_eq_true] at h1
      have h2 := of_decide_eq_true h1.1
      rw [List.length_map, List.length_range] at h2
      rw [List.length_drop] at ih
      rw [List.length_cons, List.length_cons, List.length_cons]
      omega
termination_by v => v.length
decreasing_by simp only [List.length_drop, List.length_cons]; omega
theorem kcases {k : Nat} (h1 : 1 ≤ k) (h8 : k ≤ 8) : k = 1 ∨ k = 2 ∨ k = 3 ∨ k = 4 ∨ k = 5 ∨ k = 6 ∨ k = 7 ∨ k = 8 := by omega
theorem AtG.zero (N : Nat) : AtG N AtL.zero.d := ⟨fun k h1 h8 => by rcases kcases h1 h8 with rfl | rfl | rfl | rfl | rfl | rfl | rfl | rfl <;> decide, ⟨by decide, by decide⟩, ⟨by decide, by decide⟩, Nat.zero_le _, fun _ h => by cases h⟩
set_option maxHeartbeats 1000000 in
theorem AtG.take {N : Nat} {d d' : AtD} {all v : List Int} (hG : AtG N d) (hv : Bys v) (hvl : v.length ≤ N) (h18 : 1 ≤ fOf all 1 ∧ fOf all 1 ≤ 8) (h0 : 0 ≤ d.has) (h1 : d.has ≤ 511) (hb : d.has / 2 ^ (fOf all 1).toNat % 2 = 0) (hcom : fOf all 1 = 8 → d.comms = []) (h : takeD d all v = .inl d') : AtG N d' := by
  obtain ⟨t, ht⟩ := Int.eq_ofNat_of_zero_le (show 0 ≤ fOf all 1 by omega)
  unfold takeD at h
  rw [ht, Int.toNat_natCast] at h
  rw [ht, Int.toNat_natCast] at hb
  rw [ht] at hcom
  split at h
  · cases h
  split at h
  · cases h
  rename_i hsz
  split at h
  · cases h
  rename_i h256
  split at h
  · cases h
  rename_i d2 hs
  split at h
  · cases h
  rename_i g2
  split at h
  · cases h
  rename_i g1
  split at h
  · cases h
  rename_i g3
  cases h
  have t1 : 1 ≤ t := by omega
  have t8 : t ≤ 8 := by omega
  have hn := hasB_same t1 t8 hb
  have hk : ∀ k, k ≤ 8 → k ≠ t → hasB (d.has + 2 ^ t) k = hasB d.has k := fun k k8 e => hasB_other h0 h1 t8 hb k8 e
  rcases kcases t1 t8 with rfl | rfl | rfl | rfl | rfl | rfl | rfl | rfl
  · obtain rfl : { d with origin := readI v } = d2 := Option.some.inj hs
    refine ⟨fun k k1 k8 => ?_, hG.hop, hG.aid, hG.path, hG.oths⟩
    by_cases e : k = 1
    · subst e
      refine each_new hn ?_
      show wiB (readI v) 2 = true
      cases hw : wiB (readI v) 2
      · exact absurd ⟨rfl, hw⟩ g1
      · rfl
    · exact each_keep (hk k k8 e) (by rcases kcases k1 k8 with rfl | rfl | rfl | rfl | rfl | rfl | rfl | rfl <;> first | rfl | exact absurd rfl e) (by rcases kcases k1 k8 with rfl | rfl | rfl | rfl | rfl | rfl | rfl | rfl <;> first | rfl | exact absurd rfl e) (hG.each k k1 k8)
  · obtain ⟨p, hp, rfl⟩ := Option.map_eq_some_iff.1 (show (pathR v).map (fun p => { d with path := p }) = some d2 from hs)
    have hall : p.all segBD = true := by
      cases hw : p.all segBD
      · exact absurd ⟨rfl, hw⟩ g2
      · rfl
    have hpl := pathR_len v hp hall
    refine ⟨fun k k1 k8 => ?_, hG.hop, hG.aid, by show 4 * p.length ≤ N; omega, hG.oths⟩
    by_cases e : k = 2
    · subst e
      exact each_new hn hall
    · exact each_keep (hk k k8 e) (by rcases kcases k1 k8 with rfl | rfl | rfl | rfl | rfl | rfl | rfl | rfl <;> first | rfl | exact absurd rfl e) (by rcases kcases k1 k8 with rfl | rfl | rfl | rfl | rfl | rfl | rfl | rfl <;> first | rfl | exact absurd rfl e) (hG.each k k1 k8)
  · obtain rfl : { d with hop := readI v } = d2 := Option.some.inj hs
    have hl : v.length = 4 := by
      have : ¬ ((0 ≤ (4 : Int) ∧ (v.length : Int) ≠ 4) ∨ _) := hsz
      omega
    refine ⟨fun k k1 k8 => ?_, readI4 hv hl, hG.aid, hG.path, hG.oths⟩
    by_cases e : k = 3
    · subst e
      refine each_new hn ?_
      show hopB (readI v) = true
      cases hw : hopB (readI v)
      · exact absurd ⟨rfl, hw⟩ g3
      · rfl
    · exact each_keep (hk k k8 e) (by rcases kcases k1 k8 with rfl | rfl | rfl | rfl | rfl | rfl | rfl | rfl <;> first | rfl | exact absurd rfl e) (by rcases kcases k1 k8 with rfl | rfl | rfl | rfl | rfl | rfl | rfl | rfl <;> first | rfl | exact absurd rfl e) (hG.each k k1 k8)
  · obtain rfl : { d with med := readI v } = d2 := Option.some.inj hs
    have hl : v.length = 4 := by
      have : ¬ ((0 ≤ (4 : Int) ∧ (v.length : Int) ≠ 4) ∨ _) := hsz
      omega
    refine ⟨fun k k1 k8 => ?_, hG.hop, hG.aid, hG.path, hG.oths⟩
    by_cases e : k = 4
    · subst e
      exact each_new hn (decide_eq_true (readI4 hv hl))
    · exact each_keep (hk k k8 e) (by rcases kcases k1 k8 with rfl | rfl | rfl | rfl | rfl | rfl | rfl | rfl <;> first | rfl | exact absurd rfl e) (by rcases kcases k1 k8 with rfl | rfl | rfl | rfl | rfl | rfl | rfl | rfl <;> first | rfl | exact absurd rfl e) (hG.each k k1 k8)
  · obtain rfl : { d with loc := readI v } = d2 := Option.some.inj hs
    have hl : v.length = 4 := by
      have : ¬ ((0 ≤ (4 : Int) ∧ (v.length : Int) ≠ 4) ∨ _) := hsz
      omega
    refine ⟨fun k k1 k8 => ?_, hG.hop, hG.aid, hG.path, hG.oths⟩
    by_cases e : k = 5
    · subst e
      exact each_new hn (decide_eq_true (readI4 hv hl))
    · exact each_keep (hk k k8 e) (by rcases kcases k1 k8 with rfl | rfl | rfl | rfl | rfl | rfl | rfl | rfl <;> first | rfl | exact absurd rfl e) (by rcases kcases k1 k8 with rfl | rfl | rfl | rfl | rfl | rfl | rfl | rfl <;> first | rfl | exact absurd rfl e) (hG.each k k1 k8)
  · obtain rfl : d = d2 := Option.some.inj hs
    refine ⟨fun k k1 k8 => ?_, hG.hop, hG.aid, hG.path, hG.oths⟩
    by_cases e : k = 6
    · subst e
      exact each_new hn rfl
    · exact each_keep (hk k k8 e) (by rcases kcases k1 k8 with rfl | rfl | rfl | rfl | rfl | rfl | rfl | rfl <;> first | rfl | exact absurd rfl e) (by rcases kcases k1 k8 with rfl | rfl | rfl | rfl | rfl | rfl | rfl | rfl <;> first | rfl | exact absurd rfl e) (hG.each k k1 k8)
  · obtain rfl : { d with aas := readI (v.take 2), aid := readI (v.drop 2) } = d2 := Option.some.inj hs
    have hl : v.length = 6 := by
      have : ¬ ((0 ≤ (6 : Int) ∧ (v.length : Int) ≠ 6) ∨ _) := hsz
      omega
    refine ⟨fun k k1 k8 => ?_, hG.hop, readI4 (fun x hx => hv x (List.mem_of_mem_drop hx)) (by rw [List.length_drop]; omega), hG.path, hG.oths⟩
    by_cases e : k = 7
    · subst e
      exact each_new hn (decide_eq_true (readI2 (fun x hx => hv x (List.mem_of_mem_take hx)) (by rw [List.length_take]; omega)))
    · exact each_keep (hk k k8 e) (by rcases kcases k1 k8 with rfl | rfl | rfl | rfl | rfl | rfl | rfl | rfl <;> first | rfl | exact absurd rfl e) (by rcases kcases k1 k8 with rfl | rfl | rfl | rfl | rfl | rfl | rfl | rfl <;> first | rfl | exact absurd rfl e) (hG.each k k1 k8)
  · obtain rfl : { d with comms := d.comms ++ fours v } = d2 := Option.some.inj hs
    have hl : ¬ 256 < v.length / 4 := fun hh => h256 ⟨rfl, hh⟩
    refine ⟨fun k k1 k8 => ?_, hG.hop, hG.aid, hG.path, hG.oths⟩
    by_cases e : k = 8
    · subst e
      refine each_new hn ?_
      show commsB (d.comms ++ fours v) = true
      rw [hcom rfl, List.nil_append]
      unfold commsB
      have := fours_l v
      rw [decide_eq_true (show (fours v).length ≤ 256 by omega), Bool.and_true]
      exact List.all_eq_true.2 fun x hx => decide_eq_true (fours_b hv x hx)
    · exact each_keep (hk k k8 e) (by rcases kcases k1 k8 with rfl | rfl | rfl | rfl | rfl | rfl | rfl | rfl <;> first | rfl | exact absurd rfl e) (by rcases kcases k1 k8 with rfl | rfl | rfl | rfl | rfl | rfl | rfl | rfl <;> first | rfl | exact absurd rfl e) (hG.each k k1 k8)
end Go.Proofs.YtpjbofodllhjbaaDoor
/- attr: what was read is well formed: whole; prefixes. -/
namespace Go.Proofs.YtpjbofodllhjbaaDoor
open Go.RowKit

theorem AtG.other {N : Nat} {d d' : AtD} {all v : List Int} (hG : AtG N d) (hB : Bys all) (hv : Bys v) (hvl : v.length ≤ N) (h18 : ¬ (1 ≤ fOf all 1 ∧ fOf all 1 ≤ 8)) (h : otherD d all v = .inl d') : AtG N d' := by
  have hb := fOf_b hB 1
  unfold otherD at h
  split at h
  · cases h
  split at h
  · rename_i hc
    cases h
    refine ⟨hG.each, hG.hop, hG.aid, hG.path, fun o ho => ?_⟩
    rcases List.mem_append.1 ho with ho | ho
    · exact hG.oths o ho
    · obtain rfl : o = (fOf all 1, v) := by simpa using ho
      exact ⟨by show 9 ≤ fOf all 1; omega, hb.2, hv, hvl⟩
  · cases h; exact hG
theorem AtG.step {N : Nat} {d d' : AtD} {seen all v : List Int} (hG : AtG N d) (hS : SeenI d seen) (hB : Bys all) (hv : Bys v) (hvl : v.length ≤ N) (hn : fOf all 1 ∉ seen) (h : stepD d all v = .inl d') : AtG N d' := by
  have hb := fOf_b hB 1
  unfold stepD at h
  split at h
  · rename_i h18
    refine hG.take hv hvl h18 hS.h0 hS.h1 ?_ (fun e => hS.com (by rw [← e]; exact hn)) h
    obtain ⟨t, ht⟩ := Int.eq_ofNat_of_zero_le hb.1
    rw [ht, Int.toNat_natCast]
    exact hS.bit t (by omega) (.inr (by rw [← ht]; exact hn))
  · rename_i h18
    exact hG.other hB hv hvl h18 h
theorem decD_good (N : Nat) : ∀ (n : Nat) (d : AtD) (seen xs : List Int) {d' : AtD}, xs.length ≤ n → xs.length ≤ N → Bys xs → SeenI d seen → AtG N d → decD d seen xs = .inl d' → AtG N d' ∧ ∃ seen', SeenI d' seen'
  | _, d, seen, [], d', _, _, _, hS, hG, h => by
    rw [decD_nil] at h
    cases h
    exact ⟨hG, seen, hS⟩
  | 0, d, seen, x :: xs, d', hn, _, _, _, _, _ => by simp at hn
  | n + 1, d, seen, x :: xs, d', hn, hN, hB, hS, hG, h => by
    by_cases hc : (x :: xs).length < fromN (x :: xs) ∨ (x :: xs).length < toN (x :: xs) ∨ fOf (x :: xs) 1 ∈ seen
    · rw [decD_bad (by simp) hc] at h; cases h
    · rw [decD_step (by simp) hc] at h
      have hf := fromN_b (x :: xs)
      have ht := toN_ge (x :: xs)
      have e1 : fOf ((x :: xs).take (toN (x :: xs))) 1 = fOf (x :: xs) 1 := by
        unfold fOf
        rw [List.getD_eq_getElem?_getD, List.getD_eq_getElem?_getD, List.getElem?_take, if_pos (by omega)]
      have hBt : Bys ((x :: xs).take (toN (x :: xs))) := fun y hy => hB y (List.mem_of_mem_take hy)
      have hBv : Bys (((x :: xs).take (toN (x :: xs))).drop (fromN (x :: xs))) := fun y hy => hBt y (List.mem_of_mem_drop hy)
      have hvl : (((x :: xs).take (toN (x :: xs))).drop (fromN (x :: xs))).length ≤ N := by rw [List.length_drop, List.length_take]; omega
      have hns : fOf ((x :: xs).take (toN (x :: xs))) 1 ∉ seen := by rw [e1]; exact fun hh => hc (.inr (.inr hh))
      cases hs : stepD d ((x :: xs).take (toN (x :: xs))) (((x :: xs).take (toN (x :: xs))).drop (fromN (x :: xs))) with
      | inr f => rw [hs] at h; cases h
      | inl d2 =>
        rw [hs] at h
        have hS2 := hS.step hBt hns hs
        rw [e1] at hS2
        exact decD_good N n d2 _ _ (by rw [List.length_drop]; omega) (by rw [List.length_drop]; omega) (fun y hy => hB y (List.mem_of_mem_drop hy)) hS2 (hG.step hS hBt hBv hvl hns hs) h
theorem SeenI.zero : SeenI AtL.zero.d [] := ⟨by decide, by decide, fun t _ _ => by show (0 : Int) / 2 ^ t % 2 = 0; rw [Int.zero_ediv]; rfl, fun _ => rfl, List.nodup_nil, fun t h => by cases h⟩
theorem ordBD_of : ∀ (last : Int) (os : List (Int × List Int)), (os.map (·.1)).Nodup → os.Pairwise (fun x y => x.1 ≤ y.1) → (∀ o ∈ os, last < o.1 ∧ o.1 ≤ 255) → ordBD last os = true
  | _, [], _, _, _ => rfl
  | last, o :: os, hn, hp, h => by
    rw [List.map_cons, List.nodup_cons] at hn
    rw [List.pairwise_cons] at hp
    have h0 := h o (List.mem_cons_self ..)
    unfold ordBD
    rw [decide_eq_true h0, Bool.true_and]
    refine ordBD_of o.1 os hn.2 hp.2 fun q hq => ?_
    have h1 := hp.1 q hq
    have h2 := h q (List.mem_cons_of_mem _ hq)
    have h3 : o.1 ≠ q.1 := fun e => hn.1 (by rw [e]; exact List.mem_map.2 ⟨q, hq, rfl⟩)
    omega
theorem ordBD_len : ∀ (last : Int) (os : List (Int × List Int)), ordBD last os = true → last ≤ 255 → last + os.length ≤ 255
  | last, [], _, h => by simpa using h
  | last, o :: os, h, _ => by
    unfold ordBD at h
    rw [Bool.and_eq_true] at h
    have h1 := of_decide_eq_true h.1
    have := ordBD_len o.1 os h.2 h1.2
    rw [List.length_cons]
    omega
/-- Attributes that were read, in order: they have bytes, but for their number. -/
theorem AtG.chk {N : Nat} {d : AtD} {seen : List Int} (hG : AtG N d) (hS : SeenI d seen) : chkAD { d with others := sortO d.others } = true ∧ d.others.length ≤ 247 := by
  have hp := sortO_perm d.others
  have hord : ordBD 8 (sortO d.others) = true := ordBD_of 8 _ ((hp.map _).nodup_iff.2 hS.nd) (sortO_asc _) fun o ho => by
    have := hG.oths o (hp.mem_iff.1 ho)
    omega
  have hl := ordBD_len 8 _ hord (by decide)
  rw [hp.length_eq] at hl
  refine ⟨?_, by omega⟩
  unfold chkAD
  have h0 := hS.h0
  have h1 := hS.h1
  have h2 := hS.bit 0 (by omega) (.inl rfl)
  have hkn : knownB d.has = true := decide_eq_true (by
    rw [show (2 : Int) ^ 0 = 1 from rfl, Int.ediv_one] at h2
    omega)
  show (knownB d.has && _ && ordBD 8 (sortO d.others)) = true
  rw [hkn, hord, Bool.true_and, Bool.and_true]
  exact List.all_eq_true.2 fun k hk => by
    obtain ⟨k1, k2⟩ := List.mem_range'_1.1 hk
    exact hG.each k k1 (by omega)
theorem AtG.in_ {N : Nat} {d : AtD} {seen : List Int} (hG : AtG N d) (hS : SeenI d seen) (hN : N ≤ 1000000) : AtD.In { d with others := sortO d.others } ∧ d.path.length ≤ N / 4 := by
  have hp := sortO_perm d.others
  have hc := hG.chk hS
  have hE : ∀ k, 1 ≤ k → k ≤ 8 → (hasB d.has k = true ∧ goodBD d k = true) ∨ zeroBD d k = true := fun k k1 k8 => by
    have := hG.each k k1 k8
    unfold eachBD at this
    cases hb : hasB d.has k
    · rw [hb] at this; exact .inr this
    · rw [hb] at this; exact .inl ⟨rfl, this⟩
  have h0 := hS.h0
  have h1 := hS.h1
  have hor : 0 ≤ d.origin ∧ d.origin ≤ 2 := by
    rcases hE 1 (by decide) (by decide) with ⟨_, h⟩ | h
    · exact wiB_iff h
    · have := of_decide_eq_true (show decide (d.origin = 0) = true from h); omega
  have hme : 0 ≤ d.med ∧ d.med ≤ 4294967295 := by
    rcases hE 4 (by decide) (by decide) with ⟨_, h⟩ | h
    · exact wiB_iff h
    · have := of_decide_eq_true (show decide (d.med = 0) = true from h); omega
  have hlo : 0 ≤ d.loc ∧ d.loc ≤ 4294967295 := by
    rcases hE 5 (by decide) (by decide) with ⟨_, h⟩ | h
    · exact wiB_iff h
    · have := of_decide_eq_true (show decide (d.loc = 0) = true from h); omega
  have has : 0 ≤ d.aas ∧ d.aas ≤ 65535 := by
    rcases hE 7 (by decide) (by decide) with ⟨_, h⟩ | h
    · exact wiB_iff h
    · have := of_decide_eq_true (show decide (d.aas = 0 ∧ d.aid = 0) = true from h); omega
  have hpa : ∀ s ∈ d.path, s.2.length ≤ 255 ∧ ∀ x ∈ s.2, 1 ≤ x ∧ x ≤ 65535 := by
    rcases hE 2 (by decide) (by decide) with ⟨_, h⟩ | h
    · intro s hs
      have := List.all_eq_true.1 (show d.path.all segBD = true from h) s hs
      unfold segBD at this
      rw [Bool.and_eq_true] at this
      exact ⟨(of_decide_eq_true this.1).2, fun x hx => of_decide_eq_true (List.all_eq_true.1 this.2 x hx)⟩
    · have := of_decide_eq_true (show decide ((d.path.length : Int) = 0) = true from h)
      have : d.path = [] := List.length_eq_zero_iff.1 (by omega)
      rw [this]; intro s hs; cases hs
  have hco : (∀ x ∈ d.comms, 0 ≤ x ∧ x ≤ 4294967295) ∧ d.comms.length ≤ 256 := by
    rcases hE 8 (by decide) (by decide) with ⟨_, h⟩ | h
    · have h' : commsB d.comms = true := h
      unfold commsB at h'
      rw [Bool.and_eq_true] at h'
      exact ⟨fun x hx => wiB_iff (List.all_eq_true.1 h'.1 x hx), of_decide_eq_true h'.2⟩
    · have := of_decide_eq_true (show decide ((d.comms.length : Int) = 0) = true from h)
      have : d.comms = [] := List.length_eq_zero_iff.1 (by omega)
      rw [this]; exact ⟨fun x hx => (by cases hx), by decide⟩
  have hpl := hG.path
  refine ⟨⟨⟨⟨by show _ ≤ d.has; omega, by show d.has ≤ _; omega⟩, ⟨by show _ ≤ d.origin; omega, by show d.origin ≤ _; omega⟩, hG.hop, ⟨by show _ ≤ d.med; omega, by show d.med ≤ _; omega⟩, ⟨by show _ ≤ d.loc; omega, by show d.loc ≤ _; omega⟩, ⟨by show _ ≤ d.aas; omega, by show d.aas ≤ _; omega⟩, hG.aid⟩, fun s hs => ?_, fun x hx => ?_, fun o ho => ?_, ⟨?_, ?_, ?_⟩⟩, by omega⟩
  · have := hpa s hs
    exact ⟨by omega, fun x hx => by have := this.2 x hx; exact ⟨by omega, by omega⟩⟩
  · have := hco.1 x hx; exact ⟨by omega, by omega⟩
  · have := hG.oths o (hp.mem_iff.1 ho)
    exact ⟨⟨by omega, by omega⟩, by omega, this.2.2.1⟩
  · show d.path.length ≤ _; omega
  · show d.comms.length ≤ _; omega
  · show (sortO d.others).length ≤ _; rw [hp.length_eq]; omega
end Go.Proofs.YtpjbofodllhjbaaDoor
/- The reference's paths: parts. -/
namespace Go.Proofs.YtpjbofodllhjbaaDoor
open Go.RowKit

/-- The parts of a path, as the reference reads them. -/
def partsR (v : List Int) : Option (List (Bool × List Int)) := (pathR v).bind fun p => if p.all segBD then some p else none
def asL (zs : List Int) (n : Nat) : List Int := (List.range n).map fun i => readI ((zs.drop (2 * i)).take 2)
theorem partsR_nil : partsR [] = some [] := by unfold partsR; rw [pathR]; rfl
theorem partsR_one (y : Int) : partsR [y] = none := by unfold partsR; rw [pathR]; rfl
theorem partsR_bad {x n : Int} {zs : List Int} (h : x ≠ 1 ∧ x ≠ 2 ∨ zs.length < 2 * n.toNat) : partsR (x :: n :: zs) = none := by unfold partsR; rw [pathR_cons, if_pos h]; rfl
theorem partsR_no {x n : Int} {zs : List Int} (h : segBD (decide (x = 1), asL zs n.toNat) = false) : partsR (x :: n :: zs) = none := by
  unfold partsR
  rw [pathR_cons]
  split
  · rfl
  · cases hq : pathR (zs.drop (2 * n.toNat)) with
    | none => rfl
    | some q =>
      show (if List.all ((decide (x = 1), asL zs n.toNat) :: q) segBD then _ else _) = _
      rw [List.all_cons, h]
      rfl
theorem partsR_ok {x n : Int} {zs : List Int} (h : ¬ (x ≠ 1 ∧ x ≠ 2 ∨ zs.length < 2 * n.toNat)) (hs : segBD (decide (x = 1), asL zs n.toNat) = true) : partsR (x :: n :: zs) = (partsR (zs.drop (2 * n.toNat))).map ((decide (x = 1), asL zs n.toNat) :: ·) := by
  unfold partsR
  rw [pathR_cons, if_neg h]
  cases hq : pathR (zs.drop (2 * n.toNat)) with
  | none => rfl
  | some q =>
    show (if List.all ((decide (x = 1), asL zs n.toNat) :: q) segBD then _ else _) = Option.map _ (if q.all segBD then some q else none)
    rw [List.all_cons, hs, Bool.true_and]
    cases q.all segBD <;> rfl
theorem asL_len (zs : List Int) (n : Nat) : (asL zs n).length = n := by unfold asL; rw [List.length_map, List.length_range]
theorem asL_snoc (zs : List Int) (n : Nat) : asL zs (n + 1) = asL zs n ++ [readI ((zs.drop (2 * n)).take 2)] := by unfold asL; rw [List.range_succ, List.map_append]; rfl
theorem asL_b {zs : List Int} (hB : Bys zs) {n : Nat} (hn : 2 * n ≤ zs.length) : ∀ x ∈ asL zs n, 0 ≤ x ∧ x ≤ 65535 := fun x hx => by
  unfold asL at hx
  obtain ⟨i, hi, rfl⟩ := List.mem_map.1 hx
  have := List.mem_range.1 hi
  exact readI2 (fun y hy => hB y (List.mem_of_mem_drop (List.mem_of_mem_take hy))) (by rw [List.length_take, List.length_drop]; omega)
theorem segBD_of {b : Bool} {al : List Int} (h1 : 1 ≤ al.length) (h2 : al.length ≤ 255) (h : ∀ x ∈ al, x ≠ 0 ∧ 0 ≤ x ∧ x ≤ 65535) : segBD (b, al) = true := by
  unfold segBD
  rw [decide_eq_true (show 1 ≤ al.length ∧ al.length ≤ 255 from ⟨h1, h2⟩), Bool.true_and]
  exact List.all_eq_true.2 fun x hx => decide_eq_true (by have := h x hx; omega)
theorem segBD_zero {b : Bool} {al : List Int} (h : al.length = 0 ∨ 0 ∈ al) : segBD (b, al) = false := by
  cases hs : segBD (b, al)
  · rfl
  · unfold segBD at hs
    rw [Bool.and_eq_true] at hs
    have h1 := of_decide_eq_true hs.1
    rcases h with h | h
    · have h2 : 1 ≤ al.length := h1.1; omega
    · have := of_decide_eq_true (List.all_eq_true.1 hs.2 0 h)
      omega
theorem Win.numd {w : World} {b o c : Nat} {xs : List Int} (h : Win w b o c xs) (lo : Nat) (hk : lo + 2 ≤ xs.length) : Calls Tryd.prog 65 #[.slice (some ⟨b, sAddr o lo c 1, none⟩) (lo + 2 - lo) (c - lo)] w fun e w' => e = .returned (.int .i64 (readI ((xs.drop lo).take 2))) ∧ Frm (fun _ => False) w w' := by
  have hl : ((xs.take (lo + 2)).drop lo).length = lo + 2 - lo := by rw [List.length_drop, List.length_take]; omega
  have e := RNum_c w b (sAddr o lo c 1) (c - lo) ((xs.take (lo + 2)).drop lo) ((h.take (lo + 2)).drop lo) (by omega)
  rw [hl, List.drop_take, Nat.add_sub_cancel_left] at e
  rw [Nat.add_sub_cancel_left]
  exact e
structure PaS where
  k : Nat
  ss : List SegL
  ad : Option Addr
  c : Nat
  E : List Ent
  KO : List Ent
def PartsP (w w' : World) (v : List Int) (e : Ending) : Prop :=
  match partsR v with
  | none => e = .returned (.tuple #[.slice none 0 0, .bool false]) ∧ Frm (fun _ => False) w w'
  | some ps => ∃ ss ad c E K, e = .returned (.tuple #[.slice ad ss.length c, .bool true]) ∧ ss.map segD = ps ∧ Vec 2 ad ss.length c (segsL ss) E ∧ (∀ s ∈ ss, SegOwn K s) ∧ St (fun _ => False) w w' (E ++ K)
theorem PartsP.no {w w' : World} {v : List Int} {L : List Ent} (h : partsR v = none) (hS : St (fun _ => False) w w' L) : PartsP w w' v (.returned (.tuple #[.slice none 0 0, .bool false])) := by
  unfold PartsP
  rw [h]
  exact ⟨rfl, hS.frm⟩
set_option maxHeartbeats 8000000 in
theorem RParts_c (w : World) (b o cv : Nat) (v : List Int) (hW : Win w b o cv v) (hn : v.length ≤ 100000) :
    Calls Tryd.prog 67 #[.slice (some ⟨b, o, none⟩) v.length cv] w fun e w' => PartsP w w' v e := by
  have hle := hW.le
  refine enter Tryd.func67 rfl Tryd.ntmps67 rfl (St.start (fun _ => False) w) ?_
  refine WC.seq ?_
  refine WC.region ?_
  refine WL.val (v_assign rfl rfl) (.none rfl) rfl rfl ?_
  refine WL.val (v_assign rfl rfl) (.none rfl) rfl rfl ?_
  refine WL.nil ?_
  refine WE.then_n ?_
  refine WC.seq ?_
  refine WC.region ?_
  refine WL.buildSlice rfl rfl Tryd.underlying48 sz_140 zero_140 rfl (by decide) rfl (.none rfl) rfl rfl ?_
  intro g9 hg9
  refine WL.val (v_assign rfl rfl) (.none rfl) rfl rfl ?_
  refine WL.nil ?_
  refine WE.then_n ?_
  refine WC.seq ?_
  refine WC.region ?_
  refine WL.val (v_assign rfl rfl) (.none rfl) rfl rfl ?_
  refine WL.nil ?_
  refine WE.then_n ?_
  refine WC.seq ?_
  refine WC.block ?_
  refine WC.loop (fun x : PaS => [(5, .int .i64 x.k), (4, .slice x.ad x.ss.length x.c), (0, .slice (some ⟨b, o, none⟩) v.length cv)]) (fun x => x.E ++ x.KO) (fun x => x.k ≤ v.length ∧ partsR v = (partsR (v.drop x.k)).map (x.ss.map segD ++ ·) ∧ Vec 2 x.ad x.ss.length x.c (segsL x.ss) x.E ∧ x.ss.length ≤ x.k ∧ ∀ s ∈ x.ss, SegOwn x.KO s) (fun x => v.length - x.k) ⟨0, [], some ⟨g9, 0, none⟩, 0, [.row g9 []], []⟩ ⟨Nat.zero_le _, by dsimp only; rw [List.drop_zero]; cases partsR v <;> rfl, Vec.row (k := 0) rfl rfl (Nat.le_refl _), Nat.zero_le _, fun s h => by cases h⟩ (.cons rfl (.cons rfl (.cons rfl .nil))) (.refl _) ?_
  rintro ⟨k, ss, ad, c, E, KO⟩ ⟨hk, hp, hV, hsl, hO⟩
  dsimp only at hk hp hV hsl hO
  dsimp only
  refine WC.seq ?_
  refine WC.seq ?_
  refine WC.region ?_
  refine WL.val (v_move rfl rfl) (.none rfl) rfl rfl ?_
  refine WL.val (v_move rfl rfl) (.none rfl) rfl rfl ?_
  refine WL.val (v_len_slice rfl rfl Tryd.underlying22) (.none rfl) rfl rfl ?_
  refine WL.test (v_lss rfl rfl rfl) (.none rfl) rfl rfl (fun h13 => ?_) (fun h13 => ?_)
  ·
   refine WL.nil ?_
   refine WE.then_n ?_
   refine WC.cond_t rfl ?_
   refine WC.skip ?_
   refine WE.then_n ?_
   refine WC.block ?_
   refine WC.seq ?_
   refine WC.seq ?_
   refine WC.region ?_
   refine WL.val (v_move rfl rfl) (.none rfl) rfl rfl ?_
   refine WL.val (v_add rfl rfl rfl (w_i64 (by omega) (by omega))) (.none rfl) rfl rfl ?_
   refine WL.val (v_move rfl rfl) (.none rfl) rfl rfl ?_
   refine WL.val (v_len_slice rfl rfl Tryd.underlying22) (.none rfl) rfl rfl ?_
   refine WL.test (v_gtr rfl rfl rfl) (.none rfl) rfl rfl (fun h18 => ?_) (fun h18 => ?_)
   ·
    refine WL.val (v_move rfl rfl) (.none rfl) rfl rfl ?_
    refine WL.skip rfl rfl rfl rfl rfl rfl ?_
    refine WL.skip rfl rfl rfl rfl rfl rfl ?_
    refine WL.skip rfl rfl rfl rfl rfl rfl ?_
    refine WL.skip rfl rfl rfl rfl rfl rfl ?_
    refine WL.skip rfl rfl rfl rfl rfl rfl ?_
    refine WL.skip rfl rfl rfl rfl rfl rfl ?_
    refine WL.skip rfl rfl rfl rfl rfl rfl ?_
    refine WL.val (v_pick_t rfl rfl rfl) (.none rfl) rfl rfl ?_
    refine WL.val (v_move rfl rfl) (.none rfl) rfl rfl ?_
    refine WL.skip rfl rfl rfl rfl rfl rfl ?_
    refine WL.skip rfl rfl rfl rfl rfl rfl ?_
    refine WL.skip rfl rfl rfl rfl rfl rfl ?_
    refine WL.skip rfl rfl rfl rfl rfl rfl ?_
    refine WL.skip rfl rfl rfl rfl rfl rfl ?_
    refine WL.skip rfl rfl rfl rfl rfl rfl ?_
    refine WL.val (v_pick_t rfl rfl rfl) (.none rfl) rfl rfl ?_
    refine WL.val (v_move rfl rfl) (.none rfl) rfl rfl ?_
    refine WL.skip rfl rfl rfl rfl rfl rfl ?_
    refine WL.skip rfl rfl rfl rfl rfl rfl ?_
    refine WL.skip rfl rfl rfl rfl rfl rfl ?_
    refine WL.skip rfl rfl rfl rfl rfl rfl ?_
    refine WL.skip rfl rfl rfl rfl rfl rfl ?_
    refine WL.skip rfl rfl rfl rfl rfl rfl ?_
    refine WL.skip rfl rfl rfl rfl rfl rfl ?_
    refine WL.skip rfl rfl rfl rfl rfl rfl ?_
    refine WL.skip rfl rfl rfl rfl rfl rfl ?_
    refine WL.skip rfl rfl rfl rfl rfl rfl ?_
    refine WL.skip rfl rfl rfl rfl rfl rfl ?_
    refine WL.skip rfl rfl rfl rfl rfl rfl ?_
    refine WL.skip rfl rfl rfl rfl rfl rfl ?_
    refine WL.val (v_pick_t rfl rfl rfl) (.none rfl) rfl rfl ?_
    refine WL.nil ?_
    refine WE.then_n ?_
    refine WC.cond_t rfl ?_
    refine WC.seq ?_
    refine WC.region ?_
    refine WL.val (v_assign rfl rfl) (.none rfl) rfl rfl ?_
    refine WL.val (v_assign rfl rfl) (.none rfl) rfl rfl ?_
    refine WL.nil ?_
    refine WE.then_n ?_
    refine WC.ret ?_
    refine WE.then_ret ?_
    refine WE.block_ret ?_
    refine WE.then_ret ?_
    refine WE.block_ret ?_
    refine WE.then_ret ?_
    refine WE.ret2 (P := Tryd.prog) (.inl rfl) Tryd.results67 rfl rfl ?_
    have e0 : partsR v = none := (by
      rw [hp]
      have hl : (v.drop k).length = 1 := (by rw [List.length_drop]; omega)
      obtain ⟨y, hy⟩ : ∃ y, v.drop k = [y] := List.length_eq_one_iff.1 hl
      rw [hy, partsR_one]; rfl)
    exact fun w' h => PartsP.no e0 h
   ·
    refine WL.val (v_move rfl rfl) (.none rfl) rfl rfl ?_
    obtain ⟨x, hx⟩ : ∃ x, v[k]? = some x := ⟨v[k]'(by omega), List.getElem?_eq_getElem _⟩
    obtain ⟨n, hnx⟩ : ∃ n, v[k + 1]? = some n := ⟨v[k + 1]'(by omega), List.getElem?_eq_getElem _⟩
    have hbx := hW.bys x (List.mem_of_getElem? hx)
    have hbn := hW.bys n (List.mem_of_getElem? hnx)
    have hdr : v.drop k = x :: n :: v.drop (k + 2) := (by rw [drop_cons' hx, drop_cons' hnx])
    rw [hdr] at hp
    obtain ⟨m, rfl⟩ := Int.eq_ofNat_of_zero_le hbn.1
    refine WL.val (v_move rfl rfl) (.some rfl rfl rfl) rfl rfl ?_
    refine WL.val (v_move rfl rfl) (.some rfl rfl rfl) rfl rfl ?_
    refine WL.val (v_indexAddr (lo := k) rfl rfl rfl Tryd.underlying22 sz_5 (by omega) (by omega)) (.some rfl rfl rfl) rfl rfl ?_
    refine WL.val (v_load1 rfl rfl one_5 (cellOld (fun h => h) (hW.get hx))) (.some rfl rfl rfl) rfl rfl ?_
    refine WL.val (v_conv rfl rfl Tryd.underlying3 Tryd.underlying5 (w_i64 (by omega) (by omega))) (.some rfl rfl rfl) rfl rfl ?_
    refine WL.call rfl rfl ck_66 (.some rfl rfl rfl) rfl rfl ?_
    intro w hS
    refine Calls.then (RIn_c _ x 1 2) hS ?_
    generalize hq : decide (1 ≤ x ∧ x ≤ 2) = b25
    cases b25
    ·
     refine WL.val (v_not rfl rfl rfl) (.some rfl rfl rfl) rfl rfl ?_
     refine WL.val (v_pick_f rfl rfl rfl) (.none rfl) rfl rfl ?_
     refine WL.val (v_move rfl rfl) (.none rfl) rfl rfl ?_
     refine WL.skip rfl rfl rfl rfl rfl rfl ?_
     refine WL.skip rfl rfl rfl rfl rfl rfl ?_
     refine WL.skip rfl rfl rfl rfl rfl rfl ?_
     refine WL.skip rfl rfl rfl rfl rfl rfl ?_
     refine WL.skip rfl rfl rfl rfl rfl rfl ?_
     refine WL.skip rfl rfl rfl rfl rfl rfl ?_
     refine WL.val (v_pick_t rfl rfl rfl) (.none rfl) rfl rfl ?_
     refine WL.val (v_move rfl rfl) (.none rfl) rfl rfl ?_
     refine WL.skip rfl rfl rfl rfl rfl rfl ?_
     refine WL.skip rfl rfl rfl rfl rfl rfl ?_
     refine WL.skip rfl rfl rfl rfl rfl rfl ?_
     refine WL.skip rfl rfl rfl rfl rfl rfl ?_
     refine WL.skip rfl rfl rfl rfl rfl rfl ?_
     refine WL.skip rfl rfl rfl rfl rfl rfl ?_
     refine WL.skip rfl rfl rfl rfl rfl rfl ?_
     refine WL.skip rfl rfl rfl rfl rfl rfl ?_
     refine WL.skip rfl rfl rfl rfl rfl rfl ?_
     refine WL.skip rfl rfl rfl rfl rfl rfl ?_
     refine WL.skip rfl rfl rfl rfl rfl rfl ?_
     refine WL.skip rfl rfl rfl rfl rfl rfl ?_
     refine WL.skip rfl rfl rfl rfl rfl rfl ?_
     refine WL.val (v_pick_t rfl rfl rfl) (.none rfl) rfl rfl ?_
     refine WL.nil ?_
     refine WE.then_n ?_
     refine WC.cond_t rfl ?_
     refine WC.seq ?_
     refine WC.region ?_
     refine WL.val (v_assign rfl rfl) (.none rfl) rfl rfl ?_
     refine WL.val (v_assign rfl rfl) (.none rfl) rfl rfl ?_
     refine WL.nil ?_
     refine WE.then_n ?_
     refine WC.ret ?_
     refine WE.then_ret ?_
     refine WE.block_ret ?_
     refine WE.then_ret ?_
     refine WE.block_ret ?_
     refine WE.then_ret ?_
     refine WE.ret2 (P := Tryd.prog) (.inl rfl) Tryd.results67 rfl rfl ?_
     have e0 : partsR v = none := (by
       rw [hp, partsR_bad (.inl (by have := of_decide_eq_false hq; omega))]; rfl)
     exact fun w' h => PartsP.no e0 h
    ·
     refine WL.val (v_not rfl rfl rfl) (.some rfl rfl rfl) rfl rfl ?_
     refine WL.val (v_pick_f rfl rfl rfl) (.none rfl) rfl rfl ?_
     refine WL.val (v_move rfl rfl) (.none rfl) rfl rfl ?_
     refine WL.val (v_move rfl rfl) (.some rfl rfl rfl) rfl rfl ?_
     refine WL.val (v_move rfl rfl) (.some rfl rfl rfl) rfl rfl ?_
     refine WL.val (v_add rfl rfl rfl (w_i64 (by omega) (by omega))) (.some rfl rfl rfl) rfl rfl ?_
     refine WL.val (v_indexAddr (lo := k + 1) rfl rfl rfl Tryd.underlying22 sz_5 (by omega) (by omega)) (.some rfl rfl rfl) rfl rfl ?_
     refine WL.val (v_load1 rfl rfl one_5 (cellOld (fun h => h) (hW.get hnx))) (.some rfl rfl rfl) rfl rfl ?_
     refine WL.test (v_eql rfl rfl rfl) (.some rfl rfl rfl) rfl rfl (fun h34 => ?_) (fun h34 => ?_)
     ·
      refine WL.val (v_pick_f rfl rfl rfl) (.none rfl) rfl rfl ?_
      refine WL.val (v_move rfl rfl) (.none rfl) rfl rfl ?_
      refine WL.skip rfl rfl rfl rfl rfl rfl ?_
      refine WL.skip rfl rfl rfl rfl rfl rfl ?_
      refine WL.skip rfl rfl rfl rfl rfl rfl ?_
      refine WL.skip rfl rfl rfl rfl rfl rfl ?_
      refine WL.skip rfl rfl rfl rfl rfl rfl ?_
      refine WL.skip rfl rfl rfl rfl rfl rfl ?_
      refine WL.skip rfl rfl rfl rfl rfl rfl ?_
      refine WL.skip rfl rfl rfl rfl rfl rfl ?_
      refine WL.skip rfl rfl rfl rfl rfl rfl ?_
      refine WL.skip rfl rfl rfl rfl rfl rfl ?_
      refine WL.skip rfl rfl rfl rfl rfl rfl ?_
      refine WL.skip rfl rfl rfl rfl rfl rfl ?_
      refine WL.skip rfl rfl rfl rfl rfl rfl ?_
      refine WL.val (v_pick_t rfl rfl rfl) (.none rfl) rfl rfl ?_
      refine WL.nil ?_
      refine WE.then_n ?_
      refine WC.cond_t rfl ?_
      refine WC.seq ?_
      refine WC.region ?_
      refine WL.val (v_assign rfl rfl) (.none rfl) rfl rfl ?_
      refine WL.val (v_assign rfl rfl) (.none rfl) rfl rfl ?_
      refine WL.nil ?_
      refine WE.then_n ?_
      refine WC.ret ?_
      refine WE.then_ret ?_
      refine WE.block_ret ?_
      refine WE.then_ret ?_
      refine WE.block_ret ?_
      refine WE.then_ret ?_
      refine WE.ret2 (P := Tryd.prog) (.inl rfl) Tryd.results67 rfl rfl ?_
      have e0 : partsR v = none := (by
        rw [hp, partsR_no (segBD_zero (.inl (by rw [asL_len]; omega)))]; rfl)
      exact fun w' h => PartsP.no e0 h
     ·
      refine WL.val (v_pick_f rfl rfl rfl) (.none rfl) rfl rfl ?_
      refine WL.val (v_move rfl rfl) (.none rfl) rfl rfl ?_
      refine WL.val (v_move rfl rfl) (.some rfl rfl rfl) rfl rfl ?_
      refine WL.val (v_add rfl rfl rfl (w_i64 (by omega) (by omega))) (.some rfl rfl rfl) rfl rfl ?_
      refine WL.val (v_move rfl rfl) (.some rfl rfl rfl) rfl rfl ?_
      refine WL.val (v_move rfl rfl) (.some rfl rfl rfl) rfl rfl ?_
      refine WL.val (v_add rfl rfl rfl (w_i64 (by omega) (by omega))) (.some rfl rfl rfl) rfl rfl ?_
      refine WL.val (v_indexAddr (lo := k + 1) rfl rfl rfl Tryd.underlying22 sz_5 (by omega) (by omega)) (.some rfl rfl rfl) rfl rfl ?_
      refine WL.val (v_load1 rfl rfl one_5 (cellOld (fun h => h) (hW.get hnx))) (.some rfl rfl rfl) rfl rfl ?_
      refine WL.val (v_conv rfl rfl Tryd.underlying3 Tryd.underlying5 (w_i64 (by omega) (by omega))) (.some rfl rfl rfl) rfl rfl ?_
      refine WL.val (v_mul rfl rfl rfl (w_i64 (by omega) (by omega))) (.some rfl rfl rfl) rfl rfl ?_
      refine WL.val (v_add rfl rfl rfl (w_i64 (by omega) (by omega))) (.some rfl rfl rfl) rfl rfl ?_
      refine WL.val (v_move rfl rfl) (.some rfl rfl rfl) rfl rfl ?_
      refine WL.val (v_len_slice rfl rfl Tryd.underlying22) (.some rfl rfl rfl) rfl rfl ?_
      refine WL.test (v_gtr rfl rfl rfl) (.some rfl rfl rfl) rfl rfl (fun h49 => ?_) (fun h49 => ?_)
      ·
       refine WL.val (v_pick_f rfl rfl rfl) (.none rfl) rfl rfl ?_
       refine WL.nil ?_
       refine WE.then_n ?_
       refine WC.cond_t rfl ?_
       refine WC.seq ?_
       refine WC.region ?_
       refine WL.val (v_assign rfl rfl) (.none rfl) rfl rfl ?_
       refine WL.val (v_assign rfl rfl) (.none rfl) rfl rfl ?_
       refine WL.nil ?_
       refine WE.then_n ?_
       refine WC.ret ?_
       refine WE.then_ret ?_
       refine WE.block_ret ?_
       refine WE.then_ret ?_
       refine WE.block_ret ?_
       refine WE.then_ret ?_
       refine WE.ret2 (P := Tryd.prog) (.inl rfl) Tryd.results67 rfl rfl ?_
       have e0 : partsR v = none := (by
         rw [hp, partsR_bad (.inr (by rw [List.length_drop]; omega))]; rfl)
       exact fun w' h => PartsP.no e0 h
      ·
       refine WL.val (v_pick_f rfl rfl rfl) (.none rfl) rfl rfl ?_
       refine WL.nil ?_
       refine WE.then_n ?_
       refine WC.cond_f rfl ?_
       refine WC.skip ?_
       refine WE.then_n ?_
       refine WC.seq ?_
       refine WC.region ?_
       refine WL.val (v_move rfl rfl) (.none rfl) rfl rfl ?_
       refine WL.val (v_move rfl rfl) (.none rfl) rfl rfl ?_
       refine WL.val (v_indexAddr (lo := k) rfl rfl rfl Tryd.underlying22 sz_5 (by omega) (by omega)) (.none rfl) rfl rfl ?_
       refine WL.val (v_load1 rfl rfl one_5 (cellOld (fun h => h) (hW.get hx))) (.none rfl) rfl rfl ?_
       refine WL.val (v_eql rfl rfl rfl) (.none rfl) rfl rfl ?_
       refine WL.val (v_build rfl rfl zero_140 plc_140 rfl) (.none rfl) rfl rfl ?_
       refine WL.alloc rfl zero_140 (.none rfl) rfl rfl ?_
       intro g6 hg6
       refine WL.storeW rfl rfl rfl rfl many_140 rfl rfl (.none rfl) rfl ?_
       refine WL.as (L' := .row g6 [.bool (decide (x = 1)), .slice none 0 0] :: (E ++ KO)) rfl ?_
       refine WL.nil ?_
       refine WE.then_n ?_
       refine WC.seq ?_
       refine WC.seq ?_
       refine WC.region ?_
       refine WL.val (v_assign rfl rfl) (.none rfl) rfl rfl ?_
       refine WL.nil ?_
       refine WE.then_n ?_
       refine WC.block ?_
       refine WC.loop (fun y : Nat × Option Addr × Nat × List Ent => [(7, .int .i64 y.1), (6, .pointer (some ⟨g6, 0, none⟩)), (5, .int .i64 k), (4, .slice ad ss.length c), (0, .slice (some ⟨b, o, none⟩) v.length cv)]) (fun y => y.2.2.2 ++ (.row g6 [.bool (decide (x = 1)), .slice y.2.1 y.1 y.2.2.1] :: (E ++ KO))) (fun y => y.1 ≤ m ∧ Vec 1 y.2.1 y.1 y.2.2.1 (i64s (asL (v.drop (k + 2)) y.1)) y.2.2.2 ∧ ∀ z ∈ asL (v.drop (k + 2)) y.1, z ≠ 0) (fun y => m - y.1) (0, none, 0, []) ⟨Nat.zero_le _, Vec.nil 1, fun z hz => by cases hz⟩ (.cons rfl (.cons rfl (.cons rfl (.cons rfl (.cons rfl .nil))))) (.refl _) ?_
       rintro ⟨i, fd, fc, F⟩ ⟨hi, hF, hnz⟩
       dsimp only at hi hF hnz
       dsimp only
       refine WC.seq ?_
       refine WC.seq ?_
       refine WC.region ?_
       refine WL.val (v_move rfl rfl) (.none rfl) rfl rfl ?_
       refine WL.val (v_move rfl rfl) (.none rfl) rfl rfl ?_
       refine WL.val (v_move rfl rfl) (.none rfl) rfl rfl ?_
       refine WL.val (v_add rfl rfl rfl (w_i64 (by omega) (by omega))) (.none rfl) rfl rfl ?_
       refine WL.val (v_indexAddr (lo := k + 1) rfl rfl rfl Tryd.underlying22 sz_5 (by omega) (by omega)) (.none rfl) rfl rfl ?_
       refine WL.val (v_load1 rfl rfl one_5 (cellOld (fun h => h) (hW.get hnx))) (.none rfl) rfl rfl ?_
       refine WL.val (v_conv rfl rfl Tryd.underlying3 Tryd.underlying5 (w_i64 (by omega) (by omega))) (.none rfl) rfl rfl ?_
       refine WL.test (v_lss rfl rfl rfl) (.none rfl) rfl rfl (fun h64 => ?_) (fun h64 => ?_)
       ·
        refine WL.nil ?_
        refine WE.then_n ?_
        refine WC.cond_t rfl ?_
        refine WC.skip ?_
        refine WE.then_n ?_
        refine WC.seq ?_
        refine WC.block ?_
        refine WC.seq ?_
        refine WC.region ?_
        have hln : 2 * (i + 1) ≤ (v.drop (k + 2)).length := (by rw [List.length_drop]; omega)
        refine WL.val (v_move rfl rfl) (.none rfl) rfl rfl ?_
        refine WL.val (v_move rfl rfl) (.none rfl) rfl rfl ?_
        refine WL.val (v_add rfl rfl rfl (w_i64 (by omega) (by omega))) (.none rfl) rfl rfl ?_
        refine WL.val (v_move rfl rfl) (.none rfl) rfl rfl ?_
        refine WL.val (v_mul rfl rfl rfl (w_i64 (by omega) (by omega))) (.none rfl) rfl rfl ?_
        refine WL.val (v_add rfl rfl rfl (show _ = ((k + 2 + 2 * i : Nat) : Int) from (w_i64 (by omega) (by omega)).trans (by omega))) (.none rfl) rfl rfl ?_
        refine WL.val (v_move rfl rfl) (.none rfl) rfl rfl ?_
        refine WL.val (v_add rfl rfl rfl (w_i64 (by omega) (by omega))) (.none rfl) rfl rfl ?_
        refine WL.val (v_move rfl rfl) (.none rfl) rfl rfl ?_
        refine WL.val (v_mul rfl rfl rfl (w_i64 (by omega) (by omega))) (.none rfl) rfl rfl ?_
        refine WL.val (v_add rfl rfl rfl (show _ = ((k + 2 + 2 * i + 2 : Nat) : Int) from (w_i64 (by omega) (by omega)).trans (by omega))) (.none rfl) rfl rfl ?_
        refine WL.val ((v_slice_lh (lo := k + 2 + 2 * i) (hi := k + 2 + 2 * i + 2) rfl rfl rfl rfl Tryd.underlying22 sz_5 rfl rfl (by omega) (by omega))) (.none rfl) rfl rfl ?_
        refine WL.call rfl rfl ck_65 (.none rfl) rfl rfl ?_
        intro w hS
        refine Calls.then ((hW.st hS).numd (k + 2 + 2 * i) (by omega)) hS ?_
        refine WL.val (v_assign rfl rfl) (.none rfl) rfl rfl ?_
        refine WL.nil ?_
        refine WE.then_n ?_
        refine WC.seq ?_
        refine WC.seq ?_
        refine WC.region ?_
        refine WL.val (v_move rfl rfl) (.none rfl) rfl rfl ?_
        have hel : readI ((v.drop (k + 2 + 2 * i)).take 2) = readI (((v.drop (k + 2)).drop (2 * i)).take 2) := (by rw [List.drop_drop])
        refine WL.test (v_eql rfl rfl rfl) (.none rfl) rfl rfl (fun h81 => ?_) (fun h81 => ?_)
        ·
         refine WL.nil ?_
         refine WE.then_n ?_
         refine WC.cond_t rfl ?_
         refine WC.seq ?_
         refine WC.region ?_
         refine WL.val (v_assign rfl rfl) (.none rfl) rfl rfl ?_
         refine WL.val (v_assign rfl rfl) (.none rfl) rfl rfl ?_
         refine WL.nil ?_
         refine WE.then_n ?_
         refine WC.ret ?_
         refine WE.then_ret ?_
         refine WE.block_ret ?_
         refine WE.then_ret ?_
         refine WE.then_ret ?_
         refine WE.block_ret ?_
         refine WE.then_ret ?_
         refine WE.block_ret ?_
         refine WE.then_ret ?_
         refine WE.block_ret ?_
         refine WE.then_ret ?_
         refine WE.ret2 (P := Tryd.prog) (.inl rfl) Tryd.results67 rfl rfl ?_
         have e0 : partsR v = none := (by
           rw [hp, partsR_no (segBD_zero (.inr (by unfold asL; exact List.mem_map.2 ⟨i, List.mem_range.2 (by omega), by rw [← hel]; exact h81⟩)))]; rfl)
         exact fun w' h => PartsP.no e0 h
        ·
         refine WL.nil ?_
         refine WE.then_n ?_
         refine WC.cond_f rfl ?_
         refine WC.skip ?_
         refine WE.then_n ?_
         refine WC.region ?_
         refine WL.val (v_fieldAddr0 rfl rfl fld_140_1) (.none rfl) rfl rfl ?_
         refine WL.val (v_load1 rfl rfl one_38 (cellAt rfl)) (.none rfl) rfl rfl ?_
         refine WL.val (v_move rfl rfl) (.none rfl) rfl rfl ?_
         refine WL.buildSlice rfl rfl Tryd.underlying38 sz_3 zero_3 rfl (by decide) rfl (.none rfl) rfl rfl ?_
         intro g85 hg85
         refine WL.to (L' := F ++ (.row g85 [.int .i64 (readI ((v.drop (k + 2 + 2 * i)).take 2))] :: .row g6 [.bool (decide (x = 1)), .slice fd i fc] :: (E ++ KO))) (fun w hS => by simpa using St.front (R := F) (L := .row g6 [.bool (decide (x = 1)), .slice fd i fc] :: (E ++ KO)) [.row g85 [.int .i64 (readI ((v.drop (k + 2 + 2 * i)).take 2))]] hS) ?_
         refine WL.appendL rfl rfl rfl Tryd.underlying38 Tryd.underlying38 sz_3 by_3 zero_3 rfl rfl hF (new := [.int .i64 (readI ((v.drop (k + 2 + 2 * i)).take 2))]) (fun _ => ⟨g85, 0, rfl, fun w hS => allAt (g := g85) w hS⟩) rfl rfl (by omega) (.none rfl) rfl rfl ?_
         intro ad86 c86 E86 hV86 hr86
         rw [show i64s (asL (v.drop (k + 2)) i) ++ [.int .i64 (readI ((v.drop (k + 2 + 2 * i)).take 2))] = i64s (asL (v.drop (k + 2)) (i + 1)) by rw [asL_snoc, i64s_app, hel]; rfl] at hV86
         refine WL.val (v_fieldAddr0 rfl rfl fld_140_1) (.none rfl) rfl rfl ?_
         refine WL.store1 rfl rfl rfl rfl one_38 (Nat.le_of_ble_eq_true rfl) (.none rfl) rfl ?_
         refine WL.as (L' := E86 ++ (.row g85 [.int .i64 (readI ((v.drop (k + 2 + 2 * i)).take 2))] :: .row g6 [.bool (decide (x = 1)), .slice ad86 (i + 1) c86] :: (E ++ KO))) rfl ?_
         refine WL.nil ?_
         refine WE.block_n ?_
         refine WE.then_n ?_
         refine WC.region ?_
         refine WL.val (v_move rfl rfl) (.none rfl) rfl rfl ?_
         refine WL.val (v_add rfl rfl rfl (w_i64 (by omega) (by omega))) (.none rfl) rfl rfl ?_
         refine WL.val (v_assign rfl rfl) (.none rfl) rfl rfl ?_
         refine WL.nil ?_
         exact WE.next (i + 1, ad86, c86, E86) (by dsimp only; omega) ⟨by dsimp only; omega, hV86, fun z hz => by
         dsimp only at hz
         rw [asL_snoc] at hz
         rcases List.mem_append.1 hz with hz | hz
         · exact hnz z hz
         · rw [← hel] at hz
           rw [List.mem_singleton.1 hz]; exact h81⟩ (.int rfl (by dsimp only; omega) (.cons rfl (.cons rfl (.cons rfl (.cons rfl .nil))))) (List.Sublist.append_left (.cons _ (.refl _)) _)
       ·
        refine WL.nil ?_
        refine WE.then_n ?_
        refine WC.cond_f rfl ?_
        refine WC.exit ?_
        refine WE.then_exit ?_
        refine WE.then_exit ?_
        refine WE.block_hit ?_
        refine WE.then_n ?_
        refine WC.seq ?_
        refine WC.region ?_
        have him : i = m := (by omega)
        rw [him] at hF hnz
        rw [him]
        have hlm : 2 * m ≤ (v.drop (k + 2)).length := (by rw [List.length_drop]; omega)
        have hab := asL_b (zs := v.drop (k + 2)) (fun y hy => hW.bys y (List.mem_of_mem_drop hy)) hlm
        have hsb : segBD (decide (x = 1), asL (v.drop (k + 2)) m) = true := segBD_of (by rw [asL_len]; omega) (by rw [asL_len]; omega) fun z hz => ⟨hnz z hz, hab z hz⟩
        have hpo := partsR_ok (x := x) (n := (m : Int)) (zs := v.drop (k + 2)) (by
          rintro (h | h)
          · have := of_decide_eq_true hq; omega
          · omega) hsb
        obtain ⟨s, hs⟩ : ∃ s : SegL, s = ⟨decide (x = 1), fd, fc, asL (v.drop (k + 2)) m⟩ := ⟨_, rfl⟩
        have hsc : [Value.bool (decide (x = 1)), .slice fd m fc] = s.cells := (by rw [hs]; unfold SegL.cells; dsimp only; rw [asL_len])
        have hsd : segD s = (decide (x = 1), asL (v.drop (k + 2)) m) := (by rw [hs]; rfl)
        have hso : Vec 1 s.ad s.asl.length s.cap (i64s s.asl) F := (by rw [hs]; dsimp only; rw [asL_len]; exact hF)
        refine WL.val (v_move rfl rfl) (.none rfl) rfl rfl ?_
        refine WL.val (v_loadN rfl rfl many_140 rfl allAt) (.none rfl) rfl rfl ?_
        refine WL.buildSlice rfl rfl Tryd.underlying48 sz_140 zero_140 rfl (by decide) rfl (.none rfl) rfl rfl ?_
        intro g90 hg90
        refine WL.rowAs (g := g90) (cs' := s.cells) hsc ?_
        refine WL.to (L' := E ++ (.row g90 s.cells :: .row g6 [.bool (decide (x = 1)), .slice fd m fc] :: (F ++ KO))) (fun w hS => hS.permC (by intro c h1 h2 h3 e; simp only [h1, h2, h3]; omega)) ?_
        refine WL.appendL rfl rfl rfl Tryd.underlying48 Tryd.underlying48 sz_140 by_140 zero_140 rfl rfl hV (new := s.cells) (fun _ => ⟨g90, 0, rfl, fun w hS => allAt (g := g90) w hS⟩) rfl rfl (by omega) (.none rfl) rfl rfl ?_
        intro ad91 c91 E91 hV91 hr91
        rw [← segsL_snoc, show ss.length + 1 = (ss ++ [s]).length by rw [List.length_append]; rfl] at hV91
        rw [show ss.length + 1 = (ss ++ [s]).length by rw [List.length_append]; rfl]
        refine WL.val (v_assign rfl rfl) (.none rfl) rfl rfl ?_
        refine WL.nil ?_
        refine WE.then_n ?_
        refine WC.region ?_
        refine WL.val (v_move rfl rfl) (.none rfl) rfl rfl ?_
        refine WL.val (v_fieldAddr0 rfl rfl fld_140_1) (.none rfl) rfl rfl ?_
        refine WL.val (v_load1 rfl rfl one_38 (cellAt rfl)) (.none rfl) rfl rfl ?_
        refine WL.val (v_len_slice rfl rfl Tryd.underlying38) (.none rfl) rfl rfl ?_
        refine WL.val (v_mul rfl rfl rfl (w_i64 (by omega) (by omega))) (.none rfl) rfl rfl ?_
        refine WL.val (v_add rfl rfl rfl (w_i64 (by omega) (by omega))) (.none rfl) rfl rfl ?_
        refine WL.val (v_add rfl rfl rfl (show _ = ((k + 2 + 2 * m : Nat) : Int) from (w_i64 (by omega) (by omega)).trans (by omega))) (.none rfl) rfl rfl ?_
        refine WL.val (v_assign rfl rfl) (.none rfl) rfl rfl ?_
        refine WL.nil ?_
        refine WE.block_n ?_
        exact WE.next ⟨k + 2 + 2 * m, ss ++ [s], ad91, c91, E91, F ++ KO⟩ (by dsimp only; omega) ⟨by dsimp only; omega, by
        dsimp only
        rw [hp, hpo, Int.toNat_natCast, List.drop_drop, List.map_append]
        cases partsR (v.drop (k + 2 + 2 * m)) with
        | none => rfl
        | some q =>
          show some (_ ++ _ :: q) = some ((_ ++ [segD s]) ++ q)
          rw [hsd, List.append_assoc]; rfl, hV91, by dsimp only; rw [List.length_append]; show ss.length + 1 ≤ _; omega, fun t ht => by
        dsimp only at ht
        rcases List.mem_append.1 ht with ht | ht
        · obtain ⟨E', r1, r2⟩ := hO t ht
          exact ⟨E', r1, fun e he => List.mem_append_right _ (r2 e he)⟩
        · rw [List.mem_singleton.1 ht]
          exact ⟨F, hso, fun e he => List.mem_append_left _ he⟩⟩ (.cons rfl (.cons rfl (.cons rfl .nil))) (List.Sublist.append_left (.cons _ (.cons _ (.refl _))) _)
  ·
   refine WL.nil ?_
   refine WE.then_n ?_
   refine WC.cond_f rfl ?_
   refine WC.exit ?_
   refine WE.then_exit ?_
   refine WE.then_exit ?_
   refine WE.block_hit ?_
   refine WE.then_n ?_
   refine WC.seq ?_
   refine WC.region ?_
   refine WL.val (v_move rfl rfl) (.none rfl) rfl rfl ?_
   refine WL.val (v_assign rfl rfl) (.none rfl) rfl rfl ?_
   refine WL.val (v_assign rfl rfl) (.none rfl) rfl rfl ?_
   refine WL.nil ?_
   refine WE.then_n ?_
   refine WC.ret ?_
   refine WE.ret2 (P := Tryd.prog) (.inl rfl) Tryd.results67 rfl rfl ?_
   have e0 : partsR v = some (ss.map segD) := (by
     rw [hp, List.drop_eq_nil_of_le (by omega), partsR_nil]
     show some (_ ++ []) = _
     rw [List.append_nil])
   exact fun w' h => by
     unfold PartsP
     rw [e0]
     exact ⟨ss, ad, c, E, KO, rfl, rfl, hV, hO, h⟩
end Go.Proofs.YtpjbofodllhjbaaDoor
/- The reference's bits: carrefourref01.Num. -/
namespace Go.Proofs.YtpjbofodllhjbaaDoor
open Go.RowKit

/-- The number of bits. -/
def bitsN (bs : List Int) : Int := bs.foldl (fun n b => 2 * n + b) 0
def Bits (bs : List Int) : Prop := ∀ b ∈ bs, b = 0 ∨ b = 1
theorem bitsN_snoc (bs : List Int) (b : Int) : bitsN (bs ++ [b]) = 2 * bitsN bs + b := by unfold bitsN; rw [List.foldl_append]; rfl
theorem bitsN_app (xs : List Int) : ∀ ys : List Int, bitsN (xs ++ ys) = bitsN xs * 2 ^ ys.length + bitsN ys := by
  intro ys
  suffices h : ∀ (k : Nat) (ys : List Int), ys.length = k → bitsN (xs ++ ys) = bitsN xs * 2 ^ ys.length + bitsN ys from h _ ys rfl
  intro k
  induction k with
  | zero =>
    intro ys h
    rw [List.length_eq_zero_iff.1 h, List.append_nil]
    show _ = bitsN xs * 1 + 0
    omega
  | succ k ih =>
    intro ys h
    have hne : ys ≠ [] := fun e => by rw [e] at h; cases h
    obtain ⟨zs, z, rfl⟩ : ∃ zs z, ys = zs ++ [z] := ⟨ys.dropLast, ys.getLast hne, (List.dropLast_concat_getLast hne).symm⟩
    rw [List.length_append, List.length_cons, List.length_nil] at h
    have e := ih zs (by omega)
    have e2 : bitsN xs * (2 ^ zs.length * 2) = 2 * (bitsN xs * 2 ^ zs.length) := by rw [← Int.mul_assoc, Int.mul_comm]
    rw [← List.append_assoc, bitsN_snoc, bitsN_snoc, e, List.length_append, List.length_singleton, Int.pow_succ, e2]
    omega
theorem bitsN_b {bs : List Int} (h : Bits bs) : 0 ≤ bitsN bs ∧ bitsN bs < 2 ^ bs.length := by
  suffices hh : ∀ (k : Nat) (bs : List Int), bs.length = k → Bits bs → 0 ≤ bitsN bs ∧ bitsN bs < (2 : Int) ^ k from hh _ bs rfl h
  intro k
  induction k with
  | zero => intro ys h _; rw [List.length_eq_zero_iff.1 h]; decide
  | succ k ih =>
    intro ys h hB
    have hne : ys ≠ [] := fun e => by rw [e] at h; cases h
    obtain ⟨zs, z, rfl⟩ : ∃ zs z, ys = zs ++ [z] := ⟨ys.dropLast, ys.getLast hne, (List.dropLast_concat_getLast hne).symm⟩
    rw [List.length_append, List.length_cons, List.length_nil] at h
    have h1 := ih zs (by omega) (fun x hx => hB x (List.mem_append_left _ hx))
    have h2 := hB z (List.mem_append_right _ (List.mem_cons_self ..))
    rw [bitsN_snoc, Int.pow_succ]
    omega
set_option maxHeartbeats 1000000 in
theorem RNum01_c (w : World) (b o c : Nat) (bs : List Int) (hr : w.rangeAt b o (i64s bs)) (hB : Bits bs) (hn : bs.length ≤ 32) :
    Calls Tryd.prog 64 #[.slice (some ⟨b, o, none⟩) bs.length c] w fun e w' => e = .returned (.int .u32 (bitsN bs)) ∧ Frm (fun _ => False) w w' := by
  refine enter Tryd.func64 rfl Tryd.ntmps64 rfl (St.start (fun _ => False) w) ?_
  refine WC.seq ?_
  refine WC.region ?_
  refine WL.val (v_assign rfl rfl) (.none rfl) rfl rfl ?_
  refine WL.nil ?_
  refine WE.then_n ?_
  refine WC.seq ?_
  refine WC.region ?_
  refine WL.val (v_assign rfl rfl) (.none rfl) rfl rfl ?_
  refine WL.nil ?_
  refine WE.then_n ?_
  refine WC.seq ?_
  refine WC.seq ?_
  refine WC.region ?_
  refine WL.val (v_move rfl rfl) (.none rfl) rfl rfl ?_
  refine WL.val (v_len_slice rfl rfl Tryd.underlying38) (.none rfl) rfl rfl ?_
  refine WL.val (v_move rfl rfl) (.none rfl) rfl rfl ?_
  refine WL.nil ?_
  refine WE.then_n ?_
  refine WC.block ?_
  refine WC.loop (fun k : Nat => [(8, .int .i64 k), (7, .int .i64 bs.length), (6, .slice (some ⟨b, o, none⟩) bs.length c), (3, .int .u32 (bitsN (bs.take k)))]) (fun _ => []) (fun k => k ≤ bs.length) (fun k => bs.length - k) 0 (Nat.zero_le _) (.cons rfl (.cons rfl (.cons rfl (.cons rfl .nil)))) (.refl _) ?_
  intro k hk
  refine WC.seq ?_
  refine WC.region ?_
  refine WL.test (v_lss rfl rfl rfl) (.none rfl) rfl rfl (fun h9 => ?_) (fun h9 => ?_)
  ·
   refine WL.nil ?_
   refine WE.then_n ?_
   refine WC.seq ?_
   refine WC.cond_t rfl ?_
   refine WC.skip ?_
   refine WE.then_n ?_
   refine WC.seq ?_
   refine WC.block ?_
   refine WC.seq ?_
   refine WC.region ?_
   obtain ⟨x, hx⟩ : ∃ x, bs[k]? = some x := ⟨bs[k]'(by omega), List.getElem?_eq_getElem _⟩
   have hxb := hB x (List.mem_of_getElem? hx)
   have htl : (bs.take k).length = k := (by rw [List.length_take]; exact Nat.min_eq_left (by omega))
   have hrb := bitsN_b (bs := bs.take k) (fun x hx => hB x (List.mem_of_mem_take hx))
   rw [htl] at hrb
   have hp : (2 : Int) ^ k ≤ 2 ^ 31 := (by
     have h := Nat.pow_le_pow_right (n := 2) (by decide) (show k ≤ 31 by omega)
     exact_mod_cast h)
   have hp5 : (2 : Int) ^ 31 = 2147483648 := (by decide)
   have hsn : bitsN (bs.take (k + 1)) = 2 * bitsN (bs.take k) + x := (by rw [take_succ_get hx, bitsN_snoc])
   refine WL.val (v_indexAddr (lo := k) rfl rfl rfl Tryd.underlying38 sz_3 (by omega) (by omega)) (.none rfl) rfl rfl ?_
   refine WL.val (v_load1 rfl rfl one_3 (cellOld (fun h => h) (rgOne hr (i64s_get hx)))) (.none rfl) rfl rfl ?_
   refine WL.val (v_assign rfl rfl) (.none rfl) rfl rfl ?_
   refine WL.nil ?_
   refine WE.then_n ?_
   refine WC.region ?_
   refine WL.val (v_move rfl rfl) (.none rfl) rfl rfl ?_
   refine WL.val (v_mul rfl rfl rfl (w_u32 (by omega) (by omega))) (.none rfl) rfl rfl ?_
   refine WL.val (v_move rfl rfl) (.none rfl) rfl rfl ?_
   refine WL.val (v_conv rfl rfl Tryd.underlying33 Tryd.underlying3 (by first | exact w_u32 (by omega) (by omega) | exact w_u32m _)) (.none rfl) rfl rfl ?_
   refine WL.val (v_add rfl rfl rfl (show _ = bitsN (bs.take (k + 1)) from by rw [hsn]; exact (w_u32 (by omega) (by omega)).trans (by omega))) (.none rfl) rfl rfl ?_
   refine WL.val (v_assign rfl rfl) (.none rfl) rfl rfl ?_
   refine WL.nil ?_
   refine WE.block_n ?_
   refine WE.then_n ?_
   refine WC.region ?_
   refine WL.val (v_add rfl rfl rfl (w_i64 (by omega) (by omega))) (.none rfl) rfl rfl ?_
   refine WL.val (v_move rfl rfl) (.none rfl) rfl rfl ?_
   refine WL.nil ?_
   exact WE.next (k + 1) (by omega) (by omega) (.int rfl (by omega) (.cons rfl (.cons rfl (.cons rfl .nil)))) (.refl _)
  ·
   refine WL.nil ?_
   refine WE.then_n ?_
   refine WC.seq ?_
   refine WC.cond_f rfl ?_
   refine WC.exit ?_
   refine WE.then_exit ?_
   refine WE.then_exit ?_
   refine WE.block_hit ?_
   refine WE.then_n ?_
   refine WC.seq ?_
   refine WC.region ?_
   refine WL.val (v_move rfl rfl) (.none rfl) rfl rfl ?_
   refine WL.val (v_assign rfl rfl) (.none rfl) rfl rfl ?_
   refine WL.nil ?_
   refine WE.then_n ?_
   refine WC.ret ?_
   refine WE.ret1 (P := Tryd.prog) (.inl rfl) Tryd.results64 rfl ?_
   obtain rfl : k = bs.length := (by omega)
   exact fun w' h => ⟨by rw [List.take_length], h.frm⟩
end Go.Proofs.YtpjbofodllhjbaaDoor
/- The reference's prefixes: what its bits say, plainly. -/
namespace Go.Proofs.YtpjbofodllhjbaaDoor
open Go.RowKit

/-- The last bits of a number. -/
def lowB (x : Int) : Nat → List Int
  | 0 => []
  | i + 1 => (x / 2 ^ i % 2) :: lowB x i
theorem lowB_len (x : Int) : ∀ i, (lowB x i).length = i
  | 0 => rfl
  | i + 1 => by rw [lowB, List.length_cons, lowB_len x i]
theorem lowB_bits (x : Int) : ∀ i, Bits (lowB x i)
  | 0 => fun b h => by cases h
  | i + 1 => fun b h => by
    rw [lowB] at h
    rcases List.mem_cons.1 h with rfl | h
    · omega
    · exact lowB_bits x i b h
theorem bitsN_low {x : Int} (h : 0 ≤ x ∧ x ≤ 255) : bitsN (lowB x 8) = x := by
  show 2 * (2 * (2 * (2 * (2 * (2 * (2 * (2 * 0 + x / 2 ^ 7 % 2) + x / 2 ^ 6 % 2) + x / 2 ^ 5 % 2) + x / 2 ^ 4 % 2) + x / 2 ^ 3 % 2) + x / 2 ^ 2 % 2) + x / 2 ^ 1 % 2) + x / 2 ^ 0 % 2 = x
  omega
def bytesB (zs : List Int) : List Int := zs.flatMap fun x => lowB x 8
theorem bytesB_len (zs : List Int) : (bytesB zs).length = 8 * zs.length := by
  induction zs with
  | nil => rfl
  | cons z zs ih => unfold bytesB at ih ⊢; rw [List.flatMap_cons, List.length_append, ih, lowB_len, List.length_cons]; omega
theorem bytesB_bits (zs : List Int) : Bits (bytesB zs) := fun b h => by
  obtain ⟨z, _, hz⟩ := List.mem_flatMap.1 h
  exact lowB_bits z 8 b hz
theorem Bits.app {xs ys : List Int} (h1 : Bits xs) (h2 : Bits ys) : Bits (xs ++ ys) := fun b h => (List.mem_append.1 h).elim (h1 b) (h2 b)
theorem Bits.zeros (n : Nat) : Bits (List.replicate n 0) := fun _ h => .inl (List.eq_of_mem_replicate h)
theorem bitsN_zeros : ∀ n : Nat, bitsN (List.replicate n 0) = 0
  | 0 => rfl
  | n + 1 => by rw [List.replicate_succ', bitsN_snoc, bitsN_zeros n]; rfl
/-- 32 bits of at most four bytes. -/
def b32 (zs : List Int) : List Int := bytesB zs ++ List.replicate (32 - 8 * zs.length) 0
theorem b32_len {zs : List Int} (h : zs.length ≤ 4) : (b32 zs).length = 32 := by unfold b32; rw [List.length_append, bytesB_len, List.length_replicate]; omega
theorem b32_bits (zs : List Int) : Bits (b32 zs) := (bytesB_bits zs).app (Bits.zeros _)
theorem b32_num {zs : List Int} (hB : Bys zs) (h : zs.length ≤ 4) : bitsN (b32 zs) = addrI zs := by
  unfold b32
  rw [bitsN_app, bitsN_zeros, List.length_replicate, Int.add_zero]
  match zs, h with
  | [], _ => rfl
  | [a], _ =>
    have ha := bitsN_low (hB a (by simp))
    rw [show bytesB [a] = lowB a 8 from List.append_nil _, ha]
    show a * 2 ^ 24 = a * 16777216 + 0 * 65536 + 0 * 256 + 0
    omega
  | [a, b], _ =>
    have ha := bitsN_low (hB a (by simp))
    have hb := bitsN_low (hB b (by simp))
    rw [show bytesB [a, b] = lowB a 8 ++ lowB b 8 by unfold bytesB; simp, bitsN_app, ha, hb, lowB_len]
    show (a * 2 ^ 8 + b) * 2 ^ 16 = a * 16777216 + b * 65536 + 0 * 256 + 0
    omega
  | [a, b, c], _ =>
    have ha := bitsN_low (hB a (by simp))
    have hb := bitsN_low (hB b (by simp))
    have hc := bitsN_low (hB c (by simp))
    rw [show bytesB [a, b, c] = lowB a 8 ++ lowB b 8 ++ lowB c 8 by unfold bytesB; simp, bitsN_app, bitsN_app, ha, hb, hc, lowB_len, lowB_len]
    show ((a * 2 ^ 8 + b) * 2 ^ 8 + c) * 2 ^ 8 = a * 16777216 + b * 65536 + c * 256 + 0
    omega
  | [a, b, c, d], _ =>
    have ha := bitsN_low (hB a (by simp))
    have hb := bitsN_low (hB b (by simp))
    have hc := bitsN_low (hB c (by simp))
    have hd := bitsN_low (hB d (by simp))
    rw [show bytesB [a, b, c, d] = lowB a 8 ++ lowB b 8 ++ lowB c 8 ++ lowB d 8 by unfold bytesB; simp, bitsN_app, bitsN_app, bitsN_app, ha, hb, hc, hd, lowB_len, lowB_len, lowB_len]
    show (((a * 2 ^ 8 + b) * 2 ^ 8 + c) * 2 ^ 8 + d) * 2 ^ 0 = a * 16777216 + b * 65536 + c * 256 + d
    omega
/-- The bits behind the length are zero: the address is cut. -/
theorem cut_bits {zs : List Int} (hB : Bys zs) (h : zs.length ≤ 4) (n : Nat) (hn : n ≤ 32) : bitsN ((b32 zs).take n ++ List.replicate (32 - n) 0) = cutI (addrI zs) n := by
  rw [← b32_num hB h]
  have hl := b32_len h
  have e := bitsN_app ((b32 zs).take n) ((b32 zs).drop n)
  rw [List.take_append_drop, List.length_drop, hl] at e
  have hb := bitsN_b (bs := (b32 zs).drop n) fun b hb => b32_bits zs b (List.mem_of_mem_drop hb)
  rw [List.length_drop, hl] at hb
  rw [bitsN_app, bitsN_zeros, List.length_replicate, Int.add_zero]
  unfold cutI
  have hi : inI (n : Int) = n := by unfold inI; omega
  rw [hi, show (32 - (n : Int)).toNat = 32 - n by omega, show (((2 ^ (32 - n) : Nat)) : Int) = (2 : Int) ^ (32 - n) by simp]
  rw [e]
  generalize (2 : Int) ^ (32 - n) = M at *
  generalize bitsN ((b32 zs).take n) = A at *
  generalize bitsN ((b32 zs).drop n) = B at *
  rw [Int.add_comm (A * M) B, Int.add_mul_emod_self_right, Int.emod_eq_of_lt hb.1 hb.2]
  omega
end Go.Proofs.YtpjbofodllhjbaaDoor
/- The reference's prefixes: carrefourref07.read. -/
namespace Go.Proofs.YtpjbofodllhjbaaDoor
open Go.RowKit

theorem half_pow {z : Int} {i : Nat} (hi : i < 8) (h : 0 ≤ z) : (z / 2 ^ i).tdiv 2 = z / 2 ^ (i + 1) ∧ (z / 2 ^ i).tmod 2 = z / 2 ^ i % 2 ∧ 0 ≤ z / 2 ^ i := by
  have h0 : 0 ≤ z / 2 ^ i := Int.ediv_nonneg h (by have := Nat.two_pow_pos i; have e : (2 : Int) ^ i = ((2 ^ i : Nat) : Int) := by simp
                                                   omega)
  refine ⟨?_, Int.tmod_eq_emod_of_nonneg h0, h0⟩
  rw [Int.tdiv_eq_ediv_of_nonneg h0]
  have : i = 0 ∨ i = 1 ∨ i = 2 ∨ i = 3 ∨ i = 4 ∨ i = 5 ∨ i = 6 ∨ i = 7 := by omega
  rcases this with rfl | rfl | rfl | rfl | rfl | rfl | rfl | rfl <;> omega
theorem bytesB_snoc (zs : List Int) (z : Int) : bytesB (zs ++ [z]) = bytesB zs ++ lowB z 8 := by unfold bytesB; rw [List.flatMap_append, List.flatMap_cons, List.flatMap_nil, List.append_nil]
def ReadP (w w' : World) (xs : List Int) (e : Ending) : Prop :=
  match netsR xs with
  | none => e = .returned (.tuple #[.slice none 0 0, .bool false]) ∧ Frm (fun _ => False) w w'
  | some ps => ∃ ad c E, e = .returned (.tuple #[.slice ad ps.length c, .bool true]) ∧ Vec 2 ad ps.length c (pfsL ps) E ∧ St (fun _ => False) w w' E
theorem ReadP.no {w w' : World} {v : List Int} {L : List Ent} (h : netsR v = none) (hS : St (fun _ => False) w w' L) : ReadP w w' v (.returned (.tuple #[.slice none 0 0, .bool false])) := by
  unfold ReadP
  rw [h]
  exact ⟨rfl, hS.frm⟩
theorem RNumV_c (w : World) (g hc : Nat) (bs : List Int) (cs : List Value) (hV : Vec 1 (some ⟨g, 0, none⟩) 32 hc (i64s bs) [.row g cs]) (hl : bs.length = 32) (hB : Bits bs) (hw : (Ent.row g cs).holds w) :
    Calls Tryd.prog 64 #[.slice (some ⟨g, 0, none⟩) 32 hc] w fun e w' => e = .returned (.int .u32 (bitsN bs)) ∧ Frm (fun _ => False) w w' := by
  obtain ⟨b, o, e, hr⟩ := hV.src2 (by rw [i64s_len]; omega)
  cases e
  have h := RNum01_c w g 0 hc bs (hr w fun e he => by rw [List.mem_singleton.1 he]; exact hw) hB (by omega)
  rw [hl] at h
  exact h
set_option maxHeartbeats 8000000 in
theorem RRead_c (w : World) (b o cv : Nat) (xs : List Int) (hW : Win w b o cv xs) (hn : xs.length ≤ 100000) :
    Calls Tryd.prog 43 #[.slice (some ⟨b, o, none⟩) xs.length cv] w fun e w' => ReadP w w' xs e := by
  have hle := hW.le
  refine enter Tryd.func43 rfl Tryd.ntmps43 rfl (St.start (fun _ => False) w) ?_
  refine WC.seq ?_
  refine WC.region ?_
  refine WL.val (v_assign rfl rfl) (.none rfl) rfl rfl ?_
  refine WL.val (v_assign rfl rfl) (.none rfl) rfl rfl ?_
  refine WL.nil ?_
  refine WE.then_n ?_
  refine WC.seq ?_
  refine WC.region ?_
  refine WL.buildSlice rfl rfl Tryd.underlying47 sz_132 zero_132 rfl (by decide) rfl (.none rfl) rfl rfl ?_
  intro g12 hg12
  refine WL.val (v_assign rfl rfl) (.none rfl) rfl rfl ?_
  refine WL.nil ?_
  refine WE.then_n ?_
  refine WC.seq ?_
  refine WC.region ?_
  refine WL.val (v_assign rfl rfl) (.none rfl) rfl rfl ?_
  refine WL.nil ?_
  refine WE.then_n ?_
  refine WC.seq ?_
  refine WC.block ?_
  refine WC.loop (fun y : Nat × List PfL × Option Addr × Nat × List Ent => [(5, .int .i64 y.1), (4, .slice y.2.2.1 y.2.1.length y.2.2.2.1), (0, .slice (some ⟨b, o, none⟩) xs.length cv)]) (fun y => y.2.2.2.2 ++ []) (fun y => y.1 ≤ xs.length ∧ netsR xs = (netsR (xs.drop y.1)).map (y.2.1 ++ ·) ∧ Vec 2 y.2.2.1 y.2.1.length y.2.2.2.1 (pfsL y.2.1) y.2.2.2.2 ∧ y.2.1.length ≤ y.1) (fun y => xs.length - y.1) (0, [], some ⟨g12, 0, none⟩, 0, [.row g12 []]) ⟨Nat.zero_le _, by dsimp only; rw [List.drop_zero]; cases netsR xs <;> rfl, Vec.row (k := 0) rfl rfl (Nat.le_refl _), Nat.zero_le _⟩ (.cons rfl (.cons rfl (.cons rfl .nil))) (.refl _) ?_
  rintro ⟨k, ps, ad, c, E⟩ ⟨hk, hp, hV, hpl⟩
  dsimp only at hk hp hV hpl
  dsimp only
  refine WC.seq ?_
  refine WC.seq ?_
  refine WC.region ?_
  refine WL.val (v_move rfl rfl) (.none rfl) rfl rfl ?_
  refine WL.val (v_move rfl rfl) (.none rfl) rfl rfl ?_
  refine WL.val (v_len_slice rfl rfl Tryd.underlying22) (.none rfl) rfl rfl ?_
  refine WL.test (v_lss rfl rfl rfl) (.none rfl) rfl rfl (fun h16 => ?_) (fun h16 => ?_)
  ·
   refine WL.nil ?_
   refine WE.then_n ?_
   refine WC.cond_t rfl ?_
   refine WC.skip ?_
   refine WE.then_n ?_
   refine WC.block ?_
   refine WC.seq ?_
   refine WC.region ?_
   obtain ⟨x, hx⟩ : ∃ x, xs[k]? = some x := ⟨xs[k]'(by omega), List.getElem?_eq_getElem _⟩
   have hbx := hW.bys x (List.mem_of_getElem? hx)
   obtain ⟨m, rfl⟩ := Int.eq_ofNat_of_zero_le hbx.1
   rw [drop_cons' hx, netsR_cons] at hp
   have hnm : needN (m : Int) = (m + 7) / 8 := (by unfold needN; rw [Int.toNat_natCast])
   have hdl : (xs.drop (k + 1)).length = xs.length - (k + 1) := List.length_drop ..
   refine WL.val (v_move rfl rfl) (.none rfl) rfl rfl ?_
   refine WL.val (v_move rfl rfl) (.none rfl) rfl rfl ?_
   refine WL.val (v_indexAddr (lo := k) rfl rfl rfl Tryd.underlying22 sz_5 (by omega) (by omega)) (.none rfl) rfl rfl ?_
   refine WL.val (v_load1 rfl rfl one_5 (cellOld (fun h => h) (hW.get hx))) (.none rfl) rfl rfl ?_
   refine WL.val (v_conv rfl rfl Tryd.underlying3 Tryd.underlying5 (w_i64 (by omega) (by omega))) (.none rfl) rfl rfl ?_
   refine WL.val (v_assign rfl rfl) (.none rfl) rfl rfl ?_
   refine WL.nil ?_
   refine WE.then_n ?_
   refine WC.seq ?_
   refine WC.region ?_
   refine WL.val (v_move rfl rfl) (.none rfl) rfl rfl ?_
   refine WL.val (v_add rfl rfl rfl (w_i64 (by omega) (by omega))) (.none rfl) rfl rfl ?_
   refine WL.val (v_assign rfl rfl) (.none rfl) rfl rfl ?_
   refine WL.nil ?_
   refine WE.then_n ?_
   refine WC.seq ?_
   refine WC.seq ?_
   refine WC.region ?_
   refine WL.val (v_move rfl rfl) (.none rfl) rfl rfl ?_
   refine WL.test (v_gtr rfl rfl rfl) (.none rfl) rfl rfl (fun h25 => ?_) (fun h25 => ?_)
   ·
    refine WL.nil ?_
    refine WE.then_n ?_
    refine WC.cond_t rfl ?_
    refine WC.seq ?_
    refine WC.region ?_
    refine WL.val (v_assign rfl rfl) (.none rfl) rfl rfl ?_
    refine WL.val (v_assign rfl rfl) (.none rfl) rfl rfl ?_
    refine WL.nil ?_
    refine WE.then_n ?_
    refine WC.ret ?_
    refine WE.then_ret ?_
    refine WE.block_ret ?_
    refine WE.then_ret ?_
    refine WE.block_ret ?_
    refine WE.then_ret ?_
    refine WE.ret2 (P := Tryd.prog) (.inl rfl) Tryd.results43 rfl rfl ?_
    have e0 : netsR xs = none := (by rw [hp, if_pos (.inl (by omega))]; rfl)
    exact fun w' h => ReadP.no e0 h
   ·
    refine WL.nil ?_
    refine WE.then_n ?_
    refine WC.cond_f rfl ?_
    refine WC.skip ?_
    refine WE.then_n ?_
    refine WC.seq ?_
    refine WC.region ?_
    refine WL.buildSlice rfl rfl Tryd.underlying38 sz_3 zero_3 rfl (by decide) rfl (.none rfl) rfl rfl ?_
    intro g26 hg26
    refine WL.val (v_assign rfl rfl) (.none rfl) rfl rfl ?_
    refine WL.nil ?_
    refine WE.then_n ?_
    refine WC.seq ?_
    refine WC.block ?_
    refine WC.loop (fun y : Nat × Option Addr × Nat × List Ent => [(7, .slice y.2.1 (8 * y.1) y.2.2.1), (6, .int .i64 m), (5, .int .i64 (k + 1 + y.1 : Nat)), (4, .slice ad ps.length c), (0, .slice (some ⟨b, o, none⟩) xs.length cv)]) (fun y => y.2.2.2 ++ (E ++ [])) (fun y => k + 1 + y.1 ≤ xs.length ∧ 8 * y.1 < m + 8 ∧ Vec 1 y.2.1 (8 * y.1) y.2.2.1 (i64s (bytesB ((xs.drop (k + 1)).take y.1))) y.2.2.2) (fun y => xs.length - y.1) (0, some ⟨g26, 0, none⟩, 0, [.row g26 []]) ⟨by dsimp only; omega, by dsimp only; omega, Vec.row (k := 0) rfl rfl (Nat.le_refl _)⟩ (.cons rfl (.cons rfl (.int rfl (by dsimp only; omega) (.cons rfl (.cons rfl .nil))))) (.refl _) ?_
    rintro ⟨j, bd, bc, F⟩ ⟨hj, hj8, hF⟩
    dsimp only at hj hj8 hF
    dsimp only
    refine WC.seq ?_
    refine WC.seq ?_
    refine WC.region ?_
    refine WL.val (v_move rfl rfl) (.none rfl) rfl rfl ?_
    refine WL.val (v_len_slice rfl rfl Tryd.underlying38) (.none rfl) rfl rfl ?_
    refine WL.val (v_mul rfl rfl rfl (w_i64 (by omega) (by omega))) (.none rfl) rfl rfl ?_
    refine WL.val (v_move rfl rfl) (.none rfl) rfl rfl ?_
    refine WL.val (v_mul rfl rfl rfl (w_i64 (by omega) (by omega))) (.none rfl) rfl rfl ?_
    refine WL.test (v_lss rfl rfl rfl) (.none rfl) rfl rfl (fun h32 => ?_) (fun h32 => ?_)
    ·
     refine WL.nil ?_
     refine WE.then_n ?_
     refine WC.cond_t rfl ?_
     refine WC.skip ?_
     refine WE.then_n ?_
     refine WC.block ?_
     refine WC.seq ?_
     refine WC.seq ?_
     refine WC.region ?_
     refine WL.val (v_move rfl rfl) (.none rfl) rfl rfl ?_
     refine WL.val (v_move rfl rfl) (.none rfl) rfl rfl ?_
     refine WL.val (v_len_slice rfl rfl Tryd.underlying22) (.none rfl) rfl rfl ?_
     refine WL.test (v_geq rfl rfl rfl) (.none rfl) rfl rfl (fun h36 => ?_) (fun h36 => ?_)
     ·
      refine WL.nil ?_
      refine WE.then_n ?_
      refine WC.cond_t rfl ?_
      refine WC.seq ?_
      refine WC.region ?_
      refine WL.val (v_assign rfl rfl) (.none rfl) rfl rfl ?_
      refine WL.val (v_assign rfl rfl) (.none rfl) rfl rfl ?_
      refine WL.nil ?_
      refine WE.then_n ?_
      refine WC.ret ?_
      refine WE.then_ret ?_
      refine WE.block_ret ?_
      refine WE.then_ret ?_
      refine WE.block_ret ?_
      refine WE.then_ret ?_
      refine WE.block_ret ?_
      refine WE.then_ret ?_
      refine WE.block_ret ?_
      refine WE.then_ret ?_
      refine WE.ret2 (P := Tryd.prog) (.inl rfl) Tryd.results43 rfl rfl ?_
      have e0 : netsR xs = none := (by rw [hp, if_pos (.inr (by rw [hdl, hnm]; omega))]; rfl)
      exact fun w' h => ReadP.no e0 h
     ·
      refine WL.nil ?_
      refine WE.then_n ?_
      refine WC.cond_f rfl ?_
      refine WC.skip ?_
      refine WE.then_n ?_
      refine WC.seq ?_
      refine WC.region ?_
      obtain ⟨z, hz⟩ : ∃ z, xs[k + 1 + j]? = some z := ⟨xs[k + 1 + j]'(by omega), List.getElem?_eq_getElem _⟩
      have hbz := hW.bys z (List.mem_of_getElem? hz)
      have hzd : (xs.drop (k + 1))[j]? = some z := (by rw [List.getElem?_drop]; exact hz)
      refine WL.val (v_move rfl rfl) (.none rfl) rfl rfl ?_
      refine WL.val (v_move rfl rfl) (.none rfl) rfl rfl ?_
      refine WL.val (v_indexAddr (lo := k + 1 + j) rfl rfl rfl Tryd.underlying22 sz_5 (by omega) (by omega)) (.none rfl) rfl rfl ?_
      refine WL.val (v_load1 rfl rfl one_5 (cellOld (fun h => h) (hW.get hz))) (.none rfl) rfl rfl ?_
      refine WL.val (v_conv rfl rfl Tryd.underlying3 Tryd.underlying5 (w_i64 (by omega) (by omega))) (.none rfl) rfl rfl ?_
      refine WL.val (v_assign rfl rfl) (.none rfl) rfl rfl ?_
      refine WL.nil ?_
      refine WE.then_n ?_
      refine WC.seq ?_
      refine WC.region ?_
      refine WL.val (v_move rfl rfl) (.none rfl) rfl rfl ?_
      refine WL.val (v_add rfl rfl rfl (w_i64 (by omega) (by omega))) (.none rfl) rfl rfl ?_
      refine WL.val (v_assign rfl rfl) (.none rfl) rfl rfl ?_
      refine WL.nil ?_
      refine WE.then_n ?_
      refine WC.seq ?_
      refine WC.region ?_
      refine WL.buildSlice rfl rfl Tryd.underlying38 sz_3 zero_3 rfl (by decide) rfl (.none rfl) rfl rfl ?_
      intro g44 hg44
      refine WL.val (v_assign rfl rfl) (.none rfl) rfl rfl ?_
      refine WL.nil ?_
      refine WE.then_n ?_
      refine WC.seq ?_
      refine WC.seq ?_
      refine WC.region ?_
      refine WL.val (v_assign rfl rfl) (.none rfl) rfl rfl ?_
      refine WL.nil ?_
      refine WE.then_n ?_
      refine WC.block ?_
      refine WC.loop (fun y : Nat × Option Addr × Nat × List Ent => [(10, .int .i64 y.1), (9, .slice y.2.1 y.1 y.2.2.1), (8, .int .i64 (z / 2 ^ y.1)), (7, .slice bd (8 * j) bc), (6, .int .i64 m), (5, .int .i64 (k + 1 + j + 1 : Nat)), (4, .slice ad ps.length c), (0, .slice (some ⟨b, o, none⟩) xs.length cv)]) (fun y => y.2.2.2 ++ (F ++ (E ++ []))) (fun y => y.1 ≤ 8 ∧ Vec 1 y.2.1 y.1 y.2.2.1 (i64s (lowB z y.1)) y.2.2.2) (fun y => 8 - y.1) (0, some ⟨g44, 0, none⟩, 0, [.row g44 []]) ⟨by dsimp only; omega, Vec.row (k := 0) rfl rfl (Nat.le_refl _)⟩ (.cons rfl (.cons rfl (.int rfl (by first | omega | (dsimp only; omega)) (.cons rfl (.cons rfl (.int rfl (by first | omega | (dsimp only; omega)) (.cons rfl (.cons rfl .nil)))))))) (.refl _) ?_
      rintro ⟨i, ed, ec, G⟩ ⟨hi, hG⟩
      dsimp only at hi hG
      dsimp only
      refine WC.seq ?_
      refine WC.seq ?_
      refine WC.region ?_
      refine WL.val (v_move rfl rfl) (.none rfl) rfl rfl ?_
      refine WL.test (v_lss rfl rfl rfl) (.none rfl) rfl rfl (fun h46 => ?_) (fun h46 => ?_)
      ·
       refine WL.nil ?_
       refine WE.then_n ?_
       refine WC.cond_t rfl ?_
       refine WC.skip ?_
       refine WE.then_n ?_
       refine WC.seq ?_
       refine WC.block ?_
       refine WC.seq ?_
       refine WC.region ?_
       obtain ⟨hq1, hq2, hq3⟩ := half_pow (z := z) (i := i) (by omega) hbz.1
       have hq4 := Int.ediv_le_self (a := z) (2 ^ (i + 1)) hbz.1
       have hq5 := (half_pow (z := z) (i := i) (by omega) hbz.1).1
       have hq6 : 0 ≤ z / 2 ^ (i + 1) := (by rw [← hq5, Int.tdiv_eq_ediv_of_nonneg hq3]; omega)
       refine WL.val (v_move rfl rfl) (.none rfl) rfl rfl ?_
       refine WL.val (v_remT rfl rfl rfl (by decide)) (.none rfl) rfl rfl ?_
       rw [hq2]
       refine WL.buildSlice rfl rfl Tryd.underlying38 sz_3 zero_3 rfl (by decide) rfl (.none rfl) rfl rfl ?_
       intro g51 hg51
       refine WL.val (v_move rfl rfl) (.none rfl) rfl rfl ?_
       refine WL.appendL rfl rfl rfl Tryd.underlying38 Tryd.underlying38 sz_3 by_3 zero_3 rfl rfl (Vec.row (g := g51) (k := 1) (c := 1) (s := 1) (cs := [.int .i64 (z / 2 ^ i % 2)]) (xs := [.int .i64 (z / 2 ^ i % 2)]) rfl rfl (Nat.le_refl _)) (new := i64s (lowB z i)) (fun h => by obtain ⟨b', o', e, hr'⟩ := hG.src (L := .row g51 [.int .i64 (z / 2 ^ i % 2)] :: (G ++ (F ++ (E ++ [])))) (fun e he => List.mem_cons_of_mem _ (List.mem_append_left _ he)) (by rw [i64s_len, lowB_len]; exact h); exact ⟨b', o', e, fun w hS => hr' _ _ w hS⟩) (by rw [i64s_len, lowB_len, Nat.mul_one]) (i64s_one _) (by omega) (.none rfl) rfl rfl ?_
       intro ad53 c53 E53 hV53 hr53
       rw [Nat.add_comm 1 i] at hV53 ⊢
       refine WL.val (v_assign rfl rfl) (.none rfl) rfl rfl ?_
       refine WL.nil ?_
       refine WE.then_n ?_
       refine WC.region ?_
       refine WL.val (v_move rfl rfl) (.none rfl) rfl rfl ?_
       refine WL.val (v_quoT rfl rfl rfl (by decide) (show _ = z / 2 ^ (i + 1) from by rw [hq1]; exact w_i64 (by omega) (by omega))) (.none rfl) rfl rfl ?_
       refine WL.val (v_assign rfl rfl) (.none rfl) rfl rfl ?_
       refine WL.nil ?_
       refine WE.block_n ?_
       refine WE.then_n ?_
       refine WC.region ?_
       refine WL.val (v_move rfl rfl) (.none rfl) rfl rfl ?_
       refine WL.val (v_add rfl rfl rfl (w_i64 (by omega) (by omega))) (.none rfl) rfl rfl ?_
       refine WL.val (v_assign rfl rfl) (.none rfl) rfl rfl ?_
       refine WL.nil ?_
       exact WE.next (i + 1, ad53, c53, E53) (by dsimp only; omega) ⟨by dsimp only; omega, hV53⟩ (.int rfl (by dsimp only; omega) (.cons rfl (.cons rfl (.cons rfl (.cons rfl (.cons rfl (.cons rfl (.cons rfl .nil)))))))) (List.Sublist.append_left (List.sublist_append_right G _) _)
      ·
       refine WL.nil ?_
       refine WE.then_n ?_
       refine WC.cond_f rfl ?_
       refine WC.exit ?_
       refine WE.then_exit ?_
       refine WE.then_exit ?_
       refine WE.block_hit ?_
       refine WE.then_n ?_
       refine WC.region ?_
       have hi8 : i = 8 := (by omega)
       rw [hi8] at hG
       rw [hi8]
       refine WL.to (L' := F ++ (G ++ (E ++ []))) (fun w hS => St.front (R := F) G hS) ?_
       refine WL.val (v_move rfl rfl) (.none rfl) rfl rfl ?_
       refine WL.val (v_move rfl rfl) (.none rfl) rfl rfl ?_
       refine WL.appendL rfl rfl rfl Tryd.underlying38 Tryd.underlying38 sz_3 by_3 zero_3 rfl rfl hF (new := i64s (lowB z 8)) (fun h => by obtain ⟨b', o', e, hr'⟩ := hG.src (L := F ++ (G ++ (E ++ []))) (fun e he => List.mem_append_right _ (List.mem_append_left _ he)) (by rw [i64s_len, lowB_len]; exact h); exact ⟨b', o', e, fun w hS => hr' _ _ w hS⟩) (by rw [i64s_len, lowB_len]) (i64s_one _) (by omega) (.none rfl) rfl rfl ?_
       intro ad58 c58 E58 hV58 hr58
       rw [← i64s_app, ← bytesB_snoc, ← take_succ_get hzd, show 8 * j + 8 = 8 * (j + 1) by omega] at hV58
       rw [show 8 * j + 8 = 8 * (j + 1) by omega]
       refine WL.val (v_assign rfl rfl) (.none rfl) rfl rfl ?_
       refine WL.nil ?_
       refine WE.block_n ?_
       exact WE.next (j + 1, ad58, c58, E58) (by dsimp only; omega) ⟨by dsimp only; omega, by dsimp only; omega, hV58⟩ (.cons rfl (.cons rfl (.cons rfl (.cons rfl (.cons rfl .nil))))) (List.Sublist.append_left (List.sublist_append_right G _) _)
    ·
     refine WL.nil ?_
     refine WE.then_n ?_
     refine WC.cond_f rfl ?_
     refine WC.exit ?_
     refine WE.then_exit ?_
     refine WE.then_exit ?_
     refine WE.block_hit ?_
     refine WE.then_n ?_
     refine WC.seq ?_
     refine WC.block ?_
     refine WC.loop (fun y : Nat × Option Addr × Nat × List Ent => [(7, .slice y.2.1 (8 * j + y.1) y.2.2.1), (6, .int .i64 m), (5, .int .i64 (k + 1 + j : Nat)), (4, .slice ad ps.length c), (0, .slice (some ⟨b, o, none⟩) xs.length cv)]) (fun y => y.2.2.2 ++ (E ++ [])) (fun y => 8 * j + y.1 ≤ 32 ∧ Vec 1 y.2.1 (8 * j + y.1) y.2.2.1 (i64s (bytesB ((xs.drop (k + 1)).take j) ++ List.replicate y.1 0)) y.2.2.2) (fun y => 32 - y.1) (0, bd, bc, F) ⟨by dsimp only; omega, by dsimp only; rw [show List.replicate 0 (0 : Int) = [] from rfl, List.append_nil]; exact hF⟩ (.cons rfl (.cons rfl (.cons rfl (.cons rfl (.cons rfl .nil))))) (.refl _) ?_
     rintro ⟨t, hd, hc, H⟩ ⟨ht, hH⟩
     dsimp only at ht hH
     dsimp only
     refine WC.seq ?_
     refine WC.seq ?_
     refine WC.region ?_
     refine WL.val (v_move rfl rfl) (.none rfl) rfl rfl ?_
     refine WL.val (v_len_slice rfl rfl Tryd.underlying38) (.none rfl) rfl rfl ?_
     refine WL.test (v_lss rfl rfl rfl) (.none rfl) rfl rfl (fun h61 => ?_) (fun h61 => ?_)
     ·
      refine WL.nil ?_
      refine WE.then_n ?_
      refine WC.cond_t rfl ?_
      refine WC.skip ?_
      refine WE.then_n ?_
      refine WC.block ?_
      refine WC.region ?_
      refine WL.val (v_move rfl rfl) (.none rfl) rfl rfl ?_
      refine WL.buildSlice rfl rfl Tryd.underlying38 sz_3 zero_3 rfl (by decide) rfl (.none rfl) rfl rfl ?_
      intro g63 hg63
      refine WL.to (L' := H ++ (.row g63 [.int .i64 0] :: (E ++ []))) (fun w hS => St.front (R := H) (L := E ++ []) [.row g63 [.int .i64 0]] hS) ?_
      refine WL.appendL rfl rfl rfl Tryd.underlying38 Tryd.underlying38 sz_3 by_3 zero_3 rfl rfl hH (new := [.int .i64 0]) (fun _ => ⟨g63, 0, rfl, fun w hS => allAt (g := g63) w hS⟩) rfl rfl (by omega) (.none rfl) rfl rfl ?_
      intro ad64 c64 E64 hV64 hr64
      have hrep : i64s (bytesB ((xs.drop (k + 1)).take j) ++ List.replicate t 0) ++ [.int .i64 0] = i64s (bytesB ((xs.drop (k + 1)).take j) ++ List.replicate (t + 1) 0) := (by rw [List.replicate_succ', ← List.append_assoc, i64s_app _ [0]]; rfl)
      rw [hrep, Nat.add_assoc] at hV64
      rw [Nat.add_assoc]
      refine WL.val (v_assign rfl rfl) (.none rfl) rfl rfl ?_
      refine WL.nil ?_
      refine WE.block_n ?_
      exact WE.next (t + 1, ad64, c64, E64) (by dsimp only; omega) ⟨by dsimp only; omega, hV64⟩ (.cons rfl (.cons rfl (.cons rfl (.cons rfl (.cons rfl .nil))))) (List.Sublist.append_left (.cons _ (.refl _)) _)
     ·
      refine WL.nil ?_
      refine WE.then_n ?_
      refine WC.cond_f rfl ?_
      refine WC.exit ?_
      refine WE.then_exit ?_
      refine WE.then_exit ?_
      refine WE.block_hit ?_
      refine WE.then_n ?_
      refine WC.seq ?_
      refine WC.seq ?_
      refine WC.region ?_
      have hzl : ((xs.drop (k + 1)).take j).length = j := (by rw [List.length_take]; omega)
      have hb4 : ((xs.drop (k + 1)).take j).length ≤ 4 := (by omega)
      have ht32 : 8 * j + t = 32 := (by omega)
      have hbe : bytesB ((xs.drop (k + 1)).take j) ++ List.replicate t 0 = b32 ((xs.drop (k + 1)).take j) := (by unfold b32; rw [hzl, show t = 32 - 8 * j by omega])
      rw [hbe, ht32] at hH
      rw [ht32]
      rcases hH with ⟨_, h0, _⟩ | ⟨g, cs, rfl, rfl, hx2, hcl, hkc⟩
      · omega
      refine WL.as (L' := .row g cs :: (E ++ [])) rfl ?_
      refine WL.val (v_move rfl rfl) (.none rfl) rfl rfl ?_
      refine WL.val (v_assign rfl rfl) (.none rfl) rfl rfl ?_
      refine WL.nil ?_
      refine WE.then_n ?_
      refine WC.block ?_
      refine WC.loop (fun y : Nat × List Value => [(11, .int .i64 y.1), (7, .slice (some ⟨g, 0, none⟩) 32 hc), (6, .int .i64 m), (5, .int .i64 (k + 1 + j : Nat)), (4, .slice ad ps.length c), (0, .slice (some ⟨b, o, none⟩) xs.length cv)]) (fun y => .row g y.2 :: (E ++ [])) (fun y => m ≤ y.1 ∧ y.1 ≤ 32 ∧ y.2.length = hc * 1 ∧ ∃ bs : List Int, y.2.take 32 = i64s bs ∧ bs.length = 32 ∧ ∀ q : Nat, q < 32 → bs[q]? = if m ≤ q ∧ q < y.1 then some 0 else (b32 ((xs.drop (k + 1)).take j))[q]?) (fun y => 32 - y.1) (m, cs) ⟨Nat.le_refl _, by dsimp only; omega, hcl, b32 ((xs.drop (k + 1)).take j), by rw [← hx2], b32_len hb4, fun q _ => by rw [if_neg (by dsimp only; omega)]⟩ (.cons rfl (.cons rfl (.cons rfl (.cons rfl (.cons rfl (.cons rfl .nil)))))) (.refl _) ?_
      rintro ⟨i, cs2⟩ ⟨him, hi32, hcl2, bs, hbs, hbl, hbq⟩
      dsimp only at him hi32 hcl2 hbs hbq
      dsimp only
      refine WC.seq ?_
      refine WC.seq ?_
      refine WC.region ?_
      refine WL.val (v_move rfl rfl) (.none rfl) rfl rfl ?_
      refine WL.test (v_lss rfl rfl rfl) (.none rfl) rfl rfl (fun h67 => ?_) (fun h67 => ?_)
      ·
       refine WL.nil ?_
       refine WE.then_n ?_
       refine WC.cond_t rfl ?_
       refine WC.skip ?_
       refine WE.then_n ?_
       refine WC.seq ?_
       refine WC.block ?_
       refine WC.region ?_
       refine WL.val (v_move rfl rfl) (.none rfl) rfl rfl ?_
       refine WL.val (v_move rfl rfl) (.none rfl) rfl rfl ?_
       refine WL.val (v_indexAddr (lo := i) rfl rfl rfl Tryd.underlying38 sz_3 (by omega) (by omega)) (.none rfl) rfl rfl ?_
       refine WL.store1 rfl rfl rfl rfl one_3 (by omega) (.none rfl) rfl ?_
       refine WL.nil ?_
       refine WE.block_n ?_
       refine WE.then_n ?_
       refine WC.region ?_
       refine WL.val (v_move rfl rfl) (.none rfl) rfl rfl ?_
       refine WL.val (v_add rfl rfl rfl (w_i64 (by omega) (by omega))) (.none rfl) rfl rfl ?_
       refine WL.val (v_assign rfl rfl) (.none rfl) rfl rfl ?_
       refine WL.nil ?_
       exact WE.next (i + 1, cs2.set (0 + i * 1) (.int .i64 0)) (by dsimp only; omega) ⟨by dsimp only; omega, by dsimp only; omega, by rw [List.length_set]; exact hcl2, bs.set i 0, by
       dsimp only
       rw [List.take_set, hbs, show 0 + i * 1 = i by omega]
       unfold i64s
       rw [List.map_set], by rw [List.length_set]; exact hbl, fun q hq => by
       rw [List.getElem?_set]
       dsimp only
       by_cases e : i = q
       · subst e
         rw [if_pos rfl, if_pos (by omega), if_pos (by omega)]
       · rw [if_neg e, hbq q hq]
         by_cases h : m ≤ q ∧ q < i
         · rw [if_pos h, if_pos (by omega)]
         · rw [if_neg h, if_neg (by omega)]⟩ (.int rfl (by dsimp only; omega) (.cons rfl (.cons rfl (.cons rfl (.cons rfl (.cons rfl .nil)))))) (.refl _)
      ·
       refine WL.nil ?_
       refine WE.then_n ?_
       refine WC.cond_f rfl ?_
       refine WC.exit ?_
       refine WE.then_exit ?_
       refine WE.then_exit ?_
       refine WE.block_hit ?_
       refine WE.then_n ?_
       refine WC.region ?_
       refine WL.val (v_move rfl rfl) (.none rfl) rfl rfl ?_
       refine WL.val (v_move rfl rfl) (.none rfl) rfl rfl ?_
       have hl32 := b32_len hb4
       have hbl2 : bs = (b32 ((xs.drop (k + 1)).take j)).take m ++ List.replicate (32 - m) 0 := List.ext_getElem? fun q => (by
         by_cases hq : q < 32
         · rw [hbq q hq]
           by_cases h : m ≤ q ∧ q < i
           · rw [if_pos h, List.getElem?_append_right (by rw [List.length_take, hl32]; omega), List.getElem?_replicate, if_pos (by rw [List.length_take, hl32]; omega)]
           · rw [if_neg h, List.getElem?_append_left (by rw [List.length_take, hl32]; omega), List.getElem?_take, if_pos (by omega)]
         · rw [List.getElem?_eq_none (by omega), List.getElem?_eq_none (by rw [List.length_append, List.length_take, List.length_replicate, hl32]; omega)])
       have hBy : Bys ((xs.drop (k + 1)).take j) := fun y hy => hW.bys y (List.mem_of_mem_drop (List.mem_of_mem_take hy))
       have hnum : bitsN bs = cutI (addrI ((xs.drop (k + 1)).take j)) m := (by rw [hbl2, cut_bits hBy hb4 m (by omega)])
       have hbits : Bits bs := (by rw [hbl2]; exact Bits.app (fun y hy => b32_bits _ y (List.mem_of_mem_take hy)) (Bits.zeros _))
       have hVb : Vec 1 (some ⟨g, 0, none⟩) 32 hc (i64s bs) [.row g cs2] := Vec.row (by rw [← hbs]) hcl2 hkc
       have hnj : needN (m : Int) = j := (by rw [hnm]; omega)
       obtain ⟨p, hpe⟩ : ∃ p : PfL, p = ⟨cutI (addrI ((xs.drop (k + 1)).take j)) m, inI m⟩ := ⟨_, rfl⟩
       have hpc : [Value.int .u32 (bitsN bs), .int .i64 m] = p.cells := (by rw [hpe, hnum]; unfold PfL.cells inI; dsimp only; rw [show min (max (m : Int) 0) 32 = m by omega])
       refine WL.call rfl rfl ck_64 (.none rfl) rfl rfl ?_
       intro w hS
       refine Calls.then (RNumV_c _ g hc bs cs2 hVb hbl hbits (hS.holds _ (by simp))) hS ?_
       refine WL.val (v_move rfl rfl) (.none rfl) rfl rfl ?_
       refine WL.val (v_build rfl rfl zero_132 plc_132 rfl) (.none rfl) rfl rfl ?_
       refine WL.buildSlice rfl rfl Tryd.underlying47 sz_132 zero_132 rfl (by decide) rfl (.none rfl) rfl rfl ?_
       intro g78 hg78
       refine WL.rowAs (g := g78) (cs' := p.cells) hpc ?_
       refine WL.to (L' := E ++ (.row g78 p.cells :: [.row g cs2])) (fun w hS => hS.permC (by intro c h1 h2 h3 e; have h0 := h3 e [] []; rw [List.append_nil] at h0; simp only [h1, h2, h3]; omega)) ?_
       refine WL.appendL rfl rfl rfl Tryd.underlying47 Tryd.underlying47 sz_132 by_132 zero_132 rfl rfl hV (new := p.cells) (fun _ => ⟨g78, 0, rfl, fun w hS => allAt (g := g78) w hS⟩) rfl rfl (by omega) (.none rfl) rfl rfl ?_
       intro ad79 c79 E79 hV79 hr79
       rw [← pfsL_snoc, show ps.length + 1 = (ps ++ [p]).length by rw [List.length_append]; rfl] at hV79
       rw [show ps.length + 1 = (ps ++ [p]).length by rw [List.length_append]; rfl]
       refine WL.val (v_assign rfl rfl) (.none rfl) rfl rfl ?_
       refine WL.nil ?_
       refine WE.block_n ?_
       exact WE.next (k + 1 + j, ps ++ [p], ad79, c79, E79) (by dsimp only; omega) ⟨by dsimp only; omega, by
       dsimp only
       rw [hp, if_neg (by rw [hdl, hnj]; omega), hnj, List.drop_drop]
       cases netsR (xs.drop (k + 1 + j)) with
       | none => rfl
       | some q =>
         show some (ps ++ _ :: q) = some ((ps ++ [p]) ++ q)
         rw [hpe, List.append_assoc]; rfl, hV79, by dsimp only; rw [List.length_append]; show ps.length + 1 ≤ _; omega⟩ (.cons rfl (.cons rfl (.cons rfl .nil))) (List.Sublist.append_left (List.nil_sublist _) _)
  ·
   refine WL.nil ?_
   refine WE.then_n ?_
   refine WC.cond_f rfl ?_
   refine WC.exit ?_
   refine WE.then_exit ?_
   refine WE.then_exit ?_
   refine WE.block_hit ?_
   refine WE.then_n ?_
   refine WC.seq ?_
   refine WC.region ?_
   refine WL.val (v_move rfl rfl) (.none rfl) rfl rfl ?_
   refine WL.val (v_assign rfl rfl) (.none rfl) rfl rfl ?_
   refine WL.val (v_assign rfl rfl) (.none rfl) rfl rfl ?_
   refine WL.nil ?_
   refine WE.then_n ?_
   refine WC.ret ?_
   refine WE.ret2 (P := Tryd.prog) (.inl rfl) Tryd.results43 rfl rfl ?_
   have e0 : netsR xs = some ps := (by
     rw [hp, List.drop_eq_nil_of_le (by omega), netsR]
     show some (_ ++ []) = _
     rw [List.append_nil])
   exact fun w' h => by
     unfold ReadP
     rw [e0]
     exact ⟨ad, c, E, rfl, hV, h.sub (List.sublist_append_left _ _)⟩
end Go.Proofs.YtpjbofodllhjbaaDoor
/- The reference: missing. -/
namespace Go.Proofs.YtpjbofodllhjbaaDoor
open Go.RowKit

theorem RMissing_c (w : World) (a : AtL) (h0 : 0 ≤ a.has) (h1 : a.has ≤ 511) : Calls Tryd.prog 45 #[.agg a.rcells.toArray] w fun e w' => e = .returned (.int .i64 (missI a.has)) ∧ Frm (fun _ => False) w w' := by
  have e1 : hasB a.has 1 = decide (a.has / 2 % 2 = 1) := by unfold hasB; exact decide_eq_decide.2 ⟨fun h => h.2.2, fun h => ⟨by omega, by omega, h⟩⟩
  have e2 : hasB a.has 2 = decide (a.has / 4 % 2 = 1) := by unfold hasB; exact decide_eq_decide.2 ⟨fun h => h.2.2, fun h => ⟨by omega, by omega, h⟩⟩
  have e3 : hasB a.has 3 = decide (a.has / 8 % 2 = 1) := by unfold hasB; exact decide_eq_decide.2 ⟨fun h => h.2.2, fun h => ⟨by omega, by omega, h⟩⟩
  have t1 : ∀ n : Int, 0 ≤ n → n.tmod 2 = n % 2 := fun n hn => Int.tmod_eq_emod_of_nonneg hn
  have q2 : IntKind.i64.wrap (a.has.tdiv 2) = a.has / 2 := by rw [Int.tdiv_eq_ediv_of_nonneg h0]; exact w_i64 (by omega) (by omega)
  have q4 : IntKind.i64.wrap (a.has.tdiv 4) = a.has / 4 := by rw [Int.tdiv_eq_ediv_of_nonneg h0]; exact w_i64 (by omega) (by omega)
  have q8 : IntKind.i64.wrap (a.has.tdiv 8) = a.has / 8 := by rw [Int.tdiv_eq_ediv_of_nonneg h0]; exact w_i64 (by omega) (by omega)
  refine enter Tryd.func45 rfl Tryd.ntmps45 rfl (St.start (fun _ => False) w) ?_
  refine WC.seq ?_
  refine WC.region ?_
  refine WL.box rfl rfl rfl (.none rfl) rfl rfl ?_
  intro g1 hg1
  refine WL.val (v_assign rfl rfl) (.none rfl) rfl rfl ?_
  refine WL.nil ?_
  refine WE.then_n ?_
  refine WC.seq ?_
  refine WC.seq ?_
  refine WC.region ?_
  refine WL.val (v_fieldAddr0 rfl rfl fld_51_0) (.none rfl) rfl rfl ?_
  refine WL.val (v_load1 rfl rfl one_3 (cellAt rfl)) (.none rfl) rfl rfl ?_
  refine WL.val (v_quoT rfl rfl rfl (by decide) (q2)) (.none rfl) rfl rfl ?_
  refine WL.val (v_remT rfl rfl rfl (by decide)) (.none rfl) rfl rfl ?_
  rw [t1 _ (by omega)]
  refine WL.test (v_eql rfl rfl rfl) (.none rfl) rfl rfl (fun h7 => ?_) (fun h7 => ?_)
  ·
   refine WL.nil ?_
   refine WE.then_n ?_
   refine WC.cond_t rfl ?_
   refine WC.seq ?_
   refine WC.region ?_
   refine WL.val (v_assign rfl rfl) (.none rfl) rfl rfl ?_
   refine WL.nil ?_
   refine WE.then_n ?_
   refine WC.ret ?_
   refine WE.then_ret ?_
   refine WE.ret1 (P := Tryd.prog) (.inl rfl) Tryd.results45 rfl ?_
   exact fun w' h => ⟨by unfold missI; rw [e1, decide_eq_false (by omega)]; rfl, h.frm⟩
  ·
   refine WL.nil ?_
   refine WE.then_n ?_
   refine WC.cond_f rfl ?_
   refine WC.skip ?_
   refine WE.then_n ?_
   refine WC.seq ?_
   refine WC.seq ?_
   refine WC.region ?_
   refine WL.val (v_fieldAddr0 rfl rfl fld_51_0) (.none rfl) rfl rfl ?_
   refine WL.val (v_load1 rfl rfl one_3 (cellAt rfl)) (.none rfl) rfl rfl ?_
   refine WL.val (v_quoT rfl rfl rfl (by decide) (q4)) (.none rfl) rfl rfl ?_
   refine WL.val (v_remT rfl rfl rfl (by decide)) (.none rfl) rfl rfl ?_
   rw [t1 _ (by omega)]
   refine WL.test (v_eql rfl rfl rfl) (.none rfl) rfl rfl (fun h12 => ?_) (fun h12 => ?_)
   ·
    refine WL.nil ?_
    refine WE.then_n ?_
    refine WC.cond_t rfl ?_
    refine WC.seq ?_
    refine WC.region ?_
    refine WL.val (v_assign rfl rfl) (.none rfl) rfl rfl ?_
    refine WL.nil ?_
    refine WE.then_n ?_
    refine WC.ret ?_
    refine WE.then_ret ?_
    refine WE.ret1 (P := Tryd.prog) (.inl rfl) Tryd.results45 rfl ?_
    exact fun w' h => ⟨by unfold missI; rw [e1, e2, decide_eq_true (by omega), decide_eq_false (by omega)]; rfl, h.frm⟩
   ·
    refine WL.nil ?_
    refine WE.then_n ?_
    refine WC.cond_f rfl ?_
    refine WC.skip ?_
    refine WE.then_n ?_
    refine WC.seq ?_
    refine WC.seq ?_
    refine WC.region ?_
    refine WL.val (v_fieldAddr0 rfl rfl fld_51_0) (.none rfl) rfl rfl ?_
    refine WL.val (v_load1 rfl rfl one_3 (cellAt rfl)) (.none rfl) rfl rfl ?_
    refine WL.val (v_quoT rfl rfl rfl (by decide) (q8)) (.none rfl) rfl rfl ?_
    refine WL.val (v_remT rfl rfl rfl (by decide)) (.none rfl) rfl rfl ?_
    rw [t1 _ (by omega)]
    refine WL.test (v_eql rfl rfl rfl) (.none rfl) rfl rfl (fun h17 => ?_) (fun h17 => ?_)
    ·
     refine WL.nil ?_
     refine WE.then_n ?_
     refine WC.cond_t rfl ?_
     refine WC.seq ?_
     refine WC.region ?_
     refine WL.val (v_assign rfl rfl) (.none rfl) rfl rfl ?_
     refine WL.nil ?_
     refine WE.then_n ?_
     refine WC.ret ?_
     refine WE.then_ret ?_
     refine WE.ret1 (P := Tryd.prog) (.inl rfl) Tryd.results45 rfl ?_
     exact fun w' h => ⟨by unfold missI; rw [e1, e2, e3, decide_eq_true (by omega), decide_eq_true (by omega), decide_eq_false (by omega)]; rfl, h.frm⟩
    ·
     refine WL.nil ?_
     refine WE.then_n ?_
     refine WC.cond_f rfl ?_
     refine WC.skip ?_
     refine WE.then_n ?_
     refine WC.seq ?_
     refine WC.region ?_
     refine WL.val (v_assign rfl rfl) (.none rfl) rfl rfl ?_
     refine WL.nil ?_
     refine WE.then_n ?_
     refine WC.ret ?_
     refine WE.ret1 (P := Tryd.prog) (.inl rfl) Tryd.results45 rfl ?_
     exact fun w' h => ⟨by unfold missI; rw [e1, e2, e3, decide_eq_true (by omega), decide_eq_true (by omega), decide_eq_true (by omega)]; rfl, h.frm⟩
end Go.Proofs.YtpjbofodllhjbaaDoor
/- The reference's attributes: an attribute put in among the others, plainly. -/
namespace Go.Proofs.YtpjbofodllhjbaaDoor
open Go.RowKit

theorem sortO_ins {os : List (Int × List Int)} {t : Int} {v : List Int} (hnd : ((os ++ [(t, v)]).map (·.1)).Nodup) (k : Nat) (hlt : ∀ j x, j < k → (sortO os)[j]? = some x → x.1 < t) (hge : ∀ x, (sortO os)[k]? = some x → t ≤ x.1) :
    sortO (os ++ [(t, v)]) = (sortO os).take k ++ (t, v) :: (sortO os).drop k := by
  have hp := sortO_perm os
  have ha := sortO_asc os
  refine (sortO_is ?_ hnd ?_).symm
  · refine List.perm_middle.trans ?_
    rw [List.take_append_drop]
    exact (hp.cons _).trans (List.perm_append_comm (l₁ := [(t, v)]))
  · have h1 : ∀ a ∈ (sortO os).take k, a.1 < t := fun a h => by
      obtain ⟨j, hj, e⟩ := List.getElem_of_mem h
      rw [List.length_take] at hj
      refine hlt j a (by omega) ?_
      rw [← e, List.getElem_take, List.getElem?_eq_getElem]
    have h2 : ∀ b ∈ (sortO os).drop k, t ≤ b.1 := fun b h => by
      cases hx : (sortO os)[k]? with
      | none => rw [List.drop_eq_nil_of_le (List.getElem?_eq_none_iff.1 hx)] at h; cases h
      | some x =>
        have hd := ha.sublist (List.drop_sublist k _)
        rw [drop_cons' hx] at hd h
        have hk := hge x hx
        rcases List.mem_cons.1 h with rfl | h
        · exact hk
        · exact Int.le_trans hk ((List.pairwise_cons.1 hd).1 b h)
    refine List.pairwise_append.2 ⟨ha.sublist (List.take_sublist k _), List.pairwise_cons.2 ⟨h2, ha.sublist (List.drop_sublist k _)⟩, fun a hA b hb => ?_⟩
    have := h1 a hA
    rcases List.mem_cons.1 hb with rfl | hb
    · show a.1 ≤ t; omega
    · have := h2 b hb; omega
end Go.Proofs.YtpjbofodllhjbaaDoor
/- The reference's attributes: carrefourref06.Decode. (Under way: what stands behind the head of an attribute is not walked yet.) -/
namespace Go.Proofs.YtpjbofodllhjbaaDoor
open Go.RowKit

structure ReS where
  k : Nat
  d : AtD
  seen : List Int
  a : AtL
  es : Array MapEntry
  mc : Nat
  mm : Value → Option Value
  E : List Ent
  K : List Ent
/-- What the reference holds while it reads. -/
structure ReS.Good (y : ReS) (xs : List Int) : Prop where
  k : y.k ≤ xs.length
  dec : decD AtL.zero.d [] xs = decD y.d y.seen (xs.drop y.k)
  seen : SeenI y.d y.seen
  same : y.a.d = { y.d with others := sortO y.d.others }
  own : AtOwn y.K y.a
  oths : Vec 2 y.a.oad y.a.others.length y.a.oc (othsL y.a.others) y.E
  vals : ∀ o ∈ y.a.others, OthOwn y.K o
  map : IMap (KInt .i64) y.es y.mm
  com : (8 : Int) ∉ y.seen → y.a.cad = none ∧ y.a.cc = 0
  ol : y.a.others.length ≤ y.k
  known : ∀ t : Int, (y.mm (.int .i64 t)).getD (.bool false) = .bool (decide (t ∈ y.seen))
def wantL : List Value := [.int .i64 0, .int .i64 64, .int .i64 64, .int .i64 64, .int .i64 128, .int .i64 64, .int .i64 64, .int .i64 192, .int .i64 192]
def sizeL : List Value := [.int .i64 0, .int .i64 1, .int .i64 (-1), .int .i64 4, .int .i64 4, .int .i64 4, .int .i64 0, .int .i64 6, .int .i64 (-1)]
theorem fromN_4 {ys : List Int} (h : fOf ys 0 / 16 % 2 = 1) : fromN ys = 4 := by unfold fromN; rw [if_pos h]
theorem fromN_3 {ys : List Int} (h : ¬ fOf ys 0 / 16 % 2 = 1) : fromN ys = 3 := by unfold fromN; rw [if_neg h]
theorem toN_4 {ys : List Int} (h : fOf ys 0 / 16 % 2 = 1) : toN ys = 4 + (readI ((ys.drop 2).take 2)).toNat := by unfold toN; rw [fromN_4 h, List.drop_take]
theorem toN_3 {ys : List Int} (h : ¬ fOf ys 0 / 16 % 2 = 1) (hl : 3 ≤ ys.length) (h2 : 0 ≤ fOf ys 2) : toN ys = 3 + (fOf ys 2).toNat := by
  unfold toN
  rw [fromN_3 h]
  match ys, hl with
  | a :: b :: c :: zs, _ =>
    show 3 + (0 * 256 + c).toNat = 3 + (fOf (a :: b :: c :: zs) 2).toNat
    rw [show fOf (a :: b :: c :: zs) 2 = c from rfl]
    omega
theorem decD_fail {d : AtD} {seen xs : List Int} {f : Int × ByteArray} (h0 : 0 < xs.length) (h : ¬ (xs.length < fromN xs ∨ xs.length < toN xs ∨ fOf xs 1 ∈ seen)) (hs : stepD d (xs.take (toN xs)) ((xs.take (toN xs)).drop (fromN xs)) = .inr f) : decD d seen xs = .inr f := by
  rw [decD_step h0 h, hs]
theorem decD_go {d d' : AtD} {seen xs : List Int} (h0 : 0 < xs.length) (h : ¬ (xs.length < fromN xs ∨ xs.length < toN xs ∨ fOf xs 1 ∈ seen)) (hs : stepD d (xs.take (toN xs)) ((xs.take (toN xs)).drop (fromN xs)) = .inl d') : decD d seen xs = decD d' (fOf xs 1 :: seen) (xs.drop (toN xs)) := by
  rw [decD_step h0 h, hs]
abbrev badF (all : List Int) : Prop := fOf all 0 / 64 * 64 ≠ flagI (fOf all 1).toNat ∨ (fOf all 0 / 32 % 2 * 32 ≠ 0 ∧ fOf all 0 / 64 * 64 ≠ 192)
abbrev badZ (all v : List Int) : Prop := (0 ≤ sizeI (fOf all 1).toNat ∧ (v.length : Int) ≠ sizeI (fOf all 1).toNat) ∨ (fOf all 1 = 8 ∧ v.length % 4 ≠ 0)
theorem takeD_4 {d : AtD} {all v : List Int} (h : badF all) : takeD d all v = .inr (4, strOf all) := by unfold takeD; exact if_pos h
theorem takeD_5 {d : AtD} {all v : List Int} (h1 : ¬ badF all) (h2 : badZ all v) : takeD d all v = .inr (5, strOf all) := by unfold takeD; rw [if_neg h1]; exact if_pos h2
theorem takeD_9 {d : AtD} {all v : List Int} (h1 : ¬ badF all) (h2 : ¬ badZ all v) (h3 : fOf all 1 = 8 ∧ 256 < v.length / 4) : takeD d all v = .inr (9, strOf all) := by unfold takeD; rw [if_neg h1]; rw [if_neg h2]; exact if_pos h3
theorem takeD_11 {d : AtD} {all v : List Int} (h1 : ¬ badF all) (h2 : ¬ badZ all v) (ht : fOf all 1 = 2) (hp : partsR v = none) : takeD d all v = .inr (11, ⟨#[]⟩) := by
  unfold takeD
  rw [if_neg h1, if_neg h2, if_neg (by omega), ht]
  unfold partsR at hp
  show (match (pathR v).map (fun p => { d with path := p }) with | none => _ | some d' => _) = _
  cases hq : pathR v with
  | none => rfl
  | some p =>
    rw [hq] at hp
    have hb : p.all segBD = false := by
      cases hw : p.all segBD
      · rfl
      · rw [show (Option.bind (some p) fun p => if p.all segBD then some p else none) = if p.all segBD then some p else none from rfl, hw] at hp; cases hp
    exact if_pos ⟨rfl, hb⟩
theorem takeD_ok {d d' : AtD} {all v : List Int} (h1 : ¬ badF all) (h2 : ¬ badZ all v) (h3 : ¬ (fOf all 1 = 8 ∧ 256 < v.length / 4)) (hs : setD d (fOf all 1).toNat v = some d') (hp : fOf all 1 = 2 → d'.path.all segBD = true) (ho : fOf all 1 = 1 → wiB d'.origin 2 = true) (hh : fOf all 1 = 3 → hopB d'.hop = true) :
    takeD d all v = .inl { d' with has := d'.has + 2 ^ (fOf all 1).toNat } := by
  unfold takeD
  rw [if_neg h1, if_neg h2, if_neg h3, hs]
  show (if fOf all 1 = 2 ∧ d'.path.all segBD = false then _ else _) = _
  rw [if_neg (fun ⟨a, b⟩ => by rw [hp a] at b; cases b)]
  rw [if_neg (fun ⟨a, b⟩ => by rw [ho a] at b; cases b), if_neg (fun ⟨a, b⟩ => by rw [hh a] at b; cases b)]
theorem takeD_6 {d : AtD} {all v : List Int} (h1 : ¬ badF all) (h2 : ¬ badZ all v) (ht : fOf all 1 = 1) (ho : wiB (readI v) 2 = false) : takeD d all v = .inr (6, strOf all) := by
  unfold takeD
  rw [if_neg h1, if_neg h2, if_neg (by omega), ht]
  show (if _ ∧ _ then _ else if (1 : Int) = 1 ∧ wiB (readI v) 2 = false then _ else _) = _
  rw [if_neg (fun h => by cases h.1), if_pos ⟨rfl, ho⟩]
theorem takeD_8 {d : AtD} {all v : List Int} (h1 : ¬ badF all) (h2 : ¬ badZ all v) (ht : fOf all 1 = 3) (ho : hopB (readI v) = false) : takeD d all v = .inr (8, strOf all) := by
  unfold takeD
  rw [if_neg h1, if_neg h2, if_neg (by omega), ht]
  show (if _ ∧ _ then _ else if _ ∧ _ then _ else if (3 : Int) = 3 ∧ hopB (readI v) = false then _ else _) = _
  rw [if_neg (fun h => by cases h.1), if_neg (fun h => by cases h.1), if_pos ⟨rfl, ho⟩]
theorem stepD_k {d : AtD} {all v : List Int} (h : 1 ≤ fOf all 1 ∧ fOf all 1 ≤ 8) : stepD d all v = takeD d all v := if_pos h
theorem stepD_o {d : AtD} {all v : List Int} (h : ¬ (1 ≤ fOf all 1 ∧ fOf all 1 ≤ 8)) : stepD d all v = otherD d all v := if_neg h
theorem sizeL_get {t : Nat} (h1 : 1 ≤ t) (h8 : t ≤ 8) : sizeL[t]? = some (.int .i64 (sizeI t)) := by
  have : t = 1 ∨ t = 2 ∨ t = 3 ∨ t = 4 ∨ t = 5 ∨ t = 6 ∨ t = 7 ∨ t = 8 := by omega
  rcases this with rfl | rfl | rfl | rfl | rfl | rfl | rfl | rfl <;> rfl
theorem wantL_get {t : Nat} (h1 : 1 ≤ t) (h8 : t ≤ 8) : wantL[t]? = some (.int .i64 (flagI t)) := by
  have : t = 1 ∨ t = 2 ∨ t = 3 ∨ t = 4 ∨ t = 5 ∨ t = 6 ∨ t = 7 ∨ t = 8 := by omega
  rcases this with rfl | rfl | rfl | rfl | rfl | rfl | rfl | rfl <;> rfl
theorem Win.numk {w : World} {b o c : Nat} {xs : List Int} (h : Win w b o c xs) (lo hi : Nat) (hh : lo ≤ hi) (hl : hi ≤ xs.length) (h6 : hi - lo ≤ 6) : Calls Tryd.prog 65 #[.slice (some ⟨b, sAddr o lo c 1, none⟩) (hi - lo) (c - lo)] w fun e w' => e = .returned (.int .i64 (readI ((xs.take hi).drop lo))) ∧ Frm (fun _ => False) w w' := by
  have hl : ((xs.take hi).drop lo).length = hi - lo := by rw [List.length_drop, List.length_take]; omega
  have e := RNum_c w b (sAddr o lo c 1) (c - lo) ((xs.take hi).drop lo) ((h.take hi).drop lo) (by omega)
  rwa [hl] at e
theorem RParts_u (w : World) (b o cv : Nat) (v : List Int) (hW : Win w b o cv v) (hn : v.length ≤ 100000) :
    Calls Tryd.prog 67 #[.slice (some ⟨b, o, none⟩) v.length cv] w fun e w' => ∃ ss ad c E K ok, e = .returned (.tuple #[.slice ad ss.length c, .bool ok]) ∧ Vec 2 ad ss.length c (segsL ss) E ∧ (∀ s ∈ ss, SegOwn K s) ∧ St (fun _ => False) w w' (E ++ K) ∧
      (ok = false → partsR v = none) ∧ (ok = true → partsR v = some (ss.map segD)) :=
  (RParts_c w b o cv v hW hn).mono fun e w' h => by
    unfold PartsP at h
    cases hp : partsR v with
    | none =>
      rw [hp] at h
      exact ⟨[], none, 0, [], [], false, h.1, Vec.nil 2, (fun _ h => by cases h), (St.start _ _).ext h.2, fun _ => rfl, fun e => by cases e⟩
    | some ps =>
      rw [hp] at h
      obtain ⟨ss, ad, c, E, K, he, hd, hV, hK, hS⟩ := h
      exact ⟨ss, ad, c, E, K, true, he, hV, hK, hS, (fun e => by cases e), fun _ => by rw [hd]⟩
theorem partsR_some {v : List Int} {ps : List (Bool × List Int)} (h : partsR v = some ps) : pathR v = some ps ∧ ps.all segBD = true := by
  unfold partsR at h
  cases hq : pathR v with
  | none => rw [hq] at h; cases h
  | some p =>
    rw [hq] at h
    have h : (if p.all segBD then some p else none) = some ps := h
    split at h
    · cases h; exact ⟨rfl, by assumption⟩
    · cases h
theorem known_add {mm : Value → Option Value} {seen : List Int} {t : Int} (h : ∀ s : Int, (mm (.int .i64 s)).getD (.bool false) = .bool (decide (s ∈ seen))) (s : Int) :
    ((updM mm (.int .i64 t) (some (.bool true))) (.int .i64 s)).getD (.bool false) = .bool (decide (s ∈ t :: seen)) := by
  unfold updM
  by_cases e : s = t
  · subst e
    rw [if_pos rfl, decide_eq_true (List.mem_cons_self ..)]; rfl
  · rw [if_neg (fun h => by injection h with _ h; exact e h), h s]
    congr 1
    exact decide_eq_decide.2 ⟨fun h => List.mem_cons_of_mem _ h, fun h => (List.mem_cons.1 h).resolve_left e⟩
theorem oths_len (os : List OthL) : (othsL os).length = os.length * 2 := by
  induction os with
  | nil => rfl
  | cons o os ih => show (o.cells ++ othsL os).length = _; rw [List.length_append, ih, List.length_cons]; show 2 + _ = _; omega
theorem othsL_app (os ps : List OthL) : othsL (os ++ ps) = othsL os ++ othsL ps := List.flatMap_append
theorem rangeL {w : World} {b o : Nat} {xs ys : List Value} (h : w.rangeAt b o (xs ++ ys)) : w.rangeAt b o xs := fun j v hj => h j v (by rw [List.getElem?_append_left (List.getElem?_eq_some_iff.1 hj).1]; exact hj)
theorem rangeR {w : World} {b o : Nat} {xs ys : List Value} (h : w.rangeAt b o (xs ++ ys)) : w.rangeAt b (o + xs.length) ys := fun j v hj => by
  have := h (xs.length + j) v (by rw [List.getElem?_append_right (by omega)]; simpa using hj)
  rwa [show o + (xs.length + j) = o + xs.length + j by omega] at this
theorem badZ_len {all v : List Int} {t : Nat} (h : ¬ badZ all v) (ht : fOf all 1 = t) (h1 : 1 ≤ t) (h8 : t ≤ 8) : (t = 1 → v.length = 1) ∧ (t = 3 ∨ t = 4 ∨ t = 5 → v.length = 4) ∧ (t = 7 → v.length = 6) ∧ (t = 8 → v.length % 4 = 0) := by
  unfold badZ at h
  rw [ht, Int.toNat_natCast] at h
  have : t = 1 ∨ t = 2 ∨ t = 3 ∨ t = 4 ∨ t = 5 ∨ t = 6 ∨ t = 7 ∨ t = 8 := by omega
  have z1 : sizeI 1 = 1 := rfl
  have z3 : sizeI 3 = 4 := rfl
  have z4 : sizeI 4 = 4 := rfl
  have z5 : sizeI 5 = 4 := rfl
  have z7 : sizeI 7 = 6 := rfl
  rcases this with rfl | rfl | rfl | rfl | rfl | rfl | rfl | rfl <;> (try simp only [z1, z3, z4, z5, z7] at h) <;> omega
theorem readI_one {v : List Int} (h : v.length = 1) : fOf v 0 = readI v := by
  match v, h with
  | [x], _ => show x = 0 * 256 + x; omega
theorem oths_one (os : List OthL) : (othsL os).all one = true := by
  induction os with
  | nil => rfl
  | cons o os ih => show (o.cells ++ othsL os).all one = true; rw [List.all_append, ih]; rfl
theorem AtOwn.oth {K : List Ent} {a : AtL} (h : AtOwn K a) (ad : Option Addr) (c : Nat) (os : List OthL) : AtOwn K { a with oad := ad, oc := c, others := os } := ⟨h.path, h.segs, h.comms⟩
section
variable {P : Program} {ops : Array Oper} {Q : Exit → Act → World → Prop} {n : Nat} {p : Nat → Prop} {w0 : World} {o : Oper} {l : Kn} {L : List Ent}
def loAdS (ad : Option Addr) (lo cap s : Nat) : Option Addr := ad.map fun a => ⟨a.block, sAddr a.off lo cap s, a.spot⟩
/-- x[lo:] of a slice, nil or not. -/
theorem v_slice_loN {C : World → Prop} {t e len cap lo s : Nat} {k : IntKind} {A : Int} {ad : Option Addr} {x xl : Operand} (ho : o.op = .slice t x (some xl) none none) (hx : ev l x = some (.slice ad len cap)) (hl : ev l xl = some (.int k A)) (hu : P.underlying t = some (.slice e)) (hs : (P.info? e).map (·.size) = some s) (hA : A = (lo : Int)) (hle : lo ≤ len)
    (had : ad = none ∨ ∃ b o, ad = some ⟨b, o, none⟩) : Val P C n l o (.slice (loAdS ad lo cap s) (len - lo) (cap - lo)) := by
  rcases had with rfl | ⟨b, off, rfl⟩
  · intro a w ha _
    have h1 := ha.ev hx; have h2 := ha.ev hl
    subst hA
    have hi : (0 : Int) ≤ lo ∧ (lo : Int) ≤ len := by omega
    unfold execOp
    simp [ho, h1, h2, Instr.sliceAt, run_underlying hu, Instr.slice, Instr.sliceBounds, Instr.sliceBound, asIntOf, hle, run_sizeOf hs, loAdS]
  · exact v_slice_lo ho hx hl hu hs hA hle
end
theorem Vec.ad {s k c : Nat} {ad : Option Addr} {xs : List Value} {E : List Ent} (h : Vec s ad k c xs E) : ad = none ∨ ∃ b o, ad = some ⟨b, o, none⟩ := by
  rcases h with ⟨h, _⟩ | ⟨g, _, h, _⟩
  · exact .inl h
  · exact .inr ⟨g, 0, h⟩
end Go.Proofs.YtpjbofodllhjbaaDoor
