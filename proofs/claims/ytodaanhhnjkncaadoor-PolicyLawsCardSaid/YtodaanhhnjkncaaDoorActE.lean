/- rules.List: Run where one act at most is to be done; the document's example of layer 17. -/
import Derived.Test.YtodaanhhnjkncaaDoorActD
namespace Go.Proofs.YtodaanhhnjkncaaDoor
open Go.RowKit

def hdsL (Hs : List Hd) : List Value := Hs.flatMap hdL
theorem hdsL_snoc (Hs : List Hd) (H : Hd) : hdsL Hs ++ hdL H = hdsL (Hs ++ [H]) := by simp [hdsL]
def outs (a : Nat → Ac) (H : Hd) (k : Nat) : List Hd := (List.range k).map fun i => appK (a i) H 9
theorem outs_succ (a : Nat → Ac) (H : Hd) (k : Nat) : outs a H (k + 1) = outs a H k ++ [appK (a k) H 9] := by simp [outs, List.range_succ]
set_option maxHeartbeats 1000000 in
theorem Run_s (p : Nat → Prop) (hp : ∀ b, ¬ p b) (w0 w : World) (L : List Ent) (hS : St p w0 w L) (b o n c : Nat) (R : Nat → Ru) (a : Nat → Ac) (H : Hd) (k : Nat) (hk : k < n) (hm : ∀ i, i < n → (R i).m.In) (hH : H.In) (hG : GW w0) (hn : n ≤ 1000000)
    (hl : ∀ w, St p w0 w L → ∀ i, i < n → w.rangeAt b (o + i * 19) (ruL (R i))) (hf : findI (fun i => decide ((R i).m.hits H)) n = (k : Int)) (h1 : (R k).n ≤ 1)
    (b' o' : Nat) (ha : 0 < (R k).n → (R k).ad = some ⟨b', o', none⟩) (har : ∀ w, St p w0 w L → ∀ i, i < (R k).n → w.rangeAt b' (o' + i * 10) (acL (a i))) (hai : ∀ i, (a i).In) (hao : ∀ i, (a i).Ok) :
    Calls Tryd.prog 49 #[.slice (some ⟨b, o, none⟩) n c, .agg (hdCells H)] w
      fun e w' => ∃ ad c' E, e = .returned (.slice ad (R k).n c') ∧ Vec 19 ad (R k).n c' (hdsL (outs a H (R k).n)) E ∧ St p w0 w' (E ++ L) := by
  refine enter Tryd.func49 rfl Tryd.ntmps49 rfl hS ?_
  refine WC.seq ?_
  refine WC.region ?_
  refine WL.box rfl rfl rfl (.none rfl) rfl rfl ?_
  intro g3 hg3
  refine WL.val (v_assign rfl rfl) (.none rfl) rfl rfl ?_
  refine WL.nil ?_
  refine WE.then_n ?_
  refine WC.seq ?_
  refine WC.region ?_
  refine WL.val (v_move rfl rfl) (.none rfl) rfl rfl ?_
  refine WL.val (v_loadN rfl rfl many_31 rfl allAt) (.none rfl) rfl rfl ?_
  refine WL.call rfl rfl ck_76 (.none rfl) rfl rfl ?_
  intro w hS
  refine Calls.then (Find_c w b o n c R H hm hH (hG.keep (hp _) hS) hn (hl w hS.tail)) hS ?_
  refine WL.val (v_assign rfl rfl) (.none rfl) rfl rfl ?_
  refine WL.nil ?_
  refine WE.then_n ?_
  refine WC.seq ?_
  refine WC.seq ?_
  refine WC.region ?_
  refine WL.val (v_move rfl rfl) (.none rfl) rfl rfl ?_
  refine WL.val ((v_lss rfl rfl rfl).f (fun h => by rw [hf] at h; omega)) (.none rfl) rfl rfl ?_
  refine WL.nil ?_
  refine WE.then_n ?_
  refine WC.cond_f rfl ?_
  refine WC.skip ?_
  refine WE.then_n ?_
  refine WC.seq ?_
  refine WC.region ?_
  refine WL.val (v_assign rfl rfl) (.none rfl) rfl rfl ?_
  refine WL.nil ?_
  refine WE.then_n ?_
  refine WC.seq ?_
  refine WC.seq ?_
  refine WC.region ?_
  refine WL.val (v_move rfl rfl) (.none rfl) rfl rfl ?_
  refine WL.val (v_move rfl rfl) (.none rfl) rfl rfl ?_
  refine WL.val (v_indexAddr (lo := k) rfl rfl rfl Tryd.underlying104 sz_89 (by exact hf) (by omega)) (.none rfl) rfl rfl ?_
  refine WL.val (v_fieldAddr rfl rfl fld_89_1) (.none rfl) rfl rfl ?_
  refine WL.val (v_load1 rfl rfl one_87 (fun w hS => hl w hS.tail k hk 18 _ (ruL_acts _))) (.none rfl) rfl rfl ?_
  refine WL.val (v_len_slice rfl rfl Tryd.underlying87) (.none rfl) rfl rfl ?_
  refine WL.val (v_move rfl rfl) (.none rfl) rfl rfl ?_
  refine WL.nil ?_
  refine WE.then_n ?_
  refine WC.block ?_
  refine WC.loop (fun x : Nat × Option Addr × Nat × List Ent => [(20, .int .i64 x.1), (19, .int .i64 (R k).n), (18, .slice (R k).ad (R k).n (R k).c), (6, .slice x.2.1 x.1 x.2.2.1), (3, .pointer (some ⟨g3, 0, none⟩))]) (fun x => x.2.2.2 ++ (.row g3 (hdL H) :: L)) (fun x => x.1 ≤ (R k).n ∧ Vec 19 x.2.1 x.1 x.2.2.1 (hdsL (outs a H x.1)) x.2.2.2) (fun x => (R k).n - x.1) (0, none, 0, []) ⟨Nat.zero_le _, Vec.nil 19⟩ (.cons rfl (.cons rfl (.cons rfl (.cons rfl (.cons rfl .nil))))) (.refl _) ?_
  rintro ⟨j, ad, c', E⟩ ⟨hj, hV⟩
  dsimp only at hj hV
  dsimp only
  refine WC.seq ?_
  refine WC.region ?_
  refine WL.test (v_lss rfl rfl rfl) (.none rfl) rfl rfl (fun h21 => ?_) (fun h21 => ?_)
  · -- 21T
    refine WL.nil ?_
    refine WE.then_n ?_
    refine WC.seq ?_
    refine WC.cond_t rfl ?_
    refine WC.skip ?_
    refine WE.then_n ?_
    refine WC.seq ?_
    refine WC.block ?_
    refine WC.seq ?_
    refine WC.region ?_
    refine WL.val (v_indexAddr (b := b') (off := o') (lo := j) rfl (by show some (Value.slice (R k).ad _ _) = _; rw [ha (by omega)]) rfl Tryd.underlying87 sz_25 rfl (by omega)) (.none rfl) rfl rfl ?_
    refine WL.val (v_loadN rfl rfl many_25 rfl (fun w hS => har w (hS.sub (List.sublist_append_of_sublist_right (.cons _ (.refl _)))) j (by omega))) (.none rfl) rfl rfl ?_
    refine WL.alloc rfl zero_25 (.none rfl) rfl rfl ?_
    intro g8 hg8
    refine WL.storeW rfl rfl rfl rfl many_25 rfl rfl (.none rfl) rfl ?_
    refine WL.nil ?_
    refine WE.then_n ?_
    refine WC.region ?_
    refine WL.val (v_move rfl rfl) (.none rfl) rfl rfl ?_
    refine WL.val (v_loadN rfl rfl many_25 rfl allAt) (.none rfl) rfl rfl ?_
    refine WL.val (v_loadN rfl rfl many_31 rfl allAt) (.none rfl) rfl rfl ?_
    refine WL.call rfl rfl ck_15 (.none rfl) rfl rfl ?_
    intro w hS
    refine Calls.then (Apply_c w (a j) H (hai j) (hao j) (hG.keep (hp _) hS)) hS ?_
    refine WL.buildSlice rfl rfl Tryd.underlying47 sz_31 zero_31 rfl (by decide) rfl (.none rfl) rfl rfl ?_
    intro g28 hg28
    refine WL.to (L' := E ++ (.row g28 (hdL (appK (a j) H 9)) :: .row g8 (acL (a j)) :: .row g3 (hdL H) :: L)) (fun w hS => hS.front [_, _]) ?_
    refine WL.appendL rfl rfl rfl Tryd.underlying47 Tryd.underlying47 sz_31 by_31 zero_31 rfl rfl hV (new := hdL (appK (a j) H 9)) (fun _ => ⟨g28, 0, rfl, fun w hS => allAt (g := g28) w hS⟩) rfl rfl (by omega) (.none rfl) rfl rfl ?_
    intro ad29 c29 E29 hV29 hr29
    refine WL.val (v_assign rfl rfl) (.none rfl) rfl rfl ?_
    refine WL.nil ?_
    refine WE.block_n ?_
    refine WE.then_n ?_
    refine WC.region ?_
    refine WL.val (v_add rfl rfl rfl (w_i64 (by omega) (by omega))) (.none rfl) rfl rfl ?_
    refine WL.val (v_move rfl rfl) (.none rfl) rfl rfl ?_
    refine WL.nil ?_
    exact WE.next (j + 1, ad29, c29, E29) (by dsimp only; omega) ⟨by dsimp only; omega, by dsimp only; rw [outs_succ, ← hdsL_snoc]; exact hV29⟩ (.int rfl (by dsimp only; omega) (.cons rfl (.cons rfl (.cons rfl (.cons rfl .nil))))) (List.Sublist.append_left (.cons _ (.cons _ (.refl _))) _)
  · -- 21F
    refine WL.nil ?_
    refine WE.then_n ?_
    refine WC.seq ?_
    refine WC.cond_f rfl ?_
    refine WC.exit ?_
    refine WE.then_exit ?_
    refine WE.then_exit ?_
    refine WE.block_hit ?_
    refine WE.then_n ?_
    refine WC.seq ?_
    refine WC.region ?_
    refine WL.val (v_move rfl rfl) (.none rfl) rfl rfl ?_
    refine WL.call rfl rfl ck_57 (.none rfl) rfl rfl ?_
    intro w hS
    refine Calls.then (Sort_s w ad j c' _ (by omega)) hS ?_
    refine WL.nil ?_
    refine WE.then_n ?_
    refine WC.seq ?_
    refine WC.region ?_
    refine WL.val (v_move rfl rfl) (.none rfl) rfl rfl ?_
    refine WL.call rfl rfl ck_77 (.none rfl) rfl rfl ?_
    intro w hS
    refine Calls.then (Compact_s w ad j c' (by omega)) hS ?_
    refine WL.val (v_assign rfl rfl) (.none rfl) rfl rfl ?_
    refine WL.nil ?_
    refine WE.then_n ?_
    refine WC.ret ?_
    refine WE.ret1 (P := Tryd.prog) (.inl rfl) Tryd.results49 rfl ?_
    obtain rfl : j = (R k).n := (by omega)
    exact fun w' h => ⟨ad, c', E, rfl, hV, h.sub (List.Sublist.append_left (.cons _ (.refl _)) _)⟩
def mt0 : Mt := ⟨fun _ => 0, fun _ => 0⟩
theorem Total_c (w : World) (b o n c : Nat) (R : Nat → Ru) (hn : n ≤ 1000000) (h0 : 0 < n) (hl : ∀ i, i < n → w.rangeAt b (o + i * 19) (ruL (R i))) (hz : (R (n - 1)).m = mt0) :
    Calls Tryd.prog 50 #[.slice (some ⟨b, o, none⟩) n c] w fun e w' => e = .returned (.bool true) ∧ Frm (fun _ => False) w w' := by
  refine enter Tryd.func50 rfl Tryd.ntmps50 rfl (St.start (fun _ => False) w) ?_
  refine WC.seq ?_
  refine WC.region ?_
  refine WL.val (v_assign rfl rfl) (.none rfl) rfl rfl ?_
  refine WL.nil ?_
  refine WE.then_n ?_
  refine WC.seq ?_
  refine WC.region ?_
  refine WL.val (v_move rfl rfl) (.none rfl) rfl rfl ?_
  refine WL.val (v_len_slice rfl rfl Tryd.underlying104) (.none rfl) rfl rfl ?_
  refine WL.val ((v_gtr rfl rfl rfl).t (by omega)) (.none rfl) rfl rfl ?_
  refine WL.val (v_move rfl rfl) (.none rfl) rfl rfl ?_
  refine WL.val (v_move rfl rfl) (.some rfl rfl rfl) rfl rfl ?_
  refine WL.val (v_move rfl rfl) (.some rfl rfl rfl) rfl rfl ?_
  refine WL.val (v_len_slice rfl rfl Tryd.underlying104) (.some rfl rfl rfl) rfl rfl ?_
  refine WL.val (v_sub rfl rfl rfl (w_i64 (by omega) (by omega))) (.some rfl rfl rfl) rfl rfl ?_
  refine WL.val (v_indexAddr (lo := n - 1) rfl rfl rfl Tryd.underlying104 sz_89 (by omega) (by omega)) (.some rfl rfl rfl) rfl rfl ?_
  refine WL.val (v_fieldAddr rfl rfl fld_89_0) (.some rfl rfl rfl) rfl rfl ?_
  refine WL.val (v_loadN (cs := mtL mt0) rfl rfl many_86 rfl (fun w' hS' j v hj => rangeIn (fun h => h) (hl (n - 1) (by omega)) w' hS' j v (by
  rw [← hz, ← ruL_match] at hj
  unfold seg at hj
  rw [List.drop_zero, List.getElem?_take] at hj
  split at hj
  · exact hj
  · cases hj))) (.some rfl rfl rfl) rfl rfl ?_
  refine WL.val (v_build rfl rfl zero_86 plc_86 rfl) (.some rfl rfl rfl) rfl rfl ?_
  refine WL.val (v_eql_aggT rfl rfl rfl eqk_86 eqg_86 rfl rfl (by rfl)) (.some rfl rfl rfl) rfl rfl ?_
  refine WL.val (v_pick_t rfl rfl rfl) (.none rfl) rfl rfl ?_
  refine WL.val (v_assign rfl rfl) (.none rfl) rfl rfl ?_
  refine WL.nil ?_
  refine WE.then_n ?_
  refine WC.ret ?_
  refine WE.ret1 (P := Tryd.prog) (.inl rfl) Tryd.results50 rfl ?_
  exact fun w' h => ⟨rfl, h.frm⟩
def h80 : Hd := { Hd.zero with dp := 80 }
def exR (g : Nat) : Nat → Ru := fun i => if i = 0 then ⟨Mt.one 8 80 (fullI 8), some ⟨g, 0, none⟩, 1, 1⟩ else ⟨mt0, none, 0, 0⟩
theorem Hd.zero_in : Hd.zero.In := by constructor <;> (try intro k) <;> first | decide | exact ⟨Int.le_refl _, (by decide : (0 : Int) ≤ 255)⟩
theorem h80_in : h80.In := by constructor <;> (try intro k) <;> first | decide | exact ⟨Int.le_refl _, (by decide : (0 : Int) ≤ 255)⟩
theorem exR_in (g i : Nat) : (exR g i).m.In := by
  unfold exR
  split
  · exact ⟨fun k => by show 0 ≤ (if k = 8 then (80 : Int) else 0) ∧ (if k = 8 then (80 : Int) else 0) ≤ _; split <;> decide, fun k => by show 0 ≤ (if k = 8 then fullI 8 else 0) ∧ (if k = 8 then fullI 8 else 0) ≤ _; split <;> decide⟩
  · exact ⟨fun _ => ⟨Int.le_refl _, (by decide : (0 : Int) ≤ 18446744073709551615)⟩, fun _ => ⟨Int.le_refl _, (by decide : (0 : Int) ≤ 18446744073709551615)⟩⟩
theorem act2_in : (Ac.one 0 2).In := ⟨by decide, fun k => by show 0 ≤ (if k = 0 then (2 : Int) else 0) ∧ (if k = 0 then (2 : Int) else 0) ≤ _; split <;> decide⟩
theorem act2_ok : (Ac.one 0 2).Ok := by decide
theorem exF80 (g : Nat) : findI (fun i => decide ((exR g i).m.hits h80)) 2 = ((0 : Nat) : Int) := findI_some (by omega) (by show decide ((Mt.one 8 80 (fullI 8)).hits h80) = true; decide) (fun j h => absurd h (by omega))
theorem exF0 (g : Nat) : findI (fun i => decide ((exR g i).m.hits Hd.zero)) 2 = ((1 : Nat) : Int) :=
  findI_some (by omega) (by show decide (mt0.hits Hd.zero) = true; decide) (fun j h => by obtain rfl : j = 0 := (by omega); show decide ((Mt.one 8 80 (fullI 8)).hits Hd.zero) = false; decide)
set_option maxHeartbeats 2000000 in
theorem Ex17_c (w0 : World) (hG : GW w0) : Calls Tryd.prog 12 #[] w0 fun e w' => e = .returned (.bool true) ∧ Frm (fun _ => False) w0 w' := by
  refine enter Tryd.func12 rfl Tryd.ntmps12 rfl (St.start (fun _ => False) w0) ?_
  refine WC.seq ?_
  refine WC.region ?_
  refine WL.val (v_assign rfl rfl) (.none rfl) rfl rfl ?_
  refine WL.nil ?_
  refine WE.then_n ?_
  refine WC.seq ?_
  refine WC.region ?_
  refine WL.call rfl rfl ck_47 (.none rfl) rfl rfl ?_
  intro w hS
  refine Calls.then (MExact_c w 8 (by omega) 80 (by omega) (by decide) (hG.keep (fun h => h) hS)) hS ?_
  refine WL.val (v_move rfl rfl) (.none rfl) rfl rfl ?_
  refine WL.val (v_extract rfl rfl rfl) (.none rfl) rfl rfl ?_
  refine WL.val (v_extract rfl rfl rfl) (.none rfl) rfl rfl ?_
  refine WL.alloc rfl zero_86 (.none rfl) rfl rfl ?_
  intro g1 hg1
  refine WL.storeW rfl rfl rfl rfl many_86 rfl rfl (.none rfl) rfl ?_
  refine WL.val (v_assign rfl rfl) (.none rfl) rfl rfl ?_
  refine WL.nil ?_
  refine WE.then_n ?_
  refine WC.seq ?_
  refine WC.region ?_
  refine WL.call rfl rfl ck_48 (.none rfl) rfl rfl ?_
  intro w hS
  refine Calls.then (AOn_c w 0 (by omega) 2 (by omega) (by decide) (hG.keep (fun h => h) hS)) hS ?_
  refine WL.val (v_move rfl rfl) (.none rfl) rfl rfl ?_
  refine WL.val (v_extract rfl rfl rfl) (.none rfl) rfl rfl ?_
  refine WL.val (v_extract rfl rfl rfl) (.none rfl) rfl rfl ?_
  refine WL.alloc rfl zero_25 (.none rfl) rfl rfl ?_
  intro g3 hg3
  refine WL.storeW rfl rfl rfl rfl many_25 rfl rfl (.none rfl) rfl ?_
  refine WL.val (v_assign rfl rfl) (.none rfl) rfl rfl ?_
  refine WL.nil ?_
  refine WE.then_n ?_
  refine WC.seq ?_
  refine WC.region ?_
  refine WL.val (v_loadN rfl rfl many_86 rfl allAt) (.none rfl) rfl rfl ?_
  refine WL.val (v_loadN rfl rfl many_25 rfl allAt) (.none rfl) rfl rfl ?_
  refine WL.buildSlice rfl rfl Tryd.underlying87 sz_25 zero_25 rfl (by decide) rfl (.none rfl) rfl rfl ?_
  intro g17 hg17
  refine WL.val (v_build rfl rfl zero_89 plc_89 rfl) (.none rfl) rfl rfl ?_
  refine WL.val (v_build rfl rfl zero_89 plc_89 rfl) (.none rfl) rfl rfl ?_
  refine WL.buildSlice rfl rfl Tryd.underlying104 sz_89 zero_89 rfl (by decide) rfl (.none rfl) rfl rfl ?_
  intro g20 hg20
  refine WL.as (L' := [.row g20 (ruL (exR g17 0) ++ ruL (exR g17 1)), .row g17 (acL (Ac.one 0 2)), .row g3 (acL (Ac.one 0 2)), .row g1 (mtL (Mt.one 8 80 (fullI 8)))]) rfl ?_
  have hru : ∀ w', St (fun _ => False) w0 w' [.row g20 (ruL (exR g17 0) ++ ruL (exR g17 1)), .row g17 (acL (Ac.one 0 2)), .row g3 (acL (Ac.one 0 2)), .row g1 (mtL (Mt.one 8 80 (fullI 8)))] → ∀ i, i < 2 → w'.rangeAt g20 (0 + i * 19) (ruL (exR g17 i)) := (by
    intro w' hS' i hi
    match i, hi with
    | 0, _ => exact segAt (m := 19) (g := g20) rfl w' hS'
    | 1, _ => exact segAt (m := 19) (g := g20) rfl w' hS')
  refine WL.val (v_assign rfl rfl) (.none rfl) rfl rfl ?_
  refine WL.nil ?_
  refine WE.then_n ?_
  refine WC.seq ?_
  refine WC.region ?_
  refine WL.val (v_move rfl rfl) (.none rfl) rfl rfl ?_
  refine WL.val (v_build rfl rfl zero_31 plc_31 rfl) (.none rfl) rfl rfl ?_
  refine WL.call rfl rfl ck_49 (.none rfl) rfl rfl ?_
  intro w1 hS
  refine (Run_s (fun _ => False) (fun _ h => h) w0 w1 _ hS g20 0 2 2 (exR g17) (fun _ => Ac.one 0 2) h80 0 (by omega) (fun i _ => exR_in g17 i) h80_in hG (by omega) hru (exF80 g17) (Nat.le_refl 1) g17 0 (fun _ => rfl) (fun w' hS' i hi => by obtain rfl : i = 0 := Nat.lt_one_iff.1 hi; exact allAt (g := g17) w' hS') (fun _ => act2_in) (fun _ => act2_ok)).mono ?_
  rintro e w' ⟨ad, c', E, rfl, hV, hS'⟩
  rcases hV with ⟨_, h, _⟩ | ⟨g, cs, rfl, rfl, hx, hl, hk⟩
  · cases h
  have hcs : cs[0]? = some (.int .i64 2) := (by
    have h0 : (cs.take 19)[0]? = some (.int .i64 2) := (by rw [show cs.take 19 = _ from hx]; rfl)
    rw [List.getElem?_take, if_pos (by omega)] at h0
    exact h0)
  refine ⟨_, [.row g cs, .row g20 (ruL (exR g17 0) ++ ruL (exR g17 1)), .row g17 (acL (Ac.one 0 2)), .row g3 (acL (Ac.one 0 2)), .row g1 (mtL (Mt.one 8 80 (fullI 8)))], rfl, hS', ?_⟩
  refine WL.val (v_assign rfl rfl) (.none rfl) rfl rfl ?_
  refine WL.nil ?_
  refine WE.then_n ?_
  refine WC.seq ?_
  refine WC.region ?_
  refine WL.val (v_move rfl rfl) (.none rfl) rfl rfl ?_
  refine WL.val ((v_eql rfl rfl rfl).t (by omega)) (.none rfl) rfl rfl ?_
  refine WL.val (v_move rfl rfl) (.none rfl) rfl rfl ?_
  refine WL.val (v_move rfl rfl) (.some rfl rfl rfl) rfl rfl ?_
  refine WL.val ((v_eql rfl rfl rfl).t (by omega)) (.some rfl rfl rfl) rfl rfl ?_
  refine WL.val (v_pick_t rfl rfl rfl) (.none rfl) rfl rfl ?_
  refine WL.val (v_move rfl rfl) (.none rfl) rfl rfl ?_
  refine WL.val (v_move rfl rfl) (.some rfl rfl rfl) rfl rfl ?_
  refine WL.val (v_len_slice rfl rfl Tryd.underlying47) (.some rfl rfl rfl) rfl rfl ?_
  refine WL.val ((v_eql rfl rfl rfl).t (rfl)) (.some rfl rfl rfl) rfl rfl ?_
  refine WL.val (v_pick_t rfl rfl rfl) (.none rfl) rfl rfl ?_
  refine WL.val (v_move rfl rfl) (.none rfl) rfl rfl ?_
  refine WL.val (v_move rfl rfl) (.some rfl rfl rfl) rfl rfl ?_
  refine WL.val (v_indexAddr (lo := 0) rfl rfl rfl Tryd.underlying47 sz_31 rfl (by (show 0 < 1; omega))) (.some rfl rfl rfl) rfl rfl ?_
  refine WL.val (v_fieldAddr rfl rfl fld_31_0) (.some rfl rfl rfl) rfl rfl ?_
  refine WL.val (v_load1 rfl rfl one_3 (cellAt hcs)) (.some rfl rfl rfl) rfl rfl ?_
  refine WL.val ((v_eql rfl rfl rfl).t (by omega)) (.some rfl rfl rfl) rfl rfl ?_
  refine WL.val (v_pick_t rfl rfl rfl) (.none rfl) rfl rfl ?_
  refine WL.val (v_move rfl rfl) (.none rfl) rfl rfl ?_
  refine WL.val (v_move rfl rfl) (.some rfl rfl rfl) rfl rfl ?_
  refine WL.val (v_build rfl rfl zero_31 plc_31 rfl) (.some rfl rfl rfl) rfl rfl ?_
  refine WL.call rfl rfl ck_49 (.some rfl rfl rfl) rfl rfl ?_
  intro w1 hS
  refine (Run_s (fun _ => False) (fun _ h => h) w0 w1 _ hS g20 0 2 2 (exR g17) (fun _ => Ac.one 0 2) Hd.zero 1 (by omega) (fun i _ => exR_in g17 i) Hd.zero_in hG (by omega) (fun w' hS' => hru w' hS'.tail) (exF0 g17) (Nat.zero_le 1) 0 0 (fun h => absurd h (Nat.lt_irrefl 0)) (fun w' hS' i hi => absurd hi (Nat.not_lt_zero i)) (fun _ => act2_in) (fun _ => act2_ok)).mono ?_
  rintro e w' ⟨ad2, c2, E2, rfl, hV2, hS'⟩
  refine ⟨_, _, rfl, hS', ?_⟩
  refine WL.val (v_len_slice rfl rfl Tryd.underlying47) (.some rfl rfl rfl) rfl rfl ?_
  refine WL.val ((v_eql rfl rfl rfl).t (rfl)) (.some rfl rfl rfl) rfl rfl ?_
  refine WL.val (v_pick_t rfl rfl rfl) (.none rfl) rfl rfl ?_
  refine WL.val (v_move rfl rfl) (.none rfl) rfl rfl ?_
  refine WL.val (v_move rfl rfl) (.some rfl rfl rfl) rfl rfl ?_
  refine WL.call rfl rfl ck_50 (.some rfl rfl rfl) rfl rfl ?_
  intro w hS
  refine Calls.then (Total_c w g20 0 2 2 (exR g17) (by omega) (by omega) (hru w (hS.sub (List.sublist_append_of_sublist_right (.cons _ (.refl _))))) rfl) hS ?_
  refine WL.val (v_pick_t rfl rfl rfl) (.none rfl) rfl rfl ?_
  refine WL.val (v_assign rfl rfl) (.none rfl) rfl rfl ?_
  refine WL.nil ?_
  refine WE.then_n ?_
  refine WC.ret ?_
  refine WE.ret1 (P := Tryd.prog) (.inl rfl) Tryd.results12 rfl ?_
  exact fun w' h => ⟨rfl, h.frm⟩
end Go.Proofs.YtodaanhhnjkncaaDoor
