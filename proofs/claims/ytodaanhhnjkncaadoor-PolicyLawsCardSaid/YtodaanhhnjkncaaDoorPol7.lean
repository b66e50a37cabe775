/- policy: gather. -/
import Derived.Test.YtodaanhhnjkncaaDoorPol6
namespace Go.Proofs.YtodaanhhnjkncaaDoor
open Go.RowKit

theorem gatherT_len : ∀ (Bs As Rs : List Hd), As.length ≤ 64 → gatherT As Bs = some Rs → Rs.length ≤ 64
  | [], As, Rs, h, e => by rw [gatherT] at e; cases e; exact h
  | b :: Bs, As, Rs, h, e => by
    rw [gatherT] at e
    split at e
    · exact gatherT_len Bs As Rs h e
    · split at e
      · cases e
      · exact gatherT_len Bs (As ++ [b]) Rs (by rw [List.length_append]; show _ + 1 ≤ 64; omega) e
theorem gatherT_mem : ∀ (Bs As Rs : List Hd), gatherT As Bs = some Rs → ∀ x ∈ Rs, x ∈ As ∨ x ∈ Bs
  | [], As, Rs, e, x, hx => by rw [gatherT] at e; cases e; exact .inl hx
  | b :: Bs, As, Rs, e, x, hx => by
    rw [gatherT] at e
    split at e
    · exact (gatherT_mem Bs As Rs e x hx).imp id (List.mem_cons_of_mem _)
    · split at e
      · cases e
      · rcases gatherT_mem Bs (As ++ [b]) Rs e x hx with h | h
        · rcases List.mem_append.1 h with h | h
          · exact .inl h
          · rw [List.mem_singleton.1 h]; exact .inr (List.mem_cons_self ..)
        · exact .inr (List.mem_cons_of_mem _ h)
/-- A list of headers, and whether there is one. -/
def HdsPost (p : Nat → Prop) (w0 : World) (L : List Ent) (o : Option (List Hd)) (e : Ending) (w' : World) : Prop :=
  ∃ Rs ad c E b, e = .returned (.tuple #[.slice ad (List.length Rs) c, .bool b]) ∧ Vec 19 ad (List.length Rs) c (hdsL Rs) E ∧ St p w0 w' (E ++ L) ∧ ((b = true ∧ o = some Rs) ∨ (b = false ∧ o = none ∧ Rs = [] ∧ ad = none ∧ c = 0))
theorem HdsPost.none {p : Nat → Prop} {w0 w' : World} {L : List Ent} {o : Option (List Hd)} (ho : o = .none) (h : St p w0 w' L) : HdsPost p w0 L o (.returned (.tuple #[.slice .none 0 0, .bool false])) w' :=
  ⟨[], .none, 0, [], false, rfl, Vec.nil 19, h, .inr ⟨rfl, ho, rfl, rfl, rfl⟩⟩
theorem HdsPost.some {p : Nat → Prop} {w0 w' : World} {L E : List Ent} {o : Option (List Hd)} {Rs : List Hd} {ad : Option Addr} {c : Nat} (ho : o = .some Rs) (hV : Vec 19 ad Rs.length c (hdsL Rs) E) (h : St p w0 w' (E ++ L)) : HdsPost p w0 L o (.returned (.tuple #[.slice ad Rs.length c, .bool true])) w' :=
  ⟨Rs, ad, c, E, true, rfl, hV, h, .inl ⟨rfl, ho⟩⟩
set_option maxHeartbeats 1000000 in
theorem gather_c (p : Nat → Prop) (w0 w1 : World) (L E0 : List Ent) (As Bs : List Hd) (ad0 ad2 : Option Addr) (c0 c2 : Nat) (hV0 : Vec 19 ad0 As.length c0 (hdsL As) E0) (hS0 : St p w0 w1 (E0 ++ L)) (hB : ∀ w, St p w0 w L → HdsAt w ad2 Bs) (hl : As.length ≤ 64) (hb : Bs.length ≤ 1000) :
    Calls Tryd.prog 108 #[.slice ad0 As.length c0, .slice ad2 Bs.length c2] w1 (HdsPost p w0 L (gatherT As Bs)) := by
  refine enter Tryd.func108 rfl Tryd.ntmps108 rfl hS0 ?_
  refine WC.seq ?_
  refine WC.region ?_
  refine WL.val (v_assign rfl rfl) (.none rfl) rfl rfl ?_
  refine WL.val (v_assign rfl rfl) (.none rfl) rfl rfl ?_
  refine WL.nil ?_
  refine WE.then_n ?_
  refine WC.seq ?_
  refine WC.seq ?_
  refine WC.region ?_
  refine WL.val (v_move rfl rfl) (.none rfl) rfl rfl ?_
  refine WL.val (v_len_slice rfl rfl Tryd.underlying47) (.none rfl) rfl rfl ?_
  refine WL.val (v_move rfl rfl) (.none rfl) rfl rfl ?_
  refine WL.nil ?_
  refine WE.then_n ?_
  refine WC.block ?_
  refine WC.loop (fun x : Nat × List Hd × Option Addr × Nat × List Ent => [(10, .int .i64 x.1), (9, .int .i64 Bs.length), (8, .slice ad2 Bs.length c2), (0, .slice x.2.2.1 x.2.1.length x.2.2.2.1)]) (fun x => x.2.2.2.2 ++ L) (fun x => x.1 ≤ Bs.length ∧ Vec 19 x.2.2.1 x.2.1.length x.2.2.2.1 (hdsL x.2.1) x.2.2.2.2 ∧ x.2.1.length ≤ 64 ∧ gatherT x.2.1 (Bs.drop x.1) = gatherT As Bs) (fun x => Bs.length - x.1) (0, As, ad0, c0, E0) ⟨Nat.zero_le _, hV0, hl, rfl⟩ (.cons rfl (.cons rfl (.cons rfl (.cons rfl .nil)))) (.refl _) ?_
  rintro ⟨k, R, ad, c, E⟩ ⟨hk, hV, hR, hg⟩
  dsimp only at hk hV hR hg
  dsimp only
  have hfact : k < Bs.length → ∃ x b o, Bs[k]? = some x ∧ ad2 = some ⟨b, o, none⟩ ∧ Bs.drop k = x :: Bs.drop (k + 1) := (fun hkl => by
    obtain ⟨b, o, ea, _⟩ := hB w1 (hS0.sub (List.sublist_append_right _ _)) k _ (List.getElem?_eq_getElem hkl)
    exact ⟨_, b, o, List.getElem?_eq_getElem hkl, ea, List.drop_eq_getElem_cons hkl⟩)
  refine WC.seq ?_
  refine WC.region ?_
  refine WL.test (v_lss rfl rfl rfl) (.none rfl) rfl rfl (fun h11 => ?_) (fun h11 => ?_)
  · -- 11T
    refine WL.nil ?_
    refine WE.then_n ?_
    refine WC.seq ?_
    refine WC.cond_t rfl ?_
    refine WC.skip ?_
    refine WE.then_n ?_
    refine WC.seq ?_
    refine WC.block ?_
    refine WC.seq ?_
    refine WC.region ?_
    obtain ⟨x, b, o, hx, ea, hdr⟩ := hfact (by omega)
    rw [hdr, gatherT] at hg
    refine WL.val (v_indexAddr (b := b) (off := o) (lo := k) rfl (by show some (Value.slice ad2 _ _) = _; rw [ea]) rfl Tryd.underlying47 sz_31 rfl (by omega)) (.none rfl) rfl rfl ?_
    refine WL.val (v_loadN (cs := hdL x) rfl rfl many_31 rfl (fun w' hS' => HdsAt.at (by rw [← ea]; exact hB w' (hS'.sub (List.sublist_append_right _ _))) hx)) (.none rfl) rfl rfl ?_
    refine WL.alloc rfl zero_31 (.none rfl) rfl rfl ?_
    intro g7 hg7
    refine WL.storeW rfl rfl rfl rfl many_31 rfl rfl (.none rfl) rfl ?_
    refine WL.nil ?_
    refine WE.then_n ?_
    refine WC.seq ?_
    refine WC.seq ?_
    refine WC.region ?_
    refine WL.val (v_move rfl rfl) (.none rfl) rfl rfl ?_
    refine WL.val (v_loadN rfl rfl many_31 rfl allAt) (.none rfl) rfl rfl ?_
    refine WL.call rfl rfl ck_125 (.none rfl) rfl rfl ?_
    intro w hS
    refine Calls.then (HCon_c w ad c R x (hV.hds hS (fun e he => List.mem_cons_of_mem _ (List.mem_append_left _ he))) (by omega)) hS ?_
    generalize hb : inHs R x = bb
    cases bb
    · -- 16F
      refine WL.nil ?_
      refine WE.then_n ?_
      refine WC.cond_f rfl ?_
      refine WC.skip ?_
      refine WE.then_n ?_
      refine WC.seq ?_
      refine WC.seq ?_
      refine WC.region ?_
      refine WL.val (v_move rfl rfl) (.none rfl) rfl rfl ?_
      refine WL.val (v_len_slice rfl rfl Tryd.underlying47) (.none rfl) rfl rfl ?_
      refine WL.test (v_eql rfl rfl rfl) (.none rfl) rfl rfl (fun h19 => ?_) (fun h19 => ?_)
      · -- 19T
        refine WL.nil ?_
        refine WE.then_n ?_
        refine WC.cond_t rfl ?_
        refine WC.seq ?_
        refine WC.region ?_
        refine WL.val (v_assign rfl rfl) (.none rfl) rfl rfl ?_
        refine WL.val (v_assign rfl rfl) (.none rfl) rfl rfl ?_
        refine WL.nil ?_
        refine WE.then_n ?_
        refine WC.ret ?_
        refine WE.then_ret ?_
        refine WE.block_ret ?_
        refine WE.then_ret ?_
        refine WE.then_ret ?_
        refine WE.block_ret ?_
        refine WE.then_ret ?_
        refine WE.ret2 (P := Tryd.prog) (.inl rfl) Tryd.results108 rfl rfl ?_
        rw [hb, if_neg (by decide), if_pos (by omega)] at hg
        exact fun w' h => HdsPost.none hg.symm (h.sub (.cons _ (List.sublist_append_right _ _)))
      · -- 19F
        refine WL.nil ?_
        refine WE.then_n ?_
        refine WC.cond_f rfl ?_
        refine WC.skip ?_
        refine WE.then_n ?_
        refine WC.region ?_
        refine WL.val (v_move rfl rfl) (.none rfl) rfl rfl ?_
        refine WL.val (v_loadN rfl rfl many_31 rfl allAt) (.none rfl) rfl rfl ?_
        refine WL.buildSlice rfl rfl Tryd.underlying47 sz_31 zero_31 rfl (by decide) rfl (.none rfl) rfl rfl ?_
        intro g22 hg22
        refine WL.to (L' := E ++ (.row g22 (hdL x) :: .row g7 (hdL x) :: L)) (fun w hS => hS.front [_, _]) ?_
        refine WL.appendL rfl rfl rfl Tryd.underlying47 Tryd.underlying47 sz_31 by_31 zero_31 rfl rfl hV (new := hdL x) (fun _ => ⟨g22, 0, rfl, fun w hS => allAt (g := g22) w hS⟩) rfl rfl (by omega) (.none rfl) rfl rfl ?_
        intro ad23 c23 E23 hV23 hr23
        refine WL.val (v_assign rfl rfl) (.none rfl) rfl rfl ?_
        refine WL.nil ?_
        refine WE.block_n ?_
        refine WE.then_n ?_
        refine WC.region ?_
        refine WL.val (v_add rfl rfl rfl (w_i64 (by omega) (by omega))) (.none rfl) rfl rfl ?_
        refine WL.val (v_move rfl rfl) (.none rfl) rfl rfl ?_
        refine WL.nil ?_
        rw [hb, if_neg (by decide), if_neg (by omega)] at hg
        have hl9 : (R ++ [x]).length = R.length + 1 := (by rw [List.length_append]; rfl)
        exact WE.next (k + 1, R ++ [x], ad23, c23, E23) (by dsimp only; omega) ⟨by dsimp only; omega, by dsimp only; rw [hl9, ← hdsL_snoc]; exact hV23, by dsimp only; omega, hg⟩ (.int rfl (by dsimp only; omega) (.cons rfl (.cons rfl (.eq rfl (by dsimp only; rw [hl9]) .nil)))) (List.Sublist.append_left (.cons _ (.cons _ (.refl _))) _)
    · -- 16T
      refine WL.nil ?_
      refine WE.then_n ?_
      refine WC.cond_t rfl ?_
      refine WC.exit ?_
      refine WE.then_exit ?_
      refine WE.block_hit ?_
      refine WE.then_n ?_
      refine WC.region ?_
      refine WL.val (v_add rfl rfl rfl (w_i64 (by omega) (by omega))) (.none rfl) rfl rfl ?_
      refine WL.val (v_move rfl rfl) (.none rfl) rfl rfl ?_
      refine WL.nil ?_
      rw [hb, if_pos rfl] at hg
      exact WE.next (k + 1, R, ad, c, E) (by dsimp only; omega) ⟨by dsimp only; omega, hV, hR, hg⟩ (.int rfl (by dsimp only; omega) (.cons rfl (.cons rfl (.cons rfl .nil)))) (.cons _ (.refl _))
  · -- 11F
    refine WL.nil ?_
    refine WE.then_n ?_
    refine WC.seq ?_
    refine WC.cond_f rfl ?_
    refine WC.exit ?_
    refine WE.then_exit ?_
    refine WE.then_exit ?_
    refine WE.block_hit ?_
    refine WE.then_n ?_
    refine WC.seq ?_
    refine WC.region ?_
    refine WL.val (v_move rfl rfl) (.none rfl) rfl rfl ?_
    refine WL.val (v_assign rfl rfl) (.none rfl) rfl rfl ?_
    refine WL.val (v_assign rfl rfl) (.none rfl) rfl rfl ?_
    refine WL.nil ?_
    refine WE.then_n ?_
    refine WC.ret ?_
    refine WE.ret2 (P := Tryd.prog) (.inl rfl) Tryd.results108 rfl rfl ?_
    obtain rfl : k = Bs.length := (by omega)
    rw [List.drop_length, gatherT] at hg
    exact fun w' h => HdsPost.some hg.symm hV h
end Go.Proofs.YtodaanhhnjkncaaDoor
