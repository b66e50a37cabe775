/- policy: par and seq, walked. -/
import Derived.Test.YtodaanhhnjkncaaDoorPol8
namespace Go.Proofs.YtodaanhhnjkncaaDoor
open Go.RowKit

/-- What is shown of run, up to a size. -/
def RunTo (p : Nat → Prop) (w0 : World) (N : Nat) : Prop := ∀ (t : Nd), SizeOf.sizeOf t ≤ N → ∀ (pred : Bool) (L : List Ent) (w : World) (H : Hd), okT pred t → t.In → (∀ w, St p w0 w L → t.At w) → H.In → St p w0 w L →
  Calls Tryd.prog 56 #[ndV t, .agg (hdCells H)] w (HdsPost p w0 L (runT t H))
theorem Nd.kidN {t u : Nd} {j N : Nat} (hN : SizeOf.sizeOf t ≤ N + 1) (h : t.kids[j]? = some u) : SizeOf.sizeOf u ≤ N := by
  have := Nd.kid_size h; omega
set_option maxHeartbeats 1000000 in
theorem par_c (p : Nat → Prop) (w0 : World) (N : Nat) (ih : RunTo p w0 N) (t : Nd) (hN : SizeOf.sizeOf t ≤ N + 1) (pred : Bool) (L : List Ent) (w1 : World) (H : Hd) (hk : okT pred t) (hI : t.In) (hAt : ∀ w, St p w0 w L → t.At w) (hH : H.In) (hS0 : St p w0 w1 L) :
    Calls Tryd.prog 80 #[ndV t, .agg (hdCells H)] w1 (HdsPost p w0 L (parKs t.kids H [])) := by
  have hlen := hI.nums.2.2.2.2
  refine enter Tryd.func80 rfl Tryd.ntmps80 rfl hS0 ?_
  refine WC.seq ?_
  refine WC.region ?_
  refine WL.box rfl rfl rfl (.none rfl) rfl rfl ?_
  intro g2 hg2
  refine WL.box rfl rfl rfl (.none rfl) rfl rfl ?_
  intro g3 hg3
  refine WL.val (v_assign rfl rfl) (.none rfl) rfl rfl ?_
  refine WL.val (v_assign rfl rfl) (.none rfl) rfl rfl ?_
  refine WL.nil ?_
  refine WE.then_n ?_
  refine WC.seq ?_
  refine WC.region ?_
  refine WL.val (v_assign rfl rfl) (.none rfl) rfl rfl ?_
  refine WL.nil ?_
  refine WE.then_n ?_
  refine WC.seq ?_
  refine WC.seq ?_
  refine WC.region ?_
  refine WL.val (v_fieldAddr0 rfl rfl fld_45_4) (.none rfl) rfl rfl ?_
  refine WL.val (v_load1 rfl rfl one_43 (cellAt rfl)) (.none rfl) rfl rfl ?_
  refine WL.val (v_len_slice rfl rfl Tryd.underlying43) (.none rfl) rfl rfl ?_
  refine WL.val (v_move rfl rfl) (.none rfl) rfl rfl ?_
  refine WL.nil ?_
  refine WE.then_n ?_
  refine WC.block ?_
  refine WC.loop (fun x : Nat × List Hd × Option Addr × Nat × List Ent => [(14, .int .i64 x.1), (13, .int .i64 t.kids.length), (12, .slice t.ad t.kids.length t.cap), (6, .slice x.2.2.1 x.2.1.length x.2.2.2.1), (3, .pointer (some ⟨g3, 0, none⟩))]) (fun x => x.2.2.2.2 ++ (.row g3 (hdL H) :: .row g2 (ndL t) :: L)) (fun x => x.1 ≤ t.kids.length ∧ Vec 19 x.2.2.1 x.2.1.length x.2.2.2.1 (hdsL x.2.1) x.2.2.2.2 ∧ Good x.2.1 ∧ parKs (t.kids.drop x.1) H x.2.1 = parKs t.kids H []) (fun x => t.kids.length - x.1) (0, [], none, 0, []) ⟨Nat.zero_le _, Vec.nil 19, Good.nil, rfl⟩ (.cons rfl (.cons rfl (.cons rfl (.cons rfl (.cons rfl .nil))))) (.refl _) ?_
  rintro ⟨k, R, ad, c, E⟩ ⟨hkk, hV, hR, hg⟩
  dsimp only at hkk hV hR hg
  dsimp only
  refine WC.seq ?_
  refine WC.region ?_
  refine WL.test (v_lss rfl rfl rfl) (.none rfl) rfl rfl (fun h15 => ?_) (fun h15 => ?_)
  · -- 15T
    refine WL.nil ?_
    refine WE.then_n ?_
    refine WC.seq ?_
    refine WC.cond_t rfl ?_
    refine WC.skip ?_
    refine WE.then_n ?_
    refine WC.seq ?_
    refine WC.block ?_
    refine WC.seq ?_
    refine WC.region ?_
    obtain ⟨u, hu⟩ : ∃ u, t.kids[k]? = some u := ⟨t.kids[k]'(by omega), List.getElem?_eq_getElem _⟩
    obtain ⟨b, o, ea, _⟩ := ((hAt _ hS0).kid hu).1
    have hdr : t.kids.drop k = u :: t.kids.drop (k + 1) := (by
      rw [List.drop_eq_getElem_cons (show k < t.kids.length by omega)]
      congr 1
      rw [List.getElem?_eq_getElem (show k < t.kids.length by omega)] at hu
      exact Option.some.inj hu)
    rw [hdr, parKs] at hg
    have hsub : ∀ {w}, St p w0 w (E ++ (.row g3 (hdL H) :: .row g2 (ndL t) :: L)) → St p w0 w L := (fun h => h.sub (List.sublist_append_of_sublist_right (.cons _ (.cons _ (.refl _)))))
    refine WL.val (v_indexAddr (b := b) (off := o) (lo := k) rfl (by show some (Value.slice t.ad _ _) = _; rw [ea]) rfl Tryd.underlying43 sz_45 rfl (by omega)) (.none rfl) rfl rfl ?_
    refine WL.val (v_loadN (cs := ndL u) rfl rfl many_45 rfl (fun w' hS' => (hAt w' (hsub hS')).kidAt hu ea)) (.none rfl) rfl rfl ?_
    refine WL.alloc rfl zero_45 (.none rfl) rfl rfl ?_
    intro g8 hg8
    refine WL.storeW rfl rfl rfl rfl many_45 rfl rfl (.none rfl) rfl ?_
    refine WL.nil ?_
    refine WE.then_n ?_
    refine WC.seq ?_
    refine WC.region ?_
    refine WL.val (v_loadN rfl rfl many_45 rfl allAt) (.none rfl) rfl rfl ?_
    refine WL.val (v_loadN rfl rfl many_31 rfl allAt) (.none rfl) rfl rfl ?_
    refine WL.call rfl rfl ck_56 (.none rfl) rfl rfl ?_
    intro w1 hS
    refine (ih u (Nd.kidN hN hu) _ (.row g8 (ndL u) :: (E ++ (.row g3 (hdL H) :: .row g2 (ndL t) :: L))) w1 H (hk.kid hu) (hI.kids.get _ _ _ hu) (fun w' hS' => ((hAt w' (hsub hS'.tail)).kid hu).2) hH hS).mono ?_
    rintro e w' ⟨Rs, ad', c', E', bb, rfl, hV', hS', hc⟩
    refine ⟨_, _, rfl, hS', ?_⟩
    refine WL.val (v_move rfl rfl) (.none rfl) rfl rfl ?_
    refine WL.val (v_extract rfl rfl rfl) (.none rfl) rfl rfl ?_
    refine WL.val (v_extract rfl rfl rfl) (.none rfl) rfl rfl ?_
    skip
    cases bb
    · -- 23F
      refine WL.val (v_assign rfl rfl) (.none rfl) rfl rfl ?_
      refine WL.val (v_assign rfl rfl) (.none rfl) rfl rfl ?_
      refine WL.nil ?_
      refine WE.then_n ?_
      refine WC.seq ?_
      refine WC.seq ?_
      refine WC.region ?_
      refine WL.val (v_move rfl rfl) (.none rfl) rfl rfl ?_
      refine WL.val (v_not rfl rfl rfl) (.none rfl) rfl rfl ?_
      refine WL.nil ?_
      refine WE.then_n ?_
      refine WC.cond_t rfl ?_
      refine WC.seq ?_
      refine WC.region ?_
      refine WL.val (v_assign rfl rfl) (.none rfl) rfl rfl ?_
      refine WL.val (v_assign rfl rfl) (.none rfl) rfl rfl ?_
      refine WL.nil ?_
      refine WE.then_n ?_
      refine WC.ret ?_
      refine WE.then_ret ?_
      refine WE.block_ret ?_
      refine WE.then_ret ?_
      refine WE.then_ret ?_
      refine WE.block_ret ?_
      refine WE.then_ret ?_
      refine WE.ret2 (P := Tryd.prog) (.inl rfl) Tryd.results80 rfl rfl ?_
      obtain ⟨_, hc⟩ : True ∧ runT u H = none := (by rcases hc with ⟨h, _⟩ | ⟨_, h, _⟩; cases h; exact ⟨trivial, h⟩)
      rw [hc, Option.bind_none] at hg
      exact fun w' h => HdsPost.none hg.symm (hsub (h.sub (List.sublist_append_of_sublist_right (.cons _ (.refl _)))))
    · -- 23T
      refine WL.val (v_assign rfl rfl) (.none rfl) rfl rfl ?_
      refine WL.val (v_assign rfl rfl) (.none rfl) rfl rfl ?_
      refine WL.nil ?_
      refine WE.then_n ?_
      refine WC.seq ?_
      refine WC.seq ?_
      refine WC.region ?_
      refine WL.val (v_move rfl rfl) (.none rfl) rfl rfl ?_
      refine WL.val (v_not rfl rfl rfl) (.none rfl) rfl rfl ?_
      refine WL.nil ?_
      refine WE.then_n ?_
      refine WC.cond_f rfl ?_
      refine WC.skip ?_
      refine WE.then_n ?_
      refine WC.seq ?_
      refine WC.region ?_
      refine WL.val (v_move rfl rfl) (.none rfl) rfl rfl ?_
      refine WL.val (v_move rfl rfl) (.none rfl) rfl rfl ?_
      refine WL.call rfl rfl ck_108 (.none rfl) rfl rfl ?_
      intro w1 hS
      obtain ⟨_, hc⟩ : True ∧ runT u H = some Rs := (by rcases hc with ⟨_, h⟩ | ⟨h, _⟩; exact ⟨trivial, h⟩; cases h)
      have hgood := runT_good u _ H Rs (hk.kid hu) (hI.kids.get _ _ _ hu) hH hc
      rw [hc, Option.bind_some] at hg
      refine (gather_c p w0 w1 ((E' ++ [.row g8 (ndL u)]) ++ (.row g3 (hdL H) :: .row g2 (ndL t) :: L)) E R Rs ad ad' c c' hV (St.front (R := E) (E' ++ [.row g8 (ndL u)]) (by simpa [List.append_assoc] using hS)) (fun w hS => hV'.hds hS (fun e he => List.mem_append_left _ (List.mem_append_left _ he))) hR.len (by have := hgood.len; omega)).mono ?_
      rintro e w' ⟨R2, ad2, c2, E2, b2, rfl, hV2, hS', hc2⟩
      refine ⟨_, _, rfl, hS', ?_⟩
      refine WL.val (v_move rfl rfl) (.none rfl) rfl rfl ?_
      refine WL.val (v_extract rfl rfl rfl) (.none rfl) rfl rfl ?_
      refine WL.val (v_extract rfl rfl rfl) (.none rfl) rfl rfl ?_
      skip
      cases b2
      · -- 31F
        refine WL.val (v_assign rfl rfl) (.none rfl) rfl rfl ?_
        refine WL.val (v_assign rfl rfl) (.none rfl) rfl rfl ?_
        refine WL.nil ?_
        refine WE.then_n ?_
        refine WC.seq ?_
        refine WC.region ?_
        refine WL.val (v_move rfl rfl) (.none rfl) rfl rfl ?_
        refine WL.val (v_not rfl rfl rfl) (.none rfl) rfl rfl ?_
        refine WL.nil ?_
        refine WE.then_n ?_
        refine WC.cond_t rfl ?_
        refine WC.seq ?_
        refine WC.region ?_
        refine WL.val (v_assign rfl rfl) (.none rfl) rfl rfl ?_
        refine WL.val (v_assign rfl rfl) (.none rfl) rfl rfl ?_
        refine WL.nil ?_
        refine WE.then_n ?_
        refine WC.ret ?_
        refine WE.block_ret ?_
        refine WE.then_ret ?_
        refine WE.then_ret ?_
        refine WE.block_ret ?_
        refine WE.then_ret ?_
        refine WE.ret2 (P := Tryd.prog) (.inl rfl) Tryd.results80 rfl rfl ?_
        obtain ⟨_, hc2⟩ : True ∧ gatherT R Rs = none := (by rcases hc2 with ⟨h, _⟩ | ⟨_, h, _⟩; cases h; exact ⟨trivial, h⟩)
        rw [hc2, Option.bind_none] at hg
        exact fun w' h => HdsPost.none hg.symm (h.sub (List.sublist_append_of_sublist_right (List.sublist_append_of_sublist_right (.cons _ (.cons _ (.refl _))))))
      · -- 31T
        refine WL.val (v_assign rfl rfl) (.none rfl) rfl rfl ?_
        refine WL.val (v_assign rfl rfl) (.none rfl) rfl rfl ?_
        refine WL.nil ?_
        refine WE.then_n ?_
        refine WC.seq ?_
        refine WC.region ?_
        refine WL.val (v_move rfl rfl) (.none rfl) rfl rfl ?_
        refine WL.val (v_not rfl rfl rfl) (.none rfl) rfl rfl ?_
        refine WL.nil ?_
        refine WE.then_n ?_
        refine WC.cond_f rfl ?_
        refine WC.skip ?_
        refine WE.block_n ?_
        refine WE.then_n ?_
        refine WC.region ?_
        refine WL.val (v_add rfl rfl rfl (w_i64 (by omega) (by omega))) (.none rfl) rfl rfl ?_
        refine WL.val (v_move rfl rfl) (.none rfl) rfl rfl ?_
        refine WL.nil ?_
        obtain ⟨_, hc2⟩ : True ∧ gatherT R Rs = some R2 := (by rcases hc2 with ⟨_, h⟩ | ⟨h, _⟩; exact ⟨trivial, h⟩; cases h)
        rw [hc2, Option.bind_some] at hg
        exact WE.next (k + 1, R2, ad2, c2, E2) (by dsimp only; omega) ⟨by dsimp only; omega, hV2, gatherT_good hR hgood.all hc2, hg⟩ (.int rfl (by dsimp only; omega) (.cons rfl (.cons rfl (.cons rfl (.cons rfl .nil))))) (List.Sublist.append_left (List.sublist_append_right _ _) _)
  · -- 15F
    refine WL.nil ?_
    refine WE.then_n ?_
    refine WC.seq ?_
    refine WC.cond_f rfl ?_
    refine WC.exit ?_
    refine WE.then_exit ?_
    refine WE.then_exit ?_
    refine WE.block_hit ?_
    refine WE.then_n ?_
    refine WC.seq ?_
    refine WC.region ?_
    refine WL.val (v_move rfl rfl) (.none rfl) rfl rfl ?_
    refine WL.val (v_assign rfl rfl) (.none rfl) rfl rfl ?_
    refine WL.val (v_assign rfl rfl) (.none rfl) rfl rfl ?_
    refine WL.nil ?_
    refine WE.then_n ?_
    refine WC.ret ?_
    refine WE.ret2 (P := Tryd.prog) (.inl rfl) Tryd.results80 rfl rfl ?_
    obtain rfl : k = t.kids.length := (by omega)
    rw [List.drop_length, parKs] at hg
    exact fun w' h => HdsPost.some hg.symm hV (h.sub (List.Sublist.append_left (.cons _ (.cons _ (.refl _))) _))
theorem Vec.adr {sz : Nat} {ad : Option Addr} {n c : Nat} {xs : List Value} {E : List Ent} (h : Vec sz ad n c xs E) (hn : 0 < n) : ∃ g, ad = some ⟨g, 0, none⟩ := by
  rcases h with ⟨_, h, _⟩ | ⟨g, cs, rfl, _⟩
  · omega
  · exact ⟨g, rfl⟩
theorem drop_cons {α : Type} {ts : List α} {k : Nat} {u : α} (hu : ts[k]? = some u) : ts.drop k = u :: ts.drop (k + 1) := by
  obtain ⟨hk, e⟩ := List.getElem?_eq_some_iff.1 hu
  rw [List.drop_eq_getElem_cons hk, e]
set_option maxHeartbeats 1000000 in
theorem seq_c (p : Nat → Prop) (w0 : World) (N : Nat) (ih : RunTo p w0 N) (t : Nd) (hN : SizeOf.sizeOf t ≤ N + 1) (pred : Bool) (L : List Ent) (w1 : World) (H : Hd) (hk : okT pred t) (hI : t.In) (hAt : ∀ w, St p w0 w L → t.At w) (hH : H.In) (hS0 : St p w0 w1 L) :
    Calls Tryd.prog 81 #[ndV t, .agg (hdCells H)] w1 (HdsPost p w0 L (seqKs t.kids [H])) := by
  have hlen := hI.nums.2.2.2.2
  refine enter Tryd.func81 rfl Tryd.ntmps81 rfl hS0 ?_
  refine WC.seq ?_
  refine WC.region ?_
  refine WL.box rfl rfl rfl (.none rfl) rfl rfl ?_
  intro g2 hg2
  refine WL.box rfl rfl rfl (.none rfl) rfl rfl ?_
  intro g3 hg3
  refine WL.val (v_assign rfl rfl) (.none rfl) rfl rfl ?_
  refine WL.val (v_assign rfl rfl) (.none rfl) rfl rfl ?_
  refine WL.nil ?_
  refine WE.then_n ?_
  refine WC.seq ?_
  refine WC.region ?_
  refine WL.val (v_loadN rfl rfl many_31 rfl allAt) (.none rfl) rfl rfl ?_
  refine WL.buildSlice rfl rfl Tryd.underlying47 sz_31 zero_31 rfl (by decide) rfl (.none rfl) rfl rfl ?_
  intro g15 hg15
  refine WL.val (v_assign rfl rfl) (.none rfl) rfl rfl ?_
  refine WL.nil ?_
  refine WE.then_n ?_
  refine WC.seq ?_
  refine WC.seq ?_
  refine WC.region ?_
  refine WL.val (v_fieldAddr0 rfl rfl fld_45_4) (.none rfl) rfl rfl ?_
  refine WL.val (v_load1 rfl rfl one_43 (cellAt rfl)) (.none rfl) rfl rfl ?_
  refine WL.val (v_len_slice rfl rfl Tryd.underlying43) (.none rfl) rfl rfl ?_
  refine WL.val (v_move rfl rfl) (.none rfl) rfl rfl ?_
  refine WL.nil ?_
  refine WE.then_n ?_
  refine WC.block ?_
  refine WC.loop (fun x : Nat × List Hd × Option Addr × Nat × List Ent => [(19, .int .i64 x.1), (18, .int .i64 t.kids.length), (17, .slice t.ad t.kids.length t.cap), (6, .slice x.2.2.1 x.2.1.length x.2.2.2.1)]) (fun x => x.2.2.2.2 ++ (.row g3 (hdL H) :: .row g2 (ndL t) :: L)) (fun x => x.1 ≤ t.kids.length ∧ Vec 19 x.2.2.1 x.2.1.length x.2.2.2.1 (hdsL x.2.1) x.2.2.2.2 ∧ Good x.2.1 ∧ seqKs (t.kids.drop x.1) x.2.1 = seqKs t.kids [H]) (fun x => t.kids.length - x.1) (0, [H], some ⟨g15, 0, none⟩, 1, [.row g15 (hdL H)]) ⟨Nat.zero_le _, Vec.row rfl rfl (Nat.le_refl _), Good.one hH, rfl⟩ (.cons rfl (.cons rfl (.cons rfl (.cons rfl .nil)))) (.refl _) ?_
  rintro ⟨k, A, ad, c, E⟩ ⟨hkk, hV, hR, hg⟩
  dsimp only at hkk hV hR hg
  dsimp only
  have hsub : ∀ {w}, St p w0 w (E ++ (.row g3 (hdL H) :: .row g2 (ndL t) :: L)) → St p w0 w L := (fun h => h.sub (List.sublist_append_of_sublist_right (.cons _ (.cons _ (.refl _)))))
  refine WC.seq ?_
  refine WC.region ?_
  refine WL.test (v_lss rfl rfl rfl) (.none rfl) rfl rfl (fun h20 => ?_) (fun h20 => ?_)
  · -- 20T
    refine WL.nil ?_
    refine WE.then_n ?_
    refine WC.seq ?_
    refine WC.cond_t rfl ?_
    refine WC.skip ?_
    refine WE.then_n ?_
    refine WC.seq ?_
    refine WC.block ?_
    refine WC.seq ?_
    refine WC.region ?_
    obtain ⟨u, hu⟩ : ∃ u, t.kids[k]? = some u := ⟨t.kids[k]'(by omega), List.getElem?_eq_getElem _⟩
    obtain ⟨b, o, ea, _⟩ := ((hAt _ hS0).kid hu).1
    rw [drop_cons hu, seqKs] at hg
    refine WL.val (v_indexAddr (b := b) (off := o) (lo := k) rfl (by show some (Value.slice t.ad _ _) = _; rw [ea]) rfl Tryd.underlying43 sz_45 rfl (by omega)) (.none rfl) rfl rfl ?_
    refine WL.val (v_loadN (cs := ndL u) rfl rfl many_45 rfl (fun w' hS' => (hAt w' (hsub hS')).kidAt hu ea)) (.none rfl) rfl rfl ?_
    refine WL.alloc rfl zero_45 (.none rfl) rfl rfl ?_
    intro g8 hg8
    refine WL.storeW rfl rfl rfl rfl many_45 rfl rfl (.none rfl) rfl ?_
    refine WL.nil ?_
    refine WE.then_n ?_
    refine WC.seq ?_
    refine WC.region ?_
    refine WL.val (v_assign rfl rfl) (.none rfl) rfl rfl ?_
    refine WL.nil ?_
    refine WE.then_n ?_
    refine WC.seq ?_
    refine WC.seq ?_
    refine WC.region ?_
    refine WL.val (v_move rfl rfl) (.none rfl) rfl rfl ?_
    refine WL.val (v_len_slice rfl rfl Tryd.underlying47) (.none rfl) rfl rfl ?_
    refine WL.val (v_move rfl rfl) (.none rfl) rfl rfl ?_
    refine WL.nil ?_
    refine WE.then_n ?_
    refine WC.block ?_
    refine WC.loop (fun x : Nat × List Hd × Option Addr × Nat × List Ent => [(25, .int .i64 x.1), (24, .int .i64 A.length), (23, .slice ad A.length c), (9, .slice x.2.2.1 x.2.1.length x.2.2.2.1), (8, .pointer (some ⟨g8, 0, none⟩)), (19, .int .i64 k), (18, .int .i64 t.kids.length), (17, .slice t.ad t.kids.length t.cap)]) (fun x => x.2.2.2.2 ++ (.row g8 (ndL u) :: (E ++ (.row g3 (hdL H) :: .row g2 (ndL t) :: L)))) (fun x => x.1 ≤ A.length ∧ Vec 19 x.2.2.1 x.2.1.length x.2.2.2.1 (hdsL x.2.1) x.2.2.2.2 ∧ Good x.2.1 ∧ seqStep (fun g => runT u g) (A.drop x.1) x.2.1 = seqStep (fun g => runT u g) A []) (fun x => A.length - x.1) (0, [], none, 0, []) ⟨Nat.zero_le _, Vec.nil 19, Good.nil, rfl⟩ (.cons rfl (.cons rfl (.cons rfl (.cons rfl (.cons rfl (.cons rfl (.cons rfl (.cons rfl .nil)))))))) (.refl _) ?_
    rintro ⟨j, X, ad1, c1, E1⟩ ⟨hj, hV1, hX, hs⟩
    dsimp only at hj hV1 hX hs
    dsimp only
    have hal := hR.len
    have hsub1 : ∀ {w}, St p w0 w (E1 ++ (.row g8 (ndL u) :: (E ++ (.row g3 (hdL H) :: .row g2 (ndL t) :: L)))) → St p w0 w L := (fun h => hsub (h.sub (List.sublist_append_of_sublist_right (.cons _ (.refl _)))))
    refine WC.seq ?_
    refine WC.region ?_
    refine WL.test (v_lss rfl rfl rfl) (.none rfl) rfl rfl (fun h26 => ?_) (fun h26 => ?_)
    · -- 26T
      refine WL.nil ?_
      refine WE.then_n ?_
      refine WC.seq ?_
      refine WC.cond_t rfl ?_
      refine WC.skip ?_
      refine WE.then_n ?_
      refine WC.seq ?_
      refine WC.block ?_
      refine WC.seq ?_
      refine WC.region ?_
      obtain ⟨g, hgg⟩ : ∃ g, A[j]? = some g := ⟨A[j]'(by omega), List.getElem?_eq_getElem _⟩
      obtain ⟨ga, ea2⟩ := hV.adr (by omega)
      have hgin := hR.all g (List.mem_of_getElem? hgg)
      rw [drop_cons hgg, seqStep] at hs
      refine WL.val (v_indexAddr (b := ga) (off := 0) (lo := j) rfl (by show some (Value.slice ad _ _) = _; rw [ea2]) rfl Tryd.underlying47 sz_31 rfl (by omega)) (.none rfl) rfl rfl ?_
      refine WL.val (v_loadN (cs := hdL g) rfl rfl many_31 rfl (fun w' hS' => HdsAt.at (by rw [← ea2]; exact hV.hds hS' (fun e he => List.mem_append_right _ (List.mem_cons_of_mem _ (List.mem_append_left _ he)))) hgg)) (.none rfl) rfl rfl ?_
      refine WL.alloc rfl zero_31 (.none rfl) rfl rfl ?_
      intro g11 hg11
      refine WL.storeW rfl rfl rfl rfl many_31 rfl rfl (.none rfl) rfl ?_
      refine WL.nil ?_
      refine WE.then_n ?_
      refine WC.seq ?_
      refine WC.region ?_
      refine WL.val (v_loadN rfl rfl many_45 rfl allAt) (.none rfl) rfl rfl ?_
      refine WL.val (v_loadN rfl rfl many_31 rfl allAt) (.none rfl) rfl rfl ?_
      refine WL.call rfl rfl ck_56 (.none rfl) rfl rfl ?_
      intro w1 hS
      refine (ih u (Nd.kidN hN hu) _ (.row g11 (hdL g) :: (E1 ++ (.row g8 (ndL u) :: (E ++ (.row g3 (hdL H) :: .row g2 (ndL t) :: L))))) w1 g (hk.kid hu) (hI.kids.get _ _ _ hu) (fun w' hS' => ((hAt w' (hsub1 hS'.tail)).kid hu).2) hgin hS).mono ?_
      rintro e w' ⟨Rs, ad', c', E', bb, rfl, hV', hS', hc⟩
      refine ⟨_, _, rfl, hS', ?_⟩
      refine WL.val (v_move rfl rfl) (.none rfl) rfl rfl ?_
      refine WL.val (v_extract rfl rfl rfl) (.none rfl) rfl rfl ?_
      refine WL.val (v_extract rfl rfl rfl) (.none rfl) rfl rfl ?_
      skip
      cases bb
      · -- 34F
        refine WL.val (v_assign rfl rfl) (.none rfl) rfl rfl ?_
        refine WL.val (v_assign rfl rfl) (.none rfl) rfl rfl ?_
        refine WL.nil ?_
        refine WE.then_n ?_
        refine WC.seq ?_
        refine WC.seq ?_
        refine WC.region ?_
        refine WL.val (v_move rfl rfl) (.none rfl) rfl rfl ?_
        refine WL.val (v_not rfl rfl rfl) (.none rfl) rfl rfl ?_
        refine WL.nil ?_
        refine WE.then_n ?_
        refine WC.cond_t rfl ?_
        refine WC.seq ?_
        refine WC.region ?_
        refine WL.val (v_assign rfl rfl) (.none rfl) rfl rfl ?_
        refine WL.val (v_assign rfl rfl) (.none rfl) rfl rfl ?_
        refine WL.nil ?_
        refine WE.then_n ?_
        refine WC.ret ?_
        refine WE.then_ret ?_
        refine WE.block_ret ?_
        refine WE.then_ret ?_
        refine WE.then_ret ?_
        refine WE.block_ret ?_
        refine WE.then_ret ?_
        refine WE.block_ret ?_
        refine WE.then_ret ?_
        refine WE.then_ret ?_
        refine WE.block_ret ?_
        refine WE.then_ret ?_
        refine WE.ret2 (P := Tryd.prog) (.inl rfl) Tryd.results81 rfl rfl ?_
        obtain ⟨_, hc⟩ : True ∧ runT u g = none := (by rcases hc with ⟨h, _⟩ | ⟨_, h, _⟩; cases h; exact ⟨trivial, h⟩)
        rw [hc, Option.bind_none] at hs
        rw [← hs, Option.bind_none] at hg
        exact fun w' h => HdsPost.none hg.symm (hsub1 (h.sub (List.sublist_append_of_sublist_right (.cons _ (.refl _)))))
      · -- 34T
        refine WL.val (v_assign rfl rfl) (.none rfl) rfl rfl ?_
        refine WL.val (v_assign rfl rfl) (.none rfl) rfl rfl ?_
        refine WL.nil ?_
        refine WE.then_n ?_
        refine WC.seq ?_
        refine WC.seq ?_
        refine WC.region ?_
        refine WL.val (v_move rfl rfl) (.none rfl) rfl rfl ?_
        refine WL.val (v_not rfl rfl rfl) (.none rfl) rfl rfl ?_
        refine WL.nil ?_
        refine WE.then_n ?_
        refine WC.cond_f rfl ?_
        refine WC.skip ?_
        refine WE.then_n ?_
        refine WC.seq ?_
        refine WC.region ?_
        refine WL.val (v_move rfl rfl) (.none rfl) rfl rfl ?_
        refine WL.val (v_move rfl rfl) (.none rfl) rfl rfl ?_
        refine WL.call rfl rfl ck_108 (.none rfl) rfl rfl ?_
        intro w1 hS
        obtain ⟨_, hc⟩ : True ∧ runT u g = some Rs := (by rcases hc with ⟨_, h⟩ | ⟨h, _⟩; exact ⟨trivial, h⟩; cases h)
        have hgood := runT_good u _ g Rs (hk.kid hu) (hI.kids.get _ _ _ hu) hgin hc
        rw [hc, Option.bind_some] at hs
        refine (gather_c p w0 w1 ((E' ++ [.row g11 (hdL g)]) ++ (.row g8 (ndL u) :: (E ++ (.row g3 (hdL H) :: .row g2 (ndL t) :: L)))) E1 X Rs ad1 ad' c1 c' hV1 (St.front (R := E1) (E' ++ [.row g11 (hdL g)]) (by simpa [List.append_assoc] using hS)) (fun w hS => hV'.hds hS (fun e he => List.mem_append_left _ (List.mem_append_left _ he))) hX.len (by have := hgood.len; omega)).mono ?_
        rintro e w' ⟨R2, ad2, c2, E2, b2, rfl, hV2, hS', hc2⟩
        refine ⟨_, _, rfl, hS', ?_⟩
        refine WL.val (v_move rfl rfl) (.none rfl) rfl rfl ?_
        refine WL.val (v_extract rfl rfl rfl) (.none rfl) rfl rfl ?_
        refine WL.val (v_extract rfl rfl rfl) (.none rfl) rfl rfl ?_
        skip
        cases b2
        · -- 42F
          refine WL.val (v_assign rfl rfl) (.none rfl) rfl rfl ?_
          refine WL.val (v_assign rfl rfl) (.none rfl) rfl rfl ?_
          refine WL.nil ?_
          refine WE.then_n ?_
          refine WC.seq ?_
          refine WC.region ?_
          refine WL.val (v_move rfl rfl) (.none rfl) rfl rfl ?_
          refine WL.val (v_not rfl rfl rfl) (.none rfl) rfl rfl ?_
          refine WL.nil ?_
          refine WE.then_n ?_
          refine WC.cond_t rfl ?_
          refine WC.seq ?_
          refine WC.region ?_
          refine WL.val (v_assign rfl rfl) (.none rfl) rfl rfl ?_
          refine WL.val (v_assign rfl rfl) (.none rfl) rfl rfl ?_
          refine WL.nil ?_
          refine WE.then_n ?_
          refine WC.ret ?_
          refine WE.block_ret ?_
          refine WE.then_ret ?_
          refine WE.then_ret ?_
          refine WE.block_ret ?_
          refine WE.then_ret ?_
          refine WE.block_ret ?_
          refine WE.then_ret ?_
          refine WE.then_ret ?_
          refine WE.block_ret ?_
          refine WE.then_ret ?_
          refine WE.ret2 (P := Tryd.prog) (.inl rfl) Tryd.results81 rfl rfl ?_
          obtain ⟨_, hc2⟩ : True ∧ gatherT X Rs = none := (by rcases hc2 with ⟨h, _⟩ | ⟨_, h, _⟩; cases h; exact ⟨trivial, h⟩)
          rw [hc2, Option.bind_none] at hs
          rw [← hs, Option.bind_none] at hg
          exact fun w' h => HdsPost.none hg.symm (hsub (h.sub (List.sublist_append_of_sublist_right (List.sublist_append_of_sublist_right (.cons _ (.refl _))))))
        · -- 42T
          refine WL.val (v_assign rfl rfl) (.none rfl) rfl rfl ?_
          refine WL.val (v_assign rfl rfl) (.none rfl) rfl rfl ?_
          refine WL.nil ?_
          refine WE.then_n ?_
          refine WC.seq ?_
          refine WC.region ?_
          refine WL.val (v_move rfl rfl) (.none rfl) rfl rfl ?_
          refine WL.val (v_not rfl rfl rfl) (.none rfl) rfl rfl ?_
          refine WL.nil ?_
          refine WE.then_n ?_
          refine WC.cond_f rfl ?_
          refine WC.skip ?_
          refine WE.block_n ?_
          refine WE.then_n ?_
          refine WC.region ?_
          refine WL.val (v_add rfl rfl rfl (w_i64 (by omega) (by omega))) (.none rfl) rfl rfl ?_
          refine WL.val (v_move rfl rfl) (.none rfl) rfl rfl ?_
          refine WL.nil ?_
          obtain ⟨_, hc2⟩ : True ∧ gatherT X Rs = some R2 := (by rcases hc2 with ⟨_, h⟩ | ⟨h, _⟩; exact ⟨trivial, h⟩; cases h)
          rw [hc2, Option.bind_some] at hs
          exact WE.next (j + 1, R2, ad2, c2, E2) (by dsimp only; omega) ⟨by dsimp only; omega, hV2, gatherT_good hX hgood.all hc2, hs⟩ (.int rfl (by dsimp only; omega) (.cons rfl (.cons rfl (.cons rfl (.cons rfl (.cons rfl (.cons rfl (.cons rfl .nil)))))))) (List.Sublist.append_left (List.sublist_append_right _ _) _)
    · -- 26F
      refine WL.nil ?_
      refine WE.then_n ?_
      refine WC.seq ?_
      refine WC.cond_f rfl ?_
      refine WC.exit ?_
      refine WE.then_exit ?_
      refine WE.then_exit ?_
      refine WE.block_hit ?_
      refine WE.then_n ?_
      refine WC.region ?_
      refine WL.val (v_move rfl rfl) (.none rfl) rfl rfl ?_
      refine WL.val (v_assign rfl rfl) (.none rfl) rfl rfl ?_
      refine WL.nil ?_
      refine WE.block_n ?_
      refine WE.then_n ?_
      refine WC.region ?_
      refine WL.val (v_add rfl rfl rfl (w_i64 (by omega) (by omega))) (.none rfl) rfl rfl ?_
      refine WL.val (v_move rfl rfl) (.none rfl) rfl rfl ?_
      refine WL.nil ?_
      obtain rfl : j = A.length := (by omega)
      rw [List.drop_length, seqStep] at hs
      rw [← hs, Option.bind_some] at hg
      exact WE.next (k + 1, X, ad1, c1, E1) (by dsimp only; omega) ⟨by dsimp only; omega, hV1, hX, hg⟩ (.int rfl (by dsimp only; omega) (.cons rfl (.cons rfl (.cons rfl .nil)))) (List.Sublist.append_left (.cons _ (List.sublist_append_right _ _)) _)
  · -- 20F
    refine WL.nil ?_
    refine WE.then_n ?_
    refine WC.seq ?_
    refine WC.cond_f rfl ?_
    refine WC.exit ?_
    refine WE.then_exit ?_
    refine WE.then_exit ?_
    refine WE.block_hit ?_
    refine WE.then_n ?_
    refine WC.seq ?_
    refine WC.region ?_
    refine WL.val (v_move rfl rfl) (.none rfl) rfl rfl ?_
    refine WL.val (v_assign rfl rfl) (.none rfl) rfl rfl ?_
    refine WL.val (v_assign rfl rfl) (.none rfl) rfl rfl ?_
    refine WL.nil ?_
    refine WE.then_n ?_
    refine WC.ret ?_
    refine WE.ret2 (P := Tryd.prog) (.inl rfl) Tryd.results81 rfl rfl ?_
    obtain rfl : k = t.kids.length := (by omega)
    rw [List.drop_length, seqKs] at hg
    exact fun w' h => HdsPost.some hg.symm hV (h.sub (List.Sublist.append_left (.cons _ (.cons _ (.refl _))) _))
end Go.Proofs.YtodaanhhnjkncaaDoor
