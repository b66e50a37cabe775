/- Texts joined: engine, contracts and laws, in the order in which they build. -/
import Derived.Shelf.SlSortCmp.InsertionK
import Derived.Shelf.SlLaysF0
import Derived.Shelf.SlSortCmp.WholeK
import Derived.Test.YtodaanhhnjkncaaDoorBcPolicyRuns
/- policy: par and seq, walked. -/
namespace Go.Proofs.YtodaanhhnjkncaaDoor
open Go.RowKit

/-- What is shown of run, up to a size. -/
def RunTo (p : Nat → Prop) (w0 : World) (N : Nat) : Prop := ∀ (t : Nd), SizeOf.sizeOf t ≤ N → ∀ (pred : Bool) (L : List Ent) (w : World) (H : Hd), okT pred t → t.In → (∀ w, St p w0 w L → t.At w) → H.In → St p w0 w L →
  Calls Tryd.prog 56 #[ndV t, .agg (hdCells H)] w (HdsPost p w0 L (runT t H))
theorem Nd.kidN {t u : Nd} {j N : Nat} (hN : SizeOf.sizeOf t ≤ N + 1) (h : t.kids[j]? = some u) : SizeOf.sizeOf u ≤ N := by
  have := Nd.kid_size h; omega
set_option maxHeartbeats 1000000 in
theorem par_c (p : Nat → Prop) (w0 : World) (N : Nat) (ih : RunTo p w0 N) (t : Nd) (hN : SizeOf.sizeOf t ≤ N + 1) (pred : Bool) (L : List Ent) (w1 : World) (H : Hd) (hk : okT pred t) (hI : t.In) (hAt : ∀ w, St p w0 w L → t.At w) (hH : H.In) (hS0 : St p w0 w1 L) :
    Calls Tryd.prog 80 #[ndV t, .agg (hdCells H)] w1 (HdsPost p w0 L (parKs t.kids H [])) := by
  have hlen := hI.nums.2.2.2.2
  refine enter Tryd.func80 rfl Tryd.ntmps80 rfl hS0 ?_
  refine WC.seq ?_
  refine WC.region ?_
  refine WL.box rfl rfl rfl (.none rfl) rfl rfl ?_
  intro g2 hg2
  refine WL.box rfl rfl rfl (.none rfl) rfl rfl ?_
  intro g3 hg3
  refine WL.val (v_assign rfl rfl) (.none rfl) rfl rfl ?_
  refine WL.val (v_assign rfl rfl) (.none rfl) rfl rfl ?_
  refine WL.nil ?_
  refine WE.then_n ?_
  refine WC.seq ?_
  refine WC.region ?_
  refine WL.val (v_assign rfl rfl) (.none rfl) rfl rfl ?_
  refine WL.nil ?_
  refine WE.then_n ?_
  refine WC.seq ?_
  refine WC.seq ?_
  refine WC.region ?_
  refine WL.val (v_fieldAddr0 rfl rfl fld_45_4) (.none rfl) rfl rfl ?_
  refine WL.val (v_load1 rfl rfl one_43 (cellAt rfl)) (.none rfl) rfl rfl ?_
  refine WL.val (v_len_slice rfl rfl Tryd.underlying43) (.none rfl) rfl rfl ?_
  refine WL.val (v_move rfl rfl) (.none rfl) rfl rfl ?_
  refine WL.nil ?_
  refine WE.then_n ?_
  refine WC.block ?_
  refine WC.loop (fun x : Nat × List Hd × Option Addr × Nat × List Ent => [(14, .int .i64 x.1), (13, .int .i64 t.kids.length), (12, .slice t.ad t.kids.length t.cap), (6, .slice x.2.2.1 x.2.1.length x.2.2.2.1), (3, .pointer (some ⟨g3, 0, none⟩))]) (fun x => x.2.2.2.2 ++ (.row g3 (hdL H) :: .row g2 (ndL t) :: L)) (fun x => x.1 ≤ t.kids.length ∧ Vec 19 x.2.2.1 x.2.1.length x.2.2.2.1 (hdsL x.2.1) x.2.2.2.2 ∧ Good x.2.1 ∧ parKs (t.kids.drop x.1) H x.2.1 = parKs t.kids H []) (fun x => t.kids.length - x.1) (0, [], none, 0, []) ⟨Nat.zero_le _, Vec.nil 19, Good.nil, rfl⟩ (.cons rfl (.cons rfl (.cons rfl (.cons rfl (.cons rfl .nil))))) (.refl _) ?_
  rintro ⟨k, R, ad, c, E⟩ ⟨hkk, hV, hR, hg⟩
  dsimp only at hkk hV hR hg
  dsimp only
  refine WC.seq ?_
  refine WC.region ?_
  refine WL.test (v_lss rfl rfl rfl) (.none rfl) rfl rfl (fun h15 => ?_) (fun h15 => ?_)
  · -- 15T
    refine WL.nil ?_
    refine WE.then_n ?_
    refine WC.seq ?_
    refine WC.cond_t rfl ?_
    refine WC.skip ?_
    refine WE.then_n ?_
    refine WC.seq ?_
    refine WC.block ?_
    refine WC.seq ?_
    refine WC.region ?_
    obtain ⟨u, hu⟩ : ∃ u, t.kids[k]? = some u := ⟨t.kids[k]'(by omega), List.getElem?_eq_getElem _⟩
    obtain ⟨b, o, ea, _⟩ := ((hAt _ hS0).kid hu).1
    have hdr : t.kids.drop k = u :: t.kids.drop (k + 1) := (by
      rw [List.drop_eq_getElem_cons (show k < t.kids.length by omega)]
      congr 1
      rw [List.getElem?_eq_getElem (show k < t.kids.length by omega)] at hu
      exact Option.some.inj hu)
    rw [hdr, parKs] at hg
    have hsub : ∀ {w}, St p w0 w (E ++ (.row g3 (hdL H) :: .row g2 (ndL t) :: L)) → St p w0 w L := (fun h => h.sub (List.sublist_append_of_sublist_right (.cons _ (.cons _ (.refl _)))))
    refine WL.val (v_indexAddr (b := b) (off := o) (lo := k) rfl (by show some (Value.slice t.ad _ _) = _; rw [ea]) rfl Tryd.underlying43 sz_45 rfl (by omega)) (.none rfl) rfl rfl ?_
    refine WL.val (v_loadN (cs := ndL u) rfl rfl many_45 rfl (fun w' hS' => (hAt w' (hsub hS')).kidAt hu ea)) (.none rfl) rfl rfl ?_
    refine WL.alloc rfl zero_45 (.none rfl) rfl rfl ?_
    intro g8 hg8
    refine WL.storeW rfl rfl rfl rfl many_45 rfl rfl (.none rfl) rfl ?_
    refine WL.nil ?_
    refine WE.then_n ?_
    refine WC.seq ?_
    refine WC.region ?_
    refine WL.val (v_loadN rfl rfl many_45 rfl allAt) (.none rfl) rfl rfl ?_
    refine WL.val (v_loadN rfl rfl many_31 rfl allAt) (.none rfl) rfl rfl ?_
    refine WL.call rfl rfl ck_56 (.none rfl) rfl rfl ?_
    intro w1 hS
    refine (ih u (Nd.kidN hN hu) _ (.row g8 (ndL u) :: (E ++ (.row g3 (hdL H) :: .row g2 (ndL t) :: L))) w1 H (hk.kid hu) (hI.kids.get _ _ _ hu) (fun w' hS' => ((hAt w' (hsub hS'.tail)).kid hu).2) hH hS).mono ?_
    rintro e w' ⟨Rs, ad', c', E', bb, rfl, hV', hS', hc⟩
    refine ⟨_, _, rfl, hS', ?_⟩
    refine WL.val (v_move rfl rfl) (.none rfl) rfl rfl ?_
    refine WL.val (v_extract rfl rfl rfl) (.none rfl) rfl rfl ?_
    refine WL.val (v_extract rfl rfl rfl) (.none rfl) rfl rfl ?_
    skip
    cases bb
    · -- 23F
      refine WL.val (v_assign rfl rfl) (.none rfl) rfl rfl ?_
      refine WL.val (v_assign rfl rfl) (.none rfl) rfl rfl ?_
      refine WL.nil ?_
      refine WE.then_n ?_
      refine WC.seq ?_
      refine WC.seq ?_
      refine WC.region ?_
      refine WL.val (v_move rfl rfl) (.none rfl) rfl rfl ?_
      refine WL.val (v_not rfl rfl rfl) (.none rfl) rfl rfl ?_
      refine WL.nil ?_
      refine WE.then_n ?_
      refine WC.cond_t rfl ?_
      refine WC.seq ?_
      refine WC.region ?_
      refine WL.val (v_assign rfl rfl) (.none rfl) rfl rfl ?_
      refine WL.val (v_assign rfl rfl) (.none rfl) rfl rfl ?_
      refine WL.nil ?_
      refine WE.then_n ?_
      refine WC.ret ?_
      refine WE.then_ret ?_
      refine WE.block_ret ?_
      refine WE.then_ret ?_
      refine WE.then_ret ?_
      refine WE.block_ret ?_
      refine WE.then_ret ?_
      refine WE.ret2 (P := Tryd.prog) (.inl rfl) Tryd.results80 rfl rfl ?_
      obtain ⟨_, hc⟩ : True ∧ runT u H = none := (by rcases hc with ⟨h, _⟩ | ⟨_, h, _⟩; cases h; exact ⟨trivial, h⟩)
      rw [hc, Option.bind_none] at hg
      exact fun w' h => HdsPost.none hg.symm (hsub (h.sub (List.sublist_append_of_sublist_right (.cons _ (.refl _)))))
    · -- 23T
      refine WL.val (v_assign rfl rfl) (.none rfl) rfl rfl ?_
      refine WL.val (v_assign rfl rfl) (.none rfl) rfl rfl ?_
      refine WL.nil ?_
      refine WE.then_n ?_
      refine WC.seq ?_
      refine WC.seq ?_
      refine WC.region ?_
      refine WL.val (v_move rfl rfl) (.none rfl) rfl rfl ?_
      refine WL.val (v_not rfl rfl rfl) (.none rfl) rfl rfl ?_
      refine WL.nil ?_
      refine WE.then_n ?_
      refine WC.cond_f rfl ?_
      refine WC.skip ?_
      refine WE.then_n ?_
      refine WC.seq ?_
      refine WC.region ?_
      refine WL.val (v_move rfl rfl) (.none rfl) rfl rfl ?_
      refine WL.val (v_move rfl rfl) (.none rfl) rfl rfl ?_
      refine WL.call rfl rfl ck_108 (.none rfl) rfl rfl ?_
      intro w1 hS
      obtain ⟨_, hc⟩ : True ∧ runT u H = some Rs := (by rcases hc with ⟨_, h⟩ | ⟨h, _⟩; exact ⟨trivial, h⟩; cases h)
      have hgood := runT_good u _ H Rs (hk.kid hu) (hI.kids.get _ _ _ hu) hH hc
      rw [hc, Option.bind_some] at hg
      refine (gather_c p w0 w1 ((E' ++ [.row g8 (ndL u)]) ++ (.row g3 (hdL H) :: .row g2 (ndL t) :: L)) E R Rs ad ad' c c' hV (St.front (R := E) (E' ++ [.row g8 (ndL u)]) (by simpa [List.append_assoc] using hS)) (fun w hS => hV'.hds hS (fun e he => List.mem_append_left _ (List.mem_append_left _ he))) hR.len (by have := hgood.len; omega)).mono ?_
      rintro e w' ⟨R2, ad2, c2, E2, b2, rfl, hV2, hS', hc2⟩
      refine ⟨_, _, rfl, hS', ?_⟩
      refine WL.val (v_move rfl rfl) (.none rfl) rfl rfl ?_
      refine WL.val (v_extract rfl rfl rfl) (.none rfl) rfl rfl ?_
      refine WL.val (v_extract rfl rfl rfl) (.none rfl) rfl rfl ?_
      skip
      cases b2
      · -- 31F
        refine WL.val (v_assign rfl rfl) (.none rfl) rfl rfl ?_
        refine WL.val (v_assign rfl rfl) (.none rfl) rfl rfl ?_
        refine WL.nil ?_
        refine WE.then_n ?_
        refine WC.seq ?_
        refine WC.region ?_
        refine WL.val (v_move rfl rfl) (.none rfl) rfl rfl ?_
        refine WL.val (v_not rfl rfl rfl) (.none rfl) rfl rfl ?_
        refine WL.nil ?_
        refine WE.then_n ?_
        refine WC.cond_t rfl ?_
        refine WC.seq ?_
        refine WC.region ?_
        refine WL.val (v_assign rfl rfl) (.none rfl) rfl rfl ?_
        refine WL.val (v_assign rfl rfl) (.none rfl) rfl rfl ?_
        refine WL.nil ?_
        refine WE.then_n ?_
        refine WC.ret ?_
        refine WE.block_ret ?_
        refine WE.then_ret ?_
        refine WE.then_ret ?_
        refine WE.block_ret ?_
        refine WE.then_ret ?_
        refine WE.ret2 (P := Tryd.prog) (.inl rfl) Tryd.results80 rfl rfl ?_
        obtain ⟨_, hc2⟩ : True ∧ gatherT R Rs = none := (by rcases hc2 with ⟨h, _⟩ | ⟨_, h, _⟩; cases h; exact ⟨trivial, h⟩)
        rw [hc2, Option.bind_none] at hg
        exact fun w' h => HdsPost.none hg.symm (h.sub (List.sublist_append_of_sublist_right (List.sublist_append_of_sublist_right (.cons _ (.cons _ (.refl _))))))
      · -- 31T
        refine WL.val (v_assign rfl rfl) (.none rfl) rfl rfl ?_
        refine WL.val (v_assign rfl rfl) (.none rfl) rfl rfl ?_
        refine WL.nil ?_
        refine WE.then_n ?_
        refine WC.seq ?_
        refine WC.region ?_
        refine WL.val (v_move rfl rfl) (.none rfl) rfl rfl ?_
        refine WL.val (v_not rfl rfl rfl) (.none rfl) rfl rfl ?_
        refine WL.nil ?_
        refine WE.then_n ?_
        refine WC.cond_f rfl ?_
        refine WC.skip ?_
        refine WE.block_n ?_
        refine WE.then_n ?_
        refine WC.region ?_
        refine WL.val (v_add rfl rfl rfl (w_i64 (by omega) (by omega))) (.none rfl) rfl rfl ?_
        refine WL.val (v_move rfl rfl) (.none rfl) rfl rfl ?_
        refine WL.nil ?_
        obtain ⟨_, hc2⟩ : True ∧ gatherT R Rs = some R2 := (by rcases hc2 with ⟨_, h⟩ | ⟨h, _⟩; exact ⟨trivial, h⟩; cases h)
        rw [hc2, Option.bind_some] at hg
        exact WE.next (k + 1, R2, ad2, c2, E2) (by dsimp only; omega) ⟨by dsimp only; omega, hV2, gatherT_good hR hgood.all hc2, hg⟩ (.int rfl (by dsimp only; omega) (.cons rfl (.cons rfl (.cons rfl (.cons rfl .nil))))) (List.Sublist.append_left (List.sublist_append_right _ _) _)
  · -- 15F
    refine WL.nil ?_
    refine WE.then_n ?_
    refine WC.seq ?_
    refine WC.cond_f rfl ?_
    refine WC.exit ?_
    refine WE.then_exit ?_
    refine WE.then_exit ?_
    refine WE.block_hit ?_
    refine WE.then_n ?_
    refine WC.seq ?_
    refine WC.region ?_
    refine WL.val (v_move rfl rfl) (.none rfl) rfl rfl ?_
    refine WL.val (v_assign rfl rfl) (.none rfl) rfl rfl ?_
    refine WL.val (v_assign rfl rfl) (.none rfl) rfl rfl ?_
    refine WL.nil ?_
    refine WE.then_n ?_
    refine WC.ret ?_
    refine WE.ret2 (P := Tryd.prog) (.inl rfl) Tryd.results80 rfl rfl ?_
    obtain rfl : k = t.kids.length := (by omega)
    rw [List.drop_length, parKs] at hg
    exact fun w' h => HdsPost.some hg.symm hV (h.sub (List.Sublist.append_left (.cons _ (.cons _ (.refl _))) _))
theorem Vec.adr {sz : Nat} {ad : Option Addr} {n c : Nat} {xs : List Value} {E : List Ent} (h : Vec sz ad n c xs E) (hn : 0 < n) : ∃ g, ad = some ⟨g, 0, none⟩ := by
  rcases h with ⟨_, h, _⟩ | ⟨g, cs, rfl, _⟩
  · omega
  · exact ⟨g, rfl⟩
theorem drop_cons {α : Type} {ts : List α} {k : Nat} {u : α} (hu : ts[k]? = some u) : ts.drop k = u :: ts.drop (k + 1) := by
  obtain ⟨hk, e⟩ := List.getElem?_eq_some_iff.1 hu
  rw [List.drop_eq_getElem_cons hk, e]
set_option maxHeartbeats 1000000 in
theorem seq_c (p : Nat → Prop) (w0 : World) (N : Nat) (ih : RunTo p w0 N) (t : Nd) (hN : SizeOf.sizeOf t ≤ N + 1) (pred : Bool) (L : List Ent) (w1 : World) (H : Hd) (hk : okT pred t) (hI : t.In) (hAt : ∀ w, St p w0 w L → t.At w) (hH : H.In) (hS0 : St p w0 w1 L) :
    Calls Tryd.prog 81 #[ndV t, .agg (hdCells H)] w1 (HdsPost p w0 L (seqKs t.kids [H])) := by
  have hlen := hI.nums.2.2.2.2
  refine enter Tryd.func81 rfl Tryd.ntmps81 rfl hS0 ?_
  refine WC.seq ?_
  refine WC.region ?_
  refine WL.box rfl rfl rfl (.none rfl) rfl rfl ?_
  intro g2 hg2
  refine WL.box rfl rfl rfl (.none rfl) rfl rfl ?_
  intro g3 hg3
  refine WL.val (v_assign rfl rfl) (.none rfl) rfl rfl ?_
  refine WL.val (v_assign rfl rfl) (.none rfl) rfl rfl ?_
  refine WL.nil ?_
  refine WE.then_n ?_
  refine WC.seq ?_
  refine WC.region ?_
  refine WL.val (v_loadN rfl rfl many_31 rfl allAt) (.none rfl) rfl rfl ?_
  refine WL.buildSlice rfl rfl Tryd.underlying47 sz_31 zero_31 rfl (by decide) rfl (.none rfl) rfl rfl ?_
  intro g15 hg15
  refine WL.val (v_assign rfl rfl) (.none rfl) rfl rfl ?_
  refine WL.nil ?_
  refine WE.then_n ?_
  refine WC.seq ?_
  refine WC.seq ?_
  refine WC.region ?_
  refine WL.val (v_fieldAddr0 rfl rfl fld_45_4) (.none rfl) rfl rfl ?_
  refine WL.val (v_load1 rfl rfl one_43 (cellAt rfl)) (.none rfl) rfl rfl ?_
  refine WL.val (v_len_slice rfl rfl Tryd.underlying43) (.none rfl) rfl rfl ?_
  refine WL.val (v_move rfl rfl) (.none rfl) rfl rfl ?_
  refine WL.nil ?_
  refine WE.then_n ?_
  refine WC.block ?_
  refine WC.loop (fun x : Nat × List Hd × Option Addr × Nat × List Ent => [(19, .int .i64 x.1), (18, .int .i64 t.kids.length), (17, .slice t.ad t.kids.length t.cap), (6, .slice x.2.2.1 x.2.1.length x.2.2.2.1)]) (fun x => x.2.2.2.2 ++ (.row g3 (hdL H) :: .row g2 (ndL t) :: L)) (fun x => x.1 ≤ t.kids.length ∧ Vec 19 x.2.2.1 x.2.1.length x.2.2.2.1 (hdsL x.2.1) x.2.2.2.2 ∧ Good x.2.1 ∧ seqKs (t.kids.drop x.1) x.2.1 = seqKs t.kids [H]) (fun x => t.kids.length - x.1) (0, [H], some ⟨g15, 0, none⟩, 1, [.row g15 (hdL H)]) ⟨Nat.zero_le _, Vec.row rfl rfl (Nat.le_refl _), Good.one hH, rfl⟩ (.cons rfl (.cons rfl (.cons rfl (.cons rfl .nil)))) (.refl _) ?_
  rintro ⟨k, A, ad, c, E⟩ ⟨hkk, hV, hR, hg⟩
  dsimp only at hkk hV hR hg
  dsimp only
  have hsub : ∀ {w}, St p w0 w (E ++ (.row g3 (hdL H) :: .row g2 (ndL t) :: L)) → St p w0 w L := (fun h => h.sub (List.sublist_append_of_sublist_right (.cons _ (.cons _ (.refl _)))))
  refine WC.seq ?_
  refine WC.region ?_
  refine WL.test (v_lss rfl rfl rfl) (.none rfl) rfl rfl (fun h20 => ?_) (fun h20 => ?_)
  · -- 20T
    refine WL.nil ?_
    refine WE.then_n ?_
    refine WC.seq ?_
    refine WC.cond_t rfl ?_
    refine WC.skip ?_
    refine WE.then_n ?_
    refine WC.seq ?_
    refine WC.block ?_
    refine WC.seq ?_
    refine WC.region ?_
    obtain ⟨u, hu⟩ : ∃ u, t.kids[k]? = some u := ⟨t.kids[k]'(by omega), List.getElem?_eq_getElem _⟩
    obtain ⟨b, o, ea, _⟩ := ((hAt _ hS0).kid hu).1
    rw [drop_cons hu, seqKs] at hg
    refine WL.val (v_indexAddr (b := b) (off := o) (lo := k) rfl (by show some (Value.slice t.ad _ _) = _; rw [ea]) rfl Tryd.underlying43 sz_45 rfl (by omega)) (.none rfl) rfl rfl ?_
    refine WL.val (v_loadN (cs := ndL u) rfl rfl many_45 rfl (fun w' hS' => (hAt w' (hsub hS')).kidAt hu ea)) (.none rfl) rfl rfl ?_
    refine WL.alloc rfl zero_45 (.none rfl) rfl rfl ?_
    intro g8 hg8
    refine WL.storeW rfl rfl rfl rfl many_45 rfl rfl (.none rfl) rfl ?_
    refine WL.nil ?_
    refine WE.then_n ?_
    refine WC.seq ?_
    refine WC.region ?_
    refine WL.val (v_assign rfl rfl) (.none rfl) rfl rfl ?_
    refine WL.nil ?_
    refine WE.then_n ?_
    refine WC.seq ?_
    refine WC.seq ?_
    refine WC.region ?_
    refine WL.val (v_move rfl rfl) (.none rfl) rfl rfl ?_
    refine WL.val (v_len_slice rfl rfl Tryd.underlying47) (.none rfl) rfl rfl ?_
    refine WL.val (v_move rfl rfl) (.none rfl) rfl rfl ?_
    refine WL.nil ?_
    refine WE.then_n ?_
    refine WC.block ?_
    refine WC.loop (fun x : Nat × List Hd × Option Addr × Nat × List Ent => [(25, .int .i64 x.1), (24, .int .i64 A.length), (23, .slice ad A.length c), (9, .slice x.2.2.1 x.2.1.length x.2.2.2.1), (8, .pointer (some ⟨g8, 0, none⟩)), (19, .int .i64 k), (18, .int .i64 t.kids.length), (17, .slice t.ad t.kids.length t.cap)]) (fun x => x.2.2.2.2 ++ (.row g8 (ndL u) :: (E ++ (.row g3 (hdL H) :: .row g2 (ndL t) :: L)))) (fun x => x.1 ≤ A.length ∧ Vec 19 x.2.2.1 x.2.1.length x.2.2.2.1 (hdsL x.2.1) x.2.2.2.2 ∧ Good x.2.1 ∧ seqStep (fun g => runT u g) (A.drop x.1) x.2.1 = seqStep (fun g => runT u g) A []) (fun x => A.length - x.1) (0, [], none, 0, []) ⟨Nat.zero_le _, Vec.nil 19, Good.nil, rfl⟩ (.cons rfl (.cons rfl (.cons rfl (.cons rfl (.cons rfl (.cons rfl (.cons rfl (.cons rfl .nil)))))))) (.refl _) ?_
    rintro ⟨j, X, ad1, c1, E1⟩ ⟨hj, hV1, hX, hs⟩
    dsimp only at hj hV1 hX hs
    dsimp only
    have hal := hR.len
    have hsub1 : ∀ {w}, St p w0 w (E1 ++ (.row g8 (ndL u) :: (E ++ (.row g3 (hdL H) :: .row g2 (ndL t) :: L)))) → St p w0 w L := (fun h => hsub (h.sub (List.sublist_append_of_sublist_right (.cons _ (.refl _)))))
    refine WC.seq ?_
    refine WC.region ?_
    refine WL.test (v_lss rfl rfl rfl) (.none rfl) rfl rfl (fun h26 => ?_) (fun h26 => ?_)
    · -- 26T
      refine WL.nil ?_
      refine WE.then_n ?_
      refine WC.seq ?_
      refine WC.cond_t rfl ?_
      refine WC.skip ?_
      refine WE.then_n ?_
      refine WC.seq ?_
      refine WC.block ?_
      refine WC.seq ?_
      refine WC.region ?_
      obtain ⟨g, hgg⟩ : ∃ g, A[j]? = some g := ⟨A[j]'(by omega), List.getElem?_eq_getElem _⟩
      obtain ⟨ga, ea2⟩ := hV.adr (by omega)
      have hgin := hR.all g (List.mem_of_getElem? hgg)
      rw [drop_cons hgg, seqStep] at hs
      refine WL.val (v_indexAddr (b := ga) (off := 0) (lo := j) rfl (by show some (Value.slice ad _ _) = _; rw [ea2]) rfl Tryd.underlying47 sz_31 rfl (by omega)) (.none rfl) rfl rfl ?_
      refine WL.val (v_loadN (cs := hdL g) rfl rfl many_31 rfl (fun w' hS' => HdsAt.at (by rw [← ea2]; exact hV.hds hS' (fun e he => List.mem_append_right _ (List.mem_cons_of_mem _ (List.mem_append_left _ he)))) hgg)) (.none rfl) rfl rfl ?_
      refine WL.alloc rfl zero_31 (.none rfl) rfl rfl ?_
      intro g11 hg11
      refine WL.storeW rfl rfl rfl rfl many_31 rfl rfl (.none rfl) rfl ?_
      refine WL.nil ?_
      refine WE.then_n ?_
      refine WC.seq ?_
      refine WC.region ?_
      refine WL.val (v_loadN rfl rfl many_45 rfl allAt) (.none rfl) rfl rfl ?_
      refine WL.val (v_loadN rfl rfl many_31 rfl allAt) (.none rfl) rfl rfl ?_
      refine WL.call rfl rfl ck_56 (.none rfl) rfl rfl ?_
      intro w1 hS
      refine (ih u (Nd.kidN hN hu) _ (.row g11 (hdL g) :: (E1 ++ (.row g8 (ndL u) :: (E ++ (.row g3 (hdL H) :: .row g2 (ndL t) :: L))))) w1 g (hk.kid hu) (hI.kids.get _ _ _ hu) (fun w' hS' => ((hAt w' (hsub1 hS'.tail)).kid hu).2) hgin hS).mono ?_
      rintro e w' ⟨Rs, ad', c', E', bb, rfl, hV', hS', hc⟩
      refine ⟨_, _, rfl, hS', ?_⟩
      refine WL.val (v_move rfl rfl) (.none rfl) rfl rfl ?_
      refine WL.val (v_extract rfl rfl rfl) (.none rfl) rfl rfl ?_
      refine WL.val (v_extract rfl rfl rfl) (.none rfl) rfl rfl ?_
      skip
      cases bb
      · -- 34F
        refine WL.val (v_assign rfl rfl) (.none rfl) rfl rfl ?_
        refine WL.val (v_assign rfl rfl) (.none rfl) rfl rfl ?_
        refine WL.nil ?_
        refine WE.then_n ?_
        refine WC.seq ?_
        refine WC.seq ?_
        refine WC.region ?_
        refine WL.val (v_move rfl rfl) (.none rfl) rfl rfl ?_
        refine WL.val (v_not rfl rfl rfl) (.none rfl) rfl rfl ?_
        refine WL.nil ?_
        refine WE.then_n ?_
        refine WC.cond_t rfl ?_
        refine WC.seq ?_
        refine WC.region ?_
        refine WL.val (v_assign rfl rfl) (.none rfl) rfl rfl ?_
        refine WL.val (v_assign rfl rfl) (.none rfl) rfl rfl ?_
        refine WL.nil ?_
        refine WE.then_n ?_
        refine WC.ret ?_
        refine WE.then_ret ?_
        refine WE.block_ret ?_
        refine WE.then_ret ?_
        refine WE.then_ret ?_
        refine WE.block_ret ?_
        refine WE.then_ret ?_
        refine WE.block_ret ?_
        refine WE.then_ret ?_
        refine WE.then_ret ?_
        refine WE.block_ret ?_
        refine WE.then_ret ?_
        refine WE.ret2 (P := Tryd.prog) (.inl rfl) Tryd.results81 rfl rfl ?_
        obtain ⟨_, hc⟩ : True ∧ runT u g = none := (by rcases hc with ⟨h, _⟩ | ⟨_, h, _⟩; cases h; exact ⟨trivial, h⟩)
        rw [hc, Option.bind_none] at hs
        rw [← hs, Option.bind_none] at hg
        exact fun w' h => HdsPost.none hg.symm (hsub1 (h.sub (List.sublist_append_of_sublist_right (.cons _ (.refl _)))))
      · -- 34T
        refine WL.val (v_assign rfl rfl) (.none rfl) rfl rfl ?_
        refine WL.val (v_assign rfl rfl) (.none rfl) rfl rfl ?_
        refine WL.nil ?_
        refine WE.then_n ?_
        refine WC.seq ?_
        refine WC.seq ?_
        refine WC.region ?_
        refine WL.val (v_move rfl rfl) (.none rfl) rfl rfl ?_
        refine WL.val (v_not rfl rfl rfl) (.none rfl) rfl rfl ?_
        refine WL.nil ?_
        refine WE.then_n ?_
        refine WC.cond_f rfl ?_
        refine WC.skip ?_
        refine WE.then_n ?_
        refine WC.seq ?_
        refine WC.region ?_
        refine WL.val (v_move rfl rfl) (.none rfl) rfl rfl ?_
        refine WL.val (v_move rfl rfl) (.none rfl) rfl rfl ?_
        refine WL.call rfl rfl ck_108 (.none rfl) rfl rfl ?_
        intro w1 hS
        obtain ⟨_, hc⟩ : True ∧ runT u g = some Rs := (by rcases hc with ⟨_, h⟩ | ⟨h, _⟩; exact ⟨trivial, h⟩; cases h)
        have hgood := runT_good u _ g Rs (hk.kid hu) (hI.kids.get _ _ _ hu) hgin hc
        rw [hc, Option.bind_some] at hs
        refine (gather_c p w0 w1 ((E' ++ [.row g11 (hdL g)]) ++ (.row g8 (ndL u) :: (E ++ (.row g3 (hdL H) :: .row g2 (ndL t) :: L)))) E1 X Rs ad1 ad' c1 c' hV1 (St.front (R := E1) (E' ++ [.row g11 (hdL g)]) (by simpa [List.append_assoc] using hS)) (fun w hS => hV'.hds hS (fun e he => List.mem_append_left _ (List.mem_append_left _ he))) hX.len (by have := hgood.len; omega)).mono ?_
        rintro e w' ⟨R2, ad2, c2, E2, b2, rfl, hV2, hS', hc2⟩
        refine ⟨_, _, rfl, hS', ?_⟩
        refine WL.val (v_move rfl rfl) (.none rfl) rfl rfl ?_
        refine WL.val (v_extract rfl rfl rfl) (.none rfl) rfl rfl ?_
        refine WL.val (v_extract rfl rfl rfl) (.none rfl) rfl rfl ?_
        skip
        cases b2
        · -- 42F
          refine WL.val (v_assign rfl rfl) (.none rfl) rfl rfl ?_
          refine WL.val (v_assign rfl rfl) (.none rfl) rfl rfl ?_
          refine WL.nil ?_
          refine WE.then_n ?_
          refine WC.seq ?_
          refine WC.region ?_
          refine WL.val (v_move rfl rfl) (.none rfl) rfl rfl ?_
          refine WL.val (v_not rfl rfl rfl) (.none rfl) rfl rfl ?_
          refine WL.nil ?_
          refine WE.then_n ?_
          refine WC.cond_t rfl ?_
          refine WC.seq ?_
          refine WC.region ?_
          refine WL.val (v_assign rfl rfl) (.none rfl) rfl rfl ?_
          refine WL.val (v_assign rfl rfl) (.none rfl) rfl rfl ?_
          refine WL.nil ?_
          refine WE.then_n ?_
          refine WC.ret ?_
          refine WE.block_ret ?_
          refine WE.then_ret ?_
          refine WE.then_ret ?_
          refine WE.block_ret ?_
          refine WE.then_ret ?_
          refine WE.block_ret ?_
          refine WE.then_ret ?_
          refine WE.then_ret ?_
          refine WE.block_ret ?_
          refine WE.then_ret ?_
          refine WE.ret2 (P := Tryd.prog) (.inl rfl) Tryd.results81 rfl rfl ?_
          obtain ⟨_, hc2⟩ : True ∧ gatherT X Rs = none := (by rcases hc2 with ⟨h, _⟩ | ⟨_, h, _⟩; cases h; exact ⟨trivial, h⟩)
          rw [hc2, Option.bind_none] at hs
          rw [← hs, Option.bind_none] at hg
          exact fun w' h => HdsPost.none hg.symm (hsub (h.sub (List.sublist_append_of_sublist_right (List.sublist_append_of_sublist_right (.cons _ (.refl _))))))
        · -- 42T
          refine WL.val (v_assign rfl rfl) (.none rfl) rfl rfl ?_
          refine WL.val (v_assign rfl rfl) (.none rfl) rfl rfl ?_
          refine WL.nil ?_
          refine WE.then_n ?_
          refine WC.seq ?_
          refine WC.region ?_
          refine WL.val (v_move rfl rfl) (.none rfl) rfl rfl ?_
          refine WL.val (v_not rfl rfl rfl) (.none rfl) rfl rfl ?_
          refine WL.nil ?_
          refine WE.then_n ?_
          refine WC.cond_f rfl ?_
          refine WC.skip ?_
          refine WE.block_n ?_
          refine WE.then_n ?_
          refine WC.region ?_
          refine WL.val (v_add rfl rfl rfl (w_i64 (by omega) (by omega))) (.none rfl) rfl rfl ?_
          refine WL.val (v_move rfl rfl) (.none rfl) rfl rfl ?_
          refine WL.nil ?_
          obtain ⟨_, hc2⟩ : True ∧ gatherT X Rs = some R2 := (by rcases hc2 with ⟨_, h⟩ | ⟨h, _⟩; exact ⟨trivial, h⟩; cases h)
          rw [hc2, Option.bind_some] at hs
          exact WE.next (j + 1, R2, ad2, c2, E2) (by dsimp only; omega) ⟨by dsimp only; omega, hV2, gatherT_good hX hgood.all hc2, hs⟩ (.int rfl (by dsimp only; omega) (.cons rfl (.cons rfl (.cons rfl (.cons rfl (.cons rfl (.cons rfl (.cons rfl .nil)))))))) (List.Sublist.append_left (List.sublist_append_right _ _) _)
    · -- 26F
      refine WL.nil ?_
      refine WE.then_n ?_
      refine WC.seq ?_
      refine WC.cond_f rfl ?_
      refine WC.exit ?_
      refine WE.then_exit ?_
      refine WE.then_exit ?_
      refine WE.block_hit ?_
      refine WE.then_n ?_
      refine WC.region ?_
      refine WL.val (v_move rfl rfl) (.none rfl) rfl rfl ?_
      refine WL.val (v_assign rfl rfl) (.none rfl) rfl rfl ?_
      refine WL.nil ?_
      refine WE.block_n ?_
      refine WE.then_n ?_
      refine WC.region ?_
      refine WL.val (v_add rfl rfl rfl (w_i64 (by omega) (by omega))) (.none rfl) rfl rfl ?_
      refine WL.val (v_move rfl rfl) (.none rfl) rfl rfl ?_
      refine WL.nil ?_
      obtain rfl : j = A.length := (by omega)
      rw [List.drop_length, seqStep] at hs
      rw [← hs, Option.bind_some] at hg
      exact WE.next (k + 1, X, ad1, c1, E1) (by dsimp only; omega) ⟨by dsimp only; omega, hV1, hX, hg⟩ (.int rfl (by dsimp only; omega) (.cons rfl (.cons rfl (.cons rfl .nil)))) (List.Sublist.append_left (.cons _ (List.sublist_append_right _ _)) _)
  · -- 20F
    refine WL.nil ?_
    refine WE.then_n ?_
    refine WC.seq ?_
    refine WC.cond_f rfl ?_
    refine WC.exit ?_
    refine WE.then_exit ?_
    refine WE.then_exit ?_
    refine WE.block_hit ?_
    refine WE.then_n ?_
    refine WC.seq ?_
    refine WC.region ?_
    refine WL.val (v_move rfl rfl) (.none rfl) rfl rfl ?_
    refine WL.val (v_assign rfl rfl) (.none rfl) rfl rfl ?_
    refine WL.val (v_assign rfl rfl) (.none rfl) rfl rfl ?_
    refine WL.nil ?_
    refine WE.then_n ?_
    refine WC.ret ?_
    refine WE.ret2 (P := Tryd.prog) (.inl rfl) Tryd.results81 rfl rfl ?_
    obtain rfl : k = t.kids.length := (by omega)
    rw [List.drop_length, seqKs] at hg
    exact fun w' h => HdsPost.some hg.symm hV (h.sub (List.Sublist.append_left (.cons _ (.cons _ (.refl _))) _))
end Go.Proofs.YtodaanhhnjkncaaDoor
/- policy: run, Run. -/
namespace Go.Proofs.YtodaanhhnjkncaaDoor
open Go.RowKit

set_option maxHeartbeats 2000000 in
theorem run_step (p : Nat → Prop) (hp : ∀ b, ¬ p b) (w0 : World) (hG : GW w0) (N : Nat) (ih : RunTo p w0 N) : RunTo p w0 (N + 1) := by
  intro t hN pred L w1 H hk hI hAt hH hS0
  have hlen := hI.nums.2.2.2.2
  obtain ⟨_, harg, hform, _⟩ := hk.parts
  have hfl := formE_le hform
  have l13 : t.kind = 13 → 1 ≤ t.kids.length := fun h => by have := hfl.1; rw [h, show leastK 13 = 1 by decide] at this; omega
  have l17 : t.kind = 17 → 3 ≤ t.kids.length := fun h => by have := hfl.1; rw [h, show leastK 17 = 3 by decide] at this; omega
  refine enter Tryd.func56 rfl Tryd.ntmps56 rfl hS0 ?_
  refine WC.seq ?_
  refine WC.region ?_
  refine WL.box rfl rfl rfl (.none rfl) rfl rfl ?_
  intro g2 hg2
  refine WL.box rfl rfl rfl (.none rfl) rfl rfl ?_
  intro g3 hg3
  refine WL.val (v_assign rfl rfl) (.none rfl) rfl rfl ?_
  refine WL.val (v_assign rfl rfl) (.none rfl) rfl rfl ?_
  refine WL.nil ?_
  refine WE.then_n ?_
  refine WC.seq ?_
  refine WC.seq ?_
  refine WC.region ?_
  refine WL.val (v_fieldAddr0 rfl rfl fld_45_0) (.none rfl) rfl rfl ?_
  refine WL.val (v_load1 rfl rfl one_3 (cellAt rfl)) (.none rfl) rfl rfl ?_
  refine WL.nil ?_
  refine WE.then_n ?_
  refine WC.block ?_
  refine WC.seq ?_
  refine WC.region ?_
  refine WL.test (v_eql rfl rfl rfl) (.none rfl) rfl rfl (fun h11 => ?_) (fun h11 => ?_)
  · -- 11T
    refine WL.val (v_assign rfl rfl) (.none rfl) rfl rfl ?_
    refine WL.nil ?_
    refine WE.then_n ?_
    refine WC.cond_t rfl ?_
    refine WC.seq ?_
    refine WC.region ?_
    refine WL.val (v_loadN rfl rfl many_31 rfl allAt) (.none rfl) rfl rfl ?_
    refine WL.buildSlice rfl rfl Tryd.underlying47 sz_31 zero_31 rfl (by decide) rfl (.none rfl) rfl rfl ?_
    intro g13 hg13
    refine WL.val (v_assign rfl rfl) (.none rfl) rfl rfl ?_
    refine WL.val (v_assign rfl rfl) (.none rfl) rfl rfl ?_
    refine WL.nil ?_
    refine WE.then_n ?_
    refine WC.ret ?_
    refine WE.block_ret ?_
    refine WE.then_ret ?_
    refine WE.ret2 (P := Tryd.prog) (.inl rfl) Tryd.results56 rfl rfl ?_
    exact fun w' h => HdsPost.some (Rs := [H]) (by rw [runT_eq, if_pos h11]) (Vec.row rfl rfl (Nat.le_refl _)) (h.sub (List.Sublist.append_left (.cons _ (.cons _ (.refl _))) [_]))
  · -- 11F
    refine WL.val (v_assign rfl rfl) (.none rfl) rfl rfl ?_
    refine WL.nil ?_
    refine WE.then_n ?_
    refine WC.cond_f rfl ?_
    refine WC.seq ?_
    refine WC.region ?_
    refine WL.test (v_eql rfl rfl rfl) (.none rfl) rfl rfl (fun h15 => ?_) (fun h15 => ?_)
    · -- 15T
      refine WL.val (v_assign rfl rfl) (.none rfl) rfl rfl ?_
      refine WL.nil ?_
      refine WE.then_n ?_
      refine WC.cond_t rfl ?_
      refine WC.seq ?_
      refine WC.quiet mixed (by kernel_rfl) ?_
      refine WQ.val (v_fieldAddr0 rfl rfl fld_45_4) (.none rfl) rfl rfl ?_
      refine WQ.val (v_load1 rfl rfl one_43 (cellAt rfl)) (.none rfl) rfl rfl ?_
      have hl := l13 h15
      obtain ⟨u, hu⟩ : ∃ u, t.kids[0]? = some u := ⟨t.kids[0]'(by omega), List.getElem?_eq_getElem _⟩
      obtain ⟨bu, ou, eau, _⟩ := ((hAt _ hS0).kid hu).1
      refine WQ.val (v_indexAddr (b := bu) (off := ou) (lo := 0) rfl (by show some (Value.slice t.ad _ _) = _; rw [eau]) rfl Tryd.underlying43 sz_45 rfl (by omega)) (.none rfl) rfl rfl ?_
      refine WQ.val (v_loadN (cs := ndL u) rfl rfl many_45 rfl (fun w' hS' => (hAt w' hS'.tail.tail).kidAt hu eau)) (.none rfl) rfl rfl ?_
      refine WQ.val (v_loadN rfl rfl many_31 rfl allAt) (.none rfl) rfl rfl ?_
      refine WQ.call _ rfl rfl ck_66 (.none rfl) rfl rfl (fun w hS => Calls.still (holds_c H hH _ u (Nat.le_refl _) w (by have := hk.kid hu; rwa [show predK t.kind 0 = true by unfold predK; rw [decide_eq_true (by omega)]] at this) (hI.kids.get _ _ _ hu) ((hAt w hS.tail.tail).kid hu).2 (hG.keep (hp _) hS)) hS) ?_
      generalize hb21 : holdsT H u = bb0
      cases bb0
      · -- 21F
        refine WQ.nil ?_
        refine WE.then_n ?_
        refine WC.cond_f rfl ?_
        refine WC.skip ?_
        refine WE.block_n ?_
        refine WE.then_n ?_
        refine WC.seq ?_
        refine WC.region ?_
        refine WL.val (v_assign rfl rfl) (.none rfl) rfl rfl ?_
        refine WL.val (v_assign rfl rfl) (.none rfl) rfl rfl ?_
        refine WL.nil ?_
        refine WE.then_n ?_
        refine WC.ret ?_
        refine WE.ret2 (P := Tryd.prog) (.inl rfl) Tryd.results56 rfl rfl ?_
        exact fun w' h => HdsPost.some (Rs := []) (by rw [runT_eq, if_neg h11, if_pos h15, List.getD_eq_getElem?_getD, List.getElem?_map, hu, Option.map_some, Option.getD_some, hb21, if_neg (by decide)]) (Vec.nil 19) (h.sub (.cons _ (.cons _ (.refl _))))
      · -- 21T
        refine WQ.nil ?_
        refine WE.then_n ?_
        refine WC.cond_t rfl ?_
        refine WC.seq ?_
        refine WC.region ?_
        refine WL.val (v_loadN rfl rfl many_31 rfl allAt) (.none rfl) rfl rfl ?_
        refine WL.buildSlice rfl rfl Tryd.underlying47 sz_31 zero_31 rfl (by decide) rfl (.none rfl) rfl rfl ?_
        intro g23 hg23
        refine WL.val (v_assign rfl rfl) (.none rfl) rfl rfl ?_
        refine WL.val (v_assign rfl rfl) (.none rfl) rfl rfl ?_
        refine WL.nil ?_
        refine WE.then_n ?_
        refine WC.ret ?_
        refine WE.block_ret ?_
        refine WE.then_ret ?_
        refine WE.ret2 (P := Tryd.prog) (.inl rfl) Tryd.results56 rfl rfl ?_
        exact fun w' h => HdsPost.some (Rs := [H]) (by rw [runT_eq, if_neg h11, if_pos h15, List.getD_eq_getElem?_getD, List.getElem?_map, hu, Option.map_some, Option.getD_some, hb21, if_pos rfl]) (Vec.row rfl rfl (Nat.le_refl _)) (h.sub (List.Sublist.append_left (.cons _ (.cons _ (.refl _))) [_]))
    · -- 15F
      refine WL.val (v_assign rfl rfl) (.none rfl) rfl rfl ?_
      refine WL.nil ?_
      refine WE.then_n ?_
      refine WC.cond_f rfl ?_
      refine WC.seq ?_
      refine WC.region ?_
      refine WL.test (v_eql rfl rfl rfl) (.none rfl) rfl rfl (fun h25 => ?_) (fun h25 => ?_)
      · -- 25T
        refine WL.val (v_assign rfl rfl) (.none rfl) rfl rfl ?_
        refine WL.nil ?_
        refine WE.then_n ?_
        refine WC.cond_t rfl ?_
        refine WC.seq ?_
        refine WC.region ?_
        obtain ⟨q, eq, hq9, eq2, hqv⟩ := argE_set harg h25
        refine WL.val (v_loadN rfl rfl many_31 rfl allAt) (.none rfl) rfl rfl ?_
        refine WL.val (v_fieldAddr0 rfl rfl fld_45_1) (.none rfl) rfl rfl ?_
        refine WL.val (v_load1 rfl rfl one_37 (cellAt rfl)) (.none rfl) rfl rfl ?_
        refine WL.val (v_fieldAddr0 rfl rfl fld_45_2) (.none rfl) rfl rfl ?_
        refine WL.val (v_load1 rfl rfl one_22 (cellAt rfl)) (.none rfl) rfl rfl ?_
        refine WL.call rfl rfl ck_31 (.none rfl) rfl rfl ?_
        intro w hS
        refine Calls.then (by rw [eq]; exact With_c w H q hq9 t.val hI.nums.2.2.1.1 hqv (hG.keep (hp _) hS)) hS ?_
        refine WL.val (v_move rfl rfl) (.none rfl) rfl rfl ?_
        refine WL.val (v_extract rfl rfl rfl) (.none rfl) rfl rfl ?_
        refine WL.val (v_extract rfl rfl rfl) (.none rfl) rfl rfl ?_
        refine WL.alloc rfl zero_31 (.none rfl) rfl rfl ?_
        intro g6 hg6
        refine WL.storeW rfl rfl rfl rfl many_31 rfl rfl (.none rfl) rfl ?_
        refine WL.val (v_assign rfl rfl) (.none rfl) rfl rfl ?_
        refine WL.nil ?_
        refine WE.then_n ?_
        refine WC.seq ?_
        refine WC.region ?_
        refine WL.val (v_move rfl rfl) (.none rfl) rfl rfl ?_
        refine WL.val ((v_eql rfl rfl rfl).t (rfl)) (.none rfl) rfl rfl ?_
        refine WL.nil ?_
        refine WE.then_n ?_
        refine WC.cond_t rfl ?_
        refine WC.seq ?_
        refine WC.region ?_
        refine WL.val (v_loadN rfl rfl many_31 rfl allAt) (.none rfl) rfl rfl ?_
        refine WL.buildSlice rfl rfl Tryd.underlying47 sz_31 zero_31 rfl (by decide) rfl (.none rfl) rfl rfl ?_
        intro g38 hg38
        refine WL.val (v_assign rfl rfl) (.none rfl) rfl rfl ?_
        refine WL.val (v_assign rfl rfl) (.none rfl) rfl rfl ?_
        refine WL.nil ?_
        refine WE.then_n ?_
        refine WC.ret ?_
        refine WE.block_ret ?_
        refine WE.then_ret ?_
        refine WE.ret2 (P := Tryd.prog) (.inl rfl) Tryd.results56 rfl rfl ?_
        exact fun w' h => HdsPost.some (Rs := [wthF q t.val H]) (by rw [runT_eq, if_neg h11, if_neg h15, if_pos h25, eq2]) (Vec.row rfl rfl (Nat.le_refl _)) (h.sub (List.Sublist.append_left (.cons _ (.cons _ (.cons _ (.refl _)))) [_]))
      · -- 25F
        refine WL.val (v_assign rfl rfl) (.none rfl) rfl rfl ?_
        refine WL.nil ?_
        refine WE.then_n ?_
        refine WC.cond_f rfl ?_
        refine WC.seq ?_
        refine WC.region ?_
        refine WL.test (v_eql rfl rfl rfl) (.none rfl) rfl rfl (fun h40 => ?_) (fun h40 => ?_)
        · -- 40T
          refine WL.val (v_assign rfl rfl) (.none rfl) rfl rfl ?_
          refine WL.nil ?_
          refine WE.then_n ?_
          refine WC.cond_t rfl ?_
          refine WC.seq ?_
          refine WC.region ?_
          refine WL.val (v_loadN rfl rfl many_45 rfl allAt) (.none rfl) rfl rfl ?_
          refine WL.val (v_loadN rfl rfl many_31 rfl allAt) (.none rfl) rfl rfl ?_
          refine WL.call rfl rfl ck_80 (.none rfl) rfl rfl ?_
          intro w1 hS
          refine (par_c p w0 N ih t hN pred (.row g3 (hdL H) :: .row g2 (ndL t) :: L) w1 H hk hI (fun w' hS' => hAt w' hS'.tail.tail) hH hS).mono ?_
          rintro e w' ⟨Rs, ad, c, E, bb, rfl, hV, hS', hc⟩
          refine ⟨_, _, rfl, hS', ?_⟩
          refine WL.val (v_extract rfl rfl rfl) (.none rfl) rfl rfl ?_
          refine WL.val (v_extract rfl rfl rfl) (.none rfl) rfl rfl ?_
          refine WL.val (v_assign rfl rfl) (.none rfl) rfl rfl ?_
          refine WL.val (v_assign rfl rfl) (.none rfl) rfl rfl ?_
          refine WL.nil ?_
          refine WE.then_n ?_
          refine WC.ret ?_
          refine WE.block_ret ?_
          refine WE.then_ret ?_
          refine WE.ret2 (P := Tryd.prog) (.inl rfl) Tryd.results56 rfl rfl ?_
          exact fun w' h => ⟨Rs, ad, c, E, bb, rfl, hV, h.sub (List.Sublist.append_left (.cons _ (.cons _ (.refl _))) _), by rw [runT_eq, if_neg h11, if_neg h15, if_neg h25, if_pos h40]; exact hc⟩
        · -- 40F
          refine WL.val (v_assign rfl rfl) (.none rfl) rfl rfl ?_
          refine WL.nil ?_
          refine WE.then_n ?_
          refine WC.cond_f rfl ?_
          refine WC.seq ?_
          refine WC.region ?_
          refine WL.test (v_eql rfl rfl rfl) (.none rfl) rfl rfl (fun h47 => ?_) (fun h47 => ?_)
          · -- 47T
            refine WL.val (v_assign rfl rfl) (.none rfl) rfl rfl ?_
            refine WL.nil ?_
            refine WE.then_n ?_
            refine WC.cond_t rfl ?_
            refine WC.seq ?_
            refine WC.region ?_
            refine WL.val (v_loadN rfl rfl many_45 rfl allAt) (.none rfl) rfl rfl ?_
            refine WL.val (v_loadN rfl rfl many_31 rfl allAt) (.none rfl) rfl rfl ?_
            refine WL.call rfl rfl ck_81 (.none rfl) rfl rfl ?_
            intro w1 hS
            refine (seq_c p w0 N ih t hN pred (.row g3 (hdL H) :: .row g2 (ndL t) :: L) w1 H hk hI (fun w' hS' => hAt w' hS'.tail.tail) hH hS).mono ?_
            rintro e w' ⟨Rs, ad, c, E, bb, rfl, hV, hS', hc⟩
            refine ⟨_, _, rfl, hS', ?_⟩
            refine WL.val (v_extract rfl rfl rfl) (.none rfl) rfl rfl ?_
            refine WL.val (v_extract rfl rfl rfl) (.none rfl) rfl rfl ?_
            refine WL.val (v_assign rfl rfl) (.none rfl) rfl rfl ?_
            refine WL.val (v_assign rfl rfl) (.none rfl) rfl rfl ?_
            refine WL.nil ?_
            refine WE.then_n ?_
            refine WC.ret ?_
            refine WE.block_ret ?_
            refine WE.then_ret ?_
            refine WE.ret2 (P := Tryd.prog) (.inl rfl) Tryd.results56 rfl rfl ?_
            exact fun w' h => ⟨Rs, ad, c, E, bb, rfl, hV, h.sub (List.Sublist.append_left (.cons _ (.cons _ (.refl _))) _), by rw [runT_eq, if_neg h11, if_neg h15, if_neg h25, if_neg h40, if_pos h47]; exact hc⟩
          · -- 47F
            refine WL.val (v_assign rfl rfl) (.none rfl) rfl rfl ?_
            refine WL.nil ?_
            refine WE.then_n ?_
            refine WC.cond_f rfl ?_
            refine WC.seq ?_
            refine WC.region ?_
            refine WL.test (v_eql rfl rfl rfl) (.none rfl) rfl rfl (fun h54 => ?_) (fun h54 => ?_)
            · -- 54T
              refine WL.val (v_assign rfl rfl) (.none rfl) rfl rfl ?_
              refine WL.nil ?_
              refine WE.then_n ?_
              refine WC.cond_t rfl ?_
              refine WC.seq ?_
              refine WC.seq ?_
              refine WC.quiet mixed (by kernel_rfl) ?_
              refine WQ.val (v_fieldAddr0 rfl rfl fld_45_4) (.none rfl) rfl rfl ?_
              refine WQ.val (v_load1 rfl rfl one_43 (cellAt rfl)) (.none rfl) rfl rfl ?_
              have hl := l17 h54
              obtain ⟨u, hu⟩ : ∃ u, t.kids[0]? = some u := ⟨t.kids[0]'(by omega), List.getElem?_eq_getElem _⟩
              obtain ⟨bu, ou, eau, _⟩ := ((hAt _ hS0).kid hu).1
              obtain ⟨u1, hu1⟩ : ∃ u, t.kids[1]? = some u := ⟨t.kids[1]'(by omega), List.getElem?_eq_getElem _⟩
              obtain ⟨bu1, ou1, eau1, _⟩ := ((hAt _ hS0).kid hu1).1
              obtain ⟨u2, hu2⟩ : ∃ u, t.kids[2]? = some u := ⟨t.kids[2]'(by omega), List.getElem?_eq_getElem _⟩
              obtain ⟨bu2, ou2, eau2, _⟩ := ((hAt _ hS0).kid hu2).1
              refine WQ.val (v_indexAddr (b := bu) (off := ou) (lo := 0) rfl (by show some (Value.slice t.ad _ _) = _; rw [eau]) rfl Tryd.underlying43 sz_45 rfl (by omega)) (.none rfl) rfl rfl ?_
              refine WQ.val (v_loadN (cs := ndL u) rfl rfl many_45 rfl (fun w' hS' => (hAt w' hS'.tail.tail).kidAt hu eau)) (.none rfl) rfl rfl ?_
              refine WQ.val (v_loadN rfl rfl many_31 rfl allAt) (.none rfl) rfl rfl ?_
              refine WQ.call _ rfl rfl ck_66 (.none rfl) rfl rfl (fun w hS => Calls.still (holds_c H hH _ u (Nat.le_refl _) w (by have := hk.kid hu; rwa [show predK t.kind 0 = true by unfold predK; rw [decide_eq_true (by omega)]] at this) (hI.kids.get _ _ _ hu) ((hAt w hS.tail.tail).kid hu).2 (hG.keep (hp _) hS)) hS) ?_
              generalize hb60 : holdsT H u = bb0
              cases bb0
              · -- 60F
                refine WQ.nil ?_
                refine WE.then_n ?_
                refine WC.cond_f rfl ?_
                refine WC.skip ?_
                refine WE.then_n ?_
                refine WC.seq ?_
                refine WC.orders mixed ?_
                refine WR.first (g := 9) [0] (by kernel_rfl) (by kernel_rfl) ?_
                refine WP.val (v_fieldAddr0 rfl rfl fld_45_4) (.none rfl) rfl rfl ?_
                refine WP.nil ?_
                refine WR.read (g := 5) [1, 2, 3, 4] (by kernel_rfl) (by kernel_rfl) (by kernel_rfl) (by kernel_rfl) rfl ?_
                refine WQ.val (v_load1 rfl rfl one_43 (cellAt rfl)) (.none rfl) rfl rfl ?_
                refine WQ.val (v_indexAddr (b := bu2) (off := ou2) (lo := 2) rfl (by show some (Value.slice t.ad _ _) = _; rw [eau2]) rfl Tryd.underlying43 sz_45 rfl (by omega)) (.none rfl) rfl rfl ?_
                refine WQ.val (v_loadN (cs := ndL u2) rfl rfl many_45 rfl (fun w' hS' => (hAt w' hS'.tail.tail).kidAt hu2 eau2)) (.none rfl) rfl rfl ?_
                refine WQ.val (v_loadN rfl rfl many_31 rfl allAt) (.none rfl) rfl rfl ?_
                refine WQ.nilR ?_
                refine WR.ones (g := 4) [5] (by kernel_rfl) ?_
                refine WL.call rfl rfl ck_56 (.none rfl) rfl rfl ?_
                intro w1 hS
                refine (ih u2 (Nd.kidN hN hu2) _ (.row g3 (hdL H) :: .row g2 (ndL t) :: L) w1 H (hk.kid hu2) (hI.kids.get _ _ _ hu2) (fun w' hS' => ((hAt w' hS'.tail.tail).kid hu2).2) hH hS).mono ?_
                rintro e w' ⟨Rs, ad, c, E, bb, rfl, hV, hS', hc⟩
                refine ⟨_, _, rfl, hS', ?_⟩
                refine WL.nilR ?_
                refine WR.first (g := 0) [6, 7, 8, 9] (by kernel_rfl) (by kernel_rfl) ?_
                refine WP.val (v_extract rfl rfl rfl) (.none rfl) rfl rfl ?_
                refine WP.val (v_extract rfl rfl rfl) (.none rfl) rfl rfl ?_
                refine WP.val (v_assign rfl rfl) (.none rfl) rfl rfl ?_
                refine WP.val (v_assign rfl rfl) (.none rfl) rfl rfl ?_
                refine WP.nil ?_
                refine WR.done (by kernel_rfl) ?_
                refine WE.then_n ?_
                refine WC.ret ?_
                refine WE.block_ret ?_
                refine WE.then_ret ?_
                refine WE.ret2 (P := Tryd.prog) (.inl rfl) Tryd.results56 rfl rfl ?_
                exact fun w' h => ⟨Rs, ad, c, E, bb, rfl, hV, h.sub (List.Sublist.append_left (.cons _ (.cons _ (.refl _))) _), by rw [runT_eq, if_neg h11, if_neg h15, if_neg h25, if_neg h40, if_neg h47, if_pos h54, List.getD_eq_getElem?_getD, List.getElem?_map, hu, Option.map_some, Option.getD_some, hb60, if_neg (by decide), nthKs_get _ _ _ _ hu2]; exact hc⟩
              · -- 60T
                refine WQ.nil ?_
                refine WE.then_n ?_
                refine WC.cond_t rfl ?_
                refine WC.seq ?_
                refine WC.orders mixed ?_
                refine WR.first (g := 9) [0] (by kernel_rfl) (by kernel_rfl) ?_
                refine WP.val (v_fieldAddr0 rfl rfl fld_45_4) (.none rfl) rfl rfl ?_
                refine WP.nil ?_
                refine WR.read (g := 5) [1, 2, 3, 4] (by kernel_rfl) (by kernel_rfl) (by kernel_rfl) (by kernel_rfl) rfl ?_
                refine WQ.val (v_load1 rfl rfl one_43 (cellAt rfl)) (.none rfl) rfl rfl ?_
                refine WQ.val (v_indexAddr (b := bu1) (off := ou1) (lo := 1) rfl (by show some (Value.slice t.ad _ _) = _; rw [eau1]) rfl Tryd.underlying43 sz_45 rfl (by omega)) (.none rfl) rfl rfl ?_
                refine WQ.val (v_loadN (cs := ndL u1) rfl rfl many_45 rfl (fun w' hS' => (hAt w' hS'.tail.tail).kidAt hu1 eau1)) (.none rfl) rfl rfl ?_
                refine WQ.val (v_loadN rfl rfl many_31 rfl allAt) (.none rfl) rfl rfl ?_
                refine WQ.nilR ?_
                refine WR.ones (g := 4) [5] (by kernel_rfl) ?_
                refine WL.call rfl rfl ck_56 (.none rfl) rfl rfl ?_
                intro w1 hS
                refine (ih u1 (Nd.kidN hN hu1) _ (.row g3 (hdL H) :: .row g2 (ndL t) :: L) w1 H (hk.kid hu1) (hI.kids.get _ _ _ hu1) (fun w' hS' => ((hAt w' hS'.tail.tail).kid hu1).2) hH hS).mono ?_
                rintro e w' ⟨Rs, ad, c, E, bb, rfl, hV, hS', hc⟩
                refine ⟨_, _, rfl, hS', ?_⟩
                refine WL.nilR ?_
                refine WR.first (g := 0) [6, 7, 8, 9] (by kernel_rfl) (by kernel_rfl) ?_
                refine WP.val (v_extract rfl rfl rfl) (.none rfl) rfl rfl ?_
                refine WP.val (v_extract rfl rfl rfl) (.none rfl) rfl rfl ?_
                refine WP.val (v_assign rfl rfl) (.none rfl) rfl rfl ?_
                refine WP.val (v_assign rfl rfl) (.none rfl) rfl rfl ?_
                refine WP.nil ?_
                refine WR.done (by kernel_rfl) ?_
                refine WE.then_n ?_
                refine WC.ret ?_
                refine WE.then_ret ?_
                refine WE.block_ret ?_
                refine WE.then_ret ?_
                refine WE.ret2 (P := Tryd.prog) (.inl rfl) Tryd.results56 rfl rfl ?_
                exact fun w' h => ⟨Rs, ad, c, E, bb, rfl, hV, h.sub (List.Sublist.append_left (.cons _ (.cons _ (.refl _))) _), by rw [runT_eq, if_neg h11, if_neg h15, if_neg h25, if_neg h40, if_neg h47, if_pos h54, List.getD_eq_getElem?_getD, List.getElem?_map, hu, Option.map_some, Option.getD_some, hb60, if_pos rfl, nthKs_get _ _ _ _ hu1]; exact hc⟩
            · -- 54F
              refine WL.val (v_assign rfl rfl) (.none rfl) rfl rfl ?_
              refine WL.nil ?_
              refine WE.then_n ?_
              refine WC.cond_f rfl ?_
              refine WC.skip ?_
              refine WE.block_n ?_
              refine WE.then_n ?_
              refine WC.seq ?_
              refine WC.region ?_
              refine WL.val (v_assign rfl rfl) (.none rfl) rfl rfl ?_
              refine WL.val (v_assign rfl rfl) (.none rfl) rfl rfl ?_
              refine WL.nil ?_
              refine WE.then_n ?_
              refine WC.ret ?_
              refine WE.ret2 (P := Tryd.prog) (.inl rfl) Tryd.results56 rfl rfl ?_
              exact fun w' h => HdsPost.some (Rs := []) (by rw [runT_eq, if_neg h11, if_neg h15, if_neg h25, if_neg h40, if_neg h47, if_neg h54]) (Vec.nil 19) (h.sub (.cons _ (.cons _ (.refl _))))
theorem run_c (p : Nat → Prop) (hp : ∀ b, ¬ p b) (w0 : World) (hG : GW w0) : ∀ N, RunTo p w0 N
  | 0 => fun t hN => by cases t; simp only [Nd.mk.sizeOf_spec] at hN; omega
  | N + 1 => run_step p hp w0 hG N (run_c p hp w0 hG N)
end Go.Proofs.YtodaanhhnjkncaaDoor
/- The sort of headers: its order; its worlds as mine. -/
namespace Go.Proofs.YtodaanhhnjkncaaDoor
open Go.RowKit Go.Sort

/-! ### The order -/
theorem hcmp_lex (A B : Hd) : ∀ k, hcmpK A B k = lexK (getF A) (getF B) k
  | 0 => rfl
  | k + 1 => by
    show (if hcmpK A B k ≠ 0 then hcmpK A B k else cmpI _ _) = (if lexK (getF A) (getF B) k ≠ 0 then lexK (getF A) (getF B) k else cmpI _ _)
    rw [hcmp_lex A B k]
theorem cmpI_lt (x y : Int) : cmpI x y < 0 ↔ x < y := by unfold cmpI; split <;> (try split) <;> omega
theorem lexK_lt (f g : Nat → Int) : ∀ k, lexK f g k < 0 ↔ ∃ i, i < k ∧ (∀ j, j < i → f j = g j) ∧ f i < g i
  | 0 => ⟨fun h => absurd h (by show ¬ (0 : Int) < 0; omega), fun ⟨i, h, _⟩ => absurd h (Nat.not_lt_zero i)⟩
  | k + 1 => by
    have ih := lexK_lt f g k
    have hz := lexK_zero f g k
    show (if lexK f g k ≠ 0 then lexK f g k else cmpI (f k) (g k)) < 0 ↔ _
    by_cases h : lexK f g k = 0
    · rw [if_neg (by omega), cmpI_lt]
      constructor
      · intro hl; exact ⟨k, by omega, hz.1 h, hl⟩
      · rintro ⟨i, hi, he, hl⟩
        by_cases e : i = k
        · subst e; exact hl
        · have := hz.1 h i (by omega); omega
    · rw [if_pos h, ih]
      constructor
      · rintro ⟨i, hi, he, hl⟩; exact ⟨i, by omega, he, hl⟩
      · rintro ⟨i, hi, he, hl⟩
        by_cases e : i = k
        · subst e; exact absurd (hz.2 he) h
        · exact ⟨i, by omega, he, hl⟩
theorem lex_trans {f g h : Nat → Int} {k : Nat} (h1 : lexK f g k < 0) (h2 : lexK g h k < 0) : lexK f h k < 0 := by
  obtain ⟨i, hi, he, hl⟩ := (lexK_lt f g k).1 h1
  obtain ⟨j, hj, he', hl'⟩ := (lexK_lt g h k).1 h2
  refine (lexK_lt f h k).2 ?_
  rcases Nat.lt_trichotomy i j with e | e | e
  · exact ⟨i, hi, fun q hq => (he q hq).trans (he' q (by omega)), by have := he' i e; omega⟩
  · subst e; exact ⟨i, hi, fun q hq => (he q hq).trans (he' q hq), by omega⟩
  · exact ⟨j, hj, fun q hq => (he q (by omega)).trans (he' q hq), by have := he j e; omega⟩
theorem lex_nlt {f g : Nat → Int} {k : Nat} : ¬ lexK f g k < 0 ↔ lexK g f k < 0 ∨ lexK f g k = 0 := by
  have := lexK_neg f g k
  omega
theorem lex_eqr {f g h : Nat → Int} {k : Nat} (h1 : lexK f g k = 0) : lexK f h k = lexK g h k := by
  have hz := (lexK_zero f g k).1 h1
  have key : ∀ m, m ≤ k → lexK f h m = lexK g h m := by
    intro m
    induction m with
    | zero => exact fun _ => rfl
    | succ m ih =>
      intro hm
      show (if lexK f h m ≠ 0 then lexK f h m else cmpI _ _) = (if lexK g h m ≠ 0 then lexK g h m else cmpI _ _)
      rw [ih (by omega), hz m (by omega)]
  exact key k (Nat.le_refl _)
theorem lex_eql {f g h : Nat → Int} {k : Nat} (h1 : lexK g h k = 0) : lexK f g k = lexK f h k := by
  have := lex_eqr (h := f) h1
  rw [lexK_neg f g, lexK_neg f h, this]
abbrev HdI := { H : Hd // H.In }
instance : Inhabited HdI := ⟨⟨Hd.zero, Hd.zero_in⟩⟩
def hcf (x y : HdI) : Int := hcmpK x.1 y.1 9
theorem hcf_swo : Go.Sort.SWO (ltOf hcf) := by
  constructor
  · intro x
    unfold ltOf hcf
    rw [hcmp_lex]
    exact decide_eq_false (by have := (lexK_zero (getF x.1) (getF x.1) 9).2 (fun _ _ => rfl); omega)
  · intro x y z h1 h2
    unfold ltOf hcf at *
    rw [hcmp_lex] at *
    exact decide_eq_true (lex_trans (of_decide_eq_true h1) (of_decide_eq_true h2))
  · intro x y z h1 h2
    unfold ltOf hcf at *
    rw [hcmp_lex] at *
    have a := lex_nlt.1 (of_decide_eq_false h1)
    have b := lex_nlt.1 (of_decide_eq_false h2)
    refine decide_eq_false (lex_nlt.2 ?_)
    rcases a with a | a
    · rcases b with b | b
      · exact .inl (lex_trans b a)
      · left
        have := lex_eql (f := getF z.1) (lexK_neg (getF y.1) (getF z.1) 9 ▸ b : lexK (getF y.1) (getF z.1) 9 = 0)
        have e := lex_eqr (h := getF x.1) b
        omega
    · rcases b with b | b
      · left
        have e := lex_eql (f := getF z.1) (g := getF x.1) (h := getF y.1) a
        omega
      · right
        rw [lex_eqr a]; exact b
/-! ### Worlds -/
theorem Frm.grown {w w' : World} (h : Frm (fun _ => False) w w') : ∃ q os', w' = Go.Sort.grow (w.drewN q) os' := by
  refine ⟨w'.drawn - w.drawn, (w'.heap.toList.drop w.heap.size).toArray, ?_⟩
  have h1 := h.drawn
  have hh : w'.heap = w.heap ++ (w'.heap.toList.drop w.heap.size).toArray := by
    apply Array.ext_getElem?
    intro k
    rw [Array.getElem?_append]
    split
    · rename_i hk; exact h.block k hk (fun h => h)
    · rename_i hk
      simp only [List.getElem?_toArray, List.getElem?_drop, Array.getElem?_toList]
      rw [show w.heap.size + (k - w.heap.size) = k by omega]
  have ext : ∀ a b : World, a.heap = b.heap → a.tape = b.tape → a.drawn = b.drawn → a.os = b.os → a.output = b.output → a = b := by
    rintro ⟨⟩ ⟨⟩ h1 h2 h3 h4 h5
    dsimp only at h1 h2 h3 h4 h5
    subst h1 h2 h3 h4 h5
    rfl
  exact ext _ _ hh h.tape (by show w'.drawn = w.drawn + (w'.drawn - w.drawn); omega) h.os h.output
def hEnc (x : HdI) : List Value := hdL x.1
theorem sortW_frm (w : World) (blk off m : Nat) (d : Array HdI) (os : Array Obj) : Frm (fun b => b = blk) w (sortWorldK hEnc 19 w blk off m d os) := by
  have hsz : (putRowK hEnc 19 (Go.Sort.ahead w m) blk off d).heap.size = w.heap.size := by unfold putRowK; rw [Go.Sort.size_putRow]; rfl
  refine ⟨rfl, rfl, rfl, ?_, ?_, Nat.le_add_right _ _⟩
  · show w.heap.size ≤ ((putRowK hEnc 19 (Go.Sort.ahead w m) blk off d).heap ++ os).size
    rw [Array.size_append, hsz]; omega
  · intro k hk hn
    show ((putRowK hEnc 19 (Go.Sort.ahead w m) blk off d).heap ++ os)[k]? = _
    rw [Array.getElem?_append_left (by rw [hsz]; exact hk)]
    show (w.heap.modify blk _)[k]? = _
    rw [Array.getElem?_modify, if_neg (fun e => hn e.symm)]
def srtL (d : Array HdI) (cs : List Value) : List Value := (Go.Sort.putCells id 0 (flatK hEnc 19 d) cs.toArray).toList
theorem srtL_len (d : Array HdI) (cs : List Value) : (srtL d cs).length = cs.length := by simp [srtL, Go.Sort.putCells]
theorem hEnc_len (x : HdI) : (hEnc x).length = 19 := rfl
theorem srtL_take (d : Array HdI) (cs : List Value) (h : d.size * 19 ≤ cs.length) : (srtL d cs).take (d.size * 19) = hdsL (d.toList.map (·.1)) := by
  have hl : (hdsL (d.toList.map (·.1))).length = d.size * 19 := by rw [hdsL_len, List.length_map, Array.length_toList]
  apply List.ext_getElem?
  intro t
  by_cases ht : t < d.size * 19
  · rw [List.getElem?_take, if_pos ht]
    have hq : t / 19 < d.size := by omega
    have hr : t % 19 < 19 := Nat.mod_lt _ (by omega)
    have e1 : (srtL d cs)[t]? = some ((hEnc d[t / 19]!)[t % 19]!) := by
      unfold srtL Go.Sort.putCells
      rw [Array.getElem?_toList, Array.getElem?_mapIdx]
      rw [show cs.toArray[t]? = some (cs[t]'(by omega)) by rw [List.getElem?_toArray]; exact List.getElem?_eq_getElem _]
      simp only [Option.map_some, size_flatK]
      rw [if_pos (by omega), Nat.sub_zero, get_flatK _ _ _ _ ht]
      rfl
    have e2 : (d.toList.map (·.1))[t / 19]? = some (d[t / 19]!).1 := by
      rw [List.getElem?_map, Array.getElem?_toList, Array.getElem?_eq_getElem hq, getElem!_pos d (t / 19) hq]; rfl
    have e3 := hdsL_seg _ _ _ e2
    have e4 : (hdL (d[t / 19]!).1)[t % 19]? = (hdsL (d.toList.map (·.1)))[t]? := by
      rw [← e3, List.getElem?_take, if_pos hr, List.getElem?_drop]
      congr 1
      omega
    rw [e1, ← e4]
    show some ((hdL (d[t / 19]!).1)[t % 19]!) = _
    rw [getElem!_pos (hdL (d[t / 19]!).1) (t % 19) (by rw [hdL_len]; exact hr)]
    exact (List.getElem?_eq_getElem _).symm
  · rw [List.getElem?_eq_none (by rw [List.length_take]; omega), List.getElem?_eq_none (by rw [hl]; omega)]
theorem sortW_row {w : World} {blk m : Nat} {cs : List Value} {d : Array HdI} {os : Array Obj} (h : Row w blk cs) : Row (sortWorldK hEnc 19 w blk 0 m d os) blk (srtL d cs) := by
  have hlt := h.lt
  obtain ⟨T, lo, hi, hb, hf⟩ := h
  refine ⟨T, lo, hi, ?_, by rw [srtL_len]; exact hf⟩
  have hsz : (putRowK hEnc 19 (Go.Sort.ahead w m) blk 0 d).heap.size = w.heap.size := by unfold putRowK; rw [Go.Sort.size_putRow]; rfl
  show ((putRowK hEnc 19 (Go.Sort.ahead w m) blk 0 d).heap ++ os)[blk]? = _
  rw [Array.getElem?_append_left (by rw [hsz]; exact hlt)]
  show (w.heap.modify blk _)[blk]? = _
  rw [Array.getElem?_modify, if_pos rfl, hb]
  rfl
theorem sortW_st {p : Nat → Prop} {w0 w : World} {blk m : Nat} {cs : List Value} {d : Array HdI} {os : Array Obj} {L : List Ent} (hS : St p w0 w (.row blk cs :: L)) : St p w0 (sortWorldK hEnc 19 w blk 0 m d os) (.row blk (srtL d cs) :: L) := by
  have hF := sortW_frm w blk 0 m d os
  have hR : Row w blk cs := hS.holds (.row blk cs) (by simp)
  have hm := hS.mine (.row blk cs) (by simp)
  refine ⟨⟨hF.os.trans hS.frm.os, hF.tape.trans hS.frm.tape, hF.output.trans hS.frm.output, Nat.le_trans hS.frm.size hF.size, fun k hk hn => ?_, Nat.le_trans hS.frm.drawn hF.drawn⟩, ?_, hS.dist, ?_⟩
  · have hne : ¬ k = blk := fun e => by
      subst e
      rcases hm with h | h
      · exact hn h
      · exact absurd hk (by show ¬ k < w0.heap.size; have : w0.heap.size ≤ k := h; omega)
    exact (hF.block k (Nat.lt_of_lt_of_le hk hS.frm.size) hne).trans (hS.frm.block k hk hn)
  · intro e he
    rcases List.mem_cons.1 he with rfl | he
    · exact sortW_row hR
    · have hh := hS.holds e (List.mem_cons_of_mem _ he)
      refine Ent.keep hh (hF.block _ (Ent.lt hh) fun e' => ?_)
      have hd := hS.dist
      simp only [List.map_cons, List.nodup_cons] at hd
      exact hd.1 (List.mem_map.2 ⟨e, he, e'⟩)
  · intro e he
    rcases List.mem_cons.1 he with rfl | he
    · exact hm
    · exact hS.mine e (List.mem_cons_of_mem _ he)
end Go.Proofs.YtodaanhhnjkncaaDoor
/- The kit's laying SlLaysF0.n6 at this seat's functions. Printed by wip/tools/lays.py. -/
namespace Go.Proofs.YtodaanhhnjkncaaDoor
open Go.RowKit Go.Shelf

def ren57 : Ren := ⟨fun n => match n with | 6 => 57 | 14 => 82 | 15 => 83 | 20 => 109 | 21 => 110 | 22 => 111 | 23 => 112 | 24 => 113 | 25 => 114 | 26 => 115 | 27 => 116 | 28 => 117 | 29 => 118 | 46 => 126 | 47 => 127 | 48 => 128 | 49 => 129 | 50 => 130 | 57 => 141 | n => n, fun n => match n with | 0 => 0 | 3 => 3 | 4 => 4 | 5 => 5 | 9 => 9 | 22 => 47 | 24 => 31 | 25 => 115 | 39 => 39 | 45 => 158 | 46 => 159 | 50 => 163 | 53 => 28 | 55 => 22 | 66 => 172 | 70 => 176 | 76 => 184 | 77 => 54 | n => n, fun n => n⟩
set_option maxRecDepth 100000 in
theorem lays57 : SlLaysF0.n6 Tryd.prog ren57 where
  mixed := mixed
  f6 := ⟨Tryd.f57.name, by decide, Tryd.func57.trans (congrArg some (by kernel_rfl))⟩
  f14 := ⟨Tryd.f82.name, by decide, Tryd.func82.trans (congrArg some (by kernel_rfl))⟩
  f15 := Tryd.func83.trans (congrArg some (by kernel_rfl))
  f20 := ⟨Tryd.f109.name, by decide, Tryd.func109.trans (congrArg some (by kernel_rfl))⟩
  f21 := ⟨Tryd.f110.name, by decide, Tryd.func110.trans (congrArg some (by kernel_rfl))⟩
  f22 := ⟨Tryd.f111.name, by decide, Tryd.func111.trans (congrArg some (by kernel_rfl))⟩
  f23 := ⟨Tryd.f112.name, by decide, Tryd.func112.trans (congrArg some (by kernel_rfl))⟩
  f24 := ⟨Tryd.f113.name, by decide, Tryd.func113.trans (congrArg some (by kernel_rfl))⟩
  f25 := ⟨Tryd.f114.name, by decide, Tryd.func114.trans (congrArg some (by kernel_rfl))⟩
  f26 := ⟨Tryd.f115.name, by decide, Tryd.func115.trans (congrArg some (by kernel_rfl))⟩
  f27 := ⟨Tryd.f116.name, by decide, Tryd.func116.trans (congrArg some (by kernel_rfl))⟩
  f28 := Tryd.func117.trans (congrArg some (by kernel_rfl))
  f29 := Tryd.func118.trans (congrArg some (by kernel_rfl))
  f46 := ⟨Tryd.f126.name, by decide, Tryd.func126.trans (congrArg some (by kernel_rfl))⟩
  f47 := Tryd.func127.trans (congrArg some (by kernel_rfl))
  f48 := Tryd.func128.trans (congrArg some (by kernel_rfl))
  f49 := ⟨Tryd.f129.name, by decide, Tryd.func129.trans (congrArg some (by kernel_rfl))⟩
  f50 := ⟨Tryd.f130.name, by decide, Tryd.func130.trans (congrArg some (by kernel_rfl))⟩
  f57 := ⟨Tryd.f141.name, by decide, Tryd.func141.trans (congrArg some (by kernel_rfl))⟩
  t0 := Tryd.underlying0
  a0 := Tryd.isAgg0
  z0 := Tryd.sizeOf0
  v0 := Tryd.zeroValue0
  t3 := Tryd.underlying3
  a3 := Tryd.isAgg3
  z3 := Tryd.sizeOf3
  v3 := Tryd.zeroValue3
  t4 := Tryd.underlying4
  a4 := Tryd.isAgg4
  z4 := Tryd.sizeOf4
  v4 := Tryd.zeroValue4
  t5 := Tryd.underlying5
  a5 := Tryd.isAgg5
  z5 := Tryd.sizeOf5
  v5 := Tryd.zeroValue5
  t9 := Tryd.underlying9
  a9 := Tryd.isAgg9
  z9 := Tryd.sizeOf9
  v9 := Tryd.zeroValue9
  t22 := Tryd.underlying47
  a22 := Tryd.isAgg47
  z22 := Tryd.sizeOf47
  v22 := Tryd.zeroValue47
  t25 := Tryd.underlying115
  a25 := Tryd.isAgg115
  z25 := Tryd.sizeOf115
  v25 := Tryd.zeroValue115
  t39 := Tryd.underlying39
  a39 := Tryd.isAgg39
  z39 := Tryd.sizeOf39
  v39 := Tryd.zeroValue39
  t45 := Tryd.underlying158
  a45 := Tryd.isAgg158
  z45 := Tryd.sizeOf158
  v45 := Tryd.zeroValue158
  t46 := Tryd.underlying159
  a46 := Tryd.isAgg159
  z46 := Tryd.sizeOf159
  v46 := Tryd.zeroValue159
  t50 := Tryd.underlying163
  a50 := Tryd.isAgg163
  z50 := Tryd.sizeOf163
  v50 := Tryd.zeroValue163
  t53 := Tryd.underlying28
  a53 := Tryd.isAgg28
  z53 := Tryd.sizeOf28
  v53 := Tryd.zeroValue28
  t55 := Tryd.underlying22
  a55 := Tryd.isAgg22
  z55 := Tryd.sizeOf22
  v55 := Tryd.zeroValue22
  t66 := Tryd.underlying172
  a66 := Tryd.isAgg172
  z66 := Tryd.sizeOf172
  v66 := Tryd.zeroValue172
  t70 := Tryd.underlying176
  a70 := Tryd.isAgg176
  z70 := Tryd.sizeOf176
  v70 := Tryd.zeroValue176
  t76 := Tryd.underlying184
  a76 := Tryd.isAgg184
  z76 := Tryd.sizeOf184
  v76 := Tryd.zeroValue184
  t77 := Tryd.underlying54
  a77 := Tryd.isAgg54
  z77 := Tryd.sizeOf54
  v77 := Tryd.zeroValue54
end Go.Proofs.YtodaanhhnjkncaaDoor
/- slices.SortFunc of headers, whatever their number. -/
namespace Go.Proofs.YtodaanhhnjkncaaDoor
open Go.RowKit Go.Sort

theorem GW.frm {q : Nat → Prop} {w w' : World} (hF : Frm q w w') (hq : ¬ q 0) (h : GW w) : GW w' :=
  h.keep (L := []) hq ⟨hF, (fun _ h => by cases h), (by simp), (fun _ h => by cases h)⟩
theorem GW.lt {w : World} (h : GW w) : 0 < w.heap.size := by
  have h0 := h 0 (by omega)
  unfold World.cell? at h0
  rcases Nat.lt_or_ge 0 w.heap.size with h' | h'
  · exact h'
  · rw [Array.getElem?_eq_none h'] at h0; cases h0
theorem hflat_get (d : Array HdI) {t : Nat} (ht : t < d.size * 19) : (hdsL (d.toList.map (·.1)))[t]? = some ((hEnc d[t / 19]!)[t % 19]!) := by
  have hq : t / 19 < d.size := by omega
  have hr : t % 19 < 19 := Nat.mod_lt _ (by omega)
  have e2 : (d.toList.map (·.1))[t / 19]? = some (d[t / 19]!).1 := by
    rw [List.getElem?_map, Array.getElem?_toList, Array.getElem?_eq_getElem hq, getElem!_pos d (t / 19) hq]; rfl
  have e3 := hdsL_seg _ _ _ e2
  have e4 : (hdL (d[t / 19]!).1)[t % 19]? = (hdsL (d.toList.map (·.1)))[t]? := by
    rw [← e3, List.getElem?_take, if_pos hr, List.getElem?_drop]
    congr 1
    omega
  rw [← e4]
  show _ = some ((hdL (d[t / 19]!).1)[t % 19]!)
  rw [getElem!_pos (hdL (d[t / 19]!).1) (t % 19) (by rw [hdL_len]; exact hr)]
  exact List.getElem?_eq_getElem _
/-- Ascending: no later one is less than an earlier one. -/
def Asc (Rs : List Hd) : Prop := ∀ (i j : Nat) (A B : Hd), Rs[i]? = some A → Rs[j]? = some B → i < j → ¬ hcmpK B A 9 < 0
theorem sort_c (p : Nat → Prop) (hp : ∀ b, ¬ p b) (w0 w : World) (hG : GW w0) (L E : List Ent) (ad : Option Addr) (c : Nat) (Hs : List Hd) (hIn : ∀ x ∈ Hs, x.In) (hV : Vec 19 ad Hs.length c (hdsL Hs) E) (hS : St p w0 w (E ++ L)) (hlen : Hs.length < 4611686018427387904) :
    Calls Tryd.prog 57 #[.slice ad Hs.length c, .func (.func 58) #[] #[]] w fun e w' =>
      e = .returned (.tuple #[]) ∧ ∃ Rs E', Rs.Perm Hs ∧ Asc Rs ∧ Vec 19 ad Hs.length c (hdsL Rs) E' ∧ St p w0 w' (E' ++ L) := by
  rcases hV with ⟨ha, hn, hc, hx, hE⟩ | ⟨g, cs, rfl, rfl, hx, hcl, hk⟩
  · have e0 : Hs = [] := List.length_eq_zero_iff.1 hn
    subst e0
    refine (Sort_s w ad _ c _ (by show 0 ≤ 1; omega)).mono fun e w' h => ⟨h.1, [], E, .refl _, fun i j A B h => by simp at h, .inl ⟨ha, hn, hc, hx, hE⟩, hS.ext h.2⟩
  · have hS' : St p w0 w (.row g cs :: L) := hS
    have hR : Row w g cs := hS'.holds (.row g cs) (by simp)
    have hgw : GW w := hG.keep (hp _) hS'
    have hgne : ¬ 0 = g := fun e => by
      rcases hS'.mine (.row g cs) (by simp) with h | h
      · exact hp _ h
      · have := hG.lt; have : w0.heap.size ≤ g := h; omega
    have hd : ∃ d : Array HdI, d.toList.map (·.1) = Hs ∧ d.size = Hs.length := ⟨(Hs.attach.map fun x => (⟨x.1, hIn x.1 x.2⟩ : HdI)).toArray, by rw [List.map_map]; exact List.attach_map_subtype_val Hs, by simp⟩
    obtain ⟨d, hd1, hd2⟩ := hd
    have hcs : Hs.length * 19 ≤ cs.length := by rw [hcl]; exact Nat.mul_le_mul_right 19 hk
    have hcmp : CmpLays Tryd.prog 58 #[] hEnc 19 hcf g 0 d.size w := fun m os dk hs x y => by
      have h := HCmp_c (sortWorldK hEnc 19 w g 0 m dk os) x.1 y.1 x.2 y.2 (GW.frm (sortW_frm w g 0 m dk os) hgne hgw)
      exact h.mono fun e w' ⟨he, hF⟩ => ⟨he, hF.grown⟩
    have hH : HoldsK hEnc 19 w g 0 d := fun t ht => by
      rw [size_flatK] at ht
      have ht2 : t < cs.length := by rw [hd2] at ht; omega
      rw [Nat.zero_add]
      refine ⟨hR.cell ?_, hR.frozen ht2⟩
      show cs[t]? = some ((flatK hEnc 19 d)[t]!)
      rw [get_flatK _ _ _ _ ht, ← hflat_get d ht, hd1, ← hx, List.getElem?_take, if_pos (by rw [← hd2]; exact ht)]
    have key := AnyQ.slices_SortFunc (P := Tryd.prog) lays57 19 Tryd.isAgg31 Tryd.sizeOf31 hEnc hEnc_len (fun x v hv => by
      unfold hEnc hdL at hv
      simp only [List.mem_cons, List.not_mem_nil, or_false] at hv
      rcases hv with h | h | h | h | h | h | h | h | h | h | h | h | h | h | h | h | h | h | h <;> (subst h; rfl)) hcf hcf_swo 58 #[] g 0 c d w ck_58 hcmp hH hR.lt (by rw [hd2]; exact hlen)
    rw [hd2] at key
    refine key.mono ?_
    rintro e w' ⟨he, d', n, os, ⟨hs1, _, hperm⟩, hsort, rfl⟩
    have hd' : d'.size = Hs.length := by rw [hs1, hd2]
    rw [← hd2] at hperm
    have f1 : d'.extract 0 d.size = d' := by rw [← hs1]; simp
    have f2 : d.extract 0 d.size = d := by simp
    rw [f1, f2] at hperm
    have hrow := srtL_take d' cs (by rw [hd']; exact hcs)
    refine ⟨he, d'.toList.map (·.1), [.row g (srtL d' cs)], ?_, ?_, ?_, sortW_st hS'⟩
    · rw [← hd1]; exact hperm.map _
    · intro i j A B hi hj hij
      have li := (List.getElem?_eq_some_iff.1 hi).1
      have lj := (List.getElem?_eq_some_iff.1 hj).1
      rw [List.length_map, Array.length_toList] at li lj
      have h := hsort i j (Nat.zero_le _) hij (by rw [← hd']; exact lj)
      rw [List.getElem?_map, Array.getElem?_toList, Array.getElem?_eq_getElem li] at hi
      rw [List.getElem?_map, Array.getElem?_toList, Array.getElem?_eq_getElem lj] at hj
      rw [getElem!_pos d' i li, getElem!_pos d' j lj] at h
      have ea := Option.some.inj hi
      have eb := Option.some.inj hj
      subst ea eb
      exact of_decide_eq_false h
    · exact .inr ⟨g, srtL d' cs, rfl, rfl, by rw [← hd', hrow], by rw [srtL_len]; exact hcl, hk⟩
end Go.Proofs.YtodaanhhnjkncaaDoor
/- policy: Run; Fwd; the law's own par, seq, filter. -/
namespace Go.Proofs.YtodaanhhnjkncaaDoor
open Go.RowKit

/-- What Run hands back. -/
def RunIs (t : Nd) (H : Hd) (Rs : List Hd) (er : Int) : Prop :=
  if (walkT t 1 false 0).1 ≠ 0 then er = (walkT t 1 false 0).1 ∧ Rs = []
  else if H.okB = false then er = 1 ∧ Rs = []
  else match runT t H with
    | none => er = 34 ∧ Rs = []
    | some Qs => er = 0 ∧ Rs.Perm Qs ∧ Asc Rs
def RunPost (p : Nat → Prop) (w0 : World) (L : List Ent) (t : Nd) (H : Hd) (e : Ending) (w' : World) : Prop :=
  ∃ Rs ad c E er, e = .returned (.tuple #[.slice ad (List.length Rs) c, .int .i64 er]) ∧ Vec 19 ad (List.length Rs) c (hdsL Rs) E ∧ St p w0 w' (E ++ L) ∧ RunIs t H Rs er
set_option maxHeartbeats 1000000 in
theorem Run_c (p : Nat → Prop) (hp : ∀ b, ¬ p b) (w0 : World) (hG : GW w0) (L : List Ent) (w1 : World) (t : Nd) (H : Hd) (hI : t.In) (hAt : ∀ w, St p w0 w L → t.At w) (hH : H.In) (hS0 : St p w0 w1 L) :
    Calls Tryd.prog 21 #[ndV t, .agg (hdCells H)] w1 (RunPost p w0 L t H) := by
  refine enter Tryd.func21 rfl Tryd.ntmps21 rfl hS0 ?_
  refine WC.seq ?_
  refine WC.region ?_
  refine WL.box rfl rfl rfl (.none rfl) rfl rfl ?_
  intro g2 hg2
  refine WL.box rfl rfl rfl (.none rfl) rfl rfl ?_
  intro g3 hg3
  refine WL.val (v_assign rfl rfl) (.none rfl) rfl rfl ?_
  refine WL.val (v_assign rfl rfl) (.none rfl) rfl rfl ?_
  refine WL.nil ?_
  refine WE.then_n ?_
  refine WC.seq ?_
  refine WC.seq ?_
  refine WC.region ?_
  refine WL.val (v_loadN rfl rfl many_45 rfl allAt) (.none rfl) rfl rfl ?_
  refine WL.call rfl rfl ck_33 (.none rfl) rfl rfl ?_
  intro w hS
  refine Calls.then (Check_c w t hI (hAt w hS.tail.tail) (hG.keep (hp _) hS)) hS ?_
  refine WL.val (v_assign rfl rfl) (.none rfl) rfl rfl ?_
  refine WL.nil ?_
  refine WE.then_n ?_
  refine WC.seq ?_
  refine WC.region ?_
  refine WL.val (v_move rfl rfl) (.none rfl) rfl rfl ?_
  refine WL.test (v_neq rfl rfl rfl) (.none rfl) rfl rfl (fun h13 => ?_) (fun h13 => ?_)
  · -- 13T
    refine WL.nil ?_
    refine WE.then_n ?_
    refine WC.cond_t rfl ?_
    refine WC.seq ?_
    refine WC.region ?_
    refine WL.val (v_move rfl rfl) (.none rfl) rfl rfl ?_
    refine WL.val (v_assign rfl rfl) (.none rfl) rfl rfl ?_
    refine WL.val (v_assign rfl rfl) (.none rfl) rfl rfl ?_
    refine WL.nil ?_
    refine WE.then_n ?_
    refine WC.ret ?_
    refine WE.then_ret ?_
    refine WE.ret2 (P := Tryd.prog) (.inl rfl) Tryd.results21 rfl rfl ?_
    exact fun w' h => ⟨[], none, 0, [], _, rfl, Vec.nil 19, h.tail.tail, by unfold RunIs; rw [if_pos h13]; exact ⟨rfl, rfl⟩⟩
  · -- 13F
    refine WL.nil ?_
    refine WE.then_n ?_
    refine WC.cond_f rfl ?_
    refine WC.skip ?_
    refine WE.then_n ?_
    refine WC.seq ?_
    refine WC.seq ?_
    refine WC.region ?_
    refine WL.val (v_loadN rfl rfl many_31 rfl allAt) (.none rfl) rfl rfl ?_
    refine WL.call rfl rfl ck_24 (.none rfl) rfl rfl ?_
    intro w hS
    refine Calls.then (HCheck_c w H hH (hG.keep (hp _) hS)) hS ?_
    generalize hok : H.okB = okb
    cases okb
    · -- 16F
      refine WL.val (v_assign rfl rfl) (.none rfl) rfl rfl ?_
      refine WL.nil ?_
      refine WE.then_n ?_
      refine WC.seq ?_
      refine WC.region ?_
      refine WL.val (v_move rfl rfl) (.none rfl) rfl rfl ?_
      refine WL.val ((v_neq rfl rfl rfl).t ((fun h => absurd h (by decide)))) (.none rfl) rfl rfl ?_
      refine WL.nil ?_
      refine WE.then_n ?_
      refine WC.cond_t rfl ?_
      refine WC.seq ?_
      refine WC.region ?_
      refine WL.val (v_move rfl rfl) (.none rfl) rfl rfl ?_
      refine WL.val (v_assign rfl rfl) (.none rfl) rfl rfl ?_
      refine WL.val (v_assign rfl rfl) (.none rfl) rfl rfl ?_
      refine WL.nil ?_
      refine WE.then_n ?_
      refine WC.ret ?_
      refine WE.then_ret ?_
      refine WE.ret2 (P := Tryd.prog) (.inl rfl) Tryd.results21 rfl rfl ?_
      exact fun w' h => ⟨[], none, 0, [], _, rfl, Vec.nil 19, h.tail.tail, by unfold RunIs; rw [if_neg h13, if_pos hok]; exact ⟨rfl, rfl⟩⟩
    · -- 16T
      refine WL.val (v_assign rfl rfl) (.none rfl) rfl rfl ?_
      refine WL.nil ?_
      refine WE.then_n ?_
      refine WC.seq ?_
      refine WC.region ?_
      refine WL.val (v_move rfl rfl) (.none rfl) rfl rfl ?_
      refine WL.val ((v_neq rfl rfl rfl).f (fun h => h rfl)) (.none rfl) rfl rfl ?_
      refine WL.nil ?_
      refine WE.then_n ?_
      refine WC.cond_f rfl ?_
      refine WC.skip ?_
      refine WE.then_n ?_
      refine WC.seq ?_
      refine WC.region ?_
      refine WL.val (v_loadN rfl rfl many_45 rfl allAt) (.none rfl) rfl rfl ?_
      refine WL.val (v_loadN rfl rfl many_31 rfl allAt) (.none rfl) rfl rfl ?_
      refine WL.call rfl rfl ck_56 (.none rfl) rfl rfl ?_
      intro w1 hS
      refine (run_c p hp w0 hG _ t (Nat.le_refl _) false (.row g3 (hdL H) :: .row g2 (ndL t) :: L) w1 H (walkT_ok _ _ _ _ (Classical.not_not.1 h13)) hI (fun w' hS' => hAt w' hS'.tail.tail) hH hS).mono ?_
      rintro e w' ⟨Rs, ad, c, E, bb, rfl, hV, hS', hc⟩
      refine ⟨_, _, rfl, hS', ?_⟩
      refine WL.val (v_move rfl rfl) (.none rfl) rfl rfl ?_
      refine WL.val (v_extract rfl rfl rfl) (.none rfl) rfl rfl ?_
      refine WL.val (v_extract rfl rfl rfl) (.none rfl) rfl rfl ?_
      skip
      cases bb
      · -- 25F
        refine WL.val (v_assign rfl rfl) (.none rfl) rfl rfl ?_
        refine WL.val (v_assign rfl rfl) (.none rfl) rfl rfl ?_
        refine WL.nil ?_
        refine WE.then_n ?_
        refine WC.seq ?_
        refine WC.seq ?_
        refine WC.region ?_
        refine WL.val (v_move rfl rfl) (.none rfl) rfl rfl ?_
        refine WL.val (v_not rfl rfl rfl) (.none rfl) rfl rfl ?_
        refine WL.nil ?_
        refine WE.then_n ?_
        refine WC.cond_t rfl ?_
        refine WC.seq ?_
        refine WC.region ?_
        refine WL.val (v_assign rfl rfl) (.none rfl) rfl rfl ?_
        refine WL.val (v_assign rfl rfl) (.none rfl) rfl rfl ?_
        refine WL.nil ?_
        refine WE.then_n ?_
        refine WC.ret ?_
        refine WE.then_ret ?_
        refine WE.ret2 (P := Tryd.prog) (.inl rfl) Tryd.results21 rfl rfl ?_
        obtain ⟨_, hc⟩ : True ∧ runT t H = none := (by rcases hc with ⟨h, _⟩ | ⟨_, h, _⟩; cases h; exact ⟨trivial, h⟩)
        exact fun w' h => ⟨[], none, 0, [], _, rfl, Vec.nil 19, h.sub (List.sublist_append_of_sublist_right (.cons _ (.cons _ (.refl _)))), by unfold RunIs; rw [if_neg h13, if_neg (by rw [hok]; decide), hc]; exact ⟨rfl, rfl⟩⟩
      · -- 25T
        refine WL.val (v_assign rfl rfl) (.none rfl) rfl rfl ?_
        refine WL.val (v_assign rfl rfl) (.none rfl) rfl rfl ?_
        refine WL.nil ?_
        refine WE.then_n ?_
        refine WC.seq ?_
        refine WC.seq ?_
        refine WC.region ?_
        refine WL.val (v_move rfl rfl) (.none rfl) rfl rfl ?_
        refine WL.val (v_not rfl rfl rfl) (.none rfl) rfl rfl ?_
        refine WL.nil ?_
        refine WE.then_n ?_
        refine WC.cond_f rfl ?_
        refine WC.skip ?_
        refine WE.then_n ?_
        refine WC.seq ?_
        refine WC.region ?_
        refine WL.val (v_move rfl rfl) (.none rfl) rfl rfl ?_
        refine WL.call rfl rfl ck_57 (.none rfl) rfl rfl ?_
        intro w1 hS
        obtain ⟨_, hc⟩ : True ∧ runT t H = some Rs := (by rcases hc with ⟨_, h⟩ | ⟨h, _⟩; exact ⟨trivial, h⟩; cases h)
        have hgood := runT_good t false H Rs (walkT_ok _ _ _ _ (Classical.not_not.1 h13)) hI hH hc
        refine (sort_c p hp w0 w1 hG (.row g3 (hdL H) :: .row g2 (ndL t) :: L) E ad c Rs hgood.all hV hS (by have := hgood.len; omega)).mono ?_
        rintro e w' ⟨rfl, Ss, E', hperm, hasc, hV', hS'⟩
        refine ⟨_, _, rfl, hS', ?_⟩
        refine WL.nil ?_
        refine WE.then_n ?_
        refine WC.seq ?_
        refine WC.region ?_
        refine WL.val (v_move rfl rfl) (.none rfl) rfl rfl ?_
        refine WL.val (v_assign rfl rfl) (.none rfl) rfl rfl ?_
        refine WL.val (v_assign rfl rfl) (.none rfl) rfl rfl ?_
        refine WL.nil ?_
        refine WE.then_n ?_
        refine WC.ret ?_
        refine WE.ret2 (P := Tryd.prog) (.inl rfl) Tryd.results21 rfl rfl ?_
        exact fun w' h => ⟨Ss, ad, c, E', _, by rw [hperm.length_eq], by rw [hperm.length_eq]; exact hV', h.sub (List.Sublist.append_left (.cons _ (.cons _ (.refl _))) _), by unfold RunIs; rw [if_neg h13, if_neg (by rw [hok]; decide), hc]; exact ⟨rfl, hperm, hasc⟩⟩
/-- The node that sends to a port. -/
def fwdN (v : Int) : Nd := .mk 14 0 v 0 none 0 []
theorem Fwd_c (w : World) (port : Int) :
    Calls Tryd.prog 32 #[.int .i64 port] w fun e w' => e = .returned (ndV (fwdN (port % 256))) ∧ Frm (fun _ => False) w w' := by
  refine enter Tryd.func32 rfl Tryd.ntmps32 rfl (St.start (fun _ => False) w) ?_
  refine WC.seq ?_
  refine WC.region ?_
  refine WL.alloc rfl zero_45 (.none rfl) rfl rfl ?_
  intro g2 hg2
  refine WL.nil ?_
  refine WE.then_n ?_
  refine WC.seq ?_
  refine WC.region ?_
  refine WL.val (v_move rfl rfl) (.none rfl) rfl rfl ?_
  refine WL.val (v_conv rfl rfl Tryd.underlying22 Tryd.underlying3 (w_u64m _)) (.none rfl) rfl rfl ?_
  refine WL.val (v_and rfl rfl rfl (mask_u64 (i := 8) (m := 256) (by decide) (by decide) (by decide) (by omega) (by omega))) (.none rfl) rfl rfl ?_
  refine WL.val (v_build rfl rfl zero_45 plc_45 rfl) (.none rfl) rfl rfl ?_
  refine WL.storeW rfl rfl rfl rfl many_45 rfl rfl (.none rfl) rfl ?_
  refine WL.nil ?_
  refine WE.then_n ?_
  refine WC.ret ?_
  refine WE.ret1 (P := Tryd.prog) (.inl rfl) Tryd.results32 (resRow rfl many_45 rfl) ?_
  exact fun w' h => ⟨by rw [show port % 18446744073709551616 % 256 = port % 256 by omega]; rfl, h.frm⟩
theorem LPar_c (w : World) (ad : Option Addr) (c : Nat) (ks : List Nd) :
    Calls Tryd.prog 28 #[.slice ad ks.length c] w fun e w' => e = .returned (ndV (.mk 15 0 0 0 ad c ks)) ∧ Frm (fun _ => False) w w' := by
  refine enter Tryd.func28 rfl Tryd.ntmps28 rfl (St.start (fun _ => False) w) ?_
  refine WC.seq ?_
  refine WC.region ?_
  refine WL.alloc rfl zero_45 (.none rfl) rfl rfl ?_
  intro g2 hg2
  refine WL.nil ?_
  refine WE.then_n ?_
  refine WC.seq ?_
  refine WC.region ?_
  refine WL.val (v_move rfl rfl) (.none rfl) rfl rfl ?_
  refine WL.val (v_build rfl rfl zero_45 plc_45 rfl) (.none rfl) rfl rfl ?_
  refine WL.storeW rfl rfl rfl rfl many_45 rfl rfl (.none rfl) rfl ?_
  refine WL.nil ?_
  refine WE.then_n ?_
  refine WC.ret ?_
  refine WE.ret1 (P := Tryd.prog) (.inl rfl) Tryd.results28 (resRow rfl many_45 rfl) ?_
  exact fun w' h => ⟨rfl, h.frm⟩
theorem LSeq_c (w : World) (ad : Option Addr) (c : Nat) (ks : List Nd) :
    Calls Tryd.prog 29 #[.slice ad ks.length c] w fun e w' => e = .returned (ndV (.mk 16 0 0 0 ad c ks)) ∧ Frm (fun _ => False) w w' := by
  refine enter Tryd.func29 rfl Tryd.ntmps29 rfl (St.start (fun _ => False) w) ?_
  refine WC.seq ?_
  refine WC.region ?_
  refine WL.alloc rfl zero_45 (.none rfl) rfl rfl ?_
  intro g2 hg2
  refine WL.nil ?_
  refine WE.then_n ?_
  refine WC.seq ?_
  refine WC.region ?_
  refine WL.val (v_move rfl rfl) (.none rfl) rfl rfl ?_
  refine WL.val (v_build rfl rfl zero_45 plc_45 rfl) (.none rfl) rfl rfl ?_
  refine WL.storeW rfl rfl rfl rfl many_45 rfl rfl (.none rfl) rfl ?_
  refine WL.nil ?_
  refine WE.then_n ?_
  refine WC.ret ?_
  refine WE.ret1 (P := Tryd.prog) (.inl rfl) Tryd.results29 (resRow rfl many_45 rfl) ?_
  exact fun w' h => ⟨rfl, h.frm⟩
theorem LFil_c (p : Nat → Prop) (w0 w1 : World) (L : List Ent) (u : Nd) (hS0 : St p w0 w1 L) :
    Calls Tryd.prog 35 #[ndV u] w1 fun e w' => ∃ g, e = .returned (ndV (.mk 13 0 0 0 (some ⟨g, 0, none⟩) 1 [u])) ∧ w0.heap.size ≤ g ∧ St p w0 w' (.row g (ndL u) :: L) := by
  refine enter Tryd.func35 rfl Tryd.ntmps35 rfl hS0 ?_
  refine WC.seq ?_
  refine WC.region ?_
  refine WL.box rfl rfl rfl (.none rfl) rfl rfl ?_
  intro g1 hg1
  refine WL.alloc rfl zero_45 (.none rfl) rfl rfl ?_
  intro g2 hg2
  refine WL.nil ?_
  refine WE.then_n ?_
  refine WC.seq ?_
  refine WC.region ?_
  refine WL.val (v_loadN rfl rfl many_45 rfl allAt) (.none rfl) rfl rfl ?_
  refine WL.buildSlice rfl rfl Tryd.underlying43 sz_45 zero_45 rfl (by decide) rfl (.none rfl) rfl rfl ?_
  intro g4 hg4
  refine WL.val (v_build rfl rfl zero_45 plc_45 rfl) (.none rfl) rfl rfl ?_
  refine WL.storeW rfl rfl rfl rfl many_45 rfl rfl (.none rfl) rfl ?_
  refine WL.nil ?_
  refine WE.then_n ?_
  refine WC.ret ?_
  refine WE.ret1 (P := Tryd.prog) (.inl rfl) Tryd.results35 (resRow rfl many_45 rfl) ?_
  exact fun w' h => ⟨g4, rfl, hg4, h.sub (.cons_cons _ (.cons _ (.cons _ (.refl _))))⟩
end Go.Proofs.YtodaanhhnjkncaaDoor
/- policy: the document's example of layer 16. -/
namespace Go.Proofs.YtodaanhhnjkncaaDoor
open Go.RowKit

theorem Nd.In_mk {k f v m : Int} {a : Option Addr} {c : Nat} {kids : List Nd} (hk : -9223372036854775808 ≤ k ∧ k ≤ 9223372036854775807) (hf : -9223372036854775808 ≤ f ∧ f ≤ 9223372036854775807) (hv : 0 ≤ v ∧ v ≤ 18446744073709551615) (hm : 0 ≤ m ∧ m ≤ 18446744073709551615) (hl : kids.length ≤ 9223372036854775807) (hI : KidsIn kids) : (Nd.mk k f v m a c kids).In := by
  unfold Nd.In; exact ⟨hk, hf, hv, hm, hl, hI⟩
theorem KidsIn.nil : KidsIn [] := by unfold KidsIn; trivial
theorem KidsIn.cons {t : Nd} {ts : List Nd} (h : t.In) (hs : KidsIn ts) : KidsIn (t :: ts) := by unfold KidsIn; exact ⟨h, hs⟩
theorem fwdN_in {v : Int} (hv : 0 ≤ v ∧ v ≤ 18446744073709551615) : (fwdN v).In := Nd.In_mk (by omega) (by omega) hv (by omega) (by show 0 ≤ _; omega) KidsIn.nil
theorem Nd.At_leaf {w : World} {k f v m : Int} {a : Option Addr} {c : Nat} : (Nd.mk k f v m a c []).At w := by unfold Nd.At KidsAt; trivial
theorem Nd.At_one {w : World} {k f v m : Int} {g c : Nat} {t : Nd} (h : w.rangeAt g 0 (ndL t)) (ht : t.At w) : (Nd.mk k f v m (some ⟨g, 0, none⟩) c [t]).At w := by
  unfold Nd.At KidsAt KidsAt
  exact ⟨⟨g, 0, rfl, h⟩, ht, trivial⟩
theorem Nd.At_two {w : World} {k f v m : Int} {g c : Nat} {t u : Nd} (h : w.rangeAt g 0 (ndL t ++ ndL u)) (ht : t.At w) (hu : u.At w) : (Nd.mk k f v m (some ⟨g, 0, none⟩) c [t, u]).At w := by
  have h1 : w.rangeAt g 0 (ndL t) := fun j x hj => h j x (by rw [List.getElem?_append_left (List.getElem?_eq_some_iff.1 hj).1]; exact hj)
  have h2 : w.rangeAt g (0 + 1 * 5) (ndL u) := fun j x hj => by
    have := h (5 + j) x (by rw [List.getElem?_append_right (by show 5 ≤ 5 + j; omega)]; rw [show 5 + j - (ndL t).length = j by show 5 + j - 5 = j; omega]; exact hj)
    rwa [show 0 + 1 * 5 + j = 0 + (5 + j) by omega]
  unfold Nd.At KidsAt KidsAt KidsAt
  exact ⟨⟨g, 0, rfl, h1⟩, ht, ⟨g, 0, rfl, h2⟩, hu, trivial⟩
theorem perm_two {A B : Hd} {Rs : List Hd} (h : Rs.Perm [A, B]) (ha : Asc Rs) (hlt : hcmpK A B 9 < 0) : Rs = [A, B] := by
  have hl := h.length_eq
  match Rs, hl with
  | [x, y], _ =>
    have hx : x ∈ [A, B] := h.subset (by simp)
    have hy : y ∈ [A, B] := h.subset (by simp)
    have e := ha 0 1 x y rfl rfl (by omega)
    have hA : A ∈ [x, y] := h.symm.subset (by simp)
    have hB : B ∈ [x, y] := h.symm.subset (by simp)
    have hne : A ≠ B := fun q => by
      subst q
      rw [hcmp_lex] at hlt
      have := (lexK_zero (getF A) (getF A) 9).2 (fun _ _ => rfl)
      omega
    simp only [List.mem_cons, List.not_mem_nil, or_false] at hx hy hA hB
    rcases hx with rfl | rfl
    · rcases hB with q | q
      · exact absurd q.symm hne
      · rw [q]
    · rcases hA with q | q
      · exact absurd q hne
      · subst q; exact absurd hlt e
def ex1 (g : Nat) : Nd := .mk 15 0 0 0 (some ⟨g, 0, none⟩) 2 [fwdN (1 % 256), fwdN (2 % 256)]
def ex2 (g g' : Nat) : Nd := .mk 16 0 0 0 (some ⟨g, 0, none⟩) 2 [.mk 13 0 0 0 (some ⟨g', 0, none⟩) 1 [.mk 2 0 0 0 none 0 []], fwdN (1 % 256)]
theorem ex1_is {g : Nat} {Rs : List Hd} {er : Int} (h : RunIs (ex1 g) Hd.zero Rs er) : er = 0 ∧ Rs = [wthF 0 1 Hd.zero, wthF 0 2 Hd.zero] := by
  have e1 : (walkT (ex1 g) 1 false 0).1 = 0 := by kernel_rfl
  have e2 : Hd.zero.okB = true := by kernel_rfl
  have e3 : runT (ex1 g) Hd.zero = some [wthF 0 1 Hd.zero, wthF 0 2 Hd.zero] := by kernel_rfl
  unfold RunIs at h
  rw [if_neg (by omega), if_neg (by rw [e2]; decide), e3] at h
  exact ⟨h.1, perm_two h.2.1 h.2.2 (by decide)⟩
theorem ex2_is {g g' : Nat} {Rs : List Hd} {er : Int} (h : RunIs (ex2 g g') Hd.zero Rs er) : er = 0 ∧ Rs = [] := by
  have e1 : (walkT (ex2 g g') 1 false 0).1 = 0 := by kernel_rfl
  have e2 : Hd.zero.okB = true := by kernel_rfl
  have e3 : runT (ex2 g g') Hd.zero = some [] := by kernel_rfl
  unfold RunIs at h
  rw [if_neg (by omega), if_neg (by rw [e2]; decide), e3] at h
  exact ⟨h.1, h.2.1.eq_nil⟩
theorem ex1_in (g : Nat) : (ex1 g).In := Nd.In_mk (by omega) (by omega) (by omega) (by omega) (by show 2 ≤ _; omega) (.cons (fwdN_in (by omega)) (.cons (fwdN_in (by omega)) .nil))
theorem ex2_in (g g' : Nat) : (ex2 g g').In := Nd.In_mk (by omega) (by omega) (by omega) (by omega) (by show 2 ≤ _; omega)
  (.cons (Nd.In_mk (by omega) (by omega) (by omega) (by omega) (by show 1 ≤ _; omega) (.cons (Nd.In_mk (by omega) (by omega) (by omega) (by omega) (by show 0 ≤ _; omega) .nil) .nil)) (.cons (fwdN_in (by omega)) .nil))
theorem Vec.port {n c : Nat} {ad : Option Addr} {Hs : List Hd} {E : List Ent} {i : Nat} {H : Hd} {p : Nat → Prop} {w0 w : World} {L : List Ent} (hV : Vec 19 ad n c (hdsL Hs) E) (hS : St p w0 w L) (hm : ∀ e ∈ E, e ∈ L) (hi : Hs[i]? = some H) {g : Nat} (ea : ad = some ⟨g, 0, none⟩) : w.cell? ⟨g, 0 + i * 19, none⟩ = some (.int .i64 H.port) := by
  have h := HdsAt.at (by rw [← ea]; exact hV.hds hS hm) hi
  exact h 0 _ rfl
set_option maxHeartbeats 2000000 in
theorem Ex16_c (w0 : World) (hG : GW w0) : Calls Tryd.prog 19 #[] w0 fun e w' => e = .returned (.bool true) ∧ Frm (fun _ => False) w0 w' := by
  refine enter Tryd.func19 rfl Tryd.ntmps19 rfl (St.start (fun _ => False) w0) ?_
  refine WC.seq ?_
  refine WC.region ?_
  refine WL.val (v_assign rfl rfl) (.none rfl) rfl rfl ?_
  refine WL.nil ?_
  refine WE.then_n ?_
  refine WC.seq ?_
  refine WC.region ?_
  refine WL.call rfl rfl ck_32 (.none rfl) rfl rfl ?_
  intro w hS
  refine Calls.then (Fwd_c w 1) hS ?_
  refine WL.call rfl rfl ck_32 (.none rfl) rfl rfl ?_
  intro w hS
  refine Calls.then (Fwd_c w 2) hS ?_
  refine WL.buildSlice rfl rfl Tryd.underlying43 sz_45 zero_45 rfl (by decide) rfl (.none rfl) rfl rfl ?_
  intro g8 hg8
  refine WL.as (L' := [.row g8 (ndL (fwdN (1 % 256)) ++ ndL (fwdN (2 % 256)))]) rfl ?_
  refine WL.call rfl rfl ck_28 (.none rfl) rfl rfl ?_
  intro w hS
  refine Calls.then (LPar_c w (some ⟨g8, 0, none⟩) 2 [fwdN (1 % 256), fwdN (2 % 256)]) hS ?_
  refine WL.val (v_build rfl rfl zero_31 plc_31 rfl) (.none rfl) rfl rfl ?_
  refine WL.call rfl rfl ck_21 (.none rfl) rfl rfl ?_
  intro w1 hS
  refine (Run_c (fun _ => False) (fun _ h => h) w0 hG [.row g8 (ndL (fwdN (1 % 256)) ++ ndL (fwdN (2 % 256)))] w1 (ex1 g8) Hd.zero (ex1_in g8) (fun w' hS' => Nd.At_two (allAt (g := g8) w' hS') Nd.At_leaf Nd.At_leaf) Hd.zero_in hS).mono ?_
  rintro e w' ⟨Rs, ad, c, E, er, rfl, hV, hS', hr⟩
  obtain ⟨rfl, rfl⟩ := ex1_is hr
  obtain ⟨gg, ea⟩ := hV.adr (by show 0 < 2; omega)
  refine ⟨_, _, rfl, hS', ?_⟩
  refine WL.val (v_move rfl rfl) (.none rfl) rfl rfl ?_
  refine WL.val (v_extract rfl rfl rfl) (.none rfl) rfl rfl ?_
  refine WL.val (v_extract rfl rfl rfl) (.none rfl) rfl rfl ?_
  refine WL.val (v_assign rfl rfl) (.none rfl) rfl rfl ?_
  refine WL.val (v_assign rfl rfl) (.none rfl) rfl rfl ?_
  refine WL.nil ?_
  refine WE.then_n ?_
  refine WC.seq ?_
  refine WC.region ?_
  refine WL.val (v_build rfl rfl zero_45 plc_45 rfl) (.none rfl) rfl rfl ?_
  refine WL.call rfl rfl ck_35 (.none rfl) rfl rfl ?_
  intro w1 hS
  refine (LFil_c (fun _ => False) w0 w1 _ (.mk 2 0 0 0 none 0 []) hS).mono ?_
  rintro e w' ⟨gf, rfl, hgf, hS'⟩
  refine ⟨_, _, rfl, hS', ?_⟩
  refine WL.call rfl rfl ck_32 (.none rfl) rfl rfl ?_
  intro w hS
  refine Calls.then (Fwd_c w 1) hS ?_
  refine WL.buildSlice rfl rfl Tryd.underlying43 sz_45 zero_45 rfl (by decide) rfl (.none rfl) rfl rfl ?_
  intro g18 hg18
  refine WL.as (L' := .row g18 (ndL (.mk 13 0 0 0 (some ⟨gf, 0, none⟩) 1 [.mk 2 0 0 0 none 0 []]) ++ ndL (fwdN (1 % 256))) :: .row gf (ndL (.mk 2 0 0 0 none 0 [])) :: (E ++ [.row g8 (ndL (fwdN (1 % 256)) ++ ndL (fwdN (2 % 256)))])) rfl ?_
  refine WL.call rfl rfl ck_29 (.none rfl) rfl rfl ?_
  intro w hS
  refine Calls.then (LSeq_c w (some ⟨g18, 0, none⟩) 2 [.mk 13 0 0 0 (some ⟨gf, 0, none⟩) 1 [.mk 2 0 0 0 none 0 []], fwdN (1 % 256)]) hS ?_
  refine WL.val (v_build rfl rfl zero_31 plc_31 rfl) (.none rfl) rfl rfl ?_
  refine WL.call rfl rfl ck_21 (.none rfl) rfl rfl ?_
  intro w1 hS
  refine (Run_c (fun _ => False) (fun _ h => h) w0 hG _ w1 (ex2 g18 gf) Hd.zero (ex2_in g18 gf) (fun w' hS' => Nd.At_two (allAt (g := g18) w' hS') (Nd.At_one (allAt (g := gf) w' hS') Nd.At_leaf) Nd.At_leaf) Hd.zero_in hS).mono ?_
  rintro e w' ⟨Rs2, ad2, c2, E2, er2, rfl, hV2, hS', hr2⟩
  obtain ⟨rfl, rfl⟩ := ex2_is hr2
  refine ⟨_, _, rfl, hS', ?_⟩
  refine WL.val (v_move rfl rfl) (.none rfl) rfl rfl ?_
  refine WL.val (v_extract rfl rfl rfl) (.none rfl) rfl rfl ?_
  refine WL.val (v_extract rfl rfl rfl) (.none rfl) rfl rfl ?_
  refine WL.val (v_assign rfl rfl) (.none rfl) rfl rfl ?_
  refine WL.val (v_assign rfl rfl) (.none rfl) rfl rfl ?_
  refine WL.nil ?_
  refine WE.then_n ?_
  refine WC.seq ?_
  refine WC.region ?_
  refine WL.val (v_move rfl rfl) (.none rfl) rfl rfl ?_
  refine WL.val ((v_eql rfl rfl rfl).t (rfl)) (.none rfl) rfl rfl ?_
  refine WL.val (v_move rfl rfl) (.none rfl) rfl rfl ?_
  refine WL.val (v_move rfl rfl) (.some rfl rfl rfl) rfl rfl ?_
  refine WL.val ((v_eql rfl rfl rfl).t (rfl)) (.some rfl rfl rfl) rfl rfl ?_
  refine WL.val (v_pick_t rfl rfl rfl) (.none rfl) rfl rfl ?_
  refine WL.val (v_move rfl rfl) (.none rfl) rfl rfl ?_
  refine WL.val (v_move rfl rfl) (.some rfl rfl rfl) rfl rfl ?_
  refine WL.val (v_len_slice rfl rfl Tryd.underlying47) (.some rfl rfl rfl) rfl rfl ?_
  refine WL.val ((v_eql rfl rfl rfl).t (rfl)) (.some rfl rfl rfl) rfl rfl ?_
  refine WL.val (v_pick_t rfl rfl rfl) (.none rfl) rfl rfl ?_
  refine WL.val (v_move rfl rfl) (.none rfl) rfl rfl ?_
  refine WL.val (v_move rfl rfl) (.some rfl rfl rfl) rfl rfl ?_
  refine WL.val (v_indexAddr (b := gg) (off := 0) (lo := 0) rfl (by show some (Value.slice ad _ _) = _; rw [ea]) rfl Tryd.underlying47 sz_31 rfl (by show 0 < 2; omega)) (.some rfl rfl rfl) rfl rfl ?_
  refine WL.val (v_fieldAddr rfl rfl fld_31_0) (.some rfl rfl rfl) rfl rfl ?_
  refine WL.val (v_load1 rfl rfl one_3 (fun w' hS' => hV.port (i := 0) (H := wthF 0 1 Hd.zero) hS' (fun e he => List.mem_append_right _ (List.mem_cons_of_mem _ (List.mem_cons_of_mem _ (List.mem_append_left _ he)))) rfl ea)) (.some rfl rfl rfl) rfl rfl ?_
  refine WL.val ((v_eql rfl rfl rfl).t (rfl)) (.some rfl rfl rfl) rfl rfl ?_
  refine WL.val (v_pick_t rfl rfl rfl) (.none rfl) rfl rfl ?_
  refine WL.val (v_move rfl rfl) (.none rfl) rfl rfl ?_
  refine WL.val (v_move rfl rfl) (.some rfl rfl rfl) rfl rfl ?_
  refine WL.val (v_indexAddr (b := gg) (off := 0) (lo := 1) rfl (by show some (Value.slice ad _ _) = _; rw [ea]) rfl Tryd.underlying47 sz_31 rfl (by show 1 < 2; omega)) (.some rfl rfl rfl) rfl rfl ?_
  refine WL.val (v_fieldAddr rfl rfl fld_31_0) (.some rfl rfl rfl) rfl rfl ?_
  refine WL.val (v_load1 rfl rfl one_3 (fun w' hS' => hV.port (i := 1) (H := wthF 0 2 Hd.zero) hS' (fun e he => List.mem_append_right _ (List.mem_cons_of_mem _ (List.mem_cons_of_mem _ (List.mem_append_left _ he)))) rfl ea)) (.some rfl rfl rfl) rfl rfl ?_
  refine WL.val ((v_eql rfl rfl rfl).t (rfl)) (.some rfl rfl rfl) rfl rfl ?_
  refine WL.val (v_pick_t rfl rfl rfl) (.none rfl) rfl rfl ?_
  refine WL.val (v_move rfl rfl) (.none rfl) rfl rfl ?_
  refine WL.val (v_move rfl rfl) (.some rfl rfl rfl) rfl rfl ?_
  refine WL.val (v_len_slice rfl rfl Tryd.underlying47) (.some rfl rfl rfl) rfl rfl ?_
  refine WL.val ((v_eql rfl rfl rfl).t (rfl)) (.some rfl rfl rfl) rfl rfl ?_
  refine WL.val (v_pick_t rfl rfl rfl) (.none rfl) rfl rfl ?_
  refine WL.val (v_assign rfl rfl) (.none rfl) rfl rfl ?_
  refine WL.nil ?_
  refine WE.then_n ?_
  refine WC.ret ?_
  refine WE.ret1 (P := Tryd.prog) (.inl rfl) Tryd.results19 rfl ?_
  exact fun w' h => ⟨rfl, h.frm⟩
end Go.Proofs.YtodaanhhnjkncaaDoor
/- policy: what a policy makes of a header, as a relation between the numbers of headers. -/
namespace Go.Proofs.YtodaanhhnjkncaaDoor
open Go.RowKit

abbrev Ky := Nat → Int
mutual
def holdsG (h : Ky) : Nd → Bool
  | .mk k f v m _ _ kids => if k = 1 then true else if k = 3 then decide (andN (xorN (h f.toNat) v) m = 0) else if k = 4 then !(holdsGs h kids).getD 0 false else if k = 5 then (holdsGs h kids).all id else if k = 6 then (holdsGs h kids).any id else false
def holdsGs (h : Ky) : List Nd → List Bool
  | [] => []
  | t :: ts => holdsG h t :: holdsGs h ts
end
mutual
theorem holdsT_G (H : Hd) : ∀ t : Nd, holdsT H t = holdsG (getF H) t
  | .mk k f v m a c kids => by rw [holdsT, holdsG, holdsKs_G H kids]
theorem holdsKs_G (H : Hd) : ∀ ts : List Nd, holdsKs H ts = holdsGs (getF H) ts
  | [] => by rw [holdsKs, holdsGs]
  | t :: ts => by rw [holdsKs, holdsGs, holdsT_G H t, holdsKs_G H ts]
end
def updK (k : Nat) (v : Int) (h : Ky) : Ky := fun j => if j = k then v else h j
theorem getF_big (H : Hd) (j : Nat) : getF H (j + 9) = 0 := by
  show rawF H (j + 9) % _ = 0
  rw [show rawF H (j + 9) = 0 from rfl, Int.zero_emod]
theorem getF_ge (H : Hd) {j : Nat} (h : 9 ≤ j) : getF H j = 0 := by
  have := getF_big H (j - 9)
  rwa [show j - 9 + 9 = j by omega] at this
theorem getF_upd {k : Nat} (hk : k < 9) {n : Int} (h0 : 0 ≤ n) (h1 : n ≤ fullI k) (H : Hd) : getF (wthF k n H) = updK k n (getF H) := by
  funext j
  unfold updK
  by_cases e : j = k
  · subst e; rw [if_pos rfl]; exact getF_with hk h0 h1 H
  · rw [if_neg e]
    by_cases h9 : j < 9
    · exact getF_with_ne h9 (fun q => e q.symm) n H
    · rw [getF_ge _ (by omega), getF_ge _ (by omega)]
theorem getF_ext {A B : Hd} (h : ∀ i, i < 9 → getF A i = getF B i) : getF A = getF B := by
  funext j
  by_cases h9 : j < 9
  · exact h j h9
  · rw [getF_ge _ (by omega), getF_ge _ (by omega)]
mutual
/-- g is among what a policy makes of h. -/
def OutT : Nd → Ky → Ky → Prop
  | .mk k f v _ _ _ kids, h, g =>
    if k = 12 then g = h
    else if k = 13 then (holdsGs h kids).getD 0 false = true ∧ g = h
    else if k = 14 then g = updK f.toNat v h
    else if k = 15 then OutPar kids h g
    else if k = 16 then OutSeq kids h g
    else if k = 17 then (if (holdsGs h kids).getD 0 false then OutNth kids 1 h g else OutNth kids 2 h g)
    else False
def OutPar : List Nd → Ky → Ky → Prop
  | [], _, _ => False
  | t :: ts, h, g => OutT t h g ∨ OutPar ts h g
def OutSeq : List Nd → Ky → Ky → Prop
  | [], h, g => g = h
  | t :: ts, h, g => ∃ m, OutT t h m ∧ OutSeq ts m g
def OutNth : List Nd → Nat → Ky → Ky → Prop
  | [], _, _, _ => False
  | t :: _, 0, h, g => OutT t h g
  | _ :: ts, i + 1, h, g => OutNth ts i h g
end
/-! ### Headers that are right -/
structure Hd.Rt (H : Hd) : Prop where
  isIn : H.In
  ok : H.okB = true
theorem Hd.Rt.nums {H : Hd} (h : H.Rt) : (0 ≤ H.port ∧ H.port ≤ 255) ∧ (0 ≤ H.ty ∧ H.ty ≤ 65535) ∧ (0 ≤ H.proto ∧ H.proto ≤ 255) ∧ (0 ≤ H.sp ∧ H.sp ≤ 65535) ∧ (0 ≤ H.dp ∧ H.dp ≤ 65535) := by
  have h1 := h.ok
  unfold Hd.okB at h1
  simp only [Bool.and_eq_true] at h1
  obtain ⟨⟨⟨⟨a, b⟩, c⟩, d⟩, e⟩ := h1
  have a := of_decide_eq_true a
  have b := of_decide_eq_true b
  have c := of_decide_eq_true c
  have d := of_decide_eq_true d
  have e := of_decide_eq_true e
  rw [show fullI 0 = 255 by decide] at a
  rw [show fullI 3 = 65535 by decide] at b
  rw [show fullI 6 = 255 by decide] at c
  rw [show fullI 7 = 65535 by decide] at d
  rw [show fullI 8 = 65535 by decide] at e
  exact ⟨a, b, c, d, e⟩
theorem numK_inj {f g : Nat → Int} (hf : Byt f) (hg : Byt g) (h : numK f 6 = numK g 6) : ∀ i, i < 6 → f i = g i := by
  have a0 := hf 0; have a1 := hf 1; have a2 := hf 2; have a3 := hf 3; have a4 := hf 4; have a5 := hf 5
  have b0 := hg 0; have b1 := hg 1; have b2 := hg 2; have b3 := hg 3; have b4 := hg 4; have b5 := hg 5
  simp only [numK] at h
  intro i hi
  match i, hi with
  | 0, _ | 1, _ | 2, _ | 3, _ | 4, _ | 5, _ => omega
theorem numK_congr {f g : Nat → Int} (h : ∀ i, i < 6 → f i = g i) : numK f 6 = numK g 6 := by
  simp only [numK]
  rw [h 0 (by omega), h 1 (by omega), h 2 (by omega), h 3 (by omega), h 4 (by omega), h 5 (by omega)]
theorem same_getF {A B : Hd} (hA : A.Rt) (hB : B.Rt) : A.same B ↔ getF A = getF B := by
  constructor
  · rintro ⟨h0, h1, h2, h3, h4, h5, h6, h7, h8⟩
    refine getF_ext fun i hi => ?_
    unfold getF
    have e : rawF A i = rawF B i := by
      match i, hi with
      | 0, _ => show A.port % _ = B.port % _; rw [h0]
      | 1, _ => exact numK_congr h1
      | 2, _ => exact numK_congr h2
      | 3, _ => show A.ty % _ = B.ty % _; rw [h3]
      | 4, _ => exact h4
      | 5, _ => exact h5
      | 6, _ => show A.proto % _ = B.proto % _; rw [h6]
      | 7, _ => show A.sp % _ = B.sp % _; rw [h7]
      | 8, _ => show A.dp % _ = B.dp % _; rw [h8]
    rw [e]
  · intro h
    have hh : ∀ i, getF A i = getF B i := fun i => congrFun h i
    obtain ⟨a0, a3, a6, a7, a8⟩ := hA.nums
    obtain ⟨b0, b3, b6, b7, b8⟩ := hB.nums
    have n1 := numK_le hA.isIn.src (Nat.le_refl 6); have n2 := numK_le hA.isIn.dst (Nat.le_refl 6)
    have m1 := numK_le hB.isIn.src (Nat.le_refl 6); have m2 := numK_le hB.isIn.dst (Nat.le_refl 6)
    have s1 := hA.isIn.sip; have s2 := hA.isIn.dip; have t1 := hB.isIn.sip; have t2 := hB.isIn.dip
    have g0 : A.port % 18446744073709551616 % 256 = B.port % 18446744073709551616 % 256 := hh 0
    have g1 : numK A.src 6 % 281474976710656 = numK B.src 6 % 281474976710656 := hh 1
    have g2 : numK A.dst 6 % 281474976710656 = numK B.dst 6 % 281474976710656 := hh 2
    have g3 : A.ty % 18446744073709551616 % 65536 = B.ty % 18446744073709551616 % 65536 := hh 3
    have g4 : A.sip % 4294967296 = B.sip % 4294967296 := hh 4
    have g5 : A.dip % 4294967296 = B.dip % 4294967296 := hh 5
    have g6 : A.proto % 18446744073709551616 % 256 = B.proto % 18446744073709551616 % 256 := hh 6
    have g7 : A.sp % 18446744073709551616 % 65536 = B.sp % 18446744073709551616 % 65536 := hh 7
    have g8 : A.dp % 18446744073709551616 % 65536 = B.dp % 18446744073709551616 % 65536 := hh 8
    exact ⟨by omega, numK_inj hA.isIn.src hB.isIn.src (by omega), numK_inj hA.isIn.dst hB.isIn.dst (by omega), by omega, by omega, by omega, by omega, by omega, by omega⟩
theorem okB_with {k : Nat} (hk : k < 9) {n : Int} (h0 : 0 ≤ n) (h1 : n ≤ fullI k) {H : Hd} (h : H.okB = true) : (wthF k n H).okB = true := by
  unfold Hd.okB at h ⊢
  simp only [Bool.and_eq_true] at h ⊢
  have hf : ∀ j, j = k → fitsB j n = true := fun j e => by subst e; exact decide_eq_true ⟨h0, h1⟩
  obtain ⟨⟨⟨⟨a, b⟩, c⟩, d⟩, e⟩ := h
  match k, hk with
  | 0, _ => exact ⟨⟨⟨⟨hf 0 rfl, b⟩, c⟩, d⟩, e⟩
  | 1, _ => exact ⟨⟨⟨⟨a, b⟩, c⟩, d⟩, e⟩
  | 2, _ => exact ⟨⟨⟨⟨a, b⟩, c⟩, d⟩, e⟩
  | 3, _ => exact ⟨⟨⟨⟨a, hf 3 rfl⟩, c⟩, d⟩, e⟩
  | 4, _ => exact ⟨⟨⟨⟨a, b⟩, c⟩, d⟩, e⟩
  | 5, _ => exact ⟨⟨⟨⟨a, b⟩, c⟩, d⟩, e⟩
  | 6, _ => exact ⟨⟨⟨⟨a, b⟩, hf 6 rfl⟩, d⟩, e⟩
  | 7, _ => exact ⟨⟨⟨⟨a, b⟩, c⟩, hf 7 rfl⟩, e⟩
  | 8, _ => exact ⟨⟨⟨⟨a, b⟩, c⟩, d⟩, hf 8 rfl⟩
theorem Rt_with {k : Nat} (hk : k < 9) {n : Int} (h0 : 0 ≤ n) (h1 : n ≤ fullI k) {H : Hd} (h : H.Rt) : (wthF k n H).Rt := ⟨wthF_in h.isIn h0 h1, okB_with hk h0 h1 h.ok⟩
/-! ### Lists of headers -/
/-- A number list stands among headers. -/
def inK (Rs : List Hd) (g : Ky) : Prop := ∃ x ∈ Rs, getF x = g
/-- Right headers, each once. -/
structure Once (Rs : List Hd) : Prop where
  all : ∀ x ∈ Rs, x.Rt
  nd : (Rs.map getF).Nodup
theorem Once.nil : Once [] := ⟨(fun _ h => by cases h), List.nodup_nil⟩
theorem Once.one {H : Hd} (h : H.Rt) : Once [H] := ⟨fun x hx => by rw [List.mem_singleton.1 hx]; exact h, (by simp)⟩
theorem inK_nil (g : Ky) : ¬ inK [] g := fun ⟨_, h, _⟩ => by cases h
theorem inK_one (H : Hd) (g : Ky) : inK [H] g ↔ g = getF H := ⟨fun ⟨x, hx, e⟩ => by rw [List.mem_singleton.1 hx] at e; exact e.symm, fun e => ⟨H, by simp, e.symm⟩⟩
theorem inK_cons (x : Hd) (xs : List Hd) (g : Ky) : inK (x :: xs) g ↔ g = getF x ∨ inK xs g := by
  constructor
  · rintro ⟨y, hy, e⟩
    rcases List.mem_cons.1 hy with h | h
    · rw [h] at e; exact .inl e.symm
    · exact .inr ⟨y, h, e⟩
  · rintro (e | ⟨y, hy, e⟩)
    · exact ⟨x, by simp, e.symm⟩
    · exact ⟨y, by simp [hy], e⟩
theorem inK_append (xs ys : List Hd) (g : Ky) : inK (xs ++ ys) g ↔ inK xs g ∨ inK ys g := by
  constructor
  · rintro ⟨y, hy, e⟩
    rcases List.mem_append.1 hy with h | h
    · exact .inl ⟨y, h, e⟩
    · exact .inr ⟨y, h, e⟩
  · rintro (⟨y, hy, e⟩ | ⟨y, hy, e⟩)
    · exact ⟨y, List.mem_append_left _ hy, e⟩
    · exact ⟨y, List.mem_append_right _ hy, e⟩
theorem inHs_iff {As : List Hd} (hA : ∀ x ∈ As, x.Rt) {h : Hd} (hh : h.Rt) : inHs As h = true ↔ inK As (getF h) := by
  unfold inHs
  rw [List.any_eq_true]
  constructor
  · rintro ⟨x, hx, e⟩
    exact ⟨x, hx, ((same_getF hh (hA x hx)).1 (of_decide_eq_true e)).symm⟩
  · rintro ⟨x, hx, e⟩
    exact ⟨x, hx, decide_eq_true ((same_getF hh (hA x hx)).2 e.symm)⟩
theorem gatherT_keys : ∀ (Bs As Rs : List Hd), Once As → (∀ x ∈ Bs, x.Rt) → gatherT As Bs = some Rs → Once Rs ∧ ∀ g, inK Rs g ↔ inK As g ∨ inK Bs g
  | [], As, Rs, hA, _, e => by
    rw [gatherT] at e; cases e
    exact ⟨hA, fun g => ⟨.inl, fun h => h.elim id fun h => absurd h (inK_nil g)⟩⟩
  | b :: Bs, As, Rs, hA, hB, e => by
    rw [gatherT] at e
    have hb := hB b (by simp)
    have hB' : ∀ x ∈ Bs, x.Rt := fun x hx => hB x (by simp [hx])
    split at e
    · rename_i h
      have hi := (inHs_iff hA.all hb).1 h
      obtain ⟨h1, h2⟩ := gatherT_keys Bs As Rs hA hB' e
      refine ⟨h1, fun g => ?_⟩
      rw [h2, inK_cons]
      constructor
      · rintro (h | h); exact .inl h; exact .inr (.inr h)
      · rintro (h | h | h)
        · exact .inl h
        · rw [h]; exact .inl hi
        · exact .inr h
    · rename_i h
      have hi : ¬ inK As (getF b) := fun q => h ((inHs_iff hA.all hb).2 q)
      split at e
      · cases e
      · have hA' : Once (As ++ [b]) := by
          refine ⟨fun x hx => ?_, ?_⟩
          · rcases List.mem_append.1 hx with h | h
            · exact hA.all x h
            · rw [List.mem_singleton.1 h]; exact hb
          · rw [List.map_append, List.nodup_append]
            refine ⟨hA.nd, (by simp), ?_⟩
            rintro a ha c hc rfl
            obtain ⟨x, hx, ex⟩ := List.mem_map.1 ha
            rw [List.map_singleton, List.mem_singleton] at hc
            exact hi ⟨x, hx, ex.trans hc⟩
        obtain ⟨h1, h2⟩ := gatherT_keys Bs (As ++ [b]) Rs hA' hB' e
        refine ⟨h1, fun g => ?_⟩
        rw [h2, inK_append, inK_one, inK_cons]
        constructor
        · rintro ((h | h) | h)
          · exact .inl h
          · exact .inr (.inl h)
          · exact .inr (.inr h)
        · rintro (h | h | h)
          · exact .inl (.inl h)
          · exact .inl (.inr h)
          · exact .inr h
theorem seqStep_keys {f : Hd → Option (List Hd)} {R : Ky → Ky → Prop} (hf : ∀ g, g.Rt → ∀ out, f g = some out → Once out ∧ ∀ k, inK out k ↔ R (getF g) k) : ∀ (all nx Rs : List Hd), (∀ g ∈ all, g.Rt) → Once nx → seqStep f all nx = some Rs → Once Rs ∧ ∀ k, inK Rs k ↔ inK nx k ∨ ∃ m, inK all m ∧ R m k
  | [], nx, Rs, _, hn, e => by
    rw [seqStep] at e; cases e
    exact ⟨hn, fun k => ⟨.inl, fun h => h.elim id fun ⟨m, hm, _⟩ => absurd hm (inK_nil m)⟩⟩
  | g :: gs, nx, Rs, ha, hn, e => by
    rw [seqStep] at e
    obtain ⟨out, h1, e⟩ := Option.bind_eq_some_iff.1 e
    obtain ⟨nx', h2, e⟩ := Option.bind_eq_some_iff.1 e
    have hg := ha g (by simp)
    obtain ⟨o1, o2⟩ := hf g hg out h1
    obtain ⟨g1, g2⟩ := gatherT_keys _ _ _ hn o1.all h2
    obtain ⟨r1, r2⟩ := seqStep_keys hf gs nx' Rs (fun x hx => ha x (by simp [hx])) g1 e
    refine ⟨r1, fun k => ?_⟩
    rw [r2, g2, o2]
    constructor
    · rintro ((h | h) | ⟨m, hm, hr⟩)
      · exact .inl h
      · exact .inr ⟨getF g, ⟨g, by simp, rfl⟩, h⟩
      · exact .inr ⟨m, (inK_cons _ _ _).2 (.inr hm), hr⟩
    · rintro (h | ⟨m, hm, hr⟩)
      · exact .inl (.inl h)
      · rcases (inK_cons _ _ _).1 hm with e | h
        · rw [e] at hr; exact .inl (.inr hr)
        · exact .inr ⟨m, h, hr⟩
mutual
theorem runT_keys : ∀ (t : Nd) (pred : Bool) (H : Hd) (Rs : List Hd), okT pred t → t.In → H.Rt → runT t H = some Rs → Once Rs ∧ ∀ g, inK Rs g ↔ OutT t (getF H) g
  | .mk k f v m a c kids, pred, H, Rs, hk, hI, hH, e => by
    rw [runT, holdsKs_G] at e
    have hkids := hk.parts.2.2.2
    have hIk := hI.kids
    unfold OutT
    by_cases k12 : k = 12
    · rw [if_pos k12] at e; cases e
      exact ⟨Once.one hH, fun g => by rw [if_pos k12, inK_one]⟩
    rw [if_neg k12] at e
    by_cases k13 : k = 13
    · rw [if_pos k13] at e
      simp only [if_neg k12, if_pos k13]
      split at e
      · rename_i hh; cases e
        exact ⟨Once.one hH, fun g => by rw [inK_one]; exact ⟨fun q => ⟨hh, q⟩, fun q => q.2⟩⟩
      · rename_i hh; cases e
        exact ⟨Once.nil, fun g => ⟨fun q => absurd q (inK_nil g), fun q => absurd q.1 hh⟩⟩
    rw [if_neg k13] at e
    by_cases k14 : k = 14
    · rw [if_pos k14] at e; cases e
      obtain ⟨q, _, hq, e2, hv⟩ := argE_set hk.parts.2.1 k14
      have e3 : f.toNat = q := e2
      rw [e3]
      refine ⟨Once.one (Rt_with hq hI.nums.2.2.1.1 hv hH), fun g => ?_⟩
      rw [if_neg k12, if_neg k13, if_pos k14, inK_one, getF_upd (n := v) hq hI.nums.2.2.1.1 hv]
    rw [if_neg k14] at e
    by_cases k15 : k = 15
    · rw [if_pos k15] at e
      simp only [if_neg k12, if_neg k13, if_neg k14, if_pos k15]
      obtain ⟨h1, h2⟩ := parKs_keys k 0 kids H [] Rs hkids hIk hH Once.nil e
      exact ⟨h1, fun g => by rw [h2]; exact ⟨fun q => q.elim (fun q => absurd q (inK_nil g)) id, .inr⟩⟩
    rw [if_neg k15] at e
    by_cases k16 : k = 16
    · rw [if_pos k16] at e
      simp only [if_neg k12, if_neg k13, if_neg k14, if_neg k15, if_pos k16]
      obtain ⟨h1, h2⟩ := seqKs_keys k 0 kids [H] Rs hkids hIk (Once.one hH) e
      refine ⟨h1, fun g => ?_⟩
      rw [h2]
      exact ⟨fun ⟨m, hm, hr⟩ => by rw [inK_one] at hm; rwa [hm] at hr, fun hr => ⟨_, (inK_one _ _).2 rfl, hr⟩⟩
    rw [if_neg k16] at e
    by_cases k17 : k = 17
    · rw [if_pos k17] at e
      simp only [if_neg k12, if_neg k13, if_neg k14, if_neg k15, if_neg k16, if_pos k17]
      split at e
      · rename_i hh
        simp only [if_pos hh]
        exact nthKs_keys k 0 kids 1 H Rs hkids hIk hH e
      · rename_i hh
        simp only [if_neg hh]
        exact nthKs_keys k 0 kids 2 H Rs hkids hIk hH e
    rw [if_neg k17] at e; cases e
    simp only [if_neg k12, if_neg k13, if_neg k14, if_neg k15, if_neg k16, if_neg k17]
    exact ⟨Once.nil, fun g => ⟨fun q => absurd q (inK_nil g), False.elim⟩⟩
theorem parKs_keys (k : Int) : ∀ (i : Nat) (ts : List Nd) (H : Hd) (all Rs : List Hd), okKs k i ts → KidsIn ts → H.Rt → Once all → parKs ts H all = some Rs → Once Rs ∧ ∀ g, inK Rs g ↔ inK all g ∨ OutPar ts (getF H) g
  | _, [], H, all, Rs, _, _, _, ha, e => by
    rw [parKs] at e; cases e
    exact ⟨ha, fun g => by unfold OutPar; exact ⟨.inl, fun q => q.elim id False.elim⟩⟩
  | i, t :: ts, H, all, Rs, hk, hI, hH, ha, e => by
    rw [parKs] at e
    unfold okKs at hk
    unfold KidsIn at hI
    obtain ⟨out, h1, e⟩ := Option.bind_eq_some_iff.1 e
    obtain ⟨all', h2, e⟩ := Option.bind_eq_some_iff.1 e
    obtain ⟨o1, o2⟩ := runT_keys t _ H out hk.1 hI.1 hH h1
    obtain ⟨g1, g2⟩ := gatherT_keys _ _ _ ha o1.all h2
    obtain ⟨r1, r2⟩ := parKs_keys k (i + 1) ts H all' Rs hk.2 hI.2 hH g1 e
    refine ⟨r1, fun g => ?_⟩
    rw [r2, g2, o2]
    rw [OutPar]
    exact or_assoc
theorem seqKs_keys (k : Int) : ∀ (i : Nat) (ts : List Nd) (all Rs : List Hd), okKs k i ts → KidsIn ts → Once all → seqKs ts all = some Rs → Once Rs ∧ ∀ g, inK Rs g ↔ ∃ m, inK all m ∧ OutSeq ts m g
  | _, [], all, Rs, _, _, ha, e => by
    rw [seqKs] at e; cases e
    exact ⟨ha, fun g => ⟨fun h => ⟨g, h, by rw [OutSeq]⟩, fun ⟨m, hm, hr⟩ => by rw [OutSeq] at hr; rw [hr]; exact hm⟩⟩
  | i, t :: ts, all, Rs, hk, hI, ha, e => by
    rw [seqKs] at e
    unfold okKs at hk
    unfold KidsIn at hI
    obtain ⟨nx, h1, e⟩ := Option.bind_eq_some_iff.1 e
    obtain ⟨s1, s2⟩ := seqStep_keys (R := OutT t) (fun g hg out ho => runT_keys t _ g out hk.1 hI.1 hg ho) all [] nx ha.all Once.nil h1
    obtain ⟨r1, r2⟩ := seqKs_keys k (i + 1) ts nx Rs hk.2 hI.2 s1 e
    refine ⟨r1, fun g => ?_⟩
    rw [r2]
    constructor
    · rintro ⟨m, hm, hr⟩
      rcases (s2 m).1 hm with h | ⟨q, hq, hr2⟩
      · exact absurd h (inK_nil m)
      · exact ⟨q, hq, by rw [OutSeq]; exact ⟨m, hr2, hr⟩⟩
    · rintro ⟨q, hq, hr⟩
      rw [OutSeq] at hr
      obtain ⟨m, h1, h2⟩ := hr
      exact ⟨m, (s2 m).2 (.inr ⟨q, hq, h1⟩), h2⟩
theorem nthKs_keys (k : Int) : ∀ (i : Nat) (ts : List Nd) (j : Nat) (H : Hd) (Rs : List Hd), okKs k i ts → KidsIn ts → H.Rt → nthKs ts j H = some Rs → Once Rs ∧ ∀ g, inK Rs g ↔ OutNth ts j (getF H) g
  | _, [], j, H, Rs, _, _, _, e => by rw [nthKs] at e; cases e
  | i, t :: ts, 0, H, Rs, hk, hI, hH, e => by
    rw [nthKs] at e
    unfold okKs at hk
    unfold KidsIn at hI
    simp only [OutNth]
    exact runT_keys t _ H Rs hk.1 hI.1 hH e
  | i, t :: ts, j + 1, H, Rs, hk, hI, hH, e => by
    rw [nthKs] at e
    unfold okKs at hk
    unfold KidsIn at hI
    simp only [OutNth]
    exact nthKs_keys k (i + 1) ts j H Rs hk.2 hI.2 hH e
end
/-! ### Sorted lists -/
theorem strict_unique {α : Type} {lt : α → α → Prop} (irr : ∀ a, ¬ lt a a) (tr : ∀ a b c, lt a b → lt b c → lt a c) : ∀ (xs ys : List α), xs.Pairwise lt → ys.Pairwise lt → (∀ z, z ∈ xs ↔ z ∈ ys) → xs = ys
  | [], [], _, _, _ => rfl
  | [], y :: ys, _, _, h => absurd ((h y).2 (by simp)) (by simp)
  | x :: xs, [], _, _, h => absurd ((h x).1 (by simp)) (by simp)
  | x :: xs, y :: ys, hx, hy, h => by
    rw [List.pairwise_cons] at hx hy
    have e : x = y := by
      rcases List.mem_cons.1 ((h x).1 (by simp)) with e | hm
      · exact e
      · rcases List.mem_cons.1 ((h y).2 (by simp)) with e | hn
        · exact e.symm
        · exact absurd (tr _ _ _ (hy.1 x hm) (hx.1 y hn)) (irr _)
    subst e
    congr 1
    refine strict_unique irr tr xs ys hx.2 hy.2 fun z => ?_
    constructor
    · intro hz
      rcases List.mem_cons.1 ((h z).1 (by simp [hz])) with e | hm
      · rw [e] at hz; exact absurd (hx.1 x hz) (irr _)
      · exact hm
    · intro hz
      rcases List.mem_cons.1 ((h z).2 (by simp [hz])) with e | hm
      · rw [e] at hz; exact absurd (hy.1 x hz) (irr _)
      · exact hm
def ltK (f g : Ky) : Prop := lexK f g 9 < 0
theorem ltK_irr (f : Ky) : ¬ ltK f f := fun h => by
  unfold ltK at h
  have := (lexK_zero f f 9).2 (fun _ _ => rfl)
  omega
theorem asc_strict {Rs : List Hd} (ha : Asc Rs) (hn : (Rs.map getF).Nodup) : (Rs.map getF).Pairwise ltK := by
  rw [List.pairwise_iff_getElem]
  intro i j hi hj hij
  rw [List.length_map] at hi hj
  rw [List.getElem_map, List.getElem_map]
  have h := ha i j _ _ (List.getElem?_eq_getElem hi) (List.getElem?_eq_getElem hj) hij
  rw [hcmp_lex] at h
  unfold ltK
  rcases lex_nlt.1 h with q | q
  · exact q
  · have e : getF Rs[j] = getF Rs[i] := getF_ext ((lexK_zero _ _ 9).1 q)
    have := (List.pairwise_iff_getElem.1 hn) i j (by rw [List.length_map]; exact hi) (by rw [List.length_map]; exact hj) hij
    rw [List.getElem_map, List.getElem_map] at this
    exact absurd e.symm this
/-- What Run hands back when all is right. -/
theorem RunIs.keys {t : Nd} {H : Hd} {Rs : List Hd} {er : Int} (h : RunIs t H Rs er) (hI : t.In) (hH : H.In) (e : er = 0) : okT false t ∧ H.Rt ∧ (∀ x ∈ Rs, x.Rt) ∧ (Rs.map getF).Pairwise ltK ∧ (∀ g, inK Rs g ↔ OutT t (getF H) g) ∧ Rs.length ≤ 64 := by
  unfold RunIs at h
  split at h
  · rename_i q; exact absurd (h.1.symm.trans e) q
  · rename_i q
    split at h
    · rename_i q2; rw [h.1] at e; exact absurd e (by decide)
    · rename_i q2
      have hok := walkT_ok _ _ _ _ (Classical.not_not.1 q)
      have hR : H.Rt := ⟨hH, by simpa using q2⟩
      cases hr : runT t H with
      | none => rw [hr] at h; rw [h.1] at e; exact absurd e (by decide)
      | some Qs =>
        rw [hr] at h
        obtain ⟨k1, k2⟩ := runT_keys t false H Qs hok hI hR hr
        have hg := runT_good t false H Qs hok hI hH hr
        have hn : (Rs.map getF).Nodup := (h.2.1.map getF).nodup_iff.2 k1.nd
        refine ⟨hok, hR, fun x hx => k1.all x (h.2.1.subset hx), asc_strict h.2.2 hn, fun g => ?_, by rw [h.2.1.length_eq]; exact hg.len⟩
        rw [← k2]
        exact ⟨fun ⟨x, hx, e⟩ => ⟨x, h.2.1.subset hx, e⟩, fun ⟨x, hx, e⟩ => ⟨x, h.2.1.symm.subset hx, e⟩⟩
/-- Two policies of one header that are the same relation make the same list. -/
theorem runs_same {t u : Nd} {H : Hd} {Xs Ys : List Hd} {e f : Int} (hx : RunIs t H Xs e) (hy : RunIs u H Ys f) (ht : t.In) (hu : u.In) (hH : H.In) (he : e = 0) (hf : f = 0) (h : okT false t → okT false u → ∀ g, OutT t (getF H) g ↔ OutT u (getF H) g) : Xs.length = Ys.length ∧ ∀ (i : Nat) (A B : Hd), Xs[i]? = some A → Ys[i]? = some B → hdL A = hdL B := by
  obtain ⟨o1, _, x1, x2, x3, _⟩ := hx.keys ht hH he
  obtain ⟨o2, _, y1, y2, y3, _⟩ := hy.keys hu hH hf
  have e : Xs.map getF = Ys.map getF := strict_unique ltK_irr (fun a b c h1 h2 => lex_trans h1 h2) _ _ x2 y2 fun z => by
    rw [List.mem_map, List.mem_map]
    exact (x3 z).trans ((h o1 o2 z).trans (y3 z).symm)
  refine ⟨by have := congrArg List.length e; rwa [List.length_map, List.length_map] at this, fun i A B hA hB => ?_⟩
  have q : (Xs.map getF)[i]? = (Ys.map getF)[i]? := by rw [e]
  rw [List.getElem?_map, List.getElem?_map, hA, hB] at q
  exact hdL_same.2 ((same_getF (x1 A (List.mem_of_getElem? hA)) (y1 B (List.mem_of_getElem? hB))).2 (Option.some.inj q))
end Go.Proofs.YtodaanhhnjkncaaDoor
/- policy: the laws of brackets, as relations; how many nodes there are. -/
namespace Go.Proofs.YtodaanhhnjkncaaDoor
open Go.RowKit

theorem out_par {f v m : Int} {ad : Option Addr} {c : Nat} {ks : List Nd} {h g : Ky} : OutT (.mk 15 f v m ad c ks) h g ↔ OutPar ks h g := by
  rw [OutT, if_neg (by decide), if_neg (by decide), if_neg (by decide), if_pos rfl]
theorem out_seq {f v m : Int} {ad : Option Addr} {c : Nat} {ks : List Nd} {h g : Ky} : OutT (.mk 16 f v m ad c ks) h g ↔ OutSeq ks h g := by
  rw [OutT, if_neg (by decide), if_neg (by decide), if_neg (by decide), if_neg (by decide), if_pos rfl]
theorem out_drop {f v m : Int} {ad : Option Addr} {c : Nat} {ks : List Nd} {h g : Ky} : OutT (.mk 11 f v m ad c ks) h g ↔ False := by
  rw [OutT, if_neg (by decide), if_neg (by decide), if_neg (by decide), if_neg (by decide), if_neg (by decide), if_neg (by decide)]
theorem out_id {f v m : Int} {ad : Option Addr} {c : Nat} {ks : List Nd} {h g : Ky} : OutT (.mk 12 f v m ad c ks) h g ↔ g = h := by
  rw [OutT, if_pos rfl]
theorem out_fil {f v m : Int} {ad : Option Addr} {c : Nat} {u : Nd} {h g : Ky} : OutT (.mk 13 f v m ad c [u]) h g ↔ holdsG h u = true ∧ g = h := by
  rw [OutT, if_neg (by decide), if_pos rfl, holdsGs, holdsGs]; rfl
theorem par0 {h g : Ky} : OutPar [] h g ↔ False := by rw [OutPar]
theorem par1 {t : Nd} {ts : List Nd} {h g : Ky} : OutPar (t :: ts) h g ↔ OutT t h g ∨ OutPar ts h g := by rw [OutPar]
theorem seq0 {h g : Ky} : OutSeq [] h g ↔ g = h := by rw [OutSeq]
theorem seq1 {t : Nd} {ts : List Nd} {h g : Ky} : OutSeq (t :: ts) h g ↔ ∃ m, OutT t h m ∧ OutSeq ts m g := by rw [OutSeq]
abbrev dropN : Nd := .mk 11 0 0 0 none 0 []
abbrev idN : Nd := .mk 12 0 0 0 none 0 []
abbrev parN (g c : Nat) (ks : List Nd) : Nd := .mk 15 0 0 0 (some ⟨g, 0, none⟩) c ks
abbrev seqN (g c : Nat) (ks : List Nd) : Nd := .mk 16 0 0 0 (some ⟨g, 0, none⟩) c ks
/-! ### How many nodes there are -/
mutual
def countT : Nd → Int → Int
  | .mk _ _ _ _ _ _ kids, most => countKs kids most 1
def countKs : List Nd → Int → Int → Int
  | [], _, all => all
  | t :: ts, most, all => if all > most then all else countKs ts most (all + countT t (most - all))
end
theorem countT_eq (t : Nd) (most : Int) : countT t most = countKs t.kids most 1 := by cases t; rw [countT]; rfl
mutual
theorem countT_le : ∀ (t : Nd) (most : Int), 0 ≤ most → 1 ≤ countT t most ∧ countT t most ≤ most + 1
  | .mk _ _ _ _ _ _ kids, most, h => by rw [countT]; exact countKs_le kids most 1 (by omega)
theorem countKs_le : ∀ (ts : List Nd) (most all : Int), all ≤ most + 1 → all ≤ countKs ts most all ∧ countKs ts most all ≤ most + 1
  | [], most, all, h => by rw [countKs]; omega
  | t :: ts, most, all, h => by
    rw [countKs]
    split
    · omega
    · rename_i hh
      have h1 := countT_le t (most - all) (by omega)
      have h2 := countKs_le ts most (all + countT t (most - all)) (by omega)
      omega
end
mutual
def sizeN : Nd → Int
  | .mk _ _ _ _ _ _ kids => 1 + sizeKs kids
def sizeKs : List Nd → Int
  | [] => 0
  | t :: ts => sizeN t + sizeKs ts
end
theorem sizeN_eq (t : Nd) : sizeN t = 1 + sizeKs t.kids := by cases t; rw [sizeN]; rfl
mutual
theorem sizeN_pos : ∀ t : Nd, 1 ≤ sizeN t
  | .mk _ _ _ _ _ _ kids => by rw [sizeN]; have := sizeKs_len kids; omega
theorem sizeKs_len : ∀ ts : List Nd, (ts.length : Int) ≤ sizeKs ts
  | [] => by rw [sizeKs]; exact Int.le_refl _
  | t :: ts => by
    rw [sizeKs]
    have h1 := sizeN_pos t
    have h2 := sizeKs_len ts
    rw [List.length_cons]; omega
end
theorem sizeKs_get : ∀ (ts : List Nd) (i : Nat) (t : Nd), ts[i]? = some t → sizeN t ≤ sizeKs ts
  | [], _, _, h => by simp at h
  | t :: ts, 0, u, h => by
    simp only [List.getElem?_cons_zero, Option.some.injEq] at h
    subst h
    rw [sizeKs]; have := sizeKs_len ts; omega
  | t :: ts, i + 1, u, h => by
    rw [List.getElem?_cons_succ] at h
    have := sizeKs_get ts i u h
    have := sizeN_pos t
    rw [sizeKs]; omega
theorem sizeN_kid {t u : Nd} {i : Nat} (h : t.kids[i]? = some u) : sizeN u < sizeN t := by
  have := sizeKs_get _ _ _ h
  rw [sizeN_eq t]; omega
theorem sizeN_kids (t : Nd) : (t.kids.length : Int) < sizeN t := by
  have := sizeKs_len t.kids
  rw [sizeN_eq t]; omega
mutual
theorem countT_size : ∀ (t : Nd) (most : Int), 0 ≤ most → countT t most ≤ most → countT t most = sizeN t
  | .mk _ _ _ _ _ _ kids, most, h0, h => by
    rw [countT] at h ⊢
    rw [sizeN]
    exact countKs_size kids most 1 (by omega) h
theorem countKs_size : ∀ (ts : List Nd) (most all : Int), all ≤ most + 1 → countKs ts most all ≤ most → countKs ts most all = all + sizeKs ts
  | [], most, all, h0, h => by rw [countKs, sizeKs]; omega
  | t :: ts, most, all, h0, h => by
    rw [countKs] at h ⊢
    rw [sizeKs]
    split at h
    · omega
    · rename_i hh
      rw [if_neg hh]
      have h1 := countT_le t (most - all) (by omega)
      have h2 := countKs_le ts most (all + countT t (most - all)) (by omega)
      have h3 := countT_size t (most - all) (by omega) (by omega)
      have h4 := countKs_size ts most (all + countT t (most - all)) (by omega) h
      omega
end
end Go.Proofs.YtodaanhhnjkncaaDoor
/- The engine: a region that draws its order, of which every operation only makes new things: each operation's value is said by itself, and the order does not matter. -/
namespace Go.Proofs.YtodaanhhnjkncaaDoor
open Go.RowKit

/-- What is said of a value; it stays true where only new blocks come. -/
structure SpT where
  S : Value → World → Prop
  st : ∀ v w w', S v w → Frm (fun _ => False) w w' → S v w'
def spec (Ss : List SpT) (i : Nat) (v : Value) (w : World) : Prop := match Ss[i]? with | some s => s.S v w | none => True
theorem spec.stay {Ss : List SpT} {i : Nat} {v : Value} {w w' : World} (h : spec Ss i v w) (hF : Frm (fun _ => False) w w') : spec Ss i v w' := by
  unfold spec at *
  split at h
  · exact SpT.st _ _ _ _ h hF
  · trivial
def Given (Ss : List SpT) (w1 : World) (G : Kn → Prop) : List (Nat × Nat) → Kn → Prop
  | [], l => G l
  | x :: js, l => ∀ v, spec Ss x.1 v w1 → Given Ss w1 G js ((x.2, v) :: l)
theorem Has.more {n : Nat} {a : Act} {l : Kn} (h : Has n a l) (d : Nat) : Has n a ((d, a.tmps.getD d undef) :: l) := ⟨h.size, h.defers, fun t v hv => by
  unfold look at hv
  cases hb : Nat.beq d t
  · rw [hb] at hv; exact h.got t v hv
  · rw [hb] at hv
    have e : d = t := Nat.eq_of_beq_eq_true hb
    subst e
    exact Option.some.inj (by simpa using hv)⟩
theorem Given.use {Ss : List SpT} {w1 : World} {G : Kn → Prop} {n : Nat} {a : Act} : ∀ (js : List (Nat × Nat)) (l : Kn), Given Ss w1 G js l → Has n a l → (∀ x ∈ js, spec Ss x.1 (a.tmps.getD x.2 undef) w1) →
    ∃ l', Has n a l' ∧ G l' ∧ ∀ t, look l t ≠ none → look l' t ≠ none
  | [], l, h, ha, _ => ⟨l, ha, h, fun _ h => h⟩
  | x :: js, l, h, ha, hs => by
    obtain ⟨l', h1, h2, h3⟩ := Given.use js _ (h _ (hs x (by simp))) (ha.more x.2) (fun y hy => hs y (by simp [hy]))
    refine ⟨l', h1, h2, fun t ht => h3 t ?_⟩
    unfold look
    cases Nat.beq x.2 t
    · simpa using ht
    · simp
theorem all_nil {α : Type} {R : α → Prop} : ∀ y ∈ ([] : List α), R y := fun _ h => by cases h
theorem all_cons {α : Type} {R : α → Prop} {x : α} {xs : List α} (h : R x) (hs : ∀ y ∈ xs, R y) : ∀ y ∈ x :: xs, R y := fun y hy => by
  rcases List.mem_cons.1 hy with rfl | hy
  · exact h
  · exact hs y hy
abbrev FreeX := Nat × Nat × List (Nat × Nat)
section
variable {P : Program} {os : List Oper} {Q : Exit → Act → World → Prop} {n : Nat} {p : Nat → Prop} {w0 : World} {l : Kn} {L : List Ent}
/-- What an operation must hand on. -/
def FreeK (Ss : List SpT) (i d : Nat) (w1 : World) (n : Nat) (l' : Kn) : Act → World → Prop := fun a' w' => Frm (fun _ => False) w1 w' ∧ ∃ v, spec Ss i v w' ∧ Has n a' ((d, v) :: l')
def FreeStep (P : Program) (os : List Oper) (Q : Exit → Act → World → Prop) (n : Nat) (p : Nat → Prop) (w0 : World) (Ss : List SpT) (l : Kn) (L : List Ent) (x : FreeX) : Prop :=
  ∀ w1, St p w0 w1 L → ∀ lx : Kn, Given Ss w1 (fun l' => WL P os.toArray (RQ (FreeK Ss x.1 x.2.1 w1 n l') (NP Q)) n (fun _ => False) w1 [at_ os x.1] l' []) x.2.2 (l ++ lx)
theorem WL.fin {Ss : List SpT} {i d : Nat} {w1 : World} {l' : Kn} {L' : List Ent} {ops : Array Oper} {v : Value} (h : ∀ w', St (fun _ => False) w1 w' L' → spec Ss i v w') : WL P ops (RQ (FreeK Ss i d w1 n l') (NP Q)) n (fun _ => False) w1 [] ((d, v) :: l') L' :=
  fun _ w' ha hS => ⟨hS.frm, v, h w' hS, ha⟩
/-! ### The checks -/
def boundTo (o : Oper) (j : Nat) : Bool := o.after.toList.any fun e => Region.binds .any e && Nat.beq e.on j
def slotIs (os : List Oper) (j d : Nat) : Bool := match os[j]? with | some o => (match o.dst with | some e => Nat.beq e d | none => false) | none => false
def frB1 (os : List Oper) (ks : List Nat) (n : Nat) (k : Nat) (x : FreeX) : Bool :=
  Nat.beq x.1 k && slotIs os k x.2.1 && Nat.blt x.2.1 n && !(ks.contains x.2.1) &&
  (match os[k]? with
   | some o => o.after.toList.all (fun e => Nat.blt e.on k) && x.2.2.all (fun y => boundTo o y.1 && slotIs os y.1 y.2)
   | none => false)
def frB (os : List Oper) (ks : List Nat) (n : Nat) : Nat → List FreeX → List Nat → Bool
  | k, [], _ => Nat.beq k os.length
  | k, x :: X, used => frB1 os ks n k x && !(used.contains x.2.1) && frB os ks n (k + 1) X (x.2.1 :: used)
structure FreeOk (os : List Oper) (ks : List Nat) (n : Nat) (X : List FreeX) : Prop where
  len : X.length = os.length
  one : ∀ (k : Nat) (x : FreeX), X[k]? = some x → frB1 os ks n k x = true
  dif : ∀ (j k : Nat) (x y : FreeX), X[j]? = some x → X[k]? = some y → j ≠ k → x.2.1 ≠ y.2.1
theorem frB_spec {ks : List Nat} : ∀ (X : List FreeX) (k : Nat) (used : List Nat), frB os ks n k X used = true →
    k + X.length = os.length ∧ (∀ (i : Nat) (x : FreeX), X[i]? = some x → frB1 os ks n (k + i) x = true ∧ x.2.1 ∉ used) ∧ ∀ (i j : Nat) (x y : FreeX), X[i]? = some x → X[j]? = some y → i ≠ j → x.2.1 ≠ y.2.1
  | [], k, used, h => by
    unfold frB at h
    exact ⟨by simpa using Nat.eq_of_beq_eq_true h, fun i x hx => by simp at hx, fun i j x y hx => by simp at hx⟩
  | x :: X, k, used, h => by
    unfold frB at h
    simp only [Bool.and_eq_true] at h
    obtain ⟨⟨h1, h2⟩, h3⟩ := h
    obtain ⟨e1, e2, e3⟩ := frB_spec X (k + 1) _ h3
    have hx : x.2.1 ∉ used := by simpa using h2
    refine ⟨by rw [List.length_cons]; omega, ?_, ?_⟩
    · intro i y hy
      match i with
      | 0 =>
        simp only [List.getElem?_cons_zero, Option.some.injEq] at hy
        subst hy; exact ⟨h1, hx⟩
      | i + 1 =>
        rw [List.getElem?_cons_succ] at hy
        have := e2 i y hy
        refine ⟨by rw [show k + (i + 1) = k + 1 + i by omega]; exact this.1, fun hm => this.2 (List.mem_cons_of_mem _ hm)⟩
    · intro i j y z hy hz hij
      match i, j with
      | 0, 0 => exact absurd rfl hij
      | 0, j + 1 =>
        simp only [List.getElem?_cons_zero, Option.some.injEq] at hy
        rw [List.getElem?_cons_succ] at hz
        subst hy
        have := (e2 j z hz).2
        exact fun e => this (by rw [← e]; simp)
      | i + 1, 0 =>
        simp only [List.getElem?_cons_zero, Option.some.injEq] at hz
        rw [List.getElem?_cons_succ] at hy
        subst hz
        have := (e2 i y hy).2
        exact fun e => this (by rw [e]; simp)
      | i + 1, j + 1 =>
        rw [List.getElem?_cons_succ] at hy hz
        exact e3 i j y z hy hz (by omega)
theorem frB_ok {ks : List Nat} {X : List FreeX} (h : frB os ks n 0 X [] = true) : FreeOk os ks n X := by
  obtain ⟨h1, h2, h3⟩ := frB_spec X 0 [] h
  exact ⟨by omega, fun k x hx => by have := (h2 k x hx).1; rwa [Nat.zero_add] at this, h3⟩
theorem slotIs_spec {j d : Nat} (h : slotIs os j d = true) : ∃ o, os[j]? = some o ∧ o.dst = some d := by
  unfold slotIs at h
  split at h
  · rename_i o ho
    split at h
    · rename_i e he
      exact ⟨o, ho, by rw [he, Nat.eq_of_beq_eq_true h]⟩
    · cases h
  · cases h
theorem look_app : ∀ (l lx : Kn) (t : Nat), look (l ++ lx) t = (match look l t with | some v => some v | none => look lx t)
  | [], lx, t => rfl
  | x :: l, lx, t => by
    have e : look (x :: l) t = cond (Nat.beq x.1 t) (some x.2) (look l t) := rfl
    have e2 : look (x :: l ++ lx) t = cond (Nat.beq x.1 t) (some x.2) (look (l ++ lx) t) := rfl
    rw [e, e2]
    cases Nat.beq x.1 t
    · exact look_app l lx t
    · rfl
theorem look_keys : ∀ (l : Kn) (t : Nat), t ∉ l.map Prod.fst → look l t = none
  | [], _, _ => rfl
  | x :: l, t, h => by
    simp only [List.map_cons, List.mem_cons, not_or] at h
    unfold look
    have : Nat.beq x.1 t = false := by
      cases hb : Nat.beq x.1 t with
      | false => rfl
      | true => exact absurd (Nat.eq_of_beq_eq_true hb).symm h.1
    rw [this]
    exact look_keys l t h.2
/-- All that is listed, as the frame says. -/
def seen (os : List Oper) (listed : Array Bool) (a : Act) : Nat → Kn
  | 0 => []
  | k + 1 => match os[k]? with
    | some o => (match o.dst with | some d => if listed.getD k false = true then (d, a.tmps.getD d undef) :: seen os listed a k else seen os listed a k | none => seen os listed a k)
    | none => seen os listed a k
theorem seen_has {a : Act} {listed : Array Bool} (ha : Has n a []) : ∀ k, Has n a (seen os listed a k)
  | 0 => ha
  | k + 1 => by
    unfold seen
    split
    · split
      · split
        · exact (seen_has ha k).more _
        · exact seen_has ha k
      · exact seen_has ha k
    · exact seen_has ha k
theorem seen_look {a : Act} {listed : Array Bool} {j d : Nat} {o : Oper} (ho : os[j]? = some o) (hd : o.dst = some d) (hl : listed.getD j false = true) : ∀ k, j < k → look (seen os listed a k) d ≠ none
  | 0, h => absurd h (Nat.not_lt_zero j)
  | k + 1, h => by
    unfold seen
    by_cases e : j = k
    · subst e
      rw [ho]
      simp only [hd, hl, if_true]
      unfold look
      simp
    · have ih := seen_look (a := a) ho hd hl k (by omega)
      split
      · split
        · split
          · unfold look
            cases Nat.beq _ d
            · simpa using ih
            · simp
          · exact ih
        · exact ih
      · exact ih
theorem Has.app {a : Act} {l lx : Kn} (h1 : Has n a l) (h2 : Has n a lx) : Has n a (l ++ lx) := ⟨h1.size, h1.defers, fun t v hv => by
  rw [look_app] at hv
  split at hv
  · rename_i u hu
    rw [← Option.some.inj hv]; exact h1.got t u hu
  · exact h2.got t v hv⟩
/-- What holds on the way. -/
structure FreeInv (os : List Oper) (n : Nat) (p : Nat → Prop) (w0 : World) (Ss : List SpT) (l : Kn) (L : List Ent) (listed : Array Bool) (a : Act) (w : World) : Prop where
  size : listed.size = os.length
  has : Has n a l
  st : St p w0 w L
  sp : ∀ j o d, os[j]? = some o → o.dst = some d → listed.getD j false = true → spec Ss j (a.tmps.getD d undef) w
def left (os : List Oper) (listed : Array Bool) : Nat := ((List.range os.length).filter fun j => !listed.getD j false).length
theorem filter_lt {α : Type} {f g : α → Bool} : ∀ (xs : List α) (x : α), x ∈ xs → f x = true → g x = false → (∀ y, g y = true → f y = true) → (xs.filter g).length < (xs.filter f).length
  | [], x, h, _, _, _ => by cases h
  | y :: ys, x, h, hf, hg, hs => by
    have mono : ∀ zs : List α, (zs.filter g).length ≤ (zs.filter f).length := fun zs => by
      induction zs with
      | nil => simp
      | cons z zs ih =>
        simp only [List.filter_cons]
        cases hz : g z
        · cases f z <;> simp <;> omega
        · rw [hs z hz]; simp; exact ih
    rcases List.mem_cons.1 h with e | h
    · subst e
      simp only [List.filter_cons, hf, hg, if_true]
      have := mono ys
      simp; omega
    · have ih := filter_lt ys x h hf hg hs
      simp only [List.filter_cons]
      cases hz : g y
      · cases f y <;> simp <;> omega
      · rw [hs y hz]; simp; exact ih
theorem left_set {listed : Array Bool} {i : Nat} (hi : i < os.length) (hs : listed.size = os.length) (hu : listed.getD i true = false) : left os (listed.setIfInBounds i true) < left os listed := by
  refine filter_lt _ i (List.mem_range.2 hi) ?_ ?_ ?_
  · rw [getD_both hu]; rfl
  · simp [Array.getD_eq_getD_getElem?, hs, hi]
  · intro y hy
    by_cases e : i = y
    · subst e
      simp [Array.getD_eq_getD_getElem?, hs, hi] at hy
    · rwa [getD_set_ne false e] at hy
theorem all_listed {ks : List Nat} {X : List FreeX} (hX : FreeOk os ks n X) {listed : Array Bool} (hs : listed.size = os.length) (hr : Region.ready .any os.toArray listed = []) : ∀ j, j < os.length → listed.getD j false = true := by
  intro j
  induction j using Nat.strongRecOn with
  | _ j ih =>
    intro hj
    cases hl : listed.getD j false with
    | true => rfl
    | false =>
      exfalso
      have hm : j ∈ Region.ready .any os.toArray listed := by
        refine mem_ready.2 ⟨?_, os[j], by simp [hj], fun e he _ => ?_⟩
        · rw [Array.getD_eq_getD_getElem?, Array.getElem?_eq_getElem (by omega)] at hl ⊢
          simpa using hl
        · have hx : X[j]? = some (X[j]'(by rw [hX.len]; exact hj)) := List.getElem?_eq_getElem _
          have h1 := hX.one j _ hx
          unfold frB1 at h1
          rw [List.getElem?_eq_getElem hj] at h1
          simp only [Bool.and_eq_true] at h1
          have h2 := List.all_eq_true.1 h1.2.1 e (by simpa using he)
          have h3 : e.on < j := by simpa using h2
          exact ih e.on h3 (by omega)
      rw [hr] at hm; cases hm
theorem any_free {Ss : List SpT} {X : List FreeX} (hX : FreeOk os (l.map Prod.fst) n X) (hst : ∀ x ∈ X, FreeStep P os Q n p w0 Ss l L x)
    (hend : ∀ a w, Has n a l → St p w0 w L → (∀ j o d, os[j]? = some o → o.dst = some d → spec Ss j (a.tmps.getD d undef) w) → Q .normal a w) :
    ∀ (g : Nat) (listed : Array Bool) (a : Act) (w : World), FreeInv os n p w0 Ss l L listed a w → left os listed ≤ g → wpAny P .any os.toArray (NP Q) g listed a w := by
  have fin : ∀ (listed : Array Bool) (a : Act) (w : World), FreeInv os n p w0 Ss l L listed a w → Region.ready .any os.toArray listed = [] → Q .normal a w := fun listed a w inv hr =>
    hend a w inv.has inv.st fun j o d ho hd => inv.sp j o d ho hd (all_listed hX inv.size hr j (List.getElem?_eq_some_iff.1 ho).1)
  intro g
  induction g with
  | zero =>
    intro listed a w inv hg
    have hr : Region.ready .any os.toArray listed = [] := by
      cases hrr : Region.ready .any os.toArray listed with
      | nil => rfl
      | cons i is =>
        exfalso
        have hi : i ∈ Region.ready .any os.toArray listed := by rw [hrr]; simp
        obtain ⟨hu, o, ho, _⟩ := mem_ready.1 hi
        have hlt : i < os.length := by have := (Array.getElem?_eq_some_iff.1 ho).1; simpa using this
        have := left_set hlt inv.size hu
        omega
    exact ⟨hr, fin listed a w inv hr⟩
  | succ g ih =>
    intro listed a w inv hg
    refine ⟨fin listed a w inv, fun i hi => ?_⟩
    obtain ⟨hu, o, ho, hall⟩ := mem_ready.1 hi
    have hos : os[i]? = some o := by simpa using ho
    have hlt : i < os.length := (List.getElem?_eq_some_iff.1 hos).1
    have hx : X[i]? = some (X[i]'(by rw [hX.len]; exact hlt)) := List.getElem?_eq_getElem _
    generalize X[i]'(by rw [hX.len]; exact hlt) = x at hx
    have hB := hX.one i x hx
    unfold frB1 at hB
    rw [hos] at hB
    simp only [Bool.and_eq_true] at hB
    obtain ⟨⟨⟨⟨b1, b2⟩, b3⟩, b4⟩, b5, b6⟩ := hB
    have e1 : x.1 = i := Nat.eq_of_beq_eq_true b1
    obtain ⟨o', ho', hdst⟩ := slotIs_spec b2
    obtain rfl : o' = o := Option.some.inj (ho'.symm.trans hos)
    have hdn : x.2.1 < n := by simpa using b3
    have hdk : x.2.1 ∉ l.map Prod.fst := by simpa using b4
    have hat : at_ os i = o' := by unfold at_; rw [List.getD_eq_getElem?_getD, hos]; rfl
    -- the step
    have hstep := hst x (List.mem_of_getElem? hx) w inv.st (seen os listed a os.length)
    have hnil : Has n a [] := ⟨inv.has.size, inv.has.defers, fun t v h => by cases h⟩
    obtain ⟨l', hl1, hl2, hl3⟩ := Given.use x.2.2 _ hstep (inv.has.app (seen_has hnil os.length)) (fun y hy => by
      have := List.all_eq_true.1 b6 y hy
      simp only [Bool.and_eq_true] at this
      obtain ⟨oy, hoy, hdy⟩ := slotIs_spec this.2
      have hb := List.any_eq_true.1 this.1
      obtain ⟨e, he, heb⟩ := hb
      simp only [Bool.and_eq_true] at heb
      have hon : e.on = y.1 := Nat.eq_of_beq_eq_true heb.2
      have := hall e (by simpa using he) heb.1
      rw [hon] at this
      exact inv.sp y.1 oy y.2 hoy hdy this)
    have hw := hl2 a w hl1 (St.start (fun _ => False) w)
    rw [e1, hat] at hw
    unfold wpOp
    simp only [ho]
    -- what the step hands on is the way's state again
    have next : ∀ a' w', FreeK Ss i x.2.1 w n l' a' w' → wpAny P .any os.toArray (NP Q) g (listed.setIfInBounds i true) a' w' := by
      rintro a' w' ⟨hF, v, hv, ha'⟩
      have same : ∀ t, t ≠ x.2.1 → look l' t ≠ none → a'.tmps.getD t undef = a.tmps.getD t undef := fun t ht hn => by
        cases hlk : look l' t with
        | none => exact absurd hlk hn
        | some u =>
          have h1 := hl1.got t u hlk
          have h2 := ha'.got t u (by
            unfold look
            have : Nat.beq x.2.1 t = false := by
              cases hb : Nat.beq x.2.1 t with
              | false => rfl
              | true => exact absurd (Nat.eq_of_beq_eq_true hb).symm ht
            rw [this]; simpa using hlk)
          rw [h1, h2]
      refine ih _ a' w' ⟨by simp [inv.size], ⟨ha'.size, ha'.defers, fun t u hu => ?_⟩, inv.st.ext hF, ?_⟩ (by have := left_set hlt inv.size hu; omega)
      · have hne : t ≠ x.2.1 := fun e => by
          rw [e, look_keys l _ hdk] at hu; cases hu
        have hlt' : look (l ++ seen os listed a os.length) t ≠ none := by rw [look_app, hu]; simp
        rw [same t hne (hl3 t hlt')]
        exact inv.has.got t u hu
      · intro j oj d hoj hdj hlj
        by_cases e : i = j
        · subst e
          obtain rfl : oj = o' := Option.some.inj (hoj.symm.trans hos)
          obtain rfl : d = x.2.1 := Option.some.inj (hdj.symm.trans hdst)
          rw [ha'.got x.2.1 v (by unfold look; simp)]
          exact hv
        · rw [getD_set_ne false e] at hlj
          have hjl : j < os.length := (List.getElem?_eq_some_iff.1 hoj).1
          have hne : d ≠ x.2.1 := fun hd => by
            have hxj : X[j]? = some (X[j]'(by rw [hX.len]; exact hjl)) := List.getElem?_eq_getElem _
            generalize X[j]'(by rw [hX.len]; exact hjl) = z at hxj
            have hBj := hX.one j z hxj
            unfold frB1 at hBj
            simp only [Bool.and_eq_true] at hBj
            obtain ⟨oz, hoz, hdz⟩ := slotIs_spec hBj.1.1.1.2
            obtain rfl : oz = oj := Option.some.inj (hoz.symm.trans hoj)
            have hzd : z.2.1 = d := Option.some.inj (hdz.symm.trans hdj)
            exact hX.dif j i z x hxj hx (fun h => e h.symm) (hzd.trans hd)
          have hlt' : look (l ++ seen os listed a os.length) d ≠ none := by
            rw [look_app]
            split
            · simp
            · exact seen_look hoj hdj hlj _ hjl
          rw [same d hne (hl3 d hlt')]
          exact (inv.sp j oj d hoj hdj hlj).stay hF
    unfold wpList at hw
    split
    · rename_i hwd
      rw [if_pos hwd] at hw
      exact (hw.imp wpRQ (fun h => ⟨h.1, RQ.out h.2⟩)).imp (Oper.wp_mono fun a' w' h => next a' w' h) id
    · rename_i hwd
      rw [if_neg hwd] at hw
      exact next _ _ hw
def outsB (os : List Oper) (outs : List (Nat × Nat)) : Bool := outs.all fun y => slotIs os y.1 y.2
theorem WC.free {id : Nat} (Ss : List SpT) (X : List FreeX) (outs : List (Nat × Nat)) (hm : P.follows .mixedOrders = true) (hB : frB os (l.map Prod.fst) n 0 X [] = true) (hO : outsB os outs = true)
    (hst : ∀ x ∈ X, FreeStep P os Q n p w0 Ss l L x)
    (hend : ∀ w1, St p w0 w1 L → Given Ss w1 (fun l' => WE Q .normal n (fun _ => False) w1 l' []) outs l) : WC P (.region id os.toArray true) Q n p w0 l L := by
  intro a w ha hS
  refine Code.wp_mono NP.imp (wp_region_any hm ?_)
  have hX := frB_ok hB
  have hsz : (Array.replicate os.toArray.size false).size = os.length := by simp
  refine any_free (Ss := Ss) hX hst (fun a' w' ha' hS' hsp => ?_) _ _ a w.drew ⟨hsz, ha, hS.drew, ?_⟩ ?_
  · obtain ⟨l', h1, h2, _⟩ := Given.use outs l (hend w' hS') ha' (fun y hy => by
      obtain ⟨o, ho, hd⟩ := slotIs_spec (List.all_eq_true.1 hO y hy)
      exact hsp y.1 o y.2 ho hd)
    exact h2 a' w' h1 (St.start _ _)
  · intro j o d _ _ hl
    rw [getD_replicate_false] at hl; cases hl
  · unfold left
    refine Nat.le_trans (List.length_filter_le _ _) ?_
    simp
end
end Go.Proofs.YtodaanhhnjkncaaDoor
/- policy: count; what is said of the pieces of the laws of brackets. -/
namespace Go.Proofs.YtodaanhhnjkncaaDoor
open Go.RowKit

set_option maxHeartbeats 1000000 in
theorem count_c : ∀ (N : Nat) (t : Nd), SizeOf.sizeOf t ≤ N → ∀ (w : World) (most : Int), t.In → t.At w → 0 ≤ most → most ≤ 1000000 →
    Calls Tryd.prog 20 #[ndV t, .int .i64 most] w fun e w' => e = .returned (.int .i64 (countT t most)) ∧ Frm (fun _ => False) w w'
  | 0 => fun t hN => by cases t; simp only [Nd.mk.sizeOf_spec] at hN; omega
  | N + 1 => by
    intro t hN w most hI hA h0 h1
    have hlen := hI.nums.2.2.2.2
    refine enter Tryd.func20 rfl Tryd.ntmps20 rfl (St.start (fun _ => False) w) ?_
    refine WC.seq ?_
    refine WC.region ?_
    refine WL.box rfl rfl rfl (.none rfl) rfl rfl ?_
    intro g2 hg2
    refine WL.val (v_assign rfl rfl) (.none rfl) rfl rfl ?_
    refine WL.nil ?_
    refine WE.then_n ?_
    refine WC.seq ?_
    refine WC.region ?_
    refine WL.val (v_assign rfl rfl) (.none rfl) rfl rfl ?_
    refine WL.nil ?_
    refine WE.then_n ?_
    refine WC.seq ?_
    refine WC.seq ?_
    refine WC.region ?_
    refine WL.val (v_fieldAddr0 rfl rfl fld_45_4) (.none rfl) rfl rfl ?_
    refine WL.val (v_load1 rfl rfl one_43 (cellAt rfl)) (.none rfl) rfl rfl ?_
    refine WL.val (v_len_slice rfl rfl Tryd.underlying43) (.none rfl) rfl rfl ?_
    refine WL.val (v_move rfl rfl) (.none rfl) rfl rfl ?_
    refine WL.nil ?_
    refine WE.then_n ?_
    refine WC.block ?_
    refine WC.loop (fun x : Nat × Int => [(11, .int .i64 x.1), (10, .int .i64 t.kids.length), (9, .slice t.ad t.kids.length t.cap), (5, .int .i64 x.2), (1, .int .i64 most)]) (fun _ => []) (fun x => x.1 ≤ t.kids.length ∧ 1 ≤ x.2 ∧ x.2 ≤ most + 1 ∧ countKs (t.kids.drop x.1) most x.2 = countT t most) (fun x => t.kids.length - x.1) (0, 1) ⟨Nat.zero_le _, by dsimp only; omega, by dsimp only; omega, (countT_eq t most).symm⟩ (.cons rfl (.cons rfl (.cons rfl (.cons rfl (.cons rfl .nil))))) (.cons _ (.refl _)) ?_
    rintro ⟨k, all⟩ ⟨hk, ha0, ha1, hc⟩
    dsimp only at hk ha0 ha1 hc
    dsimp only
    refine WC.seq ?_
    refine WC.region ?_
    refine WL.test (v_lss rfl rfl rfl) (.none rfl) rfl rfl (fun h12 => ?_) (fun h12 => ?_)
    · -- 12T
      refine WL.nil ?_
      refine WE.then_n ?_
      refine WC.seq ?_
      refine WC.cond_t rfl ?_
      refine WC.skip ?_
      refine WE.then_n ?_
      refine WC.seq ?_
      refine WC.block ?_
      refine WC.seq ?_
      refine WC.region ?_
      obtain ⟨u, hu⟩ : ∃ u, t.kids[k]? = some u := ⟨t.kids[k]'(by omega), List.getElem?_eq_getElem _⟩
      obtain ⟨b, o, ea, _⟩ := (hA.kid hu).1
      rw [drop_cons hu, countKs] at hc
      refine WL.val (v_indexAddr (b := b) (off := o) (lo := k) rfl (by show some (Value.slice t.ad _ _) = _; rw [ea]) rfl Tryd.underlying43 sz_45 rfl (by omega)) (.none rfl) rfl rfl ?_
      refine WL.val (v_loadN (cs := ndL u) rfl rfl many_45 rfl (rangeIn (fun h => h) (hA.kidAt hu ea))) (.none rfl) rfl rfl ?_
      refine WL.alloc rfl zero_45 (.none rfl) rfl rfl ?_
      intro g7 hg7
      refine WL.storeW rfl rfl rfl rfl many_45 rfl rfl (.none rfl) rfl ?_
      refine WL.nil ?_
      refine WE.then_n ?_
      refine WC.seq ?_
      refine WC.seq ?_
      refine WC.region ?_
      refine WL.val (v_move rfl rfl) (.none rfl) rfl rfl ?_
      refine WL.val (v_move rfl rfl) (.none rfl) rfl rfl ?_
      refine WL.test (v_gtr rfl rfl rfl) (.none rfl) rfl rfl (fun h17 => ?_) (fun h17 => ?_)
      · -- 17T
        refine WL.nil ?_
        refine WE.then_n ?_
        refine WC.cond_t rfl ?_
        refine WC.seq ?_
        refine WC.region ?_
        refine WL.val (v_move rfl rfl) (.none rfl) rfl rfl ?_
        refine WL.val (v_assign rfl rfl) (.none rfl) rfl rfl ?_
        refine WL.nil ?_
        refine WE.then_n ?_
        refine WC.ret ?_
        refine WE.then_ret ?_
        refine WE.block_ret ?_
        refine WE.then_ret ?_
        refine WE.then_ret ?_
        refine WE.block_ret ?_
        refine WE.then_ret ?_
        refine WE.ret1 (P := Tryd.prog) (.inl rfl) Tryd.results20 rfl ?_
        rw [if_pos (by omega)] at hc
        exact fun w' h => ⟨by rw [← hc], h.frm⟩
      · -- 17F
        refine WL.nil ?_
        refine WE.then_n ?_
        refine WC.cond_f rfl ?_
        refine WC.skip ?_
        refine WE.then_n ?_
        refine WC.region ?_
        have hcl := countT_le u (most - all) (by omega)
        refine WL.val (v_move rfl rfl) (.none rfl) rfl rfl ?_
        refine WL.val (v_loadN rfl rfl many_45 rfl allAt) (.none rfl) rfl rfl ?_
        refine WL.val (v_move rfl rfl) (.none rfl) rfl rfl ?_
        refine WL.val (v_move rfl rfl) (.none rfl) rfl rfl ?_
        refine WL.val (v_sub rfl rfl rfl (w_i64 (by omega) (by omega))) (.none rfl) rfl rfl ?_
        refine WL.call rfl rfl ck_20 (.none rfl) rfl rfl ?_
        intro w hS
        refine Calls.then (count_c N u (Nd.kidN hN hu) w (most - all) (hI.kids.get _ _ _ hu) ((hA.kid hu).2.st (fun _ h => h) hS) (by omega) (by omega)) hS ?_
        refine WL.val (v_add rfl rfl rfl (w_i64 (by omega) (by omega))) (.none rfl) rfl rfl ?_
        refine WL.val (v_assign rfl rfl) (.none rfl) rfl rfl ?_
        refine WL.nil ?_
        refine WE.block_n ?_
        refine WE.then_n ?_
        refine WC.region ?_
        refine WL.val (v_add rfl rfl rfl (w_i64 (by omega) (by omega))) (.none rfl) rfl rfl ?_
        refine WL.val (v_move rfl rfl) (.none rfl) rfl rfl ?_
        refine WL.nil ?_
        rw [if_neg (by omega)] at hc
        exact WE.next (k + 1, all + countT u (most - all)) (by dsimp only; omega) ⟨by dsimp only; omega, by dsimp only; omega, by dsimp only; omega, hc⟩ (.int rfl (by dsimp only; omega) (.cons rfl (.cons rfl (.cons rfl (.cons rfl .nil))))) (.cons _ (.refl _))
    · -- 12F
      refine WL.nil ?_
      refine WE.then_n ?_
      refine WC.seq ?_
      refine WC.cond_f rfl ?_
      refine WC.exit ?_
      refine WE.then_exit ?_
      refine WE.then_exit ?_
      refine WE.block_hit ?_
      refine WE.then_n ?_
      refine WC.seq ?_
      refine WC.region ?_
      refine WL.val (v_move rfl rfl) (.none rfl) rfl rfl ?_
      refine WL.val (v_assign rfl rfl) (.none rfl) rfl rfl ?_
      refine WL.nil ?_
      refine WE.then_n ?_
      refine WC.ret ?_
      refine WE.ret1 (P := Tryd.prog) (.inl rfl) Tryd.results20 rfl ?_
      obtain rfl : k = t.kids.length := (by omega)
      rw [List.drop_length, countKs] at hc
      exact fun w' h => ⟨by rw [← hc], h.frm⟩
/-! ### The pieces -/
/-- A tree that is this relation. -/
structure IsT (R : Ky → Ky → Prop) (t : Nd) (w : World) : Prop where
  isIn : t.In
  at_ : t.At w
  rel : ∀ h g, OutT t h g ↔ R h g
theorem IsT.frm {R : Ky → Ky → Prop} {t : Nd} {w w' : World} (h : IsT R t w) (hF : Frm (fun _ => False) w w') : IsT R t w' := ⟨h.isIn, Frm.at hF h.at_, h.rel⟩
theorem IsT.st {R : Ky → Ky → Prop} {t : Nd} {w w' : World} {L : List Ent} (h : IsT R t w) (hS : St (fun _ => False) w w' L) : IsT R t w' := h.frm hS.frm
def rD : Ky → Ky → Prop := fun _ _ => False
def rI : Ky → Ky → Prop := fun h g => g = h
def rP (R1 R2 : Ky → Ky → Prop) : Ky → Ky → Prop := fun h g => R1 h g ∨ R2 h g
def rS (R1 R2 : Ky → Ky → Prop) : Ky → Ky → Prop := fun h g => ∃ m, R1 h m ∧ R2 m g
theorem isT_drop (w : World) : IsT rD dropN w := ⟨Nd.In_mk (by omega) (by omega) (by omega) (by omega) (by show 0 ≤ _; omega) KidsIn.nil, Nd.At_leaf, fun _ _ => out_drop⟩
theorem isT_id (w : World) : IsT rI idN w := ⟨Nd.In_mk (by omega) (by omega) (by omega) (by omega) (by show 0 ≤ _; omega) KidsIn.nil, Nd.At_leaf, fun _ _ => out_id⟩
theorem isT_par0 (w : World) : IsT rD (.mk 15 0 0 0 none 0 []) w := ⟨Nd.In_mk (by omega) (by omega) (by omega) (by omega) (by show 0 ≤ _; omega) KidsIn.nil, Nd.At_leaf, fun _ _ => by rw [out_par, par0]; rfl⟩
theorem isT_seq0 (w : World) : IsT rI (.mk 16 0 0 0 none 0 []) w := ⟨Nd.In_mk (by omega) (by omega) (by omega) (by omega) (by show 0 ≤ _; omega) KidsIn.nil, Nd.At_leaf, fun _ _ => by rw [out_seq, seq0]; rfl⟩
theorem isT_par {R1 R2 : Ky → Ky → Prop} {t u : Nd} {w : World} {b : Nat} (hb : w.rangeAt b 0 (ndL t ++ ndL u)) (ht : IsT R1 t w) (hu : IsT R2 u w) : IsT (rP R1 R2) (parN b 2 [t, u]) w :=
  ⟨Nd.In_mk (by omega) (by omega) (by omega) (by omega) (by show 2 ≤ _; omega) (.cons ht.isIn (.cons hu.isIn .nil)), Nd.At_two hb ht.at_ hu.at_, fun h g => by rw [out_par, par1, par1, par0, or_false, ht.rel, hu.rel]; rfl⟩
theorem isT_seq {R1 R2 : Ky → Ky → Prop} {t u : Nd} {w : World} {b : Nat} (hb : w.rangeAt b 0 (ndL t ++ ndL u)) (ht : IsT R1 t w) (hu : IsT R2 u w) : IsT (rS R1 R2) (seqN b 2 [t, u]) w :=
  ⟨Nd.In_mk (by omega) (by omega) (by omega) (by omega) (by show 2 ≤ _; omega) (.cons ht.isIn (.cons hu.isIn .nil)), Nd.At_two hb ht.at_ hu.at_, fun h g => by
    rw [out_seq, seq1]
    unfold rS
    refine exists_congr fun m => ?_
    rw [ht.rel, seq1]
    refine and_congr_right fun _ => ?_
    constructor
    · rintro ⟨m2, h2, h3⟩
      rw [seq0] at h3; rw [h3]; exact (hu.rel _ _).1 h2
    · intro h2
      exact ⟨g, (hu.rel _ _).2 h2, seq0.2 rfl⟩⟩
/-- Two trees that are the same relation. -/
structure IsQ (x : Nd × Nd) (w : World) : Prop where
  in1 : x.1.In
  in2 : x.2.In
  at1 : x.1.At w
  at2 : x.2.At w
  rel : ∀ h g, OutT x.1 h g ↔ OutT x.2 h g
theorem IsQ.frm {x : Nd × Nd} {w w' : World} (h : IsQ x w) (hF : Frm (fun _ => False) w w') : IsQ x w' := ⟨h.in1, h.in2, Frm.at hF h.at1, Frm.at hF h.at2, h.rel⟩
theorem IsQ.st {x : Nd × Nd} {w w' : World} {L : List Ent} (h : IsQ x w) (hS : St (fun _ => False) w w' L) : IsQ x w' := h.frm hS.frm
theorem isQ {R1 R2 : Ky → Ky → Prop} {t u : Nd} {w : World} (ht : IsT R1 t w) (hu : IsT R2 u w) (h : ∀ h g, R1 h g ↔ R2 h g) : IsQ (t, u) w := ⟨ht.isIn, hu.isIn, ht.at_, hu.at_, fun x y => (ht.rel x y).trans ((h x y).trans (hu.rel x y).symm)⟩
def pairsL : List (Nd × Nd) → List Value
  | [] => []
  | x :: xs => (ndL x.1 ++ ndL x.2) ++ pairsL xs
theorem pairsL_seg : ∀ (Ps : List (Nd × Nd)) (k : Nat) (x : Nd × Nd), Ps[k]? = some x → ((pairsL Ps).drop (k * 10)).take 10 = ndL x.1 ++ ndL x.2
  | [], _, _, h => by simp at h
  | y :: Ps, 0, x, h => by
    simp only [List.getElem?_cons_zero, Option.some.injEq] at h
    subst h
    show ((ndL y.1 ++ ndL y.2 ++ pairsL Ps).drop (0 * 10)).take 10 = _
    rw [Nat.zero_mul, List.drop_zero, List.take_left' (show (ndL y.1 ++ ndL y.2).length = 10 from rfl)]
  | y :: Ps, k + 1, x, h => by
    rw [List.getElem?_cons_succ] at h
    show ((ndL y.1 ++ ndL y.2 ++ pairsL Ps).drop ((k + 1) * 10)).take 10 = _
    rw [show (k + 1) * 10 = 10 + k * 10 by omega, ← List.drop_drop, List.drop_left' (show (ndL y.1 ++ ndL y.2).length = 10 from rfl)]
    exact pairsL_seg Ps k x h
theorem pairsL_at {w : World} {b : Nat} {Ps : List (Nd × Nd)} {k : Nat} {x : Nd × Nd} (h : w.rangeAt b 0 (pairsL Ps)) (hx : Ps[k]? = some x) : w.rangeAt b (0 + k * 10) (ndL x.1 ++ ndL x.2) := fun j v hj => by
  have hs := pairsL_seg Ps k x hx
  rw [← hs, List.getElem?_take] at hj
  split at hj
  · rw [List.getElem?_drop] at hj
    have := h (k * 10 + j) v hj
    rwa [show 0 + (k * 10 + j) = 0 + k * 10 + j by omega] at this
  · cases hj
def spT (R : Ky → Ky → Prop) : SpT := ⟨fun v w => ∃ t : Nd, v = ndV t ∧ IsT R t w, fun _ _ _ ⟨t, e, h⟩ hF => ⟨t, e, h.frm hF⟩⟩
def spL (R1 R2 : Ky → Ky → Prop) : SpT := ⟨fun v w => ∃ (b : Nat) (t u : Nd), v = .slice (some ⟨b, 0, none⟩) 2 2 ∧ w.rangeAt b 0 (ndL t ++ ndL u) ∧ IsT R1 t w ∧ IsT R2 u w, fun _ _ _ ⟨b, t, u, e, hb, h1, h2⟩ hF => ⟨b, t, u, e, Frm.range hF _ _ _ hb, h1.frm hF, h2.frm hF⟩⟩
def spQ : SpT := ⟨fun v w => ∃ t u : Nd, v = .agg (ndL t ++ ndL u).toArray ∧ IsQ (t, u) w, fun _ _ _ ⟨t, u, e, h⟩ hF => ⟨t, u, e, h.frm hF⟩⟩
def spS : SpT := ⟨fun v w => ∃ (b : Nat) (Ps : List (Nd × Nd)), v = .slice (some ⟨b, 0, none⟩) 11 11 ∧ w.rangeAt b 0 (pairsL Ps) ∧ Ps.length = 11 ∧ ∀ x ∈ Ps, IsQ x w, fun _ _ _ ⟨b, Ps, e, hb, hl, h⟩ hF => ⟨b, Ps, e, Frm.range hF _ _ _ hb, hl, fun x hx => (h x hx).frm hF⟩⟩
section
variable {A B C : Ky → Ky → Prop}
theorem rl0 (h g : Ky) : rP A (rP B C) h g ↔ rP (rP A B) C h g := by unfold rP; exact or_assoc.symm
theorem rl1 (h g : Ky) : rS A (rS B C) h g ↔ rS (rS A B) C h g := by
  unfold rS
  constructor
  · rintro ⟨m, h1, m2, h2, h3⟩; exact ⟨m2, ⟨m, h1, h2⟩, h3⟩
  · rintro ⟨m, ⟨m2, h1, h2⟩, h3⟩; exact ⟨m2, h1, m, h2, h3⟩
theorem rl2 (h g : Ky) : rP A rD h g ↔ A h g := by unfold rP rD; simp
theorem rl3 (h g : Ky) : rP A B h g ↔ rP B A h g := by unfold rP; exact or_comm
theorem rl4 (h g : Ky) : rP A A h g ↔ A h g := by unfold rP; exact or_self_iff
theorem rl5 (h g : Ky) : rS A rI h g ↔ A h g := by
  unfold rS rI
  exact ⟨fun ⟨m, h1, h2⟩ => by rw [h2]; exact h1, fun h1 => ⟨g, h1, rfl⟩⟩
theorem rl6 (h g : Ky) : rS rI A h g ↔ A h g := by
  unfold rS rI
  exact ⟨fun ⟨m, h1, h2⟩ => by rw [h1] at h2; exact h2, fun h1 => ⟨h, rfl, h1⟩⟩
theorem rl7 (h g : Ky) : rS A rD h g ↔ rS rD A h g := by
  unfold rS rD
  exact ⟨fun ⟨_, _, h⟩ => h.elim, fun ⟨_, h, _⟩ => h.elim⟩
theorem rl8 (h g : Ky) : rS (rP A B) C h g ↔ rP (rS A C) (rS B C) h g := by
  unfold rS rP
  constructor
  · rintro ⟨m, h1 | h1, r⟩
    · exact .inl ⟨m, h1, r⟩
    · exact .inr ⟨m, h1, r⟩
  · rintro (⟨m, h1, r⟩ | ⟨m, h1, r⟩)
    · exact ⟨m, .inl h1, r⟩
    · exact ⟨m, .inr h1, r⟩
theorem rl9 (h g : Ky) : rI h g ↔ rI h g := Iff.rfl
theorem rl10 (h g : Ky) : rD h g ↔ rD h g := Iff.rfl
end
end Go.Proofs.YtodaanhhnjkncaaDoor
/- policy: trees but for where they lie; Clone; a list of nodes as cells. -/
namespace Go.Proofs.YtodaanhhnjkncaaDoor
open Go.RowKit

/-- A tree, but for where it lies. -/
inductive Pn where
  | mk (kind f val mask : Int) (kids : List Pn)
mutual
def er : Nd → Pn
  | .mk k f v m _ _ kids => .mk k f v m (erKs kids)
def erKs : List Nd → List Pn
  | [] => []
  | t :: ts => er t :: erKs ts
end
mutual
/-- The same, so deep at most. -/
def erD : Nd → Nat → Pn
  | .mk k f v m _ _ kids, d => .mk k f v m (match d with | 0 => [] | d + 1 => erDs kids d)
def erDs : List Nd → Nat → List Pn
  | [], _ => []
  | t :: ts, d => erD t d :: erDs ts d
end
theorem erKs_map : ∀ ts : List Nd, erKs ts = ts.map er
  | [] => by rw [erKs]; rfl
  | t :: ts => by rw [erKs, erKs_map ts]; rfl
theorem erDs_map (d : Nat) : ∀ ts : List Nd, erDs ts d = ts.map (fun t => erD t d)
  | [] => by rw [erDs]; rfl
  | t :: ts => by rw [erDs, erDs_map d ts]; rfl
theorem er_eq (t : Nd) : er t = .mk t.kind t.f t.val t.mask (t.kids.map er) := by cases t; rw [er, erKs_map]; rfl
theorem erD_zero (t : Nd) : erD t 0 = .mk t.kind t.f t.val t.mask [] := by cases t; rw [erD]; rfl
theorem erD_succ (t : Nd) (d : Nat) : erD t (d + 1) = .mk t.kind t.f t.val t.mask (t.kids.map fun u => erD u d) := by cases t; rw [erD, ← erDs_map]; rfl
theorem argE_same {t u : Nd} (h1 : u.kind = t.kind) (h2 : u.f = t.f) (h3 : u.val = t.val) (h4 : u.mask = t.mask) : argE u = argE t := by unfold argE; rw [h1, h2, h3, h4]
theorem formE_same {t u : Nd} (h1 : u.kind = t.kind) (h2 : u.kids.length = t.kids.length) : formE u = formE t := by unfold formE; rw [h1, h2]
mutual
theorem walk_erD : ∀ (t u : Nd) (d : Nat) (deep : Int) (pred : Bool) (n : Int), er u = erD t d → 17 ≤ deep + d → walkT u deep pred n = walkT t deep pred n
  | .mk k f v m a c kids, u, d, deep, pred, n, he, hd => by
    rw [walkT_eq u, walkT_eq (.mk k f v m a c kids)]
    by_cases h16 : 16 < deep
    · rw [if_pos (.inl h16), if_pos (.inl h16)]
    · match d with
      | 0 => omega
      | d + 1 =>
        rw [er_eq, erD] at he
        injection he with e1 e2 e3 e4 e5
        have hl : u.kids.length = kids.length := by
          have := congrArg List.length e5
          rwa [List.length_map, erDs_map, List.length_map] at this
        rw [argE_same (t := .mk k f v m a c kids) e1 e2 e3 e4, formE_same (t := .mk k f v m a c kids) e1 hl, e1]
        have := walk_erDs k kids u.kids d (deep + 1) (n + 1) 0 (by rw [← e5, erKs_map]) (by omega)
        rw [this]
        rfl
theorem walk_erDs (k : Int) : ∀ (ts us : List Nd) (d : Nat) (deep : Int) (n : Int) (i : Nat), erKs us = erDs ts d → 17 ≤ deep + d → walkKs k i us deep n = walkKs k i ts deep n
  | [], us, d, deep, n, i, he, hd => by
    rw [erDs, erKs_map] at he
    rw [List.map_eq_nil_iff.1 he]
  | t :: ts, us, d, deep, n, i, he, hd => by
    match us with
    | [] => rw [erKs, erDs] at he; cases he
    | u :: us =>
      rw [erKs, erDs] at he
      injection he with e1 e2
      rw [walkKs, walkKs, walk_erD t u d deep _ n e1 hd]
      split
      · rfl
      · exact walk_erDs k ts us d deep _ (i + 1) e2 hd
end
mutual
theorem erD_er : ∀ (t : Nd) (d : Nat) (deep : Int) (pred : Bool) (n : Int), (walkT t deep pred n).1 = 0 → 16 ≤ deep + d → erD t d = er t
  | .mk k f v m a c kids, d, deep, pred, n, h, hd => by
    rw [walkT] at h
    split at h
    · cases h
    · split at h
      · cases h
      · split at h
        · rename_i q; exact absurd h q
        · split at h
          · rename_i q; exact absurd h q
          · match d with
            | 0 =>
              match kids with
              | [] => rw [erD, er, erKs]
              | t :: ts =>
                exfalso
                rw [walkKs] at h
                have e : walkT t (deep + 1) (predK k 0) (n + 1) = (34, n + 1 + 1) := by rw [walkT_eq, if_pos (.inl (by omega))]
                rw [e] at h
                rw [if_pos (show (34 : Int) ≠ 0 by decide)] at h
                cases h
            | d + 1 =>
              rw [erD, er, erDs_er k kids d (deep + 1) (n + 1) 0 h (by omega)]
theorem erDs_er (k : Int) : ∀ (ts : List Nd) (d : Nat) (deep : Int) (n : Int) (i : Nat), (walkKs k i ts deep n).1 = 0 → 16 ≤ deep + d → erDs ts d = erKs ts
  | [], d, deep, n, i, _, _ => by rw [erDs, erKs]
  | t :: ts, d, deep, n, i, h, hd => by
    rw [walkKs] at h
    split at h
    · rename_i q; exact absurd h q
    · rename_i q
      rw [erDs, erKs, erD_er t d deep _ n (Classical.not_not.1 q) hd, erDs_er k ts d deep _ (i + 1) h hd]
end
mutual
theorem holdsT_er (H : Hd) : ∀ (t u : Nd), er u = er t → holdsT H u = holdsT H t
  | .mk k f v m a c kids, u, he => by
    rw [er_eq u, er] at he
    injection he with e1 e2 e3 e4 e5
    rw [holdsT_eq H u, holdsT_eq H (.mk k f v m a c kids), e1, e2, e3, e4]
    have := holdsKs_er H kids u.kids (by rw [← e5, erKs_map])
    rw [holdsKs_map, holdsKs_map] at this
    rw [this]
    rfl
theorem holdsKs_er (H : Hd) : ∀ (ts us : List Nd), erKs us = erKs ts → holdsKs H us = holdsKs H ts
  | [], us, he => by
    rw [erKs, erKs_map] at he
    rw [List.map_eq_nil_iff.1 he]
  | t :: ts, us, he => by
    match us with
    | [] => rw [erKs, erKs] at he; cases he
    | u :: us =>
      rw [erKs, erKs] at he
      injection he with e1 e2
      rw [holdsKs, holdsKs, holdsT_er H t u e1, holdsKs_er H ts us e2]
end
mutual
theorem runT_er : ∀ (t u : Nd) (H : Hd), er u = er t → runT u H = runT t H
  | .mk k f v m a c kids, u, H, he => by
    rw [er_eq u, er] at he
    injection he with e1 e2 e3 e4 e5
    have e6 : erKs u.kids = erKs kids := by rw [← e5, erKs_map]
    have h1 := holdsKs_er H kids u.kids e6
    rw [holdsKs_map, holdsKs_map] at h1
    rw [runT_eq u, runT_eq (.mk k f v m a c kids), e1, e2, e3, h1, parKs_er kids u.kids H [] e6, seqKs_er kids u.kids [H] e6, nthKs_er kids u.kids 1 H e6, nthKs_er kids u.kids 2 H e6]
    rfl
theorem parKs_er : ∀ (ts us : List Nd) (H : Hd) (all : List Hd), erKs us = erKs ts → parKs us H all = parKs ts H all
  | [], us, H, all, he => by
    rw [erKs, erKs_map] at he
    rw [List.map_eq_nil_iff.1 he]
  | t :: ts, us, H, all, he => by
    match us with
    | [] => rw [erKs, erKs] at he; cases he
    | u :: us =>
      rw [erKs, erKs] at he
      injection he with e1 e2
      rw [parKs, parKs, runT_er t u H e1]
      congr 1
      funext out
      congr 1
      funext all'
      exact parKs_er ts us H all' e2
theorem seqKs_er : ∀ (ts us : List Nd) (all : List Hd), erKs us = erKs ts → seqKs us all = seqKs ts all
  | [], us, all, he => by
    rw [erKs, erKs_map] at he
    rw [List.map_eq_nil_iff.1 he]
  | t :: ts, us, all, he => by
    match us with
    | [] => rw [erKs, erKs] at he; cases he
    | u :: us =>
      rw [erKs, erKs] at he
      injection he with e1 e2
      rw [seqKs, seqKs, show (fun g => runT u g) = (fun g => runT t g) from funext fun g => runT_er t u g e1]
      congr 1
      funext next
      exact seqKs_er ts us next e2
theorem nthKs_er : ∀ (ts us : List Nd) (i : Nat) (H : Hd), erKs us = erKs ts → nthKs us i H = nthKs ts i H
  | [], us, i, H, he => by
    rw [erKs, erKs_map] at he
    rw [List.map_eq_nil_iff.1 he]
  | t :: ts, us, i, H, he => by
    match us with
    | [] => rw [erKs, erKs] at he; cases he
    | u :: us =>
      rw [erKs, erKs] at he
      injection he with e1 e2
      match i with
      | 0 => rw [nthKs, nthKs, runT_er t u H e1]
      | i + 1 => rw [nthKs, nthKs]; exact nthKs_er ts us i H e2
end
/-! ### How many nodes a right tree has -/
mutual
theorem walkT_size : ∀ (t : Nd) (deep : Int) (pred : Bool) (n : Int), (walkT t deep pred n).1 = 0 → (walkT t deep pred n).2 = n + sizeN t
  | .mk k f v m a c kids, deep, pred, n, h => by
    rw [walkT] at h ⊢
    split at h
    · cases h
    · split at h
      · cases h
      · split at h
        · rename_i q; exact absurd h q
        · split at h
          · rename_i q; exact absurd h q
          · rename_i h1 h2 h3 h4
            rw [if_neg h1, if_neg h2, if_neg h3, if_neg h4, walkKs_size k kids (deep + 1) (n + 1) 0 h, sizeN]
            omega
theorem walkKs_size (k : Int) : ∀ (ts : List Nd) (deep : Int) (n : Int) (i : Nat), (walkKs k i ts deep n).1 = 0 → (walkKs k i ts deep n).2 = n + sizeKs ts
  | [], deep, n, i, _ => by rw [walkKs, sizeKs]; exact (Int.add_zero n).symm
  | t :: ts, deep, n, i, h => by
    rw [walkKs] at h ⊢
    split at h
    · rename_i q; exact absurd h q
    · rename_i q
      rw [if_neg q, walkKs_size k ts deep _ (i + 1) h, walkT_size t deep _ n (Classical.not_not.1 q), sizeKs]
      omega
end
/-! ### Nodes as cells -/
def ndsL : List Nd → List Value
  | [] => []
  | t :: ts => ndL t ++ ndsL ts
theorem ndsL_len : ∀ ts : List Nd, (ndsL ts).length = ts.length * 5
  | [] => rfl
  | t :: ts => by
    show (ndL t ++ ndsL ts).length = _
    rw [List.length_append, ndsL_len ts, List.length_cons]
    show 5 + ts.length * 5 = _
    omega
theorem ndsL_snoc : ∀ (ts : List Nd) (t : Nd), ndsL ts ++ ndL t = ndsL (ts ++ [t])
  | [], t => by show [] ++ ndL t = ndL t ++ []; simp
  | u :: ts, t => by
    show (ndL u ++ ndsL ts) ++ ndL t = ndL u ++ ndsL (ts ++ [t])
    rw [List.append_assoc, ndsL_snoc ts t]
theorem ndsL_seg : ∀ (ts : List Nd) (k : Nat) (t : Nd), ts[k]? = some t → ((ndsL ts).drop (k * 5)).take 5 = ndL t
  | [], _, _, h => by simp at h
  | u :: ts, 0, t, h => by
    simp only [List.getElem?_cons_zero, Option.some.injEq] at h
    subst h
    show ((ndL u ++ ndsL ts).drop (0 * 5)).take 5 = _
    rw [Nat.zero_mul, List.drop_zero, List.take_left' (show (ndL u).length = 5 from rfl)]
  | u :: ts, k + 1, t, h => by
    rw [List.getElem?_cons_succ] at h
    show ((ndL u ++ ndsL ts).drop ((k + 1) * 5)).take 5 = _
    rw [show (k + 1) * 5 = 5 + k * 5 by omega, ← List.drop_drop, List.drop_left' (show (ndL u).length = 5 from rfl)]
    exact ndsL_seg ts k t h
theorem KidsAt.of' {w : World} {ad : Option Addr} : ∀ (ts : List Nd) (i : Nat), (∀ (j : Nat) (t : Nd), ts[j]? = some t → (∃ b o, ad = some ⟨b, o, none⟩ ∧ w.rangeAt b (o + (i + j) * 5) (ndL t)) ∧ t.At w) → KidsAt w ad i ts
  | [], _, _ => by unfold KidsAt; trivial
  | t :: ts, i, h => by
    unfold KidsAt
    have h0 := h 0 t rfl
    exact ⟨h0.1, h0.2, KidsAt.of' ts (i + 1) fun j u hu => by have := h (j + 1) u hu; rwa [show i + (j + 1) = i + 1 + j by omega] at this⟩
/-- A node whose kids lie in blocks of one's own. -/
theorem Vec.nodes {w : World} {ad : Option Addr} {c : Nat} {us : List Nd} {E : List Ent} {k f v m : Int} (hV : Vec 5 ad us.length c (ndsL us) E) (hE : ∀ e ∈ E, e.holds w) (hu : ∀ u ∈ us, u.At w) : (Nd.mk k f v m ad c us).At w := by
  unfold Nd.At
  refine KidsAt.of' us 0 fun j u hj => ⟨?_, hu u (List.mem_of_getElem? hj)⟩
  have hlt : j < us.length := (List.getElem?_eq_some_iff.1 hj).1
  rcases hV with ⟨_, h, _⟩ | ⟨g, cs, rfl, rfl, hx, hcl, hk⟩
  · omega
  · refine ⟨g, 0, rfl, fun i x hi => ?_⟩
    have hR : Row w g cs := hE (.row g cs) (by simp)
    refine hR.cell ?_
    have hs := ndsL_seg us j u hj
    rw [← hs, List.getElem?_take] at hi
    split at hi
    · rename_i h5
      rw [List.getElem?_drop, ← hx, List.getElem?_take] at hi
      split at hi
      · rw [Nat.zero_add, Nat.zero_add]; exact hi
      · cases hi
    · cases hi
theorem ex_get' {α : Type} {xs : List α} {k : Nat} (h : k < xs.length) : ∃ x, xs[k]? = some x := ⟨xs[k], List.getElem?_eq_getElem h⟩
/-- What a call has made beside what was there. -/
theorem St.join {p : Nat → Prop} {w0 w1 w' : World} {L M : List Ent} (hS : St p w0 w1 L) (h : St (fun _ => False) w1 w' M) : St p w0 w' (M ++ L) := by
  refine ⟨hS.frm.trans (h.frm.mono (fun _ h => h.elim)), ?_, ?_, ?_⟩
  · intro e he
    rcases List.mem_append.1 he with he | he
    · exact h.holds e he
    · exact Ent.keep (hS.holds e he) (h.frm.block _ (Ent.lt (hS.holds e he)) (fun h => h))
  · rw [List.map_append, List.nodup_append]
    refine ⟨h.dist, hS.dist, ?_⟩
    rintro a ha b hb rfl
    obtain ⟨e, he, e1⟩ := List.mem_map.1 ha
    obtain ⟨e', he', e2⟩ := List.mem_map.1 hb
    have h1 := (h.mine e he).resolve_left (fun h => h)
    have h2 := Ent.lt (hS.holds e' he')
    omega
  · intro e he
    rcases List.mem_append.1 he with he | he
    · exact .inr (Nat.le_trans hS.frm.size ((h.mine e he).resolve_left (fun h => h)))
    · exact hS.mine e he
end Go.Proofs.YtodaanhhnjkncaaDoor
/- policy: Clone. -/
namespace Go.Proofs.YtodaanhhnjkncaaDoor
open Go.RowKit

theorem St.pull {p : Nat → Prop} {w0 w : World} {a b : Ent} {X E R : List Ent} (h : St p w0 w (a :: (X ++ (b :: (E ++ R))))) : St p w0 w (E ++ (a :: (X ++ (b :: R)))) := h.perm (by
  have := List.perm_append_comm_assoc (a :: (X ++ [b])) E R
  simpa [List.append_assoc] using this.symm)
/-- A tree in blocks of one's own: M; its kids' block is E. -/
structure Own (u : Nd) (E M : List Ent) : Prop where
  isIn : u.In
  at_ : ∀ w, (∀ e ∈ E ++ M, e.holds w) → u.At w
  vec : Vec 5 u.ad u.kids.length u.cap (ndsL u.kids) E
theorem KidsIn.of' {ts : List Nd} (h : ∀ t ∈ ts, t.In) : KidsIn ts := by
  induction ts with
  | nil => unfold KidsIn; trivial
  | cons t ts ih => unfold KidsIn; exact ⟨h t (by simp), ih fun u hu => h u (by simp [hu])⟩
theorem List.getElem?_snoc {α : Type} {xs : List α} {x y : α} {j : Nat} (h : (xs ++ [x])[j]? = some y) : (xs[j]? = some y) ∨ (j = xs.length ∧ y = x) := by
  by_cases hj : j < xs.length
  · rw [List.getElem?_append_left hj] at h; exact .inl h
  · rw [List.getElem?_append_right (by omega)] at h
    have hlt := (List.getElem?_eq_some_iff.1 h).1
    have e : j = xs.length := by simp at hlt; omega
    subst e
    simp at h
    exact .inr ⟨rfl, h.symm⟩
theorem map_snoc {α β : Type} {f g : α → β} {us ts : List α} {u t : α} {k : Nat} (h : us.map f = (ts.take k).map g) (ht : ts[k]? = some t) (hu : f u = g t) : (us ++ [u]).map f = (ts.take (k + 1)).map g := by
  obtain ⟨hk, e⟩ := List.getElem?_eq_some_iff.1 ht
  rw [List.map_append, h, List.take_add_one, ht]
  simp [hu]
set_option maxHeartbeats 1000000 in
theorem Clone_c : ∀ (N : Nat) (t : Nd), SizeOf.sizeOf t ≤ N → ∀ (w0 : World), t.In → t.At w0 → sizeN t ≤ 1000000 →
    Calls Tryd.prog 37 #[ndV t] w0 fun e w' => ∃ u E M, e = .returned (ndV u) ∧ er u = er t ∧ Own u E M ∧ St (fun _ => False) w0 w' (E ++ M)
  | 0 => fun t hN => by cases t; simp only [Nd.mk.sizeOf_spec] at hN; omega
  | N + 1 => by
    intro t hN w0 hI hA hsz
    have hlen := hI.nums.2.2.2.2
    have hks := sizeN_kids t
    have hnums := hI.nums
    refine enter Tryd.func37 rfl Tryd.ntmps37 rfl (St.start (fun _ => False) w0) ?_
    refine WC.seq ?_
    refine WC.region ?_
    refine WL.box rfl rfl rfl (.none rfl) rfl rfl ?_
    intro g1 hg1
    refine WL.alloc rfl zero_45 (.none rfl) rfl rfl ?_
    intro g2 hg2
    refine WL.nil ?_
    refine WE.then_n ?_
    refine WC.seq ?_
    refine WC.region ?_
    refine WL.val (v_assign rfl rfl) (.none rfl) rfl rfl ?_
    refine WL.nil ?_
    refine WE.then_n ?_
    refine WC.seq ?_
    refine WC.seq ?_
    refine WC.region ?_
    refine WL.val (v_fieldAddr0 rfl rfl fld_45_4) (.none rfl) rfl rfl ?_
    refine WL.val (v_load1 rfl rfl one_43 (cellAt rfl)) (.none rfl) rfl rfl ?_
    refine WL.val (v_len_slice rfl rfl Tryd.underlying43) (.none rfl) rfl rfl ?_
    refine WL.val (v_move rfl rfl) (.none rfl) rfl rfl ?_
    refine WL.nil ?_
    refine WE.then_n ?_
    refine WC.block ?_
    refine WC.loop (fun x : Nat × List Nd × Option Addr × Nat × List Ent × List Ent => [(9, .int .i64 x.1), (8, .int .i64 t.kids.length), (7, .slice t.ad t.kids.length t.cap), (3, .slice x.2.2.1 x.2.1.length x.2.2.2.1), (1, .pointer (some ⟨g1, 0, none⟩)), (2, .pointer (some ⟨g2, 0, none⟩))]) (fun x => x.2.2.2.2.1 ++ (x.2.2.2.2.2 ++ [.row g2 (ndL (.mk 0 0 0 0 none 0 [])), .row g1 (ndL t)])) (fun x => x.1 ≤ t.kids.length ∧ x.2.1.length = x.1 ∧ x.2.1.map er = (t.kids.take x.1).map er ∧ (∀ u ∈ x.2.1, u.In) ∧ Vec 5 x.2.2.1 x.2.1.length x.2.2.2.1 (ndsL x.2.1) x.2.2.2.2.1 ∧ ∀ w, (∀ e ∈ x.2.2.2.2.2, e.holds w) → ∀ u ∈ x.2.1, u.At w) (fun x => t.kids.length - x.1) (0, [], none, 0, [], []) ⟨Nat.zero_le _, rfl, by simp, by simp, Vec.nil 5, fun _ _ u h => by cases h⟩ (.cons rfl (.cons rfl (.cons rfl (.cons rfl (.cons rfl (.cons rfl .nil)))))) (.refl _) ?_
    rintro ⟨k, us, ad, c, E, M⟩ ⟨hk, hul, hmap, hIn, hV, hAts⟩
    dsimp only at hk hul hmap hIn hV hAts
    dsimp only
    refine WC.seq ?_
    refine WC.region ?_
    refine WL.test (v_lss rfl rfl rfl) (.none rfl) rfl rfl (fun h10 => ?_) (fun h10 => ?_)
    · -- 10T
      refine WL.nil ?_
      refine WE.then_n ?_
      refine WC.seq ?_
      refine WC.cond_t rfl ?_
      refine WC.skip ?_
      refine WE.then_n ?_
      refine WC.seq ?_
      refine WC.block ?_
      refine WC.seq ?_
      refine WC.region ?_
      obtain ⟨u, hu⟩ : ∃ u, t.kids[k]? = some u := ⟨t.kids[k]'(by omega), List.getElem?_eq_getElem _⟩
      obtain ⟨b, o, ea, _⟩ := (hA.kid hu).1
      have hus := sizeN_kid hu
      refine WL.val (v_indexAddr (b := b) (off := o) (lo := k) rfl (by show some (Value.slice t.ad _ _) = _; rw [ea]) rfl Tryd.underlying43 sz_45 rfl (by omega)) (.none rfl) rfl rfl ?_
      refine WL.val (v_loadN (cs := ndL u) rfl rfl many_45 rfl (rangeIn (fun h => h) (hA.kidAt hu ea))) (.none rfl) rfl rfl ?_
      refine WL.alloc rfl zero_45 (.none rfl) rfl rfl ?_
      intro g5 hg5
      refine WL.storeW rfl rfl rfl rfl many_45 rfl rfl (.none rfl) rfl ?_
      refine WL.nil ?_
      refine WE.then_n ?_
      refine WC.region ?_
      refine WL.val (v_move rfl rfl) (.none rfl) rfl rfl ?_
      refine WL.val (v_loadN rfl rfl many_45 rfl allAt) (.none rfl) rfl rfl ?_
      refine WL.call rfl rfl ck_37 (.none rfl) rfl rfl ?_
      intro w1 hS
      refine (Clone_c N u (Nd.kidN hN hu) w1 (hI.kids.get _ _ _ hu) ((hA.kid hu).2.st (fun _ h => h) hS) (by omega)).mono ?_
      rintro e w' ⟨u', Eu, Mu, rfl, her, hO, hS'⟩
      refine ⟨_, _, rfl, hS.join hS', ?_⟩
      refine WL.buildSlice rfl rfl Tryd.underlying43 sz_45 zero_45 rfl (by decide) rfl (.none rfl) rfl rfl ?_
      intro g16 hg16
      refine WL.as (L' := .row g16 (ndL u') :: ((Eu ++ Mu) ++ (.row g5 (ndL u) :: (E ++ (M ++ [.row g2 (ndL (.mk 0 0 0 0 none 0 [])), .row g1 (ndL t)]))))) rfl ?_
      refine WL.to (L' := E ++ (.row g16 (ndL u') :: ((Eu ++ Mu) ++ (.row g5 (ndL u) :: (M ++ [.row g2 (ndL (.mk 0 0 0 0 none 0 [])), .row g1 (ndL t)]))))) (fun w hS => hS.pull) ?_
      refine WL.appendL rfl rfl rfl Tryd.underlying43 Tryd.underlying43 sz_45 by_45 zero_45 rfl rfl hV (new := ndL u') (fun _ => ⟨g16, 0, rfl, fun w hS => allAt (g := g16) w hS⟩) rfl rfl (by omega) (.none rfl) rfl rfl ?_
      intro ad17 c17 E17 hV17 hr17
      refine WL.val (v_assign rfl rfl) (.none rfl) rfl rfl ?_
      refine WL.nil ?_
      refine WE.block_n ?_
      refine WE.then_n ?_
      refine WC.region ?_
      refine WL.val (v_add rfl rfl rfl (w_i64 (by omega) (by omega))) (.none rfl) rfl rfl ?_
      refine WL.val (v_move rfl rfl) (.none rfl) rfl rfl ?_
      refine WL.nil ?_
      have hl9 : (us ++ [u']).length = us.length + 1 := (by rw [List.length_append]; rfl)
      exact WE.next (k + 1, us ++ [u'], ad17, c17, E17, (Eu ++ Mu) ++ M) (by dsimp only; omega) ⟨by dsimp only; omega, by dsimp only; omega, map_snoc hmap hu her, (fun x hx => by
        rcases List.mem_append.1 hx with h | h
        · exact hIn x h
        · rw [List.mem_singleton.1 h]; exact hO.isIn), by dsimp only; rw [hl9, ← ndsL_snoc]; exact hV17, fun w hw x hx => by
        rcases List.mem_append.1 hx with h | h
        · exact hAts w (fun e he => hw e (List.mem_append_right _ he)) x h
        · rw [List.mem_singleton.1 h]; exact hO.at_ w (fun e he => hw e (List.mem_append_left _ he))⟩ (.int rfl (by dsimp only; omega) (.cons rfl (.cons rfl (.eq rfl (by dsimp only; rw [hl9]) (.cons rfl (.cons rfl .nil)))))) (List.Sublist.append_left (.cons _ (by rw [List.append_assoc]; exact List.Sublist.append_left (.cons _ (.refl _)) _)) _)
    · -- 10F
      refine WL.nil ?_
      refine WE.then_n ?_
      refine WC.seq ?_
      refine WC.cond_f rfl ?_
      refine WC.exit ?_
      refine WE.then_exit ?_
      refine WE.then_exit ?_
      refine WE.block_hit ?_
      refine WE.then_n ?_
      refine WC.seq ?_
      refine WC.region ?_
      refine WL.val (v_move rfl rfl) (.none rfl) rfl rfl ?_
      refine WL.val (v_fieldAddr0 rfl rfl fld_45_4) (.none rfl) rfl rfl ?_
      refine WL.store1 rfl rfl rfl rfl one_43 (Nat.le_of_ble_eq_true rfl) (.none rfl) rfl ?_
      refine WL.nil ?_
      refine WE.then_n ?_
      refine WC.seq ?_
      refine WC.region ?_
      refine WL.val (v_loadN rfl rfl many_45 rfl allAt) (.none rfl) rfl rfl ?_
      refine WL.storeW rfl rfl rfl rfl many_45 rfl rfl (.none rfl) rfl ?_
      refine WL.nil ?_
      refine WE.then_n ?_
      refine WC.ret ?_
      refine WE.ret1 (P := Tryd.prog) (.inl rfl) Tryd.results37 (resRow rfl many_45 rfl) ?_
      obtain rfl : k = t.kids.length := (by omega)
      rw [List.take_length] at hmap
      exact fun w' h => ⟨.mk t.kind t.f t.val t.mask ad c us, E, M, rfl, by rw [er_eq, er_eq t]; show Pn.mk _ _ _ _ (us.map er) = _; rw [hmap]; rfl, ⟨Nd.In_mk hnums.1 hnums.2.1 hnums.2.2.1 hnums.2.2.2.1 (by omega) (KidsIn.of' hIn), fun w hw => hV.nodes (fun e he => hw e (List.mem_append_left _ he)) (hAts w fun e he => hw e (List.mem_append_right _ he)), hV⟩, h.sub (by rw [← List.append_assoc]; exact List.sublist_append_left _ _)⟩
end Go.Proofs.YtodaanhhnjkncaaDoor
/- policy: the reference's trees: Plain; full. -/
namespace Go.Proofs.YtodaanhhnjkncaaDoor
open Go.RowKit

theorem andN_full {m : Int} (h0 : 0 ≤ m) (k : Nat) : andNotN m (fullI k) = 0 ↔ m ≤ fullI k := by
  rw [andNotN_zero h0]
  have hp := pow_wd k
  have e : (fullI k).toNat = 2 ^ wdN k - 1 := by
    have hpow : (2 : Int) ^ wdN k = ((2 ^ wdN k : Nat) : Int) := by simp
    unfold fullI
    omega
  have hpow : (2 : Int) ^ wdN k = ((2 ^ wdN k : Nat) : Int) := by simp
  have hpos : 0 < 2 ^ wdN k := Nat.two_pow_pos _
  unfold andN
  rw [e, Nat.and_two_pow_sub_one_eq_mod]
  constructor
  · intro h
    have := Nat.mod_lt m.toNat hpos
    unfold fullI
    omega
  · intro h
    unfold fullI at h
    rw [Nat.mod_eq_of_lt (by omega)]
    omega
theorem holds_bits {x v m : Int} (hx : 0 ≤ x) (hv : 0 ≤ v) (h : andNotN v m = 0) : decide (andN (xorN x v) m = 0) = decide (andN x m = v) := by
  have h1 := (andNotN_zero hv).1 h
  have e : andN (xorN x v) m = 0 ↔ andN x m = v := by
    unfold andN xorN at *
    rw [Int.toNat_natCast, Nat.and_xor_distrib_right]
    constructor
    · intro h2
      have := xor_zero_iff.1 (show (x.toNat &&& m.toNat) ^^^ (v.toNat &&& m.toNat) = 0 by omega)
      omega
    · intro h2
      have := xor_zero_iff.2 (show (x.toNat &&& m.toNat) = (v.toNat &&& m.toNat) by omega)
      omega
  by_cases h2 : andN x m = v
  · rw [decide_eq_true h2, decide_eq_true (e.2 h2)]
  · rw [decide_eq_false h2, decide_eq_false (fun q => h2 (e.1 q))]
def wdL : List Value := [.int .i64 8, .int .i64 48, .int .i64 48, .int .i64 16, .int .i64 32, .int .i64 32, .int .i64 8, .int .i64 16, .int .i64 16]
theorem wdL_get {k : Nat} (h : k < 9) : wdL[0 + k * 1]? = some (.int .i64 (wdN k)) := by
  match k, h with
  | 0, _ | 1, _ | 2, _ | 3, _ | 4, _ | 5, _ | 6, _ | 7, _ | 8, _ => rfl
theorem RFull_c (w : World) (f : Int) (hf : isFld f) :
    Calls Tryd.prog 59 #[.int .i64 f] w fun e w' => e = .returned (.int .u64 (fullI f.toNat)) ∧ Frm (fun _ => False) w w' := by
  obtain ⟨q, eq, hq, eq2⟩ := hf.nat
  have hw := wdN_le q
  rw [eq2, eq]
  refine enter Tryd.func59 rfl Tryd.ntmps59 rfl (St.start (fun _ => False) w) ?_
  refine WC.seq ?_
  refine WC.region ?_
  refine WL.val (v_assign rfl rfl) (.none rfl) rfl rfl ?_
  refine WL.nil ?_
  refine WE.then_n ?_
  refine WC.seq ?_
  refine WC.region ?_
  refine WL.buildSlice rfl rfl Tryd.underlying77 sz_3 zero_3 rfl (by decide) rfl (.none rfl) rfl rfl ?_
  intro g6 hg6
  refine WL.as (L' := [.row g6 wdL]) rfl ?_
  refine WL.val (v_assign rfl rfl) (.none rfl) rfl rfl ?_
  refine WL.nil ?_
  refine WE.then_n ?_
  refine WC.seq ?_
  refine WC.region ?_
  refine WL.val (v_assign rfl rfl) (.none rfl) rfl rfl ?_
  refine WL.nil ?_
  refine WE.then_n ?_
  refine WC.seq ?_
  refine WC.seq ?_
  refine WC.region ?_
  refine WL.val (v_assign rfl rfl) (.none rfl) rfl rfl ?_
  refine WL.nil ?_
  refine WE.then_n ?_
  refine WC.block ?_
  refine WC.loop (fun k : Nat => [(5, .int .i64 k), (4, .int .u64 ((2 : Int) ^ k)), (3, .slice (some ⟨g6, 0, none⟩) 9 9), (0, .int .i64 q)]) (fun _ => [.row g6 wdL]) (fun k => k ≤ wdN q) (fun k => wdN q - k) 0 (Nat.zero_le _) (.cons rfl (.cons rfl (.cons rfl (.cons rfl .nil)))) (.refl _) ?_
  intro k hk
  have hpow : (2 : Int) ^ k = ((2 ^ k : Nat) : Int) := by simp
  have h1 : 2 ^ k ≤ 2 ^ 48 := Nat.pow_le_pow_right (by decide) (by omega)
  have h2 : 0 < 2 ^ k := Nat.two_pow_pos _
  have e1 : 1 ≤ (2 : Int) ^ k ∧ (2 : Int) ^ k ≤ 281474976710656 := by omega
  refine WC.seq ?_
  refine WC.seq ?_
  refine WC.region ?_
  refine WL.val (v_move rfl rfl) (.none rfl) rfl rfl ?_
  refine WL.val (v_move rfl rfl) (.none rfl) rfl rfl ?_
  refine WL.val (v_move rfl rfl) (.none rfl) rfl rfl ?_
  refine WL.val (v_indexAddr (lo := q) rfl rfl rfl Tryd.underlying77 sz_3 (by omega) (by omega)) (.none rfl) rfl rfl ?_
  refine WL.val (v_load1 rfl rfl one_3 (cellAt (wdL_get hq))) (.none rfl) rfl rfl ?_
  refine WL.test (v_lss rfl rfl rfl) (.none rfl) rfl rfl (fun h12 => ?_) (fun h12 => ?_)
  · -- 12T
    refine WL.nil ?_
    refine WE.then_n ?_
    refine WC.cond_t rfl ?_
    refine WC.skip ?_
    refine WE.then_n ?_
    refine WC.seq ?_
    refine WC.block ?_
    refine WC.region ?_
    refine WL.val (v_move rfl rfl) (.none rfl) rfl rfl ?_
    refine WL.val (v_mul rfl rfl rfl (w_u64 (by omega) (by omega))) (.none rfl) rfl rfl ?_
    refine WL.val (v_assign rfl rfl) (.none rfl) rfl rfl ?_
    refine WL.nil ?_
    refine WE.block_n ?_
    refine WE.then_n ?_
    refine WC.region ?_
    refine WL.val (v_move rfl rfl) (.none rfl) rfl rfl ?_
    refine WL.val (v_add rfl rfl rfl (w_i64 (by omega) (by omega))) (.none rfl) rfl rfl ?_
    refine WL.val (v_assign rfl rfl) (.none rfl) rfl rfl ?_
    refine WL.nil ?_
    exact WE.next (k + 1) (by omega) (by omega) (.int rfl (by omega) (.int rfl (by rw [Int.pow_succ]; omega) (.cons rfl (.cons rfl .nil)))) (.refl _)
  · -- 12F
    refine WL.nil ?_
    refine WE.then_n ?_
    refine WC.cond_f rfl ?_
    refine WC.exit ?_
    refine WE.then_exit ?_
    refine WE.then_exit ?_
    refine WE.block_hit ?_
    refine WE.then_n ?_
    refine WC.seq ?_
    refine WC.region ?_
    refine WL.val (v_move rfl rfl) (.none rfl) rfl rfl ?_
    refine WL.val (v_sub rfl rfl rfl (w_u64 (by omega) (by omega))) (.none rfl) rfl rfl ?_
    refine WL.val (v_assign rfl rfl) (.none rfl) rfl rfl ?_
    refine WL.nil ?_
    refine WE.then_n ?_
    refine WC.ret ?_
    refine WE.ret1 (P := Tryd.prog) (.inl rfl) Tryd.results59 rfl ?_
    obtain rfl : k = wdN q := (by omega)
    exact fun w' h => ⟨rfl, h.frm⟩
def pl (t : Nd) (ad : Option Addr) (n c : Nat) : List Value := [.int .i64 t.kind, .int .i64 t.f, .int .u64 t.val, .int .u64 t.mask, .slice ad n c]
set_option maxHeartbeats 2000000 in
theorem Plain_c : ∀ (N : Nat) (t : Nd), SizeOf.sizeOf t ≤ N → ∀ (w0 : World) (d : Nat), t.In → t.At w0 → sizeN t ≤ 1000000 → d ≤ 1000 →
    Calls Tryd.prog 22 #[ndV t, .int .i64 d] w0 fun e w' => ∃ u E M, e = .returned (ndV u) ∧ er u = erD t d ∧ Own u E M ∧ St (fun _ => False) w0 w' (E ++ M)
  | 0 => fun t hN => by cases t; simp only [Nd.mk.sizeOf_spec] at hN; omega
  | N + 1 => by
    intro t hN w0 d hI hA hsz hd
    have hlen := hI.nums.2.2.2.2
    have hks := sizeN_kids t
    have hnums := hI.nums
    refine enter Tryd.func22 rfl Tryd.ntmps22 rfl (St.start (fun _ => False) w0) ?_
    refine WC.seq ?_
    refine WC.region ?_
    refine WL.box rfl rfl rfl (.none rfl) rfl rfl ?_
    intro g2 hg2
    refine WL.alloc rfl zero_52 (.none rfl) rfl rfl ?_
    intro g4 hg4
    refine WL.nil ?_
    refine WE.then_n ?_
    refine WC.seq ?_
    refine WC.region ?_
    refine WL.val (v_fieldAddr0 rfl rfl fld_45_0) (.none rfl) rfl rfl ?_
    refine WL.val (v_load1 rfl rfl one_3 (cellAt rfl)) (.none rfl) rfl rfl ?_
    refine WL.val (v_fieldAddr0 rfl rfl fld_45_1) (.none rfl) rfl rfl ?_
    refine WL.val (v_load1 rfl rfl one_37 (cellAt rfl)) (.none rfl) rfl rfl ?_
    refine WL.val (v_fieldAddr0 rfl rfl fld_45_2) (.none rfl) rfl rfl ?_
    refine WL.val (v_load1 rfl rfl one_22 (cellAt rfl)) (.none rfl) rfl rfl ?_
    refine WL.val (v_fieldAddr0 rfl rfl fld_45_3) (.none rfl) rfl rfl ?_
    refine WL.val (v_load1 rfl rfl one_22 (cellAt rfl)) (.none rfl) rfl rfl ?_
    refine WL.val (v_build rfl rfl zero_52 plc_52 rfl) (.none rfl) rfl rfl ?_
    refine WL.alloc rfl zero_52 (.none rfl) rfl rfl ?_
    intro g5 hg5
    refine WL.storeW rfl rfl rfl rfl many_52 rfl rfl (.none rfl) rfl ?_
    refine WL.nil ?_
    refine WE.then_n ?_
    refine WC.seq ?_
    refine WC.seq ?_
    refine WC.region ?_
    refine WL.val (v_fieldAddr0 rfl rfl fld_45_4) (.none rfl) rfl rfl ?_
    refine WL.val (v_load1 rfl rfl one_43 (cellAt rfl)) (.none rfl) rfl rfl ?_
    refine WL.val (v_len_slice rfl rfl Tryd.underlying43) (.none rfl) rfl rfl ?_
    refine WL.val (v_move rfl rfl) (.none rfl) rfl rfl ?_
    refine WL.nil ?_
    refine WE.then_n ?_
    refine WC.block ?_
    refine WC.loop (fun x : Nat × List Nd × Option Addr × Nat × List Ent × List Ent => [(20, .int .i64 x.1), (19, .int .i64 t.kids.length), (18, .slice t.ad t.kids.length t.cap), (1, .int .i64 d), (5, .pointer (some ⟨g5, 0, none⟩)), (4, .pointer (some ⟨g4, 0, none⟩))]) (fun x => x.2.2.2.2.1 ++ (x.2.2.2.2.2 ++ [.row g5 (pl t x.2.2.1 x.2.1.length x.2.2.2.1), .row g4 (ndL (.mk 0 0 0 0 none 0 []))])) (fun x => x.1 ≤ t.kids.length ∧ x.2.1.length ≤ x.1 ∧ (∀ d', d = d' + 1 → x.2.1.map er = (t.kids.take x.1).map (fun u => erD u d')) ∧ (d = 0 → x.2.1 = []) ∧ (∀ u ∈ x.2.1, u.In) ∧ Vec 5 x.2.2.1 x.2.1.length x.2.2.2.1 (ndsL x.2.1) x.2.2.2.2.1 ∧ ∀ w, (∀ e ∈ x.2.2.2.2.2, e.holds w) → ∀ u ∈ x.2.1, u.At w) (fun x => t.kids.length - x.1) (0, [], none, 0, [], []) ⟨Nat.zero_le _, Nat.le_refl _, (fun d' _ => by simp), (fun _ => rfl), by simp, Vec.nil 5, fun _ _ u h => by cases h⟩ (.cons rfl (.cons rfl (.cons rfl (.cons rfl (.cons rfl (.cons rfl .nil)))))) (.cons_cons _ (.cons_cons _ (.cons _ .slnil))) ?_
    rintro ⟨k, us, ad, c, E, M⟩ ⟨hk, hul, hmap, hz, hIn, hV, hAts⟩
    dsimp only at hk hul hmap hz hIn hV hAts
    dsimp only
    refine WC.seq ?_
    refine WC.region ?_
    refine WL.test (v_lss rfl rfl rfl) (.none rfl) rfl rfl (fun h21 => ?_) (fun h21 => ?_)
    · -- 21T
      refine WL.nil ?_
      refine WE.then_n ?_
      refine WC.seq ?_
      refine WC.cond_t rfl ?_
      refine WC.skip ?_
      refine WE.then_n ?_
      refine WC.seq ?_
      refine WC.block ?_
      refine WC.seq ?_
      refine WC.region ?_
      obtain ⟨u, hu⟩ : ∃ u, t.kids[k]? = some u := ⟨t.kids[k]'(by omega), List.getElem?_eq_getElem _⟩
      obtain ⟨b, o, ea, _⟩ := (hA.kid hu).1
      have hus := sizeN_kid hu
      refine WL.val (v_indexAddr (b := b) (off := o) (lo := k) rfl (by show some (Value.slice t.ad _ _) = _; rw [ea]) rfl Tryd.underlying43 sz_45 rfl (by omega)) (.none rfl) rfl rfl ?_
      refine WL.val (v_loadN (cs := ndL u) rfl rfl many_45 rfl (rangeIn (fun h => h) (hA.kidAt hu ea))) (.none rfl) rfl rfl ?_
      refine WL.alloc rfl zero_45 (.none rfl) rfl rfl ?_
      intro g7 hg7
      refine WL.storeW rfl rfl rfl rfl many_45 rfl rfl (.none rfl) rfl ?_
      refine WL.nil ?_
      refine WE.then_n ?_
      refine WC.seq ?_
      refine WC.region ?_
      refine WL.val (v_move rfl rfl) (.none rfl) rfl rfl ?_
      refine WL.test (v_gtr rfl rfl rfl) (.none rfl) rfl rfl (fun h25 => ?_) (fun h25 => ?_)
      · -- 25T
        refine WL.nil ?_
        refine WE.then_n ?_
        refine WC.cond_t rfl ?_
        refine WC.orders mixed ?_
        refine WR.first (g := 7) [0, 3, 4] (by kernel_rfl) (by kernel_rfl) ?_
        obtain ⟨e, rfl⟩ : ∃ e, d = e + 1 := ⟨d - 1, by omega⟩
        refine WP.val (v_fieldAddr0 rfl rfl fld_52_4) (.none rfl) rfl rfl ?_
        refine WP.val (v_move rfl rfl) (.none rfl) rfl rfl ?_
        refine WP.val (v_sub rfl rfl rfl (by rw [show ((e + 1 : Nat) : Int) - 1 = (e : Int) by omega]; exact w_i64 (by omega) (by omega) : _ = (e : Int))) (.none rfl) rfl rfl ?_
        refine WP.nil ?_
        refine WR.each (g := 6) [1, 2] (by kernel_rfl) (by decide) ?_
        refine ⟨?_, ?_⟩
        · -- next 1
          refine WL.val (v_load1 rfl rfl one_50 (cellAt rfl)) (.none rfl) rfl rfl ?_
          refine WL.nilR ?_
          refine WR.read (g := 5) [2] (by kernel_rfl) (by kernel_rfl) (by kernel_rfl) (by kernel_rfl) rfl ?_
          refine WQ.val (v_loadN rfl rfl many_45 rfl allAt) (.none rfl) rfl rfl ?_
          refine WQ.nilR ?_
          refine WR.ones (g := 2) [5, 6, 7] (by kernel_rfl) ?_
          refine WL.call rfl rfl ck_22 (.none rfl) rfl rfl ?_
          intro w1 hS
          refine (Plain_c N u (Nd.kidN hN hu) w1 e (hI.kids.get _ _ _ hu) ((hA.kid hu).2.st (fun _ h => h) hS) (by omega) (by omega)).mono ?_
          rintro e_ w' ⟨u', Eu, Mu, rfl, her, hO, hS'⟩
          refine ⟨_, _, rfl, hS.join hS', ?_⟩
          refine WL.buildSlice rfl rfl Tryd.underlying50 sz_52 zero_52 rfl (by decide) rfl (.none rfl) rfl rfl ?_
          intro g32 hg32
          refine WL.as (L' := .row g32 (ndL u') :: ((Eu ++ Mu) ++ (.row g7 (ndL u) :: (E ++ (M ++ [.row g5 (pl t ad us.length c), .row g4 (ndL (.mk 0 0 0 0 none 0 []))]))))) rfl ?_
          refine WL.to (L' := E ++ (.row g32 (ndL u') :: ((Eu ++ Mu) ++ (.row g7 (ndL u) :: (M ++ [.row g5 (pl t ad us.length c), .row g4 (ndL (.mk 0 0 0 0 none 0 []))]))))) (fun w hS => hS.pull) ?_
          refine WL.appendL rfl rfl rfl Tryd.underlying50 Tryd.underlying50 sz_52 by_52 zero_52 rfl rfl hV (new := ndL u') (fun _ => ⟨g32, 0, rfl, fun w hS => allAt (g := g32) w hS⟩) rfl rfl (by omega) (.none rfl) rfl rfl ?_
          intro ad33 c33 E33 hV33 hr33
          refine WL.nilR ?_
          refine WR.first (g := 1) [8] (by kernel_rfl) (by kernel_rfl) ?_
          refine WP.val (v_fieldAddr0 rfl rfl fld_52_4) (.none rfl) rfl rfl ?_
          refine WP.nil ?_
          refine WR.ones (g := 0) [9] (by kernel_rfl) ?_
          refine WL.store1 rfl rfl rfl rfl one_50 (Nat.le_of_ble_eq_true rfl) (.none rfl) rfl ?_
          refine WL.nilR ?_
          refine WR.done (by kernel_rfl) ?_
          refine WE.block_n ?_
          refine WE.then_n ?_
          refine WC.region ?_
          refine WL.val (v_add rfl rfl rfl (w_i64 (by omega) (by omega))) (.none rfl) rfl rfl ?_
          refine WL.val (v_move rfl rfl) (.none rfl) rfl rfl ?_
          refine WL.nil ?_
          have hl9 : (us ++ [u']).length = us.length + 1 := (by rw [List.length_append]; rfl)
          refine WE.as (L' := E33 ++ (.row g32 (ndL u') :: ((Eu ++ Mu) ++ (.row g7 (ndL u) :: (M ++ [.row g5 (pl t ad33 (us ++ [u']).length c33), .row g4 (ndL (.mk 0 0 0 0 none 0 []))]))))) (by rw [hl9]; rfl) ?_
          exact WE.next (k + 1, us ++ [u'], ad33, c33, E33, (Eu ++ Mu) ++ M) (by dsimp only; omega) ⟨by dsimp only; omega, by dsimp only; omega, (fun d' hd' => map_snoc (hmap d' hd') hu (by rw [her, show e = d' by omega])), (fun h0 => absurd h0 (by omega)), (fun x hx => by
            rcases List.mem_append.1 hx with h | h
            · exact hIn x h
            · rw [List.mem_singleton.1 h]; exact hO.isIn), by dsimp only; rw [hl9, ← ndsL_snoc]; exact hV33, fun w hw x hx => by
            rcases List.mem_append.1 hx with h | h
            · exact hAts w (fun e he => hw e (List.mem_append_right _ he)) x h
            · rw [List.mem_singleton.1 h]; exact hO.at_ w (fun e he => hw e (List.mem_append_left _ he))⟩ (.int rfl (by dsimp only; omega) (.cons rfl (.cons rfl (.cons rfl (.cons rfl (.cons rfl .nil)))))) (List.Sublist.append_left (.cons _ (by rw [List.append_assoc]; exact List.Sublist.append_left (.cons _ (.refl _)) _)) _)
        · -- next 2
          refine WL.val (v_loadN rfl rfl many_45 rfl allAt) (.none rfl) rfl rfl ?_
          refine WL.nilR ?_
          refine WR.each (g := 5) [1, 5] (by kernel_rfl) (by decide) ?_
          refine ⟨?_, ?_⟩
          · -- next 1
            refine WL.val (v_load1 rfl rfl one_50 (cellAt rfl)) (.none rfl) rfl rfl ?_
            refine WL.nilR ?_
            refine WR.ones (g := 2) [5, 6, 7] (by kernel_rfl) ?_
            refine WL.call rfl rfl ck_22 (.none rfl) rfl rfl ?_
            intro w1 hS
            refine (Plain_c N u (Nd.kidN hN hu) w1 e (hI.kids.get _ _ _ hu) ((hA.kid hu).2.st (fun _ h => h) hS) (by omega) (by omega)).mono ?_
            rintro e_ w' ⟨u', Eu, Mu, rfl, her, hO, hS'⟩
            refine ⟨_, _, rfl, hS.join hS', ?_⟩
            refine WL.buildSlice rfl rfl Tryd.underlying50 sz_52 zero_52 rfl (by decide) rfl (.none rfl) rfl rfl ?_
            intro g32 hg32
            refine WL.as (L' := .row g32 (ndL u') :: ((Eu ++ Mu) ++ (.row g7 (ndL u) :: (E ++ (M ++ [.row g5 (pl t ad us.length c), .row g4 (ndL (.mk 0 0 0 0 none 0 []))]))))) rfl ?_
            refine WL.to (L' := E ++ (.row g32 (ndL u') :: ((Eu ++ Mu) ++ (.row g7 (ndL u) :: (M ++ [.row g5 (pl t ad us.length c), .row g4 (ndL (.mk 0 0 0 0 none 0 []))]))))) (fun w hS => hS.pull) ?_
            refine WL.appendL rfl rfl rfl Tryd.underlying50 Tryd.underlying50 sz_52 by_52 zero_52 rfl rfl hV (new := ndL u') (fun _ => ⟨g32, 0, rfl, fun w hS => allAt (g := g32) w hS⟩) rfl rfl (by omega) (.none rfl) rfl rfl ?_
            intro ad33 c33 E33 hV33 hr33
            refine WL.nilR ?_
            refine WR.first (g := 1) [8] (by kernel_rfl) (by kernel_rfl) ?_
            refine WP.val (v_fieldAddr0 rfl rfl fld_52_4) (.none rfl) rfl rfl ?_
            refine WP.nil ?_
            refine WR.ones (g := 0) [9] (by kernel_rfl) ?_
            refine WL.store1 rfl rfl rfl rfl one_50 (Nat.le_of_ble_eq_true rfl) (.none rfl) rfl ?_
            refine WL.nilR ?_
            refine WR.done (by kernel_rfl) ?_
            refine WE.block_n ?_
            refine WE.then_n ?_
            refine WC.region ?_
            refine WL.val (v_add rfl rfl rfl (w_i64 (by omega) (by omega))) (.none rfl) rfl rfl ?_
            refine WL.val (v_move rfl rfl) (.none rfl) rfl rfl ?_
            refine WL.nil ?_
            have hl9 : (us ++ [u']).length = us.length + 1 := (by rw [List.length_append]; rfl)
            refine WE.as (L' := E33 ++ (.row g32 (ndL u') :: ((Eu ++ Mu) ++ (.row g7 (ndL u) :: (M ++ [.row g5 (pl t ad33 (us ++ [u']).length c33), .row g4 (ndL (.mk 0 0 0 0 none 0 []))]))))) (by rw [hl9]; rfl) ?_
            exact WE.next (k + 1, us ++ [u'], ad33, c33, E33, (Eu ++ Mu) ++ M) (by dsimp only; omega) ⟨by dsimp only; omega, by dsimp only; omega, (fun d' hd' => map_snoc (hmap d' hd') hu (by rw [her, show e = d' by omega])), (fun h0 => absurd h0 (by omega)), (fun x hx => by
              rcases List.mem_append.1 hx with h | h
              · exact hIn x h
              · rw [List.mem_singleton.1 h]; exact hO.isIn), by dsimp only; rw [hl9, ← ndsL_snoc]; exact hV33, fun w hw x hx => by
              rcases List.mem_append.1 hx with h | h
              · exact hAts w (fun e he => hw e (List.mem_append_right _ he)) x h
              · rw [List.mem_singleton.1 h]; exact hO.at_ w (fun e he => hw e (List.mem_append_left _ he))⟩ (.int rfl (by dsimp only; omega) (.cons rfl (.cons rfl (.cons rfl (.cons rfl (.cons rfl .nil)))))) (List.Sublist.append_left (.cons _ (by rw [List.append_assoc]; exact List.Sublist.append_left (.cons _ (.refl _)) _)) _)
          · -- next 5
            refine WL.call rfl rfl ck_22 (.none rfl) rfl rfl ?_
            intro w1 hS
            refine (Plain_c N u (Nd.kidN hN hu) w1 e (hI.kids.get _ _ _ hu) ((hA.kid hu).2.st (fun _ h => h) hS) (by omega) (by omega)).mono ?_
            rintro e_ w' ⟨u', Eu, Mu, rfl, her, hO, hS'⟩
            refine ⟨_, _, rfl, hS.join hS', ?_⟩
            refine WL.nilR ?_
            refine WR.each (g := 4) [1, 6] (by kernel_rfl) (by decide) ?_
            refine ⟨?_, ?_⟩
            · -- next 1
              refine WL.val (v_load1 rfl rfl one_50 (cellAt rfl)) (.none rfl) rfl rfl ?_
              refine WL.nilR ?_
              refine WR.ones (g := 2) [6, 7] (by kernel_rfl) ?_
              refine WL.buildSlice rfl rfl Tryd.underlying50 sz_52 zero_52 rfl (by decide) rfl (.none rfl) rfl rfl ?_
              intro g32 hg32
              refine WL.as (L' := .row g32 (ndL u') :: ((Eu ++ Mu) ++ (.row g7 (ndL u) :: (E ++ (M ++ [.row g5 (pl t ad us.length c), .row g4 (ndL (.mk 0 0 0 0 none 0 []))]))))) rfl ?_
              refine WL.to (L' := E ++ (.row g32 (ndL u') :: ((Eu ++ Mu) ++ (.row g7 (ndL u) :: (M ++ [.row g5 (pl t ad us.length c), .row g4 (ndL (.mk 0 0 0 0 none 0 []))]))))) (fun w hS => hS.pull) ?_
              refine WL.appendL rfl rfl rfl Tryd.underlying50 Tryd.underlying50 sz_52 by_52 zero_52 rfl rfl hV (new := ndL u') (fun _ => ⟨g32, 0, rfl, fun w hS => allAt (g := g32) w hS⟩) rfl rfl (by omega) (.none rfl) rfl rfl ?_
              intro ad33 c33 E33 hV33 hr33
              refine WL.nilR ?_
              refine WR.first (g := 1) [8] (by kernel_rfl) (by kernel_rfl) ?_
              refine WP.val (v_fieldAddr0 rfl rfl fld_52_4) (.none rfl) rfl rfl ?_
              refine WP.nil ?_
              refine WR.ones (g := 0) [9] (by kernel_rfl) ?_
              refine WL.store1 rfl rfl rfl rfl one_50 (Nat.le_of_ble_eq_true rfl) (.none rfl) rfl ?_
              refine WL.nilR ?_
              refine WR.done (by kernel_rfl) ?_
              refine WE.block_n ?_
              refine WE.then_n ?_
              refine WC.region ?_
              refine WL.val (v_add rfl rfl rfl (w_i64 (by omega) (by omega))) (.none rfl) rfl rfl ?_
              refine WL.val (v_move rfl rfl) (.none rfl) rfl rfl ?_
              refine WL.nil ?_
              have hl9 : (us ++ [u']).length = us.length + 1 := (by rw [List.length_append]; rfl)
              refine WE.as (L' := E33 ++ (.row g32 (ndL u') :: ((Eu ++ Mu) ++ (.row g7 (ndL u) :: (M ++ [.row g5 (pl t ad33 (us ++ [u']).length c33), .row g4 (ndL (.mk 0 0 0 0 none 0 []))]))))) (by rw [hl9]; rfl) ?_
              exact WE.next (k + 1, us ++ [u'], ad33, c33, E33, (Eu ++ Mu) ++ M) (by dsimp only; omega) ⟨by dsimp only; omega, by dsimp only; omega, (fun d' hd' => map_snoc (hmap d' hd') hu (by rw [her, show e = d' by omega])), (fun h0 => absurd h0 (by omega)), (fun x hx => by
                rcases List.mem_append.1 hx with h | h
                · exact hIn x h
                · rw [List.mem_singleton.1 h]; exact hO.isIn), by dsimp only; rw [hl9, ← ndsL_snoc]; exact hV33, fun w hw x hx => by
                rcases List.mem_append.1 hx with h | h
                · exact hAts w (fun e he => hw e (List.mem_append_right _ he)) x h
                · rw [List.mem_singleton.1 h]; exact hO.at_ w (fun e he => hw e (List.mem_append_left _ he))⟩ (.int rfl (by dsimp only; omega) (.cons rfl (.cons rfl (.cons rfl (.cons rfl (.cons rfl .nil)))))) (List.Sublist.append_left (.cons _ (by rw [List.append_assoc]; exact List.Sublist.append_left (.cons _ (.refl _)) _)) _)
            · -- next 6
              refine WL.buildSlice rfl rfl Tryd.underlying50 sz_52 zero_52 rfl (by decide) rfl (.none rfl) rfl rfl ?_
              intro g32 hg32
              refine WL.as (L' := .row g32 (ndL u') :: ((Eu ++ Mu) ++ (.row g7 (ndL u) :: (E ++ (M ++ [.row g5 (pl t ad us.length c), .row g4 (ndL (.mk 0 0 0 0 none 0 []))]))))) rfl ?_
              refine WL.to (L' := E ++ (.row g32 (ndL u') :: ((Eu ++ Mu) ++ (.row g7 (ndL u) :: (M ++ [.row g5 (pl t ad us.length c), .row g4 (ndL (.mk 0 0 0 0 none 0 []))]))))) (fun w hS => hS.pull) ?_
              refine WL.nilR ?_
              refine WR.read (g := 3) [1] (by kernel_rfl) (by kernel_rfl) (by kernel_rfl) (by kernel_rfl) rfl ?_
              refine WQ.val (v_load1 rfl rfl one_50 (cellAt rfl)) (.none rfl) rfl rfl ?_
              refine WQ.nilR ?_
              refine WR.ones (g := 2) [7] (by kernel_rfl) ?_
              refine WL.appendL rfl rfl rfl Tryd.underlying50 Tryd.underlying50 sz_52 by_52 zero_52 rfl rfl hV (new := ndL u') (fun _ => ⟨g32, 0, rfl, fun w hS => allAt (g := g32) w hS⟩) rfl rfl (by omega) (.none rfl) rfl rfl ?_
              intro ad33 c33 E33 hV33 hr33
              refine WL.nilR ?_
              refine WR.first (g := 1) [8] (by kernel_rfl) (by kernel_rfl) ?_
              refine WP.val (v_fieldAddr0 rfl rfl fld_52_4) (.none rfl) rfl rfl ?_
              refine WP.nil ?_
              refine WR.ones (g := 0) [9] (by kernel_rfl) ?_
              refine WL.store1 rfl rfl rfl rfl one_50 (Nat.le_of_ble_eq_true rfl) (.none rfl) rfl ?_
              refine WL.nilR ?_
              refine WR.done (by kernel_rfl) ?_
              refine WE.block_n ?_
              refine WE.then_n ?_
              refine WC.region ?_
              refine WL.val (v_add rfl rfl rfl (w_i64 (by omega) (by omega))) (.none rfl) rfl rfl ?_
              refine WL.val (v_move rfl rfl) (.none rfl) rfl rfl ?_
              refine WL.nil ?_
              have hl9 : (us ++ [u']).length = us.length + 1 := (by rw [List.length_append]; rfl)
              refine WE.as (L' := E33 ++ (.row g32 (ndL u') :: ((Eu ++ Mu) ++ (.row g7 (ndL u) :: (M ++ [.row g5 (pl t ad33 (us ++ [u']).length c33), .row g4 (ndL (.mk 0 0 0 0 none 0 []))]))))) (by rw [hl9]; rfl) ?_
              exact WE.next (k + 1, us ++ [u'], ad33, c33, E33, (Eu ++ Mu) ++ M) (by dsimp only; omega) ⟨by dsimp only; omega, by dsimp only; omega, (fun d' hd' => map_snoc (hmap d' hd') hu (by rw [her, show e = d' by omega])), (fun h0 => absurd h0 (by omega)), (fun x hx => by
                rcases List.mem_append.1 hx with h | h
                · exact hIn x h
                · rw [List.mem_singleton.1 h]; exact hO.isIn), by dsimp only; rw [hl9, ← ndsL_snoc]; exact hV33, fun w hw x hx => by
                rcases List.mem_append.1 hx with h | h
                · exact hAts w (fun e he => hw e (List.mem_append_right _ he)) x h
                · rw [List.mem_singleton.1 h]; exact hO.at_ w (fun e he => hw e (List.mem_append_left _ he))⟩ (.int rfl (by dsimp only; omega) (.cons rfl (.cons rfl (.cons rfl (.cons rfl (.cons rfl .nil)))))) (List.Sublist.append_left (.cons _ (by rw [List.append_assoc]; exact List.Sublist.append_left (.cons _ (.refl _)) _)) _)
      · -- 25F
        refine WL.nil ?_
        refine WE.then_n ?_
        refine WC.cond_f rfl ?_
        refine WC.skip ?_
        refine WE.block_n ?_
        refine WE.then_n ?_
        refine WC.region ?_
        refine WL.val (v_add rfl rfl rfl (w_i64 (by omega) (by omega))) (.none rfl) rfl rfl ?_
        refine WL.val (v_move rfl rfl) (.none rfl) rfl rfl ?_
        refine WL.nil ?_
        have hus0 := hz (by omega)
        exact WE.next (k + 1, us, ad, c, E, M) (by dsimp only; omega) ⟨by dsimp only; omega, by dsimp only; omega, (fun d' hd' => absurd hd' (by omega)), hz, hIn, hV, hAts⟩ (.int rfl (by dsimp only; omega) (.cons rfl (.cons rfl (.cons rfl (.cons rfl (.cons rfl .nil)))))) (.cons _ (.refl _))
    · -- 21F
      refine WL.nil ?_
      refine WE.then_n ?_
      refine WC.seq ?_
      refine WC.cond_f rfl ?_
      refine WC.exit ?_
      refine WE.then_exit ?_
      refine WE.then_exit ?_
      refine WE.block_hit ?_
      refine WE.then_n ?_
      refine WC.seq ?_
      refine WC.region ?_
      refine WL.val (v_loadN rfl rfl many_52 rfl allAt) (.none rfl) rfl rfl ?_
      refine WL.storeW rfl rfl rfl rfl many_52 rfl rfl (.none rfl) rfl ?_
      refine WL.nil ?_
      refine WE.then_n ?_
      refine WC.ret ?_
      refine WE.ret1 (P := Tryd.prog) (.inl rfl) Tryd.results22 (resRow rfl many_52 rfl) ?_
      obtain rfl : k = t.kids.length := (by omega)
      exact fun w' h => ⟨.mk t.kind t.f t.val t.mask ad c us, E, M, rfl, by
        rw [er_eq]
        match d, hmap, hz with
        | 0, _, hz => rw [erD_zero]; show Pn.mk _ _ _ _ (us.map er) = _; rw [hz rfl]; rfl
        | d + 1, hmap, _ =>
          have := hmap d rfl
          rw [List.take_length] at this
          rw [erD_succ]; show Pn.mk _ _ _ _ (us.map er) = _; rw [this]; rfl, ⟨Nd.In_mk hnums.1 hnums.2.1 hnums.2.2.1 hnums.2.2.2.1 (by omega) (KidsIn.of' hIn), fun w hw => hV.nodes (fun e he => hw e (List.mem_append_left _ he)) (hAts w fun e he => hw e (List.mem_append_right _ he)), hV⟩, h.sub (by rw [← List.append_assoc]; exact List.sublist_append_left _ _)⟩
end Go.Proofs.YtodaanhhnjkncaaDoor
