/- policy: headers that are the same; Index, Contains, gather. -/
import Derived.Test.YtodaanhhnjkncaaDoorPol5
import Derived.Test.YtodaanhhnjkncaaDoorActE
namespace Go.Proofs.YtodaanhhnjkncaaDoor
open Go.RowKit

def Hd.same (A B : Hd) : Prop := A.port = B.port ∧ (∀ i, i < 6 → A.src i = B.src i) ∧ (∀ i, i < 6 → A.dst i = B.dst i) ∧ A.ty = B.ty ∧ A.sip = B.sip ∧ A.dip = B.dip ∧ A.proto = B.proto ∧ A.sp = B.sp ∧ A.dp = B.dp
instance (A B : Hd) : Decidable (A.same B) := by unfold Hd.same; infer_instance
theorem hdL_same {A B : Hd} : hdL A = hdL B ↔ A.same B := by
  constructor
  · intro h
    unfold hdL at h
    simp only [List.cons.injEq, Value.int.injEq, true_and, and_true] at h
    obtain ⟨h0, h1, h2, h3, h4, h5, h6, h7, h8, h9, h10, h11, h12, h13, h14, h15, h16, h17, h18⟩ := h
    exact ⟨h0, fun i hi => by match i, hi with | 0, _ => exact h1 | 1, _ => exact h2 | 2, _ => exact h3 | 3, _ => exact h4 | 4, _ => exact h5 | 5, _ => exact h6,
      fun i hi => by match i, hi with | 0, _ => exact h7 | 1, _ => exact h8 | 2, _ => exact h9 | 3, _ => exact h10 | 4, _ => exact h11 | 5, _ => exact h12, h13, h14, h15, h16, h17, h18⟩
  · rintro ⟨h0, h1, h2, h3, h4, h5, h6, h7, h8⟩
    unfold hdL
    rw [h0, h1 0 (by omega), h1 1 (by omega), h1 2 (by omega), h1 3 (by omega), h1 4 (by omega), h1 5 (by omega), h2 0 (by omega), h2 1 (by omega), h2 2 (by omega), h2 3 (by omega), h2 4 (by omega), h2 5 (by omega), h3, h4, h5, h6, h7, h8]
theorem hdL_len (H : Hd) : (hdL H).length = 19 := rfl
theorem hdsL_len : ∀ Hs : List Hd, (hdsL Hs).length = Hs.length * 19
  | [] => rfl
  | H :: Hs => by
    show (hdL H ++ hdsL Hs).length = _
    rw [List.length_append, hdsL_len Hs, hdL_len, List.length_cons]; omega
theorem hdsL_seg : ∀ (Hs : List Hd) (i : Nat) (H : Hd), Hs[i]? = some H → ((hdsL Hs).drop (i * 19)).take 19 = hdL H
  | [], _, _, h => by simp at h
  | G :: Hs, 0, H, h => by
    simp only [List.getElem?_cons_zero, Option.some.injEq] at h
    subst h
    show ((hdL G ++ hdsL Hs).drop (0 * 19)).take 19 = _
    rw [Nat.zero_mul, List.drop_zero, List.take_left' (hdL_len G)]
  | G :: Hs, i + 1, H, h => by
    rw [List.getElem?_cons_succ] at h
    show ((hdL G ++ hdsL Hs).drop ((i + 1) * 19)).take 19 = _
    rw [show (i + 1) * 19 = 19 + i * 19 by omega, ← List.drop_drop, List.drop_left' (hdL_len G)]
    exact hdsL_seg Hs i H h
/-- Headers lie there, one behind the other. -/
def HdsAt (w : World) (ad : Option Addr) (Hs : List Hd) : Prop := ∀ (i : Nat) (H : Hd), Hs[i]? = some H → ∃ b o, ad = some ⟨b, o, none⟩ ∧ w.rangeAt b (o + i * 19) (hdL H)
theorem HdsAt.keep {w w' : World} {ad : Option Addr} {Hs : List Hd} (hw : ∀ b o cs, w.rangeAt b o cs → w'.rangeAt b o cs) (h : HdsAt w ad Hs) : HdsAt w' ad Hs := fun i H hi => by
  obtain ⟨b, o, e, hr⟩ := h i H hi
  exact ⟨b, o, e, hw _ _ _ hr⟩
theorem HdsAt.at {w : World} {b o : Nat} {Hs : List Hd} {i : Nat} {H : Hd} (h : HdsAt w (some ⟨b, o, none⟩) Hs) (hi : Hs[i]? = some H) : w.rangeAt b (o + i * 19) (hdL H) := by
  obtain ⟨b', o', e', hr⟩ := h i H hi
  injection e' with e'
  injection e' with e1 e2
  subst e1 e2
  exact hr
theorem Vec.hds {p : Nat → Prop} {w0 w : World} {L E : List Ent} {ad : Option Addr} {n c : Nat} {Hs : List Hd} (hV : Vec 19 ad n c (hdsL Hs) E) (hS : St p w0 w L) (hm : ∀ e ∈ E, e ∈ L) : HdsAt w ad Hs := fun i H hi => by
  have hlt : i < Hs.length := (List.getElem?_eq_some_iff.1 hi).1
  have hl := hV.len.1
  rw [hdsL_len] at hl
  rcases hV with ⟨_, h, _⟩ | ⟨g, cs, rfl, rfl, hx, hcl, hk⟩
  · subst h; omega
  · refine ⟨g, 0, rfl, fun j v hj => ?_⟩
    have hR : Row w g cs := hS.holds (.row g cs) (hm _ (by simp))
    refine hR.cell ?_
    have hs := hdsL_seg Hs i H hi
    rw [← hs, List.getElem?_take] at hj
    split at hj
    · rename_i hj19
      rw [List.getElem?_drop, ← hx, List.getElem?_take] at hj
      split at hj
      · rw [Nat.zero_add]; exact hj
      · cases hj
    · cases hj
theorem HIdx_c (w : World) (ad : Option Addr) (c : Nat) (Hs : List Hd) (H : Hd) (hA : HdsAt w ad Hs) (hn : Hs.length ≤ 1000) :
    Calls Tryd.prog 140 #[.slice ad Hs.length c, .agg (hdCells H)] w
      fun e w' => e = .returned (.int .i64 (findI (fun i => ((Hs[i]?).map fun x => decide (H.same x)).getD false) Hs.length)) ∧ Frm (fun _ => False) w w' := by
  refine enter Tryd.func140 rfl Tryd.ntmps140 rfl (St.start (fun _ => False) w) ?_
  refine WC.seq ?_
  refine WC.region ?_
  refine WL.box rfl rfl rfl (.none rfl) rfl rfl ?_
  intro g3 hg3
  refine WL.val (v_assign rfl rfl) (.none rfl) rfl rfl ?_
  refine WL.nil ?_
  refine WE.then_n ?_
  refine WC.seq ?_
  refine WC.seq ?_
  refine WC.region ?_
  refine WL.val (v_move rfl rfl) (.none rfl) rfl rfl ?_
  refine WL.val (v_len_slice rfl rfl Tryd.underlying47) (.none rfl) rfl rfl ?_
  refine WL.val (v_move rfl rfl) (.none rfl) rfl rfl ?_
  refine WL.nil ?_
  refine WE.then_n ?_
  refine WC.block ?_
  refine WC.loop (fun k : Nat => [(8, .int .i64 k), (7, .int .i64 Hs.length), (6, .slice ad Hs.length c), (0, .slice ad Hs.length c), (3, .pointer (some ⟨g3, 0, none⟩))]) (fun _ => [.row g3 (hdL H)]) (fun k => k ≤ Hs.length ∧ ∀ j, j < k → ((Hs[j]?).map fun x => decide (H.same x)).getD false = false) (fun k => Hs.length - k) 0 ⟨Nat.zero_le _, fun j h => absurd h (by omega)⟩ (.cons rfl (.cons rfl (.cons rfl (.cons rfl (.cons rfl .nil))))) (.refl _) ?_
  rintro k ⟨hk, hno⟩
  refine WC.seq ?_
  refine WC.region ?_
  refine WL.test (v_lss rfl rfl rfl) (.none rfl) rfl rfl (fun h9 => ?_) (fun h9 => ?_)
  · -- 9T
    refine WL.nil ?_
    refine WE.then_n ?_
    refine WC.seq ?_
    refine WC.cond_t rfl ?_
    refine WC.skip ?_
    refine WE.then_n ?_
    refine WC.seq ?_
    refine WC.block ?_
    refine WC.seq ?_
    refine WC.region ?_
    refine WL.val (v_move rfl rfl) (.none rfl) rfl rfl ?_
    obtain ⟨x, hx⟩ : ∃ x, Hs[k]? = some x := ⟨Hs[k]'(by omega), List.getElem?_eq_getElem _⟩
    obtain ⟨b, o, ea, hr⟩ := hA k x hx
    refine WL.val (v_assign rfl rfl) (.none rfl) rfl rfl ?_
    refine WL.nil ?_
    refine WE.then_n ?_
    refine WC.seq ?_
    refine WC.quiet mixed (by kernel_rfl) ?_
    refine WQ.val (v_loadN rfl rfl many_31 rfl allAt) (.none rfl) rfl rfl ?_
    refine WQ.val (v_move rfl rfl) (.none rfl) rfl rfl ?_
    refine WQ.val (v_move rfl rfl) (.none rfl) rfl rfl ?_
    refine WQ.val (v_indexAddr (b := b) (off := o) (lo := k) rfl (by show some (Value.slice ad _ _) = _; rw [ea]) rfl Tryd.underlying47 sz_31 rfl (by omega)) (.none rfl) rfl rfl ?_
    refine WQ.val (v_loadN (cs := hdL x) rfl rfl many_31 rfl (rangeIn (fun h => h) hr)) (.none rfl) rfl rfl ?_
    generalize hb : decide (H.same x) = bb
    cases bb
    · -- 15F
      refine WQ.val (v_eql_aggF rfl rfl rfl eqk_31 eqg_31 rfl rfl (by exact fun e => of_decide_eq_false hb (hdL_same.1 e))) (.none rfl) rfl rfl ?_
      refine WQ.nil ?_
      refine WE.then_n ?_
      refine WC.cond_f rfl ?_
      refine WC.skip ?_
      refine WE.block_n ?_
      refine WE.then_n ?_
      refine WC.region ?_
      refine WL.val (v_add rfl rfl rfl (w_i64 (by omega) (by omega))) (.none rfl) rfl rfl ?_
      refine WL.val (v_move rfl rfl) (.none rfl) rfl rfl ?_
      refine WL.nil ?_
      exact WE.next (k + 1) (by omega) ⟨by omega, fun j hj => by
      by_cases e : j = k
      · subst e; rw [hx]; exact hb
      · exact hno j (by omega)⟩ (.int rfl (by omega) (.cons rfl (.cons rfl (.cons rfl (.cons rfl .nil))))) (.refl _)
    · -- 15T
      refine WQ.val (v_eql_aggT rfl rfl rfl eqk_31 eqg_31 rfl rfl (by exact hdL_same.2 (of_decide_eq_true hb))) (.none rfl) rfl rfl ?_
      refine WQ.nil ?_
      refine WE.then_n ?_
      refine WC.cond_t rfl ?_
      refine WC.seq ?_
      refine WC.region ?_
      refine WL.val (v_move rfl rfl) (.none rfl) rfl rfl ?_
      refine WL.val (v_assign rfl rfl) (.none rfl) rfl rfl ?_
      refine WL.nil ?_
      refine WE.then_n ?_
      refine WC.ret ?_
      refine WE.block_ret ?_
      refine WE.then_ret ?_
      refine WE.then_ret ?_
      refine WE.block_ret ?_
      refine WE.then_ret ?_
      refine WE.ret1 (P := Tryd.prog) (.inl rfl) Tryd.results140 rfl ?_
      exact fun w' h => ⟨by rw [findI_some (k := k) (by omega) (by rw [hx]; exact hb) hno], h.frm⟩
  · -- 9F
    refine WL.nil ?_
    refine WE.then_n ?_
    refine WC.seq ?_
    refine WC.cond_f rfl ?_
    refine WC.exit ?_
    refine WE.then_exit ?_
    refine WE.then_exit ?_
    refine WE.block_hit ?_
    refine WE.then_n ?_
    refine WC.seq ?_
    refine WC.region ?_
    refine WL.val (v_assign rfl rfl) (.none rfl) rfl rfl ?_
    refine WL.nil ?_
    refine WE.then_n ?_
    refine WC.ret ?_
    refine WE.ret1 (P := Tryd.prog) (.inl rfl) Tryd.results140 rfl ?_
    obtain rfl : k = Hs.length := (by omega)
    exact fun w' h => ⟨by rw [findI_none hno], h.frm⟩
theorem findI_any' {α : Type} (r : α → Bool) (ts : List α) : decide (0 ≤ findI (fun i => ((ts[i]?).map r).getD false) ts.length) = ts.any r := by
  by_cases h : ∃ i, i < ts.length ∧ ((ts[i]?).map r).getD false = true
  · obtain ⟨i, hi, ht⟩ := h
    have h2 : findI (fun i => ((ts[i]?).map r).getD false) ts.length ≠ -1 := by
      intro e
      unfold findI at e
      split at e
      · rename_i k _; omega
      · rename_i hn
        have := List.find?_eq_none.1 hn i (List.mem_range.2 hi)
        exact this ht
    have h3 : 0 ≤ findI (fun i => ((ts[i]?).map r).getD false) ts.length := by
      unfold findI at h2 ⊢
      split
      · omega
      · rename_i hn; rw [hn] at h2; exact absurd rfl h2
    rw [decide_eq_true h3]
    symm
    rw [List.any_eq_true]
    rw [List.getElem?_eq_getElem hi] at ht
    exact ⟨ts[i], List.getElem_mem hi, ht⟩
  · rw [findI_none (fun j hj => by
      cases e : ((ts[j]?).map r).getD false with
      | false => rfl
      | true => exact absurd ⟨j, hj, e⟩ h)]
    symm
    rw [show decide ((0 : Int) ≤ -1) = false by decide, List.any_eq_false]
    intro u hu ht
    obtain ⟨i, hi, e⟩ := List.getElem_of_mem hu
    exact h ⟨i, hi, by rw [List.getElem?_eq_getElem hi, e]; exact ht⟩
def inHs (Hs : List Hd) (H : Hd) : Bool := Hs.any fun x => decide (H.same x)
theorem HCon_c (w : World) (ad : Option Addr) (c : Nat) (Hs : List Hd) (H : Hd) (hA : HdsAt w ad Hs) (hn : Hs.length ≤ 1000) :
    Calls Tryd.prog 125 #[.slice ad Hs.length c, .agg (hdCells H)] w
      fun e w' => e = .returned (.bool (inHs Hs H)) ∧ Frm (fun _ => False) w w' := by
  refine enter Tryd.func125 rfl Tryd.ntmps125 rfl (St.start (fun _ => False) w) ?_
  refine WC.seq ?_
  refine WC.region ?_
  refine WL.box rfl rfl rfl (.none rfl) rfl rfl ?_
  intro g3 hg3
  refine WL.val (v_assign rfl rfl) (.none rfl) rfl rfl ?_
  refine WL.nil ?_
  refine WE.then_n ?_
  refine WC.seq ?_
  refine WC.region ?_
  refine WL.val (v_move rfl rfl) (.none rfl) rfl rfl ?_
  refine WL.val (v_loadN rfl rfl many_31 rfl allAt) (.none rfl) rfl rfl ?_
  refine WL.call rfl rfl ck_140 (.none rfl) rfl rfl ?_
  intro w hS
  refine Calls.then (HIdx_c w ad c Hs H (hA.keep (hS.range (fun _ h => h))) hn) hS ?_
  refine WL.val (v_geq rfl rfl rfl) (.none rfl) rfl rfl ?_
  refine WL.val (v_assign rfl rfl) (.none rfl) rfl rfl ?_
  refine WL.nil ?_
  refine WE.then_n ?_
  refine WC.ret ?_
  refine WE.ret1 (P := Tryd.prog) (.inl rfl) Tryd.results125 rfl ?_
  exact fun w' h => ⟨by unfold inHs; rw [← findI_any'], h.frm⟩
/-- What gather makes of two lists. -/
def gatherT (all : List Hd) : List Hd → Option (List Hd)
  | [] => some all
  | h :: more => if inHs all h then gatherT all more else if all.length = 64 then none else gatherT (all ++ [h]) more
end Go.Proofs.YtodaanhhnjkncaaDoor
