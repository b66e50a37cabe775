/- policy: the document's example of layer 16. -/
import Derived.Test.YtodaanhhnjkncaaDoorPolB
namespace Go.Proofs.YtodaanhhnjkncaaDoor
open Go.RowKit

theorem Nd.In_mk {k f v m : Int} {a : Option Addr} {c : Nat} {kids : List Nd} (hk : -9223372036854775808 ≤ k ∧ k ≤ 9223372036854775807) (hf : -9223372036854775808 ≤ f ∧ f ≤ 9223372036854775807) (hv : 0 ≤ v ∧ v ≤ 18446744073709551615) (hm : 0 ≤ m ∧ m ≤ 18446744073709551615) (hl : kids.length ≤ 9223372036854775807) (hI : KidsIn kids) : (Nd.mk k f v m a c kids).In := by
  unfold Nd.In; exact ⟨hk, hf, hv, hm, hl, hI⟩
theorem KidsIn.nil : KidsIn [] := by unfold KidsIn; trivial
theorem KidsIn.cons {t : Nd} {ts : List Nd} (h : t.In) (hs : KidsIn ts) : KidsIn (t :: ts) := by unfold KidsIn; exact ⟨h, hs⟩
theorem fwdN_in {v : Int} (hv : 0 ≤ v ∧ v ≤ 18446744073709551615) : (fwdN v).In := Nd.In_mk (by omega) (by omega) hv (by omega) (by show 0 ≤ _; omega) KidsIn.nil
theorem Nd.At_leaf {w : World} {k f v m : Int} {a : Option Addr} {c : Nat} : (Nd.mk k f v m a c []).At w := by unfold Nd.At KidsAt; trivial
theorem Nd.At_one {w : World} {k f v m : Int} {g c : Nat} {t : Nd} (h : w.rangeAt g 0 (ndL t)) (ht : t.At w) : (Nd.mk k f v m (some ⟨g, 0, none⟩) c [t]).At w := by
  unfold Nd.At KidsAt KidsAt
  exact ⟨⟨g, 0, rfl, h⟩, ht, trivial⟩
theorem Nd.At_two {w : World} {k f v m : Int} {g c : Nat} {t u : Nd} (h : w.rangeAt g 0 (ndL t ++ ndL u)) (ht : t.At w) (hu : u.At w) : (Nd.mk k f v m (some ⟨g, 0, none⟩) c [t, u]).At w := by
  have h1 : w.rangeAt g 0 (ndL t) := fun j x hj => h j x (by rw [List.getElem?_append_left (List.getElem?_eq_some_iff.1 hj).1]; exact hj)
  have h2 : w.rangeAt g (0 + 1 * 5) (ndL u) := fun j x hj => by
    have := h (5 + j) x (by rw [List.getElem?_append_right (by show 5 ≤ 5 + j; omega)]; rw [show 5 + j - (ndL t).length = j by show 5 + j - 5 = j; omega]; exact hj)
    rwa [show 0 + 1 * 5 + j = 0 + (5 + j) by omega]
  unfold Nd.At KidsAt KidsAt KidsAt
  exact ⟨⟨g, 0, rfl, h1⟩, ht, ⟨g, 0, rfl, h2⟩, hu, trivial⟩
theorem perm_two {A B : Hd} {Rs : List Hd} (h : Rs.Perm [A, B]) (ha : Asc Rs) (hlt : hcmpK A B 9 < 0) : Rs = [A, B] := by
  have hl := h.length_eq
  match Rs, hl with
  | [x, y], _ =>
    have hx : x ∈ [A, B] := h.subset (by simp)
    have hy : y ∈ [A, B] := h.subset (by simp)
    have e := ha 0 1 x y rfl rfl (by omega)
    have hA : A ∈ [x, y] := h.symm.subset (by simp)
    have hB : B ∈ [x, y] := h.symm.subset (by simp)
    have hne : A ≠ B := fun q => by
      subst q
      rw [hcmp_lex] at hlt
      have := (lexK_zero (getF A) (getF A) 9).2 (fun _ _ => rfl)
      omega
    simp only [List.mem_cons, List.not_mem_nil, or_false] at hx hy hA hB
    rcases hx with rfl | rfl
    · rcases hB with q | q
      · exact absurd q.symm hne
      · rw [q]
    · rcases hA with q | q
      · exact absurd q hne
      · subst q; exact absurd hlt e
def ex1 (g : Nat) : Nd := .mk 15 0 0 0 (some ⟨g, 0, none⟩) 2 [fwdN (1 % 256), fwdN (2 % 256)]
def ex2 (g g' : Nat) : Nd := .mk 16 0 0 0 (some ⟨g, 0, none⟩) 2 [.mk 13 0 0 0 (some ⟨g', 0, none⟩) 1 [.mk 2 0 0 0 none 0 []], fwdN (1 % 256)]
theorem ex1_is {g : Nat} {Rs : List Hd} {er : Int} (h : RunIs (ex1 g) Hd.zero Rs er) : er = 0 ∧ Rs = [wthF 0 1 Hd.zero, wthF 0 2 Hd.zero] := by
  have e1 : (walkT (ex1 g) 1 false 0).1 = 0 := by kernel_rfl
  have e2 : Hd.zero.okB = true := by kernel_rfl
  have e3 : runT (ex1 g) Hd.zero = some [wthF 0 1 Hd.zero, wthF 0 2 Hd.zero] := by kernel_rfl
  unfold RunIs at h
  rw [if_neg (by omega), if_neg (by rw [e2]; decide), e3] at h
  exact ⟨h.1, perm_two h.2.1 h.2.2 (by decide)⟩
theorem ex2_is {g g' : Nat} {Rs : List Hd} {er : Int} (h : RunIs (ex2 g g') Hd.zero Rs er) : er = 0 ∧ Rs = [] := by
  have e1 : (walkT (ex2 g g') 1 false 0).1 = 0 := by kernel_rfl
  have e2 : Hd.zero.okB = true := by kernel_rfl
  have e3 : runT (ex2 g g') Hd.zero = some [] := by kernel_rfl
  unfold RunIs at h
  rw [if_neg (by omega), if_neg (by rw [e2]; decide), e3] at h
  exact ⟨h.1, h.2.1.eq_nil⟩
theorem ex1_in (g : Nat) : (ex1 g).In := Nd.In_mk (by omega) (by omega) (by omega) (by omega) (by show 2 ≤ _; omega) (.cons (fwdN_in (by omega)) (.cons (fwdN_in (by omega)) .nil))
theorem ex2_in (g g' : Nat) : (ex2 g g').In := Nd.In_mk (by omega) (by omega) (by omega) (by omega) (by show 2 ≤ _; omega)
  (.cons (Nd.In_mk (by omega) (by omega) (by omega) (by omega) (by show 1 ≤ _; omega) (.cons (Nd.In_mk (by omega) (by omega) (by omega) (by omega) (by show 0 ≤ _; omega) .nil) .nil)) (.cons (fwdN_in (by omega)) .nil))
theorem Vec.port {n c : Nat} {ad : Option Addr} {Hs : List Hd} {E : List Ent} {i : Nat} {H : Hd} {p : Nat → Prop} {w0 w : World} {L : List Ent} (hV : Vec 19 ad n c (hdsL Hs) E) (hS : St p w0 w L) (hm : ∀ e ∈ E, e ∈ L) (hi : Hs[i]? = some H) {g : Nat} (ea : ad = some ⟨g, 0, none⟩) : w.cell? ⟨g, 0 + i * 19, none⟩ = some (.int .i64 H.port) := by
  have h := HdsAt.at (by rw [← ea]; exact hV.hds hS hm) hi
  exact h 0 _ rfl
set_option maxHeartbeats 2000000 in
theorem Ex16_c (w0 : World) (hG : GW w0) : Calls Tryd.prog 19 #[] w0 fun e w' => e = .returned (.bool true) ∧ Frm (fun _ => False) w0 w' := by
  refine enter Tryd.func19 rfl Tryd.ntmps19 rfl (St.start (fun _ => False) w0) ?_
  refine WC.seq ?_
  refine WC.region ?_
  refine WL.val (v_assign rfl rfl) (.none rfl) rfl rfl ?_
  refine WL.nil ?_
  refine WE.then_n ?_
  refine WC.seq ?_
  refine WC.region ?_
  refine WL.call rfl rfl ck_32 (.none rfl) rfl rfl ?_
  intro w hS
  refine Calls.then (Fwd_c w 1) hS ?_
  refine WL.call rfl rfl ck_32 (.none rfl) rfl rfl ?_
  intro w hS
  refine Calls.then (Fwd_c w 2) hS ?_
  refine WL.buildSlice rfl rfl Tryd.underlying43 sz_45 zero_45 rfl (by decide) rfl (.none rfl) rfl rfl ?_
  intro g8 hg8
  refine WL.as (L' := [.row g8 (ndL (fwdN (1 % 256)) ++ ndL (fwdN (2 % 256)))]) rfl ?_
  refine WL.call rfl rfl ck_28 (.none rfl) rfl rfl ?_
  intro w hS
  refine Calls.then (LPar_c w (some ⟨g8, 0, none⟩) 2 [fwdN (1 % 256), fwdN (2 % 256)]) hS ?_
  refine WL.val (v_build rfl rfl zero_31 plc_31 rfl) (.none rfl) rfl rfl ?_
  refine WL.call rfl rfl ck_21 (.none rfl) rfl rfl ?_
  intro w1 hS
  refine (Run_c (fun _ => False) (fun _ h => h) w0 hG [.row g8 (ndL (fwdN (1 % 256)) ++ ndL (fwdN (2 % 256)))] w1 (ex1 g8) Hd.zero (ex1_in g8) (fun w' hS' => Nd.At_two (allAt (g := g8) w' hS') Nd.At_leaf Nd.At_leaf) Hd.zero_in hS).mono ?_
  rintro e w' ⟨Rs, ad, c, E, er, rfl, hV, hS', hr⟩
  obtain ⟨rfl, rfl⟩ := ex1_is hr
  obtain ⟨gg, ea⟩ := hV.adr (by show 0 < 2; omega)
  refine ⟨_, _, rfl, hS', ?_⟩
  refine WL.val (v_move rfl rfl) (.none rfl) rfl rfl ?_
  refine WL.val (v_extract rfl rfl rfl) (.none rfl) rfl rfl ?_
  refine WL.val (v_extract rfl rfl rfl) (.none rfl) rfl rfl ?_
  refine WL.val (v_assign rfl rfl) (.none rfl) rfl rfl ?_
  refine WL.val (v_assign rfl rfl) (.none rfl) rfl rfl ?_
  refine WL.nil ?_
  refine WE.then_n ?_
  refine WC.seq ?_
  refine WC.region ?_
  refine WL.val (v_build rfl rfl zero_45 plc_45 rfl) (.none rfl) rfl rfl ?_
  refine WL.call rfl rfl ck_35 (.none rfl) rfl rfl ?_
  intro w1 hS
  refine (LFil_c (fun _ => False) w0 w1 _ (.mk 2 0 0 0 none 0 []) hS).mono ?_
  rintro e w' ⟨gf, rfl, hgf, hS'⟩
  refine ⟨_, _, rfl, hS', ?_⟩
  refine WL.call rfl rfl ck_32 (.none rfl) rfl rfl ?_
  intro w hS
  refine Calls.then (Fwd_c w 1) hS ?_
  refine WL.buildSlice rfl rfl Tryd.underlying43 sz_45 zero_45 rfl (by decide) rfl (.none rfl) rfl rfl ?_
  intro g18 hg18
  refine WL.as (L' := .row g18 (ndL (.mk 13 0 0 0 (some ⟨gf, 0, none⟩) 1 [.mk 2 0 0 0 none 0 []]) ++ ndL (fwdN (1 % 256))) :: .row gf (ndL (.mk 2 0 0 0 none 0 [])) :: (E ++ [.row g8 (ndL (fwdN (1 % 256)) ++ ndL (fwdN (2 % 256)))])) rfl ?_
  refine WL.call rfl rfl ck_29 (.none rfl) rfl rfl ?_
  intro w hS
  refine Calls.then (LSeq_c w (some ⟨g18, 0, none⟩) 2 [.mk 13 0 0 0 (some ⟨gf, 0, none⟩) 1 [.mk 2 0 0 0 none 0 []], fwdN (1 % 256)]) hS ?_
  refine WL.val (v_build rfl rfl zero_31 plc_31 rfl) (.none rfl) rfl rfl ?_
  refine WL.call rfl rfl ck_21 (.none rfl) rfl rfl ?_
  intro w1 hS
  refine (Run_c (fun _ => False) (fun _ h => h) w0 hG _ w1 (ex2 g18 gf) Hd.zero (ex2_in g18 gf) (fun w' hS' => Nd.At_two (allAt (g := g18) w' hS') (Nd.At_one (allAt (g := gf) w' hS') Nd.At_leaf) Nd.At_leaf) Hd.zero_in hS).mono ?_
  rintro e w' ⟨Rs2, ad2, c2, E2, er2, rfl, hV2, hS', hr2⟩
  obtain ⟨rfl, rfl⟩ := ex2_is hr2
  refine ⟨_, _, rfl, hS', ?_⟩
  refine WL.val (v_move rfl rfl) (.none rfl) rfl rfl ?_
  refine WL.val (v_extract rfl rfl rfl) (.none rfl) rfl rfl ?_
  refine WL.val (v_extract rfl rfl rfl) (.none rfl) rfl rfl ?_
  refine WL.val (v_assign rfl rfl) (.none rfl) rfl rfl ?_
  refine WL.val (v_assign rfl rfl) (.none rfl) rfl rfl ?_
  refine WL.nil ?_
  refine WE.then_n ?_
  refine WC.seq ?_
  refine WC.region ?_
  refine WL.val (v_move rfl rfl) (.none rfl) rfl rfl ?_
  refine WL.val ((v_eql rfl rfl rfl).t (rfl)) (.none rfl) rfl rfl ?_
  refine WL.val (v_move rfl rfl) (.none rfl) rfl rfl ?_
  refine WL.val (v_move rfl rfl) (.some rfl rfl rfl) rfl rfl ?_
  refine WL.val ((v_eql rfl rfl rfl).t (rfl)) (.some rfl rfl rfl) rfl rfl ?_
  refine WL.val (v_pick_t rfl rfl rfl) (.none rfl) rfl rfl ?_
  refine WL.val (v_move rfl rfl) (.none rfl) rfl rfl ?_
  refine WL.val (v_move rfl rfl) (.some rfl rfl rfl) rfl rfl ?_
  refine WL.val (v_len_slice rfl rfl Tryd.underlying47) (.some rfl rfl rfl) rfl rfl ?_
  refine WL.val ((v_eql rfl rfl rfl).t (rfl)) (.some rfl rfl rfl) rfl rfl ?_
  refine WL.val (v_pick_t rfl rfl rfl) (.none rfl) rfl rfl ?_
  refine WL.val (v_move rfl rfl) (.none rfl) rfl rfl ?_
  refine WL.val (v_move rfl rfl) (.some rfl rfl rfl) rfl rfl ?_
  refine WL.val (v_indexAddr (b := gg) (off := 0) (lo := 0) rfl (by show some (Value.slice ad _ _) = _; rw [ea]) rfl Tryd.underlying47 sz_31 rfl (by show 0 < 2; omega)) (.some rfl rfl rfl) rfl rfl ?_
  refine WL.val (v_fieldAddr rfl rfl fld_31_0) (.some rfl rfl rfl) rfl rfl ?_
  refine WL.val (v_load1 rfl rfl one_3 (fun w' hS' => hV.port (i := 0) (H := wthF 0 1 Hd.zero) hS' (fun e he => List.mem_append_right _ (List.mem_cons_of_mem _ (List.mem_cons_of_mem _ (List.mem_append_left _ he)))) rfl ea)) (.some rfl rfl rfl) rfl rfl ?_
  refine WL.val ((v_eql rfl rfl rfl).t (rfl)) (.some rfl rfl rfl) rfl rfl ?_
  refine WL.val (v_pick_t rfl rfl rfl) (.none rfl) rfl rfl ?_
  refine WL.val (v_move rfl rfl) (.none rfl) rfl rfl ?_
  refine WL.val (v_move rfl rfl) (.some rfl rfl rfl) rfl rfl ?_
  refine WL.val (v_indexAddr (b := gg) (off := 0) (lo := 1) rfl (by show some (Value.slice ad _ _) = _; rw [ea]) rfl Tryd.underlying47 sz_31 rfl (by show 1 < 2; omega)) (.some rfl rfl rfl) rfl rfl ?_
  refine WL.val (v_fieldAddr rfl rfl fld_31_0) (.some rfl rfl rfl) rfl rfl ?_
  refine WL.val (v_load1 rfl rfl one_3 (fun w' hS' => hV.port (i := 1) (H := wthF 0 2 Hd.zero) hS' (fun e he => List.mem_append_right _ (List.mem_cons_of_mem _ (List.mem_cons_of_mem _ (List.mem_append_left _ he)))) rfl ea)) (.some rfl rfl rfl) rfl rfl ?_
  refine WL.val ((v_eql rfl rfl rfl).t (rfl)) (.some rfl rfl rfl) rfl rfl ?_
  refine WL.val (v_pick_t rfl rfl rfl) (.none rfl) rfl rfl ?_
  refine WL.val (v_move rfl rfl) (.none rfl) rfl rfl ?_
  refine WL.val (v_move rfl rfl) (.some rfl rfl rfl) rfl rfl ?_
  refine WL.val (v_len_slice rfl rfl Tryd.underlying47) (.some rfl rfl rfl) rfl rfl ?_
  refine WL.val ((v_eql rfl rfl rfl).t (rfl)) (.some rfl rfl rfl) rfl rfl ?_
  refine WL.val (v_pick_t rfl rfl rfl) (.none rfl) rfl rfl ?_
  refine WL.val (v_assign rfl rfl) (.none rfl) rfl rfl ?_
  refine WL.nil ?_
  refine WE.then_n ?_
  refine WC.ret ?_
  refine WE.ret1 (P := Tryd.prog) (.inl rfl) Tryd.results19 rfl ?_
  exact fun w' h => ⟨rfl, h.frm⟩
end Go.Proofs.YtodaanhhnjkncaaDoor
