/- Texts joined: engine, contracts and laws, in the order in which they build. -/
import Derived.OrdersHeld
import Derived.ProofKit
import Derived.Test.YtkeonnnhogaggaaDoorBbTableFull
/- table: Change. -/
namespace Go.Proofs.YtkeonnnhogaggaaDoor
open Go.RowKit

/-- Neighbours apart, in order: all apart. -/
theorem strict_nb : ∀ (T : List EnL), (T.Pairwise fun a b => ordE a.d b.d ≤ 0) → (∀ i a b, T[i]? = some a → T[i + 1]? = some b → ordE a.d b.d ≠ 0) → T.Pairwise fun a b => ordE a.d b.d < 0
  | [], _, _ => List.Pairwise.nil
  | [x], _, _ => List.pairwise_singleton _ _
  | x :: y :: T, h, hn => by
    have h1 := List.pairwise_cons.1 h
    have ih := strict_nb (y :: T) h1.2 fun i a b ha hb => hn (i + 1) a b (by simpa using ha) (by simpa using hb)
    refine List.pairwise_cons.2 ⟨fun z hz => ?_, ih⟩
    have h0 := hn 0 x y rfl rfl
    have h2 := h1.1 y (List.mem_cons_self ..)
    rcases List.mem_cons.1 hz with rfl | hz
    · omega
    · have := (List.pairwise_cons.1 ih).1 z hz
      exact ordE_cm.lt_le (show ordE x.d y.d < 0 by omega) (by omega)
theorem errs_at {α : Type} {f : α → Int} : ∀ {xs : List α} {k : Nat} {x : α}, (∀ i y, i < k → xs[i]? = some y → f y = 0) → xs[k]? = some x → f x ≠ 0 → errs f xs = f x
  | [], _, _, _, h, _ => by simp at h
  | y :: xs, 0, x, _, h, hx => by
    simp only [List.getElem?_cons_zero, Option.some.injEq] at h
    subst h
    exact if_pos hx
  | y :: xs, k + 1, x, hb, h, hx => by
    have h0 := hb 0 y (by omega) rfl
    show (if f y ≠ 0 then f y else errs f xs) = f x
    rw [if_neg (fun q => q h0)]
    exact errs_at (k := k) (fun i z hi hz => hb (i + 1) z (by omega) (by simpa using hz)) (by simpa using h) hx
theorem errs_none {α : Type} {f : α → Int} {xs : List α} (h : ∀ i y, i < xs.length → xs[i]? = some y → f y = 0) : errs f xs = 0 := errs_zero.2 fun x hx => by
  obtain ⟨i, hi, e⟩ := List.mem_iff_getElem.1 hx
  exact h i x hi (by rw [List.getElem?_eq_getElem hi, e])
theorem ens_d_norm {e : EnL} {ys : List Ac} {ad : Option Addr} {c : Nat} (hN : ∀ a ∈ e.r.acts, a.Nz) (h : NormP e.r.acts ys) : EnL.d ⟨e.prio, e.mark, ⟨e.r.m, ad, c, ys⟩⟩ = e.d.norm := by
  show (⟨e.prio, e.mark, ⟨e.r.m, ys⟩⟩ : EnD) = ⟨e.prio, e.mark, ⟨e.r.m, normF e.r.acts⟩⟩
  rw [normF_of hN h]
theorem filter_d (es : List EnL) (outs : List Int) : (es.filter (keepE outs)).map EnL.d = leftD (es.map EnL.d) outs := by
  unfold leftD
  rw [List.filter_map]
  rfl
/-- What is asked of entries that are handed in. -/
structure InOk (w : World) (x : EnL) : Prop where
  i : x.d.In
  rd : Rg w x.r.ad (actsL x.r.acts)
theorem chP_err {most : Int} {T : List EnD} {outs : List Int} {ins : List EnD} (h : errs EnD.err ins ≠ 0) : ChangeP most T outs ins (errs EnD.err ins) T :=
  ⟨fun _ => rfl, fun k => absurd k h, fun k => absurd k h, fun k => absurd k h, fun _ => rfl, fun k => absurd k h⟩
theorem chP_full {most : Int} {T : List EnD} {outs : List Int} {ins : List EnD} (h : errs EnD.err ins = 0) (hf : (ins.length : Int) > most - (leftD T outs).length) : ChangeP most T outs ins 30 T :=
  ⟨fun k => absurd h k, fun _ _ => rfl, fun _ k => by omega, fun _ k => by omega, fun _ => rfl, fun k => absurd k (by decide)⟩
theorem chP_dup {most : Int} {T : List EnD} {outs : List Int} {ins : List EnD} (h : errs EnD.err ins = 0) (hf : (ins.length : Int) ≤ most - (leftD T outs).length) (hA : ¬ Apart (leftD T outs ++ ins.map EnD.norm)) : ChangeP most T outs ins 5 T :=
  ⟨fun k => absurd h k, fun _ k => by omega, fun _ _ _ => rfl, fun _ _ k => absurd k hA, fun _ => rfl, fun k => absurd k (by decide)⟩
theorem chP_ok {most : Int} {T T' : List EnD} {outs : List Int} {ins : List EnD} (h : errs EnD.err ins = 0) (hf : (ins.length : Int) ≤ most - (leftD T outs).length) (hS : Strict T') (hP : T'.Perm (leftD T outs ++ ins.map EnD.norm)) : ChangeP most T outs ins 0 T' :=
  ⟨fun k => absurd h k, fun _ k => by omega, fun _ _ k => absurd (Apart.perm hP hS.apart) k, fun _ _ _ => rfl, fun k => absurd rfl k, fun _ => ⟨hS, hP⟩⟩
theorem enC_acts (e : EnL) : e.cells[2 + 18]? = some (.slice e.r.ad e.r.acts.length e.r.c) := ruC_acts e.r
theorem err_acts {x : EnL} (h : x.d.err = 0) : x.r.acts.length ≤ 64 := by
  unfold EnD.err RuD.err actErr at h
  split at h
  · split at h
    · split at h
      · cases h
      · rename_i k; have : x.d.r.acts.length = x.r.acts.length := rfl; omega
    · cases h
  · cases h
theorem Vec.some_of {s : Nat} {ad : Option Addr} {k c : Nat} {xs : List Value} {E : List Ent} (hV : Vec s ad k c xs E) (h : 0 < k) : ∃ g, ad = some ⟨g, 0, none⟩ := by
  rcases hV with ⟨_, h0, _⟩ | ⟨g, cs, rfl, _⟩
  · omega
  · exact ⟨g, rfl⟩
structure ChS where
  k : Nat
  ls : List EnL
  ad : Option Addr
  c : Nat
  E : List Ent
  K : List Ent
set_option maxHeartbeats 4000000 in
theorem Change_c (p : Nat → Prop) (w0 w : World) (L E K : List Ent) (g : Nat) (t : TbL) (oa : Option Addr) (oc : Nat) (outs : List Int) (ia : Option Addr) (ic : Nat) (ins : List EnL) (hp : ¬ p 0)
    (hG : GW w0) (hV : Vec 21 t.ad t.es.length t.c (ensL t.es) E) (hK : EnsOwn K t.es) (hS : St p w0 w (.row g t.cells :: (E ++ (K ++ L)))) (ho : ∀ w, St p w0 w L → Rg w oa (outs.map (Value.int .i64))) (hi : ∀ w, St p w0 w L → Rg w ia (ensL ins)) (hI : ∀ w, St p w0 w L → ∀ x ∈ ins, InOk w x)
    (hm : 0 ≤ t.most ∧ t.most ≤ 4096) (hT : Strict t.d) (hn : t.es.length ≤ 5000) (hon : outs.length ≤ 100000) (hin : ins.length < 20) :
    Calls Tryd.prog 9 #[.pointer (some ⟨g, 0, none⟩), .slice oa outs.length oc, .slice ia ins.length ic] w fun e w' => ∃ (code : Int) (t' : TbL) (E' K' : List Ent), e = .returned (.int .i64 code) ∧ t'.most = t.most ∧ ChangeP t.most t.d outs (ins.map EnL.d) code t'.d ∧
      Vec 21 t'.ad t'.es.length t'.c (ensL t'.es) E' ∧ EnsOwn K' t'.es ∧ St p w0 w' (.row g t'.cells :: (E' ++ (K' ++ L))) := by
  refine enter Tryd.func9 rfl Tryd.ntmps9 rfl hS ?_
  have htl : ∀ w, St p w0 w (.row g t.cells :: (E ++ (K ++ L))) → St p w0 w L := fun w h => h.sub (.cons _ (List.sublist_append_of_sublist_right (List.sublist_append_right _ _)))
  refine WC.seq ?_
  refine WC.region ?_
  refine WL.val (v_assign rfl rfl) (.none rfl) rfl rfl ?_
  refine WL.nil ?_
  refine WE.then_n ?_
  refine WC.seq ?_
  refine WC.seq ?_
  refine WC.region ?_
  refine WL.val (v_move rfl rfl) (.none rfl) rfl rfl ?_
  refine WL.val (v_eql_nil false rfl rfl Tryd.underlying34 rfl) (.none rfl) rfl rfl ?_
  refine WL.nil ?_
  refine WE.then_n ?_
  refine WC.cond_f rfl ?_
  refine WC.skip ?_
  refine WE.then_n ?_
  refine WC.seq ?_
  refine WC.seq ?_
  refine WC.region ?_
  refine WL.val (v_move rfl rfl) (.none rfl) rfl rfl ?_
  refine WL.val (v_len_slice rfl rfl Tryd.underlying22) (.none rfl) rfl rfl ?_
  refine WL.val (v_move rfl rfl) (.none rfl) rfl rfl ?_
  refine WL.nil ?_
  refine WE.then_n ?_
  refine WC.block ?_
  refine WC.loop (fun k : Nat => [(20, .int .i64 k), (19, .int .i64 ins.length), (18, .slice ia ins.length ic), (0, .pointer (some ⟨g, 0, none⟩)), (1, .slice oa outs.length oc), (2, .slice ia ins.length ic)]) (fun _ => .row g t.cells :: (E ++ (K ++ L))) (fun k => k ≤ ins.length ∧ ∀ i x, i < k → ins[i]? = some x → x.d.err = 0) (fun k => ins.length - k) 0 ⟨Nat.zero_le _, fun i x h => absurd h (by omega)⟩ (.cons rfl (.cons rfl (.cons rfl (.cons rfl (.cons rfl (.cons rfl .nil)))))) (.refl _) ?_
  rintro k ⟨hk, hok⟩
  refine WC.seq ?_
  refine WC.region ?_
  refine WL.test (v_lss rfl rfl rfl) (.none rfl) rfl rfl (fun h21 => ?_) (fun h21 => ?_)
  ·
   refine WL.nil ?_
   refine WE.then_n ?_
   refine WC.seq ?_
   refine WC.cond_t rfl ?_
   refine WC.skip ?_
   refine WE.then_n ?_
   refine WC.seq ?_
   refine WC.block ?_
   refine WC.seq ?_
   refine WC.region ?_
   obtain ⟨x, hx⟩ : ∃ x, ins[k]? = some x := ⟨ins[k]'(by omega), List.getElem?_eq_getElem _⟩
   obtain ⟨b1, o1, ea1, r1⟩ := hi w (htl _ hS) (by intro hh; have := ensL_len ins; rw [hh] at this; simp at this; omega)
   refine WL.val ((v_indexAddr (b := b1) (off := o1) (lo := k) rfl (by show some (Value.slice ia _ _) = _; rw [ea1]) rfl Tryd.underlying22 sz_48 rfl (by omega))) (.none rfl) rfl rfl ?_
   refine WL.val (v_loadN (cs := x.cells) rfl rfl many_48 (EnL.len x) (fun w hS => by
   obtain ⟨b2, o2, ea2, r2⟩ := hi w (htl _ hS) (by intro hh; have := ensL_len ins; rw [hh] at this; simp at this; omega)
   rw [ea1] at ea2; cases ea2
   exact Rg.seg EnL.len r2 hx)) (.none rfl) rfl rfl ?_
   refine WL.alloc rfl zero_48 (.none rfl) rfl rfl ?_
   intro g8 hg8
   refine WL.storeW rfl rfl rfl rfl many_48 rfl rfl (.none rfl) rfl ?_
   refine WL.nil ?_
   refine WE.then_n ?_
   refine WC.seq ?_
   refine WC.region ?_
   refine WL.val (v_loadN rfl rfl many_48 rfl allAt) (.none rfl) rfl rfl ?_
   refine WL.as (L' := .row g8 x.cells :: .row g t.cells :: (E ++ (K ++ L))) rfl ?_
   refine WL.call rfl rfl ck_16 (.none rfl) rfl rfl ?_
   intro w hS
   refine Calls.then ((EnCheck_c w x (hI w (htl _ hS.tail) x (List.mem_of_getElem? hx)).i (hI w (htl _ hS.tail) x (List.mem_of_getElem? hx)).rd (hG.keep hp hS))) hS ?_
   refine WL.val (v_assign rfl rfl) (.none rfl) rfl rfl ?_
   refine WL.nil ?_
   refine WE.then_n ?_
   refine WC.seq ?_
   refine WC.region ?_
   refine WL.val (v_move rfl rfl) (.none rfl) rfl rfl ?_
   refine WL.test (v_neq rfl rfl rfl) (.none rfl) rfl rfl (fun h27 => ?_) (fun h27 => ?_)
   ·
    refine WL.nil ?_
    refine WE.then_n ?_
    refine WC.cond_t rfl ?_
    refine WC.seq ?_
    refine WC.region ?_
    refine WL.val (v_move rfl rfl) (.none rfl) rfl rfl ?_
    refine WL.val (v_assign rfl rfl) (.none rfl) rfl rfl ?_
    refine WL.nil ?_
    refine WE.then_n ?_
    refine WC.ret ?_
    refine WE.block_ret ?_
    refine WE.then_ret ?_
    refine WE.then_ret ?_
    refine WE.block_ret ?_
    refine WE.then_ret ?_
    refine WE.ret1 (P := Tryd.prog) (.inl rfl) Tryd.results9 rfl ?_
    have he : errs EnD.err (ins.map EnL.d) = x.d.err := errs_at (k := k) (x := x.d) (fun i y hi2 hy => by
      rw [List.getElem?_map] at hy
      cases hq : ins[i]? with
      | none => rw [hq] at hy; cases hy
      | some z => rw [hq] at hy; cases hy; exact hok i z hi2 hq) (by rw [List.getElem?_map, hx]; rfl) h27
    exact fun w' h => ⟨_, t, E, K, rfl, rfl, by rw [← he]; exact chP_err (by rw [he]; exact h27), hV, hK, h.tail⟩
   ·
    refine WL.nil ?_
    refine WE.then_n ?_
    refine WC.cond_f rfl ?_
    refine WC.skip ?_
    refine WE.block_n ?_
    refine WE.then_n ?_
    refine WC.region ?_
    refine WL.val (v_add rfl rfl rfl (w_i64 (by omega) (by omega))) (.none rfl) rfl rfl ?_
    refine WL.val (v_move rfl rfl) (.none rfl) rfl rfl ?_
    refine WL.nil ?_
    exact WE.next (k + 1) (by omega) ⟨by omega, fun i y hi2 hy => by
    by_cases e : i = k
    · subst e; rw [hx] at hy; cases hy; exact Classical.not_not.1 h27
    · exact hok i y (by omega) hy⟩ (.int rfl (by omega) (.cons rfl (.cons rfl (.cons rfl (.cons rfl (.cons rfl .nil)))))) (.cons _ (.refl _))
  ·
   refine WL.nil ?_
   refine WE.then_n ?_
   refine WC.seq ?_
   refine WC.cond_f rfl ?_
   refine WC.exit ?_
   refine WE.then_exit ?_
   refine WE.then_exit ?_
   refine WE.block_hit ?_
   refine WE.then_n ?_
   refine WC.seq ?_
   refine WC.region ?_
   refine WL.val (v_move rfl rfl) (.none rfl) rfl rfl ?_
   refine WL.val (v_move rfl rfl) (.none rfl) rfl rfl ?_
   have hno : errs EnD.err (ins.map EnL.d) = 0 := errs_none fun i y hi2 hy => (by
     rw [List.getElem?_map] at hy
     cases hq : ins[i]? with
     | none => rw [hq] at hy; cases hy
     | some z => rw [hq] at hy; cases hy; exact hok i z (by have := (List.getElem?_eq_some_iff.1 hq).1; omega) hq)
   have hfl : (t.es.filter (keepE outs)).length ≤ t.es.length := List.length_filter_le _ _
   have hld : (leftD t.d outs).length = (t.es.filter (keepE outs)).length := (by unfold TbL.d; rw [← filter_d, List.length_map])
   refine WL.call rfl rfl ck_17 (.none rfl) rfl rfl ?_
   intro w1 hS
   refine (Without_c w1 g t oa oc outs (hS.cell rfl) (hV.rg fun e he => hS.holds e (by simp [he])) (ho w1 (htl _ hS)) (by omega) hon).mono ?_
   rintro e w' ⟨ad2, c2, E2, rfl, hV2, hS'⟩
   refine ⟨_, _, rfl, hS.join hS', ?_⟩
   have hsrt2 : (t.es.filter (keepE outs)).Pairwise fun a b => ordE a.d b.d ≤ 0 := (by
     have h := List.pairwise_map.1 hT
     exact (h.filter _).imp fun k => by omega)
   have hrS2 : ∀ w, St p w0 w (E2 ++ (.row g t.cells :: (E ++ (K ++ L)))) → St p w0 w L := fun w h => htl _ (h.sub (List.sublist_append_right _ _))
   generalize hls2 : t.es.filter (keepE outs) = ls2 at hV2 hsrt2 hfl hld ⊢
   refine WL.val (v_assign rfl rfl) (.none rfl) rfl rfl ?_
   refine WL.nil ?_
   refine WE.then_n ?_
   refine WC.seq ?_
   refine WC.seq ?_
   refine WC.region ?_
   refine WL.val (v_move rfl rfl) (.none rfl) rfl rfl ?_
   refine WL.val (v_len_slice rfl rfl Tryd.underlying22) (.none rfl) rfl rfl ?_
   refine WL.val (v_move rfl rfl) (.none rfl) rfl rfl ?_
   refine WL.val (v_nilCheck rfl rfl) (.none rfl) rfl rfl ?_
   refine WL.val (v_fieldAddr0 rfl rfl fld_60_0) (.none rfl) rfl rfl ?_
   refine WL.val (v_load1 rfl rfl one_3 (cellAt (v := .int .i64 t.most) rfl)) (.none rfl) rfl rfl ?_
   refine WL.val (v_move rfl rfl) (.none rfl) rfl rfl ?_
   refine WL.val (v_len_slice rfl rfl Tryd.underlying22) (.none rfl) rfl rfl ?_
   refine WL.val (v_sub rfl rfl rfl (w_i64 (by omega) (by omega))) (.none rfl) rfl rfl ?_
   refine WL.test (v_gtr rfl rfl rfl) (.none rfl) rfl rfl (fun h42 => ?_) (fun h42 => ?_)
   ·
    refine WL.nil ?_
    refine WE.then_n ?_
    refine WC.cond_t rfl ?_
    refine WC.seq ?_
    refine WC.region ?_
    refine WL.val (v_assign rfl rfl) (.none rfl) rfl rfl ?_
    refine WL.nil ?_
    refine WE.then_n ?_
    refine WC.ret ?_
    refine WE.then_ret ?_
    refine WE.ret1 (P := Tryd.prog) (.inl rfl) Tryd.results9 rfl ?_
    exact fun w' h => ⟨_, t, E, K, rfl, rfl, chP_full hno (by rw [hld, List.length_map]; omega), hV, hK, h.sub (List.sublist_append_right _ _)⟩
   ·
    refine WL.nil ?_
    refine WE.then_n ?_
    refine WC.cond_f rfl ?_
    refine WC.skip ?_
    refine WE.then_n ?_
    refine WC.seq ?_
    refine WC.region ?_
    refine WL.val (v_move rfl rfl) (.none rfl) rfl rfl ?_
    refine WL.val (v_len_slice rfl rfl Tryd.underlying22) (.none rfl) rfl rfl ?_
    refine WL.makeN (m := 0) (c := ins.length) rfl rfl rfl (by omega) (by omega) (by omega) Tryd.underlying22 by_48 (by omega) (by omega) sz_48 zero_48 rfl (.none rfl) rfl rfl ?_
    intro g45 hg45
    generalize hZ : List.flatten _ = Z
    have hV0 : Vec 21 (some ⟨g45, 0, none⟩) 0 ins.length [] [.row g45 Z] := (by rw [← hZ]; exact Vec.made rfl)
    refine WL.val (v_assign rfl rfl) (.none rfl) rfl rfl ?_
    refine WL.nil ?_
    refine WE.then_n ?_
    refine WC.seq ?_
    refine WC.seq ?_
    refine WC.region ?_
    refine WL.val (v_move rfl rfl) (.none rfl) rfl rfl ?_
    refine WL.val (v_len_slice rfl rfl Tryd.underlying22) (.none rfl) rfl rfl ?_
    refine WL.val (v_move rfl rfl) (.none rfl) rfl rfl ?_
    refine WL.nil ?_
    refine WE.then_n ?_
    refine WC.block ?_
    refine WC.loop (fun x : ChS => [(48, .int .i64 x.k), (47, .int .i64 ins.length), (46, .slice ia ins.length ic), (11, .slice x.ad x.ls.length x.c), (10, .slice ad2 ls2.length c2), (0, .pointer (some ⟨g, 0, none⟩))]) (fun x => x.E ++ (x.K ++ (E2 ++ (.row g t.cells :: (E ++ (K ++ L)))))) (fun x => x.k ≤ ins.length ∧ x.ls.length = x.k ∧ (∃ q, x.ad = some ⟨q, 0, none⟩) ∧ Vec 21 x.ad x.ls.length x.c (ensL x.ls) x.E ∧ x.ls.map EnL.d = ((ins.take x.k).map EnL.d).map EnD.norm ∧ EnsOwn x.K x.ls) (fun x => ins.length - x.k) ⟨0, [], some ⟨g45, 0, none⟩, ins.length, [.row g45 Z], []⟩ ⟨Nat.zero_le _, rfl, ⟨_, rfl⟩, hV0, rfl, fun e he => by cases he⟩ (.cons rfl (.cons rfl (.cons rfl (.cons rfl (.cons rfl (.cons rfl .nil)))))) (.refl _) ?_
    rintro ⟨k, ls, ad, c, Ex, Kx⟩ ⟨hk, hlk, had, hVx, hds, hKx⟩
    dsimp only at hk hlk had hVx hds hKx
    dsimp only
    refine WC.seq ?_
    refine WC.region ?_
    refine WL.test (v_lss rfl rfl rfl) (.none rfl) rfl rfl (fun h49 => ?_) (fun h49 => ?_)
    ·
     refine WL.nil ?_
     refine WE.then_n ?_
     refine WC.seq ?_
     refine WC.cond_t rfl ?_
     refine WC.skip ?_
     refine WE.then_n ?_
     refine WC.seq ?_
     refine WC.block ?_
     refine WC.seq ?_
     refine WC.region ?_
     have htl2 : ∀ w, St p w0 w (Ex ++ (Kx ++ (E2 ++ (.row g t.cells :: (E ++ (K ++ L)))))) → St p w0 w L := fun w h => hrS2 w (h.sub (List.sublist_append_of_sublist_right (List.sublist_append_right _ _)))
     obtain ⟨x, hx⟩ : ∃ x, ins[k]? = some x := ⟨ins[k]'(by omega), List.getElem?_eq_getElem _⟩
     have hxm := List.mem_of_getElem? hx
     have hx64 := err_acts (hok k x (by omega) hx)
     obtain ⟨b1, o1, ea1, r1⟩ := hi _ (htl _ hS) (by intro hh; have := ensL_len ins; rw [hh] at this; simp at this; omega)
     refine WL.val ((v_indexAddr (b := b1) (off := o1) (lo := k) rfl (by show some (Value.slice ia _ _) = _; rw [ea1]) rfl Tryd.underlying22 sz_48 rfl (by omega))) (.none rfl) rfl rfl ?_
     refine WL.val (v_loadN (cs := x.cells) rfl rfl many_48 (EnL.len x) (fun w hS => by
     obtain ⟨b2, o2, ea2, r2⟩ := hi w (htl2 _ hS) (by intro hh; have := ensL_len ins; rw [hh] at this; simp at this; omega)
     rw [ea1] at ea2; cases ea2
     exact Rg.seg EnL.len r2 hx)) (.none rfl) rfl rfl ?_
     refine WL.alloc rfl zero_48 (.none rfl) rfl rfl ?_
     intro g13 hg13
     refine WL.storeW rfl rfl rfl rfl many_48 rfl rfl (.none rfl) rfl ?_
     refine WL.as (L' := .row g13 x.cells :: (Ex ++ (Kx ++ (E2 ++ (.row g t.cells :: (E ++ (K ++ L))))))) rfl ?_
     refine WL.nil ?_
     refine WE.then_n ?_
     refine WC.seq ?_
     refine WC.region ?_
     refine WL.val (v_fieldAddr0 rfl rfl fld_48_2) (.none rfl) rfl rfl ?_
     refine WL.val (v_fieldAddr rfl rfl fld_46_1) (.none rfl) rfl rfl ?_
     refine WL.val (v_load1 rfl rfl one_44 (cellAt (enC_acts x))) (.none rfl) rfl rfl ?_
     refine WL.call rfl rfl ck_18 (.none rfl) rfl rfl ?_
     intro w1 hS
     have hxi := hI w1 (htl2 _ hS.tail) x hxm
     refine (Norm_c w1 x.r.ad x.r.c x.r.acts hxi.rd (fun a ha => (hxi.i.r.act a ha).2) (by omega)).mono ?_
     have hxnz : ∀ a ∈ x.r.acts, a.Nz := fun a ha => (hxi.i.r.act a ha).2
     rintro e w' ⟨ad3, c3, E3, ys, rfl, hN, hle, hV3, hS'⟩
     refine ⟨_, _, rfl, hS.join hS', ?_⟩
     refine WL.val (v_fieldAddr0 rfl rfl fld_48_2) (.none rfl) rfl rfl ?_
     refine WL.val (v_fieldAddr rfl rfl fld_46_1) (.none rfl) rfl rfl ?_
     refine WL.store1 rfl rfl rfl rfl one_44 (by show 2 + 18 < x.cells.length; rw [EnL.len]; omega) (.none rfl) rfl ?_
     refine WL.as (L' := E3 ++ (.row g13 (EnL.cells ⟨x.prio, x.mark, ⟨x.r.m, ad3, c3, ys⟩⟩) :: (Ex ++ (Kx ++ (E2 ++ (.row g t.cells :: (E ++ (K ++ L)))))))) rfl ?_
     obtain ⟨y, hy⟩ : ∃ y : EnL, y = ⟨x.prio, x.mark, ⟨x.r.m, ad3, c3, ys⟩⟩ := ⟨_, rfl⟩
     rw [← hy]
     refine WL.nil ?_
     refine WE.then_n ?_
     refine WC.region ?_
     refine WL.val (v_move rfl rfl) (.none rfl) rfl rfl ?_
     refine WL.val (v_loadN rfl rfl many_48 rfl allAt) (.none rfl) rfl rfl ?_
     refine WL.buildSlice rfl rfl Tryd.underlying22 sz_48 zero_48 rfl (by decide) (by show some (splice (List.replicate 1 _).flatten 0 y.cells) = some y.cells; rw [splice_all (by rw [EnL.len]; rfl)]) (.none rfl) rfl rfl ?_
     intro g60 hg60
     refine WL.to (L' := Ex ++ (.row g60 y.cells :: (E3 ++ (Kx ++ (E2 ++ (.row g t.cells :: (E ++ (K ++ L)))))))) (fun w hS => hS.dropX [.row g13 y.cells]) ?_
     refine WL.appendL rfl rfl rfl Tryd.underlying22 Tryd.underlying22 sz_48 by_48 zero_48 rfl rfl hVx (new := y.cells) (fun _ => ⟨g60, 0, rfl, fun w hS => allAt (g := g60) w hS⟩) (EnL.len y) (encL_one1 enL_one y) (by omega) (.none rfl) rfl rfl ?_
     intro ad61 c61 E61 hV61 hr61
     refine WL.val (v_assign rfl rfl) (.none rfl) rfl rfl ?_
     refine WL.nil ?_
     refine WE.block_n ?_
     refine WE.then_n ?_
     refine WC.region ?_
     refine WL.val (v_add rfl rfl rfl (w_i64 (by omega) (by omega))) (.none rfl) rfl rfl ?_
     refine WL.val (v_move rfl rfl) (.none rfl) rfl rfl ?_
     refine WL.nil ?_
     refine WE.next ⟨k + 1, ls ++ [y], ad61, c61, E61, E3 ++ Kx⟩ (by dsimp only; omega) ⟨by dsimp only; omega, by dsimp only; rw [List.length_append]; show ls.length + 1 = _; omega, hV61.some_of (by omega), by dsimp only; rw [List.length_append, show ensL (ls ++ [y]) = ensL ls ++ y.cells from encL_snoc _ _ _]; exact hV61, ?_, ?_⟩ (.int rfl (by dsimp only; omega) (.cons rfl (.cons rfl (.eq rfl (by dsimp only; rw [List.length_append]; rfl) (.cons rfl (.cons rfl .nil)))))) (by dsimp only; rw [List.append_assoc]; exact List.Sublist.append_left (.cons _ (.refl _)) _)
     · dsimp only
       rw [List.take_add_one, hx, Option.toList_some, List.map_append, List.map_append, List.map_append, hds, hy]
       exact congrArg (_ ++ ·) (congrArg (fun z => [z]) (ens_d_norm hxnz hN))
     · intro e he
       rcases List.mem_append.1 he with he | he
       · exact (hKx e he).sub fun z hz => List.mem_append_right _ hz
       · rw [List.mem_singleton.1 he, hy]
         exact ⟨E3, hV3, fun z hz => List.mem_append_left _ hz⟩
    ·
     refine WL.nil ?_
     refine WE.then_n ?_
     refine WC.seq ?_
     refine WC.cond_f rfl ?_
     refine WC.exit ?_
     refine WE.then_exit ?_
     refine WE.then_exit ?_
     refine WE.block_hit ?_
     refine WE.then_n ?_
     refine WC.seq ?_
     refine WC.region ?_
     refine WL.val (v_move rfl rfl) (.none rfl) rfl rfl ?_
     obtain ⟨gq, rfl⟩ := had
     obtain rfl : k = ins.length := (by omega)
     rw [List.take_length] at hds
     refine WL.call rfl rfl ck_19 (.none rfl) rfl rfl ?_
     intro w1 hS
     refine (Stable_c p w0 w1 (Kx ++ (E2 ++ (.row g t.cells :: (E ++ (K ++ L))))) Ex gq c ls hVx hS (by omega)).mono ?_
     rintro e w' ⟨rfl, ys, Ey, hpy, hsy, hVy, hS'⟩
     rw [← hpy.length_eq]
     refine ⟨_, _, rfl, hS', ?_⟩
     refine WL.nil ?_
     refine WE.then_n ?_
     refine WC.seq ?_
     refine WC.region ?_
     refine WL.val (v_move rfl rfl) (.none rfl) rfl rfl ?_
     refine WL.val (v_move rfl rfl) (.none rfl) rfl rfl ?_
     refine WL.call rfl rfl ck_21 (.none rfl) rfl rfl ?_
     intro w1 hS
     refine (Merge_c w1 ls2 ys ad2 (some ⟨gq, 0, none⟩) c2 c (hV2.rg fun e he => hS.holds e (by simp [he])) (hVy.rg fun e he => hS.holds e (by simp [he])) hV2.len.2 hVy.len.2 (by rw [hpy.length_eq]; omega)).mono ?_
     rintro e w' ⟨ad4, c4, E4, rfl, hV4, hS'⟩
     refine ⟨_, _, rfl, hS.join hS', ?_⟩
     have hsS := mergeL_sorted ls2 ys hsrt2 hsy
     have hpS := (mergeL_perm ls2 ys).trans (List.Perm.append_left ls2 hpy)
     have hSl : (mergeL ls2 ys).length ≤ 6000 := (by rw [hpS.length_eq, List.length_append]; omega)
     generalize mergeL ls2 ys = S at hV4 hsS hpS hSl ⊢
     refine WL.val (v_assign rfl rfl) (.none rfl) rfl rfl ?_
     refine WL.nil ?_
     refine WE.then_n ?_
     refine WC.seq ?_
     refine WC.seq ?_
     refine WC.region ?_
     refine WL.val (v_assign rfl rfl) (.none rfl) rfl rfl ?_
     refine WL.nil ?_
     refine WE.then_n ?_
     refine WC.block ?_
     refine WC.loop (fun i : Nat => [(15, .int .i64 i), (14, .slice ad4 S.length c4), (0, .pointer (some ⟨g, 0, none⟩))]) (fun _ => E4 ++ (Ey ++ (Kx ++ (E2 ++ (.row g t.cells :: (E ++ (K ++ L))))))) (fun i => 1 ≤ i ∧ ∀ j a b, j + 1 < i → S[j]? = some a → S[j + 1]? = some b → ordE a.d b.d ≠ 0) (fun i => S.length - i) 1 ⟨Nat.le_refl _, fun j a b h => absurd h (by omega)⟩ (.cons rfl (.cons rfl (.cons rfl .nil))) (.refl _) ?_
     rintro i ⟨hi1, hnb⟩
     refine WC.seq ?_
     refine WC.seq ?_
     refine WC.region ?_
     refine WL.val (v_move rfl rfl) (.none rfl) rfl rfl ?_
     refine WL.val (v_move rfl rfl) (.none rfl) rfl rfl ?_
     refine WL.val (v_len_slice rfl rfl Tryd.underlying22) (.none rfl) rfl rfl ?_
     refine WL.test (v_lss rfl rfl rfl) (.none rfl) rfl rfl (fun h71 => ?_) (fun h71 => ?_)
     ·
      refine WL.nil ?_
      refine WE.then_n ?_
      refine WC.cond_t rfl ?_
      refine WC.skip ?_
      refine WE.then_n ?_
      refine WC.seq ?_
      refine WC.block ?_
      refine WC.seq ?_
      refine WC.quiet mixed (by kernel_rfl) ?_
      refine WQ.val (v_move rfl rfl) (.none rfl) rfl rfl ?_
      refine WQ.val (v_move rfl rfl) (.none rfl) rfl rfl ?_
      refine WQ.val (v_sub rfl rfl rfl (w_i64 (by omega) (by omega))) (.none rfl) rfl rfl ?_
      obtain ⟨j, rfl⟩ : ∃ j, i = j + 1 := ⟨i - 1, by omega⟩
      obtain ⟨xa, hxa⟩ : ∃ x, S[j]? = some x := ⟨S[j]'(by omega), List.getElem?_eq_getElem _⟩
      obtain ⟨xb, hxb⟩ : ∃ x, S[j + 1]? = some x := ⟨S[j + 1]'(by omega), List.getElem?_eq_getElem _⟩
      obtain ⟨g4, ea4⟩ := hV4.some_of (by omega)
      have hrd : ∀ (j : Nat) (x : EnL), S[j]? = some x → ∀ w, St p w0 w (E4 ++ (Ey ++ (Kx ++ (E2 ++ (.row g t.cells :: (E ++ (K ++ L))))))) → w.rangeAt g4 (0 + j * 21) x.cells := (by
        intro j x hx w hS
        obtain ⟨b5, o5, ea5, r5⟩ := hV4.rg (w := w) (fun e he => hS.holds e (by simp [he])) (by intro hh; have := ensL_len S; rw [hh] at this; simp at this; omega)
        rw [ea4] at ea5; cases ea5
        exact Rg.seg EnL.len r5 hx)
      refine WQ.val ((v_indexAddr (b := g4) (off := 0) (lo := j) rfl (by show some (Value.slice ad4 _ _) = _; rw [ea4]) rfl Tryd.underlying22 sz_48 (by omega) (by omega))) (.none rfl) rfl rfl ?_
      refine WQ.val (v_loadN (cs := xa.cells) rfl rfl many_48 (EnL.len xa) (hrd j xa hxa)) (.none rfl) rfl rfl ?_
      refine WQ.val (v_move rfl rfl) (.none rfl) rfl rfl ?_
      refine WQ.val (v_move rfl rfl) (.none rfl) rfl rfl ?_
      refine WQ.val ((v_indexAddr (b := g4) (off := 0) (lo := j + 1) rfl (by show some (Value.slice ad4 _ _) = _; rw [ea4]) rfl Tryd.underlying22 sz_48 rfl (by omega))) (.none rfl) rfl rfl ?_
      refine WQ.val (v_loadN (cs := xb.cells) rfl rfl many_48 (EnL.len xb) (hrd (j + 1) xb hxb)) (.none rfl) rfl rfl ?_
      refine WQ.call _ rfl rfl ck_20 (.none rfl) rfl rfl (fun w hS => Calls.still (order_c w xa xb) hS) ?_
      refine WQ.test (v_eql rfl rfl rfl) (.none rfl) rfl rfl (fun h84 => ?_) (fun h84 => ?_)
      ·
       refine WQ.nil ?_
       refine WE.then_n ?_
       refine WC.cond_t rfl ?_
       refine WC.seq ?_
       refine WC.region ?_
       refine WL.val (v_assign rfl rfl) (.none rfl) rfl rfl ?_
       refine WL.nil ?_
       refine WE.then_n ?_
       refine WC.ret ?_
       refine WE.block_ret ?_
       refine WE.then_ret ?_
       refine WE.then_ret ?_
       refine WE.block_ret ?_
       refine WE.then_ret ?_
       refine WE.ret1 (P := Tryd.prog) (.inl rfl) Tryd.results9 rfl ?_
       have hroom : ((ins.map EnL.d).length : Int) ≤ t.most - (leftD t.d outs).length := (by rw [hld, List.length_map]; omega)
       have hpd : (S.map EnL.d).Perm (leftD t.d outs ++ (ins.map EnL.d).map EnD.norm) := (by
         have := hpS.map EnL.d
         rw [List.map_append, hds, ← hls2, filter_d] at this; exact this)
       refine fun w' h => ⟨_, t, E, K, rfl, rfl, chP_dup hno hroom (fun hA => ?_), hV, hK, h.dropX (E4 ++ (Ey ++ (Kx ++ E2)))⟩
       have hA' := List.pairwise_iff_getElem.1 (Apart.perm hpd.symm hA)
       have la := (List.getElem?_eq_some_iff.1 hxa)
       have lb := (List.getElem?_eq_some_iff.1 hxb)
       have := hA' j (j + 1) (by rw [List.length_map]; omega) (by rw [List.length_map]; omega) (by omega)
       rw [List.getElem_map, List.getElem_map, la.2, lb.2] at this
       exact this h84
      ·
       refine WQ.nil ?_
       refine WE.then_n ?_
       refine WC.cond_f rfl ?_
       refine WC.skip ?_
       refine WE.block_n ?_
       refine WE.then_n ?_
       refine WC.region ?_
       refine WL.val (v_move rfl rfl) (.none rfl) rfl rfl ?_
       refine WL.val (v_add rfl rfl rfl (w_i64 (by omega) (by omega))) (.none rfl) rfl rfl ?_
       refine WL.val (v_assign rfl rfl) (.none rfl) rfl rfl ?_
       refine WL.nil ?_
       exact WE.next (j + 2) (by omega) ⟨by omega, fun q a b hq ha hb => by
       by_cases e : q = j
       · subst e; rw [hxa] at ha; rw [hxb] at hb; cases ha; cases hb; exact h84
       · exact hnb q a b (by omega) ha hb⟩ (.int rfl (by omega) (.cons rfl (.cons rfl .nil))) (.refl _)
     ·
      refine WL.nil ?_
      refine WE.then_n ?_
      refine WC.cond_f rfl ?_
      refine WC.exit ?_
      refine WE.then_exit ?_
      refine WE.then_exit ?_
      refine WE.block_hit ?_
      refine WE.then_n ?_
      refine WC.seq ?_
      refine WC.region ?_
      refine WL.val (v_move rfl rfl) (.none rfl) rfl rfl ?_
      refine WL.val (v_move rfl rfl) (.none rfl) rfl rfl ?_
      refine WL.val (v_nilCheck rfl rfl) (.none rfl) rfl rfl ?_
      refine WL.val (v_fieldAddr0 rfl rfl fld_60_1) (.none rfl) rfl rfl ?_
      refine WL.store1 rfl rfl rfl rfl one_22 (Nat.le_of_ble_eq_true rfl) (.none rfl) rfl ?_
      refine WL.as (L' := E4 ++ (Ey ++ (Kx ++ (E2 ++ (.row g (TbL.cells ⟨t.most, ad4, c4, S⟩) :: (E ++ (K ++ L))))))) rfl ?_
      refine WL.nil ?_
      refine WE.then_n ?_
      refine WC.seq ?_
      refine WC.region ?_
      refine WL.val (v_assign rfl rfl) (.none rfl) rfl rfl ?_
      refine WL.nil ?_
      refine WE.then_n ?_
      refine WC.ret ?_
      refine WE.ret1 (P := Tryd.prog) (.inl rfl) Tryd.results9 rfl ?_
      have hroom : ((ins.map EnL.d).length : Int) ≤ t.most - (leftD t.d outs).length := (by rw [hld, List.length_map]; omega)
      have hpd : (S.map EnL.d).Perm (leftD t.d outs ++ (ins.map EnL.d).map EnD.norm) := (by
        have := hpS.map EnL.d
        rw [List.map_append, hds, ← hls2, filter_d] at this; exact this)
      have hstr := strict_nb S hsS fun q a b ha hb => hnb q a b (by have := (List.getElem?_eq_some_iff.1 hb).1; omega) ha hb
      refine fun w' h => ⟨0, ⟨t.most, ad4, c4, S⟩, E4, Kx ++ K, rfl, rfl, chP_ok hno hroom (List.pairwise_map.2 hstr) hpd, hV4, fun e he => ?_, h.dropX (Ey ++ (E2 ++ E))⟩
      rcases List.mem_append.1 (hpS.mem_iff.1 he) with he | he
      · rw [← hls2] at he
        exact (hK e (List.mem_filter.1 he).1).sub fun z hz => List.mem_append_right _ hz
      · exact (hKx e he).sub fun z hz => List.mem_append_left _ hz
end Go.Proofs.YtkeonnnhogaggaaDoor
/- table.Change with up to 64 entries whose Prio goes up. (Printed by gen/tbr.py.) -/
namespace Go.Proofs.YtkeonnnhogaggaaDoor
open Go.RowKit Go.Sort

theorem ramp_of {ls ins : List EnL} (h : ls.map EnL.d = (ins.map EnL.d).map EnD.norm) (hr : Ramp ins) : Ramp ls := fun k x hx => by
  have e := congrArg (fun l => l[k]?) h
  rw [List.map_map] at e
  rw [List.getElem?_map, List.getElem?_map, hx] at e
  cases hq : ins[k]? with
  | none => rw [hq] at e; cases e
  | some y =>
    rw [hq] at e
    injection e with e
    have e : x.d = y.d.norm := e
    have : x.d.prio = y.d.norm.prio := congrArg EnD.prio e
    exact this.trans (hr k y hq)
theorem StableR_c (p : Nat → Prop) (w0 w : World) (L E : List Ent) (g c : Nat) (xs : List EnL) (hV : Vec 21 (some ⟨g, 0, none⟩) xs.length c (ensL xs) E) (hS : St p w0 w (E ++ L)) (hn : xs.length < 20 ∨ (xs.length ≤ 64 ∧ Ramp xs)) :
    Calls Tryd.prog 19 #[.slice (some ⟨g, 0, none⟩) xs.length c, .func (.func 20) #[] #[]] w fun e w' =>
      e = .returned (.tuple #[]) ∧ ∃ ys E', ys.Perm xs ∧ (ys.Pairwise fun a b => ordE a.d b.d ≤ 0) ∧ Vec 21 (some ⟨g, 0, none⟩) ys.length c (ensL ys) E' ∧ St p w0 w' (E' ++ L) := by
  by_cases h20 : xs.length < 20
  · exact Stable_c p w0 w L E g c xs hV hS h20
  obtain ⟨hn, hr⟩ := hn.resolve_left h20
  obtain ⟨d, hd⟩ : ∃ x, xs[0]? = some x := ⟨xs[0]'(by omega), List.getElem?_eq_getElem _⟩
  obtain ⟨g1, R, ea, eE, hlen, hxc⟩ := Vec.split (enc := EnL.cells) hV (fun h => by rw [h] at h20; exact h20 (by show 0 < 20; omega))
  have e1 : g = g1 := congrArg Addr.block (Option.some.inj ea)
  subst e1
  subst eE
  have ht := tab_of xs d
  have hf : ∀ k, k < xs.length → (xs.getD k d).prio = (k : Int) := fun k hk => hr k _ (by rw [List.getD_eq_getElem?_getD, List.getElem?_eq_getElem hk]; rfl)
  have hS : St p w0 w (tabE g xs.length R (fun k => xs.getD k d) :: L) := by show St p w0 w (.row g (encL EnL.cells (tab (fun k => xs.getD k d) xs.length) ++ R) :: L); rw [ht]; exact hS
  refine enter Tryd.func19 rfl Tryd.ntmps19 rfl hS ?_
  refine WC.region ?_
  refine WL.val (v_move rfl rfl) (.none rfl) rfl rfl ?_
  refine WL.val (v_move rfl rfl) (.none rfl) rfl rfl ?_
  refine WL.val (v_len_slice rfl rfl Tryd.underlying22) (.none rfl) rfl rfl ?_
  refine WL.val (v_move rfl rfl) (.none rfl) rfl rfl ?_
  refine WL.call rfl rfl ck_31 (.none rfl) rfl rfl ?_
  intro w1 hS
  refine (stableR_c p w0 w1 L g c xs.length R _ hn hf hS).mono ?_
  rintro e w' ⟨rfl, f', R', hp, hs, hR, hS'⟩
  refine ⟨_, _, rfl, hS', ?_⟩
  refine WL.nil ?_
  refine WE.ret0 (P := Tryd.prog) (.inr rfl) Tryd.results19  ?_
  exact fun w' h => ⟨rfl, tab f' xs.length, [tabE g xs.length R' f'], by rw [ht] at hp; exact hp, List.pairwise_iff_getElem.2 fun i j hi hj hij => (by
  rw [tab_len] at hi hj
  have g1 := tab_get (f := f') hi
  have g2 := tab_get (f := f') hj
  rw [List.getElem?_eq_getElem (by rw [tab_len]; exact hi)] at g1
  rw [List.getElem?_eq_getElem (by rw [tab_len]; exact hj)] at g2
  rw [Option.some.inj g1, Option.some.inj g2]
  exact hs i j hij hj), by
  rw [tab_len]
  exact Vec.row (by rw [encL_take EnL.len _ _ R' (by rw [tab_len]; exact Nat.le_refl _), List.take_of_length_le (by rw [tab_len]; exact Nat.le_refl _)]) (by rw [← hlen, List.length_append, List.length_append, encL_len EnL.len, encL_len EnL.len, tab_len, hR]) hxc, h⟩
set_option maxHeartbeats 4000000 in
theorem ChangeR_c (p : Nat → Prop) (w0 w : World) (L E K : List Ent) (g : Nat) (t : TbL) (oa : Option Addr) (oc : Nat) (outs : List Int) (ia : Option Addr) (ic : Nat) (ins : List EnL) (hp : ¬ p 0)
    (hG : GW w0) (hV : Vec 21 t.ad t.es.length t.c (ensL t.es) E) (hK : EnsOwn K t.es) (hS : St p w0 w (.row g t.cells :: (E ++ (K ++ L)))) (ho : ∀ w, St p w0 w L → Rg w oa (outs.map (Value.int .i64))) (hi : ∀ w, St p w0 w L → Rg w ia (ensL ins)) (hI : ∀ w, St p w0 w L → ∀ x ∈ ins, InOk w x)
    (hm : 0 ≤ t.most ∧ t.most ≤ 4096) (hT : Strict t.d) (hn : t.es.length ≤ 5000) (hon : outs.length ≤ 100000) (hinR : ins.length < 20 ∨ (ins.length ≤ 64 ∧ Ramp ins)) :
    Calls Tryd.prog 9 #[.pointer (some ⟨g, 0, none⟩), .slice oa outs.length oc, .slice ia ins.length ic] w fun e w' => ∃ (code : Int) (t' : TbL) (E' K' : List Ent), e = .returned (.int .i64 code) ∧ t'.most = t.most ∧ ChangeP t.most t.d outs (ins.map EnL.d) code t'.d ∧
      Vec 21 t'.ad t'.es.length t'.c (ensL t'.es) E' ∧ EnsOwn K' t'.es ∧ St p w0 w' (.row g t'.cells :: (E' ++ (K' ++ L))) := by
  have hin : ins.length ≤ 64 := by rcases hinR with h | ⟨h, _⟩ <;> omega
  refine enter Tryd.func9 rfl Tryd.ntmps9 rfl hS ?_
  have htl : ∀ w, St p w0 w (.row g t.cells :: (E ++ (K ++ L))) → St p w0 w L := fun w h => h.sub (.cons _ (List.sublist_append_of_sublist_right (List.sublist_append_right _ _)))
  refine WC.seq ?_
  refine WC.region ?_
  refine WL.val (v_assign rfl rfl) (.none rfl) rfl rfl ?_
  refine WL.nil ?_
  refine WE.then_n ?_
  refine WC.seq ?_
  refine WC.seq ?_
  refine WC.region ?_
  refine WL.val (v_move rfl rfl) (.none rfl) rfl rfl ?_
  refine WL.val (v_eql_nil false rfl rfl Tryd.underlying34 rfl) (.none rfl) rfl rfl ?_
  refine WL.nil ?_
  refine WE.then_n ?_
  refine WC.cond_f rfl ?_
  refine WC.skip ?_
  refine WE.then_n ?_
  refine WC.seq ?_
  refine WC.seq ?_
  refine WC.region ?_
  refine WL.val (v_move rfl rfl) (.none rfl) rfl rfl ?_
  refine WL.val (v_len_slice rfl rfl Tryd.underlying22) (.none rfl) rfl rfl ?_
  refine WL.val (v_move rfl rfl) (.none rfl) rfl rfl ?_
  refine WL.nil ?_
  refine WE.then_n ?_
  refine WC.block ?_
  refine WC.loop (fun k : Nat => [(20, .int .i64 k), (19, .int .i64 ins.length), (18, .slice ia ins.length ic), (0, .pointer (some ⟨g, 0, none⟩)), (1, .slice oa outs.length oc), (2, .slice ia ins.length ic)]) (fun _ => .row g t.cells :: (E ++ (K ++ L))) (fun k => k ≤ ins.length ∧ ∀ i x, i < k → ins[i]? = some x → x.d.err = 0) (fun k => ins.length - k) 0 ⟨Nat.zero_le _, fun i x h => absurd h (by omega)⟩ (.cons rfl (.cons rfl (.cons rfl (.cons rfl (.cons rfl (.cons rfl .nil)))))) (.refl _) ?_
  rintro k ⟨hk, hok⟩
  refine WC.seq ?_
  refine WC.region ?_
  refine WL.test (v_lss rfl rfl rfl) (.none rfl) rfl rfl (fun h21 => ?_) (fun h21 => ?_)
  ·
   refine WL.nil ?_
   refine WE.then_n ?_
   refine WC.seq ?_
   refine WC.cond_t rfl ?_
   refine WC.skip ?_
   refine WE.then_n ?_
   refine WC.seq ?_
   refine WC.block ?_
   refine WC.seq ?_
   refine WC.region ?_
   obtain ⟨x, hx⟩ : ∃ x, ins[k]? = some x := ⟨ins[k]'(by omega), List.getElem?_eq_getElem _⟩
   obtain ⟨b1, o1, ea1, r1⟩ := hi w (htl _ hS) (by intro hh; have := ensL_len ins; rw [hh] at this; simp at this; omega)
   refine WL.val ((v_indexAddr (b := b1) (off := o1) (lo := k) rfl (by show some (Value.slice ia _ _) = _; rw [ea1]) rfl Tryd.underlying22 sz_48 rfl (by omega))) (.none rfl) rfl rfl ?_
   refine WL.val (v_loadN (cs := x.cells) rfl rfl many_48 (EnL.len x) (fun w hS => by
   obtain ⟨b2, o2, ea2, r2⟩ := hi w (htl _ hS) (by intro hh; have := ensL_len ins; rw [hh] at this; simp at this; omega)
   rw [ea1] at ea2; cases ea2
   exact Rg.seg EnL.len r2 hx)) (.none rfl) rfl rfl ?_
   refine WL.alloc rfl zero_48 (.none rfl) rfl rfl ?_
   intro g8 hg8
   refine WL.storeW rfl rfl rfl rfl many_48 rfl rfl (.none rfl) rfl ?_
   refine WL.nil ?_
   refine WE.then_n ?_
   refine WC.seq ?_
   refine WC.region ?_
   refine WL.val (v_loadN rfl rfl many_48 rfl allAt) (.none rfl) rfl rfl ?_
   refine WL.as (L' := .row g8 x.cells :: .row g t.cells :: (E ++ (K ++ L))) rfl ?_
   refine WL.call rfl rfl ck_16 (.none rfl) rfl rfl ?_
   intro w hS
   refine Calls.then ((EnCheck_c w x (hI w (htl _ hS.tail) x (List.mem_of_getElem? hx)).i (hI w (htl _ hS.tail) x (List.mem_of_getElem? hx)).rd (hG.keep hp hS))) hS ?_
   refine WL.val (v_assign rfl rfl) (.none rfl) rfl rfl ?_
   refine WL.nil ?_
   refine WE.then_n ?_
   refine WC.seq ?_
   refine WC.region ?_
   refine WL.val (v_move rfl rfl) (.none rfl) rfl rfl ?_
   refine WL.test (v_neq rfl rfl rfl) (.none rfl) rfl rfl (fun h27 => ?_) (fun h27 => ?_)
   ·
    refine WL.nil ?_
    refine WE.then_n ?_
    refine WC.cond_t rfl ?_
    refine WC.seq ?_
    refine WC.region ?_
    refine WL.val (v_move rfl rfl) (.none rfl) rfl rfl ?_
    refine WL.val (v_assign rfl rfl) (.none rfl) rfl rfl ?_
    refine WL.nil ?_
    refine WE.then_n ?_
    refine WC.ret ?_
    refine WE.block_ret ?_
    refine WE.then_ret ?_
    refine WE.then_ret ?_
    refine WE.block_ret ?_
    refine WE.then_ret ?_
    refine WE.ret1 (P := Tryd.prog) (.inl rfl) Tryd.results9 rfl ?_
    have he : errs EnD.err (ins.map EnL.d) = x.d.err := errs_at (k := k) (x := x.d) (fun i y hi2 hy => by
      rw [List.getElem?_map] at hy
      cases hq : ins[i]? with
      | none => rw [hq] at hy; cases hy
      | some z => rw [hq] at hy; cases hy; exact hok i z hi2 hq) (by rw [List.getElem?_map, hx]; rfl) h27
    exact fun w' h => ⟨_, t, E, K, rfl, rfl, by rw [← he]; exact chP_err (by rw [he]; exact h27), hV, hK, h.tail⟩
   ·
    refine WL.nil ?_
    refine WE.then_n ?_
    refine WC.cond_f rfl ?_
    refine WC.skip ?_
    refine WE.block_n ?_
    refine WE.then_n ?_
    refine WC.region ?_
    refine WL.val (v_add rfl rfl rfl (w_i64 (by omega) (by omega))) (.none rfl) rfl rfl ?_
    refine WL.val (v_move rfl rfl) (.none rfl) rfl rfl ?_
    refine WL.nil ?_
    exact WE.next (k + 1) (by omega) ⟨by omega, fun i y hi2 hy => by
    by_cases e : i = k
    · subst e; rw [hx] at hy; cases hy; exact Classical.not_not.1 h27
    · exact hok i y (by omega) hy⟩ (.int rfl (by omega) (.cons rfl (.cons rfl (.cons rfl (.cons rfl (.cons rfl .nil)))))) (.cons _ (.refl _))
  ·
   refine WL.nil ?_
   refine WE.then_n ?_
   refine WC.seq ?_
   refine WC.cond_f rfl ?_
   refine WC.exit ?_
   refine WE.then_exit ?_
   refine WE.then_exit ?_
   refine WE.block_hit ?_
   refine WE.then_n ?_
   refine WC.seq ?_
   refine WC.region ?_
   refine WL.val (v_move rfl rfl) (.none rfl) rfl rfl ?_
   refine WL.val (v_move rfl rfl) (.none rfl) rfl rfl ?_
   have hno : errs EnD.err (ins.map EnL.d) = 0 := errs_none fun i y hi2 hy => (by
     rw [List.getElem?_map] at hy
     cases hq : ins[i]? with
     | none => rw [hq] at hy; cases hy
     | some z => rw [hq] at hy; cases hy; exact hok i z (by have := (List.getElem?_eq_some_iff.1 hq).1; omega) hq)
   have hfl : (t.es.filter (keepE outs)).length ≤ t.es.length := List.length_filter_le _ _
   have hld : (leftD t.d outs).length = (t.es.filter (keepE outs)).length := (by unfold TbL.d; rw [← filter_d, List.length_map])
   refine WL.call rfl rfl ck_17 (.none rfl) rfl rfl ?_
   intro w1 hS
   refine (Without_c w1 g t oa oc outs (hS.cell rfl) (hV.rg fun e he => hS.holds e (by simp [he])) (ho w1 (htl _ hS)) (by omega) hon).mono ?_
   rintro e w' ⟨ad2, c2, E2, rfl, hV2, hS'⟩
   refine ⟨_, _, rfl, hS.join hS', ?_⟩
   have hsrt2 : (t.es.filter (keepE outs)).Pairwise fun a b => ordE a.d b.d ≤ 0 := (by
     have h := List.pairwise_map.1 hT
     exact (h.filter _).imp fun k => by omega)
   have hrS2 : ∀ w, St p w0 w (E2 ++ (.row g t.cells :: (E ++ (K ++ L)))) → St p w0 w L := fun w h => htl _ (h.sub (List.sublist_append_right _ _))
   generalize hls2 : t.es.filter (keepE outs) = ls2 at hV2 hsrt2 hfl hld ⊢
   refine WL.val (v_assign rfl rfl) (.none rfl) rfl rfl ?_
   refine WL.nil ?_
   refine WE.then_n ?_
   refine WC.seq ?_
   refine WC.seq ?_
   refine WC.region ?_
   refine WL.val (v_move rfl rfl) (.none rfl) rfl rfl ?_
   refine WL.val (v_len_slice rfl rfl Tryd.underlying22) (.none rfl) rfl rfl ?_
   refine WL.val (v_move rfl rfl) (.none rfl) rfl rfl ?_
   refine WL.val (v_nilCheck rfl rfl) (.none rfl) rfl rfl ?_
   refine WL.val (v_fieldAddr0 rfl rfl fld_60_0) (.none rfl) rfl rfl ?_
   refine WL.val (v_load1 rfl rfl one_3 (cellAt (v := .int .i64 t.most) rfl)) (.none rfl) rfl rfl ?_
   refine WL.val (v_move rfl rfl) (.none rfl) rfl rfl ?_
   refine WL.val (v_len_slice rfl rfl Tryd.underlying22) (.none rfl) rfl rfl ?_
   refine WL.val (v_sub rfl rfl rfl (w_i64 (by omega) (by omega))) (.none rfl) rfl rfl ?_
   refine WL.test (v_gtr rfl rfl rfl) (.none rfl) rfl rfl (fun h42 => ?_) (fun h42 => ?_)
   ·
    refine WL.nil ?_
    refine WE.then_n ?_
    refine WC.cond_t rfl ?_
    refine WC.seq ?_
    refine WC.region ?_
    refine WL.val (v_assign rfl rfl) (.none rfl) rfl rfl ?_
    refine WL.nil ?_
    refine WE.then_n ?_
    refine WC.ret ?_
    refine WE.then_ret ?_
    refine WE.ret1 (P := Tryd.prog) (.inl rfl) Tryd.results9 rfl ?_
    exact fun w' h => ⟨_, t, E, K, rfl, rfl, chP_full hno (by rw [hld, List.length_map]; omega), hV, hK, h.sub (List.sublist_append_right _ _)⟩
   ·
    refine WL.nil ?_
    refine WE.then_n ?_
    refine WC.cond_f rfl ?_
    refine WC.skip ?_
    refine WE.then_n ?_
    refine WC.seq ?_
    refine WC.region ?_
    refine WL.val (v_move rfl rfl) (.none rfl) rfl rfl ?_
    refine WL.val (v_len_slice rfl rfl Tryd.underlying22) (.none rfl) rfl rfl ?_
    refine WL.makeN (m := 0) (c := ins.length) rfl rfl rfl (by omega) (by omega) (by omega) Tryd.underlying22 by_48 (by omega) (by omega) sz_48 zero_48 rfl (.none rfl) rfl rfl ?_
    intro g45 hg45
    generalize hZ : List.flatten _ = Z
    have hV0 : Vec 21 (some ⟨g45, 0, none⟩) 0 ins.length [] [.row g45 Z] := (by rw [← hZ]; exact Vec.made rfl)
    refine WL.val (v_assign rfl rfl) (.none rfl) rfl rfl ?_
    refine WL.nil ?_
    refine WE.then_n ?_
    refine WC.seq ?_
    refine WC.seq ?_
    refine WC.region ?_
    refine WL.val (v_move rfl rfl) (.none rfl) rfl rfl ?_
    refine WL.val (v_len_slice rfl rfl Tryd.underlying22) (.none rfl) rfl rfl ?_
    refine WL.val (v_move rfl rfl) (.none rfl) rfl rfl ?_
    refine WL.nil ?_
    refine WE.then_n ?_
    refine WC.block ?_
    refine WC.loop (fun x : ChS => [(48, .int .i64 x.k), (47, .int .i64 ins.length), (46, .slice ia ins.length ic), (11, .slice x.ad x.ls.length x.c), (10, .slice ad2 ls2.length c2), (0, .pointer (some ⟨g, 0, none⟩))]) (fun x => x.E ++ (x.K ++ (E2 ++ (.row g t.cells :: (E ++ (K ++ L)))))) (fun x => x.k ≤ ins.length ∧ x.ls.length = x.k ∧ (∃ q, x.ad = some ⟨q, 0, none⟩) ∧ Vec 21 x.ad x.ls.length x.c (ensL x.ls) x.E ∧ x.ls.map EnL.d = ((ins.take x.k).map EnL.d).map EnD.norm ∧ EnsOwn x.K x.ls) (fun x => ins.length - x.k) ⟨0, [], some ⟨g45, 0, none⟩, ins.length, [.row g45 Z], []⟩ ⟨Nat.zero_le _, rfl, ⟨_, rfl⟩, hV0, rfl, fun e he => by cases he⟩ (.cons rfl (.cons rfl (.cons rfl (.cons rfl (.cons rfl (.cons rfl .nil)))))) (.refl _) ?_
    rintro ⟨k, ls, ad, c, Ex, Kx⟩ ⟨hk, hlk, had, hVx, hds, hKx⟩
    dsimp only at hk hlk had hVx hds hKx
    dsimp only
    refine WC.seq ?_
    refine WC.region ?_
    refine WL.test (v_lss rfl rfl rfl) (.none rfl) rfl rfl (fun h49 => ?_) (fun h49 => ?_)
    ·
     refine WL.nil ?_
     refine WE.then_n ?_
     refine WC.seq ?_
     refine WC.cond_t rfl ?_
     refine WC.skip ?_
     refine WE.then_n ?_
     refine WC.seq ?_
     refine WC.block ?_
     refine WC.seq ?_
     refine WC.region ?_
     have htl2 : ∀ w, St p w0 w (Ex ++ (Kx ++ (E2 ++ (.row g t.cells :: (E ++ (K ++ L)))))) → St p w0 w L := fun w h => hrS2 w (h.sub (List.sublist_append_of_sublist_right (List.sublist_append_right _ _)))
     obtain ⟨x, hx⟩ : ∃ x, ins[k]? = some x := ⟨ins[k]'(by omega), List.getElem?_eq_getElem _⟩
     have hxm := List.mem_of_getElem? hx
     have hx64 := err_acts (hok k x (by omega) hx)
     obtain ⟨b1, o1, ea1, r1⟩ := hi _ (htl _ hS) (by intro hh; have := ensL_len ins; rw [hh] at this; simp at this; omega)
     refine WL.val ((v_indexAddr (b := b1) (off := o1) (lo := k) rfl (by show some (Value.slice ia _ _) = _; rw [ea1]) rfl Tryd.underlying22 sz_48 rfl (by omega))) (.none rfl) rfl rfl ?_
     refine WL.val (v_loadN (cs := x.cells) rfl rfl many_48 (EnL.len x) (fun w hS => by
     obtain ⟨b2, o2, ea2, r2⟩ := hi w (htl2 _ hS) (by intro hh; have := ensL_len ins; rw [hh] at this; simp at this; omega)
     rw [ea1] at ea2; cases ea2
     exact Rg.seg EnL.len r2 hx)) (.none rfl) rfl rfl ?_
     refine WL.alloc rfl zero_48 (.none rfl) rfl rfl ?_
     intro g13 hg13
     refine WL.storeW rfl rfl rfl rfl many_48 rfl rfl (.none rfl) rfl ?_
     refine WL.as (L' := .row g13 x.cells :: (Ex ++ (Kx ++ (E2 ++ (.row g t.cells :: (E ++ (K ++ L))))))) rfl ?_
     refine WL.nil ?_
     refine WE.then_n ?_
     refine WC.seq ?_
     refine WC.region ?_
     refine WL.val (v_fieldAddr0 rfl rfl fld_48_2) (.none rfl) rfl rfl ?_
     refine WL.val (v_fieldAddr rfl rfl fld_46_1) (.none rfl) rfl rfl ?_
     refine WL.val (v_load1 rfl rfl one_44 (cellAt (enC_acts x))) (.none rfl) rfl rfl ?_
     refine WL.call rfl rfl ck_18 (.none rfl) rfl rfl ?_
     intro w1 hS
     have hxi := hI w1 (htl2 _ hS.tail) x hxm
     refine (Norm_c w1 x.r.ad x.r.c x.r.acts hxi.rd (fun a ha => (hxi.i.r.act a ha).2) (by omega)).mono ?_
     have hxnz : ∀ a ∈ x.r.acts, a.Nz := fun a ha => (hxi.i.r.act a ha).2
     rintro e w' ⟨ad3, c3, E3, ys, rfl, hN, hle, hV3, hS'⟩
     refine ⟨_, _, rfl, hS.join hS', ?_⟩
     refine WL.val (v_fieldAddr0 rfl rfl fld_48_2) (.none rfl) rfl rfl ?_
     refine WL.val (v_fieldAddr rfl rfl fld_46_1) (.none rfl) rfl rfl ?_
     refine WL.store1 rfl rfl rfl rfl one_44 (by show 2 + 18 < x.cells.length; rw [EnL.len]; omega) (.none rfl) rfl ?_
     refine WL.as (L' := E3 ++ (.row g13 (EnL.cells ⟨x.prio, x.mark, ⟨x.r.m, ad3, c3, ys⟩⟩) :: (Ex ++ (Kx ++ (E2 ++ (.row g t.cells :: (E ++ (K ++ L)))))))) rfl ?_
     obtain ⟨y, hy⟩ : ∃ y : EnL, y = ⟨x.prio, x.mark, ⟨x.r.m, ad3, c3, ys⟩⟩ := ⟨_, rfl⟩
     rw [← hy]
     refine WL.nil ?_
     refine WE.then_n ?_
     refine WC.region ?_
     refine WL.val (v_move rfl rfl) (.none rfl) rfl rfl ?_
     refine WL.val (v_loadN rfl rfl many_48 rfl allAt) (.none rfl) rfl rfl ?_
     refine WL.buildSlice rfl rfl Tryd.underlying22 sz_48 zero_48 rfl (by decide) (by show some (splice (List.replicate 1 _).flatten 0 y.cells) = some y.cells; rw [splice_all (by rw [EnL.len]; rfl)]) (.none rfl) rfl rfl ?_
     intro g60 hg60
     refine WL.to (L' := Ex ++ (.row g60 y.cells :: (E3 ++ (Kx ++ (E2 ++ (.row g t.cells :: (E ++ (K ++ L)))))))) (fun w hS => hS.dropX [.row g13 y.cells]) ?_
     refine WL.appendL rfl rfl rfl Tryd.underlying22 Tryd.underlying22 sz_48 by_48 zero_48 rfl rfl hVx (new := y.cells) (fun _ => ⟨g60, 0, rfl, fun w hS => allAt (g := g60) w hS⟩) (EnL.len y) (encL_one1 enL_one y) (by omega) (.none rfl) rfl rfl ?_
     intro ad61 c61 E61 hV61 hr61
     refine WL.val (v_assign rfl rfl) (.none rfl) rfl rfl ?_
     refine WL.nil ?_
     refine WE.block_n ?_
     refine WE.then_n ?_
     refine WC.region ?_
     refine WL.val (v_add rfl rfl rfl (w_i64 (by omega) (by omega))) (.none rfl) rfl rfl ?_
     refine WL.val (v_move rfl rfl) (.none rfl) rfl rfl ?_
     refine WL.nil ?_
     refine WE.next ⟨k + 1, ls ++ [y], ad61, c61, E61, E3 ++ Kx⟩ (by dsimp only; omega) ⟨by dsimp only; omega, by dsimp only; rw [List.length_append]; show ls.length + 1 = _; omega, hV61.some_of (by omega), by dsimp only; rw [List.length_append, show ensL (ls ++ [y]) = ensL ls ++ y.cells from encL_snoc _ _ _]; exact hV61, ?_, ?_⟩ (.int rfl (by dsimp only; omega) (.cons rfl (.cons rfl (.eq rfl (by dsimp only; rw [List.length_append]; rfl) (.cons rfl (.cons rfl .nil)))))) (by dsimp only; rw [List.append_assoc]; exact List.Sublist.append_left (.cons _ (.refl _)) _)
     · dsimp only
       rw [List.take_add_one, hx, Option.toList_some, List.map_append, List.map_append, List.map_append, hds, hy]
       exact congrArg (_ ++ ·) (congrArg (fun z => [z]) (ens_d_norm hxnz hN))
     · intro e he
       rcases List.mem_append.1 he with he | he
       · exact (hKx e he).sub fun z hz => List.mem_append_right _ hz
       · rw [List.mem_singleton.1 he, hy]
         exact ⟨E3, hV3, fun z hz => List.mem_append_left _ hz⟩
    ·
     refine WL.nil ?_
     refine WE.then_n ?_
     refine WC.seq ?_
     refine WC.cond_f rfl ?_
     refine WC.exit ?_
     refine WE.then_exit ?_
     refine WE.then_exit ?_
     refine WE.block_hit ?_
     refine WE.then_n ?_
     refine WC.seq ?_
     refine WC.region ?_
     refine WL.val (v_move rfl rfl) (.none rfl) rfl rfl ?_
     obtain ⟨gq, rfl⟩ := had
     obtain rfl : k = ins.length := (by omega)
     rw [List.take_length] at hds
     refine WL.call rfl rfl ck_19 (.none rfl) rfl rfl ?_
     intro w1 hS
     refine (StableR_c p w0 w1 (Kx ++ (E2 ++ (.row g t.cells :: (E ++ (K ++ L))))) Ex gq c ls hVx hS (by rcases hinR with h | ⟨h, hr⟩; exact .inl (by omega); exact .inr ⟨by omega, ramp_of hds hr⟩)).mono ?_
     rintro e w' ⟨rfl, ys, Ey, hpy, hsy, hVy, hS'⟩
     rw [← hpy.length_eq]
     refine ⟨_, _, rfl, hS', ?_⟩
     refine WL.nil ?_
     refine WE.then_n ?_
     refine WC.seq ?_
     refine WC.region ?_
     refine WL.val (v_move rfl rfl) (.none rfl) rfl rfl ?_
     refine WL.val (v_move rfl rfl) (.none rfl) rfl rfl ?_
     refine WL.call rfl rfl ck_21 (.none rfl) rfl rfl ?_
     intro w1 hS
     refine (Merge_c w1 ls2 ys ad2 (some ⟨gq, 0, none⟩) c2 c (hV2.rg fun e he => hS.holds e (by simp [he])) (hVy.rg fun e he => hS.holds e (by simp [he])) hV2.len.2 hVy.len.2 (by rw [hpy.length_eq]; omega)).mono ?_
     rintro e w' ⟨ad4, c4, E4, rfl, hV4, hS'⟩
     refine ⟨_, _, rfl, hS.join hS', ?_⟩
     have hsS := mergeL_sorted ls2 ys hsrt2 hsy
     have hpS := (mergeL_perm ls2 ys).trans (List.Perm.append_left ls2 hpy)
     have hSl : (mergeL ls2 ys).length ≤ 6000 := (by rw [hpS.length_eq, List.length_append]; omega)
     generalize mergeL ls2 ys = S at hV4 hsS hpS hSl ⊢
     refine WL.val (v_assign rfl rfl) (.none rfl) rfl rfl ?_
     refine WL.nil ?_
     refine WE.then_n ?_
     refine WC.seq ?_
     refine WC.seq ?_
     refine WC.region ?_
     refine WL.val (v_assign rfl rfl) (.none rfl) rfl rfl ?_
     refine WL.nil ?_
     refine WE.then_n ?_
     refine WC.block ?_
     refine WC.loop (fun i : Nat => [(15, .int .i64 i), (14, .slice ad4 S.length c4), (0, .pointer (some ⟨g, 0, none⟩))]) (fun _ => E4 ++ (Ey ++ (Kx ++ (E2 ++ (.row g t.cells :: (E ++ (K ++ L))))))) (fun i => 1 ≤ i ∧ ∀ j a b, j + 1 < i → S[j]? = some a → S[j + 1]? = some b → ordE a.d b.d ≠ 0) (fun i => S.length - i) 1 ⟨Nat.le_refl _, fun j a b h => absurd h (by omega)⟩ (.cons rfl (.cons rfl (.cons rfl .nil))) (.refl _) ?_
     rintro i ⟨hi1, hnb⟩
     refine WC.seq ?_
     refine WC.seq ?_
     refine WC.region ?_
     refine WL.val (v_move rfl rfl) (.none rfl) rfl rfl ?_
     refine WL.val (v_move rfl rfl) (.none rfl) rfl rfl ?_
     refine WL.val (v_len_slice rfl rfl Tryd.underlying22) (.none rfl) rfl rfl ?_
     refine WL.test (v_lss rfl rfl rfl) (.none rfl) rfl rfl (fun h71 => ?_) (fun h71 => ?_)
     ·
      refine WL.nil ?_
      refine WE.then_n ?_
      refine WC.cond_t rfl ?_
      refine WC.skip ?_
      refine WE.then_n ?_
      refine WC.seq ?_
      refine WC.block ?_
      refine WC.seq ?_
      refine WC.quiet mixed (by kernel_rfl) ?_
      refine WQ.val (v_move rfl rfl) (.none rfl) rfl rfl ?_
      refine WQ.val (v_move rfl rfl) (.none rfl) rfl rfl ?_
      refine WQ.val (v_sub rfl rfl rfl (w_i64 (by omega) (by omega))) (.none rfl) rfl rfl ?_
      obtain ⟨j, rfl⟩ : ∃ j, i = j + 1 := ⟨i - 1, by omega⟩
      obtain ⟨xa, hxa⟩ : ∃ x, S[j]? = some x := ⟨S[j]'(by omega), List.getElem?_eq_getElem _⟩
      obtain ⟨xb, hxb⟩ : ∃ x, S[j + 1]? = some x := ⟨S[j + 1]'(by omega), List.getElem?_eq_getElem _⟩
      obtain ⟨g4, ea4⟩ := hV4.some_of (by omega)
      have hrd : ∀ (j : Nat) (x : EnL), S[j]? = some x → ∀ w, St p w0 w (E4 ++ (Ey ++ (Kx ++ (E2 ++ (.row g t.cells :: (E ++ (K ++ L))))))) → w.rangeAt g4 (0 + j * 21) x.cells := (by
        intro j x hx w hS
        obtain ⟨b5, o5, ea5, r5⟩ := hV4.rg (w := w) (fun e he => hS.holds e (by simp [he])) (by intro hh; have := ensL_len S; rw [hh] at this; simp at this; omega)
        rw [ea4] at ea5; cases ea5
        exact Rg.seg EnL.len r5 hx)
      refine WQ.val ((v_indexAddr (b := g4) (off := 0) (lo := j) rfl (by show some (Value.slice ad4 _ _) = _; rw [ea4]) rfl Tryd.underlying22 sz_48 (by omega) (by omega))) (.none rfl) rfl rfl ?_
      refine WQ.val (v_loadN (cs := xa.cells) rfl rfl many_48 (EnL.len xa) (hrd j xa hxa)) (.none rfl) rfl rfl ?_
      refine WQ.val (v_move rfl rfl) (.none rfl) rfl rfl ?_
      refine WQ.val (v_move rfl rfl) (.none rfl) rfl rfl ?_
      refine WQ.val ((v_indexAddr (b := g4) (off := 0) (lo := j + 1) rfl (by show some (Value.slice ad4 _ _) = _; rw [ea4]) rfl Tryd.underlying22 sz_48 rfl (by omega))) (.none rfl) rfl rfl ?_
      refine WQ.val (v_loadN (cs := xb.cells) rfl rfl many_48 (EnL.len xb) (hrd (j + 1) xb hxb)) (.none rfl) rfl rfl ?_
      refine WQ.call _ rfl rfl ck_20 (.none rfl) rfl rfl (fun w hS => Calls.still (order_c w xa xb) hS) ?_
      refine WQ.test (v_eql rfl rfl rfl) (.none rfl) rfl rfl (fun h84 => ?_) (fun h84 => ?_)
      ·
       refine WQ.nil ?_
       refine WE.then_n ?_
       refine WC.cond_t rfl ?_
       refine WC.seq ?_
       refine WC.region ?_
       refine WL.val (v_assign rfl rfl) (.none rfl) rfl rfl ?_
       refine WL.nil ?_
       refine WE.then_n ?_
       refine WC.ret ?_
       refine WE.block_ret ?_
       refine WE.then_ret ?_
       refine WE.then_ret ?_
       refine WE.block_ret ?_
       refine WE.then_ret ?_
       refine WE.ret1 (P := Tryd.prog) (.inl rfl) Tryd.results9 rfl ?_
       have hroom : ((ins.map EnL.d).length : Int) ≤ t.most - (leftD t.d outs).length := (by rw [hld, List.length_map]; omega)
       have hpd : (S.map EnL.d).Perm (leftD t.d outs ++ (ins.map EnL.d).map EnD.norm) := (by
         have := hpS.map EnL.d
         rw [List.map_append, hds, ← hls2, filter_d] at this; exact this)
       refine fun w' h => ⟨_, t, E, K, rfl, rfl, chP_dup hno hroom (fun hA => ?_), hV, hK, h.dropX (E4 ++ (Ey ++ (Kx ++ E2)))⟩
       have hA' := List.pairwise_iff_getElem.1 (Apart.perm hpd.symm hA)
       have la := (List.getElem?_eq_some_iff.1 hxa)
       have lb := (List.getElem?_eq_some_iff.1 hxb)
       have := hA' j (j + 1) (by rw [List.length_map]; omega) (by rw [List.length_map]; omega) (by omega)
       rw [List.getElem_map, List.getElem_map, la.2, lb.2] at this
       exact this h84
      ·
       refine WQ.nil ?_
       refine WE.then_n ?_
       refine WC.cond_f rfl ?_
       refine WC.skip ?_
       refine WE.block_n ?_
       refine WE.then_n ?_
       refine WC.region ?_
       refine WL.val (v_move rfl rfl) (.none rfl) rfl rfl ?_
       refine WL.val (v_add rfl rfl rfl (w_i64 (by omega) (by omega))) (.none rfl) rfl rfl ?_
       refine WL.val (v_assign rfl rfl) (.none rfl) rfl rfl ?_
       refine WL.nil ?_
       exact WE.next (j + 2) (by omega) ⟨by omega, fun q a b hq ha hb => by
       by_cases e : q = j
       · subst e; rw [hxa] at ha; rw [hxb] at hb; cases ha; cases hb; exact h84
       · exact hnb q a b (by omega) ha hb⟩ (.int rfl (by omega) (.cons rfl (.cons rfl .nil))) (.refl _)
     ·
      refine WL.nil ?_
      refine WE.then_n ?_
      refine WC.cond_f rfl ?_
      refine WC.exit ?_
      refine WE.then_exit ?_
      refine WE.then_exit ?_
      refine WE.block_hit ?_
      refine WE.then_n ?_
      refine WC.seq ?_
      refine WC.region ?_
      refine WL.val (v_move rfl rfl) (.none rfl) rfl rfl ?_
      refine WL.val (v_move rfl rfl) (.none rfl) rfl rfl ?_
      refine WL.val (v_nilCheck rfl rfl) (.none rfl) rfl rfl ?_
      refine WL.val (v_fieldAddr0 rfl rfl fld_60_1) (.none rfl) rfl rfl ?_
      refine WL.store1 rfl rfl rfl rfl one_22 (Nat.le_of_ble_eq_true rfl) (.none rfl) rfl ?_
      refine WL.as (L' := E4 ++ (Ey ++ (Kx ++ (E2 ++ (.row g (TbL.cells ⟨t.most, ad4, c4, S⟩) :: (E ++ (K ++ L))))))) rfl ?_
      refine WL.nil ?_
      refine WE.then_n ?_
      refine WC.seq ?_
      refine WC.region ?_
      refine WL.val (v_assign rfl rfl) (.none rfl) rfl rfl ?_
      refine WL.nil ?_
      refine WE.then_n ?_
      refine WC.ret ?_
      refine WE.ret1 (P := Tryd.prog) (.inl rfl) Tryd.results9 rfl ?_
      have hroom : ((ins.map EnL.d).length : Int) ≤ t.most - (leftD t.d outs).length := (by rw [hld, List.length_map]; omega)
      have hpd : (S.map EnL.d).Perm (leftD t.d outs ++ (ins.map EnL.d).map EnD.norm) := (by
        have := hpS.map EnL.d
        rw [List.map_append, hds, ← hls2, filter_d] at this; exact this)
      have hstr := strict_nb S hsS fun q a b ha hb => hnb q a b (by have := (List.getElem?_eq_some_iff.1 hb).1; omega) ha hb
      refine fun w' h => ⟨0, ⟨t.most, ad4, c4, S⟩, E4, Kx ++ K, rfl, rfl, chP_ok hno hroom (List.pairwise_map.2 hstr) hpd, hV4, fun e he => ?_, h.dropX (Ey ++ (E2 ++ E))⟩
      rcases List.mem_append.1 (hpS.mem_iff.1 he) with he | he
      · rw [← hls2] at he
        exact (hK e (List.mem_filter.1 he).1).sub fun z hz => List.mem_append_right _ hz
      · exact (hKx e he).sub fun z hz => List.mem_append_left _ hz
end Go.Proofs.YtkeonnnhogaggaaDoor
/- The engine: a region that draws its order: what reads only what nobody in the region writes is taken first, although calls come between (the kit's held orders). -/
namespace Go.Proofs.YtkeonnnhogaggaaDoor
open Go.RowKit

section
variable {P : Program} {ops : Array Oper} {Q : Exit → Act → World → Prop} {n : Nat} {p : Nat → Prop} {w0 : World} {o : Oper} {rest os : List Oper} {l : Kn} {L L0 : List Ent} {K : Act → World → Prop}
/-- What is left of the region, as what follows. -/
def RestH (P : Program) (os : List Oper) (Q : Exit → Act → World → Prop) (p : Nat → Prop) (w0 : World) (L0 : List Ent) (g : Nat) (listed : Array Bool) : Act → World → Prop := fun a w => wpAnyH P .any os.toArray (NP Q) (fun w => St p w0 w L0) g listed a w
/-- What is left of a region, of which these are done; the blocks L0 stay as they are. -/
def WRH (P : Program) (os : List Oper) (Q : Exit → Act → World → Prop) (n : Nat) (p : Nat → Prop) (w0 : World) (L0 : List Ent) (g : Nat) (listed : Array Bool) (l : Kn) (L : List Ent) : Prop :=
  ∀ a w, Has n a l → St p w0 w L → RestH P os Q p w0 L0 g listed a w
theorem WC.held {id : Nat} (L0 : List Ent) (hm : P.follows .mixedOrders = true) (h : WRH P os Q n p w0 L0 os.length (Array.replicate os.length false) l L) : WC P (.region id os.toArray true) Q n p w0 l L := fun a w ha hS =>
  Code.wp_mono NP.imp (wp_region_held (S := fun w => St p w0 w L0) hm (by have h1 := h a w.drew ha hS.drew; unfold RestH at h1; simpa using h1))
def wpHeld (P : Program) (ops : Array Oper) (S : World → Prop) (K : Act → Prop) : List Oper → Act → Prop
  | [], a => K a
  | o :: rest, a => ∃ v, YieldsIf P ops S o v a ∧ wpHeld P ops S K rest (a.put o.dst v)
def WH (P : Program) (ops : Array Oper) (K : Act → World → Prop) (n : Nat) (p : Nat → Prop) (w0 : World) (L0 : List Ent) (rest : List Oper) (l : Kn) (L : List Ent) : Prop :=
  ∀ a, Has n a l → wpHeld P ops (fun w => St p w0 w L0) (fun a' => ∀ w, St p w0 w L → K a' w) rest a
theorem anyH_of_held {K : Act → Prop} {S : World → Prop} {w : World} {g : Nat} (hsel : Region.noSelect os.toArray = true) (hw : S w) : ∀ (js : List Nat) (listed : Array Bool) (a : Act), takesB .any os.toArray js listed = true →
    wpHeld P os.toArray S K (js.map (at_ os)) a → (∀ a, K a → wpAnyH P .any os.toArray (NP Q) S g (marks listed js) a w) → wpAnyH P .any os.toArray (NP Q) S (js.length + g) listed a w
  | [], listed, a, _, h, hK => by simpa [marks] using hK a h
  | i :: is, listed, a, hB, h, hK => by
    simp only [takesB, Bool.and_eq_true] at hB
    obtain ⟨⟨hr, hf⟩, hB'⟩ := hB
    obtain ⟨v, hy, h'⟩ := h
    have hr' : i ∈ Region.ready .any os.toArray listed := by simpa using hr
    rw [List.length_cons, show is.length + 1 + g = (is.length + g) + 1 by omega]
    exact wpAnyH_take (at_some hr') hsel hf hr (fun c a w hh => hh) hy hw (anyH_of_held hsel hw is _ _ hB' h' hK)
theorem WRH.first {listed : Array Bool} {g : Nat} (js : List Nat) (hsel : Region.noSelect os.toArray = true) (hB : takesB .any os.toArray js listed = true) (keep : ∀ w, St p w0 w L → St p w0 w L0)
    (h : WH P os.toArray (RestH P os Q p w0 L0 g (marks listed js)) n p w0 L0 (js.map (at_ os)) l L) : WRH P os Q n p w0 L0 (js.length + g) listed l L := fun a w ha hS =>
  anyH_of_held (K := fun a' => ∀ w, St p w0 w L → RestH P os Q p w0 L0 g (marks listed js) a' w) hsel (keep w hS) js listed a hB (h a ha) (fun _ h => h w hS)
theorem WRH.each {g : Nat} {listed : Array Bool} (rs : List Nat) (hr : Region.ready .any os.toArray listed = rs) (hne : rs ≠ [])
    (h : AllOf (fun i => WL P os.toArray (RQ (fun a' w' => St p w0 w' L0 ∧ RestH P os Q p w0 L0 g (listed.setIfInBounds i true) a' w') (NP Q)) n p w0 [at_ os i] l L) rs) : WRH P os Q n p w0 L0 (g + 1) listed l L := fun a w ha hS => by
  refine wpAnyH_all hr hne fun i hi => ?_
  have ho := at_some (listed := listed) (i := i) (by rw [hr]; exact hi)
  have h' : wpList P os.toArray (RQ (fun a' w' => St p w0 w' L0 ∧ RestH P os Q p w0 L0 g (listed.setIfInBounds i true) a' w') (NP Q)) [at_ os i] a w := h.get i hi a w ha hS
  unfold wpOp
  simp only [ho]
  unfold wpList at h'
  split
  · rename_i hwd
    rw [if_pos hwd] at h'
    exact (h'.imp wpRQ (fun h => ⟨h.1, RQ.out h.2⟩)).imp (Oper.wp_mono fun a' w' h => h) id
  · rename_i hwd
    rw [if_neg hwd] at h'
    exact h'
theorem WRH.one {g : Nat} {listed : Array Bool} (i : Nat) (hr : Region.ready .any os.toArray listed = [i])
    (h : WL P os.toArray (RQ (fun a' w' => St p w0 w' L0 ∧ RestH P os Q p w0 L0 g (listed.setIfInBounds i true) a' w') (NP Q)) n p w0 [at_ os i] l L) : WRH P os Q n p w0 L0 (g + 1) listed l L :=
  WRH.each [i] hr (by simp) h
theorem WRH.done {listed : Array Bool} (hB : Region.ready .any os.toArray listed = []) (h : WE Q .normal n p w0 l L) : WRH P os Q n p w0 L0 0 listed l L := fun a w ha hS => ⟨hB, h a w ha hS⟩
theorem WH.nil {listed : Array Bool} {g : Nat} (h : WRH P os Q n p w0 L0 g listed l L) : WH P os.toArray (RestH P os Q p w0 L0 g listed) n p w0 L0 [] l L := fun a ha w hS => h a w ha hS
theorem WL.nilH {listed : Array Bool} {g : Nat} (keep : ∀ w, St p w0 w L → St p w0 w L0) (h : WRH P os Q n p w0 L0 g listed l L) : WL P os.toArray (RQ (fun a' w' => St p w0 w' L0 ∧ RestH P os Q p w0 L0 g listed a' w') (NP Q)) n p w0 [] l L := fun a w ha hS => ⟨keep w hS, h a w ha hS⟩
theorem WH.val {d : Nat} {v : Value} (hv : Val P (fun w => St p w0 w L0) n l o v) (hg : On ops o l) (hd : o.dst = some d) (hn : Nat.blt d n = true)
    (h : WH P ops K n p w0 L0 rest ((d, v) :: l) L) : WH P ops K n p w0 L0 (o :: rest) l L := fun a ha =>
  ⟨v, .inl ⟨hg.ok ha, fun w hw => hv a w ha hw⟩, h _ (ha.put_any hd hn v)⟩
end
end Go.Proofs.YtkeonnnhogaggaaDoor
/- table: New, Take, at, Find, clone, Len, Room. -/
namespace Go.Proofs.YtkeonnnhogaggaaDoor
open Go.RowKit

theorem Take_c (p : Nat → Prop) (w0 w : World) (L E K : List Ent) (g : Nat) (t : TbL) (oa : Option Addr) (oc : Nat) (outs : List Int) (hV : Vec 21 t.ad t.es.length t.c (ensL t.es) E) (hK : EnsOwn K t.es) (hS : St p w0 w (.row g t.cells :: (E ++ (K ++ L)))) (ho : ∀ w, St p w0 w L → Rg w oa (outs.map (Value.int .i64)))
    (hn : t.es.length ≤ 5000) (hon : outs.length ≤ 100000) :
    Calls Tryd.prog 14 #[.pointer (some ⟨g, 0, none⟩), .slice oa outs.length oc] w fun e w' => ∃ (t' : TbL) (E' : List Ent), e = .returned (.int .i64 (t.es.length - t'.es.length)) ∧ t'.most = t.most ∧ t'.d = leftD t.d outs ∧ t'.es.length ≤ t.es.length ∧
      Vec 21 t'.ad t'.es.length t'.c (ensL t'.es) E' ∧ EnsOwn K t'.es ∧ St p w0 w' (.row g t'.cells :: (E' ++ (K ++ L))) := by
  refine enter Tryd.func14 rfl Tryd.ntmps14 rfl hS ?_
  have htl : ∀ w, St p w0 w (.row g t.cells :: (E ++ (K ++ L))) → St p w0 w L := fun w h => h.sub (.cons _ (List.sublist_append_of_sublist_right (List.sublist_append_right _ _)))
  have hfl : (t.es.filter (keepE outs)).length ≤ t.es.length := List.length_filter_le _ _
  refine WC.seq ?_
  refine WC.region ?_
  refine WL.val (v_assign rfl rfl) (.none rfl) rfl rfl ?_
  refine WL.nil ?_
  refine WE.then_n ?_
  refine WC.seq ?_
  refine WC.seq ?_
  refine WC.region ?_
  refine WL.val (v_move rfl rfl) (.none rfl) rfl rfl ?_
  refine WL.val (v_eql_nil false rfl rfl Tryd.underlying34 rfl) (.none rfl) rfl rfl ?_
  refine WL.nil ?_
  refine WE.then_n ?_
  refine WC.cond_f rfl ?_
  refine WC.skip ?_
  refine WE.then_n ?_
  refine WC.seq ?_
  refine WC.region ?_
  refine WL.val (v_move rfl rfl) (.none rfl) rfl rfl ?_
  refine WL.val (v_move rfl rfl) (.none rfl) rfl rfl ?_
  refine WL.call rfl rfl ck_17 (.none rfl) rfl rfl ?_
  intro w1 hS
  refine (Without_c w1 g t oa oc outs (hS.cell rfl) (hV.rg fun e he => hS.holds e (by simp [he])) (ho w1 (htl _ hS)) (by omega) hon).mono ?_
  rintro e w' ⟨ad2, c2, E2, rfl, hV2, hS'⟩
  refine ⟨_, _, rfl, hS.join hS', ?_⟩
  refine WL.val (v_assign rfl rfl) (.none rfl) rfl rfl ?_
  refine WL.nil ?_
  refine WE.then_n ?_
  refine WC.seq ?_
  refine WC.region ?_
  refine WL.val (v_move rfl rfl) (.none rfl) rfl rfl ?_
  refine WL.val (v_nilCheck rfl rfl) (.none rfl) rfl rfl ?_
  refine WL.val (v_fieldAddr0 rfl rfl fld_60_1) (.none rfl) rfl rfl ?_
  refine WL.val (v_load1 rfl rfl one_22 (cellAt (v := .slice t.ad t.es.length t.c) rfl)) (.none rfl) rfl rfl ?_
  refine WL.val (v_len_slice rfl rfl Tryd.underlying22) (.none rfl) rfl rfl ?_
  refine WL.val (v_move rfl rfl) (.none rfl) rfl rfl ?_
  refine WL.val (v_len_slice rfl rfl Tryd.underlying22) (.none rfl) rfl rfl ?_
  refine WL.val (v_sub rfl rfl rfl (w_i64 (by omega) (by omega))) (.none rfl) rfl rfl ?_
  refine WL.val (v_assign rfl rfl) (.none rfl) rfl rfl ?_
  refine WL.nil ?_
  refine WE.then_n ?_
  refine WC.seq ?_
  refine WC.region ?_
  refine WL.val (v_move rfl rfl) (.none rfl) rfl rfl ?_
  refine WL.val (v_move rfl rfl) (.none rfl) rfl rfl ?_
  refine WL.val (v_nilCheck rfl rfl) (.none rfl) rfl rfl ?_
  refine WL.val (v_fieldAddr0 rfl rfl fld_60_1) (.none rfl) rfl rfl ?_
  refine WL.store1 rfl rfl rfl rfl one_22 (Nat.le_of_ble_eq_true rfl) (.none rfl) rfl ?_
  refine WL.as (L' := E2 ++ (.row g (TbL.cells ⟨t.most, ad2, c2, t.es.filter (keepE outs)⟩) :: (E ++ (K ++ L)))) rfl ?_
  refine WL.nil ?_
  refine WE.then_n ?_
  refine WC.seq ?_
  refine WC.region ?_
  refine WL.val (v_move rfl rfl) (.none rfl) rfl rfl ?_
  refine WL.val (v_assign rfl rfl) (.none rfl) rfl rfl ?_
  refine WL.nil ?_
  refine WE.then_n ?_
  refine WC.ret ?_
  refine WE.ret1 (P := Tryd.prog) (.inl rfl) Tryd.results14 rfl ?_
  exact fun w' h => ⟨⟨t.most, ad2, c2, t.es.filter (keepE outs)⟩, E2, rfl, rfl, filter_d _ _, hfl, hV2, fun e he => hK e (List.mem_filter.1 he).1, h.dropX E⟩
/-- Which entry counts: the first that is hit. -/
def IdxP (es : List EnL) (H : Hd) (r : Int) : Prop := (r = -1 ∧ ∀ x ∈ es, ¬ x.r.m.hits H) ∨ ∃ (i : Nat) (x : EnL), r = i ∧ es[i]? = some x ∧ x.r.m.hits H ∧ ∀ j y, j < i → es[j]? = some y → ¬ y.r.m.hits H
theorem at1_c (w : World) (gh : Nat) (x : EnL) (H : Hd) (hm : x.r.m.In) (hH : H.In) (hG : GW w) (hh : w.rangeAt gh 0 (hdL H)) :
    Calls Tryd.prog 36 #[.agg x.cells.toArray, .pointer (some ⟨gh, 0, none⟩)] w fun e w' => e = .returned (.bool (decide (x.r.m.hits H))) ∧ Frm (fun _ => False) w w' := by
  refine enter Tryd.func36 rfl Tryd.ntmps36 rfl (St.start (fun _ => False) w) ?_
  refine WC.seq ?_
  refine WC.region ?_
  refine WL.box rfl rfl rfl (.none rfl) rfl rfl ?_
  intro g2 hg2
  refine WL.val (v_assign rfl rfl) (.none rfl) rfl rfl ?_
  refine WL.nil ?_
  refine WE.then_n ?_
  refine WC.seq ?_
  refine WC.region ?_
  refine WL.val (v_fieldAddr0 rfl rfl fld_48_2) (.none rfl) rfl rfl ?_
  refine WL.val (v_fieldAddr rfl rfl fld_46_0) (.none rfl) rfl rfl ?_
  refine WL.val (v_loadN rfl rfl many_43 rfl (segAt (m := 18) (enC_match x))) (.none rfl) rfl rfl ?_
  refine WL.val (v_loadN (cs := hdL H) rfl rfl many_28 rfl (rgIn (fun h => h) hh)) (.none rfl) rfl rfl ?_
  refine WL.call rfl rfl ck_37 (.none rfl) rfl rfl ?_
  intro w hS
  refine Calls.then (Hits_c w x.r.m H hm hH (hG.keep (fun h => h) hS)) hS ?_
  refine WL.val (v_assign rfl rfl) (.none rfl) rfl rfl ?_
  refine WL.nil ?_
  refine WE.then_n ?_
  refine WC.ret ?_
  refine WE.ret1 (P := Tryd.prog) (.inl rfl) Tryd.results36 rfl ?_
  exact fun w' h => ⟨rfl, h.frm⟩
theorem IdxE_c (w : World) (ad : Option Addr) (c gh : Nat) (es : List EnL) (H : Hd) (hm : ∀ x ∈ es, x.r.m.In) (hH : H.In) (hG : GW w) (hh : w.rangeAt gh 0 (hdL H)) (hn : es.length ≤ 1000000) (hr : Rg w ad (ensL es)) :
    Calls Tryd.prog 35 #[.slice ad es.length c, .func (.func 36) #[] #[.pointer (some ⟨gh, 0, none⟩)]] w
      fun e w' => (∃ r, e = .returned (.int .i64 r) ∧ IdxP es H r) ∧ Frm (fun _ => False) w w' := by
  refine enter Tryd.func35 rfl Tryd.ntmps35 rfl (St.start (fun _ => False) w) ?_
  refine WC.seq ?_
  refine WC.region ?_
  refine WL.val (v_assign rfl rfl) (.none rfl) rfl rfl ?_
  refine WL.nil ?_
  refine WE.then_n ?_
  refine WC.seq ?_
  refine WC.seq ?_
  refine WC.region ?_
  refine WL.val (v_move rfl rfl) (.none rfl) rfl rfl ?_
  refine WL.val (v_len_slice rfl rfl Tryd.underlying22) (.none rfl) rfl rfl ?_
  refine WL.val (v_move rfl rfl) (.none rfl) rfl rfl ?_
  refine WL.nil ?_
  refine WE.then_n ?_
  refine WC.block ?_
  refine WC.loop (fun k : Nat => [(8, .int .i64 k), (7, .int .i64 es.length), (0, .slice ad es.length c), (1, .func (.func 36) #[] #[.pointer (some ⟨gh, 0, none⟩)])]) (fun _ => []) (fun k => k ≤ es.length ∧ ∀ j y, j < k → es[j]? = some y → ¬ y.r.m.hits H) (fun k => es.length - k) 0 ⟨Nat.zero_le _, fun j y h => absurd h (by omega)⟩ (.cons rfl (.cons rfl (.cons rfl (.cons rfl .nil)))) (.refl _) ?_
  rintro k ⟨hk, hno⟩
  refine WC.seq ?_
  refine WC.region ?_
  refine WL.test (v_lss rfl rfl rfl) (.none rfl) rfl rfl (fun h9 => ?_) (fun h9 => ?_)
  ·
   refine WL.nil ?_
   refine WE.then_n ?_
   refine WC.seq ?_
   refine WC.cond_t rfl ?_
   refine WC.skip ?_
   refine WE.then_n ?_
   refine WC.seq ?_
   refine WC.block ?_
   refine WC.seq ?_
   refine WC.region ?_
   refine WL.val (v_move rfl rfl) (.none rfl) rfl rfl ?_
   refine WL.val (v_assign rfl rfl) (.none rfl) rfl rfl ?_
   refine WL.nil ?_
   refine WE.then_n ?_
   refine WC.seq ?_
   refine WC.region ?_
   refine WL.val (v_move rfl rfl) (.none rfl) rfl rfl ?_
   refine WL.val (v_move rfl rfl) (.none rfl) rfl rfl ?_
   refine WL.val (v_move rfl rfl) (.none rfl) rfl rfl ?_
   obtain ⟨x, hx⟩ : ∃ x, es[k]? = some x := ⟨es[k]'(by omega), List.getElem?_eq_getElem _⟩
   obtain ⟨b1, o1, ea1, r1⟩ := hr (by intro hh; have := ensL_len es; rw [hh] at this; simp at this; omega)
   refine WL.val ((v_indexAddr (b := b1) (off := o1) (lo := k) rfl (by show some (Value.slice ad _ _) = _; rw [ea1]) rfl Tryd.underlying22 sz_48 rfl (by omega))) (.none rfl) rfl rfl ?_
   refine WL.val (v_loadN (cs := x.cells) rfl rfl many_48 (EnL.len x) (rgIn (fun h => h) (Rg.seg EnL.len r1 hx))) (.none rfl) rfl rfl ?_
   refine WL.callV rfl rfl rfl ck_36 (.none rfl) rfl rfl ?_
   intro w hS
   refine Calls.then (at1_c w gh x H (hm x (List.mem_of_getElem? hx)) hH (hG.keep (fun h => h) hS) (rgIn (fun h => h) hh w hS)) hS ?_
   refine WL.nil ?_
   refine WE.then_n ?_
   refine WC.cond_d rfl (fun h16 => ?_) (fun h16 => ?_)
   ·
    refine WC.seq ?_
    refine WC.region ?_
    refine WL.val (v_move rfl rfl) (.none rfl) rfl rfl ?_
    refine WL.val (v_assign rfl rfl) (.none rfl) rfl rfl ?_
    refine WL.nil ?_
    refine WE.then_n ?_
    refine WC.ret ?_
    refine WE.block_ret ?_
    refine WE.then_ret ?_
    refine WE.then_ret ?_
    refine WE.block_ret ?_
    refine WE.then_ret ?_
    refine WE.ret1 (P := Tryd.prog) (.inl rfl) Tryd.results35 rfl ?_
    exact fun w' h => ⟨⟨k, rfl, .inr ⟨k, x, rfl, hx, h16, hno⟩⟩, h.frm⟩
   ·
    refine WC.skip ?_
    refine WE.block_n ?_
    refine WE.then_n ?_
    refine WC.region ?_
    refine WL.val (v_add rfl rfl rfl (w_i64 (by omega) (by omega))) (.none rfl) rfl rfl ?_
    refine WL.val (v_move rfl rfl) (.none rfl) rfl rfl ?_
    refine WL.nil ?_
    exact WE.next (k + 1) (by omega) ⟨by omega, fun j y hj hy => by
    by_cases e : j = k
    · subst e; rw [hx] at hy; cases hy; exact h16
    · exact hno j y (by omega) hy⟩ (.int rfl (by omega) (.cons rfl (.cons rfl (.cons rfl .nil)))) (.refl _)
  ·
   refine WL.nil ?_
   refine WE.then_n ?_
   refine WC.seq ?_
   refine WC.cond_f rfl ?_
   refine WC.exit ?_
   refine WE.then_exit ?_
   refine WE.then_exit ?_
   refine WE.block_hit ?_
   refine WE.then_n ?_
   refine WC.seq ?_
   refine WC.region ?_
   refine WL.val (v_assign rfl rfl) (.none rfl) rfl rfl ?_
   refine WL.nil ?_
   refine WE.then_n ?_
   refine WC.ret ?_
   refine WE.ret1 (P := Tryd.prog) (.inl rfl) Tryd.results35 rfl ?_
   exact fun w' h => ⟨⟨-1, rfl, .inl ⟨rfl, fun x hx => (by
   obtain ⟨i, hi, e⟩ := List.mem_iff_getElem.1 hx
   exact hno i x (by omega) (by rw [List.getElem?_eq_getElem hi, e]))⟩⟩, h.frm⟩
theorem at_c (w : World) (g : Nat) (t : TbL) (H : Hd) (hg : w.cell? ⟨g, 1, none⟩ = some (.slice t.ad t.es.length t.c)) (hm : ∀ x ∈ t.es, x.r.m.In) (hH : H.In) (hG : GW w) (hn : t.es.length ≤ 1000000) (hr : Rg w t.ad (ensL t.es)) :
    Calls Tryd.prog 22 #[.pointer (some ⟨g, 0, none⟩), .agg (hdCells H)] w fun e w' => (∃ r, e = .returned (.int .i64 r) ∧ IdxP t.es H r) ∧ Frm (fun _ => False) w w' := by
  refine enter Tryd.func22 rfl Tryd.ntmps22 rfl (St.start (fun _ => False) w) ?_
  refine WC.seq ?_
  refine WC.region ?_
  refine WL.box rfl rfl rfl (.none rfl) rfl rfl ?_
  intro g3 hg3
  refine WL.val (v_assign rfl rfl) (.none rfl) rfl rfl ?_
  refine WL.nil ?_
  refine WE.then_n ?_
  refine WC.seq ?_
  refine WC.seq ?_
  refine WC.region ?_
  refine WL.val (v_move rfl rfl) (.none rfl) rfl rfl ?_
  refine WL.val (v_eql_nil false rfl rfl Tryd.underlying34 rfl) (.none rfl) rfl rfl ?_
  refine WL.nil ?_
  refine WE.then_n ?_
  refine WC.cond_f rfl ?_
  refine WC.skip ?_
  refine WE.then_n ?_
  refine WC.seq ?_
  refine WC.region ?_
  refine WL.val (v_move rfl rfl) (.none rfl) rfl rfl ?_
  refine WL.val (v_nilCheck rfl rfl) (.none rfl) rfl rfl ?_
  refine WL.val (v_fieldAddr0 rfl rfl fld_60_1) (.none rfl) rfl rfl ?_
  refine WL.val (v_load1 rfl rfl one_22 (cellOld (fun h => h) hg)) (.none rfl) rfl rfl ?_
  refine WL.val (v_makeFunc rfl rfl rfl) (.none rfl) rfl rfl ?_
  refine WL.call rfl rfl ck_35 (.none rfl) rfl rfl ?_
  intro w1 hS
  refine (IdxE_c w1 t.ad t.c g3 t.es H hm hH (hG.keep (fun h => h) hS) (allAt (g := g3) w1 hS) hn (hr.frm hS.frm (fun _ _ _ h => h))).mono ?_
  rintro e w' ⟨⟨r, rfl, hr⟩, hF⟩
  refine ⟨_, _, rfl, hS.ext hF, ?_⟩
  refine WL.val (v_assign rfl rfl) (.none rfl) rfl rfl ?_
  refine WL.nil ?_
  refine WE.then_n ?_
  refine WC.ret ?_
  refine WE.ret1 (P := Tryd.prog) (.inl rfl) Tryd.results22 rfl ?_
  exact fun w' h => ⟨⟨r, rfl, hr⟩, h.frm⟩
structure ClS where
  k : Nat
  ls : List RuL
  ad : Option Addr
  c : Nat
  E : List Ent
  K : List Ent
/-- What is asked of a rule that is handed in. -/
structure RuOk (w : World) (r : RuL) : Prop where
  rd : Rg w r.ad (actsL r.acts)
  len : r.acts.length ≤ 100000
theorem RuOk.frm {w w' : World} {r : RuL} (h : RuOk w r) (hF : Frm (fun _ => False) w w') : RuOk w' r := ⟨h.rd.frm hF (fun _ _ _ h => h), h.len⟩
theorem RuOwn.ok {K : List Ent} {r : RuL} {w : World} (h : RuOwn K r) (hw : ∀ e ∈ K, e.holds w) (hl : r.acts.length ≤ 100000) : RuOk w r := by
  obtain ⟨E, hV, hE⟩ := h
  exact ⟨hV.rg fun e he => hw e (hE e he), hl⟩
set_option maxHeartbeats 1000000 in
theorem RsClone_c (w : World) (ad : Option Addr) (c : Nat) (rs : List RuL) (hr : Rg w ad (rulesL rs)) (hok : ∀ r ∈ rs, RuOk w r) (hn : rs.length ≤ 100000) :
    Calls Tryd.prog 38 #[.slice ad rs.length c] w fun e w' => ∃ ad' c' ls E K, e = .returned (.slice ad' rs.length c') ∧ Vec 19 ad' rs.length c' (rulesL ls) E ∧ ls.map RuL.d = rs.map RuL.d ∧ (∀ r ∈ ls, RuOwn K r) ∧ St (fun _ => False) w w' (E ++ K) := by
  refine enter Tryd.func38 rfl Tryd.ntmps38 rfl (St.start (fun _ => False) w) ?_
  refine WC.seq ?_
  refine WC.region ?_
  refine WL.val (v_assign rfl rfl) (.none rfl) rfl rfl ?_
  refine WL.nil ?_
  refine WE.then_n ?_
  refine WC.seq ?_
  refine WC.region ?_
  refine WL.val (v_assign rfl rfl) (.none rfl) rfl rfl ?_
  refine WL.nil ?_
  refine WE.then_n ?_
  refine WC.seq ?_
  refine WC.seq ?_
  refine WC.region ?_
  refine WL.val (v_move rfl rfl) (.none rfl) rfl rfl ?_
  refine WL.val (v_len_slice rfl rfl Tryd.underlying74) (.none rfl) rfl rfl ?_
  refine WL.val (v_move rfl rfl) (.none rfl) rfl rfl ?_
  refine WL.nil ?_
  refine WE.then_n ?_
  refine WC.block ?_
  refine WC.loop (fun x : ClS => [(8, .int .i64 x.k), (7, .int .i64 rs.length), (6, .slice ad rs.length c), (3, .slice x.ad x.k x.c)]) (fun x => x.E ++ x.K) (fun x => x.k ≤ rs.length ∧ Vec 19 x.ad x.k x.c (rulesL x.ls) x.E ∧ x.ls.map RuL.d = (rs.take x.k).map RuL.d ∧ ∀ r ∈ x.ls, RuOwn x.K r) (fun x => rs.length - x.k) ⟨0, [], none, 0, [], []⟩ ⟨Nat.zero_le _, Vec.nil 19, rfl, fun r h => by cases h⟩ (.cons rfl (.cons rfl (.cons rfl (.cons rfl .nil)))) (.refl _) ?_
  rintro ⟨k, ls, ad1, c1, E, K⟩ ⟨hk, hV, hd, hK⟩
  dsimp only at hk hV hd hK
  dsimp only
  refine WC.seq ?_
  refine WC.region ?_
  refine WL.test (v_lss rfl rfl rfl) (.none rfl) rfl rfl (fun h9 => ?_) (fun h9 => ?_)
  ·
   refine WL.nil ?_
   refine WE.then_n ?_
   refine WC.seq ?_
   refine WC.cond_t rfl ?_
   refine WC.skip ?_
   refine WE.then_n ?_
   refine WC.seq ?_
   refine WC.block ?_
   refine WC.seq ?_
   refine WC.region ?_
   obtain ⟨r, hx⟩ : ∃ x, rs[k]? = some x := ⟨rs[k]'(by omega), List.getElem?_eq_getElem _⟩
   obtain ⟨b1, o1, ea1, r1⟩ := hr (by intro hh; have := rulesL_len rs; rw [hh] at this; simp at this; omega)
   have hro := hok r (List.mem_of_getElem? hx)
   refine WL.val ((v_indexAddr (b := b1) (off := o1) (lo := k) rfl (by show some (Value.slice ad _ _) = _; rw [ea1]) rfl Tryd.underlying74 sz_46 rfl (by omega))) (.none rfl) rfl rfl ?_
   refine WL.val (v_loadN (cs := r.cells) rfl rfl many_46 (RuL.len r) (rgIn (fun h => h) (Rg.seg RuL.len r1 hx))) (.none rfl) rfl rfl ?_
   refine WL.alloc rfl zero_46 (.none rfl) rfl rfl ?_
   intro g5 hg5
   refine WL.storeW rfl rfl rfl rfl many_46 rfl rfl (.none rfl) rfl ?_
   refine WL.as (L' := .row g5 r.cells :: (E ++ K)) rfl ?_
   refine WL.nil ?_
   refine WE.then_n ?_
   refine WC.held ([.row g5 r.cells]) mixed ?_
   refine WRH.first (g := 5) [0, 1, 2, 3, 4] (by kernel_rfl) (by kernel_rfl) (fun w hS => hS.sub (by repeat (first | exact List.Sublist.refl _ | exact List.nil_sublist _ | refine List.Sublist.cons_cons _ ?_ | refine List.Sublist.cons _ ?_ | refine List.sublist_append_of_sublist_right ?_))) ?_
   refine WH.val (v_move rfl rfl) (.none rfl) rfl rfl ?_
   refine WH.val (v_fieldAddr0 rfl rfl fld_46_0) (.none rfl) rfl rfl ?_
   refine WH.val (v_loadN rfl rfl many_43 rfl (segAt (m := 18) (ruC_match r))) (.none rfl) rfl rfl ?_
   refine WH.val (v_fieldAddr0 rfl rfl fld_46_1) (.none rfl) rfl rfl ?_
   refine WH.val (v_load1 rfl rfl one_44 (cellAt (ruC_acts r))) (.none rfl) rfl rfl ?_
   refine WH.nil ?_
   refine WRH.one (g := 4) 5 (by kernel_rfl) ?_
   refine WL.call rfl rfl ck_27 (.none rfl) rfl rfl ?_
   intro w1 hS
   refine (CloneAc_c w1 r.ad r.c r.acts (hro.rd.frm hS.frm (fun _ _ _ h => h)) (encL_one acL_one _) hro.len).mono ?_
   rintro e w' ⟨ad3, c3, E3, rfl, hV3, hS'⟩
   refine ⟨_, _, rfl, hS.join hS', ?_⟩
   refine WL.nilH (fun w hS => hS.sub (by repeat (first | exact List.Sublist.refl _ | exact List.nil_sublist _ | refine List.Sublist.cons_cons _ ?_ | refine List.Sublist.cons _ ?_ | refine List.sublist_append_of_sublist_right ?_))) ?_
   refine WRH.first (g := 3) [6] (by kernel_rfl) (by kernel_rfl) (fun w hS => hS.sub (by repeat (first | exact List.Sublist.refl _ | exact List.nil_sublist _ | refine List.Sublist.cons_cons _ ?_ | refine List.Sublist.cons _ ?_ | refine List.sublist_append_of_sublist_right ?_))) ?_
   refine WH.val (v_build rfl rfl zero_46 plc_46 rfl) (.none rfl) rfl rfl ?_
   refine WH.nil ?_
   refine WRH.one (g := 2) 7 (by kernel_rfl) ?_
   refine WL.buildSlice rfl rfl Tryd.underlying74 sz_46 zero_46 rfl (by decide) (by show some (splice (List.replicate 1 _).flatten 0 (RuL.cells ⟨r.m, ad3, c3, r.acts⟩)) = some (RuL.cells ⟨r.m, ad3, c3, r.acts⟩); rw [splice_all (by rw [RuL.len]; rfl)]) (.none rfl) rfl rfl ?_
   intro g19 hg19
   refine WL.to (L' := E ++ (.row g19 (RuL.cells ⟨r.m, ad3, c3, r.acts⟩) :: (E3 ++ (.row g5 r.cells :: K)))) (fun w hS => hS.permX) ?_
   refine WL.nilH (fun w hS => hS.sub (by repeat (first | exact List.Sublist.refl _ | exact List.nil_sublist _ | refine List.Sublist.cons_cons _ ?_ | refine List.Sublist.cons _ ?_ | refine List.sublist_append_of_sublist_right ?_))) ?_
   refine WRH.one (g := 1) 8 (by kernel_rfl) ?_
   refine WL.appendL rfl rfl rfl Tryd.underlying74 Tryd.underlying74 sz_46 by_46 zero_46 rfl rfl hV (new := RuL.cells ⟨r.m, ad3, c3, r.acts⟩) (fun _ => ⟨g19, 0, rfl, fun w hS => allAt (g := g19) w hS⟩) (RuL.len _) (encL_one1 ruC_one _) (by omega) (.none rfl) rfl rfl ?_
   intro ad20 c20 E20 hV20 hr20
   refine WL.nilH (fun w hS => hS.sub (by repeat (first | exact List.Sublist.refl _ | exact List.nil_sublist _ | refine List.Sublist.cons_cons _ ?_ | refine List.Sublist.cons _ ?_ | refine List.sublist_append_of_sublist_right ?_))) ?_
   refine WRH.first (g := 0) [9] (by kernel_rfl) (by kernel_rfl) (fun w hS => hS.sub (by repeat (first | exact List.Sublist.refl _ | exact List.nil_sublist _ | refine List.Sublist.cons_cons _ ?_ | refine List.Sublist.cons _ ?_ | refine List.sublist_append_of_sublist_right ?_))) ?_
   refine WH.val (v_assign rfl rfl) (.none rfl) rfl rfl ?_
   refine WH.nil ?_
   refine WRH.done (by kernel_rfl) ?_
   refine WE.block_n ?_
   refine WE.then_n ?_
   refine WC.region ?_
   refine WL.val (v_add rfl rfl rfl (w_i64 (by omega) (by omega))) (.none rfl) rfl rfl ?_
   refine WL.val (v_move rfl rfl) (.none rfl) rfl rfl ?_
   refine WL.nil ?_
   refine WE.next ⟨k + 1, ls ++ [⟨r.m, ad3, c3, r.acts⟩], ad20, c20, E20, E3 ++ K⟩ (by dsimp only; omega) ⟨by dsimp only; omega, by dsimp only; rw [show rulesL (ls ++ [⟨r.m, ad3, c3, r.acts⟩]) = rulesL ls ++ RuL.cells ⟨r.m, ad3, c3, r.acts⟩ from encL_snoc _ _ _]; exact hV20, by dsimp only; rw [List.take_add_one, hx, Option.toList_some, List.map_append, List.map_append, hd]; rfl, ?_⟩ (.int rfl (by dsimp only; omega) (.cons rfl (.cons rfl (.cons rfl .nil)))) (List.Sublist.append_left (.cons _ (List.Sublist.append_left (.cons _ (.refl _)) _)) _)
   intro e he
   rcases List.mem_append.1 he with he | he
   · exact (hK e he).sub fun z hz => List.mem_append_right _ hz
   · rw [List.mem_singleton.1 he]
     exact ⟨E3, hV3, fun z hz => List.mem_append_left _ hz⟩
  ·
   refine WL.nil ?_
   refine WE.then_n ?_
   refine WC.seq ?_
   refine WC.cond_f rfl ?_
   refine WC.exit ?_
   refine WE.then_exit ?_
   refine WE.then_exit ?_
   refine WE.block_hit ?_
   refine WE.then_n ?_
   refine WC.seq ?_
   refine WC.region ?_
   refine WL.val (v_move rfl rfl) (.none rfl) rfl rfl ?_
   refine WL.val (v_assign rfl rfl) (.none rfl) rfl rfl ?_
   refine WL.nil ?_
   refine WE.then_n ?_
   refine WC.ret ?_
   refine WE.ret1 (P := Tryd.prog) (.inl rfl) Tryd.results38 rfl ?_
   obtain rfl : k = rs.length := (by omega)
   rw [List.take_length] at hd
   exact fun w' h => ⟨ad1, c1, ls, E, K, rfl, hV, hd, hK, h⟩
theorem EnClone_c (w : World) (x : EnL) (hok : RuOk w x.r) :
    Calls Tryd.prog 23 #[.agg x.cells.toArray] w fun e w' => ∃ (y : EnL) (K : List Ent), e = .returned (.agg y.cells.toArray) ∧ y.d = x.d ∧ RuOwn K y.r ∧ St (fun _ => False) w w' K := by
  refine enter Tryd.func23 rfl Tryd.ntmps23 rfl (St.start (fun _ => False) w) ?_
  refine WC.seq ?_
  refine WC.region ?_
  refine WL.box rfl rfl rfl (.none rfl) rfl rfl ?_
  intro g1 hg1
  refine WL.as (L' := [.row g1 x.cells]) rfl ?_
  refine WL.alloc rfl zero_48 (.none rfl) rfl rfl ?_
  intro g2 hg2
  refine WL.nil ?_
  refine WE.then_n ?_
  refine WC.seq ?_
  refine WC.region ?_
  refine WL.val (v_fieldAddr0 rfl rfl fld_48_2) (.none rfl) rfl rfl ?_
  refine WL.val (v_loadN rfl rfl many_46 rfl (segAt (m := 19) (enC_rule x))) (.none rfl) rfl rfl ?_
  refine WL.buildSlice rfl rfl Tryd.underlying74 sz_46 zero_46 rfl (by decide) (by show some (splice (List.replicate 1 _).flatten 0 (x.r.cells)) = some x.r.cells; rw [splice_all (by rw [RuL.len]; rfl)]) (.none rfl) rfl rfl ?_
  intro g5 hg5
  refine WL.call rfl rfl ck_38 (.none rfl) rfl rfl ?_
  intro w1 hS
  refine (RsClone_c w1 (some ⟨g5, 0, none⟩) 1 [x.r] (fun _ => ⟨g5, 0, rfl, by show w1.rangeAt g5 0 (x.r.cells ++ []); rw [List.append_nil]; exact allAt (g := g5) w1 hS⟩) (fun r hr => by rw [List.mem_singleton.1 hr]; exact hok.frm hS.frm) (show 1 ≤ 100000 by decide)).mono ?_
  rintro e w' ⟨ad', c', ls, E, K, rfl, hV, hd, hK, hS'⟩
  obtain ⟨y, rfl⟩ : ∃ y, ls = [y] := (by
    have := congrArg List.length hd
    simp at this
    match ls, this with | [y], _ => exact ⟨y, rfl⟩)
  have hyd : y.d = x.r.d := (List.cons.inj hd).1
  obtain ⟨gq, rfl⟩ := hV.some_of (show 0 < 1 by decide)
  refine ⟨_, _, rfl, hS.join hS', ?_⟩
  refine WL.val (v_indexAddr (lo := 0) rfl rfl rfl Tryd.underlying74 sz_46 rfl (by show 0 < 1; omega)) (.none rfl) rfl rfl ?_
  refine WL.val (v_loadN (cs := y.cells) rfl rfl many_46 (RuL.len y) (fun w hS => by
  obtain ⟨b5, o5, ea5, r5⟩ := hV.rg (w := w) (fun e he => hS.holds e (by simp [he])) (by intro hh; have := rulesL_len [y]; rw [hh] at this; simp at this)
  cases ea5
  exact Rg.seg RuL.len (i := 0) r5 rfl)) (.none rfl) rfl rfl ?_
  refine WL.val (v_fieldAddr0 rfl rfl fld_48_2) (.none rfl) rfl rfl ?_
  refine WL.storeN rfl rfl rfl rfl many_46 rfl (by show 2 + 19 ≤ x.cells.length; rw [EnL.len]; omega) (.none rfl) rfl ?_
  refine WL.as (L' := (E ++ K) ++ [.row g5 x.r.cells, .row g2 (EnL.cells ⟨0, 0, ⟨⟨fun _ => 0, fun _ => 0⟩, none, 0, []⟩⟩), .row g1 (EnL.cells ⟨x.prio, x.mark, y⟩)]) (by
  show _ ++ [_, _, Ent.row g1 (splice x.cells 2 y.cells)] = _
  rw [splice_eq _ _ _ (by rw [EnL.len, RuL.len]; decide), RuL.len, List.drop_of_length_le (by rw [EnL.len]; omega)]
  rw [List.append_nil]
  rfl) ?_
  refine WL.nil ?_
  refine WE.then_n ?_
  refine WC.seq ?_
  refine WC.region ?_
  refine WL.val (v_loadN (cs := EnL.cells ⟨x.prio, x.mark, y⟩) rfl rfl many_48 (EnL.len _) (allAt (g := g1))) (.none rfl) rfl rfl ?_
  refine WL.storeW rfl rfl rfl rfl many_48 rfl rfl (.none rfl) rfl ?_
  refine WL.as (L' := (E ++ K) ++ [.row g5 x.r.cells, .row g2 (EnL.cells ⟨x.prio, x.mark, y⟩), .row g1 (EnL.cells ⟨x.prio, x.mark, y⟩)]) rfl ?_
  refine WL.nil ?_
  refine WE.then_n ?_
  refine WC.ret ?_
  refine WE.ret1 (P := Tryd.prog) (.inl rfl) Tryd.results23 (resRow rfl many_48 rfl) ?_
  exact fun w' h => ⟨⟨x.prio, x.mark, y⟩, K, rfl, by show (⟨x.prio, x.mark, y.d⟩ : EnD) = _; rw [hyd]; rfl, hK y (List.mem_singleton.2 rfl), h.dropX (E ++ [.row g5 x.r.cells, .row g2 (EnL.cells ⟨x.prio, x.mark, y⟩), .row g1 (EnL.cells ⟨x.prio, x.mark, y⟩)])⟩
/-- What Find answers: the first entry that is hit, in new memory. -/
def FindP (w w' : World) (es : List EnL) (H : Hd) (e : Ending) : Prop :=
  ((∀ x ∈ es, ¬ x.r.m.hits H) ∧ e = .returned (.tuple #[.agg (EnL.cells ⟨0, 0, ⟨⟨fun _ => 0, fun _ => 0⟩, none, 0, []⟩⟩).toArray, .bool false]) ∧ Frm (fun _ => False) w w') ∨
  ∃ (i : Nat) (x y : EnL) (K : List Ent), es[i]? = some x ∧ x.r.m.hits H ∧ (∀ j y, j < i → es[j]? = some y → ¬ y.r.m.hits H) ∧ y.d = x.d ∧ e = .returned (.tuple #[.agg y.cells.toArray, .bool true]) ∧ RuOwn K y.r ∧ St (fun _ => False) w w' K
/-- The same, whichever it is. -/
def FindQ (w w' : World) (es : List EnL) (H : Hd) (e : Ending) : Prop :=
  ∃ (b : Bool) (y : EnL) (K : List Ent), e = .returned (.tuple #[.agg y.cells.toArray, .bool b]) ∧ (b = false → ∀ x ∈ es, ¬ x.r.m.hits H) ∧ (b = true → ∃ (i : Nat) (x : EnL), es[i]? = some x ∧ x.r.m.hits H ∧ (∀ j y, j < i → es[j]? = some y → ¬ y.r.m.hits H) ∧ y.d = x.d) ∧ RuOwn K y.r ∧ St (fun _ => False) w w' K
theorem FindP.q {w w' : World} {es : List EnL} {H : Hd} {e : Ending} (h : FindP w w' es H e) : FindQ w w' es H e := by
  rcases h with ⟨h1, h2, h3⟩ | ⟨i, x, y, K, h1, h2, h3, h4, h5, h6, h7⟩
  · exact ⟨false, _, [], h2, fun _ => h1, fun e => (by cases e), ⟨[], Vec.nil 10, fun x h => by cases h⟩, (St.start _ w).ext h3⟩
  · exact ⟨true, y, K, h5, fun e => (by cases e), fun _ => ⟨i, x, h1, h2, h3, h4⟩, h6, h7⟩
theorem TFind_c (w : World) (g : Nat) (t : TbL) (H : Hd) (hg : w.cell? ⟨g, 1, none⟩ = some (.slice t.ad t.es.length t.c)) (hm : ∀ x ∈ t.es, x.r.m.In) (hH : H.In) (hG : GW w) (hn : t.es.length ≤ 1000000) (hr : Rg w t.ad (ensL t.es)) (hok : ∀ x ∈ t.es, RuOk w x.r) :
    Calls Tryd.prog 11 #[.pointer (some ⟨g, 0, none⟩), .agg (hdCells H)] w fun e w' => FindQ w w' t.es H e := by
  refine Calls.mono ?_ (fun e w' (h : FindP w w' t.es H e) => h.q)
  refine enter Tryd.func11 rfl Tryd.ntmps11 rfl (St.start (fun _ => False) w) ?_
  refine WC.seq ?_
  refine WC.region ?_
  refine WL.box rfl rfl rfl (.none rfl) rfl rfl ?_
  intro g3 hg3
  refine WL.alloc rfl zero_48 (.none rfl) rfl rfl ?_
  intro g4 hg4
  refine WL.val (v_assign rfl rfl) (.none rfl) rfl rfl ?_
  refine WL.nil ?_
  refine WE.then_n ?_
  refine WC.seq ?_
  refine WC.region ?_
  refine WL.val (v_move rfl rfl) (.none rfl) rfl rfl ?_
  refine WL.val (v_loadN rfl rfl many_28 rfl allAt) (.none rfl) rfl rfl ?_
  refine WL.call rfl rfl ck_22 (.none rfl) rfl rfl ?_
  intro w1 hS
  refine (at_c w1 g t H (hS.old (fun h => h) hg) hm hH (hG.keep (fun h => h) hS) hn (hr.frm hS.frm (fun _ _ _ h => h))).mono ?_
  rintro e w' ⟨⟨r, rfl, hr2⟩, hF⟩
  refine ⟨_, _, rfl, hS.ext hF, ?_⟩
  refine WL.val (v_assign rfl rfl) (.none rfl) rfl rfl ?_
  refine WL.nil ?_
  refine WE.then_n ?_
  refine WC.seq ?_
  refine WC.seq ?_
  refine WC.region ?_
  refine WL.val (v_move rfl rfl) (.none rfl) rfl rfl ?_
  refine WL.test (v_lss rfl rfl rfl) (.none rfl) rfl rfl (fun h11 => ?_) (fun h11 => ?_)
  ·
   refine WL.nil ?_
   refine WE.then_n ?_
   refine WC.cond_t rfl ?_
   refine WC.seq ?_
   refine WC.region ?_
   refine WL.val (v_build rfl rfl zero_48 plc_48 rfl) (.none rfl) rfl rfl ?_
   refine WL.storeW rfl rfl rfl rfl many_48 rfl rfl (.none rfl) rfl ?_
   refine WL.val (v_assign rfl rfl) (.none rfl) rfl rfl ?_
   refine WL.nil ?_
   refine WE.then_n ?_
   refine WC.ret ?_
   refine WE.then_ret ?_
   refine WE.ret2 (P := Tryd.prog) (.inl rfl) Tryd.results11 (resRow rfl many_48 rfl) rfl ?_
   rcases hr2 with ⟨_, hno⟩ | ⟨i, _, he, _⟩
   · exact fun w' h => .inl ⟨hno, rfl, h.frm⟩
   · omega
  ·
   refine WL.nil ?_
   refine WE.then_n ?_
   refine WC.cond_f rfl ?_
   refine WC.skip ?_
   refine WE.then_n ?_
   refine WC.seq ?_
   refine WC.region ?_
   refine WL.val (v_move rfl rfl) (.none rfl) rfl rfl ?_
   refine WL.val (v_nilCheck rfl rfl) (.none rfl) rfl rfl ?_
   refine WL.val (v_fieldAddr0 rfl rfl fld_60_1) (.none rfl) rfl rfl ?_
   obtain ⟨i, x, rfl, hx, hhit, hno⟩ : ∃ (i : Nat) (x : EnL), r = i ∧ t.es[i]? = some x ∧ x.r.m.hits H ∧ ∀ j y, j < i → t.es[j]? = some y → ¬ y.r.m.hits H := (by
     rcases hr2 with ⟨h, _⟩ | h
     · omega
     · exact h)
   have hil := (List.getElem?_eq_some_iff.1 hx).1
   obtain ⟨b1, o1, ea1, r1⟩ := hr (by intro hh; have := ensL_len t.es; rw [hh] at this; simp at this; omega)
   refine WL.val (v_load1 rfl rfl one_22 (cellOld (fun h => h) hg)) (.none rfl) rfl rfl ?_
   refine WL.val (v_move rfl rfl) (.none rfl) rfl rfl ?_
   refine WL.val ((v_indexAddr (b := b1) (off := o1) (lo := i) rfl (by show some (Value.slice t.ad _ _) = _; rw [ea1]) rfl Tryd.underlying22 sz_48 rfl (by omega))) (.none rfl) rfl rfl ?_
   refine WL.val (v_loadN (cs := x.cells) rfl rfl many_48 (EnL.len x) (rgIn (fun h => h) (Rg.seg EnL.len r1 hx))) (.none rfl) rfl rfl ?_
   refine WL.call rfl rfl ck_23 (.none rfl) rfl rfl ?_
   intro w1 hS
   refine (EnClone_c w1 x ((hok x (List.mem_of_getElem? hx)).frm hS.frm)).mono ?_
   rintro e w' ⟨y, K, rfl, hyd, hK, hS'⟩
   refine ⟨_, _, rfl, hS.join hS', ?_⟩
   refine WL.storeW rfl rfl rfl rfl many_48 rfl rfl (.none rfl) rfl ?_
   refine WL.val (v_assign rfl rfl) (.none rfl) rfl rfl ?_
   refine WL.nil ?_
   refine WE.then_n ?_
   refine WC.ret ?_
   refine WE.ret2 (P := Tryd.prog) (.inl rfl) Tryd.results11 (resRow rfl many_48 rfl) rfl ?_
   exact fun w' h => .inr ⟨i, x, y, K, hx, hhit, hno, hyd, rfl, hK, h.sub (List.sublist_append_left _ _)⟩
theorem TNew_c (w : World) (n : Int) (h : 0 ≤ n ∧ n ≤ 4096) : Calls Tryd.prog 8 #[.int .i64 n] w fun e w' => ∃ g, e = .returned (.tuple #[.pointer (some ⟨g, 0, none⟩), .int .i64 0]) ∧ St (fun _ => False) w w' [.row g (TbL.cells ⟨n, none, 0, []⟩)] := by
  refine enter Tryd.func8 rfl Tryd.ntmps8 rfl (St.start (fun _ => False) w) ?_
  refine WC.seq ?_
  refine WC.region ?_
  refine WL.val (v_assign rfl rfl) (.none rfl) rfl rfl ?_
  refine WL.val (v_assign rfl rfl) (.none rfl) rfl rfl ?_
  refine WL.nil ?_
  refine WE.then_n ?_
  refine WC.seq ?_
  refine WC.seq ?_
  refine WC.region ?_
  refine WL.val (v_move rfl rfl) (.none rfl) rfl rfl ?_
  refine WL.val ((v_lss rfl rfl rfl).f (by omega)) (.none rfl) rfl rfl ?_
  refine WL.val (v_move rfl rfl) (.none rfl) rfl rfl ?_
  refine WL.val (v_move rfl rfl) (.some rfl rfl rfl) rfl rfl ?_
  refine WL.val ((v_gtr rfl rfl rfl).f (by omega)) (.some rfl rfl rfl) rfl rfl ?_
  refine WL.val (v_pick_f rfl rfl rfl) (.none rfl) rfl rfl ?_
  refine WL.nil ?_
  refine WE.then_n ?_
  refine WC.cond_f rfl ?_
  refine WC.skip ?_
  refine WE.then_n ?_
  refine WC.seq ?_
  refine WC.region ?_
  refine WL.val (v_move rfl rfl) (.none rfl) rfl rfl ?_
  refine WL.val (v_build rfl rfl zero_60 plc_60 rfl) (.none rfl) rfl rfl ?_
  refine WL.box rfl rfl rfl (.none rfl) rfl rfl ?_
  intro g12 hg12
  refine WL.val (v_assign rfl rfl) (.none rfl) rfl rfl ?_
  refine WL.val (v_assign rfl rfl) (.none rfl) rfl rfl ?_
  refine WL.nil ?_
  refine WE.then_n ?_
  refine WC.ret ?_
  refine WE.ret2 (P := Tryd.prog) (.inl rfl) Tryd.results8 rfl rfl ?_
  exact fun w' h => ⟨_, rfl, h⟩
theorem TLen_c (w : World) (g : Nat) (t : TbL) (hg : w.cell? ⟨g, 1, none⟩ = some (.slice t.ad t.es.length t.c)) : Calls Tryd.prog 10 #[.pointer (some ⟨g, 0, none⟩)] w fun e w' => e = .returned (.int .i64 t.es.length) ∧ Frm (fun _ => False) w w' := by
  refine enter Tryd.func10 rfl Tryd.ntmps10 rfl (St.start (fun _ => False) w) ?_
  refine WC.seq ?_
  refine WC.region ?_
  refine WL.val (v_assign rfl rfl) (.none rfl) rfl rfl ?_
  refine WL.nil ?_
  refine WE.then_n ?_
  refine WC.seq ?_
  refine WC.seq ?_
  refine WC.region ?_
  refine WL.val (v_move rfl rfl) (.none rfl) rfl rfl ?_
  refine WL.val (v_eql_nil false rfl rfl Tryd.underlying34 rfl) (.none rfl) rfl rfl ?_
  refine WL.nil ?_
  refine WE.then_n ?_
  refine WC.cond_f rfl ?_
  refine WC.skip ?_
  refine WE.then_n ?_
  refine WC.seq ?_
  refine WC.region ?_
  refine WL.val (v_move rfl rfl) (.none rfl) rfl rfl ?_
  refine WL.val (v_nilCheck rfl rfl) (.none rfl) rfl rfl ?_
  refine WL.val (v_fieldAddr0 rfl rfl fld_60_1) (.none rfl) rfl rfl ?_
  refine WL.val (v_load1 rfl rfl one_22 (cellOld (fun h => h) hg)) (.none rfl) rfl rfl ?_
  refine WL.val (v_len_slice rfl rfl Tryd.underlying22) (.none rfl) rfl rfl ?_
  refine WL.val (v_assign rfl rfl) (.none rfl) rfl rfl ?_
  refine WL.nil ?_
  refine WE.then_n ?_
  refine WC.ret ?_
  refine WE.ret1 (P := Tryd.prog) (.inl rfl) Tryd.results10 rfl ?_
  exact fun w' h => ⟨rfl, h.frm⟩
theorem TRoom_c (w : World) (g : Nat) (t : TbL) (hm : 0 ≤ t.most ∧ t.most ≤ 4096) (hn : t.es.length ≤ 1000000) (h0 : w.cell? ⟨g, 0, none⟩ = some (.int .i64 t.most)) (hg : w.cell? ⟨g, 1, none⟩ = some (.slice t.ad t.es.length t.c)) : Calls Tryd.prog 13 #[.pointer (some ⟨g, 0, none⟩)] w fun e w' => e = .returned (.int .i64 (t.most - t.es.length)) ∧ Frm (fun _ => False) w w' := by
  refine enter Tryd.func13 rfl Tryd.ntmps13 rfl (St.start (fun _ => False) w) ?_
  refine WC.seq ?_
  refine WC.region ?_
  refine WL.val (v_assign rfl rfl) (.none rfl) rfl rfl ?_
  refine WL.nil ?_
  refine WE.then_n ?_
  refine WC.seq ?_
  refine WC.seq ?_
  refine WC.region ?_
  refine WL.val (v_move rfl rfl) (.none rfl) rfl rfl ?_
  refine WL.val (v_eql_nil false rfl rfl Tryd.underlying34 rfl) (.none rfl) rfl rfl ?_
  refine WL.nil ?_
  refine WE.then_n ?_
  refine WC.cond_f rfl ?_
  refine WC.skip ?_
  refine WE.then_n ?_
  refine WC.seq ?_
  refine WC.quiet mixed (by kernel_rfl) ?_
  refine WQ.val (v_move rfl rfl) (.none rfl) rfl rfl ?_
  refine WQ.val (v_nilCheck rfl rfl) (.none rfl) rfl rfl ?_
  refine WQ.val (v_fieldAddr0 rfl rfl fld_60_0) (.none rfl) rfl rfl ?_
  refine WQ.val (v_load1 rfl rfl one_3 (cellOld (fun h => h) h0)) (.none rfl) rfl rfl ?_
  refine WQ.val (v_move rfl rfl) (.none rfl) rfl rfl ?_
  refine WQ.val (v_nilCheck rfl rfl) (.none rfl) rfl rfl ?_
  refine WQ.val (v_fieldAddr0 rfl rfl fld_60_1) (.none rfl) rfl rfl ?_
  refine WQ.val (v_load1 rfl rfl one_22 (cellOld (fun h => h) hg)) (.none rfl) rfl rfl ?_
  refine WQ.val (v_len_slice rfl rfl Tryd.underlying22) (.none rfl) rfl rfl ?_
  refine WQ.val (v_sub rfl rfl rfl (w_i64 (by omega) (by omega))) (.none rfl) rfl rfl ?_
  refine WQ.val (v_assign rfl rfl) (.none rfl) rfl rfl ?_
  refine WQ.nil ?_
  refine WE.then_n ?_
  refine WC.ret ?_
  refine WE.ret1 (P := Tryd.prog) (.inl rfl) Tryd.results13 rfl ?_
  exact fun w' h => ⟨rfl, h.frm⟩
end Go.Proofs.YtkeonnnhogaggaaDoor
/- The laws of the table: same, big, the document's example. -/
namespace Go.Proofs.YtkeonnnhogaggaaDoor
open Go.RowKit

def ex1 : EnL := ⟨1, 0, ⟨mt0, none, 0, []⟩⟩
def ex2 : EnL := ⟨2, 5, ⟨Mt.one 8 80 (fullI 8), none, 0, []⟩⟩
theorem mt80_nz : (Mt.one 8 80 (fullI 8)).Nz := fun k hk => ⟨if_neg (by omega), if_neg (by omega)⟩
theorem mt80_in : (Mt.one 8 80 (fullI 8)).In := ⟨fun k => by show 0 ≤ (if k = 8 then (80 : Int) else 0) ∧ (if k = 8 then (80 : Int) else 0) ≤ _; split <;> decide, fun k => by show 0 ≤ (if k = 8 then fullI 8 else 0) ∧ (if k = 8 then fullI 8 else 0) ≤ _; split <;> decide⟩
theorem mt0_in : mt0.In := ⟨fun _ => ⟨Int.le_refl _, (by decide : (0 : Int) ≤ 18446744073709551615)⟩, fun _ => ⟨Int.le_refl _, (by decide : (0 : Int) ≤ 18446744073709551615)⟩⟩
theorem ex_in : ∀ x ∈ [ex1, ex2], x.d.In ∧ x.r.acts = [] ∧ x.r.ad = none := fun x hx => by
  rcases List.mem_cons.1 hx with rfl | hx
  · exact ⟨⟨by decide, by decide, mt0_in, fun _ _ => ⟨rfl, rfl⟩, fun a h => by cases h⟩, rfl, rfl⟩
  · obtain rfl := List.mem_singleton.1 hx
    exact ⟨⟨by decide, by decide, mt80_in, mt80_nz, fun a h => by cases h⟩, rfl, rfl⟩
theorem ex_errs : errs EnD.err ([ex1, ex2].map EnL.d) = 0 := by decide
theorem ex_apart : Apart (leftD [] [] ++ ([ex1, ex2].map EnL.d).map EnD.norm) := by
  show Apart [ex1.d.norm, ex2.d.norm]
  refine List.pairwise_cons.2 ⟨fun z hz => ?_, List.pairwise_singleton _ _⟩
  obtain rfl := List.mem_singleton.1 hz
  show ordE _ _ ≠ 0
  unfold ordE
  rw [if_pos (by show cmpI 2 1 ≠ 0; decide)]
  show cmpI 2 1 ≠ 0
  decide
theorem two_of_map {x y : EnD} : ∀ (es : List EnL), es.map EnL.d = [x, y] → ∃ a b, es = [a, b] ∧ a.d = x ∧ b.d = y
  | [], h => by simp at h
  | [_], h => by simp at h
  | [a, b], h => by
    simp only [List.map_cons, List.map_nil, List.cons.injEq] at h
    exact ⟨a, b, rfl, h.1, h.2.1⟩
  | _ :: _ :: _ :: _, h => by simp at h
/-- The table of the example. -/
theorem ex_table {es : List EnL} {code : Int} (h : ChangeP 9 [] [] ([ex1, ex2].map EnL.d) code (es.map EnL.d)) : code = 0 ∧ ∃ a b, es = [a, b] ∧ a.d = ex2.d.norm ∧ b.d = ex1.d.norm := by
  have hc := h.ok ex_errs (by decide) ex_apart
  obtain ⟨h1, h2⟩ := h.yes hc
  have h3 : Strict [ex2.d.norm, ex1.d.norm] := by
    refine List.pairwise_cons.2 ⟨fun z hz => ?_, List.pairwise_singleton _ _⟩
    obtain rfl := List.mem_singleton.1 hz
    show ordE _ _ < 0
    unfold ordE
    rw [if_pos (by show cmpI 1 2 ≠ 0; decide)]
    show cmpI 1 2 < 0
    decide
  have h4 := Strict.one h1 h3 (h2.trans (List.Perm.swap ..))
  exact ⟨hc, two_of_map es h4⟩
set_option maxHeartbeats 2000000 in
theorem Head19_c (w0 : World) (hG : GW w0) : Calls Tryd.prog 6 #[] w0 fun e w' => e = .returned (.bool true) ∧ Frm (fun _ => False) w0 w' := by
  refine enter Tryd.func6 rfl Tryd.ntmps6 rfl (St.start (fun _ => False) w0) ?_
  refine WC.seq ?_
  refine WC.region ?_
  refine WL.val (v_assign rfl rfl) (.none rfl) rfl rfl ?_
  refine WL.nil ?_
  refine WE.then_n ?_
  refine WC.seq ?_
  refine WC.region ?_
  refine WL.call rfl rfl ck_8 (.none rfl) rfl rfl ?_
  intro w1 hS
  refine (TNew_c w1 9 (by decide)).mono ?_
  rintro e w' ⟨g, rfl, hS'⟩
  refine ⟨_, _, rfl, hS.join hS', ?_⟩
  refine WL.val (v_move rfl rfl) (.none rfl) rfl rfl ?_
  refine WL.val (v_extract rfl rfl rfl) (.none rfl) rfl rfl ?_
  refine WL.val (v_extract rfl rfl rfl) (.none rfl) rfl rfl ?_
  refine WL.val (v_assign rfl rfl) (.none rfl) rfl rfl ?_
  refine WL.val (v_assign rfl rfl) (.none rfl) rfl rfl ?_
  refine WL.nil ?_
  refine WE.then_n ?_
  refine WC.seq ?_
  refine WC.region ?_
  refine WL.call rfl rfl ck_15 (.none rfl) rfl rfl ?_
  intro w hS
  refine Calls.then (MExact_c w 8 (by omega) 80 (by omega) (by decide) (hG.keep (fun h => h) hS)) hS ?_
  refine WL.val (v_move rfl rfl) (.none rfl) rfl rfl ?_
  refine WL.val (v_extract rfl rfl rfl) (.none rfl) rfl rfl ?_
  refine WL.val (v_extract rfl rfl rfl) (.none rfl) rfl rfl ?_
  refine WL.alloc rfl zero_43 (.none rfl) rfl rfl ?_
  intro g3 hg3
  refine WL.storeW rfl rfl rfl rfl many_43 rfl rfl (.none rfl) rfl ?_
  refine WL.val (v_assign rfl rfl) (.none rfl) rfl rfl ?_
  refine WL.nil ?_
  refine WE.then_n ?_
  refine WC.seq ?_
  refine WC.seq ?_
  refine WC.region ?_
  refine WL.val (v_move rfl rfl) (.none rfl) rfl rfl ?_
  refine WL.val ((v_neq rfl rfl rfl).f (by omega)) (.none rfl) rfl rfl ?_
  refine WL.val (v_move rfl rfl) (.none rfl) rfl rfl ?_
  refine WL.val (v_move rfl rfl) (.some rfl rfl rfl) rfl rfl ?_
  refine WL.val ((v_neq rfl rfl rfl).f (by omega)) (.some rfl rfl rfl) rfl rfl ?_
  refine WL.val (v_pick_f rfl rfl rfl) (.none rfl) rfl rfl ?_
  refine WL.val (v_move rfl rfl) (.none rfl) rfl rfl ?_
  refine WL.val (v_move rfl rfl) (.some rfl rfl rfl) rfl rfl ?_
  refine WL.val (v_eql_nil false rfl rfl Tryd.underlying34 rfl) (.some rfl rfl rfl) rfl rfl ?_
  refine WL.val (v_pick_f rfl rfl rfl) (.none rfl) rfl rfl ?_
  refine WL.val (v_move rfl rfl) (.none rfl) rfl rfl ?_
  refine WL.val (v_move rfl rfl) (.some rfl rfl rfl) rfl rfl ?_
  refine WL.val (v_build rfl rfl zero_48 plc_48 rfl) (.some rfl rfl rfl) rfl rfl ?_
  refine WL.val (v_loadN rfl rfl many_43 rfl allAt) (.some rfl rfl rfl) rfl rfl ?_
  refine WL.val (v_build rfl rfl zero_46 plc_46 rfl) (.some rfl rfl rfl) rfl rfl ?_
  refine WL.val (v_build rfl rfl zero_48 plc_48 rfl) (.some rfl rfl rfl) rfl rfl ?_
  refine WL.buildSlice rfl rfl Tryd.underlying22 sz_48 zero_48 rfl (by decide) rfl (.some rfl rfl rfl) rfl rfl ?_
  intro g31 hg31
  refine WL.as (L' := [.row g31 (ensL [ex1, ex2]), .row g3 (mtL (Mt.one 8 80 (fullI 8))), .row g (TbL.cells ⟨9, none, 0, []⟩)]) rfl ?_
  refine WL.call rfl rfl ck_9 (.some rfl rfl rfl) rfl rfl ?_
  intro w1 hS
  refine (Change_c (fun _ => False) w0 w1 [.row g31 (ensL [ex1, ex2]), .row g3 (mtL (Mt.one 8 80 (fullI 8)))] [] [] g ⟨9, none, 0, []⟩ none 0 [] (some ⟨g31, 0, none⟩) 2 [ex1, ex2] (fun h => h) hG (Vec.nil 21) (fun e he => by cases he) hS.permX (fun w h hn => absurd rfl hn) (fun w h hn => ⟨g31, 0, rfl, allAt (g := g31) w h⟩) (fun w h x hx => ⟨(ex_in x hx).1, fun hn => absurd (by rw [(ex_in x hx).2.1]; rfl) hn⟩) (by decide) List.Pairwise.nil (by decide) (by decide) (by decide)).mono ?_
  rintro e w' ⟨code, ⟨most, tad, tc, tes⟩, E', K', rfl, rfl, hCh, hV', hK', hS'⟩
  obtain ⟨rfl, a, b, rfl, had, hbd⟩ := ex_table hCh
  refine ⟨_, _, rfl, hS', ?_⟩
  refine WL.val ((v_neq rfl rfl rfl).f (by omega)) (.some rfl rfl rfl) rfl rfl ?_
  refine WL.val (v_pick_f rfl rfl rfl) (.none rfl) rfl rfl ?_
  refine WL.nil ?_
  refine WE.then_n ?_
  refine WC.cond_f rfl ?_
  refine WC.skip ?_
  refine WE.then_n ?_
  refine WC.seq ?_
  refine WC.region ?_
  refine WL.val (v_move rfl rfl) (.none rfl) rfl rfl ?_
  refine WL.val (v_build rfl rfl zero_28 plc_28 rfl) (.none rfl) rfl rfl ?_
  refine WL.call rfl rfl ck_11 (.none rfl) rfl rfl ?_
  intro w1 hS
  have hex : ∀ x ∈ [a, b], x.d.In ∧ RuOk w1 x.r := fun x hx => (by
    have h1 : ∃ z ∈ [ex1, ex2], x.d = z.d.norm := (by
      rcases List.mem_cons.1 hx with rfl | hx
      · exact ⟨ex2, by simp, had⟩
      · obtain rfl := List.mem_singleton.1 hx
        exact ⟨ex1, by simp, hbd⟩)
    obtain ⟨z, hz, e⟩ := h1
    refine ⟨by rw [e]; exact EnD.norm_in (ex_in z hz).1, (hK' x hx).ok (fun e he => hS.holds e (by simp [he])) ?_⟩
    have h2 : x.r.acts = normF z.r.acts := (congrArg (fun d : EnD => d.r.acts) e :)
    rw [h2, (ex_in z hz).2.1]
    decide)
  refine (TFind_c w1 g ⟨9, tad, tc, [a, b]⟩ h80 (hS.cell rfl) (fun x hx => (hex x hx).1.r.m) h80_in (hG.keep (fun h => h) hS) (show 2 ≤ 1000000 by decide) (hV'.rg fun e he => hS.holds e (by simp [he])) (fun x hx => (hex x hx).2)).mono ?_
  have hhit : a.r.m.hits h80 := (by
    rw [show a.r.m = Mt.one 8 80 (fullI 8) from (congrArg (fun d : EnD => d.r.m) had :)]; decide)
  rintro e w' ⟨bb, y, K, rfl, hb0, hb1, hK, hS'⟩
  obtain rfl : bb = true := (by cases bb with | true => rfl | false => exact absurd hhit (hb0 rfl a (List.mem_cons_self ..)))
  obtain ⟨i, x, hx, _, hno, hyd⟩ := hb1 rfl
  obtain rfl : i = 0 := Decidable.byContradiction fun hi => hno 0 a (by omega) rfl hhit
  cases hx
  have ep : y.prio = 2 := (congrArg EnD.prio (hyd.trans had) :)
  have em : y.mark = 5 := (congrArg EnD.mark (hyd.trans had) :)
  refine ⟨_, _, rfl, hS.join hS', ?_⟩
  refine WL.val (v_move rfl rfl) (.none rfl) rfl rfl ?_
  refine WL.val (v_extract rfl rfl rfl) (.none rfl) rfl rfl ?_
  refine WL.val (v_extract rfl rfl rfl) (.none rfl) rfl rfl ?_
  refine WL.alloc rfl zero_48 (.none rfl) rfl rfl ?_
  intro g5 hg5
  refine WL.storeW rfl rfl rfl rfl many_48 rfl rfl (.none rfl) rfl ?_
  refine WL.as (L' := .row g5 y.cells :: (K ++ (.row g (TbL.cells ⟨9, tad, tc, [a, b]⟩) :: (E' ++ (K' ++ [.row g31 (ensL [ex1, ex2]), .row g3 (mtL (Mt.one 8 80 (fullI 8)))]))))) rfl ?_
  refine WL.val (v_assign rfl rfl) (.none rfl) rfl rfl ?_
  refine WL.nil ?_
  refine WE.then_n ?_
  refine WC.seq ?_
  refine WC.region ?_
  refine WL.val (v_move rfl rfl) (.none rfl) rfl rfl ?_
  refine WL.val (v_move rfl rfl) (.none rfl) rfl rfl ?_
  refine WL.val (v_fieldAddr0 rfl rfl fld_48_1) (.some rfl rfl rfl) rfl rfl ?_
  refine WL.val (v_load1 rfl rfl one_3 (cellAt (v := .int .i64 y.mark) rfl)) (.some rfl rfl rfl) rfl rfl ?_
  refine WL.val ((v_eql rfl rfl rfl).t (em)) (.some rfl rfl rfl) rfl rfl ?_
  refine WL.val (v_pick_t rfl rfl rfl) (.none rfl) rfl rfl ?_
  refine WL.val (v_move rfl rfl) (.none rfl) rfl rfl ?_
  refine WL.val (v_fieldAddr0 rfl rfl fld_48_0) (.some rfl rfl rfl) rfl rfl ?_
  refine WL.val (v_load1 rfl rfl one_3 (cellAt (v := .int .i64 y.prio) rfl)) (.some rfl rfl rfl) rfl rfl ?_
  refine WL.val ((v_eql rfl rfl rfl).t (ep)) (.some rfl rfl rfl) rfl rfl ?_
  refine WL.val (v_pick_t rfl rfl rfl) (.none rfl) rfl rfl ?_
  refine WL.val (v_move rfl rfl) (.none rfl) rfl rfl ?_
  refine WL.val (v_move rfl rfl) (.some rfl rfl rfl) rfl rfl ?_
  refine WL.call rfl rfl ck_10 (.some rfl rfl rfl) rfl rfl ?_
  intro w hS
  refine Calls.then (TLen_c w g ⟨9, tad, tc, [a, b]⟩ (hS.cell rfl)) hS ?_
  refine WL.val ((v_eql rfl rfl rfl).t (rfl)) (.some rfl rfl rfl) rfl rfl ?_
  refine WL.val (v_pick_t rfl rfl rfl) (.none rfl) rfl rfl ?_
  refine WL.val (v_move rfl rfl) (.none rfl) rfl rfl ?_
  refine WL.val (v_move rfl rfl) (.some rfl rfl rfl) rfl rfl ?_
  refine WL.call rfl rfl ck_13 (.some rfl rfl rfl) rfl rfl ?_
  intro w hS
  refine Calls.then (TRoom_c w g ⟨9, tad, tc, [a, b]⟩ (show (0 : Int) ≤ 9 ∧ (9 : Int) ≤ 4096 by decide) (show 2 ≤ 1000000 by decide) (hS.cell rfl) (hS.cell rfl)) hS ?_
  refine WL.val ((v_eql rfl rfl rfl).t (rfl)) (.some rfl rfl rfl) rfl rfl ?_
  refine WL.val (v_pick_t rfl rfl rfl) (.none rfl) rfl rfl ?_
  refine WL.val (v_assign rfl rfl) (.none rfl) rfl rfl ?_
  refine WL.nil ?_
  refine WE.then_n ?_
  refine WC.ret ?_
  refine WE.ret1 (P := Tryd.prog) (.inl rfl) Tryd.results6 rfl ?_
  exact fun w' h => ⟨rfl, h.frm⟩
end Go.Proofs.YtkeonnnhogaggaaDoor
/- TableFull. -/
namespace Go.Proofs.YtkeonnnhogaggaaDoor
open Go.RowKit Go.Sort

def rE (i m : Int) : EnL := ⟨i, m, ⟨mt0, none, 0, []⟩⟩
def rD (i m : Int) : EnD := ⟨i, m, ⟨mt0, []⟩⟩
def rs (n : Nat) : List EnL := (List.range n).map fun i : Nat => rE i ((i : Int) % 2)
def rds (n : Nat) : List EnD := (List.range n).map fun i : Nat => rD i ((i : Int) % 2)
theorem rs_d (n : Nat) : (rs n).map EnL.d = rds n := by unfold rs rds; rw [List.map_map]; rfl
theorem rs_len (n : Nat) : (rs n).length = n := by unfold rs; rw [List.length_map, List.length_range]
theorem rds_len (n : Nat) : (rds n).length = n := by unfold rds; rw [List.length_map, List.length_range]
theorem rds_norm (n : Nat) : (rds n).map EnD.norm = rds n := by unfold rds; rw [List.map_map]; rfl
theorem rs_ramp (n : Nat) : Ramp (rs n) := fun k x hx => by
  unfold rs at hx
  rw [List.getElem?_map] at hx
  cases hq : (List.range n)[k]? with
  | none => rw [hq] at hx; cases hx
  | some j =>
    rw [hq] at hx
    have e : j = k := by
      have := List.getElem?_eq_some_iff.1 hq
      obtain ⟨h1, h2⟩ := this
      rw [List.getElem_range] at h2; exact h2.symm
    subst e
    injection hx with hx
    rw [← hx]; rfl
theorem rD_err {i m : Int} (h : 0 ≤ i ∧ i ≤ 1073741824) : (rD i m).err = 0 := by
  show (if 0 ≤ i ∧ i ≤ 1073741824 then RuD.err ⟨mt0, []⟩ else 1) = 0
  rw [if_pos h]
  decide
theorem rD_in {i m : Int} (hi : 0 ≤ i ∧ i ≤ 1000) (hm : 0 ≤ m ∧ m ≤ 1000) : (rD i m).In := ⟨⟨by show _ ≤ i; omega, by show i ≤ _; omega⟩, ⟨by show _ ≤ m; omega, by show m ≤ _; omega⟩, ⟨fun _ => ⟨Int.le_refl _, (by decide : (0 : Int) ≤ 18446744073709551615)⟩, fun _ => ⟨Int.le_refl _, (by decide : (0 : Int) ≤ 18446744073709551615)⟩⟩, fun _ _ => ⟨rfl, rfl⟩, fun a ha => (by cases ha)⟩
theorem ord_ne {a b : EnD} (h : a.prio ≠ b.prio) : ordE a b ≠ 0 := by
  unfold ordE
  have : cmpI b.prio a.prio ≠ 0 := fun e => h (cmpI_zero.1 e).symm
  rw [if_pos this]; exact this
theorem rds_apart (n : Nat) : Apart (rds n) := List.pairwise_map.2 (List.pairwise_lt_range.imp fun {i j} h => ord_ne (by show (i : Int) ≠ (j : Int); omega))
theorem rds_mem {n : Nat} {e : EnD} (h : e ∈ rds n) : ∃ i : Nat, i < n ∧ e = rD i ((i : Int) % 2) := by
  obtain ⟨i, hi, rfl⟩ := List.mem_map.1 h
  exact ⟨i, List.mem_range.1 hi, rfl⟩
theorem full1 {n : Nat} (hn : n ≤ 64) {code : Int} {T : List EnD} (h : ChangeP n [] [] (rds n) code T) : code = 0 ∧ Strict T ∧ T.Perm (rds n) ∧ T.length = n := by
  have he : errs EnD.err (rds n) = 0 := errs_zero.2 fun e he => by
    obtain ⟨i, hi, rfl⟩ := rds_mem he
    exact rD_err ⟨by omega, by omega⟩
  have e0 : leftD [] [] = [] := rfl
  have hc := h.ok he (by rw [rds_len, e0]; show (n : Int) ≤ n - 0; omega) (by rw [e0, rds_norm]; exact rds_apart n)
  obtain ⟨h1, h2⟩ := h.yes hc
  rw [e0, rds_norm] at h2
  exact ⟨hc, h1, h2, by rw [h2.length_eq]; exact rds_len n⟩
theorem full2 {n : Nat} (hn : n ≤ 64) {code : Int} {T T' : List EnD} (hl : T.length = n) (h : ChangeP n T [] [rD n 0] code T') : code = 30 ∧ T' = T := by
  have he : errs EnD.err [rD n 0] = 0 := errs_zero.2 fun e he => by
    rw [List.mem_singleton.1 he]; exact rD_err ⟨by omega, by omega⟩
  have hc := h.full he (by rw [leftD_nil, hl]; show (1 : Int) > _; omega)
  exact ⟨hc, h.not (by rw [hc]; decide)⟩
theorem left_odd {n : Nat} {T : List EnD} (hp : T.Perm (rds n)) : ∀ e ∈ leftD T [0], e.mark = 1 ∧ e.prio < n ∧ 0 ≤ e.prio := fun e he => by
  obtain ⟨h1, h2⟩ := List.mem_filter.1 he
  obtain ⟨i, hi, rfl⟩ := rds_mem (hp.mem_iff.1 h1)
  have h3 := of_decide_eq_true h2
  have h3 : ¬ (i : Int) % 2 ∈ [(0 : Int)] := h3
  rw [List.mem_singleton] at h3
  exact ⟨by show (i : Int) % 2 = 1; omega, by show (i : Int) < n; omega, by show (0 : Int) ≤ i; omega⟩
theorem full3 {n : Nat} (h0 : 1 ≤ n) (hn : n ≤ 64) {code : Int} {T T' : List EnD} (hs : Strict T) (hp : T.Perm (rds n)) (h : ChangeP n T [0] [rD n 7] code T') : code = 0 ∧ Strict T' ∧ T'.Perm (leftD T [0] ++ [rD n 7]) := by
  have he : errs EnD.err [rD n 7] = 0 := errs_zero.2 fun e he => by
    rw [List.mem_singleton.1 he]; exact rD_err ⟨by omega, by omega⟩
  have hl : (leftD T [0]).length < n := by
    have hm : rD 0 0 ∈ T := hp.mem_iff.2 (List.mem_map.2 ⟨0, List.mem_range.2 h0, rfl⟩)
    have h1 : (leftD T [0]).length ≤ T.length := List.length_filter_le _ _
    have h2 : T.length = n := by rw [hp.length_eq]; exact rds_len n
    by_cases e : (leftD T [0]).length = T.length
    · have := List.length_filter_eq_length_iff.1 e (rD 0 0) hm
      exact absurd (of_decide_eq_true this) (by decide)
    · omega
  have hc := h.ok he (by show (1 : Int) ≤ _; omega) (by
    show Apart (leftD T [0] ++ [rD n 7])
    refine List.pairwise_append.2 ⟨hs.apart.filter _, List.pairwise_singleton _ _, fun a ha b hb => ?_⟩
    rw [List.mem_singleton.1 hb]
    refine ord_ne ?_
    have := (left_odd hp a ha).2.1
    show a.prio ≠ (n : Int)
    omega)
  obtain ⟨h1, h2⟩ := h.yes hc
  exact ⟨hc, h1, h2⟩
theorem full4 {n : Nat} {T T' : List EnD} (hp : T.Perm (rds n)) (h : T'.Perm (leftD T [0] ++ [rD n 7])) : T'.length - (leftD T' [7]).length = 1 ∧ (leftD T' [7]).length + 1 = T'.length ∧ ∀ e ∈ leftD T' [7], e.mark = 1 := by
  have h1 : (leftD T' [7]).Perm (leftD (leftD T [0] ++ [rD n 7]) [7]) := h.filter _
  have h2 : leftD (leftD T [0] ++ [rD n 7]) [7] = leftD T [0] := by
    unfold leftD
    rw [List.filter_append]
    have a : List.filter (fun e : EnD => decide (e.mark ∉ [(7 : Int)])) [rD n 7] = [] := by
      have k : ¬ decide ((rD n 7).mark ∉ [(7 : Int)]) = true := fun k => (of_decide_eq_true k : ¬ (7 : Int) ∈ [(7 : Int)]) (List.mem_singleton.2 rfl)
      rw [List.filter_cons, if_neg k]; rfl
    rw [a, List.append_nil]
    refine List.filter_eq_self.2 fun e he => decide_eq_true fun k => ?_
    have := (left_odd hp e he).1
    rw [List.mem_singleton] at k
    omega
  rw [h2] at h1
  have e1 := h1.length_eq
  have e2 := h.length_eq
  rw [List.length_append] at e2
  have e2 : T'.length = (leftD T [0]).length + 1 := e2
  exact ⟨by omega, by omega, fun e he => (left_odd hp e (h1.mem_iff.1 he)).1⟩
theorem full5 {n : Nat} {code : Int} {T T' : List EnD} (hm : ∀ e ∈ T, e.mark = 1) (h : ChangeP n T [1] [] code T') : code = 0 ∧ T' = [] := by
  have e0 : leftD T [1] = [] := List.filter_eq_nil_iff.2 fun e he k => (of_decide_eq_true k : ¬ e.mark ∈ [(1 : Int)]) (by rw [hm e he]; exact List.mem_singleton.2 rfl)
  have hc := h.ok rfl (by rw [e0]; show (0 : Int) ≤ n - 0; omega) (by rw [e0]; exact List.Pairwise.nil)
  obtain ⟨-, h2⟩ := h.yes hc
  rw [e0] at h2
  exact ⟨hc, h2.eq_nil⟩
end Go.Proofs.YtkeonnnhogaggaaDoor
/- TableFull, walked. -/
namespace Go.Proofs.YtkeonnnhogaggaaDoor
open Go.RowKit Go.Sort

structure FuS where
  i : Nat
  ad : Option Addr
  c : Nat
  E : List Ent
theorem rs_snoc (i : Nat) : ensL (rs (i + 1)) = ensL (rs i) ++ (rE i ((i : Int) % 2)).cells := by
  unfold rs
  rw [List.range_succ, List.map_append]
  exact encL_snoc _ _ _
theorem rs_inok {n : Nat} (hn : n ≤ 64) (w : World) : ∀ x ∈ rs n, InOk w x := fun x hx => by
  obtain ⟨i, hi, rfl⟩ := List.mem_map.1 hx
  have := List.mem_range.1 hi
  exact ⟨(rD_in (i := (i : Int)) (m := (i : Int) % 2) ⟨by omega, by omega⟩ ⟨by omega, by omega⟩ :), fun h => absurd rfl h⟩
theorem rE_inok {i m : Int} (hi : 0 ≤ i ∧ i ≤ 1000) (hm : 0 ≤ m ∧ m ≤ 1000) (w : World) : ∀ x ∈ [rE i m], InOk w x := fun x hx => by
  rw [List.mem_singleton.1 hx]
  exact ⟨rD_in hi hm, fun h => absurd rfl h⟩
set_option maxRecDepth 8000 in
set_option maxHeartbeats 4000000 in
theorem TableFull_all (w0 : World) (hG : GW w0) (n0 : Int) : Calls Tryd.prog 4 #[.int .i64 n0] w0 fun e w' => e = .returned (.bool true) ∧ Frm (fun _ => False) w0 w' := by
  obtain ⟨m, hm⟩ : ∃ m : Nat, n0 % 64 = m := ⟨(n0 % 64).toNat, by omega⟩
  obtain ⟨n, hn⟩ : ∃ n : Nat, n = m + 1 := ⟨_, rfl⟩
  have hn1 : 1 ≤ n := by omega
  have hn64 : n ≤ 64 := by omega
  refine enter Tryd.func4 rfl Tryd.ntmps4 rfl (St.start (fun _ => False) w0) ?_
  refine WC.seq ?_
  refine WC.region ?_
  refine WL.val (v_assign rfl rfl) (.none rfl) rfl rfl ?_
  refine WL.nil ?_
  refine WE.then_n ?_
  refine WC.seq ?_
  refine WC.seq ?_
  refine WC.region ?_
  refine WL.call rfl rfl ck_6 (.none rfl) rfl rfl ?_
  intro w hS
  refine Calls.then (Head19_c w (hG.keep (fun h => h) hS)) hS ?_
  refine WL.val (v_not rfl rfl rfl) (.none rfl) rfl rfl ?_
  refine WL.nil ?_
  refine WE.then_n ?_
  refine WC.cond_f rfl ?_
  refine WC.skip ?_
  refine WE.then_n ?_
  refine WC.seq ?_
  refine WC.region ?_
  refine WL.val (v_move rfl rfl) (.none rfl) rfl rfl ?_
  refine WL.val ((v_and rfl rfl rfl (mask_i64' (i := 6) (m := 64) (by decide) (by decide) (by decide))).int hm) (.none rfl) rfl rfl ?_
  refine WL.val (v_add rfl rfl rfl (w_nat (r := n) (by omega) (by omega))) (.none rfl) rfl rfl ?_
  refine WL.val (v_assign rfl rfl) (.none rfl) rfl rfl ?_
  refine WL.nil ?_
  refine WE.then_n ?_
  refine WC.seq ?_
  refine WC.region ?_
  refine WL.val (v_move rfl rfl) (.none rfl) rfl rfl ?_
  refine WL.call rfl rfl ck_8 (.none rfl) rfl rfl ?_
  intro w1 hS
  refine (TNew_c w1 n (by omega)).mono ?_
  rintro e w' ⟨gT, rfl, hS'⟩
  refine ⟨_, _, rfl, hS.join hS', ?_⟩
  refine WL.val (v_move rfl rfl) (.none rfl) rfl rfl ?_
  refine WL.val (v_extract rfl rfl rfl) (.none rfl) rfl rfl ?_
  refine WL.val (v_extract rfl rfl rfl) (.none rfl) rfl rfl ?_
  refine WL.val (v_assign rfl rfl) (.none rfl) rfl rfl ?_
  refine WL.val (v_assign rfl rfl) (.none rfl) rfl rfl ?_
  refine WL.nil ?_
  refine WE.then_n ?_
  refine WC.seq ?_
  refine WC.seq ?_
  refine WC.region ?_
  refine WL.val (v_move rfl rfl) (.none rfl) rfl rfl ?_
  refine WL.val ((v_neq rfl rfl rfl).f (by omega)) (.none rfl) rfl rfl ?_
  refine WL.nil ?_
  refine WE.then_n ?_
  refine WC.cond_f rfl ?_
  refine WC.skip ?_
  refine WE.then_n ?_
  refine WC.seq ?_
  refine WC.region ?_
  refine WL.buildSlice rfl rfl Tryd.underlying22 sz_48 zero_48 rfl (by decide) rfl (.none rfl) rfl rfl ?_
  intro g19 hg19
  refine WL.val (v_assign rfl rfl) (.none rfl) rfl rfl ?_
  refine WL.nil ?_
  refine WE.then_n ?_
  refine WC.seq ?_
  refine WC.seq ?_
  refine WC.region ?_
  refine WL.val (v_assign rfl rfl) (.none rfl) rfl rfl ?_
  refine WL.nil ?_
  refine WE.then_n ?_
  refine WC.block ?_
  refine WC.loop (fun x : FuS => [(6, .int .i64 x.i), (0, .int .i64 n), (5, .slice x.ad x.i x.c), (3, .pointer (some ⟨gT, 0, none⟩))]) (fun x => x.E ++ [.row gT (TbL.cells ⟨n, none, 0, []⟩)]) (fun x => x.i ≤ n ∧ Vec 21 x.ad x.i x.c (ensL (rs x.i)) x.E) (fun x => n - x.i) ⟨0, some ⟨g19, 0, none⟩, 0, [.row g19 []]⟩ ⟨Nat.zero_le _, Vec.row (k := 0) (s := 21) (c := 0) rfl rfl (by omega)⟩ (.cons rfl (.cons rfl (.cons rfl (.cons rfl .nil)))) (.refl _) ?_
  rintro ⟨i, ad, c, E⟩ ⟨hi, hV⟩
  dsimp only at hi hV
  dsimp only
  refine WC.seq ?_
  refine WC.seq ?_
  refine WC.region ?_
  refine WL.val (v_move rfl rfl) (.none rfl) rfl rfl ?_
  refine WL.val (v_move rfl rfl) (.none rfl) rfl rfl ?_
  refine WL.test (v_lss rfl rfl rfl) (.none rfl) rfl rfl (fun h22 => ?_) (fun h22 => ?_)
  ·
   refine WL.nil ?_
   refine WE.then_n ?_
   refine WC.cond_t rfl ?_
   refine WC.skip ?_
   refine WE.then_n ?_
   refine WC.seq ?_
   refine WC.block ?_
   refine WC.region ?_
   refine WL.val (v_move rfl rfl) (.none rfl) rfl rfl ?_
   refine WL.val (v_move rfl rfl) (.none rfl) rfl rfl ?_
   refine WL.val (v_move rfl rfl) (.none rfl) rfl rfl ?_
   refine WL.val ((v_and rfl rfl rfl (mask_i64' (i := 1) (m := 2) (by decide) (by decide) (by decide)))) (.none rfl) rfl rfl ?_
   refine WL.val (v_build rfl rfl zero_48 plc_48 rfl) (.none rfl) rfl rfl ?_
   refine WL.buildSlice rfl rfl Tryd.underlying22 sz_48 zero_48 rfl (by decide) (by show some (splice (List.replicate 1 _).flatten 0 (rE i ((i : Int) % 2)).cells) = some (rE i ((i : Int) % 2)).cells; exact congrArg some (splice_all rfl)) (.none rfl) rfl rfl ?_
   intro g30 hg30
   refine WL.to (L' := E ++ (.row g30 (rE i ((i : Int) % 2)).cells :: [.row gT (TbL.cells ⟨n, none, 0, []⟩)])) (fun w hS => hS.permX) ?_
   refine WL.appendL rfl rfl rfl Tryd.underlying22 Tryd.underlying22 sz_48 by_48 zero_48 rfl rfl hV (new := (rE i ((i : Int) % 2)).cells) (fun _ => ⟨g30, 0, rfl, fun w hS => allAt (g := g30) w hS⟩) rfl rfl (by omega) (.none rfl) rfl rfl ?_
   intro ad31 c31 E31 hV31 hr31
   refine WL.val (v_assign rfl rfl) (.none rfl) rfl rfl ?_
   refine WL.nil ?_
   refine WE.block_n ?_
   refine WE.then_n ?_
   refine WC.region ?_
   refine WL.val (v_move rfl rfl) (.none rfl) rfl rfl ?_
   refine WL.val (v_add rfl rfl rfl (w_i64 (by omega) (by omega))) (.none rfl) rfl rfl ?_
   refine WL.val (v_assign rfl rfl) (.none rfl) rfl rfl ?_
   refine WL.nil ?_
   refine WE.to (L' := E31 ++ [.row gT (TbL.cells ⟨n, none, 0, []⟩)]) (fun w hS => hS.dropX [.row g30 (rE i ((i : Int) % 2)).cells]) ?_
   exact WE.next ⟨i + 1, ad31, c31, E31⟩ (by dsimp only; omega) ⟨by dsimp only; omega, by dsimp only; rw [rs_snoc]; exact hV31⟩ (.int rfl (by dsimp only; omega) (.cons rfl (.cons rfl (.cons rfl .nil)))) (.refl _)
  ·
   refine WL.nil ?_
   refine WE.then_n ?_
   refine WC.cond_f rfl ?_
   refine WC.exit ?_
   refine WE.then_exit ?_
   refine WE.then_exit ?_
   refine WE.block_hit ?_
   refine WE.then_n ?_
   refine WC.seq ?_
   refine WC.seq ?_
   refine WC.region ?_
   refine WL.val (v_move rfl rfl) (.none rfl) rfl rfl ?_
   refine WL.val (v_move rfl rfl) (.none rfl) rfl rfl ?_
   obtain rfl : i = n := (by omega)
   refine WL.call rfl rfl ck_9 (.none rfl) rfl rfl ?_
   intro w1 hS
   have hrl := rs_len i
   have hC := ChangeR_c (fun _ => False) w0 w1 E [] [] gT ⟨i, none, 0, []⟩ none 0 [] ad c (rs i) (fun h => h) hG (Vec.nil 21) (fun e he => by cases he) (hS.permX) (fun w h hn => absurd rfl hn) (fun w h => hV.rg fun e he => h.holds e he) (fun w h => rs_inok hn64 w) (by show (0 : Int) ≤ i ∧ (i : Int) ≤ 4096; omega) List.Pairwise.nil (by show 0 ≤ 5000; decide) (by show 0 ≤ 100000; decide) (.inr ⟨by omega, rs_ramp i⟩)
   rw [hrl, rs_d] at hC
   refine hC.mono ?_
   rintro e w' ⟨code1, t1, E1, K1, rfl, hm1, hC1, hV1, hK1, hS'⟩
   obtain ⟨rfl, hs1, hp1, hl1⟩ := full1 hn64 hC1
   refine ⟨_, _, rfl, hS', ?_⟩
   refine WL.val ((v_neq rfl rfl rfl).f (by omega)) (.none rfl) rfl rfl ?_
   refine WL.val (v_move rfl rfl) (.none rfl) rfl rfl ?_
   refine WL.val (v_move rfl rfl) (.some rfl rfl rfl) rfl rfl ?_
   refine WL.val (v_move rfl rfl) (.some rfl rfl rfl) rfl rfl ?_
   refine WL.val (v_build rfl rfl zero_48 plc_48 rfl) (.some rfl rfl rfl) rfl rfl ?_
   refine WL.buildSlice rfl rfl Tryd.underlying22 sz_48 zero_48 rfl (by decide) (by show some (splice (List.replicate 1 _).flatten 0 (rE i 0).cells) = some (rE i 0).cells; exact congrArg some (splice_all rfl)) (.some rfl rfl rfl) rfl rfl ?_
   intro g40 hg40
   refine WL.call rfl rfl ck_9 (.some rfl rfl rfl) rfl rfl ?_
   intro w1 hS
   refine (ChangeR_c (fun _ => False) w0 w1 (.row g40 (rE i 0).cells :: E) E1 K1 gT t1 none 0 [] (some ⟨g40, 0, none⟩) 1 [rE i 0] (fun h => h) hG hV1 hK1 hS.permX (fun w h hn => absurd rfl hn) (fun w h _ => ⟨g40, 0, rfl, by rw [show ensL [rE i 0] = (rE i 0).cells from List.append_nil _]; exact allAt (g := g40) w h⟩) (fun w h => rE_inok ⟨by omega, by omega⟩ ⟨by omega, by omega⟩ w) (by rw [hm1]; show (0 : Int) ≤ i ∧ (i : Int) ≤ 4096; omega) hs1 (by rw [← List.length_map (f := EnL.d)]; show t1.d.length ≤ 5000; omega) (by show 0 ≤ 100000; decide) (.inl (by show 1 < 20; decide))).mono ?_
   rintro e w' ⟨code2, t2, E2, K2, rfl, hm2, hC2, hV2, hK2, hS'⟩
   rw [hm1] at hC2
   obtain ⟨rfl, hd2⟩ := full2 hn64 hl1 hC2
   refine ⟨_, _, rfl, hS', ?_⟩
   refine WL.val ((v_neq rfl rfl rfl).f (by omega)) (.some rfl rfl rfl) rfl rfl ?_
   refine WL.val (v_pick_f rfl rfl rfl) (.none rfl) rfl rfl ?_
   refine WL.val (v_move rfl rfl) (.none rfl) rfl rfl ?_
   refine WL.val (v_move rfl rfl) (.some rfl rfl rfl) rfl rfl ?_
   refine WL.call rfl rfl ck_13 (.some rfl rfl rfl) rfl rfl ?_
   intro w hS
   refine Calls.then (TRoom_c w gT t2 (by rw [hm2, hm1]; show (0 : Int) ≤ i ∧ (i : Int) ≤ 4096; omega) (by rw [← List.length_map (f := EnL.d)]; show t2.d.length ≤ 1000000; rw [hd2]; omega) (hS.cell (g := gT) rfl) (hS.cell (g := gT) rfl)) hS ?_
   refine WL.val ((v_neq rfl rfl rfl).f ((by rw [hm2, hm1, ← List.length_map (f := EnL.d)]; show ¬ (i : Int) - (t2.d.length : Nat) ≠ 0; rw [hd2, hl1]; omega))) (.some rfl rfl rfl) rfl rfl ?_
   refine WL.val (v_pick_f rfl rfl rfl) (.none rfl) rfl rfl ?_
   refine WL.nil ?_
   refine WE.then_n ?_
   refine WC.cond_f rfl ?_
   refine WC.skip ?_
   refine WE.then_n ?_
   refine WC.seq ?_
   refine WC.region ?_
   have hl2 : t2.es.length = i := (by rw [← List.length_map (f := EnL.d)]; show t2.d.length = i; rw [hd2]; exact hl1)
   have hs2 : Strict t2.d := (by rw [hd2]; exact hs1)
   refine WL.val (v_move rfl rfl) (.none rfl) rfl rfl ?_
   refine WL.buildSlice rfl rfl Tryd.underlying31 sz_3 zero_3 rfl (by decide) (by show some (splice (List.replicate 1 _).flatten 0 [Value.int .i64 0]) = some [Value.int .i64 0]; exact congrArg some (splice_all rfl)) (.none rfl) rfl rfl ?_
   intro g50 hg50
   refine WL.val (v_move rfl rfl) (.none rfl) rfl rfl ?_
   refine WL.val (v_build rfl rfl zero_48 plc_48 rfl) (.none rfl) rfl rfl ?_
   refine WL.buildSlice rfl rfl Tryd.underlying22 sz_48 zero_48 rfl (by decide) (by show some (splice (List.replicate 1 _).flatten 0 (rE i 7).cells) = some (rE i 7).cells; exact congrArg some (splice_all rfl)) (.none rfl) rfl rfl ?_
   intro g53 hg53
   refine WL.call rfl rfl ck_9 (.none rfl) rfl rfl ?_
   intro w1 hS
   refine (ChangeR_c (fun _ => False) w0 w1 (.row g53 (rE i 7).cells :: .row g50 [Value.int .i64 0] :: (.row g40 (rE i 0).cells :: E)) E2 K2 gT t2 (some ⟨g50, 0, none⟩) 1 [0] (some ⟨g53, 0, none⟩) 1 [rE i 7] (fun h => h) hG hV2 hK2 hS.permX (fun w h _ => ⟨g50, 0, rfl, allAt (g := g50) w h⟩) (fun w h _ => ⟨g53, 0, rfl, by rw [show ensL [rE i 7] = (rE i 7).cells from List.append_nil _]; exact allAt (g := g53) w h⟩) (fun w h => rE_inok ⟨by omega, by omega⟩ ⟨by omega, by omega⟩ w) (by rw [hm2, hm1]; show (0 : Int) ≤ i ∧ (i : Int) ≤ 4096; omega) hs2 (by omega) (by show 1 ≤ 100000; decide) (.inl (by show 1 < 20; decide))).mono ?_
   rintro e w' ⟨code3, t3, E3, K3, rfl, hm3, hC3, hV3, hK3, hS'⟩
   rw [hm2, hm1, hd2] at hC3
   obtain ⟨rfl, hs3, hp3⟩ := full3 hn1 hn64 hs1 hp1 hC3
   obtain ⟨-, hq2, hq3⟩ := full4 hp1 hp3
   have hl3 : t3.es.length ≤ 5000 := (by
     rw [← List.length_map (f := EnL.d)]
     show t3.d.length ≤ 5000
     rw [hp3.length_eq, List.length_append]
     have h1 : (leftD t1.d [0]).length ≤ t1.d.length := List.length_filter_le _ _
     show _ + 1 ≤ _
     omega)
   refine ⟨_, _, rfl, hS', ?_⟩
   refine WL.val ((v_eql rfl rfl rfl).t (rfl)) (.none rfl) rfl rfl ?_
   refine WL.val (v_move rfl rfl) (.none rfl) rfl rfl ?_
   refine WL.val (v_move rfl rfl) (.some rfl rfl rfl) rfl rfl ?_
   refine WL.buildSlice rfl rfl Tryd.underlying31 sz_3 zero_3 rfl (by decide) (by show some (splice (List.replicate 1 _).flatten 0 [Value.int .i64 7]) = some [Value.int .i64 7]; exact congrArg some (splice_all rfl)) (.some rfl rfl rfl) rfl rfl ?_
   intro g58 hg58
   refine WL.call rfl rfl ck_14 (.some rfl rfl rfl) rfl rfl ?_
   intro w1 hS
   refine (Take_c (fun _ => False) w0 w1 (.row g58 [Value.int .i64 7] :: (.row g53 (rE i 7).cells :: .row g50 [Value.int .i64 0] :: (.row g40 (rE i 0).cells :: E))) E3 K3 gT t3 (some ⟨g58, 0, none⟩) 1 [7] hV3 hK3 hS.permX (fun w h _ => ⟨g58, 0, rfl, allAt (g := g58) w h⟩) hl3 (by show 1 ≤ 100000; decide)).mono ?_
   rintro e w' ⟨t4, E4, rfl, hm4, hd4, hl4, hV4, hK4, hS'⟩
   have hlen : t4.es.length + 1 = t3.es.length := (by
     have q3 : t3.d.length = t3.es.length := List.length_map _
     have q4 : t4.d.length = t4.es.length := List.length_map _
     rw [hd4] at q4
     omega)
   refine ⟨_, _, rfl, hS', ?_⟩
   refine WL.val ((v_eql rfl rfl rfl).t ((by omega))) (.some rfl rfl rfl) rfl rfl ?_
   refine WL.val (v_pick_t rfl rfl rfl) (.none rfl) rfl rfl ?_
   refine WL.val (v_move rfl rfl) (.none rfl) rfl rfl ?_
   refine WL.val (v_move rfl rfl) (.some rfl rfl rfl) rfl rfl ?_
   refine WL.buildSlice rfl rfl Tryd.underlying31 sz_3 zero_3 rfl (by decide) (by show some (splice (List.replicate 1 _).flatten 0 [Value.int .i64 1]) = some [Value.int .i64 1]; exact congrArg some (splice_all rfl)) (.some rfl rfl rfl) rfl rfl ?_
   intro g64 hg64
   refine WL.call rfl rfl ck_9 (.some rfl rfl rfl) rfl rfl ?_
   intro w1 hS
   refine (ChangeR_c (fun _ => False) w0 w1 (.row g64 [Value.int .i64 1] :: (.row g58 [Value.int .i64 7] :: (.row g53 (rE i 7).cells :: .row g50 [Value.int .i64 0] :: (.row g40 (rE i 0).cells :: E)))) E4 K3 gT t4 (some ⟨g64, 0, none⟩) 1 [1] none 0 [] (fun h => h) hG hV4 hK4 hS.permX (fun w h _ => ⟨g64, 0, rfl, allAt (g := g64) w h⟩) (fun w h hn => absurd rfl hn) (fun w h x hx => (by cases hx)) (by rw [hm4, hm3, hm2, hm1]; show (0 : Int) ≤ i ∧ (i : Int) ≤ 4096; omega) (by rw [hd4]; exact hs3.sublist (leftD_sub _ _)) (by omega) (by show 1 ≤ 100000; decide) (.inl (by show 0 < 20; decide))).mono ?_
   rintro e w' ⟨code5, t5, E5, K5, rfl, hm5, hC5, hV5, hK5, hS'⟩
   rw [hm4, hm3, hm2, hm1, hd4] at hC5
   obtain ⟨rfl, hd5⟩ := full5 hq3 hC5
   refine ⟨_, _, rfl, hS', ?_⟩
   refine WL.val ((v_eql rfl rfl rfl).t (rfl)) (.some rfl rfl rfl) rfl rfl ?_
   refine WL.val (v_pick_t rfl rfl rfl) (.none rfl) rfl rfl ?_
   refine WL.val (v_move rfl rfl) (.none rfl) rfl rfl ?_
   refine WL.val (v_move rfl rfl) (.some rfl rfl rfl) rfl rfl ?_
   refine WL.call rfl rfl ck_10 (.some rfl rfl rfl) rfl rfl ?_
   intro w hS
   refine Calls.then (TLen_c w gT t5 (hS.cell (g := gT) rfl)) hS ?_
   refine WL.val ((v_eql rfl rfl rfl).t ((by rw [← List.length_map (f := EnL.d)]; show ((t5.d.length : Nat) : Int) = 0; rw [hd5]; rfl))) (.some rfl rfl rfl) rfl rfl ?_
   refine WL.val (v_pick_t rfl rfl rfl) (.none rfl) rfl rfl ?_
   refine WL.val (v_assign rfl rfl) (.none rfl) rfl rfl ?_
   refine WL.nil ?_
   refine WE.then_n ?_
   refine WC.ret ?_
   refine WE.ret1 (P := Tryd.prog) (.inl rfl) Tryd.results4 rfl ?_
   exact fun w' h => ⟨rfl, h.frm⟩
end Go.Proofs.YtkeonnnhogaggaaDoor
/- carrefourref05.Copy and Same. -/
namespace Go.Proofs.YtkeonnnhogaggaaDoor
open Go.RowKit

end Go.Proofs.YtkeonnnhogaggaaDoor
/- What is known of an argument that came in: its cells, leaf by leaf. -/
namespace Go.Proofs.YtkeonnnhogaggaaDoor
open Go.RowKit

section
variable {P : Program} {w : World}

/-- These cells read as data of this type. -/
def Tree (P : Program) (w : World) (t : TypeId) (cs : List Value) : Prop := ∃ (H : Type) (enc : TypeId × Value → H) (m : Nat) (x : DataW H × List MemPlace), DataW.trod enc P w 0 (fun _ => true) true m t cs = some x
/-- A value that came in as an argument. -/
def Arg (P : Program) (w : World) (t : TypeId) (v : Value) : Prop := (∃ base, Value.okWide P w .any base t v) ∧ Tree P w t v.cells.toList

theorem Tree.step {t : TypeId} {cs : List Value} (h : Tree P w t cs) : ∃ (H : Type) (enc : TypeId × Value → H) (m : Nat) (x : DataW H × List MemPlace), DataW.trodStep enc P w 0 (fun _ => true) true (DataW.trod enc P w 0 (fun _ => true) true m) t cs = some x := by
  obtain ⟨H, enc, m, x, hx⟩ := h
  cases m with
  | zero => simp [DataW.trod] at hx
  | succ m => exact ⟨H, enc, m, x, hx⟩
theorem Tree.int {t : TypeId} {k : IntKind} {x : Value} (hu : P.underlying t = some (.int k)) (h : Tree P w t [x]) : ∃ n, x = .int k n ∧ (Lit.int k n).wf = true := by
  obtain ⟨H, enc, m, y, hy⟩ := h.step
  unfold DataW.trodStep at hy
  simp only [hu] at hy
  cases x <;> simp at hy
  obtain ⟨⟨rfl, hw⟩, _⟩ := hy
  exact ⟨_, rfl, hw⟩
def Leaves (P : Program) (w : World) : List TypeId → List Value → Prop
  | [], cs => cs = []
  | t :: ts, cs => ∃ x xs, cs = x :: xs ∧ Tree P w t [x] ∧ Leaves P w ts xs
def flat (P : Program) : Nat → TypeId → List TypeId
  | 0, t => [t]
  | n + 1, t => match P.underlying t with
    | some (.struct fs) => fs.toList.flatMap fun f => flat P n f.type
    | some (.array m e) => (List.replicate m (flat P n e)).flatten
    | _ => [t]
def contigB (P : Program) (total : Nat) : Nat → List Field → Bool
  | k, [] => k == total
  | k, f :: fs => f.offset == k && contigB P total (k + P.cellsOf f.type) fs
def layB (P : Program) : Nat → TypeId → Bool
  | 0, _ => false
  | n + 1, t => match P.underlying t with
    | some (.struct fs) => contigB P (P.cellsOf t) 0 fs.toList && fs.toList.all fun f => layB P n f.type
    | some (.array m e) => m * P.cellsOf e == P.cellsOf t && layB P n e
    | _ => true

/-! ### Arguments -/
theorem Arg.int {t : TypeId} {k : IntKind} {v : Value} (hu : P.underlying t = some (.int k)) (h : Arg P w t v) : ∃ n, v = .int k n ∧ (Lit.int k n).wf = true := by
  obtain ⟨⟨base, ho⟩, hT⟩ := h
  obtain ⟨n, rfl⟩ := WideShapes.okWide_int hu ho
  exact Tree.int hu hT
/-- A slice's elements: each reads as data. -/
def Elems (P : Program) (w : World) (e s : Nat) (a : Option Addr) (len : Nat) : Prop :=
  0 < len → ∃ b off, a = some ⟨b, off, none⟩ ∧ ∀ i, i < len → ∃ cs, cs.length = s ∧ w.rangeAt b (off + i * s) cs ∧ Tree P w e cs
end
end Go.Proofs.YtkeonnnhogaggaaDoor
