/- policy: the walk of a tree, as the code does it. -/
import Derived.Test.YtodaanhhnjkncaaDoorPol1
namespace Go.Proofs.YtodaanhhnjkncaaDoor
open Go.RowKit

mutual
/-- The errno, and how many were counted. -/
def walkT : Nd → Int → Bool → Int → Int × Int
  | .mk k f v m a c kids, deep, pred, n =>
    if 16 < deep ∨ 64 < n + 1 then (34, n + 1)
    else if fitsP k pred = false then (12, n + 1)
    else if argE (.mk k f v m a c kids) ≠ 0 then (argE (.mk k f v m a c kids), n + 1)
    else if formE (.mk k f v m a c kids) ≠ 0 then (formE (.mk k f v m a c kids), n + 1)
    else walkKs k 0 kids (deep + 1) (n + 1)
def walkKs (k : Int) : Nat → List Nd → Int → Int → Int × Int
  | _, [], _, n => (0, n)
  | i, t :: ts, deep, n => if (walkT t deep (predK k i) n).1 ≠ 0 then walkT t deep (predK k i) n else walkKs k (i + 1) ts deep (walkT t deep (predK k i) n).2
end
theorem walkT_eq (t : Nd) (deep : Int) (pred : Bool) (n : Int) : walkT t deep pred n =
    if 16 < deep ∨ 64 < n + 1 then (34, n + 1) else if fitsP t.kind pred = false then (12, n + 1) else if argE t ≠ 0 then (argE t, n + 1) else if formE t ≠ 0 then (formE t, n + 1) else walkKs t.kind 0 t.kids (deep + 1) (n + 1) := by
  cases t; rw [walkT]; rfl
mutual
theorem walkT_le : ∀ (t : Nd) (deep : Int) (pred : Bool) (n : Int), 0 ≤ n → (walkT t deep pred n).1 = 0 → n ≤ (walkT t deep pred n).2 ∧ (walkT t deep pred n).2 ≤ 64
  | .mk k f v m a c kids, deep, pred, n, h0, he => by
    rw [walkT] at he ⊢
    split at he
    · cases he
    · split at he
      · cases he
      · split at he
        · rename_i h; exact absurd he h
        · split at he
          · rename_i h; exact absurd he h
          · rename_i h1 h2 h3 h4
            rw [if_neg h1, if_neg h2, if_neg h3, if_neg h4]
            have := walkKs_le k 0 kids (deep + 1) (n + 1) (by omega) (by omega) he
            omega
theorem walkKs_le (k : Int) : ∀ (i : Nat) (ts : List Nd) (deep n : Int), 0 ≤ n → n ≤ 64 → (walkKs k i ts deep n).1 = 0 → n ≤ (walkKs k i ts deep n).2 ∧ (walkKs k i ts deep n).2 ≤ 64
  | _, [], _, n, _, h1, _ => by rw [walkKs]; exact ⟨Int.le_refl _, h1⟩
  | i, t :: ts, deep, n, h0, h1, he => by
    rw [walkKs] at he ⊢
    split at he
    · rename_i h; exact absurd he h
    · rename_i h
      rw [if_neg h]
      have a := walkT_le t deep (predK k i) n h0 (Classical.not_not.1 h)
      have b := walkKs_le k (i + 1) ts deep _ (by omega) a.2 he
      omega
end
theorem Nd.kid_size {t u : Nd} {j : Nat} (h : t.kids[j]? = some u) : SizeOf.sizeOf u < SizeOf.sizeOf t := by
  cases t with
  | mk k f v m a c kids =>
    have h1 := List.sizeOf_lt_of_mem (List.mem_of_getElem? h)
    show SizeOf.sizeOf u < SizeOf.sizeOf (Nd.mk k f v m a c kids)
    simp only [Nd.mk.sizeOf_spec]
    have : SizeOf.sizeOf (Nd.mk k f v m a c kids).kids = SizeOf.sizeOf kids := rfl
    omega
theorem Nd.At.kidAt {w : World} {t u : Nd} {j b o : Nat} (h : t.At w) (hu : t.kids[j]? = some u) (e : t.ad = some ⟨b, o, none⟩) : w.rangeAt b (o + j * 5) (ndL u) := by
  obtain ⟨⟨b', o', e', hr⟩, _⟩ := h.kid hu
  rw [e] at e'
  injection e' with e'
  injection e' with e1 e2
  subst e1 e2
  exact hr
theorem St.swap22 {p : Nat → Prop} {w0 w : World} {a b c d : Ent} {L : List Ent} (h : St p w0 w (a :: b :: c :: d :: L)) : St p w0 w (c :: d :: a :: b :: L) :=
  h.perm ((List.perm_append_comm (l₁ := [c, d]) (l₂ := [a, b])).append_right L)
def ckF (gc gw : Nat) : Value := .func (.func 85) #[] #[.pointer (some ⟨gc, 0, none⟩), .pointer (some ⟨gw, 0, none⟩)]
set_option maxHeartbeats 1000000 in
theorem Chk1_c (p : Nat → Prop) (hp : ∀ b, ¬ p b) (w0 : World) (hG : GW w0) (gc gw : Nat) : ∀ (N : Nat) (t : Nd), SizeOf.sizeOf t ≤ N → ∀ (L : List Ent) (w : World) (deep : Int) (pred : Bool) (n : Int), t.In → (∀ w, St p w0 w L → t.At w) → 0 ≤ n → n ≤ 64 → 1 ≤ deep → deep ≤ 17 →
    St p w0 w (.row gc [.int .i64 n] :: .row gw [ckF gc gw] :: L) →
    Calls Tryd.prog 85 #[ndV t, .int .i64 deep, .bool pred, .pointer (some ⟨gc, 0, none⟩), .pointer (some ⟨gw, 0, none⟩)] w
      fun e w' => e = .returned (.int .i64 (walkT t deep pred n).1) ∧ St p w0 w' (.row gc [.int .i64 (walkT t deep pred n).2] :: .row gw [ckF gc gw] :: L) := by
  intro N
  induction N with
  | zero => intro t hN; cases t; simp only [Nd.mk.sizeOf_spec] at hN; omega
  | succ N ih =>
    intro t hN L w deep pred n hI hAt hn0 hn1 hd0 hd1 hS
    have hlen := hI.nums.2.2.2.2
    refine enter Tryd.func85 rfl Tryd.ntmps85 rfl hS ?_
    refine WC.seq ?_
    refine WC.region ?_
    refine WL.box rfl rfl rfl (.none rfl) rfl rfl ?_
    intro g5 hg5
    refine WL.val (v_assign rfl rfl) (.none rfl) rfl rfl ?_
    refine WL.nil ?_
    refine WE.then_n ?_
    refine WC.seq ?_
    refine WC.region ?_
    refine WL.val (v_load1 rfl rfl one_3 (cellAt rfl)) (.none rfl) rfl rfl ?_
    refine WL.val (v_add rfl rfl rfl (w_i64 (by omega) (by omega))) (.none rfl) rfl rfl ?_
    refine WL.store1 rfl rfl rfl rfl one_3 (Nat.le_of_ble_eq_true rfl) (.none rfl) rfl ?_
    refine WL.nil ?_
    refine WE.then_n ?_
    refine WC.seq ?_
    refine WC.seq ?_
    refine WC.region ?_
    refine WL.val (v_move rfl rfl) (.none rfl) rfl rfl ?_
    refine WL.test (v_gtr rfl rfl rfl) (.none rfl) rfl rfl (fun h17 => ?_) (fun h17 => ?_)
    · -- 17T
      refine WL.val (v_move rfl rfl) (.none rfl) rfl rfl ?_
      refine WL.skip rfl rfl rfl rfl rfl rfl ?_
      refine WL.skip rfl rfl rfl rfl rfl rfl ?_
      refine WL.val (v_pick_t rfl rfl rfl) (.none rfl) rfl rfl ?_
      refine WL.nil ?_
      refine WE.then_n ?_
      refine WC.cond_t rfl ?_
      refine WC.seq ?_
      refine WC.region ?_
      refine WL.val (v_assign rfl rfl) (.none rfl) rfl rfl ?_
      refine WL.nil ?_
      refine WE.then_n ?_
      refine WC.ret ?_
      refine WE.then_ret ?_
      refine WE.ret1 (P := Tryd.prog) (.inl rfl) Tryd.results85 rfl ?_
      exact fun w' h => ⟨by rw [walkT_eq, if_pos (.inl h17)], by rw [walkT_eq, if_pos (.inl h17)]; exact h.tail⟩
    · -- 17F
      refine WL.val (v_move rfl rfl) (.none rfl) rfl rfl ?_
      refine WL.val (v_load1 rfl rfl one_3 (cellAt rfl)) (.some rfl rfl rfl) rfl rfl ?_
      refine WL.test (v_gtr rfl rfl rfl) (.some rfl rfl rfl) rfl rfl (fun h20 => ?_) (fun h20 => ?_)
      · -- 20T
        refine WL.val (v_pick_f rfl rfl rfl) (.none rfl) rfl rfl ?_
        refine WL.nil ?_
        refine WE.then_n ?_
        refine WC.cond_t rfl ?_
        refine WC.seq ?_
        refine WC.region ?_
        refine WL.val (v_assign rfl rfl) (.none rfl) rfl rfl ?_
        refine WL.nil ?_
        refine WE.then_n ?_
        refine WC.ret ?_
        refine WE.then_ret ?_
        refine WE.ret1 (P := Tryd.prog) (.inl rfl) Tryd.results85 rfl ?_
        exact fun w' h => ⟨by rw [walkT_eq, if_pos (.inr h20)], by rw [walkT_eq, if_pos (.inr h20)]; exact h.tail⟩
      · -- 20F
        refine WL.val (v_pick_f rfl rfl rfl) (.none rfl) rfl rfl ?_
        refine WL.nil ?_
        refine WE.then_n ?_
        refine WC.cond_f rfl ?_
        refine WC.skip ?_
        refine WE.then_n ?_
        refine WC.seq ?_
        refine WC.seq ?_
        refine WC.region ?_
        refine WL.val (v_fieldAddr0 rfl rfl fld_45_0) (.none rfl) rfl rfl ?_
        refine WL.val (v_load1 rfl rfl one_3 (cellAt rfl)) (.none rfl) rfl rfl ?_
        refine WL.val (v_move rfl rfl) (.none rfl) rfl rfl ?_
        refine WL.call rfl rfl ck_86 (.none rfl) rfl rfl ?_
        intro w hS
        refine Calls.then (Fits_c w t.kind pred) hS ?_
        generalize hb25 : fitsP t.kind pred = bb
        cases bb
        · -- 25F
          refine WL.val (v_not rfl rfl rfl) (.none rfl) rfl rfl ?_
          refine WL.nil ?_
          refine WE.then_n ?_
          refine WC.cond_t rfl ?_
          refine WC.seq ?_
          refine WC.region ?_
          refine WL.val (v_assign rfl rfl) (.none rfl) rfl rfl ?_
          refine WL.nil ?_
          refine WE.then_n ?_
          refine WC.ret ?_
          refine WE.then_ret ?_
          refine WE.ret1 (P := Tryd.prog) (.inl rfl) Tryd.results85 rfl ?_
          have e := walkT_eq t deep pred n
          rw [if_neg (by omega), if_pos hb25] at e
          exact fun w' h => ⟨by rw [e], by rw [e]; exact h.tail⟩
        · -- 25T
          refine WL.val (v_not rfl rfl rfl) (.none rfl) rfl rfl ?_
          refine WL.nil ?_
          refine WE.then_n ?_
          refine WC.cond_f rfl ?_
          refine WC.skip ?_
          refine WE.then_n ?_
          refine WC.seq ?_
          refine WC.seq ?_
          refine WC.region ?_
          refine WL.val (v_loadN rfl rfl many_45 rfl allAt) (.none rfl) rfl rfl ?_
          refine WL.call rfl rfl ck_87 (.none rfl) rfl rfl ?_
          intro w hS
          refine Calls.then (Argu_c w t hI (hG.keep (hp _) hS)) hS ?_
          refine WL.val (v_assign rfl rfl) (.none rfl) rfl rfl ?_
          refine WL.nil ?_
          refine WE.then_n ?_
          refine WC.seq ?_
          refine WC.region ?_
          refine WL.val (v_move rfl rfl) (.none rfl) rfl rfl ?_
          refine WL.test (v_neq rfl rfl rfl) (.none rfl) rfl rfl (fun h30 => ?_) (fun h30 => ?_)
          · -- 30T
            refine WL.nil ?_
            refine WE.then_n ?_
            refine WC.cond_t rfl ?_
            refine WC.seq ?_
            refine WC.region ?_
            refine WL.val (v_move rfl rfl) (.none rfl) rfl rfl ?_
            refine WL.val (v_assign rfl rfl) (.none rfl) rfl rfl ?_
            refine WL.nil ?_
            refine WE.then_n ?_
            refine WC.ret ?_
            refine WE.then_ret ?_
            refine WE.ret1 (P := Tryd.prog) (.inl rfl) Tryd.results85 rfl ?_
            have e := walkT_eq t deep pred n
            rw [if_neg (by omega), if_neg (by rw [hb25]; decide), if_pos h30] at e
            exact fun w' h => ⟨by rw [e], by rw [e]; exact h.tail⟩
          · -- 30F
            refine WL.nil ?_
            refine WE.then_n ?_
            refine WC.cond_f rfl ?_
            refine WC.skip ?_
            refine WE.then_n ?_
            refine WC.seq ?_
            refine WC.seq ?_
            refine WC.region ?_
            refine WL.val (v_loadN rfl rfl many_45 rfl allAt) (.none rfl) rfl rfl ?_
            refine WL.call rfl rfl ck_88 (.none rfl) rfl rfl ?_
            intro w hS
            refine Calls.then (Form_c w t hI) hS ?_
            refine WL.val (v_assign rfl rfl) (.none rfl) rfl rfl ?_
            refine WL.nil ?_
            refine WE.then_n ?_
            refine WC.seq ?_
            refine WC.region ?_
            refine WL.val (v_move rfl rfl) (.none rfl) rfl rfl ?_
            refine WL.test (v_neq rfl rfl rfl) (.none rfl) rfl rfl (fun h35 => ?_) (fun h35 => ?_)
            · -- 35T
              refine WL.nil ?_
              refine WE.then_n ?_
              refine WC.cond_t rfl ?_
              refine WC.seq ?_
              refine WC.region ?_
              refine WL.val (v_move rfl rfl) (.none rfl) rfl rfl ?_
              refine WL.val (v_assign rfl rfl) (.none rfl) rfl rfl ?_
              refine WL.nil ?_
              refine WE.then_n ?_
              refine WC.ret ?_
              refine WE.then_ret ?_
              refine WE.ret1 (P := Tryd.prog) (.inl rfl) Tryd.results85 rfl ?_
              have e := walkT_eq t deep pred n
              rw [if_neg (by omega), if_neg (by rw [hb25]; decide), if_neg h30, if_pos h35] at e
              exact fun w' h => ⟨by rw [e], by rw [e]; exact h.tail⟩
            · -- 35F
              refine WL.nil ?_
              refine WE.then_n ?_
              refine WC.cond_f rfl ?_
              refine WC.skip ?_
              refine WE.then_n ?_
              refine WC.seq ?_
              refine WC.seq ?_
              refine WC.region ?_
              refine WL.val (v_fieldAddr0 rfl rfl fld_45_4) (.none rfl) rfl rfl ?_
              refine WL.val (v_load1 rfl rfl one_43 (cellAt rfl)) (.none rfl) rfl rfl ?_
              refine WL.val (v_len_slice rfl rfl Tryd.underlying43) (.none rfl) rfl rfl ?_
              refine WL.val (v_move rfl rfl) (.none rfl) rfl rfl ?_
              refine WL.nil ?_
              refine WE.then_n ?_
              refine WC.block ?_
              refine WC.loop (fun x : Nat × Int => [(40, .int .i64 x.1), (39, .int .i64 t.kids.length), (38, .slice t.ad t.kids.length t.cap), (1, .int .i64 deep), (3, .pointer (some ⟨gc, 0, none⟩)), (4, .pointer (some ⟨gw, 0, none⟩)), (5, .pointer (some ⟨g5, 0, none⟩))]) (fun x => .row g5 (ndL t) :: .row gc [.int .i64 x.2] :: .row gw [ckF gc gw] :: L) (fun x => x.1 ≤ t.kids.length ∧ walkKs t.kind x.1 (t.kids.drop x.1) (deep + 1) x.2 = walkKs t.kind 0 t.kids (deep + 1) (n + 1) ∧ 0 ≤ x.2 ∧ x.2 ≤ 64) (fun x => t.kids.length - x.1) (0, n + 1) ⟨Nat.zero_le _, rfl, by dsimp only; omega, by dsimp only; omega⟩ (.cons rfl (.cons rfl (.cons rfl (.cons rfl (.cons rfl (.cons rfl (.cons rfl .nil))))))) (.refl _) ?_
              rintro ⟨k, c⟩ ⟨hk, hw, hc0, hc1⟩
              dsimp only at hk hw hc0 hc1
              dsimp only
              refine WC.seq ?_
              refine WC.region ?_
              refine WL.test (v_lss rfl rfl rfl) (.none rfl) rfl rfl (fun h41 => ?_) (fun h41 => ?_)
              · -- 41T
                refine WL.nil ?_
                refine WE.then_n ?_
                refine WC.seq ?_
                refine WC.cond_t rfl ?_
                refine WC.skip ?_
                refine WE.then_n ?_
                refine WC.seq ?_
                refine WC.block ?_
                refine WC.seq ?_
                refine WC.region ?_
                refine WL.val (v_move rfl rfl) (.none rfl) rfl rfl ?_
                obtain ⟨u, hu⟩ : ∃ u, t.kids[k]? = some u := ⟨t.kids[k]'(by omega), List.getElem?_eq_getElem _⟩
                obtain ⟨b, o, ea, _⟩ := ((hAt _ hS.tail.tail.tail).kid hu).1
                have hdr : t.kids.drop k = u :: t.kids.drop (k + 1) := (by
                  rw [List.drop_eq_getElem_cons (show k < t.kids.length by omega)]
                  congr 1
                  rw [List.getElem?_eq_getElem (show k < t.kids.length by omega)] at hu
                  exact Option.some.inj hu)
                rw [hdr, walkKs] at hw
                refine WL.val (v_indexAddr (b := b) (off := o) (lo := k) rfl (by show some (Value.slice t.ad _ _) = _; rw [ea]) rfl Tryd.underlying43 sz_45 rfl (by omega)) (.none rfl) rfl rfl ?_
                refine WL.val (v_loadN (cs := ndL u) rfl rfl many_45 rfl (fun w' hS' => (hAt w' hS'.tail.tail.tail).kidAt hu ea)) (.none rfl) rfl rfl ?_
                refine WL.alloc rfl zero_45 (.none rfl) rfl rfl ?_
                intro g12 hg12
                refine WL.val (v_assign rfl rfl) (.none rfl) rfl rfl ?_
                refine WL.storeW rfl rfl rfl rfl many_45 rfl rfl (.none rfl) rfl ?_
                refine WL.nil ?_
                refine WE.then_n ?_
                refine WC.seq ?_
                refine WC.orders mixed ?_
                refine WR.first (g := 6) [2, 3, 5] (by kernel_rfl) (by kernel_rfl) ?_
                refine WP.val (v_move rfl rfl) (.none rfl) rfl rfl ?_
                refine WP.val (v_add rfl rfl rfl (w_i64 (by omega) (by omega))) (.none rfl) rfl rfl ?_
                refine WP.val (v_move rfl rfl) (.none rfl) rfl rfl ?_
                refine WP.nil ?_
                refine WR.read (g := 2) [0, 1, 4, 6] (by kernel_rfl) (by kernel_rfl) (by kernel_rfl) (by kernel_rfl) rfl ?_
                refine WQ.val (v_load1 rfl rfl one_139 (cellAt rfl)) (.none rfl) rfl rfl ?_
                refine WQ.val (v_loadN rfl rfl many_45 rfl allAt) (.none rfl) rfl rfl ?_
                refine WQ.val (v_loadN rfl rfl many_45 rfl allAt) (.none rfl) rfl rfl ?_
                refine WQ.call _ rfl rfl ck_89 (.none rfl) rfl rfl (fun w hS => Calls.still (PredKid_c w t k) hS) ?_
                refine WQ.nilR ?_
                refine WR.ones (g := 1) [7] (by kernel_rfl) ?_
                refine WL.callV rfl rfl rfl ck_85 (.none rfl) rfl rfl ?_
                intro w1 hS1
                refine (ih u (by have := Nd.kid_size hu; omega) (.row g12 (ndL u) :: .row g5 (ndL t) :: L) w1 (deep + 1) (predK t.kind k) c (hI.kids.get _ _ _ hu) (fun w' hS' => ((hAt w' hS'.tail.tail).kid hu).2) hc0 hc1 (by omega) (by omega) hS1.swap22).mono ?_
                rintro e w' ⟨rfl, hS'⟩
                refine ⟨_, _, rfl, hS'.swap22, ?_⟩
                refine WL.nilR ?_
                refine WR.first (g := 0) [8] (by kernel_rfl) (by kernel_rfl) ?_
                refine WP.val (v_assign rfl rfl) (.none rfl) rfl rfl ?_
                refine WP.nil ?_
                refine WR.done (by kernel_rfl) ?_
                refine WE.then_n ?_
                refine WC.seq ?_
                refine WC.region ?_
                refine WL.val (v_move rfl rfl) (.none rfl) rfl rfl ?_
                refine WL.test (v_neq rfl rfl rfl) (.none rfl) rfl rfl (fun h54 => ?_) (fun h54 => ?_)
                · -- 54T
                  refine WL.nil ?_
                  refine WE.then_n ?_
                  refine WC.cond_t rfl ?_
                  refine WC.seq ?_
                  refine WC.region ?_
                  refine WL.val (v_move rfl rfl) (.none rfl) rfl rfl ?_
                  refine WL.val (v_assign rfl rfl) (.none rfl) rfl rfl ?_
                  refine WL.nil ?_
                  refine WE.then_n ?_
                  refine WC.ret ?_
                  refine WE.block_ret ?_
                  refine WE.then_ret ?_
                  refine WE.then_ret ?_
                  refine WE.block_ret ?_
                  refine WE.then_ret ?_
                  refine WE.ret1 (P := Tryd.prog) (.inl rfl) Tryd.results85 rfl ?_
                  have e := walkT_eq t deep pred n
                  rw [if_pos h54] at hw
                  rw [if_neg (by omega), if_neg (by rw [hb25]; decide), if_neg h30, if_neg h35, ← hw] at e
                  exact fun w' h => ⟨by rw [e], by rw [e]; exact h.tail.tail⟩
                · -- 54F
                  refine WL.nil ?_
                  refine WE.then_n ?_
                  refine WC.cond_f rfl ?_
                  refine WC.skip ?_
                  refine WE.block_n ?_
                  refine WE.then_n ?_
                  refine WC.region ?_
                  refine WL.val (v_add rfl rfl rfl (w_i64 (by omega) (by omega))) (.none rfl) rfl rfl ?_
                  refine WL.val (v_move rfl rfl) (.none rfl) rfl rfl ?_
                  refine WL.nil ?_
                  have h54' := Classical.not_not.1 h54
                  rw [if_neg (fun q => q h54')] at hw
                  have hle := walkT_le u (deep + 1) (predK t.kind k) c hc0 h54'
                  exact WE.next (k + 1, (walkT u (deep + 1) (predK t.kind k) c).2) (by dsimp only; omega) ⟨by dsimp only; omega, hw, by dsimp only; omega, by dsimp only; omega⟩ (.int rfl (by dsimp only; omega) (.cons rfl (.cons rfl (.cons rfl (.cons rfl (.cons rfl (.cons rfl .nil))))))) (.cons _ (.refl _))
              · -- 41F
                refine WL.nil ?_
                refine WE.then_n ?_
                refine WC.seq ?_
                refine WC.cond_f rfl ?_
                refine WC.exit ?_
                refine WE.then_exit ?_
                refine WE.then_exit ?_
                refine WE.block_hit ?_
                refine WE.then_n ?_
                refine WC.seq ?_
                refine WC.region ?_
                refine WL.val (v_assign rfl rfl) (.none rfl) rfl rfl ?_
                refine WL.nil ?_
                refine WE.then_n ?_
                refine WC.ret ?_
                refine WE.ret1 (P := Tryd.prog) (.inl rfl) Tryd.results85 rfl ?_
                obtain rfl : k = t.kids.length := (by omega)
                have e := walkT_eq t deep pred n
                rw [List.drop_length, walkKs] at hw
                rw [if_neg (by omega), if_neg (by rw [hb25]; decide), if_neg h30, if_neg h35, ← hw] at e
                exact fun w' h => ⟨by rw [e], by rw [e]; exact h.tail⟩
end Go.Proofs.YtodaanhhnjkncaaDoor
