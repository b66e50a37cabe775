/- Texts joined: engine, contracts and laws, in the order in which they build. -/
import Derived.Test.YtpjbofodllhjbaaDoorBbBgpForm
/- attr: all attributes' bytes. -/
namespace Go.Proofs.YtpjbofodllhjbaaDoor
open Go.RowKit

theorem Vec.src {s k c : Nat} {ad : Option Addr} {xs : List Value} {E L : List Ent} (hV : Vec s ad k c xs E) (hm : ∀ e ∈ E, e ∈ L) : 0 < xs.length → ∃ b o, ad = some ⟨b, o, none⟩ ∧ ∀ (p : Nat → Prop) (w0 w : World), St p w0 w L → w.rangeAt b o xs := fun hn => by
  rcases hV with ⟨_, _, _, rfl, _⟩ | ⟨g, cs, rfl, rfl, hx, hcl, hk⟩
  · simp at hn
  · refine ⟨g, 0, rfl, fun p w0 w hS j v hj => ?_⟩
    have hR : Row w g cs := hS.holds (.row g cs) (hm _ (List.mem_cons_self ..))
    rw [← hx, List.getElem?_take] at hj
    split at hj
    · rw [Nat.zero_add]; exact hR.cell hj
    · cases hj
def flagI (k : Nat) : Int := if k = 0 then 0 else if k = 4 then 128 else if k = 7 then 192 else if k = 8 then 192 else 64
theorem flagI_ok {k : Nat} (h : 1 ≤ k) : flagI k = 64 ∨ flagI k = 128 ∨ flagI k = 192 ∨ flagI k = 224 := by
  unfold flagI
  repeat' split
  all_goals omega
/-- The flags of the attributes, as the program has them. -/
def GF (w : World) : Prop := ∀ i, i < 9 → w.cell? ⟨0, i, none⟩ = some (.int .i64 (flagI i))
theorem GF.keep {p : Nat → Prop} {w0 w : World} {L : List Ent} (hp : ¬ p 0) (h : GF w0) (hS : St p w0 w L) : GF w := fun i hi => hS.old hp (h i hi)
def knownE (a : AtL) (t : Nat) : List Int := if hasB a.has t then putE (flagI t) t (valE a t) else []
def bodyA (a : AtL) : List Int := ((List.range' 1 8).flatMap (knownE a)) ++ a.others.flatMap fun o => putE 224 o.ty o.val
def encE (a : AtL) : Int := if chkA a then if (a.others.any fun o => decide (4096 < o.val.length)) || decide (4096 < (bodyA a).length) then 6 else 0 else 1
def outA (a : AtL) : List Int := if encE a = 0 then bodyA a else []
theorem segs_len {ss : List SegL} (h : ss.all segB = true) : (ss.flatMap segE).length ≤ 512 * ss.length := by
  induction ss with
  | nil => simp
  | cons s ss ih =>
    rw [List.all_cons, Bool.and_eq_true] at h
    have h1 := ih h.2
    have h2 := h.1
    unfold segB at h2
    rw [Bool.and_eq_true] at h2
    have h3 := of_decide_eq_true h2.1
    rw [List.flatMap_cons, List.length_append, segE_len, List.length_cons]
    omega
theorem valE_len {a : AtL} {t : Nat} (h : goodB a t = true) : (valE a t).length ≤ if t = 2 then 512 * a.path.length else 1024 := by
  unfold goodB at h
  unfold valE
  by_cases h1 : t = 1
  · subst h1; simp [numB_len]
  by_cases h2 : t = 2
  · subst h2
    rw [if_neg (by decide), if_pos rfl] at h
    rw [if_neg (by decide), if_pos rfl, if_pos rfl]
    exact segs_len h
  by_cases h3 : t = 3
  · subst h3; simp [numB_len]
  by_cases h4 : t = 4
  · subst h4; simp [numB_len]
  by_cases h5 : t = 5
  · subst h5; simp [numB_len]
  by_cases h7 : t = 7
  · subst h7; simp [numB_len]
  by_cases h8 : t = 8
  · subst h8
    rw [if_neg (by decide), if_neg (by decide), if_neg (by decide), if_neg (by decide), if_neg (by decide), if_neg (by decide), if_pos rfl] at h
    unfold commsB at h
    rw [Bool.and_eq_true] at h
    have := of_decide_eq_true h.2
    rw [if_neg (by decide), if_neg (by decide), if_neg (by decide), if_neg (by decide), if_neg (by decide), if_neg (by decide), if_pos rfl, flat_len2, if_neg (by decide)]
    omega
  · simp [h1, h2, h3, h4, h5, h7, h8]
theorem chk_good {a : AtL} (h : chkA a = true) {t : Nat} (h1 : 1 ≤ t) (h2 : t ≤ 8) (hb : hasB a.has t = true) : goodB a t = true := by
  unfold chkA at h
  rw [Bool.and_eq_true, Bool.and_eq_true] at h
  have := List.all_eq_true.1 h.1.2 t (List.mem_range'_1.2 ⟨h1, by omega⟩)
  unfold eachB at this
  rw [hb] at this
  exact this
set_option maxHeartbeats 2000000 in
theorem AEnc_g (w0 : World) (a : AtL) (hA : a.At w0) (hI : a.In) (hG : GF w0) (hP : a.path.length ≤ 1100) (hO : a.others.length ≤ 300) :
    Calls Tryd.prog 72 #[.agg a.cells.toArray] w0 fun e w' => ∃ v, e = .returned (.tuple #[v, .int .i64 (encE a)]) ∧ OwnB w0 w' (outA a) v := by
  refine enter Tryd.func72 rfl Tryd.ntmps72 rfl (St.start (fun _ => False) w0) ?_
  refine WC.seq ?_
  refine WC.region ?_
  refine WL.box rfl rfl rfl (.none rfl) rfl rfl ?_
  intro g1 hg1
  refine WL.val (v_assign rfl rfl) (.none rfl) rfl rfl ?_
  refine WL.val (v_assign rfl rfl) (.none rfl) rfl rfl ?_
  refine WL.nil ?_
  refine WE.then_n ?_
  refine WC.seq ?_
  refine WC.seq ?_
  refine WC.region ?_
  refine WL.val (v_loadN rfl rfl many_41 rfl allAt) (.none rfl) rfl rfl ?_
  refine WL.call rfl rfl ck_88 (.none rfl) rfl rfl ?_
  intro w hS
  refine Calls.then (ACheck_c w a (hA.st hS) hI) hS ?_
  generalize hc : chkA a = bc
  cases bc
  · -- 10F
    refine WL.val (v_assign rfl rfl) (.none rfl) rfl rfl ?_
    refine WL.nil ?_
    refine WE.then_n ?_
    refine WC.seq ?_
    refine WC.region ?_
    refine WL.val (v_move rfl rfl) (.none rfl) rfl rfl ?_
    refine WL.val ((v_neq rfl rfl rfl).t ((by decide))) (.none rfl) rfl rfl ?_
    refine WL.nil ?_
    refine WE.then_n ?_
    refine WC.cond_t rfl ?_
    refine WC.seq ?_
    refine WC.region ?_
    refine WL.val (v_move rfl rfl) (.none rfl) rfl rfl ?_
    refine WL.val (v_assign rfl rfl) (.none rfl) rfl rfl ?_
    refine WL.val (v_assign rfl rfl) (.none rfl) rfl rfl ?_
    refine WL.nil ?_
    refine WE.then_n ?_
    refine WC.ret ?_
    refine WE.then_ret ?_
    refine WE.ret2 (P := Tryd.prog) (.inl rfl) Tryd.results72 rfl rfl ?_
    have he : encE a = 1 := (by unfold encE; rw [hc]; rfl)
    have ho : outA a = [] := (by unfold outA; rw [he]; rfl)
    rw [he, ho]
    exact fun w' h => ⟨_, rfl, OwnB.of (E := []) (xs := []) (Vec.nil 1) h rfl⟩
  · -- 10T
    refine WL.val (v_assign rfl rfl) (.none rfl) rfl rfl ?_
    refine WL.nil ?_
    refine WE.then_n ?_
    refine WC.seq ?_
    refine WC.region ?_
    refine WL.val (v_move rfl rfl) (.none rfl) rfl rfl ?_
    refine WL.val ((v_neq rfl rfl rfl).f ((by decide))) (.none rfl) rfl rfl ?_
    refine WL.nil ?_
    refine WE.then_n ?_
    refine WC.cond_f rfl ?_
    refine WC.skip ?_
    refine WE.then_n ?_
    refine WC.seq ?_
    refine WC.region ?_
    refine WL.val (v_assign rfl rfl) (.none rfl) rfl rfl ?_
    refine WL.nil ?_
    refine WE.then_n ?_
    refine WC.seq ?_
    refine WC.seq ?_
    refine WC.region ?_
    refine WL.val (v_assign rfl rfl) (.none rfl) rfl rfl ?_
    refine WL.nil ?_
    refine WE.then_n ?_
    refine WC.block ?_
    refine WC.loop (fun x : Nat × List Int × Option Addr × Nat × List Ent => [(6, .int .i64 x.1), (5, .slice x.2.2.1 x.2.1.length x.2.2.2.1), (1, .pointer (some ⟨g1, 0, none⟩))]) (fun x => x.2.2.2.2 ++ [.row g1 a.cells]) (fun x => 1 ≤ x.1 ∧ x.1 ≤ 9 ∧ x.2.1.length ≤ 1100 * x.1 + (if 2 < x.1 then 563200 else 0) ∧ x.2.1 ++ (List.range' x.1 (9 - x.1)).flatMap (knownE a) = (List.range' 1 8).flatMap (knownE a) ∧ BV x.2.2.1 x.2.2.2.1 x.2.1 x.2.2.2.2) (fun x => 9 - x.1) (1, [], none, 0, []) ⟨Nat.le_refl _, by decide, by decide, rfl, Vec.nil 1⟩ (.cons rfl (.cons rfl (.cons rfl .nil))) (.refl _) ?_
    rintro ⟨t, xs, ad, c, E⟩ ⟨ht1, ht9, hl, hx, hV⟩
    dsimp only at ht1 ht9 hl hx hV
    dsimp only
    refine WC.seq ?_
    refine WC.seq ?_
    refine WC.region ?_
    refine WL.val (v_move rfl rfl) (.none rfl) rfl rfl ?_
    refine WL.test (v_leq rfl rfl rfl) (.none rfl) rfl rfl (fun h15 => ?_) (fun h15 => ?_)
    · -- 15T
      refine WL.nil ?_
      refine WE.then_n ?_
      refine WC.cond_t rfl ?_
      refine WC.skip ?_
      refine WE.then_n ?_
      refine WC.seq ?_
      refine WC.block ?_
      refine WC.seq ?_
      refine WC.region ?_
      refine WL.val (v_loadN rfl rfl many_41 rfl allAt) (.none rfl) rfl rfl ?_
      refine WL.val (v_move rfl rfl) (.none rfl) rfl rfl ?_
      rw [show 9 - t = 8 - t + 1 by omega, List.range'_succ, List.flatMap_cons] at hx
      refine WL.call rfl rfl ck_87 (.none rfl) rfl rfl ?_
      intro w hS
      refine Calls.then (Is_c w a t (by omega)) hS ?_
      generalize hb : hasB a.has t = bb
      cases bb
      · -- 20F
        refine WL.nil ?_
        refine WE.then_n ?_
        refine WC.cond_f rfl ?_
        refine WC.skip ?_
        refine WE.block_n ?_
        refine WE.then_n ?_
        refine WC.region ?_
        refine WL.val (v_move rfl rfl) (.none rfl) rfl rfl ?_
        refine WL.val (v_add rfl rfl rfl (w_i64 (by omega) (by omega))) (.none rfl) rfl rfl ?_
        refine WL.val (v_assign rfl rfl) (.none rfl) rfl rfl ?_
        refine WL.nil ?_
        exact WE.next (t + 1, xs, ad, c, E) (by dsimp only; omega) ⟨by dsimp only; omega, by dsimp only; omega, by dsimp only; split at hl <;> split <;> omega, by
        dsimp only
        rw [show 9 - (t + 1) = 8 - t by omega, ← hx]
        unfold knownE
        rw [hb]; rfl, hV⟩ (.int rfl (by dsimp only; omega) (.cons rfl (.cons rfl .nil))) (.refl _)
      · -- 20T
        refine WL.nil ?_
        refine WE.then_n ?_
        refine WC.cond_t rfl ?_
        refine WC.orders mixed ?_
        refine WR.first (g := 5) [0, 1, 2, 4, 6] (by kernel_rfl) (by kernel_rfl) ?_
        refine WP.val (v_move rfl rfl) (.none rfl) rfl rfl ?_
        refine WP.val (v_move rfl rfl) (.none rfl) rfl rfl ?_
        refine WP.val (v_indexAddrA (lo := t) rfl rfl rfl Tryd.underlying157 sz_3 (by omega) (by omega)) (.none rfl) rfl rfl ?_
        refine WP.val (v_move rfl rfl) (.none rfl) rfl rfl ?_
        refine WP.val (v_move rfl rfl) (.none rfl) rfl rfl ?_
        refine WP.nil ?_
        refine WR.each (g := 4) [3, 5] (by kernel_rfl) (by decide) ?_
        refine ⟨?_, ?_⟩
        · -- next 3
          refine WL.val (v_load1 rfl rfl one_3 (cellOld (v := .int .i64 (flagI t)) (fun h => h) (by rw [Nat.zero_add, Nat.mul_one]; exact hG t (by omega)))) (.none rfl) rfl rfl ?_
          refine WL.nilR ?_
          refine WR.read (g := 3) [5] (by kernel_rfl) (by kernel_rfl) (by kernel_rfl) (by kernel_rfl) rfl ?_
          refine WQ.val (v_loadN rfl rfl many_41 rfl allAt) (.none rfl) rfl rfl ?_
          refine WQ.nilR ?_
          refine WR.ones (g := 1) [7, 8] (by kernel_rfl) ?_
          have hgl := valE_len (chk_good hc ht1 (by omega) hb)
          have hle : (valE a t).length ≤ 563200 := (by split at hgl <;> omega)
          refine WL.call rfl rfl ck_90 (.none rfl) rfl rfl ?_
          intro w1 hS
          refine (value_c w1 a t (hA.st hS) hI (by omega)).mono ?_
          rintro e w' ⟨_, rfl, ad28, c28, E28, rfl, hV28, hS'⟩
          refine ⟨_, _, rfl, hS.join hS', ?_⟩
          refine WL.to (L' := E ++ (E28 ++ [.row g1 a.cells])) (fun w hS => St.front (R := E) E28 hS) ?_
          have hpl := putE_len (flagI t) t (valE a t)
          have hgl := valE_len (chk_good hc ht1 (by omega) hb)
          refine WL.call rfl rfl ck_89 (.none rfl) rfl rfl ?_
          intro w1 hS
          refine (put_c (fun _ => False) w0 w1 _ _ _ _ _ (flagI t) t _ _ _ hV (fun h => by
            obtain ⟨b, o, e, hr⟩ := hV28.src (L := E28 ++ [.row g1 a.cells]) (fun e he => List.mem_append_left _ he) (by rw [u8s_len]; exact h)
            exact ⟨b, o, e, fun w hS => hr _ _ w hS⟩) hS (by split at hl <;> split at hgl <;> omega) (flagI_ok ht1)).mono ?_
          rintro e w' ⟨ad29, c29, E29, rfl, hV29, hS'⟩
          refine ⟨_, _, rfl, hS', ?_⟩
          refine WL.nilR ?_
          refine WR.first (g := 0) [9] (by kernel_rfl) (by kernel_rfl) ?_
          refine WP.val (v_assign rfl rfl) (.none rfl) rfl rfl ?_
          refine WP.nil ?_
          refine WR.done (by kernel_rfl) ?_
          refine WE.block_n ?_
          refine WE.then_n ?_
          refine WC.region ?_
          refine WL.val (v_move rfl rfl) (.none rfl) rfl rfl ?_
          refine WL.val (v_add rfl rfl rfl (w_i64 (by omega) (by omega))) (.none rfl) rfl rfl ?_
          refine WL.val (v_assign rfl rfl) (.none rfl) rfl rfl ?_
          refine WL.nil ?_
          exact WE.next (t + 1, xs ++ putE (flagI t) t (valE a t), ad29, c29, E29) (by dsimp only; omega) ⟨by dsimp only; omega, by dsimp only; omega, by
          dsimp only
          rw [List.length_append, hpl]
          split at hl <;> split at hgl <;> split <;> split <;> omega, by
          dsimp only
          rw [show 9 - (t + 1) = 8 - t by omega, ← hx]
          unfold knownE
          rw [hb, List.append_assoc]; rfl, hV29⟩ (.int rfl (by dsimp only; omega) (.cons rfl (.cons rfl .nil))) (List.Sublist.append_left (List.sublist_append_right _ _) _)
        · -- next 5
          refine WL.val (v_loadN rfl rfl many_41 rfl allAt) (.none rfl) rfl rfl ?_
          refine WL.nilR ?_
          refine WR.each (g := 3) [3, 7] (by kernel_rfl) (by decide) ?_
          refine ⟨?_, ?_⟩
          · -- next 3
            refine WL.val (v_load1 rfl rfl one_3 (cellOld (v := .int .i64 (flagI t)) (fun h => h) (by rw [Nat.zero_add, Nat.mul_one]; exact hG t (by omega)))) (.none rfl) rfl rfl ?_
            refine WL.nilR ?_
            refine WR.ones (g := 1) [7, 8] (by kernel_rfl) ?_
            have hgl := valE_len (chk_good hc ht1 (by omega) hb)
            have hle : (valE a t).length ≤ 563200 := (by split at hgl <;> omega)
            refine WL.call rfl rfl ck_90 (.none rfl) rfl rfl ?_
            intro w1 hS
            refine (value_c w1 a t (hA.st hS) hI (by omega)).mono ?_
            rintro e w' ⟨_, rfl, ad28, c28, E28, rfl, hV28, hS'⟩
            refine ⟨_, _, rfl, hS.join hS', ?_⟩
            refine WL.to (L' := E ++ (E28 ++ [.row g1 a.cells])) (fun w hS => St.front (R := E) E28 hS) ?_
            have hpl := putE_len (flagI t) t (valE a t)
            have hgl := valE_len (chk_good hc ht1 (by omega) hb)
            refine WL.call rfl rfl ck_89 (.none rfl) rfl rfl ?_
            intro w1 hS
            refine (put_c (fun _ => False) w0 w1 _ _ _ _ _ (flagI t) t _ _ _ hV (fun h => by
              obtain ⟨b, o, e, hr⟩ := hV28.src (L := E28 ++ [.row g1 a.cells]) (fun e he => List.mem_append_left _ he) (by rw [u8s_len]; exact h)
              exact ⟨b, o, e, fun w hS => hr _ _ w hS⟩) hS (by split at hl <;> split at hgl <;> omega) (flagI_ok ht1)).mono ?_
            rintro e w' ⟨ad29, c29, E29, rfl, hV29, hS'⟩
            refine ⟨_, _, rfl, hS', ?_⟩
            refine WL.nilR ?_
            refine WR.first (g := 0) [9] (by kernel_rfl) (by kernel_rfl) ?_
            refine WP.val (v_assign rfl rfl) (.none rfl) rfl rfl ?_
            refine WP.nil ?_
            refine WR.done (by kernel_rfl) ?_
            refine WE.block_n ?_
            refine WE.then_n ?_
            refine WC.region ?_
            refine WL.val (v_move rfl rfl) (.none rfl) rfl rfl ?_
            refine WL.val (v_add rfl rfl rfl (w_i64 (by omega) (by omega))) (.none rfl) rfl rfl ?_
            refine WL.val (v_assign rfl rfl) (.none rfl) rfl rfl ?_
            refine WL.nil ?_
            exact WE.next (t + 1, xs ++ putE (flagI t) t (valE a t), ad29, c29, E29) (by dsimp only; omega) ⟨by dsimp only; omega, by dsimp only; omega, by
            dsimp only
            rw [List.length_append, hpl]
            split at hl <;> split at hgl <;> split <;> split <;> omega, by
            dsimp only
            rw [show 9 - (t + 1) = 8 - t by omega, ← hx]
            unfold knownE
            rw [hb, List.append_assoc]; rfl, hV29⟩ (.int rfl (by dsimp only; omega) (.cons rfl (.cons rfl .nil))) (List.Sublist.append_left (List.sublist_append_right _ _) _)
          · -- next 7
            have hgl := valE_len (chk_good hc ht1 (by omega) hb)
            have hle : (valE a t).length ≤ 563200 := (by split at hgl <;> omega)
            refine WL.call rfl rfl ck_90 (.none rfl) rfl rfl ?_
            intro w1 hS
            refine (value_c w1 a t (hA.st hS) hI (by omega)).mono ?_
            rintro e w' ⟨_, rfl, ad28, c28, E28, rfl, hV28, hS'⟩
            refine ⟨_, _, rfl, hS.join hS', ?_⟩
            refine WL.to (L' := E ++ (E28 ++ [.row g1 a.cells])) (fun w hS => St.front (R := E) E28 hS) ?_
            refine WL.nilR ?_
            refine WR.read (g := 2) [3] (by kernel_rfl) (by kernel_rfl) (by kernel_rfl) (by kernel_rfl) rfl ?_
            refine WQ.val (v_load1 rfl rfl one_3 (cellOld (v := .int .i64 (flagI t)) (fun h => h) (by rw [Nat.zero_add, Nat.mul_one]; exact hG t (by omega)))) (.none rfl) rfl rfl ?_
            refine WQ.nilR ?_
            refine WR.ones (g := 1) [8] (by kernel_rfl) ?_
            have hpl := putE_len (flagI t) t (valE a t)
            have hgl := valE_len (chk_good hc ht1 (by omega) hb)
            refine WL.call rfl rfl ck_89 (.none rfl) rfl rfl ?_
            intro w1 hS
            refine (put_c (fun _ => False) w0 w1 _ _ _ _ _ (flagI t) t _ _ _ hV (fun h => by
              obtain ⟨b, o, e, hr⟩ := hV28.src (L := E28 ++ [.row g1 a.cells]) (fun e he => List.mem_append_left _ he) (by rw [u8s_len]; exact h)
              exact ⟨b, o, e, fun w hS => hr _ _ w hS⟩) hS (by split at hl <;> split at hgl <;> omega) (flagI_ok ht1)).mono ?_
            rintro e w' ⟨ad29, c29, E29, rfl, hV29, hS'⟩
            refine ⟨_, _, rfl, hS', ?_⟩
            refine WL.nilR ?_
            refine WR.first (g := 0) [9] (by kernel_rfl) (by kernel_rfl) ?_
            refine WP.val (v_assign rfl rfl) (.none rfl) rfl rfl ?_
            refine WP.nil ?_
            refine WR.done (by kernel_rfl) ?_
            refine WE.block_n ?_
            refine WE.then_n ?_
            refine WC.region ?_
            refine WL.val (v_move rfl rfl) (.none rfl) rfl rfl ?_
            refine WL.val (v_add rfl rfl rfl (w_i64 (by omega) (by omega))) (.none rfl) rfl rfl ?_
            refine WL.val (v_assign rfl rfl) (.none rfl) rfl rfl ?_
            refine WL.nil ?_
            exact WE.next (t + 1, xs ++ putE (flagI t) t (valE a t), ad29, c29, E29) (by dsimp only; omega) ⟨by dsimp only; omega, by dsimp only; omega, by
            dsimp only
            rw [List.length_append, hpl]
            split at hl <;> split at hgl <;> split <;> split <;> omega, by
            dsimp only
            rw [show 9 - (t + 1) = 8 - t by omega, ← hx]
            unfold knownE
            rw [hb, List.append_assoc]; rfl, hV29⟩ (.int rfl (by dsimp only; omega) (.cons rfl (.cons rfl .nil))) (List.Sublist.append_left (List.sublist_append_right _ _) _)
    · -- 15F
      refine WL.nil ?_
      refine WE.then_n ?_
      refine WC.cond_f rfl ?_
      refine WC.exit ?_
      refine WE.then_exit ?_
      refine WE.then_exit ?_
      refine WE.block_hit ?_
      refine WE.then_n ?_
      refine WC.seq ?_
      refine WC.seq ?_
      refine WC.region ?_
      refine WL.val (v_fieldAddr0 rfl rfl fld_41_9) (.none rfl) rfl rfl ?_
      refine WL.val (v_load1 rfl rfl one_39 (cellAt rfl)) (.none rfl) rfl rfl ?_
      refine WL.val (v_len_slice rfl rfl Tryd.underlying39) (.none rfl) rfl rfl ?_
      refine WL.val (v_move rfl rfl) (.none rfl) rfl rfl ?_
      refine WL.nil ?_
      refine WE.then_n ?_
      refine WC.block ?_
      refine WC.loop (fun x : Nat × List Int × Option Addr × Nat × List Ent => [(33, .int .i64 x.1), (32, .int .i64 a.others.length), (31, .slice a.oad a.others.length a.oc), (5, .slice x.2.2.1 x.2.1.length x.2.2.2.1)]) (fun x => x.2.2.2.2 ++ []) (fun x => x.1 ≤ a.others.length ∧ x.2.1.length ≤ 573200 + 4100 * x.1 ∧ x.2.1 ++ (a.others.drop x.1).flatMap (fun o => putE 224 o.ty o.val) = bodyA a ∧ (∀ j o, j < x.1 → a.others[j]? = some o → decide (4096 < o.val.length) = false) ∧ BV x.2.2.1 x.2.2.2.1 x.2.1 x.2.2.2.2) (fun x => a.others.length - x.1) (0, xs, ad, c, E) ⟨Nat.zero_le _, by dsimp only; split at hl <;> omega, by
      dsimp only
      rw [show 9 - t = 0 by omega] at hx
      rw [List.range'_zero, List.flatMap_nil, List.append_nil] at hx
      rw [hx]; rfl, fun j _ h => absurd h (by dsimp only; omega), hV⟩ (.cons rfl (.cons rfl (.cons rfl (.cons rfl .nil)))) (List.Sublist.append_left (List.nil_sublist _) _) ?_
      rintro ⟨k, ys, ad2, c2, E2⟩ ⟨hk, hl2, hy, hsm, hV2⟩
      dsimp only at hk hl2 hy hsm hV2
      dsimp only
      refine WC.seq ?_
      refine WC.region ?_
      refine WL.test (v_lss rfl rfl rfl) (.none rfl) rfl rfl (fun h34 => ?_) (fun h34 => ?_)
      · -- 34T
        refine WL.nil ?_
        refine WE.then_n ?_
        refine WC.seq ?_
        refine WC.cond_t rfl ?_
        refine WC.skip ?_
        refine WE.then_n ?_
        refine WC.seq ?_
        refine WC.block ?_
        refine WC.seq ?_
        refine WC.region ?_
        obtain ⟨o, hs⟩ : ∃ o, a.others[k]? = some o := ⟨a.others[k]'(by omega), List.getElem?_eq_getElem _⟩
        obtain ⟨b, off, ea, hr⟩ := hA.oths k o hs
        have hom := List.mem_of_getElem? hs
        have hoI := hI.oths o hom
        rw [drop_cons' hs, List.flatMap_cons] at hy
        refine WL.val ((v_indexAddr (b := b) (off := off) (lo := k) rfl (by show some (Value.slice a.oad _ _) = _; rw [ea]) rfl Tryd.underlying39 sz_115 rfl (by omega))) (.none rfl) rfl rfl ?_
        refine WL.val ((v_loadN (cs := o.cells) rfl rfl many_115 rfl (rgIn (fun h => h) hr))) (.none rfl) rfl rfl ?_
        refine WL.alloc rfl zero_115 (.none rfl) rfl rfl ?_
        intro g8 hg8
        refine WL.storeW rfl rfl rfl rfl many_115 rfl rfl (.none rfl) rfl ?_
        refine WL.to (L' := E2 ++ [.row g8 o.cells]) (fun w hS => hS.front [_]) ?_
        refine WL.nil ?_
        refine WE.then_n ?_
        refine WC.seq ?_
        refine WC.seq ?_
        refine WC.region ?_
        refine WL.val (v_fieldAddr0 rfl rfl fld_115_1) (.none rfl) rfl rfl ?_
        refine WL.val (v_load1 rfl rfl one_22 (cellAt rfl)) (.none rfl) rfl rfl ?_
        refine WL.val (v_len_slice rfl rfl Tryd.underlying22) (.none rfl) rfl rfl ?_
        refine WL.test (v_gtr rfl rfl rfl) (.none rfl) rfl rfl (fun h40 => ?_) (fun h40 => ?_)
        · -- 40T
          refine WL.nil ?_
          refine WE.then_n ?_
          refine WC.cond_t rfl ?_
          refine WC.seq ?_
          refine WC.region ?_
          refine WL.val (v_assign rfl rfl) (.none rfl) rfl rfl ?_
          refine WL.val (v_assign rfl rfl) (.none rfl) rfl rfl ?_
          refine WL.nil ?_
          refine WE.then_n ?_
          refine WC.ret ?_
          refine WE.then_ret ?_
          refine WE.block_ret ?_
          refine WE.then_ret ?_
          refine WE.then_ret ?_
          refine WE.block_ret ?_
          refine WE.then_ret ?_
          refine WE.ret2 (P := Tryd.prog) (.inl rfl) Tryd.results72 rfl rfl ?_
          have he : encE a = 6 := (by
            have : (a.others.any fun o => decide (4096 < o.val.length)) = true := List.any_eq_true.2 ⟨o, hom, decide_eq_true (by omega)⟩
            unfold encE; rw [hc, this]; rfl)
          have ho : outA a = [] := (by unfold outA; rw [he]; rfl)
          rw [he, ho]
          exact fun w' h => ⟨_, rfl, OwnB.of (E := []) (xs := []) (Vec.nil 1) (h.sub (List.nil_sublist _)) rfl⟩
        · -- 40F
          refine WL.nil ?_
          refine WE.then_n ?_
          refine WC.cond_f rfl ?_
          refine WC.skip ?_
          refine WE.then_n ?_
          refine WC.region ?_
          refine WL.val (v_move rfl rfl) (.none rfl) rfl rfl ?_
          refine WL.val (v_fieldAddr0 rfl rfl fld_115_0) (.none rfl) rfl rfl ?_
          refine WL.val (v_load1 rfl rfl one_3 (cellAt rfl)) (.none rfl) rfl rfl ?_
          refine WL.val (v_fieldAddr0 rfl rfl fld_115_1) (.none rfl) rfl rfl ?_
          refine WL.val (v_load1 rfl rfl one_22 (cellAt rfl)) (.none rfl) rfl rfl ?_
          have hpl := putE_len 224 o.ty o.val
          refine WL.call rfl rfl ck_89 (.none rfl) rfl rfl ?_
          intro w1 hS
          refine (put_c (fun _ => False) w0 w1 _ _ _ _ _ 224 o.ty _ _ _ hV2 (fun h => by
            obtain ⟨b', o', e, hr'⟩ := hA.vals o hom (by rw [u8s_len]; exact h)
            exact ⟨b', o', e, rgIn (fun h => h) hr'⟩) hS (by omega) (by omega)).mono ?_
          rintro e w' ⟨ad46, c46, E46, rfl, hV46, hS'⟩
          refine ⟨_, _, rfl, hS', ?_⟩
          refine WL.val (v_assign rfl rfl) (.none rfl) rfl rfl ?_
          refine WL.nil ?_
          refine WE.block_n ?_
          refine WE.then_n ?_
          refine WC.region ?_
          refine WL.val (v_add rfl rfl rfl (w_i64 (by omega) (by omega))) (.none rfl) rfl rfl ?_
          refine WL.val (v_move rfl rfl) (.none rfl) rfl rfl ?_
          refine WL.nil ?_
          exact WE.next (k + 1, ys ++ putE 224 o.ty o.val, ad46, c46, E46) (by dsimp only; omega) ⟨by dsimp only; omega, by
          dsimp only
          rw [List.length_append, hpl]
          split <;> omega, by dsimp only; rw [List.append_assoc]; exact hy, fun j o' hj hjo => by
          by_cases e : j = k
          · subst e; rw [hs] at hjo; obtain rfl := Option.some.inj hjo; exact decide_eq_false (by omega)
          · exact hsm j o' (by dsimp only at hj; omega) hjo, hV46⟩ (.int rfl (by dsimp only; omega) (.cons rfl (.cons rfl (.cons rfl .nil)))) (List.Sublist.append_left (List.nil_sublist _) _)
      · -- 34F
        refine WL.nil ?_
        refine WE.then_n ?_
        refine WC.seq ?_
        refine WC.cond_f rfl ?_
        refine WC.exit ?_
        refine WE.then_exit ?_
        refine WE.then_exit ?_
        refine WE.block_hit ?_
        refine WE.then_n ?_
        refine WC.seq ?_
        refine WC.seq ?_
        refine WC.region ?_
        refine WL.val (v_move rfl rfl) (.none rfl) rfl rfl ?_
        obtain rfl : k = a.others.length := (by omega)
        rw [List.drop_length, List.flatMap_nil, List.append_nil] at hy
        have hna : (a.others.any fun o => decide (4096 < o.val.length)) = false := List.any_eq_false.2 fun o ho => by
          obtain ⟨j, hj, e⟩ := List.getElem_of_mem ho
          rw [hsm j o (by omega) (by rw [List.getElem?_eq_getElem hj, e])]; decide
        refine WL.val (v_len_slice rfl rfl Tryd.underlying22) (.none rfl) rfl rfl ?_
        refine WL.test (v_gtr rfl rfl rfl) (.none rfl) rfl rfl (fun h50 => ?_) (fun h50 => ?_)
        · -- 50T
          refine WL.nil ?_
          refine WE.then_n ?_
          refine WC.cond_t rfl ?_
          refine WC.seq ?_
          refine WC.region ?_
          refine WL.val (v_assign rfl rfl) (.none rfl) rfl rfl ?_
          refine WL.val (v_assign rfl rfl) (.none rfl) rfl rfl ?_
          refine WL.nil ?_
          refine WE.then_n ?_
          refine WC.ret ?_
          refine WE.then_ret ?_
          refine WE.ret2 (P := Tryd.prog) (.inl rfl) Tryd.results72 rfl rfl ?_
          have he : encE a = 6 := (by
            unfold encE; rw [hc, hna, decide_eq_true (show 4096 < (bodyA a).length by rw [← hy]; omega)]; rfl)
          have ho : outA a = [] := (by unfold outA; rw [he]; rfl)
          rw [he, ho]
          exact fun w' h => ⟨_, rfl, OwnB.of (E := []) (xs := []) (Vec.nil 1) (h.sub (List.nil_sublist _)) rfl⟩
        · -- 50F
          refine WL.nil ?_
          refine WE.then_n ?_
          refine WC.cond_f rfl ?_
          refine WC.skip ?_
          refine WE.then_n ?_
          refine WC.seq ?_
          refine WC.region ?_
          refine WL.val (v_move rfl rfl) (.none rfl) rfl rfl ?_
          refine WL.val (v_assign rfl rfl) (.none rfl) rfl rfl ?_
          refine WL.val (v_assign rfl rfl) (.none rfl) rfl rfl ?_
          refine WL.nil ?_
          refine WE.then_n ?_
          refine WC.ret ?_
          refine WE.ret2 (P := Tryd.prog) (.inl rfl) Tryd.results72 rfl rfl ?_
          have he : encE a = 0 := (by
            unfold encE; rw [hc, hna, decide_eq_false (show ¬ 4096 < (bodyA a).length by rw [← hy]; omega)]; rfl)
          have ho : outA a = ys := (by unfold outA; rw [he, ← hy]; rfl)
          rw [he, ho]
          exact fun w' h => ⟨_, rfl, OwnB.of hV2 h rfl⟩
end Go.Proofs.YtpjbofodllhjbaaDoor
/- bgp: addresses and prefixes as bytes. -/
namespace Go.Proofs.YtpjbofodllhjbaaDoor
open Go.RowKit

theorem n2_eq (m : Int) : n2 m = u8s (numB m 2) := by
  show n2 m = [.int .u8 (m / 2 ^ (8 * 1) % 256), .int .u8 (m / 2 ^ (8 * 0) % 256)]
  rw [show (2 : Int) ^ (8 * 1) = 256 by decide, show (2 : Int) ^ (8 * 0) = 1 by decide, Int.ediv_one]
  rfl
theorem put2_b (p : Nat → Prop) (w0 w1 : World) (L E : List Ent) (ad : Option Addr) (c : Nat) (xs : List Int) (m : Int) (hV : BV ad c xs E) (hS0 : St p w0 w1 (E ++ L)) (hk : xs.length ≤ 1000000) (h0 : 0 ≤ m) (h1 : m ≤ 9223372036854775807) :
    Calls Tryd.prog 54 #[.slice ad xs.length c, .int .i64 m] w1 fun e w' => ∃ ad' c' E', e = .returned (.slice ad' (xs ++ numB m 2).length c') ∧ BV ad' c' (xs ++ numB m 2) E' ∧ St p w0 w' (E' ++ L) :=
  (put2_c p w0 w1 L E ad _ c _ m hV hS0 hk h0 h1).mono (by
    rintro e w' ⟨ad', c', E', rfl, hV', hS'⟩
    rw [n2_eq, ← u8s_app] at hV'
    have := hV'.toB
    rw [this] at hV' ⊢
    exact ⟨ad', c', E', rfl, hV', hS'⟩)
theorem numB_get (n : Int) : ∀ (s i : Nat), i < s → (numB n s)[i]? = some (n / 2 ^ (8 * (s - 1 - i)) % 256)
  | s + 1, 0, _ => by simp [numB]
  | s + 1, i + 1, h => by
    rw [show numB n (s + 1) = n / 2 ^ (8 * s) % 256 :: numB n s from rfl, List.getElem?_cons_succ, numB_get n s i (by omega)]
    rw [show s + 1 - 1 - (i + 1) = s - 1 - i by omega]
theorem take_succ_get {α : Type} {xs : List α} {i : Nat} {x : α} (h : xs[i]? = some x) : xs.take (i + 1) = xs.take i ++ [x] := by
  rw [List.take_add_one, h]; rfl
/-- The first bytes of an address. -/
def addrB (a : Int) (n : Nat) : List Int := (numB a 4).take n
theorem addrB_len (a : Int) {n : Nat} (h : n ≤ 4) : (addrB a n).length = n := by unfold addrB; rw [List.length_take, numB_len]; omega
set_option maxHeartbeats 1000000 in
theorem putAddr_c (p : Nat → Prop) (w0 w1 : World) (L E : List Ent) (ad : Option Addr) (c : Nat) (xs : List Int) (a : Int) (n : Nat) (hV : BV ad c xs E) (hS0 : St p w0 w1 (E ++ L)) (hk : xs.length ≤ 1000000) (hn : n ≤ 4) :
    Calls Tryd.prog 70 #[.slice ad xs.length c, .int .u32 a, .int .i64 n] w1 fun e w' => ∃ ad' c' E', e = .returned (.slice ad' (xs ++ addrB a n).length c') ∧ BV ad' c' (xs ++ addrB a n) E' ∧ St p w0 w' (E' ++ L) := by
  refine enter Tryd.func70 rfl Tryd.ntmps70 rfl hS0 ?_
  refine WC.seq ?_
  refine WC.region ?_
  refine WL.val (v_assign rfl rfl) (.none rfl) rfl rfl ?_
  refine WL.nil ?_
  refine WE.then_n ?_
  refine WC.seq ?_
  refine WC.seq ?_
  refine WC.region ?_
  refine WL.val (v_move rfl rfl) (.none rfl) rfl rfl ?_
  refine WL.val (v_move rfl rfl) (.none rfl) rfl rfl ?_
  refine WL.nil ?_
  refine WE.then_n ?_
  refine WC.block ?_
  refine WC.loop (fun x : Nat × Option Addr × Nat × List Ent => [(9, .int .i64 x.1), (8, .int .i64 n), (1, .int .u32 a), (0, .slice x.2.1 (xs ++ addrB a x.1).length x.2.2.1)]) (fun x => x.2.2.2 ++ L) (fun x => x.1 ≤ n ∧ BV x.2.1 x.2.2.1 (xs ++ addrB a x.1) x.2.2.2) (fun x => n - x.1) (0, ad, c, E) ⟨Nat.zero_le _, by dsimp only; rw [show addrB a 0 = [] from rfl, List.append_nil]; exact hV⟩ (.cons rfl (.cons rfl (.cons rfl (.eq rfl (by dsimp only; rw [show addrB a 0 = [] from rfl, List.append_nil]) .nil)))) (.refl _) ?_
  rintro ⟨i, ad2, c2, E2⟩ ⟨hi, hV2⟩
  dsimp only at hi hV2
  dsimp only
  have hal := addrB_len a (n := i) (by omega)
  refine WC.seq ?_
  refine WC.region ?_
  refine WL.test (v_lss rfl rfl rfl) (.none rfl) rfl rfl (fun h10 => ?_) (fun h10 => ?_)
  · -- 10T
    refine WL.nil ?_
    refine WE.then_n ?_
    refine WC.seq ?_
    refine WC.cond_t rfl ?_
    refine WC.skip ?_
    refine WE.then_n ?_
    refine WC.seq ?_
    refine WC.block ?_
    refine WC.seq ?_
    refine WC.region ?_
    refine WL.val (v_move rfl rfl) (.none rfl) rfl rfl ?_
    refine WL.val (v_assign rfl rfl) (.none rfl) rfl rfl ?_
    refine WL.nil ?_
    refine WE.then_n ?_
    refine WC.region ?_
    refine WL.val (v_move rfl rfl) (.none rfl) rfl rfl ?_
    refine WL.val (v_move rfl rfl) (.none rfl) rfl rfl ?_
    refine WL.val (v_move rfl rfl) (.none rfl) rfl rfl ?_
    refine WL.val (v_mul rfl rfl rfl (show _ = ((8 * i : Nat) : Int) from (w_i64 (by omega) (by omega)).trans (by omega))) (.none rfl) rfl rfl ?_
    refine WL.val (v_sub rfl rfl rfl (show _ = ((8 * (3 - i) : Nat) : Int) from (w_i64 (by omega) (by omega)).trans (by omega))) (.none rfl) rfl rfl ?_
    refine WL.val ((v_shr (m := 8 * (3 - i)) (c := (2 : Int) ^ (8 * (3 - i))) rfl rfl rfl rfl (by show 8 * (3 - i) ≤ 32; omega) rfl)) (.none rfl) rfl rfl ?_
    refine WL.val (v_conv rfl rfl Tryd.underlying5 Tryd.underlying34 (w_u8m _)) (.none rfl) rfl rfl ?_
    refine WL.buildSlice rfl rfl Tryd.underlying22 sz_5 zero_5 rfl (by decide) rfl (.none rfl) rfl rfl ?_
    intro g19 hg19
    refine WL.as (L' := .row g19 (u8s [a / 2 ^ (8 * (3 - i)) % 256]) :: (E2 ++ L)) rfl ?_
    refine WL.to (L' := E2 ++ (.row g19 (u8s [a / 2 ^ (8 * (3 - i)) % 256]) :: L)) (fun w hS => hS.front [_]) ?_
    refine WL.appendL rfl rfl rfl Tryd.underlying22 Tryd.underlying22 sz_5 by_5 zero_5 rfl rfl hV2 (new := u8s [a / 2 ^ (8 * (3 - i)) % 256]) (fun _ => ⟨g19, 0, rfl, fun w hS => allAt (g := g19) w hS⟩) rfl (u8s_one _) (by rw [List.length_append, hal]; omega) (.none rfl) rfl rfl ?_
    intro ad20 c20 E20 hV20 hr20
    have e0 : xs ++ addrB a (i + 1) = xs ++ addrB a i ++ [a / 2 ^ (8 * (3 - i)) % 256] := (by
      unfold addrB
      rw [take_succ_get (numB_get a 4 i (by omega)), show 4 - 1 - i = 3 - i by omega, List.append_assoc])
    have e1 : (xs ++ addrB a (i + 1)).length = (xs ++ addrB a i).length + 1 := (by rw [e0, List.length_append]; rfl)
    rw [← u8s_app, ← e0, ← e1] at hV20
    rw [← e1]
    refine WL.val (v_assign rfl rfl) (.none rfl) rfl rfl ?_
    refine WL.nil ?_
    refine WE.block_n ?_
    refine WE.then_n ?_
    refine WC.region ?_
    refine WL.val (v_add rfl rfl rfl (w_i64 (by omega) (by omega))) (.none rfl) rfl rfl ?_
    refine WL.val (v_move rfl rfl) (.none rfl) rfl rfl ?_
    refine WL.nil ?_
    exact WE.next (i + 1, ad20, c20, E20) (by dsimp only; omega) ⟨by dsimp only; omega, hV20⟩ (.int rfl (by dsimp only; omega) (.cons rfl (.cons rfl (.cons rfl .nil)))) (List.Sublist.append_left (.cons _ (.refl _)) _)
  · -- 10F
    refine WL.nil ?_
    refine WE.then_n ?_
    refine WC.seq ?_
    refine WC.cond_f rfl ?_
    refine WC.exit ?_
    refine WE.then_exit ?_
    refine WE.then_exit ?_
    refine WE.block_hit ?_
    refine WE.then_n ?_
    refine WC.seq ?_
    refine WC.region ?_
    refine WL.val (v_move rfl rfl) (.none rfl) rfl rfl ?_
    refine WL.val (v_assign rfl rfl) (.none rfl) rfl rfl ?_
    refine WL.nil ?_
    refine WE.then_n ?_
    refine WC.ret ?_
    refine WE.ret1 (P := Tryd.prog) (.inl rfl) Tryd.results70 rfl ?_
    obtain rfl : i = n := (by omega)
    exact fun w' h => ⟨ad2, c2, E2, rfl, hV2, h⟩
theorem needs_c (w : World) (n : Int) (h0 : 0 ≤ n) (h1 : n ≤ 1000) : Calls Tryd.prog 79 #[.int .i64 n] w fun e w' => e = .returned (.int .i64 (((n.toNat + 7) / 8 : Nat) : Int)) ∧ Frm (fun _ => False) w w' := by
  refine enter Tryd.func79 rfl Tryd.ntmps79 rfl (St.start (fun _ => False) w) ?_
  refine WC.seq ?_
  refine WC.region ?_
  refine WL.val (v_assign rfl rfl) (.none rfl) rfl rfl ?_
  refine WL.nil ?_
  refine WE.then_n ?_
  refine WC.seq ?_
  refine WC.region ?_
  refine WL.val (v_move rfl rfl) (.none rfl) rfl rfl ?_
  refine WL.val (v_add rfl rfl rfl (w_i64 (by omega) (by omega))) (.none rfl) rfl rfl ?_
  refine WL.val (v_quo rfl rfl rfl (by omega) (by omega) (w_i64 (by omega) (by omega))) (.none rfl) rfl rfl ?_
  refine WL.val (v_assign rfl rfl) (.none rfl) rfl rfl ?_
  refine WL.nil ?_
  refine WE.then_n ?_
  refine WC.ret ?_
  refine WE.ret1 (P := Tryd.prog) (.inl rfl) Tryd.results79 rfl ?_
  exact fun w' h => ⟨by congr 3; omega, h.frm⟩
theorem formed_c (w : World) (ad : Option Addr) (c : Nat) (ps : List PfL) (hR : RowsAt w ad 2 PfL.cells ps) (hn : ps.length ≤ 9223372036854775807) (hI : ∀ p ∈ ps, U32 p.addr ∧ I64 p.len) :
    Calls Tryd.prog 71 #[.slice ad ps.length c] w fun e w' => e = .returned (.bool (ps.all pfOk)) ∧ Frm (fun _ => False) w w' := by
  refine enter Tryd.func71 rfl Tryd.ntmps71 rfl (St.start (fun _ => False) w) ?_
  refine WC.seq ?_
  refine WC.region ?_
  refine WL.val (v_assign rfl rfl) (.none rfl) rfl rfl ?_
  refine WL.nil ?_
  refine WE.then_n ?_
  refine WC.seq ?_
  refine WC.seq ?_
  refine WC.region ?_
  refine WL.val (v_move rfl rfl) (.none rfl) rfl rfl ?_
  refine WL.val (v_len_slice rfl rfl Tryd.underlying36) (.none rfl) rfl rfl ?_
  refine WL.val (v_move rfl rfl) (.none rfl) rfl rfl ?_
  refine WL.nil ?_
  refine WE.then_n ?_
  refine WC.block ?_
  refine WC.loop (fun k : Nat => [(7, .int .i64 k), (6, .int .i64 ps.length), (5, .slice ad ps.length c)]) (fun _ => []) (fun k => k ≤ ps.length ∧ ∀ j x, j < k → ps[j]? = some x → pfOk x = true) (fun k => ps.length - k) 0 ⟨Nat.zero_le _, fun j _ h => absurd h (by omega)⟩ (.cons rfl (.cons rfl (.cons rfl .nil))) (.refl _) ?_
  rintro k ⟨hk, hall⟩
  refine WC.seq ?_
  refine WC.region ?_
  refine WL.test (v_lss rfl rfl rfl) (.none rfl) rfl rfl (fun h8 => ?_) (fun h8 => ?_)
  · -- 8T
    refine WL.nil ?_
    refine WE.then_n ?_
    refine WC.seq ?_
    refine WC.cond_t rfl ?_
    refine WC.skip ?_
    refine WE.then_n ?_
    refine WC.seq ?_
    refine WC.block ?_
    refine WC.seq ?_
    refine WC.region ?_
    obtain ⟨x, hx⟩ : ∃ x, ps[k]? = some x := ⟨ps[k]'(by omega), List.getElem?_eq_getElem _⟩
    obtain ⟨b, o, ea, hr⟩ := hR k x hx
    refine WL.val ((v_indexAddr (b := b) (off := o) (lo := k) rfl (by show some (Value.slice ad _ _) = _; rw [ea]) rfl Tryd.underlying36 sz_65 rfl (by omega))) (.none rfl) rfl rfl ?_
    refine WL.val ((v_loadN (cs := x.cells) rfl rfl many_65 rfl (rgIn (fun h => h) hr))) (.none rfl) rfl rfl ?_
    refine WL.alloc rfl zero_65 (.none rfl) rfl rfl ?_
    intro g4 hg4
    refine WL.storeW rfl rfl rfl rfl many_65 rfl rfl (.none rfl) rfl ?_
    refine WL.nil ?_
    refine WE.then_n ?_
    refine WC.seq ?_
    refine WC.region ?_
    refine WL.val (v_loadN rfl rfl many_65 rfl allAt) (.none rfl) rfl rfl ?_
    refine WL.call rfl rfl ck_23 (.none rfl) rfl rfl ?_
    intro w hS
    refine Calls.then (PCheck_c w x (hI x (List.mem_of_getElem? hx)).1) hS ?_
    generalize hb : pfOk x = bb
    cases bb
    · -- 12F
      refine WL.val ((v_neq rfl rfl rfl).t ((by decide))) (.none rfl) rfl rfl ?_
      refine WL.nil ?_
      refine WE.then_n ?_
      refine WC.cond_t rfl ?_
      refine WC.seq ?_
      refine WC.region ?_
      refine WL.val (v_assign rfl rfl) (.none rfl) rfl rfl ?_
      refine WL.nil ?_
      refine WE.then_n ?_
      refine WC.ret ?_
      refine WE.block_ret ?_
      refine WE.then_ret ?_
      refine WE.then_ret ?_
      refine WE.block_ret ?_
      refine WE.then_ret ?_
      refine WE.ret1 (P := Tryd.prog) (.inl rfl) Tryd.results71 rfl ?_
      exact fun w' h => ⟨by rw [not_all hx hb], h.frm⟩
    · -- 12T
      refine WL.val ((v_neq rfl rfl rfl).f ((by decide))) (.none rfl) rfl rfl ?_
      refine WL.nil ?_
      refine WE.then_n ?_
      refine WC.cond_f rfl ?_
      refine WC.skip ?_
      refine WE.block_n ?_
      refine WE.then_n ?_
      refine WC.region ?_
      refine WL.val (v_add rfl rfl rfl (w_i64 (by omega) (by omega))) (.none rfl) rfl rfl ?_
      refine WL.val (v_move rfl rfl) (.none rfl) rfl rfl ?_
      refine WL.nil ?_
      exact WE.next (k + 1) (by omega) ⟨by omega, fun j y hj hy => by
      by_cases e : j = k
      · subst e; rw [hx] at hy; obtain rfl := Option.some.inj hy; exact hb
      · exact hall j y (by omega) hy⟩ (.int rfl (by omega) (.cons rfl (.cons rfl .nil))) (List.nil_sublist _)
  · -- 8F
    refine WL.nil ?_
    refine WE.then_n ?_
    refine WC.seq ?_
    refine WC.cond_f rfl ?_
    refine WC.exit ?_
    refine WE.then_exit ?_
    refine WE.then_exit ?_
    refine WE.block_hit ?_
    refine WE.then_n ?_
    refine WC.seq ?_
    refine WC.region ?_
    refine WL.val (v_assign rfl rfl) (.none rfl) rfl rfl ?_
    refine WL.nil ?_
    refine WE.then_n ?_
    refine WC.ret ?_
    refine WE.ret1 (P := Tryd.prog) (.inl rfl) Tryd.results71 rfl ?_
    exact fun w' h => ⟨by rw [all_of fun j x hj hx => hall j x (by omega) hx], h.frm⟩
def netE (p : PfL) : List Int := numB p.len 1 ++ addrB p.addr ((p.len.toNat + 7) / 8)
def netsE (ps : List PfL) : List Int := ps.flatMap netE
theorem pfOk_len {p : PfL} (h : pfOk p = true) : 0 ≤ p.len ∧ p.len ≤ 32 := by
  have := of_decide_eq_true h
  have h2 := inI_b p.len
  omega
theorem netE_len {p : PfL} (h : pfOk p = true) : (netE p).length ≤ 5 := by
  have := pfOk_len h
  unfold netE
  rw [List.length_append, numB_len, addrB_len _ (by omega)]
  omega
set_option maxHeartbeats 4000000 in
theorem putNets_c (w0 w1 : World) (L E : List Ent) (ad : Option Addr) (c : Nat) (xs : List Int) (ps : List PfL) (pa : Option Addr) (pc : Nat) (hV : BV ad c xs E) (hR : RowsAt w0 pa 2 PfL.cells ps) (hS0 : St (fun _ => False) w0 w1 (E ++ L)) (hk : xs.length + 5 * ps.length ≤ 1000000) (ho : ps.all pfOk = true) :
    Calls Tryd.prog 73 #[.slice ad xs.length c, .slice pa ps.length pc] w1 fun e w' => ∃ ad' c' E', e = .returned (.slice ad' (xs ++ netsE ps).length c') ∧ BV ad' c' (xs ++ netsE ps) E' ∧ St (fun _ => False) w0 w' (E' ++ L) := by
  refine enter Tryd.func73 rfl Tryd.ntmps73 rfl hS0 ?_
  refine WC.seq ?_
  refine WC.region ?_
  refine WL.val (v_assign rfl rfl) (.none rfl) rfl rfl ?_
  refine WL.nil ?_
  refine WE.then_n ?_
  refine WC.seq ?_
  refine WC.seq ?_
  refine WC.region ?_
  refine WL.val (v_move rfl rfl) (.none rfl) rfl rfl ?_
  refine WL.val (v_len_slice rfl rfl Tryd.underlying36) (.none rfl) rfl rfl ?_
  refine WL.val (v_move rfl rfl) (.none rfl) rfl rfl ?_
  refine WL.nil ?_
  refine WE.then_n ?_
  refine WC.block ?_
  refine WC.loop (fun x : Nat × List Int × Option Addr × Nat × List Ent => [(9, .int .i64 x.1), (8, .int .i64 ps.length), (7, .slice pa ps.length pc), (0, .slice x.2.2.1 x.2.1.length x.2.2.2.1)]) (fun x => x.2.2.2.2 ++ L) (fun x => x.1 ≤ ps.length ∧ x.2.1.length ≤ xs.length + 5 * x.1 ∧ x.2.1 ++ netsE (ps.drop x.1) = xs ++ netsE ps ∧ BV x.2.2.1 x.2.2.2.1 x.2.1 x.2.2.2.2) (fun x => ps.length - x.1) (0, xs, ad, c, E) ⟨Nat.zero_le _, Nat.le_refl _, rfl, hV⟩ (.cons rfl (.cons rfl (.cons rfl (.cons rfl .nil)))) (.refl _) ?_
  rintro ⟨k, ys, ad2, c2, E2⟩ ⟨hk2, hl2, hy, hV2⟩
  dsimp only at hk2 hl2 hy hV2
  dsimp only
  refine WC.seq ?_
  refine WC.region ?_
  refine WL.test (v_lss rfl rfl rfl) (.none rfl) rfl rfl (fun h10 => ?_) (fun h10 => ?_)
  · -- 10T
    refine WL.nil ?_
    refine WE.then_n ?_
    refine WC.seq ?_
    refine WC.cond_t rfl ?_
    refine WC.skip ?_
    refine WE.then_n ?_
    refine WC.seq ?_
    refine WC.block ?_
    refine WC.seq ?_
    refine WC.region ?_
    obtain ⟨x, hx⟩ : ∃ x, ps[k]? = some x := ⟨ps[k]'(by omega), List.getElem?_eq_getElem _⟩
    have hxo := List.all_eq_true.1 ho x (List.mem_of_getElem? hx)
    have hxl := pfOk_len hxo
    have hnl := netE_len hxo
    unfold netsE at hy
    rw [drop_cons' hx, List.flatMap_cons] at hy
    obtain ⟨b, o, ea, hr⟩ := hR k x hx
    refine WL.val ((v_indexAddr (b := b) (off := o) (lo := k) rfl (by show some (Value.slice pa _ _) = _; rw [ea]) rfl Tryd.underlying36 sz_65 rfl (by omega))) (.none rfl) rfl rfl ?_
    refine WL.val ((v_loadN (cs := x.cells) rfl rfl many_65 rfl (rgIn (fun h => h) hr))) (.none rfl) rfl rfl ?_
    refine WL.alloc rfl zero_65 (.none rfl) rfl rfl ?_
    intro g6 hg6
    refine WL.storeW rfl rfl rfl rfl many_65 rfl rfl (.none rfl) rfl ?_
    refine WL.as (L' := .row g6 x.cells :: (E2 ++ L)) rfl ?_
    refine WL.to (L' := E2 ++ (.row g6 x.cells :: L)) (fun w hS => hS.front [_]) ?_
    refine WL.nil ?_
    refine WE.then_n ?_
    refine WC.orders mixed ?_
    refine WR.first (g := 9) [0, 1, 6, 8] (by kernel_rfl) (by kernel_rfl) ?_
    refine WP.val (v_move rfl rfl) (.none rfl) rfl rfl ?_
    refine WP.val (v_fieldAddr0 rfl rfl fld_65_1) (.none rfl) rfl rfl ?_
    refine WP.val (v_fieldAddr0 rfl rfl fld_65_0) (.none rfl) rfl rfl ?_
    refine WP.val (v_fieldAddr0 rfl rfl fld_65_1) (.none rfl) rfl rfl ?_
    refine WP.nil ?_
    refine WR.each (g := 8) [2, 7, 9] (by kernel_rfl) (by decide) ?_
    refine ⟨?_, ⟨?_, ?_⟩⟩
    · -- next 2
      refine WL.val (v_load1 rfl rfl one_3 (cellAt rfl)) (.none rfl) rfl rfl ?_
      refine WL.nilR ?_
      refine WR.first (g := 7) [3] (by kernel_rfl) (by kernel_rfl) ?_
      refine WP.val (v_conv rfl rfl Tryd.underlying5 Tryd.underlying3 (w_u8m _)) (.none rfl) rfl rfl ?_
      refine WP.nil ?_
      refine WR.each (g := 6) [4, 7, 9] (by kernel_rfl) (by decide) ?_
      refine ⟨?_, ⟨?_, ?_⟩⟩
      · -- next 4
        refine WL.buildSlice rfl rfl Tryd.underlying22 sz_5 zero_5 rfl (by decide) rfl (.none rfl) rfl rfl ?_
        intro g17 hg17
        refine WL.as (L' := .row g17 (u8s [x.len % 256]) :: (E2 ++ (.row g6 x.cells :: L))) rfl ?_
        refine WL.to (L' := E2 ++ (.row g17 (u8s [x.len % 256]) :: .row g6 x.cells :: L)) (fun w hS => hS.front [_]) ?_
        refine WL.nilR ?_
        refine WR.each (g := 5) [5, 7, 9] (by kernel_rfl) (by decide) ?_
        refine ⟨?_, ⟨?_, ?_⟩⟩
        · -- next 5
          refine WL.appendL rfl rfl rfl Tryd.underlying22 Tryd.underlying22 sz_5 by_5 zero_5 rfl rfl hV2 (new := u8s [x.len % 256]) (fun _ => ⟨g17, 0, rfl, fun w hS => allAt (g := g17) w hS⟩) rfl (u8s_one _) (by omega) (.none rfl) rfl rfl ?_
          intro ad18 c18 E18 hV18 hr18
          rw [← u8s_app] at hV18
          rw [show ys.length + 1 = (ys ++ [x.len % 256]).length by rw [List.length_append]; rfl] at hV18 ⊢
          refine WL.nilR ?_
          refine WR.read (g := 2) [7, 9, 10] (by kernel_rfl) (by kernel_rfl) (by kernel_rfl) (by kernel_rfl) rfl ?_
          refine WQ.val (v_load1 rfl rfl one_34 (cellAt rfl)) (.none rfl) rfl rfl ?_
          refine WQ.val (v_load1 rfl rfl one_3 (cellAt rfl)) (.none rfl) rfl rfl ?_
          refine WQ.call _ rfl rfl ck_79 (.none rfl) rfl rfl (fun w hS => Calls.still (needs_c w x.len (by omega) (by omega)) hS) ?_
          refine WQ.nilR ?_
          refine WR.ones (g := 1) [11] (by kernel_rfl) ?_
          refine WL.call rfl rfl ck_70 (.none rfl) rfl rfl ?_
          intro w1 hS
          refine (putAddr_c (fun _ => False) w0 w1 _ _ _ _ _ x.addr ((x.len.toNat + 7) / 8) hV18 hS (by rw [List.length_append]; show ys.length + 1 ≤ _; omega) (by omega)).mono ?_
          rintro e w' ⟨ad24, c24, E24, rfl, hV24, hS'⟩
          refine ⟨_, _, rfl, hS', ?_⟩
          refine WL.nilR ?_
          refine WR.first (g := 0) [12] (by kernel_rfl) (by kernel_rfl) ?_
          refine WP.val (v_assign rfl rfl) (.none rfl) rfl rfl ?_
          refine WP.nil ?_
          refine WR.done (by kernel_rfl) ?_
          refine WE.block_n ?_
          refine WE.then_n ?_
          refine WC.region ?_
          refine WL.val (v_add rfl rfl rfl (w_i64 (by omega) (by omega))) (.none rfl) rfl rfl ?_
          refine WL.val (v_move rfl rfl) (.none rfl) rfl rfl ?_
          refine WL.nil ?_
          have hz : ys ++ [x.len % 256] ++ addrB x.addr ((x.len.toNat + 7) / 8) = ys ++ netE x := (by unfold netE; rw [List.append_assoc]; congr 2; show [_] = [_]; rw [show (2 : Int) ^ (8 * 0) = 1 by decide, Int.ediv_one])
          exact WE.next (k + 1, _, ad24, c24, E24) (by dsimp only; omega) ⟨by dsimp only; omega, by dsimp only; rw [hz, List.length_append]; omega, by dsimp only; rw [hz, List.append_assoc]; exact hy, hV24⟩ (.int rfl (by dsimp only; omega) (.cons rfl (.cons rfl (.cons rfl .nil)))) (List.Sublist.append_left (.cons _ (.cons _ (.refl _))) _)
        · -- next 7
          refine WL.val (v_load1 rfl rfl one_34 (cellAt rfl)) (.none rfl) rfl rfl ?_
          refine WL.nilR ?_
          refine WR.each (g := 4) [5, 9] (by kernel_rfl) (by decide) ?_
          refine ⟨?_, ?_⟩
          · -- next 5
            refine WL.appendL rfl rfl rfl Tryd.underlying22 Tryd.underlying22 sz_5 by_5 zero_5 rfl rfl hV2 (new := u8s [x.len % 256]) (fun _ => ⟨g17, 0, rfl, fun w hS => allAt (g := g17) w hS⟩) rfl (u8s_one _) (by omega) (.none rfl) rfl rfl ?_
            intro ad18 c18 E18 hV18 hr18
            rw [← u8s_app] at hV18
            rw [show ys.length + 1 = (ys ++ [x.len % 256]).length by rw [List.length_append]; rfl] at hV18 ⊢
            refine WL.nilR ?_
            refine WR.read (g := 2) [9, 10] (by kernel_rfl) (by kernel_rfl) (by kernel_rfl) (by kernel_rfl) rfl ?_
            refine WQ.val (v_load1 rfl rfl one_3 (cellAt rfl)) (.none rfl) rfl rfl ?_
            refine WQ.call _ rfl rfl ck_79 (.none rfl) rfl rfl (fun w hS => Calls.still (needs_c w x.len (by omega) (by omega)) hS) ?_
            refine WQ.nilR ?_
            refine WR.ones (g := 1) [11] (by kernel_rfl) ?_
            refine WL.call rfl rfl ck_70 (.none rfl) rfl rfl ?_
            intro w1 hS
            refine (putAddr_c (fun _ => False) w0 w1 _ _ _ _ _ x.addr ((x.len.toNat + 7) / 8) hV18 hS (by rw [List.length_append]; show ys.length + 1 ≤ _; omega) (by omega)).mono ?_
            rintro e w' ⟨ad24, c24, E24, rfl, hV24, hS'⟩
            refine ⟨_, _, rfl, hS', ?_⟩
            refine WL.nilR ?_
            refine WR.first (g := 0) [12] (by kernel_rfl) (by kernel_rfl) ?_
            refine WP.val (v_assign rfl rfl) (.none rfl) rfl rfl ?_
            refine WP.nil ?_
            refine WR.done (by kernel_rfl) ?_
            refine WE.block_n ?_
            refine WE.then_n ?_
            refine WC.region ?_
            refine WL.val (v_add rfl rfl rfl (w_i64 (by omega) (by omega))) (.none rfl) rfl rfl ?_
            refine WL.val (v_move rfl rfl) (.none rfl) rfl rfl ?_
            refine WL.nil ?_
            have hz : ys ++ [x.len % 256] ++ addrB x.addr ((x.len.toNat + 7) / 8) = ys ++ netE x := (by unfold netE; rw [List.append_assoc]; congr 2; show [_] = [_]; rw [show (2 : Int) ^ (8 * 0) = 1 by decide, Int.ediv_one])
            exact WE.next (k + 1, _, ad24, c24, E24) (by dsimp only; omega) ⟨by dsimp only; omega, by dsimp only; rw [hz, List.length_append]; omega, by dsimp only; rw [hz, List.append_assoc]; exact hy, hV24⟩ (.int rfl (by dsimp only; omega) (.cons rfl (.cons rfl (.cons rfl .nil)))) (List.Sublist.append_left (.cons _ (.cons _ (.refl _))) _)
          · -- next 9
            refine WL.val (v_load1 rfl rfl one_3 (cellAt rfl)) (.none rfl) rfl rfl ?_
            refine WL.nilR ?_
            refine WR.ones (g := 3) [5] (by kernel_rfl) ?_
            refine WL.appendL rfl rfl rfl Tryd.underlying22 Tryd.underlying22 sz_5 by_5 zero_5 rfl rfl hV2 (new := u8s [x.len % 256]) (fun _ => ⟨g17, 0, rfl, fun w hS => allAt (g := g17) w hS⟩) rfl (u8s_one _) (by omega) (.none rfl) rfl rfl ?_
            intro ad18 c18 E18 hV18 hr18
            rw [← u8s_app] at hV18
            rw [show ys.length + 1 = (ys ++ [x.len % 256]).length by rw [List.length_append]; rfl] at hV18 ⊢
            refine WL.nilR ?_
            refine WR.read (g := 2) [10] (by kernel_rfl) (by kernel_rfl) (by kernel_rfl) (by kernel_rfl) rfl ?_
            refine WQ.call _ rfl rfl ck_79 (.none rfl) rfl rfl (fun w hS => Calls.still (needs_c w x.len (by omega) (by omega)) hS) ?_
            refine WQ.nilR ?_
            refine WR.ones (g := 1) [11] (by kernel_rfl) ?_
            refine WL.call rfl rfl ck_70 (.none rfl) rfl rfl ?_
            intro w1 hS
            refine (putAddr_c (fun _ => False) w0 w1 _ _ _ _ _ x.addr ((x.len.toNat + 7) / 8) hV18 hS (by rw [List.length_append]; show ys.length + 1 ≤ _; omega) (by omega)).mono ?_
            rintro e w' ⟨ad24, c24, E24, rfl, hV24, hS'⟩
            refine ⟨_, _, rfl, hS', ?_⟩
            refine WL.nilR ?_
            refine WR.first (g := 0) [12] (by kernel_rfl) (by kernel_rfl) ?_
            refine WP.val (v_assign rfl rfl) (.none rfl) rfl rfl ?_
            refine WP.nil ?_
            refine WR.done (by kernel_rfl) ?_
            refine WE.block_n ?_
            refine WE.then_n ?_
            refine WC.region ?_
            refine WL.val (v_add rfl rfl rfl (w_i64 (by omega) (by omega))) (.none rfl) rfl rfl ?_
            refine WL.val (v_move rfl rfl) (.none rfl) rfl rfl ?_
            refine WL.nil ?_
            have hz : ys ++ [x.len % 256] ++ addrB x.addr ((x.len.toNat + 7) / 8) = ys ++ netE x := (by unfold netE; rw [List.append_assoc]; congr 2; show [_] = [_]; rw [show (2 : Int) ^ (8 * 0) = 1 by decide, Int.ediv_one])
            exact WE.next (k + 1, _, ad24, c24, E24) (by dsimp only; omega) ⟨by dsimp only; omega, by dsimp only; rw [hz, List.length_append]; omega, by dsimp only; rw [hz, List.append_assoc]; exact hy, hV24⟩ (.int rfl (by dsimp only; omega) (.cons rfl (.cons rfl (.cons rfl .nil)))) (List.Sublist.append_left (.cons _ (.cons _ (.refl _))) _)
        · -- next 9
          refine WL.val (v_load1 rfl rfl one_3 (cellAt rfl)) (.none rfl) rfl rfl ?_
          refine WL.nilR ?_
          refine WR.each (g := 4) [5, 7] (by kernel_rfl) (by decide) ?_
          refine ⟨?_, ?_⟩
          · -- next 5
            refine WL.appendL rfl rfl rfl Tryd.underlying22 Tryd.underlying22 sz_5 by_5 zero_5 rfl rfl hV2 (new := u8s [x.len % 256]) (fun _ => ⟨g17, 0, rfl, fun w hS => allAt (g := g17) w hS⟩) rfl (u8s_one _) (by omega) (.none rfl) rfl rfl ?_
            intro ad18 c18 E18 hV18 hr18
            rw [← u8s_app] at hV18
            rw [show ys.length + 1 = (ys ++ [x.len % 256]).length by rw [List.length_append]; rfl] at hV18 ⊢
            refine WL.nilR ?_
            refine WR.read (g := 2) [7, 10] (by kernel_rfl) (by kernel_rfl) (by kernel_rfl) (by kernel_rfl) rfl ?_
            refine WQ.val (v_load1 rfl rfl one_34 (cellAt rfl)) (.none rfl) rfl rfl ?_
            refine WQ.call _ rfl rfl ck_79 (.none rfl) rfl rfl (fun w hS => Calls.still (needs_c w x.len (by omega) (by omega)) hS) ?_
            refine WQ.nilR ?_
            refine WR.ones (g := 1) [11] (by kernel_rfl) ?_
            refine WL.call rfl rfl ck_70 (.none rfl) rfl rfl ?_
            intro w1 hS
            refine (putAddr_c (fun _ => False) w0 w1 _ _ _ _ _ x.addr ((x.len.toNat + 7) / 8) hV18 hS (by rw [List.length_append]; show ys.length + 1 ≤ _; omega) (by omega)).mono ?_
            rintro e w' ⟨ad24, c24, E24, rfl, hV24, hS'⟩
            refine ⟨_, _, rfl, hS', ?_⟩
            refine WL.nilR ?_
            refine WR.first (g := 0) [12] (by kernel_rfl) (by kernel_rfl) ?_
            refine WP.val (v_assign rfl rfl) (.none rfl) rfl rfl ?_
            refine WP.nil ?_
            refine WR.done (by kernel_rfl) ?_
            refine WE.block_n ?_
            refine WE.then_n ?_
            refine WC.region ?_
            refine WL.val (v_add rfl rfl rfl (w_i64 (by omega) (by omega))) (.none rfl) rfl rfl ?_
            refine WL.val (v_move rfl rfl) (.none rfl) rfl rfl ?_
            refine WL.nil ?_
            have hz : ys ++ [x.len % 256] ++ addrB x.addr ((x.len.toNat + 7) / 8) = ys ++ netE x := (by unfold netE; rw [List.append_assoc]; congr 2; show [_] = [_]; rw [show (2 : Int) ^ (8 * 0) = 1 by decide, Int.ediv_one])
            exact WE.next (k + 1, _, ad24, c24, E24) (by dsimp only; omega) ⟨by dsimp only; omega, by dsimp only; rw [hz, List.length_append]; omega, by dsimp only; rw [hz, List.append_assoc]; exact hy, hV24⟩ (.int rfl (by dsimp only; omega) (.cons rfl (.cons rfl (.cons rfl .nil)))) (List.Sublist.append_left (.cons _ (.cons _ (.refl _))) _)
          · -- next 7
            refine WL.val (v_load1 rfl rfl one_34 (cellAt rfl)) (.none rfl) rfl rfl ?_
            refine WL.nilR ?_
            refine WR.ones (g := 3) [5] (by kernel_rfl) ?_
            refine WL.appendL rfl rfl rfl Tryd.underlying22 Tryd.underlying22 sz_5 by_5 zero_5 rfl rfl hV2 (new := u8s [x.len % 256]) (fun _ => ⟨g17, 0, rfl, fun w hS => allAt (g := g17) w hS⟩) rfl (u8s_one _) (by omega) (.none rfl) rfl rfl ?_
            intro ad18 c18 E18 hV18 hr18
            rw [← u8s_app] at hV18
            rw [show ys.length + 1 = (ys ++ [x.len % 256]).length by rw [List.length_append]; rfl] at hV18 ⊢
            refine WL.nilR ?_
            refine WR.read (g := 2) [10] (by kernel_rfl) (by kernel_rfl) (by kernel_rfl) (by kernel_rfl) rfl ?_
            refine WQ.call _ rfl rfl ck_79 (.none rfl) rfl rfl (fun w hS => Calls.still (needs_c w x.len (by omega) (by omega)) hS) ?_
            refine WQ.nilR ?_
            refine WR.ones (g := 1) [11] (by kernel_rfl) ?_
            refine WL.call rfl rfl ck_70 (.none rfl) rfl rfl ?_
            intro w1 hS
            refine (putAddr_c (fun _ => False) w0 w1 _ _ _ _ _ x.addr ((x.len.toNat + 7) / 8) hV18 hS (by rw [List.length_append]; show ys.length + 1 ≤ _; omega) (by omega)).mono ?_
            rintro e w' ⟨ad24, c24, E24, rfl, hV24, hS'⟩
            refine ⟨_, _, rfl, hS', ?_⟩
            refine WL.nilR ?_
            refine WR.first (g := 0) [12] (by kernel_rfl) (by kernel_rfl) ?_
            refine WP.val (v_assign rfl rfl) (.none rfl) rfl rfl ?_
            refine WP.nil ?_
            refine WR.done (by kernel_rfl) ?_
            refine WE.block_n ?_
            refine WE.then_n ?_
            refine WC.region ?_
            refine WL.val (v_add rfl rfl rfl (w_i64 (by omega) (by omega))) (.none rfl) rfl rfl ?_
            refine WL.val (v_move rfl rfl) (.none rfl) rfl rfl ?_
            refine WL.nil ?_
            have hz : ys ++ [x.len % 256] ++ addrB x.addr ((x.len.toNat + 7) / 8) = ys ++ netE x := (by unfold netE; rw [List.append_assoc]; congr 2; show [_] = [_]; rw [show (2 : Int) ^ (8 * 0) = 1 by decide, Int.ediv_one])
            exact WE.next (k + 1, _, ad24, c24, E24) (by dsimp only; omega) ⟨by dsimp only; omega, by dsimp only; rw [hz, List.length_append]; omega, by dsimp only; rw [hz, List.append_assoc]; exact hy, hV24⟩ (.int rfl (by dsimp only; omega) (.cons rfl (.cons rfl (.cons rfl .nil)))) (List.Sublist.append_left (.cons _ (.cons _ (.refl _))) _)
      · -- next 7
        refine WL.val (v_load1 rfl rfl one_34 (cellAt rfl)) (.none rfl) rfl rfl ?_
        refine WL.nilR ?_
        refine WR.each (g := 5) [4, 9] (by kernel_rfl) (by decide) ?_
        refine ⟨?_, ?_⟩
        · -- next 4
          refine WL.buildSlice rfl rfl Tryd.underlying22 sz_5 zero_5 rfl (by decide) rfl (.none rfl) rfl rfl ?_
          intro g17 hg17
          refine WL.as (L' := .row g17 (u8s [x.len % 256]) :: (E2 ++ (.row g6 x.cells :: L))) rfl ?_
          refine WL.to (L' := E2 ++ (.row g17 (u8s [x.len % 256]) :: .row g6 x.cells :: L)) (fun w hS => hS.front [_]) ?_
          refine WL.nilR ?_
          refine WR.each (g := 4) [5, 9] (by kernel_rfl) (by decide) ?_
          refine ⟨?_, ?_⟩
          · -- next 5
            refine WL.appendL rfl rfl rfl Tryd.underlying22 Tryd.underlying22 sz_5 by_5 zero_5 rfl rfl hV2 (new := u8s [x.len % 256]) (fun _ => ⟨g17, 0, rfl, fun w hS => allAt (g := g17) w hS⟩) rfl (u8s_one _) (by omega) (.none rfl) rfl rfl ?_
            intro ad18 c18 E18 hV18 hr18
            rw [← u8s_app] at hV18
            rw [show ys.length + 1 = (ys ++ [x.len % 256]).length by rw [List.length_append]; rfl] at hV18 ⊢
            refine WL.nilR ?_
            refine WR.read (g := 2) [9, 10] (by kernel_rfl) (by kernel_rfl) (by kernel_rfl) (by kernel_rfl) rfl ?_
            refine WQ.val (v_load1 rfl rfl one_3 (cellAt rfl)) (.none rfl) rfl rfl ?_
            refine WQ.call _ rfl rfl ck_79 (.none rfl) rfl rfl (fun w hS => Calls.still (needs_c w x.len (by omega) (by omega)) hS) ?_
            refine WQ.nilR ?_
            refine WR.ones (g := 1) [11] (by kernel_rfl) ?_
            refine WL.call rfl rfl ck_70 (.none rfl) rfl rfl ?_
            intro w1 hS
            refine (putAddr_c (fun _ => False) w0 w1 _ _ _ _ _ x.addr ((x.len.toNat + 7) / 8) hV18 hS (by rw [List.length_append]; show ys.length + 1 ≤ _; omega) (by omega)).mono ?_
            rintro e w' ⟨ad24, c24, E24, rfl, hV24, hS'⟩
            refine ⟨_, _, rfl, hS', ?_⟩
            refine WL.nilR ?_
            refine WR.first (g := 0) [12] (by kernel_rfl) (by kernel_rfl) ?_
            refine WP.val (v_assign rfl rfl) (.none rfl) rfl rfl ?_
            refine WP.nil ?_
            refine WR.done (by kernel_rfl) ?_
            refine WE.block_n ?_
            refine WE.then_n ?_
            refine WC.region ?_
            refine WL.val (v_add rfl rfl rfl (w_i64 (by omega) (by omega))) (.none rfl) rfl rfl ?_
            refine WL.val (v_move rfl rfl) (.none rfl) rfl rfl ?_
            refine WL.nil ?_
            have hz : ys ++ [x.len % 256] ++ addrB x.addr ((x.len.toNat + 7) / 8) = ys ++ netE x := (by unfold netE; rw [List.append_assoc]; congr 2; show [_] = [_]; rw [show (2 : Int) ^ (8 * 0) = 1 by decide, Int.ediv_one])
            exact WE.next (k + 1, _, ad24, c24, E24) (by dsimp only; omega) ⟨by dsimp only; omega, by dsimp only; rw [hz, List.length_append]; omega, by dsimp only; rw [hz, List.append_assoc]; exact hy, hV24⟩ (.int rfl (by dsimp only; omega) (.cons rfl (.cons rfl (.cons rfl .nil)))) (List.Sublist.append_left (.cons _ (.cons _ (.refl _))) _)
          · -- next 9
            refine WL.val (v_load1 rfl rfl one_3 (cellAt rfl)) (.none rfl) rfl rfl ?_
            refine WL.nilR ?_
            refine WR.ones (g := 3) [5] (by kernel_rfl) ?_
            refine WL.appendL rfl rfl rfl Tryd.underlying22 Tryd.underlying22 sz_5 by_5 zero_5 rfl rfl hV2 (new := u8s [x.len % 256]) (fun _ => ⟨g17, 0, rfl, fun w hS => allAt (g := g17) w hS⟩) rfl (u8s_one _) (by omega) (.none rfl) rfl rfl ?_
            intro ad18 c18 E18 hV18 hr18
            rw [← u8s_app] at hV18
            rw [show ys.length + 1 = (ys ++ [x.len % 256]).length by rw [List.length_append]; rfl] at hV18 ⊢
            refine WL.nilR ?_
            refine WR.read (g := 2) [10] (by kernel_rfl) (by kernel_rfl) (by kernel_rfl) (by kernel_rfl) rfl ?_
            refine WQ.call _ rfl rfl ck_79 (.none rfl) rfl rfl (fun w hS => Calls.still (needs_c w x.len (by omega) (by omega)) hS) ?_
            refine WQ.nilR ?_
            refine WR.ones (g := 1) [11] (by kernel_rfl) ?_
            refine WL.call rfl rfl ck_70 (.none rfl) rfl rfl ?_
            intro w1 hS
            refine (putAddr_c (fun _ => False) w0 w1 _ _ _ _ _ x.addr ((x.len.toNat + 7) / 8) hV18 hS (by rw [List.length_append]; show ys.length + 1 ≤ _; omega) (by omega)).mono ?_
            rintro e w' ⟨ad24, c24, E24, rfl, hV24, hS'⟩
            refine ⟨_, _, rfl, hS', ?_⟩
            refine WL.nilR ?_
            refine WR.first (g := 0) [12] (by kernel_rfl) (by kernel_rfl) ?_
            refine WP.val (v_assign rfl rfl) (.none rfl) rfl rfl ?_
            refine WP.nil ?_
            refine WR.done (by kernel_rfl) ?_
            refine WE.block_n ?_
            refine WE.then_n ?_
            refine WC.region ?_
            refine WL.val (v_add rfl rfl rfl (w_i64 (by omega) (by omega))) (.none rfl) rfl rfl ?_
            refine WL.val (v_move rfl rfl) (.none rfl) rfl rfl ?_
            refine WL.nil ?_
            have hz : ys ++ [x.len % 256] ++ addrB x.addr ((x.len.toNat + 7) / 8) = ys ++ netE x := (by unfold netE; rw [List.append_assoc]; congr 2; show [_] = [_]; rw [show (2 : Int) ^ (8 * 0) = 1 by decide, Int.ediv_one])
            exact WE.next (k + 1, _, ad24, c24, E24) (by dsimp only; omega) ⟨by dsimp only; omega, by dsimp only; rw [hz, List.length_append]; omega, by dsimp only; rw [hz, List.append_assoc]; exact hy, hV24⟩ (.int rfl (by dsimp only; omega) (.cons rfl (.cons rfl (.cons rfl .nil)))) (List.Sublist.append_left (.cons _ (.cons _ (.refl _))) _)
        · -- next 9
          refine WL.val (v_load1 rfl rfl one_3 (cellAt rfl)) (.none rfl) rfl rfl ?_
          refine WL.nilR ?_
          refine WR.ones (g := 3) [4, 5] (by kernel_rfl) ?_
          refine WL.buildSlice rfl rfl Tryd.underlying22 sz_5 zero_5 rfl (by decide) rfl (.none rfl) rfl rfl ?_
          intro g17 hg17
          refine WL.as (L' := .row g17 (u8s [x.len % 256]) :: (E2 ++ (.row g6 x.cells :: L))) rfl ?_
          refine WL.to (L' := E2 ++ (.row g17 (u8s [x.len % 256]) :: .row g6 x.cells :: L)) (fun w hS => hS.front [_]) ?_
          refine WL.appendL rfl rfl rfl Tryd.underlying22 Tryd.underlying22 sz_5 by_5 zero_5 rfl rfl hV2 (new := u8s [x.len % 256]) (fun _ => ⟨g17, 0, rfl, fun w hS => allAt (g := g17) w hS⟩) rfl (u8s_one _) (by omega) (.none rfl) rfl rfl ?_
          intro ad18 c18 E18 hV18 hr18
          rw [← u8s_app] at hV18
          rw [show ys.length + 1 = (ys ++ [x.len % 256]).length by rw [List.length_append]; rfl] at hV18 ⊢
          refine WL.nilR ?_
          refine WR.read (g := 2) [10] (by kernel_rfl) (by kernel_rfl) (by kernel_rfl) (by kernel_rfl) rfl ?_
          refine WQ.call _ rfl rfl ck_79 (.none rfl) rfl rfl (fun w hS => Calls.still (needs_c w x.len (by omega) (by omega)) hS) ?_
          refine WQ.nilR ?_
          refine WR.ones (g := 1) [11] (by kernel_rfl) ?_
          refine WL.call rfl rfl ck_70 (.none rfl) rfl rfl ?_
          intro w1 hS
          refine (putAddr_c (fun _ => False) w0 w1 _ _ _ _ _ x.addr ((x.len.toNat + 7) / 8) hV18 hS (by rw [List.length_append]; show ys.length + 1 ≤ _; omega) (by omega)).mono ?_
          rintro e w' ⟨ad24, c24, E24, rfl, hV24, hS'⟩
          refine ⟨_, _, rfl, hS', ?_⟩
          refine WL.nilR ?_
          refine WR.first (g := 0) [12] (by kernel_rfl) (by kernel_rfl) ?_
          refine WP.val (v_assign rfl rfl) (.none rfl) rfl rfl ?_
          refine WP.nil ?_
          refine WR.done (by kernel_rfl) ?_
          refine WE.block_n ?_
          refine WE.then_n ?_
          refine WC.region ?_
          refine WL.val (v_add rfl rfl rfl (w_i64 (by omega) (by omega))) (.none rfl) rfl rfl ?_
          refine WL.val (v_move rfl rfl) (.none rfl) rfl rfl ?_
          refine WL.nil ?_
          have hz : ys ++ [x.len % 256] ++ addrB x.addr ((x.len.toNat + 7) / 8) = ys ++ netE x := (by unfold netE; rw [List.append_assoc]; congr 2; show [_] = [_]; rw [show (2 : Int) ^ (8 * 0) = 1 by decide, Int.ediv_one])
          exact WE.next (k + 1, _, ad24, c24, E24) (by dsimp only; omega) ⟨by dsimp only; omega, by dsimp only; rw [hz, List.length_append]; omega, by dsimp only; rw [hz, List.append_assoc]; exact hy, hV24⟩ (.int rfl (by dsimp only; omega) (.cons rfl (.cons rfl (.cons rfl .nil)))) (List.Sublist.append_left (.cons _ (.cons _ (.refl _))) _)
      · -- next 9
        refine WL.val (v_load1 rfl rfl one_3 (cellAt rfl)) (.none rfl) rfl rfl ?_
        refine WL.nilR ?_
        refine WR.each (g := 5) [4, 7] (by kernel_rfl) (by decide) ?_
        refine ⟨?_, ?_⟩
        · -- next 4
          refine WL.buildSlice rfl rfl Tryd.underlying22 sz_5 zero_5 rfl (by decide) rfl (.none rfl) rfl rfl ?_
          intro g17 hg17
          refine WL.as (L' := .row g17 (u8s [x.len % 256]) :: (E2 ++ (.row g6 x.cells :: L))) rfl ?_
          refine WL.to (L' := E2 ++ (.row g17 (u8s [x.len % 256]) :: .row g6 x.cells :: L)) (fun w hS => hS.front [_]) ?_
          refine WL.nilR ?_
          refine WR.each (g := 4) [5, 7] (by kernel_rfl) (by decide) ?_
          refine ⟨?_, ?_⟩
          · -- next 5
            refine WL.appendL rfl rfl rfl Tryd.underlying22 Tryd.underlying22 sz_5 by_5 zero_5 rfl rfl hV2 (new := u8s [x.len % 256]) (fun _ => ⟨g17, 0, rfl, fun w hS => allAt (g := g17) w hS⟩) rfl (u8s_one _) (by omega) (.none rfl) rfl rfl ?_
            intro ad18 c18 E18 hV18 hr18
            rw [← u8s_app] at hV18
            rw [show ys.length + 1 = (ys ++ [x.len % 256]).length by rw [List.length_append]; rfl] at hV18 ⊢
            refine WL.nilR ?_
            refine WR.read (g := 2) [7, 10] (by kernel_rfl) (by kernel_rfl) (by kernel_rfl) (by kernel_rfl) rfl ?_
            refine WQ.val (v_load1 rfl rfl one_34 (cellAt rfl)) (.none rfl) rfl rfl ?_
            refine WQ.call _ rfl rfl ck_79 (.none rfl) rfl rfl (fun w hS => Calls.still (needs_c w x.len (by omega) (by omega)) hS) ?_
            refine WQ.nilR ?_
            refine WR.ones (g := 1) [11] (by kernel_rfl) ?_
            refine WL.call rfl rfl ck_70 (.none rfl) rfl rfl ?_
            intro w1 hS
            refine (putAddr_c (fun _ => False) w0 w1 _ _ _ _ _ x.addr ((x.len.toNat + 7) / 8) hV18 hS (by rw [List.length_append]; show ys.length + 1 ≤ _; omega) (by omega)).mono ?_
            rintro e w' ⟨ad24, c24, E24, rfl, hV24, hS'⟩
            refine ⟨_, _, rfl, hS', ?_⟩
            refine WL.nilR ?_
            refine WR.first (g := 0) [12] (by kernel_rfl) (by kernel_rfl) ?_
            refine WP.val (v_assign rfl rfl) (.none rfl) rfl rfl ?_
            refine WP.nil ?_
            refine WR.done (by kernel_rfl) ?_
            refine WE.block_n ?_
            refine WE.then_n ?_
            refine WC.region ?_
            refine WL.val (v_add rfl rfl rfl (w_i64 (by omega) (by omega))) (.none rfl) rfl rfl ?_
            refine WL.val (v_move rfl rfl) (.none rfl) rfl rfl ?_
            refine WL.nil ?_
            have hz : ys ++ [x.len % 256] ++ addrB x.addr ((x.len.toNat + 7) / 8) = ys ++ netE x := (by unfold netE; rw [List.append_assoc]; congr 2; show [_] = [_]; rw [show (2 : Int) ^ (8 * 0) = 1 by decide, Int.ediv_one])
            exact WE.next (k + 1, _, ad24, c24, E24) (by dsimp only; omega) ⟨by dsimp only; omega, by dsimp only; rw [hz, List.length_append]; omega, by dsimp only; rw [hz, List.append_assoc]; exact hy, hV24⟩ (.int rfl (by dsimp only; omega) (.cons rfl (.cons rfl (.cons rfl .nil)))) (List.Sublist.append_left (.cons _ (.cons _ (.refl _))) _)
          · -- next 7
            refine WL.val (v_load1 rfl rfl one_34 (cellAt rfl)) (.none rfl) rfl rfl ?_
            refine WL.nilR ?_
            refine WR.ones (g := 3) [5] (by kernel_rfl) ?_
            refine WL.appendL rfl rfl rfl Tryd.underlying22 Tryd.underlying22 sz_5 by_5 zero_5 rfl rfl hV2 (new := u8s [x.len % 256]) (fun _ => ⟨g17, 0, rfl, fun w hS => allAt (g := g17) w hS⟩) rfl (u8s_one _) (by omega) (.none rfl) rfl rfl ?_
            intro ad18 c18 E18 hV18 hr18
            rw [← u8s_app] at hV18
            rw [show ys.length + 1 = (ys ++ [x.len % 256]).length by rw [List.length_append]; rfl] at hV18 ⊢
            refine WL.nilR ?_
            refine WR.read (g := 2) [10] (by kernel_rfl) (by kernel_rfl) (by kernel_rfl) (by kernel_rfl) rfl ?_
            refine WQ.call _ rfl rfl ck_79 (.none rfl) rfl rfl (fun w hS => Calls.still (needs_c w x.len (by omega) (by omega)) hS) ?_
            refine WQ.nilR ?_
            refine WR.ones (g := 1) [11] (by kernel_rfl) ?_
            refine WL.call rfl rfl ck_70 (.none rfl) rfl rfl ?_
            intro w1 hS
            refine (putAddr_c (fun _ => False) w0 w1 _ _ _ _ _ x.addr ((x.len.toNat + 7) / 8) hV18 hS (by rw [List.length_append]; show ys.length + 1 ≤ _; omega) (by omega)).mono ?_
            rintro e w' ⟨ad24, c24, E24, rfl, hV24, hS'⟩
            refine ⟨_, _, rfl, hS', ?_⟩
            refine WL.nilR ?_
            refine WR.first (g := 0) [12] (by kernel_rfl) (by kernel_rfl) ?_
            refine WP.val (v_assign rfl rfl) (.none rfl) rfl rfl ?_
            refine WP.nil ?_
            refine WR.done (by kernel_rfl) ?_
            refine WE.block_n ?_
            refine WE.then_n ?_
            refine WC.region ?_
            refine WL.val (v_add rfl rfl rfl (w_i64 (by omega) (by omega))) (.none rfl) rfl rfl ?_
            refine WL.val (v_move rfl rfl) (.none rfl) rfl rfl ?_
            refine WL.nil ?_
            have hz : ys ++ [x.len % 256] ++ addrB x.addr ((x.len.toNat + 7) / 8) = ys ++ netE x := (by unfold netE; rw [List.append_assoc]; congr 2; show [_] = [_]; rw [show (2 : Int) ^ (8 * 0) = 1 by decide, Int.ediv_one])
            exact WE.next (k + 1, _, ad24, c24, E24) (by dsimp only; omega) ⟨by dsimp only; omega, by dsimp only; rw [hz, List.length_append]; omega, by dsimp only; rw [hz, List.append_assoc]; exact hy, hV24⟩ (.int rfl (by dsimp only; omega) (.cons rfl (.cons rfl (.cons rfl .nil)))) (List.Sublist.append_left (.cons _ (.cons _ (.refl _))) _)
        · -- next 7
          refine WL.val (v_load1 rfl rfl one_34 (cellAt rfl)) (.none rfl) rfl rfl ?_
          refine WL.nilR ?_
          refine WR.ones (g := 3) [4, 5] (by kernel_rfl) ?_
          refine WL.buildSlice rfl rfl Tryd.underlying22 sz_5 zero_5 rfl (by decide) rfl (.none rfl) rfl rfl ?_
          intro g17 hg17
          refine WL.as (L' := .row g17 (u8s [x.len % 256]) :: (E2 ++ (.row g6 x.cells :: L))) rfl ?_
          refine WL.to (L' := E2 ++ (.row g17 (u8s [x.len % 256]) :: .row g6 x.cells :: L)) (fun w hS => hS.front [_]) ?_
          refine WL.appendL rfl rfl rfl Tryd.underlying22 Tryd.underlying22 sz_5 by_5 zero_5 rfl rfl hV2 (new := u8s [x.len % 256]) (fun _ => ⟨g17, 0, rfl, fun w hS => allAt (g := g17) w hS⟩) rfl (u8s_one _) (by omega) (.none rfl) rfl rfl ?_
          intro ad18 c18 E18 hV18 hr18
          rw [← u8s_app] at hV18
          rw [show ys.length + 1 = (ys ++ [x.len % 256]).length by rw [List.length_append]; rfl] at hV18 ⊢
          refine WL.nilR ?_
          refine WR.read (g := 2) [10] (by kernel_rfl) (by kernel_rfl) (by kernel_rfl) (by kernel_rfl) rfl ?_
          refine WQ.call _ rfl rfl ck_79 (.none rfl) rfl rfl (fun w hS => Calls.still (needs_c w x.len (by omega) (by omega)) hS) ?_
          refine WQ.nilR ?_
          refine WR.ones (g := 1) [11] (by kernel_rfl) ?_
          refine WL.call rfl rfl ck_70 (.none rfl) rfl rfl ?_
          intro w1 hS
          refine (putAddr_c (fun _ => False) w0 w1 _ _ _ _ _ x.addr ((x.len.toNat + 7) / 8) hV18 hS (by rw [List.length_append]; show ys.length + 1 ≤ _; omega) (by omega)).mono ?_
          rintro e w' ⟨ad24, c24, E24, rfl, hV24, hS'⟩
          refine ⟨_, _, rfl, hS', ?_⟩
          refine WL.nilR ?_
          refine WR.first (g := 0) [12] (by kernel_rfl) (by kernel_rfl) ?_
          refine WP.val (v_assign rfl rfl) (.none rfl) rfl rfl ?_
          refine WP.nil ?_
          refine WR.done (by kernel_rfl) ?_
          refine WE.block_n ?_
          refine WE.then_n ?_
          refine WC.region ?_
          refine WL.val (v_add rfl rfl rfl (w_i64 (by omega) (by omega))) (.none rfl) rfl rfl ?_
          refine WL.val (v_move rfl rfl) (.none rfl) rfl rfl ?_
          refine WL.nil ?_
          have hz : ys ++ [x.len % 256] ++ addrB x.addr ((x.len.toNat + 7) / 8) = ys ++ netE x := (by unfold netE; rw [List.append_assoc]; congr 2; show [_] = [_]; rw [show (2 : Int) ^ (8 * 0) = 1 by decide, Int.ediv_one])
          exact WE.next (k + 1, _, ad24, c24, E24) (by dsimp only; omega) ⟨by dsimp only; omega, by dsimp only; rw [hz, List.length_append]; omega, by dsimp only; rw [hz, List.append_assoc]; exact hy, hV24⟩ (.int rfl (by dsimp only; omega) (.cons rfl (.cons rfl (.cons rfl .nil)))) (List.Sublist.append_left (.cons _ (.cons _ (.refl _))) _)
    · -- next 7
      refine WL.val (v_load1 rfl rfl one_34 (cellAt rfl)) (.none rfl) rfl rfl ?_
      refine WL.nilR ?_
      refine WR.each (g := 7) [2, 9] (by kernel_rfl) (by decide) ?_
      refine ⟨?_, ?_⟩
      · -- next 2
        refine WL.val (v_load1 rfl rfl one_3 (cellAt rfl)) (.none rfl) rfl rfl ?_
        refine WL.nilR ?_
        refine WR.first (g := 6) [3] (by kernel_rfl) (by kernel_rfl) ?_
        refine WP.val (v_conv rfl rfl Tryd.underlying5 Tryd.underlying3 (w_u8m _)) (.none rfl) rfl rfl ?_
        refine WP.nil ?_
        refine WR.each (g := 5) [4, 9] (by kernel_rfl) (by decide) ?_
        refine ⟨?_, ?_⟩
        · -- next 4
          refine WL.buildSlice rfl rfl Tryd.underlying22 sz_5 zero_5 rfl (by decide) rfl (.none rfl) rfl rfl ?_
          intro g17 hg17
          refine WL.as (L' := .row g17 (u8s [x.len % 256]) :: (E2 ++ (.row g6 x.cells :: L))) rfl ?_
          refine WL.to (L' := E2 ++ (.row g17 (u8s [x.len % 256]) :: .row g6 x.cells :: L)) (fun w hS => hS.front [_]) ?_
          refine WL.nilR ?_
          refine WR.each (g := 4) [5, 9] (by kernel_rfl) (by decide) ?_
          refine ⟨?_, ?_⟩
          · -- next 5
            refine WL.appendL rfl rfl rfl Tryd.underlying22 Tryd.underlying22 sz_5 by_5 zero_5 rfl rfl hV2 (new := u8s [x.len % 256]) (fun _ => ⟨g17, 0, rfl, fun w hS => allAt (g := g17) w hS⟩) rfl (u8s_one _) (by omega) (.none rfl) rfl rfl ?_
            intro ad18 c18 E18 hV18 hr18
            rw [← u8s_app] at hV18
            rw [show ys.length + 1 = (ys ++ [x.len % 256]).length by rw [List.length_append]; rfl] at hV18 ⊢
            refine WL.nilR ?_
            refine WR.read (g := 2) [9, 10] (by kernel_rfl) (by kernel_rfl) (by kernel_rfl) (by kernel_rfl) rfl ?_
            refine WQ.val (v_load1 rfl rfl one_3 (cellAt rfl)) (.none rfl) rfl rfl ?_
            refine WQ.call _ rfl rfl ck_79 (.none rfl) rfl rfl (fun w hS => Calls.still (needs_c w x.len (by omega) (by omega)) hS) ?_
            refine WQ.nilR ?_
            refine WR.ones (g := 1) [11] (by kernel_rfl) ?_
            refine WL.call rfl rfl ck_70 (.none rfl) rfl rfl ?_
            intro w1 hS
            refine (putAddr_c (fun _ => False) w0 w1 _ _ _ _ _ x.addr ((x.len.toNat + 7) / 8) hV18 hS (by rw [List.length_append]; show ys.length + 1 ≤ _; omega) (by omega)).mono ?_
            rintro e w' ⟨ad24, c24, E24, rfl, hV24, hS'⟩
            refine ⟨_, _, rfl, hS', ?_⟩
            refine WL.nilR ?_
            refine WR.first (g := 0) [12] (by kernel_rfl) (by kernel_rfl) ?_
            refine WP.val (v_assign rfl rfl) (.none rfl) rfl rfl ?_
            refine WP.nil ?_
            refine WR.done (by kernel_rfl) ?_
            refine WE.block_n ?_
            refine WE.then_n ?_
            refine WC.region ?_
            refine WL.val (v_add rfl rfl rfl (w_i64 (by omega) (by omega))) (.none rfl) rfl rfl ?_
            refine WL.val (v_move rfl rfl) (.none rfl) rfl rfl ?_
            refine WL.nil ?_
            have hz : ys ++ [x.len % 256] ++ addrB x.addr ((x.len.toNat + 7) / 8) = ys ++ netE x := (by unfold netE; rw [List.append_assoc]; congr 2; show [_] = [_]; rw [show (2 : Int) ^ (8 * 0) = 1 by decide, Int.ediv_one])
            exact WE.next (k + 1, _, ad24, c24, E24) (by dsimp only; omega) ⟨by dsimp only; omega, by dsimp only; rw [hz, List.length_append]; omega, by dsimp only; rw [hz, List.append_assoc]; exact hy, hV24⟩ (.int rfl (by dsimp only; omega) (.cons rfl (.cons rfl (.cons rfl .nil)))) (List.Sublist.append_left (.cons _ (.cons _ (.refl _))) _)
          · -- next 9
            refine WL.val (v_load1 rfl rfl one_3 (cellAt rfl)) (.none rfl) rfl rfl ?_
            refine WL.nilR ?_
            refine WR.ones (g := 3) [5] (by kernel_rfl) ?_
            refine WL.appendL rfl rfl rfl Tryd.underlying22 Tryd.underlying22 sz_5 by_5 zero_5 rfl rfl hV2 (new := u8s [x.len % 256]) (fun _ => ⟨g17, 0, rfl, fun w hS => allAt (g := g17) w hS⟩) rfl (u8s_one _) (by omega) (.none rfl) rfl rfl ?_
            intro ad18 c18 E18 hV18 hr18
            rw [← u8s_app] at hV18
            rw [show ys.length + 1 = (ys ++ [x.len % 256]).length by rw [List.length_append]; rfl] at hV18 ⊢
            refine WL.nilR ?_
            refine WR.read (g := 2) [10] (by kernel_rfl) (by kernel_rfl) (by kernel_rfl) (by kernel_rfl) rfl ?_
            refine WQ.call _ rfl rfl ck_79 (.none rfl) rfl rfl (fun w hS => Calls.still (needs_c w x.len (by omega) (by omega)) hS) ?_
            refine WQ.nilR ?_
            refine WR.ones (g := 1) [11] (by kernel_rfl) ?_
            refine WL.call rfl rfl ck_70 (.none rfl) rfl rfl ?_
            intro w1 hS
            refine (putAddr_c (fun _ => False) w0 w1 _ _ _ _ _ x.addr ((x.len.toNat + 7) / 8) hV18 hS (by rw [List.length_append]; show ys.length + 1 ≤ _; omega) (by omega)).mono ?_
            rintro e w' ⟨ad24, c24, E24, rfl, hV24, hS'⟩
            refine ⟨_, _, rfl, hS', ?_⟩
            refine WL.nilR ?_
            refine WR.first (g := 0) [12] (by kernel_rfl) (by kernel_rfl) ?_
            refine WP.val (v_assign rfl rfl) (.none rfl) rfl rfl ?_
            refine WP.nil ?_
            refine WR.done (by kernel_rfl) ?_
            refine WE.block_n ?_
            refine WE.then_n ?_
            refine WC.region ?_
            refine WL.val (v_add rfl rfl rfl (w_i64 (by omega) (by omega))) (.none rfl) rfl rfl ?_
            refine WL.val (v_move rfl rfl) (.none rfl) rfl rfl ?_
            refine WL.nil ?_
            have hz : ys ++ [x.len % 256] ++ addrB x.addr ((x.len.toNat + 7) / 8) = ys ++ netE x := (by unfold netE; rw [List.append_assoc]; congr 2; show [_] = [_]; rw [show (2 : Int) ^ (8 * 0) = 1 by decide, Int.ediv_one])
            exact WE.next (k + 1, _, ad24, c24, E24) (by dsimp only; omega) ⟨by dsimp only; omega, by dsimp only; rw [hz, List.length_append]; omega, by dsimp only; rw [hz, List.append_assoc]; exact hy, hV24⟩ (.int rfl (by dsimp only; omega) (.cons rfl (.cons rfl (.cons rfl .nil)))) (List.Sublist.append_left (.cons _ (.cons _ (.refl _))) _)
        · -- next 9
          refine WL.val (v_load1 rfl rfl one_3 (cellAt rfl)) (.none rfl) rfl rfl ?_
          refine WL.nilR ?_
          refine WR.ones (g := 3) [4, 5] (by kernel_rfl) ?_
          refine WL.buildSlice rfl rfl Tryd.underlying22 sz_5 zero_5 rfl (by decide) rfl (.none rfl) rfl rfl ?_
          intro g17 hg17
          refine WL.as (L' := .row g17 (u8s [x.len % 256]) :: (E2 ++ (.row g6 x.cells :: L))) rfl ?_
          refine WL.to (L' := E2 ++ (.row g17 (u8s [x.len % 256]) :: .row g6 x.cells :: L)) (fun w hS => hS.front [_]) ?_
          refine WL.appendL rfl rfl rfl Tryd.underlying22 Tryd.underlying22 sz_5 by_5 zero_5 rfl rfl hV2 (new := u8s [x.len % 256]) (fun _ => ⟨g17, 0, rfl, fun w hS => allAt (g := g17) w hS⟩) rfl (u8s_one _) (by omega) (.none rfl) rfl rfl ?_
          intro ad18 c18 E18 hV18 hr18
          rw [← u8s_app] at hV18
          rw [show ys.length + 1 = (ys ++ [x.len % 256]).length by rw [List.length_append]; rfl] at hV18 ⊢
          refine WL.nilR ?_
          refine WR.read (g := 2) [10] (by kernel_rfl) (by kernel_rfl) (by kernel_rfl) (by kernel_rfl) rfl ?_
          refine WQ.call _ rfl rfl ck_79 (.none rfl) rfl rfl (fun w hS => Calls.still (needs_c w x.len (by omega) (by omega)) hS) ?_
          refine WQ.nilR ?_
          refine WR.ones (g := 1) [11] (by kernel_rfl) ?_
          refine WL.call rfl rfl ck_70 (.none rfl) rfl rfl ?_
          intro w1 hS
          refine (putAddr_c (fun _ => False) w0 w1 _ _ _ _ _ x.addr ((x.len.toNat + 7) / 8) hV18 hS (by rw [List.length_append]; show ys.length + 1 ≤ _; omega) (by omega)).mono ?_
          rintro e w' ⟨ad24, c24, E24, rfl, hV24, hS'⟩
          refine ⟨_, _, rfl, hS', ?_⟩
          refine WL.nilR ?_
          refine WR.first (g := 0) [12] (by kernel_rfl) (by kernel_rfl) ?_
          refine WP.val (v_assign rfl rfl) (.none rfl) rfl rfl ?_
          refine WP.nil ?_
          refine WR.done (by kernel_rfl) ?_
          refine WE.block_n ?_
          refine WE.then_n ?_
          refine WC.region ?_
          refine WL.val (v_add rfl rfl rfl (w_i64 (by omega) (by omega))) (.none rfl) rfl rfl ?_
          refine WL.val (v_move rfl rfl) (.none rfl) rfl rfl ?_
          refine WL.nil ?_
          have hz : ys ++ [x.len % 256] ++ addrB x.addr ((x.len.toNat + 7) / 8) = ys ++ netE x := (by unfold netE; rw [List.append_assoc]; congr 2; show [_] = [_]; rw [show (2 : Int) ^ (8 * 0) = 1 by decide, Int.ediv_one])
          exact WE.next (k + 1, _, ad24, c24, E24) (by dsimp only; omega) ⟨by dsimp only; omega, by dsimp only; rw [hz, List.length_append]; omega, by dsimp only; rw [hz, List.append_assoc]; exact hy, hV24⟩ (.int rfl (by dsimp only; omega) (.cons rfl (.cons rfl (.cons rfl .nil)))) (List.Sublist.append_left (.cons _ (.cons _ (.refl _))) _)
      · -- next 9
        refine WL.val (v_load1 rfl rfl one_3 (cellAt rfl)) (.none rfl) rfl rfl ?_
        refine WL.nilR ?_
        refine WR.read (g := 5) [2, 3] (by kernel_rfl) (by kernel_rfl) (by kernel_rfl) (by kernel_rfl) rfl ?_
        refine WQ.val (v_load1 rfl rfl one_3 (cellAt rfl)) (.none rfl) rfl rfl ?_
        refine WQ.val (v_conv rfl rfl Tryd.underlying5 Tryd.underlying3 (w_u8m _)) (.none rfl) rfl rfl ?_
        refine WQ.nilR ?_
        refine WR.ones (g := 3) [4, 5] (by kernel_rfl) ?_
        refine WL.buildSlice rfl rfl Tryd.underlying22 sz_5 zero_5 rfl (by decide) rfl (.none rfl) rfl rfl ?_
        intro g17 hg17
        refine WL.as (L' := .row g17 (u8s [x.len % 256]) :: (E2 ++ (.row g6 x.cells :: L))) rfl ?_
        refine WL.to (L' := E2 ++ (.row g17 (u8s [x.len % 256]) :: .row g6 x.cells :: L)) (fun w hS => hS.front [_]) ?_
        refine WL.appendL rfl rfl rfl Tryd.underlying22 Tryd.underlying22 sz_5 by_5 zero_5 rfl rfl hV2 (new := u8s [x.len % 256]) (fun _ => ⟨g17, 0, rfl, fun w hS => allAt (g := g17) w hS⟩) rfl (u8s_one _) (by omega) (.none rfl) rfl rfl ?_
        intro ad18 c18 E18 hV18 hr18
        rw [← u8s_app] at hV18
        rw [show ys.length + 1 = (ys ++ [x.len % 256]).length by rw [List.length_append]; rfl] at hV18 ⊢
        refine WL.nilR ?_
        refine WR.read (g := 2) [10] (by kernel_rfl) (by kernel_rfl) (by kernel_rfl) (by kernel_rfl) rfl ?_
        refine WQ.call _ rfl rfl ck_79 (.none rfl) rfl rfl (fun w hS => Calls.still (needs_c w x.len (by omega) (by omega)) hS) ?_
        refine WQ.nilR ?_
        refine WR.ones (g := 1) [11] (by kernel_rfl) ?_
        refine WL.call rfl rfl ck_70 (.none rfl) rfl rfl ?_
        intro w1 hS
        refine (putAddr_c (fun _ => False) w0 w1 _ _ _ _ _ x.addr ((x.len.toNat + 7) / 8) hV18 hS (by rw [List.length_append]; show ys.length + 1 ≤ _; omega) (by omega)).mono ?_
        rintro e w' ⟨ad24, c24, E24, rfl, hV24, hS'⟩
        refine ⟨_, _, rfl, hS', ?_⟩
        refine WL.nilR ?_
        refine WR.first (g := 0) [12] (by kernel_rfl) (by kernel_rfl) ?_
        refine WP.val (v_assign rfl rfl) (.none rfl) rfl rfl ?_
        refine WP.nil ?_
        refine WR.done (by kernel_rfl) ?_
        refine WE.block_n ?_
        refine WE.then_n ?_
        refine WC.region ?_
        refine WL.val (v_add rfl rfl rfl (w_i64 (by omega) (by omega))) (.none rfl) rfl rfl ?_
        refine WL.val (v_move rfl rfl) (.none rfl) rfl rfl ?_
        refine WL.nil ?_
        have hz : ys ++ [x.len % 256] ++ addrB x.addr ((x.len.toNat + 7) / 8) = ys ++ netE x := (by unfold netE; rw [List.append_assoc]; congr 2; show [_] = [_]; rw [show (2 : Int) ^ (8 * 0) = 1 by decide, Int.ediv_one])
        exact WE.next (k + 1, _, ad24, c24, E24) (by dsimp only; omega) ⟨by dsimp only; omega, by dsimp only; rw [hz, List.length_append]; omega, by dsimp only; rw [hz, List.append_assoc]; exact hy, hV24⟩ (.int rfl (by dsimp only; omega) (.cons rfl (.cons rfl (.cons rfl .nil)))) (List.Sublist.append_left (.cons _ (.cons _ (.refl _))) _)
    · -- next 9
      refine WL.val (v_load1 rfl rfl one_3 (cellAt rfl)) (.none rfl) rfl rfl ?_
      refine WL.nilR ?_
      refine WR.each (g := 7) [2, 7] (by kernel_rfl) (by decide) ?_
      refine ⟨?_, ?_⟩
      · -- next 2
        refine WL.val (v_load1 rfl rfl one_3 (cellAt rfl)) (.none rfl) rfl rfl ?_
        refine WL.nilR ?_
        refine WR.first (g := 6) [3] (by kernel_rfl) (by kernel_rfl) ?_
        refine WP.val (v_conv rfl rfl Tryd.underlying5 Tryd.underlying3 (w_u8m _)) (.none rfl) rfl rfl ?_
        refine WP.nil ?_
        refine WR.each (g := 5) [4, 7] (by kernel_rfl) (by decide) ?_
        refine ⟨?_, ?_⟩
        · -- next 4
          refine WL.buildSlice rfl rfl Tryd.underlying22 sz_5 zero_5 rfl (by decide) rfl (.none rfl) rfl rfl ?_
          intro g17 hg17
          refine WL.as (L' := .row g17 (u8s [x.len % 256]) :: (E2 ++ (.row g6 x.cells :: L))) rfl ?_
          refine WL.to (L' := E2 ++ (.row g17 (u8s [x.len % 256]) :: .row g6 x.cells :: L)) (fun w hS => hS.front [_]) ?_
          refine WL.nilR ?_
          refine WR.each (g := 4) [5, 7] (by kernel_rfl) (by decide) ?_
          refine ⟨?_, ?_⟩
          · -- next 5
            refine WL.appendL rfl rfl rfl Tryd.underlying22 Tryd.underlying22 sz_5 by_5 zero_5 rfl rfl hV2 (new := u8s [x.len % 256]) (fun _ => ⟨g17, 0, rfl, fun w hS => allAt (g := g17) w hS⟩) rfl (u8s_one _) (by omega) (.none rfl) rfl rfl ?_
            intro ad18 c18 E18 hV18 hr18
            rw [← u8s_app] at hV18
            rw [show ys.length + 1 = (ys ++ [x.len % 256]).length by rw [List.length_append]; rfl] at hV18 ⊢
            refine WL.nilR ?_
            refine WR.read (g := 2) [7, 10] (by kernel_rfl) (by kernel_rfl) (by kernel_rfl) (by kernel_rfl) rfl ?_
            refine WQ.val (v_load1 rfl rfl one_34 (cellAt rfl)) (.none rfl) rfl rfl ?_
            refine WQ.call _ rfl rfl ck_79 (.none rfl) rfl rfl (fun w hS => Calls.still (needs_c w x.len (by omega) (by omega)) hS) ?_
            refine WQ.nilR ?_
            refine WR.ones (g := 1) [11] (by kernel_rfl) ?_
            refine WL.call rfl rfl ck_70 (.none rfl) rfl rfl ?_
            intro w1 hS
            refine (putAddr_c (fun _ => False) w0 w1 _ _ _ _ _ x.addr ((x.len.toNat + 7) / 8) hV18 hS (by rw [List.length_append]; show ys.length + 1 ≤ _; omega) (by omega)).mono ?_
            rintro e w' ⟨ad24, c24, E24, rfl, hV24, hS'⟩
            refine ⟨_, _, rfl, hS', ?_⟩
            refine WL.nilR ?_
            refine WR.first (g := 0) [12] (by kernel_rfl) (by kernel_rfl) ?_
            refine WP.val (v_assign rfl rfl) (.none rfl) rfl rfl ?_
            refine WP.nil ?_
            refine WR.done (by kernel_rfl) ?_
            refine WE.block_n ?_
            refine WE.then_n ?_
            refine WC.region ?_
            refine WL.val (v_add rfl rfl rfl (w_i64 (by omega) (by omega))) (.none rfl) rfl rfl ?_
            refine WL.val (v_move rfl rfl) (.none rfl) rfl rfl ?_
            refine WL.nil ?_
            have hz : ys ++ [x.len % 256] ++ addrB x.addr ((x.len.toNat + 7) / 8) = ys ++ netE x := (by unfold netE; rw [List.append_assoc]; congr 2; show [_] = [_]; rw [show (2 : Int) ^ (8 * 0) = 1 by decide, Int.ediv_one])
            exact WE.next (k + 1, _, ad24, c24, E24) (by dsimp only; omega) ⟨by dsimp only; omega, by dsimp only; rw [hz, List.length_append]; omega, by dsimp only; rw [hz, List.append_assoc]; exact hy, hV24⟩ (.int rfl (by dsimp only; omega) (.cons rfl (.cons rfl (.cons rfl .nil)))) (List.Sublist.append_left (.cons _ (.cons _ (.refl _))) _)
          · -- next 7
            refine WL.val (v_load1 rfl rfl one_34 (cellAt rfl)) (.none rfl) rfl rfl ?_
            refine WL.nilR ?_
            refine WR.ones (g := 3) [5] (by kernel_rfl) ?_
            refine WL.appendL rfl rfl rfl Tryd.underlying22 Tryd.underlying22 sz_5 by_5 zero_5 rfl rfl hV2 (new := u8s [x.len % 256]) (fun _ => ⟨g17, 0, rfl, fun w hS => allAt (g := g17) w hS⟩) rfl (u8s_one _) (by omega) (.none rfl) rfl rfl ?_
            intro ad18 c18 E18 hV18 hr18
            rw [← u8s_app] at hV18
            rw [show ys.length + 1 = (ys ++ [x.len % 256]).length by rw [List.length_append]; rfl] at hV18 ⊢
            refine WL.nilR ?_
            refine WR.read (g := 2) [10] (by kernel_rfl) (by kernel_rfl) (by kernel_rfl) (by kernel_rfl) rfl ?_
            refine WQ.call _ rfl rfl ck_79 (.none rfl) rfl rfl (fun w hS => Calls.still (needs_c w x.len (by omega) (by omega)) hS) ?_
            refine WQ.nilR ?_
            refine WR.ones (g := 1) [11] (by kernel_rfl) ?_
            refine WL.call rfl rfl ck_70 (.none rfl) rfl rfl ?_
            intro w1 hS
            refine (putAddr_c (fun _ => False) w0 w1 _ _ _ _ _ x.addr ((x.len.toNat + 7) / 8) hV18 hS (by rw [List.length_append]; show ys.length + 1 ≤ _; omega) (by omega)).mono ?_
            rintro e w' ⟨ad24, c24, E24, rfl, hV24, hS'⟩
            refine ⟨_, _, rfl, hS', ?_⟩
            refine WL.nilR ?_
            refine WR.first (g := 0) [12] (by kernel_rfl) (by kernel_rfl) ?_
            refine WP.val (v_assign rfl rfl) (.none rfl) rfl rfl ?_
            refine WP.nil ?_
            refine WR.done (by kernel_rfl) ?_
            refine WE.block_n ?_
            refine WE.then_n ?_
            refine WC.region ?_
            refine WL.val (v_add rfl rfl rfl (w_i64 (by omega) (by omega))) (.none rfl) rfl rfl ?_
            refine WL.val (v_move rfl rfl) (.none rfl) rfl rfl ?_
            refine WL.nil ?_
            have hz : ys ++ [x.len % 256] ++ addrB x.addr ((x.len.toNat + 7) / 8) = ys ++ netE x := (by unfold netE; rw [List.append_assoc]; congr 2; show [_] = [_]; rw [show (2 : Int) ^ (8 * 0) = 1 by decide, Int.ediv_one])
            exact WE.next (k + 1, _, ad24, c24, E24) (by dsimp only; omega) ⟨by dsimp only; omega, by dsimp only; rw [hz, List.length_append]; omega, by dsimp only; rw [hz, List.append_assoc]; exact hy, hV24⟩ (.int rfl (by dsimp only; omega) (.cons rfl (.cons rfl (.cons rfl .nil)))) (List.Sublist.append_left (.cons _ (.cons _ (.refl _))) _)
        · -- next 7
          refine WL.val (v_load1 rfl rfl one_34 (cellAt rfl)) (.none rfl) rfl rfl ?_
          refine WL.nilR ?_
          refine WR.ones (g := 3) [4, 5] (by kernel_rfl) ?_
          refine WL.buildSlice rfl rfl Tryd.underlying22 sz_5 zero_5 rfl (by decide) rfl (.none rfl) rfl rfl ?_
          intro g17 hg17
          refine WL.as (L' := .row g17 (u8s [x.len % 256]) :: (E2 ++ (.row g6 x.cells :: L))) rfl ?_
          refine WL.to (L' := E2 ++ (.row g17 (u8s [x.len % 256]) :: .row g6 x.cells :: L)) (fun w hS => hS.front [_]) ?_
          refine WL.appendL rfl rfl rfl Tryd.underlying22 Tryd.underlying22 sz_5 by_5 zero_5 rfl rfl hV2 (new := u8s [x.len % 256]) (fun _ => ⟨g17, 0, rfl, fun w hS => allAt (g := g17) w hS⟩) rfl (u8s_one _) (by omega) (.none rfl) rfl rfl ?_
          intro ad18 c18 E18 hV18 hr18
          rw [← u8s_app] at hV18
          rw [show ys.length + 1 = (ys ++ [x.len % 256]).length by rw [List.length_append]; rfl] at hV18 ⊢
          refine WL.nilR ?_
          refine WR.read (g := 2) [10] (by kernel_rfl) (by kernel_rfl) (by kernel_rfl) (by kernel_rfl) rfl ?_
          refine WQ.call _ rfl rfl ck_79 (.none rfl) rfl rfl (fun w hS => Calls.still (needs_c w x.len (by omega) (by omega)) hS) ?_
          refine WQ.nilR ?_
          refine WR.ones (g := 1) [11] (by kernel_rfl) ?_
          refine WL.call rfl rfl ck_70 (.none rfl) rfl rfl ?_
          intro w1 hS
          refine (putAddr_c (fun _ => False) w0 w1 _ _ _ _ _ x.addr ((x.len.toNat + 7) / 8) hV18 hS (by rw [List.length_append]; show ys.length + 1 ≤ _; omega) (by omega)).mono ?_
          rintro e w' ⟨ad24, c24, E24, rfl, hV24, hS'⟩
          refine ⟨_, _, rfl, hS', ?_⟩
          refine WL.nilR ?_
          refine WR.first (g := 0) [12] (by kernel_rfl) (by kernel_rfl) ?_
          refine WP.val (v_assign rfl rfl) (.none rfl) rfl rfl ?_
          refine WP.nil ?_
          refine WR.done (by kernel_rfl) ?_
          refine WE.block_n ?_
          refine WE.then_n ?_
          refine WC.region ?_
          refine WL.val (v_add rfl rfl rfl (w_i64 (by omega) (by omega))) (.none rfl) rfl rfl ?_
          refine WL.val (v_move rfl rfl) (.none rfl) rfl rfl ?_
          refine WL.nil ?_
          have hz : ys ++ [x.len % 256] ++ addrB x.addr ((x.len.toNat + 7) / 8) = ys ++ netE x := (by unfold netE; rw [List.append_assoc]; congr 2; show [_] = [_]; rw [show (2 : Int) ^ (8 * 0) = 1 by decide, Int.ediv_one])
          exact WE.next (k + 1, _, ad24, c24, E24) (by dsimp only; omega) ⟨by dsimp only; omega, by dsimp only; rw [hz, List.length_append]; omega, by dsimp only; rw [hz, List.append_assoc]; exact hy, hV24⟩ (.int rfl (by dsimp only; omega) (.cons rfl (.cons rfl (.cons rfl .nil)))) (List.Sublist.append_left (.cons _ (.cons _ (.refl _))) _)
      · -- next 7
        refine WL.val (v_load1 rfl rfl one_34 (cellAt rfl)) (.none rfl) rfl rfl ?_
        refine WL.nilR ?_
        refine WR.read (g := 5) [2, 3] (by kernel_rfl) (by kernel_rfl) (by kernel_rfl) (by kernel_rfl) rfl ?_
        refine WQ.val (v_load1 rfl rfl one_3 (cellAt rfl)) (.none rfl) rfl rfl ?_
        refine WQ.val (v_conv rfl rfl Tryd.underlying5 Tryd.underlying3 (w_u8m _)) (.none rfl) rfl rfl ?_
        refine WQ.nilR ?_
        refine WR.ones (g := 3) [4, 5] (by kernel_rfl) ?_
        refine WL.buildSlice rfl rfl Tryd.underlying22 sz_5 zero_5 rfl (by decide) rfl (.none rfl) rfl rfl ?_
        intro g17 hg17
        refine WL.as (L' := .row g17 (u8s [x.len % 256]) :: (E2 ++ (.row g6 x.cells :: L))) rfl ?_
        refine WL.to (L' := E2 ++ (.row g17 (u8s [x.len % 256]) :: .row g6 x.cells :: L)) (fun w hS => hS.front [_]) ?_
        refine WL.appendL rfl rfl rfl Tryd.underlying22 Tryd.underlying22 sz_5 by_5 zero_5 rfl rfl hV2 (new := u8s [x.len % 256]) (fun _ => ⟨g17, 0, rfl, fun w hS => allAt (g := g17) w hS⟩) rfl (u8s_one _) (by omega) (.none rfl) rfl rfl ?_
        intro ad18 c18 E18 hV18 hr18
        rw [← u8s_app] at hV18
        rw [show ys.length + 1 = (ys ++ [x.len % 256]).length by rw [List.length_append]; rfl] at hV18 ⊢
        refine WL.nilR ?_
        refine WR.read (g := 2) [10] (by kernel_rfl) (by kernel_rfl) (by kernel_rfl) (by kernel_rfl) rfl ?_
        refine WQ.call _ rfl rfl ck_79 (.none rfl) rfl rfl (fun w hS => Calls.still (needs_c w x.len (by omega) (by omega)) hS) ?_
        refine WQ.nilR ?_
        refine WR.ones (g := 1) [11] (by kernel_rfl) ?_
        refine WL.call rfl rfl ck_70 (.none rfl) rfl rfl ?_
        intro w1 hS
        refine (putAddr_c (fun _ => False) w0 w1 _ _ _ _ _ x.addr ((x.len.toNat + 7) / 8) hV18 hS (by rw [List.length_append]; show ys.length + 1 ≤ _; omega) (by omega)).mono ?_
        rintro e w' ⟨ad24, c24, E24, rfl, hV24, hS'⟩
        refine ⟨_, _, rfl, hS', ?_⟩
        refine WL.nilR ?_
        refine WR.first (g := 0) [12] (by kernel_rfl) (by kernel_rfl) ?_
        refine WP.val (v_assign rfl rfl) (.none rfl) rfl rfl ?_
        refine WP.nil ?_
        refine WR.done (by kernel_rfl) ?_
        refine WE.block_n ?_
        refine WE.then_n ?_
        refine WC.region ?_
        refine WL.val (v_add rfl rfl rfl (w_i64 (by omega) (by omega))) (.none rfl) rfl rfl ?_
        refine WL.val (v_move rfl rfl) (.none rfl) rfl rfl ?_
        refine WL.nil ?_
        have hz : ys ++ [x.len % 256] ++ addrB x.addr ((x.len.toNat + 7) / 8) = ys ++ netE x := (by unfold netE; rw [List.append_assoc]; congr 2; show [_] = [_]; rw [show (2 : Int) ^ (8 * 0) = 1 by decide, Int.ediv_one])
        exact WE.next (k + 1, _, ad24, c24, E24) (by dsimp only; omega) ⟨by dsimp only; omega, by dsimp only; rw [hz, List.length_append]; omega, by dsimp only; rw [hz, List.append_assoc]; exact hy, hV24⟩ (.int rfl (by dsimp only; omega) (.cons rfl (.cons rfl (.cons rfl .nil)))) (List.Sublist.append_left (.cons _ (.cons _ (.refl _))) _)
  · -- 10F
    refine WL.nil ?_
    refine WE.then_n ?_
    refine WC.seq ?_
    refine WC.cond_f rfl ?_
    refine WC.exit ?_
    refine WE.then_exit ?_
    refine WE.then_exit ?_
    refine WE.block_hit ?_
    refine WE.then_n ?_
    refine WC.seq ?_
    refine WC.region ?_
    refine WL.val (v_move rfl rfl) (.none rfl) rfl rfl ?_
    refine WL.val (v_assign rfl rfl) (.none rfl) rfl rfl ?_
    refine WL.nil ?_
    refine WE.then_n ?_
    refine WC.ret ?_
    refine WE.ret1 (P := Tryd.prog) (.inl rfl) Tryd.results73 rfl ?_
    obtain rfl : k = ps.length := (by omega)
    rw [List.drop_length] at hy
    have hy' : ys = xs ++ netsE ps := (by rw [← hy]; exact (List.append_nil _).symm)
    rw [← hy']
    exact fun w' h => ⟨ad2, c2, E2, rfl, hV2, h⟩
end Go.Proofs.YtpjbofodllhjbaaDoor
/- bgp: what a Notification and an Open have behind their head. -/
namespace Go.Proofs.YtpjbofodllhjbaaDoor
open Go.RowKit

/-- Bytes and no error, or none and an error. -/
def ResB (w w' : World) (code : Int) (bs : List Int) (e : Ending) : Prop := ∃ v, e = .returned (.tuple #[v, .int .i64 code]) ∧ OwnB w w' (if code = 0 then bs else []) v
theorem ResB.bad {w w' : World} {code c : Int} {bs : List Int} {L : List Ent} (hc : code = c) (h0 : c ≠ 0) (h : St (fun _ => False) w w' L) : ResB w w' code bs (.returned (.tuple #[.slice none 0 0, .int .i64 c])) := by
  subst hc
  refine ⟨_, rfl, ?_⟩
  rw [if_neg h0]
  exact OwnB.of (E := []) (xs := []) (Vec.nil 1) (h.sub (List.nil_sublist _)) rfl
theorem ResB.good {w w' : World} {code : Int} {ad : Option Addr} {c : Nat} {xs bs : List Int} {E L : List Ent} (hc : code = 0) (hV : BV ad c xs E) (h : St (fun _ => False) w w' (E ++ L)) (e : xs = bs) : ResB w w' code bs (.returned (.tuple #[.slice ad xs.length c, .int .i64 0])) := by
  subst hc
  refine ⟨_, rfl, ?_⟩
  rw [if_pos rfl]
  exact OwnB.of hV h e
def strI (d : ByteArray) : List Int := d.data.toList.map fun b => (b.toNat : Int)
theorem strI_cells (d : ByteArray) : d.data.toList.map bcell = u8s (strI d) := by unfold u8s strI; rw [List.map_map]; rfl
def noteC (m : MsL) : Int := if m.fc < 1 ∨ 255 < m.fc ∨ m.fs < 0 ∨ 255 < m.fs then 1 else if 4096 < m.fd.size then 6 else 0
def noteB (m : MsL) : List Int := [m.fc, m.fs] ++ strI m.fd
set_option maxHeartbeats 1000000 in
theorem note_c (w : World) (m : MsL) : Calls Tryd.prog 52 #[.agg m.cells.toArray] w fun e w' => ResB w w' (noteC m) (noteB m) e := by
  refine enter Tryd.func52 rfl Tryd.ntmps52 rfl (St.start (fun _ => False) w) ?_
  refine WC.seq ?_
  refine WC.region ?_
  refine WL.box rfl rfl rfl (.none rfl) rfl rfl ?_
  intro g1 hg1
  refine WL.val (v_assign rfl rfl) (.none rfl) rfl rfl ?_
  refine WL.val (v_assign rfl rfl) (.none rfl) rfl rfl ?_
  refine WL.nil ?_
  refine WE.then_n ?_
  refine WC.seq ?_
  refine WC.region ?_
  refine WL.val (v_fieldAddr0 rfl rfl fld_43_8) (.none rfl) rfl rfl ?_
  refine WL.val (v_loadN rfl rfl many_25 rfl (segAt (m := 3) rfl)) (.none rfl) rfl rfl ?_
  refine WL.alloc rfl zero_25 (.none rfl) rfl rfl ?_
  intro g4 hg4
  refine WL.storeW rfl rfl rfl rfl many_25 rfl rfl (.none rfl) rfl ?_
  refine WL.as (L' := [.row g4 (fltL m.fc m.fs m.fd), .row g1 m.cells]) rfl ?_
  refine WL.nil ?_
  refine WE.then_n ?_
  refine WC.seq ?_
  refine WC.seq ?_
  refine WC.region ?_
  refine WL.val (v_fieldAddr0 rfl rfl fld_25_0) (.none rfl) rfl rfl ?_
  refine WL.val (v_load1 rfl rfl one_3 (cellAt rfl)) (.none rfl) rfl rfl ?_
  refine WL.test (v_lss rfl rfl rfl) (.none rfl) rfl rfl (fun h9 => ?_) (fun h9 => ?_)
  · -- 9T
    refine WL.val (v_move rfl rfl) (.none rfl) rfl rfl ?_
    refine WL.skip rfl rfl rfl rfl rfl rfl ?_
    refine WL.skip rfl rfl rfl rfl rfl rfl ?_
    refine WL.skip rfl rfl rfl rfl rfl rfl ?_
    refine WL.val (v_pick_t rfl rfl rfl) (.none rfl) rfl rfl ?_
    refine WL.val (v_move rfl rfl) (.none rfl) rfl rfl ?_
    refine WL.skip rfl rfl rfl rfl rfl rfl ?_
    refine WL.skip rfl rfl rfl rfl rfl rfl ?_
    refine WL.skip rfl rfl rfl rfl rfl rfl ?_
    refine WL.val (v_pick_t rfl rfl rfl) (.none rfl) rfl rfl ?_
    refine WL.val (v_move rfl rfl) (.none rfl) rfl rfl ?_
    refine WL.skip rfl rfl rfl rfl rfl rfl ?_
    refine WL.skip rfl rfl rfl rfl rfl rfl ?_
    refine WL.skip rfl rfl rfl rfl rfl rfl ?_
    refine WL.val (v_pick_t rfl rfl rfl) (.none rfl) rfl rfl ?_
    refine WL.nil ?_
    refine WE.then_n ?_
    refine WC.cond_t rfl ?_
    refine WC.seq ?_
    refine WC.region ?_
    refine WL.val (v_assign rfl rfl) (.none rfl) rfl rfl ?_
    refine WL.val (v_assign rfl rfl) (.none rfl) rfl rfl ?_
    refine WL.nil ?_
    refine WE.then_n ?_
    refine WC.ret ?_
    refine WE.then_ret ?_
    refine WE.ret2 (P := Tryd.prog) (.inl rfl) Tryd.results52 rfl rfl ?_
    have hc : noteC m = 1 := (by unfold noteC; rw [if_pos (by omega)])
    exact fun w' h => ResB.bad hc (by decide) h
  · -- 9F
    refine WL.val (v_move rfl rfl) (.none rfl) rfl rfl ?_
    refine WL.val (v_fieldAddr0 rfl rfl fld_25_0) (.some rfl rfl rfl) rfl rfl ?_
    refine WL.val (v_load1 rfl rfl one_3 (cellAt rfl)) (.some rfl rfl rfl) rfl rfl ?_
    refine WL.test (v_gtr rfl rfl rfl) (.some rfl rfl rfl) rfl rfl (fun h13 => ?_) (fun h13 => ?_)
    · -- 13T
      refine WL.val (v_pick_f rfl rfl rfl) (.none rfl) rfl rfl ?_
      refine WL.val (v_move rfl rfl) (.none rfl) rfl rfl ?_
      refine WL.skip rfl rfl rfl rfl rfl rfl ?_
      refine WL.skip rfl rfl rfl rfl rfl rfl ?_
      refine WL.skip rfl rfl rfl rfl rfl rfl ?_
      refine WL.val (v_pick_t rfl rfl rfl) (.none rfl) rfl rfl ?_
      refine WL.val (v_move rfl rfl) (.none rfl) rfl rfl ?_
      refine WL.skip rfl rfl rfl rfl rfl rfl ?_
      refine WL.skip rfl rfl rfl rfl rfl rfl ?_
      refine WL.skip rfl rfl rfl rfl rfl rfl ?_
      refine WL.val (v_pick_t rfl rfl rfl) (.none rfl) rfl rfl ?_
      refine WL.nil ?_
      refine WE.then_n ?_
      refine WC.cond_t rfl ?_
      refine WC.seq ?_
      refine WC.region ?_
      refine WL.val (v_assign rfl rfl) (.none rfl) rfl rfl ?_
      refine WL.val (v_assign rfl rfl) (.none rfl) rfl rfl ?_
      refine WL.nil ?_
      refine WE.then_n ?_
      refine WC.ret ?_
      refine WE.then_ret ?_
      refine WE.ret2 (P := Tryd.prog) (.inl rfl) Tryd.results52 rfl rfl ?_
      have hc : noteC m = 1 := (by unfold noteC; rw [if_pos (by omega)])
      exact fun w' h => ResB.bad hc (by decide) h
    · -- 13F
      refine WL.val (v_pick_f rfl rfl rfl) (.none rfl) rfl rfl ?_
      refine WL.val (v_move rfl rfl) (.none rfl) rfl rfl ?_
      refine WL.val (v_fieldAddr0 rfl rfl fld_25_1) (.some rfl rfl rfl) rfl rfl ?_
      refine WL.val (v_load1 rfl rfl one_3 (cellAt rfl)) (.some rfl rfl rfl) rfl rfl ?_
      refine WL.test (v_lss rfl rfl rfl) (.some rfl rfl rfl) rfl rfl (fun h18 => ?_) (fun h18 => ?_)
      · -- 18T
        refine WL.val (v_pick_f rfl rfl rfl) (.none rfl) rfl rfl ?_
        refine WL.val (v_move rfl rfl) (.none rfl) rfl rfl ?_
        refine WL.skip rfl rfl rfl rfl rfl rfl ?_
        refine WL.skip rfl rfl rfl rfl rfl rfl ?_
        refine WL.skip rfl rfl rfl rfl rfl rfl ?_
        refine WL.val (v_pick_t rfl rfl rfl) (.none rfl) rfl rfl ?_
        refine WL.nil ?_
        refine WE.then_n ?_
        refine WC.cond_t rfl ?_
        refine WC.seq ?_
        refine WC.region ?_
        refine WL.val (v_assign rfl rfl) (.none rfl) rfl rfl ?_
        refine WL.val (v_assign rfl rfl) (.none rfl) rfl rfl ?_
        refine WL.nil ?_
        refine WE.then_n ?_
        refine WC.ret ?_
        refine WE.then_ret ?_
        refine WE.ret2 (P := Tryd.prog) (.inl rfl) Tryd.results52 rfl rfl ?_
        have hc : noteC m = 1 := (by unfold noteC; rw [if_pos (by omega)])
        exact fun w' h => ResB.bad hc (by decide) h
      · -- 18F
        refine WL.val (v_pick_f rfl rfl rfl) (.none rfl) rfl rfl ?_
        refine WL.val (v_move rfl rfl) (.none rfl) rfl rfl ?_
        refine WL.val (v_fieldAddr0 rfl rfl fld_25_1) (.some rfl rfl rfl) rfl rfl ?_
        refine WL.val (v_load1 rfl rfl one_3 (cellAt rfl)) (.some rfl rfl rfl) rfl rfl ?_
        refine WL.test (v_gtr rfl rfl rfl) (.some rfl rfl rfl) rfl rfl (fun h23 => ?_) (fun h23 => ?_)
        · -- 23T
          refine WL.val (v_pick_f rfl rfl rfl) (.none rfl) rfl rfl ?_
          refine WL.nil ?_
          refine WE.then_n ?_
          refine WC.cond_t rfl ?_
          refine WC.seq ?_
          refine WC.region ?_
          refine WL.val (v_assign rfl rfl) (.none rfl) rfl rfl ?_
          refine WL.val (v_assign rfl rfl) (.none rfl) rfl rfl ?_
          refine WL.nil ?_
          refine WE.then_n ?_
          refine WC.ret ?_
          refine WE.then_ret ?_
          refine WE.ret2 (P := Tryd.prog) (.inl rfl) Tryd.results52 rfl rfl ?_
          have hc : noteC m = 1 := (by unfold noteC; rw [if_pos (by omega)])
          exact fun w' h => ResB.bad hc (by decide) h
        · -- 23F
          refine WL.val (v_pick_f rfl rfl rfl) (.none rfl) rfl rfl ?_
          refine WL.nil ?_
          refine WE.then_n ?_
          refine WC.cond_f rfl ?_
          refine WC.skip ?_
          refine WE.then_n ?_
          refine WC.seq ?_
          refine WC.seq ?_
          refine WC.region ?_
          refine WL.val (v_fieldAddr0 rfl rfl fld_25_2) (.none rfl) rfl rfl ?_
          refine WL.val (v_load1 rfl rfl one_9 (cellAt rfl)) (.none rfl) rfl rfl ?_
          refine WL.val (v_len_string rfl rfl Tryd.underlying9) (.none rfl) rfl rfl ?_
          refine WL.test (v_gtr rfl rfl rfl) (.none rfl) rfl rfl (fun h28 => ?_) (fun h28 => ?_)
          · -- 28T
            refine WL.nil ?_
            refine WE.then_n ?_
            refine WC.cond_t rfl ?_
            refine WC.seq ?_
            refine WC.region ?_
            refine WL.val (v_assign rfl rfl) (.none rfl) rfl rfl ?_
            refine WL.val (v_assign rfl rfl) (.none rfl) rfl rfl ?_
            refine WL.nil ?_
            refine WE.then_n ?_
            refine WC.ret ?_
            refine WE.then_ret ?_
            refine WE.ret2 (P := Tryd.prog) (.inl rfl) Tryd.results52 rfl rfl ?_
            have hc : noteC m = 6 := (by unfold noteC; rw [if_neg (by omega), if_pos (by omega)])
            exact fun w' h => ResB.bad hc (by decide) h
          · -- 28F
            refine WL.nil ?_
            refine WE.then_n ?_
            refine WC.cond_f rfl ?_
            refine WC.skip ?_
            refine WE.then_n ?_
            refine WC.seq ?_
            refine WC.region ?_
            refine WL.val (v_fieldAddr0 rfl rfl fld_25_0) (.none rfl) rfl rfl ?_
            refine WL.val (v_load1 rfl rfl one_3 (cellAt rfl)) (.none rfl) rfl rfl ?_
            refine WL.val (v_conv rfl rfl Tryd.underlying5 Tryd.underlying3 (show _ = (m.fc) from (w_u8m _).trans (by omega))) (.none rfl) rfl rfl ?_
            refine WL.val (v_fieldAddr0 rfl rfl fld_25_1) (.none rfl) rfl rfl ?_
            refine WL.val (v_load1 rfl rfl one_3 (cellAt rfl)) (.none rfl) rfl rfl ?_
            refine WL.val (v_conv rfl rfl Tryd.underlying5 Tryd.underlying3 (show _ = (m.fs) from (w_u8m _).trans (by omega))) (.none rfl) rfl rfl ?_
            refine WL.buildSlice rfl rfl Tryd.underlying22 sz_5 zero_5 rfl (by decide) rfl (.none rfl) rfl rfl ?_
            intro g35 hg35
            refine WL.as (L' := [.row g35 (u8s [m.fc, m.fs])] ++ [.row g4 (fltL m.fc m.fs m.fd), .row g1 m.cells]) rfl ?_
            refine WL.val (v_fieldAddr0 rfl rfl fld_25_2) (.none rfl) rfl rfl ?_
            refine WL.val (v_load1 rfl rfl one_9 (cellAt rfl)) (.none rfl) rfl rfl ?_
            refine WL.appendS rfl rfl rfl rfl Tryd.underlying22 Tryd.underlying9 sz_5 by_5 zero_5 rfl rfl (Vec.row (k := 2) (s := 1) (c := 2) (xs := u8s [m.fc, m.fs]) rfl rfl (by omega)) (new := m.fd.data.toList.map bcell) rfl (by omega) (.none rfl) rfl rfl ?_
            intro ad38 c38 E38 hV38 hr38
            refine WL.val (v_assign rfl rfl) (.none rfl) rfl rfl ?_
            refine WL.val (v_assign rfl rfl) (.none rfl) rfl rfl ?_
            refine WL.nil ?_
            refine WE.then_n ?_
            refine WC.ret ?_
            refine WE.ret2 (P := Tryd.prog) (.inl rfl) Tryd.results52 rfl rfl ?_
            have hc : noteC m = 0 := (by unfold noteC; rw [if_neg (by omega), if_neg (by omega)])
            rw [strI_cells, ← u8s_app] at hV38
            have hk := hV38.toB
            rw [hk] at hV38 ⊢
            exact fun w' h => ResB.good hc hV38 h rfl
def badO (m : MsL) : Bool := decide (m.asn < 1 ∨ 65535 < m.asn ∨ (m.hold ≠ 0 ∧ (m.hold < 3 ∨ 65535 < m.hold)) ∨ m.id = 0 ∨ 32 < m.caps.length)
def capOk (c : CapL) : Bool := decide (0 ≤ c.code ∧ c.code ≤ 255 ∧ c.val.length ≤ 255)
def capE (c : CapL) : List Int := [c.code % 256, (c.val.length : Int) % 256] ++ c.val
def capsE (cs : List CapL) : List Int := cs.flatMap capE
def openC (m : MsL) : Int := if badO m then 1 else if m.caps.all capOk then if 253 < (capsE m.caps).length then 6 else 0 else 1
def openB (m : MsL) : List Int := [4] ++ numB m.asn 2 ++ numB m.hold 2 ++ addrB m.id 4 ++ (if (capsE m.caps).length = 0 then [0] else [(2 + ((capsE m.caps).length : Int)) % 256, 2, ((capsE m.caps).length : Int) % 256] ++ capsE m.caps)
set_option maxHeartbeats 4000000 in
theorem open_c (w0 : World) (m : MsL) (hM : m.At w0) (hI : m.In) : Calls Tryd.prog 50 #[.agg m.cells.toArray] w0 fun e w' => ResB w0 w' (openC m) (openB m) e := by
  refine enter Tryd.func50 rfl Tryd.ntmps50 rfl (St.start (fun _ => False) w0) ?_
  refine WC.seq ?_
  refine WC.region ?_
  refine WL.box rfl rfl rfl (.none rfl) rfl rfl ?_
  intro g1 hg1
  refine WL.val (v_assign rfl rfl) (.none rfl) rfl rfl ?_
  refine WL.val (v_assign rfl rfl) (.none rfl) rfl rfl ?_
  refine WL.nil ?_
  refine WE.then_n ?_
  refine WC.cut (fun _ : Unit => [(1, .pointer (some ⟨g1, 0, none⟩))]) (fun _ => [.row g1 m.cells]) (fun _ => badO m = false) ?_ ?_
  · -- cut41
    refine WC.seq ?_
    refine WC.region ?_
    refine WL.val (v_fieldAddr0 rfl rfl fld_43_1) (.none rfl) rfl rfl ?_
    refine WL.val (v_load1 rfl rfl one_3 (cellAt rfl)) (.none rfl) rfl rfl ?_
    refine WL.test (v_lss rfl rfl rfl) (.none rfl) rfl rfl (fun h10 => ?_) (fun h10 => ?_)
    · -- 10T
      refine WL.val (v_move rfl rfl) (.none rfl) rfl rfl ?_
      refine WL.skip rfl rfl rfl rfl rfl rfl ?_
      refine WL.skip rfl rfl rfl rfl rfl rfl ?_
      refine WL.skip rfl rfl rfl rfl rfl rfl ?_
      refine WL.val (v_pick_t rfl rfl rfl) (.none rfl) rfl rfl ?_
      refine WL.val (v_move rfl rfl) (.none rfl) rfl rfl ?_
      refine WL.skip rfl rfl rfl rfl rfl rfl ?_
      refine WL.skip rfl rfl rfl rfl rfl rfl ?_
      refine WL.skip rfl rfl rfl rfl rfl rfl ?_
      refine WL.skip rfl rfl rfl rfl rfl rfl ?_
      refine WL.skip rfl rfl rfl rfl rfl rfl ?_
      refine WL.skip rfl rfl rfl rfl rfl rfl ?_
      refine WL.skip rfl rfl rfl rfl rfl rfl ?_
      refine WL.skip rfl rfl rfl rfl rfl rfl ?_
      refine WL.skip rfl rfl rfl rfl rfl rfl ?_
      refine WL.skip rfl rfl rfl rfl rfl rfl ?_
      refine WL.skip rfl rfl rfl rfl rfl rfl ?_
      refine WL.skip rfl rfl rfl rfl rfl rfl ?_
      refine WL.skip rfl rfl rfl rfl rfl rfl ?_
      refine WL.val (v_pick_t rfl rfl rfl) (.none rfl) rfl rfl ?_
      refine WL.val (v_move rfl rfl) (.none rfl) rfl rfl ?_
      refine WL.skip rfl rfl rfl rfl rfl rfl ?_
      refine WL.skip rfl rfl rfl rfl rfl rfl ?_
      refine WL.skip rfl rfl rfl rfl rfl rfl ?_
      refine WL.val (v_pick_t rfl rfl rfl) (.none rfl) rfl rfl ?_
      refine WL.val (v_move rfl rfl) (.none rfl) rfl rfl ?_
      refine WL.skip rfl rfl rfl rfl rfl rfl ?_
      refine WL.skip rfl rfl rfl rfl rfl rfl ?_
      refine WL.skip rfl rfl rfl rfl rfl rfl ?_
      refine WL.skip rfl rfl rfl rfl rfl rfl ?_
      refine WL.val (v_pick_t rfl rfl rfl) (.none rfl) rfl rfl ?_
      refine WL.nil ?_
      refine WE.then_n ?_
      refine WC.cond_t rfl ?_
      refine WC.seq ?_
      refine WC.region ?_
      refine WL.val (v_assign rfl rfl) (.none rfl) rfl rfl ?_
      refine WL.val (v_assign rfl rfl) (.none rfl) rfl rfl ?_
      refine WL.nil ?_
      refine WE.then_n ?_
      refine WC.ret ?_
      refine WE.then_ret ?_
      refine WE.ret2 (P := Tryd.prog) (.inl rfl) Tryd.results50 rfl rfl ?_
      have hc : openC m = 1 := (by
        have : badO m = true := decide_eq_true (by omega)
        unfold openC; rw [this]; rfl)
      exact fun w' h => ResB.bad hc (by decide) h
    · -- 10F
      refine WL.val (v_move rfl rfl) (.none rfl) rfl rfl ?_
      refine WL.val (v_fieldAddr0 rfl rfl fld_43_1) (.some rfl rfl rfl) rfl rfl ?_
      refine WL.val (v_load1 rfl rfl one_3 (cellAt rfl)) (.some rfl rfl rfl) rfl rfl ?_
      refine WL.test (v_gtr rfl rfl rfl) (.some rfl rfl rfl) rfl rfl (fun h14 => ?_) (fun h14 => ?_)
      · -- 14T
        refine WL.val (v_pick_f rfl rfl rfl) (.none rfl) rfl rfl ?_
        refine WL.val (v_move rfl rfl) (.none rfl) rfl rfl ?_
        refine WL.skip rfl rfl rfl rfl rfl rfl ?_
        refine WL.skip rfl rfl rfl rfl rfl rfl ?_
        refine WL.skip rfl rfl rfl rfl rfl rfl ?_
        refine WL.skip rfl rfl rfl rfl rfl rfl ?_
        refine WL.skip rfl rfl rfl rfl rfl rfl ?_
        refine WL.skip rfl rfl rfl rfl rfl rfl ?_
        refine WL.skip rfl rfl rfl rfl rfl rfl ?_
        refine WL.skip rfl rfl rfl rfl rfl rfl ?_
        refine WL.skip rfl rfl rfl rfl rfl rfl ?_
        refine WL.skip rfl rfl rfl rfl rfl rfl ?_
        refine WL.skip rfl rfl rfl rfl rfl rfl ?_
        refine WL.skip rfl rfl rfl rfl rfl rfl ?_
        refine WL.skip rfl rfl rfl rfl rfl rfl ?_
        refine WL.val (v_pick_t rfl rfl rfl) (.none rfl) rfl rfl ?_
        refine WL.val (v_move rfl rfl) (.none rfl) rfl rfl ?_
        refine WL.skip rfl rfl rfl rfl rfl rfl ?_
        refine WL.skip rfl rfl rfl rfl rfl rfl ?_
        refine WL.skip rfl rfl rfl rfl rfl rfl ?_
        refine WL.val (v_pick_t rfl rfl rfl) (.none rfl) rfl rfl ?_
        refine WL.val (v_move rfl rfl) (.none rfl) rfl rfl ?_
        refine WL.skip rfl rfl rfl rfl rfl rfl ?_
        refine WL.skip rfl rfl rfl rfl rfl rfl ?_
        refine WL.skip rfl rfl rfl rfl rfl rfl ?_
        refine WL.skip rfl rfl rfl rfl rfl rfl ?_
        refine WL.val (v_pick_t rfl rfl rfl) (.none rfl) rfl rfl ?_
        refine WL.nil ?_
        refine WE.then_n ?_
        refine WC.cond_t rfl ?_
        refine WC.seq ?_
        refine WC.region ?_
        refine WL.val (v_assign rfl rfl) (.none rfl) rfl rfl ?_
        refine WL.val (v_assign rfl rfl) (.none rfl) rfl rfl ?_
        refine WL.nil ?_
        refine WE.then_n ?_
        refine WC.ret ?_
        refine WE.then_ret ?_
        refine WE.ret2 (P := Tryd.prog) (.inl rfl) Tryd.results50 rfl rfl ?_
        have hc : openC m = 1 := (by
          have : badO m = true := decide_eq_true (by omega)
          unfold openC; rw [this]; rfl)
        exact fun w' h => ResB.bad hc (by decide) h
      · -- 14F
        refine WL.val (v_pick_f rfl rfl rfl) (.none rfl) rfl rfl ?_
        refine WL.val (v_move rfl rfl) (.none rfl) rfl rfl ?_
        refine WL.val (v_fieldAddr0 rfl rfl fld_43_2) (.some rfl rfl rfl) rfl rfl ?_
        refine WL.val (v_load1 rfl rfl one_3 (cellAt rfl)) (.some rfl rfl rfl) rfl rfl ?_
        refine WL.test (v_neq rfl rfl rfl) (.some rfl rfl rfl) rfl rfl (fun h19 => ?_) (fun h19 => ?_)
        · -- 19T
          refine WL.val (v_move rfl rfl) (.some rfl rfl rfl) rfl rfl ?_
          refine WL.val (v_fieldAddr0 rfl rfl fld_43_2) (.some rfl rfl rfl) rfl rfl ?_
          refine WL.val (v_load1 rfl rfl one_3 (cellAt rfl)) (.some rfl rfl rfl) rfl rfl ?_
          refine WL.test (v_lss rfl rfl rfl) (.some rfl rfl rfl) rfl rfl (fun h23 => ?_) (fun h23 => ?_)
          · -- 23T
            refine WL.val (v_move rfl rfl) (.some rfl rfl rfl) rfl rfl ?_
            refine WL.skip rfl rfl rfl rfl rfl rfl ?_
            refine WL.skip rfl rfl rfl rfl rfl rfl ?_
            refine WL.skip rfl rfl rfl rfl rfl rfl ?_
            refine WL.val (v_pick_t rfl rfl rfl) (.some rfl rfl rfl) rfl rfl ?_
            refine WL.val (v_pick_t rfl rfl rfl) (.some rfl rfl rfl) rfl rfl ?_
            refine WL.val (v_pick_f rfl rfl rfl) (.none rfl) rfl rfl ?_
            refine WL.val (v_move rfl rfl) (.none rfl) rfl rfl ?_
            refine WL.skip rfl rfl rfl rfl rfl rfl ?_
            refine WL.skip rfl rfl rfl rfl rfl rfl ?_
            refine WL.skip rfl rfl rfl rfl rfl rfl ?_
            refine WL.val (v_pick_t rfl rfl rfl) (.none rfl) rfl rfl ?_
            refine WL.val (v_move rfl rfl) (.none rfl) rfl rfl ?_
            refine WL.skip rfl rfl rfl rfl rfl rfl ?_
            refine WL.skip rfl rfl rfl rfl rfl rfl ?_
            refine WL.skip rfl rfl rfl rfl rfl rfl ?_
            refine WL.skip rfl rfl rfl rfl rfl rfl ?_
            refine WL.val (v_pick_t rfl rfl rfl) (.none rfl) rfl rfl ?_
            refine WL.nil ?_
            refine WE.then_n ?_
            refine WC.cond_t rfl ?_
            refine WC.seq ?_
            refine WC.region ?_
            refine WL.val (v_assign rfl rfl) (.none rfl) rfl rfl ?_
            refine WL.val (v_assign rfl rfl) (.none rfl) rfl rfl ?_
            refine WL.nil ?_
            refine WE.then_n ?_
            refine WC.ret ?_
            refine WE.then_ret ?_
            refine WE.ret2 (P := Tryd.prog) (.inl rfl) Tryd.results50 rfl rfl ?_
            have hc : openC m = 1 := (by
              have : badO m = true := decide_eq_true (by omega)
              unfold openC; rw [this]; rfl)
            exact fun w' h => ResB.bad hc (by decide) h
          · -- 23F
            refine WL.val (v_move rfl rfl) (.some rfl rfl rfl) rfl rfl ?_
            refine WL.val (v_fieldAddr0 rfl rfl fld_43_2) (.some rfl rfl rfl) rfl rfl ?_
            refine WL.val (v_load1 rfl rfl one_3 (cellAt rfl)) (.some rfl rfl rfl) rfl rfl ?_
            refine WL.test (v_gtr rfl rfl rfl) (.some rfl rfl rfl) rfl rfl (fun h27 => ?_) (fun h27 => ?_)
            · -- 27T
              refine WL.val (v_pick_f rfl rfl rfl) (.some rfl rfl rfl) rfl rfl ?_
              refine WL.val (v_pick_t rfl rfl rfl) (.some rfl rfl rfl) rfl rfl ?_
              refine WL.val (v_pick_f rfl rfl rfl) (.none rfl) rfl rfl ?_
              refine WL.val (v_move rfl rfl) (.none rfl) rfl rfl ?_
              refine WL.skip rfl rfl rfl rfl rfl rfl ?_
              refine WL.skip rfl rfl rfl rfl rfl rfl ?_
              refine WL.skip rfl rfl rfl rfl rfl rfl ?_
              refine WL.val (v_pick_t rfl rfl rfl) (.none rfl) rfl rfl ?_
              refine WL.val (v_move rfl rfl) (.none rfl) rfl rfl ?_
              refine WL.skip rfl rfl rfl rfl rfl rfl ?_
              refine WL.skip rfl rfl rfl rfl rfl rfl ?_
              refine WL.skip rfl rfl rfl rfl rfl rfl ?_
              refine WL.skip rfl rfl rfl rfl rfl rfl ?_
              refine WL.val (v_pick_t rfl rfl rfl) (.none rfl) rfl rfl ?_
              refine WL.nil ?_
              refine WE.then_n ?_
              refine WC.cond_t rfl ?_
              refine WC.seq ?_
              refine WC.region ?_
              refine WL.val (v_assign rfl rfl) (.none rfl) rfl rfl ?_
              refine WL.val (v_assign rfl rfl) (.none rfl) rfl rfl ?_
              refine WL.nil ?_
              refine WE.then_n ?_
              refine WC.ret ?_
              refine WE.then_ret ?_
              refine WE.ret2 (P := Tryd.prog) (.inl rfl) Tryd.results50 rfl rfl ?_
              have hc : openC m = 1 := (by
                have : badO m = true := decide_eq_true (by omega)
                unfold openC; rw [this]; rfl)
              exact fun w' h => ResB.bad hc (by decide) h
            · -- 27F
              refine WL.val (v_pick_f rfl rfl rfl) (.some rfl rfl rfl) rfl rfl ?_
              refine WL.val (v_pick_t rfl rfl rfl) (.some rfl rfl rfl) rfl rfl ?_
              refine WL.val (v_pick_f rfl rfl rfl) (.none rfl) rfl rfl ?_
              refine WL.val (v_move rfl rfl) (.none rfl) rfl rfl ?_
              refine WL.val (v_fieldAddr0 rfl rfl fld_43_3) (.some rfl rfl rfl) rfl rfl ?_
              refine WL.val (v_load1 rfl rfl one_34 (cellAt rfl)) (.some rfl rfl rfl) rfl rfl ?_
              refine WL.test (v_eql rfl rfl rfl) (.some rfl rfl rfl) rfl rfl (fun h34 => ?_) (fun h34 => ?_)
              · -- 34T
                refine WL.val (v_pick_f rfl rfl rfl) (.none rfl) rfl rfl ?_
                refine WL.val (v_move rfl rfl) (.none rfl) rfl rfl ?_
                refine WL.skip rfl rfl rfl rfl rfl rfl ?_
                refine WL.skip rfl rfl rfl rfl rfl rfl ?_
                refine WL.skip rfl rfl rfl rfl rfl rfl ?_
                refine WL.skip rfl rfl rfl rfl rfl rfl ?_
                refine WL.val (v_pick_t rfl rfl rfl) (.none rfl) rfl rfl ?_
                refine WL.nil ?_
                refine WE.then_n ?_
                refine WC.cond_t rfl ?_
                refine WC.seq ?_
                refine WC.region ?_
                refine WL.val (v_assign rfl rfl) (.none rfl) rfl rfl ?_
                refine WL.val (v_assign rfl rfl) (.none rfl) rfl rfl ?_
                refine WL.nil ?_
                refine WE.then_n ?_
                refine WC.ret ?_
                refine WE.then_ret ?_
                refine WE.ret2 (P := Tryd.prog) (.inl rfl) Tryd.results50 rfl rfl ?_
                have hc : openC m = 1 := (by
                  have : badO m = true := decide_eq_true (by omega)
                  unfold openC; rw [this]; rfl)
                exact fun w' h => ResB.bad hc (by decide) h
              · -- 34F
                refine WL.val (v_pick_f rfl rfl rfl) (.none rfl) rfl rfl ?_
                refine WL.val (v_move rfl rfl) (.none rfl) rfl rfl ?_
                refine WL.val (v_fieldAddr0 rfl rfl fld_43_4) (.some rfl rfl rfl) rfl rfl ?_
                refine WL.val (v_load1 rfl rfl one_35 (cellAt rfl)) (.some rfl rfl rfl) rfl rfl ?_
                refine WL.val (v_len_slice rfl rfl Tryd.underlying35) (.some rfl rfl rfl) rfl rfl ?_
                refine WL.test (v_gtr rfl rfl rfl) (.some rfl rfl rfl) rfl rfl (fun h40 => ?_) (fun h40 => ?_)
                · -- 40T
                  refine WL.val (v_pick_f rfl rfl rfl) (.none rfl) rfl rfl ?_
                  refine WL.nil ?_
                  refine WE.then_n ?_
                  refine WC.cond_t rfl ?_
                  refine WC.seq ?_
                  refine WC.region ?_
                  refine WL.val (v_assign rfl rfl) (.none rfl) rfl rfl ?_
                  refine WL.val (v_assign rfl rfl) (.none rfl) rfl rfl ?_
                  refine WL.nil ?_
                  refine WE.then_n ?_
                  refine WC.ret ?_
                  refine WE.then_ret ?_
                  refine WE.ret2 (P := Tryd.prog) (.inl rfl) Tryd.results50 rfl rfl ?_
                  have hc : openC m = 1 := (by
                    have : badO m = true := decide_eq_true (by omega)
                    unfold openC; rw [this]; rfl)
                  exact fun w' h => ResB.bad hc (by decide) h
                · -- 40F
                  refine WL.val (v_pick_f rfl rfl rfl) (.none rfl) rfl rfl ?_
                  refine WL.nil ?_
                  refine WE.then_n ?_
                  refine WC.cond_f rfl ?_
                  refine WC.skip ?_
                  exact WE.mid () (decide_eq_false (by omega)) (.cons rfl .nil) (.refl _)
        · -- 19F
          refine WL.val (v_move rfl rfl) (.some rfl rfl rfl) rfl rfl ?_
          refine WL.skip rfl rfl rfl rfl rfl rfl ?_
          refine WL.skip rfl rfl rfl rfl rfl rfl ?_
          refine WL.skip rfl rfl rfl rfl rfl rfl ?_
          refine WL.skip rfl rfl rfl rfl rfl rfl ?_
          refine WL.skip rfl rfl rfl rfl rfl rfl ?_
          refine WL.skip rfl rfl rfl rfl rfl rfl ?_
          refine WL.skip rfl rfl rfl rfl rfl rfl ?_
          refine WL.skip rfl rfl rfl rfl rfl rfl ?_
          refine WL.val (v_pick_f rfl rfl rfl) (.some rfl rfl rfl) rfl rfl ?_
          refine WL.val (v_pick_f rfl rfl rfl) (.none rfl) rfl rfl ?_
          refine WL.val (v_move rfl rfl) (.none rfl) rfl rfl ?_
          refine WL.val (v_fieldAddr0 rfl rfl fld_43_3) (.some rfl rfl rfl) rfl rfl ?_
          refine WL.val (v_load1 rfl rfl one_34 (cellAt rfl)) (.some rfl rfl rfl) rfl rfl ?_
          refine WL.test (v_eql rfl rfl rfl) (.some rfl rfl rfl) rfl rfl (fun h34 => ?_) (fun h34 => ?_)
          · -- 34T
            refine WL.val (v_pick_f rfl rfl rfl) (.none rfl) rfl rfl ?_
            refine WL.val (v_move rfl rfl) (.none rfl) rfl rfl ?_
            refine WL.skip rfl rfl rfl rfl rfl rfl ?_
            refine WL.skip rfl rfl rfl rfl rfl rfl ?_
            refine WL.skip rfl rfl rfl rfl rfl rfl ?_
            refine WL.skip rfl rfl rfl rfl rfl rfl ?_
            refine WL.val (v_pick_t rfl rfl rfl) (.none rfl) rfl rfl ?_
            refine WL.nil ?_
            refine WE.then_n ?_
            refine WC.cond_t rfl ?_
            refine WC.seq ?_
            refine WC.region ?_
            refine WL.val (v_assign rfl rfl) (.none rfl) rfl rfl ?_
            refine WL.val (v_assign rfl rfl) (.none rfl) rfl rfl ?_
            refine WL.nil ?_
            refine WE.then_n ?_
            refine WC.ret ?_
            refine WE.then_ret ?_
            refine WE.ret2 (P := Tryd.prog) (.inl rfl) Tryd.results50 rfl rfl ?_
            have hc : openC m = 1 := (by
              have : badO m = true := decide_eq_true (by omega)
              unfold openC; rw [this]; rfl)
            exact fun w' h => ResB.bad hc (by decide) h
          · -- 34F
            refine WL.val (v_pick_f rfl rfl rfl) (.none rfl) rfl rfl ?_
            refine WL.val (v_move rfl rfl) (.none rfl) rfl rfl ?_
            refine WL.val (v_fieldAddr0 rfl rfl fld_43_4) (.some rfl rfl rfl) rfl rfl ?_
            refine WL.val (v_load1 rfl rfl one_35 (cellAt rfl)) (.some rfl rfl rfl) rfl rfl ?_
            refine WL.val (v_len_slice rfl rfl Tryd.underlying35) (.some rfl rfl rfl) rfl rfl ?_
            refine WL.test (v_gtr rfl rfl rfl) (.some rfl rfl rfl) rfl rfl (fun h40 => ?_) (fun h40 => ?_)
            · -- 40T
              refine WL.val (v_pick_f rfl rfl rfl) (.none rfl) rfl rfl ?_
              refine WL.nil ?_
              refine WE.then_n ?_
              refine WC.cond_t rfl ?_
              refine WC.seq ?_
              refine WC.region ?_
              refine WL.val (v_assign rfl rfl) (.none rfl) rfl rfl ?_
              refine WL.val (v_assign rfl rfl) (.none rfl) rfl rfl ?_
              refine WL.nil ?_
              refine WE.then_n ?_
              refine WC.ret ?_
              refine WE.then_ret ?_
              refine WE.ret2 (P := Tryd.prog) (.inl rfl) Tryd.results50 rfl rfl ?_
              have hc : openC m = 1 := (by
                have : badO m = true := decide_eq_true (by omega)
                unfold openC; rw [this]; rfl)
              exact fun w' h => ResB.bad hc (by decide) h
            · -- 40F
              refine WL.val (v_pick_f rfl rfl rfl) (.none rfl) rfl rfl ?_
              refine WL.nil ?_
              refine WE.then_n ?_
              refine WC.cond_f rfl ?_
              refine WC.skip ?_
              exact WE.mid () (decide_eq_false (by omega)) (.cons rfl .nil) (.refl _)
  · -- behind cut41
    intro _ hb
    have hb' := of_decide_eq_false hb
    refine WC.seq ?_
    refine WC.region ?_
    refine WL.val (v_assign rfl rfl) (.none rfl) rfl rfl ?_
    refine WL.nil ?_
    refine WE.then_n ?_
    refine WC.seq ?_
    refine WC.seq ?_
    refine WC.region ?_
    refine WL.val (v_fieldAddr0 rfl rfl fld_43_4) (.none rfl) rfl rfl ?_
    refine WL.val (v_load1 rfl rfl one_35 (cellAt rfl)) (.none rfl) rfl rfl ?_
    refine WL.val (v_len_slice rfl rfl Tryd.underlying35) (.none rfl) rfl rfl ?_
    refine WL.val (v_move rfl rfl) (.none rfl) rfl rfl ?_
    refine WL.nil ?_
    refine WE.then_n ?_
    refine WC.block ?_
    refine WC.loop (fun x : Nat × List Int × Option Addr × Nat × List Ent => [(45, .int .i64 x.1), (44, .int .i64 m.caps.length), (43, .slice m.kad m.caps.length m.kc), (4, .slice x.2.2.1 x.2.1.length x.2.2.2.1), (1, .pointer (some ⟨g1, 0, none⟩))]) (fun x => x.2.2.2.2 ++ [.row g1 m.cells]) (fun x => x.1 ≤ m.caps.length ∧ x.2.1.length ≤ 257 * x.1 ∧ x.2.1 ++ capsE (m.caps.drop x.1) = capsE m.caps ∧ (∀ j o, j < x.1 → m.caps[j]? = some o → capOk o = true) ∧ BV x.2.2.1 x.2.2.2.1 x.2.1 x.2.2.2.2) (fun x => m.caps.length - x.1) (0, [], none, 0, []) ⟨Nat.zero_le _, Nat.le_refl _, rfl, fun j _ h => absurd h (by dsimp only; omega), Vec.nil 1⟩ (.cons rfl (.cons rfl (.cons rfl (.cons rfl (.cons rfl .nil))))) (.refl _) ?_
    rintro ⟨k, ys, ad, c, E⟩ ⟨hk, hl, hy, hok, hV⟩
    dsimp only at hk hl hy hok hV
    dsimp only
    refine WC.seq ?_
    refine WC.region ?_
    refine WL.test (v_lss rfl rfl rfl) (.none rfl) rfl rfl (fun h46 => ?_) (fun h46 => ?_)
    · -- 46T
      refine WL.nil ?_
      refine WE.then_n ?_
      refine WC.seq ?_
      refine WC.cond_t rfl ?_
      refine WC.skip ?_
      refine WE.then_n ?_
      refine WC.seq ?_
      refine WC.block ?_
      refine WC.seq ?_
      refine WC.region ?_
      obtain ⟨x, hx⟩ : ∃ x, m.caps[k]? = some x := ⟨m.caps[k]'(by omega), List.getElem?_eq_getElem _⟩
      obtain ⟨b, o, ea, hr⟩ := hM.caps k x hx
      have hxm := List.mem_of_getElem? hx
      have hxI := hI.caps x hxm
      unfold capsE at hy
      rw [drop_cons' hx, List.flatMap_cons] at hy
      refine WL.val ((v_indexAddr (b := b) (off := o) (lo := k) rfl (by show some (Value.slice m.kad _ _) = _; rw [ea]) rfl Tryd.underlying35 sz_109 rfl (by omega))) (.none rfl) rfl rfl ?_
      refine WL.val ((v_loadN (cs := x.cells) rfl rfl many_109 rfl (rgIn (fun h => h) hr))) (.none rfl) rfl rfl ?_
      refine WL.alloc rfl zero_109 (.none rfl) rfl rfl ?_
      intro g6 hg6
      refine WL.storeW rfl rfl rfl rfl many_109 rfl rfl (.none rfl) rfl ?_
      refine WL.as (L' := .row g6 x.cells :: (E ++ [.row g1 m.cells])) rfl ?_
      refine WL.to (L' := E ++ [.row g6 x.cells, .row g1 m.cells]) (fun w hS => hS.front [_]) ?_
      refine WL.nil ?_
      refine WE.then_n ?_
      refine WC.seq ?_
      refine WC.seq ?_
      refine WC.region ?_
      refine WL.val (v_fieldAddr0 rfl rfl fld_109_0) (.none rfl) rfl rfl ?_
      refine WL.val (v_load1 rfl rfl one_3 (cellAt rfl)) (.none rfl) rfl rfl ?_
      refine WL.test (v_lss rfl rfl rfl) (.none rfl) rfl rfl (fun h51 => ?_) (fun h51 => ?_)
      · -- 51T
        refine WL.val (v_move rfl rfl) (.none rfl) rfl rfl ?_
        refine WL.skip rfl rfl rfl rfl rfl rfl ?_
        refine WL.skip rfl rfl rfl rfl rfl rfl ?_
        refine WL.skip rfl rfl rfl rfl rfl rfl ?_
        refine WL.val (v_pick_t rfl rfl rfl) (.none rfl) rfl rfl ?_
        refine WL.val (v_move rfl rfl) (.none rfl) rfl rfl ?_
        refine WL.skip rfl rfl rfl rfl rfl rfl ?_
        refine WL.skip rfl rfl rfl rfl rfl rfl ?_
        refine WL.skip rfl rfl rfl rfl rfl rfl ?_
        refine WL.skip rfl rfl rfl rfl rfl rfl ?_
        refine WL.val (v_pick_t rfl rfl rfl) (.none rfl) rfl rfl ?_
        refine WL.nil ?_
        refine WE.then_n ?_
        refine WC.cond_t rfl ?_
        refine WC.seq ?_
        refine WC.region ?_
        refine WL.val (v_assign rfl rfl) (.none rfl) rfl rfl ?_
        refine WL.val (v_assign rfl rfl) (.none rfl) rfl rfl ?_
        refine WL.nil ?_
        refine WE.then_n ?_
        refine WC.ret ?_
        refine WE.then_ret ?_
        refine WE.block_ret ?_
        refine WE.then_ret ?_
        refine WE.then_ret ?_
        refine WE.block_ret ?_
        refine WE.then_ret ?_
        refine WE.ret2 (P := Tryd.prog) (.inl rfl) Tryd.results50 rfl rfl ?_
        have hc : openC m = 1 := (by
          unfold openC
          rw [hb, not_all hx (by unfold capOk; exact decide_eq_false (by omega))]; rfl)
        exact fun w' h => ResB.bad hc (by decide) h
      · -- 51F
        refine WL.val (v_move rfl rfl) (.none rfl) rfl rfl ?_
        refine WL.val (v_fieldAddr0 rfl rfl fld_109_0) (.some rfl rfl rfl) rfl rfl ?_
        refine WL.val (v_load1 rfl rfl one_3 (cellAt rfl)) (.some rfl rfl rfl) rfl rfl ?_
        refine WL.test (v_gtr rfl rfl rfl) (.some rfl rfl rfl) rfl rfl (fun h55 => ?_) (fun h55 => ?_)
        · -- 55T
          refine WL.val (v_pick_f rfl rfl rfl) (.none rfl) rfl rfl ?_
          refine WL.val (v_move rfl rfl) (.none rfl) rfl rfl ?_
          refine WL.skip rfl rfl rfl rfl rfl rfl ?_
          refine WL.skip rfl rfl rfl rfl rfl rfl ?_
          refine WL.skip rfl rfl rfl rfl rfl rfl ?_
          refine WL.skip rfl rfl rfl rfl rfl rfl ?_
          refine WL.val (v_pick_t rfl rfl rfl) (.none rfl) rfl rfl ?_
          refine WL.nil ?_
          refine WE.then_n ?_
          refine WC.cond_t rfl ?_
          refine WC.seq ?_
          refine WC.region ?_
          refine WL.val (v_assign rfl rfl) (.none rfl) rfl rfl ?_
          refine WL.val (v_assign rfl rfl) (.none rfl) rfl rfl ?_
          refine WL.nil ?_
          refine WE.then_n ?_
          refine WC.ret ?_
          refine WE.then_ret ?_
          refine WE.block_ret ?_
          refine WE.then_ret ?_
          refine WE.then_ret ?_
          refine WE.block_ret ?_
          refine WE.then_ret ?_
          refine WE.ret2 (P := Tryd.prog) (.inl rfl) Tryd.results50 rfl rfl ?_
          have hc : openC m = 1 := (by
            unfold openC
            rw [hb, not_all hx (by unfold capOk; exact decide_eq_false (by omega))]; rfl)
          exact fun w' h => ResB.bad hc (by decide) h
        · -- 55F
          refine WL.val (v_pick_f rfl rfl rfl) (.none rfl) rfl rfl ?_
          refine WL.val (v_move rfl rfl) (.none rfl) rfl rfl ?_
          refine WL.val (v_fieldAddr0 rfl rfl fld_109_1) (.some rfl rfl rfl) rfl rfl ?_
          refine WL.val (v_load1 rfl rfl one_22 (cellAt rfl)) (.some rfl rfl rfl) rfl rfl ?_
          refine WL.val (v_len_slice rfl rfl Tryd.underlying22) (.some rfl rfl rfl) rfl rfl ?_
          refine WL.test (v_gtr rfl rfl rfl) (.some rfl rfl rfl) rfl rfl (fun h61 => ?_) (fun h61 => ?_)
          · -- 61T
            refine WL.val (v_pick_f rfl rfl rfl) (.none rfl) rfl rfl ?_
            refine WL.nil ?_
            refine WE.then_n ?_
            refine WC.cond_t rfl ?_
            refine WC.seq ?_
            refine WC.region ?_
            refine WL.val (v_assign rfl rfl) (.none rfl) rfl rfl ?_
            refine WL.val (v_assign rfl rfl) (.none rfl) rfl rfl ?_
            refine WL.nil ?_
            refine WE.then_n ?_
            refine WC.ret ?_
            refine WE.then_ret ?_
            refine WE.block_ret ?_
            refine WE.then_ret ?_
            refine WE.then_ret ?_
            refine WE.block_ret ?_
            refine WE.then_ret ?_
            refine WE.ret2 (P := Tryd.prog) (.inl rfl) Tryd.results50 rfl rfl ?_
            have hc : openC m = 1 := (by
              unfold openC
              rw [hb, not_all hx (by unfold capOk; exact decide_eq_false (by omega))]; rfl)
            exact fun w' h => ResB.bad hc (by decide) h
          · -- 61F
            refine WL.val (v_pick_f rfl rfl rfl) (.none rfl) rfl rfl ?_
            refine WL.nil ?_
            refine WE.then_n ?_
            refine WC.cond_f rfl ?_
            refine WC.skip ?_
            refine WE.then_n ?_
            refine WC.seq ?_
            refine WC.region ?_
            refine WL.val (v_move rfl rfl) (.none rfl) rfl rfl ?_
            refine WL.val (v_fieldAddr0 rfl rfl fld_109_0) (.none rfl) rfl rfl ?_
            refine WL.val (v_load1 rfl rfl one_3 (cellAt rfl)) (.none rfl) rfl rfl ?_
            refine WL.val (v_conv rfl rfl Tryd.underlying5 Tryd.underlying3 (w_u8m _)) (.none rfl) rfl rfl ?_
            refine WL.val (v_fieldAddr0 rfl rfl fld_109_1) (.none rfl) rfl rfl ?_
            refine WL.val (v_load1 rfl rfl one_22 (cellAt rfl)) (.none rfl) rfl rfl ?_
            refine WL.val (v_len_slice rfl rfl Tryd.underlying22) (.none rfl) rfl rfl ?_
            refine WL.val (v_conv rfl rfl Tryd.underlying5 Tryd.underlying3 (w_u8m _)) (.none rfl) rfl rfl ?_
            refine WL.buildSlice rfl rfl Tryd.underlying22 sz_5 zero_5 rfl (by decide) rfl (.none rfl) rfl rfl ?_
            intro g71 hg71
            refine WL.as (L' := .row g71 (u8s [x.code % 256, (x.val.length : Int) % 256]) :: (E ++ [.row g6 x.cells, .row g1 m.cells])) rfl ?_
            refine WL.to (L' := E ++ [.row g71 (u8s [x.code % 256, (x.val.length : Int) % 256]), .row g6 x.cells, .row g1 m.cells]) (fun w hS => hS.front [_]) ?_
            refine WL.appendL rfl rfl rfl Tryd.underlying22 Tryd.underlying22 sz_5 by_5 zero_5 rfl rfl hV (new := u8s [x.code % 256, (x.val.length : Int) % 256]) (fun _ => ⟨g71, 0, rfl, fun w hS => allAt (g := g71) w hS⟩) rfl (u8s_one _) (by omega) (.none rfl) rfl rfl ?_
            intro ad72 c72 E72 hV72 hr72
            refine WL.val (v_assign rfl rfl) (.none rfl) rfl rfl ?_
            refine WL.nil ?_
            refine WE.then_n ?_
            refine WC.region ?_
            refine WL.val (v_move rfl rfl) (.none rfl) rfl rfl ?_
            refine WL.val (v_fieldAddr0 rfl rfl fld_109_1) (.none rfl) rfl rfl ?_
            refine WL.val (v_load1 rfl rfl one_22 (cellAt rfl)) (.none rfl) rfl rfl ?_
            refine WL.appendL rfl rfl rfl Tryd.underlying22 Tryd.underlying22 sz_5 by_5 zero_5 rfl rfl hV72 (new := u8s x.val) (fun h => by obtain ⟨b', o', e, hr'⟩ := hM.vals x hxm (by rw [u8s_len]; exact h); exact ⟨b', o', e, rgIn (fun h => h) hr'⟩) (by rw [u8s_len]; omega) (u8s_one _) (by omega) (.none rfl) rfl rfl ?_
            intro ad76 c76 E76 hV76 hr76
            rw [← u8s_app, ← u8s_app] at hV76
            have hkl := hV76.toB
            rw [hkl] at hV76 ⊢
            refine WL.val (v_assign rfl rfl) (.none rfl) rfl rfl ?_
            refine WL.nil ?_
            refine WE.block_n ?_
            refine WE.then_n ?_
            refine WC.region ?_
            refine WL.val (v_add rfl rfl rfl (w_i64 (by omega) (by omega))) (.none rfl) rfl rfl ?_
            refine WL.val (v_move rfl rfl) (.none rfl) rfl rfl ?_
            refine WL.nil ?_
            exact WE.next (k + 1, _, ad76, c76, E76) (by dsimp only; omega) ⟨by dsimp only; omega, by dsimp only; rw [← hkl]; omega, by dsimp only; rw [List.append_assoc, List.append_assoc]; unfold capE at hy; rw [List.append_assoc] at hy; exact hy, fun j o' hj hjo => by
            by_cases e : j = k
            · subst e; rw [hx] at hjo; obtain rfl := Option.some.inj hjo; exact decide_eq_true ⟨by omega, by omega, by omega⟩
            · exact hok j o' (by dsimp only at hj; omega) hjo, hV76⟩ (.int rfl (by dsimp only; omega) (.cons rfl (.cons rfl (.cons rfl (.cons rfl .nil))))) (List.Sublist.append_left (.cons _ (.cons _ (.refl _))) _)
    · -- 46F
      refine WL.nil ?_
      refine WE.then_n ?_
      refine WC.seq ?_
      refine WC.cond_f rfl ?_
      refine WC.exit ?_
      refine WE.then_exit ?_
      refine WE.then_exit ?_
      refine WE.block_hit ?_
      refine WE.then_n ?_
      refine WC.seq ?_
      refine WC.seq ?_
      refine WC.region ?_
      refine WL.val (v_move rfl rfl) (.none rfl) rfl rfl ?_
      obtain rfl : k = m.caps.length := (by omega)
      have hy' : ys = capsE m.caps := (by rw [List.drop_length] at hy; rw [← hy]; exact (List.append_nil _).symm)
      have hall : m.caps.all capOk = true := all_of fun j x hj hx => hok j x (by omega) hx
      refine WL.val (v_len_slice rfl rfl Tryd.underlying22) (.none rfl) rfl rfl ?_
      refine WL.test (v_gtr rfl rfl rfl) (.none rfl) rfl rfl (fun h80 => ?_) (fun h80 => ?_)
      · -- 80T
        refine WL.nil ?_
        refine WE.then_n ?_
        refine WC.cond_t rfl ?_
        refine WC.seq ?_
        refine WC.region ?_
        refine WL.val (v_assign rfl rfl) (.none rfl) rfl rfl ?_
        refine WL.val (v_assign rfl rfl) (.none rfl) rfl rfl ?_
        refine WL.nil ?_
        refine WE.then_n ?_
        refine WC.ret ?_
        refine WE.then_ret ?_
        refine WE.ret2 (P := Tryd.prog) (.inl rfl) Tryd.results50 rfl rfl ?_
        have hc : openC m = 6 := (by
          unfold openC
          rw [hb, hall, if_pos (show 253 < (capsE m.caps).length by rw [← hy']; omega)]; rfl)
        exact fun w' h => ResB.bad hc (by decide) h
      · -- 80F
        refine WL.nil ?_
        refine WE.then_n ?_
        refine WC.cond_f rfl ?_
        refine WC.skip ?_
        refine WE.then_n ?_
        refine WC.seq ?_
        refine WC.orders mixed ?_
        refine WR.first (g := 6) [1, 4] (by kernel_rfl) (by kernel_rfl) ?_
        refine WP.val (v_fieldAddr0 rfl rfl fld_43_1) (.none rfl) rfl rfl ?_
        refine WP.val (v_fieldAddr0 rfl rfl fld_43_2) (.none rfl) rfl rfl ?_
        refine WP.nil ?_
        refine WR.each (g := 5) [0, 2, 5] (by kernel_rfl) (by decide) ?_
        refine ⟨?_, ⟨?_, ?_⟩⟩
        · -- next 0
          refine WL.buildSlice rfl rfl Tryd.underlying22 sz_5 zero_5 rfl (by decide) rfl (.none rfl) rfl rfl ?_
          intro g81 hg81
          refine WL.as (L' := [.row g81 (u8s [4])] ++ (E ++ [.row g1 m.cells])) rfl ?_
          refine WL.nilR ?_
          refine WR.each (g := 4) [2, 5] (by kernel_rfl) (by decide) ?_
          refine ⟨?_, ?_⟩
          · -- next 2
            refine WL.val (v_load1 rfl rfl one_3 (cellAt rfl)) (.none rfl) rfl rfl ?_
            refine WL.nilR ?_
            refine WR.each (g := 3) [3, 5] (by kernel_rfl) (by decide) ?_
            refine ⟨?_, ?_⟩
            · -- next 3
              refine WL.call rfl rfl ck_54 (.none rfl) rfl rfl ?_
              intro w1 hS
              refine (put2_b (fun _ => False) w0 w1 _ _ _ _ [4] m.asn (Vec.row (k := 1) (s := 1) (c := 1) (cs := u8s [4]) rfl rfl (by omega)) hS (by decide) (by omega) (by omega)).mono ?_
              rintro e w' ⟨ad84, c84, E84, rfl, hV84, hS'⟩
              refine ⟨_, _, rfl, hS', ?_⟩
              refine WL.nilR ?_
              refine WR.read (g := 2) [5] (by kernel_rfl) (by kernel_rfl) (by kernel_rfl) (by kernel_rfl) rfl ?_
              refine WQ.val (v_load1 rfl rfl one_3 (cellAt rfl)) (.none rfl) rfl rfl ?_
              refine WQ.nilR ?_
              refine WR.ones (g := 1) [6] (by kernel_rfl) ?_
              refine WL.call rfl rfl ck_54 (.none rfl) rfl rfl ?_
              intro w1 hS
              refine (put2_b (fun _ => False) w0 w1 _ _ _ _ _ m.hold hV84 hS (by rw [List.length_append, numB_len]; decide) (by omega) (by omega)).mono ?_
              rintro e w' ⟨ad87, c87, E87, rfl, hV87, hS'⟩
              refine ⟨_, _, rfl, hS', ?_⟩
              refine WL.nilR ?_
              refine WR.first (g := 0) [7] (by kernel_rfl) (by kernel_rfl) ?_
              refine WP.val (v_assign rfl rfl) (.none rfl) rfl rfl ?_
              refine WP.nil ?_
              refine WR.done (by kernel_rfl) ?_
              refine WE.then_n ?_
              refine WC.seq ?_
              refine WC.region ?_
              refine WL.val (v_move rfl rfl) (.none rfl) rfl rfl ?_
              refine WL.val (v_fieldAddr0 rfl rfl fld_43_3) (.none rfl) rfl rfl ?_
              refine WL.val (v_load1 rfl rfl one_34 (cellAt rfl)) (.none rfl) rfl rfl ?_
              refine WL.call rfl rfl ck_70 (.none rfl) rfl rfl ?_
              intro w1 hS
              refine (putAddr_c (fun _ => False) w0 w1 _ _ _ _ _ m.id 4 hV87 hS (by rw [List.length_append, List.length_append, numB_len, numB_len]; decide) (by decide)).mono ?_
              rintro e w' ⟨ad91, c91, E91, rfl, hV91, hS'⟩
              refine ⟨_, _, rfl, hS', ?_⟩
              have h91 : ([4] ++ numB m.asn 2 ++ numB m.hold 2 ++ addrB m.id 4).length = 9 := (by rw [List.length_append, List.length_append, List.length_append, numB_len, numB_len, addrB_len _ (by decide)]; rfl)
              refine WL.val (v_assign rfl rfl) (.none rfl) rfl rfl ?_
              refine WL.nil ?_
              refine WE.then_n ?_
              refine WC.seq ?_
              refine WC.seq ?_
              refine WC.region ?_
              refine WL.val (v_move rfl rfl) (.none rfl) rfl rfl ?_
              refine WL.val (v_len_slice rfl rfl Tryd.underlying22) (.none rfl) rfl rfl ?_
              refine WL.test (v_eql rfl rfl rfl) (.none rfl) rfl rfl (fun h94 => ?_) (fun h94 => ?_)
              · -- 94T
                refine WL.nil ?_
                refine WE.then_n ?_
                refine WC.cond_t rfl ?_
                refine WC.seq ?_
                refine WC.region ?_
                refine WL.val (v_move rfl rfl) (.none rfl) rfl rfl ?_
                refine WL.buildSlice rfl rfl Tryd.underlying22 sz_5 zero_5 rfl (by decide) rfl (.none rfl) rfl rfl ?_
                intro g96 hg96
                refine WL.as (L' := .row g96 (u8s [0]) :: (E91 ++ (E ++ [.row g1 m.cells]))) rfl ?_
                refine WL.to (L' := E91 ++ (.row g96 (u8s [0]) :: (E ++ [.row g1 m.cells]))) (fun w hS => hS.front [_]) ?_
                refine WL.appendL rfl rfl rfl Tryd.underlying22 Tryd.underlying22 sz_5 by_5 zero_5 rfl rfl hV91 (new := u8s [0]) (fun _ => ⟨g96, 0, rfl, fun w hS => allAt (g := g96) w hS⟩) rfl (u8s_one _) (by omega) (.none rfl) rfl rfl ?_
                intro ad97 c97 E97 hV97 hr97
                refine WL.val (v_assign rfl rfl) (.none rfl) rfl rfl ?_
                refine WL.val (v_assign rfl rfl) (.none rfl) rfl rfl ?_
                refine WL.nil ?_
                refine WE.then_n ?_
                refine WC.ret ?_
                refine WE.then_ret ?_
                refine WE.ret2 (P := Tryd.prog) (.inl rfl) Tryd.results50 rfl rfl ?_
                have hc : openC m = 0 := (by
                  unfold openC
                  rw [hb, hall, if_neg (show ¬ 253 < (capsE m.caps).length by rw [← hy']; omega)]; rfl)
                rw [← u8s_app] at hV97
                have hkl := hV97.toB
                rw [hkl] at hV97 ⊢
                exact fun w' h => ResB.good hc hV97 h (by unfold openB; rw [if_pos (by rw [← hy']; omega)])
              · -- 94F
                refine WL.nil ?_
                refine WE.then_n ?_
                refine WC.cond_f rfl ?_
                refine WC.skip ?_
                refine WE.then_n ?_
                refine WC.seq ?_
                refine WC.region ?_
                refine WL.val (v_move rfl rfl) (.none rfl) rfl rfl ?_
                refine WL.val (v_move rfl rfl) (.none rfl) rfl rfl ?_
                refine WL.val (v_len_slice rfl rfl Tryd.underlying22) (.none rfl) rfl rfl ?_
                refine WL.val (v_add rfl rfl rfl (show _ = ((2 + ys.length : Nat) : Int) from (w_i64 (by omega) (by omega)).trans (by omega))) (.none rfl) rfl rfl ?_
                refine WL.val (v_conv rfl rfl Tryd.underlying5 Tryd.underlying3 (w_u8m _)) (.none rfl) rfl rfl ?_
                refine WL.val (v_move rfl rfl) (.none rfl) rfl rfl ?_
                refine WL.val (v_len_slice rfl rfl Tryd.underlying22) (.none rfl) rfl rfl ?_
                refine WL.val (v_conv rfl rfl Tryd.underlying5 Tryd.underlying3 (w_u8m _)) (.none rfl) rfl rfl ?_
                refine WL.buildSlice rfl rfl Tryd.underlying22 sz_5 zero_5 rfl (by decide) rfl (.none rfl) rfl rfl ?_
                intro g106 hg106
                refine WL.as (L' := .row g106 (u8s [((2 + ys.length : Nat) : Int) % 256, 2, (ys.length : Int) % 256]) :: (E91 ++ (E ++ [.row g1 m.cells]))) rfl ?_
                refine WL.to (L' := E91 ++ (.row g106 (u8s [((2 + ys.length : Nat) : Int) % 256, 2, (ys.length : Int) % 256]) :: (E ++ [.row g1 m.cells]))) (fun w hS => hS.front [_]) ?_
                refine WL.appendL rfl rfl rfl Tryd.underlying22 Tryd.underlying22 sz_5 by_5 zero_5 rfl rfl hV91 (new := u8s [((2 + ys.length : Nat) : Int) % 256, 2, (ys.length : Int) % 256]) (fun _ => ⟨g106, 0, rfl, fun w hS => allAt (g := g106) w hS⟩) rfl (u8s_one _) (by omega) (.none rfl) rfl rfl ?_
                intro ad107 c107 E107 hV107 hr107
                refine WL.val (v_assign rfl rfl) (.none rfl) rfl rfl ?_
                refine WL.nil ?_
                refine WE.then_n ?_
                refine WC.seq ?_
                refine WC.region ?_
                refine WL.val (v_move rfl rfl) (.none rfl) rfl rfl ?_
                refine WL.val (v_move rfl rfl) (.none rfl) rfl rfl ?_
                refine WL.appendL rfl rfl rfl Tryd.underlying22 Tryd.underlying22 sz_5 by_5 zero_5 rfl rfl hV107 (new := u8s ys) (fun h => by obtain ⟨b', o', e, hr'⟩ := hV.src (L := E107 ++ (.row g106 (u8s [((2 + ys.length : Nat) : Int) % 256, 2, (ys.length : Int) % 256]) :: (E ++ [.row g1 m.cells]))) (fun e he => List.mem_append_right _ (.tail _ (List.mem_append_left _ he))) (by rw [u8s_len]; exact h); exact ⟨b', o', e, fun w hS => hr' _ _ w hS⟩) (by rw [u8s_len]; omega) (u8s_one _) (by omega) (.none rfl) rfl rfl ?_
                intro ad110 c110 E110 hV110 hr110
                refine WL.val (v_assign rfl rfl) (.none rfl) rfl rfl ?_
                refine WL.val (v_assign rfl rfl) (.none rfl) rfl rfl ?_
                refine WL.nil ?_
                refine WE.then_n ?_
                refine WC.ret ?_
                refine WE.ret2 (P := Tryd.prog) (.inl rfl) Tryd.results50 rfl rfl ?_
                have hc : openC m = 0 := (by
                  unfold openC
                  rw [hb, hall, if_neg (show ¬ 253 < (capsE m.caps).length by rw [← hy']; omega)]; rfl)
                rw [← u8s_app, ← u8s_app] at hV110
                have hkl := hV110.toB
                rw [hkl] at hV110 ⊢
                exact fun w' h => ResB.good hc hV110 h (by unfold openB; rw [if_neg (by rw [← hy']; omega), ← hy', List.append_assoc]; rfl)
            · -- next 5
              refine WL.val (v_load1 rfl rfl one_3 (cellAt rfl)) (.none rfl) rfl rfl ?_
              refine WL.nilR ?_
              refine WR.ones (g := 1) [3, 6] (by kernel_rfl) ?_
              refine WL.call rfl rfl ck_54 (.none rfl) rfl rfl ?_
              intro w1 hS
              refine (put2_b (fun _ => False) w0 w1 _ _ _ _ [4] m.asn (Vec.row (k := 1) (s := 1) (c := 1) (cs := u8s [4]) rfl rfl (by omega)) hS (by decide) (by omega) (by omega)).mono ?_
              rintro e w' ⟨ad84, c84, E84, rfl, hV84, hS'⟩
              refine ⟨_, _, rfl, hS', ?_⟩
              refine WL.call rfl rfl ck_54 (.none rfl) rfl rfl ?_
              intro w1 hS
              refine (put2_b (fun _ => False) w0 w1 _ _ _ _ _ m.hold hV84 hS (by rw [List.length_append, numB_len]; decide) (by omega) (by omega)).mono ?_
              rintro e w' ⟨ad87, c87, E87, rfl, hV87, hS'⟩
              refine ⟨_, _, rfl, hS', ?_⟩
              refine WL.nilR ?_
              refine WR.first (g := 0) [7] (by kernel_rfl) (by kernel_rfl) ?_
              refine WP.val (v_assign rfl rfl) (.none rfl) rfl rfl ?_
              refine WP.nil ?_
              refine WR.done (by kernel_rfl) ?_
              refine WE.then_n ?_
              refine WC.seq ?_
              refine WC.region ?_
              refine WL.val (v_move rfl rfl) (.none rfl) rfl rfl ?_
              refine WL.val (v_fieldAddr0 rfl rfl fld_43_3) (.none rfl) rfl rfl ?_
              refine WL.val (v_load1 rfl rfl one_34 (cellAt rfl)) (.none rfl) rfl rfl ?_
              refine WL.call rfl rfl ck_70 (.none rfl) rfl rfl ?_
              intro w1 hS
              refine (putAddr_c (fun _ => False) w0 w1 _ _ _ _ _ m.id 4 hV87 hS (by rw [List.length_append, List.length_append, numB_len, numB_len]; decide) (by decide)).mono ?_
              rintro e w' ⟨ad91, c91, E91, rfl, hV91, hS'⟩
              refine ⟨_, _, rfl, hS', ?_⟩
              have h91 : ([4] ++ numB m.asn 2 ++ numB m.hold 2 ++ addrB m.id 4).length = 9 := (by rw [List.length_append, List.length_append, List.length_append, numB_len, numB_len, addrB_len _ (by decide)]; rfl)
              refine WL.val (v_assign rfl rfl) (.none rfl) rfl rfl ?_
              refine WL.nil ?_
              refine WE.then_n ?_
              refine WC.seq ?_
              refine WC.seq ?_
              refine WC.region ?_
              refine WL.val (v_move rfl rfl) (.none rfl) rfl rfl ?_
              refine WL.val (v_len_slice rfl rfl Tryd.underlying22) (.none rfl) rfl rfl ?_
              refine WL.test (v_eql rfl rfl rfl) (.none rfl) rfl rfl (fun h94 => ?_) (fun h94 => ?_)
              · -- 94T
                refine WL.nil ?_
                refine WE.then_n ?_
                refine WC.cond_t rfl ?_
                refine WC.seq ?_
                refine WC.region ?_
                refine WL.val (v_move rfl rfl) (.none rfl) rfl rfl ?_
                refine WL.buildSlice rfl rfl Tryd.underlying22 sz_5 zero_5 rfl (by decide) rfl (.none rfl) rfl rfl ?_
                intro g96 hg96
                refine WL.as (L' := .row g96 (u8s [0]) :: (E91 ++ (E ++ [.row g1 m.cells]))) rfl ?_
                refine WL.to (L' := E91 ++ (.row g96 (u8s [0]) :: (E ++ [.row g1 m.cells]))) (fun w hS => hS.front [_]) ?_
                refine WL.appendL rfl rfl rfl Tryd.underlying22 Tryd.underlying22 sz_5 by_5 zero_5 rfl rfl hV91 (new := u8s [0]) (fun _ => ⟨g96, 0, rfl, fun w hS => allAt (g := g96) w hS⟩) rfl (u8s_one _) (by omega) (.none rfl) rfl rfl ?_
                intro ad97 c97 E97 hV97 hr97
                refine WL.val (v_assign rfl rfl) (.none rfl) rfl rfl ?_
                refine WL.val (v_assign rfl rfl) (.none rfl) rfl rfl ?_
                refine WL.nil ?_
                refine WE.then_n ?_
                refine WC.ret ?_
                refine WE.then_ret ?_
                refine WE.ret2 (P := Tryd.prog) (.inl rfl) Tryd.results50 rfl rfl ?_
                have hc : openC m = 0 := (by
                  unfold openC
                  rw [hb, hall, if_neg (show ¬ 253 < (capsE m.caps).length by rw [← hy']; omega)]; rfl)
                rw [← u8s_app] at hV97
                have hkl := hV97.toB
                rw [hkl] at hV97 ⊢
                exact fun w' h => ResB.good hc hV97 h (by unfold openB; rw [if_pos (by rw [← hy']; omega)])
              · -- 94F
                refine WL.nil ?_
                refine WE.then_n ?_
                refine WC.cond_f rfl ?_
                refine WC.skip ?_
                refine WE.then_n ?_
                refine WC.seq ?_
                refine WC.region ?_
                refine WL.val (v_move rfl rfl) (.none rfl) rfl rfl ?_
                refine WL.val (v_move rfl rfl) (.none rfl) rfl rfl ?_
                refine WL.val (v_len_slice rfl rfl Tryd.underlying22) (.none rfl) rfl rfl ?_
                refine WL.val (v_add rfl rfl rfl (show _ = ((2 + ys.length : Nat) : Int) from (w_i64 (by omega) (by omega)).trans (by omega))) (.none rfl) rfl rfl ?_
                refine WL.val (v_conv rfl rfl Tryd.underlying5 Tryd.underlying3 (w_u8m _)) (.none rfl) rfl rfl ?_
                refine WL.val (v_move rfl rfl) (.none rfl) rfl rfl ?_
                refine WL.val (v_len_slice rfl rfl Tryd.underlying22) (.none rfl) rfl rfl ?_
                refine WL.val (v_conv rfl rfl Tryd.underlying5 Tryd.underlying3 (w_u8m _)) (.none rfl) rfl rfl ?_
                refine WL.buildSlice rfl rfl Tryd.underlying22 sz_5 zero_5 rfl (by decide) rfl (.none rfl) rfl rfl ?_
                intro g106 hg106
                refine WL.as (L' := .row g106 (u8s [((2 + ys.length : Nat) : Int) % 256, 2, (ys.length : Int) % 256]) :: (E91 ++ (E ++ [.row g1 m.cells]))) rfl ?_
                refine WL.to (L' := E91 ++ (.row g106 (u8s [((2 + ys.length : Nat) : Int) % 256, 2, (ys.length : Int) % 256]) :: (E ++ [.row g1 m.cells]))) (fun w hS => hS.front [_]) ?_
                refine WL.appendL rfl rfl rfl Tryd.underlying22 Tryd.underlying22 sz_5 by_5 zero_5 rfl rfl hV91 (new := u8s [((2 + ys.length : Nat) : Int) % 256, 2, (ys.length : Int) % 256]) (fun _ => ⟨g106, 0, rfl, fun w hS => allAt (g := g106) w hS⟩) rfl (u8s_one _) (by omega) (.none rfl) rfl rfl ?_
                intro ad107 c107 E107 hV107 hr107
                refine WL.val (v_assign rfl rfl) (.none rfl) rfl rfl ?_
                refine WL.nil ?_
                refine WE.then_n ?_
                refine WC.seq ?_
                refine WC.region ?_
                refine WL.val (v_move rfl rfl) (.none rfl) rfl rfl ?_
                refine WL.val (v_move rfl rfl) (.none rfl) rfl rfl ?_
                refine WL.appendL rfl rfl rfl Tryd.underlying22 Tryd.underlying22 sz_5 by_5 zero_5 rfl rfl hV107 (new := u8s ys) (fun h => by obtain ⟨b', o', e, hr'⟩ := hV.src (L := E107 ++ (.row g106 (u8s [((2 + ys.length : Nat) : Int) % 256, 2, (ys.length : Int) % 256]) :: (E ++ [.row g1 m.cells]))) (fun e he => List.mem_append_right _ (.tail _ (List.mem_append_left _ he))) (by rw [u8s_len]; exact h); exact ⟨b', o', e, fun w hS => hr' _ _ w hS⟩) (by rw [u8s_len]; omega) (u8s_one _) (by omega) (.none rfl) rfl rfl ?_
                intro ad110 c110 E110 hV110 hr110
                refine WL.val (v_assign rfl rfl) (.none rfl) rfl rfl ?_
                refine WL.val (v_assign rfl rfl) (.none rfl) rfl rfl ?_
                refine WL.nil ?_
                refine WE.then_n ?_
                refine WC.ret ?_
                refine WE.ret2 (P := Tryd.prog) (.inl rfl) Tryd.results50 rfl rfl ?_
                have hc : openC m = 0 := (by
                  unfold openC
                  rw [hb, hall, if_neg (show ¬ 253 < (capsE m.caps).length by rw [← hy']; omega)]; rfl)
                rw [← u8s_app, ← u8s_app] at hV110
                have hkl := hV110.toB
                rw [hkl] at hV110 ⊢
                exact fun w' h => ResB.good hc hV110 h (by unfold openB; rw [if_neg (by rw [← hy']; omega), ← hy', List.append_assoc]; rfl)
          · -- next 5
            refine WL.val (v_load1 rfl rfl one_3 (cellAt rfl)) (.none rfl) rfl rfl ?_
            refine WL.nilR ?_
            refine WR.read (g := 3) [2] (by kernel_rfl) (by kernel_rfl) (by kernel_rfl) (by kernel_rfl) rfl ?_
            refine WQ.val (v_load1 rfl rfl one_3 (cellAt rfl)) (.none rfl) rfl rfl ?_
            refine WQ.nilR ?_
            refine WR.ones (g := 1) [3, 6] (by kernel_rfl) ?_
            refine WL.call rfl rfl ck_54 (.none rfl) rfl rfl ?_
            intro w1 hS
            refine (put2_b (fun _ => False) w0 w1 _ _ _ _ [4] m.asn (Vec.row (k := 1) (s := 1) (c := 1) (cs := u8s [4]) rfl rfl (by omega)) hS (by decide) (by omega) (by omega)).mono ?_
            rintro e w' ⟨ad84, c84, E84, rfl, hV84, hS'⟩
            refine ⟨_, _, rfl, hS', ?_⟩
            refine WL.call rfl rfl ck_54 (.none rfl) rfl rfl ?_
            intro w1 hS
            refine (put2_b (fun _ => False) w0 w1 _ _ _ _ _ m.hold hV84 hS (by rw [List.length_append, numB_len]; decide) (by omega) (by omega)).mono ?_
            rintro e w' ⟨ad87, c87, E87, rfl, hV87, hS'⟩
            refine ⟨_, _, rfl, hS', ?_⟩
            refine WL.nilR ?_
            refine WR.first (g := 0) [7] (by kernel_rfl) (by kernel_rfl) ?_
            refine WP.val (v_assign rfl rfl) (.none rfl) rfl rfl ?_
            refine WP.nil ?_
            refine WR.done (by kernel_rfl) ?_
            refine WE.then_n ?_
            refine WC.seq ?_
            refine WC.region ?_
            refine WL.val (v_move rfl rfl) (.none rfl) rfl rfl ?_
            refine WL.val (v_fieldAddr0 rfl rfl fld_43_3) (.none rfl) rfl rfl ?_
            refine WL.val (v_load1 rfl rfl one_34 (cellAt rfl)) (.none rfl) rfl rfl ?_
            refine WL.call rfl rfl ck_70 (.none rfl) rfl rfl ?_
            intro w1 hS
            refine (putAddr_c (fun _ => False) w0 w1 _ _ _ _ _ m.id 4 hV87 hS (by rw [List.length_append, List.length_append, numB_len, numB_len]; decide) (by decide)).mono ?_
            rintro e w' ⟨ad91, c91, E91, rfl, hV91, hS'⟩
            refine ⟨_, _, rfl, hS', ?_⟩
            have h91 : ([4] ++ numB m.asn 2 ++ numB m.hold 2 ++ addrB m.id 4).length = 9 := (by rw [List.length_append, List.length_append, List.length_append, numB_len, numB_len, addrB_len _ (by decide)]; rfl)
            refine WL.val (v_assign rfl rfl) (.none rfl) rfl rfl ?_
            refine WL.nil ?_
            refine WE.then_n ?_
            refine WC.seq ?_
            refine WC.seq ?_
            refine WC.region ?_
            refine WL.val (v_move rfl rfl) (.none rfl) rfl rfl ?_
            refine WL.val (v_len_slice rfl rfl Tryd.underlying22) (.none rfl) rfl rfl ?_
            refine WL.test (v_eql rfl rfl rfl) (.none rfl) rfl rfl (fun h94 => ?_) (fun h94 => ?_)
            · -- 94T
              refine WL.nil ?_
              refine WE.then_n ?_
              refine WC.cond_t rfl ?_
              refine WC.seq ?_
              refine WC.region ?_
              refine WL.val (v_move rfl rfl) (.none rfl) rfl rfl ?_
              refine WL.buildSlice rfl rfl Tryd.underlying22 sz_5 zero_5 rfl (by decide) rfl (.none rfl) rfl rfl ?_
              intro g96 hg96
              refine WL.as (L' := .row g96 (u8s [0]) :: (E91 ++ (E ++ [.row g1 m.cells]))) rfl ?_
              refine WL.to (L' := E91 ++ (.row g96 (u8s [0]) :: (E ++ [.row g1 m.cells]))) (fun w hS => hS.front [_]) ?_
              refine WL.appendL rfl rfl rfl Tryd.underlying22 Tryd.underlying22 sz_5 by_5 zero_5 rfl rfl hV91 (new := u8s [0]) (fun _ => ⟨g96, 0, rfl, fun w hS => allAt (g := g96) w hS⟩) rfl (u8s_one _) (by omega) (.none rfl) rfl rfl ?_
              intro ad97 c97 E97 hV97 hr97
              refine WL.val (v_assign rfl rfl) (.none rfl) rfl rfl ?_
              refine WL.val (v_assign rfl rfl) (.none rfl) rfl rfl ?_
              refine WL.nil ?_
              refine WE.then_n ?_
              refine WC.ret ?_
              refine WE.then_ret ?_
              refine WE.ret2 (P := Tryd.prog) (.inl rfl) Tryd.results50 rfl rfl ?_
              have hc : openC m = 0 := (by
                unfold openC
                rw [hb, hall, if_neg (show ¬ 253 < (capsE m.caps).length by rw [← hy']; omega)]; rfl)
              rw [← u8s_app] at hV97
              have hkl := hV97.toB
              rw [hkl] at hV97 ⊢
              exact fun w' h => ResB.good hc hV97 h (by unfold openB; rw [if_pos (by rw [← hy']; omega)])
            · -- 94F
              refine WL.nil ?_
              refine WE.then_n ?_
              refine WC.cond_f rfl ?_
              refine WC.skip ?_
              refine WE.then_n ?_
              refine WC.seq ?_
              refine WC.region ?_
              refine WL.val (v_move rfl rfl) (.none rfl) rfl rfl ?_
              refine WL.val (v_move rfl rfl) (.none rfl) rfl rfl ?_
              refine WL.val (v_len_slice rfl rfl Tryd.underlying22) (.none rfl) rfl rfl ?_
              refine WL.val (v_add rfl rfl rfl (show _ = ((2 + ys.length : Nat) : Int) from (w_i64 (by omega) (by omega)).trans (by omega))) (.none rfl) rfl rfl ?_
              refine WL.val (v_conv rfl rfl Tryd.underlying5 Tryd.underlying3 (w_u8m _)) (.none rfl) rfl rfl ?_
              refine WL.val (v_move rfl rfl) (.none rfl) rfl rfl ?_
              refine WL.val (v_len_slice rfl rfl Tryd.underlying22) (.none rfl) rfl rfl ?_
              refine WL.val (v_conv rfl rfl Tryd.underlying5 Tryd.underlying3 (w_u8m _)) (.none rfl) rfl rfl ?_
              refine WL.buildSlice rfl rfl Tryd.underlying22 sz_5 zero_5 rfl (by decide) rfl (.none rfl) rfl rfl ?_
              intro g106 hg106
              refine WL.as (L' := .row g106 (u8s [((2 + ys.length : Nat) : Int) % 256, 2, (ys.length : Int) % 256]) :: (E91 ++ (E ++ [.row g1 m.cells]))) rfl ?_
              refine WL.to (L' := E91 ++ (.row g106 (u8s [((2 + ys.length : Nat) : Int) % 256, 2, (ys.length : Int) % 256]) :: (E ++ [.row g1 m.cells]))) (fun w hS => hS.front [_]) ?_
              refine WL.appendL rfl rfl rfl Tryd.underlying22 Tryd.underlying22 sz_5 by_5 zero_5 rfl rfl hV91 (new := u8s [((2 + ys.length : Nat) : Int) % 256, 2, (ys.length : Int) % 256]) (fun _ => ⟨g106, 0, rfl, fun w hS => allAt (g := g106) w hS⟩) rfl (u8s_one _) (by omega) (.none rfl) rfl rfl ?_
              intro ad107 c107 E107 hV107 hr107
              refine WL.val (v_assign rfl rfl) (.none rfl) rfl rfl ?_
              refine WL.nil ?_
              refine WE.then_n ?_
              refine WC.seq ?_
              refine WC.region ?_
              refine WL.val (v_move rfl rfl) (.none rfl) rfl rfl ?_
              refine WL.val (v_move rfl rfl) (.none rfl) rfl rfl ?_
              refine WL.appendL rfl rfl rfl Tryd.underlying22 Tryd.underlying22 sz_5 by_5 zero_5 rfl rfl hV107 (new := u8s ys) (fun h => by obtain ⟨b', o', e, hr'⟩ := hV.src (L := E107 ++ (.row g106 (u8s [((2 + ys.length : Nat) : Int) % 256, 2, (ys.length : Int) % 256]) :: (E ++ [.row g1 m.cells]))) (fun e he => List.mem_append_right _ (.tail _ (List.mem_append_left _ he))) (by rw [u8s_len]; exact h); exact ⟨b', o', e, fun w hS => hr' _ _ w hS⟩) (by rw [u8s_len]; omega) (u8s_one _) (by omega) (.none rfl) rfl rfl ?_
              intro ad110 c110 E110 hV110 hr110
              refine WL.val (v_assign rfl rfl) (.none rfl) rfl rfl ?_
              refine WL.val (v_assign rfl rfl) (.none rfl) rfl rfl ?_
              refine WL.nil ?_
              refine WE.then_n ?_
              refine WC.ret ?_
              refine WE.ret2 (P := Tryd.prog) (.inl rfl) Tryd.results50 rfl rfl ?_
              have hc : openC m = 0 := (by
                unfold openC
                rw [hb, hall, if_neg (show ¬ 253 < (capsE m.caps).length by rw [← hy']; omega)]; rfl)
              rw [← u8s_app, ← u8s_app] at hV110
              have hkl := hV110.toB
              rw [hkl] at hV110 ⊢
              exact fun w' h => ResB.good hc hV110 h (by unfold openB; rw [if_neg (by rw [← hy']; omega), ← hy', List.append_assoc]; rfl)
        · -- next 2
          refine WL.val (v_load1 rfl rfl one_3 (cellAt rfl)) (.none rfl) rfl rfl ?_
          refine WL.nilR ?_
          refine WR.each (g := 4) [0, 5] (by kernel_rfl) (by decide) ?_
          refine ⟨?_, ?_⟩
          · -- next 0
            refine WL.buildSlice rfl rfl Tryd.underlying22 sz_5 zero_5 rfl (by decide) rfl (.none rfl) rfl rfl ?_
            intro g81 hg81
            refine WL.as (L' := [.row g81 (u8s [4])] ++ (E ++ [.row g1 m.cells])) rfl ?_
            refine WL.nilR ?_
            refine WR.each (g := 3) [3, 5] (by kernel_rfl) (by decide) ?_
            refine ⟨?_, ?_⟩
            · -- next 3
              refine WL.call rfl rfl ck_54 (.none rfl) rfl rfl ?_
              intro w1 hS
              refine (put2_b (fun _ => False) w0 w1 _ _ _ _ [4] m.asn (Vec.row (k := 1) (s := 1) (c := 1) (cs := u8s [4]) rfl rfl (by omega)) hS (by decide) (by omega) (by omega)).mono ?_
              rintro e w' ⟨ad84, c84, E84, rfl, hV84, hS'⟩
              refine ⟨_, _, rfl, hS', ?_⟩
              refine WL.nilR ?_
              refine WR.read (g := 2) [5] (by kernel_rfl) (by kernel_rfl) (by kernel_rfl) (by kernel_rfl) rfl ?_
              refine WQ.val (v_load1 rfl rfl one_3 (cellAt rfl)) (.none rfl) rfl rfl ?_
              refine WQ.nilR ?_
              refine WR.ones (g := 1) [6] (by kernel_rfl) ?_
              refine WL.call rfl rfl ck_54 (.none rfl) rfl rfl ?_
              intro w1 hS
              refine (put2_b (fun _ => False) w0 w1 _ _ _ _ _ m.hold hV84 hS (by rw [List.length_append, numB_len]; decide) (by omega) (by omega)).mono ?_
              rintro e w' ⟨ad87, c87, E87, rfl, hV87, hS'⟩
              refine ⟨_, _, rfl, hS', ?_⟩
              refine WL.nilR ?_
              refine WR.first (g := 0) [7] (by kernel_rfl) (by kernel_rfl) ?_
              refine WP.val (v_assign rfl rfl) (.none rfl) rfl rfl ?_
              refine WP.nil ?_
              refine WR.done (by kernel_rfl) ?_
              refine WE.then_n ?_
              refine WC.seq ?_
              refine WC.region ?_
              refine WL.val (v_move rfl rfl) (.none rfl) rfl rfl ?_
              refine WL.val (v_fieldAddr0 rfl rfl fld_43_3) (.none rfl) rfl rfl ?_
              refine WL.val (v_load1 rfl rfl one_34 (cellAt rfl)) (.none rfl) rfl rfl ?_
              refine WL.call rfl rfl ck_70 (.none rfl) rfl rfl ?_
              intro w1 hS
              refine (putAddr_c (fun _ => False) w0 w1 _ _ _ _ _ m.id 4 hV87 hS (by rw [List.length_append, List.length_append, numB_len, numB_len]; decide) (by decide)).mono ?_
              rintro e w' ⟨ad91, c91, E91, rfl, hV91, hS'⟩
              refine ⟨_, _, rfl, hS', ?_⟩
              have h91 : ([4] ++ numB m.asn 2 ++ numB m.hold 2 ++ addrB m.id 4).length = 9 := (by rw [List.length_append, List.length_append, List.length_append, numB_len, numB_len, addrB_len _ (by decide)]; rfl)
              refine WL.val (v_assign rfl rfl) (.none rfl) rfl rfl ?_
              refine WL.nil ?_
              refine WE.then_n ?_
              refine WC.seq ?_
              refine WC.seq ?_
              refine WC.region ?_
              refine WL.val (v_move rfl rfl) (.none rfl) rfl rfl ?_
              refine WL.val (v_len_slice rfl rfl Tryd.underlying22) (.none rfl) rfl rfl ?_
              refine WL.test (v_eql rfl rfl rfl) (.none rfl) rfl rfl (fun h94 => ?_) (fun h94 => ?_)
              · -- 94T
                refine WL.nil ?_
                refine WE.then_n ?_
                refine WC.cond_t rfl ?_
                refine WC.seq ?_
                refine WC.region ?_
                refine WL.val (v_move rfl rfl) (.none rfl) rfl rfl ?_
                refine WL.buildSlice rfl rfl Tryd.underlying22 sz_5 zero_5 rfl (by decide) rfl (.none rfl) rfl rfl ?_
                intro g96 hg96
                refine WL.as (L' := .row g96 (u8s [0]) :: (E91 ++ (E ++ [.row g1 m.cells]))) rfl ?_
                refine WL.to (L' := E91 ++ (.row g96 (u8s [0]) :: (E ++ [.row g1 m.cells]))) (fun w hS => hS.front [_]) ?_
                refine WL.appendL rfl rfl rfl Tryd.underlying22 Tryd.underlying22 sz_5 by_5 zero_5 rfl rfl hV91 (new := u8s [0]) (fun _ => ⟨g96, 0, rfl, fun w hS => allAt (g := g96) w hS⟩) rfl (u8s_one _) (by omega) (.none rfl) rfl rfl ?_
                intro ad97 c97 E97 hV97 hr97
                refine WL.val (v_assign rfl rfl) (.none rfl) rfl rfl ?_
                refine WL.val (v_assign rfl rfl) (.none rfl) rfl rfl ?_
                refine WL.nil ?_
                refine WE.then_n ?_
                refine WC.ret ?_
                refine WE.then_ret ?_
                refine WE.ret2 (P := Tryd.prog) (.inl rfl) Tryd.results50 rfl rfl ?_
                have hc : openC m = 0 := (by
                  unfold openC
                  rw [hb, hall, if_neg (show ¬ 253 < (capsE m.caps).length by rw [← hy']; omega)]; rfl)
                rw [← u8s_app] at hV97
                have hkl := hV97.toB
                rw [hkl] at hV97 ⊢
                exact fun w' h => ResB.good hc hV97 h (by unfold openB; rw [if_pos (by rw [← hy']; omega)])
              · -- 94F
                refine WL.nil ?_
                refine WE.then_n ?_
                refine WC.cond_f rfl ?_
                refine WC.skip ?_
                refine WE.then_n ?_
                refine WC.seq ?_
                refine WC.region ?_
                refine WL.val (v_move rfl rfl) (.none rfl) rfl rfl ?_
                refine WL.val (v_move rfl rfl) (.none rfl) rfl rfl ?_
                refine WL.val (v_len_slice rfl rfl Tryd.underlying22) (.none rfl) rfl rfl ?_
                refine WL.val (v_add rfl rfl rfl (show _ = ((2 + ys.length : Nat) : Int) from (w_i64 (by omega) (by omega)).trans (by omega))) (.none rfl) rfl rfl ?_
                refine WL.val (v_conv rfl rfl Tryd.underlying5 Tryd.underlying3 (w_u8m _)) (.none rfl) rfl rfl ?_
                refine WL.val (v_move rfl rfl) (.none rfl) rfl rfl ?_
                refine WL.val (v_len_slice rfl rfl Tryd.underlying22) (.none rfl) rfl rfl ?_
                refine WL.val (v_conv rfl rfl Tryd.underlying5 Tryd.underlying3 (w_u8m _)) (.none rfl) rfl rfl ?_
                refine WL.buildSlice rfl rfl Tryd.underlying22 sz_5 zero_5 rfl (by decide) rfl (.none rfl) rfl rfl ?_
                intro g106 hg106
                refine WL.as (L' := .row g106 (u8s [((2 + ys.length : Nat) : Int) % 256, 2, (ys.length : Int) % 256]) :: (E91 ++ (E ++ [.row g1 m.cells]))) rfl ?_
                refine WL.to (L' := E91 ++ (.row g106 (u8s [((2 + ys.length : Nat) : Int) % 256, 2, (ys.length : Int) % 256]) :: (E ++ [.row g1 m.cells]))) (fun w hS => hS.front [_]) ?_
                refine WL.appendL rfl rfl rfl Tryd.underlying22 Tryd.underlying22 sz_5 by_5 zero_5 rfl rfl hV91 (new := u8s [((2 + ys.length : Nat) : Int) % 256, 2, (ys.length : Int) % 256]) (fun _ => ⟨g106, 0, rfl, fun w hS => allAt (g := g106) w hS⟩) rfl (u8s_one _) (by omega) (.none rfl) rfl rfl ?_
                intro ad107 c107 E107 hV107 hr107
                refine WL.val (v_assign rfl rfl) (.none rfl) rfl rfl ?_
                refine WL.nil ?_
                refine WE.then_n ?_
                refine WC.seq ?_
                refine WC.region ?_
                refine WL.val (v_move rfl rfl) (.none rfl) rfl rfl ?_
                refine WL.val (v_move rfl rfl) (.none rfl) rfl rfl ?_
                refine WL.appendL rfl rfl rfl Tryd.underlying22 Tryd.underlying22 sz_5 by_5 zero_5 rfl rfl hV107 (new := u8s ys) (fun h => by obtain ⟨b', o', e, hr'⟩ := hV.src (L := E107 ++ (.row g106 (u8s [((2 + ys.length : Nat) : Int) % 256, 2, (ys.length : Int) % 256]) :: (E ++ [.row g1 m.cells]))) (fun e he => List.mem_append_right _ (.tail _ (List.mem_append_left _ he))) (by rw [u8s_len]; exact h); exact ⟨b', o', e, fun w hS => hr' _ _ w hS⟩) (by rw [u8s_len]; omega) (u8s_one _) (by omega) (.none rfl) rfl rfl ?_
                intro ad110 c110 E110 hV110 hr110
                refine WL.val (v_assign rfl rfl) (.none rfl) rfl rfl ?_
                refine WL.val (v_assign rfl rfl) (.none rfl) rfl rfl ?_
                refine WL.nil ?_
                refine WE.then_n ?_
                refine WC.ret ?_
                refine WE.ret2 (P := Tryd.prog) (.inl rfl) Tryd.results50 rfl rfl ?_
                have hc : openC m = 0 := (by
                  unfold openC
                  rw [hb, hall, if_neg (show ¬ 253 < (capsE m.caps).length by rw [← hy']; omega)]; rfl)
                rw [← u8s_app, ← u8s_app] at hV110
                have hkl := hV110.toB
                rw [hkl] at hV110 ⊢
                exact fun w' h => ResB.good hc hV110 h (by unfold openB; rw [if_neg (by rw [← hy']; omega), ← hy', List.append_assoc]; rfl)
            · -- next 5
              refine WL.val (v_load1 rfl rfl one_3 (cellAt rfl)) (.none rfl) rfl rfl ?_
              refine WL.nilR ?_
              refine WR.ones (g := 1) [3, 6] (by kernel_rfl) ?_
              refine WL.call rfl rfl ck_54 (.none rfl) rfl rfl ?_
              intro w1 hS
              refine (put2_b (fun _ => False) w0 w1 _ _ _ _ [4] m.asn (Vec.row (k := 1) (s := 1) (c := 1) (cs := u8s [4]) rfl rfl (by omega)) hS (by decide) (by omega) (by omega)).mono ?_
              rintro e w' ⟨ad84, c84, E84, rfl, hV84, hS'⟩
              refine ⟨_, _, rfl, hS', ?_⟩
              refine WL.call rfl rfl ck_54 (.none rfl) rfl rfl ?_
              intro w1 hS
              refine (put2_b (fun _ => False) w0 w1 _ _ _ _ _ m.hold hV84 hS (by rw [List.length_append, numB_len]; decide) (by omega) (by omega)).mono ?_
              rintro e w' ⟨ad87, c87, E87, rfl, hV87, hS'⟩
              refine ⟨_, _, rfl, hS', ?_⟩
              refine WL.nilR ?_
              refine WR.first (g := 0) [7] (by kernel_rfl) (by kernel_rfl) ?_
              refine WP.val (v_assign rfl rfl) (.none rfl) rfl rfl ?_
              refine WP.nil ?_
              refine WR.done (by kernel_rfl) ?_
              refine WE.then_n ?_
              refine WC.seq ?_
              refine WC.region ?_
              refine WL.val (v_move rfl rfl) (.none rfl) rfl rfl ?_
              refine WL.val (v_fieldAddr0 rfl rfl fld_43_3) (.none rfl) rfl rfl ?_
              refine WL.val (v_load1 rfl rfl one_34 (cellAt rfl)) (.none rfl) rfl rfl ?_
              refine WL.call rfl rfl ck_70 (.none rfl) rfl rfl ?_
              intro w1 hS
              refine (putAddr_c (fun _ => False) w0 w1 _ _ _ _ _ m.id 4 hV87 hS (by rw [List.length_append, List.length_append, numB_len, numB_len]; decide) (by decide)).mono ?_
              rintro e w' ⟨ad91, c91, E91, rfl, hV91, hS'⟩
              refine ⟨_, _, rfl, hS', ?_⟩
              have h91 : ([4] ++ numB m.asn 2 ++ numB m.hold 2 ++ addrB m.id 4).length = 9 := (by rw [List.length_append, List.length_append, List.length_append, numB_len, numB_len, addrB_len _ (by decide)]; rfl)
              refine WL.val (v_assign rfl rfl) (.none rfl) rfl rfl ?_
              refine WL.nil ?_
              refine WE.then_n ?_
              refine WC.seq ?_
              refine WC.seq ?_
              refine WC.region ?_
              refine WL.val (v_move rfl rfl) (.none rfl) rfl rfl ?_
              refine WL.val (v_len_slice rfl rfl Tryd.underlying22) (.none rfl) rfl rfl ?_
              refine WL.test (v_eql rfl rfl rfl) (.none rfl) rfl rfl (fun h94 => ?_) (fun h94 => ?_)
              · -- 94T
                refine WL.nil ?_
                refine WE.then_n ?_
                refine WC.cond_t rfl ?_
                refine WC.seq ?_
                refine WC.region ?_
                refine WL.val (v_move rfl rfl) (.none rfl) rfl rfl ?_
                refine WL.buildSlice rfl rfl Tryd.underlying22 sz_5 zero_5 rfl (by decide) rfl (.none rfl) rfl rfl ?_
                intro g96 hg96
                refine WL.as (L' := .row g96 (u8s [0]) :: (E91 ++ (E ++ [.row g1 m.cells]))) rfl ?_
                refine WL.to (L' := E91 ++ (.row g96 (u8s [0]) :: (E ++ [.row g1 m.cells]))) (fun w hS => hS.front [_]) ?_
                refine WL.appendL rfl rfl rfl Tryd.underlying22 Tryd.underlying22 sz_5 by_5 zero_5 rfl rfl hV91 (new := u8s [0]) (fun _ => ⟨g96, 0, rfl, fun w hS => allAt (g := g96) w hS⟩) rfl (u8s_one _) (by omega) (.none rfl) rfl rfl ?_
                intro ad97 c97 E97 hV97 hr97
                refine WL.val (v_assign rfl rfl) (.none rfl) rfl rfl ?_
                refine WL.val (v_assign rfl rfl) (.none rfl) rfl rfl ?_
                refine WL.nil ?_
                refine WE.then_n ?_
                refine WC.ret ?_
                refine WE.then_ret ?_
                refine WE.ret2 (P := Tryd.prog) (.inl rfl) Tryd.results50 rfl rfl ?_
                have hc : openC m = 0 := (by
                  unfold openC
                  rw [hb, hall, if_neg (show ¬ 253 < (capsE m.caps).length by rw [← hy']; omega)]; rfl)
                rw [← u8s_app] at hV97
                have hkl := hV97.toB
                rw [hkl] at hV97 ⊢
                exact fun w' h => ResB.good hc hV97 h (by unfold openB; rw [if_pos (by rw [← hy']; omega)])
              · -- 94F
                refine WL.nil ?_
                refine WE.then_n ?_
                refine WC.cond_f rfl ?_
                refine WC.skip ?_
                refine WE.then_n ?_
                refine WC.seq ?_
                refine WC.region ?_
                refine WL.val (v_move rfl rfl) (.none rfl) rfl rfl ?_
                refine WL.val (v_move rfl rfl) (.none rfl) rfl rfl ?_
                refine WL.val (v_len_slice rfl rfl Tryd.underlying22) (.none rfl) rfl rfl ?_
                refine WL.val (v_add rfl rfl rfl (show _ = ((2 + ys.length : Nat) : Int) from (w_i64 (by omega) (by omega)).trans (by omega))) (.none rfl) rfl rfl ?_
                refine WL.val (v_conv rfl rfl Tryd.underlying5 Tryd.underlying3 (w_u8m _)) (.none rfl) rfl rfl ?_
                refine WL.val (v_move rfl rfl) (.none rfl) rfl rfl ?_
                refine WL.val (v_len_slice rfl rfl Tryd.underlying22) (.none rfl) rfl rfl ?_
                refine WL.val (v_conv rfl rfl Tryd.underlying5 Tryd.underlying3 (w_u8m _)) (.none rfl) rfl rfl ?_
                refine WL.buildSlice rfl rfl Tryd.underlying22 sz_5 zero_5 rfl (by decide) rfl (.none rfl) rfl rfl ?_
                intro g106 hg106
                refine WL.as (L' := .row g106 (u8s [((2 + ys.length : Nat) : Int) % 256, 2, (ys.length : Int) % 256]) :: (E91 ++ (E ++ [.row g1 m.cells]))) rfl ?_
                refine WL.to (L' := E91 ++ (.row g106 (u8s [((2 + ys.length : Nat) : Int) % 256, 2, (ys.length : Int) % 256]) :: (E ++ [.row g1 m.cells]))) (fun w hS => hS.front [_]) ?_
                refine WL.appendL rfl rfl rfl Tryd.underlying22 Tryd.underlying22 sz_5 by_5 zero_5 rfl rfl hV91 (new := u8s [((2 + ys.length : Nat) : Int) % 256, 2, (ys.length : Int) % 256]) (fun _ => ⟨g106, 0, rfl, fun w hS => allAt (g := g106) w hS⟩) rfl (u8s_one _) (by omega) (.none rfl) rfl rfl ?_
                intro ad107 c107 E107 hV107 hr107
                refine WL.val (v_assign rfl rfl) (.none rfl) rfl rfl ?_
                refine WL.nil ?_
                refine WE.then_n ?_
                refine WC.seq ?_
                refine WC.region ?_
                refine WL.val (v_move rfl rfl) (.none rfl) rfl rfl ?_
                refine WL.val (v_move rfl rfl) (.none rfl) rfl rfl ?_
                refine WL.appendL rfl rfl rfl Tryd.underlying22 Tryd.underlying22 sz_5 by_5 zero_5 rfl rfl hV107 (new := u8s ys) (fun h => by obtain ⟨b', o', e, hr'⟩ := hV.src (L := E107 ++ (.row g106 (u8s [((2 + ys.length : Nat) : Int) % 256, 2, (ys.length : Int) % 256]) :: (E ++ [.row g1 m.cells]))) (fun e he => List.mem_append_right _ (.tail _ (List.mem_append_left _ he))) (by rw [u8s_len]; exact h); exact ⟨b', o', e, fun w hS => hr' _ _ w hS⟩) (by rw [u8s_len]; omega) (u8s_one _) (by omega) (.none rfl) rfl rfl ?_
                intro ad110 c110 E110 hV110 hr110
                refine WL.val (v_assign rfl rfl) (.none rfl) rfl rfl ?_
                refine WL.val (v_assign rfl rfl) (.none rfl) rfl rfl ?_
                refine WL.nil ?_
                refine WE.then_n ?_
                refine WC.ret ?_
                refine WE.ret2 (P := Tryd.prog) (.inl rfl) Tryd.results50 rfl rfl ?_
                have hc : openC m = 0 := (by
                  unfold openC
                  rw [hb, hall, if_neg (show ¬ 253 < (capsE m.caps).length by rw [← hy']; omega)]; rfl)
                rw [← u8s_app, ← u8s_app] at hV110
                have hkl := hV110.toB
                rw [hkl] at hV110 ⊢
                exact fun w' h => ResB.good hc hV110 h (by unfold openB; rw [if_neg (by rw [← hy']; omega), ← hy', List.append_assoc]; rfl)
          · -- next 5
            refine WL.val (v_load1 rfl rfl one_3 (cellAt rfl)) (.none rfl) rfl rfl ?_
            refine WL.nilR ?_
            refine WR.ones (g := 1) [0, 3, 6] (by kernel_rfl) ?_
            refine WL.buildSlice rfl rfl Tryd.underlying22 sz_5 zero_5 rfl (by decide) rfl (.none rfl) rfl rfl ?_
            intro g81 hg81
            refine WL.as (L' := [.row g81 (u8s [4])] ++ (E ++ [.row g1 m.cells])) rfl ?_
            refine WL.call rfl rfl ck_54 (.none rfl) rfl rfl ?_
            intro w1 hS
            refine (put2_b (fun _ => False) w0 w1 _ _ _ _ [4] m.asn (Vec.row (k := 1) (s := 1) (c := 1) (cs := u8s [4]) rfl rfl (by omega)) hS (by decide) (by omega) (by omega)).mono ?_
            rintro e w' ⟨ad84, c84, E84, rfl, hV84, hS'⟩
            refine ⟨_, _, rfl, hS', ?_⟩
            refine WL.call rfl rfl ck_54 (.none rfl) rfl rfl ?_
            intro w1 hS
            refine (put2_b (fun _ => False) w0 w1 _ _ _ _ _ m.hold hV84 hS (by rw [List.length_append, numB_len]; decide) (by omega) (by omega)).mono ?_
            rintro e w' ⟨ad87, c87, E87, rfl, hV87, hS'⟩
            refine ⟨_, _, rfl, hS', ?_⟩
            refine WL.nilR ?_
            refine WR.first (g := 0) [7] (by kernel_rfl) (by kernel_rfl) ?_
            refine WP.val (v_assign rfl rfl) (.none rfl) rfl rfl ?_
            refine WP.nil ?_
            refine WR.done (by kernel_rfl) ?_
            refine WE.then_n ?_
            refine WC.seq ?_
            refine WC.region ?_
            refine WL.val (v_move rfl rfl) (.none rfl) rfl rfl ?_
            refine WL.val (v_fieldAddr0 rfl rfl fld_43_3) (.none rfl) rfl rfl ?_
            refine WL.val (v_load1 rfl rfl one_34 (cellAt rfl)) (.none rfl) rfl rfl ?_
            refine WL.call rfl rfl ck_70 (.none rfl) rfl rfl ?_
            intro w1 hS
            refine (putAddr_c (fun _ => False) w0 w1 _ _ _ _ _ m.id 4 hV87 hS (by rw [List.length_append, List.length_append, numB_len, numB_len]; decide) (by decide)).mono ?_
            rintro e w' ⟨ad91, c91, E91, rfl, hV91, hS'⟩
            refine ⟨_, _, rfl, hS', ?_⟩
            have h91 : ([4] ++ numB m.asn 2 ++ numB m.hold 2 ++ addrB m.id 4).length = 9 := (by rw [List.length_append, List.length_append, List.length_append, numB_len, numB_len, addrB_len _ (by decide)]; rfl)
            refine WL.val (v_assign rfl rfl) (.none rfl) rfl rfl ?_
            refine WL.nil ?_
            refine WE.then_n ?_
            refine WC.seq ?_
            refine WC.seq ?_
            refine WC.region ?_
            refine WL.val (v_move rfl rfl) (.none rfl) rfl rfl ?_
            refine WL.val (v_len_slice rfl rfl Tryd.underlying22) (.none rfl) rfl rfl ?_
            refine WL.test (v_eql rfl rfl rfl) (.none rfl) rfl rfl (fun h94 => ?_) (fun h94 => ?_)
            · -- 94T
              refine WL.nil ?_
              refine WE.then_n ?_
              refine WC.cond_t rfl ?_
              refine WC.seq ?_
              refine WC.region ?_
              refine WL.val (v_move rfl rfl) (.none rfl) rfl rfl ?_
              refine WL.buildSlice rfl rfl Tryd.underlying22 sz_5 zero_5 rfl (by decide) rfl (.none rfl) rfl rfl ?_
              intro g96 hg96
              refine WL.as (L' := .row g96 (u8s [0]) :: (E91 ++ (E ++ [.row g1 m.cells]))) rfl ?_
              refine WL.to (L' := E91 ++ (.row g96 (u8s [0]) :: (E ++ [.row g1 m.cells]))) (fun w hS => hS.front [_]) ?_
              refine WL.appendL rfl rfl rfl Tryd.underlying22 Tryd.underlying22 sz_5 by_5 zero_5 rfl rfl hV91 (new := u8s [0]) (fun _ => ⟨g96, 0, rfl, fun w hS => allAt (g := g96) w hS⟩) rfl (u8s_one _) (by omega) (.none rfl) rfl rfl ?_
              intro ad97 c97 E97 hV97 hr97
              refine WL.val (v_assign rfl rfl) (.none rfl) rfl rfl ?_
              refine WL.val (v_assign rfl rfl) (.none rfl) rfl rfl ?_
              refine WL.nil ?_
              refine WE.then_n ?_
              refine WC.ret ?_
              refine WE.then_ret ?_
              refine WE.ret2 (P := Tryd.prog) (.inl rfl) Tryd.results50 rfl rfl ?_
              have hc : openC m = 0 := (by
                unfold openC
                rw [hb, hall, if_neg (show ¬ 253 < (capsE m.caps).length by rw [← hy']; omega)]; rfl)
              rw [← u8s_app] at hV97
              have hkl := hV97.toB
              rw [hkl] at hV97 ⊢
              exact fun w' h => ResB.good hc hV97 h (by unfold openB; rw [if_pos (by rw [← hy']; omega)])
            · -- 94F
              refine WL.nil ?_
              refine WE.then_n ?_
              refine WC.cond_f rfl ?_
              refine WC.skip ?_
              refine WE.then_n ?_
              refine WC.seq ?_
              refine WC.region ?_
              refine WL.val (v_move rfl rfl) (.none rfl) rfl rfl ?_
              refine WL.val (v_move rfl rfl) (.none rfl) rfl rfl ?_
              refine WL.val (v_len_slice rfl rfl Tryd.underlying22) (.none rfl) rfl rfl ?_
              refine WL.val (v_add rfl rfl rfl (show _ = ((2 + ys.length : Nat) : Int) from (w_i64 (by omega) (by omega)).trans (by omega))) (.none rfl) rfl rfl ?_
              refine WL.val (v_conv rfl rfl Tryd.underlying5 Tryd.underlying3 (w_u8m _)) (.none rfl) rfl rfl ?_
              refine WL.val (v_move rfl rfl) (.none rfl) rfl rfl ?_
              refine WL.val (v_len_slice rfl rfl Tryd.underlying22) (.none rfl) rfl rfl ?_
              refine WL.val (v_conv rfl rfl Tryd.underlying5 Tryd.underlying3 (w_u8m _)) (.none rfl) rfl rfl ?_
              refine WL.buildSlice rfl rfl Tryd.underlying22 sz_5 zero_5 rfl (by decide) rfl (.none rfl) rfl rfl ?_
              intro g106 hg106
              refine WL.as (L' := .row g106 (u8s [((2 + ys.length : Nat) : Int) % 256, 2, (ys.length : Int) % 256]) :: (E91 ++ (E ++ [.row g1 m.cells]))) rfl ?_
              refine WL.to (L' := E91 ++ (.row g106 (u8s [((2 + ys.length : Nat) : Int) % 256, 2, (ys.length : Int) % 256]) :: (E ++ [.row g1 m.cells]))) (fun w hS => hS.front [_]) ?_
              refine WL.appendL rfl rfl rfl Tryd.underlying22 Tryd.underlying22 sz_5 by_5 zero_5 rfl rfl hV91 (new := u8s [((2 + ys.length : Nat) : Int) % 256, 2, (ys.length : Int) % 256]) (fun _ => ⟨g106, 0, rfl, fun w hS => allAt (g := g106) w hS⟩) rfl (u8s_one _) (by omega) (.none rfl) rfl rfl ?_
              intro ad107 c107 E107 hV107 hr107
              refine WL.val (v_assign rfl rfl) (.none rfl) rfl rfl ?_
              refine WL.nil ?_
              refine WE.then_n ?_
              refine WC.seq ?_
              refine WC.region ?_
              refine WL.val (v_move rfl rfl) (.none rfl) rfl rfl ?_
              refine WL.val (v_move rfl rfl) (.none rfl) rfl rfl ?_
              refine WL.appendL rfl rfl rfl Tryd.underlying22 Tryd.underlying22 sz_5 by_5 zero_5 rfl rfl hV107 (new := u8s ys) (fun h => by obtain ⟨b', o', e, hr'⟩ := hV.src (L := E107 ++ (.row g106 (u8s [((2 + ys.length : Nat) : Int) % 256, 2, (ys.length : Int) % 256]) :: (E ++ [.row g1 m.cells]))) (fun e he => List.mem_append_right _ (.tail _ (List.mem_append_left _ he))) (by rw [u8s_len]; exact h); exact ⟨b', o', e, fun w hS => hr' _ _ w hS⟩) (by rw [u8s_len]; omega) (u8s_one _) (by omega) (.none rfl) rfl rfl ?_
              intro ad110 c110 E110 hV110 hr110
              refine WL.val (v_assign rfl rfl) (.none rfl) rfl rfl ?_
              refine WL.val (v_assign rfl rfl) (.none rfl) rfl rfl ?_
              refine WL.nil ?_
              refine WE.then_n ?_
              refine WC.ret ?_
              refine WE.ret2 (P := Tryd.prog) (.inl rfl) Tryd.results50 rfl rfl ?_
              have hc : openC m = 0 := (by
                unfold openC
                rw [hb, hall, if_neg (show ¬ 253 < (capsE m.caps).length by rw [← hy']; omega)]; rfl)
              rw [← u8s_app, ← u8s_app] at hV110
              have hkl := hV110.toB
              rw [hkl] at hV110 ⊢
              exact fun w' h => ResB.good hc hV110 h (by unfold openB; rw [if_neg (by rw [← hy']; omega), ← hy', List.append_assoc]; rfl)
        · -- next 5
          refine WL.val (v_load1 rfl rfl one_3 (cellAt rfl)) (.none rfl) rfl rfl ?_
          refine WL.nilR ?_
          refine WR.each (g := 4) [0, 2] (by kernel_rfl) (by decide) ?_
          refine ⟨?_, ?_⟩
          · -- next 0
            refine WL.buildSlice rfl rfl Tryd.underlying22 sz_5 zero_5 rfl (by decide) rfl (.none rfl) rfl rfl ?_
            intro g81 hg81
            refine WL.as (L' := [.row g81 (u8s [4])] ++ (E ++ [.row g1 m.cells])) rfl ?_
            refine WL.nilR ?_
            refine WR.read (g := 3) [2] (by kernel_rfl) (by kernel_rfl) (by kernel_rfl) (by kernel_rfl) rfl ?_
            refine WQ.val (v_load1 rfl rfl one_3 (cellAt rfl)) (.none rfl) rfl rfl ?_
            refine WQ.nilR ?_
            refine WR.ones (g := 1) [3, 6] (by kernel_rfl) ?_
            refine WL.call rfl rfl ck_54 (.none rfl) rfl rfl ?_
            intro w1 hS
            refine (put2_b (fun _ => False) w0 w1 _ _ _ _ [4] m.asn (Vec.row (k := 1) (s := 1) (c := 1) (cs := u8s [4]) rfl rfl (by omega)) hS (by decide) (by omega) (by omega)).mono ?_
            rintro e w' ⟨ad84, c84, E84, rfl, hV84, hS'⟩
            refine ⟨_, _, rfl, hS', ?_⟩
            refine WL.call rfl rfl ck_54 (.none rfl) rfl rfl ?_
            intro w1 hS
            refine (put2_b (fun _ => False) w0 w1 _ _ _ _ _ m.hold hV84 hS (by rw [List.length_append, numB_len]; decide) (by omega) (by omega)).mono ?_
            rintro e w' ⟨ad87, c87, E87, rfl, hV87, hS'⟩
            refine ⟨_, _, rfl, hS', ?_⟩
            refine WL.nilR ?_
            refine WR.first (g := 0) [7] (by kernel_rfl) (by kernel_rfl) ?_
            refine WP.val (v_assign rfl rfl) (.none rfl) rfl rfl ?_
            refine WP.nil ?_
            refine WR.done (by kernel_rfl) ?_
            refine WE.then_n ?_
            refine WC.seq ?_
            refine WC.region ?_
            refine WL.val (v_move rfl rfl) (.none rfl) rfl rfl ?_
            refine WL.val (v_fieldAddr0 rfl rfl fld_43_3) (.none rfl) rfl rfl ?_
            refine WL.val (v_load1 rfl rfl one_34 (cellAt rfl)) (.none rfl) rfl rfl ?_
            refine WL.call rfl rfl ck_70 (.none rfl) rfl rfl ?_
            intro w1 hS
            refine (putAddr_c (fun _ => False) w0 w1 _ _ _ _ _ m.id 4 hV87 hS (by rw [List.length_append, List.length_append, numB_len, numB_len]; decide) (by decide)).mono ?_
            rintro e w' ⟨ad91, c91, E91, rfl, hV91, hS'⟩
            refine ⟨_, _, rfl, hS', ?_⟩
            have h91 : ([4] ++ numB m.asn 2 ++ numB m.hold 2 ++ addrB m.id 4).length = 9 := (by rw [List.length_append, List.length_append, List.length_append, numB_len, numB_len, addrB_len _ (by decide)]; rfl)
            refine WL.val (v_assign rfl rfl) (.none rfl) rfl rfl ?_
            refine WL.nil ?_
            refine WE.then_n ?_
            refine WC.seq ?_
            refine WC.seq ?_
            refine WC.region ?_
            refine WL.val (v_move rfl rfl) (.none rfl) rfl rfl ?_
            refine WL.val (v_len_slice rfl rfl Tryd.underlying22) (.none rfl) rfl rfl ?_
            refine WL.test (v_eql rfl rfl rfl) (.none rfl) rfl rfl (fun h94 => ?_) (fun h94 => ?_)
            · -- 94T
              refine WL.nil ?_
              refine WE.then_n ?_
              refine WC.cond_t rfl ?_
              refine WC.seq ?_
              refine WC.region ?_
              refine WL.val (v_move rfl rfl) (.none rfl) rfl rfl ?_
              refine WL.buildSlice rfl rfl Tryd.underlying22 sz_5 zero_5 rfl (by decide) rfl (.none rfl) rfl rfl ?_
              intro g96 hg96
              refine WL.as (L' := .row g96 (u8s [0]) :: (E91 ++ (E ++ [.row g1 m.cells]))) rfl ?_
              refine WL.to (L' := E91 ++ (.row g96 (u8s [0]) :: (E ++ [.row g1 m.cells]))) (fun w hS => hS.front [_]) ?_
              refine WL.appendL rfl rfl rfl Tryd.underlying22 Tryd.underlying22 sz_5 by_5 zero_5 rfl rfl hV91 (new := u8s [0]) (fun _ => ⟨g96, 0, rfl, fun w hS => allAt (g := g96) w hS⟩) rfl (u8s_one _) (by omega) (.none rfl) rfl rfl ?_
              intro ad97 c97 E97 hV97 hr97
              refine WL.val (v_assign rfl rfl) (.none rfl) rfl rfl ?_
              refine WL.val (v_assign rfl rfl) (.none rfl) rfl rfl ?_
              refine WL.nil ?_
              refine WE.then_n ?_
              refine WC.ret ?_
              refine WE.then_ret ?_
              refine WE.ret2 (P := Tryd.prog) (.inl rfl) Tryd.results50 rfl rfl ?_
              have hc : openC m = 0 := (by
                unfold openC
                rw [hb, hall, if_neg (show ¬ 253 < (capsE m.caps).length by rw [← hy']; omega)]; rfl)
              rw [← u8s_app] at hV97
              have hkl := hV97.toB
              rw [hkl] at hV97 ⊢
              exact fun w' h => ResB.good hc hV97 h (by unfold openB; rw [if_pos (by rw [← hy']; omega)])
            · -- 94F
              refine WL.nil ?_
              refine WE.then_n ?_
              refine WC.cond_f rfl ?_
              refine WC.skip ?_
              refine WE.then_n ?_
              refine WC.seq ?_
              refine WC.region ?_
              refine WL.val (v_move rfl rfl) (.none rfl) rfl rfl ?_
              refine WL.val (v_move rfl rfl) (.none rfl) rfl rfl ?_
              refine WL.val (v_len_slice rfl rfl Tryd.underlying22) (.none rfl) rfl rfl ?_
              refine WL.val (v_add rfl rfl rfl (show _ = ((2 + ys.length : Nat) : Int) from (w_i64 (by omega) (by omega)).trans (by omega))) (.none rfl) rfl rfl ?_
              refine WL.val (v_conv rfl rfl Tryd.underlying5 Tryd.underlying3 (w_u8m _)) (.none rfl) rfl rfl ?_
              refine WL.val (v_move rfl rfl) (.none rfl) rfl rfl ?_
              refine WL.val (v_len_slice rfl rfl Tryd.underlying22) (.none rfl) rfl rfl ?_
              refine WL.val (v_conv rfl rfl Tryd.underlying5 Tryd.underlying3 (w_u8m _)) (.none rfl) rfl rfl ?_
              refine WL.buildSlice rfl rfl Tryd.underlying22 sz_5 zero_5 rfl (by decide) rfl (.none rfl) rfl rfl ?_
              intro g106 hg106
              refine WL.as (L' := .row g106 (u8s [((2 + ys.length : Nat) : Int) % 256, 2, (ys.length : Int) % 256]) :: (E91 ++ (E ++ [.row g1 m.cells]))) rfl ?_
              refine WL.to (L' := E91 ++ (.row g106 (u8s [((2 + ys.length : Nat) : Int) % 256, 2, (ys.length : Int) % 256]) :: (E ++ [.row g1 m.cells]))) (fun w hS => hS.front [_]) ?_
              refine WL.appendL rfl rfl rfl Tryd.underlying22 Tryd.underlying22 sz_5 by_5 zero_5 rfl rfl hV91 (new := u8s [((2 + ys.length : Nat) : Int) % 256, 2, (ys.length : Int) % 256]) (fun _ => ⟨g106, 0, rfl, fun w hS => allAt (g := g106) w hS⟩) rfl (u8s_one _) (by omega) (.none rfl) rfl rfl ?_
              intro ad107 c107 E107 hV107 hr107
              refine WL.val (v_assign rfl rfl) (.none rfl) rfl rfl ?_
              refine WL.nil ?_
              refine WE.then_n ?_
              refine WC.seq ?_
              refine WC.region ?_
              refine WL.val (v_move rfl rfl) (.none rfl) rfl rfl ?_
              refine WL.val (v_move rfl rfl) (.none rfl) rfl rfl ?_
              refine WL.appendL rfl rfl rfl Tryd.underlying22 Tryd.underlying22 sz_5 by_5 zero_5 rfl rfl hV107 (new := u8s ys) (fun h => by obtain ⟨b', o', e, hr'⟩ := hV.src (L := E107 ++ (.row g106 (u8s [((2 + ys.length : Nat) : Int) % 256, 2, (ys.length : Int) % 256]) :: (E ++ [.row g1 m.cells]))) (fun e he => List.mem_append_right _ (.tail _ (List.mem_append_left _ he))) (by rw [u8s_len]; exact h); exact ⟨b', o', e, fun w hS => hr' _ _ w hS⟩) (by rw [u8s_len]; omega) (u8s_one _) (by omega) (.none rfl) rfl rfl ?_
              intro ad110 c110 E110 hV110 hr110
              refine WL.val (v_assign rfl rfl) (.none rfl) rfl rfl ?_
              refine WL.val (v_assign rfl rfl) (.none rfl) rfl rfl ?_
              refine WL.nil ?_
              refine WE.then_n ?_
              refine WC.ret ?_
              refine WE.ret2 (P := Tryd.prog) (.inl rfl) Tryd.results50 rfl rfl ?_
              have hc : openC m = 0 := (by
                unfold openC
                rw [hb, hall, if_neg (show ¬ 253 < (capsE m.caps).length by rw [← hy']; omega)]; rfl)
              rw [← u8s_app, ← u8s_app] at hV110
              have hkl := hV110.toB
              rw [hkl] at hV110 ⊢
              exact fun w' h => ResB.good hc hV110 h (by unfold openB; rw [if_neg (by rw [← hy']; omega), ← hy', List.append_assoc]; rfl)
          · -- next 2
            refine WL.val (v_load1 rfl rfl one_3 (cellAt rfl)) (.none rfl) rfl rfl ?_
            refine WL.nilR ?_
            refine WR.ones (g := 1) [0, 3, 6] (by kernel_rfl) ?_
            refine WL.buildSlice rfl rfl Tryd.underlying22 sz_5 zero_5 rfl (by decide) rfl (.none rfl) rfl rfl ?_
            intro g81 hg81
            refine WL.as (L' := [.row g81 (u8s [4])] ++ (E ++ [.row g1 m.cells])) rfl ?_
            refine WL.call rfl rfl ck_54 (.none rfl) rfl rfl ?_
            intro w1 hS
            refine (put2_b (fun _ => False) w0 w1 _ _ _ _ [4] m.asn (Vec.row (k := 1) (s := 1) (c := 1) (cs := u8s [4]) rfl rfl (by omega)) hS (by decide) (by omega) (by omega)).mono ?_
            rintro e w' ⟨ad84, c84, E84, rfl, hV84, hS'⟩
            refine ⟨_, _, rfl, hS', ?_⟩
            refine WL.call rfl rfl ck_54 (.none rfl) rfl rfl ?_
            intro w1 hS
            refine (put2_b (fun _ => False) w0 w1 _ _ _ _ _ m.hold hV84 hS (by rw [List.length_append, numB_len]; decide) (by omega) (by omega)).mono ?_
            rintro e w' ⟨ad87, c87, E87, rfl, hV87, hS'⟩
            refine ⟨_, _, rfl, hS', ?_⟩
            refine WL.nilR ?_
            refine WR.first (g := 0) [7] (by kernel_rfl) (by kernel_rfl) ?_
            refine WP.val (v_assign rfl rfl) (.none rfl) rfl rfl ?_
            refine WP.nil ?_
            refine WR.done (by kernel_rfl) ?_
            refine WE.then_n ?_
            refine WC.seq ?_
            refine WC.region ?_
            refine WL.val (v_move rfl rfl) (.none rfl) rfl rfl ?_
            refine WL.val (v_fieldAddr0 rfl rfl fld_43_3) (.none rfl) rfl rfl ?_
            refine WL.val (v_load1 rfl rfl one_34 (cellAt rfl)) (.none rfl) rfl rfl ?_
            refine WL.call rfl rfl ck_70 (.none rfl) rfl rfl ?_
            intro w1 hS
            refine (putAddr_c (fun _ => False) w0 w1 _ _ _ _ _ m.id 4 hV87 hS (by rw [List.length_append, List.length_append, numB_len, numB_len]; decide) (by decide)).mono ?_
            rintro e w' ⟨ad91, c91, E91, rfl, hV91, hS'⟩
            refine ⟨_, _, rfl, hS', ?_⟩
            have h91 : ([4] ++ numB m.asn 2 ++ numB m.hold 2 ++ addrB m.id 4).length = 9 := (by rw [List.length_append, List.length_append, List.length_append, numB_len, numB_len, addrB_len _ (by decide)]; rfl)
            refine WL.val (v_assign rfl rfl) (.none rfl) rfl rfl ?_
            refine WL.nil ?_
            refine WE.then_n ?_
            refine WC.seq ?_
            refine WC.seq ?_
            refine WC.region ?_
            refine WL.val (v_move rfl rfl) (.none rfl) rfl rfl ?_
            refine WL.val (v_len_slice rfl rfl Tryd.underlying22) (.none rfl) rfl rfl ?_
            refine WL.test (v_eql rfl rfl rfl) (.none rfl) rfl rfl (fun h94 => ?_) (fun h94 => ?_)
            · -- 94T
              refine WL.nil ?_
              refine WE.then_n ?_
              refine WC.cond_t rfl ?_
              refine WC.seq ?_
              refine WC.region ?_
              refine WL.val (v_move rfl rfl) (.none rfl) rfl rfl ?_
              refine WL.buildSlice rfl rfl Tryd.underlying22 sz_5 zero_5 rfl (by decide) rfl (.none rfl) rfl rfl ?_
              intro g96 hg96
              refine WL.as (L' := .row g96 (u8s [0]) :: (E91 ++ (E ++ [.row g1 m.cells]))) rfl ?_
              refine WL.to (L' := E91 ++ (.row g96 (u8s [0]) :: (E ++ [.row g1 m.cells]))) (fun w hS => hS.front [_]) ?_
              refine WL.appendL rfl rfl rfl Tryd.underlying22 Tryd.underlying22 sz_5 by_5 zero_5 rfl rfl hV91 (new := u8s [0]) (fun _ => ⟨g96, 0, rfl, fun w hS => allAt (g := g96) w hS⟩) rfl (u8s_one _) (by omega) (.none rfl) rfl rfl ?_
              intro ad97 c97 E97 hV97 hr97
              refine WL.val (v_assign rfl rfl) (.none rfl) rfl rfl ?_
              refine WL.val (v_assign rfl rfl) (.none rfl) rfl rfl ?_
              refine WL.nil ?_
              refine WE.then_n ?_
              refine WC.ret ?_
              refine WE.then_ret ?_
              refine WE.ret2 (P := Tryd.prog) (.inl rfl) Tryd.results50 rfl rfl ?_
              have hc : openC m = 0 := (by
                unfold openC
                rw [hb, hall, if_neg (show ¬ 253 < (capsE m.caps).length by rw [← hy']; omega)]; rfl)
              rw [← u8s_app] at hV97
              have hkl := hV97.toB
              rw [hkl] at hV97 ⊢
              exact fun w' h => ResB.good hc hV97 h (by unfold openB; rw [if_pos (by rw [← hy']; omega)])
            · -- 94F
              refine WL.nil ?_
              refine WE.then_n ?_
              refine WC.cond_f rfl ?_
              refine WC.skip ?_
              refine WE.then_n ?_
              refine WC.seq ?_
              refine WC.region ?_
              refine WL.val (v_move rfl rfl) (.none rfl) rfl rfl ?_
              refine WL.val (v_move rfl rfl) (.none rfl) rfl rfl ?_
              refine WL.val (v_len_slice rfl rfl Tryd.underlying22) (.none rfl) rfl rfl ?_
              refine WL.val (v_add rfl rfl rfl (show _ = ((2 + ys.length : Nat) : Int) from (w_i64 (by omega) (by omega)).trans (by omega))) (.none rfl) rfl rfl ?_
              refine WL.val (v_conv rfl rfl Tryd.underlying5 Tryd.underlying3 (w_u8m _)) (.none rfl) rfl rfl ?_
              refine WL.val (v_move rfl rfl) (.none rfl) rfl rfl ?_
              refine WL.val (v_len_slice rfl rfl Tryd.underlying22) (.none rfl) rfl rfl ?_
              refine WL.val (v_conv rfl rfl Tryd.underlying5 Tryd.underlying3 (w_u8m _)) (.none rfl) rfl rfl ?_
              refine WL.buildSlice rfl rfl Tryd.underlying22 sz_5 zero_5 rfl (by decide) rfl (.none rfl) rfl rfl ?_
              intro g106 hg106
              refine WL.as (L' := .row g106 (u8s [((2 + ys.length : Nat) : Int) % 256, 2, (ys.length : Int) % 256]) :: (E91 ++ (E ++ [.row g1 m.cells]))) rfl ?_
              refine WL.to (L' := E91 ++ (.row g106 (u8s [((2 + ys.length : Nat) : Int) % 256, 2, (ys.length : Int) % 256]) :: (E ++ [.row g1 m.cells]))) (fun w hS => hS.front [_]) ?_
              refine WL.appendL rfl rfl rfl Tryd.underlying22 Tryd.underlying22 sz_5 by_5 zero_5 rfl rfl hV91 (new := u8s [((2 + ys.length : Nat) : Int) % 256, 2, (ys.length : Int) % 256]) (fun _ => ⟨g106, 0, rfl, fun w hS => allAt (g := g106) w hS⟩) rfl (u8s_one _) (by omega) (.none rfl) rfl rfl ?_
              intro ad107 c107 E107 hV107 hr107
              refine WL.val (v_assign rfl rfl) (.none rfl) rfl rfl ?_
              refine WL.nil ?_
              refine WE.then_n ?_
              refine WC.seq ?_
              refine WC.region ?_
              refine WL.val (v_move rfl rfl) (.none rfl) rfl rfl ?_
              refine WL.val (v_move rfl rfl) (.none rfl) rfl rfl ?_
              refine WL.appendL rfl rfl rfl Tryd.underlying22 Tryd.underlying22 sz_5 by_5 zero_5 rfl rfl hV107 (new := u8s ys) (fun h => by obtain ⟨b', o', e, hr'⟩ := hV.src (L := E107 ++ (.row g106 (u8s [((2 + ys.length : Nat) : Int) % 256, 2, (ys.length : Int) % 256]) :: (E ++ [.row g1 m.cells]))) (fun e he => List.mem_append_right _ (.tail _ (List.mem_append_left _ he))) (by rw [u8s_len]; exact h); exact ⟨b', o', e, fun w hS => hr' _ _ w hS⟩) (by rw [u8s_len]; omega) (u8s_one _) (by omega) (.none rfl) rfl rfl ?_
              intro ad110 c110 E110 hV110 hr110
              refine WL.val (v_assign rfl rfl) (.none rfl) rfl rfl ?_
              refine WL.val (v_assign rfl rfl) (.none rfl) rfl rfl ?_
              refine WL.nil ?_
              refine WE.then_n ?_
              refine WC.ret ?_
              refine WE.ret2 (P := Tryd.prog) (.inl rfl) Tryd.results50 rfl rfl ?_
              have hc : openC m = 0 := (by
                unfold openC
                rw [hb, hall, if_neg (show ¬ 253 < (capsE m.caps).length by rw [← hy']; omega)]; rfl)
              rw [← u8s_app, ← u8s_app] at hV110
              have hkl := hV110.toB
              rw [hkl] at hV110 ⊢
              exact fun w' h => ResB.good hc hV110 h (by unfold openB; rw [if_neg (by rw [← hy']; omega), ← hy', List.append_assoc]; rfl)
end Go.Proofs.YtpjbofodllhjbaaDoor
