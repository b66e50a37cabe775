/- policy: holds. -/
import Derived.Test.YtodaanhhnjkncaaDoorPol3
import Derived.Test.YtodaanhhnjkncaaDoorActD
namespace Go.Proofs.YtodaanhhnjkncaaDoor
open Go.RowKit

mutual
/-- All is right with a tree (as a predicate, or as a policy). -/
def okT : Bool → Nd → Prop
  | pred, .mk k f v m a c kids => fitsP k pred = true ∧ argE (.mk k f v m a c kids) = 0 ∧ formE (.mk k f v m a c kids) = 0 ∧ okKs k 0 kids
def okKs (k : Int) : Nat → List Nd → Prop
  | _, [] => True
  | i, t :: ts => okT (predK k i) t ∧ okKs k (i + 1) ts
end
theorem okT.parts {t : Nd} {pred : Bool} (h : okT pred t) : fitsP t.kind pred = true ∧ argE t = 0 ∧ formE t = 0 ∧ okKs t.kind 0 t.kids := by
  cases t; unfold okT at h; exact h
theorem okKs.get {k : Int} : ∀ (ts : List Nd) (i j : Nat) (t : Nd), okKs k i ts → ts[j]? = some t → okT (predK k (i + j)) t
  | [], _, _, _, _, h => by simp at h
  | t :: ts, i, 0, t', h, ht => by
    simp only [List.getElem?_cons_zero, Option.some.injEq] at ht
    subst ht
    unfold okKs at h
    exact h.1
  | t :: ts, i, j + 1, t', h, ht => by
    unfold okKs at h
    rw [List.getElem?_cons_succ] at ht
    have := okKs.get ts (i + 1) j t' h.2 ht
    rwa [show i + 1 + j = i + (j + 1) by omega] at this
theorem okT.kid {t u : Nd} {pred : Bool} {j : Nat} (h : okT pred t) (hu : t.kids[j]? = some u) : okT (predK t.kind j) u := by
  have := h.parts.2.2.2.get _ 0 j u hu
  rwa [Nat.zero_add] at this
mutual
theorem walkT_ok : ∀ (t : Nd) (deep : Int) (pred : Bool) (n : Int), (walkT t deep pred n).1 = 0 → okT pred t
  | .mk k f v m a c kids, deep, pred, n, he => by
    rw [walkT] at he
    split at he
    · cases he
    · split at he
      · cases he
      · split at he
        · rename_i h; exact absurd he h
        · split at he
          · rename_i h; exact absurd he h
          · rename_i h1 h2 h3 h4
            unfold okT
            exact ⟨by simpa using h2, Classical.not_not.1 h3, Classical.not_not.1 h4, walkKs_ok k 0 kids (deep + 1) (n + 1) he⟩
theorem walkKs_ok (k : Int) : ∀ (i : Nat) (ts : List Nd) (deep n : Int), (walkKs k i ts deep n).1 = 0 → okKs k i ts
  | _, [], _, _, _ => by unfold okKs; trivial
  | i, t :: ts, deep, n, he => by
    rw [walkKs] at he
    split at he
    · rename_i h; exact absurd he h
    · rename_i h
      unfold okKs
      exact ⟨walkT_ok t deep (predK k i) n (Classical.not_not.1 h), walkKs_ok k (i + 1) ts deep _ he⟩
end
mutual
/-- Whether a predicate holds of a header. -/
def holdsT (H : Hd) : Nd → Bool
  | .mk k f v m _ _ kids => if k = 1 then true else if k = 3 then decide (andN (xorN (getF H f.toNat) v) m = 0) else if k = 4 then !(holdsKs H kids).getD 0 false else if k = 5 then (holdsKs H kids).all id else if k = 6 then (holdsKs H kids).any id else false
def holdsKs (H : Hd) : List Nd → List Bool
  | [] => []
  | t :: ts => holdsT H t :: holdsKs H ts
end
theorem holdsKs_map (H : Hd) : ∀ ts : List Nd, holdsKs H ts = ts.map (holdsT H)
  | [] => by rw [holdsKs]; rfl
  | t :: ts => by rw [holdsKs, holdsKs_map H ts]; rfl
theorem holdsT_eq (H : Hd) (t : Nd) : holdsT H t = if t.kind = 1 then true else if t.kind = 3 then decide (andN (xorN (getF H t.f.toNat) t.val) t.mask = 0) else if t.kind = 4 then !((t.kids.map (holdsT H)).getD 0 false) else if t.kind = 5 then (t.kids.map (holdsT H)).all id else if t.kind = 6 then (t.kids.map (holdsT H)).any id else false := by
  cases t; rw [holdsT, holdsKs_map]; rfl
/-- The first of a node's kids that a function says true of. -/
theorem PIdx_c (w : World) (t : Nd) (fn : FuncId) (ck_fn : callOk Tryd.prog fn) (cap : Array Value) (r : Nd → Bool) (hI : t.In) (hA : t.At w)
    (hf : ∀ (i : Nat) (u : Nd), t.kids[i]? = some u → ∀ w', Frm (fun _ => False) w w' → Calls Tryd.prog fn (#[] ++ #[ndV u] ++ cap) w' fun e w'' => e = .returned (.bool (r u)) ∧ Frm (fun _ => False) w' w'') :
    Calls Tryd.prog 120 #[.slice t.ad t.kids.length t.cap, .func (.func fn) #[] cap] w
      fun e w' => e = .returned (.int .i64 (findI (fun i => ((t.kids[i]?).map r).getD false) t.kids.length)) ∧ Frm (fun _ => False) w w' := by
  have hlen := hI.nums.2.2.2.2
  refine enter Tryd.func120 rfl Tryd.ntmps120 rfl (St.start (fun _ => False) w) ?_
  refine WC.seq ?_
  refine WC.region ?_
  refine WL.val (v_assign rfl rfl) (.none rfl) rfl rfl ?_
  refine WL.nil ?_
  refine WE.then_n ?_
  refine WC.seq ?_
  refine WC.seq ?_
  refine WC.region ?_
  refine WL.val (v_move rfl rfl) (.none rfl) rfl rfl ?_
  refine WL.val (v_len_slice rfl rfl Tryd.underlying43) (.none rfl) rfl rfl ?_
  refine WL.val (v_move rfl rfl) (.none rfl) rfl rfl ?_
  refine WL.nil ?_
  refine WE.then_n ?_
  refine WC.block ?_
  refine WC.loop (fun k : Nat => [(8, .int .i64 k), (7, .int .i64 t.kids.length), (6, .slice t.ad t.kids.length t.cap), (0, .slice t.ad t.kids.length t.cap), (1, .func (.func fn) #[] cap)]) (fun _ => []) (fun k => k ≤ t.kids.length ∧ ∀ j, j < k → ((t.kids[j]?).map r).getD false = false) (fun k => t.kids.length - k) 0 ⟨Nat.zero_le _, fun j h => absurd h (by omega)⟩ (.cons rfl (.cons rfl (.cons rfl (.cons rfl (.cons rfl .nil))))) (.refl _) ?_
  rintro k ⟨hk, hno⟩
  refine WC.seq ?_
  refine WC.region ?_
  refine WL.test (v_lss rfl rfl rfl) (.none rfl) rfl rfl (fun h9 => ?_) (fun h9 => ?_)
  · -- 9T
    refine WL.nil ?_
    refine WE.then_n ?_
    refine WC.seq ?_
    refine WC.cond_t rfl ?_
    refine WC.skip ?_
    refine WE.then_n ?_
    refine WC.seq ?_
    refine WC.block ?_
    refine WC.seq ?_
    refine WC.region ?_
    refine WL.val (v_move rfl rfl) (.none rfl) rfl rfl ?_
    obtain ⟨u, hu⟩ : ∃ u, t.kids[k]? = some u := ⟨t.kids[k]'(by omega), List.getElem?_eq_getElem _⟩
    obtain ⟨b, o, ea, hr⟩ := (hA.kid hu).1
    refine WL.val (v_assign rfl rfl) (.none rfl) rfl rfl ?_
    refine WL.nil ?_
    refine WE.then_n ?_
    refine WC.seq ?_
    refine WC.region ?_
    refine WL.val (v_move rfl rfl) (.none rfl) rfl rfl ?_
    refine WL.val (v_move rfl rfl) (.none rfl) rfl rfl ?_
    refine WL.val (v_move rfl rfl) (.none rfl) rfl rfl ?_
    refine WL.val (v_indexAddr (b := b) (off := o) (lo := k) rfl (by show some (Value.slice t.ad _ _) = _; rw [ea]) rfl Tryd.underlying43 sz_45 rfl (by omega)) (.none rfl) rfl rfl ?_
    refine WL.val (v_loadN (cs := ndL u) rfl rfl many_45 rfl (rangeIn (fun h => h) hr)) (.none rfl) rfl rfl ?_
    refine WL.callV rfl rfl rfl ck_fn (.none rfl) rfl rfl ?_
    intro w hS
    refine Calls.then (hf k u hu w hS.frm) hS ?_
    generalize hb : r u = bb
    cases bb
    · -- 16F
      refine WL.nil ?_
      refine WE.then_n ?_
      refine WC.cond_f rfl ?_
      refine WC.skip ?_
      refine WE.block_n ?_
      refine WE.then_n ?_
      refine WC.region ?_
      refine WL.val (v_add rfl rfl rfl (w_i64 (by omega) (by omega))) (.none rfl) rfl rfl ?_
      refine WL.val (v_move rfl rfl) (.none rfl) rfl rfl ?_
      refine WL.nil ?_
      exact WE.next (k + 1) (by omega) ⟨by omega, fun j hj => by
      by_cases e : j = k
      · subst e; rw [hu]; exact hb
      · exact hno j (by omega)⟩ (.int rfl (by omega) (.cons rfl (.cons rfl (.cons rfl (.cons rfl .nil))))) (.refl _)
    · -- 16T
      refine WL.nil ?_
      refine WE.then_n ?_
      refine WC.cond_t rfl ?_
      refine WC.seq ?_
      refine WC.region ?_
      refine WL.val (v_move rfl rfl) (.none rfl) rfl rfl ?_
      refine WL.val (v_assign rfl rfl) (.none rfl) rfl rfl ?_
      refine WL.nil ?_
      refine WE.then_n ?_
      refine WC.ret ?_
      refine WE.block_ret ?_
      refine WE.then_ret ?_
      refine WE.then_ret ?_
      refine WE.block_ret ?_
      refine WE.then_ret ?_
      refine WE.ret1 (P := Tryd.prog) (.inl rfl) Tryd.results120 rfl ?_
      exact fun w' h => ⟨by rw [findI_some (k := k) (by omega) (by rw [hu]; exact hb) hno], h.frm⟩
  · -- 9F
    refine WL.nil ?_
    refine WE.then_n ?_
    refine WC.seq ?_
    refine WC.cond_f rfl ?_
    refine WC.exit ?_
    refine WE.then_exit ?_
    refine WE.then_exit ?_
    refine WE.block_hit ?_
    refine WE.then_n ?_
    refine WC.seq ?_
    refine WC.region ?_
    refine WL.val (v_assign rfl rfl) (.none rfl) rfl rfl ?_
    refine WL.nil ?_
    refine WE.then_n ?_
    refine WC.ret ?_
    refine WE.ret1 (P := Tryd.prog) (.inl rfl) Tryd.results120 rfl ?_
    obtain rfl : k = t.kids.length := (by omega)
    exact fun w' h => ⟨by rw [findI_none hno], h.frm⟩
theorem findI_any (r : Nd → Bool) (ts : List Nd) : decide (0 ≤ findI (fun i => ((ts[i]?).map r).getD false) ts.length) = ts.any r := by
  by_cases h : ∃ i, i < ts.length ∧ ((ts[i]?).map r).getD false = true
  · obtain ⟨i, hi, ht⟩ := h
    have h2 : findI (fun i => ((ts[i]?).map r).getD false) ts.length ≠ -1 := by
      intro e
      unfold findI at e
      split at e
      · rename_i k _; omega
      · rename_i hn
        have := List.find?_eq_none.1 hn i (List.mem_range.2 hi)
        exact this ht
    have h3 : 0 ≤ findI (fun i => ((ts[i]?).map r).getD false) ts.length := by
      unfold findI at h2 ⊢
      split
      · omega
      · rename_i hn; rw [hn] at h2; exact absurd rfl h2
    rw [decide_eq_true h3]
    symm
    rw [List.any_eq_true]
    rw [List.getElem?_eq_getElem hi] at ht
    exact ⟨ts[i], List.getElem_mem hi, ht⟩
  · rw [findI_none (fun j hj => by
      cases e : ((ts[j]?).map r).getD false with
      | false => rfl
      | true => exact absurd ⟨j, hj, e⟩ h)]
    symm
    rw [show decide ((0 : Int) ≤ -1) = false by decide, List.any_eq_false]
    intro u hu ht
    obtain ⟨i, hi, e⟩ := List.getElem_of_mem hu
    exact h ⟨i, hi, by rw [List.getElem?_eq_getElem hi, e]; exact ht⟩
theorem PCon_c (w : World) (t : Nd) (fn : FuncId) (ck_fn : callOk Tryd.prog fn) (cap : Array Value) (r : Nd → Bool) (hI : t.In) (hA : t.At w)
    (hf : ∀ (i : Nat) (u : Nd), t.kids[i]? = some u → ∀ w', Frm (fun _ => False) w w' → Calls Tryd.prog fn (#[] ++ #[ndV u] ++ cap) w' fun e w'' => e = .returned (.bool (r u)) ∧ Frm (fun _ => False) w' w'') :
    Calls Tryd.prog 91 #[.slice t.ad t.kids.length t.cap, .func (.func fn) #[] cap] w
      fun e w' => e = .returned (.bool (t.kids.any r)) ∧ Frm (fun _ => False) w w' := by
  refine enter Tryd.func91 rfl Tryd.ntmps91 rfl (St.start (fun _ => False) w) ?_
  refine WC.seq ?_
  refine WC.region ?_
  refine WL.val (v_assign rfl rfl) (.none rfl) rfl rfl ?_
  refine WL.nil ?_
  refine WE.then_n ?_
  refine WC.seq ?_
  refine WC.region ?_
  refine WL.val (v_move rfl rfl) (.none rfl) rfl rfl ?_
  refine WL.val (v_move rfl rfl) (.none rfl) rfl rfl ?_
  refine WL.call rfl rfl ck_120 (.none rfl) rfl rfl ?_
  intro w hS
  refine Calls.then (PIdx_c w t fn ck_fn cap r hI (hA.st (fun _ h => h) hS) (fun i u hu w' hF => hf i u hu w' (hS.frm.trans hF))) hS ?_
  refine WL.val (v_geq rfl rfl rfl) (.none rfl) rfl rfl ?_
  refine WL.val (v_assign rfl rfl) (.none rfl) rfl rfl ?_
  refine WL.nil ?_
  refine WE.then_n ?_
  refine WC.ret ?_
  refine WE.ret1 (P := Tryd.prog) (.inl rfl) Tryd.results91 rfl ?_
  exact fun w' h => ⟨by rw [← findI_any], h.frm⟩
end Go.Proofs.YtodaanhhnjkncaaDoor
