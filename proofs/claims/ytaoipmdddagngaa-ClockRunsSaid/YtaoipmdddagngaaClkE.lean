/- The clock: New, Set, Stop, When, Next, Now, Len. -/
import Derived.Test.YtaoipmdddagngaaClkD
namespace Go.Proofs.Ytaoipmdddagngaa
open Go.RowKit

/-! ### What the map of names holds -/
def Mine (m : Value → Option Value) (hs : List En) : Prop := ∀ x v, m x = some v ↔ ∃ e ∈ hs, x = .int .i64 e.name ∧ v = ptr e
def Nms (hs : List En) : Prop := (hs.map (·.name)).Nodup
theorem Mine.perm {m : Value → Option Value} {hs hs' : List En} (h : Mine m hs) (hp : hs'.Perm hs) : Mine m hs' := fun x v => by
  rw [h x v]; constructor
  · rintro ⟨e, he, k⟩; exact ⟨e, hp.symm.subset he, k⟩
  · rintro ⟨e, he, k⟩; exact ⟨e, hp.subset he, k⟩
theorem Nms.perm {hs hs' : List En} (h : Nms hs) (hp : hs'.Perm hs) : Nms hs' := (hp.map _).nodup_iff.2 h
theorem Nms.eq {hs : List En} (h : Nms hs) {a b : En} (ha : a ∈ hs) (hb : b ∈ hs) (e : a.name = b.name) : a = b := by
  induction hs with
  | nil => cases ha
  | cons x hs ih =>
    simp only [Nms, List.map_cons, List.nodup_cons] at h
    rcases List.mem_cons.1 ha with e1 | ha'
    · rcases List.mem_cons.1 hb with e2 | hb'
      · rw [e1, e2]
      · exact absurd (List.mem_map_of_mem (f := En.name) hb') (by rw [← e, e1]; exact h.1)
    · rcases List.mem_cons.1 hb with e2 | hb'
      · exact absurd (List.mem_map_of_mem (f := En.name) ha') (by rw [e, e2]; exact h.1)
      · exact ih h.2 ha' hb'
theorem Mine.yes {m : Value → Option Value} {hs : List En} (h : Mine m hs) {e : En} (he : e ∈ hs) : m (.int .i64 e.name) = some (ptr e) := (h _ _).2 ⟨e, he, rfl, rfl⟩
theorem Mine.no {m : Value → Option Value} {hs : List En} (h : Mine m hs) {x : Int} (hx : ∀ e ∈ hs, e.name ≠ x) : m (.int .i64 x) = none := by
  cases hm : m (.int .i64 x) with
  | none => rfl
  | some v =>
    obtain ⟨e, he, k, _⟩ := (h _ _).1 hm
    simp only [Value.int.injEq, true_and] at k
    exact absurd k.symm (hx e he)
theorem Mine.del {m : Value → Option Value} {hs hs' : List En} {e : En} (h : Mine m hs) (hn : Nms hs) (hp : (hs' ++ [e]).Perm hs) : Mine (updM m (.int .i64 e.name) none) hs' ∧ Nms hs' ∧ ∀ a ∈ hs', a.name ≠ e.name := by
  have hn' : Nms (hs' ++ [e]) := hn.perm hp
  have hne : ∀ a ∈ hs', a.name ≠ e.name := fun a ha k => by
    have := hn'
    simp only [Nms, List.map_append, List.map_cons, List.map_nil, List.nodup_append] at this
    exact this.2.2 a.name (List.mem_map_of_mem ha) e.name (by simp) k
  refine ⟨fun x v => ?_, ?_, hne⟩
  · by_cases hx : x = .int .i64 e.name
    · subst hx
      rw [updM_eq]
      constructor
      · intro k; cases k
      · rintro ⟨a, ha, k, _⟩
        simp only [Value.int.injEq, true_and] at k
        exact absurd k.symm (hne a ha)
    · rw [updM_ne _ _ hx, h x v]
      constructor
      · rintro ⟨a, ha, k1, k2⟩
        rcases List.mem_append.1 (hp.symm.subset ha) with ha | ha
        · exact ⟨a, ha, k1, k2⟩
        · have : a = e := by simpa using ha
          subst this; exact absurd k1 hx
      · rintro ⟨a, ha, k1, k2⟩
        exact ⟨a, hp.subset (List.mem_append_left _ ha), k1, k2⟩
  · simp only [Nms, List.map_append, List.nodup_append] at hn'
    exact hn'.1
theorem Mine.add {m : Value → Option Value} {hs hs' : List En} {e : En} (h : Mine m hs) (hn : Nms hs) (hx : ∀ a ∈ hs, a.name ≠ e.name) (hp : hs'.Perm (hs ++ [e])) : Mine (updM m (.int .i64 e.name) (some (ptr e))) hs' ∧ Nms hs' := by
  refine ⟨fun x v => ?_, Nms.perm ?_ hp⟩
  · by_cases k : x = .int .i64 e.name
    · subst k
      rw [updM_eq]
      constructor
      · intro k; cases k; exact ⟨e, hp.symm.subset (by simp), rfl, rfl⟩
      · rintro ⟨a, ha, k1, k2⟩
        simp only [Value.int.injEq, true_and] at k1
        rcases List.mem_append.1 (hp.subset ha) with ha | ha
        · exact absurd k1.symm (hx a ha)
        · have : a = e := by simpa using ha
          subst this; rw [k2]
    · rw [updM_ne _ _ k, h x v]
      constructor
      · rintro ⟨a, ha, k1, k2⟩
        exact ⟨a, hp.symm.subset (List.mem_append_left _ ha), k1, k2⟩
      · rintro ⟨a, ha, k1, k2⟩
        rcases List.mem_append.1 (hp.subset ha) with ha | ha
        · exact ⟨a, ha, k1, k2⟩
        · have : a = e := by simpa using ha
          subst this; exact absurd k1 k
  · simp only [Nms, List.map_append, List.map_cons, List.map_nil, List.nodup_append]
    refine ⟨hn, by simp, ?_⟩
    intro a ha b hb k
    obtain ⟨y, hy, rfl⟩ := List.mem_map.1 ha
    have : b = e.name := by simpa using hb
    subst this
    exact hx y hy k

/-! ### The clock whole -/
structure Ck where
  hs : List En
  ad : Option Addr
  c : Nat
  E : List Ent
  gm : Nat
  es : Array MapEntry
  cl : Nat
  m : Value → Option Value
def Ck.L (d : Ck) (gC : Nat) (now : Int) (R : List Ent) : List Ent := clkL gC now d.ad d.c (some d.gm) d.hs d.E (.obj d.gm (.map d.es d.cl) :: R)
structure Ck.Ok (d : Ck) : Prop where
  vec : Vec 1 d.ad d.hs.length d.c (ptrs d.hs) d.E
  heap : HeapB d.hs.length d.hs
  len : d.hs.length ≤ 256
  map : IMap (KInt .i64) d.es d.m
  mine : Mine d.m d.hs
  nms : Nms d.hs
def nt (e : En) : Int × Int := (e.name, e.time)
/-- What is due when, in whatever order. -/
def Ck.bag (d : Ck) : List (Int × Int) := d.hs.map nt
theorem heap_min {n : Nat} {hs : List En} (h : HeapB n hs) : ∀ k, k < n → ¬ lt (el hs k) (el hs 0) := by
  intro k
  induction k using Nat.strongRecOn with
  | ind k ih =>
    intro hk
    by_cases h0 : k = 0
    · subst h0; exact fun h => lt_asymm h h
    · exact nlt_trans (h k (by omega) hk) (ih ((k - 1) / 2) (by omega) (by omega))

section
variable {p : Nat → Prop} {w0 w : World} {gC : Nat} {now : Int} {R : List Ent} {d : Ck}
instance : At (d.L gC now R) gC [.int .i64 now, .slice d.ad d.hs.length d.c, .map (some d.gm)] := ⟨List.mem_append_right _ (List.mem_append_right _ (List.mem_cons_self ..))⟩
theorem ck_map (hS : St p w0 w (d.L gC now R)) : MapW w (some d.gm) d.es := .inr ⟨d.gm, d.cl, rfl, (hS.holds (.obj d.gm (.map d.es d.cl)) (List.mem_append_right _ (List.mem_append_right _ (List.mem_cons_of_mem _ (List.mem_cons_self ..))))).1⟩
theorem ck_ent (hS : St p w0 w (d.L gC now R)) {i : Nat} (hi : i < d.hs.length) : Row w (el d.hs i).g (enL (el d.hs i) i) := by
  have h := ents_get d.hs 0 i _ (el_get hi)
  rw [Nat.zero_add] at h
  exact hS.holds (enR (el d.hs i) i) (List.mem_append_right _ (List.mem_append_left _ h))
theorem mem_el {hs : List En} {e : En} (h : e ∈ hs) : ∃ i, i < hs.length ∧ el hs i = e := by
  obtain ⟨i, hi⟩ := List.mem_iff_getElem?.1 h
  exact ⟨i, (List.getElem?_eq_some_iff.1 hi).1, by simp [el, List.getD, hi]⟩

theorem New_k (hS : St p w0 w R) : Calls Try.prog 8 #[] w fun e w' => ∃ gC d, e = .returned (.pointer (some ⟨gC, 0, none⟩)) ∧ Ck.Ok d ∧ d.hs = [] ∧ St p w0 w' (d.L gC 0 R) := by
  refine enter (vs := []) Try.func8 rfl Try.ntmps8 rfl hS ?_
  refine WC.seq ?_
  refine WC.region ?_
  refine WL.val (v_assign rfl rfl) (.none rfl) rfl rfl ?_
  refine WL.nil ?_
  refine WE.then_n ?_
  refine WC.seq ?_
  refine WC.region ?_
  refine WL.makeMap rfl (.none rfl) rfl rfl ?_
  intro g1 hg1
  refine WL.val (v_build rfl rfl zero_46 plc_46 rfl) (.none rfl) rfl rfl ?_
  refine WL.box rfl rfl rfl (.none rfl) rfl rfl ?_
  intro g3 hg3
  refine WL.val (v_assign rfl rfl) (.none rfl) rfl rfl ?_
  refine WL.nil ?_
  refine WE.then_n ?_
  refine WC.ret ?_
  refine WE.ret1 (P := Try.prog) (.inl rfl) Try.results8 rfl ?_
  exact fun w' h => ⟨g3, ⟨[], none, 0, [], g1, #[], 0, fun _ => none⟩, rfl, ⟨Vec.nil 1, fun k h0 h1 => absurd h1 (by simp), by simp, IMap.empty _, fun x v => by simp, List.nodup_nil⟩, rfl, h⟩
theorem Now_nil (w : World) : Calls Try.prog 11 #[.pointer none] w fun e w' => e = .returned (.int .i64 0) ∧ Frm (fun _ => False) w w' := by
  refine enter Try.func11 rfl Try.ntmps11 rfl (St.start (fun _ => False) w) ?_
  refine WC.seq ?_
  refine WC.region ?_
  refine WL.val (v_assign rfl rfl) (.none rfl) rfl rfl ?_
  refine WL.nil ?_
  refine WE.then_n ?_
  refine WC.seq ?_
  refine WC.seq ?_
  refine WC.region ?_
  refine WL.val (v_move rfl rfl) (.none rfl) rfl rfl ?_
  refine WL.val (v_eql_nil true rfl rfl Try.underlying24 rfl) (.none rfl) rfl rfl ?_
  refine WL.nil ?_
  refine WE.then_n ?_
  refine WC.cond_t rfl ?_
  refine WC.seq ?_
  refine WC.region ?_
  refine WL.val (v_assign rfl rfl) (.none rfl) rfl rfl ?_
  refine WL.nil ?_
  refine WE.then_n ?_
  refine WC.ret ?_
  refine WE.then_ret ?_
  refine WE.ret1 (P := Try.prog) (.inl rfl) Try.results11 rfl ?_
  exact fun w' h => ⟨rfl, h.frm⟩
theorem Now_k {v1 v2 : Value} (hR : Row w gC [.int .i64 now, v1, v2]) : Calls Try.prog 11 #[.pointer (some ⟨gC, 0, none⟩)] w fun e w' => e = .returned (.int .i64 now) ∧ Frm (fun _ => False) w w' := by
  refine enter Try.func11 rfl Try.ntmps11 rfl (St.start (fun _ => False) w) ?_
  refine WC.seq ?_
  refine WC.region ?_
  refine WL.val (v_assign rfl rfl) (.none rfl) rfl rfl ?_
  refine WL.nil ?_
  refine WE.then_n ?_
  refine WC.seq ?_
  refine WC.seq ?_
  refine WC.region ?_
  refine WL.val (v_move rfl rfl) (.none rfl) rfl rfl ?_
  refine WL.val (v_eql_nil false rfl rfl Try.underlying24 rfl) (.none rfl) rfl rfl ?_
  refine WL.nil ?_
  refine WE.then_n ?_
  refine WC.cond_f rfl ?_
  refine WC.skip ?_
  refine WE.then_n ?_
  refine WC.seq ?_
  refine WC.region ?_
  refine WL.val (v_move rfl rfl) (.none rfl) rfl rfl ?_
  refine WL.val (v_nilCheck rfl rfl) (.none rfl) rfl rfl ?_
  refine WL.val (v_fieldAddr0 rfl rfl fld_46_0) (.none rfl) rfl rfl ?_
  refine WL.val (v_load1 rfl rfl one_3 (cellOld (fun h => h) (hR.cell rfl))) (.none rfl) rfl rfl ?_
  refine WL.val (v_assign rfl rfl) (.none rfl) rfl rfl ?_
  refine WL.nil ?_
  refine WE.then_n ?_
  refine WC.ret ?_
  refine WE.ret1 (P := Try.prog) (.inl rfl) Try.results11 rfl ?_
  exact fun w' h => ⟨rfl, h.frm⟩
theorem Len_nil (w : World) : Calls Try.prog 12 #[.pointer none] w fun e w' => e = .returned (.int .i64 0) ∧ Frm (fun _ => False) w w' := by
  refine enter Try.func12 rfl Try.ntmps12 rfl (St.start (fun _ => False) w) ?_
  refine WC.seq ?_
  refine WC.region ?_
  refine WL.val (v_assign rfl rfl) (.none rfl) rfl rfl ?_
  refine WL.nil ?_
  refine WE.then_n ?_
  refine WC.seq ?_
  refine WC.seq ?_
  refine WC.region ?_
  refine WL.val (v_move rfl rfl) (.none rfl) rfl rfl ?_
  refine WL.val (v_eql_nil true rfl rfl Try.underlying24 rfl) (.none rfl) rfl rfl ?_
  refine WL.nil ?_
  refine WE.then_n ?_
  refine WC.cond_t rfl ?_
  refine WC.seq ?_
  refine WC.region ?_
  refine WL.val (v_assign rfl rfl) (.none rfl) rfl rfl ?_
  refine WL.nil ?_
  refine WE.then_n ?_
  refine WC.ret ?_
  refine WE.then_ret ?_
  refine WE.ret1 (P := Try.prog) (.inl rfl) Try.results12 rfl ?_
  exact fun w' h => ⟨rfl, h.frm⟩
theorem Len_k {v0 v2 : Value} {a : Option Addr} {n c : Nat} (hR : Row w gC [v0, .slice a n c, v2]) : Calls Try.prog 12 #[.pointer (some ⟨gC, 0, none⟩)] w fun e w' => e = .returned (.int .i64 n) ∧ Frm (fun _ => False) w w' := by
  refine enter Try.func12 rfl Try.ntmps12 rfl (St.start (fun _ => False) w) ?_
  refine WC.seq ?_
  refine WC.region ?_
  refine WL.val (v_assign rfl rfl) (.none rfl) rfl rfl ?_
  refine WL.nil ?_
  refine WE.then_n ?_
  refine WC.seq ?_
  refine WC.seq ?_
  refine WC.region ?_
  refine WL.val (v_move rfl rfl) (.none rfl) rfl rfl ?_
  refine WL.val (v_eql_nil false rfl rfl Try.underlying24 rfl) (.none rfl) rfl rfl ?_
  refine WL.nil ?_
  refine WE.then_n ?_
  refine WC.cond_f rfl ?_
  refine WC.skip ?_
  refine WE.then_n ?_
  refine WC.seq ?_
  refine WC.region ?_
  refine WL.val (v_move rfl rfl) (.none rfl) rfl rfl ?_
  refine WL.val (v_nilCheck rfl rfl) (.none rfl) rfl rfl ?_
  refine WL.val (v_fieldAddr0 rfl rfl fld_46_1) (.none rfl) rfl rfl ?_
  refine WL.val (v_load1 rfl rfl one_44 (cellOld (fun h => h) (hR.cell rfl))) (.none rfl) rfl rfl ?_
  refine WL.val (v_len_slice rfl rfl Try.underlying44) (.none rfl) rfl rfl ?_
  refine WL.val (v_assign rfl rfl) (.none rfl) rfl rfl ?_
  refine WL.nil ?_
  refine WE.then_n ?_
  refine WC.ret ?_
  refine WE.ret1 (P := Try.prog) (.inl rfl) Try.results12 rfl ?_
  exact fun w' h => ⟨rfl, h.frm⟩
theorem When_nil (w : World) (x : Int) : Calls Try.prog 14 #[.pointer none, .int .i64 x] w fun e w' => e = .returned (.tuple #[.int .i64 0, .bool false]) ∧ Frm (fun _ => False) w w' := by
  refine enter Try.func14 rfl Try.ntmps14 rfl (St.start (fun _ => False) w) ?_
  refine WC.seq ?_
  refine WC.region ?_
  refine WL.val (v_assign rfl rfl) (.none rfl) rfl rfl ?_
  refine WL.val (v_assign rfl rfl) (.none rfl) rfl rfl ?_
  refine WL.nil ?_
  refine WE.then_n ?_
  refine WC.seq ?_
  refine WC.seq ?_
  refine WC.region ?_
  refine WL.val (v_move rfl rfl) (.none rfl) rfl rfl ?_
  refine WL.val (v_eql_nil true rfl rfl Try.underlying24 rfl) (.none rfl) rfl rfl ?_
  refine WL.nil ?_
  refine WE.then_n ?_
  refine WC.cond_t rfl ?_
  refine WC.seq ?_
  refine WC.region ?_
  refine WL.val (v_assign rfl rfl) (.none rfl) rfl rfl ?_
  refine WL.val (v_assign rfl rfl) (.none rfl) rfl rfl ?_
  refine WL.nil ?_
  refine WE.then_n ?_
  refine WC.ret ?_
  refine WE.then_ret ?_
  refine WE.ret2 (P := Try.prog) (.inl rfl) Try.results14 rfl rfl ?_
  exact fun w' h => ⟨rfl, h.frm⟩
theorem When_no (hS : St p w0 w (d.L gC now R)) (hd : d.Ok) (x : Int) (hx : ∀ e ∈ d.hs, e.name ≠ x) : Calls Try.prog 14 #[.pointer (some ⟨gC, 0, none⟩), .int .i64 x] w fun e w' => e = .returned (.tuple #[.int .i64 0, .bool false]) ∧ Frm (fun _ => False) w w' := by
  have hR := hS.row (g := gC)
  have hM := ck_map hS
  have hn := hd.mine.no hx
  refine enter Try.func14 rfl Try.ntmps14 rfl (St.start (fun _ => False) w) ?_
  refine WC.seq ?_
  refine WC.region ?_
  refine WL.val (v_assign rfl rfl) (.none rfl) rfl rfl ?_
  refine WL.val (v_assign rfl rfl) (.none rfl) rfl rfl ?_
  refine WL.nil ?_
  refine WE.then_n ?_
  refine WC.seq ?_
  refine WC.seq ?_
  refine WC.region ?_
  refine WL.val (v_move rfl rfl) (.none rfl) rfl rfl ?_
  refine WL.val (v_eql_nil false rfl rfl Try.underlying24 rfl) (.none rfl) rfl rfl ?_
  refine WL.nil ?_
  refine WE.then_n ?_
  refine WC.cond_f rfl ?_
  refine WC.skip ?_
  refine WE.then_n ?_
  refine WC.seq ?_
  refine WC.region ?_
  refine WL.val (v_move rfl rfl) (.none rfl) rfl rfl ?_
  refine WL.val (v_nilCheck rfl rfl) (.none rfl) rfl rfl ?_
  refine WL.val (v_fieldAddr0 rfl rfl fld_46_2) (.none rfl) rfl rfl ?_
  refine WL.val (v_load1 rfl rfl one_42 (cellOld (fun h => h) (hR.cell rfl))) (.none rfl) rfl rfl ?_
  refine WL.val (v_move rfl rfl) (.none rfl) rfl rfl ?_
  refine WL.val ((v_lookup2 rfl rfl rfl Try.underlying42 (keyI Try.underlying3) (KInt.mk _ _) rfl (mapOld (fun _ h => h) hM) hd.map).eq (v := .tuple #[.pointer none, .bool false]) (by rw [hn]; rfl)) (.none rfl) rfl rfl ?_
  refine WL.val (v_move rfl rfl) (.none rfl) rfl rfl ?_
  refine WL.val (v_extract rfl rfl rfl) (.none rfl) rfl rfl ?_
  refine WL.val (v_extract rfl rfl rfl) (.none rfl) rfl rfl ?_
  refine WL.val (v_assign rfl rfl) (.none rfl) rfl rfl ?_
  refine WL.val (v_assign rfl rfl) (.none rfl) rfl rfl ?_
  refine WL.nil ?_
  refine WE.then_n ?_
  refine WC.seq ?_
  refine WC.seq ?_
  refine WC.region ?_
  refine WL.val (v_move rfl rfl) (.none rfl) rfl rfl ?_
  refine WL.val (v_not rfl rfl rfl) (.none rfl) rfl rfl ?_
  refine WL.nil ?_
  refine WE.then_n ?_
  refine WC.cond_t rfl ?_
  refine WC.seq ?_
  refine WC.region ?_
  refine WL.val (v_assign rfl rfl) (.none rfl) rfl rfl ?_
  refine WL.val (v_assign rfl rfl) (.none rfl) rfl rfl ?_
  refine WL.nil ?_
  refine WE.then_n ?_
  refine WC.ret ?_
  refine WE.then_ret ?_
  refine WE.ret2 (P := Try.prog) (.inl rfl) Try.results14 rfl rfl ?_
  exact fun w' h => ⟨rfl, h.frm⟩
theorem When_k (hS : St p w0 w (d.L gC now R)) (hd : d.Ok) {e : En} (he : e ∈ d.hs) : Calls Try.prog 14 #[.pointer (some ⟨gC, 0, none⟩), .int .i64 e.name] w fun e' w' => e' = .returned (.tuple #[.int .i64 e.time, .bool true]) ∧ Frm (fun _ => False) w w' := by
  have hR := hS.row (g := gC)
  have hM := ck_map hS
  have hn := hd.mine.yes he
  obtain ⟨i, hi, e1⟩ := mem_el he
  have hE := ck_ent hS hi
  rw [e1] at hE
  refine enter Try.func14 rfl Try.ntmps14 rfl (St.start (fun _ => False) w) ?_
  refine WC.seq ?_
  refine WC.region ?_
  refine WL.val (v_assign rfl rfl) (.none rfl) rfl rfl ?_
  refine WL.val (v_assign rfl rfl) (.none rfl) rfl rfl ?_
  refine WL.nil ?_
  refine WE.then_n ?_
  refine WC.seq ?_
  refine WC.seq ?_
  refine WC.region ?_
  refine WL.val (v_move rfl rfl) (.none rfl) rfl rfl ?_
  refine WL.val (v_eql_nil false rfl rfl Try.underlying24 rfl) (.none rfl) rfl rfl ?_
  refine WL.nil ?_
  refine WE.then_n ?_
  refine WC.cond_f rfl ?_
  refine WC.skip ?_
  refine WE.then_n ?_
  refine WC.seq ?_
  refine WC.region ?_
  refine WL.val (v_move rfl rfl) (.none rfl) rfl rfl ?_
  refine WL.val (v_nilCheck rfl rfl) (.none rfl) rfl rfl ?_
  refine WL.val (v_fieldAddr0 rfl rfl fld_46_2) (.none rfl) rfl rfl ?_
  refine WL.val (v_load1 rfl rfl one_42 (cellOld (fun h => h) (hR.cell rfl))) (.none rfl) rfl rfl ?_
  refine WL.val (v_move rfl rfl) (.none rfl) rfl rfl ?_
  refine WL.val ((v_lookup2 rfl rfl rfl Try.underlying42 (keyI Try.underlying3) (KInt.mk _ _) rfl (mapOld (fun _ h => h) hM) hd.map).eq (v := .tuple #[ptr e, .bool true]) (by rw [hn]; rfl)) (.none rfl) rfl rfl ?_
  refine WL.val (v_move rfl rfl) (.none rfl) rfl rfl ?_
  refine WL.val (v_extract rfl rfl rfl) (.none rfl) rfl rfl ?_
  refine WL.val (v_extract rfl rfl rfl) (.none rfl) rfl rfl ?_
  refine WL.val (v_assign rfl rfl) (.none rfl) rfl rfl ?_
  refine WL.val (v_assign rfl rfl) (.none rfl) rfl rfl ?_
  refine WL.nil ?_
  refine WE.then_n ?_
  refine WC.seq ?_
  refine WC.seq ?_
  refine WC.region ?_
  refine WL.val (v_move rfl rfl) (.none rfl) rfl rfl ?_
  refine WL.val (v_not rfl rfl rfl) (.none rfl) rfl rfl ?_
  refine WL.nil ?_
  refine WE.then_n ?_
  refine WC.cond_f rfl ?_
  refine WC.skip ?_
  refine WE.then_n ?_
  refine WC.seq ?_
  refine WC.region ?_
  refine WL.val (v_move rfl rfl) (.none rfl) rfl rfl ?_
  refine WL.val (v_nilCheck rfl rfl) (.none rfl) rfl rfl ?_
  refine WL.val (v_fieldAddr0 rfl rfl fld_50_1) (.none rfl) rfl rfl ?_
  refine WL.val (v_load1 rfl rfl one_3 (cellOld (fun h => h) (hE.cell rfl))) (.none rfl) rfl rfl ?_
  refine WL.val (v_assign rfl rfl) (.none rfl) rfl rfl ?_
  refine WL.val (v_assign rfl rfl) (.none rfl) rfl rfl ?_
  refine WL.nil ?_
  refine WE.then_n ?_
  refine WC.ret ?_
  refine WE.ret2 (P := Try.prog) (.inl rfl) Try.results14 rfl rfl ?_
  exact fun w' h => ⟨rfl, h.frm⟩
theorem Stop_nil (w : World) (x : Int) : Calls Try.prog 13 #[.pointer none, .int .i64 x] w fun e w' => e = .returned (.bool false) ∧ Frm (fun _ => False) w w' := by
  refine enter Try.func13 rfl Try.ntmps13 rfl (St.start (fun _ => False) w) ?_
  refine WC.seq ?_
  refine WC.region ?_
  refine WL.val (v_assign rfl rfl) (.none rfl) rfl rfl ?_
  refine WL.nil ?_
  refine WE.then_n ?_
  refine WC.seq ?_
  refine WC.seq ?_
  refine WC.region ?_
  refine WL.val (v_move rfl rfl) (.none rfl) rfl rfl ?_
  refine WL.val (v_eql_nil true rfl rfl Try.underlying24 rfl) (.none rfl) rfl rfl ?_
  refine WL.nil ?_
  refine WE.then_n ?_
  refine WC.cond_t rfl ?_
  refine WC.seq ?_
  refine WC.region ?_
  refine WL.val (v_assign rfl rfl) (.none rfl) rfl rfl ?_
  refine WL.nil ?_
  refine WE.then_n ?_
  refine WC.ret ?_
  refine WE.then_ret ?_
  refine WE.ret1 (P := Try.prog) (.inl rfl) Try.results13 rfl ?_
  exact fun w' h => ⟨rfl, h.frm⟩
theorem Stop_no (hS : St p w0 w (d.L gC now R)) (hd : d.Ok) (x : Int) (hx : ∀ e ∈ d.hs, e.name ≠ x) : Calls Try.prog 13 #[.pointer (some ⟨gC, 0, none⟩), .int .i64 x] w fun e w' => e = .returned (.bool false) ∧ Frm (fun _ => False) w w' := by
  have hR := hS.row (g := gC)
  have hM := ck_map hS
  have hn := hd.mine.no hx
  refine enter Try.func13 rfl Try.ntmps13 rfl (St.start (fun _ => False) w) ?_
  refine WC.seq ?_
  refine WC.region ?_
  refine WL.val (v_assign rfl rfl) (.none rfl) rfl rfl ?_
  refine WL.nil ?_
  refine WE.then_n ?_
  refine WC.seq ?_
  refine WC.seq ?_
  refine WC.region ?_
  refine WL.val (v_move rfl rfl) (.none rfl) rfl rfl ?_
  refine WL.val (v_eql_nil false rfl rfl Try.underlying24 rfl) (.none rfl) rfl rfl ?_
  refine WL.nil ?_
  refine WE.then_n ?_
  refine WC.cond_f rfl ?_
  refine WC.skip ?_
  refine WE.then_n ?_
  refine WC.seq ?_
  refine WC.region ?_
  refine WL.val (v_move rfl rfl) (.none rfl) rfl rfl ?_
  refine WL.val (v_nilCheck rfl rfl) (.none rfl) rfl rfl ?_
  refine WL.val (v_fieldAddr0 rfl rfl fld_46_2) (.none rfl) rfl rfl ?_
  refine WL.val (v_load1 rfl rfl one_42 (cellOld (fun h => h) (hR.cell rfl))) (.none rfl) rfl rfl ?_
  refine WL.val (v_move rfl rfl) (.none rfl) rfl rfl ?_
  refine WL.val ((v_lookup2 rfl rfl rfl Try.underlying42 (keyI Try.underlying3) (KInt.mk _ _) rfl (mapOld (fun _ h => h) hM) hd.map).eq (v := .tuple #[.pointer none, .bool false]) (by rw [hn]; rfl)) (.none rfl) rfl rfl ?_
  refine WL.val (v_move rfl rfl) (.none rfl) rfl rfl ?_
  refine WL.val (v_extract rfl rfl rfl) (.none rfl) rfl rfl ?_
  refine WL.val (v_extract rfl rfl rfl) (.none rfl) rfl rfl ?_
  refine WL.val (v_assign rfl rfl) (.none rfl) rfl rfl ?_
  refine WL.val (v_assign rfl rfl) (.none rfl) rfl rfl ?_
  refine WL.nil ?_
  refine WE.then_n ?_
  refine WC.seq ?_
  refine WC.seq ?_
  refine WC.region ?_
  refine WL.val (v_move rfl rfl) (.none rfl) rfl rfl ?_
  refine WL.val (v_not rfl rfl rfl) (.none rfl) rfl rfl ?_
  refine WL.nil ?_
  refine WE.then_n ?_
  refine WC.cond_t rfl ?_
  refine WC.seq ?_
  refine WC.region ?_
  refine WL.val (v_assign rfl rfl) (.none rfl) rfl rfl ?_
  refine WL.nil ?_
  refine WE.then_n ?_
  refine WC.ret ?_
  refine WE.then_ret ?_
  refine WE.ret1 (P := Try.prog) (.inl rfl) Try.results13 rfl ?_
  exact fun w' h => ⟨rfl, h.frm⟩
/-- The line of a clock on which something is due. -/
theorem ck_line (hd : d.Ok) (h : 0 < d.hs.length) : ∃ gL r, d.ad = some ⟨gL, 0, none⟩ ∧ d.E = [.row gL (ptrs d.hs ++ r)] ∧ d.hs.length + r.length = d.c := hd.vec.cells h
theorem vec_line {hs : List En} {gL : Nat} {r : List Value} {c : Nat} (h : hs.length + r.length = c) : Vec 1 (some ⟨gL, 0, none⟩) hs.length c (ptrs hs) [.row gL (ptrs hs ++ r)] := by
  have hl : (ptrs hs).length = hs.length := by simp [ptrs]
  exact Vec.row (by rw [Nat.mul_one, List.take_left' hl]) (by rw [List.length_append, hl]; omega) (by omega)
set_option maxHeartbeats 1000000 in
theorem Stop_k (hS : St p w0 w (d.L gC now R)) (hd : d.Ok) {e : En} (he : e ∈ d.hs) : Calls Try.prog 13 #[.pointer (some ⟨gC, 0, none⟩), .int .i64 e.name] w fun e' w' => ∃ d', e' = .returned (.bool true) ∧ Ck.Ok d' ∧ (d'.hs ++ [e]).Perm d.hs ∧ St p w0 w' (d'.L gC now R) := by
  have hn := hd.mine.yes he
  obtain ⟨i, hi, e1⟩ := mem_el he
  have hlen := hd.len
  obtain ⟨gL, r, q1, q2, q3⟩ := ck_line hd (by omega)
  obtain ⟨k, hk⟩ : ∃ k, d.hs.length = k + 1 := ⟨d.hs.length - 1, by omega⟩
  refine enter Try.func13 rfl Try.ntmps13 rfl hS ?_
  refine WC.seq ?_
  refine WC.region ?_
  refine WL.val (v_assign rfl rfl) (.none rfl) rfl rfl ?_
  refine WL.nil ?_
  refine WE.then_n ?_
  refine WC.seq ?_
  refine WC.seq ?_
  refine WC.region ?_
  refine WL.val (v_move rfl rfl) (.none rfl) rfl rfl ?_
  refine WL.val (v_eql_nil false rfl rfl Try.underlying24 rfl) (.none rfl) rfl rfl ?_
  refine WL.nil ?_
  refine WE.then_n ?_
  refine WC.cond_f rfl ?_
  refine WC.skip ?_
  refine WE.then_n ?_
  refine WC.seq ?_
  refine WC.region ?_
  refine WL.val (v_move rfl rfl) (.none rfl) rfl rfl ?_
  refine WL.val (v_nilCheck rfl rfl) (.none rfl) rfl rfl ?_
  refine WL.val (v_fieldAddr0 rfl rfl fld_46_2) (.none rfl) rfl rfl ?_
  refine WL.val (v_load1 rfl rfl one_42 (cellAt rfl)) (.none rfl) rfl rfl ?_
  refine WL.val (v_move rfl rfl) (.none rfl) rfl rfl ?_
  refine WL.val ((v_lookup2 rfl rfl rfl Try.underlying42 (keyI Try.underlying3) (KInt.mk _ _) rfl (fun w hS => ck_map hS) hd.map).eq (v := .tuple #[ptr e, .bool true]) (by rw [hn]; rfl)) (.none rfl) rfl rfl ?_
  refine WL.val (v_move rfl rfl) (.none rfl) rfl rfl ?_
  refine WL.val (v_extract rfl rfl rfl) (.none rfl) rfl rfl ?_
  refine WL.val (v_extract rfl rfl rfl) (.none rfl) rfl rfl ?_
  refine WL.val (v_assign rfl rfl) (.none rfl) rfl rfl ?_
  refine WL.val (v_assign rfl rfl) (.none rfl) rfl rfl ?_
  refine WL.nil ?_
  refine WE.then_n ?_
  refine WC.seq ?_
  refine WC.seq ?_
  refine WC.region ?_
  refine WL.val (v_move rfl rfl) (.none rfl) rfl rfl ?_
  refine WL.val (v_not rfl rfl rfl) (.none rfl) rfl rfl ?_
  refine WL.nil ?_
  refine WE.then_n ?_
  refine WC.cond_f rfl ?_
  refine WC.skip ?_
  refine WE.then_n ?_
  refine WC.seq ?_
  refine WC.orders mixed ?_
  refine WR.first (g := 2) [0, 1, 2, 3, 4, 5, 6] (by kernel_rfl) (by kernel_rfl) ?_
  refine WP.val (v_move rfl rfl) (.none rfl) rfl rfl ?_
  refine WP.val (v_nilCheck rfl rfl) (.none rfl) rfl rfl ?_
  refine WP.val (v_fieldAddr0 rfl rfl fld_46_1) (.none rfl) rfl rfl ?_
  refine WP.val (v_makeInterface rfl rfl Try.underlying52 rfl) (.none rfl) rfl rfl ?_
  refine WP.val (v_move rfl rfl) (.none rfl) rfl rfl ?_
  refine WP.val (v_nilCheck rfl rfl) (.none rfl) rfl rfl ?_
  refine WP.val (v_fieldAddr0 rfl rfl fld_50_2) (.none rfl) rfl rfl ?_
  refine WP.nil ?_
  refine WR.read (g := 1) [7] (by kernel_rfl) (by kernel_rfl) (by kernel_rfl) (by kernel_rfl) rfl ?_
  refine WQ.val (v_load1 rfl rfl one_3 (fun w hS => by have := ck_ent hS hi; rw [e1] at this; exact this.cell rfl)) (.none rfl) rfl rfl ?_
  refine WQ.nilR ?_
  refine WR.ones (g := 0) [8] (by kernel_rfl) ?_
  refine WL.call rfl rfl ck_18 (.none rfl) rfl rfl ?_
  intro w1 hS
  have hS2 : St p w0 w1 (hsL gC gL now (some d.gm) d.c d.hs r (.obj d.gm (.map d.es d.cl) :: R)) := (by
    unfold Ck.L clkL at hS; rw [q1, q2] at hS; exact hS)
  refine (HRemove_c hS2 hk (i := i) (by omega) (by omega) (by omega) hd.heap).mono ?_
  rintro e' w' ⟨h2, rfl, k1, k2, k3, hS'⟩
  rw [e1] at k2 hS'
  obtain ⟨m1, m2, m3⟩ := hd.mine.del hd.nms k2
  refine ⟨_, .row gL (ptrs h2 ++ (.pointer none :: r)) :: (ents 0 h2 ++ (.row gC [.int .i64 now, .slice (some ⟨gL, 0, none⟩) h2.length d.c, .map (some d.gm)] :: (.obj d.gm (.map d.es d.cl) :: R))), rfl, ?_, ?_⟩
  · refine hS'.sub ?_
    exact List.Sublist.cons_cons _ (List.Sublist.append_left (.cons_cons _ (.cons _ (.refl _))) _)
  refine WL.nilR ?_
  refine WR.done (by kernel_rfl) ?_
  refine WE.then_n ?_
  refine WC.seq ?_
  refine WC.region ?_
  refine WL.val (v_move rfl rfl) (.none rfl) rfl rfl ?_
  refine WL.val (v_nilCheck rfl rfl) (.none rfl) rfl rfl ?_
  refine WL.val (v_fieldAddr0 rfl rfl fld_46_2) (.none rfl) rfl rfl ?_
  refine WL.val (v_load1 rfl rfl one_42 (cellAt rfl)) (.none rfl) rfl rfl ?_
  refine WL.val (v_move rfl rfl) (.none rfl) rfl rfl ?_
  refine WL.delete rfl rfl rfl Try.underlying42 (keyI Try.underlying3) (KInt.mk _ _) hd.map (.none rfl) rfl ?_
  intro esU hMU hsU
  refine WL.nil ?_
  refine WE.then_n ?_
  refine WC.seq ?_
  refine WC.region ?_
  refine WL.val (v_assign rfl rfl) (.none rfl) rfl rfl ?_
  refine WL.nil ?_
  refine WE.then_n ?_
  refine WC.ret ?_
  refine WE.ret1 (P := Try.prog) (.inl rfl) Try.results13 rfl ?_
  exact fun w' h => ⟨⟨h2, some ⟨gL, 0, none⟩, d.c, [.row gL (ptrs h2 ++ (.pointer none :: r))], d.gm, esU, d.cl, updM d.m (.int .i64 e.name) none⟩, rfl, ⟨vec_line (by simp; omega), k3, by simp only []; omega, hMU, m1, m2⟩, k2, h⟩
end
end Go.Proofs.Ytaoipmdddagngaa
