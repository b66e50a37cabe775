/- Texts joined: engine, contracts and laws, in the order in which they build. -/
import Derived.Test.YtodaanhhnjkncaaDoorBdPolicyRuns
/- policy: the reference's Walk. -/
namespace Go.Proofs.YtodaanhhnjkncaaDoor
open Go.RowKit

/-- What the reference's Walk hands back. -/
def walkR (r : Int × Int) (ahead : Int) : Value := if r.1 ≠ 0 then .tuple #[.int .i64 0, .int .i64 r.1] else .tuple #[.int .i64 (r.2 - ahead), .int .i64 0]
theorem walkR_err {r : Int × Int} {ahead e : Int} (h : r.1 = e) (he : e ≠ 0) : walkR r ahead = .tuple #[.int .i64 0, .int .i64 e] := by unfold walkR; rw [h, if_pos he]
theorem walkR_ok {r : Int × Int} {ahead m : Int} (h : r.1 = 0) (hm : r.2 - ahead = m) : walkR r ahead = .tuple #[.int .i64 m, .int .i64 0] := by unfold walkR; rw [h, if_neg (fun q => q rfl), hm]
def okK (k n : Int) : Bool := if k = 4 ∨ k = 13 then decide (n = 1) else if k = 5 ∨ k = 6 ∨ k = 15 ∨ k = 16 then decide (n ≤ 64) else if k = 17 then decide (n = 3) else decide (n = 0)
theorem okK_form (t : Nd) : okK t.kind t.kids.length = decide (formE t = 0) := by
  unfold okK formE leastK mostK
  by_cases h1 : t.kind = 4 ∨ t.kind = 13
  · rw [if_pos h1, if_pos h1, if_pos h1]
    by_cases q : (t.kids.length : Int) = 1
    · rw [decide_eq_true q, decide_eq_true (by rw [if_neg (by omega)])]
    · rw [decide_eq_false q, decide_eq_false (by rw [if_pos (by omega)]; decide)]
  · rw [if_neg h1, if_neg h1, if_neg h1]
    by_cases h3 : t.kind = 17
    · rw [if_neg (by omega), if_pos h3, if_pos h3, if_pos h3]
      by_cases q : (t.kids.length : Int) = 3
      · rw [decide_eq_true q, decide_eq_true (by rw [if_neg (by omega)])]
      · rw [decide_eq_false q, decide_eq_false (by rw [if_pos (by omega)]; decide)]
    · rw [if_neg h3, if_neg h3]
      by_cases h2 : t.kind = 5 ∨ t.kind = 6 ∨ t.kind = 15 ∨ t.kind = 16
      · rw [if_pos h2, if_pos h2]
        by_cases q : (t.kids.length : Int) ≤ 64
        · rw [decide_eq_true q, decide_eq_true (by rw [if_neg (by omega)])]
        · rw [decide_eq_false q, decide_eq_false (by rw [if_pos (by omega)]; decide)]
      · rw [if_neg h2, if_neg h3, if_neg h2]
        by_cases q : (t.kids.length : Int) = 0
        · rw [decide_eq_true q, decide_eq_true (by rw [if_neg (by omega)])]
        · rw [decide_eq_false q, decide_eq_false (by rw [if_pos (by omega)]; decide)]
theorem arg3 {t : Nd} (h : t.kind = 3) : argE t = if ¬ isFld t.f ∨ andNotN t.mask (fullI t.f.toNat) ≠ 0 ∨ andNotN t.val t.mask ≠ 0 then 1 else 0 := by unfold argE; rw [if_pos h]
theorem arg14 {t : Nd} (h : t.kind = 14) : argE t = if ¬ isFld t.f ∨ t.f = 3 ∨ t.f = 6 ∨ t.val > fullI t.f.toNat then 1 else 0 := by unfold argE; rw [if_neg (by omega), if_pos h]
theorem formE_no {t : Nd} (h : ¬ formE t = 0) : (t.kids.length : Int) < leastK t.kind ∨ mostK t.kind < t.kids.length := by
  unfold formE at h
  split at h
  · assumption
  · exact absurd rfl h
theorem kids_kind {k n : Int} (h : n ≤ mostK k) (h1 : 1 ≤ n) : k = 4 ∨ k = 5 ∨ k = 6 ∨ k = 13 ∨ k = 15 ∨ k = 16 ∨ k = 17 := by
  unfold mostK at h
  split at h
  · omega
  · split at h
    · omega
    · split at h
      · omega
      · omega
theorem walkR_if (r : Int × Int) (ahead : Int) : walkR r ahead = .tuple #[.int .i64 (if r.1 ≠ 0 then 0 else r.2 - ahead), .int .i64 r.1] := by
  unfold walkR
  by_cases h : r.1 = 0
  · rw [if_neg (fun q => q h), if_neg (fun q => q h), h]
  · rw [if_pos h, if_pos h]
set_option maxHeartbeats 4000000 in
theorem RWalk_c : ∀ (N : Nat) (t : Nd), SizeOf.sizeOf t ≤ N → ∀ (w0 : World) (pred : Bool) (ahead deep : Int), t.In → t.At w0 → 0 ≤ ahead → ahead ≤ 64 → 1 ≤ deep → deep ≤ 17 →
    Calls Tryd.prog 23 #[ndV t, .bool pred, .int .i64 ahead, .int .i64 deep] w0 fun e w' => e = .returned (walkR (walkT t deep pred ahead) ahead) ∧ Frm (fun _ => False) w0 w'
  | 0 => fun t hN => by cases t; simp only [Nd.mk.sizeOf_spec] at hN; omega
  | N + 1 => by
    intro t hN w0 pred ahead deep hI hA ha0 ha1 hd0 hd1
    have hlen := hI.nums.2.2.2.2
    have hnums := hI.nums
    have hfu := fullI_u64 t.f.toNat
    have e0 := walkT_eq t deep pred ahead
    refine enter Tryd.func23 rfl Tryd.ntmps23 rfl (St.start (fun _ => False) w0) ?_
    refine WC.seq ?_
    refine WC.region ?_
    refine WL.box rfl rfl rfl (.none rfl) rfl rfl ?_
    intro g4 hg4
    refine WL.val (v_assign rfl rfl) (.none rfl) rfl rfl ?_
    refine WL.val (v_assign rfl rfl) (.none rfl) rfl rfl ?_
    refine WL.nil ?_
    refine WE.then_n ?_
    refine WC.seq ?_
    refine WC.seq ?_
    refine WC.region ?_
    refine WL.val (v_move rfl rfl) (.none rfl) rfl rfl ?_
    refine WL.test (v_geq rfl rfl rfl) (.none rfl) rfl rfl (fun h19 => ?_) (fun h19 => ?_)
    · -- 19T
      refine WL.val (v_move rfl rfl) (.none rfl) rfl rfl ?_
      refine WL.skip rfl rfl rfl rfl rfl rfl ?_
      refine WL.skip rfl rfl rfl rfl rfl rfl ?_
      refine WL.val (v_pick_t rfl rfl rfl) (.none rfl) rfl rfl ?_
      refine WL.nil ?_
      refine WE.then_n ?_
      refine WC.cond_t rfl ?_
      refine WC.seq ?_
      refine WC.region ?_
      refine WL.val (v_assign rfl rfl) (.none rfl) rfl rfl ?_
      refine WL.val (v_assign rfl rfl) (.none rfl) rfl rfl ?_
      refine WL.nil ?_
      refine WE.then_n ?_
      refine WC.ret ?_
      refine WE.then_ret ?_
      refine WE.ret2 (P := Tryd.prog) (.inl rfl) Tryd.results23 rfl rfl ?_
      exact fun w' h => ⟨by rw [walkR_err (e := 34) (by rw [e0, if_pos (by omega)]) (by decide)], h.frm⟩
    · -- 19F
      refine WL.val (v_move rfl rfl) (.none rfl) rfl rfl ?_
      refine WL.val (v_move rfl rfl) (.some rfl rfl rfl) rfl rfl ?_
      refine WL.test (v_gtr rfl rfl rfl) (.some rfl rfl rfl) rfl rfl (fun h22 => ?_) (fun h22 => ?_)
      · -- 22T
        refine WL.val (v_pick_f rfl rfl rfl) (.none rfl) rfl rfl ?_
        refine WL.nil ?_
        refine WE.then_n ?_
        refine WC.cond_t rfl ?_
        refine WC.seq ?_
        refine WC.region ?_
        refine WL.val (v_assign rfl rfl) (.none rfl) rfl rfl ?_
        refine WL.val (v_assign rfl rfl) (.none rfl) rfl rfl ?_
        refine WL.nil ?_
        refine WE.then_n ?_
        refine WC.ret ?_
        refine WE.then_ret ?_
        refine WE.ret2 (P := Tryd.prog) (.inl rfl) Tryd.results23 rfl rfl ?_
        exact fun w' h => ⟨by rw [walkR_err (e := 34) (by rw [e0, if_pos (by omega)]) (by decide)], h.frm⟩
      · -- 22F
        refine WL.val (v_pick_f rfl rfl rfl) (.none rfl) rfl rfl ?_
        refine WL.nil ?_
        refine WE.then_n ?_
        refine WC.cond_f rfl ?_
        refine WC.skip ?_
        refine WE.then_n ?_
        refine WC.seq ?_
        refine WC.cut (fun _ : Unit => [(48, .bool (!fitsP t.kind pred)), (4, .pointer (some ⟨g4, 0, none⟩)), (2, .int .i64 ahead), (3, .int .i64 deep)]) (fun _ => [.row g4 (ndL t)]) (fun _ => True) ?_ ?_
        · -- cutr3
          refine WC.region ?_
          refine WL.val (v_fieldAddr0 rfl rfl fld_52_0) (.none rfl) rfl rfl ?_
          refine WL.val (v_load1 rfl rfl one_3 (cellAt rfl)) (.none rfl) rfl rfl ?_
          refine WL.test (v_lss rfl rfl rfl) (.none rfl) rfl rfl (fun h26 => ?_) (fun h26 => ?_)
          · -- 26T
            refine WL.val (v_move rfl rfl) (.none rfl) rfl rfl ?_
            refine WL.skip rfl rfl rfl rfl rfl rfl ?_
            refine WL.skip rfl rfl rfl rfl rfl rfl ?_
            refine WL.skip rfl rfl rfl rfl rfl rfl ?_
            refine WL.skip rfl rfl rfl rfl rfl rfl ?_
            refine WL.skip rfl rfl rfl rfl rfl rfl ?_
            refine WL.skip rfl rfl rfl rfl rfl rfl ?_
            refine WL.skip rfl rfl rfl rfl rfl rfl ?_
            refine WL.skip rfl rfl rfl rfl rfl rfl ?_
            refine WL.val (v_pick_t rfl rfl rfl) (.none rfl) rfl rfl ?_
            refine WL.val (v_move rfl rfl) (.none rfl) rfl rfl ?_
            refine WL.skip rfl rfl rfl rfl rfl rfl ?_
            refine WL.skip rfl rfl rfl rfl rfl rfl ?_
            refine WL.skip rfl rfl rfl rfl rfl rfl ?_
            refine WL.val (v_pick_t rfl rfl rfl) (.none rfl) rfl rfl ?_
            refine WL.val (v_move rfl rfl) (.none rfl) rfl rfl ?_
            refine WL.skip rfl rfl rfl rfl rfl rfl ?_
            refine WL.skip rfl rfl rfl rfl rfl rfl ?_
            refine WL.skip rfl rfl rfl rfl rfl rfl ?_
            refine WL.skip rfl rfl rfl rfl rfl rfl ?_
            skip
            cases pred
            · -- 46F
              refine WL.skip rfl rfl rfl rfl rfl rfl ?_
              refine WL.val (v_pick_t rfl rfl rfl) (.none rfl) rfl rfl ?_
              refine WL.nil ?_
              exact WE.mid () trivial (.eq rfl (by unfold fitsP; first | (rw [if_pos rfl, decide_eq_true (by omega)]; rfl) | (rw [if_pos rfl, decide_eq_false (by omega)]; rfl) | (rw [if_neg (by decide), decide_eq_true (by omega)]; rfl) | (rw [if_neg (by decide), decide_eq_false (by omega)]; rfl) | (cases pred <;> first | (rw [if_pos rfl, decide_eq_true (by omega)]; rfl) | (rw [if_pos rfl, decide_eq_false (by omega)]; rfl) | (rw [if_neg (by decide), decide_eq_true (by omega)]; rfl) | (rw [if_neg (by decide), decide_eq_false (by omega)]; rfl))) (.cons rfl (.cons rfl (.cons rfl .nil)))) (.refl _)
            · -- 46T
              refine WL.skip rfl rfl rfl rfl rfl rfl ?_
              refine WL.val (v_pick_t rfl rfl rfl) (.none rfl) rfl rfl ?_
              refine WL.nil ?_
              exact WE.mid () trivial (.eq rfl (by unfold fitsP; first | (rw [if_pos rfl, decide_eq_true (by omega)]; rfl) | (rw [if_pos rfl, decide_eq_false (by omega)]; rfl) | (rw [if_neg (by decide), decide_eq_true (by omega)]; rfl) | (rw [if_neg (by decide), decide_eq_false (by omega)]; rfl) | (cases pred <;> first | (rw [if_pos rfl, decide_eq_true (by omega)]; rfl) | (rw [if_pos rfl, decide_eq_false (by omega)]; rfl) | (rw [if_neg (by decide), decide_eq_true (by omega)]; rfl) | (rw [if_neg (by decide), decide_eq_false (by omega)]; rfl))) (.cons rfl (.cons rfl (.cons rfl .nil)))) (.refl _)
          · -- 26F
            refine WL.val (v_move rfl rfl) (.none rfl) rfl rfl ?_
            refine WL.val (v_fieldAddr0 rfl rfl fld_52_0) (.some rfl rfl rfl) rfl rfl ?_
            refine WL.val (v_load1 rfl rfl one_3 (cellAt rfl)) (.some rfl rfl rfl) rfl rfl ?_
            refine WL.test (v_gtr rfl rfl rfl) (.some rfl rfl rfl) rfl rfl (fun h30 => ?_) (fun h30 => ?_)
            · -- 30T
              refine WL.val (v_move rfl rfl) (.some rfl rfl rfl) rfl rfl ?_
              refine WL.val (v_fieldAddr0 rfl rfl fld_52_0) (.some rfl rfl rfl) rfl rfl ?_
              refine WL.val (v_load1 rfl rfl one_3 (cellAt rfl)) (.some rfl rfl rfl) rfl rfl ?_
              refine WL.test (v_lss rfl rfl rfl) (.some rfl rfl rfl) rfl rfl (fun h34 => ?_) (fun h34 => ?_)
              · -- 34T
                refine WL.val (v_pick_t rfl rfl rfl) (.some rfl rfl rfl) rfl rfl ?_
                refine WL.val (v_pick_f rfl rfl rfl) (.none rfl) rfl rfl ?_
                refine WL.val (v_move rfl rfl) (.none rfl) rfl rfl ?_
                refine WL.skip rfl rfl rfl rfl rfl rfl ?_
                refine WL.skip rfl rfl rfl rfl rfl rfl ?_
                refine WL.skip rfl rfl rfl rfl rfl rfl ?_
                refine WL.val (v_pick_t rfl rfl rfl) (.none rfl) rfl rfl ?_
                refine WL.val (v_move rfl rfl) (.none rfl) rfl rfl ?_
                refine WL.skip rfl rfl rfl rfl rfl rfl ?_
                refine WL.skip rfl rfl rfl rfl rfl rfl ?_
                refine WL.skip rfl rfl rfl rfl rfl rfl ?_
                refine WL.skip rfl rfl rfl rfl rfl rfl ?_
                skip
                cases pred
                · -- 46F
                  refine WL.skip rfl rfl rfl rfl rfl rfl ?_
                  refine WL.val (v_pick_t rfl rfl rfl) (.none rfl) rfl rfl ?_
                  refine WL.nil ?_
                  exact WE.mid () trivial (.eq rfl (by unfold fitsP; first | (rw [if_pos rfl, decide_eq_true (by omega)]; rfl) | (rw [if_pos rfl, decide_eq_false (by omega)]; rfl) | (rw [if_neg (by decide), decide_eq_true (by omega)]; rfl) | (rw [if_neg (by decide), decide_eq_false (by omega)]; rfl) | (cases pred <;> first | (rw [if_pos rfl, decide_eq_true (by omega)]; rfl) | (rw [if_pos rfl, decide_eq_false (by omega)]; rfl) | (rw [if_neg (by decide), decide_eq_true (by omega)]; rfl) | (rw [if_neg (by decide), decide_eq_false (by omega)]; rfl))) (.cons rfl (.cons rfl (.cons rfl .nil)))) (.refl _)
                · -- 46T
                  refine WL.skip rfl rfl rfl rfl rfl rfl ?_
                  refine WL.val (v_pick_t rfl rfl rfl) (.none rfl) rfl rfl ?_
                  refine WL.nil ?_
                  exact WE.mid () trivial (.eq rfl (by unfold fitsP; first | (rw [if_pos rfl, decide_eq_true (by omega)]; rfl) | (rw [if_pos rfl, decide_eq_false (by omega)]; rfl) | (rw [if_neg (by decide), decide_eq_true (by omega)]; rfl) | (rw [if_neg (by decide), decide_eq_false (by omega)]; rfl) | (cases pred <;> first | (rw [if_pos rfl, decide_eq_true (by omega)]; rfl) | (rw [if_pos rfl, decide_eq_false (by omega)]; rfl) | (rw [if_neg (by decide), decide_eq_true (by omega)]; rfl) | (rw [if_neg (by decide), decide_eq_false (by omega)]; rfl))) (.cons rfl (.cons rfl (.cons rfl .nil)))) (.refl _)
              · -- 34F
                refine WL.val (v_pick_t rfl rfl rfl) (.some rfl rfl rfl) rfl rfl ?_
                refine WL.val (v_pick_f rfl rfl rfl) (.none rfl) rfl rfl ?_
                refine WL.val (v_move rfl rfl) (.none rfl) rfl rfl ?_
                refine WL.val (v_fieldAddr0 rfl rfl fld_52_0) (.some rfl rfl rfl) rfl rfl ?_
                refine WL.val (v_load1 rfl rfl one_3 (cellAt rfl)) (.some rfl rfl rfl) rfl rfl ?_
                refine WL.test (v_gtr rfl rfl rfl) (.some rfl rfl rfl) rfl rfl (fun h40 => ?_) (fun h40 => ?_)
                · -- 40T
                  refine WL.val (v_pick_f rfl rfl rfl) (.none rfl) rfl rfl ?_
                  refine WL.val (v_move rfl rfl) (.none rfl) rfl rfl ?_
                  refine WL.skip rfl rfl rfl rfl rfl rfl ?_
                  refine WL.skip rfl rfl rfl rfl rfl rfl ?_
                  refine WL.skip rfl rfl rfl rfl rfl rfl ?_
                  refine WL.skip rfl rfl rfl rfl rfl rfl ?_
                  skip
                  cases pred
                  · -- 46F
                    refine WL.skip rfl rfl rfl rfl rfl rfl ?_
                    refine WL.val (v_pick_t rfl rfl rfl) (.none rfl) rfl rfl ?_
                    refine WL.nil ?_
                    exact WE.mid () trivial (.eq rfl (by unfold fitsP; first | (rw [if_pos rfl, decide_eq_true (by omega)]; rfl) | (rw [if_pos rfl, decide_eq_false (by omega)]; rfl) | (rw [if_neg (by decide), decide_eq_true (by omega)]; rfl) | (rw [if_neg (by decide), decide_eq_false (by omega)]; rfl) | (cases pred <;> first | (rw [if_pos rfl, decide_eq_true (by omega)]; rfl) | (rw [if_pos rfl, decide_eq_false (by omega)]; rfl) | (rw [if_neg (by decide), decide_eq_true (by omega)]; rfl) | (rw [if_neg (by decide), decide_eq_false (by omega)]; rfl))) (.cons rfl (.cons rfl (.cons rfl .nil)))) (.refl _)
                  · -- 46T
                    refine WL.skip rfl rfl rfl rfl rfl rfl ?_
                    refine WL.val (v_pick_t rfl rfl rfl) (.none rfl) rfl rfl ?_
                    refine WL.nil ?_
                    exact WE.mid () trivial (.eq rfl (by unfold fitsP; first | (rw [if_pos rfl, decide_eq_true (by omega)]; rfl) | (rw [if_pos rfl, decide_eq_false (by omega)]; rfl) | (rw [if_neg (by decide), decide_eq_true (by omega)]; rfl) | (rw [if_neg (by decide), decide_eq_false (by omega)]; rfl) | (cases pred <;> first | (rw [if_pos rfl, decide_eq_true (by omega)]; rfl) | (rw [if_pos rfl, decide_eq_false (by omega)]; rfl) | (rw [if_neg (by decide), decide_eq_true (by omega)]; rfl) | (rw [if_neg (by decide), decide_eq_false (by omega)]; rfl))) (.cons rfl (.cons rfl (.cons rfl .nil)))) (.refl _)
                · -- 40F
                  refine WL.val (v_pick_f rfl rfl rfl) (.none rfl) rfl rfl ?_
                  refine WL.val (v_move rfl rfl) (.none rfl) rfl rfl ?_
                  refine WL.val (v_fieldAddr0 rfl rfl fld_52_0) (.some rfl rfl rfl) rfl rfl ?_
                  refine WL.val (v_load1 rfl rfl one_3 (cellAt rfl)) (.some rfl rfl rfl) rfl rfl ?_
                  refine WL.test (v_leq rfl rfl rfl) (.some rfl rfl rfl) rfl rfl (fun h45 => ?_) (fun h45 => ?_)
                  · -- 45T
                    refine WL.val (v_move rfl rfl) (.some rfl rfl rfl) rfl rfl ?_
                    skip
                    cases pred
                    · -- 46F
                      refine WL.val ((v_neq_bool rfl rfl rfl Tryd.underlying4).t (by decide)) (.some rfl rfl rfl) rfl rfl ?_
                      refine WL.val (v_pick_f rfl rfl rfl) (.none rfl) rfl rfl ?_
                      refine WL.nil ?_
                      exact WE.mid () trivial (.eq rfl (by unfold fitsP; first | (rw [if_pos rfl, decide_eq_true (by omega)]; rfl) | (rw [if_pos rfl, decide_eq_false (by omega)]; rfl) | (rw [if_neg (by decide), decide_eq_true (by omega)]; rfl) | (rw [if_neg (by decide), decide_eq_false (by omega)]; rfl) | (cases pred <;> first | (rw [if_pos rfl, decide_eq_true (by omega)]; rfl) | (rw [if_pos rfl, decide_eq_false (by omega)]; rfl) | (rw [if_neg (by decide), decide_eq_true (by omega)]; rfl) | (rw [if_neg (by decide), decide_eq_false (by omega)]; rfl))) (.cons rfl (.cons rfl (.cons rfl .nil)))) (.refl _)
                    · -- 46T
                      refine WL.val ((v_neq_bool rfl rfl rfl Tryd.underlying4).f (by decide)) (.some rfl rfl rfl) rfl rfl ?_
                      refine WL.val (v_pick_f rfl rfl rfl) (.none rfl) rfl rfl ?_
                      refine WL.nil ?_
                      exact WE.mid () trivial (.eq rfl (by unfold fitsP; first | (rw [if_pos rfl, decide_eq_true (by omega)]; rfl) | (rw [if_pos rfl, decide_eq_false (by omega)]; rfl) | (rw [if_neg (by decide), decide_eq_true (by omega)]; rfl) | (rw [if_neg (by decide), decide_eq_false (by omega)]; rfl) | (cases pred <;> first | (rw [if_pos rfl, decide_eq_true (by omega)]; rfl) | (rw [if_pos rfl, decide_eq_false (by omega)]; rfl) | (rw [if_neg (by decide), decide_eq_true (by omega)]; rfl) | (rw [if_neg (by decide), decide_eq_false (by omega)]; rfl))) (.cons rfl (.cons rfl (.cons rfl .nil)))) (.refl _)
                  · -- 45F
                    refine WL.val (v_move rfl rfl) (.some rfl rfl rfl) rfl rfl ?_
                    skip
                    cases pred
                    · -- 46F
                      refine WL.val ((v_neq_bool rfl rfl rfl Tryd.underlying4).f (by decide)) (.some rfl rfl rfl) rfl rfl ?_
                      refine WL.val (v_pick_f rfl rfl rfl) (.none rfl) rfl rfl ?_
                      refine WL.nil ?_
                      exact WE.mid () trivial (.eq rfl (by unfold fitsP; first | (rw [if_pos rfl, decide_eq_true (by omega)]; rfl) | (rw [if_pos rfl, decide_eq_false (by omega)]; rfl) | (rw [if_neg (by decide), decide_eq_true (by omega)]; rfl) | (rw [if_neg (by decide), decide_eq_false (by omega)]; rfl) | (cases pred <;> first | (rw [if_pos rfl, decide_eq_true (by omega)]; rfl) | (rw [if_pos rfl, decide_eq_false (by omega)]; rfl) | (rw [if_neg (by decide), decide_eq_true (by omega)]; rfl) | (rw [if_neg (by decide), decide_eq_false (by omega)]; rfl))) (.cons rfl (.cons rfl (.cons rfl .nil)))) (.refl _)
                    · -- 46T
                      refine WL.val ((v_neq_bool rfl rfl rfl Tryd.underlying4).t (by decide)) (.some rfl rfl rfl) rfl rfl ?_
                      refine WL.val (v_pick_f rfl rfl rfl) (.none rfl) rfl rfl ?_
                      refine WL.nil ?_
                      exact WE.mid () trivial (.eq rfl (by unfold fitsP; first | (rw [if_pos rfl, decide_eq_true (by omega)]; rfl) | (rw [if_pos rfl, decide_eq_false (by omega)]; rfl) | (rw [if_neg (by decide), decide_eq_true (by omega)]; rfl) | (rw [if_neg (by decide), decide_eq_false (by omega)]; rfl) | (cases pred <;> first | (rw [if_pos rfl, decide_eq_true (by omega)]; rfl) | (rw [if_pos rfl, decide_eq_false (by omega)]; rfl) | (rw [if_neg (by decide), decide_eq_true (by omega)]; rfl) | (rw [if_neg (by decide), decide_eq_false (by omega)]; rfl))) (.cons rfl (.cons rfl (.cons rfl .nil)))) (.refl _)
            · -- 30F
              refine WL.val (v_move rfl rfl) (.some rfl rfl rfl) rfl rfl ?_
              refine WL.skip rfl rfl rfl rfl rfl rfl ?_
              refine WL.skip rfl rfl rfl rfl rfl rfl ?_
              refine WL.skip rfl rfl rfl rfl rfl rfl ?_
              refine WL.val (v_pick_f rfl rfl rfl) (.some rfl rfl rfl) rfl rfl ?_
              refine WL.val (v_pick_f rfl rfl rfl) (.none rfl) rfl rfl ?_
              refine WL.val (v_move rfl rfl) (.none rfl) rfl rfl ?_
              refine WL.val (v_fieldAddr0 rfl rfl fld_52_0) (.some rfl rfl rfl) rfl rfl ?_
              refine WL.val (v_load1 rfl rfl one_3 (cellAt rfl)) (.some rfl rfl rfl) rfl rfl ?_
              refine WL.test (v_gtr rfl rfl rfl) (.some rfl rfl rfl) rfl rfl (fun h40 => ?_) (fun h40 => ?_)
              · -- 40T
                refine WL.val (v_pick_f rfl rfl rfl) (.none rfl) rfl rfl ?_
                refine WL.val (v_move rfl rfl) (.none rfl) rfl rfl ?_
                refine WL.skip rfl rfl rfl rfl rfl rfl ?_
                refine WL.skip rfl rfl rfl rfl rfl rfl ?_
                refine WL.skip rfl rfl rfl rfl rfl rfl ?_
                refine WL.skip rfl rfl rfl rfl rfl rfl ?_
                skip
                cases pred
                · -- 46F
                  refine WL.skip rfl rfl rfl rfl rfl rfl ?_
                  refine WL.val (v_pick_t rfl rfl rfl) (.none rfl) rfl rfl ?_
                  refine WL.nil ?_
                  exact WE.mid () trivial (.eq rfl (by unfold fitsP; first | (rw [if_pos rfl, decide_eq_true (by omega)]; rfl) | (rw [if_pos rfl, decide_eq_false (by omega)]; rfl) | (rw [if_neg (by decide), decide_eq_true (by omega)]; rfl) | (rw [if_neg (by decide), decide_eq_false (by omega)]; rfl) | (cases pred <;> first | (rw [if_pos rfl, decide_eq_true (by omega)]; rfl) | (rw [if_pos rfl, decide_eq_false (by omega)]; rfl) | (rw [if_neg (by decide), decide_eq_true (by omega)]; rfl) | (rw [if_neg (by decide), decide_eq_false (by omega)]; rfl))) (.cons rfl (.cons rfl (.cons rfl .nil)))) (.refl _)
                · -- 46T
                  refine WL.skip rfl rfl rfl rfl rfl rfl ?_
                  refine WL.val (v_pick_t rfl rfl rfl) (.none rfl) rfl rfl ?_
                  refine WL.nil ?_
                  exact WE.mid () trivial (.eq rfl (by unfold fitsP; first | (rw [if_pos rfl, decide_eq_true (by omega)]; rfl) | (rw [if_pos rfl, decide_eq_false (by omega)]; rfl) | (rw [if_neg (by decide), decide_eq_true (by omega)]; rfl) | (rw [if_neg (by decide), decide_eq_false (by omega)]; rfl) | (cases pred <;> first | (rw [if_pos rfl, decide_eq_true (by omega)]; rfl) | (rw [if_pos rfl, decide_eq_false (by omega)]; rfl) | (rw [if_neg (by decide), decide_eq_true (by omega)]; rfl) | (rw [if_neg (by decide), decide_eq_false (by omega)]; rfl))) (.cons rfl (.cons rfl (.cons rfl .nil)))) (.refl _)
              · -- 40F
                refine WL.val (v_pick_f rfl rfl rfl) (.none rfl) rfl rfl ?_
                refine WL.val (v_move rfl rfl) (.none rfl) rfl rfl ?_
                refine WL.val (v_fieldAddr0 rfl rfl fld_52_0) (.some rfl rfl rfl) rfl rfl ?_
                refine WL.val (v_load1 rfl rfl one_3 (cellAt rfl)) (.some rfl rfl rfl) rfl rfl ?_
                refine WL.test (v_leq rfl rfl rfl) (.some rfl rfl rfl) rfl rfl (fun h45 => ?_) (fun h45 => ?_)
                · -- 45T
                  refine WL.val (v_move rfl rfl) (.some rfl rfl rfl) rfl rfl ?_
                  skip
                  cases pred
                  · -- 46F
                    refine WL.val ((v_neq_bool rfl rfl rfl Tryd.underlying4).t (by decide)) (.some rfl rfl rfl) rfl rfl ?_
                    refine WL.val (v_pick_f rfl rfl rfl) (.none rfl) rfl rfl ?_
                    refine WL.nil ?_
                    exact WE.mid () trivial (.eq rfl (by unfold fitsP; first | (rw [if_pos rfl, decide_eq_true (by omega)]; rfl) | (rw [if_pos rfl, decide_eq_false (by omega)]; rfl) | (rw [if_neg (by decide), decide_eq_true (by omega)]; rfl) | (rw [if_neg (by decide), decide_eq_false (by omega)]; rfl) | (cases pred <;> first | (rw [if_pos rfl, decide_eq_true (by omega)]; rfl) | (rw [if_pos rfl, decide_eq_false (by omega)]; rfl) | (rw [if_neg (by decide), decide_eq_true (by omega)]; rfl) | (rw [if_neg (by decide), decide_eq_false (by omega)]; rfl))) (.cons rfl (.cons rfl (.cons rfl .nil)))) (.refl _)
                  · -- 46T
                    refine WL.val ((v_neq_bool rfl rfl rfl Tryd.underlying4).f (by decide)) (.some rfl rfl rfl) rfl rfl ?_
                    refine WL.val (v_pick_f rfl rfl rfl) (.none rfl) rfl rfl ?_
                    refine WL.nil ?_
                    exact WE.mid () trivial (.eq rfl (by unfold fitsP; first | (rw [if_pos rfl, decide_eq_true (by omega)]; rfl) | (rw [if_pos rfl, decide_eq_false (by omega)]; rfl) | (rw [if_neg (by decide), decide_eq_true (by omega)]; rfl) | (rw [if_neg (by decide), decide_eq_false (by omega)]; rfl) | (cases pred <;> first | (rw [if_pos rfl, decide_eq_true (by omega)]; rfl) | (rw [if_pos rfl, decide_eq_false (by omega)]; rfl) | (rw [if_neg (by decide), decide_eq_true (by omega)]; rfl) | (rw [if_neg (by decide), decide_eq_false (by omega)]; rfl))) (.cons rfl (.cons rfl (.cons rfl .nil)))) (.refl _)
                · -- 45F
                  refine WL.val (v_move rfl rfl) (.some rfl rfl rfl) rfl rfl ?_
                  skip
                  cases pred
                  · -- 46F
                    refine WL.val ((v_neq_bool rfl rfl rfl Tryd.underlying4).f (by decide)) (.some rfl rfl rfl) rfl rfl ?_
                    refine WL.val (v_pick_f rfl rfl rfl) (.none rfl) rfl rfl ?_
                    refine WL.nil ?_
                    exact WE.mid () trivial (.eq rfl (by unfold fitsP; first | (rw [if_pos rfl, decide_eq_true (by omega)]; rfl) | (rw [if_pos rfl, decide_eq_false (by omega)]; rfl) | (rw [if_neg (by decide), decide_eq_true (by omega)]; rfl) | (rw [if_neg (by decide), decide_eq_false (by omega)]; rfl) | (cases pred <;> first | (rw [if_pos rfl, decide_eq_true (by omega)]; rfl) | (rw [if_pos rfl, decide_eq_false (by omega)]; rfl) | (rw [if_neg (by decide), decide_eq_true (by omega)]; rfl) | (rw [if_neg (by decide), decide_eq_false (by omega)]; rfl))) (.cons rfl (.cons rfl (.cons rfl .nil)))) (.refl _)
                  · -- 46T
                    refine WL.val ((v_neq_bool rfl rfl rfl Tryd.underlying4).t (by decide)) (.some rfl rfl rfl) rfl rfl ?_
                    refine WL.val (v_pick_f rfl rfl rfl) (.none rfl) rfl rfl ?_
                    refine WL.nil ?_
                    exact WE.mid () trivial (.eq rfl (by unfold fitsP; first | (rw [if_pos rfl, decide_eq_true (by omega)]; rfl) | (rw [if_pos rfl, decide_eq_false (by omega)]; rfl) | (rw [if_neg (by decide), decide_eq_true (by omega)]; rfl) | (rw [if_neg (by decide), decide_eq_false (by omega)]; rfl) | (cases pred <;> first | (rw [if_pos rfl, decide_eq_true (by omega)]; rfl) | (rw [if_pos rfl, decide_eq_false (by omega)]; rfl) | (rw [if_neg (by decide), decide_eq_true (by omega)]; rfl) | (rw [if_neg (by decide), decide_eq_false (by omega)]; rfl))) (.cons rfl (.cons rfl (.cons rfl .nil)))) (.refl _)
        · -- behind cutr3
          intro _ _
          rw [if_neg (by omega)] at e0
          generalize hfit : fitsP t.kind pred = fp
          refine WC.cond_b rfl (fun h48 => ?_) (fun h48 => ?_)
          · -- 48T
            refine WC.seq ?_
            refine WC.region ?_
            refine WL.val (v_assign rfl rfl) (.none rfl) rfl rfl ?_
            refine WL.val (v_assign rfl rfl) (.none rfl) rfl rfl ?_
            refine WL.nil ?_
            refine WE.then_n ?_
            refine WC.ret ?_
            refine WE.then_ret ?_
            refine WE.ret2 (P := Tryd.prog) (.inl rfl) Tryd.results23 rfl rfl ?_
            have hf : fp = false := (by cases fp <;> first | rfl | cases h48)
            exact fun w' h => ⟨by rw [walkR_err (e := 12) (by rw [e0, if_pos (by rw [hfit, hf])]) (by decide)], h.frm⟩
          · -- 48F
            refine WC.skip ?_
            refine WE.then_n ?_
            refine WC.cut (fun _ : Unit => [(10, .bool (decide (isFld t.f))), (4, .pointer (some ⟨g4, 0, none⟩)), (2, .int .i64 ahead), (3, .int .i64 deep)]) (fun _ => [.row g4 (ndL t)]) (fun _ => True) ?_ ?_
            · -- cutr5
              refine WC.region ?_
              refine WL.val (v_fieldAddr0 rfl rfl fld_52_1) (.none rfl) rfl rfl ?_
              refine WL.val (v_load1 rfl rfl one_3 (cellAt rfl)) (.none rfl) rfl rfl ?_
              refine WL.test (v_geq rfl rfl rfl) (.none rfl) rfl rfl (fun h51 => ?_) (fun h51 => ?_)
              · -- 51T
                refine WL.val (v_move rfl rfl) (.none rfl) rfl rfl ?_
                refine WL.val (v_fieldAddr0 rfl rfl fld_52_1) (.some rfl rfl rfl) rfl rfl ?_
                refine WL.val (v_load1 rfl rfl one_3 (cellAt rfl)) (.some rfl rfl rfl) rfl rfl ?_
                refine WL.test (v_lss rfl rfl rfl) (.some rfl rfl rfl) rfl rfl (fun h55 => ?_) (fun h55 => ?_)
                · -- 55T
                  refine WL.val (v_pick_t rfl rfl rfl) (.none rfl) rfl rfl ?_
                  refine WL.val (v_assign rfl rfl) (.none rfl) rfl rfl ?_
                  refine WL.nil ?_
                  exact WE.mid () trivial (.eq rfl (by rw [decide_eq_true (p := isFld t.f) ⟨h51, h55⟩]) (.cons rfl (.cons rfl (.cons rfl .nil)))) (.refl _)
                · -- 55F
                  refine WL.val (v_pick_t rfl rfl rfl) (.none rfl) rfl rfl ?_
                  refine WL.val (v_assign rfl rfl) (.none rfl) rfl rfl ?_
                  refine WL.nil ?_
                  exact WE.mid () trivial (.eq rfl (by rw [decide_eq_false (p := isFld t.f) (fun q => h55 q.2)]) (.cons rfl (.cons rfl (.cons rfl .nil)))) (.refl _)
              · -- 51F
                refine WL.val (v_move rfl rfl) (.none rfl) rfl rfl ?_
                refine WL.skip rfl rfl rfl rfl rfl rfl ?_
                refine WL.skip rfl rfl rfl rfl rfl rfl ?_
                refine WL.skip rfl rfl rfl rfl rfl rfl ?_
                refine WL.val (v_pick_f rfl rfl rfl) (.none rfl) rfl rfl ?_
                refine WL.val (v_assign rfl rfl) (.none rfl) rfl rfl ?_
                refine WL.nil ?_
                exact WE.mid () trivial (.eq rfl (by rw [decide_eq_false (p := isFld t.f) (fun q => h51 q.1)]) (.cons rfl (.cons rfl (.cons rfl .nil)))) (.refl _)
            · -- behind cutr5
              intro _ _
              have hf : fp = true := (by cases fp <;> first | rfl | cases h48)
              rw [if_neg (by rw [hfit, hf]; decide)] at e0
              refine WC.cut (fun _ : Unit => [(10, .bool (decide (isFld t.f))), (4, .pointer (some ⟨g4, 0, none⟩)), (2, .int .i64 ahead), (3, .int .i64 deep)]) (fun _ => [.row g4 (ndL t)]) (fun _ => t.kind = 3 → argE t = 0) ?_ ?_
              · -- cut59
                refine WC.seq ?_
                refine WC.region ?_
                refine WL.val (v_fieldAddr0 rfl rfl fld_52_0) (.none rfl) rfl rfl ?_
                refine WL.val (v_load1 rfl rfl one_3 (cellAt rfl)) (.none rfl) rfl rfl ?_
                refine WL.test (v_eql rfl rfl rfl) (.none rfl) rfl rfl (fun h59 => ?_) (fun h59 => ?_)
                · -- 59T
                  refine WL.nil ?_
                  refine WE.then_n ?_
                  refine WC.cond_t rfl ?_
                  refine WC.seq ?_
                  refine WC.seq ?_
                  refine WC.region ?_
                  refine WL.val (v_move rfl rfl) (.none rfl) rfl rfl ?_
                  generalize hb10 : decide (isFld t.f) = bb
                  cases bb
                  · -- 60F
                    refine WL.val (v_not rfl rfl rfl) (.none rfl) rfl rfl ?_
                    refine WL.nil ?_
                    refine WE.then_n ?_
                    refine WC.cond_t rfl ?_
                    refine WC.seq ?_
                    refine WC.region ?_
                    refine WL.val (v_assign rfl rfl) (.none rfl) rfl rfl ?_
                    refine WL.val (v_assign rfl rfl) (.none rfl) rfl rfl ?_
                    refine WL.nil ?_
                    refine WE.then_n ?_
                    refine WC.ret ?_
                    refine WE.then_ret ?_
                    refine WE.then_ret ?_
                    refine WE.ret2 (P := Tryd.prog) (.inl rfl) Tryd.results23 rfl rfl ?_
                    exact fun w' h => ⟨by rw [walkR_err (e := 1) (by rw [e0, show argE t = 1 by rw [arg3 h59, if_pos (.inl (of_decide_eq_false hb10))], if_pos (by decide)]) (by decide)], h.frm⟩
                  · -- 60T
                    refine WL.val (v_not rfl rfl rfl) (.none rfl) rfl rfl ?_
                    refine WL.nil ?_
                    refine WE.then_n ?_
                    refine WC.cond_f rfl ?_
                    refine WC.skip ?_
                    refine WE.then_n ?_
                    refine WC.seq ?_
                    refine WC.quiet mixed (by kernel_rfl) ?_
                    refine WQ.val (v_fieldAddr0 rfl rfl fld_52_3) (.none rfl) rfl rfl ?_
                    refine WQ.val (v_load1 rfl rfl one_22 (cellAt rfl)) (.none rfl) rfl rfl ?_
                    refine WQ.val (v_fieldAddr0 rfl rfl fld_52_1) (.none rfl) rfl rfl ?_
                    refine WQ.val (v_load1 rfl rfl one_3 (cellAt rfl)) (.none rfl) rfl rfl ?_
                    refine WQ.call _ rfl rfl ck_59 (.none rfl) rfl rfl (fun w hS => Calls.still (RFull_c w t.f (of_decide_eq_true hb10)) hS) ?_
                    refine WQ.test (v_gtr rfl rfl rfl) (.none rfl) rfl rfl (fun h67 => ?_) (fun h67 => ?_)
                    · -- 67T
                      refine WQ.val (v_move rfl rfl) (.none rfl) rfl rfl ?_
                      refine WQ.skip rfl rfl rfl rfl rfl rfl ?_
                      refine WQ.skip rfl rfl rfl rfl rfl rfl ?_
                      refine WQ.skip rfl rfl rfl rfl rfl rfl ?_
                      refine WQ.skip rfl rfl rfl rfl rfl rfl ?_
                      refine WQ.skip rfl rfl rfl rfl rfl rfl ?_
                      refine WQ.skip rfl rfl rfl rfl rfl rfl ?_
                      refine WQ.skip rfl rfl rfl rfl rfl rfl ?_
                      refine WQ.skip rfl rfl rfl rfl rfl rfl ?_
                      refine WQ.val (v_pick_t rfl rfl rfl) (.none rfl) rfl rfl ?_
                      refine WQ.nil ?_
                      refine WE.then_n ?_
                      refine WC.cond_t rfl ?_
                      refine WC.seq ?_
                      refine WC.region ?_
                      refine WL.val (v_assign rfl rfl) (.none rfl) rfl rfl ?_
                      refine WL.val (v_assign rfl rfl) (.none rfl) rfl rfl ?_
                      refine WL.nil ?_
                      refine WE.then_n ?_
                      refine WC.ret ?_
                      refine WE.then_ret ?_
                      refine WE.ret2 (P := Tryd.prog) (.inl rfl) Tryd.results23 rfl rfl ?_
                      exact fun w' h => ⟨by rw [walkR_err (e := 1) (by rw [e0, show argE t = 1 by rw [arg3 h59, if_pos (.inr (.inl (fun q => absurd ((andN_full hnums.2.2.2.1.1 _).1 q) (by omega))))], if_pos (by decide)]) (by decide)], h.frm⟩
                    · -- 67F
                      refine WQ.val (v_move rfl rfl) (.none rfl) rfl rfl ?_
                      refine WQ.val (v_fieldAddr0 rfl rfl fld_52_2) (.some rfl rfl rfl) rfl rfl ?_
                      refine WQ.val (v_load1 rfl rfl one_22 (cellAt rfl)) (.some rfl rfl rfl) rfl rfl ?_
                      refine WQ.val (v_fieldAddr0 rfl rfl fld_52_3) (.some rfl rfl rfl) rfl rfl ?_
                      refine WQ.val (v_load1 rfl rfl one_22 (cellAt rfl)) (.some rfl rfl rfl) rfl rfl ?_
                      refine WQ.val (v_and rfl rfl rfl (bits_and_u64 hnums.2.2.1.1 hnums.2.2.1.2 hnums.2.2.2.1.1 hnums.2.2.2.1.2)) (.some rfl rfl rfl) rfl rfl ?_
                      refine WQ.val (v_fieldAddr0 rfl rfl fld_52_2) (.some rfl rfl rfl) rfl rfl ?_
                      refine WQ.val (v_load1 rfl rfl one_22 (cellAt rfl)) (.some rfl rfl rfl) rfl rfl ?_
                      refine WQ.test (v_neq rfl rfl rfl) (.some rfl rfl rfl) rfl rfl (fun h76 => ?_) (fun h76 => ?_)
                      · -- 76T
                        refine WQ.val (v_pick_f rfl rfl rfl) (.none rfl) rfl rfl ?_
                        refine WQ.nil ?_
                        refine WE.then_n ?_
                        refine WC.cond_t rfl ?_
                        refine WC.seq ?_
                        refine WC.region ?_
                        refine WL.val (v_assign rfl rfl) (.none rfl) rfl rfl ?_
                        refine WL.val (v_assign rfl rfl) (.none rfl) rfl rfl ?_
                        refine WL.nil ?_
                        refine WE.then_n ?_
                        refine WC.ret ?_
                        refine WE.then_ret ?_
                        refine WE.ret2 (P := Tryd.prog) (.inl rfl) Tryd.results23 rfl rfl ?_
                        exact fun w' h => ⟨by rw [walkR_err (e := 1) (by rw [e0, show argE t = 1 by rw [arg3 h59, if_pos (.inr (.inr (fun q => h76 ((andNotN_zero hnums.2.2.1.1).1 q))))], if_pos (by decide)]) (by decide)], h.frm⟩
                      · -- 76F
                        refine WQ.val (v_pick_f rfl rfl rfl) (.none rfl) rfl rfl ?_
                        refine WQ.nil ?_
                        refine WE.then_n ?_
                        refine WC.cond_f rfl ?_
                        refine WC.skip ?_
                        exact WE.mid () (fun _ => by
                        rw [arg3 h59, if_neg]
                        rintro (q | q | q)
                        · exact q (of_decide_eq_true hb10)
                        · exact q ((andN_full hnums.2.2.2.1.1 _).2 (by omega))
                        · exact q ((andNotN_zero hnums.2.2.1.1).2 (Classical.not_not.1 h76))) (.eq rfl (by first | rfl | rw [hb10]) (.cons rfl (.cons rfl (.cons rfl .nil)))) (.refl _)
                · -- 59F
                  refine WL.nil ?_
                  refine WE.then_n ?_
                  refine WC.cond_f rfl ?_
                  refine WC.skip ?_
                  exact WE.mid () (fun q => absurd q h59) (.cons rfl (.cons rfl (.cons rfl (.cons rfl .nil)))) (.refl _)
              · -- behind cut59
                intro _ ha3
                refine WC.cut (fun _ : Unit => [(4, .pointer (some ⟨g4, 0, none⟩)), (2, .int .i64 ahead), (3, .int .i64 deep)]) (fun _ => [.row g4 (ndL t)]) (fun _ => argE t = 0) ?_ ?_
                · -- cut80
                  refine WC.seq ?_
                  refine WC.region ?_
                  refine WL.val (v_fieldAddr0 rfl rfl fld_52_0) (.none rfl) rfl rfl ?_
                  refine WL.val (v_load1 rfl rfl one_3 (cellAt rfl)) (.none rfl) rfl rfl ?_
                  refine WL.test (v_eql rfl rfl rfl) (.none rfl) rfl rfl (fun h80 => ?_) (fun h80 => ?_)
                  · -- 80T
                    refine WL.nil ?_
                    refine WE.then_n ?_
                    refine WC.cond_t rfl ?_
                    refine WC.seq ?_
                    refine WC.seq ?_
                    refine WC.region ?_
                    refine WL.val (v_move rfl rfl) (.none rfl) rfl rfl ?_
                    generalize hb10 : decide (isFld t.f) = bb
                    cases bb
                    · -- 81F
                      refine WL.val (v_not rfl rfl rfl) (.none rfl) rfl rfl ?_
                      refine WL.val (v_move rfl rfl) (.none rfl) rfl rfl ?_
                      refine WL.skip rfl rfl rfl rfl rfl rfl ?_
                      refine WL.skip rfl rfl rfl rfl rfl rfl ?_
                      refine WL.skip rfl rfl rfl rfl rfl rfl ?_
                      refine WL.val (v_pick_t rfl rfl rfl) (.none rfl) rfl rfl ?_
                      refine WL.val (v_move rfl rfl) (.none rfl) rfl rfl ?_
                      refine WL.skip rfl rfl rfl rfl rfl rfl ?_
                      refine WL.skip rfl rfl rfl rfl rfl rfl ?_
                      refine WL.skip rfl rfl rfl rfl rfl rfl ?_
                      refine WL.val (v_pick_t rfl rfl rfl) (.none rfl) rfl rfl ?_
                      refine WL.nil ?_
                      refine WE.then_n ?_
                      refine WC.cond_t rfl ?_
                      refine WC.seq ?_
                      refine WC.region ?_
                      refine WL.val (v_assign rfl rfl) (.none rfl) rfl rfl ?_
                      refine WL.val (v_assign rfl rfl) (.none rfl) rfl rfl ?_
                      refine WL.nil ?_
                      refine WE.then_n ?_
                      refine WC.ret ?_
                      refine WE.then_ret ?_
                      refine WE.then_ret ?_
                      refine WE.ret2 (P := Tryd.prog) (.inl rfl) Tryd.results23 rfl rfl ?_
                      exact fun w' h => ⟨by rw [walkR_err (e := 1) (by rw [e0, show argE t = 1 by rw [arg14 h80, if_pos (.inl (of_decide_eq_false hb10))], if_pos (by decide)]) (by decide)], h.frm⟩
                    · -- 81T
                      refine WL.val (v_not rfl rfl rfl) (.none rfl) rfl rfl ?_
                      refine WL.val (v_move rfl rfl) (.none rfl) rfl rfl ?_
                      refine WL.val (v_fieldAddr0 rfl rfl fld_52_1) (.some rfl rfl rfl) rfl rfl ?_
                      refine WL.val (v_load1 rfl rfl one_3 (cellAt rfl)) (.some rfl rfl rfl) rfl rfl ?_
                      refine WL.test (v_eql rfl rfl rfl) (.some rfl rfl rfl) rfl rfl (fun h86 => ?_) (fun h86 => ?_)
                      · -- 86T
                        refine WL.val (v_pick_f rfl rfl rfl) (.none rfl) rfl rfl ?_
                        refine WL.val (v_move rfl rfl) (.none rfl) rfl rfl ?_
                        refine WL.skip rfl rfl rfl rfl rfl rfl ?_
                        refine WL.skip rfl rfl rfl rfl rfl rfl ?_
                        refine WL.skip rfl rfl rfl rfl rfl rfl ?_
                        refine WL.val (v_pick_t rfl rfl rfl) (.none rfl) rfl rfl ?_
                        refine WL.nil ?_
                        refine WE.then_n ?_
                        refine WC.cond_t rfl ?_
                        refine WC.seq ?_
                        refine WC.region ?_
                        refine WL.val (v_assign rfl rfl) (.none rfl) rfl rfl ?_
                        refine WL.val (v_assign rfl rfl) (.none rfl) rfl rfl ?_
                        refine WL.nil ?_
                        refine WE.then_n ?_
                        refine WC.ret ?_
                        refine WE.then_ret ?_
                        refine WE.then_ret ?_
                        refine WE.ret2 (P := Tryd.prog) (.inl rfl) Tryd.results23 rfl rfl ?_
                        exact fun w' h => ⟨by rw [walkR_err (e := 1) (by rw [e0, show argE t = 1 by rw [arg14 h80, if_pos (.inr (.inl h86))], if_pos (by decide)]) (by decide)], h.frm⟩
                      · -- 86F
                        refine WL.val (v_pick_f rfl rfl rfl) (.none rfl) rfl rfl ?_
                        refine WL.val (v_move rfl rfl) (.none rfl) rfl rfl ?_
                        refine WL.val (v_fieldAddr0 rfl rfl fld_52_1) (.some rfl rfl rfl) rfl rfl ?_
                        refine WL.val (v_load1 rfl rfl one_3 (cellAt rfl)) (.some rfl rfl rfl) rfl rfl ?_
                        refine WL.test (v_eql rfl rfl rfl) (.some rfl rfl rfl) rfl rfl (fun h91 => ?_) (fun h91 => ?_)
                        · -- 91T
                          refine WL.val (v_pick_f rfl rfl rfl) (.none rfl) rfl rfl ?_
                          refine WL.nil ?_
                          refine WE.then_n ?_
                          refine WC.cond_t rfl ?_
                          refine WC.seq ?_
                          refine WC.region ?_
                          refine WL.val (v_assign rfl rfl) (.none rfl) rfl rfl ?_
                          refine WL.val (v_assign rfl rfl) (.none rfl) rfl rfl ?_
                          refine WL.nil ?_
                          refine WE.then_n ?_
                          refine WC.ret ?_
                          refine WE.then_ret ?_
                          refine WE.then_ret ?_
                          refine WE.ret2 (P := Tryd.prog) (.inl rfl) Tryd.results23 rfl rfl ?_
                          exact fun w' h => ⟨by rw [walkR_err (e := 1) (by rw [e0, show argE t = 1 by rw [arg14 h80, if_pos (.inr (.inr (.inl h91)))], if_pos (by decide)]) (by decide)], h.frm⟩
                        · -- 91F
                          refine WL.val (v_pick_f rfl rfl rfl) (.none rfl) rfl rfl ?_
                          refine WL.nil ?_
                          refine WE.then_n ?_
                          refine WC.cond_f rfl ?_
                          refine WC.skip ?_
                          refine WE.then_n ?_
                          refine WC.seq ?_
                          refine WC.quiet mixed (by kernel_rfl) ?_
                          refine WQ.val (v_fieldAddr0 rfl rfl fld_52_2) (.none rfl) rfl rfl ?_
                          refine WQ.val (v_load1 rfl rfl one_22 (cellAt rfl)) (.none rfl) rfl rfl ?_
                          refine WQ.val (v_fieldAddr0 rfl rfl fld_52_1) (.none rfl) rfl rfl ?_
                          refine WQ.val (v_load1 rfl rfl one_3 (cellAt rfl)) (.none rfl) rfl rfl ?_
                          refine WQ.call _ rfl rfl ck_59 (.none rfl) rfl rfl (fun w hS => Calls.still (RFull_c w t.f (of_decide_eq_true hb10)) hS) ?_
                          refine WQ.test (v_gtr rfl rfl rfl) (.none rfl) rfl rfl (fun h98 => ?_) (fun h98 => ?_)
                          · -- 98T
                            refine WQ.nil ?_
                            refine WE.then_n ?_
                            refine WC.cond_t rfl ?_
                            refine WC.seq ?_
                            refine WC.region ?_
                            refine WL.val (v_assign rfl rfl) (.none rfl) rfl rfl ?_
                            refine WL.val (v_assign rfl rfl) (.none rfl) rfl rfl ?_
                            refine WL.nil ?_
                            refine WE.then_n ?_
                            refine WC.ret ?_
                            refine WE.then_ret ?_
                            refine WE.ret2 (P := Tryd.prog) (.inl rfl) Tryd.results23 rfl rfl ?_
                            exact fun w' h => ⟨by rw [walkR_err (e := 1) (by rw [e0, show argE t = 1 by rw [arg14 h80, if_pos (.inr (.inr (.inr h98)))], if_pos (by decide)]) (by decide)], h.frm⟩
                          · -- 98F
                            refine WQ.nil ?_
                            refine WE.then_n ?_
                            refine WC.cond_f rfl ?_
                            refine WC.skip ?_
                            exact WE.mid () (by
                            rw [arg14 h80, if_neg]
                            rintro (q | q | q | q)
                            · exact q (of_decide_eq_true hb10)
                            · exact h86 q
                            · exact h91 q
                            · exact h98 q) (.cons rfl (.cons rfl (.cons rfl .nil))) (.refl _)
                  · -- 80F
                    refine WL.nil ?_
                    refine WE.then_n ?_
                    refine WC.cond_f rfl ?_
                    refine WC.skip ?_
                    exact WE.mid () (by
                    by_cases q : t.kind = 3
                    · exact ha3 q
                    · unfold argE; rw [if_neg q, if_neg h80]) (.cons rfl (.cons rfl (.cons rfl .nil))) (.refl _)
                · -- behind cut80
                  intro _ harg
                  rw [if_neg (fun q => q harg)] at e0
                  refine WC.seq ?_
                  refine WC.region ?_
                  refine WL.val (v_fieldAddr0 rfl rfl fld_52_4) (.none rfl) rfl rfl ?_
                  refine WL.val (v_load1 rfl rfl one_50 (cellAt rfl)) (.none rfl) rfl rfl ?_
                  refine WL.val (v_len_slice rfl rfl Tryd.underlying50) (.none rfl) rfl rfl ?_
                  refine WL.val (v_assign rfl rfl) (.none rfl) rfl rfl ?_
                  refine WL.nil ?_
                  refine WE.then_n ?_
                  refine WC.seq ?_
                  refine WC.region ?_
                  refine WL.val (v_move rfl rfl) (.none rfl) rfl rfl ?_
                  refine WL.val (v_eql rfl rfl rfl) (.none rfl) rfl rfl ?_
                  refine WL.val (v_assign rfl rfl) (.none rfl) rfl rfl ?_
                  refine WL.nil ?_
                  refine WE.then_n ?_
                  refine WC.cut (fun _ : Unit => [(12, .bool (okK t.kind t.kids.length)), (4, .pointer (some ⟨g4, 0, none⟩)), (2, .int .i64 ahead), (3, .int .i64 deep)]) (fun _ => [.row g4 (ndL t)]) (fun _ => True) ?_ ?_
                  · -- cutb0
                    refine WC.seq ?_
                    refine WC.region ?_
                    refine WL.val (v_fieldAddr0 rfl rfl fld_52_0) (.none rfl) rfl rfl ?_
                    refine WL.val (v_load1 rfl rfl one_3 (cellAt rfl)) (.none rfl) rfl rfl ?_
                    refine WL.nil ?_
                    refine WE.then_n ?_
                    refine WC.block ?_
                    refine WC.cut (fun _ : Unit => [(106, .bool (decide (t.kind = 4 ∨ t.kind = 13))), (105, .int .i64 t.kind), (11, .int .i64 t.kids.length), (12, .bool (decide ((t.kids.length : Int) = 0))), (4, .pointer (some ⟨g4, 0, none⟩)), (2, .int .i64 ahead), (3, .int .i64 deep)]) (fun _ => [.row g4 (ndL t)]) (fun _ => True) ?_ ?_
                    · -- cut106
                      refine WC.seq ?_
                      refine WC.region ?_
                      refine WL.test (v_eql rfl rfl rfl) (.none rfl) rfl rfl (fun h107 => ?_) (fun h107 => ?_)
                      · -- 107T
                        refine WL.val (v_assign rfl rfl) (.none rfl) rfl rfl ?_
                        refine WL.nil ?_
                        refine WE.then_n ?_
                        refine WC.cond_t rfl ?_
                        refine WC.skip ?_
                        exact WE.mid () trivial (.eq rfl (by first | rw [decide_eq_true (by omega)] | rw [decide_eq_false (by omega)]) (.cons rfl (.cons rfl (.cons rfl (.cons rfl (.cons rfl (.cons rfl .nil))))))) (.refl _)
                      · -- 107F
                        refine WL.val (v_assign rfl rfl) (.none rfl) rfl rfl ?_
                        refine WL.nil ?_
                        refine WE.then_n ?_
                        refine WC.cond_f rfl ?_
                        refine WC.region ?_
                        refine WL.test (v_eql rfl rfl rfl) (.none rfl) rfl rfl (fun h108 => ?_) (fun h108 => ?_)
                        · -- 108T
                          refine WL.val (v_assign rfl rfl) (.none rfl) rfl rfl ?_
                          refine WL.nil ?_
                          exact WE.mid () trivial (.eq rfl (by first | rw [decide_eq_true (by omega)] | rw [decide_eq_false (by omega)]) (.cons rfl (.cons rfl (.cons rfl (.cons rfl (.cons rfl (.cons rfl .nil))))))) (.refl _)
                        · -- 108F
                          refine WL.val (v_assign rfl rfl) (.none rfl) rfl rfl ?_
                          refine WL.nil ?_
                          exact WE.mid () trivial (.eq rfl (by first | rw [decide_eq_true (by omega)] | rw [decide_eq_false (by omega)]) (.cons rfl (.cons rfl (.cons rfl (.cons rfl (.cons rfl (.cons rfl .nil))))))) (.refl _)
                    · -- behind cut106
                      intro _ _
                      refine WC.cond_d rfl (fun h106 => ?_) (fun h106 => ?_)
                      · -- 106T
                        refine WC.region ?_
                        refine WL.val (v_move rfl rfl) (.none rfl) rfl rfl ?_
                        refine WL.val (v_eql rfl rfl rfl) (.none rfl) rfl rfl ?_
                        refine WL.val (v_assign rfl rfl) (.none rfl) rfl rfl ?_
                        refine WL.nil ?_
                        refine WE.block_n ?_
                        exact WE.mid () trivial (.eq rfl (by unfold okK; rw [if_pos h106]) (.cons rfl (.cons rfl (.cons rfl .nil)))) (.refl _)
                      · -- 106F
                        refine WC.cut (fun _ : Unit => [(111, .bool (decide (t.kind = 5 ∨ t.kind = 6 ∨ t.kind = 15 ∨ t.kind = 16))), (105, .int .i64 t.kind), (11, .int .i64 t.kids.length), (12, .bool (decide ((t.kids.length : Int) = 0))), (4, .pointer (some ⟨g4, 0, none⟩)), (2, .int .i64 ahead), (3, .int .i64 deep)]) (fun _ => [.row g4 (ndL t)]) (fun _ => True) ?_ ?_
                        · -- cut111
                          refine WC.seq ?_
                          refine WC.region ?_
                          refine WL.test (v_eql rfl rfl rfl) (.none rfl) rfl rfl (fun h112 => ?_) (fun h112 => ?_)
                          · -- 112T
                            refine WL.val (v_assign rfl rfl) (.none rfl) rfl rfl ?_
                            refine WL.nil ?_
                            refine WE.then_n ?_
                            refine WC.cond_t rfl ?_
                            refine WC.skip ?_
                            exact WE.mid () trivial (.eq rfl (by first | rw [decide_eq_true (by omega)] | rw [decide_eq_false (by omega)]) (.cons rfl (.cons rfl (.cons rfl (.cons rfl (.cons rfl (.cons rfl .nil))))))) (.refl _)
                          · -- 112F
                            refine WL.val (v_assign rfl rfl) (.none rfl) rfl rfl ?_
                            refine WL.nil ?_
                            refine WE.then_n ?_
                            refine WC.cond_f rfl ?_
                            refine WC.seq ?_
                            refine WC.region ?_
                            refine WL.test (v_eql rfl rfl rfl) (.none rfl) rfl rfl (fun h113 => ?_) (fun h113 => ?_)
                            · -- 113T
                              refine WL.val (v_assign rfl rfl) (.none rfl) rfl rfl ?_
                              refine WL.nil ?_
                              refine WE.then_n ?_
                              refine WC.cond_t rfl ?_
                              refine WC.skip ?_
                              exact WE.mid () trivial (.eq rfl (by first | rw [decide_eq_true (by omega)] | rw [decide_eq_false (by omega)]) (.cons rfl (.cons rfl (.cons rfl (.cons rfl (.cons rfl (.cons rfl .nil))))))) (.refl _)
                            · -- 113F
                              refine WL.val (v_assign rfl rfl) (.none rfl) rfl rfl ?_
                              refine WL.nil ?_
                              refine WE.then_n ?_
                              refine WC.cond_f rfl ?_
                              refine WC.seq ?_
                              refine WC.region ?_
                              refine WL.test (v_eql rfl rfl rfl) (.none rfl) rfl rfl (fun h114 => ?_) (fun h114 => ?_)
                              · -- 114T
                                refine WL.val (v_assign rfl rfl) (.none rfl) rfl rfl ?_
                                refine WL.nil ?_
                                refine WE.then_n ?_
                                refine WC.cond_t rfl ?_
                                refine WC.skip ?_
                                exact WE.mid () trivial (.eq rfl (by first | rw [decide_eq_true (by omega)] | rw [decide_eq_false (by omega)]) (.cons rfl (.cons rfl (.cons rfl (.cons rfl (.cons rfl (.cons rfl .nil))))))) (.refl _)
                              · -- 114F
                                refine WL.val (v_assign rfl rfl) (.none rfl) rfl rfl ?_
                                refine WL.nil ?_
                                refine WE.then_n ?_
                                refine WC.cond_f rfl ?_
                                refine WC.region ?_
                                refine WL.test (v_eql rfl rfl rfl) (.none rfl) rfl rfl (fun h115 => ?_) (fun h115 => ?_)
                                · -- 115T
                                  refine WL.val (v_assign rfl rfl) (.none rfl) rfl rfl ?_
                                  refine WL.nil ?_
                                  exact WE.mid () trivial (.eq rfl (by first | rw [decide_eq_true (by omega)] | rw [decide_eq_false (by omega)]) (.cons rfl (.cons rfl (.cons rfl (.cons rfl (.cons rfl (.cons rfl .nil))))))) (.refl _)
                                · -- 115F
                                  refine WL.val (v_assign rfl rfl) (.none rfl) rfl rfl ?_
                                  refine WL.nil ?_
                                  exact WE.mid () trivial (.eq rfl (by first | rw [decide_eq_true (by omega)] | rw [decide_eq_false (by omega)]) (.cons rfl (.cons rfl (.cons rfl (.cons rfl (.cons rfl (.cons rfl .nil))))))) (.refl _)
                        · -- behind cut111
                          intro _ _
                          refine WC.cond_d rfl (fun h111 => ?_) (fun h111 => ?_)
                          · -- 111T
                            refine WC.region ?_
                            refine WL.val (v_move rfl rfl) (.none rfl) rfl rfl ?_
                            refine WL.val (v_leq rfl rfl rfl) (.none rfl) rfl rfl ?_
                            refine WL.val (v_assign rfl rfl) (.none rfl) rfl rfl ?_
                            refine WL.nil ?_
                            refine WE.block_n ?_
                            exact WE.mid () trivial (.eq rfl (by unfold okK; rw [if_neg h106, if_pos h111]) (.cons rfl (.cons rfl (.cons rfl .nil)))) (.refl _)
                          · -- 111F
                            refine WC.seq ?_
                            refine WC.region ?_
                            refine WL.test (v_eql rfl rfl rfl) (.none rfl) rfl rfl (fun h119 => ?_) (fun h119 => ?_)
                            · -- 119T
                              refine WL.val (v_assign rfl rfl) (.none rfl) rfl rfl ?_
                              refine WL.nil ?_
                              refine WE.then_n ?_
                              refine WC.cond_t rfl ?_
                              refine WC.region ?_
                              refine WL.val (v_move rfl rfl) (.none rfl) rfl rfl ?_
                              refine WL.val (v_eql rfl rfl rfl) (.none rfl) rfl rfl ?_
                              refine WL.val (v_assign rfl rfl) (.none rfl) rfl rfl ?_
                              refine WL.nil ?_
                              refine WE.block_n ?_
                              exact WE.mid () trivial (.eq rfl (by unfold okK; rw [if_neg h106, if_neg h111, if_pos h119]) (.cons rfl (.cons rfl (.cons rfl .nil)))) (.refl _)
                            · -- 119F
                              refine WL.val (v_assign rfl rfl) (.none rfl) rfl rfl ?_
                              refine WL.nil ?_
                              refine WE.then_n ?_
                              refine WC.cond_f rfl ?_
                              refine WC.skip ?_
                              refine WE.block_n ?_
                              exact WE.mid () trivial (.eq rfl (by unfold okK; rw [if_neg h106, if_neg h111, if_neg h119]) (.cons rfl (.cons rfl (.cons rfl .nil)))) (.refl _)
                  · -- behind cutb0
                    intro _ _
                    rw [okK_form]
                    refine WC.seq ?_
                    refine WC.seq ?_
                    refine WC.region ?_
                    refine WL.val (v_move rfl rfl) (.none rfl) rfl rfl ?_
                    generalize hb12 : decide (formE t = 0) = bb
                    cases bb
                    · -- 122F
                      refine WL.val (v_not rfl rfl rfl) (.none rfl) rfl rfl ?_
                      refine WL.nil ?_
                      refine WE.then_n ?_
                      refine WC.cond_t rfl ?_
                      refine WC.seq ?_
                      refine WC.region ?_
                      refine WL.val (v_assign rfl rfl) (.none rfl) rfl rfl ?_
                      refine WL.val (v_assign rfl rfl) (.none rfl) rfl rfl ?_
                      refine WL.nil ?_
                      refine WE.then_n ?_
                      refine WC.ret ?_
                      refine WE.then_ret ?_
                      refine WE.ret2 (P := Tryd.prog) (.inl rfl) Tryd.results23 rfl rfl ?_
                      exact fun w' h => ⟨by rw [walkR_err (e := 2) (by rw [e0, if_pos (of_decide_eq_false hb12)]; unfold formE; rw [if_pos (formE_no (of_decide_eq_false hb12))]) (by decide)], h.frm⟩
                    · -- 122T
                      refine WL.val (v_not rfl rfl rfl) (.none rfl) rfl rfl ?_
                      refine WL.nil ?_
                      refine WE.then_n ?_
                      refine WC.cond_f rfl ?_
                      refine WC.skip ?_
                      refine WE.then_n ?_
                      refine WC.seq ?_
                      refine WC.region ?_
                      refine WL.val (v_assign rfl rfl) (.none rfl) rfl rfl ?_
                      refine WL.nil ?_
                      refine WE.then_n ?_
                      refine WC.seq ?_
                      refine WC.seq ?_
                      refine WC.region ?_
                      have hform := of_decide_eq_true hb12
                      rw [if_neg (fun q => q hform)] at e0
                      have hfl := formE_le hform
                      refine WL.val (v_fieldAddr0 rfl rfl fld_52_4) (.none rfl) rfl rfl ?_
                      refine WL.val (v_load1 rfl rfl one_50 (cellAt rfl)) (.none rfl) rfl rfl ?_
                      refine WL.val (v_len_slice rfl rfl Tryd.underlying50) (.none rfl) rfl rfl ?_
                      refine WL.val (v_move rfl rfl) (.none rfl) rfl rfl ?_
                      refine WL.nil ?_
                      refine WE.then_n ?_
                      refine WC.block ?_
                      refine WC.loop (fun x : Nat × Int => [(127, .int .i64 x.1), (126, .int .i64 t.kids.length), (125, .slice t.ad t.kids.length t.cap), (13, .int .i64 x.2), (4, .pointer (some ⟨g4, 0, none⟩)), (2, .int .i64 ahead), (3, .int .i64 deep)]) (fun _ => [.row g4 (ndL t)]) (fun x => x.1 ≤ t.kids.length ∧ 1 ≤ x.2 ∧ ahead + x.2 ≤ 64 ∧ walkKs t.kind x.1 (t.kids.drop x.1) (deep + 1) (ahead + x.2) = walkT t deep pred ahead) (fun x => t.kids.length - x.1) (0, 1) ⟨Nat.zero_le _, by dsimp only; omega, by dsimp only; omega, e0.symm⟩ (.cons rfl (.cons rfl (.cons rfl (.cons rfl (.cons rfl (.cons rfl (.cons rfl .nil))))))) (.refl _) ?_
                      rintro ⟨k, all⟩ ⟨hk, hl0, hl1, hw⟩
                      dsimp only at hk hl0 hl1 hw
                      dsimp only
                      refine WC.seq ?_
                      refine WC.region ?_
                      refine WL.test (v_lss rfl rfl rfl) (.none rfl) rfl rfl (fun h128 => ?_) (fun h128 => ?_)
                      · -- 128T
                        refine WL.nil ?_
                        refine WE.then_n ?_
                        refine WC.seq ?_
                        refine WC.cond_t rfl ?_
                        refine WC.skip ?_
                        refine WE.then_n ?_
                        refine WC.seq ?_
                        refine WC.block ?_
                        refine WC.seq ?_
                        refine WC.region ?_
                        refine WL.val (v_move rfl rfl) (.none rfl) rfl rfl ?_
                        obtain ⟨u, hu⟩ : ∃ u, t.kids[k]? = some u := ⟨t.kids[k]'(by omega), List.getElem?_eq_getElem _⟩
                        obtain ⟨b, o, ea, _⟩ := (hA.kid hu).1
                        rw [drop_cons hu, walkKs] at hw
                        have hnf : (1 : Int) ≤ t.kids.length := (by omega)
                        have hk46 : t.kind = 4 ∨ t.kind = 5 ∨ t.kind = 6 ∨ t.kind = 13 ∨ t.kind = 15 ∨ t.kind = 16 ∨ t.kind = 17 := kids_kind hfl.2 hnf
                        refine WL.val (v_indexAddr (b := b) (off := o) (lo := k) rfl (by show some (Value.slice t.ad _ _) = _; rw [ea]) rfl Tryd.underlying50 sz_52 rfl (by omega)) (.none rfl) rfl rfl ?_
                        refine WL.val (v_loadN (cs := ndL u) rfl rfl many_52 rfl (rangeIn (fun h => h) (hA.kidAt hu ea))) (.none rfl) rfl rfl ?_
                        refine WL.alloc rfl zero_52 (.none rfl) rfl rfl ?_
                        intro g15 hg15
                        refine WL.val (v_assign rfl rfl) (.none rfl) rfl rfl ?_
                        refine WL.storeW rfl rfl rfl rfl many_52 rfl rfl (.none rfl) rfl ?_
                        refine WL.nil ?_
                        refine WE.then_n ?_
                        refine WC.cut (fun r : Int × Int => [(16, .int .i64 (if r.1 ≠ 0 then 0 else r.2 - (ahead + all))), (17, .int .i64 r.1), (127, .int .i64 k), (126, .int .i64 t.kids.length), (125, .slice t.ad t.kids.length t.cap), (13, .int .i64 all), (4, .pointer (some ⟨g4, 0, none⟩)), (2, .int .i64 ahead), (3, .int .i64 deep)]) (fun _ => [.row g4 (ndL t)]) (fun r => r = walkT u (deep + 1) (predK t.kind k) (ahead + all)) ?_ ?_
                        · -- cutr35
                          refine WC.region ?_
                          refine WL.val (v_loadN rfl rfl many_52 rfl allAt) (.none rfl) rfl rfl ?_
                          refine WL.val (v_fieldAddr0 rfl rfl fld_52_0) (.none rfl) rfl rfl ?_
                          refine WL.val (v_load1 rfl rfl one_3 (cellAt rfl)) (.none rfl) rfl rfl ?_
                          refine WL.test (v_leq rfl rfl rfl) (.none rfl) rfl rfl (fun h136 => ?_) (fun h136 => ?_)
                          · -- 136T
                            refine WL.val (v_move rfl rfl) (.none rfl) rfl rfl ?_
                            refine WL.skip rfl rfl rfl rfl rfl rfl ?_
                            refine WL.skip rfl rfl rfl rfl rfl rfl ?_
                            refine WL.skip rfl rfl rfl rfl rfl rfl ?_
                            refine WL.val (v_pick_t rfl rfl rfl) (.none rfl) rfl rfl ?_
                            refine WL.val (v_move rfl rfl) (.none rfl) rfl rfl ?_
                            refine WL.skip rfl rfl rfl rfl rfl rfl ?_
                            refine WL.skip rfl rfl rfl rfl rfl rfl ?_
                            refine WL.skip rfl rfl rfl rfl rfl rfl ?_
                            refine WL.skip rfl rfl rfl rfl rfl rfl ?_
                            refine WL.skip rfl rfl rfl rfl rfl rfl ?_
                            refine WL.skip rfl rfl rfl rfl rfl rfl ?_
                            refine WL.skip rfl rfl rfl rfl rfl rfl ?_
                            refine WL.val (v_pick_t rfl rfl rfl) (.none rfl) rfl rfl ?_
                            refine WL.val (v_move rfl rfl) (.none rfl) rfl rfl ?_
                            refine WL.val (v_move rfl rfl) (.none rfl) rfl rfl ?_
                            refine WL.val (v_add rfl rfl rfl (w_i64 (by omega) (by omega))) (.none rfl) rfl rfl ?_
                            refine WL.val (v_move rfl rfl) (.none rfl) rfl rfl ?_
                            refine WL.val (v_add rfl rfl rfl (w_i64 (by omega) (by omega))) (.none rfl) rfl rfl ?_
                            refine WL.call rfl rfl ck_23 (.none rfl) rfl rfl ?_
                            intro w1 hS
                            have hpk : predK t.kind k = true := by unfold predK; exact decide_eq_true (by omega)
                            refine (RWalk_c N u (Nd.kidN hN hu) w1 true (ahead + all) (deep + 1) (hI.kids.get _ _ _ hu) ((hA.kid hu).2.st (fun _ h => h) hS) (by omega) (by omega) (by omega) (by omega)).mono ?_
                            rintro e w' ⟨rfl, hF⟩
                            rw [walkR_if, ← hpk]
                            refine ⟨_, _, rfl, hS.ext hF, ?_⟩
                            refine WL.val (v_move rfl rfl) (.none rfl) rfl rfl ?_
                            refine WL.val (v_extract rfl rfl rfl) (.none rfl) rfl rfl ?_
                            refine WL.val (v_extract rfl rfl rfl) (.none rfl) rfl rfl ?_
                            refine WL.val (v_assign rfl rfl) (.none rfl) rfl rfl ?_
                            refine WL.val (v_assign rfl rfl) (.none rfl) rfl rfl ?_
                            refine WL.nil ?_
                            exact WE.mid (walkT u (deep + 1) (predK t.kind k) (ahead + all)) rfl (.cons rfl (.cons rfl (.cons rfl (.cons rfl (.cons rfl (.cons rfl (.cons rfl (.cons rfl (.cons rfl .nil))))))))) (.cons _ (.refl _))
                          · -- 136F
                            refine WL.val (v_move rfl rfl) (.none rfl) rfl rfl ?_
                            refine WL.val (v_fieldAddr0 rfl rfl fld_52_0) (.some rfl rfl rfl) rfl rfl ?_
                            refine WL.val (v_load1 rfl rfl one_3 (cellAt rfl)) (.some rfl rfl rfl) rfl rfl ?_
                            refine WL.test (v_eql rfl rfl rfl) (.some rfl rfl rfl) rfl rfl (fun h140 => ?_) (fun h140 => ?_)
                            · -- 140T
                              refine WL.val (v_pick_f rfl rfl rfl) (.none rfl) rfl rfl ?_
                              refine WL.val (v_move rfl rfl) (.none rfl) rfl rfl ?_
                              refine WL.skip rfl rfl rfl rfl rfl rfl ?_
                              refine WL.skip rfl rfl rfl rfl rfl rfl ?_
                              refine WL.skip rfl rfl rfl rfl rfl rfl ?_
                              refine WL.skip rfl rfl rfl rfl rfl rfl ?_
                              refine WL.skip rfl rfl rfl rfl rfl rfl ?_
                              refine WL.skip rfl rfl rfl rfl rfl rfl ?_
                              refine WL.skip rfl rfl rfl rfl rfl rfl ?_
                              refine WL.val (v_pick_t rfl rfl rfl) (.none rfl) rfl rfl ?_
                              refine WL.val (v_move rfl rfl) (.none rfl) rfl rfl ?_
                              refine WL.val (v_move rfl rfl) (.none rfl) rfl rfl ?_
                              refine WL.val (v_add rfl rfl rfl (w_i64 (by omega) (by omega))) (.none rfl) rfl rfl ?_
                              refine WL.val (v_move rfl rfl) (.none rfl) rfl rfl ?_
                              refine WL.val (v_add rfl rfl rfl (w_i64 (by omega) (by omega))) (.none rfl) rfl rfl ?_
                              refine WL.call rfl rfl ck_23 (.none rfl) rfl rfl ?_
                              intro w1 hS
                              have hpk : predK t.kind k = true := by unfold predK; exact decide_eq_true (by omega)
                              refine (RWalk_c N u (Nd.kidN hN hu) w1 true (ahead + all) (deep + 1) (hI.kids.get _ _ _ hu) ((hA.kid hu).2.st (fun _ h => h) hS) (by omega) (by omega) (by omega) (by omega)).mono ?_
                              rintro e w' ⟨rfl, hF⟩
                              rw [walkR_if, ← hpk]
                              refine ⟨_, _, rfl, hS.ext hF, ?_⟩
                              refine WL.val (v_move rfl rfl) (.none rfl) rfl rfl ?_
                              refine WL.val (v_extract rfl rfl rfl) (.none rfl) rfl rfl ?_
                              refine WL.val (v_extract rfl rfl rfl) (.none rfl) rfl rfl ?_
                              refine WL.val (v_assign rfl rfl) (.none rfl) rfl rfl ?_
                              refine WL.val (v_assign rfl rfl) (.none rfl) rfl rfl ?_
                              refine WL.nil ?_
                              exact WE.mid (walkT u (deep + 1) (predK t.kind k) (ahead + all)) rfl (.cons rfl (.cons rfl (.cons rfl (.cons rfl (.cons rfl (.cons rfl (.cons rfl (.cons rfl (.cons rfl .nil))))))))) (.cons _ (.refl _))
                            · -- 140F
                              refine WL.val (v_pick_f rfl rfl rfl) (.none rfl) rfl rfl ?_
                              refine WL.val (v_move rfl rfl) (.none rfl) rfl rfl ?_
                              refine WL.val (v_fieldAddr0 rfl rfl fld_52_0) (.some rfl rfl rfl) rfl rfl ?_
                              refine WL.val (v_load1 rfl rfl one_3 (cellAt rfl)) (.some rfl rfl rfl) rfl rfl ?_
                              refine WL.test (v_eql rfl rfl rfl) (.some rfl rfl rfl) rfl rfl (fun h145 => ?_) (fun h145 => ?_)
                              · -- 145T
                                refine WL.val (v_move rfl rfl) (.some rfl rfl rfl) rfl rfl ?_
                                refine WL.val (v_move rfl rfl) (.some rfl rfl rfl) rfl rfl ?_
                                refine WL.test (v_eql rfl rfl rfl) (.some rfl rfl rfl) rfl rfl (fun h148 => ?_) (fun h148 => ?_)
                                · -- 148T
                                  refine WL.val (v_pick_t rfl rfl rfl) (.some rfl rfl rfl) rfl rfl ?_
                                  refine WL.val (v_pick_f rfl rfl rfl) (.none rfl) rfl rfl ?_
                                  refine WL.val (v_move rfl rfl) (.none rfl) rfl rfl ?_
                                  refine WL.val (v_move rfl rfl) (.none rfl) rfl rfl ?_
                                  refine WL.val (v_add rfl rfl rfl (w_i64 (by omega) (by omega))) (.none rfl) rfl rfl ?_
                                  refine WL.val (v_move rfl rfl) (.none rfl) rfl rfl ?_
                                  refine WL.val (v_add rfl rfl rfl (w_i64 (by omega) (by omega))) (.none rfl) rfl rfl ?_
                                  refine WL.call rfl rfl ck_23 (.none rfl) rfl rfl ?_
                                  intro w1 hS
                                  have hpk : predK t.kind k = true := by unfold predK; exact decide_eq_true (by omega)
                                  refine (RWalk_c N u (Nd.kidN hN hu) w1 true (ahead + all) (deep + 1) (hI.kids.get _ _ _ hu) ((hA.kid hu).2.st (fun _ h => h) hS) (by omega) (by omega) (by omega) (by omega)).mono ?_
                                  rintro e w' ⟨rfl, hF⟩
                                  rw [walkR_if, ← hpk]
                                  refine ⟨_, _, rfl, hS.ext hF, ?_⟩
                                  refine WL.val (v_move rfl rfl) (.none rfl) rfl rfl ?_
                                  refine WL.val (v_extract rfl rfl rfl) (.none rfl) rfl rfl ?_
                                  refine WL.val (v_extract rfl rfl rfl) (.none rfl) rfl rfl ?_
                                  refine WL.val (v_assign rfl rfl) (.none rfl) rfl rfl ?_
                                  refine WL.val (v_assign rfl rfl) (.none rfl) rfl rfl ?_
                                  refine WL.nil ?_
                                  exact WE.mid (walkT u (deep + 1) (predK t.kind k) (ahead + all)) rfl (.cons rfl (.cons rfl (.cons rfl (.cons rfl (.cons rfl (.cons rfl (.cons rfl (.cons rfl (.cons rfl .nil))))))))) (.cons _ (.refl _))
                                · -- 148F
                                  refine WL.val (v_pick_t rfl rfl rfl) (.some rfl rfl rfl) rfl rfl ?_
                                  refine WL.val (v_pick_f rfl rfl rfl) (.none rfl) rfl rfl ?_
                                  refine WL.val (v_move rfl rfl) (.none rfl) rfl rfl ?_
                                  refine WL.val (v_move rfl rfl) (.none rfl) rfl rfl ?_
                                  refine WL.val (v_add rfl rfl rfl (w_i64 (by omega) (by omega))) (.none rfl) rfl rfl ?_
                                  refine WL.val (v_move rfl rfl) (.none rfl) rfl rfl ?_
                                  refine WL.val (v_add rfl rfl rfl (w_i64 (by omega) (by omega))) (.none rfl) rfl rfl ?_
                                  refine WL.call rfl rfl ck_23 (.none rfl) rfl rfl ?_
                                  intro w1 hS
                                  have hpk : predK t.kind k = false := by unfold predK; exact decide_eq_false (by omega)
                                  refine (RWalk_c N u (Nd.kidN hN hu) w1 false (ahead + all) (deep + 1) (hI.kids.get _ _ _ hu) ((hA.kid hu).2.st (fun _ h => h) hS) (by omega) (by omega) (by omega) (by omega)).mono ?_
                                  rintro e w' ⟨rfl, hF⟩
                                  rw [walkR_if, ← hpk]
                                  refine ⟨_, _, rfl, hS.ext hF, ?_⟩
                                  refine WL.val (v_move rfl rfl) (.none rfl) rfl rfl ?_
                                  refine WL.val (v_extract rfl rfl rfl) (.none rfl) rfl rfl ?_
                                  refine WL.val (v_extract rfl rfl rfl) (.none rfl) rfl rfl ?_
                                  refine WL.val (v_assign rfl rfl) (.none rfl) rfl rfl ?_
                                  refine WL.val (v_assign rfl rfl) (.none rfl) rfl rfl ?_
                                  refine WL.nil ?_
                                  exact WE.mid (walkT u (deep + 1) (predK t.kind k) (ahead + all)) rfl (.cons rfl (.cons rfl (.cons rfl (.cons rfl (.cons rfl (.cons rfl (.cons rfl (.cons rfl (.cons rfl .nil))))))))) (.cons _ (.refl _))
                              · -- 145F
                                refine WL.val (v_move rfl rfl) (.some rfl rfl rfl) rfl rfl ?_
                                refine WL.skip rfl rfl rfl rfl rfl rfl ?_
                                refine WL.skip rfl rfl rfl rfl rfl rfl ?_
                                refine WL.val (v_pick_f rfl rfl rfl) (.some rfl rfl rfl) rfl rfl ?_
                                refine WL.val (v_pick_f rfl rfl rfl) (.none rfl) rfl rfl ?_
                                refine WL.val (v_move rfl rfl) (.none rfl) rfl rfl ?_
                                refine WL.val (v_move rfl rfl) (.none rfl) rfl rfl ?_
                                refine WL.val (v_add rfl rfl rfl (w_i64 (by omega) (by omega))) (.none rfl) rfl rfl ?_
                                refine WL.val (v_move rfl rfl) (.none rfl) rfl rfl ?_
                                refine WL.val (v_add rfl rfl rfl (w_i64 (by omega) (by omega))) (.none rfl) rfl rfl ?_
                                refine WL.call rfl rfl ck_23 (.none rfl) rfl rfl ?_
                                intro w1 hS
                                have hpk : predK t.kind k = false := by unfold predK; exact decide_eq_false (by omega)
                                refine (RWalk_c N u (Nd.kidN hN hu) w1 false (ahead + all) (deep + 1) (hI.kids.get _ _ _ hu) ((hA.kid hu).2.st (fun _ h => h) hS) (by omega) (by omega) (by omega) (by omega)).mono ?_
                                rintro e w' ⟨rfl, hF⟩
                                rw [walkR_if, ← hpk]
                                refine ⟨_, _, rfl, hS.ext hF, ?_⟩
                                refine WL.val (v_move rfl rfl) (.none rfl) rfl rfl ?_
                                refine WL.val (v_extract rfl rfl rfl) (.none rfl) rfl rfl ?_
                                refine WL.val (v_extract rfl rfl rfl) (.none rfl) rfl rfl ?_
                                refine WL.val (v_assign rfl rfl) (.none rfl) rfl rfl ?_
                                refine WL.val (v_assign rfl rfl) (.none rfl) rfl rfl ?_
                                refine WL.nil ?_
                                exact WE.mid (walkT u (deep + 1) (predK t.kind k) (ahead + all)) rfl (.cons rfl (.cons rfl (.cons rfl (.cons rfl (.cons rfl (.cons rfl (.cons rfl (.cons rfl (.cons rfl .nil))))))))) (.cons _ (.refl _))
                        · -- behind cutr35
                          rintro r hr
                          rw [← hr] at hw
                          refine WC.seq ?_
                          refine WC.seq ?_
                          refine WC.region ?_
                          refine WL.val (v_move rfl rfl) (.none rfl) rfl rfl ?_
                          refine WL.test (v_neq rfl rfl rfl) (.none rfl) rfl rfl (fun h160 => ?_) (fun h160 => ?_)
                          · -- 160T
                            refine WL.nil ?_
                            refine WE.then_n ?_
                            refine WC.cond_t rfl ?_
                            refine WC.seq ?_
                            refine WC.region ?_
                            refine WL.val (v_move rfl rfl) (.none rfl) rfl rfl ?_
                            refine WL.val (v_assign rfl rfl) (.none rfl) rfl rfl ?_
                            refine WL.val (v_assign rfl rfl) (.none rfl) rfl rfl ?_
                            refine WL.nil ?_
                            refine WE.then_n ?_
                            refine WC.ret ?_
                            refine WE.then_ret ?_
                            refine WE.block_ret ?_
                            refine WE.then_ret ?_
                            refine WE.then_ret ?_
                            refine WE.block_ret ?_
                            refine WE.then_ret ?_
                            refine WE.ret2 (P := Tryd.prog) (.inl rfl) Tryd.results23 rfl rfl ?_
                            rw [if_pos h160] at hw
                            exact fun w' h => ⟨by rw [walkR_err (e := r.1) (by rw [← hw]) h160], h.frm⟩
                          · -- 160F
                            refine WL.nil ?_
                            refine WE.then_n ?_
                            refine WC.cond_f rfl ?_
                            refine WC.skip ?_
                            refine WE.then_n ?_
                            refine WC.region ?_
                            have h160' : r.1 = 0 := Classical.not_not.1 h160
                            rw [if_neg h160] at hw ⊢
                            have hle := walkT_le u (deep + 1) (predK t.kind k) (ahead + all) (by omega) (by rw [← hr]; exact h160')
                            rw [← hr] at hle
                            refine WL.val (v_move rfl rfl) (.none rfl) rfl rfl ?_
                            refine WL.val (v_move rfl rfl) (.none rfl) rfl rfl ?_
                            refine WL.val (v_add rfl rfl rfl (w_i64 (by omega) (by omega))) (.none rfl) rfl rfl ?_
                            refine WL.val (v_assign rfl rfl) (.none rfl) rfl rfl ?_
                            refine WL.nil ?_
                            refine WE.block_n ?_
                            refine WE.then_n ?_
                            refine WC.region ?_
                            refine WL.val (v_add rfl rfl rfl (w_i64 (by omega) (by omega))) (.none rfl) rfl rfl ?_
                            refine WL.val (v_move rfl rfl) (.none rfl) rfl rfl ?_
                            refine WL.nil ?_
                            exact WE.next (k + 1, r.2 - ahead) (by dsimp only; omega) ⟨by dsimp only; omega, by dsimp only; omega, by dsimp only; omega, by rw [show ahead + (r.2 - ahead) = r.2 by omega]; exact hw⟩ (.int rfl (by dsimp only; omega) (.cons rfl (.cons rfl (.int rfl (by dsimp only; omega) (.cons rfl (.cons rfl (.cons rfl .nil))))))) (.refl _)
                      · -- 128F
                        refine WL.nil ?_
                        refine WE.then_n ?_
                        refine WC.seq ?_
                        refine WC.cond_f rfl ?_
                        refine WC.exit ?_
                        refine WE.then_exit ?_
                        refine WE.then_exit ?_
                        refine WE.block_hit ?_
                        refine WE.then_n ?_
                        refine WC.seq ?_
                        refine WC.region ?_
                        refine WL.val (v_move rfl rfl) (.none rfl) rfl rfl ?_
                        refine WL.val (v_assign rfl rfl) (.none rfl) rfl rfl ?_
                        refine WL.val (v_assign rfl rfl) (.none rfl) rfl rfl ?_
                        refine WL.nil ?_
                        refine WE.then_n ?_
                        refine WC.ret ?_
                        refine WE.ret2 (P := Tryd.prog) (.inl rfl) Tryd.results23 rfl rfl ?_
                        obtain rfl : k = t.kids.length := (by omega)
                        rw [List.drop_length, walkKs] at hw
                        exact fun w' h => ⟨by rw [walkR_ok (m := all) (by rw [← hw]) (by rw [← hw]; dsimp only; omega)], h.frm⟩
end Go.Proofs.YtodaanhhnjkncaaDoor
/- policy: what any way of keeping sets of headers, at most 64 of them, makes of a policy. -/
namespace Go.Proofs.YtodaanhhnjkncaaDoor
open Go.RowKit

/-- More than 64. -/
def Big (S : Ky → Prop) : Prop := ∃ ks : List Ky, ks.Nodup ∧ 65 ≤ ks.length ∧ ∀ k ∈ ks, S k
theorem Big.mono {S T : Ky → Prop} (h : Big S) (hs : ∀ k, S k → T k) : Big T := let ⟨ks, h1, h2, h3⟩ := h; ⟨ks, h1, h2, fun k hk => hs k (h3 k hk)⟩
theorem nodup_sub {α : Type} : ∀ (ks l : List α), ks.Nodup → (∀ k ∈ ks, k ∈ l) → ks.length ≤ l.length
  | [], l, _, _ => Nat.zero_le _
  | k :: ks, l, hn, hs => by
    rw [List.nodup_cons] at hn
    obtain ⟨a, b, rfl⟩ := List.append_of_mem (hs k (by simp))
    have := nodup_sub ks (a ++ b) hn.2 fun x hx => by
      have := hs x (by simp [hx])
      rcases List.mem_append.1 this with h | h
      · exact List.mem_append_left _ h
      · rcases List.mem_cons.1 h with h | h
        · rw [h] at hx; exact absurd hx hn.1
        · exact List.mem_append_right _ h
    rw [List.length_append] at this
    rw [List.length_cons, List.length_append, List.length_cons]
    omega
/-- A way of keeping such sets. -/
structure Mo (α : Type) where
  key : α → Ky
  add : List α → List α → Option (List α)
  set : Nat → Int → α → α
  ok : α → Prop
  good : List α → Prop
  nil : good []
  one : ∀ a, ok a → good [a]
  all : ∀ R, good R → ∀ x ∈ R, ok x
  few : ∀ R, good R → R.length ≤ 64
  some_ : ∀ A B R, good A → good B → add A B = some R → good R ∧ ∀ g, (∃ x ∈ R, key x = g) ↔ (∃ x ∈ A, key x = g) ∨ ∃ x ∈ B, key x = g
  none_ : ∀ A B, good A → good B → add A B = none → Big fun g => (∃ x ∈ A, key x = g) ∨ ∃ x ∈ B, key x = g
  put : ∀ (k : Nat) (v : Int) (a : α), k < 9 → 0 ≤ v → v ≤ fullI k → ok a → ok (set k v a) ∧ key (set k v a) = updK k v (key a)
section
variable {α : Type} (M : Mo α)
def Mo.mem (R : List α) (g : Ky) : Prop := ∃ x ∈ R, M.key x = g
theorem Mo.mem_nil (g : Ky) : ¬ M.mem [] g := fun ⟨_, h, _⟩ => by cases h
theorem Mo.mem_one (a : α) (g : Ky) : M.mem [a] g ↔ g = M.key a := ⟨fun ⟨x, hx, e⟩ => by rw [List.mem_singleton.1 hx] at e; exact e.symm, fun e => ⟨a, by simp, e.symm⟩⟩
theorem Mo.mem_cons (a : α) (bs : List α) (g : Ky) : M.mem (a :: bs) g ↔ g = M.key a ∨ M.mem bs g := by
  constructor
  · rintro ⟨x, hx, e⟩
    rcases List.mem_cons.1 hx with h | h
    · rw [h] at e; exact .inl e.symm
    · exact .inr ⟨x, h, e⟩
  · rintro (e | ⟨x, hx, e⟩)
    · exact ⟨a, by simp, e.symm⟩
    · exact ⟨x, by simp [hx], e⟩
theorem Mo.notBig {R : List α} (h : M.good R) : ¬ Big (M.mem R) := fun ⟨ks, h1, h2, h3⟩ => by
  have := nodup_sub ks (R.map M.key) h1 fun k hk => by obtain ⟨x, hx, e⟩ := h3 k hk; exact List.mem_map.2 ⟨x, hx, e⟩
  rw [List.length_map] at this
  have := M.few R h
  omega
def gStep (f : α → Option (List α)) : List α → List α → Option (List α)
  | [], nx => some nx
  | g :: gs, nx => (f g).bind fun out => (M.add nx out).bind fun nx' => gStep f gs nx'
mutual
def gT : Nd → α → Option (List α)
  | .mk k f v _ _ _ kids, a =>
    if k = 12 then some [a]
    else if k = 13 then (if (holdsGs (M.key a) kids).getD 0 false then some [a] else some [])
    else if k = 14 then some [M.set f.toNat v a]
    else if k = 15 then gPar kids a []
    else if k = 16 then gSeq kids [a]
    else if k = 17 then (if (holdsGs (M.key a) kids).getD 0 false then gNth kids 1 a else gNth kids 2 a)
    else some []
def gPar : List Nd → α → List α → Option (List α)
  | [], _, all => some all
  | t :: ts, a, all => (gT t a).bind fun out => (M.add all out).bind fun all' => gPar ts a all'
def gSeq : List Nd → List α → Option (List α)
  | [], all => some all
  | t :: ts, all => (gStep M (fun g => gT t g) all []).bind fun next => gSeq ts next
def gNth : List Nd → Nat → α → Option (List α)
  | [], _, _ => none
  | t :: _, 0, a => gT t a
  | _ :: ts, i + 1, a => gNth ts i a
end
end
mutual
/-- Too many come of it. -/
def FailT : Nd → Ky → Prop
  | .mk k _ _ _ _ _ kids, h =>
    if k = 15 then FailPar kids h ∨ Big (OutPar kids h)
    else if k = 16 then FailSeq kids (fun g => g = h)
    else if k = 17 then (if (holdsGs h kids).getD 0 false then FailNth kids 1 h else FailNth kids 2 h)
    else False
def FailPar : List Nd → Ky → Prop
  | [], _ => False
  | t :: ts, h => FailT t h ∨ FailPar ts h
def FailSeq : List Nd → (Ky → Prop) → Prop
  | [], _ => False
  | t :: ts, S => (∃ g, S g ∧ FailT t g) ∨ Big (fun k => ∃ g, S g ∧ OutT t g k) ∨ FailSeq ts (fun k => ∃ g, S g ∧ OutT t g k)
def FailNth : List Nd → Nat → Ky → Prop
  | [], _, _ => True
  | t :: _, 0, h => FailT t h
  | _ :: ts, i + 1, h => FailNth ts i h
end
section
variable {α : Type} (M : Mo α)
/-- What a run is: none where too many come; else what comes. -/
structure Runs (r : Option (List α)) (F : Prop) (S : Ky → Prop) : Prop where
  none_ : r = none ↔ F
  some_ : ∀ R, r = some R → M.good R ∧ ∀ g, M.mem R g ↔ S g
theorem Runs.congr {r : Option (List α)} {F F' : Prop} {S S' : Ky → Prop} (h : Runs M r F S) (hF : F ↔ F') (hS : ∀ g, S g ↔ S' g) : Runs M r F' S' := ⟨h.none_.trans hF, fun R e => ⟨(h.some_ R e).1, fun g => ((h.some_ R e).2 g).trans (hS g)⟩⟩
theorem Runs.some' {R : List α} {F : Prop} {S : Ky → Prop} (hg : M.good R) (hF : ¬ F) (hS : ∀ g, M.mem R g ↔ S g) : Runs M (some R) F S := ⟨⟨(fun e => by cases e), fun h => absurd h hF⟩, fun R' e => by cases e; exact ⟨hg, hS⟩⟩
theorem gStep_runs {f : α → Option (List α)} {F : Ky → Prop} {R : Ky → Ky → Prop} (hf : ∀ g, M.ok g → Runs M (f g) (F (M.key g)) (R (M.key g))) : ∀ (all nx : List α), (∀ g ∈ all, M.ok g) → M.good nx →
    Runs M (gStep M f all nx) ((∃ m, M.mem all m ∧ F m) ∨ Big fun k => M.mem nx k ∨ ∃ m, M.mem all m ∧ R m k) (fun k => M.mem nx k ∨ ∃ m, M.mem all m ∧ R m k)
  | [], nx, _, hn => by
    rw [gStep]
    refine Runs.some' M hn ?_ fun g => ⟨.inl, fun h => h.elim id fun ⟨m, hm, _⟩ => absurd hm (M.mem_nil m)⟩
    rintro (⟨m, hm, _⟩ | h)
    · exact M.mem_nil m hm
    · exact M.notBig hn (h.mono fun k q => q.elim id fun ⟨m, hm, _⟩ => absurd hm (M.mem_nil m))
  | g :: gs, nx, ha, hn => by
    rw [gStep]
    have hg := ha g (by simp)
    have h1 := hf g hg
    cases e1 : f g with
    | none =>
      refine ⟨⟨fun _ => .inl ⟨M.key g, (M.mem_cons ..).2 (.inl rfl), h1.none_.1 e1⟩, fun _ => rfl⟩, fun R e => by cases e⟩
    | some out =>
      obtain ⟨o1, o2⟩ := h1.some_ out e1
      have hno : ¬ F (M.key g) := fun q => by rw [h1.none_.2 q] at e1; cases e1
      rw [Option.bind_some]
      cases e2 : M.add nx out with
      | none =>
        refine ⟨⟨fun _ => .inr ((M.none_ nx out hn o1 e2).mono fun k q => ?_), fun _ => rfl⟩, fun R e => by cases e⟩
        rcases q with q | q
        · exact .inl q
        · exact .inr ⟨M.key g, (M.mem_cons ..).2 (.inl rfl), (o2 k).1 q⟩
      | some nx' =>
        obtain ⟨n1, n2⟩ := M.some_ nx out nx' hn o1 e2
        rw [Option.bind_some]
        have hS : ∀ k, (M.mem nx' k ∨ ∃ m, M.mem gs m ∧ R m k) ↔ (M.mem nx k ∨ ∃ m, M.mem (g :: gs) m ∧ R m k) := fun k => by
          constructor
          · rintro (h | ⟨m, hm, hr⟩)
            · rcases (n2 k).1 h with h | h
              · exact .inl h
              · exact .inr ⟨M.key g, (M.mem_cons ..).2 (.inl rfl), (o2 k).1 h⟩
            · exact .inr ⟨m, (M.mem_cons ..).2 (.inr hm), hr⟩
          · rintro (h | ⟨m, hm, hr⟩)
            · exact .inl ((n2 k).2 (.inl h))
            · rcases (M.mem_cons ..).1 hm with q | q
              · rw [q] at hr; exact .inl ((n2 k).2 (.inr ((o2 k).2 hr)))
              · exact .inr ⟨m, q, hr⟩
        refine (gStep_runs hf gs nx' (fun x hx => ha x (by simp [hx])) n1).congr M ?_ hS
        constructor
        · rintro (⟨m, hm, hF⟩ | h)
          · exact .inl ⟨m, (M.mem_cons ..).2 (.inr hm), hF⟩
          · exact .inr (h.mono fun k => (hS k).1)
        · rintro (⟨m, hm, hF⟩ | h)
          · rcases (M.mem_cons ..).1 hm with q | q
            · rw [q] at hF; exact absurd hF hno
            · exact .inl ⟨m, q, hF⟩
          · exact .inr (h.mono fun k => (hS k).2)
mutual
theorem gT_runs : ∀ (t : Nd) (pred : Bool) (a : α), okT pred t → t.In → M.ok a → Runs M (gT M t a) (FailT t (M.key a)) (OutT t (M.key a))
  | .mk k f v m ad c kids, pred, a, hk, hI, ha => by
    have hkids := hk.parts.2.2.2
    have hIk := hI.kids
    by_cases k12 : k = 12
    · subst k12
      simp only [gT, FailT, if_pos]
      exact Runs.some' M (M.one a ha) (by simp) fun g => by rw [M.mem_one, OutT, if_pos rfl]
    by_cases k13 : k = 13
    · subst k13
      rw [gT, if_neg (show ¬ (13 : Int) = 12 by decide), if_pos (show (13 : Int) = 13 from rfl), FailT, if_neg (show ¬ (13 : Int) = 15 by decide), if_neg (show ¬ (13 : Int) = 16 by decide), if_neg (show ¬ (13 : Int) = 17 by decide)]
      split
      · rename_i hh
        exact Runs.some' M (M.one a ha) (fun h => h) fun g => by rw [M.mem_one, OutT, if_neg (by decide), if_pos rfl]; exact ⟨fun q => ⟨hh, q⟩, fun q => q.2⟩
      · rename_i hh
        exact Runs.some' M M.nil (fun h => h) fun g => by rw [OutT, if_neg (by decide), if_pos rfl]; exact ⟨fun q => absurd q (M.mem_nil g), fun q => absurd q.1 hh⟩
    by_cases k14 : k = 14
    · subst k14
      obtain ⟨q, _, hq, e2, hv⟩ := argE_set hk.parts.2.1 rfl
      have e3 : f.toNat = q := e2
      obtain ⟨p1, p2⟩ := M.put q v a hq hI.nums.2.2.1.1 hv ha
      rw [gT, if_neg (show ¬ (14 : Int) = 12 by decide), if_neg (show ¬ (14 : Int) = 13 by decide), if_pos (show (14 : Int) = 14 from rfl), FailT, if_neg (show ¬ (14 : Int) = 15 by decide), if_neg (show ¬ (14 : Int) = 16 by decide), if_neg (show ¬ (14 : Int) = 17 by decide), e3]
      exact Runs.some' M (M.one _ p1) (fun h => h) fun g => by rw [M.mem_one, OutT, if_neg (by decide), if_neg (by decide), if_pos rfl, p2, e3]
    by_cases k15 : k = 15
    · subst k15
      rw [gT, if_neg (show ¬ (15 : Int) = 12 by decide), if_neg (show ¬ (15 : Int) = 13 by decide), if_neg (show ¬ (15 : Int) = 14 by decide), if_pos (show (15 : Int) = 15 from rfl), FailT, if_pos (show (15 : Int) = 15 from rfl)]
      refine (gPar_runs 15 0 kids a [] hkids hIk ha M.nil).congr M ?_ fun g => ?_
      · exact or_congr Iff.rfl ⟨fun h => h.mono fun k q => q.elim (fun q => absurd q (M.mem_nil k)) id, fun h => h.mono fun k q => .inr q⟩
      · rw [OutT, if_neg (by decide), if_neg (by decide), if_neg (by decide), if_pos rfl]
        exact ⟨fun q => q.elim (fun q => absurd q (M.mem_nil g)) id, .inr⟩
    by_cases k16 : k = 16
    · subst k16
      rw [gT, if_neg (show ¬ (16 : Int) = 12 by decide), if_neg (show ¬ (16 : Int) = 13 by decide), if_neg (show ¬ (16 : Int) = 14 by decide), if_neg (show ¬ (16 : Int) = 15 by decide), if_pos (show (16 : Int) = 16 from rfl), FailT, if_neg (show ¬ (16 : Int) = 15 by decide), if_pos (show (16 : Int) = 16 from rfl)]
      refine (gSeq_runs 16 0 kids [a] hkids hIk (M.one a ha)).congr M ?_ fun g => ?_
      · rw [show M.mem [a] = fun g => g = M.key a from funext fun g => propext (M.mem_one a g)]
      · rw [OutT, if_neg (by decide), if_neg (by decide), if_neg (by decide), if_neg (by decide), if_pos rfl]
        exact ⟨fun ⟨m, hm, hr⟩ => by rw [M.mem_one] at hm; rwa [hm] at hr, fun hr => ⟨_, (M.mem_one _ _).2 rfl, hr⟩⟩
    by_cases k17 : k = 17
    · subst k17
      rw [gT, if_neg (show ¬ (17 : Int) = 12 by decide), if_neg (show ¬ (17 : Int) = 13 by decide), if_neg (show ¬ (17 : Int) = 14 by decide), if_neg (show ¬ (17 : Int) = 15 by decide), if_neg (show ¬ (17 : Int) = 16 by decide), if_pos (show (17 : Int) = 17 from rfl), FailT, if_neg (show ¬ (17 : Int) = 15 by decide), if_neg (show ¬ (17 : Int) = 16 by decide), if_pos (show (17 : Int) = 17 from rfl)]
      split
      · rename_i hh
        refine (gNth_runs 17 0 kids 1 a hkids hIk ha).congr M Iff.rfl fun g => ?_
        rw [OutT, if_neg (by decide), if_neg (by decide), if_neg (by decide), if_neg (by decide), if_neg (by decide), if_pos rfl, if_pos hh]
      · rename_i hh
        refine (gNth_runs 17 0 kids 2 a hkids hIk ha).congr M Iff.rfl fun g => ?_
        rw [OutT, if_neg (by decide), if_neg (by decide), if_neg (by decide), if_neg (by decide), if_neg (by decide), if_pos rfl, if_neg hh]
    rw [gT, if_neg k12, if_neg k13, if_neg k14, if_neg k15, if_neg k16, if_neg k17, FailT, if_neg k15, if_neg k16, if_neg k17]
    exact Runs.some' M M.nil (fun h => h) fun g => by
      rw [OutT, if_neg k12, if_neg k13, if_neg k14, if_neg k15, if_neg k16, if_neg k17]
      exact ⟨fun q => absurd q (M.mem_nil g), False.elim⟩
theorem gPar_runs (k : Int) : ∀ (i : Nat) (ts : List Nd) (a : α) (all : List α), okKs k i ts → KidsIn ts → M.ok a → M.good all → Runs M (gPar M ts a all) (FailPar ts (M.key a) ∨ Big fun g => M.mem all g ∨ OutPar ts (M.key a) g) (fun g => M.mem all g ∨ OutPar ts (M.key a) g)
  | _, [], a, all, _, _, _, hg => by
    rw [gPar]
    refine Runs.some' M hg ?_ fun g => by rw [OutPar]; exact (or_iff_left (fun h => h)).symm
    rintro (h | h)
    · rw [FailPar] at h; exact h
    · exact M.notBig hg (h.mono fun k q => by rw [OutPar] at q; exact q.elim id False.elim)
  | i, t :: ts, a, all, hk, hI, ha, hg => by
    unfold okKs at hk
    unfold KidsIn at hI
    rw [gPar]
    have h1 := gT_runs t _ a hk.1 hI.1 ha
    cases e1 : gT M t a with
    | none => exact ⟨⟨fun _ => .inl (by rw [FailPar]; exact .inl (h1.none_.1 e1)), fun _ => rfl⟩, fun R e => by cases e⟩
    | some out =>
      obtain ⟨o1, o2⟩ := h1.some_ out e1
      have hno : ¬ FailT t (M.key a) := fun q => by rw [h1.none_.2 q] at e1; cases e1
      rw [Option.bind_some]
      cases e2 : M.add all out with
      | none =>
        refine ⟨⟨fun _ => .inr ((M.none_ all out hg o1 e2).mono fun k q => ?_), fun _ => rfl⟩, fun R e => by cases e⟩
        rcases q with q | q
        · exact .inl q
        · exact .inr (by rw [OutPar]; exact .inl ((o2 k).1 q))
      | some all' =>
        obtain ⟨n1, n2⟩ := M.some_ all out all' hg o1 e2
        rw [Option.bind_some]
        have hS : ∀ g, (M.mem all' g ∨ OutPar ts (M.key a) g) ↔ (M.mem all g ∨ OutPar (t :: ts) (M.key a) g) := fun g => by
          rw [OutPar]
          constructor
          · rintro (h | h)
            · rcases (n2 g).1 h with h | h
              · exact .inl h
              · exact .inr (.inl ((o2 g).1 h))
            · exact .inr (.inr h)
          · rintro (h | h | h)
            · exact .inl ((n2 g).2 (.inl h))
            · exact .inl ((n2 g).2 (.inr ((o2 g).2 h)))
            · exact .inr h
        refine (gPar_runs k (i + 1) ts a all' hk.2 hI.2 ha n1).congr M ?_ hS
        rw [FailPar]
        constructor
        · rintro (h | h)
          · exact .inl (.inr h)
          · exact .inr (h.mono fun k => (hS k).1)
        · rintro ((h | h) | h)
          · exact absurd h hno
          · exact .inl h
          · exact .inr (h.mono fun k => (hS k).2)
theorem gSeq_runs (k : Int) : ∀ (i : Nat) (ts : List Nd) (all : List α), okKs k i ts → KidsIn ts → M.good all → Runs M (gSeq M ts all) (FailSeq ts (M.mem all)) (fun g => ∃ m, M.mem all m ∧ OutSeq ts m g)
  | _, [], all, _, _, hg => by
    rw [gSeq, FailSeq]
    exact Runs.some' M hg (fun h => h) fun g => ⟨fun h => ⟨g, h, by rw [OutSeq]⟩, fun ⟨m, hm, hr⟩ => by rw [OutSeq] at hr; rw [hr]; exact hm⟩
  | i, t :: ts, all, hk, hI, hg => by
    unfold okKs at hk
    unfold KidsIn at hI
    rw [gSeq, FailSeq]
    have h1 := gStep_runs M (F := FailT t) (R := OutT t) (fun g hg => gT_runs t _ g hk.1 hI.1 hg) all [] (M.all all hg) M.nil
    have hS : ∀ k, (M.mem [] k ∨ ∃ m, M.mem all m ∧ OutT t m k) ↔ ∃ g, M.mem all g ∧ OutT t g k := fun k => ⟨fun q => q.elim (fun q => absurd q (M.mem_nil k)) id, .inr⟩
    cases e1 : gStep M (fun g => gT M t g) all [] with
    | none =>
      refine ⟨⟨fun _ => ?_, fun _ => rfl⟩, fun R e => by cases e⟩
      rcases h1.none_.1 e1 with h | h
      · exact .inl h
      · exact .inr (.inl (h.mono fun k => (hS k).1))
    | some nx =>
      obtain ⟨o1, o2⟩ := h1.some_ nx e1
      rw [Option.bind_some]
      have hno : ¬ ((∃ m, M.mem all m ∧ FailT t m) ∨ Big fun k => M.mem [] k ∨ ∃ m, M.mem all m ∧ OutT t m k) := fun q => by rw [h1.none_.2 q] at e1; cases e1
      have e2 : M.mem nx = fun k => ∃ g, M.mem all g ∧ OutT t g k := funext fun k => propext ((o2 k).trans (hS k))
      refine (gSeq_runs k (i + 1) ts nx hk.2 hI.2 o1).congr M ?_ fun g => ?_
      · rw [e2]
        constructor
        · exact fun h => .inr (.inr h)
        · rintro (h | h | h)
          · exact absurd (.inl h) hno
          · exact absurd (.inr (h.mono fun k => (hS k).2)) hno
          · exact h
      · simp only [e2, OutSeq]
        constructor
        · rintro ⟨m, ⟨q, hq, h1⟩, h2⟩; exact ⟨q, hq, m, h1, h2⟩
        · rintro ⟨q, hq, m, h1, h2⟩; exact ⟨m, ⟨q, hq, h1⟩, h2⟩
theorem gNth_runs (k : Int) : ∀ (i : Nat) (ts : List Nd) (j : Nat) (a : α), okKs k i ts → KidsIn ts → M.ok a → Runs M (gNth M ts j a) (FailNth ts j (M.key a)) (OutNth ts j (M.key a))
  | _, [], j, a, _, _, _ => by
    rw [gNth, FailNth]
    exact ⟨⟨fun _ => trivial, fun _ => rfl⟩, fun R e => by cases e⟩
  | i, t :: ts, 0, a, hk, hI, ha => by
    unfold okKs at hk
    unfold KidsIn at hI
    rw [gNth, FailNth]
    exact (gT_runs t _ a hk.1 hI.1 ha).congr M Iff.rfl fun g => by rw [OutNth]
  | i, t :: ts, j + 1, a, hk, hI, ha => by
    unfold okKs at hk
    unfold KidsIn at hI
    rw [gNth, FailNth]
    exact (gNth_runs k (i + 1) ts j a hk.2 hI.2 ha).congr M Iff.rfl fun g => by rw [OutNth]
end
end
/-! ### The program's way -/
def GdH (R : List Hd) : Prop := Once R ∧ R.length ≤ 64
theorem gatherT_none : ∀ (Bs As : List Hd), Once As → As.length ≤ 64 → (∀ x ∈ Bs, x.Rt) → gatherT As Bs = none → Big fun g => inK As g ∨ inK Bs g
  | [], As, _, _, _, e => by rw [gatherT] at e; cases e
  | b :: Bs, As, hA, hl, hB, e => by
    rw [gatherT] at e
    have hb := hB b (by simp)
    have hB' : ∀ x ∈ Bs, x.Rt := fun x hx => hB x (by simp [hx])
    split at e
    · exact (gatherT_none Bs As hA hl hB' e).mono fun g q => q.imp id fun q => (inK_cons ..).2 (.inr q)
    · rename_i h
      have hi : ¬ inK As (getF b) := fun q => h ((inHs_iff hA.all hb).2 q)
      have hA' : Once (As ++ [b]) := by
        refine ⟨fun x hx => ?_, ?_⟩
        · rcases List.mem_append.1 hx with h | h
          · exact hA.all x h
          · rw [List.mem_singleton.1 h]; exact hb
        · rw [List.map_append, List.nodup_append]
          refine ⟨hA.nd, (by simp), ?_⟩
          rintro a ha c hc rfl
          obtain ⟨x, hx, ex⟩ := List.mem_map.1 ha
          rw [List.map_singleton, List.mem_singleton] at hc
          exact hi ⟨x, hx, ex.trans hc⟩
      split at e
      · rename_i h64
        refine ⟨(As ++ [b]).map getF, hA'.nd, by rw [List.length_map, List.length_append, h64]; exact Nat.le_refl _, fun k hk => ?_⟩
        obtain ⟨x, hx, ex⟩ := List.mem_map.1 hk
        rcases List.mem_append.1 hx with q | q
        · exact .inl ⟨x, q, ex⟩
        · rw [List.mem_singleton.1 q] at ex; exact .inr ((inK_cons ..).2 (.inl ex.symm))
      · rename_i h64
        refine (gatherT_none Bs (As ++ [b]) hA' (by rw [List.length_append]; show _ + 1 ≤ 64; omega) hB' e).mono fun g q => ?_
        rw [inK_append, inK_one] at q
        rcases q with (q | q) | q
        · exact .inl q
        · exact .inr ((inK_cons ..).2 (.inl q))
        · exact .inr ((inK_cons ..).2 (.inr q))
def moH : Mo Hd where
  key := getF
  add := gatherT
  set := wthF
  ok := Hd.Rt
  good := GdH
  nil := ⟨Once.nil, by decide⟩
  one a h := ⟨Once.one h, show 1 ≤ 64 by decide⟩
  all R h := h.1.all
  few R h := h.2
  some_ A B R hA hB e := by
    obtain ⟨h1, h2⟩ := gatherT_keys B A R hA.1 hB.1.all e
    exact ⟨⟨h1, gatherT_len B A R hA.2 e⟩, h2⟩
  none_ A B hA hB e := gatherT_none B A hA.1 hA.2 hB.1.all e
  put k v a hk h0 h1 ha := ⟨Rt_with hk h0 h1 ha, getF_upd hk h0 h1 a⟩
theorem gStep_H (f : Hd → Option (List Hd)) : ∀ all nx : List Hd, gStep moH f all nx = seqStep f all nx
  | [], nx => by rw [gStep, seqStep]
  | g :: gs, nx => by
    rw [gStep, seqStep]
    congr 1
    funext out
    show (gatherT nx out).bind _ = (gatherT nx out).bind _
    congr 1
    funext nx'
    exact gStep_H f gs nx'
mutual
theorem gT_H : ∀ (t : Nd) (H : Hd), gT moH t H = runT t H
  | .mk k f v m ad c kids, H => by
    rw [gT, runT, holdsKs_G, gPar_H kids H [], gSeq_H kids [H], gNth_H kids 1 H, gNth_H kids 2 H]
    rfl
theorem gPar_H : ∀ (ts : List Nd) (H : Hd) (all : List Hd), gPar moH ts H all = parKs ts H all
  | [], H, all => by rw [gPar, parKs]
  | t :: ts, H, all => by
    rw [gPar, parKs, gT_H t H]
    congr 1
    funext out
    show (gatherT all out).bind _ = (gatherT all out).bind _
    congr 1
    funext all'
    exact gPar_H ts H all'
theorem gSeq_H : ∀ (ts : List Nd) (all : List Hd), gSeq moH ts all = seqKs ts all
  | [], all => by rw [gSeq, seqKs]
  | t :: ts, all => by
    rw [gSeq, seqKs, gStep_H, show (fun g => gT moH t g) = fun g => runT t g from funext fun g => gT_H t g]
    congr 1
    funext next
    exact gSeq_H ts next
theorem gNth_H : ∀ (ts : List Nd) (i : Nat) (H : Hd), gNth moH ts i H = nthKs ts i H
  | [], i, H => by rw [gNth, nthKs]
  | t :: ts, 0, H => by rw [gNth, nthKs, gT_H t H]
  | t :: ts, i + 1, H => by rw [gNth, nthKs]; exact gNth_H ts i H
end
end Go.Proofs.YtodaanhhnjkncaaDoor
/- policy: the reference's lists: less, put. -/
namespace Go.Proofs.YtodaanhhnjkncaaDoor
open Go.RowKit

/-- A number list has nine numbers. -/
def Kz (f : Ky) : Prop := (∀ j, 9 ≤ j → f j = 0) ∧ ∀ j, 0 ≤ f j ∧ f j ≤ 18446744073709551615
theorem getF_z (H : Hd) : Kz (getF H) := ⟨fun j hj => getF_ge H hj, fun j => by have := getF_le H j; have := fullI_u64 j; omega⟩
theorem Kz.ext {f g : Ky} (hf : Kz f) (hg : Kz g) (h : ∀ i, i < 9 → f i = g i) : f = g := by
  funext j
  by_cases h9 : j < 9
  · exact h j h9
  · rw [hf.1 j (by omega), hg.1 j (by omega)]
def lessK (a b : Ky) : Bool := decide (lexK a b 9 < 0)
def eqK (a b : Ky) : Bool := (List.range 9).all fun i => decide (a i = b i)
theorem eqK_iff {a b : Ky} : eqK a b = true ↔ ∀ i, i < 9 → a i = b i := by
  unfold eqK
  rw [List.all_eq_true]
  exact ⟨fun h i hi => of_decide_eq_true (h i (List.mem_range.2 hi)), fun h i hi => decide_eq_true (h i (List.mem_range.1 hi))⟩
theorem ucs_eqK {a b : Ky} : ucs a 9 = ucs b 9 ↔ eqK a b = true := by
  constructor
  · intro h
    refine eqK_iff.2 fun i hi => ?_
    have e : (ucs a 9)[i]? = (ucs b 9)[i]? := by rw [h]
    rw [ucs_get _ hi, ucs_get _ hi] at e
    injection e with e; injection e
  · intro h
    exact ucs_congr (eqK_iff.1 h)
def putGo (h : Ky) : List Ky → Bool → List Ky
  | [], done => if done then [] else [h]
  | x :: xs, done => if (!done && lessK h x) = true then h :: x :: putGo h xs true else x :: putGo h xs (done || eqK x h)
theorem putGo_done (h : Ky) : ∀ xs : List Ky, putGo h xs true = xs
  | [] => rfl
  | x :: xs => by rw [putGo, if_neg (by simp)]; simp [putGo_done h xs]
theorem putGo_len (h : Ky) : ∀ (xs : List Ky) (d : Bool), (putGo h xs d).length ≤ xs.length + 1
  | [], d => by cases d <;> exact Nat.le_of_ble_eq_true rfl
  | x :: xs, d => by
    rw [putGo]
    split
    · rw [putGo_done]; simp
    · have := putGo_len h xs (d || eqK x h)
      rw [List.length_cons, List.length_cons]; omega
theorem ltK_trans {a b c : Ky} (h1 : ltK a b) (h2 : ltK b c) : ltK a c := lex_trans h1 h2
theorem putGo_spec {h : Ky} (hh : Kz h) : ∀ xs : List Ky, xs.Pairwise ltK → (∀ x ∈ xs, Kz x) → (putGo h xs false).Pairwise ltK ∧ ∀ g, g ∈ putGo h xs false ↔ g ∈ xs ∨ g = h
  | [], _, _ => by
    refine ⟨?_, fun g => ?_⟩
    · show [h].Pairwise ltK; simp
    · show g ∈ [h] ↔ _; simp
  | x :: xs, hs, hz => by
    rw [List.pairwise_cons] at hs
    rw [putGo]
    by_cases hl : lessK h x = true
    · rw [if_pos (by rw [hl]; rfl), putGo_done]
      have hl' : lexK h x 9 < 0 := of_decide_eq_true hl
      refine ⟨?_, fun g => ?_⟩
      · rw [List.pairwise_cons, List.pairwise_cons]
        refine ⟨fun y hy => ?_, hs.1, hs.2⟩
        rcases List.mem_cons.1 hy with e | hy
        · rw [e]; exact hl'
        · exact ltK_trans hl' (hs.1 y hy)
      · simp only [List.mem_cons]
        constructor
        · rintro (q | q | q)
          · exact .inr q
          · exact .inl (.inl q)
          · exact .inl (.inr q)
        · rintro ((q | q) | q)
          · exact .inr (.inl q)
          · exact .inr (.inr q)
          · exact .inl q
    · rw [if_neg (by simpa using hl), Bool.false_or]
      by_cases he : eqK x h = true
      · rw [he, putGo_done]
        have e : x = h := (hz x (by simp)).ext hh (eqK_iff.1 he)
        refine ⟨by rw [List.pairwise_cons]; exact hs, fun g => ⟨.inl, fun q => q.elim id fun q => by rw [q, e]; simp⟩⟩
      · rw [show eqK x h = false by simpa using he]
        obtain ⟨i1, i2⟩ := putGo_spec hh xs hs.2 (fun y hy => hz y (by simp [hy]))
        have hxh : ltK x h := by
          have : ¬ lexK h x 9 < 0 := fun q => hl (decide_eq_true q)
          rcases lex_nlt.1 this with q | q
          · exact q
          · exact absurd (eqK_iff.2 fun i hi => ((lexK_zero h x 9).1 q i hi).symm) he
        refine ⟨?_, fun g => ?_⟩
        · rw [List.pairwise_cons]
          refine ⟨fun y hy => ?_, i1⟩
          rcases (i2 y).1 hy with q | q
          · exact hs.1 y q
          · rw [q]; exact hxh
        · simp only [List.mem_cons, i2]
          constructor
          · rintro (q | q | q)
            · exact .inl (.inl q)
            · exact .inl (.inr q)
            · exact .inr q
          · rintro ((q | q) | q)
            · exact .inl q
            · exact .inr (.inl q)
            · exact .inr (.inr q)
def putAll (out hs : List Ky) : List Ky := hs.foldl (fun o x => putGo x o false) out
theorem putAll_spec : ∀ (hs out : List Ky), (∀ x ∈ hs, Kz x) → out.Pairwise ltK → (∀ x ∈ out, Kz x) → (putAll out hs).Pairwise ltK ∧ (∀ x ∈ putAll out hs, Kz x) ∧ ∀ g, g ∈ putAll out hs ↔ g ∈ out ∨ g ∈ hs
  | [], out, _, h1, h2 => ⟨h1, h2, fun g => by show g ∈ out ↔ _; simp⟩
  | x :: hs, out, hz, h1, h2 => by
    obtain ⟨a1, a2⟩ := putGo_spec (hz x (by simp)) out h1 h2
    obtain ⟨b1, b2, b3⟩ := putAll_spec hs (putGo x out false) (fun y hy => hz y (by simp [hy])) a1 fun y hy => by
      rcases (a2 y).1 hy with q | q
      · exact h2 y q
      · rw [q]; exact hz x (by simp)
    refine ⟨b1, b2, fun g => ?_⟩
    show g ∈ putAll (putGo x out false) hs ↔ _
    rw [b3, a2, List.mem_cons]
    exact or_assoc
def addR (out hs : List Ky) : Option (List Ky) := if 64 < (putAll out hs).length then none else some (putAll out hs)
def GdK (R : List Ky) : Prop := (R.Pairwise ltK ∧ ∀ x ∈ R, Kz x) ∧ R.length ≤ 64
theorem pair_nodup {xs : List Ky} (h : xs.Pairwise ltK) : xs.Nodup := h.imp fun {a b} q e => by rw [e] at q; exact ltK_irr _ q
theorem mem_id (R : List Ky) (g : Ky) : (∃ x ∈ R, id x = g) ↔ g ∈ R := ⟨fun ⟨x, hx, e⟩ => by rw [← e]; exact hx, fun h => ⟨g, h, rfl⟩⟩
theorem updK_z {k : Nat} {v : Int} {a : Ky} (hk : k < 9) (h0 : 0 ≤ v) (h1 : v ≤ fullI k) (ha : Kz a) : Kz (updK k v a) := ⟨fun j hj => by unfold updK; rw [if_neg (by omega)]; exact ha.1 j hj, fun j => by
  have := fullI_u64 k
  unfold updK; split
  · omega
  · exact ha.2 j⟩
def moK : Mo Ky where
  key := id
  add := addR
  set := updK
  ok := Kz
  good := GdK
  nil := ⟨⟨by simp, fun _ h => by cases h⟩, by decide⟩
  one a h := ⟨⟨by simp, fun x hx => by rw [List.mem_singleton.1 hx]; exact h⟩, show 1 ≤ 64 by decide⟩
  all R h := h.1.2
  few R h := h.2
  some_ A B R hA hB e := by
    obtain ⟨h1, h2, h3⟩ := putAll_spec B A hB.1.2 hA.1.1 hA.1.2
    unfold addR at e
    split at e
    · cases e
    · cases e
      exact ⟨⟨⟨h1, h2⟩, by omega⟩, fun g => by rw [mem_id, mem_id, mem_id]; exact h3 g⟩
  none_ A B hA hB e := by
    obtain ⟨h1, h2, h3⟩ := putAll_spec B A hB.1.2 hA.1.1 hA.1.2
    unfold addR at e
    split at e
    · exact ⟨putAll A B, pair_nodup h1, by omega, fun k hk => ((h3 k).1 hk).imp (mem_id A k).2 (mem_id B k).2⟩
    · cases e
  put k v a hk h0 h1 ha := ⟨updK_z hk h0 h1 ha, rfl⟩
/-- The two ways make the same of a policy. -/
theorem two_ways {t : Nd} {H : Hd} (hk : okT false t) (hI : t.In) (hH : H.Rt) : match runT t H, gT moK t (getF H) with
    | none, none => True
    | some Rs, some Qs => GdK Qs ∧ ∀ g, inK Rs g ↔ g ∈ Qs
    | _, _ => False := by
  have a := gT_runs moH t false H hk hI hH
  have b := gT_runs moK t false (getF H) hk hI (getF_z H)
  rw [gT_H] at a
  cases e1 : runT t H with
  | none =>
    cases e2 : gT moK t (getF H) with
    | none => trivial
    | some Qs => have := b.none_.2 (a.none_.1 e1); rw [e2] at this; cases this
  | some Rs =>
    cases e2 : gT moK t (getF H) with
    | none => have := a.none_.2 (b.none_.1 e2); rw [e1] at this; cases this
    | some Qs =>
      obtain ⟨_, a2⟩ := a.some_ Rs e1
      obtain ⟨b1, b2⟩ := b.some_ Qs e2
      exact ⟨b1, fun g => (a2 g).trans ((b2 g).symm.trans (mem_id Qs g))⟩
/-! ### less, put -/
theorem RLess_c (w : World) (a b : Ky) : Calls Tryd.prog 84 #[.agg (ucs a 9).toArray, .agg (ucs b 9).toArray] w fun e w' => e = .returned (.bool (lessK a b)) ∧ Frm (fun _ => False) w w' := by
  refine enter Tryd.func84 rfl Tryd.ntmps84 rfl (St.start (fun _ => False) w) ?_
  refine WC.seq ?_
  refine WC.region ?_
  refine WL.box rfl rfl rfl (.none rfl) rfl rfl ?_
  intro g2 hg2
  refine WL.box rfl rfl rfl (.none rfl) rfl rfl ?_
  intro g3 hg3
  refine WL.val (v_assign rfl rfl) (.none rfl) rfl rfl ?_
  refine WL.nil ?_
  refine WE.then_n ?_
  refine WC.seq ?_
  refine WC.seq ?_
  refine WC.region ?_
  refine WL.val (v_move rfl rfl) (.none rfl) rfl rfl ?_
  refine WL.nil ?_
  refine WE.then_n ?_
  refine WC.block ?_
  refine WC.loop (fun k : Nat => [(6, .int .i64 k), (2, .pointer (some ⟨g2, 0, none⟩)), (3, .pointer (some ⟨g3, 0, none⟩))]) (fun _ => [.row g3 (ucs b 9), .row g2 (ucs a 9)]) (fun k => k ≤ 9 ∧ ∀ i, i < k → a i = b i) (fun k => 9 - k) 0 ⟨Nat.zero_le _, fun i h => absurd h (Nat.not_lt_zero i)⟩ (.cons rfl (.cons rfl (.cons rfl .nil))) (.refl _) ?_
  rintro k ⟨hk, he⟩
  refine WC.seq ?_
  refine WC.region ?_
  refine WL.test (v_lss rfl rfl rfl) (.none rfl) rfl rfl (fun h7 => ?_) (fun h7 => ?_)
  · -- 7T
    refine WL.nil ?_
    refine WE.then_n ?_
    refine WC.seq ?_
    refine WC.cond_t rfl ?_
    refine WC.skip ?_
    refine WE.then_n ?_
    refine WC.seq ?_
    refine WC.block ?_
    refine WC.seq ?_
    refine WC.region ?_
    refine WL.val (v_move rfl rfl) (.none rfl) rfl rfl ?_
    refine WL.val (v_assign rfl rfl) (.none rfl) rfl rfl ?_
    refine WL.nil ?_
    refine WE.then_n ?_
    refine WC.seq ?_
    refine WC.quiet mixed (by kernel_rfl) ?_
    refine WQ.val (v_move rfl rfl) (.none rfl) rfl rfl ?_
    refine WQ.val (v_indexAddrA (lo := k) rfl rfl rfl Tryd.underlying59 sz_22 (by omega) (by omega)) (.none rfl) rfl rfl ?_
    refine WQ.val (v_load1 rfl rfl one_22 (cellAt (by rw [Nat.zero_add, Nat.mul_one]; exact ucs_get a (by omega)))) (.none rfl) rfl rfl ?_
    refine WQ.val (v_move rfl rfl) (.none rfl) rfl rfl ?_
    refine WQ.val (v_indexAddrA (lo := k) rfl rfl rfl Tryd.underlying59 sz_22 (by omega) (by omega)) (.none rfl) rfl rfl ?_
    refine WQ.val (v_load1 rfl rfl one_22 (cellAt (by rw [Nat.zero_add, Nat.mul_one]; exact ucs_get b (by omega)))) (.none rfl) rfl rfl ?_
    refine WQ.test (v_neq rfl rfl rfl) (.none rfl) rfl rfl (fun h15 => ?_) (fun h15 => ?_)
    · -- 15T
      refine WQ.nil ?_
      refine WE.then_n ?_
      refine WC.cond_t rfl ?_
      refine WC.seq ?_
      refine WC.quiet mixed (by kernel_rfl) ?_
      refine WQ.val (v_move rfl rfl) (.none rfl) rfl rfl ?_
      refine WQ.val (v_indexAddrA (lo := k) rfl rfl rfl Tryd.underlying59 sz_22 (by omega) (by omega)) (.none rfl) rfl rfl ?_
      refine WQ.val (v_load1 rfl rfl one_22 (cellAt (by rw [Nat.zero_add, Nat.mul_one]; exact ucs_get a (by omega)))) (.none rfl) rfl rfl ?_
      refine WQ.val (v_move rfl rfl) (.none rfl) rfl rfl ?_
      refine WQ.val (v_indexAddrA (lo := k) rfl rfl rfl Tryd.underlying59 sz_22 (by omega) (by omega)) (.none rfl) rfl rfl ?_
      refine WQ.val (v_load1 rfl rfl one_22 (cellAt (by rw [Nat.zero_add, Nat.mul_one]; exact ucs_get b (by omega)))) (.none rfl) rfl rfl ?_
      refine WQ.test (v_lss rfl rfl rfl) (.none rfl) rfl rfl (fun h22 => ?_) (fun h22 => ?_)
      · -- 22T
        refine WQ.val (v_assign rfl rfl) (.none rfl) rfl rfl ?_
        refine WQ.nil ?_
        refine WE.then_n ?_
        refine WC.ret ?_
        refine WE.block_ret ?_
        refine WE.then_ret ?_
        refine WE.then_ret ?_
        refine WE.block_ret ?_
        refine WE.then_ret ?_
        refine WE.ret1 (P := Tryd.prog) (.inl rfl) Tryd.results84 rfl ?_
        exact fun w' h => ⟨by unfold lessK; rw [decide_eq_true ((lexK_lt a b 9).2 ⟨k, by omega, he, h22⟩)], h.frm⟩
      · -- 22F
        refine WQ.val (v_assign rfl rfl) (.none rfl) rfl rfl ?_
        refine WQ.nil ?_
        refine WE.then_n ?_
        refine WC.ret ?_
        refine WE.block_ret ?_
        refine WE.then_ret ?_
        refine WE.then_ret ?_
        refine WE.block_ret ?_
        refine WE.then_ret ?_
        refine WE.ret1 (P := Tryd.prog) (.inl rfl) Tryd.results84 rfl ?_
        exact fun w' h => ⟨by
        unfold lessK
        rw [decide_eq_false]
        intro q
        obtain ⟨i, hi, h1, h2⟩ := (lexK_lt a b 9).1 q
        rcases Nat.lt_trichotomy i k with e | e | e
        · have := he i e; omega
        · subst e; exact h22 h2
        · exact h15 (h1 k e), h.frm⟩
    · -- 15F
      refine WQ.nil ?_
      refine WE.then_n ?_
      refine WC.cond_f rfl ?_
      refine WC.skip ?_
      refine WE.block_n ?_
      refine WE.then_n ?_
      refine WC.region ?_
      refine WL.val (v_add rfl rfl rfl (w_i64 (by omega) (by omega))) (.none rfl) rfl rfl ?_
      refine WL.val (v_move rfl rfl) (.none rfl) rfl rfl ?_
      refine WL.nil ?_
      exact WE.next (k + 1) (by omega) ⟨by omega, fun i hi => by
      by_cases e : i = k
      · subst e; exact Classical.not_not.1 h15
      · exact he i (by omega)⟩ (.int rfl (by omega) (.cons rfl (.cons rfl .nil))) (.refl _)
  · -- 7F
    refine WL.nil ?_
    refine WE.then_n ?_
    refine WC.seq ?_
    refine WC.cond_f rfl ?_
    refine WC.exit ?_
    refine WE.then_exit ?_
    refine WE.then_exit ?_
    refine WE.block_hit ?_
    refine WE.then_n ?_
    refine WC.seq ?_
    refine WC.region ?_
    refine WL.val (v_assign rfl rfl) (.none rfl) rfl rfl ?_
    refine WL.nil ?_
    refine WE.then_n ?_
    refine WC.ret ?_
    refine WE.ret1 (P := Tryd.prog) (.inl rfl) Tryd.results84 rfl ?_
    obtain rfl : k = 9 := (by omega)
    exact fun w' h => ⟨by unfold lessK; rw [decide_eq_false (by rw [(lexK_zero a b 9).2 he]; decide)], h.frm⟩
def kysL : List Ky → List Value
  | [] => []
  | x :: xs => ucs x 9 ++ kysL xs
theorem kysL_snoc : ∀ (xs : List Ky) (x : Ky), kysL xs ++ ucs x 9 = kysL (xs ++ [x])
  | [], x => by show [] ++ ucs x 9 = ucs x 9 ++ []; simp
  | y :: xs, x => by
    show (ucs y 9 ++ kysL xs) ++ ucs x 9 = ucs y 9 ++ kysL (xs ++ [x])
    rw [List.append_assoc, kysL_snoc xs x]
theorem kysL_seg : ∀ (xs : List Ky) (k : Nat) (x : Ky), xs[k]? = some x → ((kysL xs).drop (k * 9)).take 9 = ucs x 9
  | [], _, _, h => by simp at h
  | y :: xs, 0, x, h => by
    simp only [List.getElem?_cons_zero, Option.some.injEq] at h
    subst h
    show ((ucs y 9 ++ kysL xs).drop (0 * 9)).take 9 = _
    rw [Nat.zero_mul, List.drop_zero, List.take_left' (ucs_len y 9)]
  | y :: xs, k + 1, x, h => by
    rw [List.getElem?_cons_succ] at h
    show ((ucs y 9 ++ kysL xs).drop ((k + 1) * 9)).take 9 = _
    rw [show (k + 1) * 9 = 9 + k * 9 by omega, ← List.drop_drop, List.drop_left' (ucs_len y 9)]
    exact kysL_seg xs k x h
/-- Number lists lie there. -/
def KysAt (w : World) (ad : Option Addr) (Qs : List Ky) : Prop := ∀ (i : Nat) (Q : Ky), Qs[i]? = some Q → ∃ b o, ad = some ⟨b, o, none⟩ ∧ w.rangeAt b (o + i * 9) (ucs Q 9)
theorem KysAt.frm {w w' : World} {ad : Option Addr} {Qs : List Ky} (h : KysAt w ad Qs) (hF : Frm (fun _ => False) w w') : KysAt w' ad Qs := fun i Q hi => by
  obtain ⟨b, o, e, hr⟩ := h i Q hi
  exact ⟨b, o, e, Frm.range hF _ _ _ hr⟩
theorem KysAt.at {w : World} {b o : Nat} {Qs : List Ky} {i : Nat} {Q : Ky} (h : KysAt w (some ⟨b, o, none⟩) Qs) (hi : Qs[i]? = some Q) : w.rangeAt b (o + i * 9) (ucs Q 9) := by
  obtain ⟨b', o', e', hr⟩ := h i Q hi
  injection e' with e'
  injection e' with e1 e2
  subst e1 e2
  exact hr
theorem Vec.kys {w : World} {E : List Ent} {ad : Option Addr} {n c : Nat} {Qs : List Ky} (hV : Vec 9 ad n c (kysL Qs) E) (hn : n = Qs.length) (hE : ∀ e ∈ E, e.holds w) : KysAt w ad Qs := fun i Q hi => by
  have hlt : i < Qs.length := (List.getElem?_eq_some_iff.1 hi).1
  rcases hV with ⟨_, h, _⟩ | ⟨g, cs, rfl, rfl, hx, hcl, hk⟩
  · omega
  · refine ⟨g, 0, rfl, fun j v hj => ?_⟩
    have hR : Row w g cs := hE (.row g cs) (by simp)
    refine hR.cell ?_
    have hs := kysL_seg Qs i Q hi
    rw [← hs, List.getElem?_take] at hj
    split at hj
    · rw [List.getElem?_drop, ← hx, List.getElem?_take] at hj
      split at hj
      · rw [Nat.zero_add]; exact hj
      · cases hj
    · cases hj
theorem ucs_one (f : Ky) (n : Nat) : (ucs f n).all one = true := by
  unfold ucs
  rw [List.all_eq_true]
  intro v hv
  obtain ⟨i, _, rfl⟩ := List.mem_map.1 hv
  rfl
set_option maxHeartbeats 2000000 in
theorem RPut_c (w0 : World) (ad0 : Option Addr) (c0 : Nat) (Qs : List Ky) (h : Ky) (hA : KysAt w0 ad0 Qs) (hn : Qs.length ≤ 1000) :
    Calls Tryd.prog 62 #[.slice ad0 Qs.length c0, .agg (ucs h 9).toArray] w0 fun e w' => ∃ ad c E, e = .returned (.slice ad (putGo h Qs false).length c) ∧ Vec 9 ad (putGo h Qs false).length c (kysL (putGo h Qs false)) E ∧ St (fun _ => False) w0 w' E := by
  refine enter Tryd.func62 rfl Tryd.ntmps62 rfl (St.start (fun _ => False) w0) ?_
  refine WC.seq ?_
  refine WC.region ?_
  refine WL.box rfl rfl rfl (.none rfl) rfl rfl ?_
  intro g3 hg3
  refine WL.val (v_assign rfl rfl) (.none rfl) rfl rfl ?_
  refine WL.nil ?_
  refine WE.then_n ?_
  refine WC.seq ?_
  refine WC.region ?_
  refine WL.buildSlice rfl rfl Tryd.underlying56 sz_59 zero_59 rfl (by decide) rfl (.none rfl) rfl rfl ?_
  intro g9 hg9
  refine WL.val (v_assign rfl rfl) (.none rfl) rfl rfl ?_
  refine WL.nil ?_
  refine WE.then_n ?_
  refine WC.seq ?_
  refine WC.region ?_
  refine WL.val (v_assign rfl rfl) (.none rfl) rfl rfl ?_
  refine WL.nil ?_
  refine WE.then_n ?_
  refine WC.seq ?_
  refine WC.seq ?_
  refine WC.region ?_
  refine WL.val (v_move rfl rfl) (.none rfl) rfl rfl ?_
  refine WL.val (v_len_slice rfl rfl Tryd.underlying56) (.none rfl) rfl rfl ?_
  refine WL.val (v_move rfl rfl) (.none rfl) rfl rfl ?_
  refine WL.nil ?_
  refine WE.then_n ?_
  refine WC.block ?_
  refine WC.loop (fun x : Nat × List Ky × Bool × Option Addr × Nat × List Ent => [(12, .int .i64 x.1), (11, .int .i64 Qs.length), (10, .slice ad0 Qs.length c0), (5, .slice x.2.2.2.1 x.2.1.length x.2.2.2.2.1), (6, .bool x.2.2.1), (3, .pointer (some ⟨g3, 0, none⟩))]) (fun x => x.2.2.2.2.2 ++ [.row g3 (ucs h 9)]) (fun x => x.1 ≤ Qs.length ∧ x.2.1.length ≤ x.1 + 1 ∧ (x.2.2.1 = false → x.2.1.length ≤ x.1) ∧ x.2.1 ++ putGo h (Qs.drop x.1) x.2.2.1 = putGo h Qs false ∧ Vec 9 x.2.2.2.1 x.2.1.length x.2.2.2.2.1 (kysL x.2.1) x.2.2.2.2.2) (fun x => Qs.length - x.1) (0, [], false, some ⟨g9, 0, none⟩, 0, [.row g9 []]) ⟨Nat.zero_le _, Nat.zero_le _, (fun _ => Nat.zero_le _), rfl, Vec.row rfl rfl (Nat.le_refl _)⟩ (.cons rfl (.cons rfl (.cons rfl (.cons rfl (.cons rfl (.cons rfl .nil)))))) (.refl _) ?_
  rintro ⟨k, out, done, ad, c, E⟩ ⟨hk, hl, hdl, hg, hV⟩
  dsimp only at hk hl hdl hg hV
  dsimp only
  refine WC.seq ?_
  refine WC.region ?_
  refine WL.test (v_lss rfl rfl rfl) (.none rfl) rfl rfl (fun h13 => ?_) (fun h13 => ?_)
  · -- 13T
    refine WL.nil ?_
    refine WE.then_n ?_
    refine WC.seq ?_
    refine WC.cond_t rfl ?_
    refine WC.skip ?_
    refine WE.then_n ?_
    refine WC.seq ?_
    refine WC.block ?_
    refine WC.seq ?_
    refine WC.region ?_
    obtain ⟨x, hx⟩ := ex_get' (xs := Qs) (k := k) (by omega)
    obtain ⟨b, o, ea, _⟩ := hA k x hx
    rw [drop_cons hx] at hg
    refine WL.val (v_indexAddr (b := b) (off := o) (lo := k) rfl (by show some (Value.slice ad0 _ _) = _; rw [ea]) rfl Tryd.underlying56 sz_59 rfl (by omega)) (.none rfl) rfl rfl ?_
    refine WL.val (v_loadN (cs := ucs x 9) rfl rfl many_59 rfl (rangeIn (fun h => h) (KysAt.at (by rw [← ea]; exact hA) hx))) (.none rfl) rfl rfl ?_
    refine WL.alloc rfl zero_59 (.none rfl) rfl rfl ?_
    intro g8 hg8
    refine WL.storeW rfl rfl rfl rfl many_59 rfl rfl (.none rfl) rfl ?_
    refine WL.nil ?_
    refine WE.then_n ?_
    refine WC.cut (fun y : List Ky × Bool × Option Addr × Nat × List Ent => [(5, .slice y.2.2.1 y.1.length y.2.2.2.1), (6, .bool y.2.1), (8, .pointer (some ⟨g8, 0, none⟩)), (3, .pointer (some ⟨g3, 0, none⟩)), (12, .int .i64 k), (11, .int .i64 Qs.length), (10, .slice ad0 Qs.length c0)]) (fun y => .row g8 (ucs x 9) :: (y.2.2.2.2 ++ [.row g3 (ucs h 9)])) (fun y => y.1.length ≤ k + 1 ∧ Vec 9 y.2.2.1 y.1.length y.2.2.2.1 (kysL y.1) y.2.2.2.2 ∧ (y.2.1 = false → y.1.length ≤ k) ∧ y.1 ++ x :: putGo h (Qs.drop (k + 1)) (y.2.1 || eqK x h) = putGo h Qs false) ?_ ?_
    · -- cut22
      refine WC.seq ?_
      refine WC.region ?_
      refine WL.val (v_move rfl rfl) (.none rfl) rfl rfl ?_
      skip
      cases done
      · -- 16F
        refine WL.val (v_not rfl rfl rfl) (.none rfl) rfl rfl ?_
        refine WL.val (v_move rfl rfl) (.none rfl) rfl rfl ?_
        refine WL.val (v_loadN rfl rfl many_59 rfl allAt) (.some rfl rfl rfl) rfl rfl ?_
        refine WL.val (v_loadN rfl rfl many_59 rfl allAt) (.some rfl rfl rfl) rfl rfl ?_
        refine WL.call rfl rfl ck_84 (.some rfl rfl rfl) rfl rfl ?_
        intro w hS
        refine Calls.then (RLess_c w h x) hS ?_
        generalize hls : lessK h x = ls
        cases ls
        · -- 21F
          refine WL.val (v_pick_t rfl rfl rfl) (.none rfl) rfl rfl ?_
          refine WL.nil ?_
          refine WE.then_n ?_
          refine WC.cond_f rfl ?_
          refine WC.skip ?_
          rw [putGo, if_neg (by rw [hls]; decide)] at hg
          exact WE.mid (out, false, ad, c, E) ⟨by dsimp only; omega, hV, hdl, hg⟩ (.cons rfl (.cons rfl (.cons rfl (.cons rfl (.cons rfl (.cons rfl (.cons rfl .nil))))))) (.refl _)
        · -- 21T
          refine WL.val (v_pick_t rfl rfl rfl) (.none rfl) rfl rfl ?_
          refine WL.nil ?_
          refine WE.then_n ?_
          refine WC.cond_t rfl ?_
          refine WC.seq ?_
          refine WC.region ?_
          refine WL.val (v_move rfl rfl) (.none rfl) rfl rfl ?_
          refine WL.val (v_loadN rfl rfl many_59 rfl allAt) (.none rfl) rfl rfl ?_
          refine WL.buildSlice rfl rfl Tryd.underlying56 sz_59 zero_59 rfl (by decide) rfl (.none rfl) rfl rfl ?_
          intro g25 hg25
          refine WL.as (L' := .row g25 (ucs h 9) :: .row g8 (ucs x 9) :: (E ++ [.row g3 (ucs h 9)])) rfl ?_
          refine WL.to (L' := E ++ (.row g25 (ucs h 9) :: .row g8 (ucs x 9) :: [.row g3 (ucs h 9)])) (fun w hS => hS.front [_, _]) ?_
          refine WL.appendL rfl rfl rfl Tryd.underlying56 Tryd.underlying56 sz_59 by_59 zero_59 rfl rfl hV (new := ucs h 9) (fun _ => ⟨g25, 0, rfl, fun w hS => allAt (g := g25) w hS⟩) (ucs_len h 9) (ucs_one h 9) (by omega) (.none rfl) rfl rfl ?_
          intro ad26 c26 E26 hV26 hr26
          refine WL.to (L' := .row g8 (ucs x 9) :: (E26 ++ [.row g3 (ucs h 9)])) (fun w hS => St.front (R := [_]) E26 (hS.sub (List.Sublist.append_left (.cons _ (.refl _)) _))) ?_
          refine WL.val (v_assign rfl rfl) (.none rfl) rfl rfl ?_
          refine WL.nil ?_
          refine WE.then_n ?_
          refine WC.region ?_
          refine WL.val (v_assign rfl rfl) (.none rfl) rfl rfl ?_
          refine WL.nil ?_
          have hl9 : (out ++ [h]).length = out.length + 1 := (by rw [List.length_append]; rfl)
          rw [putGo, if_pos (by rw [hls]; rfl)] at hg
          exact WE.mid (out ++ [h], true, ad26, c26, E26) ⟨by have := hdl rfl; dsimp only; omega, by dsimp only; rw [hl9, ← kysL_snoc]; exact hV26, (fun q => by cases q), by dsimp only; rw [← hg, List.append_assoc, Bool.true_or]; rfl⟩ (.eq rfl (by dsimp only; rw [hl9]) (.cons rfl (.cons rfl (.cons rfl (.cons rfl (.cons rfl (.cons rfl .nil))))))) (.refl _)
      · -- 16T
        refine WL.val (v_not rfl rfl rfl) (.none rfl) rfl rfl ?_
        refine WL.val (v_move rfl rfl) (.none rfl) rfl rfl ?_
        refine WL.skip rfl rfl rfl rfl rfl rfl ?_
        refine WL.skip rfl rfl rfl rfl rfl rfl ?_
        refine WL.skip rfl rfl rfl rfl rfl rfl ?_
        refine WL.val (v_pick_f rfl rfl rfl) (.none rfl) rfl rfl ?_
        refine WL.nil ?_
        refine WE.then_n ?_
        refine WC.cond_f rfl ?_
        refine WC.skip ?_
        rw [putGo, if_neg (by simp)] at hg
        exact WE.mid (out, true, ad, c, E) ⟨by dsimp only; omega, hV, (fun q => by cases q), hg⟩ (.cons rfl (.cons rfl (.cons rfl (.cons rfl (.cons rfl (.cons rfl (.cons rfl .nil))))))) (.refl _)
    · -- behind cut22
      rintro ⟨out2, done2, ad2, c2, E2⟩ ⟨hl2, hV2, hd2, hg2⟩
      dsimp only at hl2 hV2 hd2 hg2
      dsimp only
      refine WC.seq ?_
      refine WC.seq ?_
      refine WC.region ?_
      refine WL.val (v_loadN rfl rfl many_59 rfl allAt) (.none rfl) rfl rfl ?_
      refine WL.val (v_loadN rfl rfl many_59 rfl allAt) (.none rfl) rfl rfl ?_
      generalize hek : eqK x h = ek
      cases ek
      · -- 28F
        refine WL.val (v_eql_aggF rfl rfl rfl eqk_59 eqg_59 rfl rfl (by intro q; rw [ucs_eqK.1 q] at hek; cases hek)) (.none rfl) rfl rfl ?_
        refine WL.nil ?_
        refine WE.then_n ?_
        refine WC.cond_f rfl ?_
        refine WC.skip ?_
        refine WE.then_n ?_
        refine WC.region ?_
        refine WL.val (v_move rfl rfl) (.none rfl) rfl rfl ?_
        refine WL.val (v_loadN rfl rfl many_59 rfl allAt) (.none rfl) rfl rfl ?_
        refine WL.buildSlice rfl rfl Tryd.underlying56 sz_59 zero_59 rfl (by decide) rfl (.none rfl) rfl rfl ?_
        intro g32 hg32
        refine WL.as (L' := .row g32 (ucs x 9) :: .row g8 (ucs x 9) :: (E2 ++ [.row g3 (ucs h 9)])) rfl ?_
        refine WL.to (L' := E2 ++ (.row g32 (ucs x 9) :: [.row g8 (ucs x 9), .row g3 (ucs h 9)])) (fun w hS => hS.front [_, _]) ?_
        refine WL.appendL rfl rfl rfl Tryd.underlying56 Tryd.underlying56 sz_59 by_59 zero_59 rfl rfl hV2 (new := ucs x 9) (fun _ => ⟨g32, 0, rfl, fun w hS => allAt (g := g32) w hS⟩) (ucs_len x 9) (ucs_one x 9) (by omega) (.none rfl) rfl rfl ?_
        intro ad33 c33 E33 hV33 hr33
        refine WL.val (v_assign rfl rfl) (.none rfl) rfl rfl ?_
        refine WL.nil ?_
        refine WE.block_n ?_
        refine WE.then_n ?_
        refine WC.region ?_
        refine WL.val (v_add rfl rfl rfl (w_i64 (by omega) (by omega))) (.none rfl) rfl rfl ?_
        refine WL.val (v_move rfl rfl) (.none rfl) rfl rfl ?_
        refine WL.nil ?_
        have hl9 : (out2 ++ [x]).length = out2.length + 1 := (by rw [List.length_append]; rfl)
        rw [hek, Bool.or_false] at hg2
        exact WE.next (k + 1, out2 ++ [x], done2, ad33, c33, E33) (by dsimp only; omega) ⟨by dsimp only; omega, by dsimp only; omega, (fun q => by have := hd2 q; dsimp only; omega), by dsimp only; rw [← hg2, List.append_assoc]; rfl, by dsimp only; rw [hl9, ← kysL_snoc]; exact hV33⟩ (.int rfl (by dsimp only; omega) (.cons rfl (.cons rfl (.eq rfl (by dsimp only; rw [hl9]) (.cons rfl (.cons rfl .nil)))))) (List.Sublist.append_left (.cons _ (.cons _ (.refl _))) _)
      · -- 28T
        refine WL.val (v_eql_aggT rfl rfl rfl eqk_59 eqg_59 rfl rfl (by exact ucs_eqK.2 hek)) (.none rfl) rfl rfl ?_
        refine WL.nil ?_
        refine WE.then_n ?_
        refine WC.cond_t rfl ?_
        refine WC.region ?_
        refine WL.val (v_assign rfl rfl) (.none rfl) rfl rfl ?_
        refine WL.nil ?_
        refine WE.then_n ?_
        refine WC.region ?_
        refine WL.val (v_move rfl rfl) (.none rfl) rfl rfl ?_
        refine WL.val (v_loadN rfl rfl many_59 rfl allAt) (.none rfl) rfl rfl ?_
        refine WL.buildSlice rfl rfl Tryd.underlying56 sz_59 zero_59 rfl (by decide) rfl (.none rfl) rfl rfl ?_
        intro g32 hg32
        refine WL.as (L' := .row g32 (ucs x 9) :: .row g8 (ucs x 9) :: (E2 ++ [.row g3 (ucs h 9)])) rfl ?_
        refine WL.to (L' := E2 ++ (.row g32 (ucs x 9) :: [.row g8 (ucs x 9), .row g3 (ucs h 9)])) (fun w hS => hS.front [_, _]) ?_
        refine WL.appendL rfl rfl rfl Tryd.underlying56 Tryd.underlying56 sz_59 by_59 zero_59 rfl rfl hV2 (new := ucs x 9) (fun _ => ⟨g32, 0, rfl, fun w hS => allAt (g := g32) w hS⟩) (ucs_len x 9) (ucs_one x 9) (by omega) (.none rfl) rfl rfl ?_
        intro ad33 c33 E33 hV33 hr33
        refine WL.val (v_assign rfl rfl) (.none rfl) rfl rfl ?_
        refine WL.nil ?_
        refine WE.block_n ?_
        refine WE.then_n ?_
        refine WC.region ?_
        refine WL.val (v_add rfl rfl rfl (w_i64 (by omega) (by omega))) (.none rfl) rfl rfl ?_
        refine WL.val (v_move rfl rfl) (.none rfl) rfl rfl ?_
        refine WL.nil ?_
        have hl9 : (out2 ++ [x]).length = out2.length + 1 := (by rw [List.length_append]; rfl)
        rw [hek, Bool.or_true] at hg2
        exact WE.next (k + 1, out2 ++ [x], true, ad33, c33, E33) (by dsimp only; omega) ⟨by dsimp only; omega, by dsimp only; omega, (fun q => by cases q), by dsimp only; rw [← hg2, List.append_assoc]; rfl, by dsimp only; rw [hl9, ← kysL_snoc]; exact hV33⟩ (.int rfl (by dsimp only; omega) (.cons rfl (.cons rfl (.eq rfl (by dsimp only; rw [hl9]) (.cons rfl (.cons rfl .nil)))))) (List.Sublist.append_left (.cons _ (.cons _ (.refl _))) _)
  · -- 13F
    refine WL.nil ?_
    refine WE.then_n ?_
    refine WC.seq ?_
    refine WC.cond_f rfl ?_
    refine WC.exit ?_
    refine WE.then_exit ?_
    refine WE.then_exit ?_
    refine WE.block_hit ?_
    refine WE.then_n ?_
    refine WC.seq ?_
    refine WC.seq ?_
    refine WC.region ?_
    obtain rfl : k = Qs.length := (by omega)
    rw [List.drop_length, putGo] at hg
    refine WL.val (v_move rfl rfl) (.none rfl) rfl rfl ?_
    skip
    cases done
    · -- 35F
      refine WL.val (v_not rfl rfl rfl) (.none rfl) rfl rfl ?_
      refine WL.nil ?_
      refine WE.then_n ?_
      refine WC.cond_t rfl ?_
      refine WC.region ?_
      refine WL.val (v_move rfl rfl) (.none rfl) rfl rfl ?_
      refine WL.val (v_loadN rfl rfl many_59 rfl allAt) (.none rfl) rfl rfl ?_
      refine WL.buildSlice rfl rfl Tryd.underlying56 sz_59 zero_59 rfl (by decide) rfl (.none rfl) rfl rfl ?_
      intro g39 hg39
      refine WL.as (L' := .row g39 (ucs h 9) :: (E ++ [.row g3 (ucs h 9)])) rfl ?_
      refine WL.to (L' := E ++ (.row g39 (ucs h 9) :: [.row g3 (ucs h 9)])) (fun w hS => hS.front [_]) ?_
      refine WL.appendL rfl rfl rfl Tryd.underlying56 Tryd.underlying56 sz_59 by_59 zero_59 rfl rfl hV (new := ucs h 9) (fun _ => ⟨g39, 0, rfl, fun w hS => allAt (g := g39) w hS⟩) (ucs_len h 9) (ucs_one h 9) (by omega) (.none rfl) rfl rfl ?_
      intro ad40 c40 E40 hV40 hr40
      refine WL.val (v_assign rfl rfl) (.none rfl) rfl rfl ?_
      refine WL.nil ?_
      refine WE.then_n ?_
      refine WC.seq ?_
      refine WC.region ?_
      refine WL.val (v_move rfl rfl) (.none rfl) rfl rfl ?_
      refine WL.val (v_assign rfl rfl) (.none rfl) rfl rfl ?_
      refine WL.nil ?_
      refine WE.then_n ?_
      refine WC.ret ?_
      refine WE.ret1 (P := Tryd.prog) (.inl rfl) Tryd.results62 rfl ?_
      have hl9 : (out ++ [h]).length = out.length + 1 := (by rw [List.length_append]; rfl)
      rw [if_neg (by decide)] at hg
      rw [← hg]
      exact fun w' h => ⟨ad40, c40, E40, by rw [hl9], by rw [hl9, ← kysL_snoc]; exact hV40, h.sub (List.sublist_append_left _ _)⟩
    · -- 35T
      refine WL.val (v_not rfl rfl rfl) (.none rfl) rfl rfl ?_
      refine WL.nil ?_
      refine WE.then_n ?_
      refine WC.cond_f rfl ?_
      refine WC.skip ?_
      refine WE.then_n ?_
      refine WC.seq ?_
      refine WC.region ?_
      refine WL.val (v_move rfl rfl) (.none rfl) rfl rfl ?_
      refine WL.val (v_assign rfl rfl) (.none rfl) rfl rfl ?_
      refine WL.nil ?_
      refine WE.then_n ?_
      refine WC.ret ?_
      refine WE.ret1 (P := Tryd.prog) (.inl rfl) Tryd.results62 rfl ?_
      rw [if_pos rfl, List.append_nil] at hg
      rw [← hg]
      exact fun w' h => ⟨ad, c, E, rfl, hV, h.sub (List.sublist_append_left _ _)⟩
end Go.Proofs.YtodaanhhnjkncaaDoor
/- policy: the reference's Holds and Run. -/
namespace Go.Proofs.YtodaanhhnjkncaaDoor
open Go.RowKit

theorem holdsG_eq (h : Ky) (t : Nd) : holdsG h t = if t.kind = 1 then true else if t.kind = 3 then decide (andN (xorN (h t.f.toNat) t.val) t.mask = 0) else if t.kind = 4 then !((t.kids.map (holdsG h)).getD 0 false) else if t.kind = 5 then (t.kids.map (holdsG h)).all id else if t.kind = 6 then (t.kids.map (holdsG h)).any id else false := by
  have hm : ∀ ts : List Nd, holdsGs h ts = ts.map (holdsG h) := fun ts => by
    induction ts with
    | nil => rw [holdsGs]; rfl
    | cons t ts ih => rw [holdsGs, ih]; rfl
  cases t; rw [holdsG, hm]; rfl
theorem holdsGs_map (h : Ky) : ∀ ts : List Nd, holdsGs h ts = ts.map (holdsG h)
  | [] => by rw [holdsGs]; rfl
  | t :: ts => by rw [holdsGs, holdsGs_map h ts]; rfl
theorem all_to {α : Type} {f : α → Bool} {xs : List α} {k : Nat} {x : α} (hx : xs[k]? = some x) : (xs.drop k).all f = (f x && (xs.drop (k + 1)).all f) := by rw [drop_cons hx]; rfl
theorem any_to {α : Type} {f : α → Bool} {xs : List α} {k : Nat} {x : α} (hx : xs[k]? = some x) : (xs.drop k).any f = (f x || (xs.drop (k + 1)).any f) := by rw [drop_cons hx]; rfl
set_option maxHeartbeats 2000000 in
theorem RHolds_c (h : Ky) (hz : Kz h) : ∀ (N : Nat) (t : Nd), SizeOf.sizeOf t ≤ N → ∀ (w0 : World), okT true t → t.In → t.At w0 →
    Calls Tryd.prog 61 #[ndV t, .agg (ucs h 9).toArray] w0 fun e w' => e = .returned (.bool (holdsG h t)) ∧ Frm (fun _ => False) w0 w'
  | 0 => fun t hN => by cases t; simp only [Nd.mk.sizeOf_spec] at hN; omega
  | N + 1 => by
    intro t hN w0 hk hI hA
    have hnums := hI.nums
    have hlen := hnums.2.2.2.2
    obtain ⟨_, harg, hform, _⟩ := hk.parts
    have hfl := formE_le hform
    have e0 := holdsG_eq h t
    refine enter Tryd.func61 rfl Tryd.ntmps61 rfl (St.start (fun _ => False) w0) ?_
    refine WC.seq ?_
    refine WC.region ?_
    refine WL.box rfl rfl rfl (.none rfl) rfl rfl ?_
    intro g2 hg2
    refine WL.box rfl rfl rfl (.none rfl) rfl rfl ?_
    intro g3 hg3
    refine WL.val (v_assign rfl rfl) (.none rfl) rfl rfl ?_
    refine WL.nil ?_
    refine WE.then_n ?_
    refine WC.seq ?_
    refine WC.seq ?_
    refine WC.region ?_
    refine WL.val (v_fieldAddr0 rfl rfl fld_52_0) (.none rfl) rfl rfl ?_
    refine WL.val (v_load1 rfl rfl one_3 (cellAt rfl)) (.none rfl) rfl rfl ?_
    refine WL.nil ?_
    refine WE.then_n ?_
    refine WC.block ?_
    refine WC.seq ?_
    refine WC.region ?_
    refine WL.test (v_eql rfl rfl rfl) (.none rfl) rfl rfl (fun h12 => ?_) (fun h12 => ?_)
    · -- 12T
      refine WL.val (v_assign rfl rfl) (.none rfl) rfl rfl ?_
      refine WL.nil ?_
      refine WE.then_n ?_
      refine WC.cond_t rfl ?_
      refine WC.seq ?_
      refine WC.region ?_
      refine WL.val (v_assign rfl rfl) (.none rfl) rfl rfl ?_
      refine WL.nil ?_
      refine WE.then_n ?_
      refine WC.ret ?_
      refine WE.block_ret ?_
      refine WE.then_ret ?_
      refine WE.ret1 (P := Tryd.prog) (.inl rfl) Tryd.results61 rfl ?_
      exact fun w' h => ⟨by rw [e0, if_pos h12], h.frm⟩
    · -- 12F
      refine WL.val (v_assign rfl rfl) (.none rfl) rfl rfl ?_
      refine WL.nil ?_
      refine WE.then_n ?_
      refine WC.cond_f rfl ?_
      refine WC.seq ?_
      refine WC.region ?_
      refine WL.test (v_eql rfl rfl rfl) (.none rfl) rfl rfl (fun h14 => ?_) (fun h14 => ?_)
      · -- 14T
        refine WL.val (v_assign rfl rfl) (.none rfl) rfl rfl ?_
        refine WL.nil ?_
        refine WE.then_n ?_
        refine WC.cond_t rfl ?_
        refine WC.seq ?_
        refine WC.quiet mixed (by kernel_rfl) ?_
        obtain ⟨q, eq, hq, eq2⟩ : ∃ q : Nat, t.f = q ∧ q < 9 ∧ t.f.toNat = q := (by
          unfold argE at harg
          rw [if_pos h14] at harg
          split at harg
          · cases harg
          · rename_i hh; exact isFld.nat (Classical.not_not.1 (fun q => hh (.inl q))))
        have hb := hz.2 q
        have hanv : andNotN t.val t.mask = 0 := (by
          unfold argE at harg
          rw [if_pos h14] at harg
          split at harg
          · cases harg
          · rename_i hh; exact Classical.not_not.1 (fun q => hh (.inr (.inr q))))
        refine WQ.val (v_fieldAddr0 rfl rfl fld_52_1) (.none rfl) rfl rfl ?_
        refine WQ.val (v_load1 rfl rfl one_3 (cellAt rfl)) (.none rfl) rfl rfl ?_
        refine WQ.val (v_indexAddrA (lo := q) rfl rfl rfl Tryd.underlying59 sz_22 (by rw [eq]) (by omega)) (.none rfl) rfl rfl ?_
        refine WQ.val (v_load1 rfl rfl one_22 (cellAt (by rw [Nat.zero_add, Nat.mul_one]; exact ucs_get h hq))) (.none rfl) rfl rfl ?_
        refine WQ.val (v_fieldAddr0 rfl rfl fld_52_3) (.none rfl) rfl rfl ?_
        refine WQ.val (v_load1 rfl rfl one_22 (cellAt rfl)) (.none rfl) rfl rfl ?_
        refine WQ.val (v_and rfl rfl rfl (bits_and_u64 hb.1 hb.2 hnums.2.2.2.1.1 hnums.2.2.2.1.2)) (.none rfl) rfl rfl ?_
        refine WQ.val (v_fieldAddr0 rfl rfl fld_52_2) (.none rfl) rfl rfl ?_
        refine WQ.val (v_load1 rfl rfl one_22 (cellAt rfl)) (.none rfl) rfl rfl ?_
        refine WQ.val (v_eql rfl rfl rfl) (.none rfl) rfl rfl ?_
        refine WQ.val (v_assign rfl rfl) (.none rfl) rfl rfl ?_
        refine WQ.nil ?_
        refine WE.then_n ?_
        refine WC.ret ?_
        refine WE.block_ret ?_
        refine WE.then_ret ?_
        refine WE.ret1 (P := Tryd.prog) (.inl rfl) Tryd.results61 rfl ?_
        exact fun w' h => ⟨by rw [e0, if_neg h12, if_pos h14, eq2, holds_bits hb.1 hnums.2.2.1.1 hanv], h.frm⟩
      · -- 14F
        refine WL.val (v_assign rfl rfl) (.none rfl) rfl rfl ?_
        refine WL.nil ?_
        refine WE.then_n ?_
        refine WC.cond_f rfl ?_
        refine WC.seq ?_
        refine WC.region ?_
        refine WL.test (v_eql rfl rfl rfl) (.none rfl) rfl rfl (fun h26 => ?_) (fun h26 => ?_)
        · -- 26T
          refine WL.val (v_assign rfl rfl) (.none rfl) rfl rfl ?_
          refine WL.nil ?_
          refine WE.then_n ?_
          refine WC.cond_t rfl ?_
          refine WC.seq ?_
          refine WC.quiet mixed (by kernel_rfl) ?_
          obtain ⟨u, hu⟩ := ex_get' (xs := t.kids) (k := 0) (by have := hfl.1; rw [h26, show leastK 4 = 1 by decide] at this; omega)
          obtain ⟨b, o, ea, hr⟩ := (hA.kid hu).1
          have hl0 : 0 < t.kids.length := (List.getElem?_eq_some_iff.1 hu).1
          refine WQ.val (v_fieldAddr0 rfl rfl fld_52_4) (.none rfl) rfl rfl ?_
          refine WQ.val (v_load1 rfl rfl one_50 (cellAt rfl)) (.none rfl) rfl rfl ?_
          refine WQ.val (v_indexAddr (b := b) (off := o) (lo := 0) rfl (by show some (Value.slice t.ad _ _) = _; rw [ea]) rfl Tryd.underlying50 sz_52 rfl hl0) (.none rfl) rfl rfl ?_
          refine WQ.val (v_loadN (cs := ndL u) rfl rfl many_52 rfl (rangeIn (fun h => h) hr)) (.none rfl) rfl rfl ?_
          refine WQ.val (v_loadN rfl rfl many_59 rfl allAt) (.none rfl) rfl rfl ?_
          refine WQ.call _ rfl rfl ck_61 (.none rfl) rfl rfl (fun w hS => Calls.still (RHolds_c h hz N u (Nd.kidN hN hu) w (by have := hk.kid hu; rwa [predK_pred (by omega)] at this) (hI.kids.get _ _ _ hu) ((hA.kid hu).2.st (fun _ h => h) hS)) hS) ?_
          generalize hbb : holdsG h u = bb
          cases bb
          · -- 32F
            refine WQ.val (v_not rfl rfl rfl) (.none rfl) rfl rfl ?_
            refine WQ.val (v_assign rfl rfl) (.none rfl) rfl rfl ?_
            refine WQ.nil ?_
            refine WE.then_n ?_
            refine WC.ret ?_
            refine WE.block_ret ?_
            refine WE.then_ret ?_
            refine WE.ret1 (P := Tryd.prog) (.inl rfl) Tryd.results61 rfl ?_
            exact fun w' h => ⟨by rw [e0, if_neg h12, if_neg h14, if_pos h26, List.getD_eq_getElem?_getD, List.getElem?_map, hu]; simp [hbb], h.frm⟩
          · -- 32T
            refine WQ.val (v_not rfl rfl rfl) (.none rfl) rfl rfl ?_
            refine WQ.val (v_assign rfl rfl) (.none rfl) rfl rfl ?_
            refine WQ.nil ?_
            refine WE.then_n ?_
            refine WC.ret ?_
            refine WE.block_ret ?_
            refine WE.then_ret ?_
            refine WE.ret1 (P := Tryd.prog) (.inl rfl) Tryd.results61 rfl ?_
            exact fun w' h => ⟨by rw [e0, if_neg h12, if_neg h14, if_pos h26, List.getD_eq_getElem?_getD, List.getElem?_map, hu]; simp [hbb], h.frm⟩
        · -- 26F
          refine WL.val (v_assign rfl rfl) (.none rfl) rfl rfl ?_
          refine WL.nil ?_
          refine WE.then_n ?_
          refine WC.cond_f rfl ?_
          refine WC.seq ?_
          refine WC.region ?_
          refine WL.test (v_eql rfl rfl rfl) (.none rfl) rfl rfl (fun h35 => ?_) (fun h35 => ?_)
          · -- 35T
            refine WL.val (v_assign rfl rfl) (.none rfl) rfl rfl ?_
            refine WL.nil ?_
            refine WE.then_n ?_
            refine WC.cond_t rfl ?_
            refine WC.seq ?_
            refine WC.seq ?_
            refine WC.region ?_
            refine WL.val (v_fieldAddr0 rfl rfl fld_52_4) (.none rfl) rfl rfl ?_
            refine WL.val (v_load1 rfl rfl one_50 (cellAt rfl)) (.none rfl) rfl rfl ?_
            refine WL.val (v_len_slice rfl rfl Tryd.underlying50) (.none rfl) rfl rfl ?_
            refine WL.val (v_move rfl rfl) (.none rfl) rfl rfl ?_
            refine WL.nil ?_
            refine WE.then_n ?_
            refine WC.block ?_
            refine WC.loop (fun k : Nat => [(39, .int .i64 k), (38, .int .i64 t.kids.length), (37, .slice t.ad t.kids.length t.cap), (3, .pointer (some ⟨g3, 0, none⟩))]) (fun _ => [.row g3 (ucs h 9)]) (fun k => k ≤ t.kids.length ∧ t.kids.all (holdsG h) = (t.kids.drop k).all (holdsG h)) (fun k => t.kids.length - k) 0 ⟨Nat.zero_le _, rfl⟩ (.cons rfl (.cons rfl (.cons rfl (.cons rfl .nil)))) (.cons_cons _ (.cons _ .slnil)) ?_
            rintro k ⟨hkk, hall⟩
            refine WC.seq ?_
            refine WC.region ?_
            refine WL.test (v_lss rfl rfl rfl) (.none rfl) rfl rfl (fun h40 => ?_) (fun h40 => ?_)
            · -- 40T
              refine WL.nil ?_
              refine WE.then_n ?_
              refine WC.seq ?_
              refine WC.cond_t rfl ?_
              refine WC.skip ?_
              refine WE.then_n ?_
              refine WC.seq ?_
              refine WC.block ?_
              refine WC.seq ?_
              refine WC.region ?_
              obtain ⟨u, hu⟩ := ex_get' (xs := t.kids) (k := k) (by omega)
              obtain ⟨b, o, ea, hr⟩ := (hA.kid hu).1
              rw [all_to hu] at hall
              refine WL.val (v_indexAddr (b := b) (off := o) (lo := k) rfl (by show some (Value.slice t.ad _ _) = _; rw [ea]) rfl Tryd.underlying50 sz_52 rfl (by omega)) (.none rfl) rfl rfl ?_
              refine WL.val (v_loadN (cs := ndL u) rfl rfl many_52 rfl (rangeIn (fun h => h) hr)) (.none rfl) rfl rfl ?_
              refine WL.alloc rfl zero_52 (.none rfl) rfl rfl ?_
              intro g6 hg6
              refine WL.storeW rfl rfl rfl rfl many_52 rfl rfl (.none rfl) rfl ?_
              refine WL.nil ?_
              refine WE.then_n ?_
              refine WC.seq ?_
              refine WC.region ?_
              refine WL.val (v_loadN rfl rfl many_52 rfl allAt) (.none rfl) rfl rfl ?_
              refine WL.val (v_loadN rfl rfl many_59 rfl allAt) (.none rfl) rfl rfl ?_
              refine WL.call rfl rfl ck_61 (.none rfl) rfl rfl ?_
              intro w hS
              refine Calls.then (RHolds_c h hz N u (Nd.kidN hN hu) w (by have := hk.kid hu; rwa [predK_pred (by omega)] at this) (hI.kids.get _ _ _ hu) ((hA.kid hu).2.st (fun _ h => h) hS)) hS ?_
              generalize hbb : holdsG h u = bb
              cases bb
              · -- 45F
                refine WL.val (v_not rfl rfl rfl) (.none rfl) rfl rfl ?_
                refine WL.nil ?_
                refine WE.then_n ?_
                refine WC.cond_t rfl ?_
                refine WC.seq ?_
                refine WC.region ?_
                refine WL.val (v_assign rfl rfl) (.none rfl) rfl rfl ?_
                refine WL.nil ?_
                refine WE.then_n ?_
                refine WC.ret ?_
                refine WE.block_ret ?_
                refine WE.then_ret ?_
                refine WE.then_ret ?_
                refine WE.block_ret ?_
                refine WE.then_ret ?_
                refine WE.block_ret ?_
                refine WE.then_ret ?_
                refine WE.ret1 (P := Tryd.prog) (.inl rfl) Tryd.results61 rfl ?_
                rw [hbb, Bool.false_and] at hall
                exact fun w' h => ⟨by rw [e0, if_neg h12, if_neg h14, if_neg h26, if_pos h35, List.all_map]; show _ = Ending.returned (.bool (t.kids.all (holdsG _))); rw [hall], h.frm⟩
              · -- 45T
                refine WL.val (v_not rfl rfl rfl) (.none rfl) rfl rfl ?_
                refine WL.nil ?_
                refine WE.then_n ?_
                refine WC.cond_f rfl ?_
                refine WC.skip ?_
                refine WE.block_n ?_
                refine WE.then_n ?_
                refine WC.region ?_
                refine WL.val (v_add rfl rfl rfl (w_i64 (by omega) (by omega))) (.none rfl) rfl rfl ?_
                refine WL.val (v_move rfl rfl) (.none rfl) rfl rfl ?_
                refine WL.nil ?_
                rw [hbb, Bool.true_and] at hall
                exact WE.next (k + 1) (by omega) ⟨by omega, hall⟩ (.int rfl (by omega) (.cons rfl (.cons rfl (.cons rfl .nil)))) (.cons _ (.refl _))
            · -- 40F
              refine WL.nil ?_
              refine WE.then_n ?_
              refine WC.seq ?_
              refine WC.cond_f rfl ?_
              refine WC.exit ?_
              refine WE.then_exit ?_
              refine WE.then_exit ?_
              refine WE.block_hit ?_
              refine WE.then_n ?_
              refine WC.seq ?_
              refine WC.region ?_
              refine WL.val (v_assign rfl rfl) (.none rfl) rfl rfl ?_
              refine WL.nil ?_
              refine WE.then_n ?_
              refine WC.ret ?_
              refine WE.block_ret ?_
              refine WE.then_ret ?_
              refine WE.ret1 (P := Tryd.prog) (.inl rfl) Tryd.results61 rfl ?_
              obtain rfl : k = t.kids.length := (by omega)
              rw [List.drop_length] at hall
              exact fun w' h => ⟨by rw [e0, if_neg h12, if_neg h14, if_neg h26, if_pos h35, List.all_map]; show _ = Ending.returned (.bool (t.kids.all (holdsG _))); rw [hall]; rfl, h.frm⟩
          · -- 35F
            refine WL.val (v_assign rfl rfl) (.none rfl) rfl rfl ?_
            refine WL.nil ?_
            refine WE.then_n ?_
            refine WC.cond_f rfl ?_
            refine WC.seq ?_
            refine WC.region ?_
            refine WL.test (v_eql rfl rfl rfl) (.none rfl) rfl rfl (fun h49 => ?_) (fun h49 => ?_)
            · -- 49T
              refine WL.val (v_assign rfl rfl) (.none rfl) rfl rfl ?_
              refine WL.nil ?_
              refine WE.then_n ?_
              refine WC.cond_t rfl ?_
              refine WC.seq ?_
              refine WC.region ?_
              refine WL.val (v_fieldAddr0 rfl rfl fld_52_4) (.none rfl) rfl rfl ?_
              refine WL.val (v_load1 rfl rfl one_50 (cellAt rfl)) (.none rfl) rfl rfl ?_
              refine WL.val (v_len_slice rfl rfl Tryd.underlying50) (.none rfl) rfl rfl ?_
              refine WL.val (v_move rfl rfl) (.none rfl) rfl rfl ?_
              refine WL.nil ?_
              refine WE.then_n ?_
              refine WC.block ?_
              refine WC.loop (fun k : Nat => [(53, .int .i64 k), (52, .int .i64 t.kids.length), (51, .slice t.ad t.kids.length t.cap), (3, .pointer (some ⟨g3, 0, none⟩))]) (fun _ => [.row g3 (ucs h 9)]) (fun k => k ≤ t.kids.length ∧ t.kids.any (holdsG h) = (t.kids.drop k).any (holdsG h)) (fun k => t.kids.length - k) 0 ⟨Nat.zero_le _, rfl⟩ (.cons rfl (.cons rfl (.cons rfl (.cons rfl .nil)))) (.cons_cons _ (.cons _ .slnil)) ?_
              rintro k ⟨hkk, hall⟩
              refine WC.seq ?_
              refine WC.region ?_
              refine WL.test (v_lss rfl rfl rfl) (.none rfl) rfl rfl (fun h54 => ?_) (fun h54 => ?_)
              · -- 54T
                refine WL.nil ?_
                refine WE.then_n ?_
                refine WC.seq ?_
                refine WC.cond_t rfl ?_
                refine WC.skip ?_
                refine WE.then_n ?_
                refine WC.seq ?_
                refine WC.block ?_
                refine WC.seq ?_
                refine WC.region ?_
                obtain ⟨u, hu⟩ := ex_get' (xs := t.kids) (k := k) (by omega)
                obtain ⟨b, o, ea, hr⟩ := (hA.kid hu).1
                rw [any_to hu] at hall
                refine WL.val (v_indexAddr (b := b) (off := o) (lo := k) rfl (by show some (Value.slice t.ad _ _) = _; rw [ea]) rfl Tryd.underlying50 sz_52 rfl (by omega)) (.none rfl) rfl rfl ?_
                refine WL.val (v_loadN (cs := ndL u) rfl rfl many_52 rfl (rangeIn (fun h => h) hr)) (.none rfl) rfl rfl ?_
                refine WL.alloc rfl zero_52 (.none rfl) rfl rfl ?_
                intro g8 hg8
                refine WL.storeW rfl rfl rfl rfl many_52 rfl rfl (.none rfl) rfl ?_
                refine WL.nil ?_
                refine WE.then_n ?_
                refine WC.seq ?_
                refine WC.region ?_
                refine WL.val (v_loadN rfl rfl many_52 rfl allAt) (.none rfl) rfl rfl ?_
                refine WL.val (v_loadN rfl rfl many_59 rfl allAt) (.none rfl) rfl rfl ?_
                refine WL.call rfl rfl ck_61 (.none rfl) rfl rfl ?_
                intro w hS
                refine Calls.then (RHolds_c h hz N u (Nd.kidN hN hu) w (by have := hk.kid hu; rwa [predK_pred (by omega)] at this) (hI.kids.get _ _ _ hu) ((hA.kid hu).2.st (fun _ h => h) hS)) hS ?_
                generalize hbb : holdsG h u = bb
                cases bb
                · -- 59F
                  refine WL.nil ?_
                  refine WE.then_n ?_
                  refine WC.cond_f rfl ?_
                  refine WC.skip ?_
                  refine WE.block_n ?_
                  refine WE.then_n ?_
                  refine WC.region ?_
                  refine WL.val (v_add rfl rfl rfl (w_i64 (by omega) (by omega))) (.none rfl) rfl rfl ?_
                  refine WL.val (v_move rfl rfl) (.none rfl) rfl rfl ?_
                  refine WL.nil ?_
                  rw [hbb, Bool.false_or] at hall
                  exact WE.next (k + 1) (by omega) ⟨by omega, hall⟩ (.int rfl (by omega) (.cons rfl (.cons rfl (.cons rfl .nil)))) (.cons _ (.refl _))
                · -- 59T
                  refine WL.nil ?_
                  refine WE.then_n ?_
                  refine WC.cond_t rfl ?_
                  refine WC.seq ?_
                  refine WC.region ?_
                  refine WL.val (v_assign rfl rfl) (.none rfl) rfl rfl ?_
                  refine WL.nil ?_
                  refine WE.then_n ?_
                  refine WC.ret ?_
                  refine WE.block_ret ?_
                  refine WE.then_ret ?_
                  refine WE.then_ret ?_
                  refine WE.block_ret ?_
                  refine WE.block_ret ?_
                  refine WE.then_ret ?_
                  refine WE.ret1 (P := Tryd.prog) (.inl rfl) Tryd.results61 rfl ?_
                  rw [hbb, Bool.true_or] at hall
                  exact fun w' h => ⟨by rw [e0, if_neg h12, if_neg h14, if_neg h26, if_neg h35, if_pos h49, List.any_map]; show _ = Ending.returned (.bool (t.kids.any (holdsG _))); rw [hall], h.frm⟩
              · -- 54F
                refine WL.nil ?_
                refine WE.then_n ?_
                refine WC.seq ?_
                refine WC.cond_f rfl ?_
                refine WC.exit ?_
                refine WE.then_exit ?_
                refine WE.then_exit ?_
                refine WE.block_hit ?_
                refine WE.block_n ?_
                refine WE.then_n ?_
                refine WC.seq ?_
                refine WC.region ?_
                refine WL.val (v_assign rfl rfl) (.none rfl) rfl rfl ?_
                refine WL.nil ?_
                refine WE.then_n ?_
                refine WC.ret ?_
                refine WE.ret1 (P := Tryd.prog) (.inl rfl) Tryd.results61 rfl ?_
                obtain rfl : k = t.kids.length := (by omega)
                rw [List.drop_length] at hall
                exact fun w' h => ⟨by rw [e0, if_neg h12, if_neg h14, if_neg h26, if_neg h35, if_pos h49, List.any_map]; show _ = Ending.returned (.bool (t.kids.any (holdsG _))); rw [hall]; rfl, h.frm⟩
            · -- 49F
              refine WL.val (v_assign rfl rfl) (.none rfl) rfl rfl ?_
              refine WL.nil ?_
              refine WE.then_n ?_
              refine WC.cond_f rfl ?_
              refine WC.skip ?_
              refine WE.block_n ?_
              refine WE.then_n ?_
              refine WC.seq ?_
              refine WC.region ?_
              refine WL.val (v_assign rfl rfl) (.none rfl) rfl rfl ?_
              refine WL.nil ?_
              refine WE.then_n ?_
              refine WC.ret ?_
              refine WE.ret1 (P := Tryd.prog) (.inl rfl) Tryd.results61 rfl ?_
              exact fun w' h => ⟨by rw [e0, if_neg h12, if_neg h14, if_neg h26, if_neg h35, if_neg h49], h.frm⟩
end Go.Proofs.YtodaanhhnjkncaaDoor
/- policy: the reference's Run. -/
namespace Go.Proofs.YtodaanhhnjkncaaDoor
open Go.RowKit

def RPost (w0 : World) (o : Option (List Ky)) (e : Ending) (w' : World) : Prop :=
  ∃ Qs ad c E b, e = .returned (.tuple #[.slice ad (List.length Qs) c, .bool b]) ∧ Vec 9 ad (List.length Qs) c (kysL Qs) E ∧ St (fun _ => False) w0 w' E ∧ ((b = true ∧ o = some Qs) ∨ (b = false ∧ o = none ∧ Qs = []))
theorem RPost.none {w0 w' : World} {L : List Ent} {o : Option (List Ky)} (ho : o = .none) (h : St (fun _ => False) w0 w' L) : RPost w0 o (.returned (.tuple #[.slice .none 0 0, .bool false])) w' :=
  ⟨[], .none, 0, [], false, rfl, Vec.nil 9, h.sub (List.nil_sublist _), .inr ⟨rfl, ho, rfl⟩⟩
theorem RPost.some {w0 w' : World} {L E : List Ent} {o : Option (List Ky)} {Qs : List Ky} {ad : Option Addr} {c : Nat} (ho : o = .some Qs) (hV : Vec 9 ad Qs.length c (kysL Qs) E) (h : St (fun _ => False) w0 w' L) (hs : E.Sublist L) : RPost w0 o (.returned (.tuple #[.slice ad Qs.length c, .bool true])) w' :=
  ⟨Qs, ad, c, E, true, rfl, hV, h.sub hs, .inl ⟨rfl, ho⟩⟩
theorem St.shift2 {p : Nat → Prop} {w0 w : World} {z a : Ent} {N X E R : List Ent} (h : St p w0 w (N ++ (z :: (X ++ (a :: (E ++ R)))))) : St p w0 w (X ++ (a :: (N ++ R))) :=
  (h.sub (L' := N ++ (X ++ (a :: R))) (List.Sublist.append_left (.cons _ (List.Sublist.append_left (.cons_cons _ (List.sublist_append_right _ _)) _)) _)).perm (by
    have := List.perm_append_comm_assoc (X ++ [a]) N R
    simpa [List.append_assoc] using this)
theorem putAll_len : ∀ (hs out : List Ky), (putAll out hs).length ≤ out.length + hs.length
  | [], out => Nat.le_refl _
  | x :: hs, out => by
    show (putAll (putGo x out false) hs).length ≤ _
    have h1 := putAll_len hs (putGo x out false)
    have h2 := putGo_len x out false
    rw [List.length_cons]; omega
theorem addR_some {out hs : List Ky} (h : ¬ 64 < (putAll out hs).length) : addR out hs = some (putAll out hs) := by unfold addR; rw [if_neg h]
theorem addR_none {out hs : List Ky} (h : 64 < (putAll out hs).length) : addR out hs = none := by unfold addR; rw [if_pos h]
theorem gNth_get : ∀ (ts : List Nd) (i : Nat) (u : Nd) (h : Ky), ts[i]? = some u → gNth moK ts i h = gT moK u h
  | [], _, _, _, h => by simp at h
  | t :: ts, 0, u, H, h => by
    simp only [List.getElem?_cons_zero, Option.some.injEq] at h
    subst h; rw [gNth]
  | t :: ts, i + 1, u, H, h => by
    rw [List.getElem?_cons_succ] at h
    rw [gNth]; exact gNth_get ts i u H h
theorem gT_eq (t : Nd) (h : Ky) : gT moK t h =
    if t.kind = 12 then some [h]
    else if t.kind = 13 then (if (t.kids.map (holdsG h)).getD 0 false then some [h] else some [])
    else if t.kind = 14 then some [updK t.f.toNat t.val h]
    else if t.kind = 15 then gPar moK t.kids h []
    else if t.kind = 16 then gSeq moK t.kids [h]
    else if t.kind = 17 then (if (t.kids.map (holdsG h)).getD 0 false then gNth moK t.kids 1 h else gNth moK t.kids 2 h)
    else some [] := by
  have hk : moK.key h = h := rfl
  cases t; rw [gT, hk, holdsGs_map]; rfl
theorem gd_upd {out hs : List Ky} (h1 : GdK out) (h2 : GdK hs) (h : ¬ 64 < (putAll out hs).length) : GdK (putAll out hs) := (moK.some_ out hs _ h1 h2 (addR_some h)).1
theorem ucs_upd {h : Ky} {q : Nat} {v : Int} (hq : q < 9) : (ucs h 9).set (0 + q * 1) (.int .u64 v) = ucs (updK q v h) 9 := by
  rw [Nat.zero_add, Nat.mul_one, ucs_set hq]; rfl
set_option maxHeartbeats 8000000 in
theorem RRun_c : ∀ (N : Nat) (t : Nd), SizeOf.sizeOf t ≤ N → ∀ (w0 : World) (pred : Bool) (h : Ky), okT pred t → t.In → t.At w0 → Kz h →
    Calls Tryd.prog 25 #[ndV t, .agg (ucs h 9).toArray] w0 (RPost w0 (gT moK t h))
  | 0 => fun t hN => by cases t; simp only [Nd.mk.sizeOf_spec] at hN; omega
  | N + 1 => by
    intro t hN w0 pred h hk hI hA hz
    have hnums := hI.nums
    have hlen := hnums.2.2.2.2
    obtain ⟨_, harg, hform, _⟩ := hk.parts
    have hfl := formE_le hform
    have e0 := gT_eq t h
    have l13 : t.kind = 13 → 1 ≤ t.kids.length := fun h => by have := hfl.1; rw [h, show leastK 13 = 1 by decide] at this; omega
    have l17 : t.kind = 17 → 3 ≤ t.kids.length := fun h => by have := hfl.1; rw [h, show leastK 17 = 3 by decide] at this; omega
    have hgd : ∀ (u : Nd) (j : Nat) (g : Ky) (Rs : List Ky), t.kids[j]? = some u → Kz g → gT moK u g = some Rs → GdK Rs := fun u j g Rs hu hg e => ((gT_runs moK u _ g (hk.kid hu) (hI.kids.get _ _ _ hu) hg).some_ Rs e).1
    refine enter Tryd.func25 rfl Tryd.ntmps25 rfl (St.start (fun _ => False) w0) ?_
    refine WC.seq ?_
    refine WC.region ?_
    refine WL.box rfl rfl rfl (.none rfl) rfl rfl ?_
    intro g2 hg2
    refine WL.box rfl rfl rfl (.none rfl) rfl rfl ?_
    intro g3 hg3
    refine WL.val (v_assign rfl rfl) (.none rfl) rfl rfl ?_
    refine WL.val (v_assign rfl rfl) (.none rfl) rfl rfl ?_
    refine WL.nil ?_
    refine WE.then_n ?_
    refine WC.seq ?_
    refine WC.region ?_
    refine WL.buildSlice rfl rfl Tryd.underlying56 sz_59 zero_59 rfl (by decide) rfl (.none rfl) rfl rfl ?_
    intro g22 hg22
    refine WL.as (L' := [.row g22 [], .row g3 (ucs h 9), .row g2 (ndL t)]) rfl ?_
    refine WL.val (v_assign rfl rfl) (.none rfl) rfl rfl ?_
    refine WL.nil ?_
    refine WE.then_n ?_
    refine WC.seq ?_
    refine WC.seq ?_
    refine WC.region ?_
    refine WL.val (v_fieldAddr0 rfl rfl fld_52_0) (.none rfl) rfl rfl ?_
    refine WL.val (v_load1 rfl rfl one_3 (cellAt rfl)) (.none rfl) rfl rfl ?_
    refine WL.nil ?_
    refine WE.then_n ?_
    refine WC.block ?_
    refine WC.seq ?_
    refine WC.region ?_
    refine WL.test (v_eql rfl rfl rfl) (.none rfl) rfl rfl (fun h26 => ?_) (fun h26 => ?_)
    · -- 26T
      refine WL.val (v_assign rfl rfl) (.none rfl) rfl rfl ?_
      refine WL.nil ?_
      refine WE.then_n ?_
      refine WC.cond_t rfl ?_
      refine WC.seq ?_
      refine WC.region ?_
      refine WL.val (v_loadN rfl rfl many_59 rfl allAt) (.none rfl) rfl rfl ?_
      refine WL.buildSlice rfl rfl Tryd.underlying56 sz_59 zero_59 rfl (by decide) rfl (.none rfl) rfl rfl ?_
      intro g28 hg28
      refine WL.as (L' := [.row g28 (ucs h 9), .row g22 [], .row g3 (ucs h 9), .row g2 (ndL t)]) rfl ?_
      refine WL.val (v_assign rfl rfl) (.none rfl) rfl rfl ?_
      refine WL.val (v_assign rfl rfl) (.none rfl) rfl rfl ?_
      refine WL.nil ?_
      refine WE.then_n ?_
      refine WC.ret ?_
      refine WE.block_ret ?_
      refine WE.then_ret ?_
      refine WE.ret2 (P := Tryd.prog) (.inl rfl) Tryd.results25 rfl rfl ?_
      exact fun w' hh => RPost.some (Qs := [h]) (by rw [e0, if_pos h26]) (Vec.row (List.take_of_length_le (by rw [ucs_len]; exact Nat.le_refl _) |>.trans (by show _ = ucs h 9 ++ []; rw [List.append_nil])) (by rw [ucs_len]) (Nat.le_refl _)) hh (.cons_cons _ (List.nil_sublist _))
    · -- 26F
      refine WL.val (v_assign rfl rfl) (.none rfl) rfl rfl ?_
      refine WL.nil ?_
      refine WE.then_n ?_
      refine WC.cond_f rfl ?_
      refine WC.seq ?_
      refine WC.region ?_
      refine WL.test (v_eql rfl rfl rfl) (.none rfl) rfl rfl (fun h30 => ?_) (fun h30 => ?_)
      · -- 30T
        refine WL.val (v_assign rfl rfl) (.none rfl) rfl rfl ?_
        refine WL.nil ?_
        refine WE.then_n ?_
        refine WC.cond_t rfl ?_
        refine WC.seq ?_
        refine WC.quiet mixed (by kernel_rfl) ?_
        have hl := l13 h30
        obtain ⟨u, hu⟩ := ex_get' (xs := t.kids) (k := 0) (by omega)
        obtain ⟨b, o, ea, hr⟩ := (hA.kid hu).1
        refine WQ.val (v_fieldAddr0 rfl rfl fld_52_4) (.none rfl) rfl rfl ?_
        refine WQ.val (v_load1 rfl rfl one_50 (cellAt rfl)) (.none rfl) rfl rfl ?_
        refine WQ.val (v_indexAddr (b := b) (off := o) (lo := 0) rfl (by show some (Value.slice t.ad _ _) = _; rw [ea]) rfl Tryd.underlying50 sz_52 rfl hl) (.none rfl) rfl rfl ?_
        refine WQ.val (v_loadN (cs := ndL u) rfl rfl many_52 rfl (rangeIn (fun h => h) hr)) (.none rfl) rfl rfl ?_
        refine WQ.val (v_loadN rfl rfl many_59 rfl allAt) (.none rfl) rfl rfl ?_
        refine WQ.call _ rfl rfl ck_61 (.none rfl) rfl rfl (fun w hS => Calls.still (RHolds_c h hz _ u (Nat.le_refl _) w (by have := hk.kid hu; rwa [show predK t.kind 0 = true by unfold predK; rw [decide_eq_true (by omega)]] at this) (hI.kids.get _ _ _ hu) ((hA.kid hu).2.st (fun _ h => h) hS)) hS) ?_
        generalize hb36 : holdsG h u = bb
        cases bb
        · -- 36F
          refine WQ.nil ?_
          refine WE.then_n ?_
          refine WC.cond_f rfl ?_
          refine WC.skip ?_
          refine WE.block_n ?_
          refine WE.then_n ?_
          refine WC.seq ?_
          refine WC.region ?_
          refine WL.val (v_move rfl rfl) (.none rfl) rfl rfl ?_
          refine WL.val (v_assign rfl rfl) (.none rfl) rfl rfl ?_
          refine WL.val (v_assign rfl rfl) (.none rfl) rfl rfl ?_
          refine WL.nil ?_
          refine WE.then_n ?_
          refine WC.ret ?_
          refine WE.ret2 (P := Tryd.prog) (.inl rfl) Tryd.results25 rfl rfl ?_
          exact fun w' hh => RPost.some (Qs := []) (by rw [e0, if_neg h26, if_pos h30, List.getD_eq_getElem?_getD, List.getElem?_map, hu, Option.map_some, Option.getD_some, hb36, if_neg (by decide)]) (Vec.row rfl rfl (Nat.le_refl _)) hh (.cons_cons _ (List.nil_sublist _))
        · -- 36T
          refine WQ.nil ?_
          refine WE.then_n ?_
          refine WC.cond_t rfl ?_
          refine WC.seq ?_
          refine WC.region ?_
          refine WL.val (v_loadN rfl rfl many_59 rfl allAt) (.none rfl) rfl rfl ?_
          refine WL.buildSlice rfl rfl Tryd.underlying56 sz_59 zero_59 rfl (by decide) rfl (.none rfl) rfl rfl ?_
          intro g38 hg38
          refine WL.as (L' := [.row g38 (ucs h 9), .row g22 [], .row g3 (ucs h 9), .row g2 (ndL t)]) rfl ?_
          refine WL.val (v_assign rfl rfl) (.none rfl) rfl rfl ?_
          refine WL.val (v_assign rfl rfl) (.none rfl) rfl rfl ?_
          refine WL.nil ?_
          refine WE.then_n ?_
          refine WC.ret ?_
          refine WE.block_ret ?_
          refine WE.then_ret ?_
          refine WE.ret2 (P := Tryd.prog) (.inl rfl) Tryd.results25 rfl rfl ?_
          exact fun w' hh => RPost.some (Qs := [h]) (by rw [e0, if_neg h26, if_pos h30, List.getD_eq_getElem?_getD, List.getElem?_map, hu, Option.map_some, Option.getD_some, hb36, if_pos rfl]) (Vec.row (List.take_of_length_le (by rw [ucs_len]; exact Nat.le_refl _) |>.trans (by show _ = ucs h 9 ++ []; rw [List.append_nil])) (by rw [ucs_len]) (Nat.le_refl _)) hh (.cons_cons _ (List.nil_sublist _))
      · -- 30F
        refine WL.val (v_assign rfl rfl) (.none rfl) rfl rfl ?_
        refine WL.nil ?_
        refine WE.then_n ?_
        refine WC.cond_f rfl ?_
        refine WC.seq ?_
        refine WC.region ?_
        refine WL.test (v_eql rfl rfl rfl) (.none rfl) rfl rfl (fun h40 => ?_) (fun h40 => ?_)
        · -- 40T
          refine WL.val (v_assign rfl rfl) (.none rfl) rfl rfl ?_
          refine WL.nil ?_
          refine WE.then_n ?_
          refine WC.cond_t rfl ?_
          refine WC.seq ?_
          refine WC.region ?_
          obtain ⟨q, eq, hq9, eq2, hqv⟩ := argE_set harg h40
          refine WL.val (v_fieldAddr0 rfl rfl fld_52_1) (.none rfl) rfl rfl ?_
          refine WL.val (v_load1 rfl rfl one_3 (cellAt rfl)) (.none rfl) rfl rfl ?_
          refine WL.val (v_fieldAddr0 rfl rfl fld_52_2) (.none rfl) rfl rfl ?_
          refine WL.val (v_load1 rfl rfl one_22 (cellAt rfl)) (.none rfl) rfl rfl ?_
          refine WL.val (v_indexAddrA (lo := q) rfl rfl rfl Tryd.underlying59 sz_22 (by rw [eq]) (by omega)) (.none rfl) rfl rfl ?_
          refine WL.store1 rfl rfl rfl rfl one_22 (by rw [ucs_len]; omega) (.none rfl) rfl ?_
          refine WL.as (L' := [.row g22 [], .row g3 (ucs (updK q t.val h) 9), .row g2 (ndL t)]) (by rw [ucs_upd hq9]) ?_
          refine WL.nil ?_
          refine WE.then_n ?_
          refine WC.seq ?_
          refine WC.region ?_
          refine WL.val (v_loadN rfl rfl many_59 rfl allAt) (.none rfl) rfl rfl ?_
          refine WL.buildSlice rfl rfl Tryd.underlying56 sz_59 zero_59 rfl (by decide) rfl (.none rfl) rfl rfl ?_
          intro g47 hg47
          refine WL.as (L' := [.row g47 (ucs (updK q t.val h) 9), .row g22 [], .row g3 (ucs (updK q t.val h) 9), .row g2 (ndL t)]) rfl ?_
          refine WL.val (v_assign rfl rfl) (.none rfl) rfl rfl ?_
          refine WL.val (v_assign rfl rfl) (.none rfl) rfl rfl ?_
          refine WL.nil ?_
          refine WE.then_n ?_
          refine WC.ret ?_
          refine WE.block_ret ?_
          refine WE.then_ret ?_
          refine WE.ret2 (P := Tryd.prog) (.inl rfl) Tryd.results25 rfl rfl ?_
          exact fun w' hh => RPost.some (Qs := [updK q t.val h]) (by rw [e0, if_neg h26, if_neg h30, if_pos h40, eq2]) (Vec.row (List.take_of_length_le (by rw [ucs_len]; exact Nat.le_refl _) |>.trans (by show _ = ucs _ 9 ++ []; rw [List.append_nil])) (by rw [ucs_len]) (Nat.le_refl _)) hh (.cons_cons _ (List.nil_sublist _))
        · -- 40F
          refine WL.val (v_assign rfl rfl) (.none rfl) rfl rfl ?_
          refine WL.nil ?_
          refine WE.then_n ?_
          refine WC.cond_f rfl ?_
          refine WC.seq ?_
          refine WC.region ?_
          refine WL.test (v_eql rfl rfl rfl) (.none rfl) rfl rfl (fun h49 => ?_) (fun h49 => ?_)
          · -- 49T
            refine WL.val (v_assign rfl rfl) (.none rfl) rfl rfl ?_
            refine WL.nil ?_
            refine WE.then_n ?_
            refine WC.cond_t rfl ?_
            refine WC.seq ?_
            refine WC.region ?_
            refine WL.val (v_fieldAddr0 rfl rfl fld_52_4) (.none rfl) rfl rfl ?_
            refine WL.val (v_load1 rfl rfl one_50 (cellAt rfl)) (.none rfl) rfl rfl ?_
            refine WL.val (v_len_slice rfl rfl Tryd.underlying50) (.none rfl) rfl rfl ?_
            refine WL.val (v_move rfl rfl) (.none rfl) rfl rfl ?_
            refine WL.nil ?_
            refine WE.then_n ?_
            refine WC.block ?_
            refine WC.loop (fun x : Nat × List Ky × Option Addr × Nat × List Ent => [(53, .int .i64 x.1), (52, .int .i64 t.kids.length), (51, .slice t.ad t.kids.length t.cap), (6, .slice x.2.2.1 x.2.1.length x.2.2.2.1), (3, .pointer (some ⟨g3, 0, none⟩))]) (fun x => x.2.2.2.2 ++ [.row g3 (ucs h 9)]) (fun x => x.1 ≤ t.kids.length ∧ GdK x.2.1 ∧ Vec 9 x.2.2.1 x.2.1.length x.2.2.2.1 (kysL x.2.1) x.2.2.2.2 ∧ gPar moK (t.kids.drop x.1) h x.2.1 = gPar moK t.kids h []) (fun x => t.kids.length - x.1) (0, [], some ⟨g22, 0, none⟩, 0, [.row g22 []]) ⟨Nat.zero_le _, moK.nil, Vec.row rfl rfl (Nat.le_refl _), rfl⟩ (.cons rfl (.cons rfl (.cons rfl (.cons rfl (.cons rfl .nil))))) (.cons_cons _ (.cons_cons _ (.cons _ .slnil))) ?_
            rintro ⟨k, Qs, ad, c, E⟩ ⟨hkk, hgQ, hV, hg⟩
            dsimp only at hkk hgQ hV hg
            dsimp only
            refine WC.seq ?_
            refine WC.region ?_
            refine WL.test (v_lss rfl rfl rfl) (.none rfl) rfl rfl (fun h54 => ?_) (fun h54 => ?_)
            · -- 54T
              refine WL.nil ?_
              refine WE.then_n ?_
              refine WC.seq ?_
              refine WC.cond_t rfl ?_
              refine WC.skip ?_
              refine WE.then_n ?_
              refine WC.seq ?_
              refine WC.block ?_
              refine WC.seq ?_
              refine WC.region ?_
              obtain ⟨u, hu⟩ := ex_get' (xs := t.kids) (k := k) (by omega)
              obtain ⟨b, o, ea, hr⟩ := (hA.kid hu).1
              rw [drop_cons hu, gPar] at hg
              refine WL.val (v_indexAddr (b := b) (off := o) (lo := k) rfl (by show some (Value.slice t.ad _ _) = _; rw [ea]) rfl Tryd.underlying50 sz_52 rfl (by omega)) (.none rfl) rfl rfl ?_
              refine WL.val (v_loadN (cs := ndL u) rfl rfl many_52 rfl (rangeIn (fun h => h) hr)) (.none rfl) rfl rfl ?_
              refine WL.alloc rfl zero_52 (.none rfl) rfl rfl ?_
              intro g8 hg8
              refine WL.storeW rfl rfl rfl rfl many_52 rfl rfl (.none rfl) rfl ?_
              refine WL.nil ?_
              refine WE.then_n ?_
              refine WC.seq ?_
              refine WC.region ?_
              refine WL.val (v_loadN rfl rfl many_52 rfl allAt) (.none rfl) rfl rfl ?_
              refine WL.val (v_loadN rfl rfl many_59 rfl allAt) (.none rfl) rfl rfl ?_
              refine WL.call rfl rfl ck_25 (.none rfl) rfl rfl ?_
              intro w1 hS
              refine (RRun_c N u (Nd.kidN hN hu) w1 _ h (hk.kid hu) (hI.kids.get _ _ _ hu) ((hA.kid hu).2.st (fun _ h => h) hS) hz).mono ?_
              rintro e w' ⟨Rs, adr, cr, Er, br, rfl, hVr, hS', hcr⟩
              refine ⟨_, _, rfl, hS.join hS', ?_⟩
              refine WL.val (v_move rfl rfl) (.none rfl) rfl rfl ?_
              refine WL.val (v_extract rfl rfl rfl) (.none rfl) rfl rfl ?_
              refine WL.val (v_extract rfl rfl rfl) (.none rfl) rfl rfl ?_
              refine WL.val (v_assign rfl rfl) (.none rfl) rfl rfl ?_
              refine WL.val (v_assign rfl rfl) (.none rfl) rfl rfl ?_
              refine WL.nil ?_
              refine WE.then_n ?_
              refine WC.seq ?_
              refine WC.seq ?_
              refine WC.region ?_
              refine WL.val (v_move rfl rfl) (.none rfl) rfl rfl ?_
              skip
              cases br
              · -- 63F
                refine WL.val (v_not rfl rfl rfl) (.none rfl) rfl rfl ?_
                refine WL.nil ?_
                refine WE.then_n ?_
                refine WC.cond_t rfl ?_
                refine WC.seq ?_
                refine WC.region ?_
                refine WL.val (v_assign rfl rfl) (.none rfl) rfl rfl ?_
                refine WL.val (v_assign rfl rfl) (.none rfl) rfl rfl ?_
                refine WL.nil ?_
                refine WE.then_n ?_
                refine WC.ret ?_
                refine WE.then_ret ?_
                refine WE.block_ret ?_
                refine WE.then_ret ?_
                refine WE.then_ret ?_
                refine WE.block_ret ?_
                refine WE.block_ret ?_
                refine WE.then_ret ?_
                refine WE.ret2 (P := Tryd.prog) (.inl rfl) Tryd.results25 rfl rfl ?_
                obtain ⟨_, hcr⟩ : True ∧ gT moK u h = none := (by rcases hcr with ⟨q, _⟩ | ⟨_, q, _⟩; cases q; exact ⟨trivial, q⟩)
                rw [hcr, Option.bind_none] at hg
                exact fun w' hh => RPost.none (by rw [e0, if_neg h26, if_neg h30, if_neg h40, if_pos h49, ← hg]) hh
              · -- 63T
                refine WL.val (v_not rfl rfl rfl) (.none rfl) rfl rfl ?_
                refine WL.nil ?_
                refine WE.then_n ?_
                refine WC.cond_f rfl ?_
                refine WC.skip ?_
                refine WE.then_n ?_
                refine WC.seq ?_
                refine WC.seq ?_
                refine WC.region ?_
                obtain ⟨_, hcr⟩ : True ∧ gT moK u h = some Rs := (by rcases hcr with ⟨_, q⟩ | ⟨q, _⟩; exact ⟨trivial, q⟩; cases q)
                have hgR := hgd u k h Rs hu hz hcr
                have hlR := hgR.2
                have hlQ := hgQ.2
                rw [hcr, Option.bind_some] at hg
                refine WL.val (v_move rfl rfl) (.none rfl) rfl rfl ?_
                refine WL.val (v_len_slice rfl rfl Tryd.underlying56) (.none rfl) rfl rfl ?_
                refine WL.val (v_move rfl rfl) (.none rfl) rfl rfl ?_
                refine WL.nil ?_
                refine WE.then_n ?_
                refine WC.block ?_
                refine WC.loop (fun x : Nat × List Ky × Option Addr × Nat × List Ent => [(67, .int .i64 x.1), (66, .int .i64 Rs.length), (65, .slice adr Rs.length cr), (6, .slice x.2.2.1 x.2.1.length x.2.2.2.1), (3, .pointer (some ⟨g3, 0, none⟩)), (53, .int .i64 k), (52, .int .i64 t.kids.length), (51, .slice t.ad t.kids.length t.cap)]) (fun x => Er ++ (.row g8 (ndL u) :: (x.2.2.2.2 ++ [.row g3 (ucs h 9)]))) (fun x => x.1 ≤ Rs.length ∧ x.2.1.length ≤ 64 + x.1 ∧ Vec 9 x.2.2.1 x.2.1.length x.2.2.2.1 (kysL x.2.1) x.2.2.2.2 ∧ putAll x.2.1 (Rs.drop x.1) = putAll Qs Rs) (fun x => Rs.length - x.1) (0, Qs, ad, c, E) ⟨Nat.zero_le _, by dsimp only; omega, hV, rfl⟩ (.cons rfl (.cons rfl (.cons rfl (.cons rfl (.cons rfl (.cons rfl (.cons rfl (.cons rfl .nil)))))))) (.refl _) ?_
                rintro ⟨j, Xs, adx, cx, Ex⟩ ⟨hj, hlX, hVx, hp⟩
                dsimp only at hj hlX hVx hp
                dsimp only
                refine WC.seq ?_
                refine WC.region ?_
                refine WL.test (v_lss rfl rfl rfl) (.none rfl) rfl rfl (fun h68 => ?_) (fun h68 => ?_)
                · -- 68T
                  refine WL.nil ?_
                  refine WE.then_n ?_
                  refine WC.seq ?_
                  refine WC.cond_t rfl ?_
                  refine WC.skip ?_
                  refine WE.then_n ?_
                  refine WC.seq ?_
                  refine WC.block ?_
                  refine WC.seq ?_
                  refine WC.region ?_
                  obtain ⟨x, hx⟩ := ex_get' (xs := Rs) (k := j) (by omega)
                  obtain ⟨gr, ear⟩ := hVr.adr (by omega)
                  rw [drop_cons hx] at hp
                  refine WL.val (v_indexAddr (b := gr) (off := 0) (lo := j) rfl (by show some (Value.slice adr _ _) = _; rw [ear]) rfl Tryd.underlying56 sz_59 rfl (by omega)) (.none rfl) rfl rfl ?_
                  refine WL.val (v_loadN (cs := ucs x 9) rfl rfl many_59 rfl (fun w' hS' => KysAt.at (by rw [← ear]; exact hVr.kys rfl (fun e he => hS'.holds e (List.mem_append_left _ he))) hx)) (.none rfl) rfl rfl ?_
                  refine WL.alloc rfl zero_59 (.none rfl) rfl rfl ?_
                  intro g12 hg12
                  refine WL.storeW rfl rfl rfl rfl many_59 rfl rfl (.none rfl) rfl ?_
                  refine WL.nil ?_
                  refine WE.then_n ?_
                  refine WC.region ?_
                  refine WL.val (v_move rfl rfl) (.none rfl) rfl rfl ?_
                  refine WL.val (v_loadN rfl rfl many_59 rfl allAt) (.none rfl) rfl rfl ?_
                  refine WL.call rfl rfl ck_62 (.none rfl) rfl rfl ?_
                  intro w1 hS
                  refine (RPut_c w1 adx cx Xs x (hVx.kys rfl (fun e he => hS.holds e (List.mem_cons_of_mem _ (List.mem_append_right _ (List.mem_cons_of_mem _ (List.mem_append_left _ he)))))) (by omega)).mono ?_
                  rintro e w' ⟨adn, cn, En, rfl, hVn, hS'⟩
                  refine ⟨_, _, rfl, (hS.join hS').shift2, ?_⟩
                  refine WL.val (v_assign rfl rfl) (.none rfl) rfl rfl ?_
                  refine WL.nil ?_
                  refine WE.block_n ?_
                  refine WE.then_n ?_
                  refine WC.region ?_
                  refine WL.val (v_add rfl rfl rfl (w_i64 (by omega) (by omega))) (.none rfl) rfl rfl ?_
                  refine WL.val (v_move rfl rfl) (.none rfl) rfl rfl ?_
                  refine WL.nil ?_
                  have hpl := putGo_len x Xs false
                  exact WE.next (j + 1, putGo x Xs false, adn, cn, En) (by dsimp only; omega) ⟨by dsimp only; omega, by dsimp only; omega, hVn, hp⟩ (.int rfl (by dsimp only; omega) (.cons rfl (.cons rfl (.cons rfl (.cons rfl (.cons rfl (.cons rfl (.cons rfl .nil)))))))) (.refl _)
                · -- 68F
                  refine WL.nil ?_
                  refine WE.then_n ?_
                  refine WC.seq ?_
                  refine WC.cond_f rfl ?_
                  refine WC.exit ?_
                  refine WE.then_exit ?_
                  refine WE.then_exit ?_
                  refine WE.block_hit ?_
                  refine WE.then_n ?_
                  refine WC.seq ?_
                  refine WC.region ?_
                  refine WL.val (v_move rfl rfl) (.none rfl) rfl rfl ?_
                  obtain rfl : j = Rs.length := (by omega)
                  rw [List.drop_length] at hp
                  have hp : Xs = putAll Qs Rs := hp
                  refine WL.val (v_len_slice rfl rfl Tryd.underlying56) (.none rfl) rfl rfl ?_
                  refine WL.test (v_gtr rfl rfl rfl) (.none rfl) rfl rfl (fun h77 => ?_) (fun h77 => ?_)
                  · -- 77T
                    refine WL.nil ?_
                    refine WE.then_n ?_
                    refine WC.cond_t rfl ?_
                    refine WC.seq ?_
                    refine WC.region ?_
                    refine WL.val (v_assign rfl rfl) (.none rfl) rfl rfl ?_
                    refine WL.val (v_assign rfl rfl) (.none rfl) rfl rfl ?_
                    refine WL.nil ?_
                    refine WE.then_n ?_
                    refine WC.ret ?_
                    refine WE.block_ret ?_
                    refine WE.then_ret ?_
                    refine WE.then_ret ?_
                    refine WE.block_ret ?_
                    refine WE.block_ret ?_
                    refine WE.then_ret ?_
                    refine WE.ret2 (P := Tryd.prog) (.inl rfl) Tryd.results25 rfl rfl ?_
                    have : addR Qs Rs = none := addR_none (by rw [← hp]; omega)
                    have hg2 : (addR Qs Rs).bind (fun all' => gPar moK (t.kids.drop (k + 1)) h all') = gPar moK t.kids h [] := hg
                    rw [this, Option.bind_none] at hg2
                    exact fun w' hh => RPost.none (by rw [e0, if_neg h26, if_neg h30, if_neg h40, if_pos h49, ← hg2]) hh
                  · -- 77F
                    refine WL.nil ?_
                    refine WE.then_n ?_
                    refine WC.cond_f rfl ?_
                    refine WC.skip ?_
                    refine WE.block_n ?_
                    refine WE.then_n ?_
                    refine WC.region ?_
                    refine WL.val (v_add rfl rfl rfl (w_i64 (by omega) (by omega))) (.none rfl) rfl rfl ?_
                    refine WL.val (v_move rfl rfl) (.none rfl) rfl rfl ?_
                    refine WL.nil ?_
                    have hnb : ¬ 64 < (putAll Qs Rs).length := (by rw [← hp]; omega)
                    have hg2 : (addR Qs Rs).bind (fun all' => gPar moK (t.kids.drop (k + 1)) h all') = gPar moK t.kids h [] := hg
                    rw [addR_some hnb, Option.bind_some, ← hp] at hg2
                    exact WE.next (k + 1, Xs, adx, cx, Ex) (by dsimp only; omega) ⟨by dsimp only; omega, by rw [hp]; exact gd_upd hgQ hgR hnb, hVx, hg2⟩ (.int rfl (by dsimp only; omega) (.cons rfl (.cons rfl (.cons rfl (.cons rfl .nil))))) (List.sublist_append_of_sublist_right (.cons _ (.refl _)))
            · -- 54F
              refine WL.nil ?_
              refine WE.then_n ?_
              refine WC.seq ?_
              refine WC.cond_f rfl ?_
              refine WC.exit ?_
              refine WE.then_exit ?_
              refine WE.then_exit ?_
              refine WE.block_hit ?_
              refine WE.block_n ?_
              refine WE.then_n ?_
              refine WC.seq ?_
              refine WC.region ?_
              refine WL.val (v_move rfl rfl) (.none rfl) rfl rfl ?_
              refine WL.val (v_assign rfl rfl) (.none rfl) rfl rfl ?_
              refine WL.val (v_assign rfl rfl) (.none rfl) rfl rfl ?_
              refine WL.nil ?_
              refine WE.then_n ?_
              refine WC.ret ?_
              refine WE.ret2 (P := Tryd.prog) (.inl rfl) Tryd.results25 rfl rfl ?_
              obtain rfl : k = t.kids.length := (by omega)
              rw [List.drop_length, gPar] at hg
              exact fun w' hh => RPost.some (by rw [e0, if_neg h26, if_neg h30, if_neg h40, if_pos h49, ← hg]) hV hh (List.sublist_append_left _ _)
          · -- 49F
            refine WL.val (v_assign rfl rfl) (.none rfl) rfl rfl ?_
            refine WL.nil ?_
            refine WE.then_n ?_
            refine WC.cond_f rfl ?_
            refine WC.seq ?_
            refine WC.region ?_
            refine WL.test (v_eql rfl rfl rfl) (.none rfl) rfl rfl (fun h80 => ?_) (fun h80 => ?_)
            · -- 80T
              refine WL.val (v_assign rfl rfl) (.none rfl) rfl rfl ?_
              refine WL.nil ?_
              refine WE.then_n ?_
              refine WC.cond_t rfl ?_
              refine WC.seq ?_
              refine WC.region ?_
              refine WL.val (v_loadN rfl rfl many_59 rfl allAt) (.none rfl) rfl rfl ?_
              refine WL.buildSlice rfl rfl Tryd.underlying56 sz_59 zero_59 rfl (by decide) rfl (.none rfl) rfl rfl ?_
              intro g82 hg82
              refine WL.as (L' := [.row g82 (ucs h 9), .row g22 [], .row g3 (ucs h 9), .row g2 (ndL t)]) rfl ?_
              refine WL.val (v_assign rfl rfl) (.none rfl) rfl rfl ?_
              refine WL.nil ?_
              refine WE.then_n ?_
              refine WC.seq ?_
              refine WC.region ?_
              refine WL.val (v_fieldAddr0 rfl rfl fld_52_4) (.none rfl) rfl rfl ?_
              refine WL.val (v_load1 rfl rfl one_50 (cellAt rfl)) (.none rfl) rfl rfl ?_
              refine WL.val (v_len_slice rfl rfl Tryd.underlying50) (.none rfl) rfl rfl ?_
              refine WL.val (v_move rfl rfl) (.none rfl) rfl rfl ?_
              refine WL.nil ?_
              refine WE.then_n ?_
              refine WC.block ?_
              refine WC.loop (fun x : Nat × List Ky × Option Addr × Nat × List Ent => [(86, .int .i64 x.1), (85, .int .i64 t.kids.length), (84, .slice t.ad t.kids.length t.cap), (6, .slice x.2.2.1 x.2.1.length x.2.2.2.1)]) (fun x => x.2.2.2.2) (fun x => x.1 ≤ t.kids.length ∧ GdK x.2.1 ∧ Vec 9 x.2.2.1 x.2.1.length x.2.2.2.1 (kysL x.2.1) x.2.2.2.2 ∧ gSeq moK (t.kids.drop x.1) x.2.1 = gSeq moK t.kids [h]) (fun x => t.kids.length - x.1) (0, [h], some ⟨g82, 0, none⟩, 1, [.row g82 (ucs h 9)]) ⟨Nat.zero_le _, moK.one h hz, Vec.row (List.take_of_length_le (by rw [ucs_len]; exact Nat.le_refl _) |>.trans (by show _ = ucs h 9 ++ []; rw [List.append_nil])) (ucs_len h 9) (Nat.le_refl _), rfl⟩ (.cons rfl (.cons rfl (.cons rfl (.cons rfl .nil)))) (.cons_cons _ (List.nil_sublist _)) ?_
              rintro ⟨k, Qs, ad, c, E⟩ ⟨hkk, hgQ, hV, hg⟩
              dsimp only at hkk hgQ hV hg
              dsimp only
              refine WC.seq ?_
              refine WC.region ?_
              refine WL.test (v_lss rfl rfl rfl) (.none rfl) rfl rfl (fun h87 => ?_) (fun h87 => ?_)
              · -- 87T
                refine WL.nil ?_
                refine WE.then_n ?_
                refine WC.seq ?_
                refine WC.cond_t rfl ?_
                refine WC.skip ?_
                refine WE.then_n ?_
                refine WC.seq ?_
                refine WC.block ?_
                refine WC.seq ?_
                refine WC.region ?_
                obtain ⟨u, hu⟩ := ex_get' (xs := t.kids) (k := k) (by omega)
                obtain ⟨b, o, ea, hr⟩ := (hA.kid hu).1
                rw [drop_cons hu, gSeq] at hg
                have hlQ := hgQ.2
                refine WL.val (v_indexAddr (b := b) (off := o) (lo := k) rfl (by show some (Value.slice t.ad _ _) = _; rw [ea]) rfl Tryd.underlying50 sz_52 rfl (by omega)) (.none rfl) rfl rfl ?_
                refine WL.val (v_loadN (cs := ndL u) rfl rfl many_52 rfl (rangeIn (fun h => h) hr)) (.none rfl) rfl rfl ?_
                refine WL.alloc rfl zero_52 (.none rfl) rfl rfl ?_
                intro g14 hg14
                refine WL.storeW rfl rfl rfl rfl many_52 rfl rfl (.none rfl) rfl ?_
                refine WL.nil ?_
                refine WE.then_n ?_
                refine WC.seq ?_
                refine WC.region ?_
                refine WL.buildSlice rfl rfl Tryd.underlying56 sz_59 zero_59 rfl (by decide) rfl (.none rfl) rfl rfl ?_
                intro g90 hg90
                refine WL.as (L' := .row g90 [] :: .row g14 (ndL u) :: E) rfl ?_
                refine WL.val (v_assign rfl rfl) (.none rfl) rfl rfl ?_
                refine WL.nil ?_
                refine WE.then_n ?_
                refine WC.seq ?_
                refine WC.seq ?_
                refine WC.region ?_
                refine WL.val (v_move rfl rfl) (.none rfl) rfl rfl ?_
                refine WL.val (v_len_slice rfl rfl Tryd.underlying56) (.none rfl) rfl rfl ?_
                refine WL.val (v_move rfl rfl) (.none rfl) rfl rfl ?_
                refine WL.nil ?_
                refine WE.then_n ?_
                refine WC.block ?_
                refine WC.loop (fun x : Nat × List Ky × Option Addr × Nat × List Ent => [(93, .int .i64 x.1), (92, .int .i64 Qs.length), (91, .slice ad Qs.length c), (15, .slice x.2.2.1 x.2.1.length x.2.2.2.1), (14, .pointer (some ⟨g14, 0, none⟩)), (86, .int .i64 k), (85, .int .i64 t.kids.length), (84, .slice t.ad t.kids.length t.cap)]) (fun x => x.2.2.2.2 ++ (.row g14 (ndL u) :: E)) (fun x => x.1 ≤ Qs.length ∧ GdK x.2.1 ∧ Vec 9 x.2.2.1 x.2.1.length x.2.2.2.1 (kysL x.2.1) x.2.2.2.2 ∧ gStep moK (fun g => gT moK u g) (Qs.drop x.1) x.2.1 = gStep moK (fun g => gT moK u g) Qs []) (fun x => Qs.length - x.1) (0, [], some ⟨g90, 0, none⟩, 0, [.row g90 []]) ⟨Nat.zero_le _, moK.nil, Vec.row rfl rfl (Nat.le_refl _), rfl⟩ (.cons rfl (.cons rfl (.cons rfl (.cons rfl (.cons rfl (.cons rfl (.cons rfl (.cons rfl .nil)))))))) (.refl _) ?_
                rintro ⟨j, Xs, adx, cx, Ex⟩ ⟨hj, hgX, hVx, hs⟩
                dsimp only at hj hgX hVx hs
                dsimp only
                refine WC.seq ?_
                refine WC.region ?_
                refine WL.test (v_lss rfl rfl rfl) (.none rfl) rfl rfl (fun h94 => ?_) (fun h94 => ?_)
                · -- 94T
                  refine WL.nil ?_
                  refine WE.then_n ?_
                  refine WC.seq ?_
                  refine WC.cond_t rfl ?_
                  refine WC.skip ?_
                  refine WE.then_n ?_
                  refine WC.seq ?_
                  refine WC.block ?_
                  refine WC.seq ?_
                  refine WC.region ?_
                  obtain ⟨g, hgg⟩ := ex_get' (xs := Qs) (k := j) (by omega)
                  obtain ⟨gq, eaq⟩ := hV.adr (by omega)
                  have hgz : Kz g := hgQ.1.2 g (List.mem_of_getElem? hgg)
                  rw [drop_cons hgg, gStep] at hs
                  refine WL.val (v_indexAddr (b := gq) (off := 0) (lo := j) rfl (by show some (Value.slice ad _ _) = _; rw [eaq]) rfl Tryd.underlying56 sz_59 rfl (by omega)) (.none rfl) rfl rfl ?_
                  refine WL.val (v_loadN (cs := ucs g 9) rfl rfl many_59 rfl (fun w' hS' => KysAt.at (by rw [← eaq]; exact hV.kys rfl (fun e he => hS'.holds e (List.mem_append_right _ (List.mem_cons_of_mem _ he)))) hgg)) (.none rfl) rfl rfl ?_
                  refine WL.alloc rfl zero_59 (.none rfl) rfl rfl ?_
                  intro g17 hg17
                  refine WL.storeW rfl rfl rfl rfl many_59 rfl rfl (.none rfl) rfl ?_
                  refine WL.nil ?_
                  refine WE.then_n ?_
                  refine WC.seq ?_
                  refine WC.region ?_
                  refine WL.val (v_loadN rfl rfl many_52 rfl allAt) (.none rfl) rfl rfl ?_
                  refine WL.val (v_loadN rfl rfl many_59 rfl allAt) (.none rfl) rfl rfl ?_
                  refine WL.call rfl rfl ck_25 (.none rfl) rfl rfl ?_
                  intro w1 hS
                  refine (RRun_c N u (Nd.kidN hN hu) w1 _ g (hk.kid hu) (hI.kids.get _ _ _ hu) ((hA.kid hu).2.st (fun _ h => h) hS) hgz).mono ?_
                  rintro e w' ⟨Rs, adr, cr, Er, br, rfl, hVr, hS', hcr⟩
                  refine ⟨_, _, rfl, hS.join hS', ?_⟩
                  refine WL.val (v_move rfl rfl) (.none rfl) rfl rfl ?_
                  refine WL.val (v_extract rfl rfl rfl) (.none rfl) rfl rfl ?_
                  refine WL.val (v_extract rfl rfl rfl) (.none rfl) rfl rfl ?_
                  refine WL.val (v_assign rfl rfl) (.none rfl) rfl rfl ?_
                  refine WL.val (v_assign rfl rfl) (.none rfl) rfl rfl ?_
                  refine WL.nil ?_
                  refine WE.then_n ?_
                  refine WC.seq ?_
                  refine WC.seq ?_
                  refine WC.region ?_
                  refine WL.val (v_move rfl rfl) (.none rfl) rfl rfl ?_
                  skip
                  cases br
                  · -- 103F
                    refine WL.val (v_not rfl rfl rfl) (.none rfl) rfl rfl ?_
                    refine WL.nil ?_
                    refine WE.then_n ?_
                    refine WC.cond_t rfl ?_
                    refine WC.seq ?_
                    refine WC.region ?_
                    refine WL.val (v_assign rfl rfl) (.none rfl) rfl rfl ?_
                    refine WL.val (v_assign rfl rfl) (.none rfl) rfl rfl ?_
                    refine WL.nil ?_
                    refine WE.then_n ?_
                    refine WC.ret ?_
                    refine WE.then_ret ?_
                    refine WE.block_ret ?_
                    refine WE.then_ret ?_
                    refine WE.then_ret ?_
                    refine WE.block_ret ?_
                    refine WE.then_ret ?_
                    refine WE.block_ret ?_
                    refine WE.then_ret ?_
                    refine WE.then_ret ?_
                    refine WE.block_ret ?_
                    refine WE.block_ret ?_
                    refine WE.then_ret ?_
                    refine WE.ret2 (P := Tryd.prog) (.inl rfl) Tryd.results25 rfl rfl ?_
                    obtain ⟨_, hcr⟩ : True ∧ gT moK u g = none := (by rcases hcr with ⟨q, _⟩ | ⟨_, q, _⟩; cases q; exact ⟨trivial, q⟩)
                    rw [hcr, Option.bind_none] at hs
                    rw [← hs, Option.bind_none] at hg
                    exact fun w' hh => RPost.none (by rw [e0, if_neg h26, if_neg h30, if_neg h40, if_neg h49, if_pos h80, ← hg]) hh
                  · -- 103T
                    refine WL.val (v_not rfl rfl rfl) (.none rfl) rfl rfl ?_
                    refine WL.nil ?_
                    refine WE.then_n ?_
                    refine WC.cond_f rfl ?_
                    refine WC.skip ?_
                    refine WE.then_n ?_
                    refine WC.seq ?_
                    refine WC.seq ?_
                    refine WC.region ?_
                    obtain ⟨_, hcr⟩ : True ∧ gT moK u g = some Rs := (by rcases hcr with ⟨_, q⟩ | ⟨q, _⟩; exact ⟨trivial, q⟩; cases q)
                    have hgR := hgd u k g Rs hu hgz hcr
                    have hlR := hgR.2
                    have hlX := hgX.2
                    rw [hcr, Option.bind_some] at hs
                    refine WL.val (v_move rfl rfl) (.none rfl) rfl rfl ?_
                    refine WL.val (v_len_slice rfl rfl Tryd.underlying56) (.none rfl) rfl rfl ?_
                    refine WL.val (v_move rfl rfl) (.none rfl) rfl rfl ?_
                    refine WL.nil ?_
                    refine WE.then_n ?_
                    refine WC.block ?_
                    refine WC.loop (fun x : Nat × List Ky × Option Addr × Nat × List Ent => [(107, .int .i64 x.1), (106, .int .i64 Rs.length), (105, .slice adr Rs.length cr), (15, .slice x.2.2.1 x.2.1.length x.2.2.2.1), (14, .pointer (some ⟨g14, 0, none⟩)), (93, .int .i64 j), (92, .int .i64 Qs.length), (91, .slice ad Qs.length c), (86, .int .i64 k), (85, .int .i64 t.kids.length), (84, .slice t.ad t.kids.length t.cap)]) (fun x => Er ++ (.row g17 (ucs g 9) :: (x.2.2.2.2 ++ (.row g14 (ndL u) :: E)))) (fun x => x.1 ≤ Rs.length ∧ x.2.1.length ≤ 64 + x.1 ∧ Vec 9 x.2.2.1 x.2.1.length x.2.2.2.1 (kysL x.2.1) x.2.2.2.2 ∧ putAll x.2.1 (Rs.drop x.1) = putAll Xs Rs) (fun x => Rs.length - x.1) (0, Xs, adx, cx, Ex) ⟨Nat.zero_le _, by dsimp only; omega, hVx, rfl⟩ (.cons rfl (.cons rfl (.cons rfl (.cons rfl (.cons rfl (.cons rfl (.cons rfl (.cons rfl (.cons rfl (.cons rfl (.cons rfl .nil))))))))))) (.refl _) ?_
                    rintro ⟨i, Ys, ady, cy, Ey⟩ ⟨hi, hlY, hVy, hp⟩
                    dsimp only at hi hlY hVy hp
                    dsimp only
                    refine WC.seq ?_
                    refine WC.region ?_
                    refine WL.test (v_lss rfl rfl rfl) (.none rfl) rfl rfl (fun h108 => ?_) (fun h108 => ?_)
                    · -- 108T
                      refine WL.nil ?_
                      refine WE.then_n ?_
                      refine WC.seq ?_
                      refine WC.cond_t rfl ?_
                      refine WC.skip ?_
                      refine WE.then_n ?_
                      refine WC.seq ?_
                      refine WC.block ?_
                      refine WC.seq ?_
                      refine WC.region ?_
                      obtain ⟨x, hx⟩ := ex_get' (xs := Rs) (k := i) (by omega)
                      obtain ⟨gr, ear⟩ := hVr.adr (by omega)
                      rw [drop_cons hx] at hp
                      refine WL.val (v_indexAddr (b := gr) (off := 0) (lo := i) rfl (by show some (Value.slice adr _ _) = _; rw [ear]) rfl Tryd.underlying56 sz_59 rfl (by omega)) (.none rfl) rfl rfl ?_
                      refine WL.val (v_loadN (cs := ucs x 9) rfl rfl many_59 rfl (fun w' hS' => KysAt.at (by rw [← ear]; exact hVr.kys rfl (fun e he => hS'.holds e (List.mem_append_left _ he))) hx)) (.none rfl) rfl rfl ?_
                      refine WL.alloc rfl zero_59 (.none rfl) rfl rfl ?_
                      intro g21 hg21
                      refine WL.storeW rfl rfl rfl rfl many_59 rfl rfl (.none rfl) rfl ?_
                      refine WL.nil ?_
                      refine WE.then_n ?_
                      refine WC.region ?_
                      refine WL.val (v_move rfl rfl) (.none rfl) rfl rfl ?_
                      refine WL.val (v_loadN rfl rfl many_59 rfl allAt) (.none rfl) rfl rfl ?_
                      refine WL.call rfl rfl ck_62 (.none rfl) rfl rfl ?_
                      intro w1 hS
                      refine (RPut_c w1 ady cy Ys x (hVy.kys rfl (fun e he => hS.holds e (List.mem_cons_of_mem _ (List.mem_append_right _ (List.mem_cons_of_mem _ (List.mem_append_left _ he)))))) (by omega)).mono ?_
                      rintro e w' ⟨adn, cn, En, rfl, hVn, hS'⟩
                      refine ⟨_, _, rfl, (hS.join hS').shift2, ?_⟩
                      refine WL.val (v_assign rfl rfl) (.none rfl) rfl rfl ?_
                      refine WL.nil ?_
                      refine WE.block_n ?_
                      refine WE.then_n ?_
                      refine WC.region ?_
                      refine WL.val (v_add rfl rfl rfl (w_i64 (by omega) (by omega))) (.none rfl) rfl rfl ?_
                      refine WL.val (v_move rfl rfl) (.none rfl) rfl rfl ?_
                      refine WL.nil ?_
                      have hpl := putGo_len x Ys false
                      exact WE.next (i + 1, putGo x Ys false, adn, cn, En) (by dsimp only; omega) ⟨by dsimp only; omega, by dsimp only; omega, hVn, hp⟩ (.int rfl (by dsimp only; omega) (.cons rfl (.cons rfl (.cons rfl (.cons rfl (.cons rfl (.cons rfl (.cons rfl (.cons rfl (.cons rfl (.cons rfl .nil))))))))))) (.refl _)
                    · -- 108F
                      refine WL.nil ?_
                      refine WE.then_n ?_
                      refine WC.seq ?_
                      refine WC.cond_f rfl ?_
                      refine WC.exit ?_
                      refine WE.then_exit ?_
                      refine WE.then_exit ?_
                      refine WE.block_hit ?_
                      refine WE.then_n ?_
                      refine WC.seq ?_
                      refine WC.region ?_
                      refine WL.val (v_move rfl rfl) (.none rfl) rfl rfl ?_
                      obtain rfl : i = Rs.length := (by omega)
                      rw [List.drop_length] at hp
                      have hp : Ys = putAll Xs Rs := hp
                      refine WL.val (v_len_slice rfl rfl Tryd.underlying56) (.none rfl) rfl rfl ?_
                      refine WL.test (v_gtr rfl rfl rfl) (.none rfl) rfl rfl (fun h117 => ?_) (fun h117 => ?_)
                      · -- 117T
                        refine WL.nil ?_
                        refine WE.then_n ?_
                        refine WC.cond_t rfl ?_
                        refine WC.seq ?_
                        refine WC.region ?_
                        refine WL.val (v_assign rfl rfl) (.none rfl) rfl rfl ?_
                        refine WL.val (v_assign rfl rfl) (.none rfl) rfl rfl ?_
                        refine WL.nil ?_
                        refine WE.then_n ?_
                        refine WC.ret ?_
                        refine WE.block_ret ?_
                        refine WE.then_ret ?_
                        refine WE.then_ret ?_
                        refine WE.block_ret ?_
                        refine WE.then_ret ?_
                        refine WE.block_ret ?_
                        refine WE.then_ret ?_
                        refine WE.then_ret ?_
                        refine WE.block_ret ?_
                        refine WE.block_ret ?_
                        refine WE.then_ret ?_
                        refine WE.ret2 (P := Tryd.prog) (.inl rfl) Tryd.results25 rfl rfl ?_
                        have : addR Xs Rs = none := addR_none (by rw [← hp]; omega)
                        have hs2 : (addR Xs Rs).bind (fun nx => gStep moK (fun g => gT moK u g) (Qs.drop (j + 1)) nx) = gStep moK (fun g => gT moK u g) Qs [] := hs
                        rw [this, Option.bind_none] at hs2
                        rw [← hs2, Option.bind_none] at hg
                        exact fun w' hh => RPost.none (by rw [e0, if_neg h26, if_neg h30, if_neg h40, if_neg h49, if_pos h80, ← hg]) hh
                      · -- 117F
                        refine WL.nil ?_
                        refine WE.then_n ?_
                        refine WC.cond_f rfl ?_
                        refine WC.skip ?_
                        refine WE.block_n ?_
                        refine WE.then_n ?_
                        refine WC.region ?_
                        refine WL.val (v_add rfl rfl rfl (w_i64 (by omega) (by omega))) (.none rfl) rfl rfl ?_
                        refine WL.val (v_move rfl rfl) (.none rfl) rfl rfl ?_
                        refine WL.nil ?_
                        have hnb : ¬ 64 < (putAll Xs Rs).length := (by rw [← hp]; omega)
                        have hs2 : (addR Xs Rs).bind (fun nx => gStep moK (fun g => gT moK u g) (Qs.drop (j + 1)) nx) = gStep moK (fun g => gT moK u g) Qs [] := hs
                        rw [addR_some hnb, Option.bind_some, ← hp] at hs2
                        exact WE.next (j + 1, Ys, ady, cy, Ey) (by dsimp only; omega) ⟨by dsimp only; omega, by rw [hp]; exact gd_upd hgX hgR hnb, hVy, hs2⟩ (.int rfl (by dsimp only; omega) (.cons rfl (.cons rfl (.cons rfl (.cons rfl (.cons rfl (.cons rfl (.cons rfl .nil)))))))) (List.sublist_append_of_sublist_right (.cons _ (.refl _)))
                · -- 94F
                  refine WL.nil ?_
                  refine WE.then_n ?_
                  refine WC.seq ?_
                  refine WC.cond_f rfl ?_
                  refine WC.exit ?_
                  refine WE.then_exit ?_
                  refine WE.then_exit ?_
                  refine WE.block_hit ?_
                  refine WE.then_n ?_
                  refine WC.region ?_
                  refine WL.val (v_move rfl rfl) (.none rfl) rfl rfl ?_
                  refine WL.val (v_assign rfl rfl) (.none rfl) rfl rfl ?_
                  refine WL.nil ?_
                  refine WE.block_n ?_
                  refine WE.then_n ?_
                  refine WC.region ?_
                  refine WL.val (v_add rfl rfl rfl (w_i64 (by omega) (by omega))) (.none rfl) rfl rfl ?_
                  refine WL.val (v_move rfl rfl) (.none rfl) rfl rfl ?_
                  refine WL.nil ?_
                  obtain rfl : j = Qs.length := (by omega)
                  rw [List.drop_length, gStep] at hs
                  rw [← hs, Option.bind_some] at hg
                  exact WE.next (k + 1, Xs, adx, cx, Ex) (by dsimp only; omega) ⟨by dsimp only; omega, hgX, hVx, hg⟩ (.int rfl (by dsimp only; omega) (.cons rfl (.cons rfl (.cons rfl .nil)))) (List.sublist_append_left _ _)
              · -- 87F
                refine WL.nil ?_
                refine WE.then_n ?_
                refine WC.seq ?_
                refine WC.cond_f rfl ?_
                refine WC.exit ?_
                refine WE.then_exit ?_
                refine WE.then_exit ?_
                refine WE.block_hit ?_
                refine WE.block_n ?_
                refine WE.then_n ?_
                refine WC.seq ?_
                refine WC.region ?_
                refine WL.val (v_move rfl rfl) (.none rfl) rfl rfl ?_
                refine WL.val (v_assign rfl rfl) (.none rfl) rfl rfl ?_
                refine WL.val (v_assign rfl rfl) (.none rfl) rfl rfl ?_
                refine WL.nil ?_
                refine WE.then_n ?_
                refine WC.ret ?_
                refine WE.ret2 (P := Tryd.prog) (.inl rfl) Tryd.results25 rfl rfl ?_
                obtain rfl : k = t.kids.length := (by omega)
                rw [List.drop_length, gSeq] at hg
                exact fun w' hh => RPost.some (by rw [e0, if_neg h26, if_neg h30, if_neg h40, if_neg h49, if_pos h80, ← hg]) hV hh (.refl _)
            · -- 80F
              refine WL.val (v_assign rfl rfl) (.none rfl) rfl rfl ?_
              refine WL.nil ?_
              refine WE.then_n ?_
              refine WC.cond_f rfl ?_
              refine WC.seq ?_
              refine WC.region ?_
              refine WL.test (v_eql rfl rfl rfl) (.none rfl) rfl rfl (fun h122 => ?_) (fun h122 => ?_)
              · -- 122T
                refine WL.val (v_assign rfl rfl) (.none rfl) rfl rfl ?_
                refine WL.nil ?_
                refine WE.then_n ?_
                refine WC.cond_t rfl ?_
                refine WC.seq ?_
                refine WC.seq ?_
                refine WC.quiet mixed (by kernel_rfl) ?_
                have hl := l17 h122
                obtain ⟨u, hu⟩ := ex_get' (xs := t.kids) (k := 0) (by omega)
                obtain ⟨b, o, ea, hr⟩ := (hA.kid hu).1
                obtain ⟨u1, hu1⟩ := ex_get' (xs := t.kids) (k := 1) (by omega)
                obtain ⟨b1, o1, ea1, hr1⟩ := (hA.kid hu1).1
                obtain ⟨u2, hu2⟩ := ex_get' (xs := t.kids) (k := 2) (by omega)
                obtain ⟨b2, o2, ea2, hr2⟩ := (hA.kid hu2).1
                refine WQ.val (v_fieldAddr0 rfl rfl fld_52_4) (.none rfl) rfl rfl ?_
                refine WQ.val (v_load1 rfl rfl one_50 (cellAt rfl)) (.none rfl) rfl rfl ?_
                refine WQ.val (v_indexAddr (b := b) (off := o) (lo := 0) rfl (by show some (Value.slice t.ad _ _) = _; rw [ea]) rfl Tryd.underlying50 sz_52 rfl (by omega)) (.none rfl) rfl rfl ?_
                refine WQ.val (v_loadN (cs := ndL u) rfl rfl many_52 rfl (rangeIn (fun h => h) hr)) (.none rfl) rfl rfl ?_
                refine WQ.val (v_loadN rfl rfl many_59 rfl allAt) (.none rfl) rfl rfl ?_
                refine WQ.call _ rfl rfl ck_61 (.none rfl) rfl rfl (fun w hS => Calls.still (RHolds_c h hz _ u (Nat.le_refl _) w (by have := hk.kid hu; rwa [show predK t.kind 0 = true by unfold predK; rw [decide_eq_true (by omega)]] at this) (hI.kids.get _ _ _ hu) ((hA.kid hu).2.st (fun _ h => h) hS)) hS) ?_
                generalize hb128 : holdsG h u = bb
                cases bb
                · -- 128F
                  refine WQ.nil ?_
                  refine WE.then_n ?_
                  refine WC.cond_f rfl ?_
                  refine WC.skip ?_
                  refine WE.then_n ?_
                  refine WC.seq ?_
                  refine WC.orders mixed ?_
                  refine WR.first (g := 9) [0] (by kernel_rfl) (by kernel_rfl) ?_
                  refine WP.val (v_fieldAddr0 rfl rfl fld_52_4) (.none rfl) rfl rfl ?_
                  refine WP.nil ?_
                  refine WR.read (g := 5) [1, 2, 3, 4] (by kernel_rfl) (by kernel_rfl) (by kernel_rfl) (by kernel_rfl) rfl ?_
                  refine WQ.val (v_load1 rfl rfl one_50 (cellAt rfl)) (.none rfl) rfl rfl ?_
                  refine WQ.val (v_indexAddr (b := b2) (off := o2) (lo := 2) rfl (by show some (Value.slice t.ad _ _) = _; rw [ea2]) rfl Tryd.underlying50 sz_52 rfl (by omega)) (.none rfl) rfl rfl ?_
                  refine WQ.val (v_loadN (cs := ndL u2) rfl rfl many_52 rfl (rangeIn (fun h => h) hr2)) (.none rfl) rfl rfl ?_
                  refine WQ.val (v_loadN rfl rfl many_59 rfl allAt) (.none rfl) rfl rfl ?_
                  refine WQ.nilR ?_
                  refine WR.ones (g := 4) [5] (by kernel_rfl) ?_
                  refine WL.call rfl rfl ck_25 (.none rfl) rfl rfl ?_
                  intro w1 hS
                  refine (RRun_c N u2 (Nd.kidN hN hu2) w1 _ h (hk.kid hu2) (hI.kids.get _ _ _ hu2) ((hA.kid hu2).2.st (fun _ h => h) hS) hz).mono ?_
                  rintro e w' ⟨Rs, adr, cr, Er, br, rfl, hVr, hS', hcr⟩
                  refine ⟨_, _, rfl, hS.join hS', ?_⟩
                  refine WL.nilR ?_
                  refine WR.first (g := 0) [6, 7, 8, 9] (by kernel_rfl) (by kernel_rfl) ?_
                  refine WP.val (v_extract rfl rfl rfl) (.none rfl) rfl rfl ?_
                  refine WP.val (v_extract rfl rfl rfl) (.none rfl) rfl rfl ?_
                  refine WP.val (v_assign rfl rfl) (.none rfl) rfl rfl ?_
                  refine WP.val (v_assign rfl rfl) (.none rfl) rfl rfl ?_
                  refine WP.nil ?_
                  refine WR.done (by kernel_rfl) ?_
                  refine WE.then_n ?_
                  refine WC.ret ?_
                  refine WE.block_ret ?_
                  refine WE.then_ret ?_
                  refine WE.ret2 (P := Tryd.prog) (.inl rfl) Tryd.results25 rfl rfl ?_
                  exact fun w' hh => ⟨Rs, adr, cr, Er, br, rfl, hVr, hh.sub (List.sublist_append_left _ _), by rw [e0, if_neg h26, if_neg h30, if_neg h40, if_neg h49, if_neg h80, if_pos h122, List.getD_eq_getElem?_getD, List.getElem?_map, hu, Option.map_some, Option.getD_some, hb128, if_neg (by decide), gNth_get _ _ _ _ hu2]; exact hcr⟩
                · -- 128T
                  refine WQ.nil ?_
                  refine WE.then_n ?_
                  refine WC.cond_t rfl ?_
                  refine WC.seq ?_
                  refine WC.orders mixed ?_
                  refine WR.first (g := 9) [0] (by kernel_rfl) (by kernel_rfl) ?_
                  refine WP.val (v_fieldAddr0 rfl rfl fld_52_4) (.none rfl) rfl rfl ?_
                  refine WP.nil ?_
                  refine WR.read (g := 5) [1, 2, 3, 4] (by kernel_rfl) (by kernel_rfl) (by kernel_rfl) (by kernel_rfl) rfl ?_
                  refine WQ.val (v_load1 rfl rfl one_50 (cellAt rfl)) (.none rfl) rfl rfl ?_
                  refine WQ.val (v_indexAddr (b := b1) (off := o1) (lo := 1) rfl (by show some (Value.slice t.ad _ _) = _; rw [ea1]) rfl Tryd.underlying50 sz_52 rfl (by omega)) (.none rfl) rfl rfl ?_
                  refine WQ.val (v_loadN (cs := ndL u1) rfl rfl many_52 rfl (rangeIn (fun h => h) hr1)) (.none rfl) rfl rfl ?_
                  refine WQ.val (v_loadN rfl rfl many_59 rfl allAt) (.none rfl) rfl rfl ?_
                  refine WQ.nilR ?_
                  refine WR.ones (g := 4) [5] (by kernel_rfl) ?_
                  refine WL.call rfl rfl ck_25 (.none rfl) rfl rfl ?_
                  intro w1 hS
                  refine (RRun_c N u1 (Nd.kidN hN hu1) w1 _ h (hk.kid hu1) (hI.kids.get _ _ _ hu1) ((hA.kid hu1).2.st (fun _ h => h) hS) hz).mono ?_
                  rintro e w' ⟨Rs, adr, cr, Er, br, rfl, hVr, hS', hcr⟩
                  refine ⟨_, _, rfl, hS.join hS', ?_⟩
                  refine WL.nilR ?_
                  refine WR.first (g := 0) [6, 7, 8, 9] (by kernel_rfl) (by kernel_rfl) ?_
                  refine WP.val (v_extract rfl rfl rfl) (.none rfl) rfl rfl ?_
                  refine WP.val (v_extract rfl rfl rfl) (.none rfl) rfl rfl ?_
                  refine WP.val (v_assign rfl rfl) (.none rfl) rfl rfl ?_
                  refine WP.val (v_assign rfl rfl) (.none rfl) rfl rfl ?_
                  refine WP.nil ?_
                  refine WR.done (by kernel_rfl) ?_
                  refine WE.then_n ?_
                  refine WC.ret ?_
                  refine WE.then_ret ?_
                  refine WE.block_ret ?_
                  refine WE.then_ret ?_
                  refine WE.ret2 (P := Tryd.prog) (.inl rfl) Tryd.results25 rfl rfl ?_
                  exact fun w' hh => ⟨Rs, adr, cr, Er, br, rfl, hVr, hh.sub (List.sublist_append_left _ _), by rw [e0, if_neg h26, if_neg h30, if_neg h40, if_neg h49, if_neg h80, if_pos h122, List.getD_eq_getElem?_getD, List.getElem?_map, hu, Option.map_some, Option.getD_some, hb128, if_pos rfl, gNth_get _ _ _ _ hu1]; exact hcr⟩
              · -- 122F
                refine WL.val (v_assign rfl rfl) (.none rfl) rfl rfl ?_
                refine WL.nil ?_
                refine WE.then_n ?_
                refine WC.cond_f rfl ?_
                refine WC.skip ?_
                refine WE.block_n ?_
                refine WE.then_n ?_
                refine WC.seq ?_
                refine WC.region ?_
                refine WL.val (v_move rfl rfl) (.none rfl) rfl rfl ?_
                refine WL.val (v_assign rfl rfl) (.none rfl) rfl rfl ?_
                refine WL.val (v_assign rfl rfl) (.none rfl) rfl rfl ?_
                refine WL.nil ?_
                refine WE.then_n ?_
                refine WC.ret ?_
                refine WE.ret2 (P := Tryd.prog) (.inl rfl) Tryd.results25 rfl rfl ?_
                exact fun w' hh => RPost.some (Qs := []) (by rw [e0, if_neg h26, if_neg h30, if_neg h40, if_neg h49, if_neg h80, if_neg h122]) (Vec.row rfl rfl (Nat.le_refl _)) hh (.cons_cons _ (List.nil_sublist _))
end Go.Proofs.YtodaanhhnjkncaaDoor
/- The law PolicyRuns. -/
namespace Go.Proofs.YtodaanhhnjkncaaDoor
open Go.RowKit

def numTo (H : Hd) (j : Nat) : Ky := fun i => if i < j then getF H i else 0
theorem RNum_c (w : World) (H : Hd) (hH : H.In) (hG : GW w) :
    Calls Tryd.prog 26 #[.agg (hdCells H)] w fun e w' => e = .returned (.agg (ucs (getF H) 9).toArray) ∧ Frm (fun _ => False) w w' := by
  refine enter Tryd.func26 rfl Tryd.ntmps26 rfl (St.start (fun _ => False) w) ?_
  refine WC.seq ?_
  refine WC.region ?_
  refine WL.box rfl rfl rfl (.none rfl) rfl rfl ?_
  intro g1 hg1
  refine WL.alloc rfl zero_59 (.none rfl) rfl rfl ?_
  intro g2 hg2
  refine WL.nil ?_
  refine WE.then_n ?_
  refine WC.seq ?_
  refine WC.region ?_
  refine WL.val (v_buildA rfl rfl zero_59 Tryd.underlying59 sz_22 rfl) (.none rfl) rfl rfl ?_
  refine WL.alloc rfl zero_59 (.none rfl) rfl rfl ?_
  intro g3 hg3
  refine WL.storeW rfl rfl rfl rfl many_59 rfl rfl (.none rfl) rfl ?_
  refine WL.nil ?_
  refine WE.then_n ?_
  refine WC.seq ?_
  refine WC.seq ?_
  refine WC.region ?_
  refine WL.val (v_assign rfl rfl) (.none rfl) rfl rfl ?_
  refine WL.nil ?_
  refine WE.then_n ?_
  refine WC.block ?_
  refine WC.loop (fun j : Nat => [(4, .int .i64 j), (3, .pointer (some ⟨g3, 0, none⟩)), (2, .pointer (some ⟨g2, 0, none⟩)), (1, .pointer (some ⟨g1, 0, none⟩))]) (fun j => [.row g3 (ucs (numTo H j) 9), .row g2 (ucs (fun _ => 0) 9), .row g1 (hdL H)]) (fun j => j ≤ 9) (fun j => 9 - j) 0 (Nat.zero_le _) (.cons rfl (.cons rfl (.cons rfl (.cons rfl .nil)))) (.refl _) ?_
  intro j hj
  refine WC.seq ?_
  refine WC.seq ?_
  refine WC.region ?_
  refine WL.val (v_move rfl rfl) (.none rfl) rfl rfl ?_
  refine WL.test (v_lss rfl rfl rfl) (.none rfl) rfl rfl (fun h7 => ?_) (fun h7 => ?_)
  · -- 7T
    refine WL.nil ?_
    refine WE.then_n ?_
    refine WC.cond_t rfl ?_
    refine WC.skip ?_
    refine WE.then_n ?_
    refine WC.seq ?_
    refine WC.block ?_
    refine WC.region ?_
    refine WL.val (v_move rfl rfl) (.none rfl) rfl rfl ?_
    refine WL.val (v_loadN rfl rfl many_31 rfl allAt) (.none rfl) rfl rfl ?_
    refine WL.val (v_move rfl rfl) (.none rfl) rfl rfl ?_
    refine WL.call rfl rfl ck_16 (.none rfl) rfl rfl ?_
    intro w hS
    refine Calls.then (Get_c w H j (by omega) hH (hG.keep (fun h => h) hS)) hS ?_
    refine WL.val (v_indexAddrA (lo := j) rfl rfl rfl Tryd.underlying59 sz_22 (by omega) (by omega)) (.none rfl) rfl rfl ?_
    refine WL.store1 rfl rfl rfl rfl one_22 (by rw [ucs_len]; omega) (.none rfl) rfl ?_
    refine WL.as (L' := [.row g3 (ucs (numTo H (j + 1)) 9), .row g2 (ucs (fun _ => 0) 9), .row g1 (hdL H)]) (by
    rw [Nat.zero_add, Nat.mul_one, ucs_set (by omega)]
    congr 2
    refine ucs_congr fun i hi => ?_
    unfold numTo
    by_cases e : i = j
    · subst e; rw [if_pos rfl, if_pos (by omega)]
    · rw [if_neg e]
      by_cases e2 : i < j
      · rw [if_pos e2, if_pos (by omega)]
      · rw [if_neg e2, if_neg (by omega)]) ?_
    refine WL.nil ?_
    refine WE.block_n ?_
    refine WE.then_n ?_
    refine WC.region ?_
    refine WL.val (v_move rfl rfl) (.none rfl) rfl rfl ?_
    refine WL.val (v_add rfl rfl rfl (w_i64 (by omega) (by omega))) (.none rfl) rfl rfl ?_
    refine WL.val (v_assign rfl rfl) (.none rfl) rfl rfl ?_
    refine WL.nil ?_
    exact WE.next (j + 1) (by omega) (by omega) (.int rfl (by omega) (.cons rfl (.cons rfl (.cons rfl .nil)))) (.refl _)
  · -- 7F
    refine WL.nil ?_
    refine WE.then_n ?_
    refine WC.cond_f rfl ?_
    refine WC.exit ?_
    refine WE.then_exit ?_
    refine WE.then_exit ?_
    refine WE.block_hit ?_
    refine WE.then_n ?_
    refine WC.seq ?_
    refine WC.region ?_
    refine WL.val (v_loadN rfl rfl many_59 rfl allAt) (.none rfl) rfl rfl ?_
    refine WL.storeW rfl rfl rfl rfl many_59 rfl rfl (.none rfl) rfl ?_
    refine WL.nil ?_
    refine WE.then_n ?_
    refine WC.ret ?_
    refine WE.ret1 (P := Tryd.prog) (.inl rfl) Tryd.results26 (resRow rfl many_59 rfl) ?_
    obtain rfl : j = 9 := (by omega)
    exact fun w' h => ⟨by rw [ucs_congr (f := numTo H 9) (g := getF H) (fun i hi => by unfold numTo; rw [if_pos hi])], h.frm⟩
theorem RSame_c (w : World) (Hs : List Hd) (Qs : List Ky) (ad1 ad2 : Option Addr) (c1 c2 : Nat) (hA : HdsAt w ad1 Hs) (hB : KysAt w ad2 Qs) (hR : ∀ x ∈ Hs, x.Rt) (he : Hs.map getF = Qs) (hn : Hs.length ≤ 1000) (hG : GW w) :
    Calls Tryd.prog 27 #[.slice ad1 Hs.length c1, .slice ad2 Qs.length c2] w fun e w' => e = .returned (.bool true) ∧ Frm (fun _ => False) w w' := by
  have hlen : Hs.length = Qs.length := by rw [← he, List.length_map]
  refine enter Tryd.func27 rfl Tryd.ntmps27 rfl (St.start (fun _ => False) w) ?_
  refine WC.seq ?_
  refine WC.region ?_
  refine WL.val (v_assign rfl rfl) (.none rfl) rfl rfl ?_
  refine WL.nil ?_
  refine WE.then_n ?_
  refine WC.seq ?_
  refine WC.seq ?_
  refine WC.region ?_
  refine WL.val (v_move rfl rfl) (.none rfl) rfl rfl ?_
  refine WL.val (v_len_slice rfl rfl Tryd.underlying47) (.none rfl) rfl rfl ?_
  refine WL.val (v_move rfl rfl) (.none rfl) rfl rfl ?_
  refine WL.val (v_len_slice rfl rfl Tryd.underlying56) (.none rfl) rfl rfl ?_
  refine WL.val ((v_neq rfl rfl rfl).f (by omega)) (.none rfl) rfl rfl ?_
  refine WL.nil ?_
  refine WE.then_n ?_
  refine WC.cond_f rfl ?_
  refine WC.skip ?_
  refine WE.then_n ?_
  refine WC.seq ?_
  refine WC.seq ?_
  refine WC.region ?_
  refine WL.val (v_move rfl rfl) (.none rfl) rfl rfl ?_
  refine WL.val (v_len_slice rfl rfl Tryd.underlying47) (.none rfl) rfl rfl ?_
  refine WL.val (v_move rfl rfl) (.none rfl) rfl rfl ?_
  refine WL.nil ?_
  refine WE.then_n ?_
  refine WC.block ?_
  refine WC.loop (fun j : Nat => [(13, .int .i64 j), (12, .int .i64 Hs.length), (0, .slice ad1 Hs.length c1), (1, .slice ad2 Qs.length c2)]) (fun _ => []) (fun j => j ≤ Hs.length) (fun j => Hs.length - j) 0 (Nat.zero_le _) (.cons rfl (.cons rfl (.cons rfl (.cons rfl .nil)))) (.refl _) ?_
  intro j hj
  refine WC.seq ?_
  refine WC.region ?_
  refine WL.test (v_lss rfl rfl rfl) (.none rfl) rfl rfl (fun h14 => ?_) (fun h14 => ?_)
  · -- 14T
    refine WL.nil ?_
    refine WE.then_n ?_
    refine WC.seq ?_
    refine WC.cond_t rfl ?_
    refine WC.skip ?_
    refine WE.then_n ?_
    refine WC.seq ?_
    refine WC.block ?_
    refine WC.seq ?_
    refine WC.region ?_
    refine WL.val (v_move rfl rfl) (.none rfl) rfl rfl ?_
    obtain ⟨A, hA1⟩ := ex_get' (xs := Hs) (k := j) (by omega)
    have hQ : Qs[j]? = some (getF A) := (by rw [← he, List.getElem?_map, hA1]; rfl)
    have hAR := hR A (List.mem_of_getElem? hA1)
    obtain ⟨b1, o1, ea1, hr1⟩ := hA j A hA1
    obtain ⟨b2, o2, ea2, hr2⟩ := hB j _ hQ
    refine WL.val (v_assign rfl rfl) (.none rfl) rfl rfl ?_
    refine WL.nil ?_
    refine WE.then_n ?_
    refine WC.seq ?_
    refine WC.quiet mixed (by kernel_rfl) ?_
    refine WQ.val (v_move rfl rfl) (.none rfl) rfl rfl ?_
    refine WQ.val (v_move rfl rfl) (.none rfl) rfl rfl ?_
    refine WQ.val (v_indexAddr (b := b1) (off := o1) (lo := j) rfl (by show some (Value.slice ad1 _ _) = _; rw [ea1]) rfl Tryd.underlying47 sz_31 rfl (by omega)) (.none rfl) rfl rfl ?_
    refine WQ.val (v_loadN (cs := hdL A) rfl rfl many_31 rfl (rangeIn (fun h => h) hr1)) (.none rfl) rfl rfl ?_
    refine WQ.call _ rfl rfl ck_26 (.none rfl) rfl rfl (fun w hS => Calls.still (RNum_c w A hAR.isIn (hG.keep (fun h => h) hS)) hS) ?_
    refine WQ.val (v_move rfl rfl) (.none rfl) rfl rfl ?_
    refine WQ.val (v_move rfl rfl) (.none rfl) rfl rfl ?_
    refine WQ.val (v_indexAddr (b := b2) (off := o2) (lo := j) rfl (by show some (Value.slice ad2 _ _) = _; rw [ea2]) rfl Tryd.underlying56 sz_59 rfl (by omega)) (.none rfl) rfl rfl ?_
    refine WQ.val (v_loadN (cs := ucs (getF A) 9) rfl rfl many_59 rfl (rangeIn (fun h => h) hr2)) (.none rfl) rfl rfl ?_
    refine WQ.val (v_neq_aggF rfl rfl rfl eqk_59 eqg_59 rfl rfl (by rfl)) (.none rfl) rfl rfl ?_
    refine WQ.val (v_move rfl rfl) (.none rfl) rfl rfl ?_
    refine WQ.val (v_move rfl rfl) (.some rfl rfl rfl) rfl rfl ?_
    refine WQ.val (v_move rfl rfl) (.some rfl rfl rfl) rfl rfl ?_
    refine WQ.val (v_indexAddr (b := b1) (off := o1) (lo := j) rfl (by show some (Value.slice ad1 _ _) = _; rw [ea1]) rfl Tryd.underlying47 sz_31 rfl (by omega)) (.some rfl rfl rfl) rfl rfl ?_
    refine WQ.val (v_loadN (cs := hdL A) rfl rfl many_31 rfl (rangeIn (fun h => h) hr1)) (.some rfl rfl rfl) rfl rfl ?_
    refine WQ.call _ rfl rfl ck_24 (.some rfl rfl rfl) rfl rfl (fun w hS => Calls.still ((HCheck_c w A hAR.isIn (hG.keep (fun h => h) hS)).mono fun _ _ h => ⟨by rw [h.1, if_pos hAR.ok], h.2⟩) hS) ?_
    refine WQ.val ((v_neq rfl rfl rfl).f (fun h => h rfl)) (.some rfl rfl rfl) rfl rfl ?_
    refine WQ.val (v_pick_f rfl rfl rfl) (.none rfl) rfl rfl ?_
    refine WQ.nil ?_
    refine WE.then_n ?_
    refine WC.cond_f rfl ?_
    refine WC.skip ?_
    refine WE.block_n ?_
    refine WE.then_n ?_
    refine WC.region ?_
    refine WL.val (v_add rfl rfl rfl (w_i64 (by omega) (by omega))) (.none rfl) rfl rfl ?_
    refine WL.val (v_move rfl rfl) (.none rfl) rfl rfl ?_
    refine WL.nil ?_
    exact WE.next (j + 1) (by omega) (by omega) (.int rfl (by omega) (.cons rfl (.cons rfl (.cons rfl .nil)))) (.refl _)
  · -- 14F
    refine WL.nil ?_
    refine WE.then_n ?_
    refine WC.seq ?_
    refine WC.cond_f rfl ?_
    refine WC.exit ?_
    refine WE.then_exit ?_
    refine WE.then_exit ?_
    refine WE.block_hit ?_
    refine WE.then_n ?_
    refine WC.seq ?_
    refine WC.region ?_
    refine WL.val (v_assign rfl rfl) (.none rfl) rfl rfl ?_
    refine WL.nil ?_
    refine WE.then_n ?_
    refine WC.ret ?_
    refine WE.ret1 (P := Tryd.prog) (.inl rfl) Tryd.results27 rfl ?_
    exact fun w' h => ⟨rfl, h.frm⟩
set_option maxHeartbeats 4000000 in
theorem PolicyRuns_all (w0 : World) (t : Nd) (H : Hd) (hI : t.In) (hA : t.At w0) (hH : H.In) (hG : GW w0) :
    Calls Tryd.prog 4 #[ndV t, .agg (hdCells H)] w0 fun e w' => e = .returned (.bool true) ∧ Frm (fun _ => False) w0 w' := by
  refine enter Tryd.func4 rfl Tryd.ntmps4 rfl (St.start (fun _ => False) w0) ?_
  refine WC.seq ?_
  refine WC.region ?_
  refine WL.box rfl rfl rfl (.none rfl) rfl rfl ?_
  intro g2 hg2
  refine WL.box rfl rfl rfl (.none rfl) rfl rfl ?_
  intro g3 hg3
  refine WL.val (v_assign rfl rfl) (.none rfl) rfl rfl ?_
  refine WL.nil ?_
  refine WE.then_n ?_
  refine WC.seq ?_
  refine WC.seq ?_
  refine WC.region ?_
  refine WL.call rfl rfl ck_19 (.none rfl) rfl rfl ?_
  intro w hS
  refine Calls.then (Ex16_c w (hG.keep (fun h => h) hS)) hS ?_
  refine WL.val (v_not rfl rfl rfl) (.none rfl) rfl rfl ?_
  refine WL.nil ?_
  refine WE.then_n ?_
  refine WC.cond_f rfl ?_
  refine WC.skip ?_
  refine WE.then_n ?_
  refine WC.seq ?_
  refine WC.seq ?_
  refine WC.region ?_
  refine WL.val (v_loadN rfl rfl many_45 rfl allAt) (.none rfl) rfl rfl ?_
  refine WL.call rfl rfl ck_20 (.none rfl) rfl rfl ?_
  intro w hS
  refine Calls.then (count_c _ t (Nat.le_refl _) w 300 hI (hA.st (fun _ h => h) hS) (by omega) (by omega)) hS ?_
  refine WL.test (v_gtr rfl rfl rfl) (.none rfl) rfl rfl (fun h16 => ?_) (fun h16 => ?_)
  · -- 16T
    refine WL.nil ?_
    refine WE.then_n ?_
    refine WC.cond_t rfl ?_
    refine WC.seq ?_
    refine WC.region ?_
    refine WL.val (v_assign rfl rfl) (.none rfl) rfl rfl ?_
    refine WL.nil ?_
    refine WE.then_n ?_
    refine WC.ret ?_
    refine WE.then_ret ?_
    refine WE.ret1 (P := Tryd.prog) (.inl rfl) Tryd.results4 rfl ?_
    exact fun w' h => ⟨rfl, h.frm⟩
  · -- 16F
    refine WL.nil ?_
    refine WE.then_n ?_
    refine WC.cond_f rfl ?_
    refine WC.skip ?_
    refine WE.then_n ?_
    refine WC.seq ?_
    refine WC.region ?_
    refine WL.val (v_loadN rfl rfl many_45 rfl allAt) (.none rfl) rfl rfl ?_
    refine WL.val (v_loadN rfl rfl many_31 rfl allAt) (.none rfl) rfl rfl ?_
    refine WL.call rfl rfl ck_21 (.none rfl) rfl rfl ?_
    intro w1 hS
    have hsz := countT_size t 300 (by omega) (by omega)
    refine (Run_c (fun _ => False) (fun _ h => h) w0 hG _ w1 t H hI (fun w' hS' => hA.st (fun _ h => h) hS') hH hS).mono ?_
    rintro e w' ⟨Rs, ad, c, E, er_, rfl, hV, hS', hr⟩
    refine ⟨_, _, rfl, hS', ?_⟩
    refine WL.val (v_move rfl rfl) (.none rfl) rfl rfl ?_
    refine WL.val (v_extract rfl rfl rfl) (.none rfl) rfl rfl ?_
    refine WL.val (v_extract rfl rfl rfl) (.none rfl) rfl rfl ?_
    refine WL.val (v_assign rfl rfl) (.none rfl) rfl rfl ?_
    refine WL.val (v_assign rfl rfl) (.none rfl) rfl rfl ?_
    refine WL.nil ?_
    refine WE.then_n ?_
    refine WC.seq ?_
    refine WC.region ?_
    refine WL.val (v_loadN rfl rfl many_45 rfl allAt) (.none rfl) rfl rfl ?_
    refine WL.call rfl rfl ck_22 (.none rfl) rfl rfl ?_
    intro w1 hS
    refine (Plain_c _ t (Nat.le_refl _) w1 30 hI (hA.st (fun _ h => h) hS) (by omega) (by omega)).mono ?_
    rintro e w' ⟨u, Eu, Mu, rfl, her, hO, hS'⟩
    refine ⟨_, _, rfl, hS.join hS', ?_⟩
    refine WL.alloc rfl zero_52 (.none rfl) rfl rfl ?_
    intro g7 hg7
    refine WL.storeW rfl rfl rfl rfl many_52 rfl rfl (.none rfl) rfl ?_
    have hu : ∀ w, St (fun _ => False) w0 w (.row g7 (ndL u) :: ((Eu ++ Mu) ++ (E ++ [.row g3 (hdL H), .row g2 (ndL t)]))) → u.At w := (fun w hS => hO.at_ w fun e he => hS.holds e (List.mem_cons_of_mem _ (List.mem_append_left _ he)))
    refine WL.as (L' := .row g7 (ndL u) :: ((Eu ++ Mu) ++ (E ++ [.row g3 (hdL H), .row g2 (ndL t)]))) rfl ?_
    refine WL.nil ?_
    refine WE.then_n ?_
    refine WC.seq ?_
    refine WC.region ?_
    refine WL.val (v_loadN rfl rfl many_52 rfl allAt) (.none rfl) rfl rfl ?_
    refine WL.call rfl rfl ck_23 (.none rfl) rfl rfl ?_
    intro w1 hS
    refine (RWalk_c _ u (Nat.le_refl _) w1 false 0 1 hO.isIn (hu w1 hS) (by omega) (by omega) (by omega) (by omega)).mono ?_
    rintro e w' ⟨rfl, hF⟩
    rw [walkR_if, walk_erD t u 30 1 false 0 her (by omega)]
    refine ⟨_, _, rfl, hS.ext hF, ?_⟩
    refine WL.val (v_move rfl rfl) (.none rfl) rfl rfl ?_
    refine WL.val (v_extract rfl rfl rfl) (.none rfl) rfl rfl ?_
    refine WL.val (v_extract rfl rfl rfl) (.none rfl) rfl rfl ?_
    refine WL.val (v_assign rfl rfl) (.none rfl) rfl rfl ?_
    refine WL.val (v_assign rfl rfl) (.none rfl) rfl rfl ?_
    refine WL.nil ?_
    refine WE.then_n ?_
    refine WC.seq ?_
    refine WC.seq ?_
    refine WC.region ?_
    refine WL.val (v_move rfl rfl) (.none rfl) rfl rfl ?_
    refine WL.test (v_neq rfl rfl rfl) (.none rfl) rfl rfl (fun h31 => ?_) (fun h31 => ?_)
    · -- 31T
      refine WL.nil ?_
      refine WE.then_n ?_
      refine WC.cond_t rfl ?_
      refine WC.seq ?_
      refine WC.region ?_
      have hr1 := hr
      unfold RunIs at hr1
      rw [if_pos h31] at hr1
      obtain ⟨hr1, hr2⟩ := hr1
      refine WL.val (v_move rfl rfl) (.none rfl) rfl rfl ?_
      refine WL.val (v_move rfl rfl) (.none rfl) rfl rfl ?_
      refine WL.val ((v_eql rfl rfl rfl).t (hr1)) (.none rfl) rfl rfl ?_
      refine WL.val (v_move rfl rfl) (.none rfl) rfl rfl ?_
      refine WL.val (v_move rfl rfl) (.some rfl rfl rfl) rfl rfl ?_
      refine WL.val (v_len_slice rfl rfl Tryd.underlying47) (.some rfl rfl rfl) rfl rfl ?_
      refine WL.val ((v_eql rfl rfl rfl).t (by rw [hr2]; rfl)) (.some rfl rfl rfl) rfl rfl ?_
      refine WL.val (v_pick_t rfl rfl rfl) (.none rfl) rfl rfl ?_
      refine WL.val (v_assign rfl rfl) (.none rfl) rfl rfl ?_
      refine WL.nil ?_
      refine WE.then_n ?_
      refine WC.ret ?_
      refine WE.then_ret ?_
      refine WE.ret1 (P := Tryd.prog) (.inl rfl) Tryd.results4 rfl ?_
      exact fun w' h => ⟨rfl, h.frm⟩
    · -- 31F
      refine WL.nil ?_
      refine WE.then_n ?_
      refine WC.cond_f rfl ?_
      refine WC.skip ?_
      refine WE.then_n ?_
      refine WC.seq ?_
      refine WC.seq ?_
      refine WC.region ?_
      refine WL.val (v_loadN rfl rfl many_31 rfl allAt) (.none rfl) rfl rfl ?_
      refine WL.call rfl rfl ck_24 (.none rfl) rfl rfl ?_
      intro w hS
      refine Calls.then (HCheck_c w H hH (hG.keep (fun h => h) hS)) hS ?_
      generalize hok : H.okB = okb
      cases okb
      · -- 41F
        refine WL.val ((v_neq rfl rfl rfl).t ((fun h => absurd h (by decide)))) (.none rfl) rfl rfl ?_
        refine WL.nil ?_
        refine WE.then_n ?_
        refine WC.cond_t rfl ?_
        refine WC.seq ?_
        refine WC.region ?_
        have hr1 := hr
        unfold RunIs at hr1
        rw [if_neg h31, if_pos hok] at hr1
        obtain ⟨hr1, hr2⟩ := hr1
        refine WL.val (v_move rfl rfl) (.none rfl) rfl rfl ?_
        refine WL.val ((v_eql rfl rfl rfl).t (hr1)) (.none rfl) rfl rfl ?_
        refine WL.val (v_move rfl rfl) (.none rfl) rfl rfl ?_
        refine WL.val (v_move rfl rfl) (.some rfl rfl rfl) rfl rfl ?_
        refine WL.val (v_len_slice rfl rfl Tryd.underlying47) (.some rfl rfl rfl) rfl rfl ?_
        refine WL.val ((v_eql rfl rfl rfl).t (by rw [hr2]; rfl)) (.some rfl rfl rfl) rfl rfl ?_
        refine WL.val (v_pick_t rfl rfl rfl) (.none rfl) rfl rfl ?_
        refine WL.val (v_assign rfl rfl) (.none rfl) rfl rfl ?_
        refine WL.nil ?_
        refine WE.then_n ?_
        refine WC.ret ?_
        refine WE.then_ret ?_
        refine WE.ret1 (P := Tryd.prog) (.inl rfl) Tryd.results4 rfl ?_
        exact fun w' h => ⟨rfl, h.frm⟩
      · -- 41T
        refine WL.val ((v_neq rfl rfl rfl).f (fun h => h rfl)) (.none rfl) rfl rfl ?_
        refine WL.nil ?_
        refine WE.then_n ?_
        refine WC.cond_f rfl ?_
        refine WC.skip ?_
        refine WE.then_n ?_
        refine WC.seq ?_
        refine WC.orders mixed ?_
        refine WR.read (g := 6) [0, 1, 2] (by kernel_rfl) (by kernel_rfl) (by kernel_rfl) (by kernel_rfl) rfl ?_
        have hw0 := Classical.not_not.1 h31
        have heru : er u = er t := her.trans (erD_er t 30 1 false 0 hw0 (by omega))
        have hwu : (walkT u 1 false 0).1 = 0 := by rw [walk_erD t u 30 1 false 0 her (by omega)]; exact hw0
        have hoku := walkT_ok _ _ _ _ hwu
        have hRt : H.Rt := ⟨hH, hok⟩
        have htw := two_ways hoku hO.isIn hRt
        rw [runT_er t u H heru] at htw
        refine WQ.val (v_loadN rfl rfl many_52 rfl allAt) (.none rfl) rfl rfl ?_
        refine WQ.val (v_loadN rfl rfl many_31 rfl allAt) (.none rfl) rfl rfl ?_
        refine WQ.call _ rfl rfl ck_26 (.none rfl) rfl rfl (fun w hS => Calls.still (RNum_c w H hH (hG.keep (fun h => h) hS)) hS) ?_
        refine WQ.nilR ?_
        refine WR.ones (g := 5) [3] (by kernel_rfl) ?_
        refine WL.call rfl rfl ck_25 (.none rfl) rfl rfl ?_
        intro w1 hS
        refine (RRun_c _ u (Nat.le_refl _) w1 false (getF H) hoku hO.isIn (hu w1 hS) (getF_z H)).mono ?_
        rintro e w' ⟨Qs, adq, cq, Eq, bq, rfl, hVq, hS', hcq⟩
        refine ⟨_, _, rfl, hS.join hS', ?_⟩
        refine WL.nilR ?_
        refine WR.first (g := 0) [4, 5, 6, 7, 8] (by kernel_rfl) (by kernel_rfl) ?_
        refine WP.val (v_move rfl rfl) (.none rfl) rfl rfl ?_
        refine WP.val (v_extract rfl rfl rfl) (.none rfl) rfl rfl ?_
        refine WP.val (v_extract rfl rfl rfl) (.none rfl) rfl rfl ?_
        refine WP.val (v_assign rfl rfl) (.none rfl) rfl rfl ?_
        refine WP.val (v_assign rfl rfl) (.none rfl) rfl rfl ?_
        refine WP.nil ?_
        refine WR.done (by kernel_rfl) ?_
        refine WE.then_n ?_
        refine WC.seq ?_
        refine WC.seq ?_
        refine WC.region ?_
        refine WL.val (v_move rfl rfl) (.none rfl) rfl rfl ?_
        skip
        cases bq
        · -- 57F
          refine WL.val (v_not rfl rfl rfl) (.none rfl) rfl rfl ?_
          refine WL.nil ?_
          refine WE.then_n ?_
          refine WC.cond_t rfl ?_
          refine WC.seq ?_
          refine WC.region ?_
          have hnn : runT t H = none := (by
            rcases hcq with ⟨q, _⟩ | ⟨_, q, _⟩
            · cases q
            · rw [q] at htw
              cases hrt : runT t H with
              | none => rfl
              | some Zs => rw [hrt] at htw; exact htw.elim)
          have hr1 := hr
          unfold RunIs at hr1
          rw [if_neg h31, if_neg (by rw [hok]; decide), hnn] at hr1
          obtain ⟨hr1, hr2⟩ := hr1
          refine WL.val (v_move rfl rfl) (.none rfl) rfl rfl ?_
          refine WL.val ((v_eql rfl rfl rfl).t (hr1)) (.none rfl) rfl rfl ?_
          refine WL.val (v_move rfl rfl) (.none rfl) rfl rfl ?_
          refine WL.val (v_move rfl rfl) (.some rfl rfl rfl) rfl rfl ?_
          refine WL.val (v_len_slice rfl rfl Tryd.underlying47) (.some rfl rfl rfl) rfl rfl ?_
          refine WL.val ((v_eql rfl rfl rfl).t (by rw [hr2]; rfl)) (.some rfl rfl rfl) rfl rfl ?_
          refine WL.val (v_pick_t rfl rfl rfl) (.none rfl) rfl rfl ?_
          refine WL.val (v_assign rfl rfl) (.none rfl) rfl rfl ?_
          refine WL.nil ?_
          refine WE.then_n ?_
          refine WC.ret ?_
          refine WE.then_ret ?_
          refine WE.ret1 (P := Tryd.prog) (.inl rfl) Tryd.results4 rfl ?_
          exact fun w' h => ⟨rfl, h.frm⟩
        · -- 57T
          refine WL.val (v_not rfl rfl rfl) (.none rfl) rfl rfl ?_
          refine WL.nil ?_
          refine WE.then_n ?_
          refine WC.cond_f rfl ?_
          refine WC.skip ?_
          refine WE.then_n ?_
          refine WC.seq ?_
          refine WC.region ?_
          obtain ⟨_, hcq⟩ : True ∧ gT moK u (getF H) = some Qs := (by rcases hcq with ⟨_, q⟩ | ⟨q, _⟩; exact ⟨trivial, q⟩; cases q)
          rw [hcq] at htw
          obtain ⟨Zs, hrt, hgd, hmem⟩ : ∃ Zs, runT t H = some Zs ∧ GdK Qs ∧ ∀ g, inK Zs g ↔ g ∈ Qs := (by
            cases hrt : runT t H with
            | none => rw [hrt] at htw; exact htw.elim
            | some Zs => rw [hrt] at htw; exact ⟨Zs, rfl, htw.1, htw.2⟩)
          have hr1 := hr
          unfold RunIs at hr1
          rw [if_neg h31, if_neg (by rw [hok]; decide), hrt] at hr1
          obtain ⟨hr1, hr2, hr3⟩ := hr1
          obtain ⟨_, _, x1, x2, x3, x4⟩ := hr.keys hI hH hr1
          have hmap : Rs.map getF = Qs := strict_unique ltK_irr (fun a b c h1 h2 => lex_trans h1 h2) _ _ x2 hgd.1.1 (fun z => by
            rw [List.mem_map]
            constructor
            · rintro ⟨y, hy, e⟩
              exact (hmem z).1 ⟨y, hr2.subset hy, e⟩
            · intro hz
              obtain ⟨y, hy, e⟩ := (hmem z).2 hz
              exact ⟨y, hr2.symm.subset hy, e⟩)
          refine WL.val (v_move rfl rfl) (.none rfl) rfl rfl ?_
          refine WL.val ((v_eql rfl rfl rfl).t (hr1)) (.none rfl) rfl rfl ?_
          refine WL.val (v_move rfl rfl) (.none rfl) rfl rfl ?_
          refine WL.val (v_move rfl rfl) (.some rfl rfl rfl) rfl rfl ?_
          refine WL.val (v_move rfl rfl) (.some rfl rfl rfl) rfl rfl ?_
          refine WL.call rfl rfl ck_27 (.some rfl rfl rfl) rfl rfl ?_
          intro w hS
          refine Calls.then (RSame_c w Rs Qs ad adq c cq (hV.hds hS (fun e he => List.mem_append_right _ (List.mem_cons_of_mem _ (List.mem_append_right _ (List.mem_append_left _ he))))) (hVq.kys rfl (fun e he => hS.holds e (List.mem_append_left _ he))) x1 hmap (by omega) (hG.keep (fun h => h) hS)) hS ?_
          refine WL.val (v_pick_t rfl rfl rfl) (.none rfl) rfl rfl ?_
          refine WL.val (v_assign rfl rfl) (.none rfl) rfl rfl ?_
          refine WL.nil ?_
          refine WE.then_n ?_
          refine WC.ret ?_
          refine WE.ret1 (P := Tryd.prog) (.inl rfl) Tryd.results4 rfl ?_
          exact fun w' h => ⟨rfl, h.frm⟩
end Go.Proofs.YtodaanhhnjkncaaDoor
/- carrefourref05.Copy and Same. -/
namespace Go.Proofs.YtodaanhhnjkncaaDoor
open Go.RowKit

theorem bcsAt {cs : List Value} {n : Nat} {f : Nat → Int} (h : cs = bcs f n) : ∀ i, i < n → cs[0 + i]? = some (.int .u8 (f i)) := fun i hi => by rw [Nat.zero_add, h, bcs_get f n i hi]
theorem rdoAt {p : Nat → Prop} {w0 w : World} {L : List Ent} {g n : Nat} {cs : List Value} {f : Nat → Int} [At L g cs] (hS : St p w0 w L) (h : cs = bcs f n) : RdO w (some ⟨g, 0, none⟩) n f := fun _ => ⟨g, 0, rfl, rdAt (bcsAt h) w hS⟩
theorem Vec.rdo {p : Nat → Prop} {w0 w : World} {L E : List Ent} {a : Option Addr} {n c : Nat} {f : Nat → Int} (hV : Vec 1 a n c (bcs f n) E) (hS : St p w0 w L) (hm : ∀ e ∈ E, e ∈ L) : RdO w a n f := fun hn => by
  rcases hV with ⟨_, h, _⟩ | ⟨g, cs, rfl, rfl, hx, hl, hk⟩
  · omega
  · refine ⟨g, 0, rfl, fun i hi => ?_⟩
    have hR : Row w g cs := hS.holds (.row g cs) (hm _ (by simp))
    refine hR.cell ?_
    rw [Nat.zero_add, ← bcs_get f n i hi, ← hx, List.getElem?_take, if_pos (by omega)]


/-- A slice of bytes that came in, as bytes that a function tells. -/
theorem rowBytes {w : World} {a : Option Addr} {len cap : Nat} {zs : List Int}
    (h : (a = none ∧ len = 0 ∧ cap = 0 ∧ zs = []) ∨ ∃ x, a = some x ∧ len ≤ cap ∧ cap ≤ maxLen ∧ zs.length = cap ∧ (∀ i, i < zs.length → w.cell? (x.add i) = some (.int .u8 (zs.getD i 0))) ∧ ∀ n ∈ zs, (Lit.int .u8 n).wf = true) :
    ∃ f, RdO w a len f ∧ Byt f ∧ len ≤ cap ∧ len ≤ 9223372036854775807 := by
  have hby : ∀ zs : List Int, (∀ n ∈ zs, (Lit.int .u8 n).wf = true) → Byt fun i => zs.getD i 0 := fun zs hw i => by
    by_cases hi : i < zs.length
    · have := hw (zs.getD i 0) (by simp [List.getD, hi])
      simp [Lit.wf, IntKind.min, IntKind.max, IntKind.signed, IntKind.bits] at this
      simpa [List.getD] using this
    · simp [List.getD, List.getElem?_eq_none (Nat.le_of_not_lt hi)]
  rcases h with ⟨rfl, rfl, rfl, rfl⟩ | ⟨x, rfl, hl, hm, hz, hc, hw⟩
  · exact ⟨fun _ => 0, fun h => by omega, fun _ => ⟨Int.le_refl _, show (0 : Int) ≤ 255 by omega⟩, by omega, by omega⟩
  · refine ⟨fun i => zs.getD i 0, fun h0 => ?_, hby zs hw, hl, by unfold maxLen at hm; omega⟩
    obtain ⟨b, off, spot⟩ := x
    have h1 := hc 0 (by omega)
    have hsp : spot = none := by
      cases spot with
      | none => rfl
      | some s =>
        simp only [Addr.add, if_true, World.cell?] at h1
        split at h1 <;> simp at h1
    subst hsp
    exact ⟨b, off, rfl, fun i hi => by have := hc i (by omega); rwa [addr_add] at this⟩

end Go.Proofs.YtodaanhhnjkncaaDoor
