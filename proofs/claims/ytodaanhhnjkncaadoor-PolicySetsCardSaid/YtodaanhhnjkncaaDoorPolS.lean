/- The law PolicySets. -/
import Derived.Test.YtodaanhhnjkncaaDoorPolC
namespace Go.Proofs.YtodaanhhnjkncaaDoor
open Go.RowKit

def setN (f v : Int) : Nd := .mk 14 f v 0 none 0 []
def set2 (g c : Nat) (f a b : Int) : Nd := .mk 16 0 0 0 (some ⟨g, 0, none⟩) c [setN f a, setN f b]
/-- Both may be set there. -/
def setOk (f a b : Int) : Prop := isFld f ∧ f ≠ 3 ∧ f ≠ 6 ∧ a ≤ fullI f.toNat ∧ b ≤ fullI f.toNat
theorem argE_setN (f v : Int) : argE (setN f v) = 0 ↔ isFld f ∧ f ≠ 3 ∧ f ≠ 6 ∧ v ≤ fullI f.toNat := by
  show (if (14 : Int) = 3 then _ else if (14 : Int) = 14 then (if ¬ isFld f ∨ f = 3 ∨ f = 6 ∨ v > fullI f.toNat then (1 : Int) else 0) else 0) = 0 ↔ _
  rw [if_neg (by decide), if_pos rfl]
  by_cases h : ¬ isFld f ∨ f = 3 ∨ f = 6 ∨ v > fullI f.toNat
  · rw [if_pos h]
    exact ⟨fun e => absurd e (by decide), fun q => by rcases h with h | h | h | h; exact absurd q.1 h; exact absurd h q.2.1; exact absurd h q.2.2.1; have := q.2.2.2; omega⟩
  · rw [if_neg h]
    exact ⟨fun _ => ⟨Classical.not_not.1 fun k => h (.inl k), fun k => h (.inr (.inl k)), fun k => h (.inr (.inr (.inl k))), Int.not_lt.1 fun k => h (.inr (.inr (.inr k)))⟩, fun _ => rfl⟩
theorem walk_setN (f v d n : Int) (hd : d ≤ 16) (hn : n ≤ 63) : walkT (setN f v) d false n = if argE (setN f v) ≠ 0 then (argE (setN f v), n + 1) else (0, n + 1) := by
  rw [walkT_eq, if_neg (by omega), if_neg (show ¬ fitsP (setN f v).kind false = false by show ¬ fitsP 14 false = false; decide)]
  split
  · rfl
  · rw [if_neg (show ¬ formE (setN f v) ≠ 0 from fun h => h rfl)]
    show walkKs 14 0 [] (d + 1) (n + 1) = _
    rw [walkKs]
theorem walk_set2 (g c : Nat) (f a b : Int) : (walkT (set2 g c f a b) 1 false 0).1 = 0 ↔ setOk f a b := by
  have e : walkT (set2 g c f a b) 1 false 0 = walkKs 16 0 [setN f a, setN f b] (1 + 1) (0 + 1) := by
    rw [walkT_eq, if_neg (by omega), if_neg (show ¬ fitsP (set2 g c f a b).kind false = false by show ¬ fitsP 16 false = false; decide), if_neg (show ¬ argE (set2 g c f a b) ≠ 0 from fun h => h rfl), if_neg (show ¬ formE (set2 g c f a b) ≠ 0 from fun h => h rfl)]
    rfl
  rw [e, walkKs, walkKs, walkKs, show predK 16 0 = false by decide, show predK 16 (0 + 1) = false by decide]
  by_cases h1 : argE (setN f a) = 0
  · have w1 : walkT (setN f a) (1 + 1) false (0 + 1) = (0, 0 + 1 + 1) := by rw [walk_setN f a _ _ (by omega) (by omega), if_neg (fun q => q h1)]
    rw [w1]
    dsimp only
    rw [if_neg (fun q => q rfl)]
    by_cases h2 : argE (setN f b) = 0
    · have w2 : walkT (setN f b) (1 + 1) false (0 + 1 + 1) = (0, 0 + 1 + 1 + 1) := by rw [walk_setN f b _ _ (by omega) (by omega), if_neg (fun q => q h2)]
      rw [w2]
      dsimp only
      rw [if_neg (fun q => q rfl)]
      have a1 := (argE_setN f a).1 h1
      have a2 := (argE_setN f b).1 h2
      exact ⟨fun _ => ⟨a1.1, a1.2.1, a1.2.2.1, a1.2.2.2, a2.2.2.2⟩, fun _ => rfl⟩
    · have w2 : walkT (setN f b) (1 + 1) false (0 + 1 + 1) = (argE (setN f b), 0 + 1 + 1 + 1) := by rw [walk_setN f b _ _ (by omega) (by omega), if_pos h2]
      rw [w2]
      dsimp only
      rw [if_pos h2]
      exact ⟨fun q => absurd q h2, fun q => absurd ((argE_setN f b).2 ⟨q.1, q.2.1, q.2.2.1, q.2.2.2.2⟩) h2⟩
  · have w1 : walkT (setN f a) (1 + 1) false (0 + 1) = (argE (setN f a), 0 + 1 + 1) := by rw [walk_setN f a _ _ (by omega) (by omega), if_pos h1]
    rw [w1]
    dsimp only
    rw [if_pos h1]
    exact ⟨fun q => absurd q h1, fun q => absurd ((argE_setN f a).2 ⟨q.1, q.2.1, q.2.2.1, q.2.2.2.1⟩) h1⟩
theorem run_set2 (g c : Nat) (f a b : Int) (H : Hd) : runT (set2 g c f a b) H = some [wthF f.toNat b (wthF f.toNat a H)] := by kernel_rfl
theorem set2_no {g c : Nat} {f a b : Int} {H : Hd} {Rs : List Hd} {er : Int} (h : RunIs (set2 g c f a b) H Rs er) (hn : ¬ setOk f a b) : er ≠ 0 := by
  unfold RunIs at h
  rw [if_pos (fun q => hn ((walk_set2 g c f a b).1 q))] at h
  rw [h.1]
  exact fun q => hn ((walk_set2 g c f a b).1 q)
theorem set2_ok {g c : Nat} {f a b : Int} {H : Hd} {Rs : List Hd} {er : Int} (h : RunIs (set2 g c f a b) H Rs er) (hn : setOk f a b) (hok : H.okB = true) : er = 0 ∧ Rs = [wthF f.toNat b (wthF f.toNat a H)] := by
  unfold RunIs at h
  rw [if_neg (fun q => q ((walk_set2 g c f a b).2 hn)), if_neg (by rw [hok]; decide), run_set2] at h
  exact ⟨h.1, List.perm_singleton.1 h.2.1⟩
theorem fwd_is {v : Int} {H : Hd} {Rs : List Hd} {er : Int} (h : RunIs (fwdN v) H Rs er) (hv : v ≤ 255) (hok : H.okB = true) : er = 0 ∧ Rs = [wthF 0 v H] := by
  have e1 : argE (setN 0 v) = 0 := (argE_setN 0 v).2 ⟨by decide, by decide, by decide, by show v ≤ fullI 0; rw [show fullI 0 = 255 by decide]; exact hv⟩
  have e2 : (walkT (fwdN v) 1 false 0).1 = 0 := by
    have := walk_setN 0 v 1 0 (by omega) (by omega)
    rw [if_neg (fun q => q e1)] at this
    show (walkT (setN 0 v) 1 false 0).1 = 0
    rw [this]
  have e3 : runT (fwdN v) H = some [wthF 0 v H] := by kernel_rfl
  unfold RunIs at h
  rw [if_neg (fun q => q e2), if_neg (by rw [hok]; decide), e3] at h
  exact ⟨h.1, List.perm_singleton.1 h.2.1⟩
theorem wthF_twice (k : Nat) (a b : Int) (H : Hd) : wthF k b (wthF k a H) = wthF k b H := by
  match k with
  | 0 | 1 | 2 | 3 | 4 | 5 | 6 | 7 | 8 | _ + 9 => rfl
theorem setN_in {f v : Int} (hf : -9223372036854775808 ≤ f ∧ f ≤ 9223372036854775807) (hv : 0 ≤ v ∧ v ≤ 18446744073709551615) : (setN f v).In := Nd.In_mk (by omega) hf hv (by omega) (by show 0 ≤ _; omega) KidsIn.nil
theorem set2_in {g c : Nat} {f a b : Int} (hf : -9223372036854775808 ≤ f ∧ f ≤ 9223372036854775807) (ha : 0 ≤ a ∧ a ≤ 18446744073709551615) (hb : 0 ≤ b ∧ b ≤ 18446744073709551615) : (set2 g c f a b).In :=
  Nd.In_mk (by omega) (by omega) (by omega) (by omega) (by show 2 ≤ _; omega) (.cons (setN_in hf ha) (.cons (setN_in hf hb) .nil))
theorem Sets_bad (w0 : World) (H : Hd) (f a b port : Int) (hH : H.In) (hG : GW w0) (hok : H.okB = false) :
    Calls Tryd.prog 6 #[.agg (hdCells H), .int .i64 f, .int .u64 a, .int .u64 b, .int .i64 port] w0 fun e w' => e = .returned (.bool true) ∧ Frm (fun _ => False) w0 w' := by
  refine enter Tryd.func6 rfl Tryd.ntmps6 rfl (St.start (fun _ => False) w0) ?_
  refine WC.seq ?_
  refine WC.region ?_
  refine WL.box rfl rfl rfl (.none rfl) rfl rfl ?_
  intro g5 hg5
  refine WL.val (v_assign rfl rfl) (.none rfl) rfl rfl ?_
  refine WL.nil ?_
  refine WE.then_n ?_
  refine WC.seq ?_
  refine WC.seq ?_
  refine WC.region ?_
  refine WL.call rfl rfl ck_19 (.none rfl) rfl rfl ?_
  intro w hS
  refine Calls.then (Ex16_c w (hG.keep (fun h => h) hS)) hS ?_
  refine WL.val (v_not rfl rfl rfl) (.none rfl) rfl rfl ?_
  refine WL.nil ?_
  refine WE.then_n ?_
  refine WC.cond_f rfl ?_
  refine WC.skip ?_
  refine WE.then_n ?_
  refine WC.seq ?_
  refine WC.seq ?_
  refine WC.region ?_
  refine WL.val (v_loadN rfl rfl many_31 rfl allAt) (.none rfl) rfl rfl ?_
  refine WL.call rfl rfl ck_24 (.none rfl) rfl rfl ?_
  intro w hS
  refine Calls.then ((HCheck_c w H hH (hG.keep (fun h => h) hS)).mono fun _ _ h => ⟨by rw [h.1, if_neg (by rw [hok]; decide)], h.2⟩) hS ?_
  refine WL.val ((v_neq rfl rfl rfl).t ((fun h => absurd h (by decide)))) (.none rfl) rfl rfl ?_
  refine WL.nil ?_
  refine WE.then_n ?_
  refine WC.cond_t rfl ?_
  refine WC.seq ?_
  refine WC.region ?_
  refine WL.val (v_assign rfl rfl) (.none rfl) rfl rfl ?_
  refine WL.nil ?_
  refine WE.then_n ?_
  refine WC.ret ?_
  refine WE.then_ret ?_
  refine WE.ret1 (P := Tryd.prog) (.inl rfl) Tryd.results6 rfl ?_
  exact fun w' h => ⟨rfl, h.frm⟩
set_option maxHeartbeats 4000000 in
theorem Sets_ok (w0 : World) (H : Hd) (f a b port : Int) (hH : H.In) (hf : -9223372036854775808 ≤ f ∧ f ≤ 9223372036854775807) (ha : 0 ≤ a ∧ a ≤ 18446744073709551615) (hb : 0 ≤ b ∧ b ≤ 18446744073709551615) (_hpo : -9223372036854775808 ≤ port ∧ port ≤ 9223372036854775807) (hG : GW w0) (hok : H.okB = true) (hset : setOk f a b) :
    Calls Tryd.prog 6 #[.agg (hdCells H), .int .i64 f, .int .u64 a, .int .u64 b, .int .i64 port] w0 fun e w' => e = .returned (.bool true) ∧ Frm (fun _ => False) w0 w' := by
  have full : ∀ w, GW w → isFld f → Calls Tryd.prog 30 #[.int .i64 f] w fun e w' => e = .returned (.int .u64 (fullI f.toNat)) ∧ Frm (fun _ => False) w w' := fun w hG h => by
    obtain ⟨k, e, hk, e2⟩ := h.nat
    rw [e2, e]
    exact Full_n w k hk hG
  refine enter Tryd.func6 rfl Tryd.ntmps6 rfl (St.start (fun _ => False) w0) ?_
  refine WC.seq ?_
  refine WC.region ?_
  refine WL.box rfl rfl rfl (.none rfl) rfl rfl ?_
  intro g5 hg5
  refine WL.val (v_assign rfl rfl) (.none rfl) rfl rfl ?_
  refine WL.nil ?_
  refine WE.then_n ?_
  refine WC.seq ?_
  refine WC.seq ?_
  refine WC.region ?_
  refine WL.call rfl rfl ck_19 (.none rfl) rfl rfl ?_
  intro w hS
  refine Calls.then (Ex16_c w (hG.keep (fun h => h) hS)) hS ?_
  refine WL.val (v_not rfl rfl rfl) (.none rfl) rfl rfl ?_
  refine WL.nil ?_
  refine WE.then_n ?_
  refine WC.cond_f rfl ?_
  refine WC.skip ?_
  refine WE.then_n ?_
  refine WC.seq ?_
  refine WC.seq ?_
  refine WC.region ?_
  refine WL.val (v_loadN rfl rfl many_31 rfl allAt) (.none rfl) rfl rfl ?_
  refine WL.call rfl rfl ck_24 (.none rfl) rfl rfl ?_
  intro w hS
  refine Calls.then ((HCheck_c w H hH (hG.keep (fun h => h) hS)).mono fun _ _ h => ⟨by rw [h.1, if_pos hok], h.2⟩) hS ?_
  refine WL.val ((v_neq rfl rfl rfl).f (fun h => h rfl)) (.none rfl) rfl rfl ?_
  refine WL.nil ?_
  refine WE.then_n ?_
  refine WC.cond_f rfl ?_
  refine WC.skip ?_
  refine WE.then_n ?_
  refine WC.seq ?_
  refine WC.region ?_
  refine WL.val (v_move rfl rfl) (.none rfl) rfl rfl ?_
  refine WL.val (v_move rfl rfl) (.none rfl) rfl rfl ?_
  refine WL.val (v_build rfl rfl zero_45 plc_45 rfl) (.none rfl) rfl rfl ?_
  refine WL.alloc rfl zero_45 (.none rfl) rfl rfl ?_
  intro g11 hg11
  refine WL.storeW rfl rfl rfl rfl many_45 rfl rfl (.none rfl) rfl ?_
  refine WL.nil ?_
  refine WE.then_n ?_
  refine WC.seq ?_
  refine WC.region ?_
  refine WL.val (v_move rfl rfl) (.none rfl) rfl rfl ?_
  refine WL.val (v_move rfl rfl) (.none rfl) rfl rfl ?_
  refine WL.val (v_build rfl rfl zero_45 plc_45 rfl) (.none rfl) rfl rfl ?_
  refine WL.alloc rfl zero_45 (.none rfl) rfl rfl ?_
  intro g12 hg12
  refine WL.storeW rfl rfl rfl rfl many_45 rfl rfl (.none rfl) rfl ?_
  refine WL.nil ?_
  refine WE.then_n ?_
  refine WC.cut (fun x : List Hd × Option Addr × Nat × List Ent × Int => [(13, .slice x.2.1 x.1.length x.2.2.1), (14, .int .i64 x.2.2.2.2), (5, .pointer (some ⟨g5, 0, none⟩)), (1, .int .i64 f), (2, .int .u64 a), (3, .int .u64 b), (4, .int .i64 port)]) (fun x => x.2.2.2.1 ++ [.row g12 (ndL (setN f b)), .row g11 (ndL (setN f a)), .row g5 (hdL H)]) (fun x => Vec 19 x.2.1 x.1.length x.2.2.1 (hdsL x.1) x.2.2.2.1 ∧ ∃ g, RunIs (set2 g 2 f a b) H x.1 x.2.2.2.2) ?_ ?_
  · -- cutr7
    refine WC.orders mixed ?_
    refine WR.each (g := 10) [0, 1, 4] (by kernel_rfl) (by decide) ?_
    refine ⟨?_, ⟨?_, ?_⟩⟩
    · -- next 0
      refine WL.val (v_loadN rfl rfl many_45 rfl allAt) (.none rfl) rfl rfl ?_
      refine WL.nilR ?_
      refine WR.each (g := 9) [1, 4] (by kernel_rfl) (by decide) ?_
      refine ⟨?_, ?_⟩
      · -- next 1
        refine WL.val (v_loadN rfl rfl many_45 rfl allAt) (.none rfl) rfl rfl ?_
        refine WL.nilR ?_
        refine WR.each (g := 8) [2, 4] (by kernel_rfl) (by decide) ?_
        refine ⟨?_, ?_⟩
        · -- next 2
          refine WL.buildSlice rfl rfl Tryd.underlying43 sz_45 zero_45 rfl (by decide) rfl (.none rfl) rfl rfl ?_
          intro g35 hg35
          refine WL.as (L' := .row g35 (ndL (setN f a) ++ ndL (setN f b)) :: [.row g12 (ndL (setN f b)), .row g11 (ndL (setN f a)), .row g5 (hdL H)]) rfl ?_
          refine WL.nilR ?_
          refine WR.read (g := 6) [3, 4] (by kernel_rfl) (by kernel_rfl) (by kernel_rfl) (by kernel_rfl) rfl ?_
          refine WQ.call _ rfl rfl ck_29 (.none rfl) rfl rfl (fun w hS => Calls.still (LSeq_c w (some ⟨g35, 0, none⟩) 2 [setN f a, setN f b]) hS) ?_
          refine WQ.val (v_loadN rfl rfl many_31 rfl allAt) (.none rfl) rfl rfl ?_
          refine WQ.nilR ?_
          refine WR.ones (g := 5) [5] (by kernel_rfl) ?_
          refine WL.call rfl rfl ck_21 (.none rfl) rfl rfl ?_
          intro w1 hS
          refine (Run_c (fun _ => False) (fun _ h => h) w0 hG (.row g35 (ndL (setN f a) ++ ndL (setN f b)) :: [.row g12 (ndL (setN f b)), .row g11 (ndL (setN f a)), .row g5 (hdL H)]) w1 (set2 g35 2 f a b) H (set2_in hf ha hb) (fun w' hS' => Nd.At_two (allAt (g := g35) w' hS') Nd.At_leaf Nd.At_leaf) hH hS).mono ?_
          rintro e w' ⟨Rs, ad, c, E, er, rfl, hV, hS', hr⟩
          refine ⟨_, _, rfl, hS', ?_⟩
          refine WL.nilR ?_
          refine WR.first (g := 0) [6, 7, 8, 9, 10] (by kernel_rfl) (by kernel_rfl) ?_
          refine WP.val (v_move rfl rfl) (.none rfl) rfl rfl ?_
          refine WP.val (v_extract rfl rfl rfl) (.none rfl) rfl rfl ?_
          refine WP.val (v_extract rfl rfl rfl) (.none rfl) rfl rfl ?_
          refine WP.val (v_assign rfl rfl) (.none rfl) rfl rfl ?_
          refine WP.val (v_assign rfl rfl) (.none rfl) rfl rfl ?_
          refine WP.nil ?_
          refine WR.done (by kernel_rfl) ?_
          exact WE.mid (Rs, ad, c, E, er) ⟨hV, g35, hr⟩ (.cons rfl (.cons rfl (.cons rfl (.cons rfl (.cons rfl (.cons rfl (.cons rfl .nil))))))) (List.Sublist.append_left (.cons _ (.refl _)) _)
        · -- next 4
          refine WL.val (v_loadN rfl rfl many_31 rfl allAt) (.none rfl) rfl rfl ?_
          refine WL.nilR ?_
          refine WR.ones (g := 7) [2] (by kernel_rfl) ?_
          refine WL.buildSlice rfl rfl Tryd.underlying43 sz_45 zero_45 rfl (by decide) rfl (.none rfl) rfl rfl ?_
          intro g35 hg35
          refine WL.as (L' := .row g35 (ndL (setN f a) ++ ndL (setN f b)) :: [.row g12 (ndL (setN f b)), .row g11 (ndL (setN f a)), .row g5 (hdL H)]) rfl ?_
          refine WL.nilR ?_
          refine WR.read (g := 6) [3] (by kernel_rfl) (by kernel_rfl) (by kernel_rfl) (by kernel_rfl) rfl ?_
          refine WQ.call _ rfl rfl ck_29 (.none rfl) rfl rfl (fun w hS => Calls.still (LSeq_c w (some ⟨g35, 0, none⟩) 2 [setN f a, setN f b]) hS) ?_
          refine WQ.nilR ?_
          refine WR.ones (g := 5) [5] (by kernel_rfl) ?_
          refine WL.call rfl rfl ck_21 (.none rfl) rfl rfl ?_
          intro w1 hS
          refine (Run_c (fun _ => False) (fun _ h => h) w0 hG (.row g35 (ndL (setN f a) ++ ndL (setN f b)) :: [.row g12 (ndL (setN f b)), .row g11 (ndL (setN f a)), .row g5 (hdL H)]) w1 (set2 g35 2 f a b) H (set2_in hf ha hb) (fun w' hS' => Nd.At_two (allAt (g := g35) w' hS') Nd.At_leaf Nd.At_leaf) hH hS).mono ?_
          rintro e w' ⟨Rs, ad, c, E, er, rfl, hV, hS', hr⟩
          refine ⟨_, _, rfl, hS', ?_⟩
          refine WL.nilR ?_
          refine WR.first (g := 0) [6, 7, 8, 9, 10] (by kernel_rfl) (by kernel_rfl) ?_
          refine WP.val (v_move rfl rfl) (.none rfl) rfl rfl ?_
          refine WP.val (v_extract rfl rfl rfl) (.none rfl) rfl rfl ?_
          refine WP.val (v_extract rfl rfl rfl) (.none rfl) rfl rfl ?_
          refine WP.val (v_assign rfl rfl) (.none rfl) rfl rfl ?_
          refine WP.val (v_assign rfl rfl) (.none rfl) rfl rfl ?_
          refine WP.nil ?_
          refine WR.done (by kernel_rfl) ?_
          exact WE.mid (Rs, ad, c, E, er) ⟨hV, g35, hr⟩ (.cons rfl (.cons rfl (.cons rfl (.cons rfl (.cons rfl (.cons rfl (.cons rfl .nil))))))) (List.Sublist.append_left (.cons _ (.refl _)) _)
      · -- next 4
        refine WL.val (v_loadN rfl rfl many_31 rfl allAt) (.none rfl) rfl rfl ?_
        refine WL.nilR ?_
        refine WR.read (g := 8) [1] (by kernel_rfl) (by kernel_rfl) (by kernel_rfl) (by kernel_rfl) rfl ?_
        refine WQ.val (v_loadN rfl rfl many_45 rfl allAt) (.none rfl) rfl rfl ?_
        refine WQ.nilR ?_
        refine WR.ones (g := 7) [2] (by kernel_rfl) ?_
        refine WL.buildSlice rfl rfl Tryd.underlying43 sz_45 zero_45 rfl (by decide) rfl (.none rfl) rfl rfl ?_
        intro g35 hg35
        refine WL.as (L' := .row g35 (ndL (setN f a) ++ ndL (setN f b)) :: [.row g12 (ndL (setN f b)), .row g11 (ndL (setN f a)), .row g5 (hdL H)]) rfl ?_
        refine WL.nilR ?_
        refine WR.read (g := 6) [3] (by kernel_rfl) (by kernel_rfl) (by kernel_rfl) (by kernel_rfl) rfl ?_
        refine WQ.call _ rfl rfl ck_29 (.none rfl) rfl rfl (fun w hS => Calls.still (LSeq_c w (some ⟨g35, 0, none⟩) 2 [setN f a, setN f b]) hS) ?_
        refine WQ.nilR ?_
        refine WR.ones (g := 5) [5] (by kernel_rfl) ?_
        refine WL.call rfl rfl ck_21 (.none rfl) rfl rfl ?_
        intro w1 hS
        refine (Run_c (fun _ => False) (fun _ h => h) w0 hG (.row g35 (ndL (setN f a) ++ ndL (setN f b)) :: [.row g12 (ndL (setN f b)), .row g11 (ndL (setN f a)), .row g5 (hdL H)]) w1 (set2 g35 2 f a b) H (set2_in hf ha hb) (fun w' hS' => Nd.At_two (allAt (g := g35) w' hS') Nd.At_leaf Nd.At_leaf) hH hS).mono ?_
        rintro e w' ⟨Rs, ad, c, E, er, rfl, hV, hS', hr⟩
        refine ⟨_, _, rfl, hS', ?_⟩
        refine WL.nilR ?_
        refine WR.first (g := 0) [6, 7, 8, 9, 10] (by kernel_rfl) (by kernel_rfl) ?_
        refine WP.val (v_move rfl rfl) (.none rfl) rfl rfl ?_
        refine WP.val (v_extract rfl rfl rfl) (.none rfl) rfl rfl ?_
        refine WP.val (v_extract rfl rfl rfl) (.none rfl) rfl rfl ?_
        refine WP.val (v_assign rfl rfl) (.none rfl) rfl rfl ?_
        refine WP.val (v_assign rfl rfl) (.none rfl) rfl rfl ?_
        refine WP.nil ?_
        refine WR.done (by kernel_rfl) ?_
        exact WE.mid (Rs, ad, c, E, er) ⟨hV, g35, hr⟩ (.cons rfl (.cons rfl (.cons rfl (.cons rfl (.cons rfl (.cons rfl (.cons rfl .nil))))))) (List.Sublist.append_left (.cons _ (.refl _)) _)
    · -- next 1
      refine WL.val (v_loadN rfl rfl many_45 rfl allAt) (.none rfl) rfl rfl ?_
      refine WL.nilR ?_
      refine WR.each (g := 9) [0, 4] (by kernel_rfl) (by decide) ?_
      refine ⟨?_, ?_⟩
      · -- next 0
        refine WL.val (v_loadN rfl rfl many_45 rfl allAt) (.none rfl) rfl rfl ?_
        refine WL.nilR ?_
        refine WR.each (g := 8) [2, 4] (by kernel_rfl) (by decide) ?_
        refine ⟨?_, ?_⟩
        · -- next 2
          refine WL.buildSlice rfl rfl Tryd.underlying43 sz_45 zero_45 rfl (by decide) rfl (.none rfl) rfl rfl ?_
          intro g35 hg35
          refine WL.as (L' := .row g35 (ndL (setN f a) ++ ndL (setN f b)) :: [.row g12 (ndL (setN f b)), .row g11 (ndL (setN f a)), .row g5 (hdL H)]) rfl ?_
          refine WL.nilR ?_
          refine WR.read (g := 6) [3, 4] (by kernel_rfl) (by kernel_rfl) (by kernel_rfl) (by kernel_rfl) rfl ?_
          refine WQ.call _ rfl rfl ck_29 (.none rfl) rfl rfl (fun w hS => Calls.still (LSeq_c w (some ⟨g35, 0, none⟩) 2 [setN f a, setN f b]) hS) ?_
          refine WQ.val (v_loadN rfl rfl many_31 rfl allAt) (.none rfl) rfl rfl ?_
          refine WQ.nilR ?_
          refine WR.ones (g := 5) [5] (by kernel_rfl) ?_
          refine WL.call rfl rfl ck_21 (.none rfl) rfl rfl ?_
          intro w1 hS
          refine (Run_c (fun _ => False) (fun _ h => h) w0 hG (.row g35 (ndL (setN f a) ++ ndL (setN f b)) :: [.row g12 (ndL (setN f b)), .row g11 (ndL (setN f a)), .row g5 (hdL H)]) w1 (set2 g35 2 f a b) H (set2_in hf ha hb) (fun w' hS' => Nd.At_two (allAt (g := g35) w' hS') Nd.At_leaf Nd.At_leaf) hH hS).mono ?_
          rintro e w' ⟨Rs, ad, c, E, er, rfl, hV, hS', hr⟩
          refine ⟨_, _, rfl, hS', ?_⟩
          refine WL.nilR ?_
          refine WR.first (g := 0) [6, 7, 8, 9, 10] (by kernel_rfl) (by kernel_rfl) ?_
          refine WP.val (v_move rfl rfl) (.none rfl) rfl rfl ?_
          refine WP.val (v_extract rfl rfl rfl) (.none rfl) rfl rfl ?_
          refine WP.val (v_extract rfl rfl rfl) (.none rfl) rfl rfl ?_
          refine WP.val (v_assign rfl rfl) (.none rfl) rfl rfl ?_
          refine WP.val (v_assign rfl rfl) (.none rfl) rfl rfl ?_
          refine WP.nil ?_
          refine WR.done (by kernel_rfl) ?_
          exact WE.mid (Rs, ad, c, E, er) ⟨hV, g35, hr⟩ (.cons rfl (.cons rfl (.cons rfl (.cons rfl (.cons rfl (.cons rfl (.cons rfl .nil))))))) (List.Sublist.append_left (.cons _ (.refl _)) _)
        · -- next 4
          refine WL.val (v_loadN rfl rfl many_31 rfl allAt) (.none rfl) rfl rfl ?_
          refine WL.nilR ?_
          refine WR.ones (g := 7) [2] (by kernel_rfl) ?_
          refine WL.buildSlice rfl rfl Tryd.underlying43 sz_45 zero_45 rfl (by decide) rfl (.none rfl) rfl rfl ?_
          intro g35 hg35
          refine WL.as (L' := .row g35 (ndL (setN f a) ++ ndL (setN f b)) :: [.row g12 (ndL (setN f b)), .row g11 (ndL (setN f a)), .row g5 (hdL H)]) rfl ?_
          refine WL.nilR ?_
          refine WR.read (g := 6) [3] (by kernel_rfl) (by kernel_rfl) (by kernel_rfl) (by kernel_rfl) rfl ?_
          refine WQ.call _ rfl rfl ck_29 (.none rfl) rfl rfl (fun w hS => Calls.still (LSeq_c w (some ⟨g35, 0, none⟩) 2 [setN f a, setN f b]) hS) ?_
          refine WQ.nilR ?_
          refine WR.ones (g := 5) [5] (by kernel_rfl) ?_
          refine WL.call rfl rfl ck_21 (.none rfl) rfl rfl ?_
          intro w1 hS
          refine (Run_c (fun _ => False) (fun _ h => h) w0 hG (.row g35 (ndL (setN f a) ++ ndL (setN f b)) :: [.row g12 (ndL (setN f b)), .row g11 (ndL (setN f a)), .row g5 (hdL H)]) w1 (set2 g35 2 f a b) H (set2_in hf ha hb) (fun w' hS' => Nd.At_two (allAt (g := g35) w' hS') Nd.At_leaf Nd.At_leaf) hH hS).mono ?_
          rintro e w' ⟨Rs, ad, c, E, er, rfl, hV, hS', hr⟩
          refine ⟨_, _, rfl, hS', ?_⟩
          refine WL.nilR ?_
          refine WR.first (g := 0) [6, 7, 8, 9, 10] (by kernel_rfl) (by kernel_rfl) ?_
          refine WP.val (v_move rfl rfl) (.none rfl) rfl rfl ?_
          refine WP.val (v_extract rfl rfl rfl) (.none rfl) rfl rfl ?_
          refine WP.val (v_extract rfl rfl rfl) (.none rfl) rfl rfl ?_
          refine WP.val (v_assign rfl rfl) (.none rfl) rfl rfl ?_
          refine WP.val (v_assign rfl rfl) (.none rfl) rfl rfl ?_
          refine WP.nil ?_
          refine WR.done (by kernel_rfl) ?_
          exact WE.mid (Rs, ad, c, E, er) ⟨hV, g35, hr⟩ (.cons rfl (.cons rfl (.cons rfl (.cons rfl (.cons rfl (.cons rfl (.cons rfl .nil))))))) (List.Sublist.append_left (.cons _ (.refl _)) _)
      · -- next 4
        refine WL.val (v_loadN rfl rfl many_31 rfl allAt) (.none rfl) rfl rfl ?_
        refine WL.nilR ?_
        refine WR.read (g := 8) [0] (by kernel_rfl) (by kernel_rfl) (by kernel_rfl) (by kernel_rfl) rfl ?_
        refine WQ.val (v_loadN rfl rfl many_45 rfl allAt) (.none rfl) rfl rfl ?_
        refine WQ.nilR ?_
        refine WR.ones (g := 7) [2] (by kernel_rfl) ?_
        refine WL.buildSlice rfl rfl Tryd.underlying43 sz_45 zero_45 rfl (by decide) rfl (.none rfl) rfl rfl ?_
        intro g35 hg35
        refine WL.as (L' := .row g35 (ndL (setN f a) ++ ndL (setN f b)) :: [.row g12 (ndL (setN f b)), .row g11 (ndL (setN f a)), .row g5 (hdL H)]) rfl ?_
        refine WL.nilR ?_
        refine WR.read (g := 6) [3] (by kernel_rfl) (by kernel_rfl) (by kernel_rfl) (by kernel_rfl) rfl ?_
        refine WQ.call _ rfl rfl ck_29 (.none rfl) rfl rfl (fun w hS => Calls.still (LSeq_c w (some ⟨g35, 0, none⟩) 2 [setN f a, setN f b]) hS) ?_
        refine WQ.nilR ?_
        refine WR.ones (g := 5) [5] (by kernel_rfl) ?_
        refine WL.call rfl rfl ck_21 (.none rfl) rfl rfl ?_
        intro w1 hS
        refine (Run_c (fun _ => False) (fun _ h => h) w0 hG (.row g35 (ndL (setN f a) ++ ndL (setN f b)) :: [.row g12 (ndL (setN f b)), .row g11 (ndL (setN f a)), .row g5 (hdL H)]) w1 (set2 g35 2 f a b) H (set2_in hf ha hb) (fun w' hS' => Nd.At_two (allAt (g := g35) w' hS') Nd.At_leaf Nd.At_leaf) hH hS).mono ?_
        rintro e w' ⟨Rs, ad, c, E, er, rfl, hV, hS', hr⟩
        refine ⟨_, _, rfl, hS', ?_⟩
        refine WL.nilR ?_
        refine WR.first (g := 0) [6, 7, 8, 9, 10] (by kernel_rfl) (by kernel_rfl) ?_
        refine WP.val (v_move rfl rfl) (.none rfl) rfl rfl ?_
        refine WP.val (v_extract rfl rfl rfl) (.none rfl) rfl rfl ?_
        refine WP.val (v_extract rfl rfl rfl) (.none rfl) rfl rfl ?_
        refine WP.val (v_assign rfl rfl) (.none rfl) rfl rfl ?_
        refine WP.val (v_assign rfl rfl) (.none rfl) rfl rfl ?_
        refine WP.nil ?_
        refine WR.done (by kernel_rfl) ?_
        exact WE.mid (Rs, ad, c, E, er) ⟨hV, g35, hr⟩ (.cons rfl (.cons rfl (.cons rfl (.cons rfl (.cons rfl (.cons rfl (.cons rfl .nil))))))) (List.Sublist.append_left (.cons _ (.refl _)) _)
    · -- next 4
      refine WL.val (v_loadN rfl rfl many_31 rfl allAt) (.none rfl) rfl rfl ?_
      refine WL.nilR ?_
      refine WR.read (g := 8) [0, 1] (by kernel_rfl) (by kernel_rfl) (by kernel_rfl) (by kernel_rfl) rfl ?_
      refine WQ.val (v_loadN rfl rfl many_45 rfl allAt) (.none rfl) rfl rfl ?_
      refine WQ.val (v_loadN rfl rfl many_45 rfl allAt) (.none rfl) rfl rfl ?_
      refine WQ.nilR ?_
      refine WR.ones (g := 7) [2] (by kernel_rfl) ?_
      refine WL.buildSlice rfl rfl Tryd.underlying43 sz_45 zero_45 rfl (by decide) rfl (.none rfl) rfl rfl ?_
      intro g35 hg35
      refine WL.as (L' := .row g35 (ndL (setN f a) ++ ndL (setN f b)) :: [.row g12 (ndL (setN f b)), .row g11 (ndL (setN f a)), .row g5 (hdL H)]) rfl ?_
      refine WL.nilR ?_
      refine WR.read (g := 6) [3] (by kernel_rfl) (by kernel_rfl) (by kernel_rfl) (by kernel_rfl) rfl ?_
      refine WQ.call _ rfl rfl ck_29 (.none rfl) rfl rfl (fun w hS => Calls.still (LSeq_c w (some ⟨g35, 0, none⟩) 2 [setN f a, setN f b]) hS) ?_
      refine WQ.nilR ?_
      refine WR.ones (g := 5) [5] (by kernel_rfl) ?_
      refine WL.call rfl rfl ck_21 (.none rfl) rfl rfl ?_
      intro w1 hS
      refine (Run_c (fun _ => False) (fun _ h => h) w0 hG (.row g35 (ndL (setN f a) ++ ndL (setN f b)) :: [.row g12 (ndL (setN f b)), .row g11 (ndL (setN f a)), .row g5 (hdL H)]) w1 (set2 g35 2 f a b) H (set2_in hf ha hb) (fun w' hS' => Nd.At_two (allAt (g := g35) w' hS') Nd.At_leaf Nd.At_leaf) hH hS).mono ?_
      rintro e w' ⟨Rs, ad, c, E, er, rfl, hV, hS', hr⟩
      refine ⟨_, _, rfl, hS', ?_⟩
      refine WL.nilR ?_
      refine WR.first (g := 0) [6, 7, 8, 9, 10] (by kernel_rfl) (by kernel_rfl) ?_
      refine WP.val (v_move rfl rfl) (.none rfl) rfl rfl ?_
      refine WP.val (v_extract rfl rfl rfl) (.none rfl) rfl rfl ?_
      refine WP.val (v_extract rfl rfl rfl) (.none rfl) rfl rfl ?_
      refine WP.val (v_assign rfl rfl) (.none rfl) rfl rfl ?_
      refine WP.val (v_assign rfl rfl) (.none rfl) rfl rfl ?_
      refine WP.nil ?_
      refine WR.done (by kernel_rfl) ?_
      exact WE.mid (Rs, ad, c, E, er) ⟨hV, g35, hr⟩ (.cons rfl (.cons rfl (.cons rfl (.cons rfl (.cons rfl (.cons rfl (.cons rfl .nil))))))) (List.Sublist.append_left (.cons _ (.refl _)) _)
  · -- behind cutr7
    rintro ⟨Rs, ad, c, E, er⟩ ⟨hV, g, hr⟩
    dsimp only at hV hr
    dsimp only
    refine WC.cut (fun _ : Unit => [(15, .bool true), (13, .slice ad Rs.length c), (14, .int .i64 er), (5, .pointer (some ⟨g5, 0, none⟩)), (1, .int .i64 f), (3, .int .u64 b), (4, .int .i64 port)]) (fun _ => E ++ [.row g12 (ndL (setN f b)), .row g11 (ndL (setN f a)), .row g5 (hdL H)]) (fun _ => True) ?_ ?_
    · -- cutr8
      refine WC.region ?_
      refine WL.val (v_move rfl rfl) (.none rfl) rfl rfl ?_
      refine WL.val ((v_geq rfl rfl rfl).t (hset.1.1)) (.none rfl) rfl rfl ?_
      refine WL.val (v_move rfl rfl) (.none rfl) rfl rfl ?_
      refine WL.val (v_move rfl rfl) (.some rfl rfl rfl) rfl rfl ?_
      refine WL.val ((v_lss rfl rfl rfl).t (hset.1.2)) (.some rfl rfl rfl) rfl rfl ?_
      refine WL.val (v_pick_t rfl rfl rfl) (.none rfl) rfl rfl ?_
      refine WL.val (v_move rfl rfl) (.none rfl) rfl rfl ?_
      refine WL.val (v_move rfl rfl) (.some rfl rfl rfl) rfl rfl ?_
      refine WL.val ((v_neq rfl rfl rfl).t (hset.2.1)) (.some rfl rfl rfl) rfl rfl ?_
      refine WL.val (v_pick_t rfl rfl rfl) (.none rfl) rfl rfl ?_
      refine WL.val (v_move rfl rfl) (.none rfl) rfl rfl ?_
      refine WL.val (v_move rfl rfl) (.some rfl rfl rfl) rfl rfl ?_
      refine WL.val ((v_neq rfl rfl rfl).t (hset.2.2.1)) (.some rfl rfl rfl) rfl rfl ?_
      refine WL.val (v_pick_t rfl rfl rfl) (.none rfl) rfl rfl ?_
      refine WL.val (v_move rfl rfl) (.none rfl) rfl rfl ?_
      refine WL.val (v_move rfl rfl) (.some rfl rfl rfl) rfl rfl ?_
      refine WL.val (v_move rfl rfl) (.some rfl rfl rfl) rfl rfl ?_
      refine WL.call rfl rfl ck_30 (.some rfl rfl rfl) rfl rfl ?_
      intro w hS
      refine Calls.then (full w (hG.keep (fun h => h) hS) hset.1) hS ?_
      refine WL.val ((v_leq rfl rfl rfl).t (hset.2.2.2.1)) (.some rfl rfl rfl) rfl rfl ?_
      refine WL.val (v_pick_t rfl rfl rfl) (.none rfl) rfl rfl ?_
      refine WL.val (v_move rfl rfl) (.none rfl) rfl rfl ?_
      refine WL.val (v_move rfl rfl) (.some rfl rfl rfl) rfl rfl ?_
      refine WL.val (v_move rfl rfl) (.some rfl rfl rfl) rfl rfl ?_
      refine WL.call rfl rfl ck_30 (.some rfl rfl rfl) rfl rfl ?_
      intro w hS
      refine Calls.then (full w (hG.keep (fun h => h) hS) hset.1) hS ?_
      refine WL.val ((v_leq rfl rfl rfl).t (hset.2.2.2.2)) (.some rfl rfl rfl) rfl rfl ?_
      refine WL.val (v_pick_t rfl rfl rfl) (.none rfl) rfl rfl ?_
      refine WL.val (v_assign rfl rfl) (.none rfl) rfl rfl ?_
      refine WL.nil ?_
      exact WE.mid () trivial (.cons rfl (.cons rfl (.cons rfl (.cons rfl (.cons rfl (.cons rfl (.cons rfl .nil))))))) (.refl _)
    · -- behind cutr8
      intro _ _
      obtain ⟨rfl, rfl⟩ := set2_ok hr hset hok
      obtain ⟨ga, ea⟩ := hV.adr (by show 0 < 1; omega)
      obtain ⟨q, eq, hq9, eq2⟩ := hset.1.nat
      have hbf := hset.2.2.2.2
      rw [eq2] at hbf
      refine WC.seq ?_
      refine WC.seq ?_
      refine WC.region ?_
      refine WL.val (v_move rfl rfl) (.none rfl) rfl rfl ?_
      refine WL.val (v_move rfl rfl) (.none rfl) rfl rfl ?_
      refine WL.val ((v_eql rfl rfl rfl).t (rfl)) (.none rfl) rfl rfl ?_
      refine WL.val ((v_neq_bool rfl rfl rfl Tryd.underlying4).f (fun h => h rfl)) (.none rfl) rfl rfl ?_
      refine WL.nil ?_
      refine WE.then_n ?_
      refine WC.cond_f rfl ?_
      refine WC.skip ?_
      refine WE.then_n ?_
      refine WC.seq ?_
      refine WC.seq ?_
      refine WC.region ?_
      refine WL.val (v_move rfl rfl) (.none rfl) rfl rfl ?_
      skip
      refine WL.nil ?_
      refine WE.then_n ?_
      refine WC.cond_t rfl ?_
      refine WC.seq ?_
      refine WC.region ?_
      refine WL.val (v_loadN rfl rfl many_31 rfl allAt) (.none rfl) rfl rfl ?_
      refine WL.val (v_move rfl rfl) (.none rfl) rfl rfl ?_
      refine WL.val (v_move rfl rfl) (.none rfl) rfl rfl ?_
      refine WL.call rfl rfl ck_31 (.none rfl) rfl rfl ?_
      intro w hS
      refine Calls.then (by rw [eq]; exact With_c w H q hq9 b hb.1 hbf (hG.keep (fun h => h) hS)) hS ?_
      refine WL.val (v_move rfl rfl) (.none rfl) rfl rfl ?_
      refine WL.val (v_extract rfl rfl rfl) (.none rfl) rfl rfl ?_
      refine WL.val (v_extract rfl rfl rfl) (.none rfl) rfl rfl ?_
      refine WL.alloc rfl zero_31 (.none rfl) rfl rfl ?_
      intro g16 hg16
      refine WL.storeW rfl rfl rfl rfl many_31 rfl rfl (.none rfl) rfl ?_
      refine WL.val (v_assign rfl rfl) (.none rfl) rfl rfl ?_
      refine WL.nil ?_
      refine WE.then_n ?_
      refine WC.seq ?_
      refine WC.quiet mixed (by kernel_rfl) ?_
      refine WQ.val (v_move rfl rfl) (.none rfl) rfl rfl ?_
      refine WQ.val (v_len_slice rfl rfl Tryd.underlying47) (.none rfl) rfl rfl ?_
      refine WQ.val ((v_neq rfl rfl rfl).f (fun h => h rfl)) (.none rfl) rfl rfl ?_
      refine WQ.val (v_move rfl rfl) (.none rfl) rfl rfl ?_
      refine WQ.val (v_move rfl rfl) (.some rfl rfl rfl) rfl rfl ?_
      refine WQ.val (v_indexAddr (b := ga) (off := 0) (lo := 0) rfl (by show some (Value.slice ad _ _) = _; rw [ea]) rfl Tryd.underlying47 sz_31 rfl (by show 0 < 1; omega)) (.some rfl rfl rfl) rfl rfl ?_
      refine WQ.val (v_loadN (cs := hdL (wthF f.toNat b (wthF f.toNat a H))) rfl rfl many_31 rfl (fun w' hS' => HdsAt.at (i := 0) (by rw [← ea]; exact hV.hds hS' (fun e he => List.mem_cons_of_mem _ (List.mem_append_left _ he))) rfl)) (.some rfl rfl rfl) rfl rfl ?_
      refine WQ.val (v_loadN rfl rfl many_31 rfl allAt) (.some rfl rfl rfl) rfl rfl ?_
      refine WQ.val (v_neq_aggF rfl rfl rfl eqk_31 eqg_31 rfl rfl (by rw [wthF_twice, eq2])) (.some rfl rfl rfl) rfl rfl ?_
      refine WQ.val (v_pick_f rfl rfl rfl) (.none rfl) rfl rfl ?_
      refine WQ.nil ?_
      refine WE.then_n ?_
      refine WC.cond_f rfl ?_
      refine WC.skip ?_
      refine WE.then_n ?_
      refine WC.seq ?_
      refine WC.orders mixed ?_
      refine WR.first (g := 8) [0] (by kernel_rfl) (by kernel_rfl) ?_
      refine WP.val (v_move rfl rfl) (.none rfl) rfl rfl ?_
      refine WP.nil ?_
      refine WR.read (g := 6) [1, 2] (by kernel_rfl) (by kernel_rfl) (by kernel_rfl) (by kernel_rfl) rfl ?_
      refine WQ.call _ rfl rfl ck_32 (.none rfl) rfl rfl (fun w hS => Calls.still (Fwd_c w port) hS) ?_
      refine WQ.val (v_loadN rfl rfl many_31 rfl allAt) (.none rfl) rfl rfl ?_
      refine WQ.nilR ?_
      refine WR.ones (g := 5) [3] (by kernel_rfl) ?_
      refine WL.call rfl rfl ck_21 (.none rfl) rfl rfl ?_
      intro w1 hS
      refine (Run_c (fun _ => False) (fun _ h => h) w0 hG _ w1 (fwdN (port % 256)) H (fwdN_in (by omega)) (fun w' hS' => Nd.At_leaf) hH hS).mono ?_
      rintro e w' ⟨Rs2, ad2, c2, E2, er2, rfl, hV2, hS', hr2⟩
      obtain ⟨rfl, rfl⟩ := fwd_is hr2 (by omega) hok
      obtain ⟨ga2, ea2⟩ := hV2.adr (by show 0 < 1; omega)
      refine ⟨_, _, rfl, hS', ?_⟩
      refine WL.nilR ?_
      refine WR.first (g := 0) [4, 5, 6, 7, 8] (by kernel_rfl) (by kernel_rfl) ?_
      refine WP.val (v_move rfl rfl) (.none rfl) rfl rfl ?_
      refine WP.val (v_extract rfl rfl rfl) (.none rfl) rfl rfl ?_
      refine WP.val (v_extract rfl rfl rfl) (.none rfl) rfl rfl ?_
      refine WP.val (v_assign rfl rfl) (.none rfl) rfl rfl ?_
      refine WP.val (v_assign rfl rfl) (.none rfl) rfl rfl ?_
      refine WP.nil ?_
      refine WR.done (by kernel_rfl) ?_
      refine WE.then_n ?_
      refine WC.seq ?_
      refine WC.region ?_
      refine WL.val (v_loadN rfl rfl many_31 rfl allAt) (.none rfl) rfl rfl ?_
      refine WL.alloc rfl zero_31 (.none rfl) rfl rfl ?_
      intro g20 hg20
      refine WL.storeW rfl rfl rfl rfl many_31 rfl rfl (.none rfl) rfl ?_
      refine WL.nil ?_
      refine WE.then_n ?_
      refine WC.seq ?_
      refine WC.region ?_
      refine WL.val (v_move rfl rfl) (.none rfl) rfl rfl ?_
      refine WL.val (v_and rfl rfl rfl (mask_i64' (i := 8) (m := 256) (by decide) (by decide) (by decide))) (.none rfl) rfl rfl ?_
      refine WL.val (v_fieldAddr0 rfl rfl fld_31_0) (.none rfl) rfl rfl ?_
      refine WL.store1 rfl rfl rfl rfl one_3 (Nat.le_of_ble_eq_true rfl) (.none rfl) rfl ?_
      refine WL.nil ?_
      refine WE.then_n ?_
      refine WC.seq ?_
      refine WC.quiet mixed (by kernel_rfl) ?_
      refine WQ.val (v_move rfl rfl) (.none rfl) rfl rfl ?_
      refine WQ.val ((v_eql rfl rfl rfl).t (rfl)) (.none rfl) rfl rfl ?_
      refine WQ.val (v_move rfl rfl) (.none rfl) rfl rfl ?_
      refine WQ.val (v_move rfl rfl) (.some rfl rfl rfl) rfl rfl ?_
      refine WQ.val (v_len_slice rfl rfl Tryd.underlying47) (.some rfl rfl rfl) rfl rfl ?_
      refine WQ.val ((v_eql rfl rfl rfl).t (rfl)) (.some rfl rfl rfl) rfl rfl ?_
      refine WQ.val (v_pick_t rfl rfl rfl) (.none rfl) rfl rfl ?_
      refine WQ.val (v_move rfl rfl) (.none rfl) rfl rfl ?_
      refine WQ.val (v_move rfl rfl) (.some rfl rfl rfl) rfl rfl ?_
      refine WQ.val (v_indexAddr (b := ga2) (off := 0) (lo := 0) rfl (by show some (Value.slice ad2 _ _) = _; rw [ea2]) rfl Tryd.underlying47 sz_31 rfl (by show 0 < 1; omega)) (.some rfl rfl rfl) rfl rfl ?_
      refine WQ.val (v_loadN (cs := hdL (wthF 0 (port % 256) H)) rfl rfl many_31 rfl (fun w' hS' => HdsAt.at (i := 0) (by rw [← ea2]; exact hV2.hds hS' (fun e he => List.mem_cons_of_mem _ (List.mem_append_left _ he))) rfl)) (.some rfl rfl rfl) rfl rfl ?_
      refine WQ.val (v_loadN rfl rfl many_31 rfl allAt) (.some rfl rfl rfl) rfl rfl ?_
      refine WQ.val (v_eql_aggT rfl rfl rfl eqk_31 eqg_31 rfl rfl (by rfl)) (.some rfl rfl rfl) rfl rfl ?_
      refine WQ.val (v_pick_t rfl rfl rfl) (.none rfl) rfl rfl ?_
      refine WQ.val (v_assign rfl rfl) (.none rfl) rfl rfl ?_
      refine WQ.nil ?_
      refine WE.then_n ?_
      refine WC.ret ?_
      refine WE.ret1 (P := Tryd.prog) (.inl rfl) Tryd.results6 rfl ?_
      exact fun w' h => ⟨rfl, h.frm⟩
set_option maxHeartbeats 4000000 in
theorem Sets_no (w0 : World) (H : Hd) (f a b port : Int) (hH : H.In) (hf : -9223372036854775808 ≤ f ∧ f ≤ 9223372036854775807) (ha : 0 ≤ a ∧ a ≤ 18446744073709551615) (hb : 0 ≤ b ∧ b ≤ 18446744073709551615) (_hpo : -9223372036854775808 ≤ port ∧ port ≤ 9223372036854775807) (hG : GW w0) (hok : H.okB = true) (hset : ¬ setOk f a b) :
    Calls Tryd.prog 6 #[.agg (hdCells H), .int .i64 f, .int .u64 a, .int .u64 b, .int .i64 port] w0 fun e w' => e = .returned (.bool true) ∧ Frm (fun _ => False) w0 w' := by
  have full : ∀ w, GW w → isFld f → Calls Tryd.prog 30 #[.int .i64 f] w fun e w' => e = .returned (.int .u64 (fullI f.toNat)) ∧ Frm (fun _ => False) w w' := fun w hG h => by
    obtain ⟨k, e, hk, e2⟩ := h.nat
    rw [e2, e]
    exact Full_n w k hk hG
  refine enter Tryd.func6 rfl Tryd.ntmps6 rfl (St.start (fun _ => False) w0) ?_
  refine WC.seq ?_
  refine WC.region ?_
  refine WL.box rfl rfl rfl (.none rfl) rfl rfl ?_
  intro g5 hg5
  refine WL.val (v_assign rfl rfl) (.none rfl) rfl rfl ?_
  refine WL.nil ?_
  refine WE.then_n ?_
  refine WC.seq ?_
  refine WC.seq ?_
  refine WC.region ?_
  refine WL.call rfl rfl ck_19 (.none rfl) rfl rfl ?_
  intro w hS
  refine Calls.then (Ex16_c w (hG.keep (fun h => h) hS)) hS ?_
  refine WL.val (v_not rfl rfl rfl) (.none rfl) rfl rfl ?_
  refine WL.nil ?_
  refine WE.then_n ?_
  refine WC.cond_f rfl ?_
  refine WC.skip ?_
  refine WE.then_n ?_
  refine WC.seq ?_
  refine WC.seq ?_
  refine WC.region ?_
  refine WL.val (v_loadN rfl rfl many_31 rfl allAt) (.none rfl) rfl rfl ?_
  refine WL.call rfl rfl ck_24 (.none rfl) rfl rfl ?_
  intro w hS
  refine Calls.then ((HCheck_c w H hH (hG.keep (fun h => h) hS)).mono fun _ _ h => ⟨by rw [h.1, if_pos hok], h.2⟩) hS ?_
  refine WL.val ((v_neq rfl rfl rfl).f (fun h => h rfl)) (.none rfl) rfl rfl ?_
  refine WL.nil ?_
  refine WE.then_n ?_
  refine WC.cond_f rfl ?_
  refine WC.skip ?_
  refine WE.then_n ?_
  refine WC.seq ?_
  refine WC.region ?_
  refine WL.val (v_move rfl rfl) (.none rfl) rfl rfl ?_
  refine WL.val (v_move rfl rfl) (.none rfl) rfl rfl ?_
  refine WL.val (v_build rfl rfl zero_45 plc_45 rfl) (.none rfl) rfl rfl ?_
  refine WL.alloc rfl zero_45 (.none rfl) rfl rfl ?_
  intro g11 hg11
  refine WL.storeW rfl rfl rfl rfl many_45 rfl rfl (.none rfl) rfl ?_
  refine WL.nil ?_
  refine WE.then_n ?_
  refine WC.seq ?_
  refine WC.region ?_
  refine WL.val (v_move rfl rfl) (.none rfl) rfl rfl ?_
  refine WL.val (v_move rfl rfl) (.none rfl) rfl rfl ?_
  refine WL.val (v_build rfl rfl zero_45 plc_45 rfl) (.none rfl) rfl rfl ?_
  refine WL.alloc rfl zero_45 (.none rfl) rfl rfl ?_
  intro g12 hg12
  refine WL.storeW rfl rfl rfl rfl many_45 rfl rfl (.none rfl) rfl ?_
  refine WL.nil ?_
  refine WE.then_n ?_
  refine WC.cut (fun x : List Hd × Option Addr × Nat × List Ent × Int => [(13, .slice x.2.1 x.1.length x.2.2.1), (14, .int .i64 x.2.2.2.2), (5, .pointer (some ⟨g5, 0, none⟩)), (1, .int .i64 f), (2, .int .u64 a), (3, .int .u64 b), (4, .int .i64 port)]) (fun x => x.2.2.2.1 ++ [.row g12 (ndL (setN f b)), .row g11 (ndL (setN f a)), .row g5 (hdL H)]) (fun x => Vec 19 x.2.1 x.1.length x.2.2.1 (hdsL x.1) x.2.2.2.1 ∧ ∃ g, RunIs (set2 g 2 f a b) H x.1 x.2.2.2.2) ?_ ?_
  · -- cutr7
    refine WC.orders mixed ?_
    refine WR.each (g := 10) [0, 1, 4] (by kernel_rfl) (by decide) ?_
    refine ⟨?_, ⟨?_, ?_⟩⟩
    · -- next 0
      refine WL.val (v_loadN rfl rfl many_45 rfl allAt) (.none rfl) rfl rfl ?_
      refine WL.nilR ?_
      refine WR.each (g := 9) [1, 4] (by kernel_rfl) (by decide) ?_
      refine ⟨?_, ?_⟩
      · -- next 1
        refine WL.val (v_loadN rfl rfl many_45 rfl allAt) (.none rfl) rfl rfl ?_
        refine WL.nilR ?_
        refine WR.each (g := 8) [2, 4] (by kernel_rfl) (by decide) ?_
        refine ⟨?_, ?_⟩
        · -- next 2
          refine WL.buildSlice rfl rfl Tryd.underlying43 sz_45 zero_45 rfl (by decide) rfl (.none rfl) rfl rfl ?_
          intro g35 hg35
          refine WL.as (L' := .row g35 (ndL (setN f a) ++ ndL (setN f b)) :: [.row g12 (ndL (setN f b)), .row g11 (ndL (setN f a)), .row g5 (hdL H)]) rfl ?_
          refine WL.nilR ?_
          refine WR.read (g := 6) [3, 4] (by kernel_rfl) (by kernel_rfl) (by kernel_rfl) (by kernel_rfl) rfl ?_
          refine WQ.call _ rfl rfl ck_29 (.none rfl) rfl rfl (fun w hS => Calls.still (LSeq_c w (some ⟨g35, 0, none⟩) 2 [setN f a, setN f b]) hS) ?_
          refine WQ.val (v_loadN rfl rfl many_31 rfl allAt) (.none rfl) rfl rfl ?_
          refine WQ.nilR ?_
          refine WR.ones (g := 5) [5] (by kernel_rfl) ?_
          refine WL.call rfl rfl ck_21 (.none rfl) rfl rfl ?_
          intro w1 hS
          refine (Run_c (fun _ => False) (fun _ h => h) w0 hG (.row g35 (ndL (setN f a) ++ ndL (setN f b)) :: [.row g12 (ndL (setN f b)), .row g11 (ndL (setN f a)), .row g5 (hdL H)]) w1 (set2 g35 2 f a b) H (set2_in hf ha hb) (fun w' hS' => Nd.At_two (allAt (g := g35) w' hS') Nd.At_leaf Nd.At_leaf) hH hS).mono ?_
          rintro e w' ⟨Rs, ad, c, E, er, rfl, hV, hS', hr⟩
          refine ⟨_, _, rfl, hS', ?_⟩
          refine WL.nilR ?_
          refine WR.first (g := 0) [6, 7, 8, 9, 10] (by kernel_rfl) (by kernel_rfl) ?_
          refine WP.val (v_move rfl rfl) (.none rfl) rfl rfl ?_
          refine WP.val (v_extract rfl rfl rfl) (.none rfl) rfl rfl ?_
          refine WP.val (v_extract rfl rfl rfl) (.none rfl) rfl rfl ?_
          refine WP.val (v_assign rfl rfl) (.none rfl) rfl rfl ?_
          refine WP.val (v_assign rfl rfl) (.none rfl) rfl rfl ?_
          refine WP.nil ?_
          refine WR.done (by kernel_rfl) ?_
          exact WE.mid (Rs, ad, c, E, er) ⟨hV, g35, hr⟩ (.cons rfl (.cons rfl (.cons rfl (.cons rfl (.cons rfl (.cons rfl (.cons rfl .nil))))))) (List.Sublist.append_left (.cons _ (.refl _)) _)
        · -- next 4
          refine WL.val (v_loadN rfl rfl many_31 rfl allAt) (.none rfl) rfl rfl ?_
          refine WL.nilR ?_
          refine WR.ones (g := 7) [2] (by kernel_rfl) ?_
          refine WL.buildSlice rfl rfl Tryd.underlying43 sz_45 zero_45 rfl (by decide) rfl (.none rfl) rfl rfl ?_
          intro g35 hg35
          refine WL.as (L' := .row g35 (ndL (setN f a) ++ ndL (setN f b)) :: [.row g12 (ndL (setN f b)), .row g11 (ndL (setN f a)), .row g5 (hdL H)]) rfl ?_
          refine WL.nilR ?_
          refine WR.read (g := 6) [3] (by kernel_rfl) (by kernel_rfl) (by kernel_rfl) (by kernel_rfl) rfl ?_
          refine WQ.call _ rfl rfl ck_29 (.none rfl) rfl rfl (fun w hS => Calls.still (LSeq_c w (some ⟨g35, 0, none⟩) 2 [setN f a, setN f b]) hS) ?_
          refine WQ.nilR ?_
          refine WR.ones (g := 5) [5] (by kernel_rfl) ?_
          refine WL.call rfl rfl ck_21 (.none rfl) rfl rfl ?_
          intro w1 hS
          refine (Run_c (fun _ => False) (fun _ h => h) w0 hG (.row g35 (ndL (setN f a) ++ ndL (setN f b)) :: [.row g12 (ndL (setN f b)), .row g11 (ndL (setN f a)), .row g5 (hdL H)]) w1 (set2 g35 2 f a b) H (set2_in hf ha hb) (fun w' hS' => Nd.At_two (allAt (g := g35) w' hS') Nd.At_leaf Nd.At_leaf) hH hS).mono ?_
          rintro e w' ⟨Rs, ad, c, E, er, rfl, hV, hS', hr⟩
          refine ⟨_, _, rfl, hS', ?_⟩
          refine WL.nilR ?_
          refine WR.first (g := 0) [6, 7, 8, 9, 10] (by kernel_rfl) (by kernel_rfl) ?_
          refine WP.val (v_move rfl rfl) (.none rfl) rfl rfl ?_
          refine WP.val (v_extract rfl rfl rfl) (.none rfl) rfl rfl ?_
          refine WP.val (v_extract rfl rfl rfl) (.none rfl) rfl rfl ?_
          refine WP.val (v_assign rfl rfl) (.none rfl) rfl rfl ?_
          refine WP.val (v_assign rfl rfl) (.none rfl) rfl rfl ?_
          refine WP.nil ?_
          refine WR.done (by kernel_rfl) ?_
          exact WE.mid (Rs, ad, c, E, er) ⟨hV, g35, hr⟩ (.cons rfl (.cons rfl (.cons rfl (.cons rfl (.cons rfl (.cons rfl (.cons rfl .nil))))))) (List.Sublist.append_left (.cons _ (.refl _)) _)
      · -- next 4
        refine WL.val (v_loadN rfl rfl many_31 rfl allAt) (.none rfl) rfl rfl ?_
        refine WL.nilR ?_
        refine WR.read (g := 8) [1] (by kernel_rfl) (by kernel_rfl) (by kernel_rfl) (by kernel_rfl) rfl ?_
        refine WQ.val (v_loadN rfl rfl many_45 rfl allAt) (.none rfl) rfl rfl ?_
        refine WQ.nilR ?_
        refine WR.ones (g := 7) [2] (by kernel_rfl) ?_
        refine WL.buildSlice rfl rfl Tryd.underlying43 sz_45 zero_45 rfl (by decide) rfl (.none rfl) rfl rfl ?_
        intro g35 hg35
        refine WL.as (L' := .row g35 (ndL (setN f a) ++ ndL (setN f b)) :: [.row g12 (ndL (setN f b)), .row g11 (ndL (setN f a)), .row g5 (hdL H)]) rfl ?_
        refine WL.nilR ?_
        refine WR.read (g := 6) [3] (by kernel_rfl) (by kernel_rfl) (by kernel_rfl) (by kernel_rfl) rfl ?_
        refine WQ.call _ rfl rfl ck_29 (.none rfl) rfl rfl (fun w hS => Calls.still (LSeq_c w (some ⟨g35, 0, none⟩) 2 [setN f a, setN f b]) hS) ?_
        refine WQ.nilR ?_
        refine WR.ones (g := 5) [5] (by kernel_rfl) ?_
        refine WL.call rfl rfl ck_21 (.none rfl) rfl rfl ?_
        intro w1 hS
        refine (Run_c (fun _ => False) (fun _ h => h) w0 hG (.row g35 (ndL (setN f a) ++ ndL (setN f b)) :: [.row g12 (ndL (setN f b)), .row g11 (ndL (setN f a)), .row g5 (hdL H)]) w1 (set2 g35 2 f a b) H (set2_in hf ha hb) (fun w' hS' => Nd.At_two (allAt (g := g35) w' hS') Nd.At_leaf Nd.At_leaf) hH hS).mono ?_
        rintro e w' ⟨Rs, ad, c, E, er, rfl, hV, hS', hr⟩
        refine ⟨_, _, rfl, hS', ?_⟩
        refine WL.nilR ?_
        refine WR.first (g := 0) [6, 7, 8, 9, 10] (by kernel_rfl) (by kernel_rfl) ?_
        refine WP.val (v_move rfl rfl) (.none rfl) rfl rfl ?_
        refine WP.val (v_extract rfl rfl rfl) (.none rfl) rfl rfl ?_
        refine WP.val (v_extract rfl rfl rfl) (.none rfl) rfl rfl ?_
        refine WP.val (v_assign rfl rfl) (.none rfl) rfl rfl ?_
        refine WP.val (v_assign rfl rfl) (.none rfl) rfl rfl ?_
        refine WP.nil ?_
        refine WR.done (by kernel_rfl) ?_
        exact WE.mid (Rs, ad, c, E, er) ⟨hV, g35, hr⟩ (.cons rfl (.cons rfl (.cons rfl (.cons rfl (.cons rfl (.cons rfl (.cons rfl .nil))))))) (List.Sublist.append_left (.cons _ (.refl _)) _)
    · -- next 1
      refine WL.val (v_loadN rfl rfl many_45 rfl allAt) (.none rfl) rfl rfl ?_
      refine WL.nilR ?_
      refine WR.each (g := 9) [0, 4] (by kernel_rfl) (by decide) ?_
      refine ⟨?_, ?_⟩
      · -- next 0
        refine WL.val (v_loadN rfl rfl many_45 rfl allAt) (.none rfl) rfl rfl ?_
        refine WL.nilR ?_
        refine WR.each (g := 8) [2, 4] (by kernel_rfl) (by decide) ?_
        refine ⟨?_, ?_⟩
        · -- next 2
          refine WL.buildSlice rfl rfl Tryd.underlying43 sz_45 zero_45 rfl (by decide) rfl (.none rfl) rfl rfl ?_
          intro g35 hg35
          refine WL.as (L' := .row g35 (ndL (setN f a) ++ ndL (setN f b)) :: [.row g12 (ndL (setN f b)), .row g11 (ndL (setN f a)), .row g5 (hdL H)]) rfl ?_
          refine WL.nilR ?_
          refine WR.read (g := 6) [3, 4] (by kernel_rfl) (by kernel_rfl) (by kernel_rfl) (by kernel_rfl) rfl ?_
          refine WQ.call _ rfl rfl ck_29 (.none rfl) rfl rfl (fun w hS => Calls.still (LSeq_c w (some ⟨g35, 0, none⟩) 2 [setN f a, setN f b]) hS) ?_
          refine WQ.val (v_loadN rfl rfl many_31 rfl allAt) (.none rfl) rfl rfl ?_
          refine WQ.nilR ?_
          refine WR.ones (g := 5) [5] (by kernel_rfl) ?_
          refine WL.call rfl rfl ck_21 (.none rfl) rfl rfl ?_
          intro w1 hS
          refine (Run_c (fun _ => False) (fun _ h => h) w0 hG (.row g35 (ndL (setN f a) ++ ndL (setN f b)) :: [.row g12 (ndL (setN f b)), .row g11 (ndL (setN f a)), .row g5 (hdL H)]) w1 (set2 g35 2 f a b) H (set2_in hf ha hb) (fun w' hS' => Nd.At_two (allAt (g := g35) w' hS') Nd.At_leaf Nd.At_leaf) hH hS).mono ?_
          rintro e w' ⟨Rs, ad, c, E, er, rfl, hV, hS', hr⟩
          refine ⟨_, _, rfl, hS', ?_⟩
          refine WL.nilR ?_
          refine WR.first (g := 0) [6, 7, 8, 9, 10] (by kernel_rfl) (by kernel_rfl) ?_
          refine WP.val (v_move rfl rfl) (.none rfl) rfl rfl ?_
          refine WP.val (v_extract rfl rfl rfl) (.none rfl) rfl rfl ?_
          refine WP.val (v_extract rfl rfl rfl) (.none rfl) rfl rfl ?_
          refine WP.val (v_assign rfl rfl) (.none rfl) rfl rfl ?_
          refine WP.val (v_assign rfl rfl) (.none rfl) rfl rfl ?_
          refine WP.nil ?_
          refine WR.done (by kernel_rfl) ?_
          exact WE.mid (Rs, ad, c, E, er) ⟨hV, g35, hr⟩ (.cons rfl (.cons rfl (.cons rfl (.cons rfl (.cons rfl (.cons rfl (.cons rfl .nil))))))) (List.Sublist.append_left (.cons _ (.refl _)) _)
        · -- next 4
          refine WL.val (v_loadN rfl rfl many_31 rfl allAt) (.none rfl) rfl rfl ?_
          refine WL.nilR ?_
          refine WR.ones (g := 7) [2] (by kernel_rfl) ?_
          refine WL.buildSlice rfl rfl Tryd.underlying43 sz_45 zero_45 rfl (by decide) rfl (.none rfl) rfl rfl ?_
          intro g35 hg35
          refine WL.as (L' := .row g35 (ndL (setN f a) ++ ndL (setN f b)) :: [.row g12 (ndL (setN f b)), .row g11 (ndL (setN f a)), .row g5 (hdL H)]) rfl ?_
          refine WL.nilR ?_
          refine WR.read (g := 6) [3] (by kernel_rfl) (by kernel_rfl) (by kernel_rfl) (by kernel_rfl) rfl ?_
          refine WQ.call _ rfl rfl ck_29 (.none rfl) rfl rfl (fun w hS => Calls.still (LSeq_c w (some ⟨g35, 0, none⟩) 2 [setN f a, setN f b]) hS) ?_
          refine WQ.nilR ?_
          refine WR.ones (g := 5) [5] (by kernel_rfl) ?_
          refine WL.call rfl rfl ck_21 (.none rfl) rfl rfl ?_
          intro w1 hS
          refine (Run_c (fun _ => False) (fun _ h => h) w0 hG (.row g35 (ndL (setN f a) ++ ndL (setN f b)) :: [.row g12 (ndL (setN f b)), .row g11 (ndL (setN f a)), .row g5 (hdL H)]) w1 (set2 g35 2 f a b) H (set2_in hf ha hb) (fun w' hS' => Nd.At_two (allAt (g := g35) w' hS') Nd.At_leaf Nd.At_leaf) hH hS).mono ?_
          rintro e w' ⟨Rs, ad, c, E, er, rfl, hV, hS', hr⟩
          refine ⟨_, _, rfl, hS', ?_⟩
          refine WL.nilR ?_
          refine WR.first (g := 0) [6, 7, 8, 9, 10] (by kernel_rfl) (by kernel_rfl) ?_
          refine WP.val (v_move rfl rfl) (.none rfl) rfl rfl ?_
          refine WP.val (v_extract rfl rfl rfl) (.none rfl) rfl rfl ?_
          refine WP.val (v_extract rfl rfl rfl) (.none rfl) rfl rfl ?_
          refine WP.val (v_assign rfl rfl) (.none rfl) rfl rfl ?_
          refine WP.val (v_assign rfl rfl) (.none rfl) rfl rfl ?_
          refine WP.nil ?_
          refine WR.done (by kernel_rfl) ?_
          exact WE.mid (Rs, ad, c, E, er) ⟨hV, g35, hr⟩ (.cons rfl (.cons rfl (.cons rfl (.cons rfl (.cons rfl (.cons rfl (.cons rfl .nil))))))) (List.Sublist.append_left (.cons _ (.refl _)) _)
      · -- next 4
        refine WL.val (v_loadN rfl rfl many_31 rfl allAt) (.none rfl) rfl rfl ?_
        refine WL.nilR ?_
        refine WR.read (g := 8) [0] (by kernel_rfl) (by kernel_rfl) (by kernel_rfl) (by kernel_rfl) rfl ?_
        refine WQ.val (v_loadN rfl rfl many_45 rfl allAt) (.none rfl) rfl rfl ?_
        refine WQ.nilR ?_
        refine WR.ones (g := 7) [2] (by kernel_rfl) ?_
        refine WL.buildSlice rfl rfl Tryd.underlying43 sz_45 zero_45 rfl (by decide) rfl (.none rfl) rfl rfl ?_
        intro g35 hg35
        refine WL.as (L' := .row g35 (ndL (setN f a) ++ ndL (setN f b)) :: [.row g12 (ndL (setN f b)), .row g11 (ndL (setN f a)), .row g5 (hdL H)]) rfl ?_
        refine WL.nilR ?_
        refine WR.read (g := 6) [3] (by kernel_rfl) (by kernel_rfl) (by kernel_rfl) (by kernel_rfl) rfl ?_
        refine WQ.call _ rfl rfl ck_29 (.none rfl) rfl rfl (fun w hS => Calls.still (LSeq_c w (some ⟨g35, 0, none⟩) 2 [setN f a, setN f b]) hS) ?_
        refine WQ.nilR ?_
        refine WR.ones (g := 5) [5] (by kernel_rfl) ?_
        refine WL.call rfl rfl ck_21 (.none rfl) rfl rfl ?_
        intro w1 hS
        refine (Run_c (fun _ => False) (fun _ h => h) w0 hG (.row g35 (ndL (setN f a) ++ ndL (setN f b)) :: [.row g12 (ndL (setN f b)), .row g11 (ndL (setN f a)), .row g5 (hdL H)]) w1 (set2 g35 2 f a b) H (set2_in hf ha hb) (fun w' hS' => Nd.At_two (allAt (g := g35) w' hS') Nd.At_leaf Nd.At_leaf) hH hS).mono ?_
        rintro e w' ⟨Rs, ad, c, E, er, rfl, hV, hS', hr⟩
        refine ⟨_, _, rfl, hS', ?_⟩
        refine WL.nilR ?_
        refine WR.first (g := 0) [6, 7, 8, 9, 10] (by kernel_rfl) (by kernel_rfl) ?_
        refine WP.val (v_move rfl rfl) (.none rfl) rfl rfl ?_
        refine WP.val (v_extract rfl rfl rfl) (.none rfl) rfl rfl ?_
        refine WP.val (v_extract rfl rfl rfl) (.none rfl) rfl rfl ?_
        refine WP.val (v_assign rfl rfl) (.none rfl) rfl rfl ?_
        refine WP.val (v_assign rfl rfl) (.none rfl) rfl rfl ?_
        refine WP.nil ?_
        refine WR.done (by kernel_rfl) ?_
        exact WE.mid (Rs, ad, c, E, er) ⟨hV, g35, hr⟩ (.cons rfl (.cons rfl (.cons rfl (.cons rfl (.cons rfl (.cons rfl (.cons rfl .nil))))))) (List.Sublist.append_left (.cons _ (.refl _)) _)
    · -- next 4
      refine WL.val (v_loadN rfl rfl many_31 rfl allAt) (.none rfl) rfl rfl ?_
      refine WL.nilR ?_
      refine WR.read (g := 8) [0, 1] (by kernel_rfl) (by kernel_rfl) (by kernel_rfl) (by kernel_rfl) rfl ?_
      refine WQ.val (v_loadN rfl rfl many_45 rfl allAt) (.none rfl) rfl rfl ?_
      refine WQ.val (v_loadN rfl rfl many_45 rfl allAt) (.none rfl) rfl rfl ?_
      refine WQ.nilR ?_
      refine WR.ones (g := 7) [2] (by kernel_rfl) ?_
      refine WL.buildSlice rfl rfl Tryd.underlying43 sz_45 zero_45 rfl (by decide) rfl (.none rfl) rfl rfl ?_
      intro g35 hg35
      refine WL.as (L' := .row g35 (ndL (setN f a) ++ ndL (setN f b)) :: [.row g12 (ndL (setN f b)), .row g11 (ndL (setN f a)), .row g5 (hdL H)]) rfl ?_
      refine WL.nilR ?_
      refine WR.read (g := 6) [3] (by kernel_rfl) (by kernel_rfl) (by kernel_rfl) (by kernel_rfl) rfl ?_
      refine WQ.call _ rfl rfl ck_29 (.none rfl) rfl rfl (fun w hS => Calls.still (LSeq_c w (some ⟨g35, 0, none⟩) 2 [setN f a, setN f b]) hS) ?_
      refine WQ.nilR ?_
      refine WR.ones (g := 5) [5] (by kernel_rfl) ?_
      refine WL.call rfl rfl ck_21 (.none rfl) rfl rfl ?_
      intro w1 hS
      refine (Run_c (fun _ => False) (fun _ h => h) w0 hG (.row g35 (ndL (setN f a) ++ ndL (setN f b)) :: [.row g12 (ndL (setN f b)), .row g11 (ndL (setN f a)), .row g5 (hdL H)]) w1 (set2 g35 2 f a b) H (set2_in hf ha hb) (fun w' hS' => Nd.At_two (allAt (g := g35) w' hS') Nd.At_leaf Nd.At_leaf) hH hS).mono ?_
      rintro e w' ⟨Rs, ad, c, E, er, rfl, hV, hS', hr⟩
      refine ⟨_, _, rfl, hS', ?_⟩
      refine WL.nilR ?_
      refine WR.first (g := 0) [6, 7, 8, 9, 10] (by kernel_rfl) (by kernel_rfl) ?_
      refine WP.val (v_move rfl rfl) (.none rfl) rfl rfl ?_
      refine WP.val (v_extract rfl rfl rfl) (.none rfl) rfl rfl ?_
      refine WP.val (v_extract rfl rfl rfl) (.none rfl) rfl rfl ?_
      refine WP.val (v_assign rfl rfl) (.none rfl) rfl rfl ?_
      refine WP.val (v_assign rfl rfl) (.none rfl) rfl rfl ?_
      refine WP.nil ?_
      refine WR.done (by kernel_rfl) ?_
      exact WE.mid (Rs, ad, c, E, er) ⟨hV, g35, hr⟩ (.cons rfl (.cons rfl (.cons rfl (.cons rfl (.cons rfl (.cons rfl (.cons rfl .nil))))))) (List.Sublist.append_left (.cons _ (.refl _)) _)
  · -- behind cutr7
    rintro ⟨Rs, ad, c, E, er⟩ ⟨hV, g, hr⟩
    dsimp only at hV hr
    dsimp only
    refine WC.cut (fun _ : Unit => [(15, .bool false), (13, .slice ad Rs.length c), (14, .int .i64 er), (5, .pointer (some ⟨g5, 0, none⟩)), (1, .int .i64 f), (3, .int .u64 b), (4, .int .i64 port)]) (fun _ => E ++ [.row g12 (ndL (setN f b)), .row g11 (ndL (setN f a)), .row g5 (hdL H)]) (fun _ => True) ?_ ?_
    · -- cutr8
      refine WC.region ?_
      refine WL.val (v_move rfl rfl) (.none rfl) rfl rfl ?_
      refine WL.test (v_geq rfl rfl rfl) (.none rfl) rfl rfl (fun h42 => ?_) (fun h42 => ?_)
      · -- 42T
        refine WL.val (v_move rfl rfl) (.none rfl) rfl rfl ?_
        refine WL.val (v_move rfl rfl) (.some rfl rfl rfl) rfl rfl ?_
        refine WL.test (v_lss rfl rfl rfl) (.some rfl rfl rfl) rfl rfl (fun h45 => ?_) (fun h45 => ?_)
        · -- 45T
          refine WL.val (v_pick_t rfl rfl rfl) (.none rfl) rfl rfl ?_
          refine WL.val (v_move rfl rfl) (.none rfl) rfl rfl ?_
          refine WL.val (v_move rfl rfl) (.some rfl rfl rfl) rfl rfl ?_
          refine WL.test (v_neq rfl rfl rfl) (.some rfl rfl rfl) rfl rfl (fun h49 => ?_) (fun h49 => ?_)
          · -- 49T
            refine WL.val (v_pick_t rfl rfl rfl) (.none rfl) rfl rfl ?_
            refine WL.val (v_move rfl rfl) (.none rfl) rfl rfl ?_
            refine WL.val (v_move rfl rfl) (.some rfl rfl rfl) rfl rfl ?_
            refine WL.test (v_neq rfl rfl rfl) (.some rfl rfl rfl) rfl rfl (fun h53 => ?_) (fun h53 => ?_)
            · -- 53T
              refine WL.val (v_pick_t rfl rfl rfl) (.none rfl) rfl rfl ?_
              refine WL.val (v_move rfl rfl) (.none rfl) rfl rfl ?_
              refine WL.val (v_move rfl rfl) (.some rfl rfl rfl) rfl rfl ?_
              refine WL.val (v_move rfl rfl) (.some rfl rfl rfl) rfl rfl ?_
              refine WL.call rfl rfl ck_30 (.some rfl rfl rfl) rfl rfl ?_
              intro w hS
              refine Calls.then (full w (hG.keep (fun h => h) hS) ⟨h42, h45⟩) hS ?_
              refine WL.test (v_leq rfl rfl rfl) (.some rfl rfl rfl) rfl rfl (fun h59 => ?_) (fun h59 => ?_)
              · -- 59T
                refine WL.val (v_pick_t rfl rfl rfl) (.none rfl) rfl rfl ?_
                refine WL.val (v_move rfl rfl) (.none rfl) rfl rfl ?_
                refine WL.val (v_move rfl rfl) (.some rfl rfl rfl) rfl rfl ?_
                refine WL.val (v_move rfl rfl) (.some rfl rfl rfl) rfl rfl ?_
                refine WL.call rfl rfl ck_30 (.some rfl rfl rfl) rfl rfl ?_
                intro w hS
                refine Calls.then (full w (hG.keep (fun h => h) hS) ⟨h42, h45⟩) hS ?_
                refine WL.test (v_leq rfl rfl rfl) (.some rfl rfl rfl) rfl rfl (fun h65 => ?_) (fun h65 => ?_)
                · -- 65T
                  refine WL.val (v_pick_t rfl rfl rfl) (.none rfl) rfl rfl ?_
                  refine WL.val (v_assign rfl rfl) (.none rfl) rfl rfl ?_
                  refine WL.nil ?_
                  exact absurd ⟨⟨h42, h45⟩, h49, h53, h59, h65⟩ hset
                · -- 65F
                  refine WL.val (v_pick_t rfl rfl rfl) (.none rfl) rfl rfl ?_
                  refine WL.val (v_assign rfl rfl) (.none rfl) rfl rfl ?_
                  refine WL.nil ?_
                  exact WE.mid () trivial (.cons rfl (.cons rfl (.cons rfl (.cons rfl (.cons rfl (.cons rfl (.cons rfl .nil))))))) (.refl _)
              · -- 59F
                refine WL.val (v_pick_t rfl rfl rfl) (.none rfl) rfl rfl ?_
                refine WL.val (v_move rfl rfl) (.none rfl) rfl rfl ?_
                refine WL.skip rfl rfl rfl rfl rfl rfl ?_
                refine WL.skip rfl rfl rfl rfl rfl rfl ?_
                refine WL.skip rfl rfl rfl rfl rfl rfl ?_
                refine WL.skip rfl rfl rfl rfl rfl rfl ?_
                refine WL.val (v_pick_f rfl rfl rfl) (.none rfl) rfl rfl ?_
                refine WL.val (v_assign rfl rfl) (.none rfl) rfl rfl ?_
                refine WL.nil ?_
                exact WE.mid () trivial (.cons rfl (.cons rfl (.cons rfl (.cons rfl (.cons rfl (.cons rfl (.cons rfl .nil))))))) (.refl _)
            · -- 53F
              refine WL.val (v_pick_t rfl rfl rfl) (.none rfl) rfl rfl ?_
              refine WL.val (v_move rfl rfl) (.none rfl) rfl rfl ?_
              refine WL.skip rfl rfl rfl rfl rfl rfl ?_
              refine WL.skip rfl rfl rfl rfl rfl rfl ?_
              refine WL.skip rfl rfl rfl rfl rfl rfl ?_
              refine WL.skip rfl rfl rfl rfl rfl rfl ?_
              refine WL.val (v_pick_f rfl rfl rfl) (.none rfl) rfl rfl ?_
              refine WL.val (v_move rfl rfl) (.none rfl) rfl rfl ?_
              refine WL.skip rfl rfl rfl rfl rfl rfl ?_
              refine WL.skip rfl rfl rfl rfl rfl rfl ?_
              refine WL.skip rfl rfl rfl rfl rfl rfl ?_
              refine WL.skip rfl rfl rfl rfl rfl rfl ?_
              refine WL.val (v_pick_f rfl rfl rfl) (.none rfl) rfl rfl ?_
              refine WL.val (v_assign rfl rfl) (.none rfl) rfl rfl ?_
              refine WL.nil ?_
              exact WE.mid () trivial (.cons rfl (.cons rfl (.cons rfl (.cons rfl (.cons rfl (.cons rfl (.cons rfl .nil))))))) (.refl _)
          · -- 49F
            refine WL.val (v_pick_t rfl rfl rfl) (.none rfl) rfl rfl ?_
            refine WL.val (v_move rfl rfl) (.none rfl) rfl rfl ?_
            refine WL.skip rfl rfl rfl rfl rfl rfl ?_
            refine WL.skip rfl rfl rfl rfl rfl rfl ?_
            refine WL.val (v_pick_f rfl rfl rfl) (.none rfl) rfl rfl ?_
            refine WL.val (v_move rfl rfl) (.none rfl) rfl rfl ?_
            refine WL.skip rfl rfl rfl rfl rfl rfl ?_
            refine WL.skip rfl rfl rfl rfl rfl rfl ?_
            refine WL.skip rfl rfl rfl rfl rfl rfl ?_
            refine WL.skip rfl rfl rfl rfl rfl rfl ?_
            refine WL.val (v_pick_f rfl rfl rfl) (.none rfl) rfl rfl ?_
            refine WL.val (v_move rfl rfl) (.none rfl) rfl rfl ?_
            refine WL.skip rfl rfl rfl rfl rfl rfl ?_
            refine WL.skip rfl rfl rfl rfl rfl rfl ?_
            refine WL.skip rfl rfl rfl rfl rfl rfl ?_
            refine WL.skip rfl rfl rfl rfl rfl rfl ?_
            refine WL.val (v_pick_f rfl rfl rfl) (.none rfl) rfl rfl ?_
            refine WL.val (v_assign rfl rfl) (.none rfl) rfl rfl ?_
            refine WL.nil ?_
            exact WE.mid () trivial (.cons rfl (.cons rfl (.cons rfl (.cons rfl (.cons rfl (.cons rfl (.cons rfl .nil))))))) (.refl _)
        · -- 45F
          refine WL.val (v_pick_t rfl rfl rfl) (.none rfl) rfl rfl ?_
          refine WL.val (v_move rfl rfl) (.none rfl) rfl rfl ?_
          refine WL.skip rfl rfl rfl rfl rfl rfl ?_
          refine WL.skip rfl rfl rfl rfl rfl rfl ?_
          refine WL.val (v_pick_f rfl rfl rfl) (.none rfl) rfl rfl ?_
          refine WL.val (v_move rfl rfl) (.none rfl) rfl rfl ?_
          refine WL.skip rfl rfl rfl rfl rfl rfl ?_
          refine WL.skip rfl rfl rfl rfl rfl rfl ?_
          refine WL.val (v_pick_f rfl rfl rfl) (.none rfl) rfl rfl ?_
          refine WL.val (v_move rfl rfl) (.none rfl) rfl rfl ?_
          refine WL.skip rfl rfl rfl rfl rfl rfl ?_
          refine WL.skip rfl rfl rfl rfl rfl rfl ?_
          refine WL.skip rfl rfl rfl rfl rfl rfl ?_
          refine WL.skip rfl rfl rfl rfl rfl rfl ?_
          refine WL.val (v_pick_f rfl rfl rfl) (.none rfl) rfl rfl ?_
          refine WL.val (v_move rfl rfl) (.none rfl) rfl rfl ?_
          refine WL.skip rfl rfl rfl rfl rfl rfl ?_
          refine WL.skip rfl rfl rfl rfl rfl rfl ?_
          refine WL.skip rfl rfl rfl rfl rfl rfl ?_
          refine WL.skip rfl rfl rfl rfl rfl rfl ?_
          refine WL.val (v_pick_f rfl rfl rfl) (.none rfl) rfl rfl ?_
          refine WL.val (v_assign rfl rfl) (.none rfl) rfl rfl ?_
          refine WL.nil ?_
          exact WE.mid () trivial (.cons rfl (.cons rfl (.cons rfl (.cons rfl (.cons rfl (.cons rfl (.cons rfl .nil))))))) (.refl _)
      · -- 42F
        refine WL.val (v_move rfl rfl) (.none rfl) rfl rfl ?_
        refine WL.skip rfl rfl rfl rfl rfl rfl ?_
        refine WL.skip rfl rfl rfl rfl rfl rfl ?_
        refine WL.val (v_pick_f rfl rfl rfl) (.none rfl) rfl rfl ?_
        refine WL.val (v_move rfl rfl) (.none rfl) rfl rfl ?_
        refine WL.skip rfl rfl rfl rfl rfl rfl ?_
        refine WL.skip rfl rfl rfl rfl rfl rfl ?_
        refine WL.val (v_pick_f rfl rfl rfl) (.none rfl) rfl rfl ?_
        refine WL.val (v_move rfl rfl) (.none rfl) rfl rfl ?_
        refine WL.skip rfl rfl rfl rfl rfl rfl ?_
        refine WL.skip rfl rfl rfl rfl rfl rfl ?_
        refine WL.val (v_pick_f rfl rfl rfl) (.none rfl) rfl rfl ?_
        refine WL.val (v_move rfl rfl) (.none rfl) rfl rfl ?_
        refine WL.skip rfl rfl rfl rfl rfl rfl ?_
        refine WL.skip rfl rfl rfl rfl rfl rfl ?_
        refine WL.skip rfl rfl rfl rfl rfl rfl ?_
        refine WL.skip rfl rfl rfl rfl rfl rfl ?_
        refine WL.val (v_pick_f rfl rfl rfl) (.none rfl) rfl rfl ?_
        refine WL.val (v_move rfl rfl) (.none rfl) rfl rfl ?_
        refine WL.skip rfl rfl rfl rfl rfl rfl ?_
        refine WL.skip rfl rfl rfl rfl rfl rfl ?_
        refine WL.skip rfl rfl rfl rfl rfl rfl ?_
        refine WL.skip rfl rfl rfl rfl rfl rfl ?_
        refine WL.val (v_pick_f rfl rfl rfl) (.none rfl) rfl rfl ?_
        refine WL.val (v_assign rfl rfl) (.none rfl) rfl rfl ?_
        refine WL.nil ?_
        exact WE.mid () trivial (.cons rfl (.cons rfl (.cons rfl (.cons rfl (.cons rfl (.cons rfl (.cons rfl .nil))))))) (.refl _)
    · -- behind cutr8
      intro _ _
      refine WC.seq ?_
      refine WC.seq ?_
      refine WC.region ?_
      refine WL.val (v_move rfl rfl) (.none rfl) rfl rfl ?_
      refine WL.val (v_move rfl rfl) (.none rfl) rfl rfl ?_
      refine WL.val ((v_eql rfl rfl rfl).f (fun h => set2_no hr hset h)) (.none rfl) rfl rfl ?_
      refine WL.val ((v_neq_bool rfl rfl rfl Tryd.underlying4).f (fun h => h rfl)) (.none rfl) rfl rfl ?_
      refine WL.nil ?_
      refine WE.then_n ?_
      refine WC.cond_f rfl ?_
      refine WC.skip ?_
      refine WE.then_n ?_
      refine WC.seq ?_
      refine WC.seq ?_
      refine WC.region ?_
      refine WL.val (v_move rfl rfl) (.none rfl) rfl rfl ?_
      skip
      refine WL.nil ?_
      refine WE.then_n ?_
      refine WC.cond_f rfl ?_
      refine WC.skip ?_
      refine WE.then_n ?_
      refine WC.seq ?_
      refine WC.orders mixed ?_
      refine WR.first (g := 8) [0] (by kernel_rfl) (by kernel_rfl) ?_
      refine WP.val (v_move rfl rfl) (.none rfl) rfl rfl ?_
      refine WP.nil ?_
      refine WR.read (g := 6) [1, 2] (by kernel_rfl) (by kernel_rfl) (by kernel_rfl) (by kernel_rfl) rfl ?_
      refine WQ.call _ rfl rfl ck_32 (.none rfl) rfl rfl (fun w hS => Calls.still (Fwd_c w port) hS) ?_
      refine WQ.val (v_loadN rfl rfl many_31 rfl allAt) (.none rfl) rfl rfl ?_
      refine WQ.nilR ?_
      refine WR.ones (g := 5) [3] (by kernel_rfl) ?_
      refine WL.call rfl rfl ck_21 (.none rfl) rfl rfl ?_
      intro w1 hS
      refine (Run_c (fun _ => False) (fun _ h => h) w0 hG _ w1 (fwdN (port % 256)) H (fwdN_in (by omega)) (fun w' hS' => Nd.At_leaf) hH hS).mono ?_
      rintro e w' ⟨Rs2, ad2, c2, E2, er2, rfl, hV2, hS', hr2⟩
      obtain ⟨rfl, rfl⟩ := fwd_is hr2 (by omega) hok
      obtain ⟨ga2, ea2⟩ := hV2.adr (by show 0 < 1; omega)
      refine ⟨_, _, rfl, hS', ?_⟩
      refine WL.nilR ?_
      refine WR.first (g := 0) [4, 5, 6, 7, 8] (by kernel_rfl) (by kernel_rfl) ?_
      refine WP.val (v_move rfl rfl) (.none rfl) rfl rfl ?_
      refine WP.val (v_extract rfl rfl rfl) (.none rfl) rfl rfl ?_
      refine WP.val (v_extract rfl rfl rfl) (.none rfl) rfl rfl ?_
      refine WP.val (v_assign rfl rfl) (.none rfl) rfl rfl ?_
      refine WP.val (v_assign rfl rfl) (.none rfl) rfl rfl ?_
      refine WP.nil ?_
      refine WR.done (by kernel_rfl) ?_
      refine WE.then_n ?_
      refine WC.seq ?_
      refine WC.region ?_
      refine WL.val (v_loadN rfl rfl many_31 rfl allAt) (.none rfl) rfl rfl ?_
      refine WL.alloc rfl zero_31 (.none rfl) rfl rfl ?_
      intro g20 hg20
      refine WL.storeW rfl rfl rfl rfl many_31 rfl rfl (.none rfl) rfl ?_
      refine WL.nil ?_
      refine WE.then_n ?_
      refine WC.seq ?_
      refine WC.region ?_
      refine WL.val (v_move rfl rfl) (.none rfl) rfl rfl ?_
      refine WL.val (v_and rfl rfl rfl (mask_i64' (i := 8) (m := 256) (by decide) (by decide) (by decide))) (.none rfl) rfl rfl ?_
      refine WL.val (v_fieldAddr0 rfl rfl fld_31_0) (.none rfl) rfl rfl ?_
      refine WL.store1 rfl rfl rfl rfl one_3 (Nat.le_of_ble_eq_true rfl) (.none rfl) rfl ?_
      refine WL.nil ?_
      refine WE.then_n ?_
      refine WC.seq ?_
      refine WC.quiet mixed (by kernel_rfl) ?_
      refine WQ.val (v_move rfl rfl) (.none rfl) rfl rfl ?_
      refine WQ.val ((v_eql rfl rfl rfl).t (rfl)) (.none rfl) rfl rfl ?_
      refine WQ.val (v_move rfl rfl) (.none rfl) rfl rfl ?_
      refine WQ.val (v_move rfl rfl) (.some rfl rfl rfl) rfl rfl ?_
      refine WQ.val (v_len_slice rfl rfl Tryd.underlying47) (.some rfl rfl rfl) rfl rfl ?_
      refine WQ.val ((v_eql rfl rfl rfl).t (rfl)) (.some rfl rfl rfl) rfl rfl ?_
      refine WQ.val (v_pick_t rfl rfl rfl) (.none rfl) rfl rfl ?_
      refine WQ.val (v_move rfl rfl) (.none rfl) rfl rfl ?_
      refine WQ.val (v_move rfl rfl) (.some rfl rfl rfl) rfl rfl ?_
      refine WQ.val (v_indexAddr (b := ga2) (off := 0) (lo := 0) rfl (by show some (Value.slice ad2 _ _) = _; rw [ea2]) rfl Tryd.underlying47 sz_31 rfl (by show 0 < 1; omega)) (.some rfl rfl rfl) rfl rfl ?_
      refine WQ.val (v_loadN (cs := hdL (wthF 0 (port % 256) H)) rfl rfl many_31 rfl (fun w' hS' => HdsAt.at (i := 0) (by rw [← ea2]; exact hV2.hds hS' (fun e he => List.mem_cons_of_mem _ (List.mem_append_left _ he))) rfl)) (.some rfl rfl rfl) rfl rfl ?_
      refine WQ.val (v_loadN rfl rfl many_31 rfl allAt) (.some rfl rfl rfl) rfl rfl ?_
      refine WQ.val (v_eql_aggT rfl rfl rfl eqk_31 eqg_31 rfl rfl (by rfl)) (.some rfl rfl rfl) rfl rfl ?_
      refine WQ.val (v_pick_t rfl rfl rfl) (.none rfl) rfl rfl ?_
      refine WQ.val (v_assign rfl rfl) (.none rfl) rfl rfl ?_
      refine WQ.nil ?_
      refine WE.then_n ?_
      refine WC.ret ?_
      refine WE.ret1 (P := Tryd.prog) (.inl rfl) Tryd.results6 rfl ?_
      exact fun w' h => ⟨rfl, h.frm⟩
theorem PolicySets_all (w : World) (H : Hd) (f a b port : Int) (hH : H.In) (hf : -9223372036854775808 ≤ f ∧ f ≤ 9223372036854775807) (ha : 0 ≤ a ∧ a ≤ 18446744073709551615) (hb : 0 ≤ b ∧ b ≤ 18446744073709551615) (hpo : -9223372036854775808 ≤ port ∧ port ≤ 9223372036854775807) (hG : GW w) :
    Calls Tryd.prog 6 #[.agg (hdCells H), .int .i64 f, .int .u64 a, .int .u64 b, .int .i64 port] w fun e w' => e = .returned (.bool true) ∧ Frm (fun _ => False) w w' := by
  cases hok : H.okB with
  | false => exact Sets_bad w H f a b port hH hG hok
  | true =>
    by_cases hs : setOk f a b
    · exact Sets_ok w H f a b port hH hf ha hb hpo hG hok hs
    · exact Sets_no w H f a b port hH hf ha hb hpo hG hok hs
end Go.Proofs.YtodaanhhnjkncaaDoor
