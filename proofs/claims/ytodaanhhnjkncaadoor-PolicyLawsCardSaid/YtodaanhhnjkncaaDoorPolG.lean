/- The law PolicyLaws. -/
import Derived.Test.YtodaanhhnjkncaaDoorPolF
namespace Go.Proofs.YtodaanhhnjkncaaDoor
open Go.RowKit

theorem ex_get {α : Type} {xs : List α} {k : Nat} (h : k < xs.length) : ∃ x, xs[k]? = some x := ⟨xs[k], List.getElem?_eq_getElem h⟩
set_option maxHeartbeats 4000000 in
set_option maxRecDepth 4000 in
theorem PolicyLaws_all (w0 : World) (a b c : Nd) (H : Hd) (haI : a.In) (hbI : b.In) (hcI : c.In) (haA : a.At w0) (hbA : b.At w0) (hcA : c.At w0) (hH : H.In) (hG : GW w0) :
    Calls Tryd.prog 5 #[ndV a, ndV b, ndV c, .agg (hdCells H)] w0 fun e w' => e = .returned (.bool true) ∧ Frm (fun _ => False) w0 w' := by
  have ha : IsT (OutT a) a w0 := ⟨haI, haA, fun _ _ => Iff.rfl⟩
  have hb : IsT (OutT b) b w0 := ⟨hbI, hbA, fun _ _ => Iff.rfl⟩
  have hc : IsT (OutT c) c w0 := ⟨hcI, hcA, fun _ _ => Iff.rfl⟩
  refine enter Tryd.func5 rfl Tryd.ntmps5 rfl (St.start (fun _ => False) w0) ?_
  refine WC.seq ?_
  refine WC.region ?_
  refine WL.box rfl rfl rfl (.none rfl) rfl rfl ?_
  intro g4 hg4
  refine WL.box rfl rfl rfl (.none rfl) rfl rfl ?_
  intro g5 hg5
  refine WL.box rfl rfl rfl (.none rfl) rfl rfl ?_
  intro g6 hg6
  refine WL.box rfl rfl rfl (.none rfl) rfl rfl ?_
  intro g7 hg7
  refine WL.val (v_assign rfl rfl) (.none rfl) rfl rfl ?_
  refine WL.nil ?_
  refine WE.then_n ?_
  refine WC.seq ?_
  refine WC.seq ?_
  refine WC.region ?_
  refine WL.call rfl rfl ck_19 (.none rfl) rfl rfl ?_
  intro w hS
  refine Calls.then (Ex16_c w (hG.keep (fun h => h) hS)) hS ?_
  refine WL.val (v_not rfl rfl rfl) (.none rfl) rfl rfl ?_
  refine WL.nil ?_
  refine WE.then_n ?_
  refine WC.cond_f rfl ?_
  refine WC.skip ?_
  refine WE.then_n ?_
  refine WC.seq ?_
  refine WC.region ?_
  refine WL.val (v_build rfl rfl zero_45 plc_45 rfl) (.none rfl) rfl rfl ?_
  refine WL.alloc rfl zero_45 (.none rfl) rfl rfl ?_
  intro g9 hg9
  refine WL.storeW rfl rfl rfl rfl many_45 rfl rfl (.none rfl) rfl ?_
  refine WL.nil ?_
  refine WE.then_n ?_
  refine WC.seq ?_
  refine WC.region ?_
  refine WL.val (v_build rfl rfl zero_45 plc_45 rfl) (.none rfl) rfl rfl ?_
  refine WL.alloc rfl zero_45 (.none rfl) rfl rfl ?_
  intro g10 hg10
  refine WL.storeW rfl rfl rfl rfl many_45 rfl rfl (.none rfl) rfl ?_
  refine WL.nil ?_
  refine WE.then_n ?_
  refine WC.seq ?_
  refine WC.free ([spT (OutT a), spT (OutT b), spT (OutT c), spL (OutT b) (OutT c), spT (rP (OutT b) (OutT c)), spL (OutT a) (rP (OutT b) (OutT c)), spT (rP (OutT a) (rP (OutT b) (OutT c))), spT (OutT a), spT (OutT b), spL (OutT a) (OutT b), spT (rP (OutT a) (OutT b)), spT (OutT c), spL (rP (OutT a) (OutT b)) (OutT c), spT (rP (rP (OutT a) (OutT b)) (OutT c)), spQ, spT (OutT a), spT (OutT b), spT (OutT c), spL (OutT b) (OutT c), spT (rS (OutT b) (OutT c)), spL (OutT a) (rS (OutT b) (OutT c)), spT (rS (OutT a) (rS (OutT b) (OutT c))), spT (OutT a), spT (OutT b), spL (OutT a) (OutT b), spT (rS (OutT a) (OutT b)), spT (OutT c), spL (rS (OutT a) (OutT b)) (OutT c), spT (rS (rS (OutT a) (OutT b)) (OutT c)), spQ, spT (OutT a), spT rD, spL (OutT a) rD, spT (rP (OutT a) rD), spT (OutT a), spQ, spT (OutT a), spT (OutT b), spL (OutT a) (OutT b), spT (rP (OutT a) (OutT b)), spT (OutT b), spT (OutT a), spL (OutT b) (OutT a), spT (rP (OutT b) (OutT a)), spQ, spT (OutT a), spT (OutT a), spL (OutT a) (OutT a), spT (rP (OutT a) (OutT a)), spT (OutT a), spQ, spT (OutT a), spT rI, spL (OutT a) rI, spT (rS (OutT a) rI), spT (OutT a), spQ, spT rI, spT (OutT a), spL rI (OutT a), spT (rS rI (OutT a)), spT (OutT a), spQ, spT (OutT a), spT rD, spL (OutT a) rD, spT (rS (OutT a) rD), spT rD, spT (OutT a), spL rD (OutT a), spT (rS rD (OutT a)), spQ, spT (OutT a), spT (OutT b), spL (OutT a) (OutT b), spT (rP (OutT a) (OutT b)), spT (OutT c), spL (rP (OutT a) (OutT b)) (OutT c), spT (rS (rP (OutT a) (OutT b)) (OutT c)), spT (OutT a), spT (OutT c), spL (OutT a) (OutT c), spT (rS (OutT a) (OutT c)), spT (OutT b), spT (OutT c), spL (OutT b) (OutT c), spT (rS (OutT b) (OutT c)), spL (rS (OutT a) (OutT c)) (rS (OutT b) (OutT c)), spT (rP (rS (OutT a) (OutT c)) (rS (OutT b) (OutT c))), spQ, spT rI, spT rI, spQ, spT rD, spT rD, spQ, spS, spS]) [(0, 23, []), (1, 24, []), (2, 25, []), (3, 26, [(1, 24), (2, 25)]), (4, 27, [(3, 26)]), (5, 28, [(0, 23), (4, 27)]), (6, 29, [(5, 28)]), (7, 30, []), (8, 31, []), (9, 32, [(7, 30), (8, 31)]), (10, 33, [(9, 32)]), (11, 34, []), (12, 35, [(10, 33), (11, 34)]), (13, 36, [(12, 35)]), (14, 37, [(6, 29), (13, 36)]), (15, 38, []), (16, 39, []), (17, 40, []), (18, 41, [(16, 39), (17, 40)]), (19, 42, [(18, 41)]), (20, 43, [(15, 38), (19, 42)]), (21, 44, [(20, 43)]), (22, 45, []), (23, 46, []), (24, 47, [(22, 45), (23, 46)]), (25, 48, [(24, 47)]), (26, 49, []), (27, 50, [(25, 48), (26, 49)]), (28, 51, [(27, 50)]), (29, 52, [(21, 44), (28, 51)]), (30, 53, []), (31, 54, []), (32, 55, [(30, 53), (31, 54)]), (33, 56, [(32, 55)]), (34, 57, []), (35, 58, [(33, 56), (34, 57)]), (36, 59, []), (37, 60, []), (38, 61, [(36, 59), (37, 60)]), (39, 62, [(38, 61)]), (40, 63, []), (41, 64, []), (42, 65, [(40, 63), (41, 64)]), (43, 66, [(42, 65)]), (44, 67, [(39, 62), (43, 66)]), (45, 68, []), (46, 69, []), (47, 70, [(45, 68), (46, 69)]), (48, 71, [(47, 70)]), (49, 72, []), (50, 73, [(48, 71), (49, 72)]), (51, 74, []), (52, 75, []), (53, 76, [(51, 74), (52, 75)]), (54, 77, [(53, 76)]), (55, 78, []), (56, 79, [(54, 77), (55, 78)]), (57, 80, []), (58, 81, []), (59, 82, [(57, 80), (58, 81)]), (60, 83, [(59, 82)]), (61, 84, []), (62, 85, [(60, 83), (61, 84)]), (63, 86, []), (64, 87, []), (65, 88, [(63, 86), (64, 87)]), (66, 89, [(65, 88)]), (67, 90, []), (68, 91, []), (69, 92, [(67, 90), (68, 91)]), (70, 93, [(69, 92)]), (71, 94, [(66, 89), (70, 93)]), (72, 95, []), (73, 96, []), (74, 97, [(72, 95), (73, 96)]), (75, 98, [(74, 97)]), (76, 99, []), (77, 100, [(75, 98), (76, 99)]), (78, 101, [(77, 100)]), (79, 102, []), (80, 103, []), (81, 104, [(79, 102), (80, 103)]), (82, 105, [(81, 104)]), (83, 106, []), (84, 107, []), (85, 108, [(83, 106), (84, 107)]), (86, 109, [(85, 108)]), (87, 110, [(82, 105), (86, 109)]), (88, 111, [(87, 110)]), (89, 112, [(78, 101), (88, 111)]), (90, 113, []), (91, 114, []), (92, 115, [(90, 113), (91, 114)]), (93, 116, []), (94, 117, []), (95, 118, [(93, 116), (94, 117)]), (96, 119, [(14, 37), (29, 52), (35, 58), (44, 67), (50, 73), (56, 79), (62, 85), (71, 94), (89, 112), (92, 115), (95, 118)]), (97, 11, [(96, 119)])] [(97, 11)] mixed (by kernel_rfl) (by kernel_rfl) ?_ ?_
  · -- each by itself
    refine all_cons ?_ ?_
    · -- slot 23
      intro w1 hS1 lx
      refine WL.val (v_loadN rfl rfl many_45 rfl (rangeIn (fun h => h) (allAt (g := g4) w1 hS1))) (.none rfl) rfl rfl ?_
      refine WL.fin fun w' hS' => ?_
      exact ⟨a, rfl, (ha.st hS1).st hS'⟩
    refine all_cons ?_ ?_
    · -- slot 24
      intro w1 hS1 lx
      refine WL.val (v_loadN rfl rfl many_45 rfl (rangeIn (fun h => h) (allAt (g := g5) w1 hS1))) (.none rfl) rfl rfl ?_
      refine WL.fin fun w' hS' => ?_
      exact ⟨b, rfl, (hb.st hS1).st hS'⟩
    refine all_cons ?_ ?_
    · -- slot 25
      intro w1 hS1 lx
      refine WL.val (v_loadN rfl rfl many_45 rfl (rangeIn (fun h => h) (allAt (g := g6) w1 hS1))) (.none rfl) rfl rfl ?_
      refine WL.fin fun w' hS' => ?_
      exact ⟨c, rfl, (hc.st hS1).st hS'⟩
    refine all_cons ?_ ?_
    · -- slot 26
      intro w1 hS1 lx
      rintro _ ⟨t24, rfl, hT24⟩
      rintro _ ⟨t25, rfl, hT25⟩
      refine WL.buildSlice rfl rfl Tryd.underlying43 sz_45 zero_45 rfl (by decide) rfl (.none rfl) rfl rfl ?_
      intro g26 hg26
      refine WL.as (L' := [.row g26 (ndL t24 ++ ndL t25)]) rfl ?_
      refine WL.fin fun w' hS' => ?_
      exact ⟨g26, t24, t25, rfl, allAt (g := g26) w' hS', hT24.st hS', hT25.st hS'⟩
    refine all_cons ?_ ?_
    · -- slot 27
      intro w1 hS1 lx
      rintro _ ⟨b26, u26, v26, rfl, hb26, hu26, hv26⟩
      refine WL.call rfl rfl ck_28 (.none rfl) rfl rfl ?_
      intro w hS
      refine Calls.then (LPar_c w (some ⟨b26, 0, none⟩) 2 [u26, v26]) hS ?_
      refine WL.fin fun w' hS' => ?_
      exact ⟨parN b26 2 [u26, v26], rfl, isT_par (rangeIn (fun h => h) hb26 w' hS') (hu26.st hS') (hv26.st hS')⟩
    refine all_cons ?_ ?_
    · -- slot 28
      intro w1 hS1 lx
      rintro _ ⟨t23, rfl, hT23⟩
      rintro _ ⟨t27, rfl, hT27⟩
      refine WL.buildSlice rfl rfl Tryd.underlying43 sz_45 zero_45 rfl (by decide) rfl (.none rfl) rfl rfl ?_
      intro g28 hg28
      refine WL.as (L' := [.row g28 (ndL t23 ++ ndL t27)]) rfl ?_
      refine WL.fin fun w' hS' => ?_
      exact ⟨g28, t23, t27, rfl, allAt (g := g28) w' hS', hT23.st hS', hT27.st hS'⟩
    refine all_cons ?_ ?_
    · -- slot 29
      intro w1 hS1 lx
      rintro _ ⟨b28, u28, v28, rfl, hb28, hu28, hv28⟩
      refine WL.call rfl rfl ck_28 (.none rfl) rfl rfl ?_
      intro w hS
      refine Calls.then (LPar_c w (some ⟨b28, 0, none⟩) 2 [u28, v28]) hS ?_
      refine WL.fin fun w' hS' => ?_
      exact ⟨parN b28 2 [u28, v28], rfl, isT_par (rangeIn (fun h => h) hb28 w' hS') (hu28.st hS') (hv28.st hS')⟩
    refine all_cons ?_ ?_
    · -- slot 30
      intro w1 hS1 lx
      refine WL.val (v_loadN rfl rfl many_45 rfl (rangeIn (fun h => h) (allAt (g := g4) w1 hS1))) (.none rfl) rfl rfl ?_
      refine WL.fin fun w' hS' => ?_
      exact ⟨a, rfl, (ha.st hS1).st hS'⟩
    refine all_cons ?_ ?_
    · -- slot 31
      intro w1 hS1 lx
      refine WL.val (v_loadN rfl rfl many_45 rfl (rangeIn (fun h => h) (allAt (g := g5) w1 hS1))) (.none rfl) rfl rfl ?_
      refine WL.fin fun w' hS' => ?_
      exact ⟨b, rfl, (hb.st hS1).st hS'⟩
    refine all_cons ?_ ?_
    · -- slot 32
      intro w1 hS1 lx
      rintro _ ⟨t30, rfl, hT30⟩
      rintro _ ⟨t31, rfl, hT31⟩
      refine WL.buildSlice rfl rfl Tryd.underlying43 sz_45 zero_45 rfl (by decide) rfl (.none rfl) rfl rfl ?_
      intro g32 hg32
      refine WL.as (L' := [.row g32 (ndL t30 ++ ndL t31)]) rfl ?_
      refine WL.fin fun w' hS' => ?_
      exact ⟨g32, t30, t31, rfl, allAt (g := g32) w' hS', hT30.st hS', hT31.st hS'⟩
    refine all_cons ?_ ?_
    · -- slot 33
      intro w1 hS1 lx
      rintro _ ⟨b32, u32, v32, rfl, hb32, hu32, hv32⟩
      refine WL.call rfl rfl ck_28 (.none rfl) rfl rfl ?_
      intro w hS
      refine Calls.then (LPar_c w (some ⟨b32, 0, none⟩) 2 [u32, v32]) hS ?_
      refine WL.fin fun w' hS' => ?_
      exact ⟨parN b32 2 [u32, v32], rfl, isT_par (rangeIn (fun h => h) hb32 w' hS') (hu32.st hS') (hv32.st hS')⟩
    refine all_cons ?_ ?_
    · -- slot 34
      intro w1 hS1 lx
      refine WL.val (v_loadN rfl rfl many_45 rfl (rangeIn (fun h => h) (allAt (g := g6) w1 hS1))) (.none rfl) rfl rfl ?_
      refine WL.fin fun w' hS' => ?_
      exact ⟨c, rfl, (hc.st hS1).st hS'⟩
    refine all_cons ?_ ?_
    · -- slot 35
      intro w1 hS1 lx
      rintro _ ⟨t33, rfl, hT33⟩
      rintro _ ⟨t34, rfl, hT34⟩
      refine WL.buildSlice rfl rfl Tryd.underlying43 sz_45 zero_45 rfl (by decide) rfl (.none rfl) rfl rfl ?_
      intro g35 hg35
      refine WL.as (L' := [.row g35 (ndL t33 ++ ndL t34)]) rfl ?_
      refine WL.fin fun w' hS' => ?_
      exact ⟨g35, t33, t34, rfl, allAt (g := g35) w' hS', hT33.st hS', hT34.st hS'⟩
    refine all_cons ?_ ?_
    · -- slot 36
      intro w1 hS1 lx
      rintro _ ⟨b35, u35, v35, rfl, hb35, hu35, hv35⟩
      refine WL.call rfl rfl ck_28 (.none rfl) rfl rfl ?_
      intro w hS
      refine Calls.then (LPar_c w (some ⟨b35, 0, none⟩) 2 [u35, v35]) hS ?_
      refine WL.fin fun w' hS' => ?_
      exact ⟨parN b35 2 [u35, v35], rfl, isT_par (rangeIn (fun h => h) hb35 w' hS') (hu35.st hS') (hv35.st hS')⟩
    refine all_cons ?_ ?_
    · -- slot 37
      intro w1 hS1 lx
      rintro _ ⟨t29, rfl, hT29⟩
      rintro _ ⟨t36, rfl, hT36⟩
      refine WL.val (v_buildA rfl rfl zero_64 Tryd.underlying64 sz_45 rfl) (.none rfl) rfl rfl ?_
      refine WL.fin fun w' hS' => ?_
      exact ⟨t29, t36, rfl, isQ (hT29.st hS') (hT36.st hS') rl0⟩
    refine all_cons ?_ ?_
    · -- slot 38
      intro w1 hS1 lx
      refine WL.val (v_loadN rfl rfl many_45 rfl (rangeIn (fun h => h) (allAt (g := g4) w1 hS1))) (.none rfl) rfl rfl ?_
      refine WL.fin fun w' hS' => ?_
      exact ⟨a, rfl, (ha.st hS1).st hS'⟩
    refine all_cons ?_ ?_
    · -- slot 39
      intro w1 hS1 lx
      refine WL.val (v_loadN rfl rfl many_45 rfl (rangeIn (fun h => h) (allAt (g := g5) w1 hS1))) (.none rfl) rfl rfl ?_
      refine WL.fin fun w' hS' => ?_
      exact ⟨b, rfl, (hb.st hS1).st hS'⟩
    refine all_cons ?_ ?_
    · -- slot 40
      intro w1 hS1 lx
      refine WL.val (v_loadN rfl rfl many_45 rfl (rangeIn (fun h => h) (allAt (g := g6) w1 hS1))) (.none rfl) rfl rfl ?_
      refine WL.fin fun w' hS' => ?_
      exact ⟨c, rfl, (hc.st hS1).st hS'⟩
    refine all_cons ?_ ?_
    · -- slot 41
      intro w1 hS1 lx
      rintro _ ⟨t39, rfl, hT39⟩
      rintro _ ⟨t40, rfl, hT40⟩
      refine WL.buildSlice rfl rfl Tryd.underlying43 sz_45 zero_45 rfl (by decide) rfl (.none rfl) rfl rfl ?_
      intro g41 hg41
      refine WL.as (L' := [.row g41 (ndL t39 ++ ndL t40)]) rfl ?_
      refine WL.fin fun w' hS' => ?_
      exact ⟨g41, t39, t40, rfl, allAt (g := g41) w' hS', hT39.st hS', hT40.st hS'⟩
    refine all_cons ?_ ?_
    · -- slot 42
      intro w1 hS1 lx
      rintro _ ⟨b41, u41, v41, rfl, hb41, hu41, hv41⟩
      refine WL.call rfl rfl ck_29 (.none rfl) rfl rfl ?_
      intro w hS
      refine Calls.then (LSeq_c w (some ⟨b41, 0, none⟩) 2 [u41, v41]) hS ?_
      refine WL.fin fun w' hS' => ?_
      exact ⟨seqN b41 2 [u41, v41], rfl, isT_seq (rangeIn (fun h => h) hb41 w' hS') (hu41.st hS') (hv41.st hS')⟩
    refine all_cons ?_ ?_
    · -- slot 43
      intro w1 hS1 lx
      rintro _ ⟨t38, rfl, hT38⟩
      rintro _ ⟨t42, rfl, hT42⟩
      refine WL.buildSlice rfl rfl Tryd.underlying43 sz_45 zero_45 rfl (by decide) rfl (.none rfl) rfl rfl ?_
      intro g43 hg43
      refine WL.as (L' := [.row g43 (ndL t38 ++ ndL t42)]) rfl ?_
      refine WL.fin fun w' hS' => ?_
      exact ⟨g43, t38, t42, rfl, allAt (g := g43) w' hS', hT38.st hS', hT42.st hS'⟩
    refine all_cons ?_ ?_
    · -- slot 44
      intro w1 hS1 lx
      rintro _ ⟨b43, u43, v43, rfl, hb43, hu43, hv43⟩
      refine WL.call rfl rfl ck_29 (.none rfl) rfl rfl ?_
      intro w hS
      refine Calls.then (LSeq_c w (some ⟨b43, 0, none⟩) 2 [u43, v43]) hS ?_
      refine WL.fin fun w' hS' => ?_
      exact ⟨seqN b43 2 [u43, v43], rfl, isT_seq (rangeIn (fun h => h) hb43 w' hS') (hu43.st hS') (hv43.st hS')⟩
    refine all_cons ?_ ?_
    · -- slot 45
      intro w1 hS1 lx
      refine WL.val (v_loadN rfl rfl many_45 rfl (rangeIn (fun h => h) (allAt (g := g4) w1 hS1))) (.none rfl) rfl rfl ?_
      refine WL.fin fun w' hS' => ?_
      exact ⟨a, rfl, (ha.st hS1).st hS'⟩
    refine all_cons ?_ ?_
    · -- slot 46
      intro w1 hS1 lx
      refine WL.val (v_loadN rfl rfl many_45 rfl (rangeIn (fun h => h) (allAt (g := g5) w1 hS1))) (.none rfl) rfl rfl ?_
      refine WL.fin fun w' hS' => ?_
      exact ⟨b, rfl, (hb.st hS1).st hS'⟩
    refine all_cons ?_ ?_
    · -- slot 47
      intro w1 hS1 lx
      rintro _ ⟨t45, rfl, hT45⟩
      rintro _ ⟨t46, rfl, hT46⟩
      refine WL.buildSlice rfl rfl Tryd.underlying43 sz_45 zero_45 rfl (by decide) rfl (.none rfl) rfl rfl ?_
      intro g47 hg47
      refine WL.as (L' := [.row g47 (ndL t45 ++ ndL t46)]) rfl ?_
      refine WL.fin fun w' hS' => ?_
      exact ⟨g47, t45, t46, rfl, allAt (g := g47) w' hS', hT45.st hS', hT46.st hS'⟩
    refine all_cons ?_ ?_
    · -- slot 48
      intro w1 hS1 lx
      rintro _ ⟨b47, u47, v47, rfl, hb47, hu47, hv47⟩
      refine WL.call rfl rfl ck_29 (.none rfl) rfl rfl ?_
      intro w hS
      refine Calls.then (LSeq_c w (some ⟨b47, 0, none⟩) 2 [u47, v47]) hS ?_
      refine WL.fin fun w' hS' => ?_
      exact ⟨seqN b47 2 [u47, v47], rfl, isT_seq (rangeIn (fun h => h) hb47 w' hS') (hu47.st hS') (hv47.st hS')⟩
    refine all_cons ?_ ?_
    · -- slot 49
      intro w1 hS1 lx
      refine WL.val (v_loadN rfl rfl many_45 rfl (rangeIn (fun h => h) (allAt (g := g6) w1 hS1))) (.none rfl) rfl rfl ?_
      refine WL.fin fun w' hS' => ?_
      exact ⟨c, rfl, (hc.st hS1).st hS'⟩
    refine all_cons ?_ ?_
    · -- slot 50
      intro w1 hS1 lx
      rintro _ ⟨t48, rfl, hT48⟩
      rintro _ ⟨t49, rfl, hT49⟩
      refine WL.buildSlice rfl rfl Tryd.underlying43 sz_45 zero_45 rfl (by decide) rfl (.none rfl) rfl rfl ?_
      intro g50 hg50
      refine WL.as (L' := [.row g50 (ndL t48 ++ ndL t49)]) rfl ?_
      refine WL.fin fun w' hS' => ?_
      exact ⟨g50, t48, t49, rfl, allAt (g := g50) w' hS', hT48.st hS', hT49.st hS'⟩
    refine all_cons ?_ ?_
    · -- slot 51
      intro w1 hS1 lx
      rintro _ ⟨b50, u50, v50, rfl, hb50, hu50, hv50⟩
      refine WL.call rfl rfl ck_29 (.none rfl) rfl rfl ?_
      intro w hS
      refine Calls.then (LSeq_c w (some ⟨b50, 0, none⟩) 2 [u50, v50]) hS ?_
      refine WL.fin fun w' hS' => ?_
      exact ⟨seqN b50 2 [u50, v50], rfl, isT_seq (rangeIn (fun h => h) hb50 w' hS') (hu50.st hS') (hv50.st hS')⟩
    refine all_cons ?_ ?_
    · -- slot 52
      intro w1 hS1 lx
      rintro _ ⟨t44, rfl, hT44⟩
      rintro _ ⟨t51, rfl, hT51⟩
      refine WL.val (v_buildA rfl rfl zero_64 Tryd.underlying64 sz_45 rfl) (.none rfl) rfl rfl ?_
      refine WL.fin fun w' hS' => ?_
      exact ⟨t44, t51, rfl, isQ (hT44.st hS') (hT51.st hS') rl1⟩
    refine all_cons ?_ ?_
    · -- slot 53
      intro w1 hS1 lx
      refine WL.val (v_loadN rfl rfl many_45 rfl (rangeIn (fun h => h) (allAt (g := g4) w1 hS1))) (.none rfl) rfl rfl ?_
      refine WL.fin fun w' hS' => ?_
      exact ⟨a, rfl, (ha.st hS1).st hS'⟩
    refine all_cons ?_ ?_
    · -- slot 54
      intro w1 hS1 lx
      refine WL.val (v_loadN rfl rfl many_45 rfl (rangeIn (fun h => h) (allAt (g := g9) w1 hS1))) (.none rfl) rfl rfl ?_
      refine WL.fin fun w' hS' => ?_
      exact ⟨dropN, rfl, isT_drop _⟩
    refine all_cons ?_ ?_
    · -- slot 55
      intro w1 hS1 lx
      rintro _ ⟨t53, rfl, hT53⟩
      rintro _ ⟨t54, rfl, hT54⟩
      refine WL.buildSlice rfl rfl Tryd.underlying43 sz_45 zero_45 rfl (by decide) rfl (.none rfl) rfl rfl ?_
      intro g55 hg55
      refine WL.as (L' := [.row g55 (ndL t53 ++ ndL t54)]) rfl ?_
      refine WL.fin fun w' hS' => ?_
      exact ⟨g55, t53, t54, rfl, allAt (g := g55) w' hS', hT53.st hS', hT54.st hS'⟩
    refine all_cons ?_ ?_
    · -- slot 56
      intro w1 hS1 lx
      rintro _ ⟨b55, u55, v55, rfl, hb55, hu55, hv55⟩
      refine WL.call rfl rfl ck_28 (.none rfl) rfl rfl ?_
      intro w hS
      refine Calls.then (LPar_c w (some ⟨b55, 0, none⟩) 2 [u55, v55]) hS ?_
      refine WL.fin fun w' hS' => ?_
      exact ⟨parN b55 2 [u55, v55], rfl, isT_par (rangeIn (fun h => h) hb55 w' hS') (hu55.st hS') (hv55.st hS')⟩
    refine all_cons ?_ ?_
    · -- slot 57
      intro w1 hS1 lx
      refine WL.val (v_loadN rfl rfl many_45 rfl (rangeIn (fun h => h) (allAt (g := g4) w1 hS1))) (.none rfl) rfl rfl ?_
      refine WL.fin fun w' hS' => ?_
      exact ⟨a, rfl, (ha.st hS1).st hS'⟩
    refine all_cons ?_ ?_
    · -- slot 58
      intro w1 hS1 lx
      rintro _ ⟨t56, rfl, hT56⟩
      rintro _ ⟨t57, rfl, hT57⟩
      refine WL.val (v_buildA rfl rfl zero_64 Tryd.underlying64 sz_45 rfl) (.none rfl) rfl rfl ?_
      refine WL.fin fun w' hS' => ?_
      exact ⟨t56, t57, rfl, isQ (hT56.st hS') (hT57.st hS') rl2⟩
    refine all_cons ?_ ?_
    · -- slot 59
      intro w1 hS1 lx
      refine WL.val (v_loadN rfl rfl many_45 rfl (rangeIn (fun h => h) (allAt (g := g4) w1 hS1))) (.none rfl) rfl rfl ?_
      refine WL.fin fun w' hS' => ?_
      exact ⟨a, rfl, (ha.st hS1).st hS'⟩
    refine all_cons ?_ ?_
    · -- slot 60
      intro w1 hS1 lx
      refine WL.val (v_loadN rfl rfl many_45 rfl (rangeIn (fun h => h) (allAt (g := g5) w1 hS1))) (.none rfl) rfl rfl ?_
      refine WL.fin fun w' hS' => ?_
      exact ⟨b, rfl, (hb.st hS1).st hS'⟩
    refine all_cons ?_ ?_
    · -- slot 61
      intro w1 hS1 lx
      rintro _ ⟨t59, rfl, hT59⟩
      rintro _ ⟨t60, rfl, hT60⟩
      refine WL.buildSlice rfl rfl Tryd.underlying43 sz_45 zero_45 rfl (by decide) rfl (.none rfl) rfl rfl ?_
      intro g61 hg61
      refine WL.as (L' := [.row g61 (ndL t59 ++ ndL t60)]) rfl ?_
      refine WL.fin fun w' hS' => ?_
      exact ⟨g61, t59, t60, rfl, allAt (g := g61) w' hS', hT59.st hS', hT60.st hS'⟩
    refine all_cons ?_ ?_
    · -- slot 62
      intro w1 hS1 lx
      rintro _ ⟨b61, u61, v61, rfl, hb61, hu61, hv61⟩
      refine WL.call rfl rfl ck_28 (.none rfl) rfl rfl ?_
      intro w hS
      refine Calls.then (LPar_c w (some ⟨b61, 0, none⟩) 2 [u61, v61]) hS ?_
      refine WL.fin fun w' hS' => ?_
      exact ⟨parN b61 2 [u61, v61], rfl, isT_par (rangeIn (fun h => h) hb61 w' hS') (hu61.st hS') (hv61.st hS')⟩
    refine all_cons ?_ ?_
    · -- slot 63
      intro w1 hS1 lx
      refine WL.val (v_loadN rfl rfl many_45 rfl (rangeIn (fun h => h) (allAt (g := g5) w1 hS1))) (.none rfl) rfl rfl ?_
      refine WL.fin fun w' hS' => ?_
      exact ⟨b, rfl, (hb.st hS1).st hS'⟩
    refine all_cons ?_ ?_
    · -- slot 64
      intro w1 hS1 lx
      refine WL.val (v_loadN rfl rfl many_45 rfl (rangeIn (fun h => h) (allAt (g := g4) w1 hS1))) (.none rfl) rfl rfl ?_
      refine WL.fin fun w' hS' => ?_
      exact ⟨a, rfl, (ha.st hS1).st hS'⟩
    refine all_cons ?_ ?_
    · -- slot 65
      intro w1 hS1 lx
      rintro _ ⟨t63, rfl, hT63⟩
      rintro _ ⟨t64, rfl, hT64⟩
      refine WL.buildSlice rfl rfl Tryd.underlying43 sz_45 zero_45 rfl (by decide) rfl (.none rfl) rfl rfl ?_
      intro g65 hg65
      refine WL.as (L' := [.row g65 (ndL t63 ++ ndL t64)]) rfl ?_
      refine WL.fin fun w' hS' => ?_
      exact ⟨g65, t63, t64, rfl, allAt (g := g65) w' hS', hT63.st hS', hT64.st hS'⟩
    refine all_cons ?_ ?_
    · -- slot 66
      intro w1 hS1 lx
      rintro _ ⟨b65, u65, v65, rfl, hb65, hu65, hv65⟩
      refine WL.call rfl rfl ck_28 (.none rfl) rfl rfl ?_
      intro w hS
      refine Calls.then (LPar_c w (some ⟨b65, 0, none⟩) 2 [u65, v65]) hS ?_
      refine WL.fin fun w' hS' => ?_
      exact ⟨parN b65 2 [u65, v65], rfl, isT_par (rangeIn (fun h => h) hb65 w' hS') (hu65.st hS') (hv65.st hS')⟩
    refine all_cons ?_ ?_
    · -- slot 67
      intro w1 hS1 lx
      rintro _ ⟨t62, rfl, hT62⟩
      rintro _ ⟨t66, rfl, hT66⟩
      refine WL.val (v_buildA rfl rfl zero_64 Tryd.underlying64 sz_45 rfl) (.none rfl) rfl rfl ?_
      refine WL.fin fun w' hS' => ?_
      exact ⟨t62, t66, rfl, isQ (hT62.st hS') (hT66.st hS') rl3⟩
    refine all_cons ?_ ?_
    · -- slot 68
      intro w1 hS1 lx
      refine WL.val (v_loadN rfl rfl many_45 rfl (rangeIn (fun h => h) (allAt (g := g4) w1 hS1))) (.none rfl) rfl rfl ?_
      refine WL.fin fun w' hS' => ?_
      exact ⟨a, rfl, (ha.st hS1).st hS'⟩
    refine all_cons ?_ ?_
    · -- slot 69
      intro w1 hS1 lx
      refine WL.val (v_loadN rfl rfl many_45 rfl (rangeIn (fun h => h) (allAt (g := g4) w1 hS1))) (.none rfl) rfl rfl ?_
      refine WL.fin fun w' hS' => ?_
      exact ⟨a, rfl, (ha.st hS1).st hS'⟩
    refine all_cons ?_ ?_
    · -- slot 70
      intro w1 hS1 lx
      rintro _ ⟨t68, rfl, hT68⟩
      rintro _ ⟨t69, rfl, hT69⟩
      refine WL.buildSlice rfl rfl Tryd.underlying43 sz_45 zero_45 rfl (by decide) rfl (.none rfl) rfl rfl ?_
      intro g70 hg70
      refine WL.as (L' := [.row g70 (ndL t68 ++ ndL t69)]) rfl ?_
      refine WL.fin fun w' hS' => ?_
      exact ⟨g70, t68, t69, rfl, allAt (g := g70) w' hS', hT68.st hS', hT69.st hS'⟩
    refine all_cons ?_ ?_
    · -- slot 71
      intro w1 hS1 lx
      rintro _ ⟨b70, u70, v70, rfl, hb70, hu70, hv70⟩
      refine WL.call rfl rfl ck_28 (.none rfl) rfl rfl ?_
      intro w hS
      refine Calls.then (LPar_c w (some ⟨b70, 0, none⟩) 2 [u70, v70]) hS ?_
      refine WL.fin fun w' hS' => ?_
      exact ⟨parN b70 2 [u70, v70], rfl, isT_par (rangeIn (fun h => h) hb70 w' hS') (hu70.st hS') (hv70.st hS')⟩
    refine all_cons ?_ ?_
    · -- slot 72
      intro w1 hS1 lx
      refine WL.val (v_loadN rfl rfl many_45 rfl (rangeIn (fun h => h) (allAt (g := g4) w1 hS1))) (.none rfl) rfl rfl ?_
      refine WL.fin fun w' hS' => ?_
      exact ⟨a, rfl, (ha.st hS1).st hS'⟩
    refine all_cons ?_ ?_
    · -- slot 73
      intro w1 hS1 lx
      rintro _ ⟨t71, rfl, hT71⟩
      rintro _ ⟨t72, rfl, hT72⟩
      refine WL.val (v_buildA rfl rfl zero_64 Tryd.underlying64 sz_45 rfl) (.none rfl) rfl rfl ?_
      refine WL.fin fun w' hS' => ?_
      exact ⟨t71, t72, rfl, isQ (hT71.st hS') (hT72.st hS') rl4⟩
    refine all_cons ?_ ?_
    · -- slot 74
      intro w1 hS1 lx
      refine WL.val (v_loadN rfl rfl many_45 rfl (rangeIn (fun h => h) (allAt (g := g4) w1 hS1))) (.none rfl) rfl rfl ?_
      refine WL.fin fun w' hS' => ?_
      exact ⟨a, rfl, (ha.st hS1).st hS'⟩
    refine all_cons ?_ ?_
    · -- slot 75
      intro w1 hS1 lx
      refine WL.val (v_loadN rfl rfl many_45 rfl (rangeIn (fun h => h) (allAt (g := g10) w1 hS1))) (.none rfl) rfl rfl ?_
      refine WL.fin fun w' hS' => ?_
      exact ⟨idN, rfl, isT_id _⟩
    refine all_cons ?_ ?_
    · -- slot 76
      intro w1 hS1 lx
      rintro _ ⟨t74, rfl, hT74⟩
      rintro _ ⟨t75, rfl, hT75⟩
      refine WL.buildSlice rfl rfl Tryd.underlying43 sz_45 zero_45 rfl (by decide) rfl (.none rfl) rfl rfl ?_
      intro g76 hg76
      refine WL.as (L' := [.row g76 (ndL t74 ++ ndL t75)]) rfl ?_
      refine WL.fin fun w' hS' => ?_
      exact ⟨g76, t74, t75, rfl, allAt (g := g76) w' hS', hT74.st hS', hT75.st hS'⟩
    refine all_cons ?_ ?_
    · -- slot 77
      intro w1 hS1 lx
      rintro _ ⟨b76, u76, v76, rfl, hb76, hu76, hv76⟩
      refine WL.call rfl rfl ck_29 (.none rfl) rfl rfl ?_
      intro w hS
      refine Calls.then (LSeq_c w (some ⟨b76, 0, none⟩) 2 [u76, v76]) hS ?_
      refine WL.fin fun w' hS' => ?_
      exact ⟨seqN b76 2 [u76, v76], rfl, isT_seq (rangeIn (fun h => h) hb76 w' hS') (hu76.st hS') (hv76.st hS')⟩
    refine all_cons ?_ ?_
    · -- slot 78
      intro w1 hS1 lx
      refine WL.val (v_loadN rfl rfl many_45 rfl (rangeIn (fun h => h) (allAt (g := g4) w1 hS1))) (.none rfl) rfl rfl ?_
      refine WL.fin fun w' hS' => ?_
      exact ⟨a, rfl, (ha.st hS1).st hS'⟩
    refine all_cons ?_ ?_
    · -- slot 79
      intro w1 hS1 lx
      rintro _ ⟨t77, rfl, hT77⟩
      rintro _ ⟨t78, rfl, hT78⟩
      refine WL.val (v_buildA rfl rfl zero_64 Tryd.underlying64 sz_45 rfl) (.none rfl) rfl rfl ?_
      refine WL.fin fun w' hS' => ?_
      exact ⟨t77, t78, rfl, isQ (hT77.st hS') (hT78.st hS') rl5⟩
    refine all_cons ?_ ?_
    · -- slot 80
      intro w1 hS1 lx
      refine WL.val (v_loadN rfl rfl many_45 rfl (rangeIn (fun h => h) (allAt (g := g10) w1 hS1))) (.none rfl) rfl rfl ?_
      refine WL.fin fun w' hS' => ?_
      exact ⟨idN, rfl, isT_id _⟩
    refine all_cons ?_ ?_
    · -- slot 81
      intro w1 hS1 lx
      refine WL.val (v_loadN rfl rfl many_45 rfl (rangeIn (fun h => h) (allAt (g := g4) w1 hS1))) (.none rfl) rfl rfl ?_
      refine WL.fin fun w' hS' => ?_
      exact ⟨a, rfl, (ha.st hS1).st hS'⟩
    refine all_cons ?_ ?_
    · -- slot 82
      intro w1 hS1 lx
      rintro _ ⟨t80, rfl, hT80⟩
      rintro _ ⟨t81, rfl, hT81⟩
      refine WL.buildSlice rfl rfl Tryd.underlying43 sz_45 zero_45 rfl (by decide) rfl (.none rfl) rfl rfl ?_
      intro g82 hg82
      refine WL.as (L' := [.row g82 (ndL t80 ++ ndL t81)]) rfl ?_
      refine WL.fin fun w' hS' => ?_
      exact ⟨g82, t80, t81, rfl, allAt (g := g82) w' hS', hT80.st hS', hT81.st hS'⟩
    refine all_cons ?_ ?_
    · -- slot 83
      intro w1 hS1 lx
      rintro _ ⟨b82, u82, v82, rfl, hb82, hu82, hv82⟩
      refine WL.call rfl rfl ck_29 (.none rfl) rfl rfl ?_
      intro w hS
      refine Calls.then (LSeq_c w (some ⟨b82, 0, none⟩) 2 [u82, v82]) hS ?_
      refine WL.fin fun w' hS' => ?_
      exact ⟨seqN b82 2 [u82, v82], rfl, isT_seq (rangeIn (fun h => h) hb82 w' hS') (hu82.st hS') (hv82.st hS')⟩
    refine all_cons ?_ ?_
    · -- slot 84
      intro w1 hS1 lx
      refine WL.val (v_loadN rfl rfl many_45 rfl (rangeIn (fun h => h) (allAt (g := g4) w1 hS1))) (.none rfl) rfl rfl ?_
      refine WL.fin fun w' hS' => ?_
      exact ⟨a, rfl, (ha.st hS1).st hS'⟩
    refine all_cons ?_ ?_
    · -- slot 85
      intro w1 hS1 lx
      rintro _ ⟨t83, rfl, hT83⟩
      rintro _ ⟨t84, rfl, hT84⟩
      refine WL.val (v_buildA rfl rfl zero_64 Tryd.underlying64 sz_45 rfl) (.none rfl) rfl rfl ?_
      refine WL.fin fun w' hS' => ?_
      exact ⟨t83, t84, rfl, isQ (hT83.st hS') (hT84.st hS') rl6⟩
    refine all_cons ?_ ?_
    · -- slot 86
      intro w1 hS1 lx
      refine WL.val (v_loadN rfl rfl many_45 rfl (rangeIn (fun h => h) (allAt (g := g4) w1 hS1))) (.none rfl) rfl rfl ?_
      refine WL.fin fun w' hS' => ?_
      exact ⟨a, rfl, (ha.st hS1).st hS'⟩
    refine all_cons ?_ ?_
    · -- slot 87
      intro w1 hS1 lx
      refine WL.val (v_loadN rfl rfl many_45 rfl (rangeIn (fun h => h) (allAt (g := g9) w1 hS1))) (.none rfl) rfl rfl ?_
      refine WL.fin fun w' hS' => ?_
      exact ⟨dropN, rfl, isT_drop _⟩
    refine all_cons ?_ ?_
    · -- slot 88
      intro w1 hS1 lx
      rintro _ ⟨t86, rfl, hT86⟩
      rintro _ ⟨t87, rfl, hT87⟩
      refine WL.buildSlice rfl rfl Tryd.underlying43 sz_45 zero_45 rfl (by decide) rfl (.none rfl) rfl rfl ?_
      intro g88 hg88
      refine WL.as (L' := [.row g88 (ndL t86 ++ ndL t87)]) rfl ?_
      refine WL.fin fun w' hS' => ?_
      exact ⟨g88, t86, t87, rfl, allAt (g := g88) w' hS', hT86.st hS', hT87.st hS'⟩
    refine all_cons ?_ ?_
    · -- slot 89
      intro w1 hS1 lx
      rintro _ ⟨b88, u88, v88, rfl, hb88, hu88, hv88⟩
      refine WL.call rfl rfl ck_29 (.none rfl) rfl rfl ?_
      intro w hS
      refine Calls.then (LSeq_c w (some ⟨b88, 0, none⟩) 2 [u88, v88]) hS ?_
      refine WL.fin fun w' hS' => ?_
      exact ⟨seqN b88 2 [u88, v88], rfl, isT_seq (rangeIn (fun h => h) hb88 w' hS') (hu88.st hS') (hv88.st hS')⟩
    refine all_cons ?_ ?_
    · -- slot 90
      intro w1 hS1 lx
      refine WL.val (v_loadN rfl rfl many_45 rfl (rangeIn (fun h => h) (allAt (g := g9) w1 hS1))) (.none rfl) rfl rfl ?_
      refine WL.fin fun w' hS' => ?_
      exact ⟨dropN, rfl, isT_drop _⟩
    refine all_cons ?_ ?_
    · -- slot 91
      intro w1 hS1 lx
      refine WL.val (v_loadN rfl rfl many_45 rfl (rangeIn (fun h => h) (allAt (g := g4) w1 hS1))) (.none rfl) rfl rfl ?_
      refine WL.fin fun w' hS' => ?_
      exact ⟨a, rfl, (ha.st hS1).st hS'⟩
    refine all_cons ?_ ?_
    · -- slot 92
      intro w1 hS1 lx
      rintro _ ⟨t90, rfl, hT90⟩
      rintro _ ⟨t91, rfl, hT91⟩
      refine WL.buildSlice rfl rfl Tryd.underlying43 sz_45 zero_45 rfl (by decide) rfl (.none rfl) rfl rfl ?_
      intro g92 hg92
      refine WL.as (L' := [.row g92 (ndL t90 ++ ndL t91)]) rfl ?_
      refine WL.fin fun w' hS' => ?_
      exact ⟨g92, t90, t91, rfl, allAt (g := g92) w' hS', hT90.st hS', hT91.st hS'⟩
    refine all_cons ?_ ?_
    · -- slot 93
      intro w1 hS1 lx
      rintro _ ⟨b92, u92, v92, rfl, hb92, hu92, hv92⟩
      refine WL.call rfl rfl ck_29 (.none rfl) rfl rfl ?_
      intro w hS
      refine Calls.then (LSeq_c w (some ⟨b92, 0, none⟩) 2 [u92, v92]) hS ?_
      refine WL.fin fun w' hS' => ?_
      exact ⟨seqN b92 2 [u92, v92], rfl, isT_seq (rangeIn (fun h => h) hb92 w' hS') (hu92.st hS') (hv92.st hS')⟩
    refine all_cons ?_ ?_
    · -- slot 94
      intro w1 hS1 lx
      rintro _ ⟨t89, rfl, hT89⟩
      rintro _ ⟨t93, rfl, hT93⟩
      refine WL.val (v_buildA rfl rfl zero_64 Tryd.underlying64 sz_45 rfl) (.none rfl) rfl rfl ?_
      refine WL.fin fun w' hS' => ?_
      exact ⟨t89, t93, rfl, isQ (hT89.st hS') (hT93.st hS') rl7⟩
    refine all_cons ?_ ?_
    · -- slot 95
      intro w1 hS1 lx
      refine WL.val (v_loadN rfl rfl many_45 rfl (rangeIn (fun h => h) (allAt (g := g4) w1 hS1))) (.none rfl) rfl rfl ?_
      refine WL.fin fun w' hS' => ?_
      exact ⟨a, rfl, (ha.st hS1).st hS'⟩
    refine all_cons ?_ ?_
    · -- slot 96
      intro w1 hS1 lx
      refine WL.val (v_loadN rfl rfl many_45 rfl (rangeIn (fun h => h) (allAt (g := g5) w1 hS1))) (.none rfl) rfl rfl ?_
      refine WL.fin fun w' hS' => ?_
      exact ⟨b, rfl, (hb.st hS1).st hS'⟩
    refine all_cons ?_ ?_
    · -- slot 97
      intro w1 hS1 lx
      rintro _ ⟨t95, rfl, hT95⟩
      rintro _ ⟨t96, rfl, hT96⟩
      refine WL.buildSlice rfl rfl Tryd.underlying43 sz_45 zero_45 rfl (by decide) rfl (.none rfl) rfl rfl ?_
      intro g97 hg97
      refine WL.as (L' := [.row g97 (ndL t95 ++ ndL t96)]) rfl ?_
      refine WL.fin fun w' hS' => ?_
      exact ⟨g97, t95, t96, rfl, allAt (g := g97) w' hS', hT95.st hS', hT96.st hS'⟩
    refine all_cons ?_ ?_
    · -- slot 98
      intro w1 hS1 lx
      rintro _ ⟨b97, u97, v97, rfl, hb97, hu97, hv97⟩
      refine WL.call rfl rfl ck_28 (.none rfl) rfl rfl ?_
      intro w hS
      refine Calls.then (LPar_c w (some ⟨b97, 0, none⟩) 2 [u97, v97]) hS ?_
      refine WL.fin fun w' hS' => ?_
      exact ⟨parN b97 2 [u97, v97], rfl, isT_par (rangeIn (fun h => h) hb97 w' hS') (hu97.st hS') (hv97.st hS')⟩
    refine all_cons ?_ ?_
    · -- slot 99
      intro w1 hS1 lx
      refine WL.val (v_loadN rfl rfl many_45 rfl (rangeIn (fun h => h) (allAt (g := g6) w1 hS1))) (.none rfl) rfl rfl ?_
      refine WL.fin fun w' hS' => ?_
      exact ⟨c, rfl, (hc.st hS1).st hS'⟩
    refine all_cons ?_ ?_
    · -- slot 100
      intro w1 hS1 lx
      rintro _ ⟨t98, rfl, hT98⟩
      rintro _ ⟨t99, rfl, hT99⟩
      refine WL.buildSlice rfl rfl Tryd.underlying43 sz_45 zero_45 rfl (by decide) rfl (.none rfl) rfl rfl ?_
      intro g100 hg100
      refine WL.as (L' := [.row g100 (ndL t98 ++ ndL t99)]) rfl ?_
      refine WL.fin fun w' hS' => ?_
      exact ⟨g100, t98, t99, rfl, allAt (g := g100) w' hS', hT98.st hS', hT99.st hS'⟩
    refine all_cons ?_ ?_
    · -- slot 101
      intro w1 hS1 lx
      rintro _ ⟨b100, u100, v100, rfl, hb100, hu100, hv100⟩
      refine WL.call rfl rfl ck_29 (.none rfl) rfl rfl ?_
      intro w hS
      refine Calls.then (LSeq_c w (some ⟨b100, 0, none⟩) 2 [u100, v100]) hS ?_
      refine WL.fin fun w' hS' => ?_
      exact ⟨seqN b100 2 [u100, v100], rfl, isT_seq (rangeIn (fun h => h) hb100 w' hS') (hu100.st hS') (hv100.st hS')⟩
    refine all_cons ?_ ?_
    · -- slot 102
      intro w1 hS1 lx
      refine WL.val (v_loadN rfl rfl many_45 rfl (rangeIn (fun h => h) (allAt (g := g4) w1 hS1))) (.none rfl) rfl rfl ?_
      refine WL.fin fun w' hS' => ?_
      exact ⟨a, rfl, (ha.st hS1).st hS'⟩
    refine all_cons ?_ ?_
    · -- slot 103
      intro w1 hS1 lx
      refine WL.val (v_loadN rfl rfl many_45 rfl (rangeIn (fun h => h) (allAt (g := g6) w1 hS1))) (.none rfl) rfl rfl ?_
      refine WL.fin fun w' hS' => ?_
      exact ⟨c, rfl, (hc.st hS1).st hS'⟩
    refine all_cons ?_ ?_
    · -- slot 104
      intro w1 hS1 lx
      rintro _ ⟨t102, rfl, hT102⟩
      rintro _ ⟨t103, rfl, hT103⟩
      refine WL.buildSlice rfl rfl Tryd.underlying43 sz_45 zero_45 rfl (by decide) rfl (.none rfl) rfl rfl ?_
      intro g104 hg104
      refine WL.as (L' := [.row g104 (ndL t102 ++ ndL t103)]) rfl ?_
      refine WL.fin fun w' hS' => ?_
      exact ⟨g104, t102, t103, rfl, allAt (g := g104) w' hS', hT102.st hS', hT103.st hS'⟩
    refine all_cons ?_ ?_
    · -- slot 105
      intro w1 hS1 lx
      rintro _ ⟨b104, u104, v104, rfl, hb104, hu104, hv104⟩
      refine WL.call rfl rfl ck_29 (.none rfl) rfl rfl ?_
      intro w hS
      refine Calls.then (LSeq_c w (some ⟨b104, 0, none⟩) 2 [u104, v104]) hS ?_
      refine WL.fin fun w' hS' => ?_
      exact ⟨seqN b104 2 [u104, v104], rfl, isT_seq (rangeIn (fun h => h) hb104 w' hS') (hu104.st hS') (hv104.st hS')⟩
    refine all_cons ?_ ?_
    · -- slot 106
      intro w1 hS1 lx
      refine WL.val (v_loadN rfl rfl many_45 rfl (rangeIn (fun h => h) (allAt (g := g5) w1 hS1))) (.none rfl) rfl rfl ?_
      refine WL.fin fun w' hS' => ?_
      exact ⟨b, rfl, (hb.st hS1).st hS'⟩
    refine all_cons ?_ ?_
    · -- slot 107
      intro w1 hS1 lx
      refine WL.val (v_loadN rfl rfl many_45 rfl (rangeIn (fun h => h) (allAt (g := g6) w1 hS1))) (.none rfl) rfl rfl ?_
      refine WL.fin fun w' hS' => ?_
      exact ⟨c, rfl, (hc.st hS1).st hS'⟩
    refine all_cons ?_ ?_
    · -- slot 108
      intro w1 hS1 lx
      rintro _ ⟨t106, rfl, hT106⟩
      rintro _ ⟨t107, rfl, hT107⟩
      refine WL.buildSlice rfl rfl Tryd.underlying43 sz_45 zero_45 rfl (by decide) rfl (.none rfl) rfl rfl ?_
      intro g108 hg108
      refine WL.as (L' := [.row g108 (ndL t106 ++ ndL t107)]) rfl ?_
      refine WL.fin fun w' hS' => ?_
      exact ⟨g108, t106, t107, rfl, allAt (g := g108) w' hS', hT106.st hS', hT107.st hS'⟩
    refine all_cons ?_ ?_
    · -- slot 109
      intro w1 hS1 lx
      rintro _ ⟨b108, u108, v108, rfl, hb108, hu108, hv108⟩
      refine WL.call rfl rfl ck_29 (.none rfl) rfl rfl ?_
      intro w hS
      refine Calls.then (LSeq_c w (some ⟨b108, 0, none⟩) 2 [u108, v108]) hS ?_
      refine WL.fin fun w' hS' => ?_
      exact ⟨seqN b108 2 [u108, v108], rfl, isT_seq (rangeIn (fun h => h) hb108 w' hS') (hu108.st hS') (hv108.st hS')⟩
    refine all_cons ?_ ?_
    · -- slot 110
      intro w1 hS1 lx
      rintro _ ⟨t105, rfl, hT105⟩
      rintro _ ⟨t109, rfl, hT109⟩
      refine WL.buildSlice rfl rfl Tryd.underlying43 sz_45 zero_45 rfl (by decide) rfl (.none rfl) rfl rfl ?_
      intro g110 hg110
      refine WL.as (L' := [.row g110 (ndL t105 ++ ndL t109)]) rfl ?_
      refine WL.fin fun w' hS' => ?_
      exact ⟨g110, t105, t109, rfl, allAt (g := g110) w' hS', hT105.st hS', hT109.st hS'⟩
    refine all_cons ?_ ?_
    · -- slot 111
      intro w1 hS1 lx
      rintro _ ⟨b110, u110, v110, rfl, hb110, hu110, hv110⟩
      refine WL.call rfl rfl ck_28 (.none rfl) rfl rfl ?_
      intro w hS
      refine Calls.then (LPar_c w (some ⟨b110, 0, none⟩) 2 [u110, v110]) hS ?_
      refine WL.fin fun w' hS' => ?_
      exact ⟨parN b110 2 [u110, v110], rfl, isT_par (rangeIn (fun h => h) hb110 w' hS') (hu110.st hS') (hv110.st hS')⟩
    refine all_cons ?_ ?_
    · -- slot 112
      intro w1 hS1 lx
      rintro _ ⟨t101, rfl, hT101⟩
      rintro _ ⟨t111, rfl, hT111⟩
      refine WL.val (v_buildA rfl rfl zero_64 Tryd.underlying64 sz_45 rfl) (.none rfl) rfl rfl ?_
      refine WL.fin fun w' hS' => ?_
      exact ⟨t101, t111, rfl, isQ (hT101.st hS') (hT111.st hS') rl8⟩
    refine all_cons ?_ ?_
    · -- slot 113
      intro w1 hS1 lx
      refine WL.call rfl rfl ck_29 (.none rfl) rfl rfl ?_
      intro w hS
      refine Calls.then (LSeq_c w none 0 []) hS ?_
      refine WL.fin fun w' hS' => ?_
      exact ⟨.mk 16 0 0 0 none 0 [], rfl, isT_seq0 _⟩
    refine all_cons ?_ ?_
    · -- slot 114
      intro w1 hS1 lx
      refine WL.val (v_loadN rfl rfl many_45 rfl (rangeIn (fun h => h) (allAt (g := g10) w1 hS1))) (.none rfl) rfl rfl ?_
      refine WL.fin fun w' hS' => ?_
      exact ⟨idN, rfl, isT_id _⟩
    refine all_cons ?_ ?_
    · -- slot 115
      intro w1 hS1 lx
      rintro _ ⟨t113, rfl, hT113⟩
      rintro _ ⟨t114, rfl, hT114⟩
      refine WL.val (v_buildA rfl rfl zero_64 Tryd.underlying64 sz_45 rfl) (.none rfl) rfl rfl ?_
      refine WL.fin fun w' hS' => ?_
      exact ⟨t113, t114, rfl, isQ (hT113.st hS') (hT114.st hS') rl9⟩
    refine all_cons ?_ ?_
    · -- slot 116
      intro w1 hS1 lx
      refine WL.call rfl rfl ck_28 (.none rfl) rfl rfl ?_
      intro w hS
      refine Calls.then (LPar_c w none 0 []) hS ?_
      refine WL.fin fun w' hS' => ?_
      exact ⟨.mk 15 0 0 0 none 0 [], rfl, isT_par0 _⟩
    refine all_cons ?_ ?_
    · -- slot 117
      intro w1 hS1 lx
      refine WL.val (v_loadN rfl rfl many_45 rfl (rangeIn (fun h => h) (allAt (g := g9) w1 hS1))) (.none rfl) rfl rfl ?_
      refine WL.fin fun w' hS' => ?_
      exact ⟨dropN, rfl, isT_drop _⟩
    refine all_cons ?_ ?_
    · -- slot 118
      intro w1 hS1 lx
      rintro _ ⟨t116, rfl, hT116⟩
      rintro _ ⟨t117, rfl, hT117⟩
      refine WL.val (v_buildA rfl rfl zero_64 Tryd.underlying64 sz_45 rfl) (.none rfl) rfl rfl ?_
      refine WL.fin fun w' hS' => ?_
      exact ⟨t116, t117, rfl, isQ (hT116.st hS') (hT117.st hS') rl10⟩
    refine all_cons ?_ ?_
    · -- slot 119
      intro w1 hS1 lx
      rintro _ ⟨p37, q37, rfl, hQ37⟩
      rintro _ ⟨p52, q52, rfl, hQ52⟩
      rintro _ ⟨p58, q58, rfl, hQ58⟩
      rintro _ ⟨p67, q67, rfl, hQ67⟩
      rintro _ ⟨p73, q73, rfl, hQ73⟩
      rintro _ ⟨p79, q79, rfl, hQ79⟩
      rintro _ ⟨p85, q85, rfl, hQ85⟩
      rintro _ ⟨p94, q94, rfl, hQ94⟩
      rintro _ ⟨p112, q112, rfl, hQ112⟩
      rintro _ ⟨p115, q115, rfl, hQ115⟩
      rintro _ ⟨p118, q118, rfl, hQ118⟩
      refine WL.buildSlice rfl rfl Tryd.underlying65 sz_64 zero_64 rfl (by decide) rfl (.none rfl) rfl rfl ?_
      intro g119 hg119
      refine WL.as (L' := [.row g119 (pairsL [(p37, q37), (p52, q52), (p58, q58), (p67, q67), (p73, q73), (p79, q79), (p85, q85), (p94, q94), (p112, q112), (p115, q115), (p118, q118)])]) rfl ?_
      refine WL.fin fun w' hS' => ?_
      exact ⟨g119, [(p37, q37), (p52, q52), (p58, q58), (p67, q67), (p73, q73), (p79, q79), (p85, q85), (p94, q94), (p112, q112), (p115, q115), (p118, q118)], rfl, allAt (g := g119) w' hS', rfl, all_cons (hQ37.st hS') (all_cons (hQ52.st hS') (all_cons (hQ58.st hS') (all_cons (hQ67.st hS') (all_cons (hQ73.st hS') (all_cons (hQ79.st hS') (all_cons (hQ85.st hS') (all_cons (hQ94.st hS') (all_cons (hQ112.st hS') (all_cons (hQ115.st hS') (all_cons (hQ118.st hS') (all_nil)))))))))))⟩
    refine all_cons ?_ ?_
    · -- slot 11
      intro w1 hS1 lx
      rintro _ ⟨b119, Ps, rfl, hb119, hPl, hPs⟩
      refine WL.val (v_assign rfl rfl) (.none rfl) rfl rfl ?_
      refine WL.fin fun w' hS' => ?_
      exact ⟨b119, Ps, rfl, rangeIn (fun h => h) hb119 w' hS', hPl, fun x hx => (hPs x hx).st hS'⟩
    exact all_nil
  intro w1 hS1
  rintro _ ⟨bp, Ps, rfl, hbp, hPl, hPs⟩
  refine WE.then_n ?_
  refine WC.seq ?_
  refine WC.seq ?_
  refine WC.region ?_
  refine WL.val (v_move rfl rfl) (.none rfl) rfl rfl ?_
  refine WL.val (v_len_slice rfl rfl Tryd.underlying65) (.none rfl) rfl rfl ?_
  refine WL.val (v_move rfl rfl) (.none rfl) rfl rfl ?_
  refine WL.nil ?_
  refine WE.then_n ?_
  refine WC.block ?_
  refine WC.loop (fun k : Nat => [(122, .int .i64 k), (121, .int .i64 11), (120, .slice (some ⟨bp, 0, none⟩) 11 11), (7, .pointer (some ⟨g7, 0, none⟩))]) (fun _ => []) (fun k => k ≤ 11) (fun k => 11 - k) 0 (Nat.zero_le _) (.cons rfl (.cons rfl (.cons rfl (.cons rfl .nil)))) (.refl _) ?_
  intro k hk
  have hGw : GW w1 := hG.keep (fun h => h) hS1
  refine WC.seq ?_
  refine WC.region ?_
  refine WL.test (v_lss rfl rfl rfl) (.none rfl) rfl rfl (fun h123 => ?_) (fun h123 => ?_)
  · -- 123T
    refine WL.nil ?_
    refine WE.then_n ?_
    refine WC.seq ?_
    refine WC.cond_t rfl ?_
    refine WC.skip ?_
    refine WE.then_n ?_
    refine WC.seq ?_
    refine WC.block ?_
    refine WC.seq ?_
    refine WC.region ?_
    obtain ⟨x, hx⟩ := ex_get (xs := Ps) (k := k) (by omega)
    have hq := hPs x (List.mem_of_getElem? hx)
    refine WL.val (v_indexAddr (b := bp) (off := 0) (lo := k) rfl rfl rfl Tryd.underlying65 sz_64 rfl (by omega)) (.none rfl) rfl rfl ?_
    refine WL.val (v_loadN (cs := ndL x.1 ++ ndL x.2) rfl rfl many_64 rfl (rangeIn (fun h => h) (pairsL_at hbp hx))) (.none rfl) rfl rfl ?_
    refine WL.alloc rfl zero_64 (.none rfl) rfl rfl ?_
    intro g13 hg13
    refine WL.storeW rfl rfl rfl rfl many_64 rfl rfl (.none rfl) rfl ?_
    refine WL.as (L' := [.row g13 (ndL x.1 ++ ndL x.2)]) rfl ?_
    refine WL.nil ?_
    refine WE.then_n ?_
    refine WC.seq ?_
    refine WC.seq ?_
    refine WC.region ?_
    refine WL.val (v_indexAddrA (lo := 0) rfl rfl rfl Tryd.underlying64 sz_45 rfl (by omega)) (.none rfl) rfl rfl ?_
    refine WL.val (v_loadN rfl rfl many_45 rfl (segAt (m := 5) rfl)) (.none rfl) rfl rfl ?_
    refine WL.call rfl rfl ck_20 (.none rfl) rfl rfl ?_
    intro w hS
    refine Calls.then (count_c _ x.1 (Nat.le_refl _) w 200 hq.in1 (hq.at1.st (fun _ h => h) hS) (by omega) (by omega)) hS ?_
    refine WL.test (v_gtr rfl rfl rfl) (.none rfl) rfl rfl (fun h129 => ?_) (fun h129 => ?_)
    · -- 129T
      refine WL.val (v_move rfl rfl) (.none rfl) rfl rfl ?_
      refine WL.skip rfl rfl rfl rfl rfl rfl ?_
      refine WL.skip rfl rfl rfl rfl rfl rfl ?_
      refine WL.skip rfl rfl rfl rfl rfl rfl ?_
      refine WL.skip rfl rfl rfl rfl rfl rfl ?_
      refine WL.val (v_pick_t rfl rfl rfl) (.none rfl) rfl rfl ?_
      refine WL.nil ?_
      refine WE.then_n ?_
      refine WC.cond_t rfl ?_
      refine WC.seq ?_
      refine WC.region ?_
      refine WL.val (v_assign rfl rfl) (.none rfl) rfl rfl ?_
      refine WL.nil ?_
      refine WE.then_n ?_
      refine WC.ret ?_
      refine WE.then_ret ?_
      refine WE.block_ret ?_
      refine WE.then_ret ?_
      refine WE.then_ret ?_
      refine WE.block_ret ?_
      refine WE.then_ret ?_
      refine WE.ret1 (P := Tryd.prog) (.inl rfl) Tryd.results5 rfl ?_
      exact fun w' h => ⟨rfl, hS1.frm.trans h.frm⟩
    · -- 129F
      refine WL.val (v_move rfl rfl) (.none rfl) rfl rfl ?_
      refine WL.val (v_indexAddrA (lo := 1) rfl rfl rfl Tryd.underlying64 sz_45 rfl (by omega)) (.some rfl rfl rfl) rfl rfl ?_
      refine WL.val (v_loadN rfl rfl many_45 rfl (segAt (m := 5) rfl)) (.some rfl rfl rfl) rfl rfl ?_
      refine WL.call rfl rfl ck_20 (.some rfl rfl rfl) rfl rfl ?_
      intro w hS
      refine Calls.then (count_c _ x.2 (Nat.le_refl _) w 200 hq.in2 (hq.at2.st (fun _ h => h) hS) (by omega) (by omega)) hS ?_
      refine WL.test (v_gtr rfl rfl rfl) (.some rfl rfl rfl) rfl rfl (fun h134 => ?_) (fun h134 => ?_)
      · -- 134T
        refine WL.val (v_pick_f rfl rfl rfl) (.none rfl) rfl rfl ?_
        refine WL.nil ?_
        refine WE.then_n ?_
        refine WC.cond_t rfl ?_
        refine WC.seq ?_
        refine WC.region ?_
        refine WL.val (v_assign rfl rfl) (.none rfl) rfl rfl ?_
        refine WL.nil ?_
        refine WE.then_n ?_
        refine WC.ret ?_
        refine WE.then_ret ?_
        refine WE.block_ret ?_
        refine WE.then_ret ?_
        refine WE.then_ret ?_
        refine WE.block_ret ?_
        refine WE.then_ret ?_
        refine WE.ret1 (P := Tryd.prog) (.inl rfl) Tryd.results5 rfl ?_
        exact fun w' h => ⟨rfl, hS1.frm.trans h.frm⟩
      · -- 134F
        refine WL.val (v_pick_f rfl rfl rfl) (.none rfl) rfl rfl ?_
        refine WL.nil ?_
        refine WE.then_n ?_
        refine WC.cond_f rfl ?_
        refine WC.skip ?_
        refine WE.then_n ?_
        refine WC.seq ?_
        refine WC.region ?_
        refine WL.val (v_indexAddrA (lo := 0) rfl rfl rfl Tryd.underlying64 sz_45 rfl (by omega)) (.none rfl) rfl rfl ?_
        refine WL.val (v_loadN rfl rfl many_45 rfl (segAt (m := 5) rfl)) (.none rfl) rfl rfl ?_
        refine WL.val (v_loadN rfl rfl many_31 rfl (rangeIn (fun h => h) (allAt (g := g7) w1 hS1))) (.none rfl) rfl rfl ?_
        refine WL.call rfl rfl ck_21 (.none rfl) rfl rfl ?_
        intro w2 hS
        refine (Run_c (fun _ => False) (fun _ h => h) w1 hGw _ w2 x.1 H hq.in1 (fun w' hS' => hq.at1.st (fun _ h => h) hS') hH hS).mono ?_
        rintro e w' ⟨Xs, adx, cx, Ex, ex, rfl, hVx, hS', hrx⟩
        refine ⟨_, _, rfl, hS', ?_⟩
        refine WL.val (v_move rfl rfl) (.none rfl) rfl rfl ?_
        refine WL.val (v_extract rfl rfl rfl) (.none rfl) rfl rfl ?_
        refine WL.val (v_extract rfl rfl rfl) (.none rfl) rfl rfl ?_
        refine WL.val (v_assign rfl rfl) (.none rfl) rfl rfl ?_
        refine WL.val (v_assign rfl rfl) (.none rfl) rfl rfl ?_
        refine WL.nil ?_
        refine WE.then_n ?_
        refine WC.seq ?_
        refine WC.region ?_
        refine WL.val (v_indexAddrA (lo := 1) rfl rfl rfl Tryd.underlying64 sz_45 rfl (by omega)) (.none rfl) rfl rfl ?_
        refine WL.val (v_loadN rfl rfl many_45 rfl (segAt (m := 5) rfl)) (.none rfl) rfl rfl ?_
        refine WL.val (v_loadN rfl rfl many_31 rfl (rangeIn (fun h => h) (allAt (g := g7) w1 hS1))) (.none rfl) rfl rfl ?_
        refine WL.call rfl rfl ck_21 (.none rfl) rfl rfl ?_
        intro w2 hS
        refine (Run_c (fun _ => False) (fun _ h => h) w1 hGw _ w2 x.2 H hq.in2 (fun w' hS' => hq.at2.st (fun _ h => h) hS') hH hS).mono ?_
        rintro e w' ⟨Ys, ady, cy, Ey, ey, rfl, hVy, hS', hry⟩
        refine ⟨_, _, rfl, hS', ?_⟩
        refine WL.val (v_move rfl rfl) (.none rfl) rfl rfl ?_
        refine WL.val (v_extract rfl rfl rfl) (.none rfl) rfl rfl ?_
        refine WL.val (v_extract rfl rfl rfl) (.none rfl) rfl rfl ?_
        refine WL.val (v_assign rfl rfl) (.none rfl) rfl rfl ?_
        refine WL.val (v_assign rfl rfl) (.none rfl) rfl rfl ?_
        refine WL.nil ?_
        refine WE.then_n ?_
        refine WC.seq ?_
        refine WC.seq ?_
        refine WC.region ?_
        refine WL.val (v_move rfl rfl) (.none rfl) rfl rfl ?_
        refine WL.test (v_neq rfl rfl rfl) (.none rfl) rfl rfl (fun h151 => ?_) (fun h151 => ?_)
        · -- 151T
          refine WL.val (v_move rfl rfl) (.none rfl) rfl rfl ?_
          refine WL.skip rfl rfl rfl rfl rfl rfl ?_
          refine WL.skip rfl rfl rfl rfl rfl rfl ?_
          refine WL.val (v_pick_t rfl rfl rfl) (.none rfl) rfl rfl ?_
          refine WL.nil ?_
          refine WE.then_n ?_
          refine WC.cond_t rfl ?_
          refine WC.exit ?_
          refine WE.then_exit ?_
          refine WE.block_hit ?_
          refine WE.then_n ?_
          refine WC.region ?_
          refine WL.val (v_add rfl rfl rfl (w_i64 (by omega) (by omega))) (.none rfl) rfl rfl ?_
          refine WL.val (v_move rfl rfl) (.none rfl) rfl rfl ?_
          refine WL.nil ?_
          exact WE.next (k + 1) (by omega) (by omega) (.int rfl (by omega) (.cons rfl (.cons rfl (.cons rfl .nil)))) (List.nil_sublist _)
        · -- 151F
          refine WL.val (v_move rfl rfl) (.none rfl) rfl rfl ?_
          refine WL.val (v_move rfl rfl) (.some rfl rfl rfl) rfl rfl ?_
          refine WL.test (v_neq rfl rfl rfl) (.some rfl rfl rfl) rfl rfl (fun h154 => ?_) (fun h154 => ?_)
          · -- 154T
            refine WL.val (v_pick_f rfl rfl rfl) (.none rfl) rfl rfl ?_
            refine WL.nil ?_
            refine WE.then_n ?_
            refine WC.cond_t rfl ?_
            refine WC.exit ?_
            refine WE.then_exit ?_
            refine WE.block_hit ?_
            refine WE.then_n ?_
            refine WC.region ?_
            refine WL.val (v_add rfl rfl rfl (w_i64 (by omega) (by omega))) (.none rfl) rfl rfl ?_
            refine WL.val (v_move rfl rfl) (.none rfl) rfl rfl ?_
            refine WL.nil ?_
            exact WE.next (k + 1) (by omega) (by omega) (.int rfl (by omega) (.cons rfl (.cons rfl (.cons rfl .nil)))) (List.nil_sublist _)
          · -- 154F
            refine WL.val (v_pick_f rfl rfl rfl) (.none rfl) rfl rfl ?_
            refine WL.nil ?_
            refine WE.then_n ?_
            refine WC.cond_f rfl ?_
            refine WC.skip ?_
            refine WE.then_n ?_
            refine WC.seq ?_
            refine WC.seq ?_
            refine WC.region ?_
            refine WL.val (v_move rfl rfl) (.none rfl) rfl rfl ?_
            refine WL.val (v_len_slice rfl rfl Tryd.underlying47) (.none rfl) rfl rfl ?_
            refine WL.val (v_move rfl rfl) (.none rfl) rfl rfl ?_
            refine WL.val (v_len_slice rfl rfl Tryd.underlying47) (.none rfl) rfl rfl ?_
            have hs := runs_same hrx hry hq.in1 hq.in2 hH (by omega) (by omega) (fun _ _ => hq.rel _)
            have hl64 := (hrx.keys hq.in1 hH (by omega)).2.2.2.2.2
            refine WL.val ((v_neq rfl rfl rfl).f (by have h9 := hs.1; omega)) (.none rfl) rfl rfl ?_
            refine WL.nil ?_
            refine WE.then_n ?_
            refine WC.cond_f rfl ?_
            refine WC.skip ?_
            refine WE.then_n ?_
            refine WC.seq ?_
            refine WC.region ?_
            refine WL.val (v_move rfl rfl) (.none rfl) rfl rfl ?_
            refine WL.val (v_len_slice rfl rfl Tryd.underlying47) (.none rfl) rfl rfl ?_
            refine WL.val (v_move rfl rfl) (.none rfl) rfl rfl ?_
            refine WL.nil ?_
            refine WE.then_n ?_
            refine WC.block ?_
            refine WC.loop (fun j : Nat => [(163, .int .i64 j), (162, .int .i64 Xs.length), (14, .slice adx Xs.length cx), (16, .slice ady Ys.length cy), (122, .int .i64 k), (121, .int .i64 11), (120, .slice (some ⟨bp, 0, none⟩) 11 11), (7, .pointer (some ⟨g7, 0, none⟩))]) (fun _ => Ey ++ (Ex ++ [.row g13 (ndL x.1 ++ ndL x.2)])) (fun j => j ≤ Xs.length) (fun j => Xs.length - j) 0 (Nat.zero_le _) (.cons rfl (.cons rfl (.cons rfl (.cons rfl (.cons rfl (.cons rfl (.cons rfl (.cons rfl .nil)))))))) (.refl _) ?_
            intro j hj
            refine WC.seq ?_
            refine WC.region ?_
            refine WL.test (v_lss rfl rfl rfl) (.none rfl) rfl rfl (fun h164 => ?_) (fun h164 => ?_)
            · -- 164T
              refine WL.nil ?_
              refine WE.then_n ?_
              refine WC.seq ?_
              refine WC.cond_t rfl ?_
              refine WC.skip ?_
              refine WE.then_n ?_
              refine WC.seq ?_
              refine WC.block ?_
              refine WC.seq ?_
              refine WC.region ?_
              refine WL.val (v_move rfl rfl) (.none rfl) rfl rfl ?_
              obtain ⟨A, hA⟩ := ex_get (xs := Xs) (k := j) (by omega)
              obtain ⟨B, hB⟩ := ex_get (xs := Ys) (k := j) (by have := hs.1; omega)
              obtain ⟨gx, eax⟩ := hVx.adr (by omega)
              obtain ⟨gy, eay⟩ := hVy.adr (by have := hs.1; omega)
              refine WL.val (v_assign rfl rfl) (.none rfl) rfl rfl ?_
              refine WL.nil ?_
              refine WE.then_n ?_
              refine WC.seq ?_
              refine WC.quiet mixed (by kernel_rfl) ?_
              refine WQ.val (v_move rfl rfl) (.none rfl) rfl rfl ?_
              refine WQ.val (v_move rfl rfl) (.none rfl) rfl rfl ?_
              refine WQ.val (v_indexAddr (b := gx) (off := 0) (lo := j) rfl (by show some (Value.slice adx _ _) = _; rw [eax]) rfl Tryd.underlying47 sz_31 rfl (by omega)) (.none rfl) rfl rfl ?_
              refine WQ.val (v_loadN (cs := hdL A) rfl rfl many_31 rfl (fun w' hS' => HdsAt.at (by rw [← eax]; exact hVx.hds hS' (fun e he => List.mem_append_right _ (List.mem_append_left _ he))) hA)) (.none rfl) rfl rfl ?_
              refine WQ.val (v_move rfl rfl) (.none rfl) rfl rfl ?_
              refine WQ.val (v_move rfl rfl) (.none rfl) rfl rfl ?_
              refine WQ.val (v_indexAddr (b := gy) (off := 0) (lo := j) rfl (by show some (Value.slice ady _ _) = _; rw [eay]) rfl Tryd.underlying47 sz_31 rfl (by have := hs.1; omega)) (.none rfl) rfl rfl ?_
              refine WQ.val (v_loadN (cs := hdL B) rfl rfl many_31 rfl (fun w' hS' => HdsAt.at (by rw [← eay]; exact hVy.hds hS' (fun e he => List.mem_append_left _ he)) hB)) (.none rfl) rfl rfl ?_
              refine WQ.val (v_neq_aggF rfl rfl rfl eqk_31 eqg_31 rfl rfl (by exact hs.2 j A B hA hB)) (.none rfl) rfl rfl ?_
              refine WQ.nil ?_
              refine WE.then_n ?_
              refine WC.cond_f rfl ?_
              refine WC.skip ?_
              refine WE.block_n ?_
              refine WE.then_n ?_
              refine WC.region ?_
              refine WL.val (v_add rfl rfl rfl (w_i64 (by omega) (by omega))) (.none rfl) rfl rfl ?_
              refine WL.val (v_move rfl rfl) (.none rfl) rfl rfl ?_
              refine WL.nil ?_
              exact WE.next (j + 1) (by omega) (by omega) (.int rfl (by omega) (.cons rfl (.cons rfl (.cons rfl (.cons rfl (.cons rfl (.cons rfl (.cons rfl .nil)))))))) (.refl _)
            · -- 164F
              refine WL.nil ?_
              refine WE.then_n ?_
              refine WC.seq ?_
              refine WC.cond_f rfl ?_
              refine WC.exit ?_
              refine WE.then_exit ?_
              refine WE.then_exit ?_
              refine WE.block_hit ?_
              refine WE.block_n ?_
              refine WE.then_n ?_
              refine WC.region ?_
              refine WL.val (v_add rfl rfl rfl (w_i64 (by omega) (by omega))) (.none rfl) rfl rfl ?_
              refine WL.val (v_move rfl rfl) (.none rfl) rfl rfl ?_
              refine WL.nil ?_
              exact WE.next (k + 1) (by omega) (by omega) (.int rfl (by omega) (.cons rfl (.cons rfl (.cons rfl .nil)))) (List.nil_sublist _)
  · -- 123F
    refine WL.nil ?_
    refine WE.then_n ?_
    refine WC.seq ?_
    refine WC.cond_f rfl ?_
    refine WC.exit ?_
    refine WE.then_exit ?_
    refine WE.then_exit ?_
    refine WE.block_hit ?_
    refine WE.then_n ?_
    refine WC.seq ?_
    refine WC.region ?_
    refine WL.val (v_assign rfl rfl) (.none rfl) rfl rfl ?_
    refine WL.nil ?_
    refine WE.then_n ?_
    refine WC.ret ?_
    refine WE.ret1 (P := Tryd.prog) (.inl rfl) Tryd.results5 rfl ?_
    exact fun w' h => ⟨rfl, hS1.frm.trans h.frm⟩
end Go.Proofs.YtodaanhhnjkncaaDoor
