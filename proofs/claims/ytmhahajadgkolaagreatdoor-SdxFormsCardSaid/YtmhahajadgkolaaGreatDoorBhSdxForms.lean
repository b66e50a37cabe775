/- Texts joined: engine, contracts and laws, in the order in which they build. -/
import Derived.Test.YtmhahajadgkolaaGreatDoorBgSdxForms
/- SdxForms, walked: which exchanges there may be; a nil one does nothing; a question for a next hop is answered. -/
namespace Go.Proofs.YtmhahajadgkolaaGreatDoor
open Go.RowKit

/-! ### An exchange that is none -/
abbrev nilP : Value := .pointer none
theorem nFrame_c (w : World) : Calls Tryz.prog 22 #[nilP, .int .i64 0, .slice none 0 0] w fun e w' => e = .returned (.tuple #[.slice none 0 0, .int .i64 1]) ∧ Frm (fun _ => False) w w' :=
  ev_call (k := 20) (vs := [nilP, .int .i64 0, .slice none 0 0]) w (by decide +kernel) rfl
theorem nSpot_c (w : World) : Calls Tryz.prog 21 #[nilP, .int .i64 0, .agg #[.int .u32 16777216, .int .i64 8]] w fun e w' => e = .returned (.tuple #[.agg #[.int .i64 0, .int .i64 0, .int .i64 0, .int .i64 0], .bool false]) ∧ Frm (fun _ => False) w w' :=
  ev_call (k := 20) (vs := [nilP, .int .i64 0, .agg #[.int .u32 16777216, .int .i64 8]]) w (by decide +kernel) rfl
theorem net1_c (w : World) : Calls Tryz.prog 23 #[.int .i64 1] w fun e w' => e = .returned (.agg #[.int .u32 16777216, .int .i64 8]) ∧ Frm (fun _ => False) w w' :=
  ev_call (k := 20) (vs := [.int .i64 1]) w (by decide +kernel) rfl
theorem nCounts_c (w : World) : Calls Tryz.prog 24 #[nilP] w fun e w' => e = .returned (.tuple #[.int .i64 0, .int .i64 0, .int .i64 0]) ∧ Frm (fun _ => False) w w' :=
  ev_call (k := 20) (vs := [nilP]) w (by decide +kernel) rfl
theorem nJoin_c (w : World) : Calls Tryz.prog 19 #[nilP, .int .i64 0] w fun e w' => e = .returned (.int .i64 1) ∧ Frm (fun _ => False) w w' :=
  ev_call (k := 20) (vs := [nilP, .int .i64 0]) w (by decide +kernel) rfl
theorem nLeave_c (w : World) : Calls Tryz.prog 18 #[nilP, .int .i64 0] w fun e w' => e = .returned (.int .i64 1) ∧ Frm (fun _ => False) w w' :=
  ev_call (k := 20) (vs := [nilP, .int .i64 0]) w (by decide +kernel) rfl
theorem nBlock_c (w : World) : Calls Tryz.prog 26 #[nilP, .int .i64 0, .int .i64 0, .bool true] w fun e w' => e = .returned (.int .i64 1) ∧ Frm (fun _ => False) w w' :=
  ev_call (k := 20) (vs := [nilP, .int .i64 0, .int .i64 0, .bool true]) w (by decide +kernel) rfl
theorem nRec_c (w : World) : Calls Tryz.prog 27 #[nilP] w fun e w' => e = .returned (.int .i64 1) ∧ Frm (fun _ => False) w w' :=
  ev_call (k := 20) (vs := [nilP]) w (by decide +kernel) rfl
theorem nAdv_c (w : World) : Calls Tryz.prog 17 #[nilP, .int .i64 0] w fun e w' => e = .returned (.slice none 0 0) ∧ Frm (fun _ => False) w w' :=
  ev_call (k := 20) (vs := [nilP, .int .i64 0]) w (by decide +kernel) rfl
abbrev ndZ : Value := .agg #[.int .i64 0, .int .i64 0, .int .u64 0, .int .u64 0, .slice none 0 0]
abbrev msZ : Value := .agg #[.int .i64 0, .int .i64 0, .int .i64 0, .int .u32 0, .slice none 0 0, .slice none 0 0, .int .i64 0, .int .i64 0, .slice none 0 0, .int .u32 0, .int .i64 0, .int .i64 0, .int .i64 0, .int .u32 0, .slice none 0 0, .slice none 0 0, .slice none 0 0, .int .i64 0, .int .i64 0, .string ⟨#[]⟩]
abbrev hdZ : Value := .agg #[.int .i64 0, .int .u8 0, .int .u8 0, .int .u8 0, .int .u8 0, .int .u8 0, .int .u8 0, .int .u8 0, .int .u8 0, .int .u8 0, .int .u8 0, .int .u8 0, .int .u8 0, .int .i64 0, .int .u32 0, .int .u32 0, .int .i64 0, .int .i64 0, .int .i64 0]
theorem nPol_c (w : World) : Calls Tryz.prog 12 #[nilP, .int .i64 0, ndZ, ndZ] w fun e w' => e = .returned (.int .i64 1) ∧ Frm (fun _ => False) w w' :=
  ev_call (k := 20) (vs := [nilP, .int .i64 0, ndZ, ndZ]) w (by decide +kernel) rfl
theorem nUpd_c (w : World) : Calls Tryz.prog 25 #[nilP, .int .i64 0, msZ] w fun e w' => e = .returned (.int .i64 1) ∧ Frm (fun _ => False) w w' :=
  ev_call (k := 20) (vs := [nilP, .int .i64 0, msZ]) w (by decide +kernel) rfl
theorem nModel_c (w : World) : Calls Tryz.prog 28 #[nilP, hdZ] w fun e w' => e = .returned (.slice none 0 0) ∧ Frm (fun _ => False) w w' :=
  ev_call (k := 20) (vs := [nilP, hdZ]) w (by decide +kernel) rfl
theorem gwv_of {w : World} (h : GW w) : GWv w := fun i v hv => by
  have hi : i < 9 := (List.getElem?_eq_some_iff.1 hv).1
  have h1 := h i hi
  have h2 : some (Value.int .i64 (wdN i)) = some v := by
    rw [← hv]
    match i, hi with
    | 0, _ | 1, _ | 2, _ | 3, _ | 4, _ | 5, _ | 6, _ | 7, _ | 8, _ => rfl
  rw [h1, h2]
section
variable {P : Program} {C : World → Prop} {n : Nat} {o : Oper} {l : Kn} {x y : Operand} {t yt : TypeId}
theorem v_eqlP {q : Prop} [Decidable q] {ds : TypeDesc} {v : Value} (ho : o.op = .binOp .eql t x (.const (.pointer none)) yt) (hx : ev l x = some v) (hu : P.underlying t = some ds) (hd : nilEq ds (.pointer none) (.pointer none) = some true) (hd2 : ∀ g, nilEq ds (.pointer (some ⟨g, 0, none⟩)) (.pointer none) = some false) (h1 : q → v = .pointer none) (h2 : ¬ q → ∃ g, v = .pointer (some ⟨g, 0, none⟩)) : Val P C n l o (.bool (decide q)) := by
  by_cases hq : q
  · rw [decide_eq_true hq]
    exact v_eql_nil true ho (by rw [hx, h1 hq]) hu hd
  · obtain ⟨g, e⟩ := h2 hq
    rw [decide_eq_false hq]
    exact v_eql_nil false ho (by rw [hx, e]) hu (hd2 g)
end
set_option maxRecDepth 8000 in
set_option maxHeartbeats 4000000 in
theorem SdxForms_all (w0 : World) (hG : GW w0) (own q rules tags : Int) (sa ma : Option Addr) (sc mc : Nat) (ss : List (Int × Int)) (macs : List (Nat → Int)) (hR : Rg w0 sa (encL sdL ss)) (hMs : Rg w0 ma (macsL macs)) (hB : ∀ f ∈ macs, Byt f) (A : Ak) (hA : A.Fits) :
    Calls Tryz.prog 5 #[.agg (cfL own q rules tags sa ma ss.length sc macs.length mc).toArray, .agg (akCells A).toArray] w0 fun e w' => e = .returned (.bool true) ∧ Frm (fun _ => False) w0 w' := by
  refine enter Tryz.func5 rfl Tryz.ntmps5 rfl (St.start (fun _ => False) w0) ?_
  refine WC.seq <| WC.region <| WL.box rfl rfl rfl (.none rfl) rfl rfl <| ?_
  intro g2 hg2
  refine WL.box rfl rfl rfl (.none rfl) rfl rfl ?_
  intro g3 hg3
  refine WL.v (v_assign rfl rfl) rfl <| WL.nt <| WC.seq <| WC.seq <| WC.region <| WL.call rfl rfl ck_7 (.none rfl) rfl rfl <| ?_
  intro w hS
  refine Calls.then (head0_c w (gwv_of (hG.keep (fun h => h) hS))) hS ?_
  refine WL.v (v_not rfl rfl rfl) rfl <| WL.nt <| WC.cond_f rfl <| WC.skip <| WE.then_n <| WC.seq <| WC.seq <| WC.region <| WL.v (v_fieldAddr0 rfl rfl fld_51_1) rfl <| WL.v (v_load1 rfl rfl one_48 (cellAt (v := .slice sa ss.length sc) rfl)) rfl <| WL.v (v_len_slice rfl rfl Tryz.underlying48) rfl <| ?_
  refine WL.test (v_gtr rfl rfl rfl) (.none rfl) rfl rfl (fun h26 => ?_) (fun h26 => ?_)
  ·
   refine WL.v (v_move rfl rfl) rfl ?_
   iterate 4 refine WL.sk rfl ?_
   refine WL.v (v_pick_t rfl rfl rfl) rfl <| WL.nt <| WC.cond_t rfl <| WC.seq <| WC.region <| WL.v (v_assign rfl rfl) rfl <| WL.nt <| WC.ret <| WE.then_ret <| WE.ret1 (P := Tryz.prog) (.inl rfl) Tryz.results5 rfl <| ?_
   exact fun w' h => ⟨rfl, h.frm⟩
  ·
   refine WL.v (v_move rfl rfl) rfl <| WL.val (v_fieldAddr0 rfl rfl fld_51_2) (.some rfl rfl rfl) rfl rfl <| WL.val (v_load1 rfl rfl one_49 (cellAt (v := .slice ma macs.length mc) rfl)) (.some rfl rfl rfl) rfl rfl <| WL.val (v_len_slice rfl rfl Tryz.underlying49) (.some rfl rfl rfl) rfl rfl <| ?_
   refine WL.test (v_gtr rfl rfl rfl) (.some rfl rfl rfl) rfl rfl (fun h31 => ?_) (fun h31 => ?_)
   ·
    refine WL.v (v_pick_f rfl rfl rfl) rfl <| WL.nt <| WC.cond_t rfl <| WC.seq <| WC.region <| WL.v (v_assign rfl rfl) rfl <| WL.nt <| WC.ret <| WE.then_ret <| WE.ret1 (P := Tryz.prog) (.inl rfl) Tryz.results5 rfl <| ?_
    exact fun w' h => ⟨rfl, h.frm⟩
   ·
    refine WL.v (v_pick_f rfl rfl rfl) rfl <| WL.nt <| WC.cond_f rfl <| WC.skip <| WE.then_n <| WC.seq <| WC.region <| WL.v (v_loadN rfl rfl many_51 rfl (segAt (g := g2) (m := 6) (new := cfL own q rules tags sa ma ss.length sc macs.length mc) rfl)) rfl <| WL.call rfl rfl ck_9 (.none rfl) rfl rfl <| ?_
    intro w1 hS
    refine (sxnew_c w1 own q rules tags sa ma sc mc ss macs (hR.frm hS.frm (fun _ _ _ h => h)) (hMs.frm hS.frm (fun _ _ _ h => h)) hB (by omega) (hG.keep (fun h => h) hS)).mono ?_
    rintro e w' ⟨v, K, rfl, hv1, hv2, hS'⟩
    refine ⟨_, _, rfl, hS.join hS', ?_⟩
    refine WL.v (v_move rfl rfl) rfl <| WL.v (v_extract rfl rfl rfl) rfl <| WL.v (v_extract rfl rfl rfl) rfl <| WL.v (v_assign rfl rfl) rfl <| WL.v (v_assign rfl rfl) rfl <| WL.nt <| WC.seq <| WC.region <| WL.v (v_fieldAddr0 rfl rfl fld_51_0) rfl <| WL.v (v_load1 rfl rfl one_3 (cellAt (v := .int .i64 own) rfl)) rfl <| WL.v (v_fieldAddr0 rfl rfl fld_51_1) rfl <| WL.v (v_load1 rfl rfl one_48 (cellAt (v := .slice sa ss.length sc) rfl)) rfl <| WL.v (v_fieldAddr0 rfl rfl fld_51_3) rfl <| WL.v (v_load1 rfl rfl one_3 (cellAt (v := .int .i64 q) rfl)) rfl <| ?_
    refine WL.call rfl rfl ck_15 (.none rfl) rfl rfl ?_
    intro w1 hS
    refine (snew_c w1 own q sa sc ss (hR.frm hS.frm (fun _ _ _ h => h)) (by omega)).mono ?_
    rintro e w' ⟨v2, K2, rfl, _, _, hS'⟩
    refine ⟨_, _, rfl, hS.join hS', ?_⟩
    refine WL.v (v_move rfl rfl) rfl <| WL.v (v_extract rfl rfl rfl) rfl <| WL.v (v_extract rfl rfl rfl) rfl <| WL.v (v_assign rfl rfl) rfl <| WL.v (v_assign rfl rfl) rfl <| WL.nt <| WC.seq <| WC.region <| WL.v (v_move rfl rfl) rfl <| WL.v (v_assign rfl rfl) rfl <| WL.nt <| ?_
    refine WC.cut (fun _ : Unit => [(9, .int .i64 (sxE own rules tags ss macs.length)), (6, .int .i64 (sxE own rules tags ss macs.length)), (5, v), (2, .pointer (some ⟨g2, 0, none⟩)), (3, .pointer (some ⟨g3, 0, none⟩))]) (fun _ => K ++ [.row g3 (akCells A), .row g2 (cfL own q rules tags sa ma ss.length sc macs.length mc)]) (fun _ => True) ?_ ?_
    ·
     refine WC.seq <| WC.region <| WL.v (v_move rfl rfl) rfl <| ?_
     refine WL.test (v_eql rfl rfl rfl) (.none rfl) rfl rfl (fun h50 => ?_) (fun h50 => ?_)
     ·
      refine WL.v (v_move rfl rfl) rfl <| WL.val (v_fieldAddr0 rfl rfl fld_51_2) (.some rfl rfl rfl) rfl rfl <| WL.val (v_load1 rfl rfl one_49 (cellAt (v := .slice ma macs.length mc) rfl)) (.some rfl rfl rfl) rfl rfl <| WL.val (v_len_slice rfl rfl Tryz.underlying49) (.some rfl rfl rfl) rfl rfl <| WL.val (v_fieldAddr0 rfl rfl fld_51_1) (.some rfl rfl rfl) rfl rfl <| WL.val (v_load1 rfl rfl one_48 (cellAt (v := .slice sa ss.length sc) rfl)) (.some rfl rfl rfl) rfl rfl <| WL.val (v_len_slice rfl rfl Tryz.underlying48) (.some rfl rfl rfl) rfl rfl <| ?_
      refine WL.test (v_neq rfl rfl rfl) (.some rfl rfl rfl) rfl rfl (fun h58 => ?_) (fun h58 => ?_)
      ·
       refine WL.val (v_move rfl rfl) (.some rfl rfl rfl) rfl rfl ?_
       iterate 3 refine WL.sk rfl ?_
       refine WL.val (v_pick_t rfl rfl rfl) (.some rfl rfl rfl) rfl rfl <| WL.val (v_move rfl rfl) (.some rfl rfl rfl) rfl rfl <| ?_
       iterate 3 refine WL.sk rfl ?_
       refine WL.val (v_pick_t rfl rfl rfl) (.some rfl rfl rfl) rfl rfl <| WL.val (v_move rfl rfl) (.some rfl rfl rfl) rfl rfl <| ?_
       iterate 3 refine WL.sk rfl ?_
       refine WL.val (v_pick_t rfl rfl rfl) (.some rfl rfl rfl) rfl rfl <| WL.val (v_move rfl rfl) (.some rfl rfl rfl) rfl rfl <| ?_
       iterate 3 refine WL.sk rfl ?_
       refine WL.val (v_pick_t rfl rfl rfl) (.some rfl rfl rfl) rfl rfl <| WL.v (v_pick_t rfl rfl rfl) rfl <| WL.nt <| WC.cond_t rfl <| WC.region <| WL.v (v_assign rfl rfl) rfl <| WL.nil <| WE.to (L' := K ++ [.row g3 (akCells A), .row g2 (cfL own q rules tags sa ma ss.length sc macs.length mc)]) (fun w hS => hS.dropX K2) <| ?_
       exact WE.mid () trivial (.int rfl (by unfold sxE; split <;> (try split) <;> omega) (.cons rfl (.cons rfl (.cons rfl (.cons rfl .nil))))) (.refl _)
      ·
       refine WL.val (v_move rfl rfl) (.some rfl rfl rfl) rfl rfl <| WL.val (v_fieldAddr0 rfl rfl fld_51_4) (.some rfl rfl rfl) rfl rfl <| WL.val (v_load1 rfl rfl one_3 (cellAt (v := .int .i64 rules) rfl)) (.some rfl rfl rfl) rfl rfl <| ?_
       refine WL.test (v_lss rfl rfl rfl) (.some rfl rfl rfl) rfl rfl (fun h62 => ?_) (fun h62 => ?_)
       ·
        refine WL.val (v_pick_f rfl rfl rfl) (.some rfl rfl rfl) rfl rfl <| WL.val (v_move rfl rfl) (.some rfl rfl rfl) rfl rfl <| ?_
        iterate 3 refine WL.sk rfl ?_
        refine WL.val (v_pick_t rfl rfl rfl) (.some rfl rfl rfl) rfl rfl <| WL.val (v_move rfl rfl) (.some rfl rfl rfl) rfl rfl <| ?_
        iterate 3 refine WL.sk rfl ?_
        refine WL.val (v_pick_t rfl rfl rfl) (.some rfl rfl rfl) rfl rfl <| WL.val (v_move rfl rfl) (.some rfl rfl rfl) rfl rfl <| ?_
        iterate 3 refine WL.sk rfl ?_
        refine WL.val (v_pick_t rfl rfl rfl) (.some rfl rfl rfl) rfl rfl <| WL.v (v_pick_t rfl rfl rfl) rfl <| WL.nt <| WC.cond_t rfl <| WC.region <| WL.v (v_assign rfl rfl) rfl <| WL.nil <| WE.to (L' := K ++ [.row g3 (akCells A), .row g2 (cfL own q rules tags sa ma ss.length sc macs.length mc)]) (fun w hS => hS.dropX K2) <| ?_
        exact WE.mid () trivial (.int rfl (by unfold sxE; split <;> (try split) <;> omega) (.cons rfl (.cons rfl (.cons rfl (.cons rfl .nil))))) (.refl _)
       ·
        refine WL.val (v_pick_f rfl rfl rfl) (.some rfl rfl rfl) rfl rfl <| WL.val (v_move rfl rfl) (.some rfl rfl rfl) rfl rfl <| WL.val (v_fieldAddr0 rfl rfl fld_51_4) (.some rfl rfl rfl) rfl rfl <| WL.val (v_load1 rfl rfl one_3 (cellAt (v := .int .i64 rules) rfl)) (.some rfl rfl rfl) rfl rfl <| ?_
        refine WL.test (v_gtr rfl rfl rfl) (.some rfl rfl rfl) rfl rfl (fun h67 => ?_) (fun h67 => ?_)
        ·
         refine WL.val (v_pick_f rfl rfl rfl) (.some rfl rfl rfl) rfl rfl <| WL.val (v_move rfl rfl) (.some rfl rfl rfl) rfl rfl <| ?_
         iterate 3 refine WL.sk rfl ?_
         refine WL.val (v_pick_t rfl rfl rfl) (.some rfl rfl rfl) rfl rfl <| WL.val (v_move rfl rfl) (.some rfl rfl rfl) rfl rfl <| ?_
         iterate 3 refine WL.sk rfl ?_
         refine WL.val (v_pick_t rfl rfl rfl) (.some rfl rfl rfl) rfl rfl <| WL.v (v_pick_t rfl rfl rfl) rfl <| WL.nt <| WC.cond_t rfl <| WC.region <| WL.v (v_assign rfl rfl) rfl <| WL.nil <| WE.to (L' := K ++ [.row g3 (akCells A), .row g2 (cfL own q rules tags sa ma ss.length sc macs.length mc)]) (fun w hS => hS.dropX K2) <| ?_
         exact WE.mid () trivial (.int rfl (by unfold sxE; split <;> (try split) <;> omega) (.cons rfl (.cons rfl (.cons rfl (.cons rfl .nil))))) (.refl _)
        ·
         refine WL.val (v_pick_f rfl rfl rfl) (.some rfl rfl rfl) rfl rfl <| WL.val (v_move rfl rfl) (.some rfl rfl rfl) rfl rfl <| WL.val (v_fieldAddr0 rfl rfl fld_51_5) (.some rfl rfl rfl) rfl rfl <| WL.val (v_load1 rfl rfl one_3 (cellAt (v := .int .i64 tags) rfl)) (.some rfl rfl rfl) rfl rfl <| ?_
         refine WL.test (v_lss rfl rfl rfl) (.some rfl rfl rfl) rfl rfl (fun h72 => ?_) (fun h72 => ?_)
         ·
          refine WL.val (v_pick_f rfl rfl rfl) (.some rfl rfl rfl) rfl rfl <| WL.val (v_move rfl rfl) (.some rfl rfl rfl) rfl rfl <| ?_
          iterate 3 refine WL.sk rfl ?_
          refine WL.val (v_pick_t rfl rfl rfl) (.some rfl rfl rfl) rfl rfl <| WL.v (v_pick_t rfl rfl rfl) rfl <| WL.nt <| WC.cond_t rfl <| WC.region <| WL.v (v_assign rfl rfl) rfl <| WL.nil <| WE.to (L' := K ++ [.row g3 (akCells A), .row g2 (cfL own q rules tags sa ma ss.length sc macs.length mc)]) (fun w hS => hS.dropX K2) <| ?_
          exact WE.mid () trivial (.int rfl (by unfold sxE; split <;> (try split) <;> omega) (.cons rfl (.cons rfl (.cons rfl (.cons rfl .nil))))) (.refl _)
         ·
          refine WL.val (v_pick_f rfl rfl rfl) (.some rfl rfl rfl) rfl rfl <| WL.val (v_move rfl rfl) (.some rfl rfl rfl) rfl rfl <| WL.val (v_fieldAddr0 rfl rfl fld_51_5) (.some rfl rfl rfl) rfl rfl <| WL.val (v_load1 rfl rfl one_3 (cellAt (v := .int .i64 tags) rfl)) (.some rfl rfl rfl) rfl rfl <| ?_
          refine WL.test (v_gtr rfl rfl rfl) (.some rfl rfl rfl) rfl rfl (fun h77 => ?_) (fun h77 => ?_)
          ·
           refine WL.val (v_pick_f rfl rfl rfl) (.some rfl rfl rfl) rfl rfl <| WL.v (v_pick_t rfl rfl rfl) rfl <| WL.nt <| WC.cond_t rfl <| WC.region <| WL.v (v_assign rfl rfl) rfl <| WL.nil <| WE.to (L' := K ++ [.row g3 (akCells A), .row g2 (cfL own q rules tags sa ma ss.length sc macs.length mc)]) (fun w hS => hS.dropX K2) <| ?_
           exact WE.mid () trivial (.int rfl (by unfold sxE; split <;> (try split) <;> omega) (.cons rfl (.cons rfl (.cons rfl (.cons rfl .nil))))) (.refl _)
          ·
           refine WL.val (v_pick_f rfl rfl rfl) (.some rfl rfl rfl) rfl rfl <| WL.v (v_pick_t rfl rfl rfl) rfl <| WL.nt <| WC.cond_f rfl <| WC.skip <| WE.to (L' := K ++ [.row g3 (akCells A), .row g2 (cfL own q rules tags sa ma ss.length sc macs.length mc)]) (fun w hS => hS.dropX K2) <| ?_
           exact WE.mid () trivial (.int rfl (by unfold sxE; split <;> (try split) <;> omega) (.cons rfl (.cons rfl (.cons rfl (.cons rfl .nil))))) (.refl _)
     ·
      refine WL.v (v_move rfl rfl) rfl ?_
      iterate 27 refine WL.sk rfl ?_
      refine WL.v (v_pick_f rfl rfl rfl) rfl <| WL.nt <| WC.cond_f rfl <| WC.skip <| WE.to (L' := K ++ [.row g3 (akCells A), .row g2 (cfL own q rules tags sa ma ss.length sc macs.length mc)]) (fun w hS => hS.dropX K2) <| ?_
      exact WE.mid () trivial (.int rfl (by unfold sxE; split <;> (try split) <;> omega) (.cons rfl (.cons rfl (.cons rfl (.cons rfl .nil))))) (.refl _)
    ·
     intro _ _
     refine WC.seq <| WC.seq <| WC.region <| WL.v (v_move rfl rfl) rfl <| WL.v (v_move rfl rfl) rfl <| ?_
     refine WL.v ((v_neq rfl rfl rfl).f (by omega)) rfl ?_
     refine WL.v (v_move rfl rfl) rfl <| WL.val (v_move rfl rfl) (.some rfl rfl rfl) rfl rfl <| ?_
     refine WL.val (v_eqlP (q := sxE own rules tags ss macs.length ≠ 0) rfl rfl Tryz.underlying44 rfl (fun _ => rfl) hv1 (fun k => by obtain ⟨x, M, e, _⟩ := hv2 (Decidable.of_not_not k); exact ⟨_, e⟩)) (.some rfl rfl rfl) rfl rfl ?_
     generalize h85 : decide (sxE own rules tags ss macs.length ≠ 0) = b85
     cases b85
     ·
      refine WL.val (v_move rfl rfl) (.some rfl rfl rfl) rfl rfl <| WL.val ((v_neq rfl rfl rfl).f (of_decide_eq_false h85)) (.some rfl rfl rfl) rfl rfl <| ?_
      refine WL.val ((v_neq_bool rfl rfl rfl Tryz.underlying4).f (by decide)) (.some rfl rfl rfl) rfl rfl ?_
      refine WL.v (v_pick_f rfl rfl rfl) rfl <| WL.nt <| WC.cond_f rfl <| WC.skip <| WE.then_n <| WC.seq <| WC.seq <| WC.region <| ?_
      obtain ⟨x, M, rfl, rfl, hX⟩ := hv2 (Decidable.of_not_not (of_decide_eq_false h85))
      refine WL.as (L' := .row x.gx x.cells :: .row x.gsp (mapsL x.bs) :: .row x.gT [.int .i64 x.most, .slice x.ta 0 x.tc] :: (M ++ [.row g3 (akCells A), .row g2 (cfL own q rules tags sa ma ss.length sc macs.length mc)])) rfl <| WL.v (v_move rfl rfl) rfl <| WL.v (v_eql_nil false rfl rfl Tryz.underlying44 rfl) rfl <| WL.nt <| WC.cond_f rfl <| WC.skip <| WE.then_n <| WC.seq <| WC.region <| WL.v (v_fieldAddr0 rfl rfl fld_95_0) rfl <| WL.store1 rfl rfl rfl rfl one_4 (Nat.le_of_ble_eq_true rfl) (.none rfl) rfl <| WL.rowTo (g := g3) (cs' := akCells ⟨false, A.mac, A.ip, A.tmac, A.tip⟩) rfl <| ?_
      have hA' : Ak.Fits ⟨false, A.mac, A.ip, A.tmac, A.tip⟩ := ⟨hA.mac, hA.tmac, hA.ip, hA.tip⟩
      refine WL.nt <| WC.seq <| WC.region <| WL.v (v_move rfl rfl) rfl <| WL.v (v_loadN rfl rfl many_95 rfl (segAt (g := g3) (m := 15) (new := akCells ⟨false, A.mac, A.ip, A.tmac, A.tip⟩) rfl)) rfl <| WL.call rfl rfl ck_29 (.none rfl) rfl rfl <| ?_
      intro w1 hS
      refine (EmitArp_c ⟨false, A.mac, A.ip, A.tmac, A.tip⟩ hS hA.ip.1 hA.ip.2 hA.tip.1 hA.tip.2).mono ?_
      rintro e w' ⟨g173, _, rfl, hS'⟩
      refine ⟨_, _, rfl, hS', ?_⟩
      refine WL.call rfl rfl ck_22 (.none rfl) rfl rfl ?_
      intro w hS
      refine Calls.then (FrameA_c w x hX.isIn ⟨false, A.mac, A.ip, A.tmac, A.tip⟩ hA' rfl _ 42 (rdoAt hS rfl) (by omega) (hX.rd w (fun e he => hS.holds e (by simp [he]))).1 (hS.row (g := x.gx))) hS ?_
      refine WL.v (v_move rfl rfl) rfl <| WL.v (v_extract rfl rfl rfl) rfl <| WL.v (v_extract rfl rfl rfl) rfl <| WL.v (v_assign rfl rfl) rfl <| WL.v (v_assign rfl rfl) rfl <| WL.nt <| WC.seq <| WC.region <| WL.v (v_move rfl rfl) rfl <| WL.v (v_fieldAddr0 rfl rfl fld_51_1) rfl <| WL.v (v_load1 rfl rfl one_48 (cellAt (v := .slice sa ss.length sc) rfl)) rfl <| WL.v (v_len_slice rfl rfl Tryz.underlying48) rfl <| WL.call rfl rfl ck_22 (.none rfl) rfl rfl <| ?_
      intro w hS
      refine Calls.then (FrameX_c w x ss.length (by rw [hX.n]; omega) _ (hS.row (g := x.gx))) hS ?_
      refine WL.v (v_move rfl rfl) rfl <| WL.v (v_extract rfl rfl rfl) rfl <| WL.v (v_extract rfl rfl rfl) rfl <| WL.v (v_assign rfl rfl) rfl <| WL.v (v_assign rfl rfl) rfl <| WL.nt <| WC.seq <| WC.region <| WL.v (v_move rfl rfl) rfl <| ?_
      refine WL.v ((v_eql rfl rfl rfl).t (by omega)) rfl ?_
      refine WL.v (v_move rfl rfl) rfl <| WL.val (v_move rfl rfl) (.some rfl rfl rfl) rfl rfl <| ?_
      refine WL.val ((v_eql rfl rfl rfl).t (by omega)) (.some rfl rfl rfl) rfl rfl ?_
      refine WL.v (v_pick_t rfl rfl rfl) rfl <| WL.v (v_move rfl rfl) rfl <| WL.val (v_move rfl rfl) (.some rfl rfl rfl) rfl rfl <| WL.call rfl rfl ck_27 (.some rfl rfl rfl) rfl rfl <| ?_
      intro w1 hS
      have h2 : St (fun _ => False) w0 w1 (.row x.gx x.cells :: .row x.gsp (mapsL x.bs) :: .row x.gT [.int .i64 x.most, .slice x.ta 0 x.tc] :: (.row g173 (bcs (arpF ⟨false, A.mac, A.ip, A.tmac, A.tip⟩) 42) :: (M ++ [.row g3 (akCells ⟨false, A.mac, A.ip, A.tmac, A.tip⟩), .row g2 (cfL own q rules tags sa ma ss.length sc macs.length mc)]))) := (by
        have h : St (fun _ => False) w0 w1 (.row g173 (bcs (arpF ⟨false, A.mac, A.ip, A.tmac, A.tip⟩) 42) :: (.row x.gx x.cells :: .row x.gsp (mapsL x.bs) :: .row x.gT [.int .i64 x.most, .slice x.ta 0 x.tc] :: (M ++ [.row g3 (akCells ⟨false, A.mac, A.ip, A.tmac, A.tip⟩), .row g2 (cfL own q rules tags sa ma ss.length sc macs.length mc)]))) := hS
        exact h.permX)
      refine (Rec0_c w0 w1 _ x hX.isIn h2 (fun w2 h => (hX.rd w2 fun e he => h e (by simp [he])).1)).mono ?_
      rintro e w' ⟨rfl, L', hS'⟩
      refine ⟨_, _, rfl, hS', ?_⟩
      refine WL.val ((v_eql rfl rfl rfl).t (by omega)) (.some rfl rfl rfl) rfl rfl ?_
      refine WL.v (v_pick_t rfl rfl rfl) rfl <| WL.v (v_assign rfl rfl) rfl <| WL.nt <| WC.ret <| WE.ret1 (P := Tryz.prog) (.inl rfl) Tryz.results5 rfl <| ?_
      exact fun w' h => ⟨rfl, h.frm⟩
     ·
      refine WL.val (v_move rfl rfl) (.some rfl rfl rfl) rfl rfl <| WL.val ((v_neq rfl rfl rfl).t (of_decide_eq_true h85)) (.some rfl rfl rfl) rfl rfl <| ?_
      refine WL.val ((v_neq_bool rfl rfl rfl Tryz.underlying4).f (by decide)) (.some rfl rfl rfl) rfl rfl ?_
      refine WL.v (v_pick_f rfl rfl rfl) rfl <| WL.nt <| WC.cond_f rfl <| WC.skip <| WE.then_n <| WC.seq <| WC.seq <| WC.region <| ?_
      obtain rfl := hv1 (of_decide_eq_true h85)
      refine WL.v (v_move rfl rfl) rfl <| WL.v (v_eql_nil true rfl rfl Tryz.underlying44 rfl) rfl <| WL.nt <| WC.cond_t rfl <| WC.seq <| WC.region <| WL.v (v_move rfl rfl) rfl <| WL.call rfl rfl ck_22 (.none rfl) rfl rfl <| ?_
      intro w hS
      refine Calls.then (nFrame_c w) hS ?_
      refine WL.v (v_move rfl rfl) rfl <| WL.v (v_extract rfl rfl rfl) rfl <| WL.v (v_extract rfl rfl rfl) rfl <| WL.v (v_assign rfl rfl) rfl <| WL.v (v_assign rfl rfl) rfl <| WL.nt <| WC.seq <| WC.region <| WL.v (v_move rfl rfl) rfl <| WL.call rfl rfl ck_23 (.none rfl) rfl rfl <| ?_
      intro w hS
      refine Calls.then (net1_c w) hS ?_
      refine WL.call rfl rfl ck_21 (.none rfl) rfl rfl ?_
      intro w hS
      refine Calls.then (nSpot_c w) hS ?_
      refine WL.v (v_move rfl rfl) rfl <| WL.v (v_extract rfl rfl rfl) rfl <| WL.v (v_extract rfl rfl rfl) rfl <| WL.alloc rfl zero_86 (.none rfl) rfl rfl <| ?_
      intro g12 hg12
      refine WL.storeW rfl rfl rfl rfl many_86 rfl rfl (.none rfl) rfl <| WL.v (v_assign rfl rfl) rfl <| WL.nt <| WC.seq <| WC.region <| WL.v (v_move rfl rfl) rfl <| WL.call rfl rfl ck_24 (.none rfl) rfl rfl <| ?_
      intro w hS
      refine Calls.then (nCounts_c w) hS ?_
      refine WL.v (v_move rfl rfl) rfl <| WL.v (v_extract rfl rfl rfl) rfl <| WL.v (v_extract rfl rfl rfl) rfl <| WL.v (v_extract rfl rfl rfl) rfl <| WL.v (v_assign rfl rfl) rfl <| WL.v (v_assign rfl rfl) rfl <| WL.v (v_assign rfl rfl) rfl <| WL.nt <| WC.seq <| WC.region <| WL.v (v_move rfl rfl) rfl <| WL.call rfl rfl ck_19 (.none rfl) rfl rfl <| ?_
      intro w hS
      refine Calls.then (nJoin_c w) hS ?_
      refine WL.v ((v_eql rfl rfl rfl).t (by omega)) rfl ?_
      refine WL.v (v_move rfl rfl) rfl <| WL.val (v_move rfl rfl) (.some rfl rfl rfl) rfl rfl <| WL.call rfl rfl ck_18 (.some rfl rfl rfl) rfl rfl <| ?_
      intro w hS
      refine Calls.then (nLeave_c w) hS ?_
      refine WL.val ((v_eql rfl rfl rfl).t (by omega)) (.some rfl rfl rfl) rfl rfl ?_
      refine WL.v (v_pick_t rfl rfl rfl) rfl <| WL.v (v_move rfl rfl) rfl <| WL.val (v_move rfl rfl) (.some rfl rfl rfl) rfl rfl <| WL.val (v_build rfl rfl zero_41 plc_41 rfl) (.some rfl rfl rfl) rfl rfl <| WL.call rfl rfl ck_25 (.some rfl rfl rfl) rfl rfl <| ?_
      intro w hS
      refine Calls.then (nUpd_c w) hS ?_
      refine WL.val ((v_eql rfl rfl rfl).t (by omega)) (.some rfl rfl rfl) rfl rfl ?_
      refine WL.v (v_pick_t rfl rfl rfl) rfl <| WL.v (v_move rfl rfl) rfl <| WL.val (v_move rfl rfl) (.some rfl rfl rfl) rfl rfl <| WL.call rfl rfl ck_26 (.some rfl rfl rfl) rfl rfl <| ?_
      intro w hS
      refine Calls.then (nBlock_c w) hS ?_
      refine WL.val ((v_eql rfl rfl rfl).t (by omega)) (.some rfl rfl rfl) rfl rfl ?_
      refine WL.v (v_pick_t rfl rfl rfl) rfl <| WL.v (v_move rfl rfl) rfl <| WL.val (v_move rfl rfl) (.some rfl rfl rfl) rfl rfl <| WL.val (v_build rfl rfl zero_26 plc_26 rfl) (.some rfl rfl rfl) rfl rfl <| WL.val (v_build rfl rfl zero_26 plc_26 rfl) (.some rfl rfl rfl) rfl rfl <| WL.call rfl rfl ck_12 (.some rfl rfl rfl) rfl rfl <| ?_
      intro w hS
      refine Calls.then (nPol_c w) hS ?_
      refine WL.val ((v_eql rfl rfl rfl).t (by omega)) (.some rfl rfl rfl) rfl rfl ?_
      refine WL.v (v_pick_t rfl rfl rfl) rfl <| WL.v (v_move rfl rfl) rfl <| WL.val (v_move rfl rfl) (.some rfl rfl rfl) rfl rfl <| WL.call rfl rfl ck_27 (.some rfl rfl rfl) rfl rfl <| ?_
      intro w hS
      refine Calls.then (nRec_c w) hS ?_
      refine WL.val ((v_eql rfl rfl rfl).t (by omega)) (.some rfl rfl rfl) rfl rfl ?_
      refine WL.v (v_pick_t rfl rfl rfl) rfl <| WL.v (v_move rfl rfl) rfl <| WL.val (v_move rfl rfl) (.some rfl rfl rfl) rfl rfl <| WL.call rfl rfl ck_17 (.some rfl rfl rfl) rfl rfl <| ?_
      intro w hS
      refine Calls.then (nAdv_c w) hS ?_
      refine WL.val (v_len_slice rfl rfl Tryz.underlying68) (.some rfl rfl rfl) rfl rfl ?_
      refine WL.val ((v_eql rfl rfl rfl).t (by omega)) (.some rfl rfl rfl) rfl rfl ?_
      refine WL.v (v_pick_t rfl rfl rfl) rfl <| WL.v (v_move rfl rfl) rfl <| WL.val (v_move rfl rfl) (.some rfl rfl rfl) rfl rfl <| ?_
      refine WL.val ((v_eql rfl rfl rfl).t (by omega)) (.some rfl rfl rfl) rfl rfl ?_
      refine WL.v (v_pick_t rfl rfl rfl) rfl <| WL.v (v_move rfl rfl) rfl <| WL.val (v_move rfl rfl) (.some rfl rfl rfl) rfl rfl <| WL.val (v_not rfl rfl rfl) (.some rfl rfl rfl) rfl rfl <| WL.v (v_pick_t rfl rfl rfl) rfl <| WL.v (v_move rfl rfl) rfl <| WL.val (v_move rfl rfl) (.some rfl rfl rfl) rfl rfl <| WL.val (v_move rfl rfl) (.some rfl rfl rfl) rfl rfl <| ?_
      refine WL.val (v_add rfl rfl rfl (w_i64 (by omega) (by omega))) (.some rfl rfl rfl) rfl rfl ?_
      refine WL.val (v_move rfl rfl) (.some rfl rfl rfl) rfl rfl ?_
      refine WL.val (v_add rfl rfl rfl (w_i64 (by omega) (by omega))) (.some rfl rfl rfl) rfl rfl ?_
      refine WL.val ((v_eql rfl rfl rfl).t (by omega)) (.some rfl rfl rfl) rfl rfl ?_
      refine WL.v (v_pick_t rfl rfl rfl) rfl <| WL.v (v_move rfl rfl) rfl <| WL.val (v_move rfl rfl) (.some rfl rfl rfl) rfl rfl <| WL.val (v_build rfl rfl zero_108 plc_108 rfl) (.some rfl rfl rfl) rfl rfl <| WL.call rfl rfl ck_28 (.some rfl rfl rfl) rfl rfl <| ?_
      intro w hS
      refine Calls.then (nModel_c w) hS ?_
      refine WL.val (v_len_slice rfl rfl Tryz.underlying105) (.some rfl rfl rfl) rfl rfl ?_
      refine WL.val ((v_eql rfl rfl rfl).t (by omega)) (.some rfl rfl rfl) rfl rfl ?_
      refine WL.v (v_pick_t rfl rfl rfl) rfl <| WL.v (v_assign rfl rfl) rfl <| WL.nt <| WC.ret <| WE.then_ret <| WE.ret1 (P := Tryz.prog) (.inl rfl) Tryz.results5 rfl <| ?_
      exact fun w' h => ⟨rfl, h.frm⟩
end Go.Proofs.YtmhahajadgkolaaGreatDoor
/- A header that came in as an argument. -/
namespace Go.Proofs.YtmhahajadgkolaaGreatDoor
open Go.RowKit

def sixOf (a b c d e f : Int) (i : Nat) : Int := [a, b, c, d, e, f].getD i 0
end Go.Proofs.YtmhahajadgkolaaGreatDoor
/- An act that came in as an argument. -/
namespace Go.Proofs.YtmhahajadgkolaaGreatDoor
open Go.RowKit

end Go.Proofs.YtmhahajadgkolaaGreatDoor
/- Entries of a table as an argument. -/
namespace Go.Proofs.YtmhahajadgkolaaGreatDoor
open Go.RowKit

/-- Elements that read as data: a list. -/
theorem rgs_of {P : Program} {w : World} {e s len : Nat} {a : Option Addr} {α : Type} {enc : α → List Value} {good : α → Prop} (hk : ∀ x, (enc x).length = s) (hx : ∀ cs, cs.length = s → Tree P w e cs → ∃ x, cs = enc x ∧ good x) (h : Elems P w e s a len) : ∃ xs : List α, xs.length = len ∧ Rg w a (encL enc xs) ∧ ∀ x ∈ xs, good x := by
  by_cases hl : 0 < len
  · obtain ⟨b, off, rfl, hE⟩ := h hl
    have hE' : ∀ i : Fin len, ∃ x, w.rangeAt b (off + i.1 * s) (enc x) ∧ good x := fun i => by
      obtain ⟨cs, hc, hr, hT⟩ := hE i.1 i.2
      obtain ⟨x, rfl, hg⟩ := hx cs hc hT
      exact ⟨x, hr, hg⟩
    have key : ∀ k, k ≤ len → ∃ xs : List α, xs.length = k ∧ w.rangeAt b off (encL enc xs) ∧ ∀ x ∈ xs, good x := by
      intro k
      induction k with
      | zero => exact fun _ => ⟨[], rfl, fun j v hj => by simp [encL] at hj, fun x h => by cases h⟩
      | succ k ih =>
        intro hk1
        obtain ⟨xs, e, hr, hg⟩ := ih (by omega)
        obtain ⟨x, hr2, hg2⟩ := hE' ⟨k, by omega⟩
        refine ⟨xs ++ [x], by rw [List.length_append, e]; rfl, fun j v hj => ?_, fun y hy => ?_⟩
        · rw [encL_snoc] at hj
          have hlen := encL_len hk xs
          by_cases hlt : j < (encL enc xs).length
          · rw [List.getElem?_append_left hlt] at hj; exact hr j v hj
          · rw [List.getElem?_append_right (by omega)] at hj
            have := hr2 _ v hj
            rw [hlen, e] at this hlt
            rwa [show off + k * s + (j - k * s) = off + j by omega] at this
        · rcases List.mem_append.1 hy with hy | hy
          · exact hg y hy
          · rw [List.mem_singleton.1 hy]; exact hg2
    obtain ⟨xs, e, hr, hg⟩ := key len (Nat.le_refl _)
    exact ⟨xs, e, fun _ => ⟨b, off, rfl, hr⟩, hg⟩
  · exact ⟨[], by rw [List.length_nil]; omega, fun hn => absurd rfl hn, fun x hm => by cases hm⟩
theorem Tree.flatE {P : Program} {w : World} {t : TypeId} {cs : List Value} {ts : List TypeId} (h : Tree P w t cs) (F : Nat) (hl : layB P F t = true) (hf : flat P F t = ts) : Leaves P w ts cs := hf ▸ Tree.leaves F t cs hl h
end Go.Proofs.YtmhahajadgkolaaGreatDoor
/- An exchange's numbers that came in as an argument. -/
namespace Go.Proofs.YtmhahajadgkolaaGreatDoor
open Go.RowKit

theorem Tree.sides {w : World} {x : Value} (h : Tree Tryz.prog w 48 [x]) : ∃ a cap, ∃ ss : List (Int × Int), x = .slice a ss.length cap ∧ Rg w a (encL sdL ss) := by
  obtain ⟨a, len, cap, rfl, h1, h2, hE⟩ := Tree.slice (s := 2) Tryz.underlying48 (by kernel_rfl) (by decide) h
  obtain ⟨xs, rfl, hr, _⟩ := rgs_of (enc := sdL) (good := fun _ => True) sdL_len (fun cs hc hT => by
    have hL := Tree.flatE (ts := [3, 30]) hT 4 (by kernel_rfl) (by kernel_rfl)
    obtain ⟨x, _, rfl, hx, y, _, rfl, hy, rfl⟩ := hL
    obtain ⟨n, rfl, hw⟩ := Tree.int Tryz.underlying3 hx
    obtain ⟨n2, rfl, hw2⟩ := Tree.int Tryz.underlying30 hy
    exact ⟨(n, n2), rfl, trivial⟩) hE
  exact ⟨a, cap, xs, rfl, hr⟩
theorem Tree.macs {w : World} {x : Value} (h : Tree Tryz.prog w 49 [x]) : ∃ a cap, ∃ fs : List (Nat → Int), x = .slice a fs.length cap ∧ Rg w a (macsL fs) ∧ ∀ f ∈ fs, Byt f := by
  obtain ⟨a, len, cap, rfl, h1, h2, hE⟩ := Tree.slice (s := 6) Tryz.underlying49 (by kernel_rfl) (by decide) h
  obtain ⟨xs, rfl, hr, hg⟩ := rgs_of (enc := mcL) (good := Byt) mcL_len (fun cs hc hT => by
    have hL := Tree.flatE (ts := [5, 5, 5, 5, 5, 5]) hT 4 (by kernel_rfl) (by kernel_rfl)
    obtain ⟨x0, _, rfl, h0, x1, _, rfl, h1, x2, _, rfl, h2, x3, _, rfl, h3, x4, _, rfl, h4, x5, _, rfl, h5, rfl⟩ := hL
    obtain ⟨n0, rfl, w0⟩ := Tree.int Tryz.underlying5 h0
    obtain ⟨n1, rfl, w1⟩ := Tree.int Tryz.underlying5 h1
    obtain ⟨n2, rfl, w2⟩ := Tree.int Tryz.underlying5 h2
    obtain ⟨n3, rfl, w3⟩ := Tree.int Tryz.underlying5 h3
    obtain ⟨n4, rfl, w4⟩ := Tree.int Tryz.underlying5 h4
    obtain ⟨n5, rfl, w5⟩ := Tree.int Tryz.underlying5 h5
    exact ⟨nth6 n0 n1 n2 n3 n4 n5, rfl, nth6_byt (wf_u8 w0) (wf_u8 w1) (wf_u8 w2) (wf_u8 w3) (wf_u8 w4) (wf_u8 w5)⟩) hE
  exact ⟨a, cap, xs, rfl, hr, hg⟩
end Go.Proofs.YtmhahajadgkolaaGreatDoor
