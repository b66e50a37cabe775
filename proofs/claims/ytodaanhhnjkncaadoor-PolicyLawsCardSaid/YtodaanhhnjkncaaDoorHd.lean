/- head: Width, Full, fits, Header.Check. The table of widths is a listed variable. -/
import Derived.Test.YtodaanhhnjkncaaDoorHdr
namespace Go.Proofs.YtodaanhhnjkncaaDoor
open Go.RowKit

def wdN (i : Nat) : Nat := [8, 48, 48, 16, 32, 32, 8, 16, 16].getD i 0
/-- What the listed variable holds. -/
def GW (w : World) : Prop := ∀ i, i < 9 → w.cell? ⟨0, i, none⟩ = some (.int .i64 (wdN i))
theorem GW.keep {p : Nat → Prop} {w0 w : World} {L : List Ent} (hp : ¬ p 0) (h : GW w0) (hS : St p w0 w L) : GW w := fun i hi => hS.old hp (h i hi)
theorem wdN_le (i : Nat) : wdN i ≤ 48 := by
  match i with
  | 0 | 1 | 2 | 3 | 4 | 5 | 6 | 7 | 8 => decide
  | _ + 9 => exact Nat.zero_le _
/-- The number of which the field's bits are 1. -/
def fullI (i : Nat) : Int := 2 ^ wdN i - 1
theorem Width_n (w : World) (i : Nat) (hi : i < 9) (hG : GW w) :
    Calls Tryd.prog 63 #[.int .i64 i] w fun e w' => e = .returned (.int .i64 (wdN i)) ∧ Frm (fun _ => False) w w' := by
  refine enter Tryd.func63 rfl Tryd.ntmps63 rfl (St.start (fun _ => False) w) ?_
  refine WC.seq ?_
  refine WC.region ?_
  refine WL.val (v_assign rfl rfl) (.none rfl) rfl rfl ?_
  refine WL.nil ?_
  refine WE.then_n ?_
  refine WC.seq ?_
  refine WC.seq ?_
  refine WC.region ?_
  refine WL.val (v_move rfl rfl) (.none rfl) rfl rfl ?_
  refine WL.val ((v_lss rfl rfl rfl).f (by omega)) (.none rfl) rfl rfl ?_
  refine WL.val (v_move rfl rfl) (.none rfl) rfl rfl ?_
  refine WL.val (v_move rfl rfl) (.some rfl rfl rfl) rfl rfl ?_
  refine WL.val ((v_geq rfl rfl rfl).f (by omega)) (.some rfl rfl rfl) rfl rfl ?_
  refine WL.val (v_pick_f rfl rfl rfl) (.none rfl) rfl rfl ?_
  refine WL.nil ?_
  refine WE.then_n ?_
  refine WC.cond_f rfl ?_
  refine WC.skip ?_
  refine WE.then_n ?_
  refine WC.seq ?_
  refine WC.region ?_
  refine WL.val (v_move rfl rfl) (.none rfl) rfl rfl ?_
  refine WL.val (v_indexAddrA (lo := i) rfl rfl rfl Tryd.underlying138 sz_3 (by omega) (by omega)) (.none rfl) rfl rfl ?_
  refine WL.val (v_load1 rfl rfl one_3 (cellOld (fun h => h) (by rw [Nat.zero_add, Nat.mul_one]; exact hG i hi))) (.none rfl) rfl rfl ?_
  refine WL.val (v_assign rfl rfl) (.none rfl) rfl rfl ?_
  refine WL.nil ?_
  refine WE.then_n ?_
  refine WC.ret ?_
  refine WE.ret1 (P := Tryd.prog) (.inl rfl) Tryd.results63 rfl ?_
  exact fun w' h => ⟨rfl, h.frm⟩
theorem Full_n (w : World) (i : Nat) (hi : i < 9) (hG : GW w) :
    Calls Tryd.prog 30 #[.int .i64 i] w fun e w' => e = .returned (.int .u64 (fullI i)) ∧ Frm (fun _ => False) w w' := by
  have hw := wdN_le i
  have hpow : (2 : Int) ^ wdN i = ((2 ^ wdN i : Nat) : Int) := by simp
  have h1 : 2 ^ wdN i ≤ 2 ^ 48 := Nat.pow_le_pow_right (by decide) hw
  have h2 : 0 < 2 ^ wdN i := Nat.two_pow_pos _
  have e1 : 1 ≤ (2 : Int) ^ wdN i ∧ (2 : Int) ^ wdN i ≤ 281474976710656 := by omega
  refine enter Tryd.func30 rfl Tryd.ntmps30 rfl (St.start (fun _ => False) w) ?_
  refine WC.seq ?_
  refine WC.region ?_
  refine WL.val (v_assign rfl rfl) (.none rfl) rfl rfl ?_
  refine WL.nil ?_
  refine WE.then_n ?_
  refine WC.seq ?_
  refine WC.region ?_
  refine WL.val (v_move rfl rfl) (.none rfl) rfl rfl ?_
  refine WL.call rfl rfl ck_63 (.none rfl) rfl rfl ?_
  intro w hS
  refine Calls.then (Width_n w i hi (hG.keep (fun h => h) hS)) hS ?_
  refine WL.val (v_shl (m := wdN i) (c := (2 : Int) ^ wdN i) rfl rfl rfl rfl (by show wdN i ≤ 64; omega) rfl (w_u64 (by omega) (by omega))) (.none rfl) rfl rfl ?_
  refine WL.val (v_sub rfl rfl rfl (w_u64 (by omega) (by omega))) (.none rfl) rfl rfl ?_
  refine WL.val (v_assign rfl rfl) (.none rfl) rfl rfl ?_
  refine WL.nil ?_
  refine WE.then_n ?_
  refine WC.ret ?_
  refine WE.ret1 (P := Tryd.prog) (.inl rfl) Tryd.results30 rfl ?_
  exact fun w' h => ⟨by rw [Int.one_mul]; rfl, h.frm⟩
def fitsB (i : Nat) (n : Int) : Bool := decide (0 ≤ n ∧ n ≤ fullI i)
theorem fits_n (w : World) (i : Nat) (hi : i < 9) (n : Int) (h0 : -9223372036854775808 ≤ n) (h1 : n ≤ 9223372036854775807) (hG : GW w) :
    Calls Tryd.prog 60 #[.int .i64 i, .int .i64 n] w fun e w' => e = .returned (.bool (fitsB i n)) ∧ Frm (fun _ => False) w w' := by
  refine enter Tryd.func60 rfl Tryd.ntmps60 rfl (St.start (fun _ => False) w) ?_
  refine WC.seq ?_
  refine WC.region ?_
  refine WL.val (v_assign rfl rfl) (.none rfl) rfl rfl ?_
  refine WL.nil ?_
  refine WE.then_n ?_
  refine WC.seq ?_
  refine WC.region ?_
  refine WL.val (v_move rfl rfl) (.none rfl) rfl rfl ?_
  refine WL.test (v_geq rfl rfl rfl) (.none rfl) rfl rfl (fun h6 => ?_) (fun h6 => ?_)
  · -- 6T
    refine WL.val (v_move rfl rfl) (.none rfl) rfl rfl ?_
    refine WL.val (v_move rfl rfl) (.some rfl rfl rfl) rfl rfl ?_
    refine WL.val (v_conv rfl rfl Tryd.underlying22 Tryd.underlying3 (w_u64 (by omega) (by omega))) (.some rfl rfl rfl) rfl rfl ?_
    refine WL.val (v_move rfl rfl) (.some rfl rfl rfl) rfl rfl ?_
    refine WL.call rfl rfl ck_30 (.some rfl rfl rfl) rfl rfl ?_
    intro w hS
    refine Calls.then (Full_n w i hi (hG.keep (fun h => h) hS)) hS ?_
    refine WL.test (v_leq rfl rfl rfl) (.some rfl rfl rfl) rfl rfl (fun h12 => ?_) (fun h12 => ?_)
    · -- 12T
      refine WL.val (v_pick_t rfl rfl rfl) (.none rfl) rfl rfl ?_
      refine WL.val (v_assign rfl rfl) (.none rfl) rfl rfl ?_
      refine WL.nil ?_
      refine WE.then_n ?_
      refine WC.ret ?_
      refine WE.ret1 (P := Tryd.prog) (.inl rfl) Tryd.results60 rfl ?_
      exact fun w' h => ⟨by unfold fitsB; rw [decide_eq_true (by omega)], h.frm⟩
    · -- 12F
      refine WL.val (v_pick_t rfl rfl rfl) (.none rfl) rfl rfl ?_
      refine WL.val (v_assign rfl rfl) (.none rfl) rfl rfl ?_
      refine WL.nil ?_
      refine WE.then_n ?_
      refine WC.ret ?_
      refine WE.ret1 (P := Tryd.prog) (.inl rfl) Tryd.results60 rfl ?_
      exact fun w' h => ⟨by unfold fitsB; rw [decide_eq_false (by omega)], h.frm⟩
  · -- 6F
    refine WL.val (v_move rfl rfl) (.none rfl) rfl rfl ?_
    refine WL.skip rfl rfl rfl rfl rfl rfl ?_
    refine WL.skip rfl rfl rfl rfl rfl rfl ?_
    refine WL.skip rfl rfl rfl rfl rfl rfl ?_
    refine WL.skip rfl rfl rfl rfl rfl rfl ?_
    refine WL.skip rfl rfl rfl rfl rfl rfl ?_
    refine WL.val (v_pick_f rfl rfl rfl) (.none rfl) rfl rfl ?_
    refine WL.val (v_assign rfl rfl) (.none rfl) rfl rfl ?_
    refine WL.nil ?_
    refine WE.then_n ?_
    refine WC.ret ?_
    refine WE.ret1 (P := Tryd.prog) (.inl rfl) Tryd.results60 rfl ?_
    exact fun w' h => ⟨by unfold fitsB; rw [decide_eq_false (by omega)], h.frm⟩
/-- Do the numbers of a header fit? -/
def Hd.okB (H : Hd) : Bool := fitsB 0 H.port && fitsB 3 H.ty && fitsB 6 H.proto && fitsB 7 H.sp && fitsB 8 H.dp
structure Hd.In (H : Hd) : Prop where
  port : -9223372036854775808 ≤ H.port ∧ H.port ≤ 9223372036854775807
  ty : -9223372036854775808 ≤ H.ty ∧ H.ty ≤ 9223372036854775807
  proto : -9223372036854775808 ≤ H.proto ∧ H.proto ≤ 9223372036854775807
  sp : -9223372036854775808 ≤ H.sp ∧ H.sp ≤ 9223372036854775807
  dp : -9223372036854775808 ≤ H.dp ∧ H.dp ≤ 9223372036854775807
  sip : 0 ≤ H.sip ∧ H.sip ≤ 4294967295
  dip : 0 ≤ H.dip ∧ H.dip ≤ 4294967295
  src : Byt H.src
  dst : Byt H.dst
set_option maxHeartbeats 400000 in
theorem HCheck_c (w : World) (H : Hd) (hH : H.In) (hG : GW w) :
    Calls Tryd.prog 24 #[.agg (hdCells H)] w fun e w' => e = .returned (.int .i64 (if H.okB = true then 0 else 1)) ∧ Frm (fun _ => False) w w' := by
  unfold Hd.okB
  refine enter Tryd.func24 rfl Tryd.ntmps24 rfl (St.start (fun _ => False) w) ?_
  refine WC.seq ?_
  refine WC.region ?_
  refine WL.box rfl rfl rfl (.none rfl) rfl rfl ?_
  intro g1 hg1
  refine WL.val (v_assign rfl rfl) (.none rfl) rfl rfl ?_
  refine WL.nil ?_
  refine WE.then_n ?_
  refine WC.seq ?_
  refine WC.seq ?_
  refine WC.region ?_
  refine WL.val (v_fieldAddr0 rfl rfl fld_31_0) (.none rfl) rfl rfl ?_
  refine WL.val (v_load1 rfl rfl one_3 (cellAt rfl)) (.none rfl) rfl rfl ?_
  refine WL.call rfl rfl ck_60 (.none rfl) rfl rfl ?_
  intro w hS
  refine Calls.then (fits_n w 0 (by decide) H.port hH.port.1 hH.port.2 (hG.keep (fun h => h) hS)) hS ?_
  refine WL.val (v_move rfl rfl) (.none rfl) rfl rfl ?_
  cases hb0 : fitsB 0 H.port
  · -- 6F
    refine WL.skip rfl rfl rfl rfl rfl rfl ?_
    refine WL.skip rfl rfl rfl rfl rfl rfl ?_
    refine WL.skip rfl rfl rfl rfl rfl rfl ?_
    refine WL.val (v_pick_f rfl rfl rfl) (.none rfl) rfl rfl ?_
    refine WL.val (v_move rfl rfl) (.none rfl) rfl rfl ?_
    refine WL.skip rfl rfl rfl rfl rfl rfl ?_
    refine WL.skip rfl rfl rfl rfl rfl rfl ?_
    refine WL.skip rfl rfl rfl rfl rfl rfl ?_
    refine WL.val (v_pick_f rfl rfl rfl) (.none rfl) rfl rfl ?_
    refine WL.val (v_move rfl rfl) (.none rfl) rfl rfl ?_
    refine WL.skip rfl rfl rfl rfl rfl rfl ?_
    refine WL.skip rfl rfl rfl rfl rfl rfl ?_
    refine WL.skip rfl rfl rfl rfl rfl rfl ?_
    refine WL.val (v_pick_f rfl rfl rfl) (.none rfl) rfl rfl ?_
    refine WL.val (v_move rfl rfl) (.none rfl) rfl rfl ?_
    refine WL.skip rfl rfl rfl rfl rfl rfl ?_
    refine WL.skip rfl rfl rfl rfl rfl rfl ?_
    refine WL.skip rfl rfl rfl rfl rfl rfl ?_
    refine WL.val (v_pick_f rfl rfl rfl) (.none rfl) rfl rfl ?_
    refine WL.nil ?_
    refine WE.then_n ?_
    refine WC.cond_f rfl ?_
    refine WC.skip ?_
    refine WE.then_n ?_
    refine WC.seq ?_
    refine WC.region ?_
    refine WL.val (v_assign rfl rfl) (.none rfl) rfl rfl ?_
    refine WL.nil ?_
    refine WE.then_n ?_
    refine WC.ret ?_
    refine WE.ret1 (P := Tryd.prog) (.inl rfl) Tryd.results24 rfl ?_
    exact fun w' h => ⟨by simp_all, h.frm⟩
  · -- 6T
    refine WL.val (v_fieldAddr0 rfl rfl fld_31_3) (.some rfl rfl rfl) rfl rfl ?_
    refine WL.val (v_load1 rfl rfl one_3 (cellAt rfl)) (.some rfl rfl rfl) rfl rfl ?_
    refine WL.call rfl rfl ck_60 (.some rfl rfl rfl) rfl rfl ?_
    intro w hS
    refine Calls.then (fits_n w 3 (by decide) H.ty hH.ty.1 hH.ty.2 (hG.keep (fun h => h) hS)) hS ?_
    refine WL.val (v_pick_t rfl rfl rfl) (.none rfl) rfl rfl ?_
    cases hb3 : fitsB 3 H.ty
    · -- 10F
      refine WL.val (v_move rfl rfl) (.none rfl) rfl rfl ?_
      refine WL.skip rfl rfl rfl rfl rfl rfl ?_
      refine WL.skip rfl rfl rfl rfl rfl rfl ?_
      refine WL.skip rfl rfl rfl rfl rfl rfl ?_
      refine WL.val (v_pick_f rfl rfl rfl) (.none rfl) rfl rfl ?_
      refine WL.val (v_move rfl rfl) (.none rfl) rfl rfl ?_
      refine WL.skip rfl rfl rfl rfl rfl rfl ?_
      refine WL.skip rfl rfl rfl rfl rfl rfl ?_
      refine WL.skip rfl rfl rfl rfl rfl rfl ?_
      refine WL.val (v_pick_f rfl rfl rfl) (.none rfl) rfl rfl ?_
      refine WL.val (v_move rfl rfl) (.none rfl) rfl rfl ?_
      refine WL.skip rfl rfl rfl rfl rfl rfl ?_
      refine WL.skip rfl rfl rfl rfl rfl rfl ?_
      refine WL.skip rfl rfl rfl rfl rfl rfl ?_
      refine WL.val (v_pick_f rfl rfl rfl) (.none rfl) rfl rfl ?_
      refine WL.nil ?_
      refine WE.then_n ?_
      refine WC.cond_f rfl ?_
      refine WC.skip ?_
      refine WE.then_n ?_
      refine WC.seq ?_
      refine WC.region ?_
      refine WL.val (v_assign rfl rfl) (.none rfl) rfl rfl ?_
      refine WL.nil ?_
      refine WE.then_n ?_
      refine WC.ret ?_
      refine WE.ret1 (P := Tryd.prog) (.inl rfl) Tryd.results24 rfl ?_
      exact fun w' h => ⟨by simp_all, h.frm⟩
    · -- 10T
      refine WL.val (v_move rfl rfl) (.none rfl) rfl rfl ?_
      refine WL.val (v_fieldAddr0 rfl rfl fld_31_6) (.some rfl rfl rfl) rfl rfl ?_
      refine WL.val (v_load1 rfl rfl one_3 (cellAt rfl)) (.some rfl rfl rfl) rfl rfl ?_
      refine WL.call rfl rfl ck_60 (.some rfl rfl rfl) rfl rfl ?_
      intro w hS
      refine Calls.then (fits_n w 6 (by decide) H.proto hH.proto.1 hH.proto.2 (hG.keep (fun h => h) hS)) hS ?_
      refine WL.val (v_pick_t rfl rfl rfl) (.none rfl) rfl rfl ?_
      cases hb6 : fitsB 6 H.proto
      · -- 15F
        refine WL.val (v_move rfl rfl) (.none rfl) rfl rfl ?_
        refine WL.skip rfl rfl rfl rfl rfl rfl ?_
        refine WL.skip rfl rfl rfl rfl rfl rfl ?_
        refine WL.skip rfl rfl rfl rfl rfl rfl ?_
        refine WL.val (v_pick_f rfl rfl rfl) (.none rfl) rfl rfl ?_
        refine WL.val (v_move rfl rfl) (.none rfl) rfl rfl ?_
        refine WL.skip rfl rfl rfl rfl rfl rfl ?_
        refine WL.skip rfl rfl rfl rfl rfl rfl ?_
        refine WL.skip rfl rfl rfl rfl rfl rfl ?_
        refine WL.val (v_pick_f rfl rfl rfl) (.none rfl) rfl rfl ?_
        refine WL.nil ?_
        refine WE.then_n ?_
        refine WC.cond_f rfl ?_
        refine WC.skip ?_
        refine WE.then_n ?_
        refine WC.seq ?_
        refine WC.region ?_
        refine WL.val (v_assign rfl rfl) (.none rfl) rfl rfl ?_
        refine WL.nil ?_
        refine WE.then_n ?_
        refine WC.ret ?_
        refine WE.ret1 (P := Tryd.prog) (.inl rfl) Tryd.results24 rfl ?_
        exact fun w' h => ⟨by simp_all, h.frm⟩
      · -- 15T
        refine WL.val (v_move rfl rfl) (.none rfl) rfl rfl ?_
        refine WL.val (v_fieldAddr0 rfl rfl fld_31_7) (.some rfl rfl rfl) rfl rfl ?_
        refine WL.val (v_load1 rfl rfl one_3 (cellAt rfl)) (.some rfl rfl rfl) rfl rfl ?_
        refine WL.call rfl rfl ck_60 (.some rfl rfl rfl) rfl rfl ?_
        intro w hS
        refine Calls.then (fits_n w 7 (by decide) H.sp hH.sp.1 hH.sp.2 (hG.keep (fun h => h) hS)) hS ?_
        refine WL.val (v_pick_t rfl rfl rfl) (.none rfl) rfl rfl ?_
        cases hb7 : fitsB 7 H.sp
        · -- 20F
          refine WL.val (v_move rfl rfl) (.none rfl) rfl rfl ?_
          refine WL.skip rfl rfl rfl rfl rfl rfl ?_
          refine WL.skip rfl rfl rfl rfl rfl rfl ?_
          refine WL.skip rfl rfl rfl rfl rfl rfl ?_
          refine WL.val (v_pick_f rfl rfl rfl) (.none rfl) rfl rfl ?_
          refine WL.nil ?_
          refine WE.then_n ?_
          refine WC.cond_f rfl ?_
          refine WC.skip ?_
          refine WE.then_n ?_
          refine WC.seq ?_
          refine WC.region ?_
          refine WL.val (v_assign rfl rfl) (.none rfl) rfl rfl ?_
          refine WL.nil ?_
          refine WE.then_n ?_
          refine WC.ret ?_
          refine WE.ret1 (P := Tryd.prog) (.inl rfl) Tryd.results24 rfl ?_
          exact fun w' h => ⟨by simp_all, h.frm⟩
        · -- 20T
          refine WL.val (v_move rfl rfl) (.none rfl) rfl rfl ?_
          refine WL.val (v_fieldAddr0 rfl rfl fld_31_8) (.some rfl rfl rfl) rfl rfl ?_
          refine WL.val (v_load1 rfl rfl one_3 (cellAt rfl)) (.some rfl rfl rfl) rfl rfl ?_
          refine WL.call rfl rfl ck_60 (.some rfl rfl rfl) rfl rfl ?_
          intro w hS
          refine Calls.then (fits_n w 8 (by decide) H.dp hH.dp.1 hH.dp.2 (hG.keep (fun h => h) hS)) hS ?_
          refine WL.val (v_pick_t rfl rfl rfl) (.none rfl) rfl rfl ?_
          cases hb8 : fitsB 8 H.dp
          · -- 25F
            refine WL.nil ?_
            refine WE.then_n ?_
            refine WC.cond_f rfl ?_
            refine WC.skip ?_
            refine WE.then_n ?_
            refine WC.seq ?_
            refine WC.region ?_
            refine WL.val (v_assign rfl rfl) (.none rfl) rfl rfl ?_
            refine WL.nil ?_
            refine WE.then_n ?_
            refine WC.ret ?_
            refine WE.ret1 (P := Tryd.prog) (.inl rfl) Tryd.results24 rfl ?_
            exact fun w' h => ⟨by simp_all, h.frm⟩
          · -- 25T
            refine WL.nil ?_
            refine WE.then_n ?_
            refine WC.cond_t rfl ?_
            refine WC.seq ?_
            refine WC.region ?_
            refine WL.val (v_assign rfl rfl) (.none rfl) rfl rfl ?_
            refine WL.nil ?_
            refine WE.then_n ?_
            refine WC.ret ?_
            refine WE.then_ret ?_
            refine WE.ret1 (P := Tryd.prog) (.inl rfl) Tryd.results24 rfl ?_
            exact fun w' h => ⟨by simp_all, h.frm⟩
end Go.Proofs.YtodaanhhnjkncaaDoor
