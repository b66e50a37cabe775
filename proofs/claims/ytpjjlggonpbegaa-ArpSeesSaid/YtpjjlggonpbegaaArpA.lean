/- (frame.Pack).ParseArp, frame.EmitArp. -/
import Derived.Test.YtpjjlggonpbegaaL5
namespace Go.Proofs.Ytpjjlggonpbegaa
open Go.RowKit

structure Ak where
  ans : Bool
  mac : Nat → Int
  ip : Int
  tmac : Nat → Int
  tip : Int
def u8s (g : Nat → Int) : List Value := [.int .u8 (g 0), .int .u8 (g 1), .int .u8 (g 2), .int .u8 (g 3), .int .u8 (g 4), .int .u8 (g 5)]
def akCells (A : Ak) : List Value := [.bool A.ans, .int .u8 (A.mac 0), .int .u8 (A.mac 1), .int .u8 (A.mac 2), .int .u8 (A.mac 3), .int .u8 (A.mac 4), .int .u8 (A.mac 5), .int .u32 A.ip,
  .int .u8 (A.tmac 0), .int .u8 (A.tmac 1), .int .u8 (A.tmac 2), .int .u8 (A.tmac 3), .int .u8 (A.tmac 4), .int .u8 (A.tmac 5), .int .u32 A.tip]
def Ak.zero : Ak := ⟨false, fun _ => 0, 0, fun _ => 0, 0⟩
/-- What a frame's bytes say if it is a question or an answer. -/
def akOf (f : Nat → Int) : Ak := ⟨decide (f 21 = 2), fun i => f (22 + i), four f 28, fun i => f (32 + i), four f 38⟩
def arpBeg (f : Nat → Int) : Prop := (str (fun i => f (14 + i)) 7).toList = (ByteArray.mk #[0, 1, 8, 0, 6, 4, 0]).toList
def ArpR (f : Nat → Int) (n : Nat) (ty : Int) (A : Ak) (err : Int) : Prop :=
  (ty ≠ 2054 ∧ err = 12 ∧ A = Ak.zero) ∨ (ty = 2054 ∧ n < 42 ∧ err = 10 ∧ A = Ak.zero) ∨
  (ty = 2054 ∧ 42 ≤ n ∧ (¬ arpBeg f ∨ (f 21 ≠ 1 ∧ f 21 ≠ 2)) ∧ err = 2 ∧ A = Ak.zero) ∨ (ty = 2054 ∧ 42 ≤ n ∧ arpBeg f ∧ (f 21 = 1 ∨ f 21 = 2) ∧ err = 0 ∧ A = akOf f)

/-- A cell, some cells, of bytes with noughts behind. -/
theorem bget {f : Nat → Int} {m j : Nat} {r : List Value} (h : j < m) : (bcs f m ++ r)[j]? = some (.int .u8 (f j)) := by
  rw [List.getElem?_append_left (by rw [bcs_len]; exact h), bcs_get f m j h]
theorem bseg {f : Nat → Int} {m k : Nat} {r : List Value} (h : k + 6 ≤ m) : seg (bcs f m ++ r) k 6 = u8s (fun i => f (k + i)) := by
  have e : ∀ j, j < 6 → (seg (bcs f m ++ r) k 6)[j]? = (u8s (fun i => f (k + i)))[j]? := fun j hj => by
    unfold seg
    rw [List.getElem?_take_of_lt hj, List.getElem?_drop, bget (by omega)]
    match j, hj with
    | 0, _ | 1, _ | 2, _ | 3, _ | 4, _ | 5, _ => rfl
  apply List.ext_getElem?
  intro j
  by_cases hj : j < 6
  · exact e j hj
  · rw [List.getElem?_eq_none (by unfold seg; simp; omega), List.getElem?_eq_none (by simp [u8s]; omega)]
theorem bget4 {f : Nat → Int} {m k q : Nat} {r : List Value} (h : k + q ≤ m) : ∀ i, i < q → (bcs f m ++ r)[k + i]? = some (.int .u8 (f (k + i))) := fun i hi => bget (by omega)

set_option maxHeartbeats 1000000 in
theorem ParseArp_c (w : World) (H W : Hd) (f : Nat → Int) (n : Nat) (po en : Int) (hf : Byt f) (h14 : W.ty = 2054 → 14 ≤ n) (hn : n ≤ 2000) :
    Calls Try.prog 16 #[packV H W (str f n) po en] w fun e w' => ∃ A err, e = .returned (.tuple #[.agg (akCells A).toArray, .int .i64 err]) ∧ ArpR f n W.ty A err ∧ Frm (fun _ => False) w w' := by
  have hf14 : Byt fun i => f (14 + i) := hf.sub 14
  refine enter Try.func16 rfl Try.ntmps16 rfl (St.start (fun _ => False) w) ?_
  refine WC.seq ?_
  refine WC.region ?_
  refine WL.box rfl rfl rfl (.none rfl) rfl rfl ?_
  intro g1 hg1
  refine WL.alloc rfl zero_44 (.none rfl) rfl rfl ?_
  intro g2 hg2
  refine WL.val (v_assign rfl rfl) (.none rfl) rfl rfl ?_
  refine WL.nil ?_
  refine WE.then_n ?_
  refine WC.seq ?_
  refine WC.seq ?_
  refine WC.region ?_
  refine WL.val (v_fieldAddr0 rfl rfl fld_32_1) (.none rfl) rfl rfl ?_
  refine WL.val (v_fieldAddr rfl rfl fld_30_3) (.none rfl) rfl rfl ?_
  refine WL.val (v_load1 rfl rfl one_3 (cellAt rfl)) (.none rfl) rfl rfl ?_
  refine WL.val (v_neq rfl rfl rfl) (.none rfl) rfl rfl ?_
  refine WL.nil ?_
  refine WE.then_n ?_
  refine WC.cond_d rfl (fun h8 => ?_) (fun h8 => ?_)
  · -- 8T
    refine WC.seq ?_
    refine WC.region ?_
    refine WL.val (v_build rfl rfl zero_44 plc_44 rfl) (.none rfl) rfl rfl ?_
    refine WL.storeW rfl rfl rfl rfl many_44 rfl rfl (.none rfl) rfl ?_
    refine WL.val (v_assign rfl rfl) (.none rfl) rfl rfl ?_
    refine WL.nil ?_
    refine WE.then_n ?_
    refine WC.ret ?_
    refine WE.then_ret ?_
    refine WE.ret2 (P := Try.prog) (.inl rfl) Try.results16 (resRow rfl many_44 rfl) rfl ?_
    exact fun w' h => ⟨Ak.zero, 12, rfl, .inl ⟨h8, rfl, rfl⟩, h.frm⟩
  · -- 8F
    refine WC.skip ?_
    refine WE.then_n ?_
    refine WC.seq ?_
    refine WC.region ?_
    refine WL.val (v_fieldAddr0 rfl rfl fld_32_2) (.none rfl) rfl rfl ?_
    refine WL.val (v_load1 rfl rfl one_9 (cellAt rfl)) (.none rfl) rfl rfl ?_
    refine WL.val ((v_slice_strlo (lo := 14) rfl rfl rfl Try.underlying9 rfl (by rw [str_size]; omega)).eq (congrArg Value.string (str_ext f n 14 (by omega)))) (.none rfl) rfl rfl ?_
    refine WL.convSB rfl rfl (str_size _ _) (str_cells hf14 _) Try.underlying9 Try.underlying22 Try.underlying5 (.none rfl) rfl rfl ?_
    intro g13 c13 hg13 hc13
    refine WL.val (v_assign rfl rfl) (.none rfl) rfl rfl ?_
    refine WL.nil ?_
    refine WE.then_n ?_
    refine WC.seq ?_
    refine WC.seq ?_
    refine WC.region ?_
    refine WL.val (v_move rfl rfl) (.none rfl) rfl rfl ?_
    refine WL.val (v_len_slice rfl rfl Try.underlying22) (.none rfl) rfl rfl ?_
    refine WL.val (v_lss rfl rfl rfl) (.none rfl) rfl rfl ?_
    refine WL.nil ?_
    refine WE.then_n ?_
    refine WC.cond_d rfl (fun h16 => ?_) (fun h16 => ?_)
    · -- 16T
      refine WC.seq ?_
      refine WC.region ?_
      refine WL.val (v_build rfl rfl zero_44 plc_44 rfl) (.none rfl) rfl rfl ?_
      refine WL.storeW rfl rfl rfl rfl many_44 rfl rfl (.none rfl) rfl ?_
      refine WL.val (v_assign rfl rfl) (.none rfl) rfl rfl ?_
      refine WL.nil ?_
      refine WE.then_n ?_
      refine WC.ret ?_
      refine WE.then_ret ?_
      refine WE.ret2 (P := Try.prog) (.inl rfl) Try.results16 (resRow rfl many_44 rfl) rfl ?_
      exact fun w' h => ⟨Ak.zero, 10, rfl, .inr (.inl ⟨by omega, by omega, rfl, rfl⟩), h.frm⟩
    · -- 16F
      refine WC.skip ?_
      refine WE.then_n ?_
      refine WC.seq ?_
      refine WC.seq ?_
      refine WC.region ?_
      refine WL.val (v_move rfl rfl) (.none rfl) rfl rfl ?_
      refine WL.val (v_slice_hi (hi := 7) rfl rfl rfl Try.underlying22 sz_5 rfl (by omega)) (.none rfl) rfl rfl ?_
      refine WL.val (v_convBS (fun i => f (14 + i)) rfl rfl Try.underlying22 Try.underlying5 Try.underlying9 (fun w hS _ => ⟨_, _, rfl, rdAt (fun i hi => (by rw [Nat.zero_add]; exact bget (by omega))) w hS⟩)) (.none rfl) rfl rfl ?_
      refine WL.test (v_neq_string rfl rfl rfl Try.underlying9) (.none rfl) rfl rfl (fun h21 => ?_) (fun h21 => ?_)
      · -- 21T
        refine WL.val (v_move rfl rfl) (.none rfl) rfl rfl ?_
        refine WL.skip rfl rfl rfl rfl rfl rfl ?_
        refine WL.skip rfl rfl rfl rfl rfl rfl ?_
        refine WL.skip rfl rfl rfl rfl rfl rfl ?_
        refine WL.skip rfl rfl rfl rfl rfl rfl ?_
        refine WL.skip rfl rfl rfl rfl rfl rfl ?_
        refine WL.skip rfl rfl rfl rfl rfl rfl ?_
        refine WL.skip rfl rfl rfl rfl rfl rfl ?_
        refine WL.skip rfl rfl rfl rfl rfl rfl ?_
        refine WL.skip rfl rfl rfl rfl rfl rfl ?_
        refine WL.skip rfl rfl rfl rfl rfl rfl ?_
        refine WL.val (v_pick_t rfl rfl rfl) (.none rfl) rfl rfl ?_
        refine WL.nil ?_
        refine WE.then_n ?_
        refine WC.cond_t rfl ?_
        refine WC.seq ?_
        refine WC.region ?_
        refine WL.val (v_build rfl rfl zero_44 plc_44 rfl) (.none rfl) rfl rfl ?_
        refine WL.storeW rfl rfl rfl rfl many_44 rfl rfl (.none rfl) rfl ?_
        refine WL.val (v_assign rfl rfl) (.none rfl) rfl rfl ?_
        refine WL.nil ?_
        refine WE.then_n ?_
        refine WC.ret ?_
        refine WE.then_ret ?_
        refine WE.ret2 (P := Try.prog) (.inl rfl) Try.results16 (resRow rfl many_44 rfl) rfl ?_
        exact fun w' h => ⟨Ak.zero, 2, rfl, .inr (.inr (.inl ⟨by omega, by omega, .inl h21, rfl, rfl⟩)), h.frm⟩
      · -- 21F
        refine WL.val (v_move rfl rfl) (.none rfl) rfl rfl ?_
        refine WL.val (v_move rfl rfl) (.some rfl rfl rfl) rfl rfl ?_
        refine WL.val (v_indexAddr (lo := 7) rfl rfl rfl Try.underlying22 sz_5 rfl (by omega)) (.some rfl rfl rfl) rfl rfl ?_
        refine WL.val (v_load1 rfl rfl one_5 (cellAt (bget (by omega)))) (.some rfl rfl rfl) rfl rfl ?_
        refine WL.test (v_neq rfl rfl rfl) (.some rfl rfl rfl) rfl rfl (fun h26 => ?_) (fun h26 => ?_)
        · -- 26T
          refine WL.val (v_move rfl rfl) (.some rfl rfl rfl) rfl rfl ?_
          refine WL.val (v_move rfl rfl) (.some rfl rfl rfl) rfl rfl ?_
          refine WL.val (v_indexAddr (lo := 7) rfl rfl rfl Try.underlying22 sz_5 rfl (by omega)) (.some rfl rfl rfl) rfl rfl ?_
          refine WL.val (v_load1 rfl rfl one_5 (cellAt (bget (by omega)))) (.some rfl rfl rfl) rfl rfl ?_
          refine WL.test (v_neq rfl rfl rfl) (.some rfl rfl rfl) rfl rfl (fun h31 => ?_) (fun h31 => ?_)
          · -- 31T
            refine WL.val (v_pick_t rfl rfl rfl) (.some rfl rfl rfl) rfl rfl ?_
            refine WL.val (v_pick_f rfl rfl rfl) (.none rfl) rfl rfl ?_
            refine WL.nil ?_
            refine WE.then_n ?_
            refine WC.cond_t rfl ?_
            refine WC.seq ?_
            refine WC.region ?_
            refine WL.val (v_build rfl rfl zero_44 plc_44 rfl) (.none rfl) rfl rfl ?_
            refine WL.storeW rfl rfl rfl rfl many_44 rfl rfl (.none rfl) rfl ?_
            refine WL.val (v_assign rfl rfl) (.none rfl) rfl rfl ?_
            refine WL.nil ?_
            refine WE.then_n ?_
            refine WC.ret ?_
            refine WE.then_ret ?_
            refine WE.ret2 (P := Try.prog) (.inl rfl) Try.results16 (resRow rfl many_44 rfl) rfl ?_
            exact fun w' h => ⟨Ak.zero, 2, rfl, .inr (.inr (.inl ⟨by omega, by omega, .inr ⟨h26, h31⟩, rfl, rfl⟩)), h.frm⟩
          · -- 31F
            refine WL.val (v_pick_t rfl rfl rfl) (.some rfl rfl rfl) rfl rfl ?_
            refine WL.val (v_pick_f rfl rfl rfl) (.none rfl) rfl rfl ?_
            refine WL.nil ?_
            refine WE.then_n ?_
            refine WC.cond_f rfl ?_
            refine WC.skip ?_
            refine WE.then_n ?_
            refine WC.seq ?_
            refine WC.tail 18 mixed (by kernel_rfl) ?_
            simp only [List.take_succ_cons, List.take_zero, List.drop_succ_cons, List.drop_zero]
            refine WQ.val (v_move rfl rfl) (.none rfl) rfl rfl ?_
            refine WQ.val (v_indexAddr (lo := 7) rfl rfl rfl Try.underlying22 sz_5 rfl (by omega)) (.none rfl) rfl rfl ?_
            refine WQ.val (v_load1 rfl rfl one_5 (cellAt (bget (by omega)))) (.none rfl) rfl rfl ?_
            refine WQ.val (v_eql rfl rfl rfl) (.none rfl) rfl rfl ?_
            refine WQ.val (v_move rfl rfl) (.none rfl) rfl rfl ?_
            refine WQ.val (v_slice_lhS (lo := 8) (hi := 14) rfl rfl rfl rfl Try.underlying22 sz_5 rfl rfl (by omega) (by omega) (by omega)) (.none rfl) rfl rfl ?_
            refine WQ.val (v_arrayAt rfl rfl Try.underlying26 (by omega)) (.none rfl) rfl rfl ?_
            refine WQ.val (v_loadN rfl rfl many_26 rfl (segAt (m := 6) (bseg (k := 8) (by omega)))) (.none rfl) rfl rfl ?_
            refine WQ.val (v_move rfl rfl) (.none rfl) rfl rfl ?_
            refine WQ.val (v_slice_loS (lo := 14) rfl rfl rfl Try.underlying22 sz_5 rfl (by omega) (by omega)) (.none rfl) rfl rfl ?_
            refine WQ.call _ rfl rfl ck_30 (.none rfl) rfl rfl (fun w hS => Calls.still ((getAddr_c w _ _ _ _ (fun i => f (28 + i)) (rdAt (fun i hi => (bget4 (k := 14) (q := 4) (by omega) i hi).trans (by rw [← Nat.add_assoc])) w hS) (hf.sub 28) (by omega) (by omega) (four f 28) rfl)) hS) ?_
            refine WQ.val (v_move rfl rfl) (.none rfl) rfl rfl ?_
            refine WQ.val (v_slice_lhS (lo := 18) (hi := 24) rfl rfl rfl rfl Try.underlying22 sz_5 rfl rfl (by omega) (by omega) (by omega)) (.none rfl) rfl rfl ?_
            refine WQ.val (v_arrayAt rfl rfl Try.underlying26 (by omega)) (.none rfl) rfl rfl ?_
            refine WQ.val (v_loadN rfl rfl many_26 rfl (segAt (m := 6) (bseg (k := 18) (by omega)))) (.none rfl) rfl rfl ?_
            refine WQ.val (v_move rfl rfl) (.none rfl) rfl rfl ?_
            refine WQ.val (v_slice_loS (lo := 24) rfl rfl rfl Try.underlying22 sz_5 rfl (by omega) (by omega)) (.none rfl) rfl rfl ?_
            refine WQ.call _ rfl rfl ck_30 (.none rfl) rfl rfl (fun w hS => Calls.still ((getAddr_c w _ _ _ _ (fun i => f (38 + i)) (rdAt (fun i hi => (bget4 (k := 24) (q := 4) (by omega) i hi).trans (by rw [← Nat.add_assoc])) w hS) (hf.sub 38) (by omega) (by omega) (four f 38) rfl)) hS) ?_
            refine WQ.nilT ?_
            refine WL.val (v_build rfl rfl zero_44 plc_44 rfl) (.none rfl) rfl rfl ?_
            refine WL.storeW rfl rfl rfl rfl many_44 rfl rfl (.none rfl) rfl ?_
            refine WL.val (v_assign rfl rfl) (.none rfl) rfl rfl ?_
            refine WL.nil ?_
            refine WE.then_n ?_
            refine WC.ret ?_
            refine WE.ret2 (P := Try.prog) (.inl rfl) Try.results16 (resRow rfl many_44 rfl) rfl ?_
            exact fun w' h => ⟨akOf f, 0, rfl, .inr (.inr (.inr ⟨by omega, by omega, Classical.not_not.1 h21, .inr (Classical.not_not.1 h31), rfl, rfl⟩)), h.frm⟩
        · -- 26F
          refine WL.val (v_move rfl rfl) (.some rfl rfl rfl) rfl rfl ?_
          refine WL.skip rfl rfl rfl rfl rfl rfl ?_
          refine WL.skip rfl rfl rfl rfl rfl rfl ?_
          refine WL.skip rfl rfl rfl rfl rfl rfl ?_
          refine WL.skip rfl rfl rfl rfl rfl rfl ?_
          refine WL.val (v_pick_f rfl rfl rfl) (.some rfl rfl rfl) rfl rfl ?_
          refine WL.val (v_pick_f rfl rfl rfl) (.none rfl) rfl rfl ?_
          refine WL.nil ?_
          refine WE.then_n ?_
          refine WC.cond_f rfl ?_
          refine WC.skip ?_
          refine WE.then_n ?_
          refine WC.seq ?_
          refine WC.tail 18 mixed (by kernel_rfl) ?_
          simp only [List.take_succ_cons, List.take_zero, List.drop_succ_cons, List.drop_zero]
          refine WQ.val (v_move rfl rfl) (.none rfl) rfl rfl ?_
          refine WQ.val (v_indexAddr (lo := 7) rfl rfl rfl Try.underlying22 sz_5 rfl (by omega)) (.none rfl) rfl rfl ?_
          refine WQ.val (v_load1 rfl rfl one_5 (cellAt (bget (by omega)))) (.none rfl) rfl rfl ?_
          refine WQ.val (v_eql rfl rfl rfl) (.none rfl) rfl rfl ?_
          refine WQ.val (v_move rfl rfl) (.none rfl) rfl rfl ?_
          refine WQ.val (v_slice_lhS (lo := 8) (hi := 14) rfl rfl rfl rfl Try.underlying22 sz_5 rfl rfl (by omega) (by omega) (by omega)) (.none rfl) rfl rfl ?_
          refine WQ.val (v_arrayAt rfl rfl Try.underlying26 (by omega)) (.none rfl) rfl rfl ?_
          refine WQ.val (v_loadN rfl rfl many_26 rfl (segAt (m := 6) (bseg (k := 8) (by omega)))) (.none rfl) rfl rfl ?_
          refine WQ.val (v_move rfl rfl) (.none rfl) rfl rfl ?_
          refine WQ.val (v_slice_loS (lo := 14) rfl rfl rfl Try.underlying22 sz_5 rfl (by omega) (by omega)) (.none rfl) rfl rfl ?_
          refine WQ.call _ rfl rfl ck_30 (.none rfl) rfl rfl (fun w hS => Calls.still ((getAddr_c w _ _ _ _ (fun i => f (28 + i)) (rdAt (fun i hi => (bget4 (k := 14) (q := 4) (by omega) i hi).trans (by rw [← Nat.add_assoc])) w hS) (hf.sub 28) (by omega) (by omega) (four f 28) rfl)) hS) ?_
          refine WQ.val (v_move rfl rfl) (.none rfl) rfl rfl ?_
          refine WQ.val (v_slice_lhS (lo := 18) (hi := 24) rfl rfl rfl rfl Try.underlying22 sz_5 rfl rfl (by omega) (by omega) (by omega)) (.none rfl) rfl rfl ?_
          refine WQ.val (v_arrayAt rfl rfl Try.underlying26 (by omega)) (.none rfl) rfl rfl ?_
          refine WQ.val (v_loadN rfl rfl many_26 rfl (segAt (m := 6) (bseg (k := 18) (by omega)))) (.none rfl) rfl rfl ?_
          refine WQ.val (v_move rfl rfl) (.none rfl) rfl rfl ?_
          refine WQ.val (v_slice_loS (lo := 24) rfl rfl rfl Try.underlying22 sz_5 rfl (by omega) (by omega)) (.none rfl) rfl rfl ?_
          refine WQ.call _ rfl rfl ck_30 (.none rfl) rfl rfl (fun w hS => Calls.still ((getAddr_c w _ _ _ _ (fun i => f (38 + i)) (rdAt (fun i hi => (bget4 (k := 24) (q := 4) (by omega) i hi).trans (by rw [← Nat.add_assoc])) w hS) (hf.sub 38) (by omega) (by omega) (four f 38) rfl)) hS) ?_
          refine WQ.nilT ?_
          refine WL.val (v_build rfl rfl zero_44 plc_44 rfl) (.none rfl) rfl rfl ?_
          refine WL.storeW rfl rfl rfl rfl many_44 rfl rfl (.none rfl) rfl ?_
          refine WL.val (v_assign rfl rfl) (.none rfl) rfl rfl ?_
          refine WL.nil ?_
          refine WE.then_n ?_
          refine WC.ret ?_
          refine WE.ret2 (P := Try.prog) (.inl rfl) Try.results16 (resRow rfl many_44 rfl) rfl ?_
          exact fun w' h => ⟨akOf f, 0, rfl, .inr (.inr (.inr ⟨by omega, by omega, Classical.not_not.1 h21, .inl (Classical.not_not.1 h26), rfl, rfl⟩)), h.frm⟩

def arpBegB (f : Nat → Int) : Bool := decide ((str (fun i => f (14 + i)) 7).toList = (ByteArray.mk #[0, 1, 8, 0, 6, 4, 0]).toList)
/-- What is wrong with a frame as a question or an answer; 0: nothing. -/
def arpErr (f : Nat → Int) (n : Nat) (ty : Int) : Int := if ty ≠ 2054 then 12 else if n < 42 then 10 else if arpBegB f = false ∨ (f 21 ≠ 1 ∧ f 21 ≠ 2) then 2 else 0
theorem arpBegB_iff (f : Nat → Int) : arpBeg f ↔ arpBegB f = true := by unfold arpBeg arpBegB; rw [decide_eq_true_iff]
theorem ArpR.err {f : Nat → Int} {n : Nat} {ty : Int} {A : Ak} {err : Int} (h : ArpR f n ty A err) : err = arpErr f n ty ∧ A = if arpErr f n ty = 0 then akOf f else Ak.zero := by
  unfold arpErr
  rcases h with ⟨h1, rfl, rfl⟩ | ⟨h1, h2, rfl, rfl⟩ | ⟨h1, h2, h3, rfl, rfl⟩ | ⟨h1, h2, h3, h4, rfl, rfl⟩
  · rw [if_pos h1]; exact ⟨rfl, by rw [if_neg (by decide)]⟩
  · rw [if_neg (by omega), if_pos h2]; exact ⟨rfl, by rw [if_neg (by decide)]⟩
  · have h5 : arpBegB f = false ∨ (f 21 ≠ 1 ∧ f 21 ≠ 2) := h3.imp (fun h => by rw [arpBegB_iff] at h; simpa using h) id
    rw [if_neg (by omega), if_neg (by omega), if_pos h5]; exact ⟨rfl, by rw [if_neg (by decide)]⟩
  · rw [arpBegB_iff] at h3
    have h5 : ¬ (arpBegB f = false ∨ (f 21 ≠ 1 ∧ f 21 ≠ 2)) := by
      rintro (h | h)
      · rw [h3] at h; cases h
      · omega
    rw [if_neg (by omega), if_neg (by omega), if_neg h5]; exact ⟨rfl, rfl⟩
theorem ParseArp_0 (w : World) (H W : Hd) (f : Nat → Int) (n : Nat) (po en : Int) (hf : Byt f) (h14 : W.ty = 2054 → 14 ≤ n) (hn : n ≤ 2000) (h : arpErr f n W.ty = 0) :
    Calls Try.prog 16 #[packV H W (str f n) po en] w fun e w' => e = .returned (.tuple #[.agg (akCells (akOf f)).toArray, .int .i64 0]) ∧ Frm (fun _ => False) w w' := by
  refine (ParseArp_c w H W f n po en hf h14 hn).mono ?_
  rintro e w' ⟨A, err, rfl, hA, hF⟩
  obtain ⟨rfl, rfl⟩ := hA.err
  rw [h]; exact ⟨rfl, hF⟩
theorem ParseArp_x (w : World) (H W : Hd) (f : Nat → Int) (n : Nat) (po en : Int) (hf : Byt f) (h14 : W.ty = 2054 → 14 ≤ n) (hn : n ≤ 2000) (h : arpErr f n W.ty ≠ 0) :
    Calls Try.prog 16 #[packV H W (str f n) po en] w fun e w' => e = .returned (.tuple #[.agg (akCells Ak.zero).toArray, .int .i64 (arpErr f n W.ty)]) ∧ Frm (fun _ => False) w w' := by
  refine (ParseArp_c w H W f n po en hf h14 hn).mono ?_
  rintro e w' ⟨A, err, rfl, hA, hF⟩
  obtain ⟨rfl, rfl⟩ := hA.err
  rw [if_neg h]; exact ⟨rfl, hF⟩
theorem prHd_ty (port : Int) (f : Nat → Int) : (prHd port f).ty = two f 12 := by
  unfold prHd pkHd; split
  · split <;> rfl
  · rfl
end Go.Proofs.Ytpjjlggonpbegaa
