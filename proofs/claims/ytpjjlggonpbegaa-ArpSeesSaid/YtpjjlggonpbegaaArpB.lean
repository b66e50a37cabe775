/- frame.put, putAddr, EmitArp. -/
import Derived.Test.YtpjjlggonpbegaaArpA
namespace Go.Proofs.Ytpjjlggonpbegaa
open Go.RowKit

set_option maxHeartbeats 400000 in
theorem put_f (p : Nat → Prop) (w0 w : World) (L : List Ent) (b off n cap : Nat) (x : Int) (cs : List Value) (hS : St p w0 w (.row b cs :: L)) (hn : 2 ≤ n) (ho : off + 2 ≤ cs.length) (hx : 0 ≤ x) (hx' : x ≤ 65535) :
    Calls Try.prog 31 #[.slice (some ⟨b, off, none⟩) n cap, .int .i64 x] w fun e w' => e = .returned (.tuple #[]) ∧ St p w0 w' (.row b ((cs.set off (.int .u8 (x / 256))).set (off + 1) (.int .u8 (x % 256))) :: L) := by
  refine enter Try.func31 rfl Try.ntmps31 rfl hS ?_
  refine WC.region ?_
  refine WL.val (v_move rfl rfl) (.none rfl) rfl rfl ?_
  refine WL.val (v_move rfl rfl) (.none rfl) rfl rfl ?_
  refine WL.val (v_move rfl rfl) (.none rfl) rfl rfl ?_
  refine WL.val (v_shr (m := 8) (c := 256) rfl rfl rfl rfl (by decide) (by decide)) (.none rfl) rfl rfl ?_
  refine WL.val (v_conv rfl rfl Try.underlying5 Try.underlying3 (by first | exact w_u8 (by omega) (by omega) | exact w_u8m _)) (.none rfl) rfl rfl ?_
  refine WL.val (v_move rfl rfl) (.none rfl) rfl rfl ?_
  refine WL.val (v_conv rfl rfl Try.underlying5 Try.underlying3 (by first | exact w_u8 (by omega) (by omega) | exact w_u8m _)) (.none rfl) rfl rfl ?_
  refine WL.val (v_indexAddr (lo := 0) rfl rfl rfl Try.underlying22 sz_5 rfl (by omega)) (.none rfl) rfl rfl ?_
  refine WL.store1 rfl rfl rfl rfl one_5 (by omega) (.none rfl) rfl ?_
  refine WL.val (v_indexAddr (lo := 1) rfl rfl rfl Try.underlying22 sz_5 rfl (by omega)) (.none rfl) rfl rfl ?_
  refine WL.store1 rfl rfl rfl rfl one_5 (by simp; omega) (.none rfl) rfl ?_
  refine WL.nil ?_
  refine WE.ret0 (P := Try.prog) (.inr rfl) Try.results31  ?_
  exact fun w' h => ⟨rfl, h⟩
/-- The cells with two bytes of a number at a place. -/
def put2 (cs : List Value) (off : Nat) (x : Int) : List Value := (cs.set off (.int .u8 (x / 256))).set (off + 1) (.int .u8 (x % 256))
theorem put2_length (cs : List Value) (off : Nat) (x : Int) : (put2 cs off x).length = cs.length := by simp [put2]
theorem put_c {p : Nat → Prop} {w0 w : World} {L L' : List Ent} {b off n cap : Nat} {x : Int} {cs : List Value} (hS : St p w0 w L) [At L b cs] [Put L b (.row b (put2 cs off x)) L'] (hn : 2 ≤ n) (ho : off + 2 ≤ cs.length) (hx : 0 ≤ x) (hx' : x ≤ 65535) :
    Calls Try.prog 31 #[.slice (some ⟨b, off, none⟩) n cap, .int .i64 x] w fun e w' => e = .returned (.tuple #[]) ∧ St p w0 w' L' := by
  obtain ⟨R, h1, h2⟩ := hS.swap (g := b) (cs := cs) (cs' := put2 cs off x) (L' := L')
  exact (put_f p w0 w R b off n cap x cs h1 hn ho hx hx').mono fun e w' ⟨he, h⟩ => ⟨he, h2 w' h⟩

def put4 (cs : List Value) (off : Nat) (x : Int) : List Value := put2 (put2 cs off (x / 65536)) (off + 2) (x % 65536)
set_option maxHeartbeats 400000 in
theorem putAddr_f (p : Nat → Prop) (w0 w : World) (L : List Ent) (b off n cap : Nat) (x : Int) (cs : List Value) (hS : St p w0 w (.row b cs :: L)) (hn : 4 ≤ n) (hc : n ≤ cap) (ho : off + 4 ≤ cs.length) (hx : 0 ≤ x) (hx' : x ≤ 4294967295) :
    Calls Try.prog 32 #[.slice (some ⟨b, off, none⟩) n cap, .int .u32 x] w fun e w' => e = .returned (.tuple #[]) ∧ St p w0 w' (.row b (put4 cs off x) :: L) := by
  refine enter Try.func32 rfl Try.ntmps32 rfl hS ?_
  refine WC.seq ?_
  refine WC.region ?_
  refine WL.val (v_move rfl rfl) (.none rfl) rfl rfl ?_
  refine WL.val (v_move rfl rfl) (.none rfl) rfl rfl ?_
  refine WL.val (v_shr (m := 16) (c := 65536) rfl rfl rfl rfl (by decide) (by decide)) (.none rfl) rfl rfl ?_
  refine WL.val (v_conv rfl rfl Try.underlying3 Try.underlying28 (w_i64 (by omega) (by omega))) (.none rfl) rfl rfl ?_
  refine WL.call rfl rfl ck_31 (.none rfl) rfl rfl ?_
  intro w hS
  refine Calls.thenS (put_c hS (by omega) (by omega) (by omega) (by omega)) ?_
  refine WL.nil ?_
  refine WE.then_n ?_
  refine WC.region ?_
  refine WL.val (v_move rfl rfl) (.none rfl) rfl rfl ?_
  refine WL.val (v_slice_loS (lo := 2) rfl rfl rfl Try.underlying22 sz_5 rfl (by omega) (by omega)) (.none rfl) rfl rfl ?_
  refine WL.val (v_move rfl rfl) (.none rfl) rfl rfl ?_
  refine WL.val (v_and rfl rfl rfl (mask_u32 (i := 16) (m := 65536) (by decide) (by decide) (by decide) (by omega) (by omega))) (.none rfl) rfl rfl ?_
  refine WL.val (v_conv rfl rfl Try.underlying3 Try.underlying28 (w_i64 (by omega) (by omega))) (.none rfl) rfl rfl ?_
  refine WL.call rfl rfl ck_31 (.none rfl) rfl rfl ?_
  intro w hS
  refine Calls.thenS (put_c hS (by omega) (by rw [put2_length]; omega) (by omega) (by omega)) ?_
  refine WL.nil ?_
  refine WE.ret0 (P := Try.prog) (.inr rfl) Try.results32  ?_
  exact fun w' h => ⟨rfl, h⟩
theorem put4_length (cs : List Value) (off : Nat) (x : Int) : (put4 cs off x).length = cs.length := by simp [put4, put2]
theorem putAddr_c {p : Nat → Prop} {w0 w : World} {L L' : List Ent} {b off n cap : Nat} {x : Int} {cs : List Value} (hS : St p w0 w L) [At L b cs] [Put L b (.row b (put4 cs off x)) L'] (hn : 4 ≤ n) (hc : n ≤ cap) (ho : off + 4 ≤ cs.length) (hx : 0 ≤ x) (hx' : x ≤ 4294967295) :
    Calls Try.prog 32 #[.slice (some ⟨b, off, none⟩) n cap, .int .u32 x] w fun e w' => e = .returned (.tuple #[]) ∧ St p w0 w' L' := by
  obtain ⟨R, h1, h2⟩ := hS.swap (g := b) (cs := cs) (cs' := put4 cs off x) (L' := L')
  exact (putAddr_f p w0 w R b off n cap x cs h1 hn hc ho hx hx').mono fun e w' ⟨he, h⟩ => ⟨he, h2 w' h⟩

/-- The bytes of a question or an answer. -/
def arpL (to mac tmac : Nat → Int) (kind ip tip : Int) : List Int := [to 0, to 1, to 2, to 3, to 4, to 5, mac 0, mac 1, mac 2, mac 3, mac 4, mac 5, 8, 6, 0, 1, 8, 0, 6, 4, 0, kind,
  mac 0, mac 1, mac 2, mac 3, mac 4, mac 5, ip / 65536 / 256, ip / 65536 % 256, ip % 65536 / 256, ip % 65536 % 256,
  tmac 0, tmac 1, tmac 2, tmac 3, tmac 4, tmac 5, tip / 65536 / 256, tip / 65536 % 256, tip % 65536 / 256, tip % 65536 % 256]
def arpF (A : Ak) (i : Nat) : Int := (arpL (if A.ans = true then A.tmac else fun _ => 255) A.mac A.tmac (if A.ans = true then 2 else 1) A.ip A.tip).getD i 0
theorem arpF_T {A : Ak} (h : A.ans = true) : bcs (arpF A) 42 = (arpL A.tmac A.mac A.tmac 2 A.ip A.tip).map (Value.int .u8) := by
  have e : arpF A = fun i => (arpL A.tmac A.mac A.tmac 2 A.ip A.tip).getD i 0 := by funext i; unfold arpF; simp [h]
  rw [e]; rfl
theorem arpF_F {A : Ak} (h : A.ans = false) : bcs (arpF A) 42 = (arpL (fun _ => 255) A.mac A.tmac 1 A.ip A.tip).map (Value.int .u8) := by
  have e : arpF A = fun i => (arpL (fun _ => 255) A.mac A.tmac 1 A.ip A.tip).getD i 0 := by funext i; unfold arpF; simp [h]
  rw [e]; rfl

theorem St.rowEq {p : Nat → Prop} {w0 w : World} {L : List Ent} {g : Nat} {cs cs' : List Value} (h : St p w0 w (.row g cs :: L)) (e : cs = cs') : St p w0 w (.row g cs' :: L) := e ▸ h
set_option maxHeartbeats 1000000 in
theorem EmitArp_c {p : Nat → Prop} {w0 w : World} {L : List Ent} (A : Ak) (hS : St p w0 w L) (h1 : 0 ≤ A.ip) (h2 : A.ip ≤ 4294967295) (h3 : 0 ≤ A.tip) (h4 : A.tip ≤ 4294967295) :
    Calls Try.prog 18 #[.agg (akCells A).toArray] w fun e w' => ∃ g, w0.heap.size ≤ g ∧ e = .returned (.slice (some ⟨g, 0, none⟩) 42 42) ∧ St p w0 w' (.row g (bcs (arpF A) 42) :: L) := by
  refine enter Try.func18 rfl Try.ntmps18 rfl hS ?_
  refine WC.seq ?_
  refine WC.region ?_
  refine WL.box rfl rfl rfl (.none rfl) rfl rfl ?_
  intro g1 hg1
  refine WL.val (v_assign rfl rfl) (.none rfl) rfl rfl ?_
  refine WL.nil ?_
  refine WE.then_n ?_
  refine WC.seq ?_
  refine WC.region ?_
  refine WL.make1 (m := 42) (c := 42) rfl rfl rfl rfl rfl (by omega) Try.underlying22 by_5 (by omega) (by omega) one_5 zero_5 (.none rfl) rfl rfl ?_
  intro g7 hg7
  refine WL.val (v_assign rfl rfl) (.none rfl) rfl rfl ?_
  refine WL.nil ?_
  refine WE.then_n ?_
  refine WC.seq ?_
  refine WC.region ?_
  refine WL.val (v_buildA rfl rfl zero_26 Try.underlying26 sz_5 rfl) (.none rfl) rfl rfl ?_
  refine WL.alloc rfl zero_26 (.none rfl) rfl rfl ?_
  intro g4 hg4
  refine WL.storeW rfl rfl rfl rfl many_26 rfl rfl (.none rfl) rfl ?_
  refine WL.val (v_assign rfl rfl) (.none rfl) rfl rfl ?_
  refine WL.nil ?_
  refine WE.then_n ?_
  refine WC.seq ?_
  refine WC.seq ?_
  refine WC.region ?_
  refine WL.val (v_fieldAddr0 rfl rfl fld_44_0) (.none rfl) rfl rfl ?_
  refine WL.val (v_load1 rfl rfl one_4 (cellAt rfl)) (.none rfl) rfl rfl ?_
  refine WL.nil ?_
  refine WE.then_n ?_
  refine WC.cond_b rfl (fun h10 => ?_) (fun h10 => ?_)
  · -- 10T
    refine WC.region ?_
    refine WL.val (v_fieldAddr0 rfl rfl fld_44_3) (.none rfl) rfl rfl ?_
    refine WL.val (v_loadN rfl rfl many_26 rfl (segAt (m := 6) rfl)) (.none rfl) rfl rfl ?_
    refine WL.storeW rfl rfl rfl rfl many_26 rfl rfl (.none rfl) rfl ?_
    refine WL.val (v_assign rfl rfl) (.none rfl) rfl rfl ?_
    refine WL.nil ?_
    refine WE.then_n ?_
    refine WC.seq ?_
    refine WC.region ?_
    refine WL.val (v_move rfl rfl) (.none rfl) rfl rfl ?_
    refine WL.val (v_slice_arr rfl rfl Try.underlying26 sz_5) (.none rfl) rfl rfl ?_
    refine WL.copyL rfl rfl rfl Try.underlying22 sz_5 rfl allAt rfl (Nat.le_of_ble_eq_true rfl) (.none rfl) rfl rfl ?_
    refine WL.nil ?_
    refine WE.then_n ?_
    refine WC.seq ?_
    refine WC.tail 4 mixed (by kernel_rfl) ?_
    simp only [List.take_succ_cons, List.take_zero, List.drop_succ_cons, List.drop_zero]
    refine WQ.val (v_move rfl rfl) (.none rfl) rfl rfl ?_
    refine WQ.val (v_slice_loS (lo := 6) rfl rfl rfl Try.underlying22 sz_5 rfl (by omega) (by omega)) (.none rfl) rfl rfl ?_
    refine WQ.val (v_fieldAddr0 rfl rfl fld_44_1) (.none rfl) rfl rfl ?_
    refine WQ.val (v_slice_arr rfl rfl Try.underlying26 sz_5) (.none rfl) rfl rfl ?_
    refine WQ.nilT ?_
    refine WL.copyL rfl rfl rfl Try.underlying22 sz_5 rfl (segAt (m := 6) rfl) rfl (Nat.le_of_ble_eq_true rfl) (.none rfl) rfl rfl ?_
    refine WL.nil ?_
    refine WE.then_n ?_
    refine WC.seq ?_
    refine WC.region ?_
    refine WL.val (v_move rfl rfl) (.none rfl) rfl rfl ?_
    refine WL.val (v_slice_loS (lo := 12) rfl rfl rfl Try.underlying22 sz_5 rfl (by omega) (by omega)) (.none rfl) rfl rfl ?_
    refine WL.call rfl rfl ck_31 (.none rfl) rfl rfl ?_
    intro w hS
    refine Calls.thenS (put_c hS (by omega) (Nat.le_of_ble_eq_true rfl) (by omega) (by omega)) ?_
    refine WL.nil ?_
    refine WE.then_n ?_
    refine WC.seq ?_
    refine WC.region ?_
    refine WL.val (v_move rfl rfl) (.none rfl) rfl rfl ?_
    refine WL.val (v_slice_loS (lo := 14) rfl rfl rfl Try.underlying22 sz_5 rfl (by omega) (by omega)) (.none rfl) rfl rfl ?_
    refine WL.val (v_assign rfl rfl) (.none rfl) rfl rfl ?_
    refine WL.nil ?_
    refine WE.then_n ?_
    refine WC.seq ?_
    refine WC.region ?_
    refine WL.val (v_move rfl rfl) (.none rfl) rfl rfl ?_
    refine WL.copyS rfl rfl rfl Try.underlying22 sz_5 rfl (Nat.le_of_ble_eq_true rfl) (.none rfl) rfl rfl ?_
    refine WL.nil ?_
    refine WE.then_n ?_
    refine WC.seq ?_
    refine WC.region ?_
    refine WL.val (v_move rfl rfl) (.none rfl) rfl rfl ?_
    refine WL.val (v_move rfl rfl) (.none rfl) rfl rfl ?_
    refine WL.val (v_indexAddr (lo := 7) rfl rfl rfl Try.underlying22 sz_5 rfl (by omega)) (.none rfl) rfl rfl ?_
    refine WL.store1 rfl rfl rfl rfl one_5 (Nat.le_of_ble_eq_true rfl) (.none rfl) rfl ?_
    refine WL.nil ?_
    refine WE.then_n ?_
    refine WC.seq ?_
    refine WC.tail 4 mixed (by kernel_rfl) ?_
    simp only [List.take_succ_cons, List.take_zero, List.drop_succ_cons, List.drop_zero]
    refine WQ.val (v_move rfl rfl) (.none rfl) rfl rfl ?_
    refine WQ.val (v_slice_loS (lo := 8) rfl rfl rfl Try.underlying22 sz_5 rfl (by omega) (by omega)) (.none rfl) rfl rfl ?_
    refine WQ.val (v_fieldAddr0 rfl rfl fld_44_1) (.none rfl) rfl rfl ?_
    refine WQ.val (v_slice_arr rfl rfl Try.underlying26 sz_5) (.none rfl) rfl rfl ?_
    refine WQ.nilT ?_
    refine WL.copyL rfl rfl rfl Try.underlying22 sz_5 rfl (segAt (m := 6) rfl) rfl (Nat.le_of_ble_eq_true rfl) (.none rfl) rfl rfl ?_
    refine WL.nil ?_
    refine WE.then_n ?_
    refine WC.seq ?_
    refine WC.tail 4 mixed (by kernel_rfl) ?_
    simp only [List.take_succ_cons, List.take_zero, List.drop_succ_cons, List.drop_zero]
    refine WQ.val (v_move rfl rfl) (.none rfl) rfl rfl ?_
    refine WQ.val (v_slice_loS (lo := 14) rfl rfl rfl Try.underlying22 sz_5 rfl (by omega) (by omega)) (.none rfl) rfl rfl ?_
    refine WQ.val (v_fieldAddr0 rfl rfl fld_44_2) (.none rfl) rfl rfl ?_
    refine WQ.val (v_load1 rfl rfl one_28 (cellAt rfl)) (.none rfl) rfl rfl ?_
    refine WQ.nilT ?_
    refine WL.call rfl rfl ck_32 (.none rfl) rfl rfl ?_
    intro w hS
    refine Calls.thenS (putAddr_c hS (by omega) (by omega) (Nat.le_of_ble_eq_true rfl) h1 h2) ?_
    refine WL.nil ?_
    refine WE.then_n ?_
    refine WC.seq ?_
    refine WC.tail 4 mixed (by kernel_rfl) ?_
    simp only [List.take_succ_cons, List.take_zero, List.drop_succ_cons, List.drop_zero]
    refine WQ.val (v_move rfl rfl) (.none rfl) rfl rfl ?_
    refine WQ.val (v_slice_loS (lo := 18) rfl rfl rfl Try.underlying22 sz_5 rfl (by omega) (by omega)) (.none rfl) rfl rfl ?_
    refine WQ.val (v_fieldAddr0 rfl rfl fld_44_3) (.none rfl) rfl rfl ?_
    refine WQ.val (v_slice_arr rfl rfl Try.underlying26 sz_5) (.none rfl) rfl rfl ?_
    refine WQ.nilT ?_
    refine WL.copyL rfl rfl rfl Try.underlying22 sz_5 rfl (segAt (m := 6) rfl) rfl (Nat.le_of_ble_eq_true rfl) (.none rfl) rfl rfl ?_
    refine WL.nil ?_
    refine WE.then_n ?_
    refine WC.seq ?_
    refine WC.tail 4 mixed (by kernel_rfl) ?_
    simp only [List.take_succ_cons, List.take_zero, List.drop_succ_cons, List.drop_zero]
    refine WQ.val (v_move rfl rfl) (.none rfl) rfl rfl ?_
    refine WQ.val (v_slice_loS (lo := 24) rfl rfl rfl Try.underlying22 sz_5 rfl (by omega) (by omega)) (.none rfl) rfl rfl ?_
    refine WQ.val (v_fieldAddr0 rfl rfl fld_44_4) (.none rfl) rfl rfl ?_
    refine WQ.val (v_load1 rfl rfl one_28 (cellAt rfl)) (.none rfl) rfl rfl ?_
    refine WQ.nilT ?_
    refine WL.call rfl rfl ck_32 (.none rfl) rfl rfl ?_
    intro w hS
    refine Calls.thenS (putAddr_c hS (by omega) (by omega) (Nat.le_of_ble_eq_true rfl) h3 h4) ?_
    refine WL.nil ?_
    refine WE.then_n ?_
    refine WC.seq ?_
    refine WC.region ?_
    refine WL.val (v_move rfl rfl) (.none rfl) rfl rfl ?_
    refine WL.val (v_assign rfl rfl) (.none rfl) rfl rfl ?_
    refine WL.nil ?_
    refine WE.then_n ?_
    refine WC.ret ?_
    refine WE.ret1 (P := Try.prog) (.inl rfl) Try.results18 rfl ?_
    exact fun w' h => ⟨g7, hg7, rfl, by
    rw [arpF_T h10]
    exact St.rowEq (h.sub (.cons _ (.cons_cons _ (.cons _ (.refl _))))) (by kernel_rfl)⟩
  · -- 10F
    refine WC.skip ?_
    refine WE.then_n ?_
    refine WC.seq ?_
    refine WC.region ?_
    refine WL.val (v_move rfl rfl) (.none rfl) rfl rfl ?_
    refine WL.val (v_slice_arr rfl rfl Try.underlying26 sz_5) (.none rfl) rfl rfl ?_
    refine WL.copyL rfl rfl rfl Try.underlying22 sz_5 rfl allAt rfl (Nat.le_of_ble_eq_true rfl) (.none rfl) rfl rfl ?_
    refine WL.nil ?_
    refine WE.then_n ?_
    refine WC.seq ?_
    refine WC.tail 4 mixed (by kernel_rfl) ?_
    simp only [List.take_succ_cons, List.take_zero, List.drop_succ_cons, List.drop_zero]
    refine WQ.val (v_move rfl rfl) (.none rfl) rfl rfl ?_
    refine WQ.val (v_slice_loS (lo := 6) rfl rfl rfl Try.underlying22 sz_5 rfl (by omega) (by omega)) (.none rfl) rfl rfl ?_
    refine WQ.val (v_fieldAddr0 rfl rfl fld_44_1) (.none rfl) rfl rfl ?_
    refine WQ.val (v_slice_arr rfl rfl Try.underlying26 sz_5) (.none rfl) rfl rfl ?_
    refine WQ.nilT ?_
    refine WL.copyL rfl rfl rfl Try.underlying22 sz_5 rfl (segAt (m := 6) rfl) rfl (Nat.le_of_ble_eq_true rfl) (.none rfl) rfl rfl ?_
    refine WL.nil ?_
    refine WE.then_n ?_
    refine WC.seq ?_
    refine WC.region ?_
    refine WL.val (v_move rfl rfl) (.none rfl) rfl rfl ?_
    refine WL.val (v_slice_loS (lo := 12) rfl rfl rfl Try.underlying22 sz_5 rfl (by omega) (by omega)) (.none rfl) rfl rfl ?_
    refine WL.call rfl rfl ck_31 (.none rfl) rfl rfl ?_
    intro w hS
    refine Calls.thenS (put_c hS (by omega) (Nat.le_of_ble_eq_true rfl) (by omega) (by omega)) ?_
    refine WL.nil ?_
    refine WE.then_n ?_
    refine WC.seq ?_
    refine WC.region ?_
    refine WL.val (v_move rfl rfl) (.none rfl) rfl rfl ?_
    refine WL.val (v_slice_loS (lo := 14) rfl rfl rfl Try.underlying22 sz_5 rfl (by omega) (by omega)) (.none rfl) rfl rfl ?_
    refine WL.val (v_assign rfl rfl) (.none rfl) rfl rfl ?_
    refine WL.nil ?_
    refine WE.then_n ?_
    refine WC.seq ?_
    refine WC.region ?_
    refine WL.val (v_move rfl rfl) (.none rfl) rfl rfl ?_
    refine WL.copyS rfl rfl rfl Try.underlying22 sz_5 rfl (Nat.le_of_ble_eq_true rfl) (.none rfl) rfl rfl ?_
    refine WL.nil ?_
    refine WE.then_n ?_
    refine WC.seq ?_
    refine WC.region ?_
    refine WL.val (v_move rfl rfl) (.none rfl) rfl rfl ?_
    refine WL.val (v_move rfl rfl) (.none rfl) rfl rfl ?_
    refine WL.val (v_indexAddr (lo := 7) rfl rfl rfl Try.underlying22 sz_5 rfl (by omega)) (.none rfl) rfl rfl ?_
    refine WL.store1 rfl rfl rfl rfl one_5 (Nat.le_of_ble_eq_true rfl) (.none rfl) rfl ?_
    refine WL.nil ?_
    refine WE.then_n ?_
    refine WC.seq ?_
    refine WC.tail 4 mixed (by kernel_rfl) ?_
    simp only [List.take_succ_cons, List.take_zero, List.drop_succ_cons, List.drop_zero]
    refine WQ.val (v_move rfl rfl) (.none rfl) rfl rfl ?_
    refine WQ.val (v_slice_loS (lo := 8) rfl rfl rfl Try.underlying22 sz_5 rfl (by omega) (by omega)) (.none rfl) rfl rfl ?_
    refine WQ.val (v_fieldAddr0 rfl rfl fld_44_1) (.none rfl) rfl rfl ?_
    refine WQ.val (v_slice_arr rfl rfl Try.underlying26 sz_5) (.none rfl) rfl rfl ?_
    refine WQ.nilT ?_
    refine WL.copyL rfl rfl rfl Try.underlying22 sz_5 rfl (segAt (m := 6) rfl) rfl (Nat.le_of_ble_eq_true rfl) (.none rfl) rfl rfl ?_
    refine WL.nil ?_
    refine WE.then_n ?_
    refine WC.seq ?_
    refine WC.tail 4 mixed (by kernel_rfl) ?_
    simp only [List.take_succ_cons, List.take_zero, List.drop_succ_cons, List.drop_zero]
    refine WQ.val (v_move rfl rfl) (.none rfl) rfl rfl ?_
    refine WQ.val (v_slice_loS (lo := 14) rfl rfl rfl Try.underlying22 sz_5 rfl (by omega) (by omega)) (.none rfl) rfl rfl ?_
    refine WQ.val (v_fieldAddr0 rfl rfl fld_44_2) (.none rfl) rfl rfl ?_
    refine WQ.val (v_load1 rfl rfl one_28 (cellAt rfl)) (.none rfl) rfl rfl ?_
    refine WQ.nilT ?_
    refine WL.call rfl rfl ck_32 (.none rfl) rfl rfl ?_
    intro w hS
    refine Calls.thenS (putAddr_c hS (by omega) (by omega) (Nat.le_of_ble_eq_true rfl) h1 h2) ?_
    refine WL.nil ?_
    refine WE.then_n ?_
    refine WC.seq ?_
    refine WC.tail 4 mixed (by kernel_rfl) ?_
    simp only [List.take_succ_cons, List.take_zero, List.drop_succ_cons, List.drop_zero]
    refine WQ.val (v_move rfl rfl) (.none rfl) rfl rfl ?_
    refine WQ.val (v_slice_loS (lo := 18) rfl rfl rfl Try.underlying22 sz_5 rfl (by omega) (by omega)) (.none rfl) rfl rfl ?_
    refine WQ.val (v_fieldAddr0 rfl rfl fld_44_3) (.none rfl) rfl rfl ?_
    refine WQ.val (v_slice_arr rfl rfl Try.underlying26 sz_5) (.none rfl) rfl rfl ?_
    refine WQ.nilT ?_
    refine WL.copyL rfl rfl rfl Try.underlying22 sz_5 rfl (segAt (m := 6) rfl) rfl (Nat.le_of_ble_eq_true rfl) (.none rfl) rfl rfl ?_
    refine WL.nil ?_
    refine WE.then_n ?_
    refine WC.seq ?_
    refine WC.tail 4 mixed (by kernel_rfl) ?_
    simp only [List.take_succ_cons, List.take_zero, List.drop_succ_cons, List.drop_zero]
    refine WQ.val (v_move rfl rfl) (.none rfl) rfl rfl ?_
    refine WQ.val (v_slice_loS (lo := 24) rfl rfl rfl Try.underlying22 sz_5 rfl (by omega) (by omega)) (.none rfl) rfl rfl ?_
    refine WQ.val (v_fieldAddr0 rfl rfl fld_44_4) (.none rfl) rfl rfl ?_
    refine WQ.val (v_load1 rfl rfl one_28 (cellAt rfl)) (.none rfl) rfl rfl ?_
    refine WQ.nilT ?_
    refine WL.call rfl rfl ck_32 (.none rfl) rfl rfl ?_
    intro w hS
    refine Calls.thenS (putAddr_c hS (by omega) (by omega) (Nat.le_of_ble_eq_true rfl) h3 h4) ?_
    refine WL.nil ?_
    refine WE.then_n ?_
    refine WC.seq ?_
    refine WC.region ?_
    refine WL.val (v_move rfl rfl) (.none rfl) rfl rfl ?_
    refine WL.val (v_assign rfl rfl) (.none rfl) rfl rfl ?_
    refine WL.nil ?_
    refine WE.then_n ?_
    refine WC.ret ?_
    refine WE.ret1 (P := Try.prog) (.inl rfl) Try.results18 rfl ?_
    exact fun w' h => ⟨g7, hg7, rfl, by
    rw [arpF_F h10]
    exact St.rowEq (h.sub (.cons _ (.cons_cons _ (.cons _ (.refl _))))) (by kernel_rfl)⟩
end Go.Proofs.Ytpjjlggonpbegaa
