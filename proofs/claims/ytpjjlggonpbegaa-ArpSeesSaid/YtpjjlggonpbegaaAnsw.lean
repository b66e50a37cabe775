/- carrefourlaw05.FrameAnswers. -/
import Derived.Test.YtpjjlggonpbegaaArpB
import Derived.Test.YtpjjlggonpbegaaArg
namespace Go.Proofs.Ytpjjlggonpbegaa
open Go.RowKit

/-- The numbers of a question fit. -/
structure Ak.Fits (A : Ak) : Prop where
  mac : Byt A.mac
  tmac : Byt A.tmac
  ip : 0 ≤ A.ip ∧ A.ip ≤ 4294967295
  tip : 0 ≤ A.tip ∧ A.tip ≤ 4294967295
theorem arpF_byt {A : Ak} (h : A.Fits) : Byt (arpF A) := fun i => by
  have h1 := h.ip; have h2 := h.tip
  have m := h.mac; have t := h.tmac
  have m0 := m 0; have m1 := m 1; have m2 := m 2; have m3 := m 3; have m4 := m 4; have m5 := m 5
  have t0 := t 0; have t1 := t 1; have t2 := t 2; have t3 := t 3; have t4 := t 4; have t5 := t 5
  have key : ∀ x ∈ arpL (if A.ans = true then A.tmac else fun _ => 255) A.mac A.tmac (if A.ans = true then 2 else 1) A.ip A.tip, 0 ≤ x ∧ x ≤ 255 := by
    intro x hx
    have e : ∀ j, j < 6 → 0 ≤ (if A.ans = true then A.tmac else fun _ => (255 : Int)) j ∧ (if A.ans = true then A.tmac else fun _ => (255 : Int)) j ≤ 255 := fun j _ => by
      split
      · exact t j
      · exact ⟨by show (0 : Int) ≤ 255; decide, Int.le_refl _⟩
    have d0 := e 0 (by omega); have d1 := e 1 (by omega); have d2 := e 2 (by omega); have d3 := e 3 (by omega); have d4 := e 4 (by omega); have d5 := e 5 (by omega)
    have k : 0 ≤ (if A.ans = true then (2 : Int) else 1) ∧ (if A.ans = true then (2 : Int) else 1) ≤ 255 := by split <;> decide
    simp only [arpL, List.mem_cons, List.not_mem_nil, or_false] at hx
    omega
  unfold arpF
  by_cases hi : i < (arpL (if A.ans = true then A.tmac else fun _ => 255) A.mac A.tmac (if A.ans = true then 2 else 1) A.ip A.tip).length
  · rw [List.getD_eq_getElem?_getD, List.getElem?_eq_getElem hi]
    exact key _ (List.getElem_mem _)
  · rw [List.getD_eq_getElem?_getD, List.getElem?_eq_none (by omega)]
    exact ⟨Int.le_refl _, by decide⟩
theorem arpF_err (A : Ak) (port : Int) (h : 0 ≤ port ∧ port ≤ 255) : prErr port (arpF A) 42 = 0 := by
  unfold prErr
  rw [if_neg (by omega), if_neg (by omega), if_neg (by omega), if_pos]
  show ¬ ((8 : Int) * 256 + 6 = 2048)
  decide
theorem arpF_hd (A : Ak) (port : Int) : prHd port (arpF A) = ethHd port (arpF A) ∧ prPorts (arpF A) = 0 ∧ prEnd (arpF A) = 0 := by
  have e : ¬ two (arpF A) 12 = 2048 := by
    show ¬ ((8 : Int) * 256 + 6 = 2048)
    decide
  unfold prHd prPorts prEnd
  rw [if_neg e, if_neg e, if_neg e]; exact ⟨rfl, rfl, rfl⟩
theorem arpF_arp (A : Ak) : arpErr (arpF A) 42 2054 = 0 := by
  have h1 : arpBegB (arpF A) = true := by unfold arpBegB; rw [decide_eq_true_iff]; rfl
  have h2 : arpF A 21 = if A.ans = true then 2 else 1 := rfl
  unfold arpErr
  rw [if_neg (by decide), if_neg (by omega), if_neg]
  rintro (h | h)
  · rw [h1] at h; cases h
  · rw [h2] at h; split at h <;> omega
theorem arpF_ak {A : Ak} (h : A.Fits) : akCells (akOf (arpF A)) = akCells A := by
  have h1 := h.ip; have h2 := h.tip
  have e1 : (akOf (arpF A)).ip = A.ip := by
    show (A.ip / 65536 / 256 * 256 + A.ip / 65536 % 256) * 65536 + (A.ip % 65536 / 256 * 256 + A.ip % 65536 % 256) = A.ip
    omega
  have e2 : (akOf (arpF A)).tip = A.tip := by
    show (A.tip / 65536 / 256 * 256 + A.tip / 65536 % 256) * 65536 + (A.tip % 65536 / 256 * 256 + A.tip % 65536 % 256) = A.tip
    omega
  have e3 : (akOf (arpF A)).ans = A.ans := by
    show decide ((if A.ans = true then (2 : Int) else 1) = 2) = A.ans
    cases A.ans <;> rfl
  unfold akCells
  rw [e1, e2, e3]
  rfl
theorem arpDst_T {A : Ak} (h : A.ans = true) : u8s (arpF A) = u8s A.tmac := by
  show u8s (if A.ans = true then A.tmac else fun _ => 255) = _
  rw [if_pos h]
theorem arpDst_F {A : Ak} (h : A.ans = false) : u8s (arpF A) = u8s fun _ => 255 := by
  show u8s (if A.ans = true then A.tmac else fun _ => 255) = _
  rw [if_neg (by rw [h]; decide)]
theorem ParseE_k (w : World) (A : Ak) (port : Int) (hp : 0 ≤ port ∧ port ≤ 255) (a : Option Addr) (cap : Nat) (hr : RdO w a 42 (arpF A)) (hA : A.Fits) (hc : 42 ≤ cap) :
    Calls Try.prog 12 #[.int .i64 port, .slice a 42 cap] w fun e w' => e = .returned (.tuple #[packV (ethHd port (arpF A)) (ethHd port (arpF A)) (str (arpF A) 42) 0 0, .int .i64 0]) ∧ Frm (fun _ => False) w w' := by
  have h := Parse_k w port a 42 cap (arpF A) hr (arpF_byt hA) hc (arpF_err A port hp)
  obtain ⟨h1, h2, h3⟩ := arpF_hd A port
  rw [h1, h2, h3] at h
  exact h

set_option maxHeartbeats 1000000 in
theorem FrameAnswers_c (w : World) (A : Ak) (hA : A.Fits) :
    Calls Try.prog 5 #[.agg (akCells A).toArray] w fun e w' => e = .returned (.bool true) ∧ Frm (fun _ => False) w w' := by
  refine enter Try.func5 rfl Try.ntmps5 rfl (St.start (fun _ => False) w) ?_
  refine WC.seq ?_
  refine WC.region ?_
  refine WL.box rfl rfl rfl (.none rfl) rfl rfl ?_
  intro g1 hg1
  refine WL.val (v_assign rfl rfl) (.none rfl) rfl rfl ?_
  refine WL.nil ?_
  refine WE.then_n ?_
  refine WC.seq ?_
  refine WC.seq ?_
  refine WC.region ?_
  refine WL.call rfl rfl ck_10 (.none rfl) rfl rfl ?_
  intro w hS
  refine Calls.then (headOk_c w) hS ?_
  refine WL.val (v_not rfl rfl rfl) (.none rfl) rfl rfl ?_
  refine WL.nil ?_
  refine WE.then_n ?_
  refine WC.cond_f rfl ?_
  refine WC.skip ?_
  refine WE.then_n ?_
  refine WC.seq ?_
  refine WC.region ?_
  refine WL.val (v_loadN rfl rfl many_44 rfl allAt) (.none rfl) rfl rfl ?_
  refine WL.call rfl rfl ck_18 (.none rfl) rfl rfl ?_
  intro w1 hS
  refine (EmitArp_c A hS hA.ip.1 hA.ip.2 hA.tip.1 hA.tip.2).mono ?_
  rintro e w' ⟨g12, hg12, rfl, hS'⟩
  refine ⟨_, _, rfl, hS', ?_⟩
  refine WL.val (v_assign rfl rfl) (.none rfl) rfl rfl ?_
  refine WL.nil ?_
  refine WE.then_n ?_
  refine WC.seq ?_
  refine WC.region ?_
  refine WL.val (v_move rfl rfl) (.none rfl) rfl rfl ?_
  refine WL.call rfl rfl ck_12 (.none rfl) rfl rfl ?_
  intro w hS
  refine Calls.then (ParseE_k w A 1 (by omega) _ 42 (rdoAt hS rfl) hA (by omega)) hS ?_
  refine WL.val (v_move rfl rfl) (.none rfl) rfl rfl ?_
  refine WL.val (v_extract rfl rfl rfl) (.none rfl) rfl rfl ?_
  refine WL.val (v_extract rfl rfl rfl) (.none rfl) rfl rfl ?_
  refine WL.alloc rfl zero_32 (.none rfl) rfl rfl ?_
  intro g4 hg4
  refine WL.storeW rfl rfl rfl rfl many_32 rfl rfl (.none rfl) rfl ?_
  refine WL.val (v_assign rfl rfl) (.none rfl) rfl rfl ?_
  refine WL.nil ?_
  refine WE.then_n ?_
  refine WC.seq ?_
  refine WC.seq ?_
  refine WC.region ?_
  refine WL.val (v_move rfl rfl) (.none rfl) rfl rfl ?_
  refine WL.val ((v_neq rfl rfl rfl).f (by omega)) (.none rfl) rfl rfl ?_
  refine WL.val (v_move rfl rfl) (.none rfl) rfl rfl ?_
  refine WL.val (v_move rfl rfl) (.some rfl rfl rfl) rfl rfl ?_
  refine WL.val (v_len_slice rfl rfl Try.underlying22) (.some rfl rfl rfl) rfl rfl ?_
  refine WL.val ((v_neq rfl rfl rfl).f (by omega)) (.some rfl rfl rfl) rfl rfl ?_
  refine WL.val (v_pick_f rfl rfl rfl) (.none rfl) rfl rfl ?_
  refine WL.val (v_move rfl rfl) (.none rfl) rfl rfl ?_
  refine WL.val (v_fieldAddr0 rfl rfl fld_32_0) (.some rfl rfl rfl) rfl rfl ?_
  refine WL.val (v_fieldAddr0 rfl rfl fld_30_3) (.some rfl rfl rfl) rfl rfl ?_
  refine WL.val (v_load1 rfl rfl one_3 (cellAt rfl)) (.some rfl rfl rfl) rfl rfl ?_
  refine WL.val ((v_neq rfl rfl rfl).f (fun h => h rfl)) (.some rfl rfl rfl) rfl rfl ?_
  refine WL.val (v_pick_f rfl rfl rfl) (.none rfl) rfl rfl ?_
  refine WL.val (v_move rfl rfl) (.none rfl) rfl rfl ?_
  refine WL.val (v_fieldAddr0 rfl rfl fld_32_0) (.some rfl rfl rfl) rfl rfl ?_
  refine WL.val (v_fieldAddr0 rfl rfl fld_30_1) (.some rfl rfl rfl) rfl rfl ?_
  refine WL.val (v_loadN rfl rfl many_26 rfl (segAt (m := 6) rfl)) (.some rfl rfl rfl) rfl rfl ?_
  refine WL.val (v_fieldAddr0 rfl rfl fld_44_1) (.some rfl rfl rfl) rfl rfl ?_
  refine WL.val (v_loadN rfl rfl many_26 rfl (segAt (m := 6) rfl)) (.some rfl rfl rfl) rfl rfl ?_
  refine WL.val (v_neq_aggF rfl rfl rfl eqk_26 eqg_26 rfl rfl (by rfl)) (.some rfl rfl rfl) rfl rfl ?_
  refine WL.val (v_pick_f rfl rfl rfl) (.none rfl) rfl rfl ?_
  refine WL.nil ?_
  refine WE.then_n ?_
  refine WC.cond_f rfl ?_
  refine WC.skip ?_
  refine WE.then_n ?_
  refine WC.seq ?_
  refine WC.region ?_
  refine WL.val (v_loadN rfl rfl many_32 rfl allAt) (.none rfl) rfl rfl ?_
  refine WL.call rfl rfl ck_16 (.none rfl) rfl rfl ?_
  intro w hS
  refine Calls.then (ParseArp_0 w (ethHd 1 (arpF A)) (ethHd 1 (arpF A)) (arpF A) 42 0 0 (arpF_byt hA) (fun _ => by omega) (by omega) (arpF_arp A)) hS ?_
  refine WL.val (v_move rfl rfl) (.none rfl) rfl rfl ?_
  refine WL.val (v_extract rfl rfl rfl) (.none rfl) rfl rfl ?_
  refine WL.val (v_extract rfl rfl rfl) (.none rfl) rfl rfl ?_
  refine WL.alloc rfl zero_44 (.none rfl) rfl rfl ?_
  intro g6 hg6
  refine WL.storeW rfl rfl rfl rfl many_44 rfl rfl (.none rfl) rfl ?_
  refine WL.val (v_assign rfl rfl) (.none rfl) rfl rfl ?_
  refine WL.nil ?_
  refine WE.then_n ?_
  refine WC.seq ?_
  refine WC.region ?_
  refine WL.val (v_buildA rfl rfl zero_26 Try.underlying26 sz_5 rfl) (.none rfl) rfl rfl ?_
  refine WL.alloc rfl zero_26 (.none rfl) rfl rfl ?_
  intro g8 hg8
  refine WL.storeW rfl rfl rfl rfl many_26 rfl rfl (.none rfl) rfl ?_
  refine WL.nil ?_
  refine WE.then_n ?_
  refine WC.seq ?_
  refine WC.seq ?_
  refine WC.region ?_
  refine WL.val (v_fieldAddr0 rfl rfl fld_44_0) (.none rfl) rfl rfl ?_
  refine WL.val (v_load1 rfl rfl one_4 (cellAt rfl)) (.none rfl) rfl rfl ?_
  refine WL.nil ?_
  refine WE.then_n ?_
  refine WC.cond_b rfl (fun h46 => ?_) (fun h46 => ?_)
  · -- 46T
    refine WC.region ?_
    refine WL.val (v_fieldAddr0 rfl rfl fld_44_3) (.none rfl) rfl rfl ?_
    refine WL.val (v_loadN rfl rfl many_26 rfl (segAt (m := 6) rfl)) (.none rfl) rfl rfl ?_
    refine WL.storeW rfl rfl rfl rfl many_26 rfl rfl (.none rfl) rfl ?_
    refine WL.nil ?_
    refine WE.then_n ?_
    refine WC.seq ?_
    refine WC.region ?_
    refine WL.val (v_move rfl rfl) (.none rfl) rfl rfl ?_
    refine WL.val ((v_eql rfl rfl rfl).t (by omega)) (.none rfl) rfl rfl ?_
    refine WL.val (v_move rfl rfl) (.none rfl) rfl rfl ?_
    refine WL.val (v_loadN rfl rfl many_44 rfl allAt) (.some rfl rfl rfl) rfl rfl ?_
    refine WL.val (v_loadN rfl rfl many_44 rfl allAt) (.some rfl rfl rfl) rfl rfl ?_
    refine WL.val (v_eql_aggT rfl rfl rfl eqk_44 eqg_44 rfl rfl (by exact arpF_ak hA)) (.some rfl rfl rfl) rfl rfl ?_
    refine WL.val (v_pick_t rfl rfl rfl) (.none rfl) rfl rfl ?_
    refine WL.val (v_move rfl rfl) (.none rfl) rfl rfl ?_
    refine WL.val (v_fieldAddr0 rfl rfl fld_32_0) (.some rfl rfl rfl) rfl rfl ?_
    refine WL.val (v_fieldAddr0 rfl rfl fld_30_2) (.some rfl rfl rfl) rfl rfl ?_
    refine WL.val (v_loadN rfl rfl many_26 rfl (segAt (m := 6) rfl)) (.some rfl rfl rfl) rfl rfl ?_
    refine WL.val (v_loadN rfl rfl many_26 rfl allAt) (.some rfl rfl rfl) rfl rfl ?_
    refine WL.val (v_eql_aggT rfl rfl rfl eqk_26 eqg_26 rfl rfl (by exact arpDst_T h46)) (.some rfl rfl rfl) rfl rfl ?_
    refine WL.val (v_pick_t rfl rfl rfl) (.none rfl) rfl rfl ?_
    refine WL.val (v_assign rfl rfl) (.none rfl) rfl rfl ?_
    refine WL.nil ?_
    refine WE.then_n ?_
    refine WC.ret ?_
    refine WE.ret1 (P := Try.prog) (.inl rfl) Try.results5 rfl ?_
    exact fun w' h => ⟨rfl, h.frm⟩
  · -- 46F
    refine WC.skip ?_
    refine WE.then_n ?_
    refine WC.seq ?_
    refine WC.region ?_
    refine WL.val (v_move rfl rfl) (.none rfl) rfl rfl ?_
    refine WL.val ((v_eql rfl rfl rfl).t (by omega)) (.none rfl) rfl rfl ?_
    refine WL.val (v_move rfl rfl) (.none rfl) rfl rfl ?_
    refine WL.val (v_loadN rfl rfl many_44 rfl allAt) (.some rfl rfl rfl) rfl rfl ?_
    refine WL.val (v_loadN rfl rfl many_44 rfl allAt) (.some rfl rfl rfl) rfl rfl ?_
    refine WL.val (v_eql_aggT rfl rfl rfl eqk_44 eqg_44 rfl rfl (by exact arpF_ak hA)) (.some rfl rfl rfl) rfl rfl ?_
    refine WL.val (v_pick_t rfl rfl rfl) (.none rfl) rfl rfl ?_
    refine WL.val (v_move rfl rfl) (.none rfl) rfl rfl ?_
    refine WL.val (v_fieldAddr0 rfl rfl fld_32_0) (.some rfl rfl rfl) rfl rfl ?_
    refine WL.val (v_fieldAddr0 rfl rfl fld_30_2) (.some rfl rfl rfl) rfl rfl ?_
    refine WL.val (v_loadN rfl rfl many_26 rfl (segAt (m := 6) rfl)) (.some rfl rfl rfl) rfl rfl ?_
    refine WL.val (v_loadN rfl rfl many_26 rfl allAt) (.some rfl rfl rfl) rfl rfl ?_
    refine WL.val (v_eql_aggT rfl rfl rfl eqk_26 eqg_26 rfl rfl (by exact arpDst_F h46)) (.some rfl rfl rfl) rfl rfl ?_
    refine WL.val (v_pick_t rfl rfl rfl) (.none rfl) rfl rfl ?_
    refine WL.val (v_assign rfl rfl) (.none rfl) rfl rfl ?_
    refine WL.nil ?_
    refine WE.then_n ?_
    refine WC.ret ?_
    refine WE.ret1 (P := Try.prog) (.inl rfl) Try.results5 rfl ?_
    exact fun w' h => ⟨rfl, h.frm⟩

def nth6 (a b c d e f : Int) (i : Nat) : Int := [a, b, c, d, e, f].getD i 0
theorem nth6_byt {a b c d e f : Int} (ha : 0 ≤ a ∧ a ≤ 255) (hb : 0 ≤ b ∧ b ≤ 255) (hc : 0 ≤ c ∧ c ≤ 255) (hd : 0 ≤ d ∧ d ≤ 255) (he : 0 ≤ e ∧ e ≤ 255) (hf : 0 ≤ f ∧ f ≤ 255) : Byt (nth6 a b c d e f) := fun i => by
  match i with
  | 0 => exact ha
  | 1 => exact hb
  | 2 => exact hc
  | 3 => exact hd
  | 4 => exact he
  | 5 => exact hf
  | _ + 6 => exact ⟨Int.le_refl _, show (0 : Int) ≤ 255 by decide⟩
/-- A question that came in. -/
theorem ask_leaves {w : World} {cs : List Value} (hL : Leaves Try.prog w [4, 5, 5, 5, 5, 5, 5, 28, 5, 5, 5, 5, 5, 5, 28] cs) : ∃ A : Ak, cs = akCells A ∧ A.Fits := by
  obtain ⟨x0, _, rfl, h0, x1, _, rfl, h1, x2, _, rfl, h2, x3, _, rfl, h3, x4, _, rfl, h4, x5, _, rfl, h5, x6, _, rfl, h6, x7, _, rfl, h7, x8, _, rfl, h8, x9, _, rfl, h9, x10, _, rfl, h10, x11, _, rfl, h11, x12, _, rfl, h12, x13, _, rfl, h13, x14, _, rfl, h14, rfl⟩ := hL
  obtain ⟨b0, rfl⟩ := Tree.bool Try.underlying4 h0
  obtain ⟨n1, rfl, w1⟩ := Tree.int Try.underlying5 h1
  obtain ⟨n2, rfl, w2⟩ := Tree.int Try.underlying5 h2
  obtain ⟨n3, rfl, w3⟩ := Tree.int Try.underlying5 h3
  obtain ⟨n4, rfl, w4⟩ := Tree.int Try.underlying5 h4
  obtain ⟨n5, rfl, w5⟩ := Tree.int Try.underlying5 h5
  obtain ⟨n6, rfl, w6⟩ := Tree.int Try.underlying5 h6
  obtain ⟨n7, rfl, w7⟩ := Tree.int Try.underlying28 h7
  obtain ⟨n8, rfl, w8⟩ := Tree.int Try.underlying5 h8
  obtain ⟨n9, rfl, w9⟩ := Tree.int Try.underlying5 h9
  obtain ⟨n10, rfl, w10⟩ := Tree.int Try.underlying5 h10
  obtain ⟨n11, rfl, w11⟩ := Tree.int Try.underlying5 h11
  obtain ⟨n12, rfl, w12⟩ := Tree.int Try.underlying5 h12
  obtain ⟨n13, rfl, w13⟩ := Tree.int Try.underlying5 h13
  obtain ⟨n14, rfl, w14⟩ := Tree.int Try.underlying28 h14
  exact ⟨⟨b0, nth6 n1 n2 n3 n4 n5 n6, n7, nth6 n8 n9 n10 n11 n12 n13, n14⟩, rfl, nth6_byt (wf_u8 w1) (wf_u8 w2) (wf_u8 w3) (wf_u8 w4) (wf_u8 w5) (wf_u8 w6), nth6_byt (wf_u8 w8) (wf_u8 w9) (wf_u8 w10) (wf_u8 w11) (wf_u8 w12) (wf_u8 w13), wf_u32 w7, wf_u32 w14⟩
theorem Arg.ask {w : World} {v : Value} (h : Arg Try.prog w 44 v) : ∃ A : Ak, v = .agg (akCells A).toArray ∧ A.Fits := by
  obtain ⟨cs, rfl, hL⟩ := h.agg 8 (ts := [4, 5, 5, 5, 5, 5, 5, 28, 5, 5, 5, 5, 5, 5, 28]) (by kernel_rfl) (by kernel_rfl) (by kernel_rfl)
  obtain ⟨A, rfl, hA⟩ := ask_leaves hL
  exact ⟨A, rfl, hA⟩
theorem Tree.ask {w : World} {cs : List Value} (h : Tree Try.prog w 44 cs) : ∃ A : Ak, cs = akCells A ∧ A.Fits := by
  have hf : flat Try.prog 8 44 = [4, 5, 5, 5, 5, 5, 5, 28, 5, 5, 5, 5, 5, 5, 28] := by kernel_rfl
  exact ask_leaves (hf ▸ Tree.leaves 8 _ _ (by kernel_rfl) h)
end Go.Proofs.Ytpjjlggonpbegaa
