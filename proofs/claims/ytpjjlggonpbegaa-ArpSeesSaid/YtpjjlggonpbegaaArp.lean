/- arp: New, Look, Seen, note. -/
import Derived.Test.YtpjjlggonpbegaaAnsw
namespace Go.Proofs.Ytpjjlggonpbegaa
open Go.RowKit

/-- The address that the statement's function knows. -/
def macOf (a : Int) (i : Nat) : Int := [2, 9, a / 16777216, a / 65536 % 256, a / 256 % 256, a % 256].getD i 0
def knMac (a : Int) : Nat → Int := if a % 2 = 1 then fun _ => 0 else macOf a
def knOk (a : Int) : Bool := decide (a % 2 ≠ 1)
theorem known_c (w : World) (a : Int) (h0 : 0 ≤ a) (h1 : a ≤ 4294967295) :
    Calls Try.prog 21 #[.int .u32 a] w fun e w' => e = .returned (.tuple #[.agg (u8s (knMac a)).toArray, .bool (knOk a)]) ∧ Frm (fun _ => False) w w' := by
  refine enter Try.func21 rfl Try.ntmps21 rfl (St.start (fun _ => False) w) ?_
  refine WC.seq ?_
  refine WC.region ?_
  refine WL.alloc rfl zero_26 (.none rfl) rfl rfl ?_
  intro g2 hg2
  refine WL.val (v_assign rfl rfl) (.none rfl) rfl rfl ?_
  refine WL.nil ?_
  refine WE.then_n ?_
  refine WC.seq ?_
  refine WC.seq ?_
  refine WC.region ?_
  refine WL.val (v_move rfl rfl) (.none rfl) rfl rfl ?_
  refine WL.val (v_and rfl rfl rfl (mask_u32 (i := 1) (m := 2) (by decide) (by decide) (by decide) (by omega) (by omega))) (.none rfl) rfl rfl ?_
  refine WL.test (v_eql rfl rfl rfl) (.none rfl) rfl rfl (fun h6 => ?_) (fun h6 => ?_)
  · -- 6T
    refine WL.nil ?_
    refine WE.then_n ?_
    refine WC.cond_t rfl ?_
    refine WC.seq ?_
    refine WC.region ?_
    refine WL.val (v_buildA rfl rfl zero_26 Try.underlying26 sz_5 rfl) (.none rfl) rfl rfl ?_
    refine WL.storeW rfl rfl rfl rfl many_26 rfl rfl (.none rfl) rfl ?_
    refine WL.val (v_assign rfl rfl) (.none rfl) rfl rfl ?_
    refine WL.nil ?_
    refine WE.then_n ?_
    refine WC.ret ?_
    refine WE.then_ret ?_
    refine WE.ret2 (P := Try.prog) (.inl rfl) Try.results21 (resRow rfl many_26 rfl) rfl ?_
    exact fun w' h => ⟨by unfold knMac knOk; rw [if_pos h6, decide_eq_false (by omega)]; rfl, h.frm⟩
  · -- 6F
    refine WL.nil ?_
    refine WE.then_n ?_
    refine WC.cond_f rfl ?_
    refine WC.skip ?_
    refine WE.then_n ?_
    refine WC.seq ?_
    refine WC.region ?_
    refine WL.val (v_move rfl rfl) (.none rfl) rfl rfl ?_
    refine WL.val (v_shr (m := 24) (c := 16777216) rfl rfl rfl rfl (by decide) (by decide)) (.none rfl) rfl rfl ?_
    refine WL.val (v_conv rfl rfl Try.underlying5 Try.underlying28 (by first | exact w_u8 (by omega) (by omega) | exact w_u8m _)) (.none rfl) rfl rfl ?_
    refine WL.val (v_move rfl rfl) (.none rfl) rfl rfl ?_
    refine WL.val (v_shr (m := 16) (c := 65536) rfl rfl rfl rfl (by decide) (by decide)) (.none rfl) rfl rfl ?_
    refine WL.val (v_conv rfl rfl Try.underlying5 Try.underlying28 (by first | exact w_u8 (by omega) (by omega) | exact w_u8m _)) (.none rfl) rfl rfl ?_
    refine WL.val (v_move rfl rfl) (.none rfl) rfl rfl ?_
    refine WL.val (v_shr (m := 8) (c := 256) rfl rfl rfl rfl (by decide) (by decide)) (.none rfl) rfl rfl ?_
    refine WL.val (v_conv rfl rfl Try.underlying5 Try.underlying28 (by first | exact w_u8 (by omega) (by omega) | exact w_u8m _)) (.none rfl) rfl rfl ?_
    refine WL.val (v_move rfl rfl) (.none rfl) rfl rfl ?_
    refine WL.val (v_conv rfl rfl Try.underlying5 Try.underlying28 (by first | exact w_u8 (by omega) (by omega) | exact w_u8m _)) (.none rfl) rfl rfl ?_
    refine WL.val (v_buildA rfl rfl zero_26 Try.underlying26 sz_5 rfl) (.none rfl) rfl rfl ?_
    refine WL.storeW rfl rfl rfl rfl many_26 rfl rfl (.none rfl) rfl ?_
    refine WL.val (v_assign rfl rfl) (.none rfl) rfl rfl ?_
    refine WL.nil ?_
    refine WE.then_n ?_
    refine WC.ret ?_
    refine WE.ret2 (P := Try.prog) (.inl rfl) Try.results21 (resRow rfl many_26 rfl) rfl ?_
    exact fun w' h => ⟨by unfold knMac knOk; rw [if_neg h6, decide_eq_true (by omega)]; rfl, h.frm⟩

theorem New_c (w : World) (p : Nat → Prop) (w0 : World) (L : List Ent) (fv : Value) (hS : St p w0 w L) (hf : fv = .nilFunc ∨ fv = .func (.func 21) #[] #[]) :
    Calls Try.prog 20 #[fv] w fun e w' => ∃ g, w0.heap.size ≤ g ∧ e = .returned (.pointer (some ⟨g, 0, none⟩)) ∧ St p w0 w' (.row g [fv, .map none] :: L) := by
  rcases hf with rfl | rfl
  · refine enter Try.func20 rfl Try.ntmps20 rfl hS ?_
    refine WC.seq ?_
    refine WC.region ?_
    refine WL.val (v_assign rfl rfl) (.none rfl) rfl rfl ?_
    refine WL.nil ?_
    refine WE.then_n ?_
    refine WC.seq ?_
    refine WC.region ?_
    refine WL.val (v_move rfl rfl) (.none rfl) rfl rfl ?_
    refine WL.val (v_build rfl rfl zero_69 plc_69 rfl) (.none rfl) rfl rfl ?_
    refine WL.box rfl rfl rfl (.none rfl) rfl rfl ?_
    intro g5 hg5
    refine WL.val (v_assign rfl rfl) (.none rfl) rfl rfl ?_
    refine WL.nil ?_
    refine WE.then_n ?_
    refine WC.ret ?_
    refine WE.ret1 (P := Try.prog) (.inl rfl) Try.results20 rfl ?_
    exact fun w' h => ⟨g5, hg5, rfl, h⟩
  · refine enter Try.func20 rfl Try.ntmps20 rfl hS ?_
    refine WC.seq ?_
    refine WC.region ?_
    refine WL.val (v_assign rfl rfl) (.none rfl) rfl rfl ?_
    refine WL.nil ?_
    refine WE.then_n ?_
    refine WC.seq ?_
    refine WC.region ?_
    refine WL.val (v_move rfl rfl) (.none rfl) rfl rfl ?_
    refine WL.val (v_build rfl rfl zero_69 plc_69 rfl) (.none rfl) rfl rfl ?_
    refine WL.box rfl rfl rfl (.none rfl) rfl rfl ?_
    intro g5 hg5
    refine WL.val (v_assign rfl rfl) (.none rfl) rfl rfl ?_
    refine WL.nil ?_
    refine WE.then_n ?_
    refine WC.ret ?_
    refine WE.ret1 (P := Try.prog) (.inl rfl) Try.results20 rfl ?_
    exact fun w' h => ⟨g5, hg5, rfl, h⟩
def fnV : Value := .func (.func 21) #[] #[]
/-- A responder that knows by the statement's function: its row, its map. -/
def resp (g : Nat) : Option (Nat × Array MapEntry × Nat) → List Ent
  | none => [.row g [fnV, .map none]]
  | some (gm, es, c) => [.row g [fnV, .map (some gm)], .obj gm (.map es c)]
def esOf : Option (Nat × Array MapEntry × Nat) → Array MapEntry
  | none => #[]
  | some (_, es, _) => es

theorem Look_nil (w : World) (a : Int) :
    Calls Try.prog 24 #[.pointer none, .int .u32 a] w fun e w' => e = .returned (.tuple #[.agg (u8s fun _ => 0).toArray, .bool false]) ∧ Frm (fun _ => False) w w' := by
  refine enter Try.func24 rfl Try.ntmps24 rfl (St.start (fun _ => False) w) ?_
  refine WC.seq ?_
  refine WC.region ?_
  refine WL.alloc rfl zero_26 (.none rfl) rfl rfl ?_
  intro g4 hg4
  refine WL.val (v_assign rfl rfl) (.none rfl) rfl rfl ?_
  refine WL.nil ?_
  refine WE.then_n ?_
  refine WC.seq ?_
  refine WC.seq ?_
  refine WC.region ?_
  refine WL.val (v_move rfl rfl) (.none rfl) rfl rfl ?_
  refine WL.val (v_eql_nil true rfl rfl Try.underlying51 rfl) (.none rfl) rfl rfl ?_
  refine WL.val (v_move rfl rfl) (.none rfl) rfl rfl ?_
  refine WL.skip rfl rfl rfl rfl rfl rfl ?_
  refine WL.skip rfl rfl rfl rfl rfl rfl ?_
  refine WL.skip rfl rfl rfl rfl rfl rfl ?_
  refine WL.skip rfl rfl rfl rfl rfl rfl ?_
  refine WL.skip rfl rfl rfl rfl rfl rfl ?_
  refine WL.val (v_pick_t rfl rfl rfl) (.none rfl) rfl rfl ?_
  refine WL.nil ?_
  refine WE.then_n ?_
  refine WC.cond_t rfl ?_
  refine WC.seq ?_
  refine WC.region ?_
  refine WL.val (v_buildA rfl rfl zero_26 Try.underlying26 sz_5 rfl) (.none rfl) rfl rfl ?_
  refine WL.storeW rfl rfl rfl rfl many_26 rfl rfl (.none rfl) rfl ?_
  refine WL.val (v_assign rfl rfl) (.none rfl) rfl rfl ?_
  refine WL.nil ?_
  refine WE.then_n ?_
  refine WC.ret ?_
  refine WE.then_ret ?_
  refine WE.ret2 (P := Try.prog) (.inl rfl) Try.results24 (resRow rfl many_26 rfl) rfl ?_
  exact fun w' h => ⟨rfl, h.frm⟩
theorem Look_none (w : World) (g : Nat) (a : Int) (m : Value) (hR : Row w g [.nilFunc, m]) :
    Calls Try.prog 24 #[.pointer (some ⟨g, 0, none⟩), .int .u32 a] w fun e w' => e = .returned (.tuple #[.agg (u8s fun _ => 0).toArray, .bool false]) ∧ Frm (fun _ => False) w w' := by
  refine enter Try.func24 rfl Try.ntmps24 rfl (St.start (fun _ => False) w) ?_
  refine WC.seq ?_
  refine WC.region ?_
  refine WL.alloc rfl zero_26 (.none rfl) rfl rfl ?_
  intro g4 hg4
  refine WL.val (v_assign rfl rfl) (.none rfl) rfl rfl ?_
  refine WL.nil ?_
  refine WE.then_n ?_
  refine WC.seq ?_
  refine WC.seq ?_
  refine WC.region ?_
  refine WL.val (v_move rfl rfl) (.none rfl) rfl rfl ?_
  refine WL.val (v_eql_nil false rfl rfl Try.underlying51 rfl) (.none rfl) rfl rfl ?_
  refine WL.val (v_move rfl rfl) (.none rfl) rfl rfl ?_
  refine WL.val (v_move rfl rfl) (.some rfl rfl rfl) rfl rfl ?_
  refine WL.val (v_nilCheck rfl rfl) (.some rfl rfl rfl) rfl rfl ?_
  refine WL.val (v_fieldAddr0 rfl rfl fld_69_0) (.some rfl rfl rfl) rfl rfl ?_
  refine WL.val (v_load1 rfl rfl one_53 (cellOld (fun h => h) (hR.cell rfl))) (.some rfl rfl rfl) rfl rfl ?_
  refine WL.val (v_eql_nil true rfl rfl Try.underlying53 rfl) (.some rfl rfl rfl) rfl rfl ?_
  refine WL.val (v_pick_f rfl rfl rfl) (.none rfl) rfl rfl ?_
  refine WL.nil ?_
  refine WE.then_n ?_
  refine WC.cond_t rfl ?_
  refine WC.seq ?_
  refine WC.region ?_
  refine WL.val (v_buildA rfl rfl zero_26 Try.underlying26 sz_5 rfl) (.none rfl) rfl rfl ?_
  refine WL.storeW rfl rfl rfl rfl many_26 rfl rfl (.none rfl) rfl ?_
  refine WL.val (v_assign rfl rfl) (.none rfl) rfl rfl ?_
  refine WL.nil ?_
  refine WE.then_n ?_
  refine WC.ret ?_
  refine WE.then_ret ?_
  refine WE.ret2 (P := Try.prog) (.inl rfl) Try.results24 (resRow rfl many_26 rfl) rfl ?_
  exact fun w' h => ⟨rfl, h.frm⟩
theorem Look_c (w : World) (g : Nat) (a : Int) (m : Value) (hR : Row w g [fnV, m]) (h0 : 0 ≤ a) (h1 : a ≤ 4294967295) :
    Calls Try.prog 24 #[.pointer (some ⟨g, 0, none⟩), .int .u32 a] w fun e w' => e = .returned (.tuple #[.agg (u8s (knMac a)).toArray, .bool (knOk a)]) ∧ Frm (fun _ => False) w w' := by
  refine enter Try.func24 rfl Try.ntmps24 rfl (St.start (fun _ => False) w) ?_
  refine WC.seq ?_
  refine WC.region ?_
  refine WL.alloc rfl zero_26 (.none rfl) rfl rfl ?_
  intro g4 hg4
  refine WL.val (v_assign rfl rfl) (.none rfl) rfl rfl ?_
  refine WL.nil ?_
  refine WE.then_n ?_
  refine WC.seq ?_
  refine WC.seq ?_
  refine WC.region ?_
  refine WL.val (v_move rfl rfl) (.none rfl) rfl rfl ?_
  refine WL.val (v_eql_nil false rfl rfl Try.underlying51 rfl) (.none rfl) rfl rfl ?_
  refine WL.val (v_move rfl rfl) (.none rfl) rfl rfl ?_
  refine WL.val (v_move rfl rfl) (.some rfl rfl rfl) rfl rfl ?_
  refine WL.val (v_nilCheck rfl rfl) (.some rfl rfl rfl) rfl rfl ?_
  refine WL.val (v_fieldAddr0 rfl rfl fld_69_0) (.some rfl rfl rfl) rfl rfl ?_
  refine WL.val (v_load1 rfl rfl one_53 (cellOld (fun h => h) (hR.cell rfl))) (.some rfl rfl rfl) rfl rfl ?_
  refine WL.val (v_eql_nil false rfl rfl Try.underlying53 rfl) (.some rfl rfl rfl) rfl rfl ?_
  refine WL.val (v_pick_f rfl rfl rfl) (.none rfl) rfl rfl ?_
  refine WL.nil ?_
  refine WE.then_n ?_
  refine WC.cond_f rfl ?_
  refine WC.skip ?_
  refine WE.then_n ?_
  refine WC.seq ?_
  refine WC.seq ?_
  refine WC.region ?_
  refine WL.val (v_move rfl rfl) (.none rfl) rfl rfl ?_
  refine WL.val (v_nilCheck rfl rfl) (.none rfl) rfl rfl ?_
  refine WL.val (v_fieldAddr0 rfl rfl fld_69_0) (.none rfl) rfl rfl ?_
  refine WL.val (v_load1 rfl rfl one_53 (cellOld (fun h => h) (hR.cell rfl))) (.none rfl) rfl rfl ?_
  refine WL.val (v_move rfl rfl) (.none rfl) rfl rfl ?_
  refine WL.callV rfl rfl rfl ck_21 (.none rfl) rfl rfl ?_
  intro w hS
  refine Calls.then (known_c w a h0 h1) hS ?_
  refine WL.val (v_move rfl rfl) (.none rfl) rfl rfl ?_
  refine WL.val (v_extract rfl rfl rfl) (.none rfl) rfl rfl ?_
  refine WL.val (v_extract rfl rfl rfl) (.none rfl) rfl rfl ?_
  refine WL.alloc rfl zero_26 (.none rfl) rfl rfl ?_
  intro g6 hg6
  refine WL.storeW rfl rfl rfl rfl many_26 rfl rfl (.none rfl) rfl ?_
  refine WL.val (v_assign rfl rfl) (.none rfl) rfl rfl ?_
  refine WL.nil ?_
  refine WE.then_n ?_
  refine WC.seq ?_
  refine WC.region ?_
  refine WL.val (v_move rfl rfl) (.none rfl) rfl rfl ?_
  refine WL.nil ?_
  refine WE.then_n ?_
  refine WC.cond_b rfl (fun h27 => ?_) (fun h27 => ?_)
  · -- 27T
    refine WC.seq ?_
    refine WC.region ?_
    refine WL.val (v_loadN rfl rfl many_26 rfl allAt) (.none rfl) rfl rfl ?_
    refine WL.storeW rfl rfl rfl rfl many_26 rfl rfl (.none rfl) rfl ?_
    refine WL.val (v_assign rfl rfl) (.none rfl) rfl rfl ?_
    refine WL.nil ?_
    refine WE.then_n ?_
    refine WC.ret ?_
    refine WE.then_ret ?_
    refine WE.ret2 (P := Try.prog) (.inl rfl) Try.results24 (resRow rfl many_26 rfl) rfl ?_
    exact fun w' h => ⟨by rw [h27], h.frm⟩
  · -- 27F
    refine WC.skip ?_
    refine WE.then_n ?_
    refine WC.seq ?_
    refine WC.region ?_
    refine WL.val (v_buildA rfl rfl zero_26 Try.underlying26 sz_5 rfl) (.none rfl) rfl rfl ?_
    refine WL.storeW rfl rfl rfl rfl many_26 rfl rfl (.none rfl) rfl ?_
    refine WL.val (v_assign rfl rfl) (.none rfl) rfl rfl ?_
    refine WL.nil ?_
    refine WE.then_n ?_
    refine WC.ret ?_
    refine WE.ret2 (P := Try.prog) (.inl rfl) Try.results24 (resRow rfl many_26 rfl) rfl ?_
    have e : a % 2 = 1 := by simpa [knOk] using h27
    exact fun w' h => ⟨by rw [h27]; unfold knMac; rw [if_pos e]; rfl, h.frm⟩
theorem Look_T (w : World) (g : Nat) (a : Int) (m : Value) (hR : Row w g [fnV, m]) (h0 : 0 ≤ a) (h1 : a ≤ 4294967295) (h : a % 2 ≠ 1) :
    Calls Try.prog 24 #[.pointer (some ⟨g, 0, none⟩), .int .u32 a] w fun e w' => e = .returned (.tuple #[.agg (u8s (macOf a)).toArray, .bool true]) ∧ Frm (fun _ => False) w w' := by
  have := Look_c w g a m hR h0 h1
  unfold knOk knMac at this
  rw [decide_eq_true h, if_neg h] at this
  exact this
theorem Look_F (w : World) (g : Nat) (a : Int) (m : Value) (hR : Row w g [fnV, m]) (h0 : 0 ≤ a) (h1 : a ≤ 4294967295) (h : a % 2 = 1) :
    Calls Try.prog 24 #[.pointer (some ⟨g, 0, none⟩), .int .u32 a] w fun e w' => e = .returned (.tuple #[.agg (u8s fun _ => 0).toArray, .bool false]) ∧ Frm (fun _ => False) w w' := by
  have := Look_c w g a m hR h0 h1
  unfold knOk knMac at this
  rw [decide_eq_false (by omega), if_pos h] at this
  exact this
theorem Seen_nil (w : World) (a : Int) :
    Calls Try.prog 23 #[.pointer none, .int .u32 a] w fun e w' => e = .returned (.tuple #[.agg (u8s fun _ => 0).toArray, .bool false]) ∧ Frm (fun _ => False) w w' := by
  refine enter Try.func23 rfl Try.ntmps23 rfl (St.start (fun _ => False) w) ?_
  refine WC.seq ?_
  refine WC.region ?_
  refine WL.alloc rfl zero_26 (.none rfl) rfl rfl ?_
  intro g4 hg4
  refine WL.val (v_assign rfl rfl) (.none rfl) rfl rfl ?_
  refine WL.nil ?_
  refine WE.then_n ?_
  refine WC.seq ?_
  refine WC.seq ?_
  refine WC.region ?_
  refine WL.val (v_move rfl rfl) (.none rfl) rfl rfl ?_
  refine WL.val (v_eql_nil true rfl rfl Try.underlying51 rfl) (.none rfl) rfl rfl ?_
  refine WL.nil ?_
  refine WE.then_n ?_
  refine WC.cond_t rfl ?_
  refine WC.seq ?_
  refine WC.region ?_
  refine WL.val (v_buildA rfl rfl zero_26 Try.underlying26 sz_5 rfl) (.none rfl) rfl rfl ?_
  refine WL.storeW rfl rfl rfl rfl many_26 rfl rfl (.none rfl) rfl ?_
  refine WL.val (v_assign rfl rfl) (.none rfl) rfl rfl ?_
  refine WL.nil ?_
  refine WE.then_n ?_
  refine WC.ret ?_
  refine WE.then_ret ?_
  refine WE.ret2 (P := Try.prog) (.inl rfl) Try.results23 (resRow rfl many_26 rfl) rfl ?_
  exact fun w' h => ⟨rfl, h.frm⟩
/-- What a responder has seen: values by addresses. -/
def seenV (m : Value → Option Value) (a : Int) : Value := (m (.int .u32 a)).getD (.agg (u8s fun _ => 0).toArray)
def Macs (m : Value → Option Value) : Prop := ∀ k v, m k = some v → ∃ g, v = .agg (u8s g).toArray
theorem seenV_is {m : Value → Option Value} (h : Macs m) (a : Int) : ∃ g, seenV m a = .agg (u8s g).toArray := by
  unfold seenV
  cases hm : m (.int .u32 a) with
  | none => exact ⟨_, rfl⟩
  | some v => exact h _ _ hm
theorem Seen_c (w : World) (g : Nat) (a : Int) (fv : Value) (r : Option Nat) (es : Array MapEntry) (m : Value → Option Value) (hR : Row w g [fv, .map r]) (hV : MapW w r es) (hM : IMap (KInt .u32) es m) (hm : Macs m) :
    Calls Try.prog 23 #[.pointer (some ⟨g, 0, none⟩), .int .u32 a] w fun e w' => e = .returned (.tuple #[seenV m a, .bool (m (.int .u32 a)).isSome]) ∧ Frm (fun _ => False) w w' := by
  obtain ⟨gv, hgv⟩ := seenV_is hm a
  have hgv' : (m (.int .u32 a)).getD (.agg #[.int .u8 0, .int .u8 0, .int .u8 0, .int .u8 0, .int .u8 0, .int .u8 0]) = .agg (u8s gv).toArray := hgv
  rw [hgv]
  refine enter Try.func23 rfl Try.ntmps23 rfl (St.start (fun _ => False) w) ?_
  refine WC.seq ?_
  refine WC.region ?_
  refine WL.alloc rfl zero_26 (.none rfl) rfl rfl ?_
  intro g4 hg4
  refine WL.val (v_assign rfl rfl) (.none rfl) rfl rfl ?_
  refine WL.nil ?_
  refine WE.then_n ?_
  refine WC.seq ?_
  refine WC.seq ?_
  refine WC.region ?_
  refine WL.val (v_move rfl rfl) (.none rfl) rfl rfl ?_
  refine WL.val (v_eql_nil false rfl rfl Try.underlying51 rfl) (.none rfl) rfl rfl ?_
  refine WL.nil ?_
  refine WE.then_n ?_
  refine WC.cond_f rfl ?_
  refine WC.skip ?_
  refine WE.then_n ?_
  refine WC.seq ?_
  refine WC.region ?_
  refine WL.val (v_move rfl rfl) (.none rfl) rfl rfl ?_
  refine WL.val (v_nilCheck rfl rfl) (.none rfl) rfl rfl ?_
  refine WL.val (v_fieldAddr0 rfl rfl fld_69_1) (.none rfl) rfl rfl ?_
  refine WL.val (v_load1 rfl rfl one_59 (cellOld (fun h => h) (hR.cell rfl))) (.none rfl) rfl rfl ?_
  refine WL.val (v_move rfl rfl) (.none rfl) rfl rfl ?_
  refine WL.val ((v_lookup2 rfl rfl rfl Try.underlying59 (keyI Try.underlying28) (KInt.mk _ _) rfl (mapOld (fun _ h => h) hV) hM).eq (congrArg (fun v => Value.tuple #[v, .bool (m (.int .u32 a)).isSome]) hgv')) (.none rfl) rfl rfl ?_
  refine WL.val (v_move rfl rfl) (.none rfl) rfl rfl ?_
  refine WL.val (v_extract rfl rfl rfl) (.none rfl) rfl rfl ?_
  refine WL.val (v_extract rfl rfl rfl) (.none rfl) rfl rfl ?_
  refine WL.alloc rfl zero_26 (.none rfl) rfl rfl ?_
  intro g6 hg6
  refine WL.storeW rfl rfl rfl rfl many_26 rfl rfl (.none rfl) rfl ?_
  refine WL.val (v_assign rfl rfl) (.none rfl) rfl rfl ?_
  refine WL.nil ?_
  refine WE.then_n ?_
  refine WC.seq ?_
  refine WC.region ?_
  refine WL.val (v_loadN rfl rfl many_26 rfl allAt) (.none rfl) rfl rfl ?_
  refine WL.val (v_move rfl rfl) (.none rfl) rfl rfl ?_
  refine WL.storeW rfl rfl rfl rfl many_26 rfl rfl (.none rfl) rfl ?_
  refine WL.val (v_assign rfl rfl) (.none rfl) rfl rfl ?_
  refine WL.nil ?_
  refine WE.then_n ?_
  refine WC.ret ?_
  refine WE.ret2 (P := Try.prog) (.inl rfl) Try.results23 (resRow rfl many_26 rfl) rfl ?_
  exact fun w' h => ⟨rfl, h.frm⟩

noncomputable def noteM (m : Value → Option Value) (sz : Nat) (a : Int) (v : Value) : Value → Option Value := if (m (.int .u32 a)).isSome = false ∧ 64 ≤ sz then m else updM m (.int .u32 a) (some v)
def noteS (m : Value → Option Value) (sz : Nat) (a : Int) : Nat := if (m (.int .u32 a)).isSome then sz else if 64 ≤ sz then sz else sz + 1
set_option maxHeartbeats 400000 in
theorem note_0 (w : World) (p : Nat → Prop) (w0 : World) (L : List Ent) (g : Nat) (a : Int) (v : Nat → Int) (hS : St p w0 w (.row g [fnV, .map none] :: L)) :
    Calls Try.prog 33 #[.pointer (some ⟨g, 0, none⟩), .int .u32 a, .agg (u8s v).toArray] w fun e w' => e = .returned (.tuple #[]) ∧ ∃ gm es c, St p w0 w' (.row g [fnV, .map (some gm)] :: .obj gm (.map es c) :: L) ∧ IMap (KInt .u32) es (updM (fun _ => none) (.int .u32 a) (some (.agg (u8s v).toArray))) ∧ es.size = 1 := by
  refine enter Try.func33 rfl Try.ntmps33 rfl hS ?_
  refine WC.seq ?_
  refine WC.region ?_
  refine WL.box rfl rfl rfl (.none rfl) rfl rfl ?_
  intro g5 hg5
  refine WL.nil ?_
  refine WE.then_n ?_
  refine WC.seq ?_
  refine WC.seq ?_
  refine WC.region ?_
  refine WL.val (v_move rfl rfl) (.none rfl) rfl rfl ?_
  refine WL.val (v_nilCheck rfl rfl) (.none rfl) rfl rfl ?_
  refine WL.val (v_fieldAddr0 rfl rfl fld_69_1) (.none rfl) rfl rfl ?_
  refine WL.val (v_load1 rfl rfl one_59 (cellAt rfl)) (.none rfl) rfl rfl ?_
  refine WL.val (v_move rfl rfl) (.none rfl) rfl rfl ?_
  refine WL.val (v_lookup2 rfl rfl rfl Try.underlying59 (keyI Try.underlying28) (KInt.mk _ _) rfl (mapNil) (IMap.empty _)) (.none rfl) rfl rfl ?_
  refine WL.val (v_move rfl rfl) (.none rfl) rfl rfl ?_
  refine WL.val (v_extract rfl rfl rfl) (.none rfl) rfl rfl ?_
  refine WL.val (v_extract rfl rfl rfl) (.none rfl) rfl rfl ?_
  refine WL.alloc rfl zero_26 (.none rfl) rfl rfl ?_
  intro g6 hg6
  refine WL.storeW rfl rfl rfl rfl many_26 rfl rfl (.none rfl) rfl ?_
  refine WL.val (v_assign rfl rfl) (.none rfl) rfl rfl ?_
  refine WL.nil ?_
  refine WE.then_n ?_
  refine WC.seq ?_
  refine WC.region ?_
  refine WL.val (v_move rfl rfl) (.none rfl) rfl rfl ?_
  refine WL.val (v_not rfl rfl rfl) (.none rfl) rfl rfl ?_
  refine WL.val (v_move rfl rfl) (.none rfl) rfl rfl ?_
  refine WL.val (v_move rfl rfl) (.some rfl rfl rfl) rfl rfl ?_
  refine WL.val (v_nilCheck rfl rfl) (.some rfl rfl rfl) rfl rfl ?_
  refine WL.val (v_fieldAddr0 rfl rfl fld_69_1) (.some rfl rfl rfl) rfl rfl ?_
  refine WL.val (v_load1 rfl rfl one_59 (cellAt rfl)) (.some rfl rfl rfl) rfl rfl ?_
  refine WL.val (v_len_map rfl rfl Try.underlying59 (mapNil)) (.some rfl rfl rfl) rfl rfl ?_
  refine WL.val ((v_geq rfl rfl rfl).f (by decide)) (.some rfl rfl rfl) rfl rfl ?_
  refine WL.val (v_pick_t rfl rfl rfl) (.none rfl) rfl rfl ?_
  refine WL.nil ?_
  refine WE.then_n ?_
  refine WC.cond_f rfl ?_
  refine WC.skip ?_
  refine WE.then_n ?_
  refine WC.seq ?_
  refine WC.seq ?_
  refine WC.region ?_
  refine WL.val (v_move rfl rfl) (.none rfl) rfl rfl ?_
  refine WL.val (v_nilCheck rfl rfl) (.none rfl) rfl rfl ?_
  refine WL.val (v_fieldAddr0 rfl rfl fld_69_1) (.none rfl) rfl rfl ?_
  refine WL.val (v_load1 rfl rfl one_59 (cellAt rfl)) (.none rfl) rfl rfl ?_
  refine WL.val (v_eql_nil true rfl rfl Try.underlying59 rfl) (.none rfl) rfl rfl ?_
  refine WL.nil ?_
  refine WE.then_n ?_
  refine WC.cond_t rfl ?_
  refine WC.region ?_
  refine WL.val (v_move rfl rfl) (.none rfl) rfl rfl ?_
  refine WL.makeMap rfl (.none rfl) rfl rfl ?_
  intro g33 hg33
  refine WL.val (v_nilCheck rfl rfl) (.none rfl) rfl rfl ?_
  refine WL.val (v_fieldAddr0 rfl rfl fld_69_1) (.none rfl) rfl rfl ?_
  refine WL.store1 rfl rfl rfl rfl one_59 (Nat.le_of_ble_eq_true rfl) (.none rfl) rfl ?_
  refine WL.nil ?_
  refine WE.then_n ?_
  refine WC.orders mixed ?_
  refine WR.first (g := 3) [0, 1, 2, 4] (by kernel_rfl) (by kernel_rfl) ?_
  refine WP.val (v_move rfl rfl) (.none rfl) rfl rfl ?_
  refine WP.val (v_nilCheck rfl rfl) (.none rfl) rfl rfl ?_
  refine WP.val (v_fieldAddr0 rfl rfl fld_69_1) (.none rfl) rfl rfl ?_
  refine WP.val (v_move rfl rfl) (.none rfl) rfl rfl ?_
  refine WP.nil ?_
  refine WR.read (g := 1) [3, 5] (by kernel_rfl) (by kernel_rfl) (by kernel_rfl) (by kernel_rfl) rfl ?_
  refine WQ.val (v_load1 rfl rfl one_59 (cellAt rfl)) (.none rfl) rfl rfl ?_
  refine WQ.val (v_loadN rfl rfl many_26 rfl allAt) (.none rfl) rfl rfl ?_
  refine WQ.nilR ?_
  refine WR.ones (g := 0) [6] (by kernel_rfl) ?_
  refine WL.mapUpdate rfl rfl rfl rfl Try.underlying59 (keyI Try.underlying28) (KInt.mk _ _) (IMap.empty _) (.none rfl) rfl ?_
  intro esU cU hMU hsU
  refine WL.nilR ?_
  refine WR.done (by kernel_rfl) ?_
  refine WE.ret0 (P := Try.prog) (.inr rfl) Try.results33  ?_
  exact fun w' h => ⟨rfl, g33, esU, cU, (h.sub (.cons_cons _ (.cons _ (.cons _ (.refl _))))).perm (List.Perm.swap _ _ _), hMU, by simpa using hsU⟩
set_option maxHeartbeats 400000 in
theorem note_1 (w : World) (p : Nat → Prop) (w0 : World) (L : List Ent) (g gm c : Nat) (es : Array MapEntry) (m : Value → Option Value) (a : Int) (v u : Nat → Int) (hS : St p w0 w (.row g [fnV, .map (some gm)] :: .obj gm (.map es c) :: L)) (hM : IMap (KInt .u32) es m) (hm : m (.int .u32 a) = some (.agg (u8s u).toArray)) :
    Calls Try.prog 33 #[.pointer (some ⟨g, 0, none⟩), .int .u32 a, .agg (u8s v).toArray] w fun e w' => e = .returned (.tuple #[]) ∧ ∃ es' c', St p w0 w' (.row g [fnV, .map (some gm)] :: .obj gm (.map es' c') :: L) ∧ IMap (KInt .u32) es' (updM m (.int .u32 a) (some (.agg (u8s v).toArray))) ∧ es'.size = es.size := by
  refine enter Try.func33 rfl Try.ntmps33 rfl hS ?_
  refine WC.seq ?_
  refine WC.region ?_
  refine WL.box rfl rfl rfl (.none rfl) rfl rfl ?_
  intro g5 hg5
  refine WL.nil ?_
  refine WE.then_n ?_
  refine WC.seq ?_
  refine WC.seq ?_
  refine WC.region ?_
  refine WL.val (v_move rfl rfl) (.none rfl) rfl rfl ?_
  refine WL.val (v_nilCheck rfl rfl) (.none rfl) rfl rfl ?_
  refine WL.val (v_fieldAddr0 rfl rfl fld_69_1) (.none rfl) rfl rfl ?_
  refine WL.val (v_load1 rfl rfl one_59 (cellAt rfl)) (.none rfl) rfl rfl ?_
  refine WL.val (v_move rfl rfl) (.none rfl) rfl rfl ?_
  refine WL.val ((v_lookup2 rfl rfl rfl Try.underlying59 (keyI Try.underlying28) (KInt.mk _ _) rfl (mapBlk (c := c) gm (by simp)) hM).eq (v := .tuple #[.agg (u8s u).toArray, .bool true]) (by rw [hm]; rfl)) (.none rfl) rfl rfl ?_
  refine WL.val (v_move rfl rfl) (.none rfl) rfl rfl ?_
  refine WL.val (v_extract rfl rfl rfl) (.none rfl) rfl rfl ?_
  refine WL.val (v_extract rfl rfl rfl) (.none rfl) rfl rfl ?_
  refine WL.alloc rfl zero_26 (.none rfl) rfl rfl ?_
  intro g6 hg6
  refine WL.storeW rfl rfl rfl rfl many_26 rfl rfl (.none rfl) rfl ?_
  refine WL.val (v_assign rfl rfl) (.none rfl) rfl rfl ?_
  refine WL.nil ?_
  refine WE.then_n ?_
  refine WC.seq ?_
  refine WC.region ?_
  refine WL.val (v_move rfl rfl) (.none rfl) rfl rfl ?_
  refine WL.val (v_not rfl rfl rfl) (.none rfl) rfl rfl ?_
  refine WL.val (v_move rfl rfl) (.none rfl) rfl rfl ?_
  refine WL.skip rfl rfl rfl rfl rfl rfl ?_
  refine WL.skip rfl rfl rfl rfl rfl rfl ?_
  refine WL.skip rfl rfl rfl rfl rfl rfl ?_
  refine WL.skip rfl rfl rfl rfl rfl rfl ?_
  refine WL.skip rfl rfl rfl rfl rfl rfl ?_
  refine WL.skip rfl rfl rfl rfl rfl rfl ?_
  refine WL.val (v_pick_f rfl rfl rfl) (.none rfl) rfl rfl ?_
  refine WL.nil ?_
  refine WE.then_n ?_
  refine WC.cond_f rfl ?_
  refine WC.skip ?_
  refine WE.then_n ?_
  refine WC.seq ?_
  refine WC.seq ?_
  refine WC.region ?_
  refine WL.val (v_move rfl rfl) (.none rfl) rfl rfl ?_
  refine WL.val (v_nilCheck rfl rfl) (.none rfl) rfl rfl ?_
  refine WL.val (v_fieldAddr0 rfl rfl fld_69_1) (.none rfl) rfl rfl ?_
  refine WL.val (v_load1 rfl rfl one_59 (cellAt rfl)) (.none rfl) rfl rfl ?_
  refine WL.val (v_eql_nil false rfl rfl Try.underlying59 rfl) (.none rfl) rfl rfl ?_
  refine WL.nil ?_
  refine WE.then_n ?_
  refine WC.cond_f rfl ?_
  refine WC.skip ?_
  refine WE.then_n ?_
  refine WC.orders mixed ?_
  refine WR.first (g := 3) [0, 1, 2, 4] (by kernel_rfl) (by kernel_rfl) ?_
  refine WP.val (v_move rfl rfl) (.none rfl) rfl rfl ?_
  refine WP.val (v_nilCheck rfl rfl) (.none rfl) rfl rfl ?_
  refine WP.val (v_fieldAddr0 rfl rfl fld_69_1) (.none rfl) rfl rfl ?_
  refine WP.val (v_move rfl rfl) (.none rfl) rfl rfl ?_
  refine WP.nil ?_
  refine WR.read (g := 1) [3, 5] (by kernel_rfl) (by kernel_rfl) (by kernel_rfl) (by kernel_rfl) rfl ?_
  refine WQ.val (v_load1 rfl rfl one_59 (cellAt rfl)) (.none rfl) rfl rfl ?_
  refine WQ.val (v_loadN rfl rfl many_26 rfl allAt) (.none rfl) rfl rfl ?_
  refine WQ.nilR ?_
  refine WR.ones (g := 0) [6] (by kernel_rfl) ?_
  refine WL.mapUpdate rfl rfl rfl rfl Try.underlying59 (keyI Try.underlying28) (KInt.mk _ _) (hM) (.none rfl) rfl ?_
  intro esU cU hMU hsU
  refine WL.nilR ?_
  refine WR.done (by kernel_rfl) ?_
  refine WE.ret0 (P := Try.prog) (.inr rfl) Try.results33  ?_
  exact fun w' h => ⟨rfl, esU, cU, h.sub (.cons _ (.cons _ (.refl _))), hMU, by rw [hsU, hm]; rfl⟩
set_option maxHeartbeats 400000 in
theorem note_2 (w : World) (p : Nat → Prop) (w0 : World) (L : List Ent) (g gm c : Nat) (es : Array MapEntry) (m : Value → Option Value) (a : Int) (v : Nat → Int) (hS : St p w0 w (.row g [fnV, .map (some gm)] :: .obj gm (.map es c) :: L)) (hM : IMap (KInt .u32) es m) (hm : m (.int .u32 a) = none) (hs : es.size < 64) :
    Calls Try.prog 33 #[.pointer (some ⟨g, 0, none⟩), .int .u32 a, .agg (u8s v).toArray] w fun e w' => e = .returned (.tuple #[]) ∧ ∃ es' c', St p w0 w' (.row g [fnV, .map (some gm)] :: .obj gm (.map es' c') :: L) ∧ IMap (KInt .u32) es' (updM m (.int .u32 a) (some (.agg (u8s v).toArray))) ∧ es'.size = es.size + 1 := by
  refine enter Try.func33 rfl Try.ntmps33 rfl hS ?_
  refine WC.seq ?_
  refine WC.region ?_
  refine WL.box rfl rfl rfl (.none rfl) rfl rfl ?_
  intro g5 hg5
  refine WL.nil ?_
  refine WE.then_n ?_
  refine WC.seq ?_
  refine WC.seq ?_
  refine WC.region ?_
  refine WL.val (v_move rfl rfl) (.none rfl) rfl rfl ?_
  refine WL.val (v_nilCheck rfl rfl) (.none rfl) rfl rfl ?_
  refine WL.val (v_fieldAddr0 rfl rfl fld_69_1) (.none rfl) rfl rfl ?_
  refine WL.val (v_load1 rfl rfl one_59 (cellAt rfl)) (.none rfl) rfl rfl ?_
  refine WL.val (v_move rfl rfl) (.none rfl) rfl rfl ?_
  refine WL.val ((v_lookup2 rfl rfl rfl Try.underlying59 (keyI Try.underlying28) (KInt.mk _ _) rfl (mapBlk (c := c) gm (by simp)) hM).eq (v := .tuple #[.agg (u8s fun _ => 0).toArray, .bool false]) (by rw [hm]; rfl)) (.none rfl) rfl rfl ?_
  refine WL.val (v_move rfl rfl) (.none rfl) rfl rfl ?_
  refine WL.val (v_extract rfl rfl rfl) (.none rfl) rfl rfl ?_
  refine WL.val (v_extract rfl rfl rfl) (.none rfl) rfl rfl ?_
  refine WL.alloc rfl zero_26 (.none rfl) rfl rfl ?_
  intro g6 hg6
  refine WL.storeW rfl rfl rfl rfl many_26 rfl rfl (.none rfl) rfl ?_
  refine WL.val (v_assign rfl rfl) (.none rfl) rfl rfl ?_
  refine WL.nil ?_
  refine WE.then_n ?_
  refine WC.seq ?_
  refine WC.region ?_
  refine WL.val (v_move rfl rfl) (.none rfl) rfl rfl ?_
  refine WL.val (v_not rfl rfl rfl) (.none rfl) rfl rfl ?_
  refine WL.val (v_move rfl rfl) (.none rfl) rfl rfl ?_
  refine WL.val (v_move rfl rfl) (.some rfl rfl rfl) rfl rfl ?_
  refine WL.val (v_nilCheck rfl rfl) (.some rfl rfl rfl) rfl rfl ?_
  refine WL.val (v_fieldAddr0 rfl rfl fld_69_1) (.some rfl rfl rfl) rfl rfl ?_
  refine WL.val (v_load1 rfl rfl one_59 (cellAt rfl)) (.some rfl rfl rfl) rfl rfl ?_
  refine WL.val (v_len_map rfl rfl Try.underlying59 (mapBlk (es := es) (c := c) gm (by simp))) (.some rfl rfl rfl) rfl rfl ?_
  refine WL.val ((v_geq rfl rfl rfl).f (by omega)) (.some rfl rfl rfl) rfl rfl ?_
  refine WL.val (v_pick_t rfl rfl rfl) (.none rfl) rfl rfl ?_
  refine WL.nil ?_
  refine WE.then_n ?_
  refine WC.cond_f rfl ?_
  refine WC.skip ?_
  refine WE.then_n ?_
  refine WC.seq ?_
  refine WC.seq ?_
  refine WC.region ?_
  refine WL.val (v_move rfl rfl) (.none rfl) rfl rfl ?_
  refine WL.val (v_nilCheck rfl rfl) (.none rfl) rfl rfl ?_
  refine WL.val (v_fieldAddr0 rfl rfl fld_69_1) (.none rfl) rfl rfl ?_
  refine WL.val (v_load1 rfl rfl one_59 (cellAt rfl)) (.none rfl) rfl rfl ?_
  refine WL.val (v_eql_nil false rfl rfl Try.underlying59 rfl) (.none rfl) rfl rfl ?_
  refine WL.nil ?_
  refine WE.then_n ?_
  refine WC.cond_f rfl ?_
  refine WC.skip ?_
  refine WE.then_n ?_
  refine WC.orders mixed ?_
  refine WR.first (g := 3) [0, 1, 2, 4] (by kernel_rfl) (by kernel_rfl) ?_
  refine WP.val (v_move rfl rfl) (.none rfl) rfl rfl ?_
  refine WP.val (v_nilCheck rfl rfl) (.none rfl) rfl rfl ?_
  refine WP.val (v_fieldAddr0 rfl rfl fld_69_1) (.none rfl) rfl rfl ?_
  refine WP.val (v_move rfl rfl) (.none rfl) rfl rfl ?_
  refine WP.nil ?_
  refine WR.read (g := 1) [3, 5] (by kernel_rfl) (by kernel_rfl) (by kernel_rfl) (by kernel_rfl) rfl ?_
  refine WQ.val (v_load1 rfl rfl one_59 (cellAt rfl)) (.none rfl) rfl rfl ?_
  refine WQ.val (v_loadN rfl rfl many_26 rfl allAt) (.none rfl) rfl rfl ?_
  refine WQ.nilR ?_
  refine WR.ones (g := 0) [6] (by kernel_rfl) ?_
  refine WL.mapUpdate rfl rfl rfl rfl Try.underlying59 (keyI Try.underlying28) (KInt.mk _ _) (hM) (.none rfl) rfl ?_
  intro esU cU hMU hsU
  refine WL.nilR ?_
  refine WR.done (by kernel_rfl) ?_
  refine WE.ret0 (P := Try.prog) (.inr rfl) Try.results33  ?_
  exact fun w' h => ⟨rfl, esU, cU, h.sub (.cons _ (.cons _ (.refl _))), hMU, by rw [hsU, hm]; rfl⟩
set_option maxHeartbeats 400000 in
theorem note_3 (w : World) (p : Nat → Prop) (w0 : World) (L : List Ent) (g gm c : Nat) (es : Array MapEntry) (m : Value → Option Value) (a : Int) (v : Nat → Int) (hS : St p w0 w (.row g [fnV, .map (some gm)] :: .obj gm (.map es c) :: L)) (hM : IMap (KInt .u32) es m) (hm : m (.int .u32 a) = none) (hs : 64 ≤ es.size) :
    Calls Try.prog 33 #[.pointer (some ⟨g, 0, none⟩), .int .u32 a, .agg (u8s v).toArray] w fun e w' => e = .returned (.tuple #[]) ∧ St p w0 w' (.row g [fnV, .map (some gm)] :: .obj gm (.map es c) :: L) := by
  refine enter Try.func33 rfl Try.ntmps33 rfl hS ?_
  refine WC.seq ?_
  refine WC.region ?_
  refine WL.box rfl rfl rfl (.none rfl) rfl rfl ?_
  intro g5 hg5
  refine WL.nil ?_
  refine WE.then_n ?_
  refine WC.seq ?_
  refine WC.seq ?_
  refine WC.region ?_
  refine WL.val (v_move rfl rfl) (.none rfl) rfl rfl ?_
  refine WL.val (v_nilCheck rfl rfl) (.none rfl) rfl rfl ?_
  refine WL.val (v_fieldAddr0 rfl rfl fld_69_1) (.none rfl) rfl rfl ?_
  refine WL.val (v_load1 rfl rfl one_59 (cellAt rfl)) (.none rfl) rfl rfl ?_
  refine WL.val (v_move rfl rfl) (.none rfl) rfl rfl ?_
  refine WL.val ((v_lookup2 rfl rfl rfl Try.underlying59 (keyI Try.underlying28) (KInt.mk _ _) rfl (mapBlk (c := c) gm (by simp)) hM).eq (v := .tuple #[.agg (u8s fun _ => 0).toArray, .bool false]) (by rw [hm]; rfl)) (.none rfl) rfl rfl ?_
  refine WL.val (v_move rfl rfl) (.none rfl) rfl rfl ?_
  refine WL.val (v_extract rfl rfl rfl) (.none rfl) rfl rfl ?_
  refine WL.val (v_extract rfl rfl rfl) (.none rfl) rfl rfl ?_
  refine WL.alloc rfl zero_26 (.none rfl) rfl rfl ?_
  intro g6 hg6
  refine WL.storeW rfl rfl rfl rfl many_26 rfl rfl (.none rfl) rfl ?_
  refine WL.val (v_assign rfl rfl) (.none rfl) rfl rfl ?_
  refine WL.nil ?_
  refine WE.then_n ?_
  refine WC.seq ?_
  refine WC.region ?_
  refine WL.val (v_move rfl rfl) (.none rfl) rfl rfl ?_
  refine WL.val (v_not rfl rfl rfl) (.none rfl) rfl rfl ?_
  refine WL.val (v_move rfl rfl) (.none rfl) rfl rfl ?_
  refine WL.val (v_move rfl rfl) (.some rfl rfl rfl) rfl rfl ?_
  refine WL.val (v_nilCheck rfl rfl) (.some rfl rfl rfl) rfl rfl ?_
  refine WL.val (v_fieldAddr0 rfl rfl fld_69_1) (.some rfl rfl rfl) rfl rfl ?_
  refine WL.val (v_load1 rfl rfl one_59 (cellAt rfl)) (.some rfl rfl rfl) rfl rfl ?_
  refine WL.val (v_len_map rfl rfl Try.underlying59 (mapBlk (es := es) (c := c) gm (by simp))) (.some rfl rfl rfl) rfl rfl ?_
  refine WL.val ((v_geq rfl rfl rfl).t (by omega)) (.some rfl rfl rfl) rfl rfl ?_
  refine WL.val (v_pick_t rfl rfl rfl) (.none rfl) rfl rfl ?_
  refine WL.nil ?_
  refine WE.then_n ?_
  refine WC.cond_t rfl ?_
  refine WC.ret ?_
  refine WE.then_ret ?_
  refine WE.ret0 (P := Try.prog) (.inl rfl) Try.results33  ?_
  exact fun w' h => ⟨rfl, h.sub (.cons _ (.cons _ (.refl _)))⟩
theorem note_c (w : World) (p : Nat → Prop) (w0 : World) (L : List Ent) (g : Nat) (M : Option (Nat × Array MapEntry × Nat)) (m : Value → Option Value) (a : Int) (v : Nat → Int) (hS : St p w0 w (resp g M ++ L)) (hM : IMap (KInt .u32) (esOf M) m) (hm : Macs m) :
    Calls Try.prog 33 #[.pointer (some ⟨g, 0, none⟩), .int .u32 a, .agg (u8s v).toArray] w fun e w' => e = .returned (.tuple #[]) ∧ ∃ M', St p w0 w' (resp g M' ++ L) ∧ IMap (KInt .u32) (esOf M') (noteM m (esOf M).size a (.agg (u8s v).toArray)) ∧ (esOf M').size = noteS m (esOf M).size a := by
  unfold noteM noteS
  cases M with
  | none =>
    refine (note_0 w p w0 L g a v hS).mono ?_
    rintro e w' ⟨rfl, gm, es, c, hS', hM', hs⟩
    have hm0 : m = fun _ => none := funext fun x => hM.zero rfl x
    subst hm0
    refine ⟨rfl, some (gm, es, c), hS', ?_, by rw [if_neg (by simp), if_neg (by simp [esOf])]; exact hs⟩
    rw [if_neg (by simp [esOf])]; exact hM'
  | some M =>
    obtain ⟨gm, es, c⟩ := M
    have hM' : IMap (KInt .u32) es m := hM
    cases hk : m (.int .u32 a) with
    | some u =>
      obtain ⟨u, rfl⟩ := hm _ _ hk
      refine (note_1 w p w0 L g gm c es m a v u hS hM' hk).mono ?_
      rintro e w' ⟨rfl, es', c', hS', hM', hs⟩
      refine ⟨rfl, some (gm, es', c'), hS', ?_, by rw [if_pos (by simp)]; exact hs⟩
      rw [if_neg (by simp)]; exact hM'
    | none =>
      by_cases hs : es.size < 64
      · refine (note_2 w p w0 L g gm c es m a v hS hM' hk hs).mono ?_
        rintro e w' ⟨rfl, es', c', hS', hM', hs'⟩
        refine ⟨rfl, some (gm, es', c'), hS', ?_, by rw [if_neg (by simp), if_neg (by simp only [esOf]; omega)]; exact hs'⟩
        rw [if_neg (by simp only [esOf]; omega)]; exact hM'
      · refine (note_3 w p w0 L g gm c es m a v hS hM' hk (by omega)).mono ?_
        rintro e w' ⟨rfl, hS'⟩
        refine ⟨rfl, some (gm, es, c), hS', ?_, by rw [if_neg (by simp), if_pos (by simp only [esOf]; omega)]⟩
        rw [if_pos ⟨rfl, by simp only [esOf]; omega⟩]; exact hM'
theorem Macs.note {m : Value → Option Value} (h : Macs m) (sz : Nat) (a : Int) (v : Nat → Int) : Macs (noteM m sz a (.agg (u8s v).toArray)) := fun k x hx => by
  unfold noteM at hx
  split at hx
  · exact h k x hx
  · by_cases hk : k = .int .u32 a
    · subst hk; rw [updM_eq] at hx; cases hx; exact ⟨v, rfl⟩
    · rw [updM_ne _ _ hk] at hx; exact h k x hx

theorem resp_front (g : Nat) (M : Option (Nat × Array MapEntry × Nat)) : ∃ mv R, resp g M = .row g [fnV, mv] :: R := by
  cases M with
  | none => exact ⟨_, _, rfl⟩
  | some M => obtain ⟨gm, es, c⟩ := M; exact ⟨_, _, rfl⟩
theorem resp_row {p : Nat → Prop} {w0 w : World} {E L : List Ent} {g : Nat} {M : Option (Nat × Array MapEntry × Nat)} (hS : St p w0 w (E ++ (resp g M ++ L))) : ∃ r, Row w g [fnV, .map r] ∧ MapW w r (esOf M) := by
  cases M with
  | none => exact ⟨none, hS.holds (.row g [fnV, .map none]) (by simp [resp]), .inl ⟨rfl, rfl⟩⟩
  | some M =>
    obtain ⟨gm, es, c⟩ := M
    exact ⟨some gm, hS.holds (.row g [fnV, .map (some gm)]) (by simp [resp]), .inr ⟨gm, c, rfl, (hS.holds (.obj gm (.map es c)) (by simp [resp])).1⟩⟩

/-- What is wrong with a frame as a question that is to be answered; 0: nothing. -/
def ansErr (port : Int) (f : Nat → Int) (n : Nat) : Int := if prErr port f n ≠ 0 then prErr port f n else if arpErr f n (two f 12) ≠ 0 then arpErr f n (two f 12) else if f 21 = 2 then 7 else if four f 38 % 2 = 1 then 4 else 0
theorem Answer_nil (w : World) (port : Int) (v : Value) :
    Calls Try.prog 22 #[.pointer none, .int .i64 port, v] w fun e w' => e = .returned (.tuple #[.slice none 0 0, .int .i64 1]) ∧ Frm (fun _ => False) w w' := by
  refine enter Try.func22 rfl Try.ntmps22 rfl (St.start (fun _ => False) w) ?_
  refine WC.seq ?_
  refine WC.region ?_
  refine WL.val (v_assign rfl rfl) (.none rfl) rfl rfl ?_
  refine WL.val (v_assign rfl rfl) (.none rfl) rfl rfl ?_
  refine WL.nil ?_
  refine WE.then_n ?_
  refine WC.seq ?_
  refine WC.seq ?_
  refine WC.region ?_
  refine WL.val (v_move rfl rfl) (.none rfl) rfl rfl ?_
  refine WL.val (v_eql_nil true rfl rfl Try.underlying51 rfl) (.none rfl) rfl rfl ?_
  refine WL.nil ?_
  refine WE.then_n ?_
  refine WC.cond_t rfl ?_
  refine WC.seq ?_
  refine WC.region ?_
  refine WL.val (v_assign rfl rfl) (.none rfl) rfl rfl ?_
  refine WL.val (v_assign rfl rfl) (.none rfl) rfl rfl ?_
  refine WL.nil ?_
  refine WE.then_n ?_
  refine WC.ret ?_
  refine WE.then_ret ?_
  refine WE.ret2 (P := Try.prog) (.inl rfl) Try.results22 rfl rfl ?_
  exact fun w' h => ⟨rfl, h.frm⟩
set_option maxHeartbeats 400000 in
theorem Answer_x1 (w : World) (g : Nat) (port : Int) (a : Option Addr) (n cap : Nat) (f : Nat → Int) (hr : RdO w a n f) (hf : Byt f) (hc : n ≤ cap) (h : prErr port f n ≠ 0) :
    Calls Try.prog 22 #[.pointer (some ⟨g, 0, none⟩), .int .i64 port, .slice a n cap] w fun e w' => e = .returned (.tuple #[.slice none 0 0, .int .i64 (prErr port f n)]) ∧ Frm (fun _ => False) w w' := by
  refine enter Try.func22 rfl Try.ntmps22 rfl (St.start (fun _ => False) w) ?_
  refine WC.seq ?_
  refine WC.region ?_
  refine WL.val (v_assign rfl rfl) (.none rfl) rfl rfl ?_
  refine WL.val (v_assign rfl rfl) (.none rfl) rfl rfl ?_
  refine WL.nil ?_
  refine WE.then_n ?_
  refine WC.seq ?_
  refine WC.seq ?_
  refine WC.region ?_
  refine WL.val (v_move rfl rfl) (.none rfl) rfl rfl ?_
  refine WL.val (v_eql_nil false rfl rfl Try.underlying51 rfl) (.none rfl) rfl rfl ?_
  refine WL.nil ?_
  refine WE.then_n ?_
  refine WC.cond_f rfl ?_
  refine WC.skip ?_
  refine WE.then_n ?_
  refine WC.seq ?_
  refine WC.region ?_
  refine WL.val (v_move rfl rfl) (.none rfl) rfl rfl ?_
  refine WL.val (v_move rfl rfl) (.none rfl) rfl rfl ?_
  refine WL.call rfl rfl ck_12 (.none rfl) rfl rfl ?_
  intro w hS
  refine Calls.then (Parse_e w port a n cap f (rdOOld (fun _ h => h) hr w hS) hf hc h) hS ?_
  refine WL.val (v_move rfl rfl) (.none rfl) rfl rfl ?_
  refine WL.val (v_extract rfl rfl rfl) (.none rfl) rfl rfl ?_
  refine WL.val (v_extract rfl rfl rfl) (.none rfl) rfl rfl ?_
  refine WL.alloc rfl zero_32 (.none rfl) rfl rfl ?_
  intro g8 hg8
  refine WL.storeW rfl rfl rfl rfl many_32 rfl rfl (.none rfl) rfl ?_
  refine WL.val (v_assign rfl rfl) (.none rfl) rfl rfl ?_
  refine WL.nil ?_
  refine WE.then_n ?_
  refine WC.seq ?_
  refine WC.seq ?_
  refine WC.region ?_
  refine WL.val (v_move rfl rfl) (.none rfl) rfl rfl ?_
  refine WL.val ((v_neq rfl rfl rfl).t (h)) (.none rfl) rfl rfl ?_
  refine WL.nil ?_
  refine WE.then_n ?_
  refine WC.cond_t rfl ?_
  refine WC.seq ?_
  refine WC.region ?_
  refine WL.val (v_move rfl rfl) (.none rfl) rfl rfl ?_
  refine WL.val (v_assign rfl rfl) (.none rfl) rfl rfl ?_
  refine WL.val (v_assign rfl rfl) (.none rfl) rfl rfl ?_
  refine WL.nil ?_
  refine WE.then_n ?_
  refine WC.ret ?_
  refine WE.then_ret ?_
  refine WE.ret2 (P := Try.prog) (.inl rfl) Try.results22 rfl rfl ?_
  exact fun w' h => ⟨rfl, h.frm⟩
set_option maxHeartbeats 400000 in
theorem Answer_x2 (w : World) (g : Nat) (port : Int) (a : Option Addr) (n cap : Nat) (f : Nat → Int) (hr : RdO w a n f) (hf : Byt f) (hc : n ≤ cap) (h : prErr port f n = 0) (h14 : 14 ≤ n) (hn : n ≤ 1514) (h2 : arpErr f n (two f 12) ≠ 0) :
    Calls Try.prog 22 #[.pointer (some ⟨g, 0, none⟩), .int .i64 port, .slice a n cap] w fun e w' => e = .returned (.tuple #[.slice none 0 0, .int .i64 (arpErr f n (two f 12))]) ∧ Frm (fun _ => False) w w' := by
  have e12 := prHd_ty port f
  refine enter Try.func22 rfl Try.ntmps22 rfl (St.start (fun _ => False) w) ?_
  refine WC.seq ?_
  refine WC.region ?_
  refine WL.val (v_assign rfl rfl) (.none rfl) rfl rfl ?_
  refine WL.val (v_assign rfl rfl) (.none rfl) rfl rfl ?_
  refine WL.nil ?_
  refine WE.then_n ?_
  refine WC.seq ?_
  refine WC.seq ?_
  refine WC.region ?_
  refine WL.val (v_move rfl rfl) (.none rfl) rfl rfl ?_
  refine WL.val (v_eql_nil false rfl rfl Try.underlying51 rfl) (.none rfl) rfl rfl ?_
  refine WL.nil ?_
  refine WE.then_n ?_
  refine WC.cond_f rfl ?_
  refine WC.skip ?_
  refine WE.then_n ?_
  refine WC.seq ?_
  refine WC.region ?_
  refine WL.val (v_move rfl rfl) (.none rfl) rfl rfl ?_
  refine WL.val (v_move rfl rfl) (.none rfl) rfl rfl ?_
  refine WL.call rfl rfl ck_12 (.none rfl) rfl rfl ?_
  intro w hS
  refine Calls.then (Parse_k w port a n cap f (rdOOld (fun _ h => h) hr w hS) hf hc h) hS ?_
  refine WL.val (v_move rfl rfl) (.none rfl) rfl rfl ?_
  refine WL.val (v_extract rfl rfl rfl) (.none rfl) rfl rfl ?_
  refine WL.val (v_extract rfl rfl rfl) (.none rfl) rfl rfl ?_
  refine WL.alloc rfl zero_32 (.none rfl) rfl rfl ?_
  intro g8 hg8
  refine WL.storeW rfl rfl rfl rfl many_32 rfl rfl (.none rfl) rfl ?_
  refine WL.val (v_assign rfl rfl) (.none rfl) rfl rfl ?_
  refine WL.nil ?_
  refine WE.then_n ?_
  refine WC.seq ?_
  refine WC.seq ?_
  refine WC.region ?_
  refine WL.val (v_move rfl rfl) (.none rfl) rfl rfl ?_
  refine WL.val ((v_neq rfl rfl rfl).f (by omega)) (.none rfl) rfl rfl ?_
  refine WL.nil ?_
  refine WE.then_n ?_
  refine WC.cond_f rfl ?_
  refine WC.skip ?_
  refine WE.then_n ?_
  refine WC.seq ?_
  refine WC.region ?_
  refine WL.val (v_loadN rfl rfl many_32 rfl allAt) (.none rfl) rfl rfl ?_
  refine WL.call rfl rfl ck_16 (.none rfl) rfl rfl ?_
  intro w hS
  refine Calls.then (ParseArp_x w (prHd port f) (prHd port f) f n (prPorts f) (prEnd f) hf (fun _ => h14) (by omega) (by rw [e12]; exact h2)) hS ?_
  refine WL.val (v_move rfl rfl) (.none rfl) rfl rfl ?_
  refine WL.val (v_extract rfl rfl rfl) (.none rfl) rfl rfl ?_
  refine WL.val (v_extract rfl rfl rfl) (.none rfl) rfl rfl ?_
  refine WL.alloc rfl zero_44 (.none rfl) rfl rfl ?_
  intro g10 hg10
  refine WL.storeW rfl rfl rfl rfl many_44 rfl rfl (.none rfl) rfl ?_
  refine WL.val (v_assign rfl rfl) (.none rfl) rfl rfl ?_
  refine WL.nil ?_
  refine WE.then_n ?_
  refine WC.seq ?_
  refine WC.seq ?_
  refine WC.region ?_
  refine WL.val (v_move rfl rfl) (.none rfl) rfl rfl ?_
  refine WL.val ((v_neq rfl rfl rfl).t (by rw [e12]; exact h2)) (.none rfl) rfl rfl ?_
  refine WL.nil ?_
  refine WE.then_n ?_
  refine WC.cond_t rfl ?_
  refine WC.seq ?_
  refine WC.region ?_
  refine WL.val (v_move rfl rfl) (.none rfl) rfl rfl ?_
  refine WL.val (v_assign rfl rfl) (.none rfl) rfl rfl ?_
  refine WL.val (v_assign rfl rfl) (.none rfl) rfl rfl ?_
  refine WL.nil ?_
  refine WE.then_n ?_
  refine WC.ret ?_
  refine WE.then_ret ?_
  refine WE.ret2 (P := Try.prog) (.inl rfl) Try.results22 rfl rfl ?_
  exact fun w' h => ⟨by rw [e12], h.frm⟩
set_option maxHeartbeats 400000 in
theorem Answer_x3 (w : World) (g : Nat) (port : Int) (a : Option Addr) (n cap : Nat) (f : Nat → Int) (mv : Value) (hR : Row w g [fnV, mv]) (hr : RdO w a n f) (hf : Byt f) (hc : n ≤ cap) (h : prErr port f n = 0) (h14 : 14 ≤ n) (hn : n ≤ 1514) (h2 : arpErr f n (two f 12) = 0) (h3 : f 21 = 2 ∨ four f 38 % 2 = 1) :
    Calls Try.prog 22 #[.pointer (some ⟨g, 0, none⟩), .int .i64 port, .slice a n cap] w fun e w' => e = .returned (.tuple #[.slice none 0 0, .int .i64 (if f 21 = 2 then 7 else 4)]) ∧ Frm (fun _ => False) w w' := by
  have e12 := prHd_ty port f
  have t0 := two_le hf 38; have t1 := two_le hf 40
  have f38 : four f 38 = two f 38 * 65536 + two f 40 := rfl
  refine enter Try.func22 rfl Try.ntmps22 rfl (St.start (fun _ => False) w) ?_
  refine WC.seq ?_
  refine WC.region ?_
  refine WL.val (v_assign rfl rfl) (.none rfl) rfl rfl ?_
  refine WL.val (v_assign rfl rfl) (.none rfl) rfl rfl ?_
  refine WL.nil ?_
  refine WE.then_n ?_
  refine WC.seq ?_
  refine WC.seq ?_
  refine WC.region ?_
  refine WL.val (v_move rfl rfl) (.none rfl) rfl rfl ?_
  refine WL.val (v_eql_nil false rfl rfl Try.underlying51 rfl) (.none rfl) rfl rfl ?_
  refine WL.nil ?_
  refine WE.then_n ?_
  refine WC.cond_f rfl ?_
  refine WC.skip ?_
  refine WE.then_n ?_
  refine WC.seq ?_
  refine WC.region ?_
  refine WL.val (v_move rfl rfl) (.none rfl) rfl rfl ?_
  refine WL.val (v_move rfl rfl) (.none rfl) rfl rfl ?_
  refine WL.call rfl rfl ck_12 (.none rfl) rfl rfl ?_
  intro w hS
  refine Calls.then (Parse_k w port a n cap f (rdOOld (fun _ h => h) hr w hS) hf hc h) hS ?_
  refine WL.val (v_move rfl rfl) (.none rfl) rfl rfl ?_
  refine WL.val (v_extract rfl rfl rfl) (.none rfl) rfl rfl ?_
  refine WL.val (v_extract rfl rfl rfl) (.none rfl) rfl rfl ?_
  refine WL.alloc rfl zero_32 (.none rfl) rfl rfl ?_
  intro g8 hg8
  refine WL.storeW rfl rfl rfl rfl many_32 rfl rfl (.none rfl) rfl ?_
  refine WL.val (v_assign rfl rfl) (.none rfl) rfl rfl ?_
  refine WL.nil ?_
  refine WE.then_n ?_
  refine WC.seq ?_
  refine WC.seq ?_
  refine WC.region ?_
  refine WL.val (v_move rfl rfl) (.none rfl) rfl rfl ?_
  refine WL.val ((v_neq rfl rfl rfl).f (by omega)) (.none rfl) rfl rfl ?_
  refine WL.nil ?_
  refine WE.then_n ?_
  refine WC.cond_f rfl ?_
  refine WC.skip ?_
  refine WE.then_n ?_
  refine WC.seq ?_
  refine WC.region ?_
  refine WL.val (v_loadN rfl rfl many_32 rfl allAt) (.none rfl) rfl rfl ?_
  refine WL.call rfl rfl ck_16 (.none rfl) rfl rfl ?_
  intro w hS
  refine Calls.then (ParseArp_0 w (prHd port f) (prHd port f) f n (prPorts f) (prEnd f) hf (fun _ => h14) (by omega) (by rw [e12]; exact h2)) hS ?_
  refine WL.val (v_move rfl rfl) (.none rfl) rfl rfl ?_
  refine WL.val (v_extract rfl rfl rfl) (.none rfl) rfl rfl ?_
  refine WL.val (v_extract rfl rfl rfl) (.none rfl) rfl rfl ?_
  refine WL.alloc rfl zero_44 (.none rfl) rfl rfl ?_
  intro g10 hg10
  refine WL.storeW rfl rfl rfl rfl many_44 rfl rfl (.none rfl) rfl ?_
  refine WL.val (v_assign rfl rfl) (.none rfl) rfl rfl ?_
  refine WL.nil ?_
  refine WE.then_n ?_
  refine WC.seq ?_
  refine WC.seq ?_
  refine WC.region ?_
  refine WL.val (v_move rfl rfl) (.none rfl) rfl rfl ?_
  refine WL.val ((v_neq rfl rfl rfl).f (by omega)) (.none rfl) rfl rfl ?_
  refine WL.nil ?_
  refine WE.then_n ?_
  refine WC.cond_f rfl ?_
  refine WC.skip ?_
  refine WE.then_n ?_
  refine WC.seq ?_
  refine WC.seq ?_
  refine WC.region ?_
  refine WL.val (v_fieldAddr0 rfl rfl fld_44_0) (.none rfl) rfl rfl ?_
  refine WL.val (v_load1 rfl rfl one_4 (cellAt rfl)) (.none rfl) rfl rfl ?_
  refine WL.nil ?_
  refine WE.then_n ?_
  refine WC.cond_b rfl (fun h33 => ?_) (fun h33 => ?_)
  · -- 33T
    refine WC.seq ?_
    refine WC.region ?_
    refine WL.val (v_assign rfl rfl) (.none rfl) rfl rfl ?_
    refine WL.val (v_assign rfl rfl) (.none rfl) rfl rfl ?_
    refine WL.nil ?_
    refine WE.then_n ?_
    refine WC.ret ?_
    refine WE.then_ret ?_
    refine WE.ret2 (P := Try.prog) (.inl rfl) Try.results22 rfl rfl ?_
    exact fun w' h => ⟨by rw [if_pos (of_decide_eq_true h33)], h.frm⟩
  · -- 33F
    refine WC.skip ?_
    refine WE.then_n ?_
    refine WC.seq ?_
    refine WC.region ?_
    refine WL.val (v_move rfl rfl) (.none rfl) rfl rfl ?_
    refine WL.val (v_fieldAddr0 rfl rfl fld_44_4) (.none rfl) rfl rfl ?_
    refine WL.val (v_load1 rfl rfl one_28 (cellAt rfl)) (.none rfl) rfl rfl ?_
    refine WL.call rfl rfl ck_24 (.none rfl) rfl rfl ?_
    intro w hS
    refine Calls.then (Look_F w g (four f 38) mv (hS.oldRow (fun h => h) hR) (by omega) (by omega) (h3.resolve_left (of_decide_eq_false h33))) hS ?_
    refine WL.val (v_move rfl rfl) (.none rfl) rfl rfl ?_
    refine WL.val (v_extract rfl rfl rfl) (.none rfl) rfl rfl ?_
    refine WL.val (v_extract rfl rfl rfl) (.none rfl) rfl rfl ?_
    refine WL.alloc rfl zero_26 (.none rfl) rfl rfl ?_
    intro g11 hg11
    refine WL.storeW rfl rfl rfl rfl many_26 rfl rfl (.none rfl) rfl ?_
    refine WL.val (v_assign rfl rfl) (.none rfl) rfl rfl ?_
    refine WL.nil ?_
    refine WE.then_n ?_
    refine WC.seq ?_
    refine WC.seq ?_
    refine WC.region ?_
    refine WL.val (v_move rfl rfl) (.none rfl) rfl rfl ?_
    refine WL.val (v_not rfl rfl rfl) (.none rfl) rfl rfl ?_
    refine WL.nil ?_
    refine WE.then_n ?_
    refine WC.cond_t rfl ?_
    refine WC.seq ?_
    refine WC.region ?_
    refine WL.val (v_assign rfl rfl) (.none rfl) rfl rfl ?_
    refine WL.val (v_assign rfl rfl) (.none rfl) rfl rfl ?_
    refine WL.nil ?_
    refine WE.then_n ?_
    refine WC.ret ?_
    refine WE.then_ret ?_
    refine WE.ret2 (P := Try.prog) (.inl rfl) Try.results22 rfl rfl ?_
    exact fun w' h => ⟨by rw [if_neg (of_decide_eq_false h33)], h.frm⟩

/-- The answer to a question. -/
def ansAk (f : Nat → Int) : Ak := ⟨true, macOf (four f 38), four f 38, fun i => f (22 + i), four f 28⟩
set_option maxHeartbeats 1000000 in
theorem Answer_k (w : World) (p : Nat → Prop) (w0 : World) (L : List Ent) (g : Nat) (M : Option (Nat × Array MapEntry × Nat)) (m : Value → Option Value) (port : Int) (a : Option Addr) (n cap : Nat) (f : Nat → Int) (hS : St p w0 w (resp g M ++ L)) (hM : IMap (KInt .u32) (esOf M) m) (hm : Macs m)
    (hr : ∀ w', St p w0 w' (resp g M ++ L) → RdO w' a n f) (hf : Byt f) (hc : n ≤ cap) (h : prErr port f n = 0) (h14 : 14 ≤ n) (hn : n ≤ 1514) (h2 : arpErr f n (two f 12) = 0) (h3 : f 21 ≠ 2) (h4 : four f 38 % 2 ≠ 1) :
    Calls Try.prog 22 #[.pointer (some ⟨g, 0, none⟩), .int .i64 port, .slice a n cap] w fun e w' => ∃ go M', e = .returned (.tuple #[.slice (some ⟨go, 0, none⟩) 42 42, .int .i64 0]) ∧ w0.heap.size ≤ go ∧ St p w0 w' (.row go (bcs (arpF (ansAk f)) 42) :: (resp g M' ++ L)) ∧
      IMap (KInt .u32) (esOf M') (noteM m (esOf M).size (four f 28) (.agg (u8s fun i => f (22 + i)).toArray)) ∧ (esOf M').size = noteS m (esOf M).size (four f 28) := by
  have e12 := prHd_ty port f
  have t0 := two_le hf 38; have t1 := two_le hf 40
  have f38 : four f 38 = two f 38 * 65536 + two f 40 := rfl
  have t2 := two_le hf 28; have t3 := two_le hf 30
  have f28 : four f 28 = two f 28 * 65536 + two f 30 := rfl
  refine enter Try.func22 rfl Try.ntmps22 rfl hS ?_
  refine WC.seq ?_
  refine WC.region ?_
  refine WL.val (v_assign rfl rfl) (.none rfl) rfl rfl ?_
  refine WL.val (v_assign rfl rfl) (.none rfl) rfl rfl ?_
  refine WL.nil ?_
  refine WE.then_n ?_
  refine WC.seq ?_
  refine WC.seq ?_
  refine WC.region ?_
  refine WL.val (v_move rfl rfl) (.none rfl) rfl rfl ?_
  refine WL.val (v_eql_nil false rfl rfl Try.underlying51 rfl) (.none rfl) rfl rfl ?_
  refine WL.nil ?_
  refine WE.then_n ?_
  refine WC.cond_f rfl ?_
  refine WC.skip ?_
  refine WE.then_n ?_
  refine WC.seq ?_
  refine WC.region ?_
  refine WL.val (v_move rfl rfl) (.none rfl) rfl rfl ?_
  refine WL.val (v_move rfl rfl) (.none rfl) rfl rfl ?_
  refine WL.call rfl rfl ck_12 (.none rfl) rfl rfl ?_
  intro w hS
  refine Calls.then (Parse_k w port a n cap f (hr w hS) hf hc h) hS ?_
  refine WL.val (v_move rfl rfl) (.none rfl) rfl rfl ?_
  refine WL.val (v_extract rfl rfl rfl) (.none rfl) rfl rfl ?_
  refine WL.val (v_extract rfl rfl rfl) (.none rfl) rfl rfl ?_
  refine WL.alloc rfl zero_32 (.none rfl) rfl rfl ?_
  intro g8 hg8
  refine WL.storeW rfl rfl rfl rfl many_32 rfl rfl (.none rfl) rfl ?_
  refine WL.val (v_assign rfl rfl) (.none rfl) rfl rfl ?_
  refine WL.nil ?_
  refine WE.then_n ?_
  refine WC.seq ?_
  refine WC.seq ?_
  refine WC.region ?_
  refine WL.val (v_move rfl rfl) (.none rfl) rfl rfl ?_
  refine WL.val ((v_neq rfl rfl rfl).f (by omega)) (.none rfl) rfl rfl ?_
  refine WL.nil ?_
  refine WE.then_n ?_
  refine WC.cond_f rfl ?_
  refine WC.skip ?_
  refine WE.then_n ?_
  refine WC.seq ?_
  refine WC.region ?_
  refine WL.val (v_loadN rfl rfl many_32 rfl allAt) (.none rfl) rfl rfl ?_
  refine WL.call rfl rfl ck_16 (.none rfl) rfl rfl ?_
  intro w hS
  refine Calls.then (ParseArp_0 w (prHd port f) (prHd port f) f n (prPorts f) (prEnd f) hf (fun _ => h14) (by omega) (by rw [e12]; exact h2)) hS ?_
  refine WL.val (v_move rfl rfl) (.none rfl) rfl rfl ?_
  refine WL.val (v_extract rfl rfl rfl) (.none rfl) rfl rfl ?_
  refine WL.val (v_extract rfl rfl rfl) (.none rfl) rfl rfl ?_
  refine WL.alloc rfl zero_44 (.none rfl) rfl rfl ?_
  intro g10 hg10
  refine WL.storeW rfl rfl rfl rfl many_44 rfl rfl (.none rfl) rfl ?_
  refine WL.val (v_assign rfl rfl) (.none rfl) rfl rfl ?_
  refine WL.nil ?_
  refine WE.then_n ?_
  refine WC.seq ?_
  refine WC.seq ?_
  refine WC.region ?_
  refine WL.val (v_move rfl rfl) (.none rfl) rfl rfl ?_
  refine WL.val ((v_neq rfl rfl rfl).f (by omega)) (.none rfl) rfl rfl ?_
  refine WL.nil ?_
  refine WE.then_n ?_
  refine WC.cond_f rfl ?_
  refine WC.skip ?_
  refine WE.then_n ?_
  refine WC.seq ?_
  refine WC.seq ?_
  refine WC.region ?_
  refine WL.val (v_fieldAddr0 rfl rfl fld_44_0) (.none rfl) rfl rfl ?_
  refine WL.val (v_load1 rfl rfl one_4 (cellAt rfl)) (.none rfl) rfl rfl ?_
  refine WL.nil ?_
  refine WE.then_n ?_
  refine WC.cond_f (by show some (Value.bool (decide (f 21 = 2))) = _; rw [decide_eq_false h3]) ?_
  refine WC.skip ?_
  refine WE.then_n ?_
  refine WC.seq ?_
  refine WC.region ?_
  refine WL.val (v_move rfl rfl) (.none rfl) rfl rfl ?_
  refine WL.val (v_fieldAddr0 rfl rfl fld_44_4) (.none rfl) rfl rfl ?_
  refine WL.val (v_load1 rfl rfl one_28 (cellAt rfl)) (.none rfl) rfl rfl ?_
  refine WL.call rfl rfl ck_24 (.none rfl) rfl rfl ?_
  intro w hS
  refine Calls.then (Look_T w g (four f 38) _ (resp_row (E := [.row g10 (akCells (akOf f)), .row g8 (pkL (prHd port f) (prHd port f) (str f n) (prPorts f) (prEnd f))]) hS).choose_spec.1 (by omega) (by omega) h4) hS ?_
  refine WL.val (v_move rfl rfl) (.none rfl) rfl rfl ?_
  refine WL.val (v_extract rfl rfl rfl) (.none rfl) rfl rfl ?_
  refine WL.val (v_extract rfl rfl rfl) (.none rfl) rfl rfl ?_
  refine WL.alloc rfl zero_26 (.none rfl) rfl rfl ?_
  intro g11 hg11
  refine WL.storeW rfl rfl rfl rfl many_26 rfl rfl (.none rfl) rfl ?_
  refine WL.val (v_assign rfl rfl) (.none rfl) rfl rfl ?_
  refine WL.nil ?_
  refine WE.then_n ?_
  refine WC.seq ?_
  refine WC.seq ?_
  refine WC.region ?_
  refine WL.val (v_move rfl rfl) (.none rfl) rfl rfl ?_
  refine WL.val (v_not rfl rfl rfl) (.none rfl) rfl rfl ?_
  refine WL.nil ?_
  refine WE.then_n ?_
  refine WC.cond_f rfl ?_
  refine WC.skip ?_
  refine WE.then_n ?_
  refine WC.seq ?_
  refine WC.region ?_
  refine WL.val (v_move rfl rfl) (.none rfl) rfl rfl ?_
  refine WL.val (v_fieldAddr0 rfl rfl fld_44_2) (.none rfl) rfl rfl ?_
  refine WL.val (v_load1 rfl rfl one_28 (cellAt rfl)) (.none rfl) rfl rfl ?_
  refine WL.val (v_fieldAddr0 rfl rfl fld_44_1) (.none rfl) rfl rfl ?_
  refine WL.val (v_loadN rfl rfl many_26 rfl (segAt (m := 6) rfl)) (.none rfl) rfl rfl ?_
  refine WL.call rfl rfl ck_33 (.none rfl) rfl rfl ?_
  intro w1 hS
  refine (note_c w1 p w0 (.row g11 (u8s (macOf (four f 38))) :: .row g10 (akCells (akOf f)) :: .row g8 (pkL (prHd port f) (prHd port f) (str f n) (prPorts f) (prEnd f)) :: L) g M m (four f 28) (fun i => f (22 + i)) (hS.front [.row g11 (u8s (macOf (four f 38))), .row g10 (akCells (akOf f)), .row g8 (pkL (prHd port f) (prHd port f) (str f n) (prPorts f) (prEnd f))]) hM hm).mono ?_
  rintro e w' ⟨rfl, M', hS', hM', hs'⟩
  refine ⟨_, _, rfl, hS', ?_⟩
  refine WL.nil ?_
  refine WE.then_n ?_
  refine WC.seq ?_
  refine WC.region ?_
  refine WL.val (v_loadN rfl rfl many_26 rfl allAt) (.none rfl) rfl rfl ?_
  refine WL.val (v_fieldAddr0 rfl rfl fld_44_4) (.none rfl) rfl rfl ?_
  refine WL.val (v_load1 rfl rfl one_28 (cellAt rfl)) (.none rfl) rfl rfl ?_
  refine WL.val (v_fieldAddr0 rfl rfl fld_44_1) (.none rfl) rfl rfl ?_
  refine WL.val (v_loadN rfl rfl many_26 rfl (segAt (m := 6) rfl)) (.none rfl) rfl rfl ?_
  refine WL.val (v_fieldAddr0 rfl rfl fld_44_2) (.none rfl) rfl rfl ?_
  refine WL.val (v_load1 rfl rfl one_28 (cellAt rfl)) (.none rfl) rfl rfl ?_
  refine WL.val (v_build rfl rfl zero_44 plc_44 rfl) (.none rfl) rfl rfl ?_
  refine WL.call rfl rfl ck_18 (.none rfl) rfl rfl ?_
  intro w1 hS
  refine (EmitArp_c (ansAk f) hS (by show 0 ≤ four f 38; omega) (by show four f 38 ≤ 4294967295; omega) (by show 0 ≤ four f 28; omega) (by show four f 28 ≤ 4294967295; omega)).mono ?_
  rintro e w' ⟨g57, hg57, rfl, hS'⟩
  refine ⟨_, _, rfl, hS', ?_⟩
  refine WL.val (v_assign rfl rfl) (.none rfl) rfl rfl ?_
  refine WL.val (v_assign rfl rfl) (.none rfl) rfl rfl ?_
  refine WL.nil ?_
  refine WE.then_n ?_
  refine WC.ret ?_
  refine WE.ret2 (P := Try.prog) (.inl rfl) Try.results22 rfl rfl ?_
  exact fun w' h => ⟨g57, M', rfl, hg57, h.sub (.cons_cons _ (List.Sublist.append_left (.cons _ (.cons _ (.cons _ (.refl _)))) _)), hM', hs'⟩
end Go.Proofs.Ytpjjlggonpbegaa
