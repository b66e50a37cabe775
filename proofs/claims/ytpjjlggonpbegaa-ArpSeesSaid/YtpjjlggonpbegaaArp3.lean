/- carrefourlaw23: ArpBack, ArpOnce. -/
import Derived.Test.YtpjjlggonpbegaaArp2
namespace Go.Proofs.Ytpjjlggonpbegaa
open Go.RowKit

theorem ansE_rep (A : Ak) : ansE (repAk A) = 7 := rfl
/-- The question of which the address is even. -/
def evenAk (A : Ak) : Ak := ⟨false, A.mac, A.ip, A.tmac, A.tip - A.tip % 2⟩
theorem evenAk_fits {A : Ak} (h : A.Fits) : (evenAk A).Fits := ⟨h.mac, h.tmac, h.ip, by have := h.tip; show 0 ≤ A.tip - A.tip % 2 ∧ A.tip - A.tip % 2 ≤ 4294967295; omega⟩
theorem evenAk_ok (A : Ak) : ansE (evenAk A) = 0 := by
  show (if false = true then 7 else if (A.tip - A.tip % 2) % 2 = 1 then 4 else 0) = (0 : Int)
  rw [if_neg (by decide), if_neg (by omega)]

set_option maxHeartbeats 1000000 in
theorem ArpBack_c (w : World) (A : Ak) (hA : A.Fits) :
    Calls Try.prog 6 #[.agg (akCells A).toArray] w fun e w' => e = .returned (.bool true) ∧ Frm (fun _ => False) w w' := by
  have hE := evenAk_fits hA
  have hB := repAk_fits hE
  have tip := hA.tip
  refine enter Try.func6 rfl Try.ntmps6 rfl (St.start (fun _ => False) w) ?_
  refine WC.seq ?_
  refine WC.region ?_
  refine WL.box rfl rfl rfl (.none rfl) rfl rfl ?_
  intro g1 hg1
  refine WL.val (v_assign rfl rfl) (.none rfl) rfl rfl ?_
  refine WL.nil ?_
  refine WE.then_n ?_
  refine WC.seq ?_
  refine WC.seq ?_
  refine WC.region ?_
  refine WL.call rfl rfl ck_19 (.none rfl) rfl rfl ?_
  intro w hS
  refine Calls.then (arpHead_c w) hS ?_
  refine WL.val (v_not rfl rfl rfl) (.none rfl) rfl rfl ?_
  refine WL.nil ?_
  refine WE.then_n ?_
  refine WC.cond_f rfl ?_
  refine WC.skip ?_
  refine WE.then_n ?_
  refine WC.seq ?_
  refine WC.region ?_
  refine WL.val (v_fieldAddr0 rfl rfl fld_44_0) (.none rfl) rfl rfl ?_
  refine WL.store1 rfl rfl rfl rfl one_4 (Nat.le_of_ble_eq_true rfl) (.none rfl) rfl ?_
  refine WL.nil ?_
  refine WE.then_n ?_
  refine WC.seq ?_
  refine WC.region ?_
  refine WL.val (v_fieldAddr0 rfl rfl fld_44_4) (.none rfl) rfl rfl ?_
  refine WL.val (v_load1 rfl rfl one_28 (cellAt rfl)) (.none rfl) rfl rfl ?_
  refine WL.val (v_andNot rfl rfl rfl (andNot_u32_1 (by omega) (by omega))) (.none rfl) rfl rfl ?_
  refine WL.val (v_fieldAddr0 rfl rfl fld_44_4) (.none rfl) rfl rfl ?_
  refine WL.store1 rfl rfl rfl rfl one_28 (Nat.le_of_ble_eq_true rfl) (.none rfl) rfl ?_
  refine WL.as (L' := [.row g1 (akCells (evenAk A))]) rfl ?_
  refine WL.nil ?_
  refine WE.then_n ?_
  refine WC.seq ?_
  refine WC.region ?_
  refine WL.call rfl rfl ck_20 (.none rfl) rfl rfl ?_
  intro w1 hS
  refine (New_c w1 _ _ _ fnV hS (.inr rfl)).mono ?_
  rintro e w' ⟨g19, hg19, rfl, hS'⟩
  refine ⟨_, _, rfl, hS', ?_⟩
  refine WL.val (v_assign rfl rfl) (.none rfl) rfl rfl ?_
  refine WL.nil ?_
  refine WE.then_n ?_
  refine WC.seq ?_
  refine WC.region ?_
  refine WL.val (v_move rfl rfl) (.none rfl) rfl rfl ?_
  refine WL.val (v_loadN rfl rfl many_44 rfl allAt) (.none rfl) rfl rfl ?_
  refine WL.call rfl rfl ck_18 (.none rfl) rfl rfl ?_
  intro w1 hS
  refine (EmitArp_c (evenAk A) hS hE.ip.1 hE.ip.2 hE.tip.1 hE.tip.2).mono ?_
  rintro e w' ⟨g23, hg23, rfl, hS'⟩
  refine ⟨_, _, rfl, hS', ?_⟩
  refine WL.call rfl rfl ck_22 (.none rfl) rfl rfl ?_
  intro w1 hS
  refine (AnswerE_k (E := [.row g23 (bcs (arpF (evenAk A)) 42)]) (L := [.row g1 (akCells (evenAk A))]) (g := g19) (b := g23) (M := none) (port := 3) (A := evenAk A) hS (IMap.empty _) Macs.empty (by simp) hE (by decide) (evenAk_ok A)).mono ?_
  rintro e w' ⟨g24, M24, rfl, hg24, hS', hM24, hs24⟩
  refine ⟨_, _, rfl, (hS' : St _ _ _ (.row g24 (bcs (arpF (repAk (evenAk A))) 42) :: (resp g19 M24 ++ [.row g23 (bcs (arpF (evenAk A)) 42), .row g1 (akCells (evenAk A))]))), ?_⟩
  refine WL.val (v_move rfl rfl) (.none rfl) rfl rfl ?_
  refine WL.val (v_extract rfl rfl rfl) (.none rfl) rfl rfl ?_
  refine WL.val (v_extract rfl rfl rfl) (.none rfl) rfl rfl ?_
  refine WL.val (v_assign rfl rfl) (.none rfl) rfl rfl ?_
  refine WL.val (v_assign rfl rfl) (.none rfl) rfl rfl ?_
  refine WL.nil ?_
  refine WE.then_n ?_
  refine WC.seq ?_
  refine WC.seq ?_
  refine WC.region ?_
  refine WL.val (v_move rfl rfl) (.none rfl) rfl rfl ?_
  refine WL.val ((v_neq rfl rfl rfl).f (by omega)) (.none rfl) rfl rfl ?_
  refine WL.nil ?_
  refine WE.then_n ?_
  refine WC.cond_f rfl ?_
  refine WC.skip ?_
  refine WE.then_n ?_
  refine WC.seq ?_
  refine WC.region ?_
  refine WL.val (v_move rfl rfl) (.none rfl) rfl rfl ?_
  refine WL.call rfl rfl ck_12 (.none rfl) rfl rfl ?_
  intro w hS
  refine Calls.then (ParseE_k w (repAk (evenAk A)) 3 (by omega) _ 42 (rdoAt hS rfl) hB (by omega)) hS ?_
  refine WL.val (v_move rfl rfl) (.none rfl) rfl rfl ?_
  refine WL.val (v_extract rfl rfl rfl) (.none rfl) rfl rfl ?_
  refine WL.val (v_extract rfl rfl rfl) (.none rfl) rfl rfl ?_
  refine WL.alloc rfl zero_32 (.none rfl) rfl rfl ?_
  intro g6 hg6
  refine WL.storeW rfl rfl rfl rfl many_32 rfl rfl (.none rfl) rfl ?_
  refine WL.val (v_assign rfl rfl) (.none rfl) rfl rfl ?_
  refine WL.nil ?_
  refine WE.then_n ?_
  refine WC.seq ?_
  refine WC.region ?_
  refine WL.val (v_loadN rfl rfl many_32 rfl allAt) (.none rfl) rfl rfl ?_
  refine WL.call rfl rfl ck_16 (.none rfl) rfl rfl ?_
  intro w hS
  refine Calls.then (ParseArp_0 w (ethHd 3 (arpF (repAk (evenAk A)))) (ethHd 3 (arpF (repAk (evenAk A)))) (arpF (repAk (evenAk A))) 42 0 0 (arpF_byt hB) (fun _ => by omega) (by omega) (arpF_arp (repAk (evenAk A)))) hS ?_
  refine WL.val (v_move rfl rfl) (.none rfl) rfl rfl ?_
  refine WL.val (v_extract rfl rfl rfl) (.none rfl) rfl rfl ?_
  refine WL.val (v_extract rfl rfl rfl) (.none rfl) rfl rfl ?_
  refine WL.alloc rfl zero_44 (.none rfl) rfl rfl ?_
  intro g8 hg8
  refine WL.storeW rfl rfl rfl rfl many_44 rfl rfl (.none rfl) rfl ?_
  refine WL.val (v_assign rfl rfl) (.none rfl) rfl rfl ?_
  refine WL.nil ?_
  refine WE.then_n ?_
  refine WC.seq ?_
  refine WC.region ?_
  refine WL.val (v_move rfl rfl) (.none rfl) rfl rfl ?_
  refine WL.val (v_move rfl rfl) (.none rfl) rfl rfl ?_
  refine WL.call rfl rfl ck_22 (.none rfl) rfl rfl ?_
  intro w hS
  refine Calls.then (AnswerE_x (E := [.row g8 (akCells (akOf (arpF (repAk (evenAk A))))), .row g6 (pkL (ethHd 3 (arpF (repAk (evenAk A)))) (ethHd 3 (arpF (repAk (evenAk A)))) (str (arpF (repAk (evenAk A))) 42) 0 0), .row g24 (bcs (arpF (repAk (evenAk A))) 42)]) (L := [.row g23 (bcs (arpF (evenAk A)) 42), .row g1 (akCells (evenAk A))]) (M := M24) (A := repAk (evenAk A)) hS (by simp) hB (by decide) (by rw [ansE_rep]; decide)) hS ?_
  refine WL.val (v_move rfl rfl) (.none rfl) rfl rfl ?_
  refine WL.val (v_extract rfl rfl rfl) (.none rfl) rfl rfl ?_
  refine WL.val (v_extract rfl rfl rfl) (.none rfl) rfl rfl ?_
  refine WL.val (v_assign rfl rfl) (.none rfl) rfl rfl ?_
  refine WL.val (v_assign rfl rfl) (.none rfl) rfl rfl ?_
  refine WL.nil ?_
  refine WE.then_n ?_
  refine WC.seq ?_
  refine WC.region ?_
  refine WL.val (v_move rfl rfl) (.none rfl) rfl rfl ?_
  refine WL.val ((v_eql rfl rfl rfl).t (by omega)) (.none rfl) rfl rfl ?_
  refine WL.val (v_move rfl rfl) (.none rfl) rfl rfl ?_
  refine WL.val (v_move rfl rfl) (.some rfl rfl rfl) rfl rfl ?_
  refine WL.val ((v_eql rfl rfl rfl).t (by omega)) (.some rfl rfl rfl) rfl rfl ?_
  refine WL.val (v_pick_t rfl rfl rfl) (.none rfl) rfl rfl ?_
  refine WL.val (v_move rfl rfl) (.none rfl) rfl rfl ?_
  refine WL.val (v_fieldAddr0 rfl rfl fld_44_0) (.some rfl rfl rfl) rfl rfl ?_
  refine WL.val (v_load1 rfl rfl one_4 (cellAt rfl)) (.some rfl rfl rfl) rfl rfl ?_
  refine WL.val (v_pick_t rfl rfl rfl) (.none rfl) rfl rfl ?_
  refine WL.val (v_move rfl rfl) (.none rfl) rfl rfl ?_
  refine WL.val (v_fieldAddr0 rfl rfl fld_44_2) (.some rfl rfl rfl) rfl rfl ?_
  refine WL.val (v_load1 rfl rfl one_28 (cellAt rfl)) (.some rfl rfl rfl) rfl rfl ?_
  refine WL.val (v_fieldAddr0 rfl rfl fld_44_4) (.some rfl rfl rfl) rfl rfl ?_
  refine WL.val (v_load1 rfl rfl one_28 (cellAt rfl)) (.some rfl rfl rfl) rfl rfl ?_
  refine WL.val ((v_eql rfl rfl rfl).t (arpF_28 hB)) (.some rfl rfl rfl) rfl rfl ?_
  refine WL.val (v_pick_t rfl rfl rfl) (.none rfl) rfl rfl ?_
  refine WL.val (v_move rfl rfl) (.none rfl) rfl rfl ?_
  refine WL.val (v_fieldAddr0 rfl rfl fld_44_4) (.some rfl rfl rfl) rfl rfl ?_
  refine WL.val (v_load1 rfl rfl one_28 (cellAt rfl)) (.some rfl rfl rfl) rfl rfl ?_
  refine WL.val (v_fieldAddr0 rfl rfl fld_44_2) (.some rfl rfl rfl) rfl rfl ?_
  refine WL.val (v_load1 rfl rfl one_28 (cellAt rfl)) (.some rfl rfl rfl) rfl rfl ?_
  refine WL.val ((v_eql rfl rfl rfl).t (arpF_38 hB)) (.some rfl rfl rfl) rfl rfl ?_
  refine WL.val (v_pick_t rfl rfl rfl) (.none rfl) rfl rfl ?_
  refine WL.val (v_move rfl rfl) (.none rfl) rfl rfl ?_
  refine WL.val (v_fieldAddr0 rfl rfl fld_44_3) (.some rfl rfl rfl) rfl rfl ?_
  refine WL.val (v_loadN rfl rfl many_26 rfl (segAt (m := 6) rfl)) (.some rfl rfl rfl) rfl rfl ?_
  refine WL.val (v_fieldAddr0 rfl rfl fld_44_1) (.some rfl rfl rfl) rfl rfl ?_
  refine WL.val (v_loadN rfl rfl many_26 rfl (segAt (m := 6) rfl)) (.some rfl rfl rfl) rfl rfl ?_
  refine WL.val (v_eql_aggT rfl rfl rfl eqk_26 eqg_26 rfl rfl (by rfl)) (.some rfl rfl rfl) rfl rfl ?_
  refine WL.val (v_pick_t rfl rfl rfl) (.none rfl) rfl rfl ?_
  refine WL.val (v_move rfl rfl) (.none rfl) rfl rfl ?_
  refine WL.val (v_fieldAddr0 rfl rfl fld_32_0) (.some rfl rfl rfl) rfl rfl ?_
  refine WL.val (v_fieldAddr0 rfl rfl fld_30_2) (.some rfl rfl rfl) rfl rfl ?_
  refine WL.val (v_loadN rfl rfl many_26 rfl (segAt (m := 6) rfl)) (.some rfl rfl rfl) rfl rfl ?_
  refine WL.val (v_fieldAddr0 rfl rfl fld_44_1) (.some rfl rfl rfl) rfl rfl ?_
  refine WL.val (v_loadN rfl rfl many_26 rfl (segAt (m := 6) rfl)) (.some rfl rfl rfl) rfl rfl ?_
  refine WL.val (v_eql_aggT rfl rfl rfl eqk_26 eqg_26 rfl rfl (by rfl)) (.some rfl rfl rfl) rfl rfl ?_
  refine WL.val (v_pick_t rfl rfl rfl) (.none rfl) rfl rfl ?_
  refine WL.val (v_move rfl rfl) (.none rfl) rfl rfl ?_
  refine WL.val (v_move rfl rfl) (.some rfl rfl rfl) rfl rfl ?_
  refine WL.val ((v_eql rfl rfl rfl).t (ansE_rep (evenAk A))) (.some rfl rfl rfl) rfl rfl ?_
  refine WL.val (v_pick_t rfl rfl rfl) (.none rfl) rfl rfl ?_
  refine WL.val (v_assign rfl rfl) (.none rfl) rfl rfl ?_
  refine WL.nil ?_
  refine WE.then_n ?_
  refine WC.ret ?_
  refine WE.ret1 (P := Try.prog) (.inl rfl) Try.results6 rfl ?_
  exact fun w' h => ⟨rfl, h.frm⟩

theorem AnswerE_any {w : World} {p : Nat → Prop} {w0 : World} {E L : List Ent} {g b : Nat} {M : Option (Nat × Array MapEntry × Nat)} {m : Value → Option Value} {port : Int} {A : Ak} (hS : St p w0 w (E ++ (resp g M ++ L))) (hM : IMap (KInt .u32) (esOf M) m) (hm : Macs m) (hb : Ent.row b (bcs (arpF A) 42) ∈ E ++ L) (hA : A.Fits) (hp : 0 ≤ port ∧ port ≤ 255) :
    Calls Try.prog 22 #[.pointer (some ⟨g, 0, none⟩), .int .i64 port, .slice (some ⟨b, 0, none⟩) 42 42] w fun e w' => ∃ v M' m' E', e = .returned v ∧ St p w0 w' (E' ++ (resp g M' ++ (E ++ L))) ∧ IMap (KInt .u32) (esOf M') m' ∧ Macs m' := by
  by_cases h : ansE A = 0
  · refine (AnswerE_k hS hM hm hb hA hp h).mono ?_
    rintro e w' ⟨go, M', rfl, _, hS', hM', _⟩
    exact ⟨_, M', _, [.row go _], rfl, hS', hM', hm.note _ _ _⟩
  · refine (AnswerE_x hS hb hA hp h).mono ?_
    rintro e w' ⟨rfl, hF⟩
    exact ⟨_, M, m, [], rfl, (hS.ext hF).front E, hM, hm⟩
/-- The question as a question. -/
def askAk (A : Ak) : Ak := ⟨false, A.mac, A.ip, A.tmac, A.tip⟩
theorem askAk_fits {A : Ak} (h : A.Fits) : (askAk A).Fits := ⟨h.mac, h.tmac, h.ip, h.tip⟩

set_option maxHeartbeats 1000000 in
theorem ArpOnce_k (w : World) (A B : Ak) (hA : A.Fits) (hB : B.Fits) (port : Int) (h : A.tip % 2 ≠ 1) :
    Calls Try.prog 7 #[.agg (akCells A).toArray, .agg (akCells B).toArray, .int .i64 port] w fun e w' => e = .returned (.bool true) ∧ Frm (fun _ => False) w w' := by
  have hE := askAk_fits hA
  have hz : ansE (askAk A) = 0 := by
    show (if false = true then 7 else if A.tip % 2 = 1 then 4 else 0) = (0 : Int)
    rw [if_neg (by decide), if_neg h]
  have hK := fun w => known_c w A.tip hA.tip.1 hA.tip.2
  have e1 : knOk A.tip = true := decide_eq_true h
  rw [e1] at hK
  have hp : 0 ≤ port % 256 ∧ port % 256 ≤ 255 := by omega
  refine enter Try.func7 rfl Try.ntmps7 rfl (St.start (fun _ => False) w) ?_
  refine WC.seq ?_
  refine WC.region ?_
  refine WL.box rfl rfl rfl (.none rfl) rfl rfl ?_
  intro g3 hg3
  refine WL.box rfl rfl rfl (.none rfl) rfl rfl ?_
  intro g4 hg4
  refine WL.val (v_assign rfl rfl) (.none rfl) rfl rfl ?_
  refine WL.nil ?_
  refine WE.then_n ?_
  refine WC.seq ?_
  refine WC.seq ?_
  refine WC.region ?_
  refine WL.call rfl rfl ck_19 (.none rfl) rfl rfl ?_
  intro w hS
  refine Calls.then (arpHead_c w) hS ?_
  refine WL.val (v_not rfl rfl rfl) (.none rfl) rfl rfl ?_
  refine WL.nil ?_
  refine WE.then_n ?_
  refine WC.cond_f rfl ?_
  refine WC.skip ?_
  refine WE.then_n ?_
  refine WC.seq ?_
  refine WC.region ?_
  refine WL.val (v_fieldAddr0 rfl rfl fld_44_0) (.none rfl) rfl rfl ?_
  refine WL.store1 rfl rfl rfl rfl one_4 (Nat.le_of_ble_eq_true rfl) (.none rfl) rfl ?_
  refine WL.as (L' := [.row g4 (akCells B), .row g3 (akCells (askAk A))]) rfl ?_
  refine WL.nil ?_
  refine WE.then_n ?_
  refine WC.seq ?_
  refine WC.region ?_
  refine WL.val (v_move rfl rfl) (.none rfl) rfl rfl ?_
  refine WL.val (v_and rfl rfl rfl (mask_i64' (i := 8) (m := 256) (by decide) (by decide) (by decide))) (.none rfl) rfl rfl ?_
  refine WL.val (v_assign rfl rfl) (.none rfl) rfl rfl ?_
  refine WL.nil ?_
  refine WE.then_n ?_
  refine WC.seq ?_
  refine WC.region ?_
  refine WL.call rfl rfl ck_20 (.none rfl) rfl rfl ?_
  intro w1 hS
  refine (New_c w1 _ _ _ fnV hS (.inr rfl)).mono ?_
  rintro e w' ⟨g19, hg19, rfl, hS'⟩
  refine ⟨_, _, rfl, hS', ?_⟩
  refine WL.val (v_assign rfl rfl) (.none rfl) rfl rfl ?_
  refine WL.nil ?_
  refine WE.then_n ?_
  refine WC.seq ?_
  refine WC.region ?_
  refine WL.val (v_move rfl rfl) (.none rfl) rfl rfl ?_
  refine WL.val (v_move rfl rfl) (.none rfl) rfl rfl ?_
  refine WL.val (v_loadN rfl rfl many_44 rfl allAt) (.none rfl) rfl rfl ?_
  refine WL.call rfl rfl ck_18 (.none rfl) rfl rfl ?_
  intro w1 hS
  refine (EmitArp_c (askAk A) hS hE.ip.1 hE.ip.2 hE.tip.1 hE.tip.2).mono ?_
  rintro e w' ⟨g24, hg24, rfl, hS'⟩
  refine ⟨_, _, rfl, hS', ?_⟩
  refine WL.call rfl rfl ck_22 (.none rfl) rfl rfl ?_
  intro w1 hS
  refine (AnswerE_k (E := [.row g24 (bcs (arpF (askAk A)) 42)]) (L := [.row g4 (akCells B), .row g3 (akCells (askAk A))]) (g := g19) (b := g24) (M := none) (port := port % 256) (A := askAk A) hS (IMap.empty _) Macs.empty (by simp) hE hp hz).mono ?_
  rintro e w' ⟨g25, M25, rfl, hg25, hS', hM25, hs25⟩
  refine ⟨_, _, rfl, (hS' : St _ _ _ (.row g25 (bcs (arpF (repAk (askAk A))) 42) :: (resp g19 M25 ++ [.row g24 (bcs (arpF (askAk A)) 42), .row g4 (akCells B), .row g3 (akCells (askAk A))]))), ?_⟩
  refine WL.val (v_move rfl rfl) (.none rfl) rfl rfl ?_
  refine WL.val (v_extract rfl rfl rfl) (.none rfl) rfl rfl ?_
  refine WL.val (v_extract rfl rfl rfl) (.none rfl) rfl rfl ?_
  refine WL.val (v_assign rfl rfl) (.none rfl) rfl rfl ?_
  refine WL.val (v_assign rfl rfl) (.none rfl) rfl rfl ?_
  refine WL.nil ?_
  refine WE.then_n ?_
  refine WC.seq ?_
  refine WC.region ?_
  refine WL.val (v_move rfl rfl) (.none rfl) rfl rfl ?_
  refine WL.val (v_move rfl rfl) (.none rfl) rfl rfl ?_
  refine WL.val (v_loadN rfl rfl many_44 rfl allAt) (.none rfl) rfl rfl ?_
  refine WL.call rfl rfl ck_18 (.none rfl) rfl rfl ?_
  intro w1 hS
  refine (EmitArp_c B hS hB.ip.1 hB.ip.2 hB.tip.1 hB.tip.2).mono ?_
  rintro e w' ⟨g31, hg31, rfl, hS'⟩
  refine ⟨_, _, rfl, hS', ?_⟩
  refine WL.call rfl rfl ck_22 (.none rfl) rfl rfl ?_
  intro w1 hS
  refine (AnswerE_any (E := [.row g31 (bcs (arpF B) 42), .row g25 (bcs (arpF (repAk (askAk A))) 42)]) (L := [.row g24 (bcs (arpF (askAk A)) 42), .row g4 (akCells B), .row g3 (akCells (askAk A))]) (g := g19) (b := g31) (M := M25) (port := port % 256) (A := B) hS hM25 (Macs.empty.note _ _ _) (by simp) hB hp).mono ?_
  rintro e w' ⟨v32, M32, m32, E32, rfl, hS', hM32, hm32⟩
  refine ⟨_, _, rfl, (hS' : St _ _ _ (E32 ++ (resp g19 M32 ++ [.row g31 (bcs (arpF B) 42), .row g25 (bcs (arpF (repAk (askAk A))) 42), .row g24 (bcs (arpF (askAk A)) 42), .row g4 (akCells B), .row g3 (akCells (askAk A))]))), ?_⟩
  refine WL.nil ?_
  refine WE.then_n ?_
  refine WC.seq ?_
  refine WC.region ?_
  refine WL.val (v_move rfl rfl) (.none rfl) rfl rfl ?_
  refine WL.val (v_move rfl rfl) (.none rfl) rfl rfl ?_
  refine WL.val (v_loadN rfl rfl many_44 rfl allAt) (.none rfl) rfl rfl ?_
  refine WL.call rfl rfl ck_18 (.none rfl) rfl rfl ?_
  intro w1 hS
  refine (EmitArp_c (askAk A) hS hE.ip.1 hE.ip.2 hE.tip.1 hE.tip.2).mono ?_
  rintro e w' ⟨g37, hg37, rfl, hS'⟩
  refine ⟨_, _, rfl, hS', ?_⟩
  refine WL.call rfl rfl ck_22 (.none rfl) rfl rfl ?_
  intro w1 hS
  refine (AnswerE_k (E := .row g37 (bcs (arpF (askAk A)) 42) :: E32) (L := [.row g31 (bcs (arpF B) 42), .row g25 (bcs (arpF (repAk (askAk A))) 42), .row g24 (bcs (arpF (askAk A)) 42), .row g4 (akCells B), .row g3 (akCells (askAk A))]) (g := g19) (b := g37) (M := M32) (port := port % 256) (A := askAk A) hS hM32 hm32 (by simp) hE hp hz).mono ?_
  rintro e w' ⟨g38, M38, rfl, hg38, hS', hM38, hs38⟩
  refine ⟨_, _, rfl, (hS' : St _ _ _ (.row g38 (bcs (arpF (repAk (askAk A))) 42) :: (resp g19 M38 ++ (.row g37 (bcs (arpF (askAk A)) 42) :: (E32 ++ [.row g31 (bcs (arpF B) 42), .row g25 (bcs (arpF (repAk (askAk A))) 42), .row g24 (bcs (arpF (askAk A)) 42), .row g4 (akCells B), .row g3 (akCells (askAk A))]))))), ?_⟩
  refine WL.val (v_move rfl rfl) (.none rfl) rfl rfl ?_
  refine WL.val (v_extract rfl rfl rfl) (.none rfl) rfl rfl ?_
  refine WL.val (v_extract rfl rfl rfl) (.none rfl) rfl rfl ?_
  refine WL.val (v_assign rfl rfl) (.none rfl) rfl rfl ?_
  refine WL.val (v_assign rfl rfl) (.none rfl) rfl rfl ?_
  refine WL.nil ?_
  refine WE.then_n ?_
  refine WC.seq ?_
  refine WC.region ?_
  refine WL.val (v_fieldAddr0 rfl rfl fld_44_4) (.none rfl) rfl rfl ?_
  refine WL.val (v_load1 rfl rfl one_28 (cellAt rfl)) (.none rfl) rfl rfl ?_
  refine WL.call rfl rfl ck_21 (.none rfl) rfl rfl ?_
  intro w hS
  refine Calls.then (hK w) hS ?_
  refine WL.val (v_move rfl rfl) (.none rfl) rfl rfl ?_
  refine WL.val (v_extract rfl rfl rfl) (.none rfl) rfl rfl ?_
  refine WL.val (v_extract rfl rfl rfl) (.none rfl) rfl rfl ?_
  refine WL.alloc rfl zero_26 (.none rfl) rfl rfl ?_
  intro g12 hg12
  refine WL.storeW rfl rfl rfl rfl many_26 rfl rfl (.none rfl) rfl ?_
  refine WL.val (v_assign rfl rfl) (.none rfl) rfl rfl ?_
  refine WL.nil ?_
  refine WE.then_n ?_
  refine WC.seq ?_
  refine WC.region ?_
  refine WL.val (v_move rfl rfl) (.none rfl) rfl rfl ?_
  refine WL.val (v_move rfl rfl) (.none rfl) rfl rfl ?_
  refine WL.val ((v_eql rfl rfl rfl).t (by omega)) (.none rfl) rfl rfl ?_
  refine WL.val (v_move rfl rfl) (.none rfl) rfl rfl ?_
  refine WL.val (v_move rfl rfl) (.some rfl rfl rfl) rfl rfl ?_
  refine WL.val ((v_eql rfl rfl rfl).t (by omega)) (.some rfl rfl rfl) rfl rfl ?_
  refine WL.val (v_move rfl rfl) (.some rfl rfl rfl) rfl rfl ?_
  refine WL.val ((v_eql_bool rfl rfl rfl Try.underlying4).t (rfl)) (.some rfl rfl rfl) rfl rfl ?_
  refine WL.val (v_pick_t rfl rfl rfl) (.none rfl) rfl rfl ?_
  refine WL.val (v_move rfl rfl) (.none rfl) rfl rfl ?_
  refine WL.val (v_move rfl rfl) (.some rfl rfl rfl) rfl rfl ?_
  refine WL.val (v_move rfl rfl) (.some rfl rfl rfl) rfl rfl ?_
  refine WL.call rfl rfl ck_15 (.some rfl rfl rfl) rfl rfl ?_
  intro w hS
  refine Calls.then (Same_c w _ _ _ _ _ _ (arpF (repAk (askAk A))) (arpF (repAk (askAk A))) (rdoAt hS rfl) (rdoAt hS rfl) true (by simp)) hS ?_
  refine WL.val (v_pick_t rfl rfl rfl) (.none rfl) rfl rfl ?_
  refine WL.val (v_assign rfl rfl) (.none rfl) rfl rfl ?_
  refine WL.nil ?_
  refine WE.then_n ?_
  refine WC.ret ?_
  refine WE.ret1 (P := Try.prog) (.inl rfl) Try.results7 rfl ?_
  exact fun w' h => ⟨rfl, h.frm⟩
set_option maxHeartbeats 1000000 in
theorem ArpOnce_x (w : World) (A B : Ak) (hA : A.Fits) (hB : B.Fits) (port : Int) (h : A.tip % 2 = 1) :
    Calls Try.prog 7 #[.agg (akCells A).toArray, .agg (akCells B).toArray, .int .i64 port] w fun e w' => e = .returned (.bool true) ∧ Frm (fun _ => False) w w' := by
  have hE := askAk_fits hA
  have hz : ansE (askAk A) = 4 := by
    show (if false = true then 7 else if A.tip % 2 = 1 then 4 else 0) = (4 : Int)
    rw [if_neg (by decide), if_pos h]
  have hK := fun w => known_c w A.tip hA.tip.1 hA.tip.2
  have e1 : knOk A.tip = false := decide_eq_false (by omega)
  rw [e1] at hK
  have hp : 0 ≤ port % 256 ∧ port % 256 ≤ 255 := by omega
  refine enter Try.func7 rfl Try.ntmps7 rfl (St.start (fun _ => False) w) ?_
  refine WC.seq ?_
  refine WC.region ?_
  refine WL.box rfl rfl rfl (.none rfl) rfl rfl ?_
  intro g3 hg3
  refine WL.box rfl rfl rfl (.none rfl) rfl rfl ?_
  intro g4 hg4
  refine WL.val (v_assign rfl rfl) (.none rfl) rfl rfl ?_
  refine WL.nil ?_
  refine WE.then_n ?_
  refine WC.seq ?_
  refine WC.seq ?_
  refine WC.region ?_
  refine WL.call rfl rfl ck_19 (.none rfl) rfl rfl ?_
  intro w hS
  refine Calls.then (arpHead_c w) hS ?_
  refine WL.val (v_not rfl rfl rfl) (.none rfl) rfl rfl ?_
  refine WL.nil ?_
  refine WE.then_n ?_
  refine WC.cond_f rfl ?_
  refine WC.skip ?_
  refine WE.then_n ?_
  refine WC.seq ?_
  refine WC.region ?_
  refine WL.val (v_fieldAddr0 rfl rfl fld_44_0) (.none rfl) rfl rfl ?_
  refine WL.store1 rfl rfl rfl rfl one_4 (Nat.le_of_ble_eq_true rfl) (.none rfl) rfl ?_
  refine WL.as (L' := [.row g4 (akCells B), .row g3 (akCells (askAk A))]) rfl ?_
  refine WL.nil ?_
  refine WE.then_n ?_
  refine WC.seq ?_
  refine WC.region ?_
  refine WL.val (v_move rfl rfl) (.none rfl) rfl rfl ?_
  refine WL.val (v_and rfl rfl rfl (mask_i64' (i := 8) (m := 256) (by decide) (by decide) (by decide))) (.none rfl) rfl rfl ?_
  refine WL.val (v_assign rfl rfl) (.none rfl) rfl rfl ?_
  refine WL.nil ?_
  refine WE.then_n ?_
  refine WC.seq ?_
  refine WC.region ?_
  refine WL.call rfl rfl ck_20 (.none rfl) rfl rfl ?_
  intro w1 hS
  refine (New_c w1 _ _ _ fnV hS (.inr rfl)).mono ?_
  rintro e w' ⟨g19, hg19, rfl, hS'⟩
  refine ⟨_, _, rfl, hS', ?_⟩
  refine WL.val (v_assign rfl rfl) (.none rfl) rfl rfl ?_
  refine WL.nil ?_
  refine WE.then_n ?_
  refine WC.seq ?_
  refine WC.region ?_
  refine WL.val (v_move rfl rfl) (.none rfl) rfl rfl ?_
  refine WL.val (v_move rfl rfl) (.none rfl) rfl rfl ?_
  refine WL.val (v_loadN rfl rfl many_44 rfl allAt) (.none rfl) rfl rfl ?_
  refine WL.call rfl rfl ck_18 (.none rfl) rfl rfl ?_
  intro w1 hS
  refine (EmitArp_c (askAk A) hS hE.ip.1 hE.ip.2 hE.tip.1 hE.tip.2).mono ?_
  rintro e w' ⟨g24, hg24, rfl, hS'⟩
  refine ⟨_, _, rfl, hS', ?_⟩
  refine WL.call rfl rfl ck_22 (.none rfl) rfl rfl ?_
  intro w hS
  refine Calls.then (by have := AnswerE_x (E := [.row g24 (bcs (arpF (askAk A)) 42)]) (L := [.row g4 (akCells B), .row g3 (akCells (askAk A))]) (g := g19) (b := g24) (M := none) (port := port % 256) (A := askAk A) hS (by simp) hE hp (by rw [hz]; decide); rw [hz] at this; exact this) hS ?_
  refine WL.val (v_move rfl rfl) (.none rfl) rfl rfl ?_
  refine WL.val (v_extract rfl rfl rfl) (.none rfl) rfl rfl ?_
  refine WL.val (v_extract rfl rfl rfl) (.none rfl) rfl rfl ?_
  refine WL.val (v_assign rfl rfl) (.none rfl) rfl rfl ?_
  refine WL.val (v_assign rfl rfl) (.none rfl) rfl rfl ?_
  refine WL.nil ?_
  refine WE.then_n ?_
  refine WC.seq ?_
  refine WC.region ?_
  refine WL.val (v_move rfl rfl) (.none rfl) rfl rfl ?_
  refine WL.val (v_move rfl rfl) (.none rfl) rfl rfl ?_
  refine WL.val (v_loadN rfl rfl many_44 rfl allAt) (.none rfl) rfl rfl ?_
  refine WL.call rfl rfl ck_18 (.none rfl) rfl rfl ?_
  intro w1 hS
  refine (EmitArp_c B hS hB.ip.1 hB.ip.2 hB.tip.1 hB.tip.2).mono ?_
  rintro e w' ⟨g31, hg31, rfl, hS'⟩
  refine ⟨_, _, rfl, hS', ?_⟩
  refine WL.call rfl rfl ck_22 (.none rfl) rfl rfl ?_
  intro w1 hS
  refine (AnswerE_any (E := [.row g31 (bcs (arpF B) 42), .row g24 (bcs (arpF (askAk A)) 42)]) (L := [.row g4 (akCells B), .row g3 (akCells (askAk A))]) (g := g19) (b := g31) (M := none) (port := port % 256) (A := B) hS (IMap.empty _) Macs.empty (by simp) hB hp).mono ?_
  rintro e w' ⟨v32, M32, m32, E32, rfl, hS', hM32, hm32⟩
  refine ⟨_, _, rfl, (hS' : St _ _ _ (E32 ++ (resp g19 M32 ++ [.row g31 (bcs (arpF B) 42), .row g24 (bcs (arpF (askAk A)) 42), .row g4 (akCells B), .row g3 (akCells (askAk A))]))), ?_⟩
  refine WL.nil ?_
  refine WE.then_n ?_
  refine WC.seq ?_
  refine WC.region ?_
  refine WL.val (v_move rfl rfl) (.none rfl) rfl rfl ?_
  refine WL.val (v_move rfl rfl) (.none rfl) rfl rfl ?_
  refine WL.val (v_loadN rfl rfl many_44 rfl allAt) (.none rfl) rfl rfl ?_
  refine WL.call rfl rfl ck_18 (.none rfl) rfl rfl ?_
  intro w1 hS
  refine (EmitArp_c (askAk A) hS hE.ip.1 hE.ip.2 hE.tip.1 hE.tip.2).mono ?_
  rintro e w' ⟨g37, hg37, rfl, hS'⟩
  refine ⟨_, _, rfl, hS', ?_⟩
  refine WL.call rfl rfl ck_22 (.none rfl) rfl rfl ?_
  intro w hS
  refine Calls.then (by have := AnswerE_x (E := .row g37 (bcs (arpF (askAk A)) 42) :: E32) (L := [.row g31 (bcs (arpF B) 42), .row g24 (bcs (arpF (askAk A)) 42), .row g4 (akCells B), .row g3 (akCells (askAk A))]) (g := g19) (b := g37) (M := M32) (port := port % 256) (A := askAk A) hS (by simp) hE hp (by rw [hz]; decide); rw [hz] at this; exact this) hS ?_
  refine WL.val (v_move rfl rfl) (.none rfl) rfl rfl ?_
  refine WL.val (v_extract rfl rfl rfl) (.none rfl) rfl rfl ?_
  refine WL.val (v_extract rfl rfl rfl) (.none rfl) rfl rfl ?_
  refine WL.val (v_assign rfl rfl) (.none rfl) rfl rfl ?_
  refine WL.val (v_assign rfl rfl) (.none rfl) rfl rfl ?_
  refine WL.nil ?_
  refine WE.then_n ?_
  refine WC.seq ?_
  refine WC.region ?_
  refine WL.val (v_fieldAddr0 rfl rfl fld_44_4) (.none rfl) rfl rfl ?_
  refine WL.val (v_load1 rfl rfl one_28 (cellAt rfl)) (.none rfl) rfl rfl ?_
  refine WL.call rfl rfl ck_21 (.none rfl) rfl rfl ?_
  intro w hS
  refine Calls.then (hK w) hS ?_
  refine WL.val (v_move rfl rfl) (.none rfl) rfl rfl ?_
  refine WL.val (v_extract rfl rfl rfl) (.none rfl) rfl rfl ?_
  refine WL.val (v_extract rfl rfl rfl) (.none rfl) rfl rfl ?_
  refine WL.alloc rfl zero_26 (.none rfl) rfl rfl ?_
  intro g12 hg12
  refine WL.storeW rfl rfl rfl rfl many_26 rfl rfl (.none rfl) rfl ?_
  refine WL.val (v_assign rfl rfl) (.none rfl) rfl rfl ?_
  refine WL.nil ?_
  refine WE.then_n ?_
  refine WC.seq ?_
  refine WC.region ?_
  refine WL.val (v_move rfl rfl) (.none rfl) rfl rfl ?_
  refine WL.val (v_move rfl rfl) (.none rfl) rfl rfl ?_
  refine WL.val ((v_eql rfl rfl rfl).t (by omega)) (.none rfl) rfl rfl ?_
  refine WL.val (v_move rfl rfl) (.none rfl) rfl rfl ?_
  refine WL.val (v_move rfl rfl) (.some rfl rfl rfl) rfl rfl ?_
  refine WL.val ((v_eql rfl rfl rfl).f (by omega)) (.some rfl rfl rfl) rfl rfl ?_
  refine WL.val (v_move rfl rfl) (.some rfl rfl rfl) rfl rfl ?_
  refine WL.val ((v_eql_bool rfl rfl rfl Try.underlying4).t (rfl)) (.some rfl rfl rfl) rfl rfl ?_
  refine WL.val (v_pick_t rfl rfl rfl) (.none rfl) rfl rfl ?_
  refine WL.val (v_move rfl rfl) (.none rfl) rfl rfl ?_
  refine WL.val (v_move rfl rfl) (.some rfl rfl rfl) rfl rfl ?_
  refine WL.val (v_move rfl rfl) (.some rfl rfl rfl) rfl rfl ?_
  refine WL.call rfl rfl ck_15 (.some rfl rfl rfl) rfl rfl ?_
  intro w hS
  refine Calls.then (Same_c w _ _ _ _ _ _ (fun _ => 0) (fun _ => 0) (fun h => absurd h (by omega)) (fun h => absurd h (by omega)) true (by simp)) hS ?_
  refine WL.val (v_pick_t rfl rfl rfl) (.none rfl) rfl rfl ?_
  refine WL.val (v_assign rfl rfl) (.none rfl) rfl rfl ?_
  refine WL.nil ?_
  refine WE.then_n ?_
  refine WC.ret ?_
  refine WE.ret1 (P := Try.prog) (.inl rfl) Try.results7 rfl ?_
  exact fun w' h => ⟨rfl, h.frm⟩
end Go.Proofs.Ytpjjlggonpbegaa
