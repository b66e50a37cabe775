/- Texts joined: engine, contracts and laws, in the order in which they build. -/
import Derived.Test.YtpjbofodllhjbaaDoorRows
import Derived.Lib.LaidTab
import Derived.Test.YtpjbofodllhjbaaDoorBeStreamFeeds
/- carrefourref07.Decode, walked (printed by gen/rej.py). -/
namespace Go.Proofs.YtpjbofodllhjbaaDoor
open Go.RowKit

def RMsP (w w' : World) (xs : List Int) (e : Ending) : Prop :=
  match decM xs with
  | .inr (c, s, d) => e = .returned (.tuple #[.agg (MsL.zero 0).rcells.toArray, .agg (fltL c s d).toArray]) ∧ Frm (fun _ => False) w w'
  | .inl md => ∃ m K, e = .returned (.tuple #[.agg m.rcells.toArray, .agg (fltL 0 0 ⟨#[]⟩).toArray]) ∧ m.d = md ∧ MsAll K m ∧ St (fun _ => False) w w' K
theorem RMsP.no {w w' : World} {xs : List Int} {c s : Int} {d : ByteArray} {L : List Ent} (h : decM xs = .inr (c, s, d)) (hS : St (fun _ => False) w w' L) : RMsP w w' xs (.returned (.tuple #[.agg (MsL.zero 0).rcells.toArray, .agg (fltL c s d).toArray])) := by
  unfold RMsP
  rw [h]
  exact ⟨rfl, hS.frm⟩
theorem RDec06_u (w : World) (b o cv : Nat) (xs : List Int) (hW : Win w b o cv xs) (hn : xs.length ≤ 90000) :
    Calls Tryd.prog 44 #[.slice (some ⟨b, o, none⟩) xs.length cv] w fun e w' => ∃ (ok : Bool) (s : Int) (d : ByteArray) (a : AtL) (K : List Ent), e = .returned (.tuple #[.agg a.rcells.toArray, .agg (fltL (if ok then 0 else 3) s d).toArray]) ∧ AtAll K a ∧ St (fun _ => False) w w' K ∧
      (ok = false → decD AtL.zero.d [] xs = .inr (s, d)) ∧ (ok = true → s = 0 ∧ d = ⟨#[]⟩ ∧ ∃ dd, decD AtL.zero.d [] xs = .inl dd ∧ a.d = { dd with others := sortO dd.others }) :=
  (RDec06_c w b o cv xs hW hn).mono fun e w' h => by
    unfold RDecP at h
    cases hp : decD AtL.zero.d [] xs with
    | inr x =>
      obtain ⟨s, d⟩ := x
      rw [hp] at h
      exact ⟨false, s, d, .zero, [], h.1, AtAll.zero, (St.start _ _).ext h.2, fun _ => rfl, fun e => by cases e⟩
    | inl dd =>
      rw [hp] at h
      obtain ⟨a, K, he, ha, hA, hS⟩ := h
      exact ⟨true, 0, ⟨#[]⟩, a, K, he, hA, hS, (fun e => by cases e), fun _ => ⟨rfl, rfl, dd, rfl, ha⟩⟩
theorem RRead_u (w0 : World) (b o c : Nat) (xs : List Int) (hW : Win w0 b o c xs) (hn : xs.length ≤ 100000) :
    Calls Tryd.prog 43 #[.slice (some ⟨b, o, none⟩) xs.length c] w0 fun e w' => ∃ (ps : List PfL) (ad : Option Addr) (c' : Nat) (E : List Ent) (ok : Bool), e = .returned (.tuple #[.slice ad ps.length c', .bool ok]) ∧ Vec 2 ad ps.length c' (pfsL ps) E ∧ St (fun _ => False) w0 w' E ∧ (ok = false → netsR xs = none) ∧ (ok = true → netsR xs = some ps) :=
  (RRead_c w0 b o c xs hW hn).mono fun e w' h => by
    unfold ReadP at h
    cases hp : netsR xs with
    | none =>
      rw [hp] at h
      exact ⟨[], none, 0, [], false, h.1, Vec.nil 2, (St.start _ _).ext h.2, fun _ => rfl, fun e => by cases e⟩
    | some ps =>
      rw [hp] at h
      obtain ⟨ad, c', E, he, hV, hS⟩ := h
      exact ⟨ps, ad, c', E, true, he, hV, hS, (fun e => by cases e), fun _ => rfl⟩
theorem addrI_of {ys : List Int} (k : Nat) : addrI ((ys.take (k + 4)).drop k) = fOf ys k * 16777216 + fOf ys (k + 1) * 65536 + fOf ys (k + 2) * 256 + fOf ys (k + 3) := by
  have h : ∀ i, i < 4 → fOf ((ys.take (k + 4)).drop k) i = fOf ys (k + i) := fun i hi => by
    rw [fOf_drop]
    unfold fOf
    rw [List.getD_eq_getElem?_getD, List.getD_eq_getElem?_getD, List.getElem?_take, if_pos (by omega)]
  unfold addrI
  rw [h 0 (by omega), h 1 (by omega), h 2 (by omega), h 3 (by omega)]
  rfl
theorem decD_seen {xs : List Int} {dd : AtD} (h : decD AtL.zero.d [] xs = .inl dd) (hB : Bys xs) : 0 ≤ dd.has ∧ dd.has ≤ 511 := by
  obtain ⟨_, seen', hS⟩ := decD_good xs.length xs.length AtL.zero.d [] xs (Nat.le_refl _) (Nat.le_refl _) hB SeenI.zero (AtG.zero _) h
  exact ⟨hS.h0, hS.h1⟩
structure RoS where
  k : Nat
  cs : List CapL
  ad : Option Addr
  kc : Nat
  E : List Ent
  KO : List Ent
theorem RDecBad_c (w0 : World) (b o c : Nat) (xs : List Int) (hW : Win w0 b o c xs) (hn : xs.length ≤ 90000) (C S : Int) (d : ByteArray) (hs : sizeR xs.length (fOf xs) = (0, C, S, d)) (hC : C ≠ 0) :
    Calls Tryd.prog 18 #[.slice (some ⟨b, o, none⟩) xs.length c] w0 fun e w' => RMsP w0 w' xs e := by
  have hle := hW.le
  have e00 : decM xs = .inr (C, S, d) := by unfold decM; rw [hs]; exact if_pos hC
  refine enter Tryd.func18 rfl Tryd.ntmps18 rfl (St.start (fun _ => False) w0) ?_
  refine WC.seq ?_
  refine WC.region ?_
  refine WL.alloc rfl zero_53 (.none rfl) rfl rfl ?_
  intro g2 hg2
  refine WL.alloc rfl zero_28 (.none rfl) rfl rfl ?_
  intro g3 hg3
  refine WL.nil ?_
  refine WE.then_n ?_
  refine WC.seq ?_
  refine WC.region ?_
  refine WL.val (v_move rfl rfl) (.none rfl) rfl rfl ?_
  refine WL.call rfl rfl ck_15 (.none rfl) rfl rfl ?_
  intro w hS
  refine Calls.then (by rw [show (Ending.returned (.tuple #[.int .i64 0, .agg (fltL C S d).toArray])) = .returned (sizeV (sizeR xs.length (fOf xs))) by rw [hs]; rfl]; exact RSize_c w (some ⟨b, o, none⟩) xs.length c (fOf xs) (fOf_byt hW.bys) (fun _ => ⟨b, o, rfl, rd_u8s (hW.st hS).at_⟩) (by omega) hle) hS ?_
  refine WL.val (v_move rfl rfl) (.none rfl) rfl rfl ?_
  refine WL.val (v_extract rfl rfl rfl) (.none rfl) rfl rfl ?_
  refine WL.val (v_extract rfl rfl rfl) (.none rfl) rfl rfl ?_
  refine WL.alloc rfl zero_28 (.none rfl) rfl rfl ?_
  intro g5 hg5
  refine WL.val (v_assign rfl rfl) (.none rfl) rfl rfl ?_
  refine WL.storeW rfl rfl rfl rfl many_28 rfl rfl (.none rfl) rfl ?_
  refine WL.nil ?_
  refine WE.then_n ?_
  refine WC.seq ?_
  refine WC.seq ?_
  refine WC.region ?_
  refine WL.val (v_fieldAddr0 rfl rfl fld_28_0) (.none rfl) rfl rfl ?_
  refine WL.val (v_load1 rfl rfl one_3 (cellAt rfl)) (.none rfl) rfl rfl ?_
  refine WL.val ((v_neq rfl rfl rfl).t (hC)) (.none rfl) rfl rfl ?_
  refine WL.nil ?_
  refine WE.then_n ?_
  refine WC.cond_t rfl ?_
  refine WC.seq ?_
  refine WC.orders mixed ?_
  refine WR.first (g := 3) [0] (by kernel_rfl) (by kernel_rfl) ?_
  refine WP.val (v_build rfl rfl zero_53 plc_53 rfl) (.none rfl) rfl rfl ?_
  refine WP.nil ?_
  refine WR.each (g := 2) [1, 2] (by kernel_rfl) (by decide) ?_
  refine ⟨?_, ?_⟩
  ·
   refine WL.val (v_loadN rfl rfl many_28 rfl allAt) (.none rfl) rfl rfl ?_
   refine WL.nilR ?_
   refine WR.ones (g := 0) [2, 3] (by kernel_rfl) ?_
   refine WL.storeW rfl rfl rfl rfl many_53 rfl rfl (.none rfl) rfl ?_
   refine WL.storeW rfl rfl rfl rfl many_28 rfl rfl (.none rfl) rfl ?_
   refine WL.nilR ?_
   refine WR.done (by kernel_rfl) ?_
   refine WE.then_n ?_
   refine WC.ret ?_
   refine WE.then_ret ?_
   refine WE.ret2 (P := Tryd.prog) (.inl rfl) Tryd.results18 (resRow rfl many_53 rfl) (resRow rfl many_28 rfl) ?_
   exact fun w' h => RMsP.no e00 h
  ·
   refine WL.storeW rfl rfl rfl rfl many_53 rfl rfl (.none rfl) rfl ?_
   refine WL.nilR ?_
   refine WR.read (g := 1) [1] (by kernel_rfl) (by kernel_rfl) (by kernel_rfl) (by kernel_rfl) rfl ?_
   refine WQ.val (v_loadN rfl rfl many_28 rfl allAt) (.none rfl) rfl rfl ?_
   refine WQ.nilR ?_
   refine WR.ones (g := 0) [3] (by kernel_rfl) ?_
   refine WL.storeW rfl rfl rfl rfl many_28 rfl rfl (.none rfl) rfl ?_
   refine WL.nilR ?_
   refine WR.done (by kernel_rfl) ?_
   refine WE.then_n ?_
   refine WC.ret ?_
   refine WE.then_ret ?_
   refine WE.ret2 (P := Tryd.prog) (.inl rfl) Tryd.results18 (resRow rfl many_53 rfl) (resRow rfl many_28 rfl) ?_
   exact fun w' h => RMsP.no e00 h
theorem RDecLong_c (w0 : World) (b o c : Nat) (xs : List Int) (hW : Win w0 b o c xs) (hn : xs.length ≤ 90000) (h19 : 19 ≤ xs.length) (hs : sizeR xs.length (fOf xs) = (lenI (fOf xs), 0, 0, ⟨#[]⟩)) (hk : lenI (fOf xs) ≠ xs.length) :
    Calls Tryd.prog 18 #[.slice (some ⟨b, o, none⟩) xs.length c] w0 fun e w' => RMsP w0 w' xs e := by
  have hle := hW.le
  have e00 : decM xs = .inr (1, 2, str (fun i => fOf xs (16 + i)) 2) := by unfold decM; rw [hs]; dsimp only; rw [if_neg (by simp), if_pos hk]
  refine enter Tryd.func18 rfl Tryd.ntmps18 rfl (St.start (fun _ => False) w0) ?_
  refine WC.seq ?_
  refine WC.region ?_
  refine WL.alloc rfl zero_53 (.none rfl) rfl rfl ?_
  intro g2 hg2
  refine WL.alloc rfl zero_28 (.none rfl) rfl rfl ?_
  intro g3 hg3
  refine WL.nil ?_
  refine WE.then_n ?_
  refine WC.seq ?_
  refine WC.region ?_
  refine WL.val (v_move rfl rfl) (.none rfl) rfl rfl ?_
  refine WL.call rfl rfl ck_15 (.none rfl) rfl rfl ?_
  intro w hS
  refine Calls.then (by rw [show (Ending.returned (.tuple #[.int .i64 (lenI (fOf xs)), .agg (fltL 0 0 ⟨#[]⟩).toArray])) = .returned (sizeV (sizeR xs.length (fOf xs))) by rw [hs]; rfl]; exact RSize_c w (some ⟨b, o, none⟩) xs.length c (fOf xs) (fOf_byt hW.bys) (fun _ => ⟨b, o, rfl, rd_u8s (hW.st hS).at_⟩) (by omega) hle) hS ?_
  refine WL.val (v_move rfl rfl) (.none rfl) rfl rfl ?_
  refine WL.val (v_extract rfl rfl rfl) (.none rfl) rfl rfl ?_
  refine WL.val (v_extract rfl rfl rfl) (.none rfl) rfl rfl ?_
  refine WL.alloc rfl zero_28 (.none rfl) rfl rfl ?_
  intro g5 hg5
  refine WL.val (v_assign rfl rfl) (.none rfl) rfl rfl ?_
  refine WL.storeW rfl rfl rfl rfl many_28 rfl rfl (.none rfl) rfl ?_
  refine WL.nil ?_
  refine WE.then_n ?_
  refine WC.seq ?_
  refine WC.seq ?_
  refine WC.region ?_
  refine WL.val (v_fieldAddr0 rfl rfl fld_28_0) (.none rfl) rfl rfl ?_
  refine WL.val (v_load1 rfl rfl one_3 (cellAt rfl)) (.none rfl) rfl rfl ?_
  refine WL.val ((v_neq rfl rfl rfl).f (by omega)) (.none rfl) rfl rfl ?_
  refine WL.nil ?_
  refine WE.then_n ?_
  refine WC.cond_f rfl ?_
  refine WC.skip ?_
  refine WE.then_n ?_
  refine WC.seq ?_
  refine WC.seq ?_
  refine WC.region ?_
  refine WL.val (v_move rfl rfl) (.none rfl) rfl rfl ?_
  refine WL.val (v_move rfl rfl) (.none rfl) rfl rfl ?_
  refine WL.val (v_len_slice rfl rfl Tryd.underlying22) (.none rfl) rfl rfl ?_
  refine WL.val ((v_neq rfl rfl rfl).t (hk)) (.none rfl) rfl rfl ?_
  refine WL.nil ?_
  refine WE.then_n ?_
  refine WC.cond_t rfl ?_
  refine WC.seq ?_
  refine WC.region ?_
  refine WL.val (v_build rfl rfl zero_53 plc_53 rfl) (.none rfl) rfl rfl ?_
  refine WL.val (v_move rfl rfl) (.none rfl) rfl rfl ?_
  refine WL.val ((v_slice_lh (lo := 16) (hi := 18) rfl rfl rfl rfl Tryd.underlying22 sz_5 rfl rfl (by omega) (by omega))) (.none rfl) rfl rfl ?_
  refine WL.call rfl rfl ck_40 (.none rfl) rfl rfl ?_
  intro w hS
  refine Calls.then (RFault_c w 1 2 (some ⟨b, sAddr o 16 c 1, none⟩) (18 - 16) (c - 16) (fun i => fOf xs (16 + i)) (fun _ => ⟨b, sAddr o 16 c 1, rfl, fun i hi => by
  have := ((hW.st hS).drop 16).get (i := i) (x := fOf xs (16 + i)) (by rw [List.getElem?_drop]; exact fOf_get (by omega))
  rwa [Nat.mul_one] at this⟩)) hS ?_
  refine WL.storeW rfl rfl rfl rfl many_53 rfl rfl (.none rfl) rfl ?_
  refine WL.storeW rfl rfl rfl rfl many_28 rfl rfl (.none rfl) rfl ?_
  refine WL.nil ?_
  refine WE.then_n ?_
  refine WC.ret ?_
  refine WE.then_ret ?_
  refine WE.ret2 (P := Tryd.prog) (.inl rfl) Tryd.results18 (resRow rfl many_53 rfl) (resRow rfl many_28 rfl) ?_
  exact fun w' h => RMsP.no e00 h
set_option maxHeartbeats 8000000 in
theorem RDecOk_c (w0 : World) (b o c : Nat) (xs : List Int) (hW : Win w0 b o c xs) (hn : xs.length ≤ 90000) (hs : sizeR xs.length (fOf xs) = ((xs.length : Int), 0, 0, ⟨#[]⟩)) (h19 : 19 ≤ xs.length) (h18 : 1 ≤ fOf xs 18 ∧ fOf xs 18 ≤ 4) (hle2 : leastI (fOf xs 18) ≤ xs.length) :
    Calls Tryd.prog 18 #[.slice (some ⟨b, o, none⟩) xs.length c] w0 fun e w' => RMsP w0 w' xs e := by
  have hle := hW.le
  obtain ⟨ys, hys⟩ : ∃ ys, ys = xs.drop 19 := ⟨_, rfl⟩
  have e00 : decM xs = bodyM (fOf xs 18) ys := by rw [hys]; unfold decM; rw [hs]; dsimp only; rw [if_neg (by simp), if_neg (by simp)]
  have hdl : ys.length = xs.length - 19 := by rw [hys]; exact List.length_drop ..
  have hlst : leastI (fOf xs 18) = if fOf xs 18 = 1 then 29 else if fOf xs 18 = 2 then 23 else if fOf xs 18 = 3 then 21 else 19 := by unfold leastI; repeat' split; all_goals first | rfl | omega
  have hBy : Bys ys := fun y hy => hW.bys y (by rw [hys] at hy; exact List.mem_of_mem_drop hy)
  have hb : ∀ i, 0 ≤ fOf ys i ∧ fOf ys i ≤ 255 := fun i => fOf_b hBy i
  have hfx : ∀ i, fOf ys i = fOf xs (19 + i) := fun i => by rw [hys]; exact fOf_drop ..
  have hg : ∀ i, 19 + i < xs.length → xs[19 + i]? = some (fOf ys i) := fun i hi => by rw [hfx]; exact fOf_get hi
  have hgc : ∀ (w : World) (L : List Ent) (i : Nat), 19 + i < xs.length → St (fun _ => False) w0 w L → w.cell? ⟨b, o + (19 + i) * 1, none⟩ = some (.int .u8 (fOf ys i)) := fun w L i hi hS => (hW.st hS).get (hg i hi)
  refine enter Tryd.func18 rfl Tryd.ntmps18 rfl (St.start (fun _ => False) w0) ?_
  refine WC.seq ?_
  refine WC.region ?_
  refine WL.alloc rfl zero_53 (.none rfl) rfl rfl ?_
  intro g2 hg2
  refine WL.alloc rfl zero_28 (.none rfl) rfl rfl ?_
  intro g3 hg3
  refine WL.nil ?_
  refine WE.then_n ?_
  refine WC.seq ?_
  refine WC.region ?_
  refine WL.val (v_move rfl rfl) (.none rfl) rfl rfl ?_
  refine WL.call rfl rfl ck_15 (.none rfl) rfl rfl ?_
  intro w hS
  refine Calls.then (by rw [show (Ending.returned (.tuple #[.int .i64 xs.length, .agg (fltL 0 0 ⟨#[]⟩).toArray])) = .returned (sizeV (sizeR xs.length (fOf xs))) by rw [hs]; rfl]; exact RSize_c w (some ⟨b, o, none⟩) xs.length c (fOf xs) (fOf_byt hW.bys) (fun _ => ⟨b, o, rfl, rd_u8s (hW.st hS).at_⟩) (by omega) hle) hS ?_
  refine WL.val (v_move rfl rfl) (.none rfl) rfl rfl ?_
  refine WL.val (v_extract rfl rfl rfl) (.none rfl) rfl rfl ?_
  refine WL.val (v_extract rfl rfl rfl) (.none rfl) rfl rfl ?_
  refine WL.alloc rfl zero_28 (.none rfl) rfl rfl ?_
  intro g5 hg5
  refine WL.val (v_assign rfl rfl) (.none rfl) rfl rfl ?_
  refine WL.storeW rfl rfl rfl rfl many_28 rfl rfl (.none rfl) rfl ?_
  refine WL.nil ?_
  refine WE.then_n ?_
  refine WC.seq ?_
  refine WC.seq ?_
  refine WC.region ?_
  refine WL.val (v_fieldAddr0 rfl rfl fld_28_0) (.none rfl) rfl rfl ?_
  refine WL.val (v_load1 rfl rfl one_3 (cellAt rfl)) (.none rfl) rfl rfl ?_
  refine WL.val ((v_neq rfl rfl rfl).f (by omega)) (.none rfl) rfl rfl ?_
  refine WL.nil ?_
  refine WE.then_n ?_
  refine WC.cond_f rfl ?_
  refine WC.skip ?_
  refine WE.then_n ?_
  refine WC.seq ?_
  refine WC.seq ?_
  refine WC.region ?_
  refine WL.val (v_move rfl rfl) (.none rfl) rfl rfl ?_
  refine WL.val (v_move rfl rfl) (.none rfl) rfl rfl ?_
  refine WL.val (v_len_slice rfl rfl Tryd.underlying22) (.none rfl) rfl rfl ?_
  refine WL.val ((v_neq rfl rfl rfl).f (by omega)) (.none rfl) rfl rfl ?_
  refine WL.nil ?_
  refine WE.then_n ?_
  refine WC.cond_f rfl ?_
  refine WC.skip ?_
  refine WE.then_n ?_
  refine WC.seq ?_
  refine WC.region ?_
  refine WL.val (v_move rfl rfl) (.none rfl) rfl rfl ?_
  refine WL.val (v_indexAddr (lo := 18) rfl rfl rfl Tryd.underlying22 sz_5 rfl (by omega)) (.none rfl) rfl rfl ?_
  refine WL.val (v_load1 rfl rfl one_5 (cellOld (fun h => h) (hW.get (fOf_get (by omega))))) (.none rfl) rfl rfl ?_
  refine WL.val (v_conv rfl rfl Tryd.underlying3 Tryd.underlying5 (w_i64 (by omega) (by omega))) (.none rfl) rfl rfl ?_
  refine WL.val (v_build rfl rfl zero_53 plc_53 rfl) (.none rfl) rfl rfl ?_
  refine WL.alloc rfl zero_53 (.none rfl) rfl rfl ?_
  intro g6 hg6
  refine WL.storeW rfl rfl rfl rfl many_53 rfl rfl (.none rfl) rfl ?_
  refine WL.as (L' := .row g6 (MsL.zero (fOf xs 18)).rcells :: .row g5 (fltL 0 0 ⟨#[]⟩) :: .row g3 (fltL 0 0 ⟨#[]⟩) :: [.row g2 (MsL.zero 0).rcells]) rfl ?_
  refine WL.nil ?_
  refine WE.then_n ?_
  refine WC.seq ?_
  refine WC.seq ?_
  refine WC.region ?_
  refine WL.val (v_fieldAddr0 rfl rfl fld_53_0) (.none rfl) rfl rfl ?_
  refine WL.val (v_load1 rfl rfl one_3 (cellAt (v := .int .i64 (fOf xs 18)) rfl)) (.none rfl) rfl rfl ?_
  refine WL.test (v_eql rfl rfl rfl) (.none rfl) rfl rfl (fun h42 => ?_) (fun h42 => ?_)
  ·
   refine WL.nil ?_
   refine WE.then_n ?_
   refine WC.cond_t rfl ?_
   refine WC.seq ?_
   refine WC.orders mixed ?_
   refine WR.first (g := 8) [0, 1, 5, 6] (by kernel_rfl) (by kernel_rfl) ?_
   have hl29 : 29 ≤ xs.length := (by rw [hlst, if_pos h42] at hle2; omega)
   have hno : ∀ s d, openR ys = .inr (s, d) → decM xs = .inr (2, s, d) := (fun s d h => by rw [e00]; unfold bodyM; rw [if_pos h42, h])
   have hid : idB ys = fOf ys 5 * 16777216 + fOf ys 6 * 65536 + fOf ys 7 * 256 + fOf ys 8 := addrI_of (ys := ys) 5
   have b1 := hb 1
   have b2 := hb 2
   have b3 := hb 3
   have b4 := hb 4
   have b5 := hb 5
   have b6 := hb 6
   have b7 := hb 7
   have b8 := hb 8
   have b9 := hb 9
   refine WP.val (v_move rfl rfl) (.none rfl) rfl rfl ?_
   refine WP.val (v_indexAddr (lo := 20) rfl rfl rfl Tryd.underlying22 sz_5 rfl (by omega)) (.none rfl) rfl rfl ?_
   refine WP.val (v_move rfl rfl) (.none rfl) rfl rfl ?_
   refine WP.val (v_indexAddr (lo := 21) rfl rfl rfl Tryd.underlying22 sz_5 rfl (by omega)) (.none rfl) rfl rfl ?_
   refine WP.nil ?_
   refine WR.read (g := 1) [2, 3, 4, 7, 8, 9, 10] (by kernel_rfl) (by kernel_rfl) (by kernel_rfl) (by kernel_rfl) rfl ?_
   refine WQ.val (v_load1 rfl rfl one_5 ((fun w hS => hgc w _ 1 (by omega) hS))) (.none rfl) rfl rfl ?_
   refine WQ.val (v_conv rfl rfl Tryd.underlying3 Tryd.underlying5 (w_i64 (by omega) (by omega))) (.none rfl) rfl rfl ?_
   refine WQ.val (v_mul rfl rfl rfl (w_i64 (by omega) (by omega))) (.none rfl) rfl rfl ?_
   refine WQ.val (v_load1 rfl rfl one_5 ((fun w hS => hgc w _ 2 (by omega) hS))) (.none rfl) rfl rfl ?_
   refine WQ.val (v_conv rfl rfl Tryd.underlying3 Tryd.underlying5 (w_i64 (by omega) (by omega))) (.none rfl) rfl rfl ?_
   refine WQ.val (v_add rfl rfl rfl (w_i64 (by omega) (by omega))) (.none rfl) rfl rfl ?_
   refine WQ.val (v_fieldAddr0 rfl rfl fld_53_1) (.none rfl) rfl rfl ?_
   refine WQ.nilR ?_
   refine WR.ones (g := 0) [11] (by kernel_rfl) ?_
   refine WL.store1 rfl rfl rfl rfl one_3 (Nat.le_of_ble_eq_true rfl) (.none rfl) rfl ?_
   refine WL.nilR ?_
   refine WR.done (by kernel_rfl) ?_
   refine WE.then_n ?_
   refine WC.seq ?_
   refine WC.orders mixed ?_
   refine WR.first (g := 8) [0, 1, 5, 6] (by kernel_rfl) (by kernel_rfl) ?_
   refine WP.val (v_move rfl rfl) (.none rfl) rfl rfl ?_
   refine WP.val (v_indexAddr (lo := 22) rfl rfl rfl Tryd.underlying22 sz_5 rfl (by omega)) (.none rfl) rfl rfl ?_
   refine WP.val (v_move rfl rfl) (.none rfl) rfl rfl ?_
   refine WP.val (v_indexAddr (lo := 23) rfl rfl rfl Tryd.underlying22 sz_5 rfl (by omega)) (.none rfl) rfl rfl ?_
   refine WP.nil ?_
   refine WR.read (g := 1) [2, 3, 4, 7, 8, 9, 10] (by kernel_rfl) (by kernel_rfl) (by kernel_rfl) (by kernel_rfl) rfl ?_
   refine WQ.val (v_load1 rfl rfl one_5 ((fun w hS => hgc w _ 3 (by omega) hS))) (.none rfl) rfl rfl ?_
   refine WQ.val (v_conv rfl rfl Tryd.underlying3 Tryd.underlying5 (w_i64 (by omega) (by omega))) (.none rfl) rfl rfl ?_
   refine WQ.val (v_mul rfl rfl rfl (w_i64 (by omega) (by omega))) (.none rfl) rfl rfl ?_
   refine WQ.val (v_load1 rfl rfl one_5 ((fun w hS => hgc w _ 4 (by omega) hS))) (.none rfl) rfl rfl ?_
   refine WQ.val (v_conv rfl rfl Tryd.underlying3 Tryd.underlying5 (w_i64 (by omega) (by omega))) (.none rfl) rfl rfl ?_
   refine WQ.val (v_add rfl rfl rfl (w_i64 (by omega) (by omega))) (.none rfl) rfl rfl ?_
   refine WQ.val (v_fieldAddr0 rfl rfl fld_53_2) (.none rfl) rfl rfl ?_
   refine WQ.nilR ?_
   refine WR.ones (g := 0) [11] (by kernel_rfl) ?_
   refine WL.store1 rfl rfl rfl rfl one_3 (Nat.le_of_ble_eq_true rfl) (.none rfl) rfl ?_
   refine WL.nilR ?_
   refine WR.done (by kernel_rfl) ?_
   refine WE.then_n ?_
   refine WC.seq ?_
   refine WC.orders mixed ?_
   refine WR.first (g := 16) [0, 1, 5, 6, 11, 12, 17, 18] (by kernel_rfl) (by kernel_rfl) ?_
   refine WP.val (v_move rfl rfl) (.none rfl) rfl rfl ?_
   refine WP.val (v_indexAddr (lo := 24) rfl rfl rfl Tryd.underlying22 sz_5 rfl (by omega)) (.none rfl) rfl rfl ?_
   refine WP.val (v_move rfl rfl) (.none rfl) rfl rfl ?_
   refine WP.val (v_indexAddr (lo := 25) rfl rfl rfl Tryd.underlying22 sz_5 rfl (by omega)) (.none rfl) rfl rfl ?_
   refine WP.val (v_move rfl rfl) (.none rfl) rfl rfl ?_
   refine WP.val (v_indexAddr (lo := 26) rfl rfl rfl Tryd.underlying22 sz_5 rfl (by omega)) (.none rfl) rfl rfl ?_
   refine WP.val (v_move rfl rfl) (.none rfl) rfl rfl ?_
   refine WP.val (v_indexAddr (lo := 27) rfl rfl rfl Tryd.underlying22 sz_5 rfl (by omega)) (.none rfl) rfl rfl ?_
   refine WP.nil ?_
   refine WR.read (g := 1) [2, 3, 4, 7, 8, 9, 10, 13, 14, 15, 16, 19, 20, 21, 22] (by kernel_rfl) (by kernel_rfl) (by kernel_rfl) (by kernel_rfl) rfl ?_
   refine WQ.val (v_load1 rfl rfl one_5 ((fun w hS => hgc w _ 5 (by omega) hS))) (.none rfl) rfl rfl ?_
   refine WQ.val (v_conv rfl rfl Tryd.underlying33 Tryd.underlying5 (by first | exact w_u32 (by omega) (by omega) | exact w_u32m _)) (.none rfl) rfl rfl ?_
   refine WQ.val (v_mul rfl rfl rfl (w_u32 (by omega) (by omega))) (.none rfl) rfl rfl ?_
   refine WQ.val (v_load1 rfl rfl one_5 ((fun w hS => hgc w _ 6 (by omega) hS))) (.none rfl) rfl rfl ?_
   refine WQ.val (v_conv rfl rfl Tryd.underlying33 Tryd.underlying5 (by first | exact w_u32 (by omega) (by omega) | exact w_u32m _)) (.none rfl) rfl rfl ?_
   refine WQ.val (v_mul rfl rfl rfl (w_u32 (by omega) (by omega))) (.none rfl) rfl rfl ?_
   refine WQ.val (v_add rfl rfl rfl (w_u32 (by omega) (by omega))) (.none rfl) rfl rfl ?_
   refine WQ.val (v_load1 rfl rfl one_5 ((fun w hS => hgc w _ 7 (by omega) hS))) (.none rfl) rfl rfl ?_
   refine WQ.val (v_conv rfl rfl Tryd.underlying33 Tryd.underlying5 (by first | exact w_u32 (by omega) (by omega) | exact w_u32m _)) (.none rfl) rfl rfl ?_
   refine WQ.val (v_mul rfl rfl rfl (w_u32 (by omega) (by omega))) (.none rfl) rfl rfl ?_
   refine WQ.val (v_add rfl rfl rfl (w_u32 (by omega) (by omega))) (.none rfl) rfl rfl ?_
   refine WQ.val (v_load1 rfl rfl one_5 ((fun w hS => hgc w _ 8 (by omega) hS))) (.none rfl) rfl rfl ?_
   refine WQ.val (v_conv rfl rfl Tryd.underlying33 Tryd.underlying5 (by first | exact w_u32 (by omega) (by omega) | exact w_u32m _)) (.none rfl) rfl rfl ?_
   refine WQ.val (v_add rfl rfl rfl (w_u32 (by omega) (by omega))) (.none rfl) rfl rfl ?_
   rw [show fOf ys 5 * 16777216 + fOf ys 6 * 65536 + fOf ys 7 * 256 + fOf ys 8 = idB ys from hid.symm]
   refine WQ.val (v_fieldAddr0 rfl rfl fld_53_3) (.none rfl) rfl rfl ?_
   refine WQ.nilR ?_
   refine WR.ones (g := 0) [23] (by kernel_rfl) ?_
   refine WL.store1 rfl rfl rfl rfl one_33 (Nat.le_of_ble_eq_true rfl) (.none rfl) rfl ?_
   refine WL.as (L' := .row g6 (MsL.opened (fOf xs 18) ys none 0 []).rcells :: .row g5 (fltL 0 0 ⟨#[]⟩) :: .row g3 (fltL 0 0 ⟨#[]⟩) :: [.row g2 (MsL.zero 0).rcells]) rfl ?_
   refine WL.nilR ?_
   refine WR.done (by kernel_rfl) ?_
   refine WE.then_n ?_
   refine WC.seq ?_
   refine WC.seq ?_
   refine WC.region ?_
   refine WL.val (v_move rfl rfl) (.none rfl) rfl rfl ?_
   refine WL.val (v_indexAddr (lo := 19) rfl rfl rfl Tryd.underlying22 sz_5 rfl (by omega)) (.none rfl) rfl rfl ?_
   refine WL.val (v_load1 rfl rfl one_5 ((fun w hS => hgc w _ 0 (by omega) hS))) (.none rfl) rfl rfl ?_
   refine WL.test (v_neq rfl rfl rfl) (.none rfl) rfl rfl (fun h91 => ?_) (fun h91 => ?_)
   ·
    refine WL.nil ?_
    refine WE.then_n ?_
    refine WC.cond_t rfl ?_
    refine WC.seq ?_
    refine WC.region ?_
    refine WL.val (v_build rfl rfl zero_53 plc_53 rfl) (.none rfl) rfl rfl ?_
    refine WL.buildSlice rfl rfl Tryd.underlying22 sz_5 zero_5 rfl (by decide) rfl (.none rfl) rfl rfl ?_
    intro g93 hg93
    refine WL.call rfl rfl ck_40 (.none rfl) rfl rfl ?_
    intro w hS
    refine Calls.then (RFault_c w 2 1 (some ⟨g93, 0, none⟩) 2 2 (fun i => if i = 0 then 0 else 4) (fun _ => ⟨g93, 0, rfl, fun i hi => by
    have : i = 0 ∨ i = 1 := (by omega)
    rcases this with rfl | rfl
    · exact hS.cell (g := g93) rfl
    · exact hS.cell (g := g93) rfl⟩)) hS ?_
    refine WL.storeW rfl rfl rfl rfl many_53 rfl rfl (.none rfl) rfl ?_
    refine WL.storeW rfl rfl rfl rfl many_28 rfl rfl (.none rfl) rfl ?_
    refine WL.nil ?_
    refine WE.then_n ?_
    refine WC.ret ?_
    refine WE.then_ret ?_
    refine WE.then_ret ?_
    refine WE.ret2 (P := Tryd.prog) (.inl rfl) Tryd.results18 (resRow rfl many_53 rfl) (resRow rfl many_28 rfl) ?_
    exact fun w' h => RMsP.no (hno _ _ (by unfold openR; rw [if_pos h91]; try rfl)) h
   ·
    refine WL.nil ?_
    refine WE.then_n ?_
    refine WC.cond_f rfl ?_
    refine WC.skip ?_
    refine WE.then_n ?_
    refine WC.seq ?_
    refine WC.seq ?_
    refine WC.region ?_
    refine WL.val (v_fieldAddr0 rfl rfl fld_53_1) (.none rfl) rfl rfl ?_
    refine WL.val (v_load1 rfl rfl one_3 (cellAt (v := .int .i64 (asnB ys)) rfl)) (.none rfl) rfl rfl ?_
    refine WL.test (v_eql rfl rfl rfl) (.none rfl) rfl rfl (fun h97 => ?_) (fun h97 => ?_)
    ·
     refine WL.nil ?_
     refine WE.then_n ?_
     refine WC.cond_t rfl ?_
     refine WC.seq ?_
     refine WC.region ?_
     refine WL.val (v_build rfl rfl zero_53 plc_53 rfl) (.none rfl) rfl rfl ?_
     refine WL.call rfl rfl ck_40 (.none rfl) rfl rfl ?_
     intro w hS
     refine Calls.then (RFault_c w 2 2 none 0 0 (fun _ => 0) (RdO.nil w _)) hS ?_
     refine WL.storeW rfl rfl rfl rfl many_53 rfl rfl (.none rfl) rfl ?_
     refine WL.storeW rfl rfl rfl rfl many_28 rfl rfl (.none rfl) rfl ?_
     refine WL.nil ?_
     refine WE.then_n ?_
     refine WC.ret ?_
     refine WE.then_ret ?_
     refine WE.then_ret ?_
     refine WE.ret2 (P := Tryd.prog) (.inl rfl) Tryd.results18 (resRow rfl many_53 rfl) (resRow rfl many_28 rfl) ?_
     exact fun w' h => RMsP.no (hno _ _ (by unfold openR; rw [if_neg h91, if_pos h97]; try rfl)) h
    ·
     refine WL.nil ?_
     refine WE.then_n ?_
     refine WC.cond_f rfl ?_
     refine WC.skip ?_
     refine WE.then_n ?_
     refine WC.cut (fun _ : Unit => [(6, .pointer (some ⟨g6, 0, none⟩)), (3, .pointer (some ⟨g3, 0, none⟩)), (2, .pointer (some ⟨g2, 0, none⟩)), (0, .slice (some ⟨b, o, none⟩) xs.length c)]) (fun _ => .row g6 (MsL.opened (fOf xs 18) ys none 0 []).rcells :: .row g5 (fltL 0 0 ⟨#[]⟩) :: .row g3 (fltL 0 0 ⟨#[]⟩) :: [.row g2 (MsL.zero 0).rcells]) (fun _ => fOf ys 0 = 4 ∧ asnB ys ≠ 0 ∧ ¬ (holdB ys = 1 ∨ holdB ys = 2)) ?_ ?_
     ·
      refine WC.seq ?_
      refine WC.region ?_
      refine WL.val (v_fieldAddr0 rfl rfl fld_53_2) (.none rfl) rfl rfl ?_
      refine WL.val (v_load1 rfl rfl one_3 (cellAt (v := .int .i64 (holdB ys)) rfl)) (.none rfl) rfl rfl ?_
      refine WL.test (v_gtr rfl rfl rfl) (.none rfl) rfl rfl (fun h102 => ?_) (fun h102 => ?_)
      ·
       refine WL.val (v_move rfl rfl) (.none rfl) rfl rfl ?_
       refine WL.val (v_fieldAddr0 rfl rfl fld_53_2) (.some rfl rfl rfl) rfl rfl ?_
       refine WL.val (v_load1 rfl rfl one_3 (cellAt (v := .int .i64 (holdB ys)) rfl)) (.some rfl rfl rfl) rfl rfl ?_
       refine WL.test (v_lss rfl rfl rfl) (.some rfl rfl rfl) rfl rfl (fun h106 => ?_) (fun h106 => ?_)
       ·
        refine WL.val (v_pick_t rfl rfl rfl) (.none rfl) rfl rfl ?_
        refine WL.nil ?_
        refine WE.then_n ?_
        refine WC.cond_t rfl ?_
        refine WC.seq ?_
        refine WC.region ?_
        refine WL.val (v_build rfl rfl zero_53 plc_53 rfl) (.none rfl) rfl rfl ?_
        refine WL.call rfl rfl ck_40 (.none rfl) rfl rfl ?_
        intro w hS
        refine Calls.then (RFault_c w 2 6 none 0 0 (fun _ => 0) (RdO.nil w _)) hS ?_
        refine WL.storeW rfl rfl rfl rfl many_53 rfl rfl (.none rfl) rfl ?_
        refine WL.storeW rfl rfl rfl rfl many_28 rfl rfl (.none rfl) rfl ?_
        refine WL.nil ?_
        refine WE.then_n ?_
        refine WC.ret ?_
        refine WE.then_ret ?_
        refine WE.then_ret ?_
        refine WE.ret2 (P := Tryd.prog) (.inl rfl) Tryd.results18 (resRow rfl many_53 rfl) (resRow rfl many_28 rfl) ?_
        exact fun w' h => RMsP.no (hno _ _ (by unfold openR; rw [if_neg h91, if_neg h97, if_pos (by omega)]; try rfl)) h
       ·
        refine WL.val (v_pick_t rfl rfl rfl) (.none rfl) rfl rfl ?_
        refine WL.nil ?_
        refine WE.then_n ?_
        refine WC.cond_f rfl ?_
        refine WC.skip ?_
        exact WE.mid () ⟨by omega, h97, by have hb0 : 0 ≤ holdB ys := (by unfold holdB; omega); omega⟩ (.cons rfl (.cons rfl (.cons rfl (.cons rfl .nil)))) (.refl _)
      ·
       refine WL.val (v_move rfl rfl) (.none rfl) rfl rfl ?_
       refine WL.skip rfl rfl rfl rfl rfl rfl ?_
       refine WL.skip rfl rfl rfl rfl rfl rfl ?_
       refine WL.skip rfl rfl rfl rfl rfl rfl ?_
       refine WL.val (v_pick_f rfl rfl rfl) (.none rfl) rfl rfl ?_
       refine WL.nil ?_
       refine WE.then_n ?_
       refine WC.cond_f rfl ?_
       refine WC.skip ?_
       exact WE.mid () ⟨by omega, h97, by have hb0 : 0 ≤ holdB ys := (by unfold holdB; omega); omega⟩ (.cons rfl (.cons rfl (.cons rfl (.cons rfl .nil)))) (.refl _)
     ·
      rintro _ ⟨hf0, hf1, hf2⟩
      have h91 : ¬ fOf ys 0 ≠ 4 := (by omega)
      refine WC.seq ?_
      refine WC.seq ?_
      refine WC.region ?_
      refine WL.val (v_fieldAddr0 rfl rfl fld_53_3) (.none rfl) rfl rfl ?_
      refine WL.val (v_load1 rfl rfl one_33 (cellAt (v := .int .u32 (idB ys)) rfl)) (.none rfl) rfl rfl ?_
      refine WL.test (v_eql rfl rfl rfl) (.none rfl) rfl rfl (fun h112 => ?_) (fun h112 => ?_)
      ·
       refine WL.nil ?_
       refine WE.then_n ?_
       refine WC.cond_t rfl ?_
       refine WC.seq ?_
       refine WC.region ?_
       refine WL.val (v_build rfl rfl zero_53 plc_53 rfl) (.none rfl) rfl rfl ?_
       refine WL.call rfl rfl ck_40 (.none rfl) rfl rfl ?_
       intro w hS
       refine Calls.then (RFault_c w 2 3 none 0 0 (fun _ => 0) (RdO.nil w _)) hS ?_
       refine WL.storeW rfl rfl rfl rfl many_53 rfl rfl (.none rfl) rfl ?_
       refine WL.storeW rfl rfl rfl rfl many_28 rfl rfl (.none rfl) rfl ?_
       refine WL.nil ?_
       refine WE.then_n ?_
       refine WC.ret ?_
       refine WE.then_ret ?_
       refine WE.then_ret ?_
       refine WE.ret2 (P := Tryd.prog) (.inl rfl) Tryd.results18 (resRow rfl many_53 rfl) (resRow rfl many_28 rfl) ?_
       exact fun w' h => RMsP.no (hno _ _ (by unfold openR; rw [if_neg h91, if_neg hf1, if_neg hf2, if_pos h112]; try rfl)) h
      ·
       refine WL.nil ?_
       refine WE.then_n ?_
       refine WC.cond_f rfl ?_
       refine WC.skip ?_
       refine WE.then_n ?_
       refine WC.seq ?_
       refine WC.seq ?_
       refine WC.region ?_
       refine WL.val (v_move rfl rfl) (.none rfl) rfl rfl ?_
       refine WL.val (v_indexAddr (lo := 28) rfl rfl rfl Tryd.underlying22 sz_5 rfl (by omega)) (.none rfl) rfl rfl ?_
       refine WL.val (v_load1 rfl rfl one_5 ((fun w hS => hgc w _ 9 (by omega) hS))) (.none rfl) rfl rfl ?_
       refine WL.val (v_conv rfl rfl Tryd.underlying3 Tryd.underlying5 (w_i64 (by omega) (by omega))) (.none rfl) rfl rfl ?_
       refine WL.val (v_move rfl rfl) (.none rfl) rfl rfl ?_
       refine WL.val (v_len_slice rfl rfl Tryd.underlying22) (.none rfl) rfl rfl ?_
       refine WL.val (v_sub rfl rfl rfl (w_i64 (by omega) (by omega))) (.none rfl) rfl rfl ?_
       refine WL.test (v_neq rfl rfl rfl) (.none rfl) rfl rfl (fun h122 => ?_) (fun h122 => ?_)
       ·
        refine WL.nil ?_
        refine WE.then_n ?_
        refine WC.cond_t rfl ?_
        refine WC.seq ?_
        refine WC.region ?_
        refine WL.val (v_build rfl rfl zero_53 plc_53 rfl) (.none rfl) rfl rfl ?_
        refine WL.call rfl rfl ck_40 (.none rfl) rfl rfl ?_
        intro w hS
        refine Calls.then (RFault_c w 2 0 none 0 0 (fun _ => 0) (RdO.nil w _)) hS ?_
        refine WL.storeW rfl rfl rfl rfl many_53 rfl rfl (.none rfl) rfl ?_
        refine WL.storeW rfl rfl rfl rfl many_28 rfl rfl (.none rfl) rfl ?_
        refine WL.nil ?_
        refine WE.then_n ?_
        refine WC.ret ?_
        refine WE.then_ret ?_
        refine WE.then_ret ?_
        refine WE.ret2 (P := Tryd.prog) (.inl rfl) Tryd.results18 (resRow rfl many_53 rfl) (resRow rfl many_28 rfl) ?_
        exact fun w' h => RMsP.no (hno _ _ (by unfold openR; rw [if_neg h91, if_neg hf1, if_neg hf2, if_neg h112, if_pos (by rw [List.length_drop]; omega)]; try rfl)) h
       ·
        refine WL.nil ?_
        refine WE.then_n ?_
        refine WC.cond_f rfl ?_
        refine WC.skip ?_
        refine WE.then_n ?_
        refine WC.seq ?_
        refine WC.region ?_
        refine WL.val (v_assign rfl rfl) (.none rfl) rfl rfl ?_
        refine WL.nil ?_
        refine WE.then_n ?_
        refine WC.block ?_
        refine WC.loop (fun y : RoS => [(7, .int .i64 y.k), (6, .pointer (some ⟨g6, 0, none⟩)), (3, .pointer (some ⟨g3, 0, none⟩)), (2, .pointer (some ⟨g2, 0, none⟩)), (0, .slice (some ⟨b, o, none⟩) xs.length c)]) (fun y => y.E ++ (y.KO ++ (.row g6 (MsL.opened (fOf xs 18) ys y.ad y.kc y.cs).rcells :: .row g5 (fltL 0 0 ⟨#[]⟩) :: .row g3 (fltL 0 0 ⟨#[]⟩) :: [.row g2 (MsL.zero 0).rcells]))) (fun y => 29 ≤ y.k ∧ y.k ≤ xs.length ∧ y.cs.length ≤ y.k ∧ openR ys = (match optsR (y.cs.map capD) (xs.drop y.k) with | .inl cs => .inl cs | .inr s => .inr (s, ⟨#[]⟩)) ∧ Vec 2 y.ad y.cs.length y.kc (capsL y.cs) y.E ∧ ∀ c ∈ y.cs, CapOwn y.KO c) (fun y => xs.length - y.k) ⟨29, [], none, 0, [], []⟩ ⟨Nat.le_refl _, hl29, Nat.zero_le _, by
        dsimp only
        unfold openR
        rw [if_neg h91, if_neg hf1, if_neg hf2, if_neg h112, if_neg (by rw [List.length_drop]; omega), show xs.drop 29 = ys.drop 10 by rw [hys, List.drop_drop]]
        rw [List.map_nil]
        cases optsR [] (ys.drop 10) <;> rfl, Vec.nil 2, fun _ h => by cases h⟩ (.cons rfl (.cons rfl (.cons rfl (.cons rfl (.cons rfl .nil))))) (.refl _) ?_
        rintro ⟨k, cs, ad, kc, E, KO⟩ ⟨hk29, hk, hcl, hop, hV, hO⟩
        dsimp only at hk29 hk hcl hop hV hO
        dsimp only
        have hkl : (xs.drop k).length = xs.length - k := List.length_drop ..
        have hbk1 := fOf_b hW.bys (k + 1)
        refine WC.seq ?_
        refine WC.seq ?_
        refine WC.region ?_
        refine WL.val (v_move rfl rfl) (.none rfl) rfl rfl ?_
        refine WL.val (v_move rfl rfl) (.none rfl) rfl rfl ?_
        refine WL.val (v_len_slice rfl rfl Tryd.underlying22) (.none rfl) rfl rfl ?_
        refine WL.test (v_lss rfl rfl rfl) (.none rfl) rfl rfl (fun h128 => ?_) (fun h128 => ?_)
        ·
         refine WL.nil ?_
         refine WE.then_n ?_
         refine WC.cond_t rfl ?_
         refine WC.skip ?_
         refine WE.then_n ?_
         refine WC.block ?_
         refine WC.seq ?_
         refine WC.seq ?_
         refine WC.region ?_
         refine WL.val (v_move rfl rfl) (.none rfl) rfl rfl ?_
         refine WL.val (v_add rfl rfl rfl (w_i64 (by omega) (by omega))) (.none rfl) rfl rfl ?_
         refine WL.val (v_move rfl rfl) (.none rfl) rfl rfl ?_
         refine WL.val (v_len_slice rfl rfl Tryd.underlying22) (.none rfl) rfl rfl ?_
         refine WL.test (v_gtr rfl rfl rfl) (.none rfl) rfl rfl (fun h133 => ?_) (fun h133 => ?_)
         ·
          refine WL.val (v_move rfl rfl) (.none rfl) rfl rfl ?_
          refine WL.skip rfl rfl rfl rfl rfl rfl ?_
          refine WL.skip rfl rfl rfl rfl rfl rfl ?_
          refine WL.skip rfl rfl rfl rfl rfl rfl ?_
          refine WL.skip rfl rfl rfl rfl rfl rfl ?_
          refine WL.skip rfl rfl rfl rfl rfl rfl ?_
          refine WL.skip rfl rfl rfl rfl rfl rfl ?_
          refine WL.skip rfl rfl rfl rfl rfl rfl ?_
          refine WL.skip rfl rfl rfl rfl rfl rfl ?_
          refine WL.skip rfl rfl rfl rfl rfl rfl ?_
          refine WL.skip rfl rfl rfl rfl rfl rfl ?_
          refine WL.skip rfl rfl rfl rfl rfl rfl ?_
          refine WL.skip rfl rfl rfl rfl rfl rfl ?_
          refine WL.val (v_pick_t rfl rfl rfl) (.none rfl) rfl rfl ?_
          refine WL.nil ?_
          refine WE.then_n ?_
          refine WC.cond_t rfl ?_
          refine WC.seq ?_
          refine WC.region ?_
          refine WL.val (v_build rfl rfl zero_53 plc_53 rfl) (.none rfl) rfl rfl ?_
          refine WL.call rfl rfl ck_40 (.none rfl) rfl rfl ?_
          intro w hS
          refine Calls.then (RFault_c w 2 0 none 0 0 (fun _ => 0) (RdO.nil w _)) hS ?_
          refine WL.storeW rfl rfl rfl rfl many_53 rfl rfl (.none rfl) rfl ?_
          refine WL.storeW rfl rfl rfl rfl many_28 rfl rfl (.none rfl) rfl ?_
          refine WL.nil ?_
          refine WE.then_n ?_
          refine WC.ret ?_
          refine WE.then_ret ?_
          refine WE.block_ret ?_
          refine WE.then_ret ?_
          refine WE.block_ret ?_
          refine WE.then_ret ?_
          refine WE.ret2 (P := Tryd.prog) (.inl rfl) Tryd.results18 (resRow rfl many_53 rfl) (resRow rfl many_28 rfl) ?_
          exact fun w' h => RMsP.no (hno _ _ (by rw [hop, optsR_bad _ (by omega) (.inl (by omega))]; try rfl)) h
         ·
          refine WL.val (v_move rfl rfl) (.none rfl) rfl rfl ?_
          refine WL.val (v_move rfl rfl) (.some rfl rfl rfl) rfl rfl ?_
          refine WL.val (v_add rfl rfl rfl (w_i64 (by omega) (by omega))) (.some rfl rfl rfl) rfl rfl ?_
          refine WL.val (v_move rfl rfl) (.some rfl rfl rfl) rfl rfl ?_
          refine WL.val (v_move rfl rfl) (.some rfl rfl rfl) rfl rfl ?_
          refine WL.val (v_add rfl rfl rfl (show _ = ((k + 1 : Nat) : Int) from (w_i64 (by omega) (by omega)).trans (by omega))) (.some rfl rfl rfl) rfl rfl ?_
          refine WL.val (v_indexAddr (lo := k + 1) rfl rfl rfl Tryd.underlying22 sz_5 (by omega) (by omega)) (.some rfl rfl rfl) rfl rfl ?_
          refine WL.val (v_load1 rfl rfl one_5 (cellOld (fun h => h) (hW.get (fOf_get (by omega))))) (.some rfl rfl rfl) rfl rfl ?_
          refine WL.val (v_conv rfl rfl Tryd.underlying3 Tryd.underlying5 (w_i64 (by omega) (by omega))) (.some rfl rfl rfl) rfl rfl ?_
          refine WL.val (v_add rfl rfl rfl (w_i64 (by omega) (by omega))) (.some rfl rfl rfl) rfl rfl ?_
          refine WL.val (v_move rfl rfl) (.some rfl rfl rfl) rfl rfl ?_
          refine WL.val (v_len_slice rfl rfl Tryd.underlying22) (.some rfl rfl rfl) rfl rfl ?_
          refine WL.test (v_gtr rfl rfl rfl) (.some rfl rfl rfl) rfl rfl (fun h146 => ?_) (fun h146 => ?_)
          ·
           refine WL.val (v_pick_f rfl rfl rfl) (.none rfl) rfl rfl ?_
           refine WL.nil ?_
           refine WE.then_n ?_
           refine WC.cond_t rfl ?_
           refine WC.seq ?_
           refine WC.region ?_
           refine WL.val (v_build rfl rfl zero_53 plc_53 rfl) (.none rfl) rfl rfl ?_
           refine WL.call rfl rfl ck_40 (.none rfl) rfl rfl ?_
           intro w hS
           refine Calls.then (RFault_c w 2 0 none 0 0 (fun _ => 0) (RdO.nil w _)) hS ?_
           refine WL.storeW rfl rfl rfl rfl many_53 rfl rfl (.none rfl) rfl ?_
           refine WL.storeW rfl rfl rfl rfl many_28 rfl rfl (.none rfl) rfl ?_
           refine WL.nil ?_
           refine WE.then_n ?_
           refine WC.ret ?_
           refine WE.then_ret ?_
           refine WE.block_ret ?_
           refine WE.then_ret ?_
           refine WE.block_ret ?_
           refine WE.then_ret ?_
           refine WE.ret2 (P := Tryd.prog) (.inl rfl) Tryd.results18 (resRow rfl many_53 rfl) (resRow rfl many_28 rfl) ?_
           exact fun w' h => RMsP.no (hno _ _ (by rw [hop, optsR_bad _ (by omega) (.inr (by rw [fOf_drop]; omega))]; try rfl)) h
          ·
           refine WL.val (v_pick_f rfl rfl rfl) (.none rfl) rfl rfl ?_
           refine WL.nil ?_
           refine WE.then_n ?_
           refine WC.cond_f rfl ?_
           refine WC.skip ?_
           refine WE.then_n ?_
           refine WC.seq ?_
           refine WC.seq ?_
           refine WC.region ?_
           obtain ⟨x, y0, zs, hdr⟩ := two_of (ys := xs.drop k) (by omega)
           have ex : fOf xs k = x := (by have := fOf_drop xs k 0; rw [hdr] at this; exact this.symm)
           have ey : fOf xs (k + 1) = y0 := (by have := fOf_drop xs k 1; rw [hdr] at this; exact this.symm)
           rw [ey] at hbk1
           obtain ⟨n, hn0⟩ := Int.eq_ofNat_of_zero_le hbk1.1
           have hzs : zs = xs.drop (k + 2) := (by rw [← List.drop_drop, hdr]; rfl)
           have hzl : zs.length = xs.length - (k + 2) := (by rw [hzs]; exact List.length_drop ..)
           rw [hdr, hn0, optsR_cons, Int.toNat_natCast, if_neg (by omega)] at hop
           refine WL.val (v_move rfl rfl) (.none rfl) rfl rfl ?_
           refine WL.val (v_move rfl rfl) (.none rfl) rfl rfl ?_
           refine WL.val (v_indexAddr (lo := k) rfl rfl rfl Tryd.underlying22 sz_5 (by omega) (by omega)) (.none rfl) rfl rfl ?_
           refine WL.val (v_load1 rfl rfl one_5 (cellOld (fun h => h) (hW.get (fOf_get (by omega))))) (.none rfl) rfl rfl ?_
           refine WL.test (v_neq rfl rfl rfl) (.none rfl) rfl rfl (fun h154 => ?_) (fun h154 => ?_)
           skip
           ·
            refine WL.nil ?_
            refine WE.then_n ?_
            refine WC.cond_t rfl ?_
            refine WC.seq ?_
            refine WC.region ?_
            refine WL.val (v_build rfl rfl zero_53 plc_53 rfl) (.none rfl) rfl rfl ?_
            refine WL.call rfl rfl ck_40 (.none rfl) rfl rfl ?_
            intro w hS
            refine Calls.then (RFault_c w 2 4 none 0 0 (fun _ => 0) (RdO.nil w _)) hS ?_
            refine WL.storeW rfl rfl rfl rfl many_53 rfl rfl (.none rfl) rfl ?_
            refine WL.storeW rfl rfl rfl rfl many_28 rfl rfl (.none rfl) rfl ?_
            refine WL.nil ?_
            refine WE.then_n ?_
            refine WC.ret ?_
            refine WE.then_ret ?_
            refine WE.block_ret ?_
            refine WE.then_ret ?_
            refine WE.block_ret ?_
            refine WE.then_ret ?_
            refine WE.ret2 (P := Tryd.prog) (.inl rfl) Tryd.results18 (resRow rfl many_53 rfl) (resRow rfl many_28 rfl) ?_
            exact fun w' h => RMsP.no (hno _ _ (by rw [hop, if_pos (by omega)]; try rfl)) h
           ·
            refine WL.nil ?_
            refine WE.then_n ?_
            refine WC.cond_f rfl ?_
            refine WC.skip ?_
            refine WE.then_n ?_
            refine WC.seq ?_
            refine WC.region ?_
            rw [if_neg (by omega)] at hop
            refine WL.val (v_move rfl rfl) (.none rfl) rfl rfl ?_
            refine WL.val (v_add rfl rfl rfl (show _ = ((k + 2 : Nat) : Int) from (w_i64 (by omega) (by omega)).trans (by omega))) (.none rfl) rfl rfl ?_
            refine WL.val (v_move rfl rfl) (.none rfl) rfl rfl ?_
            refine WL.val (v_move rfl rfl) (.none rfl) rfl rfl ?_
            refine WL.val (v_add rfl rfl rfl (show _ = ((k + 1 : Nat) : Int) from (w_i64 (by omega) (by omega)).trans (by omega))) (.none rfl) rfl rfl ?_
            refine WL.val (v_indexAddr (lo := k + 1) rfl rfl rfl Tryd.underlying22 sz_5 (by omega) (by omega)) (.none rfl) rfl rfl ?_
            refine WL.val (v_load1 rfl rfl one_5 (cellOld (fun h => h) (hW.get (fOf_get (by omega))))) (.none rfl) rfl rfl ?_
            refine WL.val (v_conv rfl rfl Tryd.underlying3 Tryd.underlying5 (w_i64 (by omega) (by omega))) (.none rfl) rfl rfl ?_
            refine WL.val (v_add rfl rfl rfl (show _ = ((k + 2 + n : Nat) : Int) from (w_i64 (by omega) (by omega)).trans (by omega))) (.none rfl) rfl rfl ?_
            refine WL.val (v_assign rfl rfl) (.none rfl) rfl rfl ?_
            refine WL.nil ?_
            refine WE.then_n ?_
            refine WC.seq ?_
            refine WC.region ?_
            refine WL.val (v_move rfl rfl) (.none rfl) rfl rfl ?_
            refine WL.val (v_add rfl rfl rfl (show _ = ((k + 2 : Nat) : Int) from (w_i64 (by omega) (by omega)).trans (by omega))) (.none rfl) rfl rfl ?_
            refine WL.val (v_assign rfl rfl) (.none rfl) rfl rfl ?_
            refine WL.nil ?_
            refine WE.then_n ?_
            refine WC.block ?_
            refine WC.loop (fun y : RoS => [(8, .int .i64 ((k + 2 + n : Nat) : Int)), (7, .int .i64 y.k), (6, .pointer (some ⟨g6, 0, none⟩)), (3, .pointer (some ⟨g3, 0, none⟩)), (2, .pointer (some ⟨g2, 0, none⟩)), (0, .slice (some ⟨b, o, none⟩) xs.length c)]) (fun y => y.E ++ (y.KO ++ (.row g6 (MsL.opened (fOf xs 18) ys y.ad y.kc y.cs).rcells :: .row g5 (fltL 0 0 ⟨#[]⟩) :: .row g3 (fltL 0 0 ⟨#[]⟩) :: [.row g2 (MsL.zero 0).rcells]))) (fun y => k + 2 ≤ y.k ∧ y.k ≤ k + 2 + n ∧ y.cs.length ≤ y.k ∧ capsR (cs.map capD) (zs.take n) = capsR (y.cs.map capD) ((xs.drop y.k).take (k + 2 + n - y.k)) ∧ Vec 2 y.ad y.cs.length y.kc (capsL y.cs) y.E ∧ ∀ c ∈ y.cs, CapOwn y.KO c) (fun y => k + 2 + n - y.k) ⟨k + 2, cs, ad, kc, E, KO⟩ ⟨Nat.le_refl _, Nat.le_add_right _ _, by dsimp only; omega, by dsimp only; rw [hzs, Nat.add_sub_cancel_left], hV, hO⟩ (.cons rfl (.cons rfl (.cons rfl (.cons rfl (.cons rfl (.cons rfl .nil)))))) (.refl _) ?_
            rintro ⟨j, ds, ad2, kc2, E2, KO2⟩ ⟨hj2, hje, hdl2, hcap, hV2, hO2⟩
            dsimp only at hj2 hje hdl2 hcap hV2 hO2
            dsimp only
            have hjl : ((xs.drop j).take (k + 2 + n - j)).length = k + 2 + n - j := (by rw [List.length_take, List.length_drop]; omega)
            have hbj1 := fOf_b hW.bys (j + 1)
            have hbj0 := fOf_b hW.bys j
            refine WC.seq ?_
            refine WC.seq ?_
            refine WC.region ?_
            refine WL.val (v_move rfl rfl) (.none rfl) rfl rfl ?_
            refine WL.val (v_move rfl rfl) (.none rfl) rfl rfl ?_
            refine WL.test (v_lss rfl rfl rfl) (.none rfl) rfl rfl (fun h170 => ?_) (fun h170 => ?_)
            ·
             refine WL.nil ?_
             refine WE.then_n ?_
             refine WC.cond_t rfl ?_
             refine WC.skip ?_
             refine WE.then_n ?_
             refine WC.block ?_
             refine WC.seq ?_
             refine WC.seq ?_
             refine WC.region ?_
             refine WL.val (v_move rfl rfl) (.none rfl) rfl rfl ?_
             refine WL.val (v_add rfl rfl rfl (w_i64 (by omega) (by omega))) (.none rfl) rfl rfl ?_
             refine WL.val (v_move rfl rfl) (.none rfl) rfl rfl ?_
             refine WL.test (v_gtr rfl rfl rfl) (.none rfl) rfl rfl (fun h174 => ?_) (fun h174 => ?_)
             ·
              refine WL.val (v_move rfl rfl) (.none rfl) rfl rfl ?_
              refine WL.skip rfl rfl rfl rfl rfl rfl ?_
              refine WL.skip rfl rfl rfl rfl rfl rfl ?_
              refine WL.skip rfl rfl rfl rfl rfl rfl ?_
              refine WL.skip rfl rfl rfl rfl rfl rfl ?_
              refine WL.skip rfl rfl rfl rfl rfl rfl ?_
              refine WL.skip rfl rfl rfl rfl rfl rfl ?_
              refine WL.skip rfl rfl rfl rfl rfl rfl ?_
              refine WL.skip rfl rfl rfl rfl rfl rfl ?_
              refine WL.skip rfl rfl rfl rfl rfl rfl ?_
              refine WL.skip rfl rfl rfl rfl rfl rfl ?_
              refine WL.skip rfl rfl rfl rfl rfl rfl ?_
              refine WL.val (v_pick_t rfl rfl rfl) (.none rfl) rfl rfl ?_
              refine WL.nil ?_
              refine WE.then_n ?_
              refine WC.cond_t rfl ?_
              refine WC.seq ?_
              refine WC.region ?_
              refine WL.val (v_build rfl rfl zero_53 plc_53 rfl) (.none rfl) rfl rfl ?_
              refine WL.call rfl rfl ck_40 (.none rfl) rfl rfl ?_
              intro w hS
              refine Calls.then (RFault_c w 2 0 none 0 0 (fun _ => 0) (RdO.nil w _)) hS ?_
              refine WL.storeW rfl rfl rfl rfl many_53 rfl rfl (.none rfl) rfl ?_
              refine WL.storeW rfl rfl rfl rfl many_28 rfl rfl (.none rfl) rfl ?_
              refine WL.nil ?_
              refine WE.then_n ?_
              refine WC.ret ?_
              refine WE.then_ret ?_
              refine WE.block_ret ?_
              refine WE.then_ret ?_
              refine WE.block_ret ?_
              refine WE.block_ret ?_
              refine WE.then_ret ?_
              refine WE.block_ret ?_
              refine WE.then_ret ?_
              refine WE.ret2 (P := Tryd.prog) (.inl rfl) Tryd.results18 (resRow rfl many_53 rfl) (resRow rfl many_28 rfl) ?_
              exact fun w' h => RMsP.no (hno _ _ (by rw [hop, hcap, capsR_bad _ (by omega) (.inl (by omega))]; try rfl)) h
             ·
              refine WL.val (v_move rfl rfl) (.none rfl) rfl rfl ?_
              refine WL.val (v_move rfl rfl) (.some rfl rfl rfl) rfl rfl ?_
              refine WL.val (v_add rfl rfl rfl (w_i64 (by omega) (by omega))) (.some rfl rfl rfl) rfl rfl ?_
              refine WL.val (v_move rfl rfl) (.some rfl rfl rfl) rfl rfl ?_
              refine WL.val (v_move rfl rfl) (.some rfl rfl rfl) rfl rfl ?_
              refine WL.val (v_add rfl rfl rfl (show _ = ((j + 1 : Nat) : Int) from (w_i64 (by omega) (by omega)).trans (by omega))) (.some rfl rfl rfl) rfl rfl ?_
              refine WL.val (v_indexAddr (lo := j + 1) rfl rfl rfl Tryd.underlying22 sz_5 (by omega) (by omega)) (.some rfl rfl rfl) rfl rfl ?_
              refine WL.val (v_load1 rfl rfl one_5 (cellOld (fun h => h) (hW.get (fOf_get (by omega))))) (.some rfl rfl rfl) rfl rfl ?_
              refine WL.val (v_conv rfl rfl Tryd.underlying3 Tryd.underlying5 (w_i64 (by omega) (by omega))) (.some rfl rfl rfl) rfl rfl ?_
              refine WL.val (v_add rfl rfl rfl (w_i64 (by omega) (by omega))) (.some rfl rfl rfl) rfl rfl ?_
              refine WL.val (v_move rfl rfl) (.some rfl rfl rfl) rfl rfl ?_
              refine WL.test (v_gtr rfl rfl rfl) (.some rfl rfl rfl) rfl rfl (fun h186 => ?_) (fun h186 => ?_)
              ·
               refine WL.val (v_pick_f rfl rfl rfl) (.none rfl) rfl rfl ?_
               refine WL.nil ?_
               refine WE.then_n ?_
               refine WC.cond_t rfl ?_
               refine WC.seq ?_
               refine WC.region ?_
               refine WL.val (v_build rfl rfl zero_53 plc_53 rfl) (.none rfl) rfl rfl ?_
               refine WL.call rfl rfl ck_40 (.none rfl) rfl rfl ?_
               intro w hS
               refine Calls.then (RFault_c w 2 0 none 0 0 (fun _ => 0) (RdO.nil w _)) hS ?_
               refine WL.storeW rfl rfl rfl rfl many_53 rfl rfl (.none rfl) rfl ?_
               refine WL.storeW rfl rfl rfl rfl many_28 rfl rfl (.none rfl) rfl ?_
               refine WL.nil ?_
               refine WE.then_n ?_
               refine WC.ret ?_
               refine WE.then_ret ?_
               refine WE.block_ret ?_
               refine WE.then_ret ?_
               refine WE.block_ret ?_
               refine WE.block_ret ?_
               refine WE.then_ret ?_
               refine WE.block_ret ?_
               refine WE.then_ret ?_
               refine WE.ret2 (P := Tryd.prog) (.inl rfl) Tryd.results18 (resRow rfl many_53 rfl) (resRow rfl many_28 rfl) ?_
               exact fun w' h => RMsP.no (hno _ _ (by rw [hop, hcap, capsR_bad _ (by omega) (.inr (by rw [hjl, show fOf ((xs.drop j).take (k + 2 + n - j)) 1 = fOf xs (j + 1) by rw [← fOf_drop]; unfold fOf; rw [List.getD_eq_getElem?_getD, List.getD_eq_getElem?_getD, List.getElem?_take, if_pos (by omega)]]; omega))]; try rfl)) h
              ·
               refine WL.val (v_pick_f rfl rfl rfl) (.none rfl) rfl rfl ?_
               refine WL.nil ?_
               refine WE.then_n ?_
               refine WC.cond_f rfl ?_
               refine WC.skip ?_
               refine WE.then_n ?_
               refine WC.seq ?_
               refine WC.held ([]) mixed ?_
               refine WRH.first (g := 8) [0, 2, 3, 4, 5, 6, 8, 9, 10, 11, 12, 13, 14, 15, 16, 17, 18, 19, 20] (by kernel_rfl) (by kernel_rfl) (fun w hS => hS.sub (by repeat (first | exact List.Sublist.refl _ | exact List.nil_sublist _ | refine List.Sublist.cons _ ?_ | refine List.sublist_append_of_sublist_right ?_))) ?_
               obtain ⟨x3, y3, zs3, hdv⟩ := two_of (ys := (xs.drop j).take (k + 2 + n - j)) (by omega)
               have ft : ∀ i, i < k + 2 + n - j → fOf ((xs.drop j).take (k + 2 + n - j)) i = fOf xs (j + i) := (fun i hi => by rw [← fOf_drop]; unfold fOf; rw [List.getD_eq_getElem?_getD, List.getD_eq_getElem?_getD, List.getElem?_take, if_pos hi])
               have ex3 : fOf xs j = x3 := (by have := ft 0 (by omega); rw [hdv] at this; exact this.symm)
               have ey3 : fOf xs (j + 1) = y3 := (by have := ft 1 (by omega); rw [hdv] at this; exact this.symm)
               rw [ey3] at hbj1
               obtain ⟨n3, hn3⟩ := Int.eq_ofNat_of_zero_le hbj1.1
               have hz3 : zs3 = (xs.drop (j + 2)).take (k + 2 + n - (j + 2)) := (by
                 have h1 : ((xs.drop j).take (k + 2 + n - j)).drop 2 = zs3 := (by rw [hdv]; rfl)
                 rw [← h1, List.drop_take, List.drop_drop, show k + 2 + n - j - 2 = k + 2 + n - (j + 2) by omega])
               have hz3l : zs3.length = k + 2 + n - (j + 2) := (by rw [hz3, List.length_take, List.length_drop]; omega)
               rw [hdv, hn3, capsR_cons, Int.toNat_natCast, if_neg (by omega)] at hcap
               have hvt : (xs.take (j + 2 + n3)).drop (j + 2) = zs3.take n3 := (by rw [hz3, List.take_take, List.drop_take, Nat.min_eq_left (by omega), Nat.add_sub_cancel_left])
               have hvd : (xs.drop (j + 2 + n3)).take (k + 2 + n - (j + 2 + n3)) = zs3.drop n3 := (by rw [hz3, List.drop_take, List.drop_drop, show k + 2 + n - (j + 2) - n3 = k + 2 + n - (j + 2 + n3) by omega])
               have hvl : (zs3.take n3).length = n3 := (by rw [List.length_take]; omega)
               have hWv : Win w0 b (sAddr o (j + 2) c 1) (c - (j + 2)) (zs3.take n3) := (by rw [← hvt]; exact (hW.take _).drop _)
               refine WH.val (v_fieldAddr0 rfl rfl fld_53_4) (.none rfl) rfl rfl ?_
               refine WH.val (v_move rfl rfl) (.none rfl) rfl rfl ?_
               refine WH.val (v_move rfl rfl) (.none rfl) rfl rfl ?_
               refine WH.val (v_indexAddr (lo := j) rfl rfl rfl Tryd.underlying22 sz_5 (by omega) (by omega)) (.none rfl) rfl rfl ?_
               refine WH.val (v_load1 rfl rfl one_5 (cellOld (fun h => h) (hW.get (fOf_get (by omega))))) (.none rfl) rfl rfl ?_
               refine WH.val (v_conv rfl rfl Tryd.underlying3 Tryd.underlying5 (w_i64 (by omega) (by omega))) (.none rfl) rfl rfl ?_
               refine WH.val (v_move rfl rfl) (.none rfl) rfl rfl ?_
               refine WH.val (v_move rfl rfl) (.none rfl) rfl rfl ?_
               refine WH.val (v_add rfl rfl rfl (show _ = ((j + 2 : Nat) : Int) from (w_i64 (by omega) (by omega)).trans (by omega))) (.none rfl) rfl rfl ?_
               refine WH.val (v_move rfl rfl) (.none rfl) rfl rfl ?_
               refine WH.val (v_add rfl rfl rfl (show _ = ((j + 2 : Nat) : Int) from (w_i64 (by omega) (by omega)).trans (by omega))) (.none rfl) rfl rfl ?_
               refine WH.val (v_move rfl rfl) (.none rfl) rfl rfl ?_
               refine WH.val (v_move rfl rfl) (.none rfl) rfl rfl ?_
               refine WH.val (v_add rfl rfl rfl (show _ = ((j + 1 : Nat) : Int) from (w_i64 (by omega) (by omega)).trans (by omega))) (.none rfl) rfl rfl ?_
               refine WH.val (v_indexAddr (lo := j + 1) rfl rfl rfl Tryd.underlying22 sz_5 (by omega) (by omega)) (.none rfl) rfl rfl ?_
               refine WH.val (v_load1 rfl rfl one_5 (cellOld (fun h => h) (hW.get (fOf_get (by omega))))) (.none rfl) rfl rfl ?_
               refine WH.val (v_conv rfl rfl Tryd.underlying3 Tryd.underlying5 (w_i64 (by omega) (by omega))) (.none rfl) rfl rfl ?_
               refine WH.val (v_add rfl rfl rfl (show _ = ((j + 2 + n3 : Nat) : Int) from (w_i64 (by omega) (by omega)).trans (by omega))) (.none rfl) rfl rfl ?_
               refine WH.val ((v_slice_lh (lo := j + 2) (hi := j + 2 + n3) rfl rfl rfl rfl Tryd.underlying22 sz_5 rfl rfl (by omega) (by omega))) (.none rfl) rfl rfl ?_
               refine WH.nil ?_
               refine WRH.each (g := 7) [1, 7] (by kernel_rfl) (by decide) ?_
               refine ⟨?_, ?_⟩
               ·
                refine WL.val (v_load1 rfl rfl one_46 (cellAt (v := .slice ad2 ds.length kc2) rfl)) (.none rfl) rfl rfl ?_
                refine WL.nilH (fun w hS => hS.sub (by repeat (first | exact List.Sublist.refl _ | exact List.nil_sublist _ | refine List.Sublist.cons _ ?_ | refine List.sublist_append_of_sublist_right ?_))) ?_
                refine WRH.one (g := 6) 7 (by kernel_rfl) ?_
                refine WL.buildSlice rfl rfl Tryd.underlying22 sz_5 zero_5 rfl (by decide) rfl (.none rfl) rfl rfl ?_
                intro g197 hg197
                refine WL.nilH (fun w hS => hS.sub (by repeat (first | exact List.Sublist.refl _ | exact List.nil_sublist _ | refine List.Sublist.cons _ ?_ | refine List.sublist_append_of_sublist_right ?_))) ?_
                refine WRH.one (g := 5) 21 (by kernel_rfl) ?_
                refine WL.appendL rfl rfl rfl Tryd.underlying22 Tryd.underlying22 sz_5 by_5 zero_5 rfl rfl (E := [.row g197 []]) (Vec.row (k := 0) (s := 1) (c := 0) rfl rfl (by omega)) (new := u8s (zs3.take n3)) (fun h => ⟨b, sAddr o (j + 2) c 1, rfl, fun w hS' => hS'.rng (fun _ h => h) _ _ _ hWv.at_⟩) (by rw [u8s_len]; omega) (u8s_one _) (by omega) (.none rfl) rfl rfl ?_
                intro ad211 c211 E211 hV211 hr211
                rw [show 0 + (j + 2 + n3 - (j + 2)) = (zs3.take n3).length by omega] at hV211 ⊢
                rw [show List.take (0 * 1) ([] : List Value) = [] from rfl, List.nil_append] at hV211
                refine WL.as (L' := E211 ++ (E2 ++ (KO2 ++ (.row g6 (MsL.opened (fOf xs 18) ys ad2 kc2 ds).rcells :: .row g5 (fltL 0 0 ⟨#[]⟩) :: .row g3 (fltL 0 0 ⟨#[]⟩) :: [.row g2 (MsL.zero 0).rcells])))) rfl ?_
                refine WL.nilH (fun w hS => hS.sub (by repeat (first | exact List.Sublist.refl _ | exact List.nil_sublist _ | refine List.Sublist.cons _ ?_ | refine List.sublist_append_of_sublist_right ?_))) ?_
                refine WRH.first (g := 4) [22] (by kernel_rfl) (by kernel_rfl) (fun w hS => hS.sub (by repeat (first | exact List.Sublist.refl _ | exact List.nil_sublist _ | refine List.Sublist.cons _ ?_ | refine List.sublist_append_of_sublist_right ?_))) ?_
                refine WH.val (v_build rfl rfl zero_99 plc_99 rfl) (.none rfl) rfl rfl ?_
                refine WH.nil ?_
                refine WRH.one (g := 3) 23 (by kernel_rfl) ?_
                refine WL.buildSlice rfl rfl Tryd.underlying46 sz_99 zero_99 rfl (by decide) rfl (.none rfl) rfl rfl ?_
                intro g213 hg213
                refine WL.as (L' := .row g213 (CapL.cells (⟨fOf xs j, ad211, c211, zs3.take n3⟩ : CapL)) :: (E211 ++ (E2 ++ (KO2 ++ (.row g6 (MsL.opened (fOf xs 18) ys ad2 kc2 ds).rcells :: .row g5 (fltL 0 0 ⟨#[]⟩) :: .row g3 (fltL 0 0 ⟨#[]⟩) :: [.row g2 (MsL.zero 0).rcells]))))) rfl ?_
                refine WL.to (L' := E2 ++ (.row g213 (CapL.cells (⟨fOf xs j, ad211, c211, zs3.take n3⟩ : CapL)) :: (E211 ++ (KO2 ++ (.row g6 (MsL.opened (fOf xs 18) ys ad2 kc2 ds).rcells :: .row g5 (fltL 0 0 ⟨#[]⟩) :: .row g3 (fltL 0 0 ⟨#[]⟩) :: [.row g2 (MsL.zero 0).rcells]))))) (fun w hS => hS.permC (by intro c h1 h2 h3 e; simp only [h1, h2, h3]; omega)) ?_
                refine WL.nilH (fun w hS => hS.sub (by repeat (first | exact List.Sublist.refl _ | exact List.nil_sublist _ | refine List.Sublist.cons _ ?_ | refine List.sublist_append_of_sublist_right ?_))) ?_
                refine WRH.one (g := 2) 24 (by kernel_rfl) ?_
                refine WL.appendL rfl rfl rfl Tryd.underlying46 Tryd.underlying46 sz_99 by_99 zero_99 rfl rfl hV2 (new := CapL.cells (⟨fOf xs j, ad211, c211, zs3.take n3⟩ : CapL)) (fun _ => ⟨g213, 0, rfl, fun w hS => allAt (g := g213) w hS⟩) rfl rfl (by omega) (.none rfl) rfl rfl ?_
                intro ad214 c214 E214 hV214 hr214
                rw [← capsL_snoc] at hV214
                rw [show ds.length + 1 = (ds ++ [(⟨fOf xs j, ad211, c211, zs3.take n3⟩ : CapL)]).length by rw [List.length_append]; rfl] at hV214 ⊢
                refine WL.nilH (fun w hS => hS.sub (by repeat (first | exact List.Sublist.refl _ | exact List.nil_sublist _ | refine List.Sublist.cons _ ?_ | refine List.sublist_append_of_sublist_right ?_))) ?_
                refine WRH.first (g := 1) [25] (by kernel_rfl) (by kernel_rfl) (fun w hS => hS.sub (by repeat (first | exact List.Sublist.refl _ | exact List.nil_sublist _ | refine List.Sublist.cons _ ?_ | refine List.sublist_append_of_sublist_right ?_))) ?_
                refine WH.val (v_fieldAddr0 rfl rfl fld_53_4) (.none rfl) rfl rfl ?_
                refine WH.nil ?_
                refine WRH.one (g := 0) 26 (by kernel_rfl) ?_
                refine WL.store1 rfl rfl rfl rfl one_46 (Nat.le_of_ble_eq_true rfl) (.none rfl) rfl ?_
                refine WL.as (L' := E214 ++ (.row g213 (CapL.cells (⟨fOf xs j, ad211, c211, zs3.take n3⟩ : CapL)) :: (E211 ++ (KO2 ++ (.row g6 (MsL.opened (fOf xs 18) ys ad214 c214 (ds ++ [(⟨fOf xs j, ad211, c211, zs3.take n3⟩ : CapL)])).rcells :: .row g5 (fltL 0 0 ⟨#[]⟩) :: .row g3 (fltL 0 0 ⟨#[]⟩) :: [.row g2 (MsL.zero 0).rcells]))))) rfl ?_
                refine WL.nilH (fun w hS => hS.sub (by repeat (first | exact List.Sublist.refl _ | exact List.nil_sublist _ | refine List.Sublist.cons _ ?_ | refine List.sublist_append_of_sublist_right ?_))) ?_
                refine WRH.done (by kernel_rfl) ?_
                refine WE.then_n ?_
                refine WC.region ?_
                refine WL.val (v_move rfl rfl) (.none rfl) rfl rfl ?_
                refine WL.val (v_move rfl rfl) (.none rfl) rfl rfl ?_
                refine WL.val (v_move rfl rfl) (.none rfl) rfl rfl ?_
                refine WL.val (v_add rfl rfl rfl (show _ = ((j + 1 : Nat) : Int) from (w_i64 (by omega) (by omega)).trans (by omega))) (.none rfl) rfl rfl ?_
                refine WL.val (v_indexAddr (lo := j + 1) rfl rfl rfl Tryd.underlying22 sz_5 (by omega) (by omega)) (.none rfl) rfl rfl ?_
                refine WL.val (v_load1 rfl rfl one_5 (cellOld (fun h => h) (hW.get (fOf_get (by omega))))) (.none rfl) rfl rfl ?_
                refine WL.val (v_conv rfl rfl Tryd.underlying3 Tryd.underlying5 (w_i64 (by omega) (by omega))) (.none rfl) rfl rfl ?_
                refine WL.val (v_add rfl rfl rfl (show _ = ((2 + n3 : Nat) : Int) from (w_i64 (by omega) (by omega)).trans (by omega))) (.none rfl) rfl rfl ?_
                refine WL.val (v_add rfl rfl rfl (show _ = ((j + 2 + n3 : Nat) : Int) from (w_i64 (by omega) (by omega)).trans (by omega))) (.none rfl) rfl rfl ?_
                refine WL.val (v_assign rfl rfl) (.none rfl) rfl rfl ?_
                refine WL.nil ?_
                refine WE.block_n ?_
                exact WE.to (L' := E214 ++ ((E211 ++ KO2) ++ (.row g6 (MsL.opened (fOf xs 18) ys ad214 c214 (ds ++ [(⟨fOf xs j, ad211, c211, zs3.take n3⟩ : CapL)])).rcells :: .row g5 (fltL 0 0 ⟨#[]⟩) :: .row g3 (fltL 0 0 ⟨#[]⟩) :: [.row g2 (MsL.zero 0).rcells]))) (fun w hS => by
                have := hS.sub (L' := E214 ++ (E211 ++ (KO2 ++ (.row g6 (MsL.opened (fOf xs 18) ys ad214 c214 (ds ++ [(⟨fOf xs j, ad211, c211, zs3.take n3⟩ : CapL)])).rcells :: .row g5 (fltL 0 0 ⟨#[]⟩) :: .row g3 (fltL 0 0 ⟨#[]⟩) :: [.row g2 (MsL.zero 0).rcells])))) (List.Sublist.append_left (.cons _ (.refl _)) _)
                rwa [← List.append_assoc E211] at this) (WE.next ⟨j + 2 + n3, ds ++ [(⟨fOf xs j, ad211, c211, zs3.take n3⟩ : CapL)], ad214, c214, E214, E211 ++ KO2⟩ (by dsimp only; omega) ⟨by dsimp only; omega, by dsimp only; omega, by dsimp only; rw [List.length_append]; show _ + 1 ≤ _; omega, by dsimp only; rw [hcap, hvd, List.map_append]; show _ = capsR (_ ++ [(fOf xs j, _)]) _; rw [ex3], hV214, fun c' hc' => (by
                rcases List.mem_append.1 hc' with hc' | hc'
                · obtain ⟨E', r1, r2⟩ := hO2 c' hc'
                  exact ⟨E', r1, fun e he => List.mem_append_right _ (r2 e he)⟩
                · rw [List.mem_singleton.1 hc']
                  exact ⟨E211, hV211, fun e he => List.mem_append_left _ he⟩)⟩ (.cons rfl (.cons rfl (.cons rfl (.cons rfl (.cons rfl (.cons rfl .nil)))))) (.refl _))
               ·
                refine WL.buildSlice rfl rfl Tryd.underlying22 sz_5 zero_5 rfl (by decide) rfl (.none rfl) rfl rfl ?_
                intro g197 hg197
                refine WL.nilH (fun w hS => hS.sub (by repeat (first | exact List.Sublist.refl _ | exact List.nil_sublist _ | refine List.Sublist.cons _ ?_ | refine List.sublist_append_of_sublist_right ?_))) ?_
                refine WRH.each (g := 6) [1, 21] (by kernel_rfl) (by decide) ?_
                refine ⟨?_, ?_⟩
                ·
                 refine WL.val (v_load1 rfl rfl one_46 (cellAt (v := .slice ad2 ds.length kc2) rfl)) (.none rfl) rfl rfl ?_
                 refine WL.nilH (fun w hS => hS.sub (by repeat (first | exact List.Sublist.refl _ | exact List.nil_sublist _ | refine List.Sublist.cons _ ?_ | refine List.sublist_append_of_sublist_right ?_))) ?_
                 refine WRH.one (g := 5) 21 (by kernel_rfl) ?_
                 refine WL.appendL rfl rfl rfl Tryd.underlying22 Tryd.underlying22 sz_5 by_5 zero_5 rfl rfl (E := [.row g197 []]) (Vec.row (k := 0) (s := 1) (c := 0) rfl rfl (by omega)) (new := u8s (zs3.take n3)) (fun h => ⟨b, sAddr o (j + 2) c 1, rfl, fun w hS' => hS'.rng (fun _ h => h) _ _ _ hWv.at_⟩) (by rw [u8s_len]; omega) (u8s_one _) (by omega) (.none rfl) rfl rfl ?_
                 intro ad211 c211 E211 hV211 hr211
                 rw [show 0 + (j + 2 + n3 - (j + 2)) = (zs3.take n3).length by omega] at hV211 ⊢
                 rw [show List.take (0 * 1) ([] : List Value) = [] from rfl, List.nil_append] at hV211
                 refine WL.as (L' := E211 ++ (E2 ++ (KO2 ++ (.row g6 (MsL.opened (fOf xs 18) ys ad2 kc2 ds).rcells :: .row g5 (fltL 0 0 ⟨#[]⟩) :: .row g3 (fltL 0 0 ⟨#[]⟩) :: [.row g2 (MsL.zero 0).rcells])))) rfl ?_
                 refine WL.nilH (fun w hS => hS.sub (by repeat (first | exact List.Sublist.refl _ | exact List.nil_sublist _ | refine List.Sublist.cons _ ?_ | refine List.sublist_append_of_sublist_right ?_))) ?_
                 refine WRH.first (g := 4) [22] (by kernel_rfl) (by kernel_rfl) (fun w hS => hS.sub (by repeat (first | exact List.Sublist.refl _ | exact List.nil_sublist _ | refine List.Sublist.cons _ ?_ | refine List.sublist_append_of_sublist_right ?_))) ?_
                 refine WH.val (v_build rfl rfl zero_99 plc_99 rfl) (.none rfl) rfl rfl ?_
                 refine WH.nil ?_
                 refine WRH.one (g := 3) 23 (by kernel_rfl) ?_
                 refine WL.buildSlice rfl rfl Tryd.underlying46 sz_99 zero_99 rfl (by decide) rfl (.none rfl) rfl rfl ?_
                 intro g213 hg213
                 refine WL.as (L' := .row g213 (CapL.cells (⟨fOf xs j, ad211, c211, zs3.take n3⟩ : CapL)) :: (E211 ++ (E2 ++ (KO2 ++ (.row g6 (MsL.opened (fOf xs 18) ys ad2 kc2 ds).rcells :: .row g5 (fltL 0 0 ⟨#[]⟩) :: .row g3 (fltL 0 0 ⟨#[]⟩) :: [.row g2 (MsL.zero 0).rcells]))))) rfl ?_
                 refine WL.to (L' := E2 ++ (.row g213 (CapL.cells (⟨fOf xs j, ad211, c211, zs3.take n3⟩ : CapL)) :: (E211 ++ (KO2 ++ (.row g6 (MsL.opened (fOf xs 18) ys ad2 kc2 ds).rcells :: .row g5 (fltL 0 0 ⟨#[]⟩) :: .row g3 (fltL 0 0 ⟨#[]⟩) :: [.row g2 (MsL.zero 0).rcells]))))) (fun w hS => hS.permC (by intro c h1 h2 h3 e; simp only [h1, h2, h3]; omega)) ?_
                 refine WL.nilH (fun w hS => hS.sub (by repeat (first | exact List.Sublist.refl _ | exact List.nil_sublist _ | refine List.Sublist.cons _ ?_ | refine List.sublist_append_of_sublist_right ?_))) ?_
                 refine WRH.one (g := 2) 24 (by kernel_rfl) ?_
                 refine WL.appendL rfl rfl rfl Tryd.underlying46 Tryd.underlying46 sz_99 by_99 zero_99 rfl rfl hV2 (new := CapL.cells (⟨fOf xs j, ad211, c211, zs3.take n3⟩ : CapL)) (fun _ => ⟨g213, 0, rfl, fun w hS => allAt (g := g213) w hS⟩) rfl rfl (by omega) (.none rfl) rfl rfl ?_
                 intro ad214 c214 E214 hV214 hr214
                 rw [← capsL_snoc] at hV214
                 rw [show ds.length + 1 = (ds ++ [(⟨fOf xs j, ad211, c211, zs3.take n3⟩ : CapL)]).length by rw [List.length_append]; rfl] at hV214 ⊢
                 refine WL.nilH (fun w hS => hS.sub (by repeat (first | exact List.Sublist.refl _ | exact List.nil_sublist _ | refine List.Sublist.cons _ ?_ | refine List.sublist_append_of_sublist_right ?_))) ?_
                 refine WRH.first (g := 1) [25] (by kernel_rfl) (by kernel_rfl) (fun w hS => hS.sub (by repeat (first | exact List.Sublist.refl _ | exact List.nil_sublist _ | refine List.Sublist.cons _ ?_ | refine List.sublist_append_of_sublist_right ?_))) ?_
                 refine WH.val (v_fieldAddr0 rfl rfl fld_53_4) (.none rfl) rfl rfl ?_
                 refine WH.nil ?_
                 refine WRH.one (g := 0) 26 (by kernel_rfl) ?_
                 refine WL.store1 rfl rfl rfl rfl one_46 (Nat.le_of_ble_eq_true rfl) (.none rfl) rfl ?_
                 refine WL.as (L' := E214 ++ (.row g213 (CapL.cells (⟨fOf xs j, ad211, c211, zs3.take n3⟩ : CapL)) :: (E211 ++ (KO2 ++ (.row g6 (MsL.opened (fOf xs 18) ys ad214 c214 (ds ++ [(⟨fOf xs j, ad211, c211, zs3.take n3⟩ : CapL)])).rcells :: .row g5 (fltL 0 0 ⟨#[]⟩) :: .row g3 (fltL 0 0 ⟨#[]⟩) :: [.row g2 (MsL.zero 0).rcells]))))) rfl ?_
                 refine WL.nilH (fun w hS => hS.sub (by repeat (first | exact List.Sublist.refl _ | exact List.nil_sublist _ | refine List.Sublist.cons _ ?_ | refine List.sublist_append_of_sublist_right ?_))) ?_
                 refine WRH.done (by kernel_rfl) ?_
                 refine WE.then_n ?_
                 refine WC.region ?_
                 refine WL.val (v_move rfl rfl) (.none rfl) rfl rfl ?_
                 refine WL.val (v_move rfl rfl) (.none rfl) rfl rfl ?_
                 refine WL.val (v_move rfl rfl) (.none rfl) rfl rfl ?_
                 refine WL.val (v_add rfl rfl rfl (show _ = ((j + 1 : Nat) : Int) from (w_i64 (by omega) (by omega)).trans (by omega))) (.none rfl) rfl rfl ?_
                 refine WL.val (v_indexAddr (lo := j + 1) rfl rfl rfl Tryd.underlying22 sz_5 (by omega) (by omega)) (.none rfl) rfl rfl ?_
                 refine WL.val (v_load1 rfl rfl one_5 (cellOld (fun h => h) (hW.get (fOf_get (by omega))))) (.none rfl) rfl rfl ?_
                 refine WL.val (v_conv rfl rfl Tryd.underlying3 Tryd.underlying5 (w_i64 (by omega) (by omega))) (.none rfl) rfl rfl ?_
                 refine WL.val (v_add rfl rfl rfl (show _ = ((2 + n3 : Nat) : Int) from (w_i64 (by omega) (by omega)).trans (by omega))) (.none rfl) rfl rfl ?_
                 refine WL.val (v_add rfl rfl rfl (show _ = ((j + 2 + n3 : Nat) : Int) from (w_i64 (by omega) (by omega)).trans (by omega))) (.none rfl) rfl rfl ?_
                 refine WL.val (v_assign rfl rfl) (.none rfl) rfl rfl ?_
                 refine WL.nil ?_
                 refine WE.block_n ?_
                 exact WE.to (L' := E214 ++ ((E211 ++ KO2) ++ (.row g6 (MsL.opened (fOf xs 18) ys ad214 c214 (ds ++ [(⟨fOf xs j, ad211, c211, zs3.take n3⟩ : CapL)])).rcells :: .row g5 (fltL 0 0 ⟨#[]⟩) :: .row g3 (fltL 0 0 ⟨#[]⟩) :: [.row g2 (MsL.zero 0).rcells]))) (fun w hS => by
                 have := hS.sub (L' := E214 ++ (E211 ++ (KO2 ++ (.row g6 (MsL.opened (fOf xs 18) ys ad214 c214 (ds ++ [(⟨fOf xs j, ad211, c211, zs3.take n3⟩ : CapL)])).rcells :: .row g5 (fltL 0 0 ⟨#[]⟩) :: .row g3 (fltL 0 0 ⟨#[]⟩) :: [.row g2 (MsL.zero 0).rcells])))) (List.Sublist.append_left (.cons _ (.refl _)) _)
                 rwa [← List.append_assoc E211] at this) (WE.next ⟨j + 2 + n3, ds ++ [(⟨fOf xs j, ad211, c211, zs3.take n3⟩ : CapL)], ad214, c214, E214, E211 ++ KO2⟩ (by dsimp only; omega) ⟨by dsimp only; omega, by dsimp only; omega, by dsimp only; rw [List.length_append]; show _ + 1 ≤ _; omega, by dsimp only; rw [hcap, hvd, List.map_append]; show _ = capsR (_ ++ [(fOf xs j, _)]) _; rw [ex3], hV214, fun c' hc' => (by
                 rcases List.mem_append.1 hc' with hc' | hc'
                 · obtain ⟨E', r1, r2⟩ := hO2 c' hc'
                   exact ⟨E', r1, fun e he => List.mem_append_right _ (r2 e he)⟩
                 · rw [List.mem_singleton.1 hc']
                   exact ⟨E211, hV211, fun e he => List.mem_append_left _ he⟩)⟩ (.cons rfl (.cons rfl (.cons rfl (.cons rfl (.cons rfl (.cons rfl .nil)))))) (.refl _))
                ·
                 refine WL.appendL rfl rfl rfl Tryd.underlying22 Tryd.underlying22 sz_5 by_5 zero_5 rfl rfl (E := [.row g197 []]) (Vec.row (k := 0) (s := 1) (c := 0) rfl rfl (by omega)) (new := u8s (zs3.take n3)) (fun h => ⟨b, sAddr o (j + 2) c 1, rfl, fun w hS' => hS'.rng (fun _ h => h) _ _ _ hWv.at_⟩) (by rw [u8s_len]; omega) (u8s_one _) (by omega) (.none rfl) rfl rfl ?_
                 intro ad211 c211 E211 hV211 hr211
                 rw [show 0 + (j + 2 + n3 - (j + 2)) = (zs3.take n3).length by omega] at hV211 ⊢
                 rw [show List.take (0 * 1) ([] : List Value) = [] from rfl, List.nil_append] at hV211
                 refine WL.as (L' := E211 ++ (E2 ++ (KO2 ++ (.row g6 (MsL.opened (fOf xs 18) ys ad2 kc2 ds).rcells :: .row g5 (fltL 0 0 ⟨#[]⟩) :: .row g3 (fltL 0 0 ⟨#[]⟩) :: [.row g2 (MsL.zero 0).rcells])))) rfl ?_
                 refine WL.nilH (fun w hS => hS.sub (by repeat (first | exact List.Sublist.refl _ | exact List.nil_sublist _ | refine List.Sublist.cons _ ?_ | refine List.sublist_append_of_sublist_right ?_))) ?_
                 refine WRH.first (g := 5) [22] (by kernel_rfl) (by kernel_rfl) (fun w hS => hS.sub (by repeat (first | exact List.Sublist.refl _ | exact List.nil_sublist _ | refine List.Sublist.cons _ ?_ | refine List.sublist_append_of_sublist_right ?_))) ?_
                 refine WH.val (v_build rfl rfl zero_99 plc_99 rfl) (.none rfl) rfl rfl ?_
                 refine WH.nil ?_
                 refine WRH.each (g := 4) [1, 23] (by kernel_rfl) (by decide) ?_
                 refine ⟨?_, ?_⟩
                 ·
                  refine WL.val (v_load1 rfl rfl one_46 (cellAt (v := .slice ad2 ds.length kc2) rfl)) (.none rfl) rfl rfl ?_
                  refine WL.nilH (fun w hS => hS.sub (by repeat (first | exact List.Sublist.refl _ | exact List.nil_sublist _ | refine List.Sublist.cons _ ?_ | refine List.sublist_append_of_sublist_right ?_))) ?_
                  refine WRH.one (g := 3) 23 (by kernel_rfl) ?_
                  refine WL.buildSlice rfl rfl Tryd.underlying46 sz_99 zero_99 rfl (by decide) rfl (.none rfl) rfl rfl ?_
                  intro g213 hg213
                  refine WL.as (L' := .row g213 (CapL.cells (⟨fOf xs j, ad211, c211, zs3.take n3⟩ : CapL)) :: (E211 ++ (E2 ++ (KO2 ++ (.row g6 (MsL.opened (fOf xs 18) ys ad2 kc2 ds).rcells :: .row g5 (fltL 0 0 ⟨#[]⟩) :: .row g3 (fltL 0 0 ⟨#[]⟩) :: [.row g2 (MsL.zero 0).rcells]))))) rfl ?_
                  refine WL.to (L' := E2 ++ (.row g213 (CapL.cells (⟨fOf xs j, ad211, c211, zs3.take n3⟩ : CapL)) :: (E211 ++ (KO2 ++ (.row g6 (MsL.opened (fOf xs 18) ys ad2 kc2 ds).rcells :: .row g5 (fltL 0 0 ⟨#[]⟩) :: .row g3 (fltL 0 0 ⟨#[]⟩) :: [.row g2 (MsL.zero 0).rcells]))))) (fun w hS => hS.permC (by intro c h1 h2 h3 e; simp only [h1, h2, h3]; omega)) ?_
                  refine WL.nilH (fun w hS => hS.sub (by repeat (first | exact List.Sublist.refl _ | exact List.nil_sublist _ | refine List.Sublist.cons _ ?_ | refine List.sublist_append_of_sublist_right ?_))) ?_
                  refine WRH.one (g := 2) 24 (by kernel_rfl) ?_
                  refine WL.appendL rfl rfl rfl Tryd.underlying46 Tryd.underlying46 sz_99 by_99 zero_99 rfl rfl hV2 (new := CapL.cells (⟨fOf xs j, ad211, c211, zs3.take n3⟩ : CapL)) (fun _ => ⟨g213, 0, rfl, fun w hS => allAt (g := g213) w hS⟩) rfl rfl (by omega) (.none rfl) rfl rfl ?_
                  intro ad214 c214 E214 hV214 hr214
                  rw [← capsL_snoc] at hV214
                  rw [show ds.length + 1 = (ds ++ [(⟨fOf xs j, ad211, c211, zs3.take n3⟩ : CapL)]).length by rw [List.length_append]; rfl] at hV214 ⊢
                  refine WL.nilH (fun w hS => hS.sub (by repeat (first | exact List.Sublist.refl _ | exact List.nil_sublist _ | refine List.Sublist.cons _ ?_ | refine List.sublist_append_of_sublist_right ?_))) ?_
                  refine WRH.first (g := 1) [25] (by kernel_rfl) (by kernel_rfl) (fun w hS => hS.sub (by repeat (first | exact List.Sublist.refl _ | exact List.nil_sublist _ | refine List.Sublist.cons _ ?_ | refine List.sublist_append_of_sublist_right ?_))) ?_
                  refine WH.val (v_fieldAddr0 rfl rfl fld_53_4) (.none rfl) rfl rfl ?_
                  refine WH.nil ?_
                  refine WRH.one (g := 0) 26 (by kernel_rfl) ?_
                  refine WL.store1 rfl rfl rfl rfl one_46 (Nat.le_of_ble_eq_true rfl) (.none rfl) rfl ?_
                  refine WL.as (L' := E214 ++ (.row g213 (CapL.cells (⟨fOf xs j, ad211, c211, zs3.take n3⟩ : CapL)) :: (E211 ++ (KO2 ++ (.row g6 (MsL.opened (fOf xs 18) ys ad214 c214 (ds ++ [(⟨fOf xs j, ad211, c211, zs3.take n3⟩ : CapL)])).rcells :: .row g5 (fltL 0 0 ⟨#[]⟩) :: .row g3 (fltL 0 0 ⟨#[]⟩) :: [.row g2 (MsL.zero 0).rcells]))))) rfl ?_
                  refine WL.nilH (fun w hS => hS.sub (by repeat (first | exact List.Sublist.refl _ | exact List.nil_sublist _ | refine List.Sublist.cons _ ?_ | refine List.sublist_append_of_sublist_right ?_))) ?_
                  refine WRH.done (by kernel_rfl) ?_
                  refine WE.then_n ?_
                  refine WC.region ?_
                  refine WL.val (v_move rfl rfl) (.none rfl) rfl rfl ?_
                  refine WL.val (v_move rfl rfl) (.none rfl) rfl rfl ?_
                  refine WL.val (v_move rfl rfl) (.none rfl) rfl rfl ?_
                  refine WL.val (v_add rfl rfl rfl (show _ = ((j + 1 : Nat) : Int) from (w_i64 (by omega) (by omega)).trans (by omega))) (.none rfl) rfl rfl ?_
                  refine WL.val (v_indexAddr (lo := j + 1) rfl rfl rfl Tryd.underlying22 sz_5 (by omega) (by omega)) (.none rfl) rfl rfl ?_
                  refine WL.val (v_load1 rfl rfl one_5 (cellOld (fun h => h) (hW.get (fOf_get (by omega))))) (.none rfl) rfl rfl ?_
                  refine WL.val (v_conv rfl rfl Tryd.underlying3 Tryd.underlying5 (w_i64 (by omega) (by omega))) (.none rfl) rfl rfl ?_
                  refine WL.val (v_add rfl rfl rfl (show _ = ((2 + n3 : Nat) : Int) from (w_i64 (by omega) (by omega)).trans (by omega))) (.none rfl) rfl rfl ?_
                  refine WL.val (v_add rfl rfl rfl (show _ = ((j + 2 + n3 : Nat) : Int) from (w_i64 (by omega) (by omega)).trans (by omega))) (.none rfl) rfl rfl ?_
                  refine WL.val (v_assign rfl rfl) (.none rfl) rfl rfl ?_
                  refine WL.nil ?_
                  refine WE.block_n ?_
                  exact WE.to (L' := E214 ++ ((E211 ++ KO2) ++ (.row g6 (MsL.opened (fOf xs 18) ys ad214 c214 (ds ++ [(⟨fOf xs j, ad211, c211, zs3.take n3⟩ : CapL)])).rcells :: .row g5 (fltL 0 0 ⟨#[]⟩) :: .row g3 (fltL 0 0 ⟨#[]⟩) :: [.row g2 (MsL.zero 0).rcells]))) (fun w hS => by
                  have := hS.sub (L' := E214 ++ (E211 ++ (KO2 ++ (.row g6 (MsL.opened (fOf xs 18) ys ad214 c214 (ds ++ [(⟨fOf xs j, ad211, c211, zs3.take n3⟩ : CapL)])).rcells :: .row g5 (fltL 0 0 ⟨#[]⟩) :: .row g3 (fltL 0 0 ⟨#[]⟩) :: [.row g2 (MsL.zero 0).rcells])))) (List.Sublist.append_left (.cons _ (.refl _)) _)
                  rwa [← List.append_assoc E211] at this) (WE.next ⟨j + 2 + n3, ds ++ [(⟨fOf xs j, ad211, c211, zs3.take n3⟩ : CapL)], ad214, c214, E214, E211 ++ KO2⟩ (by dsimp only; omega) ⟨by dsimp only; omega, by dsimp only; omega, by dsimp only; rw [List.length_append]; show _ + 1 ≤ _; omega, by dsimp only; rw [hcap, hvd, List.map_append]; show _ = capsR (_ ++ [(fOf xs j, _)]) _; rw [ex3], hV214, fun c' hc' => (by
                  rcases List.mem_append.1 hc' with hc' | hc'
                  · obtain ⟨E', r1, r2⟩ := hO2 c' hc'
                    exact ⟨E', r1, fun e he => List.mem_append_right _ (r2 e he)⟩
                  · rw [List.mem_singleton.1 hc']
                    exact ⟨E211, hV211, fun e he => List.mem_append_left _ he⟩)⟩ (.cons rfl (.cons rfl (.cons rfl (.cons rfl (.cons rfl (.cons rfl .nil)))))) (.refl _))
                 ·
                  refine WL.buildSlice rfl rfl Tryd.underlying46 sz_99 zero_99 rfl (by decide) rfl (.none rfl) rfl rfl ?_
                  intro g213 hg213
                  refine WL.as (L' := .row g213 (CapL.cells (⟨fOf xs j, ad211, c211, zs3.take n3⟩ : CapL)) :: (E211 ++ (E2 ++ (KO2 ++ (.row g6 (MsL.opened (fOf xs 18) ys ad2 kc2 ds).rcells :: .row g5 (fltL 0 0 ⟨#[]⟩) :: .row g3 (fltL 0 0 ⟨#[]⟩) :: [.row g2 (MsL.zero 0).rcells]))))) rfl ?_
                  refine WL.to (L' := E2 ++ (.row g213 (CapL.cells (⟨fOf xs j, ad211, c211, zs3.take n3⟩ : CapL)) :: (E211 ++ (KO2 ++ (.row g6 (MsL.opened (fOf xs 18) ys ad2 kc2 ds).rcells :: .row g5 (fltL 0 0 ⟨#[]⟩) :: .row g3 (fltL 0 0 ⟨#[]⟩) :: [.row g2 (MsL.zero 0).rcells]))))) (fun w hS => hS.permC (by intro c h1 h2 h3 e; simp only [h1, h2, h3]; omega)) ?_
                  refine WL.nilH (fun w hS => hS.sub (by repeat (first | exact List.Sublist.refl _ | exact List.nil_sublist _ | refine List.Sublist.cons _ ?_ | refine List.sublist_append_of_sublist_right ?_))) ?_
                  refine WRH.one (g := 3) 1 (by kernel_rfl) ?_
                  refine WL.val (v_load1 rfl rfl one_46 (cellAt (v := .slice ad2 ds.length kc2) rfl)) (.none rfl) rfl rfl ?_
                  refine WL.nilH (fun w hS => hS.sub (by repeat (first | exact List.Sublist.refl _ | exact List.nil_sublist _ | refine List.Sublist.cons _ ?_ | refine List.sublist_append_of_sublist_right ?_))) ?_
                  refine WRH.one (g := 2) 24 (by kernel_rfl) ?_
                  refine WL.appendL rfl rfl rfl Tryd.underlying46 Tryd.underlying46 sz_99 by_99 zero_99 rfl rfl hV2 (new := CapL.cells (⟨fOf xs j, ad211, c211, zs3.take n3⟩ : CapL)) (fun _ => ⟨g213, 0, rfl, fun w hS => allAt (g := g213) w hS⟩) rfl rfl (by omega) (.none rfl) rfl rfl ?_
                  intro ad214 c214 E214 hV214 hr214
                  rw [← capsL_snoc] at hV214
                  rw [show ds.length + 1 = (ds ++ [(⟨fOf xs j, ad211, c211, zs3.take n3⟩ : CapL)]).length by rw [List.length_append]; rfl] at hV214 ⊢
                  refine WL.nilH (fun w hS => hS.sub (by repeat (first | exact List.Sublist.refl _ | exact List.nil_sublist _ | refine List.Sublist.cons _ ?_ | refine List.sublist_append_of_sublist_right ?_))) ?_
                  refine WRH.first (g := 1) [25] (by kernel_rfl) (by kernel_rfl) (fun w hS => hS.sub (by repeat (first | exact List.Sublist.refl _ | exact List.nil_sublist _ | refine List.Sublist.cons _ ?_ | refine List.sublist_append_of_sublist_right ?_))) ?_
                  refine WH.val (v_fieldAddr0 rfl rfl fld_53_4) (.none rfl) rfl rfl ?_
                  refine WH.nil ?_
                  refine WRH.one (g := 0) 26 (by kernel_rfl) ?_
                  refine WL.store1 rfl rfl rfl rfl one_46 (Nat.le_of_ble_eq_true rfl) (.none rfl) rfl ?_
                  refine WL.as (L' := E214 ++ (.row g213 (CapL.cells (⟨fOf xs j, ad211, c211, zs3.take n3⟩ : CapL)) :: (E211 ++ (KO2 ++ (.row g6 (MsL.opened (fOf xs 18) ys ad214 c214 (ds ++ [(⟨fOf xs j, ad211, c211, zs3.take n3⟩ : CapL)])).rcells :: .row g5 (fltL 0 0 ⟨#[]⟩) :: .row g3 (fltL 0 0 ⟨#[]⟩) :: [.row g2 (MsL.zero 0).rcells]))))) rfl ?_
                  refine WL.nilH (fun w hS => hS.sub (by repeat (first | exact List.Sublist.refl _ | exact List.nil_sublist _ | refine List.Sublist.cons _ ?_ | refine List.sublist_append_of_sublist_right ?_))) ?_
                  refine WRH.done (by kernel_rfl) ?_
                  refine WE.then_n ?_
                  refine WC.region ?_
                  refine WL.val (v_move rfl rfl) (.none rfl) rfl rfl ?_
                  refine WL.val (v_move rfl rfl) (.none rfl) rfl rfl ?_
                  refine WL.val (v_move rfl rfl) (.none rfl) rfl rfl ?_
                  refine WL.val (v_add rfl rfl rfl (show _ = ((j + 1 : Nat) : Int) from (w_i64 (by omega) (by omega)).trans (by omega))) (.none rfl) rfl rfl ?_
                  refine WL.val (v_indexAddr (lo := j + 1) rfl rfl rfl Tryd.underlying22 sz_5 (by omega) (by omega)) (.none rfl) rfl rfl ?_
                  refine WL.val (v_load1 rfl rfl one_5 (cellOld (fun h => h) (hW.get (fOf_get (by omega))))) (.none rfl) rfl rfl ?_
                  refine WL.val (v_conv rfl rfl Tryd.underlying3 Tryd.underlying5 (w_i64 (by omega) (by omega))) (.none rfl) rfl rfl ?_
                  refine WL.val (v_add rfl rfl rfl (show _ = ((2 + n3 : Nat) : Int) from (w_i64 (by omega) (by omega)).trans (by omega))) (.none rfl) rfl rfl ?_
                  refine WL.val (v_add rfl rfl rfl (show _ = ((j + 2 + n3 : Nat) : Int) from (w_i64 (by omega) (by omega)).trans (by omega))) (.none rfl) rfl rfl ?_
                  refine WL.val (v_assign rfl rfl) (.none rfl) rfl rfl ?_
                  refine WL.nil ?_
                  refine WE.block_n ?_
                  exact WE.to (L' := E214 ++ ((E211 ++ KO2) ++ (.row g6 (MsL.opened (fOf xs 18) ys ad214 c214 (ds ++ [(⟨fOf xs j, ad211, c211, zs3.take n3⟩ : CapL)])).rcells :: .row g5 (fltL 0 0 ⟨#[]⟩) :: .row g3 (fltL 0 0 ⟨#[]⟩) :: [.row g2 (MsL.zero 0).rcells]))) (fun w hS => by
                  have := hS.sub (L' := E214 ++ (E211 ++ (KO2 ++ (.row g6 (MsL.opened (fOf xs 18) ys ad214 c214 (ds ++ [(⟨fOf xs j, ad211, c211, zs3.take n3⟩ : CapL)])).rcells :: .row g5 (fltL 0 0 ⟨#[]⟩) :: .row g3 (fltL 0 0 ⟨#[]⟩) :: [.row g2 (MsL.zero 0).rcells])))) (List.Sublist.append_left (.cons _ (.refl _)) _)
                  rwa [← List.append_assoc E211] at this) (WE.next ⟨j + 2 + n3, ds ++ [(⟨fOf xs j, ad211, c211, zs3.take n3⟩ : CapL)], ad214, c214, E214, E211 ++ KO2⟩ (by dsimp only; omega) ⟨by dsimp only; omega, by dsimp only; omega, by dsimp only; rw [List.length_append]; show _ + 1 ≤ _; omega, by dsimp only; rw [hcap, hvd, List.map_append]; show _ = capsR (_ ++ [(fOf xs j, _)]) _; rw [ex3], hV214, fun c' hc' => (by
                  rcases List.mem_append.1 hc' with hc' | hc'
                  · obtain ⟨E', r1, r2⟩ := hO2 c' hc'
                    exact ⟨E', r1, fun e he => List.mem_append_right _ (r2 e he)⟩
                  · rw [List.mem_singleton.1 hc']
                    exact ⟨E211, hV211, fun e he => List.mem_append_left _ he⟩)⟩ (.cons rfl (.cons rfl (.cons rfl (.cons rfl (.cons rfl (.cons rfl .nil)))))) (.refl _))
            ·
             refine WL.nil ?_
             refine WE.then_n ?_
             refine WC.cond_f rfl ?_
             refine WC.exit ?_
             refine WE.then_exit ?_
             refine WE.then_exit ?_
             refine WE.block_hit ?_
             refine WE.block_n ?_
             have hje2 : j = k + 2 + n := (by omega)
             exact WE.next ⟨j, ds, ad2, kc2, E2, KO2⟩ (by dsimp only; omega) ⟨by dsimp only; omega, by dsimp only; omega, hdl2, by
               dsimp only
               rw [hop, hcap, show k + 2 + n - j = 0 by omega, List.take_zero, capsR_nil, hzs, List.drop_drop, hje2], hV2, hO2⟩ (.cons rfl (.cons rfl (.cons rfl (.cons rfl (.cons rfl .nil))))) (.refl _)
        ·
         refine WL.nil ?_
         refine WE.then_n ?_
         refine WC.cond_f rfl ?_
         refine WC.exit ?_
         refine WE.then_exit ?_
         refine WE.then_exit ?_
         refine WE.block_hit ?_
         refine WE.then_n ?_
         refine WC.seq ?_
         refine WC.seq ?_
         refine WC.region ?_
         refine WL.val (v_fieldAddr0 rfl rfl fld_53_0) (.none rfl) rfl rfl ?_
         refine WL.val (v_load1 rfl rfl one_3 (cellAt (v := .int .i64 (fOf xs 18)) rfl)) (.none rfl) rfl rfl ?_
         refine WL.val ((v_eql rfl rfl rfl).f (by omega)) (.none rfl) rfl rfl ?_
         refine WL.nil ?_
         refine WE.then_n ?_
         refine WC.cond_f rfl ?_
         refine WC.skip ?_
         refine WE.then_n ?_
         refine WC.seq ?_
         refine WC.seq ?_
         refine WC.region ?_
         refine WL.val (v_fieldAddr0 rfl rfl fld_53_0) (.none rfl) rfl rfl ?_
         refine WL.val (v_load1 rfl rfl one_3 (cellAt (v := .int .i64 (fOf xs 18)) rfl)) (.none rfl) rfl rfl ?_
         refine WL.val ((v_eql rfl rfl rfl).f (by omega)) (.none rfl) rfl rfl ?_
         refine WL.nil ?_
         refine WE.then_n ?_
         refine WC.cond_f rfl ?_
         refine WC.skip ?_
         refine WE.then_n ?_
         refine WC.seq ?_
         refine WC.region ?_
         refine WL.val (v_loadN rfl rfl many_53 rfl allAt) (.none rfl) rfl rfl ?_
         refine WL.val (v_build rfl rfl zero_28 plc_28 rfl) (.none rfl) rfl rfl ?_
         refine WL.storeW rfl rfl rfl rfl many_53 rfl rfl (.none rfl) rfl ?_
         refine WL.storeW rfl rfl rfl rfl many_28 rfl rfl (.none rfl) rfl ?_
         refine WL.nil ?_
         refine WE.then_n ?_
         refine WC.ret ?_
         refine WE.ret2 (P := Tryd.prog) (.inl rfl) Tryd.results18 (resRow rfl many_53 rfl) (resRow rfl many_28 rfl) ?_
         have hkx : xs.drop k = [] := List.drop_eq_nil_of_le (by omega)
         have e2 : openR ys = .inl (cs.map capD) := (by rw [hop, hkx, optsR_nil])
         have e1 : decM xs = .inl (MsL.d (MsL.opened (fOf xs 18) ys ad kc cs)) := (by rw [e00]; unfold bodyM; rw [if_pos h42, e2]; rfl)
         exact fun w' h => by
           unfold RMsP
           rw [e1]
           refine ⟨MsL.opened (fOf xs 18) ys ad kc cs, E ++ KO, rfl, rfl, ⟨⟨E, hV, fun e he => List.mem_append_left _ he⟩, fun c' hc' => ?_, ⟨[], Vec.nil 2, fun _ h => by cases h⟩, ⟨[], Vec.nil 2, fun _ h => by cases h⟩, AtAll.zero.mono fun _ h => by cases h⟩, h.sub (List.Sublist.append_left (List.sublist_append_left _ _) _)⟩
           obtain ⟨E', r1, r2⟩ := hO c' hc'
           exact ⟨E', r1, fun e he => List.mem_append_right _ (r2 e he)⟩
  ·
   refine WL.nil ?_
   refine WE.then_n ?_
   refine WC.cond_f rfl ?_
   refine WC.skip ?_
   refine WE.then_n ?_
   refine WC.seq ?_
   refine WC.seq ?_
   refine WC.region ?_
   refine WL.val (v_fieldAddr0 rfl rfl fld_53_0) (.none rfl) rfl rfl ?_
   refine WL.val (v_load1 rfl rfl one_3 (cellAt (v := .int .i64 (fOf xs 18)) rfl)) (.none rfl) rfl rfl ?_
   refine WL.test (v_eql rfl rfl rfl) (.none rfl) rfl rfl (fun h227 => ?_) (fun h227 => ?_)
   ·
    refine WL.nil ?_
    refine WE.then_n ?_
    refine WC.cond_t rfl ?_
    refine WC.seq ?_
    refine WC.quiet mixed (by kernel_rfl) ?_
    have hl23 : 23 ≤ xs.length := (by rw [hlst, if_neg h42, if_pos h227] at hle2; omega)
    have hnu : ∀ f, updR ys = .inr f → decM xs = .inr f := (fun f h => by rw [e00]; unfold bodyM; rw [if_neg h42, if_pos h227, h])
    have b0 := hb 0
    have b1 := hb 1
    obtain ⟨g, hgv⟩ := Int.eq_ofNat_of_zero_le (show 0 ≤ fOf ys 0 * 256 + fOf ys 1 by omega)
    refine WQ.val (v_move rfl rfl) (.none rfl) rfl rfl ?_
    refine WQ.val (v_indexAddr (lo := 19) rfl rfl rfl Tryd.underlying22 sz_5 rfl (by omega)) (.none rfl) rfl rfl ?_
    refine WQ.val (v_load1 rfl rfl one_5 ((fun w hS => hgc w _ 0 (by omega) hS))) (.none rfl) rfl rfl ?_
    refine WQ.val (v_conv rfl rfl Tryd.underlying3 Tryd.underlying5 (w_i64 (by omega) (by omega))) (.none rfl) rfl rfl ?_
    refine WQ.val (v_mul rfl rfl rfl (w_i64 (by omega) (by omega))) (.none rfl) rfl rfl ?_
    refine WQ.val (v_move rfl rfl) (.none rfl) rfl rfl ?_
    refine WQ.val (v_indexAddr (lo := 20) rfl rfl rfl Tryd.underlying22 sz_5 rfl (by omega)) (.none rfl) rfl rfl ?_
    refine WQ.val (v_load1 rfl rfl one_5 ((fun w hS => hgc w _ 1 (by omega) hS))) (.none rfl) rfl rfl ?_
    refine WQ.val (v_conv rfl rfl Tryd.underlying3 Tryd.underlying5 (w_i64 (by omega) (by omega))) (.none rfl) rfl rfl ?_
    refine WQ.val (v_add rfl rfl rfl (w_i64 (by omega) (by omega))) (.none rfl) rfl rfl ?_
    rw [hgv]
    refine WQ.val (v_assign rfl rfl) (.none rfl) rfl rfl ?_
    refine WQ.nil ?_
    refine WE.then_n ?_
    refine WC.seq ?_
    refine WC.seq ?_
    refine WC.region ?_
    refine WL.val (v_move rfl rfl) (.none rfl) rfl rfl ?_
    refine WL.val (v_add rfl rfl rfl (w_i64 (by omega) (by omega))) (.none rfl) rfl rfl ?_
    refine WL.val (v_move rfl rfl) (.none rfl) rfl rfl ?_
    refine WL.val (v_len_slice rfl rfl Tryd.underlying22) (.none rfl) rfl rfl ?_
    refine WL.test (v_gtr rfl rfl rfl) (.none rfl) rfl rfl (fun h242 => ?_) (fun h242 => ?_)
    ·
     refine WL.nil ?_
     refine WE.then_n ?_
     refine WC.cond_t rfl ?_
     refine WC.seq ?_
     refine WC.region ?_
     refine WL.val (v_build rfl rfl zero_53 plc_53 rfl) (.none rfl) rfl rfl ?_
     refine WL.call rfl rfl ck_40 (.none rfl) rfl rfl ?_
     intro w hS
     refine Calls.then (RFault_c w 3 1 none 0 0 (fun _ => 0) (RdO.nil w _)) hS ?_
     refine WL.storeW rfl rfl rfl rfl many_53 rfl rfl (.none rfl) rfl ?_
     refine WL.storeW rfl rfl rfl rfl many_28 rfl rfl (.none rfl) rfl ?_
     refine WL.nil ?_
     refine WE.then_n ?_
     refine WC.ret ?_
     refine WE.then_ret ?_
     refine WE.then_ret ?_
     refine WE.ret2 (P := Tryd.prog) (.inl rfl) Tryd.results18 (resRow rfl many_53 rfl) (resRow rfl many_28 rfl) ?_
     have eu : updR ys = .inr (3, 1, ⟨#[]⟩) := (by
       unfold updR
       by_cases hc1 : ys.length < 2 + g
       · rw [show countR ys = none by unfold countR; rw [if_pos (.inr (by omega))]]
       · rw [show countR ys = some ((ys.drop 2).take g, ys.drop (2 + g)) by unfold countR; rw [if_neg (by omega), hgv, Int.toNat_natCast]]
         dsimp only
         rw [show countR (ys.drop (2 + g)) = none by unfold countR; rw [if_pos (.inl (by rw [List.length_drop]; omega))]])
     exact fun w' h => RMsP.no (hnu _ eu) h
    ·
     refine WL.nil ?_
     refine WE.then_n ?_
     refine WC.cond_f rfl ?_
     refine WC.skip ?_
     refine WE.then_n ?_
     refine WC.seq ?_
     refine WC.quiet mixed (by kernel_rfl) ?_
     have ec1 : countR ys = some ((ys.drop 2).take g, ys.drop (2 + g)) := (by unfold countR; rw [if_neg (by omega), hgv, Int.toNat_natCast])
     have bg0 := hb (2 + g)
     have bg1 := hb (3 + g)
     obtain ⟨q, hqv⟩ := Int.eq_ofNat_of_zero_le (show 0 ≤ fOf ys (2 + g) * 256 + fOf ys (3 + g) by omega)
     have hfr : fOf (ys.drop (2 + g)) 0 * 256 + fOf (ys.drop (2 + g)) 1 = q := (by rw [fOf_drop, fOf_drop, show 2 + g + 1 = 3 + g by omega]; exact hqv)
     have hrl : (ys.drop (2 + g)).length = xs.length - (21 + g) := (by rw [List.length_drop]; omega)
     refine WQ.val (v_move rfl rfl) (.none rfl) rfl rfl ?_
     refine WQ.val (v_move rfl rfl) (.none rfl) rfl rfl ?_
     refine WQ.val (v_add rfl rfl rfl (show _ = ((19 + (2 + g) : Nat) : Int) from (w_i64 (by omega) (by omega)).trans (by omega))) (.none rfl) rfl rfl ?_
     refine WQ.val (v_indexAddr (lo := 19 + (2 + g)) rfl rfl rfl Tryd.underlying22 sz_5 (by omega) (by omega)) (.none rfl) rfl rfl ?_
     refine WQ.val (v_load1 rfl rfl one_5 ((fun w hS => hgc w _ (2 + g) (by omega) hS))) (.none rfl) rfl rfl ?_
     refine WQ.val (v_conv rfl rfl Tryd.underlying3 Tryd.underlying5 (w_i64 (by omega) (by omega))) (.none rfl) rfl rfl ?_
     refine WQ.val (v_mul rfl rfl rfl (w_i64 (by omega) (by omega))) (.none rfl) rfl rfl ?_
     refine WQ.val (v_move rfl rfl) (.none rfl) rfl rfl ?_
     refine WQ.val (v_move rfl rfl) (.none rfl) rfl rfl ?_
     refine WQ.val (v_add rfl rfl rfl (show _ = ((19 + (3 + g) : Nat) : Int) from (w_i64 (by omega) (by omega)).trans (by omega))) (.none rfl) rfl rfl ?_
     refine WQ.val (v_indexAddr (lo := 19 + (3 + g)) rfl rfl rfl Tryd.underlying22 sz_5 (by omega) (by omega)) (.none rfl) rfl rfl ?_
     refine WQ.val (v_load1 rfl rfl one_5 ((fun w hS => hgc w _ (3 + g) (by omega) hS))) (.none rfl) rfl rfl ?_
     refine WQ.val (v_conv rfl rfl Tryd.underlying3 Tryd.underlying5 (w_i64 (by omega) (by omega))) (.none rfl) rfl rfl ?_
     refine WQ.val (v_add rfl rfl rfl (w_i64 (by omega) (by omega))) (.none rfl) rfl rfl ?_
     rw [hqv]
     refine WQ.val (v_assign rfl rfl) (.none rfl) rfl rfl ?_
     refine WQ.nil ?_
     refine WE.then_n ?_
     refine WC.seq ?_
     refine WC.seq ?_
     refine WC.region ?_
     refine WL.val (v_move rfl rfl) (.none rfl) rfl rfl ?_
     refine WL.val (v_add rfl rfl rfl (w_i64 (by omega) (by omega))) (.none rfl) rfl rfl ?_
     refine WL.val (v_move rfl rfl) (.none rfl) rfl rfl ?_
     refine WL.val (v_add rfl rfl rfl (w_i64 (by omega) (by omega))) (.none rfl) rfl rfl ?_
     refine WL.val (v_move rfl rfl) (.none rfl) rfl rfl ?_
     refine WL.val (v_len_slice rfl rfl Tryd.underlying22) (.none rfl) rfl rfl ?_
     refine WL.test (v_gtr rfl rfl rfl) (.none rfl) rfl rfl (fun h265 => ?_) (fun h265 => ?_)
     ·
      refine WL.nil ?_
      refine WE.then_n ?_
      refine WC.cond_t rfl ?_
      refine WC.seq ?_
      refine WC.region ?_
      refine WL.val (v_build rfl rfl zero_53 plc_53 rfl) (.none rfl) rfl rfl ?_
      refine WL.call rfl rfl ck_40 (.none rfl) rfl rfl ?_
      intro w hS
      refine Calls.then (RFault_c w 3 1 none 0 0 (fun _ => 0) (RdO.nil w _)) hS ?_
      refine WL.storeW rfl rfl rfl rfl many_53 rfl rfl (.none rfl) rfl ?_
      refine WL.storeW rfl rfl rfl rfl many_28 rfl rfl (.none rfl) rfl ?_
      refine WL.nil ?_
      refine WE.then_n ?_
      refine WC.ret ?_
      refine WE.then_ret ?_
      refine WE.then_ret ?_
      refine WE.ret2 (P := Tryd.prog) (.inl rfl) Tryd.results18 (resRow rfl many_53 rfl) (resRow rfl many_28 rfl) ?_
      have eu : updR ys = .inr (3, 1, ⟨#[]⟩) := (by
        unfold updR
        rw [ec1]
        dsimp only
        rw [show countR (ys.drop (2 + g)) = none by unfold countR; rw [hfr, if_pos (.inr (by omega))]])
      exact fun w' h => RMsP.no (hnu _ eu) h
     ·
      refine WL.nil ?_
      refine WE.then_n ?_
      refine WC.cond_f rfl ?_
      refine WC.skip ?_
      refine WE.then_n ?_
      refine WC.seq ?_
      refine WC.region ?_
      have ec2 : countR (ys.drop (2 + g)) = some (((ys.drop (2 + g)).drop 2).take q, (ys.drop (2 + g)).drop (2 + q)) := (by unfold countR; rw [hfr, if_neg (by omega), Int.toNat_natCast])
      obtain ⟨xg, hxg⟩ : ∃ z, z = (ys.drop 2).take g := ⟨_, rfl⟩
      obtain ⟨xa, hxa⟩ : ∃ z, z = ((ys.drop (2 + g)).drop 2).take q := ⟨_, rfl⟩
      obtain ⟨xn, hxn⟩ : ∃ z, z = (ys.drop (2 + g)).drop (2 + q) := ⟨_, rfl⟩
      have hgl : xg.length = g := (by rw [hxg, List.length_take, List.length_drop]; omega)
      have hal : xa.length = q := (by rw [hxa, List.length_take, List.length_drop]; omega)
      have hnl : xn.length = xs.length - (23 + g + q) := (by rw [hxn, List.length_drop]; omega)
      have hWg : Win w0 b (sAddr o 21 c 1) (c - 21) xg := (by rw [hxg, show (ys.drop 2).take g = (xs.take (21 + g)).drop 21 by rw [hys, List.drop_drop, List.drop_take, Nat.add_sub_cancel_left]]; exact (hW.take _).drop _)
      have hWa : Win w0 b (sAddr o (23 + g) c 1) (c - (23 + g)) xa := (by rw [hxa, show ((ys.drop (2 + g)).drop 2).take q = (xs.take (23 + g + q)).drop (23 + g) by rw [hys, List.drop_drop, List.drop_drop, List.drop_take, Nat.add_sub_cancel_left]; congr 2; omega]; exact (hW.take _).drop _)
      have hWn : Win w0 b (sAddr o (23 + g + q) c 1) (c - (23 + g + q)) xn := (by rw [hxn, show (ys.drop (2 + g)).drop (2 + q) = xs.drop (23 + g + q) by rw [hys, List.drop_drop, List.drop_drop]; congr 1; omega]; exact hW.drop _)
      rw [← hxg] at ec1
      rw [← hxa, ← hxn] at ec2
      refine WL.val (v_move rfl rfl) (.none rfl) rfl rfl ?_
      refine WL.val (v_move rfl rfl) (.none rfl) rfl rfl ?_
      refine WL.val (v_add rfl rfl rfl (show _ = ((21 + g : Nat) : Int) from (w_i64 (by omega) (by omega)).trans (by omega))) (.none rfl) rfl rfl ?_
      refine WL.val ((v_slice_lh (lo := 21) (hi := 21 + g) rfl rfl rfl rfl Tryd.underlying22 sz_5 rfl rfl (by omega) (by omega))) (.none rfl) rfl rfl ?_
      rw [show 21 + g - 21 = xg.length by omega]
      refine WL.call rfl rfl ck_43 (.none rfl) rfl rfl ?_
      intro w1 hS
      refine (RRead_u w1 b (sAddr o 21 c 1) (c - 21) xg (hWg.st hS) (by omega)).mono ?_
      rintro e w' ⟨gs, gad, gc, Eg, ok3, rfl, hVg, hSg, hbad3, hok3⟩
      refine ⟨_, _, rfl, hS.join hSg, ?_⟩
      refine WL.val (v_move rfl rfl) (.none rfl) rfl rfl ?_
      refine WL.val (v_extract rfl rfl rfl) (.none rfl) rfl rfl ?_
      refine WL.val (v_extract rfl rfl rfl) (.none rfl) rfl rfl ?_
      skip
      cases ok3
      ·
       refine WL.val (v_assign rfl rfl) (.none rfl) rfl rfl ?_
       refine WL.val (v_assign rfl rfl) (.none rfl) rfl rfl ?_
       refine WL.nil ?_
       refine WE.then_n ?_
       refine WC.seq ?_
       refine WC.seq ?_
       refine WC.region ?_
       refine WL.val (v_move rfl rfl) (.none rfl) rfl rfl ?_
       refine WL.val (v_not rfl rfl rfl) (.none rfl) rfl rfl ?_
       refine WL.nil ?_
       refine WE.then_n ?_
       refine WC.cond_t rfl ?_
       refine WC.seq ?_
       refine WC.region ?_
       refine WL.val (v_build rfl rfl zero_53 plc_53 rfl) (.none rfl) rfl rfl ?_
       refine WL.call rfl rfl ck_40 (.none rfl) rfl rfl ?_
       intro w hS
       refine Calls.then (RFault_c w 3 1 none 0 0 (fun _ => 0) (RdO.nil w _)) hS ?_
       refine WL.storeW rfl rfl rfl rfl many_53 rfl rfl (.none rfl) rfl ?_
       refine WL.storeW rfl rfl rfl rfl many_28 rfl rfl (.none rfl) rfl ?_
       refine WL.nil ?_
       refine WE.then_n ?_
       refine WC.ret ?_
       refine WE.then_ret ?_
       refine WE.then_ret ?_
       refine WE.ret2 (P := Tryd.prog) (.inl rfl) Tryd.results18 (resRow rfl many_53 rfl) (resRow rfl many_28 rfl) ?_
       have eu : updR ys = .inr (3, 1, ⟨#[]⟩) := (by unfold updR; rw [ec1]; dsimp only; rw [ec2]; dsimp only; rw [hbad3 rfl])
       exact fun w' h => RMsP.no (hnu _ eu) h
      ·
       refine WL.val (v_assign rfl rfl) (.none rfl) rfl rfl ?_
       refine WL.val (v_assign rfl rfl) (.none rfl) rfl rfl ?_
       refine WL.nil ?_
       refine WE.then_n ?_
       refine WC.seq ?_
       refine WC.seq ?_
       refine WC.region ?_
       refine WL.val (v_move rfl rfl) (.none rfl) rfl rfl ?_
       refine WL.val (v_not rfl rfl rfl) (.none rfl) rfl rfl ?_
       refine WL.nil ?_
       refine WE.then_n ?_
       refine WC.cond_f rfl ?_
       refine WC.skip ?_
       refine WE.then_n ?_
       refine WC.seq ?_
       refine WC.region ?_
       refine WL.val (v_move rfl rfl) (.none rfl) rfl rfl ?_
       refine WL.val (v_move rfl rfl) (.none rfl) rfl rfl ?_
       refine WL.val (v_add rfl rfl rfl (show _ = ((23 + g : Nat) : Int) from (w_i64 (by omega) (by omega)).trans (by omega))) (.none rfl) rfl rfl ?_
       refine WL.val (v_move rfl rfl) (.none rfl) rfl rfl ?_
       refine WL.val (v_add rfl rfl rfl (show _ = ((23 + g : Nat) : Int) from (w_i64 (by omega) (by omega)).trans (by omega))) (.none rfl) rfl rfl ?_
       refine WL.val (v_move rfl rfl) (.none rfl) rfl rfl ?_
       refine WL.val (v_add rfl rfl rfl (show _ = ((23 + g + q : Nat) : Int) from (w_i64 (by omega) (by omega)).trans (by omega))) (.none rfl) rfl rfl ?_
       refine WL.val ((v_slice_lh (lo := 23 + g) (hi := 23 + g + q) rfl rfl rfl rfl Tryd.underlying22 sz_5 rfl rfl (by omega) (by omega))) (.none rfl) rfl rfl ?_
       rw [show 23 + g + q - (23 + g) = xa.length by omega]
       refine WL.call rfl rfl ck_44 (.none rfl) rfl rfl ?_
       intro w1 hS
       refine (RDec06_u w1 b (sAddr o (23 + g) c 1) (c - (23 + g)) xa (hWa.st hS) (by omega)).mono ?_
       rintro e w' ⟨ok4, s4, d4, a, Ka, rfl, hAa, hSa, hbad4, hok4⟩
       refine ⟨_, _, rfl, hS.join hSa, ?_⟩
       refine WL.val (v_move rfl rfl) (.none rfl) rfl rfl ?_
       refine WL.val (v_extract rfl rfl rfl) (.none rfl) rfl rfl ?_
       refine WL.val (v_extract rfl rfl rfl) (.none rfl) rfl rfl ?_
       refine WL.alloc rfl zero_51 (.none rfl) rfl rfl ?_
       intro g13 hg13
       refine WL.alloc rfl zero_28 (.none rfl) rfl rfl ?_
       intro g14 hg14
       refine WL.storeW rfl rfl rfl rfl many_51 rfl rfl (.none rfl) rfl ?_
       refine WL.storeW rfl rfl rfl rfl many_28 rfl rfl (.none rfl) rfl ?_
       refine WL.as (L' := .row g14 (fltL (if ok4 then 0 else 3) s4 d4) :: .row g13 a.rcells :: (Ka ++ (Eg ++ (.row g6 (MsL.zero (fOf xs 18)).rcells :: .row g5 (fltL 0 0 ⟨#[]⟩) :: .row g3 (fltL 0 0 ⟨#[]⟩) :: [.row g2 (MsL.zero 0).rcells])))) rfl ?_
       cases ok4
       ·
        refine WL.nil ?_
        refine WE.then_n ?_
        refine WC.seq ?_
        refine WC.seq ?_
        refine WC.region ?_
        refine WL.val (v_fieldAddr0 rfl rfl fld_28_0) (.none rfl) rfl rfl ?_
        refine WL.val (v_load1 rfl rfl one_3 (cellAt rfl)) (.none rfl) rfl rfl ?_
        refine WL.val ((v_neq rfl rfl rfl).t ((by intro h; simp at h))) (.none rfl) rfl rfl ?_
        refine WL.nil ?_
        refine WE.then_n ?_
        refine WC.cond_t rfl ?_
        refine WC.seq ?_
        refine WC.orders mixed ?_
        refine WR.first (g := 3) [0] (by kernel_rfl) (by kernel_rfl) ?_
        refine WP.val (v_build rfl rfl zero_53 plc_53 rfl) (.none rfl) rfl rfl ?_
        refine WP.nil ?_
        refine WR.each (g := 2) [1, 2] (by kernel_rfl) (by decide) ?_
        refine ⟨?_, ?_⟩
        ·
         refine WL.val (v_loadN rfl rfl many_28 rfl allAt) (.none rfl) rfl rfl ?_
         refine WL.nilR ?_
         refine WR.ones (g := 0) [2, 3] (by kernel_rfl) ?_
         refine WL.storeW rfl rfl rfl rfl many_53 rfl rfl (.none rfl) rfl ?_
         refine WL.storeW rfl rfl rfl rfl many_28 rfl rfl (.none rfl) rfl ?_
         refine WL.nilR ?_
         refine WR.done (by kernel_rfl) ?_
         refine WE.then_n ?_
         refine WC.ret ?_
         refine WE.then_ret ?_
         refine WE.then_ret ?_
         refine WE.ret2 (P := Tryd.prog) (.inl rfl) Tryd.results18 (resRow rfl many_53 rfl) (resRow rfl many_28 rfl) ?_
         have eu : updR ys = .inr (3, s4, d4) := (by unfold updR; rw [ec1]; dsimp only; rw [ec2]; dsimp only; rw [hok3 rfl]; dsimp only; rw [hbad4 rfl])
         exact fun w' h => RMsP.no (hnu _ eu) h
        ·
         refine WL.storeW rfl rfl rfl rfl many_53 rfl rfl (.none rfl) rfl ?_
         refine WL.nilR ?_
         refine WR.read (g := 1) [1] (by kernel_rfl) (by kernel_rfl) (by kernel_rfl) (by kernel_rfl) rfl ?_
         refine WQ.val (v_loadN rfl rfl many_28 rfl allAt) (.none rfl) rfl rfl ?_
         refine WQ.nilR ?_
         refine WR.ones (g := 0) [3] (by kernel_rfl) ?_
         refine WL.storeW rfl rfl rfl rfl many_28 rfl rfl (.none rfl) rfl ?_
         refine WL.nilR ?_
         refine WR.done (by kernel_rfl) ?_
         refine WE.then_n ?_
         refine WC.ret ?_
         refine WE.then_ret ?_
         refine WE.then_ret ?_
         refine WE.ret2 (P := Tryd.prog) (.inl rfl) Tryd.results18 (resRow rfl many_53 rfl) (resRow rfl many_28 rfl) ?_
         have eu : updR ys = .inr (3, s4, d4) := (by unfold updR; rw [ec1]; dsimp only; rw [ec2]; dsimp only; rw [hok3 rfl]; dsimp only; rw [hbad4 rfl])
         exact fun w' h => RMsP.no (hnu _ eu) h
       ·
        refine WL.nil ?_
        refine WE.then_n ?_
        refine WC.seq ?_
        refine WC.seq ?_
        refine WC.region ?_
        refine WL.val (v_fieldAddr0 rfl rfl fld_28_0) (.none rfl) rfl rfl ?_
        refine WL.val (v_load1 rfl rfl one_3 (cellAt (g := g14) (v := .int .i64 0) rfl)) (.none rfl) rfl rfl ?_
        refine WL.val ((v_neq rfl rfl rfl).f (by omega)) (.none rfl) rfl rfl ?_
        refine WL.nil ?_
        refine WE.then_n ?_
        refine WC.cond_f rfl ?_
        refine WC.skip ?_
        refine WE.then_n ?_
        refine WC.seq ?_
        refine WC.region ?_
        refine WL.val (v_move rfl rfl) (.none rfl) rfl rfl ?_
        refine WL.val (v_move rfl rfl) (.none rfl) rfl rfl ?_
        refine WL.val (v_add rfl rfl rfl (show _ = ((23 + g : Nat) : Int) from (w_i64 (by omega) (by omega)).trans (by omega))) (.none rfl) rfl rfl ?_
        refine WL.val (v_move rfl rfl) (.none rfl) rfl rfl ?_
        refine WL.val (v_add rfl rfl rfl (show _ = ((23 + g + q : Nat) : Int) from (w_i64 (by omega) (by omega)).trans (by omega))) (.none rfl) rfl rfl ?_
        refine WL.val ((v_slice_lo (lo := 23 + g + q) rfl rfl rfl Tryd.underlying22 sz_5 rfl (by omega))) (.none rfl) rfl rfl ?_
        obtain ⟨rfl, rfl, dd, ed, ea⟩ := hok4 rfl
        rw [show xs.length - (23 + g + q) = xn.length by omega]
        refine WL.call rfl rfl ck_43 (.none rfl) rfl rfl ?_
        intro w1 hS
        refine (RRead_u w1 b (sAddr o (23 + g + q) c 1) (c - (23 + g + q)) xn (hWn.st hS) (by omega)).mono ?_
        rintro e w' ⟨ns, nad, nc, En, ok5, rfl, hVn, hSn, hbad5, hok5⟩
        refine ⟨_, _, rfl, hS.join hSn, ?_⟩
        have e1 : updR ys = match netsR xn with
            | none => .inr (3, 10, ⟨#[]⟩)
            | some ns => if 200 < gs.length ∨ 200 < ns.length then .inr (6, 1, ⟨#[]⟩) else if missI dd.has ≠ 0 ∧ 0 < ns.length then .inr (3, 3, oneS (missI dd.has)) else .inl (gs, { dd with others := sortO dd.others }, ns) := (by
          unfold updR; rw [ec1]; dsimp only; rw [ec2]; dsimp only; rw [hok3 rfl]; dsimp only; rw [ed]; cases netsR xn <;> rfl)
        have hah : dd.has = a.has := (by have := congrArg AtD.has ea; exact this.symm)
        rw [← ea, hah] at e1
        have hmi := missI_b a.has
        have hSn2 := decD_seen ed hWa.bys
        have hgl2 := netsR_len _ (Nat.le_refl _) (hok3 rfl)
        refine WL.val (v_move rfl rfl) (.none rfl) rfl rfl ?_
        refine WL.val (v_extract rfl rfl rfl) (.none rfl) rfl rfl ?_
        refine WL.val (v_extract rfl rfl rfl) (.none rfl) rfl rfl ?_
        skip
        cases ok5
        ·
         refine WL.val (v_assign rfl rfl) (.none rfl) rfl rfl ?_
         refine WL.val (v_assign rfl rfl) (.none rfl) rfl rfl ?_
         refine WL.nil ?_
         refine WE.then_n ?_
         refine WC.seq ?_
         refine WC.seq ?_
         refine WC.region ?_
         refine WL.val (v_move rfl rfl) (.none rfl) rfl rfl ?_
         refine WL.val (v_not rfl rfl rfl) (.none rfl) rfl rfl ?_
         refine WL.nil ?_
         refine WE.then_n ?_
         refine WC.cond_t rfl ?_
         refine WC.seq ?_
         refine WC.region ?_
         refine WL.val (v_build rfl rfl zero_53 plc_53 rfl) (.none rfl) rfl rfl ?_
         refine WL.call rfl rfl ck_40 (.none rfl) rfl rfl ?_
         intro w hS
         refine Calls.then (RFault_c w 3 10 none 0 0 (fun _ => 0) (RdO.nil w _)) hS ?_
         refine WL.storeW rfl rfl rfl rfl many_53 rfl rfl (.none rfl) rfl ?_
         refine WL.storeW rfl rfl rfl rfl many_28 rfl rfl (.none rfl) rfl ?_
         refine WL.nil ?_
         refine WE.then_n ?_
         refine WC.ret ?_
         refine WE.then_ret ?_
         refine WE.then_ret ?_
         refine WE.ret2 (P := Tryd.prog) (.inl rfl) Tryd.results18 (resRow rfl many_53 rfl) (resRow rfl many_28 rfl) ?_
         rw [hbad5 rfl] at e1
         exact fun w' h => RMsP.no (hnu _ (by rw [e1]; try rfl)) h
        ·
         refine WL.val (v_assign rfl rfl) (.none rfl) rfl rfl ?_
         refine WL.val (v_assign rfl rfl) (.none rfl) rfl rfl ?_
         refine WL.nil ?_
         refine WE.then_n ?_
         refine WC.seq ?_
         refine WC.seq ?_
         refine WC.region ?_
         refine WL.val (v_move rfl rfl) (.none rfl) rfl rfl ?_
         refine WL.val (v_not rfl rfl rfl) (.none rfl) rfl rfl ?_
         refine WL.nil ?_
         refine WE.then_n ?_
         refine WC.cond_f rfl ?_
         refine WC.skip ?_
         refine WE.then_n ?_
         refine WC.seq ?_
         refine WC.seq ?_
         refine WC.region ?_
         have hnl2 := netsR_len _ (Nat.le_refl _) (hok5 rfl)
         rw [hok5 rfl] at e1
         dsimp only at e1
         refine WL.val (v_move rfl rfl) (.none rfl) rfl rfl ?_
         refine WL.val (v_len_slice rfl rfl Tryd.underlying47) (.none rfl) rfl rfl ?_
         refine WL.test (v_gtr rfl rfl rfl) (.none rfl) rfl rfl (fun h313 => ?_) (fun h313 => ?_)
         ·
          refine WL.val (v_move rfl rfl) (.none rfl) rfl rfl ?_
          refine WL.skip rfl rfl rfl rfl rfl rfl ?_
          refine WL.skip rfl rfl rfl rfl rfl rfl ?_
          refine WL.skip rfl rfl rfl rfl rfl rfl ?_
          refine WL.val (v_pick_t rfl rfl rfl) (.none rfl) rfl rfl ?_
          refine WL.nil ?_
          refine WE.then_n ?_
          refine WC.cond_t rfl ?_
          refine WC.seq ?_
          refine WC.region ?_
          refine WL.val (v_build rfl rfl zero_53 plc_53 rfl) (.none rfl) rfl rfl ?_
          refine WL.call rfl rfl ck_40 (.none rfl) rfl rfl ?_
          intro w hS
          refine Calls.then (RFault_c w 6 1 none 0 0 (fun _ => 0) (RdO.nil w _)) hS ?_
          refine WL.storeW rfl rfl rfl rfl many_53 rfl rfl (.none rfl) rfl ?_
          refine WL.storeW rfl rfl rfl rfl many_28 rfl rfl (.none rfl) rfl ?_
          refine WL.nil ?_
          refine WE.then_n ?_
          refine WC.ret ?_
          refine WE.then_ret ?_
          refine WE.then_ret ?_
          refine WE.ret2 (P := Tryd.prog) (.inl rfl) Tryd.results18 (resRow rfl many_53 rfl) (resRow rfl many_28 rfl) ?_
          rw [if_pos (by omega)] at e1
          exact fun w' h => RMsP.no (hnu _ (by rw [e1]; try rfl)) h
         ·
          refine WL.val (v_move rfl rfl) (.none rfl) rfl rfl ?_
          refine WL.val (v_move rfl rfl) (.some rfl rfl rfl) rfl rfl ?_
          refine WL.val (v_len_slice rfl rfl Tryd.underlying47) (.some rfl rfl rfl) rfl rfl ?_
          refine WL.test (v_gtr rfl rfl rfl) (.some rfl rfl rfl) rfl rfl (fun h317 => ?_) (fun h317 => ?_)
          ·
           refine WL.val (v_pick_f rfl rfl rfl) (.none rfl) rfl rfl ?_
           refine WL.nil ?_
           refine WE.then_n ?_
           refine WC.cond_t rfl ?_
           refine WC.seq ?_
           refine WC.region ?_
           refine WL.val (v_build rfl rfl zero_53 plc_53 rfl) (.none rfl) rfl rfl ?_
           refine WL.call rfl rfl ck_40 (.none rfl) rfl rfl ?_
           intro w hS
           refine Calls.then (RFault_c w 6 1 none 0 0 (fun _ => 0) (RdO.nil w _)) hS ?_
           refine WL.storeW rfl rfl rfl rfl many_53 rfl rfl (.none rfl) rfl ?_
           refine WL.storeW rfl rfl rfl rfl many_28 rfl rfl (.none rfl) rfl ?_
           refine WL.nil ?_
           refine WE.then_n ?_
           refine WC.ret ?_
           refine WE.then_ret ?_
           refine WE.then_ret ?_
           refine WE.ret2 (P := Tryd.prog) (.inl rfl) Tryd.results18 (resRow rfl many_53 rfl) (resRow rfl many_28 rfl) ?_
           rw [if_pos (by omega)] at e1
           exact fun w' h => RMsP.no (hnu _ (by rw [e1]; try rfl)) h
          ·
           refine WL.val (v_pick_f rfl rfl rfl) (.none rfl) rfl rfl ?_
           refine WL.nil ?_
           refine WE.then_n ?_
           refine WC.cond_f rfl ?_
           refine WC.skip ?_
           refine WE.then_n ?_
           refine WC.seq ?_
           refine WC.seq ?_
           refine WC.region ?_
           rw [if_neg (by omega)] at e1
           refine WL.val (v_move rfl rfl) (.none rfl) rfl rfl ?_
           refine WL.val (v_len_slice rfl rfl Tryd.underlying47) (.none rfl) rfl rfl ?_
           refine WL.test (v_gtr rfl rfl rfl) (.none rfl) rfl rfl (fun h323 => ?_) (fun h323 => ?_)
           ·
            refine WL.val (v_move rfl rfl) (.none rfl) rfl rfl ?_
            refine WL.val (v_loadN rfl rfl many_51 rfl allAt) (.some rfl rfl rfl) rfl rfl ?_
            refine WL.call rfl rfl ck_45 (.some rfl rfl rfl) rfl rfl ?_
            intro w hS
            refine Calls.then (RMissing_c w a (by omega) (by omega)) hS ?_
            refine WL.test (v_gtr rfl rfl rfl) (.some rfl rfl rfl) rfl rfl (fun h327 => ?_) (fun h327 => ?_)
            ·
             refine WL.val (v_pick_t rfl rfl rfl) (.none rfl) rfl rfl ?_
             refine WL.nil ?_
             refine WE.then_n ?_
             refine WC.cond_t rfl ?_
             refine WC.seq ?_
             refine WC.region ?_
             refine WL.val (v_build rfl rfl zero_53 plc_53 rfl) (.none rfl) rfl rfl ?_
             refine WL.val (v_loadN rfl rfl many_51 rfl allAt) (.none rfl) rfl rfl ?_
             refine WL.call rfl rfl ck_45 (.none rfl) rfl rfl ?_
             intro w hS
             refine Calls.then (RMissing_c w a (by omega) (by omega)) hS ?_
             refine WL.val (v_conv rfl rfl Tryd.underlying5 Tryd.underlying3 (w_u8 (by omega) (by omega))) (.none rfl) rfl rfl ?_
             refine WL.buildSlice rfl rfl Tryd.underlying22 sz_5 zero_5 rfl (by decide) rfl (.none rfl) rfl rfl ?_
             intro g333 hg333
             refine WL.call rfl rfl ck_40 (.none rfl) rfl rfl ?_
             intro w hS
             refine Calls.then (RFault_c w 3 3 (some ⟨g333, 0, none⟩) 1 1 (fun _ => missI a.has) (fun _ => ⟨g333, 0, rfl, fun i hi => by
             obtain rfl : i = 0 := (by omega)
             exact hS.cell (g := g333) rfl⟩)) hS ?_
             refine WL.storeW rfl rfl rfl rfl many_53 rfl rfl (.none rfl) rfl ?_
             refine WL.storeW rfl rfl rfl rfl many_28 rfl rfl (.none rfl) rfl ?_
             refine WL.nil ?_
             refine WE.then_n ?_
             refine WC.ret ?_
             refine WE.then_ret ?_
             refine WE.then_ret ?_
             refine WE.ret2 (P := Tryd.prog) (.inl rfl) Tryd.results18 (resRow rfl many_53 rfl) (resRow rfl many_28 rfl) ?_
             rw [if_pos ⟨by omega, by omega⟩] at e1
             exact fun w' h => RMsP.no (hnu _ (by rw [e1]; try rfl)) h
            ·
             refine WL.val (v_pick_t rfl rfl rfl) (.none rfl) rfl rfl ?_
             refine WL.nil ?_
             refine WE.then_n ?_
             refine WC.cond_f rfl ?_
             refine WC.skip ?_
             refine WE.then_n ?_
             refine WC.seq ?_
             refine WC.region ?_
             refine WL.val (v_move rfl rfl) (.none rfl) rfl rfl ?_
             refine WL.val (v_fieldAddr0 rfl rfl fld_53_5) (.none rfl) rfl rfl ?_
             refine WL.store1 rfl rfl rfl rfl one_47 (Nat.le_of_ble_eq_true rfl) (.none rfl) rfl ?_
             refine WL.nil ?_
             refine WE.then_n ?_
             refine WC.seq ?_
             refine WC.region ?_
             refine WL.val (v_loadN rfl rfl many_51 rfl allAt) (.none rfl) rfl rfl ?_
             refine WL.val (v_fieldAddr0 rfl rfl fld_53_6) (.none rfl) rfl rfl ?_
             refine WL.storeN rfl rfl rfl rfl many_51 rfl (by first | exact Nat.le_of_ble_eq_true rfl | simp) (.none rfl) rfl ?_
             refine WL.nil ?_
             refine WE.then_n ?_
             refine WC.region ?_
             refine WL.val (v_move rfl rfl) (.none rfl) rfl rfl ?_
             refine WL.val (v_fieldAddr0 rfl rfl fld_53_7) (.none rfl) rfl rfl ?_
             refine WL.store1 rfl rfl rfl rfl one_47 (Nat.le_of_ble_eq_true rfl) (.none rfl) rfl ?_
             refine WL.as (L' := En ++ (.row g14 (fltL 0 0 ⟨#[]⟩) :: .row g13 a.rcells :: (Ka ++ (Eg ++ (.row g6 (MsL.upd (fOf xs 18) gad gc gs a nad nc ns).rcells :: .row g5 (fltL 0 0 ⟨#[]⟩) :: .row g3 (fltL 0 0 ⟨#[]⟩) :: [.row g2 (MsL.zero 0).rcells]))))) rfl ?_
             refine WL.nil ?_
             refine WE.then_n ?_
             refine WC.seq ?_
             refine WC.seq ?_
             refine WC.region ?_
             refine WL.val (v_fieldAddr0 rfl rfl fld_53_0) (.none rfl) rfl rfl ?_
             refine WL.val (v_load1 rfl rfl one_3 (cellAt (v := .int .i64 (fOf xs 18)) rfl)) (.none rfl) rfl rfl ?_
             refine WL.val ((v_eql rfl rfl rfl).f (by omega)) (.none rfl) rfl rfl ?_
             refine WL.nil ?_
             refine WE.then_n ?_
             refine WC.cond_f rfl ?_
             refine WC.skip ?_
             refine WE.then_n ?_
             refine WC.seq ?_
             refine WC.region ?_
             refine WL.val (v_loadN rfl rfl many_53 rfl allAt) (.none rfl) rfl rfl ?_
             refine WL.val (v_build rfl rfl zero_28 plc_28 rfl) (.none rfl) rfl rfl ?_
             refine WL.storeW rfl rfl rfl rfl many_53 rfl rfl (.none rfl) rfl ?_
             refine WL.storeW rfl rfl rfl rfl many_28 rfl rfl (.none rfl) rfl ?_
             refine WL.nil ?_
             refine WE.then_n ?_
             refine WC.ret ?_
             refine WE.ret2 (P := Tryd.prog) (.inl rfl) Tryd.results18 (resRow rfl many_53 rfl) (resRow rfl many_28 rfl) ?_
             rw [if_neg (fun h => h327 (by omega))] at e1
             have e2 : decM xs = .inl (MsL.d (MsL.upd (fOf xs 18) gad gc gs a nad nc ns)) := (by rw [e00]; unfold bodyM; rw [if_neg h42, if_pos h227, e1]; rfl)
             exact fun w' h => by
               unfold RMsP
               rw [e2]
               have hM : MsAll (En ++ (.row g14 (fltL 0 0 ⟨#[]⟩) :: .row g13 a.rcells :: (Ka ++ Eg))) (MsL.upd (fOf xs 18) gad gc gs a nad nc ns) := ⟨⟨[], Vec.nil 2, fun _ h => by cases h⟩, (fun _ h => by cases h), ⟨Eg, hVg, fun e he => List.mem_append_right _ (List.mem_cons_of_mem _ (List.mem_cons_of_mem _ (List.mem_append_right _ he)))⟩, ⟨En, hVn, fun e he => List.mem_append_left _ he⟩, hAa.mono fun e he => List.mem_append_right _ (List.mem_cons_of_mem _ (List.mem_cons_of_mem _ (List.mem_append_left _ he)))⟩
               exact ⟨_, _, rfl, rfl, hM, h.sub (List.Sublist.append_left (.cons_cons _ (.cons_cons _ (List.Sublist.append_left (List.sublist_append_left _ _) _))) _)⟩
           ·
            refine WL.val (v_move rfl rfl) (.none rfl) rfl rfl ?_
            refine WL.skip rfl rfl rfl rfl rfl rfl ?_
            refine WL.skip rfl rfl rfl rfl rfl rfl ?_
            refine WL.skip rfl rfl rfl rfl rfl rfl ?_
            refine WL.val (v_pick_f rfl rfl rfl) (.none rfl) rfl rfl ?_
            refine WL.nil ?_
            refine WE.then_n ?_
            refine WC.cond_f rfl ?_
            refine WC.skip ?_
            refine WE.then_n ?_
            refine WC.seq ?_
            refine WC.region ?_
            refine WL.val (v_move rfl rfl) (.none rfl) rfl rfl ?_
            refine WL.val (v_fieldAddr0 rfl rfl fld_53_5) (.none rfl) rfl rfl ?_
            refine WL.store1 rfl rfl rfl rfl one_47 (Nat.le_of_ble_eq_true rfl) (.none rfl) rfl ?_
            refine WL.nil ?_
            refine WE.then_n ?_
            refine WC.seq ?_
            refine WC.region ?_
            refine WL.val (v_loadN rfl rfl many_51 rfl allAt) (.none rfl) rfl rfl ?_
            refine WL.val (v_fieldAddr0 rfl rfl fld_53_6) (.none rfl) rfl rfl ?_
            refine WL.storeN rfl rfl rfl rfl many_51 rfl (by first | exact Nat.le_of_ble_eq_true rfl | simp) (.none rfl) rfl ?_
            refine WL.nil ?_
            refine WE.then_n ?_
            refine WC.region ?_
            refine WL.val (v_move rfl rfl) (.none rfl) rfl rfl ?_
            refine WL.val (v_fieldAddr0 rfl rfl fld_53_7) (.none rfl) rfl rfl ?_
            refine WL.store1 rfl rfl rfl rfl one_47 (Nat.le_of_ble_eq_true rfl) (.none rfl) rfl ?_
            refine WL.as (L' := En ++ (.row g14 (fltL 0 0 ⟨#[]⟩) :: .row g13 a.rcells :: (Ka ++ (Eg ++ (.row g6 (MsL.upd (fOf xs 18) gad gc gs a nad nc ns).rcells :: .row g5 (fltL 0 0 ⟨#[]⟩) :: .row g3 (fltL 0 0 ⟨#[]⟩) :: [.row g2 (MsL.zero 0).rcells]))))) rfl ?_
            refine WL.nil ?_
            refine WE.then_n ?_
            refine WC.seq ?_
            refine WC.seq ?_
            refine WC.region ?_
            refine WL.val (v_fieldAddr0 rfl rfl fld_53_0) (.none rfl) rfl rfl ?_
            refine WL.val (v_load1 rfl rfl one_3 (cellAt (v := .int .i64 (fOf xs 18)) rfl)) (.none rfl) rfl rfl ?_
            refine WL.val ((v_eql rfl rfl rfl).f (by omega)) (.none rfl) rfl rfl ?_
            refine WL.nil ?_
            refine WE.then_n ?_
            refine WC.cond_f rfl ?_
            refine WC.skip ?_
            refine WE.then_n ?_
            refine WC.seq ?_
            refine WC.region ?_
            refine WL.val (v_loadN rfl rfl many_53 rfl allAt) (.none rfl) rfl rfl ?_
            refine WL.val (v_build rfl rfl zero_28 plc_28 rfl) (.none rfl) rfl rfl ?_
            refine WL.storeW rfl rfl rfl rfl many_53 rfl rfl (.none rfl) rfl ?_
            refine WL.storeW rfl rfl rfl rfl many_28 rfl rfl (.none rfl) rfl ?_
            refine WL.nil ?_
            refine WE.then_n ?_
            refine WC.ret ?_
            refine WE.ret2 (P := Tryd.prog) (.inl rfl) Tryd.results18 (resRow rfl many_53 rfl) (resRow rfl many_28 rfl) ?_
            rw [if_neg (fun h => h323 (by omega))] at e1
            have e2 : decM xs = .inl (MsL.d (MsL.upd (fOf xs 18) gad gc gs a nad nc ns)) := (by rw [e00]; unfold bodyM; rw [if_neg h42, if_pos h227, e1]; rfl)
            exact fun w' h => by
              unfold RMsP
              rw [e2]
              have hM : MsAll (En ++ (.row g14 (fltL 0 0 ⟨#[]⟩) :: .row g13 a.rcells :: (Ka ++ Eg))) (MsL.upd (fOf xs 18) gad gc gs a nad nc ns) := ⟨⟨[], Vec.nil 2, fun _ h => by cases h⟩, (fun _ h => by cases h), ⟨Eg, hVg, fun e he => List.mem_append_right _ (List.mem_cons_of_mem _ (List.mem_cons_of_mem _ (List.mem_append_right _ he)))⟩, ⟨En, hVn, fun e he => List.mem_append_left _ he⟩, hAa.mono fun e he => List.mem_append_right _ (List.mem_cons_of_mem _ (List.mem_cons_of_mem _ (List.mem_append_left _ he)))⟩
              exact ⟨_, _, rfl, rfl, hM, h.sub (List.Sublist.append_left (.cons_cons _ (.cons_cons _ (List.Sublist.append_left (List.sublist_append_left _ _) _))) _)⟩
   ·
    refine WL.nil ?_
    refine WE.then_n ?_
    refine WC.cond_f rfl ?_
    refine WC.skip ?_
    refine WE.then_n ?_
    refine WC.seq ?_
    refine WC.seq ?_
    refine WC.region ?_
    refine WL.val (v_fieldAddr0 rfl rfl fld_53_0) (.none rfl) rfl rfl ?_
    refine WL.val (v_load1 rfl rfl one_3 (cellAt (v := .int .i64 (fOf xs 18)) rfl)) (.none rfl) rfl rfl ?_
    refine WL.test (v_eql rfl rfl rfl) (.none rfl) rfl rfl (fun h343 => ?_) (fun h343 => ?_)
    ·
     refine WL.nil ?_
     refine WE.then_n ?_
     refine WC.cond_t rfl ?_
     refine WC.orders mixed ?_
     refine WR.first (g := 7) [0, 1, 4, 5, 8, 9] (by kernel_rfl) (by kernel_rfl) ?_
     have hl21 : 21 ≤ xs.length := (by rw [hlst, if_neg h42, if_neg h227, if_pos h343] at hle2; omega)
     have b0 := hb 0
     have b1 := hb 1
     refine WP.val (v_move rfl rfl) (.none rfl) rfl rfl ?_
     refine WP.val (v_indexAddr (lo := 19) rfl rfl rfl Tryd.underlying22 sz_5 rfl (by omega)) (.none rfl) rfl rfl ?_
     refine WP.val (v_move rfl rfl) (.none rfl) rfl rfl ?_
     refine WP.val (v_indexAddr (lo := 20) rfl rfl rfl Tryd.underlying22 sz_5 rfl (by omega)) (.none rfl) rfl rfl ?_
     refine WP.val (v_move rfl rfl) (.none rfl) rfl rfl ?_
     refine WP.val ((v_slice_lo (lo := 21) rfl rfl rfl Tryd.underlying22 sz_5 rfl (by omega))) (.none rfl) rfl rfl ?_
     refine WP.nil ?_
     refine WR.read (g := 1) [2, 3, 6, 7, 10, 11] (by kernel_rfl) (by kernel_rfl) (by kernel_rfl) (by kernel_rfl) rfl ?_
     refine WQ.val (v_load1 rfl rfl one_5 ((fun w hS => hgc w _ 0 (by omega) hS))) (.none rfl) rfl rfl ?_
     refine WQ.val (v_conv rfl rfl Tryd.underlying3 Tryd.underlying5 (w_i64 (by omega) (by omega))) (.none rfl) rfl rfl ?_
     refine WQ.val (v_load1 rfl rfl one_5 ((fun w hS => hgc w _ 1 (by omega) hS))) (.none rfl) rfl rfl ?_
     refine WQ.val (v_conv rfl rfl Tryd.underlying3 Tryd.underlying5 (w_i64 (by omega) (by omega))) (.none rfl) rfl rfl ?_
     refine WQ.call _ rfl rfl ck_40 (.none rfl) rfl rfl (fun w hS => Calls.still (RFault_c w (fOf ys 0) (fOf ys 1) (some ⟨b, sAddr o 21 c 1, none⟩) (xs.length - 21) (c - 21) (fun i => fOf ys (2 + i)) (fun _ => ⟨b, sAddr o 21 c 1, rfl, fun i hi => by
     have := ((hW.st hS).drop 21).get (i := i) (x := fOf ys (2 + i)) (by rw [List.getElem?_drop, show 21 + i = 19 + (2 + i) by omega]; exact hg (2 + i) (by omega))
     rwa [Nat.mul_one] at this⟩)) hS) ?_
     rw [show str (fun i => fOf ys (2 + i)) (xs.length - 21) = strD ys by unfold strD; rw [hdl, show xs.length - 19 - 2 = xs.length - 21 by omega]]
     refine WQ.val (v_fieldAddr0 rfl rfl fld_53_8) (.none rfl) rfl rfl ?_
     refine WQ.nilR ?_
     refine WR.ones (g := 0) [12] (by kernel_rfl) ?_
     refine WL.storeN rfl rfl rfl rfl many_28 rfl (by first | exact Nat.le_of_ble_eq_true rfl | simp) (.none rfl) rfl ?_
     refine WL.as (L' := .row g6 (MsL.rcells { MsL.zero (fOf xs 18) with fc := fOf ys 0, fs := fOf ys 1, fd := strD ys }) :: .row g5 (fltL 0 0 ⟨#[]⟩) :: .row g3 (fltL 0 0 ⟨#[]⟩) :: [.row g2 (MsL.zero 0).rcells]) rfl ?_
     refine WL.nilR ?_
     refine WR.done (by kernel_rfl) ?_
     refine WE.then_n ?_
     refine WC.seq ?_
     refine WC.region ?_
     refine WL.val (v_loadN rfl rfl many_53 rfl allAt) (.none rfl) rfl rfl ?_
     refine WL.val (v_build rfl rfl zero_28 plc_28 rfl) (.none rfl) rfl rfl ?_
     refine WL.storeW rfl rfl rfl rfl many_53 rfl rfl (.none rfl) rfl ?_
     refine WL.storeW rfl rfl rfl rfl many_28 rfl rfl (.none rfl) rfl ?_
     refine WL.nil ?_
     refine WE.then_n ?_
     refine WC.ret ?_
     refine WE.ret2 (P := Tryd.prog) (.inl rfl) Tryd.results18 (resRow rfl many_53 rfl) (resRow rfl many_28 rfl) ?_
     skip
     exact fun w' h => by
       unfold RMsP
       rw [e00, show bodyM (fOf xs 18) ys = .inl (MsL.d { MsL.zero (fOf xs 18) with fc := fOf ys 0, fs := fOf ys 1, fd := strD ys }) by unfold bodyM; rw [if_neg h42, if_neg h227, if_pos h343]; rfl]
       exact ⟨{ MsL.zero (fOf xs 18) with fc := fOf ys 0, fs := fOf ys 1, fd := strD ys }, [], rfl, rfl, ⟨⟨[], Vec.nil 2, fun _ h => by cases h⟩, (fun _ h => by cases h), ⟨[], Vec.nil 2, fun _ h => by cases h⟩, ⟨[], Vec.nil 2, fun _ h => by cases h⟩, AtAll.zero⟩, h.sub (List.nil_sublist _)⟩
    ·
     refine WL.nil ?_
     refine WE.then_n ?_
     refine WC.cond_f rfl ?_
     refine WC.skip ?_
     refine WE.then_n ?_
     refine WC.seq ?_
     refine WC.region ?_
     refine WL.val (v_loadN rfl rfl many_53 rfl allAt) (.none rfl) rfl rfl ?_
     refine WL.val (v_build rfl rfl zero_28 plc_28 rfl) (.none rfl) rfl rfl ?_
     refine WL.storeW rfl rfl rfl rfl many_53 rfl rfl (.none rfl) rfl ?_
     refine WL.storeW rfl rfl rfl rfl many_28 rfl rfl (.none rfl) rfl ?_
     refine WL.nil ?_
     refine WE.then_n ?_
     refine WC.ret ?_
     refine WE.ret2 (P := Tryd.prog) (.inl rfl) Tryd.results18 (resRow rfl many_53 rfl) (resRow rfl many_28 rfl) ?_
     skip
     exact fun w' h => by
       unfold RMsP
       rw [e00, show bodyM (fOf xs 18) ys = .inl (MsL.d (MsL.zero (fOf xs 18))) by unfold bodyM; rw [if_neg h42, if_neg h227, if_neg h343]]
       exact ⟨MsL.zero (fOf xs 18), [], rfl, rfl, MsAll.zero _, h.sub (List.nil_sublist _)⟩
/-- carrefourref07.Decode, whatever bytes. -/
theorem RDec07_c (w0 : World) (b o c : Nat) (xs : List Int) (hW : Win w0 b o c xs) (hn : xs.length ≤ 90000) :
    Calls Tryd.prog 18 #[.slice (some ⟨b, o, none⟩) xs.length c] w0 fun e w' => RMsP w0 w' xs e := by
  rcases sizeR_cases xs.length (fOf xs) with ⟨C, S, d, e, hC⟩ | ⟨e, h1, h2, h3, h4, h5, h6, h7, h8⟩
  · exact RDecBad_c w0 b o c xs hW hn C S d e hC
  · by_cases hk : lenI (fOf xs) = xs.length
    · rw [hk] at e
      exact RDecOk_c w0 b o c xs hW hn e h1 ⟨h5, h6⟩ (by omega)
    · exact RDecLong_c w0 b o c xs hW hn h1 e hk
end Go.Proofs.YtpjbofodllhjbaaDoor
/- bgp: the faults of what is read; prefixes and capabilities that are read. -/
namespace Go.Proofs.YtpjbofodllhjbaaDoor
open Go.RowKit

end Go.Proofs.YtpjbofodllhjbaaDoor
/- bgp: a message that was read: what BgpForm needs of it. -/
namespace Go.Proofs.YtpjbofodllhjbaaDoor
open Go.RowKit

/-- A message that says so. -/
def AtD.m (a : AtD) : AtL := ⟨a.has, a.origin, none, 0, a.path.map fun p => ⟨p.1, none, 0, p.2⟩, a.hop, a.med, a.loc, a.aas, a.aid, none, 0, a.comms, none, 0, a.others.map fun p => ⟨p.1, none, 0, p.2⟩⟩
def MsD.m (d : MsD) : MsL := ⟨d.kind, d.asn, d.hold, d.id, none, 0, d.caps.map fun p => ⟨p.1, none, 0, p.2⟩, none, 0, d.gone, d.atr.m, none, 0, d.nets, d.fc, d.fs, d.fd⟩
end Go.Proofs.YtpjbofodllhjbaaDoor
/- bgp: a message that was read is one that BgpForm asks for. -/
namespace Go.Proofs.YtpjbofodllhjbaaDoor
open Go.RowKit

theorem Bys.drop {xs : List Int} (h : Bys xs) (n : Nat) : Bys (xs.drop n) := fun x hx => h x (List.mem_of_mem_drop hx)
theorem Bys.take {xs : List Int} (h : Bys xs) (n : Nat) : Bys (xs.take n) := fun x hx => h x (List.mem_of_mem_take hx)
end Go.Proofs.YtpjbofodllhjbaaDoor
/- bgp: a message that was read is one that BgpForm asks for: an Update; any. -/
namespace Go.Proofs.YtpjbofodllhjbaaDoor
open Go.RowKit

end Go.Proofs.YtpjbofodllhjbaaDoor
/- BgpReads: whatever bytes: the message that they are, or the fault that they have. -/
namespace Go.Proofs.YtpjbofodllhjbaaDoor
open Go.RowKit

/-- What bytes say: the fault, and the message. -/
def DecIs (xs : List Int) (C S : Int) (d : ByteArray) (md : MsD) : Prop := match decM xs with
  | .inr f => f = (C, S, d) ∧ md = (MsL.zero 0).d
  | .inl y => C = 0 ∧ S = 0 ∧ d = ⟨#[]⟩ ∧ md = y
theorem DecIs.eq {xs : List Int} {C S C' S' : Int} {d d' : ByteArray} {md md' : MsD} (h1 : DecIs xs C S d md) (h2 : DecIs xs C' S' d' md') : C = C' ∧ S = S' ∧ d = d' ∧ md = md' := by
  unfold DecIs at h1 h2
  cases h : decM xs with
  | inr f =>
    rw [h] at h1 h2
    obtain ⟨e1, e2⟩ := h1
    obtain ⟨e3, e4⟩ := h2
    rw [e1] at e3
    injection e3 with a b
    injection b with b c
    exact ⟨a, b, c, by rw [e2, e4]⟩
  | inl y =>
    rw [h] at h1 h2
    obtain ⟨a, b, c, e⟩ := h1
    obtain ⟨a', b', c', e'⟩ := h2
    exact ⟨by rw [a, a'], by rw [b, b'], by rw [c, c'], by rw [e, e']⟩
theorem DecIs.bad {xs : List Int} {C S : Int} {d : ByteArray} (h : decM xs = .inr (C, S, d)) : DecIs xs C S d (MsL.zero 0).d := by unfold DecIs; rw [h]; exact ⟨rfl, rfl⟩
theorem DecIs.ok {xs : List Int} {md : MsD} (h : decM xs = .inl md) : DecIs xs 0 0 ⟨#[]⟩ md := by unfold DecIs; rw [h]; exact ⟨rfl, rfl, rfl, rfl⟩
theorem decM_nil : decM [] = .inr (1, 2, ⟨#[]⟩) := rfl
theorem RDecNil_c (w0 : World) (ad : Option Addr) (c : Nat) :
    Calls Tryd.prog 18 #[.slice ad 0 c] w0 fun e w' => e = .returned (.tuple #[.agg (MsL.zero 0).rcells.toArray, .agg (fltL 1 2 ⟨#[]⟩).toArray]) ∧ Frm (fun _ => False) w0 w' := by
  refine enter Tryd.func18 rfl Tryd.ntmps18 rfl (St.start (fun _ => False) w0) ?_
  refine WC.seq ?_
  refine WC.region ?_
  refine WL.alloc rfl zero_53 (.none rfl) rfl rfl ?_
  intro g2 hg2
  refine WL.alloc rfl zero_28 (.none rfl) rfl rfl ?_
  intro g3 hg3
  refine WL.nil ?_
  refine WE.then_n ?_
  refine WC.seq ?_
  refine WC.region ?_
  refine WL.val (v_move rfl rfl) (.none rfl) rfl rfl ?_
  refine WL.call rfl rfl ck_15 (.none rfl) rfl rfl ?_
  intro w hS
  refine Calls.then (by rw [show (Ending.returned (.tuple #[.int .i64 0, .agg (fltL 1 2 ⟨#[]⟩).toArray])) = .returned (sizeV (sizeR 0 (fun _ => 0))) from rfl]; exact RSize_c w ad 0 c (fun _ => 0) (fun _ => ⟨Int.le_refl _, show (0 : Int) ≤ 255 by decide⟩) (fun hh => by omega) (by omega) (Nat.zero_le _)) hS ?_
  refine WL.val (v_move rfl rfl) (.none rfl) rfl rfl ?_
  refine WL.val (v_extract rfl rfl rfl) (.none rfl) rfl rfl ?_
  refine WL.val (v_extract rfl rfl rfl) (.none rfl) rfl rfl ?_
  refine WL.alloc rfl zero_28 (.none rfl) rfl rfl ?_
  intro g5 hg5
  refine WL.val (v_assign rfl rfl) (.none rfl) rfl rfl ?_
  refine WL.storeW rfl rfl rfl rfl many_28 rfl rfl (.none rfl) rfl ?_
  refine WL.nil ?_
  refine WE.then_n ?_
  refine WC.seq ?_
  refine WC.seq ?_
  refine WC.region ?_
  refine WL.val (v_fieldAddr0 rfl rfl fld_28_0) (.none rfl) rfl rfl ?_
  refine WL.val (v_load1 rfl rfl one_3 (cellAt rfl)) (.none rfl) rfl rfl ?_
  refine WL.val ((v_neq rfl rfl rfl).t ((by decide))) (.none rfl) rfl rfl ?_
  refine WL.nil ?_
  refine WE.then_n ?_
  refine WC.cond_t rfl ?_
  refine WC.seq ?_
  refine WC.orders mixed ?_
  refine WR.first (g := 3) [0] (by kernel_rfl) (by kernel_rfl) ?_
  refine WP.val (v_build rfl rfl zero_53 plc_53 rfl) (.none rfl) rfl rfl ?_
  refine WP.nil ?_
  refine WR.each (g := 2) [1, 2] (by kernel_rfl) (by decide) ?_
  refine ⟨?_, ?_⟩
  ·
   refine WL.val (v_loadN rfl rfl many_28 rfl allAt) (.none rfl) rfl rfl ?_
   refine WL.nilR ?_
   refine WR.ones (g := 0) [2, 3] (by kernel_rfl) ?_
   refine WL.storeW rfl rfl rfl rfl many_53 rfl rfl (.none rfl) rfl ?_
   refine WL.storeW rfl rfl rfl rfl many_28 rfl rfl (.none rfl) rfl ?_
   refine WL.nilR ?_
   refine WR.done (by kernel_rfl) ?_
   refine WE.then_n ?_
   refine WC.ret ?_
   refine WE.then_ret ?_
   refine WE.ret2 (P := Tryd.prog) (.inl rfl) Tryd.results18 (resRow rfl many_53 rfl) (resRow rfl many_28 rfl) ?_
   exact fun w' h => ⟨rfl, h.frm⟩
  ·
   refine WL.storeW rfl rfl rfl rfl many_53 rfl rfl (.none rfl) rfl ?_
   refine WL.nilR ?_
   refine WR.read (g := 1) [1] (by kernel_rfl) (by kernel_rfl) (by kernel_rfl) (by kernel_rfl) rfl ?_
   refine WQ.val (v_loadN rfl rfl many_28 rfl allAt) (.none rfl) rfl rfl ?_
   refine WQ.nilR ?_
   refine WR.ones (g := 0) [3] (by kernel_rfl) ?_
   refine WL.storeW rfl rfl rfl rfl many_28 rfl rfl (.none rfl) rfl ?_
   refine WL.nilR ?_
   refine WR.done (by kernel_rfl) ?_
   refine WE.then_n ?_
   refine WC.ret ?_
   refine WE.then_ret ?_
   refine WE.ret2 (P := Tryd.prog) (.inl rfl) Tryd.results18 (resRow rfl many_53 rfl) (resRow rfl many_28 rfl) ?_
   exact fun w' h => ⟨rfl, h.frm⟩
theorem RDecAny_c (w0 : World) (ad : Option Addr) (c : Nat) (xs : List Int) (hC : CellsAt w0 ad (u8s xs)) (hB : Bys xs) (hle : xs.length ≤ c) (hn : xs.length ≤ 90000) :
    Calls Tryd.prog 18 #[.slice ad xs.length c] w0 fun e w' => ∃ C S d m K, e = .returned (.tuple #[.agg m.rcells.toArray, .agg (fltL C S d).toArray]) ∧ MsAll K m ∧ St (fun _ => False) w0 w' K ∧ DecIs xs C S d m.d := by
  by_cases h0 : xs.length = 0
  · obtain rfl : xs = [] := List.length_eq_zero_iff.1 h0
    refine (RDecNil_c w0 ad c).mono ?_
    rintro e w' ⟨rfl, hF⟩
    exact ⟨1, 2, ⟨#[]⟩, MsL.zero 0, [], rfl, MsAll.zero 0, (St.start _ _).ext hF, .bad decM_nil⟩
  · obtain ⟨b, o, rfl, hr⟩ := hC (by rw [u8s_len]; omega)
    refine (RDec07_c w0 b o c xs ⟨hr, hB, hle⟩ hn).mono fun e w' h => ?_
    unfold RMsP at h
    cases hd : decM xs with
    | inr f =>
      obtain ⟨C, S, d⟩ := f
      rw [hd] at h
      exact ⟨C, S, d, MsL.zero 0, [], h.1, MsAll.zero 0, (St.start _ _).ext h.2, .bad hd⟩
    | inl md =>
      rw [hd] at h
      obtain ⟨m, K, he, em, hM, hS⟩ := h
      exact ⟨0, 0, ⟨#[]⟩, m, K, he, hM, hS, by rw [em]; exact .ok hd⟩
theorem Vec.cellsAt {ad : Option Addr} {c : Nat} {xs : List Int} {E : List Ent} (hV : BV ad c xs E) {w : World} (hw : ∀ e ∈ E, e.holds w) : CellsAt w ad (u8s xs) := fun hn => by
  obtain ⟨b, o, e, hr⟩ := Vec.src2 hV hn
  exact ⟨b, o, e, hr w hw⟩
end Go.Proofs.YtpjbofodllhjbaaDoor
/- stream: StreamWrites, walked. -/
namespace Go.Proofs.YtpjbofodllhjbaaDoor
open Go.RowKit

theorem View.cells {E : List Ent} {aa : Option Addr} {c : Nat} {ys : List Int} (h : View E aa c ys) {w : World} (hw : ∀ e ∈ E, e.holds w) : CellsAt w aa (u8s ys) := fun h0 => by
  rw [u8s_len] at h0
  obtain ⟨b, o, rfl⟩ := h.some h0
  exact ⟨b, o, rfl, (h.win hw).at_⟩
end Go.Proofs.YtpjbofodllhjbaaDoor
/- stream: bytes in pieces: what is read of all is what is read piece by piece. -/
namespace Go.Proofs.YtpjbofodllhjbaaDoor
open Go.RowKit

theorem fOf_appL {xs q : List Int} {i : Nat} (h : i < xs.length) : fOf (xs ++ q) i = fOf xs i := by
  unfold fOf
  rw [List.getD_eq_getElem?_getD, List.getD_eq_getElem?_getD, List.getElem?_append_left h]
theorem sizeR_app {xs : List Int} (q : List Int) (h : 19 ≤ xs.length) : sizeR (xs ++ q).length (fOf (xs ++ q)) = sizeR xs.length (fOf xs) := by
  have hi : ∀ i, i < 19 → fOf (xs ++ q) i = fOf xs i := fun i hi => fOf_appL (by omega)
  have hm : mark255 (fOf (xs ++ q)) = mark255 (fOf xs) := by
    have : mark255 (fOf (xs ++ q)) = true ↔ mark255 (fOf xs) = true := by
      rw [mark255_iff, mark255_iff]
      exact ⟨fun h i hi' => by rw [← hi i (by omega)]; exact h i hi', fun h i hi' => by rw [hi i (by omega)]; exact h i hi'⟩
    cases h1 : mark255 (fOf (xs ++ q)) <;> cases h2 : mark255 (fOf xs) <;> simp_all
  have hl : lenI (fOf (xs ++ q)) = lenI (fOf xs) := by unfold lenI; rw [hi 16 (by omega), hi 17 (by omega)]
  unfold sizeR
  rw [hm, hl, hi 18 (by omega), if_neg (by rw [List.length_append]; omega), if_neg (show ¬ xs.length < 19 by omega),
    str_congr (f := fun i => fOf (xs ++ q) (16 + i)) (g := fun i => fOf xs (16 + i)) (n := 2) (fun i h => hi _ (by omega)), str_congr (f := fun i => fOf (xs ++ q) (18 + i)) (g := fun i => fOf xs (18 + i)) (n := 1) (fun i h => hi _ (by omega))]
theorem szL_app {xs : List Int} (q : List Int) (h : 19 ≤ xs.length) : szL (xs ++ q) = szL xs := by unfold szL; rw [sizeR_app q h]
theorem szL_ge {xs : List Int} (h : (sizeR xs.length (fOf xs)).2.1 = 0) : 19 ≤ szL xs := by
  rcases sizeR_cases xs.length (fOf xs) with ⟨C, S, d, e, hC⟩ | ⟨e, _, _, h, _⟩
  · rw [e] at h; exact absurd h hC
  · have : szL xs = (lenI (fOf xs)).toNat := by unfold szL; rw [e]
    omega
/-- What is said of the bytes so far, and what comes behind them. -/
def thenM (r : List MsD × Option (Int × Int × ByteArray) × List Int) (q : List Int) : List MsD × Option (Int × Int × ByteArray) × List Int :=
  match r.2.1 with | none => feedM r.1 (r.2.2 ++ q) | some t => (r.1, some t, [])
theorem feedM_app : ∀ (n : Nat) (acc : List MsD) (xs q : List Int), xs.length ≤ n → feedM acc (xs ++ q) = thenM (feedM acc xs) q
  | n, acc, xs, q, hn => by
    by_cases h1 : xs.length < 19
    · rw [feedM_few h1]; rfl
    · have h19 : ¬ (xs ++ q).length < 19 := by rw [List.length_append]; omega
      have hz := sizeR_app (xs := xs) q (by omega)
      have hsz := szL_app (xs := xs) q (by omega)
      by_cases h2 : (sizeR xs.length (fOf xs)).2.1 = 0
      · by_cases h3 : xs.length < szL xs
        · rw [feedM_wait h1 h2 h3]; rfl
        · have h3' : ¬ (xs ++ q).length < szL (xs ++ q) := by rw [hsz, List.length_append]; omega
          have ht : (xs ++ q).take (szL (xs ++ q)) = xs.take (szL xs) := by rw [hsz, List.take_append_of_le_length (by omega)]
          cases hd : decM (xs.take (szL xs)) with
          | inr f => rw [feedM_flt h1 h2 h3 hd, feedM_flt h19 (by rw [hz]; exact h2) h3' (by rw [ht]; exact hd)]; rfl
          | inl m =>
            have := szL_ge h2
            rw [feedM_on h1 h2 h3 hd, feedM_on h19 (by rw [hz]; exact h2) h3' (by rw [ht]; exact hd), hsz, List.drop_append_of_le_length (by omega)]
            match n with
            | 0 => omega
            | n + 1 => exact feedM_app n _ _ q (by rw [List.length_drop]; omega)
      · rw [feedM_bad h1 rfl h2, feedM_bad h19 (by rw [hz]) h2]; rfl
theorem feedM_acc : ∀ (n : Nat) (acc : List MsD) (xs : List Int), xs.length ≤ n → feedM acc xs = (acc ++ (feedM [] xs).1, (feedM [] xs).2)
  | n, acc, xs, hn => by
    by_cases h1 : xs.length < 19
    · rw [feedM_few h1, feedM_few h1, List.append_nil]
    · by_cases h2 : (sizeR xs.length (fOf xs)).2.1 = 0
      · by_cases h3 : xs.length < szL xs
        · rw [feedM_wait h1 h2 h3, feedM_wait h1 h2 h3, List.append_nil]
        · cases hd : decM (xs.take (szL xs)) with
          | inr f => rw [feedM_flt h1 h2 h3 hd, feedM_flt h1 h2 h3 hd, List.append_nil]
          | inl m =>
            have := szL_ge h2
            rw [feedM_on h1 h2 h3 hd, feedM_on h1 h2 h3 hd]
            match n with
            | 0 => omega
            | n + 1 =>
              rw [feedM_acc n (acc ++ [m]) _ (by rw [List.length_drop]; omega), feedM_acc n ([] ++ [m]) _ (by rw [List.length_drop]; omega), List.nil_append, List.append_assoc]
      · rw [feedM_bad h1 rfl h2, feedM_bad h1 rfl h2, List.append_nil]
/-- A piece is read: the messages so far, what waits. -/
theorem feedM_step {G ms : List MsD} {W p ys rest : List Int} {f : Option (Int × Int × ByteArray)} (h : feedM [] (W ++ p) = (ms, f, rest)) :
    feedM G (W ++ (p ++ ys)) = thenM (G ++ ms, f, rest) ys ∧ (f = none → feedM (G ++ ms) rest = (G ++ ms, none, rest)) := by
  have e1 : feedM G (W ++ p) = (G ++ ms, f, rest) := by rw [feedM_acc _ G _ (Nat.le_refl _), h]
  refine ⟨by rw [← List.append_assoc, feedM_app _ _ _ ys (Nat.le_refl _), e1], fun hf => ?_⟩
  have e2 := feedM_app _ G (W ++ p) [] (Nat.le_refl _)
  rw [List.append_nil, e1, hf] at e2
  have e3 : thenM (G ++ ms, none, rest) [] = feedM (G ++ ms) rest := by show feedM (G ++ ms) (rest ++ []) = _; rw [List.append_nil]
  rw [e3] at e2
  exact e2.symm
theorem feedM_both : ∀ (n : Nat) (acc : List MsD) (xs : List Int) (ms : List MsD) (f : Option (Int × Int × ByteArray)) (rest : List Int), xs.length ≤ n → feedM acc xs = (ms, f, rest) → ms.length + rest.length ≤ acc.length + xs.length
  | n, acc, xs, ms, f, rest, hn, h => by
    by_cases h1 : xs.length < 19
    · rw [feedM_few h1] at h; cases h; omega
    · by_cases h2 : (sizeR xs.length (fOf xs)).2.1 = 0
      · by_cases h3 : xs.length < szL xs
        · rw [feedM_wait h1 h2 h3] at h; cases h; omega
        · cases hd : decM (xs.take (szL xs)) with
          | inr f => rw [feedM_flt h1 h2 h3 hd] at h; cases h; show _ + 0 ≤ _; omega
          | inl m =>
            have hz := szL_ge h2
            rw [feedM_on h1 h2 h3 hd] at h
            match n with
            | 0 => omega
            | n + 1 =>
              have := feedM_both n _ _ _ _ _ (by rw [List.length_drop]; omega) h
              rw [List.length_drop, List.length_append, List.length_cons, List.length_nil] at this
              omega
      · rw [feedM_bad h1 rfl h2] at h; cases h; show _ + 0 ≤ _; omega
end Go.Proofs.YtpjbofodllhjbaaDoor
/- stream: carrefourlaw08.told and same. -/
namespace Go.Proofs.YtpjbofodllhjbaaDoor
open Go.RowKit

theorem RSize_u (w0 : World) (ad : Option Addr) (c : Nat) (xs : List Int) (hC : CellsAt w0 ad (u8s xs)) (hB : Bys xs) (hle : xs.length ≤ c) (hn : xs.length ≤ 100000) :
    Calls Tryd.prog 15 #[.slice ad xs.length c] w0 fun e w' => ∃ (ok : Bool) (n : Nat) (C S : Int) (d : ByteArray), e = .returned (.tuple #[.int .i64 n, .agg (fltL C S d).toArray]) ∧ Frm (fun _ => False) w0 w' ∧
      (ok = false → C ≠ 0 ∧ (sizeR xs.length (fOf xs)).2 = (C, S, d)) ∧ (ok = true → C = 0 ∧ (sizeR xs.length (fOf xs)).2.1 = 0 ∧ n = szL xs ∧ 19 ≤ n ∧ n ≤ 4096) := by
  refine (RSize_c w0 ad xs.length c (fOf xs) (fOf_byt hB) (rdVal hC (St.start (fun _ => False) w0)) (by omega) hle).mono fun e w' h => ?_
  obtain ⟨rfl, hF⟩ := h
  rcases sizeR_cases xs.length (fOf xs) with ⟨C, S, d, e, hC⟩ | ⟨e, h1, h2, h3, h4, _⟩
  · exact ⟨false, 0, C, S, d, by rw [e]; rfl, hF, fun _ => ⟨hC, by rw [e]⟩, fun e => by cases e⟩
  · obtain ⟨n, hn⟩ := Int.eq_ofNat_of_zero_le (show 0 ≤ lenI (fOf xs) by omega)
    have es : szL xs = n := by unfold szL; rw [e]; dsimp only; rw [hn, Int.toNat_natCast]
    exact ⟨true, n, 0, 0, ⟨#[]⟩, by rw [e, hn]; rfl, hF, fun e => (by cases e), fun _ => ⟨rfl, by rw [e], es.symm, by omega, by omega⟩⟩
theorem RDecode_u (w0 : World) (ad : Option Addr) (c : Nat) (xs : List Int) (hC : CellsAt w0 ad (u8s xs)) (hB : Bys xs) (hle : xs.length ≤ c) (hn : xs.length ≤ 90000) :
    Calls Tryd.prog 18 #[.slice ad xs.length c] w0 fun e w' => ∃ (ok : Bool) (C S : Int) (d : ByteArray) (m : MsL) (K : List Ent), e = .returned (.tuple #[.agg m.rcells.toArray, .agg (fltL C S d).toArray]) ∧ MsAll K m ∧ St (fun _ => False) w0 w' K ∧
      (ok = false → C ≠ 0 ∧ decM xs = .inr (C, S, d)) ∧ (ok = true → C = 0 ∧ decM xs = .inl m.d) :=
  (RDecAny_c w0 ad c xs hC hB hle hn).mono fun e w' h => by
    obtain ⟨C, S, d, m, K, he, hM, hS, hI⟩ := h
    unfold DecIs at hI
    cases hp : decM xs with
    | inr x =>
      rw [hp] at hI
      obtain ⟨rfl, _⟩ := hI
      exact ⟨false, C, S, d, m, K, he, hM, hS, fun _ => ⟨decM_code hp, rfl⟩, fun e => by cases e⟩
    | inl dd =>
      rw [hp] at hI
      obtain ⟨h1, h2, h3, h4⟩ := hI
      exact ⟨true, C, S, d, m, K, he, hM, hS, (fun e => by cases e), fun _ => ⟨h1, by rw [h4]⟩⟩
def rmsL (ms : List MsL) : List Value := ms.flatMap MsL.rcells
theorem rmsL_snoc (ms : List MsL) (m : MsL) : rmsL (ms ++ [m]) = rmsL ms ++ m.rcells := by unfold rmsL; rw [List.flatMap_append, List.flatMap_cons, List.flatMap_nil, List.append_nil]
structure FeT where
  ys : List Int
  aa : Option Addr
  c : Nat
  rs : List MsL
  ad : Option Addr
  rc : Nat
  E : List Ent
  K : List Ent
def ToldP (w0 w' : World) (xs : List Int) (e : Ending) : Prop :=
  ∃ (ad : Option Addr) (rc : Nat) (rs : List MsL) (E K : List Ent) (f : Option (Int × Int × ByteArray)) (rest : List Int),
    feedM [] xs = (rs.map MsL.d, f, rest) ∧ e = .returned (.tuple #[.slice ad rs.length rc, .agg (fltL (fltOf f).1 (fltOf f).2.1 (fltOf f).2.2).toArray, .int .i64 rest.length]) ∧ Vec 20 ad rs.length rc (rmsL rs) E ∧ (∀ r ∈ rs, MsAll K r) ∧ St (fun _ => False) w0 w' (E ++ K) ∧ rs.length ≤ xs.length
set_option maxHeartbeats 4000000 in
theorem Told_c (w0 : World) (a : Option Addr) (c : Nat) (xs : List Int) (hC : CellsAt w0 a (u8s xs)) (hB : Bys xs) (hle : xs.length ≤ c) (hn : xs.length ≤ 80000) :
    Calls Tryd.prog 25 #[.slice a xs.length c] w0 fun e w' => ToldP w0 w' xs e := by
  refine enter Tryd.func25 rfl Tryd.ntmps25 rfl (St.start (fun _ => False) w0) ?_
  refine WC.seq ?_
  refine WC.region ?_
  refine WL.val (v_assign rfl rfl) (.none rfl) rfl rfl ?_
  refine WL.alloc rfl zero_28 (.none rfl) rfl rfl ?_
  intro g3 hg3
  refine WL.val (v_assign rfl rfl) (.none rfl) rfl rfl ?_
  refine WL.nil ?_
  refine WE.then_n ?_
  refine WC.seq ?_
  refine WC.region ?_
  refine WL.buildSlice rfl rfl Tryd.underlying69 sz_53 zero_53 rfl (by decide) rfl (.none rfl) rfl rfl ?_
  intro g10 hg10
  refine WL.val (v_assign rfl rfl) (.none rfl) rfl rfl ?_
  refine WL.nil ?_
  refine WE.then_n ?_
  refine WC.seq ?_
  refine WC.block ?_
  refine WC.loop (fun y : FeT => [(5, .slice y.ad y.rs.length y.rc), (3, .pointer (some ⟨g3, 0, none⟩)), (0, .slice y.aa y.ys.length y.c)]) (fun y => y.E ++ (y.K ++ [.row g3 (fltL 0 0 ⟨#[]⟩)])) (fun y => CellsAt w0 y.aa (u8s y.ys) ∧ Bys y.ys ∧ y.ys.length ≤ y.c ∧ feedM [] xs = feedM (y.rs.map MsL.d) y.ys ∧ Vec 20 y.ad y.rs.length y.rc (rmsL y.rs) y.E ∧ (∀ r ∈ y.rs, MsAll y.K r) ∧ y.rs.length + y.ys.length ≤ xs.length) (fun y => y.ys.length) ⟨xs, a, c, [], some ⟨g10, 0, none⟩, 0, [.row g10 []], []⟩ ⟨hC, hB, hle, rfl, Vec.row (k := 0) rfl rfl (Nat.le_refl _), (fun _ h => by cases h), by show 0 + xs.length ≤ xs.length; omega⟩ (.cons rfl (.cons rfl (.cons rfl .nil))) (.refl _) ?_
  rintro ⟨ys, aa, c, rs, ad, rc, E, K⟩ ⟨hCy, hBy, hyc, hfd, hV, hK, hl⟩
  dsimp only at hCy hBy hyc hfd hV hK hl
  dsimp only
  refine WC.seq ?_
  refine WC.seq ?_
  refine WC.region ?_
  refine WL.val (v_move rfl rfl) (.none rfl) rfl rfl ?_
  refine WL.val (v_len_slice rfl rfl Tryd.underlying22) (.none rfl) rfl rfl ?_
  refine WL.test (v_geq rfl rfl rfl) (.none rfl) rfl rfl (fun h13 => ?_) (fun h13 => ?_)
  ·
   refine WL.nil ?_
   refine WE.then_n ?_
   refine WC.cond_t rfl ?_
   refine WC.skip ?_
   refine WE.then_n ?_
   refine WC.block ?_
   refine WC.seq ?_
   refine WC.region ?_
   refine WL.val (v_move rfl rfl) (.none rfl) rfl rfl ?_
   refine WL.call rfl rfl ck_15 (.none rfl) rfl rfl ?_
   intro w1 hS
   refine (RSize_u w1 aa c ys (hCy.frm (hS.rng fun _ h => h)) hBy hyc (by omega)).mono ?_
   rintro e w' ⟨ok, n, C, S, d, rfl, hF, hbad, hok⟩
   refine ⟨_, _, rfl, hS.ext hF, ?_⟩
   refine WL.val (v_move rfl rfl) (.none rfl) rfl rfl ?_
   refine WL.val (v_extract rfl rfl rfl) (.none rfl) rfl rfl ?_
   refine WL.val (v_extract rfl rfl rfl) (.none rfl) rfl rfl ?_
   refine WL.alloc rfl zero_28 (.none rfl) rfl rfl ?_
   intro g7 hg7
   refine WL.val (v_assign rfl rfl) (.none rfl) rfl rfl ?_
   refine WL.storeW rfl rfl rfl rfl many_28 rfl rfl (.none rfl) rfl ?_
   refine WL.as (L' := .row g7 (fltL C S d) :: (E ++ (K ++ [.row g3 (fltL 0 0 ⟨#[]⟩)]))) rfl ?_
   cases ok
   ·
    refine WL.nil ?_
    refine WE.then_n ?_
    refine WC.seq ?_
    refine WC.seq ?_
    refine WC.region ?_
    refine WL.val (v_fieldAddr0 rfl rfl fld_28_0) (.none rfl) rfl rfl ?_
    refine WL.val (v_load1 rfl rfl one_3 (cellAt rfl)) (.none rfl) rfl rfl ?_
    refine WL.val ((v_neq rfl rfl rfl).t ((hbad rfl).1)) (.none rfl) rfl rfl ?_
    refine WL.nil ?_
    refine WE.then_n ?_
    refine WC.cond_t rfl ?_
    refine WC.seq ?_
    refine WC.orders mixed ?_
    refine WR.first (g := 3) [0, 2] (by kernel_rfl) (by kernel_rfl) ?_
    refine WP.val (v_move rfl rfl) (.none rfl) rfl rfl ?_
    refine WP.val (v_assign rfl rfl) (.none rfl) rfl rfl ?_
    refine WP.nil ?_
    refine WR.read (g := 2) [1] (by kernel_rfl) (by kernel_rfl) (by kernel_rfl) (by kernel_rfl) rfl ?_
    refine WQ.val (v_loadN rfl rfl many_28 rfl allAt) (.none rfl) rfl rfl ?_
    refine WQ.nilR ?_
    refine WR.ones (g := 1) [3] (by kernel_rfl) ?_
    refine WL.storeW rfl rfl rfl rfl many_28 rfl rfl (.none rfl) rfl ?_
    refine WL.nilR ?_
    refine WR.first (g := 0) [4] (by kernel_rfl) (by kernel_rfl) ?_
    refine WP.val (v_assign rfl rfl) (.none rfl) rfl rfl ?_
    refine WP.nil ?_
    refine WR.done (by kernel_rfl) ?_
    refine WE.then_n ?_
    refine WC.ret ?_
    refine WE.then_ret ?_
    refine WE.block_ret ?_
    refine WE.then_ret ?_
    refine WE.block_ret ?_
    refine WE.then_ret ?_
    refine WE.ret3 (P := Tryd.prog) (.inl rfl) Tryd.results25 rfl (resRow rfl many_28 rfl) rfl ?_
    have e0 := feedM_bad (acc := rs.map MsL.d) (xs := ys) (by omega) (hbad rfl).2 (hbad rfl).1
    exact fun w' h => ⟨ad, rc, rs, E, K, some (C, S, d), [], by rw [hfd, e0], rfl, hV, hK, h.sub (.cons _ (List.Sublist.append_left (List.sublist_append_left _ _) _)), by omega⟩
   ·
    refine WL.nil ?_
    refine WE.then_n ?_
    refine WC.seq ?_
    refine WC.seq ?_
    refine WC.region ?_
    obtain ⟨eC, hs0, en, h19, h4096⟩ := hok rfl
    refine WL.val (v_fieldAddr0 rfl rfl fld_28_0) (.none rfl) rfl rfl ?_
    refine WL.val (v_load1 rfl rfl one_3 (cellAt rfl)) (.none rfl) rfl rfl ?_
    refine WL.val ((v_neq rfl rfl rfl).f ((by rw [eC]; decide))) (.none rfl) rfl rfl ?_
    refine WL.nil ?_
    refine WE.then_n ?_
    refine WC.cond_f rfl ?_
    refine WC.skip ?_
    refine WE.then_n ?_
    refine WC.seq ?_
    refine WC.seq ?_
    refine WC.region ?_
    refine WL.val (v_move rfl rfl) (.none rfl) rfl rfl ?_
    refine WL.val (v_move rfl rfl) (.none rfl) rfl rfl ?_
    refine WL.val (v_len_slice rfl rfl Tryd.underlying22) (.none rfl) rfl rfl ?_
    refine WL.test (v_gtr rfl rfl rfl) (.none rfl) rfl rfl (fun h27 => ?_) (fun h27 => ?_)
    ·
     refine WL.nil ?_
     refine WE.then_n ?_
     refine WC.cond_t rfl ?_
     refine WC.exit ?_
     refine WE.then_exit ?_
     refine WE.block_miss rfl ?_
     refine WE.then_exit ?_
     refine WE.block_hit ?_
     refine WE.then_n ?_
     refine WC.seq ?_
     refine WC.region ?_
     refine WL.val (v_move rfl rfl) (.none rfl) rfl rfl ?_
     refine WL.val (v_build rfl rfl zero_28 plc_28 rfl) (.none rfl) rfl rfl ?_
     refine WL.val (v_move rfl rfl) (.none rfl) rfl rfl ?_
     refine WL.val (v_len_slice rfl rfl Tryd.underlying22) (.none rfl) rfl rfl ?_
     refine WL.val (v_assign rfl rfl) (.none rfl) rfl rfl ?_
     refine WL.storeW rfl rfl rfl rfl many_28 rfl rfl (.none rfl) rfl ?_
     refine WL.val (v_assign rfl rfl) (.none rfl) rfl rfl ?_
     refine WL.nil ?_
     refine WE.then_n ?_
     refine WC.ret ?_
     refine WE.ret3 (P := Tryd.prog) (.inl rfl) Tryd.results25 rfl (resRow rfl many_28 rfl) rfl ?_
     exact fun w' h => ⟨ad, rc, rs, E, K, none, ys, by rw [hfd, feedM_wait (by omega) hs0 (by omega)], rfl, hV, hK, h.sub (.cons _ (List.Sublist.append_left (List.sublist_append_left _ _) _)), by omega⟩
    ·
     refine WL.nil ?_
     refine WE.then_n ?_
     refine WC.cond_f rfl ?_
     refine WC.skip ?_
     refine WE.then_n ?_
     refine WC.seq ?_
     refine WC.region ?_
     refine WL.val (v_move rfl rfl) (.none rfl) rfl rfl ?_
     refine WL.val (v_move rfl rfl) (.none rfl) rfl rfl ?_
     refine WL.val ((v_slice_hi (hi := n) rfl rfl rfl Tryd.underlying22 sz_5 rfl (by omega))) (.none rfl) rfl rfl ?_
     refine WL.call rfl rfl ck_18 (.none rfl) rfl rfl ?_
     intro w1 hS
     have htl : (ys.take n).length = n := (by rw [List.length_take]; omega)
     have hCt : CellsAt w1 aa (u8s (ys.take n)) := (fun h0 => by
       obtain ⟨b, o, e, hr⟩ := hCy (by rw [u8s_len]; omega)
       refine ⟨b, o, e, rangeL (ys := u8s (ys.drop n)) ?_⟩
       rw [← u8s_app, List.take_append_drop]
       exact hS.rng (fun _ h => h) _ _ _ hr)
     have hc := RDecode_u w1 aa c (ys.take n) hCt (fun x hx => hBy x (List.mem_of_mem_take hx)) (by omega) (by omega)
     rw [htl] at hc
     refine hc.mono ?_
     rintro e w' ⟨ok2, C2, S2, d2, m, Kd, rfl, hM, hS', hbad2, hok2⟩
     refine ⟨_, _, rfl, hS.join hS', ?_⟩
     refine WL.val (v_move rfl rfl) (.none rfl) rfl rfl ?_
     refine WL.val (v_extract rfl rfl rfl) (.none rfl) rfl rfl ?_
     refine WL.val (v_extract rfl rfl rfl) (.none rfl) rfl rfl ?_
     refine WL.alloc rfl zero_53 (.none rfl) rfl rfl ?_
     intro g8 hg8
     refine WL.alloc rfl zero_28 (.none rfl) rfl rfl ?_
     intro g9 hg9
     refine WL.storeW rfl rfl rfl rfl many_53 rfl rfl (.none rfl) rfl ?_
     refine WL.storeW rfl rfl rfl rfl many_28 rfl rfl (.none rfl) rfl ?_
     refine WL.as (L' := .row g9 (fltL C2 S2 d2) :: .row g8 m.rcells :: (Kd ++ (.row g7 (fltL C S d) :: (E ++ (K ++ [.row g3 (fltL 0 0 ⟨#[]⟩)]))))) rfl ?_
     cases ok2
     ·
      refine WL.nil ?_
      refine WE.then_n ?_
      refine WC.seq ?_
      refine WC.seq ?_
      refine WC.region ?_
      refine WL.val (v_fieldAddr0 rfl rfl fld_28_0) (.none rfl) rfl rfl ?_
      refine WL.val (v_load1 rfl rfl one_3 (cellAt rfl)) (.none rfl) rfl rfl ?_
      refine WL.val ((v_neq rfl rfl rfl).t ((hbad2 rfl).1)) (.none rfl) rfl rfl ?_
      refine WL.nil ?_
      refine WE.then_n ?_
      refine WC.cond_t rfl ?_
      refine WC.seq ?_
      refine WC.orders mixed ?_
      refine WR.first (g := 3) [0, 2] (by kernel_rfl) (by kernel_rfl) ?_
      refine WP.val (v_move rfl rfl) (.none rfl) rfl rfl ?_
      refine WP.val (v_assign rfl rfl) (.none rfl) rfl rfl ?_
      refine WP.nil ?_
      refine WR.read (g := 2) [1] (by kernel_rfl) (by kernel_rfl) (by kernel_rfl) (by kernel_rfl) rfl ?_
      refine WQ.val (v_loadN rfl rfl many_28 rfl allAt) (.none rfl) rfl rfl ?_
      refine WQ.nilR ?_
      refine WR.ones (g := 1) [3] (by kernel_rfl) ?_
      refine WL.storeW rfl rfl rfl rfl many_28 rfl rfl (.none rfl) rfl ?_
      refine WL.nilR ?_
      refine WR.first (g := 0) [4] (by kernel_rfl) (by kernel_rfl) ?_
      refine WP.val (v_assign rfl rfl) (.none rfl) rfl rfl ?_
      refine WP.nil ?_
      refine WR.done (by kernel_rfl) ?_
      refine WE.then_n ?_
      refine WC.ret ?_
      refine WE.then_ret ?_
      refine WE.block_ret ?_
      refine WE.then_ret ?_
      refine WE.block_ret ?_
      refine WE.then_ret ?_
      refine WE.ret3 (P := Tryd.prog) (.inl rfl) Tryd.results25 rfl (resRow rfl many_28 rfl) rfl ?_
      have e0 := feedM_flt (acc := rs.map MsL.d) (xs := ys) (by omega) hs0 (by omega) (by rw [← en]; exact (hbad2 rfl).2)
      exact fun w' h => ⟨ad, rc, rs, E, K, some (C2, S2, d2), [], by rw [hfd, e0], rfl, hV, hK, h.sub (.cons _ (.cons _ (List.sublist_append_of_sublist_right (.cons _ (List.Sublist.append_left (List.sublist_append_left _ _) _))))), by omega⟩
     ·
      refine WL.nil ?_
      refine WE.then_n ?_
      refine WC.seq ?_
      refine WC.seq ?_
      refine WC.region ?_
      obtain ⟨eC2, hd2⟩ := hok2 rfl
      have e0 := feedM_on (acc := rs.map MsL.d) (xs := ys) (by omega) hs0 (by omega) (by rw [← en]; exact hd2)
      refine WL.val (v_fieldAddr0 rfl rfl fld_28_0) (.none rfl) rfl rfl ?_
      refine WL.val (v_load1 rfl rfl one_3 (cellAt rfl)) (.none rfl) rfl rfl ?_
      refine WL.val ((v_neq rfl rfl rfl).f ((by rw [eC2]; decide))) (.none rfl) rfl rfl ?_
      refine WL.nil ?_
      refine WE.then_n ?_
      refine WC.cond_f rfl ?_
      refine WC.skip ?_
      refine WE.then_n ?_
      refine WC.seq ?_
      refine WC.region ?_
      refine WL.val (v_move rfl rfl) (.none rfl) rfl rfl ?_
      refine WL.val (v_loadN rfl rfl many_53 rfl allAt) (.none rfl) rfl rfl ?_
      refine WL.buildSlice rfl rfl Tryd.underlying69 sz_53 zero_53 rfl (by decide) rfl (.none rfl) rfl rfl ?_
      intro g42 hg42
      refine WL.as (L' := .row g42 m.rcells :: .row g9 (fltL C2 S2 d2) :: .row g8 m.rcells :: (Kd ++ (.row g7 (fltL C S d) :: (E ++ (K ++ [.row g3 (fltL 0 0 ⟨#[]⟩)]))))) rfl ?_
      refine WL.to (L' := E ++ (.row g42 m.rcells :: .row g9 (fltL C2 S2 d2) :: .row g8 m.rcells :: .row g7 (fltL C S d) :: (Kd ++ (K ++ [.row g3 (fltL 0 0 ⟨#[]⟩)])))) (fun w hS => hS.permC (by intro c h1 h2 h3 e; simp only [h1, h2, h3]; omega)) ?_
      refine WL.appendL rfl rfl rfl Tryd.underlying69 Tryd.underlying69 sz_53 by_53 zero_53 rfl rfl hV (new := m.rcells) (fun _ => ⟨g42, 0, rfl, fun w hS => allAt (g := g42) w hS⟩) rfl rfl (by omega) (.none rfl) rfl rfl ?_
      intro ad43 c43 E43 hV43 hr43
      rw [← rmsL_snoc] at hV43
      rw [show rs.length + 1 = (rs ++ [m]).length by rw [List.length_append]; rfl] at hV43 ⊢
      refine WL.val (v_assign rfl rfl) (.none rfl) rfl rfl ?_
      refine WL.nil ?_
      refine WE.then_n ?_
      refine WC.region ?_
      refine WL.val (v_move rfl rfl) (.none rfl) rfl rfl ?_
      refine WL.val (v_move rfl rfl) (.none rfl) rfl rfl ?_
      obtain ⟨b, o, ea, hr⟩ := hCy (by rw [u8s_len]; omega)
      rw [ea]
      refine WL.val ((v_slice_lo (lo := n) rfl rfl rfl Tryd.underlying22 sz_5 rfl (by omega))) (.none rfl) rfl rfl ?_
      refine WL.val (v_assign rfl rfl) (.none rfl) rfl rfl ?_
      refine WL.nil ?_
      refine WE.block_n ?_
      have hWd := (Win.mk hr hBy hyc).drop n
      exact WE.to (L' := E43 ++ ((Kd ++ K) ++ [.row g3 (fltL 0 0 ⟨#[]⟩)])) (fun w hS => by
        have := hS.sub (L' := E43 ++ (Kd ++ (K ++ [.row g3 (fltL 0 0 ⟨#[]⟩)]))) (List.Sublist.append_left (.cons _ (.cons _ (.cons _ (.cons _ (.refl _))))) _)
        rwa [← List.append_assoc Kd] at this) (WE.next ⟨ys.drop n, some ⟨b, sAddr o n c 1, none⟩, c - n, rs ++ [m], ad43, c43, E43, Kd ++ K⟩ (by dsimp only; rw [List.length_drop]; omega) ⟨fun _ => ⟨_, _, rfl, hWd.at_⟩, hWd.bys, hWd.le, by dsimp only; rw [hfd, e0, List.map_append, en]; rfl, hV43, fun r hr => (by
        rcases List.mem_append.1 hr with hr | hr
        · exact (hK r hr).mono fun e he => List.mem_append_right _ he
        · rw [List.mem_singleton.1 hr]
          exact hM.mono fun e he => List.mem_append_left _ he), by dsimp only; rw [List.length_append, List.length_drop]; show _ + 1 + _ ≤ _; omega⟩ (.cons rfl (.cons rfl (.eq rfl (by dsimp only; rw [List.length_drop]) .nil))) (.refl _))
  ·
   refine WL.nil ?_
   refine WE.then_n ?_
   refine WC.cond_f rfl ?_
   refine WC.exit ?_
   refine WE.then_exit ?_
   refine WE.then_exit ?_
   refine WE.block_hit ?_
   refine WE.then_n ?_
   refine WC.seq ?_
   refine WC.region ?_
   refine WL.val (v_move rfl rfl) (.none rfl) rfl rfl ?_
   refine WL.val (v_build rfl rfl zero_28 plc_28 rfl) (.none rfl) rfl rfl ?_
   refine WL.val (v_move rfl rfl) (.none rfl) rfl rfl ?_
   refine WL.val (v_len_slice rfl rfl Tryd.underlying22) (.none rfl) rfl rfl ?_
   refine WL.val (v_assign rfl rfl) (.none rfl) rfl rfl ?_
   refine WL.storeW rfl rfl rfl rfl many_28 rfl rfl (.none rfl) rfl ?_
   refine WL.val (v_assign rfl rfl) (.none rfl) rfl rfl ?_
   refine WL.nil ?_
   refine WE.then_n ?_
   refine WC.ret ?_
   refine WE.ret3 (P := Tryd.prog) (.inl rfl) Tryd.results25 rfl (resRow rfl many_28 rfl) rfl ?_
   exact fun w' h => ⟨ad, rc, rs, E, K, none, ys, by rw [hfd, feedM_few (by omega)], rfl, hV, hK, h.sub (List.Sublist.append_left (List.sublist_append_left _ _) _), by omega⟩
set_option maxHeartbeats 2000000 in
theorem Same08_c (w : World) (m r : MsL) (e : m.d = r.d) : Calls Tryd.prog 29 #[.agg m.cells.toArray, .agg r.rcells.toArray] w fun e w' => e = .returned (.bool true) ∧ Frm (fun _ => False) w w' := by
  have e1 : m.kind = r.kind := congrArg MsD.kind e
  have e2 : m.asn = r.asn := congrArg MsD.asn e
  have e3 : m.hold = r.hold := congrArg MsD.hold e
  have e4 : m.id = r.id := congrArg MsD.id e
  have e5 : m.caps.length = r.caps.length := map_len_eq (f := capD) (congrArg MsD.caps e)
  have e6 : m.gone.length = r.gone.length := congrArg (fun x => (MsD.gone x).length) e
  have e7 : m.nets.length = r.nets.length := congrArg (fun x => (MsD.nets x).length) e
  have e8 : m.atr.has = r.atr.has := congrArg (fun x => AtD.has (MsD.atr x)) e
  have e9 : m.fc = r.fc := congrArg MsD.fc e
  have e10 : m.fd = r.fd := congrArg MsD.fd e
  refine enter Tryd.func29 rfl Tryd.ntmps29 rfl (St.start (fun _ => False) w) ?_
  refine WC.seq ?_
  refine WC.region ?_
  refine WL.box rfl rfl rfl (.none rfl) rfl rfl ?_
  intro g2 hg2
  refine WL.box rfl rfl rfl (.none rfl) rfl rfl ?_
  intro g3 hg3
  refine WL.val (v_assign rfl rfl) (.none rfl) rfl rfl ?_
  refine WL.nil ?_
  refine WE.then_n ?_
  refine WC.seq ?_
  refine WC.region ?_
  refine WL.val (v_fieldAddr0 rfl rfl fld_43_0) (.none rfl) rfl rfl ?_
  refine WL.val (v_load1 rfl rfl one_3 (cellAt rfl)) (.none rfl) rfl rfl ?_
  refine WL.val (v_fieldAddr0 rfl rfl fld_53_0) (.none rfl) rfl rfl ?_
  refine WL.val (v_load1 rfl rfl one_3 (cellAt rfl)) (.none rfl) rfl rfl ?_
  refine WL.val ((v_eql rfl rfl rfl).t (e1)) (.none rfl) rfl rfl ?_
  refine WL.val (v_move rfl rfl) (.none rfl) rfl rfl ?_
  refine WL.val (v_fieldAddr0 rfl rfl fld_43_1) (.some rfl rfl rfl) rfl rfl ?_
  refine WL.val (v_load1 rfl rfl one_3 (cellAt rfl)) (.some rfl rfl rfl) rfl rfl ?_
  refine WL.val (v_fieldAddr0 rfl rfl fld_53_1) (.some rfl rfl rfl) rfl rfl ?_
  refine WL.val (v_load1 rfl rfl one_3 (cellAt rfl)) (.some rfl rfl rfl) rfl rfl ?_
  refine WL.val ((v_eql rfl rfl rfl).t (e2)) (.some rfl rfl rfl) rfl rfl ?_
  refine WL.val (v_pick_t rfl rfl rfl) (.none rfl) rfl rfl ?_
  refine WL.val (v_move rfl rfl) (.none rfl) rfl rfl ?_
  refine WL.val (v_fieldAddr0 rfl rfl fld_43_2) (.some rfl rfl rfl) rfl rfl ?_
  refine WL.val (v_load1 rfl rfl one_3 (cellAt rfl)) (.some rfl rfl rfl) rfl rfl ?_
  refine WL.val (v_fieldAddr0 rfl rfl fld_53_2) (.some rfl rfl rfl) rfl rfl ?_
  refine WL.val (v_load1 rfl rfl one_3 (cellAt rfl)) (.some rfl rfl rfl) rfl rfl ?_
  refine WL.val ((v_eql rfl rfl rfl).t (e3)) (.some rfl rfl rfl) rfl rfl ?_
  refine WL.val (v_pick_t rfl rfl rfl) (.none rfl) rfl rfl ?_
  refine WL.val (v_move rfl rfl) (.none rfl) rfl rfl ?_
  refine WL.val (v_fieldAddr0 rfl rfl fld_43_3) (.some rfl rfl rfl) rfl rfl ?_
  refine WL.val (v_load1 rfl rfl one_34 (cellAt rfl)) (.some rfl rfl rfl) rfl rfl ?_
  refine WL.val (v_fieldAddr0 rfl rfl fld_53_3) (.some rfl rfl rfl) rfl rfl ?_
  refine WL.val (v_load1 rfl rfl one_33 (cellAt rfl)) (.some rfl rfl rfl) rfl rfl ?_
  refine WL.val ((v_eql rfl rfl rfl).t (e4)) (.some rfl rfl rfl) rfl rfl ?_
  refine WL.val (v_pick_t rfl rfl rfl) (.none rfl) rfl rfl ?_
  refine WL.val (v_move rfl rfl) (.none rfl) rfl rfl ?_
  refine WL.val (v_fieldAddr0 rfl rfl fld_43_4) (.some rfl rfl rfl) rfl rfl ?_
  refine WL.val (v_load1 rfl rfl one_35 (cellAt rfl)) (.some rfl rfl rfl) rfl rfl ?_
  refine WL.val (v_len_slice rfl rfl Tryd.underlying35) (.some rfl rfl rfl) rfl rfl ?_
  refine WL.val (v_fieldAddr0 rfl rfl fld_53_4) (.some rfl rfl rfl) rfl rfl ?_
  refine WL.val (v_load1 rfl rfl one_46 (cellAt rfl)) (.some rfl rfl rfl) rfl rfl ?_
  refine WL.val (v_len_slice rfl rfl Tryd.underlying46) (.some rfl rfl rfl) rfl rfl ?_
  refine WL.val ((v_eql rfl rfl rfl).t (by omega)) (.some rfl rfl rfl) rfl rfl ?_
  refine WL.val (v_pick_t rfl rfl rfl) (.none rfl) rfl rfl ?_
  refine WL.val (v_move rfl rfl) (.none rfl) rfl rfl ?_
  refine WL.val (v_fieldAddr0 rfl rfl fld_43_5) (.some rfl rfl rfl) rfl rfl ?_
  refine WL.val (v_load1 rfl rfl one_36 (cellAt rfl)) (.some rfl rfl rfl) rfl rfl ?_
  refine WL.val (v_len_slice rfl rfl Tryd.underlying36) (.some rfl rfl rfl) rfl rfl ?_
  refine WL.val (v_fieldAddr0 rfl rfl fld_53_5) (.some rfl rfl rfl) rfl rfl ?_
  refine WL.val (v_load1 rfl rfl one_47 (cellAt rfl)) (.some rfl rfl rfl) rfl rfl ?_
  refine WL.val (v_len_slice rfl rfl Tryd.underlying47) (.some rfl rfl rfl) rfl rfl ?_
  refine WL.val ((v_eql rfl rfl rfl).t (by omega)) (.some rfl rfl rfl) rfl rfl ?_
  refine WL.val (v_pick_t rfl rfl rfl) (.none rfl) rfl rfl ?_
  refine WL.val (v_move rfl rfl) (.none rfl) rfl rfl ?_
  refine WL.val (v_fieldAddr0 rfl rfl fld_43_7) (.some rfl rfl rfl) rfl rfl ?_
  refine WL.val (v_load1 rfl rfl one_36 (cellAt rfl)) (.some rfl rfl rfl) rfl rfl ?_
  refine WL.val (v_len_slice rfl rfl Tryd.underlying36) (.some rfl rfl rfl) rfl rfl ?_
  refine WL.val (v_fieldAddr0 rfl rfl fld_53_7) (.some rfl rfl rfl) rfl rfl ?_
  refine WL.val (v_load1 rfl rfl one_47 (cellAt rfl)) (.some rfl rfl rfl) rfl rfl ?_
  refine WL.val (v_len_slice rfl rfl Tryd.underlying47) (.some rfl rfl rfl) rfl rfl ?_
  refine WL.val ((v_eql rfl rfl rfl).t (by omega)) (.some rfl rfl rfl) rfl rfl ?_
  refine WL.val (v_pick_t rfl rfl rfl) (.none rfl) rfl rfl ?_
  refine WL.val (v_move rfl rfl) (.none rfl) rfl rfl ?_
  refine WL.val (v_fieldAddr0 rfl rfl fld_43_6) (.some rfl rfl rfl) rfl rfl ?_
  refine WL.val (v_fieldAddr rfl rfl fld_41_0) (.some rfl rfl rfl) rfl rfl ?_
  refine WL.val (v_load1 rfl rfl one_3 (cellAt rfl)) (.some rfl rfl rfl) rfl rfl ?_
  refine WL.val (v_fieldAddr0 rfl rfl fld_53_6) (.some rfl rfl rfl) rfl rfl ?_
  refine WL.val (v_fieldAddr rfl rfl fld_51_0) (.some rfl rfl rfl) rfl rfl ?_
  refine WL.val (v_load1 rfl rfl one_3 (cellAt rfl)) (.some rfl rfl rfl) rfl rfl ?_
  refine WL.val ((v_eql rfl rfl rfl).t (e8)) (.some rfl rfl rfl) rfl rfl ?_
  refine WL.val (v_pick_t rfl rfl rfl) (.none rfl) rfl rfl ?_
  refine WL.val (v_move rfl rfl) (.none rfl) rfl rfl ?_
  refine WL.val (v_fieldAddr0 rfl rfl fld_43_8) (.some rfl rfl rfl) rfl rfl ?_
  refine WL.val (v_fieldAddr rfl rfl fld_25_0) (.some rfl rfl rfl) rfl rfl ?_
  refine WL.val (v_load1 rfl rfl one_3 (cellAt rfl)) (.some rfl rfl rfl) rfl rfl ?_
  refine WL.val (v_fieldAddr0 rfl rfl fld_53_8) (.some rfl rfl rfl) rfl rfl ?_
  refine WL.val (v_fieldAddr rfl rfl fld_28_0) (.some rfl rfl rfl) rfl rfl ?_
  refine WL.val (v_load1 rfl rfl one_3 (cellAt rfl)) (.some rfl rfl rfl) rfl rfl ?_
  refine WL.val ((v_eql rfl rfl rfl).t (e9)) (.some rfl rfl rfl) rfl rfl ?_
  refine WL.val (v_pick_t rfl rfl rfl) (.none rfl) rfl rfl ?_
  refine WL.val (v_move rfl rfl) (.none rfl) rfl rfl ?_
  refine WL.val (v_fieldAddr0 rfl rfl fld_43_8) (.some rfl rfl rfl) rfl rfl ?_
  refine WL.val (v_fieldAddr rfl rfl fld_25_2) (.some rfl rfl rfl) rfl rfl ?_
  refine WL.val (v_load1 rfl rfl one_9 (cellAt rfl)) (.some rfl rfl rfl) rfl rfl ?_
  refine WL.val (v_fieldAddr0 rfl rfl fld_53_8) (.some rfl rfl rfl) rfl rfl ?_
  refine WL.val (v_fieldAddr rfl rfl fld_28_2) (.some rfl rfl rfl) rfl rfl ?_
  refine WL.val (v_load1 rfl rfl one_9 (cellAt rfl)) (.some rfl rfl rfl) rfl rfl ?_
  refine WL.val ((v_eql_string rfl rfl rfl Tryd.underlying9).t ((by rw [e10]))) (.some rfl rfl rfl) rfl rfl ?_
  refine WL.val (v_pick_t rfl rfl rfl) (.none rfl) rfl rfl ?_
  refine WL.val (v_assign rfl rfl) (.none rfl) rfl rfl ?_
  refine WL.nil ?_
  refine WE.then_n ?_
  refine WC.ret ?_
  refine WE.ret1 (P := Tryd.prog) (.inl rfl) Tryd.results29 rfl ?_
  exact fun w' h => ⟨rfl, h.frm⟩
end Go.Proofs.YtpjbofodllhjbaaDoor
/- stream: StreamFeeds, walked (printed by gen/fec.py). -/
namespace Go.Proofs.YtpjbofodllhjbaaDoor
open Go.RowKit

theorem msgs_one (ms : List MsL) : (msgsL ms).all one = true := by
  induction ms with
  | nil => rfl
  | cons m ms ih => show (m.cells ++ msgsL ms).all one = true; rw [List.all_append, ih]; rfl
theorem msgsL_app (xs ys : List MsL) : msgsL (xs ++ ys) = msgsL xs ++ msgsL ys := List.flatMap_append
structure FeU where
  i : Nat
  ys : List Int
  aa : Option Addr
  ac : Nat
  W : List Int
  wad : Option Addr
  wc : Nat
  Ew : List Ent
  gs : List MsL
  gad : Option Addr
  gc : Nat
  Eg : List Ent
  K : List Ent
  ov : Bool
  C : Int
  S : Int
  d : ByteArray
structure FeU.Good (y : FeU) (xs : List Int) (N : Nat) (Ea : List Ent) : Prop where
  il : y.ys.length = 0 ∨ y.i ≤ N
  win : VecO y.aa y.ac y.ys Ea
  wait : BV y.wad y.wc y.W y.Ew
  bys : Bys (y.W ++ y.ys)
  got : Vec 20 y.gad y.gs.length y.gc (msgsL y.gs) y.Eg
  all : ∀ m ∈ y.gs, MsAll y.K m
  len : y.gs.length + y.W.length + y.ys.length ≤ xs.length
  no : y.ov = false → y.C = 0 ∧ y.S = 0 ∧ y.d = ⟨#[]⟩ ∧ feedM [] xs = feedM (y.gs.map MsL.d) (y.W ++ y.ys) ∧ feedM (y.gs.map MsL.d) y.W = (y.gs.map MsL.d, none, y.W)
  yes : y.ov = true → y.C ≠ 0 ∧ y.W = [] ∧ feedM [] xs = (y.gs.map MsL.d, some (y.C, y.S, y.d), [])
theorem mod64 {x : Int} : 0 ≤ x % 64 ∧ x % 64 < 64 := by omega
set_option maxHeartbeats 8000000 in
theorem StreamFeeds_all (w0 : World) (hG : GF w0) (hZ : GZ w0) (a : Option Addr) (c : Nat) (xs : List Int) (ca : Option Addr) (cc : Nat) (cs : List Int) (hC : CellsAt w0 a (u8s xs)) (hB : Bys xs) (hle : xs.length ≤ c) (hn : xs.length ≤ 9223372036854775807) (hCc : CellsAt w0 ca (i64s cs)) (hcn : cs.length ≤ 9223372036854775807) :
    Calls Tryd.prog 8 #[.slice a xs.length c, .slice ca cs.length cc] w0 fun e w' => e = .returned (.bool true) ∧ Frm (fun _ => False) w0 w' := by
  refine enter Tryd.func8 rfl Tryd.ntmps8 rfl (St.start (fun _ => False) w0) ?_
  refine WC.seq ?_
  refine WC.region ?_
  refine WL.val (v_assign rfl rfl) (.none rfl) rfl rfl ?_
  refine WL.nil ?_
  refine WE.then_n ?_
  refine WC.seq ?_
  refine WC.seq ?_
  refine WC.region ?_
  refine WL.call rfl rfl ck_24 (.none rfl) rfl rfl ?_
  intro w hS
  refine Calls.then (Head08_c w (hG.keep (fun h => h) hS) (hZ.keep (fun h => h) hS)) hS ?_
  refine WL.val (v_not rfl rfl rfl) (.none rfl) rfl rfl ?_
  refine WL.nil ?_
  refine WE.then_n ?_
  refine WC.cond_f rfl ?_
  refine WC.skip ?_
  refine WE.then_n ?_
  refine WC.seq ?_
  refine WC.seq ?_
  refine WC.region ?_
  refine WL.val (v_move rfl rfl) (.none rfl) rfl rfl ?_
  refine WL.val (v_len_slice rfl rfl Tryd.underlying22) (.none rfl) rfl rfl ?_
  refine WL.test (v_gtr rfl rfl rfl) (.none rfl) rfl rfl (fun h25 => ?_) (fun h25 => ?_)
  ·
   refine WL.val (v_move rfl rfl) (.none rfl) rfl rfl ?_
   refine WL.skip rfl rfl rfl rfl rfl rfl ?_
   refine WL.skip rfl rfl rfl rfl rfl rfl ?_
   refine WL.skip rfl rfl rfl rfl rfl rfl ?_
   refine WL.val (v_pick_t rfl rfl rfl) (.none rfl) rfl rfl ?_
   refine WL.nil ?_
   refine WE.then_n ?_
   refine WC.cond_t rfl ?_
   refine WC.seq ?_
   refine WC.region ?_
   refine WL.val (v_assign rfl rfl) (.none rfl) rfl rfl ?_
   refine WL.nil ?_
   refine WE.then_n ?_
   refine WC.ret ?_
   refine WE.then_ret ?_
   refine WE.ret1 (P := Tryd.prog) (.inl rfl) Tryd.results8 rfl ?_
   exact fun w' h => ⟨rfl, h.frm⟩
  ·
   refine WL.val (v_move rfl rfl) (.none rfl) rfl rfl ?_
   refine WL.val (v_move rfl rfl) (.some rfl rfl rfl) rfl rfl ?_
   refine WL.val (v_len_slice rfl rfl Tryd.underlying38) (.some rfl rfl rfl) rfl rfl ?_
   refine WL.test (v_gtr rfl rfl rfl) (.some rfl rfl rfl) rfl rfl (fun h29 => ?_) (fun h29 => ?_)
   ·
    refine WL.val (v_pick_f rfl rfl rfl) (.none rfl) rfl rfl ?_
    refine WL.nil ?_
    refine WE.then_n ?_
    refine WC.cond_t rfl ?_
    refine WC.seq ?_
    refine WC.region ?_
    refine WL.val (v_assign rfl rfl) (.none rfl) rfl rfl ?_
    refine WL.nil ?_
    refine WE.then_n ?_
    refine WC.ret ?_
    refine WE.then_ret ?_
    refine WE.ret1 (P := Tryd.prog) (.inl rfl) Tryd.results8 rfl ?_
    exact fun w' h => ⟨rfl, h.frm⟩
   ·
    refine WL.val (v_pick_f rfl rfl rfl) (.none rfl) rfl rfl ?_
    refine WL.nil ?_
    refine WE.then_n ?_
    refine WC.cond_f rfl ?_
    refine WC.skip ?_
    refine WE.then_n ?_
    refine WC.seq ?_
    refine WC.region ?_
    refine WL.val (v_move rfl rfl) (.none rfl) rfl rfl ?_
    refine WL.call rfl rfl ck_25 (.none rfl) rfl rfl ?_
    intro w1 hS
    refine (Told_c w1 a c xs (hC.frm (hS.rng fun _ h => h)) hB hle (by omega)).mono ?_
    rintro e w' ⟨tad, trc, rs, Et, Kt, ft, restT, htold, rfl, hVt, hKt, hS', hrl⟩
    refine ⟨_, Et ++ Kt, rfl, by simpa using hS.join hS', ?_⟩
    refine WL.val (v_move rfl rfl) (.none rfl) rfl rfl ?_
    refine WL.val (v_extract rfl rfl rfl) (.none rfl) rfl rfl ?_
    refine WL.val (v_extract rfl rfl rfl) (.none rfl) rfl rfl ?_
    refine WL.val (v_extract rfl rfl rfl) (.none rfl) rfl rfl ?_
    refine WL.alloc rfl zero_28 (.none rfl) rfl rfl ?_
    intro g6 hg6
    refine WL.val (v_assign rfl rfl) (.none rfl) rfl rfl ?_
    refine WL.storeW rfl rfl rfl rfl many_28 rfl rfl (.none rfl) rfl ?_
    refine WL.val (v_assign rfl rfl) (.none rfl) rfl rfl ?_
    refine WL.nil ?_
    refine WE.then_n ?_
    refine WC.seq ?_
    refine WC.region ?_
    refine WL.val (v_build rfl rfl zero_74 plc_74 rfl) (.none rfl) rfl rfl ?_
    refine WL.box rfl rfl rfl (.none rfl) rfl rfl ?_
    intro g38 hg38
    refine WL.val (v_assign rfl rfl) (.none rfl) rfl rfl ?_
    refine WL.nil ?_
    refine WE.then_n ?_
    refine WC.seq ?_
    refine WC.region ?_
    refine WL.buildSlice rfl rfl Tryd.underlying75 sz_43 zero_43 rfl (by decide) rfl (.none rfl) rfl rfl ?_
    intro g39 hg39
    refine WL.val (v_assign rfl rfl) (.none rfl) rfl rfl ?_
    refine WL.nil ?_
    refine WE.then_n ?_
    refine WC.seq ?_
    refine WC.region ?_
    refine WL.val (v_build rfl rfl zero_25 plc_25 rfl) (.none rfl) rfl rfl ?_
    refine WL.alloc rfl zero_25 (.none rfl) rfl rfl ?_
    intro g10 hg10
    refine WL.storeW rfl rfl rfl rfl many_25 rfl rfl (.none rfl) rfl ?_
    refine WL.nil ?_
    refine WE.then_n ?_
    refine WC.seq ?_
    refine WC.region ?_
    refine WL.val (v_move rfl rfl) (.none rfl) rfl rfl ?_
    refine WL.call rfl rfl ck_16 (.none rfl) rfl rfl ?_
    intro w1 hS
    refine (Copy_c (fun _ => False) w0 w1 (.row g10 (fltL 0 0 ⟨#[]⟩) :: .row g39 [] :: .row g38 RdL.zero.cells :: .row g6 (fltL (fltOf ft).1 (fltOf ft).2.1 (fltOf ft).2.2) :: (Et ++ Kt)) a xs.length c (fOf xs) hS (fun w' hS' => rdVal hC hS') (by omega)).mono ?_
    rintro e w' ⟨am, cm, Ea, rfl, hcm, hVa, hS'⟩
    rw [bcs_fOf] at hVa
    refine ⟨_, _, rfl, hS', ?_⟩
    refine WL.val (v_assign rfl rfl) (.none rfl) rfl rfl ?_
    refine WL.nil ?_
    refine WE.then_n ?_
    refine WC.seq ?_
    refine WC.seq ?_
    refine WC.region ?_
    refine WL.val (v_assign rfl rfl) (.none rfl) rfl rfl ?_
    refine WL.to (L' := .row g38 RdL.zero.cells :: .row g39 [] :: .row g10 (fltL 0 0 ⟨#[]⟩) :: (Ea ++ (.row g6 (fltL (fltOf ft).1 (fltOf ft).2.1 (fltOf ft).2.2) :: (Et ++ Kt)))) (fun w hS => hS.permC (by intro c h1 h2 h3 e; simp only [h1, h2, h3]; omega)) ?_
    refine WL.nil ?_
    refine WE.then_n ?_
    refine WC.block ?_
    refine WC.loop (fun y : FeU => [(12, .int .i64 y.i), (11, .slice y.aa y.ys.length y.ac), (10, .pointer (some ⟨g10, 0, none⟩)), (9, .slice y.gad y.gs.length y.gc), (8, .pointer (some ⟨g38, 0, none⟩)), (7, .int .i64 restT.length), (6, .pointer (some ⟨g6, 0, none⟩)), (5, .slice tad rs.length trc), (1, .slice ca cs.length cc)]) (fun y => .row g38 (RdL.cells ⟨y.wad, y.wc, y.W, (y.gs.length : Int), y.C, y.S, y.d⟩) :: (y.Ew ++ (y.Eg ++ (y.K ++ (.row g10 (fltL y.C y.S y.d) :: (Ea ++ (.row g6 (fltL (fltOf ft).1 (fltOf ft).2.1 (fltOf ft).2.2) :: (Et ++ Kt)))))))) (fun y => y.Good xs cs.length Ea) (fun y => y.ys.length + (cs.length - y.i)) ⟨0, xs, am, cm, [], none, 0, [], [], some ⟨g39, 0, none⟩, 0, [.row g39 []], [], false, 0, 0, ⟨#[]⟩⟩ ⟨.inr (Nat.zero_le _), .of hVa, Vec.nil 1, hB, Vec.row (k := 0) rfl rfl (Nat.le_refl _), (fun _ h => by cases h), by show 0 + 0 + xs.length ≤ xs.length; omega, fun _ => ⟨rfl, rfl, rfl, rfl, feedM_nil _⟩, fun e => by cases e⟩ (.cons rfl (.cons rfl (.cons rfl (.cons rfl (.cons rfl (.cons rfl (.cons rfl (.cons rfl (.cons rfl .nil))))))))) (.refl _) ?_
    rintro ⟨i, ys, aa, ac, W, wad, wc, Ew, gs, gad, gc, Eg, K, ov, C, S, d⟩ ⟨hil, hVy, hVw, hBw, hVg, hKg, hln, hno, hyes⟩
    dsimp only at hil hVy hVw hBw hVg hKg hln hno hyes
    dsimp only
    have hyc := hVy.len
    refine WC.seq ?_
    refine WC.seq ?_
    refine WC.region ?_
    refine WL.val (v_move rfl rfl) (.none rfl) rfl rfl ?_
    skip
    cases ov
    ·
     obtain ⟨rfl, rfl, rfl, hfd, hid⟩ := hno rfl
     refine WL.val (v_len_slice rfl rfl Tryd.underlying22) (.none rfl) rfl rfl ?_
     refine WL.test (v_gtr rfl rfl rfl) (.none rfl) rfl rfl (fun h45 => ?_) (fun h45 => ?_)
     ·
      refine WL.nil ?_
      refine WE.then_n ?_
      refine WC.cond_t rfl ?_
      refine WC.skip ?_
      refine WE.then_n ?_
      refine WC.seq ?_
      refine WC.block ?_
      refine WC.seq ?_
      refine WC.region ?_
      refine WL.val (v_move rfl rfl) (.none rfl) rfl rfl ?_
      refine WL.val (v_len_slice rfl rfl Tryd.underlying22) (.none rfl) rfl rfl ?_
      refine WL.val (v_assign rfl rfl) (.none rfl) rfl rfl ?_
      refine WL.nil ?_
      refine WE.then_n ?_
      refine WC.cut (fun n : Nat => [(13, .int .i64 n), (12, .int .i64 i), (11, .slice aa ys.length ac), (10, .pointer (some ⟨g10, 0, none⟩)), (9, .slice gad gs.length gc), (8, .pointer (some ⟨g38, 0, none⟩)), (7, .int .i64 restT.length), (6, .pointer (some ⟨g6, 0, none⟩)), (5, .slice tad rs.length trc), (1, .slice ca cs.length cc)]) (fun _ => .row g38 (RdL.cells ⟨wad, wc, W, (gs.length : Int), 0, 0, ⟨#[]⟩⟩) :: (Ew ++ (Eg ++ (K ++ (.row g10 (fltL 0 0 ⟨#[]⟩) :: (Ea ++ (.row g6 (fltL (fltOf ft).1 (fltOf ft).2.1 (fltOf ft).2.2) :: (Et ++ Kt)))))))) (fun n => n ≤ ys.length ∧ (n = ys.length ∨ i < cs.length)) ?_ ?_
      ·
       refine WC.seq ?_
       refine WC.region ?_
       refine WL.val (v_move rfl rfl) (.none rfl) rfl rfl ?_
       refine WL.val (v_move rfl rfl) (.none rfl) rfl rfl ?_
       refine WL.val (v_len_slice rfl rfl Tryd.underlying38) (.none rfl) rfl rfl ?_
       refine WL.test (v_lss rfl rfl rfl) (.none rfl) rfl rfl (fun h53 => ?_) (fun h53 => ?_)
       ·
        refine WL.nil ?_
        refine WE.then_n ?_
        refine WC.cond_t rfl ?_
        refine WC.region ?_
        refine WL.val (v_move rfl rfl) (.none rfl) rfl rfl ?_
        refine WL.val (v_len_slice rfl rfl Tryd.underlying22) (.none rfl) rfl rfl ?_
        refine WL.val (v_move rfl rfl) (.none rfl) rfl rfl ?_
        refine WL.val (v_move rfl rfl) (.none rfl) rfl rfl ?_
        obtain ⟨cb, co, eca, hcr⟩ := hCc (by rw [i64s_len]; omega)
        obtain ⟨x, hx⟩ : ∃ x, cs[i]? = some x := ⟨cs[i]'(by omega), List.getElem?_eq_getElem _⟩
        have hm := mod64 (x := x)
        refine WL.val ((v_indexAddr (b := cb) (off := co) (lo := i) rfl (by show some (Value.slice ca _ _) = _; rw [eca]) rfl Tryd.underlying38 sz_3 rfl (by omega))) (.none rfl) rfl rfl ?_
        refine WL.val (v_load1 rfl rfl one_3 (cellOld (fun h => h) (rgOne hcr (i64s_get hx)))) (.none rfl) rfl rfl ?_
        refine WL.val (v_and rfl rfl rfl (mask_i64' (i := 6) (m := 64) (by decide) (by decide) (by decide))) (.none rfl) rfl rfl ?_
        refine WL.val (v_min rfl rfl rfl) (.none rfl) rfl rfl ?_
        refine WL.val (v_assign rfl rfl) (.none rfl) rfl rfl ?_
        refine WL.nil ?_
        obtain ⟨n, hnv⟩ : ∃ n : Nat, (n : Int) = min (ys.length : Int) (x % 64) := ⟨(min (ys.length : Int) (x % 64)).toNat, by omega⟩
        exact WE.mid n ⟨by omega, .inr (by omega)⟩ (.int rfl hnv.symm (.cons rfl (.cons rfl (.cons rfl (.cons rfl (.cons rfl (.cons rfl (.cons rfl (.cons rfl (.cons rfl .nil)))))))))) (.refl _)
       ·
        refine WL.nil ?_
        refine WE.then_n ?_
        refine WC.cond_f rfl ?_
        refine WC.skip ?_
        exact WE.mid ys.length ⟨Nat.le_refl _, .inl rfl⟩ (.cons rfl (.cons rfl (.cons rfl (.cons rfl (.cons rfl (.cons rfl (.cons rfl (.cons rfl (.cons rfl (.cons rfl .nil)))))))))) (.refl _)
      ·
       rintro n ⟨hnl, hprog⟩
       have htl : (ys.take n).length = n := (by rw [List.length_take]; omega)
       have hdl : (ys.drop n).length = ys.length - n := List.length_drop ..
       have hBy : Bys ys := fun x hx => hBw x (List.mem_append_right _ hx)
       have hBt : Bys (ys.take n) := fun x hx => hBy x (List.mem_of_mem_take hx)
       have hVv := (hVy.view hBy).take n
       refine WC.seq ?_
       refine WC.region ?_
       refine WL.val (v_move rfl rfl) (.none rfl) rfl rfl ?_
       refine WL.val (v_move rfl rfl) (.none rfl) rfl rfl ?_
       refine WL.val ((v_slice_hi (hi := n) rfl rfl rfl Tryd.underlying22 sz_5 rfl (by omega))) (.none rfl) rfl rfl ?_
       refine WL.call rfl rfl ck_16 (.none rfl) rfl rfl ?_
       intro w1 hS
       have hc := Copy_c (fun _ => False) w0 w1 _ aa (ys.take n).length ac (fOf (ys.take n)) hS (fun w' hS' => CellsAt.rdo (hVv.cells fun e he => hS'.holds e (by simp [he]))) (by omega)
       rw [htl] at hc
       refine hc.mono ?_
       rintro e w' ⟨pa, pc, Ep, rfl, hpc, hVp, hS'⟩
       have hpb := bcs_fOf (ys.take n)
       rw [htl] at hpb
       rw [hpb] at hVp
       refine ⟨_, _, rfl, hS', ?_⟩
       refine WL.val (v_assign rfl rfl) (.none rfl) rfl rfl ?_
       refine WL.nil ?_
       refine WE.then_n ?_
       refine WC.seq ?_
       refine WC.region ?_
       refine WL.val (v_move rfl rfl) (.none rfl) rfl rfl ?_
       refine WL.val (v_move rfl rfl) (.none rfl) rfl rfl ?_
       refine WL.call rfl rfl ck_26 (.none rfl) rfl rfl ?_
       intro w1 hS
       have hc := Feed_c w0 w1 g38 ⟨wad, wc, W, (gs.length : Int), 0, 0, ⟨#[]⟩⟩ pa pc (ys.take n) Ew (Eg ++ (K ++ (.row g10 (fltL 0 0 ⟨#[]⟩) :: (Ep ++ (Ea ++ (.row g6 (fltL (fltOf ft).1 (fltOf ft).2.1 (fltOf ft).2.2) :: (Et ++ Kt))))))) hG hZ ⟨rfl, rfl, rfl⟩ hVw (fun x hx => (by
           rcases List.mem_append.1 hx with hx | hx
           · exact hBw x (List.mem_append_left _ hx)
           · exact hBt x hx)) (fun w hS => Vec.cellsAt (show BV pa pc (ys.take n) Ep by show Vec 1 pa (ys.take n).length pc _ Ep; rw [htl]; exact hVp) fun e he => hS.holds e (by simp [he])) (by rw [List.length_append]; dsimp only; omega) ⟨by dsimp only; omega, by dsimp only; omega⟩ (hS.permC (by intro c h1 h2 h3 e; simp only [h2, h3]; omega))
       rw [htl] at hc
       refine hc.mono ?_
       rintro e w' ⟨ad, mcc, ms, Em, K2, wad2, wc2, W2, Ew2, f, hf, rfl, hVm, hK2, hVw2, hBr, hS'⟩
       dsimp only at hf
       refine ⟨_, _, rfl, hS', ?_⟩
       refine WL.val (v_move rfl rfl) (.none rfl) rfl rfl ?_
       refine WL.val (v_extract rfl rfl rfl) (.none rfl) rfl rfl ?_
       refine WL.val (v_extract rfl rfl rfl) (.none rfl) rfl rfl ?_
       refine WL.alloc rfl zero_25 (.none rfl) rfl rfl ?_
       intro g16 hg16
       refine WL.val (v_assign rfl rfl) (.none rfl) rfl rfl ?_
       refine WL.storeW rfl rfl rfl rfl many_25 rfl rfl (.none rfl) rfl ?_
       refine WL.as (L' := .row g16 (fltL (fltOf f).1 (fltOf f).2.1 (fltOf f).2.2) :: .row g38 (RdL.cells ⟨wad2, wc2, W2, ((gs.length : Int) + ms.length : Int), (fltOf f).1, (fltOf f).2.1, (fltOf f).2.2⟩) :: (Ew2 ++ (Em ++ (K2 ++ (Eg ++ (K ++ (.row g10 (fltL 0 0 ⟨#[]⟩) :: (Ep ++ (Ea ++ (.row g6 (fltL (fltOf ft).1 (fltOf ft).2.1 (fltOf ft).2.2) :: (Et ++ Kt))))))))))) rfl ?_
       refine WL.to (L' := Ep ++ (.row g16 (fltL (fltOf f).1 (fltOf f).2.1 (fltOf f).2.2) :: .row g38 (RdL.cells ⟨wad2, wc2, W2, ((gs.length : Int) + ms.length : Int), (fltOf f).1, (fltOf f).2.1, (fltOf f).2.2⟩) :: (Ew2 ++ (Em ++ (K2 ++ (Eg ++ (K ++ (.row g10 (fltL 0 0 ⟨#[]⟩) :: (Ea ++ (.row g6 (fltL (fltOf ft).1 (fltOf ft).2.1 (fltOf ft).2.2) :: (Et ++ Kt))))))))))) (fun w hS => hS.permC (by intro c h1 h2 h3 e; simp only [h1, h2, h3]; omega)) ?_
       refine WL.nil ?_
       refine WE.then_n ?_
       refine WC.seq ?_
       refine WC.seq ?_
       refine WC.region ?_
       refine WL.val (v_move rfl rfl) (.none rfl) rfl rfl ?_
       refine WL.val (v_len_slice rfl rfl Tryd.underlying22) (.none rfl) rfl rfl ?_
       refine WL.val (v_move rfl rfl) (.none rfl) rfl rfl ?_
       refine WL.nil ?_
       refine WE.then_n ?_
       refine WC.block ?_
       refine WC.loop (fun z : Nat × List Value × List Ent => [(74, .int .i64 z.1), (73, .int .i64 n), (16, .pointer (some ⟨g16, 0, none⟩)), (15, .slice ad ms.length mcc), (14, .slice pa n pc), (13, .int .i64 n), (12, .int .i64 i), (11, .slice aa ys.length ac), (10, .pointer (some ⟨g10, 0, none⟩)), (9, .slice gad gs.length gc), (8, .pointer (some ⟨g38, 0, none⟩)), (7, .int .i64 restT.length), (6, .pointer (some ⟨g6, 0, none⟩)), (5, .slice tad rs.length trc), (1, .slice ca cs.length cc)]) (fun z => z.2.2 ++ (.row g16 (fltL (fltOf f).1 (fltOf f).2.1 (fltOf f).2.2) :: .row g38 (RdL.cells ⟨wad2, wc2, W2, ((gs.length : Int) + ms.length : Int), (fltOf f).1, (fltOf f).2.1, (fltOf f).2.2⟩) :: (Ew2 ++ (Em ++ (K2 ++ (Eg ++ (K ++ (.row g10 (fltL 0 0 ⟨#[]⟩) :: (Ea ++ (.row g6 (fltL (fltOf ft).1 (fltOf ft).2.1 (fltOf ft).2.2) :: (Et ++ Kt))))))))))) (fun z => z.1 ≤ n ∧ Vec 1 pa n pc z.2.1 z.2.2 ∧ ∀ i, i < n → ∃ x, z.2.1[i]? = some (.int .u8 x)) (fun z => n - z.1) (0, u8s (ys.take n), Ep) ⟨Nat.zero_le _, hVp, fun i hi => ⟨_, u8s_get (fOf_get (by rw [htl]; exact hi))⟩⟩ (.cons rfl (.cons rfl (.cons rfl (.cons rfl (.cons rfl (.cons rfl (.cons rfl (.cons rfl (.cons rfl (.cons rfl (.cons rfl (.cons rfl (.cons rfl (.cons rfl (.cons rfl .nil))))))))))))))) (.refl _) ?_
       rintro ⟨k, zs, F⟩ ⟨hk, hF, hz⟩
       dsimp only at hk hF hz
       dsimp only
       refine WC.seq ?_
       refine WC.region ?_
       refine WL.test (v_lss rfl rfl rfl) (.none rfl) rfl rfl (fun h75 => ?_) (fun h75 => ?_)
       ·
        refine WL.nil ?_
        refine WE.then_n ?_
        refine WC.seq ?_
        refine WC.cond_t rfl ?_
        refine WC.skip ?_
        refine WE.then_n ?_
        refine WC.seq ?_
        refine WC.block ?_
        refine WC.seq ?_
        refine WC.region ?_
        refine WL.val (v_move rfl rfl) (.none rfl) rfl rfl ?_
        refine WL.val (v_assign rfl rfl) (.none rfl) rfl rfl ?_
        refine WL.nil ?_
        refine WE.then_n ?_
        refine WC.region ?_
        obtain ⟨x, hx⟩ := hz k (by omega)
        obtain ⟨g, ps, eam, rfl, hcz, hcl⟩ : ∃ g ps, pa = some ⟨g, 0, none⟩ ∧ F = [.row g ps] ∧ ps.take n = zs ∧ ps.length = pc := (by
          rcases hF with ⟨_, h0, _⟩ | ⟨g, ps, e1, e2, e3, e4, _⟩
          · omega
          · exact ⟨g, ps, e1, e2, by rw [← e3, Nat.mul_one], by omega⟩)
        have hxc : ps[k]? = some (.int .u8 x) := (by rw [← hcz, List.getElem?_take, if_pos (by omega)] at hx; exact hx)
        rw [eam]
        refine WL.as (L' := .row g ps :: (.row g16 (fltL (fltOf f).1 (fltOf f).2.1 (fltOf f).2.2) :: .row g38 (RdL.cells ⟨wad2, wc2, W2, ((gs.length : Int) + ms.length : Int), (fltOf f).1, (fltOf f).2.1, (fltOf f).2.2⟩) :: (Ew2 ++ (Em ++ (K2 ++ (Eg ++ (K ++ (.row g10 (fltL 0 0 ⟨#[]⟩) :: (Ea ++ (.row g6 (fltL (fltOf ft).1 (fltOf ft).2.1 (fltOf ft).2.2) :: (Et ++ Kt))))))))))) rfl ?_
        refine WL.val (v_move rfl rfl) (.none rfl) rfl rfl ?_
        refine WL.val (v_move rfl rfl) (.none rfl) rfl rfl ?_
        refine WL.val (v_indexAddr (lo := k) rfl rfl rfl Tryd.underlying22 sz_5 (by omega) (by omega)) (.none rfl) rfl rfl ?_
        refine WL.val (v_load1 rfl rfl one_5 (cellAt (g := g) (k := 0 + k * 1) (v := .int .u8 x) (by rw [show 0 + k * 1 = k by omega]; exact hxc))) (.none rfl) rfl rfl ?_
        refine WL.val (v_xor rfl rfl rfl rfl) (.none rfl) rfl rfl ?_
        refine WL.val (v_indexAddr (lo := k) rfl rfl rfl Tryd.underlying22 sz_5 (by omega) (by omega)) (.none rfl) rfl rfl ?_
        refine WL.store1 rfl rfl rfl rfl one_5 (by omega) (.none rfl) rfl ?_
        refine WL.nil ?_
        refine WE.block_n ?_
        refine WE.then_n ?_
        refine WC.region ?_
        refine WL.val (v_add rfl rfl rfl (w_i64 (by omega) (by omega))) (.none rfl) rfl rfl ?_
        refine WL.val (v_move rfl rfl) (.none rfl) rfl rfl ?_
        refine WL.nil ?_
        rw [show 0 + k * 1 = k by omega]
        refine WE.next (k + 1, (ps.set k (.int .u8 (bits .xor .u8 x 255))).take n, [.row g (ps.set k (.int .u8 (bits .xor .u8 x 255)))]) (by dsimp only; omega) ⟨by dsimp only; omega, by exact Vec.row (by rw [Nat.mul_one]) (by rw [List.length_set]; omega) hpc, ?_⟩ (.int rfl (by dsimp only; omega) (.cons rfl (.cons rfl (.cons rfl (.cons rfl (.cons rfl (.cons rfl (.cons rfl (.cons rfl (.cons rfl (.cons rfl (.cons rfl (.cons rfl (.cons rfl (.cons rfl .nil))))))))))))))) (.refl _)
        dsimp only
        intro i' hi'
        rw [List.getElem?_take, if_pos hi']
        by_cases e : i' = k
        · subst e
          exact ⟨_, by rw [List.getElem?_set_self (by omega)]⟩
        · rw [List.getElem?_set_ne (by omega)]
          obtain ⟨y, hy⟩ := hz i' hi'
          rw [← hcz, List.getElem?_take, if_pos hi'] at hy
          exact ⟨y, hy⟩
       ·
        refine WL.nil ?_
        refine WE.then_n ?_
        refine WC.seq ?_
        refine WC.cond_f rfl ?_
        refine WC.exit ?_
        refine WE.then_exit ?_
        refine WE.then_exit ?_
        refine WE.block_hit ?_
        refine WE.then_n ?_
        refine WC.seq ?_
        refine WC.seq ?_
        refine WC.region ?_
        obtain ⟨ov2, hov0, hov1⟩ : ∃ ov : Bool, (ov = false → f = none) ∧ (ov = true → ∃ C S d, f = some (C, S, d) ∧ C ≠ 0 ∧ W2 = []) := (by
          rcases (feedM_f _ _ _ _ _ _ (Nat.le_refl _) hf).1 with h | h
          · exact ⟨false, fun _ => h, fun e => by cases e⟩
          · exact ⟨true, fun e => (by cases e), fun _ => h⟩)
        obtain ⟨hst1, hst2⟩ := feedM_step (G := gs.map MsL.d) (ys := ys.drop n) hf
        have hflen := (feedM_f _ _ _ _ _ _ (Nat.le_refl _) hf).2
        rw [List.length_append, htl, List.length_map, List.length_nil] at hflen
        have hfl2 := feedM_both _ _ _ _ _ _ (Nat.le_refl _) hf
        rw [List.length_append, htl, List.length_nil, List.length_map] at hfl2
        rw [List.take_append_drop, ← hfd, ← List.map_append] at hst1
        rw [← List.map_append] at hst2
        refine WL.val (v_fieldAddr0 rfl rfl fld_25_0) (.none rfl) rfl rfl ?_
        skip
        cases ov2
        ·
         obtain rfl := hov0 rfl
         refine WL.val (v_load1 rfl rfl one_3 (cellAt rfl)) (.none rfl) rfl rfl ?_
         refine WL.val ((v_neq rfl rfl rfl).f (by omega)) (.none rfl) rfl rfl ?_
         refine WL.val (v_move rfl rfl) (.none rfl) rfl rfl ?_
         refine WL.skip rfl rfl rfl rfl rfl rfl ?_
         refine WL.skip rfl rfl rfl rfl rfl rfl ?_
         refine WL.skip rfl rfl rfl rfl rfl rfl ?_
         refine WL.skip rfl rfl rfl rfl rfl rfl ?_
         refine WL.skip rfl rfl rfl rfl rfl rfl ?_
         refine WL.skip rfl rfl rfl rfl rfl rfl ?_
         refine WL.skip rfl rfl rfl rfl rfl rfl ?_
         refine WL.skip rfl rfl rfl rfl rfl rfl ?_
         refine WL.val (v_pick_f rfl rfl rfl) (.none rfl) rfl rfl ?_
         refine WL.nil ?_
         refine WE.then_n ?_
         refine WC.cond_f rfl ?_
         refine WC.skip ?_
         refine WE.then_n ?_
         refine WC.seq ?_
         refine WC.region ?_
         refine WL.to (L' := Eg ++ (.row g16 (fltL 0 0 ⟨#[]⟩) :: .row g38 (RdL.cells ⟨wad2, wc2, W2, ((gs.length : Int) + ms.length : Int), 0, 0, ⟨#[]⟩⟩) :: .row g10 (fltL 0 0 ⟨#[]⟩) :: (Ew2 ++ (Em ++ (K2 ++ (K ++ (Ea ++ (.row g6 (fltL (fltOf ft).1 (fltOf ft).2.1 (fltOf ft).2.2) :: (Et ++ Kt))))))))) (fun w hS => (hS.sub (List.sublist_append_right F _)).permC (by intro c h1 h2 h3 e; simp only [h1, h2, h3, fltOf, Option.getD]; omega)) ?_
         refine WL.val (v_move rfl rfl) (.none rfl) rfl rfl ?_
         refine WL.val (v_move rfl rfl) (.none rfl) rfl rfl ?_
         refine WL.appendL rfl rfl rfl Tryd.underlying75 Tryd.underlying75 sz_43 by_43 zero_43 rfl rfl hVg (new := msgsL ms) (fun h => (hVm.src2 (by rw [hVm.len.1]; omega)).elim fun b1 h1 => h1.elim fun o1 h2 => ⟨b1, o1, h2.1, fun w hS => h2.2 w fun e he => hS.holds e (by simp [he])⟩) hVm.len.1 (msgs_one _) (by omega) (.none rfl) rfl rfl ?_
         intro ad99 c99 E99 hV99 hr99
         rw [← msgsL_app] at hV99
         have eln : gs.length + ms.length = (gs ++ ms).length := (List.length_append ..).symm
         rw [eln] at hV99 ⊢
         refine WL.val (v_assign rfl rfl) (.none rfl) rfl rfl ?_
         refine WL.nil ?_
         refine WE.then_n ?_
         refine WC.seq ?_
         refine WC.seq ?_
         refine WC.region ?_
         refine WL.val (v_fieldAddr0 rfl rfl fld_25_0) (.none rfl) rfl rfl ?_
         refine WL.val (v_load1 rfl rfl one_3 (cellAt rfl)) (.none rfl) rfl rfl ?_
         refine WL.val ((v_neq rfl rfl rfl).f ((by decide))) (.none rfl) rfl rfl ?_
         refine WL.nil ?_
         refine WE.then_n ?_
         refine WC.cond_f rfl ?_
         refine WC.skip ?_
         refine WE.then_n ?_
         refine WC.region ?_
         refine WL.val (v_move rfl rfl) (.none rfl) rfl rfl ?_
         refine WL.val (v_move rfl rfl) (.none rfl) rfl rfl ?_
         refine WL.val ((v_slice_loA (lo := n) rfl rfl rfl Tryd.underlying22 sz_5 rfl (by omega) hVy.ad)) (.none rfl) rfl rfl ?_
         refine WL.val (v_assign rfl rfl) (.none rfl) rfl rfl ?_
         refine WL.nil ?_
         refine WE.block_n ?_
         refine WE.then_n ?_
         refine WC.region ?_
         refine WL.val (v_move rfl rfl) (.none rfl) rfl rfl ?_
         refine WL.val (v_add rfl rfl rfl (show _ = ((i + 1 : Nat) : Int) from (w_i64 (by omega) (by omega)).trans (by omega))) (.none rfl) rfl rfl ?_
         refine WL.val (v_assign rfl rfl) (.none rfl) rfl rfl ?_
         skip
         refine WL.nil ?_
         exact WE.to (L' := .row g38 (RdL.cells ⟨wad2, wc2, W2, (((gs ++ ms).length : Nat) : Int), 0, 0, ⟨#[]⟩⟩) :: (Ew2 ++ (E99 ++ ((K2 ++ K) ++ (.row g10 (fltL 0 0 ⟨#[]⟩) :: (Ea ++ (.row g6 (fltL (fltOf ft).1 (fltOf ft).2.1 (fltOf ft).2.2) :: (Et ++ Kt)))))))) (fun w hS => ((show St _ _ w (E99 ++ (.row g16 (fltL 0 0 ⟨#[]⟩) :: .row g38 (RdL.cells ⟨wad2, wc2, W2, (((gs ++ ms).length : Nat) : Int), 0, 0, ⟨#[]⟩⟩) :: .row g10 (fltL 0 0 ⟨#[]⟩) :: (Ew2 ++ (Em ++ (K2 ++ (K ++ (Ea ++ (.row g6 (fltL (fltOf ft).1 (fltOf ft).2.1 (fltOf ft).2.2) :: (Et ++ Kt))))))))) by rw [show (((gs ++ ms).length : Nat) : Int) = (gs.length : Int) + ms.length by omega]; exact hS).sub (L' := E99 ++ (.row g38 (RdL.cells ⟨wad2, wc2, W2, (((gs ++ ms).length : Nat) : Int), 0, 0, ⟨#[]⟩⟩) :: .row g10 (fltL 0 0 ⟨#[]⟩) :: (Ew2 ++ (K2 ++ (K ++ (Ea ++ (.row g6 (fltL (fltOf ft).1 (fltOf ft).2.1 (fltOf ft).2.2) :: (Et ++ Kt)))))))) (List.Sublist.append_left (.cons _ (.cons_cons _ (.cons_cons _ (List.Sublist.append_left (List.sublist_append_right _ _) _)))) _)).permC (by intro c h1 h2 h3 e; simp only [h1, h2, h3]; omega)) (WE.next ⟨i + 1, ys.drop n, loAd aa n ac, ac - n, W2, wad2, wc2, Ew2, gs ++ ms, ad99, c99, E99, K2 ++ K, false, 0, 0, ⟨#[]⟩⟩ (by dsimp only; omega) ⟨by dsimp only; rw [List.length_drop]; omega, hVy.dropA n hnl, hVw2, fun x hx => (by
         rcases List.mem_append.1 hx with hx | hx
         · exact hBr x hx
         · exact hBy x (List.mem_of_mem_drop hx)), hV99, fun m hm => (by
         rcases List.mem_append.1 hm with hm | hm
         · exact (hKg m hm).mono fun e he => List.mem_append_right _ he
         · exact (hK2 m hm).mono fun e he => List.mem_append_left _ he), by dsimp only; rw [List.length_append, List.length_drop]; omega, fun _ => ⟨rfl, rfl, rfl, hst1, hst2 rfl⟩, fun e => (by cases e)⟩ (.cons rfl (.eq rfl (by dsimp only; rw [List.length_drop]) (.cons rfl (.cons rfl (.cons rfl (.cons rfl (.cons rfl (.cons rfl (.cons rfl .nil))))))))) (.refl _))
        ·
         obtain ⟨C, S, d, rfl, hC1, hW2⟩ := hov1 rfl
         refine WL.val (v_load1 rfl rfl one_3 (cellAt rfl)) (.none rfl) rfl rfl ?_
         refine WL.val ((v_neq rfl rfl rfl).f (by omega)) (.none rfl) rfl rfl ?_
         refine WL.val (v_move rfl rfl) (.none rfl) rfl rfl ?_
         refine WL.skip rfl rfl rfl rfl rfl rfl ?_
         refine WL.skip rfl rfl rfl rfl rfl rfl ?_
         refine WL.skip rfl rfl rfl rfl rfl rfl ?_
         refine WL.skip rfl rfl rfl rfl rfl rfl ?_
         refine WL.skip rfl rfl rfl rfl rfl rfl ?_
         refine WL.skip rfl rfl rfl rfl rfl rfl ?_
         refine WL.skip rfl rfl rfl rfl rfl rfl ?_
         refine WL.skip rfl rfl rfl rfl rfl rfl ?_
         refine WL.val (v_pick_f rfl rfl rfl) (.none rfl) rfl rfl ?_
         refine WL.nil ?_
         refine WE.then_n ?_
         refine WC.cond_f rfl ?_
         refine WC.skip ?_
         refine WE.then_n ?_
         refine WC.seq ?_
         refine WC.region ?_
         refine WL.to (L' := Eg ++ (.row g16 (fltL C S d) :: .row g38 (RdL.cells ⟨wad2, wc2, W2, ((gs.length : Int) + ms.length : Int), C, S, d⟩) :: .row g10 (fltL 0 0 ⟨#[]⟩) :: (Ew2 ++ (Em ++ (K2 ++ (K ++ (Ea ++ (.row g6 (fltL (fltOf ft).1 (fltOf ft).2.1 (fltOf ft).2.2) :: (Et ++ Kt))))))))) (fun w hS => (hS.sub (List.sublist_append_right F _)).permC (by intro c h1 h2 h3 e; simp only [h1, h2, h3, fltOf, Option.getD]; omega)) ?_
         refine WL.val (v_move rfl rfl) (.none rfl) rfl rfl ?_
         refine WL.val (v_move rfl rfl) (.none rfl) rfl rfl ?_
         refine WL.appendL rfl rfl rfl Tryd.underlying75 Tryd.underlying75 sz_43 by_43 zero_43 rfl rfl hVg (new := msgsL ms) (fun h => (hVm.src2 (by rw [hVm.len.1]; omega)).elim fun b1 h1 => h1.elim fun o1 h2 => ⟨b1, o1, h2.1, fun w hS => h2.2 w fun e he => hS.holds e (by simp [he])⟩) hVm.len.1 (msgs_one _) (by omega) (.none rfl) rfl rfl ?_
         intro ad99 c99 E99 hV99 hr99
         rw [← msgsL_app] at hV99
         have eln : gs.length + ms.length = (gs ++ ms).length := (List.length_append ..).symm
         rw [eln] at hV99 ⊢
         refine WL.val (v_assign rfl rfl) (.none rfl) rfl rfl ?_
         refine WL.nil ?_
         refine WE.then_n ?_
         refine WC.seq ?_
         refine WC.seq ?_
         refine WC.region ?_
         refine WL.val (v_fieldAddr0 rfl rfl fld_25_0) (.none rfl) rfl rfl ?_
         refine WL.val (v_load1 rfl rfl one_3 (cellAt rfl)) (.none rfl) rfl rfl ?_
         refine WL.val ((v_neq rfl rfl rfl).t (hC1)) (.none rfl) rfl rfl ?_
         refine WL.nil ?_
         refine WE.then_n ?_
         refine WC.cond_t rfl ?_
         refine WC.region ?_
         refine WL.val (v_loadN rfl rfl many_25 rfl allAt) (.none rfl) rfl rfl ?_
         refine WL.storeW rfl rfl rfl rfl many_25 rfl rfl (.none rfl) rfl ?_
         refine WL.nil ?_
         refine WE.then_n ?_
         refine WC.region ?_
         refine WL.val (v_move rfl rfl) (.none rfl) rfl rfl ?_
         refine WL.val (v_move rfl rfl) (.none rfl) rfl rfl ?_
         refine WL.val ((v_slice_loA (lo := n) rfl rfl rfl Tryd.underlying22 sz_5 rfl (by omega) hVy.ad)) (.none rfl) rfl rfl ?_
         refine WL.val (v_assign rfl rfl) (.none rfl) rfl rfl ?_
         refine WL.nil ?_
         refine WE.block_n ?_
         refine WE.then_n ?_
         refine WC.region ?_
         refine WL.val (v_move rfl rfl) (.none rfl) rfl rfl ?_
         refine WL.val (v_add rfl rfl rfl (show _ = ((i + 1 : Nat) : Int) from (w_i64 (by omega) (by omega)).trans (by omega))) (.none rfl) rfl rfl ?_
         refine WL.val (v_assign rfl rfl) (.none rfl) rfl rfl ?_
         skip
         refine WL.nil ?_
         exact WE.to (L' := .row g38 (RdL.cells ⟨wad2, wc2, W2, (((gs ++ ms).length : Nat) : Int), C, S, d⟩) :: (Ew2 ++ (E99 ++ ((K2 ++ K) ++ (.row g10 (fltL C S d) :: (Ea ++ (.row g6 (fltL (fltOf ft).1 (fltOf ft).2.1 (fltOf ft).2.2) :: (Et ++ Kt)))))))) (fun w hS => ((show St _ _ w (E99 ++ (.row g16 (fltL C S d) :: .row g38 (RdL.cells ⟨wad2, wc2, W2, (((gs ++ ms).length : Nat) : Int), C, S, d⟩) :: .row g10 (fltL C S d) :: (Ew2 ++ (Em ++ (K2 ++ (K ++ (Ea ++ (.row g6 (fltL (fltOf ft).1 (fltOf ft).2.1 (fltOf ft).2.2) :: (Et ++ Kt))))))))) by rw [show (((gs ++ ms).length : Nat) : Int) = (gs.length : Int) + ms.length by omega]; exact hS).sub (L' := E99 ++ (.row g38 (RdL.cells ⟨wad2, wc2, W2, (((gs ++ ms).length : Nat) : Int), C, S, d⟩) :: .row g10 (fltL C S d) :: (Ew2 ++ (K2 ++ (K ++ (Ea ++ (.row g6 (fltL (fltOf ft).1 (fltOf ft).2.1 (fltOf ft).2.2) :: (Et ++ Kt)))))))) (List.Sublist.append_left (.cons _ (.cons_cons _ (.cons_cons _ (List.Sublist.append_left (List.sublist_append_right _ _) _)))) _)).permC (by intro c h1 h2 h3 e; simp only [h1, h2, h3]; omega)) (WE.next ⟨i + 1, ys.drop n, loAd aa n ac, ac - n, W2, wad2, wc2, Ew2, gs ++ ms, ad99, c99, E99, K2 ++ K, true, C, S, d⟩ (by dsimp only; omega) ⟨by dsimp only; rw [List.length_drop]; omega, hVy.dropA n hnl, hVw2, fun x hx => (by
         rcases List.mem_append.1 hx with hx | hx
         · exact hBr x hx
         · exact hBy x (List.mem_of_mem_drop hx)), hV99, fun m hm => (by
         rcases List.mem_append.1 hm with hm | hm
         · exact (hKg m hm).mono fun e he => List.mem_append_right _ he
         · exact (hK2 m hm).mono fun e he => List.mem_append_left _ he), by dsimp only; rw [List.length_append, List.length_drop]; omega, fun e => (by cases e), fun _ => ⟨hC1, hW2, hst1⟩⟩ (.cons rfl (.eq rfl (by dsimp only; rw [List.length_drop]) (.cons rfl (.cons rfl (.cons rfl (.cons rfl (.cons rfl (.cons rfl (.cons rfl .nil))))))))) (.refl _))
     ·
      refine WL.nil ?_
      refine WE.then_n ?_
      refine WC.cond_f rfl ?_
      refine WC.exit ?_
      refine WE.then_exit ?_
      refine WE.then_exit ?_
      refine WE.block_hit ?_
      refine WE.then_n ?_
      refine WC.seq ?_
      refine WC.seq ?_
      refine WC.region ?_
      have hys : ys = [] := List.length_eq_zero_iff.1 (by omega)
      rw [hys, List.append_nil, hid, htold] at hfd
      have hgr : rs.map MsL.d = gs.map MsL.d := congrArg Prod.fst hfd
      have hgl := map_len_eq hgr
      have hff : ft = none := congrArg (fun t => t.2.1) hfd
      have hww : restT = W := congrArg (fun t => t.2.2) hfd
      rw [hff, hww]
      refine WL.val (v_move rfl rfl) (.none rfl) rfl rfl ?_
      refine WL.val (v_len_slice rfl rfl Tryd.underlying75) (.none rfl) rfl rfl ?_
      refine WL.val (v_move rfl rfl) (.none rfl) rfl rfl ?_
      refine WL.val (v_len_slice rfl rfl Tryd.underlying69) (.none rfl) rfl rfl ?_
      refine WL.val ((v_neq rfl rfl rfl).f ((by omega))) (.none rfl) rfl rfl ?_
      refine WL.val (v_move rfl rfl) (.none rfl) rfl rfl ?_
      refine WL.val (v_loadN rfl rfl many_25 rfl allAt) (.some rfl rfl rfl) rfl rfl ?_
      refine WL.val (v_loadN rfl rfl many_28 rfl allAt) (.some rfl rfl rfl) rfl rfl ?_
      refine WL.val (v_neq_aggF rfl rfl rfl eqk_28 eqg_28 rfl rfl (by rfl)) (.some rfl rfl rfl) rfl rfl ?_
      refine WL.val (v_pick_f rfl rfl rfl) (.none rfl) rfl rfl ?_
      refine WL.val (v_move rfl rfl) (.none rfl) rfl rfl ?_
      refine WL.val (v_move rfl rfl) (.some rfl rfl rfl) rfl rfl ?_
      refine WL.call rfl rfl ck_27 (.some rfl rfl rfl) rfl rfl ?_
      intro w hS
      refine Calls.then (Count_c w g38 ⟨wad, wc, W, (gs.length : Int), 0, 0, ⟨#[]⟩⟩ (hS.at0 (by simp))) hS ?_
      refine WL.val (v_move rfl rfl) (.some rfl rfl rfl) rfl rfl ?_
      refine WL.val (v_len_slice rfl rfl Tryd.underlying69) (.some rfl rfl rfl) rfl rfl ?_
      refine WL.val ((v_neq rfl rfl rfl).f ((by dsimp only; omega))) (.some rfl rfl rfl) rfl rfl ?_
      refine WL.val (v_pick_f rfl rfl rfl) (.none rfl) rfl rfl ?_
      refine WL.val (v_move rfl rfl) (.none rfl) rfl rfl ?_
      refine WL.val (v_move rfl rfl) (.some rfl rfl rfl) rfl rfl ?_
      refine WL.call rfl rfl ck_28 (.some rfl rfl rfl) rfl rfl ?_
      intro w hS
      refine Calls.then (Waits_c w g38 ⟨wad, wc, W, (gs.length : Int), 0, 0, ⟨#[]⟩⟩ (hS.at0 (by simp))) hS ?_
      refine WL.val (v_move rfl rfl) (.some rfl rfl rfl) rfl rfl ?_
      refine WL.val ((v_neq rfl rfl rfl).f ((by dsimp only; omega))) (.some rfl rfl rfl) rfl rfl ?_
      refine WL.val (v_pick_f rfl rfl rfl) (.none rfl) rfl rfl ?_
      refine WL.nil ?_
      refine WE.then_n ?_
      refine WC.cond_f rfl ?_
      refine WC.skip ?_
      refine WE.then_n ?_
      refine WC.seq ?_
      refine WC.seq ?_
      refine WC.region ?_
      refine WL.val (v_move rfl rfl) (.none rfl) rfl rfl ?_
      refine WL.val (v_len_slice rfl rfl Tryd.underlying75) (.none rfl) rfl rfl ?_
      refine WL.val (v_move rfl rfl) (.none rfl) rfl rfl ?_
      refine WL.nil ?_
      refine WE.then_n ?_
      refine WC.block ?_
      refine WC.loop (fun j : Nat => [(132, .int .i64 j), (131, .int .i64 gs.length), (10, .pointer (some ⟨g10, 0, none⟩)), (9, .slice gad gs.length gc), (8, .pointer (some ⟨g38, 0, none⟩)), (6, .pointer (some ⟨g6, 0, none⟩)), (5, .slice tad rs.length trc)]) (fun _ => .row g38 (RdL.cells ⟨wad, wc, W, (gs.length : Int), 0, 0, ⟨#[]⟩⟩) :: (Ew ++ (Eg ++ (K ++ (.row g10 (fltL 0 0 ⟨#[]⟩) :: (Ea ++ (.row g6 (fltL (fltOf (none)).1 (fltOf (none)).2.1 (fltOf (none)).2.2) :: (Et ++ Kt)))))))) (fun j => j ≤ gs.length) (fun j => gs.length - j) 0 (Nat.zero_le _) (.cons rfl (.cons rfl (.cons rfl (.cons rfl (.cons rfl (.cons rfl (.cons rfl .nil))))))) (.refl _) ?_
      intro j hj
      refine WC.seq ?_
      refine WC.region ?_
      refine WL.test (v_lss rfl rfl rfl) (.none rfl) rfl rfl (fun h133 => ?_) (fun h133 => ?_)
      ·
       refine WL.nil ?_
       refine WE.then_n ?_
       refine WC.seq ?_
       refine WC.cond_t rfl ?_
       refine WC.skip ?_
       refine WE.then_n ?_
       refine WC.seq ?_
       refine WC.block ?_
       refine WC.seq ?_
       refine WC.region ?_
       refine WL.val (v_move rfl rfl) (.none rfl) rfl rfl ?_
       refine WL.val (v_assign rfl rfl) (.none rfl) rfl rfl ?_
       refine WL.nil ?_
       refine WE.then_n ?_
       refine WC.seq ?_
       refine WC.quiet mixed (by kernel_rfl) ?_
       refine WQ.val (v_move rfl rfl) (.none rfl) rfl rfl ?_
       refine WQ.val (v_move rfl rfl) (.none rfl) rfl rfl ?_
       obtain ⟨m, hm⟩ : ∃ m, gs[j]? = some m := ⟨gs[j]'(by omega), List.getElem?_eq_getElem _⟩
       obtain ⟨r, hr, emr⟩ := map_get_eq hgr.symm hm
       obtain ⟨b1, o1, e1, _⟩ := hVg.src2 (by rw [hVg.len.1]; omega)
       obtain ⟨b2, o2, e2, _⟩ := hVt.src2 (by rw [hVt.len.1]; omega)
       have hr1 : ∀ w, (∀ e ∈ Eg, e.holds w) → w.rangeAt b1 (o1 + j * 20) m.cells := (fun w hw => by
         have := cells_of (enc := MsL.cells) hVg (fun _ => rfl) (by omega) hw
         rw [e1] at this
         exact this.get hm)
       have hr2 : ∀ w, (∀ e ∈ Et, e.holds w) → w.rangeAt b2 (o2 + j * 20) r.rcells := (fun w hw => by
         have := cells_of (enc := MsL.rcells) hVt (fun _ => rfl) (by omega) hw
         rw [e2] at this
         exact this.get hr)
       refine WQ.val ((v_indexAddr (b := b1) (off := o1) (lo := j) rfl (by show some (Value.slice gad _ _) = _; rw [e1]) rfl Tryd.underlying75 sz_43 rfl (by omega))) (.none rfl) rfl rfl ?_
       refine WQ.val ((v_loadN (cs := m.cells) rfl rfl many_43 rfl (fun w hS => hr1 w fun e he => hS.holds e (by simp [he])))) (.none rfl) rfl rfl ?_
       refine WQ.val (v_move rfl rfl) (.none rfl) rfl rfl ?_
       refine WQ.val (v_move rfl rfl) (.none rfl) rfl rfl ?_
       refine WQ.val ((v_indexAddr (b := b2) (off := o2) (lo := j) rfl (by show some (Value.slice tad _ _) = _; rw [e2]) rfl Tryd.underlying69 sz_53 rfl (by omega))) (.none rfl) rfl rfl ?_
       refine WQ.val ((v_loadN (cs := r.rcells) rfl rfl many_53 rfl (fun w hS => hr2 w fun e he => hS.holds e (by simp [he])))) (.none rfl) rfl rfl ?_
       refine WQ.call _ rfl rfl ck_29 (.none rfl) rfl rfl (fun w hS => Calls.still (Same08_c w m r emr) hS) ?_
       refine WQ.val (v_not rfl rfl rfl) (.none rfl) rfl rfl ?_
       refine WQ.nil ?_
       refine WE.then_n ?_
       refine WC.cond_f rfl ?_
       refine WC.skip ?_
       refine WE.block_n ?_
       refine WE.then_n ?_
       refine WC.region ?_
       refine WL.val (v_add rfl rfl rfl (show _ = ((j + 1 : Nat) : Int) from (w_i64 (by omega) (by omega)).trans (by omega))) (.none rfl) rfl rfl ?_
       refine WL.val (v_move rfl rfl) (.none rfl) rfl rfl ?_
       refine WL.nil ?_
       exact WE.next (j + 1) (by omega) (by omega) (.cons rfl (.cons rfl (.cons rfl (.cons rfl (.cons rfl (.cons rfl (.cons rfl .nil))))))) (.refl _)
      ·
       refine WL.nil ?_
       refine WE.then_n ?_
       refine WC.seq ?_
       refine WC.cond_f rfl ?_
       refine WC.exit ?_
       refine WE.then_exit ?_
       refine WE.then_exit ?_
       refine WE.block_hit ?_
       refine WE.then_n ?_
       refine WC.seq ?_
       refine WC.region ?_
       refine WL.val (v_move rfl rfl) (.none rfl) rfl rfl ?_
       refine WL.call rfl rfl ck_30 (.none rfl) rfl rfl ?_
       intro w hS
       refine Calls.then (OverF_c w g38 ⟨wad, wc, W, (gs.length : Int), 0, 0, ⟨#[]⟩⟩ (hS.at0 (by simp)) ⟨rfl, rfl, rfl⟩) hS ?_
       refine WL.val (v_move rfl rfl) (.none rfl) rfl rfl ?_
       refine WL.val (v_extract rfl rfl rfl) (.none rfl) rfl rfl ?_
       refine WL.val (v_extract rfl rfl rfl) (.none rfl) rfl rfl ?_
       refine WL.alloc rfl zero_25 (.none rfl) rfl rfl ?_
       intro g19 hg19
       refine WL.storeW rfl rfl rfl rfl many_25 rfl rfl (.none rfl) rfl ?_
       refine WL.val (v_assign rfl rfl) (.none rfl) rfl rfl ?_
       refine WL.nil ?_
       refine WE.then_n ?_
       refine WC.seq ?_
       refine WC.region ?_
       refine WL.val (v_move rfl rfl) (.none rfl) rfl rfl ?_
       refine WL.val (v_fieldAddr0 rfl rfl fld_28_0) (.none rfl) rfl rfl ?_
       refine WL.val (v_load1 rfl rfl one_3 (cellAt rfl)) (.none rfl) rfl rfl ?_
       refine WL.val ((v_neq rfl rfl rfl).f ((by decide))) (.none rfl) rfl rfl ?_
       refine WL.val ((v_eql_bool rfl rfl rfl Tryd.underlying4).t (rfl)) (.none rfl) rfl rfl ?_
       refine WL.val (v_move rfl rfl) (.none rfl) rfl rfl ?_
       refine WL.val (v_loadN rfl rfl many_25 rfl allAt) (.some rfl rfl rfl) rfl rfl ?_
       refine WL.val (v_loadN rfl rfl many_25 rfl allAt) (.some rfl rfl rfl) rfl rfl ?_
       refine WL.val (v_eql_aggT rfl rfl rfl eqk_25 eqg_25 rfl rfl (by rfl)) (.some rfl rfl rfl) rfl rfl ?_
       refine WL.val (v_pick_t rfl rfl rfl) (.none rfl) rfl rfl ?_
       refine WL.val (v_assign rfl rfl) (.none rfl) rfl rfl ?_
       refine WL.nil ?_
       refine WE.then_n ?_
       refine WC.ret ?_
       refine WE.ret1 (P := Tryd.prog) (.inl rfl) Tryd.results8 rfl ?_
       exact fun w' h => ⟨rfl, h.frm⟩
    ·
     obtain ⟨hC0, hW0, hfd⟩ := hyes rfl
     refine WL.val (v_len_slice rfl rfl Tryd.underlying22) (.none rfl) rfl rfl ?_
     refine WL.test (v_gtr rfl rfl rfl) (.none rfl) rfl rfl (fun h45 => ?_) (fun h45 => ?_)
     ·
      refine WL.nil ?_
      refine WE.then_n ?_
      refine WC.cond_t rfl ?_
      refine WC.skip ?_
      refine WE.then_n ?_
      refine WC.seq ?_
      refine WC.block ?_
      refine WC.seq ?_
      refine WC.region ?_
      refine WL.val (v_move rfl rfl) (.none rfl) rfl rfl ?_
      refine WL.val (v_len_slice rfl rfl Tryd.underlying22) (.none rfl) rfl rfl ?_
      refine WL.val (v_assign rfl rfl) (.none rfl) rfl rfl ?_
      refine WL.nil ?_
      refine WE.then_n ?_
      refine WC.cut (fun n : Nat => [(13, .int .i64 n), (12, .int .i64 i), (11, .slice aa ys.length ac), (10, .pointer (some ⟨g10, 0, none⟩)), (9, .slice gad gs.length gc), (8, .pointer (some ⟨g38, 0, none⟩)), (7, .int .i64 restT.length), (6, .pointer (some ⟨g6, 0, none⟩)), (5, .slice tad rs.length trc), (1, .slice ca cs.length cc)]) (fun _ => .row g38 (RdL.cells ⟨wad, wc, W, (gs.length : Int), C, S, d⟩) :: (Ew ++ (Eg ++ (K ++ (.row g10 (fltL C S d) :: (Ea ++ (.row g6 (fltL (fltOf ft).1 (fltOf ft).2.1 (fltOf ft).2.2) :: (Et ++ Kt)))))))) (fun n => n ≤ ys.length ∧ (n = ys.length ∨ i < cs.length)) ?_ ?_
      ·
       refine WC.seq ?_
       refine WC.region ?_
       refine WL.val (v_move rfl rfl) (.none rfl) rfl rfl ?_
       refine WL.val (v_move rfl rfl) (.none rfl) rfl rfl ?_
       refine WL.val (v_len_slice rfl rfl Tryd.underlying38) (.none rfl) rfl rfl ?_
       refine WL.test (v_lss rfl rfl rfl) (.none rfl) rfl rfl (fun h53 => ?_) (fun h53 => ?_)
       ·
        refine WL.nil ?_
        refine WE.then_n ?_
        refine WC.cond_t rfl ?_
        refine WC.region ?_
        refine WL.val (v_move rfl rfl) (.none rfl) rfl rfl ?_
        refine WL.val (v_len_slice rfl rfl Tryd.underlying22) (.none rfl) rfl rfl ?_
        refine WL.val (v_move rfl rfl) (.none rfl) rfl rfl ?_
        refine WL.val (v_move rfl rfl) (.none rfl) rfl rfl ?_
        obtain ⟨cb, co, eca, hcr⟩ := hCc (by rw [i64s_len]; omega)
        obtain ⟨x, hx⟩ : ∃ x, cs[i]? = some x := ⟨cs[i]'(by omega), List.getElem?_eq_getElem _⟩
        have hm := mod64 (x := x)
        refine WL.val ((v_indexAddr (b := cb) (off := co) (lo := i) rfl (by show some (Value.slice ca _ _) = _; rw [eca]) rfl Tryd.underlying38 sz_3 rfl (by omega))) (.none rfl) rfl rfl ?_
        refine WL.val (v_load1 rfl rfl one_3 (cellOld (fun h => h) (rgOne hcr (i64s_get hx)))) (.none rfl) rfl rfl ?_
        refine WL.val (v_and rfl rfl rfl (mask_i64' (i := 6) (m := 64) (by decide) (by decide) (by decide))) (.none rfl) rfl rfl ?_
        refine WL.val (v_min rfl rfl rfl) (.none rfl) rfl rfl ?_
        refine WL.val (v_assign rfl rfl) (.none rfl) rfl rfl ?_
        refine WL.nil ?_
        obtain ⟨n, hnv⟩ : ∃ n : Nat, (n : Int) = min (ys.length : Int) (x % 64) := ⟨(min (ys.length : Int) (x % 64)).toNat, by omega⟩
        exact WE.mid n ⟨by omega, .inr (by omega)⟩ (.int rfl hnv.symm (.cons rfl (.cons rfl (.cons rfl (.cons rfl (.cons rfl (.cons rfl (.cons rfl (.cons rfl (.cons rfl .nil)))))))))) (.refl _)
       ·
        refine WL.nil ?_
        refine WE.then_n ?_
        refine WC.cond_f rfl ?_
        refine WC.skip ?_
        exact WE.mid ys.length ⟨Nat.le_refl _, .inl rfl⟩ (.cons rfl (.cons rfl (.cons rfl (.cons rfl (.cons rfl (.cons rfl (.cons rfl (.cons rfl (.cons rfl (.cons rfl .nil)))))))))) (.refl _)
      ·
       rintro n ⟨hnl, hprog⟩
       have htl : (ys.take n).length = n := (by rw [List.length_take]; omega)
       have hdl : (ys.drop n).length = ys.length - n := List.length_drop ..
       have hBy : Bys ys := fun x hx => hBw x (List.mem_append_right _ hx)
       have hBt : Bys (ys.take n) := fun x hx => hBy x (List.mem_of_mem_take hx)
       have hVv := (hVy.view hBy).take n
       refine WC.seq ?_
       refine WC.region ?_
       refine WL.val (v_move rfl rfl) (.none rfl) rfl rfl ?_
       refine WL.val (v_move rfl rfl) (.none rfl) rfl rfl ?_
       refine WL.val ((v_slice_hi (hi := n) rfl rfl rfl Tryd.underlying22 sz_5 rfl (by omega))) (.none rfl) rfl rfl ?_
       refine WL.call rfl rfl ck_16 (.none rfl) rfl rfl ?_
       intro w1 hS
       have hc := Copy_c (fun _ => False) w0 w1 _ aa (ys.take n).length ac (fOf (ys.take n)) hS (fun w' hS' => CellsAt.rdo (hVv.cells fun e he => hS'.holds e (by simp [he]))) (by omega)
       rw [htl] at hc
       refine hc.mono ?_
       rintro e w' ⟨pa, pc, Ep, rfl, hpc, hVp, hS'⟩
       have hpb := bcs_fOf (ys.take n)
       rw [htl] at hpb
       rw [hpb] at hVp
       refine ⟨_, _, rfl, hS', ?_⟩
       refine WL.val (v_assign rfl rfl) (.none rfl) rfl rfl ?_
       refine WL.nil ?_
       refine WE.then_n ?_
       refine WC.seq ?_
       refine WC.region ?_
       refine WL.val (v_move rfl rfl) (.none rfl) rfl rfl ?_
       refine WL.val (v_move rfl rfl) (.none rfl) rfl rfl ?_
       refine WL.call rfl rfl ck_26 (.none rfl) rfl rfl ?_
       intro w hS
       refine Calls.then (FeedOver_c w g38 ⟨wad, wc, W, (gs.length : Int), C, S, d⟩ _ (hS.at0 (by simp)) hC0) hS ?_
       refine WL.val (v_move rfl rfl) (.none rfl) rfl rfl ?_
       refine WL.val (v_extract rfl rfl rfl) (.none rfl) rfl rfl ?_
       refine WL.val (v_extract rfl rfl rfl) (.none rfl) rfl rfl ?_
       refine WL.alloc rfl zero_25 (.none rfl) rfl rfl ?_
       intro g16 hg16
       refine WL.val (v_assign rfl rfl) (.none rfl) rfl rfl ?_
       refine WL.storeW rfl rfl rfl rfl many_25 rfl rfl (.none rfl) rfl ?_
       refine WL.as (L' := .row g16 (fltL 0 0 ⟨#[]⟩) :: (Ep ++ (.row g38 (RdL.cells ⟨wad, wc, W, (gs.length : Int), C, S, d⟩) :: (Ew ++ (Eg ++ (K ++ (.row g10 (fltL C S d) :: (Ea ++ (.row g6 (fltL (fltOf ft).1 (fltOf ft).2.1 (fltOf ft).2.2) :: (Et ++ Kt)))))))))) rfl ?_
       refine WL.to (L' := Ep ++ (.row g16 (fltL 0 0 ⟨#[]⟩) :: .row g38 (RdL.cells ⟨wad, wc, W, (gs.length : Int), C, S, d⟩) :: (Ew ++ (Eg ++ (K ++ (.row g10 (fltL C S d) :: (Ea ++ (.row g6 (fltL (fltOf ft).1 (fltOf ft).2.1 (fltOf ft).2.2) :: (Et ++ Kt))))))))) (fun w hS => hS.permC (by intro c h1 h2 h3 e; simp only [h1, h2, h3]; omega)) ?_
       refine WL.nil ?_
       refine WE.then_n ?_
       refine WC.seq ?_
       refine WC.seq ?_
       refine WC.region ?_
       refine WL.val (v_move rfl rfl) (.none rfl) rfl rfl ?_
       refine WL.val (v_len_slice rfl rfl Tryd.underlying22) (.none rfl) rfl rfl ?_
       refine WL.val (v_move rfl rfl) (.none rfl) rfl rfl ?_
       refine WL.nil ?_
       refine WE.then_n ?_
       refine WC.block ?_
       refine WC.loop (fun z : Nat × List Value × List Ent => [(74, .int .i64 z.1), (73, .int .i64 n), (16, .pointer (some ⟨g16, 0, none⟩)), (15, .slice none 0 0), (14, .slice pa n pc), (13, .int .i64 n), (12, .int .i64 i), (11, .slice aa ys.length ac), (10, .pointer (some ⟨g10, 0, none⟩)), (9, .slice gad gs.length gc), (8, .pointer (some ⟨g38, 0, none⟩)), (7, .int .i64 restT.length), (6, .pointer (some ⟨g6, 0, none⟩)), (5, .slice tad rs.length trc), (1, .slice ca cs.length cc)]) (fun z => z.2.2 ++ (.row g16 (fltL 0 0 ⟨#[]⟩) :: .row g38 (RdL.cells ⟨wad, wc, W, (gs.length : Int), C, S, d⟩) :: (Ew ++ (Eg ++ (K ++ (.row g10 (fltL C S d) :: (Ea ++ (.row g6 (fltL (fltOf ft).1 (fltOf ft).2.1 (fltOf ft).2.2) :: (Et ++ Kt))))))))) (fun z => z.1 ≤ n ∧ Vec 1 pa n pc z.2.1 z.2.2 ∧ ∀ i, i < n → ∃ x, z.2.1[i]? = some (.int .u8 x)) (fun z => n - z.1) (0, u8s (ys.take n), Ep) ⟨Nat.zero_le _, hVp, fun i hi => ⟨_, u8s_get (fOf_get (by rw [htl]; exact hi))⟩⟩ (.cons rfl (.cons rfl (.cons rfl (.cons rfl (.cons rfl (.cons rfl (.cons rfl (.cons rfl (.cons rfl (.cons rfl (.cons rfl (.cons rfl (.cons rfl (.cons rfl (.cons rfl .nil))))))))))))))) (.refl _) ?_
       rintro ⟨k, zs, F⟩ ⟨hk, hF, hz⟩
       dsimp only at hk hF hz
       dsimp only
       refine WC.seq ?_
       refine WC.region ?_
       refine WL.test (v_lss rfl rfl rfl) (.none rfl) rfl rfl (fun h75 => ?_) (fun h75 => ?_)
       ·
        refine WL.nil ?_
        refine WE.then_n ?_
        refine WC.seq ?_
        refine WC.cond_t rfl ?_
        refine WC.skip ?_
        refine WE.then_n ?_
        refine WC.seq ?_
        refine WC.block ?_
        refine WC.seq ?_
        refine WC.region ?_
        refine WL.val (v_move rfl rfl) (.none rfl) rfl rfl ?_
        refine WL.val (v_assign rfl rfl) (.none rfl) rfl rfl ?_
        refine WL.nil ?_
        refine WE.then_n ?_
        refine WC.region ?_
        obtain ⟨x, hx⟩ := hz k (by omega)
        obtain ⟨g, ps, eam, rfl, hcz, hcl⟩ : ∃ g ps, pa = some ⟨g, 0, none⟩ ∧ F = [.row g ps] ∧ ps.take n = zs ∧ ps.length = pc := (by
          rcases hF with ⟨_, h0, _⟩ | ⟨g, ps, e1, e2, e3, e4, _⟩
          · omega
          · exact ⟨g, ps, e1, e2, by rw [← e3, Nat.mul_one], by omega⟩)
        have hxc : ps[k]? = some (.int .u8 x) := (by rw [← hcz, List.getElem?_take, if_pos (by omega)] at hx; exact hx)
        rw [eam]
        refine WL.as (L' := .row g ps :: (.row g16 (fltL 0 0 ⟨#[]⟩) :: .row g38 (RdL.cells ⟨wad, wc, W, (gs.length : Int), C, S, d⟩) :: (Ew ++ (Eg ++ (K ++ (.row g10 (fltL C S d) :: (Ea ++ (.row g6 (fltL (fltOf ft).1 (fltOf ft).2.1 (fltOf ft).2.2) :: (Et ++ Kt))))))))) rfl ?_
        refine WL.val (v_move rfl rfl) (.none rfl) rfl rfl ?_
        refine WL.val (v_move rfl rfl) (.none rfl) rfl rfl ?_
        refine WL.val (v_indexAddr (lo := k) rfl rfl rfl Tryd.underlying22 sz_5 (by omega) (by omega)) (.none rfl) rfl rfl ?_
        refine WL.val (v_load1 rfl rfl one_5 (cellAt (g := g) (k := 0 + k * 1) (v := .int .u8 x) (by rw [show 0 + k * 1 = k by omega]; exact hxc))) (.none rfl) rfl rfl ?_
        refine WL.val (v_xor rfl rfl rfl rfl) (.none rfl) rfl rfl ?_
        refine WL.val (v_indexAddr (lo := k) rfl rfl rfl Tryd.underlying22 sz_5 (by omega) (by omega)) (.none rfl) rfl rfl ?_
        refine WL.store1 rfl rfl rfl rfl one_5 (by omega) (.none rfl) rfl ?_
        refine WL.nil ?_
        refine WE.block_n ?_
        refine WE.then_n ?_
        refine WC.region ?_
        refine WL.val (v_add rfl rfl rfl (w_i64 (by omega) (by omega))) (.none rfl) rfl rfl ?_
        refine WL.val (v_move rfl rfl) (.none rfl) rfl rfl ?_
        refine WL.nil ?_
        rw [show 0 + k * 1 = k by omega]
        refine WE.next (k + 1, (ps.set k (.int .u8 (bits .xor .u8 x 255))).take n, [.row g (ps.set k (.int .u8 (bits .xor .u8 x 255)))]) (by dsimp only; omega) ⟨by dsimp only; omega, by exact Vec.row (by rw [Nat.mul_one]) (by rw [List.length_set]; omega) hpc, ?_⟩ (.int rfl (by dsimp only; omega) (.cons rfl (.cons rfl (.cons rfl (.cons rfl (.cons rfl (.cons rfl (.cons rfl (.cons rfl (.cons rfl (.cons rfl (.cons rfl (.cons rfl (.cons rfl (.cons rfl .nil))))))))))))))) (.refl _)
        dsimp only
        intro i' hi'
        rw [List.getElem?_take, if_pos hi']
        by_cases e : i' = k
        · subst e
          exact ⟨_, by rw [List.getElem?_set_self (by omega)]⟩
        · rw [List.getElem?_set_ne (by omega)]
          obtain ⟨y, hy⟩ := hz i' hi'
          rw [← hcz, List.getElem?_take, if_pos hi'] at hy
          exact ⟨y, hy⟩
       ·
        refine WL.nil ?_
        refine WE.then_n ?_
        refine WC.seq ?_
        refine WC.cond_f rfl ?_
        refine WC.exit ?_
        refine WE.then_exit ?_
        refine WE.then_exit ?_
        refine WE.block_hit ?_
        refine WE.then_n ?_
        refine WC.seq ?_
        refine WC.seq ?_
        refine WC.region ?_
        refine WL.val (v_fieldAddr0 rfl rfl fld_25_0) (.none rfl) rfl rfl ?_
        refine WL.val (v_load1 rfl rfl one_3 (cellAt rfl)) (.none rfl) rfl rfl ?_
        refine WL.val ((v_neq rfl rfl rfl).t (hC0)) (.none rfl) rfl rfl ?_
        refine WL.val (v_move rfl rfl) (.none rfl) rfl rfl ?_
        refine WL.val (v_move rfl rfl) (.some rfl rfl rfl) rfl rfl ?_
        refine WL.val (v_len_slice rfl rfl Tryd.underlying75) (.some rfl rfl rfl) rfl rfl ?_
        refine WL.val ((v_gtr rfl rfl rfl).f (by omega)) (.some rfl rfl rfl) rfl rfl ?_
        refine WL.val (v_move rfl rfl) (.some rfl rfl rfl) rfl rfl ?_
        refine WL.val (v_fieldAddr0 rfl rfl fld_25_0) (.some rfl rfl rfl) rfl rfl ?_
        refine WL.val (v_load1 rfl rfl one_3 (cellAt rfl)) (.some rfl rfl rfl) rfl rfl ?_
        refine WL.val ((v_neq rfl rfl rfl).f (by omega)) (.some rfl rfl rfl) rfl rfl ?_
        refine WL.val (v_pick_f rfl rfl rfl) (.some rfl rfl rfl) rfl rfl ?_
        refine WL.val (v_pick_t rfl rfl rfl) (.none rfl) rfl rfl ?_
        refine WL.nil ?_
        refine WE.then_n ?_
        refine WC.cond_f rfl ?_
        refine WC.skip ?_
        refine WE.then_n ?_
        refine WC.seq ?_
        refine WC.region ?_
        refine WL.to (L' := Eg ++ (.row g16 (fltL 0 0 ⟨#[]⟩) :: .row g38 (RdL.cells ⟨wad, wc, W, (gs.length : Int), C, S, d⟩) :: .row g10 (fltL C S d) :: (Ew ++ (K ++ (Ea ++ (.row g6 (fltL (fltOf ft).1 (fltOf ft).2.1 (fltOf ft).2.2) :: (Et ++ Kt))))))) (fun w hS => (hS.sub (List.sublist_append_right F _)).permC (by intro c h1 h2 h3 e; simp only [h1, h2, h3]; omega)) ?_
        refine WL.val (v_move rfl rfl) (.none rfl) rfl rfl ?_
        refine WL.val (v_move rfl rfl) (.none rfl) rfl rfl ?_
        refine WL.appendL rfl rfl rfl Tryd.underlying75 Tryd.underlying75 sz_43 by_43 zero_43 rfl rfl hVg (new := []) (fun h => absurd h (Nat.lt_irrefl 0)) rfl rfl (by omega) (.none rfl) rfl rfl ?_
        intro ad99 c99 E99 hV99 hr99
        rw [List.append_nil] at hV99
        rw [Nat.add_zero] at hV99 ⊢
        refine WL.val (v_assign rfl rfl) (.none rfl) rfl rfl ?_
        refine WL.nil ?_
        refine WE.then_n ?_
        refine WC.seq ?_
        refine WC.seq ?_
        refine WC.region ?_
        refine WL.val (v_fieldAddr0 rfl rfl fld_25_0) (.none rfl) rfl rfl ?_
        refine WL.val (v_load1 rfl rfl one_3 (cellAt rfl)) (.none rfl) rfl rfl ?_
        refine WL.val ((v_neq rfl rfl rfl).f ((by decide))) (.none rfl) rfl rfl ?_
        refine WL.nil ?_
        refine WE.then_n ?_
        refine WC.cond_f rfl ?_
        refine WC.skip ?_
        refine WE.then_n ?_
        refine WC.region ?_
        refine WL.val (v_move rfl rfl) (.none rfl) rfl rfl ?_
        refine WL.val (v_move rfl rfl) (.none rfl) rfl rfl ?_
        refine WL.val ((v_slice_loA (lo := n) rfl rfl rfl Tryd.underlying22 sz_5 rfl (by omega) hVy.ad)) (.none rfl) rfl rfl ?_
        refine WL.val (v_assign rfl rfl) (.none rfl) rfl rfl ?_
        refine WL.nil ?_
        refine WE.block_n ?_
        refine WE.then_n ?_
        refine WC.region ?_
        refine WL.val (v_move rfl rfl) (.none rfl) rfl rfl ?_
        refine WL.val (v_add rfl rfl rfl (show _ = ((i + 1 : Nat) : Int) from (w_i64 (by omega) (by omega)).trans (by omega))) (.none rfl) rfl rfl ?_
        refine WL.val (v_assign rfl rfl) (.none rfl) rfl rfl ?_
        skip
        refine WL.nil ?_
        exact WE.to (L' := .row g38 (RdL.cells ⟨wad, wc, W, (gs.length : Int), C, S, d⟩) :: (Ew ++ (E99 ++ (K ++ (.row g10 (fltL C S d) :: (Ea ++ (.row g6 (fltL (fltOf ft).1 (fltOf ft).2.1 (fltOf ft).2.2) :: (Et ++ Kt)))))))) (fun w hS => (hS.sub (L' := E99 ++ (.row g38 (RdL.cells ⟨wad, wc, W, (gs.length : Int), C, S, d⟩) :: .row g10 (fltL C S d) :: (Ew ++ (K ++ (Ea ++ (.row g6 (fltL (fltOf ft).1 (fltOf ft).2.1 (fltOf ft).2.2) :: (Et ++ Kt))))))) (List.Sublist.append_left (.cons _ (.refl _)) _)).permC (by intro c h1 h2 h3 e; simp only [h1, h2, h3]; omega)) (WE.next ⟨i + 1, ys.drop n, loAd aa n ac, ac - n, W, wad, wc, Ew, gs, ad99, c99, E99, K, true, C, S, d⟩ (by dsimp only; omega) ⟨by dsimp only; rw [List.length_drop]; omega, hVy.dropA n hnl, hVw, fun x hx => (by
        rcases List.mem_append.1 hx with hx | hx
        · exact hBw x (List.mem_append_left _ hx)
        · exact hBy x (List.mem_of_mem_drop hx)), hV99, hKg, by dsimp only; rw [List.length_drop]; omega, fun e => (by cases e), fun _ => ⟨hC0, hW0, hfd⟩⟩ (.cons rfl (.eq rfl (by dsimp only; rw [List.length_drop]) (.cons rfl (.cons rfl (.cons rfl (.cons rfl (.cons rfl (.cons rfl (.cons rfl .nil))))))))) (.refl _))
     ·
      refine WL.nil ?_
      refine WE.then_n ?_
      refine WC.cond_f rfl ?_
      refine WC.exit ?_
      refine WE.then_exit ?_
      refine WE.then_exit ?_
      refine WE.block_hit ?_
      refine WE.then_n ?_
      refine WC.seq ?_
      refine WC.seq ?_
      refine WC.region ?_
      rw [htold] at hfd
      have hgr : rs.map MsL.d = gs.map MsL.d := congrArg Prod.fst hfd
      have hgl := map_len_eq hgr
      have hff : ft = some (C, S, d) := congrArg (fun t => t.2.1) hfd
      have hww : restT = W := (congrArg (fun t => t.2.2) hfd).trans hW0.symm
      rw [hff, hww]
      refine WL.val (v_move rfl rfl) (.none rfl) rfl rfl ?_
      refine WL.val (v_len_slice rfl rfl Tryd.underlying75) (.none rfl) rfl rfl ?_
      refine WL.val (v_move rfl rfl) (.none rfl) rfl rfl ?_
      refine WL.val (v_len_slice rfl rfl Tryd.underlying69) (.none rfl) rfl rfl ?_
      refine WL.val ((v_neq rfl rfl rfl).f ((by omega))) (.none rfl) rfl rfl ?_
      refine WL.val (v_move rfl rfl) (.none rfl) rfl rfl ?_
      refine WL.val (v_loadN rfl rfl many_25 rfl allAt) (.some rfl rfl rfl) rfl rfl ?_
      refine WL.val (v_loadN rfl rfl many_28 rfl allAt) (.some rfl rfl rfl) rfl rfl ?_
      refine WL.val (v_neq_aggF rfl rfl rfl eqk_28 eqg_28 rfl rfl (by rfl)) (.some rfl rfl rfl) rfl rfl ?_
      refine WL.val (v_pick_f rfl rfl rfl) (.none rfl) rfl rfl ?_
      refine WL.val (v_move rfl rfl) (.none rfl) rfl rfl ?_
      refine WL.val (v_move rfl rfl) (.some rfl rfl rfl) rfl rfl ?_
      refine WL.call rfl rfl ck_27 (.some rfl rfl rfl) rfl rfl ?_
      intro w hS
      refine Calls.then (Count_c w g38 ⟨wad, wc, W, (gs.length : Int), C, S, d⟩ (hS.at0 (by simp))) hS ?_
      refine WL.val (v_move rfl rfl) (.some rfl rfl rfl) rfl rfl ?_
      refine WL.val (v_len_slice rfl rfl Tryd.underlying69) (.some rfl rfl rfl) rfl rfl ?_
      refine WL.val ((v_neq rfl rfl rfl).f ((by dsimp only; omega))) (.some rfl rfl rfl) rfl rfl ?_
      refine WL.val (v_pick_f rfl rfl rfl) (.none rfl) rfl rfl ?_
      refine WL.val (v_move rfl rfl) (.none rfl) rfl rfl ?_
      refine WL.val (v_move rfl rfl) (.some rfl rfl rfl) rfl rfl ?_
      refine WL.call rfl rfl ck_28 (.some rfl rfl rfl) rfl rfl ?_
      intro w hS
      refine Calls.then (Waits_c w g38 ⟨wad, wc, W, (gs.length : Int), C, S, d⟩ (hS.at0 (by simp))) hS ?_
      refine WL.val (v_move rfl rfl) (.some rfl rfl rfl) rfl rfl ?_
      refine WL.val ((v_neq rfl rfl rfl).f ((by dsimp only; omega))) (.some rfl rfl rfl) rfl rfl ?_
      refine WL.val (v_pick_f rfl rfl rfl) (.none rfl) rfl rfl ?_
      refine WL.nil ?_
      refine WE.then_n ?_
      refine WC.cond_f rfl ?_
      refine WC.skip ?_
      refine WE.then_n ?_
      refine WC.seq ?_
      refine WC.seq ?_
      refine WC.region ?_
      refine WL.val (v_move rfl rfl) (.none rfl) rfl rfl ?_
      refine WL.val (v_len_slice rfl rfl Tryd.underlying75) (.none rfl) rfl rfl ?_
      refine WL.val (v_move rfl rfl) (.none rfl) rfl rfl ?_
      refine WL.nil ?_
      refine WE.then_n ?_
      refine WC.block ?_
      refine WC.loop (fun j : Nat => [(132, .int .i64 j), (131, .int .i64 gs.length), (10, .pointer (some ⟨g10, 0, none⟩)), (9, .slice gad gs.length gc), (8, .pointer (some ⟨g38, 0, none⟩)), (6, .pointer (some ⟨g6, 0, none⟩)), (5, .slice tad rs.length trc)]) (fun _ => .row g38 (RdL.cells ⟨wad, wc, W, (gs.length : Int), C, S, d⟩) :: (Ew ++ (Eg ++ (K ++ (.row g10 (fltL C S d) :: (Ea ++ (.row g6 (fltL (fltOf (some (C, S, d))).1 (fltOf (some (C, S, d))).2.1 (fltOf (some (C, S, d))).2.2) :: (Et ++ Kt)))))))) (fun j => j ≤ gs.length) (fun j => gs.length - j) 0 (Nat.zero_le _) (.cons rfl (.cons rfl (.cons rfl (.cons rfl (.cons rfl (.cons rfl (.cons rfl .nil))))))) (.refl _) ?_
      intro j hj
      refine WC.seq ?_
      refine WC.region ?_
      refine WL.test (v_lss rfl rfl rfl) (.none rfl) rfl rfl (fun h133 => ?_) (fun h133 => ?_)
      ·
       refine WL.nil ?_
       refine WE.then_n ?_
       refine WC.seq ?_
       refine WC.cond_t rfl ?_
       refine WC.skip ?_
       refine WE.then_n ?_
       refine WC.seq ?_
       refine WC.block ?_
       refine WC.seq ?_
       refine WC.region ?_
       refine WL.val (v_move rfl rfl) (.none rfl) rfl rfl ?_
       refine WL.val (v_assign rfl rfl) (.none rfl) rfl rfl ?_
       refine WL.nil ?_
       refine WE.then_n ?_
       refine WC.seq ?_
       refine WC.quiet mixed (by kernel_rfl) ?_
       refine WQ.val (v_move rfl rfl) (.none rfl) rfl rfl ?_
       refine WQ.val (v_move rfl rfl) (.none rfl) rfl rfl ?_
       obtain ⟨m, hm⟩ : ∃ m, gs[j]? = some m := ⟨gs[j]'(by omega), List.getElem?_eq_getElem _⟩
       obtain ⟨r, hr, emr⟩ := map_get_eq hgr.symm hm
       obtain ⟨b1, o1, e1, _⟩ := hVg.src2 (by rw [hVg.len.1]; omega)
       obtain ⟨b2, o2, e2, _⟩ := hVt.src2 (by rw [hVt.len.1]; omega)
       have hr1 : ∀ w, (∀ e ∈ Eg, e.holds w) → w.rangeAt b1 (o1 + j * 20) m.cells := (fun w hw => by
         have := cells_of (enc := MsL.cells) hVg (fun _ => rfl) (by omega) hw
         rw [e1] at this
         exact this.get hm)
       have hr2 : ∀ w, (∀ e ∈ Et, e.holds w) → w.rangeAt b2 (o2 + j * 20) r.rcells := (fun w hw => by
         have := cells_of (enc := MsL.rcells) hVt (fun _ => rfl) (by omega) hw
         rw [e2] at this
         exact this.get hr)
       refine WQ.val ((v_indexAddr (b := b1) (off := o1) (lo := j) rfl (by show some (Value.slice gad _ _) = _; rw [e1]) rfl Tryd.underlying75 sz_43 rfl (by omega))) (.none rfl) rfl rfl ?_
       refine WQ.val ((v_loadN (cs := m.cells) rfl rfl many_43 rfl (fun w hS => hr1 w fun e he => hS.holds e (by simp [he])))) (.none rfl) rfl rfl ?_
       refine WQ.val (v_move rfl rfl) (.none rfl) rfl rfl ?_
       refine WQ.val (v_move rfl rfl) (.none rfl) rfl rfl ?_
       refine WQ.val ((v_indexAddr (b := b2) (off := o2) (lo := j) rfl (by show some (Value.slice tad _ _) = _; rw [e2]) rfl Tryd.underlying69 sz_53 rfl (by omega))) (.none rfl) rfl rfl ?_
       refine WQ.val ((v_loadN (cs := r.rcells) rfl rfl many_53 rfl (fun w hS => hr2 w fun e he => hS.holds e (by simp [he])))) (.none rfl) rfl rfl ?_
       refine WQ.call _ rfl rfl ck_29 (.none rfl) rfl rfl (fun w hS => Calls.still (Same08_c w m r emr) hS) ?_
       refine WQ.val (v_not rfl rfl rfl) (.none rfl) rfl rfl ?_
       refine WQ.nil ?_
       refine WE.then_n ?_
       refine WC.cond_f rfl ?_
       refine WC.skip ?_
       refine WE.block_n ?_
       refine WE.then_n ?_
       refine WC.region ?_
       refine WL.val (v_add rfl rfl rfl (show _ = ((j + 1 : Nat) : Int) from (w_i64 (by omega) (by omega)).trans (by omega))) (.none rfl) rfl rfl ?_
       refine WL.val (v_move rfl rfl) (.none rfl) rfl rfl ?_
       refine WL.nil ?_
       exact WE.next (j + 1) (by omega) (by omega) (.cons rfl (.cons rfl (.cons rfl (.cons rfl (.cons rfl (.cons rfl (.cons rfl .nil))))))) (.refl _)
      ·
       refine WL.nil ?_
       refine WE.then_n ?_
       refine WC.seq ?_
       refine WC.cond_f rfl ?_
       refine WC.exit ?_
       refine WE.then_exit ?_
       refine WE.then_exit ?_
       refine WE.block_hit ?_
       refine WE.then_n ?_
       refine WC.seq ?_
       refine WC.region ?_
       refine WL.val (v_move rfl rfl) (.none rfl) rfl rfl ?_
       refine WL.call rfl rfl ck_30 (.none rfl) rfl rfl ?_
       intro w hS
       refine Calls.then (OverT_c w g38 ⟨wad, wc, W, (gs.length : Int), C, S, d⟩ (hS.at0 (by simp)) hC0) hS ?_
       refine WL.val (v_move rfl rfl) (.none rfl) rfl rfl ?_
       refine WL.val (v_extract rfl rfl rfl) (.none rfl) rfl rfl ?_
       refine WL.val (v_extract rfl rfl rfl) (.none rfl) rfl rfl ?_
       refine WL.alloc rfl zero_25 (.none rfl) rfl rfl ?_
       intro g19 hg19
       refine WL.storeW rfl rfl rfl rfl many_25 rfl rfl (.none rfl) rfl ?_
       refine WL.val (v_assign rfl rfl) (.none rfl) rfl rfl ?_
       refine WL.nil ?_
       refine WE.then_n ?_
       refine WC.seq ?_
       refine WC.region ?_
       refine WL.val (v_move rfl rfl) (.none rfl) rfl rfl ?_
       refine WL.val (v_fieldAddr0 rfl rfl fld_28_0) (.none rfl) rfl rfl ?_
       refine WL.val (v_load1 rfl rfl one_3 (cellAt rfl)) (.none rfl) rfl rfl ?_
       refine WL.val ((v_neq rfl rfl rfl).t (hC0)) (.none rfl) rfl rfl ?_
       refine WL.val ((v_eql_bool rfl rfl rfl Tryd.underlying4).t (rfl)) (.none rfl) rfl rfl ?_
       refine WL.val (v_move rfl rfl) (.none rfl) rfl rfl ?_
       refine WL.val (v_loadN rfl rfl many_25 rfl allAt) (.some rfl rfl rfl) rfl rfl ?_
       refine WL.val (v_loadN rfl rfl many_25 rfl allAt) (.some rfl rfl rfl) rfl rfl ?_
       refine WL.val (v_eql_aggT rfl rfl rfl eqk_25 eqg_25 rfl rfl (by rfl)) (.some rfl rfl rfl) rfl rfl ?_
       refine WL.val (v_pick_t rfl rfl rfl) (.none rfl) rfl rfl ?_
       refine WL.val (v_assign rfl rfl) (.none rfl) rfl rfl ?_
       refine WL.nil ?_
       refine WE.then_n ?_
       refine WC.ret ?_
       refine WE.ret1 (P := Tryd.prog) (.inl rfl) Tryd.results8 rfl ?_
       exact fun w' h => ⟨rfl, h.frm⟩
end Go.Proofs.YtpjbofodllhjbaaDoor
/- attr: the two tables that lie there. -/
namespace Go.Proofs.YtpjbofodllhjbaaDoor
open Go.RowKit

theorem laid_tail {P : Program} {x : String × DataW Unit} {r : List (String × DataW Unit)} {w : World} (h : laidMet P (x :: r) w) : laidMet P r w := by
  obtain ⟨ps, ⟨g, t, cs, fuel, p, q, _, _, _, _, hq, rfl⟩, hn, hc⟩ := h
  exact ⟨q, hq, (List.nodup_append.1 hn).2.1, fun b off hm => hc b off (List.mem_append_right _ hm)⟩
theorem laid_attr {w : World} (hL : laidMet Tryd.prog [("carrefour/attr.flags", Rows.laid_carrefour_attr_flags), ("carrefour/attr.sizes", Rows.laid_carrefour_attr_sizes)] w) : GF w ∧ GZ w := by
  constructor
  · have hT := Lib.tabIs_of_head (zs := [0, 64, 64, 64, 128, 64, 64, 192, 192]) (k := .i64) (show Tryd.prog.globalNamed "carrefour/attr.flags" = some 0 by kernel_rfl) (show (Tryd.prog.globals[0]?).map (·.type) = some 157 by kernel_rfl) Tryd.underlying157 Tryd.underlying3 (by kernel_rfl) (by kernel_rfl) hL
    intro i hi
    have := hT.cell (show Tryd.prog.globalNamed "carrefour/attr.flags" = some 0 by kernel_rfl) i hi
    match i, hi with
    | 0, _ | 1, _ | 2, _ | 3, _ | 4, _ | 5, _ | 6, _ | 7, _ | 8, _ => exact this
  · have hT := Lib.tabIs_of_head (zs := [0, 1, -1, 4, 4, 4, 0, 6, -1]) (k := .i64) (show Tryd.prog.globalNamed "carrefour/attr.sizes" = some 2 by kernel_rfl) (show (Tryd.prog.globals[2]?).map (·.type) = some 157 by kernel_rfl) Tryd.underlying157 Tryd.underlying3 (by kernel_rfl) (by kernel_rfl) (laid_tail hL)
    intro i hi
    have := hT.cell (show Tryd.prog.globalNamed "carrefour/attr.sizes" = some 2 by kernel_rfl) i hi
    match i, hi with
    | 0, _ | 1, _ | 2, _ | 3, _ | 4, _ | 5, _ | 6, _ | 7, _ | 8, _ => exact this
end Go.Proofs.YtpjbofodllhjbaaDoor
/- Arguments: a message of BGP. -/
namespace Go.Proofs.YtpjbofodllhjbaaDoor
open Go.RowKit

theorem rows_of {P : Program} {w : World} {e s len : Nat} {a : Option Addr} {α : Type} {enc : α → List Value} {good : α → Prop} (hx : ∀ cs, cs.length = s → Tree P w e cs → ∃ x, cs = enc x ∧ good x) (h : Elems P w e s a len) : ∃ xs : List α, xs.length = len ∧ RowsAt w a s enc xs ∧ ∀ x ∈ xs, good x := by
  by_cases hl : 0 < len
  · obtain ⟨b, off, rfl, hE⟩ := h hl
    have hE' : ∀ i : Fin len, ∃ x, w.rangeAt b (off + i.1 * s) (enc x) ∧ good x := fun i => by
      obtain ⟨cs, hc, hr, hT⟩ := hE i.1 i.2
      obtain ⟨x, rfl, hg⟩ := hx cs hc hT
      exact ⟨x, hr, hg⟩
    refine ⟨List.ofFn fun i => Classical.choose (hE' i), List.length_ofFn, fun i x hi => ?_, fun x hm => ?_⟩
    · rw [List.getElem?_ofFn] at hi
      split at hi
      · rename_i hlt
        obtain rfl := Option.some.inj hi
        exact ⟨b, off, rfl, (Classical.choose_spec (hE' ⟨i, hlt⟩)).1⟩
      · cases hi
    · obtain ⟨i, rfl⟩ := List.mem_ofFn.1 hm
      exact (Classical.choose_spec (hE' i)).2
  · refine ⟨[], by rw [List.length_nil]; omega, fun i x hi => by simp at hi, fun x hm => by cases hm⟩
theorem CellsAt.of_rows {w : World} {a : Option Addr} {f : Int → Value} {xs : List Int} (h : RowsAt w a 1 (fun x => [f x]) xs) : CellsAt w a (xs.map f) := fun hn => by
  rw [List.length_map] at hn
  obtain ⟨b, o, e, _⟩ := h 0 _ (List.getElem?_eq_getElem hn)
  refine ⟨b, o, e, fun j v hj => ?_⟩
  rw [List.getElem?_map] at hj
  cases hx : xs[j]? with
  | none => rw [hx] at hj; cases hj
  | some x =>
    rw [hx] at hj
    obtain rfl := Option.some.inj hj
    obtain ⟨b', o', e', hr⟩ := h j x hx
    rw [e] at e'
    cases e'
    have := hr 0 _ rfl
    rwa [Nat.mul_one, Nat.add_zero] at this
theorem Elems.u8 {w : World} {len : Nat} {a : Option Addr} (h : Elems Tryd.prog w 5 1 a len) : ∃ xs : List Int, xs.length = len ∧ CellsAt w a (u8s xs) ∧ Bys xs := by
  obtain ⟨xs, hl, hr, hg⟩ := rows_of (enc := fun x => [.int .u8 x]) (good := fun x => 0 ≤ x ∧ x ≤ 255) (fun cs hc hT => by
    match cs, hc with
    | [x], _ =>
      obtain ⟨n, rfl, hw⟩ := Tree.int Tryd.underlying5 hT
      exact ⟨n, rfl, wf_u8 hw⟩) h
  exact ⟨xs, hl, CellsAt.of_rows hr, hg⟩
theorem Elems.i64 {w : World} {len : Nat} {a : Option Addr} (h : Elems Tryd.prog w 3 1 a len) : ∃ xs : List Int, xs.length = len ∧ CellsAt w a (i64s xs) ∧ ∀ x ∈ xs, I64 x := by
  obtain ⟨xs, hl, hr, hg⟩ := rows_of (enc := fun x => [.int .i64 x]) (good := fun x => I64 x) (fun cs hc hT => by
    match cs, hc with
    | [x], _ =>
      obtain ⟨n, rfl, hw⟩ := Tree.int Tryd.underlying3 hT
      exact ⟨n, rfl, wf_i64 hw⟩) h
  exact ⟨xs, hl, CellsAt.of_rows hr, hg⟩
theorem Tree.u8sl {w : World} {x : Value} (h : Tree Tryd.prog w 22 [x]) : ∃ a cap, ∃ xs : List Int, x = .slice a xs.length cap ∧ xs.length ≤ cap ∧ cap ≤ maxLen ∧ CellsAt w a (u8s xs) ∧ Bys xs := by
  obtain ⟨a, len, cap, rfl, h1, h2, hE⟩ := Tree.slice (s := 1) Tryd.underlying22 (by kernel_rfl) (by decide) h
  obtain ⟨xs, rfl, hc, hb⟩ := Elems.u8 hE
  exact ⟨a, cap, xs, rfl, h1, h2, hc, hb⟩
theorem Tree.i64sl {w : World} {x : Value} (h : Tree Tryd.prog w 38 [x]) : ∃ a cap, ∃ xs : List Int, x = .slice a xs.length cap ∧ xs.length ≤ cap ∧ cap ≤ maxLen ∧ CellsAt w a (i64s xs) ∧ ∀ x ∈ xs, I64 x := by
  obtain ⟨a, len, cap, rfl, h1, h2, hE⟩ := Tree.slice (s := 1) Tryd.underlying38 (by kernel_rfl) (by decide) h
  obtain ⟨xs, rfl, hc, hb⟩ := Elems.i64 hE
  exact ⟨a, cap, xs, rfl, h1, h2, hc, hb⟩
theorem Tree.flatL {P : Program} {w : World} {t : TypeId} {cs : List Value} {ts : List TypeId} (h : Tree P w t cs) (F : Nat) (hl : layB P F t = true) (hf : flat P F t = ts) : Leaves P w ts cs := hf ▸ Tree.leaves F t cs hl h
theorem maxLen_le : maxLen ≤ 9223372036854775807 := by decide
theorem Tree.caps {w : World} {x : Value} (h : Tree Tryd.prog w 35 [x]) : ∃ a cap, ∃ xs : List CapL, x = .slice a xs.length cap ∧ xs.length ≤ 9223372036854775807 ∧ RowsAt w a 2 CapL.cells xs ∧ ∀ c ∈ xs, CellsAt w c.ad (u8s c.val) ∧ I64 c.code ∧ c.val.length ≤ 9223372036854775807 ∧ Bys c.val := by
  obtain ⟨a, len, cap, rfl, h1, h2, hE⟩ := Tree.slice (s := 2) Tryd.underlying35 (by kernel_rfl) (by decide) h
  have hm := maxLen_le
  obtain ⟨xs, rfl, hr, hg⟩ := rows_of (enc := CapL.cells) (good := fun c => CellsAt w c.ad (u8s c.val) ∧ I64 c.code ∧ c.val.length ≤ 9223372036854775807 ∧ Bys c.val) (fun cs hc hT => by
    have hL := Tree.flatL (ts := [3, 22]) hT 4 (by kernel_rfl) (by kernel_rfl)
    obtain ⟨x, _, rfl, hx, y, _, rfl, hy, rfl⟩ := hL
    obtain ⟨n, rfl, hw⟩ := Tree.int Tryd.underlying3 hx
    obtain ⟨a', cap', ys, rfl, k1, k2, k3, k4⟩ := Tree.u8sl hy
    exact ⟨⟨n, a', cap', ys⟩, rfl, k3, wf_i64 hw, by dsimp only; omega, k4⟩) hE
  exact ⟨a, cap, xs, rfl, by omega, hr, hg⟩
theorem Tree.segs {w : World} {x : Value} (h : Tree Tryd.prog w 37 [x]) : ∃ a cap, ∃ xs : List SegL, x = .slice a xs.length cap ∧ xs.length ≤ 9223372036854775807 ∧ RowsAt w a 2 SegL.cells xs ∧ ∀ c ∈ xs, CellsAt w c.ad (i64s c.asl) ∧ c.asl.length ≤ 9223372036854775807 ∧ ∀ x ∈ c.asl, I64 x := by
  obtain ⟨a, len, cap, rfl, h1, h2, hE⟩ := Tree.slice (s := 2) Tryd.underlying37 (by kernel_rfl) (by decide) h
  have hm := maxLen_le
  obtain ⟨xs, rfl, hr, hg⟩ := rows_of (enc := SegL.cells) (good := fun c => CellsAt w c.ad (i64s c.asl) ∧ c.asl.length ≤ 9223372036854775807 ∧ ∀ x ∈ c.asl, I64 x) (fun cs hc hT => by
    have hL := Tree.flatL (ts := [4, 38]) hT 4 (by kernel_rfl) (by kernel_rfl)
    obtain ⟨x, _, rfl, hx, y, _, rfl, hy, rfl⟩ := hL
    obtain ⟨n, rfl⟩ := Tree.bool Tryd.underlying4 hx
    obtain ⟨a', cap', ys, rfl, k1, k2, k3, k4⟩ := Tree.i64sl hy
    exact ⟨⟨n, a', cap', ys⟩, rfl, k3, by dsimp only; omega, k4⟩) hE
  exact ⟨a, cap, xs, rfl, by omega, hr, hg⟩
theorem Tree.oths {w : World} {x : Value} (h : Tree Tryd.prog w 39 [x]) : ∃ a cap, ∃ xs : List OthL, x = .slice a xs.length cap ∧ xs.length ≤ 9223372036854775807 ∧ RowsAt w a 2 OthL.cells xs ∧ ∀ c ∈ xs, CellsAt w c.ad (u8s c.val) ∧ I64 c.ty ∧ c.val.length ≤ 9223372036854775807 ∧ Bys c.val := by
  obtain ⟨a, len, cap, rfl, h1, h2, hE⟩ := Tree.slice (s := 2) Tryd.underlying39 (by kernel_rfl) (by decide) h
  have hm := maxLen_le
  obtain ⟨xs, rfl, hr, hg⟩ := rows_of (enc := OthL.cells) (good := fun c => CellsAt w c.ad (u8s c.val) ∧ I64 c.ty ∧ c.val.length ≤ 9223372036854775807 ∧ Bys c.val) (fun cs hc hT => by
    have hL := Tree.flatL (ts := [3, 22]) hT 4 (by kernel_rfl) (by kernel_rfl)
    obtain ⟨x, _, rfl, hx, y, _, rfl, hy, rfl⟩ := hL
    obtain ⟨n, rfl, hw⟩ := Tree.int Tryd.underlying3 hx
    obtain ⟨a', cap', ys, rfl, k1, k2, k3, k4⟩ := Tree.u8sl hy
    exact ⟨⟨n, a', cap', ys⟩, rfl, k3, wf_i64 hw, by dsimp only; omega, k4⟩) hE
  exact ⟨a, cap, xs, rfl, by omega, hr, hg⟩
end Go.Proofs.YtpjbofodllhjbaaDoor
