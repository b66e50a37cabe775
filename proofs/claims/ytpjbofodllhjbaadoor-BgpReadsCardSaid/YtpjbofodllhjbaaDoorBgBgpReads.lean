/- Texts joined: engine, contracts and laws, in the order in which they build. -/
import Derived.Test.YtpjbofodllhjbaaDoorRows
import Derived.Lib.LaidTab
import Derived.Test.YtpjbofodllhjbaaDoorBfBgpReads
/- carrefourref07.Decode, walked (printed by gen/rej.py). -/
namespace Go.Proofs.YtpjbofodllhjbaaDoor
open Go.RowKit

def RMsP (w w' : World) (xs : List Int) (e : Ending) : Prop :=
  match decM xs with
  | .inr (c, s, d) => e = .returned (.tuple #[.agg (MsL.zero 0).rcells.toArray, .agg (fltL c s d).toArray]) ∧ Frm (fun _ => False) w w'
  | .inl md => ∃ m K, e = .returned (.tuple #[.agg m.rcells.toArray, .agg (fltL 0 0 ⟨#[]⟩).toArray]) ∧ m.d = md ∧ MsAll K m ∧ St (fun _ => False) w w' K
theorem RMsP.no {w w' : World} {xs : List Int} {c s : Int} {d : ByteArray} {L : List Ent} (h : decM xs = .inr (c, s, d)) (hS : St (fun _ => False) w w' L) : RMsP w w' xs (.returned (.tuple #[.agg (MsL.zero 0).rcells.toArray, .agg (fltL c s d).toArray])) := by
  unfold RMsP
  rw [h]
  exact ⟨rfl, hS.frm⟩
theorem RDec06_u (w : World) (b o cv : Nat) (xs : List Int) (hW : Win w b o cv xs) (hn : xs.length ≤ 90000) :
    Calls Tryd.prog 44 #[.slice (some ⟨b, o, none⟩) xs.length cv] w fun e w' => ∃ (ok : Bool) (s : Int) (d : ByteArray) (a : AtL) (K : List Ent), e = .returned (.tuple #[.agg a.rcells.toArray, .agg (fltL (if ok then 0 else 3) s d).toArray]) ∧ AtAll K a ∧ St (fun _ => False) w w' K ∧
      (ok = false → decD AtL.zero.d [] xs = .inr (s, d)) ∧ (ok = true → s = 0 ∧ d = ⟨#[]⟩ ∧ ∃ dd, decD AtL.zero.d [] xs = .inl dd ∧ a.d = { dd with others := sortO dd.others }) :=
  (RDec06_c w b o cv xs hW hn).mono fun e w' h => by
    unfold RDecP at h
    cases hp : decD AtL.zero.d [] xs with
    | inr x =>
      obtain ⟨s, d⟩ := x
      rw [hp] at h
      exact ⟨false, s, d, .zero, [], h.1, AtAll.zero, (St.start _ _).ext h.2, fun _ => rfl, fun e => by cases e⟩
    | inl dd =>
      rw [hp] at h
      obtain ⟨a, K, he, ha, hA, hS⟩ := h
      exact ⟨true, 0, ⟨#[]⟩, a, K, he, hA, hS, (fun e => by cases e), fun _ => ⟨rfl, rfl, dd, rfl, ha⟩⟩
theorem RRead_u (w0 : World) (b o c : Nat) (xs : List Int) (hW : Win w0 b o c xs) (hn : xs.length ≤ 100000) :
    Calls Tryd.prog 43 #[.slice (some ⟨b, o, none⟩) xs.length c] w0 fun e w' => ∃ (ps : List PfL) (ad : Option Addr) (c' : Nat) (E : List Ent) (ok : Bool), e = .returned (.tuple #[.slice ad ps.length c', .bool ok]) ∧ Vec 2 ad ps.length c' (pfsL ps) E ∧ St (fun _ => False) w0 w' E ∧ (ok = false → netsR xs = none) ∧ (ok = true → netsR xs = some ps) :=
  (RRead_c w0 b o c xs hW hn).mono fun e w' h => by
    unfold ReadP at h
    cases hp : netsR xs with
    | none =>
      rw [hp] at h
      exact ⟨[], none, 0, [], false, h.1, Vec.nil 2, (St.start _ _).ext h.2, fun _ => rfl, fun e => by cases e⟩
    | some ps =>
      rw [hp] at h
      obtain ⟨ad, c', E, he, hV, hS⟩ := h
      exact ⟨ps, ad, c', E, true, he, hV, hS, (fun e => by cases e), fun _ => rfl⟩
theorem addrI_of {ys : List Int} (k : Nat) : addrI ((ys.take (k + 4)).drop k) = fOf ys k * 16777216 + fOf ys (k + 1) * 65536 + fOf ys (k + 2) * 256 + fOf ys (k + 3) := by
  have h : ∀ i, i < 4 → fOf ((ys.take (k + 4)).drop k) i = fOf ys (k + i) := fun i hi => by
    rw [fOf_drop]
    unfold fOf
    rw [List.getD_eq_getElem?_getD, List.getD_eq_getElem?_getD, List.getElem?_take, if_pos (by omega)]
  unfold addrI
  rw [h 0 (by omega), h 1 (by omega), h 2 (by omega), h 3 (by omega)]
  rfl
theorem decD_seen {xs : List Int} {dd : AtD} (h : decD AtL.zero.d [] xs = .inl dd) (hB : Bys xs) : 0 ≤ dd.has ∧ dd.has ≤ 511 := by
  obtain ⟨_, seen', hS⟩ := decD_good xs.length xs.length AtL.zero.d [] xs (Nat.le_refl _) (Nat.le_refl _) hB SeenI.zero (AtG.zero _) h
  exact ⟨hS.h0, hS.h1⟩
structure RoS where
  k : Nat
  cs : List CapL
  ad : Option Addr
  kc : Nat
  E : List Ent
  KO : List Ent
theorem RDecBad_c (w0 : World) (b o c : Nat) (xs : List Int) (hW : Win w0 b o c xs) (hn : xs.length ≤ 90000) (C S : Int) (d : ByteArray) (hs : sizeR xs.length (fOf xs) = (0, C, S, d)) (hC : C ≠ 0) :
    Calls Tryd.prog 18 #[.slice (some ⟨b, o, none⟩) xs.length c] w0 fun e w' => RMsP w0 w' xs e := by
  have hle := hW.le
  have e00 : decM xs = .inr (C, S, d) := by unfold decM; rw [hs]; exact if_pos hC
  refine enter Tryd.func18 rfl Tryd.ntmps18 rfl (St.start (fun _ => False) w0) ?_
  refine WC.seq ?_
  refine WC.region ?_
  refine WL.alloc rfl zero_53 (.none rfl) rfl rfl ?_
  intro g2 hg2
  refine WL.alloc rfl zero_28 (.none rfl) rfl rfl ?_
  intro g3 hg3
  refine WL.nil ?_
  refine WE.then_n ?_
  refine WC.seq ?_
  refine WC.region ?_
  refine WL.val (v_move rfl rfl) (.none rfl) rfl rfl ?_
  refine WL.call rfl rfl ck_15 (.none rfl) rfl rfl ?_
  intro w hS
  refine Calls.then (by rw [show (Ending.returned (.tuple #[.int .i64 0, .agg (fltL C S d).toArray])) = .returned (sizeV (sizeR xs.length (fOf xs))) by rw [hs]; rfl]; exact RSize_c w (some ⟨b, o, none⟩) xs.length c (fOf xs) (fOf_byt hW.bys) (fun _ => ⟨b, o, rfl, rd_u8s (hW.st hS).at_⟩) (by omega) hle) hS ?_
  refine WL.val (v_move rfl rfl) (.none rfl) rfl rfl ?_
  refine WL.val (v_extract rfl rfl rfl) (.none rfl) rfl rfl ?_
  refine WL.val (v_extract rfl rfl rfl) (.none rfl) rfl rfl ?_
  refine WL.alloc rfl zero_28 (.none rfl) rfl rfl ?_
  intro g5 hg5
  refine WL.val (v_assign rfl rfl) (.none rfl) rfl rfl ?_
  refine WL.storeW rfl rfl rfl rfl many_28 rfl rfl (.none rfl) rfl ?_
  refine WL.nil ?_
  refine WE.then_n ?_
  refine WC.seq ?_
  refine WC.seq ?_
  refine WC.region ?_
  refine WL.val (v_fieldAddr0 rfl rfl fld_28_0) (.none rfl) rfl rfl ?_
  refine WL.val (v_load1 rfl rfl one_3 (cellAt rfl)) (.none rfl) rfl rfl ?_
  refine WL.val ((v_neq rfl rfl rfl).t (hC)) (.none rfl) rfl rfl ?_
  refine WL.nil ?_
  refine WE.then_n ?_
  refine WC.cond_t rfl ?_
  refine WC.seq ?_
  refine WC.orders mixed ?_
  refine WR.first (g := 3) [0] (by kernel_rfl) (by kernel_rfl) ?_
  refine WP.val (v_build rfl rfl zero_53 plc_53 rfl) (.none rfl) rfl rfl ?_
  refine WP.nil ?_
  refine WR.each (g := 2) [1, 2] (by kernel_rfl) (by decide) ?_
  refine ⟨?_, ?_⟩
  ·
   refine WL.val (v_loadN rfl rfl many_28 rfl allAt) (.none rfl) rfl rfl ?_
   refine WL.nilR ?_
   refine WR.ones (g := 0) [2, 3] (by kernel_rfl) ?_
   refine WL.storeW rfl rfl rfl rfl many_53 rfl rfl (.none rfl) rfl ?_
   refine WL.storeW rfl rfl rfl rfl many_28 rfl rfl (.none rfl) rfl ?_
   refine WL.nilR ?_
   refine WR.done (by kernel_rfl) ?_
   refine WE.then_n ?_
   refine WC.ret ?_
   refine WE.then_ret ?_
   refine WE.ret2 (P := Tryd.prog) (.inl rfl) Tryd.results18 (resRow rfl many_53 rfl) (resRow rfl many_28 rfl) ?_
   exact fun w' h => RMsP.no e00 h
  ·
   refine WL.storeW rfl rfl rfl rfl many_53 rfl rfl (.none rfl) rfl ?_
   refine WL.nilR ?_
   refine WR.read (g := 1) [1] (by kernel_rfl) (by kernel_rfl) (by kernel_rfl) (by kernel_rfl) rfl ?_
   refine WQ.val (v_loadN rfl rfl many_28 rfl allAt) (.none rfl) rfl rfl ?_
   refine WQ.nilR ?_
   refine WR.ones (g := 0) [3] (by kernel_rfl) ?_
   refine WL.storeW rfl rfl rfl rfl many_28 rfl rfl (.none rfl) rfl ?_
   refine WL.nilR ?_
   refine WR.done (by kernel_rfl) ?_
   refine WE.then_n ?_
   refine WC.ret ?_
   refine WE.then_ret ?_
   refine WE.ret2 (P := Tryd.prog) (.inl rfl) Tryd.results18 (resRow rfl many_53 rfl) (resRow rfl many_28 rfl) ?_
   exact fun w' h => RMsP.no e00 h
theorem RDecLong_c (w0 : World) (b o c : Nat) (xs : List Int) (hW : Win w0 b o c xs) (hn : xs.length ≤ 90000) (h19 : 19 ≤ xs.length) (hs : sizeR xs.length (fOf xs) = (lenI (fOf xs), 0, 0, ⟨#[]⟩)) (hk : lenI (fOf xs) ≠ xs.length) :
    Calls Tryd.prog 18 #[.slice (some ⟨b, o, none⟩) xs.length c] w0 fun e w' => RMsP w0 w' xs e := by
  have hle := hW.le
  have e00 : decM xs = .inr (1, 2, str (fun i => fOf xs (16 + i)) 2) := by unfold decM; rw [hs]; dsimp only; rw [if_neg (by simp), if_pos hk]
  refine enter Tryd.func18 rfl Tryd.ntmps18 rfl (St.start (fun _ => False) w0) ?_
  refine WC.seq ?_
  refine WC.region ?_
  refine WL.alloc rfl zero_53 (.none rfl) rfl rfl ?_
  intro g2 hg2
  refine WL.alloc rfl zero_28 (.none rfl) rfl rfl ?_
  intro g3 hg3
  refine WL.nil ?_
  refine WE.then_n ?_
  refine WC.seq ?_
  refine WC.region ?_
  refine WL.val (v_move rfl rfl) (.none rfl) rfl rfl ?_
  refine WL.call rfl rfl ck_15 (.none rfl) rfl rfl ?_
  intro w hS
  refine Calls.then (by rw [show (Ending.returned (.tuple #[.int .i64 (lenI (fOf xs)), .agg (fltL 0 0 ⟨#[]⟩).toArray])) = .returned (sizeV (sizeR xs.length (fOf xs))) by rw [hs]; rfl]; exact RSize_c w (some ⟨b, o, none⟩) xs.length c (fOf xs) (fOf_byt hW.bys) (fun _ => ⟨b, o, rfl, rd_u8s (hW.st hS).at_⟩) (by omega) hle) hS ?_
  refine WL.val (v_move rfl rfl) (.none rfl) rfl rfl ?_
  refine WL.val (v_extract rfl rfl rfl) (.none rfl) rfl rfl ?_
  refine WL.val (v_extract rfl rfl rfl) (.none rfl) rfl rfl ?_
  refine WL.alloc rfl zero_28 (.none rfl) rfl rfl ?_
  intro g5 hg5
  refine WL.val (v_assign rfl rfl) (.none rfl) rfl rfl ?_
  refine WL.storeW rfl rfl rfl rfl many_28 rfl rfl (.none rfl) rfl ?_
  refine WL.nil ?_
  refine WE.then_n ?_
  refine WC.seq ?_
  refine WC.seq ?_
  refine WC.region ?_
  refine WL.val (v_fieldAddr0 rfl rfl fld_28_0) (.none rfl) rfl rfl ?_
  refine WL.val (v_load1 rfl rfl one_3 (cellAt rfl)) (.none rfl) rfl rfl ?_
  refine WL.val ((v_neq rfl rfl rfl).f (by omega)) (.none rfl) rfl rfl ?_
  refine WL.nil ?_
  refine WE.then_n ?_
  refine WC.cond_f rfl ?_
  refine WC.skip ?_
  refine WE.then_n ?_
  refine WC.seq ?_
  refine WC.seq ?_
  refine WC.region ?_
  refine WL.val (v_move rfl rfl) (.none rfl) rfl rfl ?_
  refine WL.val (v_move rfl rfl) (.none rfl) rfl rfl ?_
  refine WL.val (v_len_slice rfl rfl Tryd.underlying22) (.none rfl) rfl rfl ?_
  refine WL.val ((v_neq rfl rfl rfl).t (hk)) (.none rfl) rfl rfl ?_
  refine WL.nil ?_
  refine WE.then_n ?_
  refine WC.cond_t rfl ?_
  refine WC.seq ?_
  refine WC.region ?_
  refine WL.val (v_build rfl rfl zero_53 plc_53 rfl) (.none rfl) rfl rfl ?_
  refine WL.val (v_move rfl rfl) (.none rfl) rfl rfl ?_
  refine WL.val ((v_slice_lh (lo := 16) (hi := 18) rfl rfl rfl rfl Tryd.underlying22 sz_5 rfl rfl (by omega) (by omega))) (.none rfl) rfl rfl ?_
  refine WL.call rfl rfl ck_40 (.none rfl) rfl rfl ?_
  intro w hS
  refine Calls.then (RFault_c w 1 2 (some ⟨b, sAddr o 16 c 1, none⟩) (18 - 16) (c - 16) (fun i => fOf xs (16 + i)) (fun _ => ⟨b, sAddr o 16 c 1, rfl, fun i hi => by
  have := ((hW.st hS).drop 16).get (i := i) (x := fOf xs (16 + i)) (by rw [List.getElem?_drop]; exact fOf_get (by omega))
  rwa [Nat.mul_one] at this⟩)) hS ?_
  refine WL.storeW rfl rfl rfl rfl many_53 rfl rfl (.none rfl) rfl ?_
  refine WL.storeW rfl rfl rfl rfl many_28 rfl rfl (.none rfl) rfl ?_
  refine WL.nil ?_
  refine WE.then_n ?_
  refine WC.ret ?_
  refine WE.then_ret ?_
  refine WE.ret2 (P := Tryd.prog) (.inl rfl) Tryd.results18 (resRow rfl many_53 rfl) (resRow rfl many_28 rfl) ?_
  exact fun w' h => RMsP.no e00 h
set_option maxHeartbeats 8000000 in
theorem RDecOk_c (w0 : World) (b o c : Nat) (xs : List Int) (hW : Win w0 b o c xs) (hn : xs.length ≤ 90000) (hs : sizeR xs.length (fOf xs) = ((xs.length : Int), 0, 0, ⟨#[]⟩)) (h19 : 19 ≤ xs.length) (h18 : 1 ≤ fOf xs 18 ∧ fOf xs 18 ≤ 4) (hle2 : leastI (fOf xs 18) ≤ xs.length) :
    Calls Tryd.prog 18 #[.slice (some ⟨b, o, none⟩) xs.length c] w0 fun e w' => RMsP w0 w' xs e := by
  have hle := hW.le
  obtain ⟨ys, hys⟩ : ∃ ys, ys = xs.drop 19 := ⟨_, rfl⟩
  have e00 : decM xs = bodyM (fOf xs 18) ys := by rw [hys]; unfold decM; rw [hs]; dsimp only; rw [if_neg (by simp), if_neg (by simp)]
  have hdl : ys.length = xs.length - 19 := by rw [hys]; exact List.length_drop ..
  have hlst : leastI (fOf xs 18) = if fOf xs 18 = 1 then 29 else if fOf xs 18 = 2 then 23 else if fOf xs 18 = 3 then 21 else 19 := by unfold leastI; repeat' split; all_goals first | rfl | omega
  have hBy : Bys ys := fun y hy => hW.bys y (by rw [hys] at hy; exact List.mem_of_mem_drop hy)
  have hb : ∀ i, 0 ≤ fOf ys i ∧ fOf ys i ≤ 255 := fun i => fOf_b hBy i
  have hfx : ∀ i, fOf ys i = fOf xs (19 + i) := fun i => by rw [hys]; exact fOf_drop ..
  have hg : ∀ i, 19 + i < xs.length → xs[19 + i]? = some (fOf ys i) := fun i hi => by rw [hfx]; exact fOf_get hi
  have hgc : ∀ (w : World) (L : List Ent) (i : Nat), 19 + i < xs.length → St (fun _ => False) w0 w L → w.cell? ⟨b, o + (19 + i) * 1, none⟩ = some (.int .u8 (fOf ys i)) := fun w L i hi hS => (hW.st hS).get (hg i hi)
  refine enter Tryd.func18 rfl Tryd.ntmps18 rfl (St.start (fun _ => False) w0) ?_
  refine WC.seq ?_
  refine WC.region ?_
  refine WL.alloc rfl zero_53 (.none rfl) rfl rfl ?_
  intro g2 hg2
  refine WL.alloc rfl zero_28 (.none rfl) rfl rfl ?_
  intro g3 hg3
  refine WL.nil ?_
  refine WE.then_n ?_
  refine WC.seq ?_
  refine WC.region ?_
  refine WL.val (v_move rfl rfl) (.none rfl) rfl rfl ?_
  refine WL.call rfl rfl ck_15 (.none rfl) rfl rfl ?_
  intro w hS
  refine Calls.then (by rw [show (Ending.returned (.tuple #[.int .i64 xs.length, .agg (fltL 0 0 ⟨#[]⟩).toArray])) = .returned (sizeV (sizeR xs.length (fOf xs))) by rw [hs]; rfl]; exact RSize_c w (some ⟨b, o, none⟩) xs.length c (fOf xs) (fOf_byt hW.bys) (fun _ => ⟨b, o, rfl, rd_u8s (hW.st hS).at_⟩) (by omega) hle) hS ?_
  refine WL.val (v_move rfl rfl) (.none rfl) rfl rfl ?_
  refine WL.val (v_extract rfl rfl rfl) (.none rfl) rfl rfl ?_
  refine WL.val (v_extract rfl rfl rfl) (.none rfl) rfl rfl ?_
  refine WL.alloc rfl zero_28 (.none rfl) rfl rfl ?_
  intro g5 hg5
  refine WL.val (v_assign rfl rfl) (.none rfl) rfl rfl ?_
  refine WL.storeW rfl rfl rfl rfl many_28 rfl rfl (.none rfl) rfl ?_
  refine WL.nil ?_
  refine WE.then_n ?_
  refine WC.seq ?_
  refine WC.seq ?_
  refine WC.region ?_
  refine WL.val (v_fieldAddr0 rfl rfl fld_28_0) (.none rfl) rfl rfl ?_
  refine WL.val (v_load1 rfl rfl one_3 (cellAt rfl)) (.none rfl) rfl rfl ?_
  refine WL.val ((v_neq rfl rfl rfl).f (by omega)) (.none rfl) rfl rfl ?_
  refine WL.nil ?_
  refine WE.then_n ?_
  refine WC.cond_f rfl ?_
  refine WC.skip ?_
  refine WE.then_n ?_
  refine WC.seq ?_
  refine WC.seq ?_
  refine WC.region ?_
  refine WL.val (v_move rfl rfl) (.none rfl) rfl rfl ?_
  refine WL.val (v_move rfl rfl) (.none rfl) rfl rfl ?_
  refine WL.val (v_len_slice rfl rfl Tryd.underlying22) (.none rfl) rfl rfl ?_
  refine WL.val ((v_neq rfl rfl rfl).f (by omega)) (.none rfl) rfl rfl ?_
  refine WL.nil ?_
  refine WE.then_n ?_
  refine WC.cond_f rfl ?_
  refine WC.skip ?_
  refine WE.then_n ?_
  refine WC.seq ?_
  refine WC.region ?_
  refine WL.val (v_move rfl rfl) (.none rfl) rfl rfl ?_
  refine WL.val (v_indexAddr (lo := 18) rfl rfl rfl Tryd.underlying22 sz_5 rfl (by omega)) (.none rfl) rfl rfl ?_
  refine WL.val (v_load1 rfl rfl one_5 (cellOld (fun h => h) (hW.get (fOf_get (by omega))))) (.none rfl) rfl rfl ?_
  refine WL.val (v_conv rfl rfl Tryd.underlying3 Tryd.underlying5 (w_i64 (by omega) (by omega))) (.none rfl) rfl rfl ?_
  refine WL.val (v_build rfl rfl zero_53 plc_53 rfl) (.none rfl) rfl rfl ?_
  refine WL.alloc rfl zero_53 (.none rfl) rfl rfl ?_
  intro g6 hg6
  refine WL.storeW rfl rfl rfl rfl many_53 rfl rfl (.none rfl) rfl ?_
  refine WL.as (L' := .row g6 (MsL.zero (fOf xs 18)).rcells :: .row g5 (fltL 0 0 ⟨#[]⟩) :: .row g3 (fltL 0 0 ⟨#[]⟩) :: [.row g2 (MsL.zero 0).rcells]) rfl ?_
  refine WL.nil ?_
  refine WE.then_n ?_
  refine WC.seq ?_
  refine WC.seq ?_
  refine WC.region ?_
  refine WL.val (v_fieldAddr0 rfl rfl fld_53_0) (.none rfl) rfl rfl ?_
  refine WL.val (v_load1 rfl rfl one_3 (cellAt (v := .int .i64 (fOf xs 18)) rfl)) (.none rfl) rfl rfl ?_
  refine WL.test (v_eql rfl rfl rfl) (.none rfl) rfl rfl (fun h42 => ?_) (fun h42 => ?_)
  ·
   refine WL.nil ?_
   refine WE.then_n ?_
   refine WC.cond_t rfl ?_
   refine WC.seq ?_
   refine WC.orders mixed ?_
   refine WR.first (g := 8) [0, 1, 5, 6] (by kernel_rfl) (by kernel_rfl) ?_
   have hl29 : 29 ≤ xs.length := (by rw [hlst, if_pos h42] at hle2; omega)
   have hno : ∀ s d, openR ys = .inr (s, d) → decM xs = .inr (2, s, d) := (fun s d h => by rw [e00]; unfold bodyM; rw [if_pos h42, h])
   have hid : idB ys = fOf ys 5 * 16777216 + fOf ys 6 * 65536 + fOf ys 7 * 256 + fOf ys 8 := addrI_of (ys := ys) 5
   have b1 := hb 1
   have b2 := hb 2
   have b3 := hb 3
   have b4 := hb 4
   have b5 := hb 5
   have b6 := hb 6
   have b7 := hb 7
   have b8 := hb 8
   have b9 := hb 9
   refine WP.val (v_move rfl rfl) (.none rfl) rfl rfl ?_
   refine WP.val (v_indexAddr (lo := 20) rfl rfl rfl Tryd.underlying22 sz_5 rfl (by omega)) (.none rfl) rfl rfl ?_
   refine WP.val (v_move rfl rfl) (.none rfl) rfl rfl ?_
   refine WP.val (v_indexAddr (lo := 21) rfl rfl rfl Tryd.underlying22 sz_5 rfl (by omega)) (.none rfl) rfl rfl ?_
   refine WP.nil ?_
   refine WR.read (g := 1) [2, 3, 4, 7, 8, 9, 10] (by kernel_rfl) (by kernel_rfl) (by kernel_rfl) (by kernel_rfl) rfl ?_
   refine WQ.val (v_load1 rfl rfl one_5 ((fun w hS => hgc w _ 1 (by omega) hS))) (.none rfl) rfl rfl ?_
   refine WQ.val (v_conv rfl rfl Tryd.underlying3 Tryd.underlying5 (w_i64 (by omega) (by omega))) (.none rfl) rfl rfl ?_
   refine WQ.val (v_mul rfl rfl rfl (w_i64 (by omega) (by omega))) (.none rfl) rfl rfl ?_
   refine WQ.val (v_load1 rfl rfl one_5 ((fun w hS => hgc w _ 2 (by omega) hS))) (.none rfl) rfl rfl ?_
   refine WQ.val (v_conv rfl rfl Tryd.underlying3 Tryd.underlying5 (w_i64 (by omega) (by omega))) (.none rfl) rfl rfl ?_
   refine WQ.val (v_add rfl rfl rfl (w_i64 (by omega) (by omega))) (.none rfl) rfl rfl ?_
   refine WQ.val (v_fieldAddr0 rfl rfl fld_53_1) (.none rfl) rfl rfl ?_
   refine WQ.nilR ?_
   refine WR.ones (g := 0) [11] (by kernel_rfl) ?_
   refine WL.store1 rfl rfl rfl rfl one_3 (Nat.le_of_ble_eq_true rfl) (.none rfl) rfl ?_
   refine WL.nilR ?_
   refine WR.done (by kernel_rfl) ?_
   refine WE.then_n ?_
   refine WC.seq ?_
   refine WC.orders mixed ?_
   refine WR.first (g := 8) [0, 1, 5, 6] (by kernel_rfl) (by kernel_rfl) ?_
   refine WP.val (v_move rfl rfl) (.none rfl) rfl rfl ?_
   refine WP.val (v_indexAddr (lo := 22) rfl rfl rfl Tryd.underlying22 sz_5 rfl (by omega)) (.none rfl) rfl rfl ?_
   refine WP.val (v_move rfl rfl) (.none rfl) rfl rfl ?_
   refine WP.val (v_indexAddr (lo := 23) rfl rfl rfl Tryd.underlying22 sz_5 rfl (by omega)) (.none rfl) rfl rfl ?_
   refine WP.nil ?_
   refine WR.read (g := 1) [2, 3, 4, 7, 8, 9, 10] (by kernel_rfl) (by kernel_rfl) (by kernel_rfl) (by kernel_rfl) rfl ?_
   refine WQ.val (v_load1 rfl rfl one_5 ((fun w hS => hgc w _ 3 (by omega) hS))) (.none rfl) rfl rfl ?_
   refine WQ.val (v_conv rfl rfl Tryd.underlying3 Tryd.underlying5 (w_i64 (by omega) (by omega))) (.none rfl) rfl rfl ?_
   refine WQ.val (v_mul rfl rfl rfl (w_i64 (by omega) (by omega))) (.none rfl) rfl rfl ?_
   refine WQ.val (v_load1 rfl rfl one_5 ((fun w hS => hgc w _ 4 (by omega) hS))) (.none rfl) rfl rfl ?_
   refine WQ.val (v_conv rfl rfl Tryd.underlying3 Tryd.underlying5 (w_i64 (by omega) (by omega))) (.none rfl) rfl rfl ?_
   refine WQ.val (v_add rfl rfl rfl (w_i64 (by omega) (by omega))) (.none rfl) rfl rfl ?_
   refine WQ.val (v_fieldAddr0 rfl rfl fld_53_2) (.none rfl) rfl rfl ?_
   refine WQ.nilR ?_
   refine WR.ones (g := 0) [11] (by kernel_rfl) ?_
   refine WL.store1 rfl rfl rfl rfl one_3 (Nat.le_of_ble_eq_true rfl) (.none rfl) rfl ?_
   refine WL.nilR ?_
   refine WR.done (by kernel_rfl) ?_
   refine WE.then_n ?_
   refine WC.seq ?_
   refine WC.orders mixed ?_
   refine WR.first (g := 16) [0, 1, 5, 6, 11, 12, 17, 18] (by kernel_rfl) (by kernel_rfl) ?_
   refine WP.val (v_move rfl rfl) (.none rfl) rfl rfl ?_
   refine WP.val (v_indexAddr (lo := 24) rfl rfl rfl Tryd.underlying22 sz_5 rfl (by omega)) (.none rfl) rfl rfl ?_
   refine WP.val (v_move rfl rfl) (.none rfl) rfl rfl ?_
   refine WP.val (v_indexAddr (lo := 25) rfl rfl rfl Tryd.underlying22 sz_5 rfl (by omega)) (.none rfl) rfl rfl ?_
   refine WP.val (v_move rfl rfl) (.none rfl) rfl rfl ?_
   refine WP.val (v_indexAddr (lo := 26) rfl rfl rfl Tryd.underlying22 sz_5 rfl (by omega)) (.none rfl) rfl rfl ?_
   refine WP.val (v_move rfl rfl) (.none rfl) rfl rfl ?_
   refine WP.val (v_indexAddr (lo := 27) rfl rfl rfl Tryd.underlying22 sz_5 rfl (by omega)) (.none rfl) rfl rfl ?_
   refine WP.nil ?_
   refine WR.read (g := 1) [2, 3, 4, 7, 8, 9, 10, 13, 14, 15, 16, 19, 20, 21, 22] (by kernel_rfl) (by kernel_rfl) (by kernel_rfl) (by kernel_rfl) rfl ?_
   refine WQ.val (v_load1 rfl rfl one_5 ((fun w hS => hgc w _ 5 (by omega) hS))) (.none rfl) rfl rfl ?_
   refine WQ.val (v_conv rfl rfl Tryd.underlying33 Tryd.underlying5 (by first | exact w_u32 (by omega) (by omega) | exact w_u32m _)) (.none rfl) rfl rfl ?_
   refine WQ.val (v_mul rfl rfl rfl (w_u32 (by omega) (by omega))) (.none rfl) rfl rfl ?_
   refine WQ.val (v_load1 rfl rfl one_5 ((fun w hS => hgc w _ 6 (by omega) hS))) (.none rfl) rfl rfl ?_
   refine WQ.val (v_conv rfl rfl Tryd.underlying33 Tryd.underlying5 (by first | exact w_u32 (by omega) (by omega) | exact w_u32m _)) (.none rfl) rfl rfl ?_
   refine WQ.val (v_mul rfl rfl rfl (w_u32 (by omega) (by omega))) (.none rfl) rfl rfl ?_
   refine WQ.val (v_add rfl rfl rfl (w_u32 (by omega) (by omega))) (.none rfl) rfl rfl ?_
   refine WQ.val (v_load1 rfl rfl one_5 ((fun w hS => hgc w _ 7 (by omega) hS))) (.none rfl) rfl rfl ?_
   refine WQ.val (v_conv rfl rfl Tryd.underlying33 Tryd.underlying5 (by first | exact w_u32 (by omega) (by omega) | exact w_u32m _)) (.none rfl) rfl rfl ?_
   refine WQ.val (v_mul rfl rfl rfl (w_u32 (by omega) (by omega))) (.none rfl) rfl rfl ?_
   refine WQ.val (v_add rfl rfl rfl (w_u32 (by omega) (by omega))) (.none rfl) rfl rfl ?_
   refine WQ.val (v_load1 rfl rfl one_5 ((fun w hS => hgc w _ 8 (by omega) hS))) (.none rfl) rfl rfl ?_
   refine WQ.val (v_conv rfl rfl Tryd.underlying33 Tryd.underlying5 (by first | exact w_u32 (by omega) (by omega) | exact w_u32m _)) (.none rfl) rfl rfl ?_
   refine WQ.val (v_add rfl rfl rfl (w_u32 (by omega) (by omega))) (.none rfl) rfl rfl ?_
   rw [show fOf ys 5 * 16777216 + fOf ys 6 * 65536 + fOf ys 7 * 256 + fOf ys 8 = idB ys from hid.symm]
   refine WQ.val (v_fieldAddr0 rfl rfl fld_53_3) (.none rfl) rfl rfl ?_
   refine WQ.nilR ?_
   refine WR.ones (g := 0) [23] (by kernel_rfl) ?_
   refine WL.store1 rfl rfl rfl rfl one_33 (Nat.le_of_ble_eq_true rfl) (.none rfl) rfl ?_
   refine WL.as (L' := .row g6 (MsL.opened (fOf xs 18) ys none 0 []).rcells :: .row g5 (fltL 0 0 ⟨#[]⟩) :: .row g3 (fltL 0 0 ⟨#[]⟩) :: [.row g2 (MsL.zero 0).rcells]) rfl ?_
   refine WL.nilR ?_
   refine WR.done (by kernel_rfl) ?_
   refine WE.then_n ?_
   refine WC.seq ?_
   refine WC.seq ?_
   refine WC.region ?_
   refine WL.val (v_move rfl rfl) (.none rfl) rfl rfl ?_
   refine WL.val (v_indexAddr (lo := 19) rfl rfl rfl Tryd.underlying22 sz_5 rfl (by omega)) (.none rfl) rfl rfl ?_
   refine WL.val (v_load1 rfl rfl one_5 ((fun w hS => hgc w _ 0 (by omega) hS))) (.none rfl) rfl rfl ?_
   refine WL.test (v_neq rfl rfl rfl) (.none rfl) rfl rfl (fun h91 => ?_) (fun h91 => ?_)
   ·
    refine WL.nil ?_
    refine WE.then_n ?_
    refine WC.cond_t rfl ?_
    refine WC.seq ?_
    refine WC.region ?_
    refine WL.val (v_build rfl rfl zero_53 plc_53 rfl) (.none rfl) rfl rfl ?_
    refine WL.buildSlice rfl rfl Tryd.underlying22 sz_5 zero_5 rfl (by decide) rfl (.none rfl) rfl rfl ?_
    intro g93 hg93
    refine WL.call rfl rfl ck_40 (.none rfl) rfl rfl ?_
    intro w hS
    refine Calls.then (RFault_c w 2 1 (some ⟨g93, 0, none⟩) 2 2 (fun i => if i = 0 then 0 else 4) (fun _ => ⟨g93, 0, rfl, fun i hi => by
    have : i = 0 ∨ i = 1 := (by omega)
    rcases this with rfl | rfl
    · exact hS.cell (g := g93) rfl
    · exact hS.cell (g := g93) rfl⟩)) hS ?_
    refine WL.storeW rfl rfl rfl rfl many_53 rfl rfl (.none rfl) rfl ?_
    refine WL.storeW rfl rfl rfl rfl many_28 rfl rfl (.none rfl) rfl ?_
    refine WL.nil ?_
    refine WE.then_n ?_
    refine WC.ret ?_
    refine WE.then_ret ?_
    refine WE.then_ret ?_
    refine WE.ret2 (P := Tryd.prog) (.inl rfl) Tryd.results18 (resRow rfl many_53 rfl) (resRow rfl many_28 rfl) ?_
    exact fun w' h => RMsP.no (hno _ _ (by unfold openR; rw [if_pos h91]; try rfl)) h
   ·
    refine WL.nil ?_
    refine WE.then_n ?_
    refine WC.cond_f rfl ?_
    refine WC.skip ?_
    refine WE.then_n ?_
    refine WC.seq ?_
    refine WC.seq ?_
    refine WC.region ?_
    refine WL.val (v_fieldAddr0 rfl rfl fld_53_1) (.none rfl) rfl rfl ?_
    refine WL.val (v_load1 rfl rfl one_3 (cellAt (v := .int .i64 (asnB ys)) rfl)) (.none rfl) rfl rfl ?_
    refine WL.test (v_eql rfl rfl rfl) (.none rfl) rfl rfl (fun h97 => ?_) (fun h97 => ?_)
    ·
     refine WL.nil ?_
     refine WE.then_n ?_
     refine WC.cond_t rfl ?_
     refine WC.seq ?_
     refine WC.region ?_
     refine WL.val (v_build rfl rfl zero_53 plc_53 rfl) (.none rfl) rfl rfl ?_
     refine WL.call rfl rfl ck_40 (.none rfl) rfl rfl ?_
     intro w hS
     refine Calls.then (RFault_c w 2 2 none 0 0 (fun _ => 0) (RdO.nil w _)) hS ?_
     refine WL.storeW rfl rfl rfl rfl many_53 rfl rfl (.none rfl) rfl ?_
     refine WL.storeW rfl rfl rfl rfl many_28 rfl rfl (.none rfl) rfl ?_
     refine WL.nil ?_
     refine WE.then_n ?_
     refine WC.ret ?_
     refine WE.then_ret ?_
     refine WE.then_ret ?_
     refine WE.ret2 (P := Tryd.prog) (.inl rfl) Tryd.results18 (resRow rfl many_53 rfl) (resRow rfl many_28 rfl) ?_
     exact fun w' h => RMsP.no (hno _ _ (by unfold openR; rw [if_neg h91, if_pos h97]; try rfl)) h
    ·
     refine WL.nil ?_
     refine WE.then_n ?_
     refine WC.cond_f rfl ?_
     refine WC.skip ?_
     refine WE.then_n ?_
     refine WC.cut (fun _ : Unit => [(6, .pointer (some ⟨g6, 0, none⟩)), (3, .pointer (some ⟨g3, 0, none⟩)), (2, .pointer (some ⟨g2, 0, none⟩)), (0, .slice (some ⟨b, o, none⟩) xs.length c)]) (fun _ => .row g6 (MsL.opened (fOf xs 18) ys none 0 []).rcells :: .row g5 (fltL 0 0 ⟨#[]⟩) :: .row g3 (fltL 0 0 ⟨#[]⟩) :: [.row g2 (MsL.zero 0).rcells]) (fun _ => fOf ys 0 = 4 ∧ asnB ys ≠ 0 ∧ ¬ (holdB ys = 1 ∨ holdB ys = 2)) ?_ ?_
     ·
      refine WC.seq ?_
      refine WC.region ?_
      refine WL.val (v_fieldAddr0 rfl rfl fld_53_2) (.none rfl) rfl rfl ?_
      refine WL.val (v_load1 rfl rfl one_3 (cellAt (v := .int .i64 (holdB ys)) rfl)) (.none rfl) rfl rfl ?_
      refine WL.test (v_gtr rfl rfl rfl) (.none rfl) rfl rfl (fun h102 => ?_) (fun h102 => ?_)
      ·
       refine WL.val (v_move rfl rfl) (.none rfl) rfl rfl ?_
       refine WL.val (v_fieldAddr0 rfl rfl fld_53_2) (.some rfl rfl rfl) rfl rfl ?_
       refine WL.val (v_load1 rfl rfl one_3 (cellAt (v := .int .i64 (holdB ys)) rfl)) (.some rfl rfl rfl) rfl rfl ?_
       refine WL.test (v_lss rfl rfl rfl) (.some rfl rfl rfl) rfl rfl (fun h106 => ?_) (fun h106 => ?_)
       ·
        refine WL.val (v_pick_t rfl rfl rfl) (.none rfl) rfl rfl ?_
        refine WL.nil ?_
        refine WE.then_n ?_
        refine WC.cond_t rfl ?_
        refine WC.seq ?_
        refine WC.region ?_
        refine WL.val (v_build rfl rfl zero_53 plc_53 rfl) (.none rfl) rfl rfl ?_
        refine WL.call rfl rfl ck_40 (.none rfl) rfl rfl ?_
        intro w hS
        refine Calls.then (RFault_c w 2 6 none 0 0 (fun _ => 0) (RdO.nil w _)) hS ?_
        refine WL.storeW rfl rfl rfl rfl many_53 rfl rfl (.none rfl) rfl ?_
        refine WL.storeW rfl rfl rfl rfl many_28 rfl rfl (.none rfl) rfl ?_
        refine WL.nil ?_
        refine WE.then_n ?_
        refine WC.ret ?_
        refine WE.then_ret ?_
        refine WE.then_ret ?_
        refine WE.ret2 (P := Tryd.prog) (.inl rfl) Tryd.results18 (resRow rfl many_53 rfl) (resRow rfl many_28 rfl) ?_
        exact fun w' h => RMsP.no (hno _ _ (by unfold openR; rw [if_neg h91, if_neg h97, if_pos (by omega)]; try rfl)) h
       ·
        refine WL.val (v_pick_t rfl rfl rfl) (.none rfl) rfl rfl ?_
        refine WL.nil ?_
        refine WE.then_n ?_
        refine WC.cond_f rfl ?_
        refine WC.skip ?_
        exact WE.mid () ⟨by omega, h97, by have hb0 : 0 ≤ holdB ys := (by unfold holdB; omega); omega⟩ (.cons rfl (.cons rfl (.cons rfl (.cons rfl .nil)))) (.refl _)
      ·
       refine WL.val (v_move rfl rfl) (.none rfl) rfl rfl ?_
       refine WL.skip rfl rfl rfl rfl rfl rfl ?_
       refine WL.skip rfl rfl rfl rfl rfl rfl ?_
       refine WL.skip rfl rfl rfl rfl rfl rfl ?_
       refine WL.val (v_pick_f rfl rfl rfl) (.none rfl) rfl rfl ?_
       refine WL.nil ?_
       refine WE.then_n ?_
       refine WC.cond_f rfl ?_
       refine WC.skip ?_
       exact WE.mid () ⟨by omega, h97, by have hb0 : 0 ≤ holdB ys := (by unfold holdB; omega); omega⟩ (.cons rfl (.cons rfl (.cons rfl (.cons rfl .nil)))) (.refl _)
     ·
      rintro _ ⟨hf0, hf1, hf2⟩
      have h91 : ¬ fOf ys 0 ≠ 4 := (by omega)
      refine WC.seq ?_
      refine WC.seq ?_
      refine WC.region ?_
      refine WL.val (v_fieldAddr0 rfl rfl fld_53_3) (.none rfl) rfl rfl ?_
      refine WL.val (v_load1 rfl rfl one_33 (cellAt (v := .int .u32 (idB ys)) rfl)) (.none rfl) rfl rfl ?_
      refine WL.test (v_eql rfl rfl rfl) (.none rfl) rfl rfl (fun h112 => ?_) (fun h112 => ?_)
      ·
       refine WL.nil ?_
       refine WE.then_n ?_
       refine WC.cond_t rfl ?_
       refine WC.seq ?_
       refine WC.region ?_
       refine WL.val (v_build rfl rfl zero_53 plc_53 rfl) (.none rfl) rfl rfl ?_
       refine WL.call rfl rfl ck_40 (.none rfl) rfl rfl ?_
       intro w hS
       refine Calls.then (RFault_c w 2 3 none 0 0 (fun _ => 0) (RdO.nil w _)) hS ?_
       refine WL.storeW rfl rfl rfl rfl many_53 rfl rfl (.none rfl) rfl ?_
       refine WL.storeW rfl rfl rfl rfl many_28 rfl rfl (.none rfl) rfl ?_
       refine WL.nil ?_
       refine WE.then_n ?_
       refine WC.ret ?_
       refine WE.then_ret ?_
       refine WE.then_ret ?_
       refine WE.ret2 (P := Tryd.prog) (.inl rfl) Tryd.results18 (resRow rfl many_53 rfl) (resRow rfl many_28 rfl) ?_
       exact fun w' h => RMsP.no (hno _ _ (by unfold openR; rw [if_neg h91, if_neg hf1, if_neg hf2, if_pos h112]; try rfl)) h
      ·
       refine WL.nil ?_
       refine WE.then_n ?_
       refine WC.cond_f rfl ?_
       refine WC.skip ?_
       refine WE.then_n ?_
       refine WC.seq ?_
       refine WC.seq ?_
       refine WC.region ?_
       refine WL.val (v_move rfl rfl) (.none rfl) rfl rfl ?_
       refine WL.val (v_indexAddr (lo := 28) rfl rfl rfl Tryd.underlying22 sz_5 rfl (by omega)) (.none rfl) rfl rfl ?_
       refine WL.val (v_load1 rfl rfl one_5 ((fun w hS => hgc w _ 9 (by omega) hS))) (.none rfl) rfl rfl ?_
       refine WL.val (v_conv rfl rfl Tryd.underlying3 Tryd.underlying5 (w_i64 (by omega) (by omega))) (.none rfl) rfl rfl ?_
       refine WL.val (v_move rfl rfl) (.none rfl) rfl rfl ?_
       refine WL.val (v_len_slice rfl rfl Tryd.underlying22) (.none rfl) rfl rfl ?_
       refine WL.val (v_sub rfl rfl rfl (w_i64 (by omega) (by omega))) (.none rfl) rfl rfl ?_
       refine WL.test (v_neq rfl rfl rfl) (.none rfl) rfl rfl (fun h122 => ?_) (fun h122 => ?_)
       ·
        refine WL.nil ?_
        refine WE.then_n ?_
        refine WC.cond_t rfl ?_
        refine WC.seq ?_
        refine WC.region ?_
        refine WL.val (v_build rfl rfl zero_53 plc_53 rfl) (.none rfl) rfl rfl ?_
        refine WL.call rfl rfl ck_40 (.none rfl) rfl rfl ?_
        intro w hS
        refine Calls.then (RFault_c w 2 0 none 0 0 (fun _ => 0) (RdO.nil w _)) hS ?_
        refine WL.storeW rfl rfl rfl rfl many_53 rfl rfl (.none rfl) rfl ?_
        refine WL.storeW rfl rfl rfl rfl many_28 rfl rfl (.none rfl) rfl ?_
        refine WL.nil ?_
        refine WE.then_n ?_
        refine WC.ret ?_
        refine WE.then_ret ?_
        refine WE.then_ret ?_
        refine WE.ret2 (P := Tryd.prog) (.inl rfl) Tryd.results18 (resRow rfl many_53 rfl) (resRow rfl many_28 rfl) ?_
        exact fun w' h => RMsP.no (hno _ _ (by unfold openR; rw [if_neg h91, if_neg hf1, if_neg hf2, if_neg h112, if_pos (by rw [List.length_drop]; omega)]; try rfl)) h
       ·
        refine WL.nil ?_
        refine WE.then_n ?_
        refine WC.cond_f rfl ?_
        refine WC.skip ?_
        refine WE.then_n ?_
        refine WC.seq ?_
        refine WC.region ?_
        refine WL.val (v_assign rfl rfl) (.none rfl) rfl rfl ?_
        refine WL.nil ?_
        refine WE.then_n ?_
        refine WC.block ?_
        refine WC.loop (fun y : RoS => [(7, .int .i64 y.k), (6, .pointer (some ⟨g6, 0, none⟩)), (3, .pointer (some ⟨g3, 0, none⟩)), (2, .pointer (some ⟨g2, 0, none⟩)), (0, .slice (some ⟨b, o, none⟩) xs.length c)]) (fun y => y.E ++ (y.KO ++ (.row g6 (MsL.opened (fOf xs 18) ys y.ad y.kc y.cs).rcells :: .row g5 (fltL 0 0 ⟨#[]⟩) :: .row g3 (fltL 0 0 ⟨#[]⟩) :: [.row g2 (MsL.zero 0).rcells]))) (fun y => 29 ≤ y.k ∧ y.k ≤ xs.length ∧ y.cs.length ≤ y.k ∧ openR ys = (match optsR (y.cs.map capD) (xs.drop y.k) with | .inl cs => .inl cs | .inr s => .inr (s, ⟨#[]⟩)) ∧ Vec 2 y.ad y.cs.length y.kc (capsL y.cs) y.E ∧ ∀ c ∈ y.cs, CapOwn y.KO c) (fun y => xs.length - y.k) ⟨29, [], none, 0, [], []⟩ ⟨Nat.le_refl _, hl29, Nat.zero_le _, by
        dsimp only
        unfold openR
        rw [if_neg h91, if_neg hf1, if_neg hf2, if_neg h112, if_neg (by rw [List.length_drop]; omega), show xs.drop 29 = ys.drop 10 by rw [hys, List.drop_drop]]
        rw [List.map_nil]
        cases optsR [] (ys.drop 10) <;> rfl, Vec.nil 2, fun _ h => by cases h⟩ (.cons rfl (.cons rfl (.cons rfl (.cons rfl (.cons rfl .nil))))) (.refl _) ?_
        rintro ⟨k, cs, ad, kc, E, KO⟩ ⟨hk29, hk, hcl, hop, hV, hO⟩
        dsimp only at hk29 hk hcl hop hV hO
        dsimp only
        have hkl : (xs.drop k).length = xs.length - k := List.length_drop ..
        have hbk1 := fOf_b hW.bys (k + 1)
        refine WC.seq ?_
        refine WC.seq ?_
        refine WC.region ?_
        refine WL.val (v_move rfl rfl) (.none rfl) rfl rfl ?_
        refine WL.val (v_move rfl rfl) (.none rfl) rfl rfl ?_
        refine WL.val (v_len_slice rfl rfl Tryd.underlying22) (.none rfl) rfl rfl ?_
        refine WL.test (v_lss rfl rfl rfl) (.none rfl) rfl rfl (fun h128 => ?_) (fun h128 => ?_)
        ·
         refine WL.nil ?_
         refine WE.then_n ?_
         refine WC.cond_t rfl ?_
         refine WC.skip ?_
         refine WE.then_n ?_
         refine WC.block ?_
         refine WC.seq ?_
         refine WC.seq ?_
         refine WC.region ?_
         refine WL.val (v_move rfl rfl) (.none rfl) rfl rfl ?_
         refine WL.val (v_add rfl rfl rfl (w_i64 (by omega) (by omega))) (.none rfl) rfl rfl ?_
         refine WL.val (v_move rfl rfl) (.none rfl) rfl rfl ?_
         refine WL.val (v_len_slice rfl rfl Tryd.underlying22) (.none rfl) rfl rfl ?_
         refine WL.test (v_gtr rfl rfl rfl) (.none rfl) rfl rfl (fun h133 => ?_) (fun h133 => ?_)
         ·
          refine WL.val (v_move rfl rfl) (.none rfl) rfl rfl ?_
          refine WL.skip rfl rfl rfl rfl rfl rfl ?_
          refine WL.skip rfl rfl rfl rfl rfl rfl ?_
          refine WL.skip rfl rfl rfl rfl rfl rfl ?_
          refine WL.skip rfl rfl rfl rfl rfl rfl ?_
          refine WL.skip rfl rfl rfl rfl rfl rfl ?_
          refine WL.skip rfl rfl rfl rfl rfl rfl ?_
          refine WL.skip rfl rfl rfl rfl rfl rfl ?_
          refine WL.skip rfl rfl rfl rfl rfl rfl ?_
          refine WL.skip rfl rfl rfl rfl rfl rfl ?_
          refine WL.skip rfl rfl rfl rfl rfl rfl ?_
          refine WL.skip rfl rfl rfl rfl rfl rfl ?_
          refine WL.skip rfl rfl rfl rfl rfl rfl ?_
          refine WL.val (v_pick_t rfl rfl rfl) (.none rfl) rfl rfl ?_
          refine WL.nil ?_
          refine WE.then_n ?_
          refine WC.cond_t rfl ?_
          refine WC.seq ?_
          refine WC.region ?_
          refine WL.val (v_build rfl rfl zero_53 plc_53 rfl) (.none rfl) rfl rfl ?_
          refine WL.call rfl rfl ck_40 (.none rfl) rfl rfl ?_
          intro w hS
          refine Calls.then (RFault_c w 2 0 none 0 0 (fun _ => 0) (RdO.nil w _)) hS ?_
          refine WL.storeW rfl rfl rfl rfl many_53 rfl rfl (.none rfl) rfl ?_
          refine WL.storeW rfl rfl rfl rfl many_28 rfl rfl (.none rfl) rfl ?_
          refine WL.nil ?_
          refine WE.then_n ?_
          refine WC.ret ?_
          refine WE.then_ret ?_
          refine WE.block_ret ?_
          refine WE.then_ret ?_
          refine WE.block_ret ?_
          refine WE.then_ret ?_
          refine WE.ret2 (P := Tryd.prog) (.inl rfl) Tryd.results18 (resRow rfl many_53 rfl) (resRow rfl many_28 rfl) ?_
          exact fun w' h => RMsP.no (hno _ _ (by rw [hop, optsR_bad _ (by omega) (.inl (by omega))]; try rfl)) h
         ·
          refine WL.val (v_move rfl rfl) (.none rfl) rfl rfl ?_
          refine WL.val (v_move rfl rfl) (.some rfl rfl rfl) rfl rfl ?_
          refine WL.val (v_add rfl rfl rfl (w_i64 (by omega) (by omega))) (.some rfl rfl rfl) rfl rfl ?_
          refine WL.val (v_move rfl rfl) (.some rfl rfl rfl) rfl rfl ?_
          refine WL.val (v_move rfl rfl) (.some rfl rfl rfl) rfl rfl ?_
          refine WL.val (v_add rfl rfl rfl (show _ = ((k + 1 : Nat) : Int) from (w_i64 (by omega) (by omega)).trans (by omega))) (.some rfl rfl rfl) rfl rfl ?_
          refine WL.val (v_indexAddr (lo := k + 1) rfl rfl rfl Tryd.underlying22 sz_5 (by omega) (by omega)) (.some rfl rfl rfl) rfl rfl ?_
          refine WL.val (v_load1 rfl rfl one_5 (cellOld (fun h => h) (hW.get (fOf_get (by omega))))) (.some rfl rfl rfl) rfl rfl ?_
          refine WL.val (v_conv rfl rfl Tryd.underlying3 Tryd.underlying5 (w_i64 (by omega) (by omega))) (.some rfl rfl rfl) rfl rfl ?_
          refine WL.val (v_add rfl rfl rfl (w_i64 (by omega) (by omega))) (.some rfl rfl rfl) rfl rfl ?_
          refine WL.val (v_move rfl rfl) (.some rfl rfl rfl) rfl rfl ?_
          refine WL.val (v_len_slice rfl rfl Tryd.underlying22) (.some rfl rfl rfl) rfl rfl ?_
          refine WL.test (v_gtr rfl rfl rfl) (.some rfl rfl rfl) rfl rfl (fun h146 => ?_) (fun h146 => ?_)
          ·
           refine WL.val (v_pick_f rfl rfl rfl) (.none rfl) rfl rfl ?_
           refine WL.nil ?_
           refine WE.then_n ?_
           refine WC.cond_t rfl ?_
           refine WC.seq ?_
           refine WC.region ?_
           refine WL.val (v_build rfl rfl zero_53 plc_53 rfl) (.none rfl) rfl rfl ?_
           refine WL.call rfl rfl ck_40 (.none rfl) rfl rfl ?_
           intro w hS
           refine Calls.then (RFault_c w 2 0 none 0 0 (fun _ => 0) (RdO.nil w _)) hS ?_
           refine WL.storeW rfl rfl rfl rfl many_53 rfl rfl (.none rfl) rfl ?_
           refine WL.storeW rfl rfl rfl rfl many_28 rfl rfl (.none rfl) rfl ?_
           refine WL.nil ?_
           refine WE.then_n ?_
           refine WC.ret ?_
           refine WE.then_ret ?_
           refine WE.block_ret ?_
           refine WE.then_ret ?_
           refine WE.block_ret ?_
           refine WE.then_ret ?_
           refine WE.ret2 (P := Tryd.prog) (.inl rfl) Tryd.results18 (resRow rfl many_53 rfl) (resRow rfl many_28 rfl) ?_
           exact fun w' h => RMsP.no (hno _ _ (by rw [hop, optsR_bad _ (by omega) (.inr (by rw [fOf_drop]; omega))]; try rfl)) h
          ·
           refine WL.val (v_pick_f rfl rfl rfl) (.none rfl) rfl rfl ?_
           refine WL.nil ?_
           refine WE.then_n ?_
           refine WC.cond_f rfl ?_
           refine WC.skip ?_
           refine WE.then_n ?_
           refine WC.seq ?_
           refine WC.seq ?_
           refine WC.region ?_
           obtain ⟨x, y0, zs, hdr⟩ := two_of (ys := xs.drop k) (by omega)
           have ex : fOf xs k = x := (by have := fOf_drop xs k 0; rw [hdr] at this; exact this.symm)
           have ey : fOf xs (k + 1) = y0 := (by have := fOf_drop xs k 1; rw [hdr] at this; exact this.symm)
           rw [ey] at hbk1
           obtain ⟨n, hn0⟩ := Int.eq_ofNat_of_zero_le hbk1.1
           have hzs : zs = xs.drop (k + 2) := (by rw [← List.drop_drop, hdr]; rfl)
           have hzl : zs.length = xs.length - (k + 2) := (by rw [hzs]; exact List.length_drop ..)
           rw [hdr, hn0, optsR_cons, Int.toNat_natCast, if_neg (by omega)] at hop
           refine WL.val (v_move rfl rfl) (.none rfl) rfl rfl ?_
           refine WL.val (v_move rfl rfl) (.none rfl) rfl rfl ?_
           refine WL.val (v_indexAddr (lo := k) rfl rfl rfl Tryd.underlying22 sz_5 (by omega) (by omega)) (.none rfl) rfl rfl ?_
           refine WL.val (v_load1 rfl rfl one_5 (cellOld (fun h => h) (hW.get (fOf_get (by omega))))) (.none rfl) rfl rfl ?_
           refine WL.test (v_neq rfl rfl rfl) (.none rfl) rfl rfl (fun h154 => ?_) (fun h154 => ?_)
           skip
           ·
            refine WL.nil ?_
            refine WE.then_n ?_
            refine WC.cond_t rfl ?_
            refine WC.seq ?_
            refine WC.region ?_
            refine WL.val (v_build rfl rfl zero_53 plc_53 rfl) (.none rfl) rfl rfl ?_
            refine WL.call rfl rfl ck_40 (.none rfl) rfl rfl ?_
            intro w hS
            refine Calls.then (RFault_c w 2 4 none 0 0 (fun _ => 0) (RdO.nil w _)) hS ?_
            refine WL.storeW rfl rfl rfl rfl many_53 rfl rfl (.none rfl) rfl ?_
            refine WL.storeW rfl rfl rfl rfl many_28 rfl rfl (.none rfl) rfl ?_
            refine WL.nil ?_
            refine WE.then_n ?_
            refine WC.ret ?_
            refine WE.then_ret ?_
            refine WE.block_ret ?_
            refine WE.then_ret ?_
            refine WE.block_ret ?_
            refine WE.then_ret ?_
            refine WE.ret2 (P := Tryd.prog) (.inl rfl) Tryd.results18 (resRow rfl many_53 rfl) (resRow rfl many_28 rfl) ?_
            exact fun w' h => RMsP.no (hno _ _ (by rw [hop, if_pos (by omega)]; try rfl)) h
           ·
            refine WL.nil ?_
            refine WE.then_n ?_
            refine WC.cond_f rfl ?_
            refine WC.skip ?_
            refine WE.then_n ?_
            refine WC.seq ?_
            refine WC.region ?_
            rw [if_neg (by omega)] at hop
            refine WL.val (v_move rfl rfl) (.none rfl) rfl rfl ?_
            refine WL.val (v_add rfl rfl rfl (show _ = ((k + 2 : Nat) : Int) from (w_i64 (by omega) (by omega)).trans (by omega))) (.none rfl) rfl rfl ?_
            refine WL.val (v_move rfl rfl) (.none rfl) rfl rfl ?_
            refine WL.val (v_move rfl rfl) (.none rfl) rfl rfl ?_
            refine WL.val (v_add rfl rfl rfl (show _ = ((k + 1 : Nat) : Int) from (w_i64 (by omega) (by omega)).trans (by omega))) (.none rfl) rfl rfl ?_
            refine WL.val (v_indexAddr (lo := k + 1) rfl rfl rfl Tryd.underlying22 sz_5 (by omega) (by omega)) (.none rfl) rfl rfl ?_
            refine WL.val (v_load1 rfl rfl one_5 (cellOld (fun h => h) (hW.get (fOf_get (by omega))))) (.none rfl) rfl rfl ?_
            refine WL.val (v_conv rfl rfl Tryd.underlying3 Tryd.underlying5 (w_i64 (by omega) (by omega))) (.none rfl) rfl rfl ?_
            refine WL.val (v_add rfl rfl rfl (show _ = ((k + 2 + n : Nat) : Int) from (w_i64 (by omega) (by omega)).trans (by omega))) (.none rfl) rfl rfl ?_
            refine WL.val (v_assign rfl rfl) (.none rfl) rfl rfl ?_
            refine WL.nil ?_
            refine WE.then_n ?_
            refine WC.seq ?_
            refine WC.region ?_
            refine WL.val (v_move rfl rfl) (.none rfl) rfl rfl ?_
            refine WL.val (v_add rfl rfl rfl (show _ = ((k + 2 : Nat) : Int) from (w_i64 (by omega) (by omega)).trans (by omega))) (.none rfl) rfl rfl ?_
            refine WL.val (v_assign rfl rfl) (.none rfl) rfl rfl ?_
            refine WL.nil ?_
            refine WE.then_n ?_
            refine WC.block ?_
            refine WC.loop (fun y : RoS => [(8, .int .i64 ((k + 2 + n : Nat) : Int)), (7, .int .i64 y.k), (6, .pointer (some ⟨g6, 0, none⟩)), (3, .pointer (some ⟨g3, 0, none⟩)), (2, .pointer (some ⟨g2, 0, none⟩)), (0, .slice (some ⟨b, o, none⟩) xs.length c)]) (fun y => y.E ++ (y.KO ++ (.row g6 (MsL.opened (fOf xs 18) ys y.ad y.kc y.cs).rcells :: .row g5 (fltL 0 0 ⟨#[]⟩) :: .row g3 (fltL 0 0 ⟨#[]⟩) :: [.row g2 (MsL.zero 0).rcells]))) (fun y => k + 2 ≤ y.k ∧ y.k ≤ k + 2 + n ∧ y.cs.length ≤ y.k ∧ capsR (cs.map capD) (zs.take n) = capsR (y.cs.map capD) ((xs.drop y.k).take (k + 2 + n - y.k)) ∧ Vec 2 y.ad y.cs.length y.kc (capsL y.cs) y.E ∧ ∀ c ∈ y.cs, CapOwn y.KO c) (fun y => k + 2 + n - y.k) ⟨k + 2, cs, ad, kc, E, KO⟩ ⟨Nat.le_refl _, Nat.le_add_right _ _, by dsimp only; omega, by dsimp only; rw [hzs, Nat.add_sub_cancel_left], hV, hO⟩ (.cons rfl (.cons rfl (.cons rfl (.cons rfl (.cons rfl (.cons rfl .nil)))))) (.refl _) ?_
            rintro ⟨j, ds, ad2, kc2, E2, KO2⟩ ⟨hj2, hje, hdl2, hcap, hV2, hO2⟩
            dsimp only at hj2 hje hdl2 hcap hV2 hO2
            dsimp only
            have hjl : ((xs.drop j).take (k + 2 + n - j)).length = k + 2 + n - j := (by rw [List.length_take, List.length_drop]; omega)
            have hbj1 := fOf_b hW.bys (j + 1)
            have hbj0 := fOf_b hW.bys j
            refine WC.seq ?_
            refine WC.seq ?_
            refine WC.region ?_
            refine WL.val (v_move rfl rfl) (.none rfl) rfl rfl ?_
            refine WL.val (v_move rfl rfl) (.none rfl) rfl rfl ?_
            refine WL.test (v_lss rfl rfl rfl) (.none rfl) rfl rfl (fun h170 => ?_) (fun h170 => ?_)
            ·
             refine WL.nil ?_
             refine WE.then_n ?_
             refine WC.cond_t rfl ?_
             refine WC.skip ?_
             refine WE.then_n ?_
             refine WC.block ?_
             refine WC.seq ?_
             refine WC.seq ?_
             refine WC.region ?_
             refine WL.val (v_move rfl rfl) (.none rfl) rfl rfl ?_
             refine WL.val (v_add rfl rfl rfl (w_i64 (by omega) (by omega))) (.none rfl) rfl rfl ?_
             refine WL.val (v_move rfl rfl) (.none rfl) rfl rfl ?_
             refine WL.test (v_gtr rfl rfl rfl) (.none rfl) rfl rfl (fun h174 => ?_) (fun h174 => ?_)
             ·
              refine WL.val (v_move rfl rfl) (.none rfl) rfl rfl ?_
              refine WL.skip rfl rfl rfl rfl rfl rfl ?_
              refine WL.skip rfl rfl rfl rfl rfl rfl ?_
              refine WL.skip rfl rfl rfl rfl rfl rfl ?_
              refine WL.skip rfl rfl rfl rfl rfl rfl ?_
              refine WL.skip rfl rfl rfl rfl rfl rfl ?_
              refine WL.skip rfl rfl rfl rfl rfl rfl ?_
              refine WL.skip rfl rfl rfl rfl rfl rfl ?_
              refine WL.skip rfl rfl rfl rfl rfl rfl ?_
              refine WL.skip rfl rfl rfl rfl rfl rfl ?_
              refine WL.skip rfl rfl rfl rfl rfl rfl ?_
              refine WL.skip rfl rfl rfl rfl rfl rfl ?_
              refine WL.val (v_pick_t rfl rfl rfl) (.none rfl) rfl rfl ?_
              refine WL.nil ?_
              refine WE.then_n ?_
              refine WC.cond_t rfl ?_
              refine WC.seq ?_
              refine WC.region ?_
              refine WL.val (v_build rfl rfl zero_53 plc_53 rfl) (.none rfl) rfl rfl ?_
              refine WL.call rfl rfl ck_40 (.none rfl) rfl rfl ?_
              intro w hS
              refine Calls.then (RFault_c w 2 0 none 0 0 (fun _ => 0) (RdO.nil w _)) hS ?_
              refine WL.storeW rfl rfl rfl rfl many_53 rfl rfl (.none rfl) rfl ?_
              refine WL.storeW rfl rfl rfl rfl many_28 rfl rfl (.none rfl) rfl ?_
              refine WL.nil ?_
              refine WE.then_n ?_
              refine WC.ret ?_
              refine WE.then_ret ?_
              refine WE.block_ret ?_
              refine WE.then_ret ?_
              refine WE.block_ret ?_
              refine WE.block_ret ?_
              refine WE.then_ret ?_
              refine WE.block_ret ?_
              refine WE.then_ret ?_
              refine WE.ret2 (P := Tryd.prog) (.inl rfl) Tryd.results18 (resRow rfl many_53 rfl) (resRow rfl many_28 rfl) ?_
              exact fun w' h => RMsP.no (hno _ _ (by rw [hop, hcap, capsR_bad _ (by omega) (.inl (by omega))]; try rfl)) h
             ·
              refine WL.val (v_move rfl rfl) (.none rfl) rfl rfl ?_
              refine WL.val (v_move rfl rfl) (.some rfl rfl rfl) rfl rfl ?_
              refine WL.val (v_add rfl rfl rfl (w_i64 (by omega) (by omega))) (.some rfl rfl rfl) rfl rfl ?_
              refine WL.val (v_move rfl rfl) (.some rfl rfl rfl) rfl rfl ?_
              refine WL.val (v_move rfl rfl) (.some rfl rfl rfl) rfl rfl ?_
              refine WL.val (v_add rfl rfl rfl (show _ = ((j + 1 : Nat) : Int) from (w_i64 (by omega) (by omega)).trans (by omega))) (.some rfl rfl rfl) rfl rfl ?_
              refine WL.val (v_indexAddr (lo := j + 1) rfl rfl rfl Tryd.underlying22 sz_5 (by omega) (by omega)) (.some rfl rfl rfl) rfl rfl ?_
              refine WL.val (v_load1 rfl rfl one_5 (cellOld (fun h => h) (hW.get (fOf_get (by omega))))) (.some rfl rfl rfl) rfl rfl ?_
              refine WL.val (v_conv rfl rfl Tryd.underlying3 Tryd.underlying5 (w_i64 (by omega) (by omega))) (.some rfl rfl rfl) rfl rfl ?_
              refine WL.val (v_add rfl rfl rfl (w_i64 (by omega) (by omega))) (.some rfl rfl rfl) rfl rfl ?_
              refine WL.val (v_move rfl rfl) (.some rfl rfl rfl) rfl rfl ?_
              refine WL.test (v_gtr rfl rfl rfl) (.some rfl rfl rfl) rfl rfl (fun h186 => ?_) (fun h186 => ?_)
              ·
               refine WL.val (v_pick_f rfl rfl rfl) (.none rfl) rfl rfl ?_
               refine WL.nil ?_
               refine WE.then_n ?_
               refine WC.cond_t rfl ?_
               refine WC.seq ?_
               refine WC.region ?_
               refine WL.val (v_build rfl rfl zero_53 plc_53 rfl) (.none rfl) rfl rfl ?_
               refine WL.call rfl rfl ck_40 (.none rfl) rfl rfl ?_
               intro w hS
               refine Calls.then (RFault_c w 2 0 none 0 0 (fun _ => 0) (RdO.nil w _)) hS ?_
               refine WL.storeW rfl rfl rfl rfl many_53 rfl rfl (.none rfl) rfl ?_
               refine WL.storeW rfl rfl rfl rfl many_28 rfl rfl (.none rfl) rfl ?_
               refine WL.nil ?_
               refine WE.then_n ?_
               refine WC.ret ?_
               refine WE.then_ret ?_
               refine WE.block_ret ?_
               refine WE.then_ret ?_
               refine WE.block_ret ?_
               refine WE.block_ret ?_
               refine WE.then_ret ?_
               refine WE.block_ret ?_
               refine WE.then_ret ?_
               refine WE.ret2 (P := Tryd.prog) (.inl rfl) Tryd.results18 (resRow rfl many_53 rfl) (resRow rfl many_28 rfl) ?_
               exact fun w' h => RMsP.no (hno _ _ (by rw [hop, hcap, capsR_bad _ (by omega) (.inr (by rw [hjl, show fOf ((xs.drop j).take (k + 2 + n - j)) 1 = fOf xs (j + 1) by rw [← fOf_drop]; unfold fOf; rw [List.getD_eq_getElem?_getD, List.getD_eq_getElem?_getD, List.getElem?_take, if_pos (by omega)]]; omega))]; try rfl)) h
              ·
               refine WL.val (v_pick_f rfl rfl rfl) (.none rfl) rfl rfl ?_
               refine WL.nil ?_
               refine WE.then_n ?_
               refine WC.cond_f rfl ?_
               refine WC.skip ?_
               refine WE.then_n ?_
               refine WC.seq ?_
               refine WC.held ([]) mixed ?_
               refine WRH.first (g := 8) [0, 2, 3, 4, 5, 6, 8, 9, 10, 11, 12, 13, 14, 15, 16, 17, 18, 19, 20] (by kernel_rfl) (by kernel_rfl) (fun w hS => hS.sub (by repeat (first | exact List.Sublist.refl _ | exact List.nil_sublist _ | refine List.Sublist.cons _ ?_ | refine List.sublist_append_of_sublist_right ?_))) ?_
               obtain ⟨x3, y3, zs3, hdv⟩ := two_of (ys := (xs.drop j).take (k + 2 + n - j)) (by omega)
               have ft : ∀ i, i < k + 2 + n - j → fOf ((xs.drop j).take (k + 2 + n - j)) i = fOf xs (j + i) := (fun i hi => by rw [← fOf_drop]; unfold fOf; rw [List.getD_eq_getElem?_getD, List.getD_eq_getElem?_getD, List.getElem?_take, if_pos hi])
               have ex3 : fOf xs j = x3 := (by have := ft 0 (by omega); rw [hdv] at this; exact this.symm)
               have ey3 : fOf xs (j + 1) = y3 := (by have := ft 1 (by omega); rw [hdv] at this; exact this.symm)
               rw [ey3] at hbj1
               obtain ⟨n3, hn3⟩ := Int.eq_ofNat_of_zero_le hbj1.1
               have hz3 : zs3 = (xs.drop (j + 2)).take (k + 2 + n - (j + 2)) := (by
                 have h1 : ((xs.drop j).take (k + 2 + n - j)).drop 2 = zs3 := (by rw [hdv]; rfl)
                 rw [← h1, List.drop_take, List.drop_drop, show k + 2 + n - j - 2 = k + 2 + n - (j + 2) by omega])
               have hz3l : zs3.length = k + 2 + n - (j + 2) := (by rw [hz3, List.length_take, List.length_drop]; omega)
               rw [hdv, hn3, capsR_cons, Int.toNat_natCast, if_neg (by omega)] at hcap
               have hvt : (xs.take (j + 2 + n3)).drop (j + 2) = zs3.take n3 := (by rw [hz3, List.take_take, List.drop_take, Nat.min_eq_left (by omega), Nat.add_sub_cancel_left])
               have hvd : (xs.drop (j + 2 + n3)).take (k + 2 + n - (j + 2 + n3)) = zs3.drop n3 := (by rw [hz3, List.drop_take, List.drop_drop, show k + 2 + n - (j + 2) - n3 = k + 2 + n - (j + 2 + n3) by omega])
               have hvl : (zs3.take n3).length = n3 := (by rw [List.length_take]; omega)
               have hWv : Win w0 b (sAddr o (j + 2) c 1) (c - (j + 2)) (zs3.take n3) := (by rw [← hvt]; exact (hW.take _).drop _)
               refine WH.val (v_fieldAddr0 rfl rfl fld_53_4) (.none rfl) rfl rfl ?_
               refine WH.val (v_move rfl rfl) (.none rfl) rfl rfl ?_
               refine WH.val (v_move rfl rfl) (.none rfl) rfl rfl ?_
               refine WH.val (v_indexAddr (lo := j) rfl rfl rfl Tryd.underlying22 sz_5 (by omega) (by omega)) (.none rfl) rfl rfl ?_
               refine WH.val (v_load1 rfl rfl one_5 (cellOld (fun h => h) (hW.get (fOf_get (by omega))))) (.none rfl) rfl rfl ?_
               refine WH.val (v_conv rfl rfl Tryd.underlying3 Tryd.underlying5 (w_i64 (by omega) (by omega))) (.none rfl) rfl rfl ?_
               refine WH.val (v_move rfl rfl) (.none rfl) rfl rfl ?_
               refine WH.val (v_move rfl rfl) (.none rfl) rfl rfl ?_
               refine WH.val (v_add rfl rfl rfl (show _ = ((j + 2 : Nat) : Int) from (w_i64 (by omega) (by omega)).trans (by omega))) (.none rfl) rfl rfl ?_
               refine WH.val (v_move rfl rfl) (.none rfl) rfl rfl ?_
               refine WH.val (v_add rfl rfl rfl (show _ = ((j + 2 : Nat) : Int) from (w_i64 (by omega) (by omega)).trans (by omega))) (.none rfl) rfl rfl ?_
               refine WH.val (v_move rfl rfl) (.none rfl) rfl rfl ?_
               refine WH.val (v_move rfl rfl) (.none rfl) rfl rfl ?_
               refine WH.val (v_add rfl rfl rfl (show _ = ((j + 1 : Nat) : Int) from (w_i64 (by omega) (by omega)).trans (by omega))) (.none rfl) rfl rfl ?_
               refine WH.val (v_indexAddr (lo := j + 1) rfl rfl rfl Tryd.underlying22 sz_5 (by omega) (by omega)) (.none rfl) rfl rfl ?_
               refine WH.val (v_load1 rfl rfl one_5 (cellOld (fun h => h) (hW.get (fOf_get (by omega))))) (.none rfl) rfl rfl ?_
               refine WH.val (v_conv rfl rfl Tryd.underlying3 Tryd.underlying5 (w_i64 (by omega) (by omega))) (.none rfl) rfl rfl ?_
               refine WH.val (v_add rfl rfl rfl (show _ = ((j + 2 + n3 : Nat) : Int) from (w_i64 (by omega) (by omega)).trans (by omega))) (.none rfl) rfl rfl ?_
               refine WH.val ((v_slice_lh (lo := j + 2) (hi := j + 2 + n3) rfl rfl rfl rfl Tryd.underlying22 sz_5 rfl rfl (by omega) (by omega))) (.none rfl) rfl rfl ?_
               refine WH.nil ?_
               refine WRH.each (g := 7) [1, 7] (by kernel_rfl) (by decide) ?_
               refine ⟨?_, ?_⟩
               ·
                refine WL.val (v_load1 rfl rfl one_46 (cellAt (v := .slice ad2 ds.length kc2) rfl)) (.none rfl) rfl rfl ?_
                refine WL.nilH (fun w hS => hS.sub (by repeat (first | exact List.Sublist.refl _ | exact List.nil_sublist _ | refine List.Sublist.cons _ ?_ | refine List.sublist_append_of_sublist_right ?_))) ?_
                refine WRH.one (g := 6) 7 (by kernel_rfl) ?_
                refine WL.buildSlice rfl rfl Tryd.underlying22 sz_5 zero_5 rfl (by decide) rfl (.none rfl) rfl rfl ?_
                intro g197 hg197
                refine WL.nilH (fun w hS => hS.sub (by repeat (first | exact List.Sublist.refl _ | exact List.nil_sublist _ | refine List.Sublist.cons _ ?_ | refine List.sublist_append_of_sublist_right ?_))) ?_
                refine WRH.one (g := 5) 21 (by kernel_rfl) ?_
                refine WL.appendL rfl rfl rfl Tryd.underlying22 Tryd.underlying22 sz_5 by_5 zero_5 rfl rfl (E := [.row g197 []]) (Vec.row (k := 0) (s := 1) (c := 0) rfl rfl (by omega)) (new := u8s (zs3.take n3)) (fun h => ⟨b, sAddr o (j + 2) c 1, rfl, fun w hS' => hS'.rng (fun _ h => h) _ _ _ hWv.at_⟩) (by rw [u8s_len]; omega) (u8s_one _) (by omega) (.none rfl) rfl rfl ?_
                intro ad211 c211 E211 hV211 hr211
                rw [show 0 + (j + 2 + n3 - (j + 2)) = (zs3.take n3).length by omega] at hV211 ⊢
                rw [show List.take (0 * 1) ([] : List Value) = [] from rfl, List.nil_append] at hV211
                refine WL.as (L' := E211 ++ (E2 ++ (KO2 ++ (.row g6 (MsL.opened (fOf xs 18) ys ad2 kc2 ds).rcells :: .row g5 (fltL 0 0 ⟨#[]⟩) :: .row g3 (fltL 0 0 ⟨#[]⟩) :: [.row g2 (MsL.zero 0).rcells])))) rfl ?_
                refine WL.nilH (fun w hS => hS.sub (by repeat (first | exact List.Sublist.refl _ | exact List.nil_sublist _ | refine List.Sublist.cons _ ?_ | refine List.sublist_append_of_sublist_right ?_))) ?_
                refine WRH.first (g := 4) [22] (by kernel_rfl) (by kernel_rfl) (fun w hS => hS.sub (by repeat (first | exact List.Sublist.refl _ | exact List.nil_sublist _ | refine List.Sublist.cons _ ?_ | refine List.sublist_append_of_sublist_right ?_))) ?_
                refine WH.val (v_build rfl rfl zero_99 plc_99 rfl) (.none rfl) rfl rfl ?_
                refine WH.nil ?_
                refine WRH.one (g := 3) 23 (by kernel_rfl) ?_
                refine WL.buildSlice rfl rfl Tryd.underlying46 sz_99 zero_99 rfl (by decide) rfl (.none rfl) rfl rfl ?_
                intro g213 hg213
                refine WL.as (L' := .row g213 (CapL.cells (⟨fOf xs j, ad211, c211, zs3.take n3⟩ : CapL)) :: (E211 ++ (E2 ++ (KO2 ++ (.row g6 (MsL.opened (fOf xs 18) ys ad2 kc2 ds).rcells :: .row g5 (fltL 0 0 ⟨#[]⟩) :: .row g3 (fltL 0 0 ⟨#[]⟩) :: [.row g2 (MsL.zero 0).rcells]))))) rfl ?_
                refine WL.to (L' := E2 ++ (.row g213 (CapL.cells (⟨fOf xs j, ad211, c211, zs3.take n3⟩ : CapL)) :: (E211 ++ (KO2 ++ (.row g6 (MsL.opened (fOf xs 18) ys ad2 kc2 ds).rcells :: .row g5 (fltL 0 0 ⟨#[]⟩) :: .row g3 (fltL 0 0 ⟨#[]⟩) :: [.row g2 (MsL.zero 0).rcells]))))) (fun w hS => hS.permC (by intro c h1 h2 h3 e; simp only [h1, h2, h3]; omega)) ?_
                refine WL.nilH (fun w hS => hS.sub (by repeat (first | exact List.Sublist.refl _ | exact List.nil_sublist _ | refine List.Sublist.cons _ ?_ | refine List.sublist_append_of_sublist_right ?_))) ?_
                refine WRH.one (g := 2) 24 (by kernel_rfl) ?_
                refine WL.appendL rfl rfl rfl Tryd.underlying46 Tryd.underlying46 sz_99 by_99 zero_99 rfl rfl hV2 (new := CapL.cells (⟨fOf xs j, ad211, c211, zs3.take n3⟩ : CapL)) (fun _ => ⟨g213, 0, rfl, fun w hS => allAt (g := g213) w hS⟩) rfl rfl (by omega) (.none rfl) rfl rfl ?_
                intro ad214 c214 E214 hV214 hr214
                rw [← capsL_snoc] at hV214
                rw [show ds.length + 1 = (ds ++ [(⟨fOf xs j, ad211, c211, zs3.take n3⟩ : CapL)]).length by rw [List.length_append]; rfl] at hV214 ⊢
                refine WL.nilH (fun w hS => hS.sub (by repeat (first | exact List.Sublist.refl _ | exact List.nil_sublist _ | refine List.Sublist.cons _ ?_ | refine List.sublist_append_of_sublist_right ?_))) ?_
                refine WRH.first (g := 1) [25] (by kernel_rfl) (by kernel_rfl) (fun w hS => hS.sub (by repeat (first | exact List.Sublist.refl _ | exact List.nil_sublist _ | refine List.Sublist.cons _ ?_ | refine List.sublist_append_of_sublist_right ?_))) ?_
                refine WH.val (v_fieldAddr0 rfl rfl fld_53_4) (.none rfl) rfl rfl ?_
                refine WH.nil ?_
                refine WRH.one (g := 0) 26 (by kernel_rfl) ?_
                refine WL.store1 rfl rfl rfl rfl one_46 (Nat.le_of_ble_eq_true rfl) (.none rfl) rfl ?_
                refine WL.as (L' := E214 ++ (.row g213 (CapL.cells (⟨fOf xs j, ad211, c211, zs3.take n3⟩ : CapL)) :: (E211 ++ (KO2 ++ (.row g6 (MsL.opened (fOf xs 18) ys ad214 c214 (ds ++ [(⟨fOf xs j, ad211, c211, zs3.take n3⟩ : CapL)])).rcells :: .row g5 (fltL 0 0 ⟨#[]⟩) :: .row g3 (fltL 0 0 ⟨#[]⟩) :: [.row g2 (MsL.zero 0).rcells]))))) rfl ?_
                refine WL.nilH (fun w hS => hS.sub (by repeat (first | exact List.Sublist.refl _ | exact List.nil_sublist _ | refine List.Sublist.cons _ ?_ | refine List.sublist_append_of_sublist_right ?_))) ?_
                refine WRH.done (by kernel_rfl) ?_
                refine WE.then_n ?_
                refine WC.region ?_
                refine WL.val (v_move rfl rfl) (.none rfl) rfl rfl ?_
                refine WL.val (v_move rfl rfl) (.none rfl) rfl rfl ?_
                refine WL.val (v_move rfl rfl) (.none rfl) rfl rfl ?_
                refine WL.val (v_add rfl rfl rfl (show _ = ((j + 1 : Nat) : Int) from (w_i64 (by omega) (by omega)).trans (by omega))) (.none rfl) rfl rfl ?_
                refine WL.val (v_indexAddr (lo := j + 1) rfl rfl rfl Tryd.underlying22 sz_5 (by omega) (by omega)) (.none rfl) rfl rfl ?_
                refine WL.val (v_load1 rfl rfl one_5 (cellOld (fun h => h) (hW.get (fOf_get (by omega))))) (.none rfl) rfl rfl ?_
                refine WL.val (v_conv rfl rfl Tryd.underlying3 Tryd.underlying5 (w_i64 (by omega) (by omega))) (.none rfl) rfl rfl ?_
                refine WL.val (v_add rfl rfl rfl (show _ = ((2 + n3 : Nat) : Int) from (w_i64 (by omega) (by omega)).trans (by omega))) (.none rfl) rfl rfl ?_
                refine WL.val (v_add rfl rfl rfl (show _ = ((j + 2 + n3 : Nat) : Int) from (w_i64 (by omega) (by omega)).trans (by omega))) (.none rfl) rfl rfl ?_
                refine WL.val (v_assign rfl rfl) (.none rfl) rfl rfl ?_
                refine WL.nil ?_
                refine WE.block_n ?_
                exact WE.to (L' := E214 ++ ((E211 ++ KO2) ++ (.row g6 (MsL.opened (fOf xs 18) ys ad214 c214 (ds ++ [(⟨fOf xs j, ad211, c211, zs3.take n3⟩ : CapL)])).rcells :: .row g5 (fltL 0 0 ⟨#[]⟩) :: .row g3 (fltL 0 0 ⟨#[]⟩) :: [.row g2 (MsL.zero 0).rcells]))) (fun w hS => by
                have := hS.sub (L' := E214 ++ (E211 ++ (KO2 ++ (.row g6 (MsL.opened (fOf xs 18) ys ad214 c214 (ds ++ [(⟨fOf xs j, ad211, c211, zs3.take n3⟩ : CapL)])).rcells :: .row g5 (fltL 0 0 ⟨#[]⟩) :: .row g3 (fltL 0 0 ⟨#[]⟩) :: [.row g2 (MsL.zero 0).rcells])))) (List.Sublist.append_left (.cons _ (.refl _)) _)
                rwa [← List.append_assoc E211] at this) (WE.next ⟨j + 2 + n3, ds ++ [(⟨fOf xs j, ad211, c211, zs3.take n3⟩ : CapL)], ad214, c214, E214, E211 ++ KO2⟩ (by dsimp only; omega) ⟨by dsimp only; omega, by dsimp only; omega, by dsimp only; rw [List.length_append]; show _ + 1 ≤ _; omega, by dsimp only; rw [hcap, hvd, List.map_append]; show _ = capsR (_ ++ [(fOf xs j, _)]) _; rw [ex3], hV214, fun c' hc' => (by
                rcases List.mem_append.1 hc' with hc' | hc'
                · obtain ⟨E', r1, r2⟩ := hO2 c' hc'
                  exact ⟨E', r1, fun e he => List.mem_append_right _ (r2 e he)⟩
                · rw [List.mem_singleton.1 hc']
                  exact ⟨E211, hV211, fun e he => List.mem_append_left _ he⟩)⟩ (.cons rfl (.cons rfl (.cons rfl (.cons rfl (.cons rfl (.cons rfl .nil)))))) (.refl _))
               ·
                refine WL.buildSlice rfl rfl Tryd.underlying22 sz_5 zero_5 rfl (by decide) rfl (.none rfl) rfl rfl ?_
                intro g197 hg197
                refine WL.nilH (fun w hS => hS.sub (by repeat (first | exact List.Sublist.refl _ | exact List.nil_sublist _ | refine List.Sublist.cons _ ?_ | refine List.sublist_append_of_sublist_right ?_))) ?_
                refine WRH.each (g := 6) [1, 21] (by kernel_rfl) (by decide) ?_
                refine ⟨?_, ?_⟩
                ·
                 refine WL.val (v_load1 rfl rfl one_46 (cellAt (v := .slice ad2 ds.length kc2) rfl)) (.none rfl) rfl rfl ?_
                 refine WL.nilH (fun w hS => hS.sub (by repeat (first | exact List.Sublist.refl _ | exact List.nil_sublist _ | refine List.Sublist.cons _ ?_ | refine List.sublist_append_of_sublist_right ?_))) ?_
                 refine WRH.one (g := 5) 21 (by kernel_rfl) ?_
                 refine WL.appendL rfl rfl rfl Tryd.underlying22 Tryd.underlying22 sz_5 by_5 zero_5 rfl rfl (E := [.row g197 []]) (Vec.row (k := 0) (s := 1) (c := 0) rfl rfl (by omega)) (new := u8s (zs3.take n3)) (fun h => ⟨b, sAddr o (j + 2) c 1, rfl, fun w hS' => hS'.rng (fun _ h => h) _ _ _ hWv.at_⟩) (by rw [u8s_len]; omega) (u8s_one _) (by omega) (.none rfl) rfl rfl ?_
                 intro ad211 c211 E211 hV211 hr211
                 rw [show 0 + (j + 2 + n3 - (j + 2)) = (zs3.take n3).length by omega] at hV211 ⊢
                 rw [show List.take (0 * 1) ([] : List Value) = [] from rfl, List.nil_append] at hV211
                 refine WL.as (L' := E211 ++ (E2 ++ (KO2 ++ (.row g6 (MsL.opened (fOf xs 18) ys ad2 kc2 ds).rcells :: .row g5 (fltL 0 0 ⟨#[]⟩) :: .row g3 (fltL 0 0 ⟨#[]⟩) :: [.row g2 (MsL.zero 0).rcells])))) rfl ?_
                 refine WL.nilH (fun w hS => hS.sub (by repeat (first | exact List.Sublist.refl _ | exact List.nil_sublist _ | refine List.Sublist.cons _ ?_ | refine List.sublist_append_of_sublist_right ?_))) ?_
                 refine WRH.first (g := 4) [22] (by kernel_rfl) (by kernel_rfl) (fun w hS => hS.sub (by repeat (first | exact List.Sublist.refl _ | exact List.nil_sublist _ | refine List.Sublist.cons _ ?_ | refine List.sublist_append_of_sublist_right ?_))) ?_
                 refine WH.val (v_build rfl rfl zero_99 plc_99 rfl) (.none rfl) rfl rfl ?_
                 refine WH.nil ?_
                 refine WRH.one (g := 3) 23 (by kernel_rfl) ?_
                 refine WL.buildSlice rfl rfl Tryd.underlying46 sz_99 zero_99 rfl (by decide) rfl (.none rfl) rfl rfl ?_
                 intro g213 hg213
                 refine WL.as (L' := .row g213 (CapL.cells (⟨fOf xs j, ad211, c211, zs3.take n3⟩ : CapL)) :: (E211 ++ (E2 ++ (KO2 ++ (.row g6 (MsL.opened (fOf xs 18) ys ad2 kc2 ds).rcells :: .row g5 (fltL 0 0 ⟨#[]⟩) :: .row g3 (fltL 0 0 ⟨#[]⟩) :: [.row g2 (MsL.zero 0).rcells]))))) rfl ?_
                 refine WL.to (L' := E2 ++ (.row g213 (CapL.cells (⟨fOf xs j, ad211, c211, zs3.take n3⟩ : CapL)) :: (E211 ++ (KO2 ++ (.row g6 (MsL.opened (fOf xs 18) ys ad2 kc2 ds).rcells :: .row g5 (fltL 0 0 ⟨#[]⟩) :: .row g3 (fltL 0 0 ⟨#[]⟩) :: [.row g2 (MsL.zero 0).rcells]))))) (fun w hS => hS.permC (by intro c h1 h2 h3 e; simp only [h1, h2, h3]; omega)) ?_
                 refine WL.nilH (fun w hS => hS.sub (by repeat (first | exact List.Sublist.refl _ | exact List.nil_sublist _ | refine List.Sublist.cons _ ?_ | refine List.sublist_append_of_sublist_right ?_))) ?_
                 refine WRH.one (g := 2) 24 (by kernel_rfl) ?_
                 refine WL.appendL rfl rfl rfl Tryd.underlying46 Tryd.underlying46 sz_99 by_99 zero_99 rfl rfl hV2 (new := CapL.cells (⟨fOf xs j, ad211, c211, zs3.take n3⟩ : CapL)) (fun _ => ⟨g213, 0, rfl, fun w hS => allAt (g := g213) w hS⟩) rfl rfl (by omega) (.none rfl) rfl rfl ?_
                 intro ad214 c214 E214 hV214 hr214
                 rw [← capsL_snoc] at hV214
                 rw [show ds.length + 1 = (ds ++ [(⟨fOf xs j, ad211, c211, zs3.take n3⟩ : CapL)]).length by rw [List.length_append]; rfl] at hV214 ⊢
                 refine WL.nilH (fun w hS => hS.sub (by repeat (first | exact List.Sublist.refl _ | exact List.nil_sublist _ | refine List.Sublist.cons _ ?_ | refine List.sublist_append_of_sublist_right ?_))) ?_
                 refine WRH.first (g := 1) [25] (by kernel_rfl) (by kernel_rfl) (fun w hS => hS.sub (by repeat (first | exact List.Sublist.refl _ | exact List.nil_sublist _ | refine List.Sublist.cons _ ?_ | refine List.sublist_append_of_sublist_right ?_))) ?_
                 refine WH.val (v_fieldAddr0 rfl rfl fld_53_4) (.none rfl) rfl rfl ?_
                 refine WH.nil ?_
                 refine WRH.one (g := 0) 26 (by kernel_rfl) ?_
                 refine WL.store1 rfl rfl rfl rfl one_46 (Nat.le_of_ble_eq_true rfl) (.none rfl) rfl ?_
                 refine WL.as (L' := E214 ++ (.row g213 (CapL.cells (⟨fOf xs j, ad211, c211, zs3.take n3⟩ : CapL)) :: (E211 ++ (KO2 ++ (.row g6 (MsL.opened (fOf xs 18) ys ad214 c214 (ds ++ [(⟨fOf xs j, ad211, c211, zs3.take n3⟩ : CapL)])).rcells :: .row g5 (fltL 0 0 ⟨#[]⟩) :: .row g3 (fltL 0 0 ⟨#[]⟩) :: [.row g2 (MsL.zero 0).rcells]))))) rfl ?_
                 refine WL.nilH (fun w hS => hS.sub (by repeat (first | exact List.Sublist.refl _ | exact List.nil_sublist _ | refine List.Sublist.cons _ ?_ | refine List.sublist_append_of_sublist_right ?_))) ?_
                 refine WRH.done (by kernel_rfl) ?_
                 refine WE.then_n ?_
                 refine WC.region ?_
                 refine WL.val (v_move rfl rfl) (.none rfl) rfl rfl ?_
                 refine WL.val (v_move rfl rfl) (.none rfl) rfl rfl ?_
                 refine WL.val (v_move rfl rfl) (.none rfl) rfl rfl ?_
                 refine WL.val (v_add rfl rfl rfl (show _ = ((j + 1 : Nat) : Int) from (w_i64 (by omega) (by omega)).trans (by omega))) (.none rfl) rfl rfl ?_
                 refine WL.val (v_indexAddr (lo := j + 1) rfl rfl rfl Tryd.underlying22 sz_5 (by omega) (by omega)) (.none rfl) rfl rfl ?_
                 refine WL.val (v_load1 rfl rfl one_5 (cellOld (fun h => h) (hW.get (fOf_get (by omega))))) (.none rfl) rfl rfl ?_
                 refine WL.val (v_conv rfl rfl Tryd.underlying3 Tryd.underlying5 (w_i64 (by omega) (by omega))) (.none rfl) rfl rfl ?_
                 refine WL.val (v_add rfl rfl rfl (show _ = ((2 + n3 : Nat) : Int) from (w_i64 (by omega) (by omega)).trans (by omega))) (.none rfl) rfl rfl ?_
                 refine WL.val (v_add rfl rfl rfl (show _ = ((j + 2 + n3 : Nat) : Int) from (w_i64 (by omega) (by omega)).trans (by omega))) (.none rfl) rfl rfl ?_
                 refine WL.val (v_assign rfl rfl) (.none rfl) rfl rfl ?_
                 refine WL.nil ?_
                 refine WE.block_n ?_
                 exact WE.to (L' := E214 ++ ((E211 ++ KO2) ++ (.row g6 (MsL.opened (fOf xs 18) ys ad214 c214 (ds ++ [(⟨fOf xs j, ad211, c211, zs3.take n3⟩ : CapL)])).rcells :: .row g5 (fltL 0 0 ⟨#[]⟩) :: .row g3 (fltL 0 0 ⟨#[]⟩) :: [.row g2 (MsL.zero 0).rcells]))) (fun w hS => by
                 have := hS.sub (L' := E214 ++ (E211 ++ (KO2 ++ (.row g6 (MsL.opened (fOf xs 18) ys ad214 c214 (ds ++ [(⟨fOf xs j, ad211, c211, zs3.take n3⟩ : CapL)])).rcells :: .row g5 (fltL 0 0 ⟨#[]⟩) :: .row g3 (fltL 0 0 ⟨#[]⟩) :: [.row g2 (MsL.zero 0).rcells])))) (List.Sublist.append_left (.cons _ (.refl _)) _)
                 rwa [← List.append_assoc E211] at this) (WE.next ⟨j + 2 + n3, ds ++ [(⟨fOf xs j, ad211, c211, zs3.take n3⟩ : CapL)], ad214, c214, E214, E211 ++ KO2⟩ (by dsimp only; omega) ⟨by dsimp only; omega, by dsimp only; omega, by dsimp only; rw [List.length_append]; show _ + 1 ≤ _; omega, by dsimp only; rw [hcap, hvd, List.map_append]; show _ = capsR (_ ++ [(fOf xs j, _)]) _; rw [ex3], hV214, fun c' hc' => (by
                 rcases List.mem_append.1 hc' with hc' | hc'
                 · obtain ⟨E', r1, r2⟩ := hO2 c' hc'
                   exact ⟨E', r1, fun e he => List.mem_append_right _ (r2 e he)⟩
                 · rw [List.mem_singleton.1 hc']
                   exact ⟨E211, hV211, fun e he => List.mem_append_left _ he⟩)⟩ (.cons rfl (.cons rfl (.cons rfl (.cons rfl (.cons rfl (.cons rfl .nil)))))) (.refl _))
                ·
                 refine WL.appendL rfl rfl rfl Tryd.underlying22 Tryd.underlying22 sz_5 by_5 zero_5 rfl rfl (E := [.row g197 []]) (Vec.row (k := 0) (s := 1) (c := 0) rfl rfl (by omega)) (new := u8s (zs3.take n3)) (fun h => ⟨b, sAddr o (j + 2) c 1, rfl, fun w hS' => hS'.rng (fun _ h => h) _ _ _ hWv.at_⟩) (by rw [u8s_len]; omega) (u8s_one _) (by omega) (.none rfl) rfl rfl ?_
                 intro ad211 c211 E211 hV211 hr211
                 rw [show 0 + (j + 2 + n3 - (j + 2)) = (zs3.take n3).length by omega] at hV211 ⊢
                 rw [show List.take (0 * 1) ([] : List Value) = [] from rfl, List.nil_append] at hV211
                 refine WL.as (L' := E211 ++ (E2 ++ (KO2 ++ (.row g6 (MsL.opened (fOf xs 18) ys ad2 kc2 ds).rcells :: .row g5 (fltL 0 0 ⟨#[]⟩) :: .row g3 (fltL 0 0 ⟨#[]⟩) :: [.row g2 (MsL.zero 0).rcells])))) rfl ?_
                 refine WL.nilH (fun w hS => hS.sub (by repeat (first | exact List.Sublist.refl _ | exact List.nil_sublist _ | refine List.Sublist.cons _ ?_ | refine List.sublist_append_of_sublist_right ?_))) ?_
                 refine WRH.first (g := 5) [22] (by kernel_rfl) (by kernel_rfl) (fun w hS => hS.sub (by repeat (first | exact List.Sublist.refl _ | exact List.nil_sublist _ | refine List.Sublist.cons _ ?_ | refine List.sublist_append_of_sublist_right ?_))) ?_
                 refine WH.val (v_build rfl rfl zero_99 plc_99 rfl) (.none rfl) rfl rfl ?_
                 refine WH.nil ?_
                 refine WRH.each (g := 4) [1, 23] (by kernel_rfl) (by decide) ?_
                 refine ⟨?_, ?_⟩
                 ·
                  refine WL.val (v_load1 rfl rfl one_46 (cellAt (v := .slice ad2 ds.length kc2) rfl)) (.none rfl) rfl rfl ?_
                  refine WL.nilH (fun w hS => hS.sub (by repeat (first | exact List.Sublist.refl _ | exact List.nil_sublist _ | refine List.Sublist.cons _ ?_ | refine List.sublist_append_of_sublist_right ?_))) ?_
                  refine WRH.one (g := 3) 23 (by kernel_rfl) ?_
                  refine WL.buildSlice rfl rfl Tryd.underlying46 sz_99 zero_99 rfl (by decide) rfl (.none rfl) rfl rfl ?_
                  intro g213 hg213
                  refine WL.as (L' := .row g213 (CapL.cells (⟨fOf xs j, ad211, c211, zs3.take n3⟩ : CapL)) :: (E211 ++ (E2 ++ (KO2 ++ (.row g6 (MsL.opened (fOf xs 18) ys ad2 kc2 ds).rcells :: .row g5 (fltL 0 0 ⟨#[]⟩) :: .row g3 (fltL 0 0 ⟨#[]⟩) :: [.row g2 (MsL.zero 0).rcells]))))) rfl ?_
                  refine WL.to (L' := E2 ++ (.row g213 (CapL.cells (⟨fOf xs j, ad211, c211, zs3.take n3⟩ : CapL)) :: (E211 ++ (KO2 ++ (.row g6 (MsL.opened (fOf xs 18) ys ad2 kc2 ds).rcells :: .row g5 (fltL 0 0 ⟨#[]⟩) :: .row g3 (fltL 0 0 ⟨#[]⟩) :: [.row g2 (MsL.zero 0).rcells]))))) (fun w hS => hS.permC (by intro c h1 h2 h3 e; simp only [h1, h2, h3]; omega)) ?_
                  refine WL.nilH (fun w hS => hS.sub (by repeat (first | exact List.Sublist.refl _ | exact List.nil_sublist _ | refine List.Sublist.cons _ ?_ | refine List.sublist_append_of_sublist_right ?_))) ?_
                  refine WRH.one (g := 2) 24 (by kernel_rfl) ?_
                  refine WL.appendL rfl rfl rfl Tryd.underlying46 Tryd.underlying46 sz_99 by_99 zero_99 rfl rfl hV2 (new := CapL.cells (⟨fOf xs j, ad211, c211, zs3.take n3⟩ : CapL)) (fun _ => ⟨g213, 0, rfl, fun w hS => allAt (g := g213) w hS⟩) rfl rfl (by omega) (.none rfl) rfl rfl ?_
                  intro ad214 c214 E214 hV214 hr214
                  rw [← capsL_snoc] at hV214
                  rw [show ds.length + 1 = (ds ++ [(⟨fOf xs j, ad211, c211, zs3.take n3⟩ : CapL)]).length by rw [List.length_append]; rfl] at hV214 ⊢
                  refine WL.nilH (fun w hS => hS.sub (by repeat (first | exact List.Sublist.refl _ | exact List.nil_sublist _ | refine List.Sublist.cons _ ?_ | refine List.sublist_append_of_sublist_right ?_))) ?_
                  refine WRH.first (g := 1) [25] (by kernel_rfl) (by kernel_rfl) (fun w hS => hS.sub (by repeat (first | exact List.Sublist.refl _ | exact List.nil_sublist _ | refine List.Sublist.cons _ ?_ | refine List.sublist_append_of_sublist_right ?_))) ?_
                  refine WH.val (v_fieldAddr0 rfl rfl fld_53_4) (.none rfl) rfl rfl ?_
                  refine WH.nil ?_
                  refine WRH.one (g := 0) 26 (by kernel_rfl) ?_
                  refine WL.store1 rfl rfl rfl rfl one_46 (Nat.le_of_ble_eq_true rfl) (.none rfl) rfl ?_
                  refine WL.as (L' := E214 ++ (.row g213 (CapL.cells (⟨fOf xs j, ad211, c211, zs3.take n3⟩ : CapL)) :: (E211 ++ (KO2 ++ (.row g6 (MsL.opened (fOf xs 18) ys ad214 c214 (ds ++ [(⟨fOf xs j, ad211, c211, zs3.take n3⟩ : CapL)])).rcells :: .row g5 (fltL 0 0 ⟨#[]⟩) :: .row g3 (fltL 0 0 ⟨#[]⟩) :: [.row g2 (MsL.zero 0).rcells]))))) rfl ?_
                  refine WL.nilH (fun w hS => hS.sub (by repeat (first | exact List.Sublist.refl _ | exact List.nil_sublist _ | refine List.Sublist.cons _ ?_ | refine List.sublist_append_of_sublist_right ?_))) ?_
                  refine WRH.done (by kernel_rfl) ?_
                  refine WE.then_n ?_
                  refine WC.region ?_
                  refine WL.val (v_move rfl rfl) (.none rfl) rfl rfl ?_
                  refine WL.val (v_move rfl rfl) (.none rfl) rfl rfl ?_
                  refine WL.val (v_move rfl rfl) (.none rfl) rfl rfl ?_
                  refine WL.val (v_add rfl rfl rfl (show _ = ((j + 1 : Nat) : Int) from (w_i64 (by omega) (by omega)).trans (by omega))) (.none rfl) rfl rfl ?_
                  refine WL.val (v_indexAddr (lo := j + 1) rfl rfl rfl Tryd.underlying22 sz_5 (by omega) (by omega)) (.none rfl) rfl rfl ?_
                  refine WL.val (v_load1 rfl rfl one_5 (cellOld (fun h => h) (hW.get (fOf_get (by omega))))) (.none rfl) rfl rfl ?_
                  refine WL.val (v_conv rfl rfl Tryd.underlying3 Tryd.underlying5 (w_i64 (by omega) (by omega))) (.none rfl) rfl rfl ?_
                  refine WL.val (v_add rfl rfl rfl (show _ = ((2 + n3 : Nat) : Int) from (w_i64 (by omega) (by omega)).trans (by omega))) (.none rfl) rfl rfl ?_
                  refine WL.val (v_add rfl rfl rfl (show _ = ((j + 2 + n3 : Nat) : Int) from (w_i64 (by omega) (by omega)).trans (by omega))) (.none rfl) rfl rfl ?_
                  refine WL.val (v_assign rfl rfl) (.none rfl) rfl rfl ?_
                  refine WL.nil ?_
                  refine WE.block_n ?_
                  exact WE.to (L' := E214 ++ ((E211 ++ KO2) ++ (.row g6 (MsL.opened (fOf xs 18) ys ad214 c214 (ds ++ [(⟨fOf xs j, ad211, c211, zs3.take n3⟩ : CapL)])).rcells :: .row g5 (fltL 0 0 ⟨#[]⟩) :: .row g3 (fltL 0 0 ⟨#[]⟩) :: [.row g2 (MsL.zero 0).rcells]))) (fun w hS => by
                  have := hS.sub (L' := E214 ++ (E211 ++ (KO2 ++ (.row g6 (MsL.opened (fOf xs 18) ys ad214 c214 (ds ++ [(⟨fOf xs j, ad211, c211, zs3.take n3⟩ : CapL)])).rcells :: .row g5 (fltL 0 0 ⟨#[]⟩) :: .row g3 (fltL 0 0 ⟨#[]⟩) :: [.row g2 (MsL.zero 0).rcells])))) (List.Sublist.append_left (.cons _ (.refl _)) _)
                  rwa [← List.append_assoc E211] at this) (WE.next ⟨j + 2 + n3, ds ++ [(⟨fOf xs j, ad211, c211, zs3.take n3⟩ : CapL)], ad214, c214, E214, E211 ++ KO2⟩ (by dsimp only; omega) ⟨by dsimp only; omega, by dsimp only; omega, by dsimp only; rw [List.length_append]; show _ + 1 ≤ _; omega, by dsimp only; rw [hcap, hvd, List.map_append]; show _ = capsR (_ ++ [(fOf xs j, _)]) _; rw [ex3], hV214, fun c' hc' => (by
                  rcases List.mem_append.1 hc' with hc' | hc'
                  · obtain ⟨E', r1, r2⟩ := hO2 c' hc'
                    exact ⟨E', r1, fun e he => List.mem_append_right _ (r2 e he)⟩
                  · rw [List.mem_singleton.1 hc']
                    exact ⟨E211, hV211, fun e he => List.mem_append_left _ he⟩)⟩ (.cons rfl (.cons rfl (.cons rfl (.cons rfl (.cons rfl (.cons rfl .nil)))))) (.refl _))
                 ·
                  refine WL.buildSlice rfl rfl Tryd.underlying46 sz_99 zero_99 rfl (by decide) rfl (.none rfl) rfl rfl ?_
                  intro g213 hg213
                  refine WL.as (L' := .row g213 (CapL.cells (⟨fOf xs j, ad211, c211, zs3.take n3⟩ : CapL)) :: (E211 ++ (E2 ++ (KO2 ++ (.row g6 (MsL.opened (fOf xs 18) ys ad2 kc2 ds).rcells :: .row g5 (fltL 0 0 ⟨#[]⟩) :: .row g3 (fltL 0 0 ⟨#[]⟩) :: [.row g2 (MsL.zero 0).rcells]))))) rfl ?_
                  refine WL.to (L' := E2 ++ (.row g213 (CapL.cells (⟨fOf xs j, ad211, c211, zs3.take n3⟩ : CapL)) :: (E211 ++ (KO2 ++ (.row g6 (MsL.opened (fOf xs 18) ys ad2 kc2 ds).rcells :: .row g5 (fltL 0 0 ⟨#[]⟩) :: .row g3 (fltL 0 0 ⟨#[]⟩) :: [.row g2 (MsL.zero 0).rcells]))))) (fun w hS => hS.permC (by intro c h1 h2 h3 e; simp only [h1, h2, h3]; omega)) ?_
                  refine WL.nilH (fun w hS => hS.sub (by repeat (first | exact List.Sublist.refl _ | exact List.nil_sublist _ | refine List.Sublist.cons _ ?_ | refine List.sublist_append_of_sublist_right ?_))) ?_
                  refine WRH.one (g := 3) 1 (by kernel_rfl) ?_
                  refine WL.val (v_load1 rfl rfl one_46 (cellAt (v := .slice ad2 ds.length kc2) rfl)) (.none rfl) rfl rfl ?_
                  refine WL.nilH (fun w hS => hS.sub (by repeat (first | exact List.Sublist.refl _ | exact List.nil_sublist _ | refine List.Sublist.cons _ ?_ | refine List.sublist_append_of_sublist_right ?_))) ?_
                  refine WRH.one (g := 2) 24 (by kernel_rfl) ?_
                  refine WL.appendL rfl rfl rfl Tryd.underlying46 Tryd.underlying46 sz_99 by_99 zero_99 rfl rfl hV2 (new := CapL.cells (⟨fOf xs j, ad211, c211, zs3.take n3⟩ : CapL)) (fun _ => ⟨g213, 0, rfl, fun w hS => allAt (g := g213) w hS⟩) rfl rfl (by omega) (.none rfl) rfl rfl ?_
                  intro ad214 c214 E214 hV214 hr214
                  rw [← capsL_snoc] at hV214
                  rw [show ds.length + 1 = (ds ++ [(⟨fOf xs j, ad211, c211, zs3.take n3⟩ : CapL)]).length by rw [List.length_append]; rfl] at hV214 ⊢
                  refine WL.nilH (fun w hS => hS.sub (by repeat (first | exact List.Sublist.refl _ | exact List.nil_sublist _ | refine List.Sublist.cons _ ?_ | refine List.sublist_append_of_sublist_right ?_))) ?_
                  refine WRH.first (g := 1) [25] (by kernel_rfl) (by kernel_rfl) (fun w hS => hS.sub (by repeat (first | exact List.Sublist.refl _ | exact List.nil_sublist _ | refine List.Sublist.cons _ ?_ | refine List.sublist_append_of_sublist_right ?_))) ?_
                  refine WH.val (v_fieldAddr0 rfl rfl fld_53_4) (.none rfl) rfl rfl ?_
                  refine WH.nil ?_
                  refine WRH.one (g := 0) 26 (by kernel_rfl) ?_
                  refine WL.store1 rfl rfl rfl rfl one_46 (Nat.le_of_ble_eq_true rfl) (.none rfl) rfl ?_
                  refine WL.as (L' := E214 ++ (.row g213 (CapL.cells (⟨fOf xs j, ad211, c211, zs3.take n3⟩ : CapL)) :: (E211 ++ (KO2 ++ (.row g6 (MsL.opened (fOf xs 18) ys ad214 c214 (ds ++ [(⟨fOf xs j, ad211, c211, zs3.take n3⟩ : CapL)])).rcells :: .row g5 (fltL 0 0 ⟨#[]⟩) :: .row g3 (fltL 0 0 ⟨#[]⟩) :: [.row g2 (MsL.zero 0).rcells]))))) rfl ?_
                  refine WL.nilH (fun w hS => hS.sub (by repeat (first | exact List.Sublist.refl _ | exact List.nil_sublist _ | refine List.Sublist.cons _ ?_ | refine List.sublist_append_of_sublist_right ?_))) ?_
                  refine WRH.done (by kernel_rfl) ?_
                  refine WE.then_n ?_
                  refine WC.region ?_
                  refine WL.val (v_move rfl rfl) (.none rfl) rfl rfl ?_
                  refine WL.val (v_move rfl rfl) (.none rfl) rfl rfl ?_
                  refine WL.val (v_move rfl rfl) (.none rfl) rfl rfl ?_
                  refine WL.val (v_add rfl rfl rfl (show _ = ((j + 1 : Nat) : Int) from (w_i64 (by omega) (by omega)).trans (by omega))) (.none rfl) rfl rfl ?_
                  refine WL.val (v_indexAddr (lo := j + 1) rfl rfl rfl Tryd.underlying22 sz_5 (by omega) (by omega)) (.none rfl) rfl rfl ?_
                  refine WL.val (v_load1 rfl rfl one_5 (cellOld (fun h => h) (hW.get (fOf_get (by omega))))) (.none rfl) rfl rfl ?_
                  refine WL.val (v_conv rfl rfl Tryd.underlying3 Tryd.underlying5 (w_i64 (by omega) (by omega))) (.none rfl) rfl rfl ?_
                  refine WL.val (v_add rfl rfl rfl (show _ = ((2 + n3 : Nat) : Int) from (w_i64 (by omega) (by omega)).trans (by omega))) (.none rfl) rfl rfl ?_
                  refine WL.val (v_add rfl rfl rfl (show _ = ((j + 2 + n3 : Nat) : Int) from (w_i64 (by omega) (by omega)).trans (by omega))) (.none rfl) rfl rfl ?_
                  refine WL.val (v_assign rfl rfl) (.none rfl) rfl rfl ?_
                  refine WL.nil ?_
                  refine WE.block_n ?_
                  exact WE.to (L' := E214 ++ ((E211 ++ KO2) ++ (.row g6 (MsL.opened (fOf xs 18) ys ad214 c214 (ds ++ [(⟨fOf xs j, ad211, c211, zs3.take n3⟩ : CapL)])).rcells :: .row g5 (fltL 0 0 ⟨#[]⟩) :: .row g3 (fltL 0 0 ⟨#[]⟩) :: [.row g2 (MsL.zero 0).rcells]))) (fun w hS => by
                  have := hS.sub (L' := E214 ++ (E211 ++ (KO2 ++ (.row g6 (MsL.opened (fOf xs 18) ys ad214 c214 (ds ++ [(⟨fOf xs j, ad211, c211, zs3.take n3⟩ : CapL)])).rcells :: .row g5 (fltL 0 0 ⟨#[]⟩) :: .row g3 (fltL 0 0 ⟨#[]⟩) :: [.row g2 (MsL.zero 0).rcells])))) (List.Sublist.append_left (.cons _ (.refl _)) _)
                  rwa [← List.append_assoc E211] at this) (WE.next ⟨j + 2 + n3, ds ++ [(⟨fOf xs j, ad211, c211, zs3.take n3⟩ : CapL)], ad214, c214, E214, E211 ++ KO2⟩ (by dsimp only; omega) ⟨by dsimp only; omega, by dsimp only; omega, by dsimp only; rw [List.length_append]; show _ + 1 ≤ _; omega, by dsimp only; rw [hcap, hvd, List.map_append]; show _ = capsR (_ ++ [(fOf xs j, _)]) _; rw [ex3], hV214, fun c' hc' => (by
                  rcases List.mem_append.1 hc' with hc' | hc'
                  · obtain ⟨E', r1, r2⟩ := hO2 c' hc'
                    exact ⟨E', r1, fun e he => List.mem_append_right _ (r2 e he)⟩
                  · rw [List.mem_singleton.1 hc']
                    exact ⟨E211, hV211, fun e he => List.mem_append_left _ he⟩)⟩ (.cons rfl (.cons rfl (.cons rfl (.cons rfl (.cons rfl (.cons rfl .nil)))))) (.refl _))
            ·
             refine WL.nil ?_
             refine WE.then_n ?_
             refine WC.cond_f rfl ?_
             refine WC.exit ?_
             refine WE.then_exit ?_
             refine WE.then_exit ?_
             refine WE.block_hit ?_
             refine WE.block_n ?_
             have hje2 : j = k + 2 + n := (by omega)
             exact WE.next ⟨j, ds, ad2, kc2, E2, KO2⟩ (by dsimp only; omega) ⟨by dsimp only; omega, by dsimp only; omega, hdl2, by
               dsimp only
               rw [hop, hcap, show k + 2 + n - j = 0 by omega, List.take_zero, capsR_nil, hzs, List.drop_drop, hje2], hV2, hO2⟩ (.cons rfl (.cons rfl (.cons rfl (.cons rfl (.cons rfl .nil))))) (.refl _)
        ·
         refine WL.nil ?_
         refine WE.then_n ?_
         refine WC.cond_f rfl ?_
         refine WC.exit ?_
         refine WE.then_exit ?_
         refine WE.then_exit ?_
         refine WE.block_hit ?_
         refine WE.then_n ?_
         refine WC.seq ?_
         refine WC.seq ?_
         refine WC.region ?_
         refine WL.val (v_fieldAddr0 rfl rfl fld_53_0) (.none rfl) rfl rfl ?_
         refine WL.val (v_load1 rfl rfl one_3 (cellAt (v := .int .i64 (fOf xs 18)) rfl)) (.none rfl) rfl rfl ?_
         refine WL.val ((v_eql rfl rfl rfl).f (by omega)) (.none rfl) rfl rfl ?_
         refine WL.nil ?_
         refine WE.then_n ?_
         refine WC.cond_f rfl ?_
         refine WC.skip ?_
         refine WE.then_n ?_
         refine WC.seq ?_
         refine WC.seq ?_
         refine WC.region ?_
         refine WL.val (v_fieldAddr0 rfl rfl fld_53_0) (.none rfl) rfl rfl ?_
         refine WL.val (v_load1 rfl rfl one_3 (cellAt (v := .int .i64 (fOf xs 18)) rfl)) (.none rfl) rfl rfl ?_
         refine WL.val ((v_eql rfl rfl rfl).f (by omega)) (.none rfl) rfl rfl ?_
         refine WL.nil ?_
         refine WE.then_n ?_
         refine WC.cond_f rfl ?_
         refine WC.skip ?_
         refine WE.then_n ?_
         refine WC.seq ?_
         refine WC.region ?_
         refine WL.val (v_loadN rfl rfl many_53 rfl allAt) (.none rfl) rfl rfl ?_
         refine WL.val (v_build rfl rfl zero_28 plc_28 rfl) (.none rfl) rfl rfl ?_
         refine WL.storeW rfl rfl rfl rfl many_53 rfl rfl (.none rfl) rfl ?_
         refine WL.storeW rfl rfl rfl rfl many_28 rfl rfl (.none rfl) rfl ?_
         refine WL.nil ?_
         refine WE.then_n ?_
         refine WC.ret ?_
         refine WE.ret2 (P := Tryd.prog) (.inl rfl) Tryd.results18 (resRow rfl many_53 rfl) (resRow rfl many_28 rfl) ?_
         have hkx : xs.drop k = [] := List.drop_eq_nil_of_le (by omega)
         have e2 : openR ys = .inl (cs.map capD) := (by rw [hop, hkx, optsR_nil])
         have e1 : decM xs = .inl (MsL.d (MsL.opened (fOf xs 18) ys ad kc cs)) := (by rw [e00]; unfold bodyM; rw [if_pos h42, e2]; rfl)
         exact fun w' h => by
           unfold RMsP
           rw [e1]
           refine ⟨MsL.opened (fOf xs 18) ys ad kc cs, E ++ KO, rfl, rfl, ⟨⟨E, hV, fun e he => List.mem_append_left _ he⟩, fun c' hc' => ?_, ⟨[], Vec.nil 2, fun _ h => by cases h⟩, ⟨[], Vec.nil 2, fun _ h => by cases h⟩, AtAll.zero.mono fun _ h => by cases h⟩, h.sub (List.Sublist.append_left (List.sublist_append_left _ _) _)⟩
           obtain ⟨E', r1, r2⟩ := hO c' hc'
           exact ⟨E', r1, fun e he => List.mem_append_right _ (r2 e he)⟩
  ·
   refine WL.nil ?_
   refine WE.then_n ?_
   refine WC.cond_f rfl ?_
   refine WC.skip ?_
   refine WE.then_n ?_
   refine WC.seq ?_
   refine WC.seq ?_
   refine WC.region ?_
   refine WL.val (v_fieldAddr0 rfl rfl fld_53_0) (.none rfl) rfl rfl ?_
   refine WL.val (v_load1 rfl rfl one_3 (cellAt (v := .int .i64 (fOf xs 18)) rfl)) (.none rfl) rfl rfl ?_
   refine WL.test (v_eql rfl rfl rfl) (.none rfl) rfl rfl (fun h227 => ?_) (fun h227 => ?_)
   ·
    refine WL.nil ?_
    refine WE.then_n ?_
    refine WC.cond_t rfl ?_
    refine WC.seq ?_
    refine WC.quiet mixed (by kernel_rfl) ?_
    have hl23 : 23 ≤ xs.length := (by rw [hlst, if_neg h42, if_pos h227] at hle2; omega)
    have hnu : ∀ f, updR ys = .inr f → decM xs = .inr f := (fun f h => by rw [e00]; unfold bodyM; rw [if_neg h42, if_pos h227, h])
    have b0 := hb 0
    have b1 := hb 1
    obtain ⟨g, hgv⟩ := Int.eq_ofNat_of_zero_le (show 0 ≤ fOf ys 0 * 256 + fOf ys 1 by omega)
    refine WQ.val (v_move rfl rfl) (.none rfl) rfl rfl ?_
    refine WQ.val (v_indexAddr (lo := 19) rfl rfl rfl Tryd.underlying22 sz_5 rfl (by omega)) (.none rfl) rfl rfl ?_
    refine WQ.val (v_load1 rfl rfl one_5 ((fun w hS => hgc w _ 0 (by omega) hS))) (.none rfl) rfl rfl ?_
    refine WQ.val (v_conv rfl rfl Tryd.underlying3 Tryd.underlying5 (w_i64 (by omega) (by omega))) (.none rfl) rfl rfl ?_
    refine WQ.val (v_mul rfl rfl rfl (w_i64 (by omega) (by omega))) (.none rfl) rfl rfl ?_
    refine WQ.val (v_move rfl rfl) (.none rfl) rfl rfl ?_
    refine WQ.val (v_indexAddr (lo := 20) rfl rfl rfl Tryd.underlying22 sz_5 rfl (by omega)) (.none rfl) rfl rfl ?_
    refine WQ.val (v_load1 rfl rfl one_5 ((fun w hS => hgc w _ 1 (by omega) hS))) (.none rfl) rfl rfl ?_
    refine WQ.val (v_conv rfl rfl Tryd.underlying3 Tryd.underlying5 (w_i64 (by omega) (by omega))) (.none rfl) rfl rfl ?_
    refine WQ.val (v_add rfl rfl rfl (w_i64 (by omega) (by omega))) (.none rfl) rfl rfl ?_
    rw [hgv]
    refine WQ.val (v_assign rfl rfl) (.none rfl) rfl rfl ?_
    refine WQ.nil ?_
    refine WE.then_n ?_
    refine WC.seq ?_
    refine WC.seq ?_
    refine WC.region ?_
    refine WL.val (v_move rfl rfl) (.none rfl) rfl rfl ?_
    refine WL.val (v_add rfl rfl rfl (w_i64 (by omega) (by omega))) (.none rfl) rfl rfl ?_
    refine WL.val (v_move rfl rfl) (.none rfl) rfl rfl ?_
    refine WL.val (v_len_slice rfl rfl Tryd.underlying22) (.none rfl) rfl rfl ?_
    refine WL.test (v_gtr rfl rfl rfl) (.none rfl) rfl rfl (fun h242 => ?_) (fun h242 => ?_)
    ·
     refine WL.nil ?_
     refine WE.then_n ?_
     refine WC.cond_t rfl ?_
     refine WC.seq ?_
     refine WC.region ?_
     refine WL.val (v_build rfl rfl zero_53 plc_53 rfl) (.none rfl) rfl rfl ?_
     refine WL.call rfl rfl ck_40 (.none rfl) rfl rfl ?_
     intro w hS
     refine Calls.then (RFault_c w 3 1 none 0 0 (fun _ => 0) (RdO.nil w _)) hS ?_
     refine WL.storeW rfl rfl rfl rfl many_53 rfl rfl (.none rfl) rfl ?_
     refine WL.storeW rfl rfl rfl rfl many_28 rfl rfl (.none rfl) rfl ?_
     refine WL.nil ?_
     refine WE.then_n ?_
     refine WC.ret ?_
     refine WE.then_ret ?_
     refine WE.then_ret ?_
     refine WE.ret2 (P := Tryd.prog) (.inl rfl) Tryd.results18 (resRow rfl many_53 rfl) (resRow rfl many_28 rfl) ?_
     have eu : updR ys = .inr (3, 1, ⟨#[]⟩) := (by
       unfold updR
       by_cases hc1 : ys.length < 2 + g
       · rw [show countR ys = none by unfold countR; rw [if_pos (.inr (by omega))]]
       · rw [show countR ys = some ((ys.drop 2).take g, ys.drop (2 + g)) by unfold countR; rw [if_neg (by omega), hgv, Int.toNat_natCast]]
         dsimp only
         rw [show countR (ys.drop (2 + g)) = none by unfold countR; rw [if_pos (.inl (by rw [List.length_drop]; omega))]])
     exact fun w' h => RMsP.no (hnu _ eu) h
    ·
     refine WL.nil ?_
     refine WE.then_n ?_
     refine WC.cond_f rfl ?_
     refine WC.skip ?_
     refine WE.then_n ?_
     refine WC.seq ?_
     refine WC.quiet mixed (by kernel_rfl) ?_
     have ec1 : countR ys = some ((ys.drop 2).take g, ys.drop (2 + g)) := (by unfold countR; rw [if_neg (by omega), hgv, Int.toNat_natCast])
     have bg0 := hb (2 + g)
     have bg1 := hb (3 + g)
     obtain ⟨q, hqv⟩ := Int.eq_ofNat_of_zero_le (show 0 ≤ fOf ys (2 + g) * 256 + fOf ys (3 + g) by omega)
     have hfr : fOf (ys.drop (2 + g)) 0 * 256 + fOf (ys.drop (2 + g)) 1 = q := (by rw [fOf_drop, fOf_drop, show 2 + g + 1 = 3 + g by omega]; exact hqv)
     have hrl : (ys.drop (2 + g)).length = xs.length - (21 + g) := (by rw [List.length_drop]; omega)
     refine WQ.val (v_move rfl rfl) (.none rfl) rfl rfl ?_
     refine WQ.val (v_move rfl rfl) (.none rfl) rfl rfl ?_
     refine WQ.val (v_add rfl rfl rfl (show _ = ((19 + (2 + g) : Nat) : Int) from (w_i64 (by omega) (by omega)).trans (by omega))) (.none rfl) rfl rfl ?_
     refine WQ.val (v_indexAddr (lo := 19 + (2 + g)) rfl rfl rfl Tryd.underlying22 sz_5 (by omega) (by omega)) (.none rfl) rfl rfl ?_
     refine WQ.val (v_load1 rfl rfl one_5 ((fun w hS => hgc w _ (2 + g) (by omega) hS))) (.none rfl) rfl rfl ?_
     refine WQ.val (v_conv rfl rfl Tryd.underlying3 Tryd.underlying5 (w_i64 (by omega) (by omega))) (.none rfl) rfl rfl ?_
     refine WQ.val (v_mul rfl rfl rfl (w_i64 (by omega) (by omega))) (.none rfl) rfl rfl ?_
     refine WQ.val (v_move rfl rfl) (.none rfl) rfl rfl ?_
     refine WQ.val (v_move rfl rfl) (.none rfl) rfl rfl ?_
     refine WQ.val (v_add rfl rfl rfl (show _ = ((19 + (3 + g) : Nat) : Int) from (w_i64 (by omega) (by omega)).trans (by omega))) (.none rfl) rfl rfl ?_
     refine WQ.val (v_indexAddr (lo := 19 + (3 + g)) rfl rfl rfl Tryd.underlying22 sz_5 (by omega) (by omega)) (.none rfl) rfl rfl ?_
     refine WQ.val (v_load1 rfl rfl one_5 ((fun w hS => hgc w _ (3 + g) (by omega) hS))) (.none rfl) rfl rfl ?_
     refine WQ.val (v_conv rfl rfl Tryd.underlying3 Tryd.underlying5 (w_i64 (by omega) (by omega))) (.none rfl) rfl rfl ?_
     refine WQ.val (v_add rfl rfl rfl (w_i64 (by omega) (by omega))) (.none rfl) rfl rfl ?_
     rw [hqv]
     refine WQ.val (v_assign rfl rfl) (.none rfl) rfl rfl ?_
     refine WQ.nil ?_
     refine WE.then_n ?_
     refine WC.seq ?_
     refine WC.seq ?_
     refine WC.region ?_
     refine WL.val (v_move rfl rfl) (.none rfl) rfl rfl ?_
     refine WL.val (v_add rfl rfl rfl (w_i64 (by omega) (by omega))) (.none rfl) rfl rfl ?_
     refine WL.val (v_move rfl rfl) (.none rfl) rfl rfl ?_
     refine WL.val (v_add rfl rfl rfl (w_i64 (by omega) (by omega))) (.none rfl) rfl rfl ?_
     refine WL.val (v_move rfl rfl) (.none rfl) rfl rfl ?_
     refine WL.val (v_len_slice rfl rfl Tryd.underlying22) (.none rfl) rfl rfl ?_
     refine WL.test (v_gtr rfl rfl rfl) (.none rfl) rfl rfl (fun h265 => ?_) (fun h265 => ?_)
     ·
      refine WL.nil ?_
      refine WE.then_n ?_
      refine WC.cond_t rfl ?_
      refine WC.seq ?_
      refine WC.region ?_
      refine WL.val (v_build rfl rfl zero_53 plc_53 rfl) (.none rfl) rfl rfl ?_
      refine WL.call rfl rfl ck_40 (.none rfl) rfl rfl ?_
      intro w hS
      refine Calls.then (RFault_c w 3 1 none 0 0 (fun _ => 0) (RdO.nil w _)) hS ?_
      refine WL.storeW rfl rfl rfl rfl many_53 rfl rfl (.none rfl) rfl ?_
      refine WL.storeW rfl rfl rfl rfl many_28 rfl rfl (.none rfl) rfl ?_
      refine WL.nil ?_
      refine WE.then_n ?_
      refine WC.ret ?_
      refine WE.then_ret ?_
      refine WE.then_ret ?_
      refine WE.ret2 (P := Tryd.prog) (.inl rfl) Tryd.results18 (resRow rfl many_53 rfl) (resRow rfl many_28 rfl) ?_
      have eu : updR ys = .inr (3, 1, ⟨#[]⟩) := (by
        unfold updR
        rw [ec1]
        dsimp only
        rw [show countR (ys.drop (2 + g)) = none by unfold countR; rw [hfr, if_pos (.inr (by omega))]])
      exact fun w' h => RMsP.no (hnu _ eu) h
     ·
      refine WL.nil ?_
      refine WE.then_n ?_
      refine WC.cond_f rfl ?_
      refine WC.skip ?_
      refine WE.then_n ?_
      refine WC.seq ?_
      refine WC.region ?_
      have ec2 : countR (ys.drop (2 + g)) = some (((ys.drop (2 + g)).drop 2).take q, (ys.drop (2 + g)).drop (2 + q)) := (by unfold countR; rw [hfr, if_neg (by omega), Int.toNat_natCast])
      obtain ⟨xg, hxg⟩ : ∃ z, z = (ys.drop 2).take g := ⟨_, rfl⟩
      obtain ⟨xa, hxa⟩ : ∃ z, z = ((ys.drop (2 + g)).drop 2).take q := ⟨_, rfl⟩
      obtain ⟨xn, hxn⟩ : ∃ z, z = (ys.drop (2 + g)).drop (2 + q) := ⟨_, rfl⟩
      have hgl : xg.length = g := (by rw [hxg, List.length_take, List.length_drop]; omega)
      have hal : xa.length = q := (by rw [hxa, List.length_take, List.length_drop]; omega)
      have hnl : xn.length = xs.length - (23 + g + q) := (by rw [hxn, List.length_drop]; omega)
      have hWg : Win w0 b (sAddr o 21 c 1) (c - 21) xg := (by rw [hxg, show (ys.drop 2).take g = (xs.take (21 + g)).drop 21 by rw [hys, List.drop_drop, List.drop_take, Nat.add_sub_cancel_left]]; exact (hW.take _).drop _)
      have hWa : Win w0 b (sAddr o (23 + g) c 1) (c - (23 + g)) xa := (by rw [hxa, show ((ys.drop (2 + g)).drop 2).take q = (xs.take (23 + g + q)).drop (23 + g) by rw [hys, List.drop_drop, List.drop_drop, List.drop_take, Nat.add_sub_cancel_left]; congr 2; omega]; exact (hW.take _).drop _)
      have hWn : Win w0 b (sAddr o (23 + g + q) c 1) (c - (23 + g + q)) xn := (by rw [hxn, show (ys.drop (2 + g)).drop (2 + q) = xs.drop (23 + g + q) by rw [hys, List.drop_drop, List.drop_drop]; congr 1; omega]; exact hW.drop _)
      rw [← hxg] at ec1
      rw [← hxa, ← hxn] at ec2
      refine WL.val (v_move rfl rfl) (.none rfl) rfl rfl ?_
      refine WL.val (v_move rfl rfl) (.none rfl) rfl rfl ?_
      refine WL.val (v_add rfl rfl rfl (show _ = ((21 + g : Nat) : Int) from (w_i64 (by omega) (by omega)).trans (by omega))) (.none rfl) rfl rfl ?_
      refine WL.val ((v_slice_lh (lo := 21) (hi := 21 + g) rfl rfl rfl rfl Tryd.underlying22 sz_5 rfl rfl (by omega) (by omega))) (.none rfl) rfl rfl ?_
      rw [show 21 + g - 21 = xg.length by omega]
      refine WL.call rfl rfl ck_43 (.none rfl) rfl rfl ?_
      intro w1 hS
      refine (RRead_u w1 b (sAddr o 21 c 1) (c - 21) xg (hWg.st hS) (by omega)).mono ?_
      rintro e w' ⟨gs, gad, gc, Eg, ok3, rfl, hVg, hSg, hbad3, hok3⟩
      refine ⟨_, _, rfl, hS.join hSg, ?_⟩
      refine WL.val (v_move rfl rfl) (.none rfl) rfl rfl ?_
      refine WL.val (v_extract rfl rfl rfl) (.none rfl) rfl rfl ?_
      refine WL.val (v_extract rfl rfl rfl) (.none rfl) rfl rfl ?_
      skip
      cases ok3
      ·
       refine WL.val (v_assign rfl rfl) (.none rfl) rfl rfl ?_
       refine WL.val (v_assign rfl rfl) (.none rfl) rfl rfl ?_
       refine WL.nil ?_
       refine WE.then_n ?_
       refine WC.seq ?_
       refine WC.seq ?_
       refine WC.region ?_
       refine WL.val (v_move rfl rfl) (.none rfl) rfl rfl ?_
       refine WL.val (v_not rfl rfl rfl) (.none rfl) rfl rfl ?_
       refine WL.nil ?_
       refine WE.then_n ?_
       refine WC.cond_t rfl ?_
       refine WC.seq ?_
       refine WC.region ?_
       refine WL.val (v_build rfl rfl zero_53 plc_53 rfl) (.none rfl) rfl rfl ?_
       refine WL.call rfl rfl ck_40 (.none rfl) rfl rfl ?_
       intro w hS
       refine Calls.then (RFault_c w 3 1 none 0 0 (fun _ => 0) (RdO.nil w _)) hS ?_
       refine WL.storeW rfl rfl rfl rfl many_53 rfl rfl (.none rfl) rfl ?_
       refine WL.storeW rfl rfl rfl rfl many_28 rfl rfl (.none rfl) rfl ?_
       refine WL.nil ?_
       refine WE.then_n ?_
       refine WC.ret ?_
       refine WE.then_ret ?_
       refine WE.then_ret ?_
       refine WE.ret2 (P := Tryd.prog) (.inl rfl) Tryd.results18 (resRow rfl many_53 rfl) (resRow rfl many_28 rfl) ?_
       have eu : updR ys = .inr (3, 1, ⟨#[]⟩) := (by unfold updR; rw [ec1]; dsimp only; rw [ec2]; dsimp only; rw [hbad3 rfl])
       exact fun w' h => RMsP.no (hnu _ eu) h
      ·
       refine WL.val (v_assign rfl rfl) (.none rfl) rfl rfl ?_
       refine WL.val (v_assign rfl rfl) (.none rfl) rfl rfl ?_
       refine WL.nil ?_
       refine WE.then_n ?_
       refine WC.seq ?_
       refine WC.seq ?_
       refine WC.region ?_
       refine WL.val (v_move rfl rfl) (.none rfl) rfl rfl ?_
       refine WL.val (v_not rfl rfl rfl) (.none rfl) rfl rfl ?_
       refine WL.nil ?_
       refine WE.then_n ?_
       refine WC.cond_f rfl ?_
       refine WC.skip ?_
       refine WE.then_n ?_
       refine WC.seq ?_
       refine WC.region ?_
       refine WL.val (v_move rfl rfl) (.none rfl) rfl rfl ?_
       refine WL.val (v_move rfl rfl) (.none rfl) rfl rfl ?_
       refine WL.val (v_add rfl rfl rfl (show _ = ((23 + g : Nat) : Int) from (w_i64 (by omega) (by omega)).trans (by omega))) (.none rfl) rfl rfl ?_
       refine WL.val (v_move rfl rfl) (.none rfl) rfl rfl ?_
       refine WL.val (v_add rfl rfl rfl (show _ = ((23 + g : Nat) : Int) from (w_i64 (by omega) (by omega)).trans (by omega))) (.none rfl) rfl rfl ?_
       refine WL.val (v_move rfl rfl) (.none rfl) rfl rfl ?_
       refine WL.val (v_add rfl rfl rfl (show _ = ((23 + g + q : Nat) : Int) from (w_i64 (by omega) (by omega)).trans (by omega))) (.none rfl) rfl rfl ?_
       refine WL.val ((v_slice_lh (lo := 23 + g) (hi := 23 + g + q) rfl rfl rfl rfl Tryd.underlying22 sz_5 rfl rfl (by omega) (by omega))) (.none rfl) rfl rfl ?_
       rw [show 23 + g + q - (23 + g) = xa.length by omega]
       refine WL.call rfl rfl ck_44 (.none rfl) rfl rfl ?_
       intro w1 hS
       refine (RDec06_u w1 b (sAddr o (23 + g) c 1) (c - (23 + g)) xa (hWa.st hS) (by omega)).mono ?_
       rintro e w' ⟨ok4, s4, d4, a, Ka, rfl, hAa, hSa, hbad4, hok4⟩
       refine ⟨_, _, rfl, hS.join hSa, ?_⟩
       refine WL.val (v_move rfl rfl) (.none rfl) rfl rfl ?_
       refine WL.val (v_extract rfl rfl rfl) (.none rfl) rfl rfl ?_
       refine WL.val (v_extract rfl rfl rfl) (.none rfl) rfl rfl ?_
       refine WL.alloc rfl zero_51 (.none rfl) rfl rfl ?_
       intro g13 hg13
       refine WL.alloc rfl zero_28 (.none rfl) rfl rfl ?_
       intro g14 hg14
       refine WL.storeW rfl rfl rfl rfl many_51 rfl rfl (.none rfl) rfl ?_
       refine WL.storeW rfl rfl rfl rfl many_28 rfl rfl (.none rfl) rfl ?_
       refine WL.as (L' := .row g14 (fltL (if ok4 then 0 else 3) s4 d4) :: .row g13 a.rcells :: (Ka ++ (Eg ++ (.row g6 (MsL.zero (fOf xs 18)).rcells :: .row g5 (fltL 0 0 ⟨#[]⟩) :: .row g3 (fltL 0 0 ⟨#[]⟩) :: [.row g2 (MsL.zero 0).rcells])))) rfl ?_
       cases ok4
       ·
        refine WL.nil ?_
        refine WE.then_n ?_
        refine WC.seq ?_
        refine WC.seq ?_
        refine WC.region ?_
        refine WL.val (v_fieldAddr0 rfl rfl fld_28_0) (.none rfl) rfl rfl ?_
        refine WL.val (v_load1 rfl rfl one_3 (cellAt rfl)) (.none rfl) rfl rfl ?_
        refine WL.val ((v_neq rfl rfl rfl).t ((by intro h; simp at h))) (.none rfl) rfl rfl ?_
        refine WL.nil ?_
        refine WE.then_n ?_
        refine WC.cond_t rfl ?_
        refine WC.seq ?_
        refine WC.orders mixed ?_
        refine WR.first (g := 3) [0] (by kernel_rfl) (by kernel_rfl) ?_
        refine WP.val (v_build rfl rfl zero_53 plc_53 rfl) (.none rfl) rfl rfl ?_
        refine WP.nil ?_
        refine WR.each (g := 2) [1, 2] (by kernel_rfl) (by decide) ?_
        refine ⟨?_, ?_⟩
        ·
         refine WL.val (v_loadN rfl rfl many_28 rfl allAt) (.none rfl) rfl rfl ?_
         refine WL.nilR ?_
         refine WR.ones (g := 0) [2, 3] (by kernel_rfl) ?_
         refine WL.storeW rfl rfl rfl rfl many_53 rfl rfl (.none rfl) rfl ?_
         refine WL.storeW rfl rfl rfl rfl many_28 rfl rfl (.none rfl) rfl ?_
         refine WL.nilR ?_
         refine WR.done (by kernel_rfl) ?_
         refine WE.then_n ?_
         refine WC.ret ?_
         refine WE.then_ret ?_
         refine WE.then_ret ?_
         refine WE.ret2 (P := Tryd.prog) (.inl rfl) Tryd.results18 (resRow rfl many_53 rfl) (resRow rfl many_28 rfl) ?_
         have eu : updR ys = .inr (3, s4, d4) := (by unfold updR; rw [ec1]; dsimp only; rw [ec2]; dsimp only; rw [hok3 rfl]; dsimp only; rw [hbad4 rfl])
         exact fun w' h => RMsP.no (hnu _ eu) h
        ·
         refine WL.storeW rfl rfl rfl rfl many_53 rfl rfl (.none rfl) rfl ?_
         refine WL.nilR ?_
         refine WR.read (g := 1) [1] (by kernel_rfl) (by kernel_rfl) (by kernel_rfl) (by kernel_rfl) rfl ?_
         refine WQ.val (v_loadN rfl rfl many_28 rfl allAt) (.none rfl) rfl rfl ?_
         refine WQ.nilR ?_
         refine WR.ones (g := 0) [3] (by kernel_rfl) ?_
         refine WL.storeW rfl rfl rfl rfl many_28 rfl rfl (.none rfl) rfl ?_
         refine WL.nilR ?_
         refine WR.done (by kernel_rfl) ?_
         refine WE.then_n ?_
         refine WC.ret ?_
         refine WE.then_ret ?_
         refine WE.then_ret ?_
         refine WE.ret2 (P := Tryd.prog) (.inl rfl) Tryd.results18 (resRow rfl many_53 rfl) (resRow rfl many_28 rfl) ?_
         have eu : updR ys = .inr (3, s4, d4) := (by unfold updR; rw [ec1]; dsimp only; rw [ec2]; dsimp only; rw [hok3 rfl]; dsimp only; rw [hbad4 rfl])
         exact fun w' h => RMsP.no (hnu _ eu) h
       ·
        refine WL.nil ?_
        refine WE.then_n ?_
        refine WC.seq ?_
        refine WC.seq ?_
        refine WC.region ?_
        refine WL.val (v_fieldAddr0 rfl rfl fld_28_0) (.none rfl) rfl rfl ?_
        refine WL.val (v_load1 rfl rfl one_3 (cellAt (g := g14) (v := .int .i64 0) rfl)) (.none rfl) rfl rfl ?_
        refine WL.val ((v_neq rfl rfl rfl).f (by omega)) (.none rfl) rfl rfl ?_
        refine WL.nil ?_
        refine WE.then_n ?_
        refine WC.cond_f rfl ?_
        refine WC.skip ?_
        refine WE.then_n ?_
        refine WC.seq ?_
        refine WC.region ?_
        refine WL.val (v_move rfl rfl) (.none rfl) rfl rfl ?_
        refine WL.val (v_move rfl rfl) (.none rfl) rfl rfl ?_
        refine WL.val (v_add rfl rfl rfl (show _ = ((23 + g : Nat) : Int) from (w_i64 (by omega) (by omega)).trans (by omega))) (.none rfl) rfl rfl ?_
        refine WL.val (v_move rfl rfl) (.none rfl) rfl rfl ?_
        refine WL.val (v_add rfl rfl rfl (show _ = ((23 + g + q : Nat) : Int) from (w_i64 (by omega) (by omega)).trans (by omega))) (.none rfl) rfl rfl ?_
        refine WL.val ((v_slice_lo (lo := 23 + g + q) rfl rfl rfl Tryd.underlying22 sz_5 rfl (by omega))) (.none rfl) rfl rfl ?_
        obtain ⟨rfl, rfl, dd, ed, ea⟩ := hok4 rfl
        rw [show xs.length - (23 + g + q) = xn.length by omega]
        refine WL.call rfl rfl ck_43 (.none rfl) rfl rfl ?_
        intro w1 hS
        refine (RRead_u w1 b (sAddr o (23 + g + q) c 1) (c - (23 + g + q)) xn (hWn.st hS) (by omega)).mono ?_
        rintro e w' ⟨ns, nad, nc, En, ok5, rfl, hVn, hSn, hbad5, hok5⟩
        refine ⟨_, _, rfl, hS.join hSn, ?_⟩
        have e1 : updR ys = match netsR xn with
            | none => .inr (3, 10, ⟨#[]⟩)
            | some ns => if 200 < gs.length ∨ 200 < ns.length then .inr (6, 1, ⟨#[]⟩) else if missI dd.has ≠ 0 ∧ 0 < ns.length then .inr (3, 3, oneS (missI dd.has)) else .inl (gs, { dd with others := sortO dd.others }, ns) := (by
          unfold updR; rw [ec1]; dsimp only; rw [ec2]; dsimp only; rw [hok3 rfl]; dsimp only; rw [ed]; cases netsR xn <;> rfl)
        have hah : dd.has = a.has := (by have := congrArg AtD.has ea; exact this.symm)
        rw [← ea, hah] at e1
        have hmi := missI_b a.has
        have hSn2 := decD_seen ed hWa.bys
        have hgl2 := netsR_len _ (Nat.le_refl _) (hok3 rfl)
        refine WL.val (v_move rfl rfl) (.none rfl) rfl rfl ?_
        refine WL.val (v_extract rfl rfl rfl) (.none rfl) rfl rfl ?_
        refine WL.val (v_extract rfl rfl rfl) (.none rfl) rfl rfl ?_
        skip
        cases ok5
        ·
         refine WL.val (v_assign rfl rfl) (.none rfl) rfl rfl ?_
         refine WL.val (v_assign rfl rfl) (.none rfl) rfl rfl ?_
         refine WL.nil ?_
         refine WE.then_n ?_
         refine WC.seq ?_
         refine WC.seq ?_
         refine WC.region ?_
         refine WL.val (v_move rfl rfl) (.none rfl) rfl rfl ?_
         refine WL.val (v_not rfl rfl rfl) (.none rfl) rfl rfl ?_
         refine WL.nil ?_
         refine WE.then_n ?_
         refine WC.cond_t rfl ?_
         refine WC.seq ?_
         refine WC.region ?_
         refine WL.val (v_build rfl rfl zero_53 plc_53 rfl) (.none rfl) rfl rfl ?_
         refine WL.call rfl rfl ck_40 (.none rfl) rfl rfl ?_
         intro w hS
         refine Calls.then (RFault_c w 3 10 none 0 0 (fun _ => 0) (RdO.nil w _)) hS ?_
         refine WL.storeW rfl rfl rfl rfl many_53 rfl rfl (.none rfl) rfl ?_
         refine WL.storeW rfl rfl rfl rfl many_28 rfl rfl (.none rfl) rfl ?_
         refine WL.nil ?_
         refine WE.then_n ?_
         refine WC.ret ?_
         refine WE.then_ret ?_
         refine WE.then_ret ?_
         refine WE.ret2 (P := Tryd.prog) (.inl rfl) Tryd.results18 (resRow rfl many_53 rfl) (resRow rfl many_28 rfl) ?_
         rw [hbad5 rfl] at e1
         exact fun w' h => RMsP.no (hnu _ (by rw [e1]; try rfl)) h
        ·
         refine WL.val (v_assign rfl rfl) (.none rfl) rfl rfl ?_
         refine WL.val (v_assign rfl rfl) (.none rfl) rfl rfl ?_
         refine WL.nil ?_
         refine WE.then_n ?_
         refine WC.seq ?_
         refine WC.seq ?_
         refine WC.region ?_
         refine WL.val (v_move rfl rfl) (.none rfl) rfl rfl ?_
         refine WL.val (v_not rfl rfl rfl) (.none rfl) rfl rfl ?_
         refine WL.nil ?_
         refine WE.then_n ?_
         refine WC.cond_f rfl ?_
         refine WC.skip ?_
         refine WE.then_n ?_
         refine WC.seq ?_
         refine WC.seq ?_
         refine WC.region ?_
         have hnl2 := netsR_len _ (Nat.le_refl _) (hok5 rfl)
         rw [hok5 rfl] at e1
         dsimp only at e1
         refine WL.val (v_move rfl rfl) (.none rfl) rfl rfl ?_
         refine WL.val (v_len_slice rfl rfl Tryd.underlying47) (.none rfl) rfl rfl ?_
         refine WL.test (v_gtr rfl rfl rfl) (.none rfl) rfl rfl (fun h313 => ?_) (fun h313 => ?_)
         ·
          refine WL.val (v_move rfl rfl) (.none rfl) rfl rfl ?_
          refine WL.skip rfl rfl rfl rfl rfl rfl ?_
          refine WL.skip rfl rfl rfl rfl rfl rfl ?_
          refine WL.skip rfl rfl rfl rfl rfl rfl ?_
          refine WL.val (v_pick_t rfl rfl rfl) (.none rfl) rfl rfl ?_
          refine WL.nil ?_
          refine WE.then_n ?_
          refine WC.cond_t rfl ?_
          refine WC.seq ?_
          refine WC.region ?_
          refine WL.val (v_build rfl rfl zero_53 plc_53 rfl) (.none rfl) rfl rfl ?_
          refine WL.call rfl rfl ck_40 (.none rfl) rfl rfl ?_
          intro w hS
          refine Calls.then (RFault_c w 6 1 none 0 0 (fun _ => 0) (RdO.nil w _)) hS ?_
          refine WL.storeW rfl rfl rfl rfl many_53 rfl rfl (.none rfl) rfl ?_
          refine WL.storeW rfl rfl rfl rfl many_28 rfl rfl (.none rfl) rfl ?_
          refine WL.nil ?_
          refine WE.then_n ?_
          refine WC.ret ?_
          refine WE.then_ret ?_
          refine WE.then_ret ?_
          refine WE.ret2 (P := Tryd.prog) (.inl rfl) Tryd.results18 (resRow rfl many_53 rfl) (resRow rfl many_28 rfl) ?_
          rw [if_pos (by omega)] at e1
          exact fun w' h => RMsP.no (hnu _ (by rw [e1]; try rfl)) h
         ·
          refine WL.val (v_move rfl rfl) (.none rfl) rfl rfl ?_
          refine WL.val (v_move rfl rfl) (.some rfl rfl rfl) rfl rfl ?_
          refine WL.val (v_len_slice rfl rfl Tryd.underlying47) (.some rfl rfl rfl) rfl rfl ?_
          refine WL.test (v_gtr rfl rfl rfl) (.some rfl rfl rfl) rfl rfl (fun h317 => ?_) (fun h317 => ?_)
          ·
           refine WL.val (v_pick_f rfl rfl rfl) (.none rfl) rfl rfl ?_
           refine WL.nil ?_
           refine WE.then_n ?_
           refine WC.cond_t rfl ?_
           refine WC.seq ?_
           refine WC.region ?_
           refine WL.val (v_build rfl rfl zero_53 plc_53 rfl) (.none rfl) rfl rfl ?_
           refine WL.call rfl rfl ck_40 (.none rfl) rfl rfl ?_
           intro w hS
           refine Calls.then (RFault_c w 6 1 none 0 0 (fun _ => 0) (RdO.nil w _)) hS ?_
           refine WL.storeW rfl rfl rfl rfl many_53 rfl rfl (.none rfl) rfl ?_
           refine WL.storeW rfl rfl rfl rfl many_28 rfl rfl (.none rfl) rfl ?_
           refine WL.nil ?_
           refine WE.then_n ?_
           refine WC.ret ?_
           refine WE.then_ret ?_
           refine WE.then_ret ?_
           refine WE.ret2 (P := Tryd.prog) (.inl rfl) Tryd.results18 (resRow rfl many_53 rfl) (resRow rfl many_28 rfl) ?_
           rw [if_pos (by omega)] at e1
           exact fun w' h => RMsP.no (hnu _ (by rw [e1]; try rfl)) h
          ·
           refine WL.val (v_pick_f rfl rfl rfl) (.none rfl) rfl rfl ?_
           refine WL.nil ?_
           refine WE.then_n ?_
           refine WC.cond_f rfl ?_
           refine WC.skip ?_
           refine WE.then_n ?_
           refine WC.seq ?_
           refine WC.seq ?_
           refine WC.region ?_
           rw [if_neg (by omega)] at e1
           refine WL.val (v_move rfl rfl) (.none rfl) rfl rfl ?_
           refine WL.val (v_len_slice rfl rfl Tryd.underlying47) (.none rfl) rfl rfl ?_
           refine WL.test (v_gtr rfl rfl rfl) (.none rfl) rfl rfl (fun h323 => ?_) (fun h323 => ?_)
           ·
            refine WL.val (v_move rfl rfl) (.none rfl) rfl rfl ?_
            refine WL.val (v_loadN rfl rfl many_51 rfl allAt) (.some rfl rfl rfl) rfl rfl ?_
            refine WL.call rfl rfl ck_45 (.some rfl rfl rfl) rfl rfl ?_
            intro w hS
            refine Calls.then (RMissing_c w a (by omega) (by omega)) hS ?_
            refine WL.test (v_gtr rfl rfl rfl) (.some rfl rfl rfl) rfl rfl (fun h327 => ?_) (fun h327 => ?_)
            ·
             refine WL.val (v_pick_t rfl rfl rfl) (.none rfl) rfl rfl ?_
             refine WL.nil ?_
             refine WE.then_n ?_
             refine WC.cond_t rfl ?_
             refine WC.seq ?_
             refine WC.region ?_
             refine WL.val (v_build rfl rfl zero_53 plc_53 rfl) (.none rfl) rfl rfl ?_
             refine WL.val (v_loadN rfl rfl many_51 rfl allAt) (.none rfl) rfl rfl ?_
             refine WL.call rfl rfl ck_45 (.none rfl) rfl rfl ?_
             intro w hS
             refine Calls.then (RMissing_c w a (by omega) (by omega)) hS ?_
             refine WL.val (v_conv rfl rfl Tryd.underlying5 Tryd.underlying3 (w_u8 (by omega) (by omega))) (.none rfl) rfl rfl ?_
             refine WL.buildSlice rfl rfl Tryd.underlying22 sz_5 zero_5 rfl (by decide) rfl (.none rfl) rfl rfl ?_
             intro g333 hg333
             refine WL.call rfl rfl ck_40 (.none rfl) rfl rfl ?_
             intro w hS
             refine Calls.then (RFault_c w 3 3 (some ⟨g333, 0, none⟩) 1 1 (fun _ => missI a.has) (fun _ => ⟨g333, 0, rfl, fun i hi => by
             obtain rfl : i = 0 := (by omega)
             exact hS.cell (g := g333) rfl⟩)) hS ?_
             refine WL.storeW rfl rfl rfl rfl many_53 rfl rfl (.none rfl) rfl ?_
             refine WL.storeW rfl rfl rfl rfl many_28 rfl rfl (.none rfl) rfl ?_
             refine WL.nil ?_
             refine WE.then_n ?_
             refine WC.ret ?_
             refine WE.then_ret ?_
             refine WE.then_ret ?_
             refine WE.ret2 (P := Tryd.prog) (.inl rfl) Tryd.results18 (resRow rfl many_53 rfl) (resRow rfl many_28 rfl) ?_
             rw [if_pos ⟨by omega, by omega⟩] at e1
             exact fun w' h => RMsP.no (hnu _ (by rw [e1]; try rfl)) h
            ·
             refine WL.val (v_pick_t rfl rfl rfl) (.none rfl) rfl rfl ?_
             refine WL.nil ?_
             refine WE.then_n ?_
             refine WC.cond_f rfl ?_
             refine WC.skip ?_
             refine WE.then_n ?_
             refine WC.seq ?_
             refine WC.region ?_
             refine WL.val (v_move rfl rfl) (.none rfl) rfl rfl ?_
             refine WL.val (v_fieldAddr0 rfl rfl fld_53_5) (.none rfl) rfl rfl ?_
             refine WL.store1 rfl rfl rfl rfl one_47 (Nat.le_of_ble_eq_true rfl) (.none rfl) rfl ?_
             refine WL.nil ?_
             refine WE.then_n ?_
             refine WC.seq ?_
             refine WC.region ?_
             refine WL.val (v_loadN rfl rfl many_51 rfl allAt) (.none rfl) rfl rfl ?_
             refine WL.val (v_fieldAddr0 rfl rfl fld_53_6) (.none rfl) rfl rfl ?_
             refine WL.storeN rfl rfl rfl rfl many_51 rfl (by first | exact Nat.le_of_ble_eq_true rfl | simp) (.none rfl) rfl ?_
             refine WL.nil ?_
             refine WE.then_n ?_
             refine WC.region ?_
             refine WL.val (v_move rfl rfl) (.none rfl) rfl rfl ?_
             refine WL.val (v_fieldAddr0 rfl rfl fld_53_7) (.none rfl) rfl rfl ?_
             refine WL.store1 rfl rfl rfl rfl one_47 (Nat.le_of_ble_eq_true rfl) (.none rfl) rfl ?_
             refine WL.as (L' := En ++ (.row g14 (fltL 0 0 ⟨#[]⟩) :: .row g13 a.rcells :: (Ka ++ (Eg ++ (.row g6 (MsL.upd (fOf xs 18) gad gc gs a nad nc ns).rcells :: .row g5 (fltL 0 0 ⟨#[]⟩) :: .row g3 (fltL 0 0 ⟨#[]⟩) :: [.row g2 (MsL.zero 0).rcells]))))) rfl ?_
             refine WL.nil ?_
             refine WE.then_n ?_
             refine WC.seq ?_
             refine WC.seq ?_
             refine WC.region ?_
             refine WL.val (v_fieldAddr0 rfl rfl fld_53_0) (.none rfl) rfl rfl ?_
             refine WL.val (v_load1 rfl rfl one_3 (cellAt (v := .int .i64 (fOf xs 18)) rfl)) (.none rfl) rfl rfl ?_
             refine WL.val ((v_eql rfl rfl rfl).f (by omega)) (.none rfl) rfl rfl ?_
             refine WL.nil ?_
             refine WE.then_n ?_
             refine WC.cond_f rfl ?_
             refine WC.skip ?_
             refine WE.then_n ?_
             refine WC.seq ?_
             refine WC.region ?_
             refine WL.val (v_loadN rfl rfl many_53 rfl allAt) (.none rfl) rfl rfl ?_
             refine WL.val (v_build rfl rfl zero_28 plc_28 rfl) (.none rfl) rfl rfl ?_
             refine WL.storeW rfl rfl rfl rfl many_53 rfl rfl (.none rfl) rfl ?_
             refine WL.storeW rfl rfl rfl rfl many_28 rfl rfl (.none rfl) rfl ?_
             refine WL.nil ?_
             refine WE.then_n ?_
             refine WC.ret ?_
             refine WE.ret2 (P := Tryd.prog) (.inl rfl) Tryd.results18 (resRow rfl many_53 rfl) (resRow rfl many_28 rfl) ?_
             rw [if_neg (fun h => h327 (by omega))] at e1
             have e2 : decM xs = .inl (MsL.d (MsL.upd (fOf xs 18) gad gc gs a nad nc ns)) := (by rw [e00]; unfold bodyM; rw [if_neg h42, if_pos h227, e1]; rfl)
             exact fun w' h => by
               unfold RMsP
               rw [e2]
               have hM : MsAll (En ++ (.row g14 (fltL 0 0 ⟨#[]⟩) :: .row g13 a.rcells :: (Ka ++ Eg))) (MsL.upd (fOf xs 18) gad gc gs a nad nc ns) := ⟨⟨[], Vec.nil 2, fun _ h => by cases h⟩, (fun _ h => by cases h), ⟨Eg, hVg, fun e he => List.mem_append_right _ (List.mem_cons_of_mem _ (List.mem_cons_of_mem _ (List.mem_append_right _ he)))⟩, ⟨En, hVn, fun e he => List.mem_append_left _ he⟩, hAa.mono fun e he => List.mem_append_right _ (List.mem_cons_of_mem _ (List.mem_cons_of_mem _ (List.mem_append_left _ he)))⟩
               exact ⟨_, _, rfl, rfl, hM, h.sub (List.Sublist.append_left (.cons_cons _ (.cons_cons _ (List.Sublist.append_left (List.sublist_append_left _ _) _))) _)⟩
           ·
            refine WL.val (v_move rfl rfl) (.none rfl) rfl rfl ?_
            refine WL.skip rfl rfl rfl rfl rfl rfl ?_
            refine WL.skip rfl rfl rfl rfl rfl rfl ?_
            refine WL.skip rfl rfl rfl rfl rfl rfl ?_
            refine WL.val (v_pick_f rfl rfl rfl) (.none rfl) rfl rfl ?_
            refine WL.nil ?_
            refine WE.then_n ?_
            refine WC.cond_f rfl ?_
            refine WC.skip ?_
            refine WE.then_n ?_
            refine WC.seq ?_
            refine WC.region ?_
            refine WL.val (v_move rfl rfl) (.none rfl) rfl rfl ?_
            refine WL.val (v_fieldAddr0 rfl rfl fld_53_5) (.none rfl) rfl rfl ?_
            refine WL.store1 rfl rfl rfl rfl one_47 (Nat.le_of_ble_eq_true rfl) (.none rfl) rfl ?_
            refine WL.nil ?_
            refine WE.then_n ?_
            refine WC.seq ?_
            refine WC.region ?_
            refine WL.val (v_loadN rfl rfl many_51 rfl allAt) (.none rfl) rfl rfl ?_
            refine WL.val (v_fieldAddr0 rfl rfl fld_53_6) (.none rfl) rfl rfl ?_
            refine WL.storeN rfl rfl rfl rfl many_51 rfl (by first | exact Nat.le_of_ble_eq_true rfl | simp) (.none rfl) rfl ?_
            refine WL.nil ?_
            refine WE.then_n ?_
            refine WC.region ?_
            refine WL.val (v_move rfl rfl) (.none rfl) rfl rfl ?_
            refine WL.val (v_fieldAddr0 rfl rfl fld_53_7) (.none rfl) rfl rfl ?_
            refine WL.store1 rfl rfl rfl rfl one_47 (Nat.le_of_ble_eq_true rfl) (.none rfl) rfl ?_
            refine WL.as (L' := En ++ (.row g14 (fltL 0 0 ⟨#[]⟩) :: .row g13 a.rcells :: (Ka ++ (Eg ++ (.row g6 (MsL.upd (fOf xs 18) gad gc gs a nad nc ns).rcells :: .row g5 (fltL 0 0 ⟨#[]⟩) :: .row g3 (fltL 0 0 ⟨#[]⟩) :: [.row g2 (MsL.zero 0).rcells]))))) rfl ?_
            refine WL.nil ?_
            refine WE.then_n ?_
            refine WC.seq ?_
            refine WC.seq ?_
            refine WC.region ?_
            refine WL.val (v_fieldAddr0 rfl rfl fld_53_0) (.none rfl) rfl rfl ?_
            refine WL.val (v_load1 rfl rfl one_3 (cellAt (v := .int .i64 (fOf xs 18)) rfl)) (.none rfl) rfl rfl ?_
            refine WL.val ((v_eql rfl rfl rfl).f (by omega)) (.none rfl) rfl rfl ?_
            refine WL.nil ?_
            refine WE.then_n ?_
            refine WC.cond_f rfl ?_
            refine WC.skip ?_
            refine WE.then_n ?_
            refine WC.seq ?_
            refine WC.region ?_
            refine WL.val (v_loadN rfl rfl many_53 rfl allAt) (.none rfl) rfl rfl ?_
            refine WL.val (v_build rfl rfl zero_28 plc_28 rfl) (.none rfl) rfl rfl ?_
            refine WL.storeW rfl rfl rfl rfl many_53 rfl rfl (.none rfl) rfl ?_
            refine WL.storeW rfl rfl rfl rfl many_28 rfl rfl (.none rfl) rfl ?_
            refine WL.nil ?_
            refine WE.then_n ?_
            refine WC.ret ?_
            refine WE.ret2 (P := Tryd.prog) (.inl rfl) Tryd.results18 (resRow rfl many_53 rfl) (resRow rfl many_28 rfl) ?_
            rw [if_neg (fun h => h323 (by omega))] at e1
            have e2 : decM xs = .inl (MsL.d (MsL.upd (fOf xs 18) gad gc gs a nad nc ns)) := (by rw [e00]; unfold bodyM; rw [if_neg h42, if_pos h227, e1]; rfl)
            exact fun w' h => by
              unfold RMsP
              rw [e2]
              have hM : MsAll (En ++ (.row g14 (fltL 0 0 ⟨#[]⟩) :: .row g13 a.rcells :: (Ka ++ Eg))) (MsL.upd (fOf xs 18) gad gc gs a nad nc ns) := ⟨⟨[], Vec.nil 2, fun _ h => by cases h⟩, (fun _ h => by cases h), ⟨Eg, hVg, fun e he => List.mem_append_right _ (List.mem_cons_of_mem _ (List.mem_cons_of_mem _ (List.mem_append_right _ he)))⟩, ⟨En, hVn, fun e he => List.mem_append_left _ he⟩, hAa.mono fun e he => List.mem_append_right _ (List.mem_cons_of_mem _ (List.mem_cons_of_mem _ (List.mem_append_left _ he)))⟩
              exact ⟨_, _, rfl, rfl, hM, h.sub (List.Sublist.append_left (.cons_cons _ (.cons_cons _ (List.Sublist.append_left (List.sublist_append_left _ _) _))) _)⟩
   ·
    refine WL.nil ?_
    refine WE.then_n ?_
    refine WC.cond_f rfl ?_
    refine WC.skip ?_
    refine WE.then_n ?_
    refine WC.seq ?_
    refine WC.seq ?_
    refine WC.region ?_
    refine WL.val (v_fieldAddr0 rfl rfl fld_53_0) (.none rfl) rfl rfl ?_
    refine WL.val (v_load1 rfl rfl one_3 (cellAt (v := .int .i64 (fOf xs 18)) rfl)) (.none rfl) rfl rfl ?_
    refine WL.test (v_eql rfl rfl rfl) (.none rfl) rfl rfl (fun h343 => ?_) (fun h343 => ?_)
    ·
     refine WL.nil ?_
     refine WE.then_n ?_
     refine WC.cond_t rfl ?_
     refine WC.orders mixed ?_
     refine WR.first (g := 7) [0, 1, 4, 5, 8, 9] (by kernel_rfl) (by kernel_rfl) ?_
     have hl21 : 21 ≤ xs.length := (by rw [hlst, if_neg h42, if_neg h227, if_pos h343] at hle2; omega)
     have b0 := hb 0
     have b1 := hb 1
     refine WP.val (v_move rfl rfl) (.none rfl) rfl rfl ?_
     refine WP.val (v_indexAddr (lo := 19) rfl rfl rfl Tryd.underlying22 sz_5 rfl (by omega)) (.none rfl) rfl rfl ?_
     refine WP.val (v_move rfl rfl) (.none rfl) rfl rfl ?_
     refine WP.val (v_indexAddr (lo := 20) rfl rfl rfl Tryd.underlying22 sz_5 rfl (by omega)) (.none rfl) rfl rfl ?_
     refine WP.val (v_move rfl rfl) (.none rfl) rfl rfl ?_
     refine WP.val ((v_slice_lo (lo := 21) rfl rfl rfl Tryd.underlying22 sz_5 rfl (by omega))) (.none rfl) rfl rfl ?_
     refine WP.nil ?_
     refine WR.read (g := 1) [2, 3, 6, 7, 10, 11] (by kernel_rfl) (by kernel_rfl) (by kernel_rfl) (by kernel_rfl) rfl ?_
     refine WQ.val (v_load1 rfl rfl one_5 ((fun w hS => hgc w _ 0 (by omega) hS))) (.none rfl) rfl rfl ?_
     refine WQ.val (v_conv rfl rfl Tryd.underlying3 Tryd.underlying5 (w_i64 (by omega) (by omega))) (.none rfl) rfl rfl ?_
     refine WQ.val (v_load1 rfl rfl one_5 ((fun w hS => hgc w _ 1 (by omega) hS))) (.none rfl) rfl rfl ?_
     refine WQ.val (v_conv rfl rfl Tryd.underlying3 Tryd.underlying5 (w_i64 (by omega) (by omega))) (.none rfl) rfl rfl ?_
     refine WQ.call _ rfl rfl ck_40 (.none rfl) rfl rfl (fun w hS => Calls.still (RFault_c w (fOf ys 0) (fOf ys 1) (some ⟨b, sAddr o 21 c 1, none⟩) (xs.length - 21) (c - 21) (fun i => fOf ys (2 + i)) (fun _ => ⟨b, sAddr o 21 c 1, rfl, fun i hi => by
     have := ((hW.st hS).drop 21).get (i := i) (x := fOf ys (2 + i)) (by rw [List.getElem?_drop, show 21 + i = 19 + (2 + i) by omega]; exact hg (2 + i) (by omega))
     rwa [Nat.mul_one] at this⟩)) hS) ?_
     rw [show str (fun i => fOf ys (2 + i)) (xs.length - 21) = strD ys by unfold strD; rw [hdl, show xs.length - 19 - 2 = xs.length - 21 by omega]]
     refine WQ.val (v_fieldAddr0 rfl rfl fld_53_8) (.none rfl) rfl rfl ?_
     refine WQ.nilR ?_
     refine WR.ones (g := 0) [12] (by kernel_rfl) ?_
     refine WL.storeN rfl rfl rfl rfl many_28 rfl (by first | exact Nat.le_of_ble_eq_true rfl | simp) (.none rfl) rfl ?_
     refine WL.as (L' := .row g6 (MsL.rcells { MsL.zero (fOf xs 18) with fc := fOf ys 0, fs := fOf ys 1, fd := strD ys }) :: .row g5 (fltL 0 0 ⟨#[]⟩) :: .row g3 (fltL 0 0 ⟨#[]⟩) :: [.row g2 (MsL.zero 0).rcells]) rfl ?_
     refine WL.nilR ?_
     refine WR.done (by kernel_rfl) ?_
     refine WE.then_n ?_
     refine WC.seq ?_
     refine WC.region ?_
     refine WL.val (v_loadN rfl rfl many_53 rfl allAt) (.none rfl) rfl rfl ?_
     refine WL.val (v_build rfl rfl zero_28 plc_28 rfl) (.none rfl) rfl rfl ?_
     refine WL.storeW rfl rfl rfl rfl many_53 rfl rfl (.none rfl) rfl ?_
     refine WL.storeW rfl rfl rfl rfl many_28 rfl rfl (.none rfl) rfl ?_
     refine WL.nil ?_
     refine WE.then_n ?_
     refine WC.ret ?_
     refine WE.ret2 (P := Tryd.prog) (.inl rfl) Tryd.results18 (resRow rfl many_53 rfl) (resRow rfl many_28 rfl) ?_
     skip
     exact fun w' h => by
       unfold RMsP
       rw [e00, show bodyM (fOf xs 18) ys = .inl (MsL.d { MsL.zero (fOf xs 18) with fc := fOf ys 0, fs := fOf ys 1, fd := strD ys }) by unfold bodyM; rw [if_neg h42, if_neg h227, if_pos h343]; rfl]
       exact ⟨{ MsL.zero (fOf xs 18) with fc := fOf ys 0, fs := fOf ys 1, fd := strD ys }, [], rfl, rfl, ⟨⟨[], Vec.nil 2, fun _ h => by cases h⟩, (fun _ h => by cases h), ⟨[], Vec.nil 2, fun _ h => by cases h⟩, ⟨[], Vec.nil 2, fun _ h => by cases h⟩, AtAll.zero⟩, h.sub (List.nil_sublist _)⟩
    ·
     refine WL.nil ?_
     refine WE.then_n ?_
     refine WC.cond_f rfl ?_
     refine WC.skip ?_
     refine WE.then_n ?_
     refine WC.seq ?_
     refine WC.region ?_
     refine WL.val (v_loadN rfl rfl many_53 rfl allAt) (.none rfl) rfl rfl ?_
     refine WL.val (v_build rfl rfl zero_28 plc_28 rfl) (.none rfl) rfl rfl ?_
     refine WL.storeW rfl rfl rfl rfl many_53 rfl rfl (.none rfl) rfl ?_
     refine WL.storeW rfl rfl rfl rfl many_28 rfl rfl (.none rfl) rfl ?_
     refine WL.nil ?_
     refine WE.then_n ?_
     refine WC.ret ?_
     refine WE.ret2 (P := Tryd.prog) (.inl rfl) Tryd.results18 (resRow rfl many_53 rfl) (resRow rfl many_28 rfl) ?_
     skip
     exact fun w' h => by
       unfold RMsP
       rw [e00, show bodyM (fOf xs 18) ys = .inl (MsL.d (MsL.zero (fOf xs 18))) by unfold bodyM; rw [if_neg h42, if_neg h227, if_neg h343]]
       exact ⟨MsL.zero (fOf xs 18), [], rfl, rfl, MsAll.zero _, h.sub (List.nil_sublist _)⟩
/-- carrefourref07.Decode, whatever bytes. -/
theorem RDec07_c (w0 : World) (b o c : Nat) (xs : List Int) (hW : Win w0 b o c xs) (hn : xs.length ≤ 90000) :
    Calls Tryd.prog 18 #[.slice (some ⟨b, o, none⟩) xs.length c] w0 fun e w' => RMsP w0 w' xs e := by
  rcases sizeR_cases xs.length (fOf xs) with ⟨C, S, d, e, hC⟩ | ⟨e, h1, h2, h3, h4, h5, h6, h7, h8⟩
  · exact RDecBad_c w0 b o c xs hW hn C S d e hC
  · by_cases hk : lenI (fOf xs) = xs.length
    · rw [hk] at e
      exact RDecOk_c w0 b o c xs hW hn e h1 ⟨h5, h6⟩ (by omega)
    · exact RDecLong_c w0 b o c xs hW hn h1 e hk
end Go.Proofs.YtpjbofodllhjbaaDoor
/- bgp: the faults of what is read; prefixes and capabilities that are read. -/
namespace Go.Proofs.YtpjbofodllhjbaaDoor
open Go.RowKit

end Go.Proofs.YtpjbofodllhjbaaDoor
/- bgp: a message that was read: what BgpForm needs of it. -/
namespace Go.Proofs.YtpjbofodllhjbaaDoor
open Go.RowKit

theorem inI_idem (x : Int) : inI (inI x) = inI x := by unfold inI; omega
theorem cutI_of (a x : Int) : cutI (cutI a x) (inI x) = cutI a x := by
  unfold cutI
  rw [inI_idem]
  have hM : (0 : Int) < ((2 ^ (32 - inI x).toNat : Nat) : Int) := by exact_mod_cast Nat.two_pow_pos _
  generalize ((2 ^ (32 - inI x).toNat : Nat) : Int) = M at hM
  have e : (a - a % M) % M = 0 := by
    rw [Int.sub_emod, Int.emod_emod_of_dvd _ (Int.dvd_refl M), Int.sub_self, Int.zero_emod]
  rw [e, Int.sub_zero]
theorem cutI_b {a x : Int} (h : 0 ≤ a ∧ a ≤ 4294967295) : U32 (cutI a x) := by
  unfold cutI U32
  have hM : (0 : Int) < ((2 ^ (32 - inI x).toNat : Nat) : Int) := by exact_mod_cast Nat.two_pow_pos _
  generalize ((2 ^ (32 - inI x).toNat : Nat) : Int) = M at hM
  have h1 := Int.emod_nonneg a (show M ≠ 0 by omega)
  have h2 := Int.mul_ediv_self_le (x := a) (k := M) (by omega)
  have h3 := Int.emod_def a M
  have h4 : 0 ≤ M * (a / M) := Int.mul_nonneg (by omega) (Int.ediv_nonneg h.1 (by omega))
  omega
theorem netsR_ok : ∀ (n : Nat) {xs : List Int} {ps : List PfL}, xs.length ≤ n → Bys xs → netsR xs = some ps → ps.all pfOk = true ∧ ∀ p ∈ ps, U32 p.addr ∧ I64 p.len
  | _, [], ps, _, _, h => by rw [netsR] at h; cases h; exact ⟨rfl, fun p hp => by cases hp⟩
  | 0, x :: xs, ps, hn, _, _ => by simp at hn
  | n + 1, x :: xs, ps, hn, hB, h => by
    rw [netsR_cons] at h
    split at h
    · cases h
    · obtain ⟨q, hq, rfl⟩ := Option.map_eq_some_iff.1 h
      rw [List.length_cons] at hn
      have hBx : Bys xs := fun y hy => hB y (List.mem_cons_of_mem _ hy)
      have ih := netsR_ok n (by rw [List.length_drop]; omega) (fun y hy => hBx y (List.mem_of_mem_drop hy)) hq
      have hb := addrI_b (ys := xs.take (needN x)) fun y hy => hBx y (List.mem_of_mem_take hy)
      refine ⟨?_, fun p hp => ?_⟩
      · rw [List.all_cons, ih.1, Bool.and_true]
        exact decide_eq_true ⟨(cutI_of _ _).symm, (inI_idem x).symm⟩
      · rcases List.mem_cons.1 hp with rfl | hp
        · have := inI_b x
          exact ⟨cutI_b hb, by show _ ≤ inI x; omega, by show inI x ≤ _; omega⟩
        · exact ih.2 p hp
/-- A capability that was read. -/
def CapG (c : Int × List Int) : Prop := 0 ≤ c.1 ∧ c.1 ≤ 255 ∧ c.2.length ≤ 255 ∧ Bys c.2
theorem capsR_ok : ∀ (n : Nat) (acc : List (Int × List Int)) {xs : List Int} {cs : List (Int × List Int)}, xs.length ≤ n → Bys xs → (∀ c ∈ acc, CapG c) → capsR acc xs = some cs → (∀ c ∈ cs, CapG c) ∧ cs.length ≤ acc.length + xs.length
  | _, acc, [], cs, _, _, hA, h => by rw [capsR_nil] at h; cases h; exact ⟨hA, by simp⟩
  | _, acc, [_], cs, _, _, _, h => by rw [capsR] at h; cases h
  | 0, acc, y :: z :: xs, cs, hn, _, _, _ => by simp at hn
  | n + 1, acc, y :: z :: xs, cs, hn, hB, hA, h => by
    rw [capsR_cons] at h
    split at h
    · cases h
    · rw [List.length_cons, List.length_cons] at hn
      have hy := hB y (by simp)
      have hz := hB z (by simp)
      have hBx : Bys xs := fun y hy => hB y (by simp [hy])
      have ih := capsR_ok n _ (by rw [List.length_drop]; omega) (fun y hy => hBx y (List.mem_of_mem_drop hy)) (fun c hc => by
        rcases List.mem_append.1 hc with hc | hc
        · exact hA c hc
        · obtain rfl : c = (y, xs.take z.toNat) := by simpa using hc
          exact ⟨hy.1, hy.2, by rw [List.length_take]; omega, fun x hx => hBx x (List.mem_of_mem_take hx)⟩) h
      refine ⟨ih.1, ?_⟩
      have := ih.2
      rw [List.length_append, List.length_drop, List.length_singleton] at this
      rw [List.length_cons, List.length_cons]
      omega
theorem optsR_ok : ∀ (n : Nat) (acc : List (Int × List Int)) {xs : List Int} {cs : List (Int × List Int)}, xs.length ≤ n → Bys xs → (∀ c ∈ acc, CapG c) → optsR acc xs = .inl cs → (∀ c ∈ cs, CapG c) ∧ cs.length ≤ acc.length + xs.length
  | _, acc, [], cs, _, _, hA, h => by rw [optsR_nil] at h; cases h; exact ⟨hA, by simp⟩
  | _, acc, [_], cs, _, _, _, h => by rw [optsR] at h; cases h
  | 0, acc, y :: z :: xs, cs, hn, _, _, _ => by simp at hn
  | n + 1, acc, y :: z :: xs, cs, hn, hB, hA, h => by
    rw [optsR_cons] at h
    split at h
    · cases h
    split at h
    · cases h
    split at h
    · cases h
    · rename_i acc2 hc
      rw [List.length_cons, List.length_cons] at hn
      have hBx : Bys xs := fun y hy => hB y (by simp [hy])
      have h1 := capsR_ok _ _ (Nat.le_refl _) (fun y hy => hBx y (List.mem_of_mem_take hy)) hA hc
      have h2 := optsR_ok n _ (by rw [List.length_drop]; omega) (fun y hy => hBx y (List.mem_of_mem_drop hy)) h1.1 h
      refine ⟨h2.1, ?_⟩
      have a1 := h1.2
      have a2 := h2.2
      rw [List.length_take] at a1
      rw [List.length_drop] at a2
      rw [List.length_cons, List.length_cons]
      omega
/-- A message that says so. -/
def AtD.m (a : AtD) : AtL := ⟨a.has, a.origin, none, 0, a.path.map fun p => ⟨p.1, none, 0, p.2⟩, a.hop, a.med, a.loc, a.aas, a.aid, none, 0, a.comms, none, 0, a.others.map fun p => ⟨p.1, none, 0, p.2⟩⟩
def MsD.m (d : MsD) : MsL := ⟨d.kind, d.asn, d.hold, d.id, none, 0, d.caps.map fun p => ⟨p.1, none, 0, p.2⟩, none, 0, d.gone, d.atr.m, none, 0, d.nets, d.fc, d.fs, d.fd⟩
theorem AtD.m_d (a : AtD) : a.m.d = a := by
  unfold AtD.m AtL.d
  dsimp only
  rw [List.map_map, List.map_map]
  have e1 : (segD ∘ fun p : Bool × List Int => (⟨p.1, none, 0, p.2⟩ : SegL)) = id := rfl
  have e2 : (othD ∘ fun p : Int × List Int => (⟨p.1, none, 0, p.2⟩ : OthL)) = id := rfl
  rw [e1, e2, List.map_id, List.map_id]
theorem MsD.m_d (d : MsD) : d.m.d = d := by
  unfold MsD.m MsL.d
  dsimp only
  rw [List.map_map, AtD.m_d]
  have e1 : (capD ∘ fun p : Int × List Int => (⟨p.1, none, 0, p.2⟩ : CapL)) = _root_.id := rfl
  rw [e1, List.map_id]
theorem back_of {md : MsD} (hI : md.In) (hb : bareD md.m = md) (h : msgCD md = 0) : decM (msgBD md) = .inl md ∧ Bys (msgBD md) ∧ 0 < (msgBD md).length ∧ (msgBD md).length ≤ 5000 := by
  have e := md.m_d
  have hc : msgC md.m = 0 := by rw [msgC_d, e]; exact h
  have hm : md.m.In := MsL.in_d.2 (by rw [e]; exact hI)
  have e2 : msgB md.m = msgBD md := by rw [msgB_d, e]
  have h1 := decM_msgB hc hm
  have h2 := msgB_bys hm hc
  have h3 := msgB_len md.m
  have h4 := (msgC_bod hc).2
  rw [e2] at h1 h2 h3
  rw [hb] at h1
  exact ⟨h1, h2, by omega, by omega⟩
end Go.Proofs.YtpjbofodllhjbaaDoor
/- bgp: a message that was read is one that BgpForm asks for. -/
namespace Go.Proofs.YtpjbofodllhjbaaDoor
open Go.RowKit

theorem Bys.drop {xs : List Int} (h : Bys xs) (n : Nat) : Bys (xs.drop n) := fun x hx => h x (List.mem_of_mem_drop hx)
theorem Bys.take {xs : List Int} (h : Bys xs) (n : Nat) : Bys (xs.take n) := fun x hx => h x (List.mem_of_mem_take hx)
theorem code_of {d : MsD} {P : Prop} (h : bodCD d = 0 ∨ bodCD d = 6 ∨ bodCD d = 1 ∧ P) : msgCD d = 0 ∨ msgCD d = 6 ∨ msgCD d = 1 ∧ P := by
  unfold msgCD
  rcases h with e | e | ⟨e, hp⟩
  · rw [e, if_pos rfl]
    split
    · exact .inr (.inl rfl)
    · exact .inl rfl
  · rw [e]; exact .inr (.inl rfl)
  · rw [e]; exact .inr (.inr ⟨rfl, hp⟩)
theorem openR_form {xs : List Int} {cs : List (Int × List Int)} (hB : Bys xs) (hn : xs.length ≤ 5000) (h : openR xs = .inl cs) : FormOk { (MsL.zero 1).d with asn := asnB xs, hold := holdB xs, id := idB xs, caps := cs } := by
  have a1 := fOf_b hB 1
  have a2 := fOf_b hB 2
  have a3 := fOf_b hB 3
  have a4 := fOf_b hB 4
  have hid : 0 ≤ idB xs ∧ idB xs ≤ 4294967295 := addrI_b ((hB.take 9).drop 5)
  unfold openR at h
  split at h
  · cases h
  split at h
  · cases h
  rename_i hasn
  split at h
  · cases h
  rename_i hhold
  split at h
  · cases h
  rename_i hidz
  split at h
  · cases h
  split at h
  · rename_i cs2 ho
    cases h
    obtain ⟨hc, hl⟩ := optsR_ok _ _ (Nat.le_refl _) (hB.drop 10) (fun c hc => (by cases hc)) ho
    rw [List.length_drop] at hl
    have hcl : cs.length ≤ 5000 := by simp at hl; omega
    have easn : asnB xs = fOf xs 1 * 256 + fOf xs 2 := rfl
    have ehold : holdB xs = fOf xs 3 * 256 + fOf xs 4 := rfl
    have hz := MsL.in_d.1 (zeroM_in (k := 1) ⟨by decide, by decide⟩)
    have hI : MsD.In { (MsL.zero 1).d with asn := asnB xs, hold := holdB xs, id := idB xs, caps := cs } :=
      ⟨⟨hz.nums.1, ⟨by show _ ≤ asnB xs; omega, by show asnB xs ≤ _; omega⟩, ⟨by show _ ≤ holdB xs; omega, by show holdB xs ≤ _; omega⟩, hid, hz.nums.2.2.2.2.1, hz.nums.2.2.2.2.2⟩, fun c hm => (by
        have := hc c hm
        exact ⟨⟨by have := this.1; omega, by have := this.2.1; omega⟩, by have := this.2.2.1; omega, this.2.2.2⟩), hz.gone, hz.nets, hz.at_, ⟨by show cs.length ≤ _; omega, hz.lens.2⟩⟩
    refine ⟨hI, Nat.zero_le _, Nat.zero_le _, hcl, Nat.zero_le _, Nat.zero_le _, ?_, fun hz => back_of hI ?_ hz⟩
    · have hk := bod_1 (d := { (MsL.zero 1).d with asn := asnB xs, hold := holdB xs, id := idB xs, caps := cs }) rfl
      have ho : openCD { (MsL.zero 1).d with asn := asnB xs, hold := holdB xs, id := idB xs, caps := cs } = 0 ∨ openCD { (MsL.zero 1).d with asn := asnB xs, hold := holdB xs, id := idB xs, caps := cs } = 6 ∨ (openCD { (MsL.zero 1).d with asn := asnB xs, hold := holdB xs, id := idB xs, caps := cs } = 1 ∧ 32 < cs.length) := by
        unfold openCD
        dsimp only
        by_cases h32 : 32 < cs.length
        · right; right
          rw [decide_eq_true (show _ ∨ _ ∨ _ ∨ _ ∨ _ from .inr (.inr (.inr (.inr h32))))]
          exact ⟨rfl, h32⟩
        · rw [decide_eq_false (show ¬ (asnB xs < 1 ∨ 65535 < asnB xs ∨ (holdB xs ≠ 0 ∧ (holdB xs < 3 ∨ 65535 < holdB xs)) ∨ idB xs = 0 ∨ 32 < cs.length) by
            rintro (h | h | ⟨h, h'⟩ | h | h) <;> omega)]
          rw [show (cs.all fun p => decide (0 ≤ p.1 ∧ p.1 ≤ 255 ∧ p.2.length ≤ 255)) = true from List.all_eq_true.2 fun c hm => decide_eq_true ⟨(hc c hm).1, (hc c hm).2.1, (hc c hm).2.2.1⟩]
          show (if 253 < _ then (6 : Int) else 0) = 0 ∨ _
          split
          · exact .inr (.inl rfl)
          · exact .inl rfl
      refine code_of ?_
      rw [hk.1]
      exact ho.imp id (Or.imp id fun h => ⟨h.1, .inr h.2⟩)
    · show bareD _ = _
      unfold bareD
      rw [if_pos (show (MsD.m _).kind = 1 from rfl)]
      rw [show List.map capD (MsD.m { (MsL.zero 1).d with asn := asnB xs, hold := holdB xs, id := idB xs, caps := cs }).caps = cs from congrArg MsD.caps (MsD.m_d { (MsL.zero 1).d with asn := asnB xs, hold := holdB xs, id := idB xs, caps := cs })]
      rfl
  · cases h
theorem note_form {xs : List Int} (hB : Bys xs) (hn : xs.length ≤ 5000) : FormOk { (MsL.zero 3).d with fc := fOf xs 0, fs := fOf xs 1, fd := strD xs } := by
  have a0 := fOf_b hB 0
  have a1 := fOf_b hB 1
  have hd : (strD xs).size = xs.length - 2 := str_size _ _
  have hz := MsL.in_d.1 (zeroM_in (k := 3) ⟨by decide, by decide⟩)
  have hI : MsD.In { (MsL.zero 3).d with fc := fOf xs 0, fs := fOf xs 1, fd := strD xs } :=
    ⟨⟨hz.nums.1, hz.nums.2.1, hz.nums.2.2.1, hz.nums.2.2.2.1, ⟨by show _ ≤ fOf xs 0; omega, by show fOf xs 0 ≤ _; omega⟩, ⟨by show _ ≤ fOf xs 1; omega, by show fOf xs 1 ≤ _; omega⟩⟩, hz.caps, hz.gone, hz.nets, hz.at_, ⟨hz.lens.1, hz.lens.2.1, hz.lens.2.2.1, by show (strD xs).size ≤ _; omega⟩⟩
  refine ⟨hI, Nat.zero_le _, Nat.zero_le _, Nat.zero_le _, Nat.zero_le _, Nat.zero_le _, ?_, fun hz => back_of hI rfl hz⟩
  have hk := bod_3 (d := { (MsL.zero 3).d with fc := fOf xs 0, fs := fOf xs 1, fd := strD xs }) (show ¬ (3 : Int) = 1 by decide) (show ¬ (3 : Int) = 2 by decide) rfl
  refine code_of ?_
  rw [hk.1]
  by_cases h : fOf xs 0 < 1 ∨ 255 < fOf xs 0 ∨ fOf xs 1 < 0 ∨ 255 < fOf xs 1
  · rw [if_pos h]
    exact .inr (.inr ⟨rfl, .inl ⟨rfl, by show fOf xs 0 = 0; omega⟩⟩)
  · rw [if_neg h]
    split
    · exact .inr (.inl rfl)
    · exact .inl rfl
theorem live_form : FormOk (MsL.zero 4).d := by
  have hI : MsD.In (MsL.zero 4).d := MsL.in_d.1 (zeroM_in ⟨by decide, by decide⟩)
  refine ⟨hI, Nat.zero_le _, Nat.zero_le _, Nat.zero_le _, Nat.zero_le _, Nat.zero_le _, .inl ?_, fun hz => back_of hI rfl hz⟩
  have hk := bod_4 (d := (MsL.zero 4).d) (by decide) (by decide) (by decide)
  unfold msgCD
  rw [hk.1, hk.2]
  rfl
end Go.Proofs.YtpjbofodllhjbaaDoor
/- bgp: a message that was read is one that BgpForm asks for: an Update; any. -/
namespace Go.Proofs.YtpjbofodllhjbaaDoor
open Go.RowKit

theorem countR_ok {xs p q : List Int} (hB : Bys xs) (h : countR xs = some (p, q)) : Bys p ∧ Bys q ∧ p.length ≤ xs.length ∧ q.length ≤ xs.length := by
  unfold countR at h
  split at h
  · cases h
  · obtain ⟨rfl, rfl⟩ := Prod.mk.inj (Option.some.inj h)
    exact ⟨(hB.drop 2).take _, hB.drop _, by rw [List.length_take, List.length_drop]; omega, by rw [List.length_drop]; omega⟩
theorem bareD_two {m : MsL} (h : m.kind = 2) : bareD m = { (MsL.zero m.kind).d with gone := m.gone, atr := m.atr.d, nets := m.nets } := by
  unfold bareD
  rw [if_neg (by omega), if_pos h]
theorem upd_form {xs : List Int} {gs ns : List PfL} {a : AtD} (hB : Bys xs) (hn : xs.length ≤ 4400) (h : updR xs = .inl (gs, a, ns)) : FormOk { (MsL.zero 2).d with gone := gs, atr := a, nets := ns } := by
  unfold updR at h
  split at h
  · cases h
  rename_i g r hc1
  split at h
  · cases h
  rename_i s n hc2
  split at h
  · cases h
  rename_i gs' hg
  split at h
  · cases h
  rename_i a' ha
  split at h
  · cases h
  rename_i ns' hn'
  split at h
  · cases h
  rename_i h200
  split at h
  · cases h
  rename_i hmiss
  obtain ⟨rfl, h2⟩ := Prod.mk.inj (Sum.inl.inj h)
  obtain ⟨rfl, rfl⟩ := Prod.mk.inj h2
  obtain ⟨b1, b2, l1, l2⟩ := countR_ok hB hc1
  obtain ⟨b3, b4, l3, l4⟩ := countR_ok b2 hc2
  obtain ⟨n1, n2⟩ := netsR_ok _ (Nat.le_refl _) b1 hg
  obtain ⟨n3, n4⟩ := netsR_ok _ (Nat.le_refl _) b4 hn'
  obtain ⟨hG, seen, hS⟩ := decD_good 4400 _ _ _ _ (Nat.le_refl _) (by omega) b3 SeenI.zero (AtG.zero 4400) ha
  obtain ⟨k1, k2⟩ := hG.chk hS
  obtain ⟨i1, i2⟩ := hG.in_ hS (by decide)
  have hz := MsL.in_d.1 (zeroM_in (k := 2) ⟨by decide, by decide⟩)
  have hI : MsD.In { (MsL.zero 2).d with gone := gs', atr := { a' with others := sortO a'.others }, nets := ns' } :=
    ⟨hz.nums, hz.caps, n2, n4, i1, ⟨hz.lens.1, by show gs'.length ≤ _; omega, by show ns'.length ≤ _; omega, hz.lens.2.2.2⟩⟩
  refine ⟨hI, by show a'.path.length ≤ 1100; omega, by show (sortO a'.others).length ≤ 300; rw [(sortO_perm _).length_eq]; omega, Nat.zero_le _, by show gs'.length ≤ 5000; omega, by show ns'.length ≤ 5000; omega, ?_, fun hc => back_of hI ?_ hc⟩
  · refine code_of ?_
    have hk := bod_2 (d := { (MsL.zero 2).d with gone := gs', atr := { a' with others := sortO a'.others }, nets := ns' }) (show ¬ (2 : Int) = 1 by decide) rfl
    rw [hk.1]
    unfold updCD
    dsimp only
    rw [if_neg h200, n1, n3, decide_eq_false (show ¬ (0 < ns'.length ∧ missI a'.has ≠ 0) from fun hh => hmiss ⟨hh.2, hh.1⟩)]
    show encED { a' with others := sortO a'.others } = 0 ∨ _
    unfold encED
    rw [k1]
    show (if _ then (6 : Int) else 0) = 0 ∨ (if _ then (6 : Int) else 0) = 6 ∨ _
    split
    · exact .inr (.inl rfl)
    · exact .inl rfl
  · refine (bareD_two rfl).trans ?_
    rw [show AtL.d (MsD.m { (MsL.zero 2).d with gone := gs', atr := { a' with others := sortO a'.others }, nets := ns' }).atr = { a' with others := sortO a'.others } from AtD.m_d _]
    rfl
theorem decM_form {xs : List Int} {md : MsD} (hB : Bys xs) (h : decM xs = .inl md) : FormOk md := by
  rcases sizeR_cases xs.length (fOf xs) with ⟨C, S, d, e, hC⟩ | ⟨e, _, _, _, hle, hk1, hk4, _, _⟩
  · unfold decM at h
    rw [e] at h
    dsimp only at h
    rw [if_pos hC] at h
    cases h
  · unfold decM at h
    rw [e] at h
    dsimp only at h
    rw [if_neg (by simp)] at h
    split at h
    · cases h
    rename_i hlen
    have hlen : lenI (fOf xs) = xs.length := Classical.byContradiction hlen
    have hdl : (xs.drop 19).length = xs.length - 19 := List.length_drop ..
    unfold bodyM at h
    split at h
    · rename_i k1
      rw [k1] at h
      split at h
      · rename_i cs ho
        obtain rfl := Sum.inl.inj h
        exact openR_form (hB.drop 19) (by omega) ho
      · cases h
    split at h
    · rename_i k2
      rw [k2] at h
      split at h
      · rename_i g a n hu
        obtain rfl := Sum.inl.inj h
        exact upd_form (hB.drop 19) (by omega) hu
      · cases h
    split at h
    · rename_i k3
      rw [k3] at h
      obtain rfl := Sum.inl.inj h
      exact note_form (hB.drop 19) (by omega)
    · rename_i k1 k2 k3
      have k4 : fOf xs 18 = 4 := by omega
      rw [k4] at h
      obtain rfl := Sum.inl.inj h
      exact live_form
end Go.Proofs.YtpjbofodllhjbaaDoor
/- BgpReads: whatever bytes: the message that they are, or the fault that they have. -/
namespace Go.Proofs.YtpjbofodllhjbaaDoor
open Go.RowKit

/-- What bytes say: the fault, and the message. -/
def DecIs (xs : List Int) (C S : Int) (d : ByteArray) (md : MsD) : Prop := match decM xs with
  | .inr f => f = (C, S, d) ∧ md = (MsL.zero 0).d
  | .inl y => C = 0 ∧ S = 0 ∧ d = ⟨#[]⟩ ∧ md = y
theorem DecIs.eq {xs : List Int} {C S C' S' : Int} {d d' : ByteArray} {md md' : MsD} (h1 : DecIs xs C S d md) (h2 : DecIs xs C' S' d' md') : C = C' ∧ S = S' ∧ d = d' ∧ md = md' := by
  unfold DecIs at h1 h2
  cases h : decM xs with
  | inr f =>
    rw [h] at h1 h2
    obtain ⟨e1, e2⟩ := h1
    obtain ⟨e3, e4⟩ := h2
    rw [e1] at e3
    injection e3 with a b
    injection b with b c
    exact ⟨a, b, c, by rw [e2, e4]⟩
  | inl y =>
    rw [h] at h1 h2
    obtain ⟨a, b, c, e⟩ := h1
    obtain ⟨a', b', c', e'⟩ := h2
    exact ⟨by rw [a, a'], by rw [b, b'], by rw [c, c'], by rw [e, e']⟩
theorem DecIs.bad {xs : List Int} {C S : Int} {d : ByteArray} (h : decM xs = .inr (C, S, d)) : DecIs xs C S d (MsL.zero 0).d := by unfold DecIs; rw [h]; exact ⟨rfl, rfl⟩
theorem DecIs.ok {xs : List Int} {md : MsD} (h : decM xs = .inl md) : DecIs xs 0 0 ⟨#[]⟩ md := by unfold DecIs; rw [h]; exact ⟨rfl, rfl, rfl, rfl⟩
theorem few_zero {m : MsL} (e : m.d = (MsL.zero 0).d) : m.Few ∧ m.In := by
  have z := MsL.in_d.1 (zeroM_in (k := 0) ⟨by decide, by decide⟩)
  have h1 : (m.caps.map capD).length = 0 := by rw [show m.caps.map capD = [] from congrArg MsD.caps e]; rfl
  have h2 : m.gone.length = 0 := by rw [show m.gone = [] from congrArg MsD.gone e]; rfl
  have h3 : m.nets.length = 0 := by rw [show m.nets = [] from congrArg MsD.nets e]; rfl
  have h4 : (m.atr.path.map segD).length = 0 := by rw [show m.atr.path.map segD = [] from congrArg (fun x => AtD.path (MsD.atr x)) e]; rfl
  have h5 : (m.atr.others.map othD).length = 0 := by rw [show m.atr.others.map othD = [] from congrArg (fun x => AtD.others (MsD.atr x)) e]; rfl
  rw [List.length_map] at h1 h4 h5
  exact ⟨⟨by omega, by omega, by omega, by omega, by omega⟩, MsL.in_d.2 (by rw [e]; exact z)⟩
theorem DecIs.few {xs : List Int} {C S : Int} {d : ByteArray} {m : MsL} (hB : Bys xs) (h : DecIs xs C S d m.d) : m.Few ∧ m.In := by
  unfold DecIs at h
  cases hd : decM xs with
  | inr f => rw [hd] at h; exact few_zero h.2
  | inl y =>
    rw [hd] at h
    have := (decM_form hB hd).few h.2.2.2
    exact ⟨this.1, this.2.1⟩
theorem decM_nil : decM [] = .inr (1, 2, ⟨#[]⟩) := rfl
theorem DecAny_c (w0 : World) (ad : Option Addr) (c : Nat) (xs : List Int) (hG : GF w0) (hZ : GZ w0) (hC : CellsAt w0 ad (u8s xs)) (hB : Bys xs) (hle : xs.length ≤ c) (hn : xs.length ≤ 90000) :
    Calls Tryd.prog 17 #[.slice ad xs.length c] w0 fun e w' => ∃ C S d m K, e = .returned (.tuple #[.agg m.cells.toArray, .agg (fltL C S d).toArray]) ∧ MsAll K m ∧ St (fun _ => False) w0 w' K ∧ DecIs xs C S d m.d := by
  by_cases h0 : xs.length = 0
  · obtain rfl : xs = [] := List.length_eq_zero_iff.1 h0
    refine (DecBad_c w0 ad 0 c (fun _ => 0) (fun _ => ⟨Int.le_refl _, show (0 : Int) ≤ 255 by decide⟩) (fun hh => by omega) (by omega) (Nat.zero_le _) 1 2 ⟨#[]⟩ rfl (by decide)).mono ?_
    rintro e w' ⟨rfl, hF⟩
    exact ⟨1, 2, ⟨#[]⟩, MsL.zero 0, [], rfl, MsAll.zero 0, (St.start _ _).ext hF, .bad decM_nil⟩
  · obtain ⟨b, o, rfl, hr⟩ := hC (by rw [u8s_len]; omega)
    refine (Decode_c w0 b o c xs hG hZ ⟨hr, hB, hle⟩ hn).mono fun e w' h => ?_
    unfold DecP at h
    cases hd : decM xs with
    | inr f =>
      obtain ⟨C, S, d⟩ := f
      rw [hd] at h
      exact ⟨C, S, d, MsL.zero 0, [], h.1, MsAll.zero 0, (St.start _ _).ext h.2, .bad hd⟩
    | inl md =>
      rw [hd] at h
      obtain ⟨m, K, he, em, hM, hS⟩ := h
      exact ⟨0, 0, ⟨#[]⟩, m, K, he, hM, hS, by rw [em]; exact .ok hd⟩
theorem RDecNil_c (w0 : World) (ad : Option Addr) (c : Nat) :
    Calls Tryd.prog 18 #[.slice ad 0 c] w0 fun e w' => e = .returned (.tuple #[.agg (MsL.zero 0).rcells.toArray, .agg (fltL 1 2 ⟨#[]⟩).toArray]) ∧ Frm (fun _ => False) w0 w' := by
  refine enter Tryd.func18 rfl Tryd.ntmps18 rfl (St.start (fun _ => False) w0) ?_
  refine WC.seq ?_
  refine WC.region ?_
  refine WL.alloc rfl zero_53 (.none rfl) rfl rfl ?_
  intro g2 hg2
  refine WL.alloc rfl zero_28 (.none rfl) rfl rfl ?_
  intro g3 hg3
  refine WL.nil ?_
  refine WE.then_n ?_
  refine WC.seq ?_
  refine WC.region ?_
  refine WL.val (v_move rfl rfl) (.none rfl) rfl rfl ?_
  refine WL.call rfl rfl ck_15 (.none rfl) rfl rfl ?_
  intro w hS
  refine Calls.then (by rw [show (Ending.returned (.tuple #[.int .i64 0, .agg (fltL 1 2 ⟨#[]⟩).toArray])) = .returned (sizeV (sizeR 0 (fun _ => 0))) from rfl]; exact RSize_c w ad 0 c (fun _ => 0) (fun _ => ⟨Int.le_refl _, show (0 : Int) ≤ 255 by decide⟩) (fun hh => by omega) (by omega) (Nat.zero_le _)) hS ?_
  refine WL.val (v_move rfl rfl) (.none rfl) rfl rfl ?_
  refine WL.val (v_extract rfl rfl rfl) (.none rfl) rfl rfl ?_
  refine WL.val (v_extract rfl rfl rfl) (.none rfl) rfl rfl ?_
  refine WL.alloc rfl zero_28 (.none rfl) rfl rfl ?_
  intro g5 hg5
  refine WL.val (v_assign rfl rfl) (.none rfl) rfl rfl ?_
  refine WL.storeW rfl rfl rfl rfl many_28 rfl rfl (.none rfl) rfl ?_
  refine WL.nil ?_
  refine WE.then_n ?_
  refine WC.seq ?_
  refine WC.seq ?_
  refine WC.region ?_
  refine WL.val (v_fieldAddr0 rfl rfl fld_28_0) (.none rfl) rfl rfl ?_
  refine WL.val (v_load1 rfl rfl one_3 (cellAt rfl)) (.none rfl) rfl rfl ?_
  refine WL.val ((v_neq rfl rfl rfl).t ((by decide))) (.none rfl) rfl rfl ?_
  refine WL.nil ?_
  refine WE.then_n ?_
  refine WC.cond_t rfl ?_
  refine WC.seq ?_
  refine WC.orders mixed ?_
  refine WR.first (g := 3) [0] (by kernel_rfl) (by kernel_rfl) ?_
  refine WP.val (v_build rfl rfl zero_53 plc_53 rfl) (.none rfl) rfl rfl ?_
  refine WP.nil ?_
  refine WR.each (g := 2) [1, 2] (by kernel_rfl) (by decide) ?_
  refine ⟨?_, ?_⟩
  ·
   refine WL.val (v_loadN rfl rfl many_28 rfl allAt) (.none rfl) rfl rfl ?_
   refine WL.nilR ?_
   refine WR.ones (g := 0) [2, 3] (by kernel_rfl) ?_
   refine WL.storeW rfl rfl rfl rfl many_53 rfl rfl (.none rfl) rfl ?_
   refine WL.storeW rfl rfl rfl rfl many_28 rfl rfl (.none rfl) rfl ?_
   refine WL.nilR ?_
   refine WR.done (by kernel_rfl) ?_
   refine WE.then_n ?_
   refine WC.ret ?_
   refine WE.then_ret ?_
   refine WE.ret2 (P := Tryd.prog) (.inl rfl) Tryd.results18 (resRow rfl many_53 rfl) (resRow rfl many_28 rfl) ?_
   exact fun w' h => ⟨rfl, h.frm⟩
  ·
   refine WL.storeW rfl rfl rfl rfl many_53 rfl rfl (.none rfl) rfl ?_
   refine WL.nilR ?_
   refine WR.read (g := 1) [1] (by kernel_rfl) (by kernel_rfl) (by kernel_rfl) (by kernel_rfl) rfl ?_
   refine WQ.val (v_loadN rfl rfl many_28 rfl allAt) (.none rfl) rfl rfl ?_
   refine WQ.nilR ?_
   refine WR.ones (g := 0) [3] (by kernel_rfl) ?_
   refine WL.storeW rfl rfl rfl rfl many_28 rfl rfl (.none rfl) rfl ?_
   refine WL.nilR ?_
   refine WR.done (by kernel_rfl) ?_
   refine WE.then_n ?_
   refine WC.ret ?_
   refine WE.then_ret ?_
   refine WE.ret2 (P := Tryd.prog) (.inl rfl) Tryd.results18 (resRow rfl many_53 rfl) (resRow rfl many_28 rfl) ?_
   exact fun w' h => ⟨rfl, h.frm⟩
theorem RDecAny_c (w0 : World) (ad : Option Addr) (c : Nat) (xs : List Int) (hC : CellsAt w0 ad (u8s xs)) (hB : Bys xs) (hle : xs.length ≤ c) (hn : xs.length ≤ 90000) :
    Calls Tryd.prog 18 #[.slice ad xs.length c] w0 fun e w' => ∃ C S d m K, e = .returned (.tuple #[.agg m.rcells.toArray, .agg (fltL C S d).toArray]) ∧ MsAll K m ∧ St (fun _ => False) w0 w' K ∧ DecIs xs C S d m.d := by
  by_cases h0 : xs.length = 0
  · obtain rfl : xs = [] := List.length_eq_zero_iff.1 h0
    refine (RDecNil_c w0 ad c).mono ?_
    rintro e w' ⟨rfl, hF⟩
    exact ⟨1, 2, ⟨#[]⟩, MsL.zero 0, [], rfl, MsAll.zero 0, (St.start _ _).ext hF, .bad decM_nil⟩
  · obtain ⟨b, o, rfl, hr⟩ := hC (by rw [u8s_len]; omega)
    refine (RDec07_c w0 b o c xs ⟨hr, hB, hle⟩ hn).mono fun e w' h => ?_
    unfold RMsP at h
    cases hd : decM xs with
    | inr f =>
      obtain ⟨C, S, d⟩ := f
      rw [hd] at h
      exact ⟨C, S, d, MsL.zero 0, [], h.1, MsAll.zero 0, (St.start _ _).ext h.2, .bad hd⟩
    | inl md =>
      rw [hd] at h
      obtain ⟨m, K, he, em, hM, hS⟩ := h
      exact ⟨0, 0, ⟨#[]⟩, m, K, he, hM, hS, by rw [em]; exact .ok hd⟩
theorem Vec.cellsAt {ad : Option Addr} {c : Nat} {xs : List Int} {E : List Ent} (hV : BV ad c xs E) {w : World} (hw : ∀ e ∈ E, e.holds w) : CellsAt w ad (u8s xs) := fun hn => by
  obtain ⟨b, o, e, hr⟩ := Vec.src2 hV hn
  exact ⟨b, o, e, hr w hw⟩
set_option maxHeartbeats 8000000 in
theorem BgpReads_all (w0 : World) (a : Option Addr) (c : Nat) (xs : List Int) (hG : GF w0) (hZ : GZ w0) (hC : CellsAt w0 a (u8s xs)) (hB : Bys xs) (hle : xs.length ≤ c) (hn : xs.length ≤ 9223372036854775807) :
    Calls Tryd.prog 4 #[.slice a xs.length c] w0 fun e w' => e = .returned (.bool true) ∧ Frm (fun _ => False) w0 w' := by
  refine enter Tryd.func4 rfl Tryd.ntmps4 rfl (St.start (fun _ => False) w0) ?_
  refine WC.seq ?_
  refine WC.region ?_
  refine WL.val (v_assign rfl rfl) (.none rfl) rfl rfl ?_
  refine WL.nil ?_
  refine WE.then_n ?_
  refine WC.seq ?_
  refine WC.seq ?_
  refine WC.region ?_
  refine WL.call rfl rfl ck_13 (.none rfl) rfl rfl ?_
  intro w hS
  refine Calls.then (Head07_c w) hS ?_
  refine WL.val (v_not rfl rfl rfl) (.none rfl) rfl rfl ?_
  refine WL.nil ?_
  refine WE.then_n ?_
  refine WC.cond_f rfl ?_
  refine WC.skip ?_
  refine WE.then_n ?_
  refine WC.seq ?_
  refine WC.seq ?_
  refine WC.region ?_
  refine WL.val (v_move rfl rfl) (.none rfl) rfl rfl ?_
  refine WL.val (v_len_slice rfl rfl Tryd.underlying22) (.none rfl) rfl rfl ?_
  refine WL.test (v_gtr rfl rfl rfl) (.none rfl) rfl rfl (fun h13 => ?_) (fun h13 => ?_)
  ·
   refine WL.nil ?_
   refine WE.then_n ?_
   refine WC.cond_t rfl ?_
   refine WC.seq ?_
   refine WC.region ?_
   refine WL.val (v_assign rfl rfl) (.none rfl) rfl rfl ?_
   refine WL.nil ?_
   refine WE.then_n ?_
   refine WC.ret ?_
   refine WE.then_ret ?_
   refine WE.ret1 (P := Tryd.prog) (.inl rfl) Tryd.results4 rfl ?_
   exact fun w' h => ⟨rfl, h.frm⟩
  ·
   refine WL.nil ?_
   refine WE.then_n ?_
   refine WC.cond_f rfl ?_
   refine WC.skip ?_
   refine WE.then_n ?_
   refine WC.seq ?_
   refine WC.region ?_
   refine WL.val (v_move rfl rfl) (.none rfl) rfl rfl ?_
   refine WL.call rfl rfl ck_16 (.none rfl) rfl rfl ?_
   intro w1 hS
   refine (Copy_c (fun _ => False) w0 w1 [] a xs.length c (fOf xs) hS (fun w' hS' => rdVal hC hS') (by omega)).mono ?_
   rintro e w' ⟨am, cm, E, rfl, hcm, hV, hS'⟩
   rw [bcs_fOf] at hV
   refine ⟨_, E ++ [], rfl, hS', ?_⟩
   refine WL.val (v_assign rfl rfl) (.none rfl) rfl rfl ?_
   refine WL.nil ?_
   refine WE.then_n ?_
   refine WC.seq ?_
   refine WC.region ?_
   refine WL.val (v_move rfl rfl) (.none rfl) rfl rfl ?_
   refine WL.call rfl rfl ck_17 (.none rfl) rfl rfl ?_
   intro w1 hS
   refine (DecAny_c w1 am cm xs (hG.keep (fun h => h) hS) (hZ.keep (fun h => h) hS) (Vec.cellsAt hV fun e he => hS.holds e (by simp [he])) hB hcm (by omega)).mono ?_
   rintro e w' ⟨C, S, d, m, K, rfl, hM, hS', hI⟩
   refine ⟨_, _, rfl, hS.join hS', ?_⟩
   refine WL.val (v_move rfl rfl) (.none rfl) rfl rfl ?_
   refine WL.val (v_extract rfl rfl rfl) (.none rfl) rfl rfl ?_
   refine WL.val (v_extract rfl rfl rfl) (.none rfl) rfl rfl ?_
   refine WL.alloc rfl zero_43 (.none rfl) rfl rfl ?_
   intro g4 hg4
   refine WL.alloc rfl zero_25 (.none rfl) rfl rfl ?_
   intro g5 hg5
   refine WL.storeW rfl rfl rfl rfl many_43 rfl rfl (.none rfl) rfl ?_
   refine WL.storeW rfl rfl rfl rfl many_25 rfl rfl (.none rfl) rfl ?_
   refine WL.as (L' := .row g5 (fltL C S d) :: .row g4 m.cells :: (K ++ (E ++ []))) rfl ?_
   refine WL.nil ?_
   refine WE.then_n ?_
   refine WC.seq ?_
   refine WC.region ?_
   refine WL.val (v_move rfl rfl) (.none rfl) rfl rfl ?_
   refine WL.call rfl rfl ck_18 (.none rfl) rfl rfl ?_
   intro w1 hS
   refine (RDecAny_c w1 a c xs (hC.frm (hS.rng fun _ h => h)) hB hle (by omega)).mono ?_
   rintro e w' ⟨C', S', d', r, Kr, rfl, hR, hS', hI'⟩
   obtain ⟨e1, e2, e3, emr⟩ := hI.eq hI'
   rw [← e1, ← e2, ← e3]
   refine ⟨_, _, rfl, hS.join hS', ?_⟩
   refine WL.val (v_move rfl rfl) (.none rfl) rfl rfl ?_
   refine WL.val (v_extract rfl rfl rfl) (.none rfl) rfl rfl ?_
   refine WL.val (v_extract rfl rfl rfl) (.none rfl) rfl rfl ?_
   refine WL.alloc rfl zero_53 (.none rfl) rfl rfl ?_
   intro g6 hg6
   refine WL.alloc rfl zero_28 (.none rfl) rfl rfl ?_
   intro g7 hg7
   refine WL.storeW rfl rfl rfl rfl many_53 rfl rfl (.none rfl) rfl ?_
   refine WL.storeW rfl rfl rfl rfl many_28 rfl rfl (.none rfl) rfl ?_
   refine WL.as (L' := .row g7 (fltL C S d) :: .row g6 r.rcells :: (Kr ++ (.row g5 (fltL C S d) :: .row g4 m.cells :: (K ++ (E ++ []))))) rfl ?_
   refine WL.nil ?_
   refine WE.then_n ?_
   refine WC.seq ?_
   refine WC.seq ?_
   refine WC.region ?_
   refine WL.val (v_move rfl rfl) (.none rfl) rfl rfl ?_
   refine WL.val (v_len_slice rfl rfl Tryd.underlying22) (.none rfl) rfl rfl ?_
   refine WL.val (v_move rfl rfl) (.none rfl) rfl rfl ?_
   refine WL.to (L' := E ++ (.row g7 (fltL C S d) :: .row g6 r.rcells :: (Kr ++ (.row g5 (fltL C S d) :: .row g4 m.cells :: (K ++ []))))) (fun w hS => hS.permC (by intro c h1 h2 h3 e; simp only [h1, h2, h3]; omega)) ?_
   refine WL.nil ?_
   refine WE.then_n ?_
   refine WC.block ?_
   refine WC.loop (fun y : Nat × List Value × List Ent => [(28, .int .i64 y.1), (27, .int .i64 xs.length), (7, .pointer (some ⟨g7, 0, none⟩)), (6, .pointer (some ⟨g6, 0, none⟩)), (5, .pointer (some ⟨g5, 0, none⟩)), (4, .pointer (some ⟨g4, 0, none⟩)), (3, .slice am xs.length cm)]) (fun y => y.2.2 ++ (.row g7 (fltL C S d) :: .row g6 r.rcells :: (Kr ++ (.row g5 (fltL C S d) :: .row g4 m.cells :: (K ++ []))))) (fun y => y.1 ≤ xs.length ∧ Vec 1 am xs.length cm y.2.1 y.2.2 ∧ ∀ i, i < xs.length → ∃ x, y.2.1[i]? = some (.int .u8 x)) (fun y => xs.length - y.1) (0, u8s xs, E) ⟨Nat.zero_le _, hV, fun i hi => ⟨_, u8s_get (fOf_get hi)⟩⟩ (.cons rfl (.cons rfl (.cons rfl (.cons rfl (.cons rfl (.cons rfl (.cons rfl .nil))))))) (.refl _) ?_
   rintro ⟨k, zs, F⟩ ⟨hk, hF, hz⟩
   dsimp only at hk hF hz
   dsimp only
   refine WC.seq ?_
   refine WC.region ?_
   refine WL.test (v_lss rfl rfl rfl) (.none rfl) rfl rfl (fun h29 => ?_) (fun h29 => ?_)
   ·
    refine WL.nil ?_
    refine WE.then_n ?_
    refine WC.seq ?_
    refine WC.cond_t rfl ?_
    refine WC.skip ?_
    refine WE.then_n ?_
    refine WC.seq ?_
    refine WC.block ?_
    refine WC.seq ?_
    refine WC.region ?_
    refine WL.val (v_move rfl rfl) (.none rfl) rfl rfl ?_
    refine WL.val (v_assign rfl rfl) (.none rfl) rfl rfl ?_
    refine WL.nil ?_
    refine WE.then_n ?_
    refine WC.region ?_
    obtain ⟨x, hx⟩ := hz k (by omega)
    obtain ⟨g, cs, eam, rfl, hcz, hcl⟩ : ∃ g cs, am = some ⟨g, 0, none⟩ ∧ F = [.row g cs] ∧ cs.take xs.length = zs ∧ cs.length = cm := (by
      rcases hF with ⟨_, h0, _⟩ | ⟨g, cs, e1, e2, e3, e4, _⟩
      · omega
      · exact ⟨g, cs, e1, e2, by rw [← e3, Nat.mul_one], by omega⟩)
    have hxc : cs[k]? = some (.int .u8 x) := (by rw [← hcz, List.getElem?_take, if_pos (by omega)] at hx; exact hx)
    rw [eam]
    refine WL.as (L' := .row g cs :: (.row g7 (fltL C S d) :: .row g6 r.rcells :: (Kr ++ (.row g5 (fltL C S d) :: .row g4 m.cells :: (K ++ []))))) rfl ?_
    refine WL.val (v_move rfl rfl) (.none rfl) rfl rfl ?_
    refine WL.val (v_move rfl rfl) (.none rfl) rfl rfl ?_
    refine WL.val (v_indexAddr (lo := k) rfl rfl rfl Tryd.underlying22 sz_5 (by omega) (by omega)) (.none rfl) rfl rfl ?_
    refine WL.val (v_load1 rfl rfl one_5 (cellAt (g := g) (k := 0 + k * 1) (v := .int .u8 x) (by rw [show 0 + k * 1 = k by omega]; exact hxc))) (.none rfl) rfl rfl ?_
    refine WL.val (v_xor rfl rfl rfl rfl) (.none rfl) rfl rfl ?_
    refine WL.val (v_indexAddr (lo := k) rfl rfl rfl Tryd.underlying22 sz_5 (by omega) (by omega)) (.none rfl) rfl rfl ?_
    refine WL.store1 rfl rfl rfl rfl one_5 (by omega) (.none rfl) rfl ?_
    refine WL.nil ?_
    refine WE.block_n ?_
    refine WE.then_n ?_
    refine WC.region ?_
    refine WL.val (v_add rfl rfl rfl (w_i64 (by omega) (by omega))) (.none rfl) rfl rfl ?_
    refine WL.val (v_move rfl rfl) (.none rfl) rfl rfl ?_
    skip
    refine WL.nil ?_
    rw [show 0 + k * 1 = k by omega]
    refine WE.next (k + 1, (cs.set k (.int .u8 (bits .xor .u8 x 255))).take xs.length, [.row g (cs.set k (.int .u8 (bits .xor .u8 x 255)))]) (by dsimp only; omega) ⟨by dsimp only; omega, by exact Vec.row (by rw [Nat.mul_one]) (by rw [List.length_set]; omega) hcm, ?_⟩ (.int rfl (by dsimp only; omega) (.cons rfl (.cons rfl (.cons rfl (.cons rfl (.cons rfl (.cons rfl .nil))))))) (.refl _)
    dsimp only
    intro i hi
    rw [List.getElem?_take, if_pos hi]
    by_cases e : i = k
    · subst e
      exact ⟨_, by rw [List.getElem?_set_self (by omega)]⟩
    · rw [List.getElem?_set_ne (by omega)]
      obtain ⟨y, hy⟩ := hz i hi
      rw [← hcz, List.getElem?_take, if_pos hi] at hy
      exact ⟨y, hy⟩
   ·
    refine WL.nil ?_
    refine WE.then_n ?_
    refine WC.seq ?_
    refine WC.cond_f rfl ?_
    refine WC.exit ?_
    refine WE.then_exit ?_
    refine WE.then_exit ?_
    refine WE.block_hit ?_
    refine WE.then_n ?_
    refine WC.seq ?_
    refine WC.held (F ++ (.row g7 (fltL C S d) :: .row g6 r.rcells :: (Kr ++ (.row g5 (fltL C S d) :: .row g4 m.cells :: (K ++ []))))) mixed ?_
    refine WRH.first (g := 4) [0, 1, 2, 3, 4, 6] (by kernel_rfl) (by kernel_rfl) (fun w hS => hS.sub (by repeat (first | exact List.Sublist.refl _ | exact List.nil_sublist _ | refine List.Sublist.cons _ ?_ | refine List.sublist_append_of_sublist_right ?_))) ?_
    refine WH.val (v_loadN rfl rfl many_25 rfl allAt) (.none rfl) rfl rfl ?_
    refine WH.val (v_loadN rfl rfl many_28 rfl allAt) (.none rfl) rfl rfl ?_
    refine WH.val (v_eql_aggT rfl rfl rfl eqk_28 eqg_28 rfl rfl (by rfl)) (.none rfl) rfl rfl ?_
    refine WH.val (v_move rfl rfl) (.none rfl) rfl rfl ?_
    refine WH.val (v_loadN rfl rfl many_43 rfl allAt) (.some rfl rfl rfl) rfl rfl ?_
    refine WH.val (v_loadN rfl rfl many_53 rfl allAt) (.some rfl rfl rfl) rfl rfl ?_
    refine WH.nil ?_
    refine WRH.one (g := 3) 5 (by kernel_rfl) ?_
    refine WL.call rfl rfl ck_20 (.some rfl rfl rfl) rfl rfl ?_
    intro w1 hS
    obtain ⟨hfw, hIn⟩ := hI.few hB
    refine (Plain_c w1 m (hM.at fun e he => hS.holds e (by simp [he])) hIn hfw).mono ?_
    rintro e w' ⟨m', K43, rfl, em', hm', hS'⟩
    have hI2 : DecIs xs C S d m'.d := (by rw [em']; exact hI)
    obtain ⟨hfw', hIn'⟩ := hI2.few hB
    refine ⟨_, _, rfl, hS.join hS', ?_⟩
    refine WL.nilH (fun w hS => hS.sub (by repeat (first | exact List.Sublist.refl _ | exact List.nil_sublist _ | refine List.Sublist.cons _ ?_ | refine List.sublist_append_of_sublist_right ?_))) ?_
    refine WRH.one (g := 2) 7 (by kernel_rfl) ?_
    refine WL.call rfl rfl ck_19 (.some rfl rfl rfl) rfl rfl ?_
    intro w hS
    refine Calls.then (RSame07_c _ m' r (hm' _ (hM.at fun e he => hS.holds e (by simp [he])) fun e he => hS.holds e (by simp [he])) (hR.at fun e he => hS.holds e (by simp [he])) (by rw [em', emr]) hIn' hfw') hS ?_
    refine WL.nilH (fun w hS => hS.sub (by repeat (first | exact List.Sublist.refl _ | exact List.nil_sublist _ | refine List.Sublist.cons _ ?_ | refine List.sublist_append_of_sublist_right ?_))) ?_
    refine WRH.first (g := 0) [8, 9] (by kernel_rfl) (by kernel_rfl) (fun w hS => hS.sub (by repeat (first | exact List.Sublist.refl _ | exact List.nil_sublist _ | refine List.Sublist.cons _ ?_ | refine List.sublist_append_of_sublist_right ?_))) ?_
    refine WH.val (v_pick_t rfl rfl rfl) (.none rfl) rfl rfl ?_
    refine WH.val (v_assign rfl rfl) (.none rfl) rfl rfl ?_
    refine WH.nil ?_
    refine WRH.done (by kernel_rfl) ?_
    refine WE.then_n ?_
    refine WC.ret ?_
    refine WE.ret1 (P := Tryd.prog) (.inl rfl) Tryd.results4 rfl ?_
    exact fun w' h => ⟨rfl, h.frm⟩
end Go.Proofs.YtpjbofodllhjbaaDoor
/- attr: the two tables that lie there. -/
namespace Go.Proofs.YtpjbofodllhjbaaDoor
open Go.RowKit

theorem laid_tail {P : Program} {x : String × DataW Unit} {r : List (String × DataW Unit)} {w : World} (h : laidMet P (x :: r) w) : laidMet P r w := by
  obtain ⟨ps, ⟨g, t, cs, fuel, p, q, _, _, _, _, hq, rfl⟩, hn, hc⟩ := h
  exact ⟨q, hq, (List.nodup_append.1 hn).2.1, fun b off hm => hc b off (List.mem_append_right _ hm)⟩
theorem laid_attr {w : World} (hL : laidMet Tryd.prog [("carrefour/attr.flags", Rows.laid_carrefour_attr_flags), ("carrefour/attr.sizes", Rows.laid_carrefour_attr_sizes)] w) : GF w ∧ GZ w := by
  constructor
  · have hT := Lib.tabIs_of_head (zs := [0, 64, 64, 64, 128, 64, 64, 192, 192]) (k := .i64) (show Tryd.prog.globalNamed "carrefour/attr.flags" = some 0 by kernel_rfl) (show (Tryd.prog.globals[0]?).map (·.type) = some 157 by kernel_rfl) Tryd.underlying157 Tryd.underlying3 (by kernel_rfl) (by kernel_rfl) hL
    intro i hi
    have := hT.cell (show Tryd.prog.globalNamed "carrefour/attr.flags" = some 0 by kernel_rfl) i hi
    match i, hi with
    | 0, _ | 1, _ | 2, _ | 3, _ | 4, _ | 5, _ | 6, _ | 7, _ | 8, _ => exact this
  · have hT := Lib.tabIs_of_head (zs := [0, 1, -1, 4, 4, 4, 0, 6, -1]) (k := .i64) (show Tryd.prog.globalNamed "carrefour/attr.sizes" = some 2 by kernel_rfl) (show (Tryd.prog.globals[2]?).map (·.type) = some 157 by kernel_rfl) Tryd.underlying157 Tryd.underlying3 (by kernel_rfl) (by kernel_rfl) (laid_tail hL)
    intro i hi
    have := hT.cell (show Tryd.prog.globalNamed "carrefour/attr.sizes" = some 2 by kernel_rfl) i hi
    match i, hi with
    | 0, _ | 1, _ | 2, _ | 3, _ | 4, _ | 5, _ | 6, _ | 7, _ | 8, _ => exact this
end Go.Proofs.YtpjbofodllhjbaaDoor
/- Arguments: a message of BGP. -/
namespace Go.Proofs.YtpjbofodllhjbaaDoor
open Go.RowKit

theorem rows_of {P : Program} {w : World} {e s len : Nat} {a : Option Addr} {α : Type} {enc : α → List Value} {good : α → Prop} (hx : ∀ cs, cs.length = s → Tree P w e cs → ∃ x, cs = enc x ∧ good x) (h : Elems P w e s a len) : ∃ xs : List α, xs.length = len ∧ RowsAt w a s enc xs ∧ ∀ x ∈ xs, good x := by
  by_cases hl : 0 < len
  · obtain ⟨b, off, rfl, hE⟩ := h hl
    have hE' : ∀ i : Fin len, ∃ x, w.rangeAt b (off + i.1 * s) (enc x) ∧ good x := fun i => by
      obtain ⟨cs, hc, hr, hT⟩ := hE i.1 i.2
      obtain ⟨x, rfl, hg⟩ := hx cs hc hT
      exact ⟨x, hr, hg⟩
    refine ⟨List.ofFn fun i => Classical.choose (hE' i), List.length_ofFn, fun i x hi => ?_, fun x hm => ?_⟩
    · rw [List.getElem?_ofFn] at hi
      split at hi
      · rename_i hlt
        obtain rfl := Option.some.inj hi
        exact ⟨b, off, rfl, (Classical.choose_spec (hE' ⟨i, hlt⟩)).1⟩
      · cases hi
    · obtain ⟨i, rfl⟩ := List.mem_ofFn.1 hm
      exact (Classical.choose_spec (hE' i)).2
  · refine ⟨[], by rw [List.length_nil]; omega, fun i x hi => by simp at hi, fun x hm => by cases hm⟩
theorem CellsAt.of_rows {w : World} {a : Option Addr} {f : Int → Value} {xs : List Int} (h : RowsAt w a 1 (fun x => [f x]) xs) : CellsAt w a (xs.map f) := fun hn => by
  rw [List.length_map] at hn
  obtain ⟨b, o, e, _⟩ := h 0 _ (List.getElem?_eq_getElem hn)
  refine ⟨b, o, e, fun j v hj => ?_⟩
  rw [List.getElem?_map] at hj
  cases hx : xs[j]? with
  | none => rw [hx] at hj; cases hj
  | some x =>
    rw [hx] at hj
    obtain rfl := Option.some.inj hj
    obtain ⟨b', o', e', hr⟩ := h j x hx
    rw [e] at e'
    cases e'
    have := hr 0 _ rfl
    rwa [Nat.mul_one, Nat.add_zero] at this
theorem Elems.u8 {w : World} {len : Nat} {a : Option Addr} (h : Elems Tryd.prog w 5 1 a len) : ∃ xs : List Int, xs.length = len ∧ CellsAt w a (u8s xs) ∧ Bys xs := by
  obtain ⟨xs, hl, hr, hg⟩ := rows_of (enc := fun x => [.int .u8 x]) (good := fun x => 0 ≤ x ∧ x ≤ 255) (fun cs hc hT => by
    match cs, hc with
    | [x], _ =>
      obtain ⟨n, rfl, hw⟩ := Tree.int Tryd.underlying5 hT
      exact ⟨n, rfl, wf_u8 hw⟩) h
  exact ⟨xs, hl, CellsAt.of_rows hr, hg⟩
theorem Elems.i64 {w : World} {len : Nat} {a : Option Addr} (h : Elems Tryd.prog w 3 1 a len) : ∃ xs : List Int, xs.length = len ∧ CellsAt w a (i64s xs) ∧ ∀ x ∈ xs, I64 x := by
  obtain ⟨xs, hl, hr, hg⟩ := rows_of (enc := fun x => [.int .i64 x]) (good := fun x => I64 x) (fun cs hc hT => by
    match cs, hc with
    | [x], _ =>
      obtain ⟨n, rfl, hw⟩ := Tree.int Tryd.underlying3 hT
      exact ⟨n, rfl, wf_i64 hw⟩) h
  exact ⟨xs, hl, CellsAt.of_rows hr, hg⟩
theorem Tree.u8sl {w : World} {x : Value} (h : Tree Tryd.prog w 22 [x]) : ∃ a cap, ∃ xs : List Int, x = .slice a xs.length cap ∧ xs.length ≤ cap ∧ cap ≤ maxLen ∧ CellsAt w a (u8s xs) ∧ Bys xs := by
  obtain ⟨a, len, cap, rfl, h1, h2, hE⟩ := Tree.slice (s := 1) Tryd.underlying22 (by kernel_rfl) (by decide) h
  obtain ⟨xs, rfl, hc, hb⟩ := Elems.u8 hE
  exact ⟨a, cap, xs, rfl, h1, h2, hc, hb⟩
theorem Tree.i64sl {w : World} {x : Value} (h : Tree Tryd.prog w 38 [x]) : ∃ a cap, ∃ xs : List Int, x = .slice a xs.length cap ∧ xs.length ≤ cap ∧ cap ≤ maxLen ∧ CellsAt w a (i64s xs) ∧ ∀ x ∈ xs, I64 x := by
  obtain ⟨a, len, cap, rfl, h1, h2, hE⟩ := Tree.slice (s := 1) Tryd.underlying38 (by kernel_rfl) (by decide) h
  obtain ⟨xs, rfl, hc, hb⟩ := Elems.i64 hE
  exact ⟨a, cap, xs, rfl, h1, h2, hc, hb⟩
theorem Tree.flatL {P : Program} {w : World} {t : TypeId} {cs : List Value} {ts : List TypeId} (h : Tree P w t cs) (F : Nat) (hl : layB P F t = true) (hf : flat P F t = ts) : Leaves P w ts cs := hf ▸ Tree.leaves F t cs hl h
theorem maxLen_le : maxLen ≤ 9223372036854775807 := by decide
theorem Tree.caps {w : World} {x : Value} (h : Tree Tryd.prog w 35 [x]) : ∃ a cap, ∃ xs : List CapL, x = .slice a xs.length cap ∧ xs.length ≤ 9223372036854775807 ∧ RowsAt w a 2 CapL.cells xs ∧ ∀ c ∈ xs, CellsAt w c.ad (u8s c.val) ∧ I64 c.code ∧ c.val.length ≤ 9223372036854775807 ∧ Bys c.val := by
  obtain ⟨a, len, cap, rfl, h1, h2, hE⟩ := Tree.slice (s := 2) Tryd.underlying35 (by kernel_rfl) (by decide) h
  have hm := maxLen_le
  obtain ⟨xs, rfl, hr, hg⟩ := rows_of (enc := CapL.cells) (good := fun c => CellsAt w c.ad (u8s c.val) ∧ I64 c.code ∧ c.val.length ≤ 9223372036854775807 ∧ Bys c.val) (fun cs hc hT => by
    have hL := Tree.flatL (ts := [3, 22]) hT 4 (by kernel_rfl) (by kernel_rfl)
    obtain ⟨x, _, rfl, hx, y, _, rfl, hy, rfl⟩ := hL
    obtain ⟨n, rfl, hw⟩ := Tree.int Tryd.underlying3 hx
    obtain ⟨a', cap', ys, rfl, k1, k2, k3, k4⟩ := Tree.u8sl hy
    exact ⟨⟨n, a', cap', ys⟩, rfl, k3, wf_i64 hw, by dsimp only; omega, k4⟩) hE
  exact ⟨a, cap, xs, rfl, by omega, hr, hg⟩
theorem Tree.segs {w : World} {x : Value} (h : Tree Tryd.prog w 37 [x]) : ∃ a cap, ∃ xs : List SegL, x = .slice a xs.length cap ∧ xs.length ≤ 9223372036854775807 ∧ RowsAt w a 2 SegL.cells xs ∧ ∀ c ∈ xs, CellsAt w c.ad (i64s c.asl) ∧ c.asl.length ≤ 9223372036854775807 ∧ ∀ x ∈ c.asl, I64 x := by
  obtain ⟨a, len, cap, rfl, h1, h2, hE⟩ := Tree.slice (s := 2) Tryd.underlying37 (by kernel_rfl) (by decide) h
  have hm := maxLen_le
  obtain ⟨xs, rfl, hr, hg⟩ := rows_of (enc := SegL.cells) (good := fun c => CellsAt w c.ad (i64s c.asl) ∧ c.asl.length ≤ 9223372036854775807 ∧ ∀ x ∈ c.asl, I64 x) (fun cs hc hT => by
    have hL := Tree.flatL (ts := [4, 38]) hT 4 (by kernel_rfl) (by kernel_rfl)
    obtain ⟨x, _, rfl, hx, y, _, rfl, hy, rfl⟩ := hL
    obtain ⟨n, rfl⟩ := Tree.bool Tryd.underlying4 hx
    obtain ⟨a', cap', ys, rfl, k1, k2, k3, k4⟩ := Tree.i64sl hy
    exact ⟨⟨n, a', cap', ys⟩, rfl, k3, by dsimp only; omega, k4⟩) hE
  exact ⟨a, cap, xs, rfl, by omega, hr, hg⟩
theorem Tree.oths {w : World} {x : Value} (h : Tree Tryd.prog w 39 [x]) : ∃ a cap, ∃ xs : List OthL, x = .slice a xs.length cap ∧ xs.length ≤ 9223372036854775807 ∧ RowsAt w a 2 OthL.cells xs ∧ ∀ c ∈ xs, CellsAt w c.ad (u8s c.val) ∧ I64 c.ty ∧ c.val.length ≤ 9223372036854775807 ∧ Bys c.val := by
  obtain ⟨a, len, cap, rfl, h1, h2, hE⟩ := Tree.slice (s := 2) Tryd.underlying39 (by kernel_rfl) (by decide) h
  have hm := maxLen_le
  obtain ⟨xs, rfl, hr, hg⟩ := rows_of (enc := OthL.cells) (good := fun c => CellsAt w c.ad (u8s c.val) ∧ I64 c.ty ∧ c.val.length ≤ 9223372036854775807 ∧ Bys c.val) (fun cs hc hT => by
    have hL := Tree.flatL (ts := [3, 22]) hT 4 (by kernel_rfl) (by kernel_rfl)
    obtain ⟨x, _, rfl, hx, y, _, rfl, hy, rfl⟩ := hL
    obtain ⟨n, rfl, hw⟩ := Tree.int Tryd.underlying3 hx
    obtain ⟨a', cap', ys, rfl, k1, k2, k3, k4⟩ := Tree.u8sl hy
    exact ⟨⟨n, a', cap', ys⟩, rfl, k3, wf_i64 hw, by dsimp only; omega, k4⟩) hE
  exact ⟨a, cap, xs, rfl, by omega, hr, hg⟩
end Go.Proofs.YtpjbofodllhjbaaDoor
