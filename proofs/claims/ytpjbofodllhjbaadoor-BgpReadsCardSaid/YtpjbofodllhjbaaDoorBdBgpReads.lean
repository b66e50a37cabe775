/- Texts joined: engine, contracts and laws, in the order in which they build. -/
import Derived.OrdersHeld
import Derived.Test.YtpjbofodllhjbaaDoorBcBgpReads
/- bgp: what an Open has behind its head, walked. -/
namespace Go.Proofs.YtpjbofodllhjbaaDoor
open Go.RowKit

theorem Win.get2d {w : World} {b o c : Nat} {xs : List Int} (h : Win w b o c xs) (k : Nat) (hk : k + 2 ≤ xs.length) : Calls Tryd.prog 37 #[.slice (some ⟨b, sAddr o k c 1, none⟩) (xs.length - k) (c - k)] w fun e w' => e = .returned (.int .i64 (fOf xs k * 256 + fOf xs (k + 1))) ∧ Frm (fun _ => False) w w' := by
  have e := (h.drop k).get2 (by rw [List.length_drop]; omega)
  rw [List.length_drop, fOf_drop, fOf_drop] at e
  exact e
theorem Win.addrd {w : World} {b o c : Nat} {xs : List Int} (h : Win w b o c xs) (hk : 9 ≤ xs.length) : Calls Tryd.prog 58 #[.slice (some ⟨b, sAddr o 5 c 1, none⟩) (9 - 5) (c - 5)] w fun e w' => e = .returned (.int .u32 (idB xs)) ∧ Frm (fun _ => False) w w' := by
  have hl : ((xs.take 9).drop 5).length = 9 - 5 := by rw [List.length_drop, List.length_take]; omega
  have e := getAddr_c w b (sAddr o 5 c 1) (c - 5) ((xs.take 9).drop 5) ((h.take 9).drop 5) (by omega)
  rw [hl] at e
  exact e
structure CapS where
  ys : List Int
  o : Nat
  c : Nat
  cs : List CapL
  ad : Option Addr
  kc : Nat
  E : List Ent
  KO : List Ent
def MsL.opened (k : Int) (xs : List Int) (ad : Option Addr) (kc : Nat) (cs : List CapL) : MsL := { MsL.zero k with asn := asnB xs, hold := holdB xs, id := idB xs, kad := ad, kc := kc, caps := cs }
def OpenP (w0 w' : World) (gm : Nat) (k : Int) (xs : List Int) (L : List Ent) (e : Ending) : Prop :=
  ∃ (ok : Bool) (s : Int) (d : ByteArray) (ad : Option Addr) (kc : Nat) (cs : List CapL) (E K : List Ent), e = .returned (.agg (fltL (if ok then 0 else 2) s d).toArray) ∧ St (fun _ => False) w0 w' (.row gm (MsL.opened k xs ad kc cs).cells :: (E ++ (K ++ L))) ∧
    Vec 2 ad cs.length kc (capsL cs) E ∧ (∀ c ∈ cs, CapOwn K c) ∧ (ok = false → openR xs = .inr (s, d)) ∧ (ok = true → s = 0 ∧ d = ⟨#[]⟩ ∧ openR xs = .inl (cs.map capD))
set_option maxHeartbeats 4000000 in
theorem readOpen_c (w0 w1 : World) (gm b o c : Nat) (k : Int) (xs : List Int) (L : List Ent) (hW : Win w0 b o c xs) (h10 : 10 ≤ xs.length) (hn : xs.length ≤ 90000) (hS0 : St (fun _ => False) w0 w1 (.row gm (MsL.zero k).cells :: L)) :
    Calls Tryd.prog 41 #[.pointer (some ⟨gm, 0, none⟩), .slice (some ⟨b, o, none⟩) xs.length c] w1 fun e w' => OpenP w0 w' gm k xs L e := by
  have hle := hW.le
  have h9 := fOf_b hW.bys 9
  refine enter Tryd.func41 rfl Tryd.ntmps41 rfl hS0 ?_
  refine WC.seq ?_
  refine WC.region ?_
  refine WL.alloc rfl zero_25 (.none rfl) rfl rfl ?_
  intro g4 hg4
  refine WL.nil ?_
  refine WE.then_n ?_
  refine WC.seq ?_
  refine WC.orders mixed ?_
  refine WR.first (g := 12) [0, 1, 2, 3, 4, 6, 7, 9, 10] (by kernel_rfl) (by kernel_rfl) ?_
  refine WP.val (v_move rfl rfl) (.none rfl) rfl rfl ?_
  refine WP.val (v_move rfl rfl) (.none rfl) rfl rfl ?_
  refine WP.val (v_move rfl rfl) (.none rfl) rfl rfl ?_
  refine WP.val (v_move rfl rfl) (.none rfl) rfl rfl ?_
  refine WP.val ((v_slice_lo (lo := 1) rfl rfl rfl Tryd.underlying22 sz_5 rfl (by omega))) (.none rfl) rfl rfl ?_
  refine WP.val (v_move rfl rfl) (.none rfl) rfl rfl ?_
  refine WP.val ((v_slice_lo (lo := 3) rfl rfl rfl Tryd.underlying22 sz_5 rfl (by omega))) (.none rfl) rfl rfl ?_
  refine WP.val (v_move rfl rfl) (.none rfl) rfl rfl ?_
  refine WP.val ((v_slice_lh (lo := 5) (hi := 9) rfl rfl rfl rfl Tryd.underlying22 sz_5 rfl rfl (by omega) (by omega))) (.none rfl) rfl rfl ?_
  refine WP.nil ?_
  refine WR.read (g := 7) [5, 8, 11, 12, 13] (by kernel_rfl) (by kernel_rfl) (by kernel_rfl) (by kernel_rfl) rfl ?_
  refine WQ.call _ rfl rfl ck_37 (.none rfl) rfl rfl (fun w hS => Calls.still ((hW.st hS).get2d 1 (by omega)) hS) ?_
  refine WQ.call _ rfl rfl ck_37 (.none rfl) rfl rfl (fun w hS => Calls.still ((hW.st hS).get2d 3 (by omega)) hS) ?_
  refine WQ.call _ rfl rfl ck_58 (.none rfl) rfl rfl (fun w hS => Calls.still ((hW.st hS).addrd (by omega)) hS) ?_
  refine WQ.val (v_nilCheck rfl rfl) (.none rfl) rfl rfl ?_
  refine WQ.val (v_fieldAddr0 rfl rfl fld_43_1) (.none rfl) rfl rfl ?_
  refine WQ.nilR ?_
  refine WR.ones (g := 6) [14] (by kernel_rfl) ?_
  refine WL.store1 rfl rfl rfl rfl one_3 (Nat.le_of_ble_eq_true rfl) (.none rfl) rfl ?_
  refine WL.nilR ?_
  refine WR.first (g := 4) [15, 16] (by kernel_rfl) (by kernel_rfl) ?_
  refine WP.val (v_nilCheck rfl rfl) (.none rfl) rfl rfl ?_
  refine WP.val (v_fieldAddr0 rfl rfl fld_43_2) (.none rfl) rfl rfl ?_
  refine WP.nil ?_
  refine WR.ones (g := 3) [17] (by kernel_rfl) ?_
  refine WL.store1 rfl rfl rfl rfl one_3 (Nat.le_of_ble_eq_true rfl) (.none rfl) rfl ?_
  refine WL.nilR ?_
  refine WR.first (g := 1) [18, 19] (by kernel_rfl) (by kernel_rfl) ?_
  refine WP.val (v_nilCheck rfl rfl) (.none rfl) rfl rfl ?_
  refine WP.val (v_fieldAddr0 rfl rfl fld_43_3) (.none rfl) rfl rfl ?_
  refine WP.nil ?_
  refine WR.ones (g := 0) [20] (by kernel_rfl) ?_
  refine WL.store1 rfl rfl rfl rfl one_34 (Nat.le_of_ble_eq_true rfl) (.none rfl) rfl ?_
  refine WL.as (L' := .row g4 (fltL 0 0 ⟨#[]⟩) :: .row gm (MsL.opened k xs none 0 []).cells :: L) rfl ?_
  refine WL.nilR ?_
  refine WR.done (by kernel_rfl) ?_
  refine WE.then_n ?_
  refine WC.seq ?_
  refine WC.region ?_
  refine WL.val (v_move rfl rfl) (.none rfl) rfl rfl ?_
  refine WL.val ((v_slice_lo (lo := 10) rfl rfl rfl Tryd.underlying22 sz_5 rfl (by omega))) (.none rfl) rfl rfl ?_
  rw [show xs.length - 10 = (xs.drop 10).length by rw [List.length_drop]]
  refine WL.val (v_assign rfl rfl) (.none rfl) rfl rfl ?_
  refine WL.nil ?_
  refine WE.then_n ?_
  refine WC.cut (fun _ : Unit => [(0, .pointer (some ⟨gm, 0, none⟩)), (4, .pointer (some ⟨g4, 0, none⟩)), (5, .slice (some ⟨b, sAddr o 10 c 1, none⟩) (xs.drop 10).length (c - 10))]) (fun _ => .row g4 (fltL 0 0 ⟨#[]⟩) :: .row gm (MsL.opened k xs none 0 []).cells :: L) (fun _ => openR xs = match optsR [] (xs.drop 10) with | .inl cs => .inl cs | .inr s => .inr (s, ⟨#[]⟩)) ?_ ?_
  ·
   refine WC.block ?_
   refine WC.seq ?_
   refine WC.region ?_
   refine WL.val (v_move rfl rfl) (.none rfl) rfl rfl ?_
   refine WL.val (v_indexAddr (lo := 0) rfl rfl rfl Tryd.underlying22 sz_5 rfl (by omega)) (.none rfl) rfl rfl ?_
   refine WL.val (v_load1 rfl rfl one_5 (cellOld (fun h => h) (hW.get (fOf_get (by omega))))) (.none rfl) rfl rfl ?_
   refine WL.test (v_neq rfl rfl rfl) (.none rfl) rfl rfl (fun h38 => ?_) (fun h38 => ?_)
   ·
    refine WL.val (v_assign rfl rfl) (.none rfl) rfl rfl ?_
    refine WL.nil ?_
    refine WE.then_n ?_
    refine WC.cond_t rfl ?_
    refine WC.seq ?_
    refine WC.region ?_
    refine WL.val (v_build rfl rfl zero_25 plc_25 rfl) (.none rfl) rfl rfl ?_
    refine WL.storeW rfl rfl rfl rfl many_25 rfl rfl (.none rfl) rfl ?_
    refine WL.nil ?_
    refine WE.then_n ?_
    refine WC.ret ?_
    refine WE.block_ret ?_
    refine WE.then_ret ?_
    refine WE.ret1 (P := Tryd.prog) (.inl rfl) Tryd.results41 (resRow rfl many_25 rfl) ?_
    have e0 : openR xs = .inr (1, s04) := (by unfold openR; rw [if_pos h38])
    exact fun w' h => ⟨false, 1, s04, none, 0, [], [], [], rfl, h.sub (.cons _ (.refl _)), Vec.nil 2, (fun _ h => by cases h), fun _ => e0, fun e => by cases e⟩
   ·
    refine WL.val (v_assign rfl rfl) (.none rfl) rfl rfl ?_
    refine WL.nil ?_
    refine WE.then_n ?_
    refine WC.cond_f rfl ?_
    refine WC.seq ?_
    refine WC.region ?_
    refine WL.val (v_move rfl rfl) (.none rfl) rfl rfl ?_
    refine WL.val (v_nilCheck rfl rfl) (.none rfl) rfl rfl ?_
    refine WL.val (v_fieldAddr0 rfl rfl fld_43_1) (.none rfl) rfl rfl ?_
    refine WL.val (v_load1 rfl rfl one_3 (cellAt rfl)) (.none rfl) rfl rfl ?_
    refine WL.test (v_eql rfl rfl rfl) (.none rfl) rfl rfl (fun h45 => ?_) (fun h45 => ?_)
    ·
     refine WL.val (v_assign rfl rfl) (.none rfl) rfl rfl ?_
     refine WL.nil ?_
     refine WE.then_n ?_
     refine WC.cond_t rfl ?_
     refine WC.seq ?_
     refine WC.region ?_
     refine WL.val (v_build rfl rfl zero_25 plc_25 rfl) (.none rfl) rfl rfl ?_
     refine WL.storeW rfl rfl rfl rfl many_25 rfl rfl (.none rfl) rfl ?_
     refine WL.nil ?_
     refine WE.then_n ?_
     refine WC.ret ?_
     refine WE.block_ret ?_
     refine WE.then_ret ?_
     refine WE.ret1 (P := Tryd.prog) (.inl rfl) Tryd.results41 (resRow rfl many_25 rfl) ?_
     have e0 : openR xs = .inr (2, ⟨#[]⟩) := (by unfold openR; rw [if_neg h38, if_pos (show asnB xs = 0 from h45)])
     exact fun w' h => ⟨false, 2, _, none, 0, [], [], [], rfl, h.sub (.cons _ (.refl _)), Vec.nil 2, (fun _ h => by cases h), fun _ => e0, fun e => by cases e⟩
    ·
     refine WL.val (v_assign rfl rfl) (.none rfl) rfl rfl ?_
     refine WL.nil ?_
     refine WE.then_n ?_
     refine WC.cond_f rfl ?_
     refine WC.seq ?_
     refine WC.region ?_
     refine WL.val (v_move rfl rfl) (.none rfl) rfl rfl ?_
     refine WL.val (v_nilCheck rfl rfl) (.none rfl) rfl rfl ?_
     refine WL.val (v_fieldAddr0 rfl rfl fld_43_2) (.none rfl) rfl rfl ?_
     refine WL.val (v_load1 rfl rfl one_3 (cellAt rfl)) (.none rfl) rfl rfl ?_
     refine WL.test (v_eql rfl rfl rfl) (.none rfl) rfl rfl (fun h52 => ?_) (fun h52 => ?_)
     ·
      refine WL.val (v_move rfl rfl) (.none rfl) rfl rfl ?_
      refine WL.skip rfl rfl rfl rfl rfl rfl ?_
      refine WL.skip rfl rfl rfl rfl rfl rfl ?_
      refine WL.skip rfl rfl rfl rfl rfl rfl ?_
      refine WL.skip rfl rfl rfl rfl rfl rfl ?_
      refine WL.skip rfl rfl rfl rfl rfl rfl ?_
      refine WL.val (v_pick_t rfl rfl rfl) (.none rfl) rfl rfl ?_
      refine WL.val (v_assign rfl rfl) (.none rfl) rfl rfl ?_
      refine WL.nil ?_
      refine WE.then_n ?_
      refine WC.cond_t rfl ?_
      refine WC.seq ?_
      refine WC.region ?_
      refine WL.val (v_build rfl rfl zero_25 plc_25 rfl) (.none rfl) rfl rfl ?_
      refine WL.storeW rfl rfl rfl rfl many_25 rfl rfl (.none rfl) rfl ?_
      refine WL.nil ?_
      refine WE.then_n ?_
      refine WC.ret ?_
      refine WE.block_ret ?_
      refine WE.then_ret ?_
      refine WE.ret1 (P := Tryd.prog) (.inl rfl) Tryd.results41 (resRow rfl many_25 rfl) ?_
      have e0 : openR xs = .inr (6, ⟨#[]⟩) := (by unfold openR; rw [if_neg h38, if_neg (show ¬ asnB xs = 0 from h45), if_pos (show holdB xs = 1 ∨ holdB xs = 2 from .inl h52)])
      exact fun w' h => ⟨false, 6, _, none, 0, [], [], [], rfl, h.sub (.cons _ (.refl _)), Vec.nil 2, (fun _ h => by cases h), fun _ => e0, fun e => by cases e⟩
     ·
      refine WL.val (v_move rfl rfl) (.none rfl) rfl rfl ?_
      refine WL.val (v_move rfl rfl) (.some rfl rfl rfl) rfl rfl ?_
      refine WL.val (v_nilCheck rfl rfl) (.some rfl rfl rfl) rfl rfl ?_
      refine WL.val (v_fieldAddr0 rfl rfl fld_43_2) (.some rfl rfl rfl) rfl rfl ?_
      refine WL.val (v_load1 rfl rfl one_3 (cellAt rfl)) (.some rfl rfl rfl) rfl rfl ?_
      refine WL.test (v_eql rfl rfl rfl) (.some rfl rfl rfl) rfl rfl (fun h58 => ?_) (fun h58 => ?_)
      ·
       refine WL.val (v_pick_f rfl rfl rfl) (.none rfl) rfl rfl ?_
       refine WL.val (v_assign rfl rfl) (.none rfl) rfl rfl ?_
       refine WL.nil ?_
       refine WE.then_n ?_
       refine WC.cond_t rfl ?_
       refine WC.seq ?_
       refine WC.region ?_
       refine WL.val (v_build rfl rfl zero_25 plc_25 rfl) (.none rfl) rfl rfl ?_
       refine WL.storeW rfl rfl rfl rfl many_25 rfl rfl (.none rfl) rfl ?_
       refine WL.nil ?_
       refine WE.then_n ?_
       refine WC.ret ?_
       refine WE.block_ret ?_
       refine WE.then_ret ?_
       refine WE.ret1 (P := Tryd.prog) (.inl rfl) Tryd.results41 (resRow rfl many_25 rfl) ?_
       have e0 : openR xs = .inr (6, ⟨#[]⟩) := (by unfold openR; rw [if_neg h38, if_neg (show ¬ asnB xs = 0 from h45), if_pos (show holdB xs = 1 ∨ holdB xs = 2 from .inr h58)])
       exact fun w' h => ⟨false, 6, _, none, 0, [], [], [], rfl, h.sub (.cons _ (.refl _)), Vec.nil 2, (fun _ h => by cases h), fun _ => e0, fun e => by cases e⟩
      ·
       refine WL.val (v_pick_f rfl rfl rfl) (.none rfl) rfl rfl ?_
       refine WL.val (v_assign rfl rfl) (.none rfl) rfl rfl ?_
       refine WL.nil ?_
       refine WE.then_n ?_
       refine WC.cond_f rfl ?_
       refine WC.seq ?_
       refine WC.region ?_
       refine WL.val (v_move rfl rfl) (.none rfl) rfl rfl ?_
       refine WL.val (v_nilCheck rfl rfl) (.none rfl) rfl rfl ?_
       refine WL.val (v_fieldAddr0 rfl rfl fld_43_3) (.none rfl) rfl rfl ?_
       refine WL.val (v_load1 rfl rfl one_34 (cellAt rfl)) (.none rfl) rfl rfl ?_
       refine WL.test (v_eql rfl rfl rfl) (.none rfl) rfl rfl (fun h66 => ?_) (fun h66 => ?_)
       ·
        refine WL.val (v_assign rfl rfl) (.none rfl) rfl rfl ?_
        refine WL.nil ?_
        refine WE.then_n ?_
        refine WC.cond_t rfl ?_
        refine WC.seq ?_
        refine WC.region ?_
        refine WL.val (v_build rfl rfl zero_25 plc_25 rfl) (.none rfl) rfl rfl ?_
        refine WL.storeW rfl rfl rfl rfl many_25 rfl rfl (.none rfl) rfl ?_
        refine WL.nil ?_
        refine WE.then_n ?_
        refine WC.ret ?_
        refine WE.block_ret ?_
        refine WE.then_ret ?_
        refine WE.ret1 (P := Tryd.prog) (.inl rfl) Tryd.results41 (resRow rfl many_25 rfl) ?_
        have e0 : openR xs = .inr (3, ⟨#[]⟩) := (by unfold openR; rw [if_neg h38, if_neg (show ¬ asnB xs = 0 from h45), if_neg (show ¬ (holdB xs = 1 ∨ holdB xs = 2) from fun h => h.elim h52 h58), if_pos (show idB xs = 0 from h66)])
        exact fun w' h => ⟨false, 3, _, none, 0, [], [], [], rfl, h.sub (.cons _ (.refl _)), Vec.nil 2, (fun _ h => by cases h), fun _ => e0, fun e => by cases e⟩
       ·
        refine WL.val (v_assign rfl rfl) (.none rfl) rfl rfl ?_
        refine WL.nil ?_
        refine WE.then_n ?_
        refine WC.cond_f rfl ?_
        refine WC.seq ?_
        refine WC.region ?_
        refine WL.val (v_move rfl rfl) (.none rfl) rfl rfl ?_
        refine WL.val (v_indexAddr (lo := 9) rfl rfl rfl Tryd.underlying22 sz_5 rfl (by omega)) (.none rfl) rfl rfl ?_
        refine WL.val (v_load1 rfl rfl one_5 (cellOld (fun h => h) (hW.get (fOf_get (by omega))))) (.none rfl) rfl rfl ?_
        refine WL.val (v_conv rfl rfl Tryd.underlying3 Tryd.underlying5 (w_i64 (by omega) (by omega))) (.none rfl) rfl rfl ?_
        refine WL.val (v_move rfl rfl) (.none rfl) rfl rfl ?_
        refine WL.val (v_len_slice rfl rfl Tryd.underlying22) (.none rfl) rfl rfl ?_
        refine WL.test (v_neq rfl rfl rfl) (.none rfl) rfl rfl (fun h75 => ?_) (fun h75 => ?_)
        ·
         refine WL.val (v_assign rfl rfl) (.none rfl) rfl rfl ?_
         refine WL.nil ?_
         refine WE.then_n ?_
         refine WC.cond_t rfl ?_
         refine WC.seq ?_
         refine WC.region ?_
         refine WL.val (v_build rfl rfl zero_25 plc_25 rfl) (.none rfl) rfl rfl ?_
         refine WL.storeW rfl rfl rfl rfl many_25 rfl rfl (.none rfl) rfl ?_
         refine WL.nil ?_
         refine WE.then_n ?_
         refine WC.ret ?_
         refine WE.block_ret ?_
         refine WE.then_ret ?_
         refine WE.ret1 (P := Tryd.prog) (.inl rfl) Tryd.results41 (resRow rfl many_25 rfl) ?_
         have e0 : openR xs = .inr (0, ⟨#[]⟩) := (by unfold openR; rw [if_neg h38, if_neg (show ¬ asnB xs = 0 from h45), if_neg (show ¬ (holdB xs = 1 ∨ holdB xs = 2) from fun h => h.elim h52 h58), if_neg (show ¬ idB xs = 0 from h66), if_pos h75])
         exact fun w' h => ⟨false, 0, _, none, 0, [], [], [], rfl, h.sub (.cons _ (.refl _)), Vec.nil 2, (fun _ h => by cases h), fun _ => e0, fun e => by cases e⟩
        ·
         refine WL.val (v_assign rfl rfl) (.none rfl) rfl rfl ?_
         refine WL.nil ?_
         refine WE.then_n ?_
         refine WC.cond_f rfl ?_
         refine WC.skip ?_
         refine WE.block_n ?_
         exact WE.mid () (by unfold openR; rw [if_neg h38, if_neg (show ¬ asnB xs = 0 from h45), if_neg (show ¬ (holdB xs = 1 ∨ holdB xs = 2) from fun h => h.elim h52 h58), if_neg (show ¬ idB xs = 0 from h66), if_neg h75]; try (cases optsR [] (xs.drop 10) <;> rfl)) (.cons rfl (.cons rfl (.cons rfl .nil))) (.refl _)
  ·
   intro _ hop
   refine WC.seq ?_
   refine WC.block ?_
   refine WC.loop (fun x : CapS => [(0, .pointer (some ⟨gm, 0, none⟩)), (4, .pointer (some ⟨g4, 0, none⟩)), (5, .slice (some ⟨b, x.o, none⟩) x.ys.length x.c)]) (fun x => x.E ++ (.row g4 (fltL 0 0 ⟨#[]⟩) :: .row gm (MsL.opened k xs x.ad x.kc x.cs).cells :: (x.KO ++ L))) (fun x => x.cs.length + x.ys.length ≤ xs.length ∧ Win w0 b x.o x.c x.ys ∧ optsR [] (xs.drop 10) = optsR (x.cs.map capD) x.ys ∧ Vec 2 x.ad x.cs.length x.kc (capsL x.cs) x.E ∧ ∀ c ∈ x.cs, CapOwn x.KO c) (fun x => x.ys.length) ⟨xs.drop 10, sAddr o 10 c 1, c - 10, [], none, 0, [], []⟩ ⟨by simp, hW.drop 10, rfl, Vec.nil 2, fun _ h => by cases h⟩ (.cons rfl (.cons rfl (.cons rfl .nil))) (.refl _) ?_
   rintro ⟨ys, o2, c2, cs, ad, kc, E, KO⟩ ⟨hl, hW2, hy, hV, hO⟩
   dsimp only at hl hW2 hy hV hO
   dsimp only
   refine WC.seq ?_
   refine WC.seq ?_
   refine WC.region ?_
   refine WL.val (v_move rfl rfl) (.none rfl) rfl rfl ?_
   refine WL.val (v_len_slice rfl rfl Tryd.underlying22) (.none rfl) rfl rfl ?_
   refine WL.test (v_gtr rfl rfl rfl) (.none rfl) rfl rfl (fun h79 => ?_) (fun h79 => ?_)
   ·
    refine WL.nil ?_
    refine WE.then_n ?_
    refine WC.cond_t rfl ?_
    refine WC.skip ?_
    refine WE.then_n ?_
    refine WC.block ?_
    refine WC.seq ?_
    refine WC.region ?_
    refine WL.val (v_move rfl rfl) (.none rfl) rfl rfl ?_
    refine WL.call rfl rfl ck_59 (.none rfl) rfl rfl ?_
    intro w1 hS
    refine (part_u w1 b o2 c2 ys (hW2.st hS) (by omega)).mono ?_
    rintro e w' ⟨x, u, r, ok, rfl, hF, hbad, hok⟩
    refine ⟨_, _, rfl, hS.ext hF, ?_⟩
    refine WL.val (v_move rfl rfl) (.none rfl) rfl rfl ?_
    refine WL.val (v_extract rfl rfl rfl) (.none rfl) rfl rfl ?_
    refine WL.val (v_extract rfl rfl rfl) (.none rfl) rfl rfl ?_
    refine WL.val (v_extract rfl rfl rfl) (.none rfl) rfl rfl ?_
    refine WL.val (v_extract rfl rfl rfl) (.none rfl) rfl rfl ?_
    refine WL.val (v_assign rfl rfl) (.none rfl) rfl rfl ?_
    refine WL.val (v_assign rfl rfl) (.none rfl) rfl rfl ?_
    refine WL.val (v_assign rfl rfl) (.none rfl) rfl rfl ?_
    refine WL.val (v_assign rfl rfl) (.none rfl) rfl rfl ?_
    refine WL.nil ?_
    refine WE.then_n ?_
    refine WC.seq ?_
    refine WC.seq ?_
    refine WC.region ?_
    refine WL.val (v_move rfl rfl) (.none rfl) rfl rfl ?_
    skip
    cases ok
    ·
     refine WL.val (v_not rfl rfl rfl) (.none rfl) rfl rfl ?_
     refine WL.nil ?_
     refine WE.then_n ?_
     refine WC.cond_t rfl ?_
     refine WC.seq ?_
     refine WC.region ?_
     refine WL.val (v_build rfl rfl zero_25 plc_25 rfl) (.none rfl) rfl rfl ?_
     refine WL.storeW rfl rfl rfl rfl many_25 rfl rfl (.none rfl) rfl ?_
     refine WL.nil ?_
     refine WE.then_n ?_
     refine WC.ret ?_
     refine WE.then_ret ?_
     refine WE.block_ret ?_
     refine WE.then_ret ?_
     refine WE.block_ret ?_
     refine WE.then_ret ?_
     refine WE.ret1 (P := Tryd.prog) (.inl rfl) Tryd.results41 (resRow rfl many_25 rfl) ?_
     have e0 : openR xs = .inr (0, ⟨#[]⟩) := (by rw [hop, hy, optsR_bad _ (by omega) (hbad rfl)])
     exact fun w' h => ⟨false, 0, _, ad, kc, cs, E, KO, rfl, by
       have := St.front (R := [.row gm (MsL.opened k xs ad kc cs).cells]) (L := KO ++ L) E (h.sub (List.Sublist.append_left (.cons _ (.refl _)) _))
       exact this, hV, hO, fun _ => e0, fun e => by cases e⟩
    ·
     refine WL.val (v_not rfl rfl rfl) (.none rfl) rfl rfl ?_
     refine WL.nil ?_
     refine WE.then_n ?_
     refine WC.cond_f rfl ?_
     refine WC.skip ?_
     refine WE.then_n ?_
     refine WC.seq ?_
     refine WC.seq ?_
     refine WC.region ?_
     obtain ⟨n, zs, rfl, hnz, rfl, rfl⟩ := hok rfl
     have hcl : (x :: (n : Int) :: zs).length = zs.length + 2 := rfl
     rw [optsR_cons, Int.toNat_natCast, if_neg (by omega)] at hy
     have htl : (zs.take n).length = n := (by rw [List.length_take]; omega)
     have hdl : (zs.drop n).length = zs.length - n := (by rw [List.length_drop])
     refine WL.val (v_move rfl rfl) (.none rfl) rfl rfl ?_
     refine WL.test (v_neq rfl rfl rfl) (.none rfl) rfl rfl (fun h91 => ?_) (fun h91 => ?_)
     ·
      refine WL.nil ?_
      refine WE.then_n ?_
      refine WC.cond_t rfl ?_
      refine WC.seq ?_
      refine WC.region ?_
      refine WL.val (v_build rfl rfl zero_25 plc_25 rfl) (.none rfl) rfl rfl ?_
      refine WL.storeW rfl rfl rfl rfl many_25 rfl rfl (.none rfl) rfl ?_
      refine WL.nil ?_
      refine WE.then_n ?_
      refine WC.ret ?_
      refine WE.then_ret ?_
      refine WE.block_ret ?_
      refine WE.then_ret ?_
      refine WE.block_ret ?_
      refine WE.then_ret ?_
      refine WE.ret1 (P := Tryd.prog) (.inl rfl) Tryd.results41 (resRow rfl many_25 rfl) ?_
      have e0 : openR xs = .inr (4, ⟨#[]⟩) := (by rw [hop, hy, if_pos h91])
      exact fun w' h => ⟨false, 4, _, ad, kc, cs, E, KO, rfl, by
        have := St.front (R := [.row gm (MsL.opened k xs ad kc cs).cells]) (L := KO ++ L) E (h.sub (List.Sublist.append_left (.cons _ (.refl _)) _))
        exact this, hV, hO, fun _ => e0, fun e => by cases e⟩
     ·
      refine WL.nil ?_
      refine WE.then_n ?_
      refine WC.cond_f rfl ?_
      refine WC.skip ?_
      refine WE.then_n ?_
      refine WC.seq ?_
      refine WC.block ?_
      refine WC.loop (fun y : CapS => [(0, .pointer (some ⟨gm, 0, none⟩)), (4, .pointer (some ⟨g4, 0, none⟩)), (7, .slice (some ⟨b, y.o, none⟩) y.ys.length y.c), (8, .slice (some ⟨b, sAddr o2 (2 + n) c2 1, none⟩) (zs.drop n).length (c2 - (2 + n)))]) (fun y => y.E ++ (.row g4 (fltL 0 0 ⟨#[]⟩) :: .row gm (MsL.opened k xs y.ad y.kc y.cs).cells :: (y.KO ++ L))) (fun y => y.cs.length + y.ys.length + (zs.drop n).length ≤ xs.length ∧ Win w0 b y.o y.c y.ys ∧ capsR (cs.map capD) (zs.take n) = capsR (y.cs.map capD) y.ys ∧ Vec 2 y.ad y.cs.length y.kc (capsL y.cs) y.E ∧ ∀ c ∈ y.cs, CapOwn y.KO c) (fun y => y.ys.length) ⟨zs.take n, sAddr o2 2 c2 1, c2 - 2, cs, ad, kc, E, KO⟩ ⟨by dsimp only; omega, by
      have h1 := (hW2.take (2 + n)).drop 2
      rwa [show ((x :: (n : Int) :: zs).take (2 + n)).drop 2 = zs.take n by rw [show 2 + n = n + 1 + 1 by omega]; rfl] at h1, rfl, hV, hO⟩ (.cons rfl (.cons rfl (.cons rfl (.cons rfl .nil)))) (.refl _) ?_
      rintro ⟨vs, o3, c3, ds, ad2, kc2, E2, KO2⟩ ⟨hl3, hW3, hy3, hV3, hO3⟩
      dsimp only at hl3 hW3 hy3 hV3 hO3
      dsimp only
      refine WC.seq ?_
      refine WC.seq ?_
      refine WC.region ?_
      refine WL.val (v_move rfl rfl) (.none rfl) rfl rfl ?_
      refine WL.val (v_len_slice rfl rfl Tryd.underlying22) (.none rfl) rfl rfl ?_
      refine WL.test (v_gtr rfl rfl rfl) (.none rfl) rfl rfl (fun h95 => ?_) (fun h95 => ?_)
      ·
       refine WL.nil ?_
       refine WE.then_n ?_
       refine WC.cond_t rfl ?_
       refine WC.skip ?_
       refine WE.then_n ?_
       refine WC.block ?_
       refine WC.seq ?_
       refine WC.region ?_
       refine WL.val (v_move rfl rfl) (.none rfl) rfl rfl ?_
       refine WL.call rfl rfl ck_59 (.none rfl) rfl rfl ?_
       intro w1 hS
       refine (part_u w1 b o3 c3 vs (hW3.st hS) (by omega)).mono ?_
       rintro e w' ⟨x3, u3, r3, ok3, rfl, hF3, hbad3, hok3⟩
       refine ⟨_, _, rfl, hS.ext hF3, ?_⟩
       refine WL.val (v_move rfl rfl) (.none rfl) rfl rfl ?_
       refine WL.val (v_extract rfl rfl rfl) (.none rfl) rfl rfl ?_
       refine WL.val (v_extract rfl rfl rfl) (.none rfl) rfl rfl ?_
       refine WL.val (v_extract rfl rfl rfl) (.none rfl) rfl rfl ?_
       refine WL.val (v_extract rfl rfl rfl) (.none rfl) rfl rfl ?_
       refine WL.val (v_assign rfl rfl) (.none rfl) rfl rfl ?_
       refine WL.val (v_assign rfl rfl) (.none rfl) rfl rfl ?_
       refine WL.val (v_assign rfl rfl) (.none rfl) rfl rfl ?_
       refine WL.val (v_assign rfl rfl) (.none rfl) rfl rfl ?_
       refine WL.nil ?_
       refine WE.then_n ?_
       refine WC.seq ?_
       refine WC.seq ?_
       refine WC.region ?_
       refine WL.val (v_move rfl rfl) (.none rfl) rfl rfl ?_
       skip
       cases ok3
       ·
        refine WL.val (v_not rfl rfl rfl) (.none rfl) rfl rfl ?_
        refine WL.nil ?_
        refine WE.then_n ?_
        refine WC.cond_t rfl ?_
        refine WC.seq ?_
        refine WC.region ?_
        refine WL.val (v_build rfl rfl zero_25 plc_25 rfl) (.none rfl) rfl rfl ?_
        refine WL.storeW rfl rfl rfl rfl many_25 rfl rfl (.none rfl) rfl ?_
        refine WL.nil ?_
        refine WE.then_n ?_
        refine WC.ret ?_
        refine WE.then_ret ?_
        refine WE.block_ret ?_
        refine WE.then_ret ?_
        refine WE.block_ret ?_
        refine WE.then_ret ?_
        refine WE.block_ret ?_
        refine WE.then_ret ?_
        refine WE.block_ret ?_
        refine WE.then_ret ?_
        refine WE.ret1 (P := Tryd.prog) (.inl rfl) Tryd.results41 (resRow rfl many_25 rfl) ?_
        have e0 : openR xs = .inr (0, ⟨#[]⟩) := (by rw [hop, hy, if_neg (by omega), hy3, capsR_bad _ (by omega) (hbad3 rfl)])
        exact fun w' h => ⟨false, 0, _, ad2, kc2, ds, E2, KO2, rfl, by
          have := St.front (R := [.row gm (MsL.opened k xs ad2 kc2 ds).cells]) (L := KO2 ++ L) E2 (h.sub (List.Sublist.append_left (.cons _ (.refl _)) _))
          exact this, hV3, hO3, fun _ => e0, fun e => by cases e⟩
       ·
        refine WL.val (v_not rfl rfl rfl) (.none rfl) rfl rfl ?_
        refine WL.nil ?_
        refine WE.then_n ?_
        refine WC.cond_f rfl ?_
        refine WC.skip ?_
        refine WE.then_n ?_
        refine WC.seq ?_
        refine WC.orders mixed ?_
        refine WR.first (g := 8) [0, 1, 2, 3, 5, 6] (by kernel_rfl) (by kernel_rfl) ?_
        obtain ⟨n3, zs3, rfl, hnz3, rfl, rfl⟩ := hok3 rfl
        have hcl3 : (x3 :: (n3 : Int) :: zs3).length = zs3.length + 2 := rfl
        rw [capsR_cons, Int.toNat_natCast, if_neg (by omega)] at hy3
        have htl3 : (zs3.take n3).length = n3 := (by rw [List.length_take]; omega)
        have hdl3 : (zs3.drop n3).length = zs3.length - n3 := (by rw [List.length_drop])
        have hx3 := hW3.bys x3 (List.mem_cons_self ..)
        have hWv : Win w0 b (sAddr o3 2 c3 1) (c3 - 2) (zs3.take n3) := (by
          have h1 := (hW3.take (2 + n3)).drop 2
          rwa [show ((x3 :: (n3 : Int) :: zs3).take (2 + n3)).drop 2 = zs3.take n3 by rw [show 2 + n3 = n3 + 1 + 1 by omega]; rfl] at h1)
        refine WP.val (v_move rfl rfl) (.none rfl) rfl rfl ?_
        refine WP.val (v_move rfl rfl) (.none rfl) rfl rfl ?_
        refine WP.val (v_nilCheck rfl rfl) (.none rfl) rfl rfl ?_
        refine WP.val (v_fieldAddr0 rfl rfl fld_43_4) (.none rfl) rfl rfl ?_
        refine WP.val (v_move rfl rfl) (.none rfl) rfl rfl ?_
        refine WP.val (v_move rfl rfl) (.none rfl) rfl rfl ?_
        refine WP.nil ?_
        refine WR.each (g := 7) [4, 7] (by kernel_rfl) (by decide) ?_
        refine ⟨?_, ?_⟩
        ·
         refine WL.val (v_load1 rfl rfl one_35 (cellAt (v := .slice ad2 ds.length kc2) rfl)) (.none rfl) rfl rfl ?_
         refine WL.nilR ?_
         refine WR.ones (g := 6) [7] (by kernel_rfl) ?_
         refine WL.call rfl rfl ck_57 (.none rfl) rfl rfl ?_
         intro w1 hS
         refine (CloneB_c w1 b (sAddr o3 2 c3 1) (c3 - 2) (zs3.take n3) (hWv.st hS) (by omega)).mono ?_
         rintro e w' ⟨_, rfl, ad113, c113, E113, rfl, hV113, hS'⟩
         refine ⟨_, _, rfl, hS.join hS', ?_⟩
         refine WL.nilR ?_
         refine WR.first (g := 5) [8] (by kernel_rfl) (by kernel_rfl) ?_
         refine WP.val (v_build rfl rfl zero_109 plc_109 rfl) (.none rfl) rfl rfl ?_
         refine WP.nil ?_
         refine WR.ones (g := 3) [9, 10] (by kernel_rfl) ?_
         refine WL.buildSlice rfl rfl Tryd.underlying35 sz_109 zero_109 rfl (by decide) rfl (.none rfl) rfl rfl ?_
         intro g115 hg115
         refine WL.as (L' := .row g115 (CapL.cells ⟨x3, ad113, c113, zs3.take n3⟩) :: (E113 ++ (E2 ++ (.row g4 (fltL 0 0 ⟨#[]⟩) :: .row gm (MsL.opened k xs ad2 kc2 ds).cells :: (KO2 ++ L))))) rfl ?_
         refine WL.to (L' := E2 ++ (.row g115 (CapL.cells ⟨x3, ad113, c113, zs3.take n3⟩) :: (E113 ++ (.row g4 (fltL 0 0 ⟨#[]⟩) :: .row gm (MsL.opened k xs ad2 kc2 ds).cells :: (KO2 ++ L))))) (fun w hS => by
           have := St.front (R := E2) (L := .row g4 (fltL 0 0 ⟨#[]⟩) :: .row gm (MsL.opened k xs ad2 kc2 ds).cells :: (KO2 ++ L)) (.row g115 (CapL.cells ⟨x3, ad113, c113, zs3.take n3⟩) :: E113) (by simpa only [List.cons_append, List.append_assoc, List.nil_append] using hS)
           simpa only [List.cons_append, List.append_assoc, List.nil_append] using this) ?_
         refine WL.appendL rfl rfl rfl Tryd.underlying35 Tryd.underlying35 sz_109 by_109 zero_109 rfl rfl hV3 (new := CapL.cells ⟨x3, ad113, c113, zs3.take n3⟩) (fun _ => ⟨g115, 0, rfl, fun w hS => allAt (g := g115) w hS⟩) rfl rfl (by omega) (.none rfl) rfl rfl ?_
         intro ad116 c116 E116 hV116 hr116
         rw [← capsL_snoc] at hV116
         rw [show ds.length + 1 = (ds ++ [(⟨x3, ad113, c113, zs3.take n3⟩ : CapL)]).length by rw [List.length_append]; rfl] at hV116 ⊢
         refine WL.nilR ?_
         refine WR.first (g := 1) [11, 12] (by kernel_rfl) (by kernel_rfl) ?_
         refine WP.val (v_nilCheck rfl rfl) (.none rfl) rfl rfl ?_
         refine WP.val (v_fieldAddr0 rfl rfl fld_43_4) (.none rfl) rfl rfl ?_
         refine WP.nil ?_
         refine WR.ones (g := 0) [13] (by kernel_rfl) ?_
         refine WL.store1 rfl rfl rfl rfl one_35 (Nat.le_of_ble_eq_true rfl) (.none rfl) rfl ?_
         refine WL.as (L' := E116 ++ (.row g115 (CapL.cells ⟨x3, ad113, c113, zs3.take n3⟩) :: (E113 ++ (.row g4 (fltL 0 0 ⟨#[]⟩) :: .row gm (MsL.opened k xs ad116 c116 (ds ++ [⟨x3, ad113, c113, zs3.take n3⟩])).cells :: (KO2 ++ L))))) rfl ?_
         refine WL.to (L' := E116 ++ (.row g4 (fltL 0 0 ⟨#[]⟩) :: .row gm (MsL.opened k xs ad116 c116 (ds ++ [⟨x3, ad113, c113, zs3.take n3⟩])).cells :: ((E113 ++ KO2) ++ L))) (fun w hS => by
           have h1 : St (fun _ => False) w0 w (E116 ++ (E113 ++ (.row g4 (fltL 0 0 ⟨#[]⟩) :: .row gm (MsL.opened k xs ad116 c116 (ds ++ [⟨x3, ad113, c113, zs3.take n3⟩])).cells :: (KO2 ++ L)))) := hS.sub (List.Sublist.append_left (.cons _ (.refl _)) _)
           refine h1.perm (List.Perm.append_left E116 ?_)
           have := List.perm_append_comm_assoc E113 [.row g4 (fltL 0 0 ⟨#[]⟩), .row gm (MsL.opened k xs ad116 c116 (ds ++ [⟨x3, ad113, c113, zs3.take n3⟩])).cells] (KO2 ++ L)
           simpa only [List.cons_append, List.append_assoc, List.nil_append] using this.symm) ?_
         refine WL.nilR ?_
         refine WR.done (by kernel_rfl) ?_
         refine WE.then_n ?_
         refine WC.region ?_
         refine WL.val (v_move rfl rfl) (.none rfl) rfl rfl ?_
         refine WL.val (v_assign rfl rfl) (.none rfl) rfl rfl ?_
         refine WL.nil ?_
         refine WE.block_n ?_
         exact WE.next ⟨zs3.drop n3, sAddr o3 (2 + n3) c3 1, c3 - (2 + n3), ds ++ [⟨x3, ad113, c113, zs3.take n3⟩], ad116, c116, E116, E113 ++ KO2⟩ (by dsimp only; omega) ⟨by dsimp only; rw [List.length_append, List.length_cons, List.length_nil]; omega, by
         have h1 := hW3.drop (2 + n3)
         rwa [show (x3 :: (n3 : Int) :: zs3).drop (2 + n3) = zs3.drop n3 by rw [show 2 + n3 = n3 + 1 + 1 by omega]; rfl] at h1, by dsimp only; rw [hy3, List.map_append]; rfl, hV116, fun c hc => by
         rcases List.mem_append.1 hc with hc | hc
         · obtain ⟨E', r1, r2⟩ := hO3 c hc
           exact ⟨E', r1, fun e he => List.mem_append_right _ (r2 e he)⟩
         · rcases List.mem_cons.1 hc with rfl | hc
           · exact ⟨E113, hV113, fun e he => List.mem_append_left _ he⟩
           · cases hc⟩ (.cons rfl (.cons rfl (.cons rfl (.cons rfl .nil)))) (.refl _)
        ·
         refine WL.call rfl rfl ck_57 (.none rfl) rfl rfl ?_
         intro w1 hS
         refine (CloneB_c w1 b (sAddr o3 2 c3 1) (c3 - 2) (zs3.take n3) (hWv.st hS) (by omega)).mono ?_
         rintro e w' ⟨_, rfl, ad113, c113, E113, rfl, hV113, hS'⟩
         refine ⟨_, _, rfl, hS.join hS', ?_⟩
         refine WL.nilR ?_
         refine WR.first (g := 6) [8] (by kernel_rfl) (by kernel_rfl) ?_
         refine WP.val (v_build rfl rfl zero_109 plc_109 rfl) (.none rfl) rfl rfl ?_
         refine WP.nil ?_
         refine WR.each (g := 5) [4, 9] (by kernel_rfl) (by decide) ?_
         refine ⟨?_, ?_⟩
         ·
          refine WL.val (v_load1 rfl rfl one_35 (cellAt (v := .slice ad2 ds.length kc2) rfl)) (.none rfl) rfl rfl ?_
          refine WL.nilR ?_
          refine WR.ones (g := 3) [9, 10] (by kernel_rfl) ?_
          refine WL.buildSlice rfl rfl Tryd.underlying35 sz_109 zero_109 rfl (by decide) rfl (.none rfl) rfl rfl ?_
          intro g115 hg115
          refine WL.as (L' := .row g115 (CapL.cells ⟨x3, ad113, c113, zs3.take n3⟩) :: (E113 ++ (E2 ++ (.row g4 (fltL 0 0 ⟨#[]⟩) :: .row gm (MsL.opened k xs ad2 kc2 ds).cells :: (KO2 ++ L))))) rfl ?_
          refine WL.to (L' := E2 ++ (.row g115 (CapL.cells ⟨x3, ad113, c113, zs3.take n3⟩) :: (E113 ++ (.row g4 (fltL 0 0 ⟨#[]⟩) :: .row gm (MsL.opened k xs ad2 kc2 ds).cells :: (KO2 ++ L))))) (fun w hS => by
            have := St.front (R := E2) (L := .row g4 (fltL 0 0 ⟨#[]⟩) :: .row gm (MsL.opened k xs ad2 kc2 ds).cells :: (KO2 ++ L)) (.row g115 (CapL.cells ⟨x3, ad113, c113, zs3.take n3⟩) :: E113) (by simpa only [List.cons_append, List.append_assoc, List.nil_append] using hS)
            simpa only [List.cons_append, List.append_assoc, List.nil_append] using this) ?_
          refine WL.appendL rfl rfl rfl Tryd.underlying35 Tryd.underlying35 sz_109 by_109 zero_109 rfl rfl hV3 (new := CapL.cells ⟨x3, ad113, c113, zs3.take n3⟩) (fun _ => ⟨g115, 0, rfl, fun w hS => allAt (g := g115) w hS⟩) rfl rfl (by omega) (.none rfl) rfl rfl ?_
          intro ad116 c116 E116 hV116 hr116
          rw [← capsL_snoc] at hV116
          rw [show ds.length + 1 = (ds ++ [(⟨x3, ad113, c113, zs3.take n3⟩ : CapL)]).length by rw [List.length_append]; rfl] at hV116 ⊢
          refine WL.nilR ?_
          refine WR.first (g := 1) [11, 12] (by kernel_rfl) (by kernel_rfl) ?_
          refine WP.val (v_nilCheck rfl rfl) (.none rfl) rfl rfl ?_
          refine WP.val (v_fieldAddr0 rfl rfl fld_43_4) (.none rfl) rfl rfl ?_
          refine WP.nil ?_
          refine WR.ones (g := 0) [13] (by kernel_rfl) ?_
          refine WL.store1 rfl rfl rfl rfl one_35 (Nat.le_of_ble_eq_true rfl) (.none rfl) rfl ?_
          refine WL.as (L' := E116 ++ (.row g115 (CapL.cells ⟨x3, ad113, c113, zs3.take n3⟩) :: (E113 ++ (.row g4 (fltL 0 0 ⟨#[]⟩) :: .row gm (MsL.opened k xs ad116 c116 (ds ++ [⟨x3, ad113, c113, zs3.take n3⟩])).cells :: (KO2 ++ L))))) rfl ?_
          refine WL.to (L' := E116 ++ (.row g4 (fltL 0 0 ⟨#[]⟩) :: .row gm (MsL.opened k xs ad116 c116 (ds ++ [⟨x3, ad113, c113, zs3.take n3⟩])).cells :: ((E113 ++ KO2) ++ L))) (fun w hS => by
            have h1 : St (fun _ => False) w0 w (E116 ++ (E113 ++ (.row g4 (fltL 0 0 ⟨#[]⟩) :: .row gm (MsL.opened k xs ad116 c116 (ds ++ [⟨x3, ad113, c113, zs3.take n3⟩])).cells :: (KO2 ++ L)))) := hS.sub (List.Sublist.append_left (.cons _ (.refl _)) _)
            refine h1.perm (List.Perm.append_left E116 ?_)
            have := List.perm_append_comm_assoc E113 [.row g4 (fltL 0 0 ⟨#[]⟩), .row gm (MsL.opened k xs ad116 c116 (ds ++ [⟨x3, ad113, c113, zs3.take n3⟩])).cells] (KO2 ++ L)
            simpa only [List.cons_append, List.append_assoc, List.nil_append] using this.symm) ?_
          refine WL.nilR ?_
          refine WR.done (by kernel_rfl) ?_
          refine WE.then_n ?_
          refine WC.region ?_
          refine WL.val (v_move rfl rfl) (.none rfl) rfl rfl ?_
          refine WL.val (v_assign rfl rfl) (.none rfl) rfl rfl ?_
          refine WL.nil ?_
          refine WE.block_n ?_
          exact WE.next ⟨zs3.drop n3, sAddr o3 (2 + n3) c3 1, c3 - (2 + n3), ds ++ [⟨x3, ad113, c113, zs3.take n3⟩], ad116, c116, E116, E113 ++ KO2⟩ (by dsimp only; omega) ⟨by dsimp only; rw [List.length_append, List.length_cons, List.length_nil]; omega, by
          have h1 := hW3.drop (2 + n3)
          rwa [show (x3 :: (n3 : Int) :: zs3).drop (2 + n3) = zs3.drop n3 by rw [show 2 + n3 = n3 + 1 + 1 by omega]; rfl] at h1, by dsimp only; rw [hy3, List.map_append]; rfl, hV116, fun c hc => by
          rcases List.mem_append.1 hc with hc | hc
          · obtain ⟨E', r1, r2⟩ := hO3 c hc
            exact ⟨E', r1, fun e he => List.mem_append_right _ (r2 e he)⟩
          · rcases List.mem_cons.1 hc with rfl | hc
            · exact ⟨E113, hV113, fun e he => List.mem_append_left _ he⟩
            · cases hc⟩ (.cons rfl (.cons rfl (.cons rfl (.cons rfl .nil)))) (.refl _)
         ·
          refine WL.buildSlice rfl rfl Tryd.underlying35 sz_109 zero_109 rfl (by decide) rfl (.none rfl) rfl rfl ?_
          intro g115 hg115
          refine WL.as (L' := .row g115 (CapL.cells ⟨x3, ad113, c113, zs3.take n3⟩) :: (E113 ++ (E2 ++ (.row g4 (fltL 0 0 ⟨#[]⟩) :: .row gm (MsL.opened k xs ad2 kc2 ds).cells :: (KO2 ++ L))))) rfl ?_
          refine WL.to (L' := E2 ++ (.row g115 (CapL.cells ⟨x3, ad113, c113, zs3.take n3⟩) :: (E113 ++ (.row g4 (fltL 0 0 ⟨#[]⟩) :: .row gm (MsL.opened k xs ad2 kc2 ds).cells :: (KO2 ++ L))))) (fun w hS => by
            have := St.front (R := E2) (L := .row g4 (fltL 0 0 ⟨#[]⟩) :: .row gm (MsL.opened k xs ad2 kc2 ds).cells :: (KO2 ++ L)) (.row g115 (CapL.cells ⟨x3, ad113, c113, zs3.take n3⟩) :: E113) (by simpa only [List.cons_append, List.append_assoc, List.nil_append] using hS)
            simpa only [List.cons_append, List.append_assoc, List.nil_append] using this) ?_
          refine WL.nilR ?_
          refine WR.read (g := 4) [4] (by kernel_rfl) (by kernel_rfl) (by kernel_rfl) (by kernel_rfl) rfl ?_
          refine WQ.val (v_load1 rfl rfl one_35 (cellAt (v := .slice ad2 ds.length kc2) rfl)) (.none rfl) rfl rfl ?_
          refine WQ.nilR ?_
          refine WR.ones (g := 3) [10] (by kernel_rfl) ?_
          refine WL.appendL rfl rfl rfl Tryd.underlying35 Tryd.underlying35 sz_109 by_109 zero_109 rfl rfl hV3 (new := CapL.cells ⟨x3, ad113, c113, zs3.take n3⟩) (fun _ => ⟨g115, 0, rfl, fun w hS => allAt (g := g115) w hS⟩) rfl rfl (by omega) (.none rfl) rfl rfl ?_
          intro ad116 c116 E116 hV116 hr116
          rw [← capsL_snoc] at hV116
          rw [show ds.length + 1 = (ds ++ [(⟨x3, ad113, c113, zs3.take n3⟩ : CapL)]).length by rw [List.length_append]; rfl] at hV116 ⊢
          refine WL.nilR ?_
          refine WR.first (g := 1) [11, 12] (by kernel_rfl) (by kernel_rfl) ?_
          refine WP.val (v_nilCheck rfl rfl) (.none rfl) rfl rfl ?_
          refine WP.val (v_fieldAddr0 rfl rfl fld_43_4) (.none rfl) rfl rfl ?_
          refine WP.nil ?_
          refine WR.ones (g := 0) [13] (by kernel_rfl) ?_
          refine WL.store1 rfl rfl rfl rfl one_35 (Nat.le_of_ble_eq_true rfl) (.none rfl) rfl ?_
          refine WL.as (L' := E116 ++ (.row g115 (CapL.cells ⟨x3, ad113, c113, zs3.take n3⟩) :: (E113 ++ (.row g4 (fltL 0 0 ⟨#[]⟩) :: .row gm (MsL.opened k xs ad116 c116 (ds ++ [⟨x3, ad113, c113, zs3.take n3⟩])).cells :: (KO2 ++ L))))) rfl ?_
          refine WL.to (L' := E116 ++ (.row g4 (fltL 0 0 ⟨#[]⟩) :: .row gm (MsL.opened k xs ad116 c116 (ds ++ [⟨x3, ad113, c113, zs3.take n3⟩])).cells :: ((E113 ++ KO2) ++ L))) (fun w hS => by
            have h1 : St (fun _ => False) w0 w (E116 ++ (E113 ++ (.row g4 (fltL 0 0 ⟨#[]⟩) :: .row gm (MsL.opened k xs ad116 c116 (ds ++ [⟨x3, ad113, c113, zs3.take n3⟩])).cells :: (KO2 ++ L)))) := hS.sub (List.Sublist.append_left (.cons _ (.refl _)) _)
            refine h1.perm (List.Perm.append_left E116 ?_)
            have := List.perm_append_comm_assoc E113 [.row g4 (fltL 0 0 ⟨#[]⟩), .row gm (MsL.opened k xs ad116 c116 (ds ++ [⟨x3, ad113, c113, zs3.take n3⟩])).cells] (KO2 ++ L)
            simpa only [List.cons_append, List.append_assoc, List.nil_append] using this.symm) ?_
          refine WL.nilR ?_
          refine WR.done (by kernel_rfl) ?_
          refine WE.then_n ?_
          refine WC.region ?_
          refine WL.val (v_move rfl rfl) (.none rfl) rfl rfl ?_
          refine WL.val (v_assign rfl rfl) (.none rfl) rfl rfl ?_
          refine WL.nil ?_
          refine WE.block_n ?_
          exact WE.next ⟨zs3.drop n3, sAddr o3 (2 + n3) c3 1, c3 - (2 + n3), ds ++ [⟨x3, ad113, c113, zs3.take n3⟩], ad116, c116, E116, E113 ++ KO2⟩ (by dsimp only; omega) ⟨by dsimp only; rw [List.length_append, List.length_cons, List.length_nil]; omega, by
          have h1 := hW3.drop (2 + n3)
          rwa [show (x3 :: (n3 : Int) :: zs3).drop (2 + n3) = zs3.drop n3 by rw [show 2 + n3 = n3 + 1 + 1 by omega]; rfl] at h1, by dsimp only; rw [hy3, List.map_append]; rfl, hV116, fun c hc => by
          rcases List.mem_append.1 hc with hc | hc
          · obtain ⟨E', r1, r2⟩ := hO3 c hc
            exact ⟨E', r1, fun e he => List.mem_append_right _ (r2 e he)⟩
          · rcases List.mem_cons.1 hc with rfl | hc
            · exact ⟨E113, hV113, fun e he => List.mem_append_left _ he⟩
            · cases hc⟩ (.cons rfl (.cons rfl (.cons rfl (.cons rfl .nil)))) (.refl _)
      ·
       refine WL.nil ?_
       refine WE.then_n ?_
       refine WC.cond_f rfl ?_
       refine WC.exit ?_
       refine WE.then_exit ?_
       refine WE.then_exit ?_
       refine WE.block_hit ?_
       refine WE.then_n ?_
       refine WC.region ?_
       refine WL.val (v_move rfl rfl) (.none rfl) rfl rfl ?_
       refine WL.val (v_assign rfl rfl) (.none rfl) rfl rfl ?_
       refine WL.nil ?_
       refine WE.block_n ?_
       obtain rfl : vs = [] := List.length_eq_zero_iff.1 (by omega)
       exact WE.next ⟨zs.drop n, sAddr o2 (2 + n) c2 1, c2 - (2 + n), ds, ad2, kc2, E2, KO2⟩ (by dsimp only; omega) ⟨by dsimp only; simp only [List.length_nil] at hl3; omega, by
         have h1 := hW2.drop (2 + n)
         rwa [show (x :: (n : Int) :: zs).drop (2 + n) = zs.drop n by rw [show 2 + n = n + 1 + 1 by omega]; rfl] at h1, by dsimp only; rw [hy, if_neg h91, hy3, capsR_nil], hV3, hO3⟩ (.cons rfl (.cons rfl (.cons rfl .nil))) (.refl _)
   ·
    refine WL.nil ?_
    refine WE.then_n ?_
    refine WC.cond_f rfl ?_
    refine WC.exit ?_
    refine WE.then_exit ?_
    refine WE.then_exit ?_
    refine WE.block_hit ?_
    refine WE.then_n ?_
    refine WC.seq ?_
    refine WC.region ?_
    refine WL.val (v_build rfl rfl zero_25 plc_25 rfl) (.none rfl) rfl rfl ?_
    refine WL.storeW rfl rfl rfl rfl many_25 rfl rfl (.none rfl) rfl ?_
    refine WL.nil ?_
    refine WE.then_n ?_
    refine WC.ret ?_
    refine WE.ret1 (P := Tryd.prog) (.inl rfl) Tryd.results41 (resRow rfl many_25 rfl) ?_
    obtain rfl : ys = [] := List.length_eq_zero_iff.1 (by omega)
    have e0 : openR xs = .inl (cs.map capD) := (by rw [hop, hy, optsR_nil])
    exact fun w' h => ⟨true, 0, _, ad, kc, cs, E, KO, rfl, by
      have := St.front (R := [.row gm (MsL.opened k xs ad kc cs).cells]) (L := KO ++ L) E (h.sub (List.Sublist.append_left (.cons _ (.refl _)) _))
      exact this, hV, hO, fun e => (by cases e), fun _ => ⟨rfl, rfl, e0⟩⟩
end Go.Proofs.YtpjbofodllhjbaaDoor
/- bgp: what an Update has behind its head. -/
namespace Go.Proofs.YtpjbofodllhjbaaDoor
open Go.RowKit

/-- The bytes behind a length of two bytes, and what is behind them. -/
def countR (xs : List Int) : Option (List Int × List Int) :=
  if xs.length < 2 ∨ (xs.length : Int) < 2 + (fOf xs 0 * 256 + fOf xs 1) then none else some ((xs.drop 2).take (fOf xs 0 * 256 + fOf xs 1).toNat, xs.drop (2 + (fOf xs 0 * 256 + fOf xs 1).toNat))
theorem netsR_len : ∀ (n : Nat) {xs : List Int} {ps : List PfL}, xs.length ≤ n → netsR xs = some ps → ps.length ≤ xs.length
  | _, [], ps, _, h => by rw [netsR] at h; cases h; exact Nat.le_refl _
  | 0, x :: xs, ps, hn, h => by simp at hn
  | n + 1, x :: xs, ps, hn, h => by
    rw [netsR_cons] at h
    split at h
    · cases h
    · obtain ⟨q, hq, rfl⟩ := Option.map_eq_some_iff.1 h
      rw [List.length_cons] at hn
      have := netsR_len n (by rw [List.length_drop]; omega) hq
      rw [List.length_drop] at this
      simp only [List.length_cons]; omega
theorem counted_u (w : World) (b o c : Nat) (xs : List Int) (hW : Win w b o c xs) (hn : xs.length ≤ 1000000) :
    Calls Tryd.prog 60 #[.slice (some ⟨b, o, none⟩) xs.length c] w fun e w' => ∃ (u r : Value) (ok : Bool), e = .returned (.tuple #[u, r, .bool ok]) ∧ Frm (fun _ => False) w w' ∧ (ok = false → countR xs = none) ∧
      (ok = true → ∃ (y z : List Int) (o1 c1 o2 c2 : Nat), countR xs = some (y, z) ∧ y.length ≤ xs.length ∧ z.length ≤ xs.length ∧ u = .slice (some ⟨b, o1, none⟩) y.length c1 ∧ r = .slice (some ⟨b, o2, none⟩) z.length c2 ∧ ∀ w0, Win w0 b o c xs → Win w0 b o1 c1 y ∧ Win w0 b o2 c2 z) := by
  by_cases h : xs.length < 2 ∨ (xs.length : Int) < 2 + (fOf xs 0 * 256 + fOf xs 1)
  · exact (counted_no w b o c xs hW hn h).mono fun e w' ⟨he, hF⟩ => ⟨_, _, false, he, hF, fun _ => by unfold countR; rw [if_pos h], fun e => by cases e⟩
  · have b0 := fOf_b hW.bys 0
    have b1 := fOf_b hW.bys 1
    obtain ⟨k, ek⟩ := Int.eq_ofNat_of_zero_le (show 0 ≤ fOf xs 0 * 256 + fOf xs 1 by omega)
    refine (counted_ok w b o c xs hW hn (by omega) k ek.symm (by omega)).mono fun e w' ⟨he, hF⟩ => ⟨_, _, true, he, hF, fun e => (by cases e), fun _ => ?_⟩
    have hl : ((xs.drop 2).take k).length = k := by rw [List.length_take, List.length_drop]; omega
    refine ⟨(xs.drop 2).take k, xs.drop (2 + k), sAddr o 2 c 1, c - 2, sAddr o (2 + k) c 1, c - (2 + k), by unfold countR; rw [if_neg h, ek, Int.toNat_natCast], by omega, by rw [List.length_drop]; omega, ?_, ?_, fun w0 hW0 => ⟨(hW0.drop 2).take k, hW0.drop (2 + k)⟩⟩
    · unfold winV; rw [hl, Nat.add_sub_cancel_left]
    · unfold winV; rw [List.length_drop]
theorem getNets_u (w0 : World) (b o c : Nat) (xs : List Int) (hW : Win w0 b o c xs) (hn : xs.length ≤ 100000) :
    Calls Tryd.prog 61 #[.slice (some ⟨b, o, none⟩) xs.length c] w0 fun e w' => ∃ (ps : List PfL) (ad : Option Addr) (c' : Nat) (E : List Ent) (ok : Bool), e = .returned (.tuple #[.slice ad ps.length c', .bool ok]) ∧ Vec 2 ad ps.length c' (pfsL ps) E ∧ St (fun _ => False) w0 w' E ∧ (ok = false → netsR xs = none) ∧ (ok = true → netsR xs = some ps) :=
  (getNets_c w0 b o c xs hW hn).mono fun e w' h => by
    unfold NetsP at h
    cases hp : netsR xs with
    | none =>
      rw [hp] at h
      exact ⟨[], none, 0, [], false, h.1, Vec.nil 2, (St.start _ _).ext h.2, fun _ => rfl, fun e => by cases e⟩
    | some ps =>
      rw [hp] at h
      obtain ⟨ad, c', E, he, hV, hS⟩ := h
      exact ⟨ps, ad, c', E, true, he, hV, hS, (fun e => by cases e), fun _ => rfl⟩
theorem AtDecode_u (w0 : World) (b o c : Nat) (xs : List Int) (hG : GF w0) (hZ : GZ w0) (hW : Win w0 b o c xs) (hn : xs.length ≤ 90000) :
    Calls Tryd.prog 62 #[.slice (some ⟨b, o, none⟩) xs.length c] w0 fun e w' => ∃ (ok : Bool) (s : Int) (d : ByteArray) (a : AtL) (K : List Ent), e = .returned (.tuple #[.agg a.cells.toArray, .agg (fltL (if ok then 0 else 3) s d).toArray]) ∧ AtAll K a ∧ St (fun _ => False) w0 w' K ∧
      (ok = false → decD AtL.zero.d [] xs = .inr (s, d)) ∧ (ok = true → s = 0 ∧ d = ⟨#[]⟩ ∧ ∃ dd, decD AtL.zero.d [] xs = .inl dd ∧ a.d = { dd with others := sortO dd.others }) :=
  (AtDecode_c w0 b o c xs hG hZ hW hn).mono fun e w' h => by
    unfold AtDecP at h
    cases hp : decD AtL.zero.d [] xs with
    | inr x =>
      obtain ⟨s, d⟩ := x
      rw [hp] at h
      exact ⟨false, s, d, .zero, [], h.1, ⟨AtOwn.zero, ⟨[], Vec.nil 2, fun _ h => by cases h⟩, fun _ h => by cases h⟩, (St.start _ _).ext h.2, fun _ => rfl, fun e => by cases e⟩
    | inl dd =>
      rw [hp] at h
      obtain ⟨a, K, he, ha, hA, hS⟩ := h
      exact ⟨true, 0, ⟨#[]⟩, a, K, he, hA, hS, (fun e => by cases e), fun _ => ⟨rfl, rfl, dd, rfl, ha⟩⟩
theorem AtAll.mono {K K' : List Ent} {a : AtL} (h : AtAll K a) (hm : ∀ e ∈ K, e ∈ K') : AtAll K' a := by
  obtain ⟨h1, ⟨E, r1, r2⟩, h3⟩ := h
  exact ⟨h1.mono hm, ⟨E, r1, fun e he => hm e (r2 e he)⟩, fun o ho => by obtain ⟨E, q1, q2⟩ := h3 o ho; exact ⟨E, q1, fun e he => hm e (q2 e he)⟩⟩
/-- All that a message holds lies in blocks of K. -/
structure MsAll (K : List Ent) (m : MsL) : Prop where
  caps : ∃ E, Vec 2 m.kad m.caps.length m.kc (capsL m.caps) E ∧ ∀ e ∈ E, e ∈ K
  vals : ∀ c ∈ m.caps, CapOwn K c
  gone : ∃ E, Vec 2 m.gad m.gone.length m.gc (pfsL m.gone) E ∧ ∀ e ∈ E, e ∈ K
  nets : ∃ E, Vec 2 m.nad m.nets.length m.nc (pfsL m.nets) E ∧ ∀ e ∈ E, e ∈ K
  at_ : AtAll K m.atr
theorem AtAll.zero : AtAll [] .zero := ⟨AtOwn.zero, ⟨[], Vec.nil 2, fun _ h => by cases h⟩, fun _ h => by cases h⟩
theorem MsAll.zero (k : Int) : MsAll [] (.zero k) := ⟨⟨[], Vec.nil 2, fun _ h => by cases h⟩, (fun _ h => by cases h), ⟨[], Vec.nil 2, fun _ h => by cases h⟩, ⟨[], Vec.nil 2, fun _ h => by cases h⟩, AtAll.zero⟩
def oneS (x : Int) : ByteArray := str (fun _ => x) 1
/-- The routes of an Update, or what is wrong. -/
def updR (xs : List Int) : (List PfL × AtD × List PfL) ⊕ (Int × Int × ByteArray) :=
  match countR xs with
  | none => .inr (3, 1, ⟨#[]⟩)
  | some (g, r) => match countR r with
    | none => .inr (3, 1, ⟨#[]⟩)
    | some (s, n) => match netsR g with
      | none => .inr (3, 1, ⟨#[]⟩)
      | some gs => match decD AtL.zero.d [] s with
        | .inr (s, d) => .inr (3, s, d)
        | .inl a => match netsR n with
          | none => .inr (3, 10, ⟨#[]⟩)
          | some ns => if 200 < gs.length ∨ 200 < ns.length then .inr (6, 1, ⟨#[]⟩) else if missI a.has ≠ 0 ∧ 0 < ns.length then .inr (3, 3, oneS (missI a.has)) else .inl (gs, { a with others := sortO a.others }, ns)
theorem missI_b (h : Int) : 0 ≤ missI h ∧ missI h ≤ 3 := by unfold missI; split <;> (try split) <;> (try split) <;> omega
def MsL.upd (k : Int) (gad : Option Addr) (gc : Nat) (gone : List PfL) (atr : AtL) (nad : Option Addr) (nc : Nat) (nets : List PfL) : MsL := { MsL.zero k with gad := gad, gc := gc, gone := gone, atr := atr, nad := nad, nc := nc, nets := nets }
def UpdP (w0 w' : World) (gm : Nat) (k : Int) (xs : List Int) (L : List Ent) (e : Ending) : Prop :=
  ∃ (ok : Bool) (c s : Int) (d : ByteArray) (gad : Option Addr) (gc : Nat) (gs : List PfL) (a : AtL) (nad : Option Addr) (nc : Nat) (ns : List PfL) (K : List Ent), e = .returned (.agg (fltL c s d).toArray) ∧ St (fun _ => False) w0 w' (.row gm (MsL.upd k gad gc gs a nad nc ns).cells :: (K ++ L)) ∧ MsAll K (MsL.upd k gad gc gs a nad nc ns) ∧
    (ok = false → c ≠ 0 ∧ updR xs = .inr (c, s, d)) ∧ (ok = true → c = 0 ∧ s = 0 ∧ d = ⟨#[]⟩ ∧ updR xs = .inl (gs, a.d, ns))
set_option maxHeartbeats 4000000 in
theorem readUpdate_c (w0 w1 : World) (gm b o c : Nat) (k : Int) (xs : List Int) (L : List Ent) (hG : GF w0) (hZ : GZ w0) (hW : Win w0 b o c xs) (hn : xs.length ≤ 90000) (hS0 : St (fun _ => False) w0 w1 (.row gm (MsL.zero k).cells :: L)) :
    Calls Tryd.prog 42 #[.pointer (some ⟨gm, 0, none⟩), .slice (some ⟨b, o, none⟩) xs.length c] w1 fun e w' => UpdP w0 w' gm k xs L e := by
  refine enter Tryd.func42 rfl Tryd.ntmps42 rfl hS0 ?_
  refine WC.seq ?_
  refine WC.region ?_
  refine WL.alloc rfl zero_25 (.none rfl) rfl rfl ?_
  intro g4 hg4
  refine WL.nil ?_
  refine WE.then_n ?_
  refine WC.seq ?_
  refine WC.region ?_
  refine WL.val (v_move rfl rfl) (.none rfl) rfl rfl ?_
  refine WL.call rfl rfl ck_60 (.none rfl) rfl rfl ?_
  intro w1 hS
  refine (counted_u w1 b o c xs (hW.st hS) (by omega)).mono ?_
  rintro e w' ⟨u1, r1, ok1, rfl, hF, hbad1, hok1⟩
  refine ⟨_, _, rfl, hS.ext hF, ?_⟩
  refine WL.val (v_move rfl rfl) (.none rfl) rfl rfl ?_
  refine WL.val (v_extract rfl rfl rfl) (.none rfl) rfl rfl ?_
  refine WL.val (v_extract rfl rfl rfl) (.none rfl) rfl rfl ?_
  refine WL.val (v_extract rfl rfl rfl) (.none rfl) rfl rfl ?_
  refine WL.val (v_assign rfl rfl) (.none rfl) rfl rfl ?_
  refine WL.val (v_assign rfl rfl) (.none rfl) rfl rfl ?_
  refine WL.val (v_assign rfl rfl) (.none rfl) rfl rfl ?_
  refine WL.nil ?_
  refine WE.then_n ?_
  refine WC.seq ?_
  refine WC.seq ?_
  refine WC.region ?_
  refine WL.val (v_move rfl rfl) (.none rfl) rfl rfl ?_
  skip
  cases ok1
  ·
   refine WL.val (v_not rfl rfl rfl) (.none rfl) rfl rfl ?_
   refine WL.nil ?_
   refine WE.then_n ?_
   refine WC.cond_t rfl ?_
   refine WC.seq ?_
   refine WC.region ?_
   refine WL.val (v_build rfl rfl zero_25 plc_25 rfl) (.none rfl) rfl rfl ?_
   refine WL.storeW rfl rfl rfl rfl many_25 rfl rfl (.none rfl) rfl ?_
   refine WL.nil ?_
   refine WE.then_n ?_
   refine WC.ret ?_
   refine WE.then_ret ?_
   refine WE.ret1 (P := Tryd.prog) (.inl rfl) Tryd.results42 (resRow rfl many_25 rfl) ?_
   have e0 : updR xs = .inr (3, 1, ⟨#[]⟩) := (by unfold updR; rw [hbad1 rfl])
   exact fun w' h => ⟨false, 3, 1, _, none, 0, [], .zero, none, 0, [], [], rfl, h.sub (.cons _ (.refl _)), MsAll.zero k, fun _ => ⟨by decide, e0⟩, fun e => by cases e⟩
  ·
   refine WL.val (v_not rfl rfl rfl) (.none rfl) rfl rfl ?_
   refine WL.nil ?_
   refine WE.then_n ?_
   refine WC.cond_f rfl ?_
   refine WC.skip ?_
   refine WE.then_n ?_
   refine WC.seq ?_
   refine WC.region ?_
   obtain ⟨xg, xr, o1, c1, o2, c2, ec1, lg, lr, rfl, rfl, hWW⟩ := hok1 rfl
   obtain ⟨hWg, hWr⟩ := hWW w0 hW
   refine WL.val (v_move rfl rfl) (.none rfl) rfl rfl ?_
   refine WL.call rfl rfl ck_60 (.none rfl) rfl rfl ?_
   intro w1 hS
   refine (counted_u w1 b o2 c2 xr (hWr.st hS) (by omega)).mono ?_
   rintro e w' ⟨u2, r2, ok2, rfl, hF2, hbad2, hok2⟩
   refine ⟨_, _, rfl, hS.ext hF2, ?_⟩
   refine WL.val (v_move rfl rfl) (.none rfl) rfl rfl ?_
   refine WL.val (v_extract rfl rfl rfl) (.none rfl) rfl rfl ?_
   refine WL.val (v_extract rfl rfl rfl) (.none rfl) rfl rfl ?_
   refine WL.val (v_extract rfl rfl rfl) (.none rfl) rfl rfl ?_
   refine WL.val (v_assign rfl rfl) (.none rfl) rfl rfl ?_
   refine WL.val (v_assign rfl rfl) (.none rfl) rfl rfl ?_
   refine WL.val (v_assign rfl rfl) (.none rfl) rfl rfl ?_
   refine WL.nil ?_
   refine WE.then_n ?_
   refine WC.seq ?_
   refine WC.seq ?_
   refine WC.region ?_
   refine WL.val (v_move rfl rfl) (.none rfl) rfl rfl ?_
   skip
   cases ok2
   ·
    refine WL.val (v_not rfl rfl rfl) (.none rfl) rfl rfl ?_
    refine WL.nil ?_
    refine WE.then_n ?_
    refine WC.cond_t rfl ?_
    refine WC.seq ?_
    refine WC.region ?_
    refine WL.val (v_build rfl rfl zero_25 plc_25 rfl) (.none rfl) rfl rfl ?_
    refine WL.storeW rfl rfl rfl rfl many_25 rfl rfl (.none rfl) rfl ?_
    refine WL.nil ?_
    refine WE.then_n ?_
    refine WC.ret ?_
    refine WE.then_ret ?_
    refine WE.ret1 (P := Tryd.prog) (.inl rfl) Tryd.results42 (resRow rfl many_25 rfl) ?_
    have e0 : updR xs = .inr (3, 1, ⟨#[]⟩) := (by unfold updR; rw [ec1]; dsimp only; rw [hbad2 rfl])
    exact fun w' h => ⟨false, 3, 1, _, none, 0, [], .zero, none, 0, [], [], rfl, h.sub (.cons _ (.refl _)), MsAll.zero k, fun _ => ⟨by decide, e0⟩, fun e => by cases e⟩
   ·
    refine WL.val (v_not rfl rfl rfl) (.none rfl) rfl rfl ?_
    refine WL.nil ?_
    refine WE.then_n ?_
    refine WC.cond_f rfl ?_
    refine WC.skip ?_
    refine WE.then_n ?_
    refine WC.seq ?_
    refine WC.seq ?_
    refine WC.region ?_
    obtain ⟨xs2, xn, o3, c3, o4, c4, ec2, ls, ln, rfl, rfl, hWW2⟩ := hok2 rfl
    obtain ⟨hWs, hWn⟩ := hWW2 w0 hWr
    refine WL.val (v_move rfl rfl) (.none rfl) rfl rfl ?_
    refine WL.val (v_move rfl rfl) (.none rfl) rfl rfl ?_
    refine WL.call rfl rfl ck_61 (.none rfl) rfl rfl ?_
    intro w1 hS
    refine (getNets_u w1 b o1 c1 xg (hWg.st hS) (by omega)).mono ?_
    rintro e w' ⟨gs, gad, gc, Eg, ok3, rfl, hVg, hSg, hbad3, hok3⟩
    refine ⟨_, _, rfl, hS.join hSg, ?_⟩
    refine WL.val (v_move rfl rfl) (.none rfl) rfl rfl ?_
    refine WL.val (v_extract rfl rfl rfl) (.none rfl) rfl rfl ?_
    refine WL.val (v_extract rfl rfl rfl) (.none rfl) rfl rfl ?_
    refine WL.val (v_nilCheck rfl rfl) (.none rfl) rfl rfl ?_
    refine WL.val (v_fieldAddr0 rfl rfl fld_43_5) (.none rfl) rfl rfl ?_
    refine WL.store1 rfl rfl rfl rfl one_36 (Nat.le_of_ble_eq_true rfl) (.none rfl) rfl ?_
    refine WL.as (L' := Eg ++ (.row g4 (fltL 0 0 ⟨#[]⟩) :: .row gm (MsL.upd k gad gc gs .zero none 0 []).cells :: L)) rfl ?_
    refine WL.val (v_assign rfl rfl) (.none rfl) rfl rfl ?_
    refine WL.nil ?_
    refine WE.then_n ?_
    refine WC.seq ?_
    refine WC.region ?_
    refine WL.val (v_move rfl rfl) (.none rfl) rfl rfl ?_
    skip
    cases ok3
    ·
     refine WL.val (v_not rfl rfl rfl) (.none rfl) rfl rfl ?_
     refine WL.nil ?_
     refine WE.then_n ?_
     refine WC.cond_t rfl ?_
     refine WC.seq ?_
     refine WC.region ?_
     refine WL.val (v_build rfl rfl zero_25 plc_25 rfl) (.none rfl) rfl rfl ?_
     refine WL.storeW rfl rfl rfl rfl many_25 rfl rfl (.none rfl) rfl ?_
     refine WL.nil ?_
     refine WE.then_n ?_
     refine WC.ret ?_
     refine WE.then_ret ?_
     refine WE.ret1 (P := Tryd.prog) (.inl rfl) Tryd.results42 (resRow rfl many_25 rfl) ?_
     have e0 : updR xs = .inr (3, 1, ⟨#[]⟩) := (by unfold updR; rw [ec1]; dsimp only; rw [ec2]; dsimp only; rw [hbad3 rfl])
     exact fun w' h => ⟨false, 3, 1, _, gad, gc, gs, .zero, none, 0, [], Eg, rfl, St.front (R := [.row gm (MsL.upd k gad gc gs .zero none 0 []).cells]) (L := L) Eg (h.sub (List.Sublist.append_left (.cons _ (.refl _)) _)), ⟨⟨[], Vec.nil 2, fun _ h => by cases h⟩, (fun _ h => by cases h), ⟨Eg, hVg, fun _ h => h⟩, ⟨[], Vec.nil 2, fun _ h => by cases h⟩, AtAll.zero.mono fun _ h => by cases h⟩, fun _ => ⟨by decide, e0⟩, fun e => by cases e⟩
    ·
     refine WL.val (v_not rfl rfl rfl) (.none rfl) rfl rfl ?_
     refine WL.nil ?_
     refine WE.then_n ?_
     refine WC.cond_f rfl ?_
     refine WC.skip ?_
     refine WE.then_n ?_
     refine WC.seq ?_
     refine WC.region ?_
     refine WL.val (v_move rfl rfl) (.none rfl) rfl rfl ?_
     refine WL.call rfl rfl ck_62 (.none rfl) rfl rfl ?_
     intro w1 hS
     refine (AtDecode_u w1 b o3 c3 xs2 (hG.keep (fun h => h) hS) (hZ.keep (fun h => h) hS) (hWs.st hS) (by omega)).mono ?_
     rintro e w' ⟨ok4, s4, d4, a, Ka, rfl, hAa, hSa, hbad4, hok4⟩
     refine ⟨_, _, rfl, hS.join hSa, ?_⟩
     refine WL.val (v_move rfl rfl) (.none rfl) rfl rfl ?_
     refine WL.val (v_extract rfl rfl rfl) (.none rfl) rfl rfl ?_
     refine WL.val (v_extract rfl rfl rfl) (.none rfl) rfl rfl ?_
     refine WL.alloc rfl zero_41 (.none rfl) rfl rfl ?_
     intro g9 hg9
     refine WL.alloc rfl zero_25 (.none rfl) rfl rfl ?_
     intro g10 hg10
     refine WL.storeW rfl rfl rfl rfl many_41 rfl rfl (.none rfl) rfl ?_
     refine WL.storeW rfl rfl rfl rfl many_25 rfl rfl (.none rfl) rfl ?_
     refine WL.as (L' := .row g10 (fltL (if ok4 then 0 else 3) s4 d4) :: .row g9 a.cells :: (Ka ++ (Eg ++ (.row g4 (fltL 0 0 ⟨#[]⟩) :: .row gm (MsL.upd k gad gc gs .zero none 0 []).cells :: L)))) rfl ?_
     refine WL.nil ?_
     refine WE.then_n ?_
     refine WC.seq ?_
     refine WC.seq ?_
     refine WC.region ?_
     refine WL.val (v_loadN rfl rfl many_25 rfl allAt) (.none rfl) rfl rfl ?_
     skip
     cases ok4
     ·
      refine WL.val (v_build rfl rfl zero_25 plc_25 rfl) (.none rfl) rfl rfl ?_
      refine WL.val (v_neq_aggT rfl rfl rfl eqk_25 eqg_25 rfl rfl (by (intro h; simp [fltL] at h))) (.none rfl) rfl rfl ?_
      refine WL.nil ?_
      refine WE.then_n ?_
      refine WC.cond_t rfl ?_
      refine WC.seq ?_
      refine WC.region ?_
      refine WL.val (v_loadN rfl rfl many_25 rfl allAt) (.none rfl) rfl rfl ?_
      refine WL.storeW rfl rfl rfl rfl many_25 rfl rfl (.none rfl) rfl ?_
      refine WL.nil ?_
      refine WE.then_n ?_
      refine WC.ret ?_
      refine WE.then_ret ?_
      refine WE.ret1 (P := Tryd.prog) (.inl rfl) Tryd.results42 (resRow rfl many_25 rfl) ?_
      have e0 : updR xs = .inr (3, s4, d4) := (by unfold updR; rw [ec1]; dsimp only; rw [ec2]; dsimp only; rw [hok3 rfl]; dsimp only; rw [hbad4 rfl])
      exact fun w' h => ⟨false, 3, s4, d4, gad, gc, gs, .zero, none, 0, [], Eg, rfl, St.front (R := [.row gm (MsL.upd k gad gc gs .zero none 0 []).cells]) (L := L) Eg (h.sub (.cons _ (.cons _ (List.sublist_append_of_sublist_right (List.Sublist.append_left (.cons _ (.refl _)) _))))), ⟨⟨[], Vec.nil 2, fun _ h => by cases h⟩, (fun _ h => by cases h), ⟨Eg, hVg, fun _ h => h⟩, ⟨[], Vec.nil 2, fun _ h => by cases h⟩, AtAll.zero.mono fun _ h => by cases h⟩, fun _ => ⟨by decide, e0⟩, fun e => by cases e⟩
     ·
      obtain ⟨rfl, rfl, dd, ed, ea⟩ := hok4 rfl
      refine WL.val (v_build rfl rfl zero_25 plc_25 rfl) (.none rfl) rfl rfl ?_
      refine WL.val (v_neq_aggF rfl rfl rfl eqk_25 eqg_25 rfl rfl (by rfl)) (.none rfl) rfl rfl ?_
      refine WL.nil ?_
      refine WE.then_n ?_
      refine WC.cond_f rfl ?_
      refine WC.skip ?_
      refine WE.then_n ?_
      refine WC.seq ?_
      refine WC.region ?_
      refine WL.val (v_move rfl rfl) (.none rfl) rfl rfl ?_
      refine WL.val (v_loadN rfl rfl many_41 rfl allAt) (.none rfl) rfl rfl ?_
      refine WL.val (v_nilCheck rfl rfl) (.none rfl) rfl rfl ?_
      refine WL.val (v_fieldAddr0 rfl rfl fld_43_6) (.none rfl) rfl rfl ?_
      refine WL.storeN rfl rfl rfl rfl many_41 rfl (by first | exact Nat.le_of_ble_eq_true rfl | simp) (.none rfl) rfl ?_
      refine WL.as (L' := .row g10 (fltL 0 0 ⟨#[]⟩) :: .row g9 a.cells :: (Ka ++ (Eg ++ (.row g4 (fltL 0 0 ⟨#[]⟩) :: .row gm (MsL.upd k gad gc gs a none 0 []).cells :: L)))) rfl ?_
      refine WL.nil ?_
      refine WE.then_n ?_
      refine WC.seq ?_
      refine WC.seq ?_
      refine WC.region ?_
      refine WL.val (v_move rfl rfl) (.none rfl) rfl rfl ?_
      refine WL.val (v_move rfl rfl) (.none rfl) rfl rfl ?_
      refine WL.call rfl rfl ck_61 (.none rfl) rfl rfl ?_
      intro w1 hS
      refine (getNets_u w1 b o4 c4 xn (hWn.st hS) (by omega)).mono ?_
      rintro e w' ⟨ns, nad, nc, En, ok5, rfl, hVn, hSn, hbad5, hok5⟩
      refine ⟨_, _, rfl, hS.join hSn, ?_⟩
      refine WL.val (v_move rfl rfl) (.none rfl) rfl rfl ?_
      refine WL.val (v_extract rfl rfl rfl) (.none rfl) rfl rfl ?_
      refine WL.val (v_extract rfl rfl rfl) (.none rfl) rfl rfl ?_
      refine WL.val (v_nilCheck rfl rfl) (.none rfl) rfl rfl ?_
      refine WL.val (v_fieldAddr0 rfl rfl fld_43_7) (.none rfl) rfl rfl ?_
      refine WL.store1 rfl rfl rfl rfl one_36 (Nat.le_of_ble_eq_true rfl) (.none rfl) rfl ?_
      refine WL.as (L' := En ++ (.row g10 (fltL 0 0 ⟨#[]⟩) :: .row g9 a.cells :: (Ka ++ (Eg ++ (.row g4 (fltL 0 0 ⟨#[]⟩) :: .row gm (MsL.upd k gad gc gs a nad nc ns).cells :: L))))) rfl ?_
      refine WL.to (L' := .row g4 (fltL 0 0 ⟨#[]⟩) :: .row gm (MsL.upd k gad gc gs a nad nc ns).cells :: ((En ++ (.row g9 a.cells :: (Ka ++ Eg))) ++ L)) (fun w hS => by
        have := St.front (R := [.row g4 (fltL 0 0 ⟨#[]⟩), .row gm (MsL.upd k gad gc gs a nad nc ns).cells]) (L := L) (En ++ (.row g9 a.cells :: (Ka ++ Eg))) (by
          have h1 := hS.sub (List.Sublist.append_left (List.sublist_cons_self _ _) En)
          simpa only [List.cons_append, List.append_assoc, List.nil_append] using h1)
        exact this) ?_
      refine WL.as (L' := .row g4 (fltL 0 0 ⟨#[]⟩) :: .row gm (MsL.upd k gad gc gs a nad nc ns).cells :: (En ++ (.row g9 a.cells :: (Ka ++ (Eg ++ L))))) (by simp only [List.cons_append, List.append_assoc]) ?_
      refine WL.val (v_assign rfl rfl) (.none rfl) rfl rfl ?_
      refine WL.nil ?_
      refine WE.then_n ?_
      refine WC.seq ?_
      refine WC.region ?_
      skip
      have hAll : MsAll (En ++ (.row g9 a.cells :: (Ka ++ Eg))) (MsL.upd k gad gc gs a nad nc ns) := ⟨⟨[], Vec.nil 2, fun _ h => by cases h⟩, (fun _ h => by cases h), ⟨Eg, hVg, fun e he => List.mem_append_right _ (List.mem_cons_of_mem _ (List.mem_append_right _ he))⟩, ⟨En, hVn, fun e he => List.mem_append_left _ he⟩, hAa.mono fun e he => List.mem_append_right _ (List.mem_cons_of_mem _ (List.mem_append_left _ he))⟩
      have hfin : ∀ w', St (fun _ => False) w0 w' (.row gm (MsL.upd k gad gc gs a nad nc ns).cells :: (En ++ (.row g9 a.cells :: (Ka ++ (Eg ++ L))))) → St (fun _ => False) w0 w' (.row gm (MsL.upd k gad gc gs a nad nc ns).cells :: ((En ++ (.row g9 a.cells :: (Ka ++ Eg))) ++ L)) := (fun w' h => by simpa only [List.cons_append, List.append_assoc, List.nil_append] using h)
      have e1 : updR xs = match netsR xn with
          | none => .inr (3, 10, ⟨#[]⟩)
          | some ns => if 200 < gs.length ∨ 200 < ns.length then .inr (6, 1, ⟨#[]⟩) else if missI dd.has ≠ 0 ∧ 0 < ns.length then .inr (3, 3, oneS (missI dd.has)) else .inl (gs, { dd with others := sortO dd.others }, ns) := (by
        unfold updR; rw [ec1]; dsimp only; rw [ec2]; dsimp only; rw [hok3 rfl]; dsimp only; rw [ed])
      have hah : dd.has = a.has := (by have := congrArg AtD.has ea; exact this.symm)
      rw [← ea, hah] at e1
      have hmi := missI_b a.has
      have hgl := netsR_len _ (Nat.le_refl _) (hok3 rfl)
      refine WL.val (v_move rfl rfl) (.none rfl) rfl rfl ?_
      skip
      cases ok5
      ·
       refine WL.val (v_not rfl rfl rfl) (.none rfl) rfl rfl ?_
       refine WL.nil ?_
       refine WE.then_n ?_
       refine WC.cond_t rfl ?_
       refine WC.seq ?_
       refine WC.region ?_
       refine WL.val (v_build rfl rfl zero_25 plc_25 rfl) (.none rfl) rfl rfl ?_
       refine WL.storeW rfl rfl rfl rfl many_25 rfl rfl (.none rfl) rfl ?_
       refine WL.nil ?_
       refine WE.then_n ?_
       refine WC.ret ?_
       refine WE.then_ret ?_
       refine WE.ret1 (P := Tryd.prog) (.inl rfl) Tryd.results42 (resRow rfl many_25 rfl) ?_
       rw [hbad5 rfl] at e1
       exact fun w' h => ⟨false, 3, 10, _, gad, gc, gs, a, nad, nc, ns, _, rfl, hfin _ (h.sub (.cons _ (.refl _))), hAll, fun _ => ⟨by decide, e1⟩, fun e => by cases e⟩
      ·
       refine WL.val (v_not rfl rfl rfl) (.none rfl) rfl rfl ?_
       refine WL.nil ?_
       refine WE.then_n ?_
       refine WC.cond_f rfl ?_
       refine WC.skip ?_
       refine WE.then_n ?_
       refine WC.seq ?_
       refine WC.seq ?_
       refine WC.region ?_
       have hnl := netsR_len _ (Nat.le_refl _) (hok5 rfl)
       rw [hok5 rfl] at e1
       dsimp only at e1
       refine WL.val (v_move rfl rfl) (.none rfl) rfl rfl ?_
       refine WL.val (v_nilCheck rfl rfl) (.none rfl) rfl rfl ?_
       refine WL.val (v_fieldAddr0 rfl rfl fld_43_5) (.none rfl) rfl rfl ?_
       refine WL.val (v_load1 rfl rfl one_36 (cellAt (v := .slice gad gs.length gc) rfl)) (.none rfl) rfl rfl ?_
       refine WL.val (v_len_slice rfl rfl Tryd.underlying36) (.none rfl) rfl rfl ?_
       refine WL.test (v_gtr rfl rfl rfl) (.none rfl) rfl rfl (fun h70 => ?_) (fun h70 => ?_)
       ·
        refine WL.val (v_move rfl rfl) (.none rfl) rfl rfl ?_
        refine WL.skip rfl rfl rfl rfl rfl rfl ?_
        refine WL.skip rfl rfl rfl rfl rfl rfl ?_
        refine WL.skip rfl rfl rfl rfl rfl rfl ?_
        refine WL.skip rfl rfl rfl rfl rfl rfl ?_
        refine WL.skip rfl rfl rfl rfl rfl rfl ?_
        refine WL.skip rfl rfl rfl rfl rfl rfl ?_
        refine WL.val (v_pick_t rfl rfl rfl) (.none rfl) rfl rfl ?_
        refine WL.nil ?_
        refine WE.then_n ?_
        refine WC.cond_t rfl ?_
        refine WC.seq ?_
        refine WC.region ?_
        refine WL.val (v_build rfl rfl zero_25 plc_25 rfl) (.none rfl) rfl rfl ?_
        refine WL.storeW rfl rfl rfl rfl many_25 rfl rfl (.none rfl) rfl ?_
        refine WL.nil ?_
        refine WE.then_n ?_
        refine WC.ret ?_
        refine WE.then_ret ?_
        refine WE.ret1 (P := Tryd.prog) (.inl rfl) Tryd.results42 (resRow rfl many_25 rfl) ?_
        rw [if_pos (.inl (by omega))] at e1
        exact fun w' h => ⟨false, 6, 1, _, gad, gc, gs, a, nad, nc, ns, _, rfl, hfin _ (h.sub (.cons _ (.refl _))), hAll, fun _ => ⟨by decide, e1⟩, fun e => by cases e⟩
       ·
        refine WL.val (v_move rfl rfl) (.none rfl) rfl rfl ?_
        refine WL.val (v_move rfl rfl) (.some rfl rfl rfl) rfl rfl ?_
        refine WL.val (v_nilCheck rfl rfl) (.some rfl rfl rfl) rfl rfl ?_
        refine WL.val (v_fieldAddr0 rfl rfl fld_43_7) (.some rfl rfl rfl) rfl rfl ?_
        refine WL.val (v_load1 rfl rfl one_36 (cellAt (v := .slice nad ns.length nc) rfl)) (.some rfl rfl rfl) rfl rfl ?_
        refine WL.val (v_len_slice rfl rfl Tryd.underlying36) (.some rfl rfl rfl) rfl rfl ?_
        refine WL.test (v_gtr rfl rfl rfl) (.some rfl rfl rfl) rfl rfl (fun h77 => ?_) (fun h77 => ?_)
        ·
         refine WL.val (v_pick_f rfl rfl rfl) (.none rfl) rfl rfl ?_
         refine WL.nil ?_
         refine WE.then_n ?_
         refine WC.cond_t rfl ?_
         refine WC.seq ?_
         refine WC.region ?_
         refine WL.val (v_build rfl rfl zero_25 plc_25 rfl) (.none rfl) rfl rfl ?_
         refine WL.storeW rfl rfl rfl rfl many_25 rfl rfl (.none rfl) rfl ?_
         refine WL.nil ?_
         refine WE.then_n ?_
         refine WC.ret ?_
         refine WE.then_ret ?_
         refine WE.ret1 (P := Tryd.prog) (.inl rfl) Tryd.results42 (resRow rfl many_25 rfl) ?_
         rw [if_pos (.inr (by omega))] at e1
         exact fun w' h => ⟨false, 6, 1, _, gad, gc, gs, a, nad, nc, ns, _, rfl, hfin _ (h.sub (.cons _ (.refl _))), hAll, fun _ => ⟨by decide, e1⟩, fun e => by cases e⟩
        ·
         refine WL.val (v_pick_f rfl rfl rfl) (.none rfl) rfl rfl ?_
         refine WL.nil ?_
         refine WE.then_n ?_
         refine WC.cond_f rfl ?_
         refine WC.skip ?_
         refine WE.then_n ?_
         refine WC.seq ?_
         refine WC.seq ?_
         refine WC.region ?_
         rw [if_neg (by omega)] at e1
         refine WL.val (v_loadN rfl rfl many_41 rfl allAt) (.none rfl) rfl rfl ?_
         refine WL.call rfl rfl ck_63 (.none rfl) rfl rfl ?_
         intro w hS
         refine Calls.then (Missing_c w a) hS ?_
         refine WL.val (v_assign rfl rfl) (.none rfl) rfl rfl ?_
         refine WL.nil ?_
         refine WE.then_n ?_
         refine WC.seq ?_
         refine WC.region ?_
         refine WL.val (v_move rfl rfl) (.none rfl) rfl rfl ?_
         refine WL.test (v_neq rfl rfl rfl) (.none rfl) rfl rfl (fun h83 => ?_) (fun h83 => ?_)
         ·
          refine WL.val (v_move rfl rfl) (.none rfl) rfl rfl ?_
          refine WL.val (v_move rfl rfl) (.some rfl rfl rfl) rfl rfl ?_
          refine WL.val (v_nilCheck rfl rfl) (.some rfl rfl rfl) rfl rfl ?_
          refine WL.val (v_fieldAddr0 rfl rfl fld_43_7) (.some rfl rfl rfl) rfl rfl ?_
          refine WL.val (v_load1 rfl rfl one_36 (cellAt (v := .slice nad ns.length nc) rfl)) (.some rfl rfl rfl) rfl rfl ?_
          refine WL.val (v_len_slice rfl rfl Tryd.underlying36) (.some rfl rfl rfl) rfl rfl ?_
          refine WL.test (v_gtr rfl rfl rfl) (.some rfl rfl rfl) rfl rfl (fun h90 => ?_) (fun h90 => ?_)
          ·
           refine WL.val (v_pick_t rfl rfl rfl) (.none rfl) rfl rfl ?_
           refine WL.nil ?_
           refine WE.then_n ?_
           refine WC.cond_t rfl ?_
           refine WC.seq ?_
           refine WC.region ?_
           refine WL.val (v_move rfl rfl) (.none rfl) rfl rfl ?_
           refine WL.val (v_conv rfl rfl Tryd.underlying5 Tryd.underlying3 (by first | exact w_u8 (by omega) (by omega) | exact w_u8m _)) (.none rfl) rfl rfl ?_
           refine WL.buildSlice rfl rfl Tryd.underlying22 sz_5 zero_5 rfl (by decide) rfl (.none rfl) rfl rfl ?_
           intro g94 hg94
           refine WL.val (v_convBS ((fun _ => missI a.has)) rfl rfl Tryd.underlying22 Tryd.underlying5 Tryd.underlying9 (fun w' hS' _ => ⟨g94, 0, rfl, fun i hi => by
           obtain rfl : i = 0 := (by omega)
           exact hS'.cell (g := g94) rfl⟩)) (.none rfl) rfl rfl ?_
           refine WL.val (v_build rfl rfl zero_25 plc_25 rfl) (.none rfl) rfl rfl ?_
           refine WL.storeW rfl rfl rfl rfl many_25 rfl rfl (.none rfl) rfl ?_
           refine WL.nil ?_
           refine WE.then_n ?_
           refine WC.ret ?_
           refine WE.then_ret ?_
           refine WE.ret1 (P := Tryd.prog) (.inl rfl) Tryd.results42 (resRow rfl many_25 rfl) ?_
           rw [if_pos ⟨h83, by omega⟩] at e1
           exact fun w' h => ⟨false, 3, 3, _, gad, gc, gs, a, nad, nc, ns, _, rfl, hfin _ (h.sub (.cons _ (.cons _ (.refl _)))), hAll, fun _ => ⟨by decide, e1⟩, fun e => by cases e⟩
          ·
           refine WL.val (v_pick_t rfl rfl rfl) (.none rfl) rfl rfl ?_
           refine WL.nil ?_
           refine WE.then_n ?_
           refine WC.cond_f rfl ?_
           refine WC.skip ?_
           refine WE.then_n ?_
           refine WC.seq ?_
           refine WC.region ?_
           refine WL.val (v_build rfl rfl zero_25 plc_25 rfl) (.none rfl) rfl rfl ?_
           refine WL.storeW rfl rfl rfl rfl many_25 rfl rfl (.none rfl) rfl ?_
           refine WL.nil ?_
           refine WE.then_n ?_
           refine WC.ret ?_
           refine WE.ret1 (P := Tryd.prog) (.inl rfl) Tryd.results42 (resRow rfl many_25 rfl) ?_
           rw [if_neg (fun h => h90 (by omega))] at e1
           exact fun w' h => ⟨true, 0, 0, _, gad, gc, gs, a, nad, nc, ns, _, rfl, hfin _ (h.sub (.cons _ (.refl _))), hAll, fun e => (by cases e), fun _ => ⟨rfl, rfl, rfl, e1⟩⟩
         ·
          refine WL.val (v_move rfl rfl) (.none rfl) rfl rfl ?_
          refine WL.skip rfl rfl rfl rfl rfl rfl ?_
          refine WL.skip rfl rfl rfl rfl rfl rfl ?_
          refine WL.skip rfl rfl rfl rfl rfl rfl ?_
          refine WL.skip rfl rfl rfl rfl rfl rfl ?_
          refine WL.skip rfl rfl rfl rfl rfl rfl ?_
          refine WL.skip rfl rfl rfl rfl rfl rfl ?_
          refine WL.val (v_pick_f rfl rfl rfl) (.none rfl) rfl rfl ?_
          refine WL.nil ?_
          refine WE.then_n ?_
          refine WC.cond_f rfl ?_
          refine WC.skip ?_
          refine WE.then_n ?_
          refine WC.seq ?_
          refine WC.region ?_
          refine WL.val (v_build rfl rfl zero_25 plc_25 rfl) (.none rfl) rfl rfl ?_
          refine WL.storeW rfl rfl rfl rfl many_25 rfl rfl (.none rfl) rfl ?_
          refine WL.nil ?_
          refine WE.then_n ?_
          refine WC.ret ?_
          refine WE.ret1 (P := Tryd.prog) (.inl rfl) Tryd.results42 (resRow rfl many_25 rfl) ?_
          rw [if_neg (fun h => h.1 (by omega))] at e1
          exact fun w' h => ⟨true, 0, 0, _, gad, gc, gs, a, nad, nc, ns, _, rfl, hfin _ (h.sub (.cons _ (.refl _))), hAll, fun e => (by cases e), fun _ => ⟨rfl, rfl, rfl, e1⟩⟩
end Go.Proofs.YtpjbofodllhjbaaDoor
/- bgp.Decode, exactly. -/
namespace Go.Proofs.YtpjbofodllhjbaaDoor
open Go.RowKit

/-- A message as plain numbers and lists. -/
structure MsD where
  kind : Int
  asn : Int
  hold : Int
  id : Int
  caps : List (Int × List Int)
  gone : List PfL
  atr : AtD
  nets : List PfL
  fc : Int
  fs : Int
  fd : ByteArray
def MsL.d (m : MsL) : MsD := ⟨m.kind, m.asn, m.hold, m.id, m.caps.map capD, m.gone, m.atr.d, m.nets, m.fc, m.fs, m.fd⟩
def strD (xs : List Int) : ByteArray := str (fun i => fOf xs (2 + i)) (xs.length - 2)
/-- A message of a kind and what it has behind its head, or what is wrong. -/
def bodyM (k : Int) (xs : List Int) : MsD ⊕ (Int × Int × ByteArray) :=
  if k = 1 then match openR xs with
    | .inl cs => .inl { (MsL.zero k).d with asn := asnB xs, hold := holdB xs, id := idB xs, caps := cs }
    | .inr (s, d) => .inr (2, s, d)
  else if k = 2 then match updR xs with
    | .inl (g, a, n) => .inl { (MsL.zero k).d with gone := g, atr := a, nets := n }
    | .inr f => .inr f
  else if k = 3 then .inl { (MsL.zero k).d with fc := fOf xs 0, fs := fOf xs 1, fd := strD xs }
  else .inl (MsL.zero k).d
/-- The message of bytes, or what is wrong. -/
def decM (xs : List Int) : MsD ⊕ (Int × Int × ByteArray) :=
  if (sizeR xs.length (fOf xs)).2.1 ≠ 0 then .inr (sizeR xs.length (fOf xs)).2
  else if (sizeR xs.length (fOf xs)).1 ≠ xs.length then .inr (1, 2, str (fun i => fOf xs (16 + i)) 2)
  else bodyM (fOf xs 18) (xs.drop 19)
theorem sizeR_cases (n : Nat) (f : Nat → Int) : (∃ C S d, sizeR n f = (0, C, S, d) ∧ C ≠ 0) ∨ (sizeR n f = (lenI f, 0, 0, ⟨#[]⟩) ∧ 19 ≤ n ∧ mark255 f = true ∧ 19 ≤ lenI f ∧ lenI f ≤ 4096 ∧ 1 ≤ f 18 ∧ f 18 ≤ 4 ∧ leastI (f 18) ≤ lenI f ∧ (f 18 = 4 → lenI f = 19)) := by
  by_cases h1 : n < 19
  · left; exact ⟨1, 2, ⟨#[]⟩, by unfold sizeR; rw [if_pos h1], by decide⟩
  by_cases h2 : mark255 f = true
  · rw [sizeR_on h1 h2]
    split
    · left; exact ⟨1, 2, _, rfl, by decide⟩
    split
    · left; exact ⟨1, 3, _, rfl, by decide⟩
    split
    · left; exact ⟨1, 2, _, rfl, by decide⟩
    · rename_i h3 h4 h5
      right
      have := Classical.byContradiction fun h => h4 (leastI_zero.2 h)
      refine ⟨rfl, by omega, h2, by omega, by omega, by omega, by omega, by omega, fun e => by omega⟩
  · left; exact ⟨1, 1, ⟨#[]⟩, by unfold sizeR; rw [if_neg h1]; simp [h2], by decide⟩
def DecP (w0 w' : World) (xs : List Int) (e : Ending) : Prop :=
  match decM xs with
  | .inr (c, s, d) => e = .returned (.tuple #[.agg (MsL.zero 0).cells.toArray, .agg (fltL c s d).toArray]) ∧ Frm (fun _ => False) w0 w'
  | .inl md => ∃ m K, e = .returned (.tuple #[.agg m.cells.toArray, .agg (fltL 0 0 ⟨#[]⟩).toArray]) ∧ m.d = md ∧ MsAll K m ∧ St (fun _ => False) w0 w' K
structure DecT where
  ok : Bool
  c : Int
  s : Int
  d : ByteArray
  m : MsL
  K : List Ent
set_option maxHeartbeats 4000000 in
theorem DecOk_c (w0 : World) (b o c : Nat) (xs : List Int) (hG : GF w0) (hZ : GZ w0) (hW : Win w0 b o c xs) (hn : xs.length ≤ 90000) (hs : sizeR xs.length (fOf xs) = ((xs.length : Int), 0, 0, ⟨#[]⟩)) (h19 : 19 ≤ xs.length) (h18 : 1 ≤ fOf xs 18 ∧ fOf xs 18 ≤ 4) (hle2 : leastI (fOf xs 18) ≤ xs.length) :
    Calls Tryd.prog 17 #[.slice (some ⟨b, o, none⟩) xs.length c] w0 fun e w' => DecP w0 w' xs e := by
  have hle := hW.le
  have e00 : decM xs = bodyM (fOf xs 18) (xs.drop 19) := by unfold decM; rw [hs]; dsimp only; rw [if_neg (by simp), if_neg (by simp)]
  have hWd := hW.drop 19
  have hdl : (xs.drop 19).length = xs.length - 19 := List.length_drop ..
  have hlst : leastI (fOf xs 18) = if fOf xs 18 = 1 then 29 else if fOf xs 18 = 2 then 23 else if fOf xs 18 = 3 then 21 else 19 := by unfold leastI; repeat' split; all_goals first | rfl | omega
  refine enter Tryd.func17 rfl Tryd.ntmps17 rfl (St.start (fun _ => False) w0) ?_
  refine WC.seq ?_
  refine WC.region ?_
  refine WL.alloc rfl zero_43 (.none rfl) rfl rfl ?_
  intro g2 hg2
  refine WL.alloc rfl zero_25 (.none rfl) rfl rfl ?_
  intro g3 hg3
  refine WL.nil ?_
  refine WE.then_n ?_
  refine WC.seq ?_
  refine WC.region ?_
  refine WL.val (v_move rfl rfl) (.none rfl) rfl rfl ?_
  refine WL.call rfl rfl ck_14 (.none rfl) rfl rfl ?_
  intro w hS
  refine Calls.then (by rw [show (Ending.returned (.tuple #[.int .i64 xs.length, .agg (fltL 0 0 ⟨#[]⟩).toArray])) = .returned (sizeV (sizeR xs.length (fOf xs))) by rw [hs]; rfl]; exact Size_c w (some ⟨b, o, none⟩) xs.length c (fOf xs) (fOf_byt hW.bys) (fun _ => ⟨b, o, rfl, rd_u8s (hW.st hS).at_⟩) (by omega) hle) hS ?_
  refine WL.val (v_move rfl rfl) (.none rfl) rfl rfl ?_
  refine WL.val (v_extract rfl rfl rfl) (.none rfl) rfl rfl ?_
  refine WL.val (v_extract rfl rfl rfl) (.none rfl) rfl rfl ?_
  refine WL.alloc rfl zero_25 (.none rfl) rfl rfl ?_
  intro g5 hg5
  refine WL.val (v_assign rfl rfl) (.none rfl) rfl rfl ?_
  refine WL.storeW rfl rfl rfl rfl many_25 rfl rfl (.none rfl) rfl ?_
  refine WL.nil ?_
  refine WE.then_n ?_
  refine WC.seq ?_
  refine WC.seq ?_
  refine WC.region ?_
  refine WL.val (v_loadN rfl rfl many_25 rfl allAt) (.none rfl) rfl rfl ?_
  refine WL.val (v_build rfl rfl zero_25 plc_25 rfl) (.none rfl) rfl rfl ?_
  refine WL.val (v_neq_aggF rfl rfl rfl eqk_25 eqg_25 rfl rfl (by rfl)) (.none rfl) rfl rfl ?_
  refine WL.nil ?_
  refine WE.then_n ?_
  refine WC.cond_f rfl ?_
  refine WC.skip ?_
  refine WE.then_n ?_
  refine WC.seq ?_
  refine WC.seq ?_
  refine WC.region ?_
  refine WL.val (v_move rfl rfl) (.none rfl) rfl rfl ?_
  refine WL.val (v_move rfl rfl) (.none rfl) rfl rfl ?_
  refine WL.val (v_len_slice rfl rfl Tryd.underlying22) (.none rfl) rfl rfl ?_
  refine WL.val ((v_neq rfl rfl rfl).f (by omega)) (.none rfl) rfl rfl ?_
  refine WL.nil ?_
  refine WE.then_n ?_
  refine WC.cond_f rfl ?_
  refine WC.skip ?_
  refine WE.then_n ?_
  refine WC.seq ?_
  refine WC.region ?_
  refine WL.val (v_move rfl rfl) (.none rfl) rfl rfl ?_
  refine WL.val (v_indexAddr (lo := 18) rfl rfl rfl Tryd.underlying22 sz_5 rfl (by omega)) (.none rfl) rfl rfl ?_
  refine WL.val (v_load1 rfl rfl one_5 (cellOld (fun h => h) (hW.get (fOf_get (by omega))))) (.none rfl) rfl rfl ?_
  refine WL.val (v_conv rfl rfl Tryd.underlying3 Tryd.underlying5 (w_i64 (by omega) (by omega))) (.none rfl) rfl rfl ?_
  refine WL.val (v_build rfl rfl zero_43 plc_43 rfl) (.none rfl) rfl rfl ?_
  refine WL.alloc rfl zero_43 (.none rfl) rfl rfl ?_
  intro g6 hg6
  refine WL.storeW rfl rfl rfl rfl many_43 rfl rfl (.none rfl) rfl ?_
  refine WL.as (L' := .row g6 (MsL.zero (fOf xs 18)).cells :: .row g5 (fltL 0 0 ⟨#[]⟩) :: .row g3 (fltL 0 0 ⟨#[]⟩) :: [.row g2 (MsL.zero 0).cells]) rfl ?_
  refine WL.nil ?_
  refine WE.then_n ?_
  refine WC.seq ?_
  refine WC.region ?_
  refine WL.val (v_move rfl rfl) (.none rfl) rfl rfl ?_
  refine WL.val ((v_slice_lo (lo := 19) rfl rfl rfl Tryd.underlying22 sz_5 rfl (by omega))) (.none rfl) rfl rfl ?_
  rw [show xs.length - 19 = (xs.drop 19).length by rw [List.length_drop]]
  refine WL.val (v_assign rfl rfl) (.none rfl) rfl rfl ?_
  refine WL.nil ?_
  refine WE.then_n ?_
  refine WC.cut (fun y : DecT => [(2, .pointer (some ⟨g2, 0, none⟩)), (3, .pointer (some ⟨g3, 0, none⟩)), (5, .pointer (some ⟨g5, 0, none⟩)), (6, .pointer (some ⟨g6, 0, none⟩))]) (fun y => .row g6 y.m.cells :: (y.K ++ (.row g5 (fltL y.c y.s y.d) :: .row g3 (fltL 0 0 ⟨#[]⟩) :: [.row g2 (MsL.zero 0).cells]))) (fun y => MsAll y.K y.m ∧ (y.ok = false → y.c ≠ 0 ∧ bodyM (fOf xs 18) (xs.drop 19) = .inr (y.c, y.s, y.d)) ∧ (y.ok = true → y.c = 0 ∧ y.s = 0 ∧ y.d = ⟨#[]⟩ ∧ bodyM (fOf xs 18) (xs.drop 19) = .inl y.m.d)) ?_ ?_
  ·
   refine WC.seq ?_
   refine WC.region ?_
   refine WL.val (v_fieldAddr0 rfl rfl fld_43_0) (.none rfl) rfl rfl ?_
   refine WL.val (v_load1 rfl rfl one_3 (cellAt (v := .int .i64 (fOf xs 18)) rfl)) (.none rfl) rfl rfl ?_
   refine WL.nil ?_
   refine WE.then_n ?_
   refine WC.block ?_
   refine WC.seq ?_
   refine WC.region ?_
   refine WL.test (v_eql rfl rfl rfl) (.none rfl) rfl rfl (fun h35 => ?_) (fun h35 => ?_)
   ·
    refine WL.val (v_assign rfl rfl) (.none rfl) rfl rfl ?_
    refine WL.nil ?_
    refine WE.then_n ?_
    refine WC.cond_t rfl ?_
    refine WC.region ?_
    refine WL.val (v_move rfl rfl) (.none rfl) rfl rfl ?_
    refine WL.call rfl rfl ck_41 (.none rfl) rfl rfl ?_
    intro w1 hS
    refine (readOpen_c w0 w1 g6 b (sAddr o 19 c 1) (c - 19) (fOf xs 18) (xs.drop 19) (.row g5 (fltL 0 0 ⟨#[]⟩) :: .row g3 (fltL 0 0 ⟨#[]⟩) :: [.row g2 (MsL.zero 0).cells]) hWd (by rw [hlst, if_pos h35] at hle2; omega) (by omega) hS).mono ?_
    rintro e w' ⟨ok, s, d, ad, kc, cs, E, K, rfl, hS', hV, hO, hF, hT⟩
    refine ⟨_, _, rfl, hS', ?_⟩
    refine WL.storeW rfl rfl rfl rfl many_25 rfl rfl (.none rfl) rfl ?_
    refine WL.as (L' := .row g6 (MsL.opened (fOf xs 18) (xs.drop 19) ad kc cs).cells :: (E ++ (K ++ (.row g5 (fltL (if ok then 0 else 2) s d) :: .row g3 (fltL 0 0 ⟨#[]⟩) :: [.row g2 (MsL.zero 0).cells])))) rfl ?_
    refine WL.nil ?_
    refine WE.block_n ?_
    exact WE.mid ⟨ok, if ok then 0 else 2, s, d, MsL.opened (fOf xs 18) (xs.drop 19) ad kc cs, E ++ K⟩ ⟨⟨⟨E, hV, fun e he => List.mem_append_left _ he⟩, fun c hc => (by
    obtain ⟨E', r1, r2⟩ := hO c hc
    exact ⟨E', r1, fun e he => List.mem_append_right _ (r2 e he)⟩), ⟨[], Vec.nil 2, fun _ h => by cases h⟩, ⟨[], Vec.nil 2, fun _ h => by cases h⟩, AtAll.zero.mono fun _ h => by cases h⟩, fun e => (by
    cases e
    exact ⟨by show (2 : Int) ≠ 0; decide, by unfold bodyM; rw [if_pos h35, hF rfl]; rfl⟩), fun e => by
    cases e
    obtain ⟨rfl, rfl, e1⟩ := hT rfl
    exact ⟨rfl, rfl, rfl, by unfold bodyM; rw [if_pos h35, e1]; rfl⟩⟩ (.cons rfl (.cons rfl (.cons rfl (.cons rfl .nil)))) (by dsimp only; rw [List.append_assoc]; exact .refl _)
   ·
    refine WL.val (v_assign rfl rfl) (.none rfl) rfl rfl ?_
    refine WL.nil ?_
    refine WE.then_n ?_
    refine WC.cond_f rfl ?_
    refine WC.seq ?_
    refine WC.region ?_
    refine WL.test (v_eql rfl rfl rfl) (.none rfl) rfl rfl (fun h39 => ?_) (fun h39 => ?_)
    ·
     refine WL.val (v_assign rfl rfl) (.none rfl) rfl rfl ?_
     refine WL.nil ?_
     refine WE.then_n ?_
     refine WC.cond_t rfl ?_
     refine WC.region ?_
     refine WL.val (v_move rfl rfl) (.none rfl) rfl rfl ?_
     refine WL.call rfl rfl ck_42 (.none rfl) rfl rfl ?_
     intro w1 hS
     refine (readUpdate_c w0 w1 g6 b (sAddr o 19 c 1) (c - 19) (fOf xs 18) (xs.drop 19) (.row g5 (fltL 0 0 ⟨#[]⟩) :: .row g3 (fltL 0 0 ⟨#[]⟩) :: [.row g2 (MsL.zero 0).cells]) hG hZ hWd (by omega) hS).mono ?_
     rintro e w' ⟨ok, fc, s, d, gad, gc, gs, a, nad, nc, ns, K, rfl, hS', hM, hF, hT⟩
     refine ⟨_, _, rfl, hS', ?_⟩
     refine WL.storeW rfl rfl rfl rfl many_25 rfl rfl (.none rfl) rfl ?_
     refine WL.as (L' := .row g6 (MsL.upd (fOf xs 18) gad gc gs a nad nc ns).cells :: (K ++ (.row g5 (fltL fc s d) :: .row g3 (fltL 0 0 ⟨#[]⟩) :: [.row g2 (MsL.zero 0).cells]))) rfl ?_
     refine WL.nil ?_
     refine WE.block_n ?_
     exact WE.mid ⟨ok, fc, s, d, MsL.upd (fOf xs 18) gad gc gs a nad nc ns, K⟩ ⟨hM, fun e => (by
     have := hF e
     exact ⟨this.1, by unfold bodyM; rw [if_neg h35, if_pos h39, this.2]⟩), fun e => by
     obtain ⟨e1, e2, e3, e4⟩ := hT e
     exact ⟨e1, e2, e3, by unfold bodyM; rw [if_neg h35, if_pos h39, e4]; rfl⟩⟩ (.cons rfl (.cons rfl (.cons rfl (.cons rfl .nil)))) (.refl _)
    ·
     refine WL.val (v_assign rfl rfl) (.none rfl) rfl rfl ?_
     refine WL.nil ?_
     refine WE.then_n ?_
     refine WC.cond_f rfl ?_
     refine WC.seq ?_
     refine WC.region ?_
     refine WL.test (v_eql rfl rfl rfl) (.none rfl) rfl rfl (fun h43 => ?_) (fun h43 => ?_)
     ·
      refine WL.val (v_assign rfl rfl) (.none rfl) rfl rfl ?_
      refine WL.nil ?_
      refine WE.then_n ?_
      refine WC.cond_t rfl ?_
      refine WC.orders mixed ?_
      refine WR.first (g := 8) [0, 1, 4, 5, 8, 9] (by kernel_rfl) (by kernel_rfl) ?_
      have h2l : 2 ≤ (xs.drop 19).length := (by rw [hlst, if_neg h35, if_neg h39, if_pos h43] at hle2; omega)
      have b0 := fOf_b hWd.bys 0
      have b1 := fOf_b hWd.bys 1
      refine WP.val (v_move rfl rfl) (.none rfl) rfl rfl ?_
      refine WP.val (v_indexAddr (lo := 0) rfl rfl rfl Tryd.underlying22 sz_5 rfl (by omega)) (.none rfl) rfl rfl ?_
      refine WP.val (v_move rfl rfl) (.none rfl) rfl rfl ?_
      refine WP.val (v_indexAddr (lo := 1) rfl rfl rfl Tryd.underlying22 sz_5 rfl (by omega)) (.none rfl) rfl rfl ?_
      refine WP.val (v_move rfl rfl) (.none rfl) rfl rfl ?_
      refine WP.val ((v_slice_lo (lo := 2) rfl rfl rfl Tryd.underlying22 sz_5 rfl (by omega))) (.none rfl) rfl rfl ?_
      refine WP.nil ?_
      refine WR.read (g := 1) [2, 3, 6, 7, 10, 11, 12] (by kernel_rfl) (by kernel_rfl) (by kernel_rfl) (by kernel_rfl) rfl ?_
      refine WQ.val (v_load1 rfl rfl one_5 (cellOld (fun h => h) (hWd.get (fOf_get (by omega))))) (.none rfl) rfl rfl ?_
      refine WQ.val (v_conv rfl rfl Tryd.underlying3 Tryd.underlying5 (w_i64 (by omega) (by omega))) (.none rfl) rfl rfl ?_
      refine WQ.val (v_load1 rfl rfl one_5 (cellOld (fun h => h) (hWd.get (fOf_get (by omega))))) (.none rfl) rfl rfl ?_
      refine WQ.val (v_conv rfl rfl Tryd.underlying3 Tryd.underlying5 (w_i64 (by omega) (by omega))) (.none rfl) rfl rfl ?_
      refine WQ.val (v_convBS ((fun i => fOf (xs.drop 19) (2 + i))) rfl rfl Tryd.underlying22 Tryd.underlying5 Tryd.underlying9 (fun w' hS' _ => ⟨b, sAddr (sAddr o 19 c 1) 2 (c - 19) 1, rfl, fun i hi => by
      have := ((hWd.st hS').drop 2).get (i := i) (x := fOf (xs.drop 19) (2 + i)) (by rw [List.getElem?_drop]; exact fOf_get (by omega))
      rwa [Nat.mul_one] at this⟩)) (.none rfl) rfl rfl ?_
      refine WQ.val (v_build rfl rfl zero_25 plc_25 rfl) (.none rfl) rfl rfl ?_
      refine WQ.val (v_fieldAddr0 rfl rfl fld_43_8) (.none rfl) rfl rfl ?_
      refine WQ.nilR ?_
      refine WR.ones (g := 0) [13] (by kernel_rfl) ?_
      refine WL.storeN rfl rfl rfl rfl many_25 rfl (by first | exact Nat.le_of_ble_eq_true rfl | simp) (.none rfl) rfl ?_
      refine WL.as (L' := .row g6 (MsL.cells { MsL.zero (fOf xs 18) with fc := fOf (xs.drop 19) 0, fs := fOf (xs.drop 19) 1, fd := strD (xs.drop 19) }) :: .row g5 (fltL 0 0 ⟨#[]⟩) :: .row g3 (fltL 0 0 ⟨#[]⟩) :: [.row g2 (MsL.zero 0).cells]) rfl ?_
      refine WL.nilR ?_
      refine WR.done (by kernel_rfl) ?_
      refine WE.block_n ?_
      exact WE.mid ⟨true, 0, 0, ⟨#[]⟩, { MsL.zero (fOf xs 18) with fc := fOf (xs.drop 19) 0, fs := fOf (xs.drop 19) 1, fd := strD (xs.drop 19) }, []⟩ ⟨⟨⟨[], Vec.nil 2, fun _ h => by cases h⟩, (fun _ h => by cases h), ⟨[], Vec.nil 2, fun _ h => by cases h⟩, ⟨[], Vec.nil 2, fun _ h => by cases h⟩, AtAll.zero⟩, fun e => (by cases e), fun _ => ⟨rfl, rfl, rfl, by unfold bodyM; rw [if_neg h35, if_neg h39, if_pos h43]; rfl⟩⟩ (.cons rfl (.cons rfl (.cons rfl (.cons rfl .nil)))) (.refl _)
     ·
      refine WL.val (v_assign rfl rfl) (.none rfl) rfl rfl ?_
      refine WL.nil ?_
      refine WE.then_n ?_
      refine WC.cond_f rfl ?_
      refine WC.skip ?_
      refine WE.block_n ?_
      exact WE.mid ⟨true, 0, 0, ⟨#[]⟩, MsL.zero (fOf xs 18), []⟩ ⟨MsAll.zero _, fun e => (by cases e), fun _ => ⟨rfl, rfl, rfl, by unfold bodyM; rw [if_neg h35, if_neg h39, if_neg h43]⟩⟩ (.cons rfl (.cons rfl (.cons rfl (.cons rfl .nil)))) (.refl _)
  ·
   rintro ⟨ok, fc, s, d, m, K⟩ ⟨hM, hF, hT⟩
   dsimp only at hM hF hT
   dsimp only
   refine WC.seq ?_
   refine WC.seq ?_
   refine WC.region ?_
   refine WL.val (v_loadN rfl rfl many_25 rfl allAt) (.none rfl) rfl rfl ?_
   skip
   cases ok
   ·
    refine WL.val (v_build rfl rfl zero_25 plc_25 rfl) (.none rfl) rfl rfl ?_
    refine WL.val (v_neq_aggT rfl rfl rfl eqk_25 eqg_25 rfl rfl (by exact fun h => by injection h with h1 _; injection h1 with _ h1; exact (hF rfl).1 h1)) (.none rfl) rfl rfl ?_
    refine WL.nil ?_
    refine WE.then_n ?_
    refine WC.cond_t rfl ?_
    refine WC.seq ?_
    refine WC.orders mixed ?_
    refine WR.first (g := 3) [0] (by kernel_rfl) (by kernel_rfl) ?_
    refine WP.val (v_build rfl rfl zero_43 plc_43 rfl) (.none rfl) rfl rfl ?_
    refine WP.nil ?_
    refine WR.each (g := 2) [1, 2] (by kernel_rfl) (by decide) ?_
    refine ⟨?_, ?_⟩
    ·
     refine WL.val (v_loadN rfl rfl many_25 rfl allAt) (.none rfl) rfl rfl ?_
     refine WL.nilR ?_
     refine WR.ones (g := 0) [2, 3] (by kernel_rfl) ?_
     refine WL.storeW rfl rfl rfl rfl many_43 rfl rfl (.none rfl) rfl ?_
     refine WL.storeW rfl rfl rfl rfl many_25 rfl rfl (.none rfl) rfl ?_
     refine WL.nilR ?_
     refine WR.done (by kernel_rfl) ?_
     refine WE.then_n ?_
     refine WC.ret ?_
     refine WE.then_ret ?_
     refine WE.ret2 (P := Tryd.prog) (.inl rfl) Tryd.results17 (resRow rfl many_43 rfl) (resRow rfl many_25 rfl) ?_
     exact fun w' h => by unfold DecP; rw [e00, (hF rfl).2]; exact ⟨rfl, h.frm⟩
    ·
     refine WL.storeW rfl rfl rfl rfl many_43 rfl rfl (.none rfl) rfl ?_
     refine WL.nilR ?_
     refine WR.read (g := 1) [1] (by kernel_rfl) (by kernel_rfl) (by kernel_rfl) (by kernel_rfl) rfl ?_
     refine WQ.val (v_loadN rfl rfl many_25 rfl allAt) (.none rfl) rfl rfl ?_
     refine WQ.nilR ?_
     refine WR.ones (g := 0) [3] (by kernel_rfl) ?_
     refine WL.storeW rfl rfl rfl rfl many_25 rfl rfl (.none rfl) rfl ?_
     refine WL.nilR ?_
     refine WR.done (by kernel_rfl) ?_
     refine WE.then_n ?_
     refine WC.ret ?_
     refine WE.then_ret ?_
     refine WE.ret2 (P := Tryd.prog) (.inl rfl) Tryd.results17 (resRow rfl many_43 rfl) (resRow rfl many_25 rfl) ?_
     exact fun w' h => by unfold DecP; rw [e00, (hF rfl).2]; exact ⟨rfl, h.frm⟩
   ·
    obtain ⟨rfl, rfl, rfl, e1⟩ := hT rfl
    refine WL.val (v_build rfl rfl zero_25 plc_25 rfl) (.none rfl) rfl rfl ?_
    refine WL.val (v_neq_aggF rfl rfl rfl eqk_25 eqg_25 rfl rfl (by rfl)) (.none rfl) rfl rfl ?_
    refine WL.nil ?_
    refine WE.then_n ?_
    refine WC.cond_f rfl ?_
    refine WC.skip ?_
    refine WE.then_n ?_
    refine WC.seq ?_
    refine WC.region ?_
    refine WL.val (v_loadN rfl rfl many_43 rfl allAt) (.none rfl) rfl rfl ?_
    refine WL.val (v_build rfl rfl zero_25 plc_25 rfl) (.none rfl) rfl rfl ?_
    refine WL.storeW rfl rfl rfl rfl many_43 rfl rfl (.none rfl) rfl ?_
    refine WL.storeW rfl rfl rfl rfl many_25 rfl rfl (.none rfl) rfl ?_
    refine WL.nil ?_
    refine WE.then_n ?_
    refine WC.ret ?_
    refine WE.ret2 (P := Tryd.prog) (.inl rfl) Tryd.results17 (resRow rfl many_43 rfl) (resRow rfl many_25 rfl) ?_
    exact fun w' h => by unfold DecP; rw [e00, e1]; exact ⟨m, K, rfl, rfl, hM, (h.sub (List.sublist_cons_self _ _)).sub (List.sublist_append_left _ _)⟩
/-- bgp.Decode, whatever bytes. -/
theorem Decode_c (w0 : World) (b o c : Nat) (xs : List Int) (hG : GF w0) (hZ : GZ w0) (hW : Win w0 b o c xs) (hn : xs.length ≤ 90000) :
    Calls Tryd.prog 17 #[.slice (some ⟨b, o, none⟩) xs.length c] w0 fun e w' => DecP w0 w' xs e := by
  rcases sizeR_cases xs.length (fOf xs) with ⟨C, S, d, e, hC⟩ | ⟨e, h1, h2, h3, h4, h5, h6, h7, h8⟩
  · refine (DecBad_c w0 _ xs.length c (fOf xs) (fOf_byt hW.bys) (fun _ => ⟨b, o, rfl, rd_u8s hW.at_⟩) (by omega) hW.le C S d e hC).mono fun en w' h => ?_
    have e0 : decM xs = .inr (C, S, d) := by unfold decM; rw [e]; exact if_pos hC
    unfold DecP; rw [e0]; exact h
  · by_cases hk : lenI (fOf xs) = xs.length
    · rw [hk] at e
      exact DecOk_c w0 b o c xs hG hZ hW hn e h1 ⟨h5, h6⟩ (by omega)
    · refine (DecLong_c w0 b o xs.length c (fOf xs) (fOf_byt hW.bys) (rd_u8s hW.at_) (by omega) hW.le h1 _ e hk).mono fun en w' h => ?_
      have e0 : decM xs = .inr (1, 2, str (fun i => fOf xs (16 + i)) 2) := by unfold decM; rw [e]; dsimp only; rw [if_neg (by simp), if_pos hk]
      unfold DecP; rw [e0]; exact h
end Go.Proofs.YtpjbofodllhjbaaDoor
/- bgp: routes as they are said; the plain law of BgpNets. -/
namespace Go.Proofs.YtpjbofodllhjbaaDoor
open Go.RowKit

theorem numB4 (a : Int) : numB a 4 = [a / 16777216 % 256, a / 65536 % 256, a / 256 % 256, a % 256] := by
  show [a / 2 ^ 24 % 256, a / 2 ^ 16 % 256, a / 2 ^ 8 % 256, a / 2 ^ 0 % 256] = _
  rw [show (2 : Int) ^ 24 = 16777216 by decide, show (2 : Int) ^ 16 = 65536 by decide, show (2 : Int) ^ 8 = 256 by decide, show (2 : Int) ^ 0 = 1 by decide, Int.ediv_one]
set_option maxHeartbeats 4000000 in
/-- The last byte of a prefix, with junk behind the length. -/
theorem netJ (k : Nat) (h1 : 1 ≤ k) (h2 : k ≤ 32) (a J : Int) (ha : 0 ≤ a ∧ a ≤ 4294967295) (hc : a = cutI a k) (hJ : 0 ≤ J ∧ J < 2 ^ (8 - ((k - 1) % 8 + 1))) :
    fOf (addrB a ((k + 7) / 8)) ((k + 7) / 8 - 1) % 2 ^ (8 - ((k - 1) % 8 + 1)) = 0 ∧ cutI (addrI ((addrB a ((k + 7) / 8)).set ((k + 7) / 8 - 1) (fOf (addrB a ((k + 7) / 8)) ((k + 7) / 8 - 1) + J))) k = a := by
  unfold addrB
  rw [numB4]
  obtain rfl | rfl | rfl | rfl | rfl | rfl | rfl | rfl | rfl | rfl | rfl | rfl | rfl | rfl | rfl | rfl | rfl | rfl | rfl | rfl | rfl | rfl | rfl | rfl | rfl | rfl | rfl | rfl | rfl | rfl | rfl | rfl : k = 1 ∨ k = 2 ∨ k = 3 ∨ k = 4 ∨ k = 5 ∨ k = 6 ∨ k = 7 ∨ k = 8 ∨ k = 9 ∨ k = 10 ∨ k = 11 ∨ k = 12 ∨ k = 13 ∨ k = 14 ∨ k = 15 ∨ k = 16 ∨ k = 17 ∨ k = 18 ∨ k = 19 ∨ k = 20 ∨ k = 21 ∨ k = 22 ∨ k = 23 ∨ k = 24 ∨ k = 25 ∨ k = 26 ∨ k = 27 ∨ k = 28 ∨ k = 29 ∨ k = 30 ∨ k = 31 ∨ k = 32 := by omega
  · have e1 : ∀ x : Int, cutI x ((1 : Nat) : Int) = x - x % 2147483648 := fun _ => rfl
    have hJ2 : 0 ≤ J ∧ J < 128 := hJ
    rw [e1] at hc
    rw [e1]
    show (a / 16777216 % 256) % 128 = 0 ∧ ((a / 16777216 % 256 + J) * 16777216 + 0 * 65536 + 0 * 256 + 0) - ((a / 16777216 % 256 + J) * 16777216 + 0 * 65536 + 0 * 256 + 0) % 2147483648 = a
    omega
  · have e1 : ∀ x : Int, cutI x ((2 : Nat) : Int) = x - x % 1073741824 := fun _ => rfl
    have hJ2 : 0 ≤ J ∧ J < 64 := hJ
    rw [e1] at hc
    rw [e1]
    show (a / 16777216 % 256) % 64 = 0 ∧ ((a / 16777216 % 256 + J) * 16777216 + 0 * 65536 + 0 * 256 + 0) - ((a / 16777216 % 256 + J) * 16777216 + 0 * 65536 + 0 * 256 + 0) % 1073741824 = a
    omega
  · have e1 : ∀ x : Int, cutI x ((3 : Nat) : Int) = x - x % 536870912 := fun _ => rfl
    have hJ2 : 0 ≤ J ∧ J < 32 := hJ
    rw [e1] at hc
    rw [e1]
    show (a / 16777216 % 256) % 32 = 0 ∧ ((a / 16777216 % 256 + J) * 16777216 + 0 * 65536 + 0 * 256 + 0) - ((a / 16777216 % 256 + J) * 16777216 + 0 * 65536 + 0 * 256 + 0) % 536870912 = a
    omega
  · have e1 : ∀ x : Int, cutI x ((4 : Nat) : Int) = x - x % 268435456 := fun _ => rfl
    have hJ2 : 0 ≤ J ∧ J < 16 := hJ
    rw [e1] at hc
    rw [e1]
    show (a / 16777216 % 256) % 16 = 0 ∧ ((a / 16777216 % 256 + J) * 16777216 + 0 * 65536 + 0 * 256 + 0) - ((a / 16777216 % 256 + J) * 16777216 + 0 * 65536 + 0 * 256 + 0) % 268435456 = a
    omega
  · have e1 : ∀ x : Int, cutI x ((5 : Nat) : Int) = x - x % 134217728 := fun _ => rfl
    have hJ2 : 0 ≤ J ∧ J < 8 := hJ
    rw [e1] at hc
    rw [e1]
    show (a / 16777216 % 256) % 8 = 0 ∧ ((a / 16777216 % 256 + J) * 16777216 + 0 * 65536 + 0 * 256 + 0) - ((a / 16777216 % 256 + J) * 16777216 + 0 * 65536 + 0 * 256 + 0) % 134217728 = a
    omega
  · have e1 : ∀ x : Int, cutI x ((6 : Nat) : Int) = x - x % 67108864 := fun _ => rfl
    have hJ2 : 0 ≤ J ∧ J < 4 := hJ
    rw [e1] at hc
    rw [e1]
    show (a / 16777216 % 256) % 4 = 0 ∧ ((a / 16777216 % 256 + J) * 16777216 + 0 * 65536 + 0 * 256 + 0) - ((a / 16777216 % 256 + J) * 16777216 + 0 * 65536 + 0 * 256 + 0) % 67108864 = a
    omega
  · have e1 : ∀ x : Int, cutI x ((7 : Nat) : Int) = x - x % 33554432 := fun _ => rfl
    have hJ2 : 0 ≤ J ∧ J < 2 := hJ
    rw [e1] at hc
    rw [e1]
    show (a / 16777216 % 256) % 2 = 0 ∧ ((a / 16777216 % 256 + J) * 16777216 + 0 * 65536 + 0 * 256 + 0) - ((a / 16777216 % 256 + J) * 16777216 + 0 * 65536 + 0 * 256 + 0) % 33554432 = a
    omega
  · have e1 : ∀ x : Int, cutI x ((8 : Nat) : Int) = x - x % 16777216 := fun _ => rfl
    have hJ2 : 0 ≤ J ∧ J < 1 := hJ
    rw [e1] at hc
    rw [e1]
    show (a / 16777216 % 256) % 1 = 0 ∧ ((a / 16777216 % 256 + J) * 16777216 + 0 * 65536 + 0 * 256 + 0) - ((a / 16777216 % 256 + J) * 16777216 + 0 * 65536 + 0 * 256 + 0) % 16777216 = a
    omega
  · have e1 : ∀ x : Int, cutI x ((9 : Nat) : Int) = x - x % 8388608 := fun _ => rfl
    have hJ2 : 0 ≤ J ∧ J < 128 := hJ
    rw [e1] at hc
    rw [e1]
    show (a / 65536 % 256) % 128 = 0 ∧ ((a / 16777216 % 256) * 16777216 + (a / 65536 % 256 + J) * 65536 + 0 * 256 + 0) - ((a / 16777216 % 256) * 16777216 + (a / 65536 % 256 + J) * 65536 + 0 * 256 + 0) % 8388608 = a
    omega
  · have e1 : ∀ x : Int, cutI x ((10 : Nat) : Int) = x - x % 4194304 := fun _ => rfl
    have hJ2 : 0 ≤ J ∧ J < 64 := hJ
    rw [e1] at hc
    rw [e1]
    show (a / 65536 % 256) % 64 = 0 ∧ ((a / 16777216 % 256) * 16777216 + (a / 65536 % 256 + J) * 65536 + 0 * 256 + 0) - ((a / 16777216 % 256) * 16777216 + (a / 65536 % 256 + J) * 65536 + 0 * 256 + 0) % 4194304 = a
    omega
  · have e1 : ∀ x : Int, cutI x ((11 : Nat) : Int) = x - x % 2097152 := fun _ => rfl
    have hJ2 : 0 ≤ J ∧ J < 32 := hJ
    rw [e1] at hc
    rw [e1]
    show (a / 65536 % 256) % 32 = 0 ∧ ((a / 16777216 % 256) * 16777216 + (a / 65536 % 256 + J) * 65536 + 0 * 256 + 0) - ((a / 16777216 % 256) * 16777216 + (a / 65536 % 256 + J) * 65536 + 0 * 256 + 0) % 2097152 = a
    omega
  · have e1 : ∀ x : Int, cutI x ((12 : Nat) : Int) = x - x % 1048576 := fun _ => rfl
    have hJ2 : 0 ≤ J ∧ J < 16 := hJ
    rw [e1] at hc
    rw [e1]
    show (a / 65536 % 256) % 16 = 0 ∧ ((a / 16777216 % 256) * 16777216 + (a / 65536 % 256 + J) * 65536 + 0 * 256 + 0) - ((a / 16777216 % 256) * 16777216 + (a / 65536 % 256 + J) * 65536 + 0 * 256 + 0) % 1048576 = a
    omega
  · have e1 : ∀ x : Int, cutI x ((13 : Nat) : Int) = x - x % 524288 := fun _ => rfl
    have hJ2 : 0 ≤ J ∧ J < 8 := hJ
    rw [e1] at hc
    rw [e1]
    show (a / 65536 % 256) % 8 = 0 ∧ ((a / 16777216 % 256) * 16777216 + (a / 65536 % 256 + J) * 65536 + 0 * 256 + 0) - ((a / 16777216 % 256) * 16777216 + (a / 65536 % 256 + J) * 65536 + 0 * 256 + 0) % 524288 = a
    omega
  · have e1 : ∀ x : Int, cutI x ((14 : Nat) : Int) = x - x % 262144 := fun _ => rfl
    have hJ2 : 0 ≤ J ∧ J < 4 := hJ
    rw [e1] at hc
    rw [e1]
    show (a / 65536 % 256) % 4 = 0 ∧ ((a / 16777216 % 256) * 16777216 + (a / 65536 % 256 + J) * 65536 + 0 * 256 + 0) - ((a / 16777216 % 256) * 16777216 + (a / 65536 % 256 + J) * 65536 + 0 * 256 + 0) % 262144 = a
    omega
  · have e1 : ∀ x : Int, cutI x ((15 : Nat) : Int) = x - x % 131072 := fun _ => rfl
    have hJ2 : 0 ≤ J ∧ J < 2 := hJ
    rw [e1] at hc
    rw [e1]
    show (a / 65536 % 256) % 2 = 0 ∧ ((a / 16777216 % 256) * 16777216 + (a / 65536 % 256 + J) * 65536 + 0 * 256 + 0) - ((a / 16777216 % 256) * 16777216 + (a / 65536 % 256 + J) * 65536 + 0 * 256 + 0) % 131072 = a
    omega
  · have e1 : ∀ x : Int, cutI x ((16 : Nat) : Int) = x - x % 65536 := fun _ => rfl
    have hJ2 : 0 ≤ J ∧ J < 1 := hJ
    rw [e1] at hc
    rw [e1]
    show (a / 65536 % 256) % 1 = 0 ∧ ((a / 16777216 % 256) * 16777216 + (a / 65536 % 256 + J) * 65536 + 0 * 256 + 0) - ((a / 16777216 % 256) * 16777216 + (a / 65536 % 256 + J) * 65536 + 0 * 256 + 0) % 65536 = a
    omega
  · have e1 : ∀ x : Int, cutI x ((17 : Nat) : Int) = x - x % 32768 := fun _ => rfl
    have hJ2 : 0 ≤ J ∧ J < 128 := hJ
    rw [e1] at hc
    rw [e1]
    show (a / 256 % 256) % 128 = 0 ∧ ((a / 16777216 % 256) * 16777216 + (a / 65536 % 256) * 65536 + (a / 256 % 256 + J) * 256 + 0) - ((a / 16777216 % 256) * 16777216 + (a / 65536 % 256) * 65536 + (a / 256 % 256 + J) * 256 + 0) % 32768 = a
    omega
  · have e1 : ∀ x : Int, cutI x ((18 : Nat) : Int) = x - x % 16384 := fun _ => rfl
    have hJ2 : 0 ≤ J ∧ J < 64 := hJ
    rw [e1] at hc
    rw [e1]
    show (a / 256 % 256) % 64 = 0 ∧ ((a / 16777216 % 256) * 16777216 + (a / 65536 % 256) * 65536 + (a / 256 % 256 + J) * 256 + 0) - ((a / 16777216 % 256) * 16777216 + (a / 65536 % 256) * 65536 + (a / 256 % 256 + J) * 256 + 0) % 16384 = a
    omega
  · have e1 : ∀ x : Int, cutI x ((19 : Nat) : Int) = x - x % 8192 := fun _ => rfl
    have hJ2 : 0 ≤ J ∧ J < 32 := hJ
    rw [e1] at hc
    rw [e1]
    show (a / 256 % 256) % 32 = 0 ∧ ((a / 16777216 % 256) * 16777216 + (a / 65536 % 256) * 65536 + (a / 256 % 256 + J) * 256 + 0) - ((a / 16777216 % 256) * 16777216 + (a / 65536 % 256) * 65536 + (a / 256 % 256 + J) * 256 + 0) % 8192 = a
    omega
  · have e1 : ∀ x : Int, cutI x ((20 : Nat) : Int) = x - x % 4096 := fun _ => rfl
    have hJ2 : 0 ≤ J ∧ J < 16 := hJ
    rw [e1] at hc
    rw [e1]
    show (a / 256 % 256) % 16 = 0 ∧ ((a / 16777216 % 256) * 16777216 + (a / 65536 % 256) * 65536 + (a / 256 % 256 + J) * 256 + 0) - ((a / 16777216 % 256) * 16777216 + (a / 65536 % 256) * 65536 + (a / 256 % 256 + J) * 256 + 0) % 4096 = a
    omega
  · have e1 : ∀ x : Int, cutI x ((21 : Nat) : Int) = x - x % 2048 := fun _ => rfl
    have hJ2 : 0 ≤ J ∧ J < 8 := hJ
    rw [e1] at hc
    rw [e1]
    show (a / 256 % 256) % 8 = 0 ∧ ((a / 16777216 % 256) * 16777216 + (a / 65536 % 256) * 65536 + (a / 256 % 256 + J) * 256 + 0) - ((a / 16777216 % 256) * 16777216 + (a / 65536 % 256) * 65536 + (a / 256 % 256 + J) * 256 + 0) % 2048 = a
    omega
  · have e1 : ∀ x : Int, cutI x ((22 : Nat) : Int) = x - x % 1024 := fun _ => rfl
    have hJ2 : 0 ≤ J ∧ J < 4 := hJ
    rw [e1] at hc
    rw [e1]
    show (a / 256 % 256) % 4 = 0 ∧ ((a / 16777216 % 256) * 16777216 + (a / 65536 % 256) * 65536 + (a / 256 % 256 + J) * 256 + 0) - ((a / 16777216 % 256) * 16777216 + (a / 65536 % 256) * 65536 + (a / 256 % 256 + J) * 256 + 0) % 1024 = a
    omega
  · have e1 : ∀ x : Int, cutI x ((23 : Nat) : Int) = x - x % 512 := fun _ => rfl
    have hJ2 : 0 ≤ J ∧ J < 2 := hJ
    rw [e1] at hc
    rw [e1]
    show (a / 256 % 256) % 2 = 0 ∧ ((a / 16777216 % 256) * 16777216 + (a / 65536 % 256) * 65536 + (a / 256 % 256 + J) * 256 + 0) - ((a / 16777216 % 256) * 16777216 + (a / 65536 % 256) * 65536 + (a / 256 % 256 + J) * 256 + 0) % 512 = a
    omega
  · have e1 : ∀ x : Int, cutI x ((24 : Nat) : Int) = x - x % 256 := fun _ => rfl
    have hJ2 : 0 ≤ J ∧ J < 1 := hJ
    rw [e1] at hc
    rw [e1]
    show (a / 256 % 256) % 1 = 0 ∧ ((a / 16777216 % 256) * 16777216 + (a / 65536 % 256) * 65536 + (a / 256 % 256 + J) * 256 + 0) - ((a / 16777216 % 256) * 16777216 + (a / 65536 % 256) * 65536 + (a / 256 % 256 + J) * 256 + 0) % 256 = a
    omega
  · have e1 : ∀ x : Int, cutI x ((25 : Nat) : Int) = x - x % 128 := fun _ => rfl
    have hJ2 : 0 ≤ J ∧ J < 128 := hJ
    rw [e1] at hc
    rw [e1]
    show (a % 256) % 128 = 0 ∧ ((a / 16777216 % 256) * 16777216 + (a / 65536 % 256) * 65536 + (a / 256 % 256) * 256 + (a % 256 + J)) - ((a / 16777216 % 256) * 16777216 + (a / 65536 % 256) * 65536 + (a / 256 % 256) * 256 + (a % 256 + J)) % 128 = a
    omega
  · have e1 : ∀ x : Int, cutI x ((26 : Nat) : Int) = x - x % 64 := fun _ => rfl
    have hJ2 : 0 ≤ J ∧ J < 64 := hJ
    rw [e1] at hc
    rw [e1]
    show (a % 256) % 64 = 0 ∧ ((a / 16777216 % 256) * 16777216 + (a / 65536 % 256) * 65536 + (a / 256 % 256) * 256 + (a % 256 + J)) - ((a / 16777216 % 256) * 16777216 + (a / 65536 % 256) * 65536 + (a / 256 % 256) * 256 + (a % 256 + J)) % 64 = a
    omega
  · have e1 : ∀ x : Int, cutI x ((27 : Nat) : Int) = x - x % 32 := fun _ => rfl
    have hJ2 : 0 ≤ J ∧ J < 32 := hJ
    rw [e1] at hc
    rw [e1]
    show (a % 256) % 32 = 0 ∧ ((a / 16777216 % 256) * 16777216 + (a / 65536 % 256) * 65536 + (a / 256 % 256) * 256 + (a % 256 + J)) - ((a / 16777216 % 256) * 16777216 + (a / 65536 % 256) * 65536 + (a / 256 % 256) * 256 + (a % 256 + J)) % 32 = a
    omega
  · have e1 : ∀ x : Int, cutI x ((28 : Nat) : Int) = x - x % 16 := fun _ => rfl
    have hJ2 : 0 ≤ J ∧ J < 16 := hJ
    rw [e1] at hc
    rw [e1]
    show (a % 256) % 16 = 0 ∧ ((a / 16777216 % 256) * 16777216 + (a / 65536 % 256) * 65536 + (a / 256 % 256) * 256 + (a % 256 + J)) - ((a / 16777216 % 256) * 16777216 + (a / 65536 % 256) * 65536 + (a / 256 % 256) * 256 + (a % 256 + J)) % 16 = a
    omega
  · have e1 : ∀ x : Int, cutI x ((29 : Nat) : Int) = x - x % 8 := fun _ => rfl
    have hJ2 : 0 ≤ J ∧ J < 8 := hJ
    rw [e1] at hc
    rw [e1]
    show (a % 256) % 8 = 0 ∧ ((a / 16777216 % 256) * 16777216 + (a / 65536 % 256) * 65536 + (a / 256 % 256) * 256 + (a % 256 + J)) - ((a / 16777216 % 256) * 16777216 + (a / 65536 % 256) * 65536 + (a / 256 % 256) * 256 + (a % 256 + J)) % 8 = a
    omega
  · have e1 : ∀ x : Int, cutI x ((30 : Nat) : Int) = x - x % 4 := fun _ => rfl
    have hJ2 : 0 ≤ J ∧ J < 4 := hJ
    rw [e1] at hc
    rw [e1]
    show (a % 256) % 4 = 0 ∧ ((a / 16777216 % 256) * 16777216 + (a / 65536 % 256) * 65536 + (a / 256 % 256) * 256 + (a % 256 + J)) - ((a / 16777216 % 256) * 16777216 + (a / 65536 % 256) * 65536 + (a / 256 % 256) * 256 + (a % 256 + J)) % 4 = a
    omega
  · have e1 : ∀ x : Int, cutI x ((31 : Nat) : Int) = x - x % 2 := fun _ => rfl
    have hJ2 : 0 ≤ J ∧ J < 2 := hJ
    rw [e1] at hc
    rw [e1]
    show (a % 256) % 2 = 0 ∧ ((a / 16777216 % 256) * 16777216 + (a / 65536 % 256) * 65536 + (a / 256 % 256) * 256 + (a % 256 + J)) - ((a / 16777216 % 256) * 16777216 + (a / 65536 % 256) * 65536 + (a / 256 % 256) * 256 + (a % 256 + J)) % 2 = a
    omega
  · have e1 : ∀ x : Int, cutI x ((32 : Nat) : Int) = x - x % 1 := fun _ => rfl
    have hJ2 : 0 ≤ J ∧ J < 1 := hJ
    rw [e1] at hc
    rw [e1]
    show (a % 256) % 1 = 0 ∧ ((a / 16777216 % 256) * 16777216 + (a / 65536 % 256) * 65536 + (a / 256 % 256) * 256 + (a % 256 + J)) - ((a / 16777216 % 256) * 16777216 + (a / 65536 % 256) * 65536 + (a / 256 % 256) * 256 + (a % 256 + J)) % 1 = a
    omega
/-- A message's bytes: its kind, what it has behind its head. -/
def msgOf (k : Int) (body : List Int) : List Int := List.replicate 16 255 ++ numB (19 + body.length : Nat) 2 ++ [k] ++ body
theorem msgB_of (m : MsL) : msgB m = msgOf m.kind (bodB m) := rfl
theorem msgOf_len (k : Int) (body : List Int) : (msgOf k body).length = 19 + body.length := by unfold msgOf; simp only [List.length_append, List.length_replicate, numB_len, List.length_cons, List.length_nil]
theorem msgOf_head {k : Int} {body : List Int} {i : Nat} (hi : i < 19) : (msgOf k body)[i]? = if i < 16 then some 255 else if i = 16 then some (((19 + body.length : Nat) : Int) / 256 % 256) else if i = 17 then some (((19 + body.length : Nat) : Int) % 256) else some k := by
  unfold msgOf
  rw [show numB (((19 + body.length : Nat) : Int)) 2 = [((19 + body.length : Nat) : Int) / 256 % 256, ((19 + body.length : Nat) : Int) % 256] by
    show [_ / 2 ^ 8 % 256, _ / 2 ^ 0 % 256] = _
    rw [show (2 : Int) ^ 8 = 256 by decide, show (2 : Int) ^ 0 = 1 by decide, Int.ediv_one]]
  by_cases h : i < 16
  · rw [if_pos h, List.getElem?_append_left (by simp; omega), List.getElem?_append_left (by simp; omega), List.getElem?_append_left (by simp; omega), List.getElem?_replicate, if_pos h]
  · rw [if_neg h]
    have : i = 16 ∨ i = 17 ∨ i = 18 := by omega
    rcases this with rfl | rfl | rfl <;> rfl
theorem msgOf_drop (k : Int) (body : List Int) : (msgOf k body).drop 19 = body := by
  unfold msgOf
  exact List.drop_left' (by simp [numB_len])
theorem decM_of (k : Int) (body : List Int) (hk : 1 ≤ k ∧ k ≤ 4) (hl : 19 + body.length ≤ 4096) (hle : leastI k ≤ 19 + body.length) (h4 : k = 4 → body = []) : decM (msgOf k body) = bodyM k body := by
  have hh := head_of (zs := msgOf k body) (L := 19 + body.length) (k := k) (fun i hi => msgOf_head hi) (by omega)
  have hs : sizeR (msgOf k body).length (fOf (msgOf k body)) = (((msgOf k body).length : Int), 0, 0, ⟨#[]⟩) := by
    rw [msgOf_len, sizeR_on (by omega) hh.1, hh.2.1, hh.2.2, if_neg (by omega), if_neg (fun h => leastI_zero.1 h hk), if_neg (by
      rintro (h | ⟨h, h'⟩)
      · omega
      · rw [h4 h] at h'; exact h' rfl)]
  unfold decM
  rw [hs, msgOf_drop, hh.2.2]
  dsimp only
  rw [if_neg (by simp), if_neg (by simp)]
end Go.Proofs.YtpjbofodllhjbaaDoor
/- bgp: BgpNets. -/
namespace Go.Proofs.YtpjbofodllhjbaaDoor
open Go.RowKit

end Go.Proofs.YtpjbofodllhjbaaDoor
/- bgp: BgpNets, walked. -/
namespace Go.Proofs.YtpjbofodllhjbaaDoor
open Go.RowKit

theorem Win.row {p : Nat → Prop} {w0 w : World} {L : List Ent} {g c : Nat} {cs : List Value} {xs : List Int} [At L g cs] (hS : St p w0 w L) (hx : cs.take xs.length = u8s xs) (hb : Bys xs) (hl : xs.length ≤ c) : Win w g 0 c xs :=
  ⟨fun j v hj => allAt (g := g) w hS j v (by
    rw [← hx, List.getElem?_take] at hj
    split at hj
    · exact hj
    · cases hj), hb, hl⟩
theorem zero_i : I64 0 := ⟨(by show (-9223372036854775808 : Int) ≤ 0; decide), (by show (0 : Int) ≤ 9223372036854775807; decide)⟩
theorem zero_u : U32 0 := ⟨(by show (0 : Int) ≤ 0; decide), (by show (0 : Int) ≤ 4294967295; decide)⟩
theorem AtL.zero_in : AtL.zero.In := ⟨zero_i, zero_i, zero_u, zero_i, zero_i, zero_i, zero_u, (fun c hc => by cases hc), (fun c hc => by cases hc), (fun c hc => by cases hc), ⟨Nat.zero_le _, Nat.zero_le _, Nat.zero_le _⟩⟩
end Go.Proofs.YtpjbofodllhjbaaDoor
/- attr: what was written is read again: numbers, paths, communities. -/
namespace Go.Proofs.YtpjbofodllhjbaaDoor
open Go.RowKit

theorem numB1 (a : Int) : numB a 1 = [a % 256] := by
  show [a / 2 ^ 0 % 256] = _
  rw [show (2 : Int) ^ 0 = 1 by decide, Int.ediv_one]
theorem numB2 (a : Int) : numB a 2 = [a / 256 % 256, a % 256] := by
  show [a / 2 ^ 8 % 256, a / 2 ^ 0 % 256] = _
  rw [show (2 : Int) ^ 8 = 256 by decide, show (2 : Int) ^ 0 = 1 by decide, Int.ediv_one]
theorem read1 {a : Int} (h : 0 ≤ a ∧ a ≤ 255) : readI (numB a 1) = a := by rw [numB1]; show 0 * 256 + a % 256 = a; omega
theorem read2 {a : Int} (h : 0 ≤ a ∧ a ≤ 65535) : readI (numB a 2) = a := by rw [numB2]; show (0 * 256 + a / 256 % 256) * 256 + a % 256 = a; omega
theorem read4 {a : Int} (h : 0 ≤ a ∧ a ≤ 4294967295) : readI (numB a 4) = a := by
  rw [numB4]; show (((0 * 256 + a / 16777216 % 256) * 256 + a / 65536 % 256) * 256 + a / 256 % 256) * 256 + a % 256 = a; omega
theorem fours_flat : ∀ (cs : List Int), (∀ c ∈ cs, 0 ≤ c ∧ c ≤ 4294967295) → fours (cs.flatMap fun x => numB x 4) = cs
  | [], _ => rfl
  | c :: cs, h => by
    have e := fours_flat cs fun x hx => h x (List.mem_cons_of_mem _ hx)
    have r := read4 (h c (List.mem_cons_self ..))
    rw [List.flatMap_cons, numB4]
    rw [numB4] at r
    show readI _ :: fours (cs.flatMap fun x => numB x 4) = _
    rw [r, e]
theorem flat2_get : ∀ (xs rest : List Int) (i : Nat) (x : Int), xs[i]? = some x → ((xs.flatMap (fun x => numB x 2) ++ rest).drop (2 * i)).take 2 = numB x 2
  | [], _, i, x, h => by simp at h
  | y :: xs, rest, 0, x, h => by
    simp only [List.getElem?_cons_zero, Option.some.injEq] at h
    subst h
    rw [List.flatMap_cons, Nat.mul_zero, List.drop_zero, List.append_assoc, List.take_left' (numB_len _ _)]
  | y :: xs, rest, i + 1, x, h => by
    rw [List.getElem?_cons_succ] at h
    rw [List.flatMap_cons, show 2 * (i + 1) = 2 + 2 * i by omega, ← List.drop_drop, List.append_assoc, List.drop_left' (numB_len _ _)]
    exact flat2_get xs rest i x h
theorem sys_flat (xs rest : List Int) (h : ∀ x ∈ xs, 0 ≤ x ∧ x ≤ 65535) : ((List.range xs.length).map fun i => readI (((xs.flatMap (fun x => numB x 2) ++ rest).drop (2 * i)).take 2)) = xs := by
  apply List.ext_getElem?
  intro i
  by_cases hi : i < xs.length
  · rw [List.getElem?_map, List.getElem?_range hi, List.getElem?_eq_getElem hi]
    simp only [Option.map_some]
    rw [flat2_get xs rest i _ (List.getElem?_eq_getElem hi), read2 (h _ (List.getElem_mem _))]
  · rw [List.getElem?_eq_none (by simp; omega), List.getElem?_eq_none (by omega)]
theorem segB_iff {s : SegL} (h : segB s = true) : 1 ≤ s.asl.length ∧ s.asl.length ≤ 255 ∧ ∀ x ∈ s.asl, 1 ≤ x ∧ x ≤ 65535 := by
  unfold segB at h
  rw [Bool.and_eq_true] at h
  have h1 := of_decide_eq_true h.1
  exact ⟨h1.1, h1.2, fun x hx => of_decide_eq_true (List.all_eq_true.1 h.2 x hx)⟩
theorem pathR_flat : ∀ (ss : List SegL), ss.all segB = true → pathR (ss.flatMap segE) = some (ss.map segD)
  | [], _ => by rw [List.flatMap_nil, pathR]; rfl
  | s :: ss, h => by
    rw [List.all_cons, Bool.and_eq_true] at h
    obtain ⟨h1, h2, h3⟩ := segB_iff h.1
    have ih := pathR_flat ss h.2
    have hk : (if s.set then (1 : Int) else 2) % 256 = if s.set then 1 else 2 := by cases s.set <;> decide
    have hn : ((s.asl.length : Int) % 256).toNat = s.asl.length := by omega
    have e : (s :: ss).flatMap segE = (if s.set then (1 : Int) else 2) :: ((s.asl.length : Int) % 256) :: (s.asl.flatMap (fun x => numB x 2) ++ ss.flatMap segE) := by
      rw [List.flatMap_cons]
      unfold segE
      rw [numB1, numB1, hk]
      simp
    have hl : (s.asl.flatMap fun x => numB x 2).length = 2 * s.asl.length := flat_len2 _ _
    rw [e, pathR_cons, hn, if_neg (by
      rintro (h | h)
      · cases s.set <;> simp at h
      · rw [List.length_append, hl] at h; omega), List.drop_left' hl, ih, sys_flat _ _ fun x hx => by have := h3 x hx; omega]
    show some (_ :: _) = some (_ :: _)
    congr 2
    unfold segD
    congr 1
    cases s.set <;> decide
end Go.Proofs.YtpjbofodllhjbaaDoor
/- attr: what was written is read again. -/
namespace Go.Proofs.YtpjbofodllhjbaaDoor
open Go.RowKit

theorem putE_long {fl t : Int} {v : List Int} (hf : 0 ≤ fl ∧ fl ≤ 224 ∧ fl % 32 = 0) (ht : 0 ≤ t ∧ t ≤ 255) (hv : 255 < v.length) : putE fl t v = (fl + 16) :: t :: ((v.length : Int) / 256 % 256) :: ((v.length : Int) % 256) :: v := by
  unfold putE
  rw [if_pos hv, numB1, numB1, numB2, show (fl + 16) % 256 = fl + 16 by omega, show t % 256 = t by omega]
  rfl
theorem putE_short {fl t : Int} {v : List Int} (hf : 0 ≤ fl ∧ fl ≤ 224 ∧ fl % 32 = 0) (ht : 0 ≤ t ∧ t ≤ 255) (hv : ¬ 255 < v.length) : putE fl t v = fl :: t :: (v.length : Int) :: v := by
  unfold putE
  rw [if_neg hv, numB1, numB1, numB1, show fl % 256 = fl by omega, show t % 256 = t by omega, show (v.length : Int) % 256 = v.length by omega]
  rfl
/-- How an attribute that was put is read. -/
theorem put_parse {fl t : Int} {v : List Int} (rest : List Int) (hf : 0 ≤ fl ∧ fl ≤ 224 ∧ fl % 32 = 0) (ht : 0 ≤ t ∧ t ≤ 255) (hv : v.length ≤ 65535) :
    fOf (putE fl t v ++ rest) 1 = t ∧ fromN (putE fl t v ++ rest) ≤ (putE fl t v).length ∧ toN (putE fl t v ++ rest) = (putE fl t v).length ∧ (putE fl t v).drop (fromN (putE fl t v ++ rest)) = v ∧ 0 < (putE fl t v).length := by
  by_cases h : 255 < v.length
  · have e := putE_long hf ht h
    rw [e]
    have ef : fromN ((fl + 16) :: t :: ((v.length : Int) / 256 % 256) :: ((v.length : Int) % 256) :: v ++ rest) = 4 := by
      unfold fromN
      exact if_pos (by show (fl + 16) / 16 % 2 = 1; omega)
    have et : toN ((fl + 16) :: t :: ((v.length : Int) / 256 % 256) :: ((v.length : Int) % 256) :: v ++ rest) = v.length + 4 := by
      unfold toN
      rw [ef]
      show 4 + ((0 * 256 + (v.length : Int) / 256 % 256) * 256 + (v.length : Int) % 256).toNat = _
      omega
    exact ⟨rfl, by rw [ef]; simp, by rw [et]; rfl, by rw [ef]; rfl, by simp⟩
  · have e := putE_short hf ht h
    rw [e]
    have ef : fromN (fl :: t :: (v.length : Int) :: v ++ rest) = 3 := by
      unfold fromN
      exact if_neg (by show ¬ fl / 16 % 2 = 1; omega)
    have et : toN (fl :: t :: (v.length : Int) :: v ++ rest) = v.length + 3 := by
      unfold toN
      rw [ef]
      show 3 + (0 * 256 + (v.length : Int)).toNat = _
      omega
    exact ⟨rfl, by rw [ef]; simp, by rw [et]; rfl, by rw [ef]; rfl, by simp⟩
theorem put_head {fl t : Int} {v : List Int} (hf : 0 ≤ fl ∧ fl ≤ 224 ∧ fl % 32 = 0) (ht : 0 ≤ t ∧ t ≤ 255) : (fOf (putE fl t v) 0 = fl ∨ fOf (putE fl t v) 0 = fl + 16) ∧ fOf (putE fl t v) 1 = t := by
  by_cases h : 255 < v.length
  · rw [putE_long hf ht h]; exact ⟨.inr rfl, rfl⟩
  · rw [putE_short hf ht h]; exact ⟨.inl rfl, rfl⟩
theorem decD_put {d : AtD} {seen : List Int} {fl t : Int} {v : List Int} (rest : List Int) (hf : 0 ≤ fl ∧ fl ≤ 224 ∧ fl % 32 = 0) (ht : 0 ≤ t ∧ t ≤ 255) (hv : v.length ≤ 65535) (hs : t ∉ seen) {d' : AtD} (hd : stepD d (putE fl t v) v = .inl d') :
    decD d seen (putE fl t v ++ rest) = decD d' (t :: seen) rest := by
  obtain ⟨h1, h2, h3, h4, h5⟩ := put_parse rest hf ht hv
  rw [decD_step (by rw [List.length_append]; omega) (by
    rw [h1, h3, List.length_append]
    rintro (h | h | h)
    · omega
    · omega
    · exact hs h), h3, List.take_left, h4, hd, h1, List.drop_left]
theorem takeD_put {d d' : AtD} {t : Nat} {v : List Int} (h1 : 1 ≤ t) (h8 : t ≤ 8) (hsz : 0 ≤ sizeI t → (v.length : Int) = sizeI t) (hc : t = 8 → v.length % 4 = 0 ∧ v.length / 4 ≤ 256) (hd : setD d t v = some d')
    (g2 : t = 2 → (d'.path.all fun p => segB ⟨p.1, none, 0, p.2⟩) = true) (g1 : t = 1 → wiB d'.origin 2 = true) (g3 : t = 3 → hopB d'.hop = true) : stepD d (putE (flagI t) t v) v = .inl { d' with has := d'.has + 2 ^ t } := by
  have hfl : 0 ≤ flagI t ∧ flagI t ≤ 224 ∧ flagI t % 32 = 0 ∧ flagI t % 64 = 0 := by
    have : t = 1 ∨ t = 2 ∨ t = 3 ∨ t = 4 ∨ t = 5 ∨ t = 6 ∨ t = 7 ∨ t = 8 := by omega
    rcases this with rfl | rfl | rfl | rfl | rfl | rfl | rfl | rfl <;> decide
  obtain ⟨p1, p2⟩ := put_head (fl := flagI t) (t := (t : Int)) (v := v) ⟨hfl.1, hfl.2.1, hfl.2.2.1⟩ (by omega)
  unfold stepD
  rw [p2, if_pos (by omega)]
  unfold takeD
  rw [p2, Int.toNat_natCast, if_neg (by
    rcases p1 with p1 | p1 <;> rw [p1] <;> omega), if_neg (by
    rintro (⟨h, h'⟩ | ⟨h, h'⟩)
    · exact h' (hsz h)
    · exact h' (hc (by omega)).1), if_neg (by
    rintro ⟨h, h'⟩
    have := (hc (by omega)).2
    omega), hd]
  show (if _ then _ else _) = _
  rw [if_neg (by rintro ⟨h, h'⟩; rw [g2 (by omega)] at h'; cases h'), if_neg (by rintro ⟨h, h'⟩; rw [g1 (by omega)] at h'; cases h'), if_neg (by rintro ⟨h, h'⟩; rw [g3 (by omega)] at h'; cases h')]
/-- The known attributes up to one. -/
def dUp (a : AtL) (k : Nat) : AtD :=
  ⟨a.has % 2 ^ (k + 1), if 1 ≤ k then a.origin else 0, if 2 ≤ k then a.path.map segD else [], if 3 ≤ k then a.hop else 0, if 4 ≤ k then a.med else 0, if 5 ≤ k then a.loc else 0, if 7 ≤ k then a.aas else 0, if 7 ≤ k then a.aid else 0, if 8 ≤ k then a.comms else [], []⟩
theorem AtD.ext' {d e : AtD} (h1 : d.has = e.has) (h2 : d.origin = e.origin) (h3 : d.path = e.path) (h4 : d.hop = e.hop) (h5 : d.med = e.med) (h6 : d.loc = e.loc) (h7 : d.aas = e.aas) (h8 : d.aid = e.aid) (h9 : d.comms = e.comms) (h10 : d.others = e.others) : d = e := by
  cases d; cases e; dsimp only at *; subst h1 h2 h3 h4 h5 h6 h7 h8 h9 h10; rfl
theorem hasB_iff {h : Int} {k : Nat} (h1 : 1 ≤ k) (h8 : k ≤ 8) : hasB h k = true ↔ h / 2 ^ k % 2 = 1 := by
  unfold hasB
  exact ⟨fun e => (of_decide_eq_true e).2.2, fun e => decide_eq_true ⟨h1, h8, e⟩⟩
theorem dUp_no {a : AtL} {t : Nat} (h1 : 1 ≤ t) (h8 : t ≤ 8) (hh : hasB a.has t = false) (hz : zeroB a t = true) : dUp a (t - 1) = dUp a t := by
  have hb : ¬ a.has / 2 ^ t % 2 = 1 := fun e => by rw [(hasB_iff h1 h8).2 e] at hh; cases hh
  have : t = 1 ∨ t = 2 ∨ t = 3 ∨ t = 4 ∨ t = 5 ∨ t = 6 ∨ t = 7 ∨ t = 8 := by omega
  unfold zeroB at hz
  rcases this with rfl | rfl | rfl | rfl | rfl | rfl | rfl | rfl
  · have hz2 : a.origin = 0 := of_decide_eq_true hz
    exact AtD.ext' (by show a.has % 2 = a.has % 4; omega) hz2.symm rfl rfl rfl rfl rfl rfl rfl rfl
  · have hz2 : (a.path.length : Int) = 0 := of_decide_eq_true hz
    have : a.path = [] := List.length_eq_zero_iff.1 (by omega)
    exact AtD.ext' (by show a.has % 4 = a.has % 8; omega) rfl (by show [] = a.path.map segD; rw [this]; rfl) rfl rfl rfl rfl rfl rfl rfl
  · have hz2 : a.hop = 0 := of_decide_eq_true hz
    exact AtD.ext' (by show a.has % 8 = a.has % 16; omega) rfl rfl hz2.symm rfl rfl rfl rfl rfl rfl
  · have hz2 : a.med = 0 := of_decide_eq_true hz
    exact AtD.ext' (by show a.has % 16 = a.has % 32; omega) rfl rfl rfl hz2.symm rfl rfl rfl rfl rfl
  · have hz2 : a.loc = 0 := of_decide_eq_true hz
    exact AtD.ext' (by show a.has % 32 = a.has % 64; omega) rfl rfl rfl rfl hz2.symm rfl rfl rfl rfl
  · exact AtD.ext' (by show a.has % 64 = a.has % 128; omega) rfl rfl rfl rfl rfl rfl rfl rfl rfl
  · have hz2 : a.aas = 0 ∧ a.aid = 0 := of_decide_eq_true hz
    exact AtD.ext' (by show a.has % 128 = a.has % 256; omega) rfl rfl rfl rfl rfl hz2.1.symm hz2.2.symm rfl rfl
  · have hz2 : (a.comms.length : Int) = 0 := of_decide_eq_true hz
    have : a.comms = [] := List.length_eq_zero_iff.1 (by omega)
    exact AtD.ext' (by show a.has % 256 = a.has % 512; omega) rfl rfl rfl rfl rfl rfl rfl (by show [] = a.comms; rw [this]) rfl
theorem wiB_iff {n m : Int} (h : wiB n m = true) : 0 ≤ n ∧ n ≤ m := of_decide_eq_true h
theorem path_all' (ss : List SegL) : ((ss.map segD).all fun p => segB ⟨p.1, none, 0, p.2⟩) = ss.all segB := by rw [List.all_map]; rfl
theorem dUp_yes {a : AtL} {t : Nat} (h1 : 1 ≤ t) (h8 : t ≤ 8) (hh : hasB a.has t = true) (hg : goodB a t = true) (hU : U32 a.hop ∧ U32 a.aid) : stepD (dUp a (t - 1)) (putE (flagI t) t (valE a t)) (valE a t) = .inl (dUp a t) := by
  have hb := (hasB_iff h1 h8).1 hh
  have : t = 1 ∨ t = 2 ∨ t = 3 ∨ t = 4 ∨ t = 5 ∨ t = 6 ∨ t = 7 ∨ t = 8 := by omega
  unfold goodB at hg
  rcases this with rfl | rfl | rfl | rfl | rfl | rfl | rfl | rfl
  · have g := wiB_iff hg
    have ev : valE a 1 = numB a.origin 1 := rfl
    rw [ev, takeD_put (d := dUp a 0) (d' := { dUp a 0 with origin := readI (numB a.origin 1) }) (by omega) (by omega) (fun _ => by rw [numB_len]; rfl) (fun h => by omega) rfl (fun h => by omega) (fun _ => by rw [show readI (numB a.origin 1) = a.origin from read1 (by omega)]; exact hg) (fun h => by omega)]
    exact congrArg Sum.inl (AtD.ext' (by show a.has % 2 + 2 = a.has % 4; omega) (read1 (by omega)) rfl rfl rfl rfl rfl rfl rfl rfl)
  · have ev : valE a 2 = a.path.flatMap segE := rfl
    have hs : setD (dUp a 1) 2 (a.path.flatMap segE) = some { dUp a 1 with path := a.path.map segD } := by
      show (pathR (a.path.flatMap segE)).map _ = _
      rw [pathR_flat a.path hg]; rfl
    rw [ev, takeD_put (d := dUp a 1) (by omega) (by omega) (fun h => absurd h (by decide)) (fun h => by omega) hs (fun _ => (path_all' a.path).trans hg) (fun h => by omega) (fun h => by omega)]
    exact congrArg Sum.inl (AtD.ext' (by show a.has % 4 + 4 = a.has % 8; omega) rfl rfl rfl rfl rfl rfl rfl rfl rfl)
  · have ev : valE a 3 = numB a.hop 4 := rfl
    have r := read4 (a := a.hop) hU.1
    rw [ev, takeD_put (d := dUp a 2) (d' := { dUp a 2 with hop := readI (numB a.hop 4) }) (by omega) (by omega) (fun _ => by rw [numB_len]; rfl) (fun h => by omega) rfl (fun h => by omega) (fun h => by omega) (fun _ => by rw [show readI (numB a.hop 4) = a.hop from r]; exact hg)]
    exact congrArg Sum.inl (AtD.ext' (by show a.has % 8 + 8 = a.has % 16; omega) rfl rfl r rfl rfl rfl rfl rfl rfl)
  · have g := wiB_iff hg
    have ev : valE a 4 = numB a.med 4 := rfl
    rw [ev, takeD_put (d := dUp a 3) (d' := { dUp a 3 with med := readI (numB a.med 4) }) (by omega) (by omega) (fun _ => by rw [numB_len]; rfl) (fun h => by omega) rfl (fun h => by omega) (fun h => by omega) (fun h => by omega)]
    exact congrArg Sum.inl (AtD.ext' (by show a.has % 16 + 16 = a.has % 32; omega) rfl rfl rfl (read4 (by omega)) rfl rfl rfl rfl rfl)
  · have g := wiB_iff hg
    have ev : valE a 5 = numB a.loc 4 := rfl
    rw [ev, takeD_put (d := dUp a 4) (d' := { dUp a 4 with loc := readI (numB a.loc 4) }) (by omega) (by omega) (fun _ => by rw [numB_len]; rfl) (fun h => by omega) rfl (fun h => by omega) (fun h => by omega) (fun h => by omega)]
    exact congrArg Sum.inl (AtD.ext' (by show a.has % 32 + 32 = a.has % 64; omega) rfl rfl rfl rfl (read4 (by omega)) rfl rfl rfl rfl)
  · have ev : valE a 6 = [] := rfl
    rw [ev, takeD_put (d := dUp a 5) (d' := dUp a 5) (by omega) (by omega) (fun _ => rfl) (fun h => by omega) rfl (fun h => by omega) (fun h => by omega) (fun h => by omega)]
    exact congrArg Sum.inl (AtD.ext' (by show a.has % 64 + 64 = a.has % 128; omega) rfl rfl rfl rfl rfl rfl rfl rfl rfl)
  · have g := wiB_iff hg
    have ev : valE a 7 = numB a.aas 2 ++ numB a.aid 4 := rfl
    have e1 : (numB a.aas 2 ++ numB a.aid 4).take 2 = numB a.aas 2 := List.take_left' (numB_len _ _)
    have e2 : (numB a.aas 2 ++ numB a.aid 4).drop 2 = numB a.aid 4 := List.drop_left' (numB_len _ _)
    have hs : setD (dUp a 6) 7 (numB a.aas 2 ++ numB a.aid 4) = some { dUp a 6 with aas := a.aas, aid := a.aid } := by
      show some { dUp a 6 with aas := readI ((numB a.aas 2 ++ numB a.aid 4).take 2), aid := readI ((numB a.aas 2 ++ numB a.aid 4).drop 2) } = _
      rw [e1, e2, read2 (by omega), read4 hU.2]
    rw [ev, takeD_put (d := dUp a 6) (by omega) (by omega) (fun _ => by rw [List.length_append, numB_len, numB_len]; rfl) (fun h => by omega) hs (fun h => by omega) (fun h => by omega) (fun h => by omega)]
    exact congrArg Sum.inl (AtD.ext' (by show a.has % 128 + 128 = a.has % 256; omega) rfl rfl rfl rfl rfl rfl rfl rfl rfl)
  · have ev : valE a 8 = a.comms.flatMap fun x => numB x 4 := rfl
    have hl : (a.comms.flatMap fun x => numB x 4).length = 4 * a.comms.length := flat_len2 _ _
    obtain ⟨c1, c2⟩ : (∀ c ∈ a.comms, 0 ≤ c ∧ c ≤ 4294967295) ∧ a.comms.length ≤ 256 := by
      have hg2 : commsB a.comms = true := hg
      unfold commsB at hg2
      rw [Bool.and_eq_true] at hg2
      exact ⟨fun c hc => wiB_iff (List.all_eq_true.1 hg2.1 c hc), of_decide_eq_true hg2.2⟩
    have hs : setD (dUp a 7) 8 (a.comms.flatMap fun x => numB x 4) = some { dUp a 7 with comms := a.comms } := by
      show some { dUp a 7 with comms := (dUp a 7).comms ++ fours (a.comms.flatMap fun x => numB x 4) } = _
      rw [fours_flat a.comms c1]
      rfl
    rw [ev, takeD_put (d := dUp a 7) (by omega) (by omega) (fun h => absurd h (by decide)) (fun h => by omega) hs (fun h => by omega) (fun h => by omega) (fun h => by omega)]
    exact congrArg Sum.inl (AtD.ext' (by show a.has % 256 + 256 = a.has % 512; omega) rfl rfl rfl rfl rfl rfl rfl rfl rfl)
end Go.Proofs.YtpjbofodllhjbaaDoor
/- attr: all attributes that were written are read again. -/
namespace Go.Proofs.YtpjbofodllhjbaaDoor
open Go.RowKit

theorem known_step {a : AtL} {t : Nat} (h1 : 1 ≤ t) (h8 : t ≤ 8) (he : eachB a t = true) (hU : U32 a.hop ∧ U32 a.aid) (hl : (knownE a t).length ≤ 60000) (seen rest : List Int) (hs : ∀ x ∈ seen, x < (t : Int)) :
    ∃ seen', (∀ x ∈ seen', x < ((t + 1 : Nat) : Int)) ∧ decD (dUp a (t - 1)) seen (knownE a t ++ rest) = decD (dUp a t) seen' rest := by
  unfold eachB at he
  cases hh : hasB a.has t with
  | false =>
    rw [hh] at he
    have e : knownE a t = [] := by unfold knownE; rw [hh]; rfl
    refine ⟨seen, fun x hx => by have := hs x hx; omega, ?_⟩
    rw [e, List.nil_append, dUp_no h1 h8 hh he]
  | true =>
    rw [hh] at he
    have e : knownE a t = putE (flagI t) t (valE a t) := by unfold knownE; rw [hh]; rfl
    rw [e, putE_len] at hl
    have hfl : 0 ≤ flagI t ∧ flagI t ≤ 224 ∧ flagI t % 32 = 0 := by
      have : t = 1 ∨ t = 2 ∨ t = 3 ∨ t = 4 ∨ t = 5 ∨ t = 6 ∨ t = 7 ∨ t = 8 := by omega
      rcases this with rfl | rfl | rfl | rfl | rfl | rfl | rfl | rfl <;> decide
    refine ⟨(t : Int) :: seen, fun x hx => ?_, ?_⟩
    · rcases List.mem_cons.1 hx with rfl | hx
      · omega
      · have := hs x hx; omega
    · rw [e]
      exact decD_put rest hfl (by omega) (by omega) (fun hm => by have := hs _ hm; omega) (dUp_yes h1 h8 hh he hU)
theorem decD_oths : ∀ (os : List OthL) (last : Int) (d : AtD) (seen : List Int), ordB last os = true → 8 ≤ last → (∀ x ∈ seen, x ≤ last) → (∀ o ∈ os, o.val.length ≤ 60000) →
    decD d seen (os.flatMap fun o => putE 224 o.ty o.val) = .inl { d with others := d.others ++ os.map othD }
  | [], _, d, seen, _, _, _, _ => by rw [List.flatMap_nil, decD_nil, List.map_nil, List.append_nil]
  | o :: os, last, d, seen, h, h8, hs, hv => by
    unfold ordB at h
    rw [Bool.and_eq_true] at h
    have h1 := of_decide_eq_true h.1
    obtain ⟨p1, p2⟩ := put_head (fl := 224) (t := o.ty) (v := o.val) (by decide) (by omega)
    have hd : stepD d (putE 224 o.ty o.val) o.val = .inl { d with others := d.others ++ [(o.ty, o.val)] } := by
      unfold stepD
      rw [p2, if_neg (by omega)]
      unfold otherD
      rw [p2, if_neg (by rcases p1 with p1 | p1 <;> rw [p1] <;> decide), if_pos ⟨by rcases p1 with p1 | p1 <;> rw [p1] <;> decide, by omega⟩]
    rw [List.flatMap_cons, decD_put _ (by decide) (by omega) (by have := hv o (List.mem_cons_self ..); omega) (fun hm => by have := hs _ hm; omega) hd]
    rw [decD_oths os o.ty _ _ h.2 (by omega) (fun x hx => by
      rcases List.mem_cons.1 hx with rfl | hx
      · omega
      · have := hs x hx; omega) fun p hp => hv p (List.mem_cons_of_mem _ hp)]
    show Sum.inl _ = Sum.inl _
    congr 1
    exact AtD.ext' rfl rfl rfl rfl rfl rfl rfl rfl rfl (by show d.others ++ [(o.ty, o.val)] ++ os.map othD = d.others ++ (othD o :: os.map othD); rw [List.append_assoc]; rfl)
theorem ordB_sorted : ∀ (os : List OthL) (last : Int), ordB last os = true → (os.map othD).Pairwise (fun x y => x.1 < y.1) ∧ ∀ o ∈ os, last < o.ty
  | [], _, _ => ⟨.nil, fun _ h => by cases h⟩
  | o :: os, last, h => by
    unfold ordB at h
    rw [Bool.and_eq_true] at h
    have h1 := of_decide_eq_true h.1
    obtain ⟨i1, i2⟩ := ordB_sorted os o.ty h.2
    refine ⟨List.pairwise_cons.2 ⟨fun x hx => ?_, i1⟩, fun p hp => ?_⟩
    · obtain ⟨p, hp, rfl⟩ := List.mem_map.1 hx
      exact i2 p hp
    · rcases List.mem_cons.1 hp with rfl | hp
      · exact h1.1
      · have := i2 p hp; omega
theorem pair_nodup : ∀ {l : List (Int × List Int)}, l.Pairwise (fun x y => x.1 < y.1) → (l.map (·.1)).Nodup
  | [], _ => List.nodup_nil
  | x :: l, h => by
    rw [List.pairwise_cons] at h
    rw [List.map_cons, List.nodup_cons]
    refine ⟨fun hm => ?_, pair_nodup h.2⟩
    obtain ⟨y, hy, e⟩ := List.mem_map.1 hm
    have := h.1 y hy
    omega
theorem sortO_ord {os : List OthL} {last : Int} (h : ordB last os = true) : sortO (os.map othD) = os.map othD := by
  obtain ⟨h1, _⟩ := ordB_sorted os last h
  exact (sortO_is (.refl _) (pair_nodup h1) (h1.imp fun h => by omega)).symm
/-- Attributes that may be written are read as they were. -/
theorem decD_body {a : AtL} (hc : chkA a = true) (hU : U32 a.hop ∧ U32 a.aid) (hl : (bodyA a).length ≤ 60000) (hv : ∀ o ∈ a.others, o.val.length ≤ 60000) : decD AtL.zero.d [] (bodyA a) = .inl a.d := by
  unfold chkA at hc
  rw [Bool.and_eq_true, Bool.and_eq_true] at hc
  obtain ⟨⟨k1, k2⟩, k3⟩ := hc
  have hk := of_decide_eq_true k1
  have each : ∀ t, 1 ≤ t → t ≤ 8 → eachB a t = true := fun t h1 h8 => List.all_eq_true.1 k2 t (by rw [List.mem_range'_1]; omega)
  have eb : bodyA a = knownE a 1 ++ (knownE a 2 ++ (knownE a 3 ++ (knownE a 4 ++ (knownE a 5 ++ (knownE a 6 ++ (knownE a 7 ++ (knownE a 8 ++ a.others.flatMap fun o => putE 224 o.ty o.val))))))) := by
    unfold bodyA
    show (knownE a 1 ++ (knownE a 2 ++ (knownE a 3 ++ (knownE a 4 ++ (knownE a 5 ++ (knownE a 6 ++ (knownE a 7 ++ (knownE a 8 ++ [])))))))) ++ _ = _
    simp only [List.append_assoc, List.nil_append]
  rw [eb] at hl ⊢
  simp only [List.length_append] at hl
  have ez : AtL.zero.d = dUp a 0 := (AtD.ext' (by show 0 = a.has % 2; omega) rfl rfl rfl rfl rfl rfl rfl rfl rfl)
  obtain ⟨s1, q1, e1⟩ := known_step (t := 1) (by omega) (by omega) (each 1 (by omega) (by omega)) hU (by omega) [] (knownE a 2 ++ (knownE a 3 ++ (knownE a 4 ++ (knownE a 5 ++ (knownE a 6 ++ (knownE a 7 ++ (knownE a 8 ++ a.others.flatMap fun o => putE 224 o.ty o.val))))))) (fun _ h => by cases h)
  obtain ⟨s2, q2, e2⟩ := known_step (t := 2) (by omega) (by omega) (each 2 (by omega) (by omega)) hU (by omega) s1 (knownE a 3 ++ (knownE a 4 ++ (knownE a 5 ++ (knownE a 6 ++ (knownE a 7 ++ (knownE a 8 ++ a.others.flatMap fun o => putE 224 o.ty o.val)))))) q1
  obtain ⟨s3, q3, e3⟩ := known_step (t := 3) (by omega) (by omega) (each 3 (by omega) (by omega)) hU (by omega) s2 (knownE a 4 ++ (knownE a 5 ++ (knownE a 6 ++ (knownE a 7 ++ (knownE a 8 ++ a.others.flatMap fun o => putE 224 o.ty o.val))))) q2
  obtain ⟨s4, q4, e4⟩ := known_step (t := 4) (by omega) (by omega) (each 4 (by omega) (by omega)) hU (by omega) s3 (knownE a 5 ++ (knownE a 6 ++ (knownE a 7 ++ (knownE a 8 ++ a.others.flatMap fun o => putE 224 o.ty o.val)))) q3
  obtain ⟨s5, q5, e5⟩ := known_step (t := 5) (by omega) (by omega) (each 5 (by omega) (by omega)) hU (by omega) s4 (knownE a 6 ++ (knownE a 7 ++ (knownE a 8 ++ a.others.flatMap fun o => putE 224 o.ty o.val))) q4
  obtain ⟨s6, q6, e6⟩ := known_step (t := 6) (by omega) (by omega) (each 6 (by omega) (by omega)) hU (by omega) s5 (knownE a 7 ++ (knownE a 8 ++ a.others.flatMap fun o => putE 224 o.ty o.val)) q5
  obtain ⟨s7, q7, e7⟩ := known_step (t := 7) (by omega) (by omega) (each 7 (by omega) (by omega)) hU (by omega) s6 (knownE a 8 ++ a.others.flatMap fun o => putE 224 o.ty o.val) q6
  obtain ⟨s8, q8, e8⟩ := known_step (t := 8) (by omega) (by omega) (each 8 (by omega) (by omega)) hU (by omega) s7 (a.others.flatMap fun o => putE 224 o.ty o.val) q7
  have e9 := decD_oths a.others 8 (dUp a 8) s8 k3 (by omega) (fun x hx => by have := q8 x hx; omega) hv
  rw [ez]
  refine e1.trans (e2.trans (e3.trans (e4.trans (e5.trans (e6.trans (e7.trans (e8.trans (e9.trans ?_))))))))
  exact congrArg Sum.inl (AtD.ext' (by show a.has % 512 = a.has; omega) rfl rfl rfl rfl rfl rfl rfl rfl (List.nil_append _))
end Go.Proofs.YtpjbofodllhjbaaDoor
/- bgp: what was written is read again: what an Open, an Update has behind its head. -/
namespace Go.Proofs.YtpjbofodllhjbaaDoor
open Go.RowKit

theorem capsR_flat : ∀ (cs : List CapL) (acc : List (Int × List Int)), cs.all capOk = true → capsR acc (capsE cs) = some (acc ++ cs.map capD)
  | [], acc, _ => by unfold capsE; rw [List.flatMap_nil, capsR_nil, List.map_nil, List.append_nil]
  | c :: cs, acc, h => by
    rw [List.all_cons, Bool.and_eq_true] at h
    have hc := of_decide_eq_true h.1
    have e : capsE (c :: cs) = c.code :: (c.val.length : Int) :: (c.val ++ capsE cs) := by
      unfold capsE capE
      rw [List.flatMap_cons, show c.code % 256 = c.code by omega, show (c.val.length : Int) % 256 = c.val.length by omega]
      simp
    rw [e, capsR_cons, Int.toNat_natCast, if_neg (by rw [List.length_append]; omega), List.take_left, List.drop_left, capsR_flat cs _ h.2, List.map_cons, List.append_assoc]
    rfl
theorem capsE_nil {cs : List CapL} (h : (capsE cs).length = 0) : cs = [] := by
  cases cs with
  | nil => rfl
  | cons c cs => unfold capsE capE at h; rw [List.flatMap_cons] at h; simp at h
theorem openR_body {m : MsL} (h : openC m = 0) (hU : U32 m.id) : openR (openB m) = .inl (m.caps.map capD) ∧ asnB (openB m) = m.asn ∧ holdB (openB m) = m.hold ∧ idB (openB m) = m.id ∧ 10 ≤ (openB m).length := by
  unfold openC at h
  split at h
  · cases h
  rename_i hb
  split at h
  · rename_i hk
    split at h
    · cases h
    rename_i hl
    have hb2 : badO m = false := by cases hq : badO m with | false => rfl | true => exact absurd hq hb
    have hd := of_decide_eq_false hb2
    have ha : addrB m.id 4 = [m.id / 16777216 % 256, m.id / 65536 % 256, m.id / 256 % 256, m.id % 256] := by unfold addrB; rw [numB4]; rfl
    have e : ∃ tl, openB m = 4 :: (m.asn / 256 % 256) :: (m.asn % 256) :: (m.hold / 256 % 256) :: (m.hold % 256) :: (m.id / 16777216 % 256) :: (m.id / 65536 % 256) :: (m.id / 256 % 256) :: (m.id % 256) :: tl ∧ tl = if (capsE m.caps).length = 0 then [0] else [(2 + ((capsE m.caps).length : Int)) % 256, 2, ((capsE m.caps).length : Int) % 256] ++ capsE m.caps := by
      refine ⟨_, ?_, rfl⟩
      unfold openB
      rw [numB2, numB2, ha]
      rfl
    obtain ⟨tl, e1, e2⟩ := e
    have f0 : fOf (openB m) 0 = 4 := by rw [e1]; rfl
    have f1 : asnB (openB m) = m.asn := by rw [e1]; show m.asn / 256 % 256 * 256 + m.asn % 256 = _; omega
    have f2 : holdB (openB m) = m.hold := by rw [e1]; show m.hold / 256 % 256 * 256 + m.hold % 256 = _; omega
    have f3 : idB (openB m) = m.id := by
      rw [e1]
      show m.id / 16777216 % 256 * 16777216 + m.id / 65536 % 256 * 65536 + m.id / 256 % 256 * 256 + m.id % 256 = _
      unfold U32 at hU
      omega
    by_cases hz : (capsE m.caps).length = 0
    · rw [if_pos hz] at e2
      have hcn := capsE_nil hz
      subst e2
      refine ⟨?_, f1, f2, f3, by rw [e1]; simp⟩
      have f9 : fOf (openB m) 9 = 0 := by rw [e1]; rfl
      have fd : (openB m).drop 10 = [] := by rw [e1]; rfl
      unfold openR
      rw [f0, f1, f2, f3, f9, fd, if_neg (by decide), if_neg (by omega), if_neg (by omega), if_neg (by omega), if_neg (by decide), optsR_nil, hcn]
      rfl
    · rw [if_neg hz] at e2
      subst e2
      refine ⟨?_, f1, f2, f3, by rw [e1]; simp⟩
      have f9 : fOf (openB m) 9 = 2 + ((capsE m.caps).length : Int) := by rw [e1]; show (2 + ((capsE m.caps).length : Int)) % 256 = _; omega
      have fd : (openB m).drop 10 = 2 :: ((capsE m.caps).length : Int) :: capsE m.caps := by
        rw [e1]
        show 2 :: (((capsE m.caps).length : Int) % 256) :: capsE m.caps = _
        rw [show ((capsE m.caps).length : Int) % 256 = (capsE m.caps).length by omega]
      unfold openR
      rw [f0, f1, f2, f3, f9, fd, if_neg (by decide), if_neg (by omega), if_neg (by omega), if_neg (by omega), if_neg (by simp only [List.length_cons]; omega), optsR_cons, Int.toNat_natCast, if_neg (by omega), if_neg (by decide), List.take_length, capsR_flat _ _ hk, List.drop_length]
      dsimp only
      rw [optsR_nil]
      rfl
  · cases h
theorem netE_eq {p : PfL} (h : pfOk p = true) : netE p = p.len :: addrB p.addr (needN p.len) := by
  have hl := pfOk_len h
  show numB p.len 1 ++ addrB p.addr ((p.len.toNat + 7) / 8) = _
  rw [numB1, show p.len % 256 = p.len by omega]
  rfl
theorem cut_addr {p : PfL} (h : pfOk p = true) (hU : U32 p.addr) : cutI (addrI (addrB p.addr (needN p.len))) p.len = p.addr ∧ inI p.len = p.len := by
  have hl := pfOk_len h
  have hd := of_decide_eq_true h
  refine ⟨?_, hd.2.symm⟩
  obtain ⟨k, hk⟩ := Int.eq_ofNat_of_zero_le hl.1
  have hn : needN p.len = (k + 7) / 8 := by unfold needN; rw [hk, Int.toNat_natCast]
  have hc := hd.1
  rw [hn, hk]
  rw [hk] at hc
  by_cases h0 : k = 0
  · subst h0
    have e1 : cutI p.addr ((0 : Nat) : Int) = p.addr - p.addr % 4294967296 := rfl
    rw [e1] at hc
    unfold U32 at hU
    have h3 : p.addr = 0 := by omega
    rw [h3]
    rfl
  · have hj := (netJ k (by omega) (by omega) p.addr 0 hU hc ⟨by omega, Int.pow_pos (by decide)⟩).2
    rw [Int.add_zero] at hj
    have hs : (addrB p.addr ((k + 7) / 8)).set ((k + 7) / 8 - 1) (fOf (addrB p.addr ((k + 7) / 8)) ((k + 7) / 8 - 1)) = addrB p.addr ((k + 7) / 8) := by
      have hlen := addrB_len p.addr (show (k + 7) / 8 ≤ 4 by omega)
      apply List.ext_getElem?
      intro i
      rw [List.getElem?_set]
      split
      · rename_i hi
        split
        · rw [← hi, fOf_get (by omega)]
        · rename_i h2
          rw [List.getElem?_eq_none (by omega)]
      · rfl
    rw [hs] at hj
    exact hj
theorem netsR_flat : ∀ (ps : List PfL), ps.all pfOk = true → (∀ p ∈ ps, U32 p.addr) → netsR (netsE ps) = some ps
  | [], _, _ => by unfold netsE; rw [List.flatMap_nil, netsR]
  | p :: ps, h, hU => by
    rw [List.all_cons, Bool.and_eq_true] at h
    have hl := pfOk_len h.1
    have hn : needN p.len ≤ 4 := by unfold needN; omega
    obtain ⟨c1, c2⟩ := cut_addr h.1 (hU p (List.mem_cons_self ..))
    have hal := addrB_len p.addr hn
    have e : netsE (p :: ps) = p.len :: (addrB p.addr (needN p.len) ++ netsE ps) := by
      unfold netsE
      rw [List.flatMap_cons, netE_eq h.1]
      rfl
    rw [e, netsR_cons, if_neg (by rw [List.length_append]; omega), List.take_left' hal, List.drop_left' hal, netsR_flat ps h.2 fun q hq => hU q (List.mem_cons_of_mem _ hq), c1, c2]
    rfl
theorem countR_flat (xs rest : List Int) (h : xs.length ≤ 65535) : countR (numB xs.length 2 ++ (xs ++ rest)) = some (xs, rest) := by
  have e : numB (xs.length : Int) 2 ++ (xs ++ rest) = ((xs.length : Int) / 256 % 256) :: ((xs.length : Int) % 256) :: (xs ++ rest) := by rw [numB2]; rfl
  have f : fOf (numB (xs.length : Int) 2 ++ (xs ++ rest)) 0 * 256 + fOf (numB (xs.length : Int) 2 ++ (xs ++ rest)) 1 = (xs.length : Int) := by
    rw [e]; show (xs.length : Int) / 256 % 256 * 256 + (xs.length : Int) % 256 = _; omega
  unfold countR
  rw [f, Int.toNat_natCast, if_neg (by rw [List.length_append, List.length_append, numB_len]; omega)]
  congr 2
  · rw [List.drop_left' (numB_len _ _), List.take_left]
  · rw [← List.drop_drop, List.drop_left' (numB_len _ _), List.drop_left]
theorem encE_ok {a : AtL} (h : encE a = 0) : chkA a = true ∧ (bodyA a).length ≤ 4096 ∧ ∀ o ∈ a.others, o.val.length ≤ 4096 := by
  unfold encE at h
  split at h
  · rename_i hc
    split at h
    · cases h
    · rename_i hb
      simp only [Bool.or_eq_true, decide_eq_true_eq, List.any_eq_true, not_or, not_exists, not_and] at hb
      exact ⟨hc, by omega, fun o ho => by have := hb.1 o ho; omega⟩
  · cases h
theorem updR_body {m : MsL} (h : updC m = 0) (hI : m.In) : updR (updB m) = .inl (m.gone, m.atr.d, m.nets) := by
  unfold updC at h
  split at h
  · cases h
  rename_i hn
  split at h
  · cases h
  rename_i hb
  have hb2 : badN m = false := by cases hq : badN m with | false => rfl | true => exact absurd hq hb
  unfold badN at hb2
  simp only [Bool.or_eq_false_iff, Bool.not_eq_false', decide_eq_false_iff_not] at hb2
  obtain ⟨⟨g1, g2⟩, g3⟩ := hb2
  obtain ⟨c1, c2, c3⟩ := encE_ok h
  have l1 := netsE_len g1
  have hat := decD_body c1 ⟨hI.at_.hop, hI.at_.aid⟩ (by omega) (fun o ho => by have := c3 o ho; omega)
  have k3 : ordB 8 m.atr.others = true := by unfold chkA at c1; rw [Bool.and_eq_true] at c1; exact c1.2
  have e : updB m = numB (netsE m.gone).length 2 ++ (netsE m.gone ++ (numB (bodyA m.atr).length 2 ++ (bodyA m.atr ++ netsE m.nets))) := by
    unfold updB; simp only [List.append_assoc]
  unfold updR
  rw [e, countR_flat _ _ (by omega)]
  dsimp only
  rw [countR_flat _ _ (by omega)]
  dsimp only
  rw [netsR_flat _ g1 fun p hp => (hI.gone p hp).1]
  dsimp only
  rw [hat]
  dsimp only
  rw [netsR_flat _ g2 fun p hp => (hI.nets p hp).1]
  dsimp only
  rw [if_neg (by omega), if_neg (fun q => g3 ⟨q.2, q.1⟩)]
  have es : sortO m.atr.d.others = m.atr.d.others := sortO_ord k3
  rw [es]
end Go.Proofs.YtpjbofodllhjbaaDoor
/- stream: an append of made zeros; slices.Grow, slices.Concat of bytes. -/
namespace Go.Proofs.YtpjbofodllhjbaaDoor
open Go.RowKit

section
variable {P : Program} {ops : Array Oper} {Q : Exit → Act → World → Prop} {n : Nat} {p : Nat → Prop} {w0 : World} {o : Oper} {rest : List Oper} {l : Kn} {L : List Ent}
end
structure SlL where
  ad : Option Addr
  cap : Nat
  val : List Int
def SlL.cells (s : SlL) : List Value := [.slice s.ad s.val.length s.cap]
end Go.Proofs.YtpjbofodllhjbaaDoor
/- stream: what a Reader makes of bytes, as plain lists. -/
namespace Go.Proofs.YtpjbofodllhjbaaDoor
open Go.RowKit

/-- Bytes seen through a slice, in blocks of E. -/
structure View (E : List Ent) (aa : Option Addr) (c : Nat) (ys : List Int) : Prop where
  le : ys.length ≤ c
  bys : Bys ys
  at_ : (aa = none ∧ c = 0 ∧ ys = []) ∨ ∃ b o, aa = some ⟨b, o, none⟩ ∧ ∀ w, (∀ e ∈ E, e.holds w) → w.rangeAt b o (u8s ys)
theorem View.of {ad : Option Addr} {c : Nat} {xs : List Int} {E : List Ent} (h : BV ad c xs E) (hb : Bys xs) : View E ad c xs := by
  refine ⟨h.len.2, hb, ?_⟩
  rcases h with ⟨ha, hn, hc, _⟩ | ⟨g, cs, rfl, rfl, hx, _, _⟩
  · exact .inl ⟨ha, hc, List.length_eq_zero_iff.1 hn⟩
  · refine .inr ⟨g, 0, rfl, fun w hw j v hj => ?_⟩
    have hR : Row w g cs := hw (.row g cs) (List.mem_cons_self ..)
    rw [← hx, List.getElem?_take] at hj
    split at hj
    · rw [Nat.zero_add]; exact hR.cell hj
    · cases hj
theorem View.win {E : List Ent} {b o c : Nat} {ys : List Int} (h : View E (some ⟨b, o, none⟩) c ys) {w : World} (hw : ∀ e ∈ E, e.holds w) : Win w b o c ys := by
  rcases h.at_ with ⟨h1, _, _⟩ | ⟨b', o', e, hr⟩
  · exact nomatch h1
  · cases e; exact ⟨hr w hw, h.bys, h.le⟩
theorem View.some {E : List Ent} {aa : Option Addr} {c : Nat} {ys : List Int} (h : View E aa c ys) (h0 : 0 < ys.length) : ∃ b o, aa = some ⟨b, o, none⟩ := by
  rcases h.at_ with ⟨_, _, e⟩ | ⟨b, o, e, _⟩
  · rw [e] at h0; exact absurd h0 (Nat.lt_irrefl 0)
  · exact ⟨b, o, e⟩
theorem View.drop {E : List Ent} {b o c : Nat} {ys : List Int} (h : View E (.some ⟨b, o, none⟩) c ys) (k : Nat) : View E (.some ⟨b, sAddr o k c 1, none⟩) (c - k) (ys.drop k) := by
  have hle := h.le
  refine ⟨by rw [List.length_drop]; omega, fun x hx => h.bys x (List.mem_of_mem_drop hx), .inr ⟨b, sAddr o k c 1, rfl, fun w hw => ((h.win hw).drop k).at_⟩⟩
/-- A Reader. -/
structure RdL where
  ad : Option Addr
  cap : Nat
  wait : List Int
  count : Int
  fc : Int
  fs : Int
  fd : ByteArray
def RdL.cells (r : RdL) : List Value := [.slice r.ad r.wait.length r.cap, .int .i64 r.count, .int .i64 r.fc, .int .i64 r.fs, .string r.fd]
theorem MsAll.mono {K K' : List Ent} {m : MsL} (h : MsAll K m) (hm : ∀ e ∈ K, e ∈ K') : MsAll K' m := by
  obtain ⟨⟨E1, a1, b1⟩, h2, ⟨E3, a3, b3⟩, ⟨E4, a4, b4⟩, h5⟩ := h
  exact ⟨⟨E1, a1, fun e he => hm e (b1 e he)⟩, fun c hc => by obtain ⟨E, q1, q2⟩ := h2 c hc; exact ⟨E, q1, fun e he => hm e (q2 e he)⟩, ⟨E3, a3, fun e he => hm e (b3 e he)⟩, ⟨E4, a4, fun e he => hm e (b4 e he)⟩, h5.mono hm⟩
end Go.Proofs.YtpjbofodllhjbaaDoor
/- stream: Reader.Feed, walked. -/
namespace Go.Proofs.YtpjbofodllhjbaaDoor
open Go.RowKit

def RdL.more (r : RdL) (k : Nat) : RdL := { r with count := r.count + k }
end Go.Proofs.YtpjbofodllhjbaaDoor
/- stream: what a Reader tells; messages out of bytes; the document's example. -/
namespace Go.Proofs.YtpjbofodllhjbaaDoor
open Go.RowKit

def RdL.zero : RdL := ⟨none, 0, [], 0, 0, 0, ⟨#[]⟩⟩
end Go.Proofs.YtpjbofodllhjbaaDoor
/- bgp: any message that was written is read again; messages one behind the other, in whatever pieces. -/
namespace Go.Proofs.YtpjbofodllhjbaaDoor
open Go.RowKit

theorem strOf_strI (d : ByteArray) : strOfNums (strI d) = d := by
  unfold strOfNums strI
  rw [List.map_map]
  have : (d.data.toList.map ((fun n : Int => UInt8.ofNat n.toNat) ∘ fun b : UInt8 => (b.toNat : Int))) = d.data.toList := by
    conv => rhs; rw [← List.map_id d.data.toList]
    apply List.map_congr_left
    intro b _
    show UInt8.ofNat ((b.toNat : Int).toNat) = b
    rw [Int.toNat_natCast]
    exact UInt8.ofNat_toNat
  rw [this]
theorem strD_note (a b : Int) (d : ByteArray) : strD (a :: b :: strI d) = d := by
  have h : (List.range (strI d).length).map (fun i => fOf (a :: b :: strI d) (2 + i)) = strI d := by
    apply List.ext_getElem?
    intro i
    by_cases hi : i < (strI d).length
    · rw [List.getElem?_map, List.getElem?_range hi, fOf_get hi]
      show some (fOf (a :: b :: strI d) (2 + i)) = _
      rw [show 2 + i = i + 1 + 1 by omega]
      rfl
    · rw [List.getElem?_eq_none (by simp; omega), List.getElem?_eq_none (by omega)]
  show strOfNums (bl (fun i => fOf (a :: b :: strI d) (2 + i)) ((a :: b :: strI d).length - 2)) = d
  unfold bl
  rw [show (a :: b :: strI d).length - 2 = (strI d).length by simp, h, strOf_strI]
/-- A message with what belongs to its kind alone. -/
def bareD (m : MsL) : MsD :=
  if m.kind = 1 then { (MsL.zero m.kind).d with asn := m.asn, hold := m.hold, id := m.id, caps := m.caps.map capD }
  else if m.kind = 2 then { (MsL.zero m.kind).d with gone := m.gone, atr := m.atr.d, nets := m.nets }
  else if m.kind = 3 then { (MsL.zero m.kind).d with fc := m.fc, fs := m.fs, fd := m.fd }
  else (MsL.zero m.kind).d
theorem bodyM_body {m : MsL} (h : msgC m = 0) (hI : m.In) : bodyM m.kind (bodB m) = .inl (bareD m) ∧ (1 ≤ m.kind ∧ m.kind ≤ 4) ∧ 19 + (bodB m).length ≤ 4096 ∧ leastI m.kind ≤ 19 + (bodB m).length ∧ (m.kind = 4 → bodB m = []) := by
  obtain ⟨hb, hl⟩ := msgC_bod h
  have hk := bodC_kind hb
  unfold bodC at hb
  by_cases k1 : m.kind = 1
  · rw [if_pos k1] at hb
    obtain ⟨o1, o2, o3, o4, o5⟩ := openR_body hb hI.id
    have e : bodB m = openB m := by unfold bodB; rw [if_pos k1]
    rw [e] at hl ⊢
    refine ⟨?_, hk, hl, by rw [k1]; show (29 : Int) ≤ _; omega, fun h => by omega⟩
    unfold bodyM bareD
    rw [if_pos k1, if_pos k1, o1, o2, o3, o4]
  · rw [if_neg k1] at hb
    by_cases k2 : m.kind = 2
    · rw [if_pos k2] at hb
      have e : bodB m = updB m := by unfold bodB; rw [if_neg k1, if_pos k2]
      have hl4 : 4 ≤ (updB m).length := by unfold updB; simp only [List.length_append, numB_len]; omega
      rw [e] at hl ⊢
      refine ⟨?_, hk, hl, by rw [k2]; show (23 : Int) ≤ _; omega, fun h => by omega⟩
      unfold bodyM bareD
      rw [if_neg k1, if_pos k2, if_neg k1, if_pos k2, updR_body hb hI]
    · rw [if_neg k2] at hb
      by_cases k3 : m.kind = 3
      · have e : bodB m = m.fc :: m.fs :: strI m.fd := by unfold bodB; rw [if_neg k1, if_neg k2, if_pos k3]; rfl
        rw [e] at hl ⊢
        refine ⟨?_, hk, hl, by rw [k3]; show (21 : Int) ≤ _; simp only [List.length_cons]; omega, fun h => by omega⟩
        unfold bodyM bareD
        rw [if_neg k1, if_neg k2, if_pos k3, if_neg k1, if_neg k2, if_pos k3, strD_note]
        rfl
      · have e : bodB m = [] := by unfold bodB; rw [if_neg k1, if_neg k2, if_neg k3]
        have k4 : m.kind = 4 := by omega
        rw [e] at hl ⊢
        refine ⟨?_, hk, hl, by rw [k4]; decide, fun _ => rfl⟩
        unfold bodyM bareD
        rw [if_neg k1, if_neg k2, if_neg k3, if_neg k1, if_neg k2, if_neg k3]
theorem decM_msgB {m : MsL} (h : msgC m = 0) (hI : m.In) : decM (msgB m) = .inl (bareD m) := by
  obtain ⟨h1, h2, h3, h4, h5⟩ := bodyM_body h hI
  rw [msgB_of, decM_of _ _ h2 h3 h4 h5, h1]
end Go.Proofs.YtpjbofodllhjbaaDoor
/- bgp: a message's bytes hang on what it says alone, not on where its parts lie. -/
namespace Go.Proofs.YtpjbofodllhjbaaDoor
open Go.RowKit

def capED (p : Int × List Int) : List Int := [p.1 % 256, (p.2.length : Int) % 256] ++ p.2
def capsED (cs : List (Int × List Int)) : List Int := cs.flatMap capED
theorem capsE_d (cs : List CapL) : capsE cs = capsED (cs.map capD) := by unfold capsE capsED; rw [List.flatMap_map]; rfl
theorem capOk_d (cs : List CapL) : cs.all capOk = (cs.map capD).all fun p => decide (0 ≤ p.1 ∧ p.1 ≤ 255 ∧ p.2.length ≤ 255) := by rw [List.all_map]; rfl
def openCD (d : MsD) : Int := if decide (d.asn < 1 ∨ 65535 < d.asn ∨ (d.hold ≠ 0 ∧ (d.hold < 3 ∨ 65535 < d.hold)) ∨ d.id = 0 ∨ 32 < d.caps.length) then 1 else if d.caps.all (fun p => decide (0 ≤ p.1 ∧ p.1 ≤ 255 ∧ p.2.length ≤ 255)) then if 253 < (capsED d.caps).length then 6 else 0 else 1
def openBD (d : MsD) : List Int := [4] ++ numB d.asn 2 ++ numB d.hold 2 ++ addrB d.id 4 ++ (if (capsED d.caps).length = 0 then [0] else [(2 + ((capsED d.caps).length : Int)) % 256, 2, ((capsED d.caps).length : Int) % 256] ++ capsED d.caps)
theorem openC_d (m : MsL) : openC m = openCD m.d := by
  unfold openC openCD badO
  rw [capsE_d, capOk_d, show m.caps.length = m.d.caps.length from (List.length_map ..).symm]
  rfl
theorem openB_d (m : MsL) : openB m = openBD m.d := by unfold openB openBD; rw [capsE_d]; rfl
def segED (p : Bool × List Int) : List Int := numB (if p.1 then 1 else 2) 1 ++ numB p.2.length 1 ++ p.2.flatMap fun x => numB x 2
def segBD (p : Bool × List Int) : Bool := decide (1 ≤ p.2.length ∧ p.2.length ≤ 255) && p.2.all fun x => decide (1 ≤ x ∧ x ≤ 65535)
def valED (a : AtD) (t : Nat) : List Int :=
  if t = 1 then numB a.origin 1 else if t = 2 then a.path.flatMap segED else if t = 3 then numB a.hop 4 else if t = 4 then numB a.med 4
  else if t = 5 then numB a.loc 4 else if t = 7 then numB a.aas 2 ++ numB a.aid 4 else if t = 8 then a.comms.flatMap fun x => numB x 4 else []
theorem valE_d (a : AtL) (t : Nat) : valE a t = valED a.d t := by
  unfold valE valED
  rw [show a.path.flatMap segE = a.d.path.flatMap segED by show _ = (a.path.map segD).flatMap segED; rw [List.flatMap_map]; rfl]
  rfl
def goodBD (a : AtD) (k : Nat) : Bool :=
  if k = 1 then wiB a.origin 2 else if k = 2 then a.path.all segBD else if k = 3 then hopB a.hop else if k = 4 then wiB a.med 4294967295
  else if k = 5 then wiB a.loc 4294967295 else if k = 7 then wiB a.aas 65535 else if k = 8 then commsB a.comms else true
theorem goodB_d (a : AtL) (k : Nat) : goodB a k = goodBD a.d k := by
  unfold goodB goodBD
  rw [show a.path.all segB = a.d.path.all segBD by show _ = (a.path.map segD).all segBD; rw [List.all_map]; rfl]
  rfl
def zeroBD (a : AtD) (k : Nat) : Bool :=
  if k = 1 then decide (a.origin = 0) else if k = 2 then decide ((a.path.length : Int) = 0) else if k = 3 then decide (a.hop = 0) else if k = 4 then decide (a.med = 0)
  else if k = 5 then decide (a.loc = 0) else if k = 7 then decide (a.aas = 0 ∧ a.aid = 0) else if k = 8 then decide ((a.comms.length : Int) = 0) else true
theorem zeroB_d (a : AtL) (k : Nat) : zeroB a k = zeroBD a.d k := by
  unfold zeroB zeroBD
  rw [show a.path.length = a.d.path.length from (List.length_map ..).symm]
  rfl
def ordBD : Int → List (Int × List Int) → Bool
  | _, [] => true
  | last, o :: os => decide (last < o.1 ∧ o.1 ≤ 255) && ordBD o.1 os
theorem ordB_d : ∀ (last : Int) (os : List OthL), ordB last os = ordBD last (os.map othD)
  | _, [] => rfl
  | last, o :: os => by
    show (_ && ordB o.ty os) = (_ && ordBD o.ty (os.map othD))
    rw [ordB_d o.ty os]
    rfl
def eachBD (a : AtD) (k : Nat) : Bool := if hasB a.has k then goodBD a k else zeroBD a k
def chkAD (a : AtD) : Bool := knownB a.has && ((List.range' 1 8).all (eachBD a)) && ordBD 8 a.others
theorem chkA_d (a : AtL) : chkA a = chkAD a.d := by
  unfold chkA chkAD
  rw [ordB_d, show eachB a = eachBD a.d from funext fun k => by unfold eachB eachBD; rw [goodB_d, zeroB_d]; rfl]
  rfl
def bodyAD (a : AtD) : List Int := ((List.range' 1 8).flatMap fun t => if hasB a.has t then putE (flagI t) t (valED a t) else []) ++ a.others.flatMap fun o => putE 224 o.1 o.2
theorem bodyA_d (a : AtL) : bodyA a = bodyAD a.d := by
  unfold bodyA bodyAD
  rw [show knownE a = (fun t => if hasB a.d.has t then putE (flagI t) t (valED a.d t) else []) from funext fun t => by unfold knownE; rw [valE_d]; rfl]
  rw [show (a.others.flatMap fun o => putE 224 o.ty o.val) = a.d.others.flatMap fun o => putE 224 o.1 o.2 by show _ = (a.others.map othD).flatMap _; rw [List.flatMap_map]; rfl]
def encED (a : AtD) : Int := if chkAD a then if (a.others.any fun o => decide (4096 < o.2.length)) || decide (4096 < (bodyAD a).length) then 6 else 0 else 1
theorem encE_d (a : AtL) : encE a = encED a.d := by
  unfold encE encED
  rw [chkA_d, bodyA_d, show (a.others.any fun o => decide (4096 < o.val.length)) = a.d.others.any fun o => decide (4096 < o.2.length) by show _ = (a.others.map othD).any _; rw [List.any_map]; rfl]
def updCD (d : MsD) : Int := if 200 < d.gone.length ∨ 200 < d.nets.length then 3 else if !(d.gone.all pfOk) || !(d.nets.all pfOk) || decide (0 < d.nets.length ∧ missI d.atr.has ≠ 0) then 1 else encED d.atr
def updBD (d : MsD) : List Int := numB (netsE d.gone).length 2 ++ netsE d.gone ++ numB (bodyAD d.atr).length 2 ++ bodyAD d.atr ++ netsE d.nets
theorem updC_d (m : MsL) : updC m = updCD m.d := by unfold updC updCD badN; rw [encE_d]; rfl
theorem updB_d (m : MsL) : updB m = updBD m.d := by unfold updB updBD; rw [bodyA_d]; rfl
def bodCD (d : MsD) : Int := if d.kind = 1 then openCD d else if d.kind = 2 then updCD d else if d.kind = 3 then if d.fc < 1 ∨ 255 < d.fc ∨ d.fs < 0 ∨ 255 < d.fs then 1 else if 4096 < d.fd.size then 6 else 0 else if d.kind = 4 then 0 else 12
def bodBD (d : MsD) : List Int := if d.kind = 1 then openBD d else if d.kind = 2 then updBD d else if d.kind = 3 then [d.fc, d.fs] ++ strI d.fd else []
theorem bodC_d (m : MsL) : bodC m = bodCD m.d := by unfold bodC bodCD noteC; rw [openC_d, updC_d]; rfl
theorem bodB_d (m : MsL) : bodB m = bodBD m.d := by unfold bodB bodBD noteB; rw [openB_d, updB_d]; rfl
def msgCD (d : MsD) : Int := if bodCD d = 0 then if 4096 < 19 + (bodBD d).length then 6 else 0 else bodCD d
def msgBD (d : MsD) : List Int := msgOf d.kind (bodBD d)
theorem msgC_d (m : MsL) : msgC m = msgCD m.d := by unfold msgC msgCD; rw [bodC_d, bodB_d]
theorem msgB_d (m : MsL) : msgB m = msgBD m.d := by rw [msgB_of, bodB_d]; rfl
theorem bod_1 {d : MsD} (k : d.kind = 1) : bodCD d = openCD d ∧ bodBD d = openBD d := ⟨by unfold bodCD; rw [if_pos k], by unfold bodBD; rw [if_pos k]⟩
theorem bod_2 {d : MsD} (k1 : ¬ d.kind = 1) (k : d.kind = 2) : bodCD d = updCD d ∧ bodBD d = updBD d := ⟨by unfold bodCD; rw [if_neg k1, if_pos k], by unfold bodBD; rw [if_neg k1, if_pos k]⟩
theorem bod_3 {d : MsD} (k1 : ¬ d.kind = 1) (k2 : ¬ d.kind = 2) (k : d.kind = 3) : bodCD d = (if d.fc < 1 ∨ 255 < d.fc ∨ d.fs < 0 ∨ 255 < d.fs then 1 else if 4096 < d.fd.size then 6 else 0) ∧ bodBD d = [d.fc, d.fs] ++ strI d.fd := ⟨by unfold bodCD; rw [if_neg k1, if_neg k2, if_pos k], by unfold bodBD; rw [if_neg k1, if_neg k2, if_pos k]⟩
theorem bod_4 {d : MsD} (k1 : ¬ d.kind = 1) (k2 : ¬ d.kind = 2) (k3 : ¬ d.kind = 3) : bodCD d = (if d.kind = 4 then 0 else 12) ∧ bodBD d = [] := ⟨by unfold bodCD; rw [if_neg k1, if_neg k2, if_neg k3], by unfold bodBD; rw [if_neg k1, if_neg k2, if_neg k3]⟩
/-- Numbers in range. -/
structure AtD.In (a : AtD) : Prop where
  nums : I64 a.has ∧ I64 a.origin ∧ U32 a.hop ∧ I64 a.med ∧ I64 a.loc ∧ I64 a.aas ∧ U32 a.aid
  segs : ∀ s ∈ a.path, s.2.length ≤ 9223372036854775807 ∧ ∀ x ∈ s.2, I64 x
  comms : ∀ x ∈ a.comms, I64 x
  oths : ∀ o ∈ a.others, I64 o.1 ∧ o.2.length ≤ 9223372036854775807 ∧ Bys o.2
  lens : a.path.length ≤ 9223372036854775807 ∧ a.comms.length ≤ 9223372036854775807 ∧ a.others.length ≤ 9223372036854775807
structure MsD.In (m : MsD) : Prop where
  nums : I64 m.kind ∧ I64 m.asn ∧ I64 m.hold ∧ U32 m.id ∧ I64 m.fc ∧ I64 m.fs
  caps : ∀ c ∈ m.caps, I64 c.1 ∧ c.2.length ≤ 9223372036854775807 ∧ Bys c.2
  gone : ∀ p ∈ m.gone, U32 p.addr ∧ I64 p.len
  nets : ∀ p ∈ m.nets, U32 p.addr ∧ I64 p.len
  at_ : m.atr.In
  lens : m.caps.length ≤ 9223372036854775807 ∧ m.gone.length ≤ 9223372036854775807 ∧ m.nets.length ≤ 9223372036854775807 ∧ m.fd.size ≤ 9223372036854775807
theorem AtL.in_d {a : AtL} : a.In ↔ a.d.In := by
  constructor
  · intro h
    refine ⟨⟨h.has, h.origin, h.hop, h.med, h.loc, h.aas, h.aid⟩, fun s hs => ?_, h.comms, fun o ho => ?_, ?_⟩
    · obtain ⟨t, ht, rfl⟩ := List.mem_map.1 hs; exact h.segs t ht
    · obtain ⟨t, ht, rfl⟩ := List.mem_map.1 ho; exact h.oths t ht
    · have := h.lens; exact ⟨by show (a.path.map segD).length ≤ _; rw [List.length_map]; exact this.1, this.2.1, by show (a.others.map othD).length ≤ _; rw [List.length_map]; exact this.2.2⟩
  · intro h
    obtain ⟨n1, n2, n3, n4, n5, n6, n7⟩ := h.nums
    obtain ⟨l1, l2, l3⟩ := h.lens
    refine ⟨n1, n2, n3, n4, n5, n6, n7, fun s hs => h.segs (segD s) (List.mem_map.2 ⟨s, hs, rfl⟩), h.comms, fun o ho => h.oths (othD o) (List.mem_map.2 ⟨o, ho, rfl⟩), ⟨?_, l2, ?_⟩⟩
    · have : (a.path.map segD).length ≤ 9223372036854775807 := l1
      rwa [List.length_map] at this
    · have : (a.others.map othD).length ≤ 9223372036854775807 := l3
      rwa [List.length_map] at this
theorem MsL.in_d {m : MsL} : m.In ↔ m.d.In := by
  constructor
  · intro h
    have := h.lens
    exact ⟨⟨h.kind, h.asn, h.hold, h.id, h.fc, h.fs⟩, fun s hs => (by obtain ⟨t, ht, rfl⟩ := List.mem_map.1 hs; exact h.caps t ht), h.gone, h.nets, AtL.in_d.1 h.at_, ⟨by show (m.caps.map capD).length ≤ _; rw [List.length_map]; exact this.1, this.2⟩⟩
  · intro h
    obtain ⟨n1, n2, n3, n4, n5, n6⟩ := h.nums
    obtain ⟨l1, l2⟩ := h.lens
    refine ⟨n1, n2, n3, n4, n5, n6, fun s hs => h.caps (capD s) (List.mem_map.2 ⟨s, hs, rfl⟩), h.gone, h.nets, AtL.in_d.2 h.at_, ⟨?_, l2⟩⟩
    have : (m.caps.map capD).length ≤ 9223372036854775807 := l1
    rwa [List.length_map] at this
theorem zeroM_in {k : Int} (h : I64 k) : (MsL.zero k).In := ⟨h, zero_i, zero_i, zero_u, zero_i, zero_i, (fun c hc => by cases hc), (fun c hc => by cases hc), (fun c hc => by cases hc), AtL.zero_in, ⟨Nat.zero_le _, Nat.zero_le _, Nat.zero_le _, Nat.zero_le _⟩⟩
theorem flatMap_len {α : Type} {enc : α → List Value} {s : Nat} (hs : ∀ x, (enc x).length = s) : ∀ xs : List α, (xs.flatMap enc).length = xs.length * s
  | [] => by simp
  | x :: xs => by rw [List.flatMap_cons, List.length_append, hs, flatMap_len hs xs, List.length_cons, Nat.add_mul, Nat.one_mul]; omega
theorem flatMap_seg {α : Type} {enc : α → List Value} {s : Nat} (hs : ∀ x, (enc x).length = s) : ∀ (xs : List α) (i : Nat) (x : α), xs[i]? = some x → ((xs.flatMap enc).drop (i * s)).take s = enc x
  | [], _, _, h => by simp at h
  | y :: xs, 0, x, h => by
    simp only [List.getElem?_cons_zero, Option.some.injEq] at h
    subst h
    rw [List.flatMap_cons, Nat.zero_mul, List.drop_zero, List.take_left' (hs y)]
  | y :: xs, i + 1, x, h => by
    rw [List.getElem?_cons_succ] at h
    rw [List.flatMap_cons, Nat.add_mul, Nat.one_mul, Nat.add_comm, ← List.drop_drop, List.drop_left' (hs y)]
    exact flatMap_seg hs xs i x h
/-- Elements whose block is there. -/
theorem cells_of {s k c : Nat} {ad : Option Addr} {α : Type} {enc : α → List Value} {xs : List α} {w : World} {E : List Ent} (hV : Vec s ad k c (xs.flatMap enc) E) (hs : ∀ x, (enc x).length = s) (hs0 : 0 < s) (hw : ∀ e ∈ E, e.holds w) : RowsAt w ad s enc xs := fun i x hi => by
  have hl := flatMap_seg hs xs i x hi
  have h0 : 0 < (xs.flatMap enc).length := by
    have := (List.getElem?_eq_some_iff.1 hi).1
    rw [flatMap_len hs]
    exact Nat.mul_pos (by omega) hs0
  rcases hV with ⟨_, _, _, h, _⟩ | ⟨g, cs, rfl, rfl, hx, _, _⟩
  · rw [h] at h0; exact absurd h0 (Nat.lt_irrefl 0)
  · refine ⟨g, 0, rfl, fun j v hj => ?_⟩
    have hR : Row w g cs := hw (.row g cs) (List.mem_cons_self ..)
    have hjl := (List.getElem?_eq_some_iff.1 hj).1
    have h1 : (xs.flatMap enc)[i * s + j]? = some v := by
      rw [← hj, ← hl, List.getElem?_take, if_pos (by rw [hs] at hjl; exact hjl), List.getElem?_drop]
    rw [← hx, List.getElem?_take] at h1
    split at h1
    · rw [show (0 + i * s + j) = i * s + j by omega]; exact hR.cell h1
    · cases h1
end Go.Proofs.YtpjbofodllhjbaaDoor
/- stream: the document's example; StreamStops. -/
namespace Go.Proofs.YtpjbofodllhjbaaDoor
open Go.RowKit

theorem Vec.src2 {s k c : Nat} {ad : Option Addr} {xs : List Value} {E : List Ent} (hV : Vec s ad k c xs E) (h0 : 0 < xs.length) : ∃ b o, ad = some ⟨b, o, none⟩ ∧ ∀ w, (∀ e ∈ E, e.holds w) → w.rangeAt b o xs := by
  rcases hV with ⟨_, _, _, rfl, _⟩ | ⟨g, cs, rfl, rfl, hx, _, _⟩
  · simp at h0
  · refine ⟨g, 0, rfl, fun w hw j v hj => ?_⟩
    have hR : Row w g cs := hw (.row g cs) (List.mem_cons_self ..)
    rw [← hx, List.getElem?_take] at hj
    split at hj
    · rw [Nat.zero_add]; exact hR.cell hj
    · cases hj
end Go.Proofs.YtpjbofodllhjbaaDoor
/- stream: slices of bytes that begin anywhere in their block, and grow; a Queue. -/
namespace Go.Proofs.YtpjbofodllhjbaaDoor
open Go.RowKit

/-- A slice of bytes of one's own, wherever it begins in its block. -/
def VecO (ad : Option Addr) (c : Nat) (xs : List Int) (E : List Ent) : Prop :=
  (ad = none ∧ c = 0 ∧ xs = [] ∧ E = []) ∨ ∃ g o cs, ad = some ⟨g, o, none⟩ ∧ E = [.row g cs] ∧ xs.length ≤ c ∧ o + c ≤ cs.length ∧ ∀ i v, (u8s xs)[i]? = some v → cs[o + i]? = some v
theorem VecO.nil : VecO none 0 [] [] := .inl ⟨rfl, rfl, rfl, rfl⟩
theorem VecO.of {ad : Option Addr} {c : Nat} {xs : List Int} {E : List Ent} (h : BV ad c xs E) : VecO ad c xs E := by
  rcases h with ⟨ha, hn, hc, _, hE⟩ | ⟨g, cs, ha, hE, hx, hl, hk⟩
  · exact .inl ⟨ha, hc, List.length_eq_zero_iff.1 hn, hE⟩
  · refine .inr ⟨g, 0, cs, ha, hE, hk, by omega, fun i v hi => ?_⟩
    rw [Nat.zero_add]
    rw [← hx, List.getElem?_take] at hi
    split at hi
    · exact hi
    · cases hi
theorem VecO.len {ad : Option Addr} {c : Nat} {xs : List Int} {E : List Ent} (h : VecO ad c xs E) : xs.length ≤ c := by
  rcases h with ⟨_, rfl, rfl, _⟩ | ⟨_, _, _, _, _, h, _⟩
  · exact Nat.le_refl _
  · exact h
theorem VecO.range {ad : Option Addr} {c : Nat} {xs : List Int} {E : List Ent} (h : VecO ad c xs E) {w : World} (hw : ∀ e ∈ E, e.holds w) : CellsAt w ad (u8s xs) := fun h0 => by
  rcases h with ⟨_, _, rfl, _⟩ | ⟨g, o, cs, rfl, rfl, _, _, hx⟩
  · exact absurd h0 (Nat.lt_irrefl 0)
  · refine ⟨g, o, rfl, fun j v hj => ?_⟩
    have hR : Row w g cs := hw (.row g cs) (List.mem_cons_self ..)
    exact hR.cell (hx j v hj)
theorem VecO.drop {g o c : Nat} {xs : List Int} {E : List Ent} (h : VecO (some ⟨g, o, none⟩) c xs E) (k : Nat) (hk : k ≤ xs.length) : VecO (some ⟨g, sAddr o k c 1, none⟩) (c - k) (xs.drop k) E := by
  rcases h with ⟨h, _⟩ | ⟨g', o', cs, e, rfl, hl, hb, hx⟩
  · cases h
  · cases e
    refine .inr ⟨g, sAddr o k c 1, cs, rfl, rfl, by rw [List.length_drop]; omega, by unfold sAddr; split <;> omega, fun i v hi => ?_⟩
    unfold sAddr
    split
    · rename_i hck
      rw [List.drop_eq_nil_of_le (by omega)] at hi
      simp [u8s] at hi
    · have := hx (k + i) v (by rw [← hi]; unfold u8s; rw [List.getElem?_map, List.getElem?_map, List.getElem?_drop])
      rw [Nat.mul_one, Nat.add_assoc]; exact this
theorem VecO.ad {ad : Option Addr} {c : Nat} {xs : List Int} {E : List Ent} (h : VecO ad c xs E) : ad = none ∨ ∃ b o, ad = some ⟨b, o, none⟩ := by
  rcases h with ⟨h, _⟩ | ⟨g, o, _, h, _⟩
  · exact .inl h
  · exact .inr ⟨g, o, h⟩
theorem View.take {E : List Ent} {aa : Option Addr} {c : Nat} {ys : List Int} (h : View E aa c ys) (k : Nat) : View E aa c (ys.take k) := by
  refine ⟨by rw [List.length_take]; have := h.le; omega, fun x hx => h.bys x (List.mem_of_mem_take hx), ?_⟩
  rcases h.at_ with ⟨h1, h2, h3⟩ | ⟨b, o, rfl, hr⟩
  · exact .inl ⟨h1, h2, by rw [h3]; simp⟩
  · exact .inr ⟨b, o, rfl, fun w hw => ((h.win hw).take k).at_⟩
section
variable {P : Program} {ops : Array Oper} {Q : Exit → Act → World → Prop} {n : Nat} {p : Nat → Prop} {w0 : World} {o : Oper} {rest : List Oper} {l : Kn} {E L0 : List Ent}
end
/-- A Queue. -/
structure QuL where
  ad : Option Addr
  cap : Nat
  wait : List Int
  most : Int
def QuL.cells (q : QuL) : List Value := [.slice q.ad q.wait.length q.cap, .int .i64 q.most]
end Go.Proofs.YtpjbofodllhjbaaDoor
/- stream: StreamQueues. -/
namespace Go.Proofs.YtpjbofodllhjbaaDoor
open Go.RowKit

structure OpL where
  k : Int
  ad : Option Addr
  cap : Nat
  val : List Int
  n : Int
def OpL.cells (o : OpL) : List Value := [.int .i64 o.k, .slice o.ad o.val.length o.cap, .int .i64 o.n]
structure QS where
  ws : List Int
  qa : Option Addr
  qc : Nat
  Eq : List Ent
  aa : Option Addr
  ac : Nat
  Ea : List Ent
/-- How the queue and the list stand to each other. -/
structure QI (y : QS) (most : Int) (k : Nat) : Prop where
  q : VecO y.qa y.qc y.ws y.Eq
  a : VecO y.aa y.ac y.ws y.Ea
  bys : Bys y.ws
  len : y.ws.length ≤ 300 * k
  fit : (y.ws.length : Int) ≤ most
theorem QI.mono {y : QS} {most : Int} {k k' : Nat} (h : QI y most k) (hk : k ≤ k') : QI y most k' := ⟨h.q, h.a, h.bys, by have := h.len; omega, h.fit⟩
theorem St.mid {p : Nat → Prop} {w0 w : World} {A R L : List Ent} {x : Ent} (h : St p w0 w (A ++ (R ++ (x :: L)))) : St p w0 w (R ++ (x :: (A ++ L))) := by
  have := St.front (R := R ++ [x]) (L := L) A (by simpa only [List.cons_append, List.append_assoc, List.nil_append] using h)
  simpa only [List.cons_append, List.append_assoc, List.nil_append] using this
end Go.Proofs.YtpjbofodllhjbaaDoor
/- stream: StreamSends. -/
namespace Go.Proofs.YtpjbofodllhjbaaDoor
open Go.RowKit

end Go.Proofs.YtpjbofodllhjbaaDoor
/- stream: StreamWrites. -/
namespace Go.Proofs.YtpjbofodllhjbaaDoor
open Go.RowKit

theorem AtAll.at_ {K : List Ent} {a : AtL} (h : AtAll K a) {w : World} (hw : ∀ e ∈ K, e.holds w) : a.At w := by
  obtain ⟨⟨⟨E1, v1, m1⟩, h2, ⟨E3, v3, m3⟩⟩, ⟨E4, v4, m4⟩, h5⟩ := h
  refine ⟨cells_of (enc := SegL.cells) v1 (fun _ => rfl) (by omega) fun e he => hw e (m1 e he), fun s hs => ?_, ?_, cells_of (enc := OthL.cells) v4 (fun _ => rfl) (by omega) fun e he => hw e (m4 e he), fun o ho => ?_⟩
  · obtain ⟨E, v, m⟩ := h2 s hs
    intro h0
    obtain ⟨b, o, e, hr⟩ := v.src2 h0
    exact ⟨b, o, e, hr w fun e he => hw e (m e he)⟩
  · intro h0
    obtain ⟨b, o, e, hr⟩ := v3.src2 h0
    exact ⟨b, o, e, hr w fun e he => hw e (m3 e he)⟩
  · obtain ⟨E, v, m⟩ := h5 o ho
    intro h0
    obtain ⟨b, o, e, hr⟩ := v.src2 h0
    exact ⟨b, o, e, hr w fun e he => hw e (m e he)⟩
theorem MsAll.at {K : List Ent} {m : MsL} (h : MsAll K m) {w : World} (hw : ∀ e ∈ K, e.holds w) : m.At w := by
  obtain ⟨⟨E1, v1, m1⟩, h2, ⟨E3, v3, m3⟩, ⟨E4, v4, m4⟩, h5⟩ := h
  refine ⟨cells_of (enc := CapL.cells) v1 (fun _ => rfl) (by omega) fun e he => hw e (m1 e he), fun s hs => ?_, cells_of (enc := PfL.cells) v3 (fun _ => rfl) (by omega) fun e he => hw e (m3 e he), cells_of (enc := PfL.cells) v4 (fun _ => rfl) (by omega) fun e he => hw e (m4 e he), h5.at_ hw⟩
  obtain ⟨E, v, m⟩ := h2 s hs
  intro h0
  obtain ⟨b, o, e, hr⟩ := v.src2 h0
  exact ⟨b, o, e, hr w fun e he => hw e (m e he)⟩
end Go.Proofs.YtpjbofodllhjbaaDoor
/- The engine: a region that draws its order: what reads only what nobody in the region writes is taken first, although calls come between (the kit's held orders). -/
namespace Go.Proofs.YtpjbofodllhjbaaDoor
open Go.RowKit

section
variable {P : Program} {ops : Array Oper} {Q : Exit → Act → World → Prop} {n : Nat} {p : Nat → Prop} {w0 : World} {o : Oper} {rest os : List Oper} {l : Kn} {L L0 : List Ent} {K : Act → World → Prop}
/-- What is left of the region, as what follows. -/
def RestH (P : Program) (os : List Oper) (Q : Exit → Act → World → Prop) (p : Nat → Prop) (w0 : World) (L0 : List Ent) (g : Nat) (listed : Array Bool) : Act → World → Prop := fun a w => wpAnyH P .any os.toArray (NP Q) (fun w => St p w0 w L0) g listed a w
/-- What is left of a region, of which these are done; the blocks L0 stay as they are. -/
def WRH (P : Program) (os : List Oper) (Q : Exit → Act → World → Prop) (n : Nat) (p : Nat → Prop) (w0 : World) (L0 : List Ent) (g : Nat) (listed : Array Bool) (l : Kn) (L : List Ent) : Prop :=
  ∀ a w, Has n a l → St p w0 w L → RestH P os Q p w0 L0 g listed a w
theorem WC.held {id : Nat} (L0 : List Ent) (hm : P.follows .mixedOrders = true) (h : WRH P os Q n p w0 L0 os.length (Array.replicate os.length false) l L) : WC P (.region id os.toArray true) Q n p w0 l L := fun a w ha hS =>
  Code.wp_mono NP.imp (wp_region_held (S := fun w => St p w0 w L0) hm (by have h1 := h a w.drew ha hS.drew; unfold RestH at h1; simpa using h1))
def wpHeld (P : Program) (ops : Array Oper) (S : World → Prop) (K : Act → Prop) : List Oper → Act → Prop
  | [], a => K a
  | o :: rest, a => ∃ v, YieldsIf P ops S o v a ∧ wpHeld P ops S K rest (a.put o.dst v)
def WH (P : Program) (ops : Array Oper) (K : Act → World → Prop) (n : Nat) (p : Nat → Prop) (w0 : World) (L0 : List Ent) (rest : List Oper) (l : Kn) (L : List Ent) : Prop :=
  ∀ a, Has n a l → wpHeld P ops (fun w => St p w0 w L0) (fun a' => ∀ w, St p w0 w L → K a' w) rest a
theorem anyH_of_held {K : Act → Prop} {S : World → Prop} {w : World} {g : Nat} (hsel : Region.noSelect os.toArray = true) (hw : S w) : ∀ (js : List Nat) (listed : Array Bool) (a : Act), takesB .any os.toArray js listed = true →
    wpHeld P os.toArray S K (js.map (at_ os)) a → (∀ a, K a → wpAnyH P .any os.toArray (NP Q) S g (marks listed js) a w) → wpAnyH P .any os.toArray (NP Q) S (js.length + g) listed a w
  | [], listed, a, _, h, hK => by simpa [marks] using hK a h
  | i :: is, listed, a, hB, h, hK => by
    simp only [takesB, Bool.and_eq_true] at hB
    obtain ⟨⟨hr, hf⟩, hB'⟩ := hB
    obtain ⟨v, hy, h'⟩ := h
    have hr' : i ∈ Region.ready .any os.toArray listed := by simpa using hr
    rw [List.length_cons, show is.length + 1 + g = (is.length + g) + 1 by omega]
    exact wpAnyH_take (at_some hr') hsel hf hr (fun c a w hh => hh) hy hw (anyH_of_held hsel hw is _ _ hB' h' hK)
theorem WRH.first {listed : Array Bool} {g : Nat} (js : List Nat) (hsel : Region.noSelect os.toArray = true) (hB : takesB .any os.toArray js listed = true) (keep : ∀ w, St p w0 w L → St p w0 w L0)
    (h : WH P os.toArray (RestH P os Q p w0 L0 g (marks listed js)) n p w0 L0 (js.map (at_ os)) l L) : WRH P os Q n p w0 L0 (js.length + g) listed l L := fun a w ha hS =>
  anyH_of_held (K := fun a' => ∀ w, St p w0 w L → RestH P os Q p w0 L0 g (marks listed js) a' w) hsel (keep w hS) js listed a hB (h a ha) (fun _ h => h w hS)
theorem WRH.each {g : Nat} {listed : Array Bool} (rs : List Nat) (hr : Region.ready .any os.toArray listed = rs) (hne : rs ≠ [])
    (h : AllOf (fun i => WL P os.toArray (RQ (fun a' w' => St p w0 w' L0 ∧ RestH P os Q p w0 L0 g (listed.setIfInBounds i true) a' w') (NP Q)) n p w0 [at_ os i] l L) rs) : WRH P os Q n p w0 L0 (g + 1) listed l L := fun a w ha hS => by
  refine wpAnyH_all hr hne fun i hi => ?_
  have ho := at_some (listed := listed) (i := i) (by rw [hr]; exact hi)
  have h' : wpList P os.toArray (RQ (fun a' w' => St p w0 w' L0 ∧ RestH P os Q p w0 L0 g (listed.setIfInBounds i true) a' w') (NP Q)) [at_ os i] a w := h.get i hi a w ha hS
  unfold wpOp
  simp only [ho]
  unfold wpList at h'
  split
  · rename_i hwd
    rw [if_pos hwd] at h'
    exact (h'.imp wpRQ (fun h => ⟨h.1, RQ.out h.2⟩)).imp (Oper.wp_mono fun a' w' h => h) id
  · rename_i hwd
    rw [if_neg hwd] at h'
    exact h'
theorem WRH.one {g : Nat} {listed : Array Bool} (i : Nat) (hr : Region.ready .any os.toArray listed = [i])
    (h : WL P os.toArray (RQ (fun a' w' => St p w0 w' L0 ∧ RestH P os Q p w0 L0 g (listed.setIfInBounds i true) a' w') (NP Q)) n p w0 [at_ os i] l L) : WRH P os Q n p w0 L0 (g + 1) listed l L :=
  WRH.each [i] hr (by simp) h
theorem WRH.done {listed : Array Bool} (hB : Region.ready .any os.toArray listed = []) (h : WE Q .normal n p w0 l L) : WRH P os Q n p w0 L0 0 listed l L := fun a w ha hS => ⟨hB, h a w ha hS⟩
theorem WH.nil {listed : Array Bool} {g : Nat} (h : WRH P os Q n p w0 L0 g listed l L) : WH P os.toArray (RestH P os Q p w0 L0 g listed) n p w0 L0 [] l L := fun a ha w hS => h a w ha hS
theorem WL.nilH {listed : Array Bool} {g : Nat} (keep : ∀ w, St p w0 w L → St p w0 w L0) (h : WRH P os Q n p w0 L0 g listed l L) : WL P os.toArray (RQ (fun a' w' => St p w0 w' L0 ∧ RestH P os Q p w0 L0 g listed a' w') (NP Q)) n p w0 [] l L := fun a w ha hS => ⟨keep w hS, h a w ha hS⟩
theorem WH.val {d : Nat} {v : Value} (hv : Val P (fun w => St p w0 w L0) n l o v) (hg : On ops o l) (hd : o.dst = some d) (hn : Nat.blt d n = true)
    (h : WH P ops K n p w0 L0 rest ((d, v) :: l) L) : WH P ops K n p w0 L0 (o :: rest) l L := fun a ha =>
  ⟨v, .inl ⟨hg.ok ha, fun w hw => hv a w ha hw⟩, h _ (ha.put_any hd hn v)⟩
theorem WH.skip {j dj d : Nat} {b : Bool} {v : Value} (hg : o.guard = some (j, b)) (hj : (ops[j]?).bind (·.dst) = some dj) (hl : look l dj = some v) (hv : isB v b = false) (hd : o.dst = some d) (hn : Nat.blt d n = true)
    (h : WH P ops K n p w0 L0 rest ((d, undef) :: l) L) : WH P ops K n p w0 L0 (o :: rest) l L := fun a ha =>
  ⟨undef, .inr ⟨by rw [wanted_not hg hj ha hl hv], rfl⟩, h _ (ha.put_any hd hn _)⟩
theorem WH.test {q : Prop} [Decidable q] {d : Nat} (hv : Val P (fun w => St p w0 w L0) n l o (.bool (decide q))) (hg : On ops o l) (hd : o.dst = some d) (hn : Nat.blt d n = true)
    (ht : q → WH P ops K n p w0 L0 rest ((d, .bool true) :: l) L) (hf : ¬ q → WH P ops K n p w0 L0 rest ((d, .bool false) :: l) L) : WH P ops K n p w0 L0 (o :: rest) l L := by
  by_cases hq : q
  · exact WH.val hv hg hd hn (by rw [decide_eq_true hq]; exact ht hq)
  · exact WH.val hv hg hd hn (by rw [decide_eq_false hq]; exact hf hq)
end
end Go.Proofs.YtpjbofodllhjbaaDoor
/- carrefourlaw07.Plain: a message as the reference has it. -/
namespace Go.Proofs.YtpjbofodllhjbaaDoor
open Go.RowKit

/-- Attributes, a message, as the reference has them. -/
def AtL.rcells (a : AtL) : List Value := [.int .i64 a.has, .int .i64 a.origin, .slice a.pad a.path.length a.pc, .int .i64 a.hop, .int .i64 a.med, .int .i64 a.loc, .int .i64 a.aas, .int .i64 a.aid, .slice a.cad a.comms.length a.cc, .slice a.oad a.others.length a.oc]
def MsL.rcells (m : MsL) : List Value := [.int .i64 m.kind, .int .i64 m.asn, .int .i64 m.hold, .int .u32 m.id, .slice m.kad m.caps.length m.kc, .slice m.gad m.gone.length m.gc, .int .i64 m.atr.has, .int .i64 m.atr.origin, .slice m.atr.pad m.atr.path.length m.atr.pc, .int .i64 m.atr.hop, .int .i64 m.atr.med, .int .i64 m.atr.loc, .int .i64 m.atr.aas, .int .i64 m.atr.aid, .slice m.atr.cad m.atr.comms.length m.atr.cc, .slice m.atr.oad m.atr.others.length m.atr.oc, .slice m.nad m.nets.length m.nc, .int .i64 m.fc, .int .i64 m.fs, .string m.fd]
set_option maxHeartbeats 1000000 in
theorem prefixes_c (w : World) (a : Option Addr) (c : Nat) (ps : List PfL) (hR : RowsAt w a 2 PfL.cells ps) (hn : ps.length ≤ 1000000) :
    Calls Tryd.prog 48 #[.slice a ps.length c] w fun e w' => ∃ ad cc E, e = .returned (.slice ad ps.length cc) ∧ Vec 2 ad ps.length cc (pfsL ps) E ∧ St (fun _ => False) w w' E := by
  refine enter Tryd.func48 rfl Tryd.ntmps48 rfl (St.start (fun _ => False) w) ?_
  refine WC.seq ?_
  refine WC.region ?_
  refine WL.val (v_assign rfl rfl) (.none rfl) rfl rfl ?_
  refine WL.nil ?_
  refine WE.then_n ?_
  refine WC.seq ?_
  refine WC.region ?_
  refine WL.buildSlice rfl rfl Tryd.underlying47 sz_132 zero_132 rfl (by decide) rfl (.none rfl) rfl rfl ?_
  intro g6 hg6
  refine WL.val (v_assign rfl rfl) (.none rfl) rfl rfl ?_
  refine WL.nil ?_
  refine WE.then_n ?_
  refine WC.seq ?_
  refine WC.seq ?_
  refine WC.region ?_
  refine WL.val (v_move rfl rfl) (.none rfl) rfl rfl ?_
  refine WL.val (v_len_slice rfl rfl Tryd.underlying36) (.none rfl) rfl rfl ?_
  refine WL.val (v_move rfl rfl) (.none rfl) rfl rfl ?_
  refine WL.nil ?_
  refine WE.then_n ?_
  refine WC.block ?_
  refine WC.loop (fun x : Nat × Option Addr × Nat × List Ent => [(9, .int .i64 x.1), (8, .int .i64 ps.length), (7, .slice a ps.length c), (3, .slice x.2.1 (ps.take x.1).length x.2.2.1)]) (fun x => x.2.2.2 ++ []) (fun x => x.1 ≤ ps.length ∧ Vec 2 x.2.1 (ps.take x.1).length x.2.2.1 (pfsL (ps.take x.1)) x.2.2.2) (fun x => ps.length - x.1) (0, some ⟨g6, 0, none⟩, 0, [.row g6 []]) ⟨Nat.zero_le _, Vec.row (k := 0) rfl rfl (Nat.le_refl _)⟩ (.cons rfl (.cons rfl (.cons rfl (.cons rfl .nil)))) (.refl _) ?_
  rintro ⟨k, ad, cc, E⟩ ⟨hk, hV⟩
  dsimp only at hk hV
  dsimp only
  refine WC.seq ?_
  refine WC.region ?_
  refine WL.test (v_lss rfl rfl rfl) (.none rfl) rfl rfl (fun h10 => ?_) (fun h10 => ?_)
  ·
   refine WL.nil ?_
   refine WE.then_n ?_
   refine WC.seq ?_
   refine WC.cond_t rfl ?_
   refine WC.skip ?_
   refine WE.then_n ?_
   refine WC.seq ?_
   refine WC.block ?_
   refine WC.seq ?_
   refine WC.region ?_
   obtain ⟨x, hx⟩ : ∃ x, ps[k]? = some x := ⟨ps[k]'(by omega), List.getElem?_eq_getElem _⟩
   obtain ⟨b, o, ea, hr⟩ := hR k x hx
   have htl : (ps.take k).length = k := (by rw [List.length_take]; omega)
   have hts := take_succ_get hx
   refine WL.val ((v_indexAddr (b := b) (off := o) (lo := k) rfl (by show some (Value.slice a _ _) = _; rw [ea]) rfl Tryd.underlying36 sz_65 rfl (by omega))) (.none rfl) rfl rfl ?_
   refine WL.val ((v_loadN (cs := x.cells) rfl rfl many_65 rfl (rgIn (fun h => h) hr))) (.none rfl) rfl rfl ?_
   refine WL.alloc rfl zero_65 (.none rfl) rfl rfl ?_
   intro g5 hg5
   refine WL.storeW rfl rfl rfl rfl many_65 rfl rfl (.none rfl) rfl ?_
   refine WL.nil ?_
   refine WE.then_n ?_
   refine WC.region ?_
   refine WL.val (v_move rfl rfl) (.none rfl) rfl rfl ?_
   refine WL.val (v_fieldAddr0 rfl rfl fld_65_0) (.none rfl) rfl rfl ?_
   refine WL.val (v_load1 rfl rfl one_34 (cellAt rfl)) (.none rfl) rfl rfl ?_
   refine WL.val (v_fieldAddr0 rfl rfl fld_65_1) (.none rfl) rfl rfl ?_
   refine WL.val (v_load1 rfl rfl one_3 (cellAt rfl)) (.none rfl) rfl rfl ?_
   refine WL.val (v_build rfl rfl zero_132 plc_132 rfl) (.none rfl) rfl rfl ?_
   refine WL.buildSlice rfl rfl Tryd.underlying47 sz_132 zero_132 rfl (by decide) rfl (.none rfl) rfl rfl ?_
   intro g19 hg19
   refine WL.as (L' := .row g19 x.cells :: .row g5 x.cells :: (E ++ [])) rfl ?_
   refine WL.to (L' := E ++ [.row g19 x.cells, .row g5 x.cells]) (fun w hS => by simpa using St.front (R := E) (L := []) [.row g19 x.cells, .row g5 x.cells] hS) ?_
   refine WL.appendL rfl rfl rfl Tryd.underlying47 Tryd.underlying47 sz_132 by_132 zero_132 rfl rfl hV (new := x.cells) (fun _ => ⟨g19, 0, rfl, fun w hS => allAt (g := g19) w hS⟩) rfl rfl (by omega) (.none rfl) rfl rfl ?_
   intro ad20 c20 E20 hV20 hr20
   rw [← pfsL_snoc, ← hts] at hV20
   rw [show (ps.take k).length + 1 = (ps.take (k + 1)).length by rw [hts, List.length_append]; rfl] at hV20 ⊢
   refine WL.val (v_assign rfl rfl) (.none rfl) rfl rfl ?_
   refine WL.nil ?_
   refine WE.block_n ?_
   refine WE.then_n ?_
   refine WC.region ?_
   refine WL.val (v_add rfl rfl rfl (w_i64 (by omega) (by omega))) (.none rfl) rfl rfl ?_
   refine WL.val (v_move rfl rfl) (.none rfl) rfl rfl ?_
   refine WL.nil ?_
   exact WE.next (k + 1, ad20, c20, E20) (by dsimp only; omega) ⟨by dsimp only; omega, hV20⟩ (.int rfl (by dsimp only; omega) (.cons rfl (.cons rfl (.cons rfl .nil)))) (List.Sublist.append_left (List.nil_sublist _) _)
  ·
   refine WL.nil ?_
   refine WE.then_n ?_
   refine WC.seq ?_
   refine WC.cond_f rfl ?_
   refine WC.exit ?_
   refine WE.then_exit ?_
   refine WE.then_exit ?_
   refine WE.block_hit ?_
   refine WE.then_n ?_
   refine WC.seq ?_
   refine WC.region ?_
   refine WL.val (v_move rfl rfl) (.none rfl) rfl rfl ?_
   refine WL.val (v_assign rfl rfl) (.none rfl) rfl rfl ?_
   refine WL.nil ?_
   refine WE.then_n ?_
   refine WC.ret ?_
   refine WE.ret1 (P := Tryd.prog) (.inl rfl) Tryd.results48 rfl ?_
   have ek : k = ps.length := (by omega)
   rw [ek, List.take_length] at hV ⊢
   exact fun w' h => ⟨ad, cc, E, rfl, hV, h.sub (List.sublist_append_left _ _)⟩
end Go.Proofs.YtpjbofodllhjbaaDoor
/- The reference's small functions: num, in, hop. -/
namespace Go.Proofs.YtpjbofodllhjbaaDoor
open Go.RowKit

set_option maxHeartbeats 1000000 in
theorem RNum_c (w : World) (b o c : Nat) (ys : List Int) (hW : Win w b o c ys) (hn : ys.length ≤ 6) :
    Calls Tryd.prog 65 #[.slice (some ⟨b, o, none⟩) ys.length c] w fun e w' => e = .returned (.int .i64 (readI ys)) ∧ Frm (fun _ => False) w w' := by
  refine enter Tryd.func65 rfl Tryd.ntmps65 rfl (St.start (fun _ => False) w) ?_
  refine WC.seq ?_
  refine WC.region ?_
  refine WL.val (v_assign rfl rfl) (.none rfl) rfl rfl ?_
  refine WL.nil ?_
  refine WE.then_n ?_
  refine WC.seq ?_
  refine WC.region ?_
  refine WL.val (v_assign rfl rfl) (.none rfl) rfl rfl ?_
  refine WL.nil ?_
  refine WE.then_n ?_
  refine WC.seq ?_
  refine WC.seq ?_
  refine WC.region ?_
  refine WL.val (v_move rfl rfl) (.none rfl) rfl rfl ?_
  refine WL.val (v_len_slice rfl rfl Tryd.underlying22) (.none rfl) rfl rfl ?_
  refine WL.val (v_move rfl rfl) (.none rfl) rfl rfl ?_
  refine WL.nil ?_
  refine WE.then_n ?_
  refine WC.block ?_
  refine WC.loop (fun k : Nat => [(8, .int .i64 k), (7, .int .i64 ys.length), (6, .slice (some ⟨b, o, none⟩) ys.length c), (3, .int .i64 (readI (ys.take k)))]) (fun _ => []) (fun k => k ≤ ys.length) (fun k => ys.length - k) 0 (Nat.zero_le _) (.cons rfl (.cons rfl (.cons rfl (.cons rfl .nil)))) (.refl _) ?_
  intro k hk
  refine WC.seq ?_
  refine WC.region ?_
  refine WL.test (v_lss rfl rfl rfl) (.none rfl) rfl rfl (fun h9 => ?_) (fun h9 => ?_)
  ·
   refine WL.nil ?_
   refine WE.then_n ?_
   refine WC.seq ?_
   refine WC.cond_t rfl ?_
   refine WC.skip ?_
   refine WE.then_n ?_
   refine WC.seq ?_
   refine WC.block ?_
   refine WC.seq ?_
   refine WC.region ?_
   obtain ⟨x, hx⟩ : ∃ x, ys[k]? = some x := ⟨ys[k]'(by omega), List.getElem?_eq_getElem _⟩
   have hxb := hW.bys x (List.mem_of_getElem? hx)
   have htl : (ys.take k).length = k := (by rw [List.length_take]; exact Nat.min_eq_left (by omega))
   have hrb := readI_b k (ys.take k) htl (fun x hx => hW.bys x (List.mem_of_mem_take hx))
   have hp : (256 : Int) ^ k ≤ 256 ^ 5 := (by
     have : k = 0 ∨ k = 1 ∨ k = 2 ∨ k = 3 ∨ k = 4 ∨ k = 5 := by omega
     rcases this with rfl | rfl | rfl | rfl | rfl | rfl <;> decide)
   have hp5 : (256 : Int) ^ 5 = 1099511627776 := (by decide)
   refine WL.val (v_indexAddr (lo := k) rfl rfl rfl Tryd.underlying22 sz_5 (by omega) (by omega)) (.none rfl) rfl rfl ?_
   refine WL.val (v_load1 rfl rfl one_5 (cellOld (fun h => h) (hW.get hx))) (.none rfl) rfl rfl ?_
   refine WL.val (v_assign rfl rfl) (.none rfl) rfl rfl ?_
   refine WL.nil ?_
   refine WE.then_n ?_
   refine WC.region ?_
   refine WL.val (v_move rfl rfl) (.none rfl) rfl rfl ?_
   refine WL.val (v_mul rfl rfl rfl (w_i64 (by omega) (by omega))) (.none rfl) rfl rfl ?_
   refine WL.val (v_move rfl rfl) (.none rfl) rfl rfl ?_
   refine WL.val (v_conv rfl rfl Tryd.underlying3 Tryd.underlying5 (w_i64 (by omega) (by omega))) (.none rfl) rfl rfl ?_
   refine WL.val (v_add rfl rfl rfl (show _ = readI (ys.take (k + 1)) from (w_i64 (by omega) (by omega)).trans (by rw [take_succ_get hx, readI_snoc]))) (.none rfl) rfl rfl ?_
   refine WL.val (v_assign rfl rfl) (.none rfl) rfl rfl ?_
   refine WL.nil ?_
   refine WE.block_n ?_
   refine WE.then_n ?_
   refine WC.region ?_
   refine WL.val (v_add rfl rfl rfl (w_i64 (by omega) (by omega))) (.none rfl) rfl rfl ?_
   refine WL.val (v_move rfl rfl) (.none rfl) rfl rfl ?_
   refine WL.nil ?_
   exact WE.next (k + 1) (by omega) (by omega) (.int rfl (by omega) (.cons rfl (.cons rfl (.cons rfl .nil)))) (.refl _)
  ·
   refine WL.nil ?_
   refine WE.then_n ?_
   refine WC.seq ?_
   refine WC.cond_f rfl ?_
   refine WC.exit ?_
   refine WE.then_exit ?_
   refine WE.then_exit ?_
   refine WE.block_hit ?_
   refine WE.then_n ?_
   refine WC.seq ?_
   refine WC.region ?_
   refine WL.val (v_move rfl rfl) (.none rfl) rfl rfl ?_
   refine WL.val (v_assign rfl rfl) (.none rfl) rfl rfl ?_
   refine WL.nil ?_
   refine WE.then_n ?_
   refine WC.ret ?_
   refine WE.ret1 (P := Tryd.prog) (.inl rfl) Tryd.results65 rfl ?_
   obtain rfl : k = ys.length := (by omega)
   exact fun w' h => ⟨by rw [List.take_length], h.frm⟩
theorem RIn_c (w : World) (n lo hi : Int) : Calls Tryd.prog 66 #[.int .i64 n, .int .i64 lo, .int .i64 hi] w fun e w' => e = .returned (.bool (decide (lo ≤ n ∧ n ≤ hi))) ∧ Frm (fun _ => False) w w' := by
  refine enter Tryd.func66 rfl Tryd.ntmps66 rfl (St.start (fun _ => False) w) ?_
  refine WC.seq ?_
  refine WC.region ?_
  refine WL.val (v_assign rfl rfl) (.none rfl) rfl rfl ?_
  refine WL.nil ?_
  refine WE.then_n ?_
  refine WC.seq ?_
  refine WC.region ?_
  refine WL.val (v_move rfl rfl) (.none rfl) rfl rfl ?_
  refine WL.val (v_move rfl rfl) (.none rfl) rfl rfl ?_
  refine WL.test (v_geq rfl rfl rfl) (.none rfl) rfl rfl (fun h9 => ?_) (fun h9 => ?_)
  ·
   refine WL.val (v_move rfl rfl) (.none rfl) rfl rfl ?_
   refine WL.val (v_move rfl rfl) (.some rfl rfl rfl) rfl rfl ?_
   refine WL.val (v_move rfl rfl) (.some rfl rfl rfl) rfl rfl ?_
   refine WL.test (v_leq rfl rfl rfl) (.some rfl rfl rfl) rfl rfl (fun h13 => ?_) (fun h13 => ?_)
   ·
    refine WL.val (v_pick_t rfl rfl rfl) (.none rfl) rfl rfl ?_
    refine WL.val (v_assign rfl rfl) (.none rfl) rfl rfl ?_
    refine WL.nil ?_
    refine WE.then_n ?_
    refine WC.ret ?_
    refine WE.ret1 (P := Tryd.prog) (.inl rfl) Tryd.results66 rfl ?_
    exact fun w' h => ⟨by rw [decide_eq_true (by omega)], h.frm⟩
   ·
    refine WL.val (v_pick_t rfl rfl rfl) (.none rfl) rfl rfl ?_
    refine WL.val (v_assign rfl rfl) (.none rfl) rfl rfl ?_
    refine WL.nil ?_
    refine WE.then_n ?_
    refine WC.ret ?_
    refine WE.ret1 (P := Tryd.prog) (.inl rfl) Tryd.results66 rfl ?_
    exact fun w' h => ⟨by rw [decide_eq_false (by omega)], h.frm⟩
  ·
   refine WL.val (v_move rfl rfl) (.none rfl) rfl rfl ?_
   refine WL.skip rfl rfl rfl rfl rfl rfl ?_
   refine WL.skip rfl rfl rfl rfl rfl rfl ?_
   refine WL.skip rfl rfl rfl rfl rfl rfl ?_
   refine WL.val (v_pick_f rfl rfl rfl) (.none rfl) rfl rfl ?_
   refine WL.val (v_assign rfl rfl) (.none rfl) rfl rfl ?_
   refine WL.nil ?_
   refine WE.then_n ?_
   refine WC.ret ?_
   refine WE.ret1 (P := Tryd.prog) (.inl rfl) Tryd.results66 rfl ?_
   exact fun w' h => ⟨by rw [decide_eq_false (by omega)], h.frm⟩
theorem RHop_c (w : World) (a : Int) (ha : 0 ≤ a) (ha2 : a ≤ 4294967295) : Calls Tryd.prog 68 #[.int .i64 a] w fun e w' => e = .returned (.bool (hopB a)) ∧ Frm (fun _ => False) w w' := by
  refine enter Tryd.func68 rfl Tryd.ntmps68 rfl (St.start (fun _ => False) w) ?_
  refine WC.seq ?_
  refine WC.region ?_
  refine WL.val (v_assign rfl rfl) (.none rfl) rfl rfl ?_
  refine WL.nil ?_
  refine WE.then_n ?_
  refine WC.seq ?_
  refine WC.region ?_
  refine WL.val (v_move rfl rfl) (.none rfl) rfl rfl ?_
  refine WL.val (v_quoT rfl rfl rfl (by decide) (show _ = a / 16777216 from by rw [Int.tdiv_eq_ediv_of_nonneg ha]; exact w_i64 (by omega) (by omega))) (.none rfl) rfl rfl ?_
  refine WL.val (v_assign rfl rfl) (.none rfl) rfl rfl ?_
  refine WL.nil ?_
  refine WE.then_n ?_
  refine WC.seq ?_
  refine WC.region ?_
  refine WL.val (v_move rfl rfl) (.none rfl) rfl rfl ?_
  refine WL.test (v_neq rfl rfl rfl) (.none rfl) rfl rfl (fun h7 => ?_) (fun h7 => ?_)
  ·
   refine WL.val (v_move rfl rfl) (.none rfl) rfl rfl ?_
   refine WL.val (v_move rfl rfl) (.some rfl rfl rfl) rfl rfl ?_
   refine WL.test (v_neq rfl rfl rfl) (.some rfl rfl rfl) rfl rfl (fun h10 => ?_) (fun h10 => ?_)
   ·
    refine WL.val (v_pick_t rfl rfl rfl) (.none rfl) rfl rfl ?_
    refine WL.val (v_move rfl rfl) (.none rfl) rfl rfl ?_
    refine WL.val (v_move rfl rfl) (.some rfl rfl rfl) rfl rfl ?_
    refine WL.test (v_lss rfl rfl rfl) (.some rfl rfl rfl) rfl rfl (fun h14 => ?_) (fun h14 => ?_)
    ·
     refine WL.val (v_pick_t rfl rfl rfl) (.none rfl) rfl rfl ?_
     refine WL.val (v_assign rfl rfl) (.none rfl) rfl rfl ?_
     refine WL.nil ?_
     refine WE.then_n ?_
     refine WC.ret ?_
     refine WE.ret1 (P := Tryd.prog) (.inl rfl) Tryd.results68 rfl ?_
     exact fun w' h => ⟨by unfold hopB; rw [decide_eq_true (by omega)], h.frm⟩
    ·
     refine WL.val (v_pick_t rfl rfl rfl) (.none rfl) rfl rfl ?_
     refine WL.val (v_assign rfl rfl) (.none rfl) rfl rfl ?_
     refine WL.nil ?_
     refine WE.then_n ?_
     refine WC.ret ?_
     refine WE.ret1 (P := Tryd.prog) (.inl rfl) Tryd.results68 rfl ?_
     exact fun w' h => ⟨by unfold hopB; rw [decide_eq_false (by omega)], h.frm⟩
   ·
    refine WL.val (v_pick_t rfl rfl rfl) (.none rfl) rfl rfl ?_
    refine WL.val (v_move rfl rfl) (.none rfl) rfl rfl ?_
    refine WL.skip rfl rfl rfl rfl rfl rfl ?_
    refine WL.skip rfl rfl rfl rfl rfl rfl ?_
    refine WL.val (v_pick_f rfl rfl rfl) (.none rfl) rfl rfl ?_
    refine WL.val (v_assign rfl rfl) (.none rfl) rfl rfl ?_
    refine WL.nil ?_
    refine WE.then_n ?_
    refine WC.ret ?_
    refine WE.ret1 (P := Tryd.prog) (.inl rfl) Tryd.results68 rfl ?_
    exact fun w' h => ⟨by unfold hopB; rw [decide_eq_false (by omega)], h.frm⟩
  ·
   refine WL.val (v_move rfl rfl) (.none rfl) rfl rfl ?_
   refine WL.skip rfl rfl rfl rfl rfl rfl ?_
   refine WL.skip rfl rfl rfl rfl rfl rfl ?_
   refine WL.val (v_pick_f rfl rfl rfl) (.none rfl) rfl rfl ?_
   refine WL.val (v_move rfl rfl) (.none rfl) rfl rfl ?_
   refine WL.skip rfl rfl rfl rfl rfl rfl ?_
   refine WL.skip rfl rfl rfl rfl rfl rfl ?_
   refine WL.val (v_pick_f rfl rfl rfl) (.none rfl) rfl rfl ?_
   refine WL.val (v_assign rfl rfl) (.none rfl) rfl rfl ?_
   refine WL.nil ?_
   refine WE.then_n ?_
   refine WC.ret ?_
   refine WE.ret1 (P := Tryd.prog) (.inl rfl) Tryd.results68 rfl ?_
   exact fun w' h => ⟨by unfold hopB; rw [decide_eq_false (by omega)], h.frm⟩
end Go.Proofs.YtpjbofodllhjbaaDoor
/- bgp: BgpForm walked: bytes that are no message. -/
namespace Go.Proofs.YtpjbofodllhjbaaDoor
open Go.RowKit

section
variable {P : Program} {ops : Array Oper} {Q : Exit → Act → World → Prop} {n : Nat} {p : Nat → Prop} {w0 : World} {o : Oper} {rest : List Oper} {l : Kn} {L : List Ent} {t kt et : Nat} {x xi : Operand} {K : Value → Prop} {A : Value} {es : Array MapEntry} {m : Value → Option Value}
end
end Go.Proofs.YtpjbofodllhjbaaDoor
/- carrefourlaw07.attrs. -/
namespace Go.Proofs.YtpjbofodllhjbaaDoor
open Go.RowKit

def AtL.r0 (a : AtL) (ad : Option Addr) (c : Nat) (ss : List SegL) (bd : Option Addr) (bc : Nat) (os : List OthL) : AtL := { a with pad := ad, pc := c, path := ss, oad := bd, oc := bc, others := os }
/-- The reference's routes while they are made. -/
def AtL.rc (a : AtL) (ad : Option Addr) (c n : Nat) (bd : Option Addr) (bc m : Nat) : List Value := [.int .i64 a.has, .int .i64 a.origin, .slice ad n c, .int .i64 a.hop, .int .i64 a.med, .int .i64 a.loc, .int .i64 a.aas, .int .i64 a.aid, .slice a.cad a.comms.length a.cc, .slice bd m bc]
set_option maxHeartbeats 4000000 in
theorem attrs_c (w : World) (a : AtL) (ha : a.At w) (hi : a.In) (hp : a.path.length ≤ 1000000) (ho : a.others.length ≤ 1000000) :
    Calls Tryd.prog 49 #[.agg a.cells.toArray] w fun e w' => ∃ ad c bd bc E1 E2, e = .returned (.agg (a.r0 ad c a.path bd bc a.others).rcells.toArray) ∧ Vec 2 ad a.path.length c (segsL a.path) E1 ∧ Vec 2 bd a.others.length bc (othsL a.others) E2 ∧ St (fun _ => False) w w' (E2 ++ E1) := by
  have hhop := hi.hop
  have haid := hi.aid
  unfold U32 at hhop haid
  have hlp : a.path.length ≤ 1000000 := hp
  refine enter Tryd.func49 rfl Tryd.ntmps49 rfl (St.start (fun _ => False) w) ?_
  refine WC.seq ?_
  refine WC.region ?_
  refine WL.box rfl rfl rfl (.none rfl) rfl rfl ?_
  intro g1 hg1
  refine WL.alloc rfl zero_51 (.none rfl) rfl rfl ?_
  intro g2 hg2
  refine WL.nil ?_
  refine WE.then_n ?_
  refine WC.seq ?_
  refine WC.region ?_
  refine WL.val (v_fieldAddr0 rfl rfl fld_41_0) (.none rfl) rfl rfl ?_
  refine WL.val (v_load1 rfl rfl one_3 (cellAt rfl)) (.none rfl) rfl rfl ?_
  refine WL.val (v_fieldAddr0 rfl rfl fld_41_1) (.none rfl) rfl rfl ?_
  refine WL.val (v_load1 rfl rfl one_3 (cellAt rfl)) (.none rfl) rfl rfl ?_
  refine WL.val (v_fieldAddr0 rfl rfl fld_41_3) (.none rfl) rfl rfl ?_
  refine WL.val (v_load1 rfl rfl one_34 (cellAt rfl)) (.none rfl) rfl rfl ?_
  refine WL.val (v_conv rfl rfl Tryd.underlying3 Tryd.underlying34 (w_i64 (by omega) (by omega))) (.none rfl) rfl rfl ?_
  refine WL.val (v_fieldAddr0 rfl rfl fld_41_4) (.none rfl) rfl rfl ?_
  refine WL.val (v_load1 rfl rfl one_3 (cellAt rfl)) (.none rfl) rfl rfl ?_
  refine WL.val (v_fieldAddr0 rfl rfl fld_41_5) (.none rfl) rfl rfl ?_
  refine WL.val (v_load1 rfl rfl one_3 (cellAt rfl)) (.none rfl) rfl rfl ?_
  refine WL.val (v_fieldAddr0 rfl rfl fld_41_6) (.none rfl) rfl rfl ?_
  refine WL.val (v_load1 rfl rfl one_3 (cellAt rfl)) (.none rfl) rfl rfl ?_
  refine WL.val (v_fieldAddr0 rfl rfl fld_41_7) (.none rfl) rfl rfl ?_
  refine WL.val (v_load1 rfl rfl one_34 (cellAt rfl)) (.none rfl) rfl rfl ?_
  refine WL.val (v_conv rfl rfl Tryd.underlying3 Tryd.underlying34 (w_i64 (by omega) (by omega))) (.none rfl) rfl rfl ?_
  refine WL.val (v_fieldAddr0 rfl rfl fld_41_8) (.none rfl) rfl rfl ?_
  refine WL.val (v_load1 rfl rfl one_38 (cellAt rfl)) (.none rfl) rfl rfl ?_
  refine WL.val (v_build rfl rfl zero_51 plc_51 rfl) (.none rfl) rfl rfl ?_
  refine WL.alloc rfl zero_51 (.none rfl) rfl rfl ?_
  intro g3 hg3
  refine WL.storeW rfl rfl rfl rfl many_51 rfl rfl (.none rfl) rfl ?_
  refine WL.as (L' := .row g3 (a.rc none 0 0 none 0 0) :: .row g2 AtL.zero.rcells :: .row g1 a.cells :: []) rfl ?_
  refine WL.nil ?_
  refine WE.then_n ?_
  refine WC.seq ?_
  refine WC.seq ?_
  refine WC.region ?_
  refine WL.val (v_fieldAddr0 rfl rfl fld_41_2) (.none rfl) rfl rfl ?_
  refine WL.val (v_load1 rfl rfl one_37 (cellAt rfl)) (.none rfl) rfl rfl ?_
  refine WL.val (v_len_slice rfl rfl Tryd.underlying37) (.none rfl) rfl rfl ?_
  refine WL.val (v_move rfl rfl) (.none rfl) rfl rfl ?_
  refine WL.nil ?_
  refine WE.then_n ?_
  refine WC.block ?_
  refine WC.loop (fun x : Nat × Option Addr × Nat × List Ent => [(30, .int .i64 x.1), (29, .int .i64 a.path.length), (28, .slice a.pad a.path.length a.pc), (3, .pointer (some ⟨g3, 0, none⟩)), (2, .pointer (some ⟨g2, 0, none⟩)), (1, .pointer (some ⟨g1, 0, none⟩))]) (fun x => x.2.2.2 ++ (.row g3 (a.rc x.2.1 x.2.2.1 x.1 none 0 0) :: .row g2 AtL.zero.rcells :: .row g1 a.cells :: [])) (fun x => x.1 ≤ a.path.length ∧ Vec 2 x.2.1 x.1 x.2.2.1 (segsL (a.path.take x.1)) x.2.2.2) (fun x => a.path.length - x.1) (0, none, 0, []) ⟨Nat.zero_le _, Vec.nil 2⟩ (.cons rfl (.cons rfl (.cons rfl (.cons rfl (.cons rfl (.cons rfl .nil)))))) (.refl _) ?_
  rintro ⟨k, ad, cc, E⟩ ⟨hk, hV⟩
  dsimp only at hk hV
  dsimp only
  refine WC.seq ?_
  refine WC.region ?_
  refine WL.test (v_lss rfl rfl rfl) (.none rfl) rfl rfl (fun h31 => ?_) (fun h31 => ?_)
  ·
   refine WL.nil ?_
   refine WE.then_n ?_
   refine WC.seq ?_
   refine WC.cond_t rfl ?_
   refine WC.skip ?_
   refine WE.then_n ?_
   refine WC.seq ?_
   refine WC.block ?_
   refine WC.seq ?_
   refine WC.region ?_
   obtain ⟨x, hx⟩ : ∃ x, a.path[k]? = some x := ⟨a.path[k]'(by omega), List.getElem?_eq_getElem _⟩
   obtain ⟨b, o, ea, hr⟩ := ha.path k x hx
   have hts := take_succ_get hx
   refine WL.val ((v_indexAddr (b := b) (off := o) (lo := k) rfl (by show some (Value.slice a.pad _ _) = _; rw [ea]) rfl Tryd.underlying37 sz_113 rfl (by omega))) (.none rfl) rfl rfl ?_
   refine WL.val ((v_loadN (cs := x.cells) rfl rfl many_113 rfl (rgIn (fun h => h) hr))) (.none rfl) rfl rfl ?_
   refine WL.alloc rfl zero_113 (.none rfl) rfl rfl ?_
   intro g5 hg5
   refine WL.storeW rfl rfl rfl rfl many_113 rfl rfl (.none rfl) rfl ?_
   refine WL.nil ?_
   refine WE.then_n ?_
   refine WC.region ?_
   refine WL.val (v_fieldAddr0 rfl rfl fld_51_2) (.none rfl) rfl rfl ?_
   refine WL.val (v_load1 rfl rfl one_48 (cellAt rfl)) (.none rfl) rfl rfl ?_
   refine WL.val (v_fieldAddr0 rfl rfl fld_113_0) (.none rfl) rfl rfl ?_
   refine WL.val (v_load1 rfl rfl one_4 (cellAt rfl)) (.none rfl) rfl rfl ?_
   refine WL.val (v_fieldAddr0 rfl rfl fld_113_1) (.none rfl) rfl rfl ?_
   refine WL.val (v_load1 rfl rfl one_38 (cellAt rfl)) (.none rfl) rfl rfl ?_
   refine WL.val (v_build rfl rfl zero_140 plc_140 rfl) (.none rfl) rfl rfl ?_
   refine WL.buildSlice rfl rfl Tryd.underlying48 sz_140 zero_140 rfl (by decide) rfl (.none rfl) rfl rfl ?_
   intro g41 hg41
   refine WL.as (L' := .row g41 x.cells :: .row g5 x.cells :: (E ++ (.row g3 (a.rc ad cc k none 0 0) :: .row g2 AtL.zero.rcells :: .row g1 a.cells :: []))) rfl ?_
   refine WL.to (L' := E ++ (.row g41 x.cells :: .row g5 x.cells :: .row g3 (a.rc ad cc k none 0 0) :: .row g2 AtL.zero.rcells :: .row g1 a.cells :: [])) (fun w hS => by simpa using St.front (R := E) (L := .row g3 (a.rc ad cc k none 0 0) :: .row g2 AtL.zero.rcells :: .row g1 a.cells :: []) [.row g41 x.cells, .row g5 x.cells] hS) ?_
   refine WL.appendL rfl rfl rfl Tryd.underlying48 Tryd.underlying48 sz_140 by_140 zero_140 rfl rfl hV (new := x.cells) (fun _ => ⟨g41, 0, rfl, fun w hS => allAt (g := g41) w hS⟩) rfl rfl (by omega) (.none rfl) rfl rfl ?_
   intro ad42 c42 E42 hV42 hr42
   rw [← segsL_snoc, ← hts] at hV42
   refine WL.val (v_fieldAddr0 rfl rfl fld_51_2) (.none rfl) rfl rfl ?_
   refine WL.store1 rfl rfl rfl rfl one_48 (Nat.le_of_ble_eq_true rfl) (.none rfl) rfl ?_
   refine WL.as (L' := E42 ++ (.row g41 x.cells :: .row g5 x.cells :: .row g3 (a.rc ad42 c42 (k + 1) none 0 0) :: .row g2 AtL.zero.rcells :: .row g1 a.cells :: [])) rfl ?_
   refine WL.nil ?_
   refine WE.block_n ?_
   refine WE.then_n ?_
   refine WC.region ?_
   refine WL.val (v_add rfl rfl rfl (w_i64 (by omega) (by omega))) (.none rfl) rfl rfl ?_
   refine WL.val (v_move rfl rfl) (.none rfl) rfl rfl ?_
   refine WL.nil ?_
   exact WE.next (k + 1, ad42, c42, E42) (by dsimp only; omega) ⟨by dsimp only; omega, hV42⟩ (.int rfl (by dsimp only; omega) (.cons rfl (.cons rfl (.cons rfl (.cons rfl (.cons rfl .nil)))))) (List.Sublist.append_left (.cons _ (.cons _ (.refl _))) _)
  ·
   refine WL.nil ?_
   refine WE.then_n ?_
   refine WC.seq ?_
   refine WC.cond_f rfl ?_
   refine WC.exit ?_
   refine WE.then_exit ?_
   refine WE.then_exit ?_
   refine WE.block_hit ?_
   refine WE.then_n ?_
   refine WC.seq ?_
   refine WC.seq ?_
   refine WC.region ?_
   refine WL.val (v_fieldAddr0 rfl rfl fld_41_9) (.none rfl) rfl rfl ?_
   have ek : k = a.path.length := (by omega)
   rw [ek, List.take_length] at hV
   refine WL.as (L' := E ++ (.row g3 (a.rc ad cc a.path.length none 0 0) :: .row g2 AtL.zero.rcells :: .row g1 a.cells :: [])) (by rw [ek]) ?_
   refine WL.to (L' := .row g3 (a.rc ad cc a.path.length none 0 0) :: .row g2 AtL.zero.rcells :: .row g1 a.cells :: E) (fun w hS => by simpa using St.front (R := [.row g3 (a.rc ad cc a.path.length none 0 0), .row g2 AtL.zero.rcells, .row g1 a.cells]) (L := []) E (by simpa using hS)) ?_
   refine WL.val (v_load1 rfl rfl one_39 (cellAt rfl)) (.none rfl) rfl rfl ?_
   refine WL.val (v_len_slice rfl rfl Tryd.underlying39) (.none rfl) rfl rfl ?_
   refine WL.val (v_move rfl rfl) (.none rfl) rfl rfl ?_
   refine WL.nil ?_
   refine WE.then_n ?_
   refine WC.block ?_
   refine WC.loop (fun x : Nat × Option Addr × Nat × List Ent => [(48, .int .i64 x.1), (47, .int .i64 a.others.length), (46, .slice a.oad a.others.length a.oc), (3, .pointer (some ⟨g3, 0, none⟩)), (2, .pointer (some ⟨g2, 0, none⟩)), (1, .pointer (some ⟨g1, 0, none⟩))]) (fun x => x.2.2.2 ++ (.row g3 (a.rc ad cc a.path.length x.2.1 x.2.2.1 x.1) :: .row g2 AtL.zero.rcells :: .row g1 a.cells :: E)) (fun x => x.1 ≤ a.others.length ∧ Vec 2 x.2.1 x.1 x.2.2.1 (othsL (a.others.take x.1)) x.2.2.2) (fun x => a.others.length - x.1) (0, none, 0, []) ⟨Nat.zero_le _, Vec.nil 2⟩ (.cons rfl (.cons rfl (.cons rfl (.cons rfl (.cons rfl (.cons rfl .nil)))))) (.refl _) ?_
   rintro ⟨k2, bd, bc, F⟩ ⟨hk2, hV2⟩
   dsimp only at hk2 hV2
   dsimp only
   refine WC.seq ?_
   refine WC.region ?_
   refine WL.test (v_lss rfl rfl rfl) (.none rfl) rfl rfl (fun h49 => ?_) (fun h49 => ?_)
   ·
    refine WL.nil ?_
    refine WE.then_n ?_
    refine WC.seq ?_
    refine WC.cond_t rfl ?_
    refine WC.skip ?_
    refine WE.then_n ?_
    refine WC.seq ?_
    refine WC.block ?_
    refine WC.seq ?_
    refine WC.region ?_
    obtain ⟨y, hy⟩ : ∃ y, a.others[k2]? = some y := ⟨a.others[k2]'(by omega), List.getElem?_eq_getElem _⟩
    obtain ⟨b2, o2, ea2, hr2⟩ := ha.oths k2 y hy
    have hts2 := take_succ_get hy
    refine WL.val ((v_indexAddr (b := b2) (off := o2) (lo := k2) rfl (by show some (Value.slice a.oad _ _) = _; rw [ea2]) rfl Tryd.underlying39 sz_115 rfl (by omega))) (.none rfl) rfl rfl ?_
    refine WL.val ((v_loadN (cs := y.cells) rfl rfl many_115 rfl (rgIn (fun h => h) hr2))) (.none rfl) rfl rfl ?_
    refine WL.alloc rfl zero_115 (.none rfl) rfl rfl ?_
    intro g7 hg7
    refine WL.storeW rfl rfl rfl rfl many_115 rfl rfl (.none rfl) rfl ?_
    refine WL.nil ?_
    refine WE.then_n ?_
    refine WC.region ?_
    refine WL.val (v_fieldAddr0 rfl rfl fld_51_9) (.none rfl) rfl rfl ?_
    refine WL.val (v_load1 rfl rfl one_49 (cellAt rfl)) (.none rfl) rfl rfl ?_
    refine WL.val (v_fieldAddr0 rfl rfl fld_115_0) (.none rfl) rfl rfl ?_
    refine WL.val (v_load1 rfl rfl one_3 (cellAt rfl)) (.none rfl) rfl rfl ?_
    refine WL.val (v_fieldAddr0 rfl rfl fld_115_1) (.none rfl) rfl rfl ?_
    refine WL.val (v_load1 rfl rfl one_22 (cellAt rfl)) (.none rfl) rfl rfl ?_
    refine WL.val (v_build rfl rfl zero_135 plc_135 rfl) (.none rfl) rfl rfl ?_
    refine WL.buildSlice rfl rfl Tryd.underlying49 sz_135 zero_135 rfl (by decide) rfl (.none rfl) rfl rfl ?_
    intro g59 hg59
    refine WL.as (L' := .row g59 y.cells :: .row g7 y.cells :: (F ++ (.row g3 (a.rc ad cc a.path.length bd bc k2) :: .row g2 AtL.zero.rcells :: .row g1 a.cells :: E))) rfl ?_
    refine WL.to (L' := F ++ (.row g59 y.cells :: .row g7 y.cells :: .row g3 (a.rc ad cc a.path.length bd bc k2) :: .row g2 AtL.zero.rcells :: .row g1 a.cells :: E)) (fun w hS => by simpa using St.front (R := F) (L := .row g3 (a.rc ad cc a.path.length bd bc k2) :: .row g2 AtL.zero.rcells :: .row g1 a.cells :: E) [.row g59 y.cells, .row g7 y.cells] hS) ?_
    refine WL.appendL rfl rfl rfl Tryd.underlying49 Tryd.underlying49 sz_135 by_135 zero_135 rfl rfl hV2 (new := y.cells) (fun _ => ⟨g59, 0, rfl, fun w hS => allAt (g := g59) w hS⟩) rfl rfl (by omega) (.none rfl) rfl rfl ?_
    intro ad60 c60 E60 hV60 hr60
    rw [← othsL_snoc, ← hts2] at hV60
    refine WL.val (v_fieldAddr0 rfl rfl fld_51_9) (.none rfl) rfl rfl ?_
    refine WL.store1 rfl rfl rfl rfl one_49 (Nat.le_of_ble_eq_true rfl) (.none rfl) rfl ?_
    refine WL.as (L' := E60 ++ (.row g59 y.cells :: .row g7 y.cells :: .row g3 (a.rc ad cc a.path.length ad60 c60 (k2 + 1)) :: .row g2 AtL.zero.rcells :: .row g1 a.cells :: E)) rfl ?_
    refine WL.nil ?_
    refine WE.block_n ?_
    refine WE.then_n ?_
    refine WC.region ?_
    refine WL.val (v_add rfl rfl rfl (w_i64 (by omega) (by omega))) (.none rfl) rfl rfl ?_
    refine WL.val (v_move rfl rfl) (.none rfl) rfl rfl ?_
    refine WL.nil ?_
    exact WE.next (k2 + 1, ad60, c60, E60) (by dsimp only; omega) ⟨by dsimp only; omega, hV60⟩ (.int rfl (by dsimp only; omega) (.cons rfl (.cons rfl (.cons rfl (.cons rfl (.cons rfl .nil)))))) (List.Sublist.append_left (.cons _ (.cons _ (.refl _))) _)
   ·
    refine WL.nil ?_
    refine WE.then_n ?_
    refine WC.seq ?_
    refine WC.cond_f rfl ?_
    refine WC.exit ?_
    refine WE.then_exit ?_
    refine WE.then_exit ?_
    refine WE.block_hit ?_
    refine WE.then_n ?_
    refine WC.seq ?_
    refine WC.region ?_
    have ek2 : k2 = a.others.length := (by omega)
    rw [ek2, List.take_length] at hV2
    refine WL.as (L' := F ++ (.row g3 (a.rc ad cc a.path.length bd bc a.others.length) :: .row g2 AtL.zero.rcells :: .row g1 a.cells :: E)) (by rw [ek2]) ?_
    refine WL.val (v_loadN rfl rfl many_51 rfl allAt) (.none rfl) rfl rfl ?_
    refine WL.storeW rfl rfl rfl rfl many_51 rfl rfl (.none rfl) rfl ?_
    refine WL.nil ?_
    refine WE.then_n ?_
    refine WC.ret ?_
    refine WE.ret1 (P := Tryd.prog) (.inl rfl) Tryd.results49 (resRow rfl many_51 rfl) ?_
    exact fun w' h => ⟨ad, cc, bd, bc, E, F, rfl, hV, hV2, h.sub (List.Sublist.append_left (.cons _ (.cons _ (.cons _ (.refl _)))) _)⟩
end Go.Proofs.YtpjbofodllhjbaaDoor
/- carrefourlaw07.Plain: walked. -/
namespace Go.Proofs.YtpjbofodllhjbaaDoor
open Go.RowKit

theorem St.permC {p : Nat → Prop} {w0 w : World} {L L' : List Ent} (hS : St p w0 w L) (h : ∀ c : Ent → List Ent → Nat, (∀ e a b l, c e (a :: b :: l) = c e (b :: l) + c e [a]) → (∀ e a l r, c e (a :: (l ++ r)) = c e (l ++ r) + c e [a]) → (∀ e l r, c e (l ++ r) = c e l + c e r) → ∀ e, c e L = c e L') : St p w0 w L' := hS.perm (by
  classical
  refine List.perm_iff_count.2 fun e => (h (fun e l => l.count e) ?_ ?_ ?_ e).symm
  · intro e a b l
    rw [List.count_cons, List.count_singleton]
  · intro e a l r
    rw [List.count_cons, List.count_singleton]
  · intro e l r
    exact List.count_append)
/-- The reference's message while it is made. -/
def MsL.rc (m : MsL) (kad : Option Addr) (kc kn : Nat) (gad : Option Addr) (gc : Nat) (pad : Option Addr) (pc : Nat) (oad : Option Addr) (oc : Nat) (nad : Option Addr) (nc : Nat) : List Value := [.int .i64 m.kind, .int .i64 m.asn, .int .i64 m.hold, .int .u32 m.id, .slice kad kn kc, .slice gad m.gone.length gc, .int .i64 m.atr.has, .int .i64 m.atr.origin, .slice pad m.atr.path.length pc, .int .i64 m.atr.hop, .int .i64 m.atr.med, .int .i64 m.atr.loc, .int .i64 m.atr.aas, .int .i64 m.atr.aid, .slice m.atr.cad m.atr.comms.length m.atr.cc, .slice oad m.atr.others.length oc, .slice nad m.nets.length nc, .int .i64 m.fc, .int .i64 m.fs, .string m.fd]
structure PlS where
  g3 : Nat
  gad : Option Addr
  gc : Nat
  EG : List Ent
  pad : Option Addr
  pc : Nat
  EP : List Ent
  oad : Option Addr
  oc : Nat
  EO : List Ent
  nad : Option Addr
  nc : Nat
  EN : List Ent
structure PlS.Good (x : PlS) (m : MsL) : Prop where
  gone : Vec 2 x.gad m.gone.length x.gc (pfsL m.gone) x.EG
  path : Vec 2 x.pad m.atr.path.length x.pc (segsL m.atr.path) x.EP
  oths : Vec 2 x.oad m.atr.others.length x.oc (othsL m.atr.others) x.EO
  nets : Vec 2 x.nad m.nets.length x.nc (pfsL m.nets) x.EN
def PlS.cells (x : PlS) (m : MsL) (kad : Option Addr) (kc kn : Nat) : List Value := m.rc kad kc kn x.gad x.gc x.pad x.pc x.oad x.oc x.nad x.nc
def PlS.K (x : PlS) : List Ent := x.EG ++ (x.EP ++ (x.EO ++ x.EN))
def PlS.m (x : PlS) (m : MsL) (kad : Option Addr) (kc : Nat) : MsL := { m with kad := kad, kc := kc, gad := x.gad, gc := x.gc, atr := m.atr.r0 x.pad x.pc m.atr.path x.oad x.oc m.atr.others, nad := x.nad, nc := x.nc }
theorem PlS.Good.at_ {x : PlS} {m : MsL} (h : x.Good m) {kad : Option Addr} {kc : Nat} {E : List Ent} (hV : Vec 2 kad m.caps.length kc (capsL m.caps) E) {w : World} (hm : m.At w) (hw : ∀ e ∈ E ++ x.K, e.holds w) : (x.m m kad kc).At w :=
  ⟨cells_of (enc := CapL.cells) hV (fun _ => rfl) (by omega) fun e he => hw e (List.mem_append_left _ he), hm.vals,
   cells_of (enc := PfL.cells) h.gone (fun _ => rfl) (by omega) fun e he => hw e (List.mem_append_right _ (List.mem_append_left _ he)),
   cells_of (enc := PfL.cells) h.nets (fun _ => rfl) (by omega) fun e he => hw e (List.mem_append_right _ (List.mem_append_right _ (List.mem_append_right _ (List.mem_append_right _ he)))),
   ⟨cells_of (enc := SegL.cells) h.path (fun _ => rfl) (by omega) fun e he => hw e (List.mem_append_right _ (List.mem_append_right _ (List.mem_append_left _ he))), hm.at_.segs, hm.at_.comms,
    cells_of (enc := OthL.cells) h.oths (fun _ => rfl) (by omega) fun e he => hw e (List.mem_append_right _ (List.mem_append_right _ (List.mem_append_right _ (List.mem_append_left _ he)))), hm.at_.vals⟩⟩
structure MsL.Few (m : MsL) : Prop where
  caps : m.caps.length ≤ 1000000
  gone : m.gone.length ≤ 1000000
  nets : m.nets.length ≤ 1000000
  path : m.atr.path.length ≤ 1000000
  oths : m.atr.others.length ≤ 1000000
theorem WL.rowAs {P : Program} {ops : Array Oper} {Q : Exit → Act → World → Prop} {n : Nat} {p : Nat → Prop} {w0 : World} {rest : List Oper} {l : Kn} {L L' : List Ent} {g : Nat} {cs cs' : List Value} [ha : At L g cs] [hp : Put L g (.row g cs') L'] (e : cs = cs')
    (h : WL P ops Q n p w0 rest l L') : WL P ops Q n p w0 rest l L := fun a w hA hS => h a w hA (by
  have hm := ha.mem
  rw [e] at hm
  obtain ⟨A, B, e', h1, h2, h3⟩ := hp.ok rfl
  rw [h2]
  have hd : (A ++ Ent.row g cs' :: B).map Ent.at = L.map Ent.at := by
    rw [h1, List.map_append, List.map_append, List.map_cons, List.map_cons, h3]
    rfl
  have hin : ∀ x ∈ A ++ Ent.row g cs' :: B, x ∈ L := fun x hx => by
    rcases List.mem_append.1 hx with hx | hx
    · rw [h1]; exact List.mem_append_left _ hx
    · rcases List.mem_cons.1 hx with rfl | hx
      · exact hm
      · rw [h1]; exact List.mem_append_right _ (List.mem_cons_of_mem _ hx)
  exact ⟨hS.frm, fun x hx => hS.holds x (hin x hx), by rw [hd]; exact hS.dist, fun x hx => hS.mine x (hin x hx)⟩)
set_option maxHeartbeats 8000000 in
theorem Plain_c (w : World) (m : MsL) (hm : m.At w) (hi : m.In) (hf : m.Few) :
    Calls Tryd.prog 20 #[.agg m.cells.toArray] w fun e w' => ∃ (m' : MsL) (K : List Ent), e = .returned (.agg m'.rcells.toArray) ∧ m'.d = m.d ∧ (∀ w2, m.At w2 → (∀ e ∈ K, e.holds w2) → m'.At w2) ∧ St (fun _ => False) w w' K := by
  have hid := hi.id
  unfold U32 at hid
  have hkl := hf.caps
  have hgl := hf.gone
  have hnl := hf.nets
  refine enter Tryd.func20 rfl Tryd.ntmps20 rfl (St.start (fun _ => False) w) ?_
  refine WC.seq ?_
  refine WC.region ?_
  refine WL.box rfl rfl rfl (.none rfl) rfl rfl ?_
  intro g1 hg1
  refine WL.alloc rfl zero_53 (.none rfl) rfl rfl ?_
  intro g2 hg2
  refine WL.nil ?_
  refine WE.then_n ?_
  refine WC.cut (fun x : PlS => [(3, .pointer (some ⟨x.g3, 0, none⟩)), (2, .pointer (some ⟨g2, 0, none⟩)), (1, .pointer (some ⟨g1, 0, none⟩))]) (fun x => .row x.g3 (x.cells m none 0 0) :: .row g2 (MsL.zero 0).rcells :: (x.K ++ [.row g1 m.cells])) (fun x => x.Good m) ?_ ?_
  ·
   refine WC.held ([.row g1 m.cells]) mixed ?_
   refine WRH.first (g := 6) [0, 1, 2, 3, 4, 5, 6, 7, 8, 9, 11, 12, 14, 15, 17, 18] (by kernel_rfl) (by kernel_rfl) (fun w hS => hS.sub (by repeat (first | exact List.Sublist.refl _ | exact List.nil_sublist _ | refine List.Sublist.cons _ ?_ | refine List.sublist_append_of_sublist_right ?_))) ?_
   refine WH.val (v_fieldAddr0 rfl rfl fld_43_0) (.none rfl) rfl rfl ?_
   refine WH.val (v_load1 rfl rfl one_3 (cellAt rfl)) (.none rfl) rfl rfl ?_
   refine WH.val (v_fieldAddr0 rfl rfl fld_43_1) (.none rfl) rfl rfl ?_
   refine WH.val (v_load1 rfl rfl one_3 (cellAt rfl)) (.none rfl) rfl rfl ?_
   refine WH.val (v_fieldAddr0 rfl rfl fld_43_2) (.none rfl) rfl rfl ?_
   refine WH.val (v_load1 rfl rfl one_3 (cellAt rfl)) (.none rfl) rfl rfl ?_
   refine WH.val (v_fieldAddr0 rfl rfl fld_43_3) (.none rfl) rfl rfl ?_
   refine WH.val (v_load1 rfl rfl one_34 (cellAt rfl)) (.none rfl) rfl rfl ?_
   refine WH.val (v_fieldAddr0 rfl rfl fld_43_5) (.none rfl) rfl rfl ?_
   refine WH.val (v_load1 rfl rfl one_36 (cellAt rfl)) (.none rfl) rfl rfl ?_
   refine WH.val (v_fieldAddr0 rfl rfl fld_43_6) (.none rfl) rfl rfl ?_
   refine WH.val (v_loadN rfl rfl many_41 rfl (segAt (m := 10) rfl)) (.none rfl) rfl rfl ?_
   refine WH.val (v_fieldAddr0 rfl rfl fld_43_7) (.none rfl) rfl rfl ?_
   refine WH.val (v_load1 rfl rfl one_36 (cellAt rfl)) (.none rfl) rfl rfl ?_
   refine WH.val (v_fieldAddr0 rfl rfl fld_43_8) (.none rfl) rfl rfl ?_
   refine WH.val (v_loadN rfl rfl many_25 rfl (segAt (m := 3) rfl)) (.none rfl) rfl rfl ?_
   refine WH.nil ?_
   refine WRH.each (g := 5) [10, 20] (by kernel_rfl) (by decide) ?_
   refine ⟨?_, ?_⟩
   ·
    refine WL.call rfl rfl ck_48 (.none rfl) rfl rfl ?_
    intro w1 hS
    refine (prefixes_c w1 m.gad m.gc m.gone ((hm.st hS).gone) (by omega)).mono ?_
    rintro e w' ⟨ad16, c16, E16, rfl, hV16, hS'⟩
    refine ⟨_, _, rfl, hS.join hS', ?_⟩
    refine WL.nilH (fun w hS => hS.sub (by repeat (first | exact List.Sublist.refl _ | exact List.nil_sublist _ | refine List.Sublist.cons _ ?_ | refine List.sublist_append_of_sublist_right ?_))) ?_
    refine WRH.each (g := 4) [13, 20] (by kernel_rfl) (by decide) ?_
    refine ⟨?_, ?_⟩
    ·
     refine WL.call rfl rfl ck_49 (.none rfl) rfl rfl ?_
     intro w1 hS
     refine (attrs_c w1 m.atr ((hm.st hS).at_) hi.at_ hf.path hf.oths).mono ?_
     rintro e w' ⟨ad19, c19, bd19, bc19, E19, F19, rfl, hV19, hW19, hS'⟩
     refine ⟨_, _, rfl, hS.join hS', ?_⟩
     refine WL.nilH (fun w hS => hS.sub (by repeat (first | exact List.Sublist.refl _ | exact List.nil_sublist _ | refine List.Sublist.cons _ ?_ | refine List.sublist_append_of_sublist_right ?_))) ?_
     refine WRH.each (g := 3) [16, 20] (by kernel_rfl) (by decide) ?_
     refine ⟨?_, ?_⟩
     ·
      refine WL.call rfl rfl ck_48 (.none rfl) rfl rfl ?_
      intro w1 hS
      refine (prefixes_c w1 m.nad m.nc m.nets ((hm.st hS).nets) (by omega)).mono ?_
      rintro e w' ⟨ad22, c22, E22, rfl, hV22, hS'⟩
      refine ⟨_, _, rfl, hS.join hS', ?_⟩
      refine WL.nilH (fun w hS => hS.sub (by repeat (first | exact List.Sublist.refl _ | exact List.nil_sublist _ | refine List.Sublist.cons _ ?_ | refine List.sublist_append_of_sublist_right ?_))) ?_
      refine WRH.first (g := 2) [19] (by kernel_rfl) (by kernel_rfl) (fun w hS => hS.sub (by repeat (first | exact List.Sublist.refl _ | exact List.nil_sublist _ | refine List.Sublist.cons _ ?_ | refine List.sublist_append_of_sublist_right ?_))) ?_
      refine WH.val (v_build rfl rfl zero_53 plc_53 rfl) (.none rfl) rfl rfl ?_
      refine WH.nil ?_
      refine WRH.one (g := 1) 20 (by kernel_rfl) ?_
      refine WL.alloc rfl zero_53 (.none rfl) rfl rfl ?_
      intro g3 hg3
      refine WL.nilH (fun w hS => hS.sub (by repeat (first | exact List.Sublist.refl _ | exact List.nil_sublist _ | refine List.Sublist.cons _ ?_ | refine List.sublist_append_of_sublist_right ?_))) ?_
      refine WRH.one (g := 0) 21 (by kernel_rfl) ?_
      refine WL.storeW rfl rfl rfl rfl many_53 rfl rfl (.none rfl) rfl ?_
      refine WL.rowAs (g := g3) (cs' := m.rc none 0 0 ad16 c16 ad19 c19 bd19 bc19 ad22 c22) (by kernel_rfl) ?_
      refine WL.rowAs (g := g2) (cs' := (MsL.zero 0).rcells) rfl ?_
      refine WL.to (L' := .row g3 (m.rc none 0 0 ad16 c16 ad19 c19 bd19 bc19 ad22 c22) :: .row g2 (MsL.zero 0).rcells :: ((E16 ++ (E19 ++ (F19 ++ E22))) ++ [.row g1 m.cells])) (fun w hS => hS.permC (by intro c h1 h2 h3 e; simp only [h1, h2, h3]; omega)) ?_
      refine WL.nilH (fun w hS => hS.sub (by repeat (first | exact List.Sublist.refl _ | exact List.nil_sublist _ | refine List.Sublist.cons _ ?_ | refine List.sublist_append_of_sublist_right ?_))) ?_
      refine WRH.done (by kernel_rfl) ?_
      exact WE.mid ⟨g3, ad16, c16, E16, ad19, c19, E19, bd19, bc19, F19, ad22, c22, E22⟩ ⟨hV16, hV19, hW19, hV22⟩ (.cons rfl (.cons rfl (.cons rfl .nil))) (.refl _)
     ·
      refine WL.alloc rfl zero_53 (.none rfl) rfl rfl ?_
      intro g3 hg3
      refine WL.nilH (fun w hS => hS.sub (by repeat (first | exact List.Sublist.refl _ | exact List.nil_sublist _ | refine List.Sublist.cons _ ?_ | refine List.sublist_append_of_sublist_right ?_))) ?_
      refine WRH.one (g := 2) 16 (by kernel_rfl) ?_
      refine WL.call rfl rfl ck_48 (.none rfl) rfl rfl ?_
      intro w1 hS
      refine (prefixes_c w1 m.nad m.nc m.nets ((hm.st hS).nets) (by omega)).mono ?_
      rintro e w' ⟨ad22, c22, E22, rfl, hV22, hS'⟩
      refine ⟨_, _, rfl, hS.join hS', ?_⟩
      refine WL.nilH (fun w hS => hS.sub (by repeat (first | exact List.Sublist.refl _ | exact List.nil_sublist _ | refine List.Sublist.cons _ ?_ | refine List.sublist_append_of_sublist_right ?_))) ?_
      refine WRH.first (g := 1) [19] (by kernel_rfl) (by kernel_rfl) (fun w hS => hS.sub (by repeat (first | exact List.Sublist.refl _ | exact List.nil_sublist _ | refine List.Sublist.cons _ ?_ | refine List.sublist_append_of_sublist_right ?_))) ?_
      refine WH.val (v_build rfl rfl zero_53 plc_53 rfl) (.none rfl) rfl rfl ?_
      refine WH.nil ?_
      refine WRH.one (g := 0) 21 (by kernel_rfl) ?_
      refine WL.storeW rfl rfl rfl rfl many_53 rfl rfl (.none rfl) rfl ?_
      refine WL.rowAs (g := g3) (cs' := m.rc none 0 0 ad16 c16 ad19 c19 bd19 bc19 ad22 c22) (by kernel_rfl) ?_
      refine WL.rowAs (g := g2) (cs' := (MsL.zero 0).rcells) rfl ?_
      refine WL.to (L' := .row g3 (m.rc none 0 0 ad16 c16 ad19 c19 bd19 bc19 ad22 c22) :: .row g2 (MsL.zero 0).rcells :: ((E16 ++ (E19 ++ (F19 ++ E22))) ++ [.row g1 m.cells])) (fun w hS => hS.permC (by intro c h1 h2 h3 e; simp only [h1, h2, h3]; omega)) ?_
      refine WL.nilH (fun w hS => hS.sub (by repeat (first | exact List.Sublist.refl _ | exact List.nil_sublist _ | refine List.Sublist.cons _ ?_ | refine List.sublist_append_of_sublist_right ?_))) ?_
      refine WRH.done (by kernel_rfl) ?_
      exact WE.mid ⟨g3, ad16, c16, E16, ad19, c19, E19, bd19, bc19, F19, ad22, c22, E22⟩ ⟨hV16, hV19, hW19, hV22⟩ (.cons rfl (.cons rfl (.cons rfl .nil))) (.refl _)
    ·
     refine WL.alloc rfl zero_53 (.none rfl) rfl rfl ?_
     intro g3 hg3
     refine WL.nilH (fun w hS => hS.sub (by repeat (first | exact List.Sublist.refl _ | exact List.nil_sublist _ | refine List.Sublist.cons _ ?_ | refine List.sublist_append_of_sublist_right ?_))) ?_
     refine WRH.one (g := 3) 13 (by kernel_rfl) ?_
     refine WL.call rfl rfl ck_49 (.none rfl) rfl rfl ?_
     intro w1 hS
     refine (attrs_c w1 m.atr ((hm.st hS).at_) hi.at_ hf.path hf.oths).mono ?_
     rintro e w' ⟨ad19, c19, bd19, bc19, E19, F19, rfl, hV19, hW19, hS'⟩
     refine ⟨_, _, rfl, hS.join hS', ?_⟩
     refine WL.nilH (fun w hS => hS.sub (by repeat (first | exact List.Sublist.refl _ | exact List.nil_sublist _ | refine List.Sublist.cons _ ?_ | refine List.sublist_append_of_sublist_right ?_))) ?_
     refine WRH.one (g := 2) 16 (by kernel_rfl) ?_
     refine WL.call rfl rfl ck_48 (.none rfl) rfl rfl ?_
     intro w1 hS
     refine (prefixes_c w1 m.nad m.nc m.nets ((hm.st hS).nets) (by omega)).mono ?_
     rintro e w' ⟨ad22, c22, E22, rfl, hV22, hS'⟩
     refine ⟨_, _, rfl, hS.join hS', ?_⟩
     refine WL.nilH (fun w hS => hS.sub (by repeat (first | exact List.Sublist.refl _ | exact List.nil_sublist _ | refine List.Sublist.cons _ ?_ | refine List.sublist_append_of_sublist_right ?_))) ?_
     refine WRH.first (g := 1) [19] (by kernel_rfl) (by kernel_rfl) (fun w hS => hS.sub (by repeat (first | exact List.Sublist.refl _ | exact List.nil_sublist _ | refine List.Sublist.cons _ ?_ | refine List.sublist_append_of_sublist_right ?_))) ?_
     refine WH.val (v_build rfl rfl zero_53 plc_53 rfl) (.none rfl) rfl rfl ?_
     refine WH.nil ?_
     refine WRH.one (g := 0) 21 (by kernel_rfl) ?_
     refine WL.storeW rfl rfl rfl rfl many_53 rfl rfl (.none rfl) rfl ?_
     refine WL.rowAs (g := g3) (cs' := m.rc none 0 0 ad16 c16 ad19 c19 bd19 bc19 ad22 c22) (by kernel_rfl) ?_
     refine WL.rowAs (g := g2) (cs' := (MsL.zero 0).rcells) rfl ?_
     refine WL.to (L' := .row g3 (m.rc none 0 0 ad16 c16 ad19 c19 bd19 bc19 ad22 c22) :: .row g2 (MsL.zero 0).rcells :: ((E16 ++ (E19 ++ (F19 ++ E22))) ++ [.row g1 m.cells])) (fun w hS => hS.permC (by intro c h1 h2 h3 e; simp only [h1, h2, h3]; omega)) ?_
     refine WL.nilH (fun w hS => hS.sub (by repeat (first | exact List.Sublist.refl _ | exact List.nil_sublist _ | refine List.Sublist.cons _ ?_ | refine List.sublist_append_of_sublist_right ?_))) ?_
     refine WRH.done (by kernel_rfl) ?_
     exact WE.mid ⟨g3, ad16, c16, E16, ad19, c19, E19, bd19, bc19, F19, ad22, c22, E22⟩ ⟨hV16, hV19, hW19, hV22⟩ (.cons rfl (.cons rfl (.cons rfl .nil))) (.refl _)
   ·
    refine WL.alloc rfl zero_53 (.none rfl) rfl rfl ?_
    intro g3 hg3
    refine WL.nilH (fun w hS => hS.sub (by repeat (first | exact List.Sublist.refl _ | exact List.nil_sublist _ | refine List.Sublist.cons _ ?_ | refine List.sublist_append_of_sublist_right ?_))) ?_
    refine WRH.one (g := 4) 10 (by kernel_rfl) ?_
    refine WL.call rfl rfl ck_48 (.none rfl) rfl rfl ?_
    intro w1 hS
    refine (prefixes_c w1 m.gad m.gc m.gone ((hm.st hS).gone) (by omega)).mono ?_
    rintro e w' ⟨ad16, c16, E16, rfl, hV16, hS'⟩
    refine ⟨_, _, rfl, hS.join hS', ?_⟩
    refine WL.nilH (fun w hS => hS.sub (by repeat (first | exact List.Sublist.refl _ | exact List.nil_sublist _ | refine List.Sublist.cons _ ?_ | refine List.sublist_append_of_sublist_right ?_))) ?_
    refine WRH.one (g := 3) 13 (by kernel_rfl) ?_
    refine WL.call rfl rfl ck_49 (.none rfl) rfl rfl ?_
    intro w1 hS
    refine (attrs_c w1 m.atr ((hm.st hS).at_) hi.at_ hf.path hf.oths).mono ?_
    rintro e w' ⟨ad19, c19, bd19, bc19, E19, F19, rfl, hV19, hW19, hS'⟩
    refine ⟨_, _, rfl, hS.join hS', ?_⟩
    refine WL.nilH (fun w hS => hS.sub (by repeat (first | exact List.Sublist.refl _ | exact List.nil_sublist _ | refine List.Sublist.cons _ ?_ | refine List.sublist_append_of_sublist_right ?_))) ?_
    refine WRH.one (g := 2) 16 (by kernel_rfl) ?_
    refine WL.call rfl rfl ck_48 (.none rfl) rfl rfl ?_
    intro w1 hS
    refine (prefixes_c w1 m.nad m.nc m.nets ((hm.st hS).nets) (by omega)).mono ?_
    rintro e w' ⟨ad22, c22, E22, rfl, hV22, hS'⟩
    refine ⟨_, _, rfl, hS.join hS', ?_⟩
    refine WL.nilH (fun w hS => hS.sub (by repeat (first | exact List.Sublist.refl _ | exact List.nil_sublist _ | refine List.Sublist.cons _ ?_ | refine List.sublist_append_of_sublist_right ?_))) ?_
    refine WRH.first (g := 1) [19] (by kernel_rfl) (by kernel_rfl) (fun w hS => hS.sub (by repeat (first | exact List.Sublist.refl _ | exact List.nil_sublist _ | refine List.Sublist.cons _ ?_ | refine List.sublist_append_of_sublist_right ?_))) ?_
    refine WH.val (v_build rfl rfl zero_53 plc_53 rfl) (.none rfl) rfl rfl ?_
    refine WH.nil ?_
    refine WRH.one (g := 0) 21 (by kernel_rfl) ?_
    refine WL.storeW rfl rfl rfl rfl many_53 rfl rfl (.none rfl) rfl ?_
    refine WL.rowAs (g := g3) (cs' := m.rc none 0 0 ad16 c16 ad19 c19 bd19 bc19 ad22 c22) (by kernel_rfl) ?_
    refine WL.rowAs (g := g2) (cs' := (MsL.zero 0).rcells) rfl ?_
    refine WL.to (L' := .row g3 (m.rc none 0 0 ad16 c16 ad19 c19 bd19 bc19 ad22 c22) :: .row g2 (MsL.zero 0).rcells :: ((E16 ++ (E19 ++ (F19 ++ E22))) ++ [.row g1 m.cells])) (fun w hS => hS.permC (by intro c h1 h2 h3 e; simp only [h1, h2, h3]; omega)) ?_
    refine WL.nilH (fun w hS => hS.sub (by repeat (first | exact List.Sublist.refl _ | exact List.nil_sublist _ | refine List.Sublist.cons _ ?_ | refine List.sublist_append_of_sublist_right ?_))) ?_
    refine WRH.done (by kernel_rfl) ?_
    exact WE.mid ⟨g3, ad16, c16, E16, ad19, c19, E19, bd19, bc19, F19, ad22, c22, E22⟩ ⟨hV16, hV19, hW19, hV22⟩ (.cons rfl (.cons rfl (.cons rfl .nil))) (.refl _)
  ·
   intro y hy
   refine WC.seq ?_
   refine WC.seq ?_
   refine WC.region ?_
   refine WL.val (v_fieldAddr0 rfl rfl fld_43_4) (.none rfl) rfl rfl ?_
   refine WL.val (v_load1 rfl rfl one_35 (cellAt rfl)) (.none rfl) rfl rfl ?_
   refine WL.val (v_len_slice rfl rfl Tryd.underlying35) (.none rfl) rfl rfl ?_
   refine WL.val (v_move rfl rfl) (.none rfl) rfl rfl ?_
   refine WL.nil ?_
   refine WE.then_n ?_
   refine WC.block ?_
   refine WC.loop (fun x : Nat × Option Addr × Nat × List Ent => [(29, .int .i64 x.1), (28, .int .i64 m.caps.length), (27, .slice m.kad m.caps.length m.kc), (3, .pointer (some ⟨y.g3, 0, none⟩)), (2, .pointer (some ⟨g2, 0, none⟩)), (1, .pointer (some ⟨g1, 0, none⟩))]) (fun x => x.2.2.2 ++ (.row y.g3 (y.cells m x.2.1 x.2.2.1 x.1) :: .row g2 (MsL.zero 0).rcells :: (y.K ++ [.row g1 m.cells]))) (fun x => x.1 ≤ m.caps.length ∧ Vec 2 x.2.1 x.1 x.2.2.1 (capsL (m.caps.take x.1)) x.2.2.2) (fun x => m.caps.length - x.1) (0, none, 0, []) ⟨Nat.zero_le _, Vec.nil 2⟩ (.cons rfl (.cons rfl (.cons rfl (.cons rfl (.cons rfl (.cons rfl .nil)))))) (.refl _) ?_
   rintro ⟨k, ad, cc, E⟩ ⟨hk, hV⟩
   dsimp only at hk hV
   dsimp only
   refine WC.seq ?_
   refine WC.region ?_
   refine WL.test (v_lss rfl rfl rfl) (.none rfl) rfl rfl (fun h30 => ?_) (fun h30 => ?_)
   ·
    refine WL.nil ?_
    refine WE.then_n ?_
    refine WC.seq ?_
    refine WC.cond_t rfl ?_
    refine WC.skip ?_
    refine WE.then_n ?_
    refine WC.seq ?_
    refine WC.block ?_
    refine WC.seq ?_
    refine WC.region ?_
    obtain ⟨x, hx⟩ : ∃ x, m.caps[k]? = some x := ⟨m.caps[k]'(by omega), List.getElem?_eq_getElem _⟩
    obtain ⟨b, o, ea, hr⟩ := hm.caps k x hx
    have hts := take_succ_get hx
    refine WL.val ((v_indexAddr (b := b) (off := o) (lo := k) rfl (by show some (Value.slice m.kad _ _) = _; rw [ea]) rfl Tryd.underlying35 sz_109 rfl (by omega))) (.none rfl) rfl rfl ?_
    refine WL.val ((v_loadN (cs := x.cells) rfl rfl many_109 rfl (rgIn (fun h => h) hr))) (.none rfl) rfl rfl ?_
    refine WL.alloc rfl zero_109 (.none rfl) rfl rfl ?_
    intro g5 hg5
    refine WL.storeW rfl rfl rfl rfl many_109 rfl rfl (.none rfl) rfl ?_
    refine WL.nil ?_
    refine WE.then_n ?_
    refine WC.region ?_
    refine WL.val (v_fieldAddr0 rfl rfl fld_53_4) (.none rfl) rfl rfl ?_
    refine WL.val (v_load1 rfl rfl one_46 (cellAt rfl)) (.none rfl) rfl rfl ?_
    refine WL.val (v_fieldAddr0 rfl rfl fld_109_0) (.none rfl) rfl rfl ?_
    refine WL.val (v_load1 rfl rfl one_3 (cellAt rfl)) (.none rfl) rfl rfl ?_
    refine WL.val (v_fieldAddr0 rfl rfl fld_109_1) (.none rfl) rfl rfl ?_
    refine WL.val (v_load1 rfl rfl one_22 (cellAt rfl)) (.none rfl) rfl rfl ?_
    refine WL.val (v_build rfl rfl zero_99 plc_99 rfl) (.none rfl) rfl rfl ?_
    refine WL.buildSlice rfl rfl Tryd.underlying46 sz_99 zero_99 rfl (by decide) rfl (.none rfl) rfl rfl ?_
    intro g40 hg40
    refine WL.as (L' := .row g40 x.cells :: .row g5 x.cells :: (E ++ (.row y.g3 (y.cells m ad cc k) :: .row g2 (MsL.zero 0).rcells :: (y.K ++ [.row g1 m.cells])))) rfl ?_
    refine WL.to (L' := E ++ (.row g40 x.cells :: .row g5 x.cells :: .row y.g3 (y.cells m ad cc k) :: .row g2 (MsL.zero 0).rcells :: (y.K ++ [.row g1 m.cells]))) (fun w hS => by simpa using St.front (R := E) (L := .row y.g3 (y.cells m ad cc k) :: .row g2 (MsL.zero 0).rcells :: (y.K ++ [.row g1 m.cells])) [.row g40 x.cells, .row g5 x.cells] hS) ?_
    refine WL.appendL rfl rfl rfl Tryd.underlying46 Tryd.underlying46 sz_99 by_99 zero_99 rfl rfl hV (new := x.cells) (fun _ => ⟨g40, 0, rfl, fun w hS => allAt (g := g40) w hS⟩) rfl rfl (by omega) (.none rfl) rfl rfl ?_
    intro ad41 c41 E41 hV41 hr41
    rw [← capsL_snoc, ← hts] at hV41
    refine WL.val (v_fieldAddr0 rfl rfl fld_53_4) (.none rfl) rfl rfl ?_
    refine WL.store1 rfl rfl rfl rfl one_46 (Nat.le_of_ble_eq_true rfl) (.none rfl) rfl ?_
    refine WL.as (L' := E41 ++ (.row g40 x.cells :: .row g5 x.cells :: .row y.g3 (y.cells m ad41 c41 (k + 1)) :: .row g2 (MsL.zero 0).rcells :: (y.K ++ [.row g1 m.cells]))) rfl ?_
    refine WL.nil ?_
    refine WE.block_n ?_
    refine WE.then_n ?_
    refine WC.region ?_
    refine WL.val (v_add rfl rfl rfl (w_i64 (by omega) (by omega))) (.none rfl) rfl rfl ?_
    refine WL.val (v_move rfl rfl) (.none rfl) rfl rfl ?_
    refine WL.nil ?_
    exact WE.next (k + 1, ad41, c41, E41) (by dsimp only; omega) ⟨by dsimp only; omega, hV41⟩ (.int rfl (by dsimp only; omega) (.cons rfl (.cons rfl (.cons rfl (.cons rfl (.cons rfl .nil)))))) (List.Sublist.append_left (.cons _ (.cons _ (.refl _))) _)
   ·
    refine WL.nil ?_
    refine WE.then_n ?_
    refine WC.seq ?_
    refine WC.cond_f rfl ?_
    refine WC.exit ?_
    refine WE.then_exit ?_
    refine WE.then_exit ?_
    refine WE.block_hit ?_
    refine WE.then_n ?_
    refine WC.seq ?_
    refine WC.region ?_
    have ek : k = m.caps.length := (by omega)
    rw [ek, List.take_length] at hV
    refine WL.as (L' := E ++ (.row y.g3 (y.cells m ad cc m.caps.length) :: .row g2 (MsL.zero 0).rcells :: (y.K ++ [.row g1 m.cells]))) (by rw [ek]) ?_
    refine WL.val (v_loadN rfl rfl many_53 rfl (segAt (m := 20) rfl)) (.none rfl) rfl rfl ?_
    refine WL.storeW rfl rfl rfl rfl many_53 rfl rfl (.none rfl) rfl ?_
    refine WL.nil ?_
    refine WE.then_n ?_
    refine WC.ret ?_
    refine WE.ret1 (P := Tryd.prog) (.inl rfl) Tryd.results20 (resRow rfl many_53 rfl) ?_
    exact fun w' h => ⟨y.m m ad cc, E ++ y.K, rfl, rfl, fun w2 h1 h2 => hy.at_ hV h1 h2, h.sub (List.Sublist.append_left (.cons _ (.cons _ (List.sublist_append_left _ _))) _)⟩
end Go.Proofs.YtpjbofodllhjbaaDoor
/- carrefourref06.list and Same, carrefourref07.same and Same: what says the same is the same. -/
namespace Go.Proofs.YtpjbofodllhjbaaDoor
open Go.RowKit

theorem rgOne {w : World} {b o k : Nat} {cs : List Value} {v : Value} (h : w.rangeAt b o cs) (hk : cs[k]? = some v) : w.cell? ⟨b, o + k * 1, none⟩ = some v := by rw [Nat.mul_one]; exact h k v hk
theorem list_c (w : World) (a b : Option Addr) (ca cb : Nat) (xs ys : List Int) (e : xs = ys) (h1 : CellsAt w a (i64s xs)) (h2 : CellsAt w b (i64s ys)) (hn : xs.length ≤ 9223372036854775807) :
    Calls Tryd.prog 69 #[.slice a xs.length ca, .slice b ys.length cb] w fun e w' => e = .returned (.bool true) ∧ Frm (fun _ => False) w w' := by
  subst e
  refine enter Tryd.func69 rfl Tryd.ntmps69 rfl (St.start (fun _ => False) w) ?_
  refine WC.seq ?_
  refine WC.region ?_
  refine WL.val (v_assign rfl rfl) (.none rfl) rfl rfl ?_
  refine WL.nil ?_
  refine WE.then_n ?_
  refine WC.seq ?_
  refine WC.seq ?_
  refine WC.region ?_
  refine WL.val (v_move rfl rfl) (.none rfl) rfl rfl ?_
  refine WL.val (v_len_slice rfl rfl Tryd.underlying38) (.none rfl) rfl rfl ?_
  refine WL.val (v_move rfl rfl) (.none rfl) rfl rfl ?_
  refine WL.val (v_len_slice rfl rfl Tryd.underlying38) (.none rfl) rfl rfl ?_
  refine WL.val ((v_neq rfl rfl rfl).f (by omega)) (.none rfl) rfl rfl ?_
  refine WL.nil ?_
  refine WE.then_n ?_
  refine WC.cond_f rfl ?_
  refine WC.skip ?_
  refine WE.then_n ?_
  refine WC.seq ?_
  refine WC.seq ?_
  refine WC.region ?_
  refine WL.val (v_move rfl rfl) (.none rfl) rfl rfl ?_
  refine WL.val (v_len_slice rfl rfl Tryd.underlying38) (.none rfl) rfl rfl ?_
  refine WL.val (v_move rfl rfl) (.none rfl) rfl rfl ?_
  refine WL.nil ?_
  refine WE.then_n ?_
  refine WC.block ?_
  refine WC.loop (fun k : Nat => [(13, .int .i64 k), (12, .int .i64 xs.length), (1, .slice b xs.length cb), (0, .slice a xs.length ca)]) (fun _ => []) (fun k => k ≤ xs.length) (fun k => xs.length - k) 0 (Nat.zero_le _) (.cons rfl (.cons rfl (.cons rfl (.cons rfl .nil)))) (.refl _) ?_
  intro k hk
  refine WC.seq ?_
  refine WC.region ?_
  refine WL.test (v_lss rfl rfl rfl) (.none rfl) rfl rfl (fun h14 => ?_) (fun h14 => ?_)
  ·
   refine WL.nil ?_
   refine WE.then_n ?_
   refine WC.seq ?_
   refine WC.cond_t rfl ?_
   refine WC.skip ?_
   refine WE.then_n ?_
   refine WC.seq ?_
   refine WC.block ?_
   refine WC.seq ?_
   refine WC.region ?_
   refine WL.val (v_move rfl rfl) (.none rfl) rfl rfl ?_
   refine WL.val (v_assign rfl rfl) (.none rfl) rfl rfl ?_
   refine WL.nil ?_
   refine WE.then_n ?_
   refine WC.seq ?_
   refine WC.quiet mixed (by kernel_rfl) ?_
   obtain ⟨x, hx⟩ : ∃ x, xs[k]? = some x := ⟨xs[k]'(by omega), List.getElem?_eq_getElem _⟩
   obtain ⟨b1, o1, e1, r1⟩ := h1 (by rw [i64s_len]; omega)
   obtain ⟨b2, o2, e2, r2⟩ := h2 (by rw [i64s_len]; omega)
   refine WQ.val (v_move rfl rfl) (.none rfl) rfl rfl ?_
   refine WQ.val (v_move rfl rfl) (.none rfl) rfl rfl ?_
   refine WQ.val ((v_indexAddr (b := b1) (off := o1) (lo := k) rfl (by show some (Value.slice a _ _) = _; rw [e1]) rfl Tryd.underlying38 sz_3 rfl (by omega))) (.none rfl) rfl rfl ?_
   refine WQ.val (v_load1 rfl rfl one_3 (cellOld (fun h => h) (rgOne r1 (i64s_get hx)))) (.none rfl) rfl rfl ?_
   refine WQ.val (v_move rfl rfl) (.none rfl) rfl rfl ?_
   refine WQ.val (v_move rfl rfl) (.none rfl) rfl rfl ?_
   refine WQ.val ((v_indexAddr (b := b2) (off := o2) (lo := k) rfl (by show some (Value.slice b _ _) = _; rw [e2]) rfl Tryd.underlying38 sz_3 rfl (by omega))) (.none rfl) rfl rfl ?_
   refine WQ.val (v_load1 rfl rfl one_3 (cellOld (fun h => h) (rgOne r2 (i64s_get hx)))) (.none rfl) rfl rfl ?_
   refine WQ.val ((v_neq rfl rfl rfl).f (by omega)) (.none rfl) rfl rfl ?_
   refine WQ.nil ?_
   refine WE.then_n ?_
   refine WC.cond_f rfl ?_
   refine WC.skip ?_
   refine WE.block_n ?_
   refine WE.then_n ?_
   refine WC.region ?_
   refine WL.val (v_add rfl rfl rfl (w_i64 (by omega) (by omega))) (.none rfl) rfl rfl ?_
   refine WL.val (v_move rfl rfl) (.none rfl) rfl rfl ?_
   refine WL.nil ?_
   exact WE.next (k + 1) (by omega) (by omega) (.int rfl (by omega) (.cons rfl (.cons rfl (.cons rfl .nil)))) (.refl _)
  ·
   refine WL.nil ?_
   refine WE.then_n ?_
   refine WC.seq ?_
   refine WC.cond_f rfl ?_
   refine WC.exit ?_
   refine WE.then_exit ?_
   refine WE.then_exit ?_
   refine WE.block_hit ?_
   refine WE.then_n ?_
   refine WC.seq ?_
   refine WC.region ?_
   refine WL.val (v_assign rfl rfl) (.none rfl) rfl rfl ?_
   refine WL.nil ?_
   refine WE.then_n ?_
   refine WC.ret ?_
   refine WE.ret1 (P := Tryd.prog) (.inl rfl) Tryd.results69 rfl ?_
   exact fun w' h => ⟨rfl, h.frm⟩
theorem same_c (w : World) (a b : Option Addr) (ca cb : Nat) (xs ys : List PfL) (e : xs = ys) (h1 : RowsAt w a 2 PfL.cells xs) (h2 : RowsAt w b 2 PfL.cells ys) (hn : xs.length ≤ 1000000) :
    Calls Tryd.prog 46 #[.slice a xs.length ca, .slice b ys.length cb] w fun e w' => e = .returned (.bool true) ∧ Frm (fun _ => False) w w' := by
  subst e
  refine enter Tryd.func46 rfl Tryd.ntmps46 rfl (St.start (fun _ => False) w) ?_
  refine WC.seq ?_
  refine WC.region ?_
  refine WL.val (v_assign rfl rfl) (.none rfl) rfl rfl ?_
  refine WL.nil ?_
  refine WE.then_n ?_
  refine WC.seq ?_
  refine WC.seq ?_
  refine WC.region ?_
  refine WL.val (v_move rfl rfl) (.none rfl) rfl rfl ?_
  refine WL.val (v_len_slice rfl rfl Tryd.underlying47) (.none rfl) rfl rfl ?_
  refine WL.val (v_move rfl rfl) (.none rfl) rfl rfl ?_
  refine WL.val (v_len_slice rfl rfl Tryd.underlying47) (.none rfl) rfl rfl ?_
  refine WL.val ((v_neq rfl rfl rfl).f (by omega)) (.none rfl) rfl rfl ?_
  refine WL.nil ?_
  refine WE.then_n ?_
  refine WC.cond_f rfl ?_
  refine WC.skip ?_
  refine WE.then_n ?_
  refine WC.seq ?_
  refine WC.seq ?_
  refine WC.region ?_
  refine WL.val (v_move rfl rfl) (.none rfl) rfl rfl ?_
  refine WL.val (v_len_slice rfl rfl Tryd.underlying47) (.none rfl) rfl rfl ?_
  refine WL.val (v_move rfl rfl) (.none rfl) rfl rfl ?_
  refine WL.nil ?_
  refine WE.then_n ?_
  refine WC.block ?_
  refine WC.loop (fun k : Nat => [(13, .int .i64 k), (12, .int .i64 xs.length), (1, .slice b xs.length cb), (0, .slice a xs.length ca)]) (fun _ => []) (fun k => k ≤ xs.length) (fun k => xs.length - k) 0 (Nat.zero_le _) (.cons rfl (.cons rfl (.cons rfl (.cons rfl .nil)))) (.refl _) ?_
  intro k hk
  refine WC.seq ?_
  refine WC.region ?_
  refine WL.test (v_lss rfl rfl rfl) (.none rfl) rfl rfl (fun h14 => ?_) (fun h14 => ?_)
  ·
   refine WL.nil ?_
   refine WE.then_n ?_
   refine WC.seq ?_
   refine WC.cond_t rfl ?_
   refine WC.skip ?_
   refine WE.then_n ?_
   refine WC.seq ?_
   refine WC.block ?_
   refine WC.seq ?_
   refine WC.region ?_
   refine WL.val (v_move rfl rfl) (.none rfl) rfl rfl ?_
   refine WL.val (v_assign rfl rfl) (.none rfl) rfl rfl ?_
   refine WL.nil ?_
   refine WE.then_n ?_
   refine WC.seq ?_
   refine WC.quiet mixed (by kernel_rfl) ?_
   obtain ⟨x, hx⟩ : ∃ x, xs[k]? = some x := ⟨xs[k]'(by omega), List.getElem?_eq_getElem _⟩
   obtain ⟨b1, o1, e1, r1⟩ := h1 k x hx
   obtain ⟨b2, o2, e2, r2⟩ := h2 k x hx
   refine WQ.val (v_move rfl rfl) (.none rfl) rfl rfl ?_
   refine WQ.val (v_move rfl rfl) (.none rfl) rfl rfl ?_
   refine WQ.val ((v_indexAddr (b := b1) (off := o1) (lo := k) rfl (by show some (Value.slice a _ _) = _; rw [e1]) rfl Tryd.underlying47 sz_132 rfl (by omega))) (.none rfl) rfl rfl ?_
   refine WQ.val ((v_loadN (cs := x.cells) rfl rfl many_132 rfl (rgIn (fun h => h) r1))) (.none rfl) rfl rfl ?_
   refine WQ.val (v_move rfl rfl) (.none rfl) rfl rfl ?_
   refine WQ.val (v_move rfl rfl) (.none rfl) rfl rfl ?_
   refine WQ.val ((v_indexAddr (b := b2) (off := o2) (lo := k) rfl (by show some (Value.slice b _ _) = _; rw [e2]) rfl Tryd.underlying47 sz_132 rfl (by omega))) (.none rfl) rfl rfl ?_
   refine WQ.val ((v_loadN (cs := x.cells) rfl rfl many_132 rfl (rgIn (fun h => h) r2))) (.none rfl) rfl rfl ?_
   refine WQ.val (v_neq_aggF rfl rfl rfl eqk_132 eqg_132 rfl rfl (by rfl)) (.none rfl) rfl rfl ?_
   refine WQ.nil ?_
   refine WE.then_n ?_
   refine WC.cond_f rfl ?_
   refine WC.skip ?_
   refine WE.block_n ?_
   refine WE.then_n ?_
   refine WC.region ?_
   refine WL.val (v_add rfl rfl rfl (w_i64 (by omega) (by omega))) (.none rfl) rfl rfl ?_
   refine WL.val (v_move rfl rfl) (.none rfl) rfl rfl ?_
   refine WL.nil ?_
   exact WE.next (k + 1) (by omega) (by omega) (.int rfl (by omega) (.cons rfl (.cons rfl (.cons rfl .nil)))) (.refl _)
  ·
   refine WL.nil ?_
   refine WE.then_n ?_
   refine WC.seq ?_
   refine WC.cond_f rfl ?_
   refine WC.exit ?_
   refine WE.then_exit ?_
   refine WE.then_exit ?_
   refine WE.block_hit ?_
   refine WE.then_n ?_
   refine WC.seq ?_
   refine WC.region ?_
   refine WL.val (v_assign rfl rfl) (.none rfl) rfl rfl ?_
   refine WL.nil ?_
   refine WE.then_n ?_
   refine WC.ret ?_
   refine WE.ret1 (P := Tryd.prog) (.inl rfl) Tryd.results46 rfl ?_
   exact fun w' h => ⟨rfl, h.frm⟩
end Go.Proofs.YtpjbofodllhjbaaDoor
