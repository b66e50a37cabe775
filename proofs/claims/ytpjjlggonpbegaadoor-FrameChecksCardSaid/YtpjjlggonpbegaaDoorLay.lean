/- carrefourlaw05: whole, right, lay; carrefourref05.Ip4. -/
import Derived.Test.YtpjjlggonpbegaaDoorSum
namespace Go.Proofs.YtpjjlggonpbegaaDoor
open Go.RowKit

theorem rput2_u {p : Nat → Prop} {w0 w : World} {L L' : List Ent} {b at_ n cap : Nat} {x : Int} {f : Nat → Int} {r : List Value} (hS : St p w0 w L) [At L b (bcs f n ++ r)] [hp : Put L b (.row b (bcs (up2 f at_ x) n ++ r)) L'] (ha : at_ + 2 ≤ n) (hn : n ≤ 2000) (h0 : 0 ≤ x) (h1 : x ≤ 65535) {A : Int} (hA : A = at_) :
    Calls Tryd.prog 20 #[.slice (some ⟨b, 0, none⟩) n cap, .int .i64 A, .int .i64 2, .int .i64 x] w fun e w' => e = .returned (.tuple #[]) ∧ St p w0 w' L' := by
  subst hA
  obtain ⟨R, k1, k2⟩ := hS.swap (g := b) (cs := bcs f n ++ r) (cs' := bcs (up2 f at_ x) n ++ r) (L' := L')
  refine (rput_f p w0 w R b n cap at_ 2 f r x k1 (by omega) ha hn h0 (by omega)).mono fun e w' ⟨he, h⟩ => ⟨he, k2 w' ?_⟩
  rw [wrS_2 f at_ x h0 h1] at h; exact h
theorem rput4_u {p : Nat → Prop} {w0 w : World} {L L' : List Ent} {b at_ n cap : Nat} {x : Int} {f : Nat → Int} {r : List Value} (hS : St p w0 w L) [At L b (bcs f n ++ r)] [hp : Put L b (.row b (bcs (up4 f at_ x) n ++ r)) L'] (ha : at_ + 4 ≤ n) (hn : n ≤ 2000) (h0 : 0 ≤ x) (h1 : x ≤ 4294967295) {A : Int} (hA : A = at_) :
    Calls Tryd.prog 20 #[.slice (some ⟨b, 0, none⟩) n cap, .int .i64 A, .int .i64 4, .int .i64 x] w fun e w' => e = .returned (.tuple #[]) ∧ St p w0 w' L' := by
  subst hA
  obtain ⟨R, k1, k2⟩ := hS.swap (g := b) (cs := bcs f n ++ r) (cs' := bcs (up4 f at_ x) n ++ r) (L' := L')
  refine (rput_f p w0 w R b n cap at_ 4 f r x k1 (by omega) ha hn h0 (by omega)).mono fun e w' ⟨he, h⟩ => ⟨he, k2 w' ?_⟩
  rw [wrS_4 f at_ x h0 h1] at h; exact h

/-- The sum of a packet that carries TCP. -/
def whl (f : Nat → Int) (n : Nat) : Int := total (fun i => f (26 + i)) 8 + 6 + ((n : Int) - 34) + total (fun i => f (34 + i)) (n - 34)
theorem whole_c (w : World) (b n cap : Nat) (f : Nat → Int) (hr : Rd w b 0 n f) (hf : Byt f) (hc : n ≤ cap) (h35 : 35 ≤ n) (hn : n ≤ 2000) :
    Calls Tryd.prog 22 #[.slice (some ⟨b, 0, none⟩) n cap] w fun e w' => e = .returned (.int .i64 (fc (whl f n))) ∧ Frm (fun _ => False) w w' := by
  have t1 := total_le (hf.sub 26) 8
  have t2 := total_le (hf.sub 34) (n - 34)
  have f1 := fc_le _ t1.1
  have f2 := fc_le _ t2.1
  have f3 := fc_le (total (fun i => f (26 + i)) 8 + 6) (by omega)
  have f4 := fc_le (total (fun i => f (26 + i)) 8 + 6 + ((n : Int) - 34)) (by omega)
  refine enter Tryd.func22 rfl Tryd.ntmps22 rfl (St.start (fun _ => False) w) ?_
  refine WC.seq ?_
  refine WC.region ?_
  refine WL.val (v_assign rfl rfl) (.none rfl) rfl rfl ?_
  refine WL.nil ?_
  refine WE.then_n ?_
  refine WC.seq ?_
  refine WC.region ?_
  refine WL.val (v_move rfl rfl) (.none rfl) rfl rfl ?_
  refine WL.val (v_slice_lhS (lo := 26) (hi := 34) rfl rfl rfl rfl Tryd.underlying22 sz_5 rfl rfl (by omega) (by omega) (by omega)) (.none rfl) rfl rfl ?_
  refine WL.call rfl rfl ck_21 (.none rfl) rfl rfl ?_
  intro w hS
  refine Calls.then (Sum_c w b _ 8 _ (fun i => f (26 + i)) (hS.oldRd (fun h => h) (hr.part 26 8 (by omega) (by omega))) (hf.sub 26) (by omega)) hS ?_
  refine WL.val (v_assign rfl rfl) (.none rfl) rfl rfl ?_
  refine WL.nil ?_
  refine WE.then_n ?_
  refine WC.seq ?_
  refine WC.region ?_
  refine WL.val (v_move rfl rfl) (.none rfl) rfl rfl ?_
  refine WL.call rfl rfl ck_27 (.none rfl) rfl rfl ?_
  intro w hS
  refine Calls.then ((Add_c w _ 6 (by omega) (by omega)).mono fun _ _ ⟨he, hF⟩ => ⟨(by rw [he, fc_add _ _ t1.1 (by omega)] : _ = Ending.returned (.int .i64 (fc (total (fun i => f (26 + i)) 8 + 6)))), hF⟩) hS ?_
  refine WL.val (v_assign rfl rfl) (.none rfl) rfl rfl ?_
  refine WL.nil ?_
  refine WE.then_n ?_
  refine WC.seq ?_
  refine WC.region ?_
  refine WL.val (v_move rfl rfl) (.none rfl) rfl rfl ?_
  refine WL.val (v_move rfl rfl) (.none rfl) rfl rfl ?_
  refine WL.val (v_len_slice rfl rfl Tryd.underlying22) (.none rfl) rfl rfl ?_
  refine WL.val (v_sub rfl rfl rfl (w_i64 (by omega) (by omega))) (.none rfl) rfl rfl ?_
  refine WL.call rfl rfl ck_27 (.none rfl) rfl rfl ?_
  intro w hS
  refine Calls.then ((Add_c w _ _ (by omega) (by omega)).mono fun _ _ ⟨he, hF⟩ => ⟨(by rw [he, fc_add _ _ (by omega) (by omega)] : _ = Ending.returned (.int .i64 (fc (total (fun i => f (26 + i)) 8 + 6 + ((n : Int) - 34))))), hF⟩) hS ?_
  refine WL.val (v_assign rfl rfl) (.none rfl) rfl rfl ?_
  refine WL.nil ?_
  refine WE.then_n ?_
  refine WC.seq ?_
  refine WC.region ?_
  refine WL.val (v_move rfl rfl) (.none rfl) rfl rfl ?_
  refine WL.val (v_move rfl rfl) (.none rfl) rfl rfl ?_
  refine WL.val (v_slice_loS (lo := 34) rfl rfl rfl Tryd.underlying22 sz_5 rfl (by omega) (by omega)) (.none rfl) rfl rfl ?_
  refine WL.call rfl rfl ck_21 (.none rfl) rfl rfl ?_
  intro w hS
  refine Calls.then (Sum_c w b _ _ _ (fun i => f (34 + i)) (hS.oldRd (fun h => h) (hr.part 34 (n - 34) (by omega) (by omega))) (hf.sub 34) (by omega)) hS ?_
  refine WL.call rfl rfl ck_27 (.none rfl) rfl rfl ?_
  intro w hS
  refine Calls.then ((Add_c w _ _ (by omega) (by omega)).mono fun _ _ ⟨he, hF⟩ => ⟨(by rw [he, fc_add _ _ (by omega) (by omega), Int.add_comm, fc_add _ _ t2.1 (by omega), Int.add_comm]; rfl : _ = Ending.returned (.int .i64 (fc (whl f n)))), hF⟩) hS ?_
  refine WL.val (v_assign rfl rfl) (.none rfl) rfl rfl ?_
  refine WL.nil ?_
  refine WE.then_n ?_
  refine WC.ret ?_
  refine WE.ret1 (P := Tryd.prog) (.inl rfl) Tryd.results22 rfl ?_
  exact fun w' h => ⟨rfl, h.frm⟩
theorem right_c (w : World) (b n cap : Nat) (f : Nat → Int) (hr : Rd w b 0 n f) (hf : Byt f) (hc : n ≤ cap) (h35 : 35 ≤ n) (hn : n ≤ 2000) (h1 : fc (total (fun i => f (14 + i)) 20) = 65535) (h2 : fc (whl f n) = 65535) :
    Calls Tryd.prog 11 #[.slice (some ⟨b, 0, none⟩) n cap] w fun e w' => e = .returned (.bool true) ∧ Frm (fun _ => False) w w' := by
  refine enter Tryd.func11 rfl Tryd.ntmps11 rfl (St.start (fun _ => False) w) ?_
  refine WC.seq ?_
  refine WC.region ?_
  refine WL.val (v_assign rfl rfl) (.none rfl) rfl rfl ?_
  refine WL.nil ?_
  refine WE.then_n ?_
  refine WC.seq ?_
  refine WC.region ?_
  refine WL.val (v_move rfl rfl) (.none rfl) rfl rfl ?_
  refine WL.val (v_slice_lhS (lo := 14) (hi := 34) rfl rfl rfl rfl Tryd.underlying22 sz_5 rfl rfl (by omega) (by omega) (by omega)) (.none rfl) rfl rfl ?_
  refine WL.call rfl rfl ck_21 (.none rfl) rfl rfl ?_
  intro w hS
  refine Calls.then (Sum_c w b _ 20 _ (fun i => f (14 + i)) (hS.oldRd (fun h => h) (hr.part 14 20 (by omega) (by omega))) (hf.sub 14) (by omega)) hS ?_
  refine WL.val ((v_eql rfl rfl rfl).t (h1)) (.none rfl) rfl rfl ?_
  refine WL.val (v_move rfl rfl) (.none rfl) rfl rfl ?_
  refine WL.val (v_move rfl rfl) (.some rfl rfl rfl) rfl rfl ?_
  refine WL.call rfl rfl ck_22 (.some rfl rfl rfl) rfl rfl ?_
  intro w hS
  refine Calls.then (whole_c w b n cap f (hS.oldRd (fun h => h) hr) hf hc h35 hn) hS ?_
  refine WL.val ((v_eql rfl rfl rfl).t (h2)) (.some rfl rfl rfl) rfl rfl ?_
  refine WL.val (v_pick_t rfl rfl rfl) (.none rfl) rfl rfl ?_
  refine WL.val (v_assign rfl rfl) (.none rfl) rfl rfl ?_
  refine WL.nil ?_
  refine WE.then_n ?_
  refine WC.ret ?_
  refine WE.ret1 (P := Tryd.prog) (.inl rfl) Tryd.results11 rfl ?_
  exact fun w' h => ⟨rfl, h.frm⟩
theorem rdRowG {p : Nat → Prop} {w0 w : World} {L : List Ent} {g n : Nat} {f : Nat → Int} {r : List Value} [At L g (bcs f n ++ r)] (hS : St p w0 w L) : Rd w g 0 n f := rdAt (g := g) (n := n) (f := f) (off := 0) (cs := bcs f n ++ r) (fun i hi => by rw [bget2 (f := f) (m := n) (o := 0) (j := i) (r := r) (by omega), Nat.zero_add]) w hS
/-- The bytes with the check of what is carried. -/
def layF (f : Nat → Int) (n : Nat) : Nat → Int := up2 f 50 (65535 - fc (whl (up2 f 50 0) n))
theorem layF_put {f : Nat → Int} {n : Nat} {r : List Value} (h : 52 ≤ n) : put2 (bcs (up2 f 50 0) n ++ r) 50 (65535 - fc (whl (up2 f 50 0) n)) = bcs (layF f n) n ++ r := by
  rw [put2_up _ (by omega), up2_up2]; rfl
theorem lay_f (p : Nat → Prop) (w0 w : World) (L : List Ent) (b n cap : Nat) (f : Nat → Int) (r : List Value) (hS : St p w0 w (.row b (bcs f n ++ r) :: L)) (hf : Byt f) (hc : n ≤ cap) (h52 : 52 ≤ n) (hn : n ≤ 2000) :
    Calls Tryd.prog 10 #[.slice (some ⟨b, 0, none⟩) n cap] w fun e w' => e = .returned (.tuple #[]) ∧ St p w0 w' (.row b (bcs (layF f n) n ++ r) :: L) := by
  have h0 : Byt (up2 f 50 0) := up2_byt hf 50 (by omega) (by omega)
  have hw : 0 ≤ whl (up2 f 50 0) n := by
    have t1 := total_le (h0.sub 26) 8
    have t2 := total_le (h0.sub 34) (n - 34)
    unfold whl; omega
  have hfc := fc_le _ hw
  refine enter Tryd.func10 rfl Tryd.ntmps10 rfl hS ?_
  refine WC.seq ?_
  refine WC.region ?_
  refine WL.val (v_move rfl rfl) (.none rfl) rfl rfl ?_
  refine WL.val (v_indexAddr (lo := 50) rfl rfl rfl Tryd.underlying22 sz_5 rfl (by omega)) (.none rfl) rfl rfl ?_
  refine WL.store1 rfl rfl rfl rfl one_5 (by rw [List.length_append, bcs_len]; omega) (.none rfl) rfl ?_
  refine WL.nil ?_
  refine WE.then_n ?_
  refine WC.seq ?_
  refine WC.region ?_
  refine WL.val (v_move rfl rfl) (.none rfl) rfl rfl ?_
  refine WL.val (v_indexAddr (lo := 51) rfl rfl rfl Tryd.underlying22 sz_5 rfl (by omega)) (.none rfl) rfl rfl ?_
  refine WL.store1 rfl rfl rfl rfl one_5 (by rw [List.length_set, List.length_append, bcs_len]; omega) (.none rfl) rfl ?_
  refine WL.as (L' := .row b (bcs (up2 f 50 0) n ++ r) :: L) (by rw [← put2_up (r := r) 0 (by omega : 50 + 2 ≤ n)]; rfl) ?_
  refine WL.nil ?_
  refine WE.then_n ?_
  refine WC.seq ?_
  refine WC.region ?_
  refine WL.val (v_move rfl rfl) (.none rfl) rfl rfl ?_
  refine WL.call rfl rfl ck_22 (.none rfl) rfl rfl ?_
  intro w hS
  refine Calls.then (whole_c w b n cap _ (rdRowG hS) h0 hc (by omega) hn) hS ?_
  refine WL.val (v_sub rfl rfl rfl (w_i64 (by omega) (by omega))) (.none rfl) rfl rfl ?_
  refine WL.val (v_assign rfl rfl) (.none rfl) rfl rfl ?_
  refine WL.nil ?_
  refine WE.then_n ?_
  refine WC.seq ?_
  refine WC.region ?_
  refine WL.val (v_move rfl rfl) (.none rfl) rfl rfl ?_
  refine WL.val (v_move rfl rfl) (.none rfl) rfl rfl ?_
  refine WL.val (v_quo rfl rfl rfl (by omega) (by omega) (w_i64 (by omega) (by omega))) (.none rfl) rfl rfl ?_
  refine WL.val (v_conv rfl rfl Tryd.underlying5 Tryd.underlying3 (by first | exact w_u8 (by omega) (by omega) | exact w_u8m _)) (.none rfl) rfl rfl ?_
  refine WL.val (v_indexAddr (lo := 50) rfl rfl rfl Tryd.underlying22 sz_5 rfl (by omega)) (.none rfl) rfl rfl ?_
  refine WL.store1 rfl rfl rfl rfl one_5 (by rw [List.length_append, bcs_len]; omega) (.none rfl) rfl ?_
  refine WL.nil ?_
  refine WE.then_n ?_
  refine WC.region ?_
  refine WL.val (v_move rfl rfl) (.none rfl) rfl rfl ?_
  refine WL.val (v_move rfl rfl) (.none rfl) rfl rfl ?_
  refine WL.val (v_rem rfl rfl rfl (by omega) (by omega)) (.none rfl) rfl rfl ?_
  refine WL.val (v_conv rfl rfl Tryd.underlying5 Tryd.underlying3 (by first | exact w_u8 (by omega) (by omega) | exact w_u8m _)) (.none rfl) rfl rfl ?_
  refine WL.val (v_indexAddr (lo := 51) rfl rfl rfl Tryd.underlying22 sz_5 rfl (by omega)) (.none rfl) rfl rfl ?_
  refine WL.store1 rfl rfl rfl rfl one_5 (by rw [List.length_set, List.length_append, bcs_len]; omega) (.none rfl) rfl ?_
  refine WL.as (L' := .row b (bcs (layF f n) n ++ r) :: L) (by rw [← layF_put (by omega)]; rfl) ?_
  refine WL.nil ?_
  refine WE.ret0 (P := Tryd.prog) (.inr rfl) Tryd.results10  ?_
  exact fun w' h => ⟨rfl, h⟩

/-- The constants of a packet. -/
def ipC : List Int := [8, 0, 69, 0, 0, 0, 0, 7, 0, 0, 64, 6, 0, 0, 0, 0, 0, 0, 0, 0, 0, 0, 0, 0, 0, 0]
def ip0 (src dst : Nat → Int) : Nat → Int := fun i => if i < 6 then dst i else if i < 12 then src (i - 6) else ipC.getD (i - 12) 0
def ip1 (H : Hd) : Nat → Int := up2 (up2 (up4 (up4 (ip0 H.src H.dst) 26 H.sip) 30 H.dip) 34 H.sp) 36 H.dp
def ip2 (H : Hd) (f : Nat → Int) : Nat → Int := fun i => if i < 38 then ip1 H i else f (i - 38)
def ip3 (H : Hd) (f : Nat → Int) (m : Nat) : Nat → Int := up2 (ip2 H f) 16 (38 + m - 14)
def ip4 (H : Hd) (f : Nat → Int) (m : Nat) : Nat → Int := up2 (ip3 H f m) 24 (65535 - fc (total (fun i => ip3 H f m (14 + i)) 20))
theorem ip0_byt {src dst : Nat → Int} (hs : Byt src) (hd : Byt dst) : Byt (ip0 src dst) := fun i => by
  unfold ip0
  split
  · exact hd i
  · split
    · exact hs _
    · by_cases h : i - 12 < 26
      · have : ∀ k, k < 26 → 0 ≤ ipC.getD k 0 ∧ ipC.getD k 0 ≤ 255 := by decide
        exact this _ h
      · have : ipC.getD (i - 12) 0 = 0 := by
          simp only [List.getD]; rw [List.getElem?_eq_none (by simp [ipC]; omega)]; rfl
        omega
end Go.Proofs.YtpjjlggonpbegaaDoor
