/- carrefourref05: Add, Sum, put; carrefourlaw05: whole, right, lay. -/
import Derived.Test.YtpjjlggonpbegaaDoorLawF
import Derived.Test.YtpjjlggonpbegaaDoorCs
namespace Go.Proofs.YtpjjlggonpbegaaDoor
open Go.RowKit

theorem Add_c (w : World) (a b : Int) (ha : 0 ≤ a ∧ a ≤ 1000000000) (hb : 0 ≤ b ∧ b ≤ 1000000000) :
    Calls Tryd.prog 27 #[.int .i64 a, .int .i64 b] w fun e w' => e = .returned (.int .i64 (fc (a + b))) ∧ Frm (fun _ => False) w w' := by
  refine enter Tryd.func27 rfl Tryd.ntmps27 rfl (St.start (fun _ => False) w) ?_
  refine WC.seq ?_
  refine WC.region ?_
  refine WL.val (v_assign rfl rfl) (.none rfl) rfl rfl ?_
  refine WL.nil ?_
  refine WE.then_n ?_
  refine WC.seq ?_
  refine WC.region ?_
  refine WL.val (v_move rfl rfl) (.none rfl) rfl rfl ?_
  refine WL.val (v_move rfl rfl) (.none rfl) rfl rfl ?_
  refine WL.val (v_add rfl rfl rfl (w_i64 (by omega) (by omega))) (.none rfl) rfl rfl ?_
  refine WL.val (v_assign rfl rfl) (.none rfl) rfl rfl ?_
  refine WL.nil ?_
  refine WE.then_n ?_
  refine WC.seq ?_
  refine WC.block ?_
  refine WC.loop (fun t : Int => [(5, .int .i64 t)]) (fun _ => []) (fun t => 0 ≤ t ∧ t < 4611686018427387904 ∧ fc t = fc (a + b)) (fun t => t.toNat) (a + b) ⟨by omega, by omega, rfl⟩ (.cons rfl .nil) (.refl _) ?_
  rintro t ⟨ht0, ht1, hts⟩
  refine WC.seq ?_
  refine WC.seq ?_
  refine WC.region ?_
  refine WL.val (v_move rfl rfl) (.none rfl) rfl rfl ?_
  refine WL.test (v_gtr rfl rfl rfl) (.none rfl) rfl rfl (fun h10 => ?_) (fun h10 => ?_)
  · -- 10T
    refine WL.nil ?_
    refine WE.then_n ?_
    refine WC.cond_t rfl ?_
    refine WC.skip ?_
    refine WE.then_n ?_
    refine WC.block ?_
    refine WC.region ?_
    refine WL.val (v_move rfl rfl) (.none rfl) rfl rfl ?_
    refine WL.val (v_rem rfl rfl rfl (by omega) (by omega)) (.none rfl) rfl rfl ?_
    refine WL.val (v_move rfl rfl) (.none rfl) rfl rfl ?_
    refine WL.val (v_quo rfl rfl rfl (by omega) (by omega) (w_i64 (by omega) (by omega))) (.none rfl) rfl rfl ?_
    refine WL.val (v_add rfl rfl rfl (w_i64 (by omega) (by omega))) (.none rfl) rfl rfl ?_
    refine WL.val (v_assign rfl rfl) (.none rfl) rfl rfl ?_
    refine WL.nil ?_
    refine WE.block_n ?_
    exact WE.next (t % 65536 + t / 65536) (by omega) ⟨by omega, by omega, by rw [show t % 65536 + t / 65536 = t / 65536 + t % 65536 by omega, fc_step t (by omega)]; exact hts⟩ (.cons rfl .nil) (.refl _)
  · -- 10F
    refine WL.nil ?_
    refine WE.then_n ?_
    refine WC.cond_f rfl ?_
    refine WC.exit ?_
    refine WE.then_exit ?_
    refine WE.then_exit ?_
    refine WE.block_hit ?_
    refine WE.then_n ?_
    refine WC.seq ?_
    refine WC.region ?_
    refine WL.val (v_move rfl rfl) (.none rfl) rfl rfl ?_
    refine WL.val (v_assign rfl rfl) (.none rfl) rfl rfl ?_
    refine WL.nil ?_
    refine WE.then_n ?_
    refine WC.ret ?_
    refine WE.ret1 (P := Tryd.prog) (.inl rfl) Tryd.results27 rfl ?_
    exact fun w' h => ⟨by rw [← hts, fc_small t ht0 (by omega)], h.frm⟩
/-- k steps of two bytes, of n in all. -/
def upSum (f : Nat → Int) (n k : Nat) : Int := if 2 * k ≤ n then pairs f k else total f n
theorem upSum_end {f : Nat → Int} {n k : Nat} (h : n ≤ 2 * k) (h2 : 2 * k ≤ n + 1) : upSum f n k = total f n := by
  unfold upSum
  split
  · rw [total_even (k := k) (by omega)]
  · rfl
theorem upSum_le {f : Nat → Int} (hf : Byt f) {n k : Nat} (h2 : 2 * k ≤ n + 1) : 0 ≤ upSum f n k ∧ upSum f n k ≤ 65535 * (n + 1) := by
  have h1 := pairs_le hf k
  have h3 := total_le hf n
  unfold upSum; split <;> omega
theorem Sum_c (w : World) (b off n cap : Nat) (f : Nat → Int) (hr : Rd w b off n f) (hf : Byt f) (hn : n ≤ 2000) :
    Calls Tryd.prog 21 #[.slice (some ⟨b, off, none⟩) n cap] w fun e w' => e = .returned (.int .i64 (fc (total f n))) ∧ Frm (fun _ => False) w w' := by
  refine enter Tryd.func21 rfl Tryd.ntmps21 rfl (St.start (fun _ => False) w) ?_
  refine WC.seq ?_
  refine WC.region ?_
  refine WL.val (v_assign rfl rfl) (.none rfl) rfl rfl ?_
  refine WL.nil ?_
  refine WE.then_n ?_
  refine WC.seq ?_
  refine WC.region ?_
  refine WL.val (v_assign rfl rfl) (.none rfl) rfl rfl ?_
  refine WL.nil ?_
  refine WE.then_n ?_
  refine WC.seq ?_
  refine WC.seq ?_
  refine WC.region ?_
  refine WL.val (v_assign rfl rfl) (.none rfl) rfl rfl ?_
  refine WL.nil ?_
  refine WE.then_n ?_
  refine WC.block ?_
  refine WC.loop (fun k : Nat => [(0, .slice (some ⟨b, off, none⟩) n cap), (4, .int .i64 (2 * k)), (3, .int .i64 (fc (upSum f n k)))]) (fun _ => []) (fun k => 2 * k ≤ n + 1) (fun k => n + 1 - 2 * k) 0 (by omega) (.cons rfl (.cons rfl (.int rfl (by unfold upSum; rw [if_pos (by omega)]; rfl) .nil))) (.refl _) ?_
  intro k hk
  have hb0 := hf (2 * k)
  have hb1 := hf (2 * k + 1)
  have hu := upSum_le hf hk
  have hfc := fc_le _ hu.1
  refine WC.seq ?_
  refine WC.seq ?_
  refine WC.region ?_
  refine WL.val (v_move rfl rfl) (.none rfl) rfl rfl ?_
  refine WL.val (v_move rfl rfl) (.none rfl) rfl rfl ?_
  refine WL.val (v_len_slice rfl rfl Tryd.underlying22) (.none rfl) rfl rfl ?_
  refine WL.test (v_lss rfl rfl rfl) (.none rfl) rfl rfl (fun h9 => ?_) (fun h9 => ?_)
  · -- 9T
    refine WL.nil ?_
    refine WE.then_n ?_
    refine WC.cond_t rfl ?_
    refine WC.skip ?_
    refine WE.then_n ?_
    refine WC.seq ?_
    refine WC.block ?_
    refine WC.seq ?_
    refine WC.region ?_
    refine WL.val (v_move rfl rfl) (.none rfl) rfl rfl ?_
    refine WL.val (v_move rfl rfl) (.none rfl) rfl rfl ?_
    refine WL.val (v_indexAddr (lo := 2 * k) rfl rfl rfl Tryd.underlying22 sz_5 (by omega) (by omega)) (.none rfl) rfl rfl ?_
    refine WL.val (v_load1 rfl rfl one_5 (cellOld (fun h => h) (by rw [Nat.mul_one]; exact hr (2 * k) (by omega)))) (.none rfl) rfl rfl ?_
    refine WL.val (v_conv rfl rfl Tryd.underlying3 Tryd.underlying5 (w_i64 (by omega) (by omega))) (.none rfl) rfl rfl ?_
    refine WL.val (v_mul rfl rfl rfl (w_i64 (by omega) (by omega))) (.none rfl) rfl rfl ?_
    refine WL.val (v_assign rfl rfl) (.none rfl) rfl rfl ?_
    refine WL.nil ?_
    refine WE.then_n ?_
    refine WC.seq ?_
    refine WC.seq ?_
    refine WC.region ?_
    refine WL.val (v_move rfl rfl) (.none rfl) rfl rfl ?_
    refine WL.val (v_add rfl rfl rfl (w_i64 (by omega) (by omega))) (.none rfl) rfl rfl ?_
    refine WL.val (v_move rfl rfl) (.none rfl) rfl rfl ?_
    refine WL.val (v_len_slice rfl rfl Tryd.underlying22) (.none rfl) rfl rfl ?_
    refine WL.test (v_lss rfl rfl rfl) (.none rfl) rfl rfl (fun h22 => ?_) (fun h22 => ?_)
    · -- 22T
      refine WL.nil ?_
      refine WE.then_n ?_
      refine WC.cond_t rfl ?_
      refine WC.region ?_
      refine WL.val (v_move rfl rfl) (.none rfl) rfl rfl ?_
      refine WL.val (v_move rfl rfl) (.none rfl) rfl rfl ?_
      refine WL.val (v_move rfl rfl) (.none rfl) rfl rfl ?_
      refine WL.val (v_add rfl rfl rfl (w_i64 (by omega) (by omega))) (.none rfl) rfl rfl ?_
      refine WL.val (v_indexAddr (lo := 2 * k + 1) rfl rfl rfl Tryd.underlying22 sz_5 (by omega) (by omega)) (.none rfl) rfl rfl ?_
      refine WL.val (v_load1 rfl rfl one_5 (cellOld (fun h => h) (by rw [Nat.mul_one]; exact hr (2 * k + 1) (by omega)))) (.none rfl) rfl rfl ?_
      refine WL.val (v_conv rfl rfl Tryd.underlying3 Tryd.underlying5 (w_i64 (by omega) (by omega))) (.none rfl) rfl rfl ?_
      refine WL.val (v_add rfl rfl rfl (w_i64 (by omega) (by omega))) (.none rfl) rfl rfl ?_
      refine WL.val (v_assign rfl rfl) (.none rfl) rfl rfl ?_
      refine WL.nil ?_
      refine WE.then_n ?_
      refine WC.region ?_
      refine WL.val (v_move rfl rfl) (.none rfl) rfl rfl ?_
      refine WL.val (v_move rfl rfl) (.none rfl) rfl rfl ?_
      refine WL.call rfl rfl ck_27 (.none rfl) rfl rfl ?_
      intro w hS
      refine Calls.then ((Add_c w (fc (upSum f n k)) (f (2 * k) * 256 + f (2 * k + 1)) (by omega) (by omega)).mono fun _ _ ⟨he, hF⟩ => ⟨(by rw [he]; refine ret_int ?_; rw [fc_add _ _ hu.1 (by omega)]; unfold upSum; rw [if_pos (by omega), if_pos (show 2 * (k + 1) ≤ n by omega)]; rfl : _ = Ending.returned (.int .i64 (fc (upSum f n (k + 1))))), hF⟩) hS ?_
      refine WL.val (v_assign rfl rfl) (.none rfl) rfl rfl ?_
      refine WL.nil ?_
      refine WE.block_n ?_
      refine WE.then_n ?_
      refine WC.region ?_
      refine WL.val (v_move rfl rfl) (.none rfl) rfl rfl ?_
      refine WL.val (v_add rfl rfl rfl (w_i64 (by omega) (by omega))) (.none rfl) rfl rfl ?_
      refine WL.val (v_assign rfl rfl) (.none rfl) rfl rfl ?_
      refine WL.nil ?_
      exact WE.next (k + 1) (by omega) (by omega) (.cons rfl (.int rfl (by omega) (.cons rfl .nil))) (.refl _)
    · -- 22F
      refine WL.nil ?_
      refine WE.then_n ?_
      refine WC.cond_f rfl ?_
      refine WC.skip ?_
      refine WE.then_n ?_
      refine WC.region ?_
      refine WL.val (v_move rfl rfl) (.none rfl) rfl rfl ?_
      refine WL.val (v_move rfl rfl) (.none rfl) rfl rfl ?_
      refine WL.call rfl rfl ck_27 (.none rfl) rfl rfl ?_
      intro w hS
      refine Calls.then ((Add_c w (fc (upSum f n k)) (f (2 * k) * 256) (by omega) (by omega)).mono fun _ _ ⟨he, hF⟩ => ⟨(by rw [he]; refine ret_int ?_; rw [fc_add _ _ hu.1 (by omega)]; unfold upSum; rw [if_pos (by omega), if_neg (show ¬ 2 * (k + 1) ≤ n by omega), total_odd (k := k) (by omega)] : _ = Ending.returned (.int .i64 (fc (upSum f n (k + 1))))), hF⟩) hS ?_
      refine WL.val (v_assign rfl rfl) (.none rfl) rfl rfl ?_
      refine WL.nil ?_
      refine WE.block_n ?_
      refine WE.then_n ?_
      refine WC.region ?_
      refine WL.val (v_move rfl rfl) (.none rfl) rfl rfl ?_
      refine WL.val (v_add rfl rfl rfl (w_i64 (by omega) (by omega))) (.none rfl) rfl rfl ?_
      refine WL.val (v_assign rfl rfl) (.none rfl) rfl rfl ?_
      refine WL.nil ?_
      exact WE.next (k + 1) (by omega) (by omega) (.cons rfl (.int rfl (by omega) (.cons rfl .nil))) (.refl _)
  · -- 9F
    refine WL.nil ?_
    refine WE.then_n ?_
    refine WC.cond_f rfl ?_
    refine WC.exit ?_
    refine WE.then_exit ?_
    refine WE.then_exit ?_
    refine WE.block_hit ?_
    refine WE.then_n ?_
    refine WC.seq ?_
    refine WC.region ?_
    refine WL.val (v_move rfl rfl) (.none rfl) rfl rfl ?_
    refine WL.val (v_assign rfl rfl) (.none rfl) rfl rfl ?_
    refine WL.nil ?_
    refine WE.then_n ?_
    refine WC.ret ?_
    refine WE.ret1 (P := Tryd.prog) (.inl rfl) Tryd.results21 rfl ?_
    exact fun w' h => ⟨by rw [upSum_end (by omega) hk], h.frm⟩
/-- The last k of n bytes of a number written. -/
def wrS (f : Nat → Int) (at_ n : Nat) (x : Int) : Nat → (Nat → Int) × Int
  | 0 => (f, x)
  | k + 1 => ((fun i => if i = at_ + (n - 1 - k) then (wrS f at_ n x k).2 % 256 else (wrS f at_ n x k).1 i), (wrS f at_ n x k).2 / 256)
theorem wrS_2 (f : Nat → Int) (at_ : Nat) (x : Int) (h0 : 0 ≤ x) (h1 : x ≤ 65535) : (wrS f at_ 2 x 2).1 = up2 f at_ x := by
  funext i
  simp only [wrS, up2]
  by_cases h : i = at_
  · rw [if_pos (by omega), if_pos h]; omega
  · rw [if_neg (by omega), if_neg h]
theorem wrS_4 (f : Nat → Int) (at_ : Nat) (x : Int) (h0 : 0 ≤ x) (h1 : x ≤ 4294967295) : (wrS f at_ 4 x 4).1 = up4 f at_ x := by
  funext i
  simp only [wrS, up4, up2]
  by_cases e0 : i = at_
  · rw [if_pos (by omega), if_neg (by omega), if_neg (by omega), if_pos e0]; omega
  by_cases e1 : i = at_ + 1
  · rw [if_neg (by omega), if_pos (by omega), if_neg (by omega), if_neg (by omega), if_neg (by omega), if_pos e1]; omega
  by_cases e2 : i = at_ + 2
  · rw [if_neg (by omega), if_neg (by omega), if_pos (by omega), if_pos e2]; omega
  by_cases e3 : i = at_ + 3
  · rw [if_neg (by omega), if_neg (by omega), if_neg (by omega), if_pos (by omega), if_neg (by omega), if_pos (by omega)]; omega
  · rw [if_neg (by omega), if_neg (by omega), if_neg (by omega), if_neg (by omega), if_neg (by omega), if_neg (by omega), if_neg (by omega), if_neg (by omega)]
theorem bcs_set {f : Nat → Int} {n j : Nat} {r : List Value} {x : Int} (h : j < n) : (bcs f n ++ r).set j (.int .u8 x) = bcs (fun i => if i = j then x else f i) n ++ r := by
  apply List.ext_getElem?
  intro i
  have hl : (bcs f n ++ r).length = n + r.length := by rw [List.length_append, bcs_len]
  rw [List.getElem?_set]
  by_cases h1 : j = i
  · subst h1
    rw [if_pos rfl, if_pos (by rw [hl]; omega), List.getElem?_append_left (by rw [bcs_len]; omega), bcs_get _ _ _ (by omega)]
    rw [if_pos rfl]
  · rw [if_neg h1]
    by_cases hi : i < n
    · rw [List.getElem?_append_left (by rw [bcs_len]; exact hi), List.getElem?_append_left (by rw [bcs_len]; exact hi), bcs_get _ _ _ hi, bcs_get _ _ _ hi]
      rw [if_neg (by omega)]
    · rw [List.getElem?_append_right (by rw [bcs_len]; omega), List.getElem?_append_right (by rw [bcs_len]; omega), bcs_len, bcs_len]
theorem wrS_ge (f : Nat → Int) (at_ n : Nat) (x : Int) (h : 0 ≤ x) : ∀ k, 0 ≤ (wrS f at_ n x k).2 ∧ (wrS f at_ n x k).2 ≤ x
  | 0 => by simp [wrS, h]
  | k + 1 => by have := wrS_ge f at_ n x h k; simp only [wrS]; omega
theorem rput_f (p : Nat → Prop) (w0 w : World) (L : List Ent) (b n cap at_ k : Nat) (f : Nat → Int) (r : List Value) (x : Int) (hS : St p w0 w (.row b (bcs f n ++ r) :: L)) (hk : k ≤ 4) (ha : at_ + k ≤ n) (hn : n ≤ 2000) (h0 : 0 ≤ x) (h1 : x ≤ 4294967295) :
    Calls Tryd.prog 20 #[.slice (some ⟨b, 0, none⟩) n cap, .int .i64 at_, .int .i64 k, .int .i64 x] w fun e w' => e = .returned (.tuple #[]) ∧ St p w0 w' (.row b (bcs (wrS f at_ k x k).1 n ++ r) :: L) := by
  refine enter Tryd.func20 rfl Tryd.ntmps20 rfl hS ?_
  refine WC.seq ?_
  refine WC.region ?_
  refine WL.val (v_move rfl rfl) (.none rfl) rfl rfl ?_
  refine WL.val (v_sub rfl rfl rfl (w_i64 (by omega) (by omega))) (.none rfl) rfl rfl ?_
  refine WL.val (v_assign rfl rfl) (.none rfl) rfl rfl ?_
  refine WL.nil ?_
  refine WE.then_n ?_
  refine WC.block ?_
  refine WC.loop (fun j : Nat => [(0, .slice (some ⟨b, 0, none⟩) n cap), (1, .int .i64 at_), (8, .int .i64 ((k : Int) - 1 - j)), (3, .int .i64 (wrS f at_ k x j).2)]) (fun j => .row b (bcs (wrS f at_ k x j).1 n ++ r) :: L) (fun j => j ≤ k) (fun j => k - j) 0 (Nat.zero_le _) (.cons rfl (.cons rfl (.int rfl (by omega) (.cons rfl .nil)))) (.refl _) ?_
  intro j hj
  have hw := wrS_ge f at_ k x h0 j
  refine WC.seq ?_
  refine WC.seq ?_
  refine WC.region ?_
  refine WL.val (v_move rfl rfl) (.none rfl) rfl rfl ?_
  refine WL.test (v_geq rfl rfl rfl) (.none rfl) rfl rfl (fun h12 => ?_) (fun h12 => ?_)
  · -- 12T
    refine WL.nil ?_
    refine WE.then_n ?_
    refine WC.cond_t rfl ?_
    refine WC.skip ?_
    refine WE.then_n ?_
    refine WC.seq ?_
    refine WC.block ?_
    refine WC.seq ?_
    refine WC.region ?_
    refine WL.val (v_move rfl rfl) (.none rfl) rfl rfl ?_
    refine WL.val (v_move rfl rfl) (.none rfl) rfl rfl ?_
    refine WL.val (v_move rfl rfl) (.none rfl) rfl rfl ?_
    refine WL.val (v_add rfl rfl rfl (w_i64 (by omega) (by omega))) (.none rfl) rfl rfl ?_
    refine WL.val (v_move rfl rfl) (.none rfl) rfl rfl ?_
    refine WL.val (v_rem rfl rfl rfl (by omega) (by omega)) (.none rfl) rfl rfl ?_
    refine WL.val (v_conv rfl rfl Tryd.underlying5 Tryd.underlying3 (by first | exact w_u8 (by omega) (by omega) | exact w_u8m _)) (.none rfl) rfl rfl ?_
    refine WL.val (v_indexAddr (lo := at_ + (k - 1 - j)) rfl rfl rfl Tryd.underlying22 sz_5 (by omega) (by omega)) (.none rfl) rfl rfl ?_
    refine WL.store1 rfl rfl rfl rfl one_5 (by rw [List.length_append, bcs_len]; omega) (.none rfl) rfl ?_
    refine WL.as (L' := .row b (bcs (wrS f at_ k x (j + 1)).1 n ++ r) :: L) (by rw [Nat.zero_add, Nat.mul_one, bcs_set (by omega)]; rfl) ?_
    refine WL.nil ?_
    refine WE.then_n ?_
    refine WC.region ?_
    refine WL.val (v_move rfl rfl) (.none rfl) rfl rfl ?_
    refine WL.val (v_quo rfl rfl rfl (by omega) (by omega) (w_i64 (by omega) (by omega))) (.none rfl) rfl rfl ?_
    refine WL.val (v_assign rfl rfl) (.none rfl) rfl rfl ?_
    refine WL.nil ?_
    refine WE.block_n ?_
    refine WE.then_n ?_
    refine WC.region ?_
    refine WL.val (v_move rfl rfl) (.none rfl) rfl rfl ?_
    refine WL.val (v_sub rfl rfl rfl (w_i64 (by omega) (by omega))) (.none rfl) rfl rfl ?_
    refine WL.val (v_assign rfl rfl) (.none rfl) rfl rfl ?_
    refine WL.nil ?_
    exact WE.next (j + 1) (by omega) (by omega) (.cons rfl (.cons rfl (.int rfl (by omega) (.cons rfl .nil)))) (.refl _)
  · -- 12F
    refine WL.nil ?_
    refine WE.then_n ?_
    refine WC.cond_f rfl ?_
    refine WC.exit ?_
    refine WE.then_exit ?_
    refine WE.then_exit ?_
    refine WE.block_hit ?_
    refine WE.ret0 (P := Tryd.prog) (.inr rfl) Tryd.results20  ?_
    obtain rfl : j = k := (by omega)
    exact fun w' h => ⟨rfl, h⟩
end Go.Proofs.YtpjjlggonpbegaaDoor
