/- The small functions of frame's reference. -/
import Derived.Test.YtpjjlggonpbegaaFrB
import Derived.Test.YtpjjlggonpbegaaBlk
import Derived.Test.YtpjjlggonpbegaaTail
namespace Go.Proofs.Ytpjjlggonpbegaa
open Go.RowKit

theorem Two_k (w : World) (b off n cap : Nat) (i : Int) (k : Nat) (hk : i = k) (f : Nat → Int) (hr : Rd w b off n f) (hf : Byt f) (hi : k + 1 < n) (hn : n ≤ 9223372036854775807) (x : Int) (hx : two f k = x) :
    Calls Try.prog 28 #[.slice (some ⟨b, off, none⟩) n cap, .int .i64 i] w fun e w' => e = .returned (.int .i64 x) ∧ ∃ m, w' = w.drewN m := by
  subst hk hx
  exact Two_c w b off n cap k f hr hf hi hn

set_option maxHeartbeats 400000 in
theorem Four_k (w : World) (b off n cap : Nat) (i : Int) (k : Nat) (hk : i = k) (f : Nat → Int) (hr : Rd w b off n f) (hf : Byt f) (hi : k + 3 < n) (hn : n ≤ 1000000) (x : Int) (hx : four f k = x) :
    Calls Try.prog 17 #[.slice (some ⟨b, off, none⟩) n cap, .int .i64 i] w fun e w' => e = .returned (.int .u32 x) ∧ ∃ m, w' = w.drewN m := by
  subst hx hk
  have b0 := two_le hf k
  have b2 := two_le hf (k + 2)
  have hb : (k : Int) + 2 ≤ 1000000 := by omega
  go_enter Try.func17, Try.ntmps17
  go_wp2_with fail
  refine (Two_k _ _ _ _ _ _ k rfl f hr hf (by omega) (by omega) _ rfl).mono ?_
  rintro e w' ⟨rfl, m1, rfl⟩
  go_wp2_with fail
  refine (Two_k _ _ _ _ _ _ (k + 2) (by omega) f (hr.drewN _) hf (by omega) (by omega) _ rfl).mono ?_
  rintro e w' ⟨rfl, m2, rfl⟩
  go_wp2_with fail
  go_ret
  exact ⟨rfl, _, rfl⟩

/-- Six bytes. -/
def six (g : Nat → Int) : Array Value := #[.int .u8 (g 0), .int .u8 (g 1), .int .u8 (g 2), .int .u8 (g 3), .int .u8 (g 4), .int .u8 (g 5)]
theorem six_get (g : Nat → Int) (j : Nat) (h : j < 6) : (six g)[j]? = some (.int .u8 (g j)) := by
  match j, h with
  | 0, _ | 1, _ | 2, _ | 3, _ | 4, _ | 5, _ => rfl
def upd (g : Nat → Int) (j : Nat) (x : Int) : Nat → Int := fun i => if i = j then x else g i
theorem six_set (g : Nat → Int) (j : Nat) (x : Int) (h : j < 6) : (six g).setIfInBounds j (.int .u8 x) = six (upd g j x) := by
  match j, h with
  | 0, _ | 1, _ | 2, _ | 3, _ | 4, _ | 5, _ => rfl
theorem six_congr {g g' : Nat → Int} (h : ∀ i, i < 6 → g i = g' i) : six g = six g' := by
  unfold six; rw [h 0 (by omega), h 1 (by omega), h 2 (by omega), h 3 (by omega), h 4 (by omega), h 5 (by omega)]
/-- The first j as they are to be, noughts behind. -/
def upto (g : Nat → Int) (j : Nat) : Nat → Int := fun i => if i < j then g i else 0
theorem upto_succ (g : Nat → Int) (j : Nat) : upd (upto g j) j (g j) = upto g (j + 1) := by
  funext i; unfold upd upto
  by_cases h : i = j
  · subst h; simp
  · by_cases h2 : i < j
    · simp [h, h2, Nat.lt_succ_of_lt h2]
    · simp [h, h2]; omega

set_option maxHeartbeats 1000000 in
theorem six_c (w : World) (b off n cap : Nat) (i : Int) (k : Nat) (hk : i = k) (f : Nat → Int) (hr : Rd w b off n f) (hf : Byt f) (hi : k + 6 ≤ n) (hn : n ≤ 1000000) (v : Array Value) (hv : six (fun j => f (k + j)) = v) :
    Calls Try.prog 27 #[.slice (some ⟨b, off, none⟩) n cap, .int .i64 i] w fun e w' => e = .returned (.agg v) ∧ Frm (fun _ => False) w w' := by
  subst hk hv
  have hbw := hr.lt (by omega)
  have hk1 : ∀ o : Obj, (w.alloc o).heap.size = w.heap.size + 1 := fun o => by simp
  go_enter Try.func27, Try.ntmps27
  go_wp2_with (refine wpList_storeN rfl 25 _ _ rfl rfl (w.heap.size + 1) (hk1 _) (six (fun _ => 0)) (by kernel_rfl) (by kernel_rfl) _ _ (by kernel_rfl) (by kernel_rfl) (by kernel_rfl) ?_)
  go_loopw [6] (fun v wr => ∃ j : Nat, j ≤ 6 ∧ v = .int .i64 j ∧ Blk wr w.heap.size (six (fun _ => 0)) 25 ∧ Blk wr (w.heap.size + 1) (six (upto (fun j => f (k + j)) j)) 25 ∧ Rd wr b off n f ∧ Frm (fun _ => False) w wr) (fun v _ => 6 - (intOf v).toNat)
  case atStart => exact ⟨0, by omega, rfl, Blk.alloc Blk.new, Blk.new2, Rd.alloc (Rd.alloc hr), Frm.alloc (Frm.alloc (Frm.refl _ _))⟩
  case round =>
    obtain ⟨j, hj, rfl, hZ, hB, hR, hF⟩ := hrel
    by_cases hlt : j < 6
    · have c1 := hB.cell (six_get (upto (fun j => f (k + j)) j) j hlt)
      have fz := hB.frozen j
      have c2 := hR (k + j) (by omega)
      have i1 : (k : Int) + (j : Int) < (n : Int) := by omega
      go_wp2_with fail
      go_roundw
      case rel => exact ⟨j + 1, by omega, by go_num, Blk.other (by simp) hZ, Blk.conv (Blk.setCell hB) (by rw [six_set _ _ _ hlt]; exact congrArg six (upto_succ _ _)), Rd.setCell (by simp; omega) hR, Frm.own hF (Frm.set1 (Frm.refl _ _)) (fun k hk => by omega)⟩
      case measure => simp [intOf]; omega
    · have hj6 : j = 6 := by omega
      subst hj6
      go_wp2_with (first
        | (refine wpList_loadB rfl 25 _ rfl (w.heap.size + 1) 0 6 (by kernel_rfl) _ _ hB _ Try.underlying25 rfl (by kernel_rfl) (by simp [six]) (six (fun j => f (k + j))) (by kernel_rfl) ?_)
        | (refine wpList_storeV rfl 25 _ _ rfl rfl w.heap.size 0 (six (fun j => f (k + j))) (by kernel_rfl) (by kernel_rfl) _ _ hZ (by kernel_rfl) (by kernel_rfl) (by simp [six]) (six (fun j => f (k + j))) (by kernel_rfl) ?_; intro W4 hF4 hB4))
      refine ret_blk (p := 4) Try.results27 rfl w.heap.size 25 (six (fun j => f (k + j))) _ rfl hB4 Try.underlying25 rfl (by kernel_rfl) ⟨rfl, ?_⟩
      exact Frm.own hF hF4 (fun k hk => by omega)
end Go.Proofs.Ytpjjlggonpbegaa
