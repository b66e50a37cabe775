/- carrefourref05.Parse. -/
import Derived.Test.YtpjjlggonpbegaaRefA
import Derived.Test.YtpjjlggonpbegaaFrE2
namespace Go.Proofs.Ytpjjlggonpbegaa
open Go.RowKit

theorem Sum_k (w : World) (b off n cap : Nat) (L : Nat) (hL : n = L) (f : Nat → Int) (hr : Rd w b off L f) (hf : Byt f) (hn : L ≤ 1000000) (x : Int) (hx : fc (total f L) = x) :
    Calls Try.prog 29 #[.slice (some ⟨b, off, none⟩) n cap] w fun e w' => e = .returned (.int .i64 x) ∧ w = w' := by
  subst hL hx
  exact Sum_c w b off n cap f hr hf hn

set_option maxHeartbeats 400000 in
theorem RParse_port (w : World) (port : Int) (v : Value) (h : port < 0 ∨ 255 < port) :
    Calls Try.prog 13 #[.int .i64 port, v] w fun e w' => e = .returned (.tuple #[.agg (hdCells Hd.zero), .int .i64 0, .int .i64 0, .int .i64 1]) ∧ Frm (fun _ => False) w w' := by
  go_enter Try.func13, Try.ntmps13
  go_wp2_with (refine wpList_storeW rfl 37 _ _ rfl rfl w.heap.size rfl (hdCells Hd.zero) (by kernel_rfl) (by kernel_rfl) _ _ (by kernel_rfl) (by kernel_rfl) (by kernel_rfl) ?_; intro W9 hF9 hB9)
  all_goals (refine ret_blk_tmp3 (p := 4) (u1 := 5) (u2 := 6) (u3 := 7) Try.results13 rfl w.heap.size 37 (hdCells Hd.zero) _ rfl (.int .i64 0) (.int .i64 0) (.int .i64 1) rfl rfl rfl hB9 Try.underlying37 rfl (by kernel_rfl) ⟨rfl, hF9⟩)

set_option maxHeartbeats 400000 in
theorem RParse_short (w : World) (port : Int) (a : Option Addr) (n cap : Nat) (h0 : 0 ≤ port) (h1 : port ≤ 255) (h : n < 14) :
    Calls Try.prog 13 #[.int .i64 port, .slice a n cap] w fun e w' => e = .returned (.tuple #[.agg (hdCells Hd.zero), .int .i64 0, .int .i64 0, .int .i64 10]) ∧ Frm (fun _ => False) w w' := by
  go_enter Try.func13, Try.ntmps13
  go_wp2_with (refine wpList_storeW rfl 37 _ _ rfl rfl w.heap.size rfl (hdCells Hd.zero) (by kernel_rfl) (by kernel_rfl) _ _ (by kernel_rfl) (by kernel_rfl) (by kernel_rfl) ?_; intro W9 hF9 hB9)
  all_goals (refine ret_blk_tmp3 (p := 4) (u1 := 5) (u2 := 6) (u3 := 7) Try.results13 rfl w.heap.size 37 (hdCells Hd.zero) _ rfl (.int .i64 0) (.int .i64 0) (.int .i64 10) rfl rfl rfl hB9 Try.underlying37 rfl (by kernel_rfl) ⟨rfl, hF9⟩)

set_option maxHeartbeats 400000 in
theorem RParse_long (w : World) (port : Int) (a : Option Addr) (n cap : Nat) (h0 : 0 ≤ port) (h1 : port ≤ 255) (h : 1514 < n) :
    Calls Try.prog 13 #[.int .i64 port, .slice a n cap] w fun e w' => e = .returned (.tuple #[.agg (hdCells Hd.zero), .int .i64 0, .int .i64 0, .int .i64 6]) ∧ Frm (fun _ => False) w w' := by
  go_enter Try.func13, Try.ntmps13
  go_wp2_with (refine wpList_storeW rfl 37 _ _ rfl rfl w.heap.size rfl (hdCells Hd.zero) (by kernel_rfl) (by kernel_rfl) _ _ (by kernel_rfl) (by kernel_rfl) (by kernel_rfl) ?_; intro W9 hF9 hB9)
  all_goals (refine ret_blk_tmp3 (p := 4) (u1 := 5) (u2 := 6) (u3 := 7) Try.results13 rfl w.heap.size 37 (hdCells Hd.zero) _ rfl (.int .i64 0) (.int .i64 0) (.int .i64 6) rfl rfl rfl hB9 Try.underlying37 rfl (by kernel_rfl) ⟨rfl, hF9⟩)

set_option maxHeartbeats 4000000 in
theorem RParse_other (w : World) (port : Int) (b off n cap : Nat) (f : Nat → Int) (h0 : 0 ≤ port) (h1 : port ≤ 255) (hr : Rd w b off n f) (hf : Byt f) (h14 : 14 ≤ n) (hc : n ≤ cap) (hl : n ≤ 1514) (ht : two f 12 ≠ 2048) :
    Calls Try.prog 13 #[.int .i64 port, .slice (some ⟨b, off, none⟩) n cap] w fun e w' => e = .returned (.tuple #[.agg (hdCells (ethHd port f)), .int .i64 0, .int .i64 0, .int .i64 0]) ∧ Frm (fun _ => False) w w' := by
  have ht' : ((two f 12) != 2048) = true := by simpa using ht
  go_enter Try.func13, Try.ntmps13
  go_wp2_with fail
  refine (six_c _ b off n cap 0 0 rfl f (hr.alloc) hf (by omega) (by omega) #[.int .u8 (f 0), .int .u8 (f 1), .int .u8 (f 2), .int .u8 (f 3), .int .u8 (f 4), .int .u8 (f 5)] (by simp [six])).mono ?_
  rintro e W1 ⟨rfl, hF1⟩
  have hZ1 : Blk W1 w.heap.size (hdCells Hd.zero) 37 := Blk.frm hF1 (fun h => h) Blk.new
  have hR1 := Rd.frm hF1 (fun h => h) hr.alloc
  have hG1 : Frm (fun _ => False) w W1 := Frm.trans (Frm.alloc (Frm.refl _ w)) hF1
  clear hF1
  go_wp2_with fail
  refine (six_c _ b off n cap 6 6 rfl f hR1 hf (by omega) (by omega) #[.int .u8 (f 6), .int .u8 (f 7), .int .u8 (f 8), .int .u8 (f 9), .int .u8 (f 10), .int .u8 (f 11)] (by simp [six])).mono ?_
  rintro e W2 ⟨rfl, hF2⟩
  have hZ2 := Blk.frm hF2 (fun h => h) hZ1
  have hR2 := Rd.frm hF2 (fun h => h) hR1
  have hG2 := Frm.trans hG1 hF2
  clear hF2 hZ1 hR1 hG1
  go_wp2_with fail
  refine (Two_k _ b off n cap 12 12 rfl f hR2 hf (by omega) (by omega) (two f 12) rfl).mono ?_
  rintro e w' ⟨rfl, m, rfl⟩
  go_wp2_with (first
    | (refine wpList_storeWd rfl 37 _ _ rfl rfl W2.heap.size rfl (hdCells (ethHd port f)) (by kernel_rfl) (by kernel_rfl) _ _ (by kernel_rfl) (by kernel_rfl) (by kernel_rfl) ?_; intro W3 hF3 hB3; have hZ3 := Blk.frm hF3 (fun h => h) hZ2; have hR3 := Rd.frm hF3 (fun h => h) hR2; have hG3 := Frm.trans hG2 hF3; have hs3 := hZ2.lt; have hb3 := hR2.lt (by omega); have cT : W3.cell? ⟨W2.heap.size, 13, none⟩ = some (.int .i64 (two f 12)) := hB3.cell rfl; clear hF3 hZ2 hR2 hG2)
    | (refine wpList_loadB rfl 37 _ rfl W2.heap.size 0 19 (by kernel_rfl) _ _ hB3 _ Try.underlying37 rfl (by kernel_rfl) (by simp [hdCells]) (hdCells (ethHd port f)) (by kernel_rfl) ?_)
    | (refine wpList_storeV rfl 37 _ _ rfl rfl w.heap.size 0 (hdCells (ethHd port f)) (by kernel_rfl) (by kernel_rfl) _ _ hZ3 (by kernel_rfl) (by kernel_rfl) (by simp [hdCells]) (hdCells (ethHd port f)) (by kernel_rfl) ?_; intro W9 hF9 hB9))
  refine ret_blk_tmp3 (p := 4) (u1 := 5) (u2 := 6) (u3 := 7) Try.results13 rfl w.heap.size 37 (hdCells (ethHd port f)) _ rfl (.int .i64 0) (.int .i64 0) (.int .i64 0) rfl rfl rfl hB9 Try.underlying37 rfl (by kernel_rfl) ⟨rfl, ?_⟩; exact Frm.own hG3 hF9 (fun k hk => by omega)

set_option maxHeartbeats 4000000 in
theorem RParse_short34 (w : World) (port : Int) (b off n cap : Nat) (f : Nat → Int) (h0 : 0 ≤ port) (h1 : port ≤ 255) (hr : Rd w b off n f) (hf : Byt f) (h14 : 14 ≤ n) (hc : n ≤ cap) (hl : n ≤ 1514) (ht : two f 12 = 2048) (h : n < 34) :
    Calls Try.prog 13 #[.int .i64 port, .slice (some ⟨b, off, none⟩) n cap] w fun e w' => e = .returned (.tuple #[.agg (hdCells Hd.zero), .int .i64 0, .int .i64 0, .int .i64 10]) ∧ Frm (fun _ => False) w w' := by
  have ht' : ((two f 12) != 2048) = false := by simpa using ht
  have HT := Lib.hid ht
  clear ht
  go_enter Try.func13, Try.ntmps13
  go_wp2_with fail
  refine (six_c _ b off n cap 0 0 rfl f (hr.alloc) hf (by omega) (by omega) #[.int .u8 (f 0), .int .u8 (f 1), .int .u8 (f 2), .int .u8 (f 3), .int .u8 (f 4), .int .u8 (f 5)] (by simp [six])).mono ?_
  rintro e W1 ⟨rfl, hF1⟩
  have hZ1 : Blk W1 w.heap.size (hdCells Hd.zero) 37 := Blk.frm hF1 (fun h => h) Blk.new
  have hR1 := Rd.frm hF1 (fun h => h) hr.alloc
  have hG1 : Frm (fun _ => False) w W1 := Frm.trans (Frm.alloc (Frm.refl _ w)) hF1
  clear hF1
  go_wp2_with fail
  refine (six_c _ b off n cap 6 6 rfl f hR1 hf (by omega) (by omega) #[.int .u8 (f 6), .int .u8 (f 7), .int .u8 (f 8), .int .u8 (f 9), .int .u8 (f 10), .int .u8 (f 11)] (by simp [six])).mono ?_
  rintro e W2 ⟨rfl, hF2⟩
  have hZ2 := Blk.frm hF2 (fun h => h) hZ1
  have hR2 := Rd.frm hF2 (fun h => h) hR1
  have hG2 := Frm.trans hG1 hF2
  clear hF2 hZ1 hR1 hG1
  go_wp2_with fail
  refine (Two_k _ b off n cap 12 12 rfl f hR2 hf (by omega) (by omega) (two f 12) rfl).mono ?_
  rintro e w' ⟨rfl, m, rfl⟩
  go_wp2_with (first
    | (refine wpList_storeWd rfl 37 _ _ rfl rfl W2.heap.size rfl (hdCells (ethHd port f)) (by kernel_rfl) (by kernel_rfl) _ _ (by kernel_rfl) (by kernel_rfl) (by kernel_rfl) ?_; intro W3 hF3 hB3; have hZ3 := Blk.frm hF3 (fun h => h) hZ2; have hR3 := Rd.frm hF3 (fun h => h) hR2; have hG3 := Frm.trans hG2 hF3; have hs3 := hZ2.lt; have hb3 := hR2.lt (by omega); have cT : W3.cell? ⟨W2.heap.size, 13, none⟩ = some (.int .i64 (two f 12)) := hB3.cell rfl; clear hF3 hZ2 hR2 hG2)
    | (refine wpList_storeV rfl 37 _ _ rfl rfl w.heap.size 0 (hdCells Hd.zero) (by kernel_rfl) (by kernel_rfl) _ _ hZ3 (by kernel_rfl) (by kernel_rfl) (by simp [hdCells]) (hdCells Hd.zero) (by kernel_rfl) ?_; intro W9 hF9 hB9))
  refine ret_blk_tmp3 (p := 4) (u1 := 5) (u2 := 6) (u3 := 7) Try.results13 rfl w.heap.size 37 (hdCells Hd.zero) _ rfl (.int .i64 0) (.int .i64 0) (.int .i64 10) rfl rfl rfl hB9 Try.underlying37 rfl (by kernel_rfl) ⟨rfl, ?_⟩; exact Frm.own hG3 hF9 (fun k hk => by omega)

set_option maxHeartbeats 4000000 in
theorem RParse_form (w : World) (port : Int) (b off n cap L : Nat) (f : Nat → Int) (h0 : 0 ≤ port) (h1 : port ≤ 255) (hr : Rd w b off n f) (hf : Byt f) (h14 : 14 ≤ n) (hc : n ≤ cap) (hl : n ≤ 1514) (ht : two f 12 = 2048) (h34 : 34 ≤ n) (hL : f 14 % 16 * 4 = (L : Int)) (h : f 14 / 16 ≠ 4 ∨ L < 20 ∨ two f 16 < L) :
    Calls Try.prog 13 #[.int .i64 port, .slice (some ⟨b, off, none⟩) n cap] w fun e w' => e = .returned (.tuple #[.agg (hdCells Hd.zero), .int .i64 0, .int .i64 0, .int .i64 2]) ∧ Frm (fun _ => False) w w' := by
  have ht' : ((two f 12) != 2048) = false := by simpa using ht
  have HT := Lib.hid ht
  clear ht
  have b0 := hf 14
  have bt := two_le hf 16
  have hL0 : (L : Int) = f 14 % 16 * 4 := hL.symm
  have hLle : L ≤ 60 := by omega
  clear hL0
  go_enter Try.func13, Try.ntmps13
  go_wp2_with fail
  refine (six_c _ b off n cap 0 0 rfl f (hr.alloc) hf (by omega) (by omega) #[.int .u8 (f 0), .int .u8 (f 1), .int .u8 (f 2), .int .u8 (f 3), .int .u8 (f 4), .int .u8 (f 5)] (by simp [six])).mono ?_
  rintro e W1 ⟨rfl, hF1⟩
  have hZ1 : Blk W1 w.heap.size (hdCells Hd.zero) 37 := Blk.frm hF1 (fun h => h) Blk.new
  have hR1 := Rd.frm hF1 (fun h => h) hr.alloc
  have hG1 : Frm (fun _ => False) w W1 := Frm.trans (Frm.alloc (Frm.refl _ w)) hF1
  clear hF1
  go_wp2_with fail
  refine (six_c _ b off n cap 6 6 rfl f hR1 hf (by omega) (by omega) #[.int .u8 (f 6), .int .u8 (f 7), .int .u8 (f 8), .int .u8 (f 9), .int .u8 (f 10), .int .u8 (f 11)] (by simp [six])).mono ?_
  rintro e W2 ⟨rfl, hF2⟩
  have hZ2 := Blk.frm hF2 (fun h => h) hZ1
  have hR2 := Rd.frm hF2 (fun h => h) hR1
  have hG2 := Frm.trans hG1 hF2
  clear hF2 hZ1 hR1 hG1
  go_wp2_with fail
  refine (Two_k _ b off n cap 12 12 rfl f hR2 hf (by omega) (by omega) (two f 12) rfl).mono ?_
  rintro e w' ⟨rfl, m, rfl⟩
  go_wp2_with (refine wpList_storeWd rfl 37 _ _ rfl rfl W2.heap.size rfl (hdCells (ethHd port f)) (by kernel_rfl) (by kernel_rfl) _ _ (by kernel_rfl) (by kernel_rfl) (by kernel_rfl) ?_; intro W3 hF3 hB3; have hZ3 := Blk.frm hF3 (fun h => h) hZ2; have hR3 := Rd.frm hF3 (fun h => h) hR2; have hG3 := Frm.trans hG2 hF3; have hs3 := hZ2.lt; have hb3 := hR2.lt (by omega); have cT : W3.cell? ⟨W2.heap.size, 13, none⟩ = some (.int .i64 (two f 12)) := hB3.cell rfl; have c14 : W3.cell? ⟨b, off + 14, none⟩ = some (.int .u8 (f 14)) := hR3.at 14 (by omega); clear hF3 hZ2 hR2 hG2)
  refine (Two_k _ b off n cap 16 16 rfl f hR3 hf (by omega) (by omega) (two f 16) rfl).mono ?_
  rintro e w' ⟨rfl, m16, rfl⟩
  go_wp2_with (refine wpList_storeV rfl 37 _ _ rfl rfl w.heap.size 0 (hdCells Hd.zero) (by kernel_rfl) (by kernel_rfl) _ _ (Blk.drewN hZ3 m16) (by kernel_rfl) (by kernel_rfl) (by simp [hdCells]) (hdCells Hd.zero) (by kernel_rfl) ?_; intro W9 hF9 hB9)
  all_goals (refine ret_blk_tmp3 (p := 4) (u1 := 5) (u2 := 6) (u3 := 7) Try.results13 rfl w.heap.size 37 (hdCells Hd.zero) _ rfl (.int .i64 0) (.int .i64 0) (.int .i64 2) rfl rfl rfl hB9 Try.underlying37 rfl (by kernel_rfl) ⟨rfl, ?_⟩; exact Frm.own (Frm.drewN hG3 m16) hF9 (fun k hk => by omega))

set_option maxHeartbeats 4000000 in
theorem RParse_cut (w : World) (port : Int) (b off n cap L : Nat) (f : Nat → Int) (h0 : 0 ≤ port) (h1 : port ≤ 255) (hr : Rd w b off n f) (hf : Byt f) (h14 : 14 ≤ n) (hc : n ≤ cap) (hl : n ≤ 1514) (ht : two f 12 = 2048) (h34 : 34 ≤ n) (hL : f 14 % 16 * 4 = (L : Int)) (h4 : f 14 / 16 = 4) (h20 : 20 ≤ L) (hall : L ≤ two f 16) (h : (n : Int) < 14 + two f 16) :
    Calls Try.prog 13 #[.int .i64 port, .slice (some ⟨b, off, none⟩) n cap] w fun e w' => e = .returned (.tuple #[.agg (hdCells Hd.zero), .int .i64 0, .int .i64 0, .int .i64 10]) ∧ Frm (fun _ => False) w w' := by
  have ht' : ((two f 12) != 2048) = false := by simpa using ht
  have HT := Lib.hid ht
  clear ht
  have b0 := hf 14
  have bt := two_le hf 16
  have hL0 : (L : Int) = f 14 % 16 * 4 := hL.symm
  have hLle : L ≤ 60 := by omega
  clear hL0
  go_enter Try.func13, Try.ntmps13
  go_wp2_with fail
  refine (six_c _ b off n cap 0 0 rfl f (hr.alloc) hf (by omega) (by omega) #[.int .u8 (f 0), .int .u8 (f 1), .int .u8 (f 2), .int .u8 (f 3), .int .u8 (f 4), .int .u8 (f 5)] (by simp [six])).mono ?_
  rintro e W1 ⟨rfl, hF1⟩
  have hZ1 : Blk W1 w.heap.size (hdCells Hd.zero) 37 := Blk.frm hF1 (fun h => h) Blk.new
  have hR1 := Rd.frm hF1 (fun h => h) hr.alloc
  have hG1 : Frm (fun _ => False) w W1 := Frm.trans (Frm.alloc (Frm.refl _ w)) hF1
  clear hF1
  go_wp2_with fail
  refine (six_c _ b off n cap 6 6 rfl f hR1 hf (by omega) (by omega) #[.int .u8 (f 6), .int .u8 (f 7), .int .u8 (f 8), .int .u8 (f 9), .int .u8 (f 10), .int .u8 (f 11)] (by simp [six])).mono ?_
  rintro e W2 ⟨rfl, hF2⟩
  have hZ2 := Blk.frm hF2 (fun h => h) hZ1
  have hR2 := Rd.frm hF2 (fun h => h) hR1
  have hG2 := Frm.trans hG1 hF2
  clear hF2 hZ1 hR1 hG1
  go_wp2_with fail
  refine (Two_k _ b off n cap 12 12 rfl f hR2 hf (by omega) (by omega) (two f 12) rfl).mono ?_
  rintro e w' ⟨rfl, m, rfl⟩
  go_wp2_with (refine wpList_storeWd rfl 37 _ _ rfl rfl W2.heap.size rfl (hdCells (ethHd port f)) (by kernel_rfl) (by kernel_rfl) _ _ (by kernel_rfl) (by kernel_rfl) (by kernel_rfl) ?_; intro W3 hF3 hB3; have hZ3 := Blk.frm hF3 (fun h => h) hZ2; have hR3 := Rd.frm hF3 (fun h => h) hR2; have hG3 := Frm.trans hG2 hF3; have hs3 := hZ2.lt; have hb3 := hR2.lt (by omega); have cT : W3.cell? ⟨W2.heap.size, 13, none⟩ = some (.int .i64 (two f 12)) := hB3.cell rfl; have c14 : W3.cell? ⟨b, off + 14, none⟩ = some (.int .u8 (f 14)) := hR3.at 14 (by omega); clear hF3 hZ2 hR2 hG2)
  refine (Two_k _ b off n cap 16 16 rfl f hR3 hf (by omega) (by omega) (two f 16) rfl).mono ?_
  rintro e w' ⟨rfl, m16, rfl⟩
  go_wp2_with (refine wpList_storeV rfl 37 _ _ rfl rfl w.heap.size 0 (hdCells Hd.zero) (by kernel_rfl) (by kernel_rfl) _ _ (Blk.drewN hZ3 m16) (by kernel_rfl) (by kernel_rfl) (by simp [hdCells]) (hdCells Hd.zero) (by kernel_rfl) ?_; intro W9 hF9 hB9)
  all_goals (refine ret_blk_tmp3 (p := 4) (u1 := 5) (u2 := 6) (u3 := 7) Try.results13 rfl w.heap.size 37 (hdCells Hd.zero) _ rfl (.int .i64 0) (.int .i64 0) (.int .i64 10) rfl rfl rfl hB9 Try.underlying37 rfl (by kernel_rfl) ⟨rfl, ?_⟩; exact Frm.own (Frm.drewN hG3 m16) hF9 (fun k hk => by omega))

set_option maxHeartbeats 4000000 in
theorem RParse_sum (w : World) (port : Int) (b off n cap L : Nat) (f : Nat → Int) (h0 : 0 ≤ port) (h1 : port ≤ 255) (hr : Rd w b off n f) (hf : Byt f) (h14 : 14 ≤ n) (hc : n ≤ cap) (hl : n ≤ 1514) (ht : two f 12 = 2048) (h34 : 34 ≤ n) (hL : f 14 % 16 * 4 = (L : Int)) (h4 : f 14 / 16 = 4) (h20 : 20 ≤ L) (hall : L ≤ two f 16) (hn : 14 + two f 16 ≤ (n : Int)) (h : fc (total (fun i => f (14 + i)) L) ≠ 65535) :
    Calls Try.prog 13 #[.int .i64 port, .slice (some ⟨b, off, none⟩) n cap] w fun e w' => e = .returned (.tuple #[.agg (hdCells Hd.zero), .int .i64 0, .int .i64 0, .int .i64 11]) ∧ Frm (fun _ => False) w w' := by
  have ht' : ((two f 12) != 2048) = false := by simpa using ht
  have HT := Lib.hid ht
  clear ht
  have b0 := hf 14
  have bt := two_le hf 16
  have hL0 : (L : Int) = f 14 % 16 * 4 := hL.symm
  have hLle : L ≤ 60 := by omega
  clear hL0
  have hh : ((fc (total (fun i => f (14 + i)) L)) != 65535) = true := by simpa using h
  go_enter Try.func13, Try.ntmps13
  go_wp2_with fail
  refine (six_c _ b off n cap 0 0 rfl f (hr.alloc) hf (by omega) (by omega) #[.int .u8 (f 0), .int .u8 (f 1), .int .u8 (f 2), .int .u8 (f 3), .int .u8 (f 4), .int .u8 (f 5)] (by simp [six])).mono ?_
  rintro e W1 ⟨rfl, hF1⟩
  have hZ1 : Blk W1 w.heap.size (hdCells Hd.zero) 37 := Blk.frm hF1 (fun h => h) Blk.new
  have hR1 := Rd.frm hF1 (fun h => h) hr.alloc
  have hG1 : Frm (fun _ => False) w W1 := Frm.trans (Frm.alloc (Frm.refl _ w)) hF1
  clear hF1
  go_wp2_with fail
  refine (six_c _ b off n cap 6 6 rfl f hR1 hf (by omega) (by omega) #[.int .u8 (f 6), .int .u8 (f 7), .int .u8 (f 8), .int .u8 (f 9), .int .u8 (f 10), .int .u8 (f 11)] (by simp [six])).mono ?_
  rintro e W2 ⟨rfl, hF2⟩
  have hZ2 := Blk.frm hF2 (fun h => h) hZ1
  have hR2 := Rd.frm hF2 (fun h => h) hR1
  have hG2 := Frm.trans hG1 hF2
  clear hF2 hZ1 hR1 hG1
  go_wp2_with fail
  refine (Two_k _ b off n cap 12 12 rfl f hR2 hf (by omega) (by omega) (two f 12) rfl).mono ?_
  rintro e w' ⟨rfl, m, rfl⟩
  go_wp2_with (refine wpList_storeWd rfl 37 _ _ rfl rfl W2.heap.size rfl (hdCells (ethHd port f)) (by kernel_rfl) (by kernel_rfl) _ _ (by kernel_rfl) (by kernel_rfl) (by kernel_rfl) ?_; intro W3 hF3 hB3; have hZ3 := Blk.frm hF3 (fun h => h) hZ2; have hR3 := Rd.frm hF3 (fun h => h) hR2; have hG3 := Frm.trans hG2 hF3; have hs3 := hZ2.lt; have hb3 := hR2.lt (by omega); have cT : W3.cell? ⟨W2.heap.size, 13, none⟩ = some (.int .i64 (two f 12)) := hB3.cell rfl; have c14 : W3.cell? ⟨b, off + 14, none⟩ = some (.int .u8 (f 14)) := hR3.at 14 (by omega); clear hF3 hZ2 hR2 hG2)
  refine (Two_k _ b off n cap 16 16 rfl f hR3 hf (by omega) (by omega) (two f 16) rfl).mono ?_
  rintro e w' ⟨rfl, m16, rfl⟩
  go_wp2_with fail
  refine (Sum_k _ b (off + 14) _ _ L (by omega) (fun i => f (14 + i)) ((hR3.sub 14 L (by omega)).drewN _) (hf.sub 14) (by omega) _ rfl).mono ?_
  rintro e w' ⟨rfl, rfl⟩
  go_wp2_with (refine wpList_storeV rfl 37 _ _ rfl rfl w.heap.size 0 (hdCells Hd.zero) (by kernel_rfl) (by kernel_rfl) _ _ (Blk.drewN hZ3 m16) (by kernel_rfl) (by kernel_rfl) (by simp [hdCells]) (hdCells Hd.zero) (by kernel_rfl) ?_; intro W9 hF9 hB9)
  all_goals (refine ret_blk_tmp3 (p := 4) (u1 := 5) (u2 := 6) (u3 := 7) Try.results13 rfl w.heap.size 37 (hdCells Hd.zero) _ rfl (.int .i64 0) (.int .i64 0) (.int .i64 11) rfl rfl rfl hB9 Try.underlying37 rfl (by kernel_rfl) ⟨rfl, ?_⟩; exact Frm.own (Frm.drewN hG3 m16) hF9 (fun k hk => by omega))

end Go.Proofs.Ytpjjlggonpbegaa
