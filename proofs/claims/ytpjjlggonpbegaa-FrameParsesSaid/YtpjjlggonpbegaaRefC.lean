/- carrefourref05.Parse where nothing is wrong. -/
import Derived.Test.YtpjjlggonpbegaaRefB
namespace Go.Proofs.Ytpjjlggonpbegaa
open Go.RowKit

theorem rports_done {w : World} {g m1 m2 m3 m4 m5 : Nat} {H : Hd} {T : TypeId} {a b c d e : Int} (hB : Blk w g (hdCells H) T) :
    Frm (fun k => k = g) w ((((((((((w.drewN m1).setCell ⟨g, 16, none⟩ (.int .i64 a)).drewN m2).setCell ⟨g, 14, none⟩ (.int .u32 b)).drewN m3).setCell ⟨g, 15, none⟩ (.int .u32 c)).drewN m4).setCell ⟨g, 17, none⟩ (.int .i64 d)).drewN m5).setCell ⟨g, 18, none⟩ (.int .i64 e)) ∧
    Blk ((((((((((w.drewN m1).setCell ⟨g, 16, none⟩ (.int .i64 a)).drewN m2).setCell ⟨g, 14, none⟩ (.int .u32 b)).drewN m3).setCell ⟨g, 15, none⟩ (.int .u32 c)).drewN m4).setCell ⟨g, 17, none⟩ (.int .i64 d)).drewN m5).setCell ⟨g, 18, none⟩ (.int .i64 e)) g
      (hdCells { H with proto := a, sip := b, dip := c, sp := d, dp := e }) T :=
  ⟨Frm.set1 (Frm.drewN (Frm.set1 (Frm.drewN (Frm.set1 (Frm.drewN (Frm.set1 (Frm.drewN (Frm.set1 (Frm.drewN (Frm.refl _ _) _)) _)) _)) _)) _),
   Blk.conv (Blk.setCell (Blk.drewN (Blk.setCell (Blk.drewN (Blk.setCell (Blk.drewN (Blk.setCell (Blk.drewN (Blk.setCell (Blk.drewN hB _)) _)) _)) _)) _)) (by kernel_rfl)⟩

set_option maxHeartbeats 4000000 in
theorem RParse_ports (w : World) (port : Int) (b off n cap L : Nat) (f : Nat → Int) (h0 : 0 ≤ port) (h1 : port ≤ 255) (hr : Rd w b off n f) (hf : Byt f) (h14 : 14 ≤ n) (hc : n ≤ cap) (hl : n ≤ 1514) (ht : two f 12 = 2048) (h34 : 34 ≤ n) (hL : f 14 % 16 * 4 = (L : Int)) (h4 : f 14 / 16 = 4) (h20 : 20 ≤ L) (hall : L ≤ two f 16) (hn : 14 + two f 16 ≤ (n : Int)) (hs : fc (total (fun i => f (14 + i)) L) = 65535) (hp1 : f 23 = 6 ∨ f 23 = 17) (hp2 : two f 20 % 8192 = 0) (hp3 : 8 ≤ two f 16 - L) :
    Calls Try.prog 13 #[.int .i64 port, .slice (some ⟨b, off, none⟩) n cap] w fun e w' => e = .returned (.tuple #[.agg (hdCells { (ethHd port f) with sip := four f 26, dip := four f 30, proto := f 23, sp := two f (14 + L), dp := two f (14 + L + 2) }), .int .i64 (14 + L), .int .i64 (14 + two f 16), .int .i64 0]) ∧ Frm (fun _ => False) w w' := by
  have ht' : ((two f 12) != 2048) = false := by simpa using ht
  have HT := Lib.hid ht
  clear ht
  have b0 := hf 14
  have bt := two_le hf 16
  have hL0 : (L : Int) = f 14 % 16 * 4 := hL.symm
  have hLle : L ≤ 60 := by omega
  clear hL0
  have b23 := hf 23
  have b26 := four_le hf 26
  have b30 := four_le hf 30
  have b20 := two_le hf 20
  have bP := two_le hf (14 + L)
  have bP2 := two_le hf (14 + L + 2)
  have HS := Lib.hid hs
  clear hs
  go_enter Try.func13, Try.ntmps13
  go_wp2_with fail
  refine (six_c _ b off n cap 0 0 rfl f (hr.alloc) hf (by omega) (by omega) #[.int .u8 (f 0), .int .u8 (f 1), .int .u8 (f 2), .int .u8 (f 3), .int .u8 (f 4), .int .u8 (f 5)] (by simp [six])).mono ?_
  rintro e W1 ⟨rfl, hF1⟩
  have hZ1 : Blk W1 w.heap.size (hdCells Hd.zero) 37 := Blk.frm hF1 (fun h => h) Blk.new
  have hR1 := Rd.frm hF1 (fun h => h) hr.alloc
  have hG1 : Frm (fun _ => False) w W1 := Frm.trans (Frm.alloc (Frm.refl _ w)) hF1
  clear hF1
  go_wp2_with fail
  refine (six_c _ b off n cap 6 6 rfl f hR1 hf (by omega) (by omega) #[.int .u8 (f 6), .int .u8 (f 7), .int .u8 (f 8), .int .u8 (f 9), .int .u8 (f 10), .int .u8 (f 11)] (by simp [six])).mono ?_
  rintro e W2 ⟨rfl, hF2⟩
  have hZ2 := Blk.frm hF2 (fun h => h) hZ1
  have hR2 := Rd.frm hF2 (fun h => h) hR1
  have hG2 := Frm.trans hG1 hF2
  clear hF2 hZ1 hR1 hG1
  go_wp2_with fail
  refine (Two_k _ b off n cap 12 12 rfl f hR2 hf (by omega) (by omega) (two f 12) rfl).mono ?_
  rintro e w' ⟨rfl, m, rfl⟩
  go_wp2_with (refine wpList_storeWd rfl 37 _ _ rfl rfl W2.heap.size rfl (hdCells (ethHd port f)) (by kernel_rfl) (by kernel_rfl) _ _ (by kernel_rfl) (by kernel_rfl) (by kernel_rfl) ?_; intro W3 hF3 hB3; have hZ3 := Blk.frm hF3 (fun h => h) hZ2; have hR3 := Rd.frm hF3 (fun h => h) hR2; have hG3 := Frm.trans hG2 hF3; have hs3 := hZ2.lt; have hb3 := hR2.lt (by omega); have cT : W3.cell? ⟨W2.heap.size, 13, none⟩ = some (.int .i64 (two f 12)) := hB3.cell rfl; have c14 : W3.cell? ⟨b, off + 14, none⟩ = some (.int .u8 (f 14)) := hR3.at 14 (by omega); have c23 : W3.cell? ⟨b, off + 23, none⟩ = some (.int .u8 (f 23)) := hR3.at 23 (by omega); have d14 : W3.cell? ⟨W2.heap.size, 14, none⟩ = some (.int .u32 0) := hB3.cell rfl; have d15 : W3.cell? ⟨W2.heap.size, 15, none⟩ = some (.int .u32 0) := hB3.cell rfl; have d16 : W3.cell? ⟨W2.heap.size, 16, none⟩ = some (.int .i64 0) := hB3.cell rfl; have d17 : W3.cell? ⟨W2.heap.size, 17, none⟩ = some (.int .i64 0) := hB3.cell rfl; have d18 : W3.cell? ⟨W2.heap.size, 18, none⟩ = some (.int .i64 0) := hB3.cell rfl; have z14 := hB3.frozen 14; have z15 := hB3.frozen 15; have z16 := hB3.frozen 16; have z17 := hB3.frozen 17; have z18 := hB3.frozen 18; have hb8 : b ≠ W2.heap.size := (by omega); clear hF3 hZ2 hR2 hG2)
  refine (Two_k _ b off n cap 16 16 rfl f hR3 hf (by omega) (by omega) (two f 16) rfl).mono ?_
  rintro e w' ⟨rfl, m16, rfl⟩
  go_wp2_with fail
  refine (Sum_k _ b (off + 14) _ _ L (by omega) (fun i => f (14 + i)) ((hR3.sub 14 L (by omega)).drewN _) (hf.sub 14) (by omega) _ rfl).mono ?_
  rintro e w' ⟨rfl, rfl⟩
  rw [HS.out]
  go_wp2_with fail
  refine (Four_k _ b off n cap 26 26 rfl f (by repeat (first | with_reducible exact hR3 | with_reducible refine Rd.setCell hb8 ?_ | with_reducible refine Rd.drewN ?_ _)) hf (by omega) (by omega) (four f 26) rfl).mono ?_
  rintro e w' ⟨rfl, m26, rfl⟩
  go_wp2_with fail
  refine (Four_k _ b off n cap 30 30 rfl f (by repeat (first | with_reducible exact hR3 | with_reducible refine Rd.setCell hb8 ?_ | with_reducible refine Rd.drewN ?_ _)) hf (by omega) (by omega) (four f 30) rfl).mono ?_
  rintro e w' ⟨rfl, m30, rfl⟩
  go_wp2_with (first | (go_at_call 28; (with_reducible refine (Two_k _ b off n cap 20 20 rfl f ?_ hf (by omega) (by omega) (two f 20) rfl).mono ?_); (repeat (first | with_reducible exact hR3 | with_reducible refine Rd.setCell hb8 ?_ | with_reducible refine Rd.drewN ?_ _)); rintro e w' ⟨rfl, m20, rfl⟩))
  · have hlit : f 23 = 6 := by assumption
    refine (Two_k _ b off n cap _ (14 + L) (by omega) f (by repeat (first | with_reducible exact hR3 | with_reducible refine Rd.setCell hb8 ?_ | with_reducible refine Rd.drewN ?_ _)) hf (by omega) (by omega) (two f (14 + L)) rfl).mono ?_
    rintro e w' ⟨rfl, mP, rfl⟩
    go_wp2_with fail
    refine (Two_k _ b off n cap _ (14 + L + 2) (by omega) f (by repeat (first | with_reducible exact hR3 | with_reducible refine Rd.setCell hb8 ?_ | with_reducible refine Rd.drewN ?_ _)) hf (by omega) (by omega) (two f (14 + L + 2)) rfl).mono ?_
    rintro e w' ⟨rfl, mQ, rfl⟩
    obtain ⟨hF8, hB8⟩ := rports_done hB3 (m1 := m16) (m2 := m26) (m3 := m30) (m4 := m20 + mP) (m5 := mQ) (a := 6) (b := four f 26) (c := four f 30) (d := two f (14 + L)) (e := two f (14 + L + 2))
    have hZ8 := Blk.frm hF8 (by omega) hZ3
    have hG8 := Frm.own hG3 hF8 (fun k hk => by omega)
    clear cT d14 d15 d16 c14 c23 z14 z15 z16 hF8 hZ3 hG3
    go_wp2_with (first
      | (with_reducible refine wpList_loadB rfl 37 (.tmp 8) rfl W2.heap.size 0 19 (by kernel_rfl) _ _ hB8 _ Try.underlying37 (by kernel_rfl) (by kernel_rfl) (by simp [hdCells]) (hdCells { (ethHd port f) with sip := four f 26, dip := four f 30, proto := 6, sp := two f (14 + L), dp := two f (14 + L + 2) }) (by kernel_rfl) ?_)
      | (with_reducible refine wpList_storeV rfl 37 (.tmp 4) (.tmp 121) rfl rfl w.heap.size 0 (hdCells { (ethHd port f) with sip := four f 26, dip := four f 30, proto := 6, sp := two f (14 + L), dp := two f (14 + L + 2) }) (by kernel_rfl) (by kernel_rfl) _ _ hZ8 (by kernel_rfl) (by kernel_rfl) (by simp [hdCells]) (hdCells { (ethHd port f) with sip := four f 26, dip := four f 30, proto := 6, sp := two f (14 + L), dp := two f (14 + L + 2) }) (by kernel_rfl) ?_; intro W9 hF9 hB9))
    refine ret_blk_tmp3 (p := 4) (u1 := 5) (u2 := 6) (u3 := 7) Try.results13 rfl w.heap.size 37 (hdCells { (ethHd port f) with sip := four f 26, dip := four f 30, proto := 6, sp := two f (14 + L), dp := two f (14 + L + 2) }) _ rfl (.int .i64 (14 + L)) (.int .i64 (14 + two f 16)) (.int .i64 0) rfl rfl rfl hB9 Try.underlying37 rfl (by kernel_rfl) ⟨(by first | rfl | (rw [hlit]; done)), ?_⟩
    exact Frm.own hG8 hF9 (fun k hk => by omega)
  · have hlit : f 23 = 17 := by assumption
    refine (Two_k _ b off n cap _ (14 + L) (by omega) f (by repeat (first | with_reducible exact hR3 | with_reducible refine Rd.setCell hb8 ?_ | with_reducible refine Rd.drewN ?_ _)) hf (by omega) (by omega) (two f (14 + L)) rfl).mono ?_
    rintro e w' ⟨rfl, mP, rfl⟩
    go_wp2_with fail
    refine (Two_k _ b off n cap _ (14 + L + 2) (by omega) f (by repeat (first | with_reducible exact hR3 | with_reducible refine Rd.setCell hb8 ?_ | with_reducible refine Rd.drewN ?_ _)) hf (by omega) (by omega) (two f (14 + L + 2)) rfl).mono ?_
    rintro e w' ⟨rfl, mQ, rfl⟩
    obtain ⟨hF8, hB8⟩ := rports_done hB3 (m1 := m16) (m2 := m26) (m3 := m30) (m4 := m20 + mP) (m5 := mQ) (a := 17) (b := four f 26) (c := four f 30) (d := two f (14 + L)) (e := two f (14 + L + 2))
    have hZ8 := Blk.frm hF8 (by omega) hZ3
    have hG8 := Frm.own hG3 hF8 (fun k hk => by omega)
    clear cT d14 d15 d16 c14 c23 z14 z15 z16 hF8 hZ3 hG3
    go_wp2_with (first
      | (with_reducible refine wpList_loadB rfl 37 (.tmp 8) rfl W2.heap.size 0 19 (by kernel_rfl) _ _ hB8 _ Try.underlying37 (by kernel_rfl) (by kernel_rfl) (by simp [hdCells]) (hdCells { (ethHd port f) with sip := four f 26, dip := four f 30, proto := 17, sp := two f (14 + L), dp := two f (14 + L + 2) }) (by kernel_rfl) ?_)
      | (with_reducible refine wpList_storeV rfl 37 (.tmp 4) (.tmp 121) rfl rfl w.heap.size 0 (hdCells { (ethHd port f) with sip := four f 26, dip := four f 30, proto := 17, sp := two f (14 + L), dp := two f (14 + L + 2) }) (by kernel_rfl) (by kernel_rfl) _ _ hZ8 (by kernel_rfl) (by kernel_rfl) (by simp [hdCells]) (hdCells { (ethHd port f) with sip := four f 26, dip := four f 30, proto := 17, sp := two f (14 + L), dp := two f (14 + L + 2) }) (by kernel_rfl) ?_; intro W9 hF9 hB9))
    refine ret_blk_tmp3 (p := 4) (u1 := 5) (u2 := 6) (u3 := 7) Try.results13 rfl w.heap.size 37 (hdCells { (ethHd port f) with sip := four f 26, dip := four f 30, proto := 17, sp := two f (14 + L), dp := two f (14 + L + 2) }) _ rfl (.int .i64 (14 + L)) (.int .i64 (14 + two f 16)) (.int .i64 0) rfl rfl rfl hB9 Try.underlying37 rfl (by kernel_rfl) ⟨(by first | rfl | (rw [hlit]; done)), ?_⟩
    exact Frm.own hG8 hF9 (fun k hk => by omega)
end Go.Proofs.Ytpjjlggonpbegaa
