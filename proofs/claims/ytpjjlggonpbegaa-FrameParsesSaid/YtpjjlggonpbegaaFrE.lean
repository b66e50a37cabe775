/- (*frame.Pack).packet where nothing is wrong and there are no ports. -/
import Derived.Test.YtpjjlggonpbegaaFrD
namespace Go.Proofs.Ytpjjlggonpbegaa
open Go.RowKit

set_option maxHeartbeats 4000000 in
theorem packet_noports (w : World) (bp b off n cap L : Nat) (f : Nat → Int) (W : Hd) (raw : ByteArray) (T : TypeId) (hr : Rd w b off n f) (hf : Byt f) (h34 : 34 ≤ n) (hn64 : n ≤ 2000) (hc : n ≤ cap)
    (h4 : f 14 / 16 = 4) (hL : f 14 % 16 * 4 = (L : Int)) (hi20 : 20 ≤ L) (hall : L ≤ two f 16) (hn : 14 + two f 16 ≤ (n : Int)) (hs : fc (total (fun i => f (14 + i)) L) = 65535)
    (hne : b ≠ bp) (hB : Blk w bp (pkCells Hd.zero W raw 0 0) T) (hno : (f 23 ≠ 6 ∧ f 23 ≠ 17) ∨ two f 20 % 8192 ≠ 0 ∨ two f 16 - L < 8) :
    Calls Try.prog 26 #[.pointer (some ⟨bp, 0, none⟩), .slice (some ⟨b, off, none⟩) n cap] w fun e w' => e = .returned (.int .i64 0) ∧ Frm (· = bp) w w' ∧
      Blk w' bp (pkCells Hd.zero { W with sip := four f 26, dip := four f 30, proto := f 23 } raw 0 (14 + two f 16)) T := by
  have b0 := hf 14
  have r0 := hr 14 (by omega)
  have b23 := hf 23
  have r23 := hr 23 (by omega)
  have bt := two_le hf 16
  have bt20 := two_le hf 20
  have bs := four_le hf 26
  have bd := four_le hf 30
  have r2 := hr.sub 16 2 (by omega)
  have r26 := hr.sub 26 4 (by omega)
  have r30 := hr.sub 30 4 (by omega)
  have r20 := hr.sub 20 2 (by omega)
  have rl := hr.sub 14 L (by omega)
  have hb2 := hf.sub 16
  have hb14 := hf.sub 14
  have hb26 := hf.sub 26
  have hb30 := hf.sub 30
  have hb20 := hf.sub 20
  have em : bits .and .u8 (f 14) 15 = f 14 % 16 := u8_and15 (f 14) (by omega) (by omega)
  have em13 : bits .and .i64 (two f 20) 8191 = two f 20 % 8192 := i64_and13 _ (by omega) (by omega)
  have hh : (20 : Int) ≤ ((n - 14 : Nat) : Int) := by omega
  have hk2 : 2 ≤ n - 14 - 2 := by omega
  have hk4 : 4 ≤ n - 26 := by omega
  have hk4' : 4 ≤ n - 30 := by omega
  have hc26 : n - 26 ≤ cap - 26 := by omega
  have hc30 : n - 30 ≤ cap - 30 := by omega
  have n26 : (26 : Int) ≤ (n : Int) := by omega
  have n30 : (30 : Int) ≤ (n : Int) := by omega
  have c26 : ¬ cap = 26 := by omega
  have c30 : ¬ cap = 30 := by omega
  have hlt : ¬ ((n - 14 : Nat) : Int) < two f 16 := by omega
  have HS := Lib.hid hs
  clear hs
  have cE : w.cell? ⟨bp, 40, none⟩ = some (.int .i64 0) := hB.cell rfl
  have cP : w.cell? ⟨bp, 39, none⟩ = some (.int .i64 0) := hB.cell rfl
  have c14 : w.cell? ⟨bp, 33, none⟩ = some (.int .u32 W.sip) := hB.cell rfl
  have c15 : w.cell? ⟨bp, 34, none⟩ = some (.int .u32 W.dip) := hB.cell rfl
  have c16 : w.cell? ⟨bp, 35, none⟩ = some (.int .i64 W.proto) := hB.cell rfl
  have c17 : w.cell? ⟨bp, 36, none⟩ = some (.int .i64 W.sp) := hB.cell rfl
  have c18 : w.cell? ⟨bp, 37, none⟩ = some (.int .i64 W.dp) := hB.cell rfl
  have fz : ∀ i, w.frozen? ⟨bp, i, none⟩ = false := fun i => hB.frozen i
  have f33 := fz 33
  have f34 := fz 34
  have f35 := fz 35
  have f36 := fz 36
  have f37 := fz 37
  have f39 := fz 39
  have f40 := fz 40
  clear fz
  go_enter Try.func26, Try.ntmps26
  go_wp2_with fail
  go_quiet ((go_at_call 25; with_reducible exact Calls.quiet_of (get_c _ _ _ _ _ (fun i => f (16 + i)) (r2.drewN _) hb2 hk2 (two f 16) rfl)))
  go_wp2_with fail
  refine (check_c _ _ _ _ _ (fun i => f (14 + i)) (rl.drewN _) hb14 (by omega) (by omega)).mono ?_
  rintro e w' ⟨rfl, m', rfl⟩
  rw [HS.out]
  go_wp2_with fail
  go_region_held3 (fun _ => True) (trivial) ((first | (go_at_call 30; (with_reducible refine (getAddr_c _ b (off + 26) _ _ (fun i => f (26 + i)) ?_ hb26 hk4 hc26 (four f 26) rfl).mono ?_); (repeat (first | with_reducible exact r26 | with_reducible refine Rd.setCell hne ?_ | with_reducible refine Rd.drew ?_ | (with_reducible refine Rd.drewN ?_ _))); rintro e w' ⟨rfl, m, rfl⟩) | (go_at_call 30; (with_reducible refine (getAddr_c _ b (off + 30) _ _ (fun i => f (30 + i)) ?_ hb30 hk4' hc30 (four f 30) rfl).mono ?_); (repeat (first | with_reducible exact r30 | with_reducible refine Rd.setCell hne ?_ | with_reducible refine Rd.drew ?_ | (with_reducible refine Rd.drewN ?_ _))); rintro e w' ⟨rfl, m, rfl⟩)))
  go_wp2_with fail
  refine (get_c _ _ _ _ _ (fun i => f (20 + i)) ?_ hb20 (by omega) (two f 20) rfl).mono ?_
  · repeat (first | with_reducible exact r20 | with_reducible refine Rd.setCell hne ?_ | with_reducible refine Rd.drew ?_ | (with_reducible refine Rd.drewN ?_ _))
  rintro e w' ⟨rfl, m3, rfl⟩
  go_wp2_with fail
  all_goals go_ret
  all_goals first | exact ⟨rfl, noports_done hB⟩ | (have h6 : f 23 = 6 := (by assumption); rw [h6]; exact ⟨rfl, noports_done hB⟩) | (have h17 : f 23 = 17 := (by assumption); rw [h17]; exact ⟨rfl, noports_done hB⟩)
end Go.Proofs.Ytpjjlggonpbegaa
