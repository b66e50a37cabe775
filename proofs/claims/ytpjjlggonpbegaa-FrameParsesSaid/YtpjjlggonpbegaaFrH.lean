/- frame.Parse of IPv4. -/
import Derived.Test.YtpjjlggonpbegaaFrG
import Derived.Test.YtpjjlggonpbegaaFrE2
namespace Go.Proofs.Ytpjjlggonpbegaa
open Go.RowKit

set_option maxHeartbeats 4000000 in
theorem Parse_bad (w : World) (port : Int) (b off n cap : Nat) (f : Nat → Int) (h0 : 0 ≤ port) (h1 : port ≤ 255) (hr : Rd w b off n f) (hf : Byt f) (h14 : 14 ≤ n) (hc : n ≤ cap) (hl : n ≤ 1514) (ht : two f 12 = 2048) (hk : pkErr f n ≠ 0) :
    Calls Try.prog 12 #[.int .i64 port, .slice (some ⟨b, off, none⟩) n cap] w fun e w' => e = .returned (.tuple #[packV Hd.zero Hd.zero ⟨#[]⟩ 0 0, .int .i64 (pkErr f n)]) ∧ Frm (fun _ => False) w w' := by
  have r12 := hr.sub 12 2 (by omega)
  have hb12 := hf.sub 12
  have n6 : (6 : Int) ≤ (n : Int) := by omega
  have n12 : (12 : Int) ≤ (n : Int) := by omega
  have c12 : ¬ cap = 12 := by omega
  have c6 : ¬ cap = 6 := by omega
  have c0 : ¬ cap = 0 := by omega
  have cc6 : (6 : Int) ≤ (cap : Int) := by omega
  have cc12 : (12 : Int) ≤ (cap : Int) := by omega
  have dc6 : 6 ≤ cap := by omega
  have dc12 : 12 ≤ cap := by omega
  have k12 : 2 ≤ n - 12 := by omega
  have q0 := hr 0 (by omega)
  have q1 := hr 1 (by omega)
  have q2 := hr 2 (by omega)
  have q3 := hr 3 (by omega)
  have q4 := hr 4 (by omega)
  have q5 := hr 5 (by omega)
  have q6 := hr 6 (by omega)
  have q7 := hr 7 (by omega)
  have q8 := hr 8 (by omega)
  have q9 := hr 9 (by omega)
  have q10 := hr 10 (by omega)
  have q11 := hr 11 (by omega)
  simp only [Nat.add_zero] at q0
  have hbw := hr.lt (by omega)
  have ht' : ((two f 12) == 2048) = true := by simpa using ht
  have hke : (pkErr f n != 0) = true := by simpa using hk
  have HT := Lib.hid ht
  clear ht
  have hA := fun (W : World) (n cap : Nat) (a : Option Addr) (hm : 6 ≤ n) => run_arrayAt (P := Try.prog) W 26 5 6 n cap a Try.underlying26 hm
  have hk1 : ∀ o : Obj, (w.alloc o).heap.size = w.heap.size + 1 := fun o => by simp
  go_enter Try.func12, Try.ntmps12
  go_wp2_with fail
  rw [run_convert_bytes_arg _ 22 5 Try.underlying22 Try.underlying5 b off n cap (bl f n) (bl_len _ _) (Rd.list (Rd.alloc hr)) 9 Try.underlying9]
  go_wp2_with (refine wpList_storeN rfl 32 _ _ rfl rfl (w.heap.size + 1) (hk1 _) (pkCells Hd.zero Hd.zero (str f n) 0 0) (by kernel_rfl) (by kernel_rfl) _ _ (by kernel_rfl) (by kernel_rfl) (by kernel_rfl) ?_)
  refine region_tail 14 (by kernel_rfl) (by kernel_rfl) ?_
  simp only [List.take_succ_cons, List.take_zero, List.drop_succ_cons, List.drop_zero]
  repeat (quiet_step ((go_at_call 25; with_reducible exact Calls.quiet_of (get_c _ b (off + 12) _ _ (fun i => f (12 + i)) (((r12.alloc).alloc).drewN _) hb12 k12 (two f 12) rfl))))
  refine wpQuiet_nil ?_
  intro m
  refine wpList_storeV rfl 30 _ _ rfl rfl (w.heap.size + 1) 19 (hdCells (ethHd port f)) (by kernel_rfl) (by kernel_rfl) (pkCells Hd.zero Hd.zero (str f n) 0 0) 32 (Blk.drewN Blk.new2 _) (by kernel_rfl) (by kernel_rfl) (by simp [pkCells, hdCells]) (pkCells Hd.zero (ethHd port f) (str f n) 0 0) (by kernel_rfl) ?_
  intro W2 hF hB
  have hne : ¬ (w.heap.size = w.heap.size + 1) := by omega
  have hZ : Blk W2 w.heap.size (pkCells Hd.zero Hd.zero ⟨#[]⟩ 0 0) 32 := Blk.frm hF hne (Blk.drewN (Blk.alloc Blk.new) _)
  have hF2 : Frm (fun _ => False) w W2 := Frm.own (Frm.drewN (Frm.alloc (Frm.alloc (Frm.refl _ _))) _) hF (fun k hk => by omega)
  have cT : W2.cell? ⟨w.heap.size + 1, 32, none⟩ = some (.int .i64 (two f 12)) := hB.cell rfl
  have hFr := hF
  have hbf : ¬ (b = w.heap.size + 1) := by omega
  have hr' := (((hr.alloc (o := .cells (pkCells Hd.zero Hd.zero ⟨#[]⟩ 0 0) 32)).alloc (o := .cells (pkCells Hd.zero Hd.zero (str f n) 0 0) 32)).drewN m)
  have hRd : Rd W2 b off n f := Rd.frm hFr hbf hr'
  clear hFr hr'
  clear hF q0 q1 q2 q3 q4 q5 q6 q7 q8 q9 q10 q11
  go_wp2_with fail
  refine (packet_err _ _ b off n cap f hRd hf h14 hc (by omega) hk).mono ?_
  rintro e w' ⟨rfl, m2, rfl⟩
  go_wp2_with (refine wpList_storeV rfl 32 _ _ rfl rfl w.heap.size 0 (pkCells Hd.zero Hd.zero ⟨#[]⟩ 0 0) (by kernel_rfl) (by kernel_rfl) _ _ (Blk.drewN hZ _) (by kernel_rfl) (by kernel_rfl) (by simp [pkCells]) (pkCells Hd.zero Hd.zero ⟨#[]⟩ 0 0) (by kernel_rfl) ?_; intro W4 hF4 hB4)
  refine ret_blk_tmp (p := 4) (u := 5) Try.results12 rfl w.heap.size 32 (pkCells Hd.zero Hd.zero ⟨#[]⟩ 0 0) _ rfl (.int .i64 (pkErr f n)) rfl hB4 Try.underlying32 rfl (by kernel_rfl) ⟨rfl, ?_⟩
  exact Frm.own (Frm.drewN hF2 _) hF4 (fun k hk => by omega)

set_option maxHeartbeats 4000000 in
theorem Parse_ip (w : World) (port : Int) (b off n cap : Nat) (f : Nat → Int) (h0 : 0 ≤ port) (h1 : port ≤ 255) (hr : Rd w b off n f) (hf : Byt f) (h14 : 14 ≤ n) (hc : n ≤ cap) (hl : n ≤ 1514) (ht : two f 12 = 2048) (hk : pkErr f n = 0) :
    Calls Try.prog 12 #[.int .i64 port, .slice (some ⟨b, off, none⟩) n cap] w fun e w' => e = .returned (.tuple #[packV (pkHd f (ethHd port f)) (pkHd f (ethHd port f)) (str f n) (pOf f) (14 + two f 16), .int .i64 0]) ∧ Frm (fun _ => False) w w' := by
  have r12 := hr.sub 12 2 (by omega)
  have hb12 := hf.sub 12
  have n6 : (6 : Int) ≤ (n : Int) := by omega
  have n12 : (12 : Int) ≤ (n : Int) := by omega
  have c12 : ¬ cap = 12 := by omega
  have c6 : ¬ cap = 6 := by omega
  have c0 : ¬ cap = 0 := by omega
  have cc6 : (6 : Int) ≤ (cap : Int) := by omega
  have cc12 : (12 : Int) ≤ (cap : Int) := by omega
  have dc6 : 6 ≤ cap := by omega
  have dc12 : 12 ≤ cap := by omega
  have k12 : 2 ≤ n - 12 := by omega
  have q0 := hr 0 (by omega)
  have q1 := hr 1 (by omega)
  have q2 := hr 2 (by omega)
  have q3 := hr 3 (by omega)
  have q4 := hr 4 (by omega)
  have q5 := hr 5 (by omega)
  have q6 := hr 6 (by omega)
  have q7 := hr 7 (by omega)
  have q8 := hr 8 (by omega)
  have q9 := hr 9 (by omega)
  have q10 := hr 10 (by omega)
  have q11 := hr 11 (by omega)
  simp only [Nat.add_zero] at q0
  have hbw := hr.lt (by omega)
  have ht' : ((two f 12) == 2048) = true := by simpa using ht
  have HK := Lib.hid hk
  clear hk
  have HT := Lib.hid ht
  clear ht
  have hA := fun (W : World) (n cap : Nat) (a : Option Addr) (hm : 6 ≤ n) => run_arrayAt (P := Try.prog) W 26 5 6 n cap a Try.underlying26 hm
  have hk1 : ∀ o : Obj, (w.alloc o).heap.size = w.heap.size + 1 := fun o => by simp
  go_enter Try.func12, Try.ntmps12
  go_wp2_with fail
  rw [run_convert_bytes_arg _ 22 5 Try.underlying22 Try.underlying5 b off n cap (bl f n) (bl_len _ _) (Rd.list (Rd.alloc hr)) 9 Try.underlying9]
  go_wp2_with (refine wpList_storeN rfl 32 _ _ rfl rfl (w.heap.size + 1) (hk1 _) (pkCells Hd.zero Hd.zero (str f n) 0 0) (by kernel_rfl) (by kernel_rfl) _ _ (by kernel_rfl) (by kernel_rfl) (by kernel_rfl) ?_)
  refine region_tail 14 (by kernel_rfl) (by kernel_rfl) ?_
  simp only [List.take_succ_cons, List.take_zero, List.drop_succ_cons, List.drop_zero]
  repeat (quiet_step ((go_at_call 25; with_reducible exact Calls.quiet_of (get_c _ b (off + 12) _ _ (fun i => f (12 + i)) (((r12.alloc).alloc).drewN _) hb12 k12 (two f 12) rfl))))
  refine wpQuiet_nil ?_
  intro m
  refine wpList_storeV rfl 30 _ _ rfl rfl (w.heap.size + 1) 19 (hdCells (ethHd port f)) (by kernel_rfl) (by kernel_rfl) (pkCells Hd.zero Hd.zero (str f n) 0 0) 32 (Blk.drewN Blk.new2 _) (by kernel_rfl) (by kernel_rfl) (by simp [pkCells, hdCells]) (pkCells Hd.zero (ethHd port f) (str f n) 0 0) (by kernel_rfl) ?_
  intro W2 hF hB
  have hne : ¬ (w.heap.size = w.heap.size + 1) := by omega
  have hZ : Blk W2 w.heap.size (pkCells Hd.zero Hd.zero ⟨#[]⟩ 0 0) 32 := Blk.frm hF hne (Blk.drewN (Blk.alloc Blk.new) _)
  have hF2 : Frm (fun _ => False) w W2 := Frm.own (Frm.drewN (Frm.alloc (Frm.alloc (Frm.refl _ _))) _) hF (fun k hk => by omega)
  have cT : W2.cell? ⟨w.heap.size + 1, 32, none⟩ = some (.int .i64 (two f 12)) := hB.cell rfl
  have hFr := hF
  have hbf : ¬ (b = w.heap.size + 1) := by omega
  have hr' := (((hr.alloc (o := .cells (pkCells Hd.zero Hd.zero ⟨#[]⟩ 0 0) 32)).alloc (o := .cells (pkCells Hd.zero Hd.zero (str f n) 0 0) 32)).drewN m)
  have hRd : Rd W2 b off n f := Rd.frm hFr hbf hr'
  clear hFr hr'
  clear hF q0 q1 q2 q3 q4 q5 q6 q7 q8 q9 q10 q11
  go_wp2_with fail
  refine (packet_okc _ _ b off n cap f (ethHd port f) (str f n) 32 hRd hf (by omega) hc HK.out hbf hB).mono ?_
  rintro e w' ⟨rfl, hFp, hBp⟩
  have hZp := Blk.frm hFp hne hZ
  have hF3 := Frm.own hF2 hFp (fun k hk => by omega)
  clear hFp hB hZ hF2 hRd cT
  go_wp2_with (first
    | (refine wpList_loadB rfl 30 _ rfl (w.heap.size + 1) 19 19 (by kernel_rfl) _ _ hBp _ Try.underlying30 rfl (by kernel_rfl) (by simp [pkCells]) (hdCells (pkHd f (ethHd port f))) (by kernel_rfl) ?_)
    | (refine wpList_storeV rfl 30 _ _ rfl rfl (w.heap.size + 1) 0 (hdCells (pkHd f (ethHd port f))) (by kernel_rfl) (by kernel_rfl) _ _ hBp (by kernel_rfl) (by kernel_rfl) (by simp [pkCells, hdCells]) (pkCells (pkHd f (ethHd port f)) (pkHd f (ethHd port f)) (str f n) (pOf f) (14 + two f 16)) (by kernel_rfl) ?_; intro W3 hFq hBq)
    | (refine wpList_loadB rfl 32 _ rfl (w.heap.size + 1) 0 41 (by kernel_rfl) _ _ hBq _ Try.underlying32 rfl (by kernel_rfl) (by simp [pkCells]) (pkCells (pkHd f (ethHd port f)) (pkHd f (ethHd port f)) (str f n) (pOf f) (14 + two f 16)) (by kernel_rfl) ?_)
    | (refine wpList_storeV rfl 32 _ _ rfl rfl w.heap.size 0 (pkCells (pkHd f (ethHd port f)) (pkHd f (ethHd port f)) (str f n) (pOf f) (14 + two f 16)) (by kernel_rfl) (by kernel_rfl) _ _ (Blk.frm hFq hne hZp) (by kernel_rfl) (by kernel_rfl) (by simp [pkCells]) (pkCells (pkHd f (ethHd port f)) (pkHd f (ethHd port f)) (str f n) (pOf f) (14 + two f 16)) (by kernel_rfl) ?_; intro W4 hF4 hB4))
  refine ret_blk_tmp (p := 4) (u := 5) Try.results12 rfl w.heap.size 32 (pkCells (pkHd f (ethHd port f)) (pkHd f (ethHd port f)) (str f n) (pOf f) (14 + two f 16)) _ rfl (.int .i64 0) rfl hB4 Try.underlying32 rfl (by kernel_rfl) ⟨rfl, ?_⟩
  exact Frm.own (Frm.own hF3 hFq (fun k hk => by omega)) hF4 (fun k hk => by omega)
end Go.Proofs.Ytpjjlggonpbegaa
