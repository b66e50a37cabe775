/- (*frame.Pack).packet: the IPv4 packet of a frame taken apart. -/
import Derived.Test.YtpjjlggonpbegaaFrB
import Derived.Deep.RegionWith
import Derived.Deep.RegionHeld3
import Derived.Deep.Cut
namespace Go.Proofs.Ytpjjlggonpbegaa
open Go.RowKit

/-- The fields of a header, as numbers. -/
structure Hd where
  port : Int
  src : Nat → Int
  dst : Nat → Int
  ty : Int
  sip : Int
  dip : Int
  proto : Int
  sp : Int
  dp : Int
def Hd.zero : Hd := ⟨0, fun _ => 0, fun _ => 0, 0, 0, 0, 0, 0, 0⟩
/-- The cells of a header. -/
def hdCells (H : Hd) : Array Value := #[
  .int .i64 H.port, .int .u8 (H.src 0), .int .u8 (H.src 1), .int .u8 (H.src 2), .int .u8 (H.src 3), .int .u8 (H.src 4), .int .u8 (H.src 5),
  .int .u8 (H.dst 0), .int .u8 (H.dst 1), .int .u8 (H.dst 2), .int .u8 (H.dst 3), .int .u8 (H.dst 4), .int .u8 (H.dst 5),
  .int .i64 H.ty, .int .u32 H.sip, .int .u32 H.dip, .int .i64 H.proto, .int .i64 H.sp, .int .i64 H.dp]
/-- The cells of a Pack. -/
def pkCells (H W : Hd) (raw : ByteArray) (ports end_ : Int) : Array Value := #[
  .int .i64 H.port, .int .u8 (H.src 0), .int .u8 (H.src 1), .int .u8 (H.src 2), .int .u8 (H.src 3), .int .u8 (H.src 4), .int .u8 (H.src 5),
  .int .u8 (H.dst 0), .int .u8 (H.dst 1), .int .u8 (H.dst 2), .int .u8 (H.dst 3), .int .u8 (H.dst 4), .int .u8 (H.dst 5),
  .int .i64 H.ty, .int .u32 H.sip, .int .u32 H.dip, .int .i64 H.proto, .int .i64 H.sp, .int .i64 H.dp,
  .int .i64 W.port, .int .u8 (W.src 0), .int .u8 (W.src 1), .int .u8 (W.src 2), .int .u8 (W.src 3), .int .u8 (W.src 4), .int .u8 (W.src 5),
  .int .u8 (W.dst 0), .int .u8 (W.dst 1), .int .u8 (W.dst 2), .int .u8 (W.dst 3), .int .u8 (W.dst 4), .int .u8 (W.dst 5),
  .int .i64 W.ty, .int .u32 W.sip, .int .u32 W.dip, .int .i64 W.proto, .int .i64 W.sp, .int .i64 W.dp,
  .string raw, .int .i64 ports, .int .i64 end_]

/-- What a frame's first bytes say. -/
def ethHd (port : Int) (f : Nat → Int) : Hd := { Hd.zero with port := port, dst := f, src := fun i => f (6 + i), ty := two f 12 }
/-- The header's bytes that an IPv4 packet says it has, and the packet's. -/
def ihl (f : Nat → Int) : Int := f 14 % 16 * 4
/-- What is wrong with a frame's IPv4 packet; 0: nothing. -/
def pkErr (f : Nat → Int) (n : Nat) : Int :=
  if n < 34 then 10 else if f 14 / 16 ≠ 4 ∨ ihl f < 20 ∨ two f 16 < ihl f then 2 else if (n : Int) < 14 + two f 16 then 10
  else if fc (total (fun i => f (14 + i)) (ihl f).toNat) ≠ 65535 then 11 else 0

set_option maxHeartbeats 400000 in
theorem packet_short (w : World) (bp b off n cap : Nat) (f : Nat → Int) (h : n < 34) (h14 : 14 ≤ n) (hc : n ≤ cap) :
    Calls Try.prog 26 #[.pointer (some ⟨bp, 0, none⟩), .slice (some ⟨b, off, none⟩) n cap] w fun e w' => e = .returned (.int .i64 10) ∧ w = w' := by
  go_enter Try.func26, Try.ntmps26
  have h2 : n - 14 < 20 := by omega
  go_wp2_with fail
  all_goals (go_ret; exact ⟨rfl, rfl⟩)

set_option maxHeartbeats 1000000 in
theorem packet_form (w : World) (bp b off n cap : Nat) (f : Nat → Int) (hr : Rd w b off n f) (hf : Byt f) (h34 : 34 ≤ n) (hc : n ≤ cap)
    (h : f 14 / 16 ≠ 4 ∨ ihl f < 20 ∨ two f 16 < ihl f) :
    Calls Try.prog 26 #[.pointer (some ⟨bp, 0, none⟩), .slice (some ⟨b, off, none⟩) n cap] w fun e w' => e = .returned (.int .i64 2) ∧ ∃ m, w' = w.drewN m := by
  have b0 := hf 14
  have r0 := hr 14 (by omega)
  have bt := two_le hf 16
  have r2 := hr.sub 16 2 (by omega)
  have hb2 := hf.sub 16
  have hi : ihl f = f 14 % 16 * 4 := rfl
  have em : bits .and .u8 (f 14) 15 = f 14 % 16 := u8_and15 (f 14) (by omega) (by omega)
  have hh : (20 : Int) ≤ ((n - 14 : Nat) : Int) := by omega
  have hk2 : 2 ≤ n - 14 - 2 := by omega
  go_enter Try.func26, Try.ntmps26
  go_wp2_with fail
  go_quiet ((go_at_call 25; with_reducible exact Calls.quiet_of (get_c _ _ _ _ _ (fun i => f (16 + i)) (r2.drewN _) hb2 hk2 (two f 16) rfl)))
  go_wp2_with fail
  all_goals (go_ret; exact ⟨rfl, _, rfl⟩)

set_option maxHeartbeats 1000000 in
theorem packet_cut (w : World) (bp b off n cap : Nat) (f : Nat → Int) (hr : Rd w b off n f) (hf : Byt f) (h34 : 34 ≤ n) (hc : n ≤ cap)
    (h4 : f 14 / 16 = 4) (hi20 : 20 ≤ ihl f) (hall : ihl f ≤ two f 16) (h : (n : Int) < 14 + two f 16) :
    Calls Try.prog 26 #[.pointer (some ⟨bp, 0, none⟩), .slice (some ⟨b, off, none⟩) n cap] w fun e w' => e = .returned (.int .i64 10) ∧ ∃ m, w' = w.drewN m := by
  have b0 := hf 14
  have r0 := hr 14 (by omega)
  have bt := two_le hf 16
  have r2 := hr.sub 16 2 (by omega)
  have hb2 := hf.sub 16
  unfold ihl at hi20 hall
  have em : bits .and .u8 (f 14) 15 = f 14 % 16 := u8_and15 (f 14) (by omega) (by omega)
  have hh : (20 : Int) ≤ ((n - 14 : Nat) : Int) := by omega
  have hk2 : 2 ≤ n - 14 - 2 := by omega
  have hlt : ((n - 14 : Nat) : Int) < two f 16 := by omega
  go_enter Try.func26, Try.ntmps26
  go_wp2_with fail
  go_quiet ((go_at_call 25; with_reducible exact Calls.quiet_of (get_c _ _ _ _ _ (fun i => f (16 + i)) (r2.drewN _) hb2 hk2 (two f 16) rfl)))
  go_wp2_with fail
  all_goals (go_ret; exact ⟨rfl, _, rfl⟩)

set_option maxHeartbeats 1000000 in
theorem packet_sum (w : World) (bp b off n cap : Nat) (f : Nat → Int) (hr : Rd w b off n f) (hf : Byt f) (h34 : 34 ≤ n) (hc : n ≤ cap)
    (h4 : f 14 / 16 = 4) (hi20 : 20 ≤ ihl f) (hall : ihl f ≤ two f 16) (hn : 14 + two f 16 ≤ (n : Int)) (hs : fc (total (fun i => f (14 + i)) (ihl f).toNat) ≠ 65535) :
    Calls Try.prog 26 #[.pointer (some ⟨bp, 0, none⟩), .slice (some ⟨b, off, none⟩) n cap] w fun e w' => e = .returned (.int .i64 11) ∧ ∃ m, w' = w.drewN m := by
  have b0 := hf 14
  have r0 := hr 14 (by omega)
  have bt := two_le hf 16
  have r2 := hr.sub 16 2 (by omega)
  have rl := hr.sub 14 (ihl f).toNat (by omega)
  have hb2 := hf.sub 16
  have hb14 := hf.sub 14
  unfold ihl at hi20 hall hs rl
  have em : bits .and .u8 (f 14) 15 = f 14 % 16 := u8_and15 (f 14) (by omega) (by omega)
  have hh : (20 : Int) ≤ ((n - 14 : Nat) : Int) := by omega
  have hk2 : 2 ≤ n - 14 - 2 := by omega
  have hlt : ¬ ((n - 14 : Nat) : Int) < two f 16 := by omega
  go_enter Try.func26, Try.ntmps26
  go_wp2_with fail
  go_quiet ((go_at_call 25; with_reducible exact Calls.quiet_of (get_c _ _ _ _ _ (fun i => f (16 + i)) (r2.drewN _) hb2 hk2 (two f 16) rfl)))
  go_wp2_with fail
  all_goals (refine (check_c _ _ _ _ _ (fun i => f (14 + i)) (rl.drewN _) hb14 (by omega) (by omega)).mono ?_)
  all_goals rintro e w' ⟨rfl, m', rfl⟩
  all_goals (go_wp2_with fail)
  all_goals (go_ret; exact ⟨rfl, _, rfl⟩)
end Go.Proofs.Ytpjjlggonpbegaa
