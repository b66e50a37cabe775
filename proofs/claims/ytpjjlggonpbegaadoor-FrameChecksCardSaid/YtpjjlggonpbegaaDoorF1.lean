/- frame's small functions and what a frame says, by the engine. -/
import Derived.Test.YtpjjlggonpbegaaDoorTys
namespace Go.Proofs.YtpjjlggonpbegaaDoor
open Go.RowKit

/-- The fields of a header, as numbers. -/
structure Hd where
  port : Int
  src : Nat → Int
  dst : Nat → Int
  ty : Int
  sip : Int
  dip : Int
  proto : Int
  sp : Int
  dp : Int
def Hd.zero : Hd := ⟨0, fun _ => 0, fun _ => 0, 0, 0, 0, 0, 0, 0⟩
def hdL (H : Hd) : List Value := [
  .int .i64 H.port, .int .u8 (H.src 0), .int .u8 (H.src 1), .int .u8 (H.src 2), .int .u8 (H.src 3), .int .u8 (H.src 4), .int .u8 (H.src 5),
  .int .u8 (H.dst 0), .int .u8 (H.dst 1), .int .u8 (H.dst 2), .int .u8 (H.dst 3), .int .u8 (H.dst 4), .int .u8 (H.dst 5),
  .int .i64 H.ty, .int .u32 H.sip, .int .u32 H.dip, .int .i64 H.proto, .int .i64 H.sp, .int .i64 H.dp]
/-- The cells of a header. -/
def hdCells (H : Hd) : Array Value := (hdL H).toArray
def pkL (H W : Hd) (raw : ByteArray) (ports end_ : Int) : List Value := [
  .int .i64 H.port, .int .u8 (H.src 0), .int .u8 (H.src 1), .int .u8 (H.src 2), .int .u8 (H.src 3), .int .u8 (H.src 4), .int .u8 (H.src 5),
  .int .u8 (H.dst 0), .int .u8 (H.dst 1), .int .u8 (H.dst 2), .int .u8 (H.dst 3), .int .u8 (H.dst 4), .int .u8 (H.dst 5),
  .int .i64 H.ty, .int .u32 H.sip, .int .u32 H.dip, .int .i64 H.proto, .int .i64 H.sp, .int .i64 H.dp,
  .int .i64 W.port, .int .u8 (W.src 0), .int .u8 (W.src 1), .int .u8 (W.src 2), .int .u8 (W.src 3), .int .u8 (W.src 4), .int .u8 (W.src 5),
  .int .u8 (W.dst 0), .int .u8 (W.dst 1), .int .u8 (W.dst 2), .int .u8 (W.dst 3), .int .u8 (W.dst 4), .int .u8 (W.dst 5),
  .int .i64 W.ty, .int .u32 W.sip, .int .u32 W.dip, .int .i64 W.proto, .int .i64 W.sp, .int .i64 W.dp,
  .string raw, .int .i64 ports, .int .i64 end_]
/-- The cells of a Pack. -/
def pkCells (H W : Hd) (raw : ByteArray) (ports end_ : Int) : Array Value := (pkL H W raw ports end_).toArray
/-- A Pack as a value. -/
def packV (H W : Hd) (raw : ByteArray) (ports end_ : Int) : Value := .agg (pkCells H W raw ports end_)

/-- What a frame's first bytes say. -/
def ethHd (port : Int) (f : Nat → Int) : Hd := { Hd.zero with port := port, dst := f, src := fun i => f (6 + i), ty := two f 12 }
/-- The header's bytes that an IPv4 packet says it has. -/
def ihl (f : Nat → Int) : Int := f 14 % 16 * 4
/-- What is wrong with a frame's IPv4 packet; 0: nothing. -/
def pkErr (f : Nat → Int) (n : Nat) : Int :=
  if n < 34 then 10 else if f 14 / 16 ≠ 4 ∨ ihl f < 20 ∨ two f 16 < ihl f then 2 else if (n : Int) < 14 + two f 16 then 10
  else if fc (total (fun i => f (14 + i)) (ihl f).toNat) ≠ 65535 then 11 else 0
def ihn (f : Nat → Int) : Nat := (ihl f).toNat
def hasPorts (f : Nat → Int) : Bool := (f 23 == 6 || f 23 == 17) && two f 20 % 8192 == 0 && decide (8 ≤ two f 16 - ihl f)
/-- Where the ports begin; 0: there are none. -/
def pOf (f : Nat → Int) : Int := if hasPorts f = true then 14 + ihl f else 0
/-- The header of a frame whose packet is right. -/
def pkHd (f : Nat → Int) (W : Hd) : Hd :=
  if hasPorts f = true then { W with sip := four f 26, dip := four f 30, proto := f 23, sp := two f (14 + ihn f), dp := two f (14 + ihn f + 2) }
  else { W with sip := four f 26, dip := four f 30, proto := f 23 }
def prErr (port : Int) (f : Nat → Int) (n : Nat) : Int :=
  if port < 0 ∨ 255 < port then 1 else if n < 14 then 10 else if 1514 < n then 6 else if two f 12 ≠ 2048 then 0 else pkErr f n
def prHd (port : Int) (f : Nat → Int) : Hd := if two f 12 = 2048 then pkHd f (ethHd port f) else ethHd port f
def prPorts (f : Nat → Int) : Int := if two f 12 = 2048 then pOf f else 0
def prEnd (f : Nat → Int) : Int := if two f 12 = 2048 then 14 + two f 16 else 0

theorem Rd.part {w : World} {b off n o : Nat} {f : Nat → Int} (h : Rd w b off n f) (k m : Nat) (hk : k + m ≤ n) (ho : o = off + k) : Rd w b o m (fun i => f (k + i)) := ho ▸ h.sub k m hk
theorem Rd.part1 {w : World} {b off n o : Nat} {f : Nat → Int} (h : Rd w b off n f) (k : Nat) (hk : k < n) (ho : o = off + k) : w.cell? ⟨b, o, none⟩ = some (.int .u8 (f k)) := ho ▸ h k hk
theorem sl_eq' {b o o' n n' c c' : Nat} (h1 : o = o') (h2 : n = n') (h3 : c = c') : Value.slice (some ⟨b, o, none⟩) n c = .slice (some ⟨b, o', none⟩) n' c' := by rw [h1, h2, h3]
theorem pairs_two (f : Nat → Int) (k : Nat) : pairs f (k + 1) = pairs f k + two (fun i => f (2 * k + i)) 0 := rfl
theorem total_even {f : Nat → Int} {n k : Nat} (h : n = 2 * k) : total f n = pairs f k := by
  subst h; unfold total; rw [if_neg (by omega), Nat.mul_div_cancel_left _ (by omega)]; omega
theorem total_odd {f : Nat → Int} {n k : Nat} (h : n = 2 * k + 1) : total f n = pairs f k + f (2 * k) * 256 := by
  subst h; unfold total; rw [if_pos (by omega), show (2 * k + 1) / 2 = k from by omega]; rfl

theorem get_c (w : World) (b off n cap : Nat) (f : Nat → Int) (hr : Rd w b off 2 f) (hf : Byt f) (hn : 2 ≤ n) (x : Int) (hx : two f 0 = x) :
    Calls Tryd.prog 12 #[.slice (some ⟨b, off, none⟩) n cap] w fun e w' => e = .returned (.int .i64 x) ∧ Frm (fun _ => False) w w' := by
  subst hx
  have b0 := hf 0
  have b1 := hf 1
  refine enter Tryd.func12 rfl Tryd.ntmps12 rfl (St.start (fun _ => False) w) ?_
  refine WC.seq ?_
  refine WC.region ?_
  refine WL.val (v_assign rfl rfl) (.none rfl) rfl rfl ?_
  refine WL.nil ?_
  refine WE.then_n ?_
  refine WC.seq ?_
  refine WC.quiet mixed (by kernel_rfl) ?_
  refine WQ.val (v_move rfl rfl) (.none rfl) rfl rfl ?_
  refine WQ.val (v_indexAddr (lo := 0) rfl rfl rfl Tryd.underlying22 sz_5 rfl (by omega)) (.none rfl) rfl rfl ?_
  refine WQ.val (v_load1 rfl rfl one_5 (cellOld (fun h => h) (hr.part1 0 (by omega) (by omega)))) (.none rfl) rfl rfl ?_
  refine WQ.val (v_conv rfl rfl Tryd.underlying3 Tryd.underlying5 (w_i64 (by omega) (by omega))) (.none rfl) rfl rfl ?_
  refine WQ.val (v_shl (m := 8) (c := 256) rfl rfl rfl rfl (by decide) (by decide) (w_i64 (by omega) (by omega))) (.none rfl) rfl rfl ?_
  refine WQ.val (v_move rfl rfl) (.none rfl) rfl rfl ?_
  refine WQ.val (v_indexAddr (lo := 1) rfl rfl rfl Tryd.underlying22 sz_5 rfl (by omega)) (.none rfl) rfl rfl ?_
  refine WQ.val (v_load1 rfl rfl one_5 (cellOld (fun h => h) (hr.part1 1 (by omega) (by omega)))) (.none rfl) rfl rfl ?_
  refine WQ.val (v_conv rfl rfl Tryd.underlying3 Tryd.underlying5 (w_i64 (by omega) (by omega))) (.none rfl) rfl rfl ?_
  refine WQ.val (v_or rfl rfl rfl (i64_or8 (f 0) (f 1) (by omega) (by omega) (by omega) (by omega))) (.none rfl) rfl rfl ?_
  refine WQ.val (v_assign rfl rfl) (.none rfl) rfl rfl ?_
  refine WQ.nil ?_
  refine WE.then_n ?_
  refine WC.ret ?_
  refine WE.ret1 (P := Tryd.prog) (.inl rfl) Tryd.results12 rfl ?_
  exact fun w' h => ⟨rfl, h.frm⟩

theorem getAddr_c (w : World) (b off n cap : Nat) (f : Nat → Int) (hr : Rd w b off 4 f) (hf : Byt f) (hn : 4 ≤ n) (hc : n ≤ cap) (x : Int) (hx : four f 0 = x) :
    Calls Tryd.prog 23 #[.slice (some ⟨b, off, none⟩) n cap] w fun e w' => e = .returned (.int .u32 x) ∧ Frm (fun _ => False) w w' := by
  subst hx
  have b0 := two_le hf 0
  have b2 := two_le hf 2
  refine enter Tryd.func23 rfl Tryd.ntmps23 rfl (St.start (fun _ => False) w) ?_
  refine WC.seq ?_
  refine WC.region ?_
  refine WL.val (v_assign rfl rfl) (.none rfl) rfl rfl ?_
  refine WL.nil ?_
  refine WE.then_n ?_
  refine WC.seq ?_
  refine WC.quiet mixed (by kernel_rfl) ?_
  refine WQ.val (v_move rfl rfl) (.none rfl) rfl rfl ?_
  refine WQ.call _ rfl rfl ck_12 (.none rfl) rfl rfl (fun w hS => Calls.still (get_c w b off n cap f (hS.oldRd (fun h => h) (hr.to 2 (by omega))) hf (by omega) (two f 0) rfl) hS) ?_
  refine WQ.val (v_conv rfl rfl Tryd.underlying26 Tryd.underlying3 (by first | exact w_u32 (by omega) (by omega) | exact w_u32m _)) (.none rfl) rfl rfl ?_
  refine WQ.val (v_shl (m := 16) (c := 65536) rfl rfl rfl rfl (by decide) (by decide) (w_u32 (by omega) (by omega))) (.none rfl) rfl rfl ?_
  refine WQ.val (v_move rfl rfl) (.none rfl) rfl rfl ?_
  refine WQ.val (v_slice_loS (lo := 2) rfl rfl rfl Tryd.underlying22 sz_5 rfl (by omega) (by omega)) (.none rfl) rfl rfl ?_
  refine WQ.call _ rfl rfl ck_12 (.none rfl) rfl rfl (fun w hS => Calls.still (get_c w b _ _ _ (fun i => f (2 + i)) (hS.oldRd (fun h => h) (hr.part 2 2 (by omega) (by omega))) (hf.sub 2) (by omega) (two f 2) rfl) hS) ?_
  refine WQ.val (v_conv rfl rfl Tryd.underlying26 Tryd.underlying3 (by first | exact w_u32 (by omega) (by omega) | exact w_u32m _)) (.none rfl) rfl rfl ?_
  refine WQ.val (v_or rfl rfl rfl (u32_or16 (two f 0) (two f 2) (by omega) (by omega) (by omega) (by omega))) (.none rfl) rfl rfl ?_
  refine WQ.val (v_assign rfl rfl) (.none rfl) rfl rfl ?_
  refine WQ.nil ?_
  refine WE.then_n ?_
  refine WC.ret ?_
  refine WE.ret1 (P := Tryd.prog) (.inl rfl) Tryd.results23 rfl ?_
  exact fun w' h => ⟨rfl, h.frm⟩

theorem fold_c (w : World) (s : Int) (h0 : 0 ≤ s) (h1 : s < 4611686018427387904) :
    Calls Tryd.prog 24 #[.int .i64 s] w fun e w' => e = .returned (.int .i64 (fc s)) ∧ Frm (fun _ => False) w w' := by
  refine enter Tryd.func24 rfl Tryd.ntmps24 rfl (St.start (fun _ => False) w) ?_
  refine WC.seq ?_
  refine WC.region ?_
  refine WL.val (v_assign rfl rfl) (.none rfl) rfl rfl ?_
  refine WL.nil ?_
  refine WE.then_n ?_
  refine WC.seq ?_
  refine WC.block ?_
  refine WC.loop (fun t : Int => [(0, .int .i64 t)]) (fun _ => []) (fun t => 0 ≤ t ∧ t < 4611686018427387904 ∧ fc t = fc s) (fun t => t.toNat) s ⟨h0, h1, rfl⟩ (.cons rfl .nil) (.refl _) ?_
  rintro t ⟨ht0, ht1, hts⟩
  refine WC.seq ?_
  refine WC.seq ?_
  refine WC.region ?_
  refine WL.val (v_move rfl rfl) (.none rfl) rfl rfl ?_
  refine WL.test (v_gtr rfl rfl rfl) (.none rfl) rfl rfl (fun h4 => ?_) (fun h4 => ?_)
  · -- 4T
    refine WL.nil ?_
    refine WE.then_n ?_
    refine WC.cond_t rfl ?_
    refine WC.skip ?_
    refine WE.then_n ?_
    refine WC.block ?_
    refine WC.region ?_
    refine WL.val (v_move rfl rfl) (.none rfl) rfl rfl ?_
    refine WL.val (v_shr (m := 16) (c := 65536) rfl rfl rfl rfl (by decide) (by decide)) (.none rfl) rfl rfl ?_
    refine WL.val (v_move rfl rfl) (.none rfl) rfl rfl ?_
    refine WL.val (v_and rfl rfl rfl (mask_i64' (i := 16) (m := 65536) (by decide) (by decide) (by decide))) (.none rfl) rfl rfl ?_
    refine WL.val (v_add rfl rfl rfl (w_i64 (by omega) (by omega))) (.none rfl) rfl rfl ?_
    refine WL.val (v_assign rfl rfl) (.none rfl) rfl rfl ?_
    refine WL.nil ?_
    refine WE.block_n ?_
    exact WE.next (t / 65536 + t % 65536) (by omega) ⟨by omega, by omega, by rw [fc_step t (by omega)]; exact hts⟩ (.cons rfl .nil) (.refl _)
  · -- 4F
    refine WL.nil ?_
    refine WE.then_n ?_
    refine WC.cond_f rfl ?_
    refine WC.exit ?_
    refine WE.then_exit ?_
    refine WE.then_exit ?_
    refine WE.block_hit ?_
    refine WE.then_n ?_
    refine WC.seq ?_
    refine WC.region ?_
    refine WL.val (v_move rfl rfl) (.none rfl) rfl rfl ?_
    refine WL.val (v_assign rfl rfl) (.none rfl) rfl rfl ?_
    refine WL.nil ?_
    refine WE.then_n ?_
    refine WC.ret ?_
    refine WE.ret1 (P := Tryd.prog) (.inl rfl) Tryd.results24 rfl ?_
    exact fun w' h => ⟨by rw [← hts, fc_small t ht0 (by omega)], h.frm⟩

theorem check_c (w : World) (b off n cap : Nat) (f : Nat → Int) (hr : Rd w b off n f) (hf : Byt f) (hn : n ≤ 1000000) (hc : n ≤ cap) :
    Calls Tryd.prog 17 #[.slice (some ⟨b, off, none⟩) n cap] w fun e w' => e = .returned (.int .i64 (fc (total f n))) ∧ Frm (fun _ => False) w w' := by
  refine enter Tryd.func17 rfl Tryd.ntmps17 rfl (St.start (fun _ => False) w) ?_
  refine WC.seq ?_
  refine WC.region ?_
  refine WL.val (v_assign rfl rfl) (.none rfl) rfl rfl ?_
  refine WL.nil ?_
  refine WE.then_n ?_
  refine WC.seq ?_
  refine WC.region ?_
  refine WL.val (v_assign rfl rfl) (.none rfl) rfl rfl ?_
  refine WL.nil ?_
  refine WE.then_n ?_
  refine WC.seq ?_
  refine WC.block ?_
  refine WC.loop (fun i : Nat × Nat => [(0, .slice (some ⟨b, i.2, none⟩) (n - 2 * i.1) (cap - 2 * i.1)), (3, .int .i64 (pairs f i.1))]) (fun _ => []) (fun i => 2 * i.1 ≤ n ∧ (2 * i.1 < cap → i.2 = off + 2 * i.1)) (fun i => n - 2 * i.1) (0, off) ⟨by omega, fun _ => rfl⟩ (.cons rfl (.cons rfl .nil)) (.refl _) ?_
  rintro ⟨k, o⟩ ⟨hk, ho⟩
  dsimp only at hk ho
  dsimp only
  have hp := pairs_le hf k
  have ht := two_le (hf.sub (2 * k)) 0
  have hb := hf (2 * k)
  refine WC.seq ?_
  refine WC.seq ?_
  refine WC.region ?_
  refine WL.val (v_move rfl rfl) (.none rfl) rfl rfl ?_
  refine WL.val (v_len_slice rfl rfl Tryd.underlying22) (.none rfl) rfl rfl ?_
  refine WL.test (v_gtr rfl rfl rfl) (.none rfl) rfl rfl (fun h6 => ?_) (fun h6 => ?_)
  · -- 6T
    refine WL.nil ?_
    refine WE.then_n ?_
    refine WC.cond_t rfl ?_
    refine WC.skip ?_
    refine WE.then_n ?_
    refine WC.seq ?_
    refine WC.block ?_
    refine WC.region ?_
    refine WL.val (v_move rfl rfl) (.none rfl) rfl rfl ?_
    refine WL.val (v_move rfl rfl) (.none rfl) rfl rfl ?_
    refine WL.call rfl rfl ck_12 (.none rfl) rfl rfl ?_
    intro w hS
    refine Calls.then (get_c w b o _ _ (fun i => f (2 * k + i)) (hS.oldRd (fun h => h) (hr.part (2 * k) 2 (by omega) (ho (by omega)))) (hf.sub _) (by omega) _ rfl) hS ?_
    refine WL.val (v_add rfl rfl rfl (w_i64 (by omega) (by omega))) (.none rfl) rfl rfl ?_
    refine WL.val (v_assign rfl rfl) (.none rfl) rfl rfl ?_
    refine WL.nil ?_
    refine WE.block_n ?_
    refine WE.then_n ?_
    refine WC.region ?_
    refine WL.val (v_move rfl rfl) (.none rfl) rfl rfl ?_
    refine WL.val (v_slice_lo (lo := 2) rfl rfl rfl Tryd.underlying22 sz_5 rfl (by omega)) (.none rfl) rfl rfl ?_
    refine WL.val (v_assign rfl rfl) (.none rfl) rfl rfl ?_
    refine WL.nil ?_
    exact WE.next (k + 1, sAddr o 2 (cap - 2 * k) 1) (by dsimp only; omega) ⟨by dsimp only; omega, fun h => by dsimp only at h ⊢; unfold sAddr; rw [if_neg (by omega)]; have := ho (by omega); omega⟩ (.eq rfl (sl_eq' rfl (by omega) (by omega)) (.cons rfl .nil)) (.refl _)
  · -- 6F
    refine WL.nil ?_
    refine WE.then_n ?_
    refine WC.cond_f rfl ?_
    refine WC.exit ?_
    refine WE.then_exit ?_
    refine WE.then_exit ?_
    refine WE.block_hit ?_
    refine WE.then_n ?_
    refine WC.seq ?_
    refine WC.seq ?_
    refine WC.region ?_
    refine WL.val (v_move rfl rfl) (.none rfl) rfl rfl ?_
    refine WL.val (v_len_slice rfl rfl Tryd.underlying22) (.none rfl) rfl rfl ?_
    refine WL.test (v_eql rfl rfl rfl) (.none rfl) rfl rfl (fun h15 => ?_) (fun h15 => ?_)
    · -- 15T
      refine WL.nil ?_
      refine WE.then_n ?_
      refine WC.cond_t rfl ?_
      refine WC.region ?_
      refine WL.val (v_move rfl rfl) (.none rfl) rfl rfl ?_
      refine WL.val (v_move rfl rfl) (.none rfl) rfl rfl ?_
      refine WL.val (v_indexAddr (lo := 0) rfl rfl rfl Tryd.underlying22 sz_5 rfl (by omega)) (.none rfl) rfl rfl ?_
      refine WL.val (v_load1 rfl rfl one_5 (cellOld (fun h => h) (hr.part1 (2 * k) (by omega) (by have := ho (by omega); omega)))) (.none rfl) rfl rfl ?_
      refine WL.val (v_conv rfl rfl Tryd.underlying3 Tryd.underlying5 (w_i64 (by omega) (by omega))) (.none rfl) rfl rfl ?_
      refine WL.val (v_shl (m := 8) (c := 256) rfl rfl rfl rfl (by decide) (by decide) (w_i64 (by omega) (by omega))) (.none rfl) rfl rfl ?_
      refine WL.val (v_add rfl rfl rfl (w_i64 (by omega) (by omega))) (.none rfl) rfl rfl ?_
      refine WL.val (v_assign rfl rfl) (.none rfl) rfl rfl ?_
      refine WL.nil ?_
      refine WE.then_n ?_
      refine WC.seq ?_
      refine WC.region ?_
      refine WL.val (v_move rfl rfl) (.none rfl) rfl rfl ?_
      refine WL.call rfl rfl ck_24 (.none rfl) rfl rfl ?_
      intro w hS
      refine Calls.then (fold_c w _ (by omega) (by omega)) hS ?_
      refine WL.val (v_assign rfl rfl) (.none rfl) rfl rfl ?_
      refine WL.nil ?_
      refine WE.then_n ?_
      refine WC.ret ?_
      refine WE.ret1 (P := Tryd.prog) (.inl rfl) Tryd.results17 rfl ?_
      exact fun w' h => ⟨by rw [total_odd (k := k) (by omega)], h.frm⟩
    · -- 15F
      refine WL.nil ?_
      refine WE.then_n ?_
      refine WC.cond_f rfl ?_
      refine WC.skip ?_
      refine WE.then_n ?_
      refine WC.seq ?_
      refine WC.region ?_
      refine WL.val (v_move rfl rfl) (.none rfl) rfl rfl ?_
      refine WL.call rfl rfl ck_24 (.none rfl) rfl rfl ?_
      intro w hS
      refine Calls.then (fold_c w _ (by omega) (by omega)) hS ?_
      refine WL.val (v_assign rfl rfl) (.none rfl) rfl rfl ?_
      refine WL.nil ?_
      refine WE.then_n ?_
      refine WC.ret ?_
      refine WE.ret1 (P := Tryd.prog) (.inl rfl) Tryd.results17 rfl ?_
      exact fun w' h => ⟨by rw [total_even (k := k) (by omega)], h.frm⟩
end Go.Proofs.YtpjjlggonpbegaaDoor
