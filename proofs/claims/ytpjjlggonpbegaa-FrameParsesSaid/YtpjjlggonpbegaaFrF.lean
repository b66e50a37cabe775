/- frame.Parse. -/
import Derived.Test.YtpjjlggonpbegaaFrC
import Derived.Test.YtpjjlggonpbegaaTail
import Derived.Test.YtpjjlggonpbegaaBlk
import Derived.Test.YtpjjlggonpbegaaStr
namespace Go.Proofs.Ytpjjlggonpbegaa
open Go.RowKit

/-- A Pack as a value. -/
def packV (H W : Hd) (raw : ByteArray) (ports end_ : Int) : Value := .agg (pkCells H W raw ports end_)

set_option maxHeartbeats 400000 in
theorem Parse_port (w : World) (port : Int) (v : Value) (h : port < 0 ∨ 255 < port) :
    Calls Try.prog 12 #[.int .i64 port, v] w fun e w' => e = .returned (.tuple #[packV Hd.zero Hd.zero ⟨#[]⟩ 0 0, .int .i64 1]) ∧ Frm (fun _ => False) w w' := by
  go_enter Try.func12, Try.ntmps12
  go_wp2_with (refine wpList_storeN rfl 32 _ _ rfl rfl w.heap.size rfl (pkCells Hd.zero Hd.zero ⟨#[]⟩ 0 0) (by kernel_rfl) (by kernel_rfl) _ _ (by kernel_rfl) (by kernel_rfl) (by kernel_rfl) ?_)
  all_goals (refine ret_blk_tmp (p := 4) (u := 5) Try.results12 rfl w.heap.size 32 (pkCells Hd.zero Hd.zero ⟨#[]⟩ 0 0) _ rfl (.int .i64 1) rfl Blk.new Try.underlying32 rfl (by kernel_rfl) ⟨rfl, Frm.alloc (Frm.refl _ _)⟩)

set_option maxHeartbeats 400000 in
theorem Parse_short (w : World) (port : Int) (a : Option Addr) (n cap : Nat) (h0 : 0 ≤ port) (h1 : port ≤ 255) (h : n < 14) :
    Calls Try.prog 12 #[.int .i64 port, .slice a n cap] w fun e w' => e = .returned (.tuple #[packV Hd.zero Hd.zero ⟨#[]⟩ 0 0, .int .i64 10]) ∧ Frm (fun _ => False) w w' := by
  go_enter Try.func12, Try.ntmps12
  go_wp2_with (refine wpList_storeN rfl 32 _ _ rfl rfl w.heap.size rfl (pkCells Hd.zero Hd.zero ⟨#[]⟩ 0 0) (by kernel_rfl) (by kernel_rfl) _ _ (by kernel_rfl) (by kernel_rfl) (by kernel_rfl) ?_)
  all_goals (refine ret_blk_tmp (p := 4) (u := 5) Try.results12 rfl w.heap.size 32 (pkCells Hd.zero Hd.zero ⟨#[]⟩ 0 0) _ rfl (.int .i64 10) rfl Blk.new Try.underlying32 rfl (by kernel_rfl) ⟨rfl, Frm.alloc (Frm.refl _ _)⟩)

set_option maxHeartbeats 400000 in
theorem Parse_long (w : World) (port : Int) (a : Option Addr) (n cap : Nat) (h0 : 0 ≤ port) (h1 : port ≤ 255) (h : 1514 < n) :
    Calls Try.prog 12 #[.int .i64 port, .slice a n cap] w fun e w' => e = .returned (.tuple #[packV Hd.zero Hd.zero ⟨#[]⟩ 0 0, .int .i64 6]) ∧ Frm (fun _ => False) w w' := by
  go_enter Try.func12, Try.ntmps12
  go_wp2_with (refine wpList_storeN rfl 32 _ _ rfl rfl w.heap.size rfl (pkCells Hd.zero Hd.zero ⟨#[]⟩ 0 0) (by kernel_rfl) (by kernel_rfl) _ _ (by kernel_rfl) (by kernel_rfl) (by kernel_rfl) ?_)
  all_goals (refine ret_blk_tmp (p := 4) (u := 5) Try.results12 rfl w.heap.size 32 (pkCells Hd.zero Hd.zero ⟨#[]⟩ 0 0) _ rfl (.int .i64 6) rfl Blk.new Try.underlying32 rfl (by kernel_rfl) ⟨rfl, Frm.alloc (Frm.refl _ _)⟩)

end Go.Proofs.Ytpjjlggonpbegaa
