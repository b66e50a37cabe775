/- The closed facts on this program's types and functions that the engine's laws ask for (printed by gen_ty.py). -/
import Derived.Test.YtpjjlggonpbegaaDoorIter
import Derived.Test.YtpjjlggonpbegaaDoorProg
namespace Go.Proofs.YtpjjlggonpbegaaDoor
open Go.RowKit
theorem mixed : Tryd.prog.follows .mixedOrders = true := by kernel_rfl
theorem sz_1 : (Tryd.prog.info? 1).map (·.size) = some 1 := by kernel_rfl
theorem by_1 : (Tryd.prog.info? 1).map (·.bytes) = some 8 := by kernel_rfl
theorem one_1 : One Tryd.prog 1 := One.mk Tryd.underlying1 rfl sz_1
theorem zero_1 : Zero Tryd.prog 1 [.nilFunc] := Zero.mk (z := .nilFunc) (by kernel_rfl) rfl
theorem sz_2 : (Tryd.prog.info? 2).map (·.size) = some 1 := by kernel_rfl
theorem by_2 : (Tryd.prog.info? 2).map (·.bytes) = some 8 := by kernel_rfl
theorem one_2 : One Tryd.prog 2 := One.mk Tryd.underlying2 rfl sz_2
theorem zero_2 : Zero Tryd.prog 2 [.int .i64 0] := Zero.mk (z := .int .i64 0) (by kernel_rfl) rfl
theorem sz_3 : (Tryd.prog.info? 3).map (·.size) = some 1 := by kernel_rfl
theorem by_3 : (Tryd.prog.info? 3).map (·.bytes) = some 8 := by kernel_rfl
theorem one_3 : One Tryd.prog 3 := One.mk Tryd.underlying3 rfl sz_3
theorem zero_3 : Zero Tryd.prog 3 [.int .i64 0] := Zero.mk (z := .int .i64 0) (by kernel_rfl) rfl
theorem sz_4 : (Tryd.prog.info? 4).map (·.size) = some 1 := by kernel_rfl
theorem by_4 : (Tryd.prog.info? 4).map (·.bytes) = some 1 := by kernel_rfl
theorem one_4 : One Tryd.prog 4 := One.mk Tryd.underlying4 rfl sz_4
theorem zero_4 : Zero Tryd.prog 4 [.bool false] := Zero.mk (z := .bool false) (by kernel_rfl) rfl
theorem sz_5 : (Tryd.prog.info? 5).map (·.size) = some 1 := by kernel_rfl
theorem by_5 : (Tryd.prog.info? 5).map (·.bytes) = some 1 := by kernel_rfl
theorem one_5 : One Tryd.prog 5 := One.mk Tryd.underlying5 rfl sz_5
theorem zero_5 : Zero Tryd.prog 5 [.int .u8 0] := Zero.mk (z := .int .u8 0) (by kernel_rfl) rfl
theorem sz_6 : (Tryd.prog.info? 6).map (·.size) = some 1 := by kernel_rfl
theorem by_6 : (Tryd.prog.info? 6).map (·.bytes) = some 1 := by kernel_rfl
theorem one_6 : One Tryd.prog 6 := One.mk Tryd.underlying6 rfl sz_6
theorem zero_6 : Zero Tryd.prog 6 [.int .u8 0] := Zero.mk (z := .int .u8 0) (by kernel_rfl) rfl
theorem sz_7 : (Tryd.prog.info? 7).map (·.size) = some 4 := by kernel_rfl
theorem by_7 : (Tryd.prog.info? 7).map (·.bytes) = some 24 := by kernel_rfl
theorem many_7 : Many Tryd.prog 7 4 := Many.mk Tryd.underlying7 rfl sz_7
theorem zero_7 : Zero Tryd.prog 7 [.int .i64 0, .int .i64 0, .bool false, .int .u8 0] := Zero.mk (z := .agg #[.int .i64 0, .int .i64 0, .bool false, .int .u8 0]) (by kernel_rfl) rfl
theorem sz_8 : (Tryd.prog.info? 8).map (·.size) = some 4 := by kernel_rfl
theorem by_8 : (Tryd.prog.info? 8).map (·.bytes) = some 24 := by kernel_rfl
theorem many_8 : Many Tryd.prog 8 4 := Many.mk Tryd.underlying8 rfl sz_8
theorem zero_8 : Zero Tryd.prog 8 [.int .i64 0, .int .i64 0, .bool false, .int .u8 0] := Zero.mk (z := .agg #[.int .i64 0, .int .i64 0, .bool false, .int .u8 0]) (by kernel_rfl) rfl
theorem sz_9 : (Tryd.prog.info? 9).map (·.size) = some 1 := by kernel_rfl
theorem by_9 : (Tryd.prog.info? 9).map (·.bytes) = some 16 := by kernel_rfl
theorem one_9 : One Tryd.prog 9 := One.mk Tryd.underlying9 rfl sz_9
theorem zero_9 : Zero Tryd.prog 9 [.string ⟨#[]⟩] := Zero.mk (z := .string ⟨#[]⟩) (by kernel_rfl) rfl
theorem sz_10 : (Tryd.prog.info? 10).map (·.size) = some 1 := by kernel_rfl
theorem by_10 : (Tryd.prog.info? 10).map (·.bytes) = some 16 := by kernel_rfl
theorem one_10 : One Tryd.prog 10 := One.mk Tryd.underlying10 rfl sz_10
theorem zero_10 : Zero Tryd.prog 10 [.string ⟨#[]⟩] := Zero.mk (z := .string ⟨#[]⟩) (by kernel_rfl) rfl
theorem sz_11 : (Tryd.prog.info? 11).map (·.size) = some 1 := by kernel_rfl
theorem by_11 : (Tryd.prog.info? 11).map (·.bytes) = some 16 := by kernel_rfl
theorem one_11 : One Tryd.prog 11 := One.mk Tryd.underlying11 rfl sz_11
theorem zero_11 : Zero Tryd.prog 11 [.string ⟨#[]⟩] := Zero.mk (z := .string ⟨#[]⟩) (by kernel_rfl) rfl
theorem sz_12 : (Tryd.prog.info? 12).map (·.size) = some 1 := by kernel_rfl
theorem by_12 : (Tryd.prog.info? 12).map (·.bytes) = some 8 := by kernel_rfl
theorem one_12 : One Tryd.prog 12 := One.mk Tryd.underlying12 rfl sz_12
theorem zero_12 : Zero Tryd.prog 12 [.int .u64 0] := Zero.mk (z := .int .u64 0) (by kernel_rfl) rfl
theorem sz_13 : (Tryd.prog.info? 13).map (·.size) = some 2 := by kernel_rfl
theorem by_13 : (Tryd.prog.info? 13).map (·.bytes) = some 24 := by kernel_rfl
theorem many_13 : Many Tryd.prog 13 2 := Many.mk Tryd.underlying13 rfl sz_13
theorem zero_13 : Zero Tryd.prog 13 [.string ⟨#[]⟩, .int .u64 0] := Zero.mk (z := .agg #[.string ⟨#[]⟩, .int .u64 0]) (by kernel_rfl) rfl
theorem sz_14 : (Tryd.prog.info? 14).map (·.size) = some 2 := by kernel_rfl
theorem by_14 : (Tryd.prog.info? 14).map (·.bytes) = some 24 := by kernel_rfl
theorem many_14 : Many Tryd.prog 14 2 := Many.mk Tryd.underlying14 rfl sz_14
theorem zero_14 : Zero Tryd.prog 14 [.string ⟨#[]⟩, .int .u64 0] := Zero.mk (z := .agg #[.string ⟨#[]⟩, .int .u64 0]) (by kernel_rfl) rfl
theorem sz_15 : (Tryd.prog.info? 15).map (·.size) = some 1 := by kernel_rfl
theorem by_15 : (Tryd.prog.info? 15).map (·.bytes) = some 8 := by kernel_rfl
theorem one_15 : One Tryd.prog 15 := One.mk Tryd.underlying15 rfl sz_15
theorem zero_15 : Zero Tryd.prog 15 [.pointer none] := Zero.mk (z := .pointer none) (by kernel_rfl) rfl
theorem sz_16 : (Tryd.prog.info? 16).map (·.size) = some 1 := by kernel_rfl
theorem by_16 : (Tryd.prog.info? 16).map (·.bytes) = some 8 := by kernel_rfl
theorem one_16 : One Tryd.prog 16 := One.mk Tryd.underlying16 rfl sz_16
theorem zero_16 : Zero Tryd.prog 16 [.pointer none] := Zero.mk (z := .pointer none) (by kernel_rfl) rfl
theorem sz_17 : (Tryd.prog.info? 17).map (·.size) = some 1 := by kernel_rfl
theorem by_17 : (Tryd.prog.info? 17).map (·.bytes) = some 8 := by kernel_rfl
theorem one_17 : One Tryd.prog 17 := One.mk Tryd.underlying17 rfl sz_17
theorem zero_17 : Zero Tryd.prog 17 [.pointer none] := Zero.mk (z := .pointer none) (by kernel_rfl) rfl
theorem sz_18 : (Tryd.prog.info? 18).map (·.size) = some 1 := by kernel_rfl
theorem by_18 : (Tryd.prog.info? 18).map (·.bytes) = some 8 := by kernel_rfl
theorem many_18 : Many Tryd.prog 18 1 := Many.mk Tryd.underlying18 rfl sz_18
theorem zero_18 : Zero Tryd.prog 18 [.pointer none] := Zero.mk (z := .agg #[.pointer none]) (by kernel_rfl) rfl
theorem sz_19 : (Tryd.prog.info? 19).map (·.size) = some 1 := by kernel_rfl
theorem by_19 : (Tryd.prog.info? 19).map (·.bytes) = some 8 := by kernel_rfl
theorem many_19 : Many Tryd.prog 19 1 := Many.mk Tryd.underlying19 rfl sz_19
theorem zero_19 : Zero Tryd.prog 19 [.pointer none] := Zero.mk (z := .agg #[.pointer none]) (by kernel_rfl) rfl
theorem sz_20 : (Tryd.prog.info? 20).map (·.size) = some 1 := by kernel_rfl
theorem by_20 : (Tryd.prog.info? 20).map (·.bytes) = some 16 := by kernel_rfl
theorem one_20 : One Tryd.prog 20 := One.mk Tryd.underlying20 rfl sz_20
theorem zero_20 : Zero Tryd.prog 20 [.nilIface] := Zero.mk (z := .nilIface) (by kernel_rfl) rfl
theorem sz_21 : (Tryd.prog.info? 21).map (·.size) = some 1 := by kernel_rfl
theorem by_21 : (Tryd.prog.info? 21).map (·.bytes) = some 4 := by kernel_rfl
theorem one_21 : One Tryd.prog 21 := One.mk Tryd.underlying21 rfl sz_21
theorem zero_21 : Zero Tryd.prog 21 [.int .i32 0] := Zero.mk (z := .int .i32 0) (by kernel_rfl) rfl
theorem sz_22 : (Tryd.prog.info? 22).map (·.size) = some 1 := by kernel_rfl
theorem by_22 : (Tryd.prog.info? 22).map (·.bytes) = some 24 := by kernel_rfl
theorem one_22 : One Tryd.prog 22 := One.mk Tryd.underlying22 rfl sz_22
theorem zero_22 : Zero Tryd.prog 22 [.slice none 0 0] := Zero.mk (z := .slice none 0 0) (by kernel_rfl) rfl
theorem sz_23 : (Tryd.prog.info? 23).map (·.size) = some 6 := by kernel_rfl
theorem by_23 : (Tryd.prog.info? 23).map (·.bytes) = some 6 := by kernel_rfl
theorem many_23 : Many Tryd.prog 23 6 := Many.mk Tryd.underlying23 rfl sz_23
theorem zero_23 : Zero Tryd.prog 23 [.int .u8 0, .int .u8 0, .int .u8 0, .int .u8 0, .int .u8 0, .int .u8 0] := Zero.mk (z := .agg #[.int .u8 0, .int .u8 0, .int .u8 0, .int .u8 0, .int .u8 0, .int .u8 0]) (by kernel_rfl) rfl
theorem sz_24 : (Tryd.prog.info? 24).map (·.size) = some 6 := by kernel_rfl
theorem by_24 : (Tryd.prog.info? 24).map (·.bytes) = some 6 := by kernel_rfl
theorem many_24 : Many Tryd.prog 24 6 := Many.mk Tryd.underlying24 rfl sz_24
theorem zero_24 : Zero Tryd.prog 24 [.int .u8 0, .int .u8 0, .int .u8 0, .int .u8 0, .int .u8 0, .int .u8 0] := Zero.mk (z := .agg #[.int .u8 0, .int .u8 0, .int .u8 0, .int .u8 0, .int .u8 0, .int .u8 0]) (by kernel_rfl) rfl
theorem sz_25 : (Tryd.prog.info? 25).map (·.size) = some 1 := by kernel_rfl
theorem by_25 : (Tryd.prog.info? 25).map (·.bytes) = some 4 := by kernel_rfl
theorem one_25 : One Tryd.prog 25 := One.mk Tryd.underlying25 rfl sz_25
theorem zero_25 : Zero Tryd.prog 25 [.int .u32 0] := Zero.mk (z := .int .u32 0) (by kernel_rfl) rfl
theorem sz_26 : (Tryd.prog.info? 26).map (·.size) = some 1 := by kernel_rfl
theorem by_26 : (Tryd.prog.info? 26).map (·.bytes) = some 4 := by kernel_rfl
theorem one_26 : One Tryd.prog 26 := One.mk Tryd.underlying26 rfl sz_26
theorem zero_26 : Zero Tryd.prog 26 [.int .u32 0] := Zero.mk (z := .int .u32 0) (by kernel_rfl) rfl
theorem sz_27 : (Tryd.prog.info? 27).map (·.size) = some 19 := by kernel_rfl
theorem by_27 : (Tryd.prog.info? 27).map (·.bytes) = some 64 := by kernel_rfl
theorem many_27 : Many Tryd.prog 27 19 := Many.mk Tryd.underlying27 rfl sz_27
theorem zero_27 : Zero Tryd.prog 27 [.int .i64 0, .int .u8 0, .int .u8 0, .int .u8 0, .int .u8 0, .int .u8 0, .int .u8 0, .int .u8 0, .int .u8 0, .int .u8 0, .int .u8 0, .int .u8 0, .int .u8 0, .int .i64 0, .int .u32 0, .int .u32 0, .int .i64 0, .int .i64 0, .int .i64 0] := Zero.mk (z := .agg #[.int .i64 0, .int .u8 0, .int .u8 0, .int .u8 0, .int .u8 0, .int .u8 0, .int .u8 0, .int .u8 0, .int .u8 0, .int .u8 0, .int .u8 0, .int .u8 0, .int .u8 0, .int .i64 0, .int .u32 0, .int .u32 0, .int .i64 0, .int .i64 0, .int .i64 0]) (by kernel_rfl) rfl
theorem sz_28 : (Tryd.prog.info? 28).map (·.size) = some 19 := by kernel_rfl
theorem by_28 : (Tryd.prog.info? 28).map (·.bytes) = some 64 := by kernel_rfl
theorem many_28 : Many Tryd.prog 28 19 := Many.mk Tryd.underlying28 rfl sz_28
theorem zero_28 : Zero Tryd.prog 28 [.int .i64 0, .int .u8 0, .int .u8 0, .int .u8 0, .int .u8 0, .int .u8 0, .int .u8 0, .int .u8 0, .int .u8 0, .int .u8 0, .int .u8 0, .int .u8 0, .int .u8 0, .int .i64 0, .int .u32 0, .int .u32 0, .int .i64 0, .int .i64 0, .int .i64 0] := Zero.mk (z := .agg #[.int .i64 0, .int .u8 0, .int .u8 0, .int .u8 0, .int .u8 0, .int .u8 0, .int .u8 0, .int .u8 0, .int .u8 0, .int .u8 0, .int .u8 0, .int .u8 0, .int .u8 0, .int .i64 0, .int .u32 0, .int .u32 0, .int .i64 0, .int .i64 0, .int .i64 0]) (by kernel_rfl) rfl
theorem sz_29 : (Tryd.prog.info? 29).map (·.size) = some 1 := by kernel_rfl
theorem by_29 : (Tryd.prog.info? 29).map (·.bytes) = some 8 := by kernel_rfl
theorem one_29 : One Tryd.prog 29 := One.mk Tryd.underlying29 rfl sz_29
theorem zero_29 : Zero Tryd.prog 29 [.nilFunc] := Zero.mk (z := .nilFunc) (by kernel_rfl) rfl
theorem sz_30 : (Tryd.prog.info? 30).map (·.size) = some 41 := by kernel_rfl
theorem by_30 : (Tryd.prog.info? 30).map (·.bytes) = some 160 := by kernel_rfl
theorem many_30 : Many Tryd.prog 30 41 := Many.mk Tryd.underlying30 rfl sz_30
theorem zero_30 : Zero Tryd.prog 30 [.int .i64 0, .int .u8 0, .int .u8 0, .int .u8 0, .int .u8 0, .int .u8 0, .int .u8 0, .int .u8 0, .int .u8 0, .int .u8 0, .int .u8 0, .int .u8 0, .int .u8 0, .int .i64 0, .int .u32 0, .int .u32 0, .int .i64 0, .int .i64 0, .int .i64 0, .int .i64 0, .int .u8 0, .int .u8 0, .int .u8 0, .int .u8 0, .int .u8 0, .int .u8 0, .int .u8 0, .int .u8 0, .int .u8 0, .int .u8 0, .int .u8 0, .int .u8 0, .int .i64 0, .int .u32 0, .int .u32 0, .int .i64 0, .int .i64 0, .int .i64 0, .string ⟨#[]⟩, .int .i64 0, .int .i64 0] := Zero.mk (z := .agg #[.int .i64 0, .int .u8 0, .int .u8 0, .int .u8 0, .int .u8 0, .int .u8 0, .int .u8 0, .int .u8 0, .int .u8 0, .int .u8 0, .int .u8 0, .int .u8 0, .int .u8 0, .int .i64 0, .int .u32 0, .int .u32 0, .int .i64 0, .int .i64 0, .int .i64 0, .int .i64 0, .int .u8 0, .int .u8 0, .int .u8 0, .int .u8 0, .int .u8 0, .int .u8 0, .int .u8 0, .int .u8 0, .int .u8 0, .int .u8 0, .int .u8 0, .int .u8 0, .int .i64 0, .int .u32 0, .int .u32 0, .int .i64 0, .int .i64 0, .int .i64 0, .string ⟨#[]⟩, .int .i64 0, .int .i64 0]) (by kernel_rfl) rfl
theorem sz_31 : (Tryd.prog.info? 31).map (·.size) = some 41 := by kernel_rfl
theorem by_31 : (Tryd.prog.info? 31).map (·.bytes) = some 160 := by kernel_rfl
theorem many_31 : Many Tryd.prog 31 41 := Many.mk Tryd.underlying31 rfl sz_31
theorem zero_31 : Zero Tryd.prog 31 [.int .i64 0, .int .u8 0, .int .u8 0, .int .u8 0, .int .u8 0, .int .u8 0, .int .u8 0, .int .u8 0, .int .u8 0, .int .u8 0, .int .u8 0, .int .u8 0, .int .u8 0, .int .i64 0, .int .u32 0, .int .u32 0, .int .i64 0, .int .i64 0, .int .i64 0, .int .i64 0, .int .u8 0, .int .u8 0, .int .u8 0, .int .u8 0, .int .u8 0, .int .u8 0, .int .u8 0, .int .u8 0, .int .u8 0, .int .u8 0, .int .u8 0, .int .u8 0, .int .i64 0, .int .u32 0, .int .u32 0, .int .i64 0, .int .i64 0, .int .i64 0, .string ⟨#[]⟩, .int .i64 0, .int .i64 0] := Zero.mk (z := .agg #[.int .i64 0, .int .u8 0, .int .u8 0, .int .u8 0, .int .u8 0, .int .u8 0, .int .u8 0, .int .u8 0, .int .u8 0, .int .u8 0, .int .u8 0, .int .u8 0, .int .u8 0, .int .i64 0, .int .u32 0, .int .u32 0, .int .i64 0, .int .i64 0, .int .i64 0, .int .i64 0, .int .u8 0, .int .u8 0, .int .u8 0, .int .u8 0, .int .u8 0, .int .u8 0, .int .u8 0, .int .u8 0, .int .u8 0, .int .u8 0, .int .u8 0, .int .u8 0, .int .i64 0, .int .u32 0, .int .u32 0, .int .i64 0, .int .i64 0, .int .i64 0, .string ⟨#[]⟩, .int .i64 0, .int .i64 0]) (by kernel_rfl) rfl
theorem sz_32 : (Tryd.prog.info? 32).map (·.size) = some 1 := by kernel_rfl
theorem by_32 : (Tryd.prog.info? 32).map (·.bytes) = some 8 := by kernel_rfl
theorem one_32 : One Tryd.prog 32 := One.mk Tryd.underlying32 rfl sz_32
theorem zero_32 : Zero Tryd.prog 32 [.int .i64 0] := Zero.mk (z := .int .i64 0) (by kernel_rfl) rfl
theorem sz_34 : (Tryd.prog.info? 34).map (·.size) = some 1 := by kernel_rfl
theorem by_34 : (Tryd.prog.info? 34).map (·.bytes) = some 8 := by kernel_rfl
theorem one_34 : One Tryd.prog 34 := One.mk Tryd.underlying34 rfl sz_34
theorem zero_34 : Zero Tryd.prog 34 [.nilFunc] := Zero.mk (z := .nilFunc) (by kernel_rfl) rfl
theorem sz_36 : (Tryd.prog.info? 36).map (·.size) = some 1 := by kernel_rfl
theorem by_36 : (Tryd.prog.info? 36).map (·.bytes) = some 8 := by kernel_rfl
theorem one_36 : One Tryd.prog 36 := One.mk Tryd.underlying36 rfl sz_36
theorem zero_36 : Zero Tryd.prog 36 [.nilFunc] := Zero.mk (z := .nilFunc) (by kernel_rfl) rfl
theorem sz_37 : (Tryd.prog.info? 37).map (·.size) = some 1 := by kernel_rfl
theorem by_37 : (Tryd.prog.info? 37).map (·.bytes) = some 8 := by kernel_rfl
theorem one_37 : One Tryd.prog 37 := One.mk Tryd.underlying37 rfl sz_37
theorem zero_37 : Zero Tryd.prog 37 [.nilFunc] := Zero.mk (z := .nilFunc) (by kernel_rfl) rfl
theorem sz_38 : (Tryd.prog.info? 38).map (·.size) = some 1 := by kernel_rfl
theorem by_38 : (Tryd.prog.info? 38).map (·.bytes) = some 8 := by kernel_rfl
theorem one_38 : One Tryd.prog 38 := One.mk Tryd.underlying38 rfl sz_38
theorem zero_38 : Zero Tryd.prog 38 [.nilFunc] := Zero.mk (z := .nilFunc) (by kernel_rfl) rfl
theorem sz_39 : (Tryd.prog.info? 39).map (·.size) = some 1 := by kernel_rfl
theorem by_39 : (Tryd.prog.info? 39).map (·.bytes) = some 8 := by kernel_rfl
theorem one_39 : One Tryd.prog 39 := One.mk Tryd.underlying39 rfl sz_39
theorem zero_39 : Zero Tryd.prog 39 [.nilFunc] := Zero.mk (z := .nilFunc) (by kernel_rfl) rfl
theorem sz_40 : (Tryd.prog.info? 40).map (·.size) = some 1 := by kernel_rfl
theorem by_40 : (Tryd.prog.info? 40).map (·.bytes) = some 8 := by kernel_rfl
theorem one_40 : One Tryd.prog 40 := One.mk Tryd.underlying40 rfl sz_40
theorem zero_40 : Zero Tryd.prog 40 [.nilFunc] := Zero.mk (z := .nilFunc) (by kernel_rfl) rfl
theorem sz_41 : (Tryd.prog.info? 41).map (·.size) = some 1 := by kernel_rfl
theorem by_41 : (Tryd.prog.info? 41).map (·.bytes) = some 8 := by kernel_rfl
theorem one_41 : One Tryd.prog 41 := One.mk Tryd.underlying41 rfl sz_41
theorem zero_41 : Zero Tryd.prog 41 [.nilFunc] := Zero.mk (z := .nilFunc) (by kernel_rfl) rfl
theorem sz_42 : (Tryd.prog.info? 42).map (·.size) = some 1 := by kernel_rfl
theorem by_42 : (Tryd.prog.info? 42).map (·.bytes) = some 8 := by kernel_rfl
theorem one_42 : One Tryd.prog 42 := One.mk Tryd.underlying42 rfl sz_42
theorem zero_42 : Zero Tryd.prog 42 [.nilFunc] := Zero.mk (z := .nilFunc) (by kernel_rfl) rfl
theorem sz_43 : (Tryd.prog.info? 43).map (·.size) = some 1 := by kernel_rfl
theorem by_43 : (Tryd.prog.info? 43).map (·.bytes) = some 8 := by kernel_rfl
theorem one_43 : One Tryd.prog 43 := One.mk Tryd.underlying43 rfl sz_43
theorem zero_43 : Zero Tryd.prog 43 [.nilFunc] := Zero.mk (z := .nilFunc) (by kernel_rfl) rfl
theorem sz_44 : (Tryd.prog.info? 44).map (·.size) = some 1 := by kernel_rfl
theorem by_44 : (Tryd.prog.info? 44).map (·.bytes) = some 8 := by kernel_rfl
theorem one_44 : One Tryd.prog 44 := One.mk Tryd.underlying44 rfl sz_44
theorem zero_44 : Zero Tryd.prog 44 [.nilFunc] := Zero.mk (z := .nilFunc) (by kernel_rfl) rfl
theorem sz_45 : (Tryd.prog.info? 45).map (·.size) = some 1 := by kernel_rfl
theorem by_45 : (Tryd.prog.info? 45).map (·.bytes) = some 8 := by kernel_rfl
theorem one_45 : One Tryd.prog 45 := One.mk Tryd.underlying45 rfl sz_45
theorem zero_45 : Zero Tryd.prog 45 [.nilFunc] := Zero.mk (z := .nilFunc) (by kernel_rfl) rfl
theorem sz_46 : (Tryd.prog.info? 46).map (·.size) = some 1 := by kernel_rfl
theorem by_46 : (Tryd.prog.info? 46).map (·.bytes) = some 8 := by kernel_rfl
theorem one_46 : One Tryd.prog 46 := One.mk Tryd.underlying46 rfl sz_46
theorem zero_46 : Zero Tryd.prog 46 [.nilFunc] := Zero.mk (z := .nilFunc) (by kernel_rfl) rfl
theorem sz_47 : (Tryd.prog.info? 47).map (·.size) = some 1 := by kernel_rfl
theorem by_47 : (Tryd.prog.info? 47).map (·.bytes) = some 8 := by kernel_rfl
theorem one_47 : One Tryd.prog 47 := One.mk Tryd.underlying47 rfl sz_47
theorem zero_47 : Zero Tryd.prog 47 [.nilFunc] := Zero.mk (z := .nilFunc) (by kernel_rfl) rfl
theorem sz_48 : (Tryd.prog.info? 48).map (·.size) = some 1 := by kernel_rfl
theorem by_48 : (Tryd.prog.info? 48).map (·.bytes) = some 8 := by kernel_rfl
theorem one_48 : One Tryd.prog 48 := One.mk Tryd.underlying48 rfl sz_48
theorem zero_48 : Zero Tryd.prog 48 [.nilFunc] := Zero.mk (z := .nilFunc) (by kernel_rfl) rfl
theorem sz_49 : (Tryd.prog.info? 49).map (·.size) = some 1 := by kernel_rfl
theorem by_49 : (Tryd.prog.info? 49).map (·.bytes) = some 8 := by kernel_rfl
theorem one_49 : One Tryd.prog 49 := One.mk Tryd.underlying49 rfl sz_49
theorem zero_49 : Zero Tryd.prog 49 [.nilFunc] := Zero.mk (z := .nilFunc) (by kernel_rfl) rfl
theorem sz_50 : (Tryd.prog.info? 50).map (·.size) = some 1 := by kernel_rfl
theorem by_50 : (Tryd.prog.info? 50).map (·.bytes) = some 8 := by kernel_rfl
theorem one_50 : One Tryd.prog 50 := One.mk Tryd.underlying50 rfl sz_50
theorem zero_50 : Zero Tryd.prog 50 [.int .i64 0] := Zero.mk (z := .int .i64 0) (by kernel_rfl) rfl
theorem sz_51 : (Tryd.prog.info? 51).map (·.size) = some 1 := by kernel_rfl
theorem by_51 : (Tryd.prog.info? 51).map (·.bytes) = some 8 := by kernel_rfl
theorem one_51 : One Tryd.prog 51 := One.mk Tryd.underlying51 rfl sz_51
theorem zero_51 : Zero Tryd.prog 51 [.nilFunc] := Zero.mk (z := .nilFunc) (by kernel_rfl) rfl
theorem sz_52 : (Tryd.prog.info? 52).map (·.size) = some 1 := by kernel_rfl
theorem by_52 : (Tryd.prog.info? 52).map (·.bytes) = some 8 := by kernel_rfl
theorem one_52 : One Tryd.prog 52 := One.mk Tryd.underlying52 rfl sz_52
theorem zero_52 : Zero Tryd.prog 52 [.int .u64 0] := Zero.mk (z := .int .u64 0) (by kernel_rfl) rfl
theorem sz_53 : (Tryd.prog.info? 53).map (·.size) = some 1 := by kernel_rfl
theorem by_53 : (Tryd.prog.info? 53).map (·.bytes) = some 8 := by kernel_rfl
theorem one_53 : One Tryd.prog 53 := One.mk Tryd.underlying53 rfl sz_53
theorem zero_53 : Zero Tryd.prog 53 [.pointer none] := Zero.mk (z := .pointer none) (by kernel_rfl) rfl
theorem sz_54 : (Tryd.prog.info? 54).map (·.size) = some 1 := by kernel_rfl
theorem by_54 : (Tryd.prog.info? 54).map (·.bytes) = some 8 := by kernel_rfl
theorem one_54 : One Tryd.prog 54 := One.mk Tryd.underlying54 rfl sz_54
theorem zero_54 : Zero Tryd.prog 54 [.nilFunc] := Zero.mk (z := .nilFunc) (by kernel_rfl) rfl
theorem sz_55 : (Tryd.prog.info? 55).map (·.size) = some 1 := by kernel_rfl
theorem by_55 : (Tryd.prog.info? 55).map (·.bytes) = some 8 := by kernel_rfl
theorem one_55 : One Tryd.prog 55 := One.mk Tryd.underlying55 rfl sz_55
theorem zero_55 : Zero Tryd.prog 55 [.nilFunc] := Zero.mk (z := .nilFunc) (by kernel_rfl) rfl
theorem sz_56 : (Tryd.prog.info? 56).map (·.size) = some 6 := by kernel_rfl
theorem by_56 : (Tryd.prog.info? 56).map (·.bytes) = some 48 := by kernel_rfl
theorem many_56 : Many Tryd.prog 56 6 := Many.mk Tryd.underlying56 rfl sz_56
theorem zero_56 : Zero Tryd.prog 56 [.int .i64 0, .int .i64 0, .int .i64 0, .int .i64 0, .int .i64 0, .int .i64 0] := Zero.mk (z := .agg #[.int .i64 0, .int .i64 0, .int .i64 0, .int .i64 0, .int .i64 0, .int .i64 0]) (by kernel_rfl) rfl
theorem sz_57 : (Tryd.prog.info? 57).map (·.size) = some 1 := by kernel_rfl
theorem by_57 : (Tryd.prog.info? 57).map (·.bytes) = some 8 := by kernel_rfl
theorem one_57 : One Tryd.prog 57 := One.mk Tryd.underlying57 rfl sz_57
theorem zero_57 : Zero Tryd.prog 57 [.nilFunc] := Zero.mk (z := .nilFunc) (by kernel_rfl) rfl
theorem sz_58 : (Tryd.prog.info? 58).map (·.size) = some 1 := by kernel_rfl
theorem by_58 : (Tryd.prog.info? 58).map (·.bytes) = some 8 := by kernel_rfl
theorem one_58 : One Tryd.prog 58 := One.mk Tryd.underlying58 rfl sz_58
theorem zero_58 : Zero Tryd.prog 58 [.int .u64 0] := Zero.mk (z := .int .u64 0) (by kernel_rfl) rfl
theorem sz_59 : (Tryd.prog.info? 59).map (·.size) = some 1 := by kernel_rfl
theorem by_59 : (Tryd.prog.info? 59).map (·.bytes) = some 8 := by kernel_rfl
theorem one_59 : One Tryd.prog 59 := One.mk Tryd.underlying59 rfl sz_59
theorem zero_59 : Zero Tryd.prog 59 [.nilFunc] := Zero.mk (z := .nilFunc) (by kernel_rfl) rfl
theorem sz_60 : (Tryd.prog.info? 60).map (·.size) = some 1 := by kernel_rfl
theorem by_60 : (Tryd.prog.info? 60).map (·.bytes) = some 8 := by kernel_rfl
theorem one_60 : One Tryd.prog 60 := One.mk Tryd.underlying60 rfl sz_60
theorem zero_60 : Zero Tryd.prog 60 [.nilFunc] := Zero.mk (z := .nilFunc) (by kernel_rfl) rfl
theorem sz_61 : (Tryd.prog.info? 61).map (·.size) = some 1 := by kernel_rfl
theorem by_61 : (Tryd.prog.info? 61).map (·.bytes) = some 8 := by kernel_rfl
theorem one_61 : One Tryd.prog 61 := One.mk Tryd.underlying61 rfl sz_61
theorem zero_61 : Zero Tryd.prog 61 [.nilFunc] := Zero.mk (z := .nilFunc) (by kernel_rfl) rfl
theorem sz_62 : (Tryd.prog.info? 62).map (·.size) = some 9 := by kernel_rfl
theorem by_62 : (Tryd.prog.info? 62).map (·.bytes) = some 72 := by kernel_rfl
theorem many_62 : Many Tryd.prog 62 9 := Many.mk Tryd.underlying62 rfl sz_62
theorem zero_62 : Zero Tryd.prog 62 [.int .i64 0, .int .i64 0, .int .i64 0, .int .i64 0, .int .i64 0, .int .i64 0, .int .i64 0, .int .i64 0, .int .i64 0] := Zero.mk (z := .agg #[.int .i64 0, .int .i64 0, .int .i64 0, .int .i64 0, .int .i64 0, .int .i64 0, .int .i64 0, .int .i64 0, .int .i64 0]) (by kernel_rfl) rfl
theorem sz_63 : (Tryd.prog.info? 63).map (·.size) = some 1 := by kernel_rfl
theorem by_63 : (Tryd.prog.info? 63).map (·.bytes) = some 8 := by kernel_rfl
theorem one_63 : One Tryd.prog 63 := One.mk Tryd.underlying63 rfl sz_63
theorem zero_63 : Zero Tryd.prog 63 [.nilFunc] := Zero.mk (z := .nilFunc) (by kernel_rfl) rfl
theorem sz_64 : (Tryd.prog.info? 64).map (·.size) = some 4 := by kernel_rfl
theorem by_64 : (Tryd.prog.info? 64).map (·.bytes) = some 40 := by kernel_rfl
theorem many_64 : Many Tryd.prog 64 4 := Many.mk Tryd.underlying64 rfl sz_64
theorem zero_64 : Zero Tryd.prog 64 [.pointer none, .pointer none, .pointer none, .string ⟨#[]⟩] := Zero.mk (z := .agg #[.pointer none, .pointer none, .pointer none, .string ⟨#[]⟩]) (by kernel_rfl) rfl
theorem sz_65 : (Tryd.prog.info? 65).map (·.size) = some 4 := by kernel_rfl
theorem by_65 : (Tryd.prog.info? 65).map (·.bytes) = some 40 := by kernel_rfl
theorem many_65 : Many Tryd.prog 65 4 := Many.mk Tryd.underlying65 rfl sz_65
theorem zero_65 : Zero Tryd.prog 65 [.pointer none, .pointer none, .pointer none, .string ⟨#[]⟩] := Zero.mk (z := .agg #[.pointer none, .pointer none, .pointer none, .string ⟨#[]⟩]) (by kernel_rfl) rfl
theorem sz_66 : (Tryd.prog.info? 66).map (·.size) = some 0 := by kernel_rfl
theorem by_66 : (Tryd.prog.info? 66).map (·.bytes) = some 0 := by kernel_rfl
theorem many_66 : Many Tryd.prog 66 0 := Many.mk Tryd.underlying66 rfl sz_66
theorem zero_66 : Zero Tryd.prog 66 [] := Zero.mk (z := .agg #[]) (by kernel_rfl) rfl
theorem sz_67 : (Tryd.prog.info? 67).map (·.size) = some 0 := by kernel_rfl
theorem by_67 : (Tryd.prog.info? 67).map (·.bytes) = some 0 := by kernel_rfl
theorem many_67 : Many Tryd.prog 67 0 := Many.mk Tryd.underlying67 rfl sz_67
theorem zero_67 : Zero Tryd.prog 67 [] := Zero.mk (z := .agg #[]) (by kernel_rfl) rfl
theorem sz_68 : (Tryd.prog.info? 68).map (·.size) = some 0 := by kernel_rfl
theorem by_68 : (Tryd.prog.info? 68).map (·.bytes) = some 0 := by kernel_rfl
theorem many_68 : Many Tryd.prog 68 0 := Many.mk Tryd.underlying68 rfl sz_68
theorem zero_68 : Zero Tryd.prog 68 [] := Zero.mk (z := .agg #[]) (by kernel_rfl) rfl
theorem sz_69 : (Tryd.prog.info? 69).map (·.size) = some 1 := by kernel_rfl
theorem by_69 : (Tryd.prog.info? 69).map (·.bytes) = some 8 := by kernel_rfl
theorem one_69 : One Tryd.prog 69 := One.mk Tryd.underlying69 rfl sz_69
theorem zero_69 : Zero Tryd.prog 69 [.nilFunc] := Zero.mk (z := .nilFunc) (by kernel_rfl) rfl
theorem sz_70 : (Tryd.prog.info? 70).map (·.size) = some 1 := by kernel_rfl
theorem by_70 : (Tryd.prog.info? 70).map (·.bytes) = some 1 := by kernel_rfl
theorem one_70 : One Tryd.prog 70 := One.mk Tryd.underlying70 rfl sz_70
theorem zero_70 : Zero Tryd.prog 70 [.int .u8 0] := Zero.mk (z := .int .u8 0) (by kernel_rfl) rfl
theorem sz_71 : (Tryd.prog.info? 71).map (·.size) = some 1 := by kernel_rfl
theorem by_71 : (Tryd.prog.info? 71).map (·.bytes) = some 1 := by kernel_rfl
theorem one_71 : One Tryd.prog 71 := One.mk Tryd.underlying71 rfl sz_71
theorem zero_71 : Zero Tryd.prog 71 [.int .u8 0] := Zero.mk (z := .int .u8 0) (by kernel_rfl) rfl
theorem sz_72 : (Tryd.prog.info? 72).map (·.size) = some 1 := by kernel_rfl
theorem by_72 : (Tryd.prog.info? 72).map (·.bytes) = some 8 := by kernel_rfl
theorem one_72 : One Tryd.prog 72 := One.mk Tryd.underlying72 rfl sz_72
theorem zero_72 : Zero Tryd.prog 72 [.nilFunc] := Zero.mk (z := .nilFunc) (by kernel_rfl) rfl
theorem sz_73 : (Tryd.prog.info? 73).map (·.size) = some 1 := by kernel_rfl
theorem by_73 : (Tryd.prog.info? 73).map (·.bytes) = some 8 := by kernel_rfl
theorem one_73 : One Tryd.prog 73 := One.mk Tryd.underlying73 rfl sz_73
theorem zero_73 : Zero Tryd.prog 73 [.pointer none] := Zero.mk (z := .pointer none) (by kernel_rfl) rfl
theorem sz_74 : (Tryd.prog.info? 74).map (·.size) = some 1 := by kernel_rfl
theorem by_74 : (Tryd.prog.info? 74).map (·.bytes) = some 4 := by kernel_rfl
theorem one_74 : One Tryd.prog 74 := One.mk Tryd.underlying74 rfl sz_74
theorem zero_74 : Zero Tryd.prog 74 [.int .i32 0] := Zero.mk (z := .int .i32 0) (by kernel_rfl) rfl
theorem sz_75 : (Tryd.prog.info? 75).map (·.size) = some 1 := by kernel_rfl
theorem by_75 : (Tryd.prog.info? 75).map (·.bytes) = some 4 := by kernel_rfl
theorem one_75 : One Tryd.prog 75 := One.mk Tryd.underlying75 rfl sz_75
theorem zero_75 : Zero Tryd.prog 75 [.int .i32 0] := Zero.mk (z := .int .i32 0) (by kernel_rfl) rfl
theorem sz_76 : (Tryd.prog.info? 76).map (·.size) = some 11 := by kernel_rfl
theorem by_76 : (Tryd.prog.info? 76).map (·.bytes) = some 48 := by kernel_rfl
theorem many_76 : Many Tryd.prog 76 11 := Many.mk Tryd.underlying76 rfl sz_76
theorem zero_76 : Zero Tryd.prog 76 [.int .u64 0, .int .u64 0, .int .u32 0, .int .u8 0, .int .u8 0, .int .u8 0, .int .u8 0, .nilFunc, .pointer none, .int .i32 0, .int .i32 0] := Zero.mk (z := .agg #[.int .u64 0, .int .u64 0, .int .u32 0, .int .u8 0, .int .u8 0, .int .u8 0, .int .u8 0, .nilFunc, .pointer none, .int .i32 0, .int .i32 0]) (by kernel_rfl) rfl
theorem sz_77 : (Tryd.prog.info? 77).map (·.size) = some 11 := by kernel_rfl
theorem by_77 : (Tryd.prog.info? 77).map (·.bytes) = some 48 := by kernel_rfl
theorem many_77 : Many Tryd.prog 77 11 := Many.mk Tryd.underlying77 rfl sz_77
theorem zero_77 : Zero Tryd.prog 77 [.int .u64 0, .int .u64 0, .int .u32 0, .int .u8 0, .int .u8 0, .int .u8 0, .int .u8 0, .nilFunc, .pointer none, .int .i32 0, .int .i32 0] := Zero.mk (z := .agg #[.int .u64 0, .int .u64 0, .int .u32 0, .int .u8 0, .int .u8 0, .int .u8 0, .int .u8 0, .nilFunc, .pointer none, .int .i32 0, .int .i32 0]) (by kernel_rfl) rfl
theorem sz_78 : (Tryd.prog.info? 78).map (·.size) = some 1 := by kernel_rfl
theorem by_78 : (Tryd.prog.info? 78).map (·.bytes) = some 8 := by kernel_rfl
theorem one_78 : One Tryd.prog 78 := One.mk Tryd.underlying78 rfl sz_78
theorem zero_78 : Zero Tryd.prog 78 [.pointer none] := Zero.mk (z := .pointer none) (by kernel_rfl) rfl
theorem fld_7_0 : FieldAt Tryd.prog 7 0 0 2 := FieldAt.mk Tryd.underlying7 rfl rfl rfl sz_2
theorem fld_7_1 : FieldAt Tryd.prog 7 1 1 3 := FieldAt.mk Tryd.underlying7 rfl rfl rfl sz_3
theorem fld_7_2 : FieldAt Tryd.prog 7 2 2 4 := FieldAt.mk Tryd.underlying7 rfl rfl rfl sz_4
theorem fld_7_3 : FieldAt Tryd.prog 7 3 3 6 := FieldAt.mk Tryd.underlying7 rfl rfl rfl sz_6
theorem fld_8_0 : FieldAt Tryd.prog 8 0 0 2 := FieldAt.mk Tryd.underlying8 rfl rfl rfl sz_2
theorem fld_8_1 : FieldAt Tryd.prog 8 1 1 3 := FieldAt.mk Tryd.underlying8 rfl rfl rfl sz_3
theorem fld_8_2 : FieldAt Tryd.prog 8 2 2 4 := FieldAt.mk Tryd.underlying8 rfl rfl rfl sz_4
theorem fld_8_3 : FieldAt Tryd.prog 8 3 3 6 := FieldAt.mk Tryd.underlying8 rfl rfl rfl sz_6
theorem fld_13_0 : FieldAt Tryd.prog 13 0 0 9 := FieldAt.mk Tryd.underlying13 rfl rfl rfl sz_9
theorem fld_13_1 : FieldAt Tryd.prog 13 1 1 12 := FieldAt.mk Tryd.underlying13 rfl rfl rfl sz_12
theorem fld_14_0 : FieldAt Tryd.prog 14 0 0 9 := FieldAt.mk Tryd.underlying14 rfl rfl rfl sz_9
theorem fld_14_1 : FieldAt Tryd.prog 14 1 1 12 := FieldAt.mk Tryd.underlying14 rfl rfl rfl sz_12
theorem fld_18_0 : FieldAt Tryd.prog 18 0 0 17 := FieldAt.mk Tryd.underlying18 rfl rfl rfl sz_17
theorem fld_19_0 : FieldAt Tryd.prog 19 0 0 17 := FieldAt.mk Tryd.underlying19 rfl rfl rfl sz_17
theorem fld_27_0 : FieldAt Tryd.prog 27 0 0 3 := FieldAt.mk Tryd.underlying27 rfl rfl rfl sz_3
theorem fld_27_1 : FieldAt Tryd.prog 27 1 1 24 := FieldAt.mk Tryd.underlying27 rfl rfl rfl sz_24
theorem fld_27_2 : FieldAt Tryd.prog 27 2 7 24 := FieldAt.mk Tryd.underlying27 rfl rfl rfl sz_24
theorem fld_27_3 : FieldAt Tryd.prog 27 3 13 3 := FieldAt.mk Tryd.underlying27 rfl rfl rfl sz_3
theorem fld_27_4 : FieldAt Tryd.prog 27 4 14 26 := FieldAt.mk Tryd.underlying27 rfl rfl rfl sz_26
theorem fld_27_5 : FieldAt Tryd.prog 27 5 15 26 := FieldAt.mk Tryd.underlying27 rfl rfl rfl sz_26
theorem fld_27_6 : FieldAt Tryd.prog 27 6 16 3 := FieldAt.mk Tryd.underlying27 rfl rfl rfl sz_3
theorem fld_27_7 : FieldAt Tryd.prog 27 7 17 3 := FieldAt.mk Tryd.underlying27 rfl rfl rfl sz_3
theorem fld_27_8 : FieldAt Tryd.prog 27 8 18 3 := FieldAt.mk Tryd.underlying27 rfl rfl rfl sz_3
theorem fld_28_0 : FieldAt Tryd.prog 28 0 0 3 := FieldAt.mk Tryd.underlying28 rfl rfl rfl sz_3
theorem fld_28_1 : FieldAt Tryd.prog 28 1 1 24 := FieldAt.mk Tryd.underlying28 rfl rfl rfl sz_24
theorem fld_28_2 : FieldAt Tryd.prog 28 2 7 24 := FieldAt.mk Tryd.underlying28 rfl rfl rfl sz_24
theorem fld_28_3 : FieldAt Tryd.prog 28 3 13 3 := FieldAt.mk Tryd.underlying28 rfl rfl rfl sz_3
theorem fld_28_4 : FieldAt Tryd.prog 28 4 14 26 := FieldAt.mk Tryd.underlying28 rfl rfl rfl sz_26
theorem fld_28_5 : FieldAt Tryd.prog 28 5 15 26 := FieldAt.mk Tryd.underlying28 rfl rfl rfl sz_26
theorem fld_28_6 : FieldAt Tryd.prog 28 6 16 3 := FieldAt.mk Tryd.underlying28 rfl rfl rfl sz_3
theorem fld_28_7 : FieldAt Tryd.prog 28 7 17 3 := FieldAt.mk Tryd.underlying28 rfl rfl rfl sz_3
theorem fld_28_8 : FieldAt Tryd.prog 28 8 18 3 := FieldAt.mk Tryd.underlying28 rfl rfl rfl sz_3
theorem fld_30_0 : FieldAt Tryd.prog 30 0 0 28 := FieldAt.mk Tryd.underlying30 rfl rfl rfl sz_28
theorem fld_30_1 : FieldAt Tryd.prog 30 1 19 28 := FieldAt.mk Tryd.underlying30 rfl rfl rfl sz_28
theorem fld_30_2 : FieldAt Tryd.prog 30 2 38 9 := FieldAt.mk Tryd.underlying30 rfl rfl rfl sz_9
theorem fld_30_3 : FieldAt Tryd.prog 30 3 39 3 := FieldAt.mk Tryd.underlying30 rfl rfl rfl sz_3
theorem fld_30_4 : FieldAt Tryd.prog 30 4 40 3 := FieldAt.mk Tryd.underlying30 rfl rfl rfl sz_3
theorem fld_31_0 : FieldAt Tryd.prog 31 0 0 28 := FieldAt.mk Tryd.underlying31 rfl rfl rfl sz_28
theorem fld_31_1 : FieldAt Tryd.prog 31 1 19 28 := FieldAt.mk Tryd.underlying31 rfl rfl rfl sz_28
theorem fld_31_2 : FieldAt Tryd.prog 31 2 38 9 := FieldAt.mk Tryd.underlying31 rfl rfl rfl sz_9
theorem fld_31_3 : FieldAt Tryd.prog 31 3 39 3 := FieldAt.mk Tryd.underlying31 rfl rfl rfl sz_3
theorem fld_31_4 : FieldAt Tryd.prog 31 4 40 3 := FieldAt.mk Tryd.underlying31 rfl rfl rfl sz_3
theorem fld_64_0 : FieldAt Tryd.prog 64 0 0 17 := FieldAt.mk Tryd.underlying64 rfl rfl rfl sz_17
theorem fld_64_1 : FieldAt Tryd.prog 64 1 1 17 := FieldAt.mk Tryd.underlying64 rfl rfl rfl sz_17
theorem fld_64_2 : FieldAt Tryd.prog 64 2 2 17 := FieldAt.mk Tryd.underlying64 rfl rfl rfl sz_17
theorem fld_64_3 : FieldAt Tryd.prog 64 3 3 9 := FieldAt.mk Tryd.underlying64 rfl rfl rfl sz_9
theorem fld_65_0 : FieldAt Tryd.prog 65 0 0 17 := FieldAt.mk Tryd.underlying65 rfl rfl rfl sz_17
theorem fld_65_1 : FieldAt Tryd.prog 65 1 1 17 := FieldAt.mk Tryd.underlying65 rfl rfl rfl sz_17
theorem fld_65_2 : FieldAt Tryd.prog 65 2 2 17 := FieldAt.mk Tryd.underlying65 rfl rfl rfl sz_17
theorem fld_65_3 : FieldAt Tryd.prog 65 3 3 9 := FieldAt.mk Tryd.underlying65 rfl rfl rfl sz_9
theorem fld_76_0 : FieldAt Tryd.prog 76 0 0 12 := FieldAt.mk Tryd.underlying76 rfl rfl rfl sz_12
theorem fld_76_1 : FieldAt Tryd.prog 76 1 1 12 := FieldAt.mk Tryd.underlying76 rfl rfl rfl sz_12
theorem fld_76_2 : FieldAt Tryd.prog 76 2 2 25 := FieldAt.mk Tryd.underlying76 rfl rfl rfl sz_25
theorem fld_76_3 : FieldAt Tryd.prog 76 3 3 70 := FieldAt.mk Tryd.underlying76 rfl rfl rfl sz_70
theorem fld_76_4 : FieldAt Tryd.prog 76 4 4 5 := FieldAt.mk Tryd.underlying76 rfl rfl rfl sz_5
theorem fld_76_5 : FieldAt Tryd.prog 76 5 5 5 := FieldAt.mk Tryd.underlying76 rfl rfl rfl sz_5
theorem fld_76_6 : FieldAt Tryd.prog 76 6 6 71 := FieldAt.mk Tryd.underlying76 rfl rfl rfl sz_71
theorem fld_76_7 : FieldAt Tryd.prog 76 7 7 72 := FieldAt.mk Tryd.underlying76 rfl rfl rfl sz_72
theorem fld_76_8 : FieldAt Tryd.prog 76 8 8 73 := FieldAt.mk Tryd.underlying76 rfl rfl rfl sz_73
theorem fld_76_9 : FieldAt Tryd.prog 76 9 9 74 := FieldAt.mk Tryd.underlying76 rfl rfl rfl sz_74
theorem fld_76_10 : FieldAt Tryd.prog 76 10 10 75 := FieldAt.mk Tryd.underlying76 rfl rfl rfl sz_75
theorem fld_77_0 : FieldAt Tryd.prog 77 0 0 12 := FieldAt.mk Tryd.underlying77 rfl rfl rfl sz_12
theorem fld_77_1 : FieldAt Tryd.prog 77 1 1 12 := FieldAt.mk Tryd.underlying77 rfl rfl rfl sz_12
theorem fld_77_2 : FieldAt Tryd.prog 77 2 2 25 := FieldAt.mk Tryd.underlying77 rfl rfl rfl sz_25
theorem fld_77_3 : FieldAt Tryd.prog 77 3 3 70 := FieldAt.mk Tryd.underlying77 rfl rfl rfl sz_70
theorem fld_77_4 : FieldAt Tryd.prog 77 4 4 5 := FieldAt.mk Tryd.underlying77 rfl rfl rfl sz_5
theorem fld_77_5 : FieldAt Tryd.prog 77 5 5 5 := FieldAt.mk Tryd.underlying77 rfl rfl rfl sz_5
theorem fld_77_6 : FieldAt Tryd.prog 77 6 6 71 := FieldAt.mk Tryd.underlying77 rfl rfl rfl sz_71
theorem fld_77_7 : FieldAt Tryd.prog 77 7 7 72 := FieldAt.mk Tryd.underlying77 rfl rfl rfl sz_72
theorem fld_77_8 : FieldAt Tryd.prog 77 8 8 73 := FieldAt.mk Tryd.underlying77 rfl rfl rfl sz_73
theorem fld_77_9 : FieldAt Tryd.prog 77 9 9 74 := FieldAt.mk Tryd.underlying77 rfl rfl rfl sz_74
theorem fld_77_10 : FieldAt Tryd.prog 77 10 10 75 := FieldAt.mk Tryd.underlying77 rfl rfl rfl sz_75
theorem plc_28 : Places Tryd.prog 28 [(0, 1), (1, 6), (7, 6), (13, 1), (14, 1), (15, 1), (16, 1), (17, 1), (18, 1)] := ⟨_, Tryd.underlying28, fun w => by simp [run_sizeOf sz_3, run_sizeOf sz_24, run_sizeOf sz_26]⟩
theorem plc_31 : Places Tryd.prog 31 [(0, 19), (19, 19), (38, 1), (39, 1), (40, 1)] := ⟨_, Tryd.underlying31, fun w => by simp [run_sizeOf sz_28, run_sizeOf sz_9, run_sizeOf sz_3]⟩
theorem eqk_28 : EqK Tryd.prog 10000 28 true [.i .i64, .i .u8, .i .u8, .i .u8, .i .u8, .i .u8, .i .u8, .i .u8, .i .u8, .i .u8, .i .u8, .i .u8, .i .u8, .i .i64, .i .u32, .i .u32, .i .i64, .i .i64, .i .i64] := (EqK.struct Tryd.underlying28 (by kernel_rfl) sz_28 (.cons (off := 0) (k1 := [.i .i64]) (k2 := [.i .u8, .i .u8, .i .u8, .i .u8, .i .u8, .i .u8, .i .u8, .i .u8, .i .u8, .i .u8, .i .u8, .i .u8, .i .i64, .i .u32, .i .u32, .i .i64, .i .i64, .i .i64]) (by kernel_rfl) rfl (EqK.int Tryd.underlying3 sz_3) (.cons (off := 1) (k1 := [.i .u8, .i .u8, .i .u8, .i .u8, .i .u8, .i .u8]) (k2 := [.i .u8, .i .u8, .i .u8, .i .u8, .i .u8, .i .u8, .i .i64, .i .u32, .i .u32, .i .i64, .i .i64, .i .i64]) (by kernel_rfl) rfl (EqK.array Tryd.underlying24 sz_24 (EqK.int Tryd.underlying5 sz_5) rfl) (.cons (off := 7) (k1 := [.i .u8, .i .u8, .i .u8, .i .u8, .i .u8, .i .u8]) (k2 := [.i .i64, .i .u32, .i .u32, .i .i64, .i .i64, .i .i64]) (by kernel_rfl) rfl (EqK.array Tryd.underlying24 sz_24 (EqK.int Tryd.underlying5 sz_5) rfl) (.cons (off := 13) (k1 := [.i .i64]) (k2 := [.i .u32, .i .u32, .i .i64, .i .i64, .i .i64]) (by kernel_rfl) rfl (EqK.int Tryd.underlying3 sz_3) (.cons (off := 14) (k1 := [.i .u32]) (k2 := [.i .u32, .i .i64, .i .i64, .i .i64]) (by kernel_rfl) rfl (EqK.int Tryd.underlying26 sz_26) (.cons (off := 15) (k1 := [.i .u32]) (k2 := [.i .i64, .i .i64, .i .i64]) (by kernel_rfl) rfl (EqK.int Tryd.underlying26 sz_26) (.cons (off := 16) (k1 := [.i .i64]) (k2 := [.i .i64, .i .i64]) (by kernel_rfl) rfl (EqK.int Tryd.underlying3 sz_3) (.cons (off := 17) (k1 := [.i .i64]) (k2 := [.i .i64]) (by kernel_rfl) rfl (EqK.int Tryd.underlying3 sz_3) (.cons (off := 18) (k1 := [.i .i64]) (k2 := []) (by kernel_rfl) rfl (EqK.int Tryd.underlying3 sz_3) .nil))))))))))
theorem eqg_28 : Tryd.prog.eqGuardType Tryd.prog.depth 28 = false := by kernel_rfl
theorem ck_2 : callOk Tryd.prog 2 := callOk_of Tryd.func2 (by kernel_rfl) rfl
theorem ck_3 : callOk Tryd.prog 3 := callOk_of Tryd.func3 (by kernel_rfl) rfl
theorem ck_4 : callOk Tryd.prog 4 := callOk_of Tryd.func4 (by kernel_rfl) rfl
theorem ck_5 : callOk Tryd.prog 5 := callOk_of Tryd.func5 (by kernel_rfl) rfl
theorem ck_6 : callOk Tryd.prog 6 := callOk_of Tryd.func6 (by kernel_rfl) rfl
theorem ck_7 : callOk Tryd.prog 7 := callOk_of Tryd.func7 (by kernel_rfl) rfl
theorem ck_8 : callOk Tryd.prog 8 := callOk_of Tryd.func8 (by kernel_rfl) rfl
theorem ck_9 : callOk Tryd.prog 9 := callOk_of Tryd.func9 (by kernel_rfl) rfl
theorem ck_10 : callOk Tryd.prog 10 := callOk_of Tryd.func10 (by kernel_rfl) rfl
theorem ck_11 : callOk Tryd.prog 11 := callOk_of Tryd.func11 (by kernel_rfl) rfl
theorem ck_12 : callOk Tryd.prog 12 := callOk_of Tryd.func12 (by kernel_rfl) rfl
theorem ck_13 : callOk Tryd.prog 13 := callOk_of Tryd.func13 (by kernel_rfl) rfl
theorem ck_14 : callOk Tryd.prog 14 := callOk_of Tryd.func14 (by kernel_rfl) rfl
theorem ck_15 : callOk Tryd.prog 15 := callOk_of Tryd.func15 (by kernel_rfl) rfl
theorem ck_16 : callOk Tryd.prog 16 := callOk_of Tryd.func16 (by kernel_rfl) rfl
theorem ck_17 : callOk Tryd.prog 17 := callOk_of Tryd.func17 (by kernel_rfl) rfl
theorem ck_18 : callOk Tryd.prog 18 := callOk_of Tryd.func18 (by kernel_rfl) rfl
theorem ck_19 : callOk Tryd.prog 19 := callOk_of Tryd.func19 (by kernel_rfl) rfl
theorem ck_20 : callOk Tryd.prog 20 := callOk_of Tryd.func20 (by kernel_rfl) rfl
theorem ck_21 : callOk Tryd.prog 21 := callOk_of Tryd.func21 (by kernel_rfl) rfl
theorem ck_22 : callOk Tryd.prog 22 := callOk_of Tryd.func22 (by kernel_rfl) rfl
theorem ck_23 : callOk Tryd.prog 23 := callOk_of Tryd.func23 (by kernel_rfl) rfl
theorem ck_24 : callOk Tryd.prog 24 := callOk_of Tryd.func24 (by kernel_rfl) rfl
theorem ck_25 : callOk Tryd.prog 25 := callOk_of Tryd.func25 (by kernel_rfl) rfl
theorem ck_26 : callOk Tryd.prog 26 := callOk_of Tryd.func26 (by kernel_rfl) rfl
theorem ck_27 : callOk Tryd.prog 27 := callOk_of Tryd.func27 (by kernel_rfl) rfl
theorem ck_28 : callOk Tryd.prog 28 := callOk_of Tryd.func28 (by kernel_rfl) rfl
theorem ck_49 : callOk Tryd.prog 49 := callOk_of Tryd.func49 (by kernel_rfl) rfl
end Go.Proofs.YtpjjlggonpbegaaDoor
