/- The closed facts on this program's types and functions that the engine's laws ask for (printed by gen_ty.py). -/
import Derived.Test.YtpjjlggonpbegaaIter
import Derived.Test.YtpjjlggonpbegaaProg
namespace Go.Proofs.Ytpjjlggonpbegaa
open Go.RowKit
theorem mixed : Try.prog.follows .mixedOrders = true := by kernel_rfl
theorem sz_1 : (Try.prog.info? 1).map (·.size) = some 1 := by kernel_rfl
theorem by_1 : (Try.prog.info? 1).map (·.bytes) = some 8 := by kernel_rfl
theorem one_1 : One Try.prog 1 := One.mk Try.underlying1 rfl sz_1
theorem zero_1 : Zero Try.prog 1 [.nilFunc] := Zero.mk (z := .nilFunc) (by kernel_rfl) rfl
theorem sz_2 : (Try.prog.info? 2).map (·.size) = some 1 := by kernel_rfl
theorem by_2 : (Try.prog.info? 2).map (·.bytes) = some 8 := by kernel_rfl
theorem one_2 : One Try.prog 2 := One.mk Try.underlying2 rfl sz_2
theorem zero_2 : Zero Try.prog 2 [.int .i64 0] := Zero.mk (z := .int .i64 0) (by kernel_rfl) rfl
theorem sz_3 : (Try.prog.info? 3).map (·.size) = some 1 := by kernel_rfl
theorem by_3 : (Try.prog.info? 3).map (·.bytes) = some 8 := by kernel_rfl
theorem one_3 : One Try.prog 3 := One.mk Try.underlying3 rfl sz_3
theorem zero_3 : Zero Try.prog 3 [.int .i64 0] := Zero.mk (z := .int .i64 0) (by kernel_rfl) rfl
theorem sz_4 : (Try.prog.info? 4).map (·.size) = some 1 := by kernel_rfl
theorem by_4 : (Try.prog.info? 4).map (·.bytes) = some 1 := by kernel_rfl
theorem one_4 : One Try.prog 4 := One.mk Try.underlying4 rfl sz_4
theorem zero_4 : Zero Try.prog 4 [.bool false] := Zero.mk (z := .bool false) (by kernel_rfl) rfl
theorem sz_5 : (Try.prog.info? 5).map (·.size) = some 1 := by kernel_rfl
theorem by_5 : (Try.prog.info? 5).map (·.bytes) = some 1 := by kernel_rfl
theorem one_5 : One Try.prog 5 := One.mk Try.underlying5 rfl sz_5
theorem zero_5 : Zero Try.prog 5 [.int .u8 0] := Zero.mk (z := .int .u8 0) (by kernel_rfl) rfl
theorem sz_6 : (Try.prog.info? 6).map (·.size) = some 1 := by kernel_rfl
theorem by_6 : (Try.prog.info? 6).map (·.bytes) = some 1 := by kernel_rfl
theorem one_6 : One Try.prog 6 := One.mk Try.underlying6 rfl sz_6
theorem zero_6 : Zero Try.prog 6 [.int .u8 0] := Zero.mk (z := .int .u8 0) (by kernel_rfl) rfl
theorem sz_7 : (Try.prog.info? 7).map (·.size) = some 4 := by kernel_rfl
theorem by_7 : (Try.prog.info? 7).map (·.bytes) = some 24 := by kernel_rfl
theorem many_7 : Many Try.prog 7 4 := Many.mk Try.underlying7 rfl sz_7
theorem zero_7 : Zero Try.prog 7 [.int .i64 0, .int .i64 0, .bool false, .int .u8 0] := Zero.mk (z := .agg #[.int .i64 0, .int .i64 0, .bool false, .int .u8 0]) (by kernel_rfl) rfl
theorem sz_8 : (Try.prog.info? 8).map (·.size) = some 4 := by kernel_rfl
theorem by_8 : (Try.prog.info? 8).map (·.bytes) = some 24 := by kernel_rfl
theorem many_8 : Many Try.prog 8 4 := Many.mk Try.underlying8 rfl sz_8
theorem zero_8 : Zero Try.prog 8 [.int .i64 0, .int .i64 0, .bool false, .int .u8 0] := Zero.mk (z := .agg #[.int .i64 0, .int .i64 0, .bool false, .int .u8 0]) (by kernel_rfl) rfl
theorem sz_9 : (Try.prog.info? 9).map (·.size) = some 1 := by kernel_rfl
theorem by_9 : (Try.prog.info? 9).map (·.bytes) = some 16 := by kernel_rfl
theorem one_9 : One Try.prog 9 := One.mk Try.underlying9 rfl sz_9
theorem zero_9 : Zero Try.prog 9 [.string ⟨#[]⟩] := Zero.mk (z := .string ⟨#[]⟩) (by kernel_rfl) rfl
theorem sz_10 : (Try.prog.info? 10).map (·.size) = some 1 := by kernel_rfl
theorem by_10 : (Try.prog.info? 10).map (·.bytes) = some 16 := by kernel_rfl
theorem one_10 : One Try.prog 10 := One.mk Try.underlying10 rfl sz_10
theorem zero_10 : Zero Try.prog 10 [.string ⟨#[]⟩] := Zero.mk (z := .string ⟨#[]⟩) (by kernel_rfl) rfl
theorem sz_11 : (Try.prog.info? 11).map (·.size) = some 1 := by kernel_rfl
theorem by_11 : (Try.prog.info? 11).map (·.bytes) = some 16 := by kernel_rfl
theorem one_11 : One Try.prog 11 := One.mk Try.underlying11 rfl sz_11
theorem zero_11 : Zero Try.prog 11 [.string ⟨#[]⟩] := Zero.mk (z := .string ⟨#[]⟩) (by kernel_rfl) rfl
theorem sz_12 : (Try.prog.info? 12).map (·.size) = some 1 := by kernel_rfl
theorem by_12 : (Try.prog.info? 12).map (·.bytes) = some 8 := by kernel_rfl
theorem one_12 : One Try.prog 12 := One.mk Try.underlying12 rfl sz_12
theorem zero_12 : Zero Try.prog 12 [.int .u64 0] := Zero.mk (z := .int .u64 0) (by kernel_rfl) rfl
theorem sz_13 : (Try.prog.info? 13).map (·.size) = some 2 := by kernel_rfl
theorem by_13 : (Try.prog.info? 13).map (·.bytes) = some 24 := by kernel_rfl
theorem many_13 : Many Try.prog 13 2 := Many.mk Try.underlying13 rfl sz_13
theorem zero_13 : Zero Try.prog 13 [.string ⟨#[]⟩, .int .u64 0] := Zero.mk (z := .agg #[.string ⟨#[]⟩, .int .u64 0]) (by kernel_rfl) rfl
theorem sz_14 : (Try.prog.info? 14).map (·.size) = some 2 := by kernel_rfl
theorem by_14 : (Try.prog.info? 14).map (·.bytes) = some 24 := by kernel_rfl
theorem many_14 : Many Try.prog 14 2 := Many.mk Try.underlying14 rfl sz_14
theorem zero_14 : Zero Try.prog 14 [.string ⟨#[]⟩, .int .u64 0] := Zero.mk (z := .agg #[.string ⟨#[]⟩, .int .u64 0]) (by kernel_rfl) rfl
theorem sz_15 : (Try.prog.info? 15).map (·.size) = some 1 := by kernel_rfl
theorem by_15 : (Try.prog.info? 15).map (·.bytes) = some 8 := by kernel_rfl
theorem one_15 : One Try.prog 15 := One.mk Try.underlying15 rfl sz_15
theorem zero_15 : Zero Try.prog 15 [.pointer none] := Zero.mk (z := .pointer none) (by kernel_rfl) rfl
theorem sz_16 : (Try.prog.info? 16).map (·.size) = some 1 := by kernel_rfl
theorem by_16 : (Try.prog.info? 16).map (·.bytes) = some 8 := by kernel_rfl
theorem one_16 : One Try.prog 16 := One.mk Try.underlying16 rfl sz_16
theorem zero_16 : Zero Try.prog 16 [.pointer none] := Zero.mk (z := .pointer none) (by kernel_rfl) rfl
theorem sz_17 : (Try.prog.info? 17).map (·.size) = some 1 := by kernel_rfl
theorem by_17 : (Try.prog.info? 17).map (·.bytes) = some 8 := by kernel_rfl
theorem one_17 : One Try.prog 17 := One.mk Try.underlying17 rfl sz_17
theorem zero_17 : Zero Try.prog 17 [.pointer none] := Zero.mk (z := .pointer none) (by kernel_rfl) rfl
theorem sz_18 : (Try.prog.info? 18).map (·.size) = some 1 := by kernel_rfl
theorem by_18 : (Try.prog.info? 18).map (·.bytes) = some 8 := by kernel_rfl
theorem many_18 : Many Try.prog 18 1 := Many.mk Try.underlying18 rfl sz_18
theorem zero_18 : Zero Try.prog 18 [.pointer none] := Zero.mk (z := .agg #[.pointer none]) (by kernel_rfl) rfl
theorem sz_19 : (Try.prog.info? 19).map (·.size) = some 1 := by kernel_rfl
theorem by_19 : (Try.prog.info? 19).map (·.bytes) = some 8 := by kernel_rfl
theorem many_19 : Many Try.prog 19 1 := Many.mk Try.underlying19 rfl sz_19
theorem zero_19 : Zero Try.prog 19 [.pointer none] := Zero.mk (z := .agg #[.pointer none]) (by kernel_rfl) rfl
theorem sz_20 : (Try.prog.info? 20).map (·.size) = some 1 := by kernel_rfl
theorem by_20 : (Try.prog.info? 20).map (·.bytes) = some 16 := by kernel_rfl
theorem one_20 : One Try.prog 20 := One.mk Try.underlying20 rfl sz_20
theorem zero_20 : Zero Try.prog 20 [.nilIface] := Zero.mk (z := .nilIface) (by kernel_rfl) rfl
theorem sz_21 : (Try.prog.info? 21).map (·.size) = some 1 := by kernel_rfl
theorem by_21 : (Try.prog.info? 21).map (·.bytes) = some 4 := by kernel_rfl
theorem one_21 : One Try.prog 21 := One.mk Try.underlying21 rfl sz_21
theorem zero_21 : Zero Try.prog 21 [.int .i32 0] := Zero.mk (z := .int .i32 0) (by kernel_rfl) rfl
theorem sz_22 : (Try.prog.info? 22).map (·.size) = some 1 := by kernel_rfl
theorem by_22 : (Try.prog.info? 22).map (·.bytes) = some 24 := by kernel_rfl
theorem one_22 : One Try.prog 22 := One.mk Try.underlying22 rfl sz_22
theorem zero_22 : Zero Try.prog 22 [.slice none 0 0] := Zero.mk (z := .slice none 0 0) (by kernel_rfl) rfl
theorem sz_23 : (Try.prog.info? 23).map (·.size) = some 1 := by kernel_rfl
theorem by_23 : (Try.prog.info? 23).map (·.bytes) = some 8 := by kernel_rfl
theorem one_23 : One Try.prog 23 := One.mk Try.underlying23 rfl sz_23
theorem zero_23 : Zero Try.prog 23 [.nilFunc] := Zero.mk (z := .nilFunc) (by kernel_rfl) rfl
theorem sz_24 : (Try.prog.info? 24).map (·.size) = some 1 := by kernel_rfl
theorem by_24 : (Try.prog.info? 24).map (·.bytes) = some 8 := by kernel_rfl
theorem one_24 : One Try.prog 24 := One.mk Try.underlying24 rfl sz_24
theorem zero_24 : Zero Try.prog 24 [.nilFunc] := Zero.mk (z := .nilFunc) (by kernel_rfl) rfl
theorem sz_25 : (Try.prog.info? 25).map (·.size) = some 6 := by kernel_rfl
theorem by_25 : (Try.prog.info? 25).map (·.bytes) = some 6 := by kernel_rfl
theorem many_25 : Many Try.prog 25 6 := Many.mk Try.underlying25 rfl sz_25
theorem zero_25 : Zero Try.prog 25 [.int .u8 0, .int .u8 0, .int .u8 0, .int .u8 0, .int .u8 0, .int .u8 0] := Zero.mk (z := .agg #[.int .u8 0, .int .u8 0, .int .u8 0, .int .u8 0, .int .u8 0, .int .u8 0]) (by kernel_rfl) rfl
theorem sz_26 : (Try.prog.info? 26).map (·.size) = some 6 := by kernel_rfl
theorem by_26 : (Try.prog.info? 26).map (·.bytes) = some 6 := by kernel_rfl
theorem many_26 : Many Try.prog 26 6 := Many.mk Try.underlying26 rfl sz_26
theorem zero_26 : Zero Try.prog 26 [.int .u8 0, .int .u8 0, .int .u8 0, .int .u8 0, .int .u8 0, .int .u8 0] := Zero.mk (z := .agg #[.int .u8 0, .int .u8 0, .int .u8 0, .int .u8 0, .int .u8 0, .int .u8 0]) (by kernel_rfl) rfl
theorem sz_27 : (Try.prog.info? 27).map (·.size) = some 1 := by kernel_rfl
theorem by_27 : (Try.prog.info? 27).map (·.bytes) = some 4 := by kernel_rfl
theorem one_27 : One Try.prog 27 := One.mk Try.underlying27 rfl sz_27
theorem zero_27 : Zero Try.prog 27 [.int .u32 0] := Zero.mk (z := .int .u32 0) (by kernel_rfl) rfl
theorem sz_28 : (Try.prog.info? 28).map (·.size) = some 1 := by kernel_rfl
theorem by_28 : (Try.prog.info? 28).map (·.bytes) = some 4 := by kernel_rfl
theorem one_28 : One Try.prog 28 := One.mk Try.underlying28 rfl sz_28
theorem zero_28 : Zero Try.prog 28 [.int .u32 0] := Zero.mk (z := .int .u32 0) (by kernel_rfl) rfl
theorem sz_29 : (Try.prog.info? 29).map (·.size) = some 19 := by kernel_rfl
theorem by_29 : (Try.prog.info? 29).map (·.bytes) = some 64 := by kernel_rfl
theorem many_29 : Many Try.prog 29 19 := Many.mk Try.underlying29 rfl sz_29
theorem zero_29 : Zero Try.prog 29 [.int .i64 0, .int .u8 0, .int .u8 0, .int .u8 0, .int .u8 0, .int .u8 0, .int .u8 0, .int .u8 0, .int .u8 0, .int .u8 0, .int .u8 0, .int .u8 0, .int .u8 0, .int .i64 0, .int .u32 0, .int .u32 0, .int .i64 0, .int .i64 0, .int .i64 0] := Zero.mk (z := .agg #[.int .i64 0, .int .u8 0, .int .u8 0, .int .u8 0, .int .u8 0, .int .u8 0, .int .u8 0, .int .u8 0, .int .u8 0, .int .u8 0, .int .u8 0, .int .u8 0, .int .u8 0, .int .i64 0, .int .u32 0, .int .u32 0, .int .i64 0, .int .i64 0, .int .i64 0]) (by kernel_rfl) rfl
theorem sz_30 : (Try.prog.info? 30).map (·.size) = some 19 := by kernel_rfl
theorem by_30 : (Try.prog.info? 30).map (·.bytes) = some 64 := by kernel_rfl
theorem many_30 : Many Try.prog 30 19 := Many.mk Try.underlying30 rfl sz_30
theorem zero_30 : Zero Try.prog 30 [.int .i64 0, .int .u8 0, .int .u8 0, .int .u8 0, .int .u8 0, .int .u8 0, .int .u8 0, .int .u8 0, .int .u8 0, .int .u8 0, .int .u8 0, .int .u8 0, .int .u8 0, .int .i64 0, .int .u32 0, .int .u32 0, .int .i64 0, .int .i64 0, .int .i64 0] := Zero.mk (z := .agg #[.int .i64 0, .int .u8 0, .int .u8 0, .int .u8 0, .int .u8 0, .int .u8 0, .int .u8 0, .int .u8 0, .int .u8 0, .int .u8 0, .int .u8 0, .int .u8 0, .int .u8 0, .int .i64 0, .int .u32 0, .int .u32 0, .int .i64 0, .int .i64 0, .int .i64 0]) (by kernel_rfl) rfl
theorem sz_31 : (Try.prog.info? 31).map (·.size) = some 41 := by kernel_rfl
theorem by_31 : (Try.prog.info? 31).map (·.bytes) = some 160 := by kernel_rfl
theorem many_31 : Many Try.prog 31 41 := Many.mk Try.underlying31 rfl sz_31
theorem zero_31 : Zero Try.prog 31 [.int .i64 0, .int .u8 0, .int .u8 0, .int .u8 0, .int .u8 0, .int .u8 0, .int .u8 0, .int .u8 0, .int .u8 0, .int .u8 0, .int .u8 0, .int .u8 0, .int .u8 0, .int .i64 0, .int .u32 0, .int .u32 0, .int .i64 0, .int .i64 0, .int .i64 0, .int .i64 0, .int .u8 0, .int .u8 0, .int .u8 0, .int .u8 0, .int .u8 0, .int .u8 0, .int .u8 0, .int .u8 0, .int .u8 0, .int .u8 0, .int .u8 0, .int .u8 0, .int .i64 0, .int .u32 0, .int .u32 0, .int .i64 0, .int .i64 0, .int .i64 0, .string ⟨#[]⟩, .int .i64 0, .int .i64 0] := Zero.mk (z := .agg #[.int .i64 0, .int .u8 0, .int .u8 0, .int .u8 0, .int .u8 0, .int .u8 0, .int .u8 0, .int .u8 0, .int .u8 0, .int .u8 0, .int .u8 0, .int .u8 0, .int .u8 0, .int .i64 0, .int .u32 0, .int .u32 0, .int .i64 0, .int .i64 0, .int .i64 0, .int .i64 0, .int .u8 0, .int .u8 0, .int .u8 0, .int .u8 0, .int .u8 0, .int .u8 0, .int .u8 0, .int .u8 0, .int .u8 0, .int .u8 0, .int .u8 0, .int .u8 0, .int .i64 0, .int .u32 0, .int .u32 0, .int .i64 0, .int .i64 0, .int .i64 0, .string ⟨#[]⟩, .int .i64 0, .int .i64 0]) (by kernel_rfl) rfl
theorem sz_32 : (Try.prog.info? 32).map (·.size) = some 41 := by kernel_rfl
theorem by_32 : (Try.prog.info? 32).map (·.bytes) = some 160 := by kernel_rfl
theorem many_32 : Many Try.prog 32 41 := Many.mk Try.underlying32 rfl sz_32
theorem zero_32 : Zero Try.prog 32 [.int .i64 0, .int .u8 0, .int .u8 0, .int .u8 0, .int .u8 0, .int .u8 0, .int .u8 0, .int .u8 0, .int .u8 0, .int .u8 0, .int .u8 0, .int .u8 0, .int .u8 0, .int .i64 0, .int .u32 0, .int .u32 0, .int .i64 0, .int .i64 0, .int .i64 0, .int .i64 0, .int .u8 0, .int .u8 0, .int .u8 0, .int .u8 0, .int .u8 0, .int .u8 0, .int .u8 0, .int .u8 0, .int .u8 0, .int .u8 0, .int .u8 0, .int .u8 0, .int .i64 0, .int .u32 0, .int .u32 0, .int .i64 0, .int .i64 0, .int .i64 0, .string ⟨#[]⟩, .int .i64 0, .int .i64 0] := Zero.mk (z := .agg #[.int .i64 0, .int .u8 0, .int .u8 0, .int .u8 0, .int .u8 0, .int .u8 0, .int .u8 0, .int .u8 0, .int .u8 0, .int .u8 0, .int .u8 0, .int .u8 0, .int .u8 0, .int .i64 0, .int .u32 0, .int .u32 0, .int .i64 0, .int .i64 0, .int .i64 0, .int .i64 0, .int .u8 0, .int .u8 0, .int .u8 0, .int .u8 0, .int .u8 0, .int .u8 0, .int .u8 0, .int .u8 0, .int .u8 0, .int .u8 0, .int .u8 0, .int .u8 0, .int .i64 0, .int .u32 0, .int .u32 0, .int .i64 0, .int .i64 0, .int .i64 0, .string ⟨#[]⟩, .int .i64 0, .int .i64 0]) (by kernel_rfl) rfl
theorem sz_33 : (Try.prog.info? 33).map (·.size) = some 1 := by kernel_rfl
theorem by_33 : (Try.prog.info? 33).map (·.bytes) = some 8 := by kernel_rfl
theorem one_33 : One Try.prog 33 := One.mk Try.underlying33 rfl sz_33
theorem zero_33 : Zero Try.prog 33 [.int .i64 0] := Zero.mk (z := .int .i64 0) (by kernel_rfl) rfl
theorem sz_35 : (Try.prog.info? 35).map (·.size) = some 1 := by kernel_rfl
theorem by_35 : (Try.prog.info? 35).map (·.bytes) = some 8 := by kernel_rfl
theorem one_35 : One Try.prog 35 := One.mk Try.underlying35 rfl sz_35
theorem zero_35 : Zero Try.prog 35 [.nilFunc] := Zero.mk (z := .nilFunc) (by kernel_rfl) rfl
theorem sz_36 : (Try.prog.info? 36).map (·.size) = some 19 := by kernel_rfl
theorem by_36 : (Try.prog.info? 36).map (·.bytes) = some 64 := by kernel_rfl
theorem many_36 : Many Try.prog 36 19 := Many.mk Try.underlying36 rfl sz_36
theorem zero_36 : Zero Try.prog 36 [.int .i64 0, .int .u8 0, .int .u8 0, .int .u8 0, .int .u8 0, .int .u8 0, .int .u8 0, .int .u8 0, .int .u8 0, .int .u8 0, .int .u8 0, .int .u8 0, .int .u8 0, .int .i64 0, .int .u32 0, .int .u32 0, .int .i64 0, .int .i64 0, .int .i64 0] := Zero.mk (z := .agg #[.int .i64 0, .int .u8 0, .int .u8 0, .int .u8 0, .int .u8 0, .int .u8 0, .int .u8 0, .int .u8 0, .int .u8 0, .int .u8 0, .int .u8 0, .int .u8 0, .int .u8 0, .int .i64 0, .int .u32 0, .int .u32 0, .int .i64 0, .int .i64 0, .int .i64 0]) (by kernel_rfl) rfl
theorem sz_37 : (Try.prog.info? 37).map (·.size) = some 19 := by kernel_rfl
theorem by_37 : (Try.prog.info? 37).map (·.bytes) = some 64 := by kernel_rfl
theorem many_37 : Many Try.prog 37 19 := Many.mk Try.underlying37 rfl sz_37
theorem zero_37 : Zero Try.prog 37 [.int .i64 0, .int .u8 0, .int .u8 0, .int .u8 0, .int .u8 0, .int .u8 0, .int .u8 0, .int .u8 0, .int .u8 0, .int .u8 0, .int .u8 0, .int .u8 0, .int .u8 0, .int .i64 0, .int .u32 0, .int .u32 0, .int .i64 0, .int .i64 0, .int .i64 0] := Zero.mk (z := .agg #[.int .i64 0, .int .u8 0, .int .u8 0, .int .u8 0, .int .u8 0, .int .u8 0, .int .u8 0, .int .u8 0, .int .u8 0, .int .u8 0, .int .u8 0, .int .u8 0, .int .u8 0, .int .i64 0, .int .u32 0, .int .u32 0, .int .i64 0, .int .i64 0, .int .i64 0]) (by kernel_rfl) rfl
theorem sz_39 : (Try.prog.info? 39).map (·.size) = some 1 := by kernel_rfl
theorem by_39 : (Try.prog.info? 39).map (·.bytes) = some 8 := by kernel_rfl
theorem one_39 : One Try.prog 39 := One.mk Try.underlying39 rfl sz_39
theorem zero_39 : Zero Try.prog 39 [.nilFunc] := Zero.mk (z := .nilFunc) (by kernel_rfl) rfl
theorem sz_40 : (Try.prog.info? 40).map (·.size) = some 1 := by kernel_rfl
theorem by_40 : (Try.prog.info? 40).map (·.bytes) = some 8 := by kernel_rfl
theorem one_40 : One Try.prog 40 := One.mk Try.underlying40 rfl sz_40
theorem zero_40 : Zero Try.prog 40 [.nilFunc] := Zero.mk (z := .nilFunc) (by kernel_rfl) rfl
theorem sz_41 : (Try.prog.info? 41).map (·.size) = some 1 := by kernel_rfl
theorem by_41 : (Try.prog.info? 41).map (·.bytes) = some 8 := by kernel_rfl
theorem one_41 : One Try.prog 41 := One.mk Try.underlying41 rfl sz_41
theorem zero_41 : Zero Try.prog 41 [.nilFunc] := Zero.mk (z := .nilFunc) (by kernel_rfl) rfl
theorem sz_42 : (Try.prog.info? 42).map (·.size) = some 1 := by kernel_rfl
theorem by_42 : (Try.prog.info? 42).map (·.bytes) = some 8 := by kernel_rfl
theorem one_42 : One Try.prog 42 := One.mk Try.underlying42 rfl sz_42
theorem zero_42 : Zero Try.prog 42 [.nilFunc] := Zero.mk (z := .nilFunc) (by kernel_rfl) rfl
theorem sz_43 : (Try.prog.info? 43).map (·.size) = some 15 := by kernel_rfl
theorem by_43 : (Try.prog.info? 43).map (·.bytes) = some 24 := by kernel_rfl
theorem many_43 : Many Try.prog 43 15 := Many.mk Try.underlying43 rfl sz_43
theorem zero_43 : Zero Try.prog 43 [.bool false, .int .u8 0, .int .u8 0, .int .u8 0, .int .u8 0, .int .u8 0, .int .u8 0, .int .u32 0, .int .u8 0, .int .u8 0, .int .u8 0, .int .u8 0, .int .u8 0, .int .u8 0, .int .u32 0] := Zero.mk (z := .agg #[.bool false, .int .u8 0, .int .u8 0, .int .u8 0, .int .u8 0, .int .u8 0, .int .u8 0, .int .u32 0, .int .u8 0, .int .u8 0, .int .u8 0, .int .u8 0, .int .u8 0, .int .u8 0, .int .u32 0]) (by kernel_rfl) rfl
theorem sz_44 : (Try.prog.info? 44).map (·.size) = some 15 := by kernel_rfl
theorem by_44 : (Try.prog.info? 44).map (·.bytes) = some 24 := by kernel_rfl
theorem many_44 : Many Try.prog 44 15 := Many.mk Try.underlying44 rfl sz_44
theorem zero_44 : Zero Try.prog 44 [.bool false, .int .u8 0, .int .u8 0, .int .u8 0, .int .u8 0, .int .u8 0, .int .u8 0, .int .u32 0, .int .u8 0, .int .u8 0, .int .u8 0, .int .u8 0, .int .u8 0, .int .u8 0, .int .u32 0] := Zero.mk (z := .agg #[.bool false, .int .u8 0, .int .u8 0, .int .u8 0, .int .u8 0, .int .u8 0, .int .u8 0, .int .u32 0, .int .u8 0, .int .u8 0, .int .u8 0, .int .u8 0, .int .u8 0, .int .u8 0, .int .u32 0]) (by kernel_rfl) rfl
theorem sz_46 : (Try.prog.info? 46).map (·.size) = some 1 := by kernel_rfl
theorem by_46 : (Try.prog.info? 46).map (·.bytes) = some 8 := by kernel_rfl
theorem one_46 : One Try.prog 46 := One.mk Try.underlying46 rfl sz_46
theorem zero_46 : Zero Try.prog 46 [.nilFunc] := Zero.mk (z := .nilFunc) (by kernel_rfl) rfl
theorem sz_47 : (Try.prog.info? 47).map (·.size) = some 1 := by kernel_rfl
theorem by_47 : (Try.prog.info? 47).map (·.bytes) = some 8 := by kernel_rfl
theorem one_47 : One Try.prog 47 := One.mk Try.underlying47 rfl sz_47
theorem zero_47 : Zero Try.prog 47 [.nilFunc] := Zero.mk (z := .nilFunc) (by kernel_rfl) rfl
theorem sz_48 : (Try.prog.info? 48).map (·.size) = some 1 := by kernel_rfl
theorem by_48 : (Try.prog.info? 48).map (·.bytes) = some 8 := by kernel_rfl
theorem one_48 : One Try.prog 48 := One.mk Try.underlying48 rfl sz_48
theorem zero_48 : Zero Try.prog 48 [.nilFunc] := Zero.mk (z := .nilFunc) (by kernel_rfl) rfl
theorem sz_49 : (Try.prog.info? 49).map (·.size) = some 1 := by kernel_rfl
theorem by_49 : (Try.prog.info? 49).map (·.bytes) = some 8 := by kernel_rfl
theorem one_49 : One Try.prog 49 := One.mk Try.underlying49 rfl sz_49
theorem zero_49 : Zero Try.prog 49 [.nilFunc] := Zero.mk (z := .nilFunc) (by kernel_rfl) rfl
theorem sz_50 : (Try.prog.info? 50).map (·.size) = some 1 := by kernel_rfl
theorem by_50 : (Try.prog.info? 50).map (·.bytes) = some 8 := by kernel_rfl
theorem one_50 : One Try.prog 50 := One.mk Try.underlying50 rfl sz_50
theorem zero_50 : Zero Try.prog 50 [.nilFunc] := Zero.mk (z := .nilFunc) (by kernel_rfl) rfl
theorem sz_51 : (Try.prog.info? 51).map (·.size) = some 1 := by kernel_rfl
theorem by_51 : (Try.prog.info? 51).map (·.bytes) = some 8 := by kernel_rfl
theorem one_51 : One Try.prog 51 := One.mk Try.underlying51 rfl sz_51
theorem zero_51 : Zero Try.prog 51 [.pointer none] := Zero.mk (z := .pointer none) (by kernel_rfl) rfl
theorem sz_52 : (Try.prog.info? 52).map (·.size) = some 1 := by kernel_rfl
theorem by_52 : (Try.prog.info? 52).map (·.bytes) = some 8 := by kernel_rfl
theorem one_52 : One Try.prog 52 := One.mk Try.underlying52 rfl sz_52
theorem zero_52 : Zero Try.prog 52 [.nilFunc] := Zero.mk (z := .nilFunc) (by kernel_rfl) rfl
theorem sz_53 : (Try.prog.info? 53).map (·.size) = some 1 := by kernel_rfl
theorem by_53 : (Try.prog.info? 53).map (·.bytes) = some 8 := by kernel_rfl
theorem one_53 : One Try.prog 53 := One.mk Try.underlying53 rfl sz_53
theorem zero_53 : Zero Try.prog 53 [.nilFunc] := Zero.mk (z := .nilFunc) (by kernel_rfl) rfl
theorem sz_55 : (Try.prog.info? 55).map (·.size) = some 1 := by kernel_rfl
theorem by_55 : (Try.prog.info? 55).map (·.bytes) = some 8 := by kernel_rfl
theorem one_55 : One Try.prog 55 := One.mk Try.underlying55 rfl sz_55
theorem zero_55 : Zero Try.prog 55 [.nilFunc] := Zero.mk (z := .nilFunc) (by kernel_rfl) rfl
theorem sz_57 : (Try.prog.info? 57).map (·.size) = some 1 := by kernel_rfl
theorem by_57 : (Try.prog.info? 57).map (·.bytes) = some 8 := by kernel_rfl
theorem one_57 : One Try.prog 57 := One.mk Try.underlying57 rfl sz_57
theorem zero_57 : Zero Try.prog 57 [.nilFunc] := Zero.mk (z := .nilFunc) (by kernel_rfl) rfl
theorem sz_58 : (Try.prog.info? 58).map (·.size) = some 1 := by kernel_rfl
theorem by_58 : (Try.prog.info? 58).map (·.bytes) = some 24 := by kernel_rfl
theorem one_58 : One Try.prog 58 := One.mk Try.underlying58 rfl sz_58
theorem zero_58 : Zero Try.prog 58 [.slice none 0 0] := Zero.mk (z := .slice none 0 0) (by kernel_rfl) rfl
theorem sz_59 : (Try.prog.info? 59).map (·.size) = some 1 := by kernel_rfl
theorem by_59 : (Try.prog.info? 59).map (·.bytes) = some 8 := by kernel_rfl
theorem one_59 : One Try.prog 59 := One.mk Try.underlying59 rfl sz_59
theorem zero_59 : Zero Try.prog 59 [.map none] := Zero.mk (z := .map none) (by kernel_rfl) rfl
theorem sz_60 : (Try.prog.info? 60).map (·.size) = some 1 := by kernel_rfl
theorem by_60 : (Try.prog.info? 60).map (·.bytes) = some 8 := by kernel_rfl
theorem one_60 : One Try.prog 60 := One.mk Try.underlying60 rfl sz_60
theorem zero_60 : Zero Try.prog 60 [.nilFunc] := Zero.mk (z := .nilFunc) (by kernel_rfl) rfl
theorem sz_61 : (Try.prog.info? 61).map (·.size) = some 1 := by kernel_rfl
theorem by_61 : (Try.prog.info? 61).map (·.bytes) = some 8 := by kernel_rfl
theorem one_61 : One Try.prog 61 := One.mk Try.underlying61 rfl sz_61
theorem zero_61 : Zero Try.prog 61 [.nilFunc] := Zero.mk (z := .nilFunc) (by kernel_rfl) rfl
theorem sz_62 : (Try.prog.info? 62).map (·.size) = some 1 := by kernel_rfl
theorem by_62 : (Try.prog.info? 62).map (·.bytes) = some 8 := by kernel_rfl
theorem one_62 : One Try.prog 62 := One.mk Try.underlying62 rfl sz_62
theorem zero_62 : Zero Try.prog 62 [.nilFunc] := Zero.mk (z := .nilFunc) (by kernel_rfl) rfl
theorem sz_63 : (Try.prog.info? 63).map (·.size) = some 1 := by kernel_rfl
theorem by_63 : (Try.prog.info? 63).map (·.bytes) = some 8 := by kernel_rfl
theorem one_63 : One Try.prog 63 := One.mk Try.underlying63 rfl sz_63
theorem zero_63 : Zero Try.prog 63 [.nilFunc] := Zero.mk (z := .nilFunc) (by kernel_rfl) rfl
theorem sz_64 : (Try.prog.info? 64).map (·.size) = some 1 := by kernel_rfl
theorem by_64 : (Try.prog.info? 64).map (·.bytes) = some 8 := by kernel_rfl
theorem one_64 : One Try.prog 64 := One.mk Try.underlying64 rfl sz_64
theorem zero_64 : Zero Try.prog 64 [.nilFunc] := Zero.mk (z := .nilFunc) (by kernel_rfl) rfl
theorem sz_65 : (Try.prog.info? 65).map (·.size) = some 1 := by kernel_rfl
theorem by_65 : (Try.prog.info? 65).map (·.bytes) = some 8 := by kernel_rfl
theorem one_65 : One Try.prog 65 := One.mk Try.underlying65 rfl sz_65
theorem zero_65 : Zero Try.prog 65 [.nilFunc] := Zero.mk (z := .nilFunc) (by kernel_rfl) rfl
theorem sz_66 : (Try.prog.info? 66).map (·.size) = some 1 := by kernel_rfl
theorem by_66 : (Try.prog.info? 66).map (·.bytes) = some 8 := by kernel_rfl
theorem one_66 : One Try.prog 66 := One.mk Try.underlying66 rfl sz_66
theorem zero_66 : Zero Try.prog 66 [.nilFunc] := Zero.mk (z := .nilFunc) (by kernel_rfl) rfl
theorem sz_67 : (Try.prog.info? 67).map (·.size) = some 1 := by kernel_rfl
theorem by_67 : (Try.prog.info? 67).map (·.bytes) = some 8 := by kernel_rfl
theorem one_67 : One Try.prog 67 := One.mk Try.underlying67 rfl sz_67
theorem zero_67 : Zero Try.prog 67 [.nilFunc] := Zero.mk (z := .nilFunc) (by kernel_rfl) rfl
theorem sz_68 : (Try.prog.info? 68).map (·.size) = some 2 := by kernel_rfl
theorem by_68 : (Try.prog.info? 68).map (·.bytes) = some 16 := by kernel_rfl
theorem many_68 : Many Try.prog 68 2 := Many.mk Try.underlying68 rfl sz_68
theorem zero_68 : Zero Try.prog 68 [.nilFunc, .map none] := Zero.mk (z := .agg #[.nilFunc, .map none]) (by kernel_rfl) rfl
theorem sz_69 : (Try.prog.info? 69).map (·.size) = some 2 := by kernel_rfl
theorem by_69 : (Try.prog.info? 69).map (·.bytes) = some 16 := by kernel_rfl
theorem many_69 : Many Try.prog 69 2 := Many.mk Try.underlying69 rfl sz_69
theorem zero_69 : Zero Try.prog 69 [.nilFunc, .map none] := Zero.mk (z := .agg #[.nilFunc, .map none]) (by kernel_rfl) rfl
theorem sz_70 : (Try.prog.info? 70).map (·.size) = some 1 := by kernel_rfl
theorem by_70 : (Try.prog.info? 70).map (·.bytes) = some 8 := by kernel_rfl
theorem one_70 : One Try.prog 70 := One.mk Try.underlying70 rfl sz_70
theorem zero_70 : Zero Try.prog 70 [.int .u64 0] := Zero.mk (z := .int .u64 0) (by kernel_rfl) rfl
theorem sz_71 : (Try.prog.info? 71).map (·.size) = some 1 := by kernel_rfl
theorem by_71 : (Try.prog.info? 71).map (·.bytes) = some 8 := by kernel_rfl
theorem one_71 : One Try.prog 71 := One.mk Try.underlying71 rfl sz_71
theorem zero_71 : Zero Try.prog 71 [.nilFunc] := Zero.mk (z := .nilFunc) (by kernel_rfl) rfl
theorem sz_72 : (Try.prog.info? 72).map (·.size) = some 1 := by kernel_rfl
theorem by_72 : (Try.prog.info? 72).map (·.bytes) = some 8 := by kernel_rfl
theorem one_72 : One Try.prog 72 := One.mk Try.underlying72 rfl sz_72
theorem zero_72 : Zero Try.prog 72 [.pointer none] := Zero.mk (z := .pointer none) (by kernel_rfl) rfl
theorem sz_73 : (Try.prog.info? 73).map (·.size) = some 1 := by kernel_rfl
theorem by_73 : (Try.prog.info? 73).map (·.bytes) = some 8 := by kernel_rfl
theorem one_73 : One Try.prog 73 := One.mk Try.underlying73 rfl sz_73
theorem zero_73 : Zero Try.prog 73 [.nilFunc] := Zero.mk (z := .nilFunc) (by kernel_rfl) rfl
theorem sz_74 : (Try.prog.info? 74).map (·.size) = some 1 := by kernel_rfl
theorem by_74 : (Try.prog.info? 74).map (·.bytes) = some 8 := by kernel_rfl
theorem one_74 : One Try.prog 74 := One.mk Try.underlying74 rfl sz_74
theorem zero_74 : Zero Try.prog 74 [.nilFunc] := Zero.mk (z := .nilFunc) (by kernel_rfl) rfl
theorem sz_75 : (Try.prog.info? 75).map (·.size) = some 1 := by kernel_rfl
theorem by_75 : (Try.prog.info? 75).map (·.bytes) = some 8 := by kernel_rfl
theorem one_75 : One Try.prog 75 := One.mk Try.underlying75 rfl sz_75
theorem zero_75 : Zero Try.prog 75 [.nilFunc] := Zero.mk (z := .nilFunc) (by kernel_rfl) rfl
theorem sz_76 : (Try.prog.info? 76).map (·.size) = some 4 := by kernel_rfl
theorem by_76 : (Try.prog.info? 76).map (·.bytes) = some 40 := by kernel_rfl
theorem many_76 : Many Try.prog 76 4 := Many.mk Try.underlying76 rfl sz_76
theorem zero_76 : Zero Try.prog 76 [.pointer none, .pointer none, .pointer none, .string ⟨#[]⟩] := Zero.mk (z := .agg #[.pointer none, .pointer none, .pointer none, .string ⟨#[]⟩]) (by kernel_rfl) rfl
theorem sz_77 : (Try.prog.info? 77).map (·.size) = some 4 := by kernel_rfl
theorem by_77 : (Try.prog.info? 77).map (·.bytes) = some 40 := by kernel_rfl
theorem many_77 : Many Try.prog 77 4 := Many.mk Try.underlying77 rfl sz_77
theorem zero_77 : Zero Try.prog 77 [.pointer none, .pointer none, .pointer none, .string ⟨#[]⟩] := Zero.mk (z := .agg #[.pointer none, .pointer none, .pointer none, .string ⟨#[]⟩]) (by kernel_rfl) rfl
theorem sz_78 : (Try.prog.info? 78).map (·.size) = some 0 := by kernel_rfl
theorem by_78 : (Try.prog.info? 78).map (·.bytes) = some 0 := by kernel_rfl
theorem many_78 : Many Try.prog 78 0 := Many.mk Try.underlying78 rfl sz_78
theorem zero_78 : Zero Try.prog 78 [] := Zero.mk (z := .agg #[]) (by kernel_rfl) rfl
theorem sz_79 : (Try.prog.info? 79).map (·.size) = some 0 := by kernel_rfl
theorem by_79 : (Try.prog.info? 79).map (·.bytes) = some 0 := by kernel_rfl
theorem many_79 : Many Try.prog 79 0 := Many.mk Try.underlying79 rfl sz_79
theorem zero_79 : Zero Try.prog 79 [] := Zero.mk (z := .agg #[]) (by kernel_rfl) rfl
theorem sz_80 : (Try.prog.info? 80).map (·.size) = some 0 := by kernel_rfl
theorem by_80 : (Try.prog.info? 80).map (·.bytes) = some 0 := by kernel_rfl
theorem many_80 : Many Try.prog 80 0 := Many.mk Try.underlying80 rfl sz_80
theorem zero_80 : Zero Try.prog 80 [] := Zero.mk (z := .agg #[]) (by kernel_rfl) rfl
theorem sz_81 : (Try.prog.info? 81).map (·.size) = some 1 := by kernel_rfl
theorem by_81 : (Try.prog.info? 81).map (·.bytes) = some 8 := by kernel_rfl
theorem one_81 : One Try.prog 81 := One.mk Try.underlying81 rfl sz_81
theorem zero_81 : Zero Try.prog 81 [.nilFunc] := Zero.mk (z := .nilFunc) (by kernel_rfl) rfl
theorem sz_82 : (Try.prog.info? 82).map (·.size) = some 1 := by kernel_rfl
theorem by_82 : (Try.prog.info? 82).map (·.bytes) = some 1 := by kernel_rfl
theorem one_82 : One Try.prog 82 := One.mk Try.underlying82 rfl sz_82
theorem zero_82 : Zero Try.prog 82 [.int .u8 0] := Zero.mk (z := .int .u8 0) (by kernel_rfl) rfl
theorem sz_83 : (Try.prog.info? 83).map (·.size) = some 1 := by kernel_rfl
theorem by_83 : (Try.prog.info? 83).map (·.bytes) = some 1 := by kernel_rfl
theorem one_83 : One Try.prog 83 := One.mk Try.underlying83 rfl sz_83
theorem zero_83 : Zero Try.prog 83 [.int .u8 0] := Zero.mk (z := .int .u8 0) (by kernel_rfl) rfl
theorem sz_84 : (Try.prog.info? 84).map (·.size) = some 1 := by kernel_rfl
theorem by_84 : (Try.prog.info? 84).map (·.bytes) = some 8 := by kernel_rfl
theorem one_84 : One Try.prog 84 := One.mk Try.underlying84 rfl sz_84
theorem zero_84 : Zero Try.prog 84 [.nilFunc] := Zero.mk (z := .nilFunc) (by kernel_rfl) rfl
theorem sz_85 : (Try.prog.info? 85).map (·.size) = some 1 := by kernel_rfl
theorem by_85 : (Try.prog.info? 85).map (·.bytes) = some 8 := by kernel_rfl
theorem one_85 : One Try.prog 85 := One.mk Try.underlying85 rfl sz_85
theorem zero_85 : Zero Try.prog 85 [.pointer none] := Zero.mk (z := .pointer none) (by kernel_rfl) rfl
theorem sz_86 : (Try.prog.info? 86).map (·.size) = some 1 := by kernel_rfl
theorem by_86 : (Try.prog.info? 86).map (·.bytes) = some 4 := by kernel_rfl
theorem one_86 : One Try.prog 86 := One.mk Try.underlying86 rfl sz_86
theorem zero_86 : Zero Try.prog 86 [.int .i32 0] := Zero.mk (z := .int .i32 0) (by kernel_rfl) rfl
theorem sz_87 : (Try.prog.info? 87).map (·.size) = some 1 := by kernel_rfl
theorem by_87 : (Try.prog.info? 87).map (·.bytes) = some 4 := by kernel_rfl
theorem one_87 : One Try.prog 87 := One.mk Try.underlying87 rfl sz_87
theorem zero_87 : Zero Try.prog 87 [.int .i32 0] := Zero.mk (z := .int .i32 0) (by kernel_rfl) rfl
theorem sz_88 : (Try.prog.info? 88).map (·.size) = some 11 := by kernel_rfl
theorem by_88 : (Try.prog.info? 88).map (·.bytes) = some 48 := by kernel_rfl
theorem many_88 : Many Try.prog 88 11 := Many.mk Try.underlying88 rfl sz_88
theorem zero_88 : Zero Try.prog 88 [.int .u64 0, .int .u64 0, .int .u32 0, .int .u8 0, .int .u8 0, .int .u8 0, .int .u8 0, .nilFunc, .pointer none, .int .i32 0, .int .i32 0] := Zero.mk (z := .agg #[.int .u64 0, .int .u64 0, .int .u32 0, .int .u8 0, .int .u8 0, .int .u8 0, .int .u8 0, .nilFunc, .pointer none, .int .i32 0, .int .i32 0]) (by kernel_rfl) rfl
theorem sz_89 : (Try.prog.info? 89).map (·.size) = some 11 := by kernel_rfl
theorem by_89 : (Try.prog.info? 89).map (·.bytes) = some 48 := by kernel_rfl
theorem many_89 : Many Try.prog 89 11 := Many.mk Try.underlying89 rfl sz_89
theorem zero_89 : Zero Try.prog 89 [.int .u64 0, .int .u64 0, .int .u32 0, .int .u8 0, .int .u8 0, .int .u8 0, .int .u8 0, .nilFunc, .pointer none, .int .i32 0, .int .i32 0] := Zero.mk (z := .agg #[.int .u64 0, .int .u64 0, .int .u32 0, .int .u8 0, .int .u8 0, .int .u8 0, .int .u8 0, .nilFunc, .pointer none, .int .i32 0, .int .i32 0]) (by kernel_rfl) rfl
theorem sz_90 : (Try.prog.info? 90).map (·.size) = some 1 := by kernel_rfl
theorem by_90 : (Try.prog.info? 90).map (·.bytes) = some 8 := by kernel_rfl
theorem one_90 : One Try.prog 90 := One.mk Try.underlying90 rfl sz_90
theorem zero_90 : Zero Try.prog 90 [.nilFunc] := Zero.mk (z := .nilFunc) (by kernel_rfl) rfl
theorem sz_91 : (Try.prog.info? 91).map (·.size) = some 1 := by kernel_rfl
theorem by_91 : (Try.prog.info? 91).map (·.bytes) = some 8 := by kernel_rfl
theorem one_91 : One Try.prog 91 := One.mk Try.underlying91 rfl sz_91
theorem zero_91 : Zero Try.prog 91 [.nilFunc] := Zero.mk (z := .nilFunc) (by kernel_rfl) rfl
theorem sz_92 : (Try.prog.info? 92).map (·.size) = some 1 := by kernel_rfl
theorem by_92 : (Try.prog.info? 92).map (·.bytes) = some 8 := by kernel_rfl
theorem one_92 : One Try.prog 92 := One.mk Try.underlying92 rfl sz_92
theorem zero_92 : Zero Try.prog 92 [.pointer none] := Zero.mk (z := .pointer none) (by kernel_rfl) rfl
theorem fld_7_0 : FieldAt Try.prog 7 0 0 2 := FieldAt.mk Try.underlying7 rfl rfl rfl sz_2
theorem fld_7_1 : FieldAt Try.prog 7 1 1 3 := FieldAt.mk Try.underlying7 rfl rfl rfl sz_3
theorem fld_7_2 : FieldAt Try.prog 7 2 2 4 := FieldAt.mk Try.underlying7 rfl rfl rfl sz_4
theorem fld_7_3 : FieldAt Try.prog 7 3 3 6 := FieldAt.mk Try.underlying7 rfl rfl rfl sz_6
theorem fld_8_0 : FieldAt Try.prog 8 0 0 2 := FieldAt.mk Try.underlying8 rfl rfl rfl sz_2
theorem fld_8_1 : FieldAt Try.prog 8 1 1 3 := FieldAt.mk Try.underlying8 rfl rfl rfl sz_3
theorem fld_8_2 : FieldAt Try.prog 8 2 2 4 := FieldAt.mk Try.underlying8 rfl rfl rfl sz_4
theorem fld_8_3 : FieldAt Try.prog 8 3 3 6 := FieldAt.mk Try.underlying8 rfl rfl rfl sz_6
theorem fld_13_0 : FieldAt Try.prog 13 0 0 9 := FieldAt.mk Try.underlying13 rfl rfl rfl sz_9
theorem fld_13_1 : FieldAt Try.prog 13 1 1 12 := FieldAt.mk Try.underlying13 rfl rfl rfl sz_12
theorem fld_14_0 : FieldAt Try.prog 14 0 0 9 := FieldAt.mk Try.underlying14 rfl rfl rfl sz_9
theorem fld_14_1 : FieldAt Try.prog 14 1 1 12 := FieldAt.mk Try.underlying14 rfl rfl rfl sz_12
theorem fld_18_0 : FieldAt Try.prog 18 0 0 17 := FieldAt.mk Try.underlying18 rfl rfl rfl sz_17
theorem fld_19_0 : FieldAt Try.prog 19 0 0 17 := FieldAt.mk Try.underlying19 rfl rfl rfl sz_17
theorem fld_29_0 : FieldAt Try.prog 29 0 0 3 := FieldAt.mk Try.underlying29 rfl rfl rfl sz_3
theorem fld_29_1 : FieldAt Try.prog 29 1 1 26 := FieldAt.mk Try.underlying29 rfl rfl rfl sz_26
theorem fld_29_2 : FieldAt Try.prog 29 2 7 26 := FieldAt.mk Try.underlying29 rfl rfl rfl sz_26
theorem fld_29_3 : FieldAt Try.prog 29 3 13 3 := FieldAt.mk Try.underlying29 rfl rfl rfl sz_3
theorem fld_29_4 : FieldAt Try.prog 29 4 14 28 := FieldAt.mk Try.underlying29 rfl rfl rfl sz_28
theorem fld_29_5 : FieldAt Try.prog 29 5 15 28 := FieldAt.mk Try.underlying29 rfl rfl rfl sz_28
theorem fld_29_6 : FieldAt Try.prog 29 6 16 3 := FieldAt.mk Try.underlying29 rfl rfl rfl sz_3
theorem fld_29_7 : FieldAt Try.prog 29 7 17 3 := FieldAt.mk Try.underlying29 rfl rfl rfl sz_3
theorem fld_29_8 : FieldAt Try.prog 29 8 18 3 := FieldAt.mk Try.underlying29 rfl rfl rfl sz_3
theorem fld_30_0 : FieldAt Try.prog 30 0 0 3 := FieldAt.mk Try.underlying30 rfl rfl rfl sz_3
theorem fld_30_1 : FieldAt Try.prog 30 1 1 26 := FieldAt.mk Try.underlying30 rfl rfl rfl sz_26
theorem fld_30_2 : FieldAt Try.prog 30 2 7 26 := FieldAt.mk Try.underlying30 rfl rfl rfl sz_26
theorem fld_30_3 : FieldAt Try.prog 30 3 13 3 := FieldAt.mk Try.underlying30 rfl rfl rfl sz_3
theorem fld_30_4 : FieldAt Try.prog 30 4 14 28 := FieldAt.mk Try.underlying30 rfl rfl rfl sz_28
theorem fld_30_5 : FieldAt Try.prog 30 5 15 28 := FieldAt.mk Try.underlying30 rfl rfl rfl sz_28
theorem fld_30_6 : FieldAt Try.prog 30 6 16 3 := FieldAt.mk Try.underlying30 rfl rfl rfl sz_3
theorem fld_30_7 : FieldAt Try.prog 30 7 17 3 := FieldAt.mk Try.underlying30 rfl rfl rfl sz_3
theorem fld_30_8 : FieldAt Try.prog 30 8 18 3 := FieldAt.mk Try.underlying30 rfl rfl rfl sz_3
theorem fld_31_0 : FieldAt Try.prog 31 0 0 30 := FieldAt.mk Try.underlying31 rfl rfl rfl sz_30
theorem fld_31_1 : FieldAt Try.prog 31 1 19 30 := FieldAt.mk Try.underlying31 rfl rfl rfl sz_30
theorem fld_31_2 : FieldAt Try.prog 31 2 38 9 := FieldAt.mk Try.underlying31 rfl rfl rfl sz_9
theorem fld_31_3 : FieldAt Try.prog 31 3 39 3 := FieldAt.mk Try.underlying31 rfl rfl rfl sz_3
theorem fld_31_4 : FieldAt Try.prog 31 4 40 3 := FieldAt.mk Try.underlying31 rfl rfl rfl sz_3
theorem fld_32_0 : FieldAt Try.prog 32 0 0 30 := FieldAt.mk Try.underlying32 rfl rfl rfl sz_30
theorem fld_32_1 : FieldAt Try.prog 32 1 19 30 := FieldAt.mk Try.underlying32 rfl rfl rfl sz_30
theorem fld_32_2 : FieldAt Try.prog 32 2 38 9 := FieldAt.mk Try.underlying32 rfl rfl rfl sz_9
theorem fld_32_3 : FieldAt Try.prog 32 3 39 3 := FieldAt.mk Try.underlying32 rfl rfl rfl sz_3
theorem fld_32_4 : FieldAt Try.prog 32 4 40 3 := FieldAt.mk Try.underlying32 rfl rfl rfl sz_3
theorem fld_36_0 : FieldAt Try.prog 36 0 0 3 := FieldAt.mk Try.underlying36 rfl rfl rfl sz_3
theorem fld_36_1 : FieldAt Try.prog 36 1 1 25 := FieldAt.mk Try.underlying36 rfl rfl rfl sz_25
theorem fld_36_2 : FieldAt Try.prog 36 2 7 25 := FieldAt.mk Try.underlying36 rfl rfl rfl sz_25
theorem fld_36_3 : FieldAt Try.prog 36 3 13 3 := FieldAt.mk Try.underlying36 rfl rfl rfl sz_3
theorem fld_36_4 : FieldAt Try.prog 36 4 14 27 := FieldAt.mk Try.underlying36 rfl rfl rfl sz_27
theorem fld_36_5 : FieldAt Try.prog 36 5 15 27 := FieldAt.mk Try.underlying36 rfl rfl rfl sz_27
theorem fld_36_6 : FieldAt Try.prog 36 6 16 3 := FieldAt.mk Try.underlying36 rfl rfl rfl sz_3
theorem fld_36_7 : FieldAt Try.prog 36 7 17 3 := FieldAt.mk Try.underlying36 rfl rfl rfl sz_3
theorem fld_36_8 : FieldAt Try.prog 36 8 18 3 := FieldAt.mk Try.underlying36 rfl rfl rfl sz_3
theorem fld_37_0 : FieldAt Try.prog 37 0 0 3 := FieldAt.mk Try.underlying37 rfl rfl rfl sz_3
theorem fld_37_1 : FieldAt Try.prog 37 1 1 25 := FieldAt.mk Try.underlying37 rfl rfl rfl sz_25
theorem fld_37_2 : FieldAt Try.prog 37 2 7 25 := FieldAt.mk Try.underlying37 rfl rfl rfl sz_25
theorem fld_37_3 : FieldAt Try.prog 37 3 13 3 := FieldAt.mk Try.underlying37 rfl rfl rfl sz_3
theorem fld_37_4 : FieldAt Try.prog 37 4 14 27 := FieldAt.mk Try.underlying37 rfl rfl rfl sz_27
theorem fld_37_5 : FieldAt Try.prog 37 5 15 27 := FieldAt.mk Try.underlying37 rfl rfl rfl sz_27
theorem fld_37_6 : FieldAt Try.prog 37 6 16 3 := FieldAt.mk Try.underlying37 rfl rfl rfl sz_3
theorem fld_37_7 : FieldAt Try.prog 37 7 17 3 := FieldAt.mk Try.underlying37 rfl rfl rfl sz_3
theorem fld_37_8 : FieldAt Try.prog 37 8 18 3 := FieldAt.mk Try.underlying37 rfl rfl rfl sz_3
theorem fld_43_0 : FieldAt Try.prog 43 0 0 4 := FieldAt.mk Try.underlying43 rfl rfl rfl sz_4
theorem fld_43_1 : FieldAt Try.prog 43 1 1 26 := FieldAt.mk Try.underlying43 rfl rfl rfl sz_26
theorem fld_43_2 : FieldAt Try.prog 43 2 7 28 := FieldAt.mk Try.underlying43 rfl rfl rfl sz_28
theorem fld_43_3 : FieldAt Try.prog 43 3 8 26 := FieldAt.mk Try.underlying43 rfl rfl rfl sz_26
theorem fld_43_4 : FieldAt Try.prog 43 4 14 28 := FieldAt.mk Try.underlying43 rfl rfl rfl sz_28
theorem fld_44_0 : FieldAt Try.prog 44 0 0 4 := FieldAt.mk Try.underlying44 rfl rfl rfl sz_4
theorem fld_44_1 : FieldAt Try.prog 44 1 1 26 := FieldAt.mk Try.underlying44 rfl rfl rfl sz_26
theorem fld_44_2 : FieldAt Try.prog 44 2 7 28 := FieldAt.mk Try.underlying44 rfl rfl rfl sz_28
theorem fld_44_3 : FieldAt Try.prog 44 3 8 26 := FieldAt.mk Try.underlying44 rfl rfl rfl sz_26
theorem fld_44_4 : FieldAt Try.prog 44 4 14 28 := FieldAt.mk Try.underlying44 rfl rfl rfl sz_28
theorem fld_68_0 : FieldAt Try.prog 68 0 0 53 := FieldAt.mk Try.underlying68 rfl rfl rfl sz_53
theorem fld_68_1 : FieldAt Try.prog 68 1 1 59 := FieldAt.mk Try.underlying68 rfl rfl rfl sz_59
theorem fld_69_0 : FieldAt Try.prog 69 0 0 53 := FieldAt.mk Try.underlying69 rfl rfl rfl sz_53
theorem fld_69_1 : FieldAt Try.prog 69 1 1 59 := FieldAt.mk Try.underlying69 rfl rfl rfl sz_59
theorem fld_76_0 : FieldAt Try.prog 76 0 0 17 := FieldAt.mk Try.underlying76 rfl rfl rfl sz_17
theorem fld_76_1 : FieldAt Try.prog 76 1 1 17 := FieldAt.mk Try.underlying76 rfl rfl rfl sz_17
theorem fld_76_2 : FieldAt Try.prog 76 2 2 17 := FieldAt.mk Try.underlying76 rfl rfl rfl sz_17
theorem fld_76_3 : FieldAt Try.prog 76 3 3 9 := FieldAt.mk Try.underlying76 rfl rfl rfl sz_9
theorem fld_77_0 : FieldAt Try.prog 77 0 0 17 := FieldAt.mk Try.underlying77 rfl rfl rfl sz_17
theorem fld_77_1 : FieldAt Try.prog 77 1 1 17 := FieldAt.mk Try.underlying77 rfl rfl rfl sz_17
theorem fld_77_2 : FieldAt Try.prog 77 2 2 17 := FieldAt.mk Try.underlying77 rfl rfl rfl sz_17
theorem fld_77_3 : FieldAt Try.prog 77 3 3 9 := FieldAt.mk Try.underlying77 rfl rfl rfl sz_9
theorem fld_88_0 : FieldAt Try.prog 88 0 0 12 := FieldAt.mk Try.underlying88 rfl rfl rfl sz_12
theorem fld_88_1 : FieldAt Try.prog 88 1 1 12 := FieldAt.mk Try.underlying88 rfl rfl rfl sz_12
theorem fld_88_2 : FieldAt Try.prog 88 2 2 27 := FieldAt.mk Try.underlying88 rfl rfl rfl sz_27
theorem fld_88_3 : FieldAt Try.prog 88 3 3 82 := FieldAt.mk Try.underlying88 rfl rfl rfl sz_82
theorem fld_88_4 : FieldAt Try.prog 88 4 4 5 := FieldAt.mk Try.underlying88 rfl rfl rfl sz_5
theorem fld_88_5 : FieldAt Try.prog 88 5 5 5 := FieldAt.mk Try.underlying88 rfl rfl rfl sz_5
theorem fld_88_6 : FieldAt Try.prog 88 6 6 83 := FieldAt.mk Try.underlying88 rfl rfl rfl sz_83
theorem fld_88_7 : FieldAt Try.prog 88 7 7 84 := FieldAt.mk Try.underlying88 rfl rfl rfl sz_84
theorem fld_88_8 : FieldAt Try.prog 88 8 8 85 := FieldAt.mk Try.underlying88 rfl rfl rfl sz_85
theorem fld_88_9 : FieldAt Try.prog 88 9 9 86 := FieldAt.mk Try.underlying88 rfl rfl rfl sz_86
theorem fld_88_10 : FieldAt Try.prog 88 10 10 87 := FieldAt.mk Try.underlying88 rfl rfl rfl sz_87
theorem fld_89_0 : FieldAt Try.prog 89 0 0 12 := FieldAt.mk Try.underlying89 rfl rfl rfl sz_12
theorem fld_89_1 : FieldAt Try.prog 89 1 1 12 := FieldAt.mk Try.underlying89 rfl rfl rfl sz_12
theorem fld_89_2 : FieldAt Try.prog 89 2 2 27 := FieldAt.mk Try.underlying89 rfl rfl rfl sz_27
theorem fld_89_3 : FieldAt Try.prog 89 3 3 82 := FieldAt.mk Try.underlying89 rfl rfl rfl sz_82
theorem fld_89_4 : FieldAt Try.prog 89 4 4 5 := FieldAt.mk Try.underlying89 rfl rfl rfl sz_5
theorem fld_89_5 : FieldAt Try.prog 89 5 5 5 := FieldAt.mk Try.underlying89 rfl rfl rfl sz_5
theorem fld_89_6 : FieldAt Try.prog 89 6 6 83 := FieldAt.mk Try.underlying89 rfl rfl rfl sz_83
theorem fld_89_7 : FieldAt Try.prog 89 7 7 84 := FieldAt.mk Try.underlying89 rfl rfl rfl sz_84
theorem fld_89_8 : FieldAt Try.prog 89 8 8 85 := FieldAt.mk Try.underlying89 rfl rfl rfl sz_85
theorem fld_89_9 : FieldAt Try.prog 89 9 9 86 := FieldAt.mk Try.underlying89 rfl rfl rfl sz_86
theorem fld_89_10 : FieldAt Try.prog 89 10 10 87 := FieldAt.mk Try.underlying89 rfl rfl rfl sz_87
theorem plc_30 : Places Try.prog 30 [(0, 1), (1, 6), (7, 6), (13, 1), (14, 1), (15, 1), (16, 1), (17, 1), (18, 1)] := ⟨_, Try.underlying30, fun w => by simp [run_sizeOf sz_3, run_sizeOf sz_26, run_sizeOf sz_28]⟩
theorem plc_32 : Places Try.prog 32 [(0, 19), (19, 19), (38, 1), (39, 1), (40, 1)] := ⟨_, Try.underlying32, fun w => by simp [run_sizeOf sz_30, run_sizeOf sz_9, run_sizeOf sz_3]⟩
theorem plc_37 : Places Try.prog 37 [(0, 1), (1, 6), (7, 6), (13, 1), (14, 1), (15, 1), (16, 1), (17, 1), (18, 1)] := ⟨_, Try.underlying37, fun w => by simp [run_sizeOf sz_3, run_sizeOf sz_25, run_sizeOf sz_27]⟩
theorem plc_44 : Places Try.prog 44 [(0, 1), (1, 6), (7, 1), (8, 6), (14, 1)] := ⟨_, Try.underlying44, fun w => by simp [run_sizeOf sz_4, run_sizeOf sz_26, run_sizeOf sz_28]⟩
theorem plc_69 : Places Try.prog 69 [(0, 1), (1, 1)] := ⟨_, Try.underlying69, fun w => by simp [run_sizeOf sz_53, run_sizeOf sz_59]⟩
theorem eqk_26 : EqK Try.prog 10000 26 true [.i .u8, .i .u8, .i .u8, .i .u8, .i .u8, .i .u8] := (EqK.array Try.underlying26 sz_26 (EqK.int Try.underlying5 sz_5) rfl)
theorem eqg_26 : Try.prog.eqGuardType Try.prog.depth 26 = false := by kernel_rfl
theorem eqk_37 : EqK Try.prog 10000 37 true [.i .i64, .i .u8, .i .u8, .i .u8, .i .u8, .i .u8, .i .u8, .i .u8, .i .u8, .i .u8, .i .u8, .i .u8, .i .u8, .i .i64, .i .u32, .i .u32, .i .i64, .i .i64, .i .i64] := (EqK.struct Try.underlying37 (by kernel_rfl) sz_37 (.cons (off := 0) (k1 := [.i .i64]) (k2 := [.i .u8, .i .u8, .i .u8, .i .u8, .i .u8, .i .u8, .i .u8, .i .u8, .i .u8, .i .u8, .i .u8, .i .u8, .i .i64, .i .u32, .i .u32, .i .i64, .i .i64, .i .i64]) (by kernel_rfl) rfl (EqK.int Try.underlying3 sz_3) (.cons (off := 1) (k1 := [.i .u8, .i .u8, .i .u8, .i .u8, .i .u8, .i .u8]) (k2 := [.i .u8, .i .u8, .i .u8, .i .u8, .i .u8, .i .u8, .i .i64, .i .u32, .i .u32, .i .i64, .i .i64, .i .i64]) (by kernel_rfl) rfl (EqK.array Try.underlying25 sz_25 (EqK.int Try.underlying5 sz_5) rfl) (.cons (off := 7) (k1 := [.i .u8, .i .u8, .i .u8, .i .u8, .i .u8, .i .u8]) (k2 := [.i .i64, .i .u32, .i .u32, .i .i64, .i .i64, .i .i64]) (by kernel_rfl) rfl (EqK.array Try.underlying25 sz_25 (EqK.int Try.underlying5 sz_5) rfl) (.cons (off := 13) (k1 := [.i .i64]) (k2 := [.i .u32, .i .u32, .i .i64, .i .i64, .i .i64]) (by kernel_rfl) rfl (EqK.int Try.underlying3 sz_3) (.cons (off := 14) (k1 := [.i .u32]) (k2 := [.i .u32, .i .i64, .i .i64, .i .i64]) (by kernel_rfl) rfl (EqK.int Try.underlying27 sz_27) (.cons (off := 15) (k1 := [.i .u32]) (k2 := [.i .i64, .i .i64, .i .i64]) (by kernel_rfl) rfl (EqK.int Try.underlying27 sz_27) (.cons (off := 16) (k1 := [.i .i64]) (k2 := [.i .i64, .i .i64]) (by kernel_rfl) rfl (EqK.int Try.underlying3 sz_3) (.cons (off := 17) (k1 := [.i .i64]) (k2 := [.i .i64]) (by kernel_rfl) rfl (EqK.int Try.underlying3 sz_3) (.cons (off := 18) (k1 := [.i .i64]) (k2 := []) (by kernel_rfl) rfl (EqK.int Try.underlying3 sz_3) .nil))))))))))
theorem eqg_37 : Try.prog.eqGuardType Try.prog.depth 37 = false := by kernel_rfl
theorem eqk_44 : EqK Try.prog 10000 44 true [.b, .i .u8, .i .u8, .i .u8, .i .u8, .i .u8, .i .u8, .i .u32, .i .u8, .i .u8, .i .u8, .i .u8, .i .u8, .i .u8, .i .u32] := (EqK.struct Try.underlying44 (by kernel_rfl) sz_44 (.cons (off := 0) (k1 := [.b]) (k2 := [.i .u8, .i .u8, .i .u8, .i .u8, .i .u8, .i .u8, .i .u32, .i .u8, .i .u8, .i .u8, .i .u8, .i .u8, .i .u8, .i .u32]) (by kernel_rfl) rfl (EqK.bool Try.underlying4 sz_4) (.cons (off := 1) (k1 := [.i .u8, .i .u8, .i .u8, .i .u8, .i .u8, .i .u8]) (k2 := [.i .u32, .i .u8, .i .u8, .i .u8, .i .u8, .i .u8, .i .u8, .i .u32]) (by kernel_rfl) rfl (EqK.array Try.underlying26 sz_26 (EqK.int Try.underlying5 sz_5) rfl) (.cons (off := 7) (k1 := [.i .u32]) (k2 := [.i .u8, .i .u8, .i .u8, .i .u8, .i .u8, .i .u8, .i .u32]) (by kernel_rfl) rfl (EqK.int Try.underlying28 sz_28) (.cons (off := 8) (k1 := [.i .u8, .i .u8, .i .u8, .i .u8, .i .u8, .i .u8]) (k2 := [.i .u32]) (by kernel_rfl) rfl (EqK.array Try.underlying26 sz_26 (EqK.int Try.underlying5 sz_5) rfl) (.cons (off := 14) (k1 := [.i .u32]) (k2 := []) (by kernel_rfl) rfl (EqK.int Try.underlying28 sz_28) .nil))))))
theorem eqg_44 : Try.prog.eqGuardType Try.prog.depth 44 = false := by kernel_rfl
theorem ck_2 : callOk Try.prog 2 := callOk_of Try.func2 (by kernel_rfl) rfl
theorem ck_3 : callOk Try.prog 3 := callOk_of Try.func3 (by kernel_rfl) rfl
theorem ck_4 : callOk Try.prog 4 := callOk_of Try.func4 (by kernel_rfl) rfl
theorem ck_5 : callOk Try.prog 5 := callOk_of Try.func5 (by kernel_rfl) rfl
theorem ck_6 : callOk Try.prog 6 := callOk_of Try.func6 (by kernel_rfl) rfl
theorem ck_7 : callOk Try.prog 7 := callOk_of Try.func7 (by kernel_rfl) rfl
theorem ck_8 : callOk Try.prog 8 := callOk_of Try.func8 (by kernel_rfl) rfl
theorem ck_9 : callOk Try.prog 9 := callOk_of Try.func9 (by kernel_rfl) rfl
theorem ck_10 : callOk Try.prog 10 := callOk_of Try.func10 (by kernel_rfl) rfl
theorem ck_11 : callOk Try.prog 11 := callOk_of Try.func11 (by kernel_rfl) rfl
theorem ck_12 : callOk Try.prog 12 := callOk_of Try.func12 (by kernel_rfl) rfl
theorem ck_13 : callOk Try.prog 13 := callOk_of Try.func13 (by kernel_rfl) rfl
theorem ck_14 : callOk Try.prog 14 := callOk_of Try.func14 (by kernel_rfl) rfl
theorem ck_15 : callOk Try.prog 15 := callOk_of Try.func15 (by kernel_rfl) rfl
theorem ck_16 : callOk Try.prog 16 := callOk_of Try.func16 (by kernel_rfl) rfl
theorem ck_17 : callOk Try.prog 17 := callOk_of Try.func17 (by kernel_rfl) rfl
theorem ck_18 : callOk Try.prog 18 := callOk_of Try.func18 (by kernel_rfl) rfl
theorem ck_19 : callOk Try.prog 19 := callOk_of Try.func19 (by kernel_rfl) rfl
theorem ck_20 : callOk Try.prog 20 := callOk_of Try.func20 (by kernel_rfl) rfl
theorem ck_21 : callOk Try.prog 21 := callOk_of Try.func21 (by kernel_rfl) rfl
theorem ck_22 : callOk Try.prog 22 := callOk_of Try.func22 (by kernel_rfl) rfl
theorem ck_23 : callOk Try.prog 23 := callOk_of Try.func23 (by kernel_rfl) rfl
theorem ck_24 : callOk Try.prog 24 := callOk_of Try.func24 (by kernel_rfl) rfl
theorem ck_25 : callOk Try.prog 25 := callOk_of Try.func25 (by kernel_rfl) rfl
theorem ck_26 : callOk Try.prog 26 := callOk_of Try.func26 (by kernel_rfl) rfl
theorem ck_27 : callOk Try.prog 27 := callOk_of Try.func27 (by kernel_rfl) rfl
theorem ck_28 : callOk Try.prog 28 := callOk_of Try.func28 (by kernel_rfl) rfl
theorem ck_29 : callOk Try.prog 29 := callOk_of Try.func29 (by kernel_rfl) rfl
theorem ck_30 : callOk Try.prog 30 := callOk_of Try.func30 (by kernel_rfl) rfl
theorem ck_31 : callOk Try.prog 31 := callOk_of Try.func31 (by kernel_rfl) rfl
theorem ck_32 : callOk Try.prog 32 := callOk_of Try.func32 (by kernel_rfl) rfl
theorem ck_33 : callOk Try.prog 33 := callOk_of Try.func33 (by kernel_rfl) rfl
theorem ck_34 : callOk Try.prog 34 := callOk_of Try.func34 (by kernel_rfl) rfl
theorem ck_35 : callOk Try.prog 35 := callOk_of Try.func35 (by kernel_rfl) rfl
theorem ck_36 : callOk Try.prog 36 := callOk_of Try.func36 (by kernel_rfl) rfl
end Go.Proofs.Ytpjjlggonpbegaa
