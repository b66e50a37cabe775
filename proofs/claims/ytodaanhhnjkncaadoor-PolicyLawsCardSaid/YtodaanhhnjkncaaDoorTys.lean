/- The closed facts on this program's types and functions that the engine's laws ask for (printed by gen_ty.py). -/
import Derived.Test.YtodaanhhnjkncaaDoorIter
import Derived.Test.YtodaanhhnjkncaaDoorProg
namespace Go.Proofs.YtodaanhhnjkncaaDoor
open Go.RowKit
theorem mixed : Tryd.prog.follows .mixedOrders = true := by kernel_rfl
theorem sz_1 : (Tryd.prog.info? 1).map (·.size) = some 1 := by kernel_rfl
theorem by_1 : (Tryd.prog.info? 1).map (·.bytes) = some 8 := by kernel_rfl
theorem one_1 : One Tryd.prog 1 := One.mk Tryd.underlying1 rfl sz_1
theorem zero_1 : Zero Tryd.prog 1 [.nilFunc] := Zero.mk (z := .nilFunc) (by kernel_rfl) rfl
theorem sz_2 : (Tryd.prog.info? 2).map (·.size) = some 1 := by kernel_rfl
theorem by_2 : (Tryd.prog.info? 2).map (·.bytes) = some 8 := by kernel_rfl
theorem one_2 : One Tryd.prog 2 := One.mk Tryd.underlying2 rfl sz_2
theorem zero_2 : Zero Tryd.prog 2 [.int .i64 0] := Zero.mk (z := .int .i64 0) (by kernel_rfl) rfl
theorem sz_3 : (Tryd.prog.info? 3).map (·.size) = some 1 := by kernel_rfl
theorem by_3 : (Tryd.prog.info? 3).map (·.bytes) = some 8 := by kernel_rfl
theorem one_3 : One Tryd.prog 3 := One.mk Tryd.underlying3 rfl sz_3
theorem zero_3 : Zero Tryd.prog 3 [.int .i64 0] := Zero.mk (z := .int .i64 0) (by kernel_rfl) rfl
theorem sz_4 : (Tryd.prog.info? 4).map (·.size) = some 1 := by kernel_rfl
theorem by_4 : (Tryd.prog.info? 4).map (·.bytes) = some 1 := by kernel_rfl
theorem one_4 : One Tryd.prog 4 := One.mk Tryd.underlying4 rfl sz_4
theorem zero_4 : Zero Tryd.prog 4 [.bool false] := Zero.mk (z := .bool false) (by kernel_rfl) rfl
theorem sz_5 : (Tryd.prog.info? 5).map (·.size) = some 1 := by kernel_rfl
theorem by_5 : (Tryd.prog.info? 5).map (·.bytes) = some 1 := by kernel_rfl
theorem one_5 : One Tryd.prog 5 := One.mk Tryd.underlying5 rfl sz_5
theorem zero_5 : Zero Tryd.prog 5 [.int .u8 0] := Zero.mk (z := .int .u8 0) (by kernel_rfl) rfl
theorem sz_6 : (Tryd.prog.info? 6).map (·.size) = some 1 := by kernel_rfl
theorem by_6 : (Tryd.prog.info? 6).map (·.bytes) = some 1 := by kernel_rfl
theorem one_6 : One Tryd.prog 6 := One.mk Tryd.underlying6 rfl sz_6
theorem zero_6 : Zero Tryd.prog 6 [.int .u8 0] := Zero.mk (z := .int .u8 0) (by kernel_rfl) rfl
theorem sz_7 : (Tryd.prog.info? 7).map (·.size) = some 4 := by kernel_rfl
theorem by_7 : (Tryd.prog.info? 7).map (·.bytes) = some 24 := by kernel_rfl
theorem many_7 : Many Tryd.prog 7 4 := Many.mk Tryd.underlying7 rfl sz_7
theorem zero_7 : Zero Tryd.prog 7 [.int .i64 0, .int .i64 0, .bool false, .int .u8 0] := Zero.mk (z := .agg #[.int .i64 0, .int .i64 0, .bool false, .int .u8 0]) (by kernel_rfl) rfl
theorem sz_8 : (Tryd.prog.info? 8).map (·.size) = some 4 := by kernel_rfl
theorem by_8 : (Tryd.prog.info? 8).map (·.bytes) = some 24 := by kernel_rfl
theorem many_8 : Many Tryd.prog 8 4 := Many.mk Tryd.underlying8 rfl sz_8
theorem zero_8 : Zero Tryd.prog 8 [.int .i64 0, .int .i64 0, .bool false, .int .u8 0] := Zero.mk (z := .agg #[.int .i64 0, .int .i64 0, .bool false, .int .u8 0]) (by kernel_rfl) rfl
theorem sz_9 : (Tryd.prog.info? 9).map (·.size) = some 1 := by kernel_rfl
theorem by_9 : (Tryd.prog.info? 9).map (·.bytes) = some 16 := by kernel_rfl
theorem one_9 : One Tryd.prog 9 := One.mk Tryd.underlying9 rfl sz_9
theorem zero_9 : Zero Tryd.prog 9 [.string ⟨#[]⟩] := Zero.mk (z := .string ⟨#[]⟩) (by kernel_rfl) rfl
theorem sz_10 : (Tryd.prog.info? 10).map (·.size) = some 1 := by kernel_rfl
theorem by_10 : (Tryd.prog.info? 10).map (·.bytes) = some 16 := by kernel_rfl
theorem one_10 : One Tryd.prog 10 := One.mk Tryd.underlying10 rfl sz_10
theorem zero_10 : Zero Tryd.prog 10 [.string ⟨#[]⟩] := Zero.mk (z := .string ⟨#[]⟩) (by kernel_rfl) rfl
theorem sz_11 : (Tryd.prog.info? 11).map (·.size) = some 1 := by kernel_rfl
theorem by_11 : (Tryd.prog.info? 11).map (·.bytes) = some 16 := by kernel_rfl
theorem one_11 : One Tryd.prog 11 := One.mk Tryd.underlying11 rfl sz_11
theorem zero_11 : Zero Tryd.prog 11 [.string ⟨#[]⟩] := Zero.mk (z := .string ⟨#[]⟩) (by kernel_rfl) rfl
theorem sz_12 : (Tryd.prog.info? 12).map (·.size) = some 1 := by kernel_rfl
theorem by_12 : (Tryd.prog.info? 12).map (·.bytes) = some 8 := by kernel_rfl
theorem one_12 : One Tryd.prog 12 := One.mk Tryd.underlying12 rfl sz_12
theorem zero_12 : Zero Tryd.prog 12 [.int .u64 0] := Zero.mk (z := .int .u64 0) (by kernel_rfl) rfl
theorem sz_13 : (Tryd.prog.info? 13).map (·.size) = some 2 := by kernel_rfl
theorem by_13 : (Tryd.prog.info? 13).map (·.bytes) = some 24 := by kernel_rfl
theorem many_13 : Many Tryd.prog 13 2 := Many.mk Tryd.underlying13 rfl sz_13
theorem zero_13 : Zero Tryd.prog 13 [.string ⟨#[]⟩, .int .u64 0] := Zero.mk (z := .agg #[.string ⟨#[]⟩, .int .u64 0]) (by kernel_rfl) rfl
theorem sz_14 : (Tryd.prog.info? 14).map (·.size) = some 2 := by kernel_rfl
theorem by_14 : (Tryd.prog.info? 14).map (·.bytes) = some 24 := by kernel_rfl
theorem many_14 : Many Tryd.prog 14 2 := Many.mk Tryd.underlying14 rfl sz_14
theorem zero_14 : Zero Tryd.prog 14 [.string ⟨#[]⟩, .int .u64 0] := Zero.mk (z := .agg #[.string ⟨#[]⟩, .int .u64 0]) (by kernel_rfl) rfl
theorem sz_15 : (Tryd.prog.info? 15).map (·.size) = some 1 := by kernel_rfl
theorem by_15 : (Tryd.prog.info? 15).map (·.bytes) = some 8 := by kernel_rfl
theorem one_15 : One Tryd.prog 15 := One.mk Tryd.underlying15 rfl sz_15
theorem zero_15 : Zero Tryd.prog 15 [.pointer none] := Zero.mk (z := .pointer none) (by kernel_rfl) rfl
theorem sz_16 : (Tryd.prog.info? 16).map (·.size) = some 1 := by kernel_rfl
theorem by_16 : (Tryd.prog.info? 16).map (·.bytes) = some 8 := by kernel_rfl
theorem one_16 : One Tryd.prog 16 := One.mk Tryd.underlying16 rfl sz_16
theorem zero_16 : Zero Tryd.prog 16 [.pointer none] := Zero.mk (z := .pointer none) (by kernel_rfl) rfl
theorem sz_17 : (Tryd.prog.info? 17).map (·.size) = some 1 := by kernel_rfl
theorem by_17 : (Tryd.prog.info? 17).map (·.bytes) = some 8 := by kernel_rfl
theorem one_17 : One Tryd.prog 17 := One.mk Tryd.underlying17 rfl sz_17
theorem zero_17 : Zero Tryd.prog 17 [.pointer none] := Zero.mk (z := .pointer none) (by kernel_rfl) rfl
theorem sz_18 : (Tryd.prog.info? 18).map (·.size) = some 1 := by kernel_rfl
theorem by_18 : (Tryd.prog.info? 18).map (·.bytes) = some 8 := by kernel_rfl
theorem many_18 : Many Tryd.prog 18 1 := Many.mk Tryd.underlying18 rfl sz_18
theorem zero_18 : Zero Tryd.prog 18 [.pointer none] := Zero.mk (z := .agg #[.pointer none]) (by kernel_rfl) rfl
theorem sz_19 : (Tryd.prog.info? 19).map (·.size) = some 1 := by kernel_rfl
theorem by_19 : (Tryd.prog.info? 19).map (·.bytes) = some 8 := by kernel_rfl
theorem many_19 : Many Tryd.prog 19 1 := Many.mk Tryd.underlying19 rfl sz_19
theorem zero_19 : Zero Tryd.prog 19 [.pointer none] := Zero.mk (z := .agg #[.pointer none]) (by kernel_rfl) rfl
theorem sz_20 : (Tryd.prog.info? 20).map (·.size) = some 1 := by kernel_rfl
theorem by_20 : (Tryd.prog.info? 20).map (·.bytes) = some 16 := by kernel_rfl
theorem one_20 : One Tryd.prog 20 := One.mk Tryd.underlying20 rfl sz_20
theorem zero_20 : Zero Tryd.prog 20 [.nilIface] := Zero.mk (z := .nilIface) (by kernel_rfl) rfl
theorem sz_21 : (Tryd.prog.info? 21).map (·.size) = some 1 := by kernel_rfl
theorem by_21 : (Tryd.prog.info? 21).map (·.bytes) = some 4 := by kernel_rfl
theorem one_21 : One Tryd.prog 21 := One.mk Tryd.underlying21 rfl sz_21
theorem zero_21 : Zero Tryd.prog 21 [.int .i32 0] := Zero.mk (z := .int .i32 0) (by kernel_rfl) rfl
theorem sz_22 : (Tryd.prog.info? 22).map (·.size) = some 1 := by kernel_rfl
theorem by_22 : (Tryd.prog.info? 22).map (·.bytes) = some 8 := by kernel_rfl
theorem one_22 : One Tryd.prog 22 := One.mk Tryd.underlying22 rfl sz_22
theorem zero_22 : Zero Tryd.prog 22 [.int .u64 0] := Zero.mk (z := .int .u64 0) (by kernel_rfl) rfl
theorem sz_23 : (Tryd.prog.info? 23).map (·.size) = some 9 := by kernel_rfl
theorem by_23 : (Tryd.prog.info? 23).map (·.bytes) = some 72 := by kernel_rfl
theorem many_23 : Many Tryd.prog 23 9 := Many.mk Tryd.underlying23 rfl sz_23
theorem zero_23 : Zero Tryd.prog 23 [.int .u64 0, .int .u64 0, .int .u64 0, .int .u64 0, .int .u64 0, .int .u64 0, .int .u64 0, .int .u64 0, .int .u64 0] := Zero.mk (z := .agg #[.int .u64 0, .int .u64 0, .int .u64 0, .int .u64 0, .int .u64 0, .int .u64 0, .int .u64 0, .int .u64 0, .int .u64 0]) (by kernel_rfl) rfl
theorem sz_24 : (Tryd.prog.info? 24).map (·.size) = some 10 := by kernel_rfl
theorem by_24 : (Tryd.prog.info? 24).map (·.bytes) = some 80 := by kernel_rfl
theorem many_24 : Many Tryd.prog 24 10 := Many.mk Tryd.underlying24 rfl sz_24
theorem zero_24 : Zero Tryd.prog 24 [.int .i64 0, .int .u64 0, .int .u64 0, .int .u64 0, .int .u64 0, .int .u64 0, .int .u64 0, .int .u64 0, .int .u64 0, .int .u64 0] := Zero.mk (z := .agg #[.int .i64 0, .int .u64 0, .int .u64 0, .int .u64 0, .int .u64 0, .int .u64 0, .int .u64 0, .int .u64 0, .int .u64 0, .int .u64 0]) (by kernel_rfl) rfl
theorem sz_25 : (Tryd.prog.info? 25).map (·.size) = some 10 := by kernel_rfl
theorem by_25 : (Tryd.prog.info? 25).map (·.bytes) = some 80 := by kernel_rfl
theorem many_25 : Many Tryd.prog 25 10 := Many.mk Tryd.underlying25 rfl sz_25
theorem zero_25 : Zero Tryd.prog 25 [.int .i64 0, .int .u64 0, .int .u64 0, .int .u64 0, .int .u64 0, .int .u64 0, .int .u64 0, .int .u64 0, .int .u64 0, .int .u64 0] := Zero.mk (z := .agg #[.int .i64 0, .int .u64 0, .int .u64 0, .int .u64 0, .int .u64 0, .int .u64 0, .int .u64 0, .int .u64 0, .int .u64 0, .int .u64 0]) (by kernel_rfl) rfl
theorem sz_26 : (Tryd.prog.info? 26).map (·.size) = some 6 := by kernel_rfl
theorem by_26 : (Tryd.prog.info? 26).map (·.bytes) = some 6 := by kernel_rfl
theorem many_26 : Many Tryd.prog 26 6 := Many.mk Tryd.underlying26 rfl sz_26
theorem zero_26 : Zero Tryd.prog 26 [.int .u8 0, .int .u8 0, .int .u8 0, .int .u8 0, .int .u8 0, .int .u8 0] := Zero.mk (z := .agg #[.int .u8 0, .int .u8 0, .int .u8 0, .int .u8 0, .int .u8 0, .int .u8 0]) (by kernel_rfl) rfl
theorem sz_27 : (Tryd.prog.info? 27).map (·.size) = some 6 := by kernel_rfl
theorem by_27 : (Tryd.prog.info? 27).map (·.bytes) = some 6 := by kernel_rfl
theorem many_27 : Many Tryd.prog 27 6 := Many.mk Tryd.underlying27 rfl sz_27
theorem zero_27 : Zero Tryd.prog 27 [.int .u8 0, .int .u8 0, .int .u8 0, .int .u8 0, .int .u8 0, .int .u8 0] := Zero.mk (z := .agg #[.int .u8 0, .int .u8 0, .int .u8 0, .int .u8 0, .int .u8 0, .int .u8 0]) (by kernel_rfl) rfl
theorem sz_28 : (Tryd.prog.info? 28).map (·.size) = some 1 := by kernel_rfl
theorem by_28 : (Tryd.prog.info? 28).map (·.bytes) = some 4 := by kernel_rfl
theorem one_28 : One Tryd.prog 28 := One.mk Tryd.underlying28 rfl sz_28
theorem zero_28 : Zero Tryd.prog 28 [.int .u32 0] := Zero.mk (z := .int .u32 0) (by kernel_rfl) rfl
theorem sz_29 : (Tryd.prog.info? 29).map (·.size) = some 1 := by kernel_rfl
theorem by_29 : (Tryd.prog.info? 29).map (·.bytes) = some 4 := by kernel_rfl
theorem one_29 : One Tryd.prog 29 := One.mk Tryd.underlying29 rfl sz_29
theorem zero_29 : Zero Tryd.prog 29 [.int .u32 0] := Zero.mk (z := .int .u32 0) (by kernel_rfl) rfl
theorem sz_30 : (Tryd.prog.info? 30).map (·.size) = some 19 := by kernel_rfl
theorem by_30 : (Tryd.prog.info? 30).map (·.bytes) = some 64 := by kernel_rfl
theorem many_30 : Many Tryd.prog 30 19 := Many.mk Tryd.underlying30 rfl sz_30
theorem zero_30 : Zero Tryd.prog 30 [.int .i64 0, .int .u8 0, .int .u8 0, .int .u8 0, .int .u8 0, .int .u8 0, .int .u8 0, .int .u8 0, .int .u8 0, .int .u8 0, .int .u8 0, .int .u8 0, .int .u8 0, .int .i64 0, .int .u32 0, .int .u32 0, .int .i64 0, .int .i64 0, .int .i64 0] := Zero.mk (z := .agg #[.int .i64 0, .int .u8 0, .int .u8 0, .int .u8 0, .int .u8 0, .int .u8 0, .int .u8 0, .int .u8 0, .int .u8 0, .int .u8 0, .int .u8 0, .int .u8 0, .int .u8 0, .int .i64 0, .int .u32 0, .int .u32 0, .int .i64 0, .int .i64 0, .int .i64 0]) (by kernel_rfl) rfl
theorem sz_31 : (Tryd.prog.info? 31).map (·.size) = some 19 := by kernel_rfl
theorem by_31 : (Tryd.prog.info? 31).map (·.bytes) = some 64 := by kernel_rfl
theorem many_31 : Many Tryd.prog 31 19 := Many.mk Tryd.underlying31 rfl sz_31
theorem zero_31 : Zero Tryd.prog 31 [.int .i64 0, .int .u8 0, .int .u8 0, .int .u8 0, .int .u8 0, .int .u8 0, .int .u8 0, .int .u8 0, .int .u8 0, .int .u8 0, .int .u8 0, .int .u8 0, .int .u8 0, .int .i64 0, .int .u32 0, .int .u32 0, .int .i64 0, .int .i64 0, .int .i64 0] := Zero.mk (z := .agg #[.int .i64 0, .int .u8 0, .int .u8 0, .int .u8 0, .int .u8 0, .int .u8 0, .int .u8 0, .int .u8 0, .int .u8 0, .int .u8 0, .int .u8 0, .int .u8 0, .int .u8 0, .int .i64 0, .int .u32 0, .int .u32 0, .int .i64 0, .int .i64 0, .int .i64 0]) (by kernel_rfl) rfl
theorem sz_32 : (Tryd.prog.info? 32).map (·.size) = some 1 := by kernel_rfl
theorem by_32 : (Tryd.prog.info? 32).map (·.bytes) = some 8 := by kernel_rfl
theorem one_32 : One Tryd.prog 32 := One.mk Tryd.underlying32 rfl sz_32
theorem zero_32 : Zero Tryd.prog 32 [.nilFunc] := Zero.mk (z := .nilFunc) (by kernel_rfl) rfl
theorem sz_33 : (Tryd.prog.info? 33).map (·.size) = some 1 := by kernel_rfl
theorem by_33 : (Tryd.prog.info? 33).map (·.bytes) = some 8 := by kernel_rfl
theorem one_33 : One Tryd.prog 33 := One.mk Tryd.underlying33 rfl sz_33
theorem zero_33 : Zero Tryd.prog 33 [.int .i64 0] := Zero.mk (z := .int .i64 0) (by kernel_rfl) rfl
theorem sz_34 : (Tryd.prog.info? 34).map (·.size) = some 1 := by kernel_rfl
theorem by_34 : (Tryd.prog.info? 34).map (·.bytes) = some 8 := by kernel_rfl
theorem one_34 : One Tryd.prog 34 := One.mk Tryd.underlying34 rfl sz_34
theorem zero_34 : Zero Tryd.prog 34 [.nilFunc] := Zero.mk (z := .nilFunc) (by kernel_rfl) rfl
theorem sz_35 : (Tryd.prog.info? 35).map (·.size) = some 1 := by kernel_rfl
theorem by_35 : (Tryd.prog.info? 35).map (·.bytes) = some 8 := by kernel_rfl
theorem one_35 : One Tryd.prog 35 := One.mk Tryd.underlying35 rfl sz_35
theorem zero_35 : Zero Tryd.prog 35 [.nilFunc] := Zero.mk (z := .nilFunc) (by kernel_rfl) rfl
theorem sz_36 : (Tryd.prog.info? 36).map (·.size) = some 1 := by kernel_rfl
theorem by_36 : (Tryd.prog.info? 36).map (·.bytes) = some 8 := by kernel_rfl
theorem one_36 : One Tryd.prog 36 := One.mk Tryd.underlying36 rfl sz_36
theorem zero_36 : Zero Tryd.prog 36 [.nilFunc] := Zero.mk (z := .nilFunc) (by kernel_rfl) rfl
theorem sz_37 : (Tryd.prog.info? 37).map (·.size) = some 1 := by kernel_rfl
theorem by_37 : (Tryd.prog.info? 37).map (·.bytes) = some 8 := by kernel_rfl
theorem one_37 : One Tryd.prog 37 := One.mk Tryd.underlying37 rfl sz_37
theorem zero_37 : Zero Tryd.prog 37 [.int .i64 0] := Zero.mk (z := .int .i64 0) (by kernel_rfl) rfl
theorem sz_38 : (Tryd.prog.info? 38).map (·.size) = some 1 := by kernel_rfl
theorem by_38 : (Tryd.prog.info? 38).map (·.bytes) = some 8 := by kernel_rfl
theorem one_38 : One Tryd.prog 38 := One.mk Tryd.underlying38 rfl sz_38
theorem zero_38 : Zero Tryd.prog 38 [.nilFunc] := Zero.mk (z := .nilFunc) (by kernel_rfl) rfl
theorem sz_39 : (Tryd.prog.info? 39).map (·.size) = some 1 := by kernel_rfl
theorem by_39 : (Tryd.prog.info? 39).map (·.bytes) = some 8 := by kernel_rfl
theorem one_39 : One Tryd.prog 39 := One.mk Tryd.underlying39 rfl sz_39
theorem zero_39 : Zero Tryd.prog 39 [.int .u64 0] := Zero.mk (z := .int .u64 0) (by kernel_rfl) rfl
theorem sz_40 : (Tryd.prog.info? 40).map (·.size) = some 1 := by kernel_rfl
theorem by_40 : (Tryd.prog.info? 40).map (·.bytes) = some 8 := by kernel_rfl
theorem one_40 : One Tryd.prog 40 := One.mk Tryd.underlying40 rfl sz_40
theorem zero_40 : Zero Tryd.prog 40 [.nilFunc] := Zero.mk (z := .nilFunc) (by kernel_rfl) rfl
theorem sz_41 : (Tryd.prog.info? 41).map (·.size) = some 1 := by kernel_rfl
theorem by_41 : (Tryd.prog.info? 41).map (·.bytes) = some 8 := by kernel_rfl
theorem one_41 : One Tryd.prog 41 := One.mk Tryd.underlying41 rfl sz_41
theorem zero_41 : Zero Tryd.prog 41 [.nilFunc] := Zero.mk (z := .nilFunc) (by kernel_rfl) rfl
theorem sz_42 : (Tryd.prog.info? 42).map (·.size) = some 1 := by kernel_rfl
theorem by_42 : (Tryd.prog.info? 42).map (·.bytes) = some 8 := by kernel_rfl
theorem one_42 : One Tryd.prog 42 := One.mk Tryd.underlying42 rfl sz_42
theorem zero_42 : Zero Tryd.prog 42 [.nilFunc] := Zero.mk (z := .nilFunc) (by kernel_rfl) rfl
theorem sz_43 : (Tryd.prog.info? 43).map (·.size) = some 1 := by kernel_rfl
theorem by_43 : (Tryd.prog.info? 43).map (·.bytes) = some 24 := by kernel_rfl
theorem one_43 : One Tryd.prog 43 := One.mk Tryd.underlying43 rfl sz_43
theorem zero_43 : Zero Tryd.prog 43 [.slice none 0 0] := Zero.mk (z := .slice none 0 0) (by kernel_rfl) rfl
theorem sz_44 : (Tryd.prog.info? 44).map (·.size) = some 5 := by kernel_rfl
theorem by_44 : (Tryd.prog.info? 44).map (·.bytes) = some 56 := by kernel_rfl
theorem many_44 : Many Tryd.prog 44 5 := Many.mk Tryd.underlying44 rfl sz_44
theorem zero_44 : Zero Tryd.prog 44 [.int .i64 0, .int .i64 0, .int .u64 0, .int .u64 0, .slice none 0 0] := Zero.mk (z := .agg #[.int .i64 0, .int .i64 0, .int .u64 0, .int .u64 0, .slice none 0 0]) (by kernel_rfl) rfl
theorem sz_45 : (Tryd.prog.info? 45).map (·.size) = some 5 := by kernel_rfl
theorem by_45 : (Tryd.prog.info? 45).map (·.bytes) = some 56 := by kernel_rfl
theorem many_45 : Many Tryd.prog 45 5 := Many.mk Tryd.underlying45 rfl sz_45
theorem zero_45 : Zero Tryd.prog 45 [.int .i64 0, .int .i64 0, .int .u64 0, .int .u64 0, .slice none 0 0] := Zero.mk (z := .agg #[.int .i64 0, .int .i64 0, .int .u64 0, .int .u64 0, .slice none 0 0]) (by kernel_rfl) rfl
theorem sz_46 : (Tryd.prog.info? 46).map (·.size) = some 1 := by kernel_rfl
theorem by_46 : (Tryd.prog.info? 46).map (·.bytes) = some 8 := by kernel_rfl
theorem one_46 : One Tryd.prog 46 := One.mk Tryd.underlying46 rfl sz_46
theorem zero_46 : Zero Tryd.prog 46 [.nilFunc] := Zero.mk (z := .nilFunc) (by kernel_rfl) rfl
theorem sz_47 : (Tryd.prog.info? 47).map (·.size) = some 1 := by kernel_rfl
theorem by_47 : (Tryd.prog.info? 47).map (·.bytes) = some 24 := by kernel_rfl
theorem one_47 : One Tryd.prog 47 := One.mk Tryd.underlying47 rfl sz_47
theorem zero_47 : Zero Tryd.prog 47 [.slice none 0 0] := Zero.mk (z := .slice none 0 0) (by kernel_rfl) rfl
theorem sz_49 : (Tryd.prog.info? 49).map (·.size) = some 1 := by kernel_rfl
theorem by_49 : (Tryd.prog.info? 49).map (·.bytes) = some 8 := by kernel_rfl
theorem one_49 : One Tryd.prog 49 := One.mk Tryd.underlying49 rfl sz_49
theorem zero_49 : Zero Tryd.prog 49 [.nilFunc] := Zero.mk (z := .nilFunc) (by kernel_rfl) rfl
theorem sz_50 : (Tryd.prog.info? 50).map (·.size) = some 1 := by kernel_rfl
theorem by_50 : (Tryd.prog.info? 50).map (·.bytes) = some 24 := by kernel_rfl
theorem one_50 : One Tryd.prog 50 := One.mk Tryd.underlying50 rfl sz_50
theorem zero_50 : Zero Tryd.prog 50 [.slice none 0 0] := Zero.mk (z := .slice none 0 0) (by kernel_rfl) rfl
theorem sz_51 : (Tryd.prog.info? 51).map (·.size) = some 5 := by kernel_rfl
theorem by_51 : (Tryd.prog.info? 51).map (·.bytes) = some 56 := by kernel_rfl
theorem many_51 : Many Tryd.prog 51 5 := Many.mk Tryd.underlying51 rfl sz_51
theorem zero_51 : Zero Tryd.prog 51 [.int .i64 0, .int .i64 0, .int .u64 0, .int .u64 0, .slice none 0 0] := Zero.mk (z := .agg #[.int .i64 0, .int .i64 0, .int .u64 0, .int .u64 0, .slice none 0 0]) (by kernel_rfl) rfl
theorem sz_52 : (Tryd.prog.info? 52).map (·.size) = some 5 := by kernel_rfl
theorem by_52 : (Tryd.prog.info? 52).map (·.bytes) = some 56 := by kernel_rfl
theorem many_52 : Many Tryd.prog 52 5 := Many.mk Tryd.underlying52 rfl sz_52
theorem zero_52 : Zero Tryd.prog 52 [.int .i64 0, .int .i64 0, .int .u64 0, .int .u64 0, .slice none 0 0] := Zero.mk (z := .agg #[.int .i64 0, .int .i64 0, .int .u64 0, .int .u64 0, .slice none 0 0]) (by kernel_rfl) rfl
theorem sz_53 : (Tryd.prog.info? 53).map (·.size) = some 1 := by kernel_rfl
theorem by_53 : (Tryd.prog.info? 53).map (·.bytes) = some 8 := by kernel_rfl
theorem one_53 : One Tryd.prog 53 := One.mk Tryd.underlying53 rfl sz_53
theorem zero_53 : Zero Tryd.prog 53 [.nilFunc] := Zero.mk (z := .nilFunc) (by kernel_rfl) rfl
theorem sz_55 : (Tryd.prog.info? 55).map (·.size) = some 1 := by kernel_rfl
theorem by_55 : (Tryd.prog.info? 55).map (·.bytes) = some 8 := by kernel_rfl
theorem one_55 : One Tryd.prog 55 := One.mk Tryd.underlying55 rfl sz_55
theorem zero_55 : Zero Tryd.prog 55 [.nilFunc] := Zero.mk (z := .nilFunc) (by kernel_rfl) rfl
theorem sz_56 : (Tryd.prog.info? 56).map (·.size) = some 1 := by kernel_rfl
theorem by_56 : (Tryd.prog.info? 56).map (·.bytes) = some 24 := by kernel_rfl
theorem one_56 : One Tryd.prog 56 := One.mk Tryd.underlying56 rfl sz_56
theorem zero_56 : Zero Tryd.prog 56 [.slice none 0 0] := Zero.mk (z := .slice none 0 0) (by kernel_rfl) rfl
theorem sz_58 : (Tryd.prog.info? 58).map (·.size) = some 1 := by kernel_rfl
theorem by_58 : (Tryd.prog.info? 58).map (·.bytes) = some 8 := by kernel_rfl
theorem one_58 : One Tryd.prog 58 := One.mk Tryd.underlying58 rfl sz_58
theorem zero_58 : Zero Tryd.prog 58 [.nilFunc] := Zero.mk (z := .nilFunc) (by kernel_rfl) rfl
theorem sz_59 : (Tryd.prog.info? 59).map (·.size) = some 9 := by kernel_rfl
theorem by_59 : (Tryd.prog.info? 59).map (·.bytes) = some 72 := by kernel_rfl
theorem many_59 : Many Tryd.prog 59 9 := Many.mk Tryd.underlying59 rfl sz_59
theorem zero_59 : Zero Tryd.prog 59 [.int .u64 0, .int .u64 0, .int .u64 0, .int .u64 0, .int .u64 0, .int .u64 0, .int .u64 0, .int .u64 0, .int .u64 0] := Zero.mk (z := .agg #[.int .u64 0, .int .u64 0, .int .u64 0, .int .u64 0, .int .u64 0, .int .u64 0, .int .u64 0, .int .u64 0, .int .u64 0]) (by kernel_rfl) rfl
theorem sz_60 : (Tryd.prog.info? 60).map (·.size) = some 1 := by kernel_rfl
theorem by_60 : (Tryd.prog.info? 60).map (·.bytes) = some 8 := by kernel_rfl
theorem one_60 : One Tryd.prog 60 := One.mk Tryd.underlying60 rfl sz_60
theorem zero_60 : Zero Tryd.prog 60 [.nilFunc] := Zero.mk (z := .nilFunc) (by kernel_rfl) rfl
theorem sz_61 : (Tryd.prog.info? 61).map (·.size) = some 1 := by kernel_rfl
theorem by_61 : (Tryd.prog.info? 61).map (·.bytes) = some 8 := by kernel_rfl
theorem one_61 : One Tryd.prog 61 := One.mk Tryd.underlying61 rfl sz_61
theorem zero_61 : Zero Tryd.prog 61 [.nilFunc] := Zero.mk (z := .nilFunc) (by kernel_rfl) rfl
theorem sz_62 : (Tryd.prog.info? 62).map (·.size) = some 1 := by kernel_rfl
theorem by_62 : (Tryd.prog.info? 62).map (·.bytes) = some 8 := by kernel_rfl
theorem one_62 : One Tryd.prog 62 := One.mk Tryd.underlying62 rfl sz_62
theorem zero_62 : Zero Tryd.prog 62 [.nilFunc] := Zero.mk (z := .nilFunc) (by kernel_rfl) rfl
theorem sz_63 : (Tryd.prog.info? 63).map (·.size) = some 1 := by kernel_rfl
theorem by_63 : (Tryd.prog.info? 63).map (·.bytes) = some 8 := by kernel_rfl
theorem one_63 : One Tryd.prog 63 := One.mk Tryd.underlying63 rfl sz_63
theorem zero_63 : Zero Tryd.prog 63 [.nilFunc] := Zero.mk (z := .nilFunc) (by kernel_rfl) rfl
theorem sz_64 : (Tryd.prog.info? 64).map (·.size) = some 10 := by kernel_rfl
theorem by_64 : (Tryd.prog.info? 64).map (·.bytes) = some 112 := by kernel_rfl
theorem many_64 : Many Tryd.prog 64 10 := Many.mk Tryd.underlying64 rfl sz_64
theorem zero_64 : Zero Tryd.prog 64 [.int .i64 0, .int .i64 0, .int .u64 0, .int .u64 0, .slice none 0 0, .int .i64 0, .int .i64 0, .int .u64 0, .int .u64 0, .slice none 0 0] := Zero.mk (z := .agg #[.int .i64 0, .int .i64 0, .int .u64 0, .int .u64 0, .slice none 0 0, .int .i64 0, .int .i64 0, .int .u64 0, .int .u64 0, .slice none 0 0]) (by kernel_rfl) rfl
theorem sz_65 : (Tryd.prog.info? 65).map (·.size) = some 1 := by kernel_rfl
theorem by_65 : (Tryd.prog.info? 65).map (·.bytes) = some 24 := by kernel_rfl
theorem one_65 : One Tryd.prog 65 := One.mk Tryd.underlying65 rfl sz_65
theorem zero_65 : Zero Tryd.prog 65 [.slice none 0 0] := Zero.mk (z := .slice none 0 0) (by kernel_rfl) rfl
theorem sz_66 : (Tryd.prog.info? 66).map (·.size) = some 1 := by kernel_rfl
theorem by_66 : (Tryd.prog.info? 66).map (·.bytes) = some 8 := by kernel_rfl
theorem one_66 : One Tryd.prog 66 := One.mk Tryd.underlying66 rfl sz_66
theorem zero_66 : Zero Tryd.prog 66 [.nilFunc] := Zero.mk (z := .nilFunc) (by kernel_rfl) rfl
theorem sz_68 : (Tryd.prog.info? 68).map (·.size) = some 1 := by kernel_rfl
theorem by_68 : (Tryd.prog.info? 68).map (·.bytes) = some 8 := by kernel_rfl
theorem one_68 : One Tryd.prog 68 := One.mk Tryd.underlying68 rfl sz_68
theorem zero_68 : Zero Tryd.prog 68 [.nilFunc] := Zero.mk (z := .nilFunc) (by kernel_rfl) rfl
theorem sz_69 : (Tryd.prog.info? 69).map (·.size) = some 1 := by kernel_rfl
theorem by_69 : (Tryd.prog.info? 69).map (·.bytes) = some 8 := by kernel_rfl
theorem one_69 : One Tryd.prog 69 := One.mk Tryd.underlying69 rfl sz_69
theorem zero_69 : Zero Tryd.prog 69 [.nilFunc] := Zero.mk (z := .nilFunc) (by kernel_rfl) rfl
theorem sz_70 : (Tryd.prog.info? 70).map (·.size) = some 1 := by kernel_rfl
theorem by_70 : (Tryd.prog.info? 70).map (·.bytes) = some 8 := by kernel_rfl
theorem one_70 : One Tryd.prog 70 := One.mk Tryd.underlying70 rfl sz_70
theorem zero_70 : Zero Tryd.prog 70 [.nilFunc] := Zero.mk (z := .nilFunc) (by kernel_rfl) rfl
theorem sz_71 : (Tryd.prog.info? 71).map (·.size) = some 1 := by kernel_rfl
theorem by_71 : (Tryd.prog.info? 71).map (·.bytes) = some 8 := by kernel_rfl
theorem one_71 : One Tryd.prog 71 := One.mk Tryd.underlying71 rfl sz_71
theorem zero_71 : Zero Tryd.prog 71 [.nilFunc] := Zero.mk (z := .nilFunc) (by kernel_rfl) rfl
theorem sz_72 : (Tryd.prog.info? 72).map (·.size) = some 1 := by kernel_rfl
theorem by_72 : (Tryd.prog.info? 72).map (·.bytes) = some 8 := by kernel_rfl
theorem one_72 : One Tryd.prog 72 := One.mk Tryd.underlying72 rfl sz_72
theorem zero_72 : Zero Tryd.prog 72 [.nilFunc] := Zero.mk (z := .nilFunc) (by kernel_rfl) rfl
theorem sz_73 : (Tryd.prog.info? 73).map (·.size) = some 1 := by kernel_rfl
theorem by_73 : (Tryd.prog.info? 73).map (·.bytes) = some 8 := by kernel_rfl
theorem one_73 : One Tryd.prog 73 := One.mk Tryd.underlying73 rfl sz_73
theorem zero_73 : Zero Tryd.prog 73 [.nilFunc] := Zero.mk (z := .nilFunc) (by kernel_rfl) rfl
theorem sz_74 : (Tryd.prog.info? 74).map (·.size) = some 1 := by kernel_rfl
theorem by_74 : (Tryd.prog.info? 74).map (·.bytes) = some 8 := by kernel_rfl
theorem one_74 : One Tryd.prog 74 := One.mk Tryd.underlying74 rfl sz_74
theorem zero_74 : Zero Tryd.prog 74 [.nilFunc] := Zero.mk (z := .nilFunc) (by kernel_rfl) rfl
theorem sz_75 : (Tryd.prog.info? 75).map (·.size) = some 1 := by kernel_rfl
theorem by_75 : (Tryd.prog.info? 75).map (·.bytes) = some 24 := by kernel_rfl
theorem one_75 : One Tryd.prog 75 := One.mk Tryd.underlying75 rfl sz_75
theorem zero_75 : Zero Tryd.prog 75 [.slice none 0 0] := Zero.mk (z := .slice none 0 0) (by kernel_rfl) rfl
theorem sz_76 : (Tryd.prog.info? 76).map (·.size) = some 1 := by kernel_rfl
theorem by_76 : (Tryd.prog.info? 76).map (·.bytes) = some 8 := by kernel_rfl
theorem one_76 : One Tryd.prog 76 := One.mk Tryd.underlying76 rfl sz_76
theorem zero_76 : Zero Tryd.prog 76 [.nilFunc] := Zero.mk (z := .nilFunc) (by kernel_rfl) rfl
theorem sz_77 : (Tryd.prog.info? 77).map (·.size) = some 1 := by kernel_rfl
theorem by_77 : (Tryd.prog.info? 77).map (·.bytes) = some 24 := by kernel_rfl
theorem one_77 : One Tryd.prog 77 := One.mk Tryd.underlying77 rfl sz_77
theorem zero_77 : Zero Tryd.prog 77 [.slice none 0 0] := Zero.mk (z := .slice none 0 0) (by kernel_rfl) rfl
theorem sz_78 : (Tryd.prog.info? 78).map (·.size) = some 22 := by kernel_rfl
theorem by_78 : (Tryd.prog.info? 78).map (·.bytes) = some 120 := by kernel_rfl
theorem many_78 : Many Tryd.prog 78 22 := Many.mk Tryd.underlying78 rfl sz_78
theorem zero_78 : Zero Tryd.prog 78 [.int .i64 0, .slice none 0 0, .slice none 0 0, .int .i64 0, .int .u8 0, .int .u8 0, .int .u8 0, .int .u8 0, .int .u8 0, .int .u8 0, .int .u8 0, .int .u8 0, .int .u8 0, .int .u8 0, .int .u8 0, .int .u8 0, .int .i64 0, .int .u32 0, .int .u32 0, .int .i64 0, .int .i64 0, .int .i64 0] := Zero.mk (z := .agg #[.int .i64 0, .slice none 0 0, .slice none 0 0, .int .i64 0, .int .u8 0, .int .u8 0, .int .u8 0, .int .u8 0, .int .u8 0, .int .u8 0, .int .u8 0, .int .u8 0, .int .u8 0, .int .u8 0, .int .u8 0, .int .u8 0, .int .i64 0, .int .u32 0, .int .u32 0, .int .i64 0, .int .i64 0, .int .i64 0]) (by kernel_rfl) rfl
theorem sz_79 : (Tryd.prog.info? 79).map (·.size) = some 22 := by kernel_rfl
theorem by_79 : (Tryd.prog.info? 79).map (·.bytes) = some 120 := by kernel_rfl
theorem many_79 : Many Tryd.prog 79 22 := Many.mk Tryd.underlying79 rfl sz_79
theorem zero_79 : Zero Tryd.prog 79 [.int .i64 0, .slice none 0 0, .slice none 0 0, .int .i64 0, .int .u8 0, .int .u8 0, .int .u8 0, .int .u8 0, .int .u8 0, .int .u8 0, .int .u8 0, .int .u8 0, .int .u8 0, .int .u8 0, .int .u8 0, .int .u8 0, .int .i64 0, .int .u32 0, .int .u32 0, .int .i64 0, .int .i64 0, .int .i64 0] := Zero.mk (z := .agg #[.int .i64 0, .slice none 0 0, .slice none 0 0, .int .i64 0, .int .u8 0, .int .u8 0, .int .u8 0, .int .u8 0, .int .u8 0, .int .u8 0, .int .u8 0, .int .u8 0, .int .u8 0, .int .u8 0, .int .u8 0, .int .u8 0, .int .i64 0, .int .u32 0, .int .u32 0, .int .i64 0, .int .i64 0, .int .i64 0]) (by kernel_rfl) rfl
theorem sz_80 : (Tryd.prog.info? 80).map (·.size) = some 1 := by kernel_rfl
theorem by_80 : (Tryd.prog.info? 80).map (·.bytes) = some 8 := by kernel_rfl
theorem one_80 : One Tryd.prog 80 := One.mk Tryd.underlying80 rfl sz_80
theorem zero_80 : Zero Tryd.prog 80 [.pointer none] := Zero.mk (z := .pointer none) (by kernel_rfl) rfl
theorem sz_82 : (Tryd.prog.info? 82).map (·.size) = some 1 := by kernel_rfl
theorem by_82 : (Tryd.prog.info? 82).map (·.bytes) = some 8 := by kernel_rfl
theorem one_82 : One Tryd.prog 82 := One.mk Tryd.underlying82 rfl sz_82
theorem zero_82 : Zero Tryd.prog 82 [.nilFunc] := Zero.mk (z := .nilFunc) (by kernel_rfl) rfl
theorem sz_83 : (Tryd.prog.info? 83).map (·.size) = some 1 := by kernel_rfl
theorem by_83 : (Tryd.prog.info? 83).map (·.bytes) = some 8 := by kernel_rfl
theorem one_83 : One Tryd.prog 83 := One.mk Tryd.underlying83 rfl sz_83
theorem zero_83 : Zero Tryd.prog 83 [.nilFunc] := Zero.mk (z := .nilFunc) (by kernel_rfl) rfl
theorem sz_84 : (Tryd.prog.info? 84).map (·.size) = some 1 := by kernel_rfl
theorem by_84 : (Tryd.prog.info? 84).map (·.bytes) = some 8 := by kernel_rfl
theorem one_84 : One Tryd.prog 84 := One.mk Tryd.underlying84 rfl sz_84
theorem zero_84 : Zero Tryd.prog 84 [.nilFunc] := Zero.mk (z := .nilFunc) (by kernel_rfl) rfl
theorem sz_85 : (Tryd.prog.info? 85).map (·.size) = some 18 := by kernel_rfl
theorem by_85 : (Tryd.prog.info? 85).map (·.bytes) = some 144 := by kernel_rfl
theorem many_85 : Many Tryd.prog 85 18 := Many.mk Tryd.underlying85 rfl sz_85
theorem zero_85 : Zero Tryd.prog 85 [.int .u64 0, .int .u64 0, .int .u64 0, .int .u64 0, .int .u64 0, .int .u64 0, .int .u64 0, .int .u64 0, .int .u64 0, .int .u64 0, .int .u64 0, .int .u64 0, .int .u64 0, .int .u64 0, .int .u64 0, .int .u64 0, .int .u64 0, .int .u64 0] := Zero.mk (z := .agg #[.int .u64 0, .int .u64 0, .int .u64 0, .int .u64 0, .int .u64 0, .int .u64 0, .int .u64 0, .int .u64 0, .int .u64 0, .int .u64 0, .int .u64 0, .int .u64 0, .int .u64 0, .int .u64 0, .int .u64 0, .int .u64 0, .int .u64 0, .int .u64 0]) (by kernel_rfl) rfl
theorem sz_86 : (Tryd.prog.info? 86).map (·.size) = some 18 := by kernel_rfl
theorem by_86 : (Tryd.prog.info? 86).map (·.bytes) = some 144 := by kernel_rfl
theorem many_86 : Many Tryd.prog 86 18 := Many.mk Tryd.underlying86 rfl sz_86
theorem zero_86 : Zero Tryd.prog 86 [.int .u64 0, .int .u64 0, .int .u64 0, .int .u64 0, .int .u64 0, .int .u64 0, .int .u64 0, .int .u64 0, .int .u64 0, .int .u64 0, .int .u64 0, .int .u64 0, .int .u64 0, .int .u64 0, .int .u64 0, .int .u64 0, .int .u64 0, .int .u64 0] := Zero.mk (z := .agg #[.int .u64 0, .int .u64 0, .int .u64 0, .int .u64 0, .int .u64 0, .int .u64 0, .int .u64 0, .int .u64 0, .int .u64 0, .int .u64 0, .int .u64 0, .int .u64 0, .int .u64 0, .int .u64 0, .int .u64 0, .int .u64 0, .int .u64 0, .int .u64 0]) (by kernel_rfl) rfl
theorem sz_87 : (Tryd.prog.info? 87).map (·.size) = some 1 := by kernel_rfl
theorem by_87 : (Tryd.prog.info? 87).map (·.bytes) = some 24 := by kernel_rfl
theorem one_87 : One Tryd.prog 87 := One.mk Tryd.underlying87 rfl sz_87
theorem zero_87 : Zero Tryd.prog 87 [.slice none 0 0] := Zero.mk (z := .slice none 0 0) (by kernel_rfl) rfl
theorem sz_88 : (Tryd.prog.info? 88).map (·.size) = some 19 := by kernel_rfl
theorem by_88 : (Tryd.prog.info? 88).map (·.bytes) = some 168 := by kernel_rfl
theorem many_88 : Many Tryd.prog 88 19 := Many.mk Tryd.underlying88 rfl sz_88
theorem zero_88 : Zero Tryd.prog 88 [.int .u64 0, .int .u64 0, .int .u64 0, .int .u64 0, .int .u64 0, .int .u64 0, .int .u64 0, .int .u64 0, .int .u64 0, .int .u64 0, .int .u64 0, .int .u64 0, .int .u64 0, .int .u64 0, .int .u64 0, .int .u64 0, .int .u64 0, .int .u64 0, .slice none 0 0] := Zero.mk (z := .agg #[.int .u64 0, .int .u64 0, .int .u64 0, .int .u64 0, .int .u64 0, .int .u64 0, .int .u64 0, .int .u64 0, .int .u64 0, .int .u64 0, .int .u64 0, .int .u64 0, .int .u64 0, .int .u64 0, .int .u64 0, .int .u64 0, .int .u64 0, .int .u64 0, .slice none 0 0]) (by kernel_rfl) rfl
theorem sz_89 : (Tryd.prog.info? 89).map (·.size) = some 19 := by kernel_rfl
theorem by_89 : (Tryd.prog.info? 89).map (·.bytes) = some 168 := by kernel_rfl
theorem many_89 : Many Tryd.prog 89 19 := Many.mk Tryd.underlying89 rfl sz_89
theorem zero_89 : Zero Tryd.prog 89 [.int .u64 0, .int .u64 0, .int .u64 0, .int .u64 0, .int .u64 0, .int .u64 0, .int .u64 0, .int .u64 0, .int .u64 0, .int .u64 0, .int .u64 0, .int .u64 0, .int .u64 0, .int .u64 0, .int .u64 0, .int .u64 0, .int .u64 0, .int .u64 0, .slice none 0 0] := Zero.mk (z := .agg #[.int .u64 0, .int .u64 0, .int .u64 0, .int .u64 0, .int .u64 0, .int .u64 0, .int .u64 0, .int .u64 0, .int .u64 0, .int .u64 0, .int .u64 0, .int .u64 0, .int .u64 0, .int .u64 0, .int .u64 0, .int .u64 0, .int .u64 0, .int .u64 0, .slice none 0 0]) (by kernel_rfl) rfl
theorem sz_90 : (Tryd.prog.info? 90).map (·.size) = some 21 := by kernel_rfl
theorem by_90 : (Tryd.prog.info? 90).map (·.bytes) = some 184 := by kernel_rfl
theorem many_90 : Many Tryd.prog 90 21 := Many.mk Tryd.underlying90 rfl sz_90
theorem zero_90 : Zero Tryd.prog 90 [.int .i64 0, .int .i64 0, .int .u64 0, .int .u64 0, .int .u64 0, .int .u64 0, .int .u64 0, .int .u64 0, .int .u64 0, .int .u64 0, .int .u64 0, .int .u64 0, .int .u64 0, .int .u64 0, .int .u64 0, .int .u64 0, .int .u64 0, .int .u64 0, .int .u64 0, .int .u64 0, .slice none 0 0] := Zero.mk (z := .agg #[.int .i64 0, .int .i64 0, .int .u64 0, .int .u64 0, .int .u64 0, .int .u64 0, .int .u64 0, .int .u64 0, .int .u64 0, .int .u64 0, .int .u64 0, .int .u64 0, .int .u64 0, .int .u64 0, .int .u64 0, .int .u64 0, .int .u64 0, .int .u64 0, .int .u64 0, .int .u64 0, .slice none 0 0]) (by kernel_rfl) rfl
theorem sz_91 : (Tryd.prog.info? 91).map (·.size) = some 21 := by kernel_rfl
theorem by_91 : (Tryd.prog.info? 91).map (·.bytes) = some 184 := by kernel_rfl
theorem many_91 : Many Tryd.prog 91 21 := Many.mk Tryd.underlying91 rfl sz_91
theorem zero_91 : Zero Tryd.prog 91 [.int .i64 0, .int .i64 0, .int .u64 0, .int .u64 0, .int .u64 0, .int .u64 0, .int .u64 0, .int .u64 0, .int .u64 0, .int .u64 0, .int .u64 0, .int .u64 0, .int .u64 0, .int .u64 0, .int .u64 0, .int .u64 0, .int .u64 0, .int .u64 0, .int .u64 0, .int .u64 0, .slice none 0 0] := Zero.mk (z := .agg #[.int .i64 0, .int .i64 0, .int .u64 0, .int .u64 0, .int .u64 0, .int .u64 0, .int .u64 0, .int .u64 0, .int .u64 0, .int .u64 0, .int .u64 0, .int .u64 0, .int .u64 0, .int .u64 0, .int .u64 0, .int .u64 0, .int .u64 0, .int .u64 0, .int .u64 0, .int .u64 0, .slice none 0 0]) (by kernel_rfl) rfl
theorem sz_93 : (Tryd.prog.info? 93).map (·.size) = some 1 := by kernel_rfl
theorem by_93 : (Tryd.prog.info? 93).map (·.bytes) = some 8 := by kernel_rfl
theorem one_93 : One Tryd.prog 93 := One.mk Tryd.underlying93 rfl sz_93
theorem zero_93 : Zero Tryd.prog 93 [.nilFunc] := Zero.mk (z := .nilFunc) (by kernel_rfl) rfl
theorem sz_94 : (Tryd.prog.info? 94).map (·.size) = some 1 := by kernel_rfl
theorem by_94 : (Tryd.prog.info? 94).map (·.bytes) = some 8 := by kernel_rfl
theorem one_94 : One Tryd.prog 94 := One.mk Tryd.underlying94 rfl sz_94
theorem zero_94 : Zero Tryd.prog 94 [.nilFunc] := Zero.mk (z := .nilFunc) (by kernel_rfl) rfl
theorem sz_95 : (Tryd.prog.info? 95).map (·.size) = some 1 := by kernel_rfl
theorem by_95 : (Tryd.prog.info? 95).map (·.bytes) = some 8 := by kernel_rfl
theorem one_95 : One Tryd.prog 95 := One.mk Tryd.underlying95 rfl sz_95
theorem zero_95 : Zero Tryd.prog 95 [.nilFunc] := Zero.mk (z := .nilFunc) (by kernel_rfl) rfl
theorem sz_96 : (Tryd.prog.info? 96).map (·.size) = some 1 := by kernel_rfl
theorem by_96 : (Tryd.prog.info? 96).map (·.bytes) = some 8 := by kernel_rfl
theorem one_96 : One Tryd.prog 96 := One.mk Tryd.underlying96 rfl sz_96
theorem zero_96 : Zero Tryd.prog 96 [.nilFunc] := Zero.mk (z := .nilFunc) (by kernel_rfl) rfl
theorem sz_97 : (Tryd.prog.info? 97).map (·.size) = some 1 := by kernel_rfl
theorem by_97 : (Tryd.prog.info? 97).map (·.bytes) = some 8 := by kernel_rfl
theorem one_97 : One Tryd.prog 97 := One.mk Tryd.underlying97 rfl sz_97
theorem zero_97 : Zero Tryd.prog 97 [.nilFunc] := Zero.mk (z := .nilFunc) (by kernel_rfl) rfl
theorem sz_98 : (Tryd.prog.info? 98).map (·.size) = some 1 := by kernel_rfl
theorem by_98 : (Tryd.prog.info? 98).map (·.bytes) = some 8 := by kernel_rfl
theorem one_98 : One Tryd.prog 98 := One.mk Tryd.underlying98 rfl sz_98
theorem zero_98 : Zero Tryd.prog 98 [.nilFunc] := Zero.mk (z := .nilFunc) (by kernel_rfl) rfl
theorem sz_100 : (Tryd.prog.info? 100).map (·.size) = some 1 := by kernel_rfl
theorem by_100 : (Tryd.prog.info? 100).map (·.bytes) = some 8 := by kernel_rfl
theorem one_100 : One Tryd.prog 100 := One.mk Tryd.underlying100 rfl sz_100
theorem zero_100 : Zero Tryd.prog 100 [.nilFunc] := Zero.mk (z := .nilFunc) (by kernel_rfl) rfl
theorem sz_102 : (Tryd.prog.info? 102).map (·.size) = some 1 := by kernel_rfl
theorem by_102 : (Tryd.prog.info? 102).map (·.bytes) = some 8 := by kernel_rfl
theorem one_102 : One Tryd.prog 102 := One.mk Tryd.underlying102 rfl sz_102
theorem zero_102 : Zero Tryd.prog 102 [.nilFunc] := Zero.mk (z := .nilFunc) (by kernel_rfl) rfl
theorem sz_103 : (Tryd.prog.info? 103).map (·.size) = some 1 := by kernel_rfl
theorem by_103 : (Tryd.prog.info? 103).map (·.bytes) = some 24 := by kernel_rfl
theorem one_103 : One Tryd.prog 103 := One.mk Tryd.underlying103 rfl sz_103
theorem zero_103 : Zero Tryd.prog 103 [.slice none 0 0] := Zero.mk (z := .slice none 0 0) (by kernel_rfl) rfl
theorem sz_104 : (Tryd.prog.info? 104).map (·.size) = some 1 := by kernel_rfl
theorem by_104 : (Tryd.prog.info? 104).map (·.bytes) = some 24 := by kernel_rfl
theorem one_104 : One Tryd.prog 104 := One.mk Tryd.underlying104 rfl sz_104
theorem zero_104 : Zero Tryd.prog 104 [.slice none 0 0] := Zero.mk (z := .slice none 0 0) (by kernel_rfl) rfl
theorem sz_105 : (Tryd.prog.info? 105).map (·.size) = some 1 := by kernel_rfl
theorem by_105 : (Tryd.prog.info? 105).map (·.bytes) = some 8 := by kernel_rfl
theorem one_105 : One Tryd.prog 105 := One.mk Tryd.underlying105 rfl sz_105
theorem zero_105 : Zero Tryd.prog 105 [.nilFunc] := Zero.mk (z := .nilFunc) (by kernel_rfl) rfl
theorem sz_106 : (Tryd.prog.info? 106).map (·.size) = some 1 := by kernel_rfl
theorem by_106 : (Tryd.prog.info? 106).map (·.bytes) = some 8 := by kernel_rfl
theorem one_106 : One Tryd.prog 106 := One.mk Tryd.underlying106 rfl sz_106
theorem zero_106 : Zero Tryd.prog 106 [.nilFunc] := Zero.mk (z := .nilFunc) (by kernel_rfl) rfl
theorem sz_107 : (Tryd.prog.info? 107).map (·.size) = some 1 := by kernel_rfl
theorem by_107 : (Tryd.prog.info? 107).map (·.bytes) = some 8 := by kernel_rfl
theorem one_107 : One Tryd.prog 107 := One.mk Tryd.underlying107 rfl sz_107
theorem zero_107 : Zero Tryd.prog 107 [.nilFunc] := Zero.mk (z := .nilFunc) (by kernel_rfl) rfl
theorem sz_108 : (Tryd.prog.info? 108).map (·.size) = some 1 := by kernel_rfl
theorem by_108 : (Tryd.prog.info? 108).map (·.bytes) = some 8 := by kernel_rfl
theorem one_108 : One Tryd.prog 108 := One.mk Tryd.underlying108 rfl sz_108
theorem zero_108 : Zero Tryd.prog 108 [.nilFunc] := Zero.mk (z := .nilFunc) (by kernel_rfl) rfl
theorem sz_109 : (Tryd.prog.info? 109).map (·.size) = some 1 := by kernel_rfl
theorem by_109 : (Tryd.prog.info? 109).map (·.bytes) = some 8 := by kernel_rfl
theorem one_109 : One Tryd.prog 109 := One.mk Tryd.underlying109 rfl sz_109
theorem zero_109 : Zero Tryd.prog 109 [.nilFunc] := Zero.mk (z := .nilFunc) (by kernel_rfl) rfl
theorem sz_110 : (Tryd.prog.info? 110).map (·.size) = some 1 := by kernel_rfl
theorem by_110 : (Tryd.prog.info? 110).map (·.bytes) = some 8 := by kernel_rfl
theorem one_110 : One Tryd.prog 110 := One.mk Tryd.underlying110 rfl sz_110
theorem zero_110 : Zero Tryd.prog 110 [.nilFunc] := Zero.mk (z := .nilFunc) (by kernel_rfl) rfl
theorem sz_111 : (Tryd.prog.info? 111).map (·.size) = some 1 := by kernel_rfl
theorem by_111 : (Tryd.prog.info? 111).map (·.bytes) = some 24 := by kernel_rfl
theorem one_111 : One Tryd.prog 111 := One.mk Tryd.underlying111 rfl sz_111
theorem zero_111 : Zero Tryd.prog 111 [.slice none 0 0] := Zero.mk (z := .slice none 0 0) (by kernel_rfl) rfl
theorem sz_113 : (Tryd.prog.info? 113).map (·.size) = some 1 := by kernel_rfl
theorem by_113 : (Tryd.prog.info? 113).map (·.bytes) = some 8 := by kernel_rfl
theorem one_113 : One Tryd.prog 113 := One.mk Tryd.underlying113 rfl sz_113
theorem zero_113 : Zero Tryd.prog 113 [.nilFunc] := Zero.mk (z := .nilFunc) (by kernel_rfl) rfl
theorem sz_114 : (Tryd.prog.info? 114).map (·.size) = some 1 := by kernel_rfl
theorem by_114 : (Tryd.prog.info? 114).map (·.bytes) = some 8 := by kernel_rfl
theorem one_114 : One Tryd.prog 114 := One.mk Tryd.underlying114 rfl sz_114
theorem zero_114 : Zero Tryd.prog 114 [.nilFunc] := Zero.mk (z := .nilFunc) (by kernel_rfl) rfl
theorem sz_115 : (Tryd.prog.info? 115).map (·.size) = some 1 := by kernel_rfl
theorem by_115 : (Tryd.prog.info? 115).map (·.bytes) = some 8 := by kernel_rfl
theorem one_115 : One Tryd.prog 115 := One.mk Tryd.underlying115 rfl sz_115
theorem zero_115 : Zero Tryd.prog 115 [.nilFunc] := Zero.mk (z := .nilFunc) (by kernel_rfl) rfl
theorem sz_116 : (Tryd.prog.info? 116).map (·.size) = some 1 := by kernel_rfl
theorem by_116 : (Tryd.prog.info? 116).map (·.bytes) = some 8 := by kernel_rfl
theorem one_116 : One Tryd.prog 116 := One.mk Tryd.underlying116 rfl sz_116
theorem zero_116 : Zero Tryd.prog 116 [.nilFunc] := Zero.mk (z := .nilFunc) (by kernel_rfl) rfl
theorem sz_117 : (Tryd.prog.info? 117).map (·.size) = some 1 := by kernel_rfl
theorem by_117 : (Tryd.prog.info? 117).map (·.bytes) = some 8 := by kernel_rfl
theorem one_117 : One Tryd.prog 117 := One.mk Tryd.underlying117 rfl sz_117
theorem zero_117 : Zero Tryd.prog 117 [.nilFunc] := Zero.mk (z := .nilFunc) (by kernel_rfl) rfl
theorem sz_118 : (Tryd.prog.info? 118).map (·.size) = some 1 := by kernel_rfl
theorem by_118 : (Tryd.prog.info? 118).map (·.bytes) = some 8 := by kernel_rfl
theorem one_118 : One Tryd.prog 118 := One.mk Tryd.underlying118 rfl sz_118
theorem zero_118 : Zero Tryd.prog 118 [.nilFunc] := Zero.mk (z := .nilFunc) (by kernel_rfl) rfl
theorem sz_119 : (Tryd.prog.info? 119).map (·.size) = some 1 := by kernel_rfl
theorem by_119 : (Tryd.prog.info? 119).map (·.bytes) = some 8 := by kernel_rfl
theorem one_119 : One Tryd.prog 119 := One.mk Tryd.underlying119 rfl sz_119
theorem zero_119 : Zero Tryd.prog 119 [.nilFunc] := Zero.mk (z := .nilFunc) (by kernel_rfl) rfl
theorem sz_120 : (Tryd.prog.info? 120).map (·.size) = some 1 := by kernel_rfl
theorem by_120 : (Tryd.prog.info? 120).map (·.bytes) = some 8 := by kernel_rfl
theorem one_120 : One Tryd.prog 120 := One.mk Tryd.underlying120 rfl sz_120
theorem zero_120 : Zero Tryd.prog 120 [.nilFunc] := Zero.mk (z := .nilFunc) (by kernel_rfl) rfl
theorem sz_121 : (Tryd.prog.info? 121).map (·.size) = some 1 := by kernel_rfl
theorem by_121 : (Tryd.prog.info? 121).map (·.bytes) = some 8 := by kernel_rfl
theorem one_121 : One Tryd.prog 121 := One.mk Tryd.underlying121 rfl sz_121
theorem zero_121 : Zero Tryd.prog 121 [.nilFunc] := Zero.mk (z := .nilFunc) (by kernel_rfl) rfl
theorem sz_122 : (Tryd.prog.info? 122).map (·.size) = some 1 := by kernel_rfl
theorem by_122 : (Tryd.prog.info? 122).map (·.bytes) = some 8 := by kernel_rfl
theorem one_122 : One Tryd.prog 122 := One.mk Tryd.underlying122 rfl sz_122
theorem zero_122 : Zero Tryd.prog 122 [.nilFunc] := Zero.mk (z := .nilFunc) (by kernel_rfl) rfl
theorem sz_123 : (Tryd.prog.info? 123).map (·.size) = some 1 := by kernel_rfl
theorem by_123 : (Tryd.prog.info? 123).map (·.bytes) = some 8 := by kernel_rfl
theorem one_123 : One Tryd.prog 123 := One.mk Tryd.underlying123 rfl sz_123
theorem zero_123 : Zero Tryd.prog 123 [.nilFunc] := Zero.mk (z := .nilFunc) (by kernel_rfl) rfl
theorem sz_124 : (Tryd.prog.info? 124).map (·.size) = some 2 := by kernel_rfl
theorem by_124 : (Tryd.prog.info? 124).map (·.bytes) = some 32 := by kernel_rfl
theorem many_124 : Many Tryd.prog 124 2 := Many.mk Tryd.underlying124 rfl sz_124
theorem zero_124 : Zero Tryd.prog 124 [.int .i64 0, .slice none 0 0] := Zero.mk (z := .agg #[.int .i64 0, .slice none 0 0]) (by kernel_rfl) rfl
theorem sz_125 : (Tryd.prog.info? 125).map (·.size) = some 2 := by kernel_rfl
theorem by_125 : (Tryd.prog.info? 125).map (·.bytes) = some 32 := by kernel_rfl
theorem many_125 : Many Tryd.prog 125 2 := Many.mk Tryd.underlying125 rfl sz_125
theorem zero_125 : Zero Tryd.prog 125 [.int .i64 0, .slice none 0 0] := Zero.mk (z := .agg #[.int .i64 0, .slice none 0 0]) (by kernel_rfl) rfl
theorem sz_126 : (Tryd.prog.info? 126).map (·.size) = some 1 := by kernel_rfl
theorem by_126 : (Tryd.prog.info? 126).map (·.bytes) = some 8 := by kernel_rfl
theorem one_126 : One Tryd.prog 126 := One.mk Tryd.underlying126 rfl sz_126
theorem zero_126 : Zero Tryd.prog 126 [.nilFunc] := Zero.mk (z := .nilFunc) (by kernel_rfl) rfl
theorem sz_127 : (Tryd.prog.info? 127).map (·.size) = some 1 := by kernel_rfl
theorem by_127 : (Tryd.prog.info? 127).map (·.bytes) = some 8 := by kernel_rfl
theorem one_127 : One Tryd.prog 127 := One.mk Tryd.underlying127 rfl sz_127
theorem zero_127 : Zero Tryd.prog 127 [.nilFunc] := Zero.mk (z := .nilFunc) (by kernel_rfl) rfl
theorem sz_128 : (Tryd.prog.info? 128).map (·.size) = some 1 := by kernel_rfl
theorem by_128 : (Tryd.prog.info? 128).map (·.bytes) = some 8 := by kernel_rfl
theorem one_128 : One Tryd.prog 128 := One.mk Tryd.underlying128 rfl sz_128
theorem zero_128 : Zero Tryd.prog 128 [.nilFunc] := Zero.mk (z := .nilFunc) (by kernel_rfl) rfl
theorem sz_129 : (Tryd.prog.info? 129).map (·.size) = some 1 := by kernel_rfl
theorem by_129 : (Tryd.prog.info? 129).map (·.bytes) = some 8 := by kernel_rfl
theorem one_129 : One Tryd.prog 129 := One.mk Tryd.underlying129 rfl sz_129
theorem zero_129 : Zero Tryd.prog 129 [.nilFunc] := Zero.mk (z := .nilFunc) (by kernel_rfl) rfl
theorem sz_130 : (Tryd.prog.info? 130).map (·.size) = some 1 := by kernel_rfl
theorem by_130 : (Tryd.prog.info? 130).map (·.bytes) = some 8 := by kernel_rfl
theorem one_130 : One Tryd.prog 130 := One.mk Tryd.underlying130 rfl sz_130
theorem zero_130 : Zero Tryd.prog 130 [.nilFunc] := Zero.mk (z := .nilFunc) (by kernel_rfl) rfl
theorem sz_131 : (Tryd.prog.info? 131).map (·.size) = some 1 := by kernel_rfl
theorem by_131 : (Tryd.prog.info? 131).map (·.bytes) = some 8 := by kernel_rfl
theorem one_131 : One Tryd.prog 131 := One.mk Tryd.underlying131 rfl sz_131
theorem zero_131 : Zero Tryd.prog 131 [.nilFunc] := Zero.mk (z := .nilFunc) (by kernel_rfl) rfl
theorem sz_132 : (Tryd.prog.info? 132).map (·.size) = some 1 := by kernel_rfl
theorem by_132 : (Tryd.prog.info? 132).map (·.bytes) = some 8 := by kernel_rfl
theorem one_132 : One Tryd.prog 132 := One.mk Tryd.underlying132 rfl sz_132
theorem zero_132 : Zero Tryd.prog 132 [.nilFunc] := Zero.mk (z := .nilFunc) (by kernel_rfl) rfl
theorem sz_133 : (Tryd.prog.info? 133).map (·.size) = some 1 := by kernel_rfl
theorem by_133 : (Tryd.prog.info? 133).map (·.bytes) = some 8 := by kernel_rfl
theorem one_133 : One Tryd.prog 133 := One.mk Tryd.underlying133 rfl sz_133
theorem zero_133 : Zero Tryd.prog 133 [.nilFunc] := Zero.mk (z := .nilFunc) (by kernel_rfl) rfl
theorem sz_134 : (Tryd.prog.info? 134).map (·.size) = some 1 := by kernel_rfl
theorem by_134 : (Tryd.prog.info? 134).map (·.bytes) = some 8 := by kernel_rfl
theorem one_134 : One Tryd.prog 134 := One.mk Tryd.underlying134 rfl sz_134
theorem zero_134 : Zero Tryd.prog 134 [.nilFunc] := Zero.mk (z := .nilFunc) (by kernel_rfl) rfl
theorem sz_135 : (Tryd.prog.info? 135).map (·.size) = some 1 := by kernel_rfl
theorem by_135 : (Tryd.prog.info? 135).map (·.bytes) = some 8 := by kernel_rfl
theorem one_135 : One Tryd.prog 135 := One.mk Tryd.underlying135 rfl sz_135
theorem zero_135 : Zero Tryd.prog 135 [.nilFunc] := Zero.mk (z := .nilFunc) (by kernel_rfl) rfl
theorem sz_136 : (Tryd.prog.info? 136).map (·.size) = some 1 := by kernel_rfl
theorem by_136 : (Tryd.prog.info? 136).map (·.bytes) = some 8 := by kernel_rfl
theorem one_136 : One Tryd.prog 136 := One.mk Tryd.underlying136 rfl sz_136
theorem zero_136 : Zero Tryd.prog 136 [.nilFunc] := Zero.mk (z := .nilFunc) (by kernel_rfl) rfl
theorem sz_137 : (Tryd.prog.info? 137).map (·.size) = some 1 := by kernel_rfl
theorem by_137 : (Tryd.prog.info? 137).map (·.bytes) = some 8 := by kernel_rfl
theorem one_137 : One Tryd.prog 137 := One.mk Tryd.underlying137 rfl sz_137
theorem zero_137 : Zero Tryd.prog 137 [.nilFunc] := Zero.mk (z := .nilFunc) (by kernel_rfl) rfl
theorem sz_138 : (Tryd.prog.info? 138).map (·.size) = some 9 := by kernel_rfl
theorem by_138 : (Tryd.prog.info? 138).map (·.bytes) = some 72 := by kernel_rfl
theorem many_138 : Many Tryd.prog 138 9 := Many.mk Tryd.underlying138 rfl sz_138
theorem zero_138 : Zero Tryd.prog 138 [.int .i64 0, .int .i64 0, .int .i64 0, .int .i64 0, .int .i64 0, .int .i64 0, .int .i64 0, .int .i64 0, .int .i64 0] := Zero.mk (z := .agg #[.int .i64 0, .int .i64 0, .int .i64 0, .int .i64 0, .int .i64 0, .int .i64 0, .int .i64 0, .int .i64 0, .int .i64 0]) (by kernel_rfl) rfl
theorem sz_139 : (Tryd.prog.info? 139).map (·.size) = some 1 := by kernel_rfl
theorem by_139 : (Tryd.prog.info? 139).map (·.bytes) = some 8 := by kernel_rfl
theorem one_139 : One Tryd.prog 139 := One.mk Tryd.underlying139 rfl sz_139
theorem zero_139 : Zero Tryd.prog 139 [.nilFunc] := Zero.mk (z := .nilFunc) (by kernel_rfl) rfl
theorem sz_140 : (Tryd.prog.info? 140).map (·.size) = some 1 := by kernel_rfl
theorem by_140 : (Tryd.prog.info? 140).map (·.bytes) = some 8 := by kernel_rfl
theorem one_140 : One Tryd.prog 140 := One.mk Tryd.underlying140 rfl sz_140
theorem zero_140 : Zero Tryd.prog 140 [.nilFunc] := Zero.mk (z := .nilFunc) (by kernel_rfl) rfl
theorem sz_141 : (Tryd.prog.info? 141).map (·.size) = some 1 := by kernel_rfl
theorem by_141 : (Tryd.prog.info? 141).map (·.bytes) = some 8 := by kernel_rfl
theorem one_141 : One Tryd.prog 141 := One.mk Tryd.underlying141 rfl sz_141
theorem zero_141 : Zero Tryd.prog 141 [.nilFunc] := Zero.mk (z := .nilFunc) (by kernel_rfl) rfl
theorem sz_142 : (Tryd.prog.info? 142).map (·.size) = some 1 := by kernel_rfl
theorem by_142 : (Tryd.prog.info? 142).map (·.bytes) = some 8 := by kernel_rfl
theorem one_142 : One Tryd.prog 142 := One.mk Tryd.underlying142 rfl sz_142
theorem zero_142 : Zero Tryd.prog 142 [.map none] := Zero.mk (z := .map none) (by kernel_rfl) rfl
theorem sz_143 : (Tryd.prog.info? 143).map (·.size) = some 0 := by kernel_rfl
theorem by_143 : (Tryd.prog.info? 143).map (·.bytes) = some 0 := by kernel_rfl
theorem many_143 : Many Tryd.prog 143 0 := Many.mk Tryd.underlying143 rfl sz_143
theorem zero_143 : Zero Tryd.prog 143 [] := Zero.mk (z := .agg #[]) (by kernel_rfl) rfl
theorem sz_145 : (Tryd.prog.info? 145).map (·.size) = some 1 := by kernel_rfl
theorem by_145 : (Tryd.prog.info? 145).map (·.bytes) = some 8 := by kernel_rfl
theorem one_145 : One Tryd.prog 145 := One.mk Tryd.underlying145 rfl sz_145
theorem zero_145 : Zero Tryd.prog 145 [.nilFunc] := Zero.mk (z := .nilFunc) (by kernel_rfl) rfl
theorem sz_146 : (Tryd.prog.info? 146).map (·.size) = some 1 := by kernel_rfl
theorem by_146 : (Tryd.prog.info? 146).map (·.bytes) = some 8 := by kernel_rfl
theorem one_146 : One Tryd.prog 146 := One.mk Tryd.underlying146 rfl sz_146
theorem zero_146 : Zero Tryd.prog 146 [.nilFunc] := Zero.mk (z := .nilFunc) (by kernel_rfl) rfl
theorem sz_147 : (Tryd.prog.info? 147).map (·.size) = some 1 := by kernel_rfl
theorem by_147 : (Tryd.prog.info? 147).map (·.bytes) = some 8 := by kernel_rfl
theorem one_147 : One Tryd.prog 147 := One.mk Tryd.underlying147 rfl sz_147
theorem zero_147 : Zero Tryd.prog 147 [.nilFunc] := Zero.mk (z := .nilFunc) (by kernel_rfl) rfl
theorem sz_148 : (Tryd.prog.info? 148).map (·.size) = some 1 := by kernel_rfl
theorem by_148 : (Tryd.prog.info? 148).map (·.bytes) = some 8 := by kernel_rfl
theorem one_148 : One Tryd.prog 148 := One.mk Tryd.underlying148 rfl sz_148
theorem zero_148 : Zero Tryd.prog 148 [.nilFunc] := Zero.mk (z := .nilFunc) (by kernel_rfl) rfl
theorem sz_149 : (Tryd.prog.info? 149).map (·.size) = some 1 := by kernel_rfl
theorem by_149 : (Tryd.prog.info? 149).map (·.bytes) = some 8 := by kernel_rfl
theorem one_149 : One Tryd.prog 149 := One.mk Tryd.underlying149 rfl sz_149
theorem zero_149 : Zero Tryd.prog 149 [.nilFunc] := Zero.mk (z := .nilFunc) (by kernel_rfl) rfl
theorem sz_150 : (Tryd.prog.info? 150).map (·.size) = some 1 := by kernel_rfl
theorem by_150 : (Tryd.prog.info? 150).map (·.bytes) = some 8 := by kernel_rfl
theorem one_150 : One Tryd.prog 150 := One.mk Tryd.underlying150 rfl sz_150
theorem zero_150 : Zero Tryd.prog 150 [.nilFunc] := Zero.mk (z := .nilFunc) (by kernel_rfl) rfl
theorem sz_151 : (Tryd.prog.info? 151).map (·.size) = some 1 := by kernel_rfl
theorem by_151 : (Tryd.prog.info? 151).map (·.bytes) = some 8 := by kernel_rfl
theorem one_151 : One Tryd.prog 151 := One.mk Tryd.underlying151 rfl sz_151
theorem zero_151 : Zero Tryd.prog 151 [.nilFunc] := Zero.mk (z := .nilFunc) (by kernel_rfl) rfl
theorem sz_152 : (Tryd.prog.info? 152).map (·.size) = some 1 := by kernel_rfl
theorem by_152 : (Tryd.prog.info? 152).map (·.bytes) = some 8 := by kernel_rfl
theorem one_152 : One Tryd.prog 152 := One.mk Tryd.underlying152 rfl sz_152
theorem zero_152 : Zero Tryd.prog 152 [.nilFunc] := Zero.mk (z := .nilFunc) (by kernel_rfl) rfl
theorem sz_153 : (Tryd.prog.info? 153).map (·.size) = some 1 := by kernel_rfl
theorem by_153 : (Tryd.prog.info? 153).map (·.bytes) = some 8 := by kernel_rfl
theorem one_153 : One Tryd.prog 153 := One.mk Tryd.underlying153 rfl sz_153
theorem zero_153 : Zero Tryd.prog 153 [.nilFunc] := Zero.mk (z := .nilFunc) (by kernel_rfl) rfl
theorem sz_154 : (Tryd.prog.info? 154).map (·.size) = some 1 := by kernel_rfl
theorem by_154 : (Tryd.prog.info? 154).map (·.bytes) = some 8 := by kernel_rfl
theorem one_154 : One Tryd.prog 154 := One.mk Tryd.underlying154 rfl sz_154
theorem zero_154 : Zero Tryd.prog 154 [.nilFunc] := Zero.mk (z := .nilFunc) (by kernel_rfl) rfl
theorem sz_155 : (Tryd.prog.info? 155).map (·.size) = some 1 := by kernel_rfl
theorem by_155 : (Tryd.prog.info? 155).map (·.bytes) = some 8 := by kernel_rfl
theorem one_155 : One Tryd.prog 155 := One.mk Tryd.underlying155 rfl sz_155
theorem zero_155 : Zero Tryd.prog 155 [.nilFunc] := Zero.mk (z := .nilFunc) (by kernel_rfl) rfl
theorem sz_156 : (Tryd.prog.info? 156).map (·.size) = some 1 := by kernel_rfl
theorem by_156 : (Tryd.prog.info? 156).map (·.bytes) = some 8 := by kernel_rfl
theorem one_156 : One Tryd.prog 156 := One.mk Tryd.underlying156 rfl sz_156
theorem zero_156 : Zero Tryd.prog 156 [.nilFunc] := Zero.mk (z := .nilFunc) (by kernel_rfl) rfl
theorem sz_157 : (Tryd.prog.info? 157).map (·.size) = some 1 := by kernel_rfl
theorem by_157 : (Tryd.prog.info? 157).map (·.bytes) = some 8 := by kernel_rfl
theorem one_157 : One Tryd.prog 157 := One.mk Tryd.underlying157 rfl sz_157
theorem zero_157 : Zero Tryd.prog 157 [.nilFunc] := Zero.mk (z := .nilFunc) (by kernel_rfl) rfl
theorem sz_158 : (Tryd.prog.info? 158).map (·.size) = some 1 := by kernel_rfl
theorem by_158 : (Tryd.prog.info? 158).map (·.bytes) = some 8 := by kernel_rfl
theorem one_158 : One Tryd.prog 158 := One.mk Tryd.underlying158 rfl sz_158
theorem zero_158 : Zero Tryd.prog 158 [.int .i64 0] := Zero.mk (z := .int .i64 0) (by kernel_rfl) rfl
theorem sz_160 : (Tryd.prog.info? 160).map (·.size) = some 1 := by kernel_rfl
theorem by_160 : (Tryd.prog.info? 160).map (·.bytes) = some 8 := by kernel_rfl
theorem one_160 : One Tryd.prog 160 := One.mk Tryd.underlying160 rfl sz_160
theorem zero_160 : Zero Tryd.prog 160 [.nilFunc] := Zero.mk (z := .nilFunc) (by kernel_rfl) rfl
theorem sz_161 : (Tryd.prog.info? 161).map (·.size) = some 1 := by kernel_rfl
theorem by_161 : (Tryd.prog.info? 161).map (·.bytes) = some 8 := by kernel_rfl
theorem one_161 : One Tryd.prog 161 := One.mk Tryd.underlying161 rfl sz_161
theorem zero_161 : Zero Tryd.prog 161 [.nilFunc] := Zero.mk (z := .nilFunc) (by kernel_rfl) rfl
theorem sz_162 : (Tryd.prog.info? 162).map (·.size) = some 1 := by kernel_rfl
theorem by_162 : (Tryd.prog.info? 162).map (·.bytes) = some 8 := by kernel_rfl
theorem one_162 : One Tryd.prog 162 := One.mk Tryd.underlying162 rfl sz_162
theorem zero_162 : Zero Tryd.prog 162 [.nilFunc] := Zero.mk (z := .nilFunc) (by kernel_rfl) rfl
theorem sz_164 : (Tryd.prog.info? 164).map (·.size) = some 1 := by kernel_rfl
theorem by_164 : (Tryd.prog.info? 164).map (·.bytes) = some 8 := by kernel_rfl
theorem one_164 : One Tryd.prog 164 := One.mk Tryd.underlying164 rfl sz_164
theorem zero_164 : Zero Tryd.prog 164 [.nilFunc] := Zero.mk (z := .nilFunc) (by kernel_rfl) rfl
theorem sz_165 : (Tryd.prog.info? 165).map (·.size) = some 1 := by kernel_rfl
theorem by_165 : (Tryd.prog.info? 165).map (·.bytes) = some 8 := by kernel_rfl
theorem one_165 : One Tryd.prog 165 := One.mk Tryd.underlying165 rfl sz_165
theorem zero_165 : Zero Tryd.prog 165 [.nilFunc] := Zero.mk (z := .nilFunc) (by kernel_rfl) rfl
theorem sz_166 : (Tryd.prog.info? 166).map (·.size) = some 1 := by kernel_rfl
theorem by_166 : (Tryd.prog.info? 166).map (·.bytes) = some 8 := by kernel_rfl
theorem one_166 : One Tryd.prog 166 := One.mk Tryd.underlying166 rfl sz_166
theorem zero_166 : Zero Tryd.prog 166 [.nilFunc] := Zero.mk (z := .nilFunc) (by kernel_rfl) rfl
theorem sz_167 : (Tryd.prog.info? 167).map (·.size) = some 1 := by kernel_rfl
theorem by_167 : (Tryd.prog.info? 167).map (·.bytes) = some 8 := by kernel_rfl
theorem one_167 : One Tryd.prog 167 := One.mk Tryd.underlying167 rfl sz_167
theorem zero_167 : Zero Tryd.prog 167 [.nilFunc] := Zero.mk (z := .nilFunc) (by kernel_rfl) rfl
theorem sz_168 : (Tryd.prog.info? 168).map (·.size) = some 1 := by kernel_rfl
theorem by_168 : (Tryd.prog.info? 168).map (·.bytes) = some 8 := by kernel_rfl
theorem one_168 : One Tryd.prog 168 := One.mk Tryd.underlying168 rfl sz_168
theorem zero_168 : Zero Tryd.prog 168 [.nilFunc] := Zero.mk (z := .nilFunc) (by kernel_rfl) rfl
theorem sz_169 : (Tryd.prog.info? 169).map (·.size) = some 1 := by kernel_rfl
theorem by_169 : (Tryd.prog.info? 169).map (·.bytes) = some 8 := by kernel_rfl
theorem one_169 : One Tryd.prog 169 := One.mk Tryd.underlying169 rfl sz_169
theorem zero_169 : Zero Tryd.prog 169 [.nilFunc] := Zero.mk (z := .nilFunc) (by kernel_rfl) rfl
theorem sz_170 : (Tryd.prog.info? 170).map (·.size) = some 1 := by kernel_rfl
theorem by_170 : (Tryd.prog.info? 170).map (·.bytes) = some 8 := by kernel_rfl
theorem one_170 : One Tryd.prog 170 := One.mk Tryd.underlying170 rfl sz_170
theorem zero_170 : Zero Tryd.prog 170 [.nilFunc] := Zero.mk (z := .nilFunc) (by kernel_rfl) rfl
theorem sz_171 : (Tryd.prog.info? 171).map (·.size) = some 1 := by kernel_rfl
theorem by_171 : (Tryd.prog.info? 171).map (·.bytes) = some 8 := by kernel_rfl
theorem one_171 : One Tryd.prog 171 := One.mk Tryd.underlying171 rfl sz_171
theorem zero_171 : Zero Tryd.prog 171 [.nilFunc] := Zero.mk (z := .nilFunc) (by kernel_rfl) rfl
theorem sz_172 : (Tryd.prog.info? 172).map (·.size) = some 1 := by kernel_rfl
theorem by_172 : (Tryd.prog.info? 172).map (·.bytes) = some 8 := by kernel_rfl
theorem one_172 : One Tryd.prog 172 := One.mk Tryd.underlying172 rfl sz_172
theorem zero_172 : Zero Tryd.prog 172 [.int .u64 0] := Zero.mk (z := .int .u64 0) (by kernel_rfl) rfl
theorem sz_173 : (Tryd.prog.info? 173).map (·.size) = some 1 := by kernel_rfl
theorem by_173 : (Tryd.prog.info? 173).map (·.bytes) = some 8 := by kernel_rfl
theorem one_173 : One Tryd.prog 173 := One.mk Tryd.underlying173 rfl sz_173
theorem zero_173 : Zero Tryd.prog 173 [.nilFunc] := Zero.mk (z := .nilFunc) (by kernel_rfl) rfl
theorem sz_174 : (Tryd.prog.info? 174).map (·.size) = some 1 := by kernel_rfl
theorem by_174 : (Tryd.prog.info? 174).map (·.bytes) = some 8 := by kernel_rfl
theorem one_174 : One Tryd.prog 174 := One.mk Tryd.underlying174 rfl sz_174
theorem zero_174 : Zero Tryd.prog 174 [.nilFunc] := Zero.mk (z := .nilFunc) (by kernel_rfl) rfl
theorem sz_175 : (Tryd.prog.info? 175).map (·.size) = some 1 := by kernel_rfl
theorem by_175 : (Tryd.prog.info? 175).map (·.bytes) = some 8 := by kernel_rfl
theorem one_175 : One Tryd.prog 175 := One.mk Tryd.underlying175 rfl sz_175
theorem zero_175 : Zero Tryd.prog 175 [.nilFunc] := Zero.mk (z := .nilFunc) (by kernel_rfl) rfl
theorem sz_176 : (Tryd.prog.info? 176).map (·.size) = some 1 := by kernel_rfl
theorem by_176 : (Tryd.prog.info? 176).map (·.bytes) = some 8 := by kernel_rfl
theorem one_176 : One Tryd.prog 176 := One.mk Tryd.underlying176 rfl sz_176
theorem zero_176 : Zero Tryd.prog 176 [.pointer none] := Zero.mk (z := .pointer none) (by kernel_rfl) rfl
theorem sz_177 : (Tryd.prog.info? 177).map (·.size) = some 1 := by kernel_rfl
theorem by_177 : (Tryd.prog.info? 177).map (·.bytes) = some 8 := by kernel_rfl
theorem one_177 : One Tryd.prog 177 := One.mk Tryd.underlying177 rfl sz_177
theorem zero_177 : Zero Tryd.prog 177 [.nilFunc] := Zero.mk (z := .nilFunc) (by kernel_rfl) rfl
theorem sz_178 : (Tryd.prog.info? 178).map (·.size) = some 1 := by kernel_rfl
theorem by_178 : (Tryd.prog.info? 178).map (·.bytes) = some 8 := by kernel_rfl
theorem one_178 : One Tryd.prog 178 := One.mk Tryd.underlying178 rfl sz_178
theorem zero_178 : Zero Tryd.prog 178 [.nilFunc] := Zero.mk (z := .nilFunc) (by kernel_rfl) rfl
theorem sz_179 : (Tryd.prog.info? 179).map (·.size) = some 1 := by kernel_rfl
theorem by_179 : (Tryd.prog.info? 179).map (·.bytes) = some 8 := by kernel_rfl
theorem one_179 : One Tryd.prog 179 := One.mk Tryd.underlying179 rfl sz_179
theorem zero_179 : Zero Tryd.prog 179 [.nilFunc] := Zero.mk (z := .nilFunc) (by kernel_rfl) rfl
theorem sz_180 : (Tryd.prog.info? 180).map (·.size) = some 1 := by kernel_rfl
theorem by_180 : (Tryd.prog.info? 180).map (·.bytes) = some 8 := by kernel_rfl
theorem one_180 : One Tryd.prog 180 := One.mk Tryd.underlying180 rfl sz_180
theorem zero_180 : Zero Tryd.prog 180 [.nilFunc] := Zero.mk (z := .nilFunc) (by kernel_rfl) rfl
theorem sz_181 : (Tryd.prog.info? 181).map (·.size) = some 1 := by kernel_rfl
theorem by_181 : (Tryd.prog.info? 181).map (·.bytes) = some 8 := by kernel_rfl
theorem one_181 : One Tryd.prog 181 := One.mk Tryd.underlying181 rfl sz_181
theorem zero_181 : Zero Tryd.prog 181 [.nilFunc] := Zero.mk (z := .nilFunc) (by kernel_rfl) rfl
theorem sz_182 : (Tryd.prog.info? 182).map (·.size) = some 1 := by kernel_rfl
theorem by_182 : (Tryd.prog.info? 182).map (·.bytes) = some 8 := by kernel_rfl
theorem one_182 : One Tryd.prog 182 := One.mk Tryd.underlying182 rfl sz_182
theorem zero_182 : Zero Tryd.prog 182 [.nilFunc] := Zero.mk (z := .nilFunc) (by kernel_rfl) rfl
theorem sz_183 : (Tryd.prog.info? 183).map (·.size) = some 1 := by kernel_rfl
theorem by_183 : (Tryd.prog.info? 183).map (·.bytes) = some 8 := by kernel_rfl
theorem one_183 : One Tryd.prog 183 := One.mk Tryd.underlying183 rfl sz_183
theorem zero_183 : Zero Tryd.prog 183 [.nilFunc] := Zero.mk (z := .nilFunc) (by kernel_rfl) rfl
theorem sz_184 : (Tryd.prog.info? 184).map (·.size) = some 1 := by kernel_rfl
theorem by_184 : (Tryd.prog.info? 184).map (·.bytes) = some 8 := by kernel_rfl
theorem one_184 : One Tryd.prog 184 := One.mk Tryd.underlying184 rfl sz_184
theorem zero_184 : Zero Tryd.prog 184 [.pointer none] := Zero.mk (z := .pointer none) (by kernel_rfl) rfl
theorem sz_185 : (Tryd.prog.info? 185).map (·.size) = some 1 := by kernel_rfl
theorem by_185 : (Tryd.prog.info? 185).map (·.bytes) = some 8 := by kernel_rfl
theorem one_185 : One Tryd.prog 185 := One.mk Tryd.underlying185 rfl sz_185
theorem zero_185 : Zero Tryd.prog 185 [.nilFunc] := Zero.mk (z := .nilFunc) (by kernel_rfl) rfl
theorem sz_186 : (Tryd.prog.info? 186).map (·.size) = some 1 := by kernel_rfl
theorem by_186 : (Tryd.prog.info? 186).map (·.bytes) = some 8 := by kernel_rfl
theorem one_186 : One Tryd.prog 186 := One.mk Tryd.underlying186 rfl sz_186
theorem zero_186 : Zero Tryd.prog 186 [.nilFunc] := Zero.mk (z := .nilFunc) (by kernel_rfl) rfl
theorem sz_187 : (Tryd.prog.info? 187).map (·.size) = some 1 := by kernel_rfl
theorem by_187 : (Tryd.prog.info? 187).map (·.bytes) = some 8 := by kernel_rfl
theorem one_187 : One Tryd.prog 187 := One.mk Tryd.underlying187 rfl sz_187
theorem zero_187 : Zero Tryd.prog 187 [.nilFunc] := Zero.mk (z := .nilFunc) (by kernel_rfl) rfl
theorem sz_188 : (Tryd.prog.info? 188).map (·.size) = some 1 := by kernel_rfl
theorem by_188 : (Tryd.prog.info? 188).map (·.bytes) = some 8 := by kernel_rfl
theorem one_188 : One Tryd.prog 188 := One.mk Tryd.underlying188 rfl sz_188
theorem zero_188 : Zero Tryd.prog 188 [.nilFunc] := Zero.mk (z := .nilFunc) (by kernel_rfl) rfl
theorem sz_189 : (Tryd.prog.info? 189).map (·.size) = some 1 := by kernel_rfl
theorem by_189 : (Tryd.prog.info? 189).map (·.bytes) = some 8 := by kernel_rfl
theorem one_189 : One Tryd.prog 189 := One.mk Tryd.underlying189 rfl sz_189
theorem zero_189 : Zero Tryd.prog 189 [.nilFunc] := Zero.mk (z := .nilFunc) (by kernel_rfl) rfl
theorem sz_190 : (Tryd.prog.info? 190).map (·.size) = some 4 := by kernel_rfl
theorem by_190 : (Tryd.prog.info? 190).map (·.bytes) = some 40 := by kernel_rfl
theorem many_190 : Many Tryd.prog 190 4 := Many.mk Tryd.underlying190 rfl sz_190
theorem zero_190 : Zero Tryd.prog 190 [.pointer none, .pointer none, .pointer none, .string ⟨#[]⟩] := Zero.mk (z := .agg #[.pointer none, .pointer none, .pointer none, .string ⟨#[]⟩]) (by kernel_rfl) rfl
theorem sz_191 : (Tryd.prog.info? 191).map (·.size) = some 4 := by kernel_rfl
theorem by_191 : (Tryd.prog.info? 191).map (·.bytes) = some 40 := by kernel_rfl
theorem many_191 : Many Tryd.prog 191 4 := Many.mk Tryd.underlying191 rfl sz_191
theorem zero_191 : Zero Tryd.prog 191 [.pointer none, .pointer none, .pointer none, .string ⟨#[]⟩] := Zero.mk (z := .agg #[.pointer none, .pointer none, .pointer none, .string ⟨#[]⟩]) (by kernel_rfl) rfl
theorem sz_192 : (Tryd.prog.info? 192).map (·.size) = some 0 := by kernel_rfl
theorem by_192 : (Tryd.prog.info? 192).map (·.bytes) = some 0 := by kernel_rfl
theorem many_192 : Many Tryd.prog 192 0 := Many.mk Tryd.underlying192 rfl sz_192
theorem zero_192 : Zero Tryd.prog 192 [] := Zero.mk (z := .agg #[]) (by kernel_rfl) rfl
theorem sz_193 : (Tryd.prog.info? 193).map (·.size) = some 0 := by kernel_rfl
theorem by_193 : (Tryd.prog.info? 193).map (·.bytes) = some 0 := by kernel_rfl
theorem many_193 : Many Tryd.prog 193 0 := Many.mk Tryd.underlying193 rfl sz_193
theorem zero_193 : Zero Tryd.prog 193 [] := Zero.mk (z := .agg #[]) (by kernel_rfl) rfl
theorem sz_194 : (Tryd.prog.info? 194).map (·.size) = some 0 := by kernel_rfl
theorem by_194 : (Tryd.prog.info? 194).map (·.bytes) = some 0 := by kernel_rfl
theorem many_194 : Many Tryd.prog 194 0 := Many.mk Tryd.underlying194 rfl sz_194
theorem zero_194 : Zero Tryd.prog 194 [] := Zero.mk (z := .agg #[]) (by kernel_rfl) rfl
theorem sz_195 : (Tryd.prog.info? 195).map (·.size) = some 1 := by kernel_rfl
theorem by_195 : (Tryd.prog.info? 195).map (·.bytes) = some 1 := by kernel_rfl
theorem one_195 : One Tryd.prog 195 := One.mk Tryd.underlying195 rfl sz_195
theorem zero_195 : Zero Tryd.prog 195 [.int .u8 0] := Zero.mk (z := .int .u8 0) (by kernel_rfl) rfl
theorem sz_196 : (Tryd.prog.info? 196).map (·.size) = some 1 := by kernel_rfl
theorem by_196 : (Tryd.prog.info? 196).map (·.bytes) = some 1 := by kernel_rfl
theorem one_196 : One Tryd.prog 196 := One.mk Tryd.underlying196 rfl sz_196
theorem zero_196 : Zero Tryd.prog 196 [.int .u8 0] := Zero.mk (z := .int .u8 0) (by kernel_rfl) rfl
theorem sz_197 : (Tryd.prog.info? 197).map (·.size) = some 1 := by kernel_rfl
theorem by_197 : (Tryd.prog.info? 197).map (·.bytes) = some 8 := by kernel_rfl
theorem one_197 : One Tryd.prog 197 := One.mk Tryd.underlying197 rfl sz_197
theorem zero_197 : Zero Tryd.prog 197 [.nilFunc] := Zero.mk (z := .nilFunc) (by kernel_rfl) rfl
theorem sz_198 : (Tryd.prog.info? 198).map (·.size) = some 1 := by kernel_rfl
theorem by_198 : (Tryd.prog.info? 198).map (·.bytes) = some 8 := by kernel_rfl
theorem one_198 : One Tryd.prog 198 := One.mk Tryd.underlying198 rfl sz_198
theorem zero_198 : Zero Tryd.prog 198 [.pointer none] := Zero.mk (z := .pointer none) (by kernel_rfl) rfl
theorem sz_199 : (Tryd.prog.info? 199).map (·.size) = some 1 := by kernel_rfl
theorem by_199 : (Tryd.prog.info? 199).map (·.bytes) = some 4 := by kernel_rfl
theorem one_199 : One Tryd.prog 199 := One.mk Tryd.underlying199 rfl sz_199
theorem zero_199 : Zero Tryd.prog 199 [.int .i32 0] := Zero.mk (z := .int .i32 0) (by kernel_rfl) rfl
theorem sz_200 : (Tryd.prog.info? 200).map (·.size) = some 1 := by kernel_rfl
theorem by_200 : (Tryd.prog.info? 200).map (·.bytes) = some 4 := by kernel_rfl
theorem one_200 : One Tryd.prog 200 := One.mk Tryd.underlying200 rfl sz_200
theorem zero_200 : Zero Tryd.prog 200 [.int .i32 0] := Zero.mk (z := .int .i32 0) (by kernel_rfl) rfl
theorem sz_201 : (Tryd.prog.info? 201).map (·.size) = some 11 := by kernel_rfl
theorem by_201 : (Tryd.prog.info? 201).map (·.bytes) = some 48 := by kernel_rfl
theorem many_201 : Many Tryd.prog 201 11 := Many.mk Tryd.underlying201 rfl sz_201
theorem zero_201 : Zero Tryd.prog 201 [.int .u64 0, .int .u64 0, .int .u32 0, .int .u8 0, .int .u8 0, .int .u8 0, .int .u8 0, .nilFunc, .pointer none, .int .i32 0, .int .i32 0] := Zero.mk (z := .agg #[.int .u64 0, .int .u64 0, .int .u32 0, .int .u8 0, .int .u8 0, .int .u8 0, .int .u8 0, .nilFunc, .pointer none, .int .i32 0, .int .i32 0]) (by kernel_rfl) rfl
theorem sz_202 : (Tryd.prog.info? 202).map (·.size) = some 11 := by kernel_rfl
theorem by_202 : (Tryd.prog.info? 202).map (·.bytes) = some 48 := by kernel_rfl
theorem many_202 : Many Tryd.prog 202 11 := Many.mk Tryd.underlying202 rfl sz_202
theorem zero_202 : Zero Tryd.prog 202 [.int .u64 0, .int .u64 0, .int .u32 0, .int .u8 0, .int .u8 0, .int .u8 0, .int .u8 0, .nilFunc, .pointer none, .int .i32 0, .int .i32 0] := Zero.mk (z := .agg #[.int .u64 0, .int .u64 0, .int .u32 0, .int .u8 0, .int .u8 0, .int .u8 0, .int .u8 0, .nilFunc, .pointer none, .int .i32 0, .int .i32 0]) (by kernel_rfl) rfl
theorem sz_203 : (Tryd.prog.info? 203).map (·.size) = some 1 := by kernel_rfl
theorem by_203 : (Tryd.prog.info? 203).map (·.bytes) = some 8 := by kernel_rfl
theorem one_203 : One Tryd.prog 203 := One.mk Tryd.underlying203 rfl sz_203
theorem zero_203 : Zero Tryd.prog 203 [.pointer none] := Zero.mk (z := .pointer none) (by kernel_rfl) rfl
theorem fld_7_0 : FieldAt Tryd.prog 7 0 0 2 := FieldAt.mk Tryd.underlying7 rfl rfl rfl sz_2
theorem fld_7_1 : FieldAt Tryd.prog 7 1 1 3 := FieldAt.mk Tryd.underlying7 rfl rfl rfl sz_3
theorem fld_7_2 : FieldAt Tryd.prog 7 2 2 4 := FieldAt.mk Tryd.underlying7 rfl rfl rfl sz_4
theorem fld_7_3 : FieldAt Tryd.prog 7 3 3 6 := FieldAt.mk Tryd.underlying7 rfl rfl rfl sz_6
theorem fld_8_0 : FieldAt Tryd.prog 8 0 0 2 := FieldAt.mk Tryd.underlying8 rfl rfl rfl sz_2
theorem fld_8_1 : FieldAt Tryd.prog 8 1 1 3 := FieldAt.mk Tryd.underlying8 rfl rfl rfl sz_3
theorem fld_8_2 : FieldAt Tryd.prog 8 2 2 4 := FieldAt.mk Tryd.underlying8 rfl rfl rfl sz_4
theorem fld_8_3 : FieldAt Tryd.prog 8 3 3 6 := FieldAt.mk Tryd.underlying8 rfl rfl rfl sz_6
theorem fld_13_0 : FieldAt Tryd.prog 13 0 0 9 := FieldAt.mk Tryd.underlying13 rfl rfl rfl sz_9
theorem fld_13_1 : FieldAt Tryd.prog 13 1 1 12 := FieldAt.mk Tryd.underlying13 rfl rfl rfl sz_12
theorem fld_14_0 : FieldAt Tryd.prog 14 0 0 9 := FieldAt.mk Tryd.underlying14 rfl rfl rfl sz_9
theorem fld_14_1 : FieldAt Tryd.prog 14 1 1 12 := FieldAt.mk Tryd.underlying14 rfl rfl rfl sz_12
theorem fld_18_0 : FieldAt Tryd.prog 18 0 0 17 := FieldAt.mk Tryd.underlying18 rfl rfl rfl sz_17
theorem fld_19_0 : FieldAt Tryd.prog 19 0 0 17 := FieldAt.mk Tryd.underlying19 rfl rfl rfl sz_17
theorem fld_24_0 : FieldAt Tryd.prog 24 0 0 3 := FieldAt.mk Tryd.underlying24 rfl rfl rfl sz_3
theorem fld_24_1 : FieldAt Tryd.prog 24 1 1 23 := FieldAt.mk Tryd.underlying24 rfl rfl rfl sz_23
theorem fld_25_0 : FieldAt Tryd.prog 25 0 0 3 := FieldAt.mk Tryd.underlying25 rfl rfl rfl sz_3
theorem fld_25_1 : FieldAt Tryd.prog 25 1 1 23 := FieldAt.mk Tryd.underlying25 rfl rfl rfl sz_23
theorem fld_30_0 : FieldAt Tryd.prog 30 0 0 3 := FieldAt.mk Tryd.underlying30 rfl rfl rfl sz_3
theorem fld_30_1 : FieldAt Tryd.prog 30 1 1 27 := FieldAt.mk Tryd.underlying30 rfl rfl rfl sz_27
theorem fld_30_2 : FieldAt Tryd.prog 30 2 7 27 := FieldAt.mk Tryd.underlying30 rfl rfl rfl sz_27
theorem fld_30_3 : FieldAt Tryd.prog 30 3 13 3 := FieldAt.mk Tryd.underlying30 rfl rfl rfl sz_3
theorem fld_30_4 : FieldAt Tryd.prog 30 4 14 29 := FieldAt.mk Tryd.underlying30 rfl rfl rfl sz_29
theorem fld_30_5 : FieldAt Tryd.prog 30 5 15 29 := FieldAt.mk Tryd.underlying30 rfl rfl rfl sz_29
theorem fld_30_6 : FieldAt Tryd.prog 30 6 16 3 := FieldAt.mk Tryd.underlying30 rfl rfl rfl sz_3
theorem fld_30_7 : FieldAt Tryd.prog 30 7 17 3 := FieldAt.mk Tryd.underlying30 rfl rfl rfl sz_3
theorem fld_30_8 : FieldAt Tryd.prog 30 8 18 3 := FieldAt.mk Tryd.underlying30 rfl rfl rfl sz_3
theorem fld_31_0 : FieldAt Tryd.prog 31 0 0 3 := FieldAt.mk Tryd.underlying31 rfl rfl rfl sz_3
theorem fld_31_1 : FieldAt Tryd.prog 31 1 1 27 := FieldAt.mk Tryd.underlying31 rfl rfl rfl sz_27
theorem fld_31_2 : FieldAt Tryd.prog 31 2 7 27 := FieldAt.mk Tryd.underlying31 rfl rfl rfl sz_27
theorem fld_31_3 : FieldAt Tryd.prog 31 3 13 3 := FieldAt.mk Tryd.underlying31 rfl rfl rfl sz_3
theorem fld_31_4 : FieldAt Tryd.prog 31 4 14 29 := FieldAt.mk Tryd.underlying31 rfl rfl rfl sz_29
theorem fld_31_5 : FieldAt Tryd.prog 31 5 15 29 := FieldAt.mk Tryd.underlying31 rfl rfl rfl sz_29
theorem fld_31_6 : FieldAt Tryd.prog 31 6 16 3 := FieldAt.mk Tryd.underlying31 rfl rfl rfl sz_3
theorem fld_31_7 : FieldAt Tryd.prog 31 7 17 3 := FieldAt.mk Tryd.underlying31 rfl rfl rfl sz_3
theorem fld_31_8 : FieldAt Tryd.prog 31 8 18 3 := FieldAt.mk Tryd.underlying31 rfl rfl rfl sz_3
theorem fld_44_0 : FieldAt Tryd.prog 44 0 0 3 := FieldAt.mk Tryd.underlying44 rfl rfl rfl sz_3
theorem fld_44_1 : FieldAt Tryd.prog 44 1 1 37 := FieldAt.mk Tryd.underlying44 rfl rfl rfl sz_37
theorem fld_44_2 : FieldAt Tryd.prog 44 2 2 22 := FieldAt.mk Tryd.underlying44 rfl rfl rfl sz_22
theorem fld_44_3 : FieldAt Tryd.prog 44 3 3 22 := FieldAt.mk Tryd.underlying44 rfl rfl rfl sz_22
theorem fld_44_4 : FieldAt Tryd.prog 44 4 4 43 := FieldAt.mk Tryd.underlying44 rfl rfl rfl sz_43
theorem fld_45_0 : FieldAt Tryd.prog 45 0 0 3 := FieldAt.mk Tryd.underlying45 rfl rfl rfl sz_3
theorem fld_45_1 : FieldAt Tryd.prog 45 1 1 37 := FieldAt.mk Tryd.underlying45 rfl rfl rfl sz_37
theorem fld_45_2 : FieldAt Tryd.prog 45 2 2 22 := FieldAt.mk Tryd.underlying45 rfl rfl rfl sz_22
theorem fld_45_3 : FieldAt Tryd.prog 45 3 3 22 := FieldAt.mk Tryd.underlying45 rfl rfl rfl sz_22
theorem fld_45_4 : FieldAt Tryd.prog 45 4 4 43 := FieldAt.mk Tryd.underlying45 rfl rfl rfl sz_43
theorem fld_51_0 : FieldAt Tryd.prog 51 0 0 3 := FieldAt.mk Tryd.underlying51 rfl rfl rfl sz_3
theorem fld_51_1 : FieldAt Tryd.prog 51 1 1 3 := FieldAt.mk Tryd.underlying51 rfl rfl rfl sz_3
theorem fld_51_2 : FieldAt Tryd.prog 51 2 2 22 := FieldAt.mk Tryd.underlying51 rfl rfl rfl sz_22
theorem fld_51_3 : FieldAt Tryd.prog 51 3 3 22 := FieldAt.mk Tryd.underlying51 rfl rfl rfl sz_22
theorem fld_51_4 : FieldAt Tryd.prog 51 4 4 50 := FieldAt.mk Tryd.underlying51 rfl rfl rfl sz_50
theorem fld_52_0 : FieldAt Tryd.prog 52 0 0 3 := FieldAt.mk Tryd.underlying52 rfl rfl rfl sz_3
theorem fld_52_1 : FieldAt Tryd.prog 52 1 1 3 := FieldAt.mk Tryd.underlying52 rfl rfl rfl sz_3
theorem fld_52_2 : FieldAt Tryd.prog 52 2 2 22 := FieldAt.mk Tryd.underlying52 rfl rfl rfl sz_22
theorem fld_52_3 : FieldAt Tryd.prog 52 3 3 22 := FieldAt.mk Tryd.underlying52 rfl rfl rfl sz_22
theorem fld_52_4 : FieldAt Tryd.prog 52 4 4 50 := FieldAt.mk Tryd.underlying52 rfl rfl rfl sz_50
theorem fld_78_0 : FieldAt Tryd.prog 78 0 0 3 := FieldAt.mk Tryd.underlying78 rfl rfl rfl sz_3
theorem fld_78_1 : FieldAt Tryd.prog 78 1 1 77 := FieldAt.mk Tryd.underlying78 rfl rfl rfl sz_77
theorem fld_78_2 : FieldAt Tryd.prog 78 2 2 75 := FieldAt.mk Tryd.underlying78 rfl rfl rfl sz_75
theorem fld_78_3 : FieldAt Tryd.prog 78 3 3 31 := FieldAt.mk Tryd.underlying78 rfl rfl rfl sz_31
theorem fld_79_0 : FieldAt Tryd.prog 79 0 0 3 := FieldAt.mk Tryd.underlying79 rfl rfl rfl sz_3
theorem fld_79_1 : FieldAt Tryd.prog 79 1 1 77 := FieldAt.mk Tryd.underlying79 rfl rfl rfl sz_77
theorem fld_79_2 : FieldAt Tryd.prog 79 2 2 75 := FieldAt.mk Tryd.underlying79 rfl rfl rfl sz_75
theorem fld_79_3 : FieldAt Tryd.prog 79 3 3 31 := FieldAt.mk Tryd.underlying79 rfl rfl rfl sz_31
theorem fld_85_0 : FieldAt Tryd.prog 85 0 0 23 := FieldAt.mk Tryd.underlying85 rfl rfl rfl sz_23
theorem fld_85_1 : FieldAt Tryd.prog 85 1 9 23 := FieldAt.mk Tryd.underlying85 rfl rfl rfl sz_23
theorem fld_86_0 : FieldAt Tryd.prog 86 0 0 23 := FieldAt.mk Tryd.underlying86 rfl rfl rfl sz_23
theorem fld_86_1 : FieldAt Tryd.prog 86 1 9 23 := FieldAt.mk Tryd.underlying86 rfl rfl rfl sz_23
theorem fld_88_0 : FieldAt Tryd.prog 88 0 0 86 := FieldAt.mk Tryd.underlying88 rfl rfl rfl sz_86
theorem fld_88_1 : FieldAt Tryd.prog 88 1 18 87 := FieldAt.mk Tryd.underlying88 rfl rfl rfl sz_87
theorem fld_89_0 : FieldAt Tryd.prog 89 0 0 86 := FieldAt.mk Tryd.underlying89 rfl rfl rfl sz_86
theorem fld_89_1 : FieldAt Tryd.prog 89 1 18 87 := FieldAt.mk Tryd.underlying89 rfl rfl rfl sz_87
theorem fld_90_0 : FieldAt Tryd.prog 90 0 0 3 := FieldAt.mk Tryd.underlying90 rfl rfl rfl sz_3
theorem fld_90_1 : FieldAt Tryd.prog 90 1 1 3 := FieldAt.mk Tryd.underlying90 rfl rfl rfl sz_3
theorem fld_90_2 : FieldAt Tryd.prog 90 2 2 89 := FieldAt.mk Tryd.underlying90 rfl rfl rfl sz_89
theorem fld_91_0 : FieldAt Tryd.prog 91 0 0 3 := FieldAt.mk Tryd.underlying91 rfl rfl rfl sz_3
theorem fld_91_1 : FieldAt Tryd.prog 91 1 1 3 := FieldAt.mk Tryd.underlying91 rfl rfl rfl sz_3
theorem fld_91_2 : FieldAt Tryd.prog 91 2 2 89 := FieldAt.mk Tryd.underlying91 rfl rfl rfl sz_89
theorem fld_124_0 : FieldAt Tryd.prog 124 0 0 3 := FieldAt.mk Tryd.underlying124 rfl rfl rfl sz_3
theorem fld_124_1 : FieldAt Tryd.prog 124 1 1 75 := FieldAt.mk Tryd.underlying124 rfl rfl rfl sz_75
theorem fld_125_0 : FieldAt Tryd.prog 125 0 0 3 := FieldAt.mk Tryd.underlying125 rfl rfl rfl sz_3
theorem fld_125_1 : FieldAt Tryd.prog 125 1 1 75 := FieldAt.mk Tryd.underlying125 rfl rfl rfl sz_75
theorem fld_190_0 : FieldAt Tryd.prog 190 0 0 17 := FieldAt.mk Tryd.underlying190 rfl rfl rfl sz_17
theorem fld_190_1 : FieldAt Tryd.prog 190 1 1 17 := FieldAt.mk Tryd.underlying190 rfl rfl rfl sz_17
theorem fld_190_2 : FieldAt Tryd.prog 190 2 2 17 := FieldAt.mk Tryd.underlying190 rfl rfl rfl sz_17
theorem fld_190_3 : FieldAt Tryd.prog 190 3 3 9 := FieldAt.mk Tryd.underlying190 rfl rfl rfl sz_9
theorem fld_191_0 : FieldAt Tryd.prog 191 0 0 17 := FieldAt.mk Tryd.underlying191 rfl rfl rfl sz_17
theorem fld_191_1 : FieldAt Tryd.prog 191 1 1 17 := FieldAt.mk Tryd.underlying191 rfl rfl rfl sz_17
theorem fld_191_2 : FieldAt Tryd.prog 191 2 2 17 := FieldAt.mk Tryd.underlying191 rfl rfl rfl sz_17
theorem fld_191_3 : FieldAt Tryd.prog 191 3 3 9 := FieldAt.mk Tryd.underlying191 rfl rfl rfl sz_9
theorem fld_201_0 : FieldAt Tryd.prog 201 0 0 12 := FieldAt.mk Tryd.underlying201 rfl rfl rfl sz_12
theorem fld_201_1 : FieldAt Tryd.prog 201 1 1 12 := FieldAt.mk Tryd.underlying201 rfl rfl rfl sz_12
theorem fld_201_2 : FieldAt Tryd.prog 201 2 2 28 := FieldAt.mk Tryd.underlying201 rfl rfl rfl sz_28
theorem fld_201_3 : FieldAt Tryd.prog 201 3 3 195 := FieldAt.mk Tryd.underlying201 rfl rfl rfl sz_195
theorem fld_201_4 : FieldAt Tryd.prog 201 4 4 5 := FieldAt.mk Tryd.underlying201 rfl rfl rfl sz_5
theorem fld_201_5 : FieldAt Tryd.prog 201 5 5 5 := FieldAt.mk Tryd.underlying201 rfl rfl rfl sz_5
theorem fld_201_6 : FieldAt Tryd.prog 201 6 6 196 := FieldAt.mk Tryd.underlying201 rfl rfl rfl sz_196
theorem fld_201_7 : FieldAt Tryd.prog 201 7 7 197 := FieldAt.mk Tryd.underlying201 rfl rfl rfl sz_197
theorem fld_201_8 : FieldAt Tryd.prog 201 8 8 198 := FieldAt.mk Tryd.underlying201 rfl rfl rfl sz_198
theorem fld_201_9 : FieldAt Tryd.prog 201 9 9 199 := FieldAt.mk Tryd.underlying201 rfl rfl rfl sz_199
theorem fld_201_10 : FieldAt Tryd.prog 201 10 10 200 := FieldAt.mk Tryd.underlying201 rfl rfl rfl sz_200
theorem fld_202_0 : FieldAt Tryd.prog 202 0 0 12 := FieldAt.mk Tryd.underlying202 rfl rfl rfl sz_12
theorem fld_202_1 : FieldAt Tryd.prog 202 1 1 12 := FieldAt.mk Tryd.underlying202 rfl rfl rfl sz_12
theorem fld_202_2 : FieldAt Tryd.prog 202 2 2 28 := FieldAt.mk Tryd.underlying202 rfl rfl rfl sz_28
theorem fld_202_3 : FieldAt Tryd.prog 202 3 3 195 := FieldAt.mk Tryd.underlying202 rfl rfl rfl sz_195
theorem fld_202_4 : FieldAt Tryd.prog 202 4 4 5 := FieldAt.mk Tryd.underlying202 rfl rfl rfl sz_5
theorem fld_202_5 : FieldAt Tryd.prog 202 5 5 5 := FieldAt.mk Tryd.underlying202 rfl rfl rfl sz_5
theorem fld_202_6 : FieldAt Tryd.prog 202 6 6 196 := FieldAt.mk Tryd.underlying202 rfl rfl rfl sz_196
theorem fld_202_7 : FieldAt Tryd.prog 202 7 7 197 := FieldAt.mk Tryd.underlying202 rfl rfl rfl sz_197
theorem fld_202_8 : FieldAt Tryd.prog 202 8 8 198 := FieldAt.mk Tryd.underlying202 rfl rfl rfl sz_198
theorem fld_202_9 : FieldAt Tryd.prog 202 9 9 199 := FieldAt.mk Tryd.underlying202 rfl rfl rfl sz_199
theorem fld_202_10 : FieldAt Tryd.prog 202 10 10 200 := FieldAt.mk Tryd.underlying202 rfl rfl rfl sz_200
theorem plc_25 : Places Tryd.prog 25 [(0, 1), (1, 9)] := ⟨_, Tryd.underlying25, fun w => by simp [run_sizeOf sz_3, run_sizeOf sz_23]⟩
theorem plc_31 : Places Tryd.prog 31 [(0, 1), (1, 6), (7, 6), (13, 1), (14, 1), (15, 1), (16, 1), (17, 1), (18, 1)] := ⟨_, Tryd.underlying31, fun w => by simp [run_sizeOf sz_3, run_sizeOf sz_27, run_sizeOf sz_29]⟩
theorem plc_45 : Places Tryd.prog 45 [(0, 1), (1, 1), (2, 1), (3, 1), (4, 1)] := ⟨_, Tryd.underlying45, fun w => by simp [run_sizeOf sz_3, run_sizeOf sz_37, run_sizeOf sz_22, run_sizeOf sz_43]⟩
theorem plc_52 : Places Tryd.prog 52 [(0, 1), (1, 1), (2, 1), (3, 1), (4, 1)] := ⟨_, Tryd.underlying52, fun w => by simp [run_sizeOf sz_3, run_sizeOf sz_22, run_sizeOf sz_50]⟩
theorem plc_79 : Places Tryd.prog 79 [(0, 1), (1, 1), (2, 1), (3, 19)] := ⟨_, Tryd.underlying79, fun w => by simp [run_sizeOf sz_3, run_sizeOf sz_77, run_sizeOf sz_75, run_sizeOf sz_31]⟩
theorem plc_86 : Places Tryd.prog 86 [(0, 9), (9, 9)] := ⟨_, Tryd.underlying86, fun w => by simp [run_sizeOf sz_23]⟩
theorem plc_89 : Places Tryd.prog 89 [(0, 18), (18, 1)] := ⟨_, Tryd.underlying89, fun w => by simp [run_sizeOf sz_86, run_sizeOf sz_87]⟩
theorem plc_91 : Places Tryd.prog 91 [(0, 1), (1, 1), (2, 19)] := ⟨_, Tryd.underlying91, fun w => by simp [run_sizeOf sz_3, run_sizeOf sz_89]⟩
theorem plc_125 : Places Tryd.prog 125 [(0, 1), (1, 1)] := ⟨_, Tryd.underlying125, fun w => by simp [run_sizeOf sz_3, run_sizeOf sz_75]⟩
theorem plc_143 : Places Tryd.prog 143 [] := ⟨_, Tryd.underlying143, fun w => by simp []⟩
theorem eqk_25 : EqK Tryd.prog 10000 25 true [.i .i64, .i .u64, .i .u64, .i .u64, .i .u64, .i .u64, .i .u64, .i .u64, .i .u64, .i .u64] := (EqK.struct Tryd.underlying25 (by kernel_rfl) sz_25 (.cons (off := 0) (k1 := [.i .i64]) (k2 := [.i .u64, .i .u64, .i .u64, .i .u64, .i .u64, .i .u64, .i .u64, .i .u64, .i .u64]) (by kernel_rfl) rfl (EqK.int Tryd.underlying3 sz_3) (.cons (off := 1) (k1 := [.i .u64, .i .u64, .i .u64, .i .u64, .i .u64, .i .u64, .i .u64, .i .u64, .i .u64]) (k2 := []) (by kernel_rfl) rfl (EqK.array Tryd.underlying23 sz_23 (EqK.int Tryd.underlying22 sz_22) rfl) .nil)))
theorem eqg_25 : Tryd.prog.eqGuardType Tryd.prog.depth 25 = false := by kernel_rfl
theorem eqk_31 : EqK Tryd.prog 10000 31 true [.i .i64, .i .u8, .i .u8, .i .u8, .i .u8, .i .u8, .i .u8, .i .u8, .i .u8, .i .u8, .i .u8, .i .u8, .i .u8, .i .i64, .i .u32, .i .u32, .i .i64, .i .i64, .i .i64] := (EqK.struct Tryd.underlying31 (by kernel_rfl) sz_31 (.cons (off := 0) (k1 := [.i .i64]) (k2 := [.i .u8, .i .u8, .i .u8, .i .u8, .i .u8, .i .u8, .i .u8, .i .u8, .i .u8, .i .u8, .i .u8, .i .u8, .i .i64, .i .u32, .i .u32, .i .i64, .i .i64, .i .i64]) (by kernel_rfl) rfl (EqK.int Tryd.underlying3 sz_3) (.cons (off := 1) (k1 := [.i .u8, .i .u8, .i .u8, .i .u8, .i .u8, .i .u8]) (k2 := [.i .u8, .i .u8, .i .u8, .i .u8, .i .u8, .i .u8, .i .i64, .i .u32, .i .u32, .i .i64, .i .i64, .i .i64]) (by kernel_rfl) rfl (EqK.array Tryd.underlying27 sz_27 (EqK.int Tryd.underlying5 sz_5) rfl) (.cons (off := 7) (k1 := [.i .u8, .i .u8, .i .u8, .i .u8, .i .u8, .i .u8]) (k2 := [.i .i64, .i .u32, .i .u32, .i .i64, .i .i64, .i .i64]) (by kernel_rfl) rfl (EqK.array Tryd.underlying27 sz_27 (EqK.int Tryd.underlying5 sz_5) rfl) (.cons (off := 13) (k1 := [.i .i64]) (k2 := [.i .u32, .i .u32, .i .i64, .i .i64, .i .i64]) (by kernel_rfl) rfl (EqK.int Tryd.underlying3 sz_3) (.cons (off := 14) (k1 := [.i .u32]) (k2 := [.i .u32, .i .i64, .i .i64, .i .i64]) (by kernel_rfl) rfl (EqK.int Tryd.underlying29 sz_29) (.cons (off := 15) (k1 := [.i .u32]) (k2 := [.i .i64, .i .i64, .i .i64]) (by kernel_rfl) rfl (EqK.int Tryd.underlying29 sz_29) (.cons (off := 16) (k1 := [.i .i64]) (k2 := [.i .i64, .i .i64]) (by kernel_rfl) rfl (EqK.int Tryd.underlying3 sz_3) (.cons (off := 17) (k1 := [.i .i64]) (k2 := [.i .i64]) (by kernel_rfl) rfl (EqK.int Tryd.underlying3 sz_3) (.cons (off := 18) (k1 := [.i .i64]) (k2 := []) (by kernel_rfl) rfl (EqK.int Tryd.underlying3 sz_3) .nil))))))))))
theorem eqg_31 : Tryd.prog.eqGuardType Tryd.prog.depth 31 = false := by kernel_rfl
theorem eqk_59 : EqK Tryd.prog 10000 59 true [.i .u64, .i .u64, .i .u64, .i .u64, .i .u64, .i .u64, .i .u64, .i .u64, .i .u64] := (EqK.array Tryd.underlying59 sz_59 (EqK.int Tryd.underlying22 sz_22) rfl)
theorem eqg_59 : Tryd.prog.eqGuardType Tryd.prog.depth 59 = false := by kernel_rfl
theorem eqk_86 : EqK Tryd.prog 10000 86 true [.i .u64, .i .u64, .i .u64, .i .u64, .i .u64, .i .u64, .i .u64, .i .u64, .i .u64, .i .u64, .i .u64, .i .u64, .i .u64, .i .u64, .i .u64, .i .u64, .i .u64, .i .u64] := (EqK.struct Tryd.underlying86 (by kernel_rfl) sz_86 (.cons (off := 0) (k1 := [.i .u64, .i .u64, .i .u64, .i .u64, .i .u64, .i .u64, .i .u64, .i .u64, .i .u64]) (k2 := [.i .u64, .i .u64, .i .u64, .i .u64, .i .u64, .i .u64, .i .u64, .i .u64, .i .u64]) (by kernel_rfl) rfl (EqK.array Tryd.underlying23 sz_23 (EqK.int Tryd.underlying22 sz_22) rfl) (.cons (off := 9) (k1 := [.i .u64, .i .u64, .i .u64, .i .u64, .i .u64, .i .u64, .i .u64, .i .u64, .i .u64]) (k2 := []) (by kernel_rfl) rfl (EqK.array Tryd.underlying23 sz_23 (EqK.int Tryd.underlying22 sz_22) rfl) .nil)))
theorem eqg_86 : Tryd.prog.eqGuardType Tryd.prog.depth 86 = false := by kernel_rfl
theorem ck_2 : callOk Tryd.prog 2 := callOk_of Tryd.func2 (by kernel_rfl) rfl
theorem ck_3 : callOk Tryd.prog 3 := callOk_of Tryd.func3 (by kernel_rfl) rfl
theorem ck_4 : callOk Tryd.prog 4 := callOk_of Tryd.func4 (by kernel_rfl) rfl
theorem ck_5 : callOk Tryd.prog 5 := callOk_of Tryd.func5 (by kernel_rfl) rfl
theorem ck_6 : callOk Tryd.prog 6 := callOk_of Tryd.func6 (by kernel_rfl) rfl
theorem ck_7 : callOk Tryd.prog 7 := callOk_of Tryd.func7 (by kernel_rfl) rfl
theorem ck_8 : callOk Tryd.prog 8 := callOk_of Tryd.func8 (by kernel_rfl) rfl
theorem ck_9 : callOk Tryd.prog 9 := callOk_of Tryd.func9 (by kernel_rfl) rfl
theorem ck_10 : callOk Tryd.prog 10 := callOk_of Tryd.func10 (by kernel_rfl) rfl
theorem ck_11 : callOk Tryd.prog 11 := callOk_of Tryd.func11 (by kernel_rfl) rfl
theorem ck_12 : callOk Tryd.prog 12 := callOk_of Tryd.func12 (by kernel_rfl) rfl
theorem ck_13 : callOk Tryd.prog 13 := callOk_of Tryd.func13 (by kernel_rfl) rfl
theorem ck_14 : callOk Tryd.prog 14 := callOk_of Tryd.func14 (by kernel_rfl) rfl
theorem ck_15 : callOk Tryd.prog 15 := callOk_of Tryd.func15 (by kernel_rfl) rfl
theorem ck_16 : callOk Tryd.prog 16 := callOk_of Tryd.func16 (by kernel_rfl) rfl
theorem ck_17 : callOk Tryd.prog 17 := callOk_of Tryd.func17 (by kernel_rfl) rfl
theorem ck_18 : callOk Tryd.prog 18 := callOk_of Tryd.func18 (by kernel_rfl) rfl
theorem ck_19 : callOk Tryd.prog 19 := callOk_of Tryd.func19 (by kernel_rfl) rfl
theorem ck_20 : callOk Tryd.prog 20 := callOk_of Tryd.func20 (by kernel_rfl) rfl
theorem ck_21 : callOk Tryd.prog 21 := callOk_of Tryd.func21 (by kernel_rfl) rfl
theorem ck_22 : callOk Tryd.prog 22 := callOk_of Tryd.func22 (by kernel_rfl) rfl
theorem ck_23 : callOk Tryd.prog 23 := callOk_of Tryd.func23 (by kernel_rfl) rfl
theorem ck_24 : callOk Tryd.prog 24 := callOk_of Tryd.func24 (by kernel_rfl) rfl
theorem ck_25 : callOk Tryd.prog 25 := callOk_of Tryd.func25 (by kernel_rfl) rfl
theorem ck_26 : callOk Tryd.prog 26 := callOk_of Tryd.func26 (by kernel_rfl) rfl
theorem ck_27 : callOk Tryd.prog 27 := callOk_of Tryd.func27 (by kernel_rfl) rfl
theorem ck_28 : callOk Tryd.prog 28 := callOk_of Tryd.func28 (by kernel_rfl) rfl
theorem ck_29 : callOk Tryd.prog 29 := callOk_of Tryd.func29 (by kernel_rfl) rfl
theorem ck_30 : callOk Tryd.prog 30 := callOk_of Tryd.func30 (by kernel_rfl) rfl
theorem ck_31 : callOk Tryd.prog 31 := callOk_of Tryd.func31 (by kernel_rfl) rfl
theorem ck_32 : callOk Tryd.prog 32 := callOk_of Tryd.func32 (by kernel_rfl) rfl
theorem ck_33 : callOk Tryd.prog 33 := callOk_of Tryd.func33 (by kernel_rfl) rfl
theorem ck_34 : callOk Tryd.prog 34 := callOk_of Tryd.func34 (by kernel_rfl) rfl
theorem ck_35 : callOk Tryd.prog 35 := callOk_of Tryd.func35 (by kernel_rfl) rfl
theorem ck_36 : callOk Tryd.prog 36 := callOk_of Tryd.func36 (by kernel_rfl) rfl
theorem ck_37 : callOk Tryd.prog 37 := callOk_of Tryd.func37 (by kernel_rfl) rfl
theorem ck_38 : callOk Tryd.prog 38 := callOk_of Tryd.func38 (by kernel_rfl) rfl
theorem ck_39 : callOk Tryd.prog 39 := callOk_of Tryd.func39 (by kernel_rfl) rfl
theorem ck_40 : callOk Tryd.prog 40 := callOk_of Tryd.func40 (by kernel_rfl) rfl
theorem ck_41 : callOk Tryd.prog 41 := callOk_of Tryd.func41 (by kernel_rfl) rfl
theorem ck_42 : callOk Tryd.prog 42 := callOk_of Tryd.func42 (by kernel_rfl) rfl
theorem ck_43 : callOk Tryd.prog 43 := callOk_of Tryd.func43 (by kernel_rfl) rfl
theorem ck_44 : callOk Tryd.prog 44 := callOk_of Tryd.func44 (by kernel_rfl) rfl
theorem ck_45 : callOk Tryd.prog 45 := callOk_of Tryd.func45 (by kernel_rfl) rfl
theorem ck_46 : callOk Tryd.prog 46 := callOk_of Tryd.func46 (by kernel_rfl) rfl
theorem ck_47 : callOk Tryd.prog 47 := callOk_of Tryd.func47 (by kernel_rfl) rfl
theorem ck_48 : callOk Tryd.prog 48 := callOk_of Tryd.func48 (by kernel_rfl) rfl
theorem ck_49 : callOk Tryd.prog 49 := callOk_of Tryd.func49 (by kernel_rfl) rfl
theorem ck_50 : callOk Tryd.prog 50 := callOk_of Tryd.func50 (by kernel_rfl) rfl
theorem ck_51 : callOk Tryd.prog 51 := callOk_of Tryd.func51 (by kernel_rfl) rfl
theorem ck_52 : callOk Tryd.prog 52 := callOk_of Tryd.func52 (by kernel_rfl) rfl
theorem ck_53 : callOk Tryd.prog 53 := callOk_of Tryd.func53 (by kernel_rfl) rfl
theorem ck_54 : callOk Tryd.prog 54 := callOk_of Tryd.func54 (by kernel_rfl) rfl
theorem ck_55 : callOk Tryd.prog 55 := callOk_of Tryd.func55 (by kernel_rfl) rfl
theorem ck_56 : callOk Tryd.prog 56 := callOk_of Tryd.func56 (by kernel_rfl) rfl
theorem ck_57 : callOk Tryd.prog 57 := callOk_of Tryd.func57 (by kernel_rfl) rfl
theorem ck_58 : callOk Tryd.prog 58 := callOk_of Tryd.func58 (by kernel_rfl) rfl
theorem ck_59 : callOk Tryd.prog 59 := callOk_of Tryd.func59 (by kernel_rfl) rfl
theorem ck_60 : callOk Tryd.prog 60 := callOk_of Tryd.func60 (by kernel_rfl) rfl
theorem ck_61 : callOk Tryd.prog 61 := callOk_of Tryd.func61 (by kernel_rfl) rfl
theorem ck_62 : callOk Tryd.prog 62 := callOk_of Tryd.func62 (by kernel_rfl) rfl
theorem ck_63 : callOk Tryd.prog 63 := callOk_of Tryd.func63 (by kernel_rfl) rfl
theorem ck_64 : callOk Tryd.prog 64 := callOk_of Tryd.func64 (by kernel_rfl) rfl
theorem ck_65 : callOk Tryd.prog 65 := callOk_of Tryd.func65 (by kernel_rfl) rfl
theorem ck_66 : callOk Tryd.prog 66 := callOk_of Tryd.func66 (by kernel_rfl) rfl
theorem ck_67 : callOk Tryd.prog 67 := callOk_of Tryd.func67 (by kernel_rfl) rfl
theorem ck_68 : callOk Tryd.prog 68 := callOk_of Tryd.func68 (by kernel_rfl) rfl
theorem ck_69 : callOk Tryd.prog 69 := callOk_of Tryd.func69 (by kernel_rfl) rfl
theorem ck_70 : callOk Tryd.prog 70 := callOk_of Tryd.func70 (by kernel_rfl) rfl
theorem ck_71 : callOk Tryd.prog 71 := callOk_of Tryd.func71 (by kernel_rfl) rfl
theorem ck_72 : callOk Tryd.prog 72 := callOk_of Tryd.func72 (by kernel_rfl) rfl
theorem ck_73 : callOk Tryd.prog 73 := callOk_of Tryd.func73 (by kernel_rfl) rfl
theorem ck_74 : callOk Tryd.prog 74 := callOk_of Tryd.func74 (by kernel_rfl) rfl
theorem ck_75 : callOk Tryd.prog 75 := callOk_of Tryd.func75 (by kernel_rfl) rfl
theorem ck_76 : callOk Tryd.prog 76 := callOk_of Tryd.func76 (by kernel_rfl) rfl
theorem ck_77 : callOk Tryd.prog 77 := callOk_of Tryd.func77 (by kernel_rfl) rfl
theorem ck_78 : callOk Tryd.prog 78 := callOk_of Tryd.func78 (by kernel_rfl) rfl
theorem ck_79 : callOk Tryd.prog 79 := callOk_of Tryd.func79 (by kernel_rfl) rfl
theorem ck_80 : callOk Tryd.prog 80 := callOk_of Tryd.func80 (by kernel_rfl) rfl
theorem ck_81 : callOk Tryd.prog 81 := callOk_of Tryd.func81 (by kernel_rfl) rfl
theorem ck_82 : callOk Tryd.prog 82 := callOk_of Tryd.func82 (by kernel_rfl) rfl
theorem ck_83 : callOk Tryd.prog 83 := callOk_of Tryd.func83 (by kernel_rfl) rfl
theorem ck_84 : callOk Tryd.prog 84 := callOk_of Tryd.func84 (by kernel_rfl) rfl
theorem ck_85 : callOk Tryd.prog 85 := callOk_of Tryd.func85 (by kernel_rfl) rfl
theorem ck_86 : callOk Tryd.prog 86 := callOk_of Tryd.func86 (by kernel_rfl) rfl
theorem ck_87 : callOk Tryd.prog 87 := callOk_of Tryd.func87 (by kernel_rfl) rfl
theorem ck_88 : callOk Tryd.prog 88 := callOk_of Tryd.func88 (by kernel_rfl) rfl
theorem ck_89 : callOk Tryd.prog 89 := callOk_of Tryd.func89 (by kernel_rfl) rfl
theorem ck_90 : callOk Tryd.prog 90 := callOk_of Tryd.func90 (by kernel_rfl) rfl
theorem ck_91 : callOk Tryd.prog 91 := callOk_of Tryd.func91 (by kernel_rfl) rfl
theorem ck_92 : callOk Tryd.prog 92 := callOk_of Tryd.func92 (by kernel_rfl) rfl
theorem ck_93 : callOk Tryd.prog 93 := callOk_of Tryd.func93 (by kernel_rfl) rfl
theorem ck_94 : callOk Tryd.prog 94 := callOk_of Tryd.func94 (by kernel_rfl) rfl
theorem ck_95 : callOk Tryd.prog 95 := callOk_of Tryd.func95 (by kernel_rfl) rfl
theorem ck_96 : callOk Tryd.prog 96 := callOk_of Tryd.func96 (by kernel_rfl) rfl
theorem ck_97 : callOk Tryd.prog 97 := callOk_of Tryd.func97 (by kernel_rfl) rfl
theorem ck_98 : callOk Tryd.prog 98 := callOk_of Tryd.func98 (by kernel_rfl) rfl
theorem ck_99 : callOk Tryd.prog 99 := callOk_of Tryd.func99 (by kernel_rfl) rfl
theorem ck_100 : callOk Tryd.prog 100 := callOk_of Tryd.func100 (by kernel_rfl) rfl
theorem ck_101 : callOk Tryd.prog 101 := callOk_of Tryd.func101 (by kernel_rfl) rfl
theorem ck_102 : callOk Tryd.prog 102 := callOk_of Tryd.func102 (by kernel_rfl) rfl
theorem ck_103 : callOk Tryd.prog 103 := callOk_of Tryd.func103 (by kernel_rfl) rfl
theorem ck_104 : callOk Tryd.prog 104 := callOk_of Tryd.func104 (by kernel_rfl) rfl
theorem ck_105 : callOk Tryd.prog 105 := callOk_of Tryd.func105 (by kernel_rfl) rfl
theorem ck_106 : callOk Tryd.prog 106 := callOk_of Tryd.func106 (by kernel_rfl) rfl
theorem ck_107 : callOk Tryd.prog 107 := callOk_of Tryd.func107 (by kernel_rfl) rfl
theorem ck_108 : callOk Tryd.prog 108 := callOk_of Tryd.func108 (by kernel_rfl) rfl
theorem ck_109 : callOk Tryd.prog 109 := callOk_of Tryd.func109 (by kernel_rfl) rfl
theorem ck_110 : callOk Tryd.prog 110 := callOk_of Tryd.func110 (by kernel_rfl) rfl
theorem ck_111 : callOk Tryd.prog 111 := callOk_of Tryd.func111 (by kernel_rfl) rfl
theorem ck_112 : callOk Tryd.prog 112 := callOk_of Tryd.func112 (by kernel_rfl) rfl
theorem ck_113 : callOk Tryd.prog 113 := callOk_of Tryd.func113 (by kernel_rfl) rfl
theorem ck_114 : callOk Tryd.prog 114 := callOk_of Tryd.func114 (by kernel_rfl) rfl
theorem ck_115 : callOk Tryd.prog 115 := callOk_of Tryd.func115 (by kernel_rfl) rfl
theorem ck_116 : callOk Tryd.prog 116 := callOk_of Tryd.func116 (by kernel_rfl) rfl
theorem ck_117 : callOk Tryd.prog 117 := callOk_of Tryd.func117 (by kernel_rfl) rfl
theorem ck_118 : callOk Tryd.prog 118 := callOk_of Tryd.func118 (by kernel_rfl) rfl
theorem ck_119 : callOk Tryd.prog 119 := callOk_of Tryd.func119 (by kernel_rfl) rfl
theorem ck_120 : callOk Tryd.prog 120 := callOk_of Tryd.func120 (by kernel_rfl) rfl
theorem ck_121 : callOk Tryd.prog 121 := callOk_of Tryd.func121 (by kernel_rfl) rfl
theorem ck_122 : callOk Tryd.prog 122 := callOk_of Tryd.func122 (by kernel_rfl) rfl
theorem ck_123 : callOk Tryd.prog 123 := callOk_of Tryd.func123 (by kernel_rfl) rfl
theorem ck_124 : callOk Tryd.prog 124 := callOk_of Tryd.func124 (by kernel_rfl) rfl
theorem ck_125 : callOk Tryd.prog 125 := callOk_of Tryd.func125 (by kernel_rfl) rfl
theorem ck_126 : callOk Tryd.prog 126 := callOk_of Tryd.func126 (by kernel_rfl) rfl
theorem ck_127 : callOk Tryd.prog 127 := callOk_of Tryd.func127 (by kernel_rfl) rfl
theorem ck_128 : callOk Tryd.prog 128 := callOk_of Tryd.func128 (by kernel_rfl) rfl
theorem ck_129 : callOk Tryd.prog 129 := callOk_of Tryd.func129 (by kernel_rfl) rfl
theorem ck_130 : callOk Tryd.prog 130 := callOk_of Tryd.func130 (by kernel_rfl) rfl
theorem ck_131 : callOk Tryd.prog 131 := callOk_of Tryd.func131 (by kernel_rfl) rfl
theorem ck_132 : callOk Tryd.prog 132 := callOk_of Tryd.func132 (by kernel_rfl) rfl
theorem ck_133 : callOk Tryd.prog 133 := callOk_of Tryd.func133 (by kernel_rfl) rfl
theorem ck_134 : callOk Tryd.prog 134 := callOk_of Tryd.func134 (by kernel_rfl) rfl
theorem ck_135 : callOk Tryd.prog 135 := callOk_of Tryd.func135 (by kernel_rfl) rfl
theorem ck_136 : callOk Tryd.prog 136 := callOk_of Tryd.func136 (by kernel_rfl) rfl
theorem ck_137 : callOk Tryd.prog 137 := callOk_of Tryd.func137 (by kernel_rfl) rfl
theorem ck_138 : callOk Tryd.prog 138 := callOk_of Tryd.func138 (by kernel_rfl) rfl
theorem ck_139 : callOk Tryd.prog 139 := callOk_of Tryd.func139 (by kernel_rfl) rfl
theorem ck_140 : callOk Tryd.prog 140 := callOk_of Tryd.func140 (by kernel_rfl) rfl
theorem ck_141 : callOk Tryd.prog 141 := callOk_of Tryd.func141 (by kernel_rfl) rfl
theorem ck_142 : callOk Tryd.prog 142 := callOk_of Tryd.func142 (by kernel_rfl) rfl
theorem ck_143 : callOk Tryd.prog 143 := callOk_of Tryd.func143 (by kernel_rfl) rfl
theorem ck_144 : callOk Tryd.prog 144 := callOk_of Tryd.func144 (by kernel_rfl) rfl
theorem ck_145 : callOk Tryd.prog 145 := callOk_of Tryd.func145 (by kernel_rfl) rfl
theorem ck_146 : callOk Tryd.prog 146 := callOk_of Tryd.func146 (by kernel_rfl) rfl
theorem ck_167 : callOk Tryd.prog 167 := callOk_of Tryd.func167 (by kernel_rfl) rfl
end Go.Proofs.YtodaanhhnjkncaaDoor
