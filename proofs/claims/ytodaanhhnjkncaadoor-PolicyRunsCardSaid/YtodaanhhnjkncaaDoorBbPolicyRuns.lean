/- Texts joined: engine, contracts and laws, in the order in which they build. -/
import Derived.Test.YtodaanhhnjkncaaDoorProg
import Derived.Test.YtodaanhhnjkncaaDoorBaPolicyRuns
/- The closed facts on this program's types and functions that the engine's laws ask for (printed by gen_ty.py). -/
namespace Go.Proofs.YtodaanhhnjkncaaDoor
open Go.RowKit
theorem mixed : Tryd.prog.follows .mixedOrders = true := by kernel_rfl
theorem sz_1 : (Tryd.prog.info? 1).map (·.size) = some 1 := by kernel_rfl
theorem by_1 : (Tryd.prog.info? 1).map (·.bytes) = some 8 := by kernel_rfl
theorem one_1 : One Tryd.prog 1 := One.mk Tryd.underlying1 rfl sz_1
theorem zero_1 : Zero Tryd.prog 1 [.nilFunc] := Zero.mk (z := .nilFunc) (by kernel_rfl) rfl
theorem sz_2 : (Tryd.prog.info? 2).map (·.size) = some 1 := by kernel_rfl
theorem by_2 : (Tryd.prog.info? 2).map (·.bytes) = some 8 := by kernel_rfl
theorem one_2 : One Tryd.prog 2 := One.mk Tryd.underlying2 rfl sz_2
theorem zero_2 : Zero Tryd.prog 2 [.int .i64 0] := Zero.mk (z := .int .i64 0) (by kernel_rfl) rfl
theorem sz_3 : (Tryd.prog.info? 3).map (·.size) = some 1 := by kernel_rfl
theorem by_3 : (Tryd.prog.info? 3).map (·.bytes) = some 8 := by kernel_rfl
theorem one_3 : One Tryd.prog 3 := One.mk Tryd.underlying3 rfl sz_3
theorem zero_3 : Zero Tryd.prog 3 [.int .i64 0] := Zero.mk (z := .int .i64 0) (by kernel_rfl) rfl
theorem sz_4 : (Tryd.prog.info? 4).map (·.size) = some 1 := by kernel_rfl
theorem by_4 : (Tryd.prog.info? 4).map (·.bytes) = some 1 := by kernel_rfl
theorem one_4 : One Tryd.prog 4 := One.mk Tryd.underlying4 rfl sz_4
theorem zero_4 : Zero Tryd.prog 4 [.bool false] := Zero.mk (z := .bool false) (by kernel_rfl) rfl
theorem sz_5 : (Tryd.prog.info? 5).map (·.size) = some 1 := by kernel_rfl
theorem by_5 : (Tryd.prog.info? 5).map (·.bytes) = some 1 := by kernel_rfl
theorem one_5 : One Tryd.prog 5 := One.mk Tryd.underlying5 rfl sz_5
theorem zero_5 : Zero Tryd.prog 5 [.int .u8 0] := Zero.mk (z := .int .u8 0) (by kernel_rfl) rfl
theorem sz_6 : (Tryd.prog.info? 6).map (·.size) = some 1 := by kernel_rfl
theorem by_6 : (Tryd.prog.info? 6).map (·.bytes) = some 1 := by kernel_rfl
theorem one_6 : One Tryd.prog 6 := One.mk Tryd.underlying6 rfl sz_6
theorem zero_6 : Zero Tryd.prog 6 [.int .u8 0] := Zero.mk (z := .int .u8 0) (by kernel_rfl) rfl
theorem sz_7 : (Tryd.prog.info? 7).map (·.size) = some 4 := by kernel_rfl
theorem by_7 : (Tryd.prog.info? 7).map (·.bytes) = some 24 := by kernel_rfl
theorem many_7 : Many Tryd.prog 7 4 := Many.mk Tryd.underlying7 rfl sz_7
theorem zero_7 : Zero Tryd.prog 7 [.int .i64 0, .int .i64 0, .bool false, .int .u8 0] := Zero.mk (z := .agg #[.int .i64 0, .int .i64 0, .bool false, .int .u8 0]) (by kernel_rfl) rfl
theorem sz_8 : (Tryd.prog.info? 8).map (·.size) = some 4 := by kernel_rfl
theorem by_8 : (Tryd.prog.info? 8).map (·.bytes) = some 24 := by kernel_rfl
theorem many_8 : Many Tryd.prog 8 4 := Many.mk Tryd.underlying8 rfl sz_8
theorem zero_8 : Zero Tryd.prog 8 [.int .i64 0, .int .i64 0, .bool false, .int .u8 0] := Zero.mk (z := .agg #[.int .i64 0, .int .i64 0, .bool false, .int .u8 0]) (by kernel_rfl) rfl
theorem sz_9 : (Tryd.prog.info? 9).map (·.size) = some 1 := by kernel_rfl
theorem by_9 : (Tryd.prog.info? 9).map (·.bytes) = some 16 := by kernel_rfl
theorem one_9 : One Tryd.prog 9 := One.mk Tryd.underlying9 rfl sz_9
theorem zero_9 : Zero Tryd.prog 9 [.string ⟨#[]⟩] := Zero.mk (z := .string ⟨#[]⟩) (by kernel_rfl) rfl
theorem sz_10 : (Tryd.prog.info? 10).map (·.size) = some 1 := by kernel_rfl
theorem by_10 : (Tryd.prog.info? 10).map (·.bytes) = some 16 := by kernel_rfl
theorem one_10 : One Tryd.prog 10 := One.mk Tryd.underlying10 rfl sz_10
theorem zero_10 : Zero Tryd.prog 10 [.string ⟨#[]⟩] := Zero.mk (z := .string ⟨#[]⟩) (by kernel_rfl) rfl
theorem sz_11 : (Tryd.prog.info? 11).map (·.size) = some 1 := by kernel_rfl
theorem by_11 : (Tryd.prog.info? 11).map (·.bytes) = some 16 := by kernel_rfl
theorem one_11 : One Tryd.prog 11 := One.mk Tryd.underlying11 rfl sz_11
theorem zero_11 : Zero Tryd.prog 11 [.string ⟨#[]⟩] := Zero.mk (z := .string ⟨#[]⟩) (by kernel_rfl) rfl
theorem sz_12 : (Tryd.prog.info? 12).map (·.size) = some 1 := by kernel_rfl
theorem by_12 : (Tryd.prog.info? 12).map (·.bytes) = some 8 := by kernel_rfl
theorem one_12 : One Tryd.prog 12 := One.mk Tryd.underlying12 rfl sz_12
theorem zero_12 : Zero Tryd.prog 12 [.int .u64 0] := Zero.mk (z := .int .u64 0) (by kernel_rfl) rfl
theorem sz_13 : (Tryd.prog.info? 13).map (·.size) = some 2 := by kernel_rfl
theorem by_13 : (Tryd.prog.info? 13).map (·.bytes) = some 24 := by kernel_rfl
theorem many_13 : Many Tryd.prog 13 2 := Many.mk Tryd.underlying13 rfl sz_13
theorem zero_13 : Zero Tryd.prog 13 [.string ⟨#[]⟩, .int .u64 0] := Zero.mk (z := .agg #[.string ⟨#[]⟩, .int .u64 0]) (by kernel_rfl) rfl
theorem sz_14 : (Tryd.prog.info? 14).map (·.size) = some 2 := by kernel_rfl
theorem by_14 : (Tryd.prog.info? 14).map (·.bytes) = some 24 := by kernel_rfl
theorem many_14 : Many Tryd.prog 14 2 := Many.mk Tryd.underlying14 rfl sz_14
theorem zero_14 : Zero Tryd.prog 14 [.string ⟨#[]⟩, .int .u64 0] := Zero.mk (z := .agg #[.string ⟨#[]⟩, .int .u64 0]) (by kernel_rfl) rfl
theorem sz_15 : (Tryd.prog.info? 15).map (·.size) = some 1 := by kernel_rfl
theorem by_15 : (Tryd.prog.info? 15).map (·.bytes) = some 8 := by kernel_rfl
theorem one_15 : One Tryd.prog 15 := One.mk Tryd.underlying15 rfl sz_15
theorem zero_15 : Zero Tryd.prog 15 [.pointer none] := Zero.mk (z := .pointer none) (by kernel_rfl) rfl
theorem sz_16 : (Tryd.prog.info? 16).map (·.size) = some 1 := by kernel_rfl
theorem by_16 : (Tryd.prog.info? 16).map (·.bytes) = some 8 := by kernel_rfl
theorem one_16 : One Tryd.prog 16 := One.mk Tryd.underlying16 rfl sz_16
theorem zero_16 : Zero Tryd.prog 16 [.pointer none] := Zero.mk (z := .pointer none) (by kernel_rfl) rfl
theorem sz_17 : (Tryd.prog.info? 17).map (·.size) = some 1 := by kernel_rfl
theorem by_17 : (Tryd.prog.info? 17).map (·.bytes) = some 8 := by kernel_rfl
theorem one_17 : One Tryd.prog 17 := One.mk Tryd.underlying17 rfl sz_17
theorem zero_17 : Zero Tryd.prog 17 [.pointer none] := Zero.mk (z := .pointer none) (by kernel_rfl) rfl
theorem sz_18 : (Tryd.prog.info? 18).map (·.size) = some 1 := by kernel_rfl
theorem by_18 : (Tryd.prog.info? 18).map (·.bytes) = some 8 := by kernel_rfl
theorem many_18 : Many Tryd.prog 18 1 := Many.mk Tryd.underlying18 rfl sz_18
theorem zero_18 : Zero Tryd.prog 18 [.pointer none] := Zero.mk (z := .agg #[.pointer none]) (by kernel_rfl) rfl
theorem sz_19 : (Tryd.prog.info? 19).map (·.size) = some 1 := by kernel_rfl
theorem by_19 : (Tryd.prog.info? 19).map (·.bytes) = some 8 := by kernel_rfl
theorem many_19 : Many Tryd.prog 19 1 := Many.mk Tryd.underlying19 rfl sz_19
theorem zero_19 : Zero Tryd.prog 19 [.pointer none] := Zero.mk (z := .agg #[.pointer none]) (by kernel_rfl) rfl
theorem sz_20 : (Tryd.prog.info? 20).map (·.size) = some 1 := by kernel_rfl
theorem by_20 : (Tryd.prog.info? 20).map (·.bytes) = some 16 := by kernel_rfl
theorem one_20 : One Tryd.prog 20 := One.mk Tryd.underlying20 rfl sz_20
theorem zero_20 : Zero Tryd.prog 20 [.nilIface] := Zero.mk (z := .nilIface) (by kernel_rfl) rfl
theorem sz_21 : (Tryd.prog.info? 21).map (·.size) = some 1 := by kernel_rfl
theorem by_21 : (Tryd.prog.info? 21).map (·.bytes) = some 4 := by kernel_rfl
theorem one_21 : One Tryd.prog 21 := One.mk Tryd.underlying21 rfl sz_21
theorem zero_21 : Zero Tryd.prog 21 [.int .i32 0] := Zero.mk (z := .int .i32 0) (by kernel_rfl) rfl
theorem sz_22 : (Tryd.prog.info? 22).map (·.size) = some 1 := by kernel_rfl
theorem by_22 : (Tryd.prog.info? 22).map (·.bytes) = some 8 := by kernel_rfl
theorem one_22 : One Tryd.prog 22 := One.mk Tryd.underlying22 rfl sz_22
theorem zero_22 : Zero Tryd.prog 22 [.int .u64 0] := Zero.mk (z := .int .u64 0) (by kernel_rfl) rfl
theorem sz_23 : (Tryd.prog.info? 23).map (·.size) = some 9 := by kernel_rfl
theorem by_23 : (Tryd.prog.info? 23).map (·.bytes) = some 72 := by kernel_rfl
theorem many_23 : Many Tryd.prog 23 9 := Many.mk Tryd.underlying23 rfl sz_23
theorem zero_23 : Zero Tryd.prog 23 [.int .u64 0, .int .u64 0, .int .u64 0, .int .u64 0, .int .u64 0, .int .u64 0, .int .u64 0, .int .u64 0, .int .u64 0] := Zero.mk (z := .agg #[.int .u64 0, .int .u64 0, .int .u64 0, .int .u64 0, .int .u64 0, .int .u64 0, .int .u64 0, .int .u64 0, .int .u64 0]) (by kernel_rfl) rfl
theorem sz_24 : (Tryd.prog.info? 24).map (·.size) = some 10 := by kernel_rfl
theorem by_24 : (Tryd.prog.info? 24).map (·.bytes) = some 80 := by kernel_rfl
theorem many_24 : Many Tryd.prog 24 10 := Many.mk Tryd.underlying24 rfl sz_24
theorem zero_24 : Zero Tryd.prog 24 [.int .i64 0, .int .u64 0, .int .u64 0, .int .u64 0, .int .u64 0, .int .u64 0, .int .u64 0, .int .u64 0, .int .u64 0, .int .u64 0] := Zero.mk (z := .agg #[.int .i64 0, .int .u64 0, .int .u64 0, .int .u64 0, .int .u64 0, .int .u64 0, .int .u64 0, .int .u64 0, .int .u64 0, .int .u64 0]) (by kernel_rfl) rfl
theorem sz_25 : (Tryd.prog.info? 25).map (·.size) = some 10 := by kernel_rfl
theorem by_25 : (Tryd.prog.info? 25).map (·.bytes) = some 80 := by kernel_rfl
theorem many_25 : Many Tryd.prog 25 10 := Many.mk Tryd.underlying25 rfl sz_25
theorem zero_25 : Zero Tryd.prog 25 [.int .i64 0, .int .u64 0, .int .u64 0, .int .u64 0, .int .u64 0, .int .u64 0, .int .u64 0, .int .u64 0, .int .u64 0, .int .u64 0] := Zero.mk (z := .agg #[.int .i64 0, .int .u64 0, .int .u64 0, .int .u64 0, .int .u64 0, .int .u64 0, .int .u64 0, .int .u64 0, .int .u64 0, .int .u64 0]) (by kernel_rfl) rfl
theorem sz_26 : (Tryd.prog.info? 26).map (·.size) = some 6 := by kernel_rfl
theorem by_26 : (Tryd.prog.info? 26).map (·.bytes) = some 6 := by kernel_rfl
theorem many_26 : Many Tryd.prog 26 6 := Many.mk Tryd.underlying26 rfl sz_26
theorem zero_26 : Zero Tryd.prog 26 [.int .u8 0, .int .u8 0, .int .u8 0, .int .u8 0, .int .u8 0, .int .u8 0] := Zero.mk (z := .agg #[.int .u8 0, .int .u8 0, .int .u8 0, .int .u8 0, .int .u8 0, .int .u8 0]) (by kernel_rfl) rfl
theorem sz_27 : (Tryd.prog.info? 27).map (·.size) = some 6 := by kernel_rfl
theorem by_27 : (Tryd.prog.info? 27).map (·.bytes) = some 6 := by kernel_rfl
theorem many_27 : Many Tryd.prog 27 6 := Many.mk Tryd.underlying27 rfl sz_27
theorem zero_27 : Zero Tryd.prog 27 [.int .u8 0, .int .u8 0, .int .u8 0, .int .u8 0, .int .u8 0, .int .u8 0] := Zero.mk (z := .agg #[.int .u8 0, .int .u8 0, .int .u8 0, .int .u8 0, .int .u8 0, .int .u8 0]) (by kernel_rfl) rfl
theorem sz_28 : (Tryd.prog.info? 28).map (·.size) = some 1 := by kernel_rfl
theorem by_28 : (Tryd.prog.info? 28).map (·.bytes) = some 4 := by kernel_rfl
theorem one_28 : One Tryd.prog 28 := One.mk Tryd.underlying28 rfl sz_28
theorem zero_28 : Zero Tryd.prog 28 [.int .u32 0] := Zero.mk (z := .int .u32 0) (by kernel_rfl) rfl
theorem sz_29 : (Tryd.prog.info? 29).map (·.size) = some 1 := by kernel_rfl
theorem by_29 : (Tryd.prog.info? 29).map (·.bytes) = some 4 := by kernel_rfl
theorem one_29 : One Tryd.prog 29 := One.mk Tryd.underlying29 rfl sz_29
theorem zero_29 : Zero Tryd.prog 29 [.int .u32 0] := Zero.mk (z := .int .u32 0) (by kernel_rfl) rfl
theorem sz_30 : (Tryd.prog.info? 30).map (·.size) = some 19 := by kernel_rfl
theorem by_30 : (Tryd.prog.info? 30).map (·.bytes) = some 64 := by kernel_rfl
theorem many_30 : Many Tryd.prog 30 19 := Many.mk Tryd.underlying30 rfl sz_30
theorem zero_30 : Zero Tryd.prog 30 [.int .i64 0, .int .u8 0, .int .u8 0, .int .u8 0, .int .u8 0, .int .u8 0, .int .u8 0, .int .u8 0, .int .u8 0, .int .u8 0, .int .u8 0, .int .u8 0, .int .u8 0, .int .i64 0, .int .u32 0, .int .u32 0, .int .i64 0, .int .i64 0, .int .i64 0] := Zero.mk (z := .agg #[.int .i64 0, .int .u8 0, .int .u8 0, .int .u8 0, .int .u8 0, .int .u8 0, .int .u8 0, .int .u8 0, .int .u8 0, .int .u8 0, .int .u8 0, .int .u8 0, .int .u8 0, .int .i64 0, .int .u32 0, .int .u32 0, .int .i64 0, .int .i64 0, .int .i64 0]) (by kernel_rfl) rfl
theorem sz_31 : (Tryd.prog.info? 31).map (·.size) = some 19 := by kernel_rfl
theorem by_31 : (Tryd.prog.info? 31).map (·.bytes) = some 64 := by kernel_rfl
theorem many_31 : Many Tryd.prog 31 19 := Many.mk Tryd.underlying31 rfl sz_31
theorem zero_31 : Zero Tryd.prog 31 [.int .i64 0, .int .u8 0, .int .u8 0, .int .u8 0, .int .u8 0, .int .u8 0, .int .u8 0, .int .u8 0, .int .u8 0, .int .u8 0, .int .u8 0, .int .u8 0, .int .u8 0, .int .i64 0, .int .u32 0, .int .u32 0, .int .i64 0, .int .i64 0, .int .i64 0] := Zero.mk (z := .agg #[.int .i64 0, .int .u8 0, .int .u8 0, .int .u8 0, .int .u8 0, .int .u8 0, .int .u8 0, .int .u8 0, .int .u8 0, .int .u8 0, .int .u8 0, .int .u8 0, .int .u8 0, .int .i64 0, .int .u32 0, .int .u32 0, .int .i64 0, .int .i64 0, .int .i64 0]) (by kernel_rfl) rfl
theorem sz_32 : (Tryd.prog.info? 32).map (·.size) = some 1 := by kernel_rfl
theorem by_32 : (Tryd.prog.info? 32).map (·.bytes) = some 8 := by kernel_rfl
theorem one_32 : One Tryd.prog 32 := One.mk Tryd.underlying32 rfl sz_32
theorem zero_32 : Zero Tryd.prog 32 [.nilFunc] := Zero.mk (z := .nilFunc) (by kernel_rfl) rfl
theorem sz_33 : (Tryd.prog.info? 33).map (·.size) = some 1 := by kernel_rfl
theorem by_33 : (Tryd.prog.info? 33).map (·.bytes) = some 8 := by kernel_rfl
theorem one_33 : One Tryd.prog 33 := One.mk Tryd.underlying33 rfl sz_33
theorem zero_33 : Zero Tryd.prog 33 [.int .i64 0] := Zero.mk (z := .int .i64 0) (by kernel_rfl) rfl
theorem sz_34 : (Tryd.prog.info? 34).map (·.size) = some 1 := by kernel_rfl
theorem by_34 : (Tryd.prog.info? 34).map (·.bytes) = some 8 := by kernel_rfl
theorem one_34 : One Tryd.prog 34 := One.mk Tryd.underlying34 rfl sz_34
theorem zero_34 : Zero Tryd.prog 34 [.nilFunc] := Zero.mk (z := .nilFunc) (by kernel_rfl) rfl
theorem sz_35 : (Tryd.prog.info? 35).map (·.size) = some 1 := by kernel_rfl
theorem by_35 : (Tryd.prog.info? 35).map (·.bytes) = some 8 := by kernel_rfl
theorem one_35 : One Tryd.prog 35 := One.mk Tryd.underlying35 rfl sz_35
theorem zero_35 : Zero Tryd.prog 35 [.nilFunc] := Zero.mk (z := .nilFunc) (by kernel_rfl) rfl
theorem sz_36 : (Tryd.prog.info? 36).map (·.size) = some 1 := by kernel_rfl
theorem by_36 : (Tryd.prog.info? 36).map (·.bytes) = some 8 := by kernel_rfl
theorem one_36 : One Tryd.prog 36 := One.mk Tryd.underlying36 rfl sz_36
theorem zero_36 : Zero Tryd.prog 36 [.nilFunc] := Zero.mk (z := .nilFunc) (by kernel_rfl) rfl
theorem sz_37 : (Tryd.prog.info? 37).map (·.size) = some 1 := by kernel_rfl
theorem by_37 : (Tryd.prog.info? 37).map (·.bytes) = some 8 := by kernel_rfl
theorem one_37 : One Tryd.prog 37 := One.mk Tryd.underlying37 rfl sz_37
theorem zero_37 : Zero Tryd.prog 37 [.int .i64 0] := Zero.mk (z := .int .i64 0) (by kernel_rfl) rfl
theorem sz_38 : (Tryd.prog.info? 38).map (·.size) = some 1 := by kernel_rfl
theorem by_38 : (Tryd.prog.info? 38).map (·.bytes) = some 8 := by kernel_rfl
theorem one_38 : One Tryd.prog 38 := One.mk Tryd.underlying38 rfl sz_38
theorem zero_38 : Zero Tryd.prog 38 [.nilFunc] := Zero.mk (z := .nilFunc) (by kernel_rfl) rfl
theorem sz_39 : (Tryd.prog.info? 39).map (·.size) = some 1 := by kernel_rfl
theorem by_39 : (Tryd.prog.info? 39).map (·.bytes) = some 8 := by kernel_rfl
theorem one_39 : One Tryd.prog 39 := One.mk Tryd.underlying39 rfl sz_39
theorem zero_39 : Zero Tryd.prog 39 [.int .u64 0] := Zero.mk (z := .int .u64 0) (by kernel_rfl) rfl
theorem sz_40 : (Tryd.prog.info? 40).map (·.size) = some 1 := by kernel_rfl
theorem by_40 : (Tryd.prog.info? 40).map (·.bytes) = some 8 := by kernel_rfl
theorem one_40 : One Tryd.prog 40 := One.mk Tryd.underlying40 rfl sz_40
theorem zero_40 : Zero Tryd.prog 40 [.nilFunc] := Zero.mk (z := .nilFunc) (by kernel_rfl) rfl
theorem sz_41 : (Tryd.prog.info? 41).map (·.size) = some 1 := by kernel_rfl
theorem by_41 : (Tryd.prog.info? 41).map (·.bytes) = some 8 := by kernel_rfl
theorem one_41 : One Tryd.prog 41 := One.mk Tryd.underlying41 rfl sz_41
theorem zero_41 : Zero Tryd.prog 41 [.nilFunc] := Zero.mk (z := .nilFunc) (by kernel_rfl) rfl
theorem sz_42 : (Tryd.prog.info? 42).map (·.size) = some 1 := by kernel_rfl
theorem by_42 : (Tryd.prog.info? 42).map (·.bytes) = some 8 := by kernel_rfl
theorem one_42 : One Tryd.prog 42 := One.mk Tryd.underlying42 rfl sz_42
theorem zero_42 : Zero Tryd.prog 42 [.nilFunc] := Zero.mk (z := .nilFunc) (by kernel_rfl) rfl
theorem sz_43 : (Tryd.prog.info? 43).map (·.size) = some 1 := by kernel_rfl
theorem by_43 : (Tryd.prog.info? 43).map (·.bytes) = some 24 := by kernel_rfl
theorem one_43 : One Tryd.prog 43 := One.mk Tryd.underlying43 rfl sz_43
theorem zero_43 : Zero Tryd.prog 43 [.slice none 0 0] := Zero.mk (z := .slice none 0 0) (by kernel_rfl) rfl
theorem sz_44 : (Tryd.prog.info? 44).map (·.size) = some 5 := by kernel_rfl
theorem by_44 : (Tryd.prog.info? 44).map (·.bytes) = some 56 := by kernel_rfl
theorem many_44 : Many Tryd.prog 44 5 := Many.mk Tryd.underlying44 rfl sz_44
theorem zero_44 : Zero Tryd.prog 44 [.int .i64 0, .int .i64 0, .int .u64 0, .int .u64 0, .slice none 0 0] := Zero.mk (z := .agg #[.int .i64 0, .int .i64 0, .int .u64 0, .int .u64 0, .slice none 0 0]) (by kernel_rfl) rfl
theorem sz_45 : (Tryd.prog.info? 45).map (·.size) = some 5 := by kernel_rfl
theorem by_45 : (Tryd.prog.info? 45).map (·.bytes) = some 56 := by kernel_rfl
theorem many_45 : Many Tryd.prog 45 5 := Many.mk Tryd.underlying45 rfl sz_45
theorem zero_45 : Zero Tryd.prog 45 [.int .i64 0, .int .i64 0, .int .u64 0, .int .u64 0, .slice none 0 0] := Zero.mk (z := .agg #[.int .i64 0, .int .i64 0, .int .u64 0, .int .u64 0, .slice none 0 0]) (by kernel_rfl) rfl
theorem sz_46 : (Tryd.prog.info? 46).map (·.size) = some 1 := by kernel_rfl
theorem by_46 : (Tryd.prog.info? 46).map (·.bytes) = some 8 := by kernel_rfl
theorem one_46 : One Tryd.prog 46 := One.mk Tryd.underlying46 rfl sz_46
theorem zero_46 : Zero Tryd.prog 46 [.nilFunc] := Zero.mk (z := .nilFunc) (by kernel_rfl) rfl
theorem sz_47 : (Tryd.prog.info? 47).map (·.size) = some 1 := by kernel_rfl
theorem by_47 : (Tryd.prog.info? 47).map (·.bytes) = some 24 := by kernel_rfl
theorem one_47 : One Tryd.prog 47 := One.mk Tryd.underlying47 rfl sz_47
theorem zero_47 : Zero Tryd.prog 47 [.slice none 0 0] := Zero.mk (z := .slice none 0 0) (by kernel_rfl) rfl
theorem sz_49 : (Tryd.prog.info? 49).map (·.size) = some 1 := by kernel_rfl
theorem by_49 : (Tryd.prog.info? 49).map (·.bytes) = some 8 := by kernel_rfl
theorem one_49 : One Tryd.prog 49 := One.mk Tryd.underlying49 rfl sz_49
theorem zero_49 : Zero Tryd.prog 49 [.nilFunc] := Zero.mk (z := .nilFunc) (by kernel_rfl) rfl
theorem sz_50 : (Tryd.prog.info? 50).map (·.size) = some 1 := by kernel_rfl
theorem by_50 : (Tryd.prog.info? 50).map (·.bytes) = some 24 := by kernel_rfl
theorem one_50 : One Tryd.prog 50 := One.mk Tryd.underlying50 rfl sz_50
theorem zero_50 : Zero Tryd.prog 50 [.slice none 0 0] := Zero.mk (z := .slice none 0 0) (by kernel_rfl) rfl
theorem sz_51 : (Tryd.prog.info? 51).map (·.size) = some 5 := by kernel_rfl
theorem by_51 : (Tryd.prog.info? 51).map (·.bytes) = some 56 := by kernel_rfl
theorem many_51 : Many Tryd.prog 51 5 := Many.mk Tryd.underlying51 rfl sz_51
theorem zero_51 : Zero Tryd.prog 51 [.int .i64 0, .int .i64 0, .int .u64 0, .int .u64 0, .slice none 0 0] := Zero.mk (z := .agg #[.int .i64 0, .int .i64 0, .int .u64 0, .int .u64 0, .slice none 0 0]) (by kernel_rfl) rfl
theorem sz_52 : (Tryd.prog.info? 52).map (·.size) = some 5 := by kernel_rfl
theorem by_52 : (Tryd.prog.info? 52).map (·.bytes) = some 56 := by kernel_rfl
theorem many_52 : Many Tryd.prog 52 5 := Many.mk Tryd.underlying52 rfl sz_52
theorem zero_52 : Zero Tryd.prog 52 [.int .i64 0, .int .i64 0, .int .u64 0, .int .u64 0, .slice none 0 0] := Zero.mk (z := .agg #[.int .i64 0, .int .i64 0, .int .u64 0, .int .u64 0, .slice none 0 0]) (by kernel_rfl) rfl
theorem sz_53 : (Tryd.prog.info? 53).map (·.size) = some 1 := by kernel_rfl
theorem by_53 : (Tryd.prog.info? 53).map (·.bytes) = some 8 := by kernel_rfl
theorem one_53 : One Tryd.prog 53 := One.mk Tryd.underlying53 rfl sz_53
theorem zero_53 : Zero Tryd.prog 53 [.nilFunc] := Zero.mk (z := .nilFunc) (by kernel_rfl) rfl
theorem sz_55 : (Tryd.prog.info? 55).map (·.size) = some 1 := by kernel_rfl
theorem by_55 : (Tryd.prog.info? 55).map (·.bytes) = some 8 := by kernel_rfl
theorem one_55 : One Tryd.prog 55 := One.mk Tryd.underlying55 rfl sz_55
theorem zero_55 : Zero Tryd.prog 55 [.nilFunc] := Zero.mk (z := .nilFunc) (by kernel_rfl) rfl
theorem sz_56 : (Tryd.prog.info? 56).map (·.size) = some 1 := by kernel_rfl
theorem by_56 : (Tryd.prog.info? 56).map (·.bytes) = some 24 := by kernel_rfl
theorem one_56 : One Tryd.prog 56 := One.mk Tryd.underlying56 rfl sz_56
theorem zero_56 : Zero Tryd.prog 56 [.slice none 0 0] := Zero.mk (z := .slice none 0 0) (by kernel_rfl) rfl
theorem sz_58 : (Tryd.prog.info? 58).map (·.size) = some 1 := by kernel_rfl
theorem by_58 : (Tryd.prog.info? 58).map (·.bytes) = some 8 := by kernel_rfl
theorem one_58 : One Tryd.prog 58 := One.mk Tryd.underlying58 rfl sz_58
theorem zero_58 : Zero Tryd.prog 58 [.nilFunc] := Zero.mk (z := .nilFunc) (by kernel_rfl) rfl
theorem sz_59 : (Tryd.prog.info? 59).map (·.size) = some 9 := by kernel_rfl
theorem by_59 : (Tryd.prog.info? 59).map (·.bytes) = some 72 := by kernel_rfl
theorem many_59 : Many Tryd.prog 59 9 := Many.mk Tryd.underlying59 rfl sz_59
theorem zero_59 : Zero Tryd.prog 59 [.int .u64 0, .int .u64 0, .int .u64 0, .int .u64 0, .int .u64 0, .int .u64 0, .int .u64 0, .int .u64 0, .int .u64 0] := Zero.mk (z := .agg #[.int .u64 0, .int .u64 0, .int .u64 0, .int .u64 0, .int .u64 0, .int .u64 0, .int .u64 0, .int .u64 0, .int .u64 0]) (by kernel_rfl) rfl
theorem sz_60 : (Tryd.prog.info? 60).map (·.size) = some 1 := by kernel_rfl
theorem by_60 : (Tryd.prog.info? 60).map (·.bytes) = some 8 := by kernel_rfl
theorem one_60 : One Tryd.prog 60 := One.mk Tryd.underlying60 rfl sz_60
theorem zero_60 : Zero Tryd.prog 60 [.nilFunc] := Zero.mk (z := .nilFunc) (by kernel_rfl) rfl
theorem sz_61 : (Tryd.prog.info? 61).map (·.size) = some 1 := by kernel_rfl
theorem by_61 : (Tryd.prog.info? 61).map (·.bytes) = some 8 := by kernel_rfl
theorem one_61 : One Tryd.prog 61 := One.mk Tryd.underlying61 rfl sz_61
theorem zero_61 : Zero Tryd.prog 61 [.nilFunc] := Zero.mk (z := .nilFunc) (by kernel_rfl) rfl
theorem sz_62 : (Tryd.prog.info? 62).map (·.size) = some 1 := by kernel_rfl
theorem by_62 : (Tryd.prog.info? 62).map (·.bytes) = some 8 := by kernel_rfl
theorem one_62 : One Tryd.prog 62 := One.mk Tryd.underlying62 rfl sz_62
theorem zero_62 : Zero Tryd.prog 62 [.nilFunc] := Zero.mk (z := .nilFunc) (by kernel_rfl) rfl
theorem sz_63 : (Tryd.prog.info? 63).map (·.size) = some 1 := by kernel_rfl
theorem by_63 : (Tryd.prog.info? 63).map (·.bytes) = some 8 := by kernel_rfl
theorem one_63 : One Tryd.prog 63 := One.mk Tryd.underlying63 rfl sz_63
theorem zero_63 : Zero Tryd.prog 63 [.nilFunc] := Zero.mk (z := .nilFunc) (by kernel_rfl) rfl
theorem sz_64 : (Tryd.prog.info? 64).map (·.size) = some 10 := by kernel_rfl
theorem by_64 : (Tryd.prog.info? 64).map (·.bytes) = some 112 := by kernel_rfl
theorem many_64 : Many Tryd.prog 64 10 := Many.mk Tryd.underlying64 rfl sz_64
theorem zero_64 : Zero Tryd.prog 64 [.int .i64 0, .int .i64 0, .int .u64 0, .int .u64 0, .slice none 0 0, .int .i64 0, .int .i64 0, .int .u64 0, .int .u64 0, .slice none 0 0] := Zero.mk (z := .agg #[.int .i64 0, .int .i64 0, .int .u64 0, .int .u64 0, .slice none 0 0, .int .i64 0, .int .i64 0, .int .u64 0, .int .u64 0, .slice none 0 0]) (by kernel_rfl) rfl
theorem sz_65 : (Tryd.prog.info? 65).map (·.size) = some 1 := by kernel_rfl
theorem by_65 : (Tryd.prog.info? 65).map (·.bytes) = some 24 := by kernel_rfl
theorem one_65 : One Tryd.prog 65 := One.mk Tryd.underlying65 rfl sz_65
theorem zero_65 : Zero Tryd.prog 65 [.slice none 0 0] := Zero.mk (z := .slice none 0 0) (by kernel_rfl) rfl
theorem sz_66 : (Tryd.prog.info? 66).map (·.size) = some 1 := by kernel_rfl
theorem by_66 : (Tryd.prog.info? 66).map (·.bytes) = some 8 := by kernel_rfl
theorem one_66 : One Tryd.prog 66 := One.mk Tryd.underlying66 rfl sz_66
theorem zero_66 : Zero Tryd.prog 66 [.nilFunc] := Zero.mk (z := .nilFunc) (by kernel_rfl) rfl
theorem sz_68 : (Tryd.prog.info? 68).map (·.size) = some 1 := by kernel_rfl
theorem by_68 : (Tryd.prog.info? 68).map (·.bytes) = some 8 := by kernel_rfl
theorem one_68 : One Tryd.prog 68 := One.mk Tryd.underlying68 rfl sz_68
theorem zero_68 : Zero Tryd.prog 68 [.nilFunc] := Zero.mk (z := .nilFunc) (by kernel_rfl) rfl
theorem sz_69 : (Tryd.prog.info? 69).map (·.size) = some 1 := by kernel_rfl
theorem by_69 : (Tryd.prog.info? 69).map (·.bytes) = some 8 := by kernel_rfl
theorem one_69 : One Tryd.prog 69 := One.mk Tryd.underlying69 rfl sz_69
theorem zero_69 : Zero Tryd.prog 69 [.nilFunc] := Zero.mk (z := .nilFunc) (by kernel_rfl) rfl
theorem sz_70 : (Tryd.prog.info? 70).map (·.size) = some 1 := by kernel_rfl
theorem by_70 : (Tryd.prog.info? 70).map (·.bytes) = some 8 := by kernel_rfl
theorem one_70 : One Tryd.prog 70 := One.mk Tryd.underlying70 rfl sz_70
theorem zero_70 : Zero Tryd.prog 70 [.nilFunc] := Zero.mk (z := .nilFunc) (by kernel_rfl) rfl
theorem sz_71 : (Tryd.prog.info? 71).map (·.size) = some 1 := by kernel_rfl
theorem by_71 : (Tryd.prog.info? 71).map (·.bytes) = some 8 := by kernel_rfl
theorem one_71 : One Tryd.prog 71 := One.mk Tryd.underlying71 rfl sz_71
theorem zero_71 : Zero Tryd.prog 71 [.nilFunc] := Zero.mk (z := .nilFunc) (by kernel_rfl) rfl
theorem sz_72 : (Tryd.prog.info? 72).map (·.size) = some 1 := by kernel_rfl
theorem by_72 : (Tryd.prog.info? 72).map (·.bytes) = some 8 := by kernel_rfl
theorem one_72 : One Tryd.prog 72 := One.mk Tryd.underlying72 rfl sz_72
theorem zero_72 : Zero Tryd.prog 72 [.nilFunc] := Zero.mk (z := .nilFunc) (by kernel_rfl) rfl
theorem sz_73 : (Tryd.prog.info? 73).map (·.size) = some 1 := by kernel_rfl
theorem by_73 : (Tryd.prog.info? 73).map (·.bytes) = some 8 := by kernel_rfl
theorem one_73 : One Tryd.prog 73 := One.mk Tryd.underlying73 rfl sz_73
theorem zero_73 : Zero Tryd.prog 73 [.nilFunc] := Zero.mk (z := .nilFunc) (by kernel_rfl) rfl
theorem sz_74 : (Tryd.prog.info? 74).map (·.size) = some 1 := by kernel_rfl
theorem by_74 : (Tryd.prog.info? 74).map (·.bytes) = some 8 := by kernel_rfl
theorem one_74 : One Tryd.prog 74 := One.mk Tryd.underlying74 rfl sz_74
theorem zero_74 : Zero Tryd.prog 74 [.nilFunc] := Zero.mk (z := .nilFunc) (by kernel_rfl) rfl
theorem sz_75 : (Tryd.prog.info? 75).map (·.size) = some 1 := by kernel_rfl
theorem by_75 : (Tryd.prog.info? 75).map (·.bytes) = some 24 := by kernel_rfl
theorem one_75 : One Tryd.prog 75 := One.mk Tryd.underlying75 rfl sz_75
theorem zero_75 : Zero Tryd.prog 75 [.slice none 0 0] := Zero.mk (z := .slice none 0 0) (by kernel_rfl) rfl
theorem sz_76 : (Tryd.prog.info? 76).map (·.size) = some 1 := by kernel_rfl
theorem by_76 : (Tryd.prog.info? 76).map (·.bytes) = some 8 := by kernel_rfl
theorem one_76 : One Tryd.prog 76 := One.mk Tryd.underlying76 rfl sz_76
theorem zero_76 : Zero Tryd.prog 76 [.nilFunc] := Zero.mk (z := .nilFunc) (by kernel_rfl) rfl
theorem sz_77 : (Tryd.prog.info? 77).map (·.size) = some 1 := by kernel_rfl
theorem by_77 : (Tryd.prog.info? 77).map (·.bytes) = some 24 := by kernel_rfl
theorem one_77 : One Tryd.prog 77 := One.mk Tryd.underlying77 rfl sz_77
theorem zero_77 : Zero Tryd.prog 77 [.slice none 0 0] := Zero.mk (z := .slice none 0 0) (by kernel_rfl) rfl
theorem sz_78 : (Tryd.prog.info? 78).map (·.size) = some 22 := by kernel_rfl
theorem by_78 : (Tryd.prog.info? 78).map (·.bytes) = some 120 := by kernel_rfl
theorem many_78 : Many Tryd.prog 78 22 := Many.mk Tryd.underlying78 rfl sz_78
theorem zero_78 : Zero Tryd.prog 78 [.int .i64 0, .slice none 0 0, .slice none 0 0, .int .i64 0, .int .u8 0, .int .u8 0, .int .u8 0, .int .u8 0, .int .u8 0, .int .u8 0, .int .u8 0, .int .u8 0, .int .u8 0, .int .u8 0, .int .u8 0, .int .u8 0, .int .i64 0, .int .u32 0, .int .u32 0, .int .i64 0, .int .i64 0, .int .i64 0] := Zero.mk (z := .agg #[.int .i64 0, .slice none 0 0, .slice none 0 0, .int .i64 0, .int .u8 0, .int .u8 0, .int .u8 0, .int .u8 0, .int .u8 0, .int .u8 0, .int .u8 0, .int .u8 0, .int .u8 0, .int .u8 0, .int .u8 0, .int .u8 0, .int .i64 0, .int .u32 0, .int .u32 0, .int .i64 0, .int .i64 0, .int .i64 0]) (by kernel_rfl) rfl
theorem sz_79 : (Tryd.prog.info? 79).map (·.size) = some 22 := by kernel_rfl
theorem by_79 : (Tryd.prog.info? 79).map (·.bytes) = some 120 := by kernel_rfl
theorem many_79 : Many Tryd.prog 79 22 := Many.mk Tryd.underlying79 rfl sz_79
theorem zero_79 : Zero Tryd.prog 79 [.int .i64 0, .slice none 0 0, .slice none 0 0, .int .i64 0, .int .u8 0, .int .u8 0, .int .u8 0, .int .u8 0, .int .u8 0, .int .u8 0, .int .u8 0, .int .u8 0, .int .u8 0, .int .u8 0, .int .u8 0, .int .u8 0, .int .i64 0, .int .u32 0, .int .u32 0, .int .i64 0, .int .i64 0, .int .i64 0] := Zero.mk (z := .agg #[.int .i64 0, .slice none 0 0, .slice none 0 0, .int .i64 0, .int .u8 0, .int .u8 0, .int .u8 0, .int .u8 0, .int .u8 0, .int .u8 0, .int .u8 0, .int .u8 0, .int .u8 0, .int .u8 0, .int .u8 0, .int .u8 0, .int .i64 0, .int .u32 0, .int .u32 0, .int .i64 0, .int .i64 0, .int .i64 0]) (by kernel_rfl) rfl
theorem sz_80 : (Tryd.prog.info? 80).map (·.size) = some 1 := by kernel_rfl
theorem by_80 : (Tryd.prog.info? 80).map (·.bytes) = some 8 := by kernel_rfl
theorem one_80 : One Tryd.prog 80 := One.mk Tryd.underlying80 rfl sz_80
theorem zero_80 : Zero Tryd.prog 80 [.pointer none] := Zero.mk (z := .pointer none) (by kernel_rfl) rfl
theorem sz_82 : (Tryd.prog.info? 82).map (·.size) = some 1 := by kernel_rfl
theorem by_82 : (Tryd.prog.info? 82).map (·.bytes) = some 8 := by kernel_rfl
theorem one_82 : One Tryd.prog 82 := One.mk Tryd.underlying82 rfl sz_82
theorem zero_82 : Zero Tryd.prog 82 [.nilFunc] := Zero.mk (z := .nilFunc) (by kernel_rfl) rfl
theorem sz_83 : (Tryd.prog.info? 83).map (·.size) = some 1 := by kernel_rfl
theorem by_83 : (Tryd.prog.info? 83).map (·.bytes) = some 8 := by kernel_rfl
theorem one_83 : One Tryd.prog 83 := One.mk Tryd.underlying83 rfl sz_83
theorem zero_83 : Zero Tryd.prog 83 [.nilFunc] := Zero.mk (z := .nilFunc) (by kernel_rfl) rfl
theorem sz_84 : (Tryd.prog.info? 84).map (·.size) = some 1 := by kernel_rfl
theorem by_84 : (Tryd.prog.info? 84).map (·.bytes) = some 8 := by kernel_rfl
theorem one_84 : One Tryd.prog 84 := One.mk Tryd.underlying84 rfl sz_84
theorem zero_84 : Zero Tryd.prog 84 [.nilFunc] := Zero.mk (z := .nilFunc) (by kernel_rfl) rfl
theorem sz_85 : (Tryd.prog.info? 85).map (·.size) = some 18 := by kernel_rfl
theorem by_85 : (Tryd.prog.info? 85).map (·.bytes) = some 144 := by kernel_rfl
theorem many_85 : Many Tryd.prog 85 18 := Many.mk Tryd.underlying85 rfl sz_85
theorem zero_85 : Zero Tryd.prog 85 [.int .u64 0, .int .u64 0, .int .u64 0, .int .u64 0, .int .u64 0, .int .u64 0, .int .u64 0, .int .u64 0, .int .u64 0, .int .u64 0, .int .u64 0, .int .u64 0, .int .u64 0, .int .u64 0, .int .u64 0, .int .u64 0, .int .u64 0, .int .u64 0] := Zero.mk (z := .agg #[.int .u64 0, .int .u64 0, .int .u64 0, .int .u64 0, .int .u64 0, .int .u64 0, .int .u64 0, .int .u64 0, .int .u64 0, .int .u64 0, .int .u64 0, .int .u64 0, .int .u64 0, .int .u64 0, .int .u64 0, .int .u64 0, .int .u64 0, .int .u64 0]) (by kernel_rfl) rfl
theorem sz_86 : (Tryd.prog.info? 86).map (·.size) = some 18 := by kernel_rfl
theorem by_86 : (Tryd.prog.info? 86).map (·.bytes) = some 144 := by kernel_rfl
theorem many_86 : Many Tryd.prog 86 18 := Many.mk Tryd.underlying86 rfl sz_86
theorem zero_86 : Zero Tryd.prog 86 [.int .u64 0, .int .u64 0, .int .u64 0, .int .u64 0, .int .u64 0, .int .u64 0, .int .u64 0, .int .u64 0, .int .u64 0, .int .u64 0, .int .u64 0, .int .u64 0, .int .u64 0, .int .u64 0, .int .u64 0, .int .u64 0, .int .u64 0, .int .u64 0] := Zero.mk (z := .agg #[.int .u64 0, .int .u64 0, .int .u64 0, .int .u64 0, .int .u64 0, .int .u64 0, .int .u64 0, .int .u64 0, .int .u64 0, .int .u64 0, .int .u64 0, .int .u64 0, .int .u64 0, .int .u64 0, .int .u64 0, .int .u64 0, .int .u64 0, .int .u64 0]) (by kernel_rfl) rfl
theorem sz_87 : (Tryd.prog.info? 87).map (·.size) = some 1 := by kernel_rfl
theorem by_87 : (Tryd.prog.info? 87).map (·.bytes) = some 24 := by kernel_rfl
theorem one_87 : One Tryd.prog 87 := One.mk Tryd.underlying87 rfl sz_87
theorem zero_87 : Zero Tryd.prog 87 [.slice none 0 0] := Zero.mk (z := .slice none 0 0) (by kernel_rfl) rfl
theorem sz_88 : (Tryd.prog.info? 88).map (·.size) = some 19 := by kernel_rfl
theorem by_88 : (Tryd.prog.info? 88).map (·.bytes) = some 168 := by kernel_rfl
theorem many_88 : Many Tryd.prog 88 19 := Many.mk Tryd.underlying88 rfl sz_88
theorem zero_88 : Zero Tryd.prog 88 [.int .u64 0, .int .u64 0, .int .u64 0, .int .u64 0, .int .u64 0, .int .u64 0, .int .u64 0, .int .u64 0, .int .u64 0, .int .u64 0, .int .u64 0, .int .u64 0, .int .u64 0, .int .u64 0, .int .u64 0, .int .u64 0, .int .u64 0, .int .u64 0, .slice none 0 0] := Zero.mk (z := .agg #[.int .u64 0, .int .u64 0, .int .u64 0, .int .u64 0, .int .u64 0, .int .u64 0, .int .u64 0, .int .u64 0, .int .u64 0, .int .u64 0, .int .u64 0, .int .u64 0, .int .u64 0, .int .u64 0, .int .u64 0, .int .u64 0, .int .u64 0, .int .u64 0, .slice none 0 0]) (by kernel_rfl) rfl
theorem sz_89 : (Tryd.prog.info? 89).map (·.size) = some 19 := by kernel_rfl
theorem by_89 : (Tryd.prog.info? 89).map (·.bytes) = some 168 := by kernel_rfl
theorem many_89 : Many Tryd.prog 89 19 := Many.mk Tryd.underlying89 rfl sz_89
theorem zero_89 : Zero Tryd.prog 89 [.int .u64 0, .int .u64 0, .int .u64 0, .int .u64 0, .int .u64 0, .int .u64 0, .int .u64 0, .int .u64 0, .int .u64 0, .int .u64 0, .int .u64 0, .int .u64 0, .int .u64 0, .int .u64 0, .int .u64 0, .int .u64 0, .int .u64 0, .int .u64 0, .slice none 0 0] := Zero.mk (z := .agg #[.int .u64 0, .int .u64 0, .int .u64 0, .int .u64 0, .int .u64 0, .int .u64 0, .int .u64 0, .int .u64 0, .int .u64 0, .int .u64 0, .int .u64 0, .int .u64 0, .int .u64 0, .int .u64 0, .int .u64 0, .int .u64 0, .int .u64 0, .int .u64 0, .slice none 0 0]) (by kernel_rfl) rfl
theorem sz_90 : (Tryd.prog.info? 90).map (·.size) = some 21 := by kernel_rfl
theorem by_90 : (Tryd.prog.info? 90).map (·.bytes) = some 184 := by kernel_rfl
theorem many_90 : Many Tryd.prog 90 21 := Many.mk Tryd.underlying90 rfl sz_90
theorem zero_90 : Zero Tryd.prog 90 [.int .i64 0, .int .i64 0, .int .u64 0, .int .u64 0, .int .u64 0, .int .u64 0, .int .u64 0, .int .u64 0, .int .u64 0, .int .u64 0, .int .u64 0, .int .u64 0, .int .u64 0, .int .u64 0, .int .u64 0, .int .u64 0, .int .u64 0, .int .u64 0, .int .u64 0, .int .u64 0, .slice none 0 0] := Zero.mk (z := .agg #[.int .i64 0, .int .i64 0, .int .u64 0, .int .u64 0, .int .u64 0, .int .u64 0, .int .u64 0, .int .u64 0, .int .u64 0, .int .u64 0, .int .u64 0, .int .u64 0, .int .u64 0, .int .u64 0, .int .u64 0, .int .u64 0, .int .u64 0, .int .u64 0, .int .u64 0, .int .u64 0, .slice none 0 0]) (by kernel_rfl) rfl
theorem sz_91 : (Tryd.prog.info? 91).map (·.size) = some 21 := by kernel_rfl
theorem by_91 : (Tryd.prog.info? 91).map (·.bytes) = some 184 := by kernel_rfl
theorem many_91 : Many Tryd.prog 91 21 := Many.mk Tryd.underlying91 rfl sz_91
theorem zero_91 : Zero Tryd.prog 91 [.int .i64 0, .int .i64 0, .int .u64 0, .int .u64 0, .int .u64 0, .int .u64 0, .int .u64 0, .int .u64 0, .int .u64 0, .int .u64 0, .int .u64 0, .int .u64 0, .int .u64 0, .int .u64 0, .int .u64 0, .int .u64 0, .int .u64 0, .int .u64 0, .int .u64 0, .int .u64 0, .slice none 0 0] := Zero.mk (z := .agg #[.int .i64 0, .int .i64 0, .int .u64 0, .int .u64 0, .int .u64 0, .int .u64 0, .int .u64 0, .int .u64 0, .int .u64 0, .int .u64 0, .int .u64 0, .int .u64 0, .int .u64 0, .int .u64 0, .int .u64 0, .int .u64 0, .int .u64 0, .int .u64 0, .int .u64 0, .int .u64 0, .slice none 0 0]) (by kernel_rfl) rfl
theorem sz_93 : (Tryd.prog.info? 93).map (·.size) = some 1 := by kernel_rfl
theorem by_93 : (Tryd.prog.info? 93).map (·.bytes) = some 8 := by kernel_rfl
theorem one_93 : One Tryd.prog 93 := One.mk Tryd.underlying93 rfl sz_93
theorem zero_93 : Zero Tryd.prog 93 [.nilFunc] := Zero.mk (z := .nilFunc) (by kernel_rfl) rfl
theorem sz_94 : (Tryd.prog.info? 94).map (·.size) = some 1 := by kernel_rfl
theorem by_94 : (Tryd.prog.info? 94).map (·.bytes) = some 8 := by kernel_rfl
theorem one_94 : One Tryd.prog 94 := One.mk Tryd.underlying94 rfl sz_94
theorem zero_94 : Zero Tryd.prog 94 [.nilFunc] := Zero.mk (z := .nilFunc) (by kernel_rfl) rfl
theorem sz_95 : (Tryd.prog.info? 95).map (·.size) = some 1 := by kernel_rfl
theorem by_95 : (Tryd.prog.info? 95).map (·.bytes) = some 8 := by kernel_rfl
theorem one_95 : One Tryd.prog 95 := One.mk Tryd.underlying95 rfl sz_95
theorem zero_95 : Zero Tryd.prog 95 [.nilFunc] := Zero.mk (z := .nilFunc) (by kernel_rfl) rfl
theorem sz_96 : (Tryd.prog.info? 96).map (·.size) = some 1 := by kernel_rfl
theorem by_96 : (Tryd.prog.info? 96).map (·.bytes) = some 8 := by kernel_rfl
theorem one_96 : One Tryd.prog 96 := One.mk Tryd.underlying96 rfl sz_96
theorem zero_96 : Zero Tryd.prog 96 [.nilFunc] := Zero.mk (z := .nilFunc) (by kernel_rfl) rfl
theorem sz_97 : (Tryd.prog.info? 97).map (·.size) = some 1 := by kernel_rfl
theorem by_97 : (Tryd.prog.info? 97).map (·.bytes) = some 8 := by kernel_rfl
theorem one_97 : One Tryd.prog 97 := One.mk Tryd.underlying97 rfl sz_97
theorem zero_97 : Zero Tryd.prog 97 [.nilFunc] := Zero.mk (z := .nilFunc) (by kernel_rfl) rfl
theorem sz_98 : (Tryd.prog.info? 98).map (·.size) = some 1 := by kernel_rfl
theorem by_98 : (Tryd.prog.info? 98).map (·.bytes) = some 8 := by kernel_rfl
theorem one_98 : One Tryd.prog 98 := One.mk Tryd.underlying98 rfl sz_98
theorem zero_98 : Zero Tryd.prog 98 [.nilFunc] := Zero.mk (z := .nilFunc) (by kernel_rfl) rfl
theorem sz_100 : (Tryd.prog.info? 100).map (·.size) = some 1 := by kernel_rfl
theorem by_100 : (Tryd.prog.info? 100).map (·.bytes) = some 8 := by kernel_rfl
theorem one_100 : One Tryd.prog 100 := One.mk Tryd.underlying100 rfl sz_100
theorem zero_100 : Zero Tryd.prog 100 [.nilFunc] := Zero.mk (z := .nilFunc) (by kernel_rfl) rfl
theorem sz_102 : (Tryd.prog.info? 102).map (·.size) = some 1 := by kernel_rfl
theorem by_102 : (Tryd.prog.info? 102).map (·.bytes) = some 8 := by kernel_rfl
theorem one_102 : One Tryd.prog 102 := One.mk Tryd.underlying102 rfl sz_102
theorem zero_102 : Zero Tryd.prog 102 [.nilFunc] := Zero.mk (z := .nilFunc) (by kernel_rfl) rfl
theorem sz_103 : (Tryd.prog.info? 103).map (·.size) = some 1 := by kernel_rfl
theorem by_103 : (Tryd.prog.info? 103).map (·.bytes) = some 24 := by kernel_rfl
theorem one_103 : One Tryd.prog 103 := One.mk Tryd.underlying103 rfl sz_103
theorem zero_103 : Zero Tryd.prog 103 [.slice none 0 0] := Zero.mk (z := .slice none 0 0) (by kernel_rfl) rfl
theorem sz_104 : (Tryd.prog.info? 104).map (·.size) = some 1 := by kernel_rfl
theorem by_104 : (Tryd.prog.info? 104).map (·.bytes) = some 24 := by kernel_rfl
theorem one_104 : One Tryd.prog 104 := One.mk Tryd.underlying104 rfl sz_104
theorem zero_104 : Zero Tryd.prog 104 [.slice none 0 0] := Zero.mk (z := .slice none 0 0) (by kernel_rfl) rfl
theorem sz_105 : (Tryd.prog.info? 105).map (·.size) = some 1 := by kernel_rfl
theorem by_105 : (Tryd.prog.info? 105).map (·.bytes) = some 8 := by kernel_rfl
theorem one_105 : One Tryd.prog 105 := One.mk Tryd.underlying105 rfl sz_105
theorem zero_105 : Zero Tryd.prog 105 [.nilFunc] := Zero.mk (z := .nilFunc) (by kernel_rfl) rfl
theorem sz_106 : (Tryd.prog.info? 106).map (·.size) = some 1 := by kernel_rfl
theorem by_106 : (Tryd.prog.info? 106).map (·.bytes) = some 8 := by kernel_rfl
theorem one_106 : One Tryd.prog 106 := One.mk Tryd.underlying106 rfl sz_106
theorem zero_106 : Zero Tryd.prog 106 [.nilFunc] := Zero.mk (z := .nilFunc) (by kernel_rfl) rfl
theorem sz_107 : (Tryd.prog.info? 107).map (·.size) = some 1 := by kernel_rfl
theorem by_107 : (Tryd.prog.info? 107).map (·.bytes) = some 8 := by kernel_rfl
theorem one_107 : One Tryd.prog 107 := One.mk Tryd.underlying107 rfl sz_107
theorem zero_107 : Zero Tryd.prog 107 [.nilFunc] := Zero.mk (z := .nilFunc) (by kernel_rfl) rfl
theorem sz_108 : (Tryd.prog.info? 108).map (·.size) = some 1 := by kernel_rfl
theorem by_108 : (Tryd.prog.info? 108).map (·.bytes) = some 8 := by kernel_rfl
theorem one_108 : One Tryd.prog 108 := One.mk Tryd.underlying108 rfl sz_108
theorem zero_108 : Zero Tryd.prog 108 [.nilFunc] := Zero.mk (z := .nilFunc) (by kernel_rfl) rfl
theorem sz_109 : (Tryd.prog.info? 109).map (·.size) = some 1 := by kernel_rfl
theorem by_109 : (Tryd.prog.info? 109).map (·.bytes) = some 8 := by kernel_rfl
theorem one_109 : One Tryd.prog 109 := One.mk Tryd.underlying109 rfl sz_109
theorem zero_109 : Zero Tryd.prog 109 [.nilFunc] := Zero.mk (z := .nilFunc) (by kernel_rfl) rfl
theorem sz_110 : (Tryd.prog.info? 110).map (·.size) = some 1 := by kernel_rfl
theorem by_110 : (Tryd.prog.info? 110).map (·.bytes) = some 8 := by kernel_rfl
theorem one_110 : One Tryd.prog 110 := One.mk Tryd.underlying110 rfl sz_110
theorem zero_110 : Zero Tryd.prog 110 [.nilFunc] := Zero.mk (z := .nilFunc) (by kernel_rfl) rfl
theorem sz_111 : (Tryd.prog.info? 111).map (·.size) = some 1 := by kernel_rfl
theorem by_111 : (Tryd.prog.info? 111).map (·.bytes) = some 24 := by kernel_rfl
theorem one_111 : One Tryd.prog 111 := One.mk Tryd.underlying111 rfl sz_111
theorem zero_111 : Zero Tryd.prog 111 [.slice none 0 0] := Zero.mk (z := .slice none 0 0) (by kernel_rfl) rfl
theorem sz_113 : (Tryd.prog.info? 113).map (·.size) = some 1 := by kernel_rfl
theorem by_113 : (Tryd.prog.info? 113).map (·.bytes) = some 8 := by kernel_rfl
theorem one_113 : One Tryd.prog 113 := One.mk Tryd.underlying113 rfl sz_113
theorem zero_113 : Zero Tryd.prog 113 [.nilFunc] := Zero.mk (z := .nilFunc) (by kernel_rfl) rfl
theorem sz_114 : (Tryd.prog.info? 114).map (·.size) = some 1 := by kernel_rfl
theorem by_114 : (Tryd.prog.info? 114).map (·.bytes) = some 8 := by kernel_rfl
theorem one_114 : One Tryd.prog 114 := One.mk Tryd.underlying114 rfl sz_114
theorem zero_114 : Zero Tryd.prog 114 [.nilFunc] := Zero.mk (z := .nilFunc) (by kernel_rfl) rfl
theorem sz_115 : (Tryd.prog.info? 115).map (·.size) = some 1 := by kernel_rfl
theorem by_115 : (Tryd.prog.info? 115).map (·.bytes) = some 8 := by kernel_rfl
theorem one_115 : One Tryd.prog 115 := One.mk Tryd.underlying115 rfl sz_115
theorem zero_115 : Zero Tryd.prog 115 [.nilFunc] := Zero.mk (z := .nilFunc) (by kernel_rfl) rfl
theorem sz_116 : (Tryd.prog.info? 116).map (·.size) = some 1 := by kernel_rfl
theorem by_116 : (Tryd.prog.info? 116).map (·.bytes) = some 8 := by kernel_rfl
theorem one_116 : One Tryd.prog 116 := One.mk Tryd.underlying116 rfl sz_116
theorem zero_116 : Zero Tryd.prog 116 [.nilFunc] := Zero.mk (z := .nilFunc) (by kernel_rfl) rfl
theorem sz_117 : (Tryd.prog.info? 117).map (·.size) = some 1 := by kernel_rfl
theorem by_117 : (Tryd.prog.info? 117).map (·.bytes) = some 8 := by kernel_rfl
theorem one_117 : One Tryd.prog 117 := One.mk Tryd.underlying117 rfl sz_117
theorem zero_117 : Zero Tryd.prog 117 [.nilFunc] := Zero.mk (z := .nilFunc) (by kernel_rfl) rfl
theorem sz_118 : (Tryd.prog.info? 118).map (·.size) = some 1 := by kernel_rfl
theorem by_118 : (Tryd.prog.info? 118).map (·.bytes) = some 8 := by kernel_rfl
theorem one_118 : One Tryd.prog 118 := One.mk Tryd.underlying118 rfl sz_118
theorem zero_118 : Zero Tryd.prog 118 [.nilFunc] := Zero.mk (z := .nilFunc) (by kernel_rfl) rfl
theorem sz_119 : (Tryd.prog.info? 119).map (·.size) = some 1 := by kernel_rfl
theorem by_119 : (Tryd.prog.info? 119).map (·.bytes) = some 8 := by kernel_rfl
theorem one_119 : One Tryd.prog 119 := One.mk Tryd.underlying119 rfl sz_119
theorem zero_119 : Zero Tryd.prog 119 [.nilFunc] := Zero.mk (z := .nilFunc) (by kernel_rfl) rfl
theorem sz_120 : (Tryd.prog.info? 120).map (·.size) = some 1 := by kernel_rfl
theorem by_120 : (Tryd.prog.info? 120).map (·.bytes) = some 8 := by kernel_rfl
theorem one_120 : One Tryd.prog 120 := One.mk Tryd.underlying120 rfl sz_120
theorem zero_120 : Zero Tryd.prog 120 [.nilFunc] := Zero.mk (z := .nilFunc) (by kernel_rfl) rfl
theorem sz_121 : (Tryd.prog.info? 121).map (·.size) = some 1 := by kernel_rfl
theorem by_121 : (Tryd.prog.info? 121).map (·.bytes) = some 8 := by kernel_rfl
theorem one_121 : One Tryd.prog 121 := One.mk Tryd.underlying121 rfl sz_121
theorem zero_121 : Zero Tryd.prog 121 [.nilFunc] := Zero.mk (z := .nilFunc) (by kernel_rfl) rfl
theorem sz_122 : (Tryd.prog.info? 122).map (·.size) = some 1 := by kernel_rfl
theorem by_122 : (Tryd.prog.info? 122).map (·.bytes) = some 8 := by kernel_rfl
theorem one_122 : One Tryd.prog 122 := One.mk Tryd.underlying122 rfl sz_122
theorem zero_122 : Zero Tryd.prog 122 [.nilFunc] := Zero.mk (z := .nilFunc) (by kernel_rfl) rfl
theorem sz_123 : (Tryd.prog.info? 123).map (·.size) = some 1 := by kernel_rfl
theorem by_123 : (Tryd.prog.info? 123).map (·.bytes) = some 8 := by kernel_rfl
theorem one_123 : One Tryd.prog 123 := One.mk Tryd.underlying123 rfl sz_123
theorem zero_123 : Zero Tryd.prog 123 [.nilFunc] := Zero.mk (z := .nilFunc) (by kernel_rfl) rfl
theorem sz_124 : (Tryd.prog.info? 124).map (·.size) = some 2 := by kernel_rfl
theorem by_124 : (Tryd.prog.info? 124).map (·.bytes) = some 32 := by kernel_rfl
theorem many_124 : Many Tryd.prog 124 2 := Many.mk Tryd.underlying124 rfl sz_124
theorem zero_124 : Zero Tryd.prog 124 [.int .i64 0, .slice none 0 0] := Zero.mk (z := .agg #[.int .i64 0, .slice none 0 0]) (by kernel_rfl) rfl
theorem sz_125 : (Tryd.prog.info? 125).map (·.size) = some 2 := by kernel_rfl
theorem by_125 : (Tryd.prog.info? 125).map (·.bytes) = some 32 := by kernel_rfl
theorem many_125 : Many Tryd.prog 125 2 := Many.mk Tryd.underlying125 rfl sz_125
theorem zero_125 : Zero Tryd.prog 125 [.int .i64 0, .slice none 0 0] := Zero.mk (z := .agg #[.int .i64 0, .slice none 0 0]) (by kernel_rfl) rfl
theorem sz_126 : (Tryd.prog.info? 126).map (·.size) = some 1 := by kernel_rfl
theorem by_126 : (Tryd.prog.info? 126).map (·.bytes) = some 8 := by kernel_rfl
theorem one_126 : One Tryd.prog 126 := One.mk Tryd.underlying126 rfl sz_126
theorem zero_126 : Zero Tryd.prog 126 [.nilFunc] := Zero.mk (z := .nilFunc) (by kernel_rfl) rfl
theorem sz_127 : (Tryd.prog.info? 127).map (·.size) = some 1 := by kernel_rfl
theorem by_127 : (Tryd.prog.info? 127).map (·.bytes) = some 8 := by kernel_rfl
theorem one_127 : One Tryd.prog 127 := One.mk Tryd.underlying127 rfl sz_127
theorem zero_127 : Zero Tryd.prog 127 [.nilFunc] := Zero.mk (z := .nilFunc) (by kernel_rfl) rfl
theorem sz_128 : (Tryd.prog.info? 128).map (·.size) = some 1 := by kernel_rfl
theorem by_128 : (Tryd.prog.info? 128).map (·.bytes) = some 8 := by kernel_rfl
theorem one_128 : One Tryd.prog 128 := One.mk Tryd.underlying128 rfl sz_128
theorem zero_128 : Zero Tryd.prog 128 [.nilFunc] := Zero.mk (z := .nilFunc) (by kernel_rfl) rfl
theorem sz_129 : (Tryd.prog.info? 129).map (·.size) = some 1 := by kernel_rfl
theorem by_129 : (Tryd.prog.info? 129).map (·.bytes) = some 8 := by kernel_rfl
theorem one_129 : One Tryd.prog 129 := One.mk Tryd.underlying129 rfl sz_129
theorem zero_129 : Zero Tryd.prog 129 [.nilFunc] := Zero.mk (z := .nilFunc) (by kernel_rfl) rfl
theorem sz_130 : (Tryd.prog.info? 130).map (·.size) = some 1 := by kernel_rfl
theorem by_130 : (Tryd.prog.info? 130).map (·.bytes) = some 8 := by kernel_rfl
theorem one_130 : One Tryd.prog 130 := One.mk Tryd.underlying130 rfl sz_130
theorem zero_130 : Zero Tryd.prog 130 [.nilFunc] := Zero.mk (z := .nilFunc) (by kernel_rfl) rfl
theorem sz_131 : (Tryd.prog.info? 131).map (·.size) = some 1 := by kernel_rfl
theorem by_131 : (Tryd.prog.info? 131).map (·.bytes) = some 8 := by kernel_rfl
theorem one_131 : One Tryd.prog 131 := One.mk Tryd.underlying131 rfl sz_131
theorem zero_131 : Zero Tryd.prog 131 [.nilFunc] := Zero.mk (z := .nilFunc) (by kernel_rfl) rfl
theorem sz_132 : (Tryd.prog.info? 132).map (·.size) = some 1 := by kernel_rfl
theorem by_132 : (Tryd.prog.info? 132).map (·.bytes) = some 8 := by kernel_rfl
theorem one_132 : One Tryd.prog 132 := One.mk Tryd.underlying132 rfl sz_132
theorem zero_132 : Zero Tryd.prog 132 [.nilFunc] := Zero.mk (z := .nilFunc) (by kernel_rfl) rfl
theorem sz_133 : (Tryd.prog.info? 133).map (·.size) = some 1 := by kernel_rfl
theorem by_133 : (Tryd.prog.info? 133).map (·.bytes) = some 8 := by kernel_rfl
theorem one_133 : One Tryd.prog 133 := One.mk Tryd.underlying133 rfl sz_133
theorem zero_133 : Zero Tryd.prog 133 [.nilFunc] := Zero.mk (z := .nilFunc) (by kernel_rfl) rfl
theorem sz_134 : (Tryd.prog.info? 134).map (·.size) = some 1 := by kernel_rfl
theorem by_134 : (Tryd.prog.info? 134).map (·.bytes) = some 8 := by kernel_rfl
theorem one_134 : One Tryd.prog 134 := One.mk Tryd.underlying134 rfl sz_134
theorem zero_134 : Zero Tryd.prog 134 [.nilFunc] := Zero.mk (z := .nilFunc) (by kernel_rfl) rfl
theorem sz_135 : (Tryd.prog.info? 135).map (·.size) = some 1 := by kernel_rfl
theorem by_135 : (Tryd.prog.info? 135).map (·.bytes) = some 8 := by kernel_rfl
theorem one_135 : One Tryd.prog 135 := One.mk Tryd.underlying135 rfl sz_135
theorem zero_135 : Zero Tryd.prog 135 [.nilFunc] := Zero.mk (z := .nilFunc) (by kernel_rfl) rfl
theorem sz_136 : (Tryd.prog.info? 136).map (·.size) = some 1 := by kernel_rfl
theorem by_136 : (Tryd.prog.info? 136).map (·.bytes) = some 8 := by kernel_rfl
theorem one_136 : One Tryd.prog 136 := One.mk Tryd.underlying136 rfl sz_136
theorem zero_136 : Zero Tryd.prog 136 [.nilFunc] := Zero.mk (z := .nilFunc) (by kernel_rfl) rfl
theorem sz_137 : (Tryd.prog.info? 137).map (·.size) = some 1 := by kernel_rfl
theorem by_137 : (Tryd.prog.info? 137).map (·.bytes) = some 8 := by kernel_rfl
theorem one_137 : One Tryd.prog 137 := One.mk Tryd.underlying137 rfl sz_137
theorem zero_137 : Zero Tryd.prog 137 [.nilFunc] := Zero.mk (z := .nilFunc) (by kernel_rfl) rfl
theorem sz_138 : (Tryd.prog.info? 138).map (·.size) = some 9 := by kernel_rfl
theorem by_138 : (Tryd.prog.info? 138).map (·.bytes) = some 72 := by kernel_rfl
theorem many_138 : Many Tryd.prog 138 9 := Many.mk Tryd.underlying138 rfl sz_138
theorem zero_138 : Zero Tryd.prog 138 [.int .i64 0, .int .i64 0, .int .i64 0, .int .i64 0, .int .i64 0, .int .i64 0, .int .i64 0, .int .i64 0, .int .i64 0] := Zero.mk (z := .agg #[.int .i64 0, .int .i64 0, .int .i64 0, .int .i64 0, .int .i64 0, .int .i64 0, .int .i64 0, .int .i64 0, .int .i64 0]) (by kernel_rfl) rfl
theorem sz_139 : (Tryd.prog.info? 139).map (·.size) = some 1 := by kernel_rfl
theorem by_139 : (Tryd.prog.info? 139).map (·.bytes) = some 8 := by kernel_rfl
theorem one_139 : One Tryd.prog 139 := One.mk Tryd.underlying139 rfl sz_139
theorem zero_139 : Zero Tryd.prog 139 [.nilFunc] := Zero.mk (z := .nilFunc) (by kernel_rfl) rfl
theorem sz_140 : (Tryd.prog.info? 140).map (·.size) = some 1 := by kernel_rfl
theorem by_140 : (Tryd.prog.info? 140).map (·.bytes) = some 8 := by kernel_rfl
theorem one_140 : One Tryd.prog 140 := One.mk Tryd.underlying140 rfl sz_140
theorem zero_140 : Zero Tryd.prog 140 [.nilFunc] := Zero.mk (z := .nilFunc) (by kernel_rfl) rfl
theorem sz_141 : (Tryd.prog.info? 141).map (·.size) = some 1 := by kernel_rfl
theorem by_141 : (Tryd.prog.info? 141).map (·.bytes) = some 8 := by kernel_rfl
theorem one_141 : One Tryd.prog 141 := One.mk Tryd.underlying141 rfl sz_141
theorem zero_141 : Zero Tryd.prog 141 [.nilFunc] := Zero.mk (z := .nilFunc) (by kernel_rfl) rfl
theorem sz_142 : (Tryd.prog.info? 142).map (·.size) = some 1 := by kernel_rfl
theorem by_142 : (Tryd.prog.info? 142).map (·.bytes) = some 8 := by kernel_rfl
theorem one_142 : One Tryd.prog 142 := One.mk Tryd.underlying142 rfl sz_142
theorem zero_142 : Zero Tryd.prog 142 [.map none] := Zero.mk (z := .map none) (by kernel_rfl) rfl
theorem sz_143 : (Tryd.prog.info? 143).map (·.size) = some 0 := by kernel_rfl
theorem by_143 : (Tryd.prog.info? 143).map (·.bytes) = some 0 := by kernel_rfl
theorem many_143 : Many Tryd.prog 143 0 := Many.mk Tryd.underlying143 rfl sz_143
theorem zero_143 : Zero Tryd.prog 143 [] := Zero.mk (z := .agg #[]) (by kernel_rfl) rfl
theorem sz_145 : (Tryd.prog.info? 145).map (·.size) = some 1 := by kernel_rfl
theorem by_145 : (Tryd.prog.info? 145).map (·.bytes) = some 8 := by kernel_rfl
theorem one_145 : One Tryd.prog 145 := One.mk Tryd.underlying145 rfl sz_145
theorem zero_145 : Zero Tryd.prog 145 [.nilFunc] := Zero.mk (z := .nilFunc) (by kernel_rfl) rfl
theorem sz_146 : (Tryd.prog.info? 146).map (·.size) = some 1 := by kernel_rfl
theorem by_146 : (Tryd.prog.info? 146).map (·.bytes) = some 8 := by kernel_rfl
theorem one_146 : One Tryd.prog 146 := One.mk Tryd.underlying146 rfl sz_146
theorem zero_146 : Zero Tryd.prog 146 [.nilFunc] := Zero.mk (z := .nilFunc) (by kernel_rfl) rfl
theorem sz_147 : (Tryd.prog.info? 147).map (·.size) = some 1 := by kernel_rfl
theorem by_147 : (Tryd.prog.info? 147).map (·.bytes) = some 8 := by kernel_rfl
theorem one_147 : One Tryd.prog 147 := One.mk Tryd.underlying147 rfl sz_147
theorem zero_147 : Zero Tryd.prog 147 [.nilFunc] := Zero.mk (z := .nilFunc) (by kernel_rfl) rfl
theorem sz_148 : (Tryd.prog.info? 148).map (·.size) = some 1 := by kernel_rfl
theorem by_148 : (Tryd.prog.info? 148).map (·.bytes) = some 8 := by kernel_rfl
theorem one_148 : One Tryd.prog 148 := One.mk Tryd.underlying148 rfl sz_148
theorem zero_148 : Zero Tryd.prog 148 [.nilFunc] := Zero.mk (z := .nilFunc) (by kernel_rfl) rfl
theorem sz_149 : (Tryd.prog.info? 149).map (·.size) = some 1 := by kernel_rfl
theorem by_149 : (Tryd.prog.info? 149).map (·.bytes) = some 8 := by kernel_rfl
theorem one_149 : One Tryd.prog 149 := One.mk Tryd.underlying149 rfl sz_149
theorem zero_149 : Zero Tryd.prog 149 [.nilFunc] := Zero.mk (z := .nilFunc) (by kernel_rfl) rfl
theorem sz_150 : (Tryd.prog.info? 150).map (·.size) = some 1 := by kernel_rfl
theorem by_150 : (Tryd.prog.info? 150).map (·.bytes) = some 8 := by kernel_rfl
theorem one_150 : One Tryd.prog 150 := One.mk Tryd.underlying150 rfl sz_150
theorem zero_150 : Zero Tryd.prog 150 [.nilFunc] := Zero.mk (z := .nilFunc) (by kernel_rfl) rfl
theorem sz_151 : (Tryd.prog.info? 151).map (·.size) = some 1 := by kernel_rfl
theorem by_151 : (Tryd.prog.info? 151).map (·.bytes) = some 8 := by kernel_rfl
theorem one_151 : One Tryd.prog 151 := One.mk Tryd.underlying151 rfl sz_151
theorem zero_151 : Zero Tryd.prog 151 [.nilFunc] := Zero.mk (z := .nilFunc) (by kernel_rfl) rfl
theorem sz_152 : (Tryd.prog.info? 152).map (·.size) = some 1 := by kernel_rfl
theorem by_152 : (Tryd.prog.info? 152).map (·.bytes) = some 8 := by kernel_rfl
theorem one_152 : One Tryd.prog 152 := One.mk Tryd.underlying152 rfl sz_152
theorem zero_152 : Zero Tryd.prog 152 [.nilFunc] := Zero.mk (z := .nilFunc) (by kernel_rfl) rfl
theorem sz_153 : (Tryd.prog.info? 153).map (·.size) = some 1 := by kernel_rfl
theorem by_153 : (Tryd.prog.info? 153).map (·.bytes) = some 8 := by kernel_rfl
theorem one_153 : One Tryd.prog 153 := One.mk Tryd.underlying153 rfl sz_153
theorem zero_153 : Zero Tryd.prog 153 [.nilFunc] := Zero.mk (z := .nilFunc) (by kernel_rfl) rfl
theorem sz_154 : (Tryd.prog.info? 154).map (·.size) = some 1 := by kernel_rfl
theorem by_154 : (Tryd.prog.info? 154).map (·.bytes) = some 8 := by kernel_rfl
theorem one_154 : One Tryd.prog 154 := One.mk Tryd.underlying154 rfl sz_154
theorem zero_154 : Zero Tryd.prog 154 [.nilFunc] := Zero.mk (z := .nilFunc) (by kernel_rfl) rfl
theorem sz_155 : (Tryd.prog.info? 155).map (·.size) = some 1 := by kernel_rfl
theorem by_155 : (Tryd.prog.info? 155).map (·.bytes) = some 8 := by kernel_rfl
theorem one_155 : One Tryd.prog 155 := One.mk Tryd.underlying155 rfl sz_155
theorem zero_155 : Zero Tryd.prog 155 [.nilFunc] := Zero.mk (z := .nilFunc) (by kernel_rfl) rfl
theorem sz_156 : (Tryd.prog.info? 156).map (·.size) = some 1 := by kernel_rfl
theorem by_156 : (Tryd.prog.info? 156).map (·.bytes) = some 8 := by kernel_rfl
theorem one_156 : One Tryd.prog 156 := One.mk Tryd.underlying156 rfl sz_156
theorem zero_156 : Zero Tryd.prog 156 [.nilFunc] := Zero.mk (z := .nilFunc) (by kernel_rfl) rfl
theorem sz_157 : (Tryd.prog.info? 157).map (·.size) = some 1 := by kernel_rfl
theorem by_157 : (Tryd.prog.info? 157).map (·.bytes) = some 8 := by kernel_rfl
theorem one_157 : One Tryd.prog 157 := One.mk Tryd.underlying157 rfl sz_157
theorem zero_157 : Zero Tryd.prog 157 [.nilFunc] := Zero.mk (z := .nilFunc) (by kernel_rfl) rfl
theorem sz_158 : (Tryd.prog.info? 158).map (·.size) = some 1 := by kernel_rfl
theorem by_158 : (Tryd.prog.info? 158).map (·.bytes) = some 8 := by kernel_rfl
theorem one_158 : One Tryd.prog 158 := One.mk Tryd.underlying158 rfl sz_158
theorem zero_158 : Zero Tryd.prog 158 [.int .i64 0] := Zero.mk (z := .int .i64 0) (by kernel_rfl) rfl
theorem sz_160 : (Tryd.prog.info? 160).map (·.size) = some 1 := by kernel_rfl
theorem by_160 : (Tryd.prog.info? 160).map (·.bytes) = some 8 := by kernel_rfl
theorem one_160 : One Tryd.prog 160 := One.mk Tryd.underlying160 rfl sz_160
theorem zero_160 : Zero Tryd.prog 160 [.nilFunc] := Zero.mk (z := .nilFunc) (by kernel_rfl) rfl
theorem sz_161 : (Tryd.prog.info? 161).map (·.size) = some 1 := by kernel_rfl
theorem by_161 : (Tryd.prog.info? 161).map (·.bytes) = some 8 := by kernel_rfl
theorem one_161 : One Tryd.prog 161 := One.mk Tryd.underlying161 rfl sz_161
theorem zero_161 : Zero Tryd.prog 161 [.nilFunc] := Zero.mk (z := .nilFunc) (by kernel_rfl) rfl
theorem sz_162 : (Tryd.prog.info? 162).map (·.size) = some 1 := by kernel_rfl
theorem by_162 : (Tryd.prog.info? 162).map (·.bytes) = some 8 := by kernel_rfl
theorem one_162 : One Tryd.prog 162 := One.mk Tryd.underlying162 rfl sz_162
theorem zero_162 : Zero Tryd.prog 162 [.nilFunc] := Zero.mk (z := .nilFunc) (by kernel_rfl) rfl
theorem sz_164 : (Tryd.prog.info? 164).map (·.size) = some 1 := by kernel_rfl
theorem by_164 : (Tryd.prog.info? 164).map (·.bytes) = some 8 := by kernel_rfl
theorem one_164 : One Tryd.prog 164 := One.mk Tryd.underlying164 rfl sz_164
theorem zero_164 : Zero Tryd.prog 164 [.nilFunc] := Zero.mk (z := .nilFunc) (by kernel_rfl) rfl
theorem sz_165 : (Tryd.prog.info? 165).map (·.size) = some 1 := by kernel_rfl
theorem by_165 : (Tryd.prog.info? 165).map (·.bytes) = some 8 := by kernel_rfl
theorem one_165 : One Tryd.prog 165 := One.mk Tryd.underlying165 rfl sz_165
theorem zero_165 : Zero Tryd.prog 165 [.nilFunc] := Zero.mk (z := .nilFunc) (by kernel_rfl) rfl
theorem sz_166 : (Tryd.prog.info? 166).map (·.size) = some 1 := by kernel_rfl
theorem by_166 : (Tryd.prog.info? 166).map (·.bytes) = some 8 := by kernel_rfl
theorem one_166 : One Tryd.prog 166 := One.mk Tryd.underlying166 rfl sz_166
theorem zero_166 : Zero Tryd.prog 166 [.nilFunc] := Zero.mk (z := .nilFunc) (by kernel_rfl) rfl
theorem sz_167 : (Tryd.prog.info? 167).map (·.size) = some 1 := by kernel_rfl
theorem by_167 : (Tryd.prog.info? 167).map (·.bytes) = some 8 := by kernel_rfl
theorem one_167 : One Tryd.prog 167 := One.mk Tryd.underlying167 rfl sz_167
theorem zero_167 : Zero Tryd.prog 167 [.nilFunc] := Zero.mk (z := .nilFunc) (by kernel_rfl) rfl
theorem sz_168 : (Tryd.prog.info? 168).map (·.size) = some 1 := by kernel_rfl
theorem by_168 : (Tryd.prog.info? 168).map (·.bytes) = some 8 := by kernel_rfl
theorem one_168 : One Tryd.prog 168 := One.mk Tryd.underlying168 rfl sz_168
theorem zero_168 : Zero Tryd.prog 168 [.nilFunc] := Zero.mk (z := .nilFunc) (by kernel_rfl) rfl
theorem sz_169 : (Tryd.prog.info? 169).map (·.size) = some 1 := by kernel_rfl
theorem by_169 : (Tryd.prog.info? 169).map (·.bytes) = some 8 := by kernel_rfl
theorem one_169 : One Tryd.prog 169 := One.mk Tryd.underlying169 rfl sz_169
theorem zero_169 : Zero Tryd.prog 169 [.nilFunc] := Zero.mk (z := .nilFunc) (by kernel_rfl) rfl
theorem sz_170 : (Tryd.prog.info? 170).map (·.size) = some 1 := by kernel_rfl
theorem by_170 : (Tryd.prog.info? 170).map (·.bytes) = some 8 := by kernel_rfl
theorem one_170 : One Tryd.prog 170 := One.mk Tryd.underlying170 rfl sz_170
theorem zero_170 : Zero Tryd.prog 170 [.nilFunc] := Zero.mk (z := .nilFunc) (by kernel_rfl) rfl
theorem sz_171 : (Tryd.prog.info? 171).map (·.size) = some 1 := by kernel_rfl
theorem by_171 : (Tryd.prog.info? 171).map (·.bytes) = some 8 := by kernel_rfl
theorem one_171 : One Tryd.prog 171 := One.mk Tryd.underlying171 rfl sz_171
theorem zero_171 : Zero Tryd.prog 171 [.nilFunc] := Zero.mk (z := .nilFunc) (by kernel_rfl) rfl
theorem sz_172 : (Tryd.prog.info? 172).map (·.size) = some 1 := by kernel_rfl
theorem by_172 : (Tryd.prog.info? 172).map (·.bytes) = some 8 := by kernel_rfl
theorem one_172 : One Tryd.prog 172 := One.mk Tryd.underlying172 rfl sz_172
theorem zero_172 : Zero Tryd.prog 172 [.int .u64 0] := Zero.mk (z := .int .u64 0) (by kernel_rfl) rfl
theorem sz_173 : (Tryd.prog.info? 173).map (·.size) = some 1 := by kernel_rfl
theorem by_173 : (Tryd.prog.info? 173).map (·.bytes) = some 8 := by kernel_rfl
theorem one_173 : One Tryd.prog 173 := One.mk Tryd.underlying173 rfl sz_173
theorem zero_173 : Zero Tryd.prog 173 [.nilFunc] := Zero.mk (z := .nilFunc) (by kernel_rfl) rfl
theorem sz_174 : (Tryd.prog.info? 174).map (·.size) = some 1 := by kernel_rfl
theorem by_174 : (Tryd.prog.info? 174).map (·.bytes) = some 8 := by kernel_rfl
theorem one_174 : One Tryd.prog 174 := One.mk Tryd.underlying174 rfl sz_174
theorem zero_174 : Zero Tryd.prog 174 [.nilFunc] := Zero.mk (z := .nilFunc) (by kernel_rfl) rfl
theorem sz_175 : (Tryd.prog.info? 175).map (·.size) = some 1 := by kernel_rfl
theorem by_175 : (Tryd.prog.info? 175).map (·.bytes) = some 8 := by kernel_rfl
theorem one_175 : One Tryd.prog 175 := One.mk Tryd.underlying175 rfl sz_175
theorem zero_175 : Zero Tryd.prog 175 [.nilFunc] := Zero.mk (z := .nilFunc) (by kernel_rfl) rfl
theorem sz_176 : (Tryd.prog.info? 176).map (·.size) = some 1 := by kernel_rfl
theorem by_176 : (Tryd.prog.info? 176).map (·.bytes) = some 8 := by kernel_rfl
theorem one_176 : One Tryd.prog 176 := One.mk Tryd.underlying176 rfl sz_176
theorem zero_176 : Zero Tryd.prog 176 [.pointer none] := Zero.mk (z := .pointer none) (by kernel_rfl) rfl
theorem sz_177 : (Tryd.prog.info? 177).map (·.size) = some 1 := by kernel_rfl
theorem by_177 : (Tryd.prog.info? 177).map (·.bytes) = some 8 := by kernel_rfl
theorem one_177 : One Tryd.prog 177 := One.mk Tryd.underlying177 rfl sz_177
theorem zero_177 : Zero Tryd.prog 177 [.nilFunc] := Zero.mk (z := .nilFunc) (by kernel_rfl) rfl
theorem sz_178 : (Tryd.prog.info? 178).map (·.size) = some 1 := by kernel_rfl
theorem by_178 : (Tryd.prog.info? 178).map (·.bytes) = some 8 := by kernel_rfl
theorem one_178 : One Tryd.prog 178 := One.mk Tryd.underlying178 rfl sz_178
theorem zero_178 : Zero Tryd.prog 178 [.nilFunc] := Zero.mk (z := .nilFunc) (by kernel_rfl) rfl
theorem sz_179 : (Tryd.prog.info? 179).map (·.size) = some 1 := by kernel_rfl
theorem by_179 : (Tryd.prog.info? 179).map (·.bytes) = some 8 := by kernel_rfl
theorem one_179 : One Tryd.prog 179 := One.mk Tryd.underlying179 rfl sz_179
theorem zero_179 : Zero Tryd.prog 179 [.nilFunc] := Zero.mk (z := .nilFunc) (by kernel_rfl) rfl
theorem sz_180 : (Tryd.prog.info? 180).map (·.size) = some 1 := by kernel_rfl
theorem by_180 : (Tryd.prog.info? 180).map (·.bytes) = some 8 := by kernel_rfl
theorem one_180 : One Tryd.prog 180 := One.mk Tryd.underlying180 rfl sz_180
theorem zero_180 : Zero Tryd.prog 180 [.nilFunc] := Zero.mk (z := .nilFunc) (by kernel_rfl) rfl
theorem sz_181 : (Tryd.prog.info? 181).map (·.size) = some 1 := by kernel_rfl
theorem by_181 : (Tryd.prog.info? 181).map (·.bytes) = some 8 := by kernel_rfl
theorem one_181 : One Tryd.prog 181 := One.mk Tryd.underlying181 rfl sz_181
theorem zero_181 : Zero Tryd.prog 181 [.nilFunc] := Zero.mk (z := .nilFunc) (by kernel_rfl) rfl
theorem sz_182 : (Tryd.prog.info? 182).map (·.size) = some 1 := by kernel_rfl
theorem by_182 : (Tryd.prog.info? 182).map (·.bytes) = some 8 := by kernel_rfl
theorem one_182 : One Tryd.prog 182 := One.mk Tryd.underlying182 rfl sz_182
theorem zero_182 : Zero Tryd.prog 182 [.nilFunc] := Zero.mk (z := .nilFunc) (by kernel_rfl) rfl
theorem sz_183 : (Tryd.prog.info? 183).map (·.size) = some 1 := by kernel_rfl
theorem by_183 : (Tryd.prog.info? 183).map (·.bytes) = some 8 := by kernel_rfl
theorem one_183 : One Tryd.prog 183 := One.mk Tryd.underlying183 rfl sz_183
theorem zero_183 : Zero Tryd.prog 183 [.nilFunc] := Zero.mk (z := .nilFunc) (by kernel_rfl) rfl
theorem sz_184 : (Tryd.prog.info? 184).map (·.size) = some 1 := by kernel_rfl
theorem by_184 : (Tryd.prog.info? 184).map (·.bytes) = some 8 := by kernel_rfl
theorem one_184 : One Tryd.prog 184 := One.mk Tryd.underlying184 rfl sz_184
theorem zero_184 : Zero Tryd.prog 184 [.pointer none] := Zero.mk (z := .pointer none) (by kernel_rfl) rfl
theorem sz_185 : (Tryd.prog.info? 185).map (·.size) = some 1 := by kernel_rfl
theorem by_185 : (Tryd.prog.info? 185).map (·.bytes) = some 8 := by kernel_rfl
theorem one_185 : One Tryd.prog 185 := One.mk Tryd.underlying185 rfl sz_185
theorem zero_185 : Zero Tryd.prog 185 [.nilFunc] := Zero.mk (z := .nilFunc) (by kernel_rfl) rfl
theorem sz_186 : (Tryd.prog.info? 186).map (·.size) = some 1 := by kernel_rfl
theorem by_186 : (Tryd.prog.info? 186).map (·.bytes) = some 8 := by kernel_rfl
theorem one_186 : One Tryd.prog 186 := One.mk Tryd.underlying186 rfl sz_186
theorem zero_186 : Zero Tryd.prog 186 [.nilFunc] := Zero.mk (z := .nilFunc) (by kernel_rfl) rfl
theorem sz_187 : (Tryd.prog.info? 187).map (·.size) = some 1 := by kernel_rfl
theorem by_187 : (Tryd.prog.info? 187).map (·.bytes) = some 8 := by kernel_rfl
theorem one_187 : One Tryd.prog 187 := One.mk Tryd.underlying187 rfl sz_187
theorem zero_187 : Zero Tryd.prog 187 [.nilFunc] := Zero.mk (z := .nilFunc) (by kernel_rfl) rfl
theorem sz_188 : (Tryd.prog.info? 188).map (·.size) = some 1 := by kernel_rfl
theorem by_188 : (Tryd.prog.info? 188).map (·.bytes) = some 8 := by kernel_rfl
theorem one_188 : One Tryd.prog 188 := One.mk Tryd.underlying188 rfl sz_188
theorem zero_188 : Zero Tryd.prog 188 [.nilFunc] := Zero.mk (z := .nilFunc) (by kernel_rfl) rfl
theorem sz_189 : (Tryd.prog.info? 189).map (·.size) = some 1 := by kernel_rfl
theorem by_189 : (Tryd.prog.info? 189).map (·.bytes) = some 8 := by kernel_rfl
theorem one_189 : One Tryd.prog 189 := One.mk Tryd.underlying189 rfl sz_189
theorem zero_189 : Zero Tryd.prog 189 [.nilFunc] := Zero.mk (z := .nilFunc) (by kernel_rfl) rfl
theorem sz_190 : (Tryd.prog.info? 190).map (·.size) = some 4 := by kernel_rfl
theorem by_190 : (Tryd.prog.info? 190).map (·.bytes) = some 40 := by kernel_rfl
theorem many_190 : Many Tryd.prog 190 4 := Many.mk Tryd.underlying190 rfl sz_190
theorem zero_190 : Zero Tryd.prog 190 [.pointer none, .pointer none, .pointer none, .string ⟨#[]⟩] := Zero.mk (z := .agg #[.pointer none, .pointer none, .pointer none, .string ⟨#[]⟩]) (by kernel_rfl) rfl
theorem sz_191 : (Tryd.prog.info? 191).map (·.size) = some 4 := by kernel_rfl
theorem by_191 : (Tryd.prog.info? 191).map (·.bytes) = some 40 := by kernel_rfl
theorem many_191 : Many Tryd.prog 191 4 := Many.mk Tryd.underlying191 rfl sz_191
theorem zero_191 : Zero Tryd.prog 191 [.pointer none, .pointer none, .pointer none, .string ⟨#[]⟩] := Zero.mk (z := .agg #[.pointer none, .pointer none, .pointer none, .string ⟨#[]⟩]) (by kernel_rfl) rfl
theorem sz_192 : (Tryd.prog.info? 192).map (·.size) = some 0 := by kernel_rfl
theorem by_192 : (Tryd.prog.info? 192).map (·.bytes) = some 0 := by kernel_rfl
theorem many_192 : Many Tryd.prog 192 0 := Many.mk Tryd.underlying192 rfl sz_192
theorem zero_192 : Zero Tryd.prog 192 [] := Zero.mk (z := .agg #[]) (by kernel_rfl) rfl
theorem sz_193 : (Tryd.prog.info? 193).map (·.size) = some 0 := by kernel_rfl
theorem by_193 : (Tryd.prog.info? 193).map (·.bytes) = some 0 := by kernel_rfl
theorem many_193 : Many Tryd.prog 193 0 := Many.mk Tryd.underlying193 rfl sz_193
theorem zero_193 : Zero Tryd.prog 193 [] := Zero.mk (z := .agg #[]) (by kernel_rfl) rfl
theorem sz_194 : (Tryd.prog.info? 194).map (·.size) = some 0 := by kernel_rfl
theorem by_194 : (Tryd.prog.info? 194).map (·.bytes) = some 0 := by kernel_rfl
theorem many_194 : Many Tryd.prog 194 0 := Many.mk Tryd.underlying194 rfl sz_194
theorem zero_194 : Zero Tryd.prog 194 [] := Zero.mk (z := .agg #[]) (by kernel_rfl) rfl
theorem sz_195 : (Tryd.prog.info? 195).map (·.size) = some 1 := by kernel_rfl
theorem by_195 : (Tryd.prog.info? 195).map (·.bytes) = some 1 := by kernel_rfl
theorem one_195 : One Tryd.prog 195 := One.mk Tryd.underlying195 rfl sz_195
theorem zero_195 : Zero Tryd.prog 195 [.int .u8 0] := Zero.mk (z := .int .u8 0) (by kernel_rfl) rfl
theorem sz_196 : (Tryd.prog.info? 196).map (·.size) = some 1 := by kernel_rfl
theorem by_196 : (Tryd.prog.info? 196).map (·.bytes) = some 1 := by kernel_rfl
theorem one_196 : One Tryd.prog 196 := One.mk Tryd.underlying196 rfl sz_196
theorem zero_196 : Zero Tryd.prog 196 [.int .u8 0] := Zero.mk (z := .int .u8 0) (by kernel_rfl) rfl
theorem sz_197 : (Tryd.prog.info? 197).map (·.size) = some 1 := by kernel_rfl
theorem by_197 : (Tryd.prog.info? 197).map (·.bytes) = some 8 := by kernel_rfl
theorem one_197 : One Tryd.prog 197 := One.mk Tryd.underlying197 rfl sz_197
theorem zero_197 : Zero Tryd.prog 197 [.nilFunc] := Zero.mk (z := .nilFunc) (by kernel_rfl) rfl
theorem sz_198 : (Tryd.prog.info? 198).map (·.size) = some 1 := by kernel_rfl
theorem by_198 : (Tryd.prog.info? 198).map (·.bytes) = some 8 := by kernel_rfl
theorem one_198 : One Tryd.prog 198 := One.mk Tryd.underlying198 rfl sz_198
theorem zero_198 : Zero Tryd.prog 198 [.pointer none] := Zero.mk (z := .pointer none) (by kernel_rfl) rfl
theorem sz_199 : (Tryd.prog.info? 199).map (·.size) = some 1 := by kernel_rfl
theorem by_199 : (Tryd.prog.info? 199).map (·.bytes) = some 4 := by kernel_rfl
theorem one_199 : One Tryd.prog 199 := One.mk Tryd.underlying199 rfl sz_199
theorem zero_199 : Zero Tryd.prog 199 [.int .i32 0] := Zero.mk (z := .int .i32 0) (by kernel_rfl) rfl
theorem sz_200 : (Tryd.prog.info? 200).map (·.size) = some 1 := by kernel_rfl
theorem by_200 : (Tryd.prog.info? 200).map (·.bytes) = some 4 := by kernel_rfl
theorem one_200 : One Tryd.prog 200 := One.mk Tryd.underlying200 rfl sz_200
theorem zero_200 : Zero Tryd.prog 200 [.int .i32 0] := Zero.mk (z := .int .i32 0) (by kernel_rfl) rfl
theorem sz_201 : (Tryd.prog.info? 201).map (·.size) = some 11 := by kernel_rfl
theorem by_201 : (Tryd.prog.info? 201).map (·.bytes) = some 48 := by kernel_rfl
theorem many_201 : Many Tryd.prog 201 11 := Many.mk Tryd.underlying201 rfl sz_201
theorem zero_201 : Zero Tryd.prog 201 [.int .u64 0, .int .u64 0, .int .u32 0, .int .u8 0, .int .u8 0, .int .u8 0, .int .u8 0, .nilFunc, .pointer none, .int .i32 0, .int .i32 0] := Zero.mk (z := .agg #[.int .u64 0, .int .u64 0, .int .u32 0, .int .u8 0, .int .u8 0, .int .u8 0, .int .u8 0, .nilFunc, .pointer none, .int .i32 0, .int .i32 0]) (by kernel_rfl) rfl
theorem sz_202 : (Tryd.prog.info? 202).map (·.size) = some 11 := by kernel_rfl
theorem by_202 : (Tryd.prog.info? 202).map (·.bytes) = some 48 := by kernel_rfl
theorem many_202 : Many Tryd.prog 202 11 := Many.mk Tryd.underlying202 rfl sz_202
theorem zero_202 : Zero Tryd.prog 202 [.int .u64 0, .int .u64 0, .int .u32 0, .int .u8 0, .int .u8 0, .int .u8 0, .int .u8 0, .nilFunc, .pointer none, .int .i32 0, .int .i32 0] := Zero.mk (z := .agg #[.int .u64 0, .int .u64 0, .int .u32 0, .int .u8 0, .int .u8 0, .int .u8 0, .int .u8 0, .nilFunc, .pointer none, .int .i32 0, .int .i32 0]) (by kernel_rfl) rfl
theorem sz_203 : (Tryd.prog.info? 203).map (·.size) = some 1 := by kernel_rfl
theorem by_203 : (Tryd.prog.info? 203).map (·.bytes) = some 8 := by kernel_rfl
theorem one_203 : One Tryd.prog 203 := One.mk Tryd.underlying203 rfl sz_203
theorem zero_203 : Zero Tryd.prog 203 [.pointer none] := Zero.mk (z := .pointer none) (by kernel_rfl) rfl
theorem fld_7_0 : FieldAt Tryd.prog 7 0 0 2 := FieldAt.mk Tryd.underlying7 rfl rfl rfl sz_2
theorem fld_7_1 : FieldAt Tryd.prog 7 1 1 3 := FieldAt.mk Tryd.underlying7 rfl rfl rfl sz_3
theorem fld_7_2 : FieldAt Tryd.prog 7 2 2 4 := FieldAt.mk Tryd.underlying7 rfl rfl rfl sz_4
theorem fld_7_3 : FieldAt Tryd.prog 7 3 3 6 := FieldAt.mk Tryd.underlying7 rfl rfl rfl sz_6
theorem fld_8_0 : FieldAt Tryd.prog 8 0 0 2 := FieldAt.mk Tryd.underlying8 rfl rfl rfl sz_2
theorem fld_8_1 : FieldAt Tryd.prog 8 1 1 3 := FieldAt.mk Tryd.underlying8 rfl rfl rfl sz_3
theorem fld_8_2 : FieldAt Tryd.prog 8 2 2 4 := FieldAt.mk Tryd.underlying8 rfl rfl rfl sz_4
theorem fld_8_3 : FieldAt Tryd.prog 8 3 3 6 := FieldAt.mk Tryd.underlying8 rfl rfl rfl sz_6
theorem fld_13_0 : FieldAt Tryd.prog 13 0 0 9 := FieldAt.mk Tryd.underlying13 rfl rfl rfl sz_9
theorem fld_13_1 : FieldAt Tryd.prog 13 1 1 12 := FieldAt.mk Tryd.underlying13 rfl rfl rfl sz_12
theorem fld_14_0 : FieldAt Tryd.prog 14 0 0 9 := FieldAt.mk Tryd.underlying14 rfl rfl rfl sz_9
theorem fld_14_1 : FieldAt Tryd.prog 14 1 1 12 := FieldAt.mk Tryd.underlying14 rfl rfl rfl sz_12
theorem fld_18_0 : FieldAt Tryd.prog 18 0 0 17 := FieldAt.mk Tryd.underlying18 rfl rfl rfl sz_17
theorem fld_19_0 : FieldAt Tryd.prog 19 0 0 17 := FieldAt.mk Tryd.underlying19 rfl rfl rfl sz_17
theorem fld_24_0 : FieldAt Tryd.prog 24 0 0 3 := FieldAt.mk Tryd.underlying24 rfl rfl rfl sz_3
theorem fld_24_1 : FieldAt Tryd.prog 24 1 1 23 := FieldAt.mk Tryd.underlying24 rfl rfl rfl sz_23
theorem fld_25_0 : FieldAt Tryd.prog 25 0 0 3 := FieldAt.mk Tryd.underlying25 rfl rfl rfl sz_3
theorem fld_25_1 : FieldAt Tryd.prog 25 1 1 23 := FieldAt.mk Tryd.underlying25 rfl rfl rfl sz_23
theorem fld_30_0 : FieldAt Tryd.prog 30 0 0 3 := FieldAt.mk Tryd.underlying30 rfl rfl rfl sz_3
theorem fld_30_1 : FieldAt Tryd.prog 30 1 1 27 := FieldAt.mk Tryd.underlying30 rfl rfl rfl sz_27
theorem fld_30_2 : FieldAt Tryd.prog 30 2 7 27 := FieldAt.mk Tryd.underlying30 rfl rfl rfl sz_27
theorem fld_30_3 : FieldAt Tryd.prog 30 3 13 3 := FieldAt.mk Tryd.underlying30 rfl rfl rfl sz_3
theorem fld_30_4 : FieldAt Tryd.prog 30 4 14 29 := FieldAt.mk Tryd.underlying30 rfl rfl rfl sz_29
theorem fld_30_5 : FieldAt Tryd.prog 30 5 15 29 := FieldAt.mk Tryd.underlying30 rfl rfl rfl sz_29
theorem fld_30_6 : FieldAt Tryd.prog 30 6 16 3 := FieldAt.mk Tryd.underlying30 rfl rfl rfl sz_3
theorem fld_30_7 : FieldAt Tryd.prog 30 7 17 3 := FieldAt.mk Tryd.underlying30 rfl rfl rfl sz_3
theorem fld_30_8 : FieldAt Tryd.prog 30 8 18 3 := FieldAt.mk Tryd.underlying30 rfl rfl rfl sz_3
theorem fld_31_0 : FieldAt Tryd.prog 31 0 0 3 := FieldAt.mk Tryd.underlying31 rfl rfl rfl sz_3
theorem fld_31_1 : FieldAt Tryd.prog 31 1 1 27 := FieldAt.mk Tryd.underlying31 rfl rfl rfl sz_27
theorem fld_31_2 : FieldAt Tryd.prog 31 2 7 27 := FieldAt.mk Tryd.underlying31 rfl rfl rfl sz_27
theorem fld_31_3 : FieldAt Tryd.prog 31 3 13 3 := FieldAt.mk Tryd.underlying31 rfl rfl rfl sz_3
theorem fld_31_4 : FieldAt Tryd.prog 31 4 14 29 := FieldAt.mk Tryd.underlying31 rfl rfl rfl sz_29
theorem fld_31_5 : FieldAt Tryd.prog 31 5 15 29 := FieldAt.mk Tryd.underlying31 rfl rfl rfl sz_29
theorem fld_31_6 : FieldAt Tryd.prog 31 6 16 3 := FieldAt.mk Tryd.underlying31 rfl rfl rfl sz_3
theorem fld_31_7 : FieldAt Tryd.prog 31 7 17 3 := FieldAt.mk Tryd.underlying31 rfl rfl rfl sz_3
theorem fld_31_8 : FieldAt Tryd.prog 31 8 18 3 := FieldAt.mk Tryd.underlying31 rfl rfl rfl sz_3
theorem fld_44_0 : FieldAt Tryd.prog 44 0 0 3 := FieldAt.mk Tryd.underlying44 rfl rfl rfl sz_3
theorem fld_44_1 : FieldAt Tryd.prog 44 1 1 37 := FieldAt.mk Tryd.underlying44 rfl rfl rfl sz_37
theorem fld_44_2 : FieldAt Tryd.prog 44 2 2 22 := FieldAt.mk Tryd.underlying44 rfl rfl rfl sz_22
theorem fld_44_3 : FieldAt Tryd.prog 44 3 3 22 := FieldAt.mk Tryd.underlying44 rfl rfl rfl sz_22
theorem fld_44_4 : FieldAt Tryd.prog 44 4 4 43 := FieldAt.mk Tryd.underlying44 rfl rfl rfl sz_43
theorem fld_45_0 : FieldAt Tryd.prog 45 0 0 3 := FieldAt.mk Tryd.underlying45 rfl rfl rfl sz_3
theorem fld_45_1 : FieldAt Tryd.prog 45 1 1 37 := FieldAt.mk Tryd.underlying45 rfl rfl rfl sz_37
theorem fld_45_2 : FieldAt Tryd.prog 45 2 2 22 := FieldAt.mk Tryd.underlying45 rfl rfl rfl sz_22
theorem fld_45_3 : FieldAt Tryd.prog 45 3 3 22 := FieldAt.mk Tryd.underlying45 rfl rfl rfl sz_22
theorem fld_45_4 : FieldAt Tryd.prog 45 4 4 43 := FieldAt.mk Tryd.underlying45 rfl rfl rfl sz_43
theorem fld_51_0 : FieldAt Tryd.prog 51 0 0 3 := FieldAt.mk Tryd.underlying51 rfl rfl rfl sz_3
theorem fld_51_1 : FieldAt Tryd.prog 51 1 1 3 := FieldAt.mk Tryd.underlying51 rfl rfl rfl sz_3
theorem fld_51_2 : FieldAt Tryd.prog 51 2 2 22 := FieldAt.mk Tryd.underlying51 rfl rfl rfl sz_22
theorem fld_51_3 : FieldAt Tryd.prog 51 3 3 22 := FieldAt.mk Tryd.underlying51 rfl rfl rfl sz_22
theorem fld_51_4 : FieldAt Tryd.prog 51 4 4 50 := FieldAt.mk Tryd.underlying51 rfl rfl rfl sz_50
theorem fld_52_0 : FieldAt Tryd.prog 52 0 0 3 := FieldAt.mk Tryd.underlying52 rfl rfl rfl sz_3
theorem fld_52_1 : FieldAt Tryd.prog 52 1 1 3 := FieldAt.mk Tryd.underlying52 rfl rfl rfl sz_3
theorem fld_52_2 : FieldAt Tryd.prog 52 2 2 22 := FieldAt.mk Tryd.underlying52 rfl rfl rfl sz_22
theorem fld_52_3 : FieldAt Tryd.prog 52 3 3 22 := FieldAt.mk Tryd.underlying52 rfl rfl rfl sz_22
theorem fld_52_4 : FieldAt Tryd.prog 52 4 4 50 := FieldAt.mk Tryd.underlying52 rfl rfl rfl sz_50
theorem fld_78_0 : FieldAt Tryd.prog 78 0 0 3 := FieldAt.mk Tryd.underlying78 rfl rfl rfl sz_3
theorem fld_78_1 : FieldAt Tryd.prog 78 1 1 77 := FieldAt.mk Tryd.underlying78 rfl rfl rfl sz_77
theorem fld_78_2 : FieldAt Tryd.prog 78 2 2 75 := FieldAt.mk Tryd.underlying78 rfl rfl rfl sz_75
theorem fld_78_3 : FieldAt Tryd.prog 78 3 3 31 := FieldAt.mk Tryd.underlying78 rfl rfl rfl sz_31
theorem fld_79_0 : FieldAt Tryd.prog 79 0 0 3 := FieldAt.mk Tryd.underlying79 rfl rfl rfl sz_3
theorem fld_79_1 : FieldAt Tryd.prog 79 1 1 77 := FieldAt.mk Tryd.underlying79 rfl rfl rfl sz_77
theorem fld_79_2 : FieldAt Tryd.prog 79 2 2 75 := FieldAt.mk Tryd.underlying79 rfl rfl rfl sz_75
theorem fld_79_3 : FieldAt Tryd.prog 79 3 3 31 := FieldAt.mk Tryd.underlying79 rfl rfl rfl sz_31
theorem fld_85_0 : FieldAt Tryd.prog 85 0 0 23 := FieldAt.mk Tryd.underlying85 rfl rfl rfl sz_23
theorem fld_85_1 : FieldAt Tryd.prog 85 1 9 23 := FieldAt.mk Tryd.underlying85 rfl rfl rfl sz_23
theorem fld_86_0 : FieldAt Tryd.prog 86 0 0 23 := FieldAt.mk Tryd.underlying86 rfl rfl rfl sz_23
theorem fld_86_1 : FieldAt Tryd.prog 86 1 9 23 := FieldAt.mk Tryd.underlying86 rfl rfl rfl sz_23
theorem fld_88_0 : FieldAt Tryd.prog 88 0 0 86 := FieldAt.mk Tryd.underlying88 rfl rfl rfl sz_86
theorem fld_88_1 : FieldAt Tryd.prog 88 1 18 87 := FieldAt.mk Tryd.underlying88 rfl rfl rfl sz_87
theorem fld_89_0 : FieldAt Tryd.prog 89 0 0 86 := FieldAt.mk Tryd.underlying89 rfl rfl rfl sz_86
theorem fld_89_1 : FieldAt Tryd.prog 89 1 18 87 := FieldAt.mk Tryd.underlying89 rfl rfl rfl sz_87
theorem fld_90_0 : FieldAt Tryd.prog 90 0 0 3 := FieldAt.mk Tryd.underlying90 rfl rfl rfl sz_3
theorem fld_90_1 : FieldAt Tryd.prog 90 1 1 3 := FieldAt.mk Tryd.underlying90 rfl rfl rfl sz_3
theorem fld_90_2 : FieldAt Tryd.prog 90 2 2 89 := FieldAt.mk Tryd.underlying90 rfl rfl rfl sz_89
theorem fld_91_0 : FieldAt Tryd.prog 91 0 0 3 := FieldAt.mk Tryd.underlying91 rfl rfl rfl sz_3
theorem fld_91_1 : FieldAt Tryd.prog 91 1 1 3 := FieldAt.mk Tryd.underlying91 rfl rfl rfl sz_3
theorem fld_91_2 : FieldAt Tryd.prog 91 2 2 89 := FieldAt.mk Tryd.underlying91 rfl rfl rfl sz_89
theorem fld_124_0 : FieldAt Tryd.prog 124 0 0 3 := FieldAt.mk Tryd.underlying124 rfl rfl rfl sz_3
theorem fld_124_1 : FieldAt Tryd.prog 124 1 1 75 := FieldAt.mk Tryd.underlying124 rfl rfl rfl sz_75
theorem fld_125_0 : FieldAt Tryd.prog 125 0 0 3 := FieldAt.mk Tryd.underlying125 rfl rfl rfl sz_3
theorem fld_125_1 : FieldAt Tryd.prog 125 1 1 75 := FieldAt.mk Tryd.underlying125 rfl rfl rfl sz_75
theorem fld_190_0 : FieldAt Tryd.prog 190 0 0 17 := FieldAt.mk Tryd.underlying190 rfl rfl rfl sz_17
theorem fld_190_1 : FieldAt Tryd.prog 190 1 1 17 := FieldAt.mk Tryd.underlying190 rfl rfl rfl sz_17
theorem fld_190_2 : FieldAt Tryd.prog 190 2 2 17 := FieldAt.mk Tryd.underlying190 rfl rfl rfl sz_17
theorem fld_190_3 : FieldAt Tryd.prog 190 3 3 9 := FieldAt.mk Tryd.underlying190 rfl rfl rfl sz_9
theorem fld_191_0 : FieldAt Tryd.prog 191 0 0 17 := FieldAt.mk Tryd.underlying191 rfl rfl rfl sz_17
theorem fld_191_1 : FieldAt Tryd.prog 191 1 1 17 := FieldAt.mk Tryd.underlying191 rfl rfl rfl sz_17
theorem fld_191_2 : FieldAt Tryd.prog 191 2 2 17 := FieldAt.mk Tryd.underlying191 rfl rfl rfl sz_17
theorem fld_191_3 : FieldAt Tryd.prog 191 3 3 9 := FieldAt.mk Tryd.underlying191 rfl rfl rfl sz_9
theorem fld_201_0 : FieldAt Tryd.prog 201 0 0 12 := FieldAt.mk Tryd.underlying201 rfl rfl rfl sz_12
theorem fld_201_1 : FieldAt Tryd.prog 201 1 1 12 := FieldAt.mk Tryd.underlying201 rfl rfl rfl sz_12
theorem fld_201_2 : FieldAt Tryd.prog 201 2 2 28 := FieldAt.mk Tryd.underlying201 rfl rfl rfl sz_28
theorem fld_201_3 : FieldAt Tryd.prog 201 3 3 195 := FieldAt.mk Tryd.underlying201 rfl rfl rfl sz_195
theorem fld_201_4 : FieldAt Tryd.prog 201 4 4 5 := FieldAt.mk Tryd.underlying201 rfl rfl rfl sz_5
theorem fld_201_5 : FieldAt Tryd.prog 201 5 5 5 := FieldAt.mk Tryd.underlying201 rfl rfl rfl sz_5
theorem fld_201_6 : FieldAt Tryd.prog 201 6 6 196 := FieldAt.mk Tryd.underlying201 rfl rfl rfl sz_196
theorem fld_201_7 : FieldAt Tryd.prog 201 7 7 197 := FieldAt.mk Tryd.underlying201 rfl rfl rfl sz_197
theorem fld_201_8 : FieldAt Tryd.prog 201 8 8 198 := FieldAt.mk Tryd.underlying201 rfl rfl rfl sz_198
theorem fld_201_9 : FieldAt Tryd.prog 201 9 9 199 := FieldAt.mk Tryd.underlying201 rfl rfl rfl sz_199
theorem fld_201_10 : FieldAt Tryd.prog 201 10 10 200 := FieldAt.mk Tryd.underlying201 rfl rfl rfl sz_200
theorem fld_202_0 : FieldAt Tryd.prog 202 0 0 12 := FieldAt.mk Tryd.underlying202 rfl rfl rfl sz_12
theorem fld_202_1 : FieldAt Tryd.prog 202 1 1 12 := FieldAt.mk Tryd.underlying202 rfl rfl rfl sz_12
theorem fld_202_2 : FieldAt Tryd.prog 202 2 2 28 := FieldAt.mk Tryd.underlying202 rfl rfl rfl sz_28
theorem fld_202_3 : FieldAt Tryd.prog 202 3 3 195 := FieldAt.mk Tryd.underlying202 rfl rfl rfl sz_195
theorem fld_202_4 : FieldAt Tryd.prog 202 4 4 5 := FieldAt.mk Tryd.underlying202 rfl rfl rfl sz_5
theorem fld_202_5 : FieldAt Tryd.prog 202 5 5 5 := FieldAt.mk Tryd.underlying202 rfl rfl rfl sz_5
theorem fld_202_6 : FieldAt Tryd.prog 202 6 6 196 := FieldAt.mk Tryd.underlying202 rfl rfl rfl sz_196
theorem fld_202_7 : FieldAt Tryd.prog 202 7 7 197 := FieldAt.mk Tryd.underlying202 rfl rfl rfl sz_197
theorem fld_202_8 : FieldAt Tryd.prog 202 8 8 198 := FieldAt.mk Tryd.underlying202 rfl rfl rfl sz_198
theorem fld_202_9 : FieldAt Tryd.prog 202 9 9 199 := FieldAt.mk Tryd.underlying202 rfl rfl rfl sz_199
theorem fld_202_10 : FieldAt Tryd.prog 202 10 10 200 := FieldAt.mk Tryd.underlying202 rfl rfl rfl sz_200
theorem plc_25 : Places Tryd.prog 25 [(0, 1), (1, 9)] := ⟨_, Tryd.underlying25, fun w => by simp [run_sizeOf sz_3, run_sizeOf sz_23]⟩
theorem plc_31 : Places Tryd.prog 31 [(0, 1), (1, 6), (7, 6), (13, 1), (14, 1), (15, 1), (16, 1), (17, 1), (18, 1)] := ⟨_, Tryd.underlying31, fun w => by simp [run_sizeOf sz_3, run_sizeOf sz_27, run_sizeOf sz_29]⟩
theorem plc_45 : Places Tryd.prog 45 [(0, 1), (1, 1), (2, 1), (3, 1), (4, 1)] := ⟨_, Tryd.underlying45, fun w => by simp [run_sizeOf sz_3, run_sizeOf sz_37, run_sizeOf sz_22, run_sizeOf sz_43]⟩
theorem plc_52 : Places Tryd.prog 52 [(0, 1), (1, 1), (2, 1), (3, 1), (4, 1)] := ⟨_, Tryd.underlying52, fun w => by simp [run_sizeOf sz_3, run_sizeOf sz_22, run_sizeOf sz_50]⟩
theorem plc_79 : Places Tryd.prog 79 [(0, 1), (1, 1), (2, 1), (3, 19)] := ⟨_, Tryd.underlying79, fun w => by simp [run_sizeOf sz_3, run_sizeOf sz_77, run_sizeOf sz_75, run_sizeOf sz_31]⟩
theorem plc_86 : Places Tryd.prog 86 [(0, 9), (9, 9)] := ⟨_, Tryd.underlying86, fun w => by simp [run_sizeOf sz_23]⟩
theorem plc_89 : Places Tryd.prog 89 [(0, 18), (18, 1)] := ⟨_, Tryd.underlying89, fun w => by simp [run_sizeOf sz_86, run_sizeOf sz_87]⟩
theorem plc_91 : Places Tryd.prog 91 [(0, 1), (1, 1), (2, 19)] := ⟨_, Tryd.underlying91, fun w => by simp [run_sizeOf sz_3, run_sizeOf sz_89]⟩
theorem plc_125 : Places Tryd.prog 125 [(0, 1), (1, 1)] := ⟨_, Tryd.underlying125, fun w => by simp [run_sizeOf sz_3, run_sizeOf sz_75]⟩
theorem plc_143 : Places Tryd.prog 143 [] := ⟨_, Tryd.underlying143, fun w => by simp []⟩
theorem eqk_25 : EqK Tryd.prog 10000 25 true [.i .i64, .i .u64, .i .u64, .i .u64, .i .u64, .i .u64, .i .u64, .i .u64, .i .u64, .i .u64] := (EqK.struct Tryd.underlying25 (by kernel_rfl) sz_25 (.cons (off := 0) (k1 := [.i .i64]) (k2 := [.i .u64, .i .u64, .i .u64, .i .u64, .i .u64, .i .u64, .i .u64, .i .u64, .i .u64]) (by kernel_rfl) rfl (EqK.int Tryd.underlying3 sz_3) (.cons (off := 1) (k1 := [.i .u64, .i .u64, .i .u64, .i .u64, .i .u64, .i .u64, .i .u64, .i .u64, .i .u64]) (k2 := []) (by kernel_rfl) rfl (EqK.array Tryd.underlying23 sz_23 (EqK.int Tryd.underlying22 sz_22) rfl) .nil)))
theorem eqg_25 : Tryd.prog.eqGuardType Tryd.prog.depth 25 = false := by kernel_rfl
theorem eqk_31 : EqK Tryd.prog 10000 31 true [.i .i64, .i .u8, .i .u8, .i .u8, .i .u8, .i .u8, .i .u8, .i .u8, .i .u8, .i .u8, .i .u8, .i .u8, .i .u8, .i .i64, .i .u32, .i .u32, .i .i64, .i .i64, .i .i64] := (EqK.struct Tryd.underlying31 (by kernel_rfl) sz_31 (.cons (off := 0) (k1 := [.i .i64]) (k2 := [.i .u8, .i .u8, .i .u8, .i .u8, .i .u8, .i .u8, .i .u8, .i .u8, .i .u8, .i .u8, .i .u8, .i .u8, .i .i64, .i .u32, .i .u32, .i .i64, .i .i64, .i .i64]) (by kernel_rfl) rfl (EqK.int Tryd.underlying3 sz_3) (.cons (off := 1) (k1 := [.i .u8, .i .u8, .i .u8, .i .u8, .i .u8, .i .u8]) (k2 := [.i .u8, .i .u8, .i .u8, .i .u8, .i .u8, .i .u8, .i .i64, .i .u32, .i .u32, .i .i64, .i .i64, .i .i64]) (by kernel_rfl) rfl (EqK.array Tryd.underlying27 sz_27 (EqK.int Tryd.underlying5 sz_5) rfl) (.cons (off := 7) (k1 := [.i .u8, .i .u8, .i .u8, .i .u8, .i .u8, .i .u8]) (k2 := [.i .i64, .i .u32, .i .u32, .i .i64, .i .i64, .i .i64]) (by kernel_rfl) rfl (EqK.array Tryd.underlying27 sz_27 (EqK.int Tryd.underlying5 sz_5) rfl) (.cons (off := 13) (k1 := [.i .i64]) (k2 := [.i .u32, .i .u32, .i .i64, .i .i64, .i .i64]) (by kernel_rfl) rfl (EqK.int Tryd.underlying3 sz_3) (.cons (off := 14) (k1 := [.i .u32]) (k2 := [.i .u32, .i .i64, .i .i64, .i .i64]) (by kernel_rfl) rfl (EqK.int Tryd.underlying29 sz_29) (.cons (off := 15) (k1 := [.i .u32]) (k2 := [.i .i64, .i .i64, .i .i64]) (by kernel_rfl) rfl (EqK.int Tryd.underlying29 sz_29) (.cons (off := 16) (k1 := [.i .i64]) (k2 := [.i .i64, .i .i64]) (by kernel_rfl) rfl (EqK.int Tryd.underlying3 sz_3) (.cons (off := 17) (k1 := [.i .i64]) (k2 := [.i .i64]) (by kernel_rfl) rfl (EqK.int Tryd.underlying3 sz_3) (.cons (off := 18) (k1 := [.i .i64]) (k2 := []) (by kernel_rfl) rfl (EqK.int Tryd.underlying3 sz_3) .nil))))))))))
theorem eqg_31 : Tryd.prog.eqGuardType Tryd.prog.depth 31 = false := by kernel_rfl
theorem eqk_59 : EqK Tryd.prog 10000 59 true [.i .u64, .i .u64, .i .u64, .i .u64, .i .u64, .i .u64, .i .u64, .i .u64, .i .u64] := (EqK.array Tryd.underlying59 sz_59 (EqK.int Tryd.underlying22 sz_22) rfl)
theorem eqg_59 : Tryd.prog.eqGuardType Tryd.prog.depth 59 = false := by kernel_rfl
theorem eqk_86 : EqK Tryd.prog 10000 86 true [.i .u64, .i .u64, .i .u64, .i .u64, .i .u64, .i .u64, .i .u64, .i .u64, .i .u64, .i .u64, .i .u64, .i .u64, .i .u64, .i .u64, .i .u64, .i .u64, .i .u64, .i .u64] := (EqK.struct Tryd.underlying86 (by kernel_rfl) sz_86 (.cons (off := 0) (k1 := [.i .u64, .i .u64, .i .u64, .i .u64, .i .u64, .i .u64, .i .u64, .i .u64, .i .u64]) (k2 := [.i .u64, .i .u64, .i .u64, .i .u64, .i .u64, .i .u64, .i .u64, .i .u64, .i .u64]) (by kernel_rfl) rfl (EqK.array Tryd.underlying23 sz_23 (EqK.int Tryd.underlying22 sz_22) rfl) (.cons (off := 9) (k1 := [.i .u64, .i .u64, .i .u64, .i .u64, .i .u64, .i .u64, .i .u64, .i .u64, .i .u64]) (k2 := []) (by kernel_rfl) rfl (EqK.array Tryd.underlying23 sz_23 (EqK.int Tryd.underlying22 sz_22) rfl) .nil)))
theorem eqg_86 : Tryd.prog.eqGuardType Tryd.prog.depth 86 = false := by kernel_rfl
theorem ck_2 : callOk Tryd.prog 2 := callOk_of Tryd.func2 (by kernel_rfl) rfl
theorem ck_3 : callOk Tryd.prog 3 := callOk_of Tryd.func3 (by kernel_rfl) rfl
theorem ck_4 : callOk Tryd.prog 4 := callOk_of Tryd.func4 (by kernel_rfl) rfl
theorem ck_5 : callOk Tryd.prog 5 := callOk_of Tryd.func5 (by kernel_rfl) rfl
theorem ck_6 : callOk Tryd.prog 6 := callOk_of Tryd.func6 (by kernel_rfl) rfl
theorem ck_7 : callOk Tryd.prog 7 := callOk_of Tryd.func7 (by kernel_rfl) rfl
theorem ck_8 : callOk Tryd.prog 8 := callOk_of Tryd.func8 (by kernel_rfl) rfl
theorem ck_9 : callOk Tryd.prog 9 := callOk_of Tryd.func9 (by kernel_rfl) rfl
theorem ck_10 : callOk Tryd.prog 10 := callOk_of Tryd.func10 (by kernel_rfl) rfl
theorem ck_11 : callOk Tryd.prog 11 := callOk_of Tryd.func11 (by kernel_rfl) rfl
theorem ck_12 : callOk Tryd.prog 12 := callOk_of Tryd.func12 (by kernel_rfl) rfl
theorem ck_13 : callOk Tryd.prog 13 := callOk_of Tryd.func13 (by kernel_rfl) rfl
theorem ck_14 : callOk Tryd.prog 14 := callOk_of Tryd.func14 (by kernel_rfl) rfl
theorem ck_15 : callOk Tryd.prog 15 := callOk_of Tryd.func15 (by kernel_rfl) rfl
theorem ck_16 : callOk Tryd.prog 16 := callOk_of Tryd.func16 (by kernel_rfl) rfl
theorem ck_17 : callOk Tryd.prog 17 := callOk_of Tryd.func17 (by kernel_rfl) rfl
theorem ck_18 : callOk Tryd.prog 18 := callOk_of Tryd.func18 (by kernel_rfl) rfl
theorem ck_19 : callOk Tryd.prog 19 := callOk_of Tryd.func19 (by kernel_rfl) rfl
theorem ck_20 : callOk Tryd.prog 20 := callOk_of Tryd.func20 (by kernel_rfl) rfl
theorem ck_21 : callOk Tryd.prog 21 := callOk_of Tryd.func21 (by kernel_rfl) rfl
theorem ck_22 : callOk Tryd.prog 22 := callOk_of Tryd.func22 (by kernel_rfl) rfl
theorem ck_23 : callOk Tryd.prog 23 := callOk_of Tryd.func23 (by kernel_rfl) rfl
theorem ck_24 : callOk Tryd.prog 24 := callOk_of Tryd.func24 (by kernel_rfl) rfl
theorem ck_25 : callOk Tryd.prog 25 := callOk_of Tryd.func25 (by kernel_rfl) rfl
theorem ck_26 : callOk Tryd.prog 26 := callOk_of Tryd.func26 (by kernel_rfl) rfl
theorem ck_27 : callOk Tryd.prog 27 := callOk_of Tryd.func27 (by kernel_rfl) rfl
theorem ck_28 : callOk Tryd.prog 28 := callOk_of Tryd.func28 (by kernel_rfl) rfl
theorem ck_29 : callOk Tryd.prog 29 := callOk_of Tryd.func29 (by kernel_rfl) rfl
theorem ck_30 : callOk Tryd.prog 30 := callOk_of Tryd.func30 (by kernel_rfl) rfl
theorem ck_31 : callOk Tryd.prog 31 := callOk_of Tryd.func31 (by kernel_rfl) rfl
theorem ck_32 : callOk Tryd.prog 32 := callOk_of Tryd.func32 (by kernel_rfl) rfl
theorem ck_33 : callOk Tryd.prog 33 := callOk_of Tryd.func33 (by kernel_rfl) rfl
theorem ck_34 : callOk Tryd.prog 34 := callOk_of Tryd.func34 (by kernel_rfl) rfl
theorem ck_35 : callOk Tryd.prog 35 := callOk_of Tryd.func35 (by kernel_rfl) rfl
theorem ck_36 : callOk Tryd.prog 36 := callOk_of Tryd.func36 (by kernel_rfl) rfl
theorem ck_37 : callOk Tryd.prog 37 := callOk_of Tryd.func37 (by kernel_rfl) rfl
theorem ck_38 : callOk Tryd.prog 38 := callOk_of Tryd.func38 (by kernel_rfl) rfl
theorem ck_39 : callOk Tryd.prog 39 := callOk_of Tryd.func39 (by kernel_rfl) rfl
theorem ck_40 : callOk Tryd.prog 40 := callOk_of Tryd.func40 (by kernel_rfl) rfl
theorem ck_41 : callOk Tryd.prog 41 := callOk_of Tryd.func41 (by kernel_rfl) rfl
theorem ck_42 : callOk Tryd.prog 42 := callOk_of Tryd.func42 (by kernel_rfl) rfl
theorem ck_43 : callOk Tryd.prog 43 := callOk_of Tryd.func43 (by kernel_rfl) rfl
theorem ck_44 : callOk Tryd.prog 44 := callOk_of Tryd.func44 (by kernel_rfl) rfl
theorem ck_45 : callOk Tryd.prog 45 := callOk_of Tryd.func45 (by kernel_rfl) rfl
theorem ck_46 : callOk Tryd.prog 46 := callOk_of Tryd.func46 (by kernel_rfl) rfl
theorem ck_47 : callOk Tryd.prog 47 := callOk_of Tryd.func47 (by kernel_rfl) rfl
theorem ck_48 : callOk Tryd.prog 48 := callOk_of Tryd.func48 (by kernel_rfl) rfl
theorem ck_49 : callOk Tryd.prog 49 := callOk_of Tryd.func49 (by kernel_rfl) rfl
theorem ck_50 : callOk Tryd.prog 50 := callOk_of Tryd.func50 (by kernel_rfl) rfl
theorem ck_51 : callOk Tryd.prog 51 := callOk_of Tryd.func51 (by kernel_rfl) rfl
theorem ck_52 : callOk Tryd.prog 52 := callOk_of Tryd.func52 (by kernel_rfl) rfl
theorem ck_53 : callOk Tryd.prog 53 := callOk_of Tryd.func53 (by kernel_rfl) rfl
theorem ck_54 : callOk Tryd.prog 54 := callOk_of Tryd.func54 (by kernel_rfl) rfl
theorem ck_55 : callOk Tryd.prog 55 := callOk_of Tryd.func55 (by kernel_rfl) rfl
theorem ck_56 : callOk Tryd.prog 56 := callOk_of Tryd.func56 (by kernel_rfl) rfl
theorem ck_57 : callOk Tryd.prog 57 := callOk_of Tryd.func57 (by kernel_rfl) rfl
theorem ck_58 : callOk Tryd.prog 58 := callOk_of Tryd.func58 (by kernel_rfl) rfl
theorem ck_59 : callOk Tryd.prog 59 := callOk_of Tryd.func59 (by kernel_rfl) rfl
theorem ck_60 : callOk Tryd.prog 60 := callOk_of Tryd.func60 (by kernel_rfl) rfl
theorem ck_61 : callOk Tryd.prog 61 := callOk_of Tryd.func61 (by kernel_rfl) rfl
theorem ck_62 : callOk Tryd.prog 62 := callOk_of Tryd.func62 (by kernel_rfl) rfl
theorem ck_63 : callOk Tryd.prog 63 := callOk_of Tryd.func63 (by kernel_rfl) rfl
theorem ck_64 : callOk Tryd.prog 64 := callOk_of Tryd.func64 (by kernel_rfl) rfl
theorem ck_65 : callOk Tryd.prog 65 := callOk_of Tryd.func65 (by kernel_rfl) rfl
theorem ck_66 : callOk Tryd.prog 66 := callOk_of Tryd.func66 (by kernel_rfl) rfl
theorem ck_67 : callOk Tryd.prog 67 := callOk_of Tryd.func67 (by kernel_rfl) rfl
theorem ck_68 : callOk Tryd.prog 68 := callOk_of Tryd.func68 (by kernel_rfl) rfl
theorem ck_69 : callOk Tryd.prog 69 := callOk_of Tryd.func69 (by kernel_rfl) rfl
theorem ck_70 : callOk Tryd.prog 70 := callOk_of Tryd.func70 (by kernel_rfl) rfl
theorem ck_71 : callOk Tryd.prog 71 := callOk_of Tryd.func71 (by kernel_rfl) rfl
theorem ck_72 : callOk Tryd.prog 72 := callOk_of Tryd.func72 (by kernel_rfl) rfl
theorem ck_73 : callOk Tryd.prog 73 := callOk_of Tryd.func73 (by kernel_rfl) rfl
theorem ck_74 : callOk Tryd.prog 74 := callOk_of Tryd.func74 (by kernel_rfl) rfl
theorem ck_75 : callOk Tryd.prog 75 := callOk_of Tryd.func75 (by kernel_rfl) rfl
theorem ck_76 : callOk Tryd.prog 76 := callOk_of Tryd.func76 (by kernel_rfl) rfl
theorem ck_77 : callOk Tryd.prog 77 := callOk_of Tryd.func77 (by kernel_rfl) rfl
theorem ck_78 : callOk Tryd.prog 78 := callOk_of Tryd.func78 (by kernel_rfl) rfl
theorem ck_79 : callOk Tryd.prog 79 := callOk_of Tryd.func79 (by kernel_rfl) rfl
theorem ck_80 : callOk Tryd.prog 80 := callOk_of Tryd.func80 (by kernel_rfl) rfl
theorem ck_81 : callOk Tryd.prog 81 := callOk_of Tryd.func81 (by kernel_rfl) rfl
theorem ck_82 : callOk Tryd.prog 82 := callOk_of Tryd.func82 (by kernel_rfl) rfl
theorem ck_83 : callOk Tryd.prog 83 := callOk_of Tryd.func83 (by kernel_rfl) rfl
theorem ck_84 : callOk Tryd.prog 84 := callOk_of Tryd.func84 (by kernel_rfl) rfl
theorem ck_85 : callOk Tryd.prog 85 := callOk_of Tryd.func85 (by kernel_rfl) rfl
theorem ck_86 : callOk Tryd.prog 86 := callOk_of Tryd.func86 (by kernel_rfl) rfl
theorem ck_87 : callOk Tryd.prog 87 := callOk_of Tryd.func87 (by kernel_rfl) rfl
theorem ck_88 : callOk Tryd.prog 88 := callOk_of Tryd.func88 (by kernel_rfl) rfl
theorem ck_89 : callOk Tryd.prog 89 := callOk_of Tryd.func89 (by kernel_rfl) rfl
theorem ck_90 : callOk Tryd.prog 90 := callOk_of Tryd.func90 (by kernel_rfl) rfl
theorem ck_91 : callOk Tryd.prog 91 := callOk_of Tryd.func91 (by kernel_rfl) rfl
theorem ck_92 : callOk Tryd.prog 92 := callOk_of Tryd.func92 (by kernel_rfl) rfl
theorem ck_93 : callOk Tryd.prog 93 := callOk_of Tryd.func93 (by kernel_rfl) rfl
theorem ck_94 : callOk Tryd.prog 94 := callOk_of Tryd.func94 (by kernel_rfl) rfl
theorem ck_95 : callOk Tryd.prog 95 := callOk_of Tryd.func95 (by kernel_rfl) rfl
theorem ck_96 : callOk Tryd.prog 96 := callOk_of Tryd.func96 (by kernel_rfl) rfl
theorem ck_97 : callOk Tryd.prog 97 := callOk_of Tryd.func97 (by kernel_rfl) rfl
theorem ck_98 : callOk Tryd.prog 98 := callOk_of Tryd.func98 (by kernel_rfl) rfl
theorem ck_99 : callOk Tryd.prog 99 := callOk_of Tryd.func99 (by kernel_rfl) rfl
theorem ck_100 : callOk Tryd.prog 100 := callOk_of Tryd.func100 (by kernel_rfl) rfl
theorem ck_101 : callOk Tryd.prog 101 := callOk_of Tryd.func101 (by kernel_rfl) rfl
theorem ck_102 : callOk Tryd.prog 102 := callOk_of Tryd.func102 (by kernel_rfl) rfl
theorem ck_103 : callOk Tryd.prog 103 := callOk_of Tryd.func103 (by kernel_rfl) rfl
theorem ck_104 : callOk Tryd.prog 104 := callOk_of Tryd.func104 (by kernel_rfl) rfl
theorem ck_105 : callOk Tryd.prog 105 := callOk_of Tryd.func105 (by kernel_rfl) rfl
theorem ck_106 : callOk Tryd.prog 106 := callOk_of Tryd.func106 (by kernel_rfl) rfl
theorem ck_107 : callOk Tryd.prog 107 := callOk_of Tryd.func107 (by kernel_rfl) rfl
theorem ck_108 : callOk Tryd.prog 108 := callOk_of Tryd.func108 (by kernel_rfl) rfl
theorem ck_109 : callOk Tryd.prog 109 := callOk_of Tryd.func109 (by kernel_rfl) rfl
theorem ck_110 : callOk Tryd.prog 110 := callOk_of Tryd.func110 (by kernel_rfl) rfl
theorem ck_111 : callOk Tryd.prog 111 := callOk_of Tryd.func111 (by kernel_rfl) rfl
theorem ck_112 : callOk Tryd.prog 112 := callOk_of Tryd.func112 (by kernel_rfl) rfl
theorem ck_113 : callOk Tryd.prog 113 := callOk_of Tryd.func113 (by kernel_rfl) rfl
theorem ck_114 : callOk Tryd.prog 114 := callOk_of Tryd.func114 (by kernel_rfl) rfl
theorem ck_115 : callOk Tryd.prog 115 := callOk_of Tryd.func115 (by kernel_rfl) rfl
theorem ck_116 : callOk Tryd.prog 116 := callOk_of Tryd.func116 (by kernel_rfl) rfl
theorem ck_117 : callOk Tryd.prog 117 := callOk_of Tryd.func117 (by kernel_rfl) rfl
theorem ck_118 : callOk Tryd.prog 118 := callOk_of Tryd.func118 (by kernel_rfl) rfl
theorem ck_119 : callOk Tryd.prog 119 := callOk_of Tryd.func119 (by kernel_rfl) rfl
theorem ck_120 : callOk Tryd.prog 120 := callOk_of Tryd.func120 (by kernel_rfl) rfl
theorem ck_121 : callOk Tryd.prog 121 := callOk_of Tryd.func121 (by kernel_rfl) rfl
theorem ck_122 : callOk Tryd.prog 122 := callOk_of Tryd.func122 (by kernel_rfl) rfl
theorem ck_123 : callOk Tryd.prog 123 := callOk_of Tryd.func123 (by kernel_rfl) rfl
theorem ck_124 : callOk Tryd.prog 124 := callOk_of Tryd.func124 (by kernel_rfl) rfl
theorem ck_125 : callOk Tryd.prog 125 := callOk_of Tryd.func125 (by kernel_rfl) rfl
theorem ck_126 : callOk Tryd.prog 126 := callOk_of Tryd.func126 (by kernel_rfl) rfl
theorem ck_127 : callOk Tryd.prog 127 := callOk_of Tryd.func127 (by kernel_rfl) rfl
theorem ck_128 : callOk Tryd.prog 128 := callOk_of Tryd.func128 (by kernel_rfl) rfl
theorem ck_129 : callOk Tryd.prog 129 := callOk_of Tryd.func129 (by kernel_rfl) rfl
theorem ck_130 : callOk Tryd.prog 130 := callOk_of Tryd.func130 (by kernel_rfl) rfl
theorem ck_131 : callOk Tryd.prog 131 := callOk_of Tryd.func131 (by kernel_rfl) rfl
theorem ck_132 : callOk Tryd.prog 132 := callOk_of Tryd.func132 (by kernel_rfl) rfl
theorem ck_133 : callOk Tryd.prog 133 := callOk_of Tryd.func133 (by kernel_rfl) rfl
theorem ck_134 : callOk Tryd.prog 134 := callOk_of Tryd.func134 (by kernel_rfl) rfl
theorem ck_135 : callOk Tryd.prog 135 := callOk_of Tryd.func135 (by kernel_rfl) rfl
theorem ck_136 : callOk Tryd.prog 136 := callOk_of Tryd.func136 (by kernel_rfl) rfl
theorem ck_137 : callOk Tryd.prog 137 := callOk_of Tryd.func137 (by kernel_rfl) rfl
theorem ck_138 : callOk Tryd.prog 138 := callOk_of Tryd.func138 (by kernel_rfl) rfl
theorem ck_139 : callOk Tryd.prog 139 := callOk_of Tryd.func139 (by kernel_rfl) rfl
theorem ck_140 : callOk Tryd.prog 140 := callOk_of Tryd.func140 (by kernel_rfl) rfl
theorem ck_141 : callOk Tryd.prog 141 := callOk_of Tryd.func141 (by kernel_rfl) rfl
theorem ck_142 : callOk Tryd.prog 142 := callOk_of Tryd.func142 (by kernel_rfl) rfl
theorem ck_143 : callOk Tryd.prog 143 := callOk_of Tryd.func143 (by kernel_rfl) rfl
theorem ck_144 : callOk Tryd.prog 144 := callOk_of Tryd.func144 (by kernel_rfl) rfl
theorem ck_145 : callOk Tryd.prog 145 := callOk_of Tryd.func145 (by kernel_rfl) rfl
theorem ck_146 : callOk Tryd.prog 146 := callOk_of Tryd.func146 (by kernel_rfl) rfl
theorem ck_167 : callOk Tryd.prog 167 := callOk_of Tryd.func167 (by kernel_rfl) rfl
end Go.Proofs.YtodaanhhnjkncaaDoor
/- A header's fields, as numbers; its cells. -/
namespace Go.Proofs.YtodaanhhnjkncaaDoor
open Go.RowKit

/-- The fields of a header, as numbers. -/
structure Hd where
  port : Int
  src : Nat → Int
  dst : Nat → Int
  ty : Int
  sip : Int
  dip : Int
  proto : Int
  sp : Int
  dp : Int
def Hd.zero : Hd := ⟨0, fun _ => 0, fun _ => 0, 0, 0, 0, 0, 0, 0⟩
def hdL (H : Hd) : List Value := [
  .int .i64 H.port, .int .u8 (H.src 0), .int .u8 (H.src 1), .int .u8 (H.src 2), .int .u8 (H.src 3), .int .u8 (H.src 4), .int .u8 (H.src 5),
  .int .u8 (H.dst 0), .int .u8 (H.dst 1), .int .u8 (H.dst 2), .int .u8 (H.dst 3), .int .u8 (H.dst 4), .int .u8 (H.dst 5),
  .int .i64 H.ty, .int .u32 H.sip, .int .u32 H.dip, .int .i64 H.proto, .int .i64 H.sp, .int .i64 H.dp]
/-- The cells of a header. -/
def hdCells (H : Hd) : Array Value := (hdL H).toArray
end Go.Proofs.YtodaanhhnjkncaaDoor
/- head: Width, Full, fits, Header.Check. The table of widths is a listed variable. -/
namespace Go.Proofs.YtodaanhhnjkncaaDoor
open Go.RowKit

def wdN (i : Nat) : Nat := [8, 48, 48, 16, 32, 32, 8, 16, 16].getD i 0
/-- What the listed variable holds. -/
def GW (w : World) : Prop := ∀ i, i < 9 → w.cell? ⟨0, i, none⟩ = some (.int .i64 (wdN i))
theorem GW.keep {p : Nat → Prop} {w0 w : World} {L : List Ent} (hp : ¬ p 0) (h : GW w0) (hS : St p w0 w L) : GW w := fun i hi => hS.old hp (h i hi)
theorem wdN_le (i : Nat) : wdN i ≤ 48 := by
  match i with
  | 0 | 1 | 2 | 3 | 4 | 5 | 6 | 7 | 8 => decide
  | _ + 9 => exact Nat.zero_le _
/-- The number of which the field's bits are 1. -/
def fullI (i : Nat) : Int := 2 ^ wdN i - 1
theorem Width_n (w : World) (i : Nat) (hi : i < 9) (hG : GW w) :
    Calls Tryd.prog 63 #[.int .i64 i] w fun e w' => e = .returned (.int .i64 (wdN i)) ∧ Frm (fun _ => False) w w' := by
  refine enter Tryd.func63 rfl Tryd.ntmps63 rfl (St.start (fun _ => False) w) ?_
  refine WC.seq ?_
  refine WC.region ?_
  refine WL.val (v_assign rfl rfl) (.none rfl) rfl rfl ?_
  refine WL.nil ?_
  refine WE.then_n ?_
  refine WC.seq ?_
  refine WC.seq ?_
  refine WC.region ?_
  refine WL.val (v_move rfl rfl) (.none rfl) rfl rfl ?_
  refine WL.val ((v_lss rfl rfl rfl).f (by omega)) (.none rfl) rfl rfl ?_
  refine WL.val (v_move rfl rfl) (.none rfl) rfl rfl ?_
  refine WL.val (v_move rfl rfl) (.some rfl rfl rfl) rfl rfl ?_
  refine WL.val ((v_geq rfl rfl rfl).f (by omega)) (.some rfl rfl rfl) rfl rfl ?_
  refine WL.val (v_pick_f rfl rfl rfl) (.none rfl) rfl rfl ?_
  refine WL.nil ?_
  refine WE.then_n ?_
  refine WC.cond_f rfl ?_
  refine WC.skip ?_
  refine WE.then_n ?_
  refine WC.seq ?_
  refine WC.region ?_
  refine WL.val (v_move rfl rfl) (.none rfl) rfl rfl ?_
  refine WL.val (v_indexAddrA (lo := i) rfl rfl rfl Tryd.underlying138 sz_3 (by omega) (by omega)) (.none rfl) rfl rfl ?_
  refine WL.val (v_load1 rfl rfl one_3 (cellOld (fun h => h) (by rw [Nat.zero_add, Nat.mul_one]; exact hG i hi))) (.none rfl) rfl rfl ?_
  refine WL.val (v_assign rfl rfl) (.none rfl) rfl rfl ?_
  refine WL.nil ?_
  refine WE.then_n ?_
  refine WC.ret ?_
  refine WE.ret1 (P := Tryd.prog) (.inl rfl) Tryd.results63 rfl ?_
  exact fun w' h => ⟨rfl, h.frm⟩
theorem Full_n (w : World) (i : Nat) (hi : i < 9) (hG : GW w) :
    Calls Tryd.prog 30 #[.int .i64 i] w fun e w' => e = .returned (.int .u64 (fullI i)) ∧ Frm (fun _ => False) w w' := by
  have hw := wdN_le i
  have hpow : (2 : Int) ^ wdN i = ((2 ^ wdN i : Nat) : Int) := by simp
  have h1 : 2 ^ wdN i ≤ 2 ^ 48 := Nat.pow_le_pow_right (by decide) hw
  have h2 : 0 < 2 ^ wdN i := Nat.two_pow_pos _
  have e1 : 1 ≤ (2 : Int) ^ wdN i ∧ (2 : Int) ^ wdN i ≤ 281474976710656 := by omega
  refine enter Tryd.func30 rfl Tryd.ntmps30 rfl (St.start (fun _ => False) w) ?_
  refine WC.seq ?_
  refine WC.region ?_
  refine WL.val (v_assign rfl rfl) (.none rfl) rfl rfl ?_
  refine WL.nil ?_
  refine WE.then_n ?_
  refine WC.seq ?_
  refine WC.region ?_
  refine WL.val (v_move rfl rfl) (.none rfl) rfl rfl ?_
  refine WL.call rfl rfl ck_63 (.none rfl) rfl rfl ?_
  intro w hS
  refine Calls.then (Width_n w i hi (hG.keep (fun h => h) hS)) hS ?_
  refine WL.val (v_shl (m := wdN i) (c := (2 : Int) ^ wdN i) rfl rfl rfl rfl (by show wdN i ≤ 64; omega) rfl (w_u64 (by omega) (by omega))) (.none rfl) rfl rfl ?_
  refine WL.val (v_sub rfl rfl rfl (w_u64 (by omega) (by omega))) (.none rfl) rfl rfl ?_
  refine WL.val (v_assign rfl rfl) (.none rfl) rfl rfl ?_
  refine WL.nil ?_
  refine WE.then_n ?_
  refine WC.ret ?_
  refine WE.ret1 (P := Tryd.prog) (.inl rfl) Tryd.results30 rfl ?_
  exact fun w' h => ⟨by rw [Int.one_mul]; rfl, h.frm⟩
def fitsB (i : Nat) (n : Int) : Bool := decide (0 ≤ n ∧ n ≤ fullI i)
theorem fits_n (w : World) (i : Nat) (hi : i < 9) (n : Int) (h0 : -9223372036854775808 ≤ n) (h1 : n ≤ 9223372036854775807) (hG : GW w) :
    Calls Tryd.prog 60 #[.int .i64 i, .int .i64 n] w fun e w' => e = .returned (.bool (fitsB i n)) ∧ Frm (fun _ => False) w w' := by
  refine enter Tryd.func60 rfl Tryd.ntmps60 rfl (St.start (fun _ => False) w) ?_
  refine WC.seq ?_
  refine WC.region ?_
  refine WL.val (v_assign rfl rfl) (.none rfl) rfl rfl ?_
  refine WL.nil ?_
  refine WE.then_n ?_
  refine WC.seq ?_
  refine WC.region ?_
  refine WL.val (v_move rfl rfl) (.none rfl) rfl rfl ?_
  refine WL.test (v_geq rfl rfl rfl) (.none rfl) rfl rfl (fun h6 => ?_) (fun h6 => ?_)
  · -- 6T
    refine WL.val (v_move rfl rfl) (.none rfl) rfl rfl ?_
    refine WL.val (v_move rfl rfl) (.some rfl rfl rfl) rfl rfl ?_
    refine WL.val (v_conv rfl rfl Tryd.underlying22 Tryd.underlying3 (w_u64 (by omega) (by omega))) (.some rfl rfl rfl) rfl rfl ?_
    refine WL.val (v_move rfl rfl) (.some rfl rfl rfl) rfl rfl ?_
    refine WL.call rfl rfl ck_30 (.some rfl rfl rfl) rfl rfl ?_
    intro w hS
    refine Calls.then (Full_n w i hi (hG.keep (fun h => h) hS)) hS ?_
    refine WL.test (v_leq rfl rfl rfl) (.some rfl rfl rfl) rfl rfl (fun h12 => ?_) (fun h12 => ?_)
    · -- 12T
      refine WL.val (v_pick_t rfl rfl rfl) (.none rfl) rfl rfl ?_
      refine WL.val (v_assign rfl rfl) (.none rfl) rfl rfl ?_
      refine WL.nil ?_
      refine WE.then_n ?_
      refine WC.ret ?_
      refine WE.ret1 (P := Tryd.prog) (.inl rfl) Tryd.results60 rfl ?_
      exact fun w' h => ⟨by unfold fitsB; rw [decide_eq_true (by omega)], h.frm⟩
    · -- 12F
      refine WL.val (v_pick_t rfl rfl rfl) (.none rfl) rfl rfl ?_
      refine WL.val (v_assign rfl rfl) (.none rfl) rfl rfl ?_
      refine WL.nil ?_
      refine WE.then_n ?_
      refine WC.ret ?_
      refine WE.ret1 (P := Tryd.prog) (.inl rfl) Tryd.results60 rfl ?_
      exact fun w' h => ⟨by unfold fitsB; rw [decide_eq_false (by omega)], h.frm⟩
  · -- 6F
    refine WL.val (v_move rfl rfl) (.none rfl) rfl rfl ?_
    refine WL.skip rfl rfl rfl rfl rfl rfl ?_
    refine WL.skip rfl rfl rfl rfl rfl rfl ?_
    refine WL.skip rfl rfl rfl rfl rfl rfl ?_
    refine WL.skip rfl rfl rfl rfl rfl rfl ?_
    refine WL.skip rfl rfl rfl rfl rfl rfl ?_
    refine WL.val (v_pick_f rfl rfl rfl) (.none rfl) rfl rfl ?_
    refine WL.val (v_assign rfl rfl) (.none rfl) rfl rfl ?_
    refine WL.nil ?_
    refine WE.then_n ?_
    refine WC.ret ?_
    refine WE.ret1 (P := Tryd.prog) (.inl rfl) Tryd.results60 rfl ?_
    exact fun w' h => ⟨by unfold fitsB; rw [decide_eq_false (by omega)], h.frm⟩
/-- Do the numbers of a header fit? -/
def Hd.okB (H : Hd) : Bool := fitsB 0 H.port && fitsB 3 H.ty && fitsB 6 H.proto && fitsB 7 H.sp && fitsB 8 H.dp
structure Hd.In (H : Hd) : Prop where
  port : -9223372036854775808 ≤ H.port ∧ H.port ≤ 9223372036854775807
  ty : -9223372036854775808 ≤ H.ty ∧ H.ty ≤ 9223372036854775807
  proto : -9223372036854775808 ≤ H.proto ∧ H.proto ≤ 9223372036854775807
  sp : -9223372036854775808 ≤ H.sp ∧ H.sp ≤ 9223372036854775807
  dp : -9223372036854775808 ≤ H.dp ∧ H.dp ≤ 9223372036854775807
  sip : 0 ≤ H.sip ∧ H.sip ≤ 4294967295
  dip : 0 ≤ H.dip ∧ H.dip ≤ 4294967295
  src : Byt H.src
  dst : Byt H.dst
set_option maxHeartbeats 400000 in
theorem HCheck_c (w : World) (H : Hd) (hH : H.In) (hG : GW w) :
    Calls Tryd.prog 24 #[.agg (hdCells H)] w fun e w' => e = .returned (.int .i64 (if H.okB = true then 0 else 1)) ∧ Frm (fun _ => False) w w' := by
  unfold Hd.okB
  refine enter Tryd.func24 rfl Tryd.ntmps24 rfl (St.start (fun _ => False) w) ?_
  refine WC.seq ?_
  refine WC.region ?_
  refine WL.box rfl rfl rfl (.none rfl) rfl rfl ?_
  intro g1 hg1
  refine WL.val (v_assign rfl rfl) (.none rfl) rfl rfl ?_
  refine WL.nil ?_
  refine WE.then_n ?_
  refine WC.seq ?_
  refine WC.seq ?_
  refine WC.region ?_
  refine WL.val (v_fieldAddr0 rfl rfl fld_31_0) (.none rfl) rfl rfl ?_
  refine WL.val (v_load1 rfl rfl one_3 (cellAt rfl)) (.none rfl) rfl rfl ?_
  refine WL.call rfl rfl ck_60 (.none rfl) rfl rfl ?_
  intro w hS
  refine Calls.then (fits_n w 0 (by decide) H.port hH.port.1 hH.port.2 (hG.keep (fun h => h) hS)) hS ?_
  refine WL.val (v_move rfl rfl) (.none rfl) rfl rfl ?_
  cases hb0 : fitsB 0 H.port
  · -- 6F
    refine WL.skip rfl rfl rfl rfl rfl rfl ?_
    refine WL.skip rfl rfl rfl rfl rfl rfl ?_
    refine WL.skip rfl rfl rfl rfl rfl rfl ?_
    refine WL.val (v_pick_f rfl rfl rfl) (.none rfl) rfl rfl ?_
    refine WL.val (v_move rfl rfl) (.none rfl) rfl rfl ?_
    refine WL.skip rfl rfl rfl rfl rfl rfl ?_
    refine WL.skip rfl rfl rfl rfl rfl rfl ?_
    refine WL.skip rfl rfl rfl rfl rfl rfl ?_
    refine WL.val (v_pick_f rfl rfl rfl) (.none rfl) rfl rfl ?_
    refine WL.val (v_move rfl rfl) (.none rfl) rfl rfl ?_
    refine WL.skip rfl rfl rfl rfl rfl rfl ?_
    refine WL.skip rfl rfl rfl rfl rfl rfl ?_
    refine WL.skip rfl rfl rfl rfl rfl rfl ?_
    refine WL.val (v_pick_f rfl rfl rfl) (.none rfl) rfl rfl ?_
    refine WL.val (v_move rfl rfl) (.none rfl) rfl rfl ?_
    refine WL.skip rfl rfl rfl rfl rfl rfl ?_
    refine WL.skip rfl rfl rfl rfl rfl rfl ?_
    refine WL.skip rfl rfl rfl rfl rfl rfl ?_
    refine WL.val (v_pick_f rfl rfl rfl) (.none rfl) rfl rfl ?_
    refine WL.nil ?_
    refine WE.then_n ?_
    refine WC.cond_f rfl ?_
    refine WC.skip ?_
    refine WE.then_n ?_
    refine WC.seq ?_
    refine WC.region ?_
    refine WL.val (v_assign rfl rfl) (.none rfl) rfl rfl ?_
    refine WL.nil ?_
    refine WE.then_n ?_
    refine WC.ret ?_
    refine WE.ret1 (P := Tryd.prog) (.inl rfl) Tryd.results24 rfl ?_
    exact fun w' h => ⟨by simp_all, h.frm⟩
  · -- 6T
    refine WL.val (v_fieldAddr0 rfl rfl fld_31_3) (.some rfl rfl rfl) rfl rfl ?_
    refine WL.val (v_load1 rfl rfl one_3 (cellAt rfl)) (.some rfl rfl rfl) rfl rfl ?_
    refine WL.call rfl rfl ck_60 (.some rfl rfl rfl) rfl rfl ?_
    intro w hS
    refine Calls.then (fits_n w 3 (by decide) H.ty hH.ty.1 hH.ty.2 (hG.keep (fun h => h) hS)) hS ?_
    refine WL.val (v_pick_t rfl rfl rfl) (.none rfl) rfl rfl ?_
    cases hb3 : fitsB 3 H.ty
    · -- 10F
      refine WL.val (v_move rfl rfl) (.none rfl) rfl rfl ?_
      refine WL.skip rfl rfl rfl rfl rfl rfl ?_
      refine WL.skip rfl rfl rfl rfl rfl rfl ?_
      refine WL.skip rfl rfl rfl rfl rfl rfl ?_
      refine WL.val (v_pick_f rfl rfl rfl) (.none rfl) rfl rfl ?_
      refine WL.val (v_move rfl rfl) (.none rfl) rfl rfl ?_
      refine WL.skip rfl rfl rfl rfl rfl rfl ?_
      refine WL.skip rfl rfl rfl rfl rfl rfl ?_
      refine WL.skip rfl rfl rfl rfl rfl rfl ?_
      refine WL.val (v_pick_f rfl rfl rfl) (.none rfl) rfl rfl ?_
      refine WL.val (v_move rfl rfl) (.none rfl) rfl rfl ?_
      refine WL.skip rfl rfl rfl rfl rfl rfl ?_
      refine WL.skip rfl rfl rfl rfl rfl rfl ?_
      refine WL.skip rfl rfl rfl rfl rfl rfl ?_
      refine WL.val (v_pick_f rfl rfl rfl) (.none rfl) rfl rfl ?_
      refine WL.nil ?_
      refine WE.then_n ?_
      refine WC.cond_f rfl ?_
      refine WC.skip ?_
      refine WE.then_n ?_
      refine WC.seq ?_
      refine WC.region ?_
      refine WL.val (v_assign rfl rfl) (.none rfl) rfl rfl ?_
      refine WL.nil ?_
      refine WE.then_n ?_
      refine WC.ret ?_
      refine WE.ret1 (P := Tryd.prog) (.inl rfl) Tryd.results24 rfl ?_
      exact fun w' h => ⟨by simp_all, h.frm⟩
    · -- 10T
      refine WL.val (v_move rfl rfl) (.none rfl) rfl rfl ?_
      refine WL.val (v_fieldAddr0 rfl rfl fld_31_6) (.some rfl rfl rfl) rfl rfl ?_
      refine WL.val (v_load1 rfl rfl one_3 (cellAt rfl)) (.some rfl rfl rfl) rfl rfl ?_
      refine WL.call rfl rfl ck_60 (.some rfl rfl rfl) rfl rfl ?_
      intro w hS
      refine Calls.then (fits_n w 6 (by decide) H.proto hH.proto.1 hH.proto.2 (hG.keep (fun h => h) hS)) hS ?_
      refine WL.val (v_pick_t rfl rfl rfl) (.none rfl) rfl rfl ?_
      cases hb6 : fitsB 6 H.proto
      · -- 15F
        refine WL.val (v_move rfl rfl) (.none rfl) rfl rfl ?_
        refine WL.skip rfl rfl rfl rfl rfl rfl ?_
        refine WL.skip rfl rfl rfl rfl rfl rfl ?_
        refine WL.skip rfl rfl rfl rfl rfl rfl ?_
        refine WL.val (v_pick_f rfl rfl rfl) (.none rfl) rfl rfl ?_
        refine WL.val (v_move rfl rfl) (.none rfl) rfl rfl ?_
        refine WL.skip rfl rfl rfl rfl rfl rfl ?_
        refine WL.skip rfl rfl rfl rfl rfl rfl ?_
        refine WL.skip rfl rfl rfl rfl rfl rfl ?_
        refine WL.val (v_pick_f rfl rfl rfl) (.none rfl) rfl rfl ?_
        refine WL.nil ?_
        refine WE.then_n ?_
        refine WC.cond_f rfl ?_
        refine WC.skip ?_
        refine WE.then_n ?_
        refine WC.seq ?_
        refine WC.region ?_
        refine WL.val (v_assign rfl rfl) (.none rfl) rfl rfl ?_
        refine WL.nil ?_
        refine WE.then_n ?_
        refine WC.ret ?_
        refine WE.ret1 (P := Tryd.prog) (.inl rfl) Tryd.results24 rfl ?_
        exact fun w' h => ⟨by simp_all, h.frm⟩
      · -- 15T
        refine WL.val (v_move rfl rfl) (.none rfl) rfl rfl ?_
        refine WL.val (v_fieldAddr0 rfl rfl fld_31_7) (.some rfl rfl rfl) rfl rfl ?_
        refine WL.val (v_load1 rfl rfl one_3 (cellAt rfl)) (.some rfl rfl rfl) rfl rfl ?_
        refine WL.call rfl rfl ck_60 (.some rfl rfl rfl) rfl rfl ?_
        intro w hS
        refine Calls.then (fits_n w 7 (by decide) H.sp hH.sp.1 hH.sp.2 (hG.keep (fun h => h) hS)) hS ?_
        refine WL.val (v_pick_t rfl rfl rfl) (.none rfl) rfl rfl ?_
        cases hb7 : fitsB 7 H.sp
        · -- 20F
          refine WL.val (v_move rfl rfl) (.none rfl) rfl rfl ?_
          refine WL.skip rfl rfl rfl rfl rfl rfl ?_
          refine WL.skip rfl rfl rfl rfl rfl rfl ?_
          refine WL.skip rfl rfl rfl rfl rfl rfl ?_
          refine WL.val (v_pick_f rfl rfl rfl) (.none rfl) rfl rfl ?_
          refine WL.nil ?_
          refine WE.then_n ?_
          refine WC.cond_f rfl ?_
          refine WC.skip ?_
          refine WE.then_n ?_
          refine WC.seq ?_
          refine WC.region ?_
          refine WL.val (v_assign rfl rfl) (.none rfl) rfl rfl ?_
          refine WL.nil ?_
          refine WE.then_n ?_
          refine WC.ret ?_
          refine WE.ret1 (P := Tryd.prog) (.inl rfl) Tryd.results24 rfl ?_
          exact fun w' h => ⟨by simp_all, h.frm⟩
        · -- 20T
          refine WL.val (v_move rfl rfl) (.none rfl) rfl rfl ?_
          refine WL.val (v_fieldAddr0 rfl rfl fld_31_8) (.some rfl rfl rfl) rfl rfl ?_
          refine WL.val (v_load1 rfl rfl one_3 (cellAt rfl)) (.some rfl rfl rfl) rfl rfl ?_
          refine WL.call rfl rfl ck_60 (.some rfl rfl rfl) rfl rfl ?_
          intro w hS
          refine Calls.then (fits_n w 8 (by decide) H.dp hH.dp.1 hH.dp.2 (hG.keep (fun h => h) hS)) hS ?_
          refine WL.val (v_pick_t rfl rfl rfl) (.none rfl) rfl rfl ?_
          cases hb8 : fitsB 8 H.dp
          · -- 25F
            refine WL.nil ?_
            refine WE.then_n ?_
            refine WC.cond_f rfl ?_
            refine WC.skip ?_
            refine WE.then_n ?_
            refine WC.seq ?_
            refine WC.region ?_
            refine WL.val (v_assign rfl rfl) (.none rfl) rfl rfl ?_
            refine WL.nil ?_
            refine WE.then_n ?_
            refine WC.ret ?_
            refine WE.ret1 (P := Tryd.prog) (.inl rfl) Tryd.results24 rfl ?_
            exact fun w' h => ⟨by simp_all, h.frm⟩
          · -- 25T
            refine WL.nil ?_
            refine WE.then_n ?_
            refine WC.cond_t rfl ?_
            refine WC.seq ?_
            refine WC.region ?_
            refine WL.val (v_assign rfl rfl) (.none rfl) rfl rfl ?_
            refine WL.nil ?_
            refine WE.then_n ?_
            refine WC.ret ?_
            refine WE.then_ret ?_
            refine WE.ret1 (P := Tryd.prog) (.inl rfl) Tryd.results24 rfl ?_
            exact fun w' h => ⟨by simp_all, h.frm⟩
end Go.Proofs.YtodaanhhnjkncaaDoor
/- Calls of methods through an interface, type assertions, max, min, quotients of whatever sign. -/
namespace Go.Proofs.YtodaanhhnjkncaaDoor
open Go.RowKit

section
variable {P : Program} {C : World → Prop} {ops : Array Oper} {Q : Exit → Act → World → Prop} {n : Nat} {p : Nat → Prop} {w0 : World} {o : Oper} {rest : List Oper} {l : Kn} {L : List Ent}

/-- Of a value of this dynamic type the method is that function, and that its receiver. -/
def Meth (P : Program) (C : World → Prop) (t : TypeId) (v : Value) (name : String) (f : FuncId) (rv : Value) : Prop := ∀ w, C w → (method (P.types.size + Made.depth) t v name).run P w = .ok (f, rv) w
theorem run_invokeM {a : Act} {f : FuncId} {r : Operand} {name : String} {t : TypeId} {v rv : Value} {xs : List Operand} {ts : Array TypeId} {vs : List Value} {w : World} (ho : o.op = .call { callee := .invoke r name, args := xs.toArray, argTypes := ts })
    (hr : ev l r = some (.iface t v)) (hx : evs l xs = some vs) (hm : (method (P.types.size + Made.depth) t v name).run P w = .ok (f, rv) w) (hf : callOk P f) (ha : Has n a l) :
    (execOp a.eval o).run P w = .ok (.enter f (rv :: vs).toArray) w := by
  have h1 := ha.ev hr
  have h2 := ha.evs hx
  have hf' := hf (rv :: vs).toArray w
  have e1 : (#[Value.iface t v] ++ xs.toArray.map a.eval)[0]? = some (Value.iface t v) := by simp
  have e2 : (#[Value.iface t v] ++ xs.toArray.map a.eval).extract 1 (#[Value.iface t v] ++ xs.toArray.map a.eval).size = vs.toArray := by
    apply Array.ext'
    simp [← h2]
    exact List.take_of_length_le (by simp)
  have e3 : #[rv] ++ vs.toArray = (rv :: vs).toArray := by simp
  unfold execOp
  simp only [ho, resolve, h1, Sem.run_bind, Sem.run_pure, Result.andThen_ok]
  unfold invoke
  simp only [e1, e2]
  unfold callMethod
  simp only [Sem.run_bind, program, Sem.run, Result.andThen_ok, hm, e3, hf']
theorem WL.invoke {f : FuncId} {r : Operand} {name : String} {t : TypeId} {v rv : Value} {xs : List Operand} {ts : Array TypeId} {vs : List Value} {d : Nat} (ho : o.op = .call { callee := .invoke r name, args := xs.toArray, argTypes := ts })
    (hr : ev l r = some (.iface t v)) (hx : evs l xs = some vs) (hm : Meth P (fun w => St p w0 w L) t v name f rv) (hf : callOk P f) (hg : On ops o l) (hd : o.dst = some d) (hn : Nat.blt d n = true)
    (h : ∀ w, St p w0 w L → Calls P f (rv :: vs).toArray w fun e w' => ∃ v L', e = .returned v ∧ St p w0 w' L' ∧ WL P ops Q n p w0 rest ((d, v) :: l) L') : WL P ops Q n p w0 (o :: rest) l L := by
  intro a w ha hS
  refine wpList_on (hg.ok ha) ?_
  unfold Oper.wp
  rw [run_invokeM ho hr hx (hm w hS) hf ha]
  refine (h w hS).mono ?_
  rintro e w' ⟨v, L', rfl, hS', hK⟩
  exact hK _ _ (ha.put_any hd hn v) hS'
theorem WQ.invoke {K : Act → World → Prop} {f : FuncId} {r : Operand} {name : String} {t : TypeId} {v rv : Value} {xs : List Operand} {ts : Array TypeId} {vs : List Value} {d : Nat} (u : Value) (ho : o.op = .call { callee := .invoke r name, args := xs.toArray, argTypes := ts })
    (hr : ev l r = some (.iface t v)) (hx : evs l xs = some vs) (hm : Meth P (fun w => St p w0 w L) t v name f rv) (hf : callOk P f) (hg : On ops o l) (hd : o.dst = some d) (hn : Nat.blt d n = true)
    (hc : ∀ w, St p w0 w L → Calls P f (rv :: vs).toArray w fun e w' => e = .returned u ∧ St p w0 w' L) (h : WQ P ops K n p w0 rest ((d, u) :: l) L) : WQ P ops K n p w0 (o :: rest) l L := by
  intro a ha
  unfold wpQuiet
  rw [if_pos (hg.ok ha)]
  refine ⟨u, fun w hS => ?_, h _ (ha.put_any hd hn u)⟩
  unfold Oper.quietAt
  rw [run_invokeM ho hr hx (hm w hS) hf ha]
  exact ⟨rfl, hc w hS⟩
def isIf : TypeDesc → Bool | .interface _ => true | _ => false
theorem v_typeAssert {x : Operand} {xt t : TypeId} {v : Value} {ds : TypeDesc} (ho : o.op = .typeAssert x xt t false) (hx : ev l x = some (.iface t v)) (hu : P.underlying t = some ds) (hd : isIf ds = false) : Val P C n l o v := fun a w ha _ => by
  have h1 := ha.ev hx
  unfold execOp
  simp only [ho, h1, Instr.typeAssert, Sem.run_bind, run_underlying hu, Result.andThen_ok]
  cases ds <;> first | (simp [isIf] at hd; done) | simp
theorem v_max {t t' : TypeId} {x y : Operand} {k : IntKind} {A B : Int} (ho : o.op = .call { callee := .builtin .max, args := #[x, y], argTypes := #[t, t'] }) (hx : ev l x = some (.int k A)) (hy : ev l y = some (.int k B)) : Val P C n l o (.int k (max A B)) := fun a w ha _ => by
  have hx' : evs l [x, y] = some [.int k A, .int k B] := by simp [evs, hx, hy]
  obtain ⟨cs, h⟩ := run_builtin (P := P) (w := w) (xs := [x, y]) ho hx' ha
  rw [h]
  have e : (if B > A then B else A) = max A B := by omega
  simp [builtin, Builtin.max_, Builtin.max2, e]
theorem v_min {t t' : TypeId} {x y : Operand} {k : IntKind} {A B : Int} (ho : o.op = .call { callee := .builtin .min, args := #[x, y], argTypes := #[t, t'] }) (hx : ev l x = some (.int k A)) (hy : ev l y = some (.int k B)) : Val P C n l o (.int k (min A B)) := fun a w ha _ => by
  have hx' : evs l [x, y] = some [.int k A, .int k B] := by simp [evs, hx, hy]
  obtain ⟨cs, h⟩ := run_builtin (P := P) (w := w) (xs := [x, y]) ho hx' ha
  rw [h]
  have e : (if B < A then B else A) = min A B := by omega
  simp [builtin, Builtin.min_, Builtin.min2, e]
theorem v_quoT {t yt : TypeId} {x y : Operand} {k : IntKind} {A B r : Int} (ho : o.op = .binOp .quo t x y yt) (hx : ev l x = some (.int k A)) (hy : ev l y = some (.int k B)) (hB : B ≠ 0) (hr : k.wrap (A.tdiv B) = r) : Val P C n l o (.int k r) := fun a w ha _ => by
  rw [run_int2 ho (ha.ev hx) (ha.ev hy), ← hr]; simp [binOp, Op.intDiv, hB, Result.andThen]
theorem v_remT {t yt : TypeId} {x y : Operand} {k : IntKind} {A B : Int} (ho : o.op = .binOp .rem t x y yt) (hx : ev l x = some (.int k A)) (hy : ev l y = some (.int k B)) (hB : B ≠ 0) : Val P C n l o (.int k (A.tmod B)) := fun a w ha _ => by
  rw [run_int2 ho (ha.ev hx) (ha.ev hy)]; simp [binOp, Op.intDiv, hB, Result.andThen]
theorem chk_run (ts : Array TypeId) (t : TypeId) (a : Addr) (x y : String) (w : World) : (Builtin.ssaWrapNilChk_ ts t #[.pointer (some a), strVal x, strVal y]).run P w = .ok (.pointer (some a)) w := rfl
def methOf (P : Program) (t : TypeId) (name : String) : Option (Array FieldStep × Option (FuncId × Bool)) := (P.info? t).bind fun i => (i.methods.find? (·.name == name)).map fun m => (m.path, m.func)
/-- A method of the elements' type, called of a pointer to one. -/
theorem meth_val {t e : TypeId} {a : Addr} {name : String} {f : FuncId} {v : Value} {w : World} (hm : methOf P t name = some (#[], some (f, false))) (hu : P.underlying t = some (.pointer e))
    (hv : (loadVar e a).run P w = .ok v w) : (method (P.types.size + Made.depth) t (.pointer (some a)) name).run P w = .ok (f, v) w := by
  unfold methOf at hm
  cases hq : P.info? t with
  | none => simp [hq] at hm
  | some i =>
    simp only [hq, Option.bind_some, Option.map_eq_some_iff, Prod.mk.injEq] at hm
    obtain ⟨m, hm, hp, hf⟩ := hm
    have e1 : P.types.size + Made.depth = (P.types.size + 99) + 1 := rfl
    rw [e1]
    unfold method
    simp [typeInfo, hq, hm, hp, follow, hf, receiverAt, run_underlying hu, Place.get, chk_run, asAddr, hv]
theorem meth_ptr {t e : TypeId} {u : Value} {name : String} {f : FuncId} {w : World} (hm : methOf P t name = some (#[], some (f, true))) (hu : P.underlying t = some (.pointer e)) :
    (method (P.types.size + Made.depth) t u name).run P w = .ok (f, u) w := by
  unfold methOf at hm
  cases hq : P.info? t with
  | none => simp [hq] at hm
  | some i =>
    simp only [hq, Option.bind_some, Option.map_eq_some_iff, Prod.mk.injEq] at hm
    obtain ⟨m, hm, hp, hf⟩ := hm
    have e1 : P.types.size + Made.depth = (P.types.size + 99) + 1 := rfl
    rw [e1]
    unfold method
    simp [typeInfo, hq, hm, hp, follow, hf, receiverAt, run_underlying hu, Place.get]
/-- A method of the value's own type (no pointer). -/
theorem meth_own {t : TypeId} {ds : TypeDesc} {u : Value} {name : String} {f : FuncId} {w : World} (hm : methOf P t name = some (#[], some (f, false))) (hu : P.underlying t = some ds) (hd : (match ds with | .pointer _ => true | _ => false) = false) :
    (method (P.types.size + Made.depth) t u name).run P w = .ok (f, u) w := by
  unfold methOf at hm
  cases hq : P.info? t with
  | none => simp [hq] at hm
  | some i =>
    simp only [hq, Option.bind_some, Option.map_eq_some_iff, Prod.mk.injEq] at hm
    obtain ⟨m, hm, hp, hf⟩ := hm
    have e1 : P.types.size + Made.depth = (P.types.size + 99) + 1 := rfl
    rw [e1]
    unfold method
    cases ds <;> first | (simp at hd; done) | simp [typeInfo, hq, hm, hp, follow, hf, receiverAt, run_underlying hu, Place.get]
theorem load1_cell {t g k : Nat} {v : Value} {w : World} (h : One P t) (hv : w.cell? ⟨g, k, none⟩ = some v) : (loadVar t ⟨g, k, none⟩).run P w = .ok v w := by
  simp [loadVar, h.agg, load, Sem.run, hv]
end
end Go.Proofs.YtodaanhhnjkncaaDoor
/- Bits of numbers: and, or, xor, and not, as operations on natural numbers. -/
namespace Go.Proofs.YtodaanhhnjkncaaDoor
open Go.RowKit

def andN (x y : Int) : Int := ((x.toNat &&& y.toNat : Nat) : Int)
def orN (x y : Int) : Int := ((x.toNat ||| y.toNat : Nat) : Int)
def xorN (x y : Int) : Int := ((x.toNat ^^^ y.toNat : Nat) : Int)
def andNotN (x y : Int) : Int := ((x.toNat ^^^ (x.toNat &&& y.toNat) : Nat) : Int)
theorem bits_and_u64 {x y : Int} (hx : 0 ≤ x) (hx' : x ≤ 18446744073709551615) (hy : 0 ≤ y) (hy' : y ≤ 18446744073709551615) : bits .and .u64 x y = andN x y := by
  obtain ⟨a, rfl⟩ := Int.eq_ofNat_of_zero_le hx
  obtain ⟨b, rfl⟩ := Int.eq_ofNat_of_zero_le hy
  show IntKind.u64.wrap ((BitVec.ofInt 64 (a : Int) &&& BitVec.ofInt 64 (b : Int)).toNat : Int) = _
  rw [BitVec.ofInt_natCast, BitVec.ofInt_natCast, BitVec.toNat_and, BitVec.toNat_ofNat, BitVec.toNat_ofNat, Nat.mod_eq_of_lt (by omega), Nat.mod_eq_of_lt (by omega)]
  have : a &&& b ≤ a := Nat.and_le_left
  exact w_u64 (by omega) (by omega)
theorem bits_or_u64 {x y : Int} (hx : 0 ≤ x) (hx' : x ≤ 18446744073709551615) (hy : 0 ≤ y) (hy' : y ≤ 18446744073709551615) : bits .or .u64 x y = orN x y := by
  obtain ⟨a, rfl⟩ := Int.eq_ofNat_of_zero_le hx
  obtain ⟨b, rfl⟩ := Int.eq_ofNat_of_zero_le hy
  show IntKind.u64.wrap ((BitVec.ofInt 64 (a : Int) ||| BitVec.ofInt 64 (b : Int)).toNat : Int) = _
  rw [BitVec.ofInt_natCast, BitVec.ofInt_natCast, BitVec.toNat_or, BitVec.toNat_ofNat, BitVec.toNat_ofNat, Nat.mod_eq_of_lt (by omega), Nat.mod_eq_of_lt (by omega)]
  have : a ||| b < 2 ^ 64 := Nat.or_lt_two_pow (by omega) (by omega)
  exact w_u64 (by omega) (by omega)
theorem bits_xor_u64 {x y : Int} (hx : 0 ≤ x) (hx' : x ≤ 18446744073709551615) (hy : 0 ≤ y) (hy' : y ≤ 18446744073709551615) : bits .xor .u64 x y = xorN x y := by
  obtain ⟨a, rfl⟩ := Int.eq_ofNat_of_zero_le hx
  obtain ⟨b, rfl⟩ := Int.eq_ofNat_of_zero_le hy
  show IntKind.u64.wrap ((BitVec.ofInt 64 (a : Int) ^^^ BitVec.ofInt 64 (b : Int)).toNat : Int) = _
  rw [BitVec.ofInt_natCast, BitVec.ofInt_natCast, BitVec.toNat_xor, BitVec.toNat_ofNat, BitVec.toNat_ofNat, Nat.mod_eq_of_lt (by omega), Nat.mod_eq_of_lt (by omega)]
  have : a ^^^ b < 2 ^ 64 := Nat.xor_lt_two_pow (by omega) (by omega)
  exact w_u64 (by omega) (by omega)
theorem nat_andNot {n a b : Nat} (ha : a < 2 ^ n) (hb : b < 2 ^ n) : (BitVec.ofNat n a &&& ~~~ BitVec.ofNat n b).toNat = a ^^^ (a &&& b) := by
  have e : BitVec.ofNat n a &&& ~~~ BitVec.ofNat n b = BitVec.ofNat n a ^^^ (BitVec.ofNat n a &&& BitVec.ofNat n b) := by
    apply BitVec.eq_of_getLsbD_eq
    intro i hi
    simp only [BitVec.getLsbD_and, BitVec.getLsbD_not, BitVec.getLsbD_xor, hi, decide_true, Bool.true_and]
    cases (BitVec.ofNat n a).getLsbD i <;> cases (BitVec.ofNat n b).getLsbD i <;> rfl
  have e2 : (BitVec.ofNat n a &&& BitVec.ofNat n b).toNat = a &&& b := by
    rw [BitVec.toNat_and, BitVec.toNat_ofNat, BitVec.toNat_ofNat, Nat.mod_eq_of_lt ha, Nat.mod_eq_of_lt hb]
  rw [e, BitVec.toNat_xor, e2, BitVec.toNat_ofNat, Nat.mod_eq_of_lt ha]
theorem xor_zero_iff {a b : Nat} : a ^^^ b = 0 ↔ a = b := by
  constructor
  · intro h
    apply Nat.eq_of_testBit_eq
    intro i
    have := congrArg (fun x => x.testBit i) h
    simp only [Nat.testBit_xor, Nat.zero_testBit] at this
    cases ha : a.testBit i <;> cases hb : b.testBit i <;> simp_all
  · rintro rfl; exact Nat.xor_self a
theorem andNotN_zero {x y : Int} (hx : 0 ≤ x) : andNotN x y = 0 ↔ andN x y = x := by
  unfold andNotN andN
  constructor
  · intro h
    have := xor_zero_iff.1 (show x.toNat ^^^ (x.toNat &&& y.toNat) = 0 by omega)
    omega
  · intro h
    have : x.toNat = x.toNat &&& y.toNat := by omega
    have := xor_zero_iff.2 this
    omega
theorem bits_andNot_u64 {x y : Int} (hx : 0 ≤ x) (hx' : x ≤ 18446744073709551615) (hy : 0 ≤ y) (hy' : y ≤ 18446744073709551615) : bits .andNot .u64 x y = andNotN x y := by
  obtain ⟨a, rfl⟩ := Int.eq_ofNat_of_zero_le hx
  obtain ⟨b, rfl⟩ := Int.eq_ofNat_of_zero_le hy
  show IntKind.u64.wrap ((BitVec.ofInt 64 (a : Int) &&& ~~~ BitVec.ofInt 64 (b : Int)).toNat : Int) = _
  rw [BitVec.ofInt_natCast, BitVec.ofInt_natCast, nat_andNot (by omega) (by omega)]
  have h1 : a &&& b ≤ a := Nat.and_le_left
  have : a ^^^ (a &&& b) < 2 ^ 64 := Nat.xor_lt_two_pow (by omega) (by omega)
  exact w_u64 (by omega) (by omega)
theorem bits_or_i64 {x y : Int} (hx : 0 ≤ x) (hx' : x ≤ 9223372036854775807) (hy : 0 ≤ y) (hy' : y ≤ 9223372036854775807) : bits .or .i64 x y = orN x y := by
  obtain ⟨a, rfl⟩ := Int.eq_ofNat_of_zero_le hx
  obtain ⟨b, rfl⟩ := Int.eq_ofNat_of_zero_le hy
  show IntKind.i64.wrap ((BitVec.ofInt 64 (a : Int) ||| BitVec.ofInt 64 (b : Int)).toNat : Int) = _
  rw [BitVec.ofInt_natCast, BitVec.ofInt_natCast, BitVec.toNat_or, BitVec.toNat_ofNat, BitVec.toNat_ofNat, Nat.mod_eq_of_lt (by omega), Nat.mod_eq_of_lt (by omega)]
  have : a ||| b < 2 ^ 63 := Nat.or_lt_two_pow (by omega) (by omega)
  exact w_i64 (by omega) (by omega)
/-- Bit i. -/
def bitN (x : Int) (i : Nat) : Bool := x.toNat.testBit i
theorem bitN_iff {x : Int} (hx : 0 ≤ x) (i : Nat) : x / 2 ^ i % 2 = 1 ↔ bitN x i = true := by
  obtain ⟨a, rfl⟩ := Int.eq_ofNat_of_zero_le hx
  unfold bitN
  rw [Int.toNat_natCast, Nat.testBit_eq_decide_div_mod_eq, decide_eq_true_eq]
  have : ((a : Int) / 2 ^ i % 2) = ((a / 2 ^ i % 2 : Nat) : Int) := by simp
  rw [this]; omega
theorem bitN_or (x y : Int) (i : Nat) : bitN (orN x y) i = (bitN x i || bitN y i) := by
  unfold bitN orN; rw [Int.toNat_natCast, Nat.testBit_or]
theorem orN_lt {x y : Int} {n : Nat} (hx : x.toNat < 2 ^ n) (hy : y.toNat < 2 ^ n) : 0 ≤ orN x y ∧ (orN x y).toNat < 2 ^ n := by
  unfold orN; exact ⟨by omega, by rw [Int.toNat_natCast]; exact Nat.or_lt_two_pow hx hy⟩
end Go.Proofs.YtodaanhhnjkncaaDoor
/- head: Num, Of, Get, With, Cmp; cmp.Compare. -/
namespace Go.Proofs.YtodaanhhnjkncaaDoor
open Go.RowKit

theorem u64_or8 {x y : Int} (hx : 0 ≤ x) (hx' : x ≤ 1099511627775) (hy : 0 ≤ y) (hy' : y ≤ 255) : bits .or .u64 (x * 256) y = x * 256 + y :=
  bits_join .u64 64 (by decide) wraps_u64' 8 (x * 256) y (by omega) (by omega) (by omega) hy (by omega) (by omega)
/-- The number of so many bytes. -/
def numK (m : Nat → Int) : Nat → Int | 0 => 0 | k + 1 => numK m k * 256 + m k
theorem numK_le {m : Nat → Int} (hm : Byt m) {k : Nat} (hk : k ≤ 6) : 0 ≤ numK m k ∧ (k ≤ 5 → numK m k ≤ 1099511627775) ∧ numK m k ≤ 281474976710655 := by
  have h0 := hm 0; have h1 := hm 1; have h2 := hm 2; have h3 := hm 3; have h4 := hm 4; have h5 := hm 5
  match k, hk with
  | 0, _ | 1, _ | 2, _ | 3, _ | 4, _ | 5, _ | 6, _ => simp only [numK]; omega
theorem Num_c (w : World) (m : Nat → Int) (hm : Byt m) :
    Calls Tryd.prog 52 #[.agg (bcs m 6).toArray] w fun e w' => e = .returned (.int .u64 (numK m 6)) ∧ Frm (fun _ => False) w w' := by
  refine enter Tryd.func52 rfl Tryd.ntmps52 rfl (St.start (fun _ => False) w) ?_
  refine WC.seq ?_
  refine WC.region ?_
  refine WL.box rfl rfl rfl (.none rfl) rfl rfl ?_
  intro g1 hg1
  refine WL.val (v_assign rfl rfl) (.none rfl) rfl rfl ?_
  refine WL.nil ?_
  refine WE.then_n ?_
  refine WC.seq ?_
  refine WC.region ?_
  refine WL.val (v_assign rfl rfl) (.none rfl) rfl rfl ?_
  refine WL.nil ?_
  refine WE.then_n ?_
  refine WC.seq ?_
  refine WC.seq ?_
  refine WC.region ?_
  refine WL.val (v_loadN rfl rfl many_27 rfl allAt) (.none rfl) rfl rfl ?_
  refine WL.val (v_move rfl rfl) (.none rfl) rfl rfl ?_
  refine WL.nil ?_
  refine WE.then_n ?_
  refine WC.block ?_
  refine WC.loop (fun k : Nat => [(7, .int .i64 k), (6, .agg (bcs m 6).toArray), (3, .int .u64 (numK m k))]) (fun _ => []) (fun k => k ≤ 6) (fun k => 6 - k) 0 (Nat.zero_le _) (.cons rfl (.cons rfl (.cons rfl .nil))) (.cons _ (.refl _)) ?_
  intro k hk
  have hN := numK_le hm hk
  have hb := hm k
  refine WC.seq ?_
  refine WC.region ?_
  refine WL.test (v_lss rfl rfl rfl) (.none rfl) rfl rfl (fun h8 => ?_) (fun h8 => ?_)
  · -- 8T
    refine WL.nil ?_
    refine WE.then_n ?_
    refine WC.seq ?_
    refine WC.cond_t rfl ?_
    refine WC.skip ?_
    refine WE.then_n ?_
    refine WC.seq ?_
    refine WC.block ?_
    refine WC.seq ?_
    refine WC.region ?_
    refine WL.val (v_indexV (lo := k) rfl rfl rfl Tryd.underlying27 one_5 (by omega) (by omega) (bcs_get m 6 k (by omega))) (.none rfl) rfl rfl ?_
    refine WL.val (v_assign rfl rfl) (.none rfl) rfl rfl ?_
    refine WL.nil ?_
    refine WE.then_n ?_
    refine WC.region ?_
    refine WL.val (v_move rfl rfl) (.none rfl) rfl rfl ?_
    refine WL.val (v_shl (m := 8) (c := 256) rfl rfl rfl rfl (by decide) (by decide) (w_u64 (by omega) (by omega))) (.none rfl) rfl rfl ?_
    refine WL.val (v_move rfl rfl) (.none rfl) rfl rfl ?_
    refine WL.val (v_conv rfl rfl Tryd.underlying22 Tryd.underlying5 (by first | exact w_u64 (by omega) (by omega) | exact w_u64m _)) (.none rfl) rfl rfl ?_
    refine WL.val (v_or rfl rfl rfl (u64_or8 (by omega) (by omega) (by omega) (by omega))) (.none rfl) rfl rfl ?_
    refine WL.val (v_assign rfl rfl) (.none rfl) rfl rfl ?_
    refine WL.nil ?_
    refine WE.block_n ?_
    refine WE.then_n ?_
    refine WC.region ?_
    refine WL.val (v_add rfl rfl rfl (w_i64 (by omega) (by omega))) (.none rfl) rfl rfl ?_
    refine WL.val (v_move rfl rfl) (.none rfl) rfl rfl ?_
    refine WL.nil ?_
    exact WE.next (k + 1) (by omega) (by omega) (.int rfl (by omega) (.cons rfl (.cons rfl .nil))) (.refl _)
  · -- 8F
    refine WL.nil ?_
    refine WE.then_n ?_
    refine WC.seq ?_
    refine WC.cond_f rfl ?_
    refine WC.exit ?_
    refine WE.then_exit ?_
    refine WE.then_exit ?_
    refine WE.block_hit ?_
    refine WE.then_n ?_
    refine WC.seq ?_
    refine WC.region ?_
    refine WL.val (v_move rfl rfl) (.none rfl) rfl rfl ?_
    refine WL.val (v_assign rfl rfl) (.none rfl) rfl rfl ?_
    refine WL.nil ?_
    refine WE.then_n ?_
    refine WC.ret ?_
    refine WE.ret1 (P := Tryd.prog) (.inl rfl) Tryd.results52 rfl ?_
    obtain rfl : k = 6 := (by omega)
    exact fun w' h => ⟨rfl, h.frm⟩
/-- Byte i of a number's lowest six. -/
def ofB (n : Int) (i : Nat) : Int := n / 256 ^ (5 - i) % 256
theorem ofB_byt (n : Int) : Byt (ofB n) := fun i => by unfold ofB; omega
def ofJ (n : Int) (j i : Nat) : Int := if 6 - j ≤ i ∧ i < 6 then ofB n i else 0
theorem bcs_set0 {f : Nat → Int} {n j : Nat} {x : Int} (h : j < n) : (bcs f n).set j (.int .u8 x) = bcs (fun i => if i = j then x else f i) n := by
  apply List.ext_getElem?
  intro i
  rw [List.getElem?_set, bcs_len]
  by_cases h1 : j = i
  · subst h1; rw [if_pos rfl, if_pos h, bcs_get _ _ _ h, if_pos rfl]
  · rw [if_neg h1]
    by_cases hi : i < n
    · rw [bcs_get _ _ _ hi, bcs_get _ _ _ hi, if_neg (by omega)]
    · rw [List.getElem?_eq_none (by rw [bcs_len]; omega), List.getElem?_eq_none (by rw [bcs_len]; omega)]
theorem bcs_congr {f g : Nat → Int} {n : Nat} (h : ∀ i, i < n → f i = g i) : bcs f n = bcs g n := by
  unfold bcs
  apply List.map_congr_left
  intro i hi
  rw [h i (List.mem_range.1 hi)]
theorem Of_c (w : World) (n : Int) (h0 : 0 ≤ n) (_h1 : n ≤ 18446744073709551615) :
    Calls Tryd.prog 64 #[.int .u64 n] w fun e w' => e = .returned (.agg (bcs (ofB n) 6).toArray) ∧ Frm (fun _ => False) w w' := by
  refine enter Tryd.func64 rfl Tryd.ntmps64 rfl (St.start (fun _ => False) w) ?_
  refine WC.seq ?_
  refine WC.region ?_
  refine WL.alloc rfl zero_27 (.none rfl) rfl rfl ?_
  intro g2 hg2
  refine WL.nil ?_
  refine WE.then_n ?_
  refine WC.seq ?_
  refine WC.region ?_
  refine WL.alloc rfl zero_27 (.none rfl) rfl rfl ?_
  intro g3 hg3
  refine WL.nil ?_
  refine WE.then_n ?_
  refine WC.seq ?_
  refine WC.seq ?_
  refine WC.region ?_
  refine WL.val (v_assign rfl rfl) (.none rfl) rfl rfl ?_
  refine WL.nil ?_
  refine WE.then_n ?_
  refine WC.block ?_
  refine WC.loop (fun j : Nat => [(4, .int .i64 (5 - j)), (0, .int .u64 (n / 256 ^ j)), (3, .pointer (some ⟨g3, 0, none⟩)), (2, .pointer (some ⟨g2, 0, none⟩))]) (fun j => [.row g3 (bcs (ofJ n j) 6), .row g2 (bcs (fun _ => 0) 6)]) (fun j => j ≤ 6) (fun j => 6 - j) 0 (Nat.zero_le _) (.int rfl rfl (.int rfl (by rw [Int.pow_zero, Int.ediv_one]) (.cons rfl (.cons rfl .nil)))) (.refl _) ?_
  intro j hj
  have hq : 0 ≤ n / 256 ^ j := Int.ediv_nonneg h0 (Int.pow_nonneg (by omega))
  have hq2 : n / 256 ^ j ≤ n := Int.ediv_le_self _ h0
  refine WC.seq ?_
  refine WC.seq ?_
  refine WC.region ?_
  refine WL.val (v_move rfl rfl) (.none rfl) rfl rfl ?_
  refine WL.test (v_geq rfl rfl rfl) (.none rfl) rfl rfl (fun h6 => ?_) (fun h6 => ?_)
  · -- 6T
    refine WL.nil ?_
    refine WE.then_n ?_
    refine WC.cond_t rfl ?_
    refine WC.skip ?_
    refine WE.then_n ?_
    refine WC.seq ?_
    refine WC.block ?_
    refine WC.seq ?_
    refine WC.region ?_
    refine WL.val (v_move rfl rfl) (.none rfl) rfl rfl ?_
    refine WL.val (v_move rfl rfl) (.none rfl) rfl rfl ?_
    refine WL.val (v_conv rfl rfl Tryd.underlying5 Tryd.underlying22 (by first | exact w_u8 (by omega) (by omega) | exact w_u8m _)) (.none rfl) rfl rfl ?_
    refine WL.val (v_indexAddrA (lo := 5 - j) rfl rfl rfl Tryd.underlying27 sz_5 (by omega) (by omega)) (.none rfl) rfl rfl ?_
    refine WL.store1 rfl rfl rfl rfl one_5 (by rw [bcs_len]; omega) (.none rfl) rfl ?_
    refine WL.as (L' := [.row g3 (bcs (ofJ n (j + 1)) 6), .row g2 (bcs (fun _ => 0) 6)]) (by
    rw [Nat.zero_add, Nat.mul_one, bcs_set0 (by omega)]
    congr 2
    refine bcs_congr fun i hi => ?_
    unfold ofJ ofB
    by_cases e : i = 5 - j
    · rw [if_pos e, if_pos (by omega), e, show 5 - (5 - j) = j by omega]
    · rw [if_neg e]
      by_cases e2 : 6 - j ≤ i
      · rw [if_pos (by omega), if_pos (by omega)]
      · rw [if_neg (by omega), if_neg (by omega)]) ?_
    refine WL.nil ?_
    refine WE.then_n ?_
    refine WC.region ?_
    refine WL.val (v_move rfl rfl) (.none rfl) rfl rfl ?_
    refine WL.val (v_shr (m := 8) (c := 256) rfl rfl rfl rfl (by decide) (by decide)) (.none rfl) rfl rfl ?_
    refine WL.val (v_assign rfl rfl) (.none rfl) rfl rfl ?_
    refine WL.nil ?_
    refine WE.block_n ?_
    refine WE.then_n ?_
    refine WC.region ?_
    refine WL.val (v_move rfl rfl) (.none rfl) rfl rfl ?_
    refine WL.val (v_sub rfl rfl rfl (w_i64 (by omega) (by omega))) (.none rfl) rfl rfl ?_
    refine WL.val (v_assign rfl rfl) (.none rfl) rfl rfl ?_
    refine WL.nil ?_
    exact WE.next (j + 1) (by omega) (by omega) (.int rfl (by omega) (.int rfl (by rw [Int.pow_succ, Int.ediv_ediv_of_nonneg (Int.pow_nonneg (by omega))]) (.cons rfl (.cons rfl .nil)))) (.refl _)
  · -- 6F
    refine WL.nil ?_
    refine WE.then_n ?_
    refine WC.cond_f rfl ?_
    refine WC.exit ?_
    refine WE.then_exit ?_
    refine WE.then_exit ?_
    refine WE.block_hit ?_
    refine WE.then_n ?_
    refine WC.seq ?_
    refine WC.region ?_
    refine WL.val (v_loadN rfl rfl many_27 rfl allAt) (.none rfl) rfl rfl ?_
    refine WL.storeW rfl rfl rfl rfl many_27 rfl rfl (.none rfl) rfl ?_
    refine WL.nil ?_
    refine WE.then_n ?_
    refine WC.ret ?_
    refine WE.ret1 (P := Tryd.prog) (.inl rfl) Tryd.results64 (resRow rfl many_27 rfl) ?_
    obtain rfl : j = 6 := (by omega)
    exact fun w' h => ⟨by rw [bcs_congr (f := ofJ n 6) (g := ofB n) (fun i hi => by unfold ofJ; rw [if_pos (by omega)])], h.frm⟩
/-- A field's number, as it stands. -/
def rawF (H : Hd) : Nat → Int
  | 0 => H.port % 18446744073709551616 | 1 => numK H.src 6 | 2 => numK H.dst 6 | 3 => H.ty % 18446744073709551616 | 4 => H.sip | 5 => H.dip
  | 6 => H.proto % 18446744073709551616 | 7 => H.sp % 18446744073709551616 | 8 => H.dp % 18446744073709551616 | _ + 9 => 0
theorem rawF_le {H : Hd} (hH : H.In) (k : Nat) : 0 ≤ rawF H k ∧ rawF H k ≤ 18446744073709551615 := by
  have a := numK_le hH.src (Nat.le_refl 6)
  have b := numK_le hH.dst (Nat.le_refl 6)
  have c := hH.sip
  have d := hH.dip
  match k with
  | 0 | 1 | 2 | 3 | 4 | 5 | 6 | 7 | 8 | _ + 9 => simp only [rawF]; omega
/-- A field's number: its lowest bits. -/
def getF (H : Hd) (k : Nat) : Int := rawF H k % 2 ^ wdN k
theorem pow_wd (k : Nat) : 1 ≤ (2 : Int) ^ wdN k ∧ (2 : Int) ^ wdN k ≤ 281474976710656 := by
  have hw := wdN_le k
  have hpow : (2 : Int) ^ wdN k = ((2 ^ wdN k : Nat) : Int) := by simp
  have h1 : 2 ^ wdN k ≤ 2 ^ 48 := Nat.pow_le_pow_right (by decide) hw
  have h2 : 0 < 2 ^ wdN k := Nat.two_pow_pos _
  omega
theorem getF_le (H : Hd) (k : Nat) : 0 ≤ getF H k ∧ getF H k ≤ fullI k := by
  have h := pow_wd k
  unfold getF fullI
  have h1 := Int.emod_nonneg (rawF H k) (b := 2 ^ wdN k) (by omega)
  have h2 := Int.emod_lt_of_pos (rawF H k) (b := 2 ^ wdN k) (by omega)
  omega
set_option maxHeartbeats 1000000 in
theorem Get_c (w : World) (H : Hd) (k : Nat) (hk : k < 9) (hH : H.In) (hG : GW w) :
    Calls Tryd.prog 16 #[.agg (hdCells H), .int .i64 k] w fun e w' => e = .returned (.int .u64 (getF H k)) ∧ Frm (fun _ => False) w w' := by
  have hr := rawF_le hH k
  have h1 := hH.sip
  have h2 := hH.dip
  have hp := pow_wd k
  have hw := wdN_le k
  refine enter Tryd.func16 rfl Tryd.ntmps16 rfl (St.start (fun _ => False) w) ?_
  refine WC.seq ?_
  refine WC.region ?_
  refine WL.box rfl rfl rfl (.none rfl) rfl rfl ?_
  intro g2 hg2
  refine WL.val (v_assign rfl rfl) (.none rfl) rfl rfl ?_
  refine WL.nil ?_
  refine WE.then_n ?_
  refine WC.seq ?_
  refine WC.region ?_
  refine WL.val (v_assign rfl rfl) (.none rfl) rfl rfl ?_
  refine WL.nil ?_
  refine WE.then_n ?_
  refine WC.cut (fun x : Int => [(5, .int .u64 x), (1, .int .i64 k)]) (fun _ => []) (fun x => x = rawF H k) ?_ ?_
  · -- cutb0
    refine WC.seq ?_
    refine WC.region ?_
    refine WL.val (v_move rfl rfl) (.none rfl) rfl rfl ?_
    refine WL.nil ?_
    refine WE.then_n ?_
    refine WC.block ?_
    refine WC.seq ?_
    refine WC.region ?_
    refine WL.test (v_eql rfl rfl rfl) (.none rfl) rfl rfl (fun h8 => ?_) (fun h8 => ?_)
    · -- 8T
      refine WL.val (v_assign rfl rfl) (.none rfl) rfl rfl ?_
      refine WL.nil ?_
      refine WE.then_n ?_
      refine WC.cond_t rfl ?_
      refine WC.region ?_
      refine WL.val (v_fieldAddr0 rfl rfl fld_31_0) (.none rfl) rfl rfl ?_
      refine WL.val (v_load1 rfl rfl one_3 (cellAt rfl)) (.none rfl) rfl rfl ?_
      refine WL.val (v_conv rfl rfl Tryd.underlying22 Tryd.underlying3 (w_u64m _)) (.none rfl) rfl rfl ?_
      refine WL.val (v_assign rfl rfl) (.none rfl) rfl rfl ?_
      refine WL.nil ?_
      refine WE.block_n ?_
      exact WE.mid _ (by obtain rfl : k = 0 := (by omega); rfl) (.cons rfl (.cons rfl .nil)) (.cons _ (.refl _))
    · -- 8F
      refine WL.val (v_assign rfl rfl) (.none rfl) rfl rfl ?_
      refine WL.nil ?_
      refine WE.then_n ?_
      refine WC.cond_f rfl ?_
      refine WC.seq ?_
      refine WC.region ?_
      refine WL.test (v_eql rfl rfl rfl) (.none rfl) rfl rfl (fun h13 => ?_) (fun h13 => ?_)
      · -- 13T
        refine WL.val (v_assign rfl rfl) (.none rfl) rfl rfl ?_
        refine WL.nil ?_
        refine WE.then_n ?_
        refine WC.cond_t rfl ?_
        refine WC.region ?_
        refine WL.val (v_fieldAddr0 rfl rfl fld_31_1) (.none rfl) rfl rfl ?_
        refine WL.val (v_loadN rfl rfl many_27 rfl (segAt (m := 6) rfl)) (.none rfl) rfl rfl ?_
        refine WL.call rfl rfl ck_52 (.none rfl) rfl rfl ?_
        intro w hS
        refine Calls.then (Num_c w H.src hH.src) hS ?_
        refine WL.val (v_assign rfl rfl) (.none rfl) rfl rfl ?_
        refine WL.nil ?_
        refine WE.block_n ?_
        exact WE.mid _ (by obtain rfl : k = 1 := (by omega); rfl) (.cons rfl (.cons rfl .nil)) (.cons _ (.refl _))
      · -- 13F
        refine WL.val (v_assign rfl rfl) (.none rfl) rfl rfl ?_
        refine WL.nil ?_
        refine WE.then_n ?_
        refine WC.cond_f rfl ?_
        refine WC.seq ?_
        refine WC.region ?_
        refine WL.test (v_eql rfl rfl rfl) (.none rfl) rfl rfl (fun h18 => ?_) (fun h18 => ?_)
        · -- 18T
          refine WL.val (v_assign rfl rfl) (.none rfl) rfl rfl ?_
          refine WL.nil ?_
          refine WE.then_n ?_
          refine WC.cond_t rfl ?_
          refine WC.region ?_
          refine WL.val (v_fieldAddr0 rfl rfl fld_31_2) (.none rfl) rfl rfl ?_
          refine WL.val (v_loadN rfl rfl many_27 rfl (segAt (m := 6) rfl)) (.none rfl) rfl rfl ?_
          refine WL.call rfl rfl ck_52 (.none rfl) rfl rfl ?_
          intro w hS
          refine Calls.then (Num_c w H.dst hH.dst) hS ?_
          refine WL.val (v_assign rfl rfl) (.none rfl) rfl rfl ?_
          refine WL.nil ?_
          refine WE.block_n ?_
          exact WE.mid _ (by obtain rfl : k = 2 := (by omega); rfl) (.cons rfl (.cons rfl .nil)) (.cons _ (.refl _))
        · -- 18F
          refine WL.val (v_assign rfl rfl) (.none rfl) rfl rfl ?_
          refine WL.nil ?_
          refine WE.then_n ?_
          refine WC.cond_f rfl ?_
          refine WC.seq ?_
          refine WC.region ?_
          refine WL.test (v_eql rfl rfl rfl) (.none rfl) rfl rfl (fun h23 => ?_) (fun h23 => ?_)
          · -- 23T
            refine WL.val (v_assign rfl rfl) (.none rfl) rfl rfl ?_
            refine WL.nil ?_
            refine WE.then_n ?_
            refine WC.cond_t rfl ?_
            refine WC.region ?_
            refine WL.val (v_fieldAddr0 rfl rfl fld_31_3) (.none rfl) rfl rfl ?_
            refine WL.val (v_load1 rfl rfl one_3 (cellAt rfl)) (.none rfl) rfl rfl ?_
            refine WL.val (v_conv rfl rfl Tryd.underlying22 Tryd.underlying3 (w_u64m _)) (.none rfl) rfl rfl ?_
            refine WL.val (v_assign rfl rfl) (.none rfl) rfl rfl ?_
            refine WL.nil ?_
            refine WE.block_n ?_
            exact WE.mid _ (by obtain rfl : k = 3 := (by omega); rfl) (.cons rfl (.cons rfl .nil)) (.cons _ (.refl _))
          · -- 23F
            refine WL.val (v_assign rfl rfl) (.none rfl) rfl rfl ?_
            refine WL.nil ?_
            refine WE.then_n ?_
            refine WC.cond_f rfl ?_
            refine WC.seq ?_
            refine WC.region ?_
            refine WL.test (v_eql rfl rfl rfl) (.none rfl) rfl rfl (fun h28 => ?_) (fun h28 => ?_)
            · -- 28T
              refine WL.val (v_assign rfl rfl) (.none rfl) rfl rfl ?_
              refine WL.nil ?_
              refine WE.then_n ?_
              refine WC.cond_t rfl ?_
              refine WC.region ?_
              refine WL.val (v_fieldAddr0 rfl rfl fld_31_4) (.none rfl) rfl rfl ?_
              refine WL.val (v_load1 rfl rfl one_29 (cellAt rfl)) (.none rfl) rfl rfl ?_
              refine WL.val (v_conv rfl rfl Tryd.underlying22 Tryd.underlying29 (by first | exact w_u64 (by omega) (by omega) | exact w_u64m _)) (.none rfl) rfl rfl ?_
              refine WL.val (v_assign rfl rfl) (.none rfl) rfl rfl ?_
              refine WL.nil ?_
              refine WE.block_n ?_
              exact WE.mid _ (by obtain rfl : k = 4 := (by omega); rfl) (.cons rfl (.cons rfl .nil)) (.cons _ (.refl _))
            · -- 28F
              refine WL.val (v_assign rfl rfl) (.none rfl) rfl rfl ?_
              refine WL.nil ?_
              refine WE.then_n ?_
              refine WC.cond_f rfl ?_
              refine WC.seq ?_
              refine WC.region ?_
              refine WL.test (v_eql rfl rfl rfl) (.none rfl) rfl rfl (fun h33 => ?_) (fun h33 => ?_)
              · -- 33T
                refine WL.val (v_assign rfl rfl) (.none rfl) rfl rfl ?_
                refine WL.nil ?_
                refine WE.then_n ?_
                refine WC.cond_t rfl ?_
                refine WC.region ?_
                refine WL.val (v_fieldAddr0 rfl rfl fld_31_5) (.none rfl) rfl rfl ?_
                refine WL.val (v_load1 rfl rfl one_29 (cellAt rfl)) (.none rfl) rfl rfl ?_
                refine WL.val (v_conv rfl rfl Tryd.underlying22 Tryd.underlying29 (by first | exact w_u64 (by omega) (by omega) | exact w_u64m _)) (.none rfl) rfl rfl ?_
                refine WL.val (v_assign rfl rfl) (.none rfl) rfl rfl ?_
                refine WL.nil ?_
                refine WE.block_n ?_
                exact WE.mid _ (by obtain rfl : k = 5 := (by omega); rfl) (.cons rfl (.cons rfl .nil)) (.cons _ (.refl _))
              · -- 33F
                refine WL.val (v_assign rfl rfl) (.none rfl) rfl rfl ?_
                refine WL.nil ?_
                refine WE.then_n ?_
                refine WC.cond_f rfl ?_
                refine WC.seq ?_
                refine WC.region ?_
                refine WL.test (v_eql rfl rfl rfl) (.none rfl) rfl rfl (fun h38 => ?_) (fun h38 => ?_)
                · -- 38T
                  refine WL.val (v_assign rfl rfl) (.none rfl) rfl rfl ?_
                  refine WL.nil ?_
                  refine WE.then_n ?_
                  refine WC.cond_t rfl ?_
                  refine WC.region ?_
                  refine WL.val (v_fieldAddr0 rfl rfl fld_31_6) (.none rfl) rfl rfl ?_
                  refine WL.val (v_load1 rfl rfl one_3 (cellAt rfl)) (.none rfl) rfl rfl ?_
                  refine WL.val (v_conv rfl rfl Tryd.underlying22 Tryd.underlying3 (w_u64m _)) (.none rfl) rfl rfl ?_
                  refine WL.val (v_assign rfl rfl) (.none rfl) rfl rfl ?_
                  refine WL.nil ?_
                  refine WE.block_n ?_
                  exact WE.mid _ (by obtain rfl : k = 6 := (by omega); rfl) (.cons rfl (.cons rfl .nil)) (.cons _ (.refl _))
                · -- 38F
                  refine WL.val (v_assign rfl rfl) (.none rfl) rfl rfl ?_
                  refine WL.nil ?_
                  refine WE.then_n ?_
                  refine WC.cond_f rfl ?_
                  refine WC.seq ?_
                  refine WC.region ?_
                  refine WL.test (v_eql rfl rfl rfl) (.none rfl) rfl rfl (fun h43 => ?_) (fun h43 => ?_)
                  · -- 43T
                    refine WL.val (v_assign rfl rfl) (.none rfl) rfl rfl ?_
                    refine WL.nil ?_
                    refine WE.then_n ?_
                    refine WC.cond_t rfl ?_
                    refine WC.region ?_
                    refine WL.val (v_fieldAddr0 rfl rfl fld_31_7) (.none rfl) rfl rfl ?_
                    refine WL.val (v_load1 rfl rfl one_3 (cellAt rfl)) (.none rfl) rfl rfl ?_
                    refine WL.val (v_conv rfl rfl Tryd.underlying22 Tryd.underlying3 (w_u64m _)) (.none rfl) rfl rfl ?_
                    refine WL.val (v_assign rfl rfl) (.none rfl) rfl rfl ?_
                    refine WL.nil ?_
                    refine WE.block_n ?_
                    exact WE.mid _ (by obtain rfl : k = 7 := (by omega); rfl) (.cons rfl (.cons rfl .nil)) (.cons _ (.refl _))
                  · -- 43F
                    refine WL.val (v_assign rfl rfl) (.none rfl) rfl rfl ?_
                    refine WL.nil ?_
                    refine WE.then_n ?_
                    refine WC.cond_f rfl ?_
                    refine WC.seq ?_
                    refine WC.region ?_
                    refine WL.val ((v_eql rfl rfl rfl).t (by omega)) (.none rfl) rfl rfl ?_
                    refine WL.val (v_assign rfl rfl) (.none rfl) rfl rfl ?_
                    refine WL.nil ?_
                    refine WE.then_n ?_
                    refine WC.cond_t rfl ?_
                    refine WC.region ?_
                    refine WL.val (v_fieldAddr0 rfl rfl fld_31_8) (.none rfl) rfl rfl ?_
                    refine WL.val (v_load1 rfl rfl one_3 (cellAt rfl)) (.none rfl) rfl rfl ?_
                    refine WL.val (v_conv rfl rfl Tryd.underlying22 Tryd.underlying3 (w_u64m _)) (.none rfl) rfl rfl ?_
                    refine WL.val (v_assign rfl rfl) (.none rfl) rfl rfl ?_
                    refine WL.nil ?_
                    refine WE.block_n ?_
                    exact WE.mid _ (by obtain rfl : k = 8 := (by omega); rfl) (.cons rfl (.cons rfl .nil)) (.cons _ (.refl _))
  · -- behind cutb0
    rintro x rfl
    refine WC.seq ?_
    refine WC.region ?_
    refine WL.val (v_move rfl rfl) (.none rfl) rfl rfl ?_
    refine WL.val (v_move rfl rfl) (.none rfl) rfl rfl ?_
    refine WL.call rfl rfl ck_30 (.none rfl) rfl rfl ?_
    intro w hS
    refine Calls.then (Full_n w k hk (hG.keep (fun h => h) hS)) hS ?_
    refine WL.val (v_and rfl rfl rfl (mask_u64 (i := wdN k) (by omega) rfl rfl hr.1 hr.2)) (.none rfl) rfl rfl ?_
    refine WL.val (v_assign rfl rfl) (.none rfl) rfl rfl ?_
    refine WL.nil ?_
    refine WE.then_n ?_
    refine WC.ret ?_
    refine WE.ret1 (P := Tryd.prog) (.inl rfl) Tryd.results16 rfl ?_
    exact fun w' h => ⟨rfl, h.frm⟩
/-- The header with a number in a field. -/
def wthF (k : Nat) (n : Int) (H : Hd) : Hd := match k with
  | 0 => { H with port := n } | 1 => { H with src := ofB n } | 2 => { H with dst := ofB n } | 3 => { H with ty := n } | 4 => { H with sip := n } | 5 => { H with dip := n }
  | 6 => { H with proto := n } | 7 => { H with sp := n } | 8 => { H with dp := n } | _ + 9 => H
set_option maxHeartbeats 1000000 in
theorem With_c (w : World) (H : Hd) (k : Nat) (hk : k < 9) (n : Int) (h0 : 0 ≤ n) (h1 : n ≤ fullI k) (hG : GW w) :
    Calls Tryd.prog 31 #[.agg (hdCells H), .int .i64 k, .int .u64 n] w fun e w' => e = .returned (.tuple #[.agg (hdCells (wthF k n H)), .int .i64 0]) ∧ Frm (fun _ => False) w w' := by
  have hp := pow_wd k
  have hw := wdN_le k
  have hfu : fullI k ≤ 281474976710655 := by unfold fullI; omega
  have hw0 : 8 ≤ wdN k := by
    match k, hk with
    | 0, _ | 1, _ | 2, _ | 3, _ | 4, _ | 5, _ | 6, _ | 7, _ | 8, _ => decide
  have e4 : fullI 4 = 4294967295 := by decide
  have e5 : fullI 5 = 4294967295 := by decide
  refine enter Tryd.func31 rfl Tryd.ntmps31 rfl (St.start (fun _ => False) w) ?_
  refine WC.seq ?_
  refine WC.region ?_
  refine WL.box rfl rfl rfl (.none rfl) rfl rfl ?_
  intro g3 hg3
  refine WL.alloc rfl zero_31 (.none rfl) rfl rfl ?_
  intro g6 hg6
  refine WL.val (v_assign rfl rfl) (.none rfl) rfl rfl ?_
  refine WL.nil ?_
  refine WE.then_n ?_
  refine WC.seq ?_
  refine WC.seq ?_
  refine WC.region ?_
  refine WL.val (v_move rfl rfl) (.none rfl) rfl rfl ?_
  refine WL.call rfl rfl ck_63 (.none rfl) rfl rfl ?_
  intro w hS
  refine Calls.then (Width_n w k hk (hG.keep (fun h => h) hS)) hS ?_
  refine WL.val ((v_eql rfl rfl rfl).f (by omega)) (.none rfl) rfl rfl ?_
  refine WL.val (v_move rfl rfl) (.none rfl) rfl rfl ?_
  refine WL.val (v_move rfl rfl) (.some rfl rfl rfl) rfl rfl ?_
  refine WL.val (v_move rfl rfl) (.some rfl rfl rfl) rfl rfl ?_
  refine WL.call rfl rfl ck_30 (.some rfl rfl rfl) rfl rfl ?_
  intro w hS
  refine Calls.then (Full_n w k hk (hG.keep (fun h => h) hS)) hS ?_
  refine WL.val ((v_gtr rfl rfl rfl).f (by omega)) (.some rfl rfl rfl) rfl rfl ?_
  refine WL.val (v_pick_f rfl rfl rfl) (.none rfl) rfl rfl ?_
  refine WL.nil ?_
  refine WE.then_n ?_
  refine WC.cond_f rfl ?_
  refine WC.skip ?_
  refine WE.then_n ?_
  refine WC.cut (fun _ : Unit => [(3, .pointer (some ⟨g3, 0, none⟩)), (6, .pointer (some ⟨g6, 0, none⟩))]) (fun _ => [.row g6 (hdL Hd.zero), .row g3 (hdL (wthF k n H))]) (fun _ => True) ?_ ?_
  · -- cutb0
    refine WC.seq ?_
    refine WC.region ?_
    refine WL.val (v_move rfl rfl) (.none rfl) rfl rfl ?_
    refine WL.nil ?_
    refine WE.then_n ?_
    refine WC.block ?_
    refine WC.seq ?_
    refine WC.region ?_
    refine WL.test (v_eql rfl rfl rfl) (.none rfl) rfl rfl (fun h20 => ?_) (fun h20 => ?_)
    · -- 20T
      refine WL.val (v_assign rfl rfl) (.none rfl) rfl rfl ?_
      refine WL.nil ?_
      refine WE.then_n ?_
      refine WC.cond_t rfl ?_
      refine WC.region ?_
      refine WL.val (v_move rfl rfl) (.none rfl) rfl rfl ?_
      refine WL.val (v_conv rfl rfl Tryd.underlying3 Tryd.underlying22 (w_i64 (by omega) (by omega))) (.none rfl) rfl rfl ?_
      refine WL.val (v_fieldAddr0 rfl rfl fld_31_0) (.none rfl) rfl rfl ?_
      refine WL.store1 rfl rfl rfl rfl one_3 (Nat.le_of_ble_eq_true rfl) (.none rfl) rfl ?_
      refine WL.nil ?_
      refine WE.block_n ?_
      obtain rfl : k = 0 := (by omega)
      exact WE.mid () trivial (.cons rfl (.cons rfl .nil)) (.refl _)
    · -- 20F
      refine WL.val (v_assign rfl rfl) (.none rfl) rfl rfl ?_
      refine WL.nil ?_
      refine WE.then_n ?_
      refine WC.cond_f rfl ?_
      refine WC.seq ?_
      refine WC.region ?_
      refine WL.test (v_eql rfl rfl rfl) (.none rfl) rfl rfl (fun h25 => ?_) (fun h25 => ?_)
      · -- 25T
        refine WL.val (v_assign rfl rfl) (.none rfl) rfl rfl ?_
        refine WL.nil ?_
        refine WE.then_n ?_
        refine WC.cond_t rfl ?_
        refine WC.region ?_
        refine WL.val (v_move rfl rfl) (.none rfl) rfl rfl ?_
        refine WL.call rfl rfl ck_64 (.none rfl) rfl rfl ?_
        intro w hS
        refine Calls.then (Of_c w n (by omega) (by omega)) hS ?_
        refine WL.val (v_fieldAddr0 rfl rfl fld_31_1) (.none rfl) rfl rfl ?_
        refine WL.storeN rfl rfl rfl rfl many_27 rfl (by first | exact Nat.le_of_ble_eq_true rfl | simp) (.none rfl) rfl ?_
        refine WL.nil ?_
        refine WE.block_n ?_
        obtain rfl : k = 1 := (by omega)
        exact WE.mid () trivial (.cons rfl (.cons rfl .nil)) (.refl _)
      · -- 25F
        refine WL.val (v_assign rfl rfl) (.none rfl) rfl rfl ?_
        refine WL.nil ?_
        refine WE.then_n ?_
        refine WC.cond_f rfl ?_
        refine WC.seq ?_
        refine WC.region ?_
        refine WL.test (v_eql rfl rfl rfl) (.none rfl) rfl rfl (fun h30 => ?_) (fun h30 => ?_)
        · -- 30T
          refine WL.val (v_assign rfl rfl) (.none rfl) rfl rfl ?_
          refine WL.nil ?_
          refine WE.then_n ?_
          refine WC.cond_t rfl ?_
          refine WC.region ?_
          refine WL.val (v_move rfl rfl) (.none rfl) rfl rfl ?_
          refine WL.call rfl rfl ck_64 (.none rfl) rfl rfl ?_
          intro w hS
          refine Calls.then (Of_c w n (by omega) (by omega)) hS ?_
          refine WL.val (v_fieldAddr0 rfl rfl fld_31_2) (.none rfl) rfl rfl ?_
          refine WL.storeN rfl rfl rfl rfl many_27 rfl (by first | exact Nat.le_of_ble_eq_true rfl | simp) (.none rfl) rfl ?_
          refine WL.nil ?_
          refine WE.block_n ?_
          obtain rfl : k = 2 := (by omega)
          exact WE.mid () trivial (.cons rfl (.cons rfl .nil)) (.refl _)
        · -- 30F
          refine WL.val (v_assign rfl rfl) (.none rfl) rfl rfl ?_
          refine WL.nil ?_
          refine WE.then_n ?_
          refine WC.cond_f rfl ?_
          refine WC.seq ?_
          refine WC.region ?_
          refine WL.test (v_eql rfl rfl rfl) (.none rfl) rfl rfl (fun h35 => ?_) (fun h35 => ?_)
          · -- 35T
            refine WL.val (v_assign rfl rfl) (.none rfl) rfl rfl ?_
            refine WL.nil ?_
            refine WE.then_n ?_
            refine WC.cond_t rfl ?_
            refine WC.region ?_
            refine WL.val (v_move rfl rfl) (.none rfl) rfl rfl ?_
            refine WL.val (v_conv rfl rfl Tryd.underlying3 Tryd.underlying22 (w_i64 (by omega) (by omega))) (.none rfl) rfl rfl ?_
            refine WL.val (v_fieldAddr0 rfl rfl fld_31_3) (.none rfl) rfl rfl ?_
            refine WL.store1 rfl rfl rfl rfl one_3 (Nat.le_of_ble_eq_true rfl) (.none rfl) rfl ?_
            refine WL.nil ?_
            refine WE.block_n ?_
            obtain rfl : k = 3 := (by omega)
            exact WE.mid () trivial (.cons rfl (.cons rfl .nil)) (.refl _)
          · -- 35F
            refine WL.val (v_assign rfl rfl) (.none rfl) rfl rfl ?_
            refine WL.nil ?_
            refine WE.then_n ?_
            refine WC.cond_f rfl ?_
            refine WC.seq ?_
            refine WC.region ?_
            refine WL.test (v_eql rfl rfl rfl) (.none rfl) rfl rfl (fun h40 => ?_) (fun h40 => ?_)
            · -- 40T
              refine WL.val (v_assign rfl rfl) (.none rfl) rfl rfl ?_
              refine WL.nil ?_
              refine WE.then_n ?_
              refine WC.cond_t rfl ?_
              refine WC.region ?_
              refine WL.val (v_move rfl rfl) (.none rfl) rfl rfl ?_
              obtain rfl : k = 4 := (by omega)
              refine WL.val (v_conv rfl rfl Tryd.underlying29 Tryd.underlying22 (by first | exact w_u32 (by omega) (by omega) | exact w_u32m _)) (.none rfl) rfl rfl ?_
              refine WL.val (v_fieldAddr0 rfl rfl fld_31_4) (.none rfl) rfl rfl ?_
              refine WL.store1 rfl rfl rfl rfl one_29 (Nat.le_of_ble_eq_true rfl) (.none rfl) rfl ?_
              refine WL.nil ?_
              refine WE.block_n ?_
              exact WE.mid () trivial (.cons rfl (.cons rfl .nil)) (.refl _)
            · -- 40F
              refine WL.val (v_assign rfl rfl) (.none rfl) rfl rfl ?_
              refine WL.nil ?_
              refine WE.then_n ?_
              refine WC.cond_f rfl ?_
              refine WC.seq ?_
              refine WC.region ?_
              refine WL.test (v_eql rfl rfl rfl) (.none rfl) rfl rfl (fun h45 => ?_) (fun h45 => ?_)
              · -- 45T
                refine WL.val (v_assign rfl rfl) (.none rfl) rfl rfl ?_
                refine WL.nil ?_
                refine WE.then_n ?_
                refine WC.cond_t rfl ?_
                refine WC.region ?_
                refine WL.val (v_move rfl rfl) (.none rfl) rfl rfl ?_
                obtain rfl : k = 5 := (by omega)
                refine WL.val (v_conv rfl rfl Tryd.underlying29 Tryd.underlying22 (by first | exact w_u32 (by omega) (by omega) | exact w_u32m _)) (.none rfl) rfl rfl ?_
                refine WL.val (v_fieldAddr0 rfl rfl fld_31_5) (.none rfl) rfl rfl ?_
                refine WL.store1 rfl rfl rfl rfl one_29 (Nat.le_of_ble_eq_true rfl) (.none rfl) rfl ?_
                refine WL.nil ?_
                refine WE.block_n ?_
                exact WE.mid () trivial (.cons rfl (.cons rfl .nil)) (.refl _)
              · -- 45F
                refine WL.val (v_assign rfl rfl) (.none rfl) rfl rfl ?_
                refine WL.nil ?_
                refine WE.then_n ?_
                refine WC.cond_f rfl ?_
                refine WC.seq ?_
                refine WC.region ?_
                refine WL.test (v_eql rfl rfl rfl) (.none rfl) rfl rfl (fun h50 => ?_) (fun h50 => ?_)
                · -- 50T
                  refine WL.val (v_assign rfl rfl) (.none rfl) rfl rfl ?_
                  refine WL.nil ?_
                  refine WE.then_n ?_
                  refine WC.cond_t rfl ?_
                  refine WC.region ?_
                  refine WL.val (v_move rfl rfl) (.none rfl) rfl rfl ?_
                  refine WL.val (v_conv rfl rfl Tryd.underlying3 Tryd.underlying22 (w_i64 (by omega) (by omega))) (.none rfl) rfl rfl ?_
                  refine WL.val (v_fieldAddr0 rfl rfl fld_31_6) (.none rfl) rfl rfl ?_
                  refine WL.store1 rfl rfl rfl rfl one_3 (Nat.le_of_ble_eq_true rfl) (.none rfl) rfl ?_
                  refine WL.nil ?_
                  refine WE.block_n ?_
                  obtain rfl : k = 6 := (by omega)
                  exact WE.mid () trivial (.cons rfl (.cons rfl .nil)) (.refl _)
                · -- 50F
                  refine WL.val (v_assign rfl rfl) (.none rfl) rfl rfl ?_
                  refine WL.nil ?_
                  refine WE.then_n ?_
                  refine WC.cond_f rfl ?_
                  refine WC.seq ?_
                  refine WC.region ?_
                  refine WL.test (v_eql rfl rfl rfl) (.none rfl) rfl rfl (fun h55 => ?_) (fun h55 => ?_)
                  · -- 55T
                    refine WL.val (v_assign rfl rfl) (.none rfl) rfl rfl ?_
                    refine WL.nil ?_
                    refine WE.then_n ?_
                    refine WC.cond_t rfl ?_
                    refine WC.region ?_
                    refine WL.val (v_move rfl rfl) (.none rfl) rfl rfl ?_
                    refine WL.val (v_conv rfl rfl Tryd.underlying3 Tryd.underlying22 (w_i64 (by omega) (by omega))) (.none rfl) rfl rfl ?_
                    refine WL.val (v_fieldAddr0 rfl rfl fld_31_7) (.none rfl) rfl rfl ?_
                    refine WL.store1 rfl rfl rfl rfl one_3 (Nat.le_of_ble_eq_true rfl) (.none rfl) rfl ?_
                    refine WL.nil ?_
                    refine WE.block_n ?_
                    obtain rfl : k = 7 := (by omega)
                    exact WE.mid () trivial (.cons rfl (.cons rfl .nil)) (.refl _)
                  · -- 55F
                    refine WL.val (v_assign rfl rfl) (.none rfl) rfl rfl ?_
                    refine WL.nil ?_
                    refine WE.then_n ?_
                    refine WC.cond_f rfl ?_
                    refine WC.seq ?_
                    refine WC.region ?_
                    refine WL.val ((v_eql rfl rfl rfl).t (by omega)) (.none rfl) rfl rfl ?_
                    refine WL.val (v_assign rfl rfl) (.none rfl) rfl rfl ?_
                    refine WL.nil ?_
                    refine WE.then_n ?_
                    refine WC.cond_t rfl ?_
                    refine WC.region ?_
                    refine WL.val (v_move rfl rfl) (.none rfl) rfl rfl ?_
                    refine WL.val (v_conv rfl rfl Tryd.underlying3 Tryd.underlying22 (w_i64 (by omega) (by omega))) (.none rfl) rfl rfl ?_
                    refine WL.val (v_fieldAddr0 rfl rfl fld_31_8) (.none rfl) rfl rfl ?_
                    refine WL.store1 rfl rfl rfl rfl one_3 (Nat.le_of_ble_eq_true rfl) (.none rfl) rfl ?_
                    refine WL.nil ?_
                    refine WE.block_n ?_
                    obtain rfl : k = 8 := (by omega)
                    exact WE.mid () trivial (.cons rfl (.cons rfl .nil)) (.refl _)
  · -- behind cutb0
    intro _ _
    refine WC.seq ?_
    refine WC.region ?_
    refine WL.val (v_loadN rfl rfl many_31 rfl allAt) (.none rfl) rfl rfl ?_
    refine WL.storeW rfl rfl rfl rfl many_31 rfl rfl (.none rfl) rfl ?_
    refine WL.val (v_assign rfl rfl) (.none rfl) rfl rfl ?_
    refine WL.nil ?_
    refine WE.then_n ?_
    refine WC.ret ?_
    refine WE.ret2 (P := Tryd.prog) (.inl rfl) Tryd.results31 (resRow rfl many_31 rfl) rfl ?_
    exact fun w' h => ⟨rfl, h.frm⟩
/-- How two numbers compare. -/
def cmpI (x y : Int) : Int := if x < y then -1 else if y < x then 1 else 0
theorem isNaNU_c (w : World) (x : Int) : Calls Tryd.prog 107 #[.int .u64 x] w fun e w' => e = .returned (.bool false) ∧ Frm (fun _ => False) w w' := by
  refine enter Tryd.func107 rfl Tryd.ntmps107 rfl (St.start (fun _ => False) w) ?_
  refine WC.seq ?_
  refine WC.region ?_
  refine WL.val (v_assign rfl rfl) (.none rfl) rfl rfl ?_
  refine WL.nil ?_
  refine WE.then_n ?_
  refine WC.seq ?_
  refine WC.region ?_
  refine WL.val (v_move rfl rfl) (.none rfl) rfl rfl ?_
  refine WL.val (v_move rfl rfl) (.none rfl) rfl rfl ?_
  refine WL.val ((v_neq rfl rfl rfl).f (fun h => h rfl)) (.none rfl) rfl rfl ?_
  refine WL.val (v_assign rfl rfl) (.none rfl) rfl rfl ?_
  refine WL.nil ?_
  refine WE.then_n ?_
  refine WC.ret ?_
  refine WE.ret1 (P := Tryd.prog) (.inl rfl) Tryd.results107 rfl ?_
  exact fun w' h => ⟨rfl, h.frm⟩
theorem CmpU_c (w : World) (x y : Int) : Calls Tryd.prog 79 #[.int .u64 x, .int .u64 y] w fun e w' => e = .returned (.int .i64 (cmpI x y)) ∧ Frm (fun _ => False) w w' := by
  refine enter Tryd.func79 rfl Tryd.ntmps79 rfl (St.start (fun _ => False) w) ?_
  refine WC.seq ?_
  refine WC.region ?_
  refine WL.val (v_assign rfl rfl) (.none rfl) rfl rfl ?_
  refine WL.nil ?_
  refine WE.then_n ?_
  refine WC.seq ?_
  refine WC.region ?_
  refine WL.val (v_move rfl rfl) (.none rfl) rfl rfl ?_
  refine WL.call rfl rfl ck_107 (.none rfl) rfl rfl ?_
  intro w hS
  refine Calls.then (isNaNU_c w x) hS ?_
  refine WL.val (v_assign rfl rfl) (.none rfl) rfl rfl ?_
  refine WL.nil ?_
  refine WE.then_n ?_
  refine WC.seq ?_
  refine WC.region ?_
  refine WL.val (v_move rfl rfl) (.none rfl) rfl rfl ?_
  refine WL.call rfl rfl ck_107 (.none rfl) rfl rfl ?_
  intro w hS
  refine Calls.then (isNaNU_c w y) hS ?_
  refine WL.val (v_assign rfl rfl) (.none rfl) rfl rfl ?_
  refine WL.nil ?_
  refine WE.then_n ?_
  refine WC.seq ?_
  refine WC.seq ?_
  refine WC.region ?_
  refine WL.val (v_move rfl rfl) (.none rfl) rfl rfl ?_
  refine WL.nil ?_
  refine WE.then_n ?_
  refine WC.cond_f rfl ?_
  refine WC.skip ?_
  refine WE.then_n ?_
  refine WC.seq ?_
  refine WC.seq ?_
  refine WC.region ?_
  refine WL.val (v_move rfl rfl) (.none rfl) rfl rfl ?_
  refine WL.nil ?_
  refine WE.then_n ?_
  refine WC.cond_f rfl ?_
  refine WC.skip ?_
  refine WE.then_n ?_
  refine WC.seq ?_
  refine WC.seq ?_
  refine WC.region ?_
  refine WL.val (v_move rfl rfl) (.none rfl) rfl rfl ?_
  refine WL.val (v_move rfl rfl) (.none rfl) rfl rfl ?_
  refine WL.test (v_lss rfl rfl rfl) (.none rfl) rfl rfl (fun h16 => ?_) (fun h16 => ?_)
  · -- 16T
    refine WL.nil ?_
    refine WE.then_n ?_
    refine WC.cond_t rfl ?_
    refine WC.seq ?_
    refine WC.region ?_
    refine WL.val (v_assign rfl rfl) (.none rfl) rfl rfl ?_
    refine WL.nil ?_
    refine WE.then_n ?_
    refine WC.ret ?_
    refine WE.then_ret ?_
    refine WE.ret1 (P := Tryd.prog) (.inl rfl) Tryd.results79 rfl ?_
    exact fun w' h => ⟨by unfold cmpI; rw [if_pos h16], h.frm⟩
  · -- 16F
    refine WL.nil ?_
    refine WE.then_n ?_
    refine WC.cond_f rfl ?_
    refine WC.skip ?_
    refine WE.then_n ?_
    refine WC.seq ?_
    refine WC.seq ?_
    refine WC.region ?_
    refine WL.val (v_move rfl rfl) (.none rfl) rfl rfl ?_
    refine WL.val (v_move rfl rfl) (.none rfl) rfl rfl ?_
    refine WL.test (v_gtr rfl rfl rfl) (.none rfl) rfl rfl (fun h19 => ?_) (fun h19 => ?_)
    · -- 19T
      refine WL.nil ?_
      refine WE.then_n ?_
      refine WC.cond_t rfl ?_
      refine WC.seq ?_
      refine WC.region ?_
      refine WL.val (v_assign rfl rfl) (.none rfl) rfl rfl ?_
      refine WL.nil ?_
      refine WE.then_n ?_
      refine WC.ret ?_
      refine WE.then_ret ?_
      refine WE.ret1 (P := Tryd.prog) (.inl rfl) Tryd.results79 rfl ?_
      exact fun w' h => ⟨by unfold cmpI; rw [if_neg h16, if_pos h19], h.frm⟩
    · -- 19F
      refine WL.nil ?_
      refine WE.then_n ?_
      refine WC.cond_f rfl ?_
      refine WC.skip ?_
      refine WE.then_n ?_
      refine WC.seq ?_
      refine WC.region ?_
      refine WL.val (v_assign rfl rfl) (.none rfl) rfl rfl ?_
      refine WL.nil ?_
      refine WE.then_n ?_
      refine WC.ret ?_
      refine WE.ret1 (P := Tryd.prog) (.inl rfl) Tryd.results79 rfl ?_
      exact fun w' h => ⟨by unfold cmpI; rw [if_neg h16, if_neg h19], h.frm⟩
/-- How two headers compare, by so many fields. -/
def hcmpK (A B : Hd) : Nat → Int | 0 => 0 | k + 1 => if hcmpK A B k ≠ 0 then hcmpK A B k else cmpI (getF A k) (getF B k)
theorem hcmpK_stays {A B : Hd} {k : Nat} (h : hcmpK A B k ≠ 0) : ∀ j, hcmpK A B (k + j) = hcmpK A B k
  | 0 => rfl
  | j + 1 => by
    have := hcmpK_stays h j
    show (if hcmpK A B (k + j) ≠ 0 then hcmpK A B (k + j) else _) = _
    rw [this, if_pos h]
theorem HCmp_c (w : World) (A B : Hd) (hA : A.In) (hB : B.In) (hG : GW w) :
    Calls Tryd.prog 58 #[.agg (hdCells A), .agg (hdCells B)] w fun e w' => e = .returned (.int .i64 (hcmpK A B 9)) ∧ Frm (fun _ => False) w w' := by
  refine enter Tryd.func58 rfl Tryd.ntmps58 rfl (St.start (fun _ => False) w) ?_
  refine WC.seq ?_
  refine WC.region ?_
  refine WL.box rfl rfl rfl (.none rfl) rfl rfl ?_
  intro g2 hg2
  refine WL.box rfl rfl rfl (.none rfl) rfl rfl ?_
  intro g3 hg3
  refine WL.val (v_assign rfl rfl) (.none rfl) rfl rfl ?_
  refine WL.nil ?_
  refine WE.then_n ?_
  refine WC.seq ?_
  refine WC.seq ?_
  refine WC.region ?_
  refine WL.val (v_move rfl rfl) (.none rfl) rfl rfl ?_
  refine WL.nil ?_
  refine WE.then_n ?_
  refine WC.block ?_
  refine WC.loop (fun k : Nat => [(7, .int .i64 k), (3, .pointer (some ⟨g3, 0, none⟩)), (2, .pointer (some ⟨g2, 0, none⟩))]) (fun _ => [.row g3 (hdL B), .row g2 (hdL A)]) (fun k => k ≤ 9 ∧ hcmpK A B k = 0) (fun k => 9 - k) 0 ⟨Nat.zero_le _, rfl⟩ (.cons rfl (.cons rfl (.cons rfl .nil))) (.refl _) ?_
  rintro k ⟨hk, h0⟩
  refine WC.seq ?_
  refine WC.region ?_
  refine WL.test (v_lss rfl rfl rfl) (.none rfl) rfl rfl (fun h8 => ?_) (fun h8 => ?_)
  · -- 8T
    refine WL.nil ?_
    refine WE.then_n ?_
    refine WC.seq ?_
    refine WC.cond_t rfl ?_
    refine WC.skip ?_
    refine WE.then_n ?_
    refine WC.seq ?_
    refine WC.block ?_
    refine WC.seq ?_
    refine WC.region ?_
    refine WL.val (v_move rfl rfl) (.none rfl) rfl rfl ?_
    refine WL.val (v_assign rfl rfl) (.none rfl) rfl rfl ?_
    refine WL.nil ?_
    refine WE.then_n ?_
    refine WC.seq ?_
    refine WC.quiet mixed (by kernel_rfl) ?_
    refine WQ.val (v_loadN rfl rfl many_31 rfl allAt) (.none rfl) rfl rfl ?_
    refine WQ.val (v_move rfl rfl) (.none rfl) rfl rfl ?_
    refine WQ.call _ rfl rfl ck_16 (.none rfl) rfl rfl (fun w hS => Calls.still (Get_c w A k (by omega) hA (hG.keep (fun h => h) hS)) hS) ?_
    refine WQ.val (v_loadN rfl rfl many_31 rfl allAt) (.none rfl) rfl rfl ?_
    refine WQ.val (v_move rfl rfl) (.none rfl) rfl rfl ?_
    refine WQ.call _ rfl rfl ck_16 (.none rfl) rfl rfl (fun w hS => Calls.still (Get_c w B k (by omega) hB (hG.keep (fun h => h) hS)) hS) ?_
    refine WQ.call _ rfl rfl ck_79 (.none rfl) rfl rfl (fun w hS => Calls.still (CmpU_c w (getF A k) (getF B k)) hS) ?_
    refine WQ.val (v_assign rfl rfl) (.none rfl) rfl rfl ?_
    refine WQ.nil ?_
    refine WE.then_n ?_
    refine WC.seq ?_
    refine WC.region ?_
    refine WL.val (v_move rfl rfl) (.none rfl) rfl rfl ?_
    refine WL.test (v_neq rfl rfl rfl) (.none rfl) rfl rfl (fun h18 => ?_) (fun h18 => ?_)
    · -- 18T
      refine WL.nil ?_
      refine WE.then_n ?_
      refine WC.cond_t rfl ?_
      refine WC.seq ?_
      refine WC.region ?_
      refine WL.val (v_move rfl rfl) (.none rfl) rfl rfl ?_
      refine WL.val (v_assign rfl rfl) (.none rfl) rfl rfl ?_
      refine WL.nil ?_
      refine WE.then_n ?_
      refine WC.ret ?_
      refine WE.block_ret ?_
      refine WE.then_ret ?_
      refine WE.then_ret ?_
      refine WE.block_ret ?_
      refine WE.then_ret ?_
      refine WE.ret1 (P := Tryd.prog) (.inl rfl) Tryd.results58 rfl ?_
      have e1 : hcmpK A B (k + 1) = cmpI (getF A k) (getF B k) := (by show (if _ then _ else _) = _; rw [if_neg (by omega)])
      have e2 := hcmpK_stays (A := A) (B := B) (k := k + 1) (by rw [e1]; exact h18) (8 - k)
      rw [show k + 1 + (8 - k) = 9 by omega] at e2
      exact fun w' h => ⟨by rw [e2, e1], h.frm⟩
    · -- 18F
      refine WL.nil ?_
      refine WE.then_n ?_
      refine WC.cond_f rfl ?_
      refine WC.skip ?_
      refine WE.block_n ?_
      refine WE.then_n ?_
      refine WC.region ?_
      refine WL.val (v_add rfl rfl rfl (w_i64 (by omega) (by omega))) (.none rfl) rfl rfl ?_
      refine WL.val (v_move rfl rfl) (.none rfl) rfl rfl ?_
      refine WL.nil ?_
      exact WE.next (k + 1) (by omega) ⟨by omega, by show (if _ then _ else _) = _; rw [if_neg (by omega)]; exact Classical.not_not.1 h18⟩ (.int rfl (by omega) (.cons rfl (.cons rfl .nil))) (.refl _)
  · -- 8F
    refine WL.nil ?_
    refine WE.then_n ?_
    refine WC.seq ?_
    refine WC.cond_f rfl ?_
    refine WC.exit ?_
    refine WE.then_exit ?_
    refine WE.then_exit ?_
    refine WE.block_hit ?_
    refine WE.then_n ?_
    refine WC.seq ?_
    refine WC.region ?_
    refine WL.val (v_assign rfl rfl) (.none rfl) rfl rfl ?_
    refine WL.nil ?_
    refine WE.then_n ?_
    refine WC.ret ?_
    refine WE.ret1 (P := Tryd.prog) (.inl rfl) Tryd.results58 rfl ?_
    obtain rfl : k = 9 := (by omega)
    exact fun w' h => ⟨by rw [h0], h.frm⟩
end Go.Proofs.YtodaanhhnjkncaaDoor
/- The engine: a region that draws its order, where one allocation may come up at any place among what only reads. -/
namespace Go.Proofs.YtodaanhhnjkncaaDoor
open Go.RowKit

section
variable {P : Program} {ops : Array Oper} {md : Region.Mode} {I : World → Prop} {R : World → World → Prop}

/-- One value in every world of the class; R: the world got and the world handed back. -/
def YieldsR (P : Program) (ops : Array Oper) (I : World → Prop) (R : World → World → Prop) (o : Oper) (v : Value) (a : Act) : Prop :=
  (Region.wanted o (yielded ops a.tmps) = true ∧ ∀ w, I w → o.quietAt P a (R w) w v) ∨ (Region.wanted o (yielded ops a.tmps) = false ∧ v = undef)
theorem YieldsR.of_same {o : Oper} {v : Value} {a a' : Act} (hy : YieldsR P ops I R o v a) (he : execOp a'.eval o = execOp a.eval o)
    (hw : Region.wanted o (yielded ops a'.tmps) = Region.wanted o (yielded ops a.tmps)) : YieldsR P ops I R o v a' := by
  unfold YieldsR Oper.quietAt at *
  rw [he, hw]
  exact hy
def Yv (P : Program) (ops : Array Oper) (I : World → Prop) (R : World → World → Prop) (ps : List Nat) (i : Nat) (o : Oper) (v : Value) (a : Act) : Prop :=
  if i ∈ ps then Yields P ops o v a else YieldsR P ops I R o v a
theorem Yv.put {ps : List Nat} {i : Nat} {o : Oper} {v u : Value} {a : Act} {dst : Option Tmp} (hs : ∀ cs b, o.op ≠ .select cs b) (hd : ∀ d, dst = some d → d ∉ o.looksAt ops) :
    Yv P ops I R ps i o v (a.put dst u) ↔ Yv P ops I R ps i o v a := by
  have e1 := execOp_put o hs a dst u hd
  have e2 := wanted_put (ops := ops) o a dst u hd
  unfold Yv
  split
  · exact ⟨fun h => h.of_same e1.symm e2.symm, fun h => h.of_same e1 e2⟩
  · exact ⟨fun h => h.of_same e1.symm e2.symm, fun h => h.of_same e1 e2⟩
theorem wpOp_of_Yv {ps : List Nat} {i : Nat} {o : Oper} {v : Value} {a : Act} {w : World} {K : Act → World → Prop} {Q : Exit → Act → World → Prop} (ho : ops[i]? = some o) (hy : Yv P ops I R ps i o v a) (hI : I w)
    (hK : ∀ w', w' = w ∨ R w w' → K (a.put o.dst v) w') : wpOp P ops Q i K a w := by
  unfold Yv at hy
  split at hy
  · exact hy.wpOp ho (hK w (.inl rfl))
  · unfold wpOp
    simp only [ho]
    rcases hy with ⟨hw, hv⟩ | ⟨hw, rfl⟩
    · simp only [hw, if_true]
      refine .inl ?_
      have h3 := hv w hI
      unfold Oper.quietAt at h3
      unfold Oper.wp
      generalize (execOp a.eval o).run P w = r at *
      cases r with
      | ok n w' =>
        cases n <;> simp only [Oper.quietUpon] at h3 <;> simp only [Oper.upon]
        case value u =>
          obtain ⟨e1, e2⟩ := h3
          rw [e1, e2]
          exact hK _ (.inl rfl)
        case skip =>
          obtain ⟨e1, e2⟩ := h3
          rw [e1, ← e2]
          exact hK _ (.inl rfl)
        case enter f args =>
          obtain ⟨e1, hc⟩ := h3
          rw [e1]
          exact hc.mono fun e w'' ⟨he, hw''⟩ => by subst he; exact hK _ (.inr hw'')
      | halt x w' => simp only [Oper.quietUpon] at h3
    · simp only [hw, Bool.false_eq_true, if_false]; exact hK w (.inl rfl)

def HeadM (P : Program) (md : Region.Mode) (ops : Array Oper) (I : World → Prop) (R : World → World → Prop) (hs ps : List Nat) (Lq : Array Bool → Act → Prop) : Nat → Array Bool → Act → Prop
  | 0, listed, a => Lq listed a
  | f + 1, listed, a => (∃ i ∈ Region.ready md ops listed, i ∈ hs) ∧ ∀ i ∈ Region.ready md ops listed, i ∈ hs → ∃ o v, ops[i]? = some o ∧ Yv P ops I R ps i o v a ∧ HeadM P md ops I R hs ps Lq f (listed.setIfInBounds i true) (a.put o.dst v)
theorem HeadM_first {hs ps : List Nat} {i : Nat} {oi : Oper} {v : Value} {Lq : Array Bool → Act → Prop} (hi : ops[i]? = some oi) (hsel : ∀ (j : Nat) (o : Oper) cs b, ops[j]? = some o → o.op ≠ .select cs b)
    (hh : i ∈ hs) (hdone : ∀ listed a, Lq listed a → ∀ j ∈ hs, listed.getD j false = true) :
    ∀ (f : Nat) (listed : Array Bool) (a : Act),
      (∀ j oj, ops[j]? = some oj → j ≠ i → listed.getD j true = false → (∀ e ∈ oj.after, Region.binds md e = true → e.on ≠ i) → oi.apart ops oj = true) →
      i ∈ Region.ready md ops listed → Yv P ops I R ps i oi v a →
      HeadM P md ops I R hs ps Lq f (listed.setIfInBounds i true) (a.put oi.dst v) → HeadM P md ops I R hs ps Lq (f + 1) listed a := by
  intro f
  induction f with
  | zero =>
    intro listed a _ hr hy H
    refine ⟨⟨i, hr, hh⟩, fun j hj hjh => ?_⟩
    by_cases hji : j = i
    · subst hji; exact ⟨oi, v, hi, hy, H⟩
    · have h1 := hdone _ _ H j hjh
      rw [getD_set_ne false (Ne.symm hji)] at h1
      have := getD_both (mem_ready.1 hj).1
      rw [h1] at this; cases this
  | succ f ih =>
    intro listed a hfree hr hy H
    have hun := getD_both (mem_ready.1 hr).1
    refine ⟨⟨i, hr, hh⟩, fun j hj hjh => ?_⟩
    by_cases hji : j = i
    · subst hji; exact ⟨oi, v, hi, hy, H⟩
    · obtain ⟨oj', u, hoj', hyj, Hj⟩ := H.2 j (ready_mono hj hji) hjh
      obtain ⟨hjun, oj, hoj, hall⟩ := mem_ready.1 hj
      obtain rfl : oj' = oj := Option.some.inj (hoj'.symm.trans hoj)
      have hnot : ∀ e ∈ oj'.after, Region.binds md e = true → e.on ≠ i := fun e he hb heq => by
        have h1 := hall e he hb
        rw [heq, hun] at h1
        cases h1
      obtain ⟨h1, h2, h3⟩ := Oper.apart_spec (hfree j oj' hoj hji hjun hnot)
      have hfree' : ∀ k ok, ops[k]? = some ok → k ≠ i → (listed.setIfInBounds j true).getD k true = false →
          (∀ e ∈ ok.after, Region.binds md e = true → e.on ≠ i) → oi.apart ops ok = true := fun k ok hk hki hun hno => by
        refine hfree k ok hk hki ?_ hno
        by_cases hjk : j = k
        · subst hjk; exact hjun
        · rw [getD_set_ne true hjk] at hun; exact hun
      refine ⟨oj', u, hoj, (Yv.put (fun cs b => hsel j oj' cs b hoj) h1).1 hyj, ih _ _ hfree' (ready_mono hr (Ne.symm hji)) ((Yv.put (fun cs b => hsel i oi cs b hi) h3).2 hy) ?_⟩
      rw [Array.setIfInBounds_comm _ _ hji, ← Act.put_comm a v u h2]
      exact Hj
theorem HeadM_over {hs ps : List Nat} {k d : Nat} {u : Value} {Lq Lq' : Array Bool → Act → Prop} (hsel : ∀ (j : Nat) (o : Oper) cs b, ops[j]? = some o → o.op ≠ .select cs b) (hk : k ∉ hs)
    (hno : ∀ i ∈ hs, ∀ o, ops[i]? = some o → d ∉ o.looksAt ops ∧ o.dst ≠ some d ∧ ∀ e ∈ o.after, Region.binds md e = true → e.on ≠ k)
    (hL : ∀ listed a, Lq listed a → Lq' (listed.setIfInBounds k true) (a.put (some d) u)) :
    ∀ (f : Nat) (listed : Array Bool) (a : Act), HeadM P md ops I R hs ps Lq f listed a → HeadM P md ops I R hs ps Lq' f (listed.setIfInBounds k true) (a.put (some d) u)
  | 0, listed, a, H => hL _ _ H
  | f + 1, listed, a, ⟨⟨i, hr, hh⟩, H⟩ => by
    refine ⟨⟨i, ready_mono hr (fun e => hk (e ▸ hh)), hh⟩, fun j hj hjh => ?_⟩
    have hjk : k ≠ j := fun e => hk (e ▸ hjh)
    have hj' : j ∈ Region.ready md ops listed := by
      obtain ⟨h1, o, ho, hall⟩ := mem_ready.1 hj
      refine mem_ready.2 ⟨by rw [getD_set_ne true hjk] at h1; exact h1, o, ho, fun e he hb => ?_⟩
      have := hall e he hb
      rw [getD_set_ne false (Ne.symm ((hno j hjh o ho).2.2 e he hb))] at this
      exact this
    obtain ⟨o, v, ho, hy, hn⟩ := H j hj' hjh
    obtain ⟨n1, n2, _⟩ := hno j hjh o ho
    refine ⟨o, v, ho, (Yv.put (fun cs b => hsel j o cs b ho) (fun d' e => by cases e; exact n1)).2 hy, ?_⟩
    have := HeadM_over hsel hk hno hL f _ _ hn
    rw [Array.setIfInBounds_comm _ _ hjk, Act.put_comm a (x := some d) (y := o.dst) u v (fun d' e => by cases e; exact n2)]
    exact this

theorem Has.put_nil {n : Nat} {a : Act} (h : Has n a []) (dst : Option Nat) (v : Value) : Has n (a.put dst v) [] := by
  cases dst with
  | none => exact h
  | some d => exact ⟨by simp [Act.put, h.size], h.defers, fun t v hv => by cases hv⟩

/-! ### The checks -/
def sinkOne (md : Region.Mode) (ops : Array Oper) (hs : List Nat) (k : Nat) (listed : Array Bool) : Bool :=
  (List.range ops.size).all fun t => listed.getD t false || hs.contains t || t == k || waitsB md ops k ops.size t
def sinkHead (md : Region.Mode) (ops : Array Oper) (hs hs1 : List Nat) (listed : Array Bool) : Bool :=
  (List.range ops.size).all fun t => listed.getD t false || hs.contains t || hs1.all fun h => waitsB md ops h ops.size t
def overB (md : Region.Mode) (ops : Array Oper) (hs : List Nat) (k d : Nat) : Bool :=
  hs.all fun i => i != k && match ops[i]? with
    | some o => !(o.looksAt ops).contains d && o.dst != some d && o.after.all fun e => !Region.binds md e || e.on != k
    | none => true
theorem overB_spec {hs : List Nat} {k d : Nat} (h : overB md ops hs k d = true) : k ∉ hs ∧ ∀ i ∈ hs, ∀ o, ops[i]? = some o → d ∉ o.looksAt ops ∧ o.dst ≠ some d ∧ ∀ e ∈ o.after, Region.binds md e = true → e.on ≠ k := by
  have h1 := List.all_eq_true.1 h
  refine ⟨fun hk => ?_, fun i hi o ho => ?_⟩
  · have := h1 k hk
    simp at this
  · have := h1 i hi
    simp only [ho, Bool.and_eq_true, Bool.not_eq_true', bne_iff_ne, ne_eq] at this
    refine ⟨by simpa using this.2.1.1, this.2.1.2, fun e he hb => ?_⟩
    have h2 := Array.all_eq_true'.1 this.2.2 e he
    rw [hb] at h2
    simpa using h2
/-- What is pure may be taken ahead of all but what waits for it, when these are done. -/
def freeB (md : Region.Mode) (ops : Array Oper) (hs1 ps : List Nat) (listed : Array Bool) : Bool :=
  ps.all fun i => match ops[i]? with
    | some oi => (List.range ops.size).all fun j => j == i || listed.getD j false || hs1.contains j || match ops[j]? with
      | some oj => (oj.after.any fun e => Region.binds md e && e.on == i) || oi.apart ops oj
      | none => true
    | none => true

/-! ### The allocation is done -/
theorem any_of_B {hs1 ps : List Nat} {listed1 : Array Bool} {D : World → Prop} {g : Nat} {Q : Exit → Act → World → Prop} {Lq : Array Bool → Act → Prop} (hsel : Region.noSelect ops = true) (hDI : ∀ w, D w → I w) (hDR : ∀ w w', D w → R w w' → D w')
    (hsk : sinkHead md ops (hs1 ++ ps) hs1 listed1 = true) (hfr : freeB md ops hs1 ps listed1 = true)
    (hfin : ∀ listed a w, Inv md ops (hs1 ++ ps) listed1 listed → (∀ j, listed1.getD j false = true → listed.getD j false = true) → Lq listed a → D w → wpAny P md ops (NP Q) g listed a w) :
    ∀ (f : Nat) (listed : Array Bool) (a : Act) (w : World), Inv md ops (hs1 ++ ps) listed1 listed → (∀ j, listed1.getD j false = true → listed.getD j false = true) → D w → HeadM P md ops I R (hs1 ++ ps) ps Lq f listed a → wpAny P md ops (NP Q) (f + g) listed a w
  | 0, listed, a, w, inv, hm, hD, H => by rw [Nat.zero_add]; exact hfin _ _ _ inv hm H hD
  | f + 1, listed, a, w, inv, hm, hD, ⟨⟨i0, hr0, hh0⟩, H⟩ => by
    rw [show f + 1 + g = (f + g) + 1 by omega]
    by_cases hun : ∃ h ∈ hs1, listed.getD h false = false
    · obtain ⟨h, hh1, hun⟩ := hun
      refine ⟨fun h0 => (by rw [h0] at hr0; cases hr0), fun i hi => ?_⟩
      have hih : i ∈ hs1 ++ ps := by
        obtain ⟨hju, oj, hoj, _⟩ := mem_ready.1 hi
        have hlt := (Array.getElem?_eq_some_iff.1 hoj).1
        have h1 := List.all_eq_true.1 hsk i (List.mem_range.2 hlt)
        simp only [Bool.or_eq_true] at h1
        rcases h1 with (h1 | h1) | h1
        · have := hm i h1
          rw [getD_both hju] at this; cases this
        · simpa using h1
        · exact absurd hi (waits_spec inv.closed hun _ _ (List.all_eq_true.1 h1 h hh1)).2
      obtain ⟨o, v, ho, hy, hn⟩ := H i hi hih
      refine wpOp_of_Yv ho hy (hDI w hD) fun w' hw' => any_of_B hsel hDI hDR hsk hfr hfin f _ _ w' (inv.set hi hih) (fun j hj => getD_set_true (hm j hj)) ?_ hn
      rcases hw' with rfl | hw'
      · exact hD
      · exact hDR _ _ hD hw'
    · have hall : ∀ h ∈ hs1, listed.getD h false = true := fun h hh => by
        cases e : listed.getD h false with
        | true => rfl
        | false => exact absurd ⟨h, hh, e⟩ hun
      have hu0 := getD_both (mem_ready.1 hr0).1
      have hp : i0 ∈ ps := by
        rcases List.mem_append.1 hh0 with h | h
        · rw [hall i0 h] at hu0; cases hu0
        · exact h
      obtain ⟨o, v, ho, hy, hn⟩ := H i0 hr0 hh0
      unfold Yv at hy
      rw [if_pos hp] at hy
      refine wpAny_first ho (Region.noSelect_spec hsel) (fun c a w hh => hh) (f + g) listed a w ?_ hr0 hy (any_of_B hsel hDI hDR hsk hfr hfin f _ _ w (inv.set hr0 hh0) (fun j hj => getD_set_true (hm j hj)) hD hn)
      intro j oj hoj hji hju hno
      have hlt := (Array.getElem?_eq_some_iff.1 hoj).1
      have h1 := List.all_eq_true.1 hfr i0 hp
      simp only [ho] at h1
      have h2 := List.all_eq_true.1 h1 j (List.mem_range.2 hlt)
      simp only [hoj, Bool.or_eq_true, beq_iff_eq] at h2
      rcases h2 with ((h2 | h2) | h2) | h2
      · exact absurd h2 hji
      · have := hm j h2
        rw [getD_both hju] at this; cases this
      · have := hall j (by simpa using h2)
        rw [getD_both hju] at this; cases this
      · rcases h2 with h2 | h2
        · obtain ⟨e, he, hb⟩ := Array.any_eq_true'.1 h2
          simp only [Bool.and_eq_true, beq_iff_eq] at hb
          exact absurd hb.2 (hno e he hb.1)
        · exact h2
/-! ### The allocation is still to come -/
theorem any_of_A {hs1 ps : List Nat} {k d n : Nat} {ok : Oper} {listed0 : Array Bool} {D : Nat → World → Prop} {g : Nat} {Q : Exit → Act → World → Prop} {Lq : Array Bool → Act → Prop} {Lq' : Nat → Array Bool → Act → Prop}
    (hsel : Region.noSelect ops = true) (hsz0 : listed0.size = ops.size) (hI : ∀ w w', I w → R w w' → I w') (hDI : ∀ x w, D x w → I w) (hDR : ∀ x w w', D x w → R w w' → D x w')
    (hok : ops[k]? = some ok) (hov : overB md ops (hs1 ++ ps) k d = true) (hsa : sinkOne md ops (hs1 ++ ps) k listed0 = true)
    (hsk : sinkHead md ops (hs1 ++ ps) hs1 (listed0.setIfInBounds k true) = true) (hfr : freeB md ops hs1 ps (listed0.setIfInBounds k true) = true)
    (hal : ∀ (a : Act) (w : World) (K : Act → World → Prop), Has n a [] → I w → (∀ x w1, D x w1 → K (a.put (some d) (.pointer (some ⟨x, 0, none⟩))) w1) → wpOp P ops (NP Q) k K a w)
    (hdone : ∀ listed a, Lq listed a → ∀ j ∈ hs1 ++ ps, listed.getD j false = true)
    (hL : ∀ x listed a, Lq listed a → Lq' x (listed.setIfInBounds k true) (a.put (some d) (.pointer (some ⟨x, 0, none⟩))))
    (hfin : ∀ x listed a w, Inv md ops (hs1 ++ ps) (listed0.setIfInBounds k true) listed → (∀ j, (listed0.setIfInBounds k true).getD j false = true → listed.getD j false = true) → Lq' x listed a → D x w → wpAny P md ops (NP Q) g listed a w) :
    ∀ (f : Nat) (listed : Array Bool) (a : Act) (w : World), Inv md ops (hs1 ++ ps) listed0 listed → (∀ j, listed0.getD j false = true → listed.getD j false = true) → k ∈ Region.ready md ops listed → Has n a [] → I w → HeadM P md ops I R (hs1 ++ ps) ps Lq f listed a → wpAny P md ops (NP Q) (f + 1 + g) listed a w := by
  obtain ⟨hk, hno⟩ := overB_spec hov
  have only : ∀ listed : Array Bool, Inv md ops (hs1 ++ ps) listed0 listed → (∀ j, listed0.getD j false = true → listed.getD j false = true) → k ∈ Region.ready md ops listed → ∀ i ∈ Region.ready md ops listed, i ∈ hs1 ++ ps ∨ i = k := fun listed inv hm hkr i hi => by
    obtain ⟨hju, oj, hoj, _⟩ := mem_ready.1 hi
    have hlt := (Array.getElem?_eq_some_iff.1 hoj).1
    have h1 := List.all_eq_true.1 hsa i (List.mem_range.2 hlt)
    simp only [Bool.or_eq_true, beq_iff_eq] at h1
    rcases h1 with ((h1 | h1) | h1) | h1
    · have := hm i h1
      rw [getD_both hju] at this; cases this
    · exact .inl (by simpa using h1)
    · exact .inr h1
    · exact absurd hi (waits_spec inv.closed (getD_both (mem_ready.1 hkr).1) _ _ h1).2
  have inv1 : ∀ listed : Array Bool, Inv md ops (hs1 ++ ps) listed0 listed → k ∈ Region.ready md ops listed → (∀ j, listed0.getD j false = true → listed.getD j false = true) → Inv md ops (hs1 ++ ps) (listed0.setIfInBounds k true) (listed.setIfInBounds k true) ∧ (∀ j, (listed0.setIfInBounds k true).getD j false = true → (listed.setIfInBounds k true).getD j false = true) := fun listed inv hkr hm => by
    have hlt : k < listed.size := by
      have := (mem_ready.1 hkr).1
      rcases Nat.lt_or_ge k listed.size with h' | h'
      · exact h'
      · simp [Array.getElem?_eq_none h'] at this
    have hlt0 : k < listed0.size := by rw [hsz0, ← inv.size]; exact hlt
    have hset : ∀ j, (listed0.setIfInBounds k true).getD j false = true → (listed.setIfInBounds k true).getD j false = true := fun j hj => by
      by_cases hjk : k = j
      · subst hjk; simp [hlt]
      · rw [getD_set_ne false hjk] at hj ⊢; exact hm j hj
    refine ⟨⟨inv.closed.set hkr, fun j hj => ?_, by simp [inv.size]⟩, hset⟩
    by_cases hjk : k = j
    · subst hjk; exact .inl (by simp [hlt0])
    · rw [getD_set_ne false hjk] at hj
      rcases inv.only j hj with h2 | h2
      · exact .inl (getD_set_true h2)
      · exact .inr h2
  intro f
  induction f with
  | zero =>
    intro listed a w inv hm hkr ha hI' H
    rw [show 0 + 1 + g = g + 1 by omega]
    refine ⟨fun h0 => (by rw [h0] at hkr; cases hkr), fun i hi => ?_⟩
    rcases only listed inv hm hkr i hi with h | rfl
    · have h1 := hdone _ _ H i h
      have := getD_both (mem_ready.1 hi).1
      rw [h1] at this; cases this
    · exact hal a w _ ha hI' fun x w1 hD => hfin x _ _ _ (inv1 listed inv hkr hm).1 (inv1 listed inv hkr hm).2 (hL x _ _ H) hD
  | succ f ih =>
    intro listed a w inv hm hkr ha hI' H
    rw [show f + 1 + 1 + g = (f + 1 + g) + 1 by omega]
    refine ⟨fun h0 => (by rw [h0] at hkr; cases hkr), fun i hi => ?_⟩
    rcases only listed inv hm hkr i hi with h | rfl
    · obtain ⟨o, v, ho, hy, hn⟩ := H.2 i hi h
      refine wpOp_of_Yv ho hy hI' fun w' hw' => ih _ _ w' (inv.set hi h) (fun j hj => getD_set_true (hm j hj)) (ready_mono hkr (fun e => hk (e ▸ h))) (ha.put_nil _ _) ?_ hn
      rcases hw' with rfl | hw'
      · exact hI'
      · exact hI _ _ hI' hw'
    · refine hal a w _ ha hI' fun x w1 hD => ?_
      exact any_of_B hsel (hDI x) (hDR x) hsk hfr (hfin x) (f + 1) _ _ w1 (inv1 listed inv hkr hm).1 (inv1 listed inv hkr hm).2 hD (HeadM_over (Region.noSelect_spec hsel) hk hno (fun l a h => hL x l a h) (f + 1) _ _ H)

/-! ### From a list, and the steps -/
def mixL (P : Program) (I : World → Prop) (R : World → World → Prop) (ps : List Nat) (os : List Oper) (K : Act → Prop) : List Nat → Act → Prop
  | [], a => K a
  | i :: is, a => ∃ v, Yv P os.toArray I R ps i (at_ os i) v a ∧ mixL P I R ps os K is (a.put (at_ os i).dst v)
theorem mixL_append {ps : List Nat} {os : List Oper} {K : Act → Prop} {js2 : List Nat} : ∀ (js1 : List Nat) (a : Act), mixL P I R ps os (mixL P I R ps os K js2) js1 a → mixL P I R ps os K (js1 ++ js2) a
  | [], _, h => h
  | _ :: is, _, ⟨v, hy, h⟩ => ⟨v, hy, mixL_append is _ h⟩
theorem HeadM_list {os : List Oper} {hs ps : List Nat} {K : Act → Prop} (hsel : Region.noSelect os.toArray = true) :
    ∀ (js : List Nat) (listed : Array Bool) (a : Act), (∀ j ∈ js, j ∈ hs) → (∀ j ∈ hs, j ∈ js ∨ listed.getD j false = true) → takesB .any os.toArray js listed = true → mixL P I R ps os K js a →
    HeadM P .any os.toArray I R hs ps (fun listed' a' => (∀ j ∈ hs, listed'.getD j false = true) ∧ K a') js.length listed a
  | [], listed, a, _, hd, _, h => ⟨fun j hj => (hd j hj).resolve_left (by simp), h⟩
  | i :: is, listed, a, hj, hd, hB, h => by
    simp only [takesB, Bool.and_eq_true] at hB
    obtain ⟨⟨hr, hf⟩, hB'⟩ := hB
    have hr' : i ∈ Region.ready .any os.toArray listed := by simpa using hr
    have h0 := at_some hr'
    obtain ⟨v, hy, hK⟩ := h
    refine HeadM_first h0 (Region.noSelect_spec hsel) (hj i (by simp)) (fun _ _ h j hj => h.1 j hj) is.length listed a (Region.free_spec h0 hf) hr' hy ?_
    exact HeadM_list hsel is _ _ (fun j h => hj j (by simp [h])) (fun j h => by
      rcases hd j h with h1 | h1
      · rcases List.mem_cons.1 h1 with rfl | h1
        · right
          have hlt : j < listed.size := by
            have := (mem_ready.1 hr').1
            rcases Nat.lt_or_ge j listed.size with h' | h'
            · exact h'
            · simp [Array.getElem?_eq_none h'] at this
          simp [hlt]
        · exact .inl h1
      · exact .inr (getD_set_true h1)) hB' hK
def rqList (P : Program) (ops : Array Oper) (I : World → Prop) (R : World → World → Prop) (K : Act → Prop) : List Oper → Act → Prop
  | [], a => K a
  | o :: rest, a => ∃ v, YieldsR P ops I R o v a ∧ rqList P ops I R K rest (a.put o.dst v)
theorem mixL_reads {ps : List Nat} {os : List Oper} {K : Act → Prop} : ∀ (js : List Nat) (a : Act), (js.all fun j => !ps.contains j) = true → rqList P os.toArray I R K (js.map (at_ os)) a → mixL P I R ps os K js a
  | [], _, _, h => h
  | i :: is, a, hn, ⟨v, hy, h⟩ => by
    simp only [List.all_cons, Bool.and_eq_true, Bool.not_eq_true'] at hn
    have hi : i ∉ ps := by simpa using hn.1
    exact ⟨v, by unfold Yv; rw [if_neg hi]; exact hy, mixL_reads is _ hn.2 h⟩
theorem mixL_pure {ps : List Nat} {os : List Oper} {K : Act → Prop} : ∀ (js : List Nat) (a : Act), (∀ j ∈ js, j ∈ ps) → wpPure P os.toArray K (js.map (at_ os)) a → mixL P I R ps os K js a
  | [], _, _, h => h
  | i :: is, a, hn, ⟨v, hy, h⟩ => ⟨v, by unfold Yv; rw [if_pos (hn i (by simp))]; exact hy, mixL_pure is _ (fun j hj => hn j (by simp [hj])) h⟩
theorem mixL_mono {ps : List Nat} {os : List Oper} {K K' : Act → Prop} (hK : ∀ a, K a → K' a) : ∀ (js : List Nat) (a : Act), mixL P I R ps os K js a → mixL P I R ps os K' js a
  | [], _, h => hK _ h
  | _ :: is, _, ⟨v, hy, h⟩ => ⟨v, hy, mixL_mono hK is _ h⟩

variable {Q : Exit → Act → World → Prop} {n : Nat} {p : Nat → Prop} {w0 : World} {o : Oper} {rest os : List Oper} {l : Kn} {L : List Ent} {K : Act → Prop}
/-- The reads of such a region. -/
def WM (P : Program) (ops : Array Oper) (K : Act → Prop) (n : Nat) (p : Nat → Prop) (w0 : World) (rest : List Oper) (l : Kn) (L : List Ent) : Prop :=
  ∀ a, Has n a l → rqList P ops (fun w => St p w0 w L) (Frm (fun _ => False)) K rest a
theorem WM.val {d : Nat} {v : Value} (hv : Val P (fun w => St p w0 w L) n l o v) (hg : On ops o l) (hd : o.dst = some d) (hn : Nat.blt d n = true)
    (h : WM P ops K n p w0 rest ((d, v) :: l) L) : WM P ops K n p w0 (o :: rest) l L := fun a ha =>
  ⟨v, .inl ⟨hg.ok ha, fun w hS => by unfold Oper.quietAt; rw [hv a w ha hS]; exact ⟨rfl, rfl⟩⟩, h _ (ha.put_any hd hn v)⟩
theorem WM.test {q : Prop} [Decidable q] {d : Nat} (hv : Val P (fun w => St p w0 w L) n l o (.bool (decide q))) (hg : On ops o l) (hd : o.dst = some d) (hn : Nat.blt d n = true)
    (ht : q → WM P ops K n p w0 rest ((d, .bool true) :: l) L) (hf : ¬ q → WM P ops K n p w0 rest ((d, .bool false) :: l) L) : WM P ops K n p w0 (o :: rest) l L := by
  by_cases hq : q
  · exact WM.val hv hg hd hn (by rw [decide_eq_true hq]; exact ht hq)
  · exact WM.val hv hg hd hn (by rw [decide_eq_false hq]; exact hf hq)
theorem WM.skip {j dj d : Nat} {b : Bool} {v : Value} (hg : o.guard = some (j, b)) (hj : (ops[j]?).bind (·.dst) = some dj) (hl : look l dj = some v) (hv : isB v b = false) (hd : o.dst = some d) (hn : Nat.blt d n = true)
    (h : WM P ops K n p w0 rest ((d, undef) :: l) L) : WM P ops K n p w0 (o :: rest) l L := fun a ha =>
  ⟨undef, .inr ⟨by rw [wanted_not hg hj ha hl hv], rfl⟩, h _ (ha.put_any hd hn _)⟩
theorem WM.callV {f : FuncId} {x : Operand} {xs : List Operand} {ts : Array TypeId} {vs : List Value} {fi cap : Array Value} {d : Nat} (v : Value) (ho : o.op = .call { callee := .value x, args := xs.toArray, argTypes := ts })
    (hfv : ev l x = some (.func (.func f) fi cap)) (hx : evs l xs = some vs) (hf : callOk P f) (hg : On ops o l) (hd : o.dst = some d) (hn : Nat.blt d n = true)
    (hc : ∀ w, St p w0 w L → Calls P f (fi ++ vs.toArray ++ cap) w fun e w' => e = .returned v ∧ Frm (fun _ => False) w w') (h : WM P ops K n p w0 rest ((d, v) :: l) L) : WM P ops K n p w0 (o :: rest) l L := fun a ha =>
  ⟨v, .inl ⟨hg.ok ha, fun w hS => by unfold Oper.quietAt; rw [run_call ho hfv hx hf ha]; exact ⟨rfl, hc w hS⟩⟩, h _ (ha.put_any hd hn v)⟩
theorem WM.call {f : FuncId} {xs : List Operand} {ts : Array TypeId} {vs : List Value} {d : Nat} (v : Value) (ho : o.op = .call { callee := .value (.func f), args := xs.toArray, argTypes := ts })
    (hx : evs l xs = some vs) (hf : callOk P f) (hg : On ops o l) (hd : o.dst = some d) (hn : Nat.blt d n = true)
    (hc : ∀ w, St p w0 w L → Calls P f vs.toArray w fun e w' => e = .returned v ∧ Frm (fun _ => False) w w') (h : WM P ops K n p w0 rest ((d, v) :: l) L) : WM P ops K n p w0 (o :: rest) l L :=
  WM.callV (l := l) v ho rfl hx hf hg hd hn (fun w hS => by simpa using hc w hS) h
theorem WM.nil {K' : Act → World → Prop} (h : WP P ops K' n p w0 rest l L) : WM P ops (wpPure P ops (fun a' => ∀ w, St p w0 w L → K' a' w) rest) n p w0 [] l L := h
/-- What is known when all that is done, the allocation apart. -/
def KM (P : Program) (os : List Oper) (Q : Exit → Act → World → Prop) (n : Nat) (p : Nat → Prop) (w0 : World) (g d : Nat) (zs : List Value) (listed : Array Bool) (L : List Ent) (a : Act) : Prop :=
  ∃ l', Has n a l' ∧ ∀ x, w0.heap.size ≤ x → WR P os Q n p w0 g listed ((d, .pointer (some ⟨x, 0, none⟩)) :: l') (.row x zs :: L)
theorem WP.nilM {g d : Nat} {zs : List Value} {listed : Array Bool} (h : ∀ x, w0.heap.size ≤ x → WR P os Q n p w0 g listed ((d, .pointer (some ⟨x, 0, none⟩)) :: l) (.row x zs :: L)) :
    WP P os.toArray (fun a _ => KM P os Q n p w0 g d zs listed L a) n p w0 [] l L := fun _ ha _ _ => ⟨l, ha, h⟩
def mixB (os : List Oper) (k d : Nat) (js ps : List Nat) (listed : Array Bool) : Bool :=
  Region.noSelect os.toArray && closedB .any os.toArray listed && takesB .any os.toArray (js ++ ps) listed && (Region.ready .any os.toArray listed).contains k && overB .any os.toArray (js ++ ps) k d &&
  sinkOne .any os.toArray (js ++ ps) k listed && sinkHead .any os.toArray (js ++ ps) js (listed.setIfInBounds k true) && freeB .any os.toArray js ps (listed.setIfInBounds k true) && js.all fun j => !ps.contains j
theorem WR.mix {ty d g : Nat} {zs : List Value} {listed : Array Bool} (k : Nat) (js ps : List Nat) (ho : (at_ os k).op = .alloc ty) (hz : Zero P ty zs) (hg : (at_ os k).guard = none) (hd : (at_ os k).dst = some d) (hn : Nat.blt d n = true)
    (hsz : listed.size = os.length) (hB : mixB os k d js ps listed = true)
    (h : WM P os.toArray (wpPure P os.toArray (fun a' => ∀ w, St p w0 w L → KM P os Q n p w0 g d zs (marks (listed.setIfInBounds k true) (js ++ ps)) L a') (ps.map (at_ os))) n p w0 (js.map (at_ os)) l L) :
    WR P os Q n p w0 ((js ++ ps).length + 1 + g) listed l L := fun a w ha hS => by
  simp only [mixB, Bool.and_eq_true] at hB
  obtain ⟨⟨⟨⟨⟨⟨⟨⟨hsel, hcl⟩, htk⟩, hkr⟩, hov⟩, hsa⟩, hsk⟩, hfr⟩, hps⟩ := hB
  have hsz' : listed.size = os.toArray.size := by simpa using hsz
  have hkr' : k ∈ Region.ready .any os.toArray listed := by simpa using hkr
  have hko := at_some hkr'
  have H0 : mixL P (fun w => St p w0 w L) (Frm (fun _ => False)) ps os (fun a' => KM P os Q n p w0 g d zs (marks (listed.setIfInBounds k true) (js ++ ps)) L a') (js ++ ps) a := by
    refine mixL_append js a (mixL_reads js a hps ?_)
    have h1 := h a ha
    have mono : ∀ (K1 K2 : Act → Prop) (hK : ∀ a, K1 a → K2 a) (r : List Oper) (a : Act), rqList P os.toArray (fun w => St p w0 w L) (Frm (fun _ => False)) K1 r a → rqList P os.toArray (fun w => St p w0 w L) (Frm (fun _ => False)) K2 r a := by
      intro K1 K2 hK r
      induction r with
      | nil => exact fun a h => hK a h
      | cons o r ih => exact fun a ⟨v, hy, h⟩ => ⟨v, hy, ih _ h⟩
    exact mono _ _ (fun a h => mixL_mono (fun a h => h w hS) ps a (mixL_pure ps a (fun _ h => h) h)) _ _ h1
  have H := HeadM_list (P := P) hsel (js ++ ps) listed a (fun _ h => h) (fun _ h => .inl h) htk H0
  refine any_of_A (D := fun x w => St p w0 w (.row x zs :: L) ∧ w0.heap.size ≤ x) (Lq' := fun x listed' a' => (∀ j ∈ js ++ ps, listed'.getD j false = true) ∧ ∃ l', Has n a' ((d, .pointer (some ⟨x, 0, none⟩)) :: l') ∧ ∀ x, w0.heap.size ≤ x → WR P os Q n p w0 g (marks (listed.setIfInBounds k true) (js ++ ps)) ((d, .pointer (some ⟨x, 0, none⟩)) :: l') (.row x zs :: L))
    hsel hsz' (fun w w' h1 h2 => h1.ext h2) (fun x w h => h.1.tail) (fun x w w' h1 h2 => ⟨h1.1.ext h2, h1.2⟩) hko hov hsa hsk hfr ?_ (fun _ _ h => h.1) ?_ ?_ (js ++ ps).length listed a w ⟨closedB_spec hcl, fun _ h => .inl h, hsz'⟩ (fun _ h => h) hkr' (ha.sub Sub.nil) hS H
  · intro a w K ha hS hK
    unfold wpOp
    simp only [hko]
    rw [if_pos (by simp [Region.wanted, hg])]
    refine .inl ?_
    have hz' := hz
    obtain ⟨z, hz, rfl⟩ := hz
    unfold Oper.wp
    have e : (execOp a.eval (at_ os k)).run P w = .ok (.value (.pointer (some ⟨w.heap.size, 0, none⟩))) (w.alloc (.cells z.cells.toList.toArray ty)) := by
      unfold execOp
      simp [ho, Instr.alloc, run_zeroValue hz, newVar, newRow, newObj, Sem.run]
    rw [e]
    simp only [Oper.upon, hd]
    exact hK _ _ ⟨St.new (T := ty) hS, hS.frm.size⟩
  · rintro x listed' a' ⟨h1, l', hl', h2⟩
    exact ⟨fun j hj => getD_set_true (h1 j hj), l', hl'.put hn _, h2⟩
  · rintro x listed' a' w' inv hm ⟨h1, l', hl', h2⟩ ⟨hS', hx⟩
    have e : listed' = marks (listed.setIfInBounds k true) (js ++ ps) := marks_eq (fun j => by
      constructor
      · intro hj
        rcases inv.only j hj with h2 | h2
        · exact .inl h2
        · refine .inr ⟨h2, ?_⟩
          rcases Nat.lt_or_ge j listed'.size with h' | h'
          · rw [inv.size, ← hsz'] at h'; simpa using h'
          · simp [Array.getElem?_eq_none h'] at hj
      · rintro (h2 | ⟨h2, _⟩)
        · exact hm j h2
        · exact h1 j h2) (by rw [inv.size, ← hsz']; simp)
    rw [e]
    exact h2 x hx a' w' hl' hS'
/-- Whatever comes up next, each alone. -/
def AllOf (K : Nat → Prop) : List Nat → Prop
  | [] => True
  | [i] => K i
  | i :: j :: is => K i ∧ AllOf K (j :: is)
theorem AllOf.get {K : Nat → Prop} : ∀ {rs : List Nat}, AllOf K rs → ∀ i ∈ rs, K i
  | [], _, i, h => by cases h
  | [j], h, i, hi => by rw [List.mem_singleton.1 hi]; exact h
  | j :: k :: is, h, i, hi => by
    rcases List.mem_cons.1 hi with rfl | hi
    · exact h.1
    · exact AllOf.get h.2 i hi
theorem WR.each {g : Nat} {listed : Array Bool} (rs : List Nat) (hr : Region.ready .any os.toArray listed = rs) (hne : rs ≠ [])
    (h : AllOf (fun i => WL P os.toArray (RQ (Rest P os Q g (listed.setIfInBounds i true)) (NP Q)) n p w0 [at_ os i] l L) rs) : WR P os Q n p w0 (g + 1) listed l L := fun a w ha hS => by
  refine wpAny_all hr hne fun i hi => ?_
  have ho := at_some (listed := listed) (i := i) (by rw [hr]; exact hi)
  have h' : wpList P os.toArray (RQ (Rest P os Q g (listed.setIfInBounds i true)) (NP Q)) [at_ os i] a w := h.get i hi a w ha hS
  unfold wpOp
  simp only [ho]
  unfold wpList at h'
  split
  · rename_i hwd
    rw [if_pos hwd] at h'
    exact (h'.imp wpRQ (fun h => ⟨h.1, RQ.out h.2⟩)).imp (Oper.wp_mono fun _ _ h => h) id
  · rename_i hwd
    rw [if_neg hwd] at h'
    exact h'
end
end Go.Proofs.YtodaanhhnjkncaaDoor
/- rules: acts. -/
namespace Go.Proofs.YtodaanhhnjkncaaDoor
open Go.RowKit

structure Ac where
  set : Int
  val : Nat → Int
/-- u64 cells. -/
def ucs (f : Nat → Int) (n : Nat) : List Value := (List.range n).map fun i => .int .u64 (f i)
theorem ucs_len (f : Nat → Int) (n : Nat) : (ucs f n).length = n := by simp [ucs]
theorem ucs_get (f : Nat → Int) {n i : Nat} (h : i < n) : (ucs f n)[i]? = some (.int .u64 (f i)) := by simp [ucs, h]
theorem ucs_set {f : Nat → Int} {n j : Nat} {x : Int} (h : j < n) : (ucs f n).set j (.int .u64 x) = ucs (fun i => if i = j then x else f i) n := by
  apply List.ext_getElem?
  intro i
  rw [List.getElem?_set, ucs_len]
  by_cases h1 : j = i
  · subst h1; rw [if_pos rfl, if_pos h, ucs_get _ h, if_pos rfl]
  · rw [if_neg h1]
    by_cases hi : i < n
    · rw [ucs_get _ hi, ucs_get _ hi, if_neg (by omega)]
    · rw [List.getElem?_eq_none (by rw [ucs_len]; omega), List.getElem?_eq_none (by rw [ucs_len]; omega)]
theorem ucs_congr {f g : Nat → Int} {n : Nat} (h : ∀ i, i < n → f i = g i) : ucs f n = ucs g n := by
  unfold ucs
  apply List.map_congr_left
  intro i hi
  rw [h i (List.mem_range.1 hi)]
def acL (a : Ac) : List Value := .int .i64 a.set :: ucs a.val 9
def acV (a : Ac) : Value := .agg (acL a).toArray
theorem acL_get (a : Ac) {k : Nat} (h : k < 9) : (acL a)[1 + k * 1]? = some (.int .u64 (a.val k)) := by
  rw [show 1 + k * 1 = k + 1 by omega]; exact ucs_get _ h
structure Ac.In (a : Ac) : Prop where
  set : -9223372036854775808 ≤ a.set ∧ a.set ≤ 9223372036854775807
  val : ∀ k, 0 ≤ a.val k ∧ a.val k ≤ 18446744073709551615
/-- The act sets the field. -/
def Ac.sets (a : Ac) (k : Nat) : Prop := a.set / 2 ^ k % 2 = 1
instance (a : Ac) (k : Nat) : Decidable (a.sets k) := by unfold Ac.sets; infer_instance
/-- The act is in its form. -/
def Ac.Ok (a : Ac) : Prop := (0 ≤ a.set ∧ a.set ≤ 511) ∧ ∀ k, k < 9 → a.val k ≤ fullI k ∧ (a.val k ≠ 0 → a.sets k)
instance (a : Ac) : Decidable a.Ok := by unfold Ac.Ok; infer_instance
theorem sets_c (w : World) (a : Ac) (k : Nat) (hk : k < 9) :
    Calls Tryd.prog 51 #[acV a, .int .i64 k] w fun e w' => e = .returned (.bool (decide (a.sets k))) ∧ Frm (fun _ => False) w w' := by
  refine enter Tryd.func51 rfl Tryd.ntmps51 rfl (St.start (fun _ => False) w) ?_
  refine WC.seq ?_
  refine WC.region ?_
  refine WL.box rfl rfl rfl (.none rfl) rfl rfl ?_
  intro g2 hg2
  refine WL.val (v_assign rfl rfl) (.none rfl) rfl rfl ?_
  refine WL.nil ?_
  refine WE.then_n ?_
  refine WC.seq ?_
  refine WC.region ?_
  refine WL.val (v_fieldAddr0 rfl rfl fld_25_0) (.none rfl) rfl rfl ?_
  refine WL.val (v_load1 rfl rfl one_3 (cellAt rfl)) (.none rfl) rfl rfl ?_
  refine WL.val (v_move rfl rfl) (.none rfl) rfl rfl ?_
  refine WL.val (v_shr (m := k) (c := (2 : Int) ^ k) rfl rfl rfl rfl (by show k ≤ 64; omega) rfl) (.none rfl) rfl rfl ?_
  refine WL.val (v_and rfl rfl rfl (mask_i64' (i := 1) (m := 2) (by decide) (by decide) (by decide))) (.none rfl) rfl rfl ?_
  refine WL.val (v_eql rfl rfl rfl) (.none rfl) rfl rfl ?_
  refine WL.val (v_assign rfl rfl) (.none rfl) rfl rfl ?_
  refine WL.nil ?_
  refine WE.then_n ?_
  refine WC.ret ?_
  refine WE.ret1 (P := Tryd.prog) (.inl rfl) Tryd.results51 rfl ?_
  exact fun w' h => ⟨rfl, h.frm⟩
theorem ACheck_c (w : World) (a : Ac) (hG : GW w) :
    Calls Tryd.prog 13 #[acV a] w fun e w' => e = .returned (.int .i64 (if a.Ok then 0 else 1)) ∧ Frm (fun _ => False) w w' := by
  refine enter Tryd.func13 rfl Tryd.ntmps13 rfl (St.start (fun _ => False) w) ?_
  refine WC.seq ?_
  refine WC.region ?_
  refine WL.box rfl rfl rfl (.none rfl) rfl rfl ?_
  intro g1 hg1
  refine WL.val (v_assign rfl rfl) (.none rfl) rfl rfl ?_
  refine WL.nil ?_
  refine WE.then_n ?_
  refine WC.seq ?_
  refine WC.seq ?_
  refine WC.region ?_
  refine WL.val (v_fieldAddr0 rfl rfl fld_25_0) (.none rfl) rfl rfl ?_
  refine WL.val (v_load1 rfl rfl one_3 (cellAt rfl)) (.none rfl) rfl rfl ?_
  refine WL.test (v_lss rfl rfl rfl) (.none rfl) rfl rfl (fun h6 => ?_) (fun h6 => ?_)
  · -- 6T
    refine WL.val (v_move rfl rfl) (.none rfl) rfl rfl ?_
    refine WL.skip rfl rfl rfl rfl rfl rfl ?_
    refine WL.skip rfl rfl rfl rfl rfl rfl ?_
    refine WL.skip rfl rfl rfl rfl rfl rfl ?_
    refine WL.val (v_pick_t rfl rfl rfl) (.none rfl) rfl rfl ?_
    refine WL.nil ?_
    refine WE.then_n ?_
    refine WC.cond_t rfl ?_
    refine WC.seq ?_
    refine WC.region ?_
    refine WL.val (v_assign rfl rfl) (.none rfl) rfl rfl ?_
    refine WL.nil ?_
    refine WE.then_n ?_
    refine WC.ret ?_
    refine WE.then_ret ?_
    refine WE.ret1 (P := Tryd.prog) (.inl rfl) Tryd.results13 rfl ?_
    exact fun w' h => ⟨by rw [if_neg (fun k => by have := k.1; omega)], h.frm⟩
  · -- 6F
    refine WL.val (v_move rfl rfl) (.none rfl) rfl rfl ?_
    refine WL.val (v_fieldAddr0 rfl rfl fld_25_0) (.some rfl rfl rfl) rfl rfl ?_
    refine WL.val (v_load1 rfl rfl one_3 (cellAt rfl)) (.some rfl rfl rfl) rfl rfl ?_
    refine WL.test (v_geq rfl rfl rfl) (.some rfl rfl rfl) rfl rfl (fun h10 => ?_) (fun h10 => ?_)
    · -- 10T
      refine WL.val (v_pick_f rfl rfl rfl) (.none rfl) rfl rfl ?_
      refine WL.nil ?_
      refine WE.then_n ?_
      refine WC.cond_t rfl ?_
      refine WC.seq ?_
      refine WC.region ?_
      refine WL.val (v_assign rfl rfl) (.none rfl) rfl rfl ?_
      refine WL.nil ?_
      refine WE.then_n ?_
      refine WC.ret ?_
      refine WE.then_ret ?_
      refine WE.ret1 (P := Tryd.prog) (.inl rfl) Tryd.results13 rfl ?_
      exact fun w' h => ⟨by rw [if_neg (fun k => by have := k.1; omega)], h.frm⟩
    · -- 10F
      refine WL.val (v_pick_f rfl rfl rfl) (.none rfl) rfl rfl ?_
      refine WL.nil ?_
      refine WE.then_n ?_
      refine WC.cond_f rfl ?_
      refine WC.skip ?_
      refine WE.then_n ?_
      refine WC.seq ?_
      refine WC.seq ?_
      refine WC.region ?_
      refine WL.val (v_move rfl rfl) (.none rfl) rfl rfl ?_
      refine WL.nil ?_
      refine WE.then_n ?_
      refine WC.block ?_
      refine WC.loop (fun k : Nat => [(12, .int .i64 k), (1, .pointer (some ⟨g1, 0, none⟩))]) (fun _ => [.row g1 (acL a)]) (fun k => k ≤ 9 ∧ ∀ j, j < k → a.val j ≤ fullI j ∧ (a.val j ≠ 0 → a.sets j)) (fun k => 9 - k) 0 ⟨Nat.zero_le _, fun j h => absurd h (by omega)⟩ (.cons rfl (.cons rfl .nil)) (.refl _) ?_
      rintro k ⟨hk, hok⟩
      refine WC.seq ?_
      refine WC.region ?_
      refine WL.test (v_lss rfl rfl rfl) (.none rfl) rfl rfl (fun h13 => ?_) (fun h13 => ?_)
      · -- 13T
        refine WL.nil ?_
        refine WE.then_n ?_
        refine WC.seq ?_
        refine WC.cond_t rfl ?_
        refine WC.skip ?_
        refine WE.then_n ?_
        refine WC.seq ?_
        refine WC.block ?_
        refine WC.seq ?_
        refine WC.region ?_
        refine WL.val (v_move rfl rfl) (.none rfl) rfl rfl ?_
        refine WL.val (v_assign rfl rfl) (.none rfl) rfl rfl ?_
        refine WL.nil ?_
        refine WE.then_n ?_
        refine WC.seq ?_
        refine WC.quiet mixed (by kernel_rfl) ?_
        refine WQ.val (v_move rfl rfl) (.none rfl) rfl rfl ?_
        refine WQ.val (v_fieldAddr0 rfl rfl fld_25_1) (.none rfl) rfl rfl ?_
        refine WQ.val (v_indexAddrA (lo := k) rfl rfl rfl Tryd.underlying23 sz_22 (by omega) (by omega)) (.none rfl) rfl rfl ?_
        refine WQ.val (v_load1 rfl rfl one_22 (cellAt (acL_get a (by omega)))) (.none rfl) rfl rfl ?_
        refine WQ.val (v_move rfl rfl) (.none rfl) rfl rfl ?_
        refine WQ.call _ rfl rfl ck_30 (.none rfl) rfl rfl (fun w hS => Calls.still (Full_n w k (by omega) (hG.keep (fun h => h) hS)) hS) ?_
        refine WQ.test (v_gtr rfl rfl rfl) (.none rfl) rfl rfl (fun h21 => ?_) (fun h21 => ?_)
        · -- 21T
          refine WQ.val (v_move rfl rfl) (.none rfl) rfl rfl ?_
          refine WQ.skip rfl rfl rfl rfl rfl rfl ?_
          refine WQ.skip rfl rfl rfl rfl rfl rfl ?_
          refine WQ.skip rfl rfl rfl rfl rfl rfl ?_
          refine WQ.skip rfl rfl rfl rfl rfl rfl ?_
          refine WQ.skip rfl rfl rfl rfl rfl rfl ?_
          refine WQ.skip rfl rfl rfl rfl rfl rfl ?_
          refine WQ.skip rfl rfl rfl rfl rfl rfl ?_
          refine WQ.skip rfl rfl rfl rfl rfl rfl ?_
          refine WQ.skip rfl rfl rfl rfl rfl rfl ?_
          refine WQ.skip rfl rfl rfl rfl rfl rfl ?_
          refine WQ.skip rfl rfl rfl rfl rfl rfl ?_
          refine WQ.val (v_pick_t rfl rfl rfl) (.none rfl) rfl rfl ?_
          refine WQ.nil ?_
          refine WE.then_n ?_
          refine WC.cond_t rfl ?_
          refine WC.seq ?_
          refine WC.region ?_
          refine WL.val (v_assign rfl rfl) (.none rfl) rfl rfl ?_
          refine WL.nil ?_
          refine WE.then_n ?_
          refine WC.ret ?_
          refine WE.block_ret ?_
          refine WE.then_ret ?_
          refine WE.then_ret ?_
          refine WE.block_ret ?_
          refine WE.then_ret ?_
          refine WE.ret1 (P := Tryd.prog) (.inl rfl) Tryd.results13 rfl ?_
          exact fun w' h => ⟨by rw [if_neg (fun q => by have := (q.2 k (by omega)).1; omega)], h.frm⟩
        · -- 21F
          refine WQ.val (v_move rfl rfl) (.none rfl) rfl rfl ?_
          refine WQ.val (v_move rfl rfl) (.some rfl rfl rfl) rfl rfl ?_
          refine WQ.val (v_fieldAddr0 rfl rfl fld_25_1) (.some rfl rfl rfl) rfl rfl ?_
          refine WQ.val (v_indexAddrA (lo := k) rfl rfl rfl Tryd.underlying23 sz_22 (by omega) (by omega)) (.some rfl rfl rfl) rfl rfl ?_
          refine WQ.val (v_load1 rfl rfl one_22 (cellAt (acL_get a (by omega)))) (.some rfl rfl rfl) rfl rfl ?_
          refine WQ.test (v_neq rfl rfl rfl) (.some rfl rfl rfl) rfl rfl (fun h27 => ?_) (fun h27 => ?_)
          · -- 27T
            refine WQ.val (v_move rfl rfl) (.some rfl rfl rfl) rfl rfl ?_
            refine WQ.val (v_loadN rfl rfl many_25 rfl allAt) (.some rfl rfl rfl) rfl rfl ?_
            refine WQ.val (v_move rfl rfl) (.some rfl rfl rfl) rfl rfl ?_
            refine WQ.call _ rfl rfl ck_51 (.some rfl rfl rfl) rfl rfl (fun w hS => Calls.still (sets_c w a k (by omega)) hS) ?_
            refine WQ.val (v_notD rfl rfl) (.some rfl rfl rfl) rfl rfl ?_
            refine WQ.val (v_pick_t rfl rfl rfl) (.some rfl rfl rfl) rfl rfl ?_
            refine WQ.val (v_pick_f rfl rfl rfl) (.none rfl) rfl rfl ?_
            refine WQ.nil ?_
            refine WE.then_n ?_
            refine WC.cond_d rfl (fun h34 => ?_) (fun h34 => ?_)
            · -- 34T
              refine WC.seq ?_
              refine WC.region ?_
              refine WL.val (v_assign rfl rfl) (.none rfl) rfl rfl ?_
              refine WL.nil ?_
              refine WE.then_n ?_
              refine WC.ret ?_
              refine WE.block_ret ?_
              refine WE.then_ret ?_
              refine WE.then_ret ?_
              refine WE.block_ret ?_
              refine WE.then_ret ?_
              refine WE.ret1 (P := Tryd.prog) (.inl rfl) Tryd.results13 rfl ?_
              exact fun w' h => ⟨by rw [if_neg (fun q => h34 ((q.2 k (by omega)).2 h27))], h.frm⟩
            · -- 34F
              refine WC.skip ?_
              refine WE.block_n ?_
              refine WE.then_n ?_
              refine WC.region ?_
              refine WL.val (v_add rfl rfl rfl (w_i64 (by omega) (by omega))) (.none rfl) rfl rfl ?_
              refine WL.val (v_move rfl rfl) (.none rfl) rfl rfl ?_
              refine WL.nil ?_
              exact WE.next (k + 1) (by omega) ⟨by omega, fun j hj => by
              by_cases e : j = k
              · subst e; exact ⟨by omega, fun _ => Classical.not_not.1 h34⟩
              · exact hok j (by omega)⟩ (.int rfl (by omega) (.cons rfl .nil)) (.refl _)
          · -- 27F
            refine WQ.val (v_move rfl rfl) (.some rfl rfl rfl) rfl rfl ?_
            refine WQ.skip rfl rfl rfl rfl rfl rfl ?_
            refine WQ.skip rfl rfl rfl rfl rfl rfl ?_
            refine WQ.skip rfl rfl rfl rfl rfl rfl ?_
            refine WQ.skip rfl rfl rfl rfl rfl rfl ?_
            refine WQ.val (v_pick_f rfl rfl rfl) (.some rfl rfl rfl) rfl rfl ?_
            refine WQ.val (v_pick_f rfl rfl rfl) (.none rfl) rfl rfl ?_
            refine WQ.nil ?_
            refine WE.then_n ?_
            refine WC.cond_f rfl ?_
            refine WC.skip ?_
            refine WE.block_n ?_
            refine WE.then_n ?_
            refine WC.region ?_
            refine WL.val (v_add rfl rfl rfl (w_i64 (by omega) (by omega))) (.none rfl) rfl rfl ?_
            refine WL.val (v_move rfl rfl) (.none rfl) rfl rfl ?_
            refine WL.nil ?_
            exact WE.next (k + 1) (by omega) ⟨by omega, fun j hj => by
            by_cases e : j = k
            · subst e; exact ⟨by omega, fun h => absurd h h27⟩
            · exact hok j (by omega)⟩ (.int rfl (by omega) (.cons rfl .nil)) (.refl _)
      · -- 13F
        refine WL.nil ?_
        refine WE.then_n ?_
        refine WC.seq ?_
        refine WC.cond_f rfl ?_
        refine WC.exit ?_
        refine WE.then_exit ?_
        refine WE.then_exit ?_
        refine WE.block_hit ?_
        refine WE.then_n ?_
        refine WC.seq ?_
        refine WC.region ?_
        refine WL.val (v_assign rfl rfl) (.none rfl) rfl rfl ?_
        refine WL.nil ?_
        refine WE.then_n ?_
        refine WC.ret ?_
        refine WE.ret1 (P := Tryd.prog) (.inl rfl) Tryd.results13 rfl ?_
        obtain rfl : k = 9 := (by omega)
        exact fun w' h => ⟨by rw [if_pos ⟨by omega, hok⟩], h.frm⟩
/-- What an act's first k make of a header. -/
def appK (a : Ac) (H : Hd) : Nat → Hd | 0 => H | k + 1 => if a.sets k then wthF k (a.val k) (appK a H k) else appK a H k
set_option maxHeartbeats 1000000 in
theorem Apply_c (w : World) (a : Ac) (H : Hd) (hv : a.In) (ha : a.Ok) (hG : GW w) :
    Calls Tryd.prog 15 #[acV a, .agg (hdCells H)] w fun e w' => e = .returned (.agg (hdCells (appK a H 9))) ∧ Frm (fun _ => False) w w' := by
  refine enter Tryd.func15 rfl Tryd.ntmps15 rfl (St.start (fun _ => False) w) ?_
  refine WC.seq ?_
  refine WC.region ?_
  refine WL.box rfl rfl rfl (.none rfl) rfl rfl ?_
  intro g2 hg2
  refine WL.box rfl rfl rfl (.none rfl) rfl rfl ?_
  intro g3 hg3
  refine WL.alloc rfl zero_31 (.none rfl) rfl rfl ?_
  intro g4 hg4
  refine WL.nil ?_
  refine WE.then_n ?_
  refine WC.seq ?_
  refine WC.seq ?_
  refine WC.region ?_
  refine WL.val (v_move rfl rfl) (.none rfl) rfl rfl ?_
  refine WL.nil ?_
  refine WE.then_n ?_
  refine WC.block ?_
  refine WC.loop (fun k : Nat => [(8, .int .i64 k), (2, .pointer (some ⟨g2, 0, none⟩)), (3, .pointer (some ⟨g3, 0, none⟩)), (4, .pointer (some ⟨g4, 0, none⟩))]) (fun k => [.row g4 (hdL Hd.zero), .row g3 (hdL (appK a H k)), .row g2 (acL a)]) (fun k => k ≤ 9) (fun k => 9 - k) 0 (Nat.zero_le _) (.cons rfl (.cons rfl (.cons rfl (.cons rfl .nil)))) (.refl _) ?_
  intro k hk
  refine WC.seq ?_
  refine WC.region ?_
  refine WL.test (v_lss rfl rfl rfl) (.none rfl) rfl rfl (fun h9 => ?_) (fun h9 => ?_)
  · -- 9T
    refine WL.nil ?_
    refine WE.then_n ?_
    refine WC.seq ?_
    refine WC.cond_t rfl ?_
    refine WC.skip ?_
    refine WE.then_n ?_
    refine WC.seq ?_
    refine WC.block ?_
    refine WC.seq ?_
    refine WC.region ?_
    refine WL.val (v_move rfl rfl) (.none rfl) rfl rfl ?_
    refine WL.val (v_assign rfl rfl) (.none rfl) rfl rfl ?_
    refine WL.nil ?_
    refine WE.then_n ?_
    refine WC.seq ?_
    refine WC.seq ?_
    refine WC.region ?_
    refine WL.val (v_loadN rfl rfl many_25 rfl allAt) (.none rfl) rfl rfl ?_
    refine WL.val (v_move rfl rfl) (.none rfl) rfl rfl ?_
    refine WL.call rfl rfl ck_51 (.none rfl) rfl rfl ?_
    intro w hS
    refine Calls.then (sets_c w a k (by omega)) hS ?_
    refine WL.val (v_notD rfl rfl) (.none rfl) rfl rfl ?_
    refine WL.nil ?_
    refine WE.then_n ?_
    refine WC.cond_d rfl (fun h14 => ?_) (fun h14 => ?_)
    · -- 14T
      refine WC.exit ?_
      refine WE.then_exit ?_
      refine WE.block_hit ?_
      refine WE.then_n ?_
      refine WC.region ?_
      refine WL.val (v_add rfl rfl rfl (w_i64 (by omega) (by omega))) (.none rfl) rfl rfl ?_
      refine WL.val (v_move rfl rfl) (.none rfl) rfl rfl ?_
      refine WL.nil ?_
      refine WE.next (k + 1) (by omega) (by omega) (.int rfl (by omega) (.cons rfl (.cons rfl (.cons rfl .nil)))) ?_
      have e : appK a H (k + 1) = appK a H k := (by show (if a.sets k then _ else _) = _; rw [if_neg h14])
      rw [e]
      exact .refl _
    · -- 14F
      refine WC.skip ?_
      refine WE.then_n ?_
      refine WC.seq ?_
      refine WC.orders mixed ?_
      refine WR.first (g := 9) [1, 2, 3, 4] (by kernel_rfl) (by kernel_rfl) ?_
      refine WP.val (v_move rfl rfl) (.none rfl) rfl rfl ?_
      refine WP.val (v_move rfl rfl) (.none rfl) rfl rfl ?_
      refine WP.val (v_fieldAddr0 rfl rfl fld_25_1) (.none rfl) rfl rfl ?_
      refine WP.val (v_indexAddrA (lo := k) rfl rfl rfl Tryd.underlying23 sz_22 (by omega) (by omega)) (.none rfl) rfl rfl ?_
      refine WP.nil ?_
      refine WR.mix (g := 2) 10 [0, 5, 6, 7, 8] [9] rfl zero_31 rfl rfl rfl (by kernel_rfl) (by kernel_rfl) ?_
      refine WM.val (v_loadN rfl rfl many_31 rfl allAt) (.none rfl) rfl rfl ?_
      refine WM.val (v_load1 rfl rfl one_22 (cellAt (acL_get a (by omega)))) (.none rfl) rfl rfl ?_
      refine WM.call _ rfl rfl ck_31 (.none rfl) rfl rfl (fun w hS => (With_c w (appK a H k) k (by omega) (a.val k) (hv.val k).1 (ha.2 k (by omega)).1 (hG.keep (fun h => h) hS))) ?_
      refine WM.val (v_move rfl rfl) (.none rfl) rfl rfl ?_
      refine WM.val (v_extract rfl rfl rfl) (.none rfl) rfl rfl ?_
      refine WM.nil ?_
      refine WP.val (v_extract rfl rfl rfl) (.none rfl) rfl rfl ?_
      refine WP.nilM ?_
      intro g6 hg6
      refine WR.ones (g := 1) [11] (by kernel_rfl) ?_
      refine WL.storeW rfl rfl rfl rfl many_31 rfl rfl (.none rfl) rfl ?_
      refine WL.nilR ?_
      refine WR.first (g := 0) [12] (by kernel_rfl) (by kernel_rfl) ?_
      refine WP.val (v_assign rfl rfl) (.none rfl) rfl rfl ?_
      refine WP.nil ?_
      refine WR.done (by kernel_rfl) ?_
      refine WE.then_n ?_
      refine WC.seq ?_
      refine WC.region ?_
      refine WL.val (v_move rfl rfl) (.none rfl) rfl rfl ?_
      refine WL.val ((v_eql rfl rfl rfl).t (by omega)) (.none rfl) rfl rfl ?_
      refine WL.nil ?_
      refine WE.then_n ?_
      refine WC.cond_t rfl ?_
      refine WC.region ?_
      refine WL.val (v_loadN rfl rfl many_31 rfl allAt) (.none rfl) rfl rfl ?_
      refine WL.storeW rfl rfl rfl rfl many_31 rfl rfl (.none rfl) rfl ?_
      refine WL.nil ?_
      refine WE.block_n ?_
      refine WE.then_n ?_
      refine WC.region ?_
      refine WL.val (v_add rfl rfl rfl (w_i64 (by omega) (by omega))) (.none rfl) rfl rfl ?_
      refine WL.val (v_move rfl rfl) (.none rfl) rfl rfl ?_
      refine WL.nil ?_
      refine WE.next (k + 1) (by omega) (by omega) (.int rfl (by omega) (.cons rfl (.cons rfl (.cons rfl .nil)))) ?_
      have e : appK a H (k + 1) = wthF k (a.val k) (appK a H k) := (by show (if a.sets k then _ else _) = _; rw [if_pos (Classical.not_not.1 h14)])
      rw [e]
      exact .cons _ (.refl _)
  · -- 9F
    refine WL.nil ?_
    refine WE.then_n ?_
    refine WC.seq ?_
    refine WC.cond_f rfl ?_
    refine WC.exit ?_
    refine WE.then_exit ?_
    refine WE.then_exit ?_
    refine WE.block_hit ?_
    refine WE.then_n ?_
    refine WC.seq ?_
    refine WC.region ?_
    refine WL.val (v_loadN rfl rfl many_31 rfl allAt) (.none rfl) rfl rfl ?_
    refine WL.storeW rfl rfl rfl rfl many_31 rfl rfl (.none rfl) rfl ?_
    refine WL.nil ?_
    refine WE.then_n ?_
    refine WC.ret ?_
    refine WE.ret1 (P := Tryd.prog) (.inl rfl) Tryd.results15 (resRow rfl many_31 rfl) ?_
    obtain rfl : k = 9 := (by omega)
    exact fun w' h => ⟨rfl, h.frm⟩
/-- An act, and another one behind it. -/
def Ac.then (a b : Ac) : Ac := ⟨orN a.set b.set, fun k => if b.sets k then b.val k else a.val k⟩
def thenK (a b : Ac) (k i : Nat) : Int := if i < k ∧ b.sets i then b.val i else a.val i
theorem Then_c (w : World) (a b : Ac) (ha : a.Ok) (hb : b.Ok) :
    Calls Tryd.prog 17 #[acV a, acV b] w fun e w' => e = .returned (acV (a.then b)) ∧ Frm (fun _ => False) w w' := by
  have h1 := ha.1
  have h2 := hb.1
  refine enter Tryd.func17 rfl Tryd.ntmps17 rfl (St.start (fun _ => False) w) ?_
  refine WC.seq ?_
  refine WC.region ?_
  refine WL.box rfl rfl rfl (.none rfl) rfl rfl ?_
  intro g2 hg2
  refine WL.box rfl rfl rfl (.none rfl) rfl rfl ?_
  intro g3 hg3
  refine WL.alloc rfl zero_25 (.none rfl) rfl rfl ?_
  intro g4 hg4
  refine WL.nil ?_
  refine WE.then_n ?_
  refine WC.seq ?_
  refine WC.seq ?_
  refine WC.region ?_
  refine WL.val (v_move rfl rfl) (.none rfl) rfl rfl ?_
  refine WL.nil ?_
  refine WE.then_n ?_
  refine WC.block ?_
  refine WC.loop (fun k : Nat => [(6, .int .i64 k), (2, .pointer (some ⟨g2, 0, none⟩)), (3, .pointer (some ⟨g3, 0, none⟩)), (4, .pointer (some ⟨g4, 0, none⟩))]) (fun k => [.row g4 (acL ⟨0, fun _ => 0⟩), .row g3 (acL b), .row g2 (acL ⟨a.set, thenK a b k⟩)]) (fun k => k ≤ 9) (fun k => 9 - k) 0 (Nat.zero_le _) (.cons rfl (.cons rfl (.cons rfl (.cons rfl .nil)))) (.refl _) ?_
  intro k hk
  refine WC.seq ?_
  refine WC.region ?_
  refine WL.test (v_lss rfl rfl rfl) (.none rfl) rfl rfl (fun h7 => ?_) (fun h7 => ?_)
  · -- 7T
    refine WL.nil ?_
    refine WE.then_n ?_
    refine WC.seq ?_
    refine WC.cond_t rfl ?_
    refine WC.skip ?_
    refine WE.then_n ?_
    refine WC.seq ?_
    refine WC.block ?_
    refine WC.seq ?_
    refine WC.region ?_
    refine WL.val (v_move rfl rfl) (.none rfl) rfl rfl ?_
    refine WL.val (v_assign rfl rfl) (.none rfl) rfl rfl ?_
    refine WL.nil ?_
    refine WE.then_n ?_
    refine WC.seq ?_
    refine WC.region ?_
    refine WL.val (v_loadN rfl rfl many_25 rfl allAt) (.none rfl) rfl rfl ?_
    refine WL.val (v_move rfl rfl) (.none rfl) rfl rfl ?_
    refine WL.call rfl rfl ck_51 (.none rfl) rfl rfl ?_
    intro w hS
    refine Calls.then (sets_c w b k (by omega)) hS ?_
    refine WL.nil ?_
    refine WE.then_n ?_
    refine WC.cond_d rfl (fun h11 => ?_) (fun h11 => ?_)
    · -- 11T
      refine WC.region ?_
      refine WL.val (v_move rfl rfl) (.none rfl) rfl rfl ?_
      refine WL.val (v_move rfl rfl) (.none rfl) rfl rfl ?_
      refine WL.val (v_fieldAddr0 rfl rfl fld_25_1) (.none rfl) rfl rfl ?_
      refine WL.val (v_indexAddrA (lo := k) rfl rfl rfl Tryd.underlying23 sz_22 (by omega) (by omega)) (.none rfl) rfl rfl ?_
      refine WL.val (v_load1 rfl rfl one_22 (cellAt (acL_get b (by omega)))) (.none rfl) rfl rfl ?_
      refine WL.val (v_fieldAddr0 rfl rfl fld_25_1) (.none rfl) rfl rfl ?_
      refine WL.val (v_indexAddrA (lo := k) rfl rfl rfl Tryd.underlying23 sz_22 (by omega) (by omega)) (.none rfl) rfl rfl ?_
      refine WL.store1 rfl rfl rfl rfl one_22 (by show 1 + k * 1 < (acL _).length; unfold acL; rw [List.length_cons, ucs_len]; omega) (.none rfl) rfl ?_
      refine WL.nil ?_
      refine WE.block_n ?_
      refine WE.then_n ?_
      refine WC.region ?_
      refine WL.val (v_add rfl rfl rfl (w_i64 (by omega) (by omega))) (.none rfl) rfl rfl ?_
      refine WL.val (v_move rfl rfl) (.none rfl) rfl rfl ?_
      refine WL.nil ?_
      refine WE.as (L' := [.row g4 (acL ⟨0, fun _ => 0⟩), .row g3 (acL b), .row g2 (acL ⟨a.set, thenK a b (k + 1)⟩)]) ?_ (WE.next (k + 1) (by omega) (by omega) (.int rfl (by omega) (.cons rfl (.cons rfl (.cons rfl .nil)))) (.refl _))
      have e : (acL ⟨a.set, thenK a b k⟩).set (1 + k * 1) (.int .u64 (b.val k)) = acL ⟨a.set, thenK a b (k + 1)⟩ := (by
        rw [show 1 + k * 1 = k + 1 by omega]
        unfold acL
        rw [List.set_cons_succ, ucs_set (by omega)]
        congr 1
        refine ucs_congr fun i hi => ?_
        dsimp only
        unfold thenK
        by_cases e : i = k
        · subst e; rw [if_pos rfl, if_pos ⟨by omega, h11⟩]
        · rw [if_neg e]
          by_cases e2 : i < k ∧ b.sets i
          · rw [if_pos e2, if_pos ⟨by omega, e2.2⟩]
          · rw [if_neg e2, if_neg (fun q => e2 ⟨by omega, q.2⟩)])
      rw [e]
    · -- 11F
      refine WC.skip ?_
      refine WE.block_n ?_
      refine WE.then_n ?_
      refine WC.region ?_
      refine WL.val (v_add rfl rfl rfl (w_i64 (by omega) (by omega))) (.none rfl) rfl rfl ?_
      refine WL.val (v_move rfl rfl) (.none rfl) rfl rfl ?_
      refine WL.nil ?_
      refine WE.as (L' := [.row g4 (acL ⟨0, fun _ => 0⟩), .row g3 (acL b), .row g2 (acL ⟨a.set, thenK a b (k + 1)⟩)]) ?_ (WE.next (k + 1) (by omega) (by omega) (.int rfl (by omega) (.cons rfl (.cons rfl (.cons rfl .nil)))) (.refl _))
      have e : acL ⟨a.set, thenK a b k⟩ = acL ⟨a.set, thenK a b (k + 1)⟩ := (by
        unfold acL
        congr 1
        refine ucs_congr fun i hi => ?_
        dsimp only
        unfold thenK
        by_cases e2 : i < k ∧ b.sets i
        · rw [if_pos e2, if_pos ⟨by omega, e2.2⟩]
        · rw [if_neg e2, if_neg (fun q => by
            by_cases e : i = k
            · subst e; exact h11 q.2
            · exact e2 ⟨by omega, q.2⟩)])
      rw [e]
  · -- 7F
    refine WL.nil ?_
    refine WE.then_n ?_
    refine WC.seq ?_
    refine WC.cond_f rfl ?_
    refine WC.exit ?_
    refine WE.then_exit ?_
    refine WE.then_exit ?_
    refine WE.block_hit ?_
    refine WE.then_n ?_
    refine WC.seq ?_
    refine WC.region ?_
    refine WL.val (v_fieldAddr0 rfl rfl fld_25_0) (.none rfl) rfl rfl ?_
    refine WL.val (v_load1 rfl rfl one_3 (cellAt rfl)) (.none rfl) rfl rfl ?_
    refine WL.val (v_fieldAddr0 rfl rfl fld_25_0) (.none rfl) rfl rfl ?_
    refine WL.val (v_load1 rfl rfl one_3 (cellAt rfl)) (.none rfl) rfl rfl ?_
    refine WL.val (v_or rfl rfl rfl (bits_or_i64 (x := a.set) (y := b.set) h1.1 (by omega) h2.1 (by omega))) (.none rfl) rfl rfl ?_
    refine WL.val (v_fieldAddr0 rfl rfl fld_25_0) (.none rfl) rfl rfl ?_
    refine WL.store1 rfl rfl rfl rfl one_3 (Nat.le_of_ble_eq_true rfl) (.none rfl) rfl ?_
    have e9 : (acL ⟨a.set, thenK a b k⟩).set 0 (.int .i64 (orN a.set b.set)) = acL (a.then b) := (by
      obtain rfl : k = 9 := (by omega)
      show _ :: _ = _ :: _
      congr 1
      refine ucs_congr fun i hi => ?_
      show thenK a b 9 i = (if b.sets i then _ else _)
      unfold thenK
      by_cases e2 : b.sets i
      · rw [if_pos e2, if_pos ⟨hi, e2⟩]
      · rw [if_neg e2, if_neg (fun q => e2 q.2)])
    refine WL.as (L' := [.row g4 (acL ⟨0, fun _ => 0⟩), .row g3 (acL b), .row g2 (acL (a.then b))]) (by rw [← e9]) ?_
    refine WL.nil ?_
    refine WE.then_n ?_
    refine WC.seq ?_
    refine WC.region ?_
    refine WL.val (v_loadN rfl rfl many_25 rfl allAt) (.none rfl) rfl rfl ?_
    refine WL.storeW rfl rfl rfl rfl many_25 rfl rfl (.none rfl) rfl ?_
    refine WL.nil ?_
    refine WE.then_n ?_
    refine WC.ret ?_
    refine WE.ret1 (P := Tryd.prog) (.inl rfl) Tryd.results17 (resRow rfl many_25 rfl) ?_
    exact fun w' h => ⟨rfl, h.frm⟩
end Go.Proofs.YtodaanhhnjkncaaDoor
