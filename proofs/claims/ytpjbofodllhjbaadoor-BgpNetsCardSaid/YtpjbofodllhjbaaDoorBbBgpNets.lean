/- Texts joined: engine, contracts and laws, in the order in which they build. -/
import Derived.Test.YtpjbofodllhjbaaDoorProg
import Derived.Lib.MakeNoZero
import Derived.Test.YtpjbofodllhjbaaDoorBaBgpNets
/- The closed facts on this program's types and functions that the engine's laws ask for (printed by gen_ty.py). -/
namespace Go.Proofs.YtpjbofodllhjbaaDoor
open Go.RowKit
theorem mixed : Tryd.prog.follows .mixedOrders = true := by kernel_rfl
theorem sz_1 : (Tryd.prog.info? 1).map (·.size) = some 1 := by kernel_rfl
theorem by_1 : (Tryd.prog.info? 1).map (·.bytes) = some 8 := by kernel_rfl
theorem one_1 : One Tryd.prog 1 := One.mk Tryd.underlying1 rfl sz_1
theorem zero_1 : Zero Tryd.prog 1 [.nilFunc] := Zero.mk (z := .nilFunc) (by kernel_rfl) rfl
theorem sz_2 : (Tryd.prog.info? 2).map (·.size) = some 1 := by kernel_rfl
theorem by_2 : (Tryd.prog.info? 2).map (·.bytes) = some 8 := by kernel_rfl
theorem one_2 : One Tryd.prog 2 := One.mk Tryd.underlying2 rfl sz_2
theorem zero_2 : Zero Tryd.prog 2 [.int .i64 0] := Zero.mk (z := .int .i64 0) (by kernel_rfl) rfl
theorem sz_3 : (Tryd.prog.info? 3).map (·.size) = some 1 := by kernel_rfl
theorem by_3 : (Tryd.prog.info? 3).map (·.bytes) = some 8 := by kernel_rfl
theorem one_3 : One Tryd.prog 3 := One.mk Tryd.underlying3 rfl sz_3
theorem zero_3 : Zero Tryd.prog 3 [.int .i64 0] := Zero.mk (z := .int .i64 0) (by kernel_rfl) rfl
theorem sz_4 : (Tryd.prog.info? 4).map (·.size) = some 1 := by kernel_rfl
theorem by_4 : (Tryd.prog.info? 4).map (·.bytes) = some 1 := by kernel_rfl
theorem one_4 : One Tryd.prog 4 := One.mk Tryd.underlying4 rfl sz_4
theorem zero_4 : Zero Tryd.prog 4 [.bool false] := Zero.mk (z := .bool false) (by kernel_rfl) rfl
theorem sz_5 : (Tryd.prog.info? 5).map (·.size) = some 1 := by kernel_rfl
theorem by_5 : (Tryd.prog.info? 5).map (·.bytes) = some 1 := by kernel_rfl
theorem one_5 : One Tryd.prog 5 := One.mk Tryd.underlying5 rfl sz_5
theorem zero_5 : Zero Tryd.prog 5 [.int .u8 0] := Zero.mk (z := .int .u8 0) (by kernel_rfl) rfl
theorem sz_6 : (Tryd.prog.info? 6).map (·.size) = some 1 := by kernel_rfl
theorem by_6 : (Tryd.prog.info? 6).map (·.bytes) = some 1 := by kernel_rfl
theorem one_6 : One Tryd.prog 6 := One.mk Tryd.underlying6 rfl sz_6
theorem zero_6 : Zero Tryd.prog 6 [.int .u8 0] := Zero.mk (z := .int .u8 0) (by kernel_rfl) rfl
theorem sz_7 : (Tryd.prog.info? 7).map (·.size) = some 4 := by kernel_rfl
theorem by_7 : (Tryd.prog.info? 7).map (·.bytes) = some 24 := by kernel_rfl
theorem many_7 : Many Tryd.prog 7 4 := Many.mk Tryd.underlying7 rfl sz_7
theorem zero_7 : Zero Tryd.prog 7 [.int .i64 0, .int .i64 0, .bool false, .int .u8 0] := Zero.mk (z := .agg #[.int .i64 0, .int .i64 0, .bool false, .int .u8 0]) (by kernel_rfl) rfl
theorem sz_8 : (Tryd.prog.info? 8).map (·.size) = some 4 := by kernel_rfl
theorem by_8 : (Tryd.prog.info? 8).map (·.bytes) = some 24 := by kernel_rfl
theorem many_8 : Many Tryd.prog 8 4 := Many.mk Tryd.underlying8 rfl sz_8
theorem zero_8 : Zero Tryd.prog 8 [.int .i64 0, .int .i64 0, .bool false, .int .u8 0] := Zero.mk (z := .agg #[.int .i64 0, .int .i64 0, .bool false, .int .u8 0]) (by kernel_rfl) rfl
theorem sz_9 : (Tryd.prog.info? 9).map (·.size) = some 1 := by kernel_rfl
theorem by_9 : (Tryd.prog.info? 9).map (·.bytes) = some 16 := by kernel_rfl
theorem one_9 : One Tryd.prog 9 := One.mk Tryd.underlying9 rfl sz_9
theorem zero_9 : Zero Tryd.prog 9 [.string ⟨#[]⟩] := Zero.mk (z := .string ⟨#[]⟩) (by kernel_rfl) rfl
theorem sz_10 : (Tryd.prog.info? 10).map (·.size) = some 1 := by kernel_rfl
theorem by_10 : (Tryd.prog.info? 10).map (·.bytes) = some 16 := by kernel_rfl
theorem one_10 : One Tryd.prog 10 := One.mk Tryd.underlying10 rfl sz_10
theorem zero_10 : Zero Tryd.prog 10 [.string ⟨#[]⟩] := Zero.mk (z := .string ⟨#[]⟩) (by kernel_rfl) rfl
theorem sz_11 : (Tryd.prog.info? 11).map (·.size) = some 1 := by kernel_rfl
theorem by_11 : (Tryd.prog.info? 11).map (·.bytes) = some 16 := by kernel_rfl
theorem one_11 : One Tryd.prog 11 := One.mk Tryd.underlying11 rfl sz_11
theorem zero_11 : Zero Tryd.prog 11 [.string ⟨#[]⟩] := Zero.mk (z := .string ⟨#[]⟩) (by kernel_rfl) rfl
theorem sz_12 : (Tryd.prog.info? 12).map (·.size) = some 1 := by kernel_rfl
theorem by_12 : (Tryd.prog.info? 12).map (·.bytes) = some 8 := by kernel_rfl
theorem one_12 : One Tryd.prog 12 := One.mk Tryd.underlying12 rfl sz_12
theorem zero_12 : Zero Tryd.prog 12 [.int .u64 0] := Zero.mk (z := .int .u64 0) (by kernel_rfl) rfl
theorem sz_13 : (Tryd.prog.info? 13).map (·.size) = some 2 := by kernel_rfl
theorem by_13 : (Tryd.prog.info? 13).map (·.bytes) = some 24 := by kernel_rfl
theorem many_13 : Many Tryd.prog 13 2 := Many.mk Tryd.underlying13 rfl sz_13
theorem zero_13 : Zero Tryd.prog 13 [.string ⟨#[]⟩, .int .u64 0] := Zero.mk (z := .agg #[.string ⟨#[]⟩, .int .u64 0]) (by kernel_rfl) rfl
theorem sz_14 : (Tryd.prog.info? 14).map (·.size) = some 2 := by kernel_rfl
theorem by_14 : (Tryd.prog.info? 14).map (·.bytes) = some 24 := by kernel_rfl
theorem many_14 : Many Tryd.prog 14 2 := Many.mk Tryd.underlying14 rfl sz_14
theorem zero_14 : Zero Tryd.prog 14 [.string ⟨#[]⟩, .int .u64 0] := Zero.mk (z := .agg #[.string ⟨#[]⟩, .int .u64 0]) (by kernel_rfl) rfl
theorem sz_15 : (Tryd.prog.info? 15).map (·.size) = some 1 := by kernel_rfl
theorem by_15 : (Tryd.prog.info? 15).map (·.bytes) = some 8 := by kernel_rfl
theorem one_15 : One Tryd.prog 15 := One.mk Tryd.underlying15 rfl sz_15
theorem zero_15 : Zero Tryd.prog 15 [.pointer none] := Zero.mk (z := .pointer none) (by kernel_rfl) rfl
theorem sz_16 : (Tryd.prog.info? 16).map (·.size) = some 1 := by kernel_rfl
theorem by_16 : (Tryd.prog.info? 16).map (·.bytes) = some 8 := by kernel_rfl
theorem one_16 : One Tryd.prog 16 := One.mk Tryd.underlying16 rfl sz_16
theorem zero_16 : Zero Tryd.prog 16 [.pointer none] := Zero.mk (z := .pointer none) (by kernel_rfl) rfl
theorem sz_17 : (Tryd.prog.info? 17).map (·.size) = some 1 := by kernel_rfl
theorem by_17 : (Tryd.prog.info? 17).map (·.bytes) = some 8 := by kernel_rfl
theorem one_17 : One Tryd.prog 17 := One.mk Tryd.underlying17 rfl sz_17
theorem zero_17 : Zero Tryd.prog 17 [.pointer none] := Zero.mk (z := .pointer none) (by kernel_rfl) rfl
theorem sz_18 : (Tryd.prog.info? 18).map (·.size) = some 1 := by kernel_rfl
theorem by_18 : (Tryd.prog.info? 18).map (·.bytes) = some 8 := by kernel_rfl
theorem many_18 : Many Tryd.prog 18 1 := Many.mk Tryd.underlying18 rfl sz_18
theorem zero_18 : Zero Tryd.prog 18 [.pointer none] := Zero.mk (z := .agg #[.pointer none]) (by kernel_rfl) rfl
theorem sz_19 : (Tryd.prog.info? 19).map (·.size) = some 1 := by kernel_rfl
theorem by_19 : (Tryd.prog.info? 19).map (·.bytes) = some 8 := by kernel_rfl
theorem many_19 : Many Tryd.prog 19 1 := Many.mk Tryd.underlying19 rfl sz_19
theorem zero_19 : Zero Tryd.prog 19 [.pointer none] := Zero.mk (z := .agg #[.pointer none]) (by kernel_rfl) rfl
theorem sz_20 : (Tryd.prog.info? 20).map (·.size) = some 1 := by kernel_rfl
theorem by_20 : (Tryd.prog.info? 20).map (·.bytes) = some 16 := by kernel_rfl
theorem one_20 : One Tryd.prog 20 := One.mk Tryd.underlying20 rfl sz_20
theorem zero_20 : Zero Tryd.prog 20 [.nilIface] := Zero.mk (z := .nilIface) (by kernel_rfl) rfl
theorem sz_21 : (Tryd.prog.info? 21).map (·.size) = some 1 := by kernel_rfl
theorem by_21 : (Tryd.prog.info? 21).map (·.bytes) = some 4 := by kernel_rfl
theorem one_21 : One Tryd.prog 21 := One.mk Tryd.underlying21 rfl sz_21
theorem zero_21 : Zero Tryd.prog 21 [.int .i32 0] := Zero.mk (z := .int .i32 0) (by kernel_rfl) rfl
theorem sz_22 : (Tryd.prog.info? 22).map (·.size) = some 1 := by kernel_rfl
theorem by_22 : (Tryd.prog.info? 22).map (·.bytes) = some 24 := by kernel_rfl
theorem one_22 : One Tryd.prog 22 := One.mk Tryd.underlying22 rfl sz_22
theorem zero_22 : Zero Tryd.prog 22 [.slice none 0 0] := Zero.mk (z := .slice none 0 0) (by kernel_rfl) rfl
theorem sz_23 : (Tryd.prog.info? 23).map (·.size) = some 1 := by kernel_rfl
theorem by_23 : (Tryd.prog.info? 23).map (·.bytes) = some 8 := by kernel_rfl
theorem one_23 : One Tryd.prog 23 := One.mk Tryd.underlying23 rfl sz_23
theorem zero_23 : Zero Tryd.prog 23 [.nilFunc] := Zero.mk (z := .nilFunc) (by kernel_rfl) rfl
theorem sz_24 : (Tryd.prog.info? 24).map (·.size) = some 3 := by kernel_rfl
theorem by_24 : (Tryd.prog.info? 24).map (·.bytes) = some 32 := by kernel_rfl
theorem many_24 : Many Tryd.prog 24 3 := Many.mk Tryd.underlying24 rfl sz_24
theorem zero_24 : Zero Tryd.prog 24 [.int .i64 0, .int .i64 0, .string ⟨#[]⟩] := Zero.mk (z := .agg #[.int .i64 0, .int .i64 0, .string ⟨#[]⟩]) (by kernel_rfl) rfl
theorem sz_25 : (Tryd.prog.info? 25).map (·.size) = some 3 := by kernel_rfl
theorem by_25 : (Tryd.prog.info? 25).map (·.bytes) = some 32 := by kernel_rfl
theorem many_25 : Many Tryd.prog 25 3 := Many.mk Tryd.underlying25 rfl sz_25
theorem zero_25 : Zero Tryd.prog 25 [.int .i64 0, .int .i64 0, .string ⟨#[]⟩] := Zero.mk (z := .agg #[.int .i64 0, .int .i64 0, .string ⟨#[]⟩]) (by kernel_rfl) rfl
theorem sz_27 : (Tryd.prog.info? 27).map (·.size) = some 1 := by kernel_rfl
theorem by_27 : (Tryd.prog.info? 27).map (·.bytes) = some 8 := by kernel_rfl
theorem one_27 : One Tryd.prog 27 := One.mk Tryd.underlying27 rfl sz_27
theorem zero_27 : Zero Tryd.prog 27 [.nilFunc] := Zero.mk (z := .nilFunc) (by kernel_rfl) rfl
theorem sz_28 : (Tryd.prog.info? 28).map (·.size) = some 3 := by kernel_rfl
theorem by_28 : (Tryd.prog.info? 28).map (·.bytes) = some 32 := by kernel_rfl
theorem many_28 : Many Tryd.prog 28 3 := Many.mk Tryd.underlying28 rfl sz_28
theorem zero_28 : Zero Tryd.prog 28 [.int .i64 0, .int .i64 0, .string ⟨#[]⟩] := Zero.mk (z := .agg #[.int .i64 0, .int .i64 0, .string ⟨#[]⟩]) (by kernel_rfl) rfl
theorem sz_30 : (Tryd.prog.info? 30).map (·.size) = some 1 := by kernel_rfl
theorem by_30 : (Tryd.prog.info? 30).map (·.bytes) = some 8 := by kernel_rfl
theorem one_30 : One Tryd.prog 30 := One.mk Tryd.underlying30 rfl sz_30
theorem zero_30 : Zero Tryd.prog 30 [.nilFunc] := Zero.mk (z := .nilFunc) (by kernel_rfl) rfl
theorem sz_31 : (Tryd.prog.info? 31).map (·.size) = some 1 := by kernel_rfl
theorem by_31 : (Tryd.prog.info? 31).map (·.bytes) = some 8 := by kernel_rfl
theorem one_31 : One Tryd.prog 31 := One.mk Tryd.underlying31 rfl sz_31
theorem zero_31 : Zero Tryd.prog 31 [.nilFunc] := Zero.mk (z := .nilFunc) (by kernel_rfl) rfl
theorem sz_32 : (Tryd.prog.info? 32).map (·.size) = some 1 := by kernel_rfl
theorem by_32 : (Tryd.prog.info? 32).map (·.bytes) = some 8 := by kernel_rfl
theorem one_32 : One Tryd.prog 32 := One.mk Tryd.underlying32 rfl sz_32
theorem zero_32 : Zero Tryd.prog 32 [.nilFunc] := Zero.mk (z := .nilFunc) (by kernel_rfl) rfl
theorem sz_33 : (Tryd.prog.info? 33).map (·.size) = some 1 := by kernel_rfl
theorem by_33 : (Tryd.prog.info? 33).map (·.bytes) = some 4 := by kernel_rfl
theorem one_33 : One Tryd.prog 33 := One.mk Tryd.underlying33 rfl sz_33
theorem zero_33 : Zero Tryd.prog 33 [.int .u32 0] := Zero.mk (z := .int .u32 0) (by kernel_rfl) rfl
theorem sz_34 : (Tryd.prog.info? 34).map (·.size) = some 1 := by kernel_rfl
theorem by_34 : (Tryd.prog.info? 34).map (·.bytes) = some 4 := by kernel_rfl
theorem one_34 : One Tryd.prog 34 := One.mk Tryd.underlying34 rfl sz_34
theorem zero_34 : Zero Tryd.prog 34 [.int .u32 0] := Zero.mk (z := .int .u32 0) (by kernel_rfl) rfl
theorem sz_35 : (Tryd.prog.info? 35).map (·.size) = some 1 := by kernel_rfl
theorem by_35 : (Tryd.prog.info? 35).map (·.bytes) = some 24 := by kernel_rfl
theorem one_35 : One Tryd.prog 35 := One.mk Tryd.underlying35 rfl sz_35
theorem zero_35 : Zero Tryd.prog 35 [.slice none 0 0] := Zero.mk (z := .slice none 0 0) (by kernel_rfl) rfl
theorem sz_36 : (Tryd.prog.info? 36).map (·.size) = some 1 := by kernel_rfl
theorem by_36 : (Tryd.prog.info? 36).map (·.bytes) = some 24 := by kernel_rfl
theorem one_36 : One Tryd.prog 36 := One.mk Tryd.underlying36 rfl sz_36
theorem zero_36 : Zero Tryd.prog 36 [.slice none 0 0] := Zero.mk (z := .slice none 0 0) (by kernel_rfl) rfl
theorem sz_37 : (Tryd.prog.info? 37).map (·.size) = some 1 := by kernel_rfl
theorem by_37 : (Tryd.prog.info? 37).map (·.bytes) = some 24 := by kernel_rfl
theorem one_37 : One Tryd.prog 37 := One.mk Tryd.underlying37 rfl sz_37
theorem zero_37 : Zero Tryd.prog 37 [.slice none 0 0] := Zero.mk (z := .slice none 0 0) (by kernel_rfl) rfl
theorem sz_38 : (Tryd.prog.info? 38).map (·.size) = some 1 := by kernel_rfl
theorem by_38 : (Tryd.prog.info? 38).map (·.bytes) = some 24 := by kernel_rfl
theorem one_38 : One Tryd.prog 38 := One.mk Tryd.underlying38 rfl sz_38
theorem zero_38 : Zero Tryd.prog 38 [.slice none 0 0] := Zero.mk (z := .slice none 0 0) (by kernel_rfl) rfl
theorem sz_39 : (Tryd.prog.info? 39).map (·.size) = some 1 := by kernel_rfl
theorem by_39 : (Tryd.prog.info? 39).map (·.bytes) = some 24 := by kernel_rfl
theorem one_39 : One Tryd.prog 39 := One.mk Tryd.underlying39 rfl sz_39
theorem zero_39 : Zero Tryd.prog 39 [.slice none 0 0] := Zero.mk (z := .slice none 0 0) (by kernel_rfl) rfl
theorem sz_40 : (Tryd.prog.info? 40).map (·.size) = some 10 := by kernel_rfl
theorem by_40 : (Tryd.prog.info? 40).map (·.bytes) = some 128 := by kernel_rfl
theorem many_40 : Many Tryd.prog 40 10 := Many.mk Tryd.underlying40 rfl sz_40
theorem zero_40 : Zero Tryd.prog 40 [.int .i64 0, .int .i64 0, .slice none 0 0, .int .u32 0, .int .i64 0, .int .i64 0, .int .i64 0, .int .u32 0, .slice none 0 0, .slice none 0 0] := Zero.mk (z := .agg #[.int .i64 0, .int .i64 0, .slice none 0 0, .int .u32 0, .int .i64 0, .int .i64 0, .int .i64 0, .int .u32 0, .slice none 0 0, .slice none 0 0]) (by kernel_rfl) rfl
theorem sz_41 : (Tryd.prog.info? 41).map (·.size) = some 10 := by kernel_rfl
theorem by_41 : (Tryd.prog.info? 41).map (·.bytes) = some 128 := by kernel_rfl
theorem many_41 : Many Tryd.prog 41 10 := Many.mk Tryd.underlying41 rfl sz_41
theorem zero_41 : Zero Tryd.prog 41 [.int .i64 0, .int .i64 0, .slice none 0 0, .int .u32 0, .int .i64 0, .int .i64 0, .int .i64 0, .int .u32 0, .slice none 0 0, .slice none 0 0] := Zero.mk (z := .agg #[.int .i64 0, .int .i64 0, .slice none 0 0, .int .u32 0, .int .i64 0, .int .i64 0, .int .i64 0, .int .u32 0, .slice none 0 0, .slice none 0 0]) (by kernel_rfl) rfl
theorem sz_42 : (Tryd.prog.info? 42).map (·.size) = some 20 := by kernel_rfl
theorem by_42 : (Tryd.prog.info? 42).map (·.bytes) = some 264 := by kernel_rfl
theorem many_42 : Many Tryd.prog 42 20 := Many.mk Tryd.underlying42 rfl sz_42
theorem zero_42 : Zero Tryd.prog 42 [.int .i64 0, .int .i64 0, .int .i64 0, .int .u32 0, .slice none 0 0, .slice none 0 0, .int .i64 0, .int .i64 0, .slice none 0 0, .int .u32 0, .int .i64 0, .int .i64 0, .int .i64 0, .int .u32 0, .slice none 0 0, .slice none 0 0, .slice none 0 0, .int .i64 0, .int .i64 0, .string ⟨#[]⟩] := Zero.mk (z := .agg #[.int .i64 0, .int .i64 0, .int .i64 0, .int .u32 0, .slice none 0 0, .slice none 0 0, .int .i64 0, .int .i64 0, .slice none 0 0, .int .u32 0, .int .i64 0, .int .i64 0, .int .i64 0, .int .u32 0, .slice none 0 0, .slice none 0 0, .slice none 0 0, .int .i64 0, .int .i64 0, .string ⟨#[]⟩]) (by kernel_rfl) rfl
theorem sz_43 : (Tryd.prog.info? 43).map (·.size) = some 20 := by kernel_rfl
theorem by_43 : (Tryd.prog.info? 43).map (·.bytes) = some 264 := by kernel_rfl
theorem many_43 : Many Tryd.prog 43 20 := Many.mk Tryd.underlying43 rfl sz_43
theorem zero_43 : Zero Tryd.prog 43 [.int .i64 0, .int .i64 0, .int .i64 0, .int .u32 0, .slice none 0 0, .slice none 0 0, .int .i64 0, .int .i64 0, .slice none 0 0, .int .u32 0, .int .i64 0, .int .i64 0, .int .i64 0, .int .u32 0, .slice none 0 0, .slice none 0 0, .slice none 0 0, .int .i64 0, .int .i64 0, .string ⟨#[]⟩] := Zero.mk (z := .agg #[.int .i64 0, .int .i64 0, .int .i64 0, .int .u32 0, .slice none 0 0, .slice none 0 0, .int .i64 0, .int .i64 0, .slice none 0 0, .int .u32 0, .int .i64 0, .int .i64 0, .int .i64 0, .int .u32 0, .slice none 0 0, .slice none 0 0, .slice none 0 0, .int .i64 0, .int .i64 0, .string ⟨#[]⟩]) (by kernel_rfl) rfl
theorem sz_45 : (Tryd.prog.info? 45).map (·.size) = some 1 := by kernel_rfl
theorem by_45 : (Tryd.prog.info? 45).map (·.bytes) = some 8 := by kernel_rfl
theorem one_45 : One Tryd.prog 45 := One.mk Tryd.underlying45 rfl sz_45
theorem zero_45 : Zero Tryd.prog 45 [.nilFunc] := Zero.mk (z := .nilFunc) (by kernel_rfl) rfl
theorem sz_46 : (Tryd.prog.info? 46).map (·.size) = some 1 := by kernel_rfl
theorem by_46 : (Tryd.prog.info? 46).map (·.bytes) = some 24 := by kernel_rfl
theorem one_46 : One Tryd.prog 46 := One.mk Tryd.underlying46 rfl sz_46
theorem zero_46 : Zero Tryd.prog 46 [.slice none 0 0] := Zero.mk (z := .slice none 0 0) (by kernel_rfl) rfl
theorem sz_47 : (Tryd.prog.info? 47).map (·.size) = some 1 := by kernel_rfl
theorem by_47 : (Tryd.prog.info? 47).map (·.bytes) = some 24 := by kernel_rfl
theorem one_47 : One Tryd.prog 47 := One.mk Tryd.underlying47 rfl sz_47
theorem zero_47 : Zero Tryd.prog 47 [.slice none 0 0] := Zero.mk (z := .slice none 0 0) (by kernel_rfl) rfl
theorem sz_48 : (Tryd.prog.info? 48).map (·.size) = some 1 := by kernel_rfl
theorem by_48 : (Tryd.prog.info? 48).map (·.bytes) = some 24 := by kernel_rfl
theorem one_48 : One Tryd.prog 48 := One.mk Tryd.underlying48 rfl sz_48
theorem zero_48 : Zero Tryd.prog 48 [.slice none 0 0] := Zero.mk (z := .slice none 0 0) (by kernel_rfl) rfl
theorem sz_49 : (Tryd.prog.info? 49).map (·.size) = some 1 := by kernel_rfl
theorem by_49 : (Tryd.prog.info? 49).map (·.bytes) = some 24 := by kernel_rfl
theorem one_49 : One Tryd.prog 49 := One.mk Tryd.underlying49 rfl sz_49
theorem zero_49 : Zero Tryd.prog 49 [.slice none 0 0] := Zero.mk (z := .slice none 0 0) (by kernel_rfl) rfl
theorem sz_50 : (Tryd.prog.info? 50).map (·.size) = some 10 := by kernel_rfl
theorem by_50 : (Tryd.prog.info? 50).map (·.bytes) = some 128 := by kernel_rfl
theorem many_50 : Many Tryd.prog 50 10 := Many.mk Tryd.underlying50 rfl sz_50
theorem zero_50 : Zero Tryd.prog 50 [.int .i64 0, .int .i64 0, .slice none 0 0, .int .i64 0, .int .i64 0, .int .i64 0, .int .i64 0, .int .i64 0, .slice none 0 0, .slice none 0 0] := Zero.mk (z := .agg #[.int .i64 0, .int .i64 0, .slice none 0 0, .int .i64 0, .int .i64 0, .int .i64 0, .int .i64 0, .int .i64 0, .slice none 0 0, .slice none 0 0]) (by kernel_rfl) rfl
theorem sz_51 : (Tryd.prog.info? 51).map (·.size) = some 10 := by kernel_rfl
theorem by_51 : (Tryd.prog.info? 51).map (·.bytes) = some 128 := by kernel_rfl
theorem many_51 : Many Tryd.prog 51 10 := Many.mk Tryd.underlying51 rfl sz_51
theorem zero_51 : Zero Tryd.prog 51 [.int .i64 0, .int .i64 0, .slice none 0 0, .int .i64 0, .int .i64 0, .int .i64 0, .int .i64 0, .int .i64 0, .slice none 0 0, .slice none 0 0] := Zero.mk (z := .agg #[.int .i64 0, .int .i64 0, .slice none 0 0, .int .i64 0, .int .i64 0, .int .i64 0, .int .i64 0, .int .i64 0, .slice none 0 0, .slice none 0 0]) (by kernel_rfl) rfl
theorem sz_52 : (Tryd.prog.info? 52).map (·.size) = some 20 := by kernel_rfl
theorem by_52 : (Tryd.prog.info? 52).map (·.bytes) = some 264 := by kernel_rfl
theorem many_52 : Many Tryd.prog 52 20 := Many.mk Tryd.underlying52 rfl sz_52
theorem zero_52 : Zero Tryd.prog 52 [.int .i64 0, .int .i64 0, .int .i64 0, .int .u32 0, .slice none 0 0, .slice none 0 0, .int .i64 0, .int .i64 0, .slice none 0 0, .int .i64 0, .int .i64 0, .int .i64 0, .int .i64 0, .int .i64 0, .slice none 0 0, .slice none 0 0, .slice none 0 0, .int .i64 0, .int .i64 0, .string ⟨#[]⟩] := Zero.mk (z := .agg #[.int .i64 0, .int .i64 0, .int .i64 0, .int .u32 0, .slice none 0 0, .slice none 0 0, .int .i64 0, .int .i64 0, .slice none 0 0, .int .i64 0, .int .i64 0, .int .i64 0, .int .i64 0, .int .i64 0, .slice none 0 0, .slice none 0 0, .slice none 0 0, .int .i64 0, .int .i64 0, .string ⟨#[]⟩]) (by kernel_rfl) rfl
theorem sz_53 : (Tryd.prog.info? 53).map (·.size) = some 20 := by kernel_rfl
theorem by_53 : (Tryd.prog.info? 53).map (·.bytes) = some 264 := by kernel_rfl
theorem many_53 : Many Tryd.prog 53 20 := Many.mk Tryd.underlying53 rfl sz_53
theorem zero_53 : Zero Tryd.prog 53 [.int .i64 0, .int .i64 0, .int .i64 0, .int .u32 0, .slice none 0 0, .slice none 0 0, .int .i64 0, .int .i64 0, .slice none 0 0, .int .i64 0, .int .i64 0, .int .i64 0, .int .i64 0, .int .i64 0, .slice none 0 0, .slice none 0 0, .slice none 0 0, .int .i64 0, .int .i64 0, .string ⟨#[]⟩] := Zero.mk (z := .agg #[.int .i64 0, .int .i64 0, .int .i64 0, .int .u32 0, .slice none 0 0, .slice none 0 0, .int .i64 0, .int .i64 0, .slice none 0 0, .int .i64 0, .int .i64 0, .int .i64 0, .int .i64 0, .int .i64 0, .slice none 0 0, .slice none 0 0, .slice none 0 0, .int .i64 0, .int .i64 0, .string ⟨#[]⟩]) (by kernel_rfl) rfl
theorem sz_55 : (Tryd.prog.info? 55).map (·.size) = some 1 := by kernel_rfl
theorem by_55 : (Tryd.prog.info? 55).map (·.bytes) = some 8 := by kernel_rfl
theorem one_55 : One Tryd.prog 55 := One.mk Tryd.underlying55 rfl sz_55
theorem zero_55 : Zero Tryd.prog 55 [.nilFunc] := Zero.mk (z := .nilFunc) (by kernel_rfl) rfl
theorem sz_56 : (Tryd.prog.info? 56).map (·.size) = some 1 := by kernel_rfl
theorem by_56 : (Tryd.prog.info? 56).map (·.bytes) = some 8 := by kernel_rfl
theorem one_56 : One Tryd.prog 56 := One.mk Tryd.underlying56 rfl sz_56
theorem zero_56 : Zero Tryd.prog 56 [.nilFunc] := Zero.mk (z := .nilFunc) (by kernel_rfl) rfl
theorem sz_57 : (Tryd.prog.info? 57).map (·.size) = some 1 := by kernel_rfl
theorem by_57 : (Tryd.prog.info? 57).map (·.bytes) = some 8 := by kernel_rfl
theorem one_57 : One Tryd.prog 57 := One.mk Tryd.underlying57 rfl sz_57
theorem zero_57 : Zero Tryd.prog 57 [.nilFunc] := Zero.mk (z := .nilFunc) (by kernel_rfl) rfl
theorem sz_58 : (Tryd.prog.info? 58).map (·.size) = some 1 := by kernel_rfl
theorem by_58 : (Tryd.prog.info? 58).map (·.bytes) = some 8 := by kernel_rfl
theorem one_58 : One Tryd.prog 58 := One.mk Tryd.underlying58 rfl sz_58
theorem zero_58 : Zero Tryd.prog 58 [.map none] := Zero.mk (z := .map none) (by kernel_rfl) rfl
theorem sz_59 : (Tryd.prog.info? 59).map (·.size) = some 1 := by kernel_rfl
theorem by_59 : (Tryd.prog.info? 59).map (·.bytes) = some 8 := by kernel_rfl
theorem one_59 : One Tryd.prog 59 := One.mk Tryd.underlying59 rfl sz_59
theorem zero_59 : Zero Tryd.prog 59 [.int .i64 0] := Zero.mk (z := .int .i64 0) (by kernel_rfl) rfl
theorem sz_61 : (Tryd.prog.info? 61).map (·.size) = some 1 := by kernel_rfl
theorem by_61 : (Tryd.prog.info? 61).map (·.bytes) = some 8 := by kernel_rfl
theorem one_61 : One Tryd.prog 61 := One.mk Tryd.underlying61 rfl sz_61
theorem zero_61 : Zero Tryd.prog 61 [.nilFunc] := Zero.mk (z := .nilFunc) (by kernel_rfl) rfl
theorem sz_62 : (Tryd.prog.info? 62).map (·.size) = some 1 := by kernel_rfl
theorem by_62 : (Tryd.prog.info? 62).map (·.bytes) = some 8 := by kernel_rfl
theorem one_62 : One Tryd.prog 62 := One.mk Tryd.underlying62 rfl sz_62
theorem zero_62 : Zero Tryd.prog 62 [.nilFunc] := Zero.mk (z := .nilFunc) (by kernel_rfl) rfl
theorem sz_63 : (Tryd.prog.info? 63).map (·.size) = some 1 := by kernel_rfl
theorem by_63 : (Tryd.prog.info? 63).map (·.bytes) = some 8 := by kernel_rfl
theorem one_63 : One Tryd.prog 63 := One.mk Tryd.underlying63 rfl sz_63
theorem zero_63 : Zero Tryd.prog 63 [.nilFunc] := Zero.mk (z := .nilFunc) (by kernel_rfl) rfl
theorem sz_64 : (Tryd.prog.info? 64).map (·.size) = some 2 := by kernel_rfl
theorem by_64 : (Tryd.prog.info? 64).map (·.bytes) = some 16 := by kernel_rfl
theorem many_64 : Many Tryd.prog 64 2 := Many.mk Tryd.underlying64 rfl sz_64
theorem zero_64 : Zero Tryd.prog 64 [.int .u32 0, .int .i64 0] := Zero.mk (z := .agg #[.int .u32 0, .int .i64 0]) (by kernel_rfl) rfl
theorem sz_65 : (Tryd.prog.info? 65).map (·.size) = some 2 := by kernel_rfl
theorem by_65 : (Tryd.prog.info? 65).map (·.bytes) = some 16 := by kernel_rfl
theorem many_65 : Many Tryd.prog 65 2 := Many.mk Tryd.underlying65 rfl sz_65
theorem zero_65 : Zero Tryd.prog 65 [.int .u32 0, .int .i64 0] := Zero.mk (z := .agg #[.int .u32 0, .int .i64 0]) (by kernel_rfl) rfl
theorem sz_66 : (Tryd.prog.info? 66).map (·.size) = some 1 := by kernel_rfl
theorem by_66 : (Tryd.prog.info? 66).map (·.bytes) = some 8 := by kernel_rfl
theorem one_66 : One Tryd.prog 66 := One.mk Tryd.underlying66 rfl sz_66
theorem zero_66 : Zero Tryd.prog 66 [.nilFunc] := Zero.mk (z := .nilFunc) (by kernel_rfl) rfl
theorem sz_67 : (Tryd.prog.info? 67).map (·.size) = some 1 := by kernel_rfl
theorem by_67 : (Tryd.prog.info? 67).map (·.bytes) = some 8 := by kernel_rfl
theorem one_67 : One Tryd.prog 67 := One.mk Tryd.underlying67 rfl sz_67
theorem zero_67 : Zero Tryd.prog 67 [.int .u64 0] := Zero.mk (z := .int .u64 0) (by kernel_rfl) rfl
theorem sz_68 : (Tryd.prog.info? 68).map (·.size) = some 1 := by kernel_rfl
theorem by_68 : (Tryd.prog.info? 68).map (·.bytes) = some 8 := by kernel_rfl
theorem one_68 : One Tryd.prog 68 := One.mk Tryd.underlying68 rfl sz_68
theorem zero_68 : Zero Tryd.prog 68 [.nilFunc] := Zero.mk (z := .nilFunc) (by kernel_rfl) rfl
theorem sz_69 : (Tryd.prog.info? 69).map (·.size) = some 1 := by kernel_rfl
theorem by_69 : (Tryd.prog.info? 69).map (·.bytes) = some 24 := by kernel_rfl
theorem one_69 : One Tryd.prog 69 := One.mk Tryd.underlying69 rfl sz_69
theorem zero_69 : Zero Tryd.prog 69 [.slice none 0 0] := Zero.mk (z := .slice none 0 0) (by kernel_rfl) rfl
theorem sz_71 : (Tryd.prog.info? 71).map (·.size) = some 1 := by kernel_rfl
theorem by_71 : (Tryd.prog.info? 71).map (·.bytes) = some 8 := by kernel_rfl
theorem one_71 : One Tryd.prog 71 := One.mk Tryd.underlying71 rfl sz_71
theorem zero_71 : Zero Tryd.prog 71 [.nilFunc] := Zero.mk (z := .nilFunc) (by kernel_rfl) rfl
theorem sz_72 : (Tryd.prog.info? 72).map (·.size) = some 1 := by kernel_rfl
theorem by_72 : (Tryd.prog.info? 72).map (·.bytes) = some 8 := by kernel_rfl
theorem one_72 : One Tryd.prog 72 := One.mk Tryd.underlying72 rfl sz_72
theorem zero_72 : Zero Tryd.prog 72 [.pointer none] := Zero.mk (z := .pointer none) (by kernel_rfl) rfl
theorem sz_73 : (Tryd.prog.info? 73).map (·.size) = some 5 := by kernel_rfl
theorem by_73 : (Tryd.prog.info? 73).map (·.bytes) = some 64 := by kernel_rfl
theorem many_73 : Many Tryd.prog 73 5 := Many.mk Tryd.underlying73 rfl sz_73
theorem zero_73 : Zero Tryd.prog 73 [.slice none 0 0, .int .i64 0, .int .i64 0, .int .i64 0, .string ⟨#[]⟩] := Zero.mk (z := .agg #[.slice none 0 0, .int .i64 0, .int .i64 0, .int .i64 0, .string ⟨#[]⟩]) (by kernel_rfl) rfl
theorem sz_74 : (Tryd.prog.info? 74).map (·.size) = some 5 := by kernel_rfl
theorem by_74 : (Tryd.prog.info? 74).map (·.bytes) = some 64 := by kernel_rfl
theorem many_74 : Many Tryd.prog 74 5 := Many.mk Tryd.underlying74 rfl sz_74
theorem zero_74 : Zero Tryd.prog 74 [.slice none 0 0, .int .i64 0, .int .i64 0, .int .i64 0, .string ⟨#[]⟩] := Zero.mk (z := .agg #[.slice none 0 0, .int .i64 0, .int .i64 0, .int .i64 0, .string ⟨#[]⟩]) (by kernel_rfl) rfl
theorem sz_75 : (Tryd.prog.info? 75).map (·.size) = some 1 := by kernel_rfl
theorem by_75 : (Tryd.prog.info? 75).map (·.bytes) = some 24 := by kernel_rfl
theorem one_75 : One Tryd.prog 75 := One.mk Tryd.underlying75 rfl sz_75
theorem zero_75 : Zero Tryd.prog 75 [.slice none 0 0] := Zero.mk (z := .slice none 0 0) (by kernel_rfl) rfl
theorem sz_77 : (Tryd.prog.info? 77).map (·.size) = some 1 := by kernel_rfl
theorem by_77 : (Tryd.prog.info? 77).map (·.bytes) = some 8 := by kernel_rfl
theorem one_77 : One Tryd.prog 77 := One.mk Tryd.underlying77 rfl sz_77
theorem zero_77 : Zero Tryd.prog 77 [.nilFunc] := Zero.mk (z := .nilFunc) (by kernel_rfl) rfl
theorem sz_78 : (Tryd.prog.info? 78).map (·.size) = some 1 := by kernel_rfl
theorem by_78 : (Tryd.prog.info? 78).map (·.bytes) = some 8 := by kernel_rfl
theorem one_78 : One Tryd.prog 78 := One.mk Tryd.underlying78 rfl sz_78
theorem zero_78 : Zero Tryd.prog 78 [.nilFunc] := Zero.mk (z := .nilFunc) (by kernel_rfl) rfl
theorem sz_79 : (Tryd.prog.info? 79).map (·.size) = some 1 := by kernel_rfl
theorem by_79 : (Tryd.prog.info? 79).map (·.bytes) = some 8 := by kernel_rfl
theorem one_79 : One Tryd.prog 79 := One.mk Tryd.underlying79 rfl sz_79
theorem zero_79 : Zero Tryd.prog 79 [.nilFunc] := Zero.mk (z := .nilFunc) (by kernel_rfl) rfl
theorem sz_81 : (Tryd.prog.info? 81).map (·.size) = some 1 := by kernel_rfl
theorem by_81 : (Tryd.prog.info? 81).map (·.bytes) = some 8 := by kernel_rfl
theorem one_81 : One Tryd.prog 81 := One.mk Tryd.underlying81 rfl sz_81
theorem zero_81 : Zero Tryd.prog 81 [.nilFunc] := Zero.mk (z := .nilFunc) (by kernel_rfl) rfl
theorem sz_82 : (Tryd.prog.info? 82).map (·.size) = some 1 := by kernel_rfl
theorem by_82 : (Tryd.prog.info? 82).map (·.bytes) = some 8 := by kernel_rfl
theorem one_82 : One Tryd.prog 82 := One.mk Tryd.underlying82 rfl sz_82
theorem zero_82 : Zero Tryd.prog 82 [.nilFunc] := Zero.mk (z := .nilFunc) (by kernel_rfl) rfl
theorem sz_83 : (Tryd.prog.info? 83).map (·.size) = some 1 := by kernel_rfl
theorem by_83 : (Tryd.prog.info? 83).map (·.bytes) = some 8 := by kernel_rfl
theorem one_83 : One Tryd.prog 83 := One.mk Tryd.underlying83 rfl sz_83
theorem zero_83 : Zero Tryd.prog 83 [.nilFunc] := Zero.mk (z := .nilFunc) (by kernel_rfl) rfl
theorem sz_84 : (Tryd.prog.info? 84).map (·.size) = some 1 := by kernel_rfl
theorem by_84 : (Tryd.prog.info? 84).map (·.bytes) = some 8 := by kernel_rfl
theorem one_84 : One Tryd.prog 84 := One.mk Tryd.underlying84 rfl sz_84
theorem zero_84 : Zero Tryd.prog 84 [.nilFunc] := Zero.mk (z := .nilFunc) (by kernel_rfl) rfl
theorem sz_85 : (Tryd.prog.info? 85).map (·.size) = some 1 := by kernel_rfl
theorem by_85 : (Tryd.prog.info? 85).map (·.bytes) = some 8 := by kernel_rfl
theorem one_85 : One Tryd.prog 85 := One.mk Tryd.underlying85 rfl sz_85
theorem zero_85 : Zero Tryd.prog 85 [.pointer none] := Zero.mk (z := .pointer none) (by kernel_rfl) rfl
theorem sz_87 : (Tryd.prog.info? 87).map (·.size) = some 1 := by kernel_rfl
theorem by_87 : (Tryd.prog.info? 87).map (·.bytes) = some 8 := by kernel_rfl
theorem one_87 : One Tryd.prog 87 := One.mk Tryd.underlying87 rfl sz_87
theorem zero_87 : Zero Tryd.prog 87 [.nilFunc] := Zero.mk (z := .nilFunc) (by kernel_rfl) rfl
theorem sz_88 : (Tryd.prog.info? 88).map (·.size) = some 1 := by kernel_rfl
theorem by_88 : (Tryd.prog.info? 88).map (·.bytes) = some 8 := by kernel_rfl
theorem one_88 : One Tryd.prog 88 := One.mk Tryd.underlying88 rfl sz_88
theorem zero_88 : Zero Tryd.prog 88 [.nilFunc] := Zero.mk (z := .nilFunc) (by kernel_rfl) rfl
theorem sz_89 : (Tryd.prog.info? 89).map (·.size) = some 1 := by kernel_rfl
theorem by_89 : (Tryd.prog.info? 89).map (·.bytes) = some 8 := by kernel_rfl
theorem one_89 : One Tryd.prog 89 := One.mk Tryd.underlying89 rfl sz_89
theorem zero_89 : Zero Tryd.prog 89 [.nilFunc] := Zero.mk (z := .nilFunc) (by kernel_rfl) rfl
theorem sz_90 : (Tryd.prog.info? 90).map (·.size) = some 1 := by kernel_rfl
theorem by_90 : (Tryd.prog.info? 90).map (·.bytes) = some 24 := by kernel_rfl
theorem one_90 : One Tryd.prog 90 := One.mk Tryd.underlying90 rfl sz_90
theorem zero_90 : Zero Tryd.prog 90 [.slice none 0 0] := Zero.mk (z := .slice none 0 0) (by kernel_rfl) rfl
theorem sz_91 : (Tryd.prog.info? 91).map (·.size) = some 3 := by kernel_rfl
theorem by_91 : (Tryd.prog.info? 91).map (·.bytes) = some 40 := by kernel_rfl
theorem many_91 : Many Tryd.prog 91 3 := Many.mk Tryd.underlying91 rfl sz_91
theorem zero_91 : Zero Tryd.prog 91 [.int .i64 0, .slice none 0 0, .int .i64 0] := Zero.mk (z := .agg #[.int .i64 0, .slice none 0 0, .int .i64 0]) (by kernel_rfl) rfl
theorem sz_92 : (Tryd.prog.info? 92).map (·.size) = some 3 := by kernel_rfl
theorem by_92 : (Tryd.prog.info? 92).map (·.bytes) = some 40 := by kernel_rfl
theorem many_92 : Many Tryd.prog 92 3 := Many.mk Tryd.underlying92 rfl sz_92
theorem zero_92 : Zero Tryd.prog 92 [.int .i64 0, .slice none 0 0, .int .i64 0] := Zero.mk (z := .agg #[.int .i64 0, .slice none 0 0, .int .i64 0]) (by kernel_rfl) rfl
theorem sz_93 : (Tryd.prog.info? 93).map (·.size) = some 1 := by kernel_rfl
theorem by_93 : (Tryd.prog.info? 93).map (·.bytes) = some 8 := by kernel_rfl
theorem one_93 : One Tryd.prog 93 := One.mk Tryd.underlying93 rfl sz_93
theorem zero_93 : Zero Tryd.prog 93 [.nilFunc] := Zero.mk (z := .nilFunc) (by kernel_rfl) rfl
theorem sz_94 : (Tryd.prog.info? 94).map (·.size) = some 1 := by kernel_rfl
theorem by_94 : (Tryd.prog.info? 94).map (·.bytes) = some 8 := by kernel_rfl
theorem one_94 : One Tryd.prog 94 := One.mk Tryd.underlying94 rfl sz_94
theorem zero_94 : Zero Tryd.prog 94 [.nilFunc] := Zero.mk (z := .nilFunc) (by kernel_rfl) rfl
theorem sz_95 : (Tryd.prog.info? 95).map (·.size) = some 1 := by kernel_rfl
theorem by_95 : (Tryd.prog.info? 95).map (·.bytes) = some 8 := by kernel_rfl
theorem one_95 : One Tryd.prog 95 := One.mk Tryd.underlying95 rfl sz_95
theorem zero_95 : Zero Tryd.prog 95 [.nilFunc] := Zero.mk (z := .nilFunc) (by kernel_rfl) rfl
theorem sz_96 : (Tryd.prog.info? 96).map (·.size) = some 1 := by kernel_rfl
theorem by_96 : (Tryd.prog.info? 96).map (·.bytes) = some 8 := by kernel_rfl
theorem one_96 : One Tryd.prog 96 := One.mk Tryd.underlying96 rfl sz_96
theorem zero_96 : Zero Tryd.prog 96 [.nilFunc] := Zero.mk (z := .nilFunc) (by kernel_rfl) rfl
theorem sz_97 : (Tryd.prog.info? 97).map (·.size) = some 1 := by kernel_rfl
theorem by_97 : (Tryd.prog.info? 97).map (·.bytes) = some 8 := by kernel_rfl
theorem one_97 : One Tryd.prog 97 := One.mk Tryd.underlying97 rfl sz_97
theorem zero_97 : Zero Tryd.prog 97 [.nilFunc] := Zero.mk (z := .nilFunc) (by kernel_rfl) rfl
theorem sz_98 : (Tryd.prog.info? 98).map (·.size) = some 2 := by kernel_rfl
theorem by_98 : (Tryd.prog.info? 98).map (·.bytes) = some 32 := by kernel_rfl
theorem many_98 : Many Tryd.prog 98 2 := Many.mk Tryd.underlying98 rfl sz_98
theorem zero_98 : Zero Tryd.prog 98 [.int .i64 0, .slice none 0 0] := Zero.mk (z := .agg #[.int .i64 0, .slice none 0 0]) (by kernel_rfl) rfl
theorem sz_99 : (Tryd.prog.info? 99).map (·.size) = some 2 := by kernel_rfl
theorem by_99 : (Tryd.prog.info? 99).map (·.bytes) = some 32 := by kernel_rfl
theorem many_99 : Many Tryd.prog 99 2 := Many.mk Tryd.underlying99 rfl sz_99
theorem zero_99 : Zero Tryd.prog 99 [.int .i64 0, .slice none 0 0] := Zero.mk (z := .agg #[.int .i64 0, .slice none 0 0]) (by kernel_rfl) rfl
theorem sz_101 : (Tryd.prog.info? 101).map (·.size) = some 1 := by kernel_rfl
theorem by_101 : (Tryd.prog.info? 101).map (·.bytes) = some 8 := by kernel_rfl
theorem one_101 : One Tryd.prog 101 := One.mk Tryd.underlying101 rfl sz_101
theorem zero_101 : Zero Tryd.prog 101 [.nilFunc] := Zero.mk (z := .nilFunc) (by kernel_rfl) rfl
theorem sz_103 : (Tryd.prog.info? 103).map (·.size) = some 1 := by kernel_rfl
theorem by_103 : (Tryd.prog.info? 103).map (·.bytes) = some 8 := by kernel_rfl
theorem one_103 : One Tryd.prog 103 := One.mk Tryd.underlying103 rfl sz_103
theorem zero_103 : Zero Tryd.prog 103 [.nilFunc] := Zero.mk (z := .nilFunc) (by kernel_rfl) rfl
theorem sz_104 : (Tryd.prog.info? 104).map (·.size) = some 1 := by kernel_rfl
theorem by_104 : (Tryd.prog.info? 104).map (·.bytes) = some 8 := by kernel_rfl
theorem one_104 : One Tryd.prog 104 := One.mk Tryd.underlying104 rfl sz_104
theorem zero_104 : Zero Tryd.prog 104 [.nilFunc] := Zero.mk (z := .nilFunc) (by kernel_rfl) rfl
theorem sz_105 : (Tryd.prog.info? 105).map (·.size) = some 1 := by kernel_rfl
theorem by_105 : (Tryd.prog.info? 105).map (·.bytes) = some 8 := by kernel_rfl
theorem one_105 : One Tryd.prog 105 := One.mk Tryd.underlying105 rfl sz_105
theorem zero_105 : Zero Tryd.prog 105 [.nilFunc] := Zero.mk (z := .nilFunc) (by kernel_rfl) rfl
theorem sz_106 : (Tryd.prog.info? 106).map (·.size) = some 1 := by kernel_rfl
theorem by_106 : (Tryd.prog.info? 106).map (·.bytes) = some 8 := by kernel_rfl
theorem one_106 : One Tryd.prog 106 := One.mk Tryd.underlying106 rfl sz_106
theorem zero_106 : Zero Tryd.prog 106 [.nilFunc] := Zero.mk (z := .nilFunc) (by kernel_rfl) rfl
theorem sz_107 : (Tryd.prog.info? 107).map (·.size) = some 1 := by kernel_rfl
theorem by_107 : (Tryd.prog.info? 107).map (·.bytes) = some 8 := by kernel_rfl
theorem one_107 : One Tryd.prog 107 := One.mk Tryd.underlying107 rfl sz_107
theorem zero_107 : Zero Tryd.prog 107 [.nilFunc] := Zero.mk (z := .nilFunc) (by kernel_rfl) rfl
theorem sz_108 : (Tryd.prog.info? 108).map (·.size) = some 1 := by kernel_rfl
theorem by_108 : (Tryd.prog.info? 108).map (·.bytes) = some 8 := by kernel_rfl
theorem one_108 : One Tryd.prog 108 := One.mk Tryd.underlying108 rfl sz_108
theorem zero_108 : Zero Tryd.prog 108 [.nilFunc] := Zero.mk (z := .nilFunc) (by kernel_rfl) rfl
theorem sz_109 : (Tryd.prog.info? 109).map (·.size) = some 2 := by kernel_rfl
theorem by_109 : (Tryd.prog.info? 109).map (·.bytes) = some 32 := by kernel_rfl
theorem many_109 : Many Tryd.prog 109 2 := Many.mk Tryd.underlying109 rfl sz_109
theorem zero_109 : Zero Tryd.prog 109 [.int .i64 0, .slice none 0 0] := Zero.mk (z := .agg #[.int .i64 0, .slice none 0 0]) (by kernel_rfl) rfl
theorem sz_110 : (Tryd.prog.info? 110).map (·.size) = some 1 := by kernel_rfl
theorem by_110 : (Tryd.prog.info? 110).map (·.bytes) = some 8 := by kernel_rfl
theorem one_110 : One Tryd.prog 110 := One.mk Tryd.underlying110 rfl sz_110
theorem zero_110 : Zero Tryd.prog 110 [.nilFunc] := Zero.mk (z := .nilFunc) (by kernel_rfl) rfl
theorem sz_111 : (Tryd.prog.info? 111).map (·.size) = some 1 := by kernel_rfl
theorem by_111 : (Tryd.prog.info? 111).map (·.bytes) = some 8 := by kernel_rfl
theorem one_111 : One Tryd.prog 111 := One.mk Tryd.underlying111 rfl sz_111
theorem zero_111 : Zero Tryd.prog 111 [.nilFunc] := Zero.mk (z := .nilFunc) (by kernel_rfl) rfl
theorem sz_112 : (Tryd.prog.info? 112).map (·.size) = some 2 := by kernel_rfl
theorem by_112 : (Tryd.prog.info? 112).map (·.bytes) = some 32 := by kernel_rfl
theorem many_112 : Many Tryd.prog 112 2 := Many.mk Tryd.underlying112 rfl sz_112
theorem zero_112 : Zero Tryd.prog 112 [.bool false, .slice none 0 0] := Zero.mk (z := .agg #[.bool false, .slice none 0 0]) (by kernel_rfl) rfl
theorem sz_113 : (Tryd.prog.info? 113).map (·.size) = some 2 := by kernel_rfl
theorem by_113 : (Tryd.prog.info? 113).map (·.bytes) = some 32 := by kernel_rfl
theorem many_113 : Many Tryd.prog 113 2 := Many.mk Tryd.underlying113 rfl sz_113
theorem zero_113 : Zero Tryd.prog 113 [.bool false, .slice none 0 0] := Zero.mk (z := .agg #[.bool false, .slice none 0 0]) (by kernel_rfl) rfl
theorem sz_114 : (Tryd.prog.info? 114).map (·.size) = some 2 := by kernel_rfl
theorem by_114 : (Tryd.prog.info? 114).map (·.bytes) = some 32 := by kernel_rfl
theorem many_114 : Many Tryd.prog 114 2 := Many.mk Tryd.underlying114 rfl sz_114
theorem zero_114 : Zero Tryd.prog 114 [.int .i64 0, .slice none 0 0] := Zero.mk (z := .agg #[.int .i64 0, .slice none 0 0]) (by kernel_rfl) rfl
theorem sz_115 : (Tryd.prog.info? 115).map (·.size) = some 2 := by kernel_rfl
theorem by_115 : (Tryd.prog.info? 115).map (·.bytes) = some 32 := by kernel_rfl
theorem many_115 : Many Tryd.prog 115 2 := Many.mk Tryd.underlying115 rfl sz_115
theorem zero_115 : Zero Tryd.prog 115 [.int .i64 0, .slice none 0 0] := Zero.mk (z := .agg #[.int .i64 0, .slice none 0 0]) (by kernel_rfl) rfl
theorem sz_116 : (Tryd.prog.info? 116).map (·.size) = some 1 := by kernel_rfl
theorem by_116 : (Tryd.prog.info? 116).map (·.bytes) = some 8 := by kernel_rfl
theorem one_116 : One Tryd.prog 116 := One.mk Tryd.underlying116 rfl sz_116
theorem zero_116 : Zero Tryd.prog 116 [.nilFunc] := Zero.mk (z := .nilFunc) (by kernel_rfl) rfl
theorem sz_117 : (Tryd.prog.info? 117).map (·.size) = some 1 := by kernel_rfl
theorem by_117 : (Tryd.prog.info? 117).map (·.bytes) = some 8 := by kernel_rfl
theorem one_117 : One Tryd.prog 117 := One.mk Tryd.underlying117 rfl sz_117
theorem zero_117 : Zero Tryd.prog 117 [.nilFunc] := Zero.mk (z := .nilFunc) (by kernel_rfl) rfl
theorem sz_118 : (Tryd.prog.info? 118).map (·.size) = some 2 := by kernel_rfl
theorem by_118 : (Tryd.prog.info? 118).map (·.bytes) = some 32 := by kernel_rfl
theorem many_118 : Many Tryd.prog 118 2 := Many.mk Tryd.underlying118 rfl sz_118
theorem zero_118 : Zero Tryd.prog 118 [.slice none 0 0, .int .i64 0] := Zero.mk (z := .agg #[.slice none 0 0, .int .i64 0]) (by kernel_rfl) rfl
theorem sz_119 : (Tryd.prog.info? 119).map (·.size) = some 2 := by kernel_rfl
theorem by_119 : (Tryd.prog.info? 119).map (·.bytes) = some 32 := by kernel_rfl
theorem many_119 : Many Tryd.prog 119 2 := Many.mk Tryd.underlying119 rfl sz_119
theorem zero_119 : Zero Tryd.prog 119 [.slice none 0 0, .int .i64 0] := Zero.mk (z := .agg #[.slice none 0 0, .int .i64 0]) (by kernel_rfl) rfl
theorem sz_120 : (Tryd.prog.info? 120).map (·.size) = some 1 := by kernel_rfl
theorem by_120 : (Tryd.prog.info? 120).map (·.bytes) = some 8 := by kernel_rfl
theorem one_120 : One Tryd.prog 120 := One.mk Tryd.underlying120 rfl sz_120
theorem zero_120 : Zero Tryd.prog 120 [.pointer none] := Zero.mk (z := .pointer none) (by kernel_rfl) rfl
theorem sz_121 : (Tryd.prog.info? 121).map (·.size) = some 1 := by kernel_rfl
theorem by_121 : (Tryd.prog.info? 121).map (·.bytes) = some 8 := by kernel_rfl
theorem one_121 : One Tryd.prog 121 := One.mk Tryd.underlying121 rfl sz_121
theorem zero_121 : Zero Tryd.prog 121 [.nilFunc] := Zero.mk (z := .nilFunc) (by kernel_rfl) rfl
theorem sz_123 : (Tryd.prog.info? 123).map (·.size) = some 1 := by kernel_rfl
theorem by_123 : (Tryd.prog.info? 123).map (·.bytes) = some 8 := by kernel_rfl
theorem one_123 : One Tryd.prog 123 := One.mk Tryd.underlying123 rfl sz_123
theorem zero_123 : Zero Tryd.prog 123 [.nilFunc] := Zero.mk (z := .nilFunc) (by kernel_rfl) rfl
theorem sz_125 : (Tryd.prog.info? 125).map (·.size) = some 1 := by kernel_rfl
theorem by_125 : (Tryd.prog.info? 125).map (·.bytes) = some 8 := by kernel_rfl
theorem one_125 : One Tryd.prog 125 := One.mk Tryd.underlying125 rfl sz_125
theorem zero_125 : Zero Tryd.prog 125 [.nilFunc] := Zero.mk (z := .nilFunc) (by kernel_rfl) rfl
theorem sz_127 : (Tryd.prog.info? 127).map (·.size) = some 1 := by kernel_rfl
theorem by_127 : (Tryd.prog.info? 127).map (·.bytes) = some 8 := by kernel_rfl
theorem one_127 : One Tryd.prog 127 := One.mk Tryd.underlying127 rfl sz_127
theorem zero_127 : Zero Tryd.prog 127 [.nilFunc] := Zero.mk (z := .nilFunc) (by kernel_rfl) rfl
theorem sz_129 : (Tryd.prog.info? 129).map (·.size) = some 1 := by kernel_rfl
theorem by_129 : (Tryd.prog.info? 129).map (·.bytes) = some 8 := by kernel_rfl
theorem one_129 : One Tryd.prog 129 := One.mk Tryd.underlying129 rfl sz_129
theorem zero_129 : Zero Tryd.prog 129 [.nilFunc] := Zero.mk (z := .nilFunc) (by kernel_rfl) rfl
theorem sz_130 : (Tryd.prog.info? 130).map (·.size) = some 1 := by kernel_rfl
theorem by_130 : (Tryd.prog.info? 130).map (·.bytes) = some 8 := by kernel_rfl
theorem one_130 : One Tryd.prog 130 := One.mk Tryd.underlying130 rfl sz_130
theorem zero_130 : Zero Tryd.prog 130 [.nilFunc] := Zero.mk (z := .nilFunc) (by kernel_rfl) rfl
theorem sz_131 : (Tryd.prog.info? 131).map (·.size) = some 2 := by kernel_rfl
theorem by_131 : (Tryd.prog.info? 131).map (·.bytes) = some 16 := by kernel_rfl
theorem many_131 : Many Tryd.prog 131 2 := Many.mk Tryd.underlying131 rfl sz_131
theorem zero_131 : Zero Tryd.prog 131 [.int .u32 0, .int .i64 0] := Zero.mk (z := .agg #[.int .u32 0, .int .i64 0]) (by kernel_rfl) rfl
theorem sz_132 : (Tryd.prog.info? 132).map (·.size) = some 2 := by kernel_rfl
theorem by_132 : (Tryd.prog.info? 132).map (·.bytes) = some 16 := by kernel_rfl
theorem many_132 : Many Tryd.prog 132 2 := Many.mk Tryd.underlying132 rfl sz_132
theorem zero_132 : Zero Tryd.prog 132 [.int .u32 0, .int .i64 0] := Zero.mk (z := .agg #[.int .u32 0, .int .i64 0]) (by kernel_rfl) rfl
theorem sz_133 : (Tryd.prog.info? 133).map (·.size) = some 1 := by kernel_rfl
theorem by_133 : (Tryd.prog.info? 133).map (·.bytes) = some 8 := by kernel_rfl
theorem one_133 : One Tryd.prog 133 := One.mk Tryd.underlying133 rfl sz_133
theorem zero_133 : Zero Tryd.prog 133 [.map none] := Zero.mk (z := .map none) (by kernel_rfl) rfl
theorem sz_134 : (Tryd.prog.info? 134).map (·.size) = some 1 := by kernel_rfl
theorem by_134 : (Tryd.prog.info? 134).map (·.bytes) = some 8 := by kernel_rfl
theorem one_134 : One Tryd.prog 134 := One.mk Tryd.underlying134 rfl sz_134
theorem zero_134 : Zero Tryd.prog 134 [.nilFunc] := Zero.mk (z := .nilFunc) (by kernel_rfl) rfl
theorem sz_135 : (Tryd.prog.info? 135).map (·.size) = some 2 := by kernel_rfl
theorem by_135 : (Tryd.prog.info? 135).map (·.bytes) = some 32 := by kernel_rfl
theorem many_135 : Many Tryd.prog 135 2 := Many.mk Tryd.underlying135 rfl sz_135
theorem zero_135 : Zero Tryd.prog 135 [.int .i64 0, .slice none 0 0] := Zero.mk (z := .agg #[.int .i64 0, .slice none 0 0]) (by kernel_rfl) rfl
theorem sz_137 : (Tryd.prog.info? 137).map (·.size) = some 1 := by kernel_rfl
theorem by_137 : (Tryd.prog.info? 137).map (·.bytes) = some 8 := by kernel_rfl
theorem one_137 : One Tryd.prog 137 := One.mk Tryd.underlying137 rfl sz_137
theorem zero_137 : Zero Tryd.prog 137 [.nilFunc] := Zero.mk (z := .nilFunc) (by kernel_rfl) rfl
theorem sz_138 : (Tryd.prog.info? 138).map (·.size) = some 1 := by kernel_rfl
theorem by_138 : (Tryd.prog.info? 138).map (·.bytes) = some 8 := by kernel_rfl
theorem one_138 : One Tryd.prog 138 := One.mk Tryd.underlying138 rfl sz_138
theorem zero_138 : Zero Tryd.prog 138 [.nilFunc] := Zero.mk (z := .nilFunc) (by kernel_rfl) rfl
theorem sz_139 : (Tryd.prog.info? 139).map (·.size) = some 1 := by kernel_rfl
theorem by_139 : (Tryd.prog.info? 139).map (·.bytes) = some 8 := by kernel_rfl
theorem one_139 : One Tryd.prog 139 := One.mk Tryd.underlying139 rfl sz_139
theorem zero_139 : Zero Tryd.prog 139 [.nilFunc] := Zero.mk (z := .nilFunc) (by kernel_rfl) rfl
theorem sz_140 : (Tryd.prog.info? 140).map (·.size) = some 2 := by kernel_rfl
theorem by_140 : (Tryd.prog.info? 140).map (·.bytes) = some 32 := by kernel_rfl
theorem many_140 : Many Tryd.prog 140 2 := Many.mk Tryd.underlying140 rfl sz_140
theorem zero_140 : Zero Tryd.prog 140 [.bool false, .slice none 0 0] := Zero.mk (z := .agg #[.bool false, .slice none 0 0]) (by kernel_rfl) rfl
theorem sz_141 : (Tryd.prog.info? 141).map (·.size) = some 1 := by kernel_rfl
theorem by_141 : (Tryd.prog.info? 141).map (·.bytes) = some 8 := by kernel_rfl
theorem one_141 : One Tryd.prog 141 := One.mk Tryd.underlying141 rfl sz_141
theorem zero_141 : Zero Tryd.prog 141 [.nilFunc] := Zero.mk (z := .nilFunc) (by kernel_rfl) rfl
theorem sz_142 : (Tryd.prog.info? 142).map (·.size) = some 1 := by kernel_rfl
theorem by_142 : (Tryd.prog.info? 142).map (·.bytes) = some 8 := by kernel_rfl
theorem one_142 : One Tryd.prog 142 := One.mk Tryd.underlying142 rfl sz_142
theorem zero_142 : Zero Tryd.prog 142 [.nilFunc] := Zero.mk (z := .nilFunc) (by kernel_rfl) rfl
theorem sz_143 : (Tryd.prog.info? 143).map (·.size) = some 1 := by kernel_rfl
theorem by_143 : (Tryd.prog.info? 143).map (·.bytes) = some 8 := by kernel_rfl
theorem one_143 : One Tryd.prog 143 := One.mk Tryd.underlying143 rfl sz_143
theorem zero_143 : Zero Tryd.prog 143 [.nilFunc] := Zero.mk (z := .nilFunc) (by kernel_rfl) rfl
theorem sz_144 : (Tryd.prog.info? 144).map (·.size) = some 1 := by kernel_rfl
theorem by_144 : (Tryd.prog.info? 144).map (·.bytes) = some 8 := by kernel_rfl
theorem one_144 : One Tryd.prog 144 := One.mk Tryd.underlying144 rfl sz_144
theorem zero_144 : Zero Tryd.prog 144 [.nilFunc] := Zero.mk (z := .nilFunc) (by kernel_rfl) rfl
theorem sz_146 : (Tryd.prog.info? 146).map (·.size) = some 1 := by kernel_rfl
theorem by_146 : (Tryd.prog.info? 146).map (·.bytes) = some 8 := by kernel_rfl
theorem one_146 : One Tryd.prog 146 := One.mk Tryd.underlying146 rfl sz_146
theorem zero_146 : Zero Tryd.prog 146 [.nilFunc] := Zero.mk (z := .nilFunc) (by kernel_rfl) rfl
theorem sz_147 : (Tryd.prog.info? 147).map (·.size) = some 1 := by kernel_rfl
theorem by_147 : (Tryd.prog.info? 147).map (·.bytes) = some 8 := by kernel_rfl
theorem one_147 : One Tryd.prog 147 := One.mk Tryd.underlying147 rfl sz_147
theorem zero_147 : Zero Tryd.prog 147 [.nilFunc] := Zero.mk (z := .nilFunc) (by kernel_rfl) rfl
theorem sz_148 : (Tryd.prog.info? 148).map (·.size) = some 1 := by kernel_rfl
theorem by_148 : (Tryd.prog.info? 148).map (·.bytes) = some 24 := by kernel_rfl
theorem one_148 : One Tryd.prog 148 := One.mk Tryd.underlying148 rfl sz_148
theorem zero_148 : Zero Tryd.prog 148 [.slice none 0 0] := Zero.mk (z := .slice none 0 0) (by kernel_rfl) rfl
theorem sz_149 : (Tryd.prog.info? 149).map (·.size) = some 256 := by kernel_rfl
theorem by_149 : (Tryd.prog.info? 149).map (·.bytes) = some 256 := by kernel_rfl
theorem many_149 : Many Tryd.prog 149 256 := Many.mk Tryd.underlying149 rfl sz_149
theorem sz_151 : (Tryd.prog.info? 151).map (·.size) = some 1 := by kernel_rfl
theorem by_151 : (Tryd.prog.info? 151).map (·.bytes) = some 8 := by kernel_rfl
theorem one_151 : One Tryd.prog 151 := One.mk Tryd.underlying151 rfl sz_151
theorem zero_151 : Zero Tryd.prog 151 [.nilFunc] := Zero.mk (z := .nilFunc) (by kernel_rfl) rfl
theorem sz_152 : (Tryd.prog.info? 152).map (·.size) = some 1 := by kernel_rfl
theorem by_152 : (Tryd.prog.info? 152).map (·.bytes) = some 8 := by kernel_rfl
theorem one_152 : One Tryd.prog 152 := One.mk Tryd.underlying152 rfl sz_152
theorem zero_152 : Zero Tryd.prog 152 [.nilFunc] := Zero.mk (z := .nilFunc) (by kernel_rfl) rfl
theorem sz_153 : (Tryd.prog.info? 153).map (·.size) = some 1 := by kernel_rfl
theorem by_153 : (Tryd.prog.info? 153).map (·.bytes) = some 8 := by kernel_rfl
theorem one_153 : One Tryd.prog 153 := One.mk Tryd.underlying153 rfl sz_153
theorem zero_153 : Zero Tryd.prog 153 [.nilFunc] := Zero.mk (z := .nilFunc) (by kernel_rfl) rfl
theorem sz_154 : (Tryd.prog.info? 154).map (·.size) = some 1 := by kernel_rfl
theorem by_154 : (Tryd.prog.info? 154).map (·.bytes) = some 8 := by kernel_rfl
theorem one_154 : One Tryd.prog 154 := One.mk Tryd.underlying154 rfl sz_154
theorem zero_154 : Zero Tryd.prog 154 [.nilFunc] := Zero.mk (z := .nilFunc) (by kernel_rfl) rfl
theorem sz_155 : (Tryd.prog.info? 155).map (·.size) = some 1 := by kernel_rfl
theorem by_155 : (Tryd.prog.info? 155).map (·.bytes) = some 8 := by kernel_rfl
theorem one_155 : One Tryd.prog 155 := One.mk Tryd.underlying155 rfl sz_155
theorem zero_155 : Zero Tryd.prog 155 [.nilFunc] := Zero.mk (z := .nilFunc) (by kernel_rfl) rfl
theorem sz_156 : (Tryd.prog.info? 156).map (·.size) = some 1 := by kernel_rfl
theorem by_156 : (Tryd.prog.info? 156).map (·.bytes) = some 8 := by kernel_rfl
theorem one_156 : One Tryd.prog 156 := One.mk Tryd.underlying156 rfl sz_156
theorem zero_156 : Zero Tryd.prog 156 [.nilFunc] := Zero.mk (z := .nilFunc) (by kernel_rfl) rfl
theorem sz_157 : (Tryd.prog.info? 157).map (·.size) = some 9 := by kernel_rfl
theorem by_157 : (Tryd.prog.info? 157).map (·.bytes) = some 72 := by kernel_rfl
theorem many_157 : Many Tryd.prog 157 9 := Many.mk Tryd.underlying157 rfl sz_157
theorem zero_157 : Zero Tryd.prog 157 [.int .i64 0, .int .i64 0, .int .i64 0, .int .i64 0, .int .i64 0, .int .i64 0, .int .i64 0, .int .i64 0, .int .i64 0] := Zero.mk (z := .agg #[.int .i64 0, .int .i64 0, .int .i64 0, .int .i64 0, .int .i64 0, .int .i64 0, .int .i64 0, .int .i64 0, .int .i64 0]) (by kernel_rfl) rfl
theorem sz_159 : (Tryd.prog.info? 159).map (·.size) = some 1 := by kernel_rfl
theorem by_159 : (Tryd.prog.info? 159).map (·.bytes) = some 8 := by kernel_rfl
theorem one_159 : One Tryd.prog 159 := One.mk Tryd.underlying159 rfl sz_159
theorem zero_159 : Zero Tryd.prog 159 [.nilFunc] := Zero.mk (z := .nilFunc) (by kernel_rfl) rfl
theorem sz_160 : (Tryd.prog.info? 160).map (·.size) = some 1 := by kernel_rfl
theorem by_160 : (Tryd.prog.info? 160).map (·.bytes) = some 8 := by kernel_rfl
theorem one_160 : One Tryd.prog 160 := One.mk Tryd.underlying160 rfl sz_160
theorem zero_160 : Zero Tryd.prog 160 [.int .u64 0] := Zero.mk (z := .int .u64 0) (by kernel_rfl) rfl
theorem sz_162 : (Tryd.prog.info? 162).map (·.size) = some 1 := by kernel_rfl
theorem by_162 : (Tryd.prog.info? 162).map (·.bytes) = some 8 := by kernel_rfl
theorem one_162 : One Tryd.prog 162 := One.mk Tryd.underlying162 rfl sz_162
theorem zero_162 : Zero Tryd.prog 162 [.nilFunc] := Zero.mk (z := .nilFunc) (by kernel_rfl) rfl
theorem sz_163 : (Tryd.prog.info? 163).map (·.size) = some 1 := by kernel_rfl
theorem by_163 : (Tryd.prog.info? 163).map (·.bytes) = some 8 := by kernel_rfl
theorem one_163 : One Tryd.prog 163 := One.mk Tryd.underlying163 rfl sz_163
theorem zero_163 : Zero Tryd.prog 163 [.pointer none] := Zero.mk (z := .pointer none) (by kernel_rfl) rfl
theorem sz_164 : (Tryd.prog.info? 164).map (·.size) = some 1 := by kernel_rfl
theorem by_164 : (Tryd.prog.info? 164).map (·.bytes) = some 8 := by kernel_rfl
theorem one_164 : One Tryd.prog 164 := One.mk Tryd.underlying164 rfl sz_164
theorem zero_164 : Zero Tryd.prog 164 [.nilFunc] := Zero.mk (z := .nilFunc) (by kernel_rfl) rfl
theorem sz_165 : (Tryd.prog.info? 165).map (·.size) = some 1 := by kernel_rfl
theorem by_165 : (Tryd.prog.info? 165).map (·.bytes) = some 8 := by kernel_rfl
theorem one_165 : One Tryd.prog 165 := One.mk Tryd.underlying165 rfl sz_165
theorem zero_165 : Zero Tryd.prog 165 [.nilFunc] := Zero.mk (z := .nilFunc) (by kernel_rfl) rfl
theorem sz_166 : (Tryd.prog.info? 166).map (·.size) = some 1 := by kernel_rfl
theorem by_166 : (Tryd.prog.info? 166).map (·.bytes) = some 8 := by kernel_rfl
theorem one_166 : One Tryd.prog 166 := One.mk Tryd.underlying166 rfl sz_166
theorem zero_166 : Zero Tryd.prog 166 [.nilFunc] := Zero.mk (z := .nilFunc) (by kernel_rfl) rfl
theorem sz_167 : (Tryd.prog.info? 167).map (·.size) = some 1 := by kernel_rfl
theorem by_167 : (Tryd.prog.info? 167).map (·.bytes) = some 8 := by kernel_rfl
theorem one_167 : One Tryd.prog 167 := One.mk Tryd.underlying167 rfl sz_167
theorem zero_167 : Zero Tryd.prog 167 [.nilFunc] := Zero.mk (z := .nilFunc) (by kernel_rfl) rfl
theorem sz_169 : (Tryd.prog.info? 169).map (·.size) = some 1 := by kernel_rfl
theorem by_169 : (Tryd.prog.info? 169).map (·.bytes) = some 8 := by kernel_rfl
theorem one_169 : One Tryd.prog 169 := One.mk Tryd.underlying169 rfl sz_169
theorem zero_169 : Zero Tryd.prog 169 [.nilFunc] := Zero.mk (z := .nilFunc) (by kernel_rfl) rfl
theorem sz_170 : (Tryd.prog.info? 170).map (·.size) = some 1 := by kernel_rfl
theorem by_170 : (Tryd.prog.info? 170).map (·.bytes) = some 8 := by kernel_rfl
theorem one_170 : One Tryd.prog 170 := One.mk Tryd.underlying170 rfl sz_170
theorem zero_170 : Zero Tryd.prog 170 [.nilFunc] := Zero.mk (z := .nilFunc) (by kernel_rfl) rfl
theorem sz_171 : (Tryd.prog.info? 171).map (·.size) = some 1 := by kernel_rfl
theorem by_171 : (Tryd.prog.info? 171).map (·.bytes) = some 8 := by kernel_rfl
theorem one_171 : One Tryd.prog 171 := One.mk Tryd.underlying171 rfl sz_171
theorem zero_171 : Zero Tryd.prog 171 [.nilFunc] := Zero.mk (z := .nilFunc) (by kernel_rfl) rfl
theorem sz_172 : (Tryd.prog.info? 172).map (·.size) = some 1 := by kernel_rfl
theorem by_172 : (Tryd.prog.info? 172).map (·.bytes) = some 8 := by kernel_rfl
theorem one_172 : One Tryd.prog 172 := One.mk Tryd.underlying172 rfl sz_172
theorem zero_172 : Zero Tryd.prog 172 [.nilFunc] := Zero.mk (z := .nilFunc) (by kernel_rfl) rfl
theorem sz_173 : (Tryd.prog.info? 173).map (·.size) = some 1 := by kernel_rfl
theorem by_173 : (Tryd.prog.info? 173).map (·.bytes) = some 8 := by kernel_rfl
theorem one_173 : One Tryd.prog 173 := One.mk Tryd.underlying173 rfl sz_173
theorem zero_173 : Zero Tryd.prog 173 [.nilFunc] := Zero.mk (z := .nilFunc) (by kernel_rfl) rfl
theorem sz_174 : (Tryd.prog.info? 174).map (·.size) = some 1 := by kernel_rfl
theorem by_174 : (Tryd.prog.info? 174).map (·.bytes) = some 8 := by kernel_rfl
theorem one_174 : One Tryd.prog 174 := One.mk Tryd.underlying174 rfl sz_174
theorem zero_174 : Zero Tryd.prog 174 [.nilFunc] := Zero.mk (z := .nilFunc) (by kernel_rfl) rfl
theorem sz_175 : (Tryd.prog.info? 175).map (·.size) = some 1 := by kernel_rfl
theorem by_175 : (Tryd.prog.info? 175).map (·.bytes) = some 8 := by kernel_rfl
theorem one_175 : One Tryd.prog 175 := One.mk Tryd.underlying175 rfl sz_175
theorem zero_175 : Zero Tryd.prog 175 [.int .i64 0] := Zero.mk (z := .int .i64 0) (by kernel_rfl) rfl
theorem sz_177 : (Tryd.prog.info? 177).map (·.size) = some 1 := by kernel_rfl
theorem by_177 : (Tryd.prog.info? 177).map (·.bytes) = some 8 := by kernel_rfl
theorem one_177 : One Tryd.prog 177 := One.mk Tryd.underlying177 rfl sz_177
theorem zero_177 : Zero Tryd.prog 177 [.nilFunc] := Zero.mk (z := .nilFunc) (by kernel_rfl) rfl
theorem sz_178 : (Tryd.prog.info? 178).map (·.size) = some 1 := by kernel_rfl
theorem by_178 : (Tryd.prog.info? 178).map (·.bytes) = some 8 := by kernel_rfl
theorem one_178 : One Tryd.prog 178 := One.mk Tryd.underlying178 rfl sz_178
theorem zero_178 : Zero Tryd.prog 178 [.nilFunc] := Zero.mk (z := .nilFunc) (by kernel_rfl) rfl
theorem sz_179 : (Tryd.prog.info? 179).map (·.size) = some 1 := by kernel_rfl
theorem by_179 : (Tryd.prog.info? 179).map (·.bytes) = some 8 := by kernel_rfl
theorem one_179 : One Tryd.prog 179 := One.mk Tryd.underlying179 rfl sz_179
theorem zero_179 : Zero Tryd.prog 179 [.nilFunc] := Zero.mk (z := .nilFunc) (by kernel_rfl) rfl
theorem sz_181 : (Tryd.prog.info? 181).map (·.size) = some 1 := by kernel_rfl
theorem by_181 : (Tryd.prog.info? 181).map (·.bytes) = some 8 := by kernel_rfl
theorem one_181 : One Tryd.prog 181 := One.mk Tryd.underlying181 rfl sz_181
theorem zero_181 : Zero Tryd.prog 181 [.nilFunc] := Zero.mk (z := .nilFunc) (by kernel_rfl) rfl
theorem sz_182 : (Tryd.prog.info? 182).map (·.size) = some 1 := by kernel_rfl
theorem by_182 : (Tryd.prog.info? 182).map (·.bytes) = some 8 := by kernel_rfl
theorem one_182 : One Tryd.prog 182 := One.mk Tryd.underlying182 rfl sz_182
theorem zero_182 : Zero Tryd.prog 182 [.nilFunc] := Zero.mk (z := .nilFunc) (by kernel_rfl) rfl
theorem sz_183 : (Tryd.prog.info? 183).map (·.size) = some 1 := by kernel_rfl
theorem by_183 : (Tryd.prog.info? 183).map (·.bytes) = some 8 := by kernel_rfl
theorem one_183 : One Tryd.prog 183 := One.mk Tryd.underlying183 rfl sz_183
theorem zero_183 : Zero Tryd.prog 183 [.nilFunc] := Zero.mk (z := .nilFunc) (by kernel_rfl) rfl
theorem sz_184 : (Tryd.prog.info? 184).map (·.size) = some 1 := by kernel_rfl
theorem by_184 : (Tryd.prog.info? 184).map (·.bytes) = some 8 := by kernel_rfl
theorem one_184 : One Tryd.prog 184 := One.mk Tryd.underlying184 rfl sz_184
theorem zero_184 : Zero Tryd.prog 184 [.int .u64 0] := Zero.mk (z := .int .u64 0) (by kernel_rfl) rfl
theorem sz_185 : (Tryd.prog.info? 185).map (·.size) = some 1 := by kernel_rfl
theorem by_185 : (Tryd.prog.info? 185).map (·.bytes) = some 8 := by kernel_rfl
theorem one_185 : One Tryd.prog 185 := One.mk Tryd.underlying185 rfl sz_185
theorem zero_185 : Zero Tryd.prog 185 [.nilFunc] := Zero.mk (z := .nilFunc) (by kernel_rfl) rfl
theorem sz_186 : (Tryd.prog.info? 186).map (·.size) = some 1 := by kernel_rfl
theorem by_186 : (Tryd.prog.info? 186).map (·.bytes) = some 8 := by kernel_rfl
theorem one_186 : One Tryd.prog 186 := One.mk Tryd.underlying186 rfl sz_186
theorem zero_186 : Zero Tryd.prog 186 [.nilFunc] := Zero.mk (z := .nilFunc) (by kernel_rfl) rfl
theorem sz_187 : (Tryd.prog.info? 187).map (·.size) = some 1 := by kernel_rfl
theorem by_187 : (Tryd.prog.info? 187).map (·.bytes) = some 8 := by kernel_rfl
theorem one_187 : One Tryd.prog 187 := One.mk Tryd.underlying187 rfl sz_187
theorem zero_187 : Zero Tryd.prog 187 [.nilFunc] := Zero.mk (z := .nilFunc) (by kernel_rfl) rfl
theorem sz_188 : (Tryd.prog.info? 188).map (·.size) = some 1 := by kernel_rfl
theorem by_188 : (Tryd.prog.info? 188).map (·.bytes) = some 8 := by kernel_rfl
theorem one_188 : One Tryd.prog 188 := One.mk Tryd.underlying188 rfl sz_188
theorem zero_188 : Zero Tryd.prog 188 [.pointer none] := Zero.mk (z := .pointer none) (by kernel_rfl) rfl
theorem sz_189 : (Tryd.prog.info? 189).map (·.size) = some 1 := by kernel_rfl
theorem by_189 : (Tryd.prog.info? 189).map (·.bytes) = some 8 := by kernel_rfl
theorem one_189 : One Tryd.prog 189 := One.mk Tryd.underlying189 rfl sz_189
theorem zero_189 : Zero Tryd.prog 189 [.nilFunc] := Zero.mk (z := .nilFunc) (by kernel_rfl) rfl
theorem sz_190 : (Tryd.prog.info? 190).map (·.size) = some 1 := by kernel_rfl
theorem by_190 : (Tryd.prog.info? 190).map (·.bytes) = some 8 := by kernel_rfl
theorem one_190 : One Tryd.prog 190 := One.mk Tryd.underlying190 rfl sz_190
theorem zero_190 : Zero Tryd.prog 190 [.pointer none] := Zero.mk (z := .pointer none) (by kernel_rfl) rfl
theorem sz_192 : (Tryd.prog.info? 192).map (·.size) = some 1 := by kernel_rfl
theorem by_192 : (Tryd.prog.info? 192).map (·.bytes) = some 8 := by kernel_rfl
theorem one_192 : One Tryd.prog 192 := One.mk Tryd.underlying192 rfl sz_192
theorem zero_192 : Zero Tryd.prog 192 [.nilFunc] := Zero.mk (z := .nilFunc) (by kernel_rfl) rfl
theorem sz_193 : (Tryd.prog.info? 193).map (·.size) = some 1 := by kernel_rfl
theorem by_193 : (Tryd.prog.info? 193).map (·.bytes) = some 8 := by kernel_rfl
theorem one_193 : One Tryd.prog 193 := One.mk Tryd.underlying193 rfl sz_193
theorem zero_193 : Zero Tryd.prog 193 [.nilFunc] := Zero.mk (z := .nilFunc) (by kernel_rfl) rfl
theorem sz_194 : (Tryd.prog.info? 194).map (·.size) = some 4 := by kernel_rfl
theorem by_194 : (Tryd.prog.info? 194).map (·.bytes) = some 40 := by kernel_rfl
theorem many_194 : Many Tryd.prog 194 4 := Many.mk Tryd.underlying194 rfl sz_194
theorem zero_194 : Zero Tryd.prog 194 [.pointer none, .pointer none, .pointer none, .string ⟨#[]⟩] := Zero.mk (z := .agg #[.pointer none, .pointer none, .pointer none, .string ⟨#[]⟩]) (by kernel_rfl) rfl
theorem sz_195 : (Tryd.prog.info? 195).map (·.size) = some 4 := by kernel_rfl
theorem by_195 : (Tryd.prog.info? 195).map (·.bytes) = some 40 := by kernel_rfl
theorem many_195 : Many Tryd.prog 195 4 := Many.mk Tryd.underlying195 rfl sz_195
theorem zero_195 : Zero Tryd.prog 195 [.pointer none, .pointer none, .pointer none, .string ⟨#[]⟩] := Zero.mk (z := .agg #[.pointer none, .pointer none, .pointer none, .string ⟨#[]⟩]) (by kernel_rfl) rfl
theorem sz_196 : (Tryd.prog.info? 196).map (·.size) = some 0 := by kernel_rfl
theorem by_196 : (Tryd.prog.info? 196).map (·.bytes) = some 0 := by kernel_rfl
theorem many_196 : Many Tryd.prog 196 0 := Many.mk Tryd.underlying196 rfl sz_196
theorem zero_196 : Zero Tryd.prog 196 [] := Zero.mk (z := .agg #[]) (by kernel_rfl) rfl
theorem sz_197 : (Tryd.prog.info? 197).map (·.size) = some 0 := by kernel_rfl
theorem by_197 : (Tryd.prog.info? 197).map (·.bytes) = some 0 := by kernel_rfl
theorem many_197 : Many Tryd.prog 197 0 := Many.mk Tryd.underlying197 rfl sz_197
theorem zero_197 : Zero Tryd.prog 197 [] := Zero.mk (z := .agg #[]) (by kernel_rfl) rfl
theorem sz_198 : (Tryd.prog.info? 198).map (·.size) = some 0 := by kernel_rfl
theorem by_198 : (Tryd.prog.info? 198).map (·.bytes) = some 0 := by kernel_rfl
theorem many_198 : Many Tryd.prog 198 0 := Many.mk Tryd.underlying198 rfl sz_198
theorem zero_198 : Zero Tryd.prog 198 [] := Zero.mk (z := .agg #[]) (by kernel_rfl) rfl
theorem sz_199 : (Tryd.prog.info? 199).map (·.size) = some 1 := by kernel_rfl
theorem by_199 : (Tryd.prog.info? 199).map (·.bytes) = some 1 := by kernel_rfl
theorem one_199 : One Tryd.prog 199 := One.mk Tryd.underlying199 rfl sz_199
theorem zero_199 : Zero Tryd.prog 199 [.int .u8 0] := Zero.mk (z := .int .u8 0) (by kernel_rfl) rfl
theorem sz_200 : (Tryd.prog.info? 200).map (·.size) = some 1 := by kernel_rfl
theorem by_200 : (Tryd.prog.info? 200).map (·.bytes) = some 1 := by kernel_rfl
theorem one_200 : One Tryd.prog 200 := One.mk Tryd.underlying200 rfl sz_200
theorem zero_200 : Zero Tryd.prog 200 [.int .u8 0] := Zero.mk (z := .int .u8 0) (by kernel_rfl) rfl
theorem sz_201 : (Tryd.prog.info? 201).map (·.size) = some 1 := by kernel_rfl
theorem by_201 : (Tryd.prog.info? 201).map (·.bytes) = some 8 := by kernel_rfl
theorem one_201 : One Tryd.prog 201 := One.mk Tryd.underlying201 rfl sz_201
theorem zero_201 : Zero Tryd.prog 201 [.nilFunc] := Zero.mk (z := .nilFunc) (by kernel_rfl) rfl
theorem sz_202 : (Tryd.prog.info? 202).map (·.size) = some 1 := by kernel_rfl
theorem by_202 : (Tryd.prog.info? 202).map (·.bytes) = some 8 := by kernel_rfl
theorem one_202 : One Tryd.prog 202 := One.mk Tryd.underlying202 rfl sz_202
theorem zero_202 : Zero Tryd.prog 202 [.pointer none] := Zero.mk (z := .pointer none) (by kernel_rfl) rfl
theorem sz_203 : (Tryd.prog.info? 203).map (·.size) = some 1 := by kernel_rfl
theorem by_203 : (Tryd.prog.info? 203).map (·.bytes) = some 4 := by kernel_rfl
theorem one_203 : One Tryd.prog 203 := One.mk Tryd.underlying203 rfl sz_203
theorem zero_203 : Zero Tryd.prog 203 [.int .i32 0] := Zero.mk (z := .int .i32 0) (by kernel_rfl) rfl
theorem sz_204 : (Tryd.prog.info? 204).map (·.size) = some 1 := by kernel_rfl
theorem by_204 : (Tryd.prog.info? 204).map (·.bytes) = some 4 := by kernel_rfl
theorem one_204 : One Tryd.prog 204 := One.mk Tryd.underlying204 rfl sz_204
theorem zero_204 : Zero Tryd.prog 204 [.int .i32 0] := Zero.mk (z := .int .i32 0) (by kernel_rfl) rfl
theorem sz_205 : (Tryd.prog.info? 205).map (·.size) = some 11 := by kernel_rfl
theorem by_205 : (Tryd.prog.info? 205).map (·.bytes) = some 48 := by kernel_rfl
theorem many_205 : Many Tryd.prog 205 11 := Many.mk Tryd.underlying205 rfl sz_205
theorem zero_205 : Zero Tryd.prog 205 [.int .u64 0, .int .u64 0, .int .u32 0, .int .u8 0, .int .u8 0, .int .u8 0, .int .u8 0, .nilFunc, .pointer none, .int .i32 0, .int .i32 0] := Zero.mk (z := .agg #[.int .u64 0, .int .u64 0, .int .u32 0, .int .u8 0, .int .u8 0, .int .u8 0, .int .u8 0, .nilFunc, .pointer none, .int .i32 0, .int .i32 0]) (by kernel_rfl) rfl
theorem sz_206 : (Tryd.prog.info? 206).map (·.size) = some 11 := by kernel_rfl
theorem by_206 : (Tryd.prog.info? 206).map (·.bytes) = some 48 := by kernel_rfl
theorem many_206 : Many Tryd.prog 206 11 := Many.mk Tryd.underlying206 rfl sz_206
theorem zero_206 : Zero Tryd.prog 206 [.int .u64 0, .int .u64 0, .int .u32 0, .int .u8 0, .int .u8 0, .int .u8 0, .int .u8 0, .nilFunc, .pointer none, .int .i32 0, .int .i32 0] := Zero.mk (z := .agg #[.int .u64 0, .int .u64 0, .int .u32 0, .int .u8 0, .int .u8 0, .int .u8 0, .int .u8 0, .nilFunc, .pointer none, .int .i32 0, .int .i32 0]) (by kernel_rfl) rfl
theorem sz_207 : (Tryd.prog.info? 207).map (·.size) = some 1 := by kernel_rfl
theorem by_207 : (Tryd.prog.info? 207).map (·.bytes) = some 8 := by kernel_rfl
theorem one_207 : One Tryd.prog 207 := One.mk Tryd.underlying207 rfl sz_207
theorem zero_207 : Zero Tryd.prog 207 [.pointer none] := Zero.mk (z := .pointer none) (by kernel_rfl) rfl
theorem fld_7_0 : FieldAt Tryd.prog 7 0 0 2 := FieldAt.mk Tryd.underlying7 rfl rfl rfl sz_2
theorem fld_7_1 : FieldAt Tryd.prog 7 1 1 3 := FieldAt.mk Tryd.underlying7 rfl rfl rfl sz_3
theorem fld_7_2 : FieldAt Tryd.prog 7 2 2 4 := FieldAt.mk Tryd.underlying7 rfl rfl rfl sz_4
theorem fld_7_3 : FieldAt Tryd.prog 7 3 3 6 := FieldAt.mk Tryd.underlying7 rfl rfl rfl sz_6
theorem fld_8_0 : FieldAt Tryd.prog 8 0 0 2 := FieldAt.mk Tryd.underlying8 rfl rfl rfl sz_2
theorem fld_8_1 : FieldAt Tryd.prog 8 1 1 3 := FieldAt.mk Tryd.underlying8 rfl rfl rfl sz_3
theorem fld_8_2 : FieldAt Tryd.prog 8 2 2 4 := FieldAt.mk Tryd.underlying8 rfl rfl rfl sz_4
theorem fld_8_3 : FieldAt Tryd.prog 8 3 3 6 := FieldAt.mk Tryd.underlying8 rfl rfl rfl sz_6
theorem fld_13_0 : FieldAt Tryd.prog 13 0 0 9 := FieldAt.mk Tryd.underlying13 rfl rfl rfl sz_9
theorem fld_13_1 : FieldAt Tryd.prog 13 1 1 12 := FieldAt.mk Tryd.underlying13 rfl rfl rfl sz_12
theorem fld_14_0 : FieldAt Tryd.prog 14 0 0 9 := FieldAt.mk Tryd.underlying14 rfl rfl rfl sz_9
theorem fld_14_1 : FieldAt Tryd.prog 14 1 1 12 := FieldAt.mk Tryd.underlying14 rfl rfl rfl sz_12
theorem fld_18_0 : FieldAt Tryd.prog 18 0 0 17 := FieldAt.mk Tryd.underlying18 rfl rfl rfl sz_17
theorem fld_19_0 : FieldAt Tryd.prog 19 0 0 17 := FieldAt.mk Tryd.underlying19 rfl rfl rfl sz_17
theorem fld_24_0 : FieldAt Tryd.prog 24 0 0 3 := FieldAt.mk Tryd.underlying24 rfl rfl rfl sz_3
theorem fld_24_1 : FieldAt Tryd.prog 24 1 1 3 := FieldAt.mk Tryd.underlying24 rfl rfl rfl sz_3
theorem fld_24_2 : FieldAt Tryd.prog 24 2 2 9 := FieldAt.mk Tryd.underlying24 rfl rfl rfl sz_9
theorem fld_25_0 : FieldAt Tryd.prog 25 0 0 3 := FieldAt.mk Tryd.underlying25 rfl rfl rfl sz_3
theorem fld_25_1 : FieldAt Tryd.prog 25 1 1 3 := FieldAt.mk Tryd.underlying25 rfl rfl rfl sz_3
theorem fld_25_2 : FieldAt Tryd.prog 25 2 2 9 := FieldAt.mk Tryd.underlying25 rfl rfl rfl sz_9
theorem fld_28_0 : FieldAt Tryd.prog 28 0 0 3 := FieldAt.mk Tryd.underlying28 rfl rfl rfl sz_3
theorem fld_28_1 : FieldAt Tryd.prog 28 1 1 3 := FieldAt.mk Tryd.underlying28 rfl rfl rfl sz_3
theorem fld_28_2 : FieldAt Tryd.prog 28 2 2 9 := FieldAt.mk Tryd.underlying28 rfl rfl rfl sz_9
theorem fld_40_0 : FieldAt Tryd.prog 40 0 0 3 := FieldAt.mk Tryd.underlying40 rfl rfl rfl sz_3
theorem fld_40_1 : FieldAt Tryd.prog 40 1 1 3 := FieldAt.mk Tryd.underlying40 rfl rfl rfl sz_3
theorem fld_40_2 : FieldAt Tryd.prog 40 2 2 37 := FieldAt.mk Tryd.underlying40 rfl rfl rfl sz_37
theorem fld_40_3 : FieldAt Tryd.prog 40 3 3 34 := FieldAt.mk Tryd.underlying40 rfl rfl rfl sz_34
theorem fld_40_4 : FieldAt Tryd.prog 40 4 4 3 := FieldAt.mk Tryd.underlying40 rfl rfl rfl sz_3
theorem fld_40_5 : FieldAt Tryd.prog 40 5 5 3 := FieldAt.mk Tryd.underlying40 rfl rfl rfl sz_3
theorem fld_40_6 : FieldAt Tryd.prog 40 6 6 3 := FieldAt.mk Tryd.underlying40 rfl rfl rfl sz_3
theorem fld_40_7 : FieldAt Tryd.prog 40 7 7 34 := FieldAt.mk Tryd.underlying40 rfl rfl rfl sz_34
theorem fld_40_8 : FieldAt Tryd.prog 40 8 8 38 := FieldAt.mk Tryd.underlying40 rfl rfl rfl sz_38
theorem fld_40_9 : FieldAt Tryd.prog 40 9 9 39 := FieldAt.mk Tryd.underlying40 rfl rfl rfl sz_39
theorem fld_41_0 : FieldAt Tryd.prog 41 0 0 3 := FieldAt.mk Tryd.underlying41 rfl rfl rfl sz_3
theorem fld_41_1 : FieldAt Tryd.prog 41 1 1 3 := FieldAt.mk Tryd.underlying41 rfl rfl rfl sz_3
theorem fld_41_2 : FieldAt Tryd.prog 41 2 2 37 := FieldAt.mk Tryd.underlying41 rfl rfl rfl sz_37
theorem fld_41_3 : FieldAt Tryd.prog 41 3 3 34 := FieldAt.mk Tryd.underlying41 rfl rfl rfl sz_34
theorem fld_41_4 : FieldAt Tryd.prog 41 4 4 3 := FieldAt.mk Tryd.underlying41 rfl rfl rfl sz_3
theorem fld_41_5 : FieldAt Tryd.prog 41 5 5 3 := FieldAt.mk Tryd.underlying41 rfl rfl rfl sz_3
theorem fld_41_6 : FieldAt Tryd.prog 41 6 6 3 := FieldAt.mk Tryd.underlying41 rfl rfl rfl sz_3
theorem fld_41_7 : FieldAt Tryd.prog 41 7 7 34 := FieldAt.mk Tryd.underlying41 rfl rfl rfl sz_34
theorem fld_41_8 : FieldAt Tryd.prog 41 8 8 38 := FieldAt.mk Tryd.underlying41 rfl rfl rfl sz_38
theorem fld_41_9 : FieldAt Tryd.prog 41 9 9 39 := FieldAt.mk Tryd.underlying41 rfl rfl rfl sz_39
theorem fld_42_0 : FieldAt Tryd.prog 42 0 0 3 := FieldAt.mk Tryd.underlying42 rfl rfl rfl sz_3
theorem fld_42_1 : FieldAt Tryd.prog 42 1 1 3 := FieldAt.mk Tryd.underlying42 rfl rfl rfl sz_3
theorem fld_42_2 : FieldAt Tryd.prog 42 2 2 3 := FieldAt.mk Tryd.underlying42 rfl rfl rfl sz_3
theorem fld_42_3 : FieldAt Tryd.prog 42 3 3 34 := FieldAt.mk Tryd.underlying42 rfl rfl rfl sz_34
theorem fld_42_4 : FieldAt Tryd.prog 42 4 4 35 := FieldAt.mk Tryd.underlying42 rfl rfl rfl sz_35
theorem fld_42_5 : FieldAt Tryd.prog 42 5 5 36 := FieldAt.mk Tryd.underlying42 rfl rfl rfl sz_36
theorem fld_42_6 : FieldAt Tryd.prog 42 6 6 41 := FieldAt.mk Tryd.underlying42 rfl rfl rfl sz_41
theorem fld_42_7 : FieldAt Tryd.prog 42 7 16 36 := FieldAt.mk Tryd.underlying42 rfl rfl rfl sz_36
theorem fld_42_8 : FieldAt Tryd.prog 42 8 17 25 := FieldAt.mk Tryd.underlying42 rfl rfl rfl sz_25
theorem fld_43_0 : FieldAt Tryd.prog 43 0 0 3 := FieldAt.mk Tryd.underlying43 rfl rfl rfl sz_3
theorem fld_43_1 : FieldAt Tryd.prog 43 1 1 3 := FieldAt.mk Tryd.underlying43 rfl rfl rfl sz_3
theorem fld_43_2 : FieldAt Tryd.prog 43 2 2 3 := FieldAt.mk Tryd.underlying43 rfl rfl rfl sz_3
theorem fld_43_3 : FieldAt Tryd.prog 43 3 3 34 := FieldAt.mk Tryd.underlying43 rfl rfl rfl sz_34
theorem fld_43_4 : FieldAt Tryd.prog 43 4 4 35 := FieldAt.mk Tryd.underlying43 rfl rfl rfl sz_35
theorem fld_43_5 : FieldAt Tryd.prog 43 5 5 36 := FieldAt.mk Tryd.underlying43 rfl rfl rfl sz_36
theorem fld_43_6 : FieldAt Tryd.prog 43 6 6 41 := FieldAt.mk Tryd.underlying43 rfl rfl rfl sz_41
theorem fld_43_7 : FieldAt Tryd.prog 43 7 16 36 := FieldAt.mk Tryd.underlying43 rfl rfl rfl sz_36
theorem fld_43_8 : FieldAt Tryd.prog 43 8 17 25 := FieldAt.mk Tryd.underlying43 rfl rfl rfl sz_25
theorem fld_50_0 : FieldAt Tryd.prog 50 0 0 3 := FieldAt.mk Tryd.underlying50 rfl rfl rfl sz_3
theorem fld_50_1 : FieldAt Tryd.prog 50 1 1 3 := FieldAt.mk Tryd.underlying50 rfl rfl rfl sz_3
theorem fld_50_2 : FieldAt Tryd.prog 50 2 2 48 := FieldAt.mk Tryd.underlying50 rfl rfl rfl sz_48
theorem fld_50_3 : FieldAt Tryd.prog 50 3 3 3 := FieldAt.mk Tryd.underlying50 rfl rfl rfl sz_3
theorem fld_50_4 : FieldAt Tryd.prog 50 4 4 3 := FieldAt.mk Tryd.underlying50 rfl rfl rfl sz_3
theorem fld_50_5 : FieldAt Tryd.prog 50 5 5 3 := FieldAt.mk Tryd.underlying50 rfl rfl rfl sz_3
theorem fld_50_6 : FieldAt Tryd.prog 50 6 6 3 := FieldAt.mk Tryd.underlying50 rfl rfl rfl sz_3
theorem fld_50_7 : FieldAt Tryd.prog 50 7 7 3 := FieldAt.mk Tryd.underlying50 rfl rfl rfl sz_3
theorem fld_50_8 : FieldAt Tryd.prog 50 8 8 38 := FieldAt.mk Tryd.underlying50 rfl rfl rfl sz_38
theorem fld_50_9 : FieldAt Tryd.prog 50 9 9 49 := FieldAt.mk Tryd.underlying50 rfl rfl rfl sz_49
theorem fld_51_0 : FieldAt Tryd.prog 51 0 0 3 := FieldAt.mk Tryd.underlying51 rfl rfl rfl sz_3
theorem fld_51_1 : FieldAt Tryd.prog 51 1 1 3 := FieldAt.mk Tryd.underlying51 rfl rfl rfl sz_3
theorem fld_51_2 : FieldAt Tryd.prog 51 2 2 48 := FieldAt.mk Tryd.underlying51 rfl rfl rfl sz_48
theorem fld_51_3 : FieldAt Tryd.prog 51 3 3 3 := FieldAt.mk Tryd.underlying51 rfl rfl rfl sz_3
theorem fld_51_4 : FieldAt Tryd.prog 51 4 4 3 := FieldAt.mk Tryd.underlying51 rfl rfl rfl sz_3
theorem fld_51_5 : FieldAt Tryd.prog 51 5 5 3 := FieldAt.mk Tryd.underlying51 rfl rfl rfl sz_3
theorem fld_51_6 : FieldAt Tryd.prog 51 6 6 3 := FieldAt.mk Tryd.underlying51 rfl rfl rfl sz_3
theorem fld_51_7 : FieldAt Tryd.prog 51 7 7 3 := FieldAt.mk Tryd.underlying51 rfl rfl rfl sz_3
theorem fld_51_8 : FieldAt Tryd.prog 51 8 8 38 := FieldAt.mk Tryd.underlying51 rfl rfl rfl sz_38
theorem fld_51_9 : FieldAt Tryd.prog 51 9 9 49 := FieldAt.mk Tryd.underlying51 rfl rfl rfl sz_49
theorem fld_52_0 : FieldAt Tryd.prog 52 0 0 3 := FieldAt.mk Tryd.underlying52 rfl rfl rfl sz_3
theorem fld_52_1 : FieldAt Tryd.prog 52 1 1 3 := FieldAt.mk Tryd.underlying52 rfl rfl rfl sz_3
theorem fld_52_2 : FieldAt Tryd.prog 52 2 2 3 := FieldAt.mk Tryd.underlying52 rfl rfl rfl sz_3
theorem fld_52_3 : FieldAt Tryd.prog 52 3 3 33 := FieldAt.mk Tryd.underlying52 rfl rfl rfl sz_33
theorem fld_52_4 : FieldAt Tryd.prog 52 4 4 46 := FieldAt.mk Tryd.underlying52 rfl rfl rfl sz_46
theorem fld_52_5 : FieldAt Tryd.prog 52 5 5 47 := FieldAt.mk Tryd.underlying52 rfl rfl rfl sz_47
theorem fld_52_6 : FieldAt Tryd.prog 52 6 6 51 := FieldAt.mk Tryd.underlying52 rfl rfl rfl sz_51
theorem fld_52_7 : FieldAt Tryd.prog 52 7 16 47 := FieldAt.mk Tryd.underlying52 rfl rfl rfl sz_47
theorem fld_52_8 : FieldAt Tryd.prog 52 8 17 28 := FieldAt.mk Tryd.underlying52 rfl rfl rfl sz_28
theorem fld_53_0 : FieldAt Tryd.prog 53 0 0 3 := FieldAt.mk Tryd.underlying53 rfl rfl rfl sz_3
theorem fld_53_1 : FieldAt Tryd.prog 53 1 1 3 := FieldAt.mk Tryd.underlying53 rfl rfl rfl sz_3
theorem fld_53_2 : FieldAt Tryd.prog 53 2 2 3 := FieldAt.mk Tryd.underlying53 rfl rfl rfl sz_3
theorem fld_53_3 : FieldAt Tryd.prog 53 3 3 33 := FieldAt.mk Tryd.underlying53 rfl rfl rfl sz_33
theorem fld_53_4 : FieldAt Tryd.prog 53 4 4 46 := FieldAt.mk Tryd.underlying53 rfl rfl rfl sz_46
theorem fld_53_5 : FieldAt Tryd.prog 53 5 5 47 := FieldAt.mk Tryd.underlying53 rfl rfl rfl sz_47
theorem fld_53_6 : FieldAt Tryd.prog 53 6 6 51 := FieldAt.mk Tryd.underlying53 rfl rfl rfl sz_51
theorem fld_53_7 : FieldAt Tryd.prog 53 7 16 47 := FieldAt.mk Tryd.underlying53 rfl rfl rfl sz_47
theorem fld_53_8 : FieldAt Tryd.prog 53 8 17 28 := FieldAt.mk Tryd.underlying53 rfl rfl rfl sz_28
theorem fld_64_0 : FieldAt Tryd.prog 64 0 0 34 := FieldAt.mk Tryd.underlying64 rfl rfl rfl sz_34
theorem fld_64_1 : FieldAt Tryd.prog 64 1 1 3 := FieldAt.mk Tryd.underlying64 rfl rfl rfl sz_3
theorem fld_65_0 : FieldAt Tryd.prog 65 0 0 34 := FieldAt.mk Tryd.underlying65 rfl rfl rfl sz_34
theorem fld_65_1 : FieldAt Tryd.prog 65 1 1 3 := FieldAt.mk Tryd.underlying65 rfl rfl rfl sz_3
theorem fld_73_0 : FieldAt Tryd.prog 73 0 0 22 := FieldAt.mk Tryd.underlying73 rfl rfl rfl sz_22
theorem fld_73_1 : FieldAt Tryd.prog 73 1 1 3 := FieldAt.mk Tryd.underlying73 rfl rfl rfl sz_3
theorem fld_73_2 : FieldAt Tryd.prog 73 2 2 25 := FieldAt.mk Tryd.underlying73 rfl rfl rfl sz_25
theorem fld_74_0 : FieldAt Tryd.prog 74 0 0 22 := FieldAt.mk Tryd.underlying74 rfl rfl rfl sz_22
theorem fld_74_1 : FieldAt Tryd.prog 74 1 1 3 := FieldAt.mk Tryd.underlying74 rfl rfl rfl sz_3
theorem fld_74_2 : FieldAt Tryd.prog 74 2 2 25 := FieldAt.mk Tryd.underlying74 rfl rfl rfl sz_25
theorem fld_91_0 : FieldAt Tryd.prog 91 0 0 3 := FieldAt.mk Tryd.underlying91 rfl rfl rfl sz_3
theorem fld_91_1 : FieldAt Tryd.prog 91 1 1 22 := FieldAt.mk Tryd.underlying91 rfl rfl rfl sz_22
theorem fld_91_2 : FieldAt Tryd.prog 91 2 2 3 := FieldAt.mk Tryd.underlying91 rfl rfl rfl sz_3
theorem fld_92_0 : FieldAt Tryd.prog 92 0 0 3 := FieldAt.mk Tryd.underlying92 rfl rfl rfl sz_3
theorem fld_92_1 : FieldAt Tryd.prog 92 1 1 22 := FieldAt.mk Tryd.underlying92 rfl rfl rfl sz_22
theorem fld_92_2 : FieldAt Tryd.prog 92 2 2 3 := FieldAt.mk Tryd.underlying92 rfl rfl rfl sz_3
theorem fld_98_0 : FieldAt Tryd.prog 98 0 0 3 := FieldAt.mk Tryd.underlying98 rfl rfl rfl sz_3
theorem fld_98_1 : FieldAt Tryd.prog 98 1 1 22 := FieldAt.mk Tryd.underlying98 rfl rfl rfl sz_22
theorem fld_99_0 : FieldAt Tryd.prog 99 0 0 3 := FieldAt.mk Tryd.underlying99 rfl rfl rfl sz_3
theorem fld_99_1 : FieldAt Tryd.prog 99 1 1 22 := FieldAt.mk Tryd.underlying99 rfl rfl rfl sz_22
theorem fld_109_0 : FieldAt Tryd.prog 109 0 0 3 := FieldAt.mk Tryd.underlying109 rfl rfl rfl sz_3
theorem fld_109_1 : FieldAt Tryd.prog 109 1 1 22 := FieldAt.mk Tryd.underlying109 rfl rfl rfl sz_22
theorem fld_112_0 : FieldAt Tryd.prog 112 0 0 4 := FieldAt.mk Tryd.underlying112 rfl rfl rfl sz_4
theorem fld_112_1 : FieldAt Tryd.prog 112 1 1 38 := FieldAt.mk Tryd.underlying112 rfl rfl rfl sz_38
theorem fld_113_0 : FieldAt Tryd.prog 113 0 0 4 := FieldAt.mk Tryd.underlying113 rfl rfl rfl sz_4
theorem fld_113_1 : FieldAt Tryd.prog 113 1 1 38 := FieldAt.mk Tryd.underlying113 rfl rfl rfl sz_38
theorem fld_114_0 : FieldAt Tryd.prog 114 0 0 3 := FieldAt.mk Tryd.underlying114 rfl rfl rfl sz_3
theorem fld_114_1 : FieldAt Tryd.prog 114 1 1 22 := FieldAt.mk Tryd.underlying114 rfl rfl rfl sz_22
theorem fld_115_0 : FieldAt Tryd.prog 115 0 0 3 := FieldAt.mk Tryd.underlying115 rfl rfl rfl sz_3
theorem fld_115_1 : FieldAt Tryd.prog 115 1 1 22 := FieldAt.mk Tryd.underlying115 rfl rfl rfl sz_22
theorem fld_118_0 : FieldAt Tryd.prog 118 0 0 22 := FieldAt.mk Tryd.underlying118 rfl rfl rfl sz_22
theorem fld_118_1 : FieldAt Tryd.prog 118 1 1 3 := FieldAt.mk Tryd.underlying118 rfl rfl rfl sz_3
theorem fld_119_0 : FieldAt Tryd.prog 119 0 0 22 := FieldAt.mk Tryd.underlying119 rfl rfl rfl sz_22
theorem fld_119_1 : FieldAt Tryd.prog 119 1 1 3 := FieldAt.mk Tryd.underlying119 rfl rfl rfl sz_3
theorem fld_131_0 : FieldAt Tryd.prog 131 0 0 33 := FieldAt.mk Tryd.underlying131 rfl rfl rfl sz_33
theorem fld_131_1 : FieldAt Tryd.prog 131 1 1 3 := FieldAt.mk Tryd.underlying131 rfl rfl rfl sz_3
theorem fld_132_0 : FieldAt Tryd.prog 132 0 0 33 := FieldAt.mk Tryd.underlying132 rfl rfl rfl sz_33
theorem fld_132_1 : FieldAt Tryd.prog 132 1 1 3 := FieldAt.mk Tryd.underlying132 rfl rfl rfl sz_3
theorem fld_135_0 : FieldAt Tryd.prog 135 0 0 3 := FieldAt.mk Tryd.underlying135 rfl rfl rfl sz_3
theorem fld_135_1 : FieldAt Tryd.prog 135 1 1 22 := FieldAt.mk Tryd.underlying135 rfl rfl rfl sz_22
theorem fld_140_0 : FieldAt Tryd.prog 140 0 0 4 := FieldAt.mk Tryd.underlying140 rfl rfl rfl sz_4
theorem fld_140_1 : FieldAt Tryd.prog 140 1 1 38 := FieldAt.mk Tryd.underlying140 rfl rfl rfl sz_38
theorem fld_194_0 : FieldAt Tryd.prog 194 0 0 17 := FieldAt.mk Tryd.underlying194 rfl rfl rfl sz_17
theorem fld_194_1 : FieldAt Tryd.prog 194 1 1 17 := FieldAt.mk Tryd.underlying194 rfl rfl rfl sz_17
theorem fld_194_2 : FieldAt Tryd.prog 194 2 2 17 := FieldAt.mk Tryd.underlying194 rfl rfl rfl sz_17
theorem fld_194_3 : FieldAt Tryd.prog 194 3 3 9 := FieldAt.mk Tryd.underlying194 rfl rfl rfl sz_9
theorem fld_195_0 : FieldAt Tryd.prog 195 0 0 17 := FieldAt.mk Tryd.underlying195 rfl rfl rfl sz_17
theorem fld_195_1 : FieldAt Tryd.prog 195 1 1 17 := FieldAt.mk Tryd.underlying195 rfl rfl rfl sz_17
theorem fld_195_2 : FieldAt Tryd.prog 195 2 2 17 := FieldAt.mk Tryd.underlying195 rfl rfl rfl sz_17
theorem fld_195_3 : FieldAt Tryd.prog 195 3 3 9 := FieldAt.mk Tryd.underlying195 rfl rfl rfl sz_9
theorem fld_205_0 : FieldAt Tryd.prog 205 0 0 12 := FieldAt.mk Tryd.underlying205 rfl rfl rfl sz_12
theorem fld_205_1 : FieldAt Tryd.prog 205 1 1 12 := FieldAt.mk Tryd.underlying205 rfl rfl rfl sz_12
theorem fld_205_2 : FieldAt Tryd.prog 205 2 2 33 := FieldAt.mk Tryd.underlying205 rfl rfl rfl sz_33
theorem fld_205_3 : FieldAt Tryd.prog 205 3 3 199 := FieldAt.mk Tryd.underlying205 rfl rfl rfl sz_199
theorem fld_205_4 : FieldAt Tryd.prog 205 4 4 5 := FieldAt.mk Tryd.underlying205 rfl rfl rfl sz_5
theorem fld_205_5 : FieldAt Tryd.prog 205 5 5 5 := FieldAt.mk Tryd.underlying205 rfl rfl rfl sz_5
theorem fld_205_6 : FieldAt Tryd.prog 205 6 6 200 := FieldAt.mk Tryd.underlying205 rfl rfl rfl sz_200
theorem fld_205_7 : FieldAt Tryd.prog 205 7 7 201 := FieldAt.mk Tryd.underlying205 rfl rfl rfl sz_201
theorem fld_205_8 : FieldAt Tryd.prog 205 8 8 202 := FieldAt.mk Tryd.underlying205 rfl rfl rfl sz_202
theorem fld_205_9 : FieldAt Tryd.prog 205 9 9 203 := FieldAt.mk Tryd.underlying205 rfl rfl rfl sz_203
theorem fld_205_10 : FieldAt Tryd.prog 205 10 10 204 := FieldAt.mk Tryd.underlying205 rfl rfl rfl sz_204
theorem fld_206_0 : FieldAt Tryd.prog 206 0 0 12 := FieldAt.mk Tryd.underlying206 rfl rfl rfl sz_12
theorem fld_206_1 : FieldAt Tryd.prog 206 1 1 12 := FieldAt.mk Tryd.underlying206 rfl rfl rfl sz_12
theorem fld_206_2 : FieldAt Tryd.prog 206 2 2 33 := FieldAt.mk Tryd.underlying206 rfl rfl rfl sz_33
theorem fld_206_3 : FieldAt Tryd.prog 206 3 3 199 := FieldAt.mk Tryd.underlying206 rfl rfl rfl sz_199
theorem fld_206_4 : FieldAt Tryd.prog 206 4 4 5 := FieldAt.mk Tryd.underlying206 rfl rfl rfl sz_5
theorem fld_206_5 : FieldAt Tryd.prog 206 5 5 5 := FieldAt.mk Tryd.underlying206 rfl rfl rfl sz_5
theorem fld_206_6 : FieldAt Tryd.prog 206 6 6 200 := FieldAt.mk Tryd.underlying206 rfl rfl rfl sz_200
theorem fld_206_7 : FieldAt Tryd.prog 206 7 7 201 := FieldAt.mk Tryd.underlying206 rfl rfl rfl sz_201
theorem fld_206_8 : FieldAt Tryd.prog 206 8 8 202 := FieldAt.mk Tryd.underlying206 rfl rfl rfl sz_202
theorem fld_206_9 : FieldAt Tryd.prog 206 9 9 203 := FieldAt.mk Tryd.underlying206 rfl rfl rfl sz_203
theorem fld_206_10 : FieldAt Tryd.prog 206 10 10 204 := FieldAt.mk Tryd.underlying206 rfl rfl rfl sz_204
theorem plc_25 : Places Tryd.prog 25 [(0, 1), (1, 1), (2, 1)] := ⟨_, Tryd.underlying25, fun w => by simp [run_sizeOf sz_3, run_sizeOf sz_9]⟩
theorem plc_28 : Places Tryd.prog 28 [(0, 1), (1, 1), (2, 1)] := ⟨_, Tryd.underlying28, fun w => by simp [run_sizeOf sz_3, run_sizeOf sz_9]⟩
theorem plc_41 : Places Tryd.prog 41 [(0, 1), (1, 1), (2, 1), (3, 1), (4, 1), (5, 1), (6, 1), (7, 1), (8, 1), (9, 1)] := ⟨_, Tryd.underlying41, fun w => by simp [run_sizeOf sz_3, run_sizeOf sz_37, run_sizeOf sz_34, run_sizeOf sz_38, run_sizeOf sz_39]⟩
theorem plc_43 : Places Tryd.prog 43 [(0, 1), (1, 1), (2, 1), (3, 1), (4, 1), (5, 1), (6, 10), (16, 1), (17, 3)] := ⟨_, Tryd.underlying43, fun w => by simp [run_sizeOf sz_3, run_sizeOf sz_34, run_sizeOf sz_35, run_sizeOf sz_36, run_sizeOf sz_41, run_sizeOf sz_25]⟩
theorem plc_51 : Places Tryd.prog 51 [(0, 1), (1, 1), (2, 1), (3, 1), (4, 1), (5, 1), (6, 1), (7, 1), (8, 1), (9, 1)] := ⟨_, Tryd.underlying51, fun w => by simp [run_sizeOf sz_3, run_sizeOf sz_48, run_sizeOf sz_38, run_sizeOf sz_49]⟩
theorem plc_53 : Places Tryd.prog 53 [(0, 1), (1, 1), (2, 1), (3, 1), (4, 1), (5, 1), (6, 10), (16, 1), (17, 3)] := ⟨_, Tryd.underlying53, fun w => by simp [run_sizeOf sz_3, run_sizeOf sz_33, run_sizeOf sz_46, run_sizeOf sz_47, run_sizeOf sz_51, run_sizeOf sz_28]⟩
theorem plc_65 : Places Tryd.prog 65 [(0, 1), (1, 1)] := ⟨_, Tryd.underlying65, fun w => by simp [run_sizeOf sz_34, run_sizeOf sz_3]⟩
theorem plc_74 : Places Tryd.prog 74 [(0, 1), (1, 1), (2, 3)] := ⟨_, Tryd.underlying74, fun w => by simp [run_sizeOf sz_22, run_sizeOf sz_3, run_sizeOf sz_25]⟩
theorem plc_99 : Places Tryd.prog 99 [(0, 1), (1, 1)] := ⟨_, Tryd.underlying99, fun w => by simp [run_sizeOf sz_3, run_sizeOf sz_22]⟩
theorem plc_109 : Places Tryd.prog 109 [(0, 1), (1, 1)] := ⟨_, Tryd.underlying109, fun w => by simp [run_sizeOf sz_3, run_sizeOf sz_22]⟩
theorem plc_113 : Places Tryd.prog 113 [(0, 1), (1, 1)] := ⟨_, Tryd.underlying113, fun w => by simp [run_sizeOf sz_4, run_sizeOf sz_38]⟩
theorem plc_115 : Places Tryd.prog 115 [(0, 1), (1, 1)] := ⟨_, Tryd.underlying115, fun w => by simp [run_sizeOf sz_3, run_sizeOf sz_22]⟩
theorem plc_119 : Places Tryd.prog 119 [(0, 1), (1, 1)] := ⟨_, Tryd.underlying119, fun w => by simp [run_sizeOf sz_22, run_sizeOf sz_3]⟩
theorem plc_132 : Places Tryd.prog 132 [(0, 1), (1, 1)] := ⟨_, Tryd.underlying132, fun w => by simp [run_sizeOf sz_33, run_sizeOf sz_3]⟩
theorem plc_135 : Places Tryd.prog 135 [(0, 1), (1, 1)] := ⟨_, Tryd.underlying135, fun w => by simp [run_sizeOf sz_3, run_sizeOf sz_22]⟩
theorem plc_140 : Places Tryd.prog 140 [(0, 1), (1, 1)] := ⟨_, Tryd.underlying140, fun w => by simp [run_sizeOf sz_4, run_sizeOf sz_38]⟩
theorem eqk_25 : EqK Tryd.prog 10000 25 true [.i .i64, .i .i64, .s] := (EqK.struct Tryd.underlying25 (by kernel_rfl) sz_25 (.cons (off := 0) (k1 := [.i .i64]) (k2 := [.i .i64, .s]) (by kernel_rfl) rfl (EqK.int Tryd.underlying3 sz_3) (.cons (off := 1) (k1 := [.i .i64]) (k2 := [.s]) (by kernel_rfl) rfl (EqK.int Tryd.underlying3 sz_3) (.cons (off := 2) (k1 := [.s]) (k2 := []) (by kernel_rfl) rfl (EqK.string Tryd.underlying9 sz_9) .nil))))
theorem eqg_25 : Tryd.prog.eqGuardType Tryd.prog.depth 25 = false := by kernel_rfl
theorem eqk_28 : EqK Tryd.prog 10000 28 true [.i .i64, .i .i64, .s] := (EqK.struct Tryd.underlying28 (by kernel_rfl) sz_28 (.cons (off := 0) (k1 := [.i .i64]) (k2 := [.i .i64, .s]) (by kernel_rfl) rfl (EqK.int Tryd.underlying3 sz_3) (.cons (off := 1) (k1 := [.i .i64]) (k2 := [.s]) (by kernel_rfl) rfl (EqK.int Tryd.underlying3 sz_3) (.cons (off := 2) (k1 := [.s]) (k2 := []) (by kernel_rfl) rfl (EqK.string Tryd.underlying9 sz_9) .nil))))
theorem eqg_28 : Tryd.prog.eqGuardType Tryd.prog.depth 28 = false := by kernel_rfl
theorem eqk_65 : EqK Tryd.prog 10000 65 true [.i .u32, .i .i64] := (EqK.struct Tryd.underlying65 (by kernel_rfl) sz_65 (.cons (off := 0) (k1 := [.i .u32]) (k2 := [.i .i64]) (by kernel_rfl) rfl (EqK.int Tryd.underlying34 sz_34) (.cons (off := 1) (k1 := [.i .i64]) (k2 := []) (by kernel_rfl) rfl (EqK.int Tryd.underlying3 sz_3) .nil)))
theorem eqg_65 : Tryd.prog.eqGuardType Tryd.prog.depth 65 = false := by kernel_rfl
theorem eqk_132 : EqK Tryd.prog 10000 132 true [.i .u32, .i .i64] := (EqK.struct Tryd.underlying132 (by kernel_rfl) sz_132 (.cons (off := 0) (k1 := [.i .u32]) (k2 := [.i .i64]) (by kernel_rfl) rfl (EqK.int Tryd.underlying33 sz_33) (.cons (off := 1) (k1 := [.i .i64]) (k2 := []) (by kernel_rfl) rfl (EqK.int Tryd.underlying3 sz_3) .nil)))
theorem eqg_132 : Tryd.prog.eqGuardType Tryd.prog.depth 132 = false := by kernel_rfl
theorem ck_2 : callOk Tryd.prog 2 := callOk_of Tryd.func2 (by kernel_rfl) rfl
theorem ck_3 : callOk Tryd.prog 3 := callOk_of Tryd.func3 (by kernel_rfl) rfl
theorem ck_4 : callOk Tryd.prog 4 := callOk_of Tryd.func4 (by kernel_rfl) rfl
theorem ck_5 : callOk Tryd.prog 5 := callOk_of Tryd.func5 (by kernel_rfl) rfl
theorem ck_6 : callOk Tryd.prog 6 := callOk_of Tryd.func6 (by kernel_rfl) rfl
theorem ck_7 : callOk Tryd.prog 7 := callOk_of Tryd.func7 (by kernel_rfl) rfl
theorem ck_8 : callOk Tryd.prog 8 := callOk_of Tryd.func8 (by kernel_rfl) rfl
theorem ck_9 : callOk Tryd.prog 9 := callOk_of Tryd.func9 (by kernel_rfl) rfl
theorem ck_10 : callOk Tryd.prog 10 := callOk_of Tryd.func10 (by kernel_rfl) rfl
theorem ck_11 : callOk Tryd.prog 11 := callOk_of Tryd.func11 (by kernel_rfl) rfl
theorem ck_12 : callOk Tryd.prog 12 := callOk_of Tryd.func12 (by kernel_rfl) rfl
theorem ck_13 : callOk Tryd.prog 13 := callOk_of Tryd.func13 (by kernel_rfl) rfl
theorem ck_14 : callOk Tryd.prog 14 := callOk_of Tryd.func14 (by kernel_rfl) rfl
theorem ck_15 : callOk Tryd.prog 15 := callOk_of Tryd.func15 (by kernel_rfl) rfl
theorem ck_16 : callOk Tryd.prog 16 := callOk_of Tryd.func16 (by kernel_rfl) rfl
theorem ck_17 : callOk Tryd.prog 17 := callOk_of Tryd.func17 (by kernel_rfl) rfl
theorem ck_18 : callOk Tryd.prog 18 := callOk_of Tryd.func18 (by kernel_rfl) rfl
theorem ck_19 : callOk Tryd.prog 19 := callOk_of Tryd.func19 (by kernel_rfl) rfl
theorem ck_20 : callOk Tryd.prog 20 := callOk_of Tryd.func20 (by kernel_rfl) rfl
theorem ck_21 : callOk Tryd.prog 21 := callOk_of Tryd.func21 (by kernel_rfl) rfl
theorem ck_22 : callOk Tryd.prog 22 := callOk_of Tryd.func22 (by kernel_rfl) rfl
theorem ck_23 : callOk Tryd.prog 23 := callOk_of Tryd.func23 (by kernel_rfl) rfl
theorem ck_24 : callOk Tryd.prog 24 := callOk_of Tryd.func24 (by kernel_rfl) rfl
theorem ck_25 : callOk Tryd.prog 25 := callOk_of Tryd.func25 (by kernel_rfl) rfl
theorem ck_26 : callOk Tryd.prog 26 := callOk_of Tryd.func26 (by kernel_rfl) rfl
theorem ck_27 : callOk Tryd.prog 27 := callOk_of Tryd.func27 (by kernel_rfl) rfl
theorem ck_28 : callOk Tryd.prog 28 := callOk_of Tryd.func28 (by kernel_rfl) rfl
theorem ck_29 : callOk Tryd.prog 29 := callOk_of Tryd.func29 (by kernel_rfl) rfl
theorem ck_30 : callOk Tryd.prog 30 := callOk_of Tryd.func30 (by kernel_rfl) rfl
theorem ck_31 : callOk Tryd.prog 31 := callOk_of Tryd.func31 (by kernel_rfl) rfl
theorem ck_32 : callOk Tryd.prog 32 := callOk_of Tryd.func32 (by kernel_rfl) rfl
theorem ck_33 : callOk Tryd.prog 33 := callOk_of Tryd.func33 (by kernel_rfl) rfl
theorem ck_34 : callOk Tryd.prog 34 := callOk_of Tryd.func34 (by kernel_rfl) rfl
theorem ck_35 : callOk Tryd.prog 35 := callOk_of Tryd.func35 (by kernel_rfl) rfl
theorem ck_36 : callOk Tryd.prog 36 := callOk_of Tryd.func36 (by kernel_rfl) rfl
theorem ck_37 : callOk Tryd.prog 37 := callOk_of Tryd.func37 (by kernel_rfl) rfl
theorem ck_38 : callOk Tryd.prog 38 := callOk_of Tryd.func38 (by kernel_rfl) rfl
theorem ck_39 : callOk Tryd.prog 39 := callOk_of Tryd.func39 (by kernel_rfl) rfl
theorem ck_40 : callOk Tryd.prog 40 := callOk_of Tryd.func40 (by kernel_rfl) rfl
theorem ck_41 : callOk Tryd.prog 41 := callOk_of Tryd.func41 (by kernel_rfl) rfl
theorem ck_42 : callOk Tryd.prog 42 := callOk_of Tryd.func42 (by kernel_rfl) rfl
theorem ck_43 : callOk Tryd.prog 43 := callOk_of Tryd.func43 (by kernel_rfl) rfl
theorem ck_44 : callOk Tryd.prog 44 := callOk_of Tryd.func44 (by kernel_rfl) rfl
theorem ck_45 : callOk Tryd.prog 45 := callOk_of Tryd.func45 (by kernel_rfl) rfl
theorem ck_46 : callOk Tryd.prog 46 := callOk_of Tryd.func46 (by kernel_rfl) rfl
theorem ck_47 : callOk Tryd.prog 47 := callOk_of Tryd.func47 (by kernel_rfl) rfl
theorem ck_48 : callOk Tryd.prog 48 := callOk_of Tryd.func48 (by kernel_rfl) rfl
theorem ck_49 : callOk Tryd.prog 49 := callOk_of Tryd.func49 (by kernel_rfl) rfl
theorem ck_50 : callOk Tryd.prog 50 := callOk_of Tryd.func50 (by kernel_rfl) rfl
theorem ck_51 : callOk Tryd.prog 51 := callOk_of Tryd.func51 (by kernel_rfl) rfl
theorem ck_52 : callOk Tryd.prog 52 := callOk_of Tryd.func52 (by kernel_rfl) rfl
theorem ck_53 : callOk Tryd.prog 53 := callOk_of Tryd.func53 (by kernel_rfl) rfl
theorem ck_54 : callOk Tryd.prog 54 := callOk_of Tryd.func54 (by kernel_rfl) rfl
theorem ck_55 : callOk Tryd.prog 55 := callOk_of Tryd.func55 (by kernel_rfl) rfl
theorem ck_56 : callOk Tryd.prog 56 := callOk_of Tryd.func56 (by kernel_rfl) rfl
theorem ck_57 : callOk Tryd.prog 57 := callOk_of Tryd.func57 (by kernel_rfl) rfl
theorem ck_58 : callOk Tryd.prog 58 := callOk_of Tryd.func58 (by kernel_rfl) rfl
theorem ck_59 : callOk Tryd.prog 59 := callOk_of Tryd.func59 (by kernel_rfl) rfl
theorem ck_60 : callOk Tryd.prog 60 := callOk_of Tryd.func60 (by kernel_rfl) rfl
theorem ck_61 : callOk Tryd.prog 61 := callOk_of Tryd.func61 (by kernel_rfl) rfl
theorem ck_62 : callOk Tryd.prog 62 := callOk_of Tryd.func62 (by kernel_rfl) rfl
theorem ck_63 : callOk Tryd.prog 63 := callOk_of Tryd.func63 (by kernel_rfl) rfl
theorem ck_64 : callOk Tryd.prog 64 := callOk_of Tryd.func64 (by kernel_rfl) rfl
theorem ck_65 : callOk Tryd.prog 65 := callOk_of Tryd.func65 (by kernel_rfl) rfl
theorem ck_66 : callOk Tryd.prog 66 := callOk_of Tryd.func66 (by kernel_rfl) rfl
theorem ck_67 : callOk Tryd.prog 67 := callOk_of Tryd.func67 (by kernel_rfl) rfl
theorem ck_68 : callOk Tryd.prog 68 := callOk_of Tryd.func68 (by kernel_rfl) rfl
theorem ck_69 : callOk Tryd.prog 69 := callOk_of Tryd.func69 (by kernel_rfl) rfl
theorem ck_70 : callOk Tryd.prog 70 := callOk_of Tryd.func70 (by kernel_rfl) rfl
theorem ck_71 : callOk Tryd.prog 71 := callOk_of Tryd.func71 (by kernel_rfl) rfl
theorem ck_72 : callOk Tryd.prog 72 := callOk_of Tryd.func72 (by kernel_rfl) rfl
theorem ck_73 : callOk Tryd.prog 73 := callOk_of Tryd.func73 (by kernel_rfl) rfl
theorem ck_74 : callOk Tryd.prog 74 := callOk_of Tryd.func74 (by kernel_rfl) rfl
theorem ck_76 : callOk Tryd.prog 76 := callOk_of Tryd.func76 (by kernel_rfl) rfl
theorem ck_77 : callOk Tryd.prog 77 := callOk_of Tryd.func77 (by kernel_rfl) rfl
theorem ck_78 : callOk Tryd.prog 78 := callOk_of Tryd.func78 (by kernel_rfl) rfl
theorem ck_79 : callOk Tryd.prog 79 := callOk_of Tryd.func79 (by kernel_rfl) rfl
theorem ck_80 : callOk Tryd.prog 80 := callOk_of Tryd.func80 (by kernel_rfl) rfl
theorem ck_81 : callOk Tryd.prog 81 := callOk_of Tryd.func81 (by kernel_rfl) rfl
theorem ck_82 : callOk Tryd.prog 82 := callOk_of Tryd.func82 (by kernel_rfl) rfl
theorem ck_83 : callOk Tryd.prog 83 := callOk_of Tryd.func83 (by kernel_rfl) rfl
theorem ck_84 : callOk Tryd.prog 84 := callOk_of Tryd.func84 (by kernel_rfl) rfl
theorem ck_85 : callOk Tryd.prog 85 := callOk_of Tryd.func85 (by kernel_rfl) rfl
theorem ck_86 : callOk Tryd.prog 86 := callOk_of Tryd.func86 (by kernel_rfl) rfl
theorem ck_87 : callOk Tryd.prog 87 := callOk_of Tryd.func87 (by kernel_rfl) rfl
theorem ck_88 : callOk Tryd.prog 88 := callOk_of Tryd.func88 (by kernel_rfl) rfl
theorem ck_89 : callOk Tryd.prog 89 := callOk_of Tryd.func89 (by kernel_rfl) rfl
theorem ck_90 : callOk Tryd.prog 90 := callOk_of Tryd.func90 (by kernel_rfl) rfl
theorem ck_91 : callOk Tryd.prog 91 := callOk_of Tryd.func91 (by kernel_rfl) rfl
theorem ck_92 : callOk Tryd.prog 92 := callOk_of Tryd.func92 (by kernel_rfl) rfl
theorem ck_93 : callOk Tryd.prog 93 := callOk_of Tryd.func93 (by kernel_rfl) rfl
theorem ck_94 : callOk Tryd.prog 94 := callOk_of Tryd.func94 (by kernel_rfl) rfl
theorem ck_95 : callOk Tryd.prog 95 := callOk_of Tryd.func95 (by kernel_rfl) rfl
theorem ck_96 : callOk Tryd.prog 96 := callOk_of Tryd.func96 (by kernel_rfl) rfl
theorem ck_97 : callOk Tryd.prog 97 := callOk_of Tryd.func97 (by kernel_rfl) rfl
theorem ck_98 : callOk Tryd.prog 98 := callOk_of Tryd.func98 (by kernel_rfl) rfl
theorem ck_99 : callOk Tryd.prog 99 := callOk_of Tryd.func99 (by kernel_rfl) rfl
theorem ck_100 : callOk Tryd.prog 100 := callOk_of Tryd.func100 (by kernel_rfl) rfl
theorem ck_101 : callOk Tryd.prog 101 := callOk_of Tryd.func101 (by kernel_rfl) rfl
theorem ck_102 : callOk Tryd.prog 102 := callOk_of Tryd.func102 (by kernel_rfl) rfl
theorem ck_103 : callOk Tryd.prog 103 := callOk_of Tryd.func103 (by kernel_rfl) rfl
theorem ck_104 : callOk Tryd.prog 104 := callOk_of Tryd.func104 (by kernel_rfl) rfl
theorem ck_105 : callOk Tryd.prog 105 := callOk_of Tryd.func105 (by kernel_rfl) rfl
theorem ck_106 : callOk Tryd.prog 106 := callOk_of Tryd.func106 (by kernel_rfl) rfl
theorem ck_107 : callOk Tryd.prog 107 := callOk_of Tryd.func107 (by kernel_rfl) rfl
theorem ck_108 : callOk Tryd.prog 108 := callOk_of Tryd.func108 (by kernel_rfl) rfl
theorem ck_109 : callOk Tryd.prog 109 := callOk_of Tryd.func109 (by kernel_rfl) rfl
theorem ck_110 : callOk Tryd.prog 110 := callOk_of Tryd.func110 (by kernel_rfl) rfl
theorem ck_111 : callOk Tryd.prog 111 := callOk_of Tryd.func111 (by kernel_rfl) rfl
theorem ck_112 : callOk Tryd.prog 112 := callOk_of Tryd.func112 (by kernel_rfl) rfl
theorem ck_113 : callOk Tryd.prog 113 := callOk_of Tryd.func113 (by kernel_rfl) rfl
theorem ck_114 : callOk Tryd.prog 114 := callOk_of Tryd.func114 (by kernel_rfl) rfl
theorem ck_115 : callOk Tryd.prog 115 := callOk_of Tryd.func115 (by kernel_rfl) rfl
theorem ck_116 : callOk Tryd.prog 116 := callOk_of Tryd.func116 (by kernel_rfl) rfl
theorem ck_117 : callOk Tryd.prog 117 := callOk_of Tryd.func117 (by kernel_rfl) rfl
theorem ck_118 : callOk Tryd.prog 118 := callOk_of Tryd.func118 (by kernel_rfl) rfl
theorem ck_119 : callOk Tryd.prog 119 := callOk_of Tryd.func119 (by kernel_rfl) rfl
theorem ck_120 : callOk Tryd.prog 120 := callOk_of Tryd.func120 (by kernel_rfl) rfl
theorem ck_121 : callOk Tryd.prog 121 := callOk_of Tryd.func121 (by kernel_rfl) rfl
theorem ck_145 : callOk Tryd.prog 145 := callOk_of Tryd.func145 (by kernel_rfl) rfl
end Go.Proofs.YtpjbofodllhjbaaDoor
/- Calls of methods through an interface, type assertions, max, min, quotients of whatever sign. -/
namespace Go.Proofs.YtpjbofodllhjbaaDoor
open Go.RowKit

section
variable {P : Program} {C : World → Prop} {ops : Array Oper} {Q : Exit → Act → World → Prop} {n : Nat} {p : Nat → Prop} {w0 : World} {o : Oper} {rest : List Oper} {l : Kn} {L : List Ent}

/-- Of a value of this dynamic type the method is that function, and that its receiver. -/
def Meth (P : Program) (C : World → Prop) (t : TypeId) (v : Value) (name : String) (f : FuncId) (rv : Value) : Prop := ∀ w, C w → (method (P.types.size + Made.depth) t v name).run P w = .ok (f, rv) w
theorem run_invokeM {a : Act} {f : FuncId} {r : Operand} {name : String} {t : TypeId} {v rv : Value} {xs : List Operand} {ts : Array TypeId} {vs : List Value} {w : World} (ho : o.op = .call { callee := .invoke r name, args := xs.toArray, argTypes := ts })
    (hr : ev l r = some (.iface t v)) (hx : evs l xs = some vs) (hm : (method (P.types.size + Made.depth) t v name).run P w = .ok (f, rv) w) (hf : callOk P f) (ha : Has n a l) :
    (execOp a.eval o).run P w = .ok (.enter f (rv :: vs).toArray) w := by
  have h1 := ha.ev hr
  have h2 := ha.evs hx
  have hf' := hf (rv :: vs).toArray w
  have e1 : (#[Value.iface t v] ++ xs.toArray.map a.eval)[0]? = some (Value.iface t v) := by simp
  have e2 : (#[Value.iface t v] ++ xs.toArray.map a.eval).extract 1 (#[Value.iface t v] ++ xs.toArray.map a.eval).size = vs.toArray := by
    apply Array.ext'
    simp [← h2]
    exact List.take_of_length_le (by simp)
  have e3 : #[rv] ++ vs.toArray = (rv :: vs).toArray := by simp
  unfold execOp
  simp only [ho, resolve, h1, Sem.run_bind, Sem.run_pure, Result.andThen_ok]
  unfold invoke
  simp only [e1, e2]
  unfold callMethod
  simp only [Sem.run_bind, program, Sem.run, Result.andThen_ok, hm, e3, hf']
theorem WL.invoke {f : FuncId} {r : Operand} {name : String} {t : TypeId} {v rv : Value} {xs : List Operand} {ts : Array TypeId} {vs : List Value} {d : Nat} (ho : o.op = .call { callee := .invoke r name, args := xs.toArray, argTypes := ts })
    (hr : ev l r = some (.iface t v)) (hx : evs l xs = some vs) (hm : Meth P (fun w => St p w0 w L) t v name f rv) (hf : callOk P f) (hg : On ops o l) (hd : o.dst = some d) (hn : Nat.blt d n = true)
    (h : ∀ w, St p w0 w L → Calls P f (rv :: vs).toArray w fun e w' => ∃ v L', e = .returned v ∧ St p w0 w' L' ∧ WL P ops Q n p w0 rest ((d, v) :: l) L') : WL P ops Q n p w0 (o :: rest) l L := by
  intro a w ha hS
  refine wpList_on (hg.ok ha) ?_
  unfold Oper.wp
  rw [run_invokeM ho hr hx (hm w hS) hf ha]
  refine (h w hS).mono ?_
  rintro e w' ⟨v, L', rfl, hS', hK⟩
  exact hK _ _ (ha.put_any hd hn v) hS'
theorem WQ.invoke {K : Act → World → Prop} {f : FuncId} {r : Operand} {name : String} {t : TypeId} {v rv : Value} {xs : List Operand} {ts : Array TypeId} {vs : List Value} {d : Nat} (u : Value) (ho : o.op = .call { callee := .invoke r name, args := xs.toArray, argTypes := ts })
    (hr : ev l r = some (.iface t v)) (hx : evs l xs = some vs) (hm : Meth P (fun w => St p w0 w L) t v name f rv) (hf : callOk P f) (hg : On ops o l) (hd : o.dst = some d) (hn : Nat.blt d n = true)
    (hc : ∀ w, St p w0 w L → Calls P f (rv :: vs).toArray w fun e w' => e = .returned u ∧ St p w0 w' L) (h : WQ P ops K n p w0 rest ((d, u) :: l) L) : WQ P ops K n p w0 (o :: rest) l L := by
  intro a ha
  unfold wpQuiet
  rw [if_pos (hg.ok ha)]
  refine ⟨u, fun w hS => ?_, h _ (ha.put_any hd hn u)⟩
  unfold Oper.quietAt
  rw [run_invokeM ho hr hx (hm w hS) hf ha]
  exact ⟨rfl, hc w hS⟩
def isIf : TypeDesc → Bool | .interface _ => true | _ => false
theorem v_typeAssert {x : Operand} {xt t : TypeId} {v : Value} {ds : TypeDesc} (ho : o.op = .typeAssert x xt t false) (hx : ev l x = some (.iface t v)) (hu : P.underlying t = some ds) (hd : isIf ds = false) : Val P C n l o v := fun a w ha _ => by
  have h1 := ha.ev hx
  unfold execOp
  simp only [ho, h1, Instr.typeAssert, Sem.run_bind, run_underlying hu, Result.andThen_ok]
  cases ds <;> first | (simp [isIf] at hd; done) | simp
theorem v_max {t t' : TypeId} {x y : Operand} {k : IntKind} {A B : Int} (ho : o.op = .call { callee := .builtin .max, args := #[x, y], argTypes := #[t, t'] }) (hx : ev l x = some (.int k A)) (hy : ev l y = some (.int k B)) : Val P C n l o (.int k (max A B)) := fun a w ha _ => by
  have hx' : evs l [x, y] = some [.int k A, .int k B] := by simp [evs, hx, hy]
  obtain ⟨cs, h⟩ := run_builtin (P := P) (w := w) (xs := [x, y]) ho hx' ha
  rw [h]
  have e : (if B > A then B else A) = max A B := by omega
  simp [builtin, Builtin.max_, Builtin.max2, e]
theorem v_min {t t' : TypeId} {x y : Operand} {k : IntKind} {A B : Int} (ho : o.op = .call { callee := .builtin .min, args := #[x, y], argTypes := #[t, t'] }) (hx : ev l x = some (.int k A)) (hy : ev l y = some (.int k B)) : Val P C n l o (.int k (min A B)) := fun a w ha _ => by
  have hx' : evs l [x, y] = some [.int k A, .int k B] := by simp [evs, hx, hy]
  obtain ⟨cs, h⟩ := run_builtin (P := P) (w := w) (xs := [x, y]) ho hx' ha
  rw [h]
  have e : (if B < A then B else A) = min A B := by omega
  simp [builtin, Builtin.min_, Builtin.min2, e]
theorem v_quoT {t yt : TypeId} {x y : Operand} {k : IntKind} {A B r : Int} (ho : o.op = .binOp .quo t x y yt) (hx : ev l x = some (.int k A)) (hy : ev l y = some (.int k B)) (hB : B ≠ 0) (hr : k.wrap (A.tdiv B) = r) : Val P C n l o (.int k r) := fun a w ha _ => by
  rw [run_int2 ho (ha.ev hx) (ha.ev hy), ← hr]; simp [binOp, Op.intDiv, hB, Result.andThen]
theorem v_remT {t yt : TypeId} {x y : Operand} {k : IntKind} {A B : Int} (ho : o.op = .binOp .rem t x y yt) (hx : ev l x = some (.int k A)) (hy : ev l y = some (.int k B)) (hB : B ≠ 0) : Val P C n l o (.int k (A.tmod B)) := fun a w ha _ => by
  rw [run_int2 ho (ha.ev hx) (ha.ev hy)]; simp [binOp, Op.intDiv, hB, Result.andThen]
theorem chk_run (ts : Array TypeId) (t : TypeId) (a : Addr) (x y : String) (w : World) : (Builtin.ssaWrapNilChk_ ts t #[.pointer (some a), strVal x, strVal y]).run P w = .ok (.pointer (some a)) w := rfl
def methOf (P : Program) (t : TypeId) (name : String) : Option (Array FieldStep × Option (FuncId × Bool)) := (P.info? t).bind fun i => (i.methods.find? (·.name == name)).map fun m => (m.path, m.func)
/-- A method of the elements' type, called of a pointer to one. -/
theorem meth_val {t e : TypeId} {a : Addr} {name : String} {f : FuncId} {v : Value} {w : World} (hm : methOf P t name = some (#[], some (f, false))) (hu : P.underlying t = some (.pointer e))
    (hv : (loadVar e a).run P w = .ok v w) : (method (P.types.size + Made.depth) t (.pointer (some a)) name).run P w = .ok (f, v) w := by
  unfold methOf at hm
  cases hq : P.info? t with
  | none => simp [hq] at hm
  | some i =>
    simp only [hq, Option.bind_some, Option.map_eq_some_iff, Prod.mk.injEq] at hm
    obtain ⟨m, hm, hp, hf⟩ := hm
    have e1 : P.types.size + Made.depth = (P.types.size + 99) + 1 := rfl
    rw [e1]
    unfold method
    simp [typeInfo, hq, hm, hp, follow, hf, receiverAt, run_underlying hu, Place.get, chk_run, asAddr, hv]
theorem meth_ptr {t e : TypeId} {u : Value} {name : String} {f : FuncId} {w : World} (hm : methOf P t name = some (#[], some (f, true))) (hu : P.underlying t = some (.pointer e)) :
    (method (P.types.size + Made.depth) t u name).run P w = .ok (f, u) w := by
  unfold methOf at hm
  cases hq : P.info? t with
  | none => simp [hq] at hm
  | some i =>
    simp only [hq, Option.bind_some, Option.map_eq_some_iff, Prod.mk.injEq] at hm
    obtain ⟨m, hm, hp, hf⟩ := hm
    have e1 : P.types.size + Made.depth = (P.types.size + 99) + 1 := rfl
    rw [e1]
    unfold method
    simp [typeInfo, hq, hm, hp, follow, hf, receiverAt, run_underlying hu, Place.get]
/-- A method of the value's own type (no pointer). -/
theorem meth_own {t : TypeId} {ds : TypeDesc} {u : Value} {name : String} {f : FuncId} {w : World} (hm : methOf P t name = some (#[], some (f, false))) (hu : P.underlying t = some ds) (hd : (match ds with | .pointer _ => true | _ => false) = false) :
    (method (P.types.size + Made.depth) t u name).run P w = .ok (f, u) w := by
  unfold methOf at hm
  cases hq : P.info? t with
  | none => simp [hq] at hm
  | some i =>
    simp only [hq, Option.bind_some, Option.map_eq_some_iff, Prod.mk.injEq] at hm
    obtain ⟨m, hm, hp, hf⟩ := hm
    have e1 : P.types.size + Made.depth = (P.types.size + 99) + 1 := rfl
    rw [e1]
    unfold method
    cases ds <;> first | (simp at hd; done) | simp [typeInfo, hq, hm, hp, follow, hf, receiverAt, run_underlying hu, Place.get]
theorem load1_cell {t g k : Nat} {v : Value} {w : World} (h : One P t) (hv : w.cell? ⟨g, k, none⟩ = some v) : (loadVar t ⟨g, k, none⟩).run P w = .ok v w := by
  simp [loadVar, h.agg, load, Sem.run, hv]
end
end Go.Proofs.YtpjbofodllhjbaaDoor
/- The engine: a region that draws its order, where one allocation may come up at any place among what only reads. -/
namespace Go.Proofs.YtpjbofodllhjbaaDoor
open Go.RowKit

section
variable {P : Program} {ops : Array Oper} {md : Region.Mode} {I : World → Prop} {R : World → World → Prop}

/-- One value in every world of the class; R: the world got and the world handed back. -/
def YieldsR (P : Program) (ops : Array Oper) (I : World → Prop) (R : World → World → Prop) (o : Oper) (v : Value) (a : Act) : Prop :=
  (Region.wanted o (yielded ops a.tmps) = true ∧ ∀ w, I w → o.quietAt P a (R w) w v) ∨ (Region.wanted o (yielded ops a.tmps) = false ∧ v = undef)
theorem YieldsR.of_same {o : Oper} {v : Value} {a a' : Act} (hy : YieldsR P ops I R o v a) (he : execOp a'.eval o = execOp a.eval o)
    (hw : Region.wanted o (yielded ops a'.tmps) = Region.wanted o (yielded ops a.tmps)) : YieldsR P ops I R o v a' := by
  unfold YieldsR Oper.quietAt at *
  rw [he, hw]
  exact hy
def Yv (P : Program) (ops : Array Oper) (I : World → Prop) (R : World → World → Prop) (ps : List Nat) (i : Nat) (o : Oper) (v : Value) (a : Act) : Prop :=
  if i ∈ ps then Yields P ops o v a else YieldsR P ops I R o v a
theorem Yv.put {ps : List Nat} {i : Nat} {o : Oper} {v u : Value} {a : Act} {dst : Option Tmp} (hs : ∀ cs b, o.op ≠ .select cs b) (hd : ∀ d, dst = some d → d ∉ o.looksAt ops) :
    Yv P ops I R ps i o v (a.put dst u) ↔ Yv P ops I R ps i o v a := by
  have e1 := execOp_put o hs a dst u hd
  have e2 := wanted_put (ops := ops) o a dst u hd
  unfold Yv
  split
  · exact ⟨fun h => h.of_same e1.symm e2.symm, fun h => h.of_same e1 e2⟩
  · exact ⟨fun h => h.of_same e1.symm e2.symm, fun h => h.of_same e1 e2⟩
theorem wpOp_of_Yv {ps : List Nat} {i : Nat} {o : Oper} {v : Value} {a : Act} {w : World} {K : Act → World → Prop} {Q : Exit → Act → World → Prop} (ho : ops[i]? = some o) (hy : Yv P ops I R ps i o v a) (hI : I w)
    (hK : ∀ w', w' = w ∨ R w w' → K (a.put o.dst v) w') : wpOp P ops Q i K a w := by
  unfold Yv at hy
  split at hy
  · exact hy.wpOp ho (hK w (.inl rfl))
  · unfold wpOp
    simp only [ho]
    rcases hy with ⟨hw, hv⟩ | ⟨hw, rfl⟩
    · simp only [hw, if_true]
      refine .inl ?_
      have h3 := hv w hI
      unfold Oper.quietAt at h3
      unfold Oper.wp
      generalize (execOp a.eval o).run P w = r at *
      cases r with
      | ok n w' =>
        cases n <;> simp only [Oper.quietUpon] at h3 <;> simp only [Oper.upon]
        case value u =>
          obtain ⟨e1, e2⟩ := h3
          rw [e1, e2]
          exact hK _ (.inl rfl)
        case skip =>
          obtain ⟨e1, e2⟩ := h3
          rw [e1, ← e2]
          exact hK _ (.inl rfl)
        case enter f args =>
          obtain ⟨e1, hc⟩ := h3
          rw [e1]
          exact hc.mono fun e w'' ⟨he, hw''⟩ => by subst he; exact hK _ (.inr hw'')
      | halt x w' => simp only [Oper.quietUpon] at h3
    · simp only [hw, Bool.false_eq_true, if_false]; exact hK w (.inl rfl)

def HeadM (P : Program) (md : Region.Mode) (ops : Array Oper) (I : World → Prop) (R : World → World → Prop) (hs ps : List Nat) (Lq : Array Bool → Act → Prop) : Nat → Array Bool → Act → Prop
  | 0, listed, a => Lq listed a
  | f + 1, listed, a => (∃ i ∈ Region.ready md ops listed, i ∈ hs) ∧ ∀ i ∈ Region.ready md ops listed, i ∈ hs → ∃ o v, ops[i]? = some o ∧ Yv P ops I R ps i o v a ∧ HeadM P md ops I R hs ps Lq f (listed.setIfInBounds i true) (a.put o.dst v)
theorem HeadM_first {hs ps : List Nat} {i : Nat} {oi : Oper} {v : Value} {Lq : Array Bool → Act → Prop} (hi : ops[i]? = some oi) (hsel : ∀ (j : Nat) (o : Oper) cs b, ops[j]? = some o → o.op ≠ .select cs b)
    (hh : i ∈ hs) (hdone : ∀ listed a, Lq listed a → ∀ j ∈ hs, listed.getD j false = true) :
    ∀ (f : Nat) (listed : Array Bool) (a : Act),
      (∀ j oj, ops[j]? = some oj → j ≠ i → listed.getD j true = false → (∀ e ∈ oj.after, Region.binds md e = true → e.on ≠ i) → oi.apart ops oj = true) →
      i ∈ Region.ready md ops listed → Yv P ops I R ps i oi v a →
      HeadM P md ops I R hs ps Lq f (listed.setIfInBounds i true) (a.put oi.dst v) → HeadM P md ops I R hs ps Lq (f + 1) listed a := by
  intro f
  induction f with
  | zero =>
    intro listed a _ hr hy H
    refine ⟨⟨i, hr, hh⟩, fun j hj hjh => ?_⟩
    by_cases hji : j = i
    · subst hji; exact ⟨oi, v, hi, hy, H⟩
    · have h1 := hdone _ _ H j hjh
      rw [getD_set_ne false (Ne.symm hji)] at h1
      have := getD_both (mem_ready.1 hj).1
      rw [h1] at this; cases this
  | succ f ih =>
    intro listed a hfree hr hy H
    have hun := getD_both (mem_ready.1 hr).1
    refine ⟨⟨i, hr, hh⟩, fun j hj hjh => ?_⟩
    by_cases hji : j = i
    · subst hji; exact ⟨oi, v, hi, hy, H⟩
    · obtain ⟨oj', u, hoj', hyj, Hj⟩ := H.2 j (ready_mono hj hji) hjh
      obtain ⟨hjun, oj, hoj, hall⟩ := mem_ready.1 hj
      obtain rfl : oj' = oj := Option.some.inj (hoj'.symm.trans hoj)
      have hnot : ∀ e ∈ oj'.after, Region.binds md e = true → e.on ≠ i := fun e he hb heq => by
        have h1 := hall e he hb
        rw [heq, hun] at h1
        cases h1
      obtain ⟨h1, h2, h3⟩ := Oper.apart_spec (hfree j oj' hoj hji hjun hnot)
      have hfree' : ∀ k ok, ops[k]? = some ok → k ≠ i → (listed.setIfInBounds j true).getD k true = false →
          (∀ e ∈ ok.after, Region.binds md e = true → e.on ≠ i) → oi.apart ops ok = true := fun k ok hk hki hun hno => by
        refine hfree k ok hk hki ?_ hno
        by_cases hjk : j = k
        · subst hjk; exact hjun
        · rw [getD_set_ne true hjk] at hun; exact hun
      refine ⟨oj', u, hoj, (Yv.put (fun cs b => hsel j oj' cs b hoj) h1).1 hyj, ih _ _ hfree' (ready_mono hr (Ne.symm hji)) ((Yv.put (fun cs b => hsel i oi cs b hi) h3).2 hy) ?_⟩
      rw [Array.setIfInBounds_comm _ _ hji, ← Act.put_comm a v u h2]
      exact Hj
theorem HeadM_over {hs ps : List Nat} {k d : Nat} {u : Value} {Lq Lq' : Array Bool → Act → Prop} (hsel : ∀ (j : Nat) (o : Oper) cs b, ops[j]? = some o → o.op ≠ .select cs b) (hk : k ∉ hs)
    (hno : ∀ i ∈ hs, ∀ o, ops[i]? = some o → d ∉ o.looksAt ops ∧ o.dst ≠ some d ∧ ∀ e ∈ o.after, Region.binds md e = true → e.on ≠ k)
    (hL : ∀ listed a, Lq listed a → Lq' (listed.setIfInBounds k true) (a.put (some d) u)) :
    ∀ (f : Nat) (listed : Array Bool) (a : Act), HeadM P md ops I R hs ps Lq f listed a → HeadM P md ops I R hs ps Lq' f (listed.setIfInBounds k true) (a.put (some d) u)
  | 0, listed, a, H => hL _ _ H
  | f + 1, listed, a, ⟨⟨i, hr, hh⟩, H⟩ => by
    refine ⟨⟨i, ready_mono hr (fun e => hk (e ▸ hh)), hh⟩, fun j hj hjh => ?_⟩
    have hjk : k ≠ j := fun e => hk (e ▸ hjh)
    have hj' : j ∈ Region.ready md ops listed := by
      obtain ⟨h1, o, ho, hall⟩ := mem_ready.1 hj
      refine mem_ready.2 ⟨by rw [getD_set_ne true hjk] at h1; exact h1, o, ho, fun e he hb => ?_⟩
      have := hall e he hb
      rw [getD_set_ne false (Ne.symm ((hno j hjh o ho).2.2 e he hb))] at this
      exact this
    obtain ⟨o, v, ho, hy, hn⟩ := H j hj' hjh
    obtain ⟨n1, n2, _⟩ := hno j hjh o ho
    refine ⟨o, v, ho, (Yv.put (fun cs b => hsel j o cs b ho) (fun d' e => by cases e; exact n1)).2 hy, ?_⟩
    have := HeadM_over hsel hk hno hL f _ _ hn
    rw [Array.setIfInBounds_comm _ _ hjk, Act.put_comm a (x := some d) (y := o.dst) u v (fun d' e => by cases e; exact n2)]
    exact this

theorem Has.put_nil {n : Nat} {a : Act} (h : Has n a []) (dst : Option Nat) (v : Value) : Has n (a.put dst v) [] := by
  cases dst with
  | none => exact h
  | some d => exact ⟨by simp [Act.put, h.size], h.defers, fun t v hv => by cases hv⟩

/-! ### The checks -/
def sinkOne (md : Region.Mode) (ops : Array Oper) (hs : List Nat) (k : Nat) (listed : Array Bool) : Bool :=
  (List.range ops.size).all fun t => listed.getD t false || hs.contains t || t == k || waitsB md ops k ops.size t
def sinkHead (md : Region.Mode) (ops : Array Oper) (hs hs1 : List Nat) (listed : Array Bool) : Bool :=
  (List.range ops.size).all fun t => listed.getD t false || hs.contains t || hs1.all fun h => waitsB md ops h ops.size t
def overB (md : Region.Mode) (ops : Array Oper) (hs : List Nat) (k d : Nat) : Bool :=
  hs.all fun i => i != k && match ops[i]? with
    | some o => !(o.looksAt ops).contains d && o.dst != some d && o.after.all fun e => !Region.binds md e || e.on != k
    | none => true
theorem overB_spec {hs : List Nat} {k d : Nat} (h : overB md ops hs k d = true) : k ∉ hs ∧ ∀ i ∈ hs, ∀ o, ops[i]? = some o → d ∉ o.looksAt ops ∧ o.dst ≠ some d ∧ ∀ e ∈ o.after, Region.binds md e = true → e.on ≠ k := by
  have h1 := List.all_eq_true.1 h
  refine ⟨fun hk => ?_, fun i hi o ho => ?_⟩
  · have := h1 k hk
    simp at this
  · have := h1 i hi
    simp only [ho, Bool.and_eq_true, Bool.not_eq_true', bne_iff_ne, ne_eq] at this
    refine ⟨by simpa using this.2.1.1, this.2.1.2, fun e he hb => ?_⟩
    have h2 := Array.all_eq_true'.1 this.2.2 e he
    rw [hb] at h2
    simpa using h2
/-- What is pure may be taken ahead of all but what waits for it, when these are done. -/
def freeB (md : Region.Mode) (ops : Array Oper) (hs1 ps : List Nat) (listed : Array Bool) : Bool :=
  ps.all fun i => match ops[i]? with
    | some oi => (List.range ops.size).all fun j => j == i || listed.getD j false || hs1.contains j || match ops[j]? with
      | some oj => (oj.after.any fun e => Region.binds md e && e.on == i) || oi.apart ops oj
      | none => true
    | none => true

/-! ### The allocation is done -/
theorem any_of_B {hs1 ps : List Nat} {listed1 : Array Bool} {D : World → Prop} {g : Nat} {Q : Exit → Act → World → Prop} {Lq : Array Bool → Act → Prop} (hsel : Region.noSelect ops = true) (hDI : ∀ w, D w → I w) (hDR : ∀ w w', D w → R w w' → D w')
    (hsk : sinkHead md ops (hs1 ++ ps) hs1 listed1 = true) (hfr : freeB md ops hs1 ps listed1 = true)
    (hfin : ∀ listed a w, Inv md ops (hs1 ++ ps) listed1 listed → (∀ j, listed1.getD j false = true → listed.getD j false = true) → Lq listed a → D w → wpAny P md ops (NP Q) g listed a w) :
    ∀ (f : Nat) (listed : Array Bool) (a : Act) (w : World), Inv md ops (hs1 ++ ps) listed1 listed → (∀ j, listed1.getD j false = true → listed.getD j false = true) → D w → HeadM P md ops I R (hs1 ++ ps) ps Lq f listed a → wpAny P md ops (NP Q) (f + g) listed a w
  | 0, listed, a, w, inv, hm, hD, H => by rw [Nat.zero_add]; exact hfin _ _ _ inv hm H hD
  | f + 1, listed, a, w, inv, hm, hD, ⟨⟨i0, hr0, hh0⟩, H⟩ => by
    rw [show f + 1 + g = (f + g) + 1 by omega]
    by_cases hun : ∃ h ∈ hs1, listed.getD h false = false
    · obtain ⟨h, hh1, hun⟩ := hun
      refine ⟨fun h0 => (by rw [h0] at hr0; cases hr0), fun i hi => ?_⟩
      have hih : i ∈ hs1 ++ ps := by
        obtain ⟨hju, oj, hoj, _⟩ := mem_ready.1 hi
        have hlt := (Array.getElem?_eq_some_iff.1 hoj).1
        have h1 := List.all_eq_true.1 hsk i (List.mem_range.2 hlt)
        simp only [Bool.or_eq_true] at h1
        rcases h1 with (h1 | h1) | h1
        · have := hm i h1
          rw [getD_both hju] at this; cases this
        · simpa using h1
        · exact absurd hi (waits_spec inv.closed hun _ _ (List.all_eq_true.1 h1 h hh1)).2
      obtain ⟨o, v, ho, hy, hn⟩ := H i hi hih
      refine wpOp_of_Yv ho hy (hDI w hD) fun w' hw' => any_of_B hsel hDI hDR hsk hfr hfin f _ _ w' (inv.set hi hih) (fun j hj => getD_set_true (hm j hj)) ?_ hn
      rcases hw' with rfl | hw'
      · exact hD
      · exact hDR _ _ hD hw'
    · have hall : ∀ h ∈ hs1, listed.getD h false = true := fun h hh => by
        cases e : listed.getD h false with
        | true => rfl
        | false => exact absurd ⟨h, hh, e⟩ hun
      have hu0 := getD_both (mem_ready.1 hr0).1
      have hp : i0 ∈ ps := by
        rcases List.mem_append.1 hh0 with h | h
        · rw [hall i0 h] at hu0; cases hu0
        · exact h
      obtain ⟨o, v, ho, hy, hn⟩ := H i0 hr0 hh0
      unfold Yv at hy
      rw [if_pos hp] at hy
      refine wpAny_first ho (Region.noSelect_spec hsel) (fun c a w hh => hh) (f + g) listed a w ?_ hr0 hy (any_of_B hsel hDI hDR hsk hfr hfin f _ _ w (inv.set hr0 hh0) (fun j hj => getD_set_true (hm j hj)) hD hn)
      intro j oj hoj hji hju hno
      have hlt := (Array.getElem?_eq_some_iff.1 hoj).1
      have h1 := List.all_eq_true.1 hfr i0 hp
      simp only [ho] at h1
      have h2 := List.all_eq_true.1 h1 j (List.mem_range.2 hlt)
      simp only [hoj, Bool.or_eq_true, beq_iff_eq] at h2
      rcases h2 with ((h2 | h2) | h2) | h2
      · exact absurd h2 hji
      · have := hm j h2
        rw [getD_both hju] at this; cases this
      · have := hall j (by simpa using h2)
        rw [getD_both hju] at this; cases this
      · rcases h2 with h2 | h2
        · obtain ⟨e, he, hb⟩ := Array.any_eq_true'.1 h2
          simp only [Bool.and_eq_true, beq_iff_eq] at hb
          exact absurd hb.2 (hno e he hb.1)
        · exact h2
/-! ### The allocation is still to come -/
theorem any_of_A {hs1 ps : List Nat} {k d n : Nat} {ok : Oper} {listed0 : Array Bool} {D : Nat → World → Prop} {g : Nat} {Q : Exit → Act → World → Prop} {Lq : Array Bool → Act → Prop} {Lq' : Nat → Array Bool → Act → Prop}
    (hsel : Region.noSelect ops = true) (hsz0 : listed0.size = ops.size) (hI : ∀ w w', I w → R w w' → I w') (hDI : ∀ x w, D x w → I w) (hDR : ∀ x w w', D x w → R w w' → D x w')
    (hok : ops[k]? = some ok) (hov : overB md ops (hs1 ++ ps) k d = true) (hsa : sinkOne md ops (hs1 ++ ps) k listed0 = true)
    (hsk : sinkHead md ops (hs1 ++ ps) hs1 (listed0.setIfInBounds k true) = true) (hfr : freeB md ops hs1 ps (listed0.setIfInBounds k true) = true)
    (hal : ∀ (a : Act) (w : World) (K : Act → World → Prop), Has n a [] → I w → (∀ x w1, D x w1 → K (a.put (some d) (.pointer (some ⟨x, 0, none⟩))) w1) → wpOp P ops (NP Q) k K a w)
    (hdone : ∀ listed a, Lq listed a → ∀ j ∈ hs1 ++ ps, listed.getD j false = true)
    (hL : ∀ x listed a, Lq listed a → Lq' x (listed.setIfInBounds k true) (a.put (some d) (.pointer (some ⟨x, 0, none⟩))))
    (hfin : ∀ x listed a w, Inv md ops (hs1 ++ ps) (listed0.setIfInBounds k true) listed → (∀ j, (listed0.setIfInBounds k true).getD j false = true → listed.getD j false = true) → Lq' x listed a → D x w → wpAny P md ops (NP Q) g listed a w) :
    ∀ (f : Nat) (listed : Array Bool) (a : Act) (w : World), Inv md ops (hs1 ++ ps) listed0 listed → (∀ j, listed0.getD j false = true → listed.getD j false = true) → k ∈ Region.ready md ops listed → Has n a [] → I w → HeadM P md ops I R (hs1 ++ ps) ps Lq f listed a → wpAny P md ops (NP Q) (f + 1 + g) listed a w := by
  obtain ⟨hk, hno⟩ := overB_spec hov
  have only : ∀ listed : Array Bool, Inv md ops (hs1 ++ ps) listed0 listed → (∀ j, listed0.getD j false = true → listed.getD j false = true) → k ∈ Region.ready md ops listed → ∀ i ∈ Region.ready md ops listed, i ∈ hs1 ++ ps ∨ i = k := fun listed inv hm hkr i hi => by
    obtain ⟨hju, oj, hoj, _⟩ := mem_ready.1 hi
    have hlt := (Array.getElem?_eq_some_iff.1 hoj).1
    have h1 := List.all_eq_true.1 hsa i (List.mem_range.2 hlt)
    simp only [Bool.or_eq_true, beq_iff_eq] at h1
    rcases h1 with ((h1 | h1) | h1) | h1
    · have := hm i h1
      rw [getD_both hju] at this; cases this
    · exact .inl (by simpa using h1)
    · exact .inr h1
    · exact absurd hi (waits_spec inv.closed (getD_both (mem_ready.1 hkr).1) _ _ h1).2
  have inv1 : ∀ listed : Array Bool, Inv md ops (hs1 ++ ps) listed0 listed → k ∈ Region.ready md ops listed → (∀ j, listed0.getD j false = true → listed.getD j false = true) → Inv md ops (hs1 ++ ps) (listed0.setIfInBounds k true) (listed.setIfInBounds k true) ∧ (∀ j, (listed0.setIfInBounds k true).getD j false = true → (listed.setIfInBounds k true).getD j false = true) := fun listed inv hkr hm => by
    have hlt : k < listed.size := by
      have := (mem_ready.1 hkr).1
      rcases Nat.lt_or_ge k listed.size with h' | h'
      · exact h'
      · simp [Array.getElem?_eq_none h'] at this
    have hlt0 : k < listed0.size := by rw [hsz0, ← inv.size]; exact hlt
    have hset : ∀ j, (listed0.setIfInBounds k true).getD j false = true → (listed.setIfInBounds k true).getD j false = true := fun j hj => by
      by_cases hjk : k = j
      · subst hjk; simp [hlt]
      · rw [getD_set_ne false hjk] at hj ⊢; exact hm j hj
    refine ⟨⟨inv.closed.set hkr, fun j hj => ?_, by simp [inv.size]⟩, hset⟩
    by_cases hjk : k = j
    · subst hjk; exact .inl (by simp [hlt0])
    · rw [getD_set_ne false hjk] at hj
      rcases inv.only j hj with h2 | h2
      · exact .inl (getD_set_true h2)
      · exact .inr h2
  intro f
  induction f with
  | zero =>
    intro listed a w inv hm hkr ha hI' H
    rw [show 0 + 1 + g = g + 1 by omega]
    refine ⟨fun h0 => (by rw [h0] at hkr; cases hkr), fun i hi => ?_⟩
    rcases only listed inv hm hkr i hi with h | rfl
    · have h1 := hdone _ _ H i h
      have := getD_both (mem_ready.1 hi).1
      rw [h1] at this; cases this
    · exact hal a w _ ha hI' fun x w1 hD => hfin x _ _ _ (inv1 listed inv hkr hm).1 (inv1 listed inv hkr hm).2 (hL x _ _ H) hD
  | succ f ih =>
    intro listed a w inv hm hkr ha hI' H
    rw [show f + 1 + 1 + g = (f + 1 + g) + 1 by omega]
    refine ⟨fun h0 => (by rw [h0] at hkr; cases hkr), fun i hi => ?_⟩
    rcases only listed inv hm hkr i hi with h | rfl
    · obtain ⟨o, v, ho, hy, hn⟩ := H.2 i hi h
      refine wpOp_of_Yv ho hy hI' fun w' hw' => ih _ _ w' (inv.set hi h) (fun j hj => getD_set_true (hm j hj)) (ready_mono hkr (fun e => hk (e ▸ h))) (ha.put_nil _ _) ?_ hn
      rcases hw' with rfl | hw'
      · exact hI'
      · exact hI _ _ hI' hw'
    · refine hal a w _ ha hI' fun x w1 hD => ?_
      exact any_of_B hsel (hDI x) (hDR x) hsk hfr (hfin x) (f + 1) _ _ w1 (inv1 listed inv hkr hm).1 (inv1 listed inv hkr hm).2 hD (HeadM_over (Region.noSelect_spec hsel) hk hno (fun l a h => hL x l a h) (f + 1) _ _ H)

/-! ### From a list, and the steps -/
def mixL (P : Program) (I : World → Prop) (R : World → World → Prop) (ps : List Nat) (os : List Oper) (K : Act → Prop) : List Nat → Act → Prop
  | [], a => K a
  | i :: is, a => ∃ v, Yv P os.toArray I R ps i (at_ os i) v a ∧ mixL P I R ps os K is (a.put (at_ os i).dst v)
theorem mixL_append {ps : List Nat} {os : List Oper} {K : Act → Prop} {js2 : List Nat} : ∀ (js1 : List Nat) (a : Act), mixL P I R ps os (mixL P I R ps os K js2) js1 a → mixL P I R ps os K (js1 ++ js2) a
  | [], _, h => h
  | _ :: is, _, ⟨v, hy, h⟩ => ⟨v, hy, mixL_append is _ h⟩
theorem HeadM_list {os : List Oper} {hs ps : List Nat} {K : Act → Prop} (hsel : Region.noSelect os.toArray = true) :
    ∀ (js : List Nat) (listed : Array Bool) (a : Act), (∀ j ∈ js, j ∈ hs) → (∀ j ∈ hs, j ∈ js ∨ listed.getD j false = true) → takesB .any os.toArray js listed = true → mixL P I R ps os K js a →
    HeadM P .any os.toArray I R hs ps (fun listed' a' => (∀ j ∈ hs, listed'.getD j false = true) ∧ K a') js.length listed a
  | [], listed, a, _, hd, _, h => ⟨fun j hj => (hd j hj).resolve_left (by simp), h⟩
  | i :: is, listed, a, hj, hd, hB, h => by
    simp only [takesB, Bool.and_eq_true] at hB
    obtain ⟨⟨hr, hf⟩, hB'⟩ := hB
    have hr' : i ∈ Region.ready .any os.toArray listed := by simpa using hr
    have h0 := at_some hr'
    obtain ⟨v, hy, hK⟩ := h
    refine HeadM_first h0 (Region.noSelect_spec hsel) (hj i (by simp)) (fun _ _ h j hj => h.1 j hj) is.length listed a (Region.free_spec h0 hf) hr' hy ?_
    exact HeadM_list hsel is _ _ (fun j h => hj j (by simp [h])) (fun j h => by
      rcases hd j h with h1 | h1
      · rcases List.mem_cons.1 h1 with rfl | h1
        · right
          have hlt : j < listed.size := by
            have := (mem_ready.1 hr').1
            rcases Nat.lt_or_ge j listed.size with h' | h'
            · exact h'
            · simp [Array.getElem?_eq_none h'] at this
          simp [hlt]
        · exact .inl h1
      · exact .inr (getD_set_true h1)) hB' hK
def rqList (P : Program) (ops : Array Oper) (I : World → Prop) (R : World → World → Prop) (K : Act → Prop) : List Oper → Act → Prop
  | [], a => K a
  | o :: rest, a => ∃ v, YieldsR P ops I R o v a ∧ rqList P ops I R K rest (a.put o.dst v)
theorem mixL_reads {ps : List Nat} {os : List Oper} {K : Act → Prop} : ∀ (js : List Nat) (a : Act), (js.all fun j => !ps.contains j) = true → rqList P os.toArray I R K (js.map (at_ os)) a → mixL P I R ps os K js a
  | [], _, _, h => h
  | i :: is, a, hn, ⟨v, hy, h⟩ => by
    simp only [List.all_cons, Bool.and_eq_true, Bool.not_eq_true'] at hn
    have hi : i ∉ ps := by simpa using hn.1
    exact ⟨v, by unfold Yv; rw [if_neg hi]; exact hy, mixL_reads is _ hn.2 h⟩
theorem mixL_pure {ps : List Nat} {os : List Oper} {K : Act → Prop} : ∀ (js : List Nat) (a : Act), (∀ j ∈ js, j ∈ ps) → wpPure P os.toArray K (js.map (at_ os)) a → mixL P I R ps os K js a
  | [], _, _, h => h
  | i :: is, a, hn, ⟨v, hy, h⟩ => ⟨v, by unfold Yv; rw [if_pos (hn i (by simp))]; exact hy, mixL_pure is _ (fun j hj => hn j (by simp [hj])) h⟩
theorem mixL_mono {ps : List Nat} {os : List Oper} {K K' : Act → Prop} (hK : ∀ a, K a → K' a) : ∀ (js : List Nat) (a : Act), mixL P I R ps os K js a → mixL P I R ps os K' js a
  | [], _, h => hK _ h
  | _ :: is, _, ⟨v, hy, h⟩ => ⟨v, hy, mixL_mono hK is _ h⟩

variable {Q : Exit → Act → World → Prop} {n : Nat} {p : Nat → Prop} {w0 : World} {o : Oper} {rest os : List Oper} {l : Kn} {L : List Ent} {K : Act → Prop}
/-- The reads of such a region. -/
def WM (P : Program) (ops : Array Oper) (K : Act → Prop) (n : Nat) (p : Nat → Prop) (w0 : World) (rest : List Oper) (l : Kn) (L : List Ent) : Prop :=
  ∀ a, Has n a l → rqList P ops (fun w => St p w0 w L) (Frm (fun _ => False)) K rest a
theorem WM.val {d : Nat} {v : Value} (hv : Val P (fun w => St p w0 w L) n l o v) (hg : On ops o l) (hd : o.dst = some d) (hn : Nat.blt d n = true)
    (h : WM P ops K n p w0 rest ((d, v) :: l) L) : WM P ops K n p w0 (o :: rest) l L := fun a ha =>
  ⟨v, .inl ⟨hg.ok ha, fun w hS => by unfold Oper.quietAt; rw [hv a w ha hS]; exact ⟨rfl, rfl⟩⟩, h _ (ha.put_any hd hn v)⟩
theorem WM.test {q : Prop} [Decidable q] {d : Nat} (hv : Val P (fun w => St p w0 w L) n l o (.bool (decide q))) (hg : On ops o l) (hd : o.dst = some d) (hn : Nat.blt d n = true)
    (ht : q → WM P ops K n p w0 rest ((d, .bool true) :: l) L) (hf : ¬ q → WM P ops K n p w0 rest ((d, .bool false) :: l) L) : WM P ops K n p w0 (o :: rest) l L := by
  by_cases hq : q
  · exact WM.val hv hg hd hn (by rw [decide_eq_true hq]; exact ht hq)
  · exact WM.val hv hg hd hn (by rw [decide_eq_false hq]; exact hf hq)
theorem WM.skip {j dj d : Nat} {b : Bool} {v : Value} (hg : o.guard = some (j, b)) (hj : (ops[j]?).bind (·.dst) = some dj) (hl : look l dj = some v) (hv : isB v b = false) (hd : o.dst = some d) (hn : Nat.blt d n = true)
    (h : WM P ops K n p w0 rest ((d, undef) :: l) L) : WM P ops K n p w0 (o :: rest) l L := fun a ha =>
  ⟨undef, .inr ⟨by rw [wanted_not hg hj ha hl hv], rfl⟩, h _ (ha.put_any hd hn _)⟩
theorem WM.callV {f : FuncId} {x : Operand} {xs : List Operand} {ts : Array TypeId} {vs : List Value} {fi cap : Array Value} {d : Nat} (v : Value) (ho : o.op = .call { callee := .value x, args := xs.toArray, argTypes := ts })
    (hfv : ev l x = some (.func (.func f) fi cap)) (hx : evs l xs = some vs) (hf : callOk P f) (hg : On ops o l) (hd : o.dst = some d) (hn : Nat.blt d n = true)
    (hc : ∀ w, St p w0 w L → Calls P f (fi ++ vs.toArray ++ cap) w fun e w' => e = .returned v ∧ Frm (fun _ => False) w w') (h : WM P ops K n p w0 rest ((d, v) :: l) L) : WM P ops K n p w0 (o :: rest) l L := fun a ha =>
  ⟨v, .inl ⟨hg.ok ha, fun w hS => by unfold Oper.quietAt; rw [run_call ho hfv hx hf ha]; exact ⟨rfl, hc w hS⟩⟩, h _ (ha.put_any hd hn v)⟩
theorem WM.call {f : FuncId} {xs : List Operand} {ts : Array TypeId} {vs : List Value} {d : Nat} (v : Value) (ho : o.op = .call { callee := .value (.func f), args := xs.toArray, argTypes := ts })
    (hx : evs l xs = some vs) (hf : callOk P f) (hg : On ops o l) (hd : o.dst = some d) (hn : Nat.blt d n = true)
    (hc : ∀ w, St p w0 w L → Calls P f vs.toArray w fun e w' => e = .returned v ∧ Frm (fun _ => False) w w') (h : WM P ops K n p w0 rest ((d, v) :: l) L) : WM P ops K n p w0 (o :: rest) l L :=
  WM.callV (l := l) v ho rfl hx hf hg hd hn (fun w hS => by simpa using hc w hS) h
theorem WM.nil {K' : Act → World → Prop} (h : WP P ops K' n p w0 rest l L) : WM P ops (wpPure P ops (fun a' => ∀ w, St p w0 w L → K' a' w) rest) n p w0 [] l L := h
/-- What is known when all that is done, the allocation apart. -/
def KM (P : Program) (os : List Oper) (Q : Exit → Act → World → Prop) (n : Nat) (p : Nat → Prop) (w0 : World) (g d : Nat) (zs : List Value) (listed : Array Bool) (L : List Ent) (a : Act) : Prop :=
  ∃ l', Has n a l' ∧ ∀ x, w0.heap.size ≤ x → WR P os Q n p w0 g listed ((d, .pointer (some ⟨x, 0, none⟩)) :: l') (.row x zs :: L)
theorem WP.nilM {g d : Nat} {zs : List Value} {listed : Array Bool} (h : ∀ x, w0.heap.size ≤ x → WR P os Q n p w0 g listed ((d, .pointer (some ⟨x, 0, none⟩)) :: l) (.row x zs :: L)) :
    WP P os.toArray (fun a _ => KM P os Q n p w0 g d zs listed L a) n p w0 [] l L := fun _ ha _ _ => ⟨l, ha, h⟩
def mixB (os : List Oper) (k d : Nat) (js ps : List Nat) (listed : Array Bool) : Bool :=
  Region.noSelect os.toArray && closedB .any os.toArray listed && takesB .any os.toArray (js ++ ps) listed && (Region.ready .any os.toArray listed).contains k && overB .any os.toArray (js ++ ps) k d &&
  sinkOne .any os.toArray (js ++ ps) k listed && sinkHead .any os.toArray (js ++ ps) js (listed.setIfInBounds k true) && freeB .any os.toArray js ps (listed.setIfInBounds k true) && js.all fun j => !ps.contains j
theorem WR.mix {ty d g : Nat} {zs : List Value} {listed : Array Bool} (k : Nat) (js ps : List Nat) (ho : (at_ os k).op = .alloc ty) (hz : Zero P ty zs) (hg : (at_ os k).guard = none) (hd : (at_ os k).dst = some d) (hn : Nat.blt d n = true)
    (hsz : listed.size = os.length) (hB : mixB os k d js ps listed = true)
    (h : WM P os.toArray (wpPure P os.toArray (fun a' => ∀ w, St p w0 w L → KM P os Q n p w0 g d zs (marks (listed.setIfInBounds k true) (js ++ ps)) L a') (ps.map (at_ os))) n p w0 (js.map (at_ os)) l L) :
    WR P os Q n p w0 ((js ++ ps).length + 1 + g) listed l L := fun a w ha hS => by
  simp only [mixB, Bool.and_eq_true] at hB
  obtain ⟨⟨⟨⟨⟨⟨⟨⟨hsel, hcl⟩, htk⟩, hkr⟩, hov⟩, hsa⟩, hsk⟩, hfr⟩, hps⟩ := hB
  have hsz' : listed.size = os.toArray.size := by simpa using hsz
  have hkr' : k ∈ Region.ready .any os.toArray listed := by simpa using hkr
  have hko := at_some hkr'
  have H0 : mixL P (fun w => St p w0 w L) (Frm (fun _ => False)) ps os (fun a' => KM P os Q n p w0 g d zs (marks (listed.setIfInBounds k true) (js ++ ps)) L a') (js ++ ps) a := by
    refine mixL_append js a (mixL_reads js a hps ?_)
    have h1 := h a ha
    have mono : ∀ (K1 K2 : Act → Prop) (hK : ∀ a, K1 a → K2 a) (r : List Oper) (a : Act), rqList P os.toArray (fun w => St p w0 w L) (Frm (fun _ => False)) K1 r a → rqList P os.toArray (fun w => St p w0 w L) (Frm (fun _ => False)) K2 r a := by
      intro K1 K2 hK r
      induction r with
      | nil => exact fun a h => hK a h
      | cons o r ih => exact fun a ⟨v, hy, h⟩ => ⟨v, hy, ih _ h⟩
    exact mono _ _ (fun a h => mixL_mono (fun a h => h w hS) ps a (mixL_pure ps a (fun _ h => h) h)) _ _ h1
  have H := HeadM_list (P := P) hsel (js ++ ps) listed a (fun _ h => h) (fun _ h => .inl h) htk H0
  refine any_of_A (D := fun x w => St p w0 w (.row x zs :: L) ∧ w0.heap.size ≤ x) (Lq' := fun x listed' a' => (∀ j ∈ js ++ ps, listed'.getD j false = true) ∧ ∃ l', Has n a' ((d, .pointer (some ⟨x, 0, none⟩)) :: l') ∧ ∀ x, w0.heap.size ≤ x → WR P os Q n p w0 g (marks (listed.setIfInBounds k true) (js ++ ps)) ((d, .pointer (some ⟨x, 0, none⟩)) :: l') (.row x zs :: L))
    hsel hsz' (fun w w' h1 h2 => h1.ext h2) (fun x w h => h.1.tail) (fun x w w' h1 h2 => ⟨h1.1.ext h2, h1.2⟩) hko hov hsa hsk hfr ?_ (fun _ _ h => h.1) ?_ ?_ (js ++ ps).length listed a w ⟨closedB_spec hcl, fun _ h => .inl h, hsz'⟩ (fun _ h => h) hkr' (ha.sub Sub.nil) hS H
  · intro a w K ha hS hK
    unfold wpOp
    simp only [hko]
    rw [if_pos (by simp [Region.wanted, hg])]
    refine .inl ?_
    have hz' := hz
    obtain ⟨z, hz, rfl⟩ := hz
    unfold Oper.wp
    have e : (execOp a.eval (at_ os k)).run P w = .ok (.value (.pointer (some ⟨w.heap.size, 0, none⟩))) (w.alloc (.cells z.cells.toList.toArray ty)) := by
      unfold execOp
      simp [ho, Instr.alloc, run_zeroValue hz, newVar, newRow, newObj, Sem.run]
    rw [e]
    simp only [Oper.upon, hd]
    exact hK _ _ ⟨St.new (T := ty) hS, hS.frm.size⟩
  · rintro x listed' a' ⟨h1, l', hl', h2⟩
    exact ⟨fun j hj => getD_set_true (h1 j hj), l', hl'.put hn _, h2⟩
  · rintro x listed' a' w' inv hm ⟨h1, l', hl', h2⟩ ⟨hS', hx⟩
    have e : listed' = marks (listed.setIfInBounds k true) (js ++ ps) := marks_eq (fun j => by
      constructor
      · intro hj
        rcases inv.only j hj with h2 | h2
        · exact .inl h2
        · refine .inr ⟨h2, ?_⟩
          rcases Nat.lt_or_ge j listed'.size with h' | h'
          · rw [inv.size, ← hsz'] at h'; simpa using h'
          · simp [Array.getElem?_eq_none h'] at hj
      · rintro (h2 | ⟨h2, _⟩)
        · exact hm j h2
        · exact h1 j h2) (by rw [inv.size, ← hsz']; simp)
    rw [e]
    exact h2 x hx a' w' hl' hS'
/-- Whatever comes up next, each alone. -/
def AllOf (K : Nat → Prop) : List Nat → Prop
  | [] => True
  | [i] => K i
  | i :: j :: is => K i ∧ AllOf K (j :: is)
theorem AllOf.get {K : Nat → Prop} : ∀ {rs : List Nat}, AllOf K rs → ∀ i ∈ rs, K i
  | [], _, i, h => by cases h
  | [j], h, i, hi => by rw [List.mem_singleton.1 hi]; exact h
  | j :: k :: is, h, i, hi => by
    rcases List.mem_cons.1 hi with rfl | hi
    · exact h.1
    · exact AllOf.get h.2 i hi
theorem WR.each {g : Nat} {listed : Array Bool} (rs : List Nat) (hr : Region.ready .any os.toArray listed = rs) (hne : rs ≠ [])
    (h : AllOf (fun i => WL P os.toArray (RQ (Rest P os Q g (listed.setIfInBounds i true)) (NP Q)) n p w0 [at_ os i] l L) rs) : WR P os Q n p w0 (g + 1) listed l L := fun a w ha hS => by
  refine wpAny_all hr hne fun i hi => ?_
  have ho := at_some (listed := listed) (i := i) (by rw [hr]; exact hi)
  have h' : wpList P os.toArray (RQ (Rest P os Q g (listed.setIfInBounds i true)) (NP Q)) [at_ os i] a w := h.get i hi a w ha hS
  unfold wpOp
  simp only [ho]
  unfold wpList at h'
  split
  · rename_i hwd
    rw [if_pos hwd] at h'
    exact (h'.imp wpRQ (fun h => ⟨h.1, RQ.out h.2⟩)).imp (Oper.wp_mono fun _ _ h => h) id
  · rename_i hwd
    rw [if_neg hwd] at h'
    exact h'
end
end Go.Proofs.YtpjbofodllhjbaaDoor
/- The engine: a region that draws its order, of which every operation only makes new things: each operation's value is said by itself, and the order does not matter. -/
namespace Go.Proofs.YtpjbofodllhjbaaDoor
open Go.RowKit

/-- What is said of a value; it stays true where only new blocks come. -/
structure SpT where
  S : Value → World → Prop
  st : ∀ v w w', S v w → Frm (fun _ => False) w w' → S v w'
def spec (Ss : List SpT) (i : Nat) (v : Value) (w : World) : Prop := match Ss[i]? with | some s => s.S v w | none => True
theorem spec.stay {Ss : List SpT} {i : Nat} {v : Value} {w w' : World} (h : spec Ss i v w) (hF : Frm (fun _ => False) w w') : spec Ss i v w' := by
  unfold spec at *
  split at h
  · exact SpT.st _ _ _ _ h hF
  · trivial
def Given (Ss : List SpT) (w1 : World) (G : Kn → Prop) : List (Nat × Nat) → Kn → Prop
  | [], l => G l
  | x :: js, l => ∀ v, spec Ss x.1 v w1 → Given Ss w1 G js ((x.2, v) :: l)
theorem Has.more {n : Nat} {a : Act} {l : Kn} (h : Has n a l) (d : Nat) : Has n a ((d, a.tmps.getD d undef) :: l) := ⟨h.size, h.defers, fun t v hv => by
  unfold look at hv
  cases hb : Nat.beq d t
  · rw [hb] at hv; exact h.got t v hv
  · rw [hb] at hv
    have e : d = t := Nat.eq_of_beq_eq_true hb
    subst e
    exact Option.some.inj (by simpa using hv)⟩
theorem Given.use {Ss : List SpT} {w1 : World} {G : Kn → Prop} {n : Nat} {a : Act} : ∀ (js : List (Nat × Nat)) (l : Kn), Given Ss w1 G js l → Has n a l → (∀ x ∈ js, spec Ss x.1 (a.tmps.getD x.2 undef) w1) →
    ∃ l', Has n a l' ∧ G l' ∧ ∀ t, look l t ≠ none → look l' t ≠ none
  | [], l, h, ha, _ => ⟨l, ha, h, fun _ h => h⟩
  | x :: js, l, h, ha, hs => by
    obtain ⟨l', h1, h2, h3⟩ := Given.use js _ (h _ (hs x (by simp))) (ha.more x.2) (fun y hy => hs y (by simp [hy]))
    refine ⟨l', h1, h2, fun t ht => h3 t ?_⟩
    unfold look
    cases Nat.beq x.2 t
    · simpa using ht
    · simp
theorem all_nil {α : Type} {R : α → Prop} : ∀ y ∈ ([] : List α), R y := fun _ h => by cases h
theorem all_cons {α : Type} {R : α → Prop} {x : α} {xs : List α} (h : R x) (hs : ∀ y ∈ xs, R y) : ∀ y ∈ x :: xs, R y := fun y hy => by
  rcases List.mem_cons.1 hy with rfl | hy
  · exact h
  · exact hs y hy
abbrev FreeX := Nat × Nat × List (Nat × Nat)
section
variable {P : Program} {os : List Oper} {Q : Exit → Act → World → Prop} {n : Nat} {p : Nat → Prop} {w0 : World} {l : Kn} {L : List Ent}
/-- What an operation must hand on. -/
def FreeK (Ss : List SpT) (i d : Nat) (w1 : World) (n : Nat) (l' : Kn) : Act → World → Prop := fun a' w' => Frm (fun _ => False) w1 w' ∧ ∃ v, spec Ss i v w' ∧ Has n a' ((d, v) :: l')
def FreeStep (P : Program) (os : List Oper) (Q : Exit → Act → World → Prop) (n : Nat) (p : Nat → Prop) (w0 : World) (Ss : List SpT) (l : Kn) (L : List Ent) (x : FreeX) : Prop :=
  ∀ w1, St p w0 w1 L → ∀ lx : Kn, Given Ss w1 (fun l' => WL P os.toArray (RQ (FreeK Ss x.1 x.2.1 w1 n l') (NP Q)) n (fun _ => False) w1 [at_ os x.1] l' []) x.2.2 (l ++ lx)
theorem WL.fin {Ss : List SpT} {i d : Nat} {w1 : World} {l' : Kn} {L' : List Ent} {ops : Array Oper} {v : Value} (h : ∀ w', St (fun _ => False) w1 w' L' → spec Ss i v w') : WL P ops (RQ (FreeK Ss i d w1 n l') (NP Q)) n (fun _ => False) w1 [] ((d, v) :: l') L' :=
  fun _ w' ha hS => ⟨hS.frm, v, h w' hS, ha⟩
/-! ### The checks -/
def boundTo (o : Oper) (j : Nat) : Bool := o.after.toList.any fun e => Region.binds .any e && Nat.beq e.on j
def slotIs (os : List Oper) (j d : Nat) : Bool := match os[j]? with | some o => (match o.dst with | some e => Nat.beq e d | none => false) | none => false
def frB1 (os : List Oper) (ks : List Nat) (n : Nat) (k : Nat) (x : FreeX) : Bool :=
  Nat.beq x.1 k && slotIs os k x.2.1 && Nat.blt x.2.1 n && !(ks.contains x.2.1) &&
  (match os[k]? with
   | some o => o.after.toList.all (fun e => Nat.blt e.on k) && x.2.2.all (fun y => boundTo o y.1 && slotIs os y.1 y.2)
   | none => false)
def frB (os : List Oper) (ks : List Nat) (n : Nat) : Nat → List FreeX → List Nat → Bool
  | k, [], _ => Nat.beq k os.length
  | k, x :: X, used => frB1 os ks n k x && !(used.contains x.2.1) && frB os ks n (k + 1) X (x.2.1 :: used)
structure FreeOk (os : List Oper) (ks : List Nat) (n : Nat) (X : List FreeX) : Prop where
  len : X.length = os.length
  one : ∀ (k : Nat) (x : FreeX), X[k]? = some x → frB1 os ks n k x = true
  dif : ∀ (j k : Nat) (x y : FreeX), X[j]? = some x → X[k]? = some y → j ≠ k → x.2.1 ≠ y.2.1
theorem frB_spec {ks : List Nat} : ∀ (X : List FreeX) (k : Nat) (used : List Nat), frB os ks n k X used = true →
    k + X.length = os.length ∧ (∀ (i : Nat) (x : FreeX), X[i]? = some x → frB1 os ks n (k + i) x = true ∧ x.2.1 ∉ used) ∧ ∀ (i j : Nat) (x y : FreeX), X[i]? = some x → X[j]? = some y → i ≠ j → x.2.1 ≠ y.2.1
  | [], k, used, h => by
    unfold frB at h
    exact ⟨by simpa using Nat.eq_of_beq_eq_true h, fun i x hx => by simp at hx, fun i j x y hx => by simp at hx⟩
  | x :: X, k, used, h => by
    unfold frB at h
    simp only [Bool.and_eq_true] at h
    obtain ⟨⟨h1, h2⟩, h3⟩ := h
    obtain ⟨e1, e2, e3⟩ := frB_spec X (k + 1) _ h3
    have hx : x.2.1 ∉ used := by simpa using h2
    refine ⟨by rw [List.length_cons]; omega, ?_, ?_⟩
    · intro i y hy
      match i with
      | 0 =>
        simp only [List.getElem?_cons_zero, Option.some.injEq] at hy
        subst hy; exact ⟨h1, hx⟩
      | i + 1 =>
        rw [List.getElem?_cons_succ] at hy
        have := e2 i y hy
        refine ⟨by rw [show k + (i + 1) = k + 1 + i by omega]; exact this.1, fun hm => this.2 (List.mem_cons_of_mem _ hm)⟩
    · intro i j y z hy hz hij
      match i, j with
      | 0, 0 => exact absurd rfl hij
      | 0, j + 1 =>
        simp only [List.getElem?_cons_zero, Option.some.injEq] at hy
        rw [List.getElem?_cons_succ] at hz
        subst hy
        have := (e2 j z hz).2
        exact fun e => this (by rw [← e]; simp)
      | i + 1, 0 =>
        simp only [List.getElem?_cons_zero, Option.some.injEq] at hz
        rw [List.getElem?_cons_succ] at hy
        subst hz
        have := (e2 i y hy).2
        exact fun e => this (by rw [e]; simp)
      | i + 1, j + 1 =>
        rw [List.getElem?_cons_succ] at hy hz
        exact e3 i j y z hy hz (by omega)
theorem frB_ok {ks : List Nat} {X : List FreeX} (h : frB os ks n 0 X [] = true) : FreeOk os ks n X := by
  obtain ⟨h1, h2, h3⟩ := frB_spec X 0 [] h
  exact ⟨by omega, fun k x hx => by have := (h2 k x hx).1; rwa [Nat.zero_add] at this, h3⟩
theorem slotIs_spec {j d : Nat} (h : slotIs os j d = true) : ∃ o, os[j]? = some o ∧ o.dst = some d := by
  unfold slotIs at h
  split at h
  · rename_i o ho
    split at h
    · rename_i e he
      exact ⟨o, ho, by rw [he, Nat.eq_of_beq_eq_true h]⟩
    · cases h
  · cases h
theorem look_app : ∀ (l lx : Kn) (t : Nat), look (l ++ lx) t = (match look l t with | some v => some v | none => look lx t)
  | [], lx, t => rfl
  | x :: l, lx, t => by
    have e : look (x :: l) t = cond (Nat.beq x.1 t) (some x.2) (look l t) := rfl
    have e2 : look (x :: l ++ lx) t = cond (Nat.beq x.1 t) (some x.2) (look (l ++ lx) t) := rfl
    rw [e, e2]
    cases Nat.beq x.1 t
    · exact look_app l lx t
    · rfl
theorem look_keys : ∀ (l : Kn) (t : Nat), t ∉ l.map Prod.fst → look l t = none
  | [], _, _ => rfl
  | x :: l, t, h => by
    simp only [List.map_cons, List.mem_cons, not_or] at h
    unfold look
    have : Nat.beq x.1 t = false := by
      cases hb : Nat.beq x.1 t with
      | false => rfl
      | true => exact absurd (Nat.eq_of_beq_eq_true hb).symm h.1
    rw [this]
    exact look_keys l t h.2
/-- All that is listed, as the frame says. -/
def seen (os : List Oper) (listed : Array Bool) (a : Act) : Nat → Kn
  | 0 => []
  | k + 1 => match os[k]? with
    | some o => (match o.dst with | some d => if listed.getD k false = true then (d, a.tmps.getD d undef) :: seen os listed a k else seen os listed a k | none => seen os listed a k)
    | none => seen os listed a k
theorem seen_has {a : Act} {listed : Array Bool} (ha : Has n a []) : ∀ k, Has n a (seen os listed a k)
  | 0 => ha
  | k + 1 => by
    unfold seen
    split
    · split
      · split
        · exact (seen_has ha k).more _
        · exact seen_has ha k
      · exact seen_has ha k
    · exact seen_has ha k
theorem seen_look {a : Act} {listed : Array Bool} {j d : Nat} {o : Oper} (ho : os[j]? = some o) (hd : o.dst = some d) (hl : listed.getD j false = true) : ∀ k, j < k → look (seen os listed a k) d ≠ none
  | 0, h => absurd h (Nat.not_lt_zero j)
  | k + 1, h => by
    unfold seen
    by_cases e : j = k
    · subst e
      rw [ho]
      simp only [hd, hl, if_true]
      unfold look
      simp
    · have ih := seen_look (a := a) ho hd hl k (by omega)
      split
      · split
        · split
          · unfold look
            cases Nat.beq _ d
            · simpa using ih
            · simp
          · exact ih
        · exact ih
      · exact ih
theorem Has.app {a : Act} {l lx : Kn} (h1 : Has n a l) (h2 : Has n a lx) : Has n a (l ++ lx) := ⟨h1.size, h1.defers, fun t v hv => by
  rw [look_app] at hv
  split at hv
  · rename_i u hu
    rw [← Option.some.inj hv]; exact h1.got t u hu
  · exact h2.got t v hv⟩
/-- What holds on the way. -/
structure FreeInv (os : List Oper) (n : Nat) (p : Nat → Prop) (w0 : World) (Ss : List SpT) (l : Kn) (L : List Ent) (listed : Array Bool) (a : Act) (w : World) : Prop where
  size : listed.size = os.length
  has : Has n a l
  st : St p w0 w L
  sp : ∀ j o d, os[j]? = some o → o.dst = some d → listed.getD j false = true → spec Ss j (a.tmps.getD d undef) w
def left (os : List Oper) (listed : Array Bool) : Nat := ((List.range os.length).filter fun j => !listed.getD j false).length
theorem filter_lt {α : Type} {f g : α → Bool} : ∀ (xs : List α) (x : α), x ∈ xs → f x = true → g x = false → (∀ y, g y = true → f y = true) → (xs.filter g).length < (xs.filter f).length
  | [], x, h, _, _, _ => by cases h
  | y :: ys, x, h, hf, hg, hs => by
    have mono : ∀ zs : List α, (zs.filter g).length ≤ (zs.filter f).length := fun zs => by
      induction zs with
      | nil => simp
      | cons z zs ih =>
        simp only [List.filter_cons]
        cases hz : g z
        · cases f z <;> simp <;> omega
        · rw [hs z hz]; simp; exact ih
    rcases List.mem_cons.1 h with e | h
    · subst e
      simp only [List.filter_cons, hf, hg, if_true]
      have := mono ys
      simp; omega
    · have ih := filter_lt ys x h hf hg hs
      simp only [List.filter_cons]
      cases hz : g y
      · cases f y <;> simp <;> omega
      · rw [hs y hz]; simp; exact ih
theorem left_set {listed : Array Bool} {i : Nat} (hi : i < os.length) (hs : listed.size = os.length) (hu : listed.getD i true = false) : left os (listed.setIfInBounds i true) < left os listed := by
  refine filter_lt _ i (List.mem_range.2 hi) ?_ ?_ ?_
  · rw [getD_both hu]; rfl
  · simp [Array.getD_eq_getD_getElem?, hs, hi]
  · intro y hy
    by_cases e : i = y
    · subst e
      simp [Array.getD_eq_getD_getElem?, hs, hi] at hy
    · rwa [getD_set_ne false e] at hy
theorem all_listed {ks : List Nat} {X : List FreeX} (hX : FreeOk os ks n X) {listed : Array Bool} (hs : listed.size = os.length) (hr : Region.ready .any os.toArray listed = []) : ∀ j, j < os.length → listed.getD j false = true := by
  intro j
  induction j using Nat.strongRecOn with
  | _ j ih =>
    intro hj
    cases hl : listed.getD j false with
    | true => rfl
    | false =>
      exfalso
      have hm : j ∈ Region.ready .any os.toArray listed := by
        refine mem_ready.2 ⟨?_, os[j], by simp [hj], fun e he _ => ?_⟩
        · rw [Array.getD_eq_getD_getElem?, Array.getElem?_eq_getElem (by omega)] at hl ⊢
          simpa using hl
        · have hx : X[j]? = some (X[j]'(by rw [hX.len]; exact hj)) := List.getElem?_eq_getElem _
          have h1 := hX.one j _ hx
          unfold frB1 at h1
          rw [List.getElem?_eq_getElem hj] at h1
          simp only [Bool.and_eq_true] at h1
          have h2 := List.all_eq_true.1 h1.2.1 e (by simpa using he)
          have h3 : e.on < j := by simpa using h2
          exact ih e.on h3 (by omega)
      rw [hr] at hm; cases hm
theorem any_free {Ss : List SpT} {X : List FreeX} (hX : FreeOk os (l.map Prod.fst) n X) (hst : ∀ x ∈ X, FreeStep P os Q n p w0 Ss l L x)
    (hend : ∀ a w, Has n a l → St p w0 w L → (∀ j o d, os[j]? = some o → o.dst = some d → spec Ss j (a.tmps.getD d undef) w) → Q .normal a w) :
    ∀ (g : Nat) (listed : Array Bool) (a : Act) (w : World), FreeInv os n p w0 Ss l L listed a w → left os listed ≤ g → wpAny P .any os.toArray (NP Q) g listed a w := by
  have fin : ∀ (listed : Array Bool) (a : Act) (w : World), FreeInv os n p w0 Ss l L listed a w → Region.ready .any os.toArray listed = [] → Q .normal a w := fun listed a w inv hr =>
    hend a w inv.has inv.st fun j o d ho hd => inv.sp j o d ho hd (all_listed hX inv.size hr j (List.getElem?_eq_some_iff.1 ho).1)
  intro g
  induction g with
  | zero =>
    intro listed a w inv hg
    have hr : Region.ready .any os.toArray listed = [] := by
      cases hrr : Region.ready .any os.toArray listed with
      | nil => rfl
      | cons i is =>
        exfalso
        have hi : i ∈ Region.ready .any os.toArray listed := by rw [hrr]; simp
        obtain ⟨hu, o, ho, _⟩ := mem_ready.1 hi
        have hlt : i < os.length := by have := (Array.getElem?_eq_some_iff.1 ho).1; simpa using this
        have := left_set hlt inv.size hu
        omega
    exact ⟨hr, fin listed a w inv hr⟩
  | succ g ih =>
    intro listed a w inv hg
    refine ⟨fin listed a w inv, fun i hi => ?_⟩
    obtain ⟨hu, o, ho, hall⟩ := mem_ready.1 hi
    have hos : os[i]? = some o := by simpa using ho
    have hlt : i < os.length := (List.getElem?_eq_some_iff.1 hos).1
    have hx : X[i]? = some (X[i]'(by rw [hX.len]; exact hlt)) := List.getElem?_eq_getElem _
    generalize X[i]'(by rw [hX.len]; exact hlt) = x at hx
    have hB := hX.one i x hx
    unfold frB1 at hB
    rw [hos] at hB
    simp only [Bool.and_eq_true] at hB
    obtain ⟨⟨⟨⟨b1, b2⟩, b3⟩, b4⟩, b5, b6⟩ := hB
    have e1 : x.1 = i := Nat.eq_of_beq_eq_true b1
    obtain ⟨o', ho', hdst⟩ := slotIs_spec b2
    obtain rfl : o' = o := Option.some.inj (ho'.symm.trans hos)
    have hdn : x.2.1 < n := by simpa using b3
    have hdk : x.2.1 ∉ l.map Prod.fst := by simpa using b4
    have hat : at_ os i = o' := by unfold at_; rw [List.getD_eq_getElem?_getD, hos]; rfl
    -- the step
    have hstep := hst x (List.mem_of_getElem? hx) w inv.st (seen os listed a os.length)
    have hnil : Has n a [] := ⟨inv.has.size, inv.has.defers, fun t v h => by cases h⟩
    obtain ⟨l', hl1, hl2, hl3⟩ := Given.use x.2.2 _ hstep (inv.has.app (seen_has hnil os.length)) (fun y hy => by
      have := List.all_eq_true.1 b6 y hy
      simp only [Bool.and_eq_true] at this
      obtain ⟨oy, hoy, hdy⟩ := slotIs_spec this.2
      have hb := List.any_eq_true.1 this.1
      obtain ⟨e, he, heb⟩ := hb
      simp only [Bool.and_eq_true] at heb
      have hon : e.on = y.1 := Nat.eq_of_beq_eq_true heb.2
      have := hall e (by simpa using he) heb.1
      rw [hon] at this
      exact inv.sp y.1 oy y.2 hoy hdy this)
    have hw := hl2 a w hl1 (St.start (fun _ => False) w)
    rw [e1, hat] at hw
    unfold wpOp
    simp only [ho]
    -- what the step hands on is the way's state again
    have next : ∀ a' w', FreeK Ss i x.2.1 w n l' a' w' → wpAny P .any os.toArray (NP Q) g (listed.setIfInBounds i true) a' w' := by
      rintro a' w' ⟨hF, v, hv, ha'⟩
      have same : ∀ t, t ≠ x.2.1 → look l' t ≠ none → a'.tmps.getD t undef = a.tmps.getD t undef := fun t ht hn => by
        cases hlk : look l' t with
        | none => exact absurd hlk hn
        | some u =>
          have h1 := hl1.got t u hlk
          have h2 := ha'.got t u (by
            unfold look
            have : Nat.beq x.2.1 t = false := by
              cases hb : Nat.beq x.2.1 t with
              | false => rfl
              | true => exact absurd (Nat.eq_of_beq_eq_true hb).symm ht
            rw [this]; simpa using hlk)
          rw [h1, h2]
      refine ih _ a' w' ⟨by simp [inv.size], ⟨ha'.size, ha'.defers, fun t u hu => ?_⟩, inv.st.ext hF, ?_⟩ (by have := left_set hlt inv.size hu; omega)
      · have hne : t ≠ x.2.1 := fun e => by
          rw [e, look_keys l _ hdk] at hu; cases hu
        have hlt' : look (l ++ seen os listed a os.length) t ≠ none := by rw [look_app, hu]; simp
        rw [same t hne (hl3 t hlt')]
        exact inv.has.got t u hu
      · intro j oj d hoj hdj hlj
        by_cases e : i = j
        · subst e
          obtain rfl : oj = o' := Option.some.inj (hoj.symm.trans hos)
          obtain rfl : d = x.2.1 := Option.some.inj (hdj.symm.trans hdst)
          rw [ha'.got x.2.1 v (by unfold look; simp)]
          exact hv
        · rw [getD_set_ne false e] at hlj
          have hjl : j < os.length := (List.getElem?_eq_some_iff.1 hoj).1
          have hne : d ≠ x.2.1 := fun hd => by
            have hxj : X[j]? = some (X[j]'(by rw [hX.len]; exact hjl)) := List.getElem?_eq_getElem _
            generalize X[j]'(by rw [hX.len]; exact hjl) = z at hxj
            have hBj := hX.one j z hxj
            unfold frB1 at hBj
            simp only [Bool.and_eq_true] at hBj
            obtain ⟨oz, hoz, hdz⟩ := slotIs_spec hBj.1.1.1.2
            obtain rfl : oz = oj := Option.some.inj (hoz.symm.trans hoj)
            have hzd : z.2.1 = d := Option.some.inj (hdz.symm.trans hdj)
            exact hX.dif j i z x hxj hx (fun h => e h.symm) (hzd.trans hd)
          have hlt' : look (l ++ seen os listed a os.length) d ≠ none := by
            rw [look_app]
            split
            · simp
            · exact seen_look hoj hdj hlj _ hjl
          rw [same d hne (hl3 d hlt')]
          exact (inv.sp j oj d hoj hdj hlj).stay hF
    unfold wpList at hw
    split
    · rename_i hwd
      rw [if_pos hwd] at hw
      exact (hw.imp wpRQ (fun h => ⟨h.1, RQ.out h.2⟩)).imp (Oper.wp_mono fun a' w' h => next a' w' h) id
    · rename_i hwd
      rw [if_neg hwd] at hw
      exact next _ _ hw
def outsB (os : List Oper) (outs : List (Nat × Nat)) : Bool := outs.all fun y => slotIs os y.1 y.2
theorem WC.free {id : Nat} (Ss : List SpT) (X : List FreeX) (outs : List (Nat × Nat)) (hm : P.follows .mixedOrders = true) (hB : frB os (l.map Prod.fst) n 0 X [] = true) (hO : outsB os outs = true)
    (hst : ∀ x ∈ X, FreeStep P os Q n p w0 Ss l L x)
    (hend : ∀ w1, St p w0 w1 L → Given Ss w1 (fun l' => WE Q .normal n (fun _ => False) w1 l' []) outs l) : WC P (.region id os.toArray true) Q n p w0 l L := by
  intro a w ha hS
  refine Code.wp_mono NP.imp (wp_region_any hm ?_)
  have hX := frB_ok hB
  have hsz : (Array.replicate os.toArray.size false).size = os.length := by simp
  refine any_free (Ss := Ss) hX hst (fun a' w' ha' hS' hsp => ?_) _ _ a w.drew ⟨hsz, ha, hS.drew, ?_⟩ ?_
  · obtain ⟨l', h1, h2, _⟩ := Given.use outs l (hend w' hS') ha' (fun y hy => by
      obtain ⟨o, ho, hd⟩ := slotIs_spec (List.all_eq_true.1 hO y hy)
      exact hsp y.1 o y.2 ho hd)
    exact h2 a' w' h1 (St.start _ _)
  · intro j o d _ _ hl
    rw [getD_replicate_false] at hl; cases hl
  · unfold left
    refine Nat.le_trans (List.length_filter_le _ _) ?_
    simp
end
end Go.Proofs.YtpjbofodllhjbaaDoor
/- The engine: functions of the runtime's own (externs), append to a full slice whose cells are known, x[:hi:max]. -/
namespace Go.Proofs.YtpjbofodllhjbaaDoor
open Go.RowKit

/-- What a call has made beside what was there. -/
theorem St.join {p : Nat → Prop} {w0 w1 w' : World} {L M : List Ent} (hS : St p w0 w1 L) (h : St (fun _ => False) w1 w' M) : St p w0 w' (M ++ L) := by
  refine ⟨hS.frm.trans (h.frm.mono (fun _ h => h.elim)), ?_, ?_, ?_⟩
  · intro e he
    rcases List.mem_append.1 he with he | he
    · exact h.holds e he
    · exact Ent.keep (hS.holds e he) (h.frm.block _ (Ent.lt (hS.holds e he)) (fun h => h))
  · rw [List.map_append, List.nodup_append]
    refine ⟨h.dist, hS.dist, ?_⟩
    rintro a ha b hb rfl
    obtain ⟨e, he, e1⟩ := List.mem_map.1 ha
    obtain ⟨e', he', e2⟩ := List.mem_map.1 hb
    have h1 := (h.mine e he).resolve_left (fun h => h)
    have h2 := Ent.lt (hS.holds e' he')
    omega
  · intro e he
    rcases List.mem_append.1 he with he | he
    · exact .inr (Nat.le_trans hS.frm.size ((h.mine e he).resolve_left (fun h => h)))
    · exact hS.mine e he
theorem rgIn {p : Nat → Prop} {w0 : World} {L : List Ent} {b off : Nat} {cs : List Value} (hp : ¬ p b) (h : w0.rangeAt b off cs) : ∀ w, St p w0 w L → w.rangeAt b off cs := fun _ hS j v hj => hS.old hp (h j v hj)
section
variable {P : Program} {C : World → Prop} {ops : Array Oper} {Q : Exit → Act → World → Prop} {n : Nat} {p : Nat → Prop} {w0 : World} {o : Oper} {rest : List Oper} {l : Kn} {L : List Ent}
/-- A call that is over at once. -/
theorem WL.extern {f : FuncId} {xs : List Operand} {ts : Array TypeId} {vs : List Value} {d : Nat} (ho : o.op = .call { callee := .value (.func f), args := xs.toArray, argTypes := ts })
    (hx : evs l xs = some vs) (hg : On ops o l) (hd : o.dst = some d) (hn : Nat.blt d n = true)
    (h : ∀ w, St p w0 w L → ∃ v w' L', (callFunc f vs.toArray).run P w = .ok (.value v) w' ∧ St p w0 w' L' ∧ WL P ops Q n p w0 rest ((d, v) :: l) L') : WL P ops Q n p w0 (o :: rest) l L := by
  refine WL.op hg hd hn fun a w ha hS => ?_
  obtain ⟨v, w', L', hr, hS', hK⟩ := h w hS
  refine ⟨v, w', L', ?_, hS', hK⟩
  have h2 := ha.evs hx
  unfold execOp
  simp [ho, resolve, Act.eval, Deferred.ofValue, Go.invoke, h2, hr]
theorem noZero_run {f : FuncId} {fn : Func} {t e : TypeId} {ps : Array TypeId} (hf : P.funcs[f]? = some fn) (hname : (fn.name == "runtime.NumGoroutine") = false) (hb : fn.body.isNone = true) (hn : Extern.findNext fn = none) (he : Extern.find fn = some (Extern.BytealgMakeNoZero.makeNoZero ps #[t]))
    (ht : P.underlying t = some (.slice e)) (m : Nat) (hm : m ≤ 281474976710656) (w : World) (hS : St p w0 w L) :
    ∃ v w' L', (callFunc f #[.int .i64 m]).run P w = .ok (.value v) w' ∧ St p w0 w' L' ∧ ∃ cs : List Value, m ≤ cs.length ∧ v = .slice (some ⟨w.heap.size, 0, none⟩) m cs.length ∧ L' = .row w.heap.size cs :: L := by
  obtain ⟨cs, hr, h1, _⟩ := Lib.run_makeNoZero (P := P) w ps t e ht m hm
  refine ⟨_, w.drew.drew.alloc (.cells cs e), .row w.heap.size cs.toList :: L, ?_, ?_, cs.toList, by simpa using h1, by rw [Array.length_toList], rfl⟩
  · rw [run_callFunc_extern hf hname hb hn he, hr]
    rfl
  · have h2 := hS.drew.drew
    exact St.new h2
theorem v_slice_him {t e s len cap hi : Nat} {k k' : IntKind} {A B : Int} {x xh xm : Operand} {ad : Option Addr} (ho : o.op = .slice t x none (some xh) (some xm)) (hx : ev l x = some (.slice ad len cap)) (hh : ev l xh = some (.int k B)) (hm : ev l xm = some (.int k' A)) (hu : P.underlying t = some (.slice e)) (hs : (P.info? e).map (·.size) = some s) (hB : B = (hi : Int)) (hA : A = (hi : Int)) (hle : hi ≤ cap) :
    Val P C n l o (.slice ad hi hi) := fun a w ha _ => by
  have h1 := ha.ev hx; have h2 := ha.ev hh; have h3 := ha.ev hm
  subst hB hA
  unfold execOp
  simp [ho, h1, h2, h3, Instr.sliceAt, run_underlying hu, Instr.slice, Instr.sliceBounds, Instr.sliceBound, asIntOf, hle, run_sizeOf hs]
  cases ad <;> simp [Addr.add]
theorem append_new {t tx e s by_ k c m : Nat} {ad : Option Addr} {xs new zs : List Value} {L0 : List Ent} {w : World} {y : Value} {ty : TypeId} {e' : TypeId}
    (hu : P.underlying t = some (.slice e)) (hux : P.underlying tx = some (.slice e')) (hs : (P.info? e).map (·.size) = some s) (hb : (P.info? e).map (·.bytes) = some by_) (hz : Zero P e zs) (hzl : zs.length = s)
    (hby : 0 < by_) (hroom : ¬ k + m ≤ c) (hxl : xs.length = k * s) (hold : ∀ w', St p w0 w' L0 → (Builtin.firstCells s k (.slice ad k c)).run P w' = .ok xs.toArray w') (hS : St p w0 w L0) (hlen : (Builtin.lenOf y).run P w = .ok m w)
    (hfc : ∀ w', St p w0 w' L0 → (Builtin.firstCells s m y).run P w' = .ok new.toArray w') (hnl : new.length = m * s) (hbig : (3 * (k + m) + 1200) * by_ ≤ 281474976710656) :
    ∃ ad' c' E' w', (Builtin.append_ #[t, tx] ty #[.slice ad k c, y]).run P w = .ok (.slice ad' (k + m) c') w' ∧ Vec s ad' (k + m) c' (xs ++ new) E' ∧ St p w0 w' (E' ++ L0) := by
  have hq : ∃ i, P.info? e = some i ∧ i.bytes = by_ := by
    cases hq : P.info? e with
    | none => simp [hq] at hb
    | some i => exact ⟨i, rfl, by simpa [hq] using hb⟩
  obtain ⟨ti, hi, hib⟩ := hq
  have hask : ∀ (k : Nat) (w : World), (askRoom k).run P w = .ok () w := fun k w => by
    unfold askRoom
    by_cases h : k > roomBytes
    · rw [if_pos h]; rfl
    · rw [if_neg h]; rfl
  have hle := nextslicecap_le (k + m) c (by omega)
  have hmul : Builtin.nextslicecap (k + m) c * by_ ≤ (3 * (k + m) + 1200) * by_ := Nat.mul_le_mul_right by_ hle
  have hcap : ¬ (Builtin.nextslicecap (k + m) c * by_ > 2 ^ 48) := by omega
  obtain ⟨z, hz, hzs⟩ := hz
  have hzc : z.cells = zs.toArray := by rw [← hzs]
  have hd := hS.drew
  let nc := (Question.appendCap (k + m) c e).cut (w.tape w.drawn (.appendCap (k + m) c e))
  have hnc : k + m ≤ nc := by show k + m ≤ (k + m) + _; omega
  let rs := (Builtin.zeroCells zs.toArray (nc - (k + m))).toList
  have hrl : rs.length = (nc - (k + m)) * s := by rw [zeroCells_length]; simp [hzl]
  have hnew : St p w0 (w.drew.alloc (.cells (xs ++ new ++ rs).toArray e)) (.row w.drew.heap.size (xs ++ new ++ rs) :: L0) := St.new hd
  refine ⟨some ⟨w.drew.heap.size, 0, none⟩, nc, [.row w.drew.heap.size (xs ++ new ++ rs)], _, ?_, Vec.row ?_ ?_ hnc, hnew⟩
  · have hcut : (choose (.appendCap (k + m) c e)).run P w = .ok nc w.drew := rfl
    simp only [Builtin.append_, List.getElem?_toArray, List.getElem?_cons_zero, List.getElem?_cons_succ, Sem.run_bind, run_underlying hu, run_underlying hux, Result.andThen_ok, run_sizeOf hs, Sem.run_pure]
    simp only [Bool.false_eq_true, if_false, hlen, Result.andThen_ok, hroom, typeInfo, program, Sem.run, hi, Sem.run_bind, false_or]
    have hby0 : ¬ (by_ = 0) := by omega
    simp only [hby0, and_false, if_false, Result.andThen_ok, Sem.run_pure, hcap, hcut, hask, hold _ hd, hfc _ hd, run_zeroValue hz, hzc, Bool.not_false, if_true, Sem.run_bind, newRow, newObj, Sem.run, hi, hib]
    have ee : xs.toArray ++ new.toArray ++ Builtin.zeroCells zs.toArray (nc - (k + m)) = (xs ++ new ++ rs).toArray := by simp [rs]
    rw [ee]
    rfl
  · rw [Nat.add_mul, List.append_assoc, ← List.append_assoc, List.take_append_of_le_length (by simp; omega), List.take_of_length_le (by simp; omega)]
  · simp only [List.length_append, hxl, hnl, hrl]
    rw [← Nat.add_mul, ← Nat.add_mul]
    congr 1
    omega
section
variable {t tx e s by_ k d m : Nat} {ad : Option Addr} {xs new zs : List Value} {x y : Operand}
/-- append(x, y...) where x has no room, whoever's it is. -/
theorem WL.appendN {sa : Option Addr} {mc c : Nat} (ho : o.op = .call { callee := .builtin .append, args := #[x, y], argTypes := #[t, tx] }) (hx : ev l x = some (.slice ad k c)) (hy : ev l y = some (.slice sa m mc))
    (hu : P.underlying t = some (.slice e)) {e' : TypeId} (hux : P.underlying tx = some (.slice e')) (hs : (P.info? e).map (·.size) = some s) (hb : (P.info? e).map (·.bytes) = some by_) (hz : Zero P e zs) (hzl : zs.length = s) (hby : Nat.blt 0 by_ = true)
    (hroom : ¬ k + m ≤ c) (hcx : 0 < k → ∃ b so, ad = some ⟨b, so, none⟩ ∧ ∀ w, St p w0 w L → w.rangeAt b so xs) (hxl : xs.length = k * s) (hc : 0 < m → ∃ b so, sa = some ⟨b, so, none⟩ ∧ ∀ w, St p w0 w L → w.rangeAt b so new) (hnl : new.length = m * s) (hbig : (3 * (k + m) + 1200) * by_ ≤ 281474976710656)
    (hg : On ops o l) (hd : o.dst = some d) (hn : Nat.blt d n = true)
    (h : ∀ ad' c' E', Vec s ad' (k + m) c' (xs ++ new) E' → WL P ops Q n p w0 rest ((d, .slice ad' (k + m) c') :: l) (E' ++ L)) : WL P ops Q n p w0 (o :: rest) l L := by
  refine WL.op hg hd hn fun a w ha hS => ?_
  have hxy : evs l [x, y] = some [.slice ad k c, .slice sa m mc] := by simp [evs, hx, hy]
  obtain ⟨cc, hr⟩ := run_builtin (P := P) (w := w) (xs := [x, y]) ho hxy ha
  have first : ∀ {q : Option Addr} {j jc : Nat} {us : List Value}, us.length = j * s → (0 < j → ∃ b so, q = some ⟨b, so, none⟩ ∧ ∀ w, St p w0 w L → w.rangeAt b so us) → ∀ w', St p w0 w' L → (Builtin.firstCells s j (.slice q j jc)).run P w' = .ok us.toArray w' := fun {q j jc us} hl hcs w' hS' => by
    by_cases hm : 0 < j
    · obtain ⟨b, so, eq, hcs2⟩ := hcs hm
      rw [eq]
      exact run_loadRange (P := P) hl (hcs2 w' hS')
    · obtain rfl : j = 0 := by omega
      have hn0 : us = [] := List.length_eq_zero_iff.1 (by omega)
      subst hn0
      cases q with
      | none => rfl
      | some q => simp [Builtin.firstCells, loadCells, loadCellsFrom]
  obtain ⟨ad', c', E', w', h1, h2, h3⟩ := append_new (P := P) (ty := o.type) (y := .slice sa m mc) hu hux hs hb hz hzl (by simpa using hby) hroom hxl (fun w' hS' => first hxl hcx w' hS') hS (by simp [Builtin.lenOf]) (fun w' hS' => first hnl hc w' hS') hnl hbig
  refine ⟨_, w', E' ++ L, ?_, h3, h ad' c' E' h2⟩
  rw [hr]
  simp [builtin, h1]
end
end
end Go.Proofs.YtpjbofodllhjbaaDoor
/- bgp: bytes of 255; numbers of two bytes; how long a message is. -/
namespace Go.Proofs.YtpjbofodllhjbaaDoor
open Go.RowKit

theorem Mul64_16 (w : World) : Calls Tryd.prog 92 #[.int .u64 1, .int .u64 16] w fun e w' => e = .returned (.tuple #[.int .u64 0, .int .u64 16]) ∧ Frm (fun _ => False) w w' := by
  refine enter Tryd.func92 rfl Tryd.ntmps92 rfl (St.start (fun _ => False) w) ?_
  refine WC.seq ?_
  refine WC.region ?_
  refine WL.val (v_assign rfl rfl) (.none rfl) rfl rfl ?_
  refine WL.val (v_assign rfl rfl) (.none rfl) rfl rfl ?_
  refine WL.nil ?_
  refine WE.then_n ?_
  refine WC.seq ?_
  refine WC.region ?_
  refine WL.val (v_move rfl rfl) (.none rfl) rfl rfl ?_
  refine WL.val (v_and rfl rfl rfl (show _ = (1 : Int) from by kernel_rfl)) (.none rfl) rfl rfl ?_
  refine WL.val (v_assign rfl rfl) (.none rfl) rfl rfl ?_
  refine WL.nil ?_
  refine WE.then_n ?_
  refine WC.seq ?_
  refine WC.region ?_
  refine WL.val (v_move rfl rfl) (.none rfl) rfl rfl ?_
  refine WL.val (v_shr (m := 32) (c := 4294967296) rfl rfl rfl rfl (by decide) (by decide)) (.none rfl) rfl rfl ?_
  refine WL.val (v_assign rfl rfl) (.none rfl) rfl rfl ?_
  refine WL.nil ?_
  refine WE.then_n ?_
  refine WC.seq ?_
  refine WC.region ?_
  refine WL.val (v_move rfl rfl) (.none rfl) rfl rfl ?_
  refine WL.val (v_and rfl rfl rfl (show _ = (16 : Int) from by kernel_rfl)) (.none rfl) rfl rfl ?_
  refine WL.val (v_assign rfl rfl) (.none rfl) rfl rfl ?_
  refine WL.nil ?_
  refine WE.then_n ?_
  refine WC.seq ?_
  refine WC.region ?_
  refine WL.val (v_move rfl rfl) (.none rfl) rfl rfl ?_
  refine WL.val (v_shr (m := 32) (c := 4294967296) rfl rfl rfl rfl (by decide) (by decide)) (.none rfl) rfl rfl ?_
  refine WL.val (v_assign rfl rfl) (.none rfl) rfl rfl ?_
  refine WL.nil ?_
  refine WE.then_n ?_
  refine WC.seq ?_
  refine WC.region ?_
  refine WL.val (v_move rfl rfl) (.none rfl) rfl rfl ?_
  refine WL.val (v_move rfl rfl) (.none rfl) rfl rfl ?_
  refine WL.val (v_mul rfl rfl rfl (show _ = (16 : Int) from by kernel_rfl)) (.none rfl) rfl rfl ?_
  refine WL.val (v_assign rfl rfl) (.none rfl) rfl rfl ?_
  refine WL.nil ?_
  refine WE.then_n ?_
  refine WC.seq ?_
  refine WC.region ?_
  refine WL.val (v_move rfl rfl) (.none rfl) rfl rfl ?_
  refine WL.val (v_move rfl rfl) (.none rfl) rfl rfl ?_
  refine WL.val (v_mul rfl rfl rfl (show _ = (0 : Int) from by kernel_rfl)) (.none rfl) rfl rfl ?_
  refine WL.val (v_move rfl rfl) (.none rfl) rfl rfl ?_
  refine WL.val (v_shr (m := 32) (c := 4294967296) rfl rfl rfl rfl (by decide) (by decide)) (.none rfl) rfl rfl ?_
  refine WL.val (v_add rfl rfl rfl (show _ = (0 : Int) from by kernel_rfl)) (.none rfl) rfl rfl ?_
  refine WL.val (v_assign rfl rfl) (.none rfl) rfl rfl ?_
  refine WL.nil ?_
  refine WE.then_n ?_
  refine WC.seq ?_
  refine WC.region ?_
  refine WL.val (v_move rfl rfl) (.none rfl) rfl rfl ?_
  refine WL.val (v_and rfl rfl rfl (show _ = (0 : Int) from by kernel_rfl)) (.none rfl) rfl rfl ?_
  refine WL.val (v_assign rfl rfl) (.none rfl) rfl rfl ?_
  refine WL.nil ?_
  refine WE.then_n ?_
  refine WC.seq ?_
  refine WC.region ?_
  refine WL.val (v_move rfl rfl) (.none rfl) rfl rfl ?_
  refine WL.val (v_shr (m := 32) (c := 4294967296) rfl rfl rfl rfl (by decide) (by decide)) (.none rfl) rfl rfl ?_
  refine WL.val (v_assign rfl rfl) (.none rfl) rfl rfl ?_
  refine WL.nil ?_
  refine WE.then_n ?_
  refine WC.seq ?_
  refine WC.region ?_
  refine WL.val (v_move rfl rfl) (.none rfl) rfl rfl ?_
  refine WL.val (v_move rfl rfl) (.none rfl) rfl rfl ?_
  refine WL.val (v_move rfl rfl) (.none rfl) rfl rfl ?_
  refine WL.val (v_mul rfl rfl rfl (show _ = (0 : Int) from by kernel_rfl)) (.none rfl) rfl rfl ?_
  refine WL.val (v_add rfl rfl rfl (show _ = (0 : Int) from by kernel_rfl)) (.none rfl) rfl rfl ?_
  refine WL.val (v_assign rfl rfl) (.none rfl) rfl rfl ?_
  refine WL.nil ?_
  refine WE.then_n ?_
  refine WC.seq ?_
  refine WC.region ?_
  refine WL.val (v_move rfl rfl) (.none rfl) rfl rfl ?_
  refine WL.val (v_move rfl rfl) (.none rfl) rfl rfl ?_
  refine WL.val (v_mul rfl rfl rfl (show _ = (0 : Int) from by kernel_rfl)) (.none rfl) rfl rfl ?_
  refine WL.val (v_move rfl rfl) (.none rfl) rfl rfl ?_
  refine WL.val (v_add rfl rfl rfl (show _ = (0 : Int) from by kernel_rfl)) (.none rfl) rfl rfl ?_
  refine WL.val (v_move rfl rfl) (.none rfl) rfl rfl ?_
  refine WL.val (v_shr (m := 32) (c := 4294967296) rfl rfl rfl rfl (by decide) (by decide)) (.none rfl) rfl rfl ?_
  refine WL.val (v_add rfl rfl rfl (show _ = (0 : Int) from by kernel_rfl)) (.none rfl) rfl rfl ?_
  refine WL.val (v_assign rfl rfl) (.none rfl) rfl rfl ?_
  refine WL.nil ?_
  refine WE.then_n ?_
  refine WC.seq ?_
  refine WC.region ?_
  refine WL.val (v_move rfl rfl) (.none rfl) rfl rfl ?_
  refine WL.val (v_move rfl rfl) (.none rfl) rfl rfl ?_
  refine WL.val (v_mul rfl rfl rfl (show _ = (16 : Int) from by kernel_rfl)) (.none rfl) rfl rfl ?_
  refine WL.val (v_assign rfl rfl) (.none rfl) rfl rfl ?_
  refine WL.nil ?_
  refine WE.then_n ?_
  refine WC.ret ?_
  refine WE.ret2 (P := Tryd.prog) (.inl rfl) Tryd.results92 rfl rfl ?_
  exact fun w' h => ⟨rfl, h.frm⟩
theorem Mul_16 (w : World) : Calls Tryd.prog 74 #[.int .u64 1, .int .u64 16] w fun e w' => e = .returned (.tuple #[.int .u64 0, .int .u64 16]) ∧ Frm (fun _ => False) w w' := by
  refine enter Tryd.func74 rfl Tryd.ntmps74 rfl (St.start (fun _ => False) w) ?_
  refine WC.seq ?_
  refine WC.region ?_
  refine WL.val (v_assign rfl rfl) (.none rfl) rfl rfl ?_
  refine WL.val (v_assign rfl rfl) (.none rfl) rfl rfl ?_
  refine WL.nil ?_
  refine WE.then_n ?_
  refine WC.seq ?_
  refine WC.cond_f rfl ?_
  refine WC.skip ?_
  refine WE.then_n ?_
  refine WC.seq ?_
  refine WC.region ?_
  refine WL.val (v_move rfl rfl) (.none rfl) rfl rfl ?_
  refine WL.val (v_move rfl rfl) (.none rfl) rfl rfl ?_
  refine WL.call rfl rfl ck_92 (.none rfl) rfl rfl ?_
  intro w hS
  refine Calls.then (Mul64_16 w) hS ?_
  refine WL.val (v_move rfl rfl) (.none rfl) rfl rfl ?_
  refine WL.val (v_extract rfl rfl rfl) (.none rfl) rfl rfl ?_
  refine WL.val (v_extract rfl rfl rfl) (.none rfl) rfl rfl ?_
  refine WL.val (v_assign rfl rfl) (.none rfl) rfl rfl ?_
  refine WL.val (v_assign rfl rfl) (.none rfl) rfl rfl ?_
  refine WL.nil ?_
  refine WE.then_n ?_
  refine WC.seq ?_
  refine WC.region ?_
  refine WL.val (v_move rfl rfl) (.none rfl) rfl rfl ?_
  refine WL.val (v_move rfl rfl) (.none rfl) rfl rfl ?_
  refine WL.val (v_assign rfl rfl) (.none rfl) rfl rfl ?_
  refine WL.val (v_assign rfl rfl) (.none rfl) rfl rfl ?_
  refine WL.nil ?_
  refine WE.then_n ?_
  refine WC.ret ?_
  refine WE.ret2 (P := Tryd.prog) (.inl rfl) Tryd.results74 rfl rfl ?_
  exact fun w' h => ⟨rfl, h.frm⟩
/-- The first k cells are 255. -/
def All255 (cs : List Value) (k : Nat) : Prop := ∀ i, i < k → cs[i]? = some (.int .u8 255)
theorem All255.take {cs : List Value} {k : Nat} (h : All255 cs k) (hl : k ≤ cs.length) : cs.take k = bcs (fun _ => 255) k := by
  apply List.ext_getElem?
  intro i
  by_cases hi : i < k
  · rw [List.getElem?_take, if_pos hi, h i hi, bcs_get _ _ _ hi]
  · rw [List.getElem?_eq_none (by rw [List.length_take]; omega), List.getElem?_eq_none (by rw [bcs_len]; omega)]
theorem All255.splice {cs : List Value} {k m : Nat} (h : All255 cs k) (hl : k + m ≤ cs.length) : All255 (splice cs k (bcs (fun _ => 255) m)) (k + m) := fun i hi => by
  rw [splice_eq _ _ _ (by rw [bcs_len]; exact hl)]
  by_cases h1 : i < k
  · rw [List.append_assoc, List.getElem?_append_left (by rw [List.length_take]; omega), List.getElem?_take, if_pos h1]; exact h i h1
  · rw [List.append_assoc, List.getElem?_append_right (by rw [List.length_take]; omega), List.length_take, Nat.min_eq_left (by omega), List.getElem?_append_left (by rw [bcs_len]; omega), bcs_get _ _ _ (by omega)]
set_option maxHeartbeats 1000000 in
theorem Repeat_c (w0 : World) (g c : Nat) (hg : w0.cell? ⟨g, 0, none⟩ = some (.int .u8 255)) :
    Calls Tryd.prog 53 #[.slice (some ⟨g, 0, none⟩) 1 c, .int .i64 16] w0 fun e w' => ∃ gb cs, e = .returned (.slice (some ⟨gb, 0, none⟩) 16 16) ∧ All255 cs 16 ∧ 16 ≤ cs.length ∧ St (fun _ => False) w0 w' [.row gb cs] := by
  have hgr : w0.rangeAt g 0 [.int .u8 255] := fun j v hj => by
    match j with
    | 0 => simp only [List.getElem?_cons_zero, Option.some.injEq] at hj; subst hj; exact hg
    | j + 1 => simp at hj
  refine enter Tryd.func53 rfl Tryd.ntmps53 rfl (St.start (fun _ => False) w0) ?_
  refine WC.seq ?_
  refine WC.region ?_
  refine WL.val (v_assign rfl rfl) (.none rfl) rfl rfl ?_
  refine WL.nil ?_
  refine WE.then_n ?_
  refine WC.seq ?_
  refine WC.seq ?_
  refine WC.region ?_
  refine WL.val (v_move rfl rfl) (.none rfl) rfl rfl ?_
  refine WL.val ((v_eql rfl rfl rfl).f (by omega)) (.none rfl) rfl rfl ?_
  refine WL.nil ?_
  refine WE.then_n ?_
  refine WC.cond_f rfl ?_
  refine WC.skip ?_
  refine WE.then_n ?_
  refine WC.seq ?_
  refine WC.seq ?_
  refine WC.region ?_
  refine WL.val (v_move rfl rfl) (.none rfl) rfl rfl ?_
  refine WL.val ((v_lss rfl rfl rfl).f (by omega)) (.none rfl) rfl rfl ?_
  refine WL.nil ?_
  refine WE.then_n ?_
  refine WC.cond_f rfl ?_
  refine WC.skip ?_
  refine WE.then_n ?_
  refine WC.seq ?_
  refine WC.region ?_
  refine WL.val (v_move rfl rfl) (.none rfl) rfl rfl ?_
  refine WL.val (v_len_slice rfl rfl Tryd.underlying22) (.none rfl) rfl rfl ?_
  refine WL.val (v_conv rfl rfl Tryd.underlying67 Tryd.underlying3 (by first | exact w_u64 (by omega) (by omega) | exact w_u64m _)) (.none rfl) rfl rfl ?_
  refine WL.val (v_move rfl rfl) (.none rfl) rfl rfl ?_
  refine WL.val (v_conv rfl rfl Tryd.underlying67 Tryd.underlying3 (by first | exact w_u64 (by omega) (by omega) | exact w_u64m _)) (.none rfl) rfl rfl ?_
  refine WL.call rfl rfl ck_74 (.none rfl) rfl rfl ?_
  intro w hS
  refine Calls.then (Mul_16 w) hS ?_
  refine WL.val (v_move rfl rfl) (.none rfl) rfl rfl ?_
  refine WL.val (v_extract rfl rfl rfl) (.none rfl) rfl rfl ?_
  refine WL.val (v_extract rfl rfl rfl) (.none rfl) rfl rfl ?_
  refine WL.val (v_assign rfl rfl) (.none rfl) rfl rfl ?_
  refine WL.val (v_assign rfl rfl) (.none rfl) rfl rfl ?_
  refine WL.nil ?_
  refine WE.then_n ?_
  refine WC.seq ?_
  refine WC.seq ?_
  refine WC.region ?_
  refine WL.val (v_move rfl rfl) (.none rfl) rfl rfl ?_
  refine WL.val ((v_gtr rfl rfl rfl).f (by omega)) (.none rfl) rfl rfl ?_
  refine WL.val (v_move rfl rfl) (.none rfl) rfl rfl ?_
  refine WL.val (v_move rfl rfl) (.some rfl rfl rfl) rfl rfl ?_
  refine WL.val ((v_gtr rfl rfl rfl).f (by omega)) (.some rfl rfl rfl) rfl rfl ?_
  refine WL.val (v_pick_f rfl rfl rfl) (.none rfl) rfl rfl ?_
  refine WL.nil ?_
  refine WE.then_n ?_
  refine WC.cond_f rfl ?_
  refine WC.skip ?_
  refine WE.then_n ?_
  refine WC.seq ?_
  refine WC.region ?_
  refine WL.val (v_move rfl rfl) (.none rfl) rfl rfl ?_
  refine WL.val (v_conv rfl rfl Tryd.underlying3 Tryd.underlying67 (w_i64 (by omega) (by omega))) (.none rfl) rfl rfl ?_
  refine WL.val (v_assign rfl rfl) (.none rfl) rfl rfl ?_
  refine WL.nil ?_
  refine WE.then_n ?_
  refine WC.seq ?_
  refine WC.seq ?_
  refine WC.region ?_
  refine WL.val (v_move rfl rfl) (.none rfl) rfl rfl ?_
  refine WL.val (v_len_slice rfl rfl Tryd.underlying22) (.none rfl) rfl rfl ?_
  refine WL.val ((v_eql rfl rfl rfl).f (by omega)) (.none rfl) rfl rfl ?_
  refine WL.nil ?_
  refine WE.then_n ?_
  refine WC.cond_f rfl ?_
  refine WC.skip ?_
  refine WE.then_n ?_
  refine WC.seq ?_
  refine WC.region ?_
  refine WL.val (v_move rfl rfl) (.none rfl) rfl rfl ?_
  refine WL.val (v_assign rfl rfl) (.none rfl) rfl rfl ?_
  refine WL.nil ?_
  refine WE.then_n ?_
  refine WC.seq ?_
  refine WC.seq ?_
  refine WC.region ?_
  refine WL.val (v_move rfl rfl) (.none rfl) rfl rfl ?_
  refine WL.val ((v_gtr rfl rfl rfl).f (by omega)) (.none rfl) rfl rfl ?_
  refine WL.nil ?_
  refine WE.then_n ?_
  refine WC.cond_f rfl ?_
  refine WC.skip ?_
  refine WE.then_n ?_
  refine WC.seq ?_
  refine WC.region ?_
  refine WL.val (v_move rfl rfl) (.none rfl) rfl rfl ?_
  refine WL.extern rfl rfl (.none rfl) rfl rfl fun w hS => ?_
  obtain ⟨v, w', L', hr, hS', cs, hcs, rfl, rfl⟩ := noZero_run (ps := #[3]) Tryd.func75 (by kernel_rfl) (by kernel_rfl) (by kernel_rfl) (by kernel_rfl) Tryd.underlying22 16 (by omega) w hS
  refine ⟨_, _, _, hr, hS', ?_⟩
  generalize w.heap.size = gb
  refine WL.val (v_move rfl rfl) (.none rfl) rfl rfl ?_
  refine WL.val (v_move rfl rfl) (.none rfl) rfl rfl ?_
  refine WL.val (v_slice_him (hi := 16) rfl rfl rfl rfl Tryd.underlying22 sz_5 rfl rfl hcs) (.none rfl) rfl rfl ?_
  refine WL.val (v_assign rfl rfl) (.none rfl) rfl rfl ?_
  refine WL.nil ?_
  refine WE.then_n ?_
  refine WC.seq ?_
  refine WC.region ?_
  refine WL.val (v_move rfl rfl) (.none rfl) rfl rfl ?_
  refine WL.val (v_move rfl rfl) (.none rfl) rfl rfl ?_
  refine WL.copyL rfl rfl rfl Tryd.underlying22 sz_5 (new := [.int .u8 255]) rfl (rgIn (fun h => h) hgr) rfl (by show 0 + 1 ≤ cs.length; omega) (.none rfl) rfl rfl ?_
  refine WL.val (v_assign rfl rfl) (.none rfl) rfl rfl ?_
  refine WL.nil ?_
  refine WE.then_n ?_
  refine WC.seq ?_
  refine WC.block ?_
  refine WC.loop (fun x : Nat × List Value => [(10, .int .i64 x.1), (9, .slice (some ⟨gb, 0, none⟩) 16 16), (8, .int .i64 16), (7, .int .i64 16)]) (fun x => [.row gb x.2]) (fun x => 1 ≤ x.1 ∧ x.1 ≤ 16 ∧ All255 x.2 x.1 ∧ 16 ≤ x.2.length) (fun x => 16 - x.1) (1, splice cs 0 [.int .u8 255]) ⟨by dsimp only; omega, by dsimp only; omega, (fun i hi => by
  obtain rfl : i = 0 := by dsimp only at hi; omega
  cases cs with
  | nil => simp at hcs
  | cons _ _ => rfl), by dsimp only; rw [splice_length _ _ _ (by show 0 + 1 ≤ cs.length; omega)]; exact hcs⟩ (.cons rfl (.cons rfl (.cons rfl (.cons rfl .nil)))) (.refl _) ?_
  rintro ⟨k, cs2⟩ ⟨hk1, hk2, ha, hl⟩
  dsimp only at hk1 hk2 ha hl
  dsimp only
  have hmin : min (k : Int) 16 = (k : Int) := (by omega)
  refine WC.seq ?_
  refine WC.seq ?_
  refine WC.region ?_
  refine WL.val (v_move rfl rfl) (.none rfl) rfl rfl ?_
  refine WL.val (v_move rfl rfl) (.none rfl) rfl rfl ?_
  refine WL.test (v_lss rfl rfl rfl) (.none rfl) rfl rfl (fun h63 => ?_) (fun h63 => ?_)
  · -- 63T
    refine WL.nil ?_
    refine WE.then_n ?_
    refine WC.cond_t rfl ?_
    refine WC.skip ?_
    refine WE.then_n ?_
    refine WC.block ?_
    refine WC.seq ?_
    refine WC.region ?_
    refine WL.val (v_move rfl rfl) (.none rfl) rfl rfl ?_
    refine WL.val (v_move rfl rfl) (.none rfl) rfl rfl ?_
    refine WL.val (v_min rfl rfl rfl) (.none rfl) rfl rfl ?_
    refine WL.val (v_assign rfl rfl) (.none rfl) rfl rfl ?_
    refine WL.nil ?_
    refine WE.then_n ?_
    refine WC.orders mixed ?_
    refine WR.first (g := 3) [0, 1, 2, 3, 4, 5, 6] (by kernel_rfl) (by kernel_rfl) ?_
    refine WP.val (v_move rfl rfl) (.none rfl) rfl rfl ?_
    refine WP.val (v_move rfl rfl) (.none rfl) rfl rfl ?_
    refine WP.val (v_move rfl rfl) (.none rfl) rfl rfl ?_
    refine WP.val (v_slice_loS (lo := k) rfl rfl rfl Tryd.underlying22 sz_5 (by omega) (by omega) (by omega)) (.none rfl) rfl rfl ?_
    refine WP.val (v_move rfl rfl) (.none rfl) rfl rfl ?_
    refine WP.val (v_move rfl rfl) (.none rfl) rfl rfl ?_
    refine WP.val (v_slice_hi (hi := k) rfl rfl rfl Tryd.underlying22 sz_5 (by rw [hmin]) (by omega)) (.none rfl) rfl rfl ?_
    refine WP.nil ?_
    refine WR.ones (g := 2) [7] (by kernel_rfl) ?_
    refine WL.copyL rfl rfl rfl Tryd.underlying22 sz_5 (new := bcs (fun _ => 255) (min k (16 - k))) (by rw [bcs_len]) (fun w' hS' => by
    rw [← All255.take (k := min k (16 - k)) (fun i hi => ha i (by omega)) (by omega)]
    intro i v hv
    rw [List.getElem?_take] at hv
    split at hv
    · rw [Nat.zero_add]; exact hS'.cell (g := gb) hv
    · cases hv) (bcs_one _ _) (by rw [bcs_len]; omega) (.none rfl) rfl rfl ?_
    refine WL.nilR ?_
    refine WR.first (g := 0) [8, 9] (by kernel_rfl) (by kernel_rfl) ?_
    refine WP.val (v_add rfl rfl rfl (show _ = ((k + min k (16 - k) : Nat) : Int) from by rw [bcs_len]; exact (w_i64 (by omega) (by omega)).trans (by omega))) (.none rfl) rfl rfl ?_
    refine WP.val (v_assign rfl rfl) (.none rfl) rfl rfl ?_
    refine WP.nil ?_
    refine WR.done (by kernel_rfl) ?_
    refine WE.block_n ?_
    exact WE.next (k + min k (16 - k), splice cs2 (0 + k * 1) (bcs (fun _ => 255) (min k (16 - k)))) (by dsimp only; omega) ⟨by dsimp only; omega, by dsimp only; omega, by dsimp only; rw [Nat.zero_add, Nat.mul_one]; exact ha.splice (by omega), by dsimp only; rw [splice_length _ _ _ (by rw [bcs_len]; omega)]; exact hl⟩ (.cons rfl (.cons rfl (.cons rfl (.cons rfl .nil)))) (.refl _)
  · -- 63F
    refine WL.nil ?_
    refine WE.then_n ?_
    refine WC.cond_f rfl ?_
    refine WC.exit ?_
    refine WE.then_exit ?_
    refine WE.then_exit ?_
    refine WE.block_hit ?_
    refine WE.then_n ?_
    refine WC.seq ?_
    refine WC.region ?_
    refine WL.val (v_move rfl rfl) (.none rfl) rfl rfl ?_
    refine WL.val (v_assign rfl rfl) (.none rfl) rfl rfl ?_
    refine WL.nil ?_
    refine WE.then_n ?_
    refine WC.ret ?_
    refine WE.ret1 (P := Tryd.prog) (.inl rfl) Tryd.results53 rfl ?_
    obtain rfl : k = 16 := (by omega)
    exact fun w' h => ⟨gb, cs2, rfl, ha, hl, h⟩
/-- A number of two bytes, behind others. -/
def hiB (n : Int) : Int := n / 256 % 256
def n2 (m : Int) : List Value := [.int .u8 (hiB m), .int .u8 (m % 256)]
theorem put2_c (p : Nat → Prop) (w0 w1 : World) (L E : List Ent) (ad : Option Addr) (k c : Nat) (xs : List Value) (m : Int) (hV : Vec 1 ad k c xs E) (hS0 : St p w0 w1 (E ++ L)) (hk : k ≤ 1000000) (_ : 0 ≤ m) (_ : m ≤ 9223372036854775807) :
    Calls Tryd.prog 54 #[.slice ad k c, .int .i64 m] w1 fun e w' => ∃ ad' c' E', e = .returned (.slice ad' (k + 2) c') ∧ Vec 1 ad' (k + 2) c' (xs ++ n2 m) E' ∧ St p w0 w' (E' ++ L) := by
  refine enter Tryd.func54 rfl Tryd.ntmps54 rfl hS0 ?_
  refine WC.seq ?_
  refine WC.region ?_
  refine WL.val (v_assign rfl rfl) (.none rfl) rfl rfl ?_
  refine WL.nil ?_
  refine WE.then_n ?_
  refine WC.seq ?_
  refine WC.region ?_
  refine WL.val (v_move rfl rfl) (.none rfl) rfl rfl ?_
  refine WL.val (v_move rfl rfl) (.none rfl) rfl rfl ?_
  refine WL.val (v_shr (m := 8) (c := 256) rfl rfl rfl rfl (by decide) (by decide)) (.none rfl) rfl rfl ?_
  refine WL.val (v_conv rfl rfl Tryd.underlying5 Tryd.underlying3 (w_u8m _)) (.none rfl) rfl rfl ?_
  refine WL.val (v_move rfl rfl) (.none rfl) rfl rfl ?_
  refine WL.val (v_conv rfl rfl Tryd.underlying5 Tryd.underlying3 (w_u8m _)) (.none rfl) rfl rfl ?_
  refine WL.buildSlice rfl rfl Tryd.underlying22 sz_5 zero_5 rfl (by decide) rfl (.none rfl) rfl rfl ?_
  intro g11 hg11
  refine WL.as (L' := .row g11 (n2 m) :: (E ++ L)) rfl ?_
  refine WL.to (L' := E ++ (.row g11 (n2 m) :: L)) (fun w hS => hS.front [_]) ?_
  refine WL.appendL rfl rfl rfl Tryd.underlying22 Tryd.underlying22 sz_5 by_5 zero_5 rfl rfl hV (new := n2 m) (fun _ => ⟨g11, 0, rfl, fun w hS => allAt (g := g11) w hS⟩) rfl rfl (by omega) (.none rfl) rfl rfl ?_
  intro ad12 c12 E12 hV12 hr12
  refine WL.val (v_assign rfl rfl) (.none rfl) rfl rfl ?_
  refine WL.nil ?_
  refine WE.then_n ?_
  refine WC.ret ?_
  refine WE.ret1 (P := Tryd.prog) (.inl rfl) Tryd.results54 rfl ?_
  exact fun w' h => ⟨ad12, c12, E12, rfl, hV12, h.sub (List.Sublist.append_left (.cons _ (.refl _)) _)⟩
/-- The same, behind a slice that has no room, whoever's it is. -/
theorem put2_n (p : Nat → Prop) (w0 w1 : World) (L : List Ent) (b o k : Nat) (xs : List Value) (m : Int) (hx : ∀ w, St p w0 w L → w.rangeAt b o xs) (hl : xs.length = k) (hS0 : St p w0 w1 L) (hk : k ≤ 1000000) (_ : 0 ≤ m) (_ : m ≤ 9223372036854775807) :
    Calls Tryd.prog 54 #[.slice (some ⟨b, o, none⟩) k k, .int .i64 m] w1 fun e w' => ∃ ad' c' E', e = .returned (.slice ad' (k + 2) c') ∧ Vec 1 ad' (k + 2) c' (xs ++ n2 m) E' ∧ St p w0 w' (E' ++ L) := by
  refine enter Tryd.func54 rfl Tryd.ntmps54 rfl hS0 ?_
  refine WC.seq ?_
  refine WC.region ?_
  refine WL.val (v_assign rfl rfl) (.none rfl) rfl rfl ?_
  refine WL.nil ?_
  refine WE.then_n ?_
  refine WC.seq ?_
  refine WC.region ?_
  refine WL.val (v_move rfl rfl) (.none rfl) rfl rfl ?_
  refine WL.val (v_move rfl rfl) (.none rfl) rfl rfl ?_
  refine WL.val (v_shr (m := 8) (c := 256) rfl rfl rfl rfl (by decide) (by decide)) (.none rfl) rfl rfl ?_
  refine WL.val (v_conv rfl rfl Tryd.underlying5 Tryd.underlying3 (w_u8m _)) (.none rfl) rfl rfl ?_
  refine WL.val (v_move rfl rfl) (.none rfl) rfl rfl ?_
  refine WL.val (v_conv rfl rfl Tryd.underlying5 Tryd.underlying3 (w_u8m _)) (.none rfl) rfl rfl ?_
  refine WL.buildSlice rfl rfl Tryd.underlying22 sz_5 zero_5 rfl (by decide) rfl (.none rfl) rfl rfl ?_
  intro g11 hg11
  refine WL.as (L' := .row g11 (n2 m) :: L) rfl ?_
  refine WL.appendN (new := n2 m) rfl rfl rfl Tryd.underlying22 Tryd.underlying22 sz_5 by_5 zero_5 rfl rfl (by omega) (fun _ => ⟨b, o, rfl, fun w hS => hx w hS.tail⟩) (by omega) (fun _ => ⟨g11, 0, rfl, fun w hS => allAt (g := g11) w hS⟩) rfl (by omega) (.none rfl) rfl rfl ?_
  intro ad12 c12 E12 hV12
  refine WL.val (v_assign rfl rfl) (.none rfl) rfl rfl ?_
  refine WL.nil ?_
  refine WE.then_n ?_
  refine WC.ret ?_
  refine WE.ret1 (P := Tryd.prog) (.inl rfl) Tryd.results54 rfl ?_
  exact fun w' h => ⟨ad12, c12, E12, rfl, hV12, h.sub (List.Sublist.append_left (.cons _ (.refl _)) _)⟩
theorem Rd.bcsR {w : World} {b off n k m : Nat} {f : Nat → Int} (h : Rd w b off n f) (hk : k + m ≤ n) : Rd w b (off + k) m (fun i => f (k + i)) := h.sub k m hk
theorem get2_c (w : World) (b o n c : Nat) (f : Nat → Int) (hf : Byt f) (hr : Rd w b o n f) (hn : 2 ≤ n) :
    Calls Tryd.prog 37 #[.slice (some ⟨b, o, none⟩) n c] w fun e w' => e = .returned (.int .i64 (f 0 * 256 + f 1)) ∧ Frm (fun _ => False) w w' := by
  have b0 := hf 0
  have b1 := hf 1
  refine enter Tryd.func37 rfl Tryd.ntmps37 rfl (St.start (fun _ => False) w) ?_
  refine WC.seq ?_
  refine WC.region ?_
  refine WL.val (v_assign rfl rfl) (.none rfl) rfl rfl ?_
  refine WL.nil ?_
  refine WE.then_n ?_
  refine WC.seq ?_
  refine WC.quiet mixed (by kernel_rfl) ?_
  refine WQ.val (v_move rfl rfl) (.none rfl) rfl rfl ?_
  refine WQ.val (v_indexAddr (lo := 0) rfl rfl rfl Tryd.underlying22 sz_5 rfl (by omega)) (.none rfl) rfl rfl ?_
  refine WQ.val (v_load1 rfl rfl one_5 (cellOld (fun h => h) (by have := hr 0 (by omega); rwa [show o + 0 * 1 = o + 0 by omega]))) (.none rfl) rfl rfl ?_
  refine WQ.val (v_conv rfl rfl Tryd.underlying3 Tryd.underlying5 (w_i64 (by omega) (by omega))) (.none rfl) rfl rfl ?_
  refine WQ.val (v_shl (m := 8) (c := 256) rfl rfl rfl rfl (by decide) (by decide) (w_i64 (by omega) (by omega))) (.none rfl) rfl rfl ?_
  refine WQ.val (v_move rfl rfl) (.none rfl) rfl rfl ?_
  refine WQ.val (v_indexAddr (lo := 1) rfl rfl rfl Tryd.underlying22 sz_5 rfl (by omega)) (.none rfl) rfl rfl ?_
  refine WQ.val (v_load1 rfl rfl one_5 (cellOld (fun h => h) (by have := hr 1 (by omega); rwa [show o + 1 * 1 = o + 1 by omega]))) (.none rfl) rfl rfl ?_
  refine WQ.val (v_conv rfl rfl Tryd.underlying3 Tryd.underlying5 (w_i64 (by omega) (by omega))) (.none rfl) rfl rfl ?_
  refine WQ.val (v_or rfl rfl rfl (bits_join .i64 63 (by decide) (fun n h1 h2 => w_i64 (by omega) (by omega)) 8 (f 0 * 256) (f 1) (by omega) (by omega) (by omega) (by omega) (by omega) (by omega))) (.none rfl) rfl rfl ?_
  refine WQ.val (v_assign rfl rfl) (.none rfl) rfl rfl ?_
  refine WQ.nil ?_
  refine WE.then_n ?_
  refine WC.ret ?_
  refine WE.ret1 (P := Tryd.prog) (.inl rfl) Tryd.results37 rfl ?_
  exact fun w' h => ⟨rfl, h.frm⟩
def leastI (k : Int) : Int := if k = 1 then 29 else if k = 2 then 23 else if k = 3 then 21 else if k = 4 then 19 else 0
theorem least_c (w : World) (k : Int) : Calls Tryd.prog 39 #[.int .i64 k] w fun e w' => e = .returned (.int .i64 (leastI k)) ∧ Frm (fun _ => False) w w' := by
  refine enter Tryd.func39 rfl Tryd.ntmps39 rfl (St.start (fun _ => False) w) ?_
  refine WC.seq ?_
  refine WC.region ?_
  refine WL.val (v_assign rfl rfl) (.none rfl) rfl rfl ?_
  refine WL.nil ?_
  refine WE.then_n ?_
  refine WC.seq ?_
  refine WC.seq ?_
  refine WC.region ?_
  refine WL.val (v_move rfl rfl) (.none rfl) rfl rfl ?_
  refine WL.nil ?_
  refine WE.then_n ?_
  refine WC.block ?_
  refine WC.seq ?_
  refine WC.region ?_
  refine WL.test (v_eql rfl rfl rfl) (.none rfl) rfl rfl (fun h5 => ?_) (fun h5 => ?_)
  · -- 5T
    refine WL.val (v_assign rfl rfl) (.none rfl) rfl rfl ?_
    refine WL.nil ?_
    refine WE.then_n ?_
    refine WC.cond_t rfl ?_
    refine WC.seq ?_
    refine WC.region ?_
    refine WL.val (v_assign rfl rfl) (.none rfl) rfl rfl ?_
    refine WL.nil ?_
    refine WE.then_n ?_
    refine WC.ret ?_
    refine WE.block_ret ?_
    refine WE.then_ret ?_
    refine WE.ret1 (P := Tryd.prog) (.inl rfl) Tryd.results39 rfl ?_
    exact fun w' h => ⟨by unfold leastI; rw [if_pos h5], h.frm⟩
  · -- 5F
    refine WL.val (v_assign rfl rfl) (.none rfl) rfl rfl ?_
    refine WL.nil ?_
    refine WE.then_n ?_
    refine WC.cond_f rfl ?_
    refine WC.seq ?_
    refine WC.region ?_
    refine WL.test (v_eql rfl rfl rfl) (.none rfl) rfl rfl (fun h7 => ?_) (fun h7 => ?_)
    · -- 7T
      refine WL.val (v_assign rfl rfl) (.none rfl) rfl rfl ?_
      refine WL.nil ?_
      refine WE.then_n ?_
      refine WC.cond_t rfl ?_
      refine WC.seq ?_
      refine WC.region ?_
      refine WL.val (v_assign rfl rfl) (.none rfl) rfl rfl ?_
      refine WL.nil ?_
      refine WE.then_n ?_
      refine WC.ret ?_
      refine WE.block_ret ?_
      refine WE.then_ret ?_
      refine WE.ret1 (P := Tryd.prog) (.inl rfl) Tryd.results39 rfl ?_
      exact fun w' h => ⟨by unfold leastI; rw [if_neg h5, if_pos h7], h.frm⟩
    · -- 7F
      refine WL.val (v_assign rfl rfl) (.none rfl) rfl rfl ?_
      refine WL.nil ?_
      refine WE.then_n ?_
      refine WC.cond_f rfl ?_
      refine WC.seq ?_
      refine WC.region ?_
      refine WL.test (v_eql rfl rfl rfl) (.none rfl) rfl rfl (fun h9 => ?_) (fun h9 => ?_)
      · -- 9T
        refine WL.val (v_assign rfl rfl) (.none rfl) rfl rfl ?_
        refine WL.nil ?_
        refine WE.then_n ?_
        refine WC.cond_t rfl ?_
        refine WC.seq ?_
        refine WC.region ?_
        refine WL.val (v_assign rfl rfl) (.none rfl) rfl rfl ?_
        refine WL.nil ?_
        refine WE.then_n ?_
        refine WC.ret ?_
        refine WE.block_ret ?_
        refine WE.then_ret ?_
        refine WE.ret1 (P := Tryd.prog) (.inl rfl) Tryd.results39 rfl ?_
        exact fun w' h => ⟨by unfold leastI; rw [if_neg h5, if_neg h7, if_pos h9], h.frm⟩
      · -- 9F
        refine WL.val (v_assign rfl rfl) (.none rfl) rfl rfl ?_
        refine WL.nil ?_
        refine WE.then_n ?_
        refine WC.cond_f rfl ?_
        refine WC.seq ?_
        refine WC.region ?_
        refine WL.test (v_eql rfl rfl rfl) (.none rfl) rfl rfl (fun h11 => ?_) (fun h11 => ?_)
        · -- 11T
          refine WL.val (v_assign rfl rfl) (.none rfl) rfl rfl ?_
          refine WL.nil ?_
          refine WE.then_n ?_
          refine WC.cond_t rfl ?_
          refine WC.seq ?_
          refine WC.region ?_
          refine WL.val (v_assign rfl rfl) (.none rfl) rfl rfl ?_
          refine WL.nil ?_
          refine WE.then_n ?_
          refine WC.ret ?_
          refine WE.block_ret ?_
          refine WE.then_ret ?_
          refine WE.ret1 (P := Tryd.prog) (.inl rfl) Tryd.results39 rfl ?_
          exact fun w' h => ⟨by unfold leastI; rw [if_neg h5, if_neg h7, if_neg h9, if_pos h11], h.frm⟩
        · -- 11F
          refine WL.val (v_assign rfl rfl) (.none rfl) rfl rfl ?_
          refine WL.nil ?_
          refine WE.then_n ?_
          refine WC.cond_f rfl ?_
          refine WC.skip ?_
          refine WE.block_n ?_
          refine WE.then_n ?_
          refine WC.seq ?_
          refine WC.region ?_
          refine WL.val (v_assign rfl rfl) (.none rfl) rfl rfl ?_
          refine WL.nil ?_
          refine WE.then_n ?_
          refine WC.ret ?_
          refine WE.ret1 (P := Tryd.prog) (.inl rfl) Tryd.results39 rfl ?_
          exact fun w' h => ⟨by unfold leastI; rw [if_neg h5, if_neg h7, if_neg h9, if_neg h11], h.frm⟩
/-- A fault's cells. -/
def fltL (c s : Int) (d : ByteArray) : List Value := [.int .i64 c, .int .i64 s, .string d]
theorem long_c (w : World) (b o n c : Nat) (f : Nat → Int) (hr : Rd w b o n f) (hn : 18 ≤ n) (hc : n ≤ c) :
    Calls Tryd.prog 38 #[.slice (some ⟨b, o, none⟩) n c] w fun e w' => e = .returned (.agg (fltL 1 2 (str (fun i => f (16 + i)) 2)).toArray) ∧ Frm (fun _ => False) w w' := by
  refine enter Tryd.func38 rfl Tryd.ntmps38 rfl (St.start (fun _ => False) w) ?_
  refine WC.seq ?_
  refine WC.region ?_
  refine WL.alloc rfl zero_25 (.none rfl) rfl rfl ?_
  intro g2 hg2
  refine WL.nil ?_
  refine WE.then_n ?_
  refine WC.seq ?_
  refine WC.region ?_
  refine WL.val (v_move rfl rfl) (.none rfl) rfl rfl ?_
  refine WL.val (v_slice_lhS (lo := 16) (hi := 18) rfl rfl rfl rfl Tryd.underlying22 sz_5 rfl rfl (by omega) (by omega) (by omega)) (.none rfl) rfl rfl ?_
  refine WL.val (v_convBS (fun i => f (16 + i)) rfl rfl Tryd.underlying22 Tryd.underlying5 Tryd.underlying9 (fun w' hS' _ => ⟨b, o + 16, by rw [show o + 16 * 1 = o + 16 by omega], (hS'.oldRd (fun h => h) hr).sub 16 2 (by omega)⟩)) (.none rfl) rfl rfl ?_
  refine WL.val (v_build rfl rfl zero_25 plc_25 rfl) (.none rfl) rfl rfl ?_
  refine WL.storeW rfl rfl rfl rfl many_25 rfl rfl (.none rfl) rfl ?_
  refine WL.nil ?_
  refine WE.then_n ?_
  refine WC.ret ?_
  refine WE.ret1 (P := Tryd.prog) (.inl rfl) Tryd.results38 (resRow rfl many_25 rfl) ?_
  exact fun w' h => ⟨rfl, h.frm⟩
end Go.Proofs.YtpjbofodllhjbaaDoor
