/- The closed facts on this program's types and functions that the engine's laws ask for (printed by gen_ty.py). -/
import Derived.Test.YtaoipmdddagngaaIter
import Derived.Test.YtaoipmdddagngaaProg
namespace Go.Proofs.Ytaoipmdddagngaa
open Go.RowKit
theorem mixed : Try.prog.follows .mixedOrders = true := by kernel_rfl
theorem sz_1 : (Try.prog.info? 1).map (·.size) = some 1 := by kernel_rfl
theorem by_1 : (Try.prog.info? 1).map (·.bytes) = some 8 := by kernel_rfl
theorem one_1 : One Try.prog 1 := One.mk Try.underlying1 rfl sz_1
theorem zero_1 : Zero Try.prog 1 [.nilFunc] := Zero.mk (z := .nilFunc) (by kernel_rfl) rfl
theorem sz_2 : (Try.prog.info? 2).map (·.size) = some 1 := by kernel_rfl
theorem by_2 : (Try.prog.info? 2).map (·.bytes) = some 8 := by kernel_rfl
theorem one_2 : One Try.prog 2 := One.mk Try.underlying2 rfl sz_2
theorem zero_2 : Zero Try.prog 2 [.int .i64 0] := Zero.mk (z := .int .i64 0) (by kernel_rfl) rfl
theorem sz_3 : (Try.prog.info? 3).map (·.size) = some 1 := by kernel_rfl
theorem by_3 : (Try.prog.info? 3).map (·.bytes) = some 8 := by kernel_rfl
theorem one_3 : One Try.prog 3 := One.mk Try.underlying3 rfl sz_3
theorem zero_3 : Zero Try.prog 3 [.int .i64 0] := Zero.mk (z := .int .i64 0) (by kernel_rfl) rfl
theorem sz_4 : (Try.prog.info? 4).map (·.size) = some 1 := by kernel_rfl
theorem by_4 : (Try.prog.info? 4).map (·.bytes) = some 1 := by kernel_rfl
theorem one_4 : One Try.prog 4 := One.mk Try.underlying4 rfl sz_4
theorem zero_4 : Zero Try.prog 4 [.bool false] := Zero.mk (z := .bool false) (by kernel_rfl) rfl
theorem sz_5 : (Try.prog.info? 5).map (·.size) = some 1 := by kernel_rfl
theorem by_5 : (Try.prog.info? 5).map (·.bytes) = some 1 := by kernel_rfl
theorem one_5 : One Try.prog 5 := One.mk Try.underlying5 rfl sz_5
theorem zero_5 : Zero Try.prog 5 [.int .u8 0] := Zero.mk (z := .int .u8 0) (by kernel_rfl) rfl
theorem sz_6 : (Try.prog.info? 6).map (·.size) = some 1 := by kernel_rfl
theorem by_6 : (Try.prog.info? 6).map (·.bytes) = some 1 := by kernel_rfl
theorem one_6 : One Try.prog 6 := One.mk Try.underlying6 rfl sz_6
theorem zero_6 : Zero Try.prog 6 [.int .u8 0] := Zero.mk (z := .int .u8 0) (by kernel_rfl) rfl
theorem sz_7 : (Try.prog.info? 7).map (·.size) = some 4 := by kernel_rfl
theorem by_7 : (Try.prog.info? 7).map (·.bytes) = some 24 := by kernel_rfl
theorem many_7 : Many Try.prog 7 4 := Many.mk Try.underlying7 rfl sz_7
theorem zero_7 : Zero Try.prog 7 [.int .i64 0, .int .i64 0, .bool false, .int .u8 0] := Zero.mk (z := .agg #[.int .i64 0, .int .i64 0, .bool false, .int .u8 0]) (by kernel_rfl) rfl
theorem sz_8 : (Try.prog.info? 8).map (·.size) = some 4 := by kernel_rfl
theorem by_8 : (Try.prog.info? 8).map (·.bytes) = some 24 := by kernel_rfl
theorem many_8 : Many Try.prog 8 4 := Many.mk Try.underlying8 rfl sz_8
theorem zero_8 : Zero Try.prog 8 [.int .i64 0, .int .i64 0, .bool false, .int .u8 0] := Zero.mk (z := .agg #[.int .i64 0, .int .i64 0, .bool false, .int .u8 0]) (by kernel_rfl) rfl
theorem sz_9 : (Try.prog.info? 9).map (·.size) = some 1 := by kernel_rfl
theorem by_9 : (Try.prog.info? 9).map (·.bytes) = some 16 := by kernel_rfl
theorem one_9 : One Try.prog 9 := One.mk Try.underlying9 rfl sz_9
theorem zero_9 : Zero Try.prog 9 [.string ⟨#[]⟩] := Zero.mk (z := .string ⟨#[]⟩) (by kernel_rfl) rfl
theorem sz_10 : (Try.prog.info? 10).map (·.size) = some 1 := by kernel_rfl
theorem by_10 : (Try.prog.info? 10).map (·.bytes) = some 16 := by kernel_rfl
theorem one_10 : One Try.prog 10 := One.mk Try.underlying10 rfl sz_10
theorem zero_10 : Zero Try.prog 10 [.string ⟨#[]⟩] := Zero.mk (z := .string ⟨#[]⟩) (by kernel_rfl) rfl
theorem sz_11 : (Try.prog.info? 11).map (·.size) = some 1 := by kernel_rfl
theorem by_11 : (Try.prog.info? 11).map (·.bytes) = some 16 := by kernel_rfl
theorem one_11 : One Try.prog 11 := One.mk Try.underlying11 rfl sz_11
theorem zero_11 : Zero Try.prog 11 [.string ⟨#[]⟩] := Zero.mk (z := .string ⟨#[]⟩) (by kernel_rfl) rfl
theorem sz_12 : (Try.prog.info? 12).map (·.size) = some 1 := by kernel_rfl
theorem by_12 : (Try.prog.info? 12).map (·.bytes) = some 8 := by kernel_rfl
theorem one_12 : One Try.prog 12 := One.mk Try.underlying12 rfl sz_12
theorem zero_12 : Zero Try.prog 12 [.int .u64 0] := Zero.mk (z := .int .u64 0) (by kernel_rfl) rfl
theorem sz_13 : (Try.prog.info? 13).map (·.size) = some 2 := by kernel_rfl
theorem by_13 : (Try.prog.info? 13).map (·.bytes) = some 24 := by kernel_rfl
theorem many_13 : Many Try.prog 13 2 := Many.mk Try.underlying13 rfl sz_13
theorem zero_13 : Zero Try.prog 13 [.string ⟨#[]⟩, .int .u64 0] := Zero.mk (z := .agg #[.string ⟨#[]⟩, .int .u64 0]) (by kernel_rfl) rfl
theorem sz_14 : (Try.prog.info? 14).map (·.size) = some 2 := by kernel_rfl
theorem by_14 : (Try.prog.info? 14).map (·.bytes) = some 24 := by kernel_rfl
theorem many_14 : Many Try.prog 14 2 := Many.mk Try.underlying14 rfl sz_14
theorem zero_14 : Zero Try.prog 14 [.string ⟨#[]⟩, .int .u64 0] := Zero.mk (z := .agg #[.string ⟨#[]⟩, .int .u64 0]) (by kernel_rfl) rfl
theorem sz_15 : (Try.prog.info? 15).map (·.size) = some 1 := by kernel_rfl
theorem by_15 : (Try.prog.info? 15).map (·.bytes) = some 8 := by kernel_rfl
theorem one_15 : One Try.prog 15 := One.mk Try.underlying15 rfl sz_15
theorem zero_15 : Zero Try.prog 15 [.pointer none] := Zero.mk (z := .pointer none) (by kernel_rfl) rfl
theorem sz_16 : (Try.prog.info? 16).map (·.size) = some 1 := by kernel_rfl
theorem by_16 : (Try.prog.info? 16).map (·.bytes) = some 8 := by kernel_rfl
theorem one_16 : One Try.prog 16 := One.mk Try.underlying16 rfl sz_16
theorem zero_16 : Zero Try.prog 16 [.pointer none] := Zero.mk (z := .pointer none) (by kernel_rfl) rfl
theorem sz_17 : (Try.prog.info? 17).map (·.size) = some 1 := by kernel_rfl
theorem by_17 : (Try.prog.info? 17).map (·.bytes) = some 8 := by kernel_rfl
theorem one_17 : One Try.prog 17 := One.mk Try.underlying17 rfl sz_17
theorem zero_17 : Zero Try.prog 17 [.pointer none] := Zero.mk (z := .pointer none) (by kernel_rfl) rfl
theorem sz_18 : (Try.prog.info? 18).map (·.size) = some 1 := by kernel_rfl
theorem by_18 : (Try.prog.info? 18).map (·.bytes) = some 8 := by kernel_rfl
theorem many_18 : Many Try.prog 18 1 := Many.mk Try.underlying18 rfl sz_18
theorem zero_18 : Zero Try.prog 18 [.pointer none] := Zero.mk (z := .agg #[.pointer none]) (by kernel_rfl) rfl
theorem sz_19 : (Try.prog.info? 19).map (·.size) = some 1 := by kernel_rfl
theorem by_19 : (Try.prog.info? 19).map (·.bytes) = some 8 := by kernel_rfl
theorem many_19 : Many Try.prog 19 1 := Many.mk Try.underlying19 rfl sz_19
theorem zero_19 : Zero Try.prog 19 [.pointer none] := Zero.mk (z := .agg #[.pointer none]) (by kernel_rfl) rfl
theorem sz_20 : (Try.prog.info? 20).map (·.size) = some 1 := by kernel_rfl
theorem by_20 : (Try.prog.info? 20).map (·.bytes) = some 16 := by kernel_rfl
theorem one_20 : One Try.prog 20 := One.mk Try.underlying20 rfl sz_20
theorem zero_20 : Zero Try.prog 20 [.nilIface] := Zero.mk (z := .nilIface) (by kernel_rfl) rfl
theorem sz_21 : (Try.prog.info? 21).map (·.size) = some 1 := by kernel_rfl
theorem by_21 : (Try.prog.info? 21).map (·.bytes) = some 4 := by kernel_rfl
theorem one_21 : One Try.prog 21 := One.mk Try.underlying21 rfl sz_21
theorem zero_21 : Zero Try.prog 21 [.int .i32 0] := Zero.mk (z := .int .i32 0) (by kernel_rfl) rfl
theorem sz_22 : (Try.prog.info? 22).map (·.size) = some 1 := by kernel_rfl
theorem by_22 : (Try.prog.info? 22).map (·.bytes) = some 24 := by kernel_rfl
theorem one_22 : One Try.prog 22 := One.mk Try.underlying22 rfl sz_22
theorem zero_22 : Zero Try.prog 22 [.slice none 0 0] := Zero.mk (z := .slice none 0 0) (by kernel_rfl) rfl
theorem sz_23 : (Try.prog.info? 23).map (·.size) = some 1 := by kernel_rfl
theorem by_23 : (Try.prog.info? 23).map (·.bytes) = some 8 := by kernel_rfl
theorem one_23 : One Try.prog 23 := One.mk Try.underlying23 rfl sz_23
theorem zero_23 : Zero Try.prog 23 [.nilFunc] := Zero.mk (z := .nilFunc) (by kernel_rfl) rfl
theorem sz_24 : (Try.prog.info? 24).map (·.size) = some 1 := by kernel_rfl
theorem by_24 : (Try.prog.info? 24).map (·.bytes) = some 8 := by kernel_rfl
theorem one_24 : One Try.prog 24 := One.mk Try.underlying24 rfl sz_24
theorem zero_24 : Zero Try.prog 24 [.pointer none] := Zero.mk (z := .pointer none) (by kernel_rfl) rfl
theorem sz_25 : (Try.prog.info? 25).map (·.size) = some 1 := by kernel_rfl
theorem by_25 : (Try.prog.info? 25).map (·.bytes) = some 8 := by kernel_rfl
theorem one_25 : One Try.prog 25 := One.mk Try.underlying25 rfl sz_25
theorem zero_25 : Zero Try.prog 25 [.nilFunc] := Zero.mk (z := .nilFunc) (by kernel_rfl) rfl
theorem sz_26 : (Try.prog.info? 26).map (·.size) = some 1 := by kernel_rfl
theorem by_26 : (Try.prog.info? 26).map (·.bytes) = some 8 := by kernel_rfl
theorem one_26 : One Try.prog 26 := One.mk Try.underlying26 rfl sz_26
theorem zero_26 : Zero Try.prog 26 [.int .i64 0] := Zero.mk (z := .int .i64 0) (by kernel_rfl) rfl
theorem sz_27 : (Try.prog.info? 27).map (·.size) = some 1 := by kernel_rfl
theorem by_27 : (Try.prog.info? 27).map (·.bytes) = some 8 := by kernel_rfl
theorem one_27 : One Try.prog 27 := One.mk Try.underlying27 rfl sz_27
theorem zero_27 : Zero Try.prog 27 [.nilFunc] := Zero.mk (z := .nilFunc) (by kernel_rfl) rfl
theorem sz_28 : (Try.prog.info? 28).map (·.size) = some 1 := by kernel_rfl
theorem by_28 : (Try.prog.info? 28).map (·.bytes) = some 8 := by kernel_rfl
theorem one_28 : One Try.prog 28 := One.mk Try.underlying28 rfl sz_28
theorem zero_28 : Zero Try.prog 28 [.map none] := Zero.mk (z := .map none) (by kernel_rfl) rfl
theorem sz_30 : (Try.prog.info? 30).map (·.size) = some 1 := by kernel_rfl
theorem by_30 : (Try.prog.info? 30).map (·.bytes) = some 8 := by kernel_rfl
theorem one_30 : One Try.prog 30 := One.mk Try.underlying30 rfl sz_30
theorem zero_30 : Zero Try.prog 30 [.nilFunc] := Zero.mk (z := .nilFunc) (by kernel_rfl) rfl
theorem sz_31 : (Try.prog.info? 31).map (·.size) = some 1 := by kernel_rfl
theorem by_31 : (Try.prog.info? 31).map (·.bytes) = some 8 := by kernel_rfl
theorem one_31 : One Try.prog 31 := One.mk Try.underlying31 rfl sz_31
theorem zero_31 : Zero Try.prog 31 [.nilFunc] := Zero.mk (z := .nilFunc) (by kernel_rfl) rfl
theorem sz_32 : (Try.prog.info? 32).map (·.size) = some 1 := by kernel_rfl
theorem by_32 : (Try.prog.info? 32).map (·.bytes) = some 8 := by kernel_rfl
theorem one_32 : One Try.prog 32 := One.mk Try.underlying32 rfl sz_32
theorem zero_32 : Zero Try.prog 32 [.nilFunc] := Zero.mk (z := .nilFunc) (by kernel_rfl) rfl
theorem sz_33 : (Try.prog.info? 33).map (·.size) = some 1 := by kernel_rfl
theorem by_33 : (Try.prog.info? 33).map (·.bytes) = some 8 := by kernel_rfl
theorem one_33 : One Try.prog 33 := One.mk Try.underlying33 rfl sz_33
theorem zero_33 : Zero Try.prog 33 [.nilFunc] := Zero.mk (z := .nilFunc) (by kernel_rfl) rfl
theorem sz_34 : (Try.prog.info? 34).map (·.size) = some 1 := by kernel_rfl
theorem by_34 : (Try.prog.info? 34).map (·.bytes) = some 8 := by kernel_rfl
theorem one_34 : One Try.prog 34 := One.mk Try.underlying34 rfl sz_34
theorem zero_34 : Zero Try.prog 34 [.nilFunc] := Zero.mk (z := .nilFunc) (by kernel_rfl) rfl
theorem sz_35 : (Try.prog.info? 35).map (·.size) = some 1 := by kernel_rfl
theorem by_35 : (Try.prog.info? 35).map (·.bytes) = some 24 := by kernel_rfl
theorem one_35 : One Try.prog 35 := One.mk Try.underlying35 rfl sz_35
theorem zero_35 : Zero Try.prog 35 [.slice none 0 0] := Zero.mk (z := .slice none 0 0) (by kernel_rfl) rfl
theorem sz_36 : (Try.prog.info? 36).map (·.size) = some 1 := by kernel_rfl
theorem by_36 : (Try.prog.info? 36).map (·.bytes) = some 24 := by kernel_rfl
theorem one_36 : One Try.prog 36 := One.mk Try.underlying36 rfl sz_36
theorem zero_36 : Zero Try.prog 36 [.slice none 0 0] := Zero.mk (z := .slice none 0 0) (by kernel_rfl) rfl
theorem sz_37 : (Try.prog.info? 37).map (·.size) = some 4 := by kernel_rfl
theorem by_37 : (Try.prog.info? 37).map (·.bytes) = some 32 := by kernel_rfl
theorem many_37 : Many Try.prog 37 4 := Many.mk Try.underlying37 rfl sz_37
theorem zero_37 : Zero Try.prog 37 [.int .i64 0, .int .i64 0, .int .i64 0, .int .i64 0] := Zero.mk (z := .agg #[.int .i64 0, .int .i64 0, .int .i64 0, .int .i64 0]) (by kernel_rfl) rfl
theorem sz_38 : (Try.prog.info? 38).map (·.size) = some 4 := by kernel_rfl
theorem by_38 : (Try.prog.info? 38).map (·.bytes) = some 32 := by kernel_rfl
theorem many_38 : Many Try.prog 38 4 := Many.mk Try.underlying38 rfl sz_38
theorem zero_38 : Zero Try.prog 38 [.int .i64 0, .int .i64 0, .int .i64 0, .int .i64 0] := Zero.mk (z := .agg #[.int .i64 0, .int .i64 0, .int .i64 0, .int .i64 0]) (by kernel_rfl) rfl
theorem sz_39 : (Try.prog.info? 39).map (·.size) = some 2 := by kernel_rfl
theorem by_39 : (Try.prog.info? 39).map (·.bytes) = some 16 := by kernel_rfl
theorem many_39 : Many Try.prog 39 2 := Many.mk Try.underlying39 rfl sz_39
theorem zero_39 : Zero Try.prog 39 [.int .i64 0, .int .i64 0] := Zero.mk (z := .agg #[.int .i64 0, .int .i64 0]) (by kernel_rfl) rfl
theorem sz_40 : (Try.prog.info? 40).map (·.size) = some 2 := by kernel_rfl
theorem by_40 : (Try.prog.info? 40).map (·.bytes) = some 16 := by kernel_rfl
theorem many_40 : Many Try.prog 40 2 := Many.mk Try.underlying40 rfl sz_40
theorem zero_40 : Zero Try.prog 40 [.int .i64 0, .int .i64 0] := Zero.mk (z := .agg #[.int .i64 0, .int .i64 0]) (by kernel_rfl) rfl
theorem sz_41 : (Try.prog.info? 41).map (·.size) = some 1 := by kernel_rfl
theorem by_41 : (Try.prog.info? 41).map (·.bytes) = some 8 := by kernel_rfl
theorem one_41 : One Try.prog 41 := One.mk Try.underlying41 rfl sz_41
theorem zero_41 : Zero Try.prog 41 [.nilFunc] := Zero.mk (z := .nilFunc) (by kernel_rfl) rfl
theorem sz_42 : (Try.prog.info? 42).map (·.size) = some 1 := by kernel_rfl
theorem by_42 : (Try.prog.info? 42).map (·.bytes) = some 8 := by kernel_rfl
theorem one_42 : One Try.prog 42 := One.mk Try.underlying42 rfl sz_42
theorem zero_42 : Zero Try.prog 42 [.map none] := Zero.mk (z := .map none) (by kernel_rfl) rfl
theorem sz_43 : (Try.prog.info? 43).map (·.size) = some 1 := by kernel_rfl
theorem by_43 : (Try.prog.info? 43).map (·.bytes) = some 24 := by kernel_rfl
theorem one_43 : One Try.prog 43 := One.mk Try.underlying43 rfl sz_43
theorem zero_43 : Zero Try.prog 43 [.slice none 0 0] := Zero.mk (z := .slice none 0 0) (by kernel_rfl) rfl
theorem sz_44 : (Try.prog.info? 44).map (·.size) = some 1 := by kernel_rfl
theorem by_44 : (Try.prog.info? 44).map (·.bytes) = some 24 := by kernel_rfl
theorem one_44 : One Try.prog 44 := One.mk Try.underlying44 rfl sz_44
theorem zero_44 : Zero Try.prog 44 [.slice none 0 0] := Zero.mk (z := .slice none 0 0) (by kernel_rfl) rfl
theorem sz_45 : (Try.prog.info? 45).map (·.size) = some 3 := by kernel_rfl
theorem by_45 : (Try.prog.info? 45).map (·.bytes) = some 40 := by kernel_rfl
theorem many_45 : Many Try.prog 45 3 := Many.mk Try.underlying45 rfl sz_45
theorem zero_45 : Zero Try.prog 45 [.int .i64 0, .slice none 0 0, .map none] := Zero.mk (z := .agg #[.int .i64 0, .slice none 0 0, .map none]) (by kernel_rfl) rfl
theorem sz_46 : (Try.prog.info? 46).map (·.size) = some 3 := by kernel_rfl
theorem by_46 : (Try.prog.info? 46).map (·.bytes) = some 40 := by kernel_rfl
theorem many_46 : Many Try.prog 46 3 := Many.mk Try.underlying46 rfl sz_46
theorem zero_46 : Zero Try.prog 46 [.int .i64 0, .slice none 0 0, .map none] := Zero.mk (z := .agg #[.int .i64 0, .slice none 0 0, .map none]) (by kernel_rfl) rfl
theorem sz_47 : (Try.prog.info? 47).map (·.size) = some 1 := by kernel_rfl
theorem by_47 : (Try.prog.info? 47).map (·.bytes) = some 8 := by kernel_rfl
theorem one_47 : One Try.prog 47 := One.mk Try.underlying47 rfl sz_47
theorem zero_47 : Zero Try.prog 47 [.pointer none] := Zero.mk (z := .pointer none) (by kernel_rfl) rfl
theorem sz_49 : (Try.prog.info? 49).map (·.size) = some 3 := by kernel_rfl
theorem by_49 : (Try.prog.info? 49).map (·.bytes) = some 24 := by kernel_rfl
theorem many_49 : Many Try.prog 49 3 := Many.mk Try.underlying49 rfl sz_49
theorem zero_49 : Zero Try.prog 49 [.int .i64 0, .int .i64 0, .int .i64 0] := Zero.mk (z := .agg #[.int .i64 0, .int .i64 0, .int .i64 0]) (by kernel_rfl) rfl
theorem sz_50 : (Try.prog.info? 50).map (·.size) = some 3 := by kernel_rfl
theorem by_50 : (Try.prog.info? 50).map (·.bytes) = some 24 := by kernel_rfl
theorem many_50 : Many Try.prog 50 3 := Many.mk Try.underlying50 rfl sz_50
theorem zero_50 : Zero Try.prog 50 [.int .i64 0, .int .i64 0, .int .i64 0] := Zero.mk (z := .agg #[.int .i64 0, .int .i64 0, .int .i64 0]) (by kernel_rfl) rfl
theorem sz_51 : (Try.prog.info? 51).map (·.size) = some 1 := by kernel_rfl
theorem by_51 : (Try.prog.info? 51).map (·.bytes) = some 8 := by kernel_rfl
theorem one_51 : One Try.prog 51 := One.mk Try.underlying51 rfl sz_51
theorem zero_51 : Zero Try.prog 51 [.nilFunc] := Zero.mk (z := .nilFunc) (by kernel_rfl) rfl
theorem sz_52 : (Try.prog.info? 52).map (·.size) = some 1 := by kernel_rfl
theorem by_52 : (Try.prog.info? 52).map (·.bytes) = some 8 := by kernel_rfl
theorem one_52 : One Try.prog 52 := One.mk Try.underlying52 rfl sz_52
theorem zero_52 : Zero Try.prog 52 [.pointer none] := Zero.mk (z := .pointer none) (by kernel_rfl) rfl
theorem sz_53 : (Try.prog.info? 53).map (·.size) = some 1 := by kernel_rfl
theorem by_53 : (Try.prog.info? 53).map (·.bytes) = some 8 := by kernel_rfl
theorem one_53 : One Try.prog 53 := One.mk Try.underlying53 rfl sz_53
theorem zero_53 : Zero Try.prog 53 [.nilFunc] := Zero.mk (z := .nilFunc) (by kernel_rfl) rfl
theorem sz_54 : (Try.prog.info? 54).map (·.size) = some 1 := by kernel_rfl
theorem by_54 : (Try.prog.info? 54).map (·.bytes) = some 8 := by kernel_rfl
theorem one_54 : One Try.prog 54 := One.mk Try.underlying54 rfl sz_54
theorem zero_54 : Zero Try.prog 54 [.nilFunc] := Zero.mk (z := .nilFunc) (by kernel_rfl) rfl
theorem sz_55 : (Try.prog.info? 55).map (·.size) = some 1 := by kernel_rfl
theorem by_55 : (Try.prog.info? 55).map (·.bytes) = some 8 := by kernel_rfl
theorem one_55 : One Try.prog 55 := One.mk Try.underlying55 rfl sz_55
theorem zero_55 : Zero Try.prog 55 [.nilFunc] := Zero.mk (z := .nilFunc) (by kernel_rfl) rfl
theorem sz_56 : (Try.prog.info? 56).map (·.size) = some 1 := by kernel_rfl
theorem by_56 : (Try.prog.info? 56).map (·.bytes) = some 16 := by kernel_rfl
theorem one_56 : One Try.prog 56 := One.mk Try.underlying56 rfl sz_56
theorem zero_56 : Zero Try.prog 56 [.nilIface] := Zero.mk (z := .nilIface) (by kernel_rfl) rfl
theorem sz_57 : (Try.prog.info? 57).map (·.size) = some 1 := by kernel_rfl
theorem by_57 : (Try.prog.info? 57).map (·.bytes) = some 16 := by kernel_rfl
theorem one_57 : One Try.prog 57 := One.mk Try.underlying57 rfl sz_57
theorem zero_57 : Zero Try.prog 57 [.nilIface] := Zero.mk (z := .nilIface) (by kernel_rfl) rfl
theorem sz_58 : (Try.prog.info? 58).map (·.size) = some 1 := by kernel_rfl
theorem by_58 : (Try.prog.info? 58).map (·.bytes) = some 8 := by kernel_rfl
theorem one_58 : One Try.prog 58 := One.mk Try.underlying58 rfl sz_58
theorem zero_58 : Zero Try.prog 58 [.nilFunc] := Zero.mk (z := .nilFunc) (by kernel_rfl) rfl
theorem sz_59 : (Try.prog.info? 59).map (·.size) = some 1 := by kernel_rfl
theorem by_59 : (Try.prog.info? 59).map (·.bytes) = some 8 := by kernel_rfl
theorem one_59 : One Try.prog 59 := One.mk Try.underlying59 rfl sz_59
theorem zero_59 : Zero Try.prog 59 [.nilFunc] := Zero.mk (z := .nilFunc) (by kernel_rfl) rfl
theorem sz_60 : (Try.prog.info? 60).map (·.size) = some 1 := by kernel_rfl
theorem by_60 : (Try.prog.info? 60).map (·.bytes) = some 8 := by kernel_rfl
theorem one_60 : One Try.prog 60 := One.mk Try.underlying60 rfl sz_60
theorem zero_60 : Zero Try.prog 60 [.nilFunc] := Zero.mk (z := .nilFunc) (by kernel_rfl) rfl
theorem sz_61 : (Try.prog.info? 61).map (·.size) = some 1 := by kernel_rfl
theorem by_61 : (Try.prog.info? 61).map (·.bytes) = some 8 := by kernel_rfl
theorem one_61 : One Try.prog 61 := One.mk Try.underlying61 rfl sz_61
theorem zero_61 : Zero Try.prog 61 [.nilFunc] := Zero.mk (z := .nilFunc) (by kernel_rfl) rfl
theorem sz_62 : (Try.prog.info? 62).map (·.size) = some 1 := by kernel_rfl
theorem by_62 : (Try.prog.info? 62).map (·.bytes) = some 8 := by kernel_rfl
theorem one_62 : One Try.prog 62 := One.mk Try.underlying62 rfl sz_62
theorem zero_62 : Zero Try.prog 62 [.nilFunc] := Zero.mk (z := .nilFunc) (by kernel_rfl) rfl
theorem sz_63 : (Try.prog.info? 63).map (·.size) = some 1 := by kernel_rfl
theorem by_63 : (Try.prog.info? 63).map (·.bytes) = some 8 := by kernel_rfl
theorem one_63 : One Try.prog 63 := One.mk Try.underlying63 rfl sz_63
theorem zero_63 : Zero Try.prog 63 [.nilFunc] := Zero.mk (z := .nilFunc) (by kernel_rfl) rfl
theorem sz_64 : (Try.prog.info? 64).map (·.size) = some 4 := by kernel_rfl
theorem by_64 : (Try.prog.info? 64).map (·.bytes) = some 40 := by kernel_rfl
theorem many_64 : Many Try.prog 64 4 := Many.mk Try.underlying64 rfl sz_64
theorem zero_64 : Zero Try.prog 64 [.pointer none, .pointer none, .pointer none, .string ⟨#[]⟩] := Zero.mk (z := .agg #[.pointer none, .pointer none, .pointer none, .string ⟨#[]⟩]) (by kernel_rfl) rfl
theorem sz_65 : (Try.prog.info? 65).map (·.size) = some 4 := by kernel_rfl
theorem by_65 : (Try.prog.info? 65).map (·.bytes) = some 40 := by kernel_rfl
theorem many_65 : Many Try.prog 65 4 := Many.mk Try.underlying65 rfl sz_65
theorem zero_65 : Zero Try.prog 65 [.pointer none, .pointer none, .pointer none, .string ⟨#[]⟩] := Zero.mk (z := .agg #[.pointer none, .pointer none, .pointer none, .string ⟨#[]⟩]) (by kernel_rfl) rfl
theorem sz_66 : (Try.prog.info? 66).map (·.size) = some 0 := by kernel_rfl
theorem by_66 : (Try.prog.info? 66).map (·.bytes) = some 0 := by kernel_rfl
theorem many_66 : Many Try.prog 66 0 := Many.mk Try.underlying66 rfl sz_66
theorem zero_66 : Zero Try.prog 66 [] := Zero.mk (z := .agg #[]) (by kernel_rfl) rfl
theorem sz_67 : (Try.prog.info? 67).map (·.size) = some 0 := by kernel_rfl
theorem by_67 : (Try.prog.info? 67).map (·.bytes) = some 0 := by kernel_rfl
theorem many_67 : Many Try.prog 67 0 := Many.mk Try.underlying67 rfl sz_67
theorem zero_67 : Zero Try.prog 67 [] := Zero.mk (z := .agg #[]) (by kernel_rfl) rfl
theorem sz_68 : (Try.prog.info? 68).map (·.size) = some 0 := by kernel_rfl
theorem by_68 : (Try.prog.info? 68).map (·.bytes) = some 0 := by kernel_rfl
theorem many_68 : Many Try.prog 68 0 := Many.mk Try.underlying68 rfl sz_68
theorem zero_68 : Zero Try.prog 68 [] := Zero.mk (z := .agg #[]) (by kernel_rfl) rfl
theorem sz_69 : (Try.prog.info? 69).map (·.size) = some 1 := by kernel_rfl
theorem by_69 : (Try.prog.info? 69).map (·.bytes) = some 4 := by kernel_rfl
theorem one_69 : One Try.prog 69 := One.mk Try.underlying69 rfl sz_69
theorem zero_69 : Zero Try.prog 69 [.int .u32 0] := Zero.mk (z := .int .u32 0) (by kernel_rfl) rfl
theorem sz_70 : (Try.prog.info? 70).map (·.size) = some 1 := by kernel_rfl
theorem by_70 : (Try.prog.info? 70).map (·.bytes) = some 1 := by kernel_rfl
theorem one_70 : One Try.prog 70 := One.mk Try.underlying70 rfl sz_70
theorem zero_70 : Zero Try.prog 70 [.int .u8 0] := Zero.mk (z := .int .u8 0) (by kernel_rfl) rfl
theorem sz_71 : (Try.prog.info? 71).map (·.size) = some 1 := by kernel_rfl
theorem by_71 : (Try.prog.info? 71).map (·.bytes) = some 1 := by kernel_rfl
theorem one_71 : One Try.prog 71 := One.mk Try.underlying71 rfl sz_71
theorem zero_71 : Zero Try.prog 71 [.int .u8 0] := Zero.mk (z := .int .u8 0) (by kernel_rfl) rfl
theorem sz_72 : (Try.prog.info? 72).map (·.size) = some 1 := by kernel_rfl
theorem by_72 : (Try.prog.info? 72).map (·.bytes) = some 8 := by kernel_rfl
theorem one_72 : One Try.prog 72 := One.mk Try.underlying72 rfl sz_72
theorem zero_72 : Zero Try.prog 72 [.nilFunc] := Zero.mk (z := .nilFunc) (by kernel_rfl) rfl
theorem sz_73 : (Try.prog.info? 73).map (·.size) = some 1 := by kernel_rfl
theorem by_73 : (Try.prog.info? 73).map (·.bytes) = some 8 := by kernel_rfl
theorem one_73 : One Try.prog 73 := One.mk Try.underlying73 rfl sz_73
theorem zero_73 : Zero Try.prog 73 [.pointer none] := Zero.mk (z := .pointer none) (by kernel_rfl) rfl
theorem sz_74 : (Try.prog.info? 74).map (·.size) = some 1 := by kernel_rfl
theorem by_74 : (Try.prog.info? 74).map (·.bytes) = some 4 := by kernel_rfl
theorem one_74 : One Try.prog 74 := One.mk Try.underlying74 rfl sz_74
theorem zero_74 : Zero Try.prog 74 [.int .i32 0] := Zero.mk (z := .int .i32 0) (by kernel_rfl) rfl
theorem sz_75 : (Try.prog.info? 75).map (·.size) = some 1 := by kernel_rfl
theorem by_75 : (Try.prog.info? 75).map (·.bytes) = some 4 := by kernel_rfl
theorem one_75 : One Try.prog 75 := One.mk Try.underlying75 rfl sz_75
theorem zero_75 : Zero Try.prog 75 [.int .i32 0] := Zero.mk (z := .int .i32 0) (by kernel_rfl) rfl
theorem sz_76 : (Try.prog.info? 76).map (·.size) = some 11 := by kernel_rfl
theorem by_76 : (Try.prog.info? 76).map (·.bytes) = some 48 := by kernel_rfl
theorem many_76 : Many Try.prog 76 11 := Many.mk Try.underlying76 rfl sz_76
theorem zero_76 : Zero Try.prog 76 [.int .u64 0, .int .u64 0, .int .u32 0, .int .u8 0, .int .u8 0, .int .u8 0, .int .u8 0, .nilFunc, .pointer none, .int .i32 0, .int .i32 0] := Zero.mk (z := .agg #[.int .u64 0, .int .u64 0, .int .u32 0, .int .u8 0, .int .u8 0, .int .u8 0, .int .u8 0, .nilFunc, .pointer none, .int .i32 0, .int .i32 0]) (by kernel_rfl) rfl
theorem sz_77 : (Try.prog.info? 77).map (·.size) = some 11 := by kernel_rfl
theorem by_77 : (Try.prog.info? 77).map (·.bytes) = some 48 := by kernel_rfl
theorem many_77 : Many Try.prog 77 11 := Many.mk Try.underlying77 rfl sz_77
theorem zero_77 : Zero Try.prog 77 [.int .u64 0, .int .u64 0, .int .u32 0, .int .u8 0, .int .u8 0, .int .u8 0, .int .u8 0, .nilFunc, .pointer none, .int .i32 0, .int .i32 0] := Zero.mk (z := .agg #[.int .u64 0, .int .u64 0, .int .u32 0, .int .u8 0, .int .u8 0, .int .u8 0, .int .u8 0, .nilFunc, .pointer none, .int .i32 0, .int .i32 0]) (by kernel_rfl) rfl
theorem sz_78 : (Try.prog.info? 78).map (·.size) = some 1 := by kernel_rfl
theorem by_78 : (Try.prog.info? 78).map (·.bytes) = some 8 := by kernel_rfl
theorem one_78 : One Try.prog 78 := One.mk Try.underlying78 rfl sz_78
theorem zero_78 : Zero Try.prog 78 [.pointer none] := Zero.mk (z := .pointer none) (by kernel_rfl) rfl
theorem fld_7_0 : FieldAt Try.prog 7 0 0 2 := FieldAt.mk Try.underlying7 rfl rfl rfl sz_2
theorem fld_7_1 : FieldAt Try.prog 7 1 1 3 := FieldAt.mk Try.underlying7 rfl rfl rfl sz_3
theorem fld_7_2 : FieldAt Try.prog 7 2 2 4 := FieldAt.mk Try.underlying7 rfl rfl rfl sz_4
theorem fld_7_3 : FieldAt Try.prog 7 3 3 6 := FieldAt.mk Try.underlying7 rfl rfl rfl sz_6
theorem fld_8_0 : FieldAt Try.prog 8 0 0 2 := FieldAt.mk Try.underlying8 rfl rfl rfl sz_2
theorem fld_8_1 : FieldAt Try.prog 8 1 1 3 := FieldAt.mk Try.underlying8 rfl rfl rfl sz_3
theorem fld_8_2 : FieldAt Try.prog 8 2 2 4 := FieldAt.mk Try.underlying8 rfl rfl rfl sz_4
theorem fld_8_3 : FieldAt Try.prog 8 3 3 6 := FieldAt.mk Try.underlying8 rfl rfl rfl sz_6
theorem fld_13_0 : FieldAt Try.prog 13 0 0 9 := FieldAt.mk Try.underlying13 rfl rfl rfl sz_9
theorem fld_13_1 : FieldAt Try.prog 13 1 1 12 := FieldAt.mk Try.underlying13 rfl rfl rfl sz_12
theorem fld_14_0 : FieldAt Try.prog 14 0 0 9 := FieldAt.mk Try.underlying14 rfl rfl rfl sz_9
theorem fld_14_1 : FieldAt Try.prog 14 1 1 12 := FieldAt.mk Try.underlying14 rfl rfl rfl sz_12
theorem fld_18_0 : FieldAt Try.prog 18 0 0 17 := FieldAt.mk Try.underlying18 rfl rfl rfl sz_17
theorem fld_19_0 : FieldAt Try.prog 19 0 0 17 := FieldAt.mk Try.underlying19 rfl rfl rfl sz_17
theorem fld_37_0 : FieldAt Try.prog 37 0 0 3 := FieldAt.mk Try.underlying37 rfl rfl rfl sz_3
theorem fld_37_1 : FieldAt Try.prog 37 1 1 3 := FieldAt.mk Try.underlying37 rfl rfl rfl sz_3
theorem fld_37_2 : FieldAt Try.prog 37 2 2 3 := FieldAt.mk Try.underlying37 rfl rfl rfl sz_3
theorem fld_37_3 : FieldAt Try.prog 37 3 3 3 := FieldAt.mk Try.underlying37 rfl rfl rfl sz_3
theorem fld_38_0 : FieldAt Try.prog 38 0 0 3 := FieldAt.mk Try.underlying38 rfl rfl rfl sz_3
theorem fld_38_1 : FieldAt Try.prog 38 1 1 3 := FieldAt.mk Try.underlying38 rfl rfl rfl sz_3
theorem fld_38_2 : FieldAt Try.prog 38 2 2 3 := FieldAt.mk Try.underlying38 rfl rfl rfl sz_3
theorem fld_38_3 : FieldAt Try.prog 38 3 3 3 := FieldAt.mk Try.underlying38 rfl rfl rfl sz_3
theorem fld_39_0 : FieldAt Try.prog 39 0 0 3 := FieldAt.mk Try.underlying39 rfl rfl rfl sz_3
theorem fld_39_1 : FieldAt Try.prog 39 1 1 3 := FieldAt.mk Try.underlying39 rfl rfl rfl sz_3
theorem fld_40_0 : FieldAt Try.prog 40 0 0 3 := FieldAt.mk Try.underlying40 rfl rfl rfl sz_3
theorem fld_40_1 : FieldAt Try.prog 40 1 1 3 := FieldAt.mk Try.underlying40 rfl rfl rfl sz_3
theorem fld_45_0 : FieldAt Try.prog 45 0 0 3 := FieldAt.mk Try.underlying45 rfl rfl rfl sz_3
theorem fld_45_1 : FieldAt Try.prog 45 1 1 44 := FieldAt.mk Try.underlying45 rfl rfl rfl sz_44
theorem fld_45_2 : FieldAt Try.prog 45 2 2 42 := FieldAt.mk Try.underlying45 rfl rfl rfl sz_42
theorem fld_46_0 : FieldAt Try.prog 46 0 0 3 := FieldAt.mk Try.underlying46 rfl rfl rfl sz_3
theorem fld_46_1 : FieldAt Try.prog 46 1 1 44 := FieldAt.mk Try.underlying46 rfl rfl rfl sz_44
theorem fld_46_2 : FieldAt Try.prog 46 2 2 42 := FieldAt.mk Try.underlying46 rfl rfl rfl sz_42
theorem fld_49_0 : FieldAt Try.prog 49 0 0 3 := FieldAt.mk Try.underlying49 rfl rfl rfl sz_3
theorem fld_49_1 : FieldAt Try.prog 49 1 1 3 := FieldAt.mk Try.underlying49 rfl rfl rfl sz_3
theorem fld_49_2 : FieldAt Try.prog 49 2 2 3 := FieldAt.mk Try.underlying49 rfl rfl rfl sz_3
theorem fld_50_0 : FieldAt Try.prog 50 0 0 3 := FieldAt.mk Try.underlying50 rfl rfl rfl sz_3
theorem fld_50_1 : FieldAt Try.prog 50 1 1 3 := FieldAt.mk Try.underlying50 rfl rfl rfl sz_3
theorem fld_50_2 : FieldAt Try.prog 50 2 2 3 := FieldAt.mk Try.underlying50 rfl rfl rfl sz_3
theorem fld_64_0 : FieldAt Try.prog 64 0 0 17 := FieldAt.mk Try.underlying64 rfl rfl rfl sz_17
theorem fld_64_1 : FieldAt Try.prog 64 1 1 17 := FieldAt.mk Try.underlying64 rfl rfl rfl sz_17
theorem fld_64_2 : FieldAt Try.prog 64 2 2 17 := FieldAt.mk Try.underlying64 rfl rfl rfl sz_17
theorem fld_64_3 : FieldAt Try.prog 64 3 3 9 := FieldAt.mk Try.underlying64 rfl rfl rfl sz_9
theorem fld_65_0 : FieldAt Try.prog 65 0 0 17 := FieldAt.mk Try.underlying65 rfl rfl rfl sz_17
theorem fld_65_1 : FieldAt Try.prog 65 1 1 17 := FieldAt.mk Try.underlying65 rfl rfl rfl sz_17
theorem fld_65_2 : FieldAt Try.prog 65 2 2 17 := FieldAt.mk Try.underlying65 rfl rfl rfl sz_17
theorem fld_65_3 : FieldAt Try.prog 65 3 3 9 := FieldAt.mk Try.underlying65 rfl rfl rfl sz_9
theorem fld_76_0 : FieldAt Try.prog 76 0 0 12 := FieldAt.mk Try.underlying76 rfl rfl rfl sz_12
theorem fld_76_1 : FieldAt Try.prog 76 1 1 12 := FieldAt.mk Try.underlying76 rfl rfl rfl sz_12
theorem fld_76_2 : FieldAt Try.prog 76 2 2 69 := FieldAt.mk Try.underlying76 rfl rfl rfl sz_69
theorem fld_76_3 : FieldAt Try.prog 76 3 3 70 := FieldAt.mk Try.underlying76 rfl rfl rfl sz_70
theorem fld_76_4 : FieldAt Try.prog 76 4 4 5 := FieldAt.mk Try.underlying76 rfl rfl rfl sz_5
theorem fld_76_5 : FieldAt Try.prog 76 5 5 5 := FieldAt.mk Try.underlying76 rfl rfl rfl sz_5
theorem fld_76_6 : FieldAt Try.prog 76 6 6 71 := FieldAt.mk Try.underlying76 rfl rfl rfl sz_71
theorem fld_76_7 : FieldAt Try.prog 76 7 7 72 := FieldAt.mk Try.underlying76 rfl rfl rfl sz_72
theorem fld_76_8 : FieldAt Try.prog 76 8 8 73 := FieldAt.mk Try.underlying76 rfl rfl rfl sz_73
theorem fld_76_9 : FieldAt Try.prog 76 9 9 74 := FieldAt.mk Try.underlying76 rfl rfl rfl sz_74
theorem fld_76_10 : FieldAt Try.prog 76 10 10 75 := FieldAt.mk Try.underlying76 rfl rfl rfl sz_75
theorem fld_77_0 : FieldAt Try.prog 77 0 0 12 := FieldAt.mk Try.underlying77 rfl rfl rfl sz_12
theorem fld_77_1 : FieldAt Try.prog 77 1 1 12 := FieldAt.mk Try.underlying77 rfl rfl rfl sz_12
theorem fld_77_2 : FieldAt Try.prog 77 2 2 69 := FieldAt.mk Try.underlying77 rfl rfl rfl sz_69
theorem fld_77_3 : FieldAt Try.prog 77 3 3 70 := FieldAt.mk Try.underlying77 rfl rfl rfl sz_70
theorem fld_77_4 : FieldAt Try.prog 77 4 4 5 := FieldAt.mk Try.underlying77 rfl rfl rfl sz_5
theorem fld_77_5 : FieldAt Try.prog 77 5 5 5 := FieldAt.mk Try.underlying77 rfl rfl rfl sz_5
theorem fld_77_6 : FieldAt Try.prog 77 6 6 71 := FieldAt.mk Try.underlying77 rfl rfl rfl sz_71
theorem fld_77_7 : FieldAt Try.prog 77 7 7 72 := FieldAt.mk Try.underlying77 rfl rfl rfl sz_72
theorem fld_77_8 : FieldAt Try.prog 77 8 8 73 := FieldAt.mk Try.underlying77 rfl rfl rfl sz_73
theorem fld_77_9 : FieldAt Try.prog 77 9 9 74 := FieldAt.mk Try.underlying77 rfl rfl rfl sz_74
theorem fld_77_10 : FieldAt Try.prog 77 10 10 75 := FieldAt.mk Try.underlying77 rfl rfl rfl sz_75
theorem plc_40 : Places Try.prog 40 [(0, 1), (1, 1)] := ⟨_, Try.underlying40, fun w => by simp [run_sizeOf sz_3]⟩
theorem plc_46 : Places Try.prog 46 [(0, 1), (1, 1), (2, 1)] := ⟨_, Try.underlying46, fun w => by simp [run_sizeOf sz_3, run_sizeOf sz_44, run_sizeOf sz_42]⟩
theorem plc_50 : Places Try.prog 50 [(0, 1), (1, 1), (2, 1)] := ⟨_, Try.underlying50, fun w => by simp [run_sizeOf sz_3]⟩
theorem ck_2 : callOk Try.prog 2 := callOk_of Try.func2 (by kernel_rfl) rfl
theorem ck_3 : callOk Try.prog 3 := callOk_of Try.func3 (by kernel_rfl) rfl
theorem ck_4 : callOk Try.prog 4 := callOk_of Try.func4 (by kernel_rfl) rfl
theorem ck_5 : callOk Try.prog 5 := callOk_of Try.func5 (by kernel_rfl) rfl
theorem ck_6 : callOk Try.prog 6 := callOk_of Try.func6 (by kernel_rfl) rfl
theorem ck_7 : callOk Try.prog 7 := callOk_of Try.func7 (by kernel_rfl) rfl
theorem ck_8 : callOk Try.prog 8 := callOk_of Try.func8 (by kernel_rfl) rfl
theorem ck_9 : callOk Try.prog 9 := callOk_of Try.func9 (by kernel_rfl) rfl
theorem ck_10 : callOk Try.prog 10 := callOk_of Try.func10 (by kernel_rfl) rfl
theorem ck_11 : callOk Try.prog 11 := callOk_of Try.func11 (by kernel_rfl) rfl
theorem ck_12 : callOk Try.prog 12 := callOk_of Try.func12 (by kernel_rfl) rfl
theorem ck_13 : callOk Try.prog 13 := callOk_of Try.func13 (by kernel_rfl) rfl
theorem ck_14 : callOk Try.prog 14 := callOk_of Try.func14 (by kernel_rfl) rfl
theorem ck_15 : callOk Try.prog 15 := callOk_of Try.func15 (by kernel_rfl) rfl
theorem ck_16 : callOk Try.prog 16 := callOk_of Try.func16 (by kernel_rfl) rfl
theorem ck_17 : callOk Try.prog 17 := callOk_of Try.func17 (by kernel_rfl) rfl
theorem ck_18 : callOk Try.prog 18 := callOk_of Try.func18 (by kernel_rfl) rfl
theorem ck_19 : callOk Try.prog 19 := callOk_of Try.func19 (by kernel_rfl) rfl
theorem ck_20 : callOk Try.prog 20 := callOk_of Try.func20 (by kernel_rfl) rfl
theorem ck_37 : callOk Try.prog 37 := callOk_of Try.func37 (by kernel_rfl) rfl
theorem ck_38 : callOk Try.prog 38 := callOk_of Try.func38 (by kernel_rfl) rfl
theorem ck_39 : callOk Try.prog 39 := callOk_of Try.func39 (by kernel_rfl) rfl
theorem ck_40 : callOk Try.prog 40 := callOk_of Try.func40 (by kernel_rfl) rfl
theorem ck_41 : callOk Try.prog 41 := callOk_of Try.func41 (by kernel_rfl) rfl
end Go.Proofs.Ytaoipmdddagngaa
