/- The kit's laying SlLaysF0.n6 at this seat's functions. Printed by wip/tools/lays.py. -/
import Derived.Shelf.SlLaysF0
import Derived.Test.YtodaanhhnjkncaaDoorTys
namespace Go.Proofs.YtodaanhhnjkncaaDoor
open Go.RowKit Go.Shelf

def ren57 : Ren := ⟨fun n => match n with | 6 => 57 | 14 => 82 | 15 => 83 | 20 => 109 | 21 => 110 | 22 => 111 | 23 => 112 | 24 => 113 | 25 => 114 | 26 => 115 | 27 => 116 | 28 => 117 | 29 => 118 | 46 => 126 | 47 => 127 | 48 => 128 | 49 => 129 | 50 => 130 | 57 => 141 | n => n, fun n => match n with | 0 => 0 | 3 => 3 | 4 => 4 | 5 => 5 | 9 => 9 | 22 => 47 | 24 => 31 | 25 => 115 | 39 => 39 | 45 => 158 | 46 => 159 | 50 => 163 | 53 => 28 | 55 => 22 | 66 => 172 | 70 => 176 | 76 => 184 | 77 => 54 | n => n, fun n => n⟩
set_option maxRecDepth 100000 in
theorem lays57 : SlLaysF0.n6 Tryd.prog ren57 where
  mixed := mixed
  f6 := ⟨Tryd.f57.name, by decide, Tryd.func57.trans (congrArg some (by kernel_rfl))⟩
  f14 := ⟨Tryd.f82.name, by decide, Tryd.func82.trans (congrArg some (by kernel_rfl))⟩
  f15 := Tryd.func83.trans (congrArg some (by kernel_rfl))
  f20 := ⟨Tryd.f109.name, by decide, Tryd.func109.trans (congrArg some (by kernel_rfl))⟩
  f21 := ⟨Tryd.f110.name, by decide, Tryd.func110.trans (congrArg some (by kernel_rfl))⟩
  f22 := ⟨Tryd.f111.name, by decide, Tryd.func111.trans (congrArg some (by kernel_rfl))⟩
  f23 := ⟨Tryd.f112.name, by decide, Tryd.func112.trans (congrArg some (by kernel_rfl))⟩
  f24 := ⟨Tryd.f113.name, by decide, Tryd.func113.trans (congrArg some (by kernel_rfl))⟩
  f25 := ⟨Tryd.f114.name, by decide, Tryd.func114.trans (congrArg some (by kernel_rfl))⟩
  f26 := ⟨Tryd.f115.name, by decide, Tryd.func115.trans (congrArg some (by kernel_rfl))⟩
  f27 := ⟨Tryd.f116.name, by decide, Tryd.func116.trans (congrArg some (by kernel_rfl))⟩
  f28 := Tryd.func117.trans (congrArg some (by kernel_rfl))
  f29 := Tryd.func118.trans (congrArg some (by kernel_rfl))
  f46 := ⟨Tryd.f126.name, by decide, Tryd.func126.trans (congrArg some (by kernel_rfl))⟩
  f47 := Tryd.func127.trans (congrArg some (by kernel_rfl))
  f48 := Tryd.func128.trans (congrArg some (by kernel_rfl))
  f49 := ⟨Tryd.f129.name, by decide, Tryd.func129.trans (congrArg some (by kernel_rfl))⟩
  f50 := ⟨Tryd.f130.name, by decide, Tryd.func130.trans (congrArg some (by kernel_rfl))⟩
  f57 := ⟨Tryd.f141.name, by decide, Tryd.func141.trans (congrArg some (by kernel_rfl))⟩
  t0 := Tryd.underlying0
  a0 := Tryd.isAgg0
  z0 := Tryd.sizeOf0
  v0 := Tryd.zeroValue0
  t3 := Tryd.underlying3
  a3 := Tryd.isAgg3
  z3 := Tryd.sizeOf3
  v3 := Tryd.zeroValue3
  t4 := Tryd.underlying4
  a4 := Tryd.isAgg4
  z4 := Tryd.sizeOf4
  v4 := Tryd.zeroValue4
  t5 := Tryd.underlying5
  a5 := Tryd.isAgg5
  z5 := Tryd.sizeOf5
  v5 := Tryd.zeroValue5
  t9 := Tryd.underlying9
  a9 := Tryd.isAgg9
  z9 := Tryd.sizeOf9
  v9 := Tryd.zeroValue9
  t22 := Tryd.underlying47
  a22 := Tryd.isAgg47
  z22 := Tryd.sizeOf47
  v22 := Tryd.zeroValue47
  t25 := Tryd.underlying115
  a25 := Tryd.isAgg115
  z25 := Tryd.sizeOf115
  v25 := Tryd.zeroValue115
  t39 := Tryd.underlying39
  a39 := Tryd.isAgg39
  z39 := Tryd.sizeOf39
  v39 := Tryd.zeroValue39
  t45 := Tryd.underlying158
  a45 := Tryd.isAgg158
  z45 := Tryd.sizeOf158
  v45 := Tryd.zeroValue158
  t46 := Tryd.underlying159
  a46 := Tryd.isAgg159
  z46 := Tryd.sizeOf159
  v46 := Tryd.zeroValue159
  t50 := Tryd.underlying163
  a50 := Tryd.isAgg163
  z50 := Tryd.sizeOf163
  v50 := Tryd.zeroValue163
  t53 := Tryd.underlying28
  a53 := Tryd.isAgg28
  z53 := Tryd.sizeOf28
  v53 := Tryd.zeroValue28
  t55 := Tryd.underlying22
  a55 := Tryd.isAgg22
  z55 := Tryd.sizeOf22
  v55 := Tryd.zeroValue22
  t66 := Tryd.underlying172
  a66 := Tryd.isAgg172
  z66 := Tryd.sizeOf172
  v66 := Tryd.zeroValue172
  t70 := Tryd.underlying176
  a70 := Tryd.isAgg176
  z70 := Tryd.sizeOf176
  v70 := Tryd.zeroValue176
  t76 := Tryd.underlying184
  a76 := Tryd.isAgg184
  z76 := Tryd.sizeOf184
  v76 := Tryd.zeroValue184
  t77 := Tryd.underlying54
  a77 := Tryd.isAgg54
  z77 := Tryd.sizeOf54
  v77 := Tryd.zeroValue54
end Go.Proofs.YtodaanhhnjkncaaDoor
