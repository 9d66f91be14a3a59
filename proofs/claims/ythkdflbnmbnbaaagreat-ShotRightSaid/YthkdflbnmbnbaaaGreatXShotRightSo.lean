/- The library's sort as this translation holds it. No condition. -/
import Derived.Test.YthkdflbnmbnbaaaGreatXShotRightCatP5
import Derived.Test.YthkdflbnmbnbaaaGreatXShotRightTt
namespace Go.Proofs
set_option linter.all false
open Go.Shelf Go.Cat
set_option linter.all false
set_option maxRecDepth 100000
def Tryz.sort76_ren : Go.Shelf.Ren := ⟨fun | 6 => 76 | 15 => 105 | 14 => 104 | 28 => 117 | 29 => 118 | 20 => 109 | 21 => 110 | 22 => 111 | 23 => 112 | 24 => 113 | 25 => 114 | 26 => 115 | 27 => 116 | 46 => 120 | 47 => 121 | 48 => 122 | 49 => 123 | 50 => 124 | 57 => 125 | n => n, fun | 22 => 30 | 24 => 55 | 25 => 124 | 3 => 3 | 39 => 150 | 0 => 0 | 53 => 162 | 55 => 164 | 4 => 4 | 46 => 156 | 45 => 155 | 50 => 125 | 5 => 5 | 9 => 9 | 66 => 165 | 70 => 169 | 76 => 171 | 77 => 128 | n => n, fun | n => n⟩
theorem Tryz.sort76 : Go.Proofs.SlLaysF0.n6 Tryz.prog Tryz.sort76_ren := {
  mixed := by kernel_rfl
  f6 := ⟨Tryz.f76.name, by decide, Tryz.func76.trans (congrArg some (by kernel_rfl))⟩
  f14 := ⟨Tryz.f104.name, by decide, Tryz.func104.trans (congrArg some (by kernel_rfl))⟩
  f15 := Tryz.func105.trans (congrArg some (by kernel_rfl))
  f20 := ⟨Tryz.f109.name, by decide, Tryz.func109.trans (congrArg some (by kernel_rfl))⟩
  f21 := ⟨Tryz.f110.name, by decide, Tryz.func110.trans (congrArg some (by kernel_rfl))⟩
  f22 := ⟨Tryz.f111.name, by decide, Tryz.func111.trans (congrArg some (by kernel_rfl))⟩
  f23 := ⟨Tryz.f112.name, by decide, Tryz.func112.trans (congrArg some (by kernel_rfl))⟩
  f24 := ⟨Tryz.f113.name, by decide, Tryz.func113.trans (congrArg some (by kernel_rfl))⟩
  f25 := ⟨Tryz.f114.name, by decide, Tryz.func114.trans (congrArg some (by kernel_rfl))⟩
  f26 := ⟨Tryz.f115.name, by decide, Tryz.func115.trans (congrArg some (by kernel_rfl))⟩
  f27 := ⟨Tryz.f116.name, by decide, Tryz.func116.trans (congrArg some (by kernel_rfl))⟩
  f28 := Tryz.func117.trans (congrArg some (by kernel_rfl))
  f29 := Tryz.func118.trans (congrArg some (by kernel_rfl))
  f46 := ⟨Tryz.f120.name, by decide, Tryz.func120.trans (congrArg some (by kernel_rfl))⟩
  f47 := Tryz.func121.trans (congrArg some (by kernel_rfl))
  f48 := Tryz.func122.trans (congrArg some (by kernel_rfl))
  f49 := ⟨Tryz.f123.name, by decide, Tryz.func123.trans (congrArg some (by kernel_rfl))⟩
  f50 := ⟨Tryz.f124.name, by decide, Tryz.func124.trans (congrArg some (by kernel_rfl))⟩
  f57 := ⟨Tryz.f125.name, by decide, Tryz.func125.trans (congrArg some (by kernel_rfl))⟩
  t0 := Tryz.underlying0
  a0 := Tryz.isAgg0
  z0 := Tryz.sizeOf0
  v0 := Tryz.zeroValue0
  t3 := Tryz.underlying3
  a3 := Tryz.isAgg3
  z3 := Tryz.sizeOf3
  v3 := Tryz.zeroValue3
  t4 := Tryz.underlying4
  a4 := Tryz.isAgg4
  z4 := Tryz.sizeOf4
  v4 := Tryz.zeroValue4
  t5 := Tryz.underlying5
  a5 := Tryz.isAgg5
  z5 := Tryz.sizeOf5
  v5 := Tryz.zeroValue5
  t9 := Tryz.underlying9
  a9 := Tryz.isAgg9
  z9 := Tryz.sizeOf9
  v9 := Tryz.zeroValue9
  t22 := Tryz.underlying30
  a22 := Tryz.isAgg30
  z22 := Tryz.sizeOf30
  v22 := Tryz.zeroValue30
  t25 := Tryz.underlying124
  a25 := Tryz.isAgg124
  z25 := Tryz.sizeOf124
  v25 := Tryz.zeroValue124
  t39 := Tryz.underlying150
  a39 := Tryz.isAgg150
  z39 := Tryz.sizeOf150
  v39 := Tryz.zeroValue150
  t45 := Tryz.underlying155
  a45 := Tryz.isAgg155
  z45 := Tryz.sizeOf155
  v45 := Tryz.zeroValue155
  t46 := Tryz.underlying156
  a46 := Tryz.isAgg156
  z46 := Tryz.sizeOf156
  v46 := Tryz.zeroValue156
  t50 := Tryz.underlying125
  a50 := Tryz.isAgg125
  z50 := Tryz.sizeOf125
  v50 := Tryz.zeroValue125
  t53 := Tryz.underlying162
  a53 := Tryz.isAgg162
  z53 := Tryz.sizeOf162
  v53 := Tryz.zeroValue162
  t55 := Tryz.underlying164
  a55 := Tryz.isAgg164
  z55 := Tryz.sizeOf164
  v55 := Tryz.zeroValue164
  t66 := Tryz.underlying165
  a66 := Tryz.isAgg165
  z66 := Tryz.sizeOf165
  v66 := Tryz.zeroValue165
  t70 := Tryz.underlying169
  a70 := Tryz.isAgg169
  z70 := Tryz.sizeOf169
  v70 := Tryz.zeroValue169
  t76 := Tryz.underlying171
  a76 := Tryz.isAgg171
  z76 := Tryz.sizeOf171
  v76 := Tryz.zeroValue171
  t77 := Tryz.underlying128
  a77 := Tryz.isAgg128
  z77 := Tryz.sizeOf128
  v77 := Tryz.zeroValue128 }
theorem Tryz.says76 [M : Mono] : SortSays Tryz.prog 76 6 := sortSays_of Tryz.sort76 (fun w => (Tryz.tok 55 _ rfl).run_agg w) (fun w => (Tryz.tok 55 _ rfl).run_size w)
theorem Tryz.enters76 : Entered Tryz.prog 76 := ⟨_, _, Tryz.func76, by kernel_rfl, rfl⟩
end Go.Proofs
