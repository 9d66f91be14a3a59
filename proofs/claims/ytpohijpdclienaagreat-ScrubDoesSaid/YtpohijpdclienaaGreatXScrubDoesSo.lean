/- The library's sort as this translation holds it. No condition. -/
import Derived.Test.YtpohijpdclienaaGreatXScrubDoesCatP5
import Derived.Test.YtpohijpdclienaaGreatXScrubDoesTt
namespace Go.Proofs
set_option linter.all false
open Go.Shelf Go.Cat
set_option linter.all false
set_option maxRecDepth 100000
def Tryz.sort44_ren : Go.Shelf.Ren := ⟨fun | 6 => 44 | 15 => 85 | 14 => 84 | 28 => 129 | 29 => 130 | 20 => 121 | 21 => 122 | 22 => 123 | 23 => 124 | 24 => 125 | 25 => 126 | 26 => 127 | 27 => 128 | 46 => 164 | 47 => 165 | 48 => 166 | 49 => 167 | 50 => 168 | 57 => 179 | n => n, fun | 22 => 33 | 24 => 43 | 25 => 78 | 3 => 3 | 39 => 113 | 0 => 0 | 53 => 133 | 55 => 153 | 4 => 4 | 46 => 145 | 45 => 144 | 50 => 149 | 5 => 5 | 9 => 9 | 66 => 180 | 70 => 184 | 76 => 189 | 77 => 190 | n => n, fun | n => n⟩
theorem Tryz.sort44 : Go.Proofs.SlLaysF0.n6 Tryz.prog Tryz.sort44_ren := {
  mixed := by kernel_rfl
  f6 := ⟨Tryz.f44.name, by decide, Tryz.func44.trans (congrArg some (by kernel_rfl))⟩
  f14 := ⟨Tryz.f84.name, by decide, Tryz.func84.trans (congrArg some (by kernel_rfl))⟩
  f15 := Tryz.func85.trans (congrArg some (by kernel_rfl))
  f20 := ⟨Tryz.f121.name, by decide, Tryz.func121.trans (congrArg some (by kernel_rfl))⟩
  f21 := ⟨Tryz.f122.name, by decide, Tryz.func122.trans (congrArg some (by kernel_rfl))⟩
  f22 := ⟨Tryz.f123.name, by decide, Tryz.func123.trans (congrArg some (by kernel_rfl))⟩
  f23 := ⟨Tryz.f124.name, by decide, Tryz.func124.trans (congrArg some (by kernel_rfl))⟩
  f24 := ⟨Tryz.f125.name, by decide, Tryz.func125.trans (congrArg some (by kernel_rfl))⟩
  f25 := ⟨Tryz.f126.name, by decide, Tryz.func126.trans (congrArg some (by kernel_rfl))⟩
  f26 := ⟨Tryz.f127.name, by decide, Tryz.func127.trans (congrArg some (by kernel_rfl))⟩
  f27 := ⟨Tryz.f128.name, by decide, Tryz.func128.trans (congrArg some (by kernel_rfl))⟩
  f28 := Tryz.func129.trans (congrArg some (by kernel_rfl))
  f29 := Tryz.func130.trans (congrArg some (by kernel_rfl))
  f46 := ⟨Tryz.f164.name, by decide, Tryz.func164.trans (congrArg some (by kernel_rfl))⟩
  f47 := Tryz.func165.trans (congrArg some (by kernel_rfl))
  f48 := Tryz.func166.trans (congrArg some (by kernel_rfl))
  f49 := ⟨Tryz.f167.name, by decide, Tryz.func167.trans (congrArg some (by kernel_rfl))⟩
  f50 := ⟨Tryz.f168.name, by decide, Tryz.func168.trans (congrArg some (by kernel_rfl))⟩
  f57 := ⟨Tryz.f179.name, by decide, Tryz.func179.trans (congrArg some (by kernel_rfl))⟩
  t0 := Tryz.underlying0
  a0 := Tryz.isAgg0
  z0 := Tryz.sizeOf0
  v0 := Tryz.zeroValue0
  t3 := Tryz.underlying3
  a3 := Tryz.isAgg3
  z3 := Tryz.sizeOf3
  v3 := Tryz.zeroValue3
  t4 := Tryz.underlying4
  a4 := Tryz.isAgg4
  z4 := Tryz.sizeOf4
  v4 := Tryz.zeroValue4
  t5 := Tryz.underlying5
  a5 := Tryz.isAgg5
  z5 := Tryz.sizeOf5
  v5 := Tryz.zeroValue5
  t9 := Tryz.underlying9
  a9 := Tryz.isAgg9
  z9 := Tryz.sizeOf9
  v9 := Tryz.zeroValue9
  t22 := Tryz.underlying33
  a22 := Tryz.isAgg33
  z22 := Tryz.sizeOf33
  v22 := Tryz.zeroValue33
  t25 := Tryz.underlying78
  a25 := Tryz.isAgg78
  z25 := Tryz.sizeOf78
  v25 := Tryz.zeroValue78
  t39 := Tryz.underlying113
  a39 := Tryz.isAgg113
  z39 := Tryz.sizeOf113
  v39 := Tryz.zeroValue113
  t45 := Tryz.underlying144
  a45 := Tryz.isAgg144
  z45 := Tryz.sizeOf144
  v45 := Tryz.zeroValue144
  t46 := Tryz.underlying145
  a46 := Tryz.isAgg145
  z46 := Tryz.sizeOf145
  v46 := Tryz.zeroValue145
  t50 := Tryz.underlying149
  a50 := Tryz.isAgg149
  z50 := Tryz.sizeOf149
  v50 := Tryz.zeroValue149
  t53 := Tryz.underlying133
  a53 := Tryz.isAgg133
  z53 := Tryz.sizeOf133
  v53 := Tryz.zeroValue133
  t55 := Tryz.underlying153
  a55 := Tryz.isAgg153
  z55 := Tryz.sizeOf153
  v55 := Tryz.zeroValue153
  t66 := Tryz.underlying180
  a66 := Tryz.isAgg180
  z66 := Tryz.sizeOf180
  v66 := Tryz.zeroValue180
  t70 := Tryz.underlying184
  a70 := Tryz.isAgg184
  z70 := Tryz.sizeOf184
  v70 := Tryz.zeroValue184
  t76 := Tryz.underlying189
  a76 := Tryz.isAgg189
  z76 := Tryz.sizeOf189
  v76 := Tryz.zeroValue189
  t77 := Tryz.underlying190
  a77 := Tryz.isAgg190
  z77 := Tryz.sizeOf190
  v77 := Tryz.zeroValue190 }
theorem Tryz.says44 [M : Mono] : SortSays Tryz.prog 44 3 := sortSays_of Tryz.sort44 (fun w => (Tryz.tok 43 _ rfl).run_agg w) (fun w => (Tryz.tok 43 _ rfl).run_size w)
theorem Tryz.enters44 : Entered Tryz.prog 44 := ⟨_, _, Tryz.func44, by kernel_rfl, rfl⟩
end Go.Proofs
