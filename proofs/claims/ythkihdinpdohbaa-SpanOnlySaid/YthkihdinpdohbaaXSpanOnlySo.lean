/- The library's sort as this translation holds it. No condition. -/
import Derived.Test.YthkihdinpdohbaaCat3
import Derived.Test.YthkihdinpdohbaaXSpanOnlyTt
namespace Go.Proofs
set_option linter.all false
open Go.Shelf Go.Cat
set_option linter.all false
set_option maxRecDepth 100000
def Try.sort36_ren : Go.Shelf.Ren := ⟨fun | 6 => 36 | 15 => 41 | 14 => 40 | 28 => 51 | 29 => 52 | 20 => 43 | 21 => 44 | 22 => 45 | 23 => 46 | 24 => 47 | 25 => 48 | 26 => 49 | 27 => 50 | 46 => 53 | 47 => 54 | 48 => 55 | 49 => 56 | 50 => 57 | 57 => 58 | n => n, fun | 22 => 44 | 24 => 48 | 25 => 50 | 3 => 3 | 39 => 55 | 0 => 0 | 53 => 66 | 55 => 68 | 4 => 4 | 46 => 59 | 45 => 58 | 50 => 63 | 5 => 5 | 9 => 9 | 66 => 69 | 70 => 73 | 76 => 75 | 77 => 76 | n => n, fun | n => n⟩
theorem Try.sort36 : Go.Proofs.SlLaysF0.n6 Try.prog Try.sort36_ren := {
  mixed := by kernel_rfl
  f6 := ⟨Try.f36.name, by decide, Try.func36.trans (congrArg some (by kernel_rfl))⟩
  f14 := ⟨Try.f40.name, by decide, Try.func40.trans (congrArg some (by kernel_rfl))⟩
  f15 := Try.func41.trans (congrArg some (by kernel_rfl))
  f20 := ⟨Try.f43.name, by decide, Try.func43.trans (congrArg some (by kernel_rfl))⟩
  f21 := ⟨Try.f44.name, by decide, Try.func44.trans (congrArg some (by kernel_rfl))⟩
  f22 := ⟨Try.f45.name, by decide, Try.func45.trans (congrArg some (by kernel_rfl))⟩
  f23 := ⟨Try.f46.name, by decide, Try.func46.trans (congrArg some (by kernel_rfl))⟩
  f24 := ⟨Try.f47.name, by decide, Try.func47.trans (congrArg some (by kernel_rfl))⟩
  f25 := ⟨Try.f48.name, by decide, Try.func48.trans (congrArg some (by kernel_rfl))⟩
  f26 := ⟨Try.f49.name, by decide, Try.func49.trans (congrArg some (by kernel_rfl))⟩
  f27 := ⟨Try.f50.name, by decide, Try.func50.trans (congrArg some (by kernel_rfl))⟩
  f28 := Try.func51.trans (congrArg some (by kernel_rfl))
  f29 := Try.func52.trans (congrArg some (by kernel_rfl))
  f46 := ⟨Try.f53.name, by decide, Try.func53.trans (congrArg some (by kernel_rfl))⟩
  f47 := Try.func54.trans (congrArg some (by kernel_rfl))
  f48 := Try.func55.trans (congrArg some (by kernel_rfl))
  f49 := ⟨Try.f56.name, by decide, Try.func56.trans (congrArg some (by kernel_rfl))⟩
  f50 := ⟨Try.f57.name, by decide, Try.func57.trans (congrArg some (by kernel_rfl))⟩
  f57 := ⟨Try.f58.name, by decide, Try.func58.trans (congrArg some (by kernel_rfl))⟩
  t0 := Try.underlying0
  a0 := Try.isAgg0
  z0 := Try.sizeOf0
  v0 := Try.zeroValue0
  t3 := Try.underlying3
  a3 := Try.isAgg3
  z3 := Try.sizeOf3
  v3 := Try.zeroValue3
  t4 := Try.underlying4
  a4 := Try.isAgg4
  z4 := Try.sizeOf4
  v4 := Try.zeroValue4
  t5 := Try.underlying5
  a5 := Try.isAgg5
  z5 := Try.sizeOf5
  v5 := Try.zeroValue5
  t9 := Try.underlying9
  a9 := Try.isAgg9
  z9 := Try.sizeOf9
  v9 := Try.zeroValue9
  t22 := Try.underlying44
  a22 := Try.isAgg44
  z22 := Try.sizeOf44
  v22 := Try.zeroValue44
  t25 := Try.underlying50
  a25 := Try.isAgg50
  z25 := Try.sizeOf50
  v25 := Try.zeroValue50
  t39 := Try.underlying55
  a39 := Try.isAgg55
  z39 := Try.sizeOf55
  v39 := Try.zeroValue55
  t45 := Try.underlying58
  a45 := Try.isAgg58
  z45 := Try.sizeOf58
  v45 := Try.zeroValue58
  t46 := Try.underlying59
  a46 := Try.isAgg59
  z46 := Try.sizeOf59
  v46 := Try.zeroValue59
  t50 := Try.underlying63
  a50 := Try.isAgg63
  z50 := Try.sizeOf63
  v50 := Try.zeroValue63
  t53 := Try.underlying66
  a53 := Try.isAgg66
  z53 := Try.sizeOf66
  v53 := Try.zeroValue66
  t55 := Try.underlying68
  a55 := Try.isAgg68
  z55 := Try.sizeOf68
  v55 := Try.zeroValue68
  t66 := Try.underlying69
  a66 := Try.isAgg69
  z66 := Try.sizeOf69
  v66 := Try.zeroValue69
  t70 := Try.underlying73
  a70 := Try.isAgg73
  z70 := Try.sizeOf73
  v70 := Try.zeroValue73
  t76 := Try.underlying75
  a76 := Try.isAgg75
  z76 := Try.sizeOf75
  v76 := Try.zeroValue75
  t77 := Try.underlying76
  a77 := Try.isAgg76
  z77 := Try.sizeOf76
  v77 := Try.zeroValue76 }
theorem Try.says36 : SortSays Try.prog 36 3 := sortSays_of Try.sort36 (fun w => (Try.tok 48 _ rfl).run_agg w) (fun w => (Try.tok 48 _ rfl).run_size w)
theorem Try.enters36 : Entered Try.prog 36 := ⟨_, _, Try.func36, by kernel_rfl, rfl⟩
end Go.Proofs
