/- The numbers of a map in order, as this translation holds the library. No condition. -/
import Derived.Test.YtcbpphgndncebabGreatXMendWholeCatP6
import Derived.Test.YtcbpphgndncebabGreatXMendWholeTt
namespace Go.Proofs
set_option linter.all false
open Go.Shelf Go.Cat Go.RowKit Go.Maps Go.Sort
set_option linter.all false
set_option maxRecDepth 100000
attribute [local go_sem] Oper.semAt_some
def Tryz.keys163_ren : Go.Shelf.Ren := ⟨fun | 7 => 163 | 10 => 172 | n => n, fun | 23 => 183 | 26 => 3 | 3 => 85 | 28 => 186 | 0 => 0 | 27 => 185 | 33 => 99 | 4 => 4 | n => n, fun | n => n⟩
theorem Tryz.keys163 : Go.Proofs.SlLaysZI.n7 Tryz.prog Tryz.keys163_ren := {
  mixed := by kernel_rfl
  f7 := ⟨Tryz.f163.name, by decide, Tryz.func163.trans (congrArg some (by kernel_rfl))⟩
  f10 := ⟨Tryz.f172.name, by decide, Tryz.func172.trans (congrArg some (by kernel_rfl))⟩
  t0 := Tryz.underlying0
  a0 := Tryz.isAgg0
  z0 := Tryz.sizeOf0
  v0 := Tryz.zeroValue0
  t4 := Tryz.underlying4
  a4 := Tryz.isAgg4
  z4 := Tryz.sizeOf4
  v4 := Tryz.zeroValue4
  t23 := Tryz.underlying183
  a23 := Tryz.isAgg183
  z23 := Tryz.sizeOf183
  v23 := Tryz.zeroValue183
  t26 := Tryz.underlying3
  a26 := Tryz.isAgg3
  z26 := Tryz.sizeOf3
  v26 := Tryz.zeroValue3
  t27 := Tryz.underlying185
  a27 := Tryz.isAgg185
  z27 := Tryz.sizeOf185
  v27 := Tryz.zeroValue185
  t28 := Tryz.underlying186
  a28 := Tryz.isAgg186
  z28 := Tryz.sizeOf186
  v28 := Tryz.zeroValue186
  t33 := Tryz.underlying99
  a33 := Tryz.isAgg99
  z33 := Tryz.sizeOf99
  v33 := Tryz.zeroValue99 }
def Tryz.sorted162_ren : Go.Shelf.Ren := ⟨fun | 6 => 162 | 8 => 170 | 9 => 171 | 11 => 173 | 13 => 65 | 12 => 174 | 23 => 100 | 24 => 101 | 14 => 175 | 15 => 176 | 16 => 177 | 17 => 178 | 18 => 179 | 19 => 180 | 20 => 181 | 21 => 182 | 22 => 183 | 25 => 184 | 26 => 136 | 27 => 137 | 28 => 185 | 29 => 186 | 30 => 66 | 31 => 187 | n => n, fun | 26 => 3 | 28 => 186 | 24 => 36 | 0 => 0 | 3 => 3 | 37 => 98 | 48 => 130 | 50 => 132 | 4 => 4 | 40 => 123 | 39 => 122 | 45 => 127 | 5 => 5 | 9 => 9 | 51 => 157 | 55 => 161 | 57 => 188 | 58 => 189 | 33 => 99 | n => n, fun | n => n⟩
theorem Tryz.sorted162 : Go.Proofs.SlLaysZI.n6 Tryz.prog Tryz.sorted162_ren := {
  mixed := by kernel_rfl
  f6 := ⟨Tryz.f162.name, by decide, Tryz.func162.trans (congrArg some (by kernel_rfl))⟩
  f8 := ⟨Tryz.f170.name, by decide, Tryz.func170.trans (congrArg some (by kernel_rfl))⟩
  f11 := ⟨Tryz.f173.name, by decide, Tryz.func173.trans (congrArg some (by kernel_rfl))⟩
  t0 := Tryz.underlying0
  a0 := Tryz.isAgg0
  z0 := Tryz.sizeOf0
  v0 := Tryz.zeroValue0
  t24 := Tryz.underlying36
  a24 := Tryz.isAgg36
  z24 := Tryz.sizeOf36
  v24 := Tryz.zeroValue36
  t26 := Tryz.underlying3
  a26 := Tryz.isAgg3
  z26 := Tryz.sizeOf3
  v26 := Tryz.zeroValue3
  t28 := Tryz.underlying186
  a28 := Tryz.isAgg186
  z28 := Tryz.sizeOf186
  v28 := Tryz.zeroValue186
  i26 := by kernel_rfl }
def Tryz.sort171_ren : Go.Shelf.Ren := ⟨fun | 5 => 171 | 8 => 65 | 7 => 174 | 19 => 100 | 20 => 101 | 10 => 175 | 11 => 176 | 12 => 177 | 13 => 178 | 14 => 179 | 15 => 180 | 16 => 181 | 17 => 182 | 18 => 183 | 30 => 184 | 31 => 136 | 32 => 137 | 33 => 185 | 34 => 186 | 35 => 66 | 40 => 187 | n => n, fun | 23 => 36 | 25 => 3 | 3 => 3 | 32 => 98 | 22 => 36 | 0 => 0 | 44 => 130 | 46 => 132 | 4 => 4 | 36 => 123 | 35 => 122 | 41 => 127 | 5 => 5 | 9 => 9 | 53 => 157 | 57 => 161 | 63 => 188 | 64 => 189 | n => n, fun | n => n⟩
theorem Tryz.sort171 : Go.Proofs.SlLaysM.n5 Tryz.prog Tryz.sort171_ren := {
  mixed := by kernel_rfl
  f5 := ⟨Tryz.f171.name, by decide, Tryz.func171.trans (congrArg some (by kernel_rfl))⟩
  f7 := ⟨Tryz.f174.name, by decide, Tryz.func174.trans (congrArg some (by kernel_rfl))⟩
  f8 := Tryz.func65.trans (congrArg some (by kernel_rfl))
  f10 := ⟨Tryz.f175.name, by decide, Tryz.func175.trans (congrArg some (by kernel_rfl))⟩
  f11 := ⟨Tryz.f176.name, by decide, Tryz.func176.trans (congrArg some (by kernel_rfl))⟩
  f12 := ⟨Tryz.f177.name, by decide, Tryz.func177.trans (congrArg some (by kernel_rfl))⟩
  f13 := ⟨Tryz.f178.name, by decide, Tryz.func178.trans (congrArg some (by kernel_rfl))⟩
  f14 := ⟨Tryz.f179.name, by decide, Tryz.func179.trans (congrArg some (by kernel_rfl))⟩
  f15 := ⟨Tryz.f180.name, by decide, Tryz.func180.trans (congrArg some (by kernel_rfl))⟩
  f16 := ⟨Tryz.f181.name, by decide, Tryz.func181.trans (congrArg some (by kernel_rfl))⟩
  f17 := ⟨Tryz.f182.name, by decide, Tryz.func182.trans (congrArg some (by kernel_rfl))⟩
  f18 := ⟨Tryz.f183.name, by decide, Tryz.func183.trans (congrArg some (by kernel_rfl))⟩
  f19 := Tryz.func100.trans (congrArg some (by kernel_rfl))
  f20 := Tryz.func101.trans (congrArg some (by kernel_rfl))
  f30 := ⟨Tryz.f184.name, by decide, Tryz.func184.trans (congrArg some (by kernel_rfl))⟩
  f31 := Tryz.func136.trans (congrArg some (by kernel_rfl))
  f32 := Tryz.func137.trans (congrArg some (by kernel_rfl))
  f33 := ⟨Tryz.f185.name, by decide, Tryz.func185.trans (congrArg some (by kernel_rfl))⟩
  f34 := ⟨Tryz.f186.name, by decide, Tryz.func186.trans (congrArg some (by kernel_rfl))⟩
  f35 := ⟨Tryz.f66.name, by decide, Tryz.func66.trans (congrArg some (by kernel_rfl))⟩
  f40 := ⟨Tryz.f187.name, by decide, Tryz.func187.trans (congrArg some (by kernel_rfl))⟩
  t0 := Tryz.underlying0
  a0 := Tryz.isAgg0
  z0 := Tryz.sizeOf0
  v0 := Tryz.zeroValue0
  t3 := Tryz.underlying3
  a3 := Tryz.isAgg3
  z3 := Tryz.sizeOf3
  v3 := Tryz.zeroValue3
  t4 := Tryz.underlying4
  a4 := Tryz.isAgg4
  z4 := Tryz.sizeOf4
  v4 := Tryz.zeroValue4
  t5 := Tryz.underlying5
  a5 := Tryz.isAgg5
  z5 := Tryz.sizeOf5
  v5 := Tryz.zeroValue5
  t9 := Tryz.underlying9
  a9 := Tryz.isAgg9
  z9 := Tryz.sizeOf9
  v9 := Tryz.zeroValue9
  t22 := Tryz.underlying36
  a22 := Tryz.isAgg36
  z22 := Tryz.sizeOf36
  v22 := Tryz.zeroValue36
  t23 := Tryz.underlying36
  a23 := Tryz.isAgg36
  z23 := Tryz.sizeOf36
  v23 := Tryz.zeroValue36
  t25 := Tryz.underlying3
  a25 := Tryz.isAgg3
  z25 := Tryz.sizeOf3
  v25 := Tryz.zeroValue3
  t32 := Tryz.underlying98
  a32 := Tryz.isAgg98
  z32 := Tryz.sizeOf98
  v32 := Tryz.zeroValue98
  t35 := Tryz.underlying122
  a35 := Tryz.isAgg122
  z35 := Tryz.sizeOf122
  v35 := Tryz.zeroValue122
  t36 := Tryz.underlying123
  a36 := Tryz.isAgg123
  z36 := Tryz.sizeOf123
  v36 := Tryz.zeroValue123
  t41 := Tryz.underlying127
  a41 := Tryz.isAgg127
  z41 := Tryz.sizeOf127
  v41 := Tryz.zeroValue127
  t44 := Tryz.underlying130
  a44 := Tryz.isAgg130
  z44 := Tryz.sizeOf130
  v44 := Tryz.zeroValue130
  t46 := Tryz.underlying132
  a46 := Tryz.isAgg132
  z46 := Tryz.sizeOf132
  v46 := Tryz.zeroValue132
  t53 := Tryz.underlying157
  a53 := Tryz.isAgg157
  z53 := Tryz.sizeOf157
  v53 := Tryz.zeroValue157
  t57 := Tryz.underlying161
  a57 := Tryz.isAgg161
  z57 := Tryz.sizeOf161
  v57 := Tryz.zeroValue161
  t63 := Tryz.underlying188
  a63 := Tryz.isAgg188
  z63 := Tryz.sizeOf188
  v63 := Tryz.zeroValue188
  t64 := Tryz.underlying189
  a64 := Tryz.isAgg189
  z64 := Tryz.sizeOf189
  v64 := Tryz.zeroValue189 }
theorem Tryz.keysS163 : KeysSays Tryz.prog 163 172 := by
  have h := keysSays_of Tryz.keys163
  exact h
theorem Tryz.sortS171 : SortISays Tryz.prog 171 := by
  have h := sortISays_of Tryz.sort171
  exact h
theorem Tryz.sorts162 (m : Nat) : AnyZI.SortsIn Tryz.prog Tryz.sorted162_ren Fence.wide m :=
  ⟨fun blk off cap ss W hH hblk hsz => callsIn_wide.2 (AnyM.slices_Sort_int Tryz.sort171 blk off cap ss W hH hblk hsz),
   fun p cap W => callsIn_wide.2 (AnyM.slices_Sort_int_none Tryz.sort171 p cap W)⟩
theorem Tryz.sortedS162_172 : SortedSays Tryz.prog 162 172 3 := by
  have h := sortedSays_of (ρk := Tryz.keys163_ren) (ρs := Tryz.sorted162_ren) { Tryz.keys163 with } Tryz.sorted162 (Tryz.sorts162 _) (enters_of Tryz.func171 (by kernel_rfl) rfl) (enters_of Tryz.func172 (by kernel_rfl) rfl)
  exact h
theorem Tryz.enters163 : Entered Tryz.prog 163 := ⟨_, _, Tryz.func163, by kernel_rfl, rfl⟩
theorem Tryz.enters171 : Entered Tryz.prog 171 := ⟨_, _, Tryz.func171, by kernel_rfl, rfl⟩
theorem Tryz.enters162 : Entered Tryz.prog 162 := ⟨_, _, Tryz.func162, by kernel_rfl, rfl⟩
end Go.Proofs
