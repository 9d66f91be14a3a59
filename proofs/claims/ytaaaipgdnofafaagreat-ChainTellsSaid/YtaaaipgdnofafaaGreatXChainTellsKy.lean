/- The numbers of a map in order, as this translation holds the library. No condition. -/
import Derived.Test.YtaaaipgdnofafaaGreatXChainTellsCatP6
import Derived.Test.YtaaaipgdnofafaaGreatXChainTellsTt
namespace Go.Proofs
set_option linter.all false
open Go.Shelf Go.Cat Go.RowKit Go.Maps Go.Sort
set_option linter.all false
set_option maxRecDepth 100000
attribute [local go_sem] Oper.semAt_some
def Tryz.keys104_ren : Go.Shelf.Ren := ⟨fun | 7 => 104 | 10 => 130 | n => n, fun | 23 => 126 | 26 => 3 | 3 => 110 | 28 => 130 | 0 => 0 | 27 => 129 | 33 => 69 | 4 => 4 | n => n, fun | n => n⟩
theorem Tryz.keys104 : Go.Proofs.SlLaysZI.n7 Tryz.prog Tryz.keys104_ren := {
  mixed := by kernel_rfl
  f7 := ⟨Tryz.f104.name, by decide, Tryz.func104.trans (congrArg some (by kernel_rfl))⟩
  f10 := ⟨Tryz.f130.name, by decide, Tryz.func130.trans (congrArg some (by kernel_rfl))⟩
  t0 := Tryz.underlying0
  a0 := Tryz.isAgg0
  z0 := Tryz.sizeOf0
  v0 := Tryz.zeroValue0
  t4 := Tryz.underlying4
  a4 := Tryz.isAgg4
  z4 := Tryz.sizeOf4
  v4 := Tryz.zeroValue4
  t23 := Tryz.underlying126
  a23 := Tryz.isAgg126
  z23 := Tryz.sizeOf126
  v23 := Tryz.zeroValue126
  t26 := Tryz.underlying3
  a26 := Tryz.isAgg3
  z26 := Tryz.sizeOf3
  v26 := Tryz.zeroValue3
  t27 := Tryz.underlying129
  a27 := Tryz.isAgg129
  z27 := Tryz.sizeOf129
  v27 := Tryz.zeroValue129
  t28 := Tryz.underlying130
  a28 := Tryz.isAgg130
  z28 := Tryz.sizeOf130
  v28 := Tryz.zeroValue130
  t33 := Tryz.underlying69
  a33 := Tryz.isAgg69
  z33 := Tryz.sizeOf69
  v33 := Tryz.zeroValue69 }
def Tryz.sorted103_ren : Go.Shelf.Ren := ⟨fun | 6 => 103 | 8 => 128 | 9 => 129 | 11 => 137 | 13 => 139 | 12 => 138 | 23 => 149 | 24 => 150 | 14 => 140 | 15 => 141 | 16 => 142 | 17 => 143 | 18 => 144 | 19 => 145 | 20 => 146 | 21 => 147 | 22 => 148 | 25 => 151 | 26 => 152 | 27 => 153 | 28 => 154 | 29 => 155 | 30 => 156 | 31 => 157 | n => n, fun | 26 => 3 | 28 => 130 | 24 => 22 | 0 => 0 | 3 => 3 | 37 => 151 | 48 => 136 | 50 => 150 | 4 => 4 | 40 => 166 | 39 => 165 | 45 => 171 | 5 => 5 | 9 => 9 | 51 => 174 | 55 => 178 | 57 => 180 | 58 => 181 | 33 => 69 | n => n, fun | n => n⟩
theorem Tryz.sorted103 : Go.Proofs.SlLaysZI.n6 Tryz.prog Tryz.sorted103_ren := {
  mixed := by kernel_rfl
  f6 := ⟨Tryz.f103.name, by decide, Tryz.func103.trans (congrArg some (by kernel_rfl))⟩
  f8 := ⟨Tryz.f128.name, by decide, Tryz.func128.trans (congrArg some (by kernel_rfl))⟩
  f11 := ⟨Tryz.f137.name, by decide, Tryz.func137.trans (congrArg some (by kernel_rfl))⟩
  t0 := Tryz.underlying0
  a0 := Tryz.isAgg0
  z0 := Tryz.sizeOf0
  v0 := Tryz.zeroValue0
  t24 := Tryz.underlying22
  a24 := Tryz.isAgg22
  z24 := Tryz.sizeOf22
  v24 := Tryz.zeroValue22
  t26 := Tryz.underlying3
  a26 := Tryz.isAgg3
  z26 := Tryz.sizeOf3
  v26 := Tryz.zeroValue3
  t28 := Tryz.underlying130
  a28 := Tryz.isAgg130
  z28 := Tryz.sizeOf130
  v28 := Tryz.zeroValue130
  i26 := by kernel_rfl }
def Tryz.sort129_ren : Go.Shelf.Ren := ⟨fun | 5 => 129 | 8 => 139 | 7 => 138 | 19 => 149 | 20 => 150 | 10 => 140 | 11 => 141 | 12 => 142 | 13 => 143 | 14 => 144 | 15 => 145 | 16 => 146 | 17 => 147 | 18 => 148 | 30 => 151 | 31 => 152 | 32 => 153 | 33 => 154 | 34 => 155 | 35 => 156 | 40 => 157 | n => n, fun | 23 => 22 | 25 => 3 | 3 => 3 | 32 => 151 | 22 => 22 | 0 => 0 | 44 => 136 | 46 => 150 | 4 => 4 | 36 => 166 | 35 => 165 | 41 => 171 | 5 => 5 | 9 => 9 | 53 => 174 | 57 => 178 | 63 => 180 | 64 => 181 | n => n, fun | n => n⟩
theorem Tryz.sort129 : Go.Proofs.SlLaysM.n5 Tryz.prog Tryz.sort129_ren := {
  mixed := by kernel_rfl
  f5 := ⟨Tryz.f129.name, by decide, Tryz.func129.trans (congrArg some (by kernel_rfl))⟩
  f7 := ⟨Tryz.f138.name, by decide, Tryz.func138.trans (congrArg some (by kernel_rfl))⟩
  f8 := Tryz.func139.trans (congrArg some (by kernel_rfl))
  f10 := ⟨Tryz.f140.name, by decide, Tryz.func140.trans (congrArg some (by kernel_rfl))⟩
  f11 := ⟨Tryz.f141.name, by decide, Tryz.func141.trans (congrArg some (by kernel_rfl))⟩
  f12 := ⟨Tryz.f142.name, by decide, Tryz.func142.trans (congrArg some (by kernel_rfl))⟩
  f13 := ⟨Tryz.f143.name, by decide, Tryz.func143.trans (congrArg some (by kernel_rfl))⟩
  f14 := ⟨Tryz.f144.name, by decide, Tryz.func144.trans (congrArg some (by kernel_rfl))⟩
  f15 := ⟨Tryz.f145.name, by decide, Tryz.func145.trans (congrArg some (by kernel_rfl))⟩
  f16 := ⟨Tryz.f146.name, by decide, Tryz.func146.trans (congrArg some (by kernel_rfl))⟩
  f17 := ⟨Tryz.f147.name, by decide, Tryz.func147.trans (congrArg some (by kernel_rfl))⟩
  f18 := ⟨Tryz.f148.name, by decide, Tryz.func148.trans (congrArg some (by kernel_rfl))⟩
  f19 := Tryz.func149.trans (congrArg some (by kernel_rfl))
  f20 := Tryz.func150.trans (congrArg some (by kernel_rfl))
  f30 := ⟨Tryz.f151.name, by decide, Tryz.func151.trans (congrArg some (by kernel_rfl))⟩
  f31 := Tryz.func152.trans (congrArg some (by kernel_rfl))
  f32 := Tryz.func153.trans (congrArg some (by kernel_rfl))
  f33 := ⟨Tryz.f154.name, by decide, Tryz.func154.trans (congrArg some (by kernel_rfl))⟩
  f34 := ⟨Tryz.f155.name, by decide, Tryz.func155.trans (congrArg some (by kernel_rfl))⟩
  f35 := ⟨Tryz.f156.name, by decide, Tryz.func156.trans (congrArg some (by kernel_rfl))⟩
  f40 := ⟨Tryz.f157.name, by decide, Tryz.func157.trans (congrArg some (by kernel_rfl))⟩
  t0 := Tryz.underlying0
  a0 := Tryz.isAgg0
  z0 := Tryz.sizeOf0
  v0 := Tryz.zeroValue0
  t3 := Tryz.underlying3
  a3 := Tryz.isAgg3
  z3 := Tryz.sizeOf3
  v3 := Tryz.zeroValue3
  t4 := Tryz.underlying4
  a4 := Tryz.isAgg4
  z4 := Tryz.sizeOf4
  v4 := Tryz.zeroValue4
  t5 := Tryz.underlying5
  a5 := Tryz.isAgg5
  z5 := Tryz.sizeOf5
  v5 := Tryz.zeroValue5
  t9 := Tryz.underlying9
  a9 := Tryz.isAgg9
  z9 := Tryz.sizeOf9
  v9 := Tryz.zeroValue9
  t22 := Tryz.underlying22
  a22 := Tryz.isAgg22
  z22 := Tryz.sizeOf22
  v22 := Tryz.zeroValue22
  t23 := Tryz.underlying22
  a23 := Tryz.isAgg22
  z23 := Tryz.sizeOf22
  v23 := Tryz.zeroValue22
  t25 := Tryz.underlying3
  a25 := Tryz.isAgg3
  z25 := Tryz.sizeOf3
  v25 := Tryz.zeroValue3
  t32 := Tryz.underlying151
  a32 := Tryz.isAgg151
  z32 := Tryz.sizeOf151
  v32 := Tryz.zeroValue151
  t35 := Tryz.underlying165
  a35 := Tryz.isAgg165
  z35 := Tryz.sizeOf165
  v35 := Tryz.zeroValue165
  t36 := Tryz.underlying166
  a36 := Tryz.isAgg166
  z36 := Tryz.sizeOf166
  v36 := Tryz.zeroValue166
  t41 := Tryz.underlying171
  a41 := Tryz.isAgg171
  z41 := Tryz.sizeOf171
  v41 := Tryz.zeroValue171
  t44 := Tryz.underlying136
  a44 := Tryz.isAgg136
  z44 := Tryz.sizeOf136
  v44 := Tryz.zeroValue136
  t46 := Tryz.underlying150
  a46 := Tryz.isAgg150
  z46 := Tryz.sizeOf150
  v46 := Tryz.zeroValue150
  t53 := Tryz.underlying174
  a53 := Tryz.isAgg174
  z53 := Tryz.sizeOf174
  v53 := Tryz.zeroValue174
  t57 := Tryz.underlying178
  a57 := Tryz.isAgg178
  z57 := Tryz.sizeOf178
  v57 := Tryz.zeroValue178
  t63 := Tryz.underlying180
  a63 := Tryz.isAgg180
  z63 := Tryz.sizeOf180
  v63 := Tryz.zeroValue180
  t64 := Tryz.underlying181
  a64 := Tryz.isAgg181
  z64 := Tryz.sizeOf181
  v64 := Tryz.zeroValue181 }
theorem Tryz.keysS104 : KeysSays Tryz.prog 104 130 := by
  have h := keysSays_of Tryz.keys104
  exact h
theorem Tryz.sortS129 : SortISays Tryz.prog 129 := by
  have h := sortISays_of Tryz.sort129
  exact h
theorem Tryz.sorts103 (m : Nat) : AnyZI.SortsIn Tryz.prog Tryz.sorted103_ren Fence.wide m :=
  ⟨fun blk off cap ss W hH hblk hsz => callsIn_wide.2 (AnyM.slices_Sort_int Tryz.sort129 blk off cap ss W hH hblk hsz),
   fun p cap W => callsIn_wide.2 (AnyM.slices_Sort_int_none Tryz.sort129 p cap W)⟩
theorem Tryz.sortedS103_130 : SortedSays Tryz.prog 103 130 3 := by
  have h := sortedSays_of (ρk := Tryz.keys104_ren) (ρs := Tryz.sorted103_ren) { Tryz.keys104 with } Tryz.sorted103 (Tryz.sorts103 _) (enters_of Tryz.func129 (by kernel_rfl) rfl) (enters_of Tryz.func130 (by kernel_rfl) rfl)
  exact h
theorem Tryz.enters104 : Entered Tryz.prog 104 := ⟨_, _, Tryz.func104, by kernel_rfl, rfl⟩
theorem Tryz.enters129 : Entered Tryz.prog 129 := ⟨_, _, Tryz.func129, by kernel_rfl, rfl⟩
theorem Tryz.enters103 : Entered Tryz.prog 103 := ⟨_, _, Tryz.func103, by kernel_rfl, rfl⟩
end Go.Proofs
