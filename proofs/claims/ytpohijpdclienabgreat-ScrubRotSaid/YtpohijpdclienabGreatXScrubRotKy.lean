/- The numbers of a map in order, as this translation holds the library. No condition. -/
import Derived.Test.YtpohijpdclienabGreatXScrubRotCatP6
import Derived.WalkKit
import Derived.TacticsInMore
import Derived.LoopNIn
import Derived.LoopIn
import Derived.Test.YtpohijpdclienabGreatXScrubRotTt
namespace Go.Proofs
set_option linter.all false
open Go.Shelf Go.Cat Go.RowKit Go.Maps Go.Sort
set_option linter.all false
set_option maxRecDepth 100000
attribute [local go_sem] Oper.semAt_some
def Tryz.keys71_ren : Go.Shelf.Ren := ⟨fun | 7 => 71 | 10 => 100 | n => n, fun | 23 => 121 | 26 => 3 | 3 => 74 | 28 => 91 | 0 => 0 | 27 => 90 | 33 => 112 | 4 => 4 | n => n, fun | n => n⟩
theorem Tryz.keys71 : Go.Proofs.SlLaysZI.n7 Tryz.prog Tryz.keys71_ren := {
  mixed := by kernel_rfl
  f7 := ⟨Tryz.f71.name, by decide, Tryz.func71.trans (congrArg some (by kernel_rfl))⟩
  f10 := ⟨Tryz.f100.name, by decide, Tryz.func100.trans (congrArg some (by kernel_rfl))⟩
  t0 := Tryz.underlying0
  a0 := Tryz.isAgg0
  z0 := Tryz.sizeOf0
  v0 := Tryz.zeroValue0
  t4 := Tryz.underlying4
  a4 := Tryz.isAgg4
  z4 := Tryz.sizeOf4
  v4 := Tryz.zeroValue4
  t23 := Tryz.underlying121
  a23 := Tryz.isAgg121
  z23 := Tryz.sizeOf121
  v23 := Tryz.zeroValue121
  t26 := Tryz.underlying3
  a26 := Tryz.isAgg3
  z26 := Tryz.sizeOf3
  v26 := Tryz.zeroValue3
  t27 := Tryz.underlying90
  a27 := Tryz.isAgg90
  z27 := Tryz.sizeOf90
  v27 := Tryz.zeroValue90
  t28 := Tryz.underlying91
  a28 := Tryz.isAgg91
  z28 := Tryz.sizeOf91
  v28 := Tryz.zeroValue91
  t33 := Tryz.underlying112
  a33 := Tryz.isAgg112
  z33 := Tryz.sizeOf112
  v33 := Tryz.zeroValue112 }
def Tryz.sorted46_ren : Go.Shelf.Ren := ⟨fun | 6 => 46 | 8 => 73 | 9 => 74 | 11 => 101 | 13 => 63 | 12 => 102 | 23 => 93 | 24 => 94 | 14 => 115 | 15 => 116 | 16 => 117 | 17 => 118 | 18 => 119 | 19 => 120 | 20 => 121 | 21 => 122 | 22 => 123 | 25 => 126 | 26 => 106 | 27 => 107 | 28 => 127 | 29 => 128 | 30 => 64 | 31 => 129 | n => n, fun | 26 => 3 | 28 => 91 | 24 => 25 | 0 => 0 | 3 => 3 | 37 => 111 | 48 => 98 | 50 => 143 | 4 => 4 | 40 => 135 | 39 => 134 | 45 => 139 | 5 => 5 | 9 => 9 | 51 => 154 | 55 => 158 | 57 => 175 | 58 => 176 | 33 => 112 | n => n, fun | n => n⟩
theorem Tryz.sorted46 : Go.Proofs.SlLaysZI.n6 Tryz.prog Tryz.sorted46_ren := {
  mixed := by kernel_rfl
  f6 := ⟨Tryz.f46.name, by decide, Tryz.func46.trans (congrArg some (by kernel_rfl))⟩
  f8 := ⟨Tryz.f73.name, by decide, Tryz.func73.trans (congrArg some (by kernel_rfl))⟩
  f11 := ⟨Tryz.f101.name, by decide, Tryz.func101.trans (congrArg some (by kernel_rfl))⟩
  t0 := Tryz.underlying0
  a0 := Tryz.isAgg0
  z0 := Tryz.sizeOf0
  v0 := Tryz.zeroValue0
  t24 := Tryz.underlying25
  a24 := Tryz.isAgg25
  z24 := Tryz.sizeOf25
  v24 := Tryz.zeroValue25
  t26 := Tryz.underlying3
  a26 := Tryz.isAgg3
  z26 := Tryz.sizeOf3
  v26 := Tryz.zeroValue3
  t28 := Tryz.underlying91
  a28 := Tryz.isAgg91
  z28 := Tryz.sizeOf91
  v28 := Tryz.zeroValue91
  i26 := by kernel_rfl }
def Tryz.sort74_ren : Go.Shelf.Ren := ⟨fun | 5 => 74 | 8 => 63 | 7 => 102 | 19 => 93 | 20 => 94 | 10 => 115 | 11 => 116 | 12 => 117 | 13 => 118 | 14 => 119 | 15 => 120 | 16 => 121 | 17 => 122 | 18 => 123 | 30 => 126 | 31 => 106 | 32 => 107 | 33 => 127 | 34 => 128 | 35 => 64 | 40 => 129 | n => n, fun | 23 => 25 | 25 => 3 | 3 => 3 | 32 => 111 | 22 => 25 | 0 => 0 | 44 => 98 | 46 => 143 | 4 => 4 | 36 => 135 | 35 => 134 | 41 => 139 | 5 => 5 | 9 => 9 | 53 => 154 | 57 => 158 | 63 => 175 | 64 => 176 | n => n, fun | n => n⟩
theorem Tryz.sort74 : Go.Proofs.SlLaysM.n5 Tryz.prog Tryz.sort74_ren := {
  mixed := by kernel_rfl
  f5 := ⟨Tryz.f74.name, by decide, Tryz.func74.trans (congrArg some (by kernel_rfl))⟩
  f7 := ⟨Tryz.f102.name, by decide, Tryz.func102.trans (congrArg some (by kernel_rfl))⟩
  f8 := Tryz.func63.trans (congrArg some (by kernel_rfl))
  f10 := ⟨Tryz.f115.name, by decide, Tryz.func115.trans (congrArg some (by kernel_rfl))⟩
  f11 := ⟨Tryz.f116.name, by decide, Tryz.func116.trans (congrArg some (by kernel_rfl))⟩
  f12 := ⟨Tryz.f117.name, by decide, Tryz.func117.trans (congrArg some (by kernel_rfl))⟩
  f13 := ⟨Tryz.f118.name, by decide, Tryz.func118.trans (congrArg some (by kernel_rfl))⟩
  f14 := ⟨Tryz.f119.name, by decide, Tryz.func119.trans (congrArg some (by kernel_rfl))⟩
  f15 := ⟨Tryz.f120.name, by decide, Tryz.func120.trans (congrArg some (by kernel_rfl))⟩
  f16 := ⟨Tryz.f121.name, by decide, Tryz.func121.trans (congrArg some (by kernel_rfl))⟩
  f17 := ⟨Tryz.f122.name, by decide, Tryz.func122.trans (congrArg some (by kernel_rfl))⟩
  f18 := ⟨Tryz.f123.name, by decide, Tryz.func123.trans (congrArg some (by kernel_rfl))⟩
  f19 := Tryz.func93.trans (congrArg some (by kernel_rfl))
  f20 := Tryz.func94.trans (congrArg some (by kernel_rfl))
  f30 := ⟨Tryz.f126.name, by decide, Tryz.func126.trans (congrArg some (by kernel_rfl))⟩
  f31 := Tryz.func106.trans (congrArg some (by kernel_rfl))
  f32 := Tryz.func107.trans (congrArg some (by kernel_rfl))
  f33 := ⟨Tryz.f127.name, by decide, Tryz.func127.trans (congrArg some (by kernel_rfl))⟩
  f34 := ⟨Tryz.f128.name, by decide, Tryz.func128.trans (congrArg some (by kernel_rfl))⟩
  f35 := ⟨Tryz.f64.name, by decide, Tryz.func64.trans (congrArg some (by kernel_rfl))⟩
  f40 := ⟨Tryz.f129.name, by decide, Tryz.func129.trans (congrArg some (by kernel_rfl))⟩
  t0 := Tryz.underlying0
  a0 := Tryz.isAgg0
  z0 := Tryz.sizeOf0
  v0 := Tryz.zeroValue0
  t3 := Tryz.underlying3
  a3 := Tryz.isAgg3
  z3 := Tryz.sizeOf3
  v3 := Tryz.zeroValue3
  t4 := Tryz.underlying4
  a4 := Tryz.isAgg4
  z4 := Tryz.sizeOf4
  v4 := Tryz.zeroValue4
  t5 := Tryz.underlying5
  a5 := Tryz.isAgg5
  z5 := Tryz.sizeOf5
  v5 := Tryz.zeroValue5
  t9 := Tryz.underlying9
  a9 := Tryz.isAgg9
  z9 := Tryz.sizeOf9
  v9 := Tryz.zeroValue9
  t22 := Tryz.underlying25
  a22 := Tryz.isAgg25
  z22 := Tryz.sizeOf25
  v22 := Tryz.zeroValue25
  t23 := Tryz.underlying25
  a23 := Tryz.isAgg25
  z23 := Tryz.sizeOf25
  v23 := Tryz.zeroValue25
  t25 := Tryz.underlying3
  a25 := Tryz.isAgg3
  z25 := Tryz.sizeOf3
  v25 := Tryz.zeroValue3
  t32 := Tryz.underlying111
  a32 := Tryz.isAgg111
  z32 := Tryz.sizeOf111
  v32 := Tryz.zeroValue111
  t35 := Tryz.underlying134
  a35 := Tryz.isAgg134
  z35 := Tryz.sizeOf134
  v35 := Tryz.zeroValue134
  t36 := Tryz.underlying135
  a36 := Tryz.isAgg135
  z36 := Tryz.sizeOf135
  v36 := Tryz.zeroValue135
  t41 := Tryz.underlying139
  a41 := Tryz.isAgg139
  z41 := Tryz.sizeOf139
  v41 := Tryz.zeroValue139
  t44 := Tryz.underlying98
  a44 := Tryz.isAgg98
  z44 := Tryz.sizeOf98
  v44 := Tryz.zeroValue98
  t46 := Tryz.underlying143
  a46 := Tryz.isAgg143
  z46 := Tryz.sizeOf143
  v46 := Tryz.zeroValue143
  t53 := Tryz.underlying154
  a53 := Tryz.isAgg154
  z53 := Tryz.sizeOf154
  v53 := Tryz.zeroValue154
  t57 := Tryz.underlying158
  a57 := Tryz.isAgg158
  z57 := Tryz.sizeOf158
  v57 := Tryz.zeroValue158
  t63 := Tryz.underlying175
  a63 := Tryz.isAgg175
  z63 := Tryz.sizeOf175
  v63 := Tryz.zeroValue175
  t64 := Tryz.underlying176
  a64 := Tryz.isAgg176
  z64 := Tryz.sizeOf176
  v64 := Tryz.zeroValue176 }
theorem Tryz.keysS71 : KeysSays Tryz.prog 71 100 := by
  have h := keysSays_of Tryz.keys71
  exact h
theorem Tryz.sortS74 : SortISays Tryz.prog 74 := by
  have h := sortISays_of Tryz.sort74
  exact h
theorem Tryz.sorts46 (m : Nat) : AnyZI.SortsIn Tryz.prog Tryz.sorted46_ren Fence.wide m :=
  ⟨fun blk off cap ss W hH hblk hsz => callsIn_wide.2 (AnyM.slices_Sort_int Tryz.sort74 blk off cap ss W hH hblk hsz),
   fun p cap W => callsIn_wide.2 (AnyM.slices_Sort_int_none Tryz.sort74 p cap W)⟩
theorem Tryz.sortedS46_100 : SortedSays Tryz.prog 46 100 3 := by
  have h := sortedSays_of (ρk := Tryz.keys71_ren) (ρs := Tryz.sorted46_ren) { Tryz.keys71 with } Tryz.sorted46 (Tryz.sorts46 _) (enters_of Tryz.func74 (by kernel_rfl) rfl) (enters_of Tryz.func100 (by kernel_rfl) rfl)
  exact h
set_option maxRecDepth 100000 in
set_option maxHeartbeats 2000000 in
/-- The closure of slices.Values: lines of the kit's worked proof of this function, turned to this translation. -/
theorem Tryz.vals75_in (F : Fence) (n : Nat) (h7 : F.fn 75) (hro : F.round = none) (hn : 1 ≤ n) (l Bs n₀ b off len cap : Nat) (zs : List Int) (hreach : len * 8 ≤ 140737488351232) (hb : b < n₀) (J Jx : List Int → World → Prop)
    (hY : ∀ pre x W, J pre W → pre.length < len → YieldAt F (n - 1) Tryz.prog l #[.int .i64 x] W fun e W' =>
      (e = .returned (.bool true) ∧ J (pre ++ [x]) W' ∧ Go.RowKit.Below n₀ W W') ∨ (e = .returned (.bool false) ∧ Jx (pre ++ [x]) W'))
    (W : World) (hBs : W.cell? ⟨Bs, 0, none⟩ = some (.slice (some ⟨b, off, none⟩) len cap)) (hc : ∀ j, j < len → W.cell? ⟨b, off + j, none⟩ = some (.int .i64 (zs[j]?.getD 0))) (h0 : J [] W) :
    CallsIn F n Tryz.prog 75 #[.func (.yield l) #[] #[], .pointer (some ⟨Bs, 0, none⟩)] W fun e W' => (∃ v, e = .returned v) ∧
      ((∃ ys, ys = (List.range len).map (fun j => zs[j]?.getD 0) ∧ J ys W') ∨ (∃ pre, (∃ k, k ≤ len ∧ pre = (List.range k).map (fun j => zs[j]?.getD 0)) ∧ Jx pre W')) := by
  have us : ∀ k, (List.range (k + 1)).map (fun j => zs[j]?.getD 0) = (List.range k).map (fun j => zs[j]?.getD 0) ++ [zs[k]?.getD 0] := fun k => by simp [List.range_succ]
  refine callsIn_of_wp Tryz.func75 rfl h7 ?_ hro
  simp only [Tryz.ntmps75, List.size_toArray, List.length_cons, List.length_nil, Nat.reduceAdd, Nat.reduceSub, Array.replicate_succ, Array.replicate_zero, List.push_toArray, List.append_toArray, List.nil_append, List.cons_append]
  gi_wp2
  gi_loopw [7] (fun i wr => ∃ k : Nat, k ≤ len ∧ i = .int .i64 k ∧ J ((List.range k).map (fun j => zs[j]?.getD 0)) wr ∧ Go.RowKit.Below n₀ W wr)
    (fun i _ => len - (intOf i).toNat)
  case atStart => exact ⟨0, Nat.zero_le _, rfl, h0, Go.RowKit.Below.refl _ _⟩
  case round =>
    obtain ⟨k, hk, rfl, hJs, hnx⟩ := hrel
    have hcx : k < len → wr.cell? ⟨b, off + k, none⟩ = some (.int .i64 (zs[k]?.getD 0)) := fun h => (hnx.cell (p := ⟨b, off + k, none⟩) hb).trans (hc k h)
    by_cases hlt : k < len
    · obtain ⟨fn, tmps, assign, body, hy, hR⟩ := hY _ (zs[k]?.getD 0) wr hJs (by rw [List.length_map, List.length_range]; exact hlt)
      have hcx' := hcx hlt
      gi_wp2
      refine hR.mono ?_
      rintro e W3 (⟨rfl, hJ3, hk3⟩ | ⟨rfl, hJx3⟩)
      · gi_wp2
        go_roundw
        case rel => exact ⟨k + 1, by omega, by simp, by rw [us]; exact hJ3, hnx.trans hk3⟩
        case measure => simp [intOf]; omega
      · gi_wp2
        refine bodyPost_ret (results_none rfl _ _ _) rfl ?_
        exact ⟨⟨_, rfl⟩, .inr ⟨_, ⟨k + 1, by omega, (us _).symm⟩, hJx3⟩⟩
    · obtain rfl : k = len := by omega
      gi_wp2
      go_end0
      exact ⟨⟨_, rfl⟩, .inl ⟨_, rfl, hJs⟩⟩
set_option maxRecDepth 100000 in
set_option maxHeartbeats 1000000 in
theorem Tryz.vals75_nil (F : Fence) (n : Nat) (h7 : F.fn 75) (hro : F.round = none) (l Bs : Nat) (a : Option Addr) (cap : Nat) (J : List Int → World → Prop) (W : World) (hBs : W.cell? ⟨Bs, 0, none⟩ = some (.slice a 0 cap)) (h0 : J [] W) :
    CallsIn F n Tryz.prog 75 #[.func (.yield l) #[] #[], .pointer (some ⟨Bs, 0, none⟩)] W fun e W' => (∃ v, e = .returned v) ∧ J [] W' := by
  refine callsIn_of_wp Tryz.func75 rfl h7 ?_ hro
  simp only [Tryz.ntmps75, List.size_toArray, List.length_cons, List.length_nil, Nat.reduceAdd, Nat.reduceSub, Array.replicate_succ, Array.replicate_zero, List.push_toArray, List.append_toArray, List.nil_append, List.cons_append]
  gi_wp2
  gi_loopw [7] (fun i wr => i = .int .i64 0 ∧ J [] wr) (fun _ _ => 0)
  case atStart => exact ⟨rfl, h0⟩
  case round =>
    obtain ⟨rfl, hJs⟩ := hrel
    gi_wp2
    go_end0
    exact ⟨⟨_, rfl⟩, hJs⟩
theorem Tryz.vals75 : ValsStops Tryz.prog 75 := fun Bs sv zs w hr hBs hc hI l J Jx W hW _ _ hY h0 => by
  have hc' := (hW.cell (p := ⟨Bs, 0, none⟩) hBs).trans hc
  rcases hI with ⟨a, c, rfl, rfl⟩ | ⟨b, off, cap, rfl, hb, hcs⟩
  · exact (Tryz.vals75_nil Fence.wide 2 trivial rfl l Bs a c J W hc' h0).mono fun e W' ⟨he, hj⟩ => ⟨he, .inl ⟨_, rfl, hj⟩⟩
  · refine (Tryz.vals75_in Fence.wide 2 trivial rfl (by omega) l Bs w.heap.size b off zs.length cap zs hr hb J Jx hY W hc' (fun j hj => (hW.cell (p := ⟨b, off + j, none⟩) hb).trans (hcs j hj)) h0).mono ?_
    have ut : ∀ k, k ≤ zs.length → (List.range k).map (fun j => zs[j]?.getD 0) = zs.take k := fun k hk => by
      apply List.ext_getElem
      · simp [hk]
      · intro i h1 h2
        have : i < zs.length := by simp at h1; omega
        simp [this]
    rintro e W' ⟨he, ⟨ys, rfl, hj⟩ | ⟨pre, ⟨k, hk, rfl⟩, hj⟩⟩
    · exact ⟨he, .inl ⟨_, by rw [ut _ (Nat.le_refl _), List.take_length], hj⟩⟩
    · exact ⟨he, .inr ⟨_, by rw [ut _ hk]; exact List.take_prefix _ _, hj⟩⟩
theorem Tryz.sortedV46_75 : SortedVals Tryz.prog 46 75 3 := by
  have h := sortedVals_of (ρs := Tryz.sorted46_ren) Tryz.sorted46 (Tryz.sorts46 _) (enters_of Tryz.func74 (by kernel_rfl) rfl) (enters_of Tryz.func75 (by kernel_rfl) rfl) Tryz.vals75
  exact h
theorem Tryz.enters71 : Entered Tryz.prog 71 := ⟨_, _, Tryz.func71, by kernel_rfl, rfl⟩
theorem Tryz.enters74 : Entered Tryz.prog 74 := ⟨_, _, Tryz.func74, by kernel_rfl, rfl⟩
theorem Tryz.enters46 : Entered Tryz.prog 46 := ⟨_, _, Tryz.func46, by kernel_rfl, rfl⟩
end Go.Proofs
