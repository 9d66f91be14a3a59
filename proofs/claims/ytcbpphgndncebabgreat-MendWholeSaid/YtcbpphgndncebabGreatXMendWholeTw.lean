/- The plain programs with a bound on their rounds: what these say the others say, too. No condition. -/
import Derived.Test.YtcbpphgndncebabGreatXMendWholeSp
import Derived.Test.YtcbpphgndncebabGreatXMendWholeCatP6
namespace Go.Proofs
noncomputable section
set_option linter.all false
open Go Go.Cat
set_option maxRecDepth 100000
theorem eq_bytes_Clone (p_b : List UInt8) (h : p_b.length * 1 ≤ 140737488355328) : bytes_Clone p_b = some p_b := by
 unfold bytes_Clone
 refine Le0.clone fun b hb => ?_
 cases b with
 | true => rw [hb rfl]; rfl
 | false =>
  rw [if_neg (by decide)]
  show chk _ _ = _
  unfold chk
  rw [if_pos (by simpa using h)]; rfl
def sum_half_B2' (_n : Nat) (s2 : Int × Int) : Option ((Int × Int) ⊕ Int) := if (decide (s2.2 < 4)) then (sum_half_1 s2.1).bind fun x1 => chk (InI64 (s2.2 + 1)) (some (.inl (x1, (s2.2 + 1)))) else out (some s2.1)
theorem le_sum_half_B2 n s2 : Le0 (sum_half_B2' n s2) (sum_half_B2 s2) := by
 unfold sum_half_B2' sum_half_B2
 with_reducible repeat' first | refine B0 ?_ fun _ => ?_ | apply I0 | apply K0 | apply O0 | exact R0
def sum_half_L2' (n : Nat) (s2 : Int × Int) : Option Int := loopN (sum_half_B2' n ) n s2
theorem le_sum_half_L2 n s2 : Le0 (sum_half_L2' n s2) (sum_half_L2 s2) := Le0.loop (fun s => le_sum_half_B2 n  s) n s2
def sum_half_B1' (n : Nat) (s1 : Int × (List Int)) : Option ((Int × (List Int)) ⊕ (List Int)) := if (decide (s1.1 < 16)) then ((sum_half_L2' n ((IntKind.u32.wrap s1.1), 0)).bind fun v3 => (idx s1.2 s1.1).bind fun _ => chk (s1.1 < 16) (some (s1.2.set s1.1.toNat v3))).bind fun v2 => chk (InI64 (s1.1 + 1)) (some (.inl ((s1.1 + 1), v2))) else out (some s1.2)
theorem le_sum_half_B1 n s1 : Le0 (sum_half_B1' n s1) (sum_half_B1 s1) := by
 unfold sum_half_B1' sum_half_B1
 with_reducible repeat' first | apply le_sum_half_L2 | refine B0 ?_ fun _ => ?_ | apply I0 | apply K0 | apply O0 | exact R0
def sum_half_L1' (n : Nat) (s1 : Int × (List Int)) : Option (List Int) := loopN (sum_half_B1' n ) n s1
theorem le_sum_half_L1 n s1 : Le0 (sum_half_L1' n s1) (sum_half_L1 s1) := Le0.loop (fun s => le_sum_half_B1 n  s) n s1
def sum_half' (n : Nat) : Option (List Int) := (sum_half_L1' n (0, (List.replicate 16 0))).bind fun v1 => chk (v1.length = 16) (chk (v1.length = 16) (chk (v1.length = 16) (some v1)))
theorem le_sum_half n : Le0 (sum_half' n) sum_half := by
 unfold sum_half' sum_half
 with_reducible repeat' first | apply le_sum_half_L1 | refine B0 ?_ fun _ => ?_ | apply I0 | apply K0 | apply O0 | exact R0
theorem eq_slices_Clone_api_Page_api_Page (p_s : List api_Page) (h : p_s.length * 32 ≤ 140737488355328) : slices_Clone_api_Page_api_Page p_s = some p_s := by
 unfold slices_Clone_api_Page_api_Page
 refine Le0.clone fun b hb => ?_
 cases b with
 | true => rw [hb rfl]; rfl
 | false =>
  rw [if_neg (by decide)]
  show chk _ _ = _
  unfold chk
  rw [if_pos (by simpa using h)]; rfl
theorem eq_slices_Clone_api_Disk_api_Disk (p_s : List api_Disk) (h : p_s.length * 56 ≤ 140737488355328) : slices_Clone_api_Disk_api_Disk p_s = some p_s := by
 unfold slices_Clone_api_Disk_api_Disk
 refine Le0.clone fun b hb => ?_
 cases b with
 | true => rw [hb rfl]; rfl
 | false =>
  rw [if_neg (by decide)]
  show chk _ _ = _
  unfold chk
  rw [if_pos (by simpa using h)]; rfl
end
end Go.Proofs
