/- The plain programs with a bound on their rounds: what these say the others say, too. No condition. -/
import Derived.Test.YtlhgbjgfnihijaaXDiskTellsSp
namespace Go.Proofs
set_option linter.all false
open Go Go.Cat
set_option maxRecDepth 100000

def disk_New' (_n : Nat) : Option api_Disk := some ((⟨[], [], false⟩ : api_Disk))

theorem le_disk_New (n : Nat) : Le0 (disk_New' n) (disk_New) := by
  unfold disk_New' disk_New
  repeat' (first | with_reducible refine Le0.bind ?_ (fun _ => ?_) | with_reducible refine Le0.ite ?_ ?_ | with_reducible refine Le0.chk ?_ | with_reducible refine Le0.out ?_ | with_reducible exact Le0.refl _)

def disk_may' (_n : Nat) (p_at : Int) (p_data : List UInt8) : Option Bool := ((if (decide (p_at ≥ 0)) then some ((decide (p_at < 1000))) else some false).bind fun c1 => (if c1 then some ((decide ((p_data.length : Int) ≤ 200))) else some false).bind fun c2 => some c2).bind fun v1 => some v1

theorem le_disk_may (n : Nat) (p_at : Int) (p_data : List UInt8) : Le0 (disk_may' n p_at p_data) (disk_may p_at p_data) := by
  unfold disk_may' disk_may
  repeat' (first | with_reducible refine Le0.bind ?_ (fun _ => ?_) | with_reducible refine Le0.ite ?_ ?_ | with_reducible refine Le0.chk ?_ | with_reducible refine Le0.out ?_ | with_reducible exact Le0.refl _)

def slices_Clone_api_Page_api_Page' (_n : Nat) (p_s : List api_Page) : Option ((List api_Page)) := chk (p_s.length * 32 ≤ 140737488355328) (some p_s)

theorem eq_slices_Clone_api_Page_api_Page (p_s : List api_Page) (h : p_s.length * 32 ≤ 140737488355328) : slices_Clone_api_Page_api_Page p_s = some p_s := by
  unfold slices_Clone_api_Page_api_Page
  refine Le0.clone fun b hb => ?_
  cases b with
  | true => rw [hb rfl]; rfl
  | false =>
    rw [if_neg (by decide)]
    show chk _ _ = _
    unfold chk
    rw [if_pos (by simpa using h)]; rfl

theorem le_slices_Clone_api_Page_api_Page (n : Nat) (p_s : List api_Page) : Le0 (slices_Clone_api_Page_api_Page' n p_s) (slices_Clone_api_Page_api_Page p_s) := fun r hr => by
  obtain ⟨h1, h2⟩ := chk_some hr
  cases h2
  exact eq_slices_Clone_api_Page_api_Page _ h1

def bytes_Clone' (_n : Nat) (p_b : List UInt8) : Option ((List UInt8)) := chk (p_b.length * 1 ≤ 140737488355328) (some p_b)

theorem eq_bytes_Clone (p_b : List UInt8) (h : p_b.length * 1 ≤ 140737488355328) : bytes_Clone p_b = some p_b := by
  unfold bytes_Clone
  refine Le0.clone fun b hb => ?_
  cases b with
  | true => rw [hb rfl]; rfl
  | false =>
    rw [if_neg (by decide)]
    show chk _ _ = _
    unfold chk
    rw [if_pos (by simpa using h)]; rfl

theorem le_bytes_Clone (n : Nat) (p_b : List UInt8) : Le0 (bytes_Clone' n p_b) (bytes_Clone p_b) := fun r hr => by
  obtain ⟨h1, h2⟩ := chk_some hr
  cases h2
  exact eq_bytes_Clone _ h1

def disk_Write' (n : Nat) (p_d : api_Disk) (p_at : Int) (p_data : List UInt8) : Option (api_Disk × Int) := if p_d.Down then some ((p_d, 40)) else (disk_may' n p_at p_data).bind fun x1 => if (!x1) then some ((p_d, 1)) else (slices_Clone_api_Page_api_Page' n p_d.Loose).bind fun x2 => (bytes_Clone' n p_data).bind fun x3 => chk ((x2.length + ([(⟨p_at, x3⟩ : api_Page)]).length) * 32 ≤ 140737488355328) (some (((⟨p_d.Synced, (x2 ++ [(⟨p_at, x3⟩ : api_Page)]), p_d.Down⟩ : api_Disk), 0)))

theorem le_disk_Write (n : Nat) (p_d : api_Disk) (p_at : Int) (p_data : List UInt8) : Le0 (disk_Write' n p_d p_at p_data) (disk_Write p_d p_at p_data) := by
  unfold disk_Write' disk_Write
  repeat' (first | with_reducible apply le_disk_may | with_reducible apply le_slices_Clone_api_Page_api_Page | with_reducible apply le_bytes_Clone | with_reducible refine Le0.bind ?_ (fun _ => ?_) | with_reducible refine Le0.ite ?_ ?_ | with_reducible refine Le0.chk ?_ | with_reducible refine Le0.out ?_ | with_reducible exact Le0.refl _)

def slices_Grow_api_Page_api_Page__nil' (_n : Nat) (p_n : Int) : Option ((List api_Page)) := (if (decide (p_n < 0)) then none else some (())).bind fun _ => (chk (InI64 (p_n - 0)) (if (decide ((p_n - 0) > 0)) then chk ((0 : Int) ≤ (p_n - 0) ∧ ((p_n - 0)).toNat * 32 ≤ 140737488355328) (chk ((0 : Int) ≤ 0 ∧ 0 ≤ (((List.replicate ((p_n - 0)).toNat (((⟨0, []⟩ : api_Page) : api_Page)))).length : Int)) (some ((((List.replicate ((p_n - 0)).toNat (((⟨0, []⟩ : api_Page) : api_Page)))).take (0 : Int).toNat)))) else some ([]))).bind fun v2 => some v2

theorem le_slices_Grow_api_Page_api_Page__nil (n : Nat) (p_n : Int) : Le0 (slices_Grow_api_Page_api_Page__nil' n p_n) (slices_Grow_api_Page_api_Page__nil p_n) := by
  unfold slices_Grow_api_Page_api_Page__nil' slices_Grow_api_Page_api_Page__nil
  repeat' (first | with_reducible refine Le0.bind ?_ (fun _ => ?_) | with_reducible refine Le0.ite ?_ ?_ | with_reducible refine Le0.chk ?_ | with_reducible refine Le0.out ?_ | with_reducible exact Le0.refl _)

def slices_Concat_api_Page_api_Page_B1' (_n : Nat) (p_slices : List (List api_Page)) (s1 : Int × Int) : Option ((Int × Int) ⊕ Int) := if (decide (s1.2 < (p_slices.length : Int))) then ((idx p_slices s1.2).bind fun x1 => chk (InI64 (s1.1 + (x1.length : Int))) (if (decide ((s1.1 + (x1.length : Int)) < 0)) then none else some ((s1.1 + (x1.length : Int))))).bind fun v2 => chk (InI64 (s1.2 + 1)) (some (.inl ((v2, (s1.2 + 1))))) else out (some s1.1)

theorem le_slices_Concat_api_Page_api_Page_B1 (n : Nat) (p_slices : List (List api_Page)) (s1 : Int × Int) : Le0 (slices_Concat_api_Page_api_Page_B1' n p_slices s1) (slices_Concat_api_Page_api_Page_B1 p_slices s1) := by
  unfold slices_Concat_api_Page_api_Page_B1' slices_Concat_api_Page_api_Page_B1
  repeat' (first | with_reducible refine Le0.bind ?_ (fun _ => ?_) | with_reducible refine Le0.ite ?_ ?_ | with_reducible refine Le0.chk ?_ | with_reducible refine Le0.out ?_ | with_reducible exact Le0.refl _)

def slices_Concat_api_Page_api_Page_L1' (n : Nat) (p_slices : List (List api_Page)) (s1 : Int × Int) : Option Int := loopN (slices_Concat_api_Page_api_Page_B1' n p_slices) n s1

theorem le_slices_Concat_api_Page_api_Page_L1 (n : Nat) (p_slices : List (List api_Page)) (s1 : Int × Int) : Le0 (slices_Concat_api_Page_api_Page_L1' n p_slices s1) (slices_Concat_api_Page_api_Page_L1 p_slices s1) := Le0.loop (fun s => le_slices_Concat_api_Page_api_Page_B1 n p_slices s) n s1

def slices_Concat_api_Page_api_Page_B2' (_n : Nat) (p_slices : List (List api_Page)) (s2 : Int × (List api_Page)) : Option ((Int × (List api_Page)) ⊕ ((List api_Page))) := if (decide (s2.1 < (p_slices.length : Int))) then (idx p_slices s2.1).bind fun x3 => chk ((s2.2.length + x3.length) * 32 ≤ 140737488355328) (chk (InI64 (s2.1 + 1)) (some (.inl (((s2.1 + 1), (s2.2 ++ x3)))))) else out (some s2.2)

theorem le_slices_Concat_api_Page_api_Page_B2 (n : Nat) (p_slices : List (List api_Page)) (s2 : Int × (List api_Page)) : Le0 (slices_Concat_api_Page_api_Page_B2' n p_slices s2) (slices_Concat_api_Page_api_Page_B2 p_slices s2) := by
  unfold slices_Concat_api_Page_api_Page_B2' slices_Concat_api_Page_api_Page_B2
  repeat' (first | with_reducible refine Le0.bind ?_ (fun _ => ?_) | with_reducible refine Le0.ite ?_ ?_ | with_reducible refine Le0.chk ?_ | with_reducible refine Le0.out ?_ | with_reducible exact Le0.refl _)

def slices_Concat_api_Page_api_Page_L2' (n : Nat) (p_slices : List (List api_Page)) (s2 : Int × (List api_Page)) : Option ((List api_Page)) := loopN (slices_Concat_api_Page_api_Page_B2' n p_slices) n s2

theorem le_slices_Concat_api_Page_api_Page_L2 (n : Nat) (p_slices : List (List api_Page)) (s2 : Int × (List api_Page)) : Le0 (slices_Concat_api_Page_api_Page_L2' n p_slices s2) (slices_Concat_api_Page_api_Page_L2 p_slices s2) := Le0.loop (fun s => le_slices_Concat_api_Page_api_Page_B2 n p_slices s) n s2

def slices_Concat_api_Page_api_Page' (n : Nat) (p_slices : List (List api_Page)) : Option ((List api_Page)) := (slices_Concat_api_Page_api_Page_L1' n p_slices ((0, 0))).bind fun v1 => (slices_Grow_api_Page_api_Page__nil' n v1).bind fun x2 => (slices_Concat_api_Page_api_Page_L2' n p_slices ((0, x2))).bind fun v3 => some v3

theorem le_slices_Concat_api_Page_api_Page (n : Nat) (p_slices : List (List api_Page)) : Le0 (slices_Concat_api_Page_api_Page' n p_slices) (slices_Concat_api_Page_api_Page p_slices) := by
  unfold slices_Concat_api_Page_api_Page' slices_Concat_api_Page_api_Page
  repeat' (first | with_reducible apply le_slices_Concat_api_Page_api_Page_L1 | with_reducible apply le_slices_Grow_api_Page_api_Page__nil | with_reducible apply le_slices_Concat_api_Page_api_Page_L2 | with_reducible refine Le0.bind ?_ (fun _ => ?_) | with_reducible refine Le0.ite ?_ ?_ | with_reducible refine Le0.chk ?_ | with_reducible refine Le0.out ?_ | with_reducible exact Le0.refl _)

def slices_Reverse_api_Page_api_Page_B1' (_n : Nat) (s1 : Int × Int × (List api_Page)) : Option ((Int × Int × (List api_Page)) ⊕ (Unit × List api_Page)) := if (decide (s1.1 < s1.2.1)) then (idx s1.2.2 s1.2.1).bind fun x1 => (idx s1.2.2 s1.1).bind fun x2 => (idx s1.2.2 s1.1).bind fun _ => (idx ((s1.2.2.set s1.1.toNat x1)) s1.2.1).bind fun _ => chk (InI64 (s1.1 + 1)) (chk (InI64 (s1.2.1 - 1)) (some (.inl (((s1.1 + 1), (s1.2.1 - 1), (((s1.2.2.set s1.1.toNat x1)).set s1.2.1.toNat x2)))))) else out (some ((), s1.2.2))

theorem le_slices_Reverse_api_Page_api_Page_B1 (n : Nat) (s1 : Int × Int × (List api_Page)) : Le0 (slices_Reverse_api_Page_api_Page_B1' n s1) (slices_Reverse_api_Page_api_Page_B1 s1) := by
  unfold slices_Reverse_api_Page_api_Page_B1' slices_Reverse_api_Page_api_Page_B1
  repeat' (first | with_reducible refine Le0.bind ?_ (fun _ => ?_) | with_reducible refine Le0.ite ?_ ?_ | with_reducible refine Le0.chk ?_ | with_reducible refine Le0.out ?_ | with_reducible exact Le0.refl _)

def slices_Reverse_api_Page_api_Page_L1' (n : Nat) (s1 : Int × Int × (List api_Page)) : Option (Unit × List api_Page) := loopN (slices_Reverse_api_Page_api_Page_B1' n ) n s1

theorem le_slices_Reverse_api_Page_api_Page_L1 (n : Nat) (s1 : Int × Int × (List api_Page)) : Le0 (slices_Reverse_api_Page_api_Page_L1' n s1) (slices_Reverse_api_Page_api_Page_L1 s1) := Le0.loop (fun s => le_slices_Reverse_api_Page_api_Page_B1 n  s) n s1

def slices_Reverse_api_Page_api_Page' (n : Nat) (self : List api_Page) : Option (Unit × List api_Page) := chk (InI64 ((self.length : Int) - 1)) (slices_Reverse_api_Page_api_Page_L1' n ((0, ((self.length : Int) - 1), self)))

theorem le_slices_Reverse_api_Page_api_Page (n : Nat) (self : List api_Page) : Le0 (slices_Reverse_api_Page_api_Page' n self) (slices_Reverse_api_Page_api_Page self) := by
  unfold slices_Reverse_api_Page_api_Page' slices_Reverse_api_Page_api_Page
  repeat' (first | with_reducible apply le_slices_Reverse_api_Page_api_Page_L1 | with_reducible refine Le0.bind ?_ (fun _ => ?_) | with_reducible refine Le0.ite ?_ ?_ | with_reducible refine Le0.chk ?_ | with_reducible refine Le0.out ?_ | with_reducible exact Le0.refl _)

def disk_Read_1' (_n : Nat) (p_p : api_Page) (p_a1_0 : Int) : Option Bool := some ((p_p.At == p_a1_0))

theorem le_disk_Read_1 (n : Nat) (p_p : api_Page) (p_a1_0 : Int) : Le0 (disk_Read_1' n p_p p_a1_0) (disk_Read_1 p_p p_a1_0) := by
  unfold disk_Read_1' disk_Read_1
  repeat' (first | with_reducible refine Le0.bind ?_ (fun _ => ?_) | with_reducible refine Le0.ite ?_ ?_ | with_reducible refine Le0.chk ?_ | with_reducible refine Le0.out ?_ | with_reducible exact Le0.refl _)

def slices_IndexFunc_api_Page_api_Page__disk_Read_1_J1' (_n : Nat) (_v1 : Unit) : Option Int := some ((-1))

theorem le_slices_IndexFunc_api_Page_api_Page__disk_Read_1_J1 (n : Nat) (_v1 : Unit) : Le0 (slices_IndexFunc_api_Page_api_Page__disk_Read_1_J1' n _v1) (slices_IndexFunc_api_Page_api_Page__disk_Read_1_J1 _v1) := by
  unfold slices_IndexFunc_api_Page_api_Page__disk_Read_1_J1' slices_IndexFunc_api_Page_api_Page__disk_Read_1_J1
  repeat' (first | with_reducible refine Le0.bind ?_ (fun _ => ?_) | with_reducible refine Le0.ite ?_ ?_ | with_reducible refine Le0.chk ?_ | with_reducible refine Le0.out ?_ | with_reducible exact Le0.refl _)

def slices_IndexFunc_api_Page_api_Page__disk_Read_1_B1' (n : Nat) (p_s : List api_Page) (p_f_c0_0 : Int) (s1 : Int) : Option ((Int) ⊕ Int) := if (decide (s1 < (p_s.length : Int))) then (idx p_s s1).bind fun x1 => (disk_Read_1' n x1 p_f_c0_0).bind fun x2 => if x2 then out (some s1) else chk (InI64 (s1 + 1)) (some (.inl ((s1 + 1)))) else out (slices_IndexFunc_api_Page_api_Page__disk_Read_1_J1' n (()))

theorem le_slices_IndexFunc_api_Page_api_Page__disk_Read_1_B1 (n : Nat) (p_s : List api_Page) (p_f_c0_0 : Int) (s1 : Int) : Le0 (slices_IndexFunc_api_Page_api_Page__disk_Read_1_B1' n p_s p_f_c0_0 s1) (slices_IndexFunc_api_Page_api_Page__disk_Read_1_B1 p_s p_f_c0_0 s1) := by
  unfold slices_IndexFunc_api_Page_api_Page__disk_Read_1_B1' slices_IndexFunc_api_Page_api_Page__disk_Read_1_B1
  repeat' (first | with_reducible apply le_disk_Read_1 | with_reducible apply le_slices_IndexFunc_api_Page_api_Page__disk_Read_1_J1 | with_reducible refine Le0.bind ?_ (fun _ => ?_) | with_reducible refine Le0.ite ?_ ?_ | with_reducible refine Le0.chk ?_ | with_reducible refine Le0.out ?_ | with_reducible exact Le0.refl _)

def slices_IndexFunc_api_Page_api_Page__disk_Read_1_L1' (n : Nat) (p_s : List api_Page) (p_f_c0_0 : Int) (s1 : Int) : Option Int := loopN (slices_IndexFunc_api_Page_api_Page__disk_Read_1_B1' n p_s p_f_c0_0) n s1

theorem le_slices_IndexFunc_api_Page_api_Page__disk_Read_1_L1 (n : Nat) (p_s : List api_Page) (p_f_c0_0 : Int) (s1 : Int) : Le0 (slices_IndexFunc_api_Page_api_Page__disk_Read_1_L1' n p_s p_f_c0_0 s1) (slices_IndexFunc_api_Page_api_Page__disk_Read_1_L1 p_s p_f_c0_0 s1) := Le0.loop (fun s => le_slices_IndexFunc_api_Page_api_Page__disk_Read_1_B1 n p_s p_f_c0_0 s) n s1

def slices_IndexFunc_api_Page_api_Page__disk_Read_1' (n : Nat) (p_s : List api_Page) (p_f_c0_0 : Int) : Option Int := slices_IndexFunc_api_Page_api_Page__disk_Read_1_L1' n p_s p_f_c0_0 (0)

theorem le_slices_IndexFunc_api_Page_api_Page__disk_Read_1 (n : Nat) (p_s : List api_Page) (p_f_c0_0 : Int) : Le0 (slices_IndexFunc_api_Page_api_Page__disk_Read_1' n p_s p_f_c0_0) (slices_IndexFunc_api_Page_api_Page__disk_Read_1 p_s p_f_c0_0) := by
  unfold slices_IndexFunc_api_Page_api_Page__disk_Read_1' slices_IndexFunc_api_Page_api_Page__disk_Read_1
  repeat' (first | with_reducible apply le_slices_IndexFunc_api_Page_api_Page__disk_Read_1_L1 | with_reducible refine Le0.bind ?_ (fun _ => ?_) | with_reducible refine Le0.ite ?_ ?_ | with_reducible refine Le0.chk ?_ | with_reducible refine Le0.out ?_ | with_reducible exact Le0.refl _)

def disk_find_api_Page__disk_Read_1' (n : Nat) (p_l : List api_Page) (p_is_c0 : Int) : Option Int := (slices_IndexFunc_api_Page_api_Page__disk_Read_1' n p_l p_is_c0).bind fun x1 => some x1

theorem le_disk_find_api_Page__disk_Read_1 (n : Nat) (p_l : List api_Page) (p_is_c0 : Int) : Le0 (disk_find_api_Page__disk_Read_1' n p_l p_is_c0) (disk_find_api_Page__disk_Read_1 p_l p_is_c0) := by
  unfold disk_find_api_Page__disk_Read_1' disk_find_api_Page__disk_Read_1
  repeat' (first | with_reducible apply le_slices_IndexFunc_api_Page_api_Page__disk_Read_1 | with_reducible refine Le0.bind ?_ (fun _ => ?_) | with_reducible refine Le0.ite ?_ ?_ | with_reducible refine Le0.chk ?_ | with_reducible refine Le0.out ?_ | with_reducible exact Le0.refl _)

def disk_Read' (n : Nat) (p_d : api_Disk) (p_at : Int) : Option ((List UInt8) × Int) := if p_d.Down then some (([], 40)) else (disk_may' n p_at ([])).bind fun x1 => if (!x1) then some (([], 1)) else (slices_Concat_api_Page_api_Page' n ([p_d.Synced, p_d.Loose])).bind fun x2 => (slices_Reverse_api_Page_api_Page' n x2).bind fun x3 => (disk_find_api_Page__disk_Read_1' n x3.2 p_at).bind fun x4 => if (decide (x4 < 0)) then some (([], 41)) else (idx x3.2 x4).bind fun x5 => (bytes_Clone' n x5.Data).bind fun x6 => some ((x6, 0))

theorem le_disk_Read (n : Nat) (p_d : api_Disk) (p_at : Int) : Le0 (disk_Read' n p_d p_at) (disk_Read p_d p_at) := by
  unfold disk_Read' disk_Read
  repeat' (first | with_reducible apply le_disk_may | with_reducible apply le_slices_Concat_api_Page_api_Page | with_reducible apply le_slices_Reverse_api_Page_api_Page | with_reducible apply le_disk_find_api_Page__disk_Read_1 | with_reducible apply le_bytes_Clone | with_reducible refine Le0.bind ?_ (fun _ => ?_) | with_reducible refine Le0.ite ?_ ?_ | with_reducible refine Le0.chk ?_ | with_reducible refine Le0.out ?_ | with_reducible exact Le0.refl _)

def disk_laid_B1' (_n : Nat) (x1 : (List api_Page)) (s1 : Int × (List (Int × api_Page))) : Option ((Int × (List (Int × api_Page))) ⊕ ((List (Int × api_Page)))) := if (decide (s1.1 < (x1.length : Int))) then (idx x1 s1.1).bind fun x2 => chk (InI64 x2.At ∧ s1.2.length < 140737488355328) (chk (InI64 (s1.1 + 1)) (some (.inl (((s1.1 + 1), (mset x2.At x2 s1.2)))))) else out (some s1.2)

theorem le_disk_laid_B1 (n : Nat) (x1 : (List api_Page)) (s1 : Int × (List (Int × api_Page))) : Le0 (disk_laid_B1' n x1 s1) (disk_laid_B1 x1 s1) := by
  unfold disk_laid_B1' disk_laid_B1
  repeat' (first | with_reducible refine Le0.bind ?_ (fun _ => ?_) | with_reducible refine Le0.ite ?_ ?_ | with_reducible refine Le0.chk ?_ | with_reducible refine Le0.out ?_ | with_reducible exact Le0.refl _)

def disk_laid_L1' (n : Nat) (x1 : (List api_Page)) (s1 : Int × (List (Int × api_Page))) : Option ((List (Int × api_Page))) := loopN (disk_laid_B1' n x1) n s1

theorem le_disk_laid_L1 (n : Nat) (x1 : (List api_Page)) (s1 : Int × (List (Int × api_Page))) : Le0 (disk_laid_L1' n x1 s1) (disk_laid_L1 x1 s1) := Le0.loop (fun s => le_disk_laid_B1 n x1 s) n s1

def disk_laid_B2' (_n : Nat) (x3 : List Int) (v1 : (List (Int × api_Page))) (s2 : Int × (List api_Page)) : Option ((Int × (List api_Page)) ⊕ ((List api_Page))) := if (decide (s2.1 < (x3.length : Int))) then (idx x3 s2.1).bind fun x4 => (some ((mget x4 v1).getD ((⟨0, []⟩ : api_Page) : api_Page))).bind fun x5 => chk ((s2.2.length + ([x5]).length) * 32 ≤ 140737488355328) (chk (InI64 (s2.1 + 1)) (some (.inl (((s2.1 + 1), (s2.2 ++ [x5])))))) else out (some s2.2)

theorem le_disk_laid_B2 (n : Nat) (x3 : List Int) (v1 : (List (Int × api_Page))) (s2 : Int × (List api_Page)) : Le0 (disk_laid_B2' n x3 v1 s2) (disk_laid_B2 x3 v1 s2) := by
  unfold disk_laid_B2' disk_laid_B2
  repeat' (first | with_reducible refine Le0.bind ?_ (fun _ => ?_) | with_reducible refine Le0.ite ?_ ?_ | with_reducible refine Le0.chk ?_ | with_reducible refine Le0.out ?_ | with_reducible exact Le0.refl _)

def disk_laid_L2' (n : Nat) (x3 : List Int) (v1 : (List (Int × api_Page))) (s2 : Int × (List api_Page)) : Option ((List api_Page)) := loopN (disk_laid_B2' n x3 v1) n s2

theorem le_disk_laid_L2 (n : Nat) (x3 : List Int) (v1 : (List (Int × api_Page))) (s2 : Int × (List api_Page)) : Le0 (disk_laid_L2' n x3 v1 s2) (disk_laid_L2 x3 v1 s2) := Le0.loop (fun s => le_disk_laid_B2 n x3 v1 s) n s2

def disk_laid' (n : Nat) (p_l : List api_Page) (p_over : List api_Page) : Option ((List api_Page)) := ((slices_Concat_api_Page_api_Page' n ([p_l, p_over])).bind fun x1 => disk_laid_L1' n x1 ((0, ([] : List (Int × api_Page))))).bind fun v1 => (chk (v1.length * 8 ≤ 140737488355328) ((some (keysI v1)).bind fun x3 => disk_laid_L2' n x3 v1 ((0, [])))).bind fun v2 => some v2

theorem le_disk_laid (n : Nat) (p_l : List api_Page) (p_over : List api_Page) : Le0 (disk_laid' n p_l p_over) (disk_laid p_l p_over) := by
  unfold disk_laid' disk_laid
  repeat' (first | with_reducible apply le_slices_Concat_api_Page_api_Page | with_reducible apply le_disk_laid_L1 | with_reducible apply le_disk_laid_L2 | with_reducible refine Le0.bind ?_ (fun _ => ?_) | with_reducible refine Le0.ite ?_ ?_ | with_reducible refine Le0.chk ?_ | with_reducible refine Le0.out ?_ | with_reducible exact Le0.refl _)

def disk_Crash' (n : Nat) (p_d : api_Disk) (p_keep : Int) : Option api_Disk := chk ((0 : Int) ≤ (min ((max p_keep (0))) ((p_d.Loose.length : Int))) ∧ (min ((max p_keep (0))) ((p_d.Loose.length : Int))) ≤ (p_d.Loose.length : Int)) ((disk_laid' n p_d.Synced ((p_d.Loose.take ((min ((max p_keep (0))) ((p_d.Loose.length : Int)))).toNat))).bind fun x1 => some ((⟨x1, [], true⟩ : api_Disk)))

theorem le_disk_Crash (n : Nat) (p_d : api_Disk) (p_keep : Int) : Le0 (disk_Crash' n p_d p_keep) (disk_Crash p_d p_keep) := by
  unfold disk_Crash' disk_Crash
  repeat' (first | with_reducible apply le_disk_laid | with_reducible refine Le0.bind ?_ (fun _ => ?_) | with_reducible refine Le0.ite ?_ ?_ | with_reducible refine Le0.chk ?_ | with_reducible refine Le0.out ?_ | with_reducible exact Le0.refl _)

def disk_Up' (_n : Nat) (p_d : api_Disk) : Option api_Disk := some ((⟨p_d.Synced, p_d.Loose, false⟩ : api_Disk))

theorem le_disk_Up (n : Nat) (p_d : api_Disk) : Le0 (disk_Up' n p_d) (disk_Up p_d) := by
  unfold disk_Up' disk_Up
  repeat' (first | with_reducible refine Le0.bind ?_ (fun _ => ?_) | with_reducible refine Le0.ite ?_ ?_ | with_reducible refine Le0.chk ?_ | with_reducible refine Le0.out ?_ | with_reducible exact Le0.refl _)

def disk_Rot_1' (_n : Nat) (p_p : api_Page) (p_a1_0 : Int) : Option Bool := some ((p_p.At == p_a1_0))

theorem le_disk_Rot_1 (n : Nat) (p_p : api_Page) (p_a1_0 : Int) : Le0 (disk_Rot_1' n p_p p_a1_0) (disk_Rot_1 p_p p_a1_0) := by
  unfold disk_Rot_1' disk_Rot_1
  repeat' (first | with_reducible refine Le0.bind ?_ (fun _ => ?_) | with_reducible refine Le0.ite ?_ ?_ | with_reducible refine Le0.chk ?_ | with_reducible refine Le0.out ?_ | with_reducible exact Le0.refl _)

def slices_IndexFunc_api_Page_api_Page__disk_Rot_1_J1' (_n : Nat) (_v1 : Unit) : Option Int := some ((-1))

theorem le_slices_IndexFunc_api_Page_api_Page__disk_Rot_1_J1 (n : Nat) (_v1 : Unit) : Le0 (slices_IndexFunc_api_Page_api_Page__disk_Rot_1_J1' n _v1) (slices_IndexFunc_api_Page_api_Page__disk_Rot_1_J1 _v1) := by
  unfold slices_IndexFunc_api_Page_api_Page__disk_Rot_1_J1' slices_IndexFunc_api_Page_api_Page__disk_Rot_1_J1
  repeat' (first | with_reducible refine Le0.bind ?_ (fun _ => ?_) | with_reducible refine Le0.ite ?_ ?_ | with_reducible refine Le0.chk ?_ | with_reducible refine Le0.out ?_ | with_reducible exact Le0.refl _)

def slices_IndexFunc_api_Page_api_Page__disk_Rot_1_B1' (n : Nat) (p_s : List api_Page) (p_f_c0_0 : Int) (s1 : Int) : Option ((Int) ⊕ Int) := if (decide (s1 < (p_s.length : Int))) then (idx p_s s1).bind fun x1 => (disk_Rot_1' n x1 p_f_c0_0).bind fun x2 => if x2 then out (some s1) else chk (InI64 (s1 + 1)) (some (.inl ((s1 + 1)))) else out (slices_IndexFunc_api_Page_api_Page__disk_Rot_1_J1' n (()))

theorem le_slices_IndexFunc_api_Page_api_Page__disk_Rot_1_B1 (n : Nat) (p_s : List api_Page) (p_f_c0_0 : Int) (s1 : Int) : Le0 (slices_IndexFunc_api_Page_api_Page__disk_Rot_1_B1' n p_s p_f_c0_0 s1) (slices_IndexFunc_api_Page_api_Page__disk_Rot_1_B1 p_s p_f_c0_0 s1) := by
  unfold slices_IndexFunc_api_Page_api_Page__disk_Rot_1_B1' slices_IndexFunc_api_Page_api_Page__disk_Rot_1_B1
  repeat' (first | with_reducible apply le_disk_Rot_1 | with_reducible apply le_slices_IndexFunc_api_Page_api_Page__disk_Rot_1_J1 | with_reducible refine Le0.bind ?_ (fun _ => ?_) | with_reducible refine Le0.ite ?_ ?_ | with_reducible refine Le0.chk ?_ | with_reducible refine Le0.out ?_ | with_reducible exact Le0.refl _)

def slices_IndexFunc_api_Page_api_Page__disk_Rot_1_L1' (n : Nat) (p_s : List api_Page) (p_f_c0_0 : Int) (s1 : Int) : Option Int := loopN (slices_IndexFunc_api_Page_api_Page__disk_Rot_1_B1' n p_s p_f_c0_0) n s1

theorem le_slices_IndexFunc_api_Page_api_Page__disk_Rot_1_L1 (n : Nat) (p_s : List api_Page) (p_f_c0_0 : Int) (s1 : Int) : Le0 (slices_IndexFunc_api_Page_api_Page__disk_Rot_1_L1' n p_s p_f_c0_0 s1) (slices_IndexFunc_api_Page_api_Page__disk_Rot_1_L1 p_s p_f_c0_0 s1) := Le0.loop (fun s => le_slices_IndexFunc_api_Page_api_Page__disk_Rot_1_B1 n p_s p_f_c0_0 s) n s1

def slices_IndexFunc_api_Page_api_Page__disk_Rot_1' (n : Nat) (p_s : List api_Page) (p_f_c0_0 : Int) : Option Int := slices_IndexFunc_api_Page_api_Page__disk_Rot_1_L1' n p_s p_f_c0_0 (0)

theorem le_slices_IndexFunc_api_Page_api_Page__disk_Rot_1 (n : Nat) (p_s : List api_Page) (p_f_c0_0 : Int) : Le0 (slices_IndexFunc_api_Page_api_Page__disk_Rot_1' n p_s p_f_c0_0) (slices_IndexFunc_api_Page_api_Page__disk_Rot_1 p_s p_f_c0_0) := by
  unfold slices_IndexFunc_api_Page_api_Page__disk_Rot_1' slices_IndexFunc_api_Page_api_Page__disk_Rot_1
  repeat' (first | with_reducible apply le_slices_IndexFunc_api_Page_api_Page__disk_Rot_1_L1 | with_reducible refine Le0.bind ?_ (fun _ => ?_) | with_reducible refine Le0.ite ?_ ?_ | with_reducible refine Le0.chk ?_ | with_reducible refine Le0.out ?_ | with_reducible exact Le0.refl _)

def disk_find_api_Page__disk_Rot_1' (n : Nat) (p_l : List api_Page) (p_is_c0 : Int) : Option Int := (slices_IndexFunc_api_Page_api_Page__disk_Rot_1' n p_l p_is_c0).bind fun x1 => some x1

theorem le_disk_find_api_Page__disk_Rot_1 (n : Nat) (p_l : List api_Page) (p_is_c0 : Int) : Le0 (disk_find_api_Page__disk_Rot_1' n p_l p_is_c0) (disk_find_api_Page__disk_Rot_1 p_l p_is_c0) := by
  unfold disk_find_api_Page__disk_Rot_1' disk_find_api_Page__disk_Rot_1
  repeat' (first | with_reducible apply le_slices_IndexFunc_api_Page_api_Page__disk_Rot_1 | with_reducible refine Le0.bind ?_ (fun _ => ?_) | with_reducible refine Le0.ite ?_ ?_ | with_reducible refine Le0.chk ?_ | with_reducible refine Le0.out ?_ | with_reducible exact Le0.refl _)

def disk_Rot' (n : Nat) (p_d : api_Disk) (p_at : Int) (p_bit : Int) : Option api_Disk := (disk_find_api_Page__disk_Rot_1' n p_d.Synced p_at).bind fun x1 => ((if (decide (x1 < 0)) then some true else some ((decide (p_bit < 0)))).bind fun c1 => (if c1 then some true else (idx p_d.Synced x1).bind fun x2 => chk (InI64 (8 * (x2.Data.length : Int))) (some ((decide (p_bit ≥ (8 * (x2.Data.length : Int))))))).bind fun c2 => some c2).bind fun v1 => if v1 then some p_d else (idx p_d.Synced x1).bind fun x3 => (bytes_Clone' n x3.Data).bind fun x4 => (idx x4 ((quoK .i64 p_bit (8)))).bind fun x5 => chk ((0 : Int) ≤ (Int.tmod p_bit (8))) ((idx x4 ((quoK .i64 p_bit (8)))).bind fun _ => (slices_Clone_api_Page_api_Page' n p_d.Synced).bind fun x7 => (idx x7 x1).bind fun x8 => some ((⟨(x7.set x1.toNat (⟨x8.At, (x4.set ((quoK .i64 p_bit (8))).toNat (x5 ^^^ (toU8 (shlK .u8 (1) ((Int.tmod p_bit (8)))))))⟩ : api_Page)), p_d.Loose, p_d.Down⟩ : api_Disk)))

theorem le_disk_Rot (n : Nat) (p_d : api_Disk) (p_at : Int) (p_bit : Int) : Le0 (disk_Rot' n p_d p_at p_bit) (disk_Rot p_d p_at p_bit) := by
  unfold disk_Rot' disk_Rot
  repeat' (first | with_reducible apply le_disk_find_api_Page__disk_Rot_1 | with_reducible apply le_bytes_Clone | with_reducible apply le_slices_Clone_api_Page_api_Page | with_reducible refine Le0.bind ?_ (fun _ => ?_) | with_reducible refine Le0.ite ?_ ?_ | with_reducible refine Le0.chk ?_ | with_reducible refine Le0.out ?_ | with_reducible exact Le0.refl _)

def disk_Sync' (n : Nat) (p_d : api_Disk) : Option (api_Disk × Int) := if p_d.Down then some ((p_d, 40)) else (disk_laid' n p_d.Synced p_d.Loose).bind fun x1 => some (((⟨x1, [], false⟩ : api_Disk), 0))

theorem le_disk_Sync (n : Nat) (p_d : api_Disk) : Le0 (disk_Sync' n p_d) (disk_Sync p_d) := by
  unfold disk_Sync' disk_Sync
  repeat' (first | with_reducible apply le_disk_laid | with_reducible refine Le0.bind ?_ (fun _ => ?_) | with_reducible refine Le0.ite ?_ ?_ | with_reducible refine Le0.chk ?_ | with_reducible refine Le0.out ?_ | with_reducible exact Le0.refl _)

def ref04_Bytes_J1' (_n : Nat) (_v1 : Unit) : Option Bool := some true

theorem le_ref04_Bytes_J1 (n : Nat) (_v1 : Unit) : Le0 (ref04_Bytes_J1' n _v1) (ref04_Bytes_J1 _v1) := by
  unfold ref04_Bytes_J1' ref04_Bytes_J1
  repeat' (first | with_reducible refine Le0.bind ?_ (fun _ => ?_) | with_reducible refine Le0.ite ?_ ?_ | with_reducible refine Le0.chk ?_ | with_reducible refine Le0.out ?_ | with_reducible exact Le0.refl _)

def ref04_Bytes_B1' (n : Nat) (p_a : List UInt8) (p_b : List UInt8) (s1 : Int) : Option ((Int) ⊕ Bool) := if (decide (s1 < (p_a.length : Int))) then (idx p_a s1).bind fun x1 => (idx p_b s1).bind fun x2 => if ((x1.toNat : Int) != (x2.toNat : Int)) then out (some false) else chk (InI64 (s1 + 1)) (some (.inl ((s1 + 1)))) else out (ref04_Bytes_J1' n (()))

theorem le_ref04_Bytes_B1 (n : Nat) (p_a : List UInt8) (p_b : List UInt8) (s1 : Int) : Le0 (ref04_Bytes_B1' n p_a p_b s1) (ref04_Bytes_B1 p_a p_b s1) := by
  unfold ref04_Bytes_B1' ref04_Bytes_B1
  repeat' (first | with_reducible apply le_ref04_Bytes_J1 | with_reducible refine Le0.bind ?_ (fun _ => ?_) | with_reducible refine Le0.ite ?_ ?_ | with_reducible refine Le0.chk ?_ | with_reducible refine Le0.out ?_ | with_reducible exact Le0.refl _)

def ref04_Bytes_L1' (n : Nat) (p_a : List UInt8) (p_b : List UInt8) (s1 : Int) : Option Bool := loopN (ref04_Bytes_B1' n p_a p_b) n s1

theorem le_ref04_Bytes_L1 (n : Nat) (p_a : List UInt8) (p_b : List UInt8) (s1 : Int) : Le0 (ref04_Bytes_L1' n p_a p_b s1) (ref04_Bytes_L1 p_a p_b s1) := Le0.loop (fun s => le_ref04_Bytes_B1 n p_a p_b s) n s1

def ref04_Bytes' (n : Nat) (p_a : List UInt8) (p_b : List UInt8) : Option Bool := if ((p_a.length : Int) != (p_b.length : Int)) then some false else ref04_Bytes_L1' n p_a p_b (0)

theorem le_ref04_Bytes (n : Nat) (p_a : List UInt8) (p_b : List UInt8) : Le0 (ref04_Bytes' n p_a p_b) (ref04_Bytes p_a p_b) := by
  unfold ref04_Bytes' ref04_Bytes
  repeat' (first | with_reducible apply le_ref04_Bytes_L1 | with_reducible refine Le0.bind ?_ (fun _ => ?_) | with_reducible refine Le0.ite ?_ ?_ | with_reducible refine Le0.chk ?_ | with_reducible refine Le0.out ?_ | with_reducible exact Le0.refl _)

def disk_Right_1' (n : Nat) (p_p : api_Page) : Option Bool := (disk_may' n p_p.At p_p.Data).bind fun x1 => some ((!x1))

theorem le_disk_Right_1 (n : Nat) (p_p : api_Page) : Le0 (disk_Right_1' n p_p) (disk_Right_1 p_p) := by
  unfold disk_Right_1' disk_Right_1
  repeat' (first | with_reducible apply le_disk_may | with_reducible refine Le0.bind ?_ (fun _ => ?_) | with_reducible refine Le0.ite ?_ ?_ | with_reducible refine Le0.chk ?_ | with_reducible refine Le0.out ?_ | with_reducible exact Le0.refl _)

def slices_IndexFunc_api_Page_api_Page__disk_Right_1_J1' (_n : Nat) (_v1 : Unit) : Option Int := some ((-1))

theorem le_slices_IndexFunc_api_Page_api_Page__disk_Right_1_J1 (n : Nat) (_v1 : Unit) : Le0 (slices_IndexFunc_api_Page_api_Page__disk_Right_1_J1' n _v1) (slices_IndexFunc_api_Page_api_Page__disk_Right_1_J1 _v1) := by
  unfold slices_IndexFunc_api_Page_api_Page__disk_Right_1_J1' slices_IndexFunc_api_Page_api_Page__disk_Right_1_J1
  repeat' (first | with_reducible refine Le0.bind ?_ (fun _ => ?_) | with_reducible refine Le0.ite ?_ ?_ | with_reducible refine Le0.chk ?_ | with_reducible refine Le0.out ?_ | with_reducible exact Le0.refl _)

def slices_IndexFunc_api_Page_api_Page__disk_Right_1_B1' (n : Nat) (p_s : List api_Page) (s1 : Int) : Option ((Int) ⊕ Int) := if (decide (s1 < (p_s.length : Int))) then (idx p_s s1).bind fun x1 => (disk_Right_1' n x1).bind fun x2 => if x2 then out (some s1) else chk (InI64 (s1 + 1)) (some (.inl ((s1 + 1)))) else out (slices_IndexFunc_api_Page_api_Page__disk_Right_1_J1' n (()))

theorem le_slices_IndexFunc_api_Page_api_Page__disk_Right_1_B1 (n : Nat) (p_s : List api_Page) (s1 : Int) : Le0 (slices_IndexFunc_api_Page_api_Page__disk_Right_1_B1' n p_s s1) (slices_IndexFunc_api_Page_api_Page__disk_Right_1_B1 p_s s1) := by
  unfold slices_IndexFunc_api_Page_api_Page__disk_Right_1_B1' slices_IndexFunc_api_Page_api_Page__disk_Right_1_B1
  repeat' (first | with_reducible apply le_disk_Right_1 | with_reducible apply le_slices_IndexFunc_api_Page_api_Page__disk_Right_1_J1 | with_reducible refine Le0.bind ?_ (fun _ => ?_) | with_reducible refine Le0.ite ?_ ?_ | with_reducible refine Le0.chk ?_ | with_reducible refine Le0.out ?_ | with_reducible exact Le0.refl _)

def slices_IndexFunc_api_Page_api_Page__disk_Right_1_L1' (n : Nat) (p_s : List api_Page) (s1 : Int) : Option Int := loopN (slices_IndexFunc_api_Page_api_Page__disk_Right_1_B1' n p_s) n s1

theorem le_slices_IndexFunc_api_Page_api_Page__disk_Right_1_L1 (n : Nat) (p_s : List api_Page) (s1 : Int) : Le0 (slices_IndexFunc_api_Page_api_Page__disk_Right_1_L1' n p_s s1) (slices_IndexFunc_api_Page_api_Page__disk_Right_1_L1 p_s s1) := Le0.loop (fun s => le_slices_IndexFunc_api_Page_api_Page__disk_Right_1_B1 n p_s s) n s1

def slices_IndexFunc_api_Page_api_Page__disk_Right_1' (n : Nat) (p_s : List api_Page) : Option Int := slices_IndexFunc_api_Page_api_Page__disk_Right_1_L1' n p_s (0)

theorem le_slices_IndexFunc_api_Page_api_Page__disk_Right_1 (n : Nat) (p_s : List api_Page) : Le0 (slices_IndexFunc_api_Page_api_Page__disk_Right_1' n p_s) (slices_IndexFunc_api_Page_api_Page__disk_Right_1 p_s) := by
  unfold slices_IndexFunc_api_Page_api_Page__disk_Right_1' slices_IndexFunc_api_Page_api_Page__disk_Right_1
  repeat' (first | with_reducible apply le_slices_IndexFunc_api_Page_api_Page__disk_Right_1_L1 | with_reducible refine Le0.bind ?_ (fun _ => ?_) | with_reducible refine Le0.ite ?_ ?_ | with_reducible refine Le0.chk ?_ | with_reducible refine Le0.out ?_ | with_reducible exact Le0.refl _)

def disk_find_api_Page__disk_Right_1' (n : Nat) (p_l : List api_Page) : Option Int := (slices_IndexFunc_api_Page_api_Page__disk_Right_1' n p_l).bind fun x1 => some x1

theorem le_disk_find_api_Page__disk_Right_1 (n : Nat) (p_l : List api_Page) : Le0 (disk_find_api_Page__disk_Right_1' n p_l) (disk_find_api_Page__disk_Right_1 p_l) := by
  unfold disk_find_api_Page__disk_Right_1' disk_find_api_Page__disk_Right_1
  repeat' (first | with_reducible apply le_slices_IndexFunc_api_Page_api_Page__disk_Right_1 | with_reducible refine Le0.bind ?_ (fun _ => ?_) | with_reducible refine Le0.ite ?_ ?_ | with_reducible refine Le0.chk ?_ | with_reducible refine Le0.out ?_ | with_reducible exact Le0.refl _)

def disk_Right_J1' (_n : Nat) (_v2 : Unit) : Option Bool := some true

theorem le_disk_Right_J1 (n : Nat) (_v2 : Unit) : Le0 (disk_Right_J1' n _v2) (disk_Right_J1 _v2) := by
  unfold disk_Right_J1' disk_Right_J1
  repeat' (first | with_reducible refine Le0.bind ?_ (fun _ => ?_) | with_reducible refine Le0.ite ?_ ?_ | with_reducible refine Le0.chk ?_ | with_reducible refine Le0.out ?_ | with_reducible exact Le0.refl _)

def disk_Right_B1' (n : Nat) (p_d : api_Disk) (s1 : Int) : Option ((Int) ⊕ Bool) := if (decide (s1 < (p_d.Synced.length : Int))) then chk (InI64 (s1 - 1)) ((idx p_d.Synced ((s1 - 1))).bind fun x3 => (idx p_d.Synced s1).bind fun x4 => if (decide (x3.At ≥ x4.At)) then out (some false) else chk (InI64 (s1 + 1)) (some (.inl ((s1 + 1))))) else out (disk_Right_J1' n (()))

theorem le_disk_Right_B1 (n : Nat) (p_d : api_Disk) (s1 : Int) : Le0 (disk_Right_B1' n p_d s1) (disk_Right_B1 p_d s1) := by
  unfold disk_Right_B1' disk_Right_B1
  repeat' (first | with_reducible apply le_disk_Right_J1 | with_reducible refine Le0.bind ?_ (fun _ => ?_) | with_reducible refine Le0.ite ?_ ?_ | with_reducible refine Le0.chk ?_ | with_reducible refine Le0.out ?_ | with_reducible exact Le0.refl _)

def disk_Right_L1' (n : Nat) (p_d : api_Disk) (s1 : Int) : Option Bool := loopN (disk_Right_B1' n p_d) n s1

theorem le_disk_Right_L1 (n : Nat) (p_d : api_Disk) (s1 : Int) : Le0 (disk_Right_L1' n p_d s1) (disk_Right_L1 p_d s1) := Le0.loop (fun s => le_disk_Right_B1 n p_d s) n s1

def disk_Right' (n : Nat) (p_d : api_Disk) : Option Bool := ((disk_find_api_Page__disk_Right_1' n p_d.Synced).bind fun x1 => (if (decide (x1 ≥ 0)) then some true else (disk_find_api_Page__disk_Right_1' n p_d.Loose).bind fun x2 => some ((decide (x2 ≥ 0)))).bind fun c1 => (if c1 then some true else (if p_d.Down then some ((decide ((p_d.Loose.length : Int) > 0))) else some false).bind fun c2 => some c2).bind fun c3 => some c3).bind fun v1 => if v1 then some false else disk_Right_L1' n p_d (1)

theorem le_disk_Right (n : Nat) (p_d : api_Disk) : Le0 (disk_Right' n p_d) (disk_Right p_d) := by
  unfold disk_Right' disk_Right
  repeat' (first | with_reducible apply le_disk_find_api_Page__disk_Right_1 | with_reducible apply le_disk_Right_L1 | with_reducible refine Le0.bind ?_ (fun _ => ?_) | with_reducible refine Le0.ite ?_ ?_ | with_reducible refine Le0.chk ?_ | with_reducible refine Le0.out ?_ | with_reducible exact Le0.refl _)

def law04_head' (n : Nat) : Option Bool := (disk_New' n).bind fun x1 => (disk_Write' n x1 (3) ([1, 2])).bind fun x2 => (disk_Write' n x2.1 (3) ([9])).bind fun x3 => (disk_Read' n x3.1 (3)).bind fun x4 => (disk_Crash' n x3.1 (1)).bind fun x5 => (disk_Read' n x5 (3)).bind fun x6 => (disk_Up' n x5).bind fun x7 => (disk_Read' n x7 (3)).bind fun x8 => (disk_Rot' n x7 (3) (9)).bind fun x9 => (disk_Read' n x9 (3)).bind fun x10 => (disk_Read' n x7 (4)).bind fun x11 => (disk_Write' n x7 (1000) ([])).bind fun x12 => (disk_Sync' n x3.1).bind fun x13 => (disk_Crash' n x13.1 (0)).bind fun x14 => (disk_Up' n x14).bind fun x15 => (disk_Read' n x15 (3)).bind fun x16 => (ref04_Bytes' n x4.1 ([9])).bind fun x17 => (ref04_Bytes' n x8.1 ([1, 2])).bind fun x18 => (ref04_Bytes' n x10.1 ([1, 0])).bind fun x19 => (ref04_Bytes' n x16.1 ([9])).bind fun x20 => ((if (x2.2 == 0) then some ((x3.2 == 0)) else some false).bind fun c1 => (if c1 then some ((x4.2 == 0)) else some false).bind fun c2 => (if c2 then some ((x6.2 == 40)) else some false).bind fun c3 => (if c3 then some ((x8.2 == 0)) else some false).bind fun c4 => (if c4 then some ((x10.2 == 0)) else some false).bind fun c5 => (if c5 then some ((x11.2 == 41)) else some false).bind fun c6 => (if c6 then some ((x12.2 == 1)) else some false).bind fun c7 => (if c7 then some ((x13.2 == 0)) else some false).bind fun c8 => (if c8 then some ((x16.2 == 0)) else some false).bind fun c9 => (if c9 then some x17 else some false).bind fun c10 => (if c10 then some x18 else some false).bind fun c11 => (if c11 then some x19 else some false).bind fun c12 => (if c12 then some x20 else some false).bind fun c13 => (if c13 then (disk_Right' n x5).bind fun x21 => some x21 else some false).bind fun c14 => (if c14 then (disk_Right' n ((⟨[], [(⟨0, []⟩ : api_Page)], true⟩ : api_Disk))).bind fun x22 => some ((!x22)) else some false).bind fun c15 => some c15).bind fun v1 => some v1

theorem le_law04_head (n : Nat) : Le0 (law04_head' n) (law04_head) := by
  unfold law04_head' law04_head
  repeat' (first | with_reducible apply le_disk_New | with_reducible apply le_disk_Write | with_reducible apply le_disk_Read | with_reducible apply le_disk_Crash | with_reducible apply le_disk_Up | with_reducible apply le_disk_Rot | with_reducible apply le_disk_Sync | with_reducible apply le_ref04_Bytes | with_reducible apply le_disk_Right | with_reducible refine Le0.bind ?_ (fun _ => ?_) | with_reducible refine Le0.ite ?_ ?_ | with_reducible refine Le0.chk ?_ | with_reducible refine Le0.out ?_ | with_reducible exact Le0.refl _)

def ref04_Page' (_n : Nat) (p_p : api_Page) : Option Bool := ((if (decide (p_p.At ≥ 0)) then some ((decide (p_p.At ≤ 999))) else some false).bind fun c1 => (if c1 then some ((decide ((p_p.Data.length : Int) ≤ 200))) else some false).bind fun c2 => some c2).bind fun v1 => some v1

theorem le_ref04_Page (n : Nat) (p_p : api_Page) : Le0 (ref04_Page' n p_p) (ref04_Page p_p) := by
  unfold ref04_Page' ref04_Page
  repeat' (first | with_reducible refine Le0.bind ?_ (fun _ => ?_) | with_reducible refine Le0.ite ?_ ?_ | with_reducible refine Le0.chk ?_ | with_reducible refine Le0.out ?_ | with_reducible exact Le0.refl _)

def ref04_Right_J2' (_n : Nat) (p_d : api_Disk) (_v3 : Unit) : Option Bool := ((if (!p_d.Down) then some true else some (((p_d.Loose.length : Int) == 0))).bind fun c3 => some c3).bind fun v4 => some v4

theorem le_ref04_Right_J2 (n : Nat) (p_d : api_Disk) (_v3 : Unit) : Le0 (ref04_Right_J2' n p_d _v3) (ref04_Right_J2 p_d _v3) := by
  unfold ref04_Right_J2' ref04_Right_J2
  repeat' (first | with_reducible refine Le0.bind ?_ (fun _ => ?_) | with_reducible refine Le0.ite ?_ ?_ | with_reducible refine Le0.chk ?_ | with_reducible refine Le0.out ?_ | with_reducible exact Le0.refl _)

def ref04_Right_B2' (n : Nat) (p_d : api_Disk) (s2 : Int) : Option ((Int) ⊕ Bool) := if (decide (s2 < (p_d.Loose.length : Int))) then (idx p_d.Loose s2).bind fun x5 => (ref04_Page' n x5).bind fun x6 => if (!x6) then out (some false) else chk (InI64 (s2 + 1)) (some (.inl ((s2 + 1)))) else out (ref04_Right_J2' n p_d (()))

theorem le_ref04_Right_B2 (n : Nat) (p_d : api_Disk) (s2 : Int) : Le0 (ref04_Right_B2' n p_d s2) (ref04_Right_B2 p_d s2) := by
  unfold ref04_Right_B2' ref04_Right_B2
  repeat' (first | with_reducible apply le_ref04_Page | with_reducible apply le_ref04_Right_J2 | with_reducible refine Le0.bind ?_ (fun _ => ?_) | with_reducible refine Le0.ite ?_ ?_ | with_reducible refine Le0.chk ?_ | with_reducible refine Le0.out ?_ | with_reducible exact Le0.refl _)

def ref04_Right_L2' (n : Nat) (p_d : api_Disk) (s2 : Int) : Option Bool := loopN (ref04_Right_B2' n p_d) n s2

theorem le_ref04_Right_L2 (n : Nat) (p_d : api_Disk) (s2 : Int) : Le0 (ref04_Right_L2' n p_d s2) (ref04_Right_L2 p_d s2) := Le0.loop (fun s => le_ref04_Right_B2 n p_d s) n s2

def ref04_Right_J1' (n : Nat) (p_d : api_Disk) (_v1 : Unit) : Option Bool := ref04_Right_L2' n p_d (0)

theorem le_ref04_Right_J1 (n : Nat) (p_d : api_Disk) (_v1 : Unit) : Le0 (ref04_Right_J1' n p_d _v1) (ref04_Right_J1 p_d _v1) := by
  unfold ref04_Right_J1' ref04_Right_J1
  repeat' (first | with_reducible apply le_ref04_Right_L2 | with_reducible refine Le0.bind ?_ (fun _ => ?_) | with_reducible refine Le0.ite ?_ ?_ | with_reducible refine Le0.chk ?_ | with_reducible refine Le0.out ?_ | with_reducible exact Le0.refl _)

def ref04_Right_B1' (n : Nat) (p_d : api_Disk) (s1 : Int) : Option ((Int) ⊕ Bool) := if (decide (s1 < (p_d.Synced.length : Int))) then (idx p_d.Synced s1).bind fun x1 => (ref04_Page' n x1).bind fun x2 => ((if (!x2) then some true else (if (decide (s1 > 0)) then (idx p_d.Synced s1).bind fun x3 => chk (InI64 (s1 - 1)) ((idx p_d.Synced ((s1 - 1))).bind fun x4 => some ((decide (x3.At ≤ x4.At)))) else some false).bind fun c1 => some c1).bind fun c2 => some c2).bind fun v2 => if v2 then out (some false) else chk (InI64 (s1 + 1)) (some (.inl ((s1 + 1)))) else out (ref04_Right_J1' n p_d (()))

theorem le_ref04_Right_B1 (n : Nat) (p_d : api_Disk) (s1 : Int) : Le0 (ref04_Right_B1' n p_d s1) (ref04_Right_B1 p_d s1) := by
  unfold ref04_Right_B1' ref04_Right_B1
  repeat' (first | with_reducible apply le_ref04_Page | with_reducible apply le_ref04_Right_J1 | with_reducible refine Le0.bind ?_ (fun _ => ?_) | with_reducible refine Le0.ite ?_ ?_ | with_reducible refine Le0.chk ?_ | with_reducible refine Le0.out ?_ | with_reducible exact Le0.refl _)

def ref04_Right_L1' (n : Nat) (p_d : api_Disk) (s1 : Int) : Option Bool := loopN (ref04_Right_B1' n p_d) n s1

theorem le_ref04_Right_L1 (n : Nat) (p_d : api_Disk) (s1 : Int) : Le0 (ref04_Right_L1' n p_d s1) (ref04_Right_L1 p_d s1) := Le0.loop (fun s => le_ref04_Right_B1 n p_d s) n s1

def ref04_Right' (n : Nat) (p_d : api_Disk) : Option Bool := ref04_Right_L1' n p_d (0)

theorem le_ref04_Right (n : Nat) (p_d : api_Disk) : Le0 (ref04_Right' n p_d) (ref04_Right p_d) := by
  unfold ref04_Right' ref04_Right
  repeat' (first | with_reducible apply le_ref04_Right_L1 | with_reducible refine Le0.bind ?_ (fun _ => ?_) | with_reducible refine Le0.ite ?_ ?_ | with_reducible refine Le0.chk ?_ | with_reducible refine Le0.out ?_ | with_reducible exact Le0.refl _)

def law04_Fits' (n : Nat) (p_d : api_Disk) : Option Bool := ((if (decide ((p_d.Synced.length : Int) > 60)) then some true else some ((decide ((p_d.Loose.length : Int) > 60)))).bind fun c1 => some c1).bind fun v1 => if v1 then some false else (ref04_Right' n p_d).bind fun x1 => some x1

theorem le_law04_Fits (n : Nat) (p_d : api_Disk) : Le0 (law04_Fits' n p_d) (law04_Fits p_d) := by
  unfold law04_Fits' law04_Fits
  repeat' (first | with_reducible apply le_ref04_Right | with_reducible refine Le0.bind ?_ (fun _ => ?_) | with_reducible refine Le0.ite ?_ ?_ | with_reducible refine Le0.chk ?_ | with_reducible refine Le0.out ?_ | with_reducible exact Le0.refl _)

def law04_own_B1' (_n : Nat) (p_d : api_Disk) (s1 : Int × (List api_Page)) : Option ((Int × (List api_Page)) ⊕ ((List api_Page))) := if (decide (s1.1 < (p_d.Synced.length : Int))) then (idx p_d.Synced s1.1).bind fun x1 => (idx p_d.Synced s1.1).bind fun x2 => chk (x2.Data.length * 1 ≤ 140737488355328) (chk ((s1.2.length + ([(⟨x1.At, x2.Data⟩ : api_Page)]).length) * 32 ≤ 140737488355328) (chk (InI64 (s1.1 + 1)) (some (.inl (((s1.1 + 1), (s1.2 ++ [(⟨x1.At, x2.Data⟩ : api_Page)]))))))) else out (some s1.2)

theorem le_law04_own_B1 (n : Nat) (p_d : api_Disk) (s1 : Int × (List api_Page)) : Le0 (law04_own_B1' n p_d s1) (law04_own_B1 p_d s1) := by
  unfold law04_own_B1' law04_own_B1
  repeat' (first | with_reducible refine Le0.bind ?_ (fun _ => ?_) | with_reducible refine Le0.ite ?_ ?_ | with_reducible refine Le0.chk ?_ | with_reducible refine Le0.out ?_ | with_reducible exact Le0.refl _)

def law04_own_L1' (n : Nat) (p_d : api_Disk) (s1 : Int × (List api_Page)) : Option ((List api_Page)) := loopN (law04_own_B1' n p_d) n s1

theorem le_law04_own_L1 (n : Nat) (p_d : api_Disk) (s1 : Int × (List api_Page)) : Le0 (law04_own_L1' n p_d s1) (law04_own_L1 p_d s1) := Le0.loop (fun s => le_law04_own_B1 n p_d s) n s1

def law04_own_B2' (_n : Nat) (p_d : api_Disk) (s2 : Int × (List api_Page)) : Option ((Int × (List api_Page)) ⊕ ((List api_Page))) := if (decide (s2.1 < (p_d.Loose.length : Int))) then (idx p_d.Loose s2.1).bind fun x3 => (idx p_d.Loose s2.1).bind fun x4 => chk (x4.Data.length * 1 ≤ 140737488355328) (chk ((s2.2.length + ([(⟨x3.At, x4.Data⟩ : api_Page)]).length) * 32 ≤ 140737488355328) (chk (InI64 (s2.1 + 1)) (some (.inl (((s2.1 + 1), (s2.2 ++ [(⟨x3.At, x4.Data⟩ : api_Page)]))))))) else out (some s2.2)

theorem le_law04_own_B2 (n : Nat) (p_d : api_Disk) (s2 : Int × (List api_Page)) : Le0 (law04_own_B2' n p_d s2) (law04_own_B2 p_d s2) := by
  unfold law04_own_B2' law04_own_B2
  repeat' (first | with_reducible refine Le0.bind ?_ (fun _ => ?_) | with_reducible refine Le0.ite ?_ ?_ | with_reducible refine Le0.chk ?_ | with_reducible refine Le0.out ?_ | with_reducible exact Le0.refl _)

def law04_own_L2' (n : Nat) (p_d : api_Disk) (s2 : Int × (List api_Page)) : Option ((List api_Page)) := loopN (law04_own_B2' n p_d) n s2

theorem le_law04_own_L2 (n : Nat) (p_d : api_Disk) (s2 : Int × (List api_Page)) : Le0 (law04_own_L2' n p_d s2) (law04_own_L2 p_d s2) := Le0.loop (fun s => le_law04_own_B2 n p_d s) n s2

def law04_own' (n : Nat) (p_d : api_Disk) : Option api_Disk := (law04_own_L1' n p_d ((0, []))).bind fun v1 => (law04_own_L2' n p_d ((0, []))).bind fun v2 => some ((⟨v1, v2, p_d.Down⟩ : api_Disk))

theorem le_law04_own (n : Nat) (p_d : api_Disk) : Le0 (law04_own' n p_d) (law04_own p_d) := by
  unfold law04_own' law04_own
  repeat' (first | with_reducible apply le_law04_own_L1 | with_reducible apply le_law04_own_L2 | with_reducible refine Le0.bind ?_ (fun _ => ?_) | with_reducible refine Le0.ite ?_ ?_ | with_reducible refine Le0.chk ?_ | with_reducible refine Le0.out ?_ | with_reducible exact Le0.refl _)

def law04_step' (n : Nat) (p_d : api_Disk) (p_x : law04_Act) : Option (api_Disk × Int) := if (p_x.Do == 0) then (disk_Write' n p_d p_x.At p_x.Data).bind fun x1 => some ((x1.1, x1.2)) else if (p_x.Do == 1) then (disk_Sync' n p_d).bind fun x2 => some ((x2.1, x2.2)) else if (p_x.Do == 2) then (disk_Crash' n p_d p_x.N).bind fun x3 => some ((x3, 0)) else if (p_x.Do == 3) then (disk_Up' n p_d).bind fun x4 => some ((x4, 0)) else if (p_x.Do == 4) then (disk_Rot' n p_d p_x.At p_x.N).bind fun x5 => some ((x5, 0)) else some ((p_d, 0))

theorem le_law04_step (n : Nat) (p_d : api_Disk) (p_x : law04_Act) : Le0 (law04_step' n p_d p_x) (law04_step p_d p_x) := by
  unfold law04_step' law04_step
  repeat' (first | with_reducible apply le_disk_Write | with_reducible apply le_disk_Sync | with_reducible apply le_disk_Crash | with_reducible apply le_disk_Up | with_reducible apply le_disk_Rot | with_reducible refine Le0.bind ?_ (fun _ => ?_) | with_reducible refine Le0.ite ?_ ?_ | with_reducible refine Le0.chk ?_ | with_reducible refine Le0.out ?_ | with_reducible exact Le0.refl _)

def ref04_Write' (n : Nat) (p_d : api_Disk) (p_at : Int) (p_data : List UInt8) : Option (api_Disk × Int) := if p_d.Down then some ((p_d, 40)) else (ref04_Page' n ((⟨p_at, p_data⟩ : api_Page))).bind fun x1 => if (!x1) then some ((p_d, 1)) else chk (p_d.Loose.length * 32 ≤ 140737488355328) (chk ((p_d.Loose.length + ([(⟨p_at, p_data⟩ : api_Page)]).length) * 32 ≤ 140737488355328) (some (((⟨p_d.Synced, (p_d.Loose ++ [(⟨p_at, p_data⟩ : api_Page)]), false⟩ : api_Disk), 0))))

theorem le_ref04_Write (n : Nat) (p_d : api_Disk) (p_at : Int) (p_data : List UInt8) : Le0 (ref04_Write' n p_d p_at p_data) (ref04_Write p_d p_at p_data) := by
  unfold ref04_Write' ref04_Write
  repeat' (first | with_reducible apply le_ref04_Page | with_reducible refine Le0.bind ?_ (fun _ => ?_) | with_reducible refine Le0.ite ?_ ?_ | with_reducible refine Le0.chk ?_ | with_reducible refine Le0.out ?_ | with_reducible exact Le0.refl _)

def ref04_lay_B1' (_n : Nat) (p_l : List api_Page) (p_p : api_Page) (s1 : Bool × Int × (List api_Page)) : Option ((Bool × Int × (List api_Page)) ⊕ (Bool × (List api_Page))) := if (decide (s1.2.1 < (p_l.length : Int))) then ((((if (!s1.1) then (idx p_l s1.2.1).bind fun x1 => some ((decide (x1.At ≥ p_p.At))) else some false).bind fun c1 => some c1).bind fun v4 => if v4 then chk ((s1.2.2.length + ([p_p]).length) * 32 ≤ 140737488355328) (some ((true, (s1.2.2 ++ [p_p])))) else some ((s1.1, s1.2.2))).bind fun v3 => (idx p_l s1.2.1).bind fun x2 => if (x2.At != p_p.At) then (idx p_l s1.2.1).bind fun x3 => chk ((v3.2.length + ([x3]).length) * 32 ≤ 140737488355328) (some ((v3.1, (v3.2 ++ [x3])))) else some ((v3.1, v3.2))).bind fun v2 => chk (InI64 (s1.2.1 + 1)) (some (.inl ((v2.1, (s1.2.1 + 1), v2.2)))) else out (some ((s1.1, s1.2.2)))

theorem le_ref04_lay_B1 (n : Nat) (p_l : List api_Page) (p_p : api_Page) (s1 : Bool × Int × (List api_Page)) : Le0 (ref04_lay_B1' n p_l p_p s1) (ref04_lay_B1 p_l p_p s1) := by
  unfold ref04_lay_B1' ref04_lay_B1
  repeat' (first | with_reducible refine Le0.bind ?_ (fun _ => ?_) | with_reducible refine Le0.ite ?_ ?_ | with_reducible refine Le0.chk ?_ | with_reducible refine Le0.out ?_ | with_reducible exact Le0.refl _)

def ref04_lay_L1' (n : Nat) (p_l : List api_Page) (p_p : api_Page) (s1 : Bool × Int × (List api_Page)) : Option (Bool × (List api_Page)) := loopN (ref04_lay_B1' n p_l p_p) n s1

theorem le_ref04_lay_L1 (n : Nat) (p_l : List api_Page) (p_p : api_Page) (s1 : Bool × Int × (List api_Page)) : Le0 (ref04_lay_L1' n p_l p_p s1) (ref04_lay_L1 p_l p_p s1) := Le0.loop (fun s => le_ref04_lay_B1 n p_l p_p s) n s1

def ref04_lay' (n : Nat) (p_l : List api_Page) (p_p : api_Page) : Option ((List api_Page)) := (ref04_lay_L1' n p_l p_p ((false, 0, []))).bind fun v1 => (if (!v1.1) then chk ((v1.2.length + ([p_p]).length) * 32 ≤ 140737488355328) (some ((v1.2 ++ [p_p]))) else some v1.2).bind fun v5 => some v5

theorem le_ref04_lay (n : Nat) (p_l : List api_Page) (p_p : api_Page) : Le0 (ref04_lay' n p_l p_p) (ref04_lay p_l p_p) := by
  unfold ref04_lay' ref04_lay
  repeat' (first | with_reducible apply le_ref04_lay_L1 | with_reducible refine Le0.bind ?_ (fun _ => ?_) | with_reducible refine Le0.ite ?_ ?_ | with_reducible refine Le0.chk ?_ | with_reducible refine Le0.out ?_ | with_reducible exact Le0.refl _)

def ref04_Sync_B1' (n : Nat) (p_d : api_Disk) (s1 : Int × (List api_Page)) : Option ((Int × (List api_Page)) ⊕ ((List api_Page))) := if (decide (s1.1 < (p_d.Loose.length : Int))) then (idx p_d.Loose s1.1).bind fun x1 => (ref04_lay' n s1.2 x1).bind fun x2 => chk (InI64 (s1.1 + 1)) (some (.inl (((s1.1 + 1), x2)))) else out (some s1.2)

theorem le_ref04_Sync_B1 (n : Nat) (p_d : api_Disk) (s1 : Int × (List api_Page)) : Le0 (ref04_Sync_B1' n p_d s1) (ref04_Sync_B1 p_d s1) := by
  unfold ref04_Sync_B1' ref04_Sync_B1
  repeat' (first | with_reducible apply le_ref04_lay | with_reducible refine Le0.bind ?_ (fun _ => ?_) | with_reducible refine Le0.ite ?_ ?_ | with_reducible refine Le0.chk ?_ | with_reducible refine Le0.out ?_ | with_reducible exact Le0.refl _)

def ref04_Sync_L1' (n : Nat) (p_d : api_Disk) (s1 : Int × (List api_Page)) : Option ((List api_Page)) := loopN (ref04_Sync_B1' n p_d) n s1

theorem le_ref04_Sync_L1 (n : Nat) (p_d : api_Disk) (s1 : Int × (List api_Page)) : Le0 (ref04_Sync_L1' n p_d s1) (ref04_Sync_L1 p_d s1) := Le0.loop (fun s => le_ref04_Sync_B1 n p_d s) n s1

def ref04_Sync' (n : Nat) (p_d : api_Disk) : Option (api_Disk × Int) := if p_d.Down then some ((p_d, 40)) else (ref04_Sync_L1' n p_d ((0, p_d.Synced))).bind fun v1 => some (((⟨v1, [], false⟩ : api_Disk), 0))

theorem le_ref04_Sync (n : Nat) (p_d : api_Disk) : Le0 (ref04_Sync' n p_d) (ref04_Sync p_d) := by
  unfold ref04_Sync' ref04_Sync
  repeat' (first | with_reducible apply le_ref04_Sync_L1 | with_reducible refine Le0.bind ?_ (fun _ => ?_) | with_reducible refine Le0.ite ?_ ?_ | with_reducible refine Le0.chk ?_ | with_reducible refine Le0.out ?_ | with_reducible exact Le0.refl _)

def ref04_Crash_B1' (n : Nat) (p_d : api_Disk) (p_keep : Int) (s1 : Int × (List api_Page)) : Option ((Int × (List api_Page)) ⊕ ((List api_Page))) := ((if (decide (s1.1 < (p_d.Loose.length : Int))) then some ((decide (s1.1 < p_keep))) else some false).bind fun c1 => some c1).bind fun v2 => if v2 then (idx p_d.Loose s1.1).bind fun x1 => (ref04_lay' n s1.2 x1).bind fun x2 => chk (InI64 (s1.1 + 1)) (some (.inl (((s1.1 + 1), x2)))) else out (some s1.2)

theorem le_ref04_Crash_B1 (n : Nat) (p_d : api_Disk) (p_keep : Int) (s1 : Int × (List api_Page)) : Le0 (ref04_Crash_B1' n p_d p_keep s1) (ref04_Crash_B1 p_d p_keep s1) := by
  unfold ref04_Crash_B1' ref04_Crash_B1
  repeat' (first | with_reducible apply le_ref04_lay | with_reducible refine Le0.bind ?_ (fun _ => ?_) | with_reducible refine Le0.ite ?_ ?_ | with_reducible refine Le0.chk ?_ | with_reducible refine Le0.out ?_ | with_reducible exact Le0.refl _)

def ref04_Crash_L1' (n : Nat) (p_d : api_Disk) (p_keep : Int) (s1 : Int × (List api_Page)) : Option ((List api_Page)) := loopN (ref04_Crash_B1' n p_d p_keep) n s1

theorem le_ref04_Crash_L1 (n : Nat) (p_d : api_Disk) (p_keep : Int) (s1 : Int × (List api_Page)) : Le0 (ref04_Crash_L1' n p_d p_keep s1) (ref04_Crash_L1 p_d p_keep s1) := Le0.loop (fun s => le_ref04_Crash_B1 n p_d p_keep s) n s1

def ref04_Crash' (n : Nat) (p_d : api_Disk) (p_keep : Int) : Option api_Disk := (ref04_Crash_L1' n p_d p_keep ((0, p_d.Synced))).bind fun v1 => some ((⟨v1, [], true⟩ : api_Disk))

theorem le_ref04_Crash (n : Nat) (p_d : api_Disk) (p_keep : Int) : Le0 (ref04_Crash' n p_d p_keep) (ref04_Crash p_d p_keep) := by
  unfold ref04_Crash' ref04_Crash
  repeat' (first | with_reducible apply le_ref04_Crash_L1 | with_reducible refine Le0.bind ?_ (fun _ => ?_) | with_reducible refine Le0.ite ?_ ?_ | with_reducible refine Le0.chk ?_ | with_reducible refine Le0.out ?_ | with_reducible exact Le0.refl _)

def ref04_flip_B1' (_n : Nat) (p_bit : Int) (s1 : Int × Int) : Option ((Int × Int) ⊕ Int) := if (decide (s1.2 < p_bit)) then chk (InI64 (2 * s1.1)) (chk (InI64 (s1.2 + 1)) (some (.inl (((2 * s1.1), (s1.2 + 1)))))) else out (some s1.1)

theorem le_ref04_flip_B1 (n : Nat) (p_bit : Int) (s1 : Int × Int) : Le0 (ref04_flip_B1' n p_bit s1) (ref04_flip_B1 p_bit s1) := by
  unfold ref04_flip_B1' ref04_flip_B1
  repeat' (first | with_reducible refine Le0.bind ?_ (fun _ => ?_) | with_reducible refine Le0.ite ?_ ?_ | with_reducible refine Le0.chk ?_ | with_reducible refine Le0.out ?_ | with_reducible exact Le0.refl _)

def ref04_flip_L1' (n : Nat) (p_bit : Int) (s1 : Int × Int) : Option Int := loopN (ref04_flip_B1' n p_bit) n s1

theorem le_ref04_flip_L1 (n : Nat) (p_bit : Int) (s1 : Int × Int) : Le0 (ref04_flip_L1' n p_bit s1) (ref04_flip_L1 p_bit s1) := Le0.loop (fun s => le_ref04_flip_B1 n p_bit s) n s1

def ref04_flip' (n : Nat) (p_b : UInt8) (p_bit : Int) : Option UInt8 := (ref04_flip_L1' n p_bit ((1, 0))).bind fun v1 => chk (v1 ≠ 0) (if ((Int.tmod ((quoK .i64 ((p_b.toNat : Int)) v1)) (2)) == 1) then chk (InI64 ((p_b.toNat : Int) - v1)) (some ((toU8 (((p_b.toNat : Int) - v1))))) else chk (InI64 ((p_b.toNat : Int) + v1)) (some ((toU8 (((p_b.toNat : Int) + v1))))))

theorem le_ref04_flip (n : Nat) (p_b : UInt8) (p_bit : Int) : Le0 (ref04_flip' n p_b p_bit) (ref04_flip p_b p_bit) := by
  unfold ref04_flip' ref04_flip
  repeat' (first | with_reducible apply le_ref04_flip_L1 | with_reducible refine Le0.bind ?_ (fun _ => ?_) | with_reducible refine Le0.ite ?_ ?_ | with_reducible refine Le0.chk ?_ | with_reducible refine Le0.out ?_ | with_reducible exact Le0.refl _)

def ref04_Rot_B1' (n : Nat) (p_d : api_Disk) (p_at : Int) (p_bit : Int) (s1 : Int × (List api_Page)) : Option ((Int × (List api_Page)) ⊕ ((List api_Page))) := if (decide (s1.1 < (p_d.Synced.length : Int))) then (idx p_d.Synced s1.1).bind fun x1 => (idx p_d.Synced s1.1).bind fun x2 => chk (x2.Data.length * 1 ≤ 140737488355328) ((((if (x1.At == p_at) then some ((decide (p_bit ≥ 0))) else some false).bind fun c1 => (if c1 then chk (InI64 (8 * (x2.Data.length : Int))) (some ((decide (p_bit < (8 * (x2.Data.length : Int)))))) else some false).bind fun c2 => some c2).bind fun v3 => if v3 then (idx x2.Data ((quoK .i64 p_bit (8)))).bind fun x3 => (ref04_flip' n x3 ((Int.tmod p_bit (8)))).bind fun x4 => (idx x2.Data ((quoK .i64 p_bit (8)))).bind fun _ => some ((x2.Data.set ((quoK .i64 p_bit (8))).toNat x4)) else some x2.Data).bind fun v2 => chk ((s1.2.length + ([(⟨x1.At, v2⟩ : api_Page)]).length) * 32 ≤ 140737488355328) (chk (InI64 (s1.1 + 1)) (some (.inl (((s1.1 + 1), (s1.2 ++ [(⟨x1.At, v2⟩ : api_Page)]))))))) else out (some s1.2)

theorem le_ref04_Rot_B1 (n : Nat) (p_d : api_Disk) (p_at : Int) (p_bit : Int) (s1 : Int × (List api_Page)) : Le0 (ref04_Rot_B1' n p_d p_at p_bit s1) (ref04_Rot_B1 p_d p_at p_bit s1) := by
  unfold ref04_Rot_B1' ref04_Rot_B1
  repeat' (first | with_reducible apply le_ref04_flip | with_reducible refine Le0.bind ?_ (fun _ => ?_) | with_reducible refine Le0.ite ?_ ?_ | with_reducible refine Le0.chk ?_ | with_reducible refine Le0.out ?_ | with_reducible exact Le0.refl _)

def ref04_Rot_L1' (n : Nat) (p_d : api_Disk) (p_at : Int) (p_bit : Int) (s1 : Int × (List api_Page)) : Option ((List api_Page)) := loopN (ref04_Rot_B1' n p_d p_at p_bit) n s1

theorem le_ref04_Rot_L1 (n : Nat) (p_d : api_Disk) (p_at : Int) (p_bit : Int) (s1 : Int × (List api_Page)) : Le0 (ref04_Rot_L1' n p_d p_at p_bit s1) (ref04_Rot_L1 p_d p_at p_bit s1) := Le0.loop (fun s => le_ref04_Rot_B1 n p_d p_at p_bit s) n s1

def ref04_Rot' (n : Nat) (p_d : api_Disk) (p_at : Int) (p_bit : Int) : Option api_Disk := (ref04_Rot_L1' n p_d p_at p_bit ((0, []))).bind fun v1 => some ((⟨v1, p_d.Loose, p_d.Down⟩ : api_Disk))

theorem le_ref04_Rot (n : Nat) (p_d : api_Disk) (p_at : Int) (p_bit : Int) : Le0 (ref04_Rot' n p_d p_at p_bit) (ref04_Rot p_d p_at p_bit) := by
  unfold ref04_Rot' ref04_Rot
  repeat' (first | with_reducible apply le_ref04_Rot_L1 | with_reducible refine Le0.bind ?_ (fun _ => ?_) | with_reducible refine Le0.ite ?_ ?_ | with_reducible refine Le0.chk ?_ | with_reducible refine Le0.out ?_ | with_reducible exact Le0.refl _)

def law04_told' (n : Nat) (p_d : api_Disk) (p_x : law04_Act) : Option (api_Disk × Int) := if (p_x.Do == 0) then (ref04_Write' n p_d p_x.At p_x.Data).bind fun x1 => some ((x1.1, x1.2)) else if (p_x.Do == 1) then (ref04_Sync' n p_d).bind fun x2 => some ((x2.1, x2.2)) else if (p_x.Do == 2) then (ref04_Crash' n p_d p_x.N).bind fun x3 => some ((x3, 0)) else if (p_x.Do == 3) then some (((⟨p_d.Synced, p_d.Loose, false⟩ : api_Disk), 0)) else if (p_x.Do == 4) then (ref04_Rot' n p_d p_x.At p_x.N).bind fun x4 => some ((x4, 0)) else some ((p_d, 0))

theorem le_law04_told (n : Nat) (p_d : api_Disk) (p_x : law04_Act) : Le0 (law04_told' n p_d p_x) (law04_told p_d p_x) := by
  unfold law04_told' law04_told
  repeat' (first | with_reducible apply le_ref04_Write | with_reducible apply le_ref04_Sync | with_reducible apply le_ref04_Crash | with_reducible apply le_ref04_Rot | with_reducible refine Le0.bind ?_ (fun _ => ?_) | with_reducible refine Le0.ite ?_ ?_ | with_reducible refine Le0.chk ?_ | with_reducible refine Le0.out ?_ | with_reducible exact Le0.refl _)

def ref04_Pages_J1' (_n : Nat) (_v1 : Unit) : Option Bool := some true

theorem le_ref04_Pages_J1 (n : Nat) (_v1 : Unit) : Le0 (ref04_Pages_J1' n _v1) (ref04_Pages_J1 _v1) := by
  unfold ref04_Pages_J1' ref04_Pages_J1
  repeat' (first | with_reducible refine Le0.bind ?_ (fun _ => ?_) | with_reducible refine Le0.ite ?_ ?_ | with_reducible refine Le0.chk ?_ | with_reducible refine Le0.out ?_ | with_reducible exact Le0.refl _)

def ref04_Pages_B1' (n : Nat) (p_a : List api_Page) (p_b : List api_Page) (s1 : Int) : Option ((Int) ⊕ Bool) := if (decide (s1 < (p_a.length : Int))) then (idx p_a s1).bind fun x1 => (idx p_b s1).bind fun x2 => (ref04_Bytes' n x1.Data x2.Data).bind fun x3 => ((if (!x3) then some true else (idx p_a s1).bind fun x4 => (idx p_b s1).bind fun x5 => some ((x4.At != x5.At))).bind fun c1 => some c1).bind fun v2 => if v2 then out (some false) else chk (InI64 (s1 + 1)) (some (.inl ((s1 + 1)))) else out (ref04_Pages_J1' n (()))

theorem le_ref04_Pages_B1 (n : Nat) (p_a : List api_Page) (p_b : List api_Page) (s1 : Int) : Le0 (ref04_Pages_B1' n p_a p_b s1) (ref04_Pages_B1 p_a p_b s1) := by
  unfold ref04_Pages_B1' ref04_Pages_B1
  repeat' (first | with_reducible apply le_ref04_Bytes | with_reducible apply le_ref04_Pages_J1 | with_reducible refine Le0.bind ?_ (fun _ => ?_) | with_reducible refine Le0.ite ?_ ?_ | with_reducible refine Le0.chk ?_ | with_reducible refine Le0.out ?_ | with_reducible exact Le0.refl _)

def ref04_Pages_L1' (n : Nat) (p_a : List api_Page) (p_b : List api_Page) (s1 : Int) : Option Bool := loopN (ref04_Pages_B1' n p_a p_b) n s1

theorem le_ref04_Pages_L1 (n : Nat) (p_a : List api_Page) (p_b : List api_Page) (s1 : Int) : Le0 (ref04_Pages_L1' n p_a p_b s1) (ref04_Pages_L1 p_a p_b s1) := Le0.loop (fun s => le_ref04_Pages_B1 n p_a p_b s) n s1

def ref04_Pages' (n : Nat) (p_a : List api_Page) (p_b : List api_Page) : Option Bool := if ((p_a.length : Int) != (p_b.length : Int)) then some false else ref04_Pages_L1' n p_a p_b (0)

theorem le_ref04_Pages (n : Nat) (p_a : List api_Page) (p_b : List api_Page) : Le0 (ref04_Pages' n p_a p_b) (ref04_Pages p_a p_b) := by
  unfold ref04_Pages' ref04_Pages
  repeat' (first | with_reducible apply le_ref04_Pages_L1 | with_reducible refine Le0.bind ?_ (fun _ => ?_) | with_reducible refine Le0.ite ?_ ?_ | with_reducible refine Le0.chk ?_ | with_reducible refine Le0.out ?_ | with_reducible exact Le0.refl _)

def ref04_Same' (n : Nat) (p_a : api_Disk) (p_b : api_Disk) : Option Bool := (ref04_Pages' n p_a.Synced p_b.Synced).bind fun x1 => (ref04_Pages' n p_a.Loose p_b.Loose).bind fun x2 => ((if x1 then some x2 else some false).bind fun c1 => (if c1 then some ((p_a.Down == p_b.Down)) else some false).bind fun c2 => some c2).bind fun v1 => some v1

theorem le_ref04_Same (n : Nat) (p_a : api_Disk) (p_b : api_Disk) : Le0 (ref04_Same' n p_a p_b) (ref04_Same p_a p_b) := by
  unfold ref04_Same' ref04_Same
  repeat' (first | with_reducible apply le_ref04_Pages | with_reducible refine Le0.bind ?_ (fun _ => ?_) | with_reducible refine Le0.ite ?_ ?_ | with_reducible refine Le0.chk ?_ | with_reducible refine Le0.out ?_ | with_reducible exact Le0.refl _)

def ref04_Read_J2' (_n : Nat) (_v3 : Unit) : Option ((List UInt8) × Int) := some (([], 41))

theorem le_ref04_Read_J2 (n : Nat) (_v3 : Unit) : Le0 (ref04_Read_J2' n _v3) (ref04_Read_J2 _v3) := by
  unfold ref04_Read_J2' ref04_Read_J2
  repeat' (first | with_reducible refine Le0.bind ?_ (fun _ => ?_) | with_reducible refine Le0.ite ?_ ?_ | with_reducible refine Le0.chk ?_ | with_reducible refine Le0.out ?_ | with_reducible exact Le0.refl _)

def ref04_Read_B2' (n : Nat) (p_d : api_Disk) (p_at : Int) (s2 : Int) : Option ((Int) ⊕ ((List UInt8) × Int)) := if (decide (s2 < (p_d.Synced.length : Int))) then (idx p_d.Synced s2).bind fun x3 => if (x3.At == p_at) then (idx p_d.Synced s2).bind fun x4 => out (some ((x4.Data, 0))) else chk (InI64 (s2 + 1)) (some (.inl ((s2 + 1)))) else out (ref04_Read_J2' n (()))

theorem le_ref04_Read_B2 (n : Nat) (p_d : api_Disk) (p_at : Int) (s2 : Int) : Le0 (ref04_Read_B2' n p_d p_at s2) (ref04_Read_B2 p_d p_at s2) := by
  unfold ref04_Read_B2' ref04_Read_B2
  repeat' (first | with_reducible apply le_ref04_Read_J2 | with_reducible refine Le0.bind ?_ (fun _ => ?_) | with_reducible refine Le0.ite ?_ ?_ | with_reducible refine Le0.chk ?_ | with_reducible refine Le0.out ?_ | with_reducible exact Le0.refl _)

def ref04_Read_L2' (n : Nat) (p_d : api_Disk) (p_at : Int) (s2 : Int) : Option ((List UInt8) × Int) := loopN (ref04_Read_B2' n p_d p_at) n s2

theorem le_ref04_Read_L2 (n : Nat) (p_d : api_Disk) (p_at : Int) (s2 : Int) : Le0 (ref04_Read_L2' n p_d p_at s2) (ref04_Read_L2 p_d p_at s2) := Le0.loop (fun s => le_ref04_Read_B2 n p_d p_at s) n s2

def ref04_Read_J1' (n : Nat) (p_d : api_Disk) (p_at : Int) (_v2 : Unit) : Option ((List UInt8) × Int) := ref04_Read_L2' n p_d p_at (0)

theorem le_ref04_Read_J1 (n : Nat) (p_d : api_Disk) (p_at : Int) (_v2 : Unit) : Le0 (ref04_Read_J1' n p_d p_at _v2) (ref04_Read_J1 p_d p_at _v2) := by
  unfold ref04_Read_J1' ref04_Read_J1
  repeat' (first | with_reducible apply le_ref04_Read_L2 | with_reducible refine Le0.bind ?_ (fun _ => ?_) | with_reducible refine Le0.ite ?_ ?_ | with_reducible refine Le0.chk ?_ | with_reducible refine Le0.out ?_ | with_reducible exact Le0.refl _)

def ref04_Read_B1' (n : Nat) (p_d : api_Disk) (p_at : Int) (s1 : Int) : Option ((Int) ⊕ ((List UInt8) × Int)) := if (decide (s1 ≥ 0)) then (idx p_d.Loose s1).bind fun x1 => if (x1.At == p_at) then (idx p_d.Loose s1).bind fun x2 => out (some ((x2.Data, 0))) else chk (InI64 (s1 - 1)) (some (.inl ((s1 - 1)))) else out (ref04_Read_J1' n p_d p_at (()))

theorem le_ref04_Read_B1 (n : Nat) (p_d : api_Disk) (p_at : Int) (s1 : Int) : Le0 (ref04_Read_B1' n p_d p_at s1) (ref04_Read_B1 p_d p_at s1) := by
  unfold ref04_Read_B1' ref04_Read_B1
  repeat' (first | with_reducible apply le_ref04_Read_J1 | with_reducible refine Le0.bind ?_ (fun _ => ?_) | with_reducible refine Le0.ite ?_ ?_ | with_reducible refine Le0.chk ?_ | with_reducible refine Le0.out ?_ | with_reducible exact Le0.refl _)

def ref04_Read_L1' (n : Nat) (p_d : api_Disk) (p_at : Int) (s1 : Int) : Option ((List UInt8) × Int) := loopN (ref04_Read_B1' n p_d p_at) n s1

theorem le_ref04_Read_L1 (n : Nat) (p_d : api_Disk) (p_at : Int) (s1 : Int) : Le0 (ref04_Read_L1' n p_d p_at s1) (ref04_Read_L1 p_d p_at s1) := Le0.loop (fun s => le_ref04_Read_B1 n p_d p_at s) n s1

def ref04_Read' (n : Nat) (p_d : api_Disk) (p_at : Int) : Option ((List UInt8) × Int) := if p_d.Down then some (([], 40)) else ((if (decide (p_at < 0)) then some true else some ((decide (p_at > 999)))).bind fun c1 => some c1).bind fun v1 => if v1 then some (([], 1)) else chk (InI64 ((p_d.Loose.length : Int) - 1)) (ref04_Read_L1' n p_d p_at (((p_d.Loose.length : Int) - 1)))

theorem le_ref04_Read (n : Nat) (p_d : api_Disk) (p_at : Int) : Le0 (ref04_Read' n p_d p_at) (ref04_Read p_d p_at) := by
  unfold ref04_Read' ref04_Read
  repeat' (first | with_reducible apply le_ref04_Read_L1 | with_reducible refine Le0.bind ?_ (fun _ => ?_) | with_reducible refine Le0.ite ?_ ?_ | with_reducible refine Le0.chk ?_ | with_reducible refine Le0.out ?_ | with_reducible exact Le0.refl _)

def law04_DiskTells_J1' (_n : Nat) (x1 : Bool) (x2 : Bool) (_v3 : Unit) : Option Bool := ((if x1 then some x2 else some false).bind fun c10 => some c10).bind fun v6 => some v6

theorem le_law04_DiskTells_J1 (n : Nat) (x1 : Bool) (x2 : Bool) (_v3 : Unit) : Le0 (law04_DiskTells_J1' n x1 x2 _v3) (law04_DiskTells_J1 x1 x2 _v3) := by
  unfold law04_DiskTells_J1' law04_DiskTells_J1
  repeat' (first | with_reducible refine Le0.bind ?_ (fun _ => ?_) | with_reducible refine Le0.ite ?_ ?_ | with_reducible refine Le0.chk ?_ | with_reducible refine Le0.out ?_ | with_reducible exact Le0.refl _)

def law04_DiskTells_B1' (n : Nat) (p_l : List law04_Act) (p_at : Int) (x1 : Bool) (x2 : Bool) (s1 : Int × (List api_Page) × (List api_Page) × Bool × (List api_Page) × (List api_Page) × Bool) : Option ((Int × (List api_Page) × (List api_Page) × Bool × (List api_Page) × (List api_Page) × Bool) ⊕ Bool) := if (decide (s1.1 < (p_l.length : Int))) then (law04_own' n ((⟨s1.2.1, s1.2.2.1, s1.2.2.2.1⟩ : api_Disk))).bind fun x6 => (idx p_l s1.1).bind fun x7 => (law04_step' n ((⟨s1.2.1, s1.2.2.1, s1.2.2.2.1⟩ : api_Disk)) x7).bind fun x8 => (idx p_l s1.1).bind fun x9 => (law04_told' n ((⟨s1.2.2.2.2.1, s1.2.2.2.2.2.1, s1.2.2.2.2.2.2⟩ : api_Disk)) x9).bind fun x10 => (ref04_Same' n x8.1 x10.1).bind fun x11 => (ref04_Same' n x6 ((⟨s1.2.1, s1.2.2.1, s1.2.2.2.1⟩ : api_Disk))).bind fun x12 => ((if (!x11) then some true else some ((!x12))).bind fun c6 => (if c6 then some true else some ((x8.2 != x10.2))).bind fun c7 => (if c7 then some true else (disk_Right' n x8.1).bind fun x13 => some ((!x13))).bind fun c8 => some c8).bind fun v4 => if v4 then out (some false) else (disk_Read' n x8.1 p_at).bind fun x14 => (ref04_Read' n x10.1 p_at).bind fun x15 => (ref04_Bytes' n x14.1 x15.1).bind fun x16 => ((if (!x16) then some true else some ((x14.2 != x15.2))).bind fun c9 => some c9).bind fun v5 => if v5 then out (some false) else chk (InI64 (s1.1 + 1)) (some (.inl (((s1.1 + 1), x8.1.Synced, x8.1.Loose, x8.1.Down, x10.1.Synced, x10.1.Loose, x10.1.Down)))) else out (law04_DiskTells_J1' n x1 x2 (()))

theorem le_law04_DiskTells_B1 (n : Nat) (p_l : List law04_Act) (p_at : Int) (x1 : Bool) (x2 : Bool) (s1 : Int × (List api_Page) × (List api_Page) × Bool × (List api_Page) × (List api_Page) × Bool) : Le0 (law04_DiskTells_B1' n p_l p_at x1 x2 s1) (law04_DiskTells_B1 p_l p_at x1 x2 s1) := by
  unfold law04_DiskTells_B1' law04_DiskTells_B1
  repeat' (first | with_reducible apply le_law04_own | with_reducible apply le_law04_step | with_reducible apply le_law04_told | with_reducible apply le_ref04_Same | with_reducible apply le_disk_Right | with_reducible apply le_disk_Read | with_reducible apply le_ref04_Read | with_reducible apply le_ref04_Bytes | with_reducible apply le_law04_DiskTells_J1 | with_reducible refine Le0.bind ?_ (fun _ => ?_) | with_reducible refine Le0.ite ?_ ?_ | with_reducible refine Le0.chk ?_ | with_reducible refine Le0.out ?_ | with_reducible exact Le0.refl _)

def law04_DiskTells_L1' (n : Nat) (p_l : List law04_Act) (p_at : Int) (x1 : Bool) (x2 : Bool) (s1 : Int × (List api_Page) × (List api_Page) × Bool × (List api_Page) × (List api_Page) × Bool) : Option Bool := loopN (law04_DiskTells_B1' n p_l p_at x1 x2) n s1

theorem le_law04_DiskTells_L1 (n : Nat) (p_l : List law04_Act) (p_at : Int) (x1 : Bool) (x2 : Bool) (s1 : Int × (List api_Page) × (List api_Page) × Bool × (List api_Page) × (List api_Page) × Bool) : Le0 (law04_DiskTells_L1' n p_l p_at x1 x2 s1) (law04_DiskTells_L1 p_l p_at x1 x2 s1) := Le0.loop (fun s => le_law04_DiskTells_B1 n p_l p_at x1 x2 s) n s1

def law04_DiskTells' (n : Nat) (p_d : api_Disk) (p_l : List law04_Act) (p_at : Int) : Option Bool := (law04_head' n).bind fun x1 => (disk_Right' n p_d).bind fun x2 => (law04_Fits' n p_d).bind fun x3 => ((if (!x3) then some true else some ((decide ((p_l.length : Int) > 60)))).bind fun c1 => some c1).bind fun v1 => if v1 then ((if x1 then (if (decide ((p_d.Synced.length : Int) > 60)) then some true else some ((decide ((p_d.Loose.length : Int) > 60)))).bind fun c2 => (if c2 then some true else some ((decide ((p_l.length : Int) > 60)))).bind fun c3 => (if c3 then some true else some ((x2 == x3))).bind fun c4 => some c4 else some false).bind fun c5 => some c5).bind fun v2 => some v2 else (law04_own' n p_d).bind fun x4 => (law04_own' n p_d).bind fun x5 => law04_DiskTells_L1' n p_l p_at x1 x2 ((0, x4.Synced, x4.Loose, x4.Down, x5.Synced, x5.Loose, x5.Down))

theorem le_law04_DiskTells (n : Nat) (p_d : api_Disk) (p_l : List law04_Act) (p_at : Int) : Le0 (law04_DiskTells' n p_d p_l p_at) (law04_DiskTells p_d p_l p_at) := by
  unfold law04_DiskTells' law04_DiskTells
  repeat' (first | with_reducible apply le_law04_head | with_reducible apply le_disk_Right | with_reducible apply le_law04_Fits | with_reducible apply le_law04_own | with_reducible apply le_law04_DiskTells_L1 | with_reducible refine Le0.bind ?_ (fun _ => ?_) | with_reducible refine Le0.ite ?_ ?_ | with_reducible refine Le0.chk ?_ | with_reducible refine Le0.out ?_ | with_reducible exact Le0.refl _)

def law04_DiskWritten' (n : Nat) (p_d : api_Disk) (p_at : Int) (p_data : List UInt8) (p_other : Int) : Option Bool := (law04_head' n).bind fun x1 => (law04_Fits' n p_d).bind fun x2 => ((if (!x2) then some true else some p_d.Down).bind fun c1 => (if c1 then some true else some ((decide (p_at < 0)))).bind fun c2 => (if c2 then some true else some ((decide (p_at > 999)))).bind fun c3 => (if c3 then some true else some ((decide ((p_data.length : Int) > 200)))).bind fun c4 => some c4).bind fun v1 => if v1 then some x1 else (disk_Read' n p_d p_other).bind fun x3 => (disk_Write' n p_d p_at p_data).bind fun x4 => (disk_Read' n x4.1 p_at).bind fun x5 => (disk_Sync' n x4.1).bind fun x6 => (disk_Read' n x6.1 p_at).bind fun x7 => (ref04_Bytes' n x5.1 p_data).bind fun x8 => (ref04_Bytes' n x7.1 p_data).bind fun x9 => ((if (!x8) then some true else some ((!x9))).bind fun c5 => (if c5 then some true else some ((x4.2 != 0))).bind fun c6 => (if c6 then some true else some ((x5.2 != 0))).bind fun c7 => (if c7 then some true else some ((x6.2 != 0))).bind fun c8 => (if c8 then some true else some ((x7.2 != 0))).bind fun c9 => some c9).bind fun v2 => if v2 then some false else if (p_other == p_at) then some x1 else (disk_Read' n x4.1 p_other).bind fun x10 => (disk_Read' n x6.1 p_other).bind fun x11 => (ref04_Bytes' n x10.1 x3.1).bind fun x12 => (ref04_Bytes' n x11.1 x3.1).bind fun x13 => ((if x1 then some x12 else some false).bind fun c10 => (if c10 then some x13 else some false).bind fun c11 => (if c11 then some ((x10.2 == x3.2)) else some false).bind fun c12 => (if c12 then some ((x11.2 == x3.2)) else some false).bind fun c13 => some c13).bind fun v3 => some v3

theorem le_law04_DiskWritten (n : Nat) (p_d : api_Disk) (p_at : Int) (p_data : List UInt8) (p_other : Int) : Le0 (law04_DiskWritten' n p_d p_at p_data p_other) (law04_DiskWritten p_d p_at p_data p_other) := by
  unfold law04_DiskWritten' law04_DiskWritten
  repeat' (first | with_reducible apply le_law04_head | with_reducible apply le_law04_Fits | with_reducible apply le_disk_Read | with_reducible apply le_disk_Write | with_reducible apply le_disk_Sync | with_reducible apply le_ref04_Bytes | with_reducible refine Le0.bind ?_ (fun _ => ?_) | with_reducible refine Le0.ite ?_ ?_ | with_reducible refine Le0.chk ?_ | with_reducible refine Le0.out ?_ | with_reducible exact Le0.refl _)

def law04_DiskSure' (n : Nat) (p_d : api_Disk) (p_keep : Int) (p_at : Int) : Option Bool := (law04_head' n).bind fun x1 => (law04_Fits' n p_d).bind fun x2 => ((if (!x2) then some true else some p_d.Down).bind fun c1 => some c1).bind fun v1 => if v1 then some x1 else (disk_Read' n p_d p_at).bind fun x3 => (disk_Sync' n p_d).bind fun x4 => (disk_Crash' n x4.1 p_keep).bind fun x5 => (disk_Up' n x5).bind fun x6 => (disk_Read' n x6 p_at).bind fun x7 => (ref04_Bytes' n x3.1 x7.1).bind fun x8 => ((if x1 then some x8 else some false).bind fun c2 => (if c2 then some ((x4.2 == 0)) else some false).bind fun c3 => (if c3 then some ((x3.2 == x7.2)) else some false).bind fun c4 => some c4).bind fun v2 => some v2

theorem le_law04_DiskSure (n : Nat) (p_d : api_Disk) (p_keep : Int) (p_at : Int) : Le0 (law04_DiskSure' n p_d p_keep p_at) (law04_DiskSure p_d p_keep p_at) := by
  unfold law04_DiskSure' law04_DiskSure
  repeat' (first | with_reducible apply le_law04_head | with_reducible apply le_law04_Fits | with_reducible apply le_disk_Read | with_reducible apply le_disk_Sync | with_reducible apply le_disk_Crash | with_reducible apply le_disk_Up | with_reducible apply le_ref04_Bytes | with_reducible refine Le0.bind ?_ (fun _ => ?_) | with_reducible refine Le0.ite ?_ ?_ | with_reducible refine Le0.chk ?_ | with_reducible refine Le0.out ?_ | with_reducible exact Le0.refl _)

def law04_DiskFirst_J1' (n : Nat) (p_keep : UInt8) (p_at : Int) (x1 : Bool) (v2 : (List api_Page) × (List api_Page) × Bool × (List api_Page) × (List api_Page) × Bool) : Option Bool := (disk_Sync' n ((⟨v2.2.2.2.1, v2.2.2.2.2.1, v2.2.2.2.2.2⟩ : api_Disk))).bind fun x9 => (disk_Crash' n ((⟨v2.1, v2.2.1, v2.2.2.1⟩ : api_Disk)) ((p_keep.toNat : Int))).bind fun x10 => (disk_Up' n x10).bind fun x11 => (disk_Read' n x11 p_at).bind fun x12 => (disk_Read' n x9.1 p_at).bind fun x13 => (ref04_Bytes' n x12.1 x13.1).bind fun x14 => ((if x1 then some x14 else some false).bind fun c5 => (if c5 then some ((x12.2 == x13.2)) else some false).bind fun c6 => (if c6 then some ((x9.2 == 0)) else some false).bind fun c7 => some c7).bind fun v6 => some v6

theorem le_law04_DiskFirst_J1 (n : Nat) (p_keep : UInt8) (p_at : Int) (x1 : Bool) (v2 : (List api_Page) × (List api_Page) × Bool × (List api_Page) × (List api_Page) × Bool) : Le0 (law04_DiskFirst_J1' n p_keep p_at x1 v2) (law04_DiskFirst_J1 p_keep p_at x1 v2) := by
  unfold law04_DiskFirst_J1' law04_DiskFirst_J1
  repeat' (first | with_reducible apply le_disk_Sync | with_reducible apply le_disk_Crash | with_reducible apply le_disk_Up | with_reducible apply le_disk_Read | with_reducible apply le_ref04_Bytes | with_reducible refine Le0.bind ?_ (fun _ => ?_) | with_reducible refine Le0.ite ?_ ?_ | with_reducible refine Le0.chk ?_ | with_reducible refine Le0.out ?_ | with_reducible exact Le0.refl _)

def law04_DiskFirst_J2' (_n : Nat) (s1 : Int × Int × (List api_Page) × (List api_Page) × Bool × (List api_Page) × (List api_Page) × Bool) (v3 : Int × (List api_Page) × (List api_Page) × Bool × (List api_Page) × (List api_Page) × Bool) : Option ((Int × Int × (List api_Page) × (List api_Page) × Bool × (List api_Page) × (List api_Page) × Bool) ⊕ Bool) := chk (InI64 (s1.2.1 + 1)) (some (.inl ((v3.1, (s1.2.1 + 1), v3.2.1, v3.2.2.1, v3.2.2.2.1, v3.2.2.2.2.1, v3.2.2.2.2.2.1, v3.2.2.2.2.2.2))))

theorem le_law04_DiskFirst_J2 (n : Nat) (s1 : Int × Int × (List api_Page) × (List api_Page) × Bool × (List api_Page) × (List api_Page) × Bool) (v3 : Int × (List api_Page) × (List api_Page) × Bool × (List api_Page) × (List api_Page) × Bool) : Le0 (law04_DiskFirst_J2' n s1 v3) (law04_DiskFirst_J2 s1 v3) := by
  unfold law04_DiskFirst_J2' law04_DiskFirst_J2
  repeat' (first | with_reducible refine Le0.bind ?_ (fun _ => ?_) | with_reducible refine Le0.ite ?_ ?_ | with_reducible refine Le0.chk ?_ | with_reducible refine Le0.out ?_ | with_reducible exact Le0.refl _)

def law04_DiskFirst_J3' (n : Nat) (x5 : api_Disk × Int) (s1 : Int × Int × (List api_Page) × (List api_Page) × Bool × (List api_Page) × (List api_Page) × Bool) (v4 : (List api_Page) × (List api_Page) × Bool) : Option ((Int × Int × (List api_Page) × (List api_Page) × Bool × (List api_Page) × (List api_Page) × Bool) ⊕ Bool) := if (x5.2 == 0) then chk (InI64 (s1.1 + 1)) (law04_DiskFirst_J2' n s1 (((s1.1 + 1), x5.1.Synced, x5.1.Loose, x5.1.Down, v4.1, v4.2.1, v4.2.2))) else law04_DiskFirst_J2' n s1 ((s1.1, x5.1.Synced, x5.1.Loose, x5.1.Down, v4.1, v4.2.1, v4.2.2))

theorem le_law04_DiskFirst_J3 (n : Nat) (x5 : api_Disk × Int) (s1 : Int × Int × (List api_Page) × (List api_Page) × Bool × (List api_Page) × (List api_Page) × Bool) (v4 : (List api_Page) × (List api_Page) × Bool) : Le0 (law04_DiskFirst_J3' n x5 s1 v4) (law04_DiskFirst_J3 x5 s1 v4) := by
  unfold law04_DiskFirst_J3' law04_DiskFirst_J3
  repeat' (first | with_reducible apply le_law04_DiskFirst_J2 | with_reducible refine Le0.bind ?_ (fun _ => ?_) | with_reducible refine Le0.ite ?_ ?_ | with_reducible refine Le0.chk ?_ | with_reducible refine Le0.out ?_ | with_reducible exact Le0.refl _)

def law04_DiskFirst_B1' (n : Nat) (p_l : List law04_Act) (p_keep : UInt8) (p_at : Int) (x1 : Bool) (s1 : Int × Int × (List api_Page) × (List api_Page) × Bool × (List api_Page) × (List api_Page) × Bool) : Option ((Int × Int × (List api_Page) × (List api_Page) × Bool × (List api_Page) × (List api_Page) × Bool) ⊕ Bool) := if (decide (s1.2.1 < (p_l.length : Int))) then (idx p_l s1.2.1).bind fun x3 => (idx p_l s1.2.1).bind fun x4 => (disk_Write' n ((⟨s1.2.2.1, s1.2.2.2.1, s1.2.2.2.2.1⟩ : api_Disk)) x3.At x4.Data).bind fun x5 => ((if (x5.2 == 0) then some ((decide (s1.1 < (p_keep.toNat : Int)))) else some false).bind fun c4 => some c4).bind fun v5 => if v5 then (idx p_l s1.2.1).bind fun x6 => (idx p_l s1.2.1).bind fun x7 => (disk_Write' n ((⟨s1.2.2.2.2.2.1, s1.2.2.2.2.2.2.1, s1.2.2.2.2.2.2.2⟩ : api_Disk)) x6.At x7.Data).bind fun x8 => if (x8.2 != 0) then out (some false) else law04_DiskFirst_J3' n x5 s1 ((x8.1.Synced, x8.1.Loose, x8.1.Down)) else law04_DiskFirst_J3' n x5 s1 ((s1.2.2.2.2.2.1, s1.2.2.2.2.2.2.1, s1.2.2.2.2.2.2.2)) else out (law04_DiskFirst_J1' n p_keep p_at x1 ((s1.2.2.1, s1.2.2.2.1, s1.2.2.2.2.1, s1.2.2.2.2.2.1, s1.2.2.2.2.2.2.1, s1.2.2.2.2.2.2.2)))

theorem le_law04_DiskFirst_B1 (n : Nat) (p_l : List law04_Act) (p_keep : UInt8) (p_at : Int) (x1 : Bool) (s1 : Int × Int × (List api_Page) × (List api_Page) × Bool × (List api_Page) × (List api_Page) × Bool) : Le0 (law04_DiskFirst_B1' n p_l p_keep p_at x1 s1) (law04_DiskFirst_B1 p_l p_keep p_at x1 s1) := by
  unfold law04_DiskFirst_B1' law04_DiskFirst_B1
  repeat' (first | with_reducible apply le_disk_Write | with_reducible apply le_law04_DiskFirst_J3 | with_reducible apply le_law04_DiskFirst_J1 | with_reducible refine Le0.bind ?_ (fun _ => ?_) | with_reducible refine Le0.ite ?_ ?_ | with_reducible refine Le0.chk ?_ | with_reducible refine Le0.out ?_ | with_reducible exact Le0.refl _)

def law04_DiskFirst_L1' (n : Nat) (p_l : List law04_Act) (p_keep : UInt8) (p_at : Int) (x1 : Bool) (s1 : Int × Int × (List api_Page) × (List api_Page) × Bool × (List api_Page) × (List api_Page) × Bool) : Option Bool := loopN (law04_DiskFirst_B1' n p_l p_keep p_at x1) n s1

theorem le_law04_DiskFirst_L1 (n : Nat) (p_l : List law04_Act) (p_keep : UInt8) (p_at : Int) (x1 : Bool) (s1 : Int × Int × (List api_Page) × (List api_Page) × Bool × (List api_Page) × (List api_Page) × Bool) : Le0 (law04_DiskFirst_L1' n p_l p_keep p_at x1 s1) (law04_DiskFirst_L1 p_l p_keep p_at x1 s1) := Le0.loop (fun s => le_law04_DiskFirst_B1 n p_l p_keep p_at x1 s) n s1

def law04_DiskFirst' (n : Nat) (p_d : api_Disk) (p_l : List law04_Act) (p_keep : UInt8) (p_at : Int) : Option Bool := (law04_head' n).bind fun x1 => (law04_Fits' n p_d).bind fun x2 => ((if (!x2) then some true else some p_d.Down).bind fun c1 => (if c1 then some true else some ((decide ((p_d.Loose.length : Int) > 0)))).bind fun c2 => (if c2 then some true else some ((decide ((p_l.length : Int) > 60)))).bind fun c3 => some c3).bind fun v1 => if v1 then some x1 else law04_DiskFirst_L1' n p_l p_keep p_at x1 ((0, 0, p_d.Synced, p_d.Loose, p_d.Down, p_d.Synced, p_d.Loose, p_d.Down))

theorem le_law04_DiskFirst (n : Nat) (p_d : api_Disk) (p_l : List law04_Act) (p_keep : UInt8) (p_at : Int) : Le0 (law04_DiskFirst' n p_d p_l p_keep p_at) (law04_DiskFirst p_d p_l p_keep p_at) := by
  unfold law04_DiskFirst' law04_DiskFirst
  repeat' (first | with_reducible apply le_law04_head | with_reducible apply le_law04_Fits | with_reducible apply le_law04_DiskFirst_L1 | with_reducible refine Le0.bind ?_ (fun _ => ?_) | with_reducible refine Le0.ite ?_ ?_ | with_reducible refine Le0.chk ?_ | with_reducible refine Le0.out ?_ | with_reducible exact Le0.refl _)

def law04_DiskRot_B2' (_n : Nat) (p_d : api_Disk) (p_at : Int) (s2 : Bool × Int) : Option ((Bool × Int) ⊕ Bool) := if (decide (s2.2 < (p_d.Loose.length : Int))) then ((if s2.1 then some true else (idx p_d.Loose s2.2).bind fun x13 => some ((x13.At == p_at))).bind fun c7 => some c7).bind fun v6 => chk (InI64 (s2.2 + 1)) (some (.inl ((v6, (s2.2 + 1))))) else out (some s2.1)

theorem le_law04_DiskRot_B2 (n : Nat) (p_d : api_Disk) (p_at : Int) (s2 : Bool × Int) : Le0 (law04_DiskRot_B2' n p_d p_at s2) (law04_DiskRot_B2 p_d p_at s2) := by
  unfold law04_DiskRot_B2' law04_DiskRot_B2
  repeat' (first | with_reducible refine Le0.bind ?_ (fun _ => ?_) | with_reducible refine Le0.ite ?_ ?_ | with_reducible refine Le0.chk ?_ | with_reducible refine Le0.out ?_ | with_reducible exact Le0.refl _)

def law04_DiskRot_L2' (n : Nat) (p_d : api_Disk) (p_at : Int) (s2 : Bool × Int) : Option Bool := loopN (law04_DiskRot_B2' n p_d p_at) n s2

theorem le_law04_DiskRot_L2 (n : Nat) (p_d : api_Disk) (p_at : Int) (s2 : Bool × Int) : Le0 (law04_DiskRot_L2' n p_d p_at s2) (law04_DiskRot_L2 p_d p_at s2) := Le0.loop (fun s => le_law04_DiskRot_B2 n p_d p_at s) n s2

def law04_DiskRot_J1' (n : Nat) (p_d : api_Disk) (p_at : Int) (x3 : (List UInt8) × Int) (p_bit : Int) (x1 : Bool) (v3 : Int) : Option Bool := (law04_DiskRot_L2' n p_d p_at ((false, 0))).bind fun v5 => ((if v5 then some true else some ((x3.2 != 0))).bind fun c8 => (if c8 then some true else some ((decide (p_bit < 0)))).bind fun c9 => (if c9 then some true else chk (InI64 (8 * (x3.1.length : Int))) (some ((decide (p_bit ≥ (8 * (x3.1.length : Int))))))).bind fun c10 => some c10).bind fun v7 => if v7 then ((if x1 then some ((v3 == 0)) else some false).bind fun c11 => some c11).bind fun v8 => some v8 else ((if x1 then some ((v3 == 1)) else some false).bind fun c12 => some c12).bind fun v9 => some v9

theorem le_law04_DiskRot_J1 (n : Nat) (p_d : api_Disk) (p_at : Int) (x3 : (List UInt8) × Int) (p_bit : Int) (x1 : Bool) (v3 : Int) : Le0 (law04_DiskRot_J1' n p_d p_at x3 p_bit x1 v3) (law04_DiskRot_J1 p_d p_at x3 p_bit x1 v3) := by
  unfold law04_DiskRot_J1' law04_DiskRot_J1
  repeat' (first | with_reducible apply le_law04_DiskRot_L2 | with_reducible refine Le0.bind ?_ (fun _ => ?_) | with_reducible refine Le0.ite ?_ ?_ | with_reducible refine Le0.chk ?_ | with_reducible refine Le0.out ?_ | with_reducible exact Le0.refl _)

def law04_DiskRot_J2' (_n : Nat) (s1 : Int × Int) (v4 : Int) : Option ((Int × Int) ⊕ Bool) := chk (InI64 (s1.2 + 1)) (some (.inl ((v4, (s1.2 + 1)))))

theorem le_law04_DiskRot_J2 (n : Nat) (s1 : Int × Int) (v4 : Int) : Le0 (law04_DiskRot_J2' n s1 v4) (law04_DiskRot_J2 s1 v4) := by
  unfold law04_DiskRot_J2' law04_DiskRot_J2
  repeat' (first | with_reducible refine Le0.bind ?_ (fun _ => ?_) | with_reducible refine Le0.ite ?_ ?_ | with_reducible refine Le0.chk ?_ | with_reducible refine Le0.out ?_ | with_reducible exact Le0.refl _)

def law04_DiskRot_B1' (n : Nat) (x3 : (List UInt8) × Int) (x5 : (List UInt8) × Int) (p_bit : Int) (p_d : api_Disk) (p_at : Int) (x1 : Bool) (s1 : Int × Int) : Option ((Int × Int) ⊕ Bool) := if (decide (s1.2 < (x3.1.length : Int))) then (idx x3.1 s1.2).bind fun x11 => (idx x5.1 s1.2).bind fun x12 => if ((x11.toNat : Int) != (x12.toNat : Int)) then chk (InI64 (s1.1 + 1)) (if ((quoK .i64 p_bit (8)) != s1.2) then out (some false) else law04_DiskRot_J2' n s1 ((s1.1 + 1))) else law04_DiskRot_J2' n s1 s1.1 else out (law04_DiskRot_J1' n p_d p_at x3 p_bit x1 s1.1)

theorem le_law04_DiskRot_B1 (n : Nat) (x3 : (List UInt8) × Int) (x5 : (List UInt8) × Int) (p_bit : Int) (p_d : api_Disk) (p_at : Int) (x1 : Bool) (s1 : Int × Int) : Le0 (law04_DiskRot_B1' n x3 x5 p_bit p_d p_at x1 s1) (law04_DiskRot_B1 x3 x5 p_bit p_d p_at x1 s1) := by
  unfold law04_DiskRot_B1' law04_DiskRot_B1
  repeat' (first | with_reducible apply le_law04_DiskRot_J2 | with_reducible apply le_law04_DiskRot_J1 | with_reducible refine Le0.bind ?_ (fun _ => ?_) | with_reducible refine Le0.ite ?_ ?_ | with_reducible refine Le0.chk ?_ | with_reducible refine Le0.out ?_ | with_reducible exact Le0.refl _)

def law04_DiskRot_L1' (n : Nat) (x3 : (List UInt8) × Int) (x5 : (List UInt8) × Int) (p_bit : Int) (p_d : api_Disk) (p_at : Int) (x1 : Bool) (s1 : Int × Int) : Option Bool := loopN (law04_DiskRot_B1' n x3 x5 p_bit p_d p_at x1) n s1

theorem le_law04_DiskRot_L1 (n : Nat) (x3 : (List UInt8) × Int) (x5 : (List UInt8) × Int) (p_bit : Int) (p_d : api_Disk) (p_at : Int) (x1 : Bool) (s1 : Int × Int) : Le0 (law04_DiskRot_L1' n x3 x5 p_bit p_d p_at x1 s1) (law04_DiskRot_L1 x3 x5 p_bit p_d p_at x1 s1) := Le0.loop (fun s => le_law04_DiskRot_B1 n x3 x5 p_bit p_d p_at x1 s) n s1

def law04_DiskRot' (n : Nat) (p_d : api_Disk) (p_at : Int) (p_bit : Int) (p_other : Int) : Option Bool := (law04_head' n).bind fun x1 => (law04_Fits' n p_d).bind fun x2 => ((if (!x2) then some true else some p_d.Down).bind fun c1 => some c1).bind fun v1 => if v1 then some x1 else (disk_Read' n p_d p_at).bind fun x3 => (disk_Rot' n p_d p_at p_bit).bind fun x4 => (disk_Read' n x4 p_at).bind fun x5 => (disk_Rot' n x4 p_at p_bit).bind fun x6 => (ref04_Same' n x6 p_d).bind fun x7 => (disk_Read' n p_d p_other).bind fun x8 => (disk_Read' n x4 p_other).bind fun x9 => (ref04_Bytes' n x8.1 x9.1).bind fun x10 => ((if (!x7) then some true else some ((x3.2 != x5.2))).bind fun c2 => (if c2 then some true else some ((x8.2 != x9.2))).bind fun c3 => (if c3 then some true else some (((x3.1.length : Int) != (x5.1.length : Int)))).bind fun c4 => (if c4 then some true else (if (p_other != p_at) then some ((!x10)) else some false).bind fun c5 => some c5).bind fun c6 => some c6).bind fun v2 => if v2 then some false else law04_DiskRot_L1' n x3 x5 p_bit p_d p_at x1 ((0, 0))

theorem le_law04_DiskRot (n : Nat) (p_d : api_Disk) (p_at : Int) (p_bit : Int) (p_other : Int) : Le0 (law04_DiskRot' n p_d p_at p_bit p_other) (law04_DiskRot p_d p_at p_bit p_other) := by
  unfold law04_DiskRot' law04_DiskRot
  repeat' (first | with_reducible apply le_law04_head | with_reducible apply le_law04_Fits | with_reducible apply le_disk_Read | with_reducible apply le_disk_Rot | with_reducible apply le_ref04_Same | with_reducible apply le_ref04_Bytes | with_reducible apply le_law04_DiskRot_L1 | with_reducible refine Le0.bind ?_ (fun _ => ?_) | with_reducible refine Le0.ite ?_ ?_ | with_reducible refine Le0.chk ?_ | with_reducible refine Le0.out ?_ | with_reducible exact Le0.refl _)

def law04_DiskDown' (n : Nat) (p_d : api_Disk) (p_keep : Int) (p_at : Int) (p_data : List UInt8) : Option Bool := (law04_head' n).bind fun x1 => (law04_Fits' n p_d).bind fun x2 => if (!x2) then some x1 else (disk_Crash' n p_d p_keep).bind fun x3 => (disk_Write' n x3 p_at p_data).bind fun x4 => (disk_Sync' n x3).bind fun x5 => (disk_Read' n x3 p_at).bind fun x6 => (ref04_Same' n x3 x4.1).bind fun x7 => (ref04_Same' n x3 x5.1).bind fun x8 => (disk_Up' n x3).bind fun x9 => (disk_Sync' n x9).bind fun x10 => (ref04_Same' n x9 x10.1).bind fun x11 => (disk_Crash' n x3 p_keep).bind fun x12 => (ref04_Same' n x12 x3).bind fun x13 => ((if x1 then some x3.Down else some false).bind fun c1 => (if c1 then some (((x3.Loose.length : Int) == 0)) else some false).bind fun c2 => (if c2 then some ((x4.2 == 40)) else some false).bind fun c3 => (if c3 then some ((x5.2 == 40)) else some false).bind fun c4 => (if c4 then some ((x6.2 == 40)) else some false).bind fun c5 => (if c5 then some x7 else some false).bind fun c6 => (if c6 then some x8 else some false).bind fun c7 => (if c7 then some x11 else some false).bind fun c8 => (if c8 then some x13 else some false).bind fun c9 => (if c9 then some ((x10.2 == 0)) else some false).bind fun c10 => some c10).bind fun v1 => some v1

theorem le_law04_DiskDown (n : Nat) (p_d : api_Disk) (p_keep : Int) (p_at : Int) (p_data : List UInt8) : Le0 (law04_DiskDown' n p_d p_keep p_at p_data) (law04_DiskDown p_d p_keep p_at p_data) := by
  unfold law04_DiskDown' law04_DiskDown
  repeat' (first | with_reducible apply le_law04_head | with_reducible apply le_law04_Fits | with_reducible apply le_disk_Crash | with_reducible apply le_disk_Write | with_reducible apply le_disk_Sync | with_reducible apply le_disk_Read | with_reducible apply le_ref04_Same | with_reducible apply le_disk_Up | with_reducible refine Le0.bind ?_ (fun _ => ?_) | with_reducible refine Le0.ite ?_ ?_ | with_reducible refine Le0.chk ?_ | with_reducible refine Le0.out ?_ | with_reducible exact Le0.refl _)
end Go.Proofs
