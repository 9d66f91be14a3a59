/- The plain programs of this seat. No condition. -/
import Derived.Test.YtlhgbjgfnihijaaCatP1
namespace Go.Proofs
set_option linter.all false
open Go Go.Cat

structure api_Page where
  At : Int
  Data : List UInt8


structure api_Disk where
  Synced : List api_Page
  Loose : List api_Page
  Down : Bool


structure law04_Act where
  Do : Int
  At : Int
  N : Int
  Data : List UInt8


/-- disk.New -/
noncomputable def disk_New : Option api_Disk := some ((⟨[], [], false⟩ : api_Disk))

/-- disk.may -/
noncomputable def disk_may (p_at : Int) (p_data : List UInt8) : Option Bool := ((if (decide (p_at ≥ 0)) then some ((decide (p_at < 1000))) else some false).bind fun c1 => (if c1 then some ((decide ((p_data.length : Int) ≤ 200))) else some false).bind fun c2 => some c2).bind fun v1 => some v1

/-- slices.Clone[[]api.Page,api.Page] -/
noncomputable def slices_Clone_api_Page_api_Page (p_s : List api_Page) : Option ((List api_Page)) := anyOf (fun b1 => b1 = true → p_s = []) fun b1 => if b1 then some ([]) else chk (((([] : List api_Page)).length + p_s.length) * 32 ≤ 140737488355328) (some ((([] : List api_Page) ++ p_s)))

/-- bytes.Clone -/
noncomputable def bytes_Clone (p_b : List UInt8) : Option ((List UInt8)) := anyOf (fun b1 => b1 = true → p_b = []) fun b1 => if b1 then some ([]) else chk (((([] : List UInt8)).length + p_b.length) * 1 ≤ 140737488355328) (some ((([] : List UInt8) ++ p_b)))

/-- disk.Write -/
noncomputable def disk_Write (p_d : api_Disk) (p_at : Int) (p_data : List UInt8) : Option (api_Disk × Int) := if p_d.Down then some ((p_d, 40)) else (disk_may p_at p_data).bind fun x1 => if (!x1) then some ((p_d, 1)) else (slices_Clone_api_Page_api_Page p_d.Loose).bind fun x2 => (bytes_Clone p_data).bind fun x3 => chk ((x2.length + ([(⟨p_at, x3⟩ : api_Page)]).length) * 32 ≤ 140737488355328) (some (((⟨p_d.Synced, (x2 ++ [(⟨p_at, x3⟩ : api_Page)]), p_d.Down⟩ : api_Disk), 0)))

/-- slices.Grow[[]api.Page,api.Page] -/
noncomputable def slices_Grow_api_Page_api_Page__nil (p_n : Int) : Option ((List api_Page)) := (if (decide (p_n < 0)) then none else some (())).bind fun _ => (chk (InI64 (p_n - 0)) (if (decide ((p_n - 0) > 0)) then chk ((0 : Int) ≤ (p_n - 0) ∧ ((p_n - 0)).toNat * 32 ≤ 140737488355328) (chk ((0 : Int) ≤ 0 ∧ 0 ≤ (((List.replicate ((p_n - 0)).toNat (((⟨0, []⟩ : api_Page) : api_Page)))).length : Int)) (some ((((List.replicate ((p_n - 0)).toNat (((⟨0, []⟩ : api_Page) : api_Page)))).take (0 : Int).toNat)))) else some ([]))).bind fun v2 => some v2

noncomputable def slices_Concat_api_Page_api_Page_B1 (p_slices : List (List api_Page)) (s1 : Int × Int) : Option ((Int × Int) ⊕ Int) := if (decide (s1.2 < (p_slices.length : Int))) then ((idx p_slices s1.2).bind fun x1 => chk (InI64 (s1.1 + (x1.length : Int))) (if (decide ((s1.1 + (x1.length : Int)) < 0)) then none else some ((s1.1 + (x1.length : Int))))).bind fun v2 => chk (InI64 (s1.2 + 1)) (some (.inl ((v2, (s1.2 + 1))))) else out (some s1.1)

noncomputable def slices_Concat_api_Page_api_Page_L1 (p_slices : List (List api_Page)) (s1 : Int × Int) : Option Int := loop (slices_Concat_api_Page_api_Page_B1 p_slices) s1

noncomputable def slices_Concat_api_Page_api_Page_B2 (p_slices : List (List api_Page)) (s2 : Int × (List api_Page)) : Option ((Int × (List api_Page)) ⊕ ((List api_Page))) := if (decide (s2.1 < (p_slices.length : Int))) then (idx p_slices s2.1).bind fun x3 => chk ((s2.2.length + x3.length) * 32 ≤ 140737488355328) (chk (InI64 (s2.1 + 1)) (some (.inl (((s2.1 + 1), (s2.2 ++ x3)))))) else out (some s2.2)

noncomputable def slices_Concat_api_Page_api_Page_L2 (p_slices : List (List api_Page)) (s2 : Int × (List api_Page)) : Option ((List api_Page)) := loop (slices_Concat_api_Page_api_Page_B2 p_slices) s2

/-- slices.Concat[[]api.Page,api.Page] -/
noncomputable def slices_Concat_api_Page_api_Page (p_slices : List (List api_Page)) : Option ((List api_Page)) := (slices_Concat_api_Page_api_Page_L1 p_slices ((0, 0))).bind fun v1 => (slices_Grow_api_Page_api_Page__nil v1).bind fun x2 => (slices_Concat_api_Page_api_Page_L2 p_slices ((0, x2))).bind fun v3 => some v3

noncomputable def slices_Reverse_api_Page_api_Page_B1 (s1 : Int × Int × (List api_Page)) : Option ((Int × Int × (List api_Page)) ⊕ (Unit × List api_Page)) := if (decide (s1.1 < s1.2.1)) then (idx s1.2.2 s1.2.1).bind fun x1 => (idx s1.2.2 s1.1).bind fun x2 => (idx s1.2.2 s1.1).bind fun _ => (idx ((s1.2.2.set s1.1.toNat x1)) s1.2.1).bind fun _ => chk (InI64 (s1.1 + 1)) (chk (InI64 (s1.2.1 - 1)) (some (.inl (((s1.1 + 1), (s1.2.1 - 1), (((s1.2.2.set s1.1.toNat x1)).set s1.2.1.toNat x2)))))) else out (some ((), s1.2.2))

noncomputable def slices_Reverse_api_Page_api_Page_L1 (s1 : Int × Int × (List api_Page)) : Option (Unit × List api_Page) := loop (slices_Reverse_api_Page_api_Page_B1) s1

/-- slices.Reverse[[]api.Page,api.Page] -/
noncomputable def slices_Reverse_api_Page_api_Page (self : List api_Page) : Option (Unit × List api_Page) := chk (InI64 ((self.length : Int) - 1)) (slices_Reverse_api_Page_api_Page_L1 ((0, ((self.length : Int) - 1), self)))

/-- disk.Read$1 -/
noncomputable def disk_Read_1 (p_p : api_Page) (p_a1_0 : Int) : Option Bool := some ((p_p.At == p_a1_0))

noncomputable def slices_IndexFunc_api_Page_api_Page__disk_Read_1_J1 (_v1 : Unit) : Option Int := some ((-1))

noncomputable def slices_IndexFunc_api_Page_api_Page__disk_Read_1_B1 (p_s : List api_Page) (p_f_c0_0 : Int) (s1 : Int) : Option ((Int) ⊕ Int) := if (decide (s1 < (p_s.length : Int))) then (idx p_s s1).bind fun x1 => (disk_Read_1 x1 p_f_c0_0).bind fun x2 => if x2 then out (some s1) else chk (InI64 (s1 + 1)) (some (.inl ((s1 + 1)))) else out (slices_IndexFunc_api_Page_api_Page__disk_Read_1_J1 (()))

noncomputable def slices_IndexFunc_api_Page_api_Page__disk_Read_1_L1 (p_s : List api_Page) (p_f_c0_0 : Int) (s1 : Int) : Option Int := loop (slices_IndexFunc_api_Page_api_Page__disk_Read_1_B1 p_s p_f_c0_0) s1

/-- slices.IndexFunc[[]api.Page,api.Page] -/
noncomputable def slices_IndexFunc_api_Page_api_Page__disk_Read_1 (p_s : List api_Page) (p_f_c0_0 : Int) : Option Int := slices_IndexFunc_api_Page_api_Page__disk_Read_1_L1 p_s p_f_c0_0 (0)

/-- disk.find[api.Page] -/
noncomputable def disk_find_api_Page__disk_Read_1 (p_l : List api_Page) (p_is_c0 : Int) : Option Int := (slices_IndexFunc_api_Page_api_Page__disk_Read_1 p_l p_is_c0).bind fun x1 => some x1

/-- disk.Read -/
noncomputable def disk_Read (p_d : api_Disk) (p_at : Int) : Option ((List UInt8) × Int) := if p_d.Down then some (([], 40)) else (disk_may p_at ([])).bind fun x1 => if (!x1) then some (([], 1)) else (slices_Concat_api_Page_api_Page ([p_d.Synced, p_d.Loose])).bind fun x2 => (slices_Reverse_api_Page_api_Page x2).bind fun x3 => (disk_find_api_Page__disk_Read_1 x3.2 p_at).bind fun x4 => if (decide (x4 < 0)) then some (([], 41)) else (idx x3.2 x4).bind fun x5 => (bytes_Clone x5.Data).bind fun x6 => some ((x6, 0))

noncomputable def disk_laid_B1 (x1 : (List api_Page)) (s1 : Int × (List (Int × api_Page))) : Option ((Int × (List (Int × api_Page))) ⊕ ((List (Int × api_Page)))) := if (decide (s1.1 < (x1.length : Int))) then (idx x1 s1.1).bind fun x2 => chk (InI64 x2.At ∧ s1.2.length < 140737488355328) (chk (InI64 (s1.1 + 1)) (some (.inl (((s1.1 + 1), (mset x2.At x2 s1.2)))))) else out (some s1.2)

noncomputable def disk_laid_L1 (x1 : (List api_Page)) (s1 : Int × (List (Int × api_Page))) : Option ((List (Int × api_Page))) := loop (disk_laid_B1 x1) s1

noncomputable def disk_laid_B2 (x3 : List Int) (v1 : (List (Int × api_Page))) (s2 : Int × (List api_Page)) : Option ((Int × (List api_Page)) ⊕ ((List api_Page))) := if (decide (s2.1 < (x3.length : Int))) then (idx x3 s2.1).bind fun x4 => (some ((mget x4 v1).getD ((⟨0, []⟩ : api_Page) : api_Page))).bind fun x5 => chk ((s2.2.length + ([x5]).length) * 32 ≤ 140737488355328) (chk (InI64 (s2.1 + 1)) (some (.inl (((s2.1 + 1), (s2.2 ++ [x5])))))) else out (some s2.2)

noncomputable def disk_laid_L2 (x3 : List Int) (v1 : (List (Int × api_Page))) (s2 : Int × (List api_Page)) : Option ((List api_Page)) := loop (disk_laid_B2 x3 v1) s2

/-- disk.laid -/
noncomputable def disk_laid (p_l : List api_Page) (p_over : List api_Page) : Option ((List api_Page)) := ((slices_Concat_api_Page_api_Page ([p_l, p_over])).bind fun x1 => disk_laid_L1 x1 ((0, ([] : List (Int × api_Page))))).bind fun v1 => (chk (v1.length * 8 ≤ 140737488355328) ((some (keysI v1)).bind fun x3 => disk_laid_L2 x3 v1 ((0, [])))).bind fun v2 => some v2

/-- disk.Crash -/
noncomputable def disk_Crash (p_d : api_Disk) (p_keep : Int) : Option api_Disk := chk ((0 : Int) ≤ (min ((max p_keep (0))) ((p_d.Loose.length : Int))) ∧ (min ((max p_keep (0))) ((p_d.Loose.length : Int))) ≤ (p_d.Loose.length : Int)) ((disk_laid p_d.Synced ((p_d.Loose.take ((min ((max p_keep (0))) ((p_d.Loose.length : Int)))).toNat))).bind fun x1 => some ((⟨x1, [], true⟩ : api_Disk)))

/-- disk.Up -/
noncomputable def disk_Up (p_d : api_Disk) : Option api_Disk := some ((⟨p_d.Synced, p_d.Loose, false⟩ : api_Disk))

/-- disk.Rot$1 -/
noncomputable def disk_Rot_1 (p_p : api_Page) (p_a1_0 : Int) : Option Bool := some ((p_p.At == p_a1_0))

noncomputable def slices_IndexFunc_api_Page_api_Page__disk_Rot_1_J1 (_v1 : Unit) : Option Int := some ((-1))

noncomputable def slices_IndexFunc_api_Page_api_Page__disk_Rot_1_B1 (p_s : List api_Page) (p_f_c0_0 : Int) (s1 : Int) : Option ((Int) ⊕ Int) := if (decide (s1 < (p_s.length : Int))) then (idx p_s s1).bind fun x1 => (disk_Rot_1 x1 p_f_c0_0).bind fun x2 => if x2 then out (some s1) else chk (InI64 (s1 + 1)) (some (.inl ((s1 + 1)))) else out (slices_IndexFunc_api_Page_api_Page__disk_Rot_1_J1 (()))

noncomputable def slices_IndexFunc_api_Page_api_Page__disk_Rot_1_L1 (p_s : List api_Page) (p_f_c0_0 : Int) (s1 : Int) : Option Int := loop (slices_IndexFunc_api_Page_api_Page__disk_Rot_1_B1 p_s p_f_c0_0) s1

/-- slices.IndexFunc[[]api.Page,api.Page] -/
noncomputable def slices_IndexFunc_api_Page_api_Page__disk_Rot_1 (p_s : List api_Page) (p_f_c0_0 : Int) : Option Int := slices_IndexFunc_api_Page_api_Page__disk_Rot_1_L1 p_s p_f_c0_0 (0)

/-- disk.find[api.Page] -/
noncomputable def disk_find_api_Page__disk_Rot_1 (p_l : List api_Page) (p_is_c0 : Int) : Option Int := (slices_IndexFunc_api_Page_api_Page__disk_Rot_1 p_l p_is_c0).bind fun x1 => some x1

/-- disk.Rot -/
noncomputable def disk_Rot (p_d : api_Disk) (p_at : Int) (p_bit : Int) : Option api_Disk := (disk_find_api_Page__disk_Rot_1 p_d.Synced p_at).bind fun x1 => ((if (decide (x1 < 0)) then some true else some ((decide (p_bit < 0)))).bind fun c1 => (if c1 then some true else (idx p_d.Synced x1).bind fun x2 => chk (InI64 (8 * (x2.Data.length : Int))) (some ((decide (p_bit ≥ (8 * (x2.Data.length : Int))))))).bind fun c2 => some c2).bind fun v1 => if v1 then some p_d else (idx p_d.Synced x1).bind fun x3 => (bytes_Clone x3.Data).bind fun x4 => (idx x4 ((quoK .i64 p_bit (8)))).bind fun x5 => chk ((0 : Int) ≤ (Int.tmod p_bit (8))) ((idx x4 ((quoK .i64 p_bit (8)))).bind fun _ => (slices_Clone_api_Page_api_Page p_d.Synced).bind fun x7 => (idx x7 x1).bind fun x8 => some ((⟨(x7.set x1.toNat (⟨x8.At, (x4.set ((quoK .i64 p_bit (8))).toNat (x5 ^^^ (toU8 (shlK .u8 (1) ((Int.tmod p_bit (8)))))))⟩ : api_Page)), p_d.Loose, p_d.Down⟩ : api_Disk)))

/-- disk.Sync -/
noncomputable def disk_Sync (p_d : api_Disk) : Option (api_Disk × Int) := if p_d.Down then some ((p_d, 40)) else (disk_laid p_d.Synced p_d.Loose).bind fun x1 => some (((⟨x1, [], false⟩ : api_Disk), 0))

noncomputable def ref04_Bytes_J1 (_v1 : Unit) : Option Bool := some true

noncomputable def ref04_Bytes_B1 (p_a : List UInt8) (p_b : List UInt8) (s1 : Int) : Option ((Int) ⊕ Bool) := if (decide (s1 < (p_a.length : Int))) then (idx p_a s1).bind fun x1 => (idx p_b s1).bind fun x2 => if ((x1.toNat : Int) != (x2.toNat : Int)) then out (some false) else chk (InI64 (s1 + 1)) (some (.inl ((s1 + 1)))) else out (ref04_Bytes_J1 (()))

noncomputable def ref04_Bytes_L1 (p_a : List UInt8) (p_b : List UInt8) (s1 : Int) : Option Bool := loop (ref04_Bytes_B1 p_a p_b) s1

/-- catacombref04.Bytes -/
noncomputable def ref04_Bytes (p_a : List UInt8) (p_b : List UInt8) : Option Bool := if ((p_a.length : Int) != (p_b.length : Int)) then some false else ref04_Bytes_L1 p_a p_b (0)

/-- disk.Right$1 -/
noncomputable def disk_Right_1 (p_p : api_Page) : Option Bool := (disk_may p_p.At p_p.Data).bind fun x1 => some ((!x1))

noncomputable def slices_IndexFunc_api_Page_api_Page__disk_Right_1_J1 (_v1 : Unit) : Option Int := some ((-1))

noncomputable def slices_IndexFunc_api_Page_api_Page__disk_Right_1_B1 (p_s : List api_Page) (s1 : Int) : Option ((Int) ⊕ Int) := if (decide (s1 < (p_s.length : Int))) then (idx p_s s1).bind fun x1 => (disk_Right_1 x1).bind fun x2 => if x2 then out (some s1) else chk (InI64 (s1 + 1)) (some (.inl ((s1 + 1)))) else out (slices_IndexFunc_api_Page_api_Page__disk_Right_1_J1 (()))

noncomputable def slices_IndexFunc_api_Page_api_Page__disk_Right_1_L1 (p_s : List api_Page) (s1 : Int) : Option Int := loop (slices_IndexFunc_api_Page_api_Page__disk_Right_1_B1 p_s) s1

/-- slices.IndexFunc[[]api.Page,api.Page] -/
noncomputable def slices_IndexFunc_api_Page_api_Page__disk_Right_1 (p_s : List api_Page) : Option Int := slices_IndexFunc_api_Page_api_Page__disk_Right_1_L1 p_s (0)

/-- disk.find[api.Page] -/
noncomputable def disk_find_api_Page__disk_Right_1 (p_l : List api_Page) : Option Int := (slices_IndexFunc_api_Page_api_Page__disk_Right_1 p_l).bind fun x1 => some x1

noncomputable def disk_Right_J1 (_v2 : Unit) : Option Bool := some true

noncomputable def disk_Right_B1 (p_d : api_Disk) (s1 : Int) : Option ((Int) ⊕ Bool) := if (decide (s1 < (p_d.Synced.length : Int))) then chk (InI64 (s1 - 1)) ((idx p_d.Synced ((s1 - 1))).bind fun x3 => (idx p_d.Synced s1).bind fun x4 => if (decide (x3.At ≥ x4.At)) then out (some false) else chk (InI64 (s1 + 1)) (some (.inl ((s1 + 1))))) else out (disk_Right_J1 (()))

noncomputable def disk_Right_L1 (p_d : api_Disk) (s1 : Int) : Option Bool := loop (disk_Right_B1 p_d) s1

/-- disk.Right -/
noncomputable def disk_Right (p_d : api_Disk) : Option Bool := ((disk_find_api_Page__disk_Right_1 p_d.Synced).bind fun x1 => (if (decide (x1 ≥ 0)) then some true else (disk_find_api_Page__disk_Right_1 p_d.Loose).bind fun x2 => some ((decide (x2 ≥ 0)))).bind fun c1 => (if c1 then some true else (if p_d.Down then some ((decide ((p_d.Loose.length : Int) > 0))) else some false).bind fun c2 => some c2).bind fun c3 => some c3).bind fun v1 => if v1 then some false else disk_Right_L1 p_d (1)

/-- catacomblaw04.head -/
noncomputable def law04_head : Option Bool := (disk_New).bind fun x1 => (disk_Write x1 (3) ([1, 2])).bind fun x2 => (disk_Write x2.1 (3) ([9])).bind fun x3 => (disk_Read x3.1 (3)).bind fun x4 => (disk_Crash x3.1 (1)).bind fun x5 => (disk_Read x5 (3)).bind fun x6 => (disk_Up x5).bind fun x7 => (disk_Read x7 (3)).bind fun x8 => (disk_Rot x7 (3) (9)).bind fun x9 => (disk_Read x9 (3)).bind fun x10 => (disk_Read x7 (4)).bind fun x11 => (disk_Write x7 (1000) ([])).bind fun x12 => (disk_Sync x3.1).bind fun x13 => (disk_Crash x13.1 (0)).bind fun x14 => (disk_Up x14).bind fun x15 => (disk_Read x15 (3)).bind fun x16 => (ref04_Bytes x4.1 ([9])).bind fun x17 => (ref04_Bytes x8.1 ([1, 2])).bind fun x18 => (ref04_Bytes x10.1 ([1, 0])).bind fun x19 => (ref04_Bytes x16.1 ([9])).bind fun x20 => ((if (x2.2 == 0) then some ((x3.2 == 0)) else some false).bind fun c1 => (if c1 then some ((x4.2 == 0)) else some false).bind fun c2 => (if c2 then some ((x6.2 == 40)) else some false).bind fun c3 => (if c3 then some ((x8.2 == 0)) else some false).bind fun c4 => (if c4 then some ((x10.2 == 0)) else some false).bind fun c5 => (if c5 then some ((x11.2 == 41)) else some false).bind fun c6 => (if c6 then some ((x12.2 == 1)) else some false).bind fun c7 => (if c7 then some ((x13.2 == 0)) else some false).bind fun c8 => (if c8 then some ((x16.2 == 0)) else some false).bind fun c9 => (if c9 then some x17 else some false).bind fun c10 => (if c10 then some x18 else some false).bind fun c11 => (if c11 then some x19 else some false).bind fun c12 => (if c12 then some x20 else some false).bind fun c13 => (if c13 then (disk_Right x5).bind fun x21 => some x21 else some false).bind fun c14 => (if c14 then (disk_Right ((⟨[], [(⟨0, []⟩ : api_Page)], true⟩ : api_Disk))).bind fun x22 => some ((!x22)) else some false).bind fun c15 => some c15).bind fun v1 => some v1

/-- catacombref04.Page -/
noncomputable def ref04_Page (p_p : api_Page) : Option Bool := ((if (decide (p_p.At ≥ 0)) then some ((decide (p_p.At ≤ 999))) else some false).bind fun c1 => (if c1 then some ((decide ((p_p.Data.length : Int) ≤ 200))) else some false).bind fun c2 => some c2).bind fun v1 => some v1

noncomputable def ref04_Right_J2 (p_d : api_Disk) (_v3 : Unit) : Option Bool := ((if (!p_d.Down) then some true else some (((p_d.Loose.length : Int) == 0))).bind fun c3 => some c3).bind fun v4 => some v4

noncomputable def ref04_Right_B2 (p_d : api_Disk) (s2 : Int) : Option ((Int) ⊕ Bool) := if (decide (s2 < (p_d.Loose.length : Int))) then (idx p_d.Loose s2).bind fun x5 => (ref04_Page x5).bind fun x6 => if (!x6) then out (some false) else chk (InI64 (s2 + 1)) (some (.inl ((s2 + 1)))) else out (ref04_Right_J2 p_d (()))

noncomputable def ref04_Right_L2 (p_d : api_Disk) (s2 : Int) : Option Bool := loop (ref04_Right_B2 p_d) s2

noncomputable def ref04_Right_J1 (p_d : api_Disk) (_v1 : Unit) : Option Bool := ref04_Right_L2 p_d (0)

noncomputable def ref04_Right_B1 (p_d : api_Disk) (s1 : Int) : Option ((Int) ⊕ Bool) := if (decide (s1 < (p_d.Synced.length : Int))) then (idx p_d.Synced s1).bind fun x1 => (ref04_Page x1).bind fun x2 => ((if (!x2) then some true else (if (decide (s1 > 0)) then (idx p_d.Synced s1).bind fun x3 => chk (InI64 (s1 - 1)) ((idx p_d.Synced ((s1 - 1))).bind fun x4 => some ((decide (x3.At ≤ x4.At)))) else some false).bind fun c1 => some c1).bind fun c2 => some c2).bind fun v2 => if v2 then out (some false) else chk (InI64 (s1 + 1)) (some (.inl ((s1 + 1)))) else out (ref04_Right_J1 p_d (()))

noncomputable def ref04_Right_L1 (p_d : api_Disk) (s1 : Int) : Option Bool := loop (ref04_Right_B1 p_d) s1

/-- catacombref04.Right -/
noncomputable def ref04_Right (p_d : api_Disk) : Option Bool := ref04_Right_L1 p_d (0)

/-- catacomblaw04.Fits -/
noncomputable def law04_Fits (p_d : api_Disk) : Option Bool := ((if (decide ((p_d.Synced.length : Int) > 60)) then some true else some ((decide ((p_d.Loose.length : Int) > 60)))).bind fun c1 => some c1).bind fun v1 => if v1 then some false else (ref04_Right p_d).bind fun x1 => some x1

noncomputable def law04_own_B1 (p_d : api_Disk) (s1 : Int × (List api_Page)) : Option ((Int × (List api_Page)) ⊕ ((List api_Page))) := if (decide (s1.1 < (p_d.Synced.length : Int))) then (idx p_d.Synced s1.1).bind fun x1 => (idx p_d.Synced s1.1).bind fun x2 => chk (x2.Data.length * 1 ≤ 140737488355328) (chk ((s1.2.length + ([(⟨x1.At, x2.Data⟩ : api_Page)]).length) * 32 ≤ 140737488355328) (chk (InI64 (s1.1 + 1)) (some (.inl (((s1.1 + 1), (s1.2 ++ [(⟨x1.At, x2.Data⟩ : api_Page)]))))))) else out (some s1.2)

noncomputable def law04_own_L1 (p_d : api_Disk) (s1 : Int × (List api_Page)) : Option ((List api_Page)) := loop (law04_own_B1 p_d) s1

noncomputable def law04_own_B2 (p_d : api_Disk) (s2 : Int × (List api_Page)) : Option ((Int × (List api_Page)) ⊕ ((List api_Page))) := if (decide (s2.1 < (p_d.Loose.length : Int))) then (idx p_d.Loose s2.1).bind fun x3 => (idx p_d.Loose s2.1).bind fun x4 => chk (x4.Data.length * 1 ≤ 140737488355328) (chk ((s2.2.length + ([(⟨x3.At, x4.Data⟩ : api_Page)]).length) * 32 ≤ 140737488355328) (chk (InI64 (s2.1 + 1)) (some (.inl (((s2.1 + 1), (s2.2 ++ [(⟨x3.At, x4.Data⟩ : api_Page)]))))))) else out (some s2.2)

noncomputable def law04_own_L2 (p_d : api_Disk) (s2 : Int × (List api_Page)) : Option ((List api_Page)) := loop (law04_own_B2 p_d) s2

/-- catacomblaw04.own -/
noncomputable def law04_own (p_d : api_Disk) : Option api_Disk := (law04_own_L1 p_d ((0, []))).bind fun v1 => (law04_own_L2 p_d ((0, []))).bind fun v2 => some ((⟨v1, v2, p_d.Down⟩ : api_Disk))

/-- catacomblaw04.step -/
noncomputable def law04_step (p_d : api_Disk) (p_x : law04_Act) : Option (api_Disk × Int) := if (p_x.Do == 0) then (disk_Write p_d p_x.At p_x.Data).bind fun x1 => some ((x1.1, x1.2)) else if (p_x.Do == 1) then (disk_Sync p_d).bind fun x2 => some ((x2.1, x2.2)) else if (p_x.Do == 2) then (disk_Crash p_d p_x.N).bind fun x3 => some ((x3, 0)) else if (p_x.Do == 3) then (disk_Up p_d).bind fun x4 => some ((x4, 0)) else if (p_x.Do == 4) then (disk_Rot p_d p_x.At p_x.N).bind fun x5 => some ((x5, 0)) else some ((p_d, 0))

/-- catacombref04.Write -/
noncomputable def ref04_Write (p_d : api_Disk) (p_at : Int) (p_data : List UInt8) : Option (api_Disk × Int) := if p_d.Down then some ((p_d, 40)) else (ref04_Page ((⟨p_at, p_data⟩ : api_Page))).bind fun x1 => if (!x1) then some ((p_d, 1)) else chk (p_d.Loose.length * 32 ≤ 140737488355328) (chk ((p_d.Loose.length + ([(⟨p_at, p_data⟩ : api_Page)]).length) * 32 ≤ 140737488355328) (some (((⟨p_d.Synced, (p_d.Loose ++ [(⟨p_at, p_data⟩ : api_Page)]), false⟩ : api_Disk), 0))))

noncomputable def ref04_lay_B1 (p_l : List api_Page) (p_p : api_Page) (s1 : Bool × Int × (List api_Page)) : Option ((Bool × Int × (List api_Page)) ⊕ (Bool × (List api_Page))) := if (decide (s1.2.1 < (p_l.length : Int))) then ((((if (!s1.1) then (idx p_l s1.2.1).bind fun x1 => some ((decide (x1.At ≥ p_p.At))) else some false).bind fun c1 => some c1).bind fun v4 => if v4 then chk ((s1.2.2.length + ([p_p]).length) * 32 ≤ 140737488355328) (some ((true, (s1.2.2 ++ [p_p])))) else some ((s1.1, s1.2.2))).bind fun v3 => (idx p_l s1.2.1).bind fun x2 => if (x2.At != p_p.At) then (idx p_l s1.2.1).bind fun x3 => chk ((v3.2.length + ([x3]).length) * 32 ≤ 140737488355328) (some ((v3.1, (v3.2 ++ [x3])))) else some ((v3.1, v3.2))).bind fun v2 => chk (InI64 (s1.2.1 + 1)) (some (.inl ((v2.1, (s1.2.1 + 1), v2.2)))) else out (some ((s1.1, s1.2.2)))

noncomputable def ref04_lay_L1 (p_l : List api_Page) (p_p : api_Page) (s1 : Bool × Int × (List api_Page)) : Option (Bool × (List api_Page)) := loop (ref04_lay_B1 p_l p_p) s1

/-- catacombref04.lay -/
noncomputable def ref04_lay (p_l : List api_Page) (p_p : api_Page) : Option ((List api_Page)) := (ref04_lay_L1 p_l p_p ((false, 0, []))).bind fun v1 => (if (!v1.1) then chk ((v1.2.length + ([p_p]).length) * 32 ≤ 140737488355328) (some ((v1.2 ++ [p_p]))) else some v1.2).bind fun v5 => some v5

noncomputable def ref04_Sync_B1 (p_d : api_Disk) (s1 : Int × (List api_Page)) : Option ((Int × (List api_Page)) ⊕ ((List api_Page))) := if (decide (s1.1 < (p_d.Loose.length : Int))) then (idx p_d.Loose s1.1).bind fun x1 => (ref04_lay s1.2 x1).bind fun x2 => chk (InI64 (s1.1 + 1)) (some (.inl (((s1.1 + 1), x2)))) else out (some s1.2)

noncomputable def ref04_Sync_L1 (p_d : api_Disk) (s1 : Int × (List api_Page)) : Option ((List api_Page)) := loop (ref04_Sync_B1 p_d) s1

/-- catacombref04.Sync -/
noncomputable def ref04_Sync (p_d : api_Disk) : Option (api_Disk × Int) := if p_d.Down then some ((p_d, 40)) else (ref04_Sync_L1 p_d ((0, p_d.Synced))).bind fun v1 => some (((⟨v1, [], false⟩ : api_Disk), 0))

noncomputable def ref04_Crash_B1 (p_d : api_Disk) (p_keep : Int) (s1 : Int × (List api_Page)) : Option ((Int × (List api_Page)) ⊕ ((List api_Page))) := ((if (decide (s1.1 < (p_d.Loose.length : Int))) then some ((decide (s1.1 < p_keep))) else some false).bind fun c1 => some c1).bind fun v2 => if v2 then (idx p_d.Loose s1.1).bind fun x1 => (ref04_lay s1.2 x1).bind fun x2 => chk (InI64 (s1.1 + 1)) (some (.inl (((s1.1 + 1), x2)))) else out (some s1.2)

noncomputable def ref04_Crash_L1 (p_d : api_Disk) (p_keep : Int) (s1 : Int × (List api_Page)) : Option ((List api_Page)) := loop (ref04_Crash_B1 p_d p_keep) s1

/-- catacombref04.Crash -/
noncomputable def ref04_Crash (p_d : api_Disk) (p_keep : Int) : Option api_Disk := (ref04_Crash_L1 p_d p_keep ((0, p_d.Synced))).bind fun v1 => some ((⟨v1, [], true⟩ : api_Disk))

noncomputable def ref04_flip_B1 (p_bit : Int) (s1 : Int × Int) : Option ((Int × Int) ⊕ Int) := if (decide (s1.2 < p_bit)) then chk (InI64 (2 * s1.1)) (chk (InI64 (s1.2 + 1)) (some (.inl (((2 * s1.1), (s1.2 + 1)))))) else out (some s1.1)

noncomputable def ref04_flip_L1 (p_bit : Int) (s1 : Int × Int) : Option Int := loop (ref04_flip_B1 p_bit) s1

/-- catacombref04.flip -/
noncomputable def ref04_flip (p_b : UInt8) (p_bit : Int) : Option UInt8 := (ref04_flip_L1 p_bit ((1, 0))).bind fun v1 => chk (v1 ≠ 0) (if ((Int.tmod ((quoK .i64 ((p_b.toNat : Int)) v1)) (2)) == 1) then chk (InI64 ((p_b.toNat : Int) - v1)) (some ((toU8 (((p_b.toNat : Int) - v1))))) else chk (InI64 ((p_b.toNat : Int) + v1)) (some ((toU8 (((p_b.toNat : Int) + v1))))))

noncomputable def ref04_Rot_B1 (p_d : api_Disk) (p_at : Int) (p_bit : Int) (s1 : Int × (List api_Page)) : Option ((Int × (List api_Page)) ⊕ ((List api_Page))) := if (decide (s1.1 < (p_d.Synced.length : Int))) then (idx p_d.Synced s1.1).bind fun x1 => (idx p_d.Synced s1.1).bind fun x2 => chk (x2.Data.length * 1 ≤ 140737488355328) ((((if (x1.At == p_at) then some ((decide (p_bit ≥ 0))) else some false).bind fun c1 => (if c1 then chk (InI64 (8 * (x2.Data.length : Int))) (some ((decide (p_bit < (8 * (x2.Data.length : Int)))))) else some false).bind fun c2 => some c2).bind fun v3 => if v3 then (idx x2.Data ((quoK .i64 p_bit (8)))).bind fun x3 => (ref04_flip x3 ((Int.tmod p_bit (8)))).bind fun x4 => (idx x2.Data ((quoK .i64 p_bit (8)))).bind fun _ => some ((x2.Data.set ((quoK .i64 p_bit (8))).toNat x4)) else some x2.Data).bind fun v2 => chk ((s1.2.length + ([(⟨x1.At, v2⟩ : api_Page)]).length) * 32 ≤ 140737488355328) (chk (InI64 (s1.1 + 1)) (some (.inl (((s1.1 + 1), (s1.2 ++ [(⟨x1.At, v2⟩ : api_Page)]))))))) else out (some s1.2)

noncomputable def ref04_Rot_L1 (p_d : api_Disk) (p_at : Int) (p_bit : Int) (s1 : Int × (List api_Page)) : Option ((List api_Page)) := loop (ref04_Rot_B1 p_d p_at p_bit) s1

/-- catacombref04.Rot -/
noncomputable def ref04_Rot (p_d : api_Disk) (p_at : Int) (p_bit : Int) : Option api_Disk := (ref04_Rot_L1 p_d p_at p_bit ((0, []))).bind fun v1 => some ((⟨v1, p_d.Loose, p_d.Down⟩ : api_Disk))

/-- catacomblaw04.told -/
noncomputable def law04_told (p_d : api_Disk) (p_x : law04_Act) : Option (api_Disk × Int) := if (p_x.Do == 0) then (ref04_Write p_d p_x.At p_x.Data).bind fun x1 => some ((x1.1, x1.2)) else if (p_x.Do == 1) then (ref04_Sync p_d).bind fun x2 => some ((x2.1, x2.2)) else if (p_x.Do == 2) then (ref04_Crash p_d p_x.N).bind fun x3 => some ((x3, 0)) else if (p_x.Do == 3) then some (((⟨p_d.Synced, p_d.Loose, false⟩ : api_Disk), 0)) else if (p_x.Do == 4) then (ref04_Rot p_d p_x.At p_x.N).bind fun x4 => some ((x4, 0)) else some ((p_d, 0))

noncomputable def ref04_Pages_J1 (_v1 : Unit) : Option Bool := some true

noncomputable def ref04_Pages_B1 (p_a : List api_Page) (p_b : List api_Page) (s1 : Int) : Option ((Int) ⊕ Bool) := if (decide (s1 < (p_a.length : Int))) then (idx p_a s1).bind fun x1 => (idx p_b s1).bind fun x2 => (ref04_Bytes x1.Data x2.Data).bind fun x3 => ((if (!x3) then some true else (idx p_a s1).bind fun x4 => (idx p_b s1).bind fun x5 => some ((x4.At != x5.At))).bind fun c1 => some c1).bind fun v2 => if v2 then out (some false) else chk (InI64 (s1 + 1)) (some (.inl ((s1 + 1)))) else out (ref04_Pages_J1 (()))

noncomputable def ref04_Pages_L1 (p_a : List api_Page) (p_b : List api_Page) (s1 : Int) : Option Bool := loop (ref04_Pages_B1 p_a p_b) s1

/-- catacombref04.Pages -/
noncomputable def ref04_Pages (p_a : List api_Page) (p_b : List api_Page) : Option Bool := if ((p_a.length : Int) != (p_b.length : Int)) then some false else ref04_Pages_L1 p_a p_b (0)

/-- catacombref04.Same -/
noncomputable def ref04_Same (p_a : api_Disk) (p_b : api_Disk) : Option Bool := (ref04_Pages p_a.Synced p_b.Synced).bind fun x1 => (ref04_Pages p_a.Loose p_b.Loose).bind fun x2 => ((if x1 then some x2 else some false).bind fun c1 => (if c1 then some ((p_a.Down == p_b.Down)) else some false).bind fun c2 => some c2).bind fun v1 => some v1

noncomputable def ref04_Read_J2 (_v3 : Unit) : Option ((List UInt8) × Int) := some (([], 41))

noncomputable def ref04_Read_B2 (p_d : api_Disk) (p_at : Int) (s2 : Int) : Option ((Int) ⊕ ((List UInt8) × Int)) := if (decide (s2 < (p_d.Synced.length : Int))) then (idx p_d.Synced s2).bind fun x3 => if (x3.At == p_at) then (idx p_d.Synced s2).bind fun x4 => out (some ((x4.Data, 0))) else chk (InI64 (s2 + 1)) (some (.inl ((s2 + 1)))) else out (ref04_Read_J2 (()))

noncomputable def ref04_Read_L2 (p_d : api_Disk) (p_at : Int) (s2 : Int) : Option ((List UInt8) × Int) := loop (ref04_Read_B2 p_d p_at) s2

noncomputable def ref04_Read_J1 (p_d : api_Disk) (p_at : Int) (_v2 : Unit) : Option ((List UInt8) × Int) := ref04_Read_L2 p_d p_at (0)

noncomputable def ref04_Read_B1 (p_d : api_Disk) (p_at : Int) (s1 : Int) : Option ((Int) ⊕ ((List UInt8) × Int)) := if (decide (s1 ≥ 0)) then (idx p_d.Loose s1).bind fun x1 => if (x1.At == p_at) then (idx p_d.Loose s1).bind fun x2 => out (some ((x2.Data, 0))) else chk (InI64 (s1 - 1)) (some (.inl ((s1 - 1)))) else out (ref04_Read_J1 p_d p_at (()))

noncomputable def ref04_Read_L1 (p_d : api_Disk) (p_at : Int) (s1 : Int) : Option ((List UInt8) × Int) := loop (ref04_Read_B1 p_d p_at) s1

/-- catacombref04.Read -/
noncomputable def ref04_Read (p_d : api_Disk) (p_at : Int) : Option ((List UInt8) × Int) := if p_d.Down then some (([], 40)) else ((if (decide (p_at < 0)) then some true else some ((decide (p_at > 999)))).bind fun c1 => some c1).bind fun v1 => if v1 then some (([], 1)) else chk (InI64 ((p_d.Loose.length : Int) - 1)) (ref04_Read_L1 p_d p_at (((p_d.Loose.length : Int) - 1)))

noncomputable def law04_DiskTells_J1 (x1 : Bool) (x2 : Bool) (_v3 : Unit) : Option Bool := ((if x1 then some x2 else some false).bind fun c10 => some c10).bind fun v6 => some v6

noncomputable def law04_DiskTells_B1 (p_l : List law04_Act) (p_at : Int) (x1 : Bool) (x2 : Bool) (s1 : Int × (List api_Page) × (List api_Page) × Bool × (List api_Page) × (List api_Page) × Bool) : Option ((Int × (List api_Page) × (List api_Page) × Bool × (List api_Page) × (List api_Page) × Bool) ⊕ Bool) := if (decide (s1.1 < (p_l.length : Int))) then (law04_own ((⟨s1.2.1, s1.2.2.1, s1.2.2.2.1⟩ : api_Disk))).bind fun x6 => (idx p_l s1.1).bind fun x7 => (law04_step ((⟨s1.2.1, s1.2.2.1, s1.2.2.2.1⟩ : api_Disk)) x7).bind fun x8 => (idx p_l s1.1).bind fun x9 => (law04_told ((⟨s1.2.2.2.2.1, s1.2.2.2.2.2.1, s1.2.2.2.2.2.2⟩ : api_Disk)) x9).bind fun x10 => (ref04_Same x8.1 x10.1).bind fun x11 => (ref04_Same x6 ((⟨s1.2.1, s1.2.2.1, s1.2.2.2.1⟩ : api_Disk))).bind fun x12 => ((if (!x11) then some true else some ((!x12))).bind fun c6 => (if c6 then some true else some ((x8.2 != x10.2))).bind fun c7 => (if c7 then some true else (disk_Right x8.1).bind fun x13 => some ((!x13))).bind fun c8 => some c8).bind fun v4 => if v4 then out (some false) else (disk_Read x8.1 p_at).bind fun x14 => (ref04_Read x10.1 p_at).bind fun x15 => (ref04_Bytes x14.1 x15.1).bind fun x16 => ((if (!x16) then some true else some ((x14.2 != x15.2))).bind fun c9 => some c9).bind fun v5 => if v5 then out (some false) else chk (InI64 (s1.1 + 1)) (some (.inl (((s1.1 + 1), x8.1.Synced, x8.1.Loose, x8.1.Down, x10.1.Synced, x10.1.Loose, x10.1.Down)))) else out (law04_DiskTells_J1 x1 x2 (()))

noncomputable def law04_DiskTells_L1 (p_l : List law04_Act) (p_at : Int) (x1 : Bool) (x2 : Bool) (s1 : Int × (List api_Page) × (List api_Page) × Bool × (List api_Page) × (List api_Page) × Bool) : Option Bool := loop (law04_DiskTells_B1 p_l p_at x1 x2) s1

/-- catacomblaw04.DiskTells -/
noncomputable def law04_DiskTells (p_d : api_Disk) (p_l : List law04_Act) (p_at : Int) : Option Bool := (law04_head).bind fun x1 => (disk_Right p_d).bind fun x2 => (law04_Fits p_d).bind fun x3 => ((if (!x3) then some true else some ((decide ((p_l.length : Int) > 60)))).bind fun c1 => some c1).bind fun v1 => if v1 then ((if x1 then (if (decide ((p_d.Synced.length : Int) > 60)) then some true else some ((decide ((p_d.Loose.length : Int) > 60)))).bind fun c2 => (if c2 then some true else some ((decide ((p_l.length : Int) > 60)))).bind fun c3 => (if c3 then some true else some ((x2 == x3))).bind fun c4 => some c4 else some false).bind fun c5 => some c5).bind fun v2 => some v2 else (law04_own p_d).bind fun x4 => (law04_own p_d).bind fun x5 => law04_DiskTells_L1 p_l p_at x1 x2 ((0, x4.Synced, x4.Loose, x4.Down, x5.Synced, x5.Loose, x5.Down))

/-- catacomblaw04.DiskWritten -/
noncomputable def law04_DiskWritten (p_d : api_Disk) (p_at : Int) (p_data : List UInt8) (p_other : Int) : Option Bool := (law04_head).bind fun x1 => (law04_Fits p_d).bind fun x2 => ((if (!x2) then some true else some p_d.Down).bind fun c1 => (if c1 then some true else some ((decide (p_at < 0)))).bind fun c2 => (if c2 then some true else some ((decide (p_at > 999)))).bind fun c3 => (if c3 then some true else some ((decide ((p_data.length : Int) > 200)))).bind fun c4 => some c4).bind fun v1 => if v1 then some x1 else (disk_Read p_d p_other).bind fun x3 => (disk_Write p_d p_at p_data).bind fun x4 => (disk_Read x4.1 p_at).bind fun x5 => (disk_Sync x4.1).bind fun x6 => (disk_Read x6.1 p_at).bind fun x7 => (ref04_Bytes x5.1 p_data).bind fun x8 => (ref04_Bytes x7.1 p_data).bind fun x9 => ((if (!x8) then some true else some ((!x9))).bind fun c5 => (if c5 then some true else some ((x4.2 != 0))).bind fun c6 => (if c6 then some true else some ((x5.2 != 0))).bind fun c7 => (if c7 then some true else some ((x6.2 != 0))).bind fun c8 => (if c8 then some true else some ((x7.2 != 0))).bind fun c9 => some c9).bind fun v2 => if v2 then some false else if (p_other == p_at) then some x1 else (disk_Read x4.1 p_other).bind fun x10 => (disk_Read x6.1 p_other).bind fun x11 => (ref04_Bytes x10.1 x3.1).bind fun x12 => (ref04_Bytes x11.1 x3.1).bind fun x13 => ((if x1 then some x12 else some false).bind fun c10 => (if c10 then some x13 else some false).bind fun c11 => (if c11 then some ((x10.2 == x3.2)) else some false).bind fun c12 => (if c12 then some ((x11.2 == x3.2)) else some false).bind fun c13 => some c13).bind fun v3 => some v3

/-- catacomblaw04.DiskSure -/
noncomputable def law04_DiskSure (p_d : api_Disk) (p_keep : Int) (p_at : Int) : Option Bool := (law04_head).bind fun x1 => (law04_Fits p_d).bind fun x2 => ((if (!x2) then some true else some p_d.Down).bind fun c1 => some c1).bind fun v1 => if v1 then some x1 else (disk_Read p_d p_at).bind fun x3 => (disk_Sync p_d).bind fun x4 => (disk_Crash x4.1 p_keep).bind fun x5 => (disk_Up x5).bind fun x6 => (disk_Read x6 p_at).bind fun x7 => (ref04_Bytes x3.1 x7.1).bind fun x8 => ((if x1 then some x8 else some false).bind fun c2 => (if c2 then some ((x4.2 == 0)) else some false).bind fun c3 => (if c3 then some ((x3.2 == x7.2)) else some false).bind fun c4 => some c4).bind fun v2 => some v2

noncomputable def law04_DiskFirst_J1 (p_keep : UInt8) (p_at : Int) (x1 : Bool) (v2 : (List api_Page) × (List api_Page) × Bool × (List api_Page) × (List api_Page) × Bool) : Option Bool := (disk_Sync ((⟨v2.2.2.2.1, v2.2.2.2.2.1, v2.2.2.2.2.2⟩ : api_Disk))).bind fun x9 => (disk_Crash ((⟨v2.1, v2.2.1, v2.2.2.1⟩ : api_Disk)) ((p_keep.toNat : Int))).bind fun x10 => (disk_Up x10).bind fun x11 => (disk_Read x11 p_at).bind fun x12 => (disk_Read x9.1 p_at).bind fun x13 => (ref04_Bytes x12.1 x13.1).bind fun x14 => ((if x1 then some x14 else some false).bind fun c5 => (if c5 then some ((x12.2 == x13.2)) else some false).bind fun c6 => (if c6 then some ((x9.2 == 0)) else some false).bind fun c7 => some c7).bind fun v6 => some v6

noncomputable def law04_DiskFirst_J2 (s1 : Int × Int × (List api_Page) × (List api_Page) × Bool × (List api_Page) × (List api_Page) × Bool) (v3 : Int × (List api_Page) × (List api_Page) × Bool × (List api_Page) × (List api_Page) × Bool) : Option ((Int × Int × (List api_Page) × (List api_Page) × Bool × (List api_Page) × (List api_Page) × Bool) ⊕ Bool) := chk (InI64 (s1.2.1 + 1)) (some (.inl ((v3.1, (s1.2.1 + 1), v3.2.1, v3.2.2.1, v3.2.2.2.1, v3.2.2.2.2.1, v3.2.2.2.2.2.1, v3.2.2.2.2.2.2))))

noncomputable def law04_DiskFirst_J3 (x5 : api_Disk × Int) (s1 : Int × Int × (List api_Page) × (List api_Page) × Bool × (List api_Page) × (List api_Page) × Bool) (v4 : (List api_Page) × (List api_Page) × Bool) : Option ((Int × Int × (List api_Page) × (List api_Page) × Bool × (List api_Page) × (List api_Page) × Bool) ⊕ Bool) := if (x5.2 == 0) then chk (InI64 (s1.1 + 1)) (law04_DiskFirst_J2 s1 (((s1.1 + 1), x5.1.Synced, x5.1.Loose, x5.1.Down, v4.1, v4.2.1, v4.2.2))) else law04_DiskFirst_J2 s1 ((s1.1, x5.1.Synced, x5.1.Loose, x5.1.Down, v4.1, v4.2.1, v4.2.2))

noncomputable def law04_DiskFirst_B1 (p_l : List law04_Act) (p_keep : UInt8) (p_at : Int) (x1 : Bool) (s1 : Int × Int × (List api_Page) × (List api_Page) × Bool × (List api_Page) × (List api_Page) × Bool) : Option ((Int × Int × (List api_Page) × (List api_Page) × Bool × (List api_Page) × (List api_Page) × Bool) ⊕ Bool) := if (decide (s1.2.1 < (p_l.length : Int))) then (idx p_l s1.2.1).bind fun x3 => (idx p_l s1.2.1).bind fun x4 => (disk_Write ((⟨s1.2.2.1, s1.2.2.2.1, s1.2.2.2.2.1⟩ : api_Disk)) x3.At x4.Data).bind fun x5 => ((if (x5.2 == 0) then some ((decide (s1.1 < (p_keep.toNat : Int)))) else some false).bind fun c4 => some c4).bind fun v5 => if v5 then (idx p_l s1.2.1).bind fun x6 => (idx p_l s1.2.1).bind fun x7 => (disk_Write ((⟨s1.2.2.2.2.2.1, s1.2.2.2.2.2.2.1, s1.2.2.2.2.2.2.2⟩ : api_Disk)) x6.At x7.Data).bind fun x8 => if (x8.2 != 0) then out (some false) else law04_DiskFirst_J3 x5 s1 ((x8.1.Synced, x8.1.Loose, x8.1.Down)) else law04_DiskFirst_J3 x5 s1 ((s1.2.2.2.2.2.1, s1.2.2.2.2.2.2.1, s1.2.2.2.2.2.2.2)) else out (law04_DiskFirst_J1 p_keep p_at x1 ((s1.2.2.1, s1.2.2.2.1, s1.2.2.2.2.1, s1.2.2.2.2.2.1, s1.2.2.2.2.2.2.1, s1.2.2.2.2.2.2.2)))

noncomputable def law04_DiskFirst_L1 (p_l : List law04_Act) (p_keep : UInt8) (p_at : Int) (x1 : Bool) (s1 : Int × Int × (List api_Page) × (List api_Page) × Bool × (List api_Page) × (List api_Page) × Bool) : Option Bool := loop (law04_DiskFirst_B1 p_l p_keep p_at x1) s1

/-- catacomblaw04.DiskFirst -/
noncomputable def law04_DiskFirst (p_d : api_Disk) (p_l : List law04_Act) (p_keep : UInt8) (p_at : Int) : Option Bool := (law04_head).bind fun x1 => (law04_Fits p_d).bind fun x2 => ((if (!x2) then some true else some p_d.Down).bind fun c1 => (if c1 then some true else some ((decide ((p_d.Loose.length : Int) > 0)))).bind fun c2 => (if c2 then some true else some ((decide ((p_l.length : Int) > 60)))).bind fun c3 => some c3).bind fun v1 => if v1 then some x1 else law04_DiskFirst_L1 p_l p_keep p_at x1 ((0, 0, p_d.Synced, p_d.Loose, p_d.Down, p_d.Synced, p_d.Loose, p_d.Down))

noncomputable def law04_DiskRot_B2 (p_d : api_Disk) (p_at : Int) (s2 : Bool × Int) : Option ((Bool × Int) ⊕ Bool) := if (decide (s2.2 < (p_d.Loose.length : Int))) then ((if s2.1 then some true else (idx p_d.Loose s2.2).bind fun x13 => some ((x13.At == p_at))).bind fun c7 => some c7).bind fun v6 => chk (InI64 (s2.2 + 1)) (some (.inl ((v6, (s2.2 + 1))))) else out (some s2.1)

noncomputable def law04_DiskRot_L2 (p_d : api_Disk) (p_at : Int) (s2 : Bool × Int) : Option Bool := loop (law04_DiskRot_B2 p_d p_at) s2

noncomputable def law04_DiskRot_J1 (p_d : api_Disk) (p_at : Int) (x3 : (List UInt8) × Int) (p_bit : Int) (x1 : Bool) (v3 : Int) : Option Bool := (law04_DiskRot_L2 p_d p_at ((false, 0))).bind fun v5 => ((if v5 then some true else some ((x3.2 != 0))).bind fun c8 => (if c8 then some true else some ((decide (p_bit < 0)))).bind fun c9 => (if c9 then some true else chk (InI64 (8 * (x3.1.length : Int))) (some ((decide (p_bit ≥ (8 * (x3.1.length : Int))))))).bind fun c10 => some c10).bind fun v7 => if v7 then ((if x1 then some ((v3 == 0)) else some false).bind fun c11 => some c11).bind fun v8 => some v8 else ((if x1 then some ((v3 == 1)) else some false).bind fun c12 => some c12).bind fun v9 => some v9

noncomputable def law04_DiskRot_J2 (s1 : Int × Int) (v4 : Int) : Option ((Int × Int) ⊕ Bool) := chk (InI64 (s1.2 + 1)) (some (.inl ((v4, (s1.2 + 1)))))

noncomputable def law04_DiskRot_B1 (x3 : (List UInt8) × Int) (x5 : (List UInt8) × Int) (p_bit : Int) (p_d : api_Disk) (p_at : Int) (x1 : Bool) (s1 : Int × Int) : Option ((Int × Int) ⊕ Bool) := if (decide (s1.2 < (x3.1.length : Int))) then (idx x3.1 s1.2).bind fun x11 => (idx x5.1 s1.2).bind fun x12 => if ((x11.toNat : Int) != (x12.toNat : Int)) then chk (InI64 (s1.1 + 1)) (if ((quoK .i64 p_bit (8)) != s1.2) then out (some false) else law04_DiskRot_J2 s1 ((s1.1 + 1))) else law04_DiskRot_J2 s1 s1.1 else out (law04_DiskRot_J1 p_d p_at x3 p_bit x1 s1.1)

noncomputable def law04_DiskRot_L1 (x3 : (List UInt8) × Int) (x5 : (List UInt8) × Int) (p_bit : Int) (p_d : api_Disk) (p_at : Int) (x1 : Bool) (s1 : Int × Int) : Option Bool := loop (law04_DiskRot_B1 x3 x5 p_bit p_d p_at x1) s1

/-- catacomblaw04.DiskRot -/
noncomputable def law04_DiskRot (p_d : api_Disk) (p_at : Int) (p_bit : Int) (p_other : Int) : Option Bool := (law04_head).bind fun x1 => (law04_Fits p_d).bind fun x2 => ((if (!x2) then some true else some p_d.Down).bind fun c1 => some c1).bind fun v1 => if v1 then some x1 else (disk_Read p_d p_at).bind fun x3 => (disk_Rot p_d p_at p_bit).bind fun x4 => (disk_Read x4 p_at).bind fun x5 => (disk_Rot x4 p_at p_bit).bind fun x6 => (ref04_Same x6 p_d).bind fun x7 => (disk_Read p_d p_other).bind fun x8 => (disk_Read x4 p_other).bind fun x9 => (ref04_Bytes x8.1 x9.1).bind fun x10 => ((if (!x7) then some true else some ((x3.2 != x5.2))).bind fun c2 => (if c2 then some true else some ((x8.2 != x9.2))).bind fun c3 => (if c3 then some true else some (((x3.1.length : Int) != (x5.1.length : Int)))).bind fun c4 => (if c4 then some true else (if (p_other != p_at) then some ((!x10)) else some false).bind fun c5 => some c5).bind fun c6 => some c6).bind fun v2 => if v2 then some false else law04_DiskRot_L1 x3 x5 p_bit p_d p_at x1 ((0, 0))

/-- catacomblaw04.DiskDown -/
noncomputable def law04_DiskDown (p_d : api_Disk) (p_keep : Int) (p_at : Int) (p_data : List UInt8) : Option Bool := (law04_head).bind fun x1 => (law04_Fits p_d).bind fun x2 => if (!x2) then some x1 else (disk_Crash p_d p_keep).bind fun x3 => (disk_Write x3 p_at p_data).bind fun x4 => (disk_Sync x3).bind fun x5 => (disk_Read x3 p_at).bind fun x6 => (ref04_Same x3 x4.1).bind fun x7 => (ref04_Same x3 x5.1).bind fun x8 => (disk_Up x3).bind fun x9 => (disk_Sync x9).bind fun x10 => (ref04_Same x9 x10.1).bind fun x11 => (disk_Crash x3 p_keep).bind fun x12 => (ref04_Same x12 x3).bind fun x13 => ((if x1 then some x3.Down else some false).bind fun c1 => (if c1 then some (((x3.Loose.length : Int) == 0)) else some false).bind fun c2 => (if c2 then some ((x4.2 == 40)) else some false).bind fun c3 => (if c3 then some ((x5.2 == 40)) else some false).bind fun c4 => (if c4 then some ((x6.2 == 40)) else some false).bind fun c5 => (if c5 then some x7 else some false).bind fun c6 => (if c6 then some x8 else some false).bind fun c7 => (if c7 then some x11 else some false).bind fun c8 => (if c8 then some x13 else some false).bind fun c9 => (if c9 then some ((x10.2 == 0)) else some false).bind fun c10 => some c10).bind fun v1 => some v1
end Go.Proofs
