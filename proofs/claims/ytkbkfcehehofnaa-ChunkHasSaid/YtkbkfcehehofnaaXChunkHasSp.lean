/- The plain programs of this seat. No condition. -/
import Derived.Test.YtkbkfcehehofnaaCatW
namespace Go.Proofs
set_option linter.all false
open Go Go.Cat

structure api_Page where
  At : Int
  Data : List UInt8


structure api_Disk where
  Synced : List api_Page
  Loose : List api_Page
  Down : Bool


structure api_Copy where
  Id : Int
  Ver : Int
  Data : List UInt8
  Sums : List Int


/-- slices.Clone[[]byte,byte] -/
noncomputable def slices_Clone_byte_byte (p_s : List UInt8) : Option ((List UInt8)) := anyOf (fun b1 => b1 = true → p_s = []) fun b1 => if b1 then some ([]) else chk (((([] : List UInt8)).length + p_s.length) * 1 ≤ 140737488355328) (some ((([] : List UInt8) ++ p_s)))

/-- sum.half$1 -/
noncomputable def sum_half_1 (p_c : Int) : Option Int := if ((andK .u32 p_c (1)) == 1) then some ((xorK .u32 ((shrK .u32 p_c (1))) (2197175160))) else some ((shrK .u32 p_c (1)))

noncomputable def sum_half_B2 (s2 : Int × Int) : Option ((Int × Int) ⊕ Int) := if (decide (s2.2 < 4)) then (sum_half_1 s2.1).bind fun x1 => chk (InI64 (s2.2 + 1)) (some (.inl ((x1, (s2.2 + 1))))) else out (some s2.1)

noncomputable def sum_half_L2 (s2 : Int × Int) : Option Int := loop (sum_half_B2) s2

noncomputable def sum_half_B1 (s1 : Int × (List Int)) : Option ((Int × (List Int)) ⊕ ((List Int))) := if (decide (s1.1 < 16)) then ((sum_half_L2 (((IntKind.u32.wrap s1.1), 0))).bind fun v3 => (idx s1.2 s1.1).bind fun _ => chk (s1.1 < 16) (some ((s1.2.set s1.1.toNat v3)))).bind fun v2 => chk (InI64 (s1.1 + 1)) (some (.inl (((s1.1 + 1), v2)))) else out (some s1.2)

noncomputable def sum_half_L1 (s1 : Int × (List Int)) : Option ((List Int)) := loop (sum_half_B1) s1

/-- sum.half -/
noncomputable def sum_half : Option ((List Int)) := (sum_half_L1 ((0, (List.replicate 16 0)))).bind fun v1 => chk (v1.length = 16) (chk (v1.length = 16) (chk (v1.length = 16) (some v1)))

noncomputable def sum_of_B1 (p_b : List UInt8) (p_t : List Int) (s1 : Int × Int) : Option ((Int × Int) ⊕ Int) := if (decide (s1.2 < (p_b.length : Int))) then (idx p_b s1.2).bind fun x1 => (idx p_t ((andK .u32 ((xorK .u32 s1.1 ((x1.toNat : Int)))) (15)))).bind fun x2 => chk ((andK .u32 ((xorK .u32 s1.1 ((x1.toNat : Int)))) (15)) < 16) ((idx p_t ((andK .u32 ((xorK .u32 x2 ((shrK .u32 ((xorK .u32 s1.1 ((x1.toNat : Int)))) (4))))) (15)))).bind fun x3 => chk ((andK .u32 ((xorK .u32 x2 ((shrK .u32 ((xorK .u32 s1.1 ((x1.toNat : Int)))) (4))))) (15)) < 16) (chk (InI64 (s1.2 + 1)) (some (.inl (((xorK .u32 x3 ((shrK .u32 ((xorK .u32 x2 ((shrK .u32 ((xorK .u32 s1.1 ((x1.toNat : Int)))) (4))))) (4)))), (s1.2 + 1))))))) else out (some s1.1)

noncomputable def sum_of_L1 (p_b : List UInt8) (p_t : List Int) (s1 : Int × Int) : Option Int := loop (sum_of_B1 p_b p_t) s1

/-- sum.of -/
noncomputable def sum_of (p_t : List Int) (p_b : List UInt8) : Option Int := (sum_of_L1 p_b p_t ((4294967295, 0))).bind fun v1 => some ((IntKind.i64.wrap ((xorK .u32 v1 (4294967295)))))

noncomputable def sum_Blocks_B1 (x1 : (List Int)) (s1 : (List UInt8) × (List Int)) : Option (((List UInt8) × (List Int)) ⊕ ((List Int))) := if (decide ((s1.1.length : Int) > 0)) then chk (x1.length = 16) (chk ((0 : Int) ≤ (min ((s1.1.length : Int)) (16)) ∧ (min ((s1.1.length : Int)) (16)) ≤ (s1.1.length : Int)) ((sum_of x1 ((s1.1.take ((min ((s1.1.length : Int)) (16))).toNat))).bind fun x2 => chk ((s1.2.length + ([x2]).length) * 8 ≤ 140737488355328) (chk ((0 : Int) ≤ (min ((s1.1.length : Int)) (16)) ∧ (min ((s1.1.length : Int)) (16)) ≤ (s1.1.length : Int)) (some (.inl (((s1.1.drop ((min ((s1.1.length : Int)) (16))).toNat), (s1.2 ++ [x2])))))))) else out (some s1.2)

noncomputable def sum_Blocks_L1 (x1 : (List Int)) (s1 : (List UInt8) × (List Int)) : Option ((List Int)) := loop (sum_Blocks_B1 x1) s1

/-- sum.Blocks -/
noncomputable def sum_Blocks (p_data : List UInt8) : Option ((List Int)) := (sum_half).bind fun x1 => chk (x1.length = 16) ((sum_Blocks_L1 x1 ((p_data, []))).bind fun v1 => some v1)

/-- chunk.New -/
noncomputable def chunk_New (p_id : Int) (p_ver : Int) (p_data : List UInt8) : Option api_Copy := (slices_Clone_byte_byte p_data).bind fun x1 => (sum_Blocks p_data).bind fun x2 => some ((⟨p_id, p_ver, x1, x2⟩ : api_Copy))

/-- disk.New -/
noncomputable def disk_New : Option api_Disk := some ((⟨[], [], false⟩ : api_Disk))

/-- chunk.within -/
noncomputable def chunk_within (p_id : Int) : Option Bool := ((if (decide (p_id ≥ 0)) then some ((decide (p_id < 200))) else some false).bind fun c1 => some c1).bind fun v1 => some v1

noncomputable def sum_Check_J1 (x1 : (List Int)) (p_sums : List Int) (_v1 : Unit) : Option Int := if ((x1.length : Int) != (p_sums.length : Int)) then some ((min ((x1.length : Int)) ((p_sums.length : Int)))) else some ((-1))

noncomputable def sum_Check_B1 (x1 : (List Int)) (p_sums : List Int) (s1 : Int) : Option ((Int) ⊕ Int) := if (decide (s1 < (min ((x1.length : Int)) ((p_sums.length : Int))))) then (idx x1 s1).bind fun x2 => (idx p_sums s1).bind fun x3 => if (x2 != x3) then out (some s1) else chk (InI64 (s1 + 1)) (some (.inl ((s1 + 1)))) else out (sum_Check_J1 x1 p_sums (()))

noncomputable def sum_Check_L1 (x1 : (List Int)) (p_sums : List Int) (s1 : Int) : Option Int := loop (sum_Check_B1 x1 p_sums) s1

/-- sum.Check -/
noncomputable def sum_Check (p_data : List UInt8) (p_sums : List Int) : Option Int := (sum_Blocks p_data).bind fun x1 => sum_Check_L1 x1 p_sums (0)

/-- chunk.may -/
noncomputable def chunk_may (p_c : api_Copy) : Option Bool := ((chunk_within p_c.Id).bind fun x1 => (if x1 then some ((decide (p_c.Ver ≥ 0))) else some false).bind fun c1 => (if c1 then some ((decide (p_c.Ver ≤ 1099511627776))) else some false).bind fun c2 => (if c2 then some ((decide ((p_c.Data.length : Int) ≤ 64))) else some false).bind fun c3 => (if c3 then (sum_Check p_c.Data p_c.Sums).bind fun x2 => some ((x2 == (-1))) else some false).bind fun c4 => some c4).bind fun v1 => some v1

noncomputable def pack_Int_B1 (s1 : Int × (List UInt8)) : Option ((Int × (List UInt8)) ⊕ (Int × (List UInt8))) := if (decide (s1.1 ≥ 128)) then chk ((s1.2.length + ([((toU8 s1.1) ||| (128 : UInt8))]).length) * 1 ≤ 140737488355328) (some (.inl (((shrK .u64 s1.1 (7)), (s1.2 ++ [((toU8 s1.1) ||| (128 : UInt8))]))))) else out (some ((s1.1, s1.2)))

noncomputable def pack_Int_L1 (s1 : Int × (List UInt8)) : Option (Int × (List UInt8)) := loop (pack_Int_B1) s1

/-- pack.Int -/
noncomputable def pack_Int (p_n : Int) : Option ((List UInt8)) := (pack_Int_L1 (((xorK .u64 ((shlK .u64 ((IntKind.u64.wrap p_n)) (1))) ((IntKind.u64.wrap ((shrK .i64 p_n (63)))))), []))).bind fun v1 => chk ((v1.2.length + ([(toU8 v1.1)]).length) * 1 ≤ 140737488355328) (some ((v1.2 ++ [(toU8 v1.1)])))

/-- pack.Str -/
noncomputable def pack_Str (p_s : List UInt8) : Option ((List UInt8)) := (pack_Int ((p_s.length : Int))).bind fun x1 => chk ((x1.length + p_s.length) * 1 ≤ 140737488355328) (some ((x1 ++ p_s)))

noncomputable def pack_numbers_B1 (p_l : List Int) (s1 : Int × (List UInt8)) : Option ((Int × (List UInt8)) ⊕ ((List UInt8))) := if (decide (s1.1 < (p_l.length : Int))) then (idx p_l s1.1).bind fun x1 => (pack_Int x1).bind fun x2 => chk ((s1.2.length + x2.length) * 1 ≤ 140737488355328) (chk (InI64 (s1.1 + 1)) (some (.inl (((s1.1 + 1), (s1.2 ++ x2)))))) else out (some s1.2)

noncomputable def pack_numbers_L1 (p_l : List Int) (s1 : Int × (List UInt8)) : Option ((List UInt8)) := loop (pack_numbers_B1 p_l) s1

/-- pack.numbers -/
noncomputable def pack_numbers (p_l : List Int) : Option ((List UInt8)) := (pack_numbers_L1 p_l ((0, []))).bind fun v1 => some v1

/-- pack.Ints -/
noncomputable def pack_Ints (p_l : List Int) : Option ((List UInt8)) := (pack_Int ((p_l.length : Int))).bind fun x1 => (pack_numbers p_l).bind fun x2 => chk ((x1.length + x2.length) * 1 ≤ 140737488355328) (some ((x1 ++ x2)))

/-- slices.Grow[[]byte,byte] -/
noncomputable def slices_Grow_byte_byte__nil (p_n : Int) : Option ((List UInt8)) := (if (decide (p_n < 0)) then none else some (())).bind fun _ => (chk (InI64 (p_n - 0)) (if (decide ((p_n - 0) > 0)) then chk ((0 : Int) ≤ (p_n - 0) ∧ ((p_n - 0)).toNat * 1 ≤ 140737488355328) (chk ((0 : Int) ≤ 0 ∧ 0 ≤ (((List.replicate ((p_n - 0)).toNat ((0 : UInt8)))).length : Int)) (some ((((List.replicate ((p_n - 0)).toNat ((0 : UInt8)))).take (0 : Int).toNat)))) else some ([]))).bind fun v2 => some v2

noncomputable def slices_Concat_byte_byte_B1 (p_slices : List (List UInt8)) (s1 : Int × Int) : Option ((Int × Int) ⊕ Int) := if (decide (s1.2 < (p_slices.length : Int))) then ((idx p_slices s1.2).bind fun x1 => chk (InI64 (s1.1 + (x1.length : Int))) (if (decide ((s1.1 + (x1.length : Int)) < 0)) then none else some ((s1.1 + (x1.length : Int))))).bind fun v2 => chk (InI64 (s1.2 + 1)) (some (.inl ((v2, (s1.2 + 1))))) else out (some s1.1)

noncomputable def slices_Concat_byte_byte_L1 (p_slices : List (List UInt8)) (s1 : Int × Int) : Option Int := loop (slices_Concat_byte_byte_B1 p_slices) s1

noncomputable def slices_Concat_byte_byte_B2 (p_slices : List (List UInt8)) (s2 : Int × (List UInt8)) : Option ((Int × (List UInt8)) ⊕ ((List UInt8))) := if (decide (s2.1 < (p_slices.length : Int))) then (idx p_slices s2.1).bind fun x3 => chk ((s2.2.length + x3.length) * 1 ≤ 140737488355328) (chk (InI64 (s2.1 + 1)) (some (.inl (((s2.1 + 1), (s2.2 ++ x3)))))) else out (some s2.2)

noncomputable def slices_Concat_byte_byte_L2 (p_slices : List (List UInt8)) (s2 : Int × (List UInt8)) : Option ((List UInt8)) := loop (slices_Concat_byte_byte_B2 p_slices) s2

/-- slices.Concat[[]byte,byte] -/
noncomputable def slices_Concat_byte_byte (p_slices : List (List UInt8)) : Option ((List UInt8)) := (slices_Concat_byte_byte_L1 p_slices ((0, 0))).bind fun v1 => (slices_Grow_byte_byte__nil v1).bind fun x2 => (slices_Concat_byte_byte_L2 p_slices ((0, x2))).bind fun v3 => some v3

/-- sum.Of -/
noncomputable def sum_Of (p_b : List UInt8) : Option Int := (sum_half).bind fun x1 => (sum_of x1 p_b).bind fun x2 => some x2

noncomputable def chunk_page_B1 (x6 : Int) (s1 : Int × (List UInt8)) : Option ((Int × (List UInt8)) ⊕ ((List UInt8))) := if (decide (s1.1 < 4)) then chk (InI64 (8 * s1.1)) (chk ((0 : Int) ≤ (8 * s1.1)) (chk ((s1.2.length + ([(toU8 ((shrK .i64 x6 ((8 * s1.1)))))]).length) * 1 ≤ 140737488355328) (chk (InI64 (s1.1 + 1)) (some (.inl (((s1.1 + 1), (s1.2 ++ [(toU8 ((shrK .i64 x6 ((8 * s1.1)))))])))))))) else out (some s1.2)

noncomputable def chunk_page_L1 (x6 : Int) (s1 : Int × (List UInt8)) : Option ((List UInt8)) := loop (chunk_page_B1 x6) s1

/-- chunk.page -/
noncomputable def chunk_page (p_c : api_Copy) : Option ((List UInt8)) := (pack_Int p_c.Id).bind fun x1 => (pack_Int p_c.Ver).bind fun x2 => (pack_Str p_c.Data).bind fun x3 => (pack_Ints p_c.Sums).bind fun x4 => (slices_Concat_byte_byte ([x1, x2, x3, x4])).bind fun x5 => (sum_Of x5).bind fun x6 => (chunk_page_L1 x6 ((0, x5))).bind fun v1 => some v1

/-- disk.may -/
noncomputable def disk_may (p_at : Int) (p_data : List UInt8) : Option Bool := ((if (decide (p_at ≥ 0)) then some ((decide (p_at < 1000))) else some false).bind fun c1 => (if c1 then some ((decide ((p_data.length : Int) ≤ 200))) else some false).bind fun c2 => some c2).bind fun v1 => some v1

/-- slices.Clone[[]api.Page,api.Page] -/
noncomputable def slices_Clone_api_Page_api_Page (p_s : List api_Page) : Option ((List api_Page)) := anyOf (fun b1 => b1 = true → p_s = []) fun b1 => if b1 then some ([]) else chk (((([] : List api_Page)).length + p_s.length) * 32 ≤ 140737488355328) (some ((([] : List api_Page) ++ p_s)))

/-- bytes.Clone -/
noncomputable def bytes_Clone (p_b : List UInt8) : Option ((List UInt8)) := anyOf (fun b1 => b1 = true → p_b = []) fun b1 => if b1 then some ([]) else chk (((([] : List UInt8)).length + p_b.length) * 1 ≤ 140737488355328) (some ((([] : List UInt8) ++ p_b)))

/-- disk.Write -/
noncomputable def disk_Write (p_d : api_Disk) (p_at : Int) (p_data : List UInt8) : Option (api_Disk × Int) := if p_d.Down then some ((p_d, 40)) else (disk_may p_at p_data).bind fun x1 => if (!x1) then some ((p_d, 1)) else (slices_Clone_api_Page_api_Page p_d.Loose).bind fun x2 => (bytes_Clone p_data).bind fun x3 => chk ((x2.length + ([(⟨p_at, x3⟩ : api_Page)]).length) * 32 ≤ 140737488355328) (some (((⟨p_d.Synced, (x2 ++ [(⟨p_at, x3⟩ : api_Page)]), p_d.Down⟩ : api_Disk), 0)))

/-- chunk.Put -/
noncomputable def chunk_Put (p_d : api_Disk) (p_c : api_Copy) : Option (api_Disk × Int) := (chunk_may p_c).bind fun x1 => if (!x1) then some ((p_d, 1)) else (chunk_page p_c).bind fun x2 => (disk_Write p_d p_c.Id x2).bind fun x3 => some ((x3.1, x3.2))

/-- slices.Grow[[]api.Page,api.Page] -/
noncomputable def slices_Grow_api_Page_api_Page__nil (p_n : Int) : Option ((List api_Page)) := (if (decide (p_n < 0)) then none else some (())).bind fun _ => (chk (InI64 (p_n - 0)) (if (decide ((p_n - 0) > 0)) then chk ((0 : Int) ≤ (p_n - 0) ∧ ((p_n - 0)).toNat * 32 ≤ 140737488355328) (chk ((0 : Int) ≤ 0 ∧ 0 ≤ (((List.replicate ((p_n - 0)).toNat (((⟨0, []⟩ : api_Page) : api_Page)))).length : Int)) (some ((((List.replicate ((p_n - 0)).toNat (((⟨0, []⟩ : api_Page) : api_Page)))).take (0 : Int).toNat)))) else some ([]))).bind fun v2 => some v2

noncomputable def slices_Concat_api_Page_api_Page_B1 (p_slices : List (List api_Page)) (s1 : Int × Int) : Option ((Int × Int) ⊕ Int) := if (decide (s1.2 < (p_slices.length : Int))) then ((idx p_slices s1.2).bind fun x1 => chk (InI64 (s1.1 + (x1.length : Int))) (if (decide ((s1.1 + (x1.length : Int)) < 0)) then none else some ((s1.1 + (x1.length : Int))))).bind fun v2 => chk (InI64 (s1.2 + 1)) (some (.inl ((v2, (s1.2 + 1))))) else out (some s1.1)

noncomputable def slices_Concat_api_Page_api_Page_L1 (p_slices : List (List api_Page)) (s1 : Int × Int) : Option Int := loop (slices_Concat_api_Page_api_Page_B1 p_slices) s1

noncomputable def slices_Concat_api_Page_api_Page_B2 (p_slices : List (List api_Page)) (s2 : Int × (List api_Page)) : Option ((Int × (List api_Page)) ⊕ ((List api_Page))) := if (decide (s2.1 < (p_slices.length : Int))) then (idx p_slices s2.1).bind fun x3 => chk ((s2.2.length + x3.length) * 32 ≤ 140737488355328) (chk (InI64 (s2.1 + 1)) (some (.inl (((s2.1 + 1), (s2.2 ++ x3)))))) else out (some s2.2)

noncomputable def slices_Concat_api_Page_api_Page_L2 (p_slices : List (List api_Page)) (s2 : Int × (List api_Page)) : Option ((List api_Page)) := loop (slices_Concat_api_Page_api_Page_B2 p_slices) s2

/-- slices.Concat[[]api.Page,api.Page] -/
noncomputable def slices_Concat_api_Page_api_Page (p_slices : List (List api_Page)) : Option ((List api_Page)) := (slices_Concat_api_Page_api_Page_L1 p_slices ((0, 0))).bind fun v1 => (slices_Grow_api_Page_api_Page__nil v1).bind fun x2 => (slices_Concat_api_Page_api_Page_L2 p_slices ((0, x2))).bind fun v3 => some v3

noncomputable def slices_Reverse_api_Page_api_Page_B1 (s1 : Int × Int × (List api_Page)) : Option ((Int × Int × (List api_Page)) ⊕ (Unit × List api_Page)) := if (decide (s1.1 < s1.2.1)) then (idx s1.2.2 s1.2.1).bind fun x1 => (idx s1.2.2 s1.1).bind fun x2 => (idx s1.2.2 s1.1).bind fun _ => (idx ((s1.2.2.set s1.1.toNat x1)) s1.2.1).bind fun _ => chk (InI64 (s1.1 + 1)) (chk (InI64 (s1.2.1 - 1)) (some (.inl (((s1.1 + 1), (s1.2.1 - 1), (((s1.2.2.set s1.1.toNat x1)).set s1.2.1.toNat x2)))))) else out (some ((), s1.2.2))

noncomputable def slices_Reverse_api_Page_api_Page_L1 (s1 : Int × Int × (List api_Page)) : Option (Unit × List api_Page) := loop (slices_Reverse_api_Page_api_Page_B1) s1

/-- slices.Reverse[[]api.Page,api.Page] -/
noncomputable def slices_Reverse_api_Page_api_Page (self : List api_Page) : Option (Unit × List api_Page) := chk (InI64 ((self.length : Int) - 1)) (slices_Reverse_api_Page_api_Page_L1 ((0, ((self.length : Int) - 1), self)))

/-- disk.Read$1 -/
noncomputable def disk_Read_1 (p_p : api_Page) (p_a1_0 : Int) : Option Bool := some ((p_p.At == p_a1_0))

noncomputable def slices_IndexFunc_api_Page_api_Page__disk_Read_1_J1 (_v1 : Unit) : Option Int := some ((-1))

noncomputable def slices_IndexFunc_api_Page_api_Page__disk_Read_1_B1 (p_s : List api_Page) (p_f_c0_0 : Int) (s1 : Int) : Option ((Int) ⊕ Int) := if (decide (s1 < (p_s.length : Int))) then (idx p_s s1).bind fun x1 => (disk_Read_1 x1 p_f_c0_0).bind fun x2 => if x2 then out (some s1) else chk (InI64 (s1 + 1)) (some (.inl ((s1 + 1)))) else out (slices_IndexFunc_api_Page_api_Page__disk_Read_1_J1 (()))

noncomputable def slices_IndexFunc_api_Page_api_Page__disk_Read_1_L1 (p_s : List api_Page) (p_f_c0_0 : Int) (s1 : Int) : Option Int := loop (slices_IndexFunc_api_Page_api_Page__disk_Read_1_B1 p_s p_f_c0_0) s1

/-- slices.IndexFunc[[]api.Page,api.Page] -/
noncomputable def slices_IndexFunc_api_Page_api_Page__disk_Read_1 (p_s : List api_Page) (p_f_c0_0 : Int) : Option Int := slices_IndexFunc_api_Page_api_Page__disk_Read_1_L1 p_s p_f_c0_0 (0)

/-- disk.find[api.Page] -/
noncomputable def disk_find_api_Page__disk_Read_1 (p_l : List api_Page) (p_is_c0 : Int) : Option Int := (slices_IndexFunc_api_Page_api_Page__disk_Read_1 p_l p_is_c0).bind fun x1 => some x1

/-- disk.Read -/
noncomputable def disk_Read (p_d : api_Disk) (p_at : Int) : Option ((List UInt8) × Int) := if p_d.Down then some (([], 40)) else (disk_may p_at ([])).bind fun x1 => if (!x1) then some (([], 1)) else (slices_Concat_api_Page_api_Page ([p_d.Synced, p_d.Loose])).bind fun x2 => (slices_Reverse_api_Page_api_Page x2).bind fun x3 => (disk_find_api_Page__disk_Read_1 x3.2 p_at).bind fun x4 => if (decide (x4 < 0)) then some (([], 41)) else (idx x3.2 x4).bind fun x5 => (bytes_Clone x5.Data).bind fun x6 => some ((x6, 0))

/-- chunk.there -/
noncomputable def chunk_there (p_d : api_Disk) (p_id : Int) : Option ((List UInt8) × Int) := (chunk_within p_id).bind fun x1 => if (!x1) then some (([], 1)) else (disk_Read p_d p_id).bind fun x2 => ((if (x2.2 == 0) then some (((x2.1.length : Int) == 0)) else some false).bind fun c1 => some c1).bind fun v1 => if v1 then some (([], 41)) else some ((x2.1, x2.2))

structure chunk_reader where
  b_ : List UInt8
  bad_ : Bool


noncomputable def pack_ReadInt_J1 (_v1 : Unit) : Option (Int × (List UInt8) × Int) := some ((0, [], 10))

noncomputable def pack_ReadInt_B1 (p_b : List UInt8) (s1 : Int × Int) : Option ((Int × Int) ⊕ (Int × (List UInt8) × Int)) := if (decide (s1.2 < (p_b.length : Int))) then (idx p_b s1.2).bind fun x1 => ((if (s1.2 == 9) then some ((decide ((x1.toNat : Int) > 1))) else some false).bind fun c1 => some c1).bind fun v2 => if v2 then out (some ((0, [], 11))) else chk (InI64 (7 * s1.2)) (chk ((0 : Int) ≤ (7 * s1.2)) (if (decide ((x1.toNat : Int) ≥ 128)) then chk (InI64 (s1.2 + 1)) (some (.inl (((orK .u64 s1.1 ((shlK .u64 ((((x1 &&& (127 : UInt8))).toNat : Int)) ((7 * s1.2))))), (s1.2 + 1))))) else ((if ((x1.toNat : Int) == 0) then some ((decide (s1.2 > 0))) else some false).bind fun c2 => some c2).bind fun v3 => if v3 then out (some ((0, [], 11))) else chk (InI64 (0 - (IntKind.i64.wrap ((andK .u64 ((orK .u64 s1.1 ((shlK .u64 ((((x1 &&& (127 : UInt8))).toNat : Int)) ((7 * s1.2)))))) (1)))))) (chk (InI64 (s1.2 + 1)) (chk ((0 : Int) ≤ (s1.2 + 1) ∧ (s1.2 + 1) ≤ (p_b.length : Int)) (out (some (((xorK .i64 ((IntKind.i64.wrap ((shrK .u64 ((orK .u64 s1.1 ((shlK .u64 ((((x1 &&& (127 : UInt8))).toNat : Int)) ((7 * s1.2)))))) (1))))) ((0 - (IntKind.i64.wrap ((andK .u64 ((orK .u64 s1.1 ((shlK .u64 ((((x1 &&& (127 : UInt8))).toNat : Int)) ((7 * s1.2)))))) (1))))))), (p_b.drop ((s1.2 + 1)).toNat), 0)))))))) else out (pack_ReadInt_J1 (()))

noncomputable def pack_ReadInt_L1 (p_b : List UInt8) (s1 : Int × Int) : Option (Int × (List UInt8) × Int) := loop (pack_ReadInt_B1 p_b) s1

/-- pack.ReadInt -/
noncomputable def pack_ReadInt (p_b : List UInt8) : Option (Int × (List UInt8) × Int) := pack_ReadInt_L1 p_b ((0, 0))

/-- chunk.take[int] -/
noncomputable def chunk_take_int__pack_ReadInt (self : chunk_reader) : Option (Int × chunk_reader) := (pack_ReadInt self.b_).bind fun x1 => ((if self.bad_ then some true else some ((x1.2.2 != 0))).bind fun c1 => some c1).bind fun v1 => if v1 then some (0, (⟨self.b_, true⟩ : chunk_reader)) else some (x1.1, (⟨x1.2.1, self.bad_⟩ : chunk_reader))

/-- (*chunk.reader).int -/
noncomputable def chunk_reader_int (self : chunk_reader) : Option (Int × chunk_reader) := (chunk_take_int__pack_ReadInt self).bind fun x1 => some (x1.1, x1.2)

structure pack_rest where
  b_ : List UInt8


structure pack_reader where
  rest_ : pack_rest
  e_ : Int


/-- (*pack.reader).num -/
noncomputable def pack_reader_num (self : pack_reader) : Option (Int × pack_reader) := if (self.e_ != 0) then some (0, self) else (pack_ReadInt self.rest_.b_).bind fun x1 => some (x1.1, (⟨(⟨x1.2.1⟩ : pack_rest), x1.2.2⟩ : pack_reader))

noncomputable def pack_reader_count_J1 (x1 : Int × pack_reader) (v1 : Int) : Option (Int × pack_reader) := some (0, (⟨x1.2.rest_, v1⟩ : pack_reader))

/-- (*pack.reader).count -/
noncomputable def pack_reader_count (self : pack_reader) : Option (Int × pack_reader) := (pack_reader_num self).bind fun x1 => if (x1.2.e_ != 0) then some (0, x1.2) else if (decide (x1.1 < 0)) then pack_reader_count_J1 x1 (11) else if (decide (x1.1 > (x1.2.rest_.b_.length : Int))) then pack_reader_count_J1 x1 (10) else some (x1.1, x1.2)

/-- (*pack.rest).take -/
noncomputable def pack_rest_take (self : pack_reader) (p_n : Int) : Option (((List UInt8)) × pack_reader) := chk ((0 : Int) ≤ p_n ∧ p_n ≤ (self.rest_.b_.length : Int)) (chk ((0 : Int) ≤ p_n ∧ p_n ≤ (self.rest_.b_.length : Int)) (some ((self.rest_.b_.take p_n.toNat), (⟨(⟨(self.rest_.b_.drop p_n.toNat)⟩ : pack_rest), self.e_⟩ : pack_reader))))

/-- (*pack.reader).str -/
noncomputable def pack_reader_str (self : pack_reader) : Option (((List UInt8)) × pack_reader) := (pack_reader_count self).bind fun x1 => if (x1.2.e_ != 0) then some ([], x1.2) else (pack_rest_take x1.2 x1.1).bind fun x2 => some (x2.1, x2.2)

/-- pack.ReadStr -/
noncomputable def pack_ReadStr (p_b : List UInt8) : Option ((List UInt8) × (List UInt8) × Int) := (pack_reader_str ((⟨(⟨p_b⟩ : pack_rest), 0⟩ : pack_reader))).bind fun x1 => if (x1.2.e_ != 0) then some (([], [], x1.2.e_)) else some ((x1.1, x1.2.rest_.b_, 0))

/-- chunk.take[string] -/
noncomputable def chunk_take_string__pack_ReadStr (self : chunk_reader) : Option (((List UInt8)) × chunk_reader) := (pack_ReadStr self.b_).bind fun x1 => ((if self.bad_ then some true else some ((x1.2.2 != 0))).bind fun c1 => some c1).bind fun v1 => if v1 then some ([], (⟨self.b_, true⟩ : chunk_reader)) else some (x1.1, (⟨x1.2.1, self.bad_⟩ : chunk_reader))

noncomputable def pack_ReadInts_B1 (x1 : Int × pack_reader) (s1 : Int × (List UInt8) × Int × (List Int)) : Option ((Int × (List UInt8) × Int × (List Int)) ⊕ ((List UInt8) × Int × (List Int))) := if (decide (s1.1 < x1.1)) then (pack_reader_num ((⟨(⟨s1.2.1⟩ : pack_rest), s1.2.2.1⟩ : pack_reader))).bind fun x2 => chk ((s1.2.2.2.length + ([x2.1]).length) * 8 ≤ 140737488355328) (if (x2.2.e_ != 0) then out (some ((x2.2.rest_.b_, x2.2.e_, (s1.2.2.2 ++ [x2.1])))) else chk (InI64 (s1.1 + 1)) (some (.inl (((s1.1 + 1), x2.2.rest_.b_, x2.2.e_, (s1.2.2.2 ++ [x2.1])))))) else out (some ((s1.2.1, s1.2.2.1, s1.2.2.2)))

noncomputable def pack_ReadInts_L1 (x1 : Int × pack_reader) (s1 : Int × (List UInt8) × Int × (List Int)) : Option ((List UInt8) × Int × (List Int)) := loop (pack_ReadInts_B1 x1) s1

/-- pack.ReadInts -/
noncomputable def pack_ReadInts (p_b : List UInt8) : Option ((List Int) × (List UInt8) × Int) := ((pack_reader_count ((⟨(⟨p_b⟩ : pack_rest), 0⟩ : pack_reader))).bind fun x1 => pack_ReadInts_L1 x1 ((0, x1.2.rest_.b_, x1.2.e_, []))).bind fun v1 => if (v1.2.1 != 0) then some (([], [], v1.2.1)) else some ((v1.2.2, v1.1, 0))

/-- chunk.take[[]int] -/
noncomputable def chunk_take_int__pack_ReadInts (self : chunk_reader) : Option (((List Int)) × chunk_reader) := (pack_ReadInts self.b_).bind fun x1 => ((if self.bad_ then some true else some ((x1.2.2 != 0))).bind fun c1 => some c1).bind fun v1 => if v1 then some ([], (⟨self.b_, true⟩ : chunk_reader)) else some (x1.1, (⟨x1.2.1, self.bad_⟩ : chunk_reader))

/-- (*chunk.reader).copy -/
noncomputable def chunk_reader_copy (self : chunk_reader) : Option ((api_Copy × Bool) × chunk_reader) := (chunk_reader_int self).bind fun x1 => (chunk_reader_int x1.2).bind fun x2 => (chunk_take_string__pack_ReadStr x2.2).bind fun x3 => chk (x3.1.length ≤ 140737488355328) ((chunk_take_int__pack_ReadInts x3.2).bind fun x4 => ((if (!x4.2.bad_) then some (((x4.2.b_.length : Int) == 0)) else some false).bind fun c1 => some c1).bind fun v1 => some (((⟨x1.1, x2.1, x3.1, x4.1⟩ : api_Copy), v1), x4.2))

/-- bytes.Equal -/
noncomputable def bytes_Equal (p_a : List UInt8) (p_b : List UInt8) : Option Bool := some ((p_a == p_b))

/-- chunk.Get -/
noncomputable def chunk_Get (p_d : api_Disk) (p_id : Int) : Option (api_Copy × Int) := (chunk_there p_d p_id).bind fun x1 => if (x1.2 != 0) then some (((⟨0, 0, [], []⟩ : api_Copy), x1.2)) else if (decide ((x1.1.length : Int) < 4)) then some (((⟨0, 0, [], []⟩ : api_Copy), 251)) else chk (InI64 ((x1.1.length : Int) - 4)) (chk ((0 : Int) ≤ ((x1.1.length : Int) - 4) ∧ ((x1.1.length : Int) - 4) ≤ (x1.1.length : Int)) ((chunk_reader_copy ((⟨(x1.1.take (((x1.1.length : Int) - 4)).toNat), false⟩ : chunk_reader))).bind fun x2 => ((if (!x2.1.2) then some true else (chunk_may x2.1.1).bind fun x3 => some ((!x3))).bind fun c1 => (if c1 then some true else some ((x2.1.1.Id != p_id))).bind fun c2 => (if c2 then some true else (chunk_page x2.1.1).bind fun x4 => (bytes_Equal x4 x1.1).bind fun x5 => some ((!x5))).bind fun c3 => some c3).bind fun v1 => if v1 then some (((⟨0, 0, [], []⟩ : api_Copy), 251)) else some ((x2.1.1, 0))))

/-- chunk.Lose -/
noncomputable def chunk_Lose (p_d : api_Disk) (p_id : Int) : Option (api_Disk × Int) := (chunk_there p_d p_id).bind fun x1 => if (x1.2 != 0) then some ((p_d, x1.2)) else (disk_Write p_d p_id ([])).bind fun x2 => some ((x2.1, x2.2))

noncomputable def chunk_Has_B1 (p_d : api_Disk) (s1 : Int × (List Int)) : Option ((Int × (List Int)) ⊕ ((List Int))) := if (decide (s1.1 < 200)) then ((chunk_there p_d s1.1).bind fun x1 => if (x1.2 == 0) then chk ((s1.2.length + ([s1.1]).length) * 8 ≤ 140737488355328) (some ((s1.2 ++ [s1.1]))) else some s1.2).bind fun v2 => chk (InI64 (s1.1 + 1)) (some (.inl (((s1.1 + 1), v2)))) else out (some s1.2)

noncomputable def chunk_Has_L1 (p_d : api_Disk) (s1 : Int × (List Int)) : Option ((List Int)) := loop (chunk_Has_B1 p_d) s1

/-- chunk.Has -/
noncomputable def chunk_Has (p_d : api_Disk) : Option ((List Int)) := (chunk_Has_L1 p_d ((0, []))).bind fun v1 => some v1

noncomputable def ref02_Ints_J1 (_v1 : Unit) : Option Bool := some true

noncomputable def ref02_Ints_B1 (p_a : List Int) (p_b : List Int) (s1 : Int) : Option ((Int) ⊕ Bool) := if (decide (s1 < (p_a.length : Int))) then (idx p_a s1).bind fun x1 => (idx p_b s1).bind fun x2 => if (x1 != x2) then out (some false) else chk (InI64 (s1 + 1)) (some (.inl ((s1 + 1)))) else out (ref02_Ints_J1 (()))

noncomputable def ref02_Ints_L1 (p_a : List Int) (p_b : List Int) (s1 : Int) : Option Bool := loop (ref02_Ints_B1 p_a p_b) s1

/-- catacombref02.Ints -/
noncomputable def ref02_Ints (p_a : List Int) (p_b : List Int) : Option Bool := if ((p_a.length : Int) != (p_b.length : Int)) then some false else ref02_Ints_L1 p_a p_b (0)

/-- catacomblaw25.head -/
noncomputable def law25_head : Option Bool := (chunk_New (7) (3) ([104, 101, 108, 108, 111])).bind fun x1 => (disk_New).bind fun x2 => (chunk_Put x2 x1).bind fun x3 => (chunk_Get x3.1 (7)).bind fun x4 => (chunk_Get x3.1 (8)).bind fun x5 => (chunk_Put x3.1 ((⟨x1.Id, x1.Ver, x1.Data, []⟩ : api_Copy))).bind fun x6 => (chunk_Lose x3.1 (7)).bind fun x7 => (chunk_Get x7.1 (7)).bind fun x8 => (chunk_Get x3.1 (200)).bind fun x9 => ((if (x3.2 == 0) then some ((x4.2 == 0)) else some false).bind fun c1 => (if c1 then some ((x4.1.Ver == 3)) else some false).bind fun c2 => (if c2 then some ((x4.1.Data == ([104, 101, 108, 108, 111]))) else some false).bind fun c3 => (if c3 then some (((x4.1.Sums.length : Int) == 1)) else some false).bind fun c4 => (if c4 then some ((x5.2 == 41)) else some false).bind fun c5 => (if c5 then some ((x6.2 == 1)) else some false).bind fun c6 => (if c6 then some ((x7.2 == 0)) else some false).bind fun c7 => (if c7 then some ((x8.2 == 41)) else some false).bind fun c8 => (if c8 then some ((x9.2 == 1)) else some false).bind fun c9 => (if c9 then (chunk_Has x3.1).bind fun x10 => (ref02_Ints x10 ([7])).bind fun x11 => some x11 else some false).bind fun c10 => (if c10 then (chunk_Has x7.1).bind fun x12 => some (((x12.length : Int) == 0)) else some false).bind fun c11 => some c11).bind fun v1 => some v1

/-- catacombref04.Page -/
noncomputable def ref04_Page (p_p : api_Page) : Option Bool := ((if (decide (p_p.At ≥ 0)) then some ((decide (p_p.At ≤ 999))) else some false).bind fun c1 => (if c1 then some ((decide ((p_p.Data.length : Int) ≤ 200))) else some false).bind fun c2 => some c2).bind fun v1 => some v1

noncomputable def ref04_Right_J2 (p_d : api_Disk) (_v3 : Unit) : Option Bool := ((if (!p_d.Down) then some true else some (((p_d.Loose.length : Int) == 0))).bind fun c3 => some c3).bind fun v4 => some v4

noncomputable def ref04_Right_B2 (p_d : api_Disk) (s2 : Int) : Option ((Int) ⊕ Bool) := if (decide (s2 < (p_d.Loose.length : Int))) then (idx p_d.Loose s2).bind fun x5 => (ref04_Page x5).bind fun x6 => if (!x6) then out (some false) else chk (InI64 (s2 + 1)) (some (.inl ((s2 + 1)))) else out (ref04_Right_J2 p_d (()))

noncomputable def ref04_Right_L2 (p_d : api_Disk) (s2 : Int) : Option Bool := loop (ref04_Right_B2 p_d) s2

noncomputable def ref04_Right_J1 (p_d : api_Disk) (_v1 : Unit) : Option Bool := ref04_Right_L2 p_d (0)

noncomputable def ref04_Right_B1 (p_d : api_Disk) (s1 : Int) : Option ((Int) ⊕ Bool) := if (decide (s1 < (p_d.Synced.length : Int))) then (idx p_d.Synced s1).bind fun x1 => (ref04_Page x1).bind fun x2 => ((if (!x2) then some true else (if (decide (s1 > 0)) then (idx p_d.Synced s1).bind fun x3 => chk (InI64 (s1 - 1)) ((idx p_d.Synced ((s1 - 1))).bind fun x4 => some ((decide (x3.At ≤ x4.At)))) else some false).bind fun c1 => some c1).bind fun c2 => some c2).bind fun v2 => if v2 then out (some false) else chk (InI64 (s1 + 1)) (some (.inl ((s1 + 1)))) else out (ref04_Right_J1 p_d (()))

noncomputable def ref04_Right_L1 (p_d : api_Disk) (s1 : Int) : Option Bool := loop (ref04_Right_B1 p_d) s1

/-- catacombref04.Right -/
noncomputable def ref04_Right (p_d : api_Disk) : Option Bool := ref04_Right_L1 p_d (0)

noncomputable def law25_Great_J2 (p_d : api_Disk) (_v3 : Unit) : Option Bool := (ref04_Right p_d).bind fun x3 => some ((!x3))

noncomputable def law25_Great_B2 (p_d : api_Disk) (s2 : Int) : Option ((Int) ⊕ Bool) := if (decide (s2 < (p_d.Loose.length : Int))) then (idx p_d.Loose s2).bind fun x2 => if (decide ((x2.Data.length : Int) > 200)) then out (some true) else chk (InI64 (s2 + 1)) (some (.inl ((s2 + 1)))) else out (law25_Great_J2 p_d (()))

noncomputable def law25_Great_L2 (p_d : api_Disk) (s2 : Int) : Option Bool := loop (law25_Great_B2 p_d) s2

noncomputable def law25_Great_J1 (p_d : api_Disk) (_v2 : Unit) : Option Bool := law25_Great_L2 p_d (0)

noncomputable def law25_Great_B1 (p_d : api_Disk) (s1 : Int) : Option ((Int) ⊕ Bool) := if (decide (s1 < (p_d.Synced.length : Int))) then (idx p_d.Synced s1).bind fun x1 => if (decide ((x1.Data.length : Int) > 200)) then out (some true) else chk (InI64 (s1 + 1)) (some (.inl ((s1 + 1)))) else out (law25_Great_J1 p_d (()))

noncomputable def law25_Great_L1 (p_d : api_Disk) (s1 : Int) : Option Bool := loop (law25_Great_B1 p_d) s1

/-- catacomblaw25.Great -/
noncomputable def law25_Great (p_d : api_Disk) : Option Bool := ((if (decide ((p_d.Synced.length : Int) > 60)) then some true else some ((decide ((p_d.Loose.length : Int) > 60)))).bind fun c1 => some c1).bind fun v1 => if v1 then some true else law25_Great_L1 p_d (0)

/-- catacomblaw25.big -/
noncomputable def law25_big (p_c : api_Copy) : Option Bool := ((if (decide ((p_c.Data.length : Int) > 100)) then some true else some ((decide ((p_c.Sums.length : Int) > 40)))).bind fun c1 => some c1).bind fun v1 => some v1

noncomputable def law25_has_J1 (_v1 : Unit) : Option Bool := some false

noncomputable def law25_has_B1 (p_l : List Int) (p_x : Int) (s1 : Int) : Option ((Int) ⊕ Bool) := if (decide (s1 < (p_l.length : Int))) then (idx p_l s1).bind fun x1 => if (x1 == p_x) then out (some true) else chk (InI64 (s1 + 1)) (some (.inl ((s1 + 1)))) else out (law25_has_J1 (()))

noncomputable def law25_has_L1 (p_l : List Int) (p_x : Int) (s1 : Int) : Option Bool := loop (law25_has_B1 p_l p_x) s1

/-- catacomblaw25.has -/
noncomputable def law25_has (p_l : List Int) (p_x : Int) : Option Bool := law25_has_L1 p_l p_x (0)

noncomputable def law25_ChunkHas_J1 (p_d : api_Disk) (p_id : UInt8) (p_c : api_Copy) (x1 : Bool) (x4 : (List Int)) (_v2 : Unit) : Option Bool := (chunk_Get p_d ((Int.tmod ((p_id.toNat : Int)) (200)))).bind fun x9 => if p_d.Down then (chunk_Lose p_d ((Int.tmod ((p_id.toNat : Int)) (200)))).bind fun x10 => (chunk_Put p_d p_c).bind fun x11 => ((if x1 then some (((x4.length : Int) == 0)) else some false).bind fun c5 => (if c5 then some ((x9.2 == 40)) else some false).bind fun c6 => (if c6 then some ((x10.2 == 40)) else some false).bind fun c7 => (if c7 then (if (x11.2 == 40) then some true else some ((x11.2 == 1))).bind fun c8 => some c8 else some false).bind fun c9 => some c9).bind fun v4 => some v4 else ((if x1 then (law25_has x4 ((Int.tmod ((p_id.toNat : Int)) (200)))).bind fun x12 => some ((x12 == (x9.2 != 41))) else some false).bind fun c10 => (if c10 then (if (x9.2 == 0) then some true else some ((x9.2 == 41))).bind fun c11 => (if c11 then some true else some ((x9.2 == 251))).bind fun c12 => some c12 else some false).bind fun c13 => some c13).bind fun v5 => some v5

noncomputable def law25_ChunkHas_B1 (x4 : (List Int)) (p_d : api_Disk) (p_id : UInt8) (p_c : api_Copy) (x1 : Bool) (s1 : Int) : Option ((Int) ⊕ Bool) := if (decide (s1 < (x4.length : Int))) then ((idx x4 s1).bind fun x5 => (if (decide (x5 < 0)) then some true else (idx x4 s1).bind fun x6 => some ((decide (x6 > 199)))).bind fun c2 => (if c2 then some true else (if (decide (s1 > 0)) then chk (InI64 (s1 - 1)) ((idx x4 ((s1 - 1))).bind fun x7 => (idx x4 s1).bind fun x8 => some ((decide (x7 ≥ x8)))) else some false).bind fun c3 => some c3).bind fun c4 => some c4).bind fun v3 => if v3 then out (some false) else chk (InI64 (s1 + 1)) (some (.inl ((s1 + 1)))) else out (law25_ChunkHas_J1 p_d p_id p_c x1 x4 (()))

noncomputable def law25_ChunkHas_L1 (x4 : (List Int)) (p_d : api_Disk) (p_id : UInt8) (p_c : api_Copy) (x1 : Bool) (s1 : Int) : Option Bool := loop (law25_ChunkHas_B1 x4 p_d p_id p_c x1) s1

/-- catacomblaw25.ChunkHas -/
noncomputable def law25_ChunkHas (p_d : api_Disk) (p_id : UInt8) (p_c : api_Copy) : Option Bool := (law25_head).bind fun x1 => ((law25_Great p_d).bind fun x2 => (if x2 then some true else (law25_big p_c).bind fun x3 => some x3).bind fun c1 => some c1).bind fun v1 => if v1 then some x1 else (chunk_Has p_d).bind fun x4 => law25_ChunkHas_L1 x4 p_d p_id p_c x1 (0)
end Go.Proofs
