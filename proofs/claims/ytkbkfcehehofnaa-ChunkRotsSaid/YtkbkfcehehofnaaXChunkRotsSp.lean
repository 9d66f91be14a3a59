/- The plain programs of this seat. No condition. -/
import Derived.Test.YtkbkfcehehofnaaCatb
namespace Go.Proofs
set_option linter.all false
open Go Go.Cat

structure api_Page where
  At : Int
  Data : List UInt8


structure api_Disk where
  Synced : List api_Page
  Loose : List api_Page
  Down : Bool


structure api_Copy where
  Id : Int
  Ver : Int
  Data : List UInt8
  Sums : List Int


/-- slices.Clone[[]byte,byte] -/
noncomputable def slices_Clone_byte_byte (p_s : List UInt8) : Option ((List UInt8)) := anyOf (fun b1 => b1 = true → p_s = []) fun b1 => if b1 then some ([]) else chk (((([] : List UInt8)).length + p_s.length) * 1 ≤ 140737488355328) (some ((([] : List UInt8) ++ p_s)))

/-- sum.half$1 -/
noncomputable def sum_half_1 (p_c : Int) : Option Int := if ((andK .u32 p_c (1)) == 1) then some ((xorK .u32 ((shrK .u32 p_c (1))) (2197175160))) else some ((shrK .u32 p_c (1)))

noncomputable def sum_half_B2 (s2 : Int × Int) : Option ((Int × Int) ⊕ Int) := if (decide (s2.2 < 4)) then (sum_half_1 s2.1).bind fun x1 => chk (InI64 (s2.2 + 1)) (some (.inl ((x1, (s2.2 + 1))))) else out (some s2.1)

noncomputable def sum_half_L2 (s2 : Int × Int) : Option Int := loop (sum_half_B2) s2

noncomputable def sum_half_B1 (s1 : Int × (List Int)) : Option ((Int × (List Int)) ⊕ ((List Int))) := if (decide (s1.1 < 16)) then ((sum_half_L2 (((IntKind.u32.wrap s1.1), 0))).bind fun v3 => (idx s1.2 s1.1).bind fun _ => chk (s1.1 < 16) (some ((s1.2.set s1.1.toNat v3)))).bind fun v2 => chk (InI64 (s1.1 + 1)) (some (.inl (((s1.1 + 1), v2)))) else out (some s1.2)

noncomputable def sum_half_L1 (s1 : Int × (List Int)) : Option ((List Int)) := loop (sum_half_B1) s1

/-- sum.half -/
noncomputable def sum_half : Option ((List Int)) := (sum_half_L1 ((0, (List.replicate 16 0)))).bind fun v1 => chk (v1.length = 16) (chk (v1.length = 16) (chk (v1.length = 16) (some v1)))

noncomputable def sum_of_B1 (p_b : List UInt8) (p_t : List Int) (s1 : Int × Int) : Option ((Int × Int) ⊕ Int) := if (decide (s1.2 < (p_b.length : Int))) then (idx p_b s1.2).bind fun x1 => (idx p_t ((andK .u32 ((xorK .u32 s1.1 ((x1.toNat : Int)))) (15)))).bind fun x2 => chk ((andK .u32 ((xorK .u32 s1.1 ((x1.toNat : Int)))) (15)) < 16) ((idx p_t ((andK .u32 ((xorK .u32 x2 ((shrK .u32 ((xorK .u32 s1.1 ((x1.toNat : Int)))) (4))))) (15)))).bind fun x3 => chk ((andK .u32 ((xorK .u32 x2 ((shrK .u32 ((xorK .u32 s1.1 ((x1.toNat : Int)))) (4))))) (15)) < 16) (chk (InI64 (s1.2 + 1)) (some (.inl (((xorK .u32 x3 ((shrK .u32 ((xorK .u32 x2 ((shrK .u32 ((xorK .u32 s1.1 ((x1.toNat : Int)))) (4))))) (4)))), (s1.2 + 1))))))) else out (some s1.1)

noncomputable def sum_of_L1 (p_b : List UInt8) (p_t : List Int) (s1 : Int × Int) : Option Int := loop (sum_of_B1 p_b p_t) s1

/-- sum.of -/
noncomputable def sum_of (p_t : List Int) (p_b : List UInt8) : Option Int := (sum_of_L1 p_b p_t ((4294967295, 0))).bind fun v1 => some ((IntKind.i64.wrap ((xorK .u32 v1 (4294967295)))))

noncomputable def sum_Blocks_B1 (x1 : (List Int)) (s1 : (List UInt8) × (List Int)) : Option (((List UInt8) × (List Int)) ⊕ ((List Int))) := if (decide ((s1.1.length : Int) > 0)) then chk (x1.length = 16) (chk ((0 : Int) ≤ (min ((s1.1.length : Int)) (16)) ∧ (min ((s1.1.length : Int)) (16)) ≤ (s1.1.length : Int)) ((sum_of x1 ((s1.1.take ((min ((s1.1.length : Int)) (16))).toNat))).bind fun x2 => chk ((s1.2.length + ([x2]).length) * 8 ≤ 140737488355328) (chk ((0 : Int) ≤ (min ((s1.1.length : Int)) (16)) ∧ (min ((s1.1.length : Int)) (16)) ≤ (s1.1.length : Int)) (some (.inl (((s1.1.drop ((min ((s1.1.length : Int)) (16))).toNat), (s1.2 ++ [x2])))))))) else out (some s1.2)

noncomputable def sum_Blocks_L1 (x1 : (List Int)) (s1 : (List UInt8) × (List Int)) : Option ((List Int)) := loop (sum_Blocks_B1 x1) s1

/-- sum.Blocks -/
noncomputable def sum_Blocks (p_data : List UInt8) : Option ((List Int)) := (sum_half).bind fun x1 => chk (x1.length = 16) ((sum_Blocks_L1 x1 ((p_data, []))).bind fun v1 => some v1)

/-- chunk.New -/
noncomputable def chunk_New (p_id : Int) (p_ver : Int) (p_data : List UInt8) : Option api_Copy := (slices_Clone_byte_byte p_data).bind fun x1 => (sum_Blocks p_data).bind fun x2 => some ((⟨p_id, p_ver, x1, x2⟩ : api_Copy))

/-- disk.New -/
noncomputable def disk_New : Option api_Disk := some ((⟨[], [], false⟩ : api_Disk))

/-- chunk.within -/
noncomputable def chunk_within (p_id : Int) : Option Bool := ((if (decide (p_id ≥ 0)) then some ((decide (p_id < 200))) else some false).bind fun c1 => some c1).bind fun v1 => some v1

noncomputable def sum_Check_J1 (x1 : (List Int)) (p_sums : List Int) (_v1 : Unit) : Option Int := if ((x1.length : Int) != (p_sums.length : Int)) then some ((min ((x1.length : Int)) ((p_sums.length : Int)))) else some ((-1))

noncomputable def sum_Check_B1 (x1 : (List Int)) (p_sums : List Int) (s1 : Int) : Option ((Int) ⊕ Int) := if (decide (s1 < (min ((x1.length : Int)) ((p_sums.length : Int))))) then (idx x1 s1).bind fun x2 => (idx p_sums s1).bind fun x3 => if (x2 != x3) then out (some s1) else chk (InI64 (s1 + 1)) (some (.inl ((s1 + 1)))) else out (sum_Check_J1 x1 p_sums (()))

noncomputable def sum_Check_L1 (x1 : (List Int)) (p_sums : List Int) (s1 : Int) : Option Int := loop (sum_Check_B1 x1 p_sums) s1

/-- sum.Check -/
noncomputable def sum_Check (p_data : List UInt8) (p_sums : List Int) : Option Int := (sum_Blocks p_data).bind fun x1 => sum_Check_L1 x1 p_sums (0)

/-- chunk.may -/
noncomputable def chunk_may (p_c : api_Copy) : Option Bool := ((chunk_within p_c.Id).bind fun x1 => (if x1 then some ((decide (p_c.Ver ≥ 0))) else some false).bind fun c1 => (if c1 then some ((decide (p_c.Ver ≤ 1099511627776))) else some false).bind fun c2 => (if c2 then some ((decide ((p_c.Data.length : Int) ≤ 64))) else some false).bind fun c3 => (if c3 then (sum_Check p_c.Data p_c.Sums).bind fun x2 => some ((x2 == (-1))) else some false).bind fun c4 => some c4).bind fun v1 => some v1

noncomputable def pack_Int_B1 (s1 : Int × (List UInt8)) : Option ((Int × (List UInt8)) ⊕ (Int × (List UInt8))) := if (decide (s1.1 ≥ 128)) then chk ((s1.2.length + ([((toU8 s1.1) ||| (128 : UInt8))]).length) * 1 ≤ 140737488355328) (some (.inl (((shrK .u64 s1.1 (7)), (s1.2 ++ [((toU8 s1.1) ||| (128 : UInt8))]))))) else out (some ((s1.1, s1.2)))

noncomputable def pack_Int_L1 (s1 : Int × (List UInt8)) : Option (Int × (List UInt8)) := loop (pack_Int_B1) s1

/-- pack.Int -/
noncomputable def pack_Int (p_n : Int) : Option ((List UInt8)) := (pack_Int_L1 (((xorK .u64 ((shlK .u64 ((IntKind.u64.wrap p_n)) (1))) ((IntKind.u64.wrap ((shrK .i64 p_n (63)))))), []))).bind fun v1 => chk ((v1.2.length + ([(toU8 v1.1)]).length) * 1 ≤ 140737488355328) (some ((v1.2 ++ [(toU8 v1.1)])))

/-- pack.Str -/
noncomputable def pack_Str (p_s : List UInt8) : Option ((List UInt8)) := (pack_Int ((p_s.length : Int))).bind fun x1 => chk ((x1.length + p_s.length) * 1 ≤ 140737488355328) (some ((x1 ++ p_s)))

noncomputable def pack_numbers_B1 (p_l : List Int) (s1 : Int × (List UInt8)) : Option ((Int × (List UInt8)) ⊕ ((List UInt8))) := if (decide (s1.1 < (p_l.length : Int))) then (idx p_l s1.1).bind fun x1 => (pack_Int x1).bind fun x2 => chk ((s1.2.length + x2.length) * 1 ≤ 140737488355328) (chk (InI64 (s1.1 + 1)) (some (.inl (((s1.1 + 1), (s1.2 ++ x2)))))) else out (some s1.2)

noncomputable def pack_numbers_L1 (p_l : List Int) (s1 : Int × (List UInt8)) : Option ((List UInt8)) := loop (pack_numbers_B1 p_l) s1

/-- pack.numbers -/
noncomputable def pack_numbers (p_l : List Int) : Option ((List UInt8)) := (pack_numbers_L1 p_l ((0, []))).bind fun v1 => some v1

/-- pack.Ints -/
noncomputable def pack_Ints (p_l : List Int) : Option ((List UInt8)) := (pack_Int ((p_l.length : Int))).bind fun x1 => (pack_numbers p_l).bind fun x2 => chk ((x1.length + x2.length) * 1 ≤ 140737488355328) (some ((x1 ++ x2)))

/-- slices.Grow[[]byte,byte] -/
noncomputable def slices_Grow_byte_byte__nil (p_n : Int) : Option ((List UInt8)) := (if (decide (p_n < 0)) then none else some (())).bind fun _ => (chk (InI64 (p_n - 0)) (if (decide ((p_n - 0) > 0)) then chk ((0 : Int) ≤ (p_n - 0) ∧ ((p_n - 0)).toNat * 1 ≤ 140737488355328) (chk ((0 : Int) ≤ 0 ∧ 0 ≤ (((List.replicate ((p_n - 0)).toNat ((0 : UInt8)))).length : Int)) (some ((((List.replicate ((p_n - 0)).toNat ((0 : UInt8)))).take (0 : Int).toNat)))) else some ([]))).bind fun v2 => some v2

noncomputable def slices_Concat_byte_byte_B1 (p_slices : List (List UInt8)) (s1 : Int × Int) : Option ((Int × Int) ⊕ Int) := if (decide (s1.2 < (p_slices.length : Int))) then ((idx p_slices s1.2).bind fun x1 => chk (InI64 (s1.1 + (x1.length : Int))) (if (decide ((s1.1 + (x1.length : Int)) < 0)) then none else some ((s1.1 + (x1.length : Int))))).bind fun v2 => chk (InI64 (s1.2 + 1)) (some (.inl ((v2, (s1.2 + 1))))) else out (some s1.1)

noncomputable def slices_Concat_byte_byte_L1 (p_slices : List (List UInt8)) (s1 : Int × Int) : Option Int := loop (slices_Concat_byte_byte_B1 p_slices) s1

noncomputable def slices_Concat_byte_byte_B2 (p_slices : List (List UInt8)) (s2 : Int × (List UInt8)) : Option ((Int × (List UInt8)) ⊕ ((List UInt8))) := if (decide (s2.1 < (p_slices.length : Int))) then (idx p_slices s2.1).bind fun x3 => chk ((s2.2.length + x3.length) * 1 ≤ 140737488355328) (chk (InI64 (s2.1 + 1)) (some (.inl (((s2.1 + 1), (s2.2 ++ x3)))))) else out (some s2.2)

noncomputable def slices_Concat_byte_byte_L2 (p_slices : List (List UInt8)) (s2 : Int × (List UInt8)) : Option ((List UInt8)) := loop (slices_Concat_byte_byte_B2 p_slices) s2

/-- slices.Concat[[]byte,byte] -/
noncomputable def slices_Concat_byte_byte (p_slices : List (List UInt8)) : Option ((List UInt8)) := (slices_Concat_byte_byte_L1 p_slices ((0, 0))).bind fun v1 => (slices_Grow_byte_byte__nil v1).bind fun x2 => (slices_Concat_byte_byte_L2 p_slices ((0, x2))).bind fun v3 => some v3

/-- sum.Of -/
noncomputable def sum_Of (p_b : List UInt8) : Option Int := (sum_half).bind fun x1 => (sum_of x1 p_b).bind fun x2 => some x2

noncomputable def chunk_page_B1 (x6 : Int) (s1 : Int × (List UInt8)) : Option ((Int × (List UInt8)) ⊕ ((List UInt8))) := if (decide (s1.1 < 4)) then chk (InI64 (8 * s1.1)) (chk ((0 : Int) ≤ (8 * s1.1)) (chk ((s1.2.length + ([(toU8 ((shrK .i64 x6 ((8 * s1.1)))))]).length) * 1 ≤ 140737488355328) (chk (InI64 (s1.1 + 1)) (some (.inl (((s1.1 + 1), (s1.2 ++ [(toU8 ((shrK .i64 x6 ((8 * s1.1)))))])))))))) else out (some s1.2)

noncomputable def chunk_page_L1 (x6 : Int) (s1 : Int × (List UInt8)) : Option ((List UInt8)) := loop (chunk_page_B1 x6) s1

/-- chunk.page -/
noncomputable def chunk_page (p_c : api_Copy) : Option ((List UInt8)) := (pack_Int p_c.Id).bind fun x1 => (pack_Int p_c.Ver).bind fun x2 => (pack_Str p_c.Data).bind fun x3 => (pack_Ints p_c.Sums).bind fun x4 => (slices_Concat_byte_byte ([x1, x2, x3, x4])).bind fun x5 => (sum_Of x5).bind fun x6 => (chunk_page_L1 x6 ((0, x5))).bind fun v1 => some v1

/-- disk.may -/
noncomputable def disk_may (p_at : Int) (p_data : List UInt8) : Option Bool := ((if (decide (p_at ≥ 0)) then some ((decide (p_at < 1000))) else some false).bind fun c1 => (if c1 then some ((decide ((p_data.length : Int) ≤ 200))) else some false).bind fun c2 => some c2).bind fun v1 => some v1

/-- slices.Clone[[]api.Page,api.Page] -/
noncomputable def slices_Clone_api_Page_api_Page (p_s : List api_Page) : Option ((List api_Page)) := anyOf (fun b1 => b1 = true → p_s = []) fun b1 => if b1 then some ([]) else chk (((([] : List api_Page)).length + p_s.length) * 32 ≤ 140737488355328) (some ((([] : List api_Page) ++ p_s)))

/-- bytes.Clone -/
noncomputable def bytes_Clone (p_b : List UInt8) : Option ((List UInt8)) := anyOf (fun b1 => b1 = true → p_b = []) fun b1 => if b1 then some ([]) else chk (((([] : List UInt8)).length + p_b.length) * 1 ≤ 140737488355328) (some ((([] : List UInt8) ++ p_b)))

/-- disk.Write -/
noncomputable def disk_Write (p_d : api_Disk) (p_at : Int) (p_data : List UInt8) : Option (api_Disk × Int) := if p_d.Down then some ((p_d, 40)) else (disk_may p_at p_data).bind fun x1 => if (!x1) then some ((p_d, 1)) else (slices_Clone_api_Page_api_Page p_d.Loose).bind fun x2 => (bytes_Clone p_data).bind fun x3 => chk ((x2.length + ([(⟨p_at, x3⟩ : api_Page)]).length) * 32 ≤ 140737488355328) (some (((⟨p_d.Synced, (x2 ++ [(⟨p_at, x3⟩ : api_Page)]), p_d.Down⟩ : api_Disk), 0)))

/-- chunk.Put -/
noncomputable def chunk_Put (p_d : api_Disk) (p_c : api_Copy) : Option (api_Disk × Int) := (chunk_may p_c).bind fun x1 => if (!x1) then some ((p_d, 1)) else (chunk_page p_c).bind fun x2 => (disk_Write p_d p_c.Id x2).bind fun x3 => some ((x3.1, x3.2))

/-- slices.Grow[[]api.Page,api.Page] -/
noncomputable def slices_Grow_api_Page_api_Page__nil (p_n : Int) : Option ((List api_Page)) := (if (decide (p_n < 0)) then none else some (())).bind fun _ => (chk (InI64 (p_n - 0)) (if (decide ((p_n - 0) > 0)) then chk ((0 : Int) ≤ (p_n - 0) ∧ ((p_n - 0)).toNat * 32 ≤ 140737488355328) (chk ((0 : Int) ≤ 0 ∧ 0 ≤ (((List.replicate ((p_n - 0)).toNat (((⟨0, []⟩ : api_Page) : api_Page)))).length : Int)) (some ((((List.replicate ((p_n - 0)).toNat (((⟨0, []⟩ : api_Page) : api_Page)))).take (0 : Int).toNat)))) else some ([]))).bind fun v2 => some v2

noncomputable def slices_Concat_api_Page_api_Page_B1 (p_slices : List (List api_Page)) (s1 : Int × Int) : Option ((Int × Int) ⊕ Int) := if (decide (s1.2 < (p_slices.length : Int))) then ((idx p_slices s1.2).bind fun x1 => chk (InI64 (s1.1 + (x1.length : Int))) (if (decide ((s1.1 + (x1.length : Int)) < 0)) then none else some ((s1.1 + (x1.length : Int))))).bind fun v2 => chk (InI64 (s1.2 + 1)) (some (.inl ((v2, (s1.2 + 1))))) else out (some s1.1)

noncomputable def slices_Concat_api_Page_api_Page_L1 (p_slices : List (List api_Page)) (s1 : Int × Int) : Option Int := loop (slices_Concat_api_Page_api_Page_B1 p_slices) s1

noncomputable def slices_Concat_api_Page_api_Page_B2 (p_slices : List (List api_Page)) (s2 : Int × (List api_Page)) : Option ((Int × (List api_Page)) ⊕ ((List api_Page))) := if (decide (s2.1 < (p_slices.length : Int))) then (idx p_slices s2.1).bind fun x3 => chk ((s2.2.length + x3.length) * 32 ≤ 140737488355328) (chk (InI64 (s2.1 + 1)) (some (.inl (((s2.1 + 1), (s2.2 ++ x3)))))) else out (some s2.2)

noncomputable def slices_Concat_api_Page_api_Page_L2 (p_slices : List (List api_Page)) (s2 : Int × (List api_Page)) : Option ((List api_Page)) := loop (slices_Concat_api_Page_api_Page_B2 p_slices) s2

/-- slices.Concat[[]api.Page,api.Page] -/
noncomputable def slices_Concat_api_Page_api_Page (p_slices : List (List api_Page)) : Option ((List api_Page)) := (slices_Concat_api_Page_api_Page_L1 p_slices ((0, 0))).bind fun v1 => (slices_Grow_api_Page_api_Page__nil v1).bind fun x2 => (slices_Concat_api_Page_api_Page_L2 p_slices ((0, x2))).bind fun v3 => some v3

noncomputable def slices_Reverse_api_Page_api_Page_B1 (s1 : Int × Int × (List api_Page)) : Option ((Int × Int × (List api_Page)) ⊕ (Unit × List api_Page)) := if (decide (s1.1 < s1.2.1)) then (idx s1.2.2 s1.2.1).bind fun x1 => (idx s1.2.2 s1.1).bind fun x2 => (idx s1.2.2 s1.1).bind fun _ => (idx ((s1.2.2.set s1.1.toNat x1)) s1.2.1).bind fun _ => chk (InI64 (s1.1 + 1)) (chk (InI64 (s1.2.1 - 1)) (some (.inl (((s1.1 + 1), (s1.2.1 - 1), (((s1.2.2.set s1.1.toNat x1)).set s1.2.1.toNat x2)))))) else out (some ((), s1.2.2))

noncomputable def slices_Reverse_api_Page_api_Page_L1 (s1 : Int × Int × (List api_Page)) : Option (Unit × List api_Page) := loop (slices_Reverse_api_Page_api_Page_B1) s1

/-- slices.Reverse[[]api.Page,api.Page] -/
noncomputable def slices_Reverse_api_Page_api_Page (self : List api_Page) : Option (Unit × List api_Page) := chk (InI64 ((self.length : Int) - 1)) (slices_Reverse_api_Page_api_Page_L1 ((0, ((self.length : Int) - 1), self)))

/-- disk.Read$1 -/
noncomputable def disk_Read_1 (p_p : api_Page) (p_a1_0 : Int) : Option Bool := some ((p_p.At == p_a1_0))

noncomputable def slices_IndexFunc_api_Page_api_Page__disk_Read_1_J1 (_v1 : Unit) : Option Int := some ((-1))

noncomputable def slices_IndexFunc_api_Page_api_Page__disk_Read_1_B1 (p_s : List api_Page) (p_f_c0_0 : Int) (s1 : Int) : Option ((Int) ⊕ Int) := if (decide (s1 < (p_s.length : Int))) then (idx p_s s1).bind fun x1 => (disk_Read_1 x1 p_f_c0_0).bind fun x2 => if x2 then out (some s1) else chk (InI64 (s1 + 1)) (some (.inl ((s1 + 1)))) else out (slices_IndexFunc_api_Page_api_Page__disk_Read_1_J1 (()))

noncomputable def slices_IndexFunc_api_Page_api_Page__disk_Read_1_L1 (p_s : List api_Page) (p_f_c0_0 : Int) (s1 : Int) : Option Int := loop (slices_IndexFunc_api_Page_api_Page__disk_Read_1_B1 p_s p_f_c0_0) s1

/-- slices.IndexFunc[[]api.Page,api.Page] -/
noncomputable def slices_IndexFunc_api_Page_api_Page__disk_Read_1 (p_s : List api_Page) (p_f_c0_0 : Int) : Option Int := slices_IndexFunc_api_Page_api_Page__disk_Read_1_L1 p_s p_f_c0_0 (0)

/-- disk.find[api.Page] -/
noncomputable def disk_find_api_Page__disk_Read_1 (p_l : List api_Page) (p_is_c0 : Int) : Option Int := (slices_IndexFunc_api_Page_api_Page__disk_Read_1 p_l p_is_c0).bind fun x1 => some x1

/-- disk.Read -/
noncomputable def disk_Read (p_d : api_Disk) (p_at : Int) : Option ((List UInt8) × Int) := if p_d.Down then some (([], 40)) else (disk_may p_at ([])).bind fun x1 => if (!x1) then some (([], 1)) else (slices_Concat_api_Page_api_Page ([p_d.Synced, p_d.Loose])).bind fun x2 => (slices_Reverse_api_Page_api_Page x2).bind fun x3 => (disk_find_api_Page__disk_Read_1 x3.2 p_at).bind fun x4 => if (decide (x4 < 0)) then some (([], 41)) else (idx x3.2 x4).bind fun x5 => (bytes_Clone x5.Data).bind fun x6 => some ((x6, 0))

/-- chunk.there -/
noncomputable def chunk_there (p_d : api_Disk) (p_id : Int) : Option ((List UInt8) × Int) := (chunk_within p_id).bind fun x1 => if (!x1) then some (([], 1)) else (disk_Read p_d p_id).bind fun x2 => ((if (x2.2 == 0) then some (((x2.1.length : Int) == 0)) else some false).bind fun c1 => some c1).bind fun v1 => if v1 then some (([], 41)) else some ((x2.1, x2.2))

structure chunk_reader where
  b_ : List UInt8
  bad_ : Bool


noncomputable def pack_ReadInt_J1 (_v1 : Unit) : Option (Int × (List UInt8) × Int) := some ((0, [], 10))

noncomputable def pack_ReadInt_B1 (p_b : List UInt8) (s1 : Int × Int) : Option ((Int × Int) ⊕ (Int × (List UInt8) × Int)) := if (decide (s1.2 < (p_b.length : Int))) then (idx p_b s1.2).bind fun x1 => ((if (s1.2 == 9) then some ((decide ((x1.toNat : Int) > 1))) else some false).bind fun c1 => some c1).bind fun v2 => if v2 then out (some ((0, [], 11))) else chk (InI64 (7 * s1.2)) (chk ((0 : Int) ≤ (7 * s1.2)) (if (decide ((x1.toNat : Int) ≥ 128)) then chk (InI64 (s1.2 + 1)) (some (.inl (((orK .u64 s1.1 ((shlK .u64 ((((x1 &&& (127 : UInt8))).toNat : Int)) ((7 * s1.2))))), (s1.2 + 1))))) else ((if ((x1.toNat : Int) == 0) then some ((decide (s1.2 > 0))) else some false).bind fun c2 => some c2).bind fun v3 => if v3 then out (some ((0, [], 11))) else chk (InI64 (0 - (IntKind.i64.wrap ((andK .u64 ((orK .u64 s1.1 ((shlK .u64 ((((x1 &&& (127 : UInt8))).toNat : Int)) ((7 * s1.2)))))) (1)))))) (chk (InI64 (s1.2 + 1)) (chk ((0 : Int) ≤ (s1.2 + 1) ∧ (s1.2 + 1) ≤ (p_b.length : Int)) (out (some (((xorK .i64 ((IntKind.i64.wrap ((shrK .u64 ((orK .u64 s1.1 ((shlK .u64 ((((x1 &&& (127 : UInt8))).toNat : Int)) ((7 * s1.2)))))) (1))))) ((0 - (IntKind.i64.wrap ((andK .u64 ((orK .u64 s1.1 ((shlK .u64 ((((x1 &&& (127 : UInt8))).toNat : Int)) ((7 * s1.2)))))) (1))))))), (p_b.drop ((s1.2 + 1)).toNat), 0)))))))) else out (pack_ReadInt_J1 (()))

noncomputable def pack_ReadInt_L1 (p_b : List UInt8) (s1 : Int × Int) : Option (Int × (List UInt8) × Int) := loop (pack_ReadInt_B1 p_b) s1

/-- pack.ReadInt -/
noncomputable def pack_ReadInt (p_b : List UInt8) : Option (Int × (List UInt8) × Int) := pack_ReadInt_L1 p_b ((0, 0))

/-- chunk.take[int] -/
noncomputable def chunk_take_int__pack_ReadInt (self : chunk_reader) : Option (Int × chunk_reader) := (pack_ReadInt self.b_).bind fun x1 => ((if self.bad_ then some true else some ((x1.2.2 != 0))).bind fun c1 => some c1).bind fun v1 => if v1 then some (0, (⟨self.b_, true⟩ : chunk_reader)) else some (x1.1, (⟨x1.2.1, self.bad_⟩ : chunk_reader))

/-- (*chunk.reader).int -/
noncomputable def chunk_reader_int (self : chunk_reader) : Option (Int × chunk_reader) := (chunk_take_int__pack_ReadInt self).bind fun x1 => some (x1.1, x1.2)

structure pack_rest where
  b_ : List UInt8


structure pack_reader where
  rest_ : pack_rest
  e_ : Int


/-- (*pack.reader).num -/
noncomputable def pack_reader_num (self : pack_reader) : Option (Int × pack_reader) := if (self.e_ != 0) then some (0, self) else (pack_ReadInt self.rest_.b_).bind fun x1 => some (x1.1, (⟨(⟨x1.2.1⟩ : pack_rest), x1.2.2⟩ : pack_reader))

noncomputable def pack_reader_count_J1 (x1 : Int × pack_reader) (v1 : Int) : Option (Int × pack_reader) := some (0, (⟨x1.2.rest_, v1⟩ : pack_reader))

/-- (*pack.reader).count -/
noncomputable def pack_reader_count (self : pack_reader) : Option (Int × pack_reader) := (pack_reader_num self).bind fun x1 => if (x1.2.e_ != 0) then some (0, x1.2) else if (decide (x1.1 < 0)) then pack_reader_count_J1 x1 (11) else if (decide (x1.1 > (x1.2.rest_.b_.length : Int))) then pack_reader_count_J1 x1 (10) else some (x1.1, x1.2)

/-- (*pack.rest).take -/
noncomputable def pack_rest_take (self : pack_reader) (p_n : Int) : Option (((List UInt8)) × pack_reader) := chk ((0 : Int) ≤ p_n ∧ p_n ≤ (self.rest_.b_.length : Int)) (chk ((0 : Int) ≤ p_n ∧ p_n ≤ (self.rest_.b_.length : Int)) (some ((self.rest_.b_.take p_n.toNat), (⟨(⟨(self.rest_.b_.drop p_n.toNat)⟩ : pack_rest), self.e_⟩ : pack_reader))))

/-- (*pack.reader).str -/
noncomputable def pack_reader_str (self : pack_reader) : Option (((List UInt8)) × pack_reader) := (pack_reader_count self).bind fun x1 => if (x1.2.e_ != 0) then some ([], x1.2) else (pack_rest_take x1.2 x1.1).bind fun x2 => some (x2.1, x2.2)

/-- pack.ReadStr -/
noncomputable def pack_ReadStr (p_b : List UInt8) : Option ((List UInt8) × (List UInt8) × Int) := (pack_reader_str ((⟨(⟨p_b⟩ : pack_rest), 0⟩ : pack_reader))).bind fun x1 => if (x1.2.e_ != 0) then some (([], [], x1.2.e_)) else some ((x1.1, x1.2.rest_.b_, 0))

/-- chunk.take[string] -/
noncomputable def chunk_take_string__pack_ReadStr (self : chunk_reader) : Option (((List UInt8)) × chunk_reader) := (pack_ReadStr self.b_).bind fun x1 => ((if self.bad_ then some true else some ((x1.2.2 != 0))).bind fun c1 => some c1).bind fun v1 => if v1 then some ([], (⟨self.b_, true⟩ : chunk_reader)) else some (x1.1, (⟨x1.2.1, self.bad_⟩ : chunk_reader))

noncomputable def pack_ReadInts_B1 (x1 : Int × pack_reader) (s1 : Int × (List UInt8) × Int × (List Int)) : Option ((Int × (List UInt8) × Int × (List Int)) ⊕ ((List UInt8) × Int × (List Int))) := if (decide (s1.1 < x1.1)) then (pack_reader_num ((⟨(⟨s1.2.1⟩ : pack_rest), s1.2.2.1⟩ : pack_reader))).bind fun x2 => chk ((s1.2.2.2.length + ([x2.1]).length) * 8 ≤ 140737488355328) (if (x2.2.e_ != 0) then out (some ((x2.2.rest_.b_, x2.2.e_, (s1.2.2.2 ++ [x2.1])))) else chk (InI64 (s1.1 + 1)) (some (.inl (((s1.1 + 1), x2.2.rest_.b_, x2.2.e_, (s1.2.2.2 ++ [x2.1])))))) else out (some ((s1.2.1, s1.2.2.1, s1.2.2.2)))

noncomputable def pack_ReadInts_L1 (x1 : Int × pack_reader) (s1 : Int × (List UInt8) × Int × (List Int)) : Option ((List UInt8) × Int × (List Int)) := loop (pack_ReadInts_B1 x1) s1

/-- pack.ReadInts -/
noncomputable def pack_ReadInts (p_b : List UInt8) : Option ((List Int) × (List UInt8) × Int) := ((pack_reader_count ((⟨(⟨p_b⟩ : pack_rest), 0⟩ : pack_reader))).bind fun x1 => pack_ReadInts_L1 x1 ((0, x1.2.rest_.b_, x1.2.e_, []))).bind fun v1 => if (v1.2.1 != 0) then some (([], [], v1.2.1)) else some ((v1.2.2, v1.1, 0))

/-- chunk.take[[]int] -/
noncomputable def chunk_take_int__pack_ReadInts (self : chunk_reader) : Option (((List Int)) × chunk_reader) := (pack_ReadInts self.b_).bind fun x1 => ((if self.bad_ then some true else some ((x1.2.2 != 0))).bind fun c1 => some c1).bind fun v1 => if v1 then some ([], (⟨self.b_, true⟩ : chunk_reader)) else some (x1.1, (⟨x1.2.1, self.bad_⟩ : chunk_reader))

/-- (*chunk.reader).copy -/
noncomputable def chunk_reader_copy (self : chunk_reader) : Option ((api_Copy × Bool) × chunk_reader) := (chunk_reader_int self).bind fun x1 => (chunk_reader_int x1.2).bind fun x2 => (chunk_take_string__pack_ReadStr x2.2).bind fun x3 => chk (x3.1.length ≤ 140737488355328) ((chunk_take_int__pack_ReadInts x3.2).bind fun x4 => ((if (!x4.2.bad_) then some (((x4.2.b_.length : Int) == 0)) else some false).bind fun c1 => some c1).bind fun v1 => some (((⟨x1.1, x2.1, x3.1, x4.1⟩ : api_Copy), v1), x4.2))

/-- bytes.Equal -/
noncomputable def bytes_Equal (p_a : List UInt8) (p_b : List UInt8) : Option Bool := some ((p_a == p_b))

/-- chunk.Get -/
noncomputable def chunk_Get (p_d : api_Disk) (p_id : Int) : Option (api_Copy × Int) := (chunk_there p_d p_id).bind fun x1 => if (x1.2 != 0) then some (((⟨0, 0, [], []⟩ : api_Copy), x1.2)) else if (decide ((x1.1.length : Int) < 4)) then some (((⟨0, 0, [], []⟩ : api_Copy), 251)) else chk (InI64 ((x1.1.length : Int) - 4)) (chk ((0 : Int) ≤ ((x1.1.length : Int) - 4) ∧ ((x1.1.length : Int) - 4) ≤ (x1.1.length : Int)) ((chunk_reader_copy ((⟨(x1.1.take (((x1.1.length : Int) - 4)).toNat), false⟩ : chunk_reader))).bind fun x2 => ((if (!x2.1.2) then some true else (chunk_may x2.1.1).bind fun x3 => some ((!x3))).bind fun c1 => (if c1 then some true else some ((x2.1.1.Id != p_id))).bind fun c2 => (if c2 then some true else (chunk_page x2.1.1).bind fun x4 => (bytes_Equal x4 x1.1).bind fun x5 => some ((!x5))).bind fun c3 => some c3).bind fun v1 => if v1 then some (((⟨0, 0, [], []⟩ : api_Copy), 251)) else some ((x2.1.1, 0))))

/-- chunk.Lose -/
noncomputable def chunk_Lose (p_d : api_Disk) (p_id : Int) : Option (api_Disk × Int) := (chunk_there p_d p_id).bind fun x1 => if (x1.2 != 0) then some ((p_d, x1.2)) else (disk_Write p_d p_id ([])).bind fun x2 => some ((x2.1, x2.2))

noncomputable def chunk_Has_B1 (p_d : api_Disk) (s1 : Int × (List Int)) : Option ((Int × (List Int)) ⊕ ((List Int))) := if (decide (s1.1 < 200)) then ((chunk_there p_d s1.1).bind fun x1 => if (x1.2 == 0) then chk ((s1.2.length + ([s1.1]).length) * 8 ≤ 140737488355328) (some ((s1.2 ++ [s1.1]))) else some s1.2).bind fun v2 => chk (InI64 (s1.1 + 1)) (some (.inl (((s1.1 + 1), v2)))) else out (some s1.2)

noncomputable def chunk_Has_L1 (p_d : api_Disk) (s1 : Int × (List Int)) : Option ((List Int)) := loop (chunk_Has_B1 p_d) s1

/-- chunk.Has -/
noncomputable def chunk_Has (p_d : api_Disk) : Option ((List Int)) := (chunk_Has_L1 p_d ((0, []))).bind fun v1 => some v1

noncomputable def ref02_Ints_J1 (_v1 : Unit) : Option Bool := some true

noncomputable def ref02_Ints_B1 (p_a : List Int) (p_b : List Int) (s1 : Int) : Option ((Int) ⊕ Bool) := if (decide (s1 < (p_a.length : Int))) then (idx p_a s1).bind fun x1 => (idx p_b s1).bind fun x2 => if (x1 != x2) then out (some false) else chk (InI64 (s1 + 1)) (some (.inl ((s1 + 1)))) else out (ref02_Ints_J1 (()))

noncomputable def ref02_Ints_L1 (p_a : List Int) (p_b : List Int) (s1 : Int) : Option Bool := loop (ref02_Ints_B1 p_a p_b) s1

/-- catacombref02.Ints -/
noncomputable def ref02_Ints (p_a : List Int) (p_b : List Int) : Option Bool := if ((p_a.length : Int) != (p_b.length : Int)) then some false else ref02_Ints_L1 p_a p_b (0)

/-- catacomblaw25.head -/
noncomputable def law25_head : Option Bool := (chunk_New (7) (3) ([104, 101, 108, 108, 111])).bind fun x1 => (disk_New).bind fun x2 => (chunk_Put x2 x1).bind fun x3 => (chunk_Get x3.1 (7)).bind fun x4 => (chunk_Get x3.1 (8)).bind fun x5 => (chunk_Put x3.1 ((⟨x1.Id, x1.Ver, x1.Data, []⟩ : api_Copy))).bind fun x6 => (chunk_Lose x3.1 (7)).bind fun x7 => (chunk_Get x7.1 (7)).bind fun x8 => (chunk_Get x3.1 (200)).bind fun x9 => ((if (x3.2 == 0) then some ((x4.2 == 0)) else some false).bind fun c1 => (if c1 then some ((x4.1.Ver == 3)) else some false).bind fun c2 => (if c2 then some ((x4.1.Data == ([104, 101, 108, 108, 111]))) else some false).bind fun c3 => (if c3 then some (((x4.1.Sums.length : Int) == 1)) else some false).bind fun c4 => (if c4 then some ((x5.2 == 41)) else some false).bind fun c5 => (if c5 then some ((x6.2 == 1)) else some false).bind fun c6 => (if c6 then some ((x7.2 == 0)) else some false).bind fun c7 => (if c7 then some ((x8.2 == 41)) else some false).bind fun c8 => (if c8 then some ((x9.2 == 1)) else some false).bind fun c9 => (if c9 then (chunk_Has x3.1).bind fun x10 => (ref02_Ints x10 ([7])).bind fun x11 => some x11 else some false).bind fun c10 => (if c10 then (chunk_Has x7.1).bind fun x12 => some (((x12.length : Int) == 0)) else some false).bind fun c11 => some c11).bind fun v1 => some v1

/-- catacombref04.Page -/
noncomputable def ref04_Page (p_p : api_Page) : Option Bool := ((if (decide (p_p.At ≥ 0)) then some ((decide (p_p.At ≤ 999))) else some false).bind fun c1 => (if c1 then some ((decide ((p_p.Data.length : Int) ≤ 200))) else some false).bind fun c2 => some c2).bind fun v1 => some v1

noncomputable def ref04_Right_J2 (p_d : api_Disk) (_v3 : Unit) : Option Bool := ((if (!p_d.Down) then some true else some (((p_d.Loose.length : Int) == 0))).bind fun c3 => some c3).bind fun v4 => some v4

noncomputable def ref04_Right_B2 (p_d : api_Disk) (s2 : Int) : Option ((Int) ⊕ Bool) := if (decide (s2 < (p_d.Loose.length : Int))) then (idx p_d.Loose s2).bind fun x5 => (ref04_Page x5).bind fun x6 => if (!x6) then out (some false) else chk (InI64 (s2 + 1)) (some (.inl ((s2 + 1)))) else out (ref04_Right_J2 p_d (()))

noncomputable def ref04_Right_L2 (p_d : api_Disk) (s2 : Int) : Option Bool := loop (ref04_Right_B2 p_d) s2

noncomputable def ref04_Right_J1 (p_d : api_Disk) (_v1 : Unit) : Option Bool := ref04_Right_L2 p_d (0)

noncomputable def ref04_Right_B1 (p_d : api_Disk) (s1 : Int) : Option ((Int) ⊕ Bool) := if (decide (s1 < (p_d.Synced.length : Int))) then (idx p_d.Synced s1).bind fun x1 => (ref04_Page x1).bind fun x2 => ((if (!x2) then some true else (if (decide (s1 > 0)) then (idx p_d.Synced s1).bind fun x3 => chk (InI64 (s1 - 1)) ((idx p_d.Synced ((s1 - 1))).bind fun x4 => some ((decide (x3.At ≤ x4.At)))) else some false).bind fun c1 => some c1).bind fun c2 => some c2).bind fun v2 => if v2 then out (some false) else chk (InI64 (s1 + 1)) (some (.inl ((s1 + 1)))) else out (ref04_Right_J1 p_d (()))

noncomputable def ref04_Right_L1 (p_d : api_Disk) (s1 : Int) : Option Bool := loop (ref04_Right_B1 p_d) s1

/-- catacombref04.Right -/
noncomputable def ref04_Right (p_d : api_Disk) : Option Bool := ref04_Right_L1 p_d (0)

noncomputable def law25_Great_J2 (p_d : api_Disk) (_v3 : Unit) : Option Bool := (ref04_Right p_d).bind fun x3 => some ((!x3))

noncomputable def law25_Great_B2 (p_d : api_Disk) (s2 : Int) : Option ((Int) ⊕ Bool) := if (decide (s2 < (p_d.Loose.length : Int))) then (idx p_d.Loose s2).bind fun x2 => if (decide ((x2.Data.length : Int) > 200)) then out (some true) else chk (InI64 (s2 + 1)) (some (.inl ((s2 + 1)))) else out (law25_Great_J2 p_d (()))

noncomputable def law25_Great_L2 (p_d : api_Disk) (s2 : Int) : Option Bool := loop (law25_Great_B2 p_d) s2

noncomputable def law25_Great_J1 (p_d : api_Disk) (_v2 : Unit) : Option Bool := law25_Great_L2 p_d (0)

noncomputable def law25_Great_B1 (p_d : api_Disk) (s1 : Int) : Option ((Int) ⊕ Bool) := if (decide (s1 < (p_d.Synced.length : Int))) then (idx p_d.Synced s1).bind fun x1 => if (decide ((x1.Data.length : Int) > 200)) then out (some true) else chk (InI64 (s1 + 1)) (some (.inl ((s1 + 1)))) else out (law25_Great_J1 p_d (()))

noncomputable def law25_Great_L1 (p_d : api_Disk) (s1 : Int) : Option Bool := loop (law25_Great_B1 p_d) s1

/-- catacomblaw25.Great -/
noncomputable def law25_Great (p_d : api_Disk) : Option Bool := ((if (decide ((p_d.Synced.length : Int) > 60)) then some true else some ((decide ((p_d.Loose.length : Int) > 60)))).bind fun c1 => some c1).bind fun v1 => if v1 then some true else law25_Great_L1 p_d (0)

/-- catacomblaw25.big -/
noncomputable def law25_big (p_c : api_Copy) : Option Bool := ((if (decide ((p_c.Data.length : Int) > 100)) then some true else some ((decide ((p_c.Sums.length : Int) > 40)))).bind fun c1 => some c1).bind fun v1 => some v1

noncomputable def law25_has_J1 (_v1 : Unit) : Option Bool := some false

noncomputable def law25_has_B1 (p_l : List Int) (p_x : Int) (s1 : Int) : Option ((Int) ⊕ Bool) := if (decide (s1 < (p_l.length : Int))) then (idx p_l s1).bind fun x1 => if (x1 == p_x) then out (some true) else chk (InI64 (s1 + 1)) (some (.inl ((s1 + 1)))) else out (law25_has_J1 (()))

noncomputable def law25_has_L1 (p_l : List Int) (p_x : Int) (s1 : Int) : Option Bool := loop (law25_has_B1 p_l p_x) s1

/-- catacomblaw25.has -/
noncomputable def law25_has (p_l : List Int) (p_x : Int) : Option Bool := law25_has_L1 p_l p_x (0)

noncomputable def law25_ChunkHas_J1 (p_d : api_Disk) (p_id : UInt8) (p_c : api_Copy) (x1 : Bool) (x4 : (List Int)) (_v2 : Unit) : Option Bool := (chunk_Get p_d ((Int.tmod ((p_id.toNat : Int)) (200)))).bind fun x9 => if p_d.Down then (chunk_Lose p_d ((Int.tmod ((p_id.toNat : Int)) (200)))).bind fun x10 => (chunk_Put p_d p_c).bind fun x11 => ((if x1 then some (((x4.length : Int) == 0)) else some false).bind fun c5 => (if c5 then some ((x9.2 == 40)) else some false).bind fun c6 => (if c6 then some ((x10.2 == 40)) else some false).bind fun c7 => (if c7 then (if (x11.2 == 40) then some true else some ((x11.2 == 1))).bind fun c8 => some c8 else some false).bind fun c9 => some c9).bind fun v4 => some v4 else ((if x1 then (law25_has x4 ((Int.tmod ((p_id.toNat : Int)) (200)))).bind fun x12 => some ((x12 == (x9.2 != 41))) else some false).bind fun c10 => (if c10 then (if (x9.2 == 0) then some true else some ((x9.2 == 41))).bind fun c11 => (if c11 then some true else some ((x9.2 == 251))).bind fun c12 => some c12 else some false).bind fun c13 => some c13).bind fun v5 => some v5

noncomputable def law25_ChunkHas_B1 (x4 : (List Int)) (p_d : api_Disk) (p_id : UInt8) (p_c : api_Copy) (x1 : Bool) (s1 : Int) : Option ((Int) ⊕ Bool) := if (decide (s1 < (x4.length : Int))) then ((idx x4 s1).bind fun x5 => (if (decide (x5 < 0)) then some true else (idx x4 s1).bind fun x6 => some ((decide (x6 > 199)))).bind fun c2 => (if c2 then some true else (if (decide (s1 > 0)) then chk (InI64 (s1 - 1)) ((idx x4 ((s1 - 1))).bind fun x7 => (idx x4 s1).bind fun x8 => some ((decide (x7 ≥ x8)))) else some false).bind fun c3 => some c3).bind fun c4 => some c4).bind fun v3 => if v3 then out (some false) else chk (InI64 (s1 + 1)) (some (.inl ((s1 + 1)))) else out (law25_ChunkHas_J1 p_d p_id p_c x1 x4 (()))

noncomputable def law25_ChunkHas_L1 (x4 : (List Int)) (p_d : api_Disk) (p_id : UInt8) (p_c : api_Copy) (x1 : Bool) (s1 : Int) : Option Bool := loop (law25_ChunkHas_B1 x4 p_d p_id p_c x1) s1

/-- catacomblaw25.ChunkHas -/
noncomputable def law25_ChunkHas (p_d : api_Disk) (p_id : UInt8) (p_c : api_Copy) : Option Bool := (law25_head).bind fun x1 => ((law25_Great p_d).bind fun x2 => (if x2 then some true else (law25_big p_c).bind fun x3 => some x3).bind fun c1 => some c1).bind fun v1 => if v1 then some x1 else (chunk_Has p_d).bind fun x4 => law25_ChunkHas_L1 x4 p_d p_id p_c x1 (0)

/-- catacomblaw25.may -/
noncomputable def law25_may (p_id : UInt8) (p_ver : Int) (p_data : List UInt8) : Option api_Copy := chk ((0 : Int) ≤ (min ((p_data.length : Int)) (64)) ∧ (min ((p_data.length : Int)) (64)) ≤ (p_data.length : Int)) ((chunk_New ((Int.tmod ((p_id.toNat : Int)) (200))) ((IntKind.i64.wrap p_ver)) ((p_data.take ((min ((p_data.length : Int)) (64))).toNat))).bind fun x1 => some x1)

/-- catacomblaw25.ChunkOdd -/
noncomputable def law25_ChunkOdd (p_d : api_Disk) (p_id : UInt8) (p_ver : Int) (p_data : List UInt8) (p_at : UInt8) (p_by : UInt8) : Option Bool := (law25_head).bind fun x1 => ((law25_Great p_d).bind fun x2 => (if x2 then some true else some (((p_data.length : Int) == 0))).bind fun c1 => (if c1 then some true else some (((p_by.toNat : Int) == 0))).bind fun c2 => some c2).bind fun v1 => if v1 then some x1 else (law25_may p_id p_ver p_data).bind fun x3 => ((if ((x3.Sums.length : Int) == 0) then some true else some (((x3.Data.length : Int) == 0))).bind fun c3 => some c3).bind fun v2 => if v2 then some false else chk (((([] : List Int)).length + x3.Sums.length) * 8 ≤ 140737488355328) (chk ((((([] : List Int) ++ x3.Sums)).length : Int) ≠ 0) (chk ((((([] : List Int) ++ x3.Sums)).length : Int) ≠ 0) ((idx ((([] : List Int) ++ x3.Sums)) ((Int.tmod ((p_at.toNat : Int)) ((((([] : List Int) ++ x3.Sums)).length : Int))))).bind fun x4 => (idx ((([] : List Int) ++ x3.Sums)) ((Int.tmod ((p_at.toNat : Int)) ((((([] : List Int) ++ x3.Sums)).length : Int))))).bind fun _ => chk (((([] : List UInt8)).length + x3.Data.length) * 1 ≤ 140737488355328) (chk ((((([] : List UInt8) ++ x3.Data)).length : Int) ≠ 0) (chk ((((([] : List UInt8) ++ x3.Data)).length : Int) ≠ 0) ((idx ((([] : List UInt8) ++ x3.Data)) ((Int.tmod ((p_at.toNat : Int)) ((((([] : List UInt8) ++ x3.Data)).length : Int))))).bind fun x6 => (idx ((([] : List UInt8) ++ x3.Data)) ((Int.tmod ((p_at.toNat : Int)) ((((([] : List UInt8) ++ x3.Data)).length : Int))))).bind fun _ => chk (((([] : List Int)).length + x3.Sums.length) * 8 ≤ 140737488355328) (chk ((((([] : List Int) ++ x3.Sums)).length + ([0]).length) * 8 ≤ 140737488355328) (chk ((0 : Int) ≤ 65 ∧ (65 : Int).toNat * 1 ≤ 140737488355328) ((chunk_New x3.Id x3.Ver ((List.replicate (65 : Int).toNat ((0 : UInt8))))).bind fun x8 => (chunk_Put p_d ((⟨x3.Id, x3.Ver, x3.Data, (((([] : List Int) ++ x3.Sums)).set ((Int.tmod ((p_at.toNat : Int)) ((((([] : List Int) ++ x3.Sums)).length : Int)))).toNat (xorK .i64 x4 ((p_by.toNat : Int))))⟩ : api_Copy))).bind fun x9 => (chunk_Put p_d ((⟨x3.Id, x3.Ver, (((([] : List UInt8) ++ x3.Data)).set ((Int.tmod ((p_at.toNat : Int)) ((((([] : List UInt8) ++ x3.Data)).length : Int)))).toNat (x6 ^^^ p_by)), x3.Sums⟩ : api_Copy))).bind fun x10 => (chunk_Put p_d ((⟨x3.Id, x3.Ver, x3.Data, ((([] : List Int) ++ x3.Sums) ++ [0])⟩ : api_Copy))).bind fun x11 => (chunk_Put p_d x8).bind fun x12 => ((if x1 then some ((x9.2 == 1)) else some false).bind fun c4 => (if c4 then some ((x10.2 == 1)) else some false).bind fun c5 => (if c5 then some ((x11.2 == 1)) else some false).bind fun c6 => (if c6 then some ((x12.2 == 1)) else some false).bind fun c7 => some c7).bind fun v3 => some v3)))))))))

noncomputable def ref02_Bytes_J1 (_v1 : Unit) : Option Bool := some true

noncomputable def ref02_Bytes_B1 (p_a : List UInt8) (p_b : List UInt8) (s1 : Int) : Option ((Int) ⊕ Bool) := if (decide (s1 < (p_a.length : Int))) then (idx p_a s1).bind fun x1 => (idx p_b s1).bind fun x2 => if ((x1.toNat : Int) != (x2.toNat : Int)) then out (some false) else chk (InI64 (s1 + 1)) (some (.inl ((s1 + 1)))) else out (ref02_Bytes_J1 (()))

noncomputable def ref02_Bytes_L1 (p_a : List UInt8) (p_b : List UInt8) (s1 : Int) : Option Bool := loop (ref02_Bytes_B1 p_a p_b) s1

/-- catacombref02.Bytes -/
noncomputable def ref02_Bytes (p_a : List UInt8) (p_b : List UInt8) : Option Bool := if ((p_a.length : Int) != (p_b.length : Int)) then some false else ref02_Bytes_L1 p_a p_b (0)

/-- catacombref25.Same -/
noncomputable def ref25_Same (p_a : api_Copy) (p_b : api_Copy) : Option Bool := ((if (p_a.Id == p_b.Id) then some ((p_a.Ver == p_b.Ver)) else some false).bind fun c1 => (if c1 then (ref02_Bytes p_a.Data p_b.Data).bind fun x1 => some x1 else some false).bind fun c2 => (if c2 then (ref02_Ints p_a.Sums p_b.Sums).bind fun x2 => some x2 else some false).bind fun c3 => some c3).bind fun v1 => some v1

/-- catacomblaw25.ChunkBack -/
noncomputable def law25_ChunkBack (p_d : api_Disk) (p_id : UInt8) (p_ver : Int) (p_data : List UInt8) (p_other : UInt8) : Option Bool := (law25_head).bind fun x1 => ((law25_Great p_d).bind fun x2 => (if x2 then some true else some p_d.Down).bind fun c1 => some c1).bind fun v1 => if v1 then some x1 else (law25_may p_id p_ver p_data).bind fun x3 => (chunk_Put p_d x3).bind fun x4 => (chunk_Get x4.1 x3.Id).bind fun x5 => (chunk_Lose x4.1 x3.Id).bind fun x6 => (chunk_Get x6.1 x3.Id).bind fun x7 => ((if (x4.2 != 0) then some true else some ((x5.2 != 0))).bind fun c2 => (if c2 then some true else (ref25_Same x5.1 x3).bind fun x8 => some ((!x8))).bind fun c3 => (if c3 then some true else some ((x6.2 != 0))).bind fun c4 => (if c4 then some true else some ((x7.2 != 41))).bind fun c5 => some c5).bind fun v2 => if v2 then some false else ((chunk_Has x4.1).bind fun x9 => (law25_has x9 x3.Id).bind fun x10 => (if (!x10) then some true else (chunk_Has x6.1).bind fun x11 => (law25_has x11 x3.Id).bind fun x12 => some x12).bind fun c6 => some c6).bind fun v3 => if v3 then some false else if ((Int.tmod ((p_other.toNat : Int)) (200)) == x3.Id) then some x1 else (chunk_Get p_d ((Int.tmod ((p_other.toNat : Int)) (200)))).bind fun x13 => (chunk_Get x4.1 ((Int.tmod ((p_other.toNat : Int)) (200)))).bind fun x14 => (chunk_Get x6.1 ((Int.tmod ((p_other.toNat : Int)) (200)))).bind fun x15 => ((if x1 then some ((x13.2 == x14.2)) else some false).bind fun c7 => (if c7 then (ref25_Same x13.1 x14.1).bind fun x16 => some x16 else some false).bind fun c8 => (if c8 then some ((x13.2 == x15.2)) else some false).bind fun c9 => (if c9 then (ref25_Same x13.1 x15.1).bind fun x17 => some x17 else some false).bind fun c10 => (if c10 then (chunk_Has x4.1).bind fun x18 => (law25_has x18 ((Int.tmod ((p_other.toNat : Int)) (200)))).bind fun x19 => (chunk_Has p_d).bind fun x20 => (law25_has x20 ((Int.tmod ((p_other.toNat : Int)) (200)))).bind fun x21 => some ((x19 == x21)) else some false).bind fun c11 => some c11).bind fun v4 => some v4

/-- catacombref02.turned -/
noncomputable def ref02_turned (p_a : Int) (p_b : Int) : Option Int := some ((xorK .i64 p_a p_b))

noncomputable def ref02_Of_B2 (s2 : Int × Int) : Option ((Int × Int) ⊕ Int) := if (decide (s2.2 < 8)) then (if ((Int.tmod s2.1 (2)) == 1) then (ref02_turned ((quoK .i64 s2.1 (2))) (2197175160)).bind fun x3 => some x3 else some ((quoK .i64 s2.1 (2)))).bind fun v3 => chk (InI64 (s2.2 + 1)) (some (.inl ((v3, (s2.2 + 1))))) else out (some s2.1)

noncomputable def ref02_Of_L2 (s2 : Int × Int) : Option Int := loop (ref02_Of_B2) s2

noncomputable def ref02_Of_B1 (p_b : List UInt8) (s1 : Int × Int) : Option ((Int × Int) ⊕ Int) := if (decide (s1.2 < (p_b.length : Int))) then ((idx p_b s1.2).bind fun x1 => (ref02_turned s1.1 ((x1.toNat : Int))).bind fun x2 => ref02_Of_L2 ((x2, 0))).bind fun v2 => chk (InI64 (s1.2 + 1)) (some (.inl ((v2, (s1.2 + 1))))) else out (some s1.1)

noncomputable def ref02_Of_L1 (p_b : List UInt8) (s1 : Int × Int) : Option Int := loop (ref02_Of_B1 p_b) s1

/-- catacombref02.Of -/
noncomputable def ref02_Of (p_b : List UInt8) : Option Int := (ref02_Of_L1 p_b ((4294967295, 0))).bind fun v1 => (ref02_turned v1 (4294967295)).bind fun x4 => some x4

noncomputable def ref02_Blocks_B1 (p_data : List UInt8) (s1 : Int × (List Int)) : Option ((Int × (List Int)) ⊕ ((List Int))) := if (decide (s1.1 < (p_data.length : Int))) then chk (InI64 (s1.1 + 16)) (chk ((0 : Int) ≤ s1.1 ∧ s1.1 ≤ (min ((s1.1 + 16)) ((p_data.length : Int))) ∧ (min ((s1.1 + 16)) ((p_data.length : Int))) ≤ (p_data.length : Int)) ((ref02_Of ((sub p_data s1.1 ((min ((s1.1 + 16)) ((p_data.length : Int))))))).bind fun x1 => chk ((s1.2.length + ([x1]).length) * 8 ≤ 140737488355328) (chk (InI64 (s1.1 + 16)) (some (.inl (((s1.1 + 16), (s1.2 ++ [x1])))))))) else out (some s1.2)

noncomputable def ref02_Blocks_L1 (p_data : List UInt8) (s1 : Int × (List Int)) : Option ((List Int)) := loop (ref02_Blocks_B1 p_data) s1

/-- catacombref02.Blocks -/
noncomputable def ref02_Blocks (p_data : List UInt8) : Option ((List Int)) := (ref02_Blocks_L1 p_data ((0, []))).bind fun v1 => some v1

noncomputable def ref02_Check_J1 (_v1 : Unit) : Option Int := some ((-1))

noncomputable def ref02_Check_B1 (x1 : (List Int)) (p_sums : List Int) (s1 : Int) : Option ((Int) ⊕ Int) := ((if (decide (s1 < (x1.length : Int))) then some true else some ((decide (s1 < (p_sums.length : Int))))).bind fun c1 => some c1).bind fun v2 => if v2 then ((if (decide (s1 ≥ (x1.length : Int))) then some true else some ((decide (s1 ≥ (p_sums.length : Int))))).bind fun c2 => (if c2 then some true else (idx x1 s1).bind fun x2 => (idx p_sums s1).bind fun x3 => some ((x2 != x3))).bind fun c3 => some c3).bind fun v3 => if v3 then out (some s1) else chk (InI64 (s1 + 1)) (some (.inl ((s1 + 1)))) else out (ref02_Check_J1 (()))

noncomputable def ref02_Check_L1 (x1 : (List Int)) (p_sums : List Int) (s1 : Int) : Option Int := loop (ref02_Check_B1 x1 p_sums) s1

/-- catacombref02.Check -/
noncomputable def ref02_Check (p_data : List UInt8) (p_sums : List Int) : Option Int := (ref02_Blocks p_data).bind fun x1 => ref02_Check_L1 x1 p_sums (0)

/-- catacombref25.May -/
noncomputable def ref25_May (p_c : api_Copy) : Option Bool := ((if (decide (p_c.Id ≥ 0)) then some ((decide (p_c.Id ≤ 199))) else some false).bind fun c1 => (if c1 then some ((decide (p_c.Ver ≥ 0))) else some false).bind fun c2 => (if c2 then some ((decide (p_c.Ver ≤ 1099511627776))) else some false).bind fun c3 => (if c3 then some ((decide ((p_c.Data.length : Int) ≤ 64))) else some false).bind fun c4 => (if c4 then (ref02_Check p_c.Data p_c.Sums).bind fun x1 => some ((x1 == (-1))) else some false).bind fun c5 => some c5).bind fun v1 => some v1

/-- catacombref01.zig -/
noncomputable def ref01_zig (p_n : Int) : Option Int := if (decide (p_n < 0)) then chk (InI64 (p_n + 1)) (chk (InI64 (0 - (p_n + 1))) (some ((IntKind.u64.wrap ((IntKind.u64.wrap (2 * (IntKind.u64.wrap ((0 - (p_n + 1)))))) + 1))))) else some ((IntKind.u64.wrap (2 * (IntKind.u64.wrap p_n))))

noncomputable def ref01_Int_B1 (s1 : Int × (List UInt8)) : Option ((Int × (List UInt8)) ⊕ (Int × (List UInt8))) := if (decide (s1.1 ≥ 128)) then chk ((s1.2.length + ([(toU8 ((IntKind.u64.wrap (128 + (Int.tmod s1.1 (128))))))]).length) * 1 ≤ 140737488355328) (some (.inl (((quoK .u64 s1.1 (128)), (s1.2 ++ [(toU8 ((IntKind.u64.wrap (128 + (Int.tmod s1.1 (128))))))]))))) else out (some ((s1.1, s1.2)))

noncomputable def ref01_Int_L1 (s1 : Int × (List UInt8)) : Option (Int × (List UInt8)) := loop (ref01_Int_B1) s1

/-- catacombref01.Int -/
noncomputable def ref01_Int (p_n : Int) : Option ((List UInt8)) := (ref01_zig p_n).bind fun x1 => (ref01_Int_L1 ((x1, ([] : List UInt8)))).bind fun v1 => chk ((v1.2.length + ([(toU8 v1.1)]).length) * 1 ≤ 140737488355328) (some ((v1.2 ++ [(toU8 v1.1)])))

noncomputable def ref01_Str_B1 (p_s : List UInt8) (s1 : Int × (List UInt8)) : Option ((Int × (List UInt8)) ⊕ ((List UInt8))) := if (decide (s1.1 < (p_s.length : Int))) then (idx p_s s1.1).bind fun x2 => chk ((s1.2.length + ([x2]).length) * 1 ≤ 140737488355328) (chk (InI64 (s1.1 + 1)) (some (.inl (((s1.1 + 1), (s1.2 ++ [x2])))))) else out (some s1.2)

noncomputable def ref01_Str_L1 (p_s : List UInt8) (s1 : Int × (List UInt8)) : Option ((List UInt8)) := loop (ref01_Str_B1 p_s) s1

/-- catacombref01.Str -/
noncomputable def ref01_Str (p_s : List UInt8) : Option ((List UInt8)) := (ref01_Int ((p_s.length : Int))).bind fun x1 => (ref01_Str_L1 p_s ((0, x1))).bind fun v1 => some v1

noncomputable def ref01_Ints_B1 (p_l : List Int) (s1 : Int × (List UInt8)) : Option ((Int × (List UInt8)) ⊕ ((List UInt8))) := if (decide (s1.1 < (p_l.length : Int))) then (idx p_l s1.1).bind fun x2 => (ref01_Int x2).bind fun x3 => chk ((s1.2.length + x3.length) * 1 ≤ 140737488355328) (chk (InI64 (s1.1 + 1)) (some (.inl (((s1.1 + 1), (s1.2 ++ x3)))))) else out (some s1.2)

noncomputable def ref01_Ints_L1 (p_l : List Int) (s1 : Int × (List UInt8)) : Option ((List UInt8)) := loop (ref01_Ints_B1 p_l) s1

/-- catacombref01.Ints -/
noncomputable def ref01_Ints (p_l : List Int) : Option ((List UInt8)) := (ref01_Int ((p_l.length : Int))).bind fun x1 => (ref01_Ints_L1 p_l ((0, x1))).bind fun v1 => some v1

/-- catacombref25.Page -/
noncomputable def ref25_Page (p_c : api_Copy) : Option ((List UInt8)) := (ref01_Int p_c.Id).bind fun x1 => chk (((([] : List UInt8)).length + x1.length) * 1 ≤ 140737488355328) ((ref01_Int p_c.Ver).bind fun x2 => chk ((((([] : List UInt8) ++ x1)).length + x2.length) * 1 ≤ 140737488355328) ((ref01_Str p_c.Data).bind fun x3 => chk (((((([] : List UInt8) ++ x1) ++ x2)).length + x3.length) * 1 ≤ 140737488355328) ((ref01_Ints p_c.Sums).bind fun x4 => chk ((((((([] : List UInt8) ++ x1) ++ x2) ++ x3)).length + x4.length) * 1 ≤ 140737488355328) ((ref02_Of (((((([] : List UInt8) ++ x1) ++ x2) ++ x3) ++ x4))).bind fun x5 => chk (((((((([] : List UInt8) ++ x1) ++ x2) ++ x3) ++ x4)).length + ([(toU8 ((Int.tmod x5 (256)))), (toU8 ((Int.tmod ((quoK .i64 x5 (256))) (256)))), (toU8 ((Int.tmod ((quoK .i64 x5 (65536))) (256)))), (toU8 ((quoK .i64 x5 (16777216))))]).length) * 1 ≤ 140737488355328) (some ((((((([] : List UInt8) ++ x1) ++ x2) ++ x3) ++ x4) ++ [(toU8 ((Int.tmod x5 (256)))), (toU8 ((Int.tmod ((quoK .i64 x5 (256))) (256)))), (toU8 ((Int.tmod ((quoK .i64 x5 (65536))) (256)))), (toU8 ((quoK .i64 x5 (16777216))))])))))))

/-- catacombref04.Write -/
noncomputable def ref04_Write (p_d : api_Disk) (p_at : Int) (p_data : List UInt8) : Option (api_Disk × Int) := if p_d.Down then some ((p_d, 40)) else (ref04_Page ((⟨p_at, p_data⟩ : api_Page))).bind fun x1 => if (!x1) then some ((p_d, 1)) else chk (p_d.Loose.length * 32 ≤ 140737488355328) (chk ((p_d.Loose.length + ([(⟨p_at, p_data⟩ : api_Page)]).length) * 32 ≤ 140737488355328) (some (((⟨p_d.Synced, (p_d.Loose ++ [(⟨p_at, p_data⟩ : api_Page)]), false⟩ : api_Disk), 0))))

/-- catacombref25.Put -/
noncomputable def ref25_Put (p_d : api_Disk) (p_c : api_Copy) : Option (api_Disk × Int) := (ref25_May p_c).bind fun x1 => if (!x1) then some ((p_d, 1)) else (ref25_Page p_c).bind fun x2 => (ref04_Write p_d p_c.Id x2).bind fun x3 => some ((x3.1, x3.2))

noncomputable def ref04_Read_J2 (_v3 : Unit) : Option ((List UInt8) × Int) := some (([], 41))

noncomputable def ref04_Read_B2 (p_d : api_Disk) (p_at : Int) (s2 : Int) : Option ((Int) ⊕ ((List UInt8) × Int)) := if (decide (s2 < (p_d.Synced.length : Int))) then (idx p_d.Synced s2).bind fun x3 => if (x3.At == p_at) then (idx p_d.Synced s2).bind fun x4 => out (some ((x4.Data, 0))) else chk (InI64 (s2 + 1)) (some (.inl ((s2 + 1)))) else out (ref04_Read_J2 (()))

noncomputable def ref04_Read_L2 (p_d : api_Disk) (p_at : Int) (s2 : Int) : Option ((List UInt8) × Int) := loop (ref04_Read_B2 p_d p_at) s2

noncomputable def ref04_Read_J1 (p_d : api_Disk) (p_at : Int) (_v2 : Unit) : Option ((List UInt8) × Int) := ref04_Read_L2 p_d p_at (0)

noncomputable def ref04_Read_B1 (p_d : api_Disk) (p_at : Int) (s1 : Int) : Option ((Int) ⊕ ((List UInt8) × Int)) := if (decide (s1 ≥ 0)) then (idx p_d.Loose s1).bind fun x1 => if (x1.At == p_at) then (idx p_d.Loose s1).bind fun x2 => out (some ((x2.Data, 0))) else chk (InI64 (s1 - 1)) (some (.inl ((s1 - 1)))) else out (ref04_Read_J1 p_d p_at (()))

noncomputable def ref04_Read_L1 (p_d : api_Disk) (p_at : Int) (s1 : Int) : Option ((List UInt8) × Int) := loop (ref04_Read_B1 p_d p_at) s1

/-- catacombref04.Read -/
noncomputable def ref04_Read (p_d : api_Disk) (p_at : Int) : Option ((List UInt8) × Int) := if p_d.Down then some (([], 40)) else ((if (decide (p_at < 0)) then some true else some ((decide (p_at > 999)))).bind fun c1 => some c1).bind fun v1 => if v1 then some (([], 1)) else chk (InI64 ((p_d.Loose.length : Int) - 1)) (ref04_Read_L1 p_d p_at (((p_d.Loose.length : Int) - 1)))

/-- catacombref01.zag -/
noncomputable def ref01_zag (p_u : Int) : Option Int := if ((Int.tmod p_u (2)) == 1) then chk (InI64 (0 - (IntKind.i64.wrap ((quoK .u64 p_u (2)))))) (chk (InI64 ((0 - (IntKind.i64.wrap ((quoK .u64 p_u (2))))) - 1)) (some (((0 - (IntKind.i64.wrap ((quoK .u64 p_u (2))))) - 1)))) else some ((IntKind.i64.wrap ((quoK .u64 p_u (2)))))

noncomputable def ref01_ReadInt_J1 (_v1 : Unit) : Option (Int × (List UInt8) × Int) := some ((0, [], 10))

noncomputable def ref01_ReadInt_B1 (p_b : List UInt8) (s1 : Int × Int × Int) : Option ((Int × Int × Int) ⊕ (Int × (List UInt8) × Int)) := ((if (decide (s1.2.2 < (p_b.length : Int))) then some ((decide (s1.2.2 < 10))) else some false).bind fun c1 => some c1).bind fun v2 => if v2 then (idx p_b s1.2.2).bind fun x1 => ((if (s1.2.2 == 9) then (idx p_b s1.2.2).bind fun x2 => some ((decide ((x2.toNat : Int) > 1))) else some false).bind fun c2 => some c2).bind fun v3 => if v3 then out (some ((0, [], 11))) else (idx p_b s1.2.2).bind fun x3 => if (decide ((x3.toNat : Int) < 128)) then ((if (decide (s1.2.2 > 0)) then (idx p_b s1.2.2).bind fun x4 => some (((x4.toNat : Int) == 0)) else some false).bind fun c3 => some c3).bind fun v4 => if v4 then out (some ((0, [], 11))) else (ref01_zag ((IntKind.u64.wrap (s1.1 + (IntKind.u64.wrap (s1.2.1 * (((toU8 (Int.tmod ((x1.toNat : Int)) (128)))).toNat : Int))))))).bind fun x5 => chk (InI64 (s1.2.2 + 1)) (chk ((0 : Int) ≤ (s1.2.2 + 1) ∧ (s1.2.2 + 1) ≤ (p_b.length : Int)) (out (some ((x5, (p_b.drop ((s1.2.2 + 1)).toNat), 0))))) else chk (InI64 (s1.2.2 + 1)) (some (.inl (((IntKind.u64.wrap (s1.1 + (IntKind.u64.wrap (s1.2.1 * (((toU8 (Int.tmod ((x1.toNat : Int)) (128)))).toNat : Int))))), (IntKind.u64.wrap (s1.2.1 * 128)), (s1.2.2 + 1))))) else out (ref01_ReadInt_J1 (()))

noncomputable def ref01_ReadInt_L1 (p_b : List UInt8) (s1 : Int × Int × Int) : Option (Int × (List UInt8) × Int) := loop (ref01_ReadInt_B1 p_b) s1

/-- catacombref01.ReadInt -/
noncomputable def ref01_ReadInt (p_b : List UInt8) : Option (Int × (List UInt8) × Int) := ref01_ReadInt_L1 p_b ((0, 1, 0))

/-- catacombref01.count -/
noncomputable def ref01_count (p_b : List UInt8) : Option (Int × (List UInt8) × Int) := (ref01_ReadInt p_b).bind fun x1 => if (x1.2.2 != 0) then some ((0, [], x1.2.2)) else if (decide (x1.1 < 0)) then some ((0, [], 11)) else if (decide (x1.1 > (x1.2.1.length : Int))) then some ((0, [], 10)) else some ((x1.1, x1.2.1, 0))

/-- catacombref01.ReadStr -/
noncomputable def ref01_ReadStr (p_b : List UInt8) : Option ((List UInt8) × (List UInt8) × Int) := (ref01_count p_b).bind fun x1 => if (x1.2.2 != 0) then some (([], [], x1.2.2)) else chk ((0 : Int) ≤ x1.1 ∧ x1.1 ≤ (x1.2.1.length : Int)) (chk ((0 : Int) ≤ x1.1 ∧ x1.1 ≤ (x1.2.1.length : Int)) (some (((x1.2.1.take x1.1.toNat), (x1.2.1.drop x1.1.toNat), 0))))

noncomputable def ref01_ReadInts_J1 (v1 : (List UInt8) × (List Int)) : Option ((List Int) × (List UInt8) × Int) := some ((v1.2, v1.1, 0))

noncomputable def ref01_ReadInts_B1 (x1 : Int × (List UInt8) × Int) (s1 : (List UInt8) × Int × (List Int)) : Option (((List UInt8) × Int × (List Int)) ⊕ ((List Int) × (List UInt8) × Int)) := if (decide (s1.2.1 < x1.1)) then (ref01_ReadInt s1.1).bind fun x2 => if (x2.2.2 != 0) then out (some (([], [], x2.2.2))) else chk ((s1.2.2.length + ([x2.1]).length) * 8 ≤ 140737488355328) (chk (InI64 (s1.2.1 + 1)) (some (.inl ((x2.2.1, (s1.2.1 + 1), (s1.2.2 ++ [x2.1])))))) else out (ref01_ReadInts_J1 ((s1.1, s1.2.2)))

noncomputable def ref01_ReadInts_L1 (x1 : Int × (List UInt8) × Int) (s1 : (List UInt8) × Int × (List Int)) : Option ((List Int) × (List UInt8) × Int) := loop (ref01_ReadInts_B1 x1) s1

/-- catacombref01.ReadInts -/
noncomputable def ref01_ReadInts (p_b : List UInt8) : Option ((List Int) × (List UInt8) × Int) := (ref01_count p_b).bind fun x1 => if (x1.2.2 != 0) then some (([], [], x1.2.2)) else ref01_ReadInts_L1 x1 ((x1.2.1, 0, ([] : List Int)))

/-- catacombref25.parsed -/
noncomputable def ref25_parsed (p_b : List UInt8) : Option (api_Copy × Bool) := (ref01_ReadInt p_b).bind fun x1 => if (x1.2.2 != 0) then some (((⟨0, 0, [], []⟩ : api_Copy), false)) else (ref01_ReadInt x1.2.1).bind fun x2 => if (x2.2.2 != 0) then some (((⟨0, 0, [], []⟩ : api_Copy), false)) else (ref01_ReadStr x2.2.1).bind fun x3 => if (x3.2.2 != 0) then some (((⟨0, 0, [], []⟩ : api_Copy), false)) else (ref01_ReadInts x3.2.1).bind fun x4 => ((if (x4.2.2 != 0) then some true else some ((decide ((x4.2.1.length : Int) > 0)))).bind fun c1 => some c1).bind fun v1 => if v1 then some (((⟨0, 0, [], []⟩ : api_Copy), false)) else chk (x3.1.length ≤ 140737488355328) (some (((⟨x1.1, x2.1, x3.1, x4.1⟩ : api_Copy), true)))

/-- catacombref25.Get -/
noncomputable def ref25_Get (p_d : api_Disk) (p_id : Int) : Option (api_Copy × Int) := ((if (decide (p_id < 0)) then some true else some ((decide (p_id > 199)))).bind fun c1 => some c1).bind fun v1 => if v1 then some (((⟨0, 0, [], []⟩ : api_Copy), 1)) else (ref04_Read p_d p_id).bind fun x1 => if (x1.2 != 0) then some (((⟨0, 0, [], []⟩ : api_Copy), x1.2)) else if ((x1.1.length : Int) == 0) then some (((⟨0, 0, [], []⟩ : api_Copy), 41)) else if (decide ((x1.1.length : Int) < 4)) then some (((⟨0, 0, [], []⟩ : api_Copy), 251)) else chk (InI64 ((x1.1.length : Int) - 4)) (chk ((0 : Int) ≤ ((x1.1.length : Int) - 4) ∧ ((x1.1.length : Int) - 4) ≤ (x1.1.length : Int)) ((ref25_parsed ((x1.1.take (((x1.1.length : Int) - 4)).toNat))).bind fun x2 => ((if (!x2.2) then some true else (ref25_May x2.1).bind fun x3 => some ((!x3))).bind fun c2 => (if c2 then some true else some ((x2.1.Id != p_id))).bind fun c3 => (if c3 then some true else (ref25_Page x2.1).bind fun x4 => (ref02_Bytes x4 x1.1).bind fun x5 => some ((!x5))).bind fun c4 => some c4).bind fun v2 => if v2 then some (((⟨0, 0, [], []⟩ : api_Copy), 251)) else some ((x2.1, 0))))

/-- catacombref25.Lose -/
noncomputable def ref25_Lose (p_d : api_Disk) (p_id : Int) : Option (api_Disk × Int) := ((if (decide (p_id < 0)) then some true else some ((decide (p_id > 199)))).bind fun c1 => some c1).bind fun v1 => if v1 then some ((p_d, 1)) else (ref04_Read p_d p_id).bind fun x1 => if (x1.2 != 0) then some ((p_d, x1.2)) else if ((x1.1.length : Int) == 0) then some ((p_d, 41)) else (ref04_Write p_d p_id ([])).bind fun x2 => some ((x2.1, x2.2))

noncomputable def ref25_pages_J1 (_v1 : Unit) : Option Bool := some true

noncomputable def ref25_pages_B1 (p_a : List api_Page) (p_b : List api_Page) (s1 : Int) : Option ((Int) ⊕ Bool) := if (decide (s1 < (p_a.length : Int))) then ((idx p_a s1).bind fun x1 => (idx p_b s1).bind fun x2 => (if (x1.At != x2.At) then some true else (idx p_a s1).bind fun x3 => (idx p_b s1).bind fun x4 => (ref02_Bytes x3.Data x4.Data).bind fun x5 => some ((!x5))).bind fun c1 => some c1).bind fun v2 => if v2 then out (some false) else chk (InI64 (s1 + 1)) (some (.inl ((s1 + 1)))) else out (ref25_pages_J1 (()))

noncomputable def ref25_pages_L1 (p_a : List api_Page) (p_b : List api_Page) (s1 : Int) : Option Bool := loop (ref25_pages_B1 p_a p_b) s1

/-- catacombref25.pages -/
noncomputable def ref25_pages (p_a : List api_Page) (p_b : List api_Page) : Option Bool := if ((p_a.length : Int) != (p_b.length : Int)) then some false else ref25_pages_L1 p_a p_b (0)

/-- catacombref25.SameDisk -/
noncomputable def ref25_SameDisk (p_a : api_Disk) (p_b : api_Disk) : Option Bool := ((ref25_pages p_a.Synced p_b.Synced).bind fun x1 => (if x1 then (ref25_pages p_a.Loose p_b.Loose).bind fun x2 => some x2 else some false).bind fun c1 => (if c1 then some ((p_a.Down == p_b.Down)) else some false).bind fun c2 => some c2).bind fun v1 => some v1

noncomputable def ref25_Has_B1 (p_d : api_Disk) (s1 : Int × (List Int)) : Option ((Int × (List Int)) ⊕ ((List Int))) := if (decide (s1.1 < 200)) then ((ref04_Read p_d s1.1).bind fun x1 => ((if (x1.2 == 0) then some ((decide ((x1.1.length : Int) > 0))) else some false).bind fun c1 => some c1).bind fun v3 => if v3 then chk ((s1.2.length + ([s1.1]).length) * 8 ≤ 140737488355328) (some ((s1.2 ++ [s1.1]))) else some s1.2).bind fun v2 => chk (InI64 (s1.1 + 1)) (some (.inl (((s1.1 + 1), v2)))) else out (some s1.2)

noncomputable def ref25_Has_L1 (p_d : api_Disk) (s1 : Int × (List Int)) : Option ((List Int)) := loop (ref25_Has_B1 p_d) s1

/-- catacombref25.Has -/
noncomputable def ref25_Has (p_d : api_Disk) : Option ((List Int)) := (ref25_Has_L1 p_d ((0, []))).bind fun v1 => some v1

/-- catacombref25.New -/
noncomputable def ref25_New (p_id : Int) (p_ver : Int) (p_data : List UInt8) : Option api_Copy := (ref02_Blocks p_data).bind fun x1 => some ((⟨p_id, p_ver, p_data, x1⟩ : api_Copy))

/-- catacomblaw25.ChunkTells -/
noncomputable def law25_ChunkTells (p_d : api_Disk) (p_c : api_Copy) (p_id : Int) : Option Bool := (law25_head).bind fun x1 => ((law25_Great p_d).bind fun x2 => (if x2 then some true else (law25_big p_c).bind fun x3 => some x3).bind fun c1 => some c1).bind fun v1 => if v1 then some x1 else (chunk_Put p_d p_c).bind fun x4 => (ref25_Put p_d p_c).bind fun x5 => (chunk_Get p_d p_id).bind fun x6 => (ref25_Get p_d p_id).bind fun x7 => (chunk_Lose p_d p_id).bind fun x8 => (ref25_Lose p_d p_id).bind fun x9 => ((if x1 then some ((x4.2 == x5.2)) else some false).bind fun c2 => (if c2 then (ref25_SameDisk x4.1 x5.1).bind fun x10 => some x10 else some false).bind fun c3 => (if c3 then some ((x6.2 == x7.2)) else some false).bind fun c4 => (if c4 then (ref25_Same x6.1 x7.1).bind fun x11 => some x11 else some false).bind fun c5 => (if c5 then some ((x8.2 == x9.2)) else some false).bind fun c6 => (if c6 then (ref25_SameDisk x8.1 x9.1).bind fun x12 => some x12 else some false).bind fun c7 => (if c7 then (chunk_Has p_d).bind fun x13 => (ref25_Has p_d).bind fun x14 => (ref02_Ints x13 x14).bind fun x15 => some x15 else some false).bind fun c8 => (if c8 then (chunk_New p_id p_c.Ver p_c.Data).bind fun x16 => (ref25_New p_id p_c.Ver p_c.Data).bind fun x17 => (ref25_Same x16 x17).bind fun x18 => some x18 else some false).bind fun c9 => some c9).bind fun v2 => some v2

noncomputable def disk_laid_B1 (x1 : (List api_Page)) (s1 : Int × (List (Int × api_Page))) : Option ((Int × (List (Int × api_Page))) ⊕ ((List (Int × api_Page)))) := if (decide (s1.1 < (x1.length : Int))) then (idx x1 s1.1).bind fun x2 => chk (InI64 x2.At ∧ s1.2.length < 140737488355328) (chk (InI64 (s1.1 + 1)) (some (.inl (((s1.1 + 1), (mset x2.At x2 s1.2)))))) else out (some s1.2)

noncomputable def disk_laid_L1 (x1 : (List api_Page)) (s1 : Int × (List (Int × api_Page))) : Option ((List (Int × api_Page))) := loop (disk_laid_B1 x1) s1

noncomputable def disk_laid_B2 (x3 : List Int) (v1 : (List (Int × api_Page))) (s2 : Int × (List api_Page)) : Option ((Int × (List api_Page)) ⊕ ((List api_Page))) := if (decide (s2.1 < (x3.length : Int))) then (idx x3 s2.1).bind fun x4 => (some ((mget x4 v1).getD ((⟨0, []⟩ : api_Page) : api_Page))).bind fun x5 => chk ((s2.2.length + ([x5]).length) * 32 ≤ 140737488355328) (chk (InI64 (s2.1 + 1)) (some (.inl (((s2.1 + 1), (s2.2 ++ [x5])))))) else out (some s2.2)

noncomputable def disk_laid_L2 (x3 : List Int) (v1 : (List (Int × api_Page))) (s2 : Int × (List api_Page)) : Option ((List api_Page)) := loop (disk_laid_B2 x3 v1) s2

/-- disk.laid -/
noncomputable def disk_laid (p_l : List api_Page) (p_over : List api_Page) : Option ((List api_Page)) := ((slices_Concat_api_Page_api_Page ([p_l, p_over])).bind fun x1 => disk_laid_L1 x1 ((0, ([] : List (Int × api_Page))))).bind fun v1 => (chk (v1.length * 8 ≤ 140737488355328) ((some (keysI v1)).bind fun x3 => disk_laid_L2 x3 v1 ((0, [])))).bind fun v2 => some v2

/-- disk.Sync -/
noncomputable def disk_Sync (p_d : api_Disk) : Option (api_Disk × Int) := if p_d.Down then some ((p_d, 40)) else (disk_laid p_d.Synced p_d.Loose).bind fun x1 => some (((⟨x1, [], false⟩ : api_Disk), 0))

/-- disk.Crash -/
noncomputable def disk_Crash (p_d : api_Disk) (p_keep : Int) : Option api_Disk := chk ((0 : Int) ≤ (min ((max p_keep (0))) ((p_d.Loose.length : Int))) ∧ (min ((max p_keep (0))) ((p_d.Loose.length : Int))) ≤ (p_d.Loose.length : Int)) ((disk_laid p_d.Synced ((p_d.Loose.take ((min ((max p_keep (0))) ((p_d.Loose.length : Int)))).toNat))).bind fun x1 => some ((⟨x1, [], true⟩ : api_Disk)))

/-- disk.Up -/
noncomputable def disk_Up (p_d : api_Disk) : Option api_Disk := some ((⟨p_d.Synced, p_d.Loose, false⟩ : api_Disk))

/-- catacomblaw25.ChunkSure -/
noncomputable def law25_ChunkSure (p_d : api_Disk) (p_id : UInt8) (p_ver : Int) (p_data : List UInt8) (p_later : UInt8) (p_keep : UInt8) : Option Bool := (law25_head).bind fun x1 => ((law25_Great p_d).bind fun x2 => (if x2 then some true else some p_d.Down).bind fun c1 => some c1).bind fun v1 => if v1 then some x1 else (law25_may p_id p_ver p_data).bind fun x3 => (chunk_Put p_d x3).bind fun x4 => (disk_Sync x4.1).bind fun x5 => (law25_may p_later (9) p_data).bind fun x6 => (chunk_Put x5.1 x6).bind fun x7 => ((if (x4.2 != 0) then some true else some ((x5.2 != 0))).bind fun c2 => (if c2 then some true else some ((x7.2 != 0))).bind fun c3 => some c3).bind fun v2 => if v2 then some false else (disk_Crash x7.1 ((p_keep.toNat : Int))).bind fun x8 => (disk_Up x8).bind fun x9 => (chunk_Get x9 x3.Id).bind fun x10 => ((if (x3.Id != x6.Id) then (if (x10.2 != 0) then some true else (ref25_Same x10.1 x3).bind fun x11 => some ((!x11))).bind fun c4 => some c4 else some false).bind fun c5 => some c5).bind fun v3 => if v3 then some false else (chunk_Get x9 x6.Id).bind fun x12 => (chunk_Get x5.1 x6.Id).bind fun x13 => ((if (x12.2 == 0) then (ref25_Same x12.1 x6).bind fun x14 => some x14 else some false).bind fun c6 => some c6).bind fun v4 => ((if (x12.2 == x13.2) then (ref25_Same x12.1 x13.1).bind fun x15 => some x15 else some false).bind fun c7 => some c7).bind fun v5 => ((if x1 then (if v4 then some true else some v5).bind fun c8 => some c8 else some false).bind fun c9 => (if c9 then (if (decide ((p_keep.toNat : Int) > 0)) then some true else some v5).bind fun c10 => some c10 else some false).bind fun c11 => (if c11 then (if ((p_keep.toNat : Int) == 0) then some true else some v4).bind fun c12 => some c12 else some false).bind fun c13 => some c13).bind fun v6 => some v6

/-- disk.Rot$1 -/
noncomputable def disk_Rot_1 (p_p : api_Page) (p_a1_0 : Int) : Option Bool := some ((p_p.At == p_a1_0))

noncomputable def slices_IndexFunc_api_Page_api_Page__disk_Rot_1_J1 (_v1 : Unit) : Option Int := some ((-1))

noncomputable def slices_IndexFunc_api_Page_api_Page__disk_Rot_1_B1 (p_s : List api_Page) (p_f_c0_0 : Int) (s1 : Int) : Option ((Int) ⊕ Int) := if (decide (s1 < (p_s.length : Int))) then (idx p_s s1).bind fun x1 => (disk_Rot_1 x1 p_f_c0_0).bind fun x2 => if x2 then out (some s1) else chk (InI64 (s1 + 1)) (some (.inl ((s1 + 1)))) else out (slices_IndexFunc_api_Page_api_Page__disk_Rot_1_J1 (()))

noncomputable def slices_IndexFunc_api_Page_api_Page__disk_Rot_1_L1 (p_s : List api_Page) (p_f_c0_0 : Int) (s1 : Int) : Option Int := loop (slices_IndexFunc_api_Page_api_Page__disk_Rot_1_B1 p_s p_f_c0_0) s1

/-- slices.IndexFunc[[]api.Page,api.Page] -/
noncomputable def slices_IndexFunc_api_Page_api_Page__disk_Rot_1 (p_s : List api_Page) (p_f_c0_0 : Int) : Option Int := slices_IndexFunc_api_Page_api_Page__disk_Rot_1_L1 p_s p_f_c0_0 (0)

/-- disk.find[api.Page] -/
noncomputable def disk_find_api_Page__disk_Rot_1 (p_l : List api_Page) (p_is_c0 : Int) : Option Int := (slices_IndexFunc_api_Page_api_Page__disk_Rot_1 p_l p_is_c0).bind fun x1 => some x1

/-- disk.Rot -/
noncomputable def disk_Rot (p_d : api_Disk) (p_at : Int) (p_bit : Int) : Option api_Disk := (disk_find_api_Page__disk_Rot_1 p_d.Synced p_at).bind fun x1 => ((if (decide (x1 < 0)) then some true else some ((decide (p_bit < 0)))).bind fun c1 => (if c1 then some true else (idx p_d.Synced x1).bind fun x2 => chk (InI64 (8 * (x2.Data.length : Int))) (some ((decide (p_bit ≥ (8 * (x2.Data.length : Int))))))).bind fun c2 => some c2).bind fun v1 => if v1 then some p_d else (idx p_d.Synced x1).bind fun x3 => (bytes_Clone x3.Data).bind fun x4 => (idx x4 ((quoK .i64 p_bit (8)))).bind fun x5 => chk ((0 : Int) ≤ (Int.tmod p_bit (8))) ((idx x4 ((quoK .i64 p_bit (8)))).bind fun _ => (slices_Clone_api_Page_api_Page p_d.Synced).bind fun x7 => (idx x7 x1).bind fun x8 => some ((⟨(x7.set x1.toNat (⟨x8.At, (x4.set ((quoK .i64 p_bit (8))).toNat (x5 ^^^ (toU8 (shlK .u8 (1) ((Int.tmod p_bit (8)))))))⟩ : api_Page)), p_d.Loose, p_d.Down⟩ : api_Disk)))

/-- catacomblaw25.ChunkRots -/
noncomputable def law25_ChunkRots (p_d : api_Disk) (p_id : UInt8) (p_ver : Int) (p_data : List UInt8) (p_bit : Int) : Option Bool := (law25_head).bind fun x1 => ((law25_Great p_d).bind fun x2 => (if x2 then some true else some p_d.Down).bind fun c1 => some c1).bind fun v1 => if v1 then some x1 else (law25_may p_id p_ver p_data).bind fun x3 => (chunk_Put p_d x3).bind fun x4 => (disk_Sync x4.1).bind fun x5 => (disk_Read x5.1 x3.Id).bind fun x6 => ((if (x4.2 != 0) then some true else some ((x5.2 != 0))).bind fun c2 => (if c2 then some true else some ((x6.2 != 0))).bind fun c3 => (if c3 then some true else some (((x6.1.length : Int) == 0))).bind fun c4 => some c4).bind fun v2 => if v2 then some false else chk (InI64 (8 * (x6.1.length : Int))) (chk ((8 * (x6.1.length : Int)) ≠ 0) ((disk_Rot x5.1 x3.Id ((Int.tmod ((IntKind.i64.wrap p_bit)) ((8 * (x6.1.length : Int)))))).bind fun x7 => (chunk_Get x7 x3.Id).bind fun x8 => (chunk_Put x7 x3).bind fun x9 => (chunk_Get x9.1 x3.Id).bind fun x10 => ((if x1 then some ((x8.2 == 251)) else some false).bind fun c5 => (if c5 then (chunk_Has x7).bind fun x11 => (law25_has x11 x3.Id).bind fun x12 => some x12 else some false).bind fun c6 => (if c6 then some ((x9.2 == 0)) else some false).bind fun c7 => (if c7 then some ((x10.2 == 0)) else some false).bind fun c8 => (if c8 then (ref25_Same x10.1 x3).bind fun x13 => some x13 else some false).bind fun c9 => some c9).bind fun v3 => some v3))
end Go.Proofs
