/- The plain programs of this seat. No condition. -/
import Derived.Test.YtopkpflbhhhdfaaGreatCatP1
namespace Go.Proofs
set_option linter.all false
open Go Go.Cat

structure api_Named where
  Ino : Int
  Shot : Int
  Page : Int
  Id : Int


structure api_Room where
  Id : Int
  Ino : Int
  Client : Int


structure api_Span where
  From : Int
  To : Int


structure api_Lease where
  Client : Int
  Ino : Int
  Kind : Int
  Span : api_Span
  Until : Int
  Epoch : Int


structure api_Page where
  At : Int
  Data : List UInt8


structure api_Disk where
  Synced : List api_Page
  Loose : List api_Page
  Down : Bool


structure law29_Set where
  Named : List api_Named
  Rooms : List api_Room
  Leases : List api_Lease
  Disks : List api_Disk


/-- disk.New -/
noncomputable def disk_New : Option api_Disk := some ((⟨[], [], false⟩ : api_Disk))

structure api_Copy where
  Id : Int
  Ver : Int
  Data : List UInt8
  Sums : List Int


/-- slices.Clone[[]byte,byte] -/
noncomputable def slices_Clone_byte_byte (p_s : List UInt8) : Option ((List UInt8)) := anyOf (fun b1 => b1 = true → p_s = []) fun b1 => if b1 then some ([]) else chk (((([] : List UInt8)).length + p_s.length) * 1 ≤ 140737488355328) (some ((([] : List UInt8) ++ p_s)))

/-- sum.half$1 -/
noncomputable def sum_half_1 (p_c : Int) : Option Int := if ((andK .u32 p_c (1)) == 1) then some ((xorK .u32 ((shrK .u32 p_c (1))) (2197175160))) else some ((shrK .u32 p_c (1)))

noncomputable def sum_half_B2 (s2 : Int × Int) : Option ((Int × Int) ⊕ Int) := if (decide (s2.2 < 4)) then (sum_half_1 s2.1).bind fun x1 => chk (InI64 (s2.2 + 1)) (some (.inl ((x1, (s2.2 + 1))))) else out (some s2.1)

noncomputable def sum_half_L2 (s2 : Int × Int) : Option Int := loop (sum_half_B2) s2

noncomputable def sum_half_B1 (s1 : Int × (List Int)) : Option ((Int × (List Int)) ⊕ ((List Int))) := if (decide (s1.1 < 16)) then ((sum_half_L2 (((IntKind.u32.wrap s1.1), 0))).bind fun v3 => (idx s1.2 s1.1).bind fun _ => chk (s1.1 < 16) (some ((s1.2.set s1.1.toNat v3)))).bind fun v2 => chk (InI64 (s1.1 + 1)) (some (.inl (((s1.1 + 1), v2)))) else out (some s1.2)

noncomputable def sum_half_L1 (s1 : Int × (List Int)) : Option ((List Int)) := loop (sum_half_B1) s1

/-- sum.half -/
noncomputable def sum_half : Option ((List Int)) := (sum_half_L1 ((0, (List.replicate 16 0)))).bind fun v1 => chk (v1.length = 16) (chk (v1.length = 16) (chk (v1.length = 16) (some v1)))

noncomputable def sum_of_B1 (p_b : List UInt8) (p_t : List Int) (s1 : Int × Int) : Option ((Int × Int) ⊕ Int) := if (decide (s1.2 < (p_b.length : Int))) then (idx p_b s1.2).bind fun x1 => (idx p_t ((andK .u32 ((xorK .u32 s1.1 ((x1.toNat : Int)))) (15)))).bind fun x2 => chk ((andK .u32 ((xorK .u32 s1.1 ((x1.toNat : Int)))) (15)) < 16) ((idx p_t ((andK .u32 ((xorK .u32 x2 ((shrK .u32 ((xorK .u32 s1.1 ((x1.toNat : Int)))) (4))))) (15)))).bind fun x3 => chk ((andK .u32 ((xorK .u32 x2 ((shrK .u32 ((xorK .u32 s1.1 ((x1.toNat : Int)))) (4))))) (15)) < 16) (chk (InI64 (s1.2 + 1)) (some (.inl (((xorK .u32 x3 ((shrK .u32 ((xorK .u32 x2 ((shrK .u32 ((xorK .u32 s1.1 ((x1.toNat : Int)))) (4))))) (4)))), (s1.2 + 1))))))) else out (some s1.1)

noncomputable def sum_of_L1 (p_b : List UInt8) (p_t : List Int) (s1 : Int × Int) : Option Int := loop (sum_of_B1 p_b p_t) s1

/-- sum.of -/
noncomputable def sum_of (p_t : List Int) (p_b : List UInt8) : Option Int := (sum_of_L1 p_b p_t ((4294967295, 0))).bind fun v1 => some ((IntKind.i64.wrap ((xorK .u32 v1 (4294967295)))))

noncomputable def sum_Blocks_B1 (x1 : (List Int)) (s1 : (List UInt8) × (List Int)) : Option (((List UInt8) × (List Int)) ⊕ ((List Int))) := if (decide ((s1.1.length : Int) > 0)) then chk (x1.length = 16) (chk ((0 : Int) ≤ (min ((s1.1.length : Int)) (16)) ∧ (min ((s1.1.length : Int)) (16)) ≤ (s1.1.length : Int)) ((sum_of x1 ((s1.1.take ((min ((s1.1.length : Int)) (16))).toNat))).bind fun x2 => chk ((s1.2.length + ([x2]).length) * 8 ≤ 140737488355328) (chk ((0 : Int) ≤ (min ((s1.1.length : Int)) (16)) ∧ (min ((s1.1.length : Int)) (16)) ≤ (s1.1.length : Int)) (some (.inl (((s1.1.drop ((min ((s1.1.length : Int)) (16))).toNat), (s1.2 ++ [x2])))))))) else out (some s1.2)

noncomputable def sum_Blocks_L1 (x1 : (List Int)) (s1 : (List UInt8) × (List Int)) : Option ((List Int)) := loop (sum_Blocks_B1 x1) s1

/-- sum.Blocks -/
noncomputable def sum_Blocks (p_data : List UInt8) : Option ((List Int)) := (sum_half).bind fun x1 => chk (x1.length = 16) ((sum_Blocks_L1 x1 ((p_data, []))).bind fun v1 => some v1)

/-- chunk.New -/
noncomputable def chunk_New (p_id : Int) (p_ver : Int) (p_data : List UInt8) : Option api_Copy := (slices_Clone_byte_byte p_data).bind fun x1 => (sum_Blocks p_data).bind fun x2 => some ((⟨p_id, p_ver, x1, x2⟩ : api_Copy))

/-- chunk.within -/
noncomputable def chunk_within (p_id : Int) : Option Bool := ((if (decide (p_id ≥ 0)) then some ((decide (p_id < 200))) else some false).bind fun c1 => some c1).bind fun v1 => some v1

noncomputable def sum_Check_J1 (x1 : (List Int)) (p_sums : List Int) (_v1 : Unit) : Option Int := if ((x1.length : Int) != (p_sums.length : Int)) then some ((min ((x1.length : Int)) ((p_sums.length : Int)))) else some ((-1))

noncomputable def sum_Check_B1 (x1 : (List Int)) (p_sums : List Int) (s1 : Int) : Option ((Int) ⊕ Int) := if (decide (s1 < (min ((x1.length : Int)) ((p_sums.length : Int))))) then (idx x1 s1).bind fun x2 => (idx p_sums s1).bind fun x3 => if (x2 != x3) then out (some s1) else chk (InI64 (s1 + 1)) (some (.inl ((s1 + 1)))) else out (sum_Check_J1 x1 p_sums (()))

noncomputable def sum_Check_L1 (x1 : (List Int)) (p_sums : List Int) (s1 : Int) : Option Int := loop (sum_Check_B1 x1 p_sums) s1

/-- sum.Check -/
noncomputable def sum_Check (p_data : List UInt8) (p_sums : List Int) : Option Int := (sum_Blocks p_data).bind fun x1 => sum_Check_L1 x1 p_sums (0)

/-- chunk.may -/
noncomputable def chunk_may (p_c : api_Copy) : Option Bool := ((chunk_within p_c.Id).bind fun x1 => (if x1 then some ((decide (p_c.Ver ≥ 0))) else some false).bind fun c1 => (if c1 then some ((decide (p_c.Ver ≤ 1099511627776))) else some false).bind fun c2 => (if c2 then some ((decide ((p_c.Data.length : Int) ≤ 64))) else some false).bind fun c3 => (if c3 then (sum_Check p_c.Data p_c.Sums).bind fun x2 => some ((x2 == (-1))) else some false).bind fun c4 => some c4).bind fun v1 => some v1

noncomputable def pack_Int_B1 (s1 : Int × (List UInt8)) : Option ((Int × (List UInt8)) ⊕ (Int × (List UInt8))) := if (decide (s1.1 ≥ 128)) then chk ((s1.2.length + ([((toU8 s1.1) ||| (128 : UInt8))]).length) * 1 ≤ 140737488355328) (some (.inl (((shrK .u64 s1.1 (7)), (s1.2 ++ [((toU8 s1.1) ||| (128 : UInt8))]))))) else out (some ((s1.1, s1.2)))

noncomputable def pack_Int_L1 (s1 : Int × (List UInt8)) : Option (Int × (List UInt8)) := loop (pack_Int_B1) s1

/-- pack.Int -/
noncomputable def pack_Int (p_n : Int) : Option ((List UInt8)) := (pack_Int_L1 (((xorK .u64 ((shlK .u64 ((IntKind.u64.wrap p_n)) (1))) ((IntKind.u64.wrap ((shrK .i64 p_n (63)))))), []))).bind fun v1 => chk ((v1.2.length + ([(toU8 v1.1)]).length) * 1 ≤ 140737488355328) (some ((v1.2 ++ [(toU8 v1.1)])))

/-- pack.Str -/
noncomputable def pack_Str (p_s : List UInt8) : Option ((List UInt8)) := (pack_Int ((p_s.length : Int))).bind fun x1 => chk ((x1.length + p_s.length) * 1 ≤ 140737488355328) (some ((x1 ++ p_s)))

noncomputable def pack_numbers_B1 (p_l : List Int) (s1 : Int × (List UInt8)) : Option ((Int × (List UInt8)) ⊕ ((List UInt8))) := if (decide (s1.1 < (p_l.length : Int))) then (idx p_l s1.1).bind fun x1 => (pack_Int x1).bind fun x2 => chk ((s1.2.length + x2.length) * 1 ≤ 140737488355328) (chk (InI64 (s1.1 + 1)) (some (.inl (((s1.1 + 1), (s1.2 ++ x2)))))) else out (some s1.2)

noncomputable def pack_numbers_L1 (p_l : List Int) (s1 : Int × (List UInt8)) : Option ((List UInt8)) := loop (pack_numbers_B1 p_l) s1

/-- pack.numbers -/
noncomputable def pack_numbers (p_l : List Int) : Option ((List UInt8)) := (pack_numbers_L1 p_l ((0, []))).bind fun v1 => some v1

/-- pack.Ints -/
noncomputable def pack_Ints (p_l : List Int) : Option ((List UInt8)) := (pack_Int ((p_l.length : Int))).bind fun x1 => (pack_numbers p_l).bind fun x2 => chk ((x1.length + x2.length) * 1 ≤ 140737488355328) (some ((x1 ++ x2)))

/-- slices.Grow[[]byte,byte] -/
noncomputable def slices_Grow_byte_byte__nil (p_n : Int) : Option ((List UInt8)) := (if (decide (p_n < 0)) then none else some (())).bind fun _ => (chk (InI64 (p_n - 0)) (if (decide ((p_n - 0) > 0)) then chk ((0 : Int) ≤ (p_n - 0) ∧ ((p_n - 0)).toNat * 1 ≤ 140737488355328) (chk ((0 : Int) ≤ 0 ∧ 0 ≤ (((List.replicate ((p_n - 0)).toNat ((0 : UInt8)))).length : Int)) (some ((((List.replicate ((p_n - 0)).toNat ((0 : UInt8)))).take (0 : Int).toNat)))) else some ([]))).bind fun v2 => some v2

noncomputable def slices_Concat_byte_byte_B1 (p_slices : List (List UInt8)) (s1 : Int × Int) : Option ((Int × Int) ⊕ Int) := if (decide (s1.2 < (p_slices.length : Int))) then ((idx p_slices s1.2).bind fun x1 => chk (InI64 (s1.1 + (x1.length : Int))) (if (decide ((s1.1 + (x1.length : Int)) < 0)) then none else some ((s1.1 + (x1.length : Int))))).bind fun v2 => chk (InI64 (s1.2 + 1)) (some (.inl ((v2, (s1.2 + 1))))) else out (some s1.1)

noncomputable def slices_Concat_byte_byte_L1 (p_slices : List (List UInt8)) (s1 : Int × Int) : Option Int := loop (slices_Concat_byte_byte_B1 p_slices) s1

noncomputable def slices_Concat_byte_byte_B2 (p_slices : List (List UInt8)) (s2 : Int × (List UInt8)) : Option ((Int × (List UInt8)) ⊕ ((List UInt8))) := if (decide (s2.1 < (p_slices.length : Int))) then (idx p_slices s2.1).bind fun x3 => chk ((s2.2.length + x3.length) * 1 ≤ 140737488355328) (chk (InI64 (s2.1 + 1)) (some (.inl (((s2.1 + 1), (s2.2 ++ x3)))))) else out (some s2.2)

noncomputable def slices_Concat_byte_byte_L2 (p_slices : List (List UInt8)) (s2 : Int × (List UInt8)) : Option ((List UInt8)) := loop (slices_Concat_byte_byte_B2 p_slices) s2

/-- slices.Concat[[]byte,byte] -/
noncomputable def slices_Concat_byte_byte (p_slices : List (List UInt8)) : Option ((List UInt8)) := (slices_Concat_byte_byte_L1 p_slices ((0, 0))).bind fun v1 => (slices_Grow_byte_byte__nil v1).bind fun x2 => (slices_Concat_byte_byte_L2 p_slices ((0, x2))).bind fun v3 => some v3

/-- sum.Of -/
noncomputable def sum_Of (p_b : List UInt8) : Option Int := (sum_half).bind fun x1 => (sum_of x1 p_b).bind fun x2 => some x2

noncomputable def chunk_page_B1 (x6 : Int) (s1 : Int × (List UInt8)) : Option ((Int × (List UInt8)) ⊕ ((List UInt8))) := if (decide (s1.1 < 4)) then chk (InI64 (8 * s1.1)) (chk ((0 : Int) ≤ (8 * s1.1)) (chk ((s1.2.length + ([(toU8 ((shrK .i64 x6 ((8 * s1.1)))))]).length) * 1 ≤ 140737488355328) (chk (InI64 (s1.1 + 1)) (some (.inl (((s1.1 + 1), (s1.2 ++ [(toU8 ((shrK .i64 x6 ((8 * s1.1)))))])))))))) else out (some s1.2)

noncomputable def chunk_page_L1 (x6 : Int) (s1 : Int × (List UInt8)) : Option ((List UInt8)) := loop (chunk_page_B1 x6) s1

/-- chunk.page -/
noncomputable def chunk_page (p_c : api_Copy) : Option ((List UInt8)) := (pack_Int p_c.Id).bind fun x1 => (pack_Int p_c.Ver).bind fun x2 => (pack_Str p_c.Data).bind fun x3 => (pack_Ints p_c.Sums).bind fun x4 => (slices_Concat_byte_byte ([x1, x2, x3, x4])).bind fun x5 => (sum_Of x5).bind fun x6 => (chunk_page_L1 x6 ((0, x5))).bind fun v1 => some v1

/-- disk.may -/
noncomputable def disk_may (p_at : Int) (p_data : List UInt8) : Option Bool := ((if (decide (p_at ≥ 0)) then some ((decide (p_at < 1000))) else some false).bind fun c1 => (if c1 then some ((decide ((p_data.length : Int) ≤ 200))) else some false).bind fun c2 => some c2).bind fun v1 => some v1

/-- slices.Clone[[]api.Page,api.Page] -/
noncomputable def slices_Clone_api_Page_api_Page (p_s : List api_Page) : Option ((List api_Page)) := anyOf (fun b1 => b1 = true → p_s = []) fun b1 => if b1 then some ([]) else chk (((([] : List api_Page)).length + p_s.length) * 32 ≤ 140737488355328) (some ((([] : List api_Page) ++ p_s)))

/-- bytes.Clone -/
noncomputable def bytes_Clone (p_b : List UInt8) : Option ((List UInt8)) := anyOf (fun b1 => b1 = true → p_b = []) fun b1 => if b1 then some ([]) else chk (((([] : List UInt8)).length + p_b.length) * 1 ≤ 140737488355328) (some ((([] : List UInt8) ++ p_b)))

/-- disk.Write -/
noncomputable def disk_Write (p_d : api_Disk) (p_at : Int) (p_data : List UInt8) : Option (api_Disk × Int) := if p_d.Down then some ((p_d, 40)) else (disk_may p_at p_data).bind fun x1 => if (!x1) then some ((p_d, 1)) else (slices_Clone_api_Page_api_Page p_d.Loose).bind fun x2 => (bytes_Clone p_data).bind fun x3 => chk ((x2.length + ([(⟨p_at, x3⟩ : api_Page)]).length) * 32 ≤ 140737488355328) (some (((⟨p_d.Synced, (x2 ++ [(⟨p_at, x3⟩ : api_Page)]), p_d.Down⟩ : api_Disk), 0)))

/-- chunk.Put -/
noncomputable def chunk_Put (p_d : api_Disk) (p_c : api_Copy) : Option (api_Disk × Int) := (chunk_may p_c).bind fun x1 => if (!x1) then some ((p_d, 1)) else (chunk_page p_c).bind fun x2 => (disk_Write p_d p_c.Id x2).bind fun x3 => some ((x3.1, x3.2))

/-- slices.Grow[[]api.Page,api.Page] -/
noncomputable def slices_Grow_api_Page_api_Page__nil (p_n : Int) : Option ((List api_Page)) := (if (decide (p_n < 0)) then none else some (())).bind fun _ => (chk (InI64 (p_n - 0)) (if (decide ((p_n - 0) > 0)) then chk ((0 : Int) ≤ (p_n - 0) ∧ ((p_n - 0)).toNat * 32 ≤ 140737488355328) (chk ((0 : Int) ≤ 0 ∧ 0 ≤ (((List.replicate ((p_n - 0)).toNat (((⟨0, []⟩ : api_Page) : api_Page)))).length : Int)) (some ((((List.replicate ((p_n - 0)).toNat (((⟨0, []⟩ : api_Page) : api_Page)))).take (0 : Int).toNat)))) else some ([]))).bind fun v2 => some v2

noncomputable def slices_Concat_api_Page_api_Page_B1 (p_slices : List (List api_Page)) (s1 : Int × Int) : Option ((Int × Int) ⊕ Int) := if (decide (s1.2 < (p_slices.length : Int))) then ((idx p_slices s1.2).bind fun x1 => chk (InI64 (s1.1 + (x1.length : Int))) (if (decide ((s1.1 + (x1.length : Int)) < 0)) then none else some ((s1.1 + (x1.length : Int))))).bind fun v2 => chk (InI64 (s1.2 + 1)) (some (.inl ((v2, (s1.2 + 1))))) else out (some s1.1)

noncomputable def slices_Concat_api_Page_api_Page_L1 (p_slices : List (List api_Page)) (s1 : Int × Int) : Option Int := loop (slices_Concat_api_Page_api_Page_B1 p_slices) s1

noncomputable def slices_Concat_api_Page_api_Page_B2 (p_slices : List (List api_Page)) (s2 : Int × (List api_Page)) : Option ((Int × (List api_Page)) ⊕ ((List api_Page))) := if (decide (s2.1 < (p_slices.length : Int))) then (idx p_slices s2.1).bind fun x3 => chk ((s2.2.length + x3.length) * 32 ≤ 140737488355328) (chk (InI64 (s2.1 + 1)) (some (.inl (((s2.1 + 1), (s2.2 ++ x3)))))) else out (some s2.2)

noncomputable def slices_Concat_api_Page_api_Page_L2 (p_slices : List (List api_Page)) (s2 : Int × (List api_Page)) : Option ((List api_Page)) := loop (slices_Concat_api_Page_api_Page_B2 p_slices) s2

/-- slices.Concat[[]api.Page,api.Page] -/
noncomputable def slices_Concat_api_Page_api_Page (p_slices : List (List api_Page)) : Option ((List api_Page)) := (slices_Concat_api_Page_api_Page_L1 p_slices ((0, 0))).bind fun v1 => (slices_Grow_api_Page_api_Page__nil v1).bind fun x2 => (slices_Concat_api_Page_api_Page_L2 p_slices ((0, x2))).bind fun v3 => some v3

noncomputable def disk_laid_B1 (x1 : (List api_Page)) (s1 : Int × (List (Int × api_Page))) : Option ((Int × (List (Int × api_Page))) ⊕ ((List (Int × api_Page)))) := if (decide (s1.1 < (x1.length : Int))) then (idx x1 s1.1).bind fun x2 => chk (InI64 x2.At ∧ s1.2.length < 140737488355328) (chk (InI64 (s1.1 + 1)) (some (.inl (((s1.1 + 1), (mset x2.At x2 s1.2)))))) else out (some s1.2)

noncomputable def disk_laid_L1 (x1 : (List api_Page)) (s1 : Int × (List (Int × api_Page))) : Option ((List (Int × api_Page))) := loop (disk_laid_B1 x1) s1

noncomputable def disk_laid_B2 (x3 : List Int) (v1 : (List (Int × api_Page))) (s2 : Int × (List api_Page)) : Option ((Int × (List api_Page)) ⊕ ((List api_Page))) := if (decide (s2.1 < (x3.length : Int))) then (idx x3 s2.1).bind fun x4 => (some ((mget x4 v1).getD ((⟨0, []⟩ : api_Page) : api_Page))).bind fun x5 => chk ((s2.2.length + ([x5]).length) * 32 ≤ 140737488355328) (chk (InI64 (s2.1 + 1)) (some (.inl (((s2.1 + 1), (s2.2 ++ [x5])))))) else out (some s2.2)

noncomputable def disk_laid_L2 (x3 : List Int) (v1 : (List (Int × api_Page))) (s2 : Int × (List api_Page)) : Option ((List api_Page)) := loop (disk_laid_B2 x3 v1) s2

/-- disk.laid -/
noncomputable def disk_laid (p_l : List api_Page) (p_over : List api_Page) : Option ((List api_Page)) := ((slices_Concat_api_Page_api_Page ([p_l, p_over])).bind fun x1 => disk_laid_L1 x1 ((0, ([] : List (Int × api_Page))))).bind fun v1 => (chk (v1.length * 8 ≤ 140737488355328) ((some (keysI v1)).bind fun x3 => disk_laid_L2 x3 v1 ((0, [])))).bind fun v2 => some v2

/-- disk.Sync -/
noncomputable def disk_Sync (p_d : api_Disk) : Option (api_Disk × Int) := if p_d.Down then some ((p_d, 40)) else (disk_laid p_d.Synced p_d.Loose).bind fun x1 => some (((⟨x1, [], false⟩ : api_Disk), 0))

noncomputable def law29_on_B1 (p_l : List Int) (s1 : Int × (List api_Page) × (List api_Page) × Bool) : Option ((Int × (List api_Page) × (List api_Page) × Bool) ⊕ ((List api_Page) × (List api_Page) × Bool)) := if (decide (s1.1 < (p_l.length : Int))) then ((idx p_l s1.1).bind fun x2 => (idx p_l s1.1).bind fun x3 => (chunk_New x2 (1) ([(toU8 x3)])).bind fun x4 => (chunk_Put ((⟨s1.2.1, s1.2.2.1, s1.2.2.2⟩ : api_Disk)) x4).bind fun x5 => if (x5.2 == 0) then some ((x5.1.Synced, x5.1.Loose, x5.1.Down)) else some ((s1.2.1, s1.2.2.1, s1.2.2.2))).bind fun v2 => chk (InI64 (s1.1 + 1)) (some (.inl (((s1.1 + 1), v2.1, v2.2.1, v2.2.2)))) else out (some ((s1.2.1, s1.2.2.1, s1.2.2.2)))

noncomputable def law29_on_L1 (p_l : List Int) (s1 : Int × (List api_Page) × (List api_Page) × Bool) : Option ((List api_Page) × (List api_Page) × Bool) := loop (law29_on_B1 p_l) s1

/-- catacomblaw29.on -/
noncomputable def law29_on (p_l : List Int) : Option api_Disk := (disk_New).bind fun x1 => (law29_on_L1 p_l ((0, x1.Synced, x1.Loose, x1.Down))).bind fun v1 => (disk_Sync ((⟨v1.1, v1.2.1, v1.2.2⟩ : api_Disk))).bind fun x6 => if (x6.2 != 0) then some ((⟨v1.1, v1.2.1, v1.2.2⟩ : api_Disk)) else some x6.1

/-- sweep.open -/
noncomputable def sweep_open (p_leases : List api_Lease) (p_now : Int) : Option Unit := some (())

/-- sweep.open$1$1 -/
noncomputable def sweep_open_1_1 (p_l : api_Lease) (p_a1_0 : Int) (p_a1_1 : Int) (p_a1_2 : Int) (p_a2_0 : Int) : Option Bool := ((if (p_l.Client == p_a1_2) then some ((p_l.Ino == p_a1_1)) else some false).bind fun c1 => (if c1 then some ((p_l.Kind == 2)) else some false).bind fun c2 => (if c2 then some ((decide (p_l.Until > p_a2_0))) else some false).bind fun c3 => some c3).bind fun v1 => some v1

noncomputable def slices_IndexFunc_api_Lease_api_Lease__sweep_open_1_1_J1 (_v1 : Unit) : Option Int := some ((-1))

noncomputable def slices_IndexFunc_api_Lease_api_Lease__sweep_open_1_1_B1 (p_s : List api_Lease) (p_f_c0_0 : Int) (p_f_c0_1 : Int) (p_f_c0_2 : Int) (p_f_c1_0 : Int) (s1 : Int) : Option ((Int) ⊕ Int) := if (decide (s1 < (p_s.length : Int))) then (idx p_s s1).bind fun x1 => (sweep_open_1_1 x1 p_f_c0_0 p_f_c0_1 p_f_c0_2 p_f_c1_0).bind fun x2 => if x2 then out (some s1) else chk (InI64 (s1 + 1)) (some (.inl ((s1 + 1)))) else out (slices_IndexFunc_api_Lease_api_Lease__sweep_open_1_1_J1 (()))

noncomputable def slices_IndexFunc_api_Lease_api_Lease__sweep_open_1_1_L1 (p_s : List api_Lease) (p_f_c0_0 : Int) (p_f_c0_1 : Int) (p_f_c0_2 : Int) (p_f_c1_0 : Int) (s1 : Int) : Option Int := loop (slices_IndexFunc_api_Lease_api_Lease__sweep_open_1_1_B1 p_s p_f_c0_0 p_f_c0_1 p_f_c0_2 p_f_c1_0) s1

/-- slices.IndexFunc[[]api.Lease,api.Lease] -/
noncomputable def slices_IndexFunc_api_Lease_api_Lease__sweep_open_1_1 (p_s : List api_Lease) (p_f_c0_0 : Int) (p_f_c0_1 : Int) (p_f_c0_2 : Int) (p_f_c1_0 : Int) : Option Int := slices_IndexFunc_api_Lease_api_Lease__sweep_open_1_1_L1 p_s p_f_c0_0 p_f_c0_1 p_f_c0_2 p_f_c1_0 (0)

/-- slices.ContainsFunc[[]api.Lease,api.Lease] -/
noncomputable def slices_ContainsFunc_api_Lease_api_Lease__sweep_open_1_1 (p_s : List api_Lease) (p_f_c0 : api_Room) (p_f_c1_0 : Int) : Option Bool := (slices_IndexFunc_api_Lease_api_Lease__sweep_open_1_1 p_s p_f_c0.Id p_f_c0.Ino p_f_c0.Client p_f_c1_0).bind fun x1 => some ((decide (x1 ≥ 0)))

noncomputable def slices_IndexFunc_api_Lease_api_Lease__sweep_open_1_1_2_J1 (_v1 : Unit) : Option Int := some ((-1))

noncomputable def slices_IndexFunc_api_Lease_api_Lease__sweep_open_1_1_2_B1 (p_s : List api_Lease) (p_f_c0 : api_Room) (p_f_c1_0 : Int) (s1 : Int) : Option ((Int) ⊕ Int) := if (decide (s1 < (p_s.length : Int))) then (idx p_s s1).bind fun x1 => (sweep_open_1_1 x1 p_f_c0.Id p_f_c0.Ino p_f_c0.Client p_f_c1_0).bind fun x2 => if x2 then out (some s1) else chk (InI64 (s1 + 1)) (some (.inl ((s1 + 1)))) else out (slices_IndexFunc_api_Lease_api_Lease__sweep_open_1_1_2_J1 (()))

noncomputable def slices_IndexFunc_api_Lease_api_Lease__sweep_open_1_1_2_L1 (p_s : List api_Lease) (p_f_c0 : api_Room) (p_f_c1_0 : Int) (s1 : Int) : Option Int := loop (slices_IndexFunc_api_Lease_api_Lease__sweep_open_1_1_2_B1 p_s p_f_c0 p_f_c1_0) s1

/-- slices.IndexFunc[[]api.Lease,api.Lease] -/
noncomputable def slices_IndexFunc_api_Lease_api_Lease__sweep_open_1_1_2 (p_s : List api_Lease) (p_f_c0 : api_Room) (p_f_c1_0 : Int) : Option Int := slices_IndexFunc_api_Lease_api_Lease__sweep_open_1_1_2_L1 p_s p_f_c0 p_f_c1_0 (0)

/-- sweep.open$1$1 -/
noncomputable def sweep_open_1_1_2 (p_l : api_Lease) (p_a1 : api_Room) (p_a2_0 : Int) : Option Bool := ((if (p_l.Client == p_a1.Client) then some ((p_l.Ino == p_a1.Ino)) else some false).bind fun c1 => (if c1 then some ((p_l.Kind == 2)) else some false).bind fun c2 => (if c2 then some ((decide (p_l.Until > p_a2_0))) else some false).bind fun c3 => some c3).bind fun v1 => some v1

/-- sweep.open$1$1 -/
noncomputable def sweep_open_1_1_3 (p_l : api_Lease) (p_a2_0 : Int) (p_b0 : api_Room) : Option Bool := ((if (p_l.Client == p_b0.Client) then some ((p_l.Ino == p_b0.Ino)) else some false).bind fun c1 => (if c1 then some ((p_l.Kind == 2)) else some false).bind fun c2 => (if c2 then some ((decide (p_l.Until > p_a2_0))) else some false).bind fun c3 => some c3).bind fun v1 => some v1

noncomputable def slices_IndexFunc_api_Lease_api_Lease__sweep_open_1_1_3_J1 (_v1 : Unit) : Option Int := some ((-1))

noncomputable def slices_IndexFunc_api_Lease_api_Lease__sweep_open_1_1_3_B1 (p_s : List api_Lease) (p_f_c1_0 : Int) (p_b0 : api_Room) (s1 : Int) : Option ((Int) ⊕ Int) := if (decide (s1 < (p_s.length : Int))) then (idx p_s s1).bind fun x1 => (sweep_open_1_1_3 x1 p_f_c1_0 p_b0).bind fun x3 => if x3 then out (some s1) else chk (InI64 (s1 + 1)) (some (.inl ((s1 + 1)))) else out (slices_IndexFunc_api_Lease_api_Lease__sweep_open_1_1_3_J1 (()))

noncomputable def slices_IndexFunc_api_Lease_api_Lease__sweep_open_1_1_3_L1 (p_s : List api_Lease) (p_f_c1_0 : Int) (p_b0 : api_Room) (s1 : Int) : Option Int := loop (slices_IndexFunc_api_Lease_api_Lease__sweep_open_1_1_3_B1 p_s p_f_c1_0 p_b0) s1

/-- slices.IndexFunc[[]api.Lease,api.Lease] -/
noncomputable def slices_IndexFunc_api_Lease_api_Lease__sweep_open_1_1_3 (p_s : List api_Lease) (p_f_c1_0 : Int) (p_b0 : api_Room) : Option Int := slices_IndexFunc_api_Lease_api_Lease__sweep_open_1_1_3_L1 p_s p_f_c1_0 p_b0 (0)

/-- slices.ContainsFunc[[]api.Lease,api.Lease] -/
noncomputable def slices_ContainsFunc_api_Lease_api_Lease__sweep_open_1_1_2 (p_s : List api_Lease) (p_f_c1_0 : Int) (p_b0 : api_Room) : Option Bool := (slices_IndexFunc_api_Lease_api_Lease__sweep_open_1_1_3 p_s p_f_c1_0 p_b0).bind fun x2 => some ((decide (x2 ≥ 0)))

/-- sweep.open$1 -/
noncomputable def sweep_open_1 (p_r : api_Room) (p_a1 : List api_Lease) (p_a2 : Int) : Option Bool := (slices_ContainsFunc_api_Lease_api_Lease__sweep_open_1_1_2 p_a1 p_a2 p_r).bind fun x2 => some x2

noncomputable def sweep_kept__sweep_open_1_B1 (p_named : List api_Named) (s1 : Int × (List (Int × Bool))) : Option ((Int × (List (Int × Bool))) ⊕ ((List (Int × Bool)))) := if (decide (s1.1 < (p_named.length : Int))) then (idx p_named s1.1).bind fun x1 => chk (InI64 x1.Id ∧ s1.2.length < 140737488355328) (chk (InI64 (s1.1 + 1)) (some (.inl (((s1.1 + 1), (mset x1.Id true s1.2)))))) else out (some s1.2)

noncomputable def sweep_kept__sweep_open_1_L1 (p_named : List api_Named) (s1 : Int × (List (Int × Bool))) : Option ((List (Int × Bool))) := loop (sweep_kept__sweep_open_1_B1 p_named) s1

noncomputable def sweep_kept__sweep_open_1_B2 (p_rooms : List api_Room) (p_b0 : List api_Lease) (p_b1 : Int) (s2 : Int × (List (Int × Bool))) : Option ((Int × (List (Int × Bool))) ⊕ ((List (Int × Bool)))) := if (decide (s2.1 < (p_rooms.length : Int))) then ((idx p_rooms s2.1).bind fun x2 => (sweep_open_1 x2 p_b0 p_b1).bind fun x3 => if x3 then chk (InI64 x2.Id ∧ s2.2.length < 140737488355328) (some ((mset x2.Id true s2.2))) else some s2.2).bind fun v3 => chk (InI64 (s2.1 + 1)) (some (.inl (((s2.1 + 1), v3)))) else out (some s2.2)

noncomputable def sweep_kept__sweep_open_1_L2 (p_rooms : List api_Room) (p_b0 : List api_Lease) (p_b1 : Int) (s2 : Int × (List (Int × Bool))) : Option ((List (Int × Bool))) := loop (sweep_kept__sweep_open_1_B2 p_rooms p_b0 p_b1) s2

/-- sweep.kept -/
noncomputable def sweep_kept__sweep_open_1 (p_named : List api_Named) (p_rooms : List api_Room) (p_b0 : List api_Lease) (p_b1 : Int) : Option ((List (Int × Bool))) := (sweep_kept__sweep_open_1_L1 p_named ((0, ([] : List (Int × Bool))))).bind fun v1 => (sweep_kept__sweep_open_1_L2 p_rooms p_b0 p_b1 ((0, v1))).bind fun v2 => some v2

noncomputable def slices_Reverse_api_Page_api_Page_B1 (s1 : Int × Int × (List api_Page)) : Option ((Int × Int × (List api_Page)) ⊕ (Unit × List api_Page)) := if (decide (s1.1 < s1.2.1)) then (idx s1.2.2 s1.2.1).bind fun x1 => (idx s1.2.2 s1.1).bind fun x2 => (idx s1.2.2 s1.1).bind fun _ => (idx ((s1.2.2.set s1.1.toNat x1)) s1.2.1).bind fun _ => chk (InI64 (s1.1 + 1)) (chk (InI64 (s1.2.1 - 1)) (some (.inl (((s1.1 + 1), (s1.2.1 - 1), (((s1.2.2.set s1.1.toNat x1)).set s1.2.1.toNat x2)))))) else out (some ((), s1.2.2))

noncomputable def slices_Reverse_api_Page_api_Page_L1 (s1 : Int × Int × (List api_Page)) : Option (Unit × List api_Page) := loop (slices_Reverse_api_Page_api_Page_B1) s1

/-- slices.Reverse[[]api.Page,api.Page] -/
noncomputable def slices_Reverse_api_Page_api_Page (self : List api_Page) : Option (Unit × List api_Page) := chk (InI64 ((self.length : Int) - 1)) (slices_Reverse_api_Page_api_Page_L1 ((0, ((self.length : Int) - 1), self)))

/-- disk.Read$1 -/
noncomputable def disk_Read_1 (p_p : api_Page) (p_a1_0 : Int) : Option Bool := some ((p_p.At == p_a1_0))

noncomputable def slices_IndexFunc_api_Page_api_Page__disk_Read_1_J1 (_v1 : Unit) : Option Int := some ((-1))

noncomputable def slices_IndexFunc_api_Page_api_Page__disk_Read_1_B1 (p_s : List api_Page) (p_f_c0_0 : Int) (s1 : Int) : Option ((Int) ⊕ Int) := if (decide (s1 < (p_s.length : Int))) then (idx p_s s1).bind fun x1 => (disk_Read_1 x1 p_f_c0_0).bind fun x2 => if x2 then out (some s1) else chk (InI64 (s1 + 1)) (some (.inl ((s1 + 1)))) else out (slices_IndexFunc_api_Page_api_Page__disk_Read_1_J1 (()))

noncomputable def slices_IndexFunc_api_Page_api_Page__disk_Read_1_L1 (p_s : List api_Page) (p_f_c0_0 : Int) (s1 : Int) : Option Int := loop (slices_IndexFunc_api_Page_api_Page__disk_Read_1_B1 p_s p_f_c0_0) s1

/-- slices.IndexFunc[[]api.Page,api.Page] -/
noncomputable def slices_IndexFunc_api_Page_api_Page__disk_Read_1 (p_s : List api_Page) (p_f_c0_0 : Int) : Option Int := slices_IndexFunc_api_Page_api_Page__disk_Read_1_L1 p_s p_f_c0_0 (0)

/-- disk.find[api.Page] -/
noncomputable def disk_find_api_Page__disk_Read_1 (p_l : List api_Page) (p_is_c0 : Int) : Option Int := (slices_IndexFunc_api_Page_api_Page__disk_Read_1 p_l p_is_c0).bind fun x1 => some x1

/-- disk.Read -/
noncomputable def disk_Read (p_d : api_Disk) (p_at : Int) : Option ((List UInt8) × Int) := if p_d.Down then some (([], 40)) else (disk_may p_at ([])).bind fun x1 => if (!x1) then some (([], 1)) else (slices_Concat_api_Page_api_Page ([p_d.Synced, p_d.Loose])).bind fun x2 => (slices_Reverse_api_Page_api_Page x2).bind fun x3 => (disk_find_api_Page__disk_Read_1 x3.2 p_at).bind fun x4 => if (decide (x4 < 0)) then some (([], 41)) else (idx x3.2 x4).bind fun x5 => (bytes_Clone x5.Data).bind fun x6 => some ((x6, 0))

/-- chunk.there -/
noncomputable def chunk_there (p_d : api_Disk) (p_id : Int) : Option ((List UInt8) × Int) := (chunk_within p_id).bind fun x1 => if (!x1) then some (([], 1)) else (disk_Read p_d p_id).bind fun x2 => ((if (x2.2 == 0) then some (((x2.1.length : Int) == 0)) else some false).bind fun c1 => some c1).bind fun v1 => if v1 then some (([], 41)) else some ((x2.1, x2.2))

noncomputable def chunk_Has_B1 (p_d : api_Disk) (s1 : Int × (List Int)) : Option ((Int × (List Int)) ⊕ ((List Int))) := if (decide (s1.1 < 200)) then ((chunk_there p_d s1.1).bind fun x1 => if (x1.2 == 0) then chk ((s1.2.length + ([s1.1]).length) * 8 ≤ 140737488355328) (some ((s1.2 ++ [s1.1]))) else some s1.2).bind fun v2 => chk (InI64 (s1.1 + 1)) (some (.inl (((s1.1 + 1), v2)))) else out (some s1.2)

noncomputable def chunk_Has_L1 (p_d : api_Disk) (s1 : Int × (List Int)) : Option ((List Int)) := loop (chunk_Has_B1 p_d) s1

/-- chunk.Has -/
noncomputable def chunk_Has (p_d : api_Disk) : Option ((List Int)) := (chunk_Has_L1 p_d ((0, []))).bind fun v1 => some v1

noncomputable def sweep_Gone_B2 (x4 : (List Int)) (x2 : (List (Int × Bool))) (s2 : Int × (List (Int × Bool))) : Option ((Int × (List (Int × Bool))) ⊕ ((List (Int × Bool)))) := if (decide (s2.1 < (x4.length : Int))) then ((idx x4 s2.1).bind fun x5 => (some ((mget x5 x2).getD (false : Bool))).bind fun x6 => if (!x6) then chk (InI64 x5 ∧ s2.2.length < 140737488355328) (some ((mset x5 true s2.2))) else some s2.2).bind fun v3 => chk (InI64 (s2.1 + 1)) (some (.inl (((s2.1 + 1), v3)))) else out (some s2.2)

noncomputable def sweep_Gone_L2 (x4 : (List Int)) (x2 : (List (Int × Bool))) (s2 : Int × (List (Int × Bool))) : Option ((List (Int × Bool))) := loop (sweep_Gone_B2 x4 x2) s2

noncomputable def sweep_Gone_B1 (p_disks : List api_Disk) (x2 : (List (Int × Bool))) (s1 : Int × (List (Int × Bool))) : Option ((Int × (List (Int × Bool))) ⊕ ((List (Int × Bool)))) := if (decide (s1.1 < (p_disks.length : Int))) then ((idx p_disks s1.1).bind fun x3 => (chunk_Has x3).bind fun x4 => sweep_Gone_L2 x4 x2 ((0, s1.2))).bind fun v2 => chk (InI64 (s1.1 + 1)) (some (.inl (((s1.1 + 1), v2)))) else out (some s1.2)

noncomputable def sweep_Gone_L1 (p_disks : List api_Disk) (x2 : (List (Int × Bool))) (s1 : Int × (List (Int × Bool))) : Option ((List (Int × Bool))) := loop (sweep_Gone_B1 p_disks x2) s1

/-- sweep.Gone -/
noncomputable def sweep_Gone (p_named : List api_Named) (p_rooms : List api_Room) (p_leases : List api_Lease) (p_now : Int) (p_disks : List api_Disk) : Option ((List Int)) := (sweep_open p_leases p_now).bind fun _ => (sweep_kept__sweep_open_1 p_named p_rooms p_leases p_now).bind fun x2 => (sweep_Gone_L1 p_disks x2 ((0, ([] : List (Int × Bool))))).bind fun v1 => chk (v1.length * 8 ≤ 140737488355328) ((some (keysI v1)).bind fun x7 => some x7)

/-- chunk.Lose -/
noncomputable def chunk_Lose (p_d : api_Disk) (p_id : Int) : Option (api_Disk × Int) := (chunk_there p_d p_id).bind fun x1 => if (x1.2 != 0) then some ((p_d, x1.2)) else (disk_Write p_d p_id ([])).bind fun x2 => some ((x2.1, x2.2))

noncomputable def sweep_swept_B1 (x1 : (List Int)) (p_h0 : List (Int × Bool)) (s1 : Bool × Int × (List api_Page) × (List api_Page) × Bool) : Option ((Bool × Int × (List api_Page) × (List api_Page) × Bool) ⊕ (Bool × (List api_Page) × (List api_Page) × Bool)) := if (decide (s1.2.1 < (x1.length : Int))) then ((idx x1 s1.2.1).bind fun x2 => (some ((mget x2 p_h0).getD (false : Bool))).bind fun x3 => if x3 then (chunk_Lose ((⟨s1.2.2.1, s1.2.2.2.1, s1.2.2.2.2⟩ : api_Disk)) x2).bind fun x4 => some ((true, x4.1.Synced, x4.1.Loose, x4.1.Down)) else some ((s1.1, s1.2.2.1, s1.2.2.2.1, s1.2.2.2.2))).bind fun v2 => chk (InI64 (s1.2.1 + 1)) (some (.inl ((v2.1, (s1.2.1 + 1), v2.2.1, v2.2.2.1, v2.2.2.2)))) else out (some ((s1.1, s1.2.2.1, s1.2.2.2.1, s1.2.2.2.2)))

noncomputable def sweep_swept_L1 (x1 : (List Int)) (p_h0 : List (Int × Bool)) (s1 : Bool × Int × (List api_Page) × (List api_Page) × Bool) : Option (Bool × (List api_Page) × (List api_Page) × Bool) := loop (sweep_swept_B1 x1 p_h0) s1

/-- sweep.swept -/
noncomputable def sweep_swept (p_d : api_Disk) (p_h0 : List (Int × Bool)) : Option ((List api_Page) × (List api_Page) × Bool) := ((chunk_Has p_d).bind fun x1 => sweep_swept_L1 x1 p_h0 ((false, 0, p_d.Synced, p_d.Loose, p_d.Down))).bind fun v1 => (if v1.1 then (disk_Sync ((⟨v1.2.1, v1.2.2.1, v1.2.2.2⟩ : api_Disk))).bind fun x5 => some ((x5.1.Synced, x5.1.Loose, x5.1.Down)) else some ((v1.2.1, v1.2.2.1, v1.2.2.2))).bind fun v3 => some ((v3.1, v3.2.1, v3.2.2))

/-- slices.Clone[[]api.Room,api.Room] -/
noncomputable def slices_Clone_api_Room_api_Room (p_s : List api_Room) : Option ((List api_Room)) := anyOf (fun b1 => b1 = true → p_s = []) fun b1 => if b1 then some ([]) else chk (((([] : List api_Room)).length + p_s.length) * 24 ≤ 140737488355328) (some ((([] : List api_Room) ++ p_s)))

/-- sweep.Sweep$1 -/
noncomputable def sweep_Sweep_1 (p_r : api_Room) (p_b1 : List api_Lease) (p_b2 : Int) : Option Bool := (sweep_open_1 p_r p_b1 p_b2).bind fun x1 => some ((!x1))

noncomputable def slices_IndexFunc_api_Room_api_Room__sweep_Sweep_1_J1 (_v1 : Unit) : Option Int := some ((-1))

noncomputable def slices_IndexFunc_api_Room_api_Room__sweep_Sweep_1_B1 (p_s : List api_Room) (p_b1 : List api_Lease) (p_b2 : Int) (s1 : Int) : Option ((Int) ⊕ Int) := if (decide (s1 < (p_s.length : Int))) then (idx p_s s1).bind fun x1 => (sweep_Sweep_1 x1 p_b1 p_b2).bind fun x2 => if x2 then out (some s1) else chk (InI64 (s1 + 1)) (some (.inl ((s1 + 1)))) else out (slices_IndexFunc_api_Room_api_Room__sweep_Sweep_1_J1 (()))

noncomputable def slices_IndexFunc_api_Room_api_Room__sweep_Sweep_1_L1 (p_s : List api_Room) (p_b1 : List api_Lease) (p_b2 : Int) (s1 : Int) : Option Int := loop (slices_IndexFunc_api_Room_api_Room__sweep_Sweep_1_B1 p_s p_b1 p_b2) s1

/-- slices.IndexFunc[[]api.Room,api.Room] -/
noncomputable def slices_IndexFunc_api_Room_api_Room__sweep_Sweep_1 (p_s : List api_Room) (p_b1 : List api_Lease) (p_b2 : Int) : Option Int := slices_IndexFunc_api_Room_api_Room__sweep_Sweep_1_L1 p_s p_b1 p_b2 (0)

noncomputable def slices_IndexFunc_api_Room_api_Room__sweep_Sweep_1_2_J1 (_v1 : Unit) : Option Int := some ((-1))

noncomputable def slices_IndexFunc_api_Room_api_Room__sweep_Sweep_1_2_B1 (p_h0 : List api_Room) (p_b2 : List api_Lease) (p_b3 : Int) (s1 : Int) : Option ((Int) ⊕ Int) := if (decide (s1 < (p_h0.length : Int))) then (idx p_h0 s1).bind fun x1 => (sweep_Sweep_1 x1 p_b2 p_b3).bind fun x2 => if x2 then out (some s1) else chk (InI64 (s1 + 1)) (some (.inl ((s1 + 1)))) else out (slices_IndexFunc_api_Room_api_Room__sweep_Sweep_1_2_J1 (()))

noncomputable def slices_IndexFunc_api_Room_api_Room__sweep_Sweep_1_2_L1 (p_h0 : List api_Room) (p_b2 : List api_Lease) (p_b3 : Int) (s1 : Int) : Option Int := loop (slices_IndexFunc_api_Room_api_Room__sweep_Sweep_1_2_B1 p_h0 p_b2 p_b3) s1

/-- slices.IndexFunc[[]api.Room,api.Room] -/
noncomputable def slices_IndexFunc_api_Room_api_Room__sweep_Sweep_1_2 (p_h0 : List api_Room) (p_b2 : List api_Lease) (p_b3 : Int) : Option Int := slices_IndexFunc_api_Room_api_Room__sweep_Sweep_1_2_L1 p_h0 p_b2 p_b3 (0)

noncomputable def slices_DeleteFunc_api_Room_api_Room__sweep_Sweep_1_B1 (p_b2 : List api_Lease) (p_b3 : Int) (s1 : Int × Int × (List api_Room)) : Option ((Int × Int × (List api_Room)) ⊕ (Int × (List api_Room))) := if (decide (s1.2.1 < (s1.2.2.length : Int))) then ((idx s1.2.2 s1.2.1).bind fun x2 => (sweep_Sweep_1 x2 p_b2 p_b3).bind fun x3 => if (!x3) then (idx s1.2.2 s1.1).bind fun _ => chk (InI64 (s1.1 + 1)) (some (((s1.1 + 1), (s1.2.2.set s1.1.toNat x2)))) else some ((s1.1, s1.2.2))).bind fun v2 => chk (InI64 (s1.2.1 + 1)) (some (.inl ((v2.1, (s1.2.1 + 1), v2.2)))) else out (some ((s1.1, s1.2.2)))

noncomputable def slices_DeleteFunc_api_Room_api_Room__sweep_Sweep_1_L1 (p_b2 : List api_Lease) (p_b3 : Int) (s1 : Int × Int × (List api_Room)) : Option (Int × (List api_Room)) := loop (slices_DeleteFunc_api_Room_api_Room__sweep_Sweep_1_B1 p_b2 p_b3) s1

/-- slices.DeleteFunc[[]api.Room,api.Room] -/
noncomputable def slices_DeleteFunc_api_Room_api_Room__sweep_Sweep_1 (p_h0 : List api_Room) (p_b2 : List api_Lease) (p_b3 : Int) : Option ((List api_Room)) := (slices_IndexFunc_api_Room_api_Room__sweep_Sweep_1_2 p_h0 p_b2 p_b3).bind fun x1 => if (x1 == (-1)) then some p_h0 else (chk (InI64 (x1 + 1)) (slices_DeleteFunc_api_Room_api_Room__sweep_Sweep_1_L1 p_b2 p_b3 ((x1, (x1 + 1), p_h0)))).bind fun v1 => chk ((0 : Int) ≤ v1.1 ∧ v1.1 ≤ (v1.2.length : Int)) (chk ((0 : Int) ≤ v1.1 ∧ v1.1 ≤ (((v1.2.take (v1.1.toNat) ++ List.replicate (v1.2.length - (v1.1.toNat)) ((⟨0, 0, 0⟩ : api_Room) : api_Room))).length : Int)) (some ((((v1.2.take (v1.1.toNat) ++ List.replicate (v1.2.length - (v1.1.toNat)) ((⟨0, 0, 0⟩ : api_Room) : api_Room))).take v1.1.toNat))))

noncomputable def sweep_Sweep_B1 (x1 : (List Int)) (s1 : Int × (List (Int × Bool))) : Option ((Int × (List (Int × Bool))) ⊕ ((List (Int × Bool)))) := if (decide (s1.1 < (x1.length : Int))) then (idx x1 s1.1).bind fun x2 => chk (InI64 x2 ∧ s1.2.length < 140737488355328) (chk (InI64 (s1.1 + 1)) (some (.inl (((s1.1 + 1), (mset x2 true s1.2)))))) else out (some s1.2)

noncomputable def sweep_Sweep_L1 (x1 : (List Int)) (s1 : Int × (List (Int × Bool))) : Option ((List (Int × Bool))) := loop (sweep_Sweep_B1 x1) s1

noncomputable def sweep_Sweep_B2 (p_disks : List api_Disk) (v1 : (List (Int × Bool))) (s2 : Int × (List api_Disk)) : Option ((Int × (List api_Disk)) ⊕ ((List api_Disk))) := if (decide (s2.1 < (p_disks.length : Int))) then (idx p_disks s2.1).bind fun x3 => (sweep_swept x3 v1).bind fun x4 => chk ((s2.2.length + ([(⟨x4.1, x4.2.1, x4.2.2⟩ : api_Disk)]).length) * 56 ≤ 140737488355328) (chk (InI64 (s2.1 + 1)) (some (.inl (((s2.1 + 1), (s2.2 ++ [(⟨x4.1, x4.2.1, x4.2.2⟩ : api_Disk)])))))) else out (some s2.2)

noncomputable def sweep_Sweep_L2 (p_disks : List api_Disk) (v1 : (List (Int × Bool))) (s2 : Int × (List api_Disk)) : Option ((List api_Disk)) := loop (sweep_Sweep_B2 p_disks v1) s2

/-- sweep.Sweep -/
noncomputable def sweep_Sweep (p_named : List api_Named) (p_rooms : List api_Room) (p_leases : List api_Lease) (p_now : Int) (p_disks : List api_Disk) : Option ((List api_Disk) × (List api_Room)) := ((sweep_Gone p_named p_rooms p_leases p_now p_disks).bind fun x1 => sweep_Sweep_L1 x1 ((0, ([] : List (Int × Bool))))).bind fun v1 => (sweep_Sweep_L2 p_disks v1 ((0, []))).bind fun v2 => (sweep_open p_leases p_now).bind fun _ => (slices_Clone_api_Room_api_Room p_rooms).bind fun x6 => (slices_DeleteFunc_api_Room_api_Room__sweep_Sweep_1 x6 p_leases p_now).bind fun x7 => some ((v2, x7))

/-- sweep.Keeps -/
noncomputable def sweep_Keeps (p_named : List api_Named) (p_rooms : List api_Room) (p_leases : List api_Lease) (p_now : Int) : Option ((List Int)) := (sweep_open p_leases p_now).bind fun _ => (sweep_kept__sweep_open_1 p_named p_rooms p_leases p_now).bind fun x2 => chk (x2.length * 8 ≤ 140737488355328) ((some (keysI x2)).bind fun x3 => some x3)

noncomputable def ref02_Ints_J1 (_v1 : Unit) : Option Bool := some true

noncomputable def ref02_Ints_B1 (p_a : List Int) (p_b : List Int) (s1 : Int) : Option ((Int) ⊕ Bool) := if (decide (s1 < (p_a.length : Int))) then (idx p_a s1).bind fun x1 => (idx p_b s1).bind fun x2 => if (x1 != x2) then out (some false) else chk (InI64 (s1 + 1)) (some (.inl ((s1 + 1)))) else out (ref02_Ints_J1 (()))

noncomputable def ref02_Ints_L1 (p_a : List Int) (p_b : List Int) (s1 : Int) : Option Bool := loop (ref02_Ints_B1 p_a p_b) s1

/-- catacombref02.Ints -/
noncomputable def ref02_Ints (p_a : List Int) (p_b : List Int) : Option Bool := if ((p_a.length : Int) != (p_b.length : Int)) then some false else ref02_Ints_L1 p_a p_b (0)

noncomputable def ref29_SameRooms_J1 (_v1 : Unit) : Option Bool := some true

noncomputable def ref29_SameRooms_B1 (p_a : List api_Room) (p_b : List api_Room) (s1 : Int) : Option ((Int) ⊕ Bool) := if (decide (s1 < (p_a.length : Int))) then (idx p_a s1).bind fun x1 => (idx p_b s1).bind fun x2 => if (!(x1.Id == x2.Id && (x1.Ino == x2.Ino && (x1.Client == x2.Client && true)))) then out (some false) else chk (InI64 (s1 + 1)) (some (.inl ((s1 + 1)))) else out (ref29_SameRooms_J1 (()))

noncomputable def ref29_SameRooms_L1 (p_a : List api_Room) (p_b : List api_Room) (s1 : Int) : Option Bool := loop (ref29_SameRooms_B1 p_a p_b) s1

/-- catacombref29.SameRooms -/
noncomputable def ref29_SameRooms (p_a : List api_Room) (p_b : List api_Room) : Option Bool := if ((p_a.length : Int) != (p_b.length : Int)) then some false else ref29_SameRooms_L1 p_a p_b (0)

/-- catacomblaw29.head -/
noncomputable def law29_head : Option Bool := (law29_on ([1, 2, 3])).bind fun x1 => (law29_on ([3, 4, 5])).bind fun x2 => (sweep_Sweep ([(⟨7, 0, 0, 5⟩ : api_Named), (⟨7, 2, 0, 1⟩ : api_Named), (⟨8, 0, 1, 5⟩ : api_Named)]) ([(⟨2, 7, 3⟩ : api_Room), (⟨4, 7, 4⟩ : api_Room)]) ([(⟨3, 7, 2, (⟨0, 0⟩ : api_Span), 9, 0⟩ : api_Lease), (⟨4, 7, 1, (⟨0, 0⟩ : api_Span), 99, 0⟩ : api_Lease)]) (8) ([x1, x2])).bind fun x3 => if ((x3.1.length : Int) != 2) then some false else ((sweep_Keeps ([(⟨7, 0, 0, 5⟩ : api_Named), (⟨7, 2, 0, 1⟩ : api_Named), (⟨8, 0, 1, 5⟩ : api_Named)]) ([(⟨2, 7, 3⟩ : api_Room), (⟨4, 7, 4⟩ : api_Room)]) ([(⟨3, 7, 2, (⟨0, 0⟩ : api_Span), 9, 0⟩ : api_Lease), (⟨4, 7, 1, (⟨0, 0⟩ : api_Span), 99, 0⟩ : api_Lease)]) (8)).bind fun x4 => (ref02_Ints x4 ([1, 2, 5])).bind fun x5 => (if x5 then (sweep_Keeps ([(⟨7, 0, 0, 5⟩ : api_Named), (⟨7, 2, 0, 1⟩ : api_Named), (⟨8, 0, 1, 5⟩ : api_Named)]) ([(⟨2, 7, 3⟩ : api_Room), (⟨4, 7, 4⟩ : api_Room)]) ([(⟨3, 7, 2, (⟨0, 0⟩ : api_Span), 9, 0⟩ : api_Lease), (⟨4, 7, 1, (⟨0, 0⟩ : api_Span), 99, 0⟩ : api_Lease)]) (9)).bind fun x6 => (ref02_Ints x6 ([1, 5])).bind fun x7 => some x7 else some false).bind fun c1 => (if c1 then (sweep_Gone ([(⟨7, 0, 0, 5⟩ : api_Named), (⟨7, 2, 0, 1⟩ : api_Named), (⟨8, 0, 1, 5⟩ : api_Named)]) ([(⟨2, 7, 3⟩ : api_Room), (⟨4, 7, 4⟩ : api_Room)]) ([(⟨3, 7, 2, (⟨0, 0⟩ : api_Span), 9, 0⟩ : api_Lease), (⟨4, 7, 1, (⟨0, 0⟩ : api_Span), 99, 0⟩ : api_Lease)]) (8) ([x1, x2])).bind fun x8 => (ref02_Ints x8 ([3, 4])).bind fun x9 => some x9 else some false).bind fun c2 => (if c2 then (idx x3.1 (0)).bind fun x10 => (chunk_Has x10).bind fun x11 => (ref02_Ints x11 ([1, 2])).bind fun x12 => some x12 else some false).bind fun c3 => (if c3 then (idx x3.1 (1)).bind fun x13 => (chunk_Has x13).bind fun x14 => (ref02_Ints x14 ([5])).bind fun x15 => some x15 else some false).bind fun c4 => (if c4 then (ref29_SameRooms x3.2 ([(⟨2, 7, 3⟩ : api_Room)])).bind fun x16 => some x16 else some false).bind fun c5 => (if c5 then (idx x3.1 (0)).bind fun x17 => some (((x17.Loose.length : Int) == 0)) else some false).bind fun c6 => some c6).bind fun v1 => some v1

structure api_Chain where
  Id : Int
  Ver : Int
  Servers : List Int


/-- catacombref04.Page -/
noncomputable def ref04_Page (p_p : api_Page) : Option Bool := ((if (decide (p_p.At ≥ 0)) then some ((decide (p_p.At ≤ 999))) else some false).bind fun c1 => (if c1 then some ((decide ((p_p.Data.length : Int) ≤ 200))) else some false).bind fun c2 => some c2).bind fun v1 => some v1

noncomputable def ref04_Right_J2 (p_d : api_Disk) (_v3 : Unit) : Option Bool := ((if (!p_d.Down) then some true else some (((p_d.Loose.length : Int) == 0))).bind fun c3 => some c3).bind fun v4 => some v4

noncomputable def ref04_Right_B2 (p_d : api_Disk) (s2 : Int) : Option ((Int) ⊕ Bool) := if (decide (s2 < (p_d.Loose.length : Int))) then (idx p_d.Loose s2).bind fun x5 => (ref04_Page x5).bind fun x6 => if (!x6) then out (some false) else chk (InI64 (s2 + 1)) (some (.inl ((s2 + 1)))) else out (ref04_Right_J2 p_d (()))

noncomputable def ref04_Right_L2 (p_d : api_Disk) (s2 : Int) : Option Bool := loop (ref04_Right_B2 p_d) s2

noncomputable def ref04_Right_J1 (p_d : api_Disk) (_v1 : Unit) : Option Bool := ref04_Right_L2 p_d (0)

noncomputable def ref04_Right_B1 (p_d : api_Disk) (s1 : Int) : Option ((Int) ⊕ Bool) := if (decide (s1 < (p_d.Synced.length : Int))) then (idx p_d.Synced s1).bind fun x1 => (ref04_Page x1).bind fun x2 => ((if (!x2) then some true else (if (decide (s1 > 0)) then (idx p_d.Synced s1).bind fun x3 => chk (InI64 (s1 - 1)) ((idx p_d.Synced ((s1 - 1))).bind fun x4 => some ((decide (x3.At ≤ x4.At)))) else some false).bind fun c1 => some c1).bind fun c2 => some c2).bind fun v2 => if v2 then out (some false) else chk (InI64 (s1 + 1)) (some (.inl ((s1 + 1)))) else out (ref04_Right_J1 p_d (()))

noncomputable def ref04_Right_L1 (p_d : api_Disk) (s1 : Int) : Option Bool := loop (ref04_Right_B1 p_d) s1

/-- catacombref04.Right -/
noncomputable def ref04_Right (p_d : api_Disk) : Option Bool := ref04_Right_L1 p_d (0)

noncomputable def law25_Great_J2 (p_d : api_Disk) (_v3 : Unit) : Option Bool := (ref04_Right p_d).bind fun x3 => some ((!x3))

noncomputable def law25_Great_B2 (p_d : api_Disk) (s2 : Int) : Option ((Int) ⊕ Bool) := if (decide (s2 < (p_d.Loose.length : Int))) then (idx p_d.Loose s2).bind fun x2 => if (decide ((x2.Data.length : Int) > 200)) then out (some true) else chk (InI64 (s2 + 1)) (some (.inl ((s2 + 1)))) else out (law25_Great_J2 p_d (()))

noncomputable def law25_Great_L2 (p_d : api_Disk) (s2 : Int) : Option Bool := loop (law25_Great_B2 p_d) s2

noncomputable def law25_Great_J1 (p_d : api_Disk) (_v2 : Unit) : Option Bool := law25_Great_L2 p_d (0)

noncomputable def law25_Great_B1 (p_d : api_Disk) (s1 : Int) : Option ((Int) ⊕ Bool) := if (decide (s1 < (p_d.Synced.length : Int))) then (idx p_d.Synced s1).bind fun x1 => if (decide ((x1.Data.length : Int) > 200)) then out (some true) else chk (InI64 (s1 + 1)) (some (.inl ((s1 + 1)))) else out (law25_Great_J1 p_d (()))

noncomputable def law25_Great_L1 (p_d : api_Disk) (s1 : Int) : Option Bool := loop (law25_Great_B1 p_d) s1

/-- catacomblaw25.Great -/
noncomputable def law25_Great (p_d : api_Disk) : Option Bool := ((if (decide ((p_d.Synced.length : Int) > 60)) then some true else some ((decide ((p_d.Loose.length : Int) > 60)))).bind fun c1 => some c1).bind fun v1 => if v1 then some true else law25_Great_L1 p_d (0)

noncomputable def law27_Great_J2 (_v3 : Unit) : Option Bool := some false

noncomputable def law27_Great_B2 (p_l : List api_Chain) (s2 : Int) : Option ((Int) ⊕ Bool) := if (decide (s2 < (p_l.length : Int))) then (idx p_l s2).bind fun x3 => if (decide ((x3.Servers.length : Int) > 12)) then out (some true) else chk (InI64 (s2 + 1)) (some (.inl ((s2 + 1)))) else out (law27_Great_J2 (()))

noncomputable def law27_Great_L2 (p_l : List api_Chain) (s2 : Int) : Option Bool := loop (law27_Great_B2 p_l) s2

noncomputable def law27_Great_J1 (p_l : List api_Chain) (_v2 : Unit) : Option Bool := law27_Great_L2 p_l (0)

noncomputable def law27_Great_B1 (p_disks : List api_Disk) (p_l : List api_Chain) (s1 : Int) : Option ((Int) ⊕ Bool) := if (decide (s1 < (p_disks.length : Int))) then (idx p_disks s1).bind fun x1 => (law25_Great x1).bind fun x2 => if x2 then out (some true) else chk (InI64 (s1 + 1)) (some (.inl ((s1 + 1)))) else out (law27_Great_J1 p_l (()))

noncomputable def law27_Great_L1 (p_disks : List api_Disk) (p_l : List api_Chain) (s1 : Int) : Option Bool := loop (law27_Great_B1 p_disks p_l) s1

/-- catacomblaw27.Great -/
noncomputable def law27_Great (p_disks : List api_Disk) (p_l : List api_Chain) : Option Bool := ((if (decide ((p_disks.length : Int) > 6)) then some true else some ((decide ((p_l.length : Int) > 12)))).bind fun c1 => some c1).bind fun v1 => if v1 then some true else law27_Great_L1 p_disks p_l (0)

/-- catacomblaw29.Great -/
noncomputable def law29_Great (p_x : law29_Set) : Option Bool := ((if (decide ((p_x.Named.length : Int) > 60)) then some true else some ((decide ((p_x.Rooms.length : Int) > 60)))).bind fun c1 => (if c1 then some true else some ((decide ((p_x.Leases.length : Int) > 60)))).bind fun c2 => (if c2 then some true else (law27_Great p_x.Disks ([])).bind fun x1 => some x1).bind fun c3 => some c3).bind fun v1 => some v1

noncomputable def ref29_put_B1 (p_l : List Int) (p_x : Int) (s1 : Int) : Option ((Int) ⊕ Int) := ((if (decide (s1 < (p_l.length : Int))) then (idx p_l s1).bind fun x1 => some ((decide (x1 < p_x))) else some false).bind fun c1 => some c1).bind fun v2 => if v2 then chk (InI64 (s1 + 1)) (some (.inl ((s1 + 1)))) else out (some s1)

noncomputable def ref29_put_L1 (p_l : List Int) (p_x : Int) (s1 : Int) : Option Int := loop (ref29_put_B1 p_l p_x) s1

/-- catacombref29.put -/
noncomputable def ref29_put (p_l : List Int) (p_x : Int) : Option ((List Int)) := (ref29_put_L1 p_l p_x (0)).bind fun v1 => ((if (decide (v1 < (p_l.length : Int))) then (idx p_l v1).bind fun x2 => some ((x2 == p_x)) else some false).bind fun c2 => some c2).bind fun v3 => if v3 then some p_l else chk ((0 : Int) ≤ v1 ∧ v1 ≤ (p_l.length : Int)) (chk ((0 : Int) ≤ v1 ∧ v1 ≤ (p_l.length : Int)) (chk (((p_l.take v1.toNat)).length * 8 ≤ 140737488355328) (chk ((((p_l.take v1.toNat)).length + ([p_x]).length) * 8 ≤ 140737488355328) (chk (((((p_l.take v1.toNat) ++ [p_x])).length + ((p_l.drop v1.toNat)).length) * 8 ≤ 140737488355328) (some ((((p_l.take v1.toNat) ++ [p_x]) ++ (p_l.drop v1.toNat))))))))

noncomputable def ref29_Open_J1 (_v1 : Unit) : Option Bool := some false

noncomputable def ref29_Open_B1 (p_leases : List api_Lease) (p_r : api_Room) (p_now : Int) (s1 : Int) : Option ((Int) ⊕ Bool) := if (decide (s1 < (p_leases.length : Int))) then (idx p_leases s1).bind fun x1 => ((if (x1.Client == p_r.Client) then some ((x1.Ino == p_r.Ino)) else some false).bind fun c1 => (if c1 then some ((x1.Kind == 2)) else some false).bind fun c2 => (if c2 then some ((decide (x1.Until > p_now))) else some false).bind fun c3 => some c3).bind fun v2 => if v2 then out (some true) else chk (InI64 (s1 + 1)) (some (.inl ((s1 + 1)))) else out (ref29_Open_J1 (()))

noncomputable def ref29_Open_L1 (p_leases : List api_Lease) (p_r : api_Room) (p_now : Int) (s1 : Int) : Option Bool := loop (ref29_Open_B1 p_leases p_r p_now) s1

/-- catacombref29.Open -/
noncomputable def ref29_Open (p_r : api_Room) (p_leases : List api_Lease) (p_now : Int) : Option Bool := ref29_Open_L1 p_leases p_r p_now (0)

noncomputable def ref29_Keeps_B1 (p_named : List api_Named) (s1 : (List Int) × Int) : Option (((List Int) × Int) ⊕ ((List Int))) := if (decide (s1.2 < (p_named.length : Int))) then (idx p_named s1.2).bind fun x1 => (ref29_put s1.1 x1.Id).bind fun x2 => chk (InI64 (s1.2 + 1)) (some (.inl ((x2, (s1.2 + 1))))) else out (some s1.1)

noncomputable def ref29_Keeps_L1 (p_named : List api_Named) (s1 : (List Int) × Int) : Option ((List Int)) := loop (ref29_Keeps_B1 p_named) s1

noncomputable def ref29_Keeps_B2 (p_rooms : List api_Room) (p_leases : List api_Lease) (p_now : Int) (s2 : (List Int) × Int) : Option (((List Int) × Int) ⊕ ((List Int))) := if (decide (s2.2 < (p_rooms.length : Int))) then ((idx p_rooms s2.2).bind fun x3 => (ref29_Open x3 p_leases p_now).bind fun x4 => if x4 then (idx p_rooms s2.2).bind fun x5 => (ref29_put s2.1 x5.Id).bind fun x6 => some x6 else some s2.1).bind fun v3 => chk (InI64 (s2.2 + 1)) (some (.inl ((v3, (s2.2 + 1))))) else out (some s2.1)

noncomputable def ref29_Keeps_L2 (p_rooms : List api_Room) (p_leases : List api_Lease) (p_now : Int) (s2 : (List Int) × Int) : Option ((List Int)) := loop (ref29_Keeps_B2 p_rooms p_leases p_now) s2

/-- catacombref29.Keeps -/
noncomputable def ref29_Keeps (p_named : List api_Named) (p_rooms : List api_Room) (p_leases : List api_Lease) (p_now : Int) : Option ((List Int)) := (ref29_Keeps_L1 p_named (([], 0))).bind fun v1 => (ref29_Keeps_L2 p_rooms p_leases p_now ((v1, 0))).bind fun v2 => some v2

noncomputable def ref04_Read_J2 (_v3 : Unit) : Option ((List UInt8) × Int) := some (([], 41))

noncomputable def ref04_Read_B2 (p_d : api_Disk) (p_at : Int) (s2 : Int) : Option ((Int) ⊕ ((List UInt8) × Int)) := if (decide (s2 < (p_d.Synced.length : Int))) then (idx p_d.Synced s2).bind fun x3 => if (x3.At == p_at) then (idx p_d.Synced s2).bind fun x4 => out (some ((x4.Data, 0))) else chk (InI64 (s2 + 1)) (some (.inl ((s2 + 1)))) else out (ref04_Read_J2 (()))

noncomputable def ref04_Read_L2 (p_d : api_Disk) (p_at : Int) (s2 : Int) : Option ((List UInt8) × Int) := loop (ref04_Read_B2 p_d p_at) s2

noncomputable def ref04_Read_J1 (p_d : api_Disk) (p_at : Int) (_v2 : Unit) : Option ((List UInt8) × Int) := ref04_Read_L2 p_d p_at (0)

noncomputable def ref04_Read_B1 (p_d : api_Disk) (p_at : Int) (s1 : Int) : Option ((Int) ⊕ ((List UInt8) × Int)) := if (decide (s1 ≥ 0)) then (idx p_d.Loose s1).bind fun x1 => if (x1.At == p_at) then (idx p_d.Loose s1).bind fun x2 => out (some ((x2.Data, 0))) else chk (InI64 (s1 - 1)) (some (.inl ((s1 - 1)))) else out (ref04_Read_J1 p_d p_at (()))

noncomputable def ref04_Read_L1 (p_d : api_Disk) (p_at : Int) (s1 : Int) : Option ((List UInt8) × Int) := loop (ref04_Read_B1 p_d p_at) s1

/-- catacombref04.Read -/
noncomputable def ref04_Read (p_d : api_Disk) (p_at : Int) : Option ((List UInt8) × Int) := if p_d.Down then some (([], 40)) else ((if (decide (p_at < 0)) then some true else some ((decide (p_at > 999)))).bind fun c1 => some c1).bind fun v1 => if v1 then some (([], 1)) else chk (InI64 ((p_d.Loose.length : Int) - 1)) (ref04_Read_L1 p_d p_at (((p_d.Loose.length : Int) - 1)))

noncomputable def ref25_Has_B1 (p_d : api_Disk) (s1 : Int × (List Int)) : Option ((Int × (List Int)) ⊕ ((List Int))) := if (decide (s1.1 < 200)) then ((ref04_Read p_d s1.1).bind fun x1 => ((if (x1.2 == 0) then some ((decide ((x1.1.length : Int) > 0))) else some false).bind fun c1 => some c1).bind fun v3 => if v3 then chk ((s1.2.length + ([s1.1]).length) * 8 ≤ 140737488355328) (some ((s1.2 ++ [s1.1]))) else some s1.2).bind fun v2 => chk (InI64 (s1.1 + 1)) (some (.inl (((s1.1 + 1), v2)))) else out (some s1.2)

noncomputable def ref25_Has_L1 (p_d : api_Disk) (s1 : Int × (List Int)) : Option ((List Int)) := loop (ref25_Has_B1 p_d) s1

/-- catacombref25.Has -/
noncomputable def ref25_Has (p_d : api_Disk) : Option ((List Int)) := (ref25_Has_L1 p_d ((0, []))).bind fun v1 => some v1

noncomputable def ref29_Has_J1 (_v1 : Unit) : Option Bool := some false

noncomputable def ref29_Has_B1 (p_l : List Int) (p_x : Int) (s1 : Int) : Option ((Int) ⊕ Bool) := if (decide (s1 < (p_l.length : Int))) then (idx p_l s1).bind fun x1 => if (x1 == p_x) then out (some true) else chk (InI64 (s1 + 1)) (some (.inl ((s1 + 1)))) else out (ref29_Has_J1 (()))

noncomputable def ref29_Has_L1 (p_l : List Int) (p_x : Int) (s1 : Int) : Option Bool := loop (ref29_Has_B1 p_l p_x) s1

/-- catacombref29.Has -/
noncomputable def ref29_Has (p_l : List Int) (p_x : Int) : Option Bool := ref29_Has_L1 p_l p_x (0)

noncomputable def ref29_Gone_B2 (x3 : (List Int)) (x1 : (List Int)) (s2 : (List Int) × Int) : Option (((List Int) × Int) ⊕ ((List Int))) := if (decide (s2.2 < (x3.length : Int))) then ((idx x3 s2.2).bind fun x4 => (ref29_Has x1 x4).bind fun x5 => if (!x5) then (idx x3 s2.2).bind fun x6 => (ref29_put s2.1 x6).bind fun x7 => some x7 else some s2.1).bind fun v3 => chk (InI64 (s2.2 + 1)) (some (.inl ((v3, (s2.2 + 1))))) else out (some s2.1)

noncomputable def ref29_Gone_L2 (x3 : (List Int)) (x1 : (List Int)) (s2 : (List Int) × Int) : Option ((List Int)) := loop (ref29_Gone_B2 x3 x1) s2

noncomputable def ref29_Gone_B1 (p_disks : List api_Disk) (x1 : (List Int)) (s1 : (List Int) × Int) : Option (((List Int) × Int) ⊕ ((List Int))) := if (decide (s1.2 < (p_disks.length : Int))) then ((idx p_disks s1.2).bind fun x2 => (ref25_Has x2).bind fun x3 => ref29_Gone_L2 x3 x1 ((s1.1, 0))).bind fun v2 => chk (InI64 (s1.2 + 1)) (some (.inl ((v2, (s1.2 + 1))))) else out (some s1.1)

noncomputable def ref29_Gone_L1 (p_disks : List api_Disk) (x1 : (List Int)) (s1 : (List Int) × Int) : Option ((List Int)) := loop (ref29_Gone_B1 p_disks x1) s1

/-- catacombref29.Gone -/
noncomputable def ref29_Gone (p_named : List api_Named) (p_rooms : List api_Room) (p_leases : List api_Lease) (p_now : Int) (p_disks : List api_Disk) : Option ((List Int)) := (ref29_Keeps p_named p_rooms p_leases p_now).bind fun x1 => (ref29_Gone_L1 p_disks x1 (([], 0))).bind fun v1 => some v1

/-- catacombref04.Write -/
noncomputable def ref04_Write (p_d : api_Disk) (p_at : Int) (p_data : List UInt8) : Option (api_Disk × Int) := if p_d.Down then some ((p_d, 40)) else (ref04_Page ((⟨p_at, p_data⟩ : api_Page))).bind fun x1 => if (!x1) then some ((p_d, 1)) else chk (p_d.Loose.length * 32 ≤ 140737488355328) (chk ((p_d.Loose.length + ([(⟨p_at, p_data⟩ : api_Page)]).length) * 32 ≤ 140737488355328) (some (((⟨p_d.Synced, (p_d.Loose ++ [(⟨p_at, p_data⟩ : api_Page)]), false⟩ : api_Disk), 0))))

/-- catacombref25.Lose -/
noncomputable def ref25_Lose (p_d : api_Disk) (p_id : Int) : Option (api_Disk × Int) := ((if (decide (p_id < 0)) then some true else some ((decide (p_id > 199)))).bind fun c1 => some c1).bind fun v1 => if v1 then some ((p_d, 1)) else (ref04_Read p_d p_id).bind fun x1 => if (x1.2 != 0) then some ((p_d, x1.2)) else if ((x1.1.length : Int) == 0) then some ((p_d, 41)) else (ref04_Write p_d p_id ([])).bind fun x2 => some ((x2.1, x2.2))

noncomputable def ref04_lay_B1 (p_l : List api_Page) (p_p : api_Page) (s1 : Bool × Int × (List api_Page)) : Option ((Bool × Int × (List api_Page)) ⊕ (Bool × (List api_Page))) := if (decide (s1.2.1 < (p_l.length : Int))) then ((((if (!s1.1) then (idx p_l s1.2.1).bind fun x1 => some ((decide (x1.At ≥ p_p.At))) else some false).bind fun c1 => some c1).bind fun v4 => if v4 then chk ((s1.2.2.length + ([p_p]).length) * 32 ≤ 140737488355328) (some ((true, (s1.2.2 ++ [p_p])))) else some ((s1.1, s1.2.2))).bind fun v3 => (idx p_l s1.2.1).bind fun x2 => if (x2.At != p_p.At) then (idx p_l s1.2.1).bind fun x3 => chk ((v3.2.length + ([x3]).length) * 32 ≤ 140737488355328) (some ((v3.1, (v3.2 ++ [x3])))) else some ((v3.1, v3.2))).bind fun v2 => chk (InI64 (s1.2.1 + 1)) (some (.inl ((v2.1, (s1.2.1 + 1), v2.2)))) else out (some ((s1.1, s1.2.2)))

noncomputable def ref04_lay_L1 (p_l : List api_Page) (p_p : api_Page) (s1 : Bool × Int × (List api_Page)) : Option (Bool × (List api_Page)) := loop (ref04_lay_B1 p_l p_p) s1

/-- catacombref04.lay -/
noncomputable def ref04_lay (p_l : List api_Page) (p_p : api_Page) : Option ((List api_Page)) := (ref04_lay_L1 p_l p_p ((false, 0, []))).bind fun v1 => (if (!v1.1) then chk ((v1.2.length + ([p_p]).length) * 32 ≤ 140737488355328) (some ((v1.2 ++ [p_p]))) else some v1.2).bind fun v5 => some v5

noncomputable def ref04_Sync_B1 (p_d : api_Disk) (s1 : Int × (List api_Page)) : Option ((Int × (List api_Page)) ⊕ ((List api_Page))) := if (decide (s1.1 < (p_d.Loose.length : Int))) then (idx p_d.Loose s1.1).bind fun x1 => (ref04_lay s1.2 x1).bind fun x2 => chk (InI64 (s1.1 + 1)) (some (.inl (((s1.1 + 1), x2)))) else out (some s1.2)

noncomputable def ref04_Sync_L1 (p_d : api_Disk) (s1 : Int × (List api_Page)) : Option ((List api_Page)) := loop (ref04_Sync_B1 p_d) s1

/-- catacombref04.Sync -/
noncomputable def ref04_Sync (p_d : api_Disk) : Option (api_Disk × Int) := if p_d.Down then some ((p_d, 40)) else (ref04_Sync_L1 p_d ((0, p_d.Synced))).bind fun v1 => some (((⟨v1, [], false⟩ : api_Disk), 0))

noncomputable def ref29_swept_B1 (x1 : (List Int)) (p_gone : List Int) (s1 : Bool × Int × (List api_Page) × (List api_Page) × Bool) : Option ((Bool × Int × (List api_Page) × (List api_Page) × Bool) ⊕ (Bool × (List api_Page) × (List api_Page) × Bool)) := if (decide (s1.2.1 < (x1.length : Int))) then ((idx x1 s1.2.1).bind fun x2 => (ref29_Has p_gone x2).bind fun x3 => if x3 then (idx x1 s1.2.1).bind fun x4 => (ref25_Lose ((⟨s1.2.2.1, s1.2.2.2.1, s1.2.2.2.2⟩ : api_Disk)) x4).bind fun x5 => some ((true, x5.1.Synced, x5.1.Loose, x5.1.Down)) else some ((s1.1, s1.2.2.1, s1.2.2.2.1, s1.2.2.2.2))).bind fun v2 => chk (InI64 (s1.2.1 + 1)) (some (.inl ((v2.1, (s1.2.1 + 1), v2.2.1, v2.2.2.1, v2.2.2.2)))) else out (some ((s1.1, s1.2.2.1, s1.2.2.2.1, s1.2.2.2.2)))

noncomputable def ref29_swept_L1 (x1 : (List Int)) (p_gone : List Int) (s1 : Bool × Int × (List api_Page) × (List api_Page) × Bool) : Option (Bool × (List api_Page) × (List api_Page) × Bool) := loop (ref29_swept_B1 x1 p_gone) s1

/-- catacombref29.swept -/
noncomputable def ref29_swept (p_d : api_Disk) (p_gone : List Int) : Option api_Disk := (ref25_Has p_d).bind fun x1 => (ref29_swept_L1 x1 p_gone ((false, 0, p_d.Synced, p_d.Loose, p_d.Down))).bind fun v1 => (if v1.1 then (ref04_Sync ((⟨v1.2.1, v1.2.2.1, v1.2.2.2⟩ : api_Disk))).bind fun x6 => some ((x6.1.Synced, x6.1.Loose, x6.1.Down)) else some ((v1.2.1, v1.2.2.1, v1.2.2.2))).bind fun v3 => some ((⟨v3.1, v3.2.1, v3.2.2⟩ : api_Disk))

noncomputable def ref29_Sweep_B1 (p_disks : List api_Disk) (x1 : (List Int)) (s1 : Int × (List api_Disk)) : Option ((Int × (List api_Disk)) ⊕ ((List api_Disk))) := if (decide (s1.1 < (p_disks.length : Int))) then (idx p_disks s1.1).bind fun x2 => (ref29_swept x2 x1).bind fun x3 => chk ((s1.2.length + ([x3]).length) * 56 ≤ 140737488355328) (chk (InI64 (s1.1 + 1)) (some (.inl (((s1.1 + 1), (s1.2 ++ [x3])))))) else out (some s1.2)

noncomputable def ref29_Sweep_L1 (p_disks : List api_Disk) (x1 : (List Int)) (s1 : Int × (List api_Disk)) : Option ((List api_Disk)) := loop (ref29_Sweep_B1 p_disks x1) s1

noncomputable def ref29_Sweep_B2 (p_rooms : List api_Room) (p_leases : List api_Lease) (p_now : Int) (s2 : Int × (List api_Room)) : Option ((Int × (List api_Room)) ⊕ ((List api_Room))) := if (decide (s2.1 < (p_rooms.length : Int))) then ((idx p_rooms s2.1).bind fun x4 => (ref29_Open x4 p_leases p_now).bind fun x5 => if x5 then (idx p_rooms s2.1).bind fun x6 => chk ((s2.2.length + ([x6]).length) * 24 ≤ 140737488355328) (some ((s2.2 ++ [x6]))) else some s2.2).bind fun v3 => chk (InI64 (s2.1 + 1)) (some (.inl (((s2.1 + 1), v3)))) else out (some s2.2)

noncomputable def ref29_Sweep_L2 (p_rooms : List api_Room) (p_leases : List api_Lease) (p_now : Int) (s2 : Int × (List api_Room)) : Option ((List api_Room)) := loop (ref29_Sweep_B2 p_rooms p_leases p_now) s2

/-- catacombref29.Sweep -/
noncomputable def ref29_Sweep (p_named : List api_Named) (p_rooms : List api_Room) (p_leases : List api_Lease) (p_now : Int) (p_disks : List api_Disk) : Option ((List api_Disk) × (List api_Room)) := (ref29_Gone p_named p_rooms p_leases p_now p_disks).bind fun x1 => (ref29_Sweep_L1 p_disks x1 ((0, []))).bind fun v1 => (ref29_Sweep_L2 p_rooms p_leases p_now ((0, []))).bind fun v2 => some ((v1, v2))

noncomputable def ref02_Bytes_J1 (_v1 : Unit) : Option Bool := some true

noncomputable def ref02_Bytes_B1 (p_a : List UInt8) (p_b : List UInt8) (s1 : Int) : Option ((Int) ⊕ Bool) := if (decide (s1 < (p_a.length : Int))) then (idx p_a s1).bind fun x1 => (idx p_b s1).bind fun x2 => if ((x1.toNat : Int) != (x2.toNat : Int)) then out (some false) else chk (InI64 (s1 + 1)) (some (.inl ((s1 + 1)))) else out (ref02_Bytes_J1 (()))

noncomputable def ref02_Bytes_L1 (p_a : List UInt8) (p_b : List UInt8) (s1 : Int) : Option Bool := loop (ref02_Bytes_B1 p_a p_b) s1

/-- catacombref02.Bytes -/
noncomputable def ref02_Bytes (p_a : List UInt8) (p_b : List UInt8) : Option Bool := if ((p_a.length : Int) != (p_b.length : Int)) then some false else ref02_Bytes_L1 p_a p_b (0)

noncomputable def ref25_pages_J1 (_v1 : Unit) : Option Bool := some true

noncomputable def ref25_pages_B1 (p_a : List api_Page) (p_b : List api_Page) (s1 : Int) : Option ((Int) ⊕ Bool) := if (decide (s1 < (p_a.length : Int))) then ((idx p_a s1).bind fun x1 => (idx p_b s1).bind fun x2 => (if (x1.At != x2.At) then some true else (idx p_a s1).bind fun x3 => (idx p_b s1).bind fun x4 => (ref02_Bytes x3.Data x4.Data).bind fun x5 => some ((!x5))).bind fun c1 => some c1).bind fun v2 => if v2 then out (some false) else chk (InI64 (s1 + 1)) (some (.inl ((s1 + 1)))) else out (ref25_pages_J1 (()))

noncomputable def ref25_pages_L1 (p_a : List api_Page) (p_b : List api_Page) (s1 : Int) : Option Bool := loop (ref25_pages_B1 p_a p_b) s1

/-- catacombref25.pages -/
noncomputable def ref25_pages (p_a : List api_Page) (p_b : List api_Page) : Option Bool := if ((p_a.length : Int) != (p_b.length : Int)) then some false else ref25_pages_L1 p_a p_b (0)

/-- catacombref25.SameDisk -/
noncomputable def ref25_SameDisk (p_a : api_Disk) (p_b : api_Disk) : Option Bool := ((ref25_pages p_a.Synced p_b.Synced).bind fun x1 => (if x1 then (ref25_pages p_a.Loose p_b.Loose).bind fun x2 => some x2 else some false).bind fun c1 => (if c1 then some ((p_a.Down == p_b.Down)) else some false).bind fun c2 => some c2).bind fun v1 => some v1

noncomputable def ref27_SameDisks_J1 (_v1 : Unit) : Option Bool := some true

noncomputable def ref27_SameDisks_B1 (p_a : List api_Disk) (p_b : List api_Disk) (s1 : Int) : Option ((Int) ⊕ Bool) := if (decide (s1 < (p_a.length : Int))) then (idx p_a s1).bind fun x1 => (idx p_b s1).bind fun x2 => (ref25_SameDisk x1 x2).bind fun x3 => if (!x3) then out (some false) else chk (InI64 (s1 + 1)) (some (.inl ((s1 + 1)))) else out (ref27_SameDisks_J1 (()))

noncomputable def ref27_SameDisks_L1 (p_a : List api_Disk) (p_b : List api_Disk) (s1 : Int) : Option Bool := loop (ref27_SameDisks_B1 p_a p_b) s1

/-- catacombref27.SameDisks -/
noncomputable def ref27_SameDisks (p_a : List api_Disk) (p_b : List api_Disk) : Option Bool := if ((p_a.length : Int) != (p_b.length : Int)) then some false else ref27_SameDisks_L1 p_a p_b (0)

/-- catacomblaw29.SweepTells -/
noncomputable def law29_SweepTells (p_x : law29_Set) (p_now : Int) : Option Bool := (law29_head).bind fun x1 => (law29_Great p_x).bind fun x2 => if x2 then some x1 else (sweep_Sweep p_x.Named p_x.Rooms p_x.Leases p_now p_x.Disks).bind fun x3 => (ref29_Sweep p_x.Named p_x.Rooms p_x.Leases p_now p_x.Disks).bind fun x4 => ((if x1 then (sweep_Keeps p_x.Named p_x.Rooms p_x.Leases p_now).bind fun x5 => (ref29_Keeps p_x.Named p_x.Rooms p_x.Leases p_now).bind fun x6 => (ref02_Ints x5 x6).bind fun x7 => some x7 else some false).bind fun c1 => (if c1 then (sweep_Gone p_x.Named p_x.Rooms p_x.Leases p_now p_x.Disks).bind fun x8 => (ref29_Gone p_x.Named p_x.Rooms p_x.Leases p_now p_x.Disks).bind fun x9 => (ref02_Ints x8 x9).bind fun x10 => some x10 else some false).bind fun c2 => (if c2 then (ref27_SameDisks x3.1 x4.1).bind fun x11 => some x11 else some false).bind fun c3 => (if c3 then (ref29_SameRooms x3.2 x4.2).bind fun x12 => some x12 else some false).bind fun c4 => some c4).bind fun v1 => some v1

noncomputable def law29_room_J1 (_v1 : Unit) : Option Bool := some false

noncomputable def law29_room_B1 (p_l : List api_Room) (p_r : api_Room) (s1 : Int) : Option ((Int) ⊕ Bool) := if (decide (s1 < (p_l.length : Int))) then (idx p_l s1).bind fun x1 => if (x1.Id == p_r.Id && (x1.Ino == p_r.Ino && (x1.Client == p_r.Client && true))) then out (some true) else chk (InI64 (s1 + 1)) (some (.inl ((s1 + 1)))) else out (law29_room_J1 (()))

noncomputable def law29_room_L1 (p_l : List api_Room) (p_r : api_Room) (s1 : Int) : Option Bool := loop (law29_room_B1 p_l p_r) s1

/-- catacomblaw29.room -/
noncomputable def law29_room (p_l : List api_Room) (p_r : api_Room) : Option Bool := law29_room_L1 p_l p_r (0)

structure chunk_reader where
  b_ : List UInt8
  bad_ : Bool


noncomputable def pack_ReadInt_J1 (_v1 : Unit) : Option (Int × (List UInt8) × Int) := some ((0, [], 10))

noncomputable def pack_ReadInt_B1 (p_b : List UInt8) (s1 : Int × Int) : Option ((Int × Int) ⊕ (Int × (List UInt8) × Int)) := if (decide (s1.2 < (p_b.length : Int))) then (idx p_b s1.2).bind fun x1 => ((if (s1.2 == 9) then some ((decide ((x1.toNat : Int) > 1))) else some false).bind fun c1 => some c1).bind fun v2 => if v2 then out (some ((0, [], 11))) else chk (InI64 (7 * s1.2)) (chk ((0 : Int) ≤ (7 * s1.2)) (if (decide ((x1.toNat : Int) ≥ 128)) then chk (InI64 (s1.2 + 1)) (some (.inl (((orK .u64 s1.1 ((shlK .u64 ((((x1 &&& (127 : UInt8))).toNat : Int)) ((7 * s1.2))))), (s1.2 + 1))))) else ((if ((x1.toNat : Int) == 0) then some ((decide (s1.2 > 0))) else some false).bind fun c2 => some c2).bind fun v3 => if v3 then out (some ((0, [], 11))) else chk (InI64 (0 - (IntKind.i64.wrap ((andK .u64 ((orK .u64 s1.1 ((shlK .u64 ((((x1 &&& (127 : UInt8))).toNat : Int)) ((7 * s1.2)))))) (1)))))) (chk (InI64 (s1.2 + 1)) (chk ((0 : Int) ≤ (s1.2 + 1) ∧ (s1.2 + 1) ≤ (p_b.length : Int)) (out (some (((xorK .i64 ((IntKind.i64.wrap ((shrK .u64 ((orK .u64 s1.1 ((shlK .u64 ((((x1 &&& (127 : UInt8))).toNat : Int)) ((7 * s1.2)))))) (1))))) ((0 - (IntKind.i64.wrap ((andK .u64 ((orK .u64 s1.1 ((shlK .u64 ((((x1 &&& (127 : UInt8))).toNat : Int)) ((7 * s1.2)))))) (1))))))), (p_b.drop ((s1.2 + 1)).toNat), 0)))))))) else out (pack_ReadInt_J1 (()))

noncomputable def pack_ReadInt_L1 (p_b : List UInt8) (s1 : Int × Int) : Option (Int × (List UInt8) × Int) := loop (pack_ReadInt_B1 p_b) s1

/-- pack.ReadInt -/
noncomputable def pack_ReadInt (p_b : List UInt8) : Option (Int × (List UInt8) × Int) := pack_ReadInt_L1 p_b ((0, 0))

/-- chunk.take[int] -/
noncomputable def chunk_take_int__pack_ReadInt (self : chunk_reader) : Option (Int × chunk_reader) := (pack_ReadInt self.b_).bind fun x1 => ((if self.bad_ then some true else some ((x1.2.2 != 0))).bind fun c1 => some c1).bind fun v1 => if v1 then some (0, (⟨self.b_, true⟩ : chunk_reader)) else some (x1.1, (⟨x1.2.1, self.bad_⟩ : chunk_reader))

/-- (*chunk.reader).int -/
noncomputable def chunk_reader_int (self : chunk_reader) : Option (Int × chunk_reader) := (chunk_take_int__pack_ReadInt self).bind fun x1 => some (x1.1, x1.2)

structure pack_rest where
  b_ : List UInt8


structure pack_reader where
  rest_ : pack_rest
  e_ : Int


/-- (*pack.reader).num -/
noncomputable def pack_reader_num (self : pack_reader) : Option (Int × pack_reader) := if (self.e_ != 0) then some (0, self) else (pack_ReadInt self.rest_.b_).bind fun x1 => some (x1.1, (⟨(⟨x1.2.1⟩ : pack_rest), x1.2.2⟩ : pack_reader))

noncomputable def pack_reader_count_J1 (x1 : Int × pack_reader) (v1 : Int) : Option (Int × pack_reader) := some (0, (⟨x1.2.rest_, v1⟩ : pack_reader))

/-- (*pack.reader).count -/
noncomputable def pack_reader_count (self : pack_reader) : Option (Int × pack_reader) := (pack_reader_num self).bind fun x1 => if (x1.2.e_ != 0) then some (0, x1.2) else if (decide (x1.1 < 0)) then pack_reader_count_J1 x1 (11) else if (decide (x1.1 > (x1.2.rest_.b_.length : Int))) then pack_reader_count_J1 x1 (10) else some (x1.1, x1.2)

/-- (*pack.rest).take -/
noncomputable def pack_rest_take (self : pack_reader) (p_n : Int) : Option (((List UInt8)) × pack_reader) := chk ((0 : Int) ≤ p_n ∧ p_n ≤ (self.rest_.b_.length : Int)) (chk ((0 : Int) ≤ p_n ∧ p_n ≤ (self.rest_.b_.length : Int)) (some ((self.rest_.b_.take p_n.toNat), (⟨(⟨(self.rest_.b_.drop p_n.toNat)⟩ : pack_rest), self.e_⟩ : pack_reader))))

/-- (*pack.reader).str -/
noncomputable def pack_reader_str (self : pack_reader) : Option (((List UInt8)) × pack_reader) := (pack_reader_count self).bind fun x1 => if (x1.2.e_ != 0) then some ([], x1.2) else (pack_rest_take x1.2 x1.1).bind fun x2 => some (x2.1, x2.2)

/-- pack.ReadStr -/
noncomputable def pack_ReadStr (p_b : List UInt8) : Option ((List UInt8) × (List UInt8) × Int) := (pack_reader_str ((⟨(⟨p_b⟩ : pack_rest), 0⟩ : pack_reader))).bind fun x1 => if (x1.2.e_ != 0) then some (([], [], x1.2.e_)) else some ((x1.1, x1.2.rest_.b_, 0))

/-- chunk.take[string] -/
noncomputable def chunk_take_string__pack_ReadStr (self : chunk_reader) : Option (((List UInt8)) × chunk_reader) := (pack_ReadStr self.b_).bind fun x1 => ((if self.bad_ then some true else some ((x1.2.2 != 0))).bind fun c1 => some c1).bind fun v1 => if v1 then some ([], (⟨self.b_, true⟩ : chunk_reader)) else some (x1.1, (⟨x1.2.1, self.bad_⟩ : chunk_reader))

noncomputable def pack_ReadInts_B1 (x1 : Int × pack_reader) (s1 : Int × (List UInt8) × Int × (List Int)) : Option ((Int × (List UInt8) × Int × (List Int)) ⊕ ((List UInt8) × Int × (List Int))) := if (decide (s1.1 < x1.1)) then (pack_reader_num ((⟨(⟨s1.2.1⟩ : pack_rest), s1.2.2.1⟩ : pack_reader))).bind fun x2 => chk ((s1.2.2.2.length + ([x2.1]).length) * 8 ≤ 140737488355328) (if (x2.2.e_ != 0) then out (some ((x2.2.rest_.b_, x2.2.e_, (s1.2.2.2 ++ [x2.1])))) else chk (InI64 (s1.1 + 1)) (some (.inl (((s1.1 + 1), x2.2.rest_.b_, x2.2.e_, (s1.2.2.2 ++ [x2.1])))))) else out (some ((s1.2.1, s1.2.2.1, s1.2.2.2)))

noncomputable def pack_ReadInts_L1 (x1 : Int × pack_reader) (s1 : Int × (List UInt8) × Int × (List Int)) : Option ((List UInt8) × Int × (List Int)) := loop (pack_ReadInts_B1 x1) s1

/-- pack.ReadInts -/
noncomputable def pack_ReadInts (p_b : List UInt8) : Option ((List Int) × (List UInt8) × Int) := ((pack_reader_count ((⟨(⟨p_b⟩ : pack_rest), 0⟩ : pack_reader))).bind fun x1 => pack_ReadInts_L1 x1 ((0, x1.2.rest_.b_, x1.2.e_, []))).bind fun v1 => if (v1.2.1 != 0) then some (([], [], v1.2.1)) else some ((v1.2.2, v1.1, 0))

/-- chunk.take[[]int] -/
noncomputable def chunk_take_int__pack_ReadInts (self : chunk_reader) : Option (((List Int)) × chunk_reader) := (pack_ReadInts self.b_).bind fun x1 => ((if self.bad_ then some true else some ((x1.2.2 != 0))).bind fun c1 => some c1).bind fun v1 => if v1 then some ([], (⟨self.b_, true⟩ : chunk_reader)) else some (x1.1, (⟨x1.2.1, self.bad_⟩ : chunk_reader))

/-- (*chunk.reader).copy -/
noncomputable def chunk_reader_copy (self : chunk_reader) : Option ((api_Copy × Bool) × chunk_reader) := (chunk_reader_int self).bind fun x1 => (chunk_reader_int x1.2).bind fun x2 => (chunk_take_string__pack_ReadStr x2.2).bind fun x3 => chk (x3.1.length ≤ 140737488355328) ((chunk_take_int__pack_ReadInts x3.2).bind fun x4 => ((if (!x4.2.bad_) then some (((x4.2.b_.length : Int) == 0)) else some false).bind fun c1 => some c1).bind fun v1 => some (((⟨x1.1, x2.1, x3.1, x4.1⟩ : api_Copy), v1), x4.2))

/-- bytes.Equal -/
noncomputable def bytes_Equal (p_a : List UInt8) (p_b : List UInt8) : Option Bool := some ((p_a == p_b))

/-- chunk.Get -/
noncomputable def chunk_Get (p_d : api_Disk) (p_id : Int) : Option (api_Copy × Int) := (chunk_there p_d p_id).bind fun x1 => if (x1.2 != 0) then some (((⟨0, 0, [], []⟩ : api_Copy), x1.2)) else if (decide ((x1.1.length : Int) < 4)) then some (((⟨0, 0, [], []⟩ : api_Copy), 251)) else chk (InI64 ((x1.1.length : Int) - 4)) (chk ((0 : Int) ≤ ((x1.1.length : Int) - 4) ∧ ((x1.1.length : Int) - 4) ≤ (x1.1.length : Int)) ((chunk_reader_copy ((⟨(x1.1.take (((x1.1.length : Int) - 4)).toNat), false⟩ : chunk_reader))).bind fun x2 => ((if (!x2.1.2) then some true else (chunk_may x2.1.1).bind fun x3 => some ((!x3))).bind fun c1 => (if c1 then some true else some ((x2.1.1.Id != p_id))).bind fun c2 => (if c2 then some true else (chunk_page x2.1.1).bind fun x4 => (bytes_Equal x4 x1.1).bind fun x5 => some ((!x5))).bind fun c3 => some c3).bind fun v1 => if v1 then some (((⟨0, 0, [], []⟩ : api_Copy), 251)) else some ((x2.1.1, 0))))

/-- catacombref25.Same -/
noncomputable def ref25_Same (p_a : api_Copy) (p_b : api_Copy) : Option Bool := ((if (p_a.Id == p_b.Id) then some ((p_a.Ver == p_b.Ver)) else some false).bind fun c1 => (if c1 then (ref02_Bytes p_a.Data p_b.Data).bind fun x1 => some x1 else some false).bind fun c2 => (if c2 then (ref02_Ints p_a.Sums p_b.Sums).bind fun x2 => some x2 else some false).bind fun c3 => some c3).bind fun v1 => some v1

noncomputable def law29_SweepKeeps_J3 (x1 : Bool) (_v5 : Unit) : Option Bool := some x1

noncomputable def law29_SweepKeeps_J4 (s3 : Int) (_v6 : Unit) : Option ((Int) ⊕ Bool) := chk (InI64 (s3 + 1)) (some (.inl ((s3 + 1))))

noncomputable def law29_SweepKeeps_B4 (x3 : (List api_Disk) × (List api_Room)) (p_x : law29_Set) (v2 : (List Int)) (s3 : Int) (s4 : Int) : Option ((Int) ⊕ ((Int) ⊕ Bool)) := if (decide (s4 < (x3.1.length : Int))) then (idx p_x.Disks s4).bind fun x8 => (idx v2 s3).bind fun x9 => (chunk_Get x8 x9).bind fun x10 => (idx x3.1 s4).bind fun x11 => (idx v2 s3).bind fun x12 => (chunk_Get x11 x12).bind fun x13 => ((if (x10.2 != x13.2) then some true else (ref25_Same x10.1 x13.1).bind fun x14 => some ((!x14))).bind fun c4 => some c4).bind fun v7 => if v7 then out (out (some false)) else chk (InI64 (s4 + 1)) (some (.inl ((s4 + 1)))) else out (law29_SweepKeeps_J4 s3 (()))

noncomputable def law29_SweepKeeps_L4 (x3 : (List api_Disk) × (List api_Room)) (p_x : law29_Set) (v2 : (List Int)) (s3 : Int) (s4 : Int) : Option ((Int) ⊕ Bool) := loop (law29_SweepKeeps_B4 x3 p_x v2 s3) s4

noncomputable def law29_SweepKeeps_B3 (v2 : (List Int)) (x3 : (List api_Disk) × (List api_Room)) (p_x : law29_Set) (x1 : Bool) (s3 : Int) : Option ((Int) ⊕ Bool) := if (decide (s3 < (v2.length : Int))) then law29_SweepKeeps_L4 x3 p_x v2 s3 (0) else out (law29_SweepKeeps_J3 x1 (()))

noncomputable def law29_SweepKeeps_L3 (v2 : (List Int)) (x3 : (List api_Disk) × (List api_Room)) (p_x : law29_Set) (x1 : Bool) (s3 : Int) : Option Bool := loop (law29_SweepKeeps_B3 v2 x3 p_x x1) s3

noncomputable def law29_SweepKeeps_J1 (x3 : (List api_Disk) × (List api_Room)) (p_x : law29_Set) (x1 : Bool) (v2 : (List Int)) : Option Bool := law29_SweepKeeps_L3 v2 x3 p_x x1 (0)

noncomputable def law29_SweepKeeps_J2 (s1 : Int × (List Int)) (v3 : (List Int)) : Option ((Int × (List Int)) ⊕ Bool) := chk (InI64 (s1.1 + 1)) (some (.inl (((s1.1 + 1), v3))))

noncomputable def law29_SweepKeeps_B2 (p_x : law29_Set) (x5 : api_Room) (p_now : Int) (s1 : Int × (List Int)) (x3 : (List api_Disk) × (List api_Room)) (s2 : Int) : Option ((Int) ⊕ ((Int × (List Int)) ⊕ Bool)) := if (decide (s2 < (p_x.Leases.length : Int))) then (idx p_x.Leases s2).bind fun x6 => ((if (x6.Client == x5.Client) then some ((x6.Ino == x5.Ino)) else some false).bind fun c1 => (if c1 then some ((x6.Kind == 2)) else some false).bind fun c2 => (if c2 then some ((decide (x6.Until > p_now))) else some false).bind fun c3 => some c3).bind fun v4 => if v4 then chk ((s1.2.length + ([x5.Id]).length) * 8 ≤ 140737488355328) ((law29_room x3.2 x5).bind fun x7 => if (!x7) then out (out (some false)) else out (law29_SweepKeeps_J2 s1 ((s1.2 ++ [x5.Id])))) else chk (InI64 (s2 + 1)) (some (.inl ((s2 + 1)))) else out (law29_SweepKeeps_J2 s1 s1.2)

noncomputable def law29_SweepKeeps_L2 (p_x : law29_Set) (x5 : api_Room) (p_now : Int) (s1 : Int × (List Int)) (x3 : (List api_Disk) × (List api_Room)) (s2 : Int) : Option ((Int × (List Int)) ⊕ Bool) := loop (law29_SweepKeeps_B2 p_x x5 p_now s1 x3) s2

noncomputable def law29_SweepKeeps_B1 (p_x : law29_Set) (p_now : Int) (x3 : (List api_Disk) × (List api_Room)) (x1 : Bool) (s1 : Int × (List Int)) : Option ((Int × (List Int)) ⊕ Bool) := if (decide (s1.1 < (p_x.Rooms.length : Int))) then (idx p_x.Rooms s1.1).bind fun x5 => law29_SweepKeeps_L2 p_x x5 p_now s1 x3 (0) else out (law29_SweepKeeps_J1 x3 p_x x1 s1.2)

noncomputable def law29_SweepKeeps_L1 (p_x : law29_Set) (p_now : Int) (x3 : (List api_Disk) × (List api_Room)) (x1 : Bool) (s1 : Int × (List Int)) : Option Bool := loop (law29_SweepKeeps_B1 p_x p_now x3 x1) s1

/-- catacomblaw29.SweepKeeps -/
noncomputable def law29_SweepKeeps (p_x : law29_Set) (p_now : Int) (p_at : UInt8) : Option Bool := (law29_head).bind fun x1 => (law29_Great p_x).bind fun x2 => if x2 then some x1 else (sweep_Sweep p_x.Named p_x.Rooms p_x.Leases p_now p_x.Disks).bind fun x3 => if ((x3.1.length : Int) != (p_x.Disks.length : Int)) then some false else (if (decide ((p_x.Named.length : Int) > 0)) then chk ((p_x.Named.length : Int) ≠ 0) ((idx p_x.Named ((Int.tmod ((p_at.toNat : Int)) ((p_x.Named.length : Int))))).bind fun x4 => chk (([x4.Id]).length * 8 ≤ 140737488355328) (some ([x4.Id]))) else some ([])).bind fun v1 => law29_SweepKeeps_L1 p_x p_now x3 x1 ((0, v1))
end Go.Proofs
