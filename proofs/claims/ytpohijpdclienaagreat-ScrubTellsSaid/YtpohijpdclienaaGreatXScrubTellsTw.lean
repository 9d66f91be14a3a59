/- The plain programs with a bound on their rounds: what these say the others say, too. No condition. -/
import Derived.Test.YtpohijpdclienaaGreatXScrubTellsSp
import Derived.Test.YtpohijpdclienaaGreatXScrubTellsCatP6
namespace Go.Proofs
noncomputable section
set_option linter.all false
open Go Go.Cat
set_option maxRecDepth 100000
def slicesN6 (_n : Nat) (p_s : List UInt8) : Option (List UInt8) := chk (p_s.length * 1 ≤ 140737488355328) (some p_s)
theorem eq_slicesN3 (p_s : List UInt8) (h : p_s.length * 1 ≤ 140737488355328) : slicesN5 p_s = some p_s := by
 unfold slicesN5
 refine Le0.clone fun b hb => ?_
 cases b with
 | true => rw [hb rfl]; rfl
 | false =>
  rw [if_neg (by decide)]
  show chk _ _ = _
  unfold chk
  rw [if_pos (by simpa using h)]; rfl
theorem le_slicesN3 n p_s : Le0 (slicesN6 n p_s) (slicesN5 p_s) := fun r hr => by
 obtain ⟨h1, h2⟩ := chk_some hr
 cases h2
 exact eq_slicesN3 _ h1
def sumN11 (_n : Nat) (s2 : Int × Int) : Option ((Int × Int) ⊕ Int) := if (decide (s2.2 < 4)) then (sum_half_1 s2.1).bind fun x1 => chk (InI64 (s2.2 + 1)) (some (.inl (x1, (s2.2 + 1)))) else out (some s2.1)
theorem le_sumN8 n s2 : Le0 (sumN11 n s2) (sum_half_B2 s2) := by
 unfold sumN11 sum_half_B2
 with_reducible repeat' first | refine B0 ?_ fun _ => ?_ | apply I0 | apply K0 | apply O0 | exact R0
def sumN13 (n : Nat) (s2 : Int × Int) : Option Int := loopN (sumN11 n ) n s2
theorem le_sumN10 n s2 : Le0 (sumN13 n s2) (sum_half_L2 s2) := Le0.loop (fun s => le_sumN8 n  s) n s2
def sumN10 (n : Nat) (s1 : Int × (List Int)) : Option ((Int × (List Int)) ⊕ (List Int)) := if (decide (s1.1 < 16)) then ((sumN13 n ((IntKind.u32.wrap s1.1), 0)).bind fun v3 => (idx s1.2 s1.1).bind fun _ => chk (s1.1 < 16) (some (s1.2.set s1.1.toNat v3))).bind fun v2 => chk (InI64 (s1.1 + 1)) (some (.inl ((s1.1 + 1), v2))) else out (some s1.2)
theorem le_sumN7 n s1 : Le0 (sumN10 n s1) (sum_half_B1 s1) := by
 unfold sumN10 sum_half_B1
 with_reducible repeat' first | apply le_sumN10 | refine B0 ?_ fun _ => ?_ | apply I0 | apply K0 | apply O0 | exact R0
def sumN12 (n : Nat) (s1 : Int × (List Int)) : Option (List Int) := loopN (sumN10 n ) n s1
theorem le_sumN9 n s1 : Le0 (sumN12 n s1) (sum_half_L1 s1) := Le0.loop (fun s => le_sumN7 n  s) n s1
def sum_half' (n : Nat) : Option (List Int) := (sumN12 n (0, (List.replicate 16 0))).bind fun v1 => chk (v1.length = 16) (chk (v1.length = 16) (chk (v1.length = 16) (some v1)))
theorem le_sum_half n : Le0 (sum_half' n) sum_half := by
 unfold sum_half' sum_half
 with_reducible repeat' first | apply le_sumN9 | refine B0 ?_ fun _ => ?_ | apply I0 | apply K0 | apply O0 | exact R0
def sum_of_B1' (_n : Nat) (p_b : List UInt8) (p_t : List Int) (s1 : Int × Int) : Option ((Int × Int) ⊕ Int) := if (decide (s1.2 < (p_b.length : Int))) then (idx p_b s1.2).bind fun x1 => (idx p_t (andK .u32 (xorK .u32 s1.1 (x1.toNat : Int)) 15)).bind fun x2 => chk ((andK .u32 (xorK .u32 s1.1 (x1.toNat : Int)) 15) < 16) ((idx p_t (andK .u32 (xorK .u32 x2 (shrK .u32 (xorK .u32 s1.1 (x1.toNat : Int)) 4)) 15)).bind fun x3 => chk ((andK .u32 (xorK .u32 x2 (shrK .u32 (xorK .u32 s1.1 (x1.toNat : Int)) 4)) 15) < 16) (chk (InI64 (s1.2 + 1)) (some (.inl ((xorK .u32 x3 (shrK .u32 (xorK .u32 x2 (shrK .u32 (xorK .u32 s1.1 (x1.toNat : Int)) 4)) 4)), (s1.2 + 1)))))) else out (some s1.1)
theorem le_sumN11 n p_b p_t s1 : Le0 (sum_of_B1' n p_b p_t s1) (sum_of_B1 p_b p_t s1) := by
 unfold sum_of_B1' sum_of_B1
 with_reducible repeat' first | refine B0 ?_ fun _ => ?_ | apply I0 | apply K0 | apply O0 | exact R0
def sum_of_L1' (n : Nat) (p_b : List UInt8) (p_t : List Int) (s1 : Int × Int) : Option Int := loopN (sum_of_B1' n p_b p_t) n s1
theorem le_sumN12 n p_b p_t s1 : Le0 (sum_of_L1' n p_b p_t s1) (sum_of_L1 p_b p_t s1) := Le0.loop (fun s => le_sumN11 n p_b p_t s) n s1
def sum_of' (n : Nat) (p_t : List Int) (p_b : List UInt8) : Option Int := (sum_of_L1' n p_b p_t (4294967295, 0)).bind fun v1 => some (IntKind.i64.wrap (xorK .u32 v1 4294967295))
theorem le_sum_of n p_t p_b : Le0 (sum_of' n p_t p_b) (sum_of p_t p_b) := by
 unfold sum_of' sum_of
 with_reducible repeat' first | apply le_sumN12 | refine B0 ?_ fun _ => ?_ | apply I0 | apply K0 | apply O0 | exact R0
def sumN2 (n : Nat) (x1 : (List Int)) (s1 : (List UInt8) × (List Int)) : Option (((List UInt8) × (List Int)) ⊕ (List Int)) := if (decide ((s1.1.length : Int) > 0)) then chk (x1.length = 16) (chk ((0 : Int) ≤ (min (s1.1.length : Int) 16) ∧ (min (s1.1.length : Int) 16) ≤ (s1.1.length : Int)) ((sum_of' n x1 (s1.1.take (min (s1.1.length : Int) 16).toNat)).bind fun x2 => chk ((s1.2.length + ([x2]).length) * 8 ≤ 140737488355328) (chk ((0 : Int) ≤ (min (s1.1.length : Int) 16) ∧ (min (s1.1.length : Int) 16) ≤ (s1.1.length : Int)) (some (.inl ((s1.1.drop (min (s1.1.length : Int) 16).toNat), (s1.2 ++ [x2]))))))) else out (some s1.2)
theorem le_sumN2 n x1 s1 : Le0 (sumN2 n x1 s1) (sumN1 x1 s1) := by
 unfold sumN2 sumN1
 with_reducible repeat' first | apply le_sum_of | refine B0 ?_ fun _ => ?_ | apply I0 | apply K0 | apply O0 | exact R0
def sumN4 (n : Nat) (x1 : (List Int)) (s1 : (List UInt8) × (List Int)) : Option (List Int) := loopN (sumN2 n x1) n s1
theorem le_sumN3 n x1 s1 : Le0 (sumN4 n x1 s1) (sumN3 x1 s1) := Le0.loop (fun s => le_sumN2 n x1 s) n s1
def sum_Blocks' (n : Nat) (p_data : List UInt8) : Option (List Int) := (sum_half' n).bind fun x1 => chk (x1.length = 16) ((sumN4 n x1 (p_data, [])).bind fun v1 => some v1)
theorem le_sumN1 n p_data : Le0 (sum_Blocks' n p_data) (sum_Blocks p_data) := by
 unfold sum_Blocks' sum_Blocks
 with_reducible repeat' first | apply le_sum_half | apply le_sumN3 | refine B0 ?_ fun _ => ?_ | apply I0 | apply K0 | apply O0 | exact R0
def chunk_New' (n : Nat) (p_id : Int) (p_ver : Int) (p_data : List UInt8) : Option api_Copy := (slicesN6 n p_data).bind fun x1 => (sum_Blocks' n p_data).bind fun x2 => some (⟨p_id, p_ver, x1, x2⟩ : api_Copy)
theorem le_chunkN6 n p_id p_ver p_data : Le0 (chunk_New' n p_id p_ver p_data) (chunk_New p_id p_ver p_data) := by
 unfold chunk_New' chunk_New
 with_reducible repeat' first | apply le_slicesN3 | apply le_sumN1 | refine B0 ?_ fun _ => ?_ | apply I0 | apply K0 | apply O0 | exact R0
def sumN6 (_n : Nat) (x1 : (List Int)) (p_sums : List Int) (s1 : Int) : Option ((Int) ⊕ Int) := if (decide (s1 < (min (x1.length : Int) (p_sums.length : Int)))) then (idx x1 s1).bind fun x2 => (idx p_sums s1).bind fun x3 => if (x2 != x3) then out (some s1) else chk (InI64 (s1 + 1)) (some (.inl (s1 + 1))) else out (sumN7 x1 p_sums ())
theorem le_sumN5 n x1 p_sums s1 : Le0 (sumN6 n x1 p_sums s1) (sumN5 x1 p_sums s1) := by
 unfold sumN6 sumN5
 with_reducible repeat' first | refine B0 ?_ fun _ => ?_ | apply I0 | apply K0 | apply O0 | exact R0
def sumN9 (n : Nat) (x1 : (List Int)) (p_sums : List Int) (s1 : Int) : Option Int := loopN (sumN6 n x1 p_sums) n s1
theorem le_sumN6 n x1 p_sums s1 : Le0 (sumN9 n x1 p_sums s1) (sumN8 x1 p_sums s1) := Le0.loop (fun s => le_sumN5 n x1 p_sums s) n s1
def sum_Check' (n : Nat) (p_data : List UInt8) (p_sums : List Int) : Option Int := (sum_Blocks' n p_data).bind fun x1 => sumN9 n x1 p_sums 0
theorem le_sumN4 n p_data p_sums : Le0 (sum_Check' n p_data p_sums) (sum_Check p_data p_sums) := by
 unfold sum_Check' sum_Check
 with_reducible repeat' first | apply le_sumN1 | apply le_sumN6 | refine B0 ?_ fun _ => ?_ | apply I0 | apply K0 | apply O0 | exact R0
def chunk_may' (n : Nat) (p_c : api_Copy) : Option Bool := ((chunkN20 p_c.Id).bind fun x1 => (if x1 then some (decide (p_c.Ver ≥ 0)) else some false).bind fun c1 => (if c1 then some (decide (p_c.Ver ≤ 1099511627776)) else some false).bind fun c2 => (if c2 then some (decide ((p_c.Data.length : Int) ≤ 64)) else some false).bind fun c3 => (if c3 then (sum_Check' n p_c.Data p_c.Sums).bind fun x2 => some (x2 == (-1)) else some false).bind fun c4 => some c4).bind fun v1 => some v1
theorem le_chunkN8 n p_c : Le0 (chunk_may' n p_c) (chunk_may p_c) := by
 unfold chunk_may' chunk_may
 with_reducible repeat' first | apply le_sumN4 | refine B0 ?_ fun _ => ?_ | apply I0 | apply K0 | apply O0 | exact R0
def packN1 (_n : Nat) (s1 : Int × (List UInt8)) : Option ((Int × (List UInt8)) ⊕ (Int × (List UInt8))) := if (decide (s1.1 ≥ 128)) then chk ((s1.2.length + ([((toU8 s1.1) ||| (128 : UInt8))]).length) * 1 ≤ 140737488355328) (some (.inl ((shrK .u64 s1.1 7), (s1.2 ++ [((toU8 s1.1) ||| (128 : UInt8))])))) else out (some (s1.1, s1.2))
theorem le_packN1 n s1 : Le0 (packN1 n s1) (pack_Int_B1 s1) := by
 unfold packN1 pack_Int_B1
 with_reducible repeat' first | refine B0 ?_ fun _ => ?_ | apply I0 | apply K0 | apply O0 | exact R0
def packN2 (n : Nat) (s1 : Int × (List UInt8)) : Option (Int × (List UInt8)) := loopN (packN1 n ) n s1
theorem le_packN2 n s1 : Le0 (packN2 n s1) (pack_Int_L1 s1) := Le0.loop (fun s => le_packN1 n  s) n s1
def pack_Int' (n : Nat) (p_n : Int) : Option (List UInt8) := (packN2 n ((xorK .u64 (shlK .u64 (IntKind.u64.wrap p_n) 1) (IntKind.u64.wrap (shrK .i64 p_n 63))), [])).bind fun v1 => chk ((v1.2.length + ([(toU8 v1.1)]).length) * 1 ≤ 140737488355328) (some (v1.2 ++ [(toU8 v1.1)]))
theorem le_pack_Int n p_n : Le0 (pack_Int' n p_n) (pack_Int p_n) := by
 unfold pack_Int' pack_Int
 with_reducible repeat' first | apply le_packN2 | refine B0 ?_ fun _ => ?_ | apply I0 | apply K0 | apply O0 | exact R0
def pack_Str' (n : Nat) (p_s : List UInt8) : Option (List UInt8) := (pack_Int' n (p_s.length : Int)).bind fun x1 => chk ((x1.length + p_s.length) * 1 ≤ 140737488355328) (some (x1 ++ p_s))
theorem le_pack_Str n p_s : Le0 (pack_Str' n p_s) (pack_Str p_s) := by
 unfold pack_Str' pack_Str
 with_reducible repeat' first | apply le_pack_Int | refine B0 ?_ fun _ => ?_ | apply I0 | apply K0 | apply O0 | exact R0
def packN21 (n : Nat) (p_l : List Int) (s1 : Int × (List UInt8)) : Option ((Int × (List UInt8)) ⊕ (List UInt8)) := if (decide (s1.1 < (p_l.length : Int))) then (idx p_l s1.1).bind fun x1 => (pack_Int' n x1).bind fun x2 => chk ((s1.2.length + x2.length) * 1 ≤ 140737488355328) (chk (InI64 (s1.1 + 1)) (some (.inl ((s1.1 + 1), (s1.2 ++ x2))))) else out (some s1.2)
theorem le_packN12 n p_l s1 : Le0 (packN21 n p_l s1) (packN20 p_l s1) := by
 unfold packN21 packN20
 with_reducible repeat' first | apply le_pack_Int | refine B0 ?_ fun _ => ?_ | apply I0 | apply K0 | apply O0 | exact R0
def packN23 (n : Nat) (p_l : List Int) (s1 : Int × (List UInt8)) : Option (List UInt8) := loopN (packN21 n p_l) n s1
theorem le_packN13 n p_l s1 : Le0 (packN23 n p_l s1) (packN22 p_l s1) := Le0.loop (fun s => le_packN12 n p_l s) n s1
def packN19 (n : Nat) (p_l : List Int) : Option (List UInt8) := (packN23 n p_l (0, [])).bind fun v1 => some v1
theorem le_packN11 n p_l : Le0 (packN19 n p_l) (packN18 p_l) := by
 unfold packN19 packN18
 with_reducible repeat' first | apply le_packN13 | refine B0 ?_ fun _ => ?_ | apply I0 | apply K0 | apply O0 | exact R0
def pack_Ints' (n : Nat) (p_l : List Int) : Option (List UInt8) := (pack_Int' n (p_l.length : Int)).bind fun x1 => (packN19 n p_l).bind fun x2 => chk ((x1.length + x2.length) * 1 ≤ 140737488355328) (some (x1 ++ x2))
theorem le_packN3 n p_l : Le0 (pack_Ints' n p_l) (pack_Ints p_l) := by
 unfold pack_Ints' pack_Ints
 with_reducible repeat' first | apply le_pack_Int | apply le_packN11 | refine B0 ?_ fun _ => ?_ | apply I0 | apply K0 | apply O0 | exact R0
def slicesN32 (_n : Nat) (p_slices : List (List UInt8)) (s1 : Int × Int) : Option ((Int × Int) ⊕ Int) := if (decide (s1.2 < (p_slices.length : Int))) then ((idx p_slices s1.2).bind fun x1 => chk (InI64 (s1.1 + (x1.length : Int))) (if (decide ((s1.1 + (x1.length : Int)) < 0)) then none else some (s1.1 + (x1.length : Int)))).bind fun v2 => chk (InI64 (s1.2 + 1)) (some (.inl (v2, (s1.2 + 1)))) else out (some s1.1)
theorem le_slicesN15 n p_slices s1 : Le0 (slicesN32 n p_slices s1) (slicesN31 p_slices s1) := by
 unfold slicesN32 slicesN31
 with_reducible repeat' first | refine B0 ?_ fun _ => ?_ | apply I0 | apply K0 | apply O0 | exact R0
def slicesN36 (n : Nat) (p_slices : List (List UInt8)) (s1 : Int × Int) : Option Int := loopN (slicesN32 n p_slices) n s1
theorem le_slicesN17 n p_slices s1 : Le0 (slicesN36 n p_slices s1) (slicesN35 p_slices s1) := Le0.loop (fun s => le_slicesN15 n p_slices s) n s1
def slicesN34 (_n : Nat) (p_slices : List (List UInt8)) (s2 : Int × (List UInt8)) : Option ((Int × (List UInt8)) ⊕ (List UInt8)) := if (decide (s2.1 < (p_slices.length : Int))) then (idx p_slices s2.1).bind fun x3 => chk ((s2.2.length + x3.length) * 1 ≤ 140737488355328) (chk (InI64 (s2.1 + 1)) (some (.inl ((s2.1 + 1), (s2.2 ++ x3))))) else out (some s2.2)
theorem le_slicesN16 n p_slices s2 : Le0 (slicesN34 n p_slices s2) (slicesN33 p_slices s2) := by
 unfold slicesN34 slicesN33
 with_reducible repeat' first | refine B0 ?_ fun _ => ?_ | apply I0 | apply K0 | apply O0 | exact R0
def slicesN38 (n : Nat) (p_slices : List (List UInt8)) (s2 : Int × (List UInt8)) : Option (List UInt8) := loopN (slicesN34 n p_slices) n s2
theorem le_slicesN18 n p_slices s2 : Le0 (slicesN38 n p_slices s2) (slicesN37 p_slices s2) := Le0.loop (fun s => le_slicesN16 n p_slices s) n s2
def slicesN30 (n : Nat) (p_slices : List (List UInt8)) : Option (List UInt8) := (slicesN36 n p_slices (0, 0)).bind fun v1 => (slicesN44 v1).bind fun x2 => (slicesN38 n p_slices (0, x2)).bind fun v3 => some v3
theorem le_slicesN14 n p_slices : Le0 (slicesN30 n p_slices) (slicesN29 p_slices) := by
 unfold slicesN30 slicesN29
 with_reducible repeat' first | apply le_slicesN17 | apply le_slicesN18 | refine B0 ?_ fun _ => ?_ | apply I0 | apply K0 | apply O0 | exact R0
def sum_Of' (n : Nat) (p_b : List UInt8) : Option Int := (sum_half' n).bind fun x1 => (sum_of' n x1 p_b).bind fun x2 => some x2
theorem le_sum_Of n p_b : Le0 (sum_Of' n p_b) (sum_Of p_b) := by
 unfold sum_Of' sum_Of
 with_reducible repeat' first | apply le_sum_half | apply le_sum_of | refine B0 ?_ fun _ => ?_ | apply I0 | apply K0 | apply O0 | exact R0
def chunkN6 (_n : Nat) (x6 : Int) (s1 : Int × (List UInt8)) : Option ((Int × (List UInt8)) ⊕ (List UInt8)) := if (decide (s1.1 < 4)) then chk (InI64 (8 * s1.1)) (chk ((0 : Int) ≤ (8 * s1.1)) (chk ((s1.2.length + ([(toU8 (shrK .i64 x6 (8 * s1.1)))]).length) * 1 ≤ 140737488355328) (chk (InI64 (s1.1 + 1)) (some (.inl ((s1.1 + 1), (s1.2 ++ [(toU8 (shrK .i64 x6 (8 * s1.1)))]))))))) else out (some s1.2)
theorem le_chunkN10 n x6 s1 : Le0 (chunkN6 n x6 s1) (chunkN5 x6 s1) := by
 unfold chunkN6 chunkN5
 with_reducible repeat' first | refine B0 ?_ fun _ => ?_ | apply I0 | apply K0 | apply O0 | exact R0
def chunkN8 (n : Nat) (x6 : Int) (s1 : Int × (List UInt8)) : Option (List UInt8) := loopN (chunkN6 n x6) n s1
theorem le_chunkN11 n x6 s1 : Le0 (chunkN8 n x6 s1) (chunkN7 x6 s1) := Le0.loop (fun s => le_chunkN10 n x6 s) n s1
def chunk_page' (n : Nat) (p_c : api_Copy) : Option (List UInt8) := (pack_Int' n p_c.Id).bind fun x1 => (pack_Int' n p_c.Ver).bind fun x2 => (pack_Str' n p_c.Data).bind fun x3 => (pack_Ints' n p_c.Sums).bind fun x4 => (slicesN30 n ([x1, x2, x3, x4])).bind fun x5 => (sum_Of' n x5).bind fun x6 => (chunkN8 n x6 (0, x5)).bind fun v1 => some v1
theorem le_chunkN9 n p_c : Le0 (chunk_page' n p_c) (chunk_page p_c) := by
 unfold chunk_page' chunk_page
 with_reducible repeat' first | apply le_pack_Int | apply le_pack_Str | apply le_packN3 | apply le_slicesN14 | apply le_sum_Of | apply le_chunkN11 | refine B0 ?_ fun _ => ?_ | apply I0 | apply K0 | apply O0 | exact R0
def slicesN4 (_n : Nat) (p_s : List api_Page) : Option (List api_Page) := chk (p_s.length * 32 ≤ 140737488355328) (some p_s)
theorem eq_slicesN2 (p_s : List api_Page) (h : p_s.length * 32 ≤ 140737488355328) : slicesN3 p_s = some p_s := by
 unfold slicesN3
 refine Le0.clone fun b hb => ?_
 cases b with
 | true => rw [hb rfl]; rfl
 | false =>
  rw [if_neg (by decide)]
  show chk _ _ = _
  unfold chk
  rw [if_pos (by simpa using h)]; rfl
theorem le_slicesN2 n p_s : Le0 (slicesN4 n p_s) (slicesN3 p_s) := fun r hr => by
 obtain ⟨h1, h2⟩ := chk_some hr
 cases h2
 exact eq_slicesN2 _ h1
def bytesN1 (_n : Nat) (p_b : List UInt8) : Option (List UInt8) := chk (p_b.length * 1 ≤ 140737488355328) (some p_b)
theorem eq_bytesN1 (p_b : List UInt8) (h : p_b.length * 1 ≤ 140737488355328) : bytes_Clone p_b = some p_b := by
 unfold bytes_Clone
 refine Le0.clone fun b hb => ?_
 cases b with
 | true => rw [hb rfl]; rfl
 | false =>
  rw [if_neg (by decide)]
  show chk _ _ = _
  unfold chk
  rw [if_pos (by simpa using h)]; rfl
theorem le_bytesN1 n p_b : Le0 (bytesN1 n p_b) (bytes_Clone p_b) := fun r hr => by
 obtain ⟨h1, h2⟩ := chk_some hr
 cases h2
 exact eq_bytesN1 _ h1
def disk_Write' (n : Nat) (p_d : api_Disk) (p_at : Int) (p_data : List UInt8) : Option (api_Disk × Int) := if p_d.Down then some (p_d, 40) else (disk_may p_at p_data).bind fun x1 => if (!x1) then some (p_d, 1) else (slicesN4 n p_d.Loose).bind fun x2 => (bytesN1 n p_data).bind fun x3 => chk ((x2.length + ([(⟨p_at, x3⟩ : api_Page)]).length) * 32 ≤ 140737488355328) (some ((⟨p_d.Synced, (x2 ++ [(⟨p_at, x3⟩ : api_Page)]), p_d.Down⟩ : api_Disk), 0))
theorem le_diskN4 n p_d p_at p_data : Le0 (disk_Write' n p_d p_at p_data) (disk_Write p_d p_at p_data) := by
 unfold disk_Write' disk_Write
 with_reducible repeat' first | apply le_slicesN2 | apply le_bytesN1 | refine B0 ?_ fun _ => ?_ | apply I0 | apply K0 | apply O0 | exact R0
def chunk_Put' (n : Nat) (p_d : api_Disk) (p_c : api_Copy) : Option (api_Disk × Int) := (chunk_may' n p_c).bind fun x1 => if (!x1) then some (p_d, 1) else (chunk_page' n p_c).bind fun x2 => (disk_Write' n p_d p_c.Id x2).bind fun x3 => some (x3.1, x3.2)
theorem le_chunkN7 n p_d p_c : Le0 (chunk_Put' n p_d p_c) (chunk_Put p_d p_c) := by
 unfold chunk_Put' chunk_Put
 with_reducible repeat' first | apply le_chunkN8 | apply le_chunkN9 | apply le_diskN4 | refine B0 ?_ fun _ => ?_ | apply I0 | apply K0 | apply O0 | exact R0
def slicesN22 (_n : Nat) (p_slices : List (List api_Page)) (s1 : Int × Int) : Option ((Int × Int) ⊕ Int) := if (decide (s1.2 < (p_slices.length : Int))) then ((idx p_slices s1.2).bind fun x1 => chk (InI64 (s1.1 + (x1.length : Int))) (if (decide ((s1.1 + (x1.length : Int)) < 0)) then none else some (s1.1 + (x1.length : Int)))).bind fun v2 => chk (InI64 (s1.2 + 1)) (some (.inl (v2, (s1.2 + 1)))) else out (some s1.1)
theorem le_slicesN10 n p_slices s1 : Le0 (slicesN22 n p_slices s1) (slicesN21 p_slices s1) := by
 unfold slicesN22 slicesN21
 with_reducible repeat' first | refine B0 ?_ fun _ => ?_ | apply I0 | apply K0 | apply O0 | exact R0
def slicesN26 (n : Nat) (p_slices : List (List api_Page)) (s1 : Int × Int) : Option Int := loopN (slicesN22 n p_slices) n s1
theorem le_slicesN12 n p_slices s1 : Le0 (slicesN26 n p_slices s1) (slicesN25 p_slices s1) := Le0.loop (fun s => le_slicesN10 n p_slices s) n s1
def slicesN24 (_n : Nat) (p_slices : List (List api_Page)) (s2 : Int × (List api_Page)) : Option ((Int × (List api_Page)) ⊕ (List api_Page)) := if (decide (s2.1 < (p_slices.length : Int))) then (idx p_slices s2.1).bind fun x3 => chk ((s2.2.length + x3.length) * 32 ≤ 140737488355328) (chk (InI64 (s2.1 + 1)) (some (.inl ((s2.1 + 1), (s2.2 ++ x3))))) else out (some s2.2)
theorem le_slicesN11 n p_slices s2 : Le0 (slicesN24 n p_slices s2) (slicesN23 p_slices s2) := by
 unfold slicesN24 slicesN23
 with_reducible repeat' first | refine B0 ?_ fun _ => ?_ | apply I0 | apply K0 | apply O0 | exact R0
def slicesN28 (n : Nat) (p_slices : List (List api_Page)) (s2 : Int × (List api_Page)) : Option (List api_Page) := loopN (slicesN24 n p_slices) n s2
theorem le_slicesN13 n p_slices s2 : Le0 (slicesN28 n p_slices s2) (slicesN27 p_slices s2) := Le0.loop (fun s => le_slicesN11 n p_slices s) n s2
def slicesN20 (n : Nat) (p_slices : List (List api_Page)) : Option (List api_Page) := (slicesN26 n p_slices (0, 0)).bind fun v1 => (slicesN43 v1).bind fun x2 => (slicesN28 n p_slices (0, x2)).bind fun v3 => some v3
theorem le_slicesN9 n p_slices : Le0 (slicesN20 n p_slices) (slicesN19 p_slices) := by
 unfold slicesN20 slicesN19
 with_reducible repeat' first | apply le_slicesN12 | apply le_slicesN13 | refine B0 ?_ fun _ => ?_ | apply I0 | apply K0 | apply O0 | exact R0
def diskN4 (_n : Nat) (x1 : (List api_Page)) (s1 : Int × (List (Int × api_Page))) : Option ((Int × (List (Int × api_Page))) ⊕ (List (Int × api_Page))) := if (decide (s1.1 < (x1.length : Int))) then (idx x1 s1.1).bind fun x2 => chk (InI64 x2.At ∧ s1.2.length < 140737488355328) (chk (InI64 (s1.1 + 1)) (some (.inl ((s1.1 + 1), (mset x2.At x2 s1.2))))) else out (some s1.2)
theorem le_diskN7 n x1 s1 : Le0 (diskN4 n x1 s1) (diskN3 x1 s1) := by
 unfold diskN4 diskN3
 with_reducible repeat' first | refine B0 ?_ fun _ => ?_ | apply I0 | apply K0 | apply O0 | exact R0
def diskN8 (n : Nat) (x1 : (List api_Page)) (s1 : Int × (List (Int × api_Page))) : Option (List (Int × api_Page)) := loopN (diskN4 n x1) n s1
theorem le_diskN9 n x1 s1 : Le0 (diskN8 n x1 s1) (diskN7 x1 s1) := Le0.loop (fun s => le_diskN7 n x1 s) n s1
def diskN6 (_n : Nat) (x3 : List Int) (v1 : (List (Int × api_Page))) (s2 : Int × (List api_Page)) : Option ((Int × (List api_Page)) ⊕ (List api_Page)) := if (decide (s2.1 < (x3.length : Int))) then (idx x3 s2.1).bind fun x4 => (some ((mget x4 v1).getD ((⟨0, []⟩ : api_Page) : api_Page))).bind fun x5 => chk ((s2.2.length + ([x5]).length) * 32 ≤ 140737488355328) (chk (InI64 (s2.1 + 1)) (some (.inl ((s2.1 + 1), (s2.2 ++ [x5]))))) else out (some s2.2)
theorem le_diskN8 n x3 v1 s2 : Le0 (diskN6 n x3 v1 s2) (diskN5 x3 v1 s2) := by
 unfold diskN6 diskN5
 with_reducible repeat' first | refine B0 ?_ fun _ => ?_ | apply I0 | apply K0 | apply O0 | exact R0
def diskN10 (n : Nat) (x3 : List Int) (v1 : (List (Int × api_Page))) (s2 : Int × (List api_Page)) : Option (List api_Page) := loopN (diskN6 n x3 v1) n s2
theorem le_diskN10 n x3 v1 s2 : Le0 (diskN10 n x3 v1 s2) (diskN9 x3 v1 s2) := Le0.loop (fun s => le_diskN8 n x3 v1 s) n s2
def disk_laid' (n : Nat) (p_l : List api_Page) (p_over : List api_Page) : Option (List api_Page) := ((slicesN20 n ([p_l, p_over])).bind fun x1 => diskN8 n x1 (0, ([] : List (Int × api_Page)))).bind fun v1 => (chk (v1.length * 8 ≤ 140737488355328) ((some (keysJ v1)).bind fun x3 => diskN10 n x3 v1 (0, []))).bind fun v2 => some v2
theorem le_diskN6 n p_l p_over : Le0 (disk_laid' n p_l p_over) (disk_laid p_l p_over) := by
 unfold disk_laid' disk_laid
 simp only [keysJ_eq, sortJ_eq]
 with_reducible repeat' first | apply le_slicesN9 | apply le_diskN9 | apply le_diskN10 | refine B0 ?_ fun _ => ?_ | apply I0 | apply K0 | apply O0 | exact R0
def disk_Sync' (n : Nat) (p_d : api_Disk) : Option (api_Disk × Int) := if p_d.Down then some (p_d, 40) else (disk_laid' n p_d.Synced p_d.Loose).bind fun x1 => some ((⟨x1, [], false⟩ : api_Disk), 0)
theorem le_diskN3 n p_d : Le0 (disk_Sync' n p_d) (disk_Sync p_d) := by
 unfold disk_Sync' disk_Sync
 with_reducible repeat' first | apply le_diskN6 | refine B0 ?_ fun _ => ?_ | apply I0 | apply K0 | apply O0 | exact R0
def law27_on' (n : Nat) (p_d : api_Disk) (p_c : api_Copy) : Option api_Disk := (chunk_Put' n p_d p_c).bind fun x1 => if (x1.2 != 0) then some p_d else (disk_Sync' n x1.1).bind fun x2 => if (x2.2 != 0) then some p_d else some x2.1
theorem le_law27_on n p_d p_c : Le0 (law27_on' n p_d p_c) (law27_on p_d p_c) := by
 unfold law27_on' law27_on
 with_reducible repeat' first | apply le_chunkN7 | apply le_diskN3 | refine B0 ?_ fun _ => ?_ | apply I0 | apply K0 | apply O0 | exact R0
def disk_Crash' (n : Nat) (p_d : api_Disk) (p_keep : Int) : Option api_Disk := chk ((0 : Int) ≤ (min (max p_keep 0) (p_d.Loose.length : Int)) ∧ (min (max p_keep 0) (p_d.Loose.length : Int)) ≤ (p_d.Loose.length : Int)) ((disk_laid' n p_d.Synced (p_d.Loose.take (min (max p_keep 0) (p_d.Loose.length : Int)).toNat)).bind fun x1 => some (⟨x1, [], true⟩ : api_Disk))
theorem le_diskN1 n p_d p_keep : Le0 (disk_Crash' n p_d p_keep) (disk_Crash p_d p_keep) := by
 unfold disk_Crash' disk_Crash
 with_reducible repeat' first | apply le_diskN6 | refine B0 ?_ fun _ => ?_ | apply I0 | apply K0 | apply O0 | exact R0
def slicesN76 (_n : Nat) (s1 : Int × Int × (List api_Page)) : Option ((Int × Int × (List api_Page)) ⊕ (Unit × List api_Page)) := if (decide (s1.1 < s1.2.1)) then (idx s1.2.2 s1.2.1).bind fun x1 => (idx s1.2.2 s1.1).bind fun x2 => (idx s1.2.2 s1.1).bind fun _ => (idx (s1.2.2.set s1.1.toNat x1) s1.2.1).bind fun _ => chk (InI64 (s1.1 + 1)) (chk (InI64 (s1.2.1 - 1)) (some (.inl ((s1.1 + 1), (s1.2.1 - 1), ((s1.2.2.set s1.1.toNat x1).set s1.2.1.toNat x2))))) else out (some ((), s1.2.2))
theorem le_slicesN34 n s1 : Le0 (slicesN76 n s1) (slicesN75 s1) := by
 unfold slicesN76 slicesN75
 with_reducible repeat' first | refine B0 ?_ fun _ => ?_ | apply I0 | apply K0 | apply O0 | exact R0
def slicesN78 (n : Nat) (s1 : Int × Int × (List api_Page)) : Option (Unit × List api_Page) := loopN (slicesN76 n ) n s1
theorem le_slicesN35 n s1 : Le0 (slicesN78 n s1) (slicesN77 s1) := Le0.loop (fun s => le_slicesN34 n  s) n s1
def slicesN74 (n : Nat) (self : List api_Page) : Option (Unit × List api_Page) := chk (InI64 ((self.length : Int) - 1)) (slicesN78 n (0, ((self.length : Int) - 1), self))
theorem le_slicesN33 n self : Le0 (slicesN74 n self) (slicesN73 self) := by
 unfold slicesN74 slicesN73
 with_reducible repeat' first | apply le_slicesN35 | refine B0 ?_ fun _ => ?_ | apply I0 | apply K0 | apply O0 | exact R0
def slicesN55 (_n : Nat) (p_s : List api_Page) (p_f_c0_0 : Int) (s1 : Int) : Option ((Int) ⊕ Int) := if (decide (s1 < (p_s.length : Int))) then (idx p_s s1).bind fun x1 => (disk_Read_1 x1 p_f_c0_0).bind fun x2 => if x2 then out (some s1) else chk (InI64 (s1 + 1)) (some (.inl (s1 + 1))) else out (slicesN56 ())
theorem le_slicesN25 n p_s p_f_c0_0 s1 : Le0 (slicesN55 n p_s p_f_c0_0 s1) (slicesN54 p_s p_f_c0_0 s1) := by
 unfold slicesN55 slicesN54
 with_reducible repeat' first | refine B0 ?_ fun _ => ?_ | apply I0 | apply K0 | apply O0 | exact R0
def slicesN58 (n : Nat) (p_s : List api_Page) (p_f_c0_0 : Int) (s1 : Int) : Option Int := loopN (slicesN55 n p_s p_f_c0_0) n s1
theorem le_slicesN26 n p_s p_f_c0_0 s1 : Le0 (slicesN58 n p_s p_f_c0_0 s1) (slicesN57 p_s p_f_c0_0 s1) := Le0.loop (fun s => le_slicesN25 n p_s p_f_c0_0 s) n s1
def slicesN53 (n : Nat) (p_s : List api_Page) (p_f_c0_0 : Int) : Option Int := slicesN58 n p_s p_f_c0_0 0
theorem le_slicesN24 n p_s p_f_c0_0 : Le0 (slicesN53 n p_s p_f_c0_0) (slicesN52 p_s p_f_c0_0) := by
 unfold slicesN53 slicesN52
 with_reducible repeat' first | apply le_slicesN26 | refine B0 ?_ fun _ => ?_ | apply I0 | apply K0 | apply O0 | exact R0
def diskN2 (n : Nat) (p_l : List api_Page) (p_is_c0 : Int) : Option Int := (slicesN53 n p_l p_is_c0).bind fun x1 => some x1
theorem le_diskN5 n p_l p_is_c0 : Le0 (diskN2 n p_l p_is_c0) (diskN1 p_l p_is_c0) := by
 unfold diskN2 diskN1
 with_reducible repeat' first | apply le_slicesN24 | refine B0 ?_ fun _ => ?_ | apply I0 | apply K0 | apply O0 | exact R0
def disk_Read' (n : Nat) (p_d : api_Disk) (p_at : Int) : Option ((List UInt8) × Int) := if p_d.Down then some ([], 40) else (disk_may p_at ([])).bind fun x1 => if (!x1) then some ([], 1) else (slicesN20 n ([p_d.Synced, p_d.Loose])).bind fun x2 => (slicesN74 n x2).bind fun x3 => (diskN2 n x3.2 p_at).bind fun x4 => if (decide (x4 < 0)) then some ([], 41) else (idx x3.2 x4).bind fun x5 => (bytesN1 n x5.Data).bind fun x6 => some (x6, 0)
theorem le_diskN2 n p_d p_at : Le0 (disk_Read' n p_d p_at) (disk_Read p_d p_at) := by
 unfold disk_Read' disk_Read
 with_reducible repeat' first | apply le_slicesN9 | apply le_slicesN33 | apply le_diskN5 | apply le_bytesN1 | refine B0 ?_ fun _ => ?_ | apply I0 | apply K0 | apply O0 | exact R0
def chunkN19 (n : Nat) (p_d : api_Disk) (p_id : Int) : Option ((List UInt8) × Int) := (chunkN20 p_id).bind fun x1 => if (!x1) then some ([], 1) else (disk_Read' n p_d p_id).bind fun x2 => ((if (x2.2 == 0) then some ((x2.1.length : Int) == 0) else some false).bind fun c1 => some c1).bind fun v1 => if v1 then some ([], 41) else some (x2.1, x2.2)
theorem le_chunkN17 n p_d p_id : Le0 (chunkN19 n p_d p_id) (chunk_there p_d p_id) := by
 unfold chunkN19 chunk_there
 with_reducible repeat' first | apply le_diskN2 | refine B0 ?_ fun _ => ?_ | apply I0 | apply K0 | apply O0 | exact R0
def packN6 (_n : Nat) (p_b : List UInt8) (s1 : Int × Int) : Option ((Int × Int) ⊕ (Int × (List UInt8) × Int)) := if (decide (s1.2 < (p_b.length : Int))) then (idx p_b s1.2).bind fun x1 => ((if (s1.2 == 9) then some (decide ((x1.toNat : Int) > 1)) else some false).bind fun c1 => some c1).bind fun v2 => if v2 then out (some (0, [], 11)) else chk (InI64 (7 * s1.2)) (chk ((0 : Int) ≤ (7 * s1.2)) (if (decide ((x1.toNat : Int) ≥ 128)) then chk (InI64 (s1.2 + 1)) (some (.inl ((orK .u64 s1.1 (shlK .u64 ((x1 &&& (127 : UInt8)).toNat : Int) (7 * s1.2))), (s1.2 + 1)))) else ((if ((x1.toNat : Int) == 0) then some (decide (s1.2 > 0)) else some false).bind fun c2 => some c2).bind fun v3 => if v3 then out (some (0, [], 11)) else chk (InI64 (0 - (IntKind.i64.wrap (andK .u64 (orK .u64 s1.1 (shlK .u64 ((x1 &&& (127 : UInt8)).toNat : Int) (7 * s1.2))) 1)))) (chk (InI64 (s1.2 + 1)) (chk ((0 : Int) ≤ (s1.2 + 1) ∧ (s1.2 + 1) ≤ (p_b.length : Int)) (out (some ((xorK .i64 (IntKind.i64.wrap (shrK .u64 (orK .u64 s1.1 (shlK .u64 ((x1 &&& (127 : UInt8)).toNat : Int) (7 * s1.2))) 1)) (0 - (IntKind.i64.wrap (andK .u64 (orK .u64 s1.1 (shlK .u64 ((x1 &&& (127 : UInt8)).toNat : Int) (7 * s1.2))) 1)))), (p_b.drop (s1.2 + 1).toNat), 0))))))) else out (packN7 ())
theorem le_packN5 n p_b s1 : Le0 (packN6 n p_b s1) (packN5 p_b s1) := by
 unfold packN6 packN5
 with_reducible repeat' first | refine B0 ?_ fun _ => ?_ | apply I0 | apply K0 | apply O0 | exact R0
def packN9 (n : Nat) (p_b : List UInt8) (s1 : Int × Int) : Option (Int × (List UInt8) × Int) := loopN (packN6 n p_b) n s1
theorem le_packN6 n p_b s1 : Le0 (packN9 n p_b s1) (packN8 p_b s1) := Le0.loop (fun s => le_packN5 n p_b s) n s1
def packN4 (n : Nat) (p_b : List UInt8) : Option (Int × (List UInt8) × Int) := packN9 n p_b (0, 0)
theorem le_packN4 n p_b : Le0 (packN4 n p_b) (packN3 p_b) := by
 unfold packN4 packN3
 with_reducible repeat' first | apply le_packN6 | refine B0 ?_ fun _ => ?_ | apply I0 | apply K0 | apply O0 | exact R0
def chunkN14 (n : Nat) (self : chunk_reader) : Option (Int × chunk_reader) := (packN4 n self.b_).bind fun x1 => ((if self.bad_ then some true else some (x1.2.2 != 0)).bind fun c1 => some c1).bind fun v1 => if v1 then some (0, (⟨self.b_, true⟩ : chunk_reader)) else some (x1.1, (⟨x1.2.1, self.bad_⟩ : chunk_reader))
theorem le_chunkN14 n self : Le0 (chunkN14 n self) (chunkN13 self) := by
 unfold chunkN14 chunkN13
 with_reducible repeat' first | apply le_packN4 | refine B0 ?_ fun _ => ?_ | apply I0 | apply K0 | apply O0 | exact R0
def chunkN12 (n : Nat) (self : chunk_reader) : Option (Int × chunk_reader) := (chunkN14 n self).bind fun x1 => some (x1.1, x1.2)
theorem le_chunkN13 n self : Le0 (chunkN12 n self) (chunkN11 self) := by
 unfold chunkN12 chunkN11
 with_reducible repeat' first | apply le_chunkN14 | refine B0 ?_ fun _ => ?_ | apply I0 | apply K0 | apply O0 | exact R0
def packN28 (n : Nat) (self : pack_reader) : Option (Int × pack_reader) := if (self.e_ != 0) then some (0, self) else (packN4 n self.rest_.b_).bind fun x1 => some (x1.1, (⟨(⟨x1.2.1⟩ : pack_rest), x1.2.2⟩ : pack_reader))
theorem le_packN15 n self : Le0 (packN28 n self) (packN27 self) := by
 unfold packN28 packN27
 with_reducible repeat' first | apply le_packN4 | refine B0 ?_ fun _ => ?_ | apply I0 | apply K0 | apply O0 | exact R0
def packN25 (n : Nat) (self : pack_reader) : Option (Int × pack_reader) := (packN28 n self).bind fun x1 => if (x1.2.e_ != 0) then some (0, x1.2) else if (decide (x1.1 < 0)) then packN26 x1 11 else if (decide (x1.1 > (x1.2.rest_.b_.length : Int))) then packN26 x1 10 else some (x1.1, x1.2)
theorem le_packN14 n self : Le0 (packN25 n self) (packN24 self) := by
 unfold packN25 packN24
 with_reducible repeat' first | apply le_packN15 | refine B0 ?_ fun _ => ?_ | apply I0 | apply K0 | apply O0 | exact R0
def packN30 (n : Nat) (self : pack_reader) : Option ((List UInt8) × pack_reader) := (packN25 n self).bind fun x1 => if (x1.2.e_ != 0) then some ([], x1.2) else (packN31 x1.2 x1.1).bind fun x2 => some (x2.1, x2.2)
theorem le_packN16 n self : Le0 (packN30 n self) (packN29 self) := by
 unfold packN30 packN29
 with_reducible repeat' first | apply le_packN14 | refine B0 ?_ fun _ => ?_ | apply I0 | apply K0 | apply O0 | exact R0
def packN17 (n : Nat) (p_b : List UInt8) : Option ((List UInt8) × (List UInt8) × Int) := (packN30 n (⟨(⟨p_b⟩ : pack_rest), 0⟩ : pack_reader)).bind fun x1 => if (x1.2.e_ != 0) then some ([], [], x1.2.e_) else some (x1.1, x1.2.rest_.b_, 0)
theorem le_packN10 n p_b : Le0 (packN17 n p_b) (packN16 p_b) := by
 unfold packN17 packN16
 with_reducible repeat' first | apply le_packN16 | refine B0 ?_ fun _ => ?_ | apply I0 | apply K0 | apply O0 | exact R0
def chunkN18 (n : Nat) (self : chunk_reader) : Option ((List UInt8) × chunk_reader) := (packN17 n self.b_).bind fun x1 => ((if self.bad_ then some true else some (x1.2.2 != 0)).bind fun c1 => some c1).bind fun v1 => if v1 then some ([], (⟨self.b_, true⟩ : chunk_reader)) else some (x1.1, (⟨x1.2.1, self.bad_⟩ : chunk_reader))
theorem le_chunkN16 n self : Le0 (chunkN18 n self) (chunkN17 self) := by
 unfold chunkN18 chunkN17
 with_reducible repeat' first | apply le_packN10 | refine B0 ?_ fun _ => ?_ | apply I0 | apply K0 | apply O0 | exact R0
def packN13 (n : Nat) (x1 : Int × pack_reader) (s1 : Int × (List UInt8) × Int × (List Int)) : Option ((Int × (List UInt8) × Int × (List Int)) ⊕ ((List UInt8) × Int × (List Int))) := if (decide (s1.1 < x1.1)) then (packN28 n (⟨(⟨s1.2.1⟩ : pack_rest), s1.2.2.1⟩ : pack_reader)).bind fun x2 => chk ((s1.2.2.2.length + ([x2.1]).length) * 8 ≤ 140737488355328) (if (x2.2.e_ != 0) then out (some (x2.2.rest_.b_, x2.2.e_, (s1.2.2.2 ++ [x2.1]))) else chk (InI64 (s1.1 + 1)) (some (.inl ((s1.1 + 1), x2.2.rest_.b_, x2.2.e_, (s1.2.2.2 ++ [x2.1]))))) else out (some (s1.2.1, s1.2.2.1, s1.2.2.2))
theorem le_packN8 n x1 s1 : Le0 (packN13 n x1 s1) (packN12 x1 s1) := by
 unfold packN13 packN12
 with_reducible repeat' first | apply le_packN15 | refine B0 ?_ fun _ => ?_ | apply I0 | apply K0 | apply O0 | exact R0
def packN15 (n : Nat) (x1 : Int × pack_reader) (s1 : Int × (List UInt8) × Int × (List Int)) : Option ((List UInt8) × Int × (List Int)) := loopN (packN13 n x1) n s1
theorem le_packN9 n x1 s1 : Le0 (packN15 n x1 s1) (packN14 x1 s1) := Le0.loop (fun s => le_packN8 n x1 s) n s1
def packN11 (n : Nat) (p_b : List UInt8) : Option ((List Int) × (List UInt8) × Int) := ((packN25 n (⟨(⟨p_b⟩ : pack_rest), 0⟩ : pack_reader)).bind fun x1 => packN15 n x1 (0, x1.2.rest_.b_, x1.2.e_, [])).bind fun v1 => if (v1.2.1 != 0) then some ([], [], v1.2.1) else some (v1.2.2, v1.1, 0)
theorem le_packN7 n p_b : Le0 (packN11 n p_b) (packN10 p_b) := by
 unfold packN11 packN10
 with_reducible repeat' first | apply le_packN14 | apply le_packN9 | refine B0 ?_ fun _ => ?_ | apply I0 | apply K0 | apply O0 | exact R0
def chunkN16 (n : Nat) (self : chunk_reader) : Option ((List Int) × chunk_reader) := (packN11 n self.b_).bind fun x1 => ((if self.bad_ then some true else some (x1.2.2 != 0)).bind fun c1 => some c1).bind fun v1 => if v1 then some ([], (⟨self.b_, true⟩ : chunk_reader)) else some (x1.1, (⟨x1.2.1, self.bad_⟩ : chunk_reader))
theorem le_chunkN15 n self : Le0 (chunkN16 n self) (chunkN15 self) := by
 unfold chunkN16 chunkN15
 with_reducible repeat' first | apply le_packN7 | refine B0 ?_ fun _ => ?_ | apply I0 | apply K0 | apply O0 | exact R0
def chunkN10 (n : Nat) (self : chunk_reader) : Option ((api_Copy × Bool) × chunk_reader) := (chunkN12 n self).bind fun x1 => (chunkN12 n x1.2).bind fun x2 => (chunkN18 n x2.2).bind fun x3 => chk (x3.1.length ≤ 140737488355328) ((chunkN16 n x3.2).bind fun x4 => ((if (!x4.2.bad_) then some ((x4.2.b_.length : Int) == 0) else some false).bind fun c1 => some c1).bind fun v1 => some (((⟨x1.1, x2.1, x3.1, x4.1⟩ : api_Copy), v1), x4.2))
theorem le_chunkN12 n self : Le0 (chunkN10 n self) (chunkN9 self) := by
 unfold chunkN10 chunkN9
 with_reducible repeat' first | apply le_chunkN13 | apply le_chunkN16 | apply le_chunkN15 | refine B0 ?_ fun _ => ?_ | apply I0 | apply K0 | apply O0 | exact R0
def chunk_Get' (n : Nat) (p_d : api_Disk) (p_id : Int) : Option (api_Copy × Int) := (chunkN19 n p_d p_id).bind fun x1 => if (x1.2 != 0) then some ((⟨0, 0, [], []⟩ : api_Copy), x1.2) else if (decide ((x1.1.length : Int) < 4)) then some ((⟨0, 0, [], []⟩ : api_Copy), 251) else chk (InI64 ((x1.1.length : Int) - 4)) (chk ((0 : Int) ≤ ((x1.1.length : Int) - 4) ∧ ((x1.1.length : Int) - 4) ≤ (x1.1.length : Int)) ((chunkN10 n (⟨(x1.1.take ((x1.1.length : Int) - 4).toNat), false⟩ : chunk_reader)).bind fun x2 => ((if (!x2.1.2) then some true else (chunk_may' n x2.1.1).bind fun x3 => some (!x3)).bind fun c1 => (if c1 then some true else some (x2.1.1.Id != p_id)).bind fun c2 => (if c2 then some true else (chunk_page' n x2.1.1).bind fun x4 => (bytes_Equal x4 x1.1).bind fun x5 => some (!x5)).bind fun c3 => some c3).bind fun v1 => if v1 then some ((⟨0, 0, [], []⟩ : api_Copy), 251) else some (x2.1.1, 0)))
theorem le_chunkN1 n p_d p_id : Le0 (chunk_Get' n p_d p_id) (chunk_Get p_d p_id) := by
 unfold chunk_Get' chunk_Get
 with_reducible repeat' first | apply le_chunkN17 | apply le_chunkN12 | apply le_chunkN8 | apply le_chunkN9 | refine B0 ?_ fun _ => ?_ | apply I0 | apply K0 | apply O0 | exact R0
def scrubN51 (n : Nat) (p_disks : List api_Disk) (p_c : api_Chain) (p_s : Int) : Option Int := ((if (decide (p_s ≥ (p_disks.length : Int))) then some true else (idx p_disks p_s).bind fun x1 => some x1.Down).bind fun c1 => some c1).bind fun v1 => if v1 then some 1 else (idx p_disks p_s).bind fun x2 => (chunk_Get' n x2 p_c.Id).bind fun x3 => if (x3.2 == 41) then some 2 else if (x3.2 != 0) then some 3 else if (decide (x3.1.Ver < p_c.Ver)) then some 4 else if (decide (x3.1.Ver > p_c.Ver)) then some 5 else some 0
theorem le_scrubN29 n p_disks p_c p_s : Le0 (scrubN51 n p_disks p_c p_s) (scrubN50 p_disks p_c p_s) := by
 unfold scrubN51 scrubN50
 with_reducible repeat' first | apply le_chunkN1 | refine B0 ?_ fun _ => ?_ | apply I0 | apply K0 | apply O0 | exact R0
def scrubN45 (n : Nat) (p_b3 : api_Chain) (p_b4 : List api_Disk) (p_b1 : api_Chain) (s1 : Int × (List api_Find)) : Option ((Int × (List api_Find)) ⊕ (List api_Find)) := if (decide (s1.1 < (p_b3.Servers.length : Int))) then (idx p_b3.Servers s1.1).bind fun x1 => (scrubN51 n p_b4 p_b3 x1).bind fun x2 => (scrubN9 x1 x2 p_b1 s1.2).bind fun x3 => chk (InI64 (s1.1 + 1)) (some (.inl ((s1.1 + 1), x3))) else out (some s1.2)
theorem le_scrubN25 n p_b3 p_b4 p_b1 s1 : Le0 (scrubN45 n p_b3 p_b4 p_b1 s1) (scrubN44 p_b3 p_b4 p_b1 s1) := by
 unfold scrubN45 scrubN44
 with_reducible repeat' first | apply le_scrubN29 | refine B0 ?_ fun _ => ?_ | apply I0 | apply K0 | apply O0 | exact R0
def scrubN47 (n : Nat) (p_b3 : api_Chain) (p_b4 : List api_Disk) (p_b1 : api_Chain) (s1 : Int × (List api_Find)) : Option (List api_Find) := loopN (scrubN45 n p_b3 p_b4 p_b1) n s1
theorem le_scrubN26 n p_b3 p_b4 p_b1 s1 : Le0 (scrubN47 n p_b3 p_b4 p_b1 s1) (scrubN46 p_b3 p_b4 p_b1 s1) := Le0.loop (fun s => le_scrubN25 n p_b3 p_b4 p_b1 s) n s1
def scrubN37 (n : Nat) (p_b1 : api_Chain) (p_b3 : api_Chain) (p_b4 : List api_Disk) : Option (List api_Find) := scrubN47 n p_b3 p_b4 p_b1 (0, [])
theorem le_scrubN21 n p_b1 p_b3 p_b4 : Le0 (scrubN37 n p_b1 p_b3 p_b4) (scrub_all_1 p_b1 p_b3 p_b4) := by
 unfold scrubN37 scrub_all_1
 with_reducible repeat' first | apply le_scrubN26 | refine B0 ?_ fun _ => ?_ | apply I0 | apply K0 | apply O0 | exact R0
def scrub_Look' (n : Nat) (p_disks : List api_Disk) (p_c : api_Chain) : Option (List api_Find) := (scrub_all p_disks p_c).bind fun _ => (scrubN37 n p_c p_c p_disks).bind fun x2 => some x2
theorem le_scrubN6 n p_disks p_c : Le0 (scrub_Look' n p_disks p_c) (scrub_Look p_disks p_c) := by
 unfold scrub_Look' scrub_Look
 with_reducible repeat' first | apply le_scrubN21 | refine B0 ?_ fun _ => ?_ | apply I0 | apply K0 | apply O0 | exact R0
def scrubN41 (n : Nat) (p_b2 : api_Chain) (p_b3 : List api_Disk) (s1 : Int × (List Int)) : Option ((Int × (List Int)) ⊕ (List Int)) := if (decide (s1.1 < (p_b2.Servers.length : Int))) then (idx p_b2.Servers s1.1).bind fun x1 => (scrubN51 n p_b3 p_b2 x1).bind fun x2 => (scrubN8 x1 x2 s1.2).bind fun x3 => chk (InI64 (s1.1 + 1)) (some (.inl ((s1.1 + 1), x3))) else out (some s1.2)
theorem le_scrubN23 n p_b2 p_b3 s1 : Le0 (scrubN41 n p_b2 p_b3 s1) (scrubN40 p_b2 p_b3 s1) := by
 unfold scrubN41 scrubN40
 with_reducible repeat' first | apply le_scrubN29 | refine B0 ?_ fun _ => ?_ | apply I0 | apply K0 | apply O0 | exact R0
def scrubN43 (n : Nat) (p_b2 : api_Chain) (p_b3 : List api_Disk) (s1 : Int × (List Int)) : Option (List Int) := loopN (scrubN41 n p_b2 p_b3) n s1
theorem le_scrubN24 n p_b2 p_b3 s1 : Le0 (scrubN43 n p_b2 p_b3 s1) (scrubN42 p_b2 p_b3 s1) := Le0.loop (fun s => le_scrubN23 n p_b2 p_b3 s) n s1
def scrubN39 (n : Nat) (p_b2 : api_Chain) (p_b3 : List api_Disk) : Option (List Int) := scrubN43 n p_b2 p_b3 (0, [])
theorem le_scrubN22 n p_b2 p_b3 : Le0 (scrubN39 n p_b2 p_b3) (scrubN38 p_b2 p_b3) := by
 unfold scrubN39 scrubN38
 with_reducible repeat' first | apply le_scrubN24 | refine B0 ?_ fun _ => ?_ | apply I0 | apply K0 | apply O0 | exact R0
def scrubN7 (n : Nat) (p_disks : List api_Disk) (p_c : api_Chain) : Option (List Int) := (scrub_all p_disks p_c).bind fun _ => (scrubN39 n p_c p_disks).bind fun x2 => some x2
theorem le_scrubN5 n p_disks p_c : Le0 (scrubN7 n p_disks p_c) (scrubN6 p_disks p_c) := by
 unfold scrubN7 scrubN6
 with_reducible repeat' first | apply le_scrubN22 | refine B0 ?_ fun _ => ?_ | apply I0 | apply K0 | apply O0 | exact R0
def slicesN69 (_n : Nat) (p_s : List Int) (p_v : Int) (s1 : Int) : Option ((Int) ⊕ Int) := if (decide (s1 < (p_s.length : Int))) then (idx p_s s1).bind fun x1 => if (p_v == x1) then out (some s1) else chk (InI64 (s1 + 1)) (some (.inl (s1 + 1))) else out (slicesN70 ())
theorem le_slicesN31 n p_s p_v s1 : Le0 (slicesN69 n p_s p_v s1) (slicesN68 p_s p_v s1) := by
 unfold slicesN69 slicesN68
 with_reducible repeat' first | refine B0 ?_ fun _ => ?_ | apply I0 | apply K0 | apply O0 | exact R0
def slicesN72 (n : Nat) (p_s : List Int) (p_v : Int) (s1 : Int) : Option Int := loopN (slicesN69 n p_s p_v) n s1
theorem le_slicesN32 n p_s p_v s1 : Le0 (slicesN72 n p_s p_v s1) (slicesN71 p_s p_v s1) := Le0.loop (fun s => le_slicesN31 n p_s p_v s) n s1
def slicesN67 (n : Nat) (p_s : List Int) (p_v : Int) : Option Int := slicesN72 n p_s p_v 0
theorem le_slicesN30 n p_s p_v : Le0 (slicesN67 n p_s p_v) (slicesN66 p_s p_v) := by
 unfold slicesN67 slicesN66
 with_reducible repeat' first | apply le_slicesN32 | refine B0 ?_ fun _ => ?_ | apply I0 | apply K0 | apply O0 | exact R0
def scrubN49 (n : Nat) (p_x : Int) (p_a1_0 : Int) (p_a1_1 : Int) (p_a1_2 : List Int) (p_a2_0 : Int) : Option Bool := (slicesN67 n p_a1_2 p_x).bind fun x1 => some (decide (x1 > p_a2_0))
theorem le_scrubN28 n p_x p_a1_0 p_a1_1 p_a1_2 p_a2_0 : Le0 (scrubN49 n p_x p_a1_0 p_a1_1 p_a1_2 p_a2_0) (scrubN48 p_x p_a1_0 p_a1_1 p_a1_2 p_a2_0) := by
 unfold scrubN49 scrubN48
 with_reducible repeat' first | apply le_slicesN30 | refine B0 ?_ fun _ => ?_ | apply I0 | apply K0 | apply O0 | exact R0
def slicesN62 (n : Nat) (p_s : List Int) (p_f_c0 : api_Chain) (p_f_c1 : Int) (s1 : Int) : Option ((Int) ⊕ Int) := if (decide (s1 < (p_s.length : Int))) then (idx p_s s1).bind fun x1 => (scrubN49 n x1 p_f_c0.Id p_f_c0.Ver p_f_c0.Servers p_f_c1).bind fun x2 => if x2 then out (some s1) else chk (InI64 (s1 + 1)) (some (.inl (s1 + 1))) else out (slicesN63 ())
theorem le_slicesN28 n p_s p_f_c0 p_f_c1 s1 : Le0 (slicesN62 n p_s p_f_c0 p_f_c1 s1) (slicesN61 p_s p_f_c0 p_f_c1 s1) := by
 unfold slicesN62 slicesN61
 with_reducible repeat' first | apply le_scrubN28 | refine B0 ?_ fun _ => ?_ | apply I0 | apply K0 | apply O0 | exact R0
def slicesN65 (n : Nat) (p_s : List Int) (p_f_c0 : api_Chain) (p_f_c1 : Int) (s1 : Int) : Option Int := loopN (slicesN62 n p_s p_f_c0 p_f_c1) n s1
theorem le_slicesN29 n p_s p_f_c0 p_f_c1 s1 : Le0 (slicesN65 n p_s p_f_c0 p_f_c1 s1) (slicesN64 p_s p_f_c0 p_f_c1 s1) := Le0.loop (fun s => le_slicesN28 n p_s p_f_c0 p_f_c1 s) n s1
def slicesN60 (n : Nat) (p_s : List Int) (p_f_c0 : api_Chain) (p_f_c1 : Int) : Option Int := slicesN65 n p_s p_f_c0 p_f_c1 0
theorem le_slicesN27 n p_s p_f_c0 p_f_c1 : Le0 (slicesN60 n p_s p_f_c0 p_f_c1) (slicesN59 p_s p_f_c0 p_f_c1) := by
 unfold slicesN60 slicesN59
 with_reducible repeat' first | apply le_slicesN29 | refine B0 ?_ fun _ => ?_ | apply I0 | apply K0 | apply O0 | exact R0
def scrub_next' (n : Nat) (p_c : api_Chain) (p_own : List Int) (p_s : Int) : Option Int := (slicesN67 n p_c.Servers p_s).bind fun x1 => (slicesN60 n p_own p_c x1).bind fun x2 => if (decide (x2 ≥ 0)) then (idx p_own x2).bind fun x3 => some x3 else chk (InI64 ((p_own.length : Int) - 1)) ((idx p_own ((p_own.length : Int) - 1)).bind fun x4 => some x4)
theorem le_scrubN27 n p_c p_own p_s : Le0 (scrub_next' n p_c p_own p_s) (scrub_next p_c p_own p_s) := by
 unfold scrub_next' scrub_next
 with_reducible repeat' first | apply le_slicesN30 | apply le_slicesN27 | refine B0 ?_ fun _ => ?_ | apply I0 | apply K0 | apply O0 | exact R0
def scrubN14 (n : Nat) (x4 : List api_Find) (x1 : api_Chain) (x2 : (List Int)) (p_disks : List api_Disk) (s1 : Int × (List api_Job) × (List Int)) (s2 : Int × (List api_Job)) : Option ((Int × (List api_Job)) ⊕ ((List api_Job) × (List Int))) := if (decide (s2.1 < (x4.length : Int))) then ((idx x4 s2.1).bind fun x5 => if (x5.What != 1) then (scrub_next' n x1 x2 x5.Server).bind fun x6 => (idx p_disks x6).bind fun x7 => (chunk_Get' n x7 x1.Id).bind fun x8 => chk (InI64 ((x8.1.Data.length : Int) + 1)) (chk ((s2.2.length + ([(⟨x1.Id, x1.Ver, x6, x5.Server, (x2.length : Int), ((x8.1.Data.length : Int) + 1)⟩ : api_Job)]).length) * 48 ≤ 140737488355328) (some (s2.2 ++ [(⟨x1.Id, x1.Ver, x6, x5.Server, (x2.length : Int), ((x8.1.Data.length : Int) + 1)⟩ : api_Job)]))) else some s2.2).bind fun v3 => chk (InI64 (s2.1 + 1)) (some (.inl ((s2.1 + 1), v3))) else out (some (s2.2, s1.2.2))
theorem le_scrubN9 n x4 x1 x2 p_disks s1 s2 : Le0 (scrubN14 n x4 x1 x2 p_disks s1 s2) (scrubN13 x4 x1 x2 p_disks s1 s2) := by
 unfold scrubN14 scrubN13
 with_reducible repeat' first | apply le_scrubN27 | apply le_chunkN1 | refine B0 ?_ fun _ => ?_ | apply I0 | apply K0 | apply O0 | exact R0
def scrubN18 (n : Nat) (x4 : List api_Find) (x1 : api_Chain) (x2 : (List Int)) (p_disks : List api_Disk) (s1 : Int × (List api_Job) × (List Int)) (s2 : Int × (List api_Job)) : Option ((List api_Job) × (List Int)) := loopN (scrubN14 n x4 x1 x2 p_disks s1) n s2
theorem le_scrubN11 n x4 x1 x2 p_disks s1 s2 : Le0 (scrubN18 n x4 x1 x2 p_disks s1 s2) (scrubN17 x4 x1 x2 p_disks s1 s2) := Le0.loop (fun s => le_scrubN9 n x4 x1 x2 p_disks s1 s) n s2
def scrubN12 (n : Nat) (p_l : List api_Chain) (p_disks : List api_Disk) (s1 : Int × (List api_Job) × (List Int)) : Option ((Int × (List api_Job) × (List Int)) ⊕ ((List api_Job) × (List Int))) := if (decide (s1.1 < (p_l.length : Int))) then ((idx p_l s1.1).bind fun x1 => (scrubN7 n p_disks x1).bind fun x2 => if ((x2.length : Int) == 0) then chk ((s1.2.2.length + ([x1.Id]).length) * 8 ≤ 140737488355328) (some (s1.2.1, (s1.2.2 ++ [x1.Id]))) else (scrub_Look' n p_disks x1).bind fun x3 => (sortTc scrubN10 x3).bind fun x4 => scrubN18 n x4 x1 x2 p_disks s1 (0, s1.2.1)).bind fun v2 => chk (InI64 (s1.1 + 1)) (some (.inl ((s1.1 + 1), v2.1, v2.2))) else out (some (s1.2.1, s1.2.2))
theorem le_scrubN8 [CmpOk scrubN10] (n : Nat) (p_l : List api_Chain) (p_disks : List api_Disk) (s1 : Int × (List api_Job) × (List Int)) : Le0 (scrubN12 n p_l p_disks s1) (scrubN11 p_l p_disks s1) := by
 unfold scrubN12 scrubN11
 with_reducible repeat' first | apply le_scrubN5 | apply le_scrubN6 | apply le_scrubN11 | apply le_sortT | refine B0 ?_ fun _ => ?_ | apply I0 | apply K0 | apply O0 | exact R0
def scrubN16 (n : Nat) (p_l : List api_Chain) (p_disks : List api_Disk) (s1 : Int × (List api_Job) × (List Int)) : Option ((List api_Job) × (List Int)) := loopN (scrubN12 n p_l p_disks) n s1
theorem le_scrubN10 [CmpOk scrubN10] (n : Nat) (p_l : List api_Chain) (p_disks : List api_Disk) (s1 : Int × (List api_Job) × (List Int)) : Le0 (scrubN16 n p_l p_disks s1) (scrubN15 p_l p_disks s1) := Le0.loop (fun s => le_scrubN8 n p_l p_disks s) n s1
def scrub_Plan' (n : Nat) (p_disks : List api_Disk) (p_l : List api_Chain) : Option ((List api_Job) × (List Int)) := (scrubN16 n p_l p_disks (0, [], [])).bind fun v1 => some (v1.1, v1.2)
theorem le_scrubN7 [CmpOk scrubN10] (n : Nat) (p_disks : List api_Disk) (p_l : List api_Chain) : Le0 (scrub_Plan' n p_disks p_l) (scrub_Plan p_disks p_l) := by
 unfold scrub_Plan' scrub_Plan
 with_reducible repeat' first | apply le_scrubN10 | refine B0 ?_ fun _ => ?_ | apply I0 | apply K0 | apply O0 | exact R0
def slicesN2 (_n : Nat) (p_s : List api_Disk) : Option (List api_Disk) := chk (p_s.length * 56 ≤ 140737488355328) (some p_s)
theorem eq_slicesN1 (p_s : List api_Disk) (h : p_s.length * 56 ≤ 140737488355328) : slicesN1 p_s = some p_s := by
 unfold slicesN1
 refine Le0.clone fun b hb => ?_
 cases b with
 | true => rw [hb rfl]; rfl
 | false =>
  rw [if_neg (by decide)]
  show chk _ _ = _
  unfold chk
  rw [if_pos (by simpa using h)]; rfl
theorem le_slicesN1 n p_s : Le0 (slicesN2 n p_s) (slicesN1 p_s) := fun r hr => by
 obtain ⟨h1, h2⟩ := chk_some hr
 cases h2
 exact eq_slicesN1 _ h1
def scrubN5 (n : Nat) (p_d : api_Disk) (p_b0 : api_Copy) : Option ((List api_Page) × (List api_Page) × Bool × Int) := (chunk_Put' n p_d p_b0).bind fun x1 => some (x1.1.Synced, x1.1.Loose, x1.1.Down, x1.2)
theorem le_scrubN4 n p_d p_b0 : Le0 (scrubN5 n p_d p_b0) (scrubN4 p_d p_b0) := by
 unfold scrubN5 scrubN4
 with_reducible repeat' first | apply le_chunkN7 | refine B0 ?_ fun _ => ?_ | apply I0 | apply K0 | apply O0 | exact R0
def scrubN55 (n : Nat) (p_disks : List api_Disk) (p_s : Int) (p_b0 : api_Copy) : Option ((List api_Disk) × Int) := (idx p_disks p_s).bind fun x1 => (scrubN5 n x1 p_b0).bind fun x3 => (if (x3.2.2.2 == 0) then (disk_Sync' n (⟨x3.1, x3.2.1, x3.2.2.1⟩ : api_Disk)).bind fun x4 => some (x4.2, x4.1.Synced, x4.1.Loose, x4.1.Down) else some (x3.2.2.2, x3.1, x3.2.1, x3.2.2.1)).bind fun v1 => if (v1.1 != 0) then some (p_disks, v1.1) else (slicesN2 n p_disks).bind fun x5 => (idx x5 p_s).bind fun _ => some ((x5.set p_s.toNat (⟨v1.2.1, v1.2.2.1, v1.2.2.2⟩ : api_Disk)), 0)
theorem le_scrubN31 n p_disks p_s p_b0 : Le0 (scrubN55 n p_disks p_s p_b0) (scrubN54 p_disks p_s p_b0) := by
 unfold scrubN55 scrubN54
 with_reducible repeat' first | apply le_scrubN4 | apply le_diskN3 | apply le_slicesN1 | refine B0 ?_ fun _ => ?_ | apply I0 | apply K0 | apply O0 | exact R0
def scrub_Copy' (n : Nat) (p_disks : List api_Disk) (p_j : api_Job) : Option ((List api_Disk) × Int) := ((scrub_there p_disks p_j.From).bind fun x1 => (if (!x1) then some true else (scrub_there p_disks p_j.To).bind fun x2 => some (!x2)).bind fun c1 => some c1).bind fun v1 => if v1 then some (p_disks, 1) else (idx p_disks p_j.From).bind fun x3 => (chunk_Get' n x3 p_j.Id).bind fun x4 => if (x4.2 != 0) then some (p_disks, x4.2) else if (x4.1.Ver != p_j.Ver) then some (p_disks, 250) else (scrubN55 n p_disks p_j.To x4.1).bind fun x6 => some (x6.1, x6.2)
theorem le_scrubN3 n p_disks p_j : Le0 (scrub_Copy' n p_disks p_j) (scrub_Copy p_disks p_j) := by
 unfold scrub_Copy' scrub_Copy
 with_reducible repeat' first | apply le_chunkN1 | apply le_scrubN31 | refine B0 ?_ fun _ => ?_ | apply I0 | apply K0 | apply O0 | exact R0
def chunk_Lose' (n : Nat) (p_d : api_Disk) (p_id : Int) : Option (api_Disk × Int) := (chunkN19 n p_d p_id).bind fun x1 => if (x1.2 != 0) then some (p_d, x1.2) else (disk_Write' n p_d p_id ([])).bind fun x2 => some (x2.1, x2.2)
theorem le_chunkN5 n p_d p_id : Le0 (chunk_Lose' n p_d p_id) (chunk_Lose p_d p_id) := by
 unfold chunk_Lose' chunk_Lose
 with_reducible repeat' first | apply le_chunkN17 | apply le_diskN4 | refine B0 ?_ fun _ => ?_ | apply I0 | apply K0 | apply O0 | exact R0
def scrubN3 (n : Nat) (p_d : api_Disk) (p_b0 : api_Find) : Option ((List api_Page) × (List api_Page) × Bool × Int) := (chunk_Lose' n p_d p_b0.Id).bind fun x1 => some (x1.1.Synced, x1.1.Loose, x1.1.Down, x1.2)
theorem le_scrubN2 n p_d p_b0 : Le0 (scrubN3 n p_d p_b0) (scrubN2 p_d p_b0) := by
 unfold scrubN3 scrubN2
 with_reducible repeat' first | apply le_chunkN5 | refine B0 ?_ fun _ => ?_ | apply I0 | apply K0 | apply O0 | exact R0
def scrubN53 (n : Nat) (p_disks : List api_Disk) (p_s : Int) (p_b0 : api_Find) : Option ((List api_Disk) × Int) := (idx p_disks p_s).bind fun x1 => (scrubN3 n x1 p_b0).bind fun x3 => (if (x3.2.2.2 == 0) then (disk_Sync' n (⟨x3.1, x3.2.1, x3.2.2.1⟩ : api_Disk)).bind fun x4 => some (x4.2, x4.1.Synced, x4.1.Loose, x4.1.Down) else some (x3.2.2.2, x3.1, x3.2.1, x3.2.2.1)).bind fun v1 => if (v1.1 != 0) then some (p_disks, v1.1) else (slicesN2 n p_disks).bind fun x5 => (idx x5 p_s).bind fun _ => some ((x5.set p_s.toNat (⟨v1.2.1, v1.2.2.1, v1.2.2.2⟩ : api_Disk)), 0)
theorem le_scrubN30 n p_disks p_s p_b0 : Le0 (scrubN53 n p_disks p_s p_b0) (scrubN52 p_disks p_s p_b0) := by
 unfold scrubN53 scrubN52
 with_reducible repeat' first | apply le_scrubN2 | apply le_diskN3 | apply le_slicesN1 | refine B0 ?_ fun _ => ?_ | apply I0 | apply K0 | apply O0 | exact R0
def scrubN1 (n : Nat) (p_disks : List api_Disk) (p_f : api_Find) : Option ((List api_Disk) × Int) := (scrub_there p_disks p_f.Server).bind fun x1 => if (!x1) then some (p_disks, 1) else (scrubN53 n p_disks p_f.Server p_f).bind fun x3 => some (x3.1, x3.2)
theorem le_scrubN1 n p_disks p_f : Le0 (scrubN1 n p_disks p_f) (scrub_Clean p_disks p_f) := by
 unfold scrubN1 scrub_Clean
 with_reducible repeat' first | apply le_scrubN30 | refine B0 ?_ fun _ => ?_ | apply I0 | apply K0 | apply O0 | exact R0
def ref27N17 (_n : Nat) (p_a : List api_Find) (p_b : List api_Find) (s1 : Int) : Option ((Int) ⊕ Bool) := if (decide (s1 < (p_a.length : Int))) then (idx p_a s1).bind fun x1 => (idx p_b s1).bind fun x2 => if (!(x1.Id == x2.Id && (x1.Server == x2.Server && (x1.What == x2.What && true)))) then out (some false) else chk (InI64 (s1 + 1)) (some (.inl (s1 + 1))) else out (ref27N18 ())
theorem le_ref27N2 n p_a p_b s1 : Le0 (ref27N17 n p_a p_b s1) (ref27N16 p_a p_b s1) := by
 unfold ref27N17 ref27N16
 with_reducible repeat' first | refine B0 ?_ fun _ => ?_ | apply I0 | apply K0 | apply O0 | exact R0
def ref27N20 (n : Nat) (p_a : List api_Find) (p_b : List api_Find) (s1 : Int) : Option Bool := loopN (ref27N17 n p_a p_b) n s1
theorem le_ref27N3 n p_a p_b s1 : Le0 (ref27N20 n p_a p_b s1) (ref27N19 p_a p_b s1) := Le0.loop (fun s => le_ref27N2 n p_a p_b s) n s1
def ref27N15 (n : Nat) (p_a : List api_Find) (p_b : List api_Find) : Option Bool := if ((p_a.length : Int) != (p_b.length : Int)) then some false else ref27N20 n p_a p_b 0
theorem le_ref27N1 n p_a p_b : Le0 (ref27N15 n p_a p_b) (ref27N14 p_a p_b) := by
 unfold ref27N15 ref27N14
 with_reducible repeat' first | apply le_ref27N3 | refine B0 ?_ fun _ => ?_ | apply I0 | apply K0 | apply O0 | exact R0
def slicesN12 (_n : Nat) (s1 : Int) (s2 : Int × Int × (List Int)) : Option ((Int × Int × (List Int)) ⊕ (Int × (List Int))) := if (decide (s2.2.1 < ((s2.2.2.drop s1.toNat).length : Int))) then ((idx (s2.2.2.drop s1.toNat) s2.2.1).bind fun x3 => chk (InI64 (s2.2.1 - 1)) ((idx (s2.2.2.drop s1.toNat) (s2.2.1 - 1)).bind fun x4 => if (x3 != x4) then (idx (s2.2.2.drop s1.toNat) s2.2.1).bind fun x5 => (idx s2.2.2 s2.1).bind fun _ => chk (InI64 (s2.1 + 1)) (some ((s2.1 + 1), (s2.2.2.set s2.1.toNat x5))) else some (s2.1, s2.2.2))).bind fun v4 => chk (InI64 (s2.2.1 + 1)) (some (.inl (v4.1, (s2.2.1 + 1), v4.2))) else out (some (s2.1, s2.2.2))
theorem le_slicesN6 n s1 s2 : Le0 (slicesN12 n s1 s2) (slicesN11 s1 s2) := by
 unfold slicesN12 slicesN11
 with_reducible repeat' first | refine B0 ?_ fun _ => ?_ | apply I0 | apply K0 | apply O0 | exact R0
def slicesN18 (n : Nat) (s1 : Int) (s2 : Int × Int × (List Int)) : Option (Int × (List Int)) := loopN (slicesN12 n s1) n s2
theorem le_slicesN8 n s1 s2 : Le0 (slicesN18 n s1 s2) (slicesN17 s1 s2) := Le0.loop (fun s => le_slicesN6 n s1 s) n s2
def slicesN10 (n : Nat) (p_h0 : List Int) (s1 : Int) : Option ((Int) ⊕ (List Int)) := if (decide (s1 < (p_h0.length : Int))) then (idx p_h0 s1).bind fun x1 => chk (InI64 (s1 - 1)) ((idx p_h0 (s1 - 1)).bind fun x2 => if (x1 == x2) then chk ((0 : Int) ≤ s1 ∧ s1 ≤ (p_h0.length : Int)) ((slicesN18 n s1 (s1, 1, p_h0)).bind fun v3 => chk ((0 : Int) ≤ v3.1 ∧ v3.1 ≤ (v3.2.length : Int)) (chk ((0 : Int) ≤ v3.1 ∧ v3.1 ≤ ((v3.2.take v3.1.toNat ++ List.replicate (v3.2.length - v3.1.toNat) (0 : Int)).length : Int)) (out (some ((v3.2.take v3.1.toNat ++ List.replicate (v3.2.length - v3.1.toNat) (0 : Int)).take v3.1.toNat))))) else slicesN14 s1 ()) else out (slicesN13 p_h0 ())
theorem le_slicesN5 n p_h0 s1 : Le0 (slicesN10 n p_h0 s1) (slicesN9 p_h0 s1) := by
 unfold slicesN10 slicesN9
 with_reducible repeat' first | apply le_slicesN8 | refine B0 ?_ fun _ => ?_ | apply I0 | apply K0 | apply O0 | exact R0
def slicesN16 (n : Nat) (p_h0 : List Int) (s1 : Int) : Option (List Int) := loopN (slicesN10 n p_h0) n s1
theorem le_slicesN7 n p_h0 s1 : Le0 (slicesN16 n p_h0 s1) (slicesN15 p_h0 s1) := Le0.loop (fun s => le_slicesN5 n p_h0 s) n s1
def slicesN8 (n : Nat) (p_h0 : List Int) : Option (List Int) := if (decide ((p_h0.length : Int) < 2)) then some p_h0 else slicesN16 n p_h0 1
theorem le_slicesN4 n p_h0 : Le0 (slicesN8 n p_h0) (slicesN7 p_h0) := by
 unfold slicesN8 slicesN7
 with_reducible repeat' first | apply le_slicesN7 | refine B0 ?_ fun _ => ?_ | apply I0 | apply K0 | apply O0 | exact R0
def scrubN21 (n : Nat) (p_l : List api_Chain) (s1 : Int) : Option ((Int) ⊕ Bool) := if (decide (s1 < (p_l.length : Int))) then (idx p_l s1).bind fun x1 => (slicesN79 x1.Servers).bind fun _ => chk (x1.Servers.length * 8 ≤ 140737488351232) ((some (sortJ x1.Servers)).bind fun x3 => ((if (decide (x1.Id < 0)) then some true else some (decide (x1.Id ≥ 200))).bind fun c1 => (if c1 then some true else some (decide (x1.Ver < 0))).bind fun c2 => (if c2 then some true else some (decide (x1.Ver > 1099511627776))).bind fun c3 => (if c3 then some true else some (decide ((x3.length : Int) > 5))).bind fun c4 => (if c4 then some true else (if (decide (s1 > 0)) then chk (InI64 (s1 - 1)) ((idx p_l (s1 - 1)).bind fun x4 => some (decide (x4.Id ≥ x1.Id))) else some false).bind fun c5 => some c5).bind fun c6 => some c6).bind fun v2 => if v2 then out (some false) else ((if (decide ((x3.length : Int) > 0)) then (idx x3 0).bind fun x5 => some (decide (x5 < 0)) else some false).bind fun c7 => (if c7 then some true else (slicesN8 n x3).bind fun x6 => some (decide ((x6.length : Int) < (x1.Servers.length : Int)))).bind fun c8 => some c8).bind fun v3 => if v3 then out (some false) else chk (InI64 (s1 + 1)) (some (.inl (s1 + 1)))) else out (scrubN22 ())
theorem le_scrubN13 n p_l s1 : Le0 (scrubN21 n p_l s1) (scrubN20 p_l s1) := by
 unfold scrubN21 scrubN20
 simp only [keysJ_eq, sortJ_eq]
 with_reducible repeat' first | apply le_slicesN4 | refine B0 ?_ fun _ => ?_ | apply I0 | apply K0 | apply O0 | exact R0
def scrubN24 (n : Nat) (p_l : List api_Chain) (s1 : Int) : Option Bool := loopN (scrubN21 n p_l) n s1
theorem le_scrubN14 n p_l s1 : Le0 (scrubN24 n p_l s1) (scrubN23 p_l s1) := Le0.loop (fun s => le_scrubN13 n p_l s) n s1
def scrubN19 (n : Nat) (p_l : List api_Chain) : Option Bool := scrubN24 n p_l 0
theorem le_scrubN12 n p_l : Le0 (scrubN19 n p_l) (scrub_Right p_l) := by
 unfold scrubN19 scrub_Right
 with_reducible repeat' first | apply le_scrubN14 | refine B0 ?_ fun _ => ?_ | apply I0 | apply K0 | apply O0 | exact R0
def ref02N11 (_n : Nat) (p_a : List Int) (p_b : List Int) (s1 : Int) : Option ((Int) ⊕ Bool) := if (decide (s1 < (p_a.length : Int))) then (idx p_a s1).bind fun x1 => (idx p_b s1).bind fun x2 => if (x1 != x2) then out (some false) else chk (InI64 (s1 + 1)) (some (.inl (s1 + 1))) else out (ref02N12 ())
theorem le_ref02N2 n p_a p_b s1 : Le0 (ref02N11 n p_a p_b s1) (ref02N10 p_a p_b s1) := by
 unfold ref02N11 ref02N10
 with_reducible repeat' first | refine B0 ?_ fun _ => ?_ | apply I0 | apply K0 | apply O0 | exact R0
def ref02N14 (n : Nat) (p_a : List Int) (p_b : List Int) (s1 : Int) : Option Bool := loopN (ref02N11 n p_a p_b) n s1
theorem le_ref02N3 n p_a p_b s1 : Le0 (ref02N14 n p_a p_b s1) (ref02N13 p_a p_b s1) := Le0.loop (fun s => le_ref02N2 n p_a p_b s) n s1
def ref02_Ints' (n : Nat) (p_a : List Int) (p_b : List Int) : Option Bool := if ((p_a.length : Int) != (p_b.length : Int)) then some false else ref02N14 n p_a p_b 0
theorem le_ref02N1 n p_a p_b : Le0 (ref02_Ints' n p_a p_b) (ref02_Ints p_a p_b) := by
 unfold ref02_Ints' ref02_Ints
 with_reducible repeat' first | apply le_ref02N3 | refine B0 ?_ fun _ => ?_ | apply I0 | apply K0 | apply O0 | exact R0
def ref27N24 (_n : Nat) (p_a : List api_Job) (p_b : List api_Job) (s1 : Int) : Option ((Int) ⊕ Bool) := if (decide (s1 < (p_a.length : Int))) then (idx p_a s1).bind fun x1 => (idx p_b s1).bind fun x2 => if (!(x1.Id == x2.Id && (x1.Ver == x2.Ver && (x1.From == x2.From && (x1.To == x2.To && (x1.Have == x2.Have && (x1.Left == x2.Left && true))))))) then out (some false) else chk (InI64 (s1 + 1)) (some (.inl (s1 + 1))) else out (ref27N25 ())
theorem le_ref27N5 n p_a p_b s1 : Le0 (ref27N24 n p_a p_b s1) (ref27N23 p_a p_b s1) := by
 unfold ref27N24 ref27N23
 with_reducible repeat' first | refine B0 ?_ fun _ => ?_ | apply I0 | apply K0 | apply O0 | exact R0
def ref27N27 (n : Nat) (p_a : List api_Job) (p_b : List api_Job) (s1 : Int) : Option Bool := loopN (ref27N24 n p_a p_b) n s1
theorem le_ref27N6 n p_a p_b s1 : Le0 (ref27N27 n p_a p_b s1) (ref27N26 p_a p_b s1) := Le0.loop (fun s => le_ref27N5 n p_a p_b s) n s1
def ref27N22 (n : Nat) (p_a : List api_Job) (p_b : List api_Job) : Option Bool := if ((p_a.length : Int) != (p_b.length : Int)) then some false else ref27N27 n p_a p_b 0
theorem le_ref27N4 n p_a p_b : Le0 (ref27N22 n p_a p_b) (ref27N21 p_a p_b) := by
 unfold ref27N22 ref27N21
 with_reducible repeat' first | apply le_ref27N6 | refine B0 ?_ fun _ => ?_ | apply I0 | apply K0 | apply O0 | exact R0
def chunkN2 (n : Nat) (p_d : api_Disk) (s1 : Int × (List Int)) : Option ((Int × (List Int)) ⊕ (List Int)) := if (decide (s1.1 < 200)) then ((chunkN19 n p_d s1.1).bind fun x1 => if (x1.2 == 0) then chk ((s1.2.length + ([s1.1]).length) * 8 ≤ 140737488355328) (some (s1.2 ++ [s1.1])) else some s1.2).bind fun v2 => chk (InI64 (s1.1 + 1)) (some (.inl ((s1.1 + 1), v2))) else out (some s1.2)
theorem le_chunkN3 n p_d s1 : Le0 (chunkN2 n p_d s1) (chunkN1 p_d s1) := by
 unfold chunkN2 chunkN1
 with_reducible repeat' first | apply le_chunkN17 | refine B0 ?_ fun _ => ?_ | apply I0 | apply K0 | apply O0 | exact R0
def chunkN4 (n : Nat) (p_d : api_Disk) (s1 : Int × (List Int)) : Option (List Int) := loopN (chunkN2 n p_d) n s1
theorem le_chunkN4 n p_d s1 : Le0 (chunkN4 n p_d s1) (chunkN3 p_d s1) := Le0.loop (fun s => le_chunkN3 n p_d s) n s1
def chunk_Has' (n : Nat) (p_d : api_Disk) : Option (List Int) := (chunkN4 n p_d (0, [])).bind fun v1 => some v1
theorem le_chunkN2 n p_d : Le0 (chunk_Has' n p_d) (chunk_Has p_d) := by
 unfold chunk_Has' chunk_Has
 with_reducible repeat' first | apply le_chunkN4 | refine B0 ?_ fun _ => ?_ | apply I0 | apply K0 | apply O0 | exact R0
def slicesN42 (n : Nat) (p_s : List Int) (p_v : Int) : Option Bool := (slicesN67 n p_s p_v).bind fun x1 => some (decide (x1 ≥ 0))
theorem le_slicesN20 n p_s p_v : Le0 (slicesN42 n p_s p_v) (slicesN41 p_s p_v) := by
 unfold slicesN42 slicesN41
 with_reducible repeat' first | apply le_slicesN30 | refine B0 ?_ fun _ => ?_ | apply I0 | apply K0 | apply O0 | exact R0
def scrubN28 (n : Nat) (p_c : api_Chain) (p_a1_0 : Int) (p_a2_0 : Int) : Option Bool := ((if (p_c.Id == p_a1_0) then (slicesN42 n p_c.Servers p_a2_0).bind fun x1 => some x1 else some false).bind fun c1 => some c1).bind fun v1 => some v1
theorem le_scrubN16 n p_c p_a1_0 p_a2_0 : Le0 (scrubN28 n p_c p_a1_0 p_a2_0) (scrubN27 p_c p_a1_0 p_a2_0) := by
 unfold scrubN28 scrubN27
 with_reducible repeat' first | apply le_slicesN20 | refine B0 ?_ fun _ => ?_ | apply I0 | apply K0 | apply O0 | exact R0
def slicesN48 (n : Nat) (p_s : List api_Chain) (p_f_c0_0 : Int) (p_f_c1_0 : Int) (s1 : Int) : Option ((Int) ⊕ Int) := if (decide (s1 < (p_s.length : Int))) then (idx p_s s1).bind fun x1 => (scrubN28 n x1 p_f_c0_0 p_f_c1_0).bind fun x2 => if x2 then out (some s1) else chk (InI64 (s1 + 1)) (some (.inl (s1 + 1))) else out (slicesN49 ())
theorem le_slicesN22 n p_s p_f_c0_0 p_f_c1_0 s1 : Le0 (slicesN48 n p_s p_f_c0_0 p_f_c1_0 s1) (slicesN47 p_s p_f_c0_0 p_f_c1_0 s1) := by
 unfold slicesN48 slicesN47
 with_reducible repeat' first | apply le_scrubN16 | refine B0 ?_ fun _ => ?_ | apply I0 | apply K0 | apply O0 | exact R0
def slicesN51 (n : Nat) (p_s : List api_Chain) (p_f_c0_0 : Int) (p_f_c1_0 : Int) (s1 : Int) : Option Int := loopN (slicesN48 n p_s p_f_c0_0 p_f_c1_0) n s1
theorem le_slicesN23 n p_s p_f_c0_0 p_f_c1_0 s1 : Le0 (slicesN51 n p_s p_f_c0_0 p_f_c1_0 s1) (slicesN50 p_s p_f_c0_0 p_f_c1_0 s1) := Le0.loop (fun s => le_slicesN22 n p_s p_f_c0_0 p_f_c1_0 s) n s1
def slicesN46 (n : Nat) (p_s : List api_Chain) (p_f_c0_0 : Int) (p_f_c1_0 : Int) : Option Int := slicesN51 n p_s p_f_c0_0 p_f_c1_0 0
theorem le_slicesN21 n p_s p_f_c0_0 p_f_c1_0 : Le0 (slicesN46 n p_s p_f_c0_0 p_f_c1_0) (slicesN45 p_s p_f_c0_0 p_f_c1_0) := by
 unfold slicesN46 slicesN45
 with_reducible repeat' first | apply le_slicesN23 | refine B0 ?_ fun _ => ?_ | apply I0 | apply K0 | apply O0 | exact R0
def slicesN40 (n : Nat) (p_s : List api_Chain) (p_f_c0 : Int) (p_f_c1 : Int) : Option Bool := (slicesN46 n p_s p_f_c0 p_f_c1).bind fun x1 => some (decide (x1 ≥ 0))
theorem le_slicesN19 n p_s p_f_c0 p_f_c1 : Le0 (slicesN40 n p_s p_f_c0 p_f_c1) (slicesN39 p_s p_f_c0 p_f_c1) := by
 unfold slicesN40 slicesN39
 with_reducible repeat' first | apply le_slicesN21 | refine B0 ?_ fun _ => ?_ | apply I0 | apply K0 | apply O0 | exact R0
def scrubN32 (n : Nat) (x2 : (List Int)) (p_l : List api_Chain) (s1 : Int × (List api_Find)) (s2 : Int × (List api_Find)) : Option ((Int × (List api_Find)) ⊕ (List api_Find)) := if (decide (s2.1 < (x2.length : Int))) then ((idx x2 s2.1).bind fun x3 => (slicesN40 n p_l x3 s1.1).bind fun x4 => if (!x4) then chk ((s2.2.length + ([(⟨x3, s1.1, 6⟩ : api_Find)]).length) * 24 ≤ 140737488355328) (some (s2.2 ++ [(⟨x3, s1.1, 6⟩ : api_Find)])) else some s2.2).bind fun v3 => chk (InI64 (s2.1 + 1)) (some (.inl ((s2.1 + 1), v3))) else out (some s2.2)
theorem le_scrubN18 n x2 p_l s1 s2 : Le0 (scrubN32 n x2 p_l s1 s2) (scrubN31 x2 p_l s1 s2) := by
 unfold scrubN32 scrubN31
 with_reducible repeat' first | apply le_slicesN19 | refine B0 ?_ fun _ => ?_ | apply I0 | apply K0 | apply O0 | exact R0
def scrubN36 (n : Nat) (x2 : (List Int)) (p_l : List api_Chain) (s1 : Int × (List api_Find)) (s2 : Int × (List api_Find)) : Option (List api_Find) := loopN (scrubN32 n x2 p_l s1) n s2
theorem le_scrubN20 n x2 p_l s1 s2 : Le0 (scrubN36 n x2 p_l s1 s2) (scrubN35 x2 p_l s1 s2) := Le0.loop (fun s => le_scrubN18 n x2 p_l s1 s) n s2
def scrubN30 (n : Nat) (p_disks : List api_Disk) (p_l : List api_Chain) (s1 : Int × (List api_Find)) : Option ((Int × (List api_Find)) ⊕ (List api_Find)) := if (decide (s1.1 < (p_disks.length : Int))) then ((idx p_disks s1.1).bind fun x1 => (chunk_Has' n x1).bind fun x2 => scrubN36 n x2 p_l s1 (0, s1.2)).bind fun v2 => chk (InI64 (s1.1 + 1)) (some (.inl ((s1.1 + 1), v2))) else out (some s1.2)
theorem le_scrubN17 n p_disks p_l s1 : Le0 (scrubN30 n p_disks p_l s1) (scrubN29 p_disks p_l s1) := by
 unfold scrubN30 scrubN29
 with_reducible repeat' first | apply le_chunkN2 | apply le_scrubN20 | refine B0 ?_ fun _ => ?_ | apply I0 | apply K0 | apply O0 | exact R0
def scrubN34 (n : Nat) (p_disks : List api_Disk) (p_l : List api_Chain) (s1 : Int × (List api_Find)) : Option (List api_Find) := loopN (scrubN30 n p_disks p_l) n s1
theorem le_scrubN19 n p_disks p_l s1 : Le0 (scrubN34 n p_disks p_l s1) (scrubN33 p_disks p_l s1) := Le0.loop (fun s => le_scrubN17 n p_disks p_l s) n s1
def scrubN26 (n : Nat) (p_disks : List api_Disk) (p_l : List api_Chain) : Option (List api_Find) := (scrubN34 n p_disks p_l (0, [])).bind fun v1 => some v1
theorem le_scrubN15 n p_disks p_l : Le0 (scrubN26 n p_disks p_l) (scrubN25 p_disks p_l) := by
 unfold scrubN26 scrubN25
 with_reducible repeat' first | apply le_scrubN19 | refine B0 ?_ fun _ => ?_ | apply I0 | apply K0 | apply O0 | exact R0
def law27_head' (n : Nat) : Option Bool := (disk_New).bind fun x1 => (chunk_New' n 4 2 ([97, 98])).bind fun x2 => (law27_on' n x1 x2).bind fun x3 => (disk_New).bind fun x4 => (chunk_New' n 4 1 ([97])).bind fun x5 => (law27_on' n x4 x5).bind fun x6 => (disk_Crash' n x3 0).bind fun x7 => (disk_New).bind fun x8 => (scrub_Look' n ([x8, x3, x6, x7, x3]) (⟨4, 2, [0, 1, 2, 3, 9]⟩ : api_Chain)).bind fun x9 => (scrub_Plan' n ([x8, x3, x6, x7, x3]) ([(⟨4, 2, [0, 1, 2, 3, 9]⟩ : api_Chain), (⟨7, 0, [0]⟩ : api_Chain)])).bind fun x10 => (scrub_Copy' n ([x8, x3, x6, x7, x3]) (⟨4, 2, 1, 0, 0, 0⟩ : api_Job)).bind fun x11 => (scrub_Copy' n ([x8, x3, x6, x7, x3]) (⟨4, 1, 1, 0, 0, 0⟩ : api_Job)).bind fun x12 => (scrubN1 n ([x8, x3, x6, x7, x3]) (⟨4, 5, 0⟩ : api_Find)).bind fun x13 => (scrubN1 n ([x8, x3, x6, x7, x3]) (⟨4, 4, 0⟩ : api_Find)).bind fun x14 => ((ref27N15 n x9 ([(⟨4, 0, 2⟩ : api_Find), (⟨4, 2, 4⟩ : api_Find), (⟨4, 3, 1⟩ : api_Find), (⟨4, 9, 1⟩ : api_Find)])).bind fun x15 => (if (!x15) then some true else some (x11.2 != 0)).bind fun c1 => (if c1 then some true else some (x14.2 != 0)).bind fun c2 => some c2).bind fun v1 => if v1 then some false else ((scrubN19 n ([(⟨4, 2, [0, 1, 2, 3, 9]⟩ : api_Chain)])).bind fun x16 => (if x16 then (scrubN19 n ([(⟨4, 2, [0, 1, 2, 3, 9]⟩ : api_Chain), (⟨4, 2, [0, 1, 2, 3, 9]⟩ : api_Chain)])).bind fun x17 => some (!x17) else some false).bind fun c3 => (if c3 then (scrubN7 n ([x8, x3, x6, x7, x3]) (⟨4, 2, [0, 1, 2, 3, 9]⟩ : api_Chain)).bind fun x18 => (ref02_Ints' n x18 ([1])).bind fun x19 => some x19 else some false).bind fun c4 => (if c4 then (ref27N22 n x10.1 ([(⟨4, 2, 1, 0, 1, 3⟩ : api_Job), (⟨4, 2, 1, 2, 1, 3⟩ : api_Job)])).bind fun x20 => some x20 else some false).bind fun c5 => (if c5 then (ref02_Ints' n x10.2 ([7])).bind fun x21 => some x21 else some false).bind fun c6 => (if c6 then (scrubN26 n ([x8, x3, x6, x7, x3]) ([(⟨4, 2, [0, 1, 2, 3, 9]⟩ : api_Chain)])).bind fun x22 => (ref27N15 n x22 ([(⟨4, 4, 6⟩ : api_Find)])).bind fun x23 => some x23 else some false).bind fun c7 => (if c7 then (scrubN7 n x11.1 (⟨4, 2, [0, 1, 2, 3, 9]⟩ : api_Chain)).bind fun x24 => (ref02_Ints' n x24 ([0, 1])).bind fun x25 => some x25 else some false).bind fun c8 => (if c8 then some (x12.2 == 250) else some false).bind fun c9 => (if c9 then some (x13.2 == 1) else some false).bind fun c10 => (if c10 then (scrubN26 n x14.1 ([(⟨4, 2, [0, 1, 2, 3, 9]⟩ : api_Chain)])).bind fun x26 => some ((x26.length : Int) == 0) else some false).bind fun c11 => some c11).bind fun v2 => some v2
theorem le_law27N1 [CmpOk scrubN10] (n : Nat) : Le0 (law27_head' n) law27_head := by
 unfold law27_head' law27_head
 with_reducible repeat' first | apply le_chunkN6 | apply le_law27_on | apply le_diskN1 | apply le_scrubN6 | apply le_scrubN7 | apply le_scrubN3 | apply le_scrubN1 | apply le_ref27N1 | apply le_scrubN12 | apply le_scrubN5 | apply le_ref02N1 | apply le_ref27N4 | apply le_scrubN15 | refine B0 ?_ fun _ => ?_ | apply I0 | apply K0 | apply O0 | exact R0
end
end Go.Proofs
