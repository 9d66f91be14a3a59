/- The plain programs with a bound on their rounds: what these say the others say, too. No condition. -/
import Derived.Test.YtopkpflbhhhdfaaGreatXSweepKeepsSp
import Derived.Test.YtopkpflbhhhdfaaGreatCatP6
namespace Go.Proofs
set_option linter.all false
open Go Go.Cat
set_option maxRecDepth 100000

def disk_New' (_n : Nat) : Option api_Disk := some ((⟨[], [], false⟩ : api_Disk))

theorem le_disk_New (n : Nat) : Le0 (disk_New' n) (disk_New) := by
  unfold disk_New' disk_New
  repeat' (first | with_reducible refine Le0.bind ?_ (fun _ => ?_) | with_reducible refine Le0.ite ?_ ?_ | with_reducible refine Le0.chk ?_ | with_reducible refine Le0.out ?_ | with_reducible exact Le0.refl _)

def slices_Clone_byte_byte' (_n : Nat) (p_s : List UInt8) : Option ((List UInt8)) := chk (p_s.length * 1 ≤ 140737488355328) (some p_s)

theorem eq_slices_Clone_byte_byte (p_s : List UInt8) (h : p_s.length * 1 ≤ 140737488355328) : slices_Clone_byte_byte p_s = some p_s := by
  unfold slices_Clone_byte_byte
  refine Le0.clone fun b hb => ?_
  cases b with
  | true => rw [hb rfl]; rfl
  | false =>
    rw [if_neg (by decide)]
    show chk _ _ = _
    unfold chk
    rw [if_pos (by simpa using h)]; rfl

theorem le_slices_Clone_byte_byte (n : Nat) (p_s : List UInt8) : Le0 (slices_Clone_byte_byte' n p_s) (slices_Clone_byte_byte p_s) := fun r hr => by
  obtain ⟨h1, h2⟩ := chk_some hr
  cases h2
  exact eq_slices_Clone_byte_byte _ h1

def sum_half_1' (_n : Nat) (p_c : Int) : Option Int := if ((andK .u32 p_c (1)) == 1) then some ((xorK .u32 ((shrK .u32 p_c (1))) (2197175160))) else some ((shrK .u32 p_c (1)))

theorem le_sum_half_1 (n : Nat) (p_c : Int) : Le0 (sum_half_1' n p_c) (sum_half_1 p_c) := by
  unfold sum_half_1' sum_half_1
  repeat' (first | with_reducible refine Le0.bind ?_ (fun _ => ?_) | with_reducible refine Le0.ite ?_ ?_ | with_reducible refine Le0.chk ?_ | with_reducible refine Le0.out ?_ | with_reducible exact Le0.refl _)

def sum_half_B2' (n : Nat) (s2 : Int × Int) : Option ((Int × Int) ⊕ Int) := if (decide (s2.2 < 4)) then (sum_half_1' n s2.1).bind fun x1 => chk (InI64 (s2.2 + 1)) (some (.inl ((x1, (s2.2 + 1))))) else out (some s2.1)

theorem le_sum_half_B2 (n : Nat) (s2 : Int × Int) : Le0 (sum_half_B2' n s2) (sum_half_B2 s2) := by
  unfold sum_half_B2' sum_half_B2
  repeat' (first | with_reducible apply le_sum_half_1 | with_reducible refine Le0.bind ?_ (fun _ => ?_) | with_reducible refine Le0.ite ?_ ?_ | with_reducible refine Le0.chk ?_ | with_reducible refine Le0.out ?_ | with_reducible exact Le0.refl _)

def sum_half_L2' (n : Nat) (s2 : Int × Int) : Option Int := loopN (sum_half_B2' n ) n s2

theorem le_sum_half_L2 (n : Nat) (s2 : Int × Int) : Le0 (sum_half_L2' n s2) (sum_half_L2 s2) := Le0.loop (fun s => le_sum_half_B2 n  s) n s2

def sum_half_B1' (n : Nat) (s1 : Int × (List Int)) : Option ((Int × (List Int)) ⊕ ((List Int))) := if (decide (s1.1 < 16)) then ((sum_half_L2' n (((IntKind.u32.wrap s1.1), 0))).bind fun v3 => (idx s1.2 s1.1).bind fun _ => chk (s1.1 < 16) (some ((s1.2.set s1.1.toNat v3)))).bind fun v2 => chk (InI64 (s1.1 + 1)) (some (.inl (((s1.1 + 1), v2)))) else out (some s1.2)

theorem le_sum_half_B1 (n : Nat) (s1 : Int × (List Int)) : Le0 (sum_half_B1' n s1) (sum_half_B1 s1) := by
  unfold sum_half_B1' sum_half_B1
  repeat' (first | with_reducible apply le_sum_half_L2 | with_reducible refine Le0.bind ?_ (fun _ => ?_) | with_reducible refine Le0.ite ?_ ?_ | with_reducible refine Le0.chk ?_ | with_reducible refine Le0.out ?_ | with_reducible exact Le0.refl _)

def sum_half_L1' (n : Nat) (s1 : Int × (List Int)) : Option ((List Int)) := loopN (sum_half_B1' n ) n s1

theorem le_sum_half_L1 (n : Nat) (s1 : Int × (List Int)) : Le0 (sum_half_L1' n s1) (sum_half_L1 s1) := Le0.loop (fun s => le_sum_half_B1 n  s) n s1

def sum_half' (n : Nat) : Option ((List Int)) := (sum_half_L1' n ((0, (List.replicate 16 0)))).bind fun v1 => chk (v1.length = 16) (chk (v1.length = 16) (chk (v1.length = 16) (some v1)))

theorem le_sum_half (n : Nat) : Le0 (sum_half' n) (sum_half) := by
  unfold sum_half' sum_half
  repeat' (first | with_reducible apply le_sum_half_L1 | with_reducible refine Le0.bind ?_ (fun _ => ?_) | with_reducible refine Le0.ite ?_ ?_ | with_reducible refine Le0.chk ?_ | with_reducible refine Le0.out ?_ | with_reducible exact Le0.refl _)

def sum_of_B1' (_n : Nat) (p_b : List UInt8) (p_t : List Int) (s1 : Int × Int) : Option ((Int × Int) ⊕ Int) := if (decide (s1.2 < (p_b.length : Int))) then (idx p_b s1.2).bind fun x1 => (idx p_t ((andK .u32 ((xorK .u32 s1.1 ((x1.toNat : Int)))) (15)))).bind fun x2 => chk ((andK .u32 ((xorK .u32 s1.1 ((x1.toNat : Int)))) (15)) < 16) ((idx p_t ((andK .u32 ((xorK .u32 x2 ((shrK .u32 ((xorK .u32 s1.1 ((x1.toNat : Int)))) (4))))) (15)))).bind fun x3 => chk ((andK .u32 ((xorK .u32 x2 ((shrK .u32 ((xorK .u32 s1.1 ((x1.toNat : Int)))) (4))))) (15)) < 16) (chk (InI64 (s1.2 + 1)) (some (.inl (((xorK .u32 x3 ((shrK .u32 ((xorK .u32 x2 ((shrK .u32 ((xorK .u32 s1.1 ((x1.toNat : Int)))) (4))))) (4)))), (s1.2 + 1))))))) else out (some s1.1)

theorem le_sum_of_B1 (n : Nat) (p_b : List UInt8) (p_t : List Int) (s1 : Int × Int) : Le0 (sum_of_B1' n p_b p_t s1) (sum_of_B1 p_b p_t s1) := by
  unfold sum_of_B1' sum_of_B1
  repeat' (first | with_reducible refine Le0.bind ?_ (fun _ => ?_) | with_reducible refine Le0.ite ?_ ?_ | with_reducible refine Le0.chk ?_ | with_reducible refine Le0.out ?_ | with_reducible exact Le0.refl _)

def sum_of_L1' (n : Nat) (p_b : List UInt8) (p_t : List Int) (s1 : Int × Int) : Option Int := loopN (sum_of_B1' n p_b p_t) n s1

theorem le_sum_of_L1 (n : Nat) (p_b : List UInt8) (p_t : List Int) (s1 : Int × Int) : Le0 (sum_of_L1' n p_b p_t s1) (sum_of_L1 p_b p_t s1) := Le0.loop (fun s => le_sum_of_B1 n p_b p_t s) n s1

def sum_of' (n : Nat) (p_t : List Int) (p_b : List UInt8) : Option Int := (sum_of_L1' n p_b p_t ((4294967295, 0))).bind fun v1 => some ((IntKind.i64.wrap ((xorK .u32 v1 (4294967295)))))

theorem le_sum_of (n : Nat) (p_t : List Int) (p_b : List UInt8) : Le0 (sum_of' n p_t p_b) (sum_of p_t p_b) := by
  unfold sum_of' sum_of
  repeat' (first | with_reducible apply le_sum_of_L1 | with_reducible refine Le0.bind ?_ (fun _ => ?_) | with_reducible refine Le0.ite ?_ ?_ | with_reducible refine Le0.chk ?_ | with_reducible refine Le0.out ?_ | with_reducible exact Le0.refl _)

def sum_Blocks_B1' (n : Nat) (x1 : (List Int)) (s1 : (List UInt8) × (List Int)) : Option (((List UInt8) × (List Int)) ⊕ ((List Int))) := if (decide ((s1.1.length : Int) > 0)) then chk (x1.length = 16) (chk ((0 : Int) ≤ (min ((s1.1.length : Int)) (16)) ∧ (min ((s1.1.length : Int)) (16)) ≤ (s1.1.length : Int)) ((sum_of' n x1 ((s1.1.take ((min ((s1.1.length : Int)) (16))).toNat))).bind fun x2 => chk ((s1.2.length + ([x2]).length) * 8 ≤ 140737488355328) (chk ((0 : Int) ≤ (min ((s1.1.length : Int)) (16)) ∧ (min ((s1.1.length : Int)) (16)) ≤ (s1.1.length : Int)) (some (.inl (((s1.1.drop ((min ((s1.1.length : Int)) (16))).toNat), (s1.2 ++ [x2])))))))) else out (some s1.2)

theorem le_sum_Blocks_B1 (n : Nat) (x1 : (List Int)) (s1 : (List UInt8) × (List Int)) : Le0 (sum_Blocks_B1' n x1 s1) (sum_Blocks_B1 x1 s1) := by
  unfold sum_Blocks_B1' sum_Blocks_B1
  repeat' (first | with_reducible apply le_sum_of | with_reducible refine Le0.bind ?_ (fun _ => ?_) | with_reducible refine Le0.ite ?_ ?_ | with_reducible refine Le0.chk ?_ | with_reducible refine Le0.out ?_ | with_reducible exact Le0.refl _)

def sum_Blocks_L1' (n : Nat) (x1 : (List Int)) (s1 : (List UInt8) × (List Int)) : Option ((List Int)) := loopN (sum_Blocks_B1' n x1) n s1

theorem le_sum_Blocks_L1 (n : Nat) (x1 : (List Int)) (s1 : (List UInt8) × (List Int)) : Le0 (sum_Blocks_L1' n x1 s1) (sum_Blocks_L1 x1 s1) := Le0.loop (fun s => le_sum_Blocks_B1 n x1 s) n s1

def sum_Blocks' (n : Nat) (p_data : List UInt8) : Option ((List Int)) := (sum_half' n).bind fun x1 => chk (x1.length = 16) ((sum_Blocks_L1' n x1 ((p_data, []))).bind fun v1 => some v1)

theorem le_sum_Blocks (n : Nat) (p_data : List UInt8) : Le0 (sum_Blocks' n p_data) (sum_Blocks p_data) := by
  unfold sum_Blocks' sum_Blocks
  repeat' (first | with_reducible apply le_sum_half | with_reducible apply le_sum_Blocks_L1 | with_reducible refine Le0.bind ?_ (fun _ => ?_) | with_reducible refine Le0.ite ?_ ?_ | with_reducible refine Le0.chk ?_ | with_reducible refine Le0.out ?_ | with_reducible exact Le0.refl _)

def chunk_New' (n : Nat) (p_id : Int) (p_ver : Int) (p_data : List UInt8) : Option api_Copy := (slices_Clone_byte_byte' n p_data).bind fun x1 => (sum_Blocks' n p_data).bind fun x2 => some ((⟨p_id, p_ver, x1, x2⟩ : api_Copy))

theorem le_chunk_New (n : Nat) (p_id : Int) (p_ver : Int) (p_data : List UInt8) : Le0 (chunk_New' n p_id p_ver p_data) (chunk_New p_id p_ver p_data) := by
  unfold chunk_New' chunk_New
  repeat' (first | with_reducible apply le_slices_Clone_byte_byte | with_reducible apply le_sum_Blocks | with_reducible refine Le0.bind ?_ (fun _ => ?_) | with_reducible refine Le0.ite ?_ ?_ | with_reducible refine Le0.chk ?_ | with_reducible refine Le0.out ?_ | with_reducible exact Le0.refl _)

def chunk_within' (_n : Nat) (p_id : Int) : Option Bool := ((if (decide (p_id ≥ 0)) then some ((decide (p_id < 200))) else some false).bind fun c1 => some c1).bind fun v1 => some v1

theorem le_chunk_within (n : Nat) (p_id : Int) : Le0 (chunk_within' n p_id) (chunk_within p_id) := by
  unfold chunk_within' chunk_within
  repeat' (first | with_reducible refine Le0.bind ?_ (fun _ => ?_) | with_reducible refine Le0.ite ?_ ?_ | with_reducible refine Le0.chk ?_ | with_reducible refine Le0.out ?_ | with_reducible exact Le0.refl _)

def sum_Check_J1' (_n : Nat) (x1 : (List Int)) (p_sums : List Int) (_v1 : Unit) : Option Int := if ((x1.length : Int) != (p_sums.length : Int)) then some ((min ((x1.length : Int)) ((p_sums.length : Int)))) else some ((-1))

theorem le_sum_Check_J1 (n : Nat) (x1 : (List Int)) (p_sums : List Int) (_v1 : Unit) : Le0 (sum_Check_J1' n x1 p_sums _v1) (sum_Check_J1 x1 p_sums _v1) := by
  unfold sum_Check_J1' sum_Check_J1
  repeat' (first | with_reducible refine Le0.bind ?_ (fun _ => ?_) | with_reducible refine Le0.ite ?_ ?_ | with_reducible refine Le0.chk ?_ | with_reducible refine Le0.out ?_ | with_reducible exact Le0.refl _)

def sum_Check_B1' (n : Nat) (x1 : (List Int)) (p_sums : List Int) (s1 : Int) : Option ((Int) ⊕ Int) := if (decide (s1 < (min ((x1.length : Int)) ((p_sums.length : Int))))) then (idx x1 s1).bind fun x2 => (idx p_sums s1).bind fun x3 => if (x2 != x3) then out (some s1) else chk (InI64 (s1 + 1)) (some (.inl ((s1 + 1)))) else out (sum_Check_J1' n x1 p_sums (()))

theorem le_sum_Check_B1 (n : Nat) (x1 : (List Int)) (p_sums : List Int) (s1 : Int) : Le0 (sum_Check_B1' n x1 p_sums s1) (sum_Check_B1 x1 p_sums s1) := by
  unfold sum_Check_B1' sum_Check_B1
  repeat' (first | with_reducible apply le_sum_Check_J1 | with_reducible refine Le0.bind ?_ (fun _ => ?_) | with_reducible refine Le0.ite ?_ ?_ | with_reducible refine Le0.chk ?_ | with_reducible refine Le0.out ?_ | with_reducible exact Le0.refl _)

def sum_Check_L1' (n : Nat) (x1 : (List Int)) (p_sums : List Int) (s1 : Int) : Option Int := loopN (sum_Check_B1' n x1 p_sums) n s1

theorem le_sum_Check_L1 (n : Nat) (x1 : (List Int)) (p_sums : List Int) (s1 : Int) : Le0 (sum_Check_L1' n x1 p_sums s1) (sum_Check_L1 x1 p_sums s1) := Le0.loop (fun s => le_sum_Check_B1 n x1 p_sums s) n s1

def sum_Check' (n : Nat) (p_data : List UInt8) (p_sums : List Int) : Option Int := (sum_Blocks' n p_data).bind fun x1 => sum_Check_L1' n x1 p_sums (0)

theorem le_sum_Check (n : Nat) (p_data : List UInt8) (p_sums : List Int) : Le0 (sum_Check' n p_data p_sums) (sum_Check p_data p_sums) := by
  unfold sum_Check' sum_Check
  repeat' (first | with_reducible apply le_sum_Blocks | with_reducible apply le_sum_Check_L1 | with_reducible refine Le0.bind ?_ (fun _ => ?_) | with_reducible refine Le0.ite ?_ ?_ | with_reducible refine Le0.chk ?_ | with_reducible refine Le0.out ?_ | with_reducible exact Le0.refl _)

def chunk_may' (n : Nat) (p_c : api_Copy) : Option Bool := ((chunk_within' n p_c.Id).bind fun x1 => (if x1 then some ((decide (p_c.Ver ≥ 0))) else some false).bind fun c1 => (if c1 then some ((decide (p_c.Ver ≤ 1099511627776))) else some false).bind fun c2 => (if c2 then some ((decide ((p_c.Data.length : Int) ≤ 64))) else some false).bind fun c3 => (if c3 then (sum_Check' n p_c.Data p_c.Sums).bind fun x2 => some ((x2 == (-1))) else some false).bind fun c4 => some c4).bind fun v1 => some v1

theorem le_chunk_may (n : Nat) (p_c : api_Copy) : Le0 (chunk_may' n p_c) (chunk_may p_c) := by
  unfold chunk_may' chunk_may
  repeat' (first | with_reducible apply le_chunk_within | with_reducible apply le_sum_Check | with_reducible refine Le0.bind ?_ (fun _ => ?_) | with_reducible refine Le0.ite ?_ ?_ | with_reducible refine Le0.chk ?_ | with_reducible refine Le0.out ?_ | with_reducible exact Le0.refl _)

def pack_Int_B1' (_n : Nat) (s1 : Int × (List UInt8)) : Option ((Int × (List UInt8)) ⊕ (Int × (List UInt8))) := if (decide (s1.1 ≥ 128)) then chk ((s1.2.length + ([((toU8 s1.1) ||| (128 : UInt8))]).length) * 1 ≤ 140737488355328) (some (.inl (((shrK .u64 s1.1 (7)), (s1.2 ++ [((toU8 s1.1) ||| (128 : UInt8))]))))) else out (some ((s1.1, s1.2)))

theorem le_pack_Int_B1 (n : Nat) (s1 : Int × (List UInt8)) : Le0 (pack_Int_B1' n s1) (pack_Int_B1 s1) := by
  unfold pack_Int_B1' pack_Int_B1
  repeat' (first | with_reducible refine Le0.bind ?_ (fun _ => ?_) | with_reducible refine Le0.ite ?_ ?_ | with_reducible refine Le0.chk ?_ | with_reducible refine Le0.out ?_ | with_reducible exact Le0.refl _)

def pack_Int_L1' (n : Nat) (s1 : Int × (List UInt8)) : Option (Int × (List UInt8)) := loopN (pack_Int_B1' n ) n s1

theorem le_pack_Int_L1 (n : Nat) (s1 : Int × (List UInt8)) : Le0 (pack_Int_L1' n s1) (pack_Int_L1 s1) := Le0.loop (fun s => le_pack_Int_B1 n  s) n s1

def pack_Int' (n : Nat) (p_n : Int) : Option ((List UInt8)) := (pack_Int_L1' n (((xorK .u64 ((shlK .u64 ((IntKind.u64.wrap p_n)) (1))) ((IntKind.u64.wrap ((shrK .i64 p_n (63)))))), []))).bind fun v1 => chk ((v1.2.length + ([(toU8 v1.1)]).length) * 1 ≤ 140737488355328) (some ((v1.2 ++ [(toU8 v1.1)])))

theorem le_pack_Int (n : Nat) (p_n : Int) : Le0 (pack_Int' n p_n) (pack_Int p_n) := by
  unfold pack_Int' pack_Int
  repeat' (first | with_reducible apply le_pack_Int_L1 | with_reducible refine Le0.bind ?_ (fun _ => ?_) | with_reducible refine Le0.ite ?_ ?_ | with_reducible refine Le0.chk ?_ | with_reducible refine Le0.out ?_ | with_reducible exact Le0.refl _)

def pack_Str' (n : Nat) (p_s : List UInt8) : Option ((List UInt8)) := (pack_Int' n ((p_s.length : Int))).bind fun x1 => chk ((x1.length + p_s.length) * 1 ≤ 140737488355328) (some ((x1 ++ p_s)))

theorem le_pack_Str (n : Nat) (p_s : List UInt8) : Le0 (pack_Str' n p_s) (pack_Str p_s) := by
  unfold pack_Str' pack_Str
  repeat' (first | with_reducible apply le_pack_Int | with_reducible refine Le0.bind ?_ (fun _ => ?_) | with_reducible refine Le0.ite ?_ ?_ | with_reducible refine Le0.chk ?_ | with_reducible refine Le0.out ?_ | with_reducible exact Le0.refl _)

def pack_numbers_B1' (n : Nat) (p_l : List Int) (s1 : Int × (List UInt8)) : Option ((Int × (List UInt8)) ⊕ ((List UInt8))) := if (decide (s1.1 < (p_l.length : Int))) then (idx p_l s1.1).bind fun x1 => (pack_Int' n x1).bind fun x2 => chk ((s1.2.length + x2.length) * 1 ≤ 140737488355328) (chk (InI64 (s1.1 + 1)) (some (.inl (((s1.1 + 1), (s1.2 ++ x2)))))) else out (some s1.2)

theorem le_pack_numbers_B1 (n : Nat) (p_l : List Int) (s1 : Int × (List UInt8)) : Le0 (pack_numbers_B1' n p_l s1) (pack_numbers_B1 p_l s1) := by
  unfold pack_numbers_B1' pack_numbers_B1
  repeat' (first | with_reducible apply le_pack_Int | with_reducible refine Le0.bind ?_ (fun _ => ?_) | with_reducible refine Le0.ite ?_ ?_ | with_reducible refine Le0.chk ?_ | with_reducible refine Le0.out ?_ | with_reducible exact Le0.refl _)

def pack_numbers_L1' (n : Nat) (p_l : List Int) (s1 : Int × (List UInt8)) : Option ((List UInt8)) := loopN (pack_numbers_B1' n p_l) n s1

theorem le_pack_numbers_L1 (n : Nat) (p_l : List Int) (s1 : Int × (List UInt8)) : Le0 (pack_numbers_L1' n p_l s1) (pack_numbers_L1 p_l s1) := Le0.loop (fun s => le_pack_numbers_B1 n p_l s) n s1

def pack_numbers' (n : Nat) (p_l : List Int) : Option ((List UInt8)) := (pack_numbers_L1' n p_l ((0, []))).bind fun v1 => some v1

theorem le_pack_numbers (n : Nat) (p_l : List Int) : Le0 (pack_numbers' n p_l) (pack_numbers p_l) := by
  unfold pack_numbers' pack_numbers
  repeat' (first | with_reducible apply le_pack_numbers_L1 | with_reducible refine Le0.bind ?_ (fun _ => ?_) | with_reducible refine Le0.ite ?_ ?_ | with_reducible refine Le0.chk ?_ | with_reducible refine Le0.out ?_ | with_reducible exact Le0.refl _)

def pack_Ints' (n : Nat) (p_l : List Int) : Option ((List UInt8)) := (pack_Int' n ((p_l.length : Int))).bind fun x1 => (pack_numbers' n p_l).bind fun x2 => chk ((x1.length + x2.length) * 1 ≤ 140737488355328) (some ((x1 ++ x2)))

theorem le_pack_Ints (n : Nat) (p_l : List Int) : Le0 (pack_Ints' n p_l) (pack_Ints p_l) := by
  unfold pack_Ints' pack_Ints
  repeat' (first | with_reducible apply le_pack_Int | with_reducible apply le_pack_numbers | with_reducible refine Le0.bind ?_ (fun _ => ?_) | with_reducible refine Le0.ite ?_ ?_ | with_reducible refine Le0.chk ?_ | with_reducible refine Le0.out ?_ | with_reducible exact Le0.refl _)

def slices_Grow_byte_byte__nil' (_n : Nat) (p_n : Int) : Option ((List UInt8)) := (if (decide (p_n < 0)) then none else some (())).bind fun _ => (chk (InI64 (p_n - 0)) (if (decide ((p_n - 0) > 0)) then chk ((0 : Int) ≤ (p_n - 0) ∧ ((p_n - 0)).toNat * 1 ≤ 140737488355328) (chk ((0 : Int) ≤ 0 ∧ 0 ≤ (((List.replicate ((p_n - 0)).toNat ((0 : UInt8)))).length : Int)) (some ((((List.replicate ((p_n - 0)).toNat ((0 : UInt8)))).take (0 : Int).toNat)))) else some ([]))).bind fun v2 => some v2

theorem le_slices_Grow_byte_byte__nil (n : Nat) (p_n : Int) : Le0 (slices_Grow_byte_byte__nil' n p_n) (slices_Grow_byte_byte__nil p_n) := by
  unfold slices_Grow_byte_byte__nil' slices_Grow_byte_byte__nil
  repeat' (first | with_reducible refine Le0.bind ?_ (fun _ => ?_) | with_reducible refine Le0.ite ?_ ?_ | with_reducible refine Le0.chk ?_ | with_reducible refine Le0.out ?_ | with_reducible exact Le0.refl _)

def slices_Concat_byte_byte_B1' (_n : Nat) (p_slices : List (List UInt8)) (s1 : Int × Int) : Option ((Int × Int) ⊕ Int) := if (decide (s1.2 < (p_slices.length : Int))) then ((idx p_slices s1.2).bind fun x1 => chk (InI64 (s1.1 + (x1.length : Int))) (if (decide ((s1.1 + (x1.length : Int)) < 0)) then none else some ((s1.1 + (x1.length : Int))))).bind fun v2 => chk (InI64 (s1.2 + 1)) (some (.inl ((v2, (s1.2 + 1))))) else out (some s1.1)

theorem le_slices_Concat_byte_byte_B1 (n : Nat) (p_slices : List (List UInt8)) (s1 : Int × Int) : Le0 (slices_Concat_byte_byte_B1' n p_slices s1) (slices_Concat_byte_byte_B1 p_slices s1) := by
  unfold slices_Concat_byte_byte_B1' slices_Concat_byte_byte_B1
  repeat' (first | with_reducible refine Le0.bind ?_ (fun _ => ?_) | with_reducible refine Le0.ite ?_ ?_ | with_reducible refine Le0.chk ?_ | with_reducible refine Le0.out ?_ | with_reducible exact Le0.refl _)

def slices_Concat_byte_byte_L1' (n : Nat) (p_slices : List (List UInt8)) (s1 : Int × Int) : Option Int := loopN (slices_Concat_byte_byte_B1' n p_slices) n s1

theorem le_slices_Concat_byte_byte_L1 (n : Nat) (p_slices : List (List UInt8)) (s1 : Int × Int) : Le0 (slices_Concat_byte_byte_L1' n p_slices s1) (slices_Concat_byte_byte_L1 p_slices s1) := Le0.loop (fun s => le_slices_Concat_byte_byte_B1 n p_slices s) n s1

def slices_Concat_byte_byte_B2' (_n : Nat) (p_slices : List (List UInt8)) (s2 : Int × (List UInt8)) : Option ((Int × (List UInt8)) ⊕ ((List UInt8))) := if (decide (s2.1 < (p_slices.length : Int))) then (idx p_slices s2.1).bind fun x3 => chk ((s2.2.length + x3.length) * 1 ≤ 140737488355328) (chk (InI64 (s2.1 + 1)) (some (.inl (((s2.1 + 1), (s2.2 ++ x3)))))) else out (some s2.2)

theorem le_slices_Concat_byte_byte_B2 (n : Nat) (p_slices : List (List UInt8)) (s2 : Int × (List UInt8)) : Le0 (slices_Concat_byte_byte_B2' n p_slices s2) (slices_Concat_byte_byte_B2 p_slices s2) := by
  unfold slices_Concat_byte_byte_B2' slices_Concat_byte_byte_B2
  repeat' (first | with_reducible refine Le0.bind ?_ (fun _ => ?_) | with_reducible refine Le0.ite ?_ ?_ | with_reducible refine Le0.chk ?_ | with_reducible refine Le0.out ?_ | with_reducible exact Le0.refl _)

def slices_Concat_byte_byte_L2' (n : Nat) (p_slices : List (List UInt8)) (s2 : Int × (List UInt8)) : Option ((List UInt8)) := loopN (slices_Concat_byte_byte_B2' n p_slices) n s2

theorem le_slices_Concat_byte_byte_L2 (n : Nat) (p_slices : List (List UInt8)) (s2 : Int × (List UInt8)) : Le0 (slices_Concat_byte_byte_L2' n p_slices s2) (slices_Concat_byte_byte_L2 p_slices s2) := Le0.loop (fun s => le_slices_Concat_byte_byte_B2 n p_slices s) n s2

def slices_Concat_byte_byte' (n : Nat) (p_slices : List (List UInt8)) : Option ((List UInt8)) := (slices_Concat_byte_byte_L1' n p_slices ((0, 0))).bind fun v1 => (slices_Grow_byte_byte__nil' n v1).bind fun x2 => (slices_Concat_byte_byte_L2' n p_slices ((0, x2))).bind fun v3 => some v3

theorem le_slices_Concat_byte_byte (n : Nat) (p_slices : List (List UInt8)) : Le0 (slices_Concat_byte_byte' n p_slices) (slices_Concat_byte_byte p_slices) := by
  unfold slices_Concat_byte_byte' slices_Concat_byte_byte
  repeat' (first | with_reducible apply le_slices_Concat_byte_byte_L1 | with_reducible apply le_slices_Grow_byte_byte__nil | with_reducible apply le_slices_Concat_byte_byte_L2 | with_reducible refine Le0.bind ?_ (fun _ => ?_) | with_reducible refine Le0.ite ?_ ?_ | with_reducible refine Le0.chk ?_ | with_reducible refine Le0.out ?_ | with_reducible exact Le0.refl _)

def sum_Of' (n : Nat) (p_b : List UInt8) : Option Int := (sum_half' n).bind fun x1 => (sum_of' n x1 p_b).bind fun x2 => some x2

theorem le_sum_Of (n : Nat) (p_b : List UInt8) : Le0 (sum_Of' n p_b) (sum_Of p_b) := by
  unfold sum_Of' sum_Of
  repeat' (first | with_reducible apply le_sum_half | with_reducible apply le_sum_of | with_reducible refine Le0.bind ?_ (fun _ => ?_) | with_reducible refine Le0.ite ?_ ?_ | with_reducible refine Le0.chk ?_ | with_reducible refine Le0.out ?_ | with_reducible exact Le0.refl _)

def chunk_page_B1' (_n : Nat) (x6 : Int) (s1 : Int × (List UInt8)) : Option ((Int × (List UInt8)) ⊕ ((List UInt8))) := if (decide (s1.1 < 4)) then chk (InI64 (8 * s1.1)) (chk ((0 : Int) ≤ (8 * s1.1)) (chk ((s1.2.length + ([(toU8 ((shrK .i64 x6 ((8 * s1.1)))))]).length) * 1 ≤ 140737488355328) (chk (InI64 (s1.1 + 1)) (some (.inl (((s1.1 + 1), (s1.2 ++ [(toU8 ((shrK .i64 x6 ((8 * s1.1)))))])))))))) else out (some s1.2)

theorem le_chunk_page_B1 (n : Nat) (x6 : Int) (s1 : Int × (List UInt8)) : Le0 (chunk_page_B1' n x6 s1) (chunk_page_B1 x6 s1) := by
  unfold chunk_page_B1' chunk_page_B1
  repeat' (first | with_reducible refine Le0.bind ?_ (fun _ => ?_) | with_reducible refine Le0.ite ?_ ?_ | with_reducible refine Le0.chk ?_ | with_reducible refine Le0.out ?_ | with_reducible exact Le0.refl _)

def chunk_page_L1' (n : Nat) (x6 : Int) (s1 : Int × (List UInt8)) : Option ((List UInt8)) := loopN (chunk_page_B1' n x6) n s1

theorem le_chunk_page_L1 (n : Nat) (x6 : Int) (s1 : Int × (List UInt8)) : Le0 (chunk_page_L1' n x6 s1) (chunk_page_L1 x6 s1) := Le0.loop (fun s => le_chunk_page_B1 n x6 s) n s1

def chunk_page' (n : Nat) (p_c : api_Copy) : Option ((List UInt8)) := (pack_Int' n p_c.Id).bind fun x1 => (pack_Int' n p_c.Ver).bind fun x2 => (pack_Str' n p_c.Data).bind fun x3 => (pack_Ints' n p_c.Sums).bind fun x4 => (slices_Concat_byte_byte' n ([x1, x2, x3, x4])).bind fun x5 => (sum_Of' n x5).bind fun x6 => (chunk_page_L1' n x6 ((0, x5))).bind fun v1 => some v1

theorem le_chunk_page (n : Nat) (p_c : api_Copy) : Le0 (chunk_page' n p_c) (chunk_page p_c) := by
  unfold chunk_page' chunk_page
  repeat' (first | with_reducible apply le_pack_Int | with_reducible apply le_pack_Str | with_reducible apply le_pack_Ints | with_reducible apply le_slices_Concat_byte_byte | with_reducible apply le_sum_Of | with_reducible apply le_chunk_page_L1 | with_reducible refine Le0.bind ?_ (fun _ => ?_) | with_reducible refine Le0.ite ?_ ?_ | with_reducible refine Le0.chk ?_ | with_reducible refine Le0.out ?_ | with_reducible exact Le0.refl _)

def disk_may' (_n : Nat) (p_at : Int) (p_data : List UInt8) : Option Bool := ((if (decide (p_at ≥ 0)) then some ((decide (p_at < 1000))) else some false).bind fun c1 => (if c1 then some ((decide ((p_data.length : Int) ≤ 200))) else some false).bind fun c2 => some c2).bind fun v1 => some v1

theorem le_disk_may (n : Nat) (p_at : Int) (p_data : List UInt8) : Le0 (disk_may' n p_at p_data) (disk_may p_at p_data) := by
  unfold disk_may' disk_may
  repeat' (first | with_reducible refine Le0.bind ?_ (fun _ => ?_) | with_reducible refine Le0.ite ?_ ?_ | with_reducible refine Le0.chk ?_ | with_reducible refine Le0.out ?_ | with_reducible exact Le0.refl _)

def slices_Clone_api_Page_api_Page' (_n : Nat) (p_s : List api_Page) : Option ((List api_Page)) := chk (p_s.length * 32 ≤ 140737488355328) (some p_s)

theorem eq_slices_Clone_api_Page_api_Page (p_s : List api_Page) (h : p_s.length * 32 ≤ 140737488355328) : slices_Clone_api_Page_api_Page p_s = some p_s := by
  unfold slices_Clone_api_Page_api_Page
  refine Le0.clone fun b hb => ?_
  cases b with
  | true => rw [hb rfl]; rfl
  | false =>
    rw [if_neg (by decide)]
    show chk _ _ = _
    unfold chk
    rw [if_pos (by simpa using h)]; rfl

theorem le_slices_Clone_api_Page_api_Page (n : Nat) (p_s : List api_Page) : Le0 (slices_Clone_api_Page_api_Page' n p_s) (slices_Clone_api_Page_api_Page p_s) := fun r hr => by
  obtain ⟨h1, h2⟩ := chk_some hr
  cases h2
  exact eq_slices_Clone_api_Page_api_Page _ h1

def bytes_Clone' (_n : Nat) (p_b : List UInt8) : Option ((List UInt8)) := chk (p_b.length * 1 ≤ 140737488355328) (some p_b)

theorem eq_bytes_Clone (p_b : List UInt8) (h : p_b.length * 1 ≤ 140737488355328) : bytes_Clone p_b = some p_b := by
  unfold bytes_Clone
  refine Le0.clone fun b hb => ?_
  cases b with
  | true => rw [hb rfl]; rfl
  | false =>
    rw [if_neg (by decide)]
    show chk _ _ = _
    unfold chk
    rw [if_pos (by simpa using h)]; rfl

theorem le_bytes_Clone (n : Nat) (p_b : List UInt8) : Le0 (bytes_Clone' n p_b) (bytes_Clone p_b) := fun r hr => by
  obtain ⟨h1, h2⟩ := chk_some hr
  cases h2
  exact eq_bytes_Clone _ h1

def disk_Write' (n : Nat) (p_d : api_Disk) (p_at : Int) (p_data : List UInt8) : Option (api_Disk × Int) := if p_d.Down then some ((p_d, 40)) else (disk_may' n p_at p_data).bind fun x1 => if (!x1) then some ((p_d, 1)) else (slices_Clone_api_Page_api_Page' n p_d.Loose).bind fun x2 => (bytes_Clone' n p_data).bind fun x3 => chk ((x2.length + ([(⟨p_at, x3⟩ : api_Page)]).length) * 32 ≤ 140737488355328) (some (((⟨p_d.Synced, (x2 ++ [(⟨p_at, x3⟩ : api_Page)]), p_d.Down⟩ : api_Disk), 0)))

theorem le_disk_Write (n : Nat) (p_d : api_Disk) (p_at : Int) (p_data : List UInt8) : Le0 (disk_Write' n p_d p_at p_data) (disk_Write p_d p_at p_data) := by
  unfold disk_Write' disk_Write
  repeat' (first | with_reducible apply le_disk_may | with_reducible apply le_slices_Clone_api_Page_api_Page | with_reducible apply le_bytes_Clone | with_reducible refine Le0.bind ?_ (fun _ => ?_) | with_reducible refine Le0.ite ?_ ?_ | with_reducible refine Le0.chk ?_ | with_reducible refine Le0.out ?_ | with_reducible exact Le0.refl _)

def chunk_Put' (n : Nat) (p_d : api_Disk) (p_c : api_Copy) : Option (api_Disk × Int) := (chunk_may' n p_c).bind fun x1 => if (!x1) then some ((p_d, 1)) else (chunk_page' n p_c).bind fun x2 => (disk_Write' n p_d p_c.Id x2).bind fun x3 => some ((x3.1, x3.2))

theorem le_chunk_Put (n : Nat) (p_d : api_Disk) (p_c : api_Copy) : Le0 (chunk_Put' n p_d p_c) (chunk_Put p_d p_c) := by
  unfold chunk_Put' chunk_Put
  repeat' (first | with_reducible apply le_chunk_may | with_reducible apply le_chunk_page | with_reducible apply le_disk_Write | with_reducible refine Le0.bind ?_ (fun _ => ?_) | with_reducible refine Le0.ite ?_ ?_ | with_reducible refine Le0.chk ?_ | with_reducible refine Le0.out ?_ | with_reducible exact Le0.refl _)

def slices_Grow_api_Page_api_Page__nil' (_n : Nat) (p_n : Int) : Option ((List api_Page)) := (if (decide (p_n < 0)) then none else some (())).bind fun _ => (chk (InI64 (p_n - 0)) (if (decide ((p_n - 0) > 0)) then chk ((0 : Int) ≤ (p_n - 0) ∧ ((p_n - 0)).toNat * 32 ≤ 140737488355328) (chk ((0 : Int) ≤ 0 ∧ 0 ≤ (((List.replicate ((p_n - 0)).toNat (((⟨0, []⟩ : api_Page) : api_Page)))).length : Int)) (some ((((List.replicate ((p_n - 0)).toNat (((⟨0, []⟩ : api_Page) : api_Page)))).take (0 : Int).toNat)))) else some ([]))).bind fun v2 => some v2

theorem le_slices_Grow_api_Page_api_Page__nil (n : Nat) (p_n : Int) : Le0 (slices_Grow_api_Page_api_Page__nil' n p_n) (slices_Grow_api_Page_api_Page__nil p_n) := by
  unfold slices_Grow_api_Page_api_Page__nil' slices_Grow_api_Page_api_Page__nil
  repeat' (first | with_reducible refine Le0.bind ?_ (fun _ => ?_) | with_reducible refine Le0.ite ?_ ?_ | with_reducible refine Le0.chk ?_ | with_reducible refine Le0.out ?_ | with_reducible exact Le0.refl _)

def slices_Concat_api_Page_api_Page_B1' (_n : Nat) (p_slices : List (List api_Page)) (s1 : Int × Int) : Option ((Int × Int) ⊕ Int) := if (decide (s1.2 < (p_slices.length : Int))) then ((idx p_slices s1.2).bind fun x1 => chk (InI64 (s1.1 + (x1.length : Int))) (if (decide ((s1.1 + (x1.length : Int)) < 0)) then none else some ((s1.1 + (x1.length : Int))))).bind fun v2 => chk (InI64 (s1.2 + 1)) (some (.inl ((v2, (s1.2 + 1))))) else out (some s1.1)

theorem le_slices_Concat_api_Page_api_Page_B1 (n : Nat) (p_slices : List (List api_Page)) (s1 : Int × Int) : Le0 (slices_Concat_api_Page_api_Page_B1' n p_slices s1) (slices_Concat_api_Page_api_Page_B1 p_slices s1) := by
  unfold slices_Concat_api_Page_api_Page_B1' slices_Concat_api_Page_api_Page_B1
  repeat' (first | with_reducible refine Le0.bind ?_ (fun _ => ?_) | with_reducible refine Le0.ite ?_ ?_ | with_reducible refine Le0.chk ?_ | with_reducible refine Le0.out ?_ | with_reducible exact Le0.refl _)

def slices_Concat_api_Page_api_Page_L1' (n : Nat) (p_slices : List (List api_Page)) (s1 : Int × Int) : Option Int := loopN (slices_Concat_api_Page_api_Page_B1' n p_slices) n s1

theorem le_slices_Concat_api_Page_api_Page_L1 (n : Nat) (p_slices : List (List api_Page)) (s1 : Int × Int) : Le0 (slices_Concat_api_Page_api_Page_L1' n p_slices s1) (slices_Concat_api_Page_api_Page_L1 p_slices s1) := Le0.loop (fun s => le_slices_Concat_api_Page_api_Page_B1 n p_slices s) n s1

def slices_Concat_api_Page_api_Page_B2' (_n : Nat) (p_slices : List (List api_Page)) (s2 : Int × (List api_Page)) : Option ((Int × (List api_Page)) ⊕ ((List api_Page))) := if (decide (s2.1 < (p_slices.length : Int))) then (idx p_slices s2.1).bind fun x3 => chk ((s2.2.length + x3.length) * 32 ≤ 140737488355328) (chk (InI64 (s2.1 + 1)) (some (.inl (((s2.1 + 1), (s2.2 ++ x3)))))) else out (some s2.2)

theorem le_slices_Concat_api_Page_api_Page_B2 (n : Nat) (p_slices : List (List api_Page)) (s2 : Int × (List api_Page)) : Le0 (slices_Concat_api_Page_api_Page_B2' n p_slices s2) (slices_Concat_api_Page_api_Page_B2 p_slices s2) := by
  unfold slices_Concat_api_Page_api_Page_B2' slices_Concat_api_Page_api_Page_B2
  repeat' (first | with_reducible refine Le0.bind ?_ (fun _ => ?_) | with_reducible refine Le0.ite ?_ ?_ | with_reducible refine Le0.chk ?_ | with_reducible refine Le0.out ?_ | with_reducible exact Le0.refl _)

def slices_Concat_api_Page_api_Page_L2' (n : Nat) (p_slices : List (List api_Page)) (s2 : Int × (List api_Page)) : Option ((List api_Page)) := loopN (slices_Concat_api_Page_api_Page_B2' n p_slices) n s2

theorem le_slices_Concat_api_Page_api_Page_L2 (n : Nat) (p_slices : List (List api_Page)) (s2 : Int × (List api_Page)) : Le0 (slices_Concat_api_Page_api_Page_L2' n p_slices s2) (slices_Concat_api_Page_api_Page_L2 p_slices s2) := Le0.loop (fun s => le_slices_Concat_api_Page_api_Page_B2 n p_slices s) n s2

def slices_Concat_api_Page_api_Page' (n : Nat) (p_slices : List (List api_Page)) : Option ((List api_Page)) := (slices_Concat_api_Page_api_Page_L1' n p_slices ((0, 0))).bind fun v1 => (slices_Grow_api_Page_api_Page__nil' n v1).bind fun x2 => (slices_Concat_api_Page_api_Page_L2' n p_slices ((0, x2))).bind fun v3 => some v3

theorem le_slices_Concat_api_Page_api_Page (n : Nat) (p_slices : List (List api_Page)) : Le0 (slices_Concat_api_Page_api_Page' n p_slices) (slices_Concat_api_Page_api_Page p_slices) := by
  unfold slices_Concat_api_Page_api_Page' slices_Concat_api_Page_api_Page
  repeat' (first | with_reducible apply le_slices_Concat_api_Page_api_Page_L1 | with_reducible apply le_slices_Grow_api_Page_api_Page__nil | with_reducible apply le_slices_Concat_api_Page_api_Page_L2 | with_reducible refine Le0.bind ?_ (fun _ => ?_) | with_reducible refine Le0.ite ?_ ?_ | with_reducible refine Le0.chk ?_ | with_reducible refine Le0.out ?_ | with_reducible exact Le0.refl _)

def disk_laid_B1' (_n : Nat) (x1 : (List api_Page)) (s1 : Int × (List (Int × api_Page))) : Option ((Int × (List (Int × api_Page))) ⊕ ((List (Int × api_Page)))) := if (decide (s1.1 < (x1.length : Int))) then (idx x1 s1.1).bind fun x2 => chk (InI64 x2.At ∧ s1.2.length < 140737488355328) (chk (InI64 (s1.1 + 1)) (some (.inl (((s1.1 + 1), (mset x2.At x2 s1.2)))))) else out (some s1.2)

theorem le_disk_laid_B1 (n : Nat) (x1 : (List api_Page)) (s1 : Int × (List (Int × api_Page))) : Le0 (disk_laid_B1' n x1 s1) (disk_laid_B1 x1 s1) := by
  unfold disk_laid_B1' disk_laid_B1
  repeat' (first | with_reducible refine Le0.bind ?_ (fun _ => ?_) | with_reducible refine Le0.ite ?_ ?_ | with_reducible refine Le0.chk ?_ | with_reducible refine Le0.out ?_ | with_reducible exact Le0.refl _)

def disk_laid_L1' (n : Nat) (x1 : (List api_Page)) (s1 : Int × (List (Int × api_Page))) : Option ((List (Int × api_Page))) := loopN (disk_laid_B1' n x1) n s1

theorem le_disk_laid_L1 (n : Nat) (x1 : (List api_Page)) (s1 : Int × (List (Int × api_Page))) : Le0 (disk_laid_L1' n x1 s1) (disk_laid_L1 x1 s1) := Le0.loop (fun s => le_disk_laid_B1 n x1 s) n s1

def disk_laid_B2' (_n : Nat) (x3 : List Int) (v1 : (List (Int × api_Page))) (s2 : Int × (List api_Page)) : Option ((Int × (List api_Page)) ⊕ ((List api_Page))) := if (decide (s2.1 < (x3.length : Int))) then (idx x3 s2.1).bind fun x4 => (some ((mget x4 v1).getD ((⟨0, []⟩ : api_Page) : api_Page))).bind fun x5 => chk ((s2.2.length + ([x5]).length) * 32 ≤ 140737488355328) (chk (InI64 (s2.1 + 1)) (some (.inl (((s2.1 + 1), (s2.2 ++ [x5])))))) else out (some s2.2)

theorem le_disk_laid_B2 (n : Nat) (x3 : List Int) (v1 : (List (Int × api_Page))) (s2 : Int × (List api_Page)) : Le0 (disk_laid_B2' n x3 v1 s2) (disk_laid_B2 x3 v1 s2) := by
  unfold disk_laid_B2' disk_laid_B2
  repeat' (first | with_reducible refine Le0.bind ?_ (fun _ => ?_) | with_reducible refine Le0.ite ?_ ?_ | with_reducible refine Le0.chk ?_ | with_reducible refine Le0.out ?_ | with_reducible exact Le0.refl _)

def disk_laid_L2' (n : Nat) (x3 : List Int) (v1 : (List (Int × api_Page))) (s2 : Int × (List api_Page)) : Option ((List api_Page)) := loopN (disk_laid_B2' n x3 v1) n s2

theorem le_disk_laid_L2 (n : Nat) (x3 : List Int) (v1 : (List (Int × api_Page))) (s2 : Int × (List api_Page)) : Le0 (disk_laid_L2' n x3 v1 s2) (disk_laid_L2 x3 v1 s2) := Le0.loop (fun s => le_disk_laid_B2 n x3 v1 s) n s2

def disk_laid' (n : Nat) (p_l : List api_Page) (p_over : List api_Page) : Option ((List api_Page)) := ((slices_Concat_api_Page_api_Page' n ([p_l, p_over])).bind fun x1 => disk_laid_L1' n x1 ((0, ([] : List (Int × api_Page))))).bind fun v1 => (chk (v1.length * 8 ≤ 140737488355328) ((some (keysJ v1)).bind fun x3 => disk_laid_L2' n x3 v1 ((0, [])))).bind fun v2 => some v2

theorem le_disk_laid (n : Nat) (p_l : List api_Page) (p_over : List api_Page) : Le0 (disk_laid' n p_l p_over) (disk_laid p_l p_over) := by
  unfold disk_laid' disk_laid
  simp only [keysJ_eq, sortJ_eq]
  repeat' (first | with_reducible apply le_slices_Concat_api_Page_api_Page | with_reducible apply le_disk_laid_L1 | with_reducible apply le_disk_laid_L2 | with_reducible refine Le0.bind ?_ (fun _ => ?_) | with_reducible refine Le0.ite ?_ ?_ | with_reducible refine Le0.chk ?_ | with_reducible refine Le0.out ?_ | with_reducible exact Le0.refl _)

def disk_Sync' (n : Nat) (p_d : api_Disk) : Option (api_Disk × Int) := if p_d.Down then some ((p_d, 40)) else (disk_laid' n p_d.Synced p_d.Loose).bind fun x1 => some (((⟨x1, [], false⟩ : api_Disk), 0))

theorem le_disk_Sync (n : Nat) (p_d : api_Disk) : Le0 (disk_Sync' n p_d) (disk_Sync p_d) := by
  unfold disk_Sync' disk_Sync
  repeat' (first | with_reducible apply le_disk_laid | with_reducible refine Le0.bind ?_ (fun _ => ?_) | with_reducible refine Le0.ite ?_ ?_ | with_reducible refine Le0.chk ?_ | with_reducible refine Le0.out ?_ | with_reducible exact Le0.refl _)

def law29_on_B1' (n : Nat) (p_l : List Int) (s1 : Int × (List api_Page) × (List api_Page) × Bool) : Option ((Int × (List api_Page) × (List api_Page) × Bool) ⊕ ((List api_Page) × (List api_Page) × Bool)) := if (decide (s1.1 < (p_l.length : Int))) then ((idx p_l s1.1).bind fun x2 => (idx p_l s1.1).bind fun x3 => (chunk_New' n x2 (1) ([(toU8 x3)])).bind fun x4 => (chunk_Put' n ((⟨s1.2.1, s1.2.2.1, s1.2.2.2⟩ : api_Disk)) x4).bind fun x5 => if (x5.2 == 0) then some ((x5.1.Synced, x5.1.Loose, x5.1.Down)) else some ((s1.2.1, s1.2.2.1, s1.2.2.2))).bind fun v2 => chk (InI64 (s1.1 + 1)) (some (.inl (((s1.1 + 1), v2.1, v2.2.1, v2.2.2)))) else out (some ((s1.2.1, s1.2.2.1, s1.2.2.2)))

theorem le_law29_on_B1 (n : Nat) (p_l : List Int) (s1 : Int × (List api_Page) × (List api_Page) × Bool) : Le0 (law29_on_B1' n p_l s1) (law29_on_B1 p_l s1) := by
  unfold law29_on_B1' law29_on_B1
  repeat' (first | with_reducible apply le_chunk_New | with_reducible apply le_chunk_Put | with_reducible refine Le0.bind ?_ (fun _ => ?_) | with_reducible refine Le0.ite ?_ ?_ | with_reducible refine Le0.chk ?_ | with_reducible refine Le0.out ?_ | with_reducible exact Le0.refl _)

def law29_on_L1' (n : Nat) (p_l : List Int) (s1 : Int × (List api_Page) × (List api_Page) × Bool) : Option ((List api_Page) × (List api_Page) × Bool) := loopN (law29_on_B1' n p_l) n s1

theorem le_law29_on_L1 (n : Nat) (p_l : List Int) (s1 : Int × (List api_Page) × (List api_Page) × Bool) : Le0 (law29_on_L1' n p_l s1) (law29_on_L1 p_l s1) := Le0.loop (fun s => le_law29_on_B1 n p_l s) n s1

def law29_on' (n : Nat) (p_l : List Int) : Option api_Disk := (disk_New' n).bind fun x1 => (law29_on_L1' n p_l ((0, x1.Synced, x1.Loose, x1.Down))).bind fun v1 => (disk_Sync' n ((⟨v1.1, v1.2.1, v1.2.2⟩ : api_Disk))).bind fun x6 => if (x6.2 != 0) then some ((⟨v1.1, v1.2.1, v1.2.2⟩ : api_Disk)) else some x6.1

theorem le_law29_on (n : Nat) (p_l : List Int) : Le0 (law29_on' n p_l) (law29_on p_l) := by
  unfold law29_on' law29_on
  repeat' (first | with_reducible apply le_disk_New | with_reducible apply le_law29_on_L1 | with_reducible apply le_disk_Sync | with_reducible refine Le0.bind ?_ (fun _ => ?_) | with_reducible refine Le0.ite ?_ ?_ | with_reducible refine Le0.chk ?_ | with_reducible refine Le0.out ?_ | with_reducible exact Le0.refl _)

def sweep_open' (_n : Nat) (p_leases : List api_Lease) (p_now : Int) : Option Unit := some (())

theorem le_sweep_open (n : Nat) (p_leases : List api_Lease) (p_now : Int) : Le0 (sweep_open' n p_leases p_now) (sweep_open p_leases p_now) := by
  unfold sweep_open' sweep_open
  repeat' (first | with_reducible refine Le0.bind ?_ (fun _ => ?_) | with_reducible refine Le0.ite ?_ ?_ | with_reducible refine Le0.chk ?_ | with_reducible refine Le0.out ?_ | with_reducible exact Le0.refl _)

def sweep_open_1_1_3' (_n : Nat) (p_l : api_Lease) (p_a2_0 : Int) (p_b0 : api_Room) : Option Bool := ((if (p_l.Client == p_b0.Client) then some ((p_l.Ino == p_b0.Ino)) else some false).bind fun c1 => (if c1 then some ((p_l.Kind == 2)) else some false).bind fun c2 => (if c2 then some ((decide (p_l.Until > p_a2_0))) else some false).bind fun c3 => some c3).bind fun v1 => some v1

theorem le_sweep_open_1_1_3 (n : Nat) (p_l : api_Lease) (p_a2_0 : Int) (p_b0 : api_Room) : Le0 (sweep_open_1_1_3' n p_l p_a2_0 p_b0) (sweep_open_1_1_3 p_l p_a2_0 p_b0) := by
  unfold sweep_open_1_1_3' sweep_open_1_1_3
  repeat' (first | with_reducible refine Le0.bind ?_ (fun _ => ?_) | with_reducible refine Le0.ite ?_ ?_ | with_reducible refine Le0.chk ?_ | with_reducible refine Le0.out ?_ | with_reducible exact Le0.refl _)

def slices_IndexFunc_api_Lease_api_Lease__sweep_open_1_1_3_J1' (_n : Nat) (_v1 : Unit) : Option Int := some ((-1))

theorem le_slices_IndexFunc_api_Lease_api_Lease__sweep_open_1_1_3_J1 (n : Nat) (_v1 : Unit) : Le0 (slices_IndexFunc_api_Lease_api_Lease__sweep_open_1_1_3_J1' n _v1) (slices_IndexFunc_api_Lease_api_Lease__sweep_open_1_1_3_J1 _v1) := by
  unfold slices_IndexFunc_api_Lease_api_Lease__sweep_open_1_1_3_J1' slices_IndexFunc_api_Lease_api_Lease__sweep_open_1_1_3_J1
  repeat' (first | with_reducible refine Le0.bind ?_ (fun _ => ?_) | with_reducible refine Le0.ite ?_ ?_ | with_reducible refine Le0.chk ?_ | with_reducible refine Le0.out ?_ | with_reducible exact Le0.refl _)

def slices_IndexFunc_api_Lease_api_Lease__sweep_open_1_1_3_B1' (n : Nat) (p_s : List api_Lease) (p_f_c1_0 : Int) (p_b0 : api_Room) (s1 : Int) : Option ((Int) ⊕ Int) := if (decide (s1 < (p_s.length : Int))) then (idx p_s s1).bind fun x1 => (sweep_open_1_1_3' n x1 p_f_c1_0 p_b0).bind fun x3 => if x3 then out (some s1) else chk (InI64 (s1 + 1)) (some (.inl ((s1 + 1)))) else out (slices_IndexFunc_api_Lease_api_Lease__sweep_open_1_1_3_J1' n (()))

theorem le_slices_IndexFunc_api_Lease_api_Lease__sweep_open_1_1_3_B1 (n : Nat) (p_s : List api_Lease) (p_f_c1_0 : Int) (p_b0 : api_Room) (s1 : Int) : Le0 (slices_IndexFunc_api_Lease_api_Lease__sweep_open_1_1_3_B1' n p_s p_f_c1_0 p_b0 s1) (slices_IndexFunc_api_Lease_api_Lease__sweep_open_1_1_3_B1 p_s p_f_c1_0 p_b0 s1) := by
  unfold slices_IndexFunc_api_Lease_api_Lease__sweep_open_1_1_3_B1' slices_IndexFunc_api_Lease_api_Lease__sweep_open_1_1_3_B1
  repeat' (first | with_reducible apply le_sweep_open_1_1_3 | with_reducible apply le_slices_IndexFunc_api_Lease_api_Lease__sweep_open_1_1_3_J1 | with_reducible refine Le0.bind ?_ (fun _ => ?_) | with_reducible refine Le0.ite ?_ ?_ | with_reducible refine Le0.chk ?_ | with_reducible refine Le0.out ?_ | with_reducible exact Le0.refl _)

def slices_IndexFunc_api_Lease_api_Lease__sweep_open_1_1_3_L1' (n : Nat) (p_s : List api_Lease) (p_f_c1_0 : Int) (p_b0 : api_Room) (s1 : Int) : Option Int := loopN (slices_IndexFunc_api_Lease_api_Lease__sweep_open_1_1_3_B1' n p_s p_f_c1_0 p_b0) n s1

theorem le_slices_IndexFunc_api_Lease_api_Lease__sweep_open_1_1_3_L1 (n : Nat) (p_s : List api_Lease) (p_f_c1_0 : Int) (p_b0 : api_Room) (s1 : Int) : Le0 (slices_IndexFunc_api_Lease_api_Lease__sweep_open_1_1_3_L1' n p_s p_f_c1_0 p_b0 s1) (slices_IndexFunc_api_Lease_api_Lease__sweep_open_1_1_3_L1 p_s p_f_c1_0 p_b0 s1) := Le0.loop (fun s => le_slices_IndexFunc_api_Lease_api_Lease__sweep_open_1_1_3_B1 n p_s p_f_c1_0 p_b0 s) n s1

def slices_IndexFunc_api_Lease_api_Lease__sweep_open_1_1_3' (n : Nat) (p_s : List api_Lease) (p_f_c1_0 : Int) (p_b0 : api_Room) : Option Int := slices_IndexFunc_api_Lease_api_Lease__sweep_open_1_1_3_L1' n p_s p_f_c1_0 p_b0 (0)

theorem le_slices_IndexFunc_api_Lease_api_Lease__sweep_open_1_1_3 (n : Nat) (p_s : List api_Lease) (p_f_c1_0 : Int) (p_b0 : api_Room) : Le0 (slices_IndexFunc_api_Lease_api_Lease__sweep_open_1_1_3' n p_s p_f_c1_0 p_b0) (slices_IndexFunc_api_Lease_api_Lease__sweep_open_1_1_3 p_s p_f_c1_0 p_b0) := by
  unfold slices_IndexFunc_api_Lease_api_Lease__sweep_open_1_1_3' slices_IndexFunc_api_Lease_api_Lease__sweep_open_1_1_3
  repeat' (first | with_reducible apply le_slices_IndexFunc_api_Lease_api_Lease__sweep_open_1_1_3_L1 | with_reducible refine Le0.bind ?_ (fun _ => ?_) | with_reducible refine Le0.ite ?_ ?_ | with_reducible refine Le0.chk ?_ | with_reducible refine Le0.out ?_ | with_reducible exact Le0.refl _)

def slices_ContainsFunc_api_Lease_api_Lease__sweep_open_1_1_2' (n : Nat) (p_s : List api_Lease) (p_f_c1_0 : Int) (p_b0 : api_Room) : Option Bool := (slices_IndexFunc_api_Lease_api_Lease__sweep_open_1_1_3' n p_s p_f_c1_0 p_b0).bind fun x2 => some ((decide (x2 ≥ 0)))

theorem le_slices_ContainsFunc_api_Lease_api_Lease__sweep_open_1_1_2 (n : Nat) (p_s : List api_Lease) (p_f_c1_0 : Int) (p_b0 : api_Room) : Le0 (slices_ContainsFunc_api_Lease_api_Lease__sweep_open_1_1_2' n p_s p_f_c1_0 p_b0) (slices_ContainsFunc_api_Lease_api_Lease__sweep_open_1_1_2 p_s p_f_c1_0 p_b0) := by
  unfold slices_ContainsFunc_api_Lease_api_Lease__sweep_open_1_1_2' slices_ContainsFunc_api_Lease_api_Lease__sweep_open_1_1_2
  repeat' (first | with_reducible apply le_slices_IndexFunc_api_Lease_api_Lease__sweep_open_1_1_3 | with_reducible refine Le0.bind ?_ (fun _ => ?_) | with_reducible refine Le0.ite ?_ ?_ | with_reducible refine Le0.chk ?_ | with_reducible refine Le0.out ?_ | with_reducible exact Le0.refl _)

def sweep_open_1' (n : Nat) (p_r : api_Room) (p_a1 : List api_Lease) (p_a2 : Int) : Option Bool := (slices_ContainsFunc_api_Lease_api_Lease__sweep_open_1_1_2' n p_a1 p_a2 p_r).bind fun x2 => some x2

theorem le_sweep_open_1 (n : Nat) (p_r : api_Room) (p_a1 : List api_Lease) (p_a2 : Int) : Le0 (sweep_open_1' n p_r p_a1 p_a2) (sweep_open_1 p_r p_a1 p_a2) := by
  unfold sweep_open_1' sweep_open_1
  repeat' (first | with_reducible apply le_slices_ContainsFunc_api_Lease_api_Lease__sweep_open_1_1_2 | with_reducible refine Le0.bind ?_ (fun _ => ?_) | with_reducible refine Le0.ite ?_ ?_ | with_reducible refine Le0.chk ?_ | with_reducible refine Le0.out ?_ | with_reducible exact Le0.refl _)

def sweep_kept__sweep_open_1_B1' (_n : Nat) (p_named : List api_Named) (s1 : Int × (List (Int × Bool))) : Option ((Int × (List (Int × Bool))) ⊕ ((List (Int × Bool)))) := if (decide (s1.1 < (p_named.length : Int))) then (idx p_named s1.1).bind fun x1 => chk (InI64 x1.Id ∧ s1.2.length < 140737488355328) (chk (InI64 (s1.1 + 1)) (some (.inl (((s1.1 + 1), (mset x1.Id true s1.2)))))) else out (some s1.2)

theorem le_sweep_kept__sweep_open_1_B1 (n : Nat) (p_named : List api_Named) (s1 : Int × (List (Int × Bool))) : Le0 (sweep_kept__sweep_open_1_B1' n p_named s1) (sweep_kept__sweep_open_1_B1 p_named s1) := by
  unfold sweep_kept__sweep_open_1_B1' sweep_kept__sweep_open_1_B1
  repeat' (first | with_reducible refine Le0.bind ?_ (fun _ => ?_) | with_reducible refine Le0.ite ?_ ?_ | with_reducible refine Le0.chk ?_ | with_reducible refine Le0.out ?_ | with_reducible exact Le0.refl _)

def sweep_kept__sweep_open_1_L1' (n : Nat) (p_named : List api_Named) (s1 : Int × (List (Int × Bool))) : Option ((List (Int × Bool))) := loopN (sweep_kept__sweep_open_1_B1' n p_named) n s1

theorem le_sweep_kept__sweep_open_1_L1 (n : Nat) (p_named : List api_Named) (s1 : Int × (List (Int × Bool))) : Le0 (sweep_kept__sweep_open_1_L1' n p_named s1) (sweep_kept__sweep_open_1_L1 p_named s1) := Le0.loop (fun s => le_sweep_kept__sweep_open_1_B1 n p_named s) n s1

def sweep_kept__sweep_open_1_B2' (n : Nat) (p_rooms : List api_Room) (p_b0 : List api_Lease) (p_b1 : Int) (s2 : Int × (List (Int × Bool))) : Option ((Int × (List (Int × Bool))) ⊕ ((List (Int × Bool)))) := if (decide (s2.1 < (p_rooms.length : Int))) then ((idx p_rooms s2.1).bind fun x2 => (sweep_open_1' n x2 p_b0 p_b1).bind fun x3 => if x3 then chk (InI64 x2.Id ∧ s2.2.length < 140737488355328) (some ((mset x2.Id true s2.2))) else some s2.2).bind fun v3 => chk (InI64 (s2.1 + 1)) (some (.inl (((s2.1 + 1), v3)))) else out (some s2.2)

theorem le_sweep_kept__sweep_open_1_B2 (n : Nat) (p_rooms : List api_Room) (p_b0 : List api_Lease) (p_b1 : Int) (s2 : Int × (List (Int × Bool))) : Le0 (sweep_kept__sweep_open_1_B2' n p_rooms p_b0 p_b1 s2) (sweep_kept__sweep_open_1_B2 p_rooms p_b0 p_b1 s2) := by
  unfold sweep_kept__sweep_open_1_B2' sweep_kept__sweep_open_1_B2
  repeat' (first | with_reducible apply le_sweep_open_1 | with_reducible refine Le0.bind ?_ (fun _ => ?_) | with_reducible refine Le0.ite ?_ ?_ | with_reducible refine Le0.chk ?_ | with_reducible refine Le0.out ?_ | with_reducible exact Le0.refl _)

def sweep_kept__sweep_open_1_L2' (n : Nat) (p_rooms : List api_Room) (p_b0 : List api_Lease) (p_b1 : Int) (s2 : Int × (List (Int × Bool))) : Option ((List (Int × Bool))) := loopN (sweep_kept__sweep_open_1_B2' n p_rooms p_b0 p_b1) n s2

theorem le_sweep_kept__sweep_open_1_L2 (n : Nat) (p_rooms : List api_Room) (p_b0 : List api_Lease) (p_b1 : Int) (s2 : Int × (List (Int × Bool))) : Le0 (sweep_kept__sweep_open_1_L2' n p_rooms p_b0 p_b1 s2) (sweep_kept__sweep_open_1_L2 p_rooms p_b0 p_b1 s2) := Le0.loop (fun s => le_sweep_kept__sweep_open_1_B2 n p_rooms p_b0 p_b1 s) n s2

def sweep_kept__sweep_open_1' (n : Nat) (p_named : List api_Named) (p_rooms : List api_Room) (p_b0 : List api_Lease) (p_b1 : Int) : Option ((List (Int × Bool))) := (sweep_kept__sweep_open_1_L1' n p_named ((0, ([] : List (Int × Bool))))).bind fun v1 => (sweep_kept__sweep_open_1_L2' n p_rooms p_b0 p_b1 ((0, v1))).bind fun v2 => some v2

theorem le_sweep_kept__sweep_open_1 (n : Nat) (p_named : List api_Named) (p_rooms : List api_Room) (p_b0 : List api_Lease) (p_b1 : Int) : Le0 (sweep_kept__sweep_open_1' n p_named p_rooms p_b0 p_b1) (sweep_kept__sweep_open_1 p_named p_rooms p_b0 p_b1) := by
  unfold sweep_kept__sweep_open_1' sweep_kept__sweep_open_1
  repeat' (first | with_reducible apply le_sweep_kept__sweep_open_1_L1 | with_reducible apply le_sweep_kept__sweep_open_1_L2 | with_reducible refine Le0.bind ?_ (fun _ => ?_) | with_reducible refine Le0.ite ?_ ?_ | with_reducible refine Le0.chk ?_ | with_reducible refine Le0.out ?_ | with_reducible exact Le0.refl _)

def slices_Reverse_api_Page_api_Page_B1' (_n : Nat) (s1 : Int × Int × (List api_Page)) : Option ((Int × Int × (List api_Page)) ⊕ (Unit × List api_Page)) := if (decide (s1.1 < s1.2.1)) then (idx s1.2.2 s1.2.1).bind fun x1 => (idx s1.2.2 s1.1).bind fun x2 => (idx s1.2.2 s1.1).bind fun _ => (idx ((s1.2.2.set s1.1.toNat x1)) s1.2.1).bind fun _ => chk (InI64 (s1.1 + 1)) (chk (InI64 (s1.2.1 - 1)) (some (.inl (((s1.1 + 1), (s1.2.1 - 1), (((s1.2.2.set s1.1.toNat x1)).set s1.2.1.toNat x2)))))) else out (some ((), s1.2.2))

theorem le_slices_Reverse_api_Page_api_Page_B1 (n : Nat) (s1 : Int × Int × (List api_Page)) : Le0 (slices_Reverse_api_Page_api_Page_B1' n s1) (slices_Reverse_api_Page_api_Page_B1 s1) := by
  unfold slices_Reverse_api_Page_api_Page_B1' slices_Reverse_api_Page_api_Page_B1
  repeat' (first | with_reducible refine Le0.bind ?_ (fun _ => ?_) | with_reducible refine Le0.ite ?_ ?_ | with_reducible refine Le0.chk ?_ | with_reducible refine Le0.out ?_ | with_reducible exact Le0.refl _)

def slices_Reverse_api_Page_api_Page_L1' (n : Nat) (s1 : Int × Int × (List api_Page)) : Option (Unit × List api_Page) := loopN (slices_Reverse_api_Page_api_Page_B1' n ) n s1

theorem le_slices_Reverse_api_Page_api_Page_L1 (n : Nat) (s1 : Int × Int × (List api_Page)) : Le0 (slices_Reverse_api_Page_api_Page_L1' n s1) (slices_Reverse_api_Page_api_Page_L1 s1) := Le0.loop (fun s => le_slices_Reverse_api_Page_api_Page_B1 n  s) n s1

def slices_Reverse_api_Page_api_Page' (n : Nat) (self : List api_Page) : Option (Unit × List api_Page) := chk (InI64 ((self.length : Int) - 1)) (slices_Reverse_api_Page_api_Page_L1' n ((0, ((self.length : Int) - 1), self)))

theorem le_slices_Reverse_api_Page_api_Page (n : Nat) (self : List api_Page) : Le0 (slices_Reverse_api_Page_api_Page' n self) (slices_Reverse_api_Page_api_Page self) := by
  unfold slices_Reverse_api_Page_api_Page' slices_Reverse_api_Page_api_Page
  repeat' (first | with_reducible apply le_slices_Reverse_api_Page_api_Page_L1 | with_reducible refine Le0.bind ?_ (fun _ => ?_) | with_reducible refine Le0.ite ?_ ?_ | with_reducible refine Le0.chk ?_ | with_reducible refine Le0.out ?_ | with_reducible exact Le0.refl _)

def disk_Read_1' (_n : Nat) (p_p : api_Page) (p_a1_0 : Int) : Option Bool := some ((p_p.At == p_a1_0))

theorem le_disk_Read_1 (n : Nat) (p_p : api_Page) (p_a1_0 : Int) : Le0 (disk_Read_1' n p_p p_a1_0) (disk_Read_1 p_p p_a1_0) := by
  unfold disk_Read_1' disk_Read_1
  repeat' (first | with_reducible refine Le0.bind ?_ (fun _ => ?_) | with_reducible refine Le0.ite ?_ ?_ | with_reducible refine Le0.chk ?_ | with_reducible refine Le0.out ?_ | with_reducible exact Le0.refl _)

def slices_IndexFunc_api_Page_api_Page__disk_Read_1_J1' (_n : Nat) (_v1 : Unit) : Option Int := some ((-1))

theorem le_slices_IndexFunc_api_Page_api_Page__disk_Read_1_J1 (n : Nat) (_v1 : Unit) : Le0 (slices_IndexFunc_api_Page_api_Page__disk_Read_1_J1' n _v1) (slices_IndexFunc_api_Page_api_Page__disk_Read_1_J1 _v1) := by
  unfold slices_IndexFunc_api_Page_api_Page__disk_Read_1_J1' slices_IndexFunc_api_Page_api_Page__disk_Read_1_J1
  repeat' (first | with_reducible refine Le0.bind ?_ (fun _ => ?_) | with_reducible refine Le0.ite ?_ ?_ | with_reducible refine Le0.chk ?_ | with_reducible refine Le0.out ?_ | with_reducible exact Le0.refl _)

def slices_IndexFunc_api_Page_api_Page__disk_Read_1_B1' (n : Nat) (p_s : List api_Page) (p_f_c0_0 : Int) (s1 : Int) : Option ((Int) ⊕ Int) := if (decide (s1 < (p_s.length : Int))) then (idx p_s s1).bind fun x1 => (disk_Read_1' n x1 p_f_c0_0).bind fun x2 => if x2 then out (some s1) else chk (InI64 (s1 + 1)) (some (.inl ((s1 + 1)))) else out (slices_IndexFunc_api_Page_api_Page__disk_Read_1_J1' n (()))

theorem le_slices_IndexFunc_api_Page_api_Page__disk_Read_1_B1 (n : Nat) (p_s : List api_Page) (p_f_c0_0 : Int) (s1 : Int) : Le0 (slices_IndexFunc_api_Page_api_Page__disk_Read_1_B1' n p_s p_f_c0_0 s1) (slices_IndexFunc_api_Page_api_Page__disk_Read_1_B1 p_s p_f_c0_0 s1) := by
  unfold slices_IndexFunc_api_Page_api_Page__disk_Read_1_B1' slices_IndexFunc_api_Page_api_Page__disk_Read_1_B1
  repeat' (first | with_reducible apply le_disk_Read_1 | with_reducible apply le_slices_IndexFunc_api_Page_api_Page__disk_Read_1_J1 | with_reducible refine Le0.bind ?_ (fun _ => ?_) | with_reducible refine Le0.ite ?_ ?_ | with_reducible refine Le0.chk ?_ | with_reducible refine Le0.out ?_ | with_reducible exact Le0.refl _)

def slices_IndexFunc_api_Page_api_Page__disk_Read_1_L1' (n : Nat) (p_s : List api_Page) (p_f_c0_0 : Int) (s1 : Int) : Option Int := loopN (slices_IndexFunc_api_Page_api_Page__disk_Read_1_B1' n p_s p_f_c0_0) n s1

theorem le_slices_IndexFunc_api_Page_api_Page__disk_Read_1_L1 (n : Nat) (p_s : List api_Page) (p_f_c0_0 : Int) (s1 : Int) : Le0 (slices_IndexFunc_api_Page_api_Page__disk_Read_1_L1' n p_s p_f_c0_0 s1) (slices_IndexFunc_api_Page_api_Page__disk_Read_1_L1 p_s p_f_c0_0 s1) := Le0.loop (fun s => le_slices_IndexFunc_api_Page_api_Page__disk_Read_1_B1 n p_s p_f_c0_0 s) n s1

def slices_IndexFunc_api_Page_api_Page__disk_Read_1' (n : Nat) (p_s : List api_Page) (p_f_c0_0 : Int) : Option Int := slices_IndexFunc_api_Page_api_Page__disk_Read_1_L1' n p_s p_f_c0_0 (0)

theorem le_slices_IndexFunc_api_Page_api_Page__disk_Read_1 (n : Nat) (p_s : List api_Page) (p_f_c0_0 : Int) : Le0 (slices_IndexFunc_api_Page_api_Page__disk_Read_1' n p_s p_f_c0_0) (slices_IndexFunc_api_Page_api_Page__disk_Read_1 p_s p_f_c0_0) := by
  unfold slices_IndexFunc_api_Page_api_Page__disk_Read_1' slices_IndexFunc_api_Page_api_Page__disk_Read_1
  repeat' (first | with_reducible apply le_slices_IndexFunc_api_Page_api_Page__disk_Read_1_L1 | with_reducible refine Le0.bind ?_ (fun _ => ?_) | with_reducible refine Le0.ite ?_ ?_ | with_reducible refine Le0.chk ?_ | with_reducible refine Le0.out ?_ | with_reducible exact Le0.refl _)

def disk_find_api_Page__disk_Read_1' (n : Nat) (p_l : List api_Page) (p_is_c0 : Int) : Option Int := (slices_IndexFunc_api_Page_api_Page__disk_Read_1' n p_l p_is_c0).bind fun x1 => some x1

theorem le_disk_find_api_Page__disk_Read_1 (n : Nat) (p_l : List api_Page) (p_is_c0 : Int) : Le0 (disk_find_api_Page__disk_Read_1' n p_l p_is_c0) (disk_find_api_Page__disk_Read_1 p_l p_is_c0) := by
  unfold disk_find_api_Page__disk_Read_1' disk_find_api_Page__disk_Read_1
  repeat' (first | with_reducible apply le_slices_IndexFunc_api_Page_api_Page__disk_Read_1 | with_reducible refine Le0.bind ?_ (fun _ => ?_) | with_reducible refine Le0.ite ?_ ?_ | with_reducible refine Le0.chk ?_ | with_reducible refine Le0.out ?_ | with_reducible exact Le0.refl _)

def disk_Read' (n : Nat) (p_d : api_Disk) (p_at : Int) : Option ((List UInt8) × Int) := if p_d.Down then some (([], 40)) else (disk_may' n p_at ([])).bind fun x1 => if (!x1) then some (([], 1)) else (slices_Concat_api_Page_api_Page' n ([p_d.Synced, p_d.Loose])).bind fun x2 => (slices_Reverse_api_Page_api_Page' n x2).bind fun x3 => (disk_find_api_Page__disk_Read_1' n x3.2 p_at).bind fun x4 => if (decide (x4 < 0)) then some (([], 41)) else (idx x3.2 x4).bind fun x5 => (bytes_Clone' n x5.Data).bind fun x6 => some ((x6, 0))

theorem le_disk_Read (n : Nat) (p_d : api_Disk) (p_at : Int) : Le0 (disk_Read' n p_d p_at) (disk_Read p_d p_at) := by
  unfold disk_Read' disk_Read
  repeat' (first | with_reducible apply le_disk_may | with_reducible apply le_slices_Concat_api_Page_api_Page | with_reducible apply le_slices_Reverse_api_Page_api_Page | with_reducible apply le_disk_find_api_Page__disk_Read_1 | with_reducible apply le_bytes_Clone | with_reducible refine Le0.bind ?_ (fun _ => ?_) | with_reducible refine Le0.ite ?_ ?_ | with_reducible refine Le0.chk ?_ | with_reducible refine Le0.out ?_ | with_reducible exact Le0.refl _)

def chunk_there' (n : Nat) (p_d : api_Disk) (p_id : Int) : Option ((List UInt8) × Int) := (chunk_within' n p_id).bind fun x1 => if (!x1) then some (([], 1)) else (disk_Read' n p_d p_id).bind fun x2 => ((if (x2.2 == 0) then some (((x2.1.length : Int) == 0)) else some false).bind fun c1 => some c1).bind fun v1 => if v1 then some (([], 41)) else some ((x2.1, x2.2))

theorem le_chunk_there (n : Nat) (p_d : api_Disk) (p_id : Int) : Le0 (chunk_there' n p_d p_id) (chunk_there p_d p_id) := by
  unfold chunk_there' chunk_there
  repeat' (first | with_reducible apply le_chunk_within | with_reducible apply le_disk_Read | with_reducible refine Le0.bind ?_ (fun _ => ?_) | with_reducible refine Le0.ite ?_ ?_ | with_reducible refine Le0.chk ?_ | with_reducible refine Le0.out ?_ | with_reducible exact Le0.refl _)

def chunk_Has_B1' (n : Nat) (p_d : api_Disk) (s1 : Int × (List Int)) : Option ((Int × (List Int)) ⊕ ((List Int))) := if (decide (s1.1 < 200)) then ((chunk_there' n p_d s1.1).bind fun x1 => if (x1.2 == 0) then chk ((s1.2.length + ([s1.1]).length) * 8 ≤ 140737488355328) (some ((s1.2 ++ [s1.1]))) else some s1.2).bind fun v2 => chk (InI64 (s1.1 + 1)) (some (.inl (((s1.1 + 1), v2)))) else out (some s1.2)

theorem le_chunk_Has_B1 (n : Nat) (p_d : api_Disk) (s1 : Int × (List Int)) : Le0 (chunk_Has_B1' n p_d s1) (chunk_Has_B1 p_d s1) := by
  unfold chunk_Has_B1' chunk_Has_B1
  repeat' (first | with_reducible apply le_chunk_there | with_reducible refine Le0.bind ?_ (fun _ => ?_) | with_reducible refine Le0.ite ?_ ?_ | with_reducible refine Le0.chk ?_ | with_reducible refine Le0.out ?_ | with_reducible exact Le0.refl _)

def chunk_Has_L1' (n : Nat) (p_d : api_Disk) (s1 : Int × (List Int)) : Option ((List Int)) := loopN (chunk_Has_B1' n p_d) n s1

theorem le_chunk_Has_L1 (n : Nat) (p_d : api_Disk) (s1 : Int × (List Int)) : Le0 (chunk_Has_L1' n p_d s1) (chunk_Has_L1 p_d s1) := Le0.loop (fun s => le_chunk_Has_B1 n p_d s) n s1

def chunk_Has' (n : Nat) (p_d : api_Disk) : Option ((List Int)) := (chunk_Has_L1' n p_d ((0, []))).bind fun v1 => some v1

theorem le_chunk_Has (n : Nat) (p_d : api_Disk) : Le0 (chunk_Has' n p_d) (chunk_Has p_d) := by
  unfold chunk_Has' chunk_Has
  repeat' (first | with_reducible apply le_chunk_Has_L1 | with_reducible refine Le0.bind ?_ (fun _ => ?_) | with_reducible refine Le0.ite ?_ ?_ | with_reducible refine Le0.chk ?_ | with_reducible refine Le0.out ?_ | with_reducible exact Le0.refl _)

def sweep_Gone_B2' (_n : Nat) (x4 : (List Int)) (x2 : (List (Int × Bool))) (s2 : Int × (List (Int × Bool))) : Option ((Int × (List (Int × Bool))) ⊕ ((List (Int × Bool)))) := if (decide (s2.1 < (x4.length : Int))) then ((idx x4 s2.1).bind fun x5 => (some ((mget x5 x2).getD (false : Bool))).bind fun x6 => if (!x6) then chk (InI64 x5 ∧ s2.2.length < 140737488355328) (some ((mset x5 true s2.2))) else some s2.2).bind fun v3 => chk (InI64 (s2.1 + 1)) (some (.inl (((s2.1 + 1), v3)))) else out (some s2.2)

theorem le_sweep_Gone_B2 (n : Nat) (x4 : (List Int)) (x2 : (List (Int × Bool))) (s2 : Int × (List (Int × Bool))) : Le0 (sweep_Gone_B2' n x4 x2 s2) (sweep_Gone_B2 x4 x2 s2) := by
  unfold sweep_Gone_B2' sweep_Gone_B2
  repeat' (first | with_reducible refine Le0.bind ?_ (fun _ => ?_) | with_reducible refine Le0.ite ?_ ?_ | with_reducible refine Le0.chk ?_ | with_reducible refine Le0.out ?_ | with_reducible exact Le0.refl _)

def sweep_Gone_L2' (n : Nat) (x4 : (List Int)) (x2 : (List (Int × Bool))) (s2 : Int × (List (Int × Bool))) : Option ((List (Int × Bool))) := loopN (sweep_Gone_B2' n x4 x2) n s2

theorem le_sweep_Gone_L2 (n : Nat) (x4 : (List Int)) (x2 : (List (Int × Bool))) (s2 : Int × (List (Int × Bool))) : Le0 (sweep_Gone_L2' n x4 x2 s2) (sweep_Gone_L2 x4 x2 s2) := Le0.loop (fun s => le_sweep_Gone_B2 n x4 x2 s) n s2

def sweep_Gone_B1' (n : Nat) (p_disks : List api_Disk) (x2 : (List (Int × Bool))) (s1 : Int × (List (Int × Bool))) : Option ((Int × (List (Int × Bool))) ⊕ ((List (Int × Bool)))) := if (decide (s1.1 < (p_disks.length : Int))) then ((idx p_disks s1.1).bind fun x3 => (chunk_Has' n x3).bind fun x4 => sweep_Gone_L2' n x4 x2 ((0, s1.2))).bind fun v2 => chk (InI64 (s1.1 + 1)) (some (.inl (((s1.1 + 1), v2)))) else out (some s1.2)

theorem le_sweep_Gone_B1 (n : Nat) (p_disks : List api_Disk) (x2 : (List (Int × Bool))) (s1 : Int × (List (Int × Bool))) : Le0 (sweep_Gone_B1' n p_disks x2 s1) (sweep_Gone_B1 p_disks x2 s1) := by
  unfold sweep_Gone_B1' sweep_Gone_B1
  repeat' (first | with_reducible apply le_chunk_Has | with_reducible apply le_sweep_Gone_L2 | with_reducible refine Le0.bind ?_ (fun _ => ?_) | with_reducible refine Le0.ite ?_ ?_ | with_reducible refine Le0.chk ?_ | with_reducible refine Le0.out ?_ | with_reducible exact Le0.refl _)

def sweep_Gone_L1' (n : Nat) (p_disks : List api_Disk) (x2 : (List (Int × Bool))) (s1 : Int × (List (Int × Bool))) : Option ((List (Int × Bool))) := loopN (sweep_Gone_B1' n p_disks x2) n s1

theorem le_sweep_Gone_L1 (n : Nat) (p_disks : List api_Disk) (x2 : (List (Int × Bool))) (s1 : Int × (List (Int × Bool))) : Le0 (sweep_Gone_L1' n p_disks x2 s1) (sweep_Gone_L1 p_disks x2 s1) := Le0.loop (fun s => le_sweep_Gone_B1 n p_disks x2 s) n s1

def sweep_Gone' (n : Nat) (p_named : List api_Named) (p_rooms : List api_Room) (p_leases : List api_Lease) (p_now : Int) (p_disks : List api_Disk) : Option ((List Int)) := (sweep_open' n p_leases p_now).bind fun _ => (sweep_kept__sweep_open_1' n p_named p_rooms p_leases p_now).bind fun x2 => (sweep_Gone_L1' n p_disks x2 ((0, ([] : List (Int × Bool))))).bind fun v1 => chk (v1.length * 8 ≤ 140737488355328) ((some (keysJ v1)).bind fun x7 => some x7)

theorem le_sweep_Gone (n : Nat) (p_named : List api_Named) (p_rooms : List api_Room) (p_leases : List api_Lease) (p_now : Int) (p_disks : List api_Disk) : Le0 (sweep_Gone' n p_named p_rooms p_leases p_now p_disks) (sweep_Gone p_named p_rooms p_leases p_now p_disks) := by
  unfold sweep_Gone' sweep_Gone
  simp only [keysJ_eq, sortJ_eq]
  repeat' (first | with_reducible apply le_sweep_open | with_reducible apply le_sweep_kept__sweep_open_1 | with_reducible apply le_sweep_Gone_L1 | with_reducible refine Le0.bind ?_ (fun _ => ?_) | with_reducible refine Le0.ite ?_ ?_ | with_reducible refine Le0.chk ?_ | with_reducible refine Le0.out ?_ | with_reducible exact Le0.refl _)

def chunk_Lose' (n : Nat) (p_d : api_Disk) (p_id : Int) : Option (api_Disk × Int) := (chunk_there' n p_d p_id).bind fun x1 => if (x1.2 != 0) then some ((p_d, x1.2)) else (disk_Write' n p_d p_id ([])).bind fun x2 => some ((x2.1, x2.2))

theorem le_chunk_Lose (n : Nat) (p_d : api_Disk) (p_id : Int) : Le0 (chunk_Lose' n p_d p_id) (chunk_Lose p_d p_id) := by
  unfold chunk_Lose' chunk_Lose
  repeat' (first | with_reducible apply le_chunk_there | with_reducible apply le_disk_Write | with_reducible refine Le0.bind ?_ (fun _ => ?_) | with_reducible refine Le0.ite ?_ ?_ | with_reducible refine Le0.chk ?_ | with_reducible refine Le0.out ?_ | with_reducible exact Le0.refl _)

def sweep_swept_B1' (n : Nat) (x1 : (List Int)) (p_h0 : List (Int × Bool)) (s1 : Bool × Int × (List api_Page) × (List api_Page) × Bool) : Option ((Bool × Int × (List api_Page) × (List api_Page) × Bool) ⊕ (Bool × (List api_Page) × (List api_Page) × Bool)) := if (decide (s1.2.1 < (x1.length : Int))) then ((idx x1 s1.2.1).bind fun x2 => (some ((mget x2 p_h0).getD (false : Bool))).bind fun x3 => if x3 then (chunk_Lose' n ((⟨s1.2.2.1, s1.2.2.2.1, s1.2.2.2.2⟩ : api_Disk)) x2).bind fun x4 => some ((true, x4.1.Synced, x4.1.Loose, x4.1.Down)) else some ((s1.1, s1.2.2.1, s1.2.2.2.1, s1.2.2.2.2))).bind fun v2 => chk (InI64 (s1.2.1 + 1)) (some (.inl ((v2.1, (s1.2.1 + 1), v2.2.1, v2.2.2.1, v2.2.2.2)))) else out (some ((s1.1, s1.2.2.1, s1.2.2.2.1, s1.2.2.2.2)))

theorem le_sweep_swept_B1 (n : Nat) (x1 : (List Int)) (p_h0 : List (Int × Bool)) (s1 : Bool × Int × (List api_Page) × (List api_Page) × Bool) : Le0 (sweep_swept_B1' n x1 p_h0 s1) (sweep_swept_B1 x1 p_h0 s1) := by
  unfold sweep_swept_B1' sweep_swept_B1
  repeat' (first | with_reducible apply le_chunk_Lose | with_reducible refine Le0.bind ?_ (fun _ => ?_) | with_reducible refine Le0.ite ?_ ?_ | with_reducible refine Le0.chk ?_ | with_reducible refine Le0.out ?_ | with_reducible exact Le0.refl _)

def sweep_swept_L1' (n : Nat) (x1 : (List Int)) (p_h0 : List (Int × Bool)) (s1 : Bool × Int × (List api_Page) × (List api_Page) × Bool) : Option (Bool × (List api_Page) × (List api_Page) × Bool) := loopN (sweep_swept_B1' n x1 p_h0) n s1

theorem le_sweep_swept_L1 (n : Nat) (x1 : (List Int)) (p_h0 : List (Int × Bool)) (s1 : Bool × Int × (List api_Page) × (List api_Page) × Bool) : Le0 (sweep_swept_L1' n x1 p_h0 s1) (sweep_swept_L1 x1 p_h0 s1) := Le0.loop (fun s => le_sweep_swept_B1 n x1 p_h0 s) n s1

def sweep_swept' (n : Nat) (p_d : api_Disk) (p_h0 : List (Int × Bool)) : Option ((List api_Page) × (List api_Page) × Bool) := ((chunk_Has' n p_d).bind fun x1 => sweep_swept_L1' n x1 p_h0 ((false, 0, p_d.Synced, p_d.Loose, p_d.Down))).bind fun v1 => (if v1.1 then (disk_Sync' n ((⟨v1.2.1, v1.2.2.1, v1.2.2.2⟩ : api_Disk))).bind fun x5 => some ((x5.1.Synced, x5.1.Loose, x5.1.Down)) else some ((v1.2.1, v1.2.2.1, v1.2.2.2))).bind fun v3 => some ((v3.1, v3.2.1, v3.2.2))

theorem le_sweep_swept (n : Nat) (p_d : api_Disk) (p_h0 : List (Int × Bool)) : Le0 (sweep_swept' n p_d p_h0) (sweep_swept p_d p_h0) := by
  unfold sweep_swept' sweep_swept
  repeat' (first | with_reducible apply le_chunk_Has | with_reducible apply le_sweep_swept_L1 | with_reducible apply le_disk_Sync | with_reducible refine Le0.bind ?_ (fun _ => ?_) | with_reducible refine Le0.ite ?_ ?_ | with_reducible refine Le0.chk ?_ | with_reducible refine Le0.out ?_ | with_reducible exact Le0.refl _)

def slices_Clone_api_Room_api_Room' (_n : Nat) (p_s : List api_Room) : Option ((List api_Room)) := chk (p_s.length * 24 ≤ 140737488355328) (some p_s)

theorem eq_slices_Clone_api_Room_api_Room (p_s : List api_Room) (h : p_s.length * 24 ≤ 140737488355328) : slices_Clone_api_Room_api_Room p_s = some p_s := by
  unfold slices_Clone_api_Room_api_Room
  refine Le0.clone fun b hb => ?_
  cases b with
  | true => rw [hb rfl]; rfl
  | false =>
    rw [if_neg (by decide)]
    show chk _ _ = _
    unfold chk
    rw [if_pos (by simpa using h)]; rfl

theorem le_slices_Clone_api_Room_api_Room (n : Nat) (p_s : List api_Room) : Le0 (slices_Clone_api_Room_api_Room' n p_s) (slices_Clone_api_Room_api_Room p_s) := fun r hr => by
  obtain ⟨h1, h2⟩ := chk_some hr
  cases h2
  exact eq_slices_Clone_api_Room_api_Room _ h1

def sweep_Sweep_1' (n : Nat) (p_r : api_Room) (p_b1 : List api_Lease) (p_b2 : Int) : Option Bool := (sweep_open_1' n p_r p_b1 p_b2).bind fun x1 => some ((!x1))

theorem le_sweep_Sweep_1 (n : Nat) (p_r : api_Room) (p_b1 : List api_Lease) (p_b2 : Int) : Le0 (sweep_Sweep_1' n p_r p_b1 p_b2) (sweep_Sweep_1 p_r p_b1 p_b2) := by
  unfold sweep_Sweep_1' sweep_Sweep_1
  repeat' (first | with_reducible apply le_sweep_open_1 | with_reducible refine Le0.bind ?_ (fun _ => ?_) | with_reducible refine Le0.ite ?_ ?_ | with_reducible refine Le0.chk ?_ | with_reducible refine Le0.out ?_ | with_reducible exact Le0.refl _)

def slices_IndexFunc_api_Room_api_Room__sweep_Sweep_1_2_J1' (_n : Nat) (_v1 : Unit) : Option Int := some ((-1))

theorem le_slices_IndexFunc_api_Room_api_Room__sweep_Sweep_1_2_J1 (n : Nat) (_v1 : Unit) : Le0 (slices_IndexFunc_api_Room_api_Room__sweep_Sweep_1_2_J1' n _v1) (slices_IndexFunc_api_Room_api_Room__sweep_Sweep_1_2_J1 _v1) := by
  unfold slices_IndexFunc_api_Room_api_Room__sweep_Sweep_1_2_J1' slices_IndexFunc_api_Room_api_Room__sweep_Sweep_1_2_J1
  repeat' (first | with_reducible refine Le0.bind ?_ (fun _ => ?_) | with_reducible refine Le0.ite ?_ ?_ | with_reducible refine Le0.chk ?_ | with_reducible refine Le0.out ?_ | with_reducible exact Le0.refl _)

def slices_IndexFunc_api_Room_api_Room__sweep_Sweep_1_2_B1' (n : Nat) (p_h0 : List api_Room) (p_b2 : List api_Lease) (p_b3 : Int) (s1 : Int) : Option ((Int) ⊕ Int) := if (decide (s1 < (p_h0.length : Int))) then (idx p_h0 s1).bind fun x1 => (sweep_Sweep_1' n x1 p_b2 p_b3).bind fun x2 => if x2 then out (some s1) else chk (InI64 (s1 + 1)) (some (.inl ((s1 + 1)))) else out (slices_IndexFunc_api_Room_api_Room__sweep_Sweep_1_2_J1' n (()))

theorem le_slices_IndexFunc_api_Room_api_Room__sweep_Sweep_1_2_B1 (n : Nat) (p_h0 : List api_Room) (p_b2 : List api_Lease) (p_b3 : Int) (s1 : Int) : Le0 (slices_IndexFunc_api_Room_api_Room__sweep_Sweep_1_2_B1' n p_h0 p_b2 p_b3 s1) (slices_IndexFunc_api_Room_api_Room__sweep_Sweep_1_2_B1 p_h0 p_b2 p_b3 s1) := by
  unfold slices_IndexFunc_api_Room_api_Room__sweep_Sweep_1_2_B1' slices_IndexFunc_api_Room_api_Room__sweep_Sweep_1_2_B1
  repeat' (first | with_reducible apply le_sweep_Sweep_1 | with_reducible apply le_slices_IndexFunc_api_Room_api_Room__sweep_Sweep_1_2_J1 | with_reducible refine Le0.bind ?_ (fun _ => ?_) | with_reducible refine Le0.ite ?_ ?_ | with_reducible refine Le0.chk ?_ | with_reducible refine Le0.out ?_ | with_reducible exact Le0.refl _)

def slices_IndexFunc_api_Room_api_Room__sweep_Sweep_1_2_L1' (n : Nat) (p_h0 : List api_Room) (p_b2 : List api_Lease) (p_b3 : Int) (s1 : Int) : Option Int := loopN (slices_IndexFunc_api_Room_api_Room__sweep_Sweep_1_2_B1' n p_h0 p_b2 p_b3) n s1

theorem le_slices_IndexFunc_api_Room_api_Room__sweep_Sweep_1_2_L1 (n : Nat) (p_h0 : List api_Room) (p_b2 : List api_Lease) (p_b3 : Int) (s1 : Int) : Le0 (slices_IndexFunc_api_Room_api_Room__sweep_Sweep_1_2_L1' n p_h0 p_b2 p_b3 s1) (slices_IndexFunc_api_Room_api_Room__sweep_Sweep_1_2_L1 p_h0 p_b2 p_b3 s1) := Le0.loop (fun s => le_slices_IndexFunc_api_Room_api_Room__sweep_Sweep_1_2_B1 n p_h0 p_b2 p_b3 s) n s1

def slices_IndexFunc_api_Room_api_Room__sweep_Sweep_1_2' (n : Nat) (p_h0 : List api_Room) (p_b2 : List api_Lease) (p_b3 : Int) : Option Int := slices_IndexFunc_api_Room_api_Room__sweep_Sweep_1_2_L1' n p_h0 p_b2 p_b3 (0)

theorem le_slices_IndexFunc_api_Room_api_Room__sweep_Sweep_1_2 (n : Nat) (p_h0 : List api_Room) (p_b2 : List api_Lease) (p_b3 : Int) : Le0 (slices_IndexFunc_api_Room_api_Room__sweep_Sweep_1_2' n p_h0 p_b2 p_b3) (slices_IndexFunc_api_Room_api_Room__sweep_Sweep_1_2 p_h0 p_b2 p_b3) := by
  unfold slices_IndexFunc_api_Room_api_Room__sweep_Sweep_1_2' slices_IndexFunc_api_Room_api_Room__sweep_Sweep_1_2
  repeat' (first | with_reducible apply le_slices_IndexFunc_api_Room_api_Room__sweep_Sweep_1_2_L1 | with_reducible refine Le0.bind ?_ (fun _ => ?_) | with_reducible refine Le0.ite ?_ ?_ | with_reducible refine Le0.chk ?_ | with_reducible refine Le0.out ?_ | with_reducible exact Le0.refl _)

def slices_DeleteFunc_api_Room_api_Room__sweep_Sweep_1_B1' (n : Nat) (p_b2 : List api_Lease) (p_b3 : Int) (s1 : Int × Int × (List api_Room)) : Option ((Int × Int × (List api_Room)) ⊕ (Int × (List api_Room))) := if (decide (s1.2.1 < (s1.2.2.length : Int))) then ((idx s1.2.2 s1.2.1).bind fun x2 => (sweep_Sweep_1' n x2 p_b2 p_b3).bind fun x3 => if (!x3) then (idx s1.2.2 s1.1).bind fun _ => chk (InI64 (s1.1 + 1)) (some (((s1.1 + 1), (s1.2.2.set s1.1.toNat x2)))) else some ((s1.1, s1.2.2))).bind fun v2 => chk (InI64 (s1.2.1 + 1)) (some (.inl ((v2.1, (s1.2.1 + 1), v2.2)))) else out (some ((s1.1, s1.2.2)))

theorem le_slices_DeleteFunc_api_Room_api_Room__sweep_Sweep_1_B1 (n : Nat) (p_b2 : List api_Lease) (p_b3 : Int) (s1 : Int × Int × (List api_Room)) : Le0 (slices_DeleteFunc_api_Room_api_Room__sweep_Sweep_1_B1' n p_b2 p_b3 s1) (slices_DeleteFunc_api_Room_api_Room__sweep_Sweep_1_B1 p_b2 p_b3 s1) := by
  unfold slices_DeleteFunc_api_Room_api_Room__sweep_Sweep_1_B1' slices_DeleteFunc_api_Room_api_Room__sweep_Sweep_1_B1
  repeat' (first | with_reducible apply le_sweep_Sweep_1 | with_reducible refine Le0.bind ?_ (fun _ => ?_) | with_reducible refine Le0.ite ?_ ?_ | with_reducible refine Le0.chk ?_ | with_reducible refine Le0.out ?_ | with_reducible exact Le0.refl _)

def slices_DeleteFunc_api_Room_api_Room__sweep_Sweep_1_L1' (n : Nat) (p_b2 : List api_Lease) (p_b3 : Int) (s1 : Int × Int × (List api_Room)) : Option (Int × (List api_Room)) := loopN (slices_DeleteFunc_api_Room_api_Room__sweep_Sweep_1_B1' n p_b2 p_b3) n s1

theorem le_slices_DeleteFunc_api_Room_api_Room__sweep_Sweep_1_L1 (n : Nat) (p_b2 : List api_Lease) (p_b3 : Int) (s1 : Int × Int × (List api_Room)) : Le0 (slices_DeleteFunc_api_Room_api_Room__sweep_Sweep_1_L1' n p_b2 p_b3 s1) (slices_DeleteFunc_api_Room_api_Room__sweep_Sweep_1_L1 p_b2 p_b3 s1) := Le0.loop (fun s => le_slices_DeleteFunc_api_Room_api_Room__sweep_Sweep_1_B1 n p_b2 p_b3 s) n s1

def slices_DeleteFunc_api_Room_api_Room__sweep_Sweep_1' (n : Nat) (p_h0 : List api_Room) (p_b2 : List api_Lease) (p_b3 : Int) : Option ((List api_Room)) := (slices_IndexFunc_api_Room_api_Room__sweep_Sweep_1_2' n p_h0 p_b2 p_b3).bind fun x1 => if (x1 == (-1)) then some p_h0 else (chk (InI64 (x1 + 1)) (slices_DeleteFunc_api_Room_api_Room__sweep_Sweep_1_L1' n p_b2 p_b3 ((x1, (x1 + 1), p_h0)))).bind fun v1 => chk ((0 : Int) ≤ v1.1 ∧ v1.1 ≤ (v1.2.length : Int)) (chk ((0 : Int) ≤ v1.1 ∧ v1.1 ≤ (((v1.2.take (v1.1.toNat) ++ List.replicate (v1.2.length - (v1.1.toNat)) ((⟨0, 0, 0⟩ : api_Room) : api_Room))).length : Int)) (some ((((v1.2.take (v1.1.toNat) ++ List.replicate (v1.2.length - (v1.1.toNat)) ((⟨0, 0, 0⟩ : api_Room) : api_Room))).take v1.1.toNat))))

theorem le_slices_DeleteFunc_api_Room_api_Room__sweep_Sweep_1 (n : Nat) (p_h0 : List api_Room) (p_b2 : List api_Lease) (p_b3 : Int) : Le0 (slices_DeleteFunc_api_Room_api_Room__sweep_Sweep_1' n p_h0 p_b2 p_b3) (slices_DeleteFunc_api_Room_api_Room__sweep_Sweep_1 p_h0 p_b2 p_b3) := by
  unfold slices_DeleteFunc_api_Room_api_Room__sweep_Sweep_1' slices_DeleteFunc_api_Room_api_Room__sweep_Sweep_1
  repeat' (first | with_reducible apply le_slices_IndexFunc_api_Room_api_Room__sweep_Sweep_1_2 | with_reducible apply le_slices_DeleteFunc_api_Room_api_Room__sweep_Sweep_1_L1 | with_reducible refine Le0.bind ?_ (fun _ => ?_) | with_reducible refine Le0.ite ?_ ?_ | with_reducible refine Le0.chk ?_ | with_reducible refine Le0.out ?_ | with_reducible exact Le0.refl _)

def sweep_Sweep_B1' (_n : Nat) (x1 : (List Int)) (s1 : Int × (List (Int × Bool))) : Option ((Int × (List (Int × Bool))) ⊕ ((List (Int × Bool)))) := if (decide (s1.1 < (x1.length : Int))) then (idx x1 s1.1).bind fun x2 => chk (InI64 x2 ∧ s1.2.length < 140737488355328) (chk (InI64 (s1.1 + 1)) (some (.inl (((s1.1 + 1), (mset x2 true s1.2)))))) else out (some s1.2)

theorem le_sweep_Sweep_B1 (n : Nat) (x1 : (List Int)) (s1 : Int × (List (Int × Bool))) : Le0 (sweep_Sweep_B1' n x1 s1) (sweep_Sweep_B1 x1 s1) := by
  unfold sweep_Sweep_B1' sweep_Sweep_B1
  repeat' (first | with_reducible refine Le0.bind ?_ (fun _ => ?_) | with_reducible refine Le0.ite ?_ ?_ | with_reducible refine Le0.chk ?_ | with_reducible refine Le0.out ?_ | with_reducible exact Le0.refl _)

def sweep_Sweep_L1' (n : Nat) (x1 : (List Int)) (s1 : Int × (List (Int × Bool))) : Option ((List (Int × Bool))) := loopN (sweep_Sweep_B1' n x1) n s1

theorem le_sweep_Sweep_L1 (n : Nat) (x1 : (List Int)) (s1 : Int × (List (Int × Bool))) : Le0 (sweep_Sweep_L1' n x1 s1) (sweep_Sweep_L1 x1 s1) := Le0.loop (fun s => le_sweep_Sweep_B1 n x1 s) n s1

def sweep_Sweep_B2' (n : Nat) (p_disks : List api_Disk) (v1 : (List (Int × Bool))) (s2 : Int × (List api_Disk)) : Option ((Int × (List api_Disk)) ⊕ ((List api_Disk))) := if (decide (s2.1 < (p_disks.length : Int))) then (idx p_disks s2.1).bind fun x3 => (sweep_swept' n x3 v1).bind fun x4 => chk ((s2.2.length + ([(⟨x4.1, x4.2.1, x4.2.2⟩ : api_Disk)]).length) * 56 ≤ 140737488355328) (chk (InI64 (s2.1 + 1)) (some (.inl (((s2.1 + 1), (s2.2 ++ [(⟨x4.1, x4.2.1, x4.2.2⟩ : api_Disk)])))))) else out (some s2.2)

theorem le_sweep_Sweep_B2 (n : Nat) (p_disks : List api_Disk) (v1 : (List (Int × Bool))) (s2 : Int × (List api_Disk)) : Le0 (sweep_Sweep_B2' n p_disks v1 s2) (sweep_Sweep_B2 p_disks v1 s2) := by
  unfold sweep_Sweep_B2' sweep_Sweep_B2
  repeat' (first | with_reducible apply le_sweep_swept | with_reducible refine Le0.bind ?_ (fun _ => ?_) | with_reducible refine Le0.ite ?_ ?_ | with_reducible refine Le0.chk ?_ | with_reducible refine Le0.out ?_ | with_reducible exact Le0.refl _)

def sweep_Sweep_L2' (n : Nat) (p_disks : List api_Disk) (v1 : (List (Int × Bool))) (s2 : Int × (List api_Disk)) : Option ((List api_Disk)) := loopN (sweep_Sweep_B2' n p_disks v1) n s2

theorem le_sweep_Sweep_L2 (n : Nat) (p_disks : List api_Disk) (v1 : (List (Int × Bool))) (s2 : Int × (List api_Disk)) : Le0 (sweep_Sweep_L2' n p_disks v1 s2) (sweep_Sweep_L2 p_disks v1 s2) := Le0.loop (fun s => le_sweep_Sweep_B2 n p_disks v1 s) n s2

def sweep_Sweep' (n : Nat) (p_named : List api_Named) (p_rooms : List api_Room) (p_leases : List api_Lease) (p_now : Int) (p_disks : List api_Disk) : Option ((List api_Disk) × (List api_Room)) := ((sweep_Gone' n p_named p_rooms p_leases p_now p_disks).bind fun x1 => sweep_Sweep_L1' n x1 ((0, ([] : List (Int × Bool))))).bind fun v1 => (sweep_Sweep_L2' n p_disks v1 ((0, []))).bind fun v2 => (sweep_open' n p_leases p_now).bind fun _ => (slices_Clone_api_Room_api_Room' n p_rooms).bind fun x6 => (slices_DeleteFunc_api_Room_api_Room__sweep_Sweep_1' n x6 p_leases p_now).bind fun x7 => some ((v2, x7))

theorem le_sweep_Sweep (n : Nat) (p_named : List api_Named) (p_rooms : List api_Room) (p_leases : List api_Lease) (p_now : Int) (p_disks : List api_Disk) : Le0 (sweep_Sweep' n p_named p_rooms p_leases p_now p_disks) (sweep_Sweep p_named p_rooms p_leases p_now p_disks) := by
  unfold sweep_Sweep' sweep_Sweep
  repeat' (first | with_reducible apply le_sweep_Gone | with_reducible apply le_sweep_Sweep_L1 | with_reducible apply le_sweep_Sweep_L2 | with_reducible apply le_sweep_open | with_reducible apply le_slices_Clone_api_Room_api_Room | with_reducible apply le_slices_DeleteFunc_api_Room_api_Room__sweep_Sweep_1 | with_reducible refine Le0.bind ?_ (fun _ => ?_) | with_reducible refine Le0.ite ?_ ?_ | with_reducible refine Le0.chk ?_ | with_reducible refine Le0.out ?_ | with_reducible exact Le0.refl _)

def sweep_Keeps' (n : Nat) (p_named : List api_Named) (p_rooms : List api_Room) (p_leases : List api_Lease) (p_now : Int) : Option ((List Int)) := (sweep_open' n p_leases p_now).bind fun _ => (sweep_kept__sweep_open_1' n p_named p_rooms p_leases p_now).bind fun x2 => chk (x2.length * 8 ≤ 140737488355328) ((some (keysJ x2)).bind fun x3 => some x3)

theorem le_sweep_Keeps (n : Nat) (p_named : List api_Named) (p_rooms : List api_Room) (p_leases : List api_Lease) (p_now : Int) : Le0 (sweep_Keeps' n p_named p_rooms p_leases p_now) (sweep_Keeps p_named p_rooms p_leases p_now) := by
  unfold sweep_Keeps' sweep_Keeps
  simp only [keysJ_eq, sortJ_eq]
  repeat' (first | with_reducible apply le_sweep_open | with_reducible apply le_sweep_kept__sweep_open_1 | with_reducible refine Le0.bind ?_ (fun _ => ?_) | with_reducible refine Le0.ite ?_ ?_ | with_reducible refine Le0.chk ?_ | with_reducible refine Le0.out ?_ | with_reducible exact Le0.refl _)

def ref02_Ints_J1' (_n : Nat) (_v1 : Unit) : Option Bool := some true

theorem le_ref02_Ints_J1 (n : Nat) (_v1 : Unit) : Le0 (ref02_Ints_J1' n _v1) (ref02_Ints_J1 _v1) := by
  unfold ref02_Ints_J1' ref02_Ints_J1
  repeat' (first | with_reducible refine Le0.bind ?_ (fun _ => ?_) | with_reducible refine Le0.ite ?_ ?_ | with_reducible refine Le0.chk ?_ | with_reducible refine Le0.out ?_ | with_reducible exact Le0.refl _)

def ref02_Ints_B1' (n : Nat) (p_a : List Int) (p_b : List Int) (s1 : Int) : Option ((Int) ⊕ Bool) := if (decide (s1 < (p_a.length : Int))) then (idx p_a s1).bind fun x1 => (idx p_b s1).bind fun x2 => if (x1 != x2) then out (some false) else chk (InI64 (s1 + 1)) (some (.inl ((s1 + 1)))) else out (ref02_Ints_J1' n (()))

theorem le_ref02_Ints_B1 (n : Nat) (p_a : List Int) (p_b : List Int) (s1 : Int) : Le0 (ref02_Ints_B1' n p_a p_b s1) (ref02_Ints_B1 p_a p_b s1) := by
  unfold ref02_Ints_B1' ref02_Ints_B1
  repeat' (first | with_reducible apply le_ref02_Ints_J1 | with_reducible refine Le0.bind ?_ (fun _ => ?_) | with_reducible refine Le0.ite ?_ ?_ | with_reducible refine Le0.chk ?_ | with_reducible refine Le0.out ?_ | with_reducible exact Le0.refl _)

def ref02_Ints_L1' (n : Nat) (p_a : List Int) (p_b : List Int) (s1 : Int) : Option Bool := loopN (ref02_Ints_B1' n p_a p_b) n s1

theorem le_ref02_Ints_L1 (n : Nat) (p_a : List Int) (p_b : List Int) (s1 : Int) : Le0 (ref02_Ints_L1' n p_a p_b s1) (ref02_Ints_L1 p_a p_b s1) := Le0.loop (fun s => le_ref02_Ints_B1 n p_a p_b s) n s1

def ref02_Ints' (n : Nat) (p_a : List Int) (p_b : List Int) : Option Bool := if ((p_a.length : Int) != (p_b.length : Int)) then some false else ref02_Ints_L1' n p_a p_b (0)

theorem le_ref02_Ints (n : Nat) (p_a : List Int) (p_b : List Int) : Le0 (ref02_Ints' n p_a p_b) (ref02_Ints p_a p_b) := by
  unfold ref02_Ints' ref02_Ints
  repeat' (first | with_reducible apply le_ref02_Ints_L1 | with_reducible refine Le0.bind ?_ (fun _ => ?_) | with_reducible refine Le0.ite ?_ ?_ | with_reducible refine Le0.chk ?_ | with_reducible refine Le0.out ?_ | with_reducible exact Le0.refl _)

def ref29_SameRooms_J1' (_n : Nat) (_v1 : Unit) : Option Bool := some true

theorem le_ref29_SameRooms_J1 (n : Nat) (_v1 : Unit) : Le0 (ref29_SameRooms_J1' n _v1) (ref29_SameRooms_J1 _v1) := by
  unfold ref29_SameRooms_J1' ref29_SameRooms_J1
  repeat' (first | with_reducible refine Le0.bind ?_ (fun _ => ?_) | with_reducible refine Le0.ite ?_ ?_ | with_reducible refine Le0.chk ?_ | with_reducible refine Le0.out ?_ | with_reducible exact Le0.refl _)

def ref29_SameRooms_B1' (n : Nat) (p_a : List api_Room) (p_b : List api_Room) (s1 : Int) : Option ((Int) ⊕ Bool) := if (decide (s1 < (p_a.length : Int))) then (idx p_a s1).bind fun x1 => (idx p_b s1).bind fun x2 => if (!(x1.Id == x2.Id && (x1.Ino == x2.Ino && (x1.Client == x2.Client && true)))) then out (some false) else chk (InI64 (s1 + 1)) (some (.inl ((s1 + 1)))) else out (ref29_SameRooms_J1' n (()))

theorem le_ref29_SameRooms_B1 (n : Nat) (p_a : List api_Room) (p_b : List api_Room) (s1 : Int) : Le0 (ref29_SameRooms_B1' n p_a p_b s1) (ref29_SameRooms_B1 p_a p_b s1) := by
  unfold ref29_SameRooms_B1' ref29_SameRooms_B1
  repeat' (first | with_reducible apply le_ref29_SameRooms_J1 | with_reducible refine Le0.bind ?_ (fun _ => ?_) | with_reducible refine Le0.ite ?_ ?_ | with_reducible refine Le0.chk ?_ | with_reducible refine Le0.out ?_ | with_reducible exact Le0.refl _)

def ref29_SameRooms_L1' (n : Nat) (p_a : List api_Room) (p_b : List api_Room) (s1 : Int) : Option Bool := loopN (ref29_SameRooms_B1' n p_a p_b) n s1

theorem le_ref29_SameRooms_L1 (n : Nat) (p_a : List api_Room) (p_b : List api_Room) (s1 : Int) : Le0 (ref29_SameRooms_L1' n p_a p_b s1) (ref29_SameRooms_L1 p_a p_b s1) := Le0.loop (fun s => le_ref29_SameRooms_B1 n p_a p_b s) n s1

def ref29_SameRooms' (n : Nat) (p_a : List api_Room) (p_b : List api_Room) : Option Bool := if ((p_a.length : Int) != (p_b.length : Int)) then some false else ref29_SameRooms_L1' n p_a p_b (0)

theorem le_ref29_SameRooms (n : Nat) (p_a : List api_Room) (p_b : List api_Room) : Le0 (ref29_SameRooms' n p_a p_b) (ref29_SameRooms p_a p_b) := by
  unfold ref29_SameRooms' ref29_SameRooms
  repeat' (first | with_reducible apply le_ref29_SameRooms_L1 | with_reducible refine Le0.bind ?_ (fun _ => ?_) | with_reducible refine Le0.ite ?_ ?_ | with_reducible refine Le0.chk ?_ | with_reducible refine Le0.out ?_ | with_reducible exact Le0.refl _)

def law29_head' (n : Nat) : Option Bool := (law29_on' n ([1, 2, 3])).bind fun x1 => (law29_on' n ([3, 4, 5])).bind fun x2 => (sweep_Sweep' n ([(⟨7, 0, 0, 5⟩ : api_Named), (⟨7, 2, 0, 1⟩ : api_Named), (⟨8, 0, 1, 5⟩ : api_Named)]) ([(⟨2, 7, 3⟩ : api_Room), (⟨4, 7, 4⟩ : api_Room)]) ([(⟨3, 7, 2, (⟨0, 0⟩ : api_Span), 9, 0⟩ : api_Lease), (⟨4, 7, 1, (⟨0, 0⟩ : api_Span), 99, 0⟩ : api_Lease)]) (8) ([x1, x2])).bind fun x3 => if ((x3.1.length : Int) != 2) then some false else ((sweep_Keeps' n ([(⟨7, 0, 0, 5⟩ : api_Named), (⟨7, 2, 0, 1⟩ : api_Named), (⟨8, 0, 1, 5⟩ : api_Named)]) ([(⟨2, 7, 3⟩ : api_Room), (⟨4, 7, 4⟩ : api_Room)]) ([(⟨3, 7, 2, (⟨0, 0⟩ : api_Span), 9, 0⟩ : api_Lease), (⟨4, 7, 1, (⟨0, 0⟩ : api_Span), 99, 0⟩ : api_Lease)]) (8)).bind fun x4 => (ref02_Ints' n x4 ([1, 2, 5])).bind fun x5 => (if x5 then (sweep_Keeps' n ([(⟨7, 0, 0, 5⟩ : api_Named), (⟨7, 2, 0, 1⟩ : api_Named), (⟨8, 0, 1, 5⟩ : api_Named)]) ([(⟨2, 7, 3⟩ : api_Room), (⟨4, 7, 4⟩ : api_Room)]) ([(⟨3, 7, 2, (⟨0, 0⟩ : api_Span), 9, 0⟩ : api_Lease), (⟨4, 7, 1, (⟨0, 0⟩ : api_Span), 99, 0⟩ : api_Lease)]) (9)).bind fun x6 => (ref02_Ints' n x6 ([1, 5])).bind fun x7 => some x7 else some false).bind fun c1 => (if c1 then (sweep_Gone' n ([(⟨7, 0, 0, 5⟩ : api_Named), (⟨7, 2, 0, 1⟩ : api_Named), (⟨8, 0, 1, 5⟩ : api_Named)]) ([(⟨2, 7, 3⟩ : api_Room), (⟨4, 7, 4⟩ : api_Room)]) ([(⟨3, 7, 2, (⟨0, 0⟩ : api_Span), 9, 0⟩ : api_Lease), (⟨4, 7, 1, (⟨0, 0⟩ : api_Span), 99, 0⟩ : api_Lease)]) (8) ([x1, x2])).bind fun x8 => (ref02_Ints' n x8 ([3, 4])).bind fun x9 => some x9 else some false).bind fun c2 => (if c2 then (idx x3.1 (0)).bind fun x10 => (chunk_Has' n x10).bind fun x11 => (ref02_Ints' n x11 ([1, 2])).bind fun x12 => some x12 else some false).bind fun c3 => (if c3 then (idx x3.1 (1)).bind fun x13 => (chunk_Has' n x13).bind fun x14 => (ref02_Ints' n x14 ([5])).bind fun x15 => some x15 else some false).bind fun c4 => (if c4 then (ref29_SameRooms' n x3.2 ([(⟨2, 7, 3⟩ : api_Room)])).bind fun x16 => some x16 else some false).bind fun c5 => (if c5 then (idx x3.1 (0)).bind fun x17 => some (((x17.Loose.length : Int) == 0)) else some false).bind fun c6 => some c6).bind fun v1 => some v1

theorem le_law29_head (n : Nat) : Le0 (law29_head' n) (law29_head) := by
  unfold law29_head' law29_head
  repeat' (first | with_reducible apply le_law29_on | with_reducible apply le_sweep_Sweep | with_reducible apply le_sweep_Keeps | with_reducible apply le_ref02_Ints | with_reducible apply le_sweep_Gone | with_reducible apply le_chunk_Has | with_reducible apply le_ref29_SameRooms | with_reducible refine Le0.bind ?_ (fun _ => ?_) | with_reducible refine Le0.ite ?_ ?_ | with_reducible refine Le0.chk ?_ | with_reducible refine Le0.out ?_ | with_reducible exact Le0.refl _)

end Go.Proofs
