/- The plain programs with a bound on their rounds: what these say the others say, too. No condition. -/
import Derived.Test.YtaaaipgdnofafaaGreatXChainStaleSp
import Derived.Test.YtaaaipgdnofafaaGreatXChainStaleCatP6
namespace Go.Proofs
noncomputable section
set_option linter.all false
open Go Go.Cat
set_option maxRecDepth 100000
def slices_Clone_int_int' (_n:Nat) (p_s:List Int):Option (List Int):=chk (p_s.length * 8≤140737488355328) (some p_s)
theorem eq_slices_Clone_int_int (p_s:List Int) (h:p_s.length * 8≤140737488355328):slices_Clone_int_int p_s=some p_s:=by
 unfold slices_Clone_int_int
 refine Le0.clone fun b hb=>?_
 cases b with
 | true=>rw [hb rfl]; rfl
 | false =>
  rw [if_neg (by decide)]
  show chk _ _=_
  unfold chk
  rw [if_pos (by simpa using h)]; rfl
theorem le_slices_Clone_int_int n p_s:Le0 (slices_Clone_int_int' n p_s) (slices_Clone_int_int p_s):=fun r hr=>by
 obtain ⟨h1,h2⟩:=chk_some hr
 cases h2
 exact eq_slices_Clone_int_int _ h1
def slices_Index_int_int_B1' (_n:Nat) (p_s:List Int) (p_v:Int) (s1:Int):Option ((Int)⊕Int):=if (decide (s1 < (p_s.length:Int))) then (idx p_s s1).bind fun x1=>if (p_v == x1) then out (some s1) else chk (InI64 (s1+1)) (some (.inl (s1+1))) else out (slices_Index_int_int_J1 ())
theorem le_slices_Index_int_int_B1 n p_s p_v s1:Le0 (slices_Index_int_int_B1' n p_s p_v s1) (slices_Index_int_int_B1 p_s p_v s1):=by
 unfold slices_Index_int_int_B1' slices_Index_int_int_B1
 with_reducible repeat' first | refine B0 ?_ fun _=>?_ | apply I0 | apply K0 | apply O0 | exact R0
def slices_Index_int_int_L1' (n:Nat) (p_s:List Int) (p_v:Int) (s1:Int):Option Int:=loopN (slices_Index_int_int_B1' n p_s p_v) n s1
theorem le_slices_Index_int_int_L1 n p_s p_v s1:Le0 (slices_Index_int_int_L1' n p_s p_v s1) (slices_Index_int_int_L1 p_s p_v s1):=Le0.loop (fun s=>le_slices_Index_int_int_B1 n p_s p_v s) n s1
def slices_Index_int_int' (n:Nat) (p_s:List Int) (p_v:Int):Option Int:=slices_Index_int_int_L1' n p_s p_v 0
theorem le_slices_Index_int_int n p_s p_v:Le0 (slices_Index_int_int' n p_s p_v) (slices_Index_int_int p_s p_v):=by
 unfold slices_Index_int_int' slices_Index_int_int
 with_reducible repeat' first | apply le_slices_Index_int_int_L1 | refine B0 ?_ fun _=>?_ | apply I0 | apply K0 | apply O0 | exact R0
def slices_Contains_int_int' (n:Nat) (p_s:List Int) (p_v:Int):Option Bool:=(slices_Index_int_int' n p_s p_v).bind fun x1=>some (decide (x1≥0))
theorem le_slices_Contains_int_int n p_s p_v:Le0 (slices_Contains_int_int' n p_s p_v) (slices_Contains_int_int p_s p_v):=by
 unfold slices_Contains_int_int' slices_Contains_int_int
 with_reducible repeat' first | apply le_slices_Index_int_int | refine B0 ?_ fun _=>?_ | apply I0 | apply K0 | apply O0 | exact R0
def chain_Right_B1' (n:Nat) (p_c:api_Chain) (p_disks:List api_Disk) (s1:Int):Option ((Int)⊕Bool):=if (decide (s1 < (p_c.Servers.length:Int))) then (idx p_c.Servers s1).bind fun x1=>((if (decide (x1 < 0)) then some true else some (decide (x1≥(p_disks.length:Int)))).bind fun c1=>(if c1 then some true else chk ((0:Int)≤s1∧s1≤(p_c.Servers.length:Int)) ((slices_Contains_int_int' n (p_c.Servers.take s1.toNat) x1).bind fun x2=>some x2)).bind fun c2=>some c2).bind fun v2=>if v2 then out (some false) else chk (InI64 (s1+1)) (some (.inl (s1+1))) else out (chain_Right_J1 p_c ())
theorem le_chain_Right_B1 n p_c p_disks s1:Le0 (chain_Right_B1' n p_c p_disks s1) (chain_Right_B1 p_c p_disks s1):=by
 unfold chain_Right_B1' chain_Right_B1
 with_reducible repeat' first | apply le_slices_Contains_int_int | refine B0 ?_ fun _=>?_ | apply I0 | apply K0 | apply O0 | exact R0
def chain_Right_L1' (n:Nat) (p_c:api_Chain) (p_disks:List api_Disk) (s1:Int):Option Bool:=loopN (chain_Right_B1' n p_c p_disks) n s1
theorem le_chain_Right_L1 n p_c p_disks s1:Le0 (chain_Right_L1' n p_c p_disks s1) (chain_Right_L1 p_c p_disks s1):=Le0.loop (fun s=>le_chain_Right_B1 n p_c p_disks s) n s1
def chain_Right' (n:Nat) (p_c:api_Chain) (p_disks:List api_Disk):Option Bool:=chain_Right_L1' n p_c p_disks 0
theorem le_chain_Right n p_c p_disks:Le0 (chain_Right' n p_c p_disks) (chain_Right p_c p_disks):=by
 unfold chain_Right' chain_Right
 with_reducible repeat' first | apply le_chain_Right_L1 | refine B0 ?_ fun _=>?_ | apply I0 | apply K0 | apply O0 | exact R0
def slices_IndexFunc_int_int__chain_Make_1_B1' (_n:Nat) (p_s:List Int) (p_f_c0_0:List api_Disk) (s1:Int):Option ((Int)⊕Int):=if (decide (s1 < (p_s.length:Int))) then (idx p_s s1).bind fun x1=>(chain_Make_1 x1 p_f_c0_0).bind fun x2=>if x2 then out (some s1) else chk (InI64 (s1+1)) (some (.inl (s1+1))) else out (slices_IndexFunc_int_int__chain_Make_1_J1 ())
theorem le_slices_IndexFunc_int_int__chain_Make_1_B1 n p_s p_f_c0_0 s1:Le0 (slices_IndexFunc_int_int__chain_Make_1_B1' n p_s p_f_c0_0 s1) (slices_IndexFunc_int_int__chain_Make_1_B1 p_s p_f_c0_0 s1):=by
 unfold slices_IndexFunc_int_int__chain_Make_1_B1' slices_IndexFunc_int_int__chain_Make_1_B1
 with_reducible repeat' first | refine B0 ?_ fun _=>?_ | apply I0 | apply K0 | apply O0 | exact R0
def slices_IndexFunc_int_int__chain_Make_1_L1' (n:Nat) (p_s:List Int) (p_f_c0_0:List api_Disk) (s1:Int):Option Int:=loopN (slices_IndexFunc_int_int__chain_Make_1_B1' n p_s p_f_c0_0) n s1
theorem le_slices_IndexFunc_int_int__chain_Make_1_L1 n p_s p_f_c0_0 s1:Le0 (slices_IndexFunc_int_int__chain_Make_1_L1' n p_s p_f_c0_0 s1) (slices_IndexFunc_int_int__chain_Make_1_L1 p_s p_f_c0_0 s1):=Le0.loop (fun s=>le_slices_IndexFunc_int_int__chain_Make_1_B1 n p_s p_f_c0_0 s) n s1
def slices_IndexFunc_int_int__chain_Make_1' (n:Nat) (p_s:List Int) (p_f_c0_0:List api_Disk):Option Int:=slices_IndexFunc_int_int__chain_Make_1_L1' n p_s p_f_c0_0 0
theorem le_slices_IndexFunc_int_int__chain_Make_1 n p_s p_f_c0_0:Le0 (slices_IndexFunc_int_int__chain_Make_1' n p_s p_f_c0_0) (slices_IndexFunc_int_int__chain_Make_1 p_s p_f_c0_0):=by
 unfold slices_IndexFunc_int_int__chain_Make_1' slices_IndexFunc_int_int__chain_Make_1
 with_reducible repeat' first | apply le_slices_IndexFunc_int_int__chain_Make_1_L1 | refine B0 ?_ fun _=>?_ | apply I0 | apply K0 | apply O0 | exact R0
def slices_ContainsFunc_int_int__chain_Make_1' (n:Nat) (p_s:List Int) (p_f_c0:List api_Disk):Option Bool:=(slices_IndexFunc_int_int__chain_Make_1' n p_s p_f_c0).bind fun x1=>some (decide (x1≥0))
theorem le_slices_ContainsFunc_int_int__chain_Make_1 n p_s p_f_c0:Le0 (slices_ContainsFunc_int_int__chain_Make_1' n p_s p_f_c0) (slices_ContainsFunc_int_int__chain_Make_1 p_s p_f_c0):=by
 unfold slices_ContainsFunc_int_int__chain_Make_1' slices_ContainsFunc_int_int__chain_Make_1
 with_reducible repeat' first | apply le_slices_IndexFunc_int_int__chain_Make_1 | refine B0 ?_ fun _=>?_ | apply I0 | apply K0 | apply O0 | exact R0
def slices_Clone_api_Disk_api_Disk' (_n:Nat) (p_s:List api_Disk):Option (List api_Disk):=chk (p_s.length * 56≤140737488355328) (some p_s)
theorem eq_slices_Clone_api_Disk_api_Disk (p_s:List api_Disk) (h:p_s.length * 56≤140737488355328):slices_Clone_api_Disk_api_Disk p_s=some p_s:=by
 unfold slices_Clone_api_Disk_api_Disk
 refine Le0.clone fun b hb=>?_
 cases b with
 | true=>rw [hb rfl]; rfl
 | false =>
  rw [if_neg (by decide)]
  show chk _ _=_
  unfold chk
  rw [if_pos (by simpa using h)]; rfl
theorem le_slices_Clone_api_Disk_api_Disk n p_s:Le0 (slices_Clone_api_Disk_api_Disk' n p_s) (slices_Clone_api_Disk_api_Disk p_s):=fun r hr=>by
 obtain ⟨h1,h2⟩:=chk_some hr
 cases h2
 exact eq_slices_Clone_api_Disk_api_Disk _ h1
def chain_laying' (n:Nat) (p_c:api_Chain) (p_disks:List api_Disk) (p_data:List UInt8):Option (List api_Disk):=(slices_Clone_api_Disk_api_Disk' n p_disks).bind fun x1=>some x1
theorem le_chain_laying n p_c p_disks p_data:Le0 (chain_laying' n p_c p_disks p_data) (chain_laying p_c p_disks p_data):=by
 unfold chain_laying' chain_laying
 with_reducible repeat' first | apply le_slices_Clone_api_Disk_api_Disk | refine B0 ?_ fun _=>?_ | apply I0 | apply K0 | apply O0 | exact R0
def slices_Clone_byte_byte' (_n:Nat) (p_s:List UInt8):Option (List UInt8):=chk (p_s.length * 1≤140737488355328) (some p_s)
theorem eq_slices_Clone_byte_byte (p_s:List UInt8) (h:p_s.length * 1≤140737488355328):slices_Clone_byte_byte p_s=some p_s:=by
 unfold slices_Clone_byte_byte
 refine Le0.clone fun b hb=>?_
 cases b with
 | true=>rw [hb rfl]; rfl
 | false =>
  rw [if_neg (by decide)]
  show chk _ _=_
  unfold chk
  rw [if_pos (by simpa using h)]; rfl
theorem le_slices_Clone_byte_byte n p_s:Le0 (slices_Clone_byte_byte' n p_s) (slices_Clone_byte_byte p_s):=fun r hr=>by
 obtain ⟨h1,h2⟩:=chk_some hr
 cases h2
 exact eq_slices_Clone_byte_byte _ h1
def sum_half_B2' (_n:Nat) (s2:Int×Int):Option ((Int×Int)⊕Int):=if (decide (s2.2 < 4)) then (sum_half_1 s2.1).bind fun x1=>chk (InI64 (s2.2+1)) (some (.inl (x1,(s2.2+1)))) else out (some s2.1)
theorem le_sum_half_B2 n s2:Le0 (sum_half_B2' n s2) (sum_half_B2 s2):=by
 unfold sum_half_B2' sum_half_B2
 with_reducible repeat' first | refine B0 ?_ fun _=>?_ | apply I0 | apply K0 | apply O0 | exact R0
def sum_half_L2' (n:Nat) (s2:Int×Int):Option Int:=loopN (sum_half_B2' n ) n s2
theorem le_sum_half_L2 n s2:Le0 (sum_half_L2' n s2) (sum_half_L2 s2):=Le0.loop (fun s=>le_sum_half_B2 n  s) n s2
def sum_half_B1' (n:Nat) (s1:Int×(List Int)):Option ((Int×(List Int))⊕(List Int)):=if (decide (s1.1 < 16)) then ((sum_half_L2' n ((IntKind.u32.wrap s1.1),0)).bind fun v3=>(idx s1.2 s1.1).bind fun _=>chk (s1.1 < 16) (some (s1.2.set s1.1.toNat v3))).bind fun v2=>chk (InI64 (s1.1+1)) (some (.inl ((s1.1+1),v2))) else out (some s1.2)
theorem le_sum_half_B1 n s1:Le0 (sum_half_B1' n s1) (sum_half_B1 s1):=by
 unfold sum_half_B1' sum_half_B1
 with_reducible repeat' first | apply le_sum_half_L2 | refine B0 ?_ fun _=>?_ | apply I0 | apply K0 | apply O0 | exact R0
def sum_half_L1' (n:Nat) (s1:Int×(List Int)):Option (List Int):=loopN (sum_half_B1' n ) n s1
theorem le_sum_half_L1 n s1:Le0 (sum_half_L1' n s1) (sum_half_L1 s1):=Le0.loop (fun s=>le_sum_half_B1 n  s) n s1
def sum_half' (n:Nat):Option (List Int):=(sum_half_L1' n (0,(List.replicate 16 0))).bind fun v1=>chk (v1.length=16) (chk (v1.length=16) (chk (v1.length=16) (some v1)))
theorem le_sum_half n:Le0 (sum_half' n) sum_half:=by
 unfold sum_half' sum_half
 with_reducible repeat' first | apply le_sum_half_L1 | refine B0 ?_ fun _=>?_ | apply I0 | apply K0 | apply O0 | exact R0
def sum_of_B1' (_n:Nat) (p_b:List UInt8) (p_t:List Int) (s1:Int×Int):Option ((Int×Int)⊕Int):=if (decide (s1.2 < (p_b.length:Int))) then (idx p_b s1.2).bind fun x1=>(idx p_t (andK .u32 (xorK .u32 s1.1 (x1.toNat:Int)) 15)).bind fun x2=>chk ((andK .u32 (xorK .u32 s1.1 (x1.toNat:Int)) 15) < 16) ((idx p_t (andK .u32 (xorK .u32 x2 (shrK .u32 (xorK .u32 s1.1 (x1.toNat:Int)) 4)) 15)).bind fun x3=>chk ((andK .u32 (xorK .u32 x2 (shrK .u32 (xorK .u32 s1.1 (x1.toNat:Int)) 4)) 15) < 16) (chk (InI64 (s1.2+1)) (some (.inl ((xorK .u32 x3 (shrK .u32 (xorK .u32 x2 (shrK .u32 (xorK .u32 s1.1 (x1.toNat:Int)) 4)) 4)),(s1.2+1)))))) else out (some s1.1)
theorem le_sum_of_B1 n p_b p_t s1:Le0 (sum_of_B1' n p_b p_t s1) (sum_of_B1 p_b p_t s1):=by
 unfold sum_of_B1' sum_of_B1
 with_reducible repeat' first | refine B0 ?_ fun _=>?_ | apply I0 | apply K0 | apply O0 | exact R0
def sum_of_L1' (n:Nat) (p_b:List UInt8) (p_t:List Int) (s1:Int×Int):Option Int:=loopN (sum_of_B1' n p_b p_t) n s1
theorem le_sum_of_L1 n p_b p_t s1:Le0 (sum_of_L1' n p_b p_t s1) (sum_of_L1 p_b p_t s1):=Le0.loop (fun s=>le_sum_of_B1 n p_b p_t s) n s1
def sum_of' (n:Nat) (p_t:List Int) (p_b:List UInt8):Option Int:=(sum_of_L1' n p_b p_t (4294967295,0)).bind fun v1=>some (IntKind.i64.wrap (xorK .u32 v1 4294967295))
theorem le_sum_of n p_t p_b:Le0 (sum_of' n p_t p_b) (sum_of p_t p_b):=by
 unfold sum_of' sum_of
 with_reducible repeat' first | apply le_sum_of_L1 | refine B0 ?_ fun _=>?_ | apply I0 | apply K0 | apply O0 | exact R0
def sum_Blocks_B1' (n:Nat) (x1:(List Int)) (s1:(List UInt8)×(List Int)):Option (((List UInt8)×(List Int))⊕(List Int)):=if (decide ((s1.1.length:Int) > 0)) then chk (x1.length=16) (chk ((0:Int)≤(min (s1.1.length:Int) 16)∧(min (s1.1.length:Int) 16)≤(s1.1.length:Int)) ((sum_of' n x1 (s1.1.take (min (s1.1.length:Int) 16).toNat)).bind fun x2=>chk ((s1.2.length+([x2]).length) * 8≤140737488355328) (chk ((0:Int)≤(min (s1.1.length:Int) 16)∧(min (s1.1.length:Int) 16)≤(s1.1.length:Int)) (some (.inl ((s1.1.drop (min (s1.1.length:Int) 16).toNat),(s1.2++[x2]))))))) else out (some s1.2)
theorem le_sum_Blocks_B1 n x1 s1:Le0 (sum_Blocks_B1' n x1 s1) (sum_Blocks_B1 x1 s1):=by
 unfold sum_Blocks_B1' sum_Blocks_B1
 with_reducible repeat' first | apply le_sum_of | refine B0 ?_ fun _=>?_ | apply I0 | apply K0 | apply O0 | exact R0
def sum_Blocks_L1' (n:Nat) (x1:(List Int)) (s1:(List UInt8)×(List Int)):Option (List Int):=loopN (sum_Blocks_B1' n x1) n s1
theorem le_sum_Blocks_L1 n x1 s1:Le0 (sum_Blocks_L1' n x1 s1) (sum_Blocks_L1 x1 s1):=Le0.loop (fun s=>le_sum_Blocks_B1 n x1 s) n s1
def sum_Blocks' (n:Nat) (p_data:List UInt8):Option (List Int):=(sum_half' n).bind fun x1=>chk (x1.length=16) ((sum_Blocks_L1' n x1 (p_data,[])).bind fun v1=>some v1)
theorem le_sum_Blocks n p_data:Le0 (sum_Blocks' n p_data) (sum_Blocks p_data):=by
 unfold sum_Blocks' sum_Blocks
 with_reducible repeat' first | apply le_sum_half | apply le_sum_Blocks_L1 | refine B0 ?_ fun _=>?_ | apply I0 | apply K0 | apply O0 | exact R0
def chunk_New' (n:Nat) (p_id:Int) (p_ver:Int) (p_data:List UInt8):Option api_Copy:=(slices_Clone_byte_byte' n p_data).bind fun x1=>(sum_Blocks' n p_data).bind fun x2=>some (⟨p_id,p_ver,x1,x2⟩:api_Copy)
theorem le_chunk_New n p_id p_ver p_data:Le0 (chunk_New' n p_id p_ver p_data) (chunk_New p_id p_ver p_data):=by
 unfold chunk_New' chunk_New
 with_reducible repeat' first | apply le_slices_Clone_byte_byte | apply le_sum_Blocks | refine B0 ?_ fun _=>?_ | apply I0 | apply K0 | apply O0 | exact R0
def sum_Check_B1' (_n:Nat) (x1:(List Int)) (p_sums:List Int) (s1:Int):Option ((Int)⊕Int):=if (decide (s1 < (min (x1.length:Int) (p_sums.length:Int)))) then (idx x1 s1).bind fun x2=>(idx p_sums s1).bind fun x3=>if (x2 != x3) then out (some s1) else chk (InI64 (s1+1)) (some (.inl (s1+1))) else out (sum_Check_J1 x1 p_sums ())
theorem le_sum_Check_B1 n x1 p_sums s1:Le0 (sum_Check_B1' n x1 p_sums s1) (sum_Check_B1 x1 p_sums s1):=by
 unfold sum_Check_B1' sum_Check_B1
 with_reducible repeat' first | refine B0 ?_ fun _=>?_ | apply I0 | apply K0 | apply O0 | exact R0
def sum_Check_L1' (n:Nat) (x1:(List Int)) (p_sums:List Int) (s1:Int):Option Int:=loopN (sum_Check_B1' n x1 p_sums) n s1
theorem le_sum_Check_L1 n x1 p_sums s1:Le0 (sum_Check_L1' n x1 p_sums s1) (sum_Check_L1 x1 p_sums s1):=Le0.loop (fun s=>le_sum_Check_B1 n x1 p_sums s) n s1
def sum_Check' (n:Nat) (p_data:List UInt8) (p_sums:List Int):Option Int:=(sum_Blocks' n p_data).bind fun x1=>sum_Check_L1' n x1 p_sums 0
theorem le_sum_Check n p_data p_sums:Le0 (sum_Check' n p_data p_sums) (sum_Check p_data p_sums):=by
 unfold sum_Check' sum_Check
 with_reducible repeat' first | apply le_sum_Blocks | apply le_sum_Check_L1 | refine B0 ?_ fun _=>?_ | apply I0 | apply K0 | apply O0 | exact R0
def chunk_may' (n:Nat) (p_c:api_Copy):Option Bool:=((chunk_within p_c.Id).bind fun x1=>(if x1 then some (decide (p_c.Ver≥0)) else some false).bind fun c1=>(if c1 then some (decide (p_c.Ver≤1099511627776)) else some false).bind fun c2=>(if c2 then some (decide ((p_c.Data.length:Int)≤64)) else some false).bind fun c3=>(if c3 then (sum_Check' n p_c.Data p_c.Sums).bind fun x2=>some (x2 == (-1)) else some false).bind fun c4=>some c4).bind fun v1=>some v1
theorem le_chunk_may n p_c:Le0 (chunk_may' n p_c) (chunk_may p_c):=by
 unfold chunk_may' chunk_may
 with_reducible repeat' first | apply le_sum_Check | refine B0 ?_ fun _=>?_ | apply I0 | apply K0 | apply O0 | exact R0
def pack_Int_B1' (_n:Nat) (s1:Int×(List UInt8)):Option ((Int×(List UInt8))⊕(Int×(List UInt8))):=if (decide (s1.1≥128)) then chk ((s1.2.length+([((toU8 s1.1) ||| (128:UInt8))]).length) * 1≤140737488355328) (some (.inl ((shrK .u64 s1.1 7),(s1.2++[((toU8 s1.1) ||| (128:UInt8))])))) else out (some (s1.1,s1.2))
theorem le_pack_Int_B1 n s1:Le0 (pack_Int_B1' n s1) (pack_Int_B1 s1):=by
 unfold pack_Int_B1' pack_Int_B1
 with_reducible repeat' first | refine B0 ?_ fun _=>?_ | apply I0 | apply K0 | apply O0 | exact R0
def pack_Int_L1' (n:Nat) (s1:Int×(List UInt8)):Option (Int×(List UInt8)):=loopN (pack_Int_B1' n ) n s1
theorem le_pack_Int_L1 n s1:Le0 (pack_Int_L1' n s1) (pack_Int_L1 s1):=Le0.loop (fun s=>le_pack_Int_B1 n  s) n s1
def pack_Int' (n:Nat) (p_n:Int):Option (List UInt8):=(pack_Int_L1' n ((xorK .u64 (shlK .u64 (IntKind.u64.wrap p_n) 1) (IntKind.u64.wrap (shrK .i64 p_n 63))),[])).bind fun v1=>chk ((v1.2.length+([(toU8 v1.1)]).length) * 1≤140737488355328) (some (v1.2++[(toU8 v1.1)]))
theorem le_pack_Int n p_n:Le0 (pack_Int' n p_n) (pack_Int p_n):=by
 unfold pack_Int' pack_Int
 with_reducible repeat' first | apply le_pack_Int_L1 | refine B0 ?_ fun _=>?_ | apply I0 | apply K0 | apply O0 | exact R0
def pack_Str' (n:Nat) (p_s:List UInt8):Option (List UInt8):=(pack_Int' n (p_s.length:Int)).bind fun x1=>chk ((x1.length+p_s.length) * 1≤140737488355328) (some (x1++p_s))
theorem le_pack_Str n p_s:Le0 (pack_Str' n p_s) (pack_Str p_s):=by
 unfold pack_Str' pack_Str
 with_reducible repeat' first | apply le_pack_Int | refine B0 ?_ fun _=>?_ | apply I0 | apply K0 | apply O0 | exact R0
def pack_numbers_B1' (n:Nat) (p_l:List Int) (s1:Int×(List UInt8)):Option ((Int×(List UInt8))⊕(List UInt8)):=if (decide (s1.1 < (p_l.length:Int))) then (idx p_l s1.1).bind fun x1=>(pack_Int' n x1).bind fun x2=>chk ((s1.2.length+x2.length) * 1≤140737488355328) (chk (InI64 (s1.1+1)) (some (.inl ((s1.1+1),(s1.2++x2))))) else out (some s1.2)
theorem le_pack_numbers_B1 n p_l s1:Le0 (pack_numbers_B1' n p_l s1) (pack_numbers_B1 p_l s1):=by
 unfold pack_numbers_B1' pack_numbers_B1
 with_reducible repeat' first | apply le_pack_Int | refine B0 ?_ fun _=>?_ | apply I0 | apply K0 | apply O0 | exact R0
def pack_numbers_L1' (n:Nat) (p_l:List Int) (s1:Int×(List UInt8)):Option (List UInt8):=loopN (pack_numbers_B1' n p_l) n s1
theorem le_pack_numbers_L1 n p_l s1:Le0 (pack_numbers_L1' n p_l s1) (pack_numbers_L1 p_l s1):=Le0.loop (fun s=>le_pack_numbers_B1 n p_l s) n s1
def pack_numbers' (n:Nat) (p_l:List Int):Option (List UInt8):=(pack_numbers_L1' n p_l (0,[])).bind fun v1=>some v1
theorem le_pack_numbers n p_l:Le0 (pack_numbers' n p_l) (pack_numbers p_l):=by
 unfold pack_numbers' pack_numbers
 with_reducible repeat' first | apply le_pack_numbers_L1 | refine B0 ?_ fun _=>?_ | apply I0 | apply K0 | apply O0 | exact R0
def pack_Ints' (n:Nat) (p_l:List Int):Option (List UInt8):=(pack_Int' n (p_l.length:Int)).bind fun x1=>(pack_numbers' n p_l).bind fun x2=>chk ((x1.length+x2.length) * 1≤140737488355328) (some (x1++x2))
theorem le_pack_Ints n p_l:Le0 (pack_Ints' n p_l) (pack_Ints p_l):=by
 unfold pack_Ints' pack_Ints
 with_reducible repeat' first | apply le_pack_Int | apply le_pack_numbers | refine B0 ?_ fun _=>?_ | apply I0 | apply K0 | apply O0 | exact R0
def slices_Concat_byte_byte_B1' (_n:Nat) (p_slices:List (List UInt8)) (s1:Int×Int):Option ((Int×Int)⊕Int):=if (decide (s1.2 < (p_slices.length:Int))) then ((idx p_slices s1.2).bind fun x1=>chk (InI64 (s1.1+(x1.length:Int))) (if (decide ((s1.1+(x1.length:Int)) < 0)) then none else some (s1.1+(x1.length:Int)))).bind fun v2=>chk (InI64 (s1.2+1)) (some (.inl (v2,(s1.2+1)))) else out (some s1.1)
theorem le_slices_Concat_byte_byte_B1 n p_slices s1:Le0 (slices_Concat_byte_byte_B1' n p_slices s1) (slices_Concat_byte_byte_B1 p_slices s1):=by
 unfold slices_Concat_byte_byte_B1' slices_Concat_byte_byte_B1
 with_reducible repeat' first | refine B0 ?_ fun _=>?_ | apply I0 | apply K0 | apply O0 | exact R0
def slices_Concat_byte_byte_L1' (n:Nat) (p_slices:List (List UInt8)) (s1:Int×Int):Option Int:=loopN (slices_Concat_byte_byte_B1' n p_slices) n s1
theorem le_slices_Concat_byte_byte_L1 n p_slices s1:Le0 (slices_Concat_byte_byte_L1' n p_slices s1) (slices_Concat_byte_byte_L1 p_slices s1):=Le0.loop (fun s=>le_slices_Concat_byte_byte_B1 n p_slices s) n s1
def slices_Concat_byte_byte_B2' (_n:Nat) (p_slices:List (List UInt8)) (s2:Int×(List UInt8)):Option ((Int×(List UInt8))⊕(List UInt8)):=if (decide (s2.1 < (p_slices.length:Int))) then (idx p_slices s2.1).bind fun x3=>chk ((s2.2.length+x3.length) * 1≤140737488355328) (chk (InI64 (s2.1+1)) (some (.inl ((s2.1+1),(s2.2++x3))))) else out (some s2.2)
theorem le_slices_Concat_byte_byte_B2 n p_slices s2:Le0 (slices_Concat_byte_byte_B2' n p_slices s2) (slices_Concat_byte_byte_B2 p_slices s2):=by
 unfold slices_Concat_byte_byte_B2' slices_Concat_byte_byte_B2
 with_reducible repeat' first | refine B0 ?_ fun _=>?_ | apply I0 | apply K0 | apply O0 | exact R0
def slices_Concat_byte_byte_L2' (n:Nat) (p_slices:List (List UInt8)) (s2:Int×(List UInt8)):Option (List UInt8):=loopN (slices_Concat_byte_byte_B2' n p_slices) n s2
theorem le_slices_Concat_byte_byte_L2 n p_slices s2:Le0 (slices_Concat_byte_byte_L2' n p_slices s2) (slices_Concat_byte_byte_L2 p_slices s2):=Le0.loop (fun s=>le_slices_Concat_byte_byte_B2 n p_slices s) n s2
def slices_Concat_byte_byte' (n:Nat) (p_slices:List (List UInt8)):Option (List UInt8):=(slices_Concat_byte_byte_L1' n p_slices (0,0)).bind fun v1=>(slices_Grow_byte_byte__nil v1).bind fun x2=>(slices_Concat_byte_byte_L2' n p_slices (0,x2)).bind fun v3=>some v3
theorem le_slices_Concat_byte_byte n p_slices:Le0 (slices_Concat_byte_byte' n p_slices) (slices_Concat_byte_byte p_slices):=by
 unfold slices_Concat_byte_byte' slices_Concat_byte_byte
 with_reducible repeat' first | apply le_slices_Concat_byte_byte_L1 | apply le_slices_Concat_byte_byte_L2 | refine B0 ?_ fun _=>?_ | apply I0 | apply K0 | apply O0 | exact R0
def sum_Of' (n:Nat) (p_b:List UInt8):Option Int:=(sum_half' n).bind fun x1=>(sum_of' n x1 p_b).bind fun x2=>some x2
theorem le_sum_Of n p_b:Le0 (sum_Of' n p_b) (sum_Of p_b):=by
 unfold sum_Of' sum_Of
 with_reducible repeat' first | apply le_sum_half | apply le_sum_of | refine B0 ?_ fun _=>?_ | apply I0 | apply K0 | apply O0 | exact R0
def chunk_page_B1' (_n:Nat) (x6:Int) (s1:Int×(List UInt8)):Option ((Int×(List UInt8))⊕(List UInt8)):=if (decide (s1.1 < 4)) then chk (InI64 (8 * s1.1)) (chk ((0:Int)≤(8 * s1.1)) (chk ((s1.2.length+([(toU8 (shrK .i64 x6 (8 * s1.1)))]).length) * 1≤140737488355328) (chk (InI64 (s1.1+1)) (some (.inl ((s1.1+1),(s1.2++[(toU8 (shrK .i64 x6 (8 * s1.1)))]))))))) else out (some s1.2)
theorem le_chunk_page_B1 n x6 s1:Le0 (chunk_page_B1' n x6 s1) (chunk_page_B1 x6 s1):=by
 unfold chunk_page_B1' chunk_page_B1
 with_reducible repeat' first | refine B0 ?_ fun _=>?_ | apply I0 | apply K0 | apply O0 | exact R0
def chunk_page_L1' (n:Nat) (x6:Int) (s1:Int×(List UInt8)):Option (List UInt8):=loopN (chunk_page_B1' n x6) n s1
theorem le_chunk_page_L1 n x6 s1:Le0 (chunk_page_L1' n x6 s1) (chunk_page_L1 x6 s1):=Le0.loop (fun s=>le_chunk_page_B1 n x6 s) n s1
def chunk_page' (n:Nat) (p_c:api_Copy):Option (List UInt8):=(pack_Int' n p_c.Id).bind fun x1=>(pack_Int' n p_c.Ver).bind fun x2=>(pack_Str' n p_c.Data).bind fun x3=>(pack_Ints' n p_c.Sums).bind fun x4=>(slices_Concat_byte_byte' n ([x1,x2,x3,x4])).bind fun x5=>(sum_Of' n x5).bind fun x6=>(chunk_page_L1' n x6 (0,x5)).bind fun v1=>some v1
theorem le_chunk_page n p_c:Le0 (chunk_page' n p_c) (chunk_page p_c):=by
 unfold chunk_page' chunk_page
 with_reducible repeat' first | apply le_pack_Int | apply le_pack_Str | apply le_pack_Ints | apply le_slices_Concat_byte_byte | apply le_sum_Of | apply le_chunk_page_L1 | refine B0 ?_ fun _=>?_ | apply I0 | apply K0 | apply O0 | exact R0
def slices_Clone_api_Page_api_Page' (_n:Nat) (p_s:List api_Page):Option (List api_Page):=chk (p_s.length * 32≤140737488355328) (some p_s)
theorem eq_slices_Clone_api_Page_api_Page (p_s:List api_Page) (h:p_s.length * 32≤140737488355328):slices_Clone_api_Page_api_Page p_s=some p_s:=by
 unfold slices_Clone_api_Page_api_Page
 refine Le0.clone fun b hb=>?_
 cases b with
 | true=>rw [hb rfl]; rfl
 | false =>
  rw [if_neg (by decide)]
  show chk _ _=_
  unfold chk
  rw [if_pos (by simpa using h)]; rfl
theorem le_slices_Clone_api_Page_api_Page n p_s:Le0 (slices_Clone_api_Page_api_Page' n p_s) (slices_Clone_api_Page_api_Page p_s):=fun r hr=>by
 obtain ⟨h1,h2⟩:=chk_some hr
 cases h2
 exact eq_slices_Clone_api_Page_api_Page _ h1
def bytes_Clone' (_n:Nat) (p_b:List UInt8):Option (List UInt8):=chk (p_b.length * 1≤140737488355328) (some p_b)
theorem eq_bytes_Clone (p_b:List UInt8) (h:p_b.length * 1≤140737488355328):bytes_Clone p_b=some p_b:=by
 unfold bytes_Clone
 refine Le0.clone fun b hb=>?_
 cases b with
 | true=>rw [hb rfl]; rfl
 | false =>
  rw [if_neg (by decide)]
  show chk _ _=_
  unfold chk
  rw [if_pos (by simpa using h)]; rfl
theorem le_bytes_Clone n p_b:Le0 (bytes_Clone' n p_b) (bytes_Clone p_b):=fun r hr=>by
 obtain ⟨h1,h2⟩:=chk_some hr
 cases h2
 exact eq_bytes_Clone _ h1
def disk_Write' (n:Nat) (p_d:api_Disk) (p_at:Int) (p_data:List UInt8):Option (api_Disk×Int):=if p_d.Down then some (p_d,40) else (disk_may p_at p_data).bind fun x1=>if (!x1) then some (p_d,1) else (slices_Clone_api_Page_api_Page' n p_d.Loose).bind fun x2=>(bytes_Clone' n p_data).bind fun x3=>chk ((x2.length+([(⟨p_at,x3⟩:api_Page)]).length) * 32≤140737488355328) (some ((⟨p_d.Synced,(x2++[(⟨p_at,x3⟩:api_Page)]),p_d.Down⟩:api_Disk),0))
theorem le_disk_Write n p_d p_at p_data:Le0 (disk_Write' n p_d p_at p_data) (disk_Write p_d p_at p_data):=by
 unfold disk_Write' disk_Write
 with_reducible repeat' first | apply le_slices_Clone_api_Page_api_Page | apply le_bytes_Clone | refine B0 ?_ fun _=>?_ | apply I0 | apply K0 | apply O0 | exact R0
def chunk_Put' (n:Nat) (p_d:api_Disk) (p_c:api_Copy):Option (api_Disk×Int):=(chunk_may' n p_c).bind fun x1=>if (!x1) then some (p_d,1) else (chunk_page' n p_c).bind fun x2=>(disk_Write' n p_d p_c.Id x2).bind fun x3=>some (x3.1,x3.2)
theorem le_chunk_Put n p_d p_c:Le0 (chunk_Put' n p_d p_c) (chunk_Put p_d p_c):=by
 unfold chunk_Put' chunk_Put
 with_reducible repeat' first | apply le_chunk_may | apply le_chunk_page | apply le_disk_Write | refine B0 ?_ fun _=>?_ | apply I0 | apply K0 | apply O0 | exact R0
def slices_Concat_api_Page_api_Page_B1' (_n:Nat) (p_slices:List (List api_Page)) (s1:Int×Int):Option ((Int×Int)⊕Int):=if (decide (s1.2 < (p_slices.length:Int))) then ((idx p_slices s1.2).bind fun x1=>chk (InI64 (s1.1+(x1.length:Int))) (if (decide ((s1.1+(x1.length:Int)) < 0)) then none else some (s1.1+(x1.length:Int)))).bind fun v2=>chk (InI64 (s1.2+1)) (some (.inl (v2,(s1.2+1)))) else out (some s1.1)
theorem le_slices_Concat_api_Page_api_Page_B1 n p_slices s1:Le0 (slices_Concat_api_Page_api_Page_B1' n p_slices s1) (slices_Concat_api_Page_api_Page_B1 p_slices s1):=by
 unfold slices_Concat_api_Page_api_Page_B1' slices_Concat_api_Page_api_Page_B1
 with_reducible repeat' first | refine B0 ?_ fun _=>?_ | apply I0 | apply K0 | apply O0 | exact R0
def slices_Concat_api_Page_api_Page_L1' (n:Nat) (p_slices:List (List api_Page)) (s1:Int×Int):Option Int:=loopN (slices_Concat_api_Page_api_Page_B1' n p_slices) n s1
theorem le_slices_Concat_api_Page_api_Page_L1 n p_slices s1:Le0 (slices_Concat_api_Page_api_Page_L1' n p_slices s1) (slices_Concat_api_Page_api_Page_L1 p_slices s1):=Le0.loop (fun s=>le_slices_Concat_api_Page_api_Page_B1 n p_slices s) n s1
def slices_Concat_api_Page_api_Page_B2' (_n:Nat) (p_slices:List (List api_Page)) (s2:Int×(List api_Page)):Option ((Int×(List api_Page))⊕(List api_Page)):=if (decide (s2.1 < (p_slices.length:Int))) then (idx p_slices s2.1).bind fun x3=>chk ((s2.2.length+x3.length) * 32≤140737488355328) (chk (InI64 (s2.1+1)) (some (.inl ((s2.1+1),(s2.2++x3))))) else out (some s2.2)
theorem le_slices_Concat_api_Page_api_Page_B2 n p_slices s2:Le0 (slices_Concat_api_Page_api_Page_B2' n p_slices s2) (slices_Concat_api_Page_api_Page_B2 p_slices s2):=by
 unfold slices_Concat_api_Page_api_Page_B2' slices_Concat_api_Page_api_Page_B2
 with_reducible repeat' first | refine B0 ?_ fun _=>?_ | apply I0 | apply K0 | apply O0 | exact R0
def slices_Concat_api_Page_api_Page_L2' (n:Nat) (p_slices:List (List api_Page)) (s2:Int×(List api_Page)):Option (List api_Page):=loopN (slices_Concat_api_Page_api_Page_B2' n p_slices) n s2
theorem le_slices_Concat_api_Page_api_Page_L2 n p_slices s2:Le0 (slices_Concat_api_Page_api_Page_L2' n p_slices s2) (slices_Concat_api_Page_api_Page_L2 p_slices s2):=Le0.loop (fun s=>le_slices_Concat_api_Page_api_Page_B2 n p_slices s) n s2
def slices_Concat_api_Page_api_Page' (n:Nat) (p_slices:List (List api_Page)):Option (List api_Page):=(slices_Concat_api_Page_api_Page_L1' n p_slices (0,0)).bind fun v1=>(slices_Grow_api_Page_api_Page__nil v1).bind fun x2=>(slices_Concat_api_Page_api_Page_L2' n p_slices (0,x2)).bind fun v3=>some v3
theorem le_slices_Concat_api_Page_api_Page n p_slices:Le0 (slices_Concat_api_Page_api_Page' n p_slices) (slices_Concat_api_Page_api_Page p_slices):=by
 unfold slices_Concat_api_Page_api_Page' slices_Concat_api_Page_api_Page
 with_reducible repeat' first | apply le_slices_Concat_api_Page_api_Page_L1 | apply le_slices_Concat_api_Page_api_Page_L2 | refine B0 ?_ fun _=>?_ | apply I0 | apply K0 | apply O0 | exact R0
def disk_laid_B1' (_n:Nat) (x1:(List api_Page)) (s1:Int×(List (Int×api_Page))):Option ((Int×(List (Int×api_Page)))⊕(List (Int×api_Page))):=if (decide (s1.1 < (x1.length:Int))) then (idx x1 s1.1).bind fun x2=>chk (InI64 x2.At∧s1.2.length < 140737488355328) (chk (InI64 (s1.1+1)) (some (.inl ((s1.1+1),(mset x2.At x2 s1.2))))) else out (some s1.2)
theorem le_disk_laid_B1 n x1 s1:Le0 (disk_laid_B1' n x1 s1) (disk_laid_B1 x1 s1):=by
 unfold disk_laid_B1' disk_laid_B1
 with_reducible repeat' first | refine B0 ?_ fun _=>?_ | apply I0 | apply K0 | apply O0 | exact R0
def disk_laid_L1' (n:Nat) (x1:(List api_Page)) (s1:Int×(List (Int×api_Page))):Option (List (Int×api_Page)):=loopN (disk_laid_B1' n x1) n s1
theorem le_disk_laid_L1 n x1 s1:Le0 (disk_laid_L1' n x1 s1) (disk_laid_L1 x1 s1):=Le0.loop (fun s=>le_disk_laid_B1 n x1 s) n s1
def disk_laid_B2' (_n:Nat) (x3:List Int) (v1:(List (Int×api_Page))) (s2:Int×(List api_Page)):Option ((Int×(List api_Page))⊕(List api_Page)):=if (decide (s2.1 < (x3.length:Int))) then (idx x3 s2.1).bind fun x4=>(some ((mget x4 v1).getD ((⟨0,[]⟩:api_Page):api_Page))).bind fun x5=>chk ((s2.2.length+([x5]).length) * 32≤140737488355328) (chk (InI64 (s2.1+1)) (some (.inl ((s2.1+1),(s2.2++[x5]))))) else out (some s2.2)
theorem le_disk_laid_B2 n x3 v1 s2:Le0 (disk_laid_B2' n x3 v1 s2) (disk_laid_B2 x3 v1 s2):=by
 unfold disk_laid_B2' disk_laid_B2
 with_reducible repeat' first | refine B0 ?_ fun _=>?_ | apply I0 | apply K0 | apply O0 | exact R0
def disk_laid_L2' (n:Nat) (x3:List Int) (v1:(List (Int×api_Page))) (s2:Int×(List api_Page)):Option (List api_Page):=loopN (disk_laid_B2' n x3 v1) n s2
theorem le_disk_laid_L2 n x3 v1 s2:Le0 (disk_laid_L2' n x3 v1 s2) (disk_laid_L2 x3 v1 s2):=Le0.loop (fun s=>le_disk_laid_B2 n x3 v1 s) n s2
def disk_laid' (n:Nat) (p_l:List api_Page) (p_over:List api_Page):Option (List api_Page):=((slices_Concat_api_Page_api_Page' n ([p_l,p_over])).bind fun x1=>disk_laid_L1' n x1 (0,([]:List (Int×api_Page)))).bind fun v1=>(chk (v1.length * 8≤140737488355328) ((some (keysJ v1)).bind fun x3=>disk_laid_L2' n x3 v1 (0,[]))).bind fun v2=>some v2
theorem le_disk_laid n p_l p_over:Le0 (disk_laid' n p_l p_over) (disk_laid p_l p_over):=by
 unfold disk_laid' disk_laid
 simp only [keysJ_eq,sortJ_eq]
 with_reducible repeat' first | apply le_slices_Concat_api_Page_api_Page | apply le_disk_laid_L1 | apply le_disk_laid_L2 | refine B0 ?_ fun _=>?_ | apply I0 | apply K0 | apply O0 | exact R0
def disk_Sync' (n:Nat) (p_d:api_Disk):Option (api_Disk×Int):=if p_d.Down then some (p_d,40) else (disk_laid' n p_d.Synced p_d.Loose).bind fun x1=>some ((⟨x1,[],false⟩:api_Disk),0)
theorem le_disk_Sync n p_d:Le0 (disk_Sync' n p_d) (disk_Sync p_d):=by
 unfold disk_Sync' disk_Sync
 with_reducible repeat' first | apply le_disk_laid | refine B0 ?_ fun _=>?_ | apply I0 | apply K0 | apply O0 | exact R0
def chain_laying_1' (n:Nat) (p_server:Int) (p_h1:List api_Disk) (p_b2:api_Chain) (p_b3:List UInt8):Option (List api_Disk):=(idx p_h1 p_server).bind fun x1=>(chunk_New' n p_b2.Id p_b2.Ver p_b3).bind fun x2=>(chunk_Put' n x1 x2).bind fun x3=>(disk_Sync' n x3.1).bind fun x4=>(idx p_h1 p_server).bind fun _=>some (p_h1.set p_server.toNat x4.1)
theorem le_chain_laying_1 n p_server p_h1 p_b2 p_b3:Le0 (chain_laying_1' n p_server p_h1 p_b2 p_b3) (chain_laying_1 p_server p_h1 p_b2 p_b3):=by
 unfold chain_laying_1' chain_laying_1
 with_reducible repeat' first | apply le_chunk_New | apply le_chunk_Put | apply le_disk_Sync | refine B0 ?_ fun _=>?_ | apply I0 | apply K0 | apply O0 | exact R0
def chain_Make_B1' (n:Nat) (p_servers:List Int) (p_id:Int) (x1:(List Int)) (p_data:List UInt8) (s1:Int×(List api_Disk)):Option ((Int×(List api_Disk))⊕(List api_Disk)):=if (decide (s1.1 < (p_servers.length:Int))) then (idx p_servers s1.1).bind fun x5=>(chain_laying_1' n x5 s1.2 (⟨p_id,1,x1⟩:api_Chain) p_data).bind fun x6=>chk (InI64 (s1.1+1)) (some (.inl ((s1.1+1),x6))) else out (some s1.2)
theorem le_chain_Make_B1 n p_servers p_id x1 p_data s1:Le0 (chain_Make_B1' n p_servers p_id x1 p_data s1) (chain_Make_B1 p_servers p_id x1 p_data s1):=by
 unfold chain_Make_B1' chain_Make_B1
 with_reducible repeat' first | apply le_chain_laying_1 | refine B0 ?_ fun _=>?_ | apply I0 | apply K0 | apply O0 | exact R0
def chain_Make_L1' (n:Nat) (p_servers:List Int) (p_id:Int) (x1:(List Int)) (p_data:List UInt8) (s1:Int×(List api_Disk)):Option (List api_Disk):=loopN (chain_Make_B1' n p_servers p_id x1 p_data) n s1
theorem le_chain_Make_L1 n p_servers p_id x1 p_data s1:Le0 (chain_Make_L1' n p_servers p_id x1 p_data s1) (chain_Make_L1 p_servers p_id x1 p_data s1):=Le0.loop (fun s=>le_chain_Make_B1 n p_servers p_id x1 p_data s) n s1
def chain_Make' (n:Nat) (p_id:Int) (p_servers:List Int) (p_disks:List api_Disk) (p_data:List UInt8):Option (api_Chain×(List api_Disk)×Int):=(slices_Clone_int_int' n p_servers).bind fun x1=>((chain_Right' n (⟨p_id,1,x1⟩:api_Chain) p_disks).bind fun x2=>(if (!x2) then some true else some (decide ((p_data.length:Int) > 64))).bind fun c1=>some c1).bind fun v1=>if v1 then some ((⟨0,0,[]⟩:api_Chain),p_disks,1) else (slices_ContainsFunc_int_int__chain_Make_1' n p_servers p_disks).bind fun x3=>if x3 then some ((⟨0,0,[]⟩:api_Chain),p_disks,40) else (chain_laying' n (⟨p_id,1,x1⟩:api_Chain) p_disks p_data).bind fun x4=>(chain_Make_L1' n p_servers p_id x1 p_data (0,x4)).bind fun v2=>some ((⟨p_id,1,x1⟩:api_Chain),v2,0)
theorem le_chain_Make n p_id p_servers p_disks p_data:Le0 (chain_Make' n p_id p_servers p_disks p_data) (chain_Make p_id p_servers p_disks p_data):=by
 unfold chain_Make' chain_Make
 with_reducible repeat' first | apply le_slices_Clone_int_int | apply le_chain_Right | apply le_slices_ContainsFunc_int_int__chain_Make_1 | apply le_chain_laying | apply le_chain_Make_L1 | refine B0 ?_ fun _=>?_ | apply I0 | apply K0 | apply O0 | exact R0
def chain_Write_B1' (n:Nat) (p_c:api_Chain) (p_upto:Int) (p_data:List UInt8) (s1:Int×(List api_Disk)):Option ((Int×(List api_Disk))⊕((List api_Disk)×Bool)):=if (decide (s1.1 < (p_c.Servers.length:Int))) then (idx p_c.Servers s1.1).bind fun x2=>((if (decide (s1.1≥p_upto)) then some true else (idx s1.2 x2).bind fun x3=>some x3.Down).bind fun c1=>some c1).bind fun v2=>if v2 then out (some (s1.2,false)) else (chain_laying_1' n x2 s1.2 p_c p_data).bind fun x4=>chk (InI64 (s1.1+1)) (some (.inl ((s1.1+1),x4))) else out (chain_Write_J1 s1.2)
theorem le_chain_Write_B1 n p_c p_upto p_data s1:Le0 (chain_Write_B1' n p_c p_upto p_data s1) (chain_Write_B1 p_c p_upto p_data s1):=by
 unfold chain_Write_B1' chain_Write_B1
 with_reducible repeat' first | apply le_chain_laying_1 | refine B0 ?_ fun _=>?_ | apply I0 | apply K0 | apply O0 | exact R0
def chain_Write_L1' (n:Nat) (p_c:api_Chain) (p_upto:Int) (p_data:List UInt8) (s1:Int×(List api_Disk)):Option ((List api_Disk)×Bool):=loopN (chain_Write_B1' n p_c p_upto p_data) n s1
theorem le_chain_Write_L1 n p_c p_upto p_data s1:Le0 (chain_Write_L1' n p_c p_upto p_data s1) (chain_Write_L1 p_c p_upto p_data s1):=Le0.loop (fun s=>le_chain_Write_B1 n p_c p_upto p_data s) n s1
def chain_Write' (n:Nat) (p_c:api_Chain) (p_disks:List api_Disk) (p_data:List UInt8) (p_upto:Int):Option ((List api_Disk)×Bool):=if (decide ((p_data.length:Int) > 64)) then some (p_disks,false) else (chain_laying' n p_c p_disks p_data).bind fun x1=>chain_Write_L1' n p_c p_upto p_data (0,x1)
theorem le_chain_Write n p_c p_disks p_data p_upto:Le0 (chain_Write' n p_c p_disks p_data p_upto) (chain_Write p_c p_disks p_data p_upto):=by
 unfold chain_Write' chain_Write
 with_reducible repeat' first | apply le_chain_laying | apply le_chain_Write_L1 | refine B0 ?_ fun _=>?_ | apply I0 | apply K0 | apply O0 | exact R0
def slices_Reverse_api_Page_api_Page_B1' (_n:Nat) (s1:Int×Int×(List api_Page)):Option ((Int×Int×(List api_Page))⊕(Unit×List api_Page)):=if (decide (s1.1 < s1.2.1)) then (idx s1.2.2 s1.2.1).bind fun x1=>(idx s1.2.2 s1.1).bind fun x2=>(idx s1.2.2 s1.1).bind fun _=>(idx (s1.2.2.set s1.1.toNat x1) s1.2.1).bind fun _=>chk (InI64 (s1.1+1)) (chk (InI64 (s1.2.1 - 1)) (some (.inl ((s1.1+1),(s1.2.1 - 1),((s1.2.2.set s1.1.toNat x1).set s1.2.1.toNat x2))))) else out (some ((),s1.2.2))
theorem le_slices_Reverse_api_Page_api_Page_B1 n s1:Le0 (slices_Reverse_api_Page_api_Page_B1' n s1) (slices_Reverse_api_Page_api_Page_B1 s1):=by
 unfold slices_Reverse_api_Page_api_Page_B1' slices_Reverse_api_Page_api_Page_B1
 with_reducible repeat' first | refine B0 ?_ fun _=>?_ | apply I0 | apply K0 | apply O0 | exact R0
def slices_Reverse_api_Page_api_Page_L1' (n:Nat) (s1:Int×Int×(List api_Page)):Option (Unit×List api_Page):=loopN (slices_Reverse_api_Page_api_Page_B1' n ) n s1
theorem le_slices_Reverse_api_Page_api_Page_L1 n s1:Le0 (slices_Reverse_api_Page_api_Page_L1' n s1) (slices_Reverse_api_Page_api_Page_L1 s1):=Le0.loop (fun s=>le_slices_Reverse_api_Page_api_Page_B1 n  s) n s1
def slices_Reverse_api_Page_api_Page' (n:Nat) (self:List api_Page):Option (Unit×List api_Page):=chk (InI64 ((self.length:Int) - 1)) (slices_Reverse_api_Page_api_Page_L1' n (0,((self.length:Int) - 1),self))
theorem le_slices_Reverse_api_Page_api_Page n self:Le0 (slices_Reverse_api_Page_api_Page' n self) (slices_Reverse_api_Page_api_Page self):=by
 unfold slices_Reverse_api_Page_api_Page' slices_Reverse_api_Page_api_Page
 with_reducible repeat' first | apply le_slices_Reverse_api_Page_api_Page_L1 | refine B0 ?_ fun _=>?_ | apply I0 | apply K0 | apply O0 | exact R0
def slices_IndexFunc_api_Page_api_Page__disk_Read_1_B1' (_n:Nat) (p_s:List api_Page) (p_f_c0_0:Int) (s1:Int):Option ((Int)⊕Int):=if (decide (s1 < (p_s.length:Int))) then (idx p_s s1).bind fun x1=>(disk_Read_1 x1 p_f_c0_0).bind fun x2=>if x2 then out (some s1) else chk (InI64 (s1+1)) (some (.inl (s1+1))) else out (slices_IndexFunc_api_Page_api_Page__disk_Read_1_J1 ())
theorem le_slices_IndexFunc_api_Page_api_Page__disk_Read_1_B1 n p_s p_f_c0_0 s1:Le0 (slices_IndexFunc_api_Page_api_Page__disk_Read_1_B1' n p_s p_f_c0_0 s1) (slices_IndexFunc_api_Page_api_Page__disk_Read_1_B1 p_s p_f_c0_0 s1):=by
 unfold slices_IndexFunc_api_Page_api_Page__disk_Read_1_B1' slices_IndexFunc_api_Page_api_Page__disk_Read_1_B1
 with_reducible repeat' first | refine B0 ?_ fun _=>?_ | apply I0 | apply K0 | apply O0 | exact R0
def slices_IndexFunc_api_Page_api_Page__disk_Read_1_L1' (n:Nat) (p_s:List api_Page) (p_f_c0_0:Int) (s1:Int):Option Int:=loopN (slices_IndexFunc_api_Page_api_Page__disk_Read_1_B1' n p_s p_f_c0_0) n s1
theorem le_slices_IndexFunc_api_Page_api_Page__disk_Read_1_L1 n p_s p_f_c0_0 s1:Le0 (slices_IndexFunc_api_Page_api_Page__disk_Read_1_L1' n p_s p_f_c0_0 s1) (slices_IndexFunc_api_Page_api_Page__disk_Read_1_L1 p_s p_f_c0_0 s1):=Le0.loop (fun s=>le_slices_IndexFunc_api_Page_api_Page__disk_Read_1_B1 n p_s p_f_c0_0 s) n s1
def slices_IndexFunc_api_Page_api_Page__disk_Read_1' (n:Nat) (p_s:List api_Page) (p_f_c0_0:Int):Option Int:=slices_IndexFunc_api_Page_api_Page__disk_Read_1_L1' n p_s p_f_c0_0 0
theorem le_slices_IndexFunc_api_Page_api_Page__disk_Read_1 n p_s p_f_c0_0:Le0 (slices_IndexFunc_api_Page_api_Page__disk_Read_1' n p_s p_f_c0_0) (slices_IndexFunc_api_Page_api_Page__disk_Read_1 p_s p_f_c0_0):=by
 unfold slices_IndexFunc_api_Page_api_Page__disk_Read_1' slices_IndexFunc_api_Page_api_Page__disk_Read_1
 with_reducible repeat' first | apply le_slices_IndexFunc_api_Page_api_Page__disk_Read_1_L1 | refine B0 ?_ fun _=>?_ | apply I0 | apply K0 | apply O0 | exact R0
def disk_find_api_Page__disk_Read_1' (n:Nat) (p_l:List api_Page) (p_is_c0:Int):Option Int:=(slices_IndexFunc_api_Page_api_Page__disk_Read_1' n p_l p_is_c0).bind fun x1=>some x1
theorem le_disk_find_api_Page__disk_Read_1 n p_l p_is_c0:Le0 (disk_find_api_Page__disk_Read_1' n p_l p_is_c0) (disk_find_api_Page__disk_Read_1 p_l p_is_c0):=by
 unfold disk_find_api_Page__disk_Read_1' disk_find_api_Page__disk_Read_1
 with_reducible repeat' first | apply le_slices_IndexFunc_api_Page_api_Page__disk_Read_1 | refine B0 ?_ fun _=>?_ | apply I0 | apply K0 | apply O0 | exact R0
def disk_Read' (n:Nat) (p_d:api_Disk) (p_at:Int):Option ((List UInt8)×Int):=if p_d.Down then some ([],40) else (disk_may p_at ([])).bind fun x1=>if (!x1) then some ([],1) else (slices_Concat_api_Page_api_Page' n ([p_d.Synced,p_d.Loose])).bind fun x2=>(slices_Reverse_api_Page_api_Page' n x2).bind fun x3=>(disk_find_api_Page__disk_Read_1' n x3.2 p_at).bind fun x4=>if (decide (x4 < 0)) then some ([],41) else (idx x3.2 x4).bind fun x5=>(bytes_Clone' n x5.Data).bind fun x6=>some (x6,0)
theorem le_disk_Read n p_d p_at:Le0 (disk_Read' n p_d p_at) (disk_Read p_d p_at):=by
 unfold disk_Read' disk_Read
 with_reducible repeat' first | apply le_slices_Concat_api_Page_api_Page | apply le_slices_Reverse_api_Page_api_Page | apply le_disk_find_api_Page__disk_Read_1 | apply le_bytes_Clone | refine B0 ?_ fun _=>?_ | apply I0 | apply K0 | apply O0 | exact R0
def chunk_there' (n:Nat) (p_d:api_Disk) (p_id:Int):Option ((List UInt8)×Int):=(chunk_within p_id).bind fun x1=>if (!x1) then some ([],1) else (disk_Read' n p_d p_id).bind fun x2=>((if (x2.2 == 0) then some ((x2.1.length:Int) == 0) else some false).bind fun c1=>some c1).bind fun v1=>if v1 then some ([],41) else some (x2.1,x2.2)
theorem le_chunk_there n p_d p_id:Le0 (chunk_there' n p_d p_id) (chunk_there p_d p_id):=by
 unfold chunk_there' chunk_there
 with_reducible repeat' first | apply le_disk_Read | refine B0 ?_ fun _=>?_ | apply I0 | apply K0 | apply O0 | exact R0
def pack_ReadInt_B1' (_n:Nat) (p_b:List UInt8) (s1:Int×Int):Option ((Int×Int)⊕(Int×(List UInt8)×Int)):=if (decide (s1.2 < (p_b.length:Int))) then (idx p_b s1.2).bind fun x1=>((if (s1.2 == 9) then some (decide ((x1.toNat:Int) > 1)) else some false).bind fun c1=>some c1).bind fun v2=>if v2 then out (some (0,[],11)) else chk (InI64 (7 * s1.2)) (chk ((0:Int)≤(7 * s1.2)) (if (decide ((x1.toNat:Int)≥128)) then chk (InI64 (s1.2+1)) (some (.inl ((orK .u64 s1.1 (shlK .u64 ((x1 &&& (127:UInt8)).toNat:Int) (7 * s1.2))),(s1.2+1)))) else ((if ((x1.toNat:Int) == 0) then some (decide (s1.2 > 0)) else some false).bind fun c2=>some c2).bind fun v3=>if v3 then out (some (0,[],11)) else chk (InI64 (0 - (IntKind.i64.wrap (andK .u64 (orK .u64 s1.1 (shlK .u64 ((x1 &&& (127:UInt8)).toNat:Int) (7 * s1.2))) 1)))) (chk (InI64 (s1.2+1)) (chk ((0:Int)≤(s1.2+1)∧(s1.2+1)≤(p_b.length:Int)) (out (some ((xorK .i64 (IntKind.i64.wrap (shrK .u64 (orK .u64 s1.1 (shlK .u64 ((x1 &&& (127:UInt8)).toNat:Int) (7 * s1.2))) 1)) (0 - (IntKind.i64.wrap (andK .u64 (orK .u64 s1.1 (shlK .u64 ((x1 &&& (127:UInt8)).toNat:Int) (7 * s1.2))) 1)))),(p_b.drop (s1.2+1).toNat),0))))))) else out (pack_ReadInt_J1 ())
theorem le_pack_ReadInt_B1 n p_b s1:Le0 (pack_ReadInt_B1' n p_b s1) (pack_ReadInt_B1 p_b s1):=by
 unfold pack_ReadInt_B1' pack_ReadInt_B1
 with_reducible repeat' first | refine B0 ?_ fun _=>?_ | apply I0 | apply K0 | apply O0 | exact R0
def pack_ReadInt_L1' (n:Nat) (p_b:List UInt8) (s1:Int×Int):Option (Int×(List UInt8)×Int):=loopN (pack_ReadInt_B1' n p_b) n s1
theorem le_pack_ReadInt_L1 n p_b s1:Le0 (pack_ReadInt_L1' n p_b s1) (pack_ReadInt_L1 p_b s1):=Le0.loop (fun s=>le_pack_ReadInt_B1 n p_b s) n s1
def pack_ReadInt' (n:Nat) (p_b:List UInt8):Option (Int×(List UInt8)×Int):=pack_ReadInt_L1' n p_b (0,0)
theorem le_pack_ReadInt n p_b:Le0 (pack_ReadInt' n p_b) (pack_ReadInt p_b):=by
 unfold pack_ReadInt' pack_ReadInt
 with_reducible repeat' first | apply le_pack_ReadInt_L1 | refine B0 ?_ fun _=>?_ | apply I0 | apply K0 | apply O0 | exact R0
def chunk_take_int__pack_ReadInt' (n:Nat) (self:chunk_reader):Option (Int×chunk_reader):=(pack_ReadInt' n self.b_).bind fun x1=>((if self.bad_ then some true else some (x1.2.2 != 0)).bind fun c1=>some c1).bind fun v1=>if v1 then some (0,(⟨self.b_,true⟩:chunk_reader)) else some (x1.1,(⟨x1.2.1,self.bad_⟩:chunk_reader))
theorem le_chunk_take_int__pack_ReadInt n self:Le0 (chunk_take_int__pack_ReadInt' n self) (chunk_take_int__pack_ReadInt self):=by
 unfold chunk_take_int__pack_ReadInt' chunk_take_int__pack_ReadInt
 with_reducible repeat' first | apply le_pack_ReadInt | refine B0 ?_ fun _=>?_ | apply I0 | apply K0 | apply O0 | exact R0
def chunk_reader_int' (n:Nat) (self:chunk_reader):Option (Int×chunk_reader):=(chunk_take_int__pack_ReadInt' n self).bind fun x1=>some (x1.1,x1.2)
theorem le_chunk_reader_int n self:Le0 (chunk_reader_int' n self) (chunk_reader_int self):=by
 unfold chunk_reader_int' chunk_reader_int
 with_reducible repeat' first | apply le_chunk_take_int__pack_ReadInt | refine B0 ?_ fun _=>?_ | apply I0 | apply K0 | apply O0 | exact R0
def pack_reader_num' (n:Nat) (self:pack_reader):Option (Int×pack_reader):=if (self.e_ != 0) then some (0,self) else (pack_ReadInt' n self.rest_.b_).bind fun x1=>some (x1.1,(⟨(⟨x1.2.1⟩:pack_rest),x1.2.2⟩:pack_reader))
theorem le_pack_reader_num n self:Le0 (pack_reader_num' n self) (pack_reader_num self):=by
 unfold pack_reader_num' pack_reader_num
 with_reducible repeat' first | apply le_pack_ReadInt | refine B0 ?_ fun _=>?_ | apply I0 | apply K0 | apply O0 | exact R0
def pack_reader_count' (n:Nat) (self:pack_reader):Option (Int×pack_reader):=(pack_reader_num' n self).bind fun x1=>if (x1.2.e_ != 0) then some (0,x1.2) else if (decide (x1.1 < 0)) then pack_reader_count_J1 x1 11 else if (decide (x1.1 > (x1.2.rest_.b_.length:Int))) then pack_reader_count_J1 x1 10 else some (x1.1,x1.2)
theorem le_pack_reader_count n self:Le0 (pack_reader_count' n self) (pack_reader_count self):=by
 unfold pack_reader_count' pack_reader_count
 with_reducible repeat' first | apply le_pack_reader_num | refine B0 ?_ fun _=>?_ | apply I0 | apply K0 | apply O0 | exact R0
def pack_reader_str' (n:Nat) (self:pack_reader):Option ((List UInt8)×pack_reader):=(pack_reader_count' n self).bind fun x1=>if (x1.2.e_ != 0) then some ([],x1.2) else (pack_rest_take x1.2 x1.1).bind fun x2=>some (x2.1,x2.2)
theorem le_pack_reader_str n self:Le0 (pack_reader_str' n self) (pack_reader_str self):=by
 unfold pack_reader_str' pack_reader_str
 with_reducible repeat' first | apply le_pack_reader_count | refine B0 ?_ fun _=>?_ | apply I0 | apply K0 | apply O0 | exact R0
def pack_ReadStr' (n:Nat) (p_b:List UInt8):Option ((List UInt8)×(List UInt8)×Int):=(pack_reader_str' n (⟨(⟨p_b⟩:pack_rest),0⟩:pack_reader)).bind fun x1=>if (x1.2.e_ != 0) then some ([],[],x1.2.e_) else some (x1.1,x1.2.rest_.b_,0)
theorem le_pack_ReadStr n p_b:Le0 (pack_ReadStr' n p_b) (pack_ReadStr p_b):=by
 unfold pack_ReadStr' pack_ReadStr
 with_reducible repeat' first | apply le_pack_reader_str | refine B0 ?_ fun _=>?_ | apply I0 | apply K0 | apply O0 | exact R0
def chunk_take_string__pack_ReadStr' (n:Nat) (self:chunk_reader):Option ((List UInt8)×chunk_reader):=(pack_ReadStr' n self.b_).bind fun x1=>((if self.bad_ then some true else some (x1.2.2 != 0)).bind fun c1=>some c1).bind fun v1=>if v1 then some ([],(⟨self.b_,true⟩:chunk_reader)) else some (x1.1,(⟨x1.2.1,self.bad_⟩:chunk_reader))
theorem le_chunk_take_string__pack_ReadStr n self:Le0 (chunk_take_string__pack_ReadStr' n self) (chunk_take_string__pack_ReadStr self):=by
 unfold chunk_take_string__pack_ReadStr' chunk_take_string__pack_ReadStr
 with_reducible repeat' first | apply le_pack_ReadStr | refine B0 ?_ fun _=>?_ | apply I0 | apply K0 | apply O0 | exact R0
def pack_ReadInts_B1' (n:Nat) (x1:Int×pack_reader) (s1:Int×(List UInt8)×Int×(List Int)):Option ((Int×(List UInt8)×Int×(List Int))⊕((List UInt8)×Int×(List Int))):=if (decide (s1.1 < x1.1)) then (pack_reader_num' n (⟨(⟨s1.2.1⟩:pack_rest),s1.2.2.1⟩:pack_reader)).bind fun x2=>chk ((s1.2.2.2.length+([x2.1]).length) * 8≤140737488355328) (if (x2.2.e_ != 0) then out (some (x2.2.rest_.b_,x2.2.e_,(s1.2.2.2++[x2.1]))) else chk (InI64 (s1.1+1)) (some (.inl ((s1.1+1),x2.2.rest_.b_,x2.2.e_,(s1.2.2.2++[x2.1]))))) else out (some (s1.2.1,s1.2.2.1,s1.2.2.2))
theorem le_pack_ReadInts_B1 n x1 s1:Le0 (pack_ReadInts_B1' n x1 s1) (pack_ReadInts_B1 x1 s1):=by
 unfold pack_ReadInts_B1' pack_ReadInts_B1
 with_reducible repeat' first | apply le_pack_reader_num | refine B0 ?_ fun _=>?_ | apply I0 | apply K0 | apply O0 | exact R0
def pack_ReadInts_L1' (n:Nat) (x1:Int×pack_reader) (s1:Int×(List UInt8)×Int×(List Int)):Option ((List UInt8)×Int×(List Int)):=loopN (pack_ReadInts_B1' n x1) n s1
theorem le_pack_ReadInts_L1 n x1 s1:Le0 (pack_ReadInts_L1' n x1 s1) (pack_ReadInts_L1 x1 s1):=Le0.loop (fun s=>le_pack_ReadInts_B1 n x1 s) n s1
def pack_ReadInts' (n:Nat) (p_b:List UInt8):Option ((List Int)×(List UInt8)×Int):=((pack_reader_count' n (⟨(⟨p_b⟩:pack_rest),0⟩:pack_reader)).bind fun x1=>pack_ReadInts_L1' n x1 (0,x1.2.rest_.b_,x1.2.e_,[])).bind fun v1=>if (v1.2.1 != 0) then some ([],[],v1.2.1) else some (v1.2.2,v1.1,0)
theorem le_pack_ReadInts n p_b:Le0 (pack_ReadInts' n p_b) (pack_ReadInts p_b):=by
 unfold pack_ReadInts' pack_ReadInts
 with_reducible repeat' first | apply le_pack_reader_count | apply le_pack_ReadInts_L1 | refine B0 ?_ fun _=>?_ | apply I0 | apply K0 | apply O0 | exact R0
def chunk_take_int__pack_ReadInts' (n:Nat) (self:chunk_reader):Option ((List Int)×chunk_reader):=(pack_ReadInts' n self.b_).bind fun x1=>((if self.bad_ then some true else some (x1.2.2 != 0)).bind fun c1=>some c1).bind fun v1=>if v1 then some ([],(⟨self.b_,true⟩:chunk_reader)) else some (x1.1,(⟨x1.2.1,self.bad_⟩:chunk_reader))
theorem le_chunk_take_int__pack_ReadInts n self:Le0 (chunk_take_int__pack_ReadInts' n self) (chunk_take_int__pack_ReadInts self):=by
 unfold chunk_take_int__pack_ReadInts' chunk_take_int__pack_ReadInts
 with_reducible repeat' first | apply le_pack_ReadInts | refine B0 ?_ fun _=>?_ | apply I0 | apply K0 | apply O0 | exact R0
def chunk_reader_copy' (n:Nat) (self:chunk_reader):Option ((api_Copy×Bool)×chunk_reader):=(chunk_reader_int' n self).bind fun x1=>(chunk_reader_int' n x1.2).bind fun x2=>(chunk_take_string__pack_ReadStr' n x2.2).bind fun x3=>chk (x3.1.length≤140737488355328) ((chunk_take_int__pack_ReadInts' n x3.2).bind fun x4=>((if (!x4.2.bad_) then some ((x4.2.b_.length:Int) == 0) else some false).bind fun c1=>some c1).bind fun v1=>some (((⟨x1.1,x2.1,x3.1,x4.1⟩:api_Copy),v1),x4.2))
theorem le_chunk_reader_copy n self:Le0 (chunk_reader_copy' n self) (chunk_reader_copy self):=by
 unfold chunk_reader_copy' chunk_reader_copy
 with_reducible repeat' first | apply le_chunk_reader_int | apply le_chunk_take_string__pack_ReadStr | apply le_chunk_take_int__pack_ReadInts | refine B0 ?_ fun _=>?_ | apply I0 | apply K0 | apply O0 | exact R0
def chunk_Get' (n:Nat) (p_d:api_Disk) (p_id:Int):Option (api_Copy×Int):=(chunk_there' n p_d p_id).bind fun x1=>if (x1.2 != 0) then some ((⟨0,0,[],[]⟩:api_Copy),x1.2) else if (decide ((x1.1.length:Int) < 4)) then some ((⟨0,0,[],[]⟩:api_Copy),251) else chk (InI64 ((x1.1.length:Int) - 4)) (chk ((0:Int)≤((x1.1.length:Int) - 4)∧((x1.1.length:Int) - 4)≤(x1.1.length:Int)) ((chunk_reader_copy' n (⟨(x1.1.take ((x1.1.length:Int) - 4).toNat),false⟩:chunk_reader)).bind fun x2=>((if (!x2.1.2) then some true else (chunk_may' n x2.1.1).bind fun x3=>some (!x3)).bind fun c1=>(if c1 then some true else some (x2.1.1.Id != p_id)).bind fun c2=>(if c2 then some true else (chunk_page' n x2.1.1).bind fun x4=>(bytes_Equal x4 x1.1).bind fun x5=>some (!x5)).bind fun c3=>some c3).bind fun v1=>if v1 then some ((⟨0,0,[],[]⟩:api_Copy),251) else some (x2.1.1,0)))
theorem le_chunk_Get n p_d p_id:Le0 (chunk_Get' n p_d p_id) (chunk_Get p_d p_id):=by
 unfold chunk_Get' chunk_Get
 with_reducible repeat' first | apply le_chunk_there | apply le_chunk_reader_copy | apply le_chunk_may | apply le_chunk_page | refine B0 ?_ fun _=>?_ | apply I0 | apply K0 | apply O0 | exact R0
def chain_Read' (n:Nat) (p_c:api_Chain) (p_disks:List api_Disk):Option ((List UInt8)×Int):=chk (InI64 ((p_c.Servers.length:Int) - 1)) ((idx p_c.Servers ((p_c.Servers.length:Int) - 1)).bind fun x1=>(idx p_disks x1).bind fun x2=>(chunk_Get' n x2 p_c.Id).bind fun x3=>if (x3.2 != 0) then some ([],x3.2) else if (x3.1.Ver != p_c.Ver) then some ([],250) else some (x3.1.Data,0))
theorem le_chain_Read n p_c p_disks:Le0 (chain_Read' n p_c p_disks) (chain_Read p_c p_disks):=by
 unfold chain_Read' chain_Read
 with_reducible repeat' first | apply le_chunk_Get | refine B0 ?_ fun _=>?_ | apply I0 | apply K0 | apply O0 | exact R0
def slices_IndexFunc_int_int__chain_Cut_1_3_B1' (_n:Nat) (p_s:List Int) (p_f_c0:Int) (p_f_c1:List api_Disk) (s1:Int):Option ((Int)⊕Int):=if (decide (s1 < (p_s.length:Int))) then (idx p_s s1).bind fun x1=>(chain_Cut_1 x1 p_f_c0 p_f_c1).bind fun x2=>if x2 then out (some s1) else chk (InI64 (s1+1)) (some (.inl (s1+1))) else out (slices_IndexFunc_int_int__chain_Cut_1_3_J1 ())
theorem le_slices_IndexFunc_int_int__chain_Cut_1_3_B1 n p_s p_f_c0 p_f_c1 s1:Le0 (slices_IndexFunc_int_int__chain_Cut_1_3_B1' n p_s p_f_c0 p_f_c1 s1) (slices_IndexFunc_int_int__chain_Cut_1_3_B1 p_s p_f_c0 p_f_c1 s1):=by
 unfold slices_IndexFunc_int_int__chain_Cut_1_3_B1' slices_IndexFunc_int_int__chain_Cut_1_3_B1
 with_reducible repeat' first | refine B0 ?_ fun _=>?_ | apply I0 | apply K0 | apply O0 | exact R0
def slices_IndexFunc_int_int__chain_Cut_1_3_L1' (n:Nat) (p_s:List Int) (p_f_c0:Int) (p_f_c1:List api_Disk) (s1:Int):Option Int:=loopN (slices_IndexFunc_int_int__chain_Cut_1_3_B1' n p_s p_f_c0 p_f_c1) n s1
theorem le_slices_IndexFunc_int_int__chain_Cut_1_3_L1 n p_s p_f_c0 p_f_c1 s1:Le0 (slices_IndexFunc_int_int__chain_Cut_1_3_L1' n p_s p_f_c0 p_f_c1 s1) (slices_IndexFunc_int_int__chain_Cut_1_3_L1 p_s p_f_c0 p_f_c1 s1):=Le0.loop (fun s=>le_slices_IndexFunc_int_int__chain_Cut_1_3_B1 n p_s p_f_c0 p_f_c1 s) n s1
def slices_IndexFunc_int_int__chain_Cut_1_3' (n:Nat) (p_s:List Int) (p_f_c0:Int) (p_f_c1:List api_Disk):Option Int:=slices_IndexFunc_int_int__chain_Cut_1_3_L1' n p_s p_f_c0 p_f_c1 0
theorem le_slices_IndexFunc_int_int__chain_Cut_1_3 n p_s p_f_c0 p_f_c1:Le0 (slices_IndexFunc_int_int__chain_Cut_1_3' n p_s p_f_c0 p_f_c1) (slices_IndexFunc_int_int__chain_Cut_1_3 p_s p_f_c0 p_f_c1):=by
 unfold slices_IndexFunc_int_int__chain_Cut_1_3' slices_IndexFunc_int_int__chain_Cut_1_3
 with_reducible repeat' first | apply le_slices_IndexFunc_int_int__chain_Cut_1_3_L1 | refine B0 ?_ fun _=>?_ | apply I0 | apply K0 | apply O0 | exact R0
def slices_DeleteFunc_int_int__chain_Cut_1_B1' (_n:Nat) (p_b1:Int) (p_b2:List api_Disk) (s1:Int×Int×(List Int)):Option ((Int×Int×(List Int))⊕(Int×(List Int))):=if (decide (s1.2.1 < (s1.2.2.length:Int))) then ((idx s1.2.2 s1.2.1).bind fun x2=>(chain_Cut_1_2 x2 p_b1 p_b2).bind fun x3=>if (!x3) then (idx s1.2.2 s1.1).bind fun _=>chk (InI64 (s1.1+1)) (some ((s1.1+1),(s1.2.2.set s1.1.toNat x2))) else some (s1.1,s1.2.2)).bind fun v2=>chk (InI64 (s1.2.1+1)) (some (.inl (v2.1,(s1.2.1+1),v2.2))) else out (some (s1.1,s1.2.2))
theorem le_slices_DeleteFunc_int_int__chain_Cut_1_B1 n p_b1 p_b2 s1:Le0 (slices_DeleteFunc_int_int__chain_Cut_1_B1' n p_b1 p_b2 s1) (slices_DeleteFunc_int_int__chain_Cut_1_B1 p_b1 p_b2 s1):=by
 unfold slices_DeleteFunc_int_int__chain_Cut_1_B1' slices_DeleteFunc_int_int__chain_Cut_1_B1
 with_reducible repeat' first | refine B0 ?_ fun _=>?_ | apply I0 | apply K0 | apply O0 | exact R0
def slices_DeleteFunc_int_int__chain_Cut_1_L1' (n:Nat) (p_b1:Int) (p_b2:List api_Disk) (s1:Int×Int×(List Int)):Option (Int×(List Int)):=loopN (slices_DeleteFunc_int_int__chain_Cut_1_B1' n p_b1 p_b2) n s1
theorem le_slices_DeleteFunc_int_int__chain_Cut_1_L1 n p_b1 p_b2 s1:Le0 (slices_DeleteFunc_int_int__chain_Cut_1_L1' n p_b1 p_b2 s1) (slices_DeleteFunc_int_int__chain_Cut_1_L1 p_b1 p_b2 s1):=Le0.loop (fun s=>le_slices_DeleteFunc_int_int__chain_Cut_1_B1 n p_b1 p_b2 s) n s1
def slices_DeleteFunc_int_int__chain_Cut_1' (n:Nat) (p_h0:List Int) (p_b1:Int) (p_b2:List api_Disk):Option (List Int):=(slices_IndexFunc_int_int__chain_Cut_1_3' n p_h0 p_b1 p_b2).bind fun x1=>if (x1 == (-1)) then some p_h0 else (chk (InI64 (x1+1)) (slices_DeleteFunc_int_int__chain_Cut_1_L1' n p_b1 p_b2 (x1,(x1+1),p_h0))).bind fun v1=>chk ((0:Int)≤v1.1∧v1.1≤(v1.2.length:Int)) (chk ((0:Int)≤v1.1∧v1.1≤((v1.2.take v1.1.toNat++List.replicate (v1.2.length - v1.1.toNat) (0:Int)).length:Int)) (some ((v1.2.take v1.1.toNat++List.replicate (v1.2.length - v1.1.toNat) (0:Int)).take v1.1.toNat)))
theorem le_slices_DeleteFunc_int_int__chain_Cut_1 n p_h0 p_b1 p_b2:Le0 (slices_DeleteFunc_int_int__chain_Cut_1' n p_h0 p_b1 p_b2) (slices_DeleteFunc_int_int__chain_Cut_1 p_h0 p_b1 p_b2):=by
 unfold slices_DeleteFunc_int_int__chain_Cut_1' slices_DeleteFunc_int_int__chain_Cut_1
 with_reducible repeat' first | apply le_slices_IndexFunc_int_int__chain_Cut_1_3 | apply le_slices_DeleteFunc_int_int__chain_Cut_1_L1 | refine B0 ?_ fun _=>?_ | apply I0 | apply K0 | apply O0 | exact R0
def chain_whole_1_B1' (n:Nat) (p_b3:api_Chain) (p_b4:List api_Disk) (s1:Int×LS×(List UInt8)×Bool):Option ((Int×LS×(List UInt8)×Bool)⊕(LS×(List UInt8)×Bool)):=if (decide (s1.1 < (p_b3.Servers.length:Int))) then (idx p_b3.Servers s1.1).bind fun x1=>(idx p_b4 x1).bind fun x2=>(chunk_Get' n x2 p_b3.Id).bind fun x3=>((if (x3.2 == 0) then some (x3.1.Ver == p_b3.Ver) else some false).bind fun c1=>(if c1 then chk (s1.2.1=.rdy) ((chain_first_R0_2 x1 x3.1.Data s1.2.2.1 s1.2.2.2).bind fun _=>some ((!(LS.isR .ret)),.ret,x3.1.Data,true)) else some (false,s1.2.1,s1.2.2.1,s1.2.2.2)).bind fun (c2:Bool×LS×(List UInt8)×Bool)=>some (c2.1,c2.2.1,c2.2.2.1,c2.2.2.2)).bind fun v1=>if v1.1 then out (some (v1.2.1,v1.2.2.1,v1.2.2.2)) else chk (InI64 (s1.1+1)) (some (.inl ((s1.1+1),v1.2.1,v1.2.2.1,v1.2.2.2))) else out (some (s1.2.1,s1.2.2.1,s1.2.2.2))
theorem le_chain_whole_1_B1 n p_b3 p_b4 s1:Le0 (chain_whole_1_B1' n p_b3 p_b4 s1) (chain_whole_1_B1 p_b3 p_b4 s1):=by
 unfold chain_whole_1_B1' chain_whole_1_B1
 with_reducible repeat' first | apply le_chunk_Get | refine B0 ?_ fun _=>?_ | apply I0 | apply K0 | apply O0 | exact R0
def chain_whole_1_L1' (n:Nat) (p_b3:api_Chain) (p_b4:List api_Disk) (s1:Int×LS×(List UInt8)×Bool):Option (LS×(List UInt8)×Bool):=loopN (chain_whole_1_B1' n p_b3 p_b4) n s1
theorem le_chain_whole_1_L1 n p_b3 p_b4 s1:Le0 (chain_whole_1_L1' n p_b3 p_b4 s1) (chain_whole_1_L1 p_b3 p_b4 s1):=Le0.loop (fun s=>le_chain_whole_1_B1 n p_b3 p_b4 s) n s1
def chain_whole_1' (n:Nat) (p_b2:Bool) (p_b3:api_Chain) (p_b4:List api_Disk):Option (LS×(List UInt8)×Bool):=chain_whole_1_L1' n p_b3 p_b4 (0,.rdy,[],p_b2)
theorem le_chain_whole_1 n p_b2 p_b3 p_b4:Le0 (chain_whole_1' n p_b2 p_b3 p_b4) (chain_whole_1 p_b2 p_b3 p_b4):=by
 unfold chain_whole_1' chain_whole_1
 with_reducible repeat' first | apply le_chain_whole_1_L1 | refine B0 ?_ fun _=>?_ | apply I0 | apply K0 | apply O0 | exact R0
def chain_first' (n:Nat) (p_c:api_Chain) (p_disks:List api_Disk):Option ((List UInt8)×Bool):=(chain_whole p_c p_disks).bind fun _=>(chain_whole_1' n false p_c p_disks).bind fun x2=>if x2.1=.rdy then some ([],false) else if x2.1=.ret then some (x2.2.1,x2.2.2) else none
theorem le_chain_first n p_c p_disks:Le0 (chain_first' n p_c p_disks) (chain_first p_c p_disks):=by
 unfold chain_first' chain_first
 with_reducible repeat' first | apply le_chain_whole_1 | refine B0 ?_ fun _=>?_ | apply I0 | apply K0 | apply O0 | exact R0
def chain_Cut_B1' (n:Nat) (x3:(List Int)) (p_c:api_Chain) (x4:(List UInt8)×Bool) (s1:Int×(List api_Disk)):Option ((Int×(List api_Disk))⊕(List api_Disk)):=if (decide (s1.1 < (x3.length:Int))) then (idx x3 s1.1).bind fun x6=>(chain_laying_1' n x6 s1.2 (⟨p_c.Id,(p_c.Ver+1),x3⟩:api_Chain) x4.1).bind fun x7=>chk (InI64 (s1.1+1)) (some (.inl ((s1.1+1),x7))) else out (some s1.2)
theorem le_chain_Cut_B1 n x3 p_c x4 s1:Le0 (chain_Cut_B1' n x3 p_c x4 s1) (chain_Cut_B1 x3 p_c x4 s1):=by
 unfold chain_Cut_B1' chain_Cut_B1
 with_reducible repeat' first | apply le_chain_laying_1 | refine B0 ?_ fun _=>?_ | apply I0 | apply K0 | apply O0 | exact R0
def chain_Cut_L1' (n:Nat) (x3:(List Int)) (p_c:api_Chain) (x4:(List UInt8)×Bool) (s1:Int×(List api_Disk)):Option (List api_Disk):=loopN (chain_Cut_B1' n x3 p_c x4) n s1
theorem le_chain_Cut_L1 n x3 p_c x4 s1:Le0 (chain_Cut_L1' n x3 p_c x4 s1) (chain_Cut_L1 x3 p_c x4 s1):=Le0.loop (fun s=>le_chain_Cut_B1 n x3 p_c x4 s) n s1
def chain_Cut' (n:Nat) (p_c:api_Chain) (p_disks:List api_Disk) (p_server:Int):Option (api_Chain×(List api_Disk)×Int):=(slices_Contains_int_int' n p_c.Servers p_server).bind fun x1=>if (!x1) then some (p_c,p_disks,1) else if (decide (p_c.Ver≥1099511627776)) then some (p_c,p_disks,76) else (slices_Clone_int_int' n p_c.Servers).bind fun x2=>(slices_DeleteFunc_int_int__chain_Cut_1' n x2 p_server p_disks).bind fun x3=>(chain_first' n (⟨p_c.Id,p_c.Ver,x3⟩:api_Chain) p_disks).bind fun x4=>if (!x4.2) then some (p_c,p_disks,260) else chk (InI64 (p_c.Ver+1)) ((chain_laying' n (⟨p_c.Id,(p_c.Ver+1),x3⟩:api_Chain) p_disks x4.1).bind fun x5=>(chain_Cut_L1' n x3 p_c x4 (0,x5)).bind fun v1=>some ((⟨p_c.Id,(p_c.Ver+1),x3⟩:api_Chain),v1,0))
theorem le_chain_Cut n p_c p_disks p_server:Le0 (chain_Cut' n p_c p_disks p_server) (chain_Cut p_c p_disks p_server):=by
 unfold chain_Cut' chain_Cut
 with_reducible repeat' first | apply le_slices_Contains_int_int | apply le_slices_Clone_int_int | apply le_slices_DeleteFunc_int_int__chain_Cut_1 | apply le_chain_first | apply le_chain_laying | apply le_chain_Cut_L1 | refine B0 ?_ fun _=>?_ | apply I0 | apply K0 | apply O0 | exact R0
def chain_Mend' (n:Nat) (p_c:api_Chain) (p_disks:List api_Disk) (p_server:Int):Option (api_Chain×(List api_Disk)×Int):=((if (decide (p_server < 0)) then some true else some (decide (p_server≥(p_disks.length:Int)))).bind fun c1=>(if c1 then some true else (slices_Contains_int_int' n p_c.Servers p_server).bind fun x1=>some x1).bind fun c2=>some c2).bind fun v1=>if v1 then some (p_c,p_disks,1) else if (decide ((p_c.Servers.length:Int)≥5)) then some (p_c,p_disks,76) else (idx p_disks p_server).bind fun x2=>if x2.Down then some (p_c,p_disks,40) else (chain_Read' n p_c p_disks).bind fun x3=>if (x3.2 != 0) then some (p_c,p_disks,x3.2) else (chain_laying' n p_c p_disks x3.1).bind fun x4=>(chain_laying_1' n p_server x4 p_c x3.1).bind fun x5=>(slices_Clone_int_int' n p_c.Servers).bind fun x6=>chk ((x6.length+([p_server]).length) * 8≤140737488355328) (some ((⟨p_c.Id,p_c.Ver,(x6++[p_server])⟩:api_Chain),x5,0))
theorem le_chain_Mend n p_c p_disks p_server:Le0 (chain_Mend' n p_c p_disks p_server) (chain_Mend p_c p_disks p_server):=by
 unfold chain_Mend' chain_Mend
 with_reducible repeat' first | apply le_slices_Contains_int_int | apply le_chain_Read | apply le_chain_laying | apply le_chain_laying_1 | apply le_slices_Clone_int_int | refine B0 ?_ fun _=>?_ | apply I0 | apply K0 | apply O0 | exact R0
def law26_with_B1' (_n:Nat) (p_l:List api_Disk) (p_at:Int) (p_d:api_Disk) (s1:Int×(List api_Disk)):Option ((Int×(List api_Disk))⊕(List api_Disk)):=if (decide (s1.1 < (p_l.length:Int))) then (if (s1.1 == p_at) then chk ((s1.2.length+([p_d]).length) * 56≤140737488355328) (some (s1.2++[p_d])) else (idx p_l s1.1).bind fun x1=>chk ((s1.2.length+([x1]).length) * 56≤140737488355328) (some (s1.2++[x1]))).bind fun v2=>chk (InI64 (s1.1+1)) (some (.inl ((s1.1+1),v2))) else out (some s1.2)
theorem le_law26_with_B1 n p_l p_at p_d s1:Le0 (law26_with_B1' n p_l p_at p_d s1) (law26_with_B1 p_l p_at p_d s1):=by
 unfold law26_with_B1' law26_with_B1
 with_reducible repeat' first | refine B0 ?_ fun _=>?_ | apply I0 | apply K0 | apply O0 | exact R0
def law26_with_L1' (n:Nat) (p_l:List api_Disk) (p_at:Int) (p_d:api_Disk) (s1:Int×(List api_Disk)):Option (List api_Disk):=loopN (law26_with_B1' n p_l p_at p_d) n s1
theorem le_law26_with_L1 n p_l p_at p_d s1:Le0 (law26_with_L1' n p_l p_at p_d s1) (law26_with_L1 p_l p_at p_d s1):=Le0.loop (fun s=>le_law26_with_B1 n p_l p_at p_d s) n s1
def law26_with' (n:Nat) (p_l:List api_Disk) (p_at:Int) (p_d:api_Disk):Option (List api_Disk):=(law26_with_L1' n p_l p_at p_d (0,[])).bind fun v1=>some v1
theorem le_law26_with n p_l p_at p_d:Le0 (law26_with' n p_l p_at p_d) (law26_with p_l p_at p_d):=by
 unfold law26_with' law26_with
 with_reducible repeat' first | apply le_law26_with_L1 | refine B0 ?_ fun _=>?_ | apply I0 | apply K0 | apply O0 | exact R0
def slices_IndexFunc_int_int__chain_Patch_1_B1' (_n:Nat) (p_s:List Int) (p_f_c0_0:List api_Disk) (s1:Int):Option ((Int)⊕Int):=if (decide (s1 < (p_s.length:Int))) then (idx p_s s1).bind fun x1=>(chain_Patch_1 x1 p_f_c0_0).bind fun x2=>if x2 then out (some s1) else chk (InI64 (s1+1)) (some (.inl (s1+1))) else out (slices_IndexFunc_int_int__chain_Patch_1_J1 ())
theorem le_slices_IndexFunc_int_int__chain_Patch_1_B1 n p_s p_f_c0_0 s1:Le0 (slices_IndexFunc_int_int__chain_Patch_1_B1' n p_s p_f_c0_0 s1) (slices_IndexFunc_int_int__chain_Patch_1_B1 p_s p_f_c0_0 s1):=by
 unfold slices_IndexFunc_int_int__chain_Patch_1_B1' slices_IndexFunc_int_int__chain_Patch_1_B1
 with_reducible repeat' first | refine B0 ?_ fun _=>?_ | apply I0 | apply K0 | apply O0 | exact R0
def slices_IndexFunc_int_int__chain_Patch_1_L1' (n:Nat) (p_s:List Int) (p_f_c0_0:List api_Disk) (s1:Int):Option Int:=loopN (slices_IndexFunc_int_int__chain_Patch_1_B1' n p_s p_f_c0_0) n s1
theorem le_slices_IndexFunc_int_int__chain_Patch_1_L1 n p_s p_f_c0_0 s1:Le0 (slices_IndexFunc_int_int__chain_Patch_1_L1' n p_s p_f_c0_0 s1) (slices_IndexFunc_int_int__chain_Patch_1_L1 p_s p_f_c0_0 s1):=Le0.loop (fun s=>le_slices_IndexFunc_int_int__chain_Patch_1_B1 n p_s p_f_c0_0 s) n s1
def slices_IndexFunc_int_int__chain_Patch_1' (n:Nat) (p_s:List Int) (p_f_c0_0:List api_Disk):Option Int:=slices_IndexFunc_int_int__chain_Patch_1_L1' n p_s p_f_c0_0 0
theorem le_slices_IndexFunc_int_int__chain_Patch_1 n p_s p_f_c0_0:Le0 (slices_IndexFunc_int_int__chain_Patch_1' n p_s p_f_c0_0) (slices_IndexFunc_int_int__chain_Patch_1 p_s p_f_c0_0):=by
 unfold slices_IndexFunc_int_int__chain_Patch_1' slices_IndexFunc_int_int__chain_Patch_1
 with_reducible repeat' first | apply le_slices_IndexFunc_int_int__chain_Patch_1_L1 | refine B0 ?_ fun _=>?_ | apply I0 | apply K0 | apply O0 | exact R0
def slices_ContainsFunc_int_int__chain_Patch_1' (n:Nat) (p_s:List Int) (p_f_c0:List api_Disk):Option Bool:=(slices_IndexFunc_int_int__chain_Patch_1' n p_s p_f_c0).bind fun x1=>some (decide (x1≥0))
theorem le_slices_ContainsFunc_int_int__chain_Patch_1 n p_s p_f_c0:Le0 (slices_ContainsFunc_int_int__chain_Patch_1' n p_s p_f_c0) (slices_ContainsFunc_int_int__chain_Patch_1 p_s p_f_c0):=by
 unfold slices_ContainsFunc_int_int__chain_Patch_1' slices_ContainsFunc_int_int__chain_Patch_1
 with_reducible repeat' first | apply le_slices_IndexFunc_int_int__chain_Patch_1 | refine B0 ?_ fun _=>?_ | apply I0 | apply K0 | apply O0 | exact R0
def chain_Patch_R0_2' (n:Nat) (p_a1:Int) (p_a2:List UInt8) (p_b1:api_Chain) (p_b2:List api_Disk) (p_b3:List api_Disk) (p_b4:Int) (p_b5:Int) (p_b6:List UInt8) (p_b7:Bool) (p_b8:Bool):Option (LS×(List api_Disk)×Int×(List UInt8)×Bool×Bool):=(slices_Index_int_int' n p_b1.Servers p_a1).bind fun x1=>if (x1 == p_b5) then some (.ret,p_b2,0,p_b6,p_b7,p_b8) else if (!p_b8) then some (.rdy,p_b3,p_b4,p_a2,true,(decide (x1 > p_b5))) else some (.rdy,p_b3,p_b4,p_b6,p_b7,p_b8)
theorem le_chain_Patch_R0_2 n p_a1 p_a2 p_b1 p_b2 p_b3 p_b4 p_b5 p_b6 p_b7 p_b8:Le0 (chain_Patch_R0_2' n p_a1 p_a2 p_b1 p_b2 p_b3 p_b4 p_b5 p_b6 p_b7 p_b8) (chain_Patch_R0_2 p_a1 p_a2 p_b1 p_b2 p_b3 p_b4 p_b5 p_b6 p_b7 p_b8):=by
 unfold chain_Patch_R0_2' chain_Patch_R0_2
 with_reducible repeat' first | apply le_slices_Index_int_int | refine B0 ?_ fun _=>?_ | apply I0 | apply K0 | apply O0 | exact R0
def chain_whole_1_2_B1' (n:Nat) (p_b9:api_Chain) (p_b10:List api_Disk) (p_b1:api_Chain) (p_b2:List api_Disk) (p_b5:Int) (s1:Int×LS×(List api_Disk)×Int×(List UInt8)×Bool×Bool):Option ((Int×LS×(List api_Disk)×Int×(List UInt8)×Bool×Bool)⊕(LS×(List api_Disk)×Int×(List UInt8)×Bool×Bool)):=if (decide (s1.1 < (p_b9.Servers.length:Int))) then (idx p_b9.Servers s1.1).bind fun x1=>(idx p_b10 x1).bind fun x2=>(chunk_Get' n x2 p_b9.Id).bind fun x3=>((if (x3.2 == 0) then some (x3.1.Ver == p_b9.Ver) else some false).bind fun c1=>(if c1 then chk (s1.2.1=.rdy) ((chain_Patch_R0_2' n x1 x3.1.Data p_b1 p_b2 s1.2.2.1 s1.2.2.2.1 p_b5 s1.2.2.2.2.1 s1.2.2.2.2.2.1 s1.2.2.2.2.2.2).bind fun x4=>some ((!(LS.isR x4.1)),x4.1,x4.2.1,x4.2.2.1,x4.2.2.2.1,x4.2.2.2.2.1,x4.2.2.2.2.2)) else some (false,s1.2.1,s1.2.2.1,s1.2.2.2.1,s1.2.2.2.2.1,s1.2.2.2.2.2.1,s1.2.2.2.2.2.2)).bind fun (c2:Bool×LS×(List api_Disk)×Int×(List UInt8)×Bool×Bool)=>some (c2.1,c2.2.1,c2.2.2.1,c2.2.2.2.1,c2.2.2.2.2.1,c2.2.2.2.2.2.1,c2.2.2.2.2.2.2)).bind fun v1=>if v1.1 then out (some (v1.2.1,v1.2.2.1,v1.2.2.2.1,v1.2.2.2.2.1,v1.2.2.2.2.2.1,v1.2.2.2.2.2.2)) else chk (InI64 (s1.1+1)) (some (.inl ((s1.1+1),v1.2.1,v1.2.2.1,v1.2.2.2.1,v1.2.2.2.2.1,v1.2.2.2.2.2.1,v1.2.2.2.2.2.2))) else out (some (s1.2.1,s1.2.2.1,s1.2.2.2.1,s1.2.2.2.2.1,s1.2.2.2.2.2.1,s1.2.2.2.2.2.2))
theorem le_chain_whole_1_2_B1 n p_b9 p_b10 p_b1 p_b2 p_b5 s1:Le0 (chain_whole_1_2_B1' n p_b9 p_b10 p_b1 p_b2 p_b5 s1) (chain_whole_1_2_B1 p_b9 p_b10 p_b1 p_b2 p_b5 s1):=by
 unfold chain_whole_1_2_B1' chain_whole_1_2_B1
 with_reducible repeat' first | apply le_chunk_Get | apply le_chain_Patch_R0_2 | refine B0 ?_ fun _=>?_ | apply I0 | apply K0 | apply O0 | exact R0
def chain_whole_1_2_L1' (n:Nat) (p_b9:api_Chain) (p_b10:List api_Disk) (p_b1:api_Chain) (p_b2:List api_Disk) (p_b5:Int) (s1:Int×LS×(List api_Disk)×Int×(List UInt8)×Bool×Bool):Option (LS×(List api_Disk)×Int×(List UInt8)×Bool×Bool):=loopN (chain_whole_1_2_B1' n p_b9 p_b10 p_b1 p_b2 p_b5) n s1
theorem le_chain_whole_1_2_L1 n p_b9 p_b10 p_b1 p_b2 p_b5 s1:Le0 (chain_whole_1_2_L1' n p_b9 p_b10 p_b1 p_b2 p_b5 s1) (chain_whole_1_2_L1 p_b9 p_b10 p_b1 p_b2 p_b5 s1):=Le0.loop (fun s=>le_chain_whole_1_2_B1 n p_b9 p_b10 p_b1 p_b2 p_b5 s) n s1
def chain_whole_1_2' (n:Nat) (p_b1:api_Chain) (p_b2:List api_Disk) (p_b4:Int) (p_b5:Int) (p_b7:Bool) (p_b8:Bool) (p_b9:api_Chain) (p_b10:List api_Disk):Option (LS×(List api_Disk)×Int×(List UInt8)×Bool×Bool):=chain_whole_1_2_L1' n p_b9 p_b10 p_b1 p_b2 p_b5 (0,.rdy,[],p_b4,[],p_b7,p_b8)
theorem le_chain_whole_1_2 n p_b1 p_b2 p_b4 p_b5 p_b7 p_b8 p_b9 p_b10:Le0 (chain_whole_1_2' n p_b1 p_b2 p_b4 p_b5 p_b7 p_b8 p_b9 p_b10) (chain_whole_1_2 p_b1 p_b2 p_b4 p_b5 p_b7 p_b8 p_b9 p_b10):=by
 unfold chain_whole_1_2' chain_whole_1_2
 with_reducible repeat' first | apply le_chain_whole_1_2_L1 | refine B0 ?_ fun _=>?_ | apply I0 | apply K0 | apply O0 | exact R0
def chain_Patch' (n:Nat) (p_c:api_Chain) (p_disks:List api_Disk) (p_server:Int):Option ((List api_Disk)×Int):=(slices_Index_int_int' n p_c.Servers p_server).bind fun x1=>if (decide (x1 < 0)) then some (p_disks,1) else (slices_ContainsFunc_int_int__chain_Patch_1' n p_c.Servers p_disks).bind fun x2=>if x2 then some (p_disks,40) else (chain_whole p_c p_disks).bind fun _=>(chain_whole_1_2' n p_c p_disks 0 x1 false false p_c p_disks).bind fun x4=>if x4.1=.rdy then if (!x4.2.2.2.2.1) then some (p_disks,260) else (chain_laying' n p_c p_disks x4.2.2.2.1).bind fun x5=>(chain_laying_1' n p_server x5 p_c x4.2.2.2.1).bind fun x6=>some (x6,0) else if x4.1=.ret then some (x4.2.1,x4.2.2.1) else none
theorem le_chain_Patch n p_c p_disks p_server:Le0 (chain_Patch' n p_c p_disks p_server) (chain_Patch p_c p_disks p_server):=by
 unfold chain_Patch' chain_Patch
 with_reducible repeat' first | apply le_slices_Index_int_int | apply le_slices_ContainsFunc_int_int__chain_Patch_1 | apply le_chain_whole_1_2 | apply le_chain_laying | apply le_chain_laying_1 | refine B0 ?_ fun _=>?_ | apply I0 | apply K0 | apply O0 | exact R0
def ref04_Bytes_B1' (_n:Nat) (p_a:List UInt8) (p_b:List UInt8) (s1:Int):Option ((Int)⊕Bool):=if (decide (s1 < (p_a.length:Int))) then (idx p_a s1).bind fun x1=>(idx p_b s1).bind fun x2=>if ((x1.toNat:Int) != (x2.toNat:Int)) then out (some false) else chk (InI64 (s1+1)) (some (.inl (s1+1))) else out (ref04_Bytes_J1 ())
theorem le_ref04_Bytes_B1 n p_a p_b s1:Le0 (ref04_Bytes_B1' n p_a p_b s1) (ref04_Bytes_B1 p_a p_b s1):=by
 unfold ref04_Bytes_B1' ref04_Bytes_B1
 with_reducible repeat' first | refine B0 ?_ fun _=>?_ | apply I0 | apply K0 | apply O0 | exact R0
def ref04_Bytes_L1' (n:Nat) (p_a:List UInt8) (p_b:List UInt8) (s1:Int):Option Bool:=loopN (ref04_Bytes_B1' n p_a p_b) n s1
theorem le_ref04_Bytes_L1 n p_a p_b s1:Le0 (ref04_Bytes_L1' n p_a p_b s1) (ref04_Bytes_L1 p_a p_b s1):=Le0.loop (fun s=>le_ref04_Bytes_B1 n p_a p_b s) n s1
def ref04_Bytes' (n:Nat) (p_a:List UInt8) (p_b:List UInt8):Option Bool:=if ((p_a.length:Int) != (p_b.length:Int)) then some false else ref04_Bytes_L1' n p_a p_b 0
theorem le_ref04_Bytes n p_a p_b:Le0 (ref04_Bytes' n p_a p_b) (ref04_Bytes p_a p_b):=by
 unfold ref04_Bytes' ref04_Bytes
 with_reducible repeat' first | apply le_ref04_Bytes_L1 | refine B0 ?_ fun _=>?_ | apply I0 | apply K0 | apply O0 | exact R0
def chain_whole_1_3_B1' (n:Nat) (p_b2:api_Chain) (p_b3:List api_Disk) (s1:Int×(List Int)):Option ((Int×(List Int))⊕(List Int)):=if (decide (s1.1 < (p_b2.Servers.length:Int))) then (idx p_b2.Servers s1.1).bind fun x1=>(idx p_b3 x1).bind fun x2=>(chunk_Get' n x2 p_b2.Id).bind fun x3=>((if (x3.2 == 0) then some (x3.1.Ver == p_b2.Ver) else some false).bind fun c1=>(if c1 then (chain_Intact_R0_2 x1 x3.1.Data s1.2).bind fun _=>some ((!true),(s1.2++[x1])) else some (false,s1.2)).bind fun (c2:Bool×(List Int))=>some (c2.1,c2.2)).bind fun v1=>if v1.1 then out (some v1.2) else chk (InI64 (s1.1+1)) (some (.inl ((s1.1+1),v1.2))) else out (some s1.2)
theorem le_chain_whole_1_3_B1 n p_b2 p_b3 s1:Le0 (chain_whole_1_3_B1' n p_b2 p_b3 s1) (chain_whole_1_3_B1 p_b2 p_b3 s1):=by
 unfold chain_whole_1_3_B1' chain_whole_1_3_B1
 with_reducible repeat' first | apply le_chunk_Get | refine B0 ?_ fun _=>?_ | apply I0 | apply K0 | apply O0 | exact R0
def chain_whole_1_3_L1' (n:Nat) (p_b2:api_Chain) (p_b3:List api_Disk) (s1:Int×(List Int)):Option (List Int):=loopN (chain_whole_1_3_B1' n p_b2 p_b3) n s1
theorem le_chain_whole_1_3_L1 n p_b2 p_b3 s1:Le0 (chain_whole_1_3_L1' n p_b2 p_b3 s1) (chain_whole_1_3_L1 p_b2 p_b3 s1):=Le0.loop (fun s=>le_chain_whole_1_3_B1 n p_b2 p_b3 s) n s1
def chain_whole_1_3' (n:Nat) (p_b2:api_Chain) (p_b3:List api_Disk):Option (List Int):=chain_whole_1_3_L1' n p_b2 p_b3 (0,[])
theorem le_chain_whole_1_3 n p_b2 p_b3:Le0 (chain_whole_1_3' n p_b2 p_b3) (chain_whole_1_3 p_b2 p_b3):=by
 unfold chain_whole_1_3' chain_whole_1_3
 with_reducible repeat' first | apply le_chain_whole_1_3_L1 | refine B0 ?_ fun _=>?_ | apply I0 | apply K0 | apply O0 | exact R0
def chain_Intact' (n:Nat) (p_c:api_Chain) (p_disks:List api_Disk):Option (List Int):=(chain_whole p_c p_disks).bind fun _=>(chain_whole_1_3' n p_c p_disks).bind fun x2=>some x2
theorem le_chain_Intact n p_c p_disks:Le0 (chain_Intact' n p_c p_disks) (chain_Intact p_c p_disks):=by
 unfold chain_Intact' chain_Intact
 with_reducible repeat' first | apply le_chain_whole_1_3 | refine B0 ?_ fun _=>?_ | apply I0 | apply K0 | apply O0 | exact R0
def ref26_Ints_B1' (_n:Nat) (p_a:List Int) (p_b:List Int) (s1:Int):Option ((Int)⊕Bool):=if (decide (s1 < (p_a.length:Int))) then (idx p_a s1).bind fun x1=>(idx p_b s1).bind fun x2=>if (x1 != x2) then out (some false) else chk (InI64 (s1+1)) (some (.inl (s1+1))) else out (ref26_Ints_J1 ())
theorem le_ref26_Ints_B1 n p_a p_b s1:Le0 (ref26_Ints_B1' n p_a p_b s1) (ref26_Ints_B1 p_a p_b s1):=by
 unfold ref26_Ints_B1' ref26_Ints_B1
 with_reducible repeat' first | refine B0 ?_ fun _=>?_ | apply I0 | apply K0 | apply O0 | exact R0
def ref26_Ints_L1' (n:Nat) (p_a:List Int) (p_b:List Int) (s1:Int):Option Bool:=loopN (ref26_Ints_B1' n p_a p_b) n s1
theorem le_ref26_Ints_L1 n p_a p_b s1:Le0 (ref26_Ints_L1' n p_a p_b s1) (ref26_Ints_L1 p_a p_b s1):=Le0.loop (fun s=>le_ref26_Ints_B1 n p_a p_b s) n s1
def ref26_Ints' (n:Nat) (p_a:List Int) (p_b:List Int):Option Bool:=if ((p_a.length:Int) != (p_b.length:Int)) then some false else ref26_Ints_L1' n p_a p_b 0
theorem le_ref26_Ints n p_a p_b:Le0 (ref26_Ints' n p_a p_b) (ref26_Ints p_a p_b):=by
 unfold ref26_Ints' ref26_Ints
 with_reducible repeat' first | apply le_ref26_Ints_L1 | refine B0 ?_ fun _=>?_ | apply I0 | apply K0 | apply O0 | exact R0
def ref26_Same' (n:Nat) (p_a:api_Chain) (p_b:api_Chain):Option Bool:=(ref26_Ints' n p_a.Servers p_b.Servers).bind fun x1=>((if x1 then some (p_a.Id == p_b.Id) else some false).bind fun c1=>(if c1 then some (p_a.Ver == p_b.Ver) else some false).bind fun c2=>some c2).bind fun v1=>some v1
theorem le_ref26_Same n p_a p_b:Le0 (ref26_Same' n p_a p_b) (ref26_Same p_a p_b):=by
 unfold ref26_Same' ref26_Same
 with_reducible repeat' first | apply le_ref26_Ints | refine B0 ?_ fun _=>?_ | apply I0 | apply K0 | apply O0 | exact R0
def law26_head' (n:Nat):Option Bool:=(disk_New).bind fun x1=>(disk_New).bind fun x2=>(disk_New).bind fun x3=>(chain_Make' n 3 ([1,2]) ([x1,x2,x3]) ([5])).bind fun x4=>(chain_Make' n 3 ([1,1]) ([x1,x2,x3]) ([])).bind fun x5=>(chain_Write' n x4.1 x4.2.1 ([6]) 1).bind fun x6=>(chain_Read' n x4.1 x6.1).bind fun x7=>(chain_Cut' n x4.1 x6.1 1).bind fun x8=>(chain_Read' n x8.1 x8.2.1).bind fun x9=>(chain_Cut' n x4.1 x6.1 2).bind fun x10=>(chain_Read' n x10.1 x10.2.1).bind fun x11=>(chain_Read' n x4.1 x8.2.1).bind fun x12=>(chain_Mend' n x10.1 x10.2.1 0).bind fun x13=>(chain_Read' n x13.1 x13.2.1).bind fun x14=>(disk_New).bind fun x15=>(law26_with' n x13.2.1 1 x15).bind fun x16=>(chain_Patch' n x13.1 x16 1).bind fun x17=>(chain_Cut' n x8.1 x8.2.1 2).bind fun x18=>(chain_Write' n x13.1 x17.1 ([9]) 9).bind fun x19=>(ref04_Bytes' n x7.1 ([5])).bind fun x20=>(ref04_Bytes' n x9.1 ([5])).bind fun x21=>(ref04_Bytes' n x11.1 ([6])).bind fun x22=>(ref04_Bytes' n x14.1 ([6])).bind fun x23=>(chain_Intact' n x13.1 x17.1).bind fun x24=>(ref26_Ints' n x24 ([1,0])).bind fun x25=>(disk_New).bind fun x26=>(law26_with' n x13.2.1 1 x26).bind fun x27=>(chain_Intact' n x13.1 x27).bind fun x28=>(ref26_Ints' n x28 ([0])).bind fun x29=>(ref26_Same' n x13.1 (⟨3,2,[1,0]⟩:api_Chain)).bind fun x30=>((if (!x20) then some true else some (!x21)).bind fun c1=>(if c1 then some true else some (!x22)).bind fun c2=>(if c2 then some true else some (!x23)).bind fun c3=>(if c3 then some true else some (!x25)).bind fun c4=>(if c4 then some true else some (!x29)).bind fun c5=>(if c5 then some true else some (!x30)).bind fun c6=>(if c6 then some true else some (x4.2.2 != 0)).bind fun c7=>(if c7 then some true else some (x5.2.2 != 1)).bind fun c8=>(if c8 then some true else some x6.2).bind fun c9=>(if c9 then some true else some (x7.2 != 0)).bind fun c10=>(if c10 then some true else some (x8.2.2 != 0)).bind fun c11=>(if c11 then some true else some (x9.2 != 0)).bind fun c12=>(if c12 then some true else some (x10.2.2 != 0)).bind fun c13=>(if c13 then some true else some (x11.2 != 0)).bind fun c14=>some c14).bind fun v1=>if v1 then some false else ((if (x12.2 == 250) then some (x13.2.2 == 0) else some false).bind fun c15=>(if c15 then some (x14.2 == 0) else some false).bind fun c16=>(if c16 then some (x17.2 == 0) else some false).bind fun c17=>(if c17 then some (x18.2.2 == 260) else some false).bind fun c18=>(if c18 then some x19.2 else some false).bind fun c19=>(if c19 then (chain_Right' n x13.1 x19.1).bind fun x31=>some x31 else some false).bind fun c20=>(if c20 then (chain_Right' n (⟨0,0,[]⟩:api_Chain) x19.1).bind fun x32=>some (!x32) else some false).bind fun c21=>some c21).bind fun v2=>some v2
theorem le_law26_head n:Le0 (law26_head' n) law26_head:=by
 unfold law26_head' law26_head
 with_reducible repeat' first | apply le_chain_Make | apply le_chain_Write | apply le_chain_Read | apply le_chain_Cut | apply le_chain_Mend | apply le_law26_with | apply le_chain_Patch | apply le_ref04_Bytes | apply le_chain_Intact | apply le_ref26_Ints | apply le_ref26_Same | apply le_chain_Right | refine B0 ?_ fun _=>?_ | apply I0 | apply K0 | apply O0 | exact R0
end
end Go.Proofs
