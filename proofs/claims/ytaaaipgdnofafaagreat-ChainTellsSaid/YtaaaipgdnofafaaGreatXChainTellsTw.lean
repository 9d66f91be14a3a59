/- The plain programs with a bound on their rounds: what these say the others say, too. No condition. -/
import Derived.Test.YtaaaipgdnofafaaGreatXChainTellsSp
import Derived.Test.YtaaaipgdnofafaaGreatXChainTellsCatP6
namespace Go.Proofs
noncomputable section
set_option linter.all false
open Go Go.Cat
set_option maxRecDepth 100000
def slicesN8 (_n:Nat) (p_s:List Int):Option (List Int):=chk (p_s.length * 8≤140737488355328) (some p_s)
theorem eq_slicesN4 (p_s:List Int) (h:p_s.length * 8≤140737488355328):slicesN7 p_s=some p_s:=by
 unfold slicesN7
 refine Le0.clone fun b hb=>?_
 cases b with
 | true=>rw [hb rfl]; rfl
 | false =>
  rw [if_neg (by decide)]
  show chk _ _=_
  unfold chk
  rw [if_pos (by simpa using h)]; rfl
theorem le_slicesN4 n p_s:Le0 (slicesN8 n p_s) (slicesN7 p_s):=fun r hr=>by
 obtain ⟨h1,h2⟩:=chk_some hr
 cases h2
 exact eq_slicesN4 _ h1
def slicesN78 (_n:Nat) (p_s:List Int) (p_v:Int) (s1:Int):Option ((Int)⊕Int):=if (decide (s1 < (p_s.length:Int))) then (idx p_s s1).bind fun x1=>if (p_v == x1) then out (some s1) else chk (InI64 (s1+1)) (some (.inl (s1+1))) else out (slicesN79 ())
theorem le_slicesN34 n p_s p_v s1:Le0 (slicesN78 n p_s p_v s1) (slicesN77 p_s p_v s1):=by
 unfold slicesN78 slicesN77
 with_reducible repeat' first | refine B0 ?_ fun _=>?_ | apply I0 | apply K0 | apply O0 | exact R0
def slicesN81 (n:Nat) (p_s:List Int) (p_v:Int) (s1:Int):Option Int:=loopN (slicesN78 n p_s p_v) n s1
theorem le_slicesN35 n p_s p_v s1:Le0 (slicesN81 n p_s p_v s1) (slicesN80 p_s p_v s1):=Le0.loop (fun s=>le_slicesN34 n p_s p_v s) n s1
def slicesN76 (n:Nat) (p_s:List Int) (p_v:Int):Option Int:=slicesN81 n p_s p_v 0
theorem le_slicesN33 n p_s p_v:Le0 (slicesN76 n p_s p_v) (slicesN75 p_s p_v):=by
 unfold slicesN76 slicesN75
 with_reducible repeat' first | apply le_slicesN35 | refine B0 ?_ fun _=>?_ | apply I0 | apply K0 | apply O0 | exact R0
def slicesN34 (n:Nat) (p_s:List Int) (p_v:Int):Option Bool:=(slicesN76 n p_s p_v).bind fun x1=>some (decide (x1≥0))
theorem le_slicesN17 n p_s p_v:Le0 (slicesN34 n p_s p_v) (slicesN33 p_s p_v):=by
 unfold slicesN34 slicesN33
 with_reducible repeat' first | apply le_slicesN33 | refine B0 ?_ fun _=>?_ | apply I0 | apply K0 | apply O0 | exact R0
def chainN20 (n:Nat) (p_c:api_Chain) (p_disks:List api_Disk) (s1:Int):Option ((Int)⊕Bool):=if (decide (s1 < (p_c.Servers.length:Int))) then (idx p_c.Servers s1).bind fun x1=>((if (decide (x1 < 0)) then some true else some (decide (x1≥(p_disks.length:Int)))).bind fun c1=>(if c1 then some true else chk ((0:Int)≤s1∧s1≤(p_c.Servers.length:Int)) ((slicesN34 n (p_c.Servers.take s1.toNat) x1).bind fun x2=>some x2)).bind fun c2=>some c2).bind fun v2=>if v2 then out (some false) else chk (InI64 (s1+1)) (some (.inl (s1+1))) else out (chainN21 p_c ())
theorem le_chainN13 n p_c p_disks s1:Le0 (chainN20 n p_c p_disks s1) (chainN19 p_c p_disks s1):=by
 unfold chainN20 chainN19
 with_reducible repeat' first | apply le_slicesN17 | refine B0 ?_ fun _=>?_ | apply I0 | apply K0 | apply O0 | exact R0
def chainN23 (n:Nat) (p_c:api_Chain) (p_disks:List api_Disk) (s1:Int):Option Bool:=loopN (chainN20 n p_c p_disks) n s1
theorem le_chainN14 n p_c p_disks s1:Le0 (chainN23 n p_c p_disks s1) (chainN22 p_c p_disks s1):=Le0.loop (fun s=>le_chainN13 n p_c p_disks s) n s1
def chainN18 (n:Nat) (p_c:api_Chain) (p_disks:List api_Disk):Option Bool:=chainN23 n p_c p_disks 0
theorem le_chainN12 n p_c p_disks:Le0 (chainN18 n p_c p_disks) (chain_Right p_c p_disks):=by
 unfold chainN18 chain_Right
 with_reducible repeat' first | apply le_chainN14 | refine B0 ?_ fun _=>?_ | apply I0 | apply K0 | apply O0 | exact R0
def slicesN64 (_n:Nat) (p_s:List Int) (p_f_c0_0:List api_Disk) (s1:Int):Option ((Int)⊕Int):=if (decide (s1 < (p_s.length:Int))) then (idx p_s s1).bind fun x1=>(chainN9 x1 p_f_c0_0).bind fun x2=>if x2 then out (some s1) else chk (InI64 (s1+1)) (some (.inl (s1+1))) else out (slicesN65 ())
theorem le_slicesN28 n p_s p_f_c0_0 s1:Le0 (slicesN64 n p_s p_f_c0_0 s1) (slicesN63 p_s p_f_c0_0 s1):=by
 unfold slicesN64 slicesN63
 with_reducible repeat' first | refine B0 ?_ fun _=>?_ | apply I0 | apply K0 | apply O0 | exact R0
def slicesN67 (n:Nat) (p_s:List Int) (p_f_c0_0:List api_Disk) (s1:Int):Option Int:=loopN (slicesN64 n p_s p_f_c0_0) n s1
theorem le_slicesN29 n p_s p_f_c0_0 s1:Le0 (slicesN67 n p_s p_f_c0_0 s1) (slicesN66 p_s p_f_c0_0 s1):=Le0.loop (fun s=>le_slicesN28 n p_s p_f_c0_0 s) n s1
def slicesN62 (n:Nat) (p_s:List Int) (p_f_c0_0:List api_Disk):Option Int:=slicesN67 n p_s p_f_c0_0 0
theorem le_slicesN27 n p_s p_f_c0_0:Le0 (slicesN62 n p_s p_f_c0_0) (slicesN61 p_s p_f_c0_0):=by
 unfold slicesN62 slicesN61
 with_reducible repeat' first | apply le_slicesN29 | refine B0 ?_ fun _=>?_ | apply I0 | apply K0 | apply O0 | exact R0
def slicesN30 (n:Nat) (p_s:List Int) (p_f_c0:List api_Disk):Option Bool:=(slicesN62 n p_s p_f_c0).bind fun x1=>some (decide (x1≥0))
theorem le_slicesN15 n p_s p_f_c0:Le0 (slicesN30 n p_s p_f_c0) (slicesN29 p_s p_f_c0):=by
 unfold slicesN30 slicesN29
 with_reducible repeat' first | apply le_slicesN27 | refine B0 ?_ fun _=>?_ | apply I0 | apply K0 | apply O0 | exact R0
def slicesN2 (_n:Nat) (p_s:List api_Disk):Option (List api_Disk):=chk (p_s.length * 56≤140737488355328) (some p_s)
theorem eq_slicesN1 (p_s:List api_Disk) (h:p_s.length * 56≤140737488355328):slicesN1 p_s=some p_s:=by
 unfold slicesN1
 refine Le0.clone fun b hb=>?_
 cases b with
 | true=>rw [hb rfl]; rfl
 | false =>
  rw [if_neg (by decide)]
  show chk _ _=_
  unfold chk
  rw [if_pos (by simpa using h)]; rfl
theorem le_slicesN1 n p_s:Le0 (slicesN2 n p_s) (slicesN1 p_s):=fun r hr=>by
 obtain ⟨h1,h2⟩:=chk_some hr
 cases h2
 exact eq_slicesN1 _ h1
def chainN33 (n:Nat) (p_c:api_Chain) (p_disks:List api_Disk) (p_data:List UInt8):Option (List api_Disk):=(slicesN2 n p_disks).bind fun x1=>some x1
theorem le_chainN19 n p_c p_disks p_data:Le0 (chainN33 n p_c p_disks p_data) (chainN32 p_c p_disks p_data):=by
 unfold chainN33 chainN32
 with_reducible repeat' first | apply le_slicesN1 | refine B0 ?_ fun _=>?_ | apply I0 | apply K0 | apply O0 | exact R0
def slicesN6 (_n:Nat) (p_s:List UInt8):Option (List UInt8):=chk (p_s.length * 1≤140737488355328) (some p_s)
theorem eq_slicesN3 (p_s:List UInt8) (h:p_s.length * 1≤140737488355328):slicesN5 p_s=some p_s:=by
 unfold slicesN5
 refine Le0.clone fun b hb=>?_
 cases b with
 | true=>rw [hb rfl]; rfl
 | false =>
  rw [if_neg (by decide)]
  show chk _ _=_
  unfold chk
  rw [if_pos (by simpa using h)]; rfl
theorem le_slicesN3 n p_s:Le0 (slicesN6 n p_s) (slicesN5 p_s):=fun r hr=>by
 obtain ⟨h1,h2⟩:=chk_some hr
 cases h2
 exact eq_slicesN3 _ h1
def sumN11 (_n:Nat) (s2:Int×Int):Option ((Int×Int)⊕Int):=if (decide (s2.2 < 4)) then (sum_half_1 s2.1).bind fun x1=>chk (InI64 (s2.2+1)) (some (.inl (x1,(s2.2+1)))) else out (some s2.1)
theorem le_sumN8 n s2:Le0 (sumN11 n s2) (sum_half_B2 s2):=by
 unfold sumN11 sum_half_B2
 with_reducible repeat' first | refine B0 ?_ fun _=>?_ | apply I0 | apply K0 | apply O0 | exact R0
def sumN13 (n:Nat) (s2:Int×Int):Option Int:=loopN (sumN11 n ) n s2
theorem le_sumN10 n s2:Le0 (sumN13 n s2) (sum_half_L2 s2):=Le0.loop (fun s=>le_sumN8 n  s) n s2
def sumN10 (n:Nat) (s1:Int×(List Int)):Option ((Int×(List Int))⊕(List Int)):=if (decide (s1.1 < 16)) then ((sumN13 n ((IntKind.u32.wrap s1.1),0)).bind fun v3=>(idx s1.2 s1.1).bind fun _=>chk (s1.1 < 16) (some (s1.2.set s1.1.toNat v3))).bind fun v2=>chk (InI64 (s1.1+1)) (some (.inl ((s1.1+1),v2))) else out (some s1.2)
theorem le_sumN7 n s1:Le0 (sumN10 n s1) (sum_half_B1 s1):=by
 unfold sumN10 sum_half_B1
 with_reducible repeat' first | apply le_sumN10 | refine B0 ?_ fun _=>?_ | apply I0 | apply K0 | apply O0 | exact R0
def sumN12 (n:Nat) (s1:Int×(List Int)):Option (List Int):=loopN (sumN10 n ) n s1
theorem le_sumN9 n s1:Le0 (sumN12 n s1) (sum_half_L1 s1):=Le0.loop (fun s=>le_sumN7 n  s) n s1
def sum_half' (n:Nat):Option (List Int):=(sumN12 n (0,(List.replicate 16 0))).bind fun v1=>chk (v1.length=16) (chk (v1.length=16) (chk (v1.length=16) (some v1)))
theorem le_sum_half n:Le0 (sum_half' n) sum_half:=by
 unfold sum_half' sum_half
 with_reducible repeat' first | apply le_sumN9 | refine B0 ?_ fun _=>?_ | apply I0 | apply K0 | apply O0 | exact R0
def sum_of_B1' (_n:Nat) (p_b:List UInt8) (p_t:List Int) (s1:Int×Int):Option ((Int×Int)⊕Int):=if (decide (s1.2 < (p_b.length:Int))) then (idx p_b s1.2).bind fun x1=>(idx p_t (andK .u32 (xorK .u32 s1.1 (x1.toNat:Int)) 15)).bind fun x2=>chk ((andK .u32 (xorK .u32 s1.1 (x1.toNat:Int)) 15) < 16) ((idx p_t (andK .u32 (xorK .u32 x2 (shrK .u32 (xorK .u32 s1.1 (x1.toNat:Int)) 4)) 15)).bind fun x3=>chk ((andK .u32 (xorK .u32 x2 (shrK .u32 (xorK .u32 s1.1 (x1.toNat:Int)) 4)) 15) < 16) (chk (InI64 (s1.2+1)) (some (.inl ((xorK .u32 x3 (shrK .u32 (xorK .u32 x2 (shrK .u32 (xorK .u32 s1.1 (x1.toNat:Int)) 4)) 4)),(s1.2+1)))))) else out (some s1.1)
theorem le_sumN11 n p_b p_t s1:Le0 (sum_of_B1' n p_b p_t s1) (sum_of_B1 p_b p_t s1):=by
 unfold sum_of_B1' sum_of_B1
 with_reducible repeat' first | refine B0 ?_ fun _=>?_ | apply I0 | apply K0 | apply O0 | exact R0
def sum_of_L1' (n:Nat) (p_b:List UInt8) (p_t:List Int) (s1:Int×Int):Option Int:=loopN (sum_of_B1' n p_b p_t) n s1
theorem le_sumN12 n p_b p_t s1:Le0 (sum_of_L1' n p_b p_t s1) (sum_of_L1 p_b p_t s1):=Le0.loop (fun s=>le_sumN11 n p_b p_t s) n s1
def sum_of' (n:Nat) (p_t:List Int) (p_b:List UInt8):Option Int:=(sum_of_L1' n p_b p_t (4294967295,0)).bind fun v1=>some (IntKind.i64.wrap (xorK .u32 v1 4294967295))
theorem le_sum_of n p_t p_b:Le0 (sum_of' n p_t p_b) (sum_of p_t p_b):=by
 unfold sum_of' sum_of
 with_reducible repeat' first | apply le_sumN12 | refine B0 ?_ fun _=>?_ | apply I0 | apply K0 | apply O0 | exact R0
def sumN2 (n:Nat) (x1:(List Int)) (s1:(List UInt8)×(List Int)):Option (((List UInt8)×(List Int))⊕(List Int)):=if (decide ((s1.1.length:Int) > 0)) then chk (x1.length=16) (chk ((0:Int)≤(min (s1.1.length:Int) 16)∧(min (s1.1.length:Int) 16)≤(s1.1.length:Int)) ((sum_of' n x1 (s1.1.take (min (s1.1.length:Int) 16).toNat)).bind fun x2=>chk ((s1.2.length+([x2]).length) * 8≤140737488355328) (chk ((0:Int)≤(min (s1.1.length:Int) 16)∧(min (s1.1.length:Int) 16)≤(s1.1.length:Int)) (some (.inl ((s1.1.drop (min (s1.1.length:Int) 16).toNat),(s1.2++[x2]))))))) else out (some s1.2)
theorem le_sumN2 n x1 s1:Le0 (sumN2 n x1 s1) (sumN1 x1 s1):=by
 unfold sumN2 sumN1
 with_reducible repeat' first | apply le_sum_of | refine B0 ?_ fun _=>?_ | apply I0 | apply K0 | apply O0 | exact R0
def sumN4 (n:Nat) (x1:(List Int)) (s1:(List UInt8)×(List Int)):Option (List Int):=loopN (sumN2 n x1) n s1
theorem le_sumN3 n x1 s1:Le0 (sumN4 n x1 s1) (sumN3 x1 s1):=Le0.loop (fun s=>le_sumN2 n x1 s) n s1
def sum_Blocks' (n:Nat) (p_data:List UInt8):Option (List Int):=(sum_half' n).bind fun x1=>chk (x1.length=16) ((sumN4 n x1 (p_data,[])).bind fun v1=>some v1)
theorem le_sumN1 n p_data:Le0 (sum_Blocks' n p_data) (sum_Blocks p_data):=by
 unfold sum_Blocks' sum_Blocks
 with_reducible repeat' first | apply le_sum_half | apply le_sumN3 | refine B0 ?_ fun _=>?_ | apply I0 | apply K0 | apply O0 | exact R0
def chunk_New' (n:Nat) (p_id:Int) (p_ver:Int) (p_data:List UInt8):Option api_Copy:=(slicesN6 n p_data).bind fun x1=>(sum_Blocks' n p_data).bind fun x2=>some (⟨p_id,p_ver,x1,x2⟩:api_Copy)
theorem le_chunkN2 n p_id p_ver p_data:Le0 (chunk_New' n p_id p_ver p_data) (chunk_New p_id p_ver p_data):=by
 unfold chunk_New' chunk_New
 with_reducible repeat' first | apply le_slicesN3 | apply le_sumN1 | refine B0 ?_ fun _=>?_ | apply I0 | apply K0 | apply O0 | exact R0
def sumN6 (_n:Nat) (x1:(List Int)) (p_sums:List Int) (s1:Int):Option ((Int)⊕Int):=if (decide (s1 < (min (x1.length:Int) (p_sums.length:Int)))) then (idx x1 s1).bind fun x2=>(idx p_sums s1).bind fun x3=>if (x2 != x3) then out (some s1) else chk (InI64 (s1+1)) (some (.inl (s1+1))) else out (sumN7 x1 p_sums ())
theorem le_sumN5 n x1 p_sums s1:Le0 (sumN6 n x1 p_sums s1) (sumN5 x1 p_sums s1):=by
 unfold sumN6 sumN5
 with_reducible repeat' first | refine B0 ?_ fun _=>?_ | apply I0 | apply K0 | apply O0 | exact R0
def sumN9 (n:Nat) (x1:(List Int)) (p_sums:List Int) (s1:Int):Option Int:=loopN (sumN6 n x1 p_sums) n s1
theorem le_sumN6 n x1 p_sums s1:Le0 (sumN9 n x1 p_sums s1) (sumN8 x1 p_sums s1):=Le0.loop (fun s=>le_sumN5 n x1 p_sums s) n s1
def sum_Check' (n:Nat) (p_data:List UInt8) (p_sums:List Int):Option Int:=(sum_Blocks' n p_data).bind fun x1=>sumN9 n x1 p_sums 0
theorem le_sumN4 n p_data p_sums:Le0 (sum_Check' n p_data p_sums) (sum_Check p_data p_sums):=by
 unfold sum_Check' sum_Check
 with_reducible repeat' first | apply le_sumN1 | apply le_sumN6 | refine B0 ?_ fun _=>?_ | apply I0 | apply K0 | apply O0 | exact R0
def chunk_may' (n:Nat) (p_c:api_Copy):Option Bool:=((chunkN16 p_c.Id).bind fun x1=>(if x1 then some (decide (p_c.Ver≥0)) else some false).bind fun c1=>(if c1 then some (decide (p_c.Ver≤1099511627776)) else some false).bind fun c2=>(if c2 then some (decide ((p_c.Data.length:Int)≤64)) else some false).bind fun c3=>(if c3 then (sum_Check' n p_c.Data p_c.Sums).bind fun x2=>some (x2 == (-1)) else some false).bind fun c4=>some c4).bind fun v1=>some v1
theorem le_chunkN4 n p_c:Le0 (chunk_may' n p_c) (chunk_may p_c):=by
 unfold chunk_may' chunk_may
 with_reducible repeat' first | apply le_sumN4 | refine B0 ?_ fun _=>?_ | apply I0 | apply K0 | apply O0 | exact R0
def packN1 (_n:Nat) (s1:Int×(List UInt8)):Option ((Int×(List UInt8))⊕(Int×(List UInt8))):=if (decide (s1.1≥128)) then chk ((s1.2.length+([((toU8 s1.1) ||| (128:UInt8))]).length) * 1≤140737488355328) (some (.inl ((shrK .u64 s1.1 7),(s1.2++[((toU8 s1.1) ||| (128:UInt8))])))) else out (some (s1.1,s1.2))
theorem le_packN1 n s1:Le0 (packN1 n s1) (pack_Int_B1 s1):=by
 unfold packN1 pack_Int_B1
 with_reducible repeat' first | refine B0 ?_ fun _=>?_ | apply I0 | apply K0 | apply O0 | exact R0
def packN2 (n:Nat) (s1:Int×(List UInt8)):Option (Int×(List UInt8)):=loopN (packN1 n ) n s1
theorem le_packN2 n s1:Le0 (packN2 n s1) (pack_Int_L1 s1):=Le0.loop (fun s=>le_packN1 n  s) n s1
def pack_Int' (n:Nat) (p_n:Int):Option (List UInt8):=(packN2 n ((xorK .u64 (shlK .u64 (IntKind.u64.wrap p_n) 1) (IntKind.u64.wrap (shrK .i64 p_n 63))),[])).bind fun v1=>chk ((v1.2.length+([(toU8 v1.1)]).length) * 1≤140737488355328) (some (v1.2++[(toU8 v1.1)]))
theorem le_pack_Int n p_n:Le0 (pack_Int' n p_n) (pack_Int p_n):=by
 unfold pack_Int' pack_Int
 with_reducible repeat' first | apply le_packN2 | refine B0 ?_ fun _=>?_ | apply I0 | apply K0 | apply O0 | exact R0
def pack_Str' (n:Nat) (p_s:List UInt8):Option (List UInt8):=(pack_Int' n (p_s.length:Int)).bind fun x1=>chk ((x1.length+p_s.length) * 1≤140737488355328) (some (x1++p_s))
theorem le_pack_Str n p_s:Le0 (pack_Str' n p_s) (pack_Str p_s):=by
 unfold pack_Str' pack_Str
 with_reducible repeat' first | apply le_pack_Int | refine B0 ?_ fun _=>?_ | apply I0 | apply K0 | apply O0 | exact R0
def packN21 (n:Nat) (p_l:List Int) (s1:Int×(List UInt8)):Option ((Int×(List UInt8))⊕(List UInt8)):=if (decide (s1.1 < (p_l.length:Int))) then (idx p_l s1.1).bind fun x1=>(pack_Int' n x1).bind fun x2=>chk ((s1.2.length+x2.length) * 1≤140737488355328) (chk (InI64 (s1.1+1)) (some (.inl ((s1.1+1),(s1.2++x2))))) else out (some s1.2)
theorem le_packN12 n p_l s1:Le0 (packN21 n p_l s1) (packN20 p_l s1):=by
 unfold packN21 packN20
 with_reducible repeat' first | apply le_pack_Int | refine B0 ?_ fun _=>?_ | apply I0 | apply K0 | apply O0 | exact R0
def packN23 (n:Nat) (p_l:List Int) (s1:Int×(List UInt8)):Option (List UInt8):=loopN (packN21 n p_l) n s1
theorem le_packN13 n p_l s1:Le0 (packN23 n p_l s1) (packN22 p_l s1):=Le0.loop (fun s=>le_packN12 n p_l s) n s1
def packN19 (n:Nat) (p_l:List Int):Option (List UInt8):=(packN23 n p_l (0,[])).bind fun v1=>some v1
theorem le_packN11 n p_l:Le0 (packN19 n p_l) (packN18 p_l):=by
 unfold packN19 packN18
 with_reducible repeat' first | apply le_packN13 | refine B0 ?_ fun _=>?_ | apply I0 | apply K0 | apply O0 | exact R0
def pack_Ints' (n:Nat) (p_l:List Int):Option (List UInt8):=(pack_Int' n (p_l.length:Int)).bind fun x1=>(packN19 n p_l).bind fun x2=>chk ((x1.length+x2.length) * 1≤140737488355328) (some (x1++x2))
theorem le_packN3 n p_l:Le0 (pack_Ints' n p_l) (pack_Ints p_l):=by
 unfold pack_Ints' pack_Ints
 with_reducible repeat' first | apply le_pack_Int | apply le_packN11 | refine B0 ?_ fun _=>?_ | apply I0 | apply K0 | apply O0 | exact R0
def slicesN22 (_n:Nat) (p_slices:List (List UInt8)) (s1:Int×Int):Option ((Int×Int)⊕Int):=if (decide (s1.2 < (p_slices.length:Int))) then ((idx p_slices s1.2).bind fun x1=>chk (InI64 (s1.1+(x1.length:Int))) (if (decide ((s1.1+(x1.length:Int)) < 0)) then none else some (s1.1+(x1.length:Int)))).bind fun v2=>chk (InI64 (s1.2+1)) (some (.inl (v2,(s1.2+1)))) else out (some s1.1)
theorem le_slicesN11 n p_slices s1:Le0 (slicesN22 n p_slices s1) (slicesN21 p_slices s1):=by
 unfold slicesN22 slicesN21
 with_reducible repeat' first | refine B0 ?_ fun _=>?_ | apply I0 | apply K0 | apply O0 | exact R0
def slicesN26 (n:Nat) (p_slices:List (List UInt8)) (s1:Int×Int):Option Int:=loopN (slicesN22 n p_slices) n s1
theorem le_slicesN13 n p_slices s1:Le0 (slicesN26 n p_slices s1) (slicesN25 p_slices s1):=Le0.loop (fun s=>le_slicesN11 n p_slices s) n s1
def slicesN24 (_n:Nat) (p_slices:List (List UInt8)) (s2:Int×(List UInt8)):Option ((Int×(List UInt8))⊕(List UInt8)):=if (decide (s2.1 < (p_slices.length:Int))) then (idx p_slices s2.1).bind fun x3=>chk ((s2.2.length+x3.length) * 1≤140737488355328) (chk (InI64 (s2.1+1)) (some (.inl ((s2.1+1),(s2.2++x3))))) else out (some s2.2)
theorem le_slicesN12 n p_slices s2:Le0 (slicesN24 n p_slices s2) (slicesN23 p_slices s2):=by
 unfold slicesN24 slicesN23
 with_reducible repeat' first | refine B0 ?_ fun _=>?_ | apply I0 | apply K0 | apply O0 | exact R0
def slicesN28 (n:Nat) (p_slices:List (List UInt8)) (s2:Int×(List UInt8)):Option (List UInt8):=loopN (slicesN24 n p_slices) n s2
theorem le_slicesN14 n p_slices s2:Le0 (slicesN28 n p_slices s2) (slicesN27 p_slices s2):=Le0.loop (fun s=>le_slicesN12 n p_slices s) n s2
def slicesN20 (n:Nat) (p_slices:List (List UInt8)):Option (List UInt8):=(slicesN26 n p_slices (0,0)).bind fun v1=>(slicesN42 v1).bind fun x2=>(slicesN28 n p_slices (0,x2)).bind fun v3=>some v3
theorem le_slicesN10 n p_slices:Le0 (slicesN20 n p_slices) (slicesN19 p_slices):=by
 unfold slicesN20 slicesN19
 with_reducible repeat' first | apply le_slicesN13 | apply le_slicesN14 | refine B0 ?_ fun _=>?_ | apply I0 | apply K0 | apply O0 | exact R0
def sum_Of' (n:Nat) (p_b:List UInt8):Option Int:=(sum_half' n).bind fun x1=>(sum_of' n x1 p_b).bind fun x2=>some x2
theorem le_sum_Of n p_b:Le0 (sum_Of' n p_b) (sum_Of p_b):=by
 unfold sum_Of' sum_Of
 with_reducible repeat' first | apply le_sum_half | apply le_sum_of | refine B0 ?_ fun _=>?_ | apply I0 | apply K0 | apply O0 | exact R0
def chunkN2 (_n:Nat) (x6:Int) (s1:Int×(List UInt8)):Option ((Int×(List UInt8))⊕(List UInt8)):=if (decide (s1.1 < 4)) then chk (InI64 (8 * s1.1)) (chk ((0:Int)≤(8 * s1.1)) (chk ((s1.2.length+([(toU8 (shrK .i64 x6 (8 * s1.1)))]).length) * 1≤140737488355328) (chk (InI64 (s1.1+1)) (some (.inl ((s1.1+1),(s1.2++[(toU8 (shrK .i64 x6 (8 * s1.1)))]))))))) else out (some s1.2)
theorem le_chunkN6 n x6 s1:Le0 (chunkN2 n x6 s1) (chunkN1 x6 s1):=by
 unfold chunkN2 chunkN1
 with_reducible repeat' first | refine B0 ?_ fun _=>?_ | apply I0 | apply K0 | apply O0 | exact R0
def chunkN4 (n:Nat) (x6:Int) (s1:Int×(List UInt8)):Option (List UInt8):=loopN (chunkN2 n x6) n s1
theorem le_chunkN7 n x6 s1:Le0 (chunkN4 n x6 s1) (chunkN3 x6 s1):=Le0.loop (fun s=>le_chunkN6 n x6 s) n s1
def chunk_page' (n:Nat) (p_c:api_Copy):Option (List UInt8):=(pack_Int' n p_c.Id).bind fun x1=>(pack_Int' n p_c.Ver).bind fun x2=>(pack_Str' n p_c.Data).bind fun x3=>(pack_Ints' n p_c.Sums).bind fun x4=>(slicesN20 n ([x1,x2,x3,x4])).bind fun x5=>(sum_Of' n x5).bind fun x6=>(chunkN4 n x6 (0,x5)).bind fun v1=>some v1
theorem le_chunkN5 n p_c:Le0 (chunk_page' n p_c) (chunk_page p_c):=by
 unfold chunk_page' chunk_page
 with_reducible repeat' first | apply le_pack_Int | apply le_pack_Str | apply le_packN3 | apply le_slicesN10 | apply le_sum_Of | apply le_chunkN7 | refine B0 ?_ fun _=>?_ | apply I0 | apply K0 | apply O0 | exact R0
def slicesN4 (_n:Nat) (p_s:List api_Page):Option (List api_Page):=chk (p_s.length * 32≤140737488355328) (some p_s)
theorem eq_slicesN2 (p_s:List api_Page) (h:p_s.length * 32≤140737488355328):slicesN3 p_s=some p_s:=by
 unfold slicesN3
 refine Le0.clone fun b hb=>?_
 cases b with
 | true=>rw [hb rfl]; rfl
 | false =>
  rw [if_neg (by decide)]
  show chk _ _=_
  unfold chk
  rw [if_pos (by simpa using h)]; rfl
theorem le_slicesN2 n p_s:Le0 (slicesN4 n p_s) (slicesN3 p_s):=fun r hr=>by
 obtain ⟨h1,h2⟩:=chk_some hr
 cases h2
 exact eq_slicesN2 _ h1
def bytesN1 (_n:Nat) (p_b:List UInt8):Option (List UInt8):=chk (p_b.length * 1≤140737488355328) (some p_b)
theorem eq_bytesN1 (p_b:List UInt8) (h:p_b.length * 1≤140737488355328):bytes_Clone p_b=some p_b:=by
 unfold bytes_Clone
 refine Le0.clone fun b hb=>?_
 cases b with
 | true=>rw [hb rfl]; rfl
 | false =>
  rw [if_neg (by decide)]
  show chk _ _=_
  unfold chk
  rw [if_pos (by simpa using h)]; rfl
theorem le_bytesN1 n p_b:Le0 (bytesN1 n p_b) (bytes_Clone p_b):=fun r hr=>by
 obtain ⟨h1,h2⟩:=chk_some hr
 cases h2
 exact eq_bytesN1 _ h1
def disk_Write' (n:Nat) (p_d:api_Disk) (p_at:Int) (p_data:List UInt8):Option (api_Disk×Int):=if p_d.Down then some (p_d,40) else (disk_may p_at p_data).bind fun x1=>if (!x1) then some (p_d,1) else (slicesN4 n p_d.Loose).bind fun x2=>(bytesN1 n p_data).bind fun x3=>chk ((x2.length+([(⟨p_at,x3⟩:api_Page)]).length) * 32≤140737488355328) (some ((⟨p_d.Synced,(x2++[(⟨p_at,x3⟩:api_Page)]),p_d.Down⟩:api_Disk),0))
theorem le_diskN3 n p_d p_at p_data:Le0 (disk_Write' n p_d p_at p_data) (disk_Write p_d p_at p_data):=by
 unfold disk_Write' disk_Write
 with_reducible repeat' first | apply le_slicesN2 | apply le_bytesN1 | refine B0 ?_ fun _=>?_ | apply I0 | apply K0 | apply O0 | exact R0
def chunk_Put' (n:Nat) (p_d:api_Disk) (p_c:api_Copy):Option (api_Disk×Int):=(chunk_may' n p_c).bind fun x1=>if (!x1) then some (p_d,1) else (chunk_page' n p_c).bind fun x2=>(disk_Write' n p_d p_c.Id x2).bind fun x3=>some (x3.1,x3.2)
theorem le_chunkN3 n p_d p_c:Le0 (chunk_Put' n p_d p_c) (chunk_Put p_d p_c):=by
 unfold chunk_Put' chunk_Put
 with_reducible repeat' first | apply le_chunkN4 | apply le_chunkN5 | apply le_diskN3 | refine B0 ?_ fun _=>?_ | apply I0 | apply K0 | apply O0 | exact R0
def slicesN12 (_n:Nat) (p_slices:List (List api_Page)) (s1:Int×Int):Option ((Int×Int)⊕Int):=if (decide (s1.2 < (p_slices.length:Int))) then ((idx p_slices s1.2).bind fun x1=>chk (InI64 (s1.1+(x1.length:Int))) (if (decide ((s1.1+(x1.length:Int)) < 0)) then none else some (s1.1+(x1.length:Int)))).bind fun v2=>chk (InI64 (s1.2+1)) (some (.inl (v2,(s1.2+1)))) else out (some s1.1)
theorem le_slicesN6 n p_slices s1:Le0 (slicesN12 n p_slices s1) (slicesN11 p_slices s1):=by
 unfold slicesN12 slicesN11
 with_reducible repeat' first | refine B0 ?_ fun _=>?_ | apply I0 | apply K0 | apply O0 | exact R0
def slicesN16 (n:Nat) (p_slices:List (List api_Page)) (s1:Int×Int):Option Int:=loopN (slicesN12 n p_slices) n s1
theorem le_slicesN8 n p_slices s1:Le0 (slicesN16 n p_slices s1) (slicesN15 p_slices s1):=Le0.loop (fun s=>le_slicesN6 n p_slices s) n s1
def slicesN14 (_n:Nat) (p_slices:List (List api_Page)) (s2:Int×(List api_Page)):Option ((Int×(List api_Page))⊕(List api_Page)):=if (decide (s2.1 < (p_slices.length:Int))) then (idx p_slices s2.1).bind fun x3=>chk ((s2.2.length+x3.length) * 32≤140737488355328) (chk (InI64 (s2.1+1)) (some (.inl ((s2.1+1),(s2.2++x3))))) else out (some s2.2)
theorem le_slicesN7 n p_slices s2:Le0 (slicesN14 n p_slices s2) (slicesN13 p_slices s2):=by
 unfold slicesN14 slicesN13
 with_reducible repeat' first | refine B0 ?_ fun _=>?_ | apply I0 | apply K0 | apply O0 | exact R0
def slicesN18 (n:Nat) (p_slices:List (List api_Page)) (s2:Int×(List api_Page)):Option (List api_Page):=loopN (slicesN14 n p_slices) n s2
theorem le_slicesN9 n p_slices s2:Le0 (slicesN18 n p_slices s2) (slicesN17 p_slices s2):=Le0.loop (fun s=>le_slicesN7 n p_slices s) n s2
def slicesN10 (n:Nat) (p_slices:List (List api_Page)):Option (List api_Page):=(slicesN16 n p_slices (0,0)).bind fun v1=>(slicesN41 v1).bind fun x2=>(slicesN18 n p_slices (0,x2)).bind fun v3=>some v3
theorem le_slicesN5 n p_slices:Le0 (slicesN10 n p_slices) (slicesN9 p_slices):=by
 unfold slicesN10 slicesN9
 with_reducible repeat' first | apply le_slicesN8 | apply le_slicesN9 | refine B0 ?_ fun _=>?_ | apply I0 | apply K0 | apply O0 | exact R0
def diskN5 (_n:Nat) (x1:(List api_Page)) (s1:Int×(List (Int×api_Page))):Option ((Int×(List (Int×api_Page)))⊕(List (Int×api_Page))):=if (decide (s1.1 < (x1.length:Int))) then (idx x1 s1.1).bind fun x2=>chk (InI64 x2.At∧s1.2.length < 140737488355328) (chk (InI64 (s1.1+1)) (some (.inl ((s1.1+1),(mset x2.At x2 s1.2))))) else out (some s1.2)
theorem le_diskN6 n x1 s1:Le0 (diskN5 n x1 s1) (diskN4 x1 s1):=by
 unfold diskN5 diskN4
 with_reducible repeat' first | refine B0 ?_ fun _=>?_ | apply I0 | apply K0 | apply O0 | exact R0
def diskN9 (n:Nat) (x1:(List api_Page)) (s1:Int×(List (Int×api_Page))):Option (List (Int×api_Page)):=loopN (diskN5 n x1) n s1
theorem le_diskN8 n x1 s1:Le0 (diskN9 n x1 s1) (diskN8 x1 s1):=Le0.loop (fun s=>le_diskN6 n x1 s) n s1
def diskN7 (_n:Nat) (x3:List Int) (v1:(List (Int×api_Page))) (s2:Int×(List api_Page)):Option ((Int×(List api_Page))⊕(List api_Page)):=if (decide (s2.1 < (x3.length:Int))) then (idx x3 s2.1).bind fun x4=>(some ((mget x4 v1).getD ((⟨0,[]⟩:api_Page):api_Page))).bind fun x5=>chk ((s2.2.length+([x5]).length) * 32≤140737488355328) (chk (InI64 (s2.1+1)) (some (.inl ((s2.1+1),(s2.2++[x5]))))) else out (some s2.2)
theorem le_diskN7 n x3 v1 s2:Le0 (diskN7 n x3 v1 s2) (diskN6 x3 v1 s2):=by
 unfold diskN7 diskN6
 with_reducible repeat' first | refine B0 ?_ fun _=>?_ | apply I0 | apply K0 | apply O0 | exact R0
def diskN11 (n:Nat) (x3:List Int) (v1:(List (Int×api_Page))) (s2:Int×(List api_Page)):Option (List api_Page):=loopN (diskN7 n x3 v1) n s2
theorem le_diskN9 n x3 v1 s2:Le0 (diskN11 n x3 v1 s2) (diskN10 x3 v1 s2):=Le0.loop (fun s=>le_diskN7 n x3 v1 s) n s2
def disk_laid' (n:Nat) (p_l:List api_Page) (p_over:List api_Page):Option (List api_Page):=((slicesN10 n ([p_l,p_over])).bind fun x1=>diskN9 n x1 (0,([]:List (Int×api_Page)))).bind fun v1=>(chk (v1.length * 8≤140737488355328) ((some (keysJ v1)).bind fun x3=>diskN11 n x3 v1 (0,[]))).bind fun v2=>some v2
theorem le_diskN5 n p_l p_over:Le0 (disk_laid' n p_l p_over) (disk_laid p_l p_over):=by
 unfold disk_laid' disk_laid
 simp only [keysJ_eq,sortJ_eq]
 with_reducible repeat' first | apply le_slicesN5 | apply le_diskN8 | apply le_diskN9 | refine B0 ?_ fun _=>?_ | apply I0 | apply K0 | apply O0 | exact R0
def disk_Sync' (n:Nat) (p_d:api_Disk):Option (api_Disk×Int):=if p_d.Down then some (p_d,40) else (disk_laid' n p_d.Synced p_d.Loose).bind fun x1=>some ((⟨x1,[],false⟩:api_Disk),0)
theorem le_diskN2 n p_d:Le0 (disk_Sync' n p_d) (disk_Sync p_d):=by
 unfold disk_Sync' disk_Sync
 with_reducible repeat' first | apply le_diskN5 | refine B0 ?_ fun _=>?_ | apply I0 | apply K0 | apply O0 | exact R0
def chainN35 (n:Nat) (p_server:Int) (p_h1:List api_Disk) (p_b2:api_Chain) (p_b3:List UInt8):Option (List api_Disk):=(idx p_h1 p_server).bind fun x1=>(chunk_New' n p_b2.Id p_b2.Ver p_b3).bind fun x2=>(chunk_Put' n x1 x2).bind fun x3=>(disk_Sync' n x3.1).bind fun x4=>(idx p_h1 p_server).bind fun _=>some (p_h1.set p_server.toNat x4.1)
theorem le_chainN20 n p_server p_h1 p_b2 p_b3:Le0 (chainN35 n p_server p_h1 p_b2 p_b3) (chainN34 p_server p_h1 p_b2 p_b3):=by
 unfold chainN35 chainN34
 with_reducible repeat' first | apply le_chunkN2 | apply le_chunkN3 | apply le_diskN2 | refine B0 ?_ fun _=>?_ | apply I0 | apply K0 | apply O0 | exact R0
def chainN11 (n:Nat) (p_servers:List Int) (p_id:Int) (x1:(List Int)) (p_data:List UInt8) (s1:Int×(List api_Disk)):Option ((Int×(List api_Disk))⊕(List api_Disk)):=if (decide (s1.1 < (p_servers.length:Int))) then (idx p_servers s1.1).bind fun x5=>(chainN35 n x5 s1.2 (⟨p_id,1,x1⟩:api_Chain) p_data).bind fun x6=>chk (InI64 (s1.1+1)) (some (.inl ((s1.1+1),x6))) else out (some s1.2)
theorem le_chainN6 n p_servers p_id x1 p_data s1:Le0 (chainN11 n p_servers p_id x1 p_data s1) (chainN10 p_servers p_id x1 p_data s1):=by
 unfold chainN11 chainN10
 with_reducible repeat' first | apply le_chainN20 | refine B0 ?_ fun _=>?_ | apply I0 | apply K0 | apply O0 | exact R0
def chainN13 (n:Nat) (p_servers:List Int) (p_id:Int) (x1:(List Int)) (p_data:List UInt8) (s1:Int×(List api_Disk)):Option (List api_Disk):=loopN (chainN11 n p_servers p_id x1 p_data) n s1
theorem le_chainN7 n p_servers p_id x1 p_data s1:Le0 (chainN13 n p_servers p_id x1 p_data s1) (chainN12 p_servers p_id x1 p_data s1):=Le0.loop (fun s=>le_chainN6 n p_servers p_id x1 p_data s) n s1
def chain_Make' (n:Nat) (p_id:Int) (p_servers:List Int) (p_disks:List api_Disk) (p_data:List UInt8):Option (api_Chain×(List api_Disk)×Int):=(slicesN8 n p_servers).bind fun x1=>((chainN18 n (⟨p_id,1,x1⟩:api_Chain) p_disks).bind fun x2=>(if (!x2) then some true else some (decide ((p_data.length:Int) > 64))).bind fun c1=>some c1).bind fun v1=>if v1 then some ((⟨0,0,[]⟩:api_Chain),p_disks,1) else (slicesN30 n p_servers p_disks).bind fun x3=>if x3 then some ((⟨0,0,[]⟩:api_Chain),p_disks,40) else (chainN33 n (⟨p_id,1,x1⟩:api_Chain) p_disks p_data).bind fun x4=>(chainN13 n p_servers p_id x1 p_data (0,x4)).bind fun v2=>some ((⟨p_id,1,x1⟩:api_Chain),v2,0)
theorem le_chainN5 n p_id p_servers p_disks p_data:Le0 (chain_Make' n p_id p_servers p_disks p_data) (chain_Make p_id p_servers p_disks p_data):=by
 unfold chain_Make' chain_Make
 with_reducible repeat' first | apply le_slicesN4 | apply le_chainN12 | apply le_slicesN15 | apply le_chainN19 | apply le_chainN7 | refine B0 ?_ fun _=>?_ | apply I0 | apply K0 | apply O0 | exact R0
def chainN26 (n:Nat) (p_c:api_Chain) (p_upto:Int) (p_data:List UInt8) (s1:Int×(List api_Disk)):Option ((Int×(List api_Disk))⊕((List api_Disk)×Bool)):=if (decide (s1.1 < (p_c.Servers.length:Int))) then (idx p_c.Servers s1.1).bind fun x2=>((if (decide (s1.1≥p_upto)) then some true else (idx s1.2 x2).bind fun x3=>some x3.Down).bind fun c1=>some c1).bind fun v2=>if v2 then out (some (s1.2,false)) else (chainN35 n x2 s1.2 p_c p_data).bind fun x4=>chk (InI64 (s1.1+1)) (some (.inl ((s1.1+1),x4))) else out (chainN27 s1.2)
theorem le_chainN16 n p_c p_upto p_data s1:Le0 (chainN26 n p_c p_upto p_data s1) (chainN25 p_c p_upto p_data s1):=by
 unfold chainN26 chainN25
 with_reducible repeat' first | apply le_chainN20 | refine B0 ?_ fun _=>?_ | apply I0 | apply K0 | apply O0 | exact R0
def chainN29 (n:Nat) (p_c:api_Chain) (p_upto:Int) (p_data:List UInt8) (s1:Int×(List api_Disk)):Option ((List api_Disk)×Bool):=loopN (chainN26 n p_c p_upto p_data) n s1
theorem le_chainN17 n p_c p_upto p_data s1:Le0 (chainN29 n p_c p_upto p_data s1) (chainN28 p_c p_upto p_data s1):=Le0.loop (fun s=>le_chainN16 n p_c p_upto p_data s) n s1
def chainN24 (n:Nat) (p_c:api_Chain) (p_disks:List api_Disk) (p_data:List UInt8) (p_upto:Int):Option ((List api_Disk)×Bool):=if (decide ((p_data.length:Int) > 64)) then some (p_disks,false) else (chainN33 n p_c p_disks p_data).bind fun x1=>chainN29 n p_c p_upto p_data (0,x1)
theorem le_chainN15 n p_c p_disks p_data p_upto:Le0 (chainN24 n p_c p_disks p_data p_upto) (chain_Write p_c p_disks p_data p_upto):=by
 unfold chainN24 chain_Write
 with_reducible repeat' first | apply le_chainN19 | apply le_chainN17 | refine B0 ?_ fun _=>?_ | apply I0 | apply K0 | apply O0 | exact R0
def slicesN85 (_n:Nat) (s1:Int×Int×(List api_Page)):Option ((Int×Int×(List api_Page))⊕(Unit×List api_Page)):=if (decide (s1.1 < s1.2.1)) then (idx s1.2.2 s1.2.1).bind fun x1=>(idx s1.2.2 s1.1).bind fun x2=>(idx s1.2.2 s1.1).bind fun _=>(idx (s1.2.2.set s1.1.toNat x1) s1.2.1).bind fun _=>chk (InI64 (s1.1+1)) (chk (InI64 (s1.2.1 - 1)) (some (.inl ((s1.1+1),(s1.2.1 - 1),((s1.2.2.set s1.1.toNat x1).set s1.2.1.toNat x2))))) else out (some ((),s1.2.2))
theorem le_slicesN37 n s1:Le0 (slicesN85 n s1) (slicesN84 s1):=by
 unfold slicesN85 slicesN84
 with_reducible repeat' first | refine B0 ?_ fun _=>?_ | apply I0 | apply K0 | apply O0 | exact R0
def slicesN87 (n:Nat) (s1:Int×Int×(List api_Page)):Option (Unit×List api_Page):=loopN (slicesN85 n ) n s1
theorem le_slicesN38 n s1:Le0 (slicesN87 n s1) (slicesN86 s1):=Le0.loop (fun s=>le_slicesN37 n  s) n s1
def slicesN83 (n:Nat) (self:List api_Page):Option (Unit×List api_Page):=chk (InI64 ((self.length:Int) - 1)) (slicesN87 n (0,((self.length:Int) - 1),self))
theorem le_slicesN36 n self:Le0 (slicesN83 n self) (slicesN82 self):=by
 unfold slicesN83 slicesN82
 with_reducible repeat' first | apply le_slicesN38 | refine B0 ?_ fun _=>?_ | apply I0 | apply K0 | apply O0 | exact R0
def slicesN46 (_n:Nat) (p_s:List api_Page) (p_f_c0_0:Int) (s1:Int):Option ((Int)⊕Int):=if (decide (s1 < (p_s.length:Int))) then (idx p_s s1).bind fun x1=>(disk_Read_1 x1 p_f_c0_0).bind fun x2=>if x2 then out (some s1) else chk (InI64 (s1+1)) (some (.inl (s1+1))) else out (slicesN47 ())
theorem le_slicesN22 n p_s p_f_c0_0 s1:Le0 (slicesN46 n p_s p_f_c0_0 s1) (slicesN45 p_s p_f_c0_0 s1):=by
 unfold slicesN46 slicesN45
 with_reducible repeat' first | refine B0 ?_ fun _=>?_ | apply I0 | apply K0 | apply O0 | exact R0
def slicesN49 (n:Nat) (p_s:List api_Page) (p_f_c0_0:Int) (s1:Int):Option Int:=loopN (slicesN46 n p_s p_f_c0_0) n s1
theorem le_slicesN23 n p_s p_f_c0_0 s1:Le0 (slicesN49 n p_s p_f_c0_0 s1) (slicesN48 p_s p_f_c0_0 s1):=Le0.loop (fun s=>le_slicesN22 n p_s p_f_c0_0 s) n s1
def slicesN44 (n:Nat) (p_s:List api_Page) (p_f_c0_0:Int):Option Int:=slicesN49 n p_s p_f_c0_0 0
theorem le_slicesN21 n p_s p_f_c0_0:Le0 (slicesN44 n p_s p_f_c0_0) (slicesN43 p_s p_f_c0_0):=by
 unfold slicesN44 slicesN43
 with_reducible repeat' first | apply le_slicesN23 | refine B0 ?_ fun _=>?_ | apply I0 | apply K0 | apply O0 | exact R0
def diskN2 (n:Nat) (p_l:List api_Page) (p_is_c0:Int):Option Int:=(slicesN44 n p_l p_is_c0).bind fun x1=>some x1
theorem le_diskN4 n p_l p_is_c0:Le0 (diskN2 n p_l p_is_c0) (diskN1 p_l p_is_c0):=by
 unfold diskN2 diskN1
 with_reducible repeat' first | apply le_slicesN21 | refine B0 ?_ fun _=>?_ | apply I0 | apply K0 | apply O0 | exact R0
def disk_Read' (n:Nat) (p_d:api_Disk) (p_at:Int):Option ((List UInt8)×Int):=if p_d.Down then some ([],40) else (disk_may p_at ([])).bind fun x1=>if (!x1) then some ([],1) else (slicesN10 n ([p_d.Synced,p_d.Loose])).bind fun x2=>(slicesN83 n x2).bind fun x3=>(diskN2 n x3.2 p_at).bind fun x4=>if (decide (x4 < 0)) then some ([],41) else (idx x3.2 x4).bind fun x5=>(bytesN1 n x5.Data).bind fun x6=>some (x6,0)
theorem le_diskN1 n p_d p_at:Le0 (disk_Read' n p_d p_at) (disk_Read p_d p_at):=by
 unfold disk_Read' disk_Read
 with_reducible repeat' first | apply le_slicesN5 | apply le_slicesN36 | apply le_diskN4 | apply le_bytesN1 | refine B0 ?_ fun _=>?_ | apply I0 | apply K0 | apply O0 | exact R0
def chunkN15 (n:Nat) (p_d:api_Disk) (p_id:Int):Option ((List UInt8)×Int):=(chunkN16 p_id).bind fun x1=>if (!x1) then some ([],1) else (disk_Read' n p_d p_id).bind fun x2=>((if (x2.2 == 0) then some ((x2.1.length:Int) == 0) else some false).bind fun c1=>some c1).bind fun v1=>if v1 then some ([],41) else some (x2.1,x2.2)
theorem le_chunkN13 n p_d p_id:Le0 (chunkN15 n p_d p_id) (chunk_there p_d p_id):=by
 unfold chunkN15 chunk_there
 with_reducible repeat' first | apply le_diskN1 | refine B0 ?_ fun _=>?_ | apply I0 | apply K0 | apply O0 | exact R0
def packN6 (_n:Nat) (p_b:List UInt8) (s1:Int×Int):Option ((Int×Int)⊕(Int×(List UInt8)×Int)):=if (decide (s1.2 < (p_b.length:Int))) then (idx p_b s1.2).bind fun x1=>((if (s1.2 == 9) then some (decide ((x1.toNat:Int) > 1)) else some false).bind fun c1=>some c1).bind fun v2=>if v2 then out (some (0,[],11)) else chk (InI64 (7 * s1.2)) (chk ((0:Int)≤(7 * s1.2)) (if (decide ((x1.toNat:Int)≥128)) then chk (InI64 (s1.2+1)) (some (.inl ((orK .u64 s1.1 (shlK .u64 ((x1 &&& (127:UInt8)).toNat:Int) (7 * s1.2))),(s1.2+1)))) else ((if ((x1.toNat:Int) == 0) then some (decide (s1.2 > 0)) else some false).bind fun c2=>some c2).bind fun v3=>if v3 then out (some (0,[],11)) else chk (InI64 (0 - (IntKind.i64.wrap (andK .u64 (orK .u64 s1.1 (shlK .u64 ((x1 &&& (127:UInt8)).toNat:Int) (7 * s1.2))) 1)))) (chk (InI64 (s1.2+1)) (chk ((0:Int)≤(s1.2+1)∧(s1.2+1)≤(p_b.length:Int)) (out (some ((xorK .i64 (IntKind.i64.wrap (shrK .u64 (orK .u64 s1.1 (shlK .u64 ((x1 &&& (127:UInt8)).toNat:Int) (7 * s1.2))) 1)) (0 - (IntKind.i64.wrap (andK .u64 (orK .u64 s1.1 (shlK .u64 ((x1 &&& (127:UInt8)).toNat:Int) (7 * s1.2))) 1)))),(p_b.drop (s1.2+1).toNat),0))))))) else out (packN7 ())
theorem le_packN5 n p_b s1:Le0 (packN6 n p_b s1) (packN5 p_b s1):=by
 unfold packN6 packN5
 with_reducible repeat' first | refine B0 ?_ fun _=>?_ | apply I0 | apply K0 | apply O0 | exact R0
def packN9 (n:Nat) (p_b:List UInt8) (s1:Int×Int):Option (Int×(List UInt8)×Int):=loopN (packN6 n p_b) n s1
theorem le_packN6 n p_b s1:Le0 (packN9 n p_b s1) (packN8 p_b s1):=Le0.loop (fun s=>le_packN5 n p_b s) n s1
def packN4 (n:Nat) (p_b:List UInt8):Option (Int×(List UInt8)×Int):=packN9 n p_b (0,0)
theorem le_packN4 n p_b:Le0 (packN4 n p_b) (packN3 p_b):=by
 unfold packN4 packN3
 with_reducible repeat' first | apply le_packN6 | refine B0 ?_ fun _=>?_ | apply I0 | apply K0 | apply O0 | exact R0
def chunkN10 (n:Nat) (self:chunk_reader):Option (Int×chunk_reader):=(packN4 n self.b_).bind fun x1=>((if self.bad_ then some true else some (x1.2.2 != 0)).bind fun c1=>some c1).bind fun v1=>if v1 then some (0,(⟨self.b_,true⟩:chunk_reader)) else some (x1.1,(⟨x1.2.1,self.bad_⟩:chunk_reader))
theorem le_chunkN10 n self:Le0 (chunkN10 n self) (chunkN9 self):=by
 unfold chunkN10 chunkN9
 with_reducible repeat' first | apply le_packN4 | refine B0 ?_ fun _=>?_ | apply I0 | apply K0 | apply O0 | exact R0
def chunkN8 (n:Nat) (self:chunk_reader):Option (Int×chunk_reader):=(chunkN10 n self).bind fun x1=>some (x1.1,x1.2)
theorem le_chunkN9 n self:Le0 (chunkN8 n self) (chunkN7 self):=by
 unfold chunkN8 chunkN7
 with_reducible repeat' first | apply le_chunkN10 | refine B0 ?_ fun _=>?_ | apply I0 | apply K0 | apply O0 | exact R0
def packN28 (n:Nat) (self:pack_reader):Option (Int×pack_reader):=if (self.e_ != 0) then some (0,self) else (packN4 n self.rest_.b_).bind fun x1=>some (x1.1,(⟨(⟨x1.2.1⟩:pack_rest),x1.2.2⟩:pack_reader))
theorem le_packN15 n self:Le0 (packN28 n self) (packN27 self):=by
 unfold packN28 packN27
 with_reducible repeat' first | apply le_packN4 | refine B0 ?_ fun _=>?_ | apply I0 | apply K0 | apply O0 | exact R0
def packN25 (n:Nat) (self:pack_reader):Option (Int×pack_reader):=(packN28 n self).bind fun x1=>if (x1.2.e_ != 0) then some (0,x1.2) else if (decide (x1.1 < 0)) then packN26 x1 11 else if (decide (x1.1 > (x1.2.rest_.b_.length:Int))) then packN26 x1 10 else some (x1.1,x1.2)
theorem le_packN14 n self:Le0 (packN25 n self) (packN24 self):=by
 unfold packN25 packN24
 with_reducible repeat' first | apply le_packN15 | refine B0 ?_ fun _=>?_ | apply I0 | apply K0 | apply O0 | exact R0
def packN30 (n:Nat) (self:pack_reader):Option ((List UInt8)×pack_reader):=(packN25 n self).bind fun x1=>if (x1.2.e_ != 0) then some ([],x1.2) else (packN31 x1.2 x1.1).bind fun x2=>some (x2.1,x2.2)
theorem le_packN16 n self:Le0 (packN30 n self) (packN29 self):=by
 unfold packN30 packN29
 with_reducible repeat' first | apply le_packN14 | refine B0 ?_ fun _=>?_ | apply I0 | apply K0 | apply O0 | exact R0
def packN17 (n:Nat) (p_b:List UInt8):Option ((List UInt8)×(List UInt8)×Int):=(packN30 n (⟨(⟨p_b⟩:pack_rest),0⟩:pack_reader)).bind fun x1=>if (x1.2.e_ != 0) then some ([],[],x1.2.e_) else some (x1.1,x1.2.rest_.b_,0)
theorem le_packN10 n p_b:Le0 (packN17 n p_b) (packN16 p_b):=by
 unfold packN17 packN16
 with_reducible repeat' first | apply le_packN16 | refine B0 ?_ fun _=>?_ | apply I0 | apply K0 | apply O0 | exact R0
def chunkN14 (n:Nat) (self:chunk_reader):Option ((List UInt8)×chunk_reader):=(packN17 n self.b_).bind fun x1=>((if self.bad_ then some true else some (x1.2.2 != 0)).bind fun c1=>some c1).bind fun v1=>if v1 then some ([],(⟨self.b_,true⟩:chunk_reader)) else some (x1.1,(⟨x1.2.1,self.bad_⟩:chunk_reader))
theorem le_chunkN12 n self:Le0 (chunkN14 n self) (chunkN13 self):=by
 unfold chunkN14 chunkN13
 with_reducible repeat' first | apply le_packN10 | refine B0 ?_ fun _=>?_ | apply I0 | apply K0 | apply O0 | exact R0
def packN13 (n:Nat) (x1:Int×pack_reader) (s1:Int×(List UInt8)×Int×(List Int)):Option ((Int×(List UInt8)×Int×(List Int))⊕((List UInt8)×Int×(List Int))):=if (decide (s1.1 < x1.1)) then (packN28 n (⟨(⟨s1.2.1⟩:pack_rest),s1.2.2.1⟩:pack_reader)).bind fun x2=>chk ((s1.2.2.2.length+([x2.1]).length) * 8≤140737488355328) (if (x2.2.e_ != 0) then out (some (x2.2.rest_.b_,x2.2.e_,(s1.2.2.2++[x2.1]))) else chk (InI64 (s1.1+1)) (some (.inl ((s1.1+1),x2.2.rest_.b_,x2.2.e_,(s1.2.2.2++[x2.1]))))) else out (some (s1.2.1,s1.2.2.1,s1.2.2.2))
theorem le_packN8 n x1 s1:Le0 (packN13 n x1 s1) (packN12 x1 s1):=by
 unfold packN13 packN12
 with_reducible repeat' first | apply le_packN15 | refine B0 ?_ fun _=>?_ | apply I0 | apply K0 | apply O0 | exact R0
def packN15 (n:Nat) (x1:Int×pack_reader) (s1:Int×(List UInt8)×Int×(List Int)):Option ((List UInt8)×Int×(List Int)):=loopN (packN13 n x1) n s1
theorem le_packN9 n x1 s1:Le0 (packN15 n x1 s1) (packN14 x1 s1):=Le0.loop (fun s=>le_packN8 n x1 s) n s1
def packN11 (n:Nat) (p_b:List UInt8):Option ((List Int)×(List UInt8)×Int):=((packN25 n (⟨(⟨p_b⟩:pack_rest),0⟩:pack_reader)).bind fun x1=>packN15 n x1 (0,x1.2.rest_.b_,x1.2.e_,[])).bind fun v1=>if (v1.2.1 != 0) then some ([],[],v1.2.1) else some (v1.2.2,v1.1,0)
theorem le_packN7 n p_b:Le0 (packN11 n p_b) (packN10 p_b):=by
 unfold packN11 packN10
 with_reducible repeat' first | apply le_packN14 | apply le_packN9 | refine B0 ?_ fun _=>?_ | apply I0 | apply K0 | apply O0 | exact R0
def chunkN12 (n:Nat) (self:chunk_reader):Option ((List Int)×chunk_reader):=(packN11 n self.b_).bind fun x1=>((if self.bad_ then some true else some (x1.2.2 != 0)).bind fun c1=>some c1).bind fun v1=>if v1 then some ([],(⟨self.b_,true⟩:chunk_reader)) else some (x1.1,(⟨x1.2.1,self.bad_⟩:chunk_reader))
theorem le_chunkN11 n self:Le0 (chunkN12 n self) (chunkN11 self):=by
 unfold chunkN12 chunkN11
 with_reducible repeat' first | apply le_packN7 | refine B0 ?_ fun _=>?_ | apply I0 | apply K0 | apply O0 | exact R0
def chunkN6 (n:Nat) (self:chunk_reader):Option ((api_Copy×Bool)×chunk_reader):=(chunkN8 n self).bind fun x1=>(chunkN8 n x1.2).bind fun x2=>(chunkN14 n x2.2).bind fun x3=>chk (x3.1.length≤140737488355328) ((chunkN12 n x3.2).bind fun x4=>((if (!x4.2.bad_) then some ((x4.2.b_.length:Int) == 0) else some false).bind fun c1=>some c1).bind fun v1=>some (((⟨x1.1,x2.1,x3.1,x4.1⟩:api_Copy),v1),x4.2))
theorem le_chunkN8 n self:Le0 (chunkN6 n self) (chunkN5 self):=by
 unfold chunkN6 chunkN5
 with_reducible repeat' first | apply le_chunkN9 | apply le_chunkN12 | apply le_chunkN11 | refine B0 ?_ fun _=>?_ | apply I0 | apply K0 | apply O0 | exact R0
def chunk_Get' (n:Nat) (p_d:api_Disk) (p_id:Int):Option (api_Copy×Int):=(chunkN15 n p_d p_id).bind fun x1=>if (x1.2 != 0) then some ((⟨0,0,[],[]⟩:api_Copy),x1.2) else if (decide ((x1.1.length:Int) < 4)) then some ((⟨0,0,[],[]⟩:api_Copy),251) else chk (InI64 ((x1.1.length:Int) - 4)) (chk ((0:Int)≤((x1.1.length:Int) - 4)∧((x1.1.length:Int) - 4)≤(x1.1.length:Int)) ((chunkN6 n (⟨(x1.1.take ((x1.1.length:Int) - 4).toNat),false⟩:chunk_reader)).bind fun x2=>((if (!x2.1.2) then some true else (chunk_may' n x2.1.1).bind fun x3=>some (!x3)).bind fun c1=>(if c1 then some true else some (x2.1.1.Id != p_id)).bind fun c2=>(if c2 then some true else (chunk_page' n x2.1.1).bind fun x4=>(bytes_Equal x4 x1.1).bind fun x5=>some (!x5)).bind fun c3=>some c3).bind fun v1=>if v1 then some ((⟨0,0,[],[]⟩:api_Copy),251) else some (x2.1.1,0)))
theorem le_chunkN1 n p_d p_id:Le0 (chunk_Get' n p_d p_id) (chunk_Get p_d p_id):=by
 unfold chunk_Get' chunk_Get
 with_reducible repeat' first | apply le_chunkN13 | apply le_chunkN8 | apply le_chunkN4 | apply le_chunkN5 | refine B0 ?_ fun _=>?_ | apply I0 | apply K0 | apply O0 | exact R0
def chain_Read' (n:Nat) (p_c:api_Chain) (p_disks:List api_Disk):Option ((List UInt8)×Int):=chk (InI64 ((p_c.Servers.length:Int) - 1)) ((idx p_c.Servers ((p_c.Servers.length:Int) - 1)).bind fun x1=>(idx p_disks x1).bind fun x2=>(chunk_Get' n x2 p_c.Id).bind fun x3=>if (x3.2 != 0) then some ([],x3.2) else if (x3.1.Ver != p_c.Ver) then some ([],250) else some (x3.1.Data,0))
theorem le_chainN11 n p_c p_disks:Le0 (chain_Read' n p_c p_disks) (chain_Read p_c p_disks):=by
 unfold chain_Read' chain_Read
 with_reducible repeat' first | apply le_chunkN1 | refine B0 ?_ fun _=>?_ | apply I0 | apply K0 | apply O0 | exact R0
def slicesN57 (_n:Nat) (p_s:List Int) (p_f_c0:Int) (p_f_c1:List api_Disk) (s1:Int):Option ((Int)⊕Int):=if (decide (s1 < (p_s.length:Int))) then (idx p_s s1).bind fun x1=>(chain_Cut_1 x1 p_f_c0 p_f_c1).bind fun x2=>if x2 then out (some s1) else chk (InI64 (s1+1)) (some (.inl (s1+1))) else out (slicesN58 ())
theorem le_slicesN25 n p_s p_f_c0 p_f_c1 s1:Le0 (slicesN57 n p_s p_f_c0 p_f_c1 s1) (slicesN56 p_s p_f_c0 p_f_c1 s1):=by
 unfold slicesN57 slicesN56
 with_reducible repeat' first | refine B0 ?_ fun _=>?_ | apply I0 | apply K0 | apply O0 | exact R0
def slicesN60 (n:Nat) (p_s:List Int) (p_f_c0:Int) (p_f_c1:List api_Disk) (s1:Int):Option Int:=loopN (slicesN57 n p_s p_f_c0 p_f_c1) n s1
theorem le_slicesN26 n p_s p_f_c0 p_f_c1 s1:Le0 (slicesN60 n p_s p_f_c0 p_f_c1 s1) (slicesN59 p_s p_f_c0 p_f_c1 s1):=Le0.loop (fun s=>le_slicesN25 n p_s p_f_c0 p_f_c1 s) n s1
def slicesN55 (n:Nat) (p_s:List Int) (p_f_c0:Int) (p_f_c1:List api_Disk):Option Int:=slicesN60 n p_s p_f_c0 p_f_c1 0
theorem le_slicesN24 n p_s p_f_c0 p_f_c1:Le0 (slicesN55 n p_s p_f_c0 p_f_c1) (slicesN54 p_s p_f_c0 p_f_c1):=by
 unfold slicesN55 slicesN54
 with_reducible repeat' first | apply le_slicesN26 | refine B0 ?_ fun _=>?_ | apply I0 | apply K0 | apply O0 | exact R0
def slicesN38 (_n:Nat) (p_b1:Int) (p_b2:List api_Disk) (s1:Int×Int×(List Int)):Option ((Int×Int×(List Int))⊕(Int×(List Int))):=if (decide (s1.2.1 < (s1.2.2.length:Int))) then ((idx s1.2.2 s1.2.1).bind fun x2=>(chainN1 x2 p_b1 p_b2).bind fun x3=>if (!x3) then (idx s1.2.2 s1.1).bind fun _=>chk (InI64 (s1.1+1)) (some ((s1.1+1),(s1.2.2.set s1.1.toNat x2))) else some (s1.1,s1.2.2)).bind fun v2=>chk (InI64 (s1.2.1+1)) (some (.inl (v2.1,(s1.2.1+1),v2.2))) else out (some (s1.1,s1.2.2))
theorem le_slicesN19 n p_b1 p_b2 s1:Le0 (slicesN38 n p_b1 p_b2 s1) (slicesN37 p_b1 p_b2 s1):=by
 unfold slicesN38 slicesN37
 with_reducible repeat' first | refine B0 ?_ fun _=>?_ | apply I0 | apply K0 | apply O0 | exact R0
def slicesN40 (n:Nat) (p_b1:Int) (p_b2:List api_Disk) (s1:Int×Int×(List Int)):Option (Int×(List Int)):=loopN (slicesN38 n p_b1 p_b2) n s1
theorem le_slicesN20 n p_b1 p_b2 s1:Le0 (slicesN40 n p_b1 p_b2 s1) (slicesN39 p_b1 p_b2 s1):=Le0.loop (fun s=>le_slicesN19 n p_b1 p_b2 s) n s1
def slicesN36 (n:Nat) (p_h0:List Int) (p_b1:Int) (p_b2:List api_Disk):Option (List Int):=(slicesN55 n p_h0 p_b1 p_b2).bind fun x1=>if (x1 == (-1)) then some p_h0 else (chk (InI64 (x1+1)) (slicesN40 n p_b1 p_b2 (x1,(x1+1),p_h0))).bind fun v1=>chk ((0:Int)≤v1.1∧v1.1≤(v1.2.length:Int)) (chk ((0:Int)≤v1.1∧v1.1≤((v1.2.take v1.1.toNat++List.replicate (v1.2.length - v1.1.toNat) (0:Int)).length:Int)) (some ((v1.2.take v1.1.toNat++List.replicate (v1.2.length - v1.1.toNat) (0:Int)).take v1.1.toNat)))
theorem le_slicesN18 n p_h0 p_b1 p_b2:Le0 (slicesN36 n p_h0 p_b1 p_b2) (slicesN35 p_h0 p_b1 p_b2):=by
 unfold slicesN36 slicesN35
 with_reducible repeat' first | apply le_slicesN24 | apply le_slicesN20 | refine B0 ?_ fun _=>?_ | apply I0 | apply K0 | apply O0 | exact R0
def chainN51 (n:Nat) (p_b3:api_Chain) (p_b4:List api_Disk) (s1:Int×LS×(List UInt8)×Bool):Option ((Int×LS×(List UInt8)×Bool)⊕(LS×(List UInt8)×Bool)):=if (decide (s1.1 < (p_b3.Servers.length:Int))) then (idx p_b3.Servers s1.1).bind fun x1=>(idx p_b4 x1).bind fun x2=>(chunk_Get' n x2 p_b3.Id).bind fun x3=>((if (x3.2 == 0) then some (x3.1.Ver == p_b3.Ver) else some false).bind fun c1=>(if c1 then chk (s1.2.1=.rdy) ((chainN31 x1 x3.1.Data s1.2.2.1 s1.2.2.2).bind fun _=>some ((!(LS.isR .ret)),.ret,x3.1.Data,true)) else some (false,s1.2.1,s1.2.2.1,s1.2.2.2)).bind fun (c2:Bool×LS×(List UInt8)×Bool)=>some (c2.1,c2.2.1,c2.2.2.1,c2.2.2.2)).bind fun v1=>if v1.1 then out (some (v1.2.1,v1.2.2.1,v1.2.2.2)) else chk (InI64 (s1.1+1)) (some (.inl ((s1.1+1),v1.2.1,v1.2.2.1,v1.2.2.2))) else out (some (s1.2.1,s1.2.2.1,s1.2.2.2))
theorem le_chainN28 n p_b3 p_b4 s1:Le0 (chainN51 n p_b3 p_b4 s1) (chainN50 p_b3 p_b4 s1):=by
 unfold chainN51 chainN50
 with_reducible repeat' first | apply le_chunkN1 | refine B0 ?_ fun _=>?_ | apply I0 | apply K0 | apply O0 | exact R0
def chainN53 (n:Nat) (p_b3:api_Chain) (p_b4:List api_Disk) (s1:Int×LS×(List UInt8)×Bool):Option (LS×(List UInt8)×Bool):=loopN (chainN51 n p_b3 p_b4) n s1
theorem le_chainN29 n p_b3 p_b4 s1:Le0 (chainN53 n p_b3 p_b4 s1) (chainN52 p_b3 p_b4 s1):=Le0.loop (fun s=>le_chainN28 n p_b3 p_b4 s) n s1
def chainN37 (n:Nat) (p_b2:Bool) (p_b3:api_Chain) (p_b4:List api_Disk):Option (LS×(List UInt8)×Bool):=chainN53 n p_b3 p_b4 (0,.rdy,[],p_b2)
theorem le_chainN21 n p_b2 p_b3 p_b4:Le0 (chainN37 n p_b2 p_b3 p_b4) (chainN36 p_b2 p_b3 p_b4):=by
 unfold chainN37 chainN36
 with_reducible repeat' first | apply le_chainN29 | refine B0 ?_ fun _=>?_ | apply I0 | apply K0 | apply O0 | exact R0
def chainN30 (n:Nat) (p_c:api_Chain) (p_disks:List api_Disk):Option ((List UInt8)×Bool):=(chain_whole p_c p_disks).bind fun _=>(chainN37 n false p_c p_disks).bind fun x2=>if x2.1=.rdy then some ([],false) else if x2.1=.ret then some (x2.2.1,x2.2.2) else none
theorem le_chainN18 n p_c p_disks:Le0 (chainN30 n p_c p_disks) (chain_first p_c p_disks):=by
 unfold chainN30 chain_first
 with_reducible repeat' first | apply le_chainN21 | refine B0 ?_ fun _=>?_ | apply I0 | apply K0 | apply O0 | exact R0
def chainN3 (n:Nat) (x3:(List Int)) (p_c:api_Chain) (x4:(List UInt8)×Bool) (s1:Int×(List api_Disk)):Option ((Int×(List api_Disk))⊕(List api_Disk)):=if (decide (s1.1 < (x3.length:Int))) then (idx x3 s1.1).bind fun x6=>(chainN35 n x6 s1.2 (⟨p_c.Id,(p_c.Ver+1),x3⟩:api_Chain) x4.1).bind fun x7=>chk (InI64 (s1.1+1)) (some (.inl ((s1.1+1),x7))) else out (some s1.2)
theorem le_chainN2 n x3 p_c x4 s1:Le0 (chainN3 n x3 p_c x4 s1) (chainN2 x3 p_c x4 s1):=by
 unfold chainN3 chainN2
 with_reducible repeat' first | apply le_chainN20 | refine B0 ?_ fun _=>?_ | apply I0 | apply K0 | apply O0 | exact R0
def chainN5 (n:Nat) (x3:(List Int)) (p_c:api_Chain) (x4:(List UInt8)×Bool) (s1:Int×(List api_Disk)):Option (List api_Disk):=loopN (chainN3 n x3 p_c x4) n s1
theorem le_chainN3 n x3 p_c x4 s1:Le0 (chainN5 n x3 p_c x4 s1) (chainN4 x3 p_c x4 s1):=Le0.loop (fun s=>le_chainN2 n x3 p_c x4 s) n s1
def chain_Cut' (n:Nat) (p_c:api_Chain) (p_disks:List api_Disk) (p_server:Int):Option (api_Chain×(List api_Disk)×Int):=(slicesN34 n p_c.Servers p_server).bind fun x1=>if (!x1) then some (p_c,p_disks,1) else if (decide (p_c.Ver≥1099511627776)) then some (p_c,p_disks,76) else (slicesN8 n p_c.Servers).bind fun x2=>(slicesN36 n x2 p_server p_disks).bind fun x3=>(chainN30 n (⟨p_c.Id,p_c.Ver,x3⟩:api_Chain) p_disks).bind fun x4=>if (!x4.2) then some (p_c,p_disks,260) else chk (InI64 (p_c.Ver+1)) ((chainN33 n (⟨p_c.Id,(p_c.Ver+1),x3⟩:api_Chain) p_disks x4.1).bind fun x5=>(chainN5 n x3 p_c x4 (0,x5)).bind fun v1=>some ((⟨p_c.Id,(p_c.Ver+1),x3⟩:api_Chain),v1,0))
theorem le_chainN1 n p_c p_disks p_server:Le0 (chain_Cut' n p_c p_disks p_server) (chain_Cut p_c p_disks p_server):=by
 unfold chain_Cut' chain_Cut
 with_reducible repeat' first | apply le_slicesN17 | apply le_slicesN4 | apply le_slicesN18 | apply le_chainN18 | apply le_chainN19 | apply le_chainN3 | refine B0 ?_ fun _=>?_ | apply I0 | apply K0 | apply O0 | exact R0
def chain_Mend' (n:Nat) (p_c:api_Chain) (p_disks:List api_Disk) (p_server:Int):Option (api_Chain×(List api_Disk)×Int):=((if (decide (p_server < 0)) then some true else some (decide (p_server≥(p_disks.length:Int)))).bind fun c1=>(if c1 then some true else (slicesN34 n p_c.Servers p_server).bind fun x1=>some x1).bind fun c2=>some c2).bind fun v1=>if v1 then some (p_c,p_disks,1) else if (decide ((p_c.Servers.length:Int)≥5)) then some (p_c,p_disks,76) else (idx p_disks p_server).bind fun x2=>if x2.Down then some (p_c,p_disks,40) else (chain_Read' n p_c p_disks).bind fun x3=>if (x3.2 != 0) then some (p_c,p_disks,x3.2) else (chainN33 n p_c p_disks x3.1).bind fun x4=>(chainN35 n p_server x4 p_c x3.1).bind fun x5=>(slicesN8 n p_c.Servers).bind fun x6=>chk ((x6.length+([p_server]).length) * 8≤140737488355328) (some ((⟨p_c.Id,p_c.Ver,(x6++[p_server])⟩:api_Chain),x5,0))
theorem le_chainN8 n p_c p_disks p_server:Le0 (chain_Mend' n p_c p_disks p_server) (chain_Mend p_c p_disks p_server):=by
 unfold chain_Mend' chain_Mend
 with_reducible repeat' first | apply le_slicesN17 | apply le_chainN11 | apply le_chainN19 | apply le_chainN20 | apply le_slicesN4 | refine B0 ?_ fun _=>?_ | apply I0 | apply K0 | apply O0 | exact R0
def law26N9 (_n:Nat) (p_l:List api_Disk) (p_at:Int) (p_d:api_Disk) (s1:Int×(List api_Disk)):Option ((Int×(List api_Disk))⊕(List api_Disk)):=if (decide (s1.1 < (p_l.length:Int))) then (if (s1.1 == p_at) then chk ((s1.2.length+([p_d]).length) * 56≤140737488355328) (some (s1.2++[p_d])) else (idx p_l s1.1).bind fun x1=>chk ((s1.2.length+([x1]).length) * 56≤140737488355328) (some (s1.2++[x1]))).bind fun v2=>chk (InI64 (s1.1+1)) (some (.inl ((s1.1+1),v2))) else out (some s1.2)
theorem le_law26N3 n p_l p_at p_d s1:Le0 (law26N9 n p_l p_at p_d s1) (law26N8 p_l p_at p_d s1):=by
 unfold law26N9 law26N8
 with_reducible repeat' first | refine B0 ?_ fun _=>?_ | apply I0 | apply K0 | apply O0 | exact R0
def law26N11 (n:Nat) (p_l:List api_Disk) (p_at:Int) (p_d:api_Disk) (s1:Int×(List api_Disk)):Option (List api_Disk):=loopN (law26N9 n p_l p_at p_d) n s1
theorem le_law26N4 n p_l p_at p_d s1:Le0 (law26N11 n p_l p_at p_d s1) (law26N10 p_l p_at p_d s1):=Le0.loop (fun s=>le_law26N3 n p_l p_at p_d s) n s1
def law26_with' (n:Nat) (p_l:List api_Disk) (p_at:Int) (p_d:api_Disk):Option (List api_Disk):=(law26N11 n p_l p_at p_d (0,[])).bind fun v1=>some v1
theorem le_law26N2 n p_l p_at p_d:Le0 (law26_with' n p_l p_at p_d) (law26_with p_l p_at p_d):=by
 unfold law26_with' law26_with
 with_reducible repeat' first | apply le_law26N4 | refine B0 ?_ fun _=>?_ | apply I0 | apply K0 | apply O0 | exact R0
def slicesN71 (_n:Nat) (p_s:List Int) (p_f_c0_0:List api_Disk) (s1:Int):Option ((Int)⊕Int):=if (decide (s1 < (p_s.length:Int))) then (idx p_s s1).bind fun x1=>(chainN15 x1 p_f_c0_0).bind fun x2=>if x2 then out (some s1) else chk (InI64 (s1+1)) (some (.inl (s1+1))) else out (slicesN72 ())
theorem le_slicesN31 n p_s p_f_c0_0 s1:Le0 (slicesN71 n p_s p_f_c0_0 s1) (slicesN70 p_s p_f_c0_0 s1):=by
 unfold slicesN71 slicesN70
 with_reducible repeat' first | refine B0 ?_ fun _=>?_ | apply I0 | apply K0 | apply O0 | exact R0
def slicesN74 (n:Nat) (p_s:List Int) (p_f_c0_0:List api_Disk) (s1:Int):Option Int:=loopN (slicesN71 n p_s p_f_c0_0) n s1
theorem le_slicesN32 n p_s p_f_c0_0 s1:Le0 (slicesN74 n p_s p_f_c0_0 s1) (slicesN73 p_s p_f_c0_0 s1):=Le0.loop (fun s=>le_slicesN31 n p_s p_f_c0_0 s) n s1
def slicesN69 (n:Nat) (p_s:List Int) (p_f_c0_0:List api_Disk):Option Int:=slicesN74 n p_s p_f_c0_0 0
theorem le_slicesN30 n p_s p_f_c0_0:Le0 (slicesN69 n p_s p_f_c0_0) (slicesN68 p_s p_f_c0_0):=by
 unfold slicesN69 slicesN68
 with_reducible repeat' first | apply le_slicesN32 | refine B0 ?_ fun _=>?_ | apply I0 | apply K0 | apply O0 | exact R0
def slicesN32 (n:Nat) (p_s:List Int) (p_f_c0:List api_Disk):Option Bool:=(slicesN69 n p_s p_f_c0).bind fun x1=>some (decide (x1≥0))
theorem le_slicesN16 n p_s p_f_c0:Le0 (slicesN32 n p_s p_f_c0) (slicesN31 p_s p_f_c0):=by
 unfold slicesN32 slicesN31
 with_reducible repeat' first | apply le_slicesN30 | refine B0 ?_ fun _=>?_ | apply I0 | apply K0 | apply O0 | exact R0
def chainN17 (n:Nat) (p_a1:Int) (p_a2:List UInt8) (p_b1:api_Chain) (p_b2:List api_Disk) (p_b3:List api_Disk) (p_b4:Int) (p_b5:Int) (p_b6:List UInt8) (p_b7:Bool) (p_b8:Bool):Option (LS×(List api_Disk)×Int×(List UInt8)×Bool×Bool):=(slicesN76 n p_b1.Servers p_a1).bind fun x1=>if (x1 == p_b5) then some (.ret,p_b2,0,p_b6,p_b7,p_b8) else if (!p_b8) then some (.rdy,p_b3,p_b4,p_a2,true,(decide (x1 > p_b5))) else some (.rdy,p_b3,p_b4,p_b6,p_b7,p_b8)
theorem le_chainN10 n p_a1 p_a2 p_b1 p_b2 p_b3 p_b4 p_b5 p_b6 p_b7 p_b8:Le0 (chainN17 n p_a1 p_a2 p_b1 p_b2 p_b3 p_b4 p_b5 p_b6 p_b7 p_b8) (chainN16 p_a1 p_a2 p_b1 p_b2 p_b3 p_b4 p_b5 p_b6 p_b7 p_b8):=by
 unfold chainN17 chainN16
 with_reducible repeat' first | apply le_slicesN33 | refine B0 ?_ fun _=>?_ | apply I0 | apply K0 | apply O0 | exact R0
def chainN41 (n:Nat) (p_b9:api_Chain) (p_b10:List api_Disk) (p_b1:api_Chain) (p_b2:List api_Disk) (p_b5:Int) (s1:Int×LS×(List api_Disk)×Int×(List UInt8)×Bool×Bool):Option ((Int×LS×(List api_Disk)×Int×(List UInt8)×Bool×Bool)⊕(LS×(List api_Disk)×Int×(List UInt8)×Bool×Bool)):=if (decide (s1.1 < (p_b9.Servers.length:Int))) then (idx p_b9.Servers s1.1).bind fun x1=>(idx p_b10 x1).bind fun x2=>(chunk_Get' n x2 p_b9.Id).bind fun x3=>((if (x3.2 == 0) then some (x3.1.Ver == p_b9.Ver) else some false).bind fun c1=>(if c1 then chk (s1.2.1=.rdy) ((chainN17 n x1 x3.1.Data p_b1 p_b2 s1.2.2.1 s1.2.2.2.1 p_b5 s1.2.2.2.2.1 s1.2.2.2.2.2.1 s1.2.2.2.2.2.2).bind fun x4=>some ((!(LS.isR x4.1)),x4.1,x4.2.1,x4.2.2.1,x4.2.2.2.1,x4.2.2.2.2.1,x4.2.2.2.2.2)) else some (false,s1.2.1,s1.2.2.1,s1.2.2.2.1,s1.2.2.2.2.1,s1.2.2.2.2.2.1,s1.2.2.2.2.2.2)).bind fun (c2:Bool×LS×(List api_Disk)×Int×(List UInt8)×Bool×Bool)=>some (c2.1,c2.2.1,c2.2.2.1,c2.2.2.2.1,c2.2.2.2.2.1,c2.2.2.2.2.2.1,c2.2.2.2.2.2.2)).bind fun v1=>if v1.1 then out (some (v1.2.1,v1.2.2.1,v1.2.2.2.1,v1.2.2.2.2.1,v1.2.2.2.2.2.1,v1.2.2.2.2.2.2)) else chk (InI64 (s1.1+1)) (some (.inl ((s1.1+1),v1.2.1,v1.2.2.1,v1.2.2.2.1,v1.2.2.2.2.1,v1.2.2.2.2.2.1,v1.2.2.2.2.2.2))) else out (some (s1.2.1,s1.2.2.1,s1.2.2.2.1,s1.2.2.2.2.1,s1.2.2.2.2.2.1,s1.2.2.2.2.2.2))
theorem le_chainN23 n p_b9 p_b10 p_b1 p_b2 p_b5 s1:Le0 (chainN41 n p_b9 p_b10 p_b1 p_b2 p_b5 s1) (chainN40 p_b9 p_b10 p_b1 p_b2 p_b5 s1):=by
 unfold chainN41 chainN40
 with_reducible repeat' first | apply le_chunkN1 | apply le_chainN10 | refine B0 ?_ fun _=>?_ | apply I0 | apply K0 | apply O0 | exact R0
def chainN43 (n:Nat) (p_b9:api_Chain) (p_b10:List api_Disk) (p_b1:api_Chain) (p_b2:List api_Disk) (p_b5:Int) (s1:Int×LS×(List api_Disk)×Int×(List UInt8)×Bool×Bool):Option (LS×(List api_Disk)×Int×(List UInt8)×Bool×Bool):=loopN (chainN41 n p_b9 p_b10 p_b1 p_b2 p_b5) n s1
theorem le_chainN24 n p_b9 p_b10 p_b1 p_b2 p_b5 s1:Le0 (chainN43 n p_b9 p_b10 p_b1 p_b2 p_b5 s1) (chainN42 p_b9 p_b10 p_b1 p_b2 p_b5 s1):=Le0.loop (fun s=>le_chainN23 n p_b9 p_b10 p_b1 p_b2 p_b5 s) n s1
def chainN39 (n:Nat) (p_b1:api_Chain) (p_b2:List api_Disk) (p_b4:Int) (p_b5:Int) (p_b7:Bool) (p_b8:Bool) (p_b9:api_Chain) (p_b10:List api_Disk):Option (LS×(List api_Disk)×Int×(List UInt8)×Bool×Bool):=chainN43 n p_b9 p_b10 p_b1 p_b2 p_b5 (0,.rdy,[],p_b4,[],p_b7,p_b8)
theorem le_chainN22 n p_b1 p_b2 p_b4 p_b5 p_b7 p_b8 p_b9 p_b10:Le0 (chainN39 n p_b1 p_b2 p_b4 p_b5 p_b7 p_b8 p_b9 p_b10) (chainN38 p_b1 p_b2 p_b4 p_b5 p_b7 p_b8 p_b9 p_b10):=by
 unfold chainN39 chainN38
 with_reducible repeat' first | apply le_chainN24 | refine B0 ?_ fun _=>?_ | apply I0 | apply K0 | apply O0 | exact R0
def chainN14 (n:Nat) (p_c:api_Chain) (p_disks:List api_Disk) (p_server:Int):Option ((List api_Disk)×Int):=(slicesN76 n p_c.Servers p_server).bind fun x1=>if (decide (x1 < 0)) then some (p_disks,1) else (slicesN32 n p_c.Servers p_disks).bind fun x2=>if x2 then some (p_disks,40) else (chain_whole p_c p_disks).bind fun _=>(chainN39 n p_c p_disks 0 x1 false false p_c p_disks).bind fun x4=>if x4.1=.rdy then if (!x4.2.2.2.2.1) then some (p_disks,260) else (chainN33 n p_c p_disks x4.2.2.2.1).bind fun x5=>(chainN35 n p_server x5 p_c x4.2.2.2.1).bind fun x6=>some (x6,0) else if x4.1=.ret then some (x4.2.1,x4.2.2.1) else none
theorem le_chainN9 n p_c p_disks p_server:Le0 (chainN14 n p_c p_disks p_server) (chain_Patch p_c p_disks p_server):=by
 unfold chainN14 chain_Patch
 with_reducible repeat' first | apply le_slicesN33 | apply le_slicesN16 | apply le_chainN22 | apply le_chainN19 | apply le_chainN20 | refine B0 ?_ fun _=>?_ | apply I0 | apply K0 | apply O0 | exact R0
def ref04N3 (_n:Nat) (p_a:List UInt8) (p_b:List UInt8) (s1:Int):Option ((Int)⊕Bool):=if (decide (s1 < (p_a.length:Int))) then (idx p_a s1).bind fun x1=>(idx p_b s1).bind fun x2=>if ((x1.toNat:Int) != (x2.toNat:Int)) then out (some false) else chk (InI64 (s1+1)) (some (.inl (s1+1))) else out (ref04N4 ())
theorem le_ref04N2 n p_a p_b s1:Le0 (ref04N3 n p_a p_b s1) (ref04N2 p_a p_b s1):=by
 unfold ref04N3 ref04N2
 with_reducible repeat' first | refine B0 ?_ fun _=>?_ | apply I0 | apply K0 | apply O0 | exact R0
def ref04N6 (n:Nat) (p_a:List UInt8) (p_b:List UInt8) (s1:Int):Option Bool:=loopN (ref04N3 n p_a p_b) n s1
theorem le_ref04N3 n p_a p_b s1:Le0 (ref04N6 n p_a p_b s1) (ref04N5 p_a p_b s1):=Le0.loop (fun s=>le_ref04N2 n p_a p_b s) n s1
def ref04N1 (n:Nat) (p_a:List UInt8) (p_b:List UInt8):Option Bool:=if ((p_a.length:Int) != (p_b.length:Int)) then some false else ref04N6 n p_a p_b 0
theorem le_ref04N1 n p_a p_b:Le0 (ref04N1 n p_a p_b) (ref04_Bytes p_a p_b):=by
 unfold ref04N1 ref04_Bytes
 with_reducible repeat' first | apply le_ref04N3 | refine B0 ?_ fun _=>?_ | apply I0 | apply K0 | apply O0 | exact R0
def chainN47 (n:Nat) (p_b2:api_Chain) (p_b3:List api_Disk) (s1:Int×(List Int)):Option ((Int×(List Int))⊕(List Int)):=if (decide (s1.1 < (p_b2.Servers.length:Int))) then (idx p_b2.Servers s1.1).bind fun x1=>(idx p_b3 x1).bind fun x2=>(chunk_Get' n x2 p_b2.Id).bind fun x3=>((if (x3.2 == 0) then some (x3.1.Ver == p_b2.Ver) else some false).bind fun c1=>(if c1 then (chainN8 x1 x3.1.Data s1.2).bind fun _=>some ((!true),(s1.2++[x1])) else some (false,s1.2)).bind fun (c2:Bool×(List Int))=>some (c2.1,c2.2)).bind fun v1=>if v1.1 then out (some v1.2) else chk (InI64 (s1.1+1)) (some (.inl ((s1.1+1),v1.2))) else out (some s1.2)
theorem le_chainN26 n p_b2 p_b3 s1:Le0 (chainN47 n p_b2 p_b3 s1) (chainN46 p_b2 p_b3 s1):=by
 unfold chainN47 chainN46
 with_reducible repeat' first | apply le_chunkN1 | refine B0 ?_ fun _=>?_ | apply I0 | apply K0 | apply O0 | exact R0
def chainN49 (n:Nat) (p_b2:api_Chain) (p_b3:List api_Disk) (s1:Int×(List Int)):Option (List Int):=loopN (chainN47 n p_b2 p_b3) n s1
theorem le_chainN27 n p_b2 p_b3 s1:Le0 (chainN49 n p_b2 p_b3 s1) (chainN48 p_b2 p_b3 s1):=Le0.loop (fun s=>le_chainN26 n p_b2 p_b3 s) n s1
def chainN45 (n:Nat) (p_b2:api_Chain) (p_b3:List api_Disk):Option (List Int):=chainN49 n p_b2 p_b3 (0,[])
theorem le_chainN25 n p_b2 p_b3:Le0 (chainN45 n p_b2 p_b3) (chainN44 p_b2 p_b3):=by
 unfold chainN45 chainN44
 with_reducible repeat' first | apply le_chainN27 | refine B0 ?_ fun _=>?_ | apply I0 | apply K0 | apply O0 | exact R0
def chainN7 (n:Nat) (p_c:api_Chain) (p_disks:List api_Disk):Option (List Int):=(chain_whole p_c p_disks).bind fun _=>(chainN45 n p_c p_disks).bind fun x2=>some x2
theorem le_chainN4 n p_c p_disks:Le0 (chainN7 n p_c p_disks) (chainN6 p_c p_disks):=by
 unfold chainN7 chainN6
 with_reducible repeat' first | apply le_chainN25 | refine B0 ?_ fun _=>?_ | apply I0 | apply K0 | apply O0 | exact R0
def ref26N15 (_n:Nat) (p_a:List Int) (p_b:List Int) (s1:Int):Option ((Int)⊕Bool):=if (decide (s1 < (p_a.length:Int))) then (idx p_a s1).bind fun x1=>(idx p_b s1).bind fun x2=>if (x1 != x2) then out (some false) else chk (InI64 (s1+1)) (some (.inl (s1+1))) else out (ref26N16 ())
theorem le_ref26N2 n p_a p_b s1:Le0 (ref26N15 n p_a p_b s1) (ref26N14 p_a p_b s1):=by
 unfold ref26N15 ref26N14
 with_reducible repeat' first | refine B0 ?_ fun _=>?_ | apply I0 | apply K0 | apply O0 | exact R0
def ref26N18 (n:Nat) (p_a:List Int) (p_b:List Int) (s1:Int):Option Bool:=loopN (ref26N15 n p_a p_b) n s1
theorem le_ref26N3 n p_a p_b s1:Le0 (ref26N18 n p_a p_b s1) (ref26N17 p_a p_b s1):=Le0.loop (fun s=>le_ref26N2 n p_a p_b s) n s1
def ref26_Ints' (n:Nat) (p_a:List Int) (p_b:List Int):Option Bool:=if ((p_a.length:Int) != (p_b.length:Int)) then some false else ref26N18 n p_a p_b 0
theorem le_ref26N1 n p_a p_b:Le0 (ref26_Ints' n p_a p_b) (ref26_Ints p_a p_b):=by
 unfold ref26_Ints' ref26_Ints
 with_reducible repeat' first | apply le_ref26N3 | refine B0 ?_ fun _=>?_ | apply I0 | apply K0 | apply O0 | exact R0
def ref26_Same' (n:Nat) (p_a:api_Chain) (p_b:api_Chain):Option Bool:=(ref26_Ints' n p_a.Servers p_b.Servers).bind fun x1=>((if x1 then some (p_a.Id == p_b.Id) else some false).bind fun c1=>(if c1 then some (p_a.Ver == p_b.Ver) else some false).bind fun c2=>some c2).bind fun v1=>some v1
theorem le_ref26N4 n p_a p_b:Le0 (ref26_Same' n p_a p_b) (ref26_Same p_a p_b):=by
 unfold ref26_Same' ref26_Same
 with_reducible repeat' first | apply le_ref26N1 | refine B0 ?_ fun _=>?_ | apply I0 | apply K0 | apply O0 | exact R0
def law26_head' (n:Nat):Option Bool:=(disk_New).bind fun x1=>(disk_New).bind fun x2=>(disk_New).bind fun x3=>(chain_Make' n 3 ([1,2]) ([x1,x2,x3]) ([5])).bind fun x4=>(chain_Make' n 3 ([1,1]) ([x1,x2,x3]) ([])).bind fun x5=>(chainN24 n x4.1 x4.2.1 ([6]) 1).bind fun x6=>(chain_Read' n x4.1 x6.1).bind fun x7=>(chain_Cut' n x4.1 x6.1 1).bind fun x8=>(chain_Read' n x8.1 x8.2.1).bind fun x9=>(chain_Cut' n x4.1 x6.1 2).bind fun x10=>(chain_Read' n x10.1 x10.2.1).bind fun x11=>(chain_Read' n x4.1 x8.2.1).bind fun x12=>(chain_Mend' n x10.1 x10.2.1 0).bind fun x13=>(chain_Read' n x13.1 x13.2.1).bind fun x14=>(disk_New).bind fun x15=>(law26_with' n x13.2.1 1 x15).bind fun x16=>(chainN14 n x13.1 x16 1).bind fun x17=>(chain_Cut' n x8.1 x8.2.1 2).bind fun x18=>(chainN24 n x13.1 x17.1 ([9]) 9).bind fun x19=>(ref04N1 n x7.1 ([5])).bind fun x20=>(ref04N1 n x9.1 ([5])).bind fun x21=>(ref04N1 n x11.1 ([6])).bind fun x22=>(ref04N1 n x14.1 ([6])).bind fun x23=>(chainN7 n x13.1 x17.1).bind fun x24=>(ref26_Ints' n x24 ([1,0])).bind fun x25=>(disk_New).bind fun x26=>(law26_with' n x13.2.1 1 x26).bind fun x27=>(chainN7 n x13.1 x27).bind fun x28=>(ref26_Ints' n x28 ([0])).bind fun x29=>(ref26_Same' n x13.1 (⟨3,2,[1,0]⟩:api_Chain)).bind fun x30=>((if (!x20) then some true else some (!x21)).bind fun c1=>(if c1 then some true else some (!x22)).bind fun c2=>(if c2 then some true else some (!x23)).bind fun c3=>(if c3 then some true else some (!x25)).bind fun c4=>(if c4 then some true else some (!x29)).bind fun c5=>(if c5 then some true else some (!x30)).bind fun c6=>(if c6 then some true else some (x4.2.2 != 0)).bind fun c7=>(if c7 then some true else some (x5.2.2 != 1)).bind fun c8=>(if c8 then some true else some x6.2).bind fun c9=>(if c9 then some true else some (x7.2 != 0)).bind fun c10=>(if c10 then some true else some (x8.2.2 != 0)).bind fun c11=>(if c11 then some true else some (x9.2 != 0)).bind fun c12=>(if c12 then some true else some (x10.2.2 != 0)).bind fun c13=>(if c13 then some true else some (x11.2 != 0)).bind fun c14=>some c14).bind fun v1=>if v1 then some false else ((if (x12.2 == 250) then some (x13.2.2 == 0) else some false).bind fun c15=>(if c15 then some (x14.2 == 0) else some false).bind fun c16=>(if c16 then some (x17.2 == 0) else some false).bind fun c17=>(if c17 then some (x18.2.2 == 260) else some false).bind fun c18=>(if c18 then some x19.2 else some false).bind fun c19=>(if c19 then (chainN18 n x13.1 x19.1).bind fun x31=>some x31 else some false).bind fun c20=>(if c20 then (chainN18 n (⟨0,0,[]⟩:api_Chain) x19.1).bind fun x32=>some (!x32) else some false).bind fun c21=>some c21).bind fun v2=>some v2
theorem le_law26N1 n:Le0 (law26_head' n) law26_head:=by
 unfold law26_head' law26_head
 with_reducible repeat' first | apply le_chainN5 | apply le_chainN15 | apply le_chainN11 | apply le_chainN1 | apply le_chainN8 | apply le_law26N2 | apply le_chainN9 | apply le_ref04N1 | apply le_chainN4 | apply le_ref26N1 | apply le_ref26N4 | apply le_chainN12 | refine B0 ?_ fun _=>?_ | apply I0 | apply K0 | apply O0 | exact R0
end
end Go.Proofs
