/- Chunks, plain: packing. No condition. -/
import Derived.Test.YtaaaipgdnofafaaGreatXChainTellsP26b
namespace Go.Proofs
set_option linter.all false
open Go Go.Cat
def zig (n:Int):Nat:=if n < 0 then (-2 * n - 1).toNat else (2 * n).toNat
theorem zig_lt {n:Int} (h:InI64 n):zig n < 18446744073709551616:=by
 unfold InI64 at h; unfold zig; split <;> omega
theorem xor_ones {a:Nat} (h:a < 18446744073709551616):a ^^^ 18446744073709551615=18446744073709551615 - a:=by
 have h1:=BitVec.toNat_not (x:=BitVec.ofNat 64 a)
 rw [←BitVec.xor_allOnes,BitVec.toNat_xor,BitVec.toNat_ofNat,BitVec.toNat_allOnes,Nat.mod_eq_of_lt (by simpa using h)] at h1
 simpa using h1
theorem p_zig {n:Int} (h:InI64 n):xorK .u64 (shlK .u64 (IntKind.u64.wrap n) 1) (IntKind.u64.wrap (shrK .i64 n 63))=((zig n:Nat):Int):=by
 unfold InI64 at h
 have hs:shlK .u64 (IntKind.u64.wrap n) 1=(2 * n) % 18446744073709551616:=by
  unfold shlK
  rw [IntKind.wrap_u64,IntKind.wrap_u64]
  have:(2:Int) ^ (min (1:Int).toNat IntKind.u64.bits)=2:=by decide
  rw [this]; omega
 have hr:shrK .i64 n 63=n / 9223372036854775808:=by
  unfold shrK
  have:(2:Int) ^ (min (63:Int).toNat IntKind.i64.bits)=9223372036854775808:=by decide
  rw [this,Int.fdiv_eq_ediv_of_nonneg _ (by decide)]
 rw [hs,hr]
 unfold zig
 split
 ·rename_i hn
  have e1:n / 9223372036854775808=-1:=by omega
  have e2:(2 * n) % 18446744073709551616=(((2 * n+18446744073709551616).toNat:Nat):Int):=by omega
  have e3:IntKind.u64.wrap (-1)=((18446744073709551615:Nat):Int):=by decide
  rw [e1,e2,e3,xor64 (by omega) (by decide),xor_ones (by omega)]
  congr 1; omega
 ·rename_i hn
  have e1:n / 9223372036854775808=0:=by omega
  have e2:(2 * n) % 18446744073709551616=(((2 * n).toNat:Nat):Int):=by omega
  have e3:IntKind.u64.wrap 0=((0:Nat):Int):=by decide
  rw [e1,e2,e3,xor64 (by omega) (by decide),Nat.xor_zero]
def sevens:Nat→Nat→List UInt8
 | 0,u=>[UInt8.ofNat u]
 | k+1,u=>if u < 128 then [UInt8.ofNat u] else (UInt8.ofNat u ||| 128)::sevens k (u >>> 7)
def packN (u:Nat):List UInt8:=sevens 10 u
theorem sevens_len:∀(k j u:Nat),u < 128 ^ (j+1)→(sevens k u).length≤j+1
 | 0,j,u,_=>by simp [sevens]
 | k+1,j,u,h=>by
  unfold sevens
  split
  ·simp
  ·cases j with
   | zero=>simp at h; omega
   | succ j =>
    have:=sevens_len k j (u >>> 7) (by rw [Nat.shiftRight_eq_div_pow,Nat.div_lt_iff_lt_mul (by decide)]; rw [Nat.pow_succ] at h; simpa using h)
    simp only [List.length_cons]; omega
theorem sevens_mono:∀(k u:Nat),u < 128 ^ (k+1)→sevens (k+1) u=sevens k u
 | 0,u,h=>by
  have:u < 128:=by simpa using h
  unfold sevens
  rw [if_pos this]
 | k+1,u,h=>by
  rw [show sevens (k+1+1) u=if u < 128 then [UInt8.ofNat u] else (UInt8.ofNat u ||| 128)::sevens (k+1) (u >>> 7) from rfl,
   show sevens (k+1) u=if u < 128 then [UInt8.ofNat u] else (UInt8.ofNat u ||| 128)::sevens k (u >>> 7) from rfl]
  split
  ·rfl
  ·rw [sevens_mono k (u >>> 7) (by rw [Nat.shiftRight_eq_div_pow,Nat.div_lt_iff_lt_mul (by decide)]; rw [Nat.pow_succ] at h; simpa using h)]
theorem packN_len {u:Nat} (h:u < 18446744073709551616):(packN u).length≤10:=sevens_len 10 9 u (Nat.lt_trans h (by decide))
theorem packN_small {u:Nat} (h:u < 128):packN u=[UInt8.ofNat u]:=by unfold packN sevens; rw [if_pos h]
theorem packN_cons {u:Nat} (h:¬u < 128) (hu:u < 18446744073709551616):packN u=(UInt8.ofNat u ||| 128)::packN (u >>> 7):=by
 have h2:u >>> 7 < 128 ^ 10:=Nat.lt_of_le_of_lt (Nat.shiftRight_le _ _) (Nat.lt_trans hu (by decide))
 unfold packN
 rw [sevens,if_neg h,sevens_mono 9 _ h2]
theorem toU8_nat (u:Nat):toU8 (u:Int)=UInt8.ofNat u:=by
 unfold toU8
 have:((u:Int) % 256).toNat=u % 256:=by omega
 rw [this]
 apply UInt8.toNat_inj.1
 simp
theorem p_Int_loop:∀(k u:Nat) (acc:List UInt8),u < 18446744073709551616→u < 128 ^ (k+1)→acc.length+k≤1000000 →
  ∃(v:Nat) (l:List UInt8),loop pack_Int_B1 ((u:Int),acc)=some ((v:Int),l)∧l++[UInt8.ofNat v]=acc++packN u
 | k,u,acc,hu,hk,ha=>by
  rw [loop_eq]
  unfold pack_Int_B1
  by_cases h:u < 128
  ·have:decide ((u:Int)≥128)=false:=by simp; omega
   simp only [this]
   refine ⟨u,acc,rfl,?_⟩
   rw [packN_small h]
  ·have hd:decide ((u:Int)≥128)=true:=by simp; omega
   cases k with
   | zero=>exact (h (by simpa using hk)).elim
   | succ k =>
    have e:shrK .u64 (u:Int) 7=((u >>> 7:Nat):Int):=shr64 (b:=7) (by decide)
    obtain ⟨v,l,hl,hv⟩:=p_Int_loop k (u >>> 7) (acc++[UInt8.ofNat u ||| 128]) (Nat.lt_of_le_of_lt (Nat.shiftRight_le _ _) hu)
     (by rw [Nat.shiftRight_eq_div_pow,Nat.div_lt_iff_lt_mul (by decide)]; rw [Nat.pow_succ] at hk; simpa using hk) (by simp; omega)
    refine ⟨v,l,?_,?_⟩
    ·simp only [hd,if_true]
     rw [chk_pos (by simp only [List.length_cons,List.length_nil]; omega),e,toU8_nat]
     exact hl
    ·rw [hv,packN_cons h hu]; simp
theorem p_Int {n:Int} (h:InI64 n):pack_Int n=some (packN (zig n)):=by
 refine Tot.eq ?_
 unfold pack_Int pack_Int_L1
 rw [p_zig h]
 have hz:=zig_lt h
 obtain ⟨v,l,hl,hv⟩:=p_Int_loop 9 (zig n) [] hz (Nat.lt_trans hz (by decide)) (by simp)
 refine Tot.bindeq hl ?_
 have hlen:=congrArg List.length hv
 have:=packN_len hz
 simp at hlen
 refine Tot.chk (by simp only [List.length_cons,List.length_nil]; omega) (Tot.ret ?_)
 show l++[toU8 (v:Int)]=_
 rw [toU8_nat,hv]; rfl
def strN (s:List UInt8):List UInt8:=packN (zig s.length)++s
theorem p_Str (s:List UInt8) (h:s.length≤1000000):pack_Str s=some (strN s):=by
 refine Tot.eq ?_
 unfold pack_Str
 have hi:InI64 (s.length:Int):=by unfold InI64; omega
 have:=packN_len (zig_lt hi)
 exact Tot.bindeq (p_Int hi) (Tot.chk (by omega) (Tot.ret rfl))
def numsN (l:List Int):List UInt8:=(l.map fun n=>packN (zig n)).flatten
theorem numsN_len:∀{l:List Int},(∀n∈l,InI64 n)→(numsN l).length≤10 * l.length
 | [],_=>by simp [numsN]
 | n::l,h=>by
  have h1:=packN_len (zig_lt (h n (List.mem_cons_self ..)))
  have h2:=numsN_len (l:=l) fun m hm=>h m (List.mem_cons_of_mem _ hm)
  unfold numsN at h2 ⊢
  simp at h2 ⊢; omega
theorem p_numbers (l:List Int) (h:l.length≤100000) (hi:∀n∈l,InI64 n):packN18 l=some (numsN l):=by
 have key:∀(r:List Int) (n:Nat) (acc:List UInt8),l.drop n=r→n≤l.length→acc.length+10 * r.length≤1000000→loop (packN20 l) ((n:Int),acc)=some (acc++numsN r):=by
  intro r
  induction r with
  | nil =>
   intro n acc hd hn _
   have:n=l.length:=by have:=congrArg List.length hd; simp at this; omega
   subst this
   refine loop_inr ?_
   unfold packN20
   rw [if_neg (by simp)]
   simp [out,numsN]
  | cons x r ih =>
   intro n acc hd hn ha
   have hlt:n < l.length:=by
    rcases Nat.lt_or_ge n l.length with h | h
    ·exact h
    ·rw [List.drop_eq_nil_of_le h] at hd; cases hd
   rw [List.drop_eq_getElem_cons hlt] at hd
   injection hd with hx hr
   have hx':l[n]?=some x:=by rw [List.getElem?_eq_getElem hlt,hx]
   have hin:=hi x (hx▸List.getElem_mem hlt)
   have hp:=packN_len (zig_lt hin)
   simp only [List.length_cons] at ha
   have e:packN20 l ((n:Int),acc)=some (.inl (((n+1:Nat):Int),acc++packN (zig x))):=by
    refine Tot.eq ?_
    unfold packN20
    refine Tot.ite (fun _=>Tot.bindeq (idx_some hx') (Tot.bindeq (p_Int hin) (Tot.chk (by dsimp only; omega) (Tot.chk (by unfold InI64; omega) (Tot.ret rfl))))) (fun hh=>absurd hh (by simp; omega))
   rw [loop_inl e,ih (n+1) _ hr hlt (by simp; omega)]
   simp [numsN]
 unfold packN18 packN22
 have:=key l 0 [] rfl (Nat.zero_le _) (by simp; omega)
 have this:loop (packN20 l) (0,[])=some (numsN l):=by simpa using this
 rw [this]; rfl
def intsN (l:List Int):List UInt8:=packN (zig l.length)++numsN l
theorem p_Ints (l:List Int) (h:l.length≤10000) (hi:∀n∈l,InI64 n):pack_Ints l=some (intsN l):=by
 refine Tot.eq ?_
 unfold pack_Ints
 have hin:InI64 (l.length:Int):=by unfold InI64; omega
 have h1:=packN_len (zig_lt hin)
 have h2:=numsN_len hi
 exact Tot.bindeq (p_Int hin) (Tot.bindeq (p_numbers l (by omega) hi) (Tot.chk (by omega) (Tot.ret rfl)))
end Go.Proofs
