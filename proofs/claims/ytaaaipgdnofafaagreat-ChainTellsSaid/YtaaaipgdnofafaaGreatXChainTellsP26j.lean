/- Chunks, plain: the document's pages. No condition. -/
import Derived.Test.YtaaaipgdnofafaaGreatXChainTellsP26i
namespace Go.Proofs
set_option linter.all false
open Go Go.Cat
set_option linter.all false
theorem r_zig {n:Int} (h:InI64 n):ref01_zig n=some ((zig n:Nat):Int):=by
 unfold InI64 at h
 refine Tot.eq ?_
 unfold ref01_zig zig
 refine Tot.ite (fun hn=>?_) (fun hn=>Tot.ret ?_)
 ·have hn:n < 0:=by simpa using hn
  refine Tot.chk (by unfold InI64; omega) (Tot.chk (by unfold InI64; omega) (Tot.ret ?_))
  rw [if_pos hn,IntKind.wrap_u64,IntKind.wrap_u64,IntKind.wrap_u64]
  omega
 ·have hn:¬n < 0:=by simpa using hn
  rw [if_neg hn,IntKind.wrap_u64,IntKind.wrap_u64]
  omega
theorem byte_or (u:Nat):UInt8.ofNat u ||| 128=UInt8.ofNat (128+u % 128):=by
 have h:∀w:Fin 256,UInt8.ofNat w.1 ||| 128=UInt8.ofNat (128+w.1 % 128):=by decide +kernel
 have e:UInt8.ofNat u=UInt8.ofNat (u % 256):=by apply UInt8.toNat_inj.1; simp
 have:=h ⟨u % 256,Nat.mod_lt _ (by decide)⟩
 dsimp only at this
 rw [e,this,show u % 256 % 128=u % 128 by omega]
theorem r_Int_loop:∀(k u:Nat) (acc:List UInt8),u < 18446744073709551616→u < 128 ^ (k+1)→acc.length+k≤1000000 →
  ∃(v:Nat) (l:List UInt8),loop ref01N1 ((u:Int),acc)=some ((v:Int),l)∧l++[UInt8.ofNat v]=acc++packN u
 | k,u,acc,hu,hk,ha=>by
  rw [loop_eq]
  unfold ref01N1
  by_cases h:u < 128
  ·have:decide ((u:Int)≥128)=false:=by simp; omega
   simp only [this]
   refine ⟨u,acc,rfl,?_⟩
   rw [packN_small h]
  ·have hd:decide ((u:Int)≥128)=true:=by simp; omega
   cases k with
   | zero=>exact (h (by simpa using hk)).elim
   | succ k =>
    have e:quoK .u64 (u:Int) 128=((u >>> 7:Nat):Int):=by
     unfold quoK
     rw [Int.tdiv_eq_ediv_of_nonneg (by omega),IntKind.wrap_u64,Nat.shiftRight_eq_div_pow]
     omega
    have e2:toU8 (IntKind.u64.wrap (128+Int.tmod (u:Int) 128))=UInt8.ofNat u ||| 128:=by
     rw [byte_or,←toU8_nat,Int.tmod_eq_emod_of_nonneg (by omega),IntKind.wrap_u64]
     congr 1
     omega
    obtain ⟨v,l,hl,hv⟩:=r_Int_loop k (u >>> 7) (acc++[UInt8.ofNat u ||| 128]) (Nat.lt_of_le_of_lt (Nat.shiftRight_le _ _) hu)
     (by rw [Nat.shiftRight_eq_div_pow,Nat.div_lt_iff_lt_mul (by decide)]; rw [Nat.pow_succ] at hk; simpa using hk) (by simp; omega)
    refine ⟨v,l,?_,?_⟩
    ·simp only [hd,if_true]
     rw [chk_pos (by simp only [List.length_cons,List.length_nil]; omega),e,e2]
     exact hl
    ·rw [hv,packN_cons h hu]; simp
theorem r_Int {n:Int} (h:InI64 n):ref01_Int n=some (packN (zig n)):=by
 refine Tot.eq ?_
 unfold ref01_Int ref01N2
 refine Tot.bindeq (r_zig h) ?_
 have hz:=zig_lt h
 obtain ⟨v,l,hl,hv⟩:=r_Int_loop 9 (zig n) [] hz (Nat.lt_trans hz (by decide)) (by simp)
 refine Tot.bindeq hl ?_
 have hlen:=congrArg List.length hv
 have:=packN_len hz
 simp at hlen
 refine Tot.chk (by simp only [List.length_cons,List.length_nil]; omega) (Tot.ret ?_)
 show l++[toU8 (v:Int)]=_
 rw [toU8_nat,hv]; rfl
theorem r_Str (s:List UInt8) (h:s.length≤100000):ref01_Str s=some (strN s):=by
 have hi:InI64 (s.length:Int):=by unfold InI64; omega
 have hp:=packN_len (zig_lt hi)
 have key:∀(r:List UInt8) (n:Nat) (acc:List UInt8),s.drop n=r→n≤s.length→acc.length+r.length≤1000000→loop (ref01N14 s) ((n:Int),acc)=some (acc++r):=by
  intro r
  induction r with
  | nil =>
   intro n acc hd hn _
   have:n=s.length:=by have:=congrArg List.length hd; simp at this; omega
   subst this
   refine loop_inr ?_
   unfold ref01N14
   rw [if_neg (by simp)]
   simp [out]
  | cons x r ih =>
   intro n acc hd hn ha
   have hlt:n < s.length:=by
    rcases Nat.lt_or_ge n s.length with h | h
    ·exact h
    ·rw [List.drop_eq_nil_of_le h] at hd; cases hd
   rw [List.drop_eq_getElem_cons hlt] at hd
   injection hd with hx hr
   have hx':s[n]?=some x:=by rw [List.getElem?_eq_getElem hlt,hx]
   simp only [List.length_cons] at ha
   have e:ref01N14 s ((n:Int),acc)=some (.inl (((n+1:Nat):Int),acc++[x])):=by
    refine Tot.eq ?_
    unfold ref01N14
    refine Tot.ite (fun _=>Tot.bindeq (idx_some hx') (Tot.chk (by simp only [List.length_cons,List.length_nil]; omega) (Tot.chk (by unfold InI64; omega) (Tot.ret rfl)))) (fun hh=>absurd hh (by simp; omega))
   rw [loop_inl e,ih (n+1) _ hr hlt (by simp; omega)]
   simp
 refine Tot.eq ?_
 unfold ref01_Str ref01N15
 exact Tot.bindeq (r_Int hi) (Tot.bindeq (key s 0 _ rfl (Nat.zero_le _) (by omega)) (Tot.ret rfl))
theorem r_Ints (l:List Int) (h:l.length≤10000) (hi:∀n∈l,InI64 n):ref01_Ints l=some (intsN l):=by
 have hin:InI64 (l.length:Int):=by unfold InI64; omega
 have hp0:=packN_len (zig_lt hin)
 have key:∀(r:List Int) (n:Nat) (acc:List UInt8),l.drop n=r→n≤l.length→acc.length+10 * r.length≤1000000→loop (ref01N3 l) ((n:Int),acc)=some (acc++numsN r):=by
  intro r
  induction r with
  | nil =>
   intro n acc hd hn _
   have:n=l.length:=by have:=congrArg List.length hd; simp at this; omega
   subst this
   refine loop_inr ?_
   unfold ref01N3
   rw [if_neg (by simp)]
   simp [out,numsN]
  | cons x r ih =>
   intro n acc hd hn ha
   have hlt:n < l.length:=by
    rcases Nat.lt_or_ge n l.length with h | h
    ·exact h
    ·rw [List.drop_eq_nil_of_le h] at hd; cases hd
   rw [List.drop_eq_getElem_cons hlt] at hd
   injection hd with hx hr
   have hx':l[n]?=some x:=by rw [List.getElem?_eq_getElem hlt,hx]
   have hin:=hi x (hx▸List.getElem_mem hlt)
   have hp:=packN_len (zig_lt hin)
   simp only [List.length_cons] at ha
   have e:ref01N3 l ((n:Int),acc)=some (.inl (((n+1:Nat):Int),acc++packN (zig x))):=by
    refine Tot.eq ?_
    unfold ref01N3
    refine Tot.ite (fun _=>Tot.bindeq (idx_some hx') (Tot.bindeq (r_Int hin) (Tot.chk (by dsimp only; omega) (Tot.chk (by unfold InI64; omega) (Tot.ret rfl))))) (fun hh=>absurd hh (by simp; omega))
   rw [loop_inl e,ih (n+1) _ hr hlt (by simp; omega)]
   simp [numsN]
 refine Tot.eq ?_
 unfold ref01_Ints ref01N4
 exact Tot.bindeq (r_Int hin) (Tot.bindeq (key l 0 _ rfl (Nat.zero_le _) (by omega)) (Tot.ret rfl))
theorem r_tail {u:Nat} (hu:u < 4294967296):[toU8 (Int.tmod (u:Int) 256),toU8 (Int.tmod (quoK .i64 (u:Int) 256) 256),toU8 (Int.tmod (quoK .i64 (u:Int) 65536) 256),toU8 (quoK .i64 (u:Int) 16777216)]=tailN u:=by
 have q1:quoK .i64 (u:Int) 256=((u / 256:Nat):Int):=quo63 256 hu
 have q2:quoK .i64 (u:Int) 65536=((u / 65536:Nat):Int):=quo63 65536 hu
 have q3:quoK .i64 (u:Int) 16777216=((u / 16777216:Nat):Int):=quo63 16777216 hu
 have s0:shrK .i64 (u:Int) 0=((u >>> 0:Nat):Int):=shrK_nat (b:=0) (by decide)
 have s1:shrK .i64 (u:Int) 8=((u >>> 8:Nat):Int):=shrK_nat (b:=8) (by decide)
 have s2:shrK .i64 (u:Int) 16=((u >>> 16:Nat):Int):=shrK_nat (b:=16) (by decide)
 have s3:shrK .i64 (u:Int) 24=((u >>> 24:Nat):Int):=shrK_nat (b:=24) (by decide)
 have tm:∀a:Nat,toU8 (Int.tmod (a:Int) 256)=toU8 (a:Int):=fun a=>by
  rw [Int.tmod_eq_emod_of_nonneg (by omega)]
  unfold toU8
  rw [Int.emod_emod_of_dvd _ (Int.dvd_refl 256)]
 unfold tailN
 rw [q1,q2,q3,s0,s1,s2,s3,tm,tm,tm]
 simp [Nat.shiftRight_eq_div_pow]
theorem r_Page (c:api_Copy) (h:smallC c):ref25_Page c=some (pageN c):=by
 have hb:=bodyN_len h
 obtain ⟨h1,h2,h3,h4,h5⟩:=h
 have hbe:(bodyN c).length=(packN (zig c.Id)).length+((packN (zig c.Ver)).length+((strN c.Data).length+(intsN c.Sums).length)):=by simp [bodyN]
 refine Tot.eq ?_
 unfold ref25_Page
 refine Tot.bindeq (r_Int h1) (Tot.chk (by simp; omega) (Tot.bindeq (r_Int h2) (Tot.chk (by simp; omega) (Tot.bindeq (r_Str _ (by omega)) (Tot.chk (by simp; omega) (Tot.bindeq (r_Ints _ (by omega) h5) (Tot.chk (by simp; omega) ?_)))))))
 have hf:(((([]:List UInt8)++packN (zig c.Id))++packN (zig c.Ver))++strN c.Data)++intsN c.Sums=bodyN c:=by simp [bodyN]
 rw [hf]
 refine Tot.bindeq (r_Of _ (by omega)) ?_
 rw [r_tail (sumN_lt _)]
 exact Tot.chk (by simp [tailN]; omega) (Tot.ret rfl)
theorem r_Put (d:api_Disk) (c:api_Copy) (hd:smallD d) (hc:c.Sums.length≤1000000):ref25_Put d c=some (putN d c):=by
 refine Tot.eq ?_
 unfold ref25_Put putN
 refine Tot.bind (r_May c hc) fun b hb=>Tot.ite (fun hn=>Tot.ret ?_) (fun hn=>?_)
 ·rw [if_neg (fun hp=>by rw [hb.2 hp] at hn; cases hn)]
 ·have hp:mayP c:=hb.1 (by simpa using hn)
  rw [if_pos hp]
  exact Tot.bindeq (r_Page c (mayP_small hp)) (Tot.bindeq (r_Write d _ _ hd.2.1) (Tot.ret rfl))
end Go.Proofs
