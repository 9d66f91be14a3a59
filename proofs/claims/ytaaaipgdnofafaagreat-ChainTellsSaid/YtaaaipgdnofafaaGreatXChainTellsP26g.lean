/- Chunks, plain: pages read. No condition. -/
import Derived.Test.YtaaaipgdnofafaaGreatXChainTellsP26f
namespace Go.Proofs
set_option linter.all false
open Go Go.Cat
set_option linter.all false
theorem and_one (a:Int):andK .u64 a 1=0∨andK .u64 a 1=1:=by
 unfold andK
 have h1:(BitVec.ofInt 64 a &&& BitVec.ofInt 64 1).toNat≤1:=by
  rw [BitVec.toNat_and]
  exact Nat.and_le_right
 have h2:(BitVec.ofInt IntKind.u64.bits a &&& BitVec.ofInt IntKind.u64.bits 1).toNat≤1:=h1
 generalize (BitVec.ofInt IntKind.u64.bits a &&& BitVec.ofInt IntKind.u64.bits 1).toNat=n at h2
 have:n=0∨n=1:=by omega
 rcases this with rfl | rfl
 ·left; decide
 ·right; decide
theorem t_ReadInt (b:List UInt8) (hb:b.length≤100000):Tot (packN3 b) (fun r=>r.2.1.length≤b.length):=by
 unfold packN3 packN8
 refine Tot.loop (fun s:Int×Int=>0≤s.2∧s.2≤(b.length:Int)) (fun s=>((b.length:Int) - s.2).toNat) ?_ (0,0) ⟨by simp,by simp⟩
 rintro ⟨u,i⟩ ⟨h0,h1⟩
 unfold packN5
 dsimp only at h0 h1 ⊢
 refine Tot.ite (fun hlt=>?_) (fun _=>Tot.out (Tot.ret (by simp)))
 have hlt:i < b.length:=by simpa using hlt
 refine Tot.bind (Tot.idx h0 hlt (Q:=fun _=>True) fun _ _=>trivial) fun x _=>?_
 refine Tot.bind (R:=fun _=>True) (Tot.bind (R:=fun _=>True) (Tot.ite (fun _=>Tot.ret trivial) (fun _=>Tot.ret trivial)) fun _ _=>Tot.ret trivial) fun v _=>?_
 refine Tot.ite (fun _=>Tot.out (Tot.ret (by simp))) fun _=>?_
 refine Tot.chk (by unfold InI64; omega) (Tot.chk (by omega) ?_)
 refine Tot.ite (fun _=>Tot.chk (by unfold InI64; omega) (Tot.inl ⟨⟨by dsimp only; omega,by dsimp only; omega⟩,by dsimp only; omega⟩)) fun _=>?_
 refine Tot.bind (R:=fun _=>True) (Tot.bind (R:=fun _=>True) (Tot.ite (fun _=>Tot.ret trivial) (fun _=>Tot.ret trivial)) fun _ _=>Tot.ret trivial) fun v2 _=>?_
 refine Tot.ite (fun _=>Tot.out (Tot.ret (by simp))) fun _=>?_
 refine Tot.chk ?_ (Tot.chk (by unfold InI64; omega) (Tot.chk (by omega) (Tot.out (Tot.ret (by simp)))))
 rcases and_one (orK .u64 u (shlK .u64 (((x &&& (127:UInt8)).toNat:Int)) (7 * i))) with e | e
 ·rw [e]; decide
 ·rw [e]; decide
theorem t_num (s:pack_reader) (hb:s.rest_.b_.length≤100000):Tot (packN27 s) (fun r=>r.2.rest_.b_.length≤s.rest_.b_.length):=by
 unfold packN27
 exact Tot.ite (fun _=>Tot.ret (Nat.le_refl _)) fun _=>Tot.bind (t_ReadInt _ hb) fun r hr=>Tot.ret hr
theorem t_count (s:pack_reader) (hb:s.rest_.b_.length≤100000):Tot (packN24 s) (fun r=>r.2.rest_.b_.length≤s.rest_.b_.length∧0≤r.1∧r.1≤r.2.rest_.b_.length):=by
 unfold packN24 packN26
 refine Tot.bind (t_num s hb) fun r hr=>Tot.ite (fun _=>Tot.ret ⟨hr,by simp,by simp⟩) fun _=>Tot.ite (fun _=>Tot.ret ⟨hr,by simp,by simp⟩) fun h=>Tot.ite (fun _=>Tot.ret ⟨hr,by simp,by simp⟩) fun h'=>Tot.ret ⟨hr,by simpa using h,by simpa using h'⟩
theorem t_str (s:pack_reader) (hb:s.rest_.b_.length≤100000):Tot (packN29 s) (fun r=>r.2.rest_.b_.length≤s.rest_.b_.length∧r.1.length≤s.rest_.b_.length):=by
 unfold packN29 packN31
 refine Tot.bind (t_count s hb) fun r hr=>Tot.ite (fun _=>Tot.ret ⟨hr.1,by simp⟩) fun _=>?_
 refine Tot.bind (R:=fun q=>q.2.rest_.b_.length≤s.rest_.b_.length∧q.1.length≤s.rest_.b_.length) (Tot.chk hr.2 (Tot.chk hr.2 (Tot.ret ⟨by simp; omega,by simp; omega⟩))) fun q hq=>Tot.ret hq
theorem t_ReadStr (b:List UInt8) (hb:b.length≤100000):Tot (packN16 b) (fun r=>r.1.length≤b.length∧r.2.1.length≤b.length):=by
 unfold packN16
 exact Tot.bind (t_str ⟨⟨b⟩,0⟩ hb) fun r hr=>Tot.ite (fun _=>Tot.ret ⟨by simp,by simp⟩) fun _=>Tot.ret ⟨hr.2,hr.1⟩
theorem t_ReadInts (b:List UInt8) (hb:b.length≤100000):Tot (packN10 b) (fun r=>r.1.length≤b.length∧r.2.1.length≤b.length):=by
 unfold packN10 packN14
 refine Tot.bind (R:=fun v=>v.1.length≤b.length∧v.2.2.length≤b.length) (Tot.bind (t_count ⟨⟨b⟩,0⟩ hb) fun r hr=>?_) fun v hv=>Tot.ite (fun _=>Tot.ret ⟨by simp,by simp⟩) fun _=>Tot.ret ⟨hv.2,hv.1⟩
 obtain ⟨h1,h2,h3⟩:=hr
 have h1:r.2.rest_.b_.length≤b.length:=h1
 refine Tot.loop (fun s=>0≤s.1∧s.2.1.length≤b.length∧(s.2.2.2.length:Int)=s.1∧s.1≤r.1) (fun s=>(r.1 - s.1).toNat) ?_ _ ⟨by simp,h1,by simp,h2⟩
 rintro ⟨i,l,e,acc⟩ ⟨g1,g2,g3,g4⟩
 unfold packN12
 dsimp only at g1 g2 g3 g4 ⊢
 refine Tot.ite (fun hlt=>?_) (fun _=>Tot.out (Tot.ret ⟨g2,by dsimp only; omega⟩))
 have hlt:i < r.1:=by simpa using hlt
 refine Tot.bind (t_num ⟨⟨l⟩,e⟩ (by show l.length≤_; omega)) fun q hq=>?_
 have hq:q.2.rest_.b_.length≤l.length:=hq
 refine Tot.chk (by simp only [List.length_cons,List.length_nil]; omega) (Tot.ite (fun _=>Tot.out (Tot.ret ⟨by dsimp only; omega,by simp; omega⟩)) fun _=>Tot.chk (by unfold InI64; omega) (Tot.inl ⟨⟨by dsimp only; omega,by dsimp only; omega,by simp; omega,by dsimp only; omega⟩,by dsimp only; omega⟩))
theorem t_rint (s:chunk_reader) (hb:s.b_.length≤100000):Tot (chunkN7 s) (fun r=>r.2.b_.length≤s.b_.length):=by
 unfold chunkN7 chunkN9
 refine Tot.bind (R:=fun r=>r.2.b_.length≤s.b_.length) (Tot.bind (t_ReadInt _ hb) fun r hr=>Tot.bind (R:=fun _=>True) (Tot.bind (R:=fun _=>True) (Tot.ite (fun _=>Tot.ret trivial) (fun _=>Tot.ret trivial)) fun _ _=>Tot.ret trivial) fun v _=>Tot.ite (fun _=>Tot.ret (Nat.le_refl _)) (fun _=>Tot.ret hr)) fun r hr=>Tot.ret hr
theorem t_rstr (s:chunk_reader) (hb:s.b_.length≤100000):Tot (chunkN13 s) (fun r=>r.1.length≤s.b_.length∧r.2.b_.length≤s.b_.length):=by
 unfold chunkN13
 exact Tot.bind (t_ReadStr _ hb) fun r hr=>Tot.bind (R:=fun _=>True) (Tot.bind (R:=fun _=>True) (Tot.ite (fun _=>Tot.ret trivial) (fun _=>Tot.ret trivial)) fun _ _=>Tot.ret trivial) fun v _=>Tot.ite (fun _=>Tot.ret ⟨by simp,Nat.le_refl _⟩) (fun _=>Tot.ret hr)
theorem t_rints (s:chunk_reader) (hb:s.b_.length≤100000):Tot (chunkN11 s) (fun r=>r.1.length≤s.b_.length∧r.2.b_.length≤s.b_.length):=by
 unfold chunkN11
 exact Tot.bind (t_ReadInts _ hb) fun r hr=>Tot.bind (R:=fun _=>True) (Tot.bind (R:=fun _=>True) (Tot.ite (fun _=>Tot.ret trivial) (fun _=>Tot.ret trivial)) fun _ _=>Tot.ret trivial) fun v _=>Tot.ite (fun _=>Tot.ret ⟨by simp,Nat.le_refl _⟩) (fun _=>Tot.ret hr)
theorem t_copy (s:chunk_reader) (hb:s.b_.length≤100000):Tot (chunkN5 s) (fun r=>r.1.1.Sums.length≤s.b_.length):=by
 unfold chunkN5
 refine Tot.bind (t_rint s hb) fun r1 h1=>Tot.bind (t_rint r1.2 (by omega)) fun r2 h2=>Tot.bind (t_rstr r2.2 (by omega)) fun r3 h3=>Tot.chk (by omega) (Tot.bind (t_rints r3.2 (by omega)) fun r4 h4=>?_)
 exact Tot.bind (R:=fun _=>True) (Tot.bind (R:=fun _=>True) (Tot.ite (fun _=>Tot.ret trivial) (fun _=>Tot.ret trivial)) fun _ _=>Tot.ret trivial) fun v _=>Tot.ret (by dsimp only; omega)
def zag (u:Nat):Int:=if u % 2=0 then ((u / 2:Nat):Int) else - ((u / 2:Nat):Int) - 1
theorem zag_zig (n:Int):zag (zig n)=n:=by
 unfold zag zig
 by_cases h:n < 0
 ·rw [if_pos h]; split <;> omega
 ·rw [if_neg h]; split <;> omega
theorem and1 (u:Nat) (h:u < 18446744073709551616):andK .u64 (u:Int) 1=((u % 2:Nat):Int):=by
 have:=and64 (b:=1) h (by decide)
 rw [show (1:Nat)=2 ^ 1 - 1 from rfl,Nat.and_two_pow_sub_one_eq_mod] at this
 exact this
theorem xorN2 {a:Nat} (h:a < 9223372036854775808):xorK .i64 (a:Int) 0=a:=by
 unfold xorK
 have e:(BitVec.ofInt IntKind.i64.bits (a:Int) ^^^ BitVec.ofInt IntKind.i64.bits 0).toNat=a:=by
  show (BitVec.ofInt 64 (a:Int) ^^^ BitVec.ofInt 64 0).toNat=a
  rw [BitVec.toNat_xor,ofInt_nat (by omega)]
  exact Nat.xor_zero a
 rw [e,IntWalk.i64_in _ ⟨by omega,by omega⟩]
theorem xorN1 {a:Nat} (h:a < 9223372036854775808):xorK .i64 (a:Int) (-1)=-(a:Int) - 1:=by
 unfold xorK
 have e:(BitVec.ofInt IntKind.i64.bits (a:Int) ^^^ BitVec.ofInt IntKind.i64.bits (-1)).toNat=18446744073709551615 - a:=by
  show (BitVec.ofInt 64 (a:Int) ^^^ BitVec.ofInt 64 (-1)).toNat=_
  have:BitVec.ofInt 64 (-1)=BitVec.allOnes 64:=by decide
  rw [this,BitVec.xor_allOnes,BitVec.toNat_not,ofInt_nat (by omega)]
 rw [e,IntKind.wrap_i64]
 omega
theorem p_zag {u:Nat} (h:u < 18446744073709551616):xorK .i64 (IntKind.i64.wrap (shrK .u64 (u:Int) 1)) (0 - IntKind.i64.wrap (andK .u64 (u:Int) 1))=zag u:=by
 have e1:shrK .u64 (u:Int) 1=((u >>> 1:Nat):Int):=shr64 (b:=1) (by decide)
 have e2:u >>> 1=u / 2:=by rw [Nat.shiftRight_eq_div_pow]
 rw [e1,e2,and1 u h,IntWalk.i64_in _ ⟨by omega,by omega⟩,IntWalk.i64_in _ ⟨by omega,by omega⟩]
 unfold zag
 have:u % 2=0∨u % 2=1:=by omega
 rcases this with e | e
 ·rw [e,if_pos rfl]
  exact xorN2 (by omega)
 ·rw [e,if_neg (by decide)]
  exact xorN1 (by omega)
theorem low7 (v:Nat):((UInt8.ofNat v ||| 128) &&& 127).toNat=v % 128:=by
 have h:∀w:Fin 256,((UInt8.ofNat w.1 ||| 128) &&& 127).toNat=w.1 % 128:=by decide +kernel
 have e:UInt8.ofNat v=UInt8.ofNat (v % 256):=by apply UInt8.toNat_inj.1; simp
 have:=h ⟨v % 256,Nat.mod_lt _ (by decide)⟩
 rw [e]
 dsimp only at this
 rw [this]; omega
theorem low7' {v:Nat} (hv:v < 128):(UInt8.ofNat v &&& 127).toNat=v:=by
 have h:∀w:Fin 128,(UInt8.ofNat w.1 &&& 127).toNat=w.1:=by decide +kernel
 exact h ⟨v,hv⟩
theorem high (v:Nat):128≤(UInt8.ofNat v ||| 128).toNat:=by
 have h:∀w:Fin 256,128≤(UInt8.ofNat w.1 ||| 128).toNat:=by decide +kernel
 have e:UInt8.ofNat v=UInt8.ofNat (v % 256):=by apply UInt8.toNat_inj.1; simp
 rw [e]
 exact h ⟨v % 256,Nat.mod_lt _ (by decide)⟩
theorem ofNat_small {v:Nat} (hv:v < 128):(UInt8.ofNat v).toNat=v:=by rw [UInt8.toNat_ofNat']; omega
theorem p_or {acc v i:Nat} (ha:acc < 2 ^ (7 * i)) (hi:i≤9) (hu:acc+v * 2 ^ (7 * i) < 18446744073709551616) :
  orK .u64 (acc:Int) (shlK .u64 (v:Int) (7 * (i:Int)))=((acc+v * 2 ^ (7 * i):Nat):Int):=by
 have e:(7 * (i:Int))=((7 * i:Nat):Int):=by omega
 have h2:v * 2 ^ (7 * i) < 18446744073709551616:=by omega
 rw [e,shlK_nat rfl (by rw [b64]; omega) (by rw [b64]; simpa using h2),or64 (by omega) h2]
 congr 1
 have:=Nat.shiftLeft_add_eq_or_of_lt ha v
 rw [Nat.shiftLeft_eq] at this
 rw [Nat.or_comm,←this,Nat.add_comm]
theorem pN5 (b rest:List UInt8) (u:Nat) (hu:u < 18446744073709551616) (hb:b.length≤100000):∀(k i v acc:Nat) (pre:List UInt8),
  b=pre++(packN v++rest)→pre.length=i→acc < 2 ^ (7 * i)→u=acc+v * 2 ^ (7 * i)→(i=0∨v≠0)→v < 128 ^ (k+1)→v < 18446744073709551616→i≤9 →
  loop (packN5 b) ((acc:Int),(i:Int))=some (zag u,rest,0)
 | k,i,v,acc,pre,hbe,hpre,hacc,hue,hv0,hvk,hvl,hi9=>by
  have hget:∀x l,packN v=x::l→b[i]?=some x:=fun x l e=>by rw [hbe,e,←hpre]; simp
  have hlen:∀x l,packN v=x::l→i < b.length:=fun x l e=>by rw [hbe,e]; simp; omega
  by_cases h:v < 128
  ·have hp:=packN_small h
   have hx:=hget _ _ hp
   have hil:=hlen _ _ hp
   refine loop_inr (Tot.eq ?_)
   unfold packN5
   refine Tot.ite (fun _=>?_) (fun hh=>absurd hh (by simp; omega))
   refine Tot.bindeq (idx_some hx) ?_
   rw [ofNat_small h,low7' h]
   refine Tot.bind (R:=(·=false)) (Tot.bind (R:=(·=false)) (Tot.ite (fun h9=>Tot.ret ?_) (fun _=>Tot.ret rfl)) fun _ h=>Tot.ret h) fun c hc=>?_
   ·have h9:i=9:=by simp at h9; omega
    subst h9
    refine decide_eq_false ?_
    have:v * 2 ^ (7 * 9) < 18446744073709551616:=by omega
    omega
   subst hc
   refine Tot.ite (fun h=>absurd h (by decide)) fun _=>Tot.chk (by unfold InI64; omega) (Tot.chk (by omega) ?_)
   refine Tot.ite (fun hh=>absurd hh (by simp; omega)) fun _=>?_
   refine Tot.bind (R:=(·=false)) (Tot.bind (R:=(·=false)) (Tot.ite (fun h0=>Tot.ret ?_) (fun _=>Tot.ret rfl)) fun _ h=>Tot.ret h) fun c hc=>?_
   ·have h0:v=0:=by simpa using h0
    rcases hv0 with hi | hne
    ·subst hi; rfl
    ·exact (hne h0).elim
   subst hc
   dsimp only
   rw [p_or hacc hi9 (by omega),←hue]
   refine Tot.ite (fun h=>absurd h (by decide)) fun _=>Tot.chk ?_ (Tot.chk (by unfold InI64; omega) (Tot.chk (by omega) ?_))
   ·rcases and_one (u:Int) with e | e <;> rw [e] <;> decide
   ·rw [p_zag hu]
    have hd:b.drop ((i:Int)+1).toNat=rest:=by
     have:((i:Int)+1).toNat=pre.length+1:=by omega
     rw [this,hbe,hp,←List.drop_drop]
     simp
    rw [hd]
    exact Tot.ret rfl
  ·have hp:=packN_cons h hvl
   have hx:=hget _ _ hp
   have hil:=hlen _ _ hp
   have hhi:=high v
   have hi8:i≤8:=by
    rcases Nat.lt_or_ge i 9 with h' | h'
    ·omega
    ·have:i=9:=by omega
     subst this
     have:v * 2 ^ (7 * 9) < 18446744073709551616:=by omega
     omega
   cases k with
   | zero=>exact (h (by simpa using hvk)).elim
   | succ k =>
    have hdm:v=v % 128+128 * (v / 128):=by omega
    have hpow:2 ^ (7 * (i+1))=128 * 2 ^ (7 * i):=by rw [Nat.mul_add,Nat.pow_add]; omega
    have hs:v >>> 7=v / 128:=by rw [Nat.shiftRight_eq_div_pow]
    have hue2:u=(acc+v % 128 * 2 ^ (7 * i))+v / 128 * 2 ^ (7 * (i+1)):=by
     rw [hue,hpow]
     have e:v * 2 ^ (7 * i)=v % 128 * 2 ^ (7 * i)+v / 128 * (128 * 2 ^ (7 * i)):=by
      rw [←Nat.mul_assoc,←Nat.add_mul,Nat.mul_comm (v / 128) 128,←hdm]
     omega
    have hacc2:acc+v % 128 * 2 ^ (7 * i) < 2 ^ (7 * (i+1)):=by
     rw [hpow]
     have:v % 128≤127:=by omega
     have:=Nat.mul_le_mul_right (2 ^ (7 * i)) this
     omega
    have ih:=pN5 b rest u hu hb k (i+1) (v / 128) (acc+v % 128 * 2 ^ (7 * i)) (pre++[UInt8.ofNat v ||| 128])
     (by rw [hbe,hp,hs]; simp) (by simp [hpre]) hacc2 hue2 (.inr (by omega))
     (by rw [Nat.pow_succ] at hvk; exact (Nat.div_lt_iff_lt_mul (by decide)).2 hvk) (by omega) (by omega)
    refine (loop_inl (Tot.eq ?_)).trans ih
    unfold packN5
    refine Tot.ite (fun _=>?_) (fun hh=>absurd hh (by simp; omega))
    refine Tot.bindeq (idx_some hx) ?_
    refine Tot.bind (R:=(·=false)) (Tot.bind (R:=(·=false)) (Tot.ite (fun h9=>by simp at h9; omega) (fun _=>Tot.ret rfl)) fun _ h=>Tot.ret h) fun c hc=>?_
    subst hc
    refine Tot.ite (fun h=>absurd h (by decide)) fun _=>Tot.chk (by dsimp only; unfold InI64; omega) (Tot.chk (by dsimp only; omega) ?_)
    refine Tot.ite (fun _=>?_) (fun hh=>(hh (decide_eq_true (by omega))).elim)
    refine Tot.chk (by dsimp only; unfold InI64; omega) ?_
    dsimp only
    rw [low7 v,p_or hacc hi9 (by omega)]
    exact Tot.ret rfl
theorem p_ReadInt {n:Int} (hn:InI64 n) (rest:List UInt8) (hl:rest.length≤90000):packN3 (packN (zig n)++rest)=some (n,rest,0):=by
 have hz:=zig_lt hn
 have hp:=packN_len hz
 have:=pN5 (packN (zig n)++rest) rest (zig n) hz (by simp; omega) 9 0 (zig n) 0 [] rfl rfl (by simp) (by simp) (.inl rfl) (Nat.lt_trans hz (by decide)) hz (by omega)
 rw [zag_zig] at this
 exact this
theorem packN_pos (u:Nat):1≤(packN u).length:=by
 unfold packN sevens; split <;> simp
theorem numsN_pos:∀l:List Int,l.length≤(numsN l).length
 | []=>by simp
 | n::l=>by
  have h1:=packN_pos (zig n)
  have h2:=numsN_pos l
  unfold numsN at h2 ⊢
  simp at h2 ⊢; omega
theorem p_num {n:Int} (hn:InI64 n) (rest:List UInt8) (hl:rest.length≤90000):packN27 ⟨⟨packN (zig n)++rest⟩,0⟩=some (n,⟨⟨rest⟩,0⟩):=by
 refine Tot.eq ?_
 unfold packN27
 exact Tot.ite (fun h=>absurd h (by simp)) fun _=>Tot.bindeq (p_ReadInt hn rest hl) (Tot.ret rfl)
theorem p_count (n:Nat) (rest:List UInt8) (hn:n≤rest.length) (hl:rest.length≤90000):packN24 ⟨⟨packN (zig n)++rest⟩,0⟩=some ((n:Int),⟨⟨rest⟩,0⟩):=by
 refine Tot.eq ?_
 unfold packN24
 exact Tot.bindeq (p_num (by unfold InI64; omega) rest hl) (Tot.ite (fun h=>absurd h (by simp)) fun _=>Tot.ite (fun h=>absurd h (by simp)) fun _=>Tot.ite (fun h=>absurd h (by simp; omega)) fun _=>Tot.ret rfl)
theorem p_ReadStr (s rest:List UInt8) (hl:s.length+rest.length≤90000):packN16 (strN s++rest)=some (s,rest,0):=by
 refine Tot.eq ?_
 unfold packN16 strN
 rw [List.append_assoc]
 have:Tot (packN29 ⟨⟨packN (zig s.length)++(s++rest)⟩,0⟩) (·=(s,⟨⟨rest⟩,0⟩)):=by
  unfold packN29 packN31
  refine Tot.bindeq (p_count s.length (s++rest) (by simp) (by simp; omega)) (Tot.ite (fun h=>absurd h (by simp)) fun _=>Tot.bind (R:=(·=(s,⟨⟨rest⟩,0⟩))) (Tot.chk (by simp; omega) (Tot.chk (by simp; omega) (Tot.ret ?_))) fun _ h=>Tot.ret h)
  simp
 exact Tot.bind this fun a ha=>by subst ha; exact Tot.ite (fun h=>absurd h (by simp)) fun _=>Tot.ret rfl
theorem p_ReadInts (l:List Int) (rest:List UInt8) (hi:∀n∈l,InI64 n) (hl:(numsN l).length+rest.length≤90000):packN10 (intsN l++rest)=some (l,rest,0):=by
 refine Tot.eq ?_
 unfold packN10 intsN
 rw [List.append_assoc]
 have hnp:=numsN_pos l
 refine Tot.bind (R:=(·=(rest,0,l))) (Tot.bindeq (p_count l.length (numsN l++rest) (by simp; omega) (by simp; omega)) ?_) fun a ha=>by subst ha; exact Tot.ite (fun h=>absurd h (by simp)) fun _=>Tot.ret rfl
 dsimp only
 unfold packN14
 have key:∀(r done:List Int),l=done++r→loop (packN12 ((l.length:Int),⟨⟨numsN l++rest⟩,0⟩)) ((done.length:Int),numsN r++rest,0,done)=some (rest,0,l):=by
  intro r
  induction r with
  | nil =>
   intro done hd
   have hd:done=l:=by rw [hd]; simp
   subst hd
   refine loop_inr ?_
   unfold packN12
   rw [if_neg (by simp)]
   simp [out,numsN]
  | cons x r ih =>
   intro done hd
   have hx:InI64 x:=hi x (by rw [hd]; simp)
   have hlen:l.length=done.length+(r.length+1):=by rw [hd]; simp
   have hnl:(numsN l).length=(numsN done).length+(numsN (x::r)).length:=by rw [hd]; simp [numsN]
   have hxr:numsN (x::r)=packN (zig x)++numsN r:=by simp [numsN]
   have hxl:(numsN (x::r)).length=(packN (zig x)).length+(numsN r).length:=by rw [hxr]; simp
   have ih':=ih (done++[x]) (by rw [hd]; simp)
   refine (loop_inl (Tot.eq ?_)).trans ih'
   unfold packN12
   refine Tot.ite (fun _=>?_) (fun hh=>absurd hh (by simp; omega))
   dsimp only
   rw [hxr,List.append_assoc]
   refine Tot.bindeq (p_num hx _ (by simp; omega)) (Tot.chk (by simp only [List.length_cons,List.length_nil]; omega) (Tot.ite (fun h=>absurd h (by simp)) fun _=>Tot.chk (by unfold InI64; omega) (Tot.ret ?_)))
   simp
 have:=key l [] rfl
 exact ⟨_,this,rfl⟩
theorem tf {b1:Bool} {e:Int} (h1:b1=false) (he:e=0):Tot ((if b1=true then some true else some (e != 0)).bind fun c1=>some c1) (·=false):=by
 subst h1 he; exact ⟨_,rfl,rfl⟩
theorem p_rint {n:Int} (hn:InI64 n) (rest:List UInt8) (hl:rest.length≤90000):chunkN7 ⟨packN (zig n)++rest,false⟩=some (n,⟨rest,false⟩):=by
 refine Tot.eq ?_
 unfold chunkN7 chunkN9
 refine Tot.bind (R:=(·=(n,⟨rest,false⟩))) (Tot.bindeq (p_ReadInt hn rest hl) (Tot.bind (tf rfl rfl) fun v hv=>?_)) fun a ha=>Tot.ret (by rw [ha])
 subst hv
 exact Tot.ite (fun h=>absurd h (by simp)) fun _=>Tot.ret rfl
theorem p_copy (c:api_Copy) (h:smallC c):Tot (chunkN5 ⟨bodyN c,false⟩) (fun r=>r.1=(c,true)):=by
 have hb:=bodyN_len h
 obtain ⟨h1,h2,h3,h4,h5⟩:=h
 have hbe:(bodyN c).length=(packN (zig c.Id)).length+((packN (zig c.Ver)).length+((strN c.Data).length+(intsN c.Sums).length)):=by simp [bodyN]
 have hst:c.Data.length≤(strN c.Data).length:=by simp [strN]
 have hin:(numsN c.Sums).length≤(intsN c.Sums).length:=by simp [intsN]
 unfold chunkN5 bodyN
 refine Tot.bindeq (p_rint h1 _ (by simp; omega)) (Tot.bindeq (p_rint h2 _ (by simp; omega)) ?_)
 dsimp only
 have k3:chunkN13 ⟨strN c.Data++intsN c.Sums,false⟩=some (c.Data,⟨intsN c.Sums,false⟩):=by
  refine Tot.eq ?_
  unfold chunkN13
  refine Tot.bindeq (p_ReadStr c.Data (intsN c.Sums) (by omega)) (Tot.bind (tf rfl rfl) fun v hv=>?_)
  subst hv
  exact Tot.ite (fun h=>absurd h (by simp)) fun _=>Tot.ret rfl
 have k4:chunkN11 ⟨intsN c.Sums,false⟩=some (c.Sums,⟨[],false⟩):=by
  refine Tot.eq ?_
  unfold chunkN11
  have:=p_ReadInts c.Sums [] h5 (by simp; omega)
  rw [List.append_nil] at this
  refine Tot.bindeq this (Tot.bind (tf rfl rfl) fun v hv=>?_)
  subst hv
  exact Tot.ite (fun h=>absurd h (by simp)) fun _=>Tot.ret rfl
 refine Tot.bindeq k3 (Tot.chk (by dsimp only; omega) (Tot.bindeq k4 ?_))
 exact ⟨_,rfl,rfl⟩
theorem p_Get_there {d:api_Disk} {id:Int} (hd:smallD d) {c:api_Copy} (hc:mayP c) (hi:c.Id=id) (ht:thereN d id=(pageN c,0)):chunk_Get d id=some (c,0):=by
 refine Tot.eq ?_
 have hs:=mayP_small hc
 have hb:=bodyN_len hs
 have hpl:(pageN c).length=(bodyN c).length+4:=by simp [pageN,tailN]
 unfold chunk_Get
 refine Tot.bindeq (p_there d id hd) ?_
 rw [ht]
 refine Tot.ite (fun h=>absurd h (by simp)) fun _=>Tot.ite (fun h=>absurd h (by simp; omega)) fun _=>?_
 dsimp only
 refine Tot.chk (by unfold InI64; omega) (Tot.chk (by omega) ?_)
 have htk:(pageN c).take (((pageN c).length:Int) - 4).toNat=bodyN c:=by
  have:(((pageN c).length:Int) - 4).toNat=(bodyN c).length:=by omega
  rw [this]; simp [pageN]
 rw [htk]
 refine Tot.bind (p_copy c hs) fun r hr=>?_
 rw [hr]
 dsimp only
 refine Tot.bind (R:=(·=false)) ?_ fun v hv=>by subst hv; exact Tot.ite (fun h=>absurd h (by simp)) fun _=>Tot.ret rfl
 refine Tot.bind (R:=(·=false)) (Tot.ite (fun h=>absurd h (by simp)) fun _=>Tot.bind (p_may c (by have:=hs.2.2.2.1; omega)) fun b hb=>Tot.ret (by rw [hb.2 hc]; rfl)) fun c1 h1=>?_
 subst h1
 refine Tot.bind (R:=(·=false)) (Tot.ite (fun h=>absurd h (by simp)) fun _=>Tot.ret (by rw [hi]; simp)) fun c2 h2=>?_
 subst h2
 refine Tot.bind (R:=(·=false)) (Tot.ite (fun h=>absurd h (by simp)) fun _=>Tot.bindeq (p_page c hs) (Tot.bindeq rfl (Tot.ret (by simp)))) fun c3 h3=>Tot.ret h3
end Go.Proofs
