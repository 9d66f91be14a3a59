/- Chunks, plain: the document's pages read. No condition. -/
import Derived.Test.YtaaaipgdnofafaaGreatXChainTellsP26j
namespace Go.Proofs
set_option linter.all false
open Go Go.Cat
set_option linter.all false
theorem t_zag (p:Int) (h:0≤p∧p < 18446744073709551616):Tot (ref01_zag p) (fun _=>True):=by
 unfold ref01_zag
 have q:quoK .u64 p 2=p / 2:=by
  unfold quoK
  rw [Int.tdiv_eq_ediv_of_nonneg (by omega),IntKind.wrap_u64]; omega
 rw [q,IntWalk.i64_in _ ⟨by omega,by omega⟩]
 exact Tot.ite (fun _=>Tot.chk (by unfold InI64; omega) (Tot.chk (by unfold InI64; omega) (Tot.ret trivial))) fun _=>Tot.ret trivial
theorem r_zag {u:Nat} (h:u < 18446744073709551616):ref01_zag (u:Int)=some (zag u):=by
 refine Tot.eq ?_
 unfold ref01_zag zag
 have q:quoK .u64 (u:Int) 2=((u / 2:Nat):Int):=by
  unfold quoK
  rw [Int.tdiv_eq_ediv_of_nonneg (by omega),IntKind.wrap_u64]; omega
 have t:Int.tmod (u:Int) 2=((u % 2:Nat):Int):=by rw [Int.tmod_eq_emod_of_nonneg (by omega)]; rfl
 rw [q,t,IntWalk.i64_in _ ⟨by omega,by omega⟩]
 have:u % 2=0∨u % 2=1:=by omega
 rcases this with e | e
 ·rw [e]
  exact Tot.ite (fun h=>absurd h (by decide)) fun _=>Tot.ret (by rw [if_pos rfl])
 ·rw [e]
  exact Tot.ite (fun _=>Tot.chk (by unfold InI64; omega) (Tot.chk (by unfold InI64; omega) (Tot.ret (by rw [if_neg (by decide)]; omega)))) fun h=>absurd (by decide) h
theorem wrapU_in (n:Int):0≤IntKind.u64.wrap n∧IntKind.u64.wrap n < 18446744073709551616:=by rw [IntKind.wrap_u64]; omega
theorem tb {c:Bool} {x y:Option Bool} (hx:Tot x (fun _=>True)) (hy:Tot y (fun _=>True)):Tot ((if c=true then x else y).bind fun c1=>some c1) (fun _=>True) :=
 Tot.bind (R:=fun _=>True) (Tot.ite (fun _=>hx) (fun _=>hy)) fun _ _=>Tot.ret trivial
theorem u_ReadInt (b:List UInt8) (hb:b.length≤100000):Tot (ref01N5 b) (fun r=>r.2.1.length≤b.length):=by
 unfold ref01N5 ref01N8
 refine Tot.loop (fun s:Int×Int×Int=>0≤s.2.2∧s.2.2≤(b.length:Int)) (fun s=>((b.length:Int) - s.2.2).toNat) ?_ (0,1,0) ⟨by simp,by simp⟩
 rintro ⟨u,f,i⟩ ⟨h0,h1⟩
 unfold ref01N6 ref01N7
 dsimp only at h0 h1 ⊢
 refine Tot.bind (R:=Tells (i < b.length∧i < 10)) (Tot.bind (Tot.andI (by simp) fun _=>Tot.dec Iff.rfl) fun _ h=>Tot.ret h) fun v hv=>Tot.ite (fun ht=>?_) (fun _=>Tot.out (Tot.ret (by simp)))
 obtain ⟨hlt,-⟩:=hv.1 ht
 obtain ⟨x,hx,-⟩:=Tot.idx h0 hlt (Q:=fun _=>True) fun _ _=>trivial
 refine Tot.bindeq hx (Tot.bind (tb (Tot.bindeq hx (Tot.ret trivial)) (Tot.ret trivial)) fun v3 _=>Tot.ite (fun _=>Tot.out (Tot.ret (by simp))) fun _=>Tot.bindeq hx (Tot.ite (fun _=>?_) fun _=>Tot.chk (by unfold InI64; omega) (Tot.inl ⟨⟨by dsimp only; omega,by dsimp only; omega⟩,by dsimp only; omega⟩)))
 refine Tot.bind (tb (Tot.bindeq hx (Tot.ret trivial)) (Tot.ret trivial)) fun v4 _=>Tot.ite (fun _=>Tot.out (Tot.ret (by simp))) fun _=>Tot.bind (t_zag _ (wrapU_in _)) fun _ _=>Tot.chk (by unfold InI64; omega) (Tot.chk (by omega) (Tot.out (Tot.ret (by simp))))
theorem u_count (b:List UInt8) (hb:b.length≤100000):Tot (ref01_count b) (fun r=>r.2.1.length≤b.length∧0≤r.1∧r.1≤(r.2.1.length:Int)):=by
 unfold ref01_count
 exact Tot.bind (u_ReadInt b hb) fun r hr=>Tot.ite (fun _=>Tot.ret ⟨by simp,by simp,by simp⟩) fun _=>Tot.ite (fun _=>Tot.ret ⟨by simp,by simp,by simp⟩) fun h=>Tot.ite (fun _=>Tot.ret ⟨by simp,by simp,by simp⟩) fun h'=>Tot.ret ⟨hr,by simpa using h,by simpa using h'⟩
theorem u_ReadStr (b:List UInt8) (hb:b.length≤100000):Tot (ref01N13 b) (fun r=>r.1.length≤b.length∧r.2.1.length≤b.length):=by
 unfold ref01N13
 exact Tot.bind (u_count b hb) fun r hr=>Tot.ite (fun _=>Tot.ret ⟨by simp,by simp⟩) fun _=>Tot.chk hr.2 (Tot.chk hr.2 (Tot.ret ⟨by simp; omega,by simp; omega⟩))
theorem u_ReadInts (b:List UInt8) (hb:b.length≤100000):Tot (ref01N9 b) (fun r=>r.1.length≤b.length∧r.2.1.length≤b.length):=by
 unfold ref01N9 ref01N12
 refine Tot.bind (u_count b hb) fun r hr=>Tot.ite (fun _=>Tot.ret ⟨by simp,by simp⟩) fun _=>?_
 obtain ⟨h1,h2,h3⟩:=hr
 refine Tot.loop (fun s:List UInt8×Int×List Int=>0≤s.2.1∧s.1.length≤b.length∧(s.2.2.length:Int)=s.2.1∧s.2.1≤r.1) (fun s=>(r.1 - s.2.1).toNat) ?_ _ ⟨by simp,h1,by simp,h2⟩
 rintro ⟨l,i,acc⟩ ⟨g1,g2,g3,g4⟩
 unfold ref01N10 ref01N11
 dsimp only at g1 g2 g3 g4 ⊢
 refine Tot.ite (fun hlt=>?_) (fun _=>Tot.out (Tot.ret ⟨by dsimp only; omega,g2⟩))
 have hlt:i < r.1:=by simpa using hlt
 refine Tot.bind (u_ReadInt l (by omega)) fun q hq=>Tot.ite (fun _=>Tot.out (Tot.ret ⟨by simp,by simp⟩)) fun _=>?_
 exact Tot.chk (by simp only [List.length_cons,List.length_nil]; omega) (Tot.chk (by unfold InI64; omega) (Tot.inl ⟨⟨by dsimp only; omega,by dsimp only; omega,by simp; omega,by dsimp only; omega⟩,by dsimp only; omega⟩))
theorem u_parsed (b:List UInt8) (hb:b.length≤100000):Tot (ref25N1 b) (fun r=>r.1.Sums.length≤b.length):=by
 unfold ref25N1
 refine Tot.bind (u_ReadInt b hb) fun r1 h1=>Tot.ite (fun _=>Tot.ret (by simp)) fun _=>Tot.bind (u_ReadInt r1.2.1 (by omega)) fun r2 h2=>Tot.ite (fun _=>Tot.ret (by simp)) fun _=>Tot.bind (u_ReadStr r2.2.1 (by omega)) fun r3 h3=>Tot.ite (fun _=>Tot.ret (by simp)) fun _=>Tot.bind (u_ReadInts r3.2.1 (by omega)) fun r4 h4=>?_
 exact Tot.bind (tb (Tot.ret trivial) (Tot.ret trivial)) fun v _=>Tot.ite (fun _=>Tot.ret (by simp)) fun _=>Tot.chk (by omega) (Tot.ret (by dsimp only; omega))
theorem rN1 (b rest:List UInt8) (u:Nat) (hu:u < 18446744073709551616) (hb:b.length≤100000):∀(k i v acc:Nat) (pre:List UInt8),
  b=pre++(packN v++rest)→pre.length=i→acc < 2 ^ (7 * i)→u=acc+v * 2 ^ (7 * i)→(i=0∨v≠0)→v < 128 ^ (k+1)→v < 18446744073709551616→i≤9 →
  loop (ref01N6 b) ((acc:Int),((2 ^ (7 * i):Nat):Int),(i:Int))=some (zag u,rest,0)
 | k,i,v,acc,pre,hbe,hpre,hacc,hue,hv0,hvk,hvl,hi9=>by
  have hget:∀x l,packN v=x::l→b[i]?=some x:=fun x l e=>by rw [hbe,e,←hpre]; simp
  have hlen:∀x l,packN v=x::l→i < b.length:=fun x l e=>by rw [hbe,e]; simp; omega
  have hdigit:∀w:Nat,w < 128→toU8 (Int.tmod (w:Int) 128)=UInt8.ofNat w:=fun w hw=>by
   rw [Int.tmod_eq_emod_of_nonneg (by omega),←toU8_nat]; congr 1; omega
  by_cases h:v < 128
  ·have hp:=packN_small h
   have hx:=hget _ _ hp
   have hil:=hlen _ _ hp
   refine loop_inr (Tot.eq ?_)
   unfold ref01N6
   refine Tot.bind (R:=Tells ((i:Int) < b.length∧(i:Int) < 10)) (Tot.bind (Tot.andI (by simp) fun _=>Tot.dec Iff.rfl) fun _ h=>Tot.ret h) fun v1 hv1=>Tot.ite (fun _=>?_) (fun hh=>(hh (hv1.2 ⟨by omega,by omega⟩)).elim)
   refine Tot.bindeq (idx_some hx) ?_
   dsimp only
   refine Tot.bind (R:=(·=false)) (Tot.bind (R:=(·=false)) (Tot.ite (fun h9=>Tot.bindeq (idx_some hx) (Tot.ret ?_)) (fun _=>Tot.ret rfl)) fun _ h=>Tot.ret h) fun c hc=>?_
   ·have h9:i=9:=by simp at h9; omega
    subst h9
    rw [ofNat_small h]
    refine decide_eq_false ?_
    have:v * 2 ^ (7 * 9) < 18446744073709551616:=by omega
    omega
   subst hc
   refine Tot.ite (fun h=>absurd h (by decide)) fun _=>Tot.bindeq (idx_some hx) ?_
   rw [ofNat_small h]
   refine Tot.ite (fun _=>?_) (fun hh=>(hh (decide_eq_true (by omega))).elim)
   refine Tot.bind (R:=(·=false)) (Tot.bind (R:=(·=false)) (Tot.ite (fun h0=>Tot.bindeq (idx_some hx) (Tot.ret ?_)) (fun _=>Tot.ret rfl)) fun _ h=>Tot.ret h) fun c hc=>?_
   ·rw [ofNat_small h]
    have hi0:0 < i:=by simpa using h0
    rcases hv0 with hi | hne
    ·omega
    ·simp; exact hne
   subst hc
   refine Tot.ite (fun h=>absurd h (by decide)) fun _=>?_
   have e:IntKind.u64.wrap ((acc:Int)+IntKind.u64.wrap (((2 ^ (7 * i):Nat):Int) * ((toU8 (Int.tmod (v:Int) 128)).toNat:Int)))=(u:Int):=by
    rw [hdigit v h,ofNat_small h,IntKind.wrap_u64,IntKind.wrap_u64,←Int.natCast_mul,Nat.mul_comm]
    omega
   rw [e]
   refine Tot.bindeq (r_zag hu) (Tot.chk (by unfold InI64; omega) (Tot.chk (by omega) ?_))
   have hd:b.drop ((i:Int)+1).toNat=rest:=by
    have:((i:Int)+1).toNat=pre.length+1:=by omega
    rw [this,hbe,hp,←List.drop_drop]
    simp
   rw [hd]
   exact Tot.ret rfl
  ·have hp:=packN_cons h hvl
   have hx:=hget _ _ hp
   have hil:=hlen _ _ hp
   have hhi:=high v
   have hi8:i≤8:=by
    rcases Nat.lt_or_ge i 9 with h' | h'
    ·omega
    ·have:i=9:=by omega
     subst this
     have:v * 2 ^ (7 * 9) < 18446744073709551616:=by omega
     omega
   cases k with
   | zero=>exact (h (by simpa using hvk)).elim
   | succ k =>
    have hdm:v=v % 128+128 * (v / 128):=by omega
    have hpow:2 ^ (7 * (i+1))=128 * 2 ^ (7 * i):=by rw [Nat.mul_add,Nat.pow_add]; omega
    have hs:v >>> 7=v / 128:=by rw [Nat.shiftRight_eq_div_pow]
    have hue2:u=(acc+v % 128 * 2 ^ (7 * i))+v / 128 * 2 ^ (7 * (i+1)):=by
     rw [hue,hpow]
     have e:v * 2 ^ (7 * i)=v % 128 * 2 ^ (7 * i)+v / 128 * (128 * 2 ^ (7 * i)):=by
      rw [←Nat.mul_assoc,←Nat.add_mul,Nat.mul_comm (v / 128) 128,←hdm]
     omega
    have hacc2:acc+v % 128 * 2 ^ (7 * i) < 2 ^ (7 * (i+1)):=by
     rw [hpow]
     have:v % 128≤127:=by omega
     have:=Nat.mul_le_mul_right (2 ^ (7 * i)) this
     omega
    have hf2:2 ^ (7 * (i+1)) < 18446744073709551616:=by
     have:2 ^ (7 * (i+1))≤2 ^ 63:=Nat.pow_le_pow_right (by decide) (by omega)
     omega
    have ih:=rN1 b rest u hu hb k (i+1) (v / 128) (acc+v % 128 * 2 ^ (7 * i)) (pre++[UInt8.ofNat v ||| 128])
     (by rw [hbe,hp,hs]; simp) (by simp [hpre]) hacc2 hue2 (.inr (by omega))
     (by rw [Nat.pow_succ] at hvk; exact (Nat.div_lt_iff_lt_mul (by decide)).2 hvk) (by omega) (by omega)
    refine (loop_inl (Tot.eq ?_)).trans ih
    unfold ref01N6
    refine Tot.bind (R:=Tells ((i:Int) < b.length∧(i:Int) < 10)) (Tot.bind (Tot.andI (by simp) fun _=>Tot.dec Iff.rfl) fun _ h=>Tot.ret h) fun v1 hv1=>Tot.ite (fun _=>?_) (fun hh=>(hh (hv1.2 ⟨by omega,by omega⟩)).elim)
    refine Tot.bindeq (idx_some hx) ?_
    dsimp only
    refine Tot.bind (R:=(·=false)) (Tot.bind (R:=(·=false)) (Tot.ite (fun h9=>by simp at h9; omega) (fun _=>Tot.ret rfl)) fun _ h=>Tot.ret h) fun c hc=>?_
    subst hc
    refine Tot.ite (fun h=>absurd h (by decide)) fun _=>Tot.bindeq (idx_some hx) ?_
    refine Tot.ite (fun hh=>absurd (of_decide_eq_true hh) (by omega)) fun _=>Tot.chk (by unfold InI64; omega) (Tot.ret ?_)
    have hlow:((toU8 (Int.tmod ((UInt8.ofNat v ||| 128).toNat:Int) 128)).toNat:Int)=((v % 128:Nat):Int):=by
     have hb2:(UInt8.ofNat v ||| 128).toNat % 128=v % 128:=by
      have h:∀w:Fin 256,(UInt8.ofNat w.1 ||| 128).toNat % 128=w.1 % 128:=by decide +kernel
      have e:UInt8.ofNat v=UInt8.ofNat (v % 256):=by apply UInt8.toNat_inj.1; simp
      have:=h ⟨v % 256,Nat.mod_lt _ (by decide)⟩
      dsimp only at this
      rw [e,this]; omega
     rw [toU8_toNat,Int.tmod_eq_emod_of_nonneg (by omega)]
     omega
    rw [hlow,IntKind.wrap_u64,IntKind.wrap_u64,IntKind.wrap_u64,←Int.natCast_mul,Nat.mul_comm (2 ^ (7 * i)) (v % 128)]
    have e1:((acc:Int)+((v % 128 * 2 ^ (7 * i):Nat):Int) % 18446744073709551616) % 18446744073709551616=((acc+v % 128 * 2 ^ (7 * i):Nat):Int):=by omega
    have e2:((2 ^ (7 * i):Nat):Int) * 128 % 18446744073709551616=((2 ^ (7 * (i+1)):Nat):Int):=by omega
    rw [e1,e2]
    rfl
theorem r_ReadInt {n:Int} (hn:InI64 n) (rest:List UInt8) (hl:rest.length≤90000):ref01N5 (packN (zig n)++rest)=some (n,rest,0):=by
 have hz:=zig_lt hn
 have hp:=packN_len hz
 have:=rN1 (packN (zig n)++rest) rest (zig n) hz (by simp; omega) 9 0 (zig n) 0 [] rfl rfl (by simp) (by simp) (.inl rfl) (Nat.lt_trans hz (by decide)) hz (by omega)
 rw [zag_zig] at this
 exact this
theorem r_count (n:Nat) (rest:List UInt8) (hn:n≤rest.length) (hl:rest.length≤90000):ref01_count (packN (zig n)++rest)=some ((n:Int),rest,0):=by
 refine Tot.eq ?_
 unfold ref01_count
 exact Tot.bindeq (r_ReadInt (by unfold InI64; omega) rest hl) (Tot.ite (fun h=>absurd h (by simp)) fun _=>Tot.ite (fun h=>absurd h (by simp)) fun _=>Tot.ite (fun h=>absurd h (by simp; omega)) fun _=>Tot.ret rfl)
theorem r_ReadStr (s rest:List UInt8) (hl:s.length+rest.length≤90000):ref01N13 (strN s++rest)=some (s,rest,0):=by
 refine Tot.eq ?_
 unfold ref01N13 strN
 rw [List.append_assoc]
 exact Tot.bindeq (r_count s.length (s++rest) (by simp) (by simp; omega)) (Tot.ite (fun h=>absurd h (by simp)) fun _=>Tot.chk (by simp; omega) (Tot.chk (by simp; omega) (Tot.ret (by simp))))
theorem r_ReadInts (l:List Int) (rest:List UInt8) (hi:∀n∈l,InI64 n) (hl:(numsN l).length+rest.length≤90000):ref01N9 (intsN l++rest)=some (l,rest,0):=by
 refine Tot.eq ?_
 unfold ref01N9 intsN
 rw [List.append_assoc]
 have hnp:=numsN_pos l
 refine Tot.bindeq (r_count l.length (numsN l++rest) (by simp; omega) (by simp; omega)) (Tot.ite (fun h=>absurd h (by simp)) fun _=>?_)
 dsimp only
 unfold ref01N12
 have key:∀(r done:List Int),l=done++r→loop (ref01N10 ((l.length:Int),numsN l++rest,0)) (numsN r++rest,(done.length:Int),done)=some (l,rest,0):=by
  intro r
  induction r with
  | nil =>
   intro done hd
   have hd:done=l:=by rw [hd]; simp
   subst hd
   refine loop_inr ?_
   unfold ref01N10 ref01N11
   rw [if_neg (by simp)]
   simp [out,numsN]
  | cons x r ih =>
   intro done hd
   have hx:InI64 x:=hi x (by rw [hd]; simp)
   have hlen:l.length=done.length+(r.length+1):=by rw [hd]; simp
   have hnl:(numsN l).length=(numsN done).length+(numsN (x::r)).length:=by rw [hd]; simp [numsN]
   have hxr:numsN (x::r)=packN (zig x)++numsN r:=by simp [numsN]
   have hxl:(numsN (x::r)).length=(packN (zig x)).length+(numsN r).length:=by rw [hxr]; simp
   have ih':=ih (done++[x]) (by rw [hd]; simp)
   refine (loop_inl (Tot.eq ?_)).trans ih'
   unfold ref01N10
   refine Tot.ite (fun _=>?_) (fun hh=>absurd hh (by simp; omega))
   dsimp only
   rw [hxr,List.append_assoc]
   refine Tot.bindeq (r_ReadInt hx _ (by simp; omega)) (Tot.ite (fun h=>absurd h (by simp)) fun _=>Tot.chk (by simp only [List.length_cons,List.length_nil]; omega) (Tot.chk (by unfold InI64; omega) (Tot.ret ?_)))
   simp
 have:=key l [] rfl
 exact ⟨_,this,rfl⟩
theorem r_parsed (c:api_Copy) (h:smallC c):ref25N1 (bodyN c)=some (c,true):=by
 have hb:=bodyN_len h
 obtain ⟨h1,h2,h3,h4,h5⟩:=h
 have hbe:(bodyN c).length=(packN (zig c.Id)).length+((packN (zig c.Ver)).length+((strN c.Data).length+(intsN c.Sums).length)):=by simp [bodyN]
 have hst:c.Data.length≤(strN c.Data).length:=by simp [strN]
 have hin:(numsN c.Sums).length≤(intsN c.Sums).length:=by simp [intsN]
 refine Tot.eq ?_
 unfold ref25N1 bodyN
 have k4:=r_ReadInts c.Sums [] h5 (by simp; omega)
 rw [List.append_nil] at k4
 refine Tot.bindeq (r_ReadInt h1 _ (by simp; omega)) (Tot.ite (fun h=>absurd h (by simp)) fun _=>Tot.bindeq (r_ReadInt h2 _ (by simp; omega)) (Tot.ite (fun h=>absurd h (by simp)) fun _=>Tot.bindeq (r_ReadStr c.Data (intsN c.Sums) (by omega)) (Tot.ite (fun h=>absurd h (by simp)) fun _=>Tot.bindeq k4 (Tot.bindeq (a:=false) rfl (Tot.ite (fun h=>absurd h (by decide)) fun _=>Tot.chk (by dsimp only; omega) (Tot.ret rfl))))))
end Go.Proofs
