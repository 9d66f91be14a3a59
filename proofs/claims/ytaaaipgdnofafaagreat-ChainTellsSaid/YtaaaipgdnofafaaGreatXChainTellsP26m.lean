/- Chains, plain: what is taken over of disks and copies. No condition. -/
import Derived.Test.YtaaaipgdnofafaaGreatXChainTellsP26l
import Derived.Test.YtaaaipgdnofafaaGreatXChainTellsCatP1
import Derived.Test.YtaaaipgdnofafaaGreatXChainTellsIn
namespace Go.Proofs
set_option linter.all false
open Go Go.Cat
set_option linter.all false
noncomputable def getN (d:api_Disk) (id:Int):api_Copy×Int:=(chunk_Get d id).getD (⟨0,0,[],[]⟩,0)
section
variable {d d':api_Disk}
theorem p_GetN (hd:smallD d) (id:Int):chunk_Get d id=some (getN d id):=by
 obtain ⟨r,h,_⟩:=t_GetS d id hd
 unfold getN; rw [h]; rfl
theorem getN_spec (hd:smallD d) (id:Int):(if (thereN d id).2=0 then (getN d id).2=0∨(getN d id).2=251 else (getN d id).2=(thereN d id).2)∧((getN d id).1.Data.length≤1000∧(getN d id).1.Sums.length≤1000) ∧
  ((getN d id).2=0→mayP (getN d id).1∧(getN d id).1.Id=id∧pageN (getN d id).1=(thereN d id).1)∧((getN d id).2≠0→(getN d id).1=⟨0,0,[],[]⟩):=by
 obtain ⟨r,h,hr⟩:=t_GetS d id hd
 have:getN d id=r:=by unfold getN; rw [h]; rfl
 rw [this]; exact hr
theorem r_GetN (hd:smallD d) (hu:uniq d.Synced) (id:Int):ref25_Get d id=some (getN d id):=by
 obtain ⟨g,h1,h2,_⟩:=Get_same d id hd hu
 rw [h2]; unfold getN; rw [h1]; rfl
end
theorem filter_snoc {α:Type} (p:α→Bool) (l:List α) (x:α):(l++[x]).filter p=if p x=true then l.filter p++[x] else l.filter p:=by
 rw [List.filter_append]
 cases h:p x <;> simp [h]
theorem uniq_asc {l:List api_Page}:uniq l↔Asc l:=by
 unfold uniq Asc
 rw [List.pairwise_iff_getElem]
 constructor
 ·intro h i j hi hj hij
  exact h i j hij _ _ (List.getElem?_eq_getElem hi) (List.getElem?_eq_getElem hj)
 ·intro h i j hij p q hp hq
  obtain ⟨hi,rfl⟩:=List.getElem?_eq_some_iff.1 hp
  obtain ⟨hj,rfl⟩:=List.getElem?_eq_some_iff.1 hq
  exact h i j hi hj hij
structure Fit (d:api_Disk) (n:Nat):Prop where
 t:d.Synced.length+d.Loose.length≤n
 x:∀p,p∈d.Synced++d.Loose→p.Data.length≤200∧InI64 p.At
 a:Asc d.Synced
theorem Fit.ok {d:api_Disk} {n:Nat} (h:Fit d n):OkD d n:=⟨by have:=h.t; omega,by have:=h.t; omega,fun p hp=>⟨by have:=(h.x p hp).1; omega,(h.x p hp).2⟩⟩
theorem Fit.small {d:api_Disk} {n:Nat} (h:Fit d n) (hn:n≤500):smallD d:=(h.ok.mono hn).small
theorem Fit.uniq {d:api_Disk} {n:Nat} (h:Fit d n):uniq d.Synced:=uniq_asc.2 h.a
theorem Fit.mono {d:api_Disk} {n m:Nat} (h:Fit d n) (e:n≤m):Fit d m:=⟨Nat.le_trans h.t e,h.x,h.a⟩
def syncD (d:api_Disk):api_Disk:=⟨laidN d.Synced d.Loose,[],false⟩
theorem Fit.sync {d:api_Disk} {n:Nat} (h:Fit d n):Fit (syncD d) n:=⟨by
 have:=laid_len d.Synced d.Loose; have:=h.t
 show (laidN d.Synced d.Loose).length+0≤n; omega,fun p hp=>laid_all h.x p (by simpa [syncD] using hp),laid_asc _ _⟩
theorem write_fit {d:api_Disk} {n:Nat} {a:Int} {x:List UInt8} (h:Fit d n) (hz:(writeN d a x).2=0):(writeN d a x).1=⟨d.Synced,d.Loose++[⟨a,x⟩],false⟩∧d.Down=false∧mayN a x.length∧Fit (writeN d a x).1 (n+1):=by
 unfold writeN at hz ⊢
 by_cases h1:d.Down=true
 ·rw [if_pos h1] at hz; cases hz
 ·rw [if_neg h1] at hz ⊢
  by_cases h2:mayN a x.length
  ·rw [if_pos h2]
   have hd:d.Down=false:=by simpa using h1
   refine ⟨by rw [hd],hd,h2,?_,?_,h.a⟩
   ·have:=h.t; simp only [List.length_append,List.length_cons,List.length_nil]; omega
   ·intro p hp
    simp only [List.mem_append,List.mem_singleton] at hp
    rcases hp with hp | hp | rfl
    ·exact h.x p (List.mem_append_left _ hp)
    ·exact h.x p (List.mem_append_right _ hp)
    ·unfold mayN at h2; exact ⟨by dsimp only; omega,by unfold InI64; dsimp only; omega⟩
  ·rw [if_neg h2] at hz; cases hz
def isS (D:List api_Disk) (s:Int):Prop:=0≤s∧s < (D.length:Int)
noncomputable def atS (D:List api_Disk) (s:Int):api_Disk:=D.getD s.toNat d0'
 where d0':api_Disk:=⟨[],[],false⟩
theorem at_get {D:List api_Disk} {s:Int} (h:isS D s):D[s.toNat]?=some (atS D s):=by
 unfold atS; rw [List.getD_eq_getElem?_getD]
 obtain ⟨h1,h2⟩:=h
 rw [List.getElem?_eq_getElem (by omega)]; rfl
theorem at_idx {D:List api_Disk} {s:Int} (h:isS D s):idx D s=some (atS D s):=by
 unfold idx; rw [if_pos h.1,at_get h]
theorem at_mem {D:List api_Disk} {s:Int} (h:isS D s):atS D s∈D:=List.mem_of_getElem? (at_get h)
theorem at_of {D:List api_Disk} {s:Int} {d:api_Disk} (h0:0≤s) (h:D[s.toNat]?=some d):isS D s∧atS D s=d:=by
 have hi:isS D s:=⟨h0,by have:=(List.getElem?_eq_some_iff.1 h).1; omega⟩
 exact ⟨hi,Option.some.inj ((at_get hi).symm.trans h)⟩
theorem put_fit {d:api_Disk} {n:Nat} {c:api_Copy} (h:Fit d n) (hz:(putN d c).2=0):mayP c∧putN d c=writeN d c.Id (pageN c)∧(putN d c).1.Down=false∧Fit (putN d c).1 (n+1):=by
 unfold putN at hz ⊢
 by_cases hm:mayP c
 ·rw [if_pos hm] at hz ⊢
  obtain ⟨h1,h2,h3,h4⟩:=write_fit h hz
  exact ⟨hm,rfl,by rw [h1],h4⟩
 ·rw [if_neg hm] at hz; cases hz
theorem Fit.put {S L:List api_Page} {n:Nat} {i:Int} {x:List UInt8} {b:Bool} (h:Fit ⟨S,L,b⟩ n) (hi:InI64 i) (hx:x.length≤200):Fit (syncD ⟨S,L++[⟨i,x⟩],false⟩) (n+1):=by
 refine Fit.sync ⟨?_,fun p hp=>?_,h.a⟩
 ·have:=h.t; simp only [List.length_append,List.length_cons,List.length_nil] at *; omega
 ·simp only [List.mem_append,List.mem_singleton] at hp
  rcases hp with hp | hp | rfl
  ·exact h.x p (List.mem_append_left _ hp)
  ·exact h.x p (List.mem_append_right _ hp)
  ·exact ⟨hx,hi⟩
theorem within_i64 {i:Int} (h:withinP i):InI64 i:=by unfold withinP at h; unfold InI64; omega
theorem page_ne (c:api_Copy):pageN c≠[]:=fun e=>by
 have:=congrArg List.length e
 unfold pageN tailN at this
 simp at this
theorem p_Contains (l:List Int) (x:Int) (h:l.length≤100000):slicesN33 l x=some (decide (x∈l)):=by
 refine Tot.eq ?_
 unfold slicesN33
 refine Tot.bind (R:=fun r=>0≤r↔x∈l) ?_ fun r hr=>Tot.ret (by rw [decide_eq_decide]; exact hr)
 unfold slicesN75 slicesN80
 refine Tot.each0 (l:=l) (fun n=>x∉l.take n) (fun n y hlt hy hi=>?_) (fun hi=>?_) (by simp)
 ·unfold slicesN77
  refine Tot.cond (by simp; omega) (Tot.bindeq (idx_some hy) (Tot.ite (fun h=>Tot.out (Tot.ret ⟨fun _=>?_,fun _=>by omega⟩)) fun h=>Tot.chk (by unfold InI64; omega) (Tot.inl ⟨rfl,?_⟩)))
  ·have:x=y:=by simpa using h
   rw [this]; exact List.mem_of_getElem? hy
  ·rw [take_snoc hy]
   simp only [List.mem_append,List.mem_singleton,not_or]
   exact ⟨hi,by simpa using h⟩
 ·unfold slicesN77 slicesN79
  rw [List.take_length] at hi
  exact Tot.ncond (by simp) (Tot.out (Tot.ret ⟨fun h=>by omega,fun h=>(hi h).elim⟩))
theorem xor_cancel {a b c:Nat} (h:a ^^^ b=a ^^^ c):b=c:=by
 have:=congrArg (a ^^^ ·) h
 simpa [←Nat.xor_assoc] using this
theorem xor_cancel' {a b c:Nat} (h:b ^^^ a=c ^^^ a):b=c:=xor_cancel (a:=a) (by rw [Nat.xor_comm a b,h,Nat.xor_comm])
theorem sumNib_inj {y z:Nat} (hy:y < 4294967296) (hz:z < 4294967296) (h:sumNib y=sumNib z):y=z:=by
 unfold sumNib at h
 have key:∀w,w < 4294967296→(sumTab.getD (w &&& 15) 0 ^^^ (w >>> 4)) >>> 28=sumTab.getD (w &&& 15) 0 >>> 28:=by
  intro w hw
  rw [Nat.shiftRight_xor_distrib,←Nat.shiftRight_add]
  have:w >>> (4+28)=0:=by rw [Nat.shiftRight_eq_div_pow]; exact Nat.div_eq_of_lt (by simpa using hw)
  rw [this,Nat.xor_zero]
 have h28:=congrArg (· >>> 28) h
 simp only [key y hy,key z hz] at h28
 have hya:y &&& 15 < 16:=Nat.and_lt_two_pow (n:=4) y (by decide)
 have hza:z &&& 15 < 16:=Nat.and_lt_two_pow (n:=4) z (by decide)
 have tab:∀a b:Fin 16,sumTab.getD a.1 0 >>> 28=sumTab.getD b.1 0 >>> 28→a=b:=by decide
 have hab:y &&& 15=z &&& 15:=congrArg Fin.val (tab ⟨y &&& 15,hya⟩ ⟨z &&& 15,hza⟩ h28)
 rw [hab] at h
 have hs:=xor_cancel h
 rw [Nat.shiftRight_eq_div_pow,Nat.shiftRight_eq_div_pow] at hs
 rw [show (15:Nat)=2 ^ 4 - 1 from rfl,Nat.and_two_pow_sub_one_eq_mod,Nat.and_two_pow_sub_one_eq_mod] at hab
 omega
theorem sumStep_inj {s t:Nat} (hs:s < 4294967296) (ht:t < 4294967296) {x:UInt8} (h:sumStep s x=sumStep t x):s=t:=by
 have h1:=xlt32 hs (byte_lt x)
 have h2:=xlt32 ht (byte_lt x)
 exact xor_cancel' (sumNib_inj h1 h2 (sumNib_inj (sumNib_lt h1) (sumNib_lt h2) h))
theorem sumStepN1 {s:Nat} (hs:s < 4294967296) {x y:UInt8} (h:sumStep s x=sumStep s y):x=y:=by
 have h1:=xlt32 hs (byte_lt x)
 have h2:=xlt32 hs (byte_lt y)
 exact UInt8.toNat_inj.1 (xor_cancel (sumNib_inj h1 h2 (sumNib_inj (sumNib_lt h1) (sumNib_lt h2) h)))
theorem fold_inj:∀(b:List UInt8) {s t:Nat},s < 4294967296→t < 4294967296→b.foldl sumStep s=b.foldl sumStep t→s=t
 | [],_,_,_,_,h=>h
 | x::b,_,_,hs,ht,h=>sumStep_inj hs ht (fold_inj b (sumStep_lt hs x) (sumStep_lt ht x) h)
theorem fold_set:∀(b:List UInt8) (i:Nat) (y x:UInt8) {s:Nat},s < 4294967296→b[i]?=some x→(b.set i y).foldl sumStep s=b.foldl sumStep s→y=x
 | [],i,y,x,_,_,h,_=>by simp at h
 | z::b,0,y,x,s,hs,h,he=>by
  simp at h; subst h
  exact sumStepN1 hs (fold_inj b (sumStep_lt hs y) (sumStep_lt hs z) (by simpa using he))
 | z::b,i+1,y,x,s,hs,h,he=>fold_set b i y x (sumStep_lt hs z) (by simpa using h) (by simpa using he)
theorem sumN_set {b:List UInt8} {i:Nat} {y x:UInt8} (h:b[i]?=some x) (he:sumN (b.set i y)=sumN b):y=x :=
 fold_set b i y x (by decide) h (xor_cancel' he)
theorem packN_le {u:Nat} (j:Nat) (h:u < 128 ^ (j+1)):(packN u).length≤j+1:=sevens_len 10 j u h
theorem nums5:∀l:List Nat,(∀x∈l,x < 4294967296)→(numsN (l.map Int.ofNat)).length≤5 * l.length
 | [],_=>by simp [numsN]
 | n::l,h=>by
  have hn:=h n (List.mem_cons_self ..)
  have hz:zig (Int.ofNat n) < 128 ^ (4+1):=by
   unfold zig
   show (if (n:Int) < 0 then _ else _) < _
   rw [if_neg (by omega)]
   show (2 * (n:Int)).toNat < 34359738368
   omega
  have h1:=packN_le 4 hz
  have h2:=nums5 l fun x hx=>h x (List.mem_cons_of_mem _ hx)
  unfold numsN at h2 ⊢
  simp at h1 h2 ⊢; omega
theorem p_IndexR (l:List api_Page) (a:Int) (h:l.length≤100000):diskN3 l a=some (match l.findIdx? (fun p=>p.At == a) with | some n=>(n:Int) | none=>-1):=by
 unfold diskN3 slicesN50 slicesN53
 have:=loop_find (b:=l) (B:=slicesN51 l a) (fun p=>p.At == a) (fun n _=>(n:Int)) (-1) ?_ ?_
 ·rw [this]
  simp only [Option.bind_some]
  congr 1
  cases hf:l.findIdx? (fun p=>p.At == a) with
  | none=>rfl
  | some n =>
   have:=List.findIdx?_eq_some_iff_getElem.1 hf
   obtain ⟨hn,-⟩:=this
   simp [List.getElem?_eq_getElem hn]
 ·intro n x hx hn
  cases hc:x.At == a
  ·rw [if_neg (by decide)]
   refine Tot.eq ?_
   unfold slicesN51 disk_Rot_1
   exact Tot.ite (fun _=>Tot.bindeq (idx_some hx) (Tot.bindeq rfl (Tot.ite (fun h=>by rw [hc] at h; cases h) (fun h=>Tot.chk (by unfold InI64; omega) (Tot.ret rfl))))) (fun hh=>absurd hh (by simp; omega))
  ·rw [if_pos rfl]
   refine Tot.eq ?_
   unfold slicesN51 disk_Rot_1
   exact Tot.ite (fun _=>Tot.bindeq (idx_some hx) (Tot.bindeq rfl (Tot.ite (fun h=>⟨_,rfl,rfl⟩) (fun h=>absurd hc h)))) (fun hh=>absurd hh (by simp; omega))
 ·unfold slicesN51 slicesN52
  rw [if_neg (by simp)]; rfl
theorem split_idx {a:Int} {p:api_Page} {l2:List api_Page} (hp:p.At=a):∀{l1:List api_Page},(∀x,x∈l1→x.At≠a)→(l1++p::l2).findIdx? (fun p=>p.At == a)=some l1.length
 | [],_=>by simp [List.findIdx?_cons,hp]
 | q::l1,h=>by
  have hq:(q.At == a)=false:=by simpa using h q (by simp)
  rw [List.cons_append,List.findIdx?_cons,hq,split_idx hp fun x hx=>h x (by simp [hx])]
  rfl
def msk (bit:Int):UInt8:=toU8 (shlK .u8 1 (Int.tmod bit 8))
theorem msk_ne {bit:Int} (h:0≤bit):msk bit≠0:=by
 have h1:0≤bit.tmod 8:=Int.tmod_nonneg _ h
 have h2:bit.tmod 8 < 8:=Int.tmod_lt_of_pos _ (by decide)
 unfold msk
 generalize bit.tmod 8=r at h1 h2
 have:r=0∨r=1∨r=2∨r=3∨r=4∨r=5∨r=6∨r=7:=by omega
 rcases this with h | h | h | h | h | h | h | h <;> subst h <;> decide
theorem xor_other {x m:UInt8} (h:m≠0):x ^^^ m≠x:=fun e=>h (by
 have:x ^^^ (x ^^^ m)=x ^^^ x:=by rw [e]
 rwa [←UInt8.xor_assoc,UInt8.xor_self,UInt8.zero_xor] at this)
theorem wrapi {n:Int} (h:InI64 n):IntKind.i64.wrap n=n:=IntWalk.i64_in _ h
theorem quo8 {bit:Int} (h:0≤bit) (h1:bit < 1000000):quoK .i64 bit 8=((bit.toNat / 8:Nat):Int):=by
 unfold quoK
 rw [Int.tdiv_eq_ediv_of_nonneg h]
 have e:bit / 8=((bit.toNat / 8:Nat):Int):=by omega
 rw [e]
 exact wrapi (by unfold InI64; omega)
theorem rot_ok {l1 l2 L:List api_Page} {p:api_Page} {b:Bool} {a bit:Int} {x:UInt8} (hp:p.At=a) (hl:∀x,x∈l1→x.At≠a) (hn:(l1++p::l2).length≤1000) (hd:p.Data.length≤1000)
  (h0:0≤bit) (h1:bit < 8 * (p.Data.length:Int)) (hx:p.Data[bit.toNat / 8]?=some x) :
  disk_Rot ⟨l1++p::l2,L,b⟩ a bit=some ⟨l1++⟨p.At,p.Data.set (bit.toNat / 8) (x ^^^ msk bit)⟩::l2,L,b⟩:=by
 have hi:(l1++p::l2)[l1.length]?=some p:=by simp
 have hq:=quo8 h0 (by omega)
 refine Tot.eq ?_
 unfold disk_Rot
 have e:=p_IndexR (l1++p::l2) a (by omega)
 rw [split_idx hp hl] at e
 refine Tot.bindeq e (Tot.bind (R:=(·=false)) ?_ fun v hv=>?_)
 ·refine Tot.bind (R:=(·=false)) (Tot.ncond (by simp) (Tot.ret (by simp; omega))) fun v hv=>?_
  subst hv
  exact Tot.bind (R:=(·=false)) (Tot.ncond (by decide) (Tot.bindeq (idx_some hi) (Tot.chk (by unfold InI64; omega) (Tot.ret (by simp; omega))))) fun _ h=>Tot.ret h
 ·subst hv
  refine Tot.ncond (by decide) (Tot.bindeq (idx_some hi) (Tot.bindeq (p_bClone _ (by omega)) ?_))
  rw [hq]
  refine Tot.bindeq (idx_some hx) (Tot.chk (Int.tmod_nonneg _ h0) (Tot.bindeq (idx_some hx) (Tot.bindeq (pN3 _ (by show (l1++p::l2).length≤_; omega)) (Tot.bindeq (idx_some hi) (Tot.ret ?_)))))
  show api_Disk.mk ((l1++p::l2).set l1.length _) L b=_
  rw [List.set_append_right _ _ (Nat.le_refl _),Nat.sub_self]
  rfl
theorem tailN_inj {u v:Nat} (hu:u < 4294967296) (hv:v < 4294967296) (h:tailN u=tailN v):u=v:=by
 unfold tailN at h
 have s:∀w:Nat,shrK .i64 (w:Int) 0=((w >>> 0:Nat):Int)∧shrK .i64 (w:Int) 8=((w >>> 8:Nat):Int)∧shrK .i64 (w:Int) 16=((w >>> 16:Nat):Int)∧shrK .i64 (w:Int) 24=((w >>> 24:Nat):Int):=fun w=>⟨shrK_nat (b:=0) (by decide),shrK_nat (b:=8) (by decide),shrK_nat (b:=16) (by decide),shrK_nat (b:=24) (by decide)⟩
 rw [(s u).1,(s u).2.1,(s u).2.2.1,(s u).2.2.2,(s v).1,(s v).2.1,(s v).2.2.1,(s v).2.2.2] at h
 simp only [List.cons.injEq,and_true] at h
 obtain ⟨h0,h1,h2,h3⟩:=h
 have e0:=congrArg UInt8.toNat h0
 have e1:=congrArg UInt8.toNat h1
 have e2:=congrArg UInt8.toNat h2
 have e3:=congrArg UInt8.toNat h3
 rw [toU8_nat,toU8_nat,UInt8.toNat_ofNat',UInt8.toNat_ofNat'] at e0 e1 e2 e3
 simp only [Nat.shiftRight_eq_div_pow] at e0 e1 e2 e3
 omega
theorem page_turned {c c':api_Copy} {K:Nat} {x y:UInt8} (hx:(pageN c)[K]?=some x) (hy:y≠x):pageN c'≠(pageN c).set K y:=by
 intro e
 have l1:∀k:api_Copy,(pageN k).length=(bodyN k).length+4:=fun k=>by simp [pageN,tailN]
 have hl:(bodyN c').length=(bodyN c).length:=by
  have:=congrArg List.length e
  rw [List.length_set,l1,l1] at this; omega
 have hK:=(getR hx).1
 rcases Nat.lt_or_ge K (bodyN c).length with hk | hk
 ·have e1:bodyN c'++tailN (sumN (bodyN c'))=(bodyN c).set K y++tailN (sumN (bodyN c)):=by
   have:(pageN c).set K y=(bodyN c).set K y++tailN (sumN (bodyN c)):=by unfold pageN; rw [List.set_append_left _ _ hk]
   rw [←this,←e]; rfl
  obtain ⟨eb,et⟩:=List.append_inj e1 (by rw [List.length_set]; exact hl)
  have es:=tailN_inj (sumN_lt _) (sumN_lt _) et
  rw [eb] at es
  have hx':(bodyN c)[K]?=some x:=by
   unfold pageN at hx
   rw [List.getElem?_append_left hk] at hx; exact hx
  exact hy (sumN_set hx' es)
 ·have e1:bodyN c'++tailN (sumN (bodyN c'))=bodyN c++(tailN (sumN (bodyN c))).set (K - (bodyN c).length) y:=by
   have:(pageN c).set K y=bodyN c++(tailN (sumN (bodyN c))).set (K - (bodyN c).length) y:=by unfold pageN; rw [List.set_append_right _ _ hk]
   rw [←this,←e]; rfl
  obtain ⟨eb,et⟩:=List.append_inj e1 hl
  have e2:pageN c'=pageN c:=by unfold pageN; rw [eb]
  rw [e2] at e
  have:(pageN c)[K]?=((pageN c).set K y)[K]?:=congrArg (fun l=>l[K]?) e
  rw [List.getElem?_set_self hK,hx] at this
  exact hy (Option.some.inj this).symm
theorem p_New (id ver:Int) (data:List UInt8) (h:data.length≤100000):chunk_New id ver data=some ⟨id,ver,data,(blocksN data).map Int.ofNat⟩:=by
 unfold chunk_New
 rw [pN2 _ (by omega),Option.bind_some,p_Blocks _ (by omega),Option.bind_some]
def pg (c:api_Copy) (q:List UInt8):api_Disk:=⟨[⟨c.Id,q⟩],[],false⟩
section
variable {c:api_Copy} {q:List UInt8}
theorem laid_one (p:api_Page):laidN [] [p]=[p]:=by
 unfold laidN keysI byM
 simp [mset,mget]
theorem pg_fit (hw:withinP c.Id) (hq:q.length≤200):Fit (pg c q) 1:=⟨by simp [pg],fun p hp=>by
 have:p=⟨c.Id,q⟩:=by simpa [pg] using hp
 rw [this]; exact ⟨hq,within_i64 hw⟩,by simp [pg,Asc]⟩
theorem pg_read (hw:withinP c.Id):readN (pg c q) c.Id=(q,0):=by
 have hm:mayN c.Id 0:=by unfold mayN; unfold withinP at hw; omega
 unfold readN pg
 rw [if_neg (by simp),if_pos hm]
 simp
theorem pg_there (hw:withinP c.Id) (hq:q≠[]):thereN (pg c q) c.Id=(q,0):=by
 unfold thereN
 rw [if_pos hw,pg_read hw,if_neg (fun h=>hq h.2)]
theorem pg_good (hc:mayP c) (hp:(pageN c).length≤200):getN (pg c (pageN c)) c.Id=(c,0):=by
 have hw:withinP c.Id:=by have:=hc.1; unfold withinP; omega
 unfold getN
 rw [p_Get_there ((pg_fit hw hp).small (by omega)) hc rfl (pg_there hw (page_ne c))]; rfl
end
end Go.Proofs
