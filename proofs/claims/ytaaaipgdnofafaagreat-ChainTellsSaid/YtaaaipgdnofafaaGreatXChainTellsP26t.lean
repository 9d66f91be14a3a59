/- Chains, plain: what a disk here may be; the bytes of a write; what becomes of a disk. No condition. -/
import Derived.Test.YtaaaipgdnofafaaGreatXChainTellsP26s
namespace Go.Proofs
set_option linter.all false
open Go Go.Cat
set_option linter.all false
def bytesN (n:Nat):List UInt8:=UInt8.ofNat n::(List.range (n * 7 % 60)).map fun i=>UInt8.ofNat (n * i)
theorem toU8_n (u:Nat):toU8 (u:Int)=UInt8.ofNat u:=toU8_nat u
theorem bytesN_len (n:Nat):(bytesN n).length≤60:=by unfold bytesN; simp; omega
theorem p_bytes (n:Nat) (h:n≤1000):law26_bytes (n:Int)=some (bytesN n):=by
 refine Tot.eq ?_
 unfold law26_bytes law26N7
 refine Tot.bind (R:=(·=bytesN n)) ?_ fun r hr=>Tot.ret hr
 have hm:Int.tmod ((n:Int) * 7) 60=((n * 7 % 60:Nat):Int):=by
  rw [Int.tmod_eq_emod_of_nonneg (by omega)]; omega
 refine Tot.loop (fun s:Int×List UInt8=>∃k:Nat,s.1=k∧k≤n * 7 % 60∧s.2=UInt8.ofNat n::(List.range k).map fun i=>UInt8.ofNat (n * i)) (fun s=>n * 7 % 60+1 - s.1.toNat) ?_ _ ⟨0,rfl,by omega,by rw [toU8_n]; rfl⟩
 rintro ⟨i,a⟩ ⟨k,rfl,hk,rfl⟩
 unfold law26N6
 dsimp only
 refine Tot.chk (by unfold InI64; omega) ?_
 rw [hm]
 have hnk:(n:Int) * (k:Int)=((n * k:Nat):Int):=by simp
 rw [hnk]
 have hb:n * k≤1000 * 60:=Nat.mul_le_mul h (by omega)
 refine Tot.ite (fun e=>?_) fun e=>?_
 ·have hlt:k < n * 7 % 60:=by simp at e; omega
  refine Tot.chk (by unfold InI64; omega) (Tot.chk (by simp; omega) (Tot.chk (by unfold InI64; omega) (Tot.inl ⟨⟨k+1,rfl,hlt,?_⟩,by show n * 7 % 60+1 - ((k:Int)+1).toNat < n * 7 % 60+1 - (k:Int).toNat; omega⟩)))
  dsimp only
  rw [toU8_n,List.range_succ,List.map_append]; rfl
 ·have hge:k=n * 7 % 60:=by simp at e; omega
  subst hge
  exact Tot.out (Tot.ret rfl)
theorem p_which (n:Nat) (h:n≤255):law26_which (bytesN n)=some (n:Int):=by
 refine Tot.eq ?_
 have h0:idx (bytesN n) 0=some (UInt8.ofNat n):=rfl
 have hn:((UInt8.ofNat n).toNat:Int)=(n:Int):=by rw [UInt8.toNat_ofNat']; omega
 unfold law26_which
 refine Tot.ncond (by simp [bytesN]; omega) (Tot.bindeq h0 ?_)
 rw [hn]
 refine Tot.bindeq (p_bytes n (by omega)) (Tot.bindeq (b_BytesR _ (by have:=bytesN_len n; omega)) (Tot.ncond (by simp) (Tot.bindeq h0 (Tot.ret hn))))
def badQ (q:List UInt8):Prop:=q≠[]∧q.length≤200∧∀c',pageN c'≠q
def Has (d:api_Disk) (v:Int) (x:List UInt8):Prop:=d.Synced=[⟨7,pageN (newC 7 v x)⟩]∧mayP (newC 7 v x)
structure Fine (d:api_Disk):Prop where
 l:d.Loose=[]
 s:d.Synced=[]∨(∃q,d.Synced=[⟨7,q⟩]∧badQ q)∨∃v x,Has d v x
theorem Fine.fit {d:api_Disk} (h:Fine d):Fit d 1:=by
 have h7:InI64 7:=by unfold InI64; omega
 have one:∀q:List UInt8,q.length≤200→d.Synced=[⟨7,q⟩]→Fit d 1:=fun q hq e=>⟨by rw [e,h.l]; simp,fun p hp=>by
  rw [e,h.l] at hp
  have:p=⟨7,q⟩:=by simpa using hp
  rw [this]; exact ⟨hq,h7⟩,by rw [e]; simp [Asc]⟩
 rcases h.s with e | ⟨q,e,hq⟩ | ⟨v,x,e,hm⟩
 ·exact ⟨by rw [e,h.l]; simp,fun p hp=>by rw [e,h.l] at hp; simp at hp,by rw [e]; exact .nil⟩
 ·exact one q hq.2.1 e
 ·exact one _ (page200 hm) e
theorem w7:withinP 7:=by unfold withinP; omega
theorem m7:mayN 7 0:=by unfold mayN; omega
theorem there_one {q:List UInt8} (hq:q≠[]):thereN ⟨[⟨7,q⟩],[],false⟩ 7=(q,0):=pg_there (c:=⟨7,0,[],[]⟩) w7 hq
theorem get_up {d:api_Disk} (h:Fine d) (hd:d.Down=false):(d.Synced=[]∧(getN d 7).2=41)∨((∃q,d.Synced=[⟨7,q⟩]∧badQ q)∧(getN d 7).2=251)∨∃v x,Has d v x∧getN d 7=(newC 7 v x,0):=by
 have hf:=h.fit
 have hl:=h.l
 obtain ⟨S,L,b⟩:=d
 dsimp only at hd hl; subst hd hl
 have hsp:=getN_spec (hf.small (by omega)) 7
 rcases h.s with e | ⟨q,e,hq⟩ | ⟨v,x,e,hm⟩
 ·dsimp only at e; subst e
  refine .inl ⟨rfl,?_⟩
  have ht:thereN ⟨[],[],false⟩ 7=([],41):=by
   unfold thereN
   rw [if_pos w7]
   have:readN ⟨[],[],false⟩ 7=([],41):=by unfold readN; rw [if_neg (by simp),if_pos m7]; simp
   rw [this]; rfl
  rw [ht] at hsp
  simpa using hsp.1
 ·dsimp only at e; subst e
  refine .inr (.inl ⟨⟨q,rfl,hq⟩,?_⟩)
  rw [there_one hq.1,if_pos rfl] at hsp
  rcases hsp.1 with h1 | h1
  ·exact (hq.2.2 _ (hsp.2.2.1 h1).2.2).elim
  ·exact h1
 ·dsimp only at e; subst e
  refine .inr (.inr ⟨v,x,⟨rfl,hm⟩,?_⟩)
  exact pg_good (c:=newC 7 v x) hm (page200 hm)
theorem get_has {d:api_Disk} {v:Int} {x:List UInt8} (h:Fine d) (hd:d.Down=false) (hh:Has d v x):getN d 7=(newC 7 v x,0):=by
 have e:d=pg (newC 7 v x) (pageN (newC 7 v x)):=by
  have h1:=hh.1; have h2:=h.l
  obtain ⟨S,L,b⟩:=d
  dsimp only at h1 h2 hd
  subst h1 h2 hd; rfl
 rw [e]
 exact pg_good hh.2 (page200 hh.2)
theorem get_down {d:api_Disk} (h:Fine d) (hd:d.Down=true):(getN d 7).2=40:=by
 have hsp:=getN_spec (h.fit.small (by omega)) 7
 rw [there_down hd w7] at hsp
 simpa using hsp.1
theorem get_of {d:api_Disk} (h:Fine d) (hz:(getN d 7).2=0):d.Down=false∧∃v x,Has d v x∧getN d 7=(newC 7 v x,0):=by
 cases hd:d.Down
 ·refine ⟨rfl,?_⟩
  rcases get_up h hd with ⟨_,e⟩ | ⟨_,e⟩ | e
  ·rw [e] at hz; cases hz
  ·rw [e] at hz; cases hz
  ·exact e
 ·rw [get_down h hd] at hz; cases hz
theorem has_inj {d:api_Disk} (h:Fine d) {v v':Int} {x x':List UInt8} (h1:Has d v x) (h2:Has d v' x'):v=v'∧x=x':=by
 have key:∀{v x},Has d v x→getN ⟨d.Synced,[],false⟩ 7=(newC 7 v x,0):=fun {v x} hh=>by
  rw [hh.1]; exact pg_good (c:=newC 7 v x) hh.2 (page200 hh.2)
 have e:=(key h1).symm.trans (key h2)
 have e2:=congrArg Prod.fst e
 unfold newC at e2
 injection e2 with _ e3 e4 _
 exact ⟨e3,e4⟩
theorem laid_same {q:List UInt8}:laidN [⟨7,q⟩] []=[⟨7,q⟩]:=by unfold laidN keysI byM; simp [mset,mget]
theorem laid_nil:laidN [] []=[]:=by unfold laidN keysI byM; simp
theorem laid_two {q p:List UInt8}:laidN [⟨7,q⟩] [⟨7,p⟩]=[⟨7,p⟩]:=by unfold laidN keysI byM; simp [mset,mget]
theorem Fine.laid0 {d:api_Disk} (h:Fine d):laidN d.Synced []=d.Synced:=by
 rcases h.s with e | ⟨q,e,_⟩ | ⟨v,x,e,_⟩ <;> rw [e]
 ·exact laid_nil
 ·exact laid_same
 ·exact laid_same
theorem Fine.laid1 {d:api_Disk} (h:Fine d) (p:List UInt8):laidN d.Synced [⟨7,p⟩]=[⟨7,p⟩]:=by
 rcases h.s with e | ⟨q,e,_⟩ | ⟨v,x,e,_⟩ <;> rw [e]
 ·exact laid_one _
 ·exact laid_two
 ·exact laid_two
theorem Fine.down {d:api_Disk} (h:Fine d) (b:Bool):Fine ⟨d.Synced,[],b⟩:=⟨rfl,h.s⟩
theorem lay_has {d:api_Disk} {v:Int} {x:List UInt8} (h:Fine d) (hd:d.Down=false) (hm:mayP (newC 7 v x)):layD d (newC 7 v x)=⟨[⟨7,pageN (newC 7 v x)⟩],[],false⟩:=by
 have hp:=page200 hm
 have hmn:mayN 7 (pageN (newC 7 v x)).length:=by unfold mayN; omega
 have e:putN d (newC 7 v x)=(⟨d.Synced,[⟨7,pageN (newC 7 v x)⟩],false⟩,0):=by
  unfold putN
  rw [if_pos hm]
  unfold writeN
  rw [if_neg (by simp [hd]),if_pos (show mayN (newC 7 v x).Id (pageN (newC 7 v x)).length from hmn),h.l,hd]; rfl
 unfold layD
 rw [e]
 unfold syncN
 rw [if_neg (by simp)]
 show api_Disk.mk (laidN d.Synced [⟨7,pageN (newC 7 v x)⟩]) [] false=_
 rw [h.laid1]
theorem has_lay {d:api_Disk} {v:Int} {x:List UInt8} (h:Fine d) (hd:d.Down=false) (hm:mayP (newC 7 v x)):Fine (layD d (newC 7 v x))∧Has (layD d (newC 7 v x)) v x:=by
 rw [lay_has h hd hm]
 exact ⟨⟨rfl,.inr (.inr ⟨v,x,rfl,hm⟩)⟩,rfl,hm⟩
theorem fine_lay {d:api_Disk} {v:Int} {x:List UInt8} (h:Fine d) (hm:mayP (newC 7 v x)):Fine (layD d (newC 7 v x)):=by
 cases hd:d.Down
 ·exact (has_lay h hd hm).1
 ·rw [lay_down hd]; exact h
theorem p_Crash7 {d:api_Disk} (h:Fine d) (k:Int):disk_Crash d k=some ⟨d.Synced,[],true⟩:=by
 refine Tot.eq ?_
 unfold disk_Crash
 have hl:=h.l
 rw [hl]
 have hz:min (max k 0) ((([]:List api_Page).length:Nat):Int)=0:=by simp; omega
 rw [hz]
 refine Tot.chk (by simp) (Tot.bindeq (a:=d.Synced) ?_ (Tot.ret rfl))
 have hf:=h.fit
 have:=p_laid d.Synced [] (by have:=hf.t; simp; omega) (fun p hp=>(hf.x p (by simp at hp; simp [hp])).2)
 rw [h.laid0] at this
 exact this
theorem p_Up7 {d:api_Disk} (h:Fine d):disk_Up d=some ⟨d.Synced,[],false⟩:=by unfold disk_Up; rw [h.l]
theorem p_Rot7 {d:api_Disk} {v:Int} {x:List UInt8} (h:Fine d) (hd:d.Down=false) (hh:Has d v x) {bit:Int} (h0:0≤bit) (h1:bit < 1000) :
  Tot (disk_Rot d 7 bit) fun r=>r=d∨(Fine r∧r.Down=false∧∃q,r.Synced=[⟨7,q⟩]∧badQ q):=by
 have hm:=hh.2
 have hp:=page200 hm
 have hS:=hh.1
 have hL:=h.l
 obtain ⟨S,L,b⟩:=d
 dsimp only at hS hL hd
 subst hS hL hd
 rcases Int.lt_or_le bit (8 * ((pageN (newC 7 v x)).length:Int)) with hb | hb
 ·have hk:bit.toNat / 8 < (pageN (newC 7 v x)).length:=by omega
  have hx:=List.getElem?_eq_getElem hk
  have hr:=rot_ok (l1:=[]) (l2:=[]) (L:=[]) (p:=⟨7,pageN (newC 7 v x)⟩) (b:=false) (a:=7) (bit:=bit) rfl (fun _ h=>by cases h) (by simp) (by show (pageN (newC 7 v x)).length≤1000; omega) h0 hb hx
  refine ⟨_,hr,.inr ?_⟩
  have hbad:badQ ((pageN (newC 7 v x)).set (bit.toNat / 8) ((pageN (newC 7 v x))[bit.toNat / 8] ^^^ msk bit)):=⟨fun e=>page_ne (newC 7 v x) (by simpa using congrArg List.length e),by rw [List.length_set]; exact hp,fun c'=>page_turned hx (xor_other (msk_ne h0))⟩
  exact ⟨⟨rfl,.inr (.inl ⟨_,rfl,hbad⟩)⟩,rfl,_,rfl,hbad⟩
 ·refine ⟨_,?_,.inl rfl⟩
  refine Tot.eq ?_
  unfold disk_Rot
  have e:=p_IndexR [⟨7,pageN (newC 7 v x)⟩] 7 (by simp)
  have e2:([⟨7,pageN (newC 7 v x)⟩]:List api_Page).findIdx? (fun p=>p.At == 7)=some 0:=by simp [List.findIdx?_cons]
  rw [e2] at e
  refine Tot.bindeq e (Tot.bind (R:=(·=true)) ?_ fun v hv=>by subst hv; exact Tot.cond rfl (Tot.ret rfl))
  refine Tot.bind (R:=(·=false)) (Tot.ncond (by simp) (Tot.ret (by simp; omega))) fun w hw=>?_
  subst hw
  refine Tot.bind (R:=(·=true)) (Tot.ncond (by decide) (Tot.bindeq (a:=⟨7,pageN (newC 7 v x)⟩) rfl (Tot.chk (by unfold InI64; dsimp only; omega) (Tot.ret (by simp; omega))))) fun _ h=>Tot.ret h
theorem p_with (D:List api_Disk) (hl:D.length≤100) (at_:Int) (d:api_Disk) (hs:isS D at_):law26_with D at_ d=some (D.set at_.toNat d):=by
 refine Tot.eq ?_
 unfold law26_with law26N10
 refine Tot.bind (R:=(·=D.set at_.toNat d)) ?_ fun r hr=>Tot.ret hr
 refine Tot.each (l:=D) (fun n a=>a=(D.set at_.toNat d).take n) (fun n x a hlt hx ha=>?_) (fun a ha=>?_) [] rfl
 ·subst ha
  have htl:((D.set at_.toNat d).take n).length≤100:=Nat.le_trans (List.length_take_le' _ _) (by rw [List.length_set]; exact hl)
  have hnext:(D.set at_.toNat d)[n]?=some (if (n:Int)=at_ then d else x):=by
   by_cases e:(n:Int)=at_
   ·rw [if_pos e,←e,Int.toNat_natCast,List.getElem?_set_self hlt]
   ·rw [if_neg e,List.getElem?_set_ne (by obtain ⟨a1,a2⟩:=hs; omega),hx]
  unfold law26N8
  refine Tot.cond (by simp; omega) (Tot.bind (R:=(·=(D.set at_.toNat d).take (n+1))) ?_ fun v hv=>Tot.chk (by unfold InI64; dsimp only; omega) (Tot.inl ⟨rfl,hv⟩))
  rw [take_snoc hnext]
  refine Tot.ite (fun e=>Tot.chk (by simp only [List.length_cons,List.length_nil]; omega) (Tot.ret (by rw [if_pos (by simpa using e)]))) fun e=>Tot.bindeq (idx_some hx) (Tot.chk (by simp only [List.length_cons,List.length_nil]; omega) (Tot.ret (by rw [if_neg (by simpa using e)])))
 ·subst ha
  unfold law26N8
  exact Tot.ncond (by simp) (Tot.out (Tot.ret (by rw [List.take_of_length_le (by rw [List.length_set]; exact Nat.le_refl _)])))
end Go.Proofs
