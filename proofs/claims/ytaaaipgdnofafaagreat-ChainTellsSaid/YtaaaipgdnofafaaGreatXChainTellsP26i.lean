/- Chunks, plain: the document's sums. No condition. -/
import Derived.Test.YtaaaipgdnofafaaGreatXChainTellsP26h
namespace Go.Proofs
set_option linter.all false
open Go Go.Cat
set_option linter.all false
def bit1 (c:Nat):Nat:=if c % 2=1 then (c / 2) ^^^ 2197175160 else c / 2
theorem bit1_lt {c:Nat} (h:c < 4294967296):bit1 c < 4294967296:=by
 unfold bit1
 split
 ·exact xlt32 (by omega) (by decide)
 ·omega
theorem xlc (a b c:Nat):a ^^^ (b ^^^ c)=b ^^^ (a ^^^ c):=by rw [←Nat.xor_assoc,Nat.xor_comm a b,Nat.xor_assoc]
theorem half_xor (a b:Nat):(a ^^^ b) / 2=a / 2 ^^^ b / 2:=by
 have:=Nat.shiftRight_xor_distrib (a:=a) (b:=b) (i:=1)
 simpa [Nat.shiftRight_eq_div_pow] using this
theorem bit1_xor (a b:Nat):bit1 (a ^^^ b)=bit1 a ^^^ bit1 b:=by
 unfold bit1
 have hp:(a ^^^ b) % 2=1↔¬(a % 2=1↔b % 2=1):=Nat.xor_mod_two_eq_one
 rw [half_xor]
 by_cases ha:a % 2=1 <;> by_cases hb:b % 2=1
 ·rw [if_neg (by rw [hp]; simp [ha,hb]),if_pos ha,if_pos hb]
  simp [Nat.xor_assoc,Nat.xor_comm,xlc]
 ·rw [if_pos (by rw [hp]; simp [ha,hb]),if_pos ha,if_neg hb]
  simp [Nat.xor_assoc,Nat.xor_comm,xlc]
 ·rw [if_pos (by rw [hp]; simp [ha,hb]),if_neg ha,if_pos hb]
  simp [Nat.xor_assoc]
 ·rw [if_neg (by rw [hp]; simp [ha,hb]),if_neg ha,if_neg hb]
theorem bit1_split (y:Nat):bit1 y=y / 2 ^^^ bit1 (y % 2):=by
 unfold bit1
 have:y % 2=0∨y % 2=1:=by omega
 rcases this with e | e <;> simp [e]
theorem bit4 {y:Nat}:bit1 (bit1 (bit1 (bit1 y)))=sumNib y:=by
 have e1:=bit1_split y
 have e2:=bit1_split (y / 2)
 have e3:=bit1_split (y / 2 / 2)
 have e4:=bit1_split (y / 2 / 2 / 2)
 have tab:∀l:Fin 16,bit1 (l.1 / 2 / 2 / 2 % 2) ^^^ bit1 (bit1 (l.1 / 2 / 2 % 2)) ^^^ bit1 (bit1 (bit1 (l.1 / 2 % 2))) ^^^ bit1 (bit1 (bit1 (bit1 (l.1 % 2))))=sumTab.getD l.1 0:=by decide +kernel
 have h:=tab ⟨y % 16,Nat.mod_lt _ (by decide)⟩
 dsimp only at h
 rw [show y % 16 / 2 / 2 / 2 % 2=y / 2 / 2 / 2 % 2 by omega,show y % 16 / 2 / 2 % 2=y / 2 / 2 % 2 by omega,show y % 16 / 2 % 2=y / 2 % 2 by omega,show y % 16 % 2=y % 2 by omega] at h
 unfold sumNib
 rw [show (15:Nat)=2 ^ 4 - 1 from rfl,Nat.and_two_pow_sub_one_eq_mod,Nat.shiftRight_eq_div_pow,show y / 2 ^ 4=y / 2 / 2 / 2 / 2 by omega,show y % 2 ^ 4=y % 16 by omega,←h]
 simp only [e1,e2,e3,e4,bit1_xor]
 simp only [Nat.xor_assoc,Nat.xor_comm,xlc]
theorem xor63 {a b:Nat} (ha:a < 4294967296) (hb:b < 4294967296):xorK .i64 (a:Int) (b:Int)=((a ^^^ b:Nat):Int):=by
 have hx:=xlt32 ha hb
 unfold xorK
 have e:(BitVec.ofInt IntKind.i64.bits (a:Int) ^^^ BitVec.ofInt IntKind.i64.bits (b:Int)).toNat=a ^^^ b:=by
  show (BitVec.ofInt 64 (a:Int) ^^^ BitVec.ofInt 64 (b:Int)).toNat=a ^^^ b
  rw [BitVec.toNat_xor,ofInt_nat (by omega),ofInt_nat (by omega)]
 rw [e,IntWalk.i64_in _ ⟨by omega,by omega⟩]
theorem quo63 {a:Nat} (b:Nat) (ha:a < 4294967296):quoK .i64 (a:Int) (b:Int)=((a / b:Nat):Int):=by
 unfold quoK
 have h:=Nat.div_le_self a b
 rw [Int.tdiv_eq_ediv_of_nonneg (by omega),←Int.natCast_ediv]
 generalize a / b=q at h ⊢
 exact IntWalk.i64_in _ ⟨by omega,by omega⟩
theorem r_bits (x:Nat) (hx:x < 4294967296):ref02_Of_L2 ((x:Int),0)=some ((bit1 (bit1 (bit1 (bit1 (bit1 (bit1 (bit1 (bit1 x))))))):Nat):Int):=by
 have r:∀(c:Nat) (k:Int),c < 4294967296→0≤k→k < 8→ref02_Of_B2 ((c:Int),k)=some (.inl (((bit1 c:Nat):Int),k+1)):=by
  intro c k hc h0 h8
  refine Tot.eq ?_
  unfold ref02_Of_B2 ref02N10
  refine Tot.ite (fun _=>?_) (fun hh=>absurd hh (by simp; omega))
  have q:quoK .i64 (c:Int) 2=((c / 2:Nat):Int):=quo63 2 hc
  have t:Int.tmod (c:Int) 2=((c % 2:Nat):Int):=by rw [Int.tmod_eq_emod_of_nonneg (by omega)]; rfl
  rw [t,q]
  refine Tot.bind (R:=(·=((bit1 c:Nat):Int))) (Tot.ite (fun h=>?_) (fun h=>?_)) fun v hv=>Tot.chk (by unfold InI64; omega) (Tot.ret (by rw [hv]))
  ·have h1:c % 2=1:=by have:=eq_of_beq h; omega
   refine Tot.bindeq rfl (Tot.ret ?_)
   have:=xor63 (a:=c / 2) (b:=2197175160) (by omega) (by decide)
   unfold bit1
   rw [if_pos h1]
   exact this
  ·have h1:¬c % 2=1:=fun e=>h (by rw [e]; rfl)
   unfold bit1
   rw [if_neg h1]
   exact Tot.ret rfl
 unfold ref02_Of_L2
 have e:∀c:Int,ref02_Of_B2 (c,0+1+1+1+1+1+1+1+1)=some (.inr c):=fun c=>by unfold ref02_Of_B2; rw [if_neg (show ¬(decide ((0+1+1+1+1+1+1+1+1:Int) < 8)=true) by decide)]; rfl
 have b1:=bit1_lt hx
 have b2:=bit1_lt b1
 have b3:=bit1_lt b2
 have b4:=bit1_lt b3
 have b5:=bit1_lt b4
 have b6:=bit1_lt b5
 have b7:=bit1_lt b6
 rw [loop_inl (r _ 0 hx (by decide) (by decide)),loop_inl (r _ (0+1) b1 (by decide) (by decide)),loop_inl (r _ (0+1+1) b2 (by decide) (by decide)),loop_inl (r _ (0+1+1+1) b3 (by decide) (by decide)),
  loop_inl (r _ (0+1+1+1+1) b4 (by decide) (by decide)),loop_inl (r _ (0+1+1+1+1+1) b5 (by decide) (by decide)),loop_inl (r _ (0+1+1+1+1+1+1) b6 (by decide) (by decide)),loop_inl (r _ (0+1+1+1+1+1+1+1) b7 (by decide) (by decide)),loop_inr (e _)]
theorem r_Of (b:List UInt8) (hb:b.length≤1000000):ref02_Of b=some ((sumN b:Nat):Int):=by
 have hl:=loop_each (b:=b) (B:=ref02_Of_B1 b) (fun (s:Int) x=>((sumStep s.toNat x:Nat):Int)) (fun s=>∃n:Nat,s=n∧n < 4294967296) (fun x=>x) ?_ ?_ ?_ ((4294967295:Nat):Int) ⟨4294967295,rfl,by decide⟩
 ·rw [p_fold] at hl
  have hf:=fold_lt b 4294967295 (by decide)
  refine Tot.eq ?_
  unfold ref02_Of ref02_Of_L1
  refine Tot.bindeq hl ?_
  unfold ref02N10
  have e:=xor63 (a:=b.foldl sumStep 4294967295) (b:=4294967295) hf (by decide)
  refine Tot.bindeq rfl (Tot.ret ?_)
  exact e
 ·rintro a n x ⟨s,rfl,hs⟩ hx hn
  rw [Int.toNat_natCast]
  refine Tot.eq ?_
  unfold ref02_Of_B1 ref02N10
  have hy:s ^^^ x.toNat < 4294967296:=xlt32 hs (byte_lt x)
  have e:=xor63 hs (byte_lt x)
  refine Tot.ite (fun _=>?_) (fun hh=>absurd hh (by simp; omega))
  refine Tot.bind (R:=(·=((sumStep s x:Nat):Int))) (Tot.bindeq (idx_some hx) (Tot.bindeq rfl ?_)) fun v hv=>Tot.chk (by dsimp only; unfold InI64; omega) (Tot.ret (by rw [hv]))
  dsimp only
  rw [e]
  refine ⟨_,r_bits _ hy,?_⟩
  rw [bit4,bit4]; rfl
 ·rintro a x - ⟨s,rfl,hs⟩
  exact ⟨_,rfl,sumStep_lt hs x⟩
 ·rintro a ⟨s,rfl,hs⟩
  unfold ref02_Of_B1
  rw [if_neg (by simp)]
  rfl
theorem r_Blocks (d:List UInt8) (h:d.length≤100000):ref02N1 d=some ((blocksN d).map Int.ofNat):=by
 refine Tot.eq ?_
 unfold ref02N1 ref02N3
 refine Tot.bind (R:=(·=(blocksN d).map Int.ofNat)) ?_ fun a ha=>Tot.ret ha
 refine Tot.loop (fun s:Int×List Int=>0≤s.1∧(s.2.length:Int)≤s.1∧s.1≤200000∧s.2++(blocksN (d.drop s.1.toNat)).map Int.ofNat=(blocksN d).map Int.ofNat) (fun s=>((d.length:Int) - s.1).toNat) ?_ (0,[]) ⟨by simp,by simp,by simp,by simp⟩
 rintro ⟨i,acc⟩ ⟨g0,g1,g2,g3⟩
 unfold ref02N2
 dsimp only at g0 g1 g2 g3 ⊢
 refine Tot.ite (fun hlt=>?_) (fun hge=>Tot.out (Tot.ret ?_))
 ·have hlt:i < d.length:=by simpa using hlt
  have hmin:min (i+16) (d.length:Int)=((min (i.toNat+16) d.length:Nat):Int):=by omega
  have hsub:sub d i (min (i+16) (d.length:Int))=(d.drop i.toNat).take 16:=by
   unfold sub
   rw [hmin,Int.toNat_natCast,List.take_drop]
   congr 1
   rcases Nat.le_total (i.toNat+16) d.length with hc | hc
   ·rw [Nat.min_eq_left hc]
   ·rw [Nat.min_eq_right hc,List.take_of_length_le (Nat.le_refl _),List.take_of_length_le hc]
  refine Tot.chk (by unfold InI64; omega) (Tot.chk (by omega) ?_)
  rw [hsub]
  have hne:d.drop i.toNat≠[]:=fun e=>by have:=congrArg List.length e; simp at this; omega
  refine Tot.bindeq (r_Of _ (by simp; omega)) (Tot.chk (by simp only [List.length_cons,List.length_nil]; omega) (Tot.chk (by unfold InI64; omega) (Tot.inl ⟨⟨by dsimp only; omega,by simp; omega,by dsimp only; omega,?_⟩,by dsimp only; omega⟩)))
  dsimp only
  rw [←g3,blocksNN1 hne,List.drop_drop,show (i+16).toNat=i.toNat+16 by omega]
  simp
 ·have hge:¬i < d.length:=by simpa using hge
  rw [List.drop_eq_nil_of_le (by omega),blocksN_nil] at g3
  simpa using g3
theorem r_Check (d:List UInt8) (h:d.length≤100000) (sums:List Int) (hs:sums.length≤1000000):Tot (ref02_Check d sums) (fun r=>r=-1↔sums=(blocksN d).map Int.ofNat):=by
 unfold ref02_Check ref02N9
 refine Tot.bindeq (r_Blocks d h) ?_
 have hbl:=blocksN_len d
 have hx1:((blocksN d).map Int.ofNat).length≤1000000:=by simp; omega
 generalize (blocksN d).map Int.ofNat=x1 at hx1
 refine Tot.loop (fun s:Int=>0≤s∧s≤1000000∧∀j:Nat,j < s.toNat→x1[j]?=sums[j]?) (fun s=>((x1.length:Int)+sums.length - s).toNat) ?_ 0 ⟨by omega,by omega,fun j hj=>by simp at hj⟩
 rintro s ⟨h0,h1,hj⟩
 unfold ref02N7 ref02N8
 refine Tot.bind (R:=Tells (s < x1.length∨s < sums.length)) (Tot.bind (Tot.orI (by simp) fun _=>Tot.dec Iff.rfl) fun _ h=>Tot.ret h) fun v hv=>?_
 refine Tot.ite (fun hvt=>?_) (fun hvf=>Tot.out (Tot.ret ⟨fun _=>List.ext_getElem? fun j=>?_,fun _=>rfl⟩))
 ·have hor:=hv.1 hvt
  refine Tot.bind (R:=fun b=>(b=true→s.toNat < x1.length∨s.toNat < sums.length→x1≠sums)∧(b=false→s < x1.length∧s < sums.length∧x1[s.toNat]?=sums[s.toNat]?)) ?_ fun b hb=>?_
  ·refine Tot.bind (R:=Tells ((x1.length:Int)≤s∨(sums.length:Int)≤s)) (Tot.orI (by simp) fun _=>Tot.dec (by omega)) fun c hc=>Tot.bind (R:=fun b=>(b=true→s.toNat < x1.length∨s.toNat < sums.length→x1≠sums)∧(b=false→s < x1.length∧s < sums.length∧x1[s.toNat]?=sums[s.toNat]?)) (Tot.ite (fun ht=>Tot.ret ⟨fun _ ho e=>?_,fun e=>by cases e⟩) fun hf=>?_) fun _ h=>Tot.ret h
   ·subst e
    have:=hc.1 ht
    omega
   ·have hnot:¬((x1.length:Int)≤s∨(sums.length:Int)≤s):=fun hh=>hf (hc.2 hh)
    refine Tot.bind (Tot.idx h0 (by omega) (Q:=fun y=>x1[s.toNat]?=some y) fun _ h=>h) fun x hx=>Tot.bind (Tot.idx h0 (by omega) (Q:=fun y=>sums[s.toNat]?=some y) fun _ h=>h) fun y hy=>Tot.ret ⟨fun hne _ e=>?_,fun he=>⟨by omega,by omega,?_⟩⟩
    ·subst e; rw [hx] at hy; cases hy; simp at hne
    ·rw [hx,hy]; simpa using he
  refine Tot.ite (fun hbt=>Tot.out (Tot.ret ⟨fun e=>by omega,fun e=>?_⟩)) fun hbf=>?_
  ·exact (hb.1 hbt (by omega) e.symm).elim
  ·have h3:=hb.2 (by simpa using hbf)
   refine Tot.chk (by unfold InI64; omega) (Tot.inl ⟨⟨by omega,by omega,fun j hj'=>?_⟩,by omega⟩)
   rcases Nat.lt_or_ge j s.toNat with hlt' | hge
   ·exact hj j hlt'
   ·have:j=s.toNat:=by omega
    subst this
    exact h3.2.2
 ·have hno:¬(s < x1.length∨s < sums.length):=fun hh=>hvf (hv.2 hh)
  rcases Nat.lt_or_ge j s.toNat with hlt' | hge'
  ·exact (hj j hlt').symm
  ·rw [List.getElem?_eq_none (by omega),List.getElem?_eq_none (by omega)]
theorem r_May (c:api_Copy) (hs:c.Sums.length≤1000000):Tot (ref25_May c) (Tells (mayP c)):=by
 unfold ref25_May
 refine Tot.bind (R:=Tells ((((((0≤c.Id∧c.Id < 200)∧0≤c.Ver)∧c.Ver≤1099511627776)∧c.Data.length≤64)∧c.Sums=(blocksN c.Data).map Int.ofNat))) ?_ fun b hb=>Tot.ret ?_
 ·refine Tot.bind (Tot.andI (Q:=c.Id < 200) (by simp) fun _=>Tot.dec (by omega)) fun b1 h1=>Tot.bind (Tot.andI h1 fun _=>Tot.dec Iff.rfl) fun b2 h2=>Tot.bind (Tot.andI h2 fun _=>Tot.dec Iff.rfl) fun b3 h3=>Tot.bind (Tot.andI (Q:=c.Data.length≤64) h3 fun _=>Tot.dec (by omega)) fun b4 h4=>Tot.bind (Tot.andI h4 fun hp=>?_) fun b5 h5=>Tot.ret h5
  exact Tot.bind (r_Check _ (by omega) _ hs) fun r hr=>Tot.is (by simpa using hr)
 ·refine hb.trans ?_
  unfold mayP
  constructor
  ·rintro ⟨⟨⟨⟨h1,h2⟩,h3⟩,h4⟩,h5⟩; exact ⟨h1,⟨h2,h3⟩,h4,h5⟩
  ·rintro ⟨h1,⟨h2,h3⟩,h4,h5⟩; exact ⟨⟨⟨⟨h1,h2⟩,h3⟩,h4⟩,h5⟩
end Go.Proofs
