/- Chunks, plain: blocks of sums, what may be put. No condition. -/
import Derived.Test.YtaaaipgdnofafaaGreatXChainTellsP26a
namespace Go.Proofs
set_option linter.all false
open Go Go.Cat
def blocksF:Nat→List UInt8→List Nat
 | 0,_=>[]
 | n+1,d=>if d=[] then [] else sumN (d.take 16)::blocksF n (d.drop 16)
def blocksN (d:List UInt8):List Nat:=blocksF d.length d
theorem blocksFN1:∀(n m:Nat) (d:List UInt8),d.length≤n→n≤m→blocksF m d=blocksF n d
 | 0,m,d,h,_=>by
  have:d=[]:=List.length_eq_zero_iff.1 (by omega)
  subst this
  cases m with
  | zero=>rfl
  | succ m=>simp [blocksF]
 | n+1,0,d,_,h=>by omega
 | n+1,m+1,d,h,hm=>by
  unfold blocksF
  split
  ·rfl
  ·rw [blocksFN1 n m (d.drop 16) (by simp; omega) (by omega)]
theorem blocksN_nil:blocksN []=[]:=rfl
theorem blocksNN1 {d:List UInt8} (h:d≠[]):blocksN d=sumN (d.take 16)::blocksN (d.drop 16):=by
 unfold blocksN
 have hl:0 < d.length:=List.length_pos_iff.2 h
 obtain ⟨n,hn⟩:∃n,d.length=n+1:=⟨d.length - 1,by omega⟩
 rw [hn,blocksF,if_neg h,blocksFN1 (d.drop 16).length n _ (Nat.le_refl _) (by simp; omega)]
theorem blocksF_len:∀(n:Nat) (d:List UInt8),(blocksF n d).length≤(d.length+15) / 16
 | 0,d=>by simp [blocksF]
 | n+1,d=>by
  unfold blocksF
  split
  ·simp
  ·rename_i h
   have hl:0 < d.length:=List.length_pos_iff.2 h
   have:=blocksF_len n (d.drop 16)
   simp at this ⊢
   omega
theorem blocksN_len (d:List UInt8):(blocksN d).length≤(d.length+15) / 16:=blocksF_len _ _
theorem blocksF_lt:∀(n:Nat) (d:List UInt8),∀x∈blocksF n d,x < 4294967296
 | 0,d=>by simp [blocksF]
 | n+1,d=>by
  unfold blocksF
  split
  ·simp
  ·intro x hx
   rcases List.mem_cons.1 hx with rfl | hx
   ·exact sumN_lt _
   ·exact blocksF_lt n _ x hx
theorem pN1 (N:Nat) (hN:N≤1000000) (T:List Int):∀s:List UInt8×List Int,(s.1.length+s.2.length≤N∧s.2++(blocksN s.1).map Int.ofNat=T)→Tot (loop (sumN1 (sumTab.map Int.ofNat)) s) (·=T):=by
 refine Tot.loop _ (fun s=>s.1.length) ?_
 rintro ⟨d,acc⟩ ⟨hl,hT⟩
 unfold sumN1
 refine Tot.ite (fun h=>?_) (fun h=>?_)
 ·have hd:0 < d.length:=by simpa using h
  have hne:d≠[]:=List.length_pos_iff.1 hd
  have hl:d.length+acc.length≤N:=hl
  have hT:acc++(blocksN d).map Int.ofNat=T:=hT
  have hl':acc.length+1≤1000000:=by omega
  dsimp only
  have hmin:(min (d.length:Int) 16).toNat=min d.length 16:=by omega
  refine Tot.chk (by decide) (Tot.chk (by omega) ?_)
  refine Tot.bindeq (p_of _ (by simp; omega)) (Tot.chk (by simp only [List.length_cons,List.length_nil]; omega) (Tot.chk (by omega) (Tot.inl ?_)))
  have ht:d.take (min (d.length:Int) 16).toNat=d.take 16:=by
   rw [hmin]
   rcases Nat.le_total d.length 16 with h | h
   ·rw [Nat.min_eq_left h,List.take_of_length_le (Nat.le_refl _),List.take_of_length_le h]
   ·rw [Nat.min_eq_right h]
  have hdr:d.drop (min (d.length:Int) 16).toNat=d.drop 16:=by
   rw [hmin]
   rcases Nat.le_total d.length 16 with h | h
   ·rw [Nat.min_eq_left h,List.drop_eq_nil_of_le (Nat.le_refl _),List.drop_eq_nil_of_le h]
   ·rw [Nat.min_eq_right h]
  dsimp only
  rw [ht,hdr]
  refine ⟨⟨?_,?_⟩,?_⟩
  ·simp; omega
  ·rw [blocksNN1 hne] at hT
   rw [←hT]; simp
  ·simp; omega
 ·have:d=[]:=by simpa using h
  subst this
  exact Tot.out (Tot.ret (by simpa [blocksN_nil] using hT))
theorem p_Blocks (d:List UInt8) (h:d.length≤1000000):sum_Blocks d=some ((blocksN d).map Int.ofNat):=by
 refine Tot.eq ?_
 unfold sum_Blocks sumN3
 refine Tot.bindeq p_half (Tot.chk (by decide) (Tot.bind (pN1 d.length h _ (d,[]) ⟨by simp,rfl⟩) fun a ha=>Tot.ret ha))
theorem p_Check (d:List UInt8) (h:d.length≤1000000) (sums:List Int) (hs:sums.length≤1000000):Tot (sum_Check d sums) (fun r=>(r=-1↔sums=(blocksN d).map Int.ofNat)∧-1≤r):=by
 unfold sum_Check sumN8
 refine Tot.bindeq (p_Blocks d h) ?_
 generalize (blocksN d).map Int.ofNat=x1
 refine Tot.loop (fun s=>0≤s∧s≤min (x1.length:Int) sums.length∧∀j,j < s.toNat→x1[j]?=sums[j]?) (fun s=>(min (x1.length:Int) sums.length - s).toNat) ?_ 0 ⟨by omega,by omega,fun j hj=>by omega⟩
 rintro s ⟨h0,h1,hj⟩
 unfold sumN5
 refine Tot.ite (fun hlt=>?_) (fun hlt=>?_)
 ·have hlt:s < min (x1.length:Int) sums.length:=by simpa using hlt
  refine Tot.bind (Tot.idx h0 (by omega) (fun x hx=>hx)) fun x hx=>Tot.bind (Tot.idx h0 (by omega) (fun x hx=>hx)) fun y hy=>?_
  refine Tot.ite (fun hne=>Tot.out (Tot.ret ⟨⟨fun e=>by omega,fun e=>?_⟩,by omega⟩)) (fun heq=>Tot.chk (by unfold InI64; omega) (Tot.inl ⟨⟨by omega,by omega,fun j hj'=>?_⟩,by omega⟩))
  ·subst e
   rw [hx] at hy
   simp at hy
   subst hy
   simp at hne
  ·rcases Nat.lt_or_ge j s.toNat with hlt' | hge
   ·exact hj j hlt'
   ·have:j=s.toNat:=by omega
    subst this
    rw [hx,hy]
    simpa using heq
 ·have hge:¬s < min (x1.length:Int) sums.length:=by simpa using hlt
  refine Tot.out ?_
  unfold sumN7
  have heq:x1.length=sums.length→sums=x1:=fun e=>by
   refine (List.ext_getElem? fun j=>?_).symm
   rcases Nat.lt_or_ge j s.toNat with hlt' | hge'
   ·exact hj j hlt'
   ·rw [List.getElem?_eq_none (by omega),List.getElem?_eq_none (by omega)]
  refine Tot.ite (fun hne=>Tot.ret ⟨⟨fun e=>by omega,fun e=>?_⟩,by omega⟩) (fun he=>Tot.ret ⟨⟨fun _=>heq (by simp at he; omega),fun _=>rfl⟩,by omega⟩)
  subst e
  simp at hne
def mayP (c:api_Copy):Prop:=(0≤c.Id∧c.Id < 200)∧(0≤c.Ver∧c.Ver≤1099511627776)∧c.Data.length≤64∧c.Sums=(blocksN c.Data).map Int.ofNat
theorem p_within (id:Int):Tot (chunkN16 id) (Tells (0≤id∧id < 200)) :=
 Tot.bind (Tot.bind (Tot.andI (by simp) fun _=>Tot.dec Iff.rfl) fun _ h=>Tot.ret h) fun _ h=>Tot.ret h
theorem p_may (c:api_Copy) (hs:c.Sums.length≤1000000):Tot (chunk_may c) (Tells (mayP c)):=by
 unfold chunk_may
 refine Tot.bind (R:=Tells ((((((0≤c.Id∧c.Id < 200)∧0≤c.Ver)∧c.Ver≤1099511627776)∧c.Data.length≤64)∧c.Sums=(blocksN c.Data).map Int.ofNat))) ?_ fun b hb=>Tot.ret ?_
 ·refine Tot.bind (p_within c.Id) fun b1 h1=>Tot.bind (Tot.andI h1 fun _=>Tot.dec Iff.rfl) fun b2 h2=>Tot.bind (Tot.andI h2 fun _=>Tot.dec Iff.rfl) fun b3 h3=>Tot.bind (Tot.andI (Q:=c.Data.length≤64) h3 fun _=>Tot.dec (by omega)) fun b4 h4=>Tot.bind (Tot.andI h4 fun hp=>?_) fun b5 h5=>Tot.ret h5
  exact Tot.bind (p_Check _ (by omega) _ hs) fun r hr=>Tot.is (by simpa using hr.1)
 ·refine hb.trans ?_
  unfold mayP
  constructor
  ·rintro ⟨⟨⟨⟨h1,h2⟩,h3⟩,h4⟩,h5⟩; exact ⟨h1,⟨h2,h3⟩,h4,h5⟩
  ·rintro ⟨h1,⟨h2,h3⟩,h4,h5⟩; exact ⟨⟨⟨⟨h1,h2⟩,h3⟩,h4⟩,h5⟩
end Go.Proofs
