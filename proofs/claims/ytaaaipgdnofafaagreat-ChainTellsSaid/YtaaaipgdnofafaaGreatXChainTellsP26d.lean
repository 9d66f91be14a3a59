/- Chunks, plain: pages, disks. No condition. -/
import Derived.Test.YtaaaipgdnofafaaGreatXChainTellsP26c
namespace Go.Proofs
set_option linter.all false
open Go Go.Cat
theorem pN2 (l:List UInt8) (h:l.length≤1000000):slicesN5 l=some l:=eq_slicesN3 l (by omega)
theorem pN3 (l:List api_Page) (h:l.length≤1000000):slicesN3 l=some l:=eq_slicesN2 l (by omega)
theorem p_bClone (l:List UInt8) (h:l.length≤1000000):bytes_Clone l=some l:=eq_bytesN1 l (by omega)
theorem p_Concat (ll:List (List UInt8)) (h:ll.flatten.length≤1000000) (h2:ll.length≤1000):slicesN19 ll=some ll.flatten:=by
 have k1:∀(r:List (List UInt8)) (n a:Nat),ll.drop n=r→n≤ll.length→a+r.flatten.length≤1000000→loop (slicesN21 ll) ((a:Int),(n:Int))=some ((a+r.flatten.length:Nat):Int):=by
  intro r
  induction r with
  | nil =>
   intro n a hd hn _
   have:n=ll.length:=by have:=congrArg List.length hd; simp at this; omega
   subst this
   refine loop_inr ?_
   unfold slicesN21
   rw [if_neg (by simp)]
   simp [out]
  | cons x r ih =>
   intro n a hd hn ha
   have hlt:n < ll.length:=by
    rcases Nat.lt_or_ge n ll.length with h | h
    ·exact h
    ·rw [List.drop_eq_nil_of_le h] at hd; cases hd
   rw [List.drop_eq_getElem_cons hlt] at hd
   injection hd with hx hr
   have hx':ll[n]?=some x:=by rw [List.getElem?_eq_getElem hlt,hx]
   simp only [List.flatten_cons,List.length_append] at ha
   have e:slicesN21 ll ((a:Int),(n:Int))=some (.inl (((a+x.length:Nat):Int),((n+1:Nat):Int))):=by
    refine Tot.eq ?_
    unfold slicesN21
    refine Tot.ite (fun _=>Tot.bind (R:=(·=((a+x.length:Nat):Int))) (Tot.bindeq (idx_some hx') (Tot.chk (by dsimp only; unfold InI64; omega) (Tot.ite (fun hh=>absurd hh (by simp; omega)) (fun _=>Tot.ret (by simp))))) (fun v hv=>Tot.chk (by dsimp only; unfold InI64; omega) (Tot.ret (by rw [hv]; rfl)))) (fun hh=>absurd hh (by simp; omega))
   rw [loop_inl e,ih (n+1) _ hr hlt (by omega)]
   simp [Nat.add_assoc]
 have k2:∀(r:List (List UInt8)) (n:Nat) (a:List UInt8),ll.drop n=r→n≤ll.length→a.length+r.flatten.length≤1000000→loop (slicesN23 ll) ((n:Int),a)=some (a++r.flatten):=by
  intro r
  induction r with
  | nil =>
   intro n a hd hn _
   have:n=ll.length:=by have:=congrArg List.length hd; simp at this; omega
   subst this
   refine loop_inr ?_
   unfold slicesN23
   rw [if_neg (by simp)]
   simp [out]
  | cons x r ih =>
   intro n a hd hn ha
   have hlt:n < ll.length:=by
    rcases Nat.lt_or_ge n ll.length with h | h
    ·exact h
    ·rw [List.drop_eq_nil_of_le h] at hd; cases hd
   rw [List.drop_eq_getElem_cons hlt] at hd
   injection hd with hx hr
   have hx':ll[n]?=some x:=by rw [List.getElem?_eq_getElem hlt,hx]
   simp only [List.flatten_cons,List.length_append] at ha
   have e:slicesN23 ll ((n:Int),a)=some (.inl (((n+1:Nat):Int),a++x)):=by
    refine Tot.eq ?_
    unfold slicesN23
    refine Tot.ite (fun _=>Tot.bindeq (idx_some hx') (Tot.chk (by dsimp only; omega) (Tot.chk (by dsimp only; unfold InI64; omega) (Tot.ret rfl)))) (fun hh=>absurd hh (by simp; omega))
   rw [loop_inl e,ih (n+1) _ hr hlt (by simp only [List.length_append]; omega)]
   simp
 refine Tot.eq ?_
 unfold slicesN19 slicesN25 slicesN27 slicesN42
 have h1:=k1 ll 0 0 rfl (Nat.zero_le _) (by omega)
 refine Tot.bindeq h1 (Tot.bind (R:=(·=[])) ?_ fun x hx=>?_)
 ·refine Tot.bindeq (a:=()) (if_neg (by simp)) (Tot.bind (R:=(·=[])) (Tot.chk (by unfold InI64; omega) (Tot.ite (fun hp=>Tot.chk (by omega) (Tot.chk (by simp) (Tot.ret (by simp)))) (fun _=>Tot.ret rfl))) fun a ha=>Tot.ret ha)
 ·subst hx
  refine Tot.bindeq (k2 ll 0 [] rfl (Nat.zero_le _) (by simp only [List.length_nil]; omega)) (Tot.ret (by simp))
theorem pN4 (ll:List (List api_Page)) (h:ll.flatten.length≤1000000) (h2:ll.length≤1000):slicesN9 ll=some ll.flatten:=by
 have k1:∀(r:List (List api_Page)) (n a:Nat),ll.drop n=r→n≤ll.length→a+r.flatten.length≤1000000→loop (slicesN11 ll) ((a:Int),(n:Int))=some ((a+r.flatten.length:Nat):Int):=by
  intro r
  induction r with
  | nil =>
   intro n a hd hn _
   have:n=ll.length:=by have:=congrArg List.length hd; simp at this; omega
   subst this
   refine loop_inr ?_
   unfold slicesN11
   rw [if_neg (by simp)]
   simp [out]
  | cons x r ih =>
   intro n a hd hn ha
   have hlt:n < ll.length:=by
    rcases Nat.lt_or_ge n ll.length with h | h
    ·exact h
    ·rw [List.drop_eq_nil_of_le h] at hd; cases hd
   rw [List.drop_eq_getElem_cons hlt] at hd
   injection hd with hx hr
   have hx':ll[n]?=some x:=by rw [List.getElem?_eq_getElem hlt,hx]
   simp only [List.flatten_cons,List.length_append] at ha
   have e:slicesN11 ll ((a:Int),(n:Int))=some (.inl (((a+x.length:Nat):Int),((n+1:Nat):Int))):=by
    refine Tot.eq ?_
    unfold slicesN11
    refine Tot.ite (fun _=>Tot.bind (R:=(·=((a+x.length:Nat):Int))) (Tot.bindeq (idx_some hx') (Tot.chk (by dsimp only; unfold InI64; omega) (Tot.ite (fun hh=>absurd hh (by simp; omega)) (fun _=>Tot.ret (by simp))))) (fun v hv=>Tot.chk (by dsimp only; unfold InI64; omega) (Tot.ret (by rw [hv]; rfl)))) (fun hh=>absurd hh (by simp; omega))
   rw [loop_inl e,ih (n+1) _ hr hlt (by omega)]
   simp [Nat.add_assoc]
 have k2:∀(r:List (List api_Page)) (n:Nat) (a:List api_Page),ll.drop n=r→n≤ll.length→a.length+r.flatten.length≤1000000→loop (slicesN13 ll) ((n:Int),a)=some (a++r.flatten):=by
  intro r
  induction r with
  | nil =>
   intro n a hd hn _
   have:n=ll.length:=by have:=congrArg List.length hd; simp at this; omega
   subst this
   refine loop_inr ?_
   unfold slicesN13
   rw [if_neg (by simp)]
   simp [out]
  | cons x r ih =>
   intro n a hd hn ha
   have hlt:n < ll.length:=by
    rcases Nat.lt_or_ge n ll.length with h | h
    ·exact h
    ·rw [List.drop_eq_nil_of_le h] at hd; cases hd
   rw [List.drop_eq_getElem_cons hlt] at hd
   injection hd with hx hr
   have hx':ll[n]?=some x:=by rw [List.getElem?_eq_getElem hlt,hx]
   simp only [List.flatten_cons,List.length_append] at ha
   have e:slicesN13 ll ((n:Int),a)=some (.inl (((n+1:Nat):Int),a++x)):=by
    refine Tot.eq ?_
    unfold slicesN13
    refine Tot.ite (fun _=>Tot.bindeq (idx_some hx') (Tot.chk (by dsimp only; omega) (Tot.chk (by dsimp only; unfold InI64; omega) (Tot.ret rfl)))) (fun hh=>absurd hh (by simp; omega))
   rw [loop_inl e,ih (n+1) _ hr hlt (by simp only [List.length_append]; omega)]
   simp
 refine Tot.eq ?_
 unfold slicesN9 slicesN15 slicesN17 slicesN41
 have h1:=k1 ll 0 0 rfl (Nat.zero_le _) (by omega)
 refine Tot.bindeq h1 (Tot.bind (R:=(·=[])) ?_ fun x hx=>?_)
 ·refine Tot.bindeq (a:=()) (if_neg (by simp)) (Tot.bind (R:=(·=[])) (Tot.chk (by unfold InI64; omega) (Tot.ite (fun hp=>Tot.chk (by omega) (Tot.chk (by simp) (Tot.ret (by simp)))) (fun _=>Tot.ret rfl))) fun a ha=>Tot.ret ha)
 ·subst hx
  refine Tot.bindeq (k2 ll 0 [] rfl (Nat.zero_le _) (by simp only [List.length_nil]; omega)) (Tot.ret (by simp))
def tailN (u:Nat):List UInt8:=[toU8 (shrK .i64 (u:Int) 0),toU8 (shrK .i64 (u:Int) 8),toU8 (shrK .i64 (u:Int) 16),toU8 (shrK .i64 (u:Int) 24)]
theorem p_page_loop (u:Nat) (l:List UInt8) (h:l.length≤1000000):loop (chunkN1 (u:Int)) (0,l)=some (l++tailN u):=by
 have r:∀(k:Int) (l:List UInt8),0≤k→k < 4→l.length≤1000010→chunkN1 (u:Int) (k,l)=some (.inl (k+1,l++[toU8 (shrK .i64 (u:Int) (8 * k))])):=by
  intro k l h0 h4 hl
  refine Tot.eq ?_
  unfold chunkN1
  exact Tot.ite (fun _=>Tot.chk (by dsimp only; unfold InI64; omega) (Tot.chk (by dsimp only; omega) (Tot.chk (by simp only [List.length_cons,List.length_nil]; omega) (Tot.chk (by dsimp only; unfold InI64; omega) (Tot.ret rfl))))) (fun hh=>absurd hh (by simp; omega))
 have e:∀l,chunkN1 (u:Int) (0+1+1+1+1,l)=some (.inr l):=fun l=>by unfold chunkN1; rw [if_neg (show ¬(decide ((0+1+1+1+1:Int) < 4)=true) by decide)]; rfl
 rw [loop_inl (r 0 _ (by decide) (by decide) (by omega)),loop_inl (r (0+1) _ (by decide) (by decide) (by simp; omega)),loop_inl (r (0+1+1) _ (by decide) (by decide) (by simp; omega)),loop_inl (r (0+1+1+1) _ (by decide) (by decide) (by simp; omega)),loop_inr (e _)]
 simp [tailN]
def bodyN (c:api_Copy):List UInt8:=packN (zig c.Id)++(packN (zig c.Ver)++(strN c.Data++intsN c.Sums))
def pageN (c:api_Copy):List UInt8:=bodyN c++tailN (sumN (bodyN c))
theorem p_Of (b:List UInt8) (h:b.length≤1000000):sum_Of b=some ((sumN b:Nat):Int):=by
 unfold sum_Of
 rw [p_half,Option.bind_some,p_of b h]; rfl
def smallC (c:api_Copy):Prop:=InI64 c.Id∧InI64 c.Ver∧c.Data.length≤1000∧c.Sums.length≤1000∧∀n∈c.Sums,InI64 n
theorem bodyN_len {c:api_Copy} (h:smallC c):(bodyN c).length≤20000:=by
 obtain ⟨h1,h2,h3,h4,h5⟩:=h
 have a1:=packN_len (zig_lt h1)
 have a2:=packN_len (zig_lt h2)
 have a3:=packN_len (zig_lt (n:=c.Data.length) (by unfold InI64; omega))
 have a4:=packN_len (zig_lt (n:=c.Sums.length) (by unfold InI64; omega))
 have a5:=numsN_len h5
 simp [bodyN,strN,intsN]; omega
theorem p_page (c:api_Copy) (h:smallC c):chunk_page c=some (pageN c):=by
 have hb:=bodyN_len h
 obtain ⟨h1,h2,h3,h4,h5⟩:=h
 have hf:[packN (zig c.Id),packN (zig c.Ver),strN c.Data,intsN c.Sums].flatten=bodyN c:=by simp [bodyN]
 refine Tot.eq ?_
 unfold chunk_page chunkN3
 refine Tot.bindeq (p_Int h1) (Tot.bindeq (p_Int h2) (Tot.bindeq (p_Str _ (by omega)) (Tot.bindeq (p_Ints _ (by omega) h5) (Tot.bindeq (p_Concat _ (by rw [hf]; omega) (by simp)) ?_))))
 rw [hf]
 exact Tot.bindeq (p_Of _ (by omega)) (Tot.bindeq (p_page_loop _ _ (by omega)) (Tot.ret rfl))
def mayN (at_:Int) (n:Nat):Prop:=(0≤at_∧at_ < 1000)∧n≤200
instance (a : Int) (n : Nat) : Decidable (mayN a n) := inferInstanceAs (Decidable (_ ∧ _))
theorem p_dmay (a:Int) (d:List UInt8):Tot (disk_may a d) (Tells (mayN a d.length)) :=
 Tot.bind (Tot.bind (Tot.andI (by simp) fun _=>Tot.dec Iff.rfl) fun _ h1=>Tot.bind (Tot.andI h1 fun _=>Tot.dec (by omega)) fun _ h2=>Tot.ret h2) fun _ h=>Tot.ret h
def writeN (d:api_Disk) (a:Int) (x:List UInt8):api_Disk×Int:=if d.Down then (d,40) else if mayN a x.length then (⟨d.Synced,d.Loose++[⟨a,x⟩],d.Down⟩,0) else (d,1)
theorem p_Write (d:api_Disk) (a:Int) (x:List UInt8) (hd:d.Loose.length≤1000) (hx:x.length≤100000):disk_Write d a x=some (writeN d a x):=by
 refine Tot.eq ?_
 unfold disk_Write writeN
 refine Tot.ite (fun h=>Tot.ret (by rw [if_pos h])) fun h=>?_
 rw [if_neg h]
 refine Tot.bind (p_dmay a x) fun b hb=>Tot.ite (fun hn=>Tot.ret ?_) (fun hn=>?_)
 ·rw [if_neg (fun hp=>by rw [hb.2 hp] at hn; cases hn)]
 ·have hp:mayN a x.length:=hb.1 (by simpa using hn)
  rw [if_pos hp]
  exact Tot.bindeq (pN3 _ (by omega)) (Tot.bindeq (p_bClone _ (by omega)) (Tot.chk (by simp only [List.length_cons,List.length_nil]; omega) (Tot.ret rfl)))
theorem p_Reverse (l:List api_Page) (h:l.length≤100000):slicesN82 l=some ((),l.reverse):=by
 refine Tot.eq ?_
 unfold slicesN82 slicesN86
 refine Tot.chk (by unfold InI64; omega) ?_
 refine Tot.loop (fun s=>0≤s.1∧s.1+s.2.1=(l.length:Int) - 1∧s.1≤s.2.1+2∧s.2.2.length=l.length∧∀k:Nat,k < l.length→s.2.2[k]?=if (k:Int) < s.1∨s.2.1 < (k:Int) then l[l.length - 1 - k]? else l[k]?) (fun s=>(s.2.1+1 - s.1).toNat) ?_ (0,(l.length:Int) - 1,l) ⟨by simp,by simp,by simp; omega,rfl,fun k hk=>by rw [if_neg (by simp; omega)]⟩
 rintro ⟨i,j,m⟩ ⟨h0,h1,h2,hm,hk⟩
 unfold slicesN84
 dsimp only at h0 h1 h2 hm hk ⊢
 refine Tot.ite (fun hlt=>?_) (fun hlt=>?_)
 ·have hlt:i < j:=by simpa using hlt
  refine Tot.bind (Tot.idx (l:=m) (i:=j) (by omega) (by omega) fun x hx=>hx) fun x1 hx1=>?_
  refine Tot.bind (Tot.idx (l:=m) (i:=i) (by omega) (by omega) fun x hx=>hx) fun x2 hx2=>?_
  refine Tot.bind (Tot.idx (l:=m) (i:=i) (by omega) (by omega) fun x hx=>trivial) fun _ _=>?_
  refine Tot.bind (Tot.idx (l:=m.set i.toNat x1) (i:=j) (by omega) (by simp; omega) fun x hx=>trivial) fun _ _=>?_
  refine Tot.chk (by unfold InI64; omega) (Tot.chk (by unfold InI64; omega) (Tot.inl ⟨⟨by dsimp only; omega,by dsimp only; omega,by dsimp only; omega,by simp [hm],fun k hkl=>?_⟩,by dsimp only; omega⟩))
  dsimp only
  have hi:=hk i.toNat (by omega)
  have hj:=hk j.toNat (by omega)
  rw [if_neg (by omega)] at hi hj
  rw [List.getElem?_set,List.getElem?_set]
  by_cases hkj:j.toNat=k
  ·subst hkj
   rw [if_pos rfl,if_pos (by simp; omega),if_pos (by omega),←hx2,hi]
   congr 1; omega
  ·rw [if_neg hkj]
   by_cases hki:i.toNat=k
   ·subst hki
    rw [if_pos rfl,if_pos (by omega),if_pos (by omega),←hx1,hj]
    congr 1; omega
   ·rw [if_neg hki,hk k hkl]
    by_cases hc:(k:Int) < i∨j < (k:Int)
    ·rw [if_pos hc,if_pos (by omega)]
    ·rw [if_neg hc,if_neg (by omega)]
 ·have hge:¬i < j:=by simpa using hlt
  refine Tot.out (Tot.ret ?_)
  congr 1
  refine List.ext_getElem? fun k=>?_
  rcases Nat.lt_or_ge k l.length with hkl | hkl
  ·rw [hk k hkl,List.getElem?_reverse hkl]
   by_cases hc:(k:Int) < i∨j < (k:Int)
   ·rw [if_pos hc]
   ·rw [if_neg hc]; congr 1; omega
  ·rw [List.getElem?_eq_none (by omega),List.getElem?_eq_none (by simpa using hkl)]
def readN (d:api_Disk) (a:Int):List UInt8×Int :=
 if d.Down then ([],40) else if mayN a 0 then (match (d.Synced++d.Loose).reverse.find? (fun p=>p.At == a) with | none=>([],41) | some p=>(p.Data,0)) else ([],1)
end Go.Proofs
