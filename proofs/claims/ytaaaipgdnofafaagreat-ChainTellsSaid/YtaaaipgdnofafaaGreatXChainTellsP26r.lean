/- Chains, plain: what is patched. No condition. -/
import Derived.Test.YtaaaipgdnofafaaGreatXChainTellsP26q
namespace Go.Proofs
set_option linter.all false
open Go Go.Cat
set_option linter.all false
section
variable {c:api_Chain} {D:List api_Disk} {n:Nat}
noncomputable def fromC (c:api_Chain) (D:List api_Disk) (k:Nat):Option Int:=((c.Servers.drop (k+1)).find? (wholeB c D)).or ((c.Servers.take k).reverse.find? (wholeB c D))
noncomputable def patchC (c:api_Chain) (D:List api_Disk) (sv:Int):List api_Disk×Int :=
 match c.Servers.findIdx? (fun y=>sv == y) with
 | none=>(D,1)
 | some k=>if (c.Servers.any fun s=>(atS D s).Down)=true then (D,40) else if wholeB c D sv=true then (D,0) else match fromC c D k with
  | none=>(D,260)
  | some s=>(lay1 D sv (newC c.Id c.Ver (dataS c D s)),0)
theorem p_anyDown2 (l:List Int) (hl:l.length≤10000) (hs:∀s,s∈l→isS D s):slicesN31 l D=some (l.any fun s=>(atS D s).Down):=by
 refine Tot.eq ?_
 unfold slicesN31
 refine Tot.bind (R:=fun r=>decide (r≥0)=l.any fun s=>(atS D s).Down) ?_ fun r hr=>Tot.ret hr
 unfold slicesN68 slicesN73
 refine Tot.each0 (l:=l) (fun k=>((l.take k).any fun s=>(atS D s).Down)=false) (fun k s hlt hx hi=>?_) (fun hi=>?_) (by simp)
 ·unfold slicesN70
  have hsS:=hs s (List.mem_of_getElem? hx)
  refine Tot.cond (by simp; omega) (Tot.bindeq (idx_some hx) (Tot.bindeq (a:=(atS D s).Down) (by unfold chainN15; rw [at_idx hsS]; rfl) (Tot.ite (fun e=>Tot.out (Tot.ret ?_)) fun e=>Tot.chk (by unfold InI64; omega) (Tot.inl ⟨rfl,?_⟩))))
  ·have:(l.any fun s=>(atS D s).Down)=true:=List.any_eq_true.2 ⟨s,List.mem_of_getElem? hx,e⟩
   rw [this]; simp
  ·rw [take_snoc hx,List.any_append,hi]; simpa using e
 ·rw [List.take_length] at hi
  unfold slicesN70 slicesN72
  exact Tot.ncond (by simp) (Tot.out (Tot.ret (by rw [hi]; rfl)))
theorem idx_nodup {l:List Int} (hn:l.Nodup) {k:Nat} {x:Int} (hx:l[k]?=some x):l.findIdx? (fun y=>x == y)=some k:=by
 obtain ⟨hk,rfl⟩:=List.getElem?_eq_some_iff.1 hx
 rw [List.findIdx?_eq_some_iff_getElem]
 refine ⟨hk,by simp,fun j hj=>?_⟩
 have hne:=List.pairwise_iff_getElem.1 hn j k (by omega) hk hj
 simpa using fun e=>hne e.symm
noncomputable def lookP (c:api_Chain) (D:List api_Disk) (k j:Nat):List UInt8×Bool×Bool :=
 match ((c.Servers.take j).drop (k+1)).find? (wholeB c D) with
 | some s=>(dataS c D s,true,true)
 | none=>match ((c.Servers.take j).take k).reverse.find? (wholeB c D) with
  | some s=>(dataS c D s,true,false)
  | none=>([],false,false)
theorem look_skip {k j:Nat} {x:Int} (hx:c.Servers[j]?=some x) (hw:¬wholeB c D x=true):lookP c D k (j+1)=lookP c D k j:=by
 unfold lookP
 rw [take_snoc hx]
 have hl:(c.Servers.take j).length=j:=by rw [List.length_take]; have:=(List.getElem?_eq_some_iff.1 hx).1; omega
 rcases Nat.lt_or_ge k j with h | h
 ·rw [List.drop_append_of_le_length (by omega),List.find?_append,List.take_append_of_le_length (by omega)]
  have:[x].find? (wholeB c D)=none:=by simp [hw]
  rw [this,Option.or_none]
 ·have h1:((c.Servers.take j++[x]).drop (k+1))=[]:=List.drop_eq_nil_of_le (by simp; omega)
  have h2:((c.Servers.take j).drop (k+1))=[]:=List.drop_eq_nil_of_le (by omega)
  rw [h1,h2]
  rcases Nat.lt_or_ge j k with h3 | h3
  ·have e1:(c.Servers.take j++[x]).take k=c.Servers.take j++[x]:=List.take_of_length_le (by simp; omega)
   have e2:(c.Servers.take j).take k=c.Servers.take j:=List.take_of_length_le (by omega)
   rw [e1,e2,List.reverse_append,List.find?_append]
   have:([x]:List Int).reverse.find? (wholeB c D)=none:=by simp [hw]
   rw [this,Option.none_or]
  ·obtain rfl:j=k:=by omega
   rw [List.take_append_of_le_length (by omega)]
theorem look_put {k j:Nat} {x:Int} (hx:c.Servers[j]?=some x) (hw:wholeB c D x=true) (hjk:j≠k):lookP c D k (j+1)=if (lookP c D k j).2.2=true then lookP c D k j else (dataS c D x,true,decide ((j:Int) > (k:Int))):=by
 have hl:(c.Servers.take j).length=j:=by rw [List.length_take]; have:=(List.getElem?_eq_some_iff.1 hx).1; omega
 unfold lookP
 rw [take_snoc hx]
 rcases Nat.lt_or_ge k j with h | h
 ·rw [List.drop_append_of_le_length (by omega),List.find?_append,List.take_append_of_le_length (by omega)]
  have:[x].find? (wholeB c D)=some x:=by simp [hw]
  rw [this]
  cases hq:((c.Servers.take j).drop (k+1)).find? (wholeB c D) with
  | some s=>simp
  | none =>
   simp only [Option.none_or]
   have hd:decide ((j:Int) > (k:Int))=true:=by simp; omega
   rw [hd]
   cases hq2:((c.Servers.take j).take k).reverse.find? (wholeB c D) <;> simp
 ·have h1:((c.Servers.take j++[x]).drop (k+1))=[]:=List.drop_eq_nil_of_le (by simp; omega)
  have h2:((c.Servers.take j).drop (k+1))=[]:=List.drop_eq_nil_of_le (by omega)
  rw [h1,h2]
  have e1:(c.Servers.take j++[x]).take k=c.Servers.take j++[x]:=List.take_of_length_le (by simp; omega)
  have e2:(c.Servers.take j).take k=c.Servers.take j:=List.take_of_length_le (by omega)
  have hd:decide ((j:Int) > (k:Int))=false:=by simp; omega
  rw [e1,e2,List.reverse_append,hd]
  have:([x].reverse++(c.Servers.take j).reverse).find? (wholeB c D)=some x:=by simp [hw]
  rw [this]
  simp only [List.find?_nil]
  cases hq2:(c.Servers.take j).reverse.find? (wholeB c D) <;> simp
theorem look_all {k:Nat} {s:Int} (hs:c.Servers[k]?=some s):lookP c D k c.Servers.length=match fromC c D k with
  | some y=>(dataS c D y,true,(lookP c D k c.Servers.length).2.2)
  | none=>([],false,(lookP c D k c.Servers.length).2.2):=by
 unfold lookP fromC
 rw [List.take_length]
 cases hq:(c.Servers.drop (k+1)).find? (wholeB c D) with
 | some y=>simp
 | none =>
  simp only [Option.none_or]
  cases hq2:(c.Servers.take k).reverse.find? (wholeB c D) <;> simp
theorem p_PatchC (h:ChD c D n) (hn:n≤300) (hd:c.Servers.Nodup) (sv:Int):chain_Patch c D sv=some (patchC c D sv):=by
 refine Tot.eq ?_
 have hl:=h.n
 unfold chain_Patch patchC
 refine Tot.bindeq (p_IndexI _ sv (by omega)) ?_
 cases hf:c.Servers.findIdx? (fun y=>sv == y) with
 | none=>exact Tot.cond rfl (Tot.ret rfl)
 | some k =>
  obtain ⟨hk,hp,-⟩:=List.findIdx?_eq_some_iff_getElem.1 hf
  have hkx:c.Servers[k]?=some sv:=by rw [List.getElem?_eq_getElem hk]; congr 1; simpa using (by simpa using hp:sv=c.Servers[k]).symm
  have hsv:=h.mem hkx
  dsimp only
  refine Tot.ncond (by simp <;> omega) (Tot.bindeq (p_anyDown2 _ (by omega) h.s) (Tot.ite (fun e=>Tot.ret (by rw [if_pos e])) fun e=>?_))
  rw [if_neg e]
  refine Tot.bindeq (a:=()) rfl (Tot.bind (R:=fun v:LS×List api_Disk×Int×List UInt8×Bool×Bool=>(wholeB c D sv=true∧v.1=.ret∧v.2.1=D∧v.2.2.1=0)∨(¬wholeB c D sv=true∧v.1=.rdy∧v.2.2.2=lookP c D k c.Servers.length)) ?_ fun v hv=>?_)
  ·unfold chainN38 chainN42
   refine Tot.each (l:=c.Servers) (fun j a=>a=(LS.rdy,([]:List api_Disk),(0:Int),lookP c D k j)∧(k < j→¬wholeB c D sv=true)) (fun j x a hlt hx ha=>?_) (fun a ha=>?_) _ ⟨by unfold lookP; simp,fun h=>by omega⟩
   ·obtain ⟨rfl,ha⟩:=ha
    have hs:=h.mem hx
    unfold chainN40
    refine Tot.cond (by simp; omega) (Tot.bindeq (idx_some hx) (Tot.bindeq (at_idx hs) (Tot.bindeq (h.get hn hs c.Id) (Tot.bind (R:=fun v:Bool×LS×List api_Disk×Int×List UInt8×Bool×Bool=>(j=k∧wholeB c D sv=true∧v.1=true∧v.2.1=.ret∧v.2.2.1=D∧v.2.2.2.1=0)∨(v=(false,LS.rdy,([]:List api_Disk),(0:Int),lookP c D k (j+1))∧(j=k→¬wholeB c D sv=true))) (Tot.bindeq (if_and _ _) (Tot.bind (R:=fun v:Bool×LS×List api_Disk×Int×List UInt8×Bool×Bool=>(j=k∧wholeB c D sv=true∧v.1=true∧v.2.1=.ret∧v.2.2.1=D∧v.2.2.2.1=0)∨(v=(false,LS.rdy,([]:List api_Disk),(0:Int),lookP c D k (j+1))∧(j=k→¬wholeB c D sv=true))) ?_ fun v hv=>Tot.ret hv)) fun v hv=>?_))))
    ·refine Tot.ite (fun e=>?_) fun e=>?_
     ·have hw:wholeB c D x=true:=e
      refine Tot.chk rfl ?_
      unfold chainN16
      refine Tot.bind (R:=fun v:LS×List api_Disk×Int×List UInt8×Bool×Bool=>(j=k∧v.1=.ret∧v.2.1=D∧v.2.2.1=0)∨(j≠k∧v=(LS.rdy,([]:List api_Disk),(0:Int),lookP c D k (j+1)))) (Tot.bindeq (p_IndexI _ x (by omega)) ?_) fun v hv=>Tot.ret ?_
      ·rw [idx_nodup hd hx]
       dsimp only
       refine Tot.ite (fun e=>Tot.ret (.inl ⟨by simp at e; omega,rfl,rfl,rfl⟩)) fun e=>?_
       have hjk:j≠k:=by simp at e; omega
       rw [look_put hx hw hjk]
       refine Tot.ite (fun e2=>Tot.ret (.inr ⟨hjk,?_⟩)) fun e2=>Tot.ret (.inr ⟨hjk,?_⟩)
       ·rw [if_neg (by simpa using e2)]; rfl
       ·rw [if_pos (by simpa using e2)]
      ·rcases hv with ⟨h1,h2,h3,h4⟩ | ⟨h1,rfl⟩
       ·refine .inl ⟨h1,?_,by dsimp only; rw [h2]; rfl,h2,h3,h4⟩
        subst h1
        rw [hx] at hkx; cases hkx; exact hw
       ·exact .inr ⟨rfl,fun h=>(h1 h).elim⟩
     ·have hw:¬wholeB c D x=true:=e
      refine Tot.ret (.inr ⟨by rw [look_skip hx hw],fun h=>?_⟩)
      subst h
      rw [hx] at hkx; cases hkx; exact hw
    ·rcases hv with ⟨h1,h2,h3,h4,h5,h6⟩ | ⟨rfl,h2⟩
     ·exact Tot.cond h3 (Tot.out (Tot.ret (.inl ⟨h2,h4,h5,h6⟩)))
     ·refine Tot.ncond (by simp) (Tot.chk (by unfold InI64; dsimp only; omega) (Tot.inl ⟨rfl,rfl,fun h3=>?_⟩))
      rcases Nat.lt_or_ge k j with h4 | h4
      ·exact ha h4
      ·exact h2 (by omega)
   ·obtain ⟨rfl,ha⟩:=ha
    unfold chainN40
    exact Tot.ncond (by simp) (Tot.out (Tot.ret (.inr ⟨ha hk,rfl,rfl⟩)))
  ·obtain ⟨v1,v2,v3,v4⟩:=v
   dsimp only at hv ⊢
   rcases hv with ⟨h1,rfl,rfl,rfl⟩ | ⟨h1,rfl,rfl⟩
   ·rw [if_neg (fun e=>by cases e),if_pos rfl,if_pos h1]; exact Tot.ret rfl
   ·rw [if_pos rfl,if_neg h1]
    rw [look_all hkx]
    cases hq:fromC c D k with
    | none=>exact Tot.cond rfl (Tot.ret rfl)
    | some y =>
     have hy:isS D y:=by
      unfold fromC at hq
      rcases Option.or_eq_some_iff.1 hq with h2 | ⟨_,h2⟩
      ·exact h.s y (List.mem_of_mem_drop (List.mem_of_find?_eq_some h2))
      ·exact h.s y (List.mem_of_mem_take (List.mem_reverse.1 (List.mem_of_find?_eq_some h2)))
     have:=data_le h hn hy
     exact Tot.ncond (by simp) (Tot.bindeq (p_layingC h _ _) (Tot.bindeq (p_lay1 h.f (by omega) hsv c (by dsimp only; omega)) (Tot.ret rfl)))
theorem r_PatchC (h:ChD c D n) (hn:n≤300) (hd:c.Servers.Nodup) (sv:Int):ref26_Patch c D sv=some (patchC c D sv):=by
 refine Tot.eq ?_
 have hl:=h.n
 unfold ref26_Patch patchC
 refine Tot.bindeq (r_Has _ sv (by omega)) ?_
 cases hf:c.Servers.findIdx? (fun y=>sv == y) with
 | none =>
  rw [List.findIdx?_eq_none_iff] at hf
  exact Tot.cond (by simp; intro hh; have:=hf sv hh; simp at this) (Tot.ret rfl)
 | some k =>
  obtain ⟨hk,hp,-⟩:=List.findIdx?_eq_some_iff_getElem.1 hf
  have hkx:c.Servers[k]?=some sv:=by rw [List.getElem?_eq_getElem hk]; congr 1; simpa using (by simpa using hp:sv=c.Servers[k]).symm
  have hsv:=h.mem hkx
  dsimp only
  refine Tot.ncond (by simp [List.mem_of_getElem? hkx]) ?_
  unfold ref26N28
  refine Tot.each' (l:=c.Servers) (fun j a=>((c.Servers.take j).any fun s=>(atS D s).Down)=false∧a=if k < j then (k:Int) else 0) (fun j x a hlt hx ha=>?_) (fun a ha=>?_) _ ⟨by simp,by simp⟩
  ·obtain ⟨ha,rfl⟩:=ha
   have hs:=h.mem hx
   unfold ref26N21
   refine Tot.cond (by simp; omega) (Tot.bindeq (idx_some hx) (Tot.bindeq (at_idx hs) (Tot.ite (fun e=>Tot.out (Tot.ret ?_)) fun e=>Tot.bindeq (idx_some hx) (Tot.ite (fun e2=>?_) fun e2=>?_))))
   ·rw [if_pos (List.any_eq_true.2 ⟨x,List.mem_of_getElem? hx,e⟩)]
   ·have hjk:j=k:=by
     have e3:x=sv:=by simpa using e2
     have:=idx_nodup hd hx
     rw [e3,hf] at this; injection this with this; exact this.symm
    unfold ref26N25
    refine Tot.chk (by unfold InI64; dsimp only; omega) (Tot.inl ⟨rfl,?_,?_⟩)
    ·rw [take_snoc hx,List.any_append,ha]; simpa using e
    ·dsimp only; rw [if_pos (by omega),hjk]
   ·have hjk:j≠k:=fun e3=>by
     subst e3; rw [hx] at hkx; cases hkx; simp at e2
    unfold ref26N25
    refine Tot.chk (by unfold InI64; dsimp only; omega) (Tot.inl ⟨rfl,?_,?_⟩)
    ·rw [take_snoc hx,List.any_append,ha]; simpa using e
    ·dsimp only
     by_cases h1:k < j
     ·rw [if_pos h1,if_pos (by omega)]
     ·rw [if_neg h1,if_neg (by omega)]
  ·obtain ⟨ha,rfl⟩:=ha
   rw [List.take_length] at ha
   rw [if_pos hk]
   unfold ref26N21
   refine Tot.ncond (by simp) (Tot.out ?_)
   rw [if_neg (by simp [ha])]
   unfold ref26N24
   refine Tot.bindeq (r_Whole h hn hsv) (Tot.ite (fun e=>Tot.ret (by rw [if_pos e])) fun e=>?_)
   rw [if_neg e]
   refine Tot.chk (by unfold InI64; omega) ?_
   unfold ref26N29 fromC
   refine Tot.loop (fun s:Int=>∃j:Nat,s=j∧k < j∧j≤c.Servers.length∧(c.Servers.drop (k+1)).find? (wholeB c D)=(c.Servers.drop j).find? (wholeB c D)) (fun s=>c.Servers.length+1 - s.toNat) ?_ _ ⟨k+1,rfl,by omega,by omega,rfl⟩
   rintro s ⟨j,rfl,hkj,hj,hfj⟩
   rw [hfj]
   unfold ref26N22
   rcases Nat.lt_or_ge j c.Servers.length with hlt | hge
   ·have hx:c.Servers[j]?=some c.Servers[j]:=List.getElem?_eq_getElem hlt
    generalize c.Servers[j]=x at hx
    have hs:=h.mem hx
    have hdl:=data_le h hn hs
    refine Tot.cond (by simp; omega) (Tot.bindeq (idx_some hx) (Tot.bindeq (r_Whole h hn hs) (Tot.ite (fun e2=>?_) fun e2=>Tot.chk (by unfold InI64; omega) (Tot.inl ⟨⟨j+1,rfl,by omega,hlt,?_⟩,by omega⟩))))
    ·have hw:wholeB c D x=true:=e2
     refine Tot.bindeq (r_lay1 h.f (by omega) hsv c c.Ver (by dsimp only; omega)) (Tot.out (Tot.ret ?_))
     rw [drop_cons hx,List.find?_cons,hw]; rfl
    ·have hw:wholeB c D x=false:=by simpa using e2
     rw [drop_cons hx,List.find?_cons,hw]
   ·obtain rfl:j=c.Servers.length:=by omega
    refine Tot.ncond (by simp) (Tot.out ?_)
    rw [List.drop_length,List.find?_nil,Option.none_or]
    unfold ref26N26
    refine Tot.chk (by unfold InI64; omega) ?_
    unfold ref26N30
    refine Tot.loop (fun s:Int=>∃j:Nat,s=(j:Int) - 1∧j≤k∧(c.Servers.take k).reverse.find? (wholeB c D)=(c.Servers.take j).reverse.find? (wholeB c D)) (fun s=>(s+1).toNat) ?_ _ ⟨k,rfl,Nat.le_refl _,rfl⟩
    rintro s ⟨j,rfl,hjk,hfj⟩
    rw [hfj]
    unfold ref26N23
    cases j with
    | zero =>
     refine Tot.ncond (by simp) (Tot.out ?_)
     unfold ref26N27
     exact Tot.ret rfl
    | succ m =>
     have hm:m < c.Servers.length:=by omega
     have hx:c.Servers[m]?=some c.Servers[m]:=List.getElem?_eq_getElem hm
     generalize c.Servers[m]=x at hx
     have hs:=h.mem hx
     have hdl:=data_le h hn hs
     have hi:idx c.Servers (((m+1:Nat):Int) - 1)=some x:=by rw [show ((m+1:Nat):Int) - 1=(m:Int) by omega]; exact idx_some hx
     have hrev:(c.Servers.take (m+1)).reverse.find? (wholeB c D)=if wholeB c D x=true then some x else (c.Servers.take m).reverse.find? (wholeB c D):=by
      rw [take_snoc hx,List.reverse_append]
      show (x::(c.Servers.take m).reverse).find? _=_
      rw [List.find?_cons]; cases wholeB c D x <;> rfl
     refine Tot.cond (by simp <;> omega) (Tot.bindeq hi (Tot.bindeq (r_Whole h hn hs) (Tot.ite (fun e2=>?_) fun e2=>Tot.chk (by unfold InI64; omega) (Tot.inl ⟨⟨m,by omega,by omega,?_⟩,by omega⟩))))
     ·have hw:wholeB c D x=true:=e2
      refine Tot.bindeq (r_lay1 h.f (by omega) hsv c c.Ver (by dsimp only; omega)) (Tot.out (Tot.ret ?_))
      rw [hrev,if_pos hw]
     ·have hw:¬wholeB c D x=true:=e2
      rw [hrev,if_neg hw]
end
end Go.Proofs
