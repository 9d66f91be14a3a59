/- Chains, plain: what is cut, and patched. No condition. -/
import Derived.Test.YtaaaipgdnofafaaGreatXChainTellsP26p
namespace Go.Proofs
set_option linter.all false
open Go Go.Cat
set_option linter.all false
section
variable {c:api_Chain} {D:List api_Disk} {n:Nat}
noncomputable def goesB (D:List api_Disk) (sv s:Int):Bool:=s == sv||(atS D s).Down
theorem p_Cut1 {s:Int} (sv:Int) (hs:isS D s):chain_Cut_1 s sv D=some (goesB D sv s):=by
 unfold chain_Cut_1 goesB
 rw [at_idx hs,Option.bind_some,if_or]; rfl
theorem p_Cut12 {s:Int} (sv:Int) (hs:isS D s):chainN1 s sv D=some (goesB D sv s):=by
 unfold chainN1 goesB
 rw [at_idx hs,Option.bind_some,if_or]; rfl
theorem p_IndexCut (l:List Int) (sv:Int) (hl:l.length≤10000) (hs:∀s,s∈l→isS D s):slicesN54 l sv D=some (match l.findIdx? (goesB D sv) with | some n=>(n:Int) | none=>-1):=by
 unfold slicesN54 slicesN59
 have:=loop_find (b:=l) (B:=slicesN56 l sv D) (goesB D sv) (fun n _=>(n:Int)) (-1) ?_ ?_
 ·rw [this]
  congr 1
  cases hf:l.findIdx? (goesB D sv) with
  | none=>rfl
  | some n =>
   have:=List.findIdx?_eq_some_iff_getElem.1 hf
   obtain ⟨hn,-⟩:=this
   simp [List.getElem?_eq_getElem hn]
 ·intro n y hy hn
  unfold slicesN56
  rw [if_pos (by simp; omega),idx_some hy,Option.bind_some,p_Cut1 sv (hs y (List.mem_of_getElem? hy)),Option.bind_some]
  by_cases e:goesB D sv y=true
  ·rw [if_pos e,if_pos e]; rfl
  ·rw [if_neg e,if_neg e,chk_pos (by unfold InI64; omega)]
 ·unfold slicesN56 slicesN58
  rw [if_neg (by simp)]; rfl
theorem takeN1 {l:List Int} {i:Nat} {x:Int} (h:i < l.length):(l.set i x).take (i+1)=l.take i++[x]:=by
 rw [List.take_succ_eq_append_getElem (by rw [List.length_set]; exact h),List.getElem_set_self,List.take_set_of_le (Nat.le_refl _)]
theorem p_Delete (l:List Int) (sv:Int) (hl:l.length≤10000) (hs:∀s,s∈l→isS D s):slicesN35 l sv D=some (l.filter fun s=>!goesB D sv s):=by
 refine Tot.eq ?_
 unfold slicesN35
 refine Tot.bindeq (p_IndexCut l sv hl hs) ?_
 cases hf:l.findIdx? (goesB D sv) with
 | none =>
  dsimp only
  rw [List.findIdx?_eq_none_iff] at hf
  refine Tot.cond rfl (Tot.ret ?_)
  symm
  rw [List.filter_eq_self]
  intro a ha; rw [hf a ha]; rfl
 | some m =>
  obtain ⟨hm,hp,hb⟩:=List.findIdx?_eq_some_iff_getElem.1 hf
  dsimp only
  refine Tot.ncond (by simp <;> omega) (Tot.bind (R:=fun v:Int×List Int=>0≤v.1∧v.1≤(v.2.length:Int)∧v.2.take v.1.toNat=l.filter fun s=>!goesB D sv s) (Tot.chk (by unfold InI64; omega) ?_) fun v hv=>?_)
  ·unfold slicesN39
   have hfm:((l.take m).filter fun s=>!goesB D sv s)=l.take m:=by
    rw [List.filter_eq_self]
    intro a ha
    obtain ⟨k,hk,rfl⟩:=List.mem_iff_getElem.1 ha
    have hkm:k < m:=by have:=hk; rw [List.length_take] at this; omega
    have:=hb k hkm
    rw [List.getElem_take]
    simpa using this
   refine Tot.loop (fun s:Int×Int×List Int=>∃j i:Nat,s.2.1=j∧j≤l.length∧s.1=i∧i=((l.take j).filter fun s=>!goesB D sv s).length∧s.2.2.length=l.length∧s.2.2.take i=(l.take j).filter (fun s=>!goesB D sv s)∧s.2.2.drop j=l.drop j∧i < j) (fun s=>l.length+1 - s.2.1.toNat) ?_ _ ⟨m+1,m,rfl,hm,rfl,?_,rfl,?_,rfl,by omega⟩
   ·rintro ⟨i',j',a⟩ ⟨j,i,rfl,hj,rfl,hi,ha,htk,hdr,hij⟩
    dsimp only at ha htk hdr
    unfold slicesN37
    rcases Nat.lt_or_ge j l.length with hlt | hge
    ·have hx:l[j]?=some l[j]:=List.getElem?_eq_getElem hlt
     have hxa:a[j]?=some l[j]:=by
      have h1:(a.drop j)[0]?=(l.drop j)[0]?:=by rw [hdr]
      rw [List.getElem?_drop,List.getElem?_drop,Nat.add_zero] at h1
      rw [h1,hx]
     generalize l[j]=x at hx hxa
     have hdr':a.drop (j+1)=l.drop (j+1):=by
      have:=congrArg (List.drop 1) hdr
      rwa [List.drop_drop,List.drop_drop] at this
     refine Tot.cond (by simp; omega) (Tot.bind (R:=fun v:Int×List Int=>∃i:Nat,v.1=i∧i=((l.take (j+1)).filter fun s=>!goesB D sv s).length∧v.2.length=l.length∧v.2.take i=(l.take (j+1)).filter (fun s=>!goesB D sv s)∧v.2.drop (j+1)=l.drop (j+1)∧i < j+1) ?_ fun v hv=>?_)
     ·refine Tot.bindeq (idx_some hxa) (Tot.bindeq (p_Cut12 sv (hs x (List.mem_of_getElem? hx))) ?_)
      rw [take_snoc hx,filter_snoc]
      refine Tot.ite (fun e=>?_) fun e=>?_
      ·rw [if_pos e]
       have hia:i < a.length:=by omega
       refine Tot.bindeq (idx_some (List.getElem?_eq_getElem hia)) (Tot.chk (by unfold InI64; dsimp only; omega) (Tot.ret ⟨i+1,rfl,?_,?_,?_,?_,by omega⟩))
       ·rw [List.length_append,←hi]; rfl
       ·dsimp only; rw [List.length_set]; exact ha
       ·dsimp only; rw [Int.toNat_natCast,takeN1 hia,htk]
       ·dsimp only; rw [Int.toNat_natCast,List.drop_set_of_lt (by omega)]; exact hdr'
      ·rw [if_neg e]
       exact Tot.ret ⟨i,rfl,hi,ha,htk,hdr',by omega⟩
     ·obtain ⟨i2,h1,h2,h3,h4,h5,h6⟩:=hv
      exact Tot.chk (by unfold InI64; dsimp only; omega) (Tot.inl ⟨⟨j+1,i2,rfl,hlt,h1,h2,h3,h4,h5,h6⟩,by show l.length+1 - ((j:Int)+1).toNat < l.length+1 - (j:Int).toNat; omega⟩)
    ·obtain rfl:j=l.length:=by omega
     rw [List.take_length] at htk hi
     refine Tot.ncond (by simp; omega) (Tot.out (Tot.ret ⟨by dsimp only; omega,by dsimp only; omega,by dsimp only; rw [Int.toNat_natCast]; exact htk⟩))
   ·rw [List.take_succ_eq_append_getElem hm,filter_snoc,if_neg (by simp [hp]),hfm,List.length_take]; omega
   ·rw [List.take_succ_eq_append_getElem hm,filter_snoc,if_neg (by simp [hp]),hfm]
  ·obtain ⟨i,a⟩:=v
   obtain ⟨h1,h2,h3⟩:=hv
   dsimp only at h1 h2 h3 ⊢
   refine Tot.chk ⟨h1,h2⟩ (Tot.chk ⟨h1,by simp; omega⟩ (Tot.ret ?_))
   rw [List.take_append_of_le_length (by rw [List.length_take]; omega),List.take_take,Nat.min_self]
   exact h3
noncomputable def restC (c:api_Chain) (D:List api_Disk) (sv:Int):List Int:=c.Servers.filter fun s=>!goesB D sv s
noncomputable def cutC (c:api_Chain) (D:List api_Disk) (sv:Int):api_Chain×List api_Disk×Int :=
 if sv∉c.Servers then (c,D,1) else if c.Ver≥1099511627776 then (c,D,76) else
 if (firstC ⟨c.Id,c.Ver,restC c D sv⟩ D).2=false then (c,D,260) else (⟨c.Id,c.Ver+1,restC c D sv⟩,layAll (newC c.Id (c.Ver+1) (firstC ⟨c.Id,c.Ver,restC c D sv⟩ D).1) D (restC c D sv),0)
theorem ChD.rest (h:ChD c D n) (v sv:Int):ChD ⟨c.Id,v,restC c D sv⟩ D n:=⟨h.f,fun s hs=>h.s s (List.mem_filter.1 hs).1,Nat.le_trans (List.length_filter_le _ _) h.n⟩
theorem first_len (h:ChD c D n) (hn:n≤300):(firstC c D).1.length≤1000:=by
 unfold firstC
 split
 ·rename_i s hs
  exact data_le h hn (h.s _ (List.mem_of_find?_eq_some hs))
 ·simp
theorem p_CutC (h:ChD c D n) (hn:n≤300) (hv:0≤c.Ver) (sv:Int):chain_Cut c D sv=some (cutC c D sv):=by
 refine Tot.eq ?_
 have hl:=h.n
 unfold chain_Cut cutC
 refine Tot.bindeq (p_Contains _ sv (by omega)) (Tot.ite (fun e=>Tot.ret (by rw [if_pos (show sv∉c.Servers by simpa using e)])) fun e=>?_)
 have e1:¬(sv∉c.Servers):=by simpa using e
 rw [if_neg e1]
 refine Tot.ite (fun e=>Tot.ret (by rw [if_pos (show c.Ver≥1099511627776 by simpa using e)])) fun e=>?_
 have hv2:¬c.Ver≥1099511627776:=by simpa using e
 rw [if_neg hv2]
 have hr:=h.rest c.Ver sv
 refine Tot.bindeq (p_Clone_int _ (by omega)) (Tot.bindeq (p_Delete _ sv (by omega) h.s) (Tot.bindeq (p_firstC hr hn) (Tot.ite (fun e=>Tot.ret ?_) fun e=>?_)))
 ·rw [if_pos (show (firstC ⟨c.Id,c.Ver,restC c D sv⟩ D).2=false by simpa [restC] using e)]
 rw [if_neg (show ¬(firstC ⟨c.Id,c.Ver,restC c D sv⟩ D).2=false by simpa [restC] using e)]
 have h2:=h.rest (c.Ver+1) sv
 have hfl:=first_len hr hn
 refine Tot.chk (by unfold InI64; omega) (Tot.bindeq (p_layingC h2 _ _) (Tot.bind (R:=(·=layAll (newC c.Id (c.Ver+1) (firstC ⟨c.Id,c.Ver,restC c D sv⟩ D).1) D (restC c D sv))) ?_ fun r hr=>Tot.ret (by rw [hr]; rfl)))
 unfold chainN4
 have hl2:=h2.n
 dsimp only at hl2
 refine Tot.each (l:=restC c D sv) (fun k a=>a=layAll (newC c.Id (c.Ver+1) (firstC ⟨c.Id,c.Ver,restC c D sv⟩ D).1) D ((restC c D sv).take k)) (fun k s a hlt hs ha=>?_) (fun a ha=>?_) D rfl
 ·have hsS:=h2.mem hs
  have haS:isS a s:=by rw [ha]; exact layAll_isS.2 hsS
  have hf:FitD a (n+10):=by rw [ha]; exact h2.layT _ k
  unfold chainN2
  exact Tot.cond (by simp; exact hlt) (Tot.bindeq (idx_some hs) (Tot.bindeq (p_lay1 hf (by omega) haS _ (by show (firstC ⟨c.Id,c.Ver,restC c D sv⟩ D).1.length≤10000; omega)) (Tot.chk (by unfold InI64; dsimp only; omega) (Tot.inl ⟨rfl,by rw [take_snoc hs,layAll_snoc,←ha]; rfl⟩))))
 ·unfold chainN2
  exact Tot.ncond (by simp [restC]) (Tot.out (Tot.ret (by rw [List.take_length] at ha; exact ha)))
noncomputable def firstL (c:api_Chain) (D:List api_Disk) (l:List Int):List UInt8×Bool:=match l.find? (wholeB c D) with
 | some s=>(dataS c D s,true)
 | none=>([],false)
theorem r_CutC (h:ChD c D n) (hn:n≤300) (hv:0≤c.Ver) (sv:Int):ref26_Cut c D sv=some (cutC c D sv):=by
 refine Tot.eq ?_
 have hl:=h.n
 unfold ref26_Cut cutC
 refine Tot.bindeq (r_Has _ sv (by omega)) (Tot.ite (fun e=>Tot.ret (by rw [if_pos (show sv∉c.Servers by simpa using e)])) fun e=>?_)
 have e1:¬(sv∉c.Servers):=by simpa using e
 rw [if_neg e1]
 refine Tot.ite (fun e=>Tot.ret (by rw [if_pos (show c.Ver≥1099511627776 by simpa using e)])) fun e=>?_
 have hv2:¬c.Ver≥1099511627776:=by simpa using e
 rw [if_neg hv2]
 have hr:=h.rest c.Ver sv
 have hfl:=first_len hr hn
 have hfe:firstC ⟨c.Id,c.Ver,restC c D sv⟩ D=firstL c D (restC c D sv):=rfl
 rw [hfe] at hfl ⊢
 refine Tot.chk (by unfold InI64; omega) (Tot.bind (R:=fun v=>(v.1,v.2.1)=firstL c D (restC c D sv)∧v.2.2=restC c D sv) ?_ fun v hv=>?_)
 ·unfold ref26N3
  refine Tot.eachG (l:=c.Servers) (fun s:List UInt8×Bool×Int×List Int=>s.2.2.1) (fun k s=>(s.1,s.2.1)=firstL c D ((c.Servers.take k).filter fun s=>!goesB D sv s)∧s.2.2.2=(c.Servers.take k).filter fun s=>!goesB D sv s) (fun k x a hlt hx hc ha=>?_) (fun a hc ha=>?_) _ rfl ⟨rfl,rfl⟩
  ·obtain ⟨a1,a2,a3,a4⟩:=a
   dsimp only at hc ha
   obtain ⟨ha1,ha2⟩:=ha
   subst hc ha2
   have hs:=h.mem hx
   have ht:=take10 h k (fun s=>!goesB D sv s)
   unfold ref26N1
   refine Tot.cond (by simp; omega) (Tot.bind (R:=fun v=>(v.1,v.2.1)=firstL c D ((c.Servers.take (k+1)).filter fun s=>!goesB D sv s)∧v.2.2=(c.Servers.take (k+1)).filter fun s=>!goesB D sv s) (Tot.bindeq (idx_some hx) (Tot.bindeq (a:=goesB D sv x) (by rw [at_idx hs,Option.bind_some,if_or]; rfl) ?_)) fun v hv=>Tot.chk (by unfold InI64; dsimp only; omega) (Tot.inl ⟨rfl,hv⟩))
   rw [take_snoc hx,filter_snoc]
   refine Tot.ite (fun e=>Tot.ret ⟨by rw [if_neg (by simp [e])]; exact ha1,by rw [if_neg (by simp [e])]⟩) fun e=>?_
   rw [if_pos (by simpa using e)]
   have hfa:firstL c D (((c.Servers.take k).filter fun s=>!goesB D sv s)++[x])=if (wholeB c D x&&!a2)=true then (dataS c D x,true) else (a1,a2):=by
    have ha1':=ha1
    unfold firstL at ha1 ⊢
    rw [List.find?_append]
    cases hq:((c.Servers.take k).filter fun s=>!goesB D sv s).find? (wholeB c D) with
    | none =>
     rw [hq] at ha1
     have:a2=false:=by injection ha1
     subst this
     cases hw:wholeB c D x
     ·simp [hw]; exact (congrArg Prod.fst ha1)
     ·simp [hw]
    | some y =>
     rw [hq] at ha1
     have:a2=true:=by injection ha1
     subst this
     simp; exact (congrArg Prod.fst ha1).symm
   refine Tot.chk (by simp only [List.length_cons,List.length_nil]; omega) (Tot.bindeq (r_Whole h hn hs) (Tot.bindeq (a:=(wholeB c D x&&!a2)) (by dsimp only; rw [if_and]; rfl) (Tot.ite (fun e=>Tot.ret ⟨?_,rfl⟩) fun e=>Tot.ret ⟨?_,rfl⟩)))
   ·rw [hfa,if_pos e]
   ·rw [hfa,if_neg e]
  ·obtain ⟨a1,a2,a3,a4⟩:=a
   dsimp only at hc ha
   rw [List.take_length] at ha
   subst hc
   unfold ref26N1
   exact Tot.ncond (by simp) (Tot.out (Tot.ret ha))
 ·obtain ⟨v1,v2,v3⟩:=v
  obtain ⟨hv1,hv2'⟩:=hv
  dsimp only at hv1 hv2'
  rw [←hv1]
  subst hv2'
  refine Tot.ite (fun e=>Tot.ret (by rw [if_pos (by simpa using e)])) fun e=>?_
  rw [if_neg (by simpa using e)]
  have hvl:v1.length≤1000:=by rw [←hv1] at hfl; exact hfl
  have h2:=h.rest (c.Ver+1) sv
  refine Tot.bind (R:=(·=layAll (newC c.Id (c.Ver+1) v1) D (restC c D sv))) ?_ fun r hr=>Tot.ret (by rw [hr])
  unfold ref26N4
  have hl2:=h2.n
  dsimp only at hl2
  refine Tot.each' (l:=restC c D sv) (fun k a=>a=layAll (newC c.Id (c.Ver+1) v1) D ((restC c D sv).take k)) (fun k s a hlt hs ha=>?_) (fun a ha=>?_) D rfl
  ·have hsS:=h2.mem hs
   have haS:isS a s:=by rw [ha]; exact layAll_isS.2 hsS
   have hf:FitD a (n+10):=by rw [ha]; exact h2.layT _ k
   unfold ref26N2
   exact Tot.cond (by simp; exact hlt) (Tot.bindeq (idx_some hs) (Tot.bindeq (r_lay1 hf (by omega) haS _ (c.Ver+1) (by dsimp only; omega)) (Tot.chk (by unfold InI64; dsimp only; omega) (Tot.inl ⟨rfl,by rw [take_snoc hs,layAll_snoc,←ha]⟩))))
  ·unfold ref26N2
   exact Tot.ncond (by simp) (Tot.out (Tot.ret (by rw [List.take_length] at ha; exact ha)))
end
end Go.Proofs
