/- Chains, plain: what is cut, and patched. No condition. -/
import Derived.Test.YtaaaipgdnofafaaGreatXChainStaleP26p
namespace Go.Proofs
set_option linter.all false
open Go Go.Cat
set_option linter.all false
section
variable {c:api_Chain} {D:List api_Disk} {n:Nat}
noncomputable def goesB (D:List api_Disk) (sv s:Int):Bool:=s == sv||(atS D s).Down
theorem p_Cut1 {s:Int} (sv:Int) (hs:isS D s):chain_Cut_1 s sv D=some (goesB D sv s):=by
 unfold chain_Cut_1 goesB
 rw [at_idx hs,Option.bind_some,if_or]; rfl
theorem p_Cut12 {s:Int} (sv:Int) (hs:isS D s):chain_Cut_1_2 s sv D=some (goesB D sv s):=by
 unfold chain_Cut_1_2 goesB
 rw [at_idx hs,Option.bind_some,if_or]; rfl
theorem p_IndexCut (l:List Int) (sv:Int) (hl:l.length≤10000) (hs:∀s,s∈l→isS D s):slices_IndexFunc_int_int__chain_Cut_1_3 l sv D=some (match l.findIdx? (goesB D sv) with | some n=>(n:Int) | none=>-1):=by
 unfold slices_IndexFunc_int_int__chain_Cut_1_3 slices_IndexFunc_int_int__chain_Cut_1_3_L1
 have:=loop_find (b:=l) (B:=slices_IndexFunc_int_int__chain_Cut_1_3_B1 l sv D) (goesB D sv) (fun n _=>(n:Int)) (-1) ?_ ?_
 ·rw [this]
  congr 1
  cases hf:l.findIdx? (goesB D sv) with
  | none=>rfl
  | some n =>
   have:=List.findIdx?_eq_some_iff_getElem.1 hf
   obtain ⟨hn,-⟩:=this
   simp [List.getElem?_eq_getElem hn]
 ·intro n y hy hn
  unfold slices_IndexFunc_int_int__chain_Cut_1_3_B1
  rw [if_pos (by simp; omega),idx_some hy,Option.bind_some,p_Cut1 sv (hs y (List.mem_of_getElem? hy)),Option.bind_some]
  by_cases e:goesB D sv y=true
  ·rw [if_pos e,if_pos e]; rfl
  ·rw [if_neg e,if_neg e,chk_pos (by unfold InI64; omega)]
 ·unfold slices_IndexFunc_int_int__chain_Cut_1_3_B1 slices_IndexFunc_int_int__chain_Cut_1_3_J1
  rw [if_neg (by simp)]; rfl
theorem take_set_succ {l:List Int} {i:Nat} {x:Int} (h:i < l.length):(l.set i x).take (i+1)=l.take i++[x]:=by
 rw [List.take_succ_eq_append_getElem (by rw [List.length_set]; exact h),List.getElem_set_self,List.take_set_of_le (Nat.le_refl _)]
theorem p_Delete (l:List Int) (sv:Int) (hl:l.length≤10000) (hs:∀s,s∈l→isS D s):slices_DeleteFunc_int_int__chain_Cut_1 l sv D=some (l.filter fun s=>!goesB D sv s):=by
 refine Tot.eq ?_
 unfold slices_DeleteFunc_int_int__chain_Cut_1
 refine Tot.bindeq (p_IndexCut l sv hl hs) ?_
 cases hf:l.findIdx? (goesB D sv) with
 | none =>
  dsimp only
  rw [List.findIdx?_eq_none_iff] at hf
  refine Tot.cond rfl (Tot.ret ?_)
  symm
  rw [List.filter_eq_self]
  intro a ha; rw [hf a ha]; rfl
 | some m =>
  obtain ⟨hm,hp,hb⟩:=List.findIdx?_eq_some_iff_getElem.1 hf
  dsimp only
  refine Tot.ncond (by simp <;> omega) (Tot.bind (R:=fun v:Int×List Int=>0≤v.1∧v.1≤(v.2.length:Int)∧v.2.take v.1.toNat=l.filter fun s=>!goesB D sv s) (Tot.chk (by unfold InI64; omega) ?_) fun v hv=>?_)
  ·unfold slices_DeleteFunc_int_int__chain_Cut_1_L1
   have hfm:((l.take m).filter fun s=>!goesB D sv s)=l.take m:=by
    rw [List.filter_eq_self]
    intro a ha
    obtain ⟨k,hk,rfl⟩:=List.mem_iff_getElem.1 ha
    have hkm:k < m:=by have:=hk; rw [List.length_take] at this; omega
    have:=hb k hkm
    rw [List.getElem_take]
    simpa using this
   refine Tot.loop (fun s:Int×Int×List Int=>∃j i:Nat,s.2.1=j∧j≤l.length∧s.1=i∧i=((l.take j).filter fun s=>!goesB D sv s).length∧s.2.2.length=l.length∧s.2.2.take i=(l.take j).filter (fun s=>!goesB D sv s)∧s.2.2.drop j=l.drop j∧i < j) (fun s=>l.length+1 - s.2.1.toNat) ?_ _ ⟨m+1,m,rfl,hm,rfl,?_,rfl,?_,rfl,by omega⟩
   ·rintro ⟨i',j',a⟩ ⟨j,i,rfl,hj,rfl,hi,ha,htk,hdr,hij⟩
    dsimp only at ha htk hdr
    unfold slices_DeleteFunc_int_int__chain_Cut_1_B1
    rcases Nat.lt_or_ge j l.length with hlt | hge
    ·have hx:l[j]?=some l[j]:=List.getElem?_eq_getElem hlt
     have hxa:a[j]?=some l[j]:=by
      have h1:(a.drop j)[0]?=(l.drop j)[0]?:=by rw [hdr]
      rw [List.getElem?_drop,List.getElem?_drop,Nat.add_zero] at h1
      rw [h1,hx]
     generalize l[j]=x at hx hxa
     have hdr':a.drop (j+1)=l.drop (j+1):=by
      have:=congrArg (List.drop 1) hdr
      rwa [List.drop_drop,List.drop_drop] at this
     refine Tot.cond (by simp; omega) (Tot.bind (R:=fun v:Int×List Int=>∃i:Nat,v.1=i∧i=((l.take (j+1)).filter fun s=>!goesB D sv s).length∧v.2.length=l.length∧v.2.take i=(l.take (j+1)).filter (fun s=>!goesB D sv s)∧v.2.drop (j+1)=l.drop (j+1)∧i < j+1) ?_ fun v hv=>?_)
     ·refine Tot.bindeq (idx_some hxa) (Tot.bindeq (p_Cut12 sv (hs x (List.mem_of_getElem? hx))) ?_)
      rw [take_snoc hx,filter_snoc]
      refine Tot.ite (fun e=>?_) fun e=>?_
      ·rw [if_pos e]
       have hia:i < a.length:=by omega
       refine Tot.bindeq (idx_some (List.getElem?_eq_getElem hia)) (Tot.chk (by unfold InI64; dsimp only; omega) (Tot.ret ⟨i+1,rfl,?_,?_,?_,?_,by omega⟩))
       ·rw [List.length_append,←hi]; rfl
       ·dsimp only; rw [List.length_set]; exact ha
       ·dsimp only; rw [Int.toNat_natCast,take_set_succ hia,htk]
       ·dsimp only; rw [Int.toNat_natCast,List.drop_set_of_lt (by omega)]; exact hdr'
      ·rw [if_neg e]
       exact Tot.ret ⟨i,rfl,hi,ha,htk,hdr',by omega⟩
     ·obtain ⟨i2,h1,h2,h3,h4,h5,h6⟩:=hv
      exact Tot.chk (by unfold InI64; dsimp only; omega) (Tot.inl ⟨⟨j+1,i2,rfl,hlt,h1,h2,h3,h4,h5,h6⟩,by show l.length+1 - ((j:Int)+1).toNat < l.length+1 - (j:Int).toNat; omega⟩)
    ·obtain rfl:j=l.length:=by omega
     rw [List.take_length] at htk hi
     refine Tot.ncond (by simp; omega) (Tot.out (Tot.ret ⟨by dsimp only; omega,by dsimp only; omega,by dsimp only; rw [Int.toNat_natCast]; exact htk⟩))
   ·rw [List.take_succ_eq_append_getElem hm,filter_snoc,if_neg (by simp [hp]),hfm,List.length_take]; omega
   ·rw [List.take_succ_eq_append_getElem hm,filter_snoc,if_neg (by simp [hp]),hfm]
  ·obtain ⟨i,a⟩:=v
   obtain ⟨h1,h2,h3⟩:=hv
   dsimp only at h1 h2 h3 ⊢
   refine Tot.chk ⟨h1,h2⟩ (Tot.chk ⟨h1,by simp; omega⟩ (Tot.ret ?_))
   rw [List.take_append_of_le_length (by rw [List.length_take]; omega),List.take_take,Nat.min_self]
   exact h3
noncomputable def restC (c:api_Chain) (D:List api_Disk) (sv:Int):List Int:=c.Servers.filter fun s=>!goesB D sv s
noncomputable def cutC (c:api_Chain) (D:List api_Disk) (sv:Int):api_Chain×List api_Disk×Int :=
 if sv∉c.Servers then (c,D,1) else if c.Ver≥1099511627776 then (c,D,76) else
 if (firstC ⟨c.Id,c.Ver,restC c D sv⟩ D).2=false then (c,D,260) else (⟨c.Id,c.Ver+1,restC c D sv⟩,layAll (newC c.Id (c.Ver+1) (firstC ⟨c.Id,c.Ver,restC c D sv⟩ D).1) D (restC c D sv),0)
theorem ChD.rest (h:ChD c D n) (v sv:Int):ChD ⟨c.Id,v,restC c D sv⟩ D n:=⟨h.f,fun s hs=>h.s s (List.mem_filter.1 hs).1,Nat.le_trans (List.length_filter_le _ _) h.n⟩
theorem first_len (h:ChD c D n) (hn:n≤300):(firstC c D).1.length≤1000:=by
 unfold firstC
 split
 ·rename_i s hs
  exact data_le h hn (h.s _ (List.mem_of_find?_eq_some hs))
 ·simp
theorem p_CutC (h:ChD c D n) (hn:n≤300) (hv:0≤c.Ver) (sv:Int):chain_Cut c D sv=some (cutC c D sv):=by
 refine Tot.eq ?_
 have hl:=h.n
 unfold chain_Cut cutC
 refine Tot.bindeq (p_Contains _ sv (by omega)) (Tot.ite (fun e=>Tot.ret (by rw [if_pos (show sv∉c.Servers by simpa using e)])) fun e=>?_)
 have e1:¬(sv∉c.Servers):=by simpa using e
 rw [if_neg e1]
 refine Tot.ite (fun e=>Tot.ret (by rw [if_pos (show c.Ver≥1099511627776 by simpa using e)])) fun e=>?_
 have hv2:¬c.Ver≥1099511627776:=by simpa using e
 rw [if_neg hv2]
 have hr:=h.rest c.Ver sv
 refine Tot.bindeq (p_Clone_int _ (by omega)) (Tot.bindeq (p_Delete _ sv (by omega) h.s) (Tot.bindeq (p_firstC hr hn) (Tot.ite (fun e=>Tot.ret ?_) fun e=>?_)))
 ·rw [if_pos (show (firstC ⟨c.Id,c.Ver,restC c D sv⟩ D).2=false by simpa [restC] using e)]
 rw [if_neg (show ¬(firstC ⟨c.Id,c.Ver,restC c D sv⟩ D).2=false by simpa [restC] using e)]
 have h2:=h.rest (c.Ver+1) sv
 have hfl:=first_len hr hn
 refine Tot.chk (by unfold InI64; omega) (Tot.bindeq (p_layingC h2 _ _) (Tot.bind (R:=(·=layAll (newC c.Id (c.Ver+1) (firstC ⟨c.Id,c.Ver,restC c D sv⟩ D).1) D (restC c D sv))) ?_ fun r hr=>Tot.ret (by rw [hr]; rfl)))
 unfold chain_Cut_L1
 have hl2:=h2.n
 dsimp only at hl2
 refine Tot.each (l:=restC c D sv) (fun k a=>a=layAll (newC c.Id (c.Ver+1) (firstC ⟨c.Id,c.Ver,restC c D sv⟩ D).1) D ((restC c D sv).take k)) (fun k s a hlt hs ha=>?_) (fun a ha=>?_) D rfl
 ·have hsS:=h2.mem hs
  have haS:isS a s:=by rw [ha]; exact layAll_isS.2 hsS
  have hf:FitD a (n+10):=by rw [ha]; exact h2.layT _ k
  unfold chain_Cut_B1
  exact Tot.cond (by simp; exact hlt) (Tot.bindeq (idx_some hs) (Tot.bindeq (p_lay1 hf (by omega) haS _ (by show (firstC ⟨c.Id,c.Ver,restC c D sv⟩ D).1.length≤10000; omega)) (Tot.chk (by unfold InI64; dsimp only; omega) (Tot.inl ⟨rfl,by rw [take_snoc hs,layAll_snoc,←ha]; rfl⟩))))
 ·unfold chain_Cut_B1
  exact Tot.ncond (by simp [restC]) (Tot.out (Tot.ret (by rw [List.take_length] at ha; exact ha)))
noncomputable def firstL (c:api_Chain) (D:List api_Disk) (l:List Int):List UInt8×Bool:=match l.find? (wholeB c D) with
 | some s=>(dataS c D s,true)
 | none=>([],false)
end
end Go.Proofs
