/- Shots, plain: what stands below, and what is taken. No condition. -/
import Derived.Test.YthkdflbnmbnbaaaGreatXShotTakenP10u
namespace Go.Proofs
set_option linter.all false
open Go Go.Cat
set_option linter.all false
def uS:List api_Node→List Bool→Nat
 | n::l,b::m=>(if b then 0 else n.Ents.length+1)+uS l m
 | _,_=>0
theorem uS_set:∀{l:List api_Node} {m:List Bool} {k:Nat} {n:api_Node},l[k]?=some n→m[k]?=some false→uS l (m.set k true)+(n.Ents.length+1)=uS l m
 | [],_,_,_,h,_=>by simp at h
 | _::_,[],_,_,_,h=>by simp at h
 | x::l,b::m,0,n,h1,h2=>by
  simp only [List.length_cons,Nat.zero_lt_succ,List.getElem?_eq_getElem,List.getElem_cons_zero,Option.some.injEq] at h1 h2
  subst h1 h2
  simp [uS]; omega
 | x::l,b::m,k+1,n,h1,h2=>by
  have ih:=uS_set (l:=l) (m:=m) (k:=k) (n:=n) (by simpa using h1) (by simpa using h2)
  simp only [List.set_cons_succ,uS]; omega
theorem uS_le:∀{l:List api_Node} {m:List Bool} (B:Nat),(∀n,n∈l→n.Ents.length≤B)→uS l m≤l.length * (B+1)
 | [],_,B,_=>by simp [uS]
 | _::_,[],B,_=>by simp [uS]
 | x::l,b::m,B,h=>by
  have ih:=uS_le (l:=l) (m:=m) B fun n hn=>h n (List.mem_cons_of_mem _ hn)
  have hx:=h x (by simp)
  simp only [uS,List.length_cons,Nat.succ_mul]
  split <;> omega
structure UI (l:List api_Node) (i:Int) (s:Int×List Bool×List Int):Prop where
 n:s.2.1.length=l.length
 c:0≤s.1∧s.1≤s.2.2.length
 q:∀x,x∈s.2.2→Rch (gN l) i x
 q0:i∈s.2.2
 m:∀(k:Nat) n,l[k]?=some n→s.2.1[k]?=some true→Rch (gN l) i n.Ino∧∀e,e∈n.Ents→e.Ino∈s.2.2
 d:∀(j:Nat) x,(j:Int) < s.1→s.2.2[j]?=some x→∃(k:Nat) (n:api_Node),l[k]?=some n∧n.Ino=x∧s.2.1[k]?=some true
 b:s.2.2.length+uS l s.2.1≤1+l.length * 65
theorem p_under {t:api_Tree} (h:RT t) {i:Int} (hi:(gN t.Nodes i).isSome=true):Tot (ref10_under t.Nodes i) (fun r=>r.1.length=t.Nodes.length∧∀(k:Nat) n,t.Nodes[k]?=some n→(r.1[k]?=some true↔Rch (gN t.Nodes) i n.Ino)):=by
 have hlen:=h.len
 unfold ref10_under
 refine Tot.chk ⟨by omega,by simp; omega⟩ ?_
 rw [Int.toNat_natCast]
 unfold ref10_under_L1
 refine Tot.loop (fun s=>UI t.Nodes i s) (fun s=>(s.2.2.length - s.1.toNat)+uS t.Nodes s.2.1) ?_ _ ⟨by simp,by simp,fun x hx=>?_,by simp,fun k n _ hk=>?_,fun j x hj=>by dsimp only at hj; omega,?_⟩
 ·rintro ⟨c,inn,q⟩ hu
  obtain ⟨u1,u2,u3,u4,u5,u6,u7⟩:=hu
  dsimp only at u1 u2 u3 u4 u5 u6 u7
  obtain ⟨c,rfl⟩:∃c':Nat,c=c':=⟨c.toNat,by omega⟩
  unfold ref10_under_B1
  dsimp only
  by_cases hc:c < q.length
  ·have hx:=List.getElem?_eq_getElem hc
   generalize q[c]=x at hx
   have hxr:=u3 x (List.mem_of_getElem? hx)
   obtain ⟨n,hn⟩:=Option.isSome_iff_exists.1 (RT.rch h hxr hi)
   have hnm:=gN_some hn
   obtain ⟨k,hk⟩:=memR hnm.1
   have hkl:=(getR hk).1
   refine Tot.cond (by simpa using hc) (Tot.bindeq (idx_some hx) (Tot.bindeq (r_Get ⟨t.Nodes,0,0⟩ x (by show t.Nodes.length≤_; omega)) ?_))
   dsimp only
   rw [gD_of hn,hn]
   refine Tot.ncond (by simp) (Tot.bind (R:=(·=(k:Int))) ?_ fun v hv=>?_)
   ·unfold ref10_under_L2
    refine Tot.loop (fun s:Int=>∃j:Nat,s=j∧j≤k) (fun s=>k - s.toNat) ?_ _ ⟨0,rfl,Nat.zero_le _⟩
    rintro s ⟨j,rfl,hj⟩
    have hjl:=List.getElem?_eq_getElem (show j < t.Nodes.length by omega)
    unfold ref10_under_B2
    refine Tot.bindeq (idx_some hjl) (Tot.ite (fun e=>Tot.chk (by unfold InI64; omega) (Tot.inl ⟨⟨j+1,rfl,?_⟩,?_⟩)) fun e=>Tot.out (Tot.ret ?_))
    ·rcases Nat.lt_or_ge j k with h1 | h1
     ·exact h1
     ·have:j=k:=by omega
      subst this
      rw [hk] at hjl; rw [←Option.some.inj hjl] at e; simp at e
    ·have:j≠k:=fun h1=>by
      subst h1
      rw [hk] at hjl; rw [←Option.some.inj hjl] at e; simp at e
     omega
    ·rcases Nat.lt_or_ge j k with h1 | h1
     ·have:=srt_lt h.s hjl hk h1
      exact absurd (by simp; omega) e
     ·have:j=k:=by omega
      rw [this]
   ·subst hv
    have hin:=List.getElem?_eq_getElem (show k < inn.length by omega)
    refine Tot.bindeq (idx_some hin) (Tot.ite (fun e=>?_) fun e=>?_)
    ·have hin2:inn[k]?=some true:=by rw [hin,e]
     unfold ref10_under_J2
     refine Tot.chk (by unfold InI64; dsimp only; omega) (Tot.inl ⟨⟨u1,by dsimp only; omega,u3,u4,u5,fun j y hj hy=>?_,u7⟩,by dsimp only; omega⟩)
     rcases Nat.lt_or_ge j c with h1 | h1
     ·exact u6 j y (by omega) hy
     ·have:j=c:=by dsimp only at hj; omega
      subst this
      rw [show ((_,inn,q):Int×List Bool×List Int).2.2=q from rfl,hx] at hy; cases hy
      exact ⟨k,n,hk,hnm.2,hin2⟩
    ·have hin:inn[k]?=some false:=by rw [hin]; simpa using e
     have hus:=uS_set hk hin
     have hne:=(h.en n hnm.1).n
     refine Tot.bindeq (idx_some hin) ?_
     refine Tot.mono (Q:=fun r=>r=.inl ((c:Int)+1,inn.set k true,q++n.Ents.map (·.Ino))) ?_ ?_
     ·unfold ref10_under_L3
      refine Tot.each (l:=n.Ents) (fun j a=>a=q++(n.Ents.take j).map (·.Ino)) (fun j e a hlt he ha=>?_) (fun a ha=>?_) _ (by simp)
      ·have hal:a.length≤q.length+j:=by rw [ha]; simp; omega
       unfold ref10_under_B3
       exact Tot.cond (by simpa using hlt) (Tot.bindeq (idx_some he) (Tot.chk (by simp only [List.length_cons,List.length_nil]; omega) (Tot.chk (by unfold InI64; omega) (Tot.inl ⟨rfl,by rw [take_snoc he,List.map_append,←List.append_assoc,←ha]; rfl⟩))))
      ·rw [List.take_length] at ha
       unfold ref10_under_B3 ref10_under_J2
       refine Tot.ncond (by simp) (Tot.out (Tot.chk (by unfold InI64; dsimp only; omega) (Tot.ret ?_)))
       dsimp only
       rw [ha,Int.toNat_natCast]
     ·rintro r rfl
      refine ⟨⟨by simp [u1],by dsimp only; rw [List.length_append]; omega,fun y hy=>?_,List.mem_append_left _ u4,fun k' n' hk' hm'=>?_,fun j y hj hy=>?_,?_⟩,?_⟩
      ·rcases List.mem_append.1 hy with hy | hy
       ·exact u3 y hy
       ·obtain ⟨e',he',rfl⟩:=List.mem_map.1 hy
        exact .step hxr hn he'
      ·by_cases hkk:k'=k
       ·subst hkk
        rw [hk] at hk'; cases hk'
        exact ⟨by rw [hnm.2]; exact hxr,fun e' he'=>List.mem_append_right _ (List.mem_map.2 ⟨e',he',rfl⟩)⟩
       ·dsimp only at hm'
        rw [List.getElem?_set_ne (Ne.symm hkk)] at hm'
        obtain ⟨h1,h2⟩:=u5 k' n' hk' hm'
        exact ⟨h1,fun e' he'=>List.mem_append_left _ (h2 e' he')⟩
      ·dsimp only at hj hy ⊢
       rcases Nat.lt_or_ge j c with h1 | h1
       ·rw [List.getElem?_append_left (by omega)] at hy
        obtain ⟨k',n',g1,g2,g3⟩:=u6 j y (by omega) hy
        refine ⟨k',n',g1,g2,?_⟩
        by_cases hkk:k'=k
        ·subst hkk; rw [hin] at g3; cases g3
        ·rw [List.getElem?_set_ne (Ne.symm hkk)]; exact g3
       ·have:j=c:=by omega
        subst this
        rw [List.getElem?_append_left hc,hx] at hy; cases hy
        exact ⟨k,n,hk,hnm.2,by rw [List.getElem?_set_self (by omega)]⟩
      ·dsimp only
       rw [List.length_append,List.length_map]; omega
      ·dsimp only
       rw [List.length_append,List.length_map]; omega
  ·have hce:c=q.length:=by omega
   refine Tot.ncond (by simp; omega) (Tot.out ?_)
   unfold ref10_under_J1
   refine Tot.ret ⟨u1,fun k n hk=>⟨fun hm=>(u5 k n hk hm).1,fun hr=>?_⟩⟩
   have key:∀j,Rch (gN t.Nodes) i j→∃(k:Nat) (n:api_Node),t.Nodes[k]?=some n∧n.Ino=j∧inn[k]?=some true:=by
    have hq:∀x,x∈q→∃(k:Nat) (n:api_Node),t.Nodes[k]?=some n∧n.Ino=x∧inn[k]?=some true:=fun x hx=>by
     obtain ⟨j,hj⟩:=memR hx
     exact u6 j x (by have:=(getR hj).1; omega) hj
    intro j hj
    induction hj with
    | refl=>exact hq i u4
    | @step j n' e h1 h2 h3 ih =>
     obtain ⟨k',n'',g1,g2,g3⟩:=ih
     have:n''=n':=srt_uniq h.s (List.mem_of_getElem? g1) (gN_some h2).1 (by rw [g2,(gN_some h2).2])
     subst this
     exact hq _ ((u5 k' n'' g1 g3).2 e h3)
   obtain ⟨k',n',g1,g2,g3⟩:=key _ hr
   have hkk:k'=k:=by
    have:n'=n:=srt_uniq h.s (List.mem_of_getElem? g1) (List.mem_of_getElem? hk) g2
    subst this
    rcases Nat.lt_trichotomy k' k with h1 | h1 | h1
    ·have:=srt_lt h.s g1 hk h1; omega
    ·exact h1
    ·have:=srt_lt h.s hk g1 h1; omega
   rw [←hkk]; exact g3
 ·obtain rfl:=List.mem_singleton.1 hx; exact .refl
 ·dsimp only at hk
  rw [List.getElem?_replicate] at hk
  split at hk <;> cases hk
 ·have:=uS_le (l:=t.Nodes) (m:=List.replicate t.Nodes.length false) 64 fun n hn=>(h.en n hn).n
  dsimp only
  simp only [List.length_cons,List.length_nil]; omega
theorem p_Below {t:api_Tree} (h:RT t) {i:Int} (hi:(gN t.Nodes i).isSome=true):Tot (ref10_Below t i) (fun r=>SrtN r∧∀n,n∈r↔n∈t.Nodes∧Rch (gN t.Nodes) i n.Ino):=by
 have hlen:=h.len
 unfold ref10_Below
 refine Tot.bind (p_under h hi) fun x hx=>?_
 obtain ⟨h1,h2⟩:=hx
 have hz:(t.Nodes.zip x.1).length=t.Nodes.length:=by rw [List.length_zip,h1]; omega
 refine Tot.bind (R:=(·=((t.Nodes.zip x.1).filter (·.2)).map (·.1))) ?_ fun v hv=>Tot.ret ?_
 ·unfold ref10_Below_L1
  refine Tot.each (l:=t.Nodes.zip x.1) (fun k a=>a=(((t.Nodes.zip x.1).take k).filter (·.2)).map (·.1)) (fun k p a hlt hp ha=>?_) (fun a ha=>?_) _ rfl
  ·have hp':=hp
   rw [List.getElem?_zip_eq_some] at hp'
   have hal:a.length≤k:=by
    rw [ha,List.length_map]
    exact Nat.le_trans (List.length_filter_le _ _) (by rw [List.length_take]; omega)
   unfold ref10_Below_B1
   refine Tot.cond (by simp; omega) ?_
   dsimp only
   rw [idx_some hp'.2,Option.bind_some]
   refine Tot.bind (R:=(·=(((t.Nodes.zip x.1).take (k+1)).filter (·.2)).map (·.1))) ?_ fun v hv=>Tot.chk (by unfold InI64; omega) (Tot.inl ⟨rfl,hv⟩)
   rw [take_snoc hp,List.filter_append,List.map_append,←ha,List.filter_cons]
   refine Tot.ite (fun e=>Tot.bindeq (idx_some hp'.1) (Tot.chk (by simp only [List.length_cons,List.length_nil]; omega) (Tot.ret ?_))) fun e=>Tot.ret ?_
   ·rw [if_pos e]; rfl
   ·rw [if_neg e]; simp
  ·unfold ref10_Below_B1
   rw [List.take_length] at ha
   exact Tot.ncond (by rw [hz]; simp) (Tot.out (Tot.ret ha))
 ·subst hv
  refine ⟨?_,fun n=>?_⟩
  ·unfold SrtN
   rw [List.pairwise_map]
   refine List.Pairwise.filter _ ?_
   rw [List.pairwise_iff_getElem]
   intro a b ha hb hab
   have e1:=List.getElem?_zip_eq_some.1 (List.getElem?_eq_getElem ha)
   have e2:=List.getElem?_zip_eq_some.1 (List.getElem?_eq_getElem hb)
   exact srt_lt h.s e1.1 e2.1 hab
  ·rw [List.mem_map]
   constructor
   ·rintro ⟨p,hp,rfl⟩
    obtain ⟨g1,g2⟩:=List.mem_filter.1 hp
    obtain ⟨k,hk⟩:=memR g1
    rw [List.getElem?_zip_eq_some] at hk
    exact ⟨List.mem_of_getElem? hk.1,(h2 k p.1 hk.1).1 (by rw [hk.2,g2])⟩
   ·rintro ⟨g1,g2⟩
    obtain ⟨k,hk⟩:=memR g1
    have:=(h2 k n hk).2 g2
    exact ⟨(n,true),List.mem_filter.2 ⟨List.mem_of_getElem? (List.getElem?_zip_eq_some.2 ⟨hk,this⟩),rfl⟩,rfl⟩
end Go.Proofs
