/- Shots, plain: a tree that is put. No condition. -/
import Derived.Test.YthkdflbnmbnbaaaGreatXShotRightP10f
namespace Go.Proofs
set_option linter.all false
open Go Go.Cat
set_option linter.all false
open Classical in
noncomputable def pastK (s:api_Shots) (t:api_Tree) (p:api_Node×Int):Bool:=decide (gN t.Nodes p.1.Ino≠some p.1)&&seesB s.Taken p.2 (s.Tick+1)
noncomputable def pastsP (s:api_Shots) (t:api_Tree):List api_Past:=((s.Now.Nodes.zip s.Since).filter (pastK s t)).map fun p=>⟨p.2,s.Tick+1,p.1⟩
open Classical in
noncomputable def sinceOf (s:api_Shots) (n:api_Node):Int:=match s.Now.Nodes.findIdx? (fun m=>decide (m=n)) with | some k=>(s.Since[k]?).getD 0 | none=>s.Tick+1
open Classical in
noncomputable def putS (s:api_Shots) (t:api_Tree):api_Shots:=if s.Now=t then s else ⟨t,s.Tick+1,t.Nodes.map (sinceOf s),s.Pasts++pastsP s t,s.Taken,s.Next⟩
open Classical in
theorem since_at {s:api_Shots} (hs:SrtN s.Now.Nodes) {k:Nat} {n:api_Node} (hn:s.Now.Nodes[k]?=some n):sinceOf s n=(s.Since[k]?).getD 0:=by
 unfold sinceOf
 have:s.Now.Nodes.findIdx? (fun m=>decide (m=n))=some k:=by
  rw [List.findIdx?_eq_some_iff_getElem]
  obtain ⟨h1,h2⟩:=List.getElem?_eq_some_iff.1 hn
  refine ⟨h1,by simpa using h2,fun j hj=>?_⟩
  have:=srt_lt hs (List.getElem?_eq_getElem (show j < s.Now.Nodes.length by omega)) hn hj
  simp only [decide_eq_true_eq]
  intro e; rw [e] at this; omega
 rw [this]
open Classical in
theorem since_no {s:api_Shots} {n:api_Node} (hn:n∉s.Now.Nodes):sinceOf s n=s.Tick+1:=by
 unfold sinceOf
 have:s.Now.Nodes.findIdx? (fun m=>decide (m=n))=none:=by
  rw [List.findIdx?_eq_none_iff]
  intro x hx
  simp only [decide_eq_false_iff_not]
  intro e; exact hn (e▸hx)
 rw [this]
theorem zip_at {l:List api_Node} {m:List Int} {k:Nat} {p:api_Node×Int} (h:(l.zip m)[k]?=some p):l[k]?=some p.1∧m[k]?=some p.2:=by
 rw [List.getElem?_zip_eq_some] at h; exact h
structure PF (B:Nat) (s:api_Shots) (t:api_Tree):Prop where
 f:TF B s.Now
 ft:TF B t
 b:B≤90000
 so:SrtN s.Now.Nodes
 st:SrtN t.Nodes
 si:s.Since.length=s.Now.Nodes.length
 tk:0≤s.Tick∧s.Tick≤1000000
 ps:s.Pasts.length≤1000000
 ta:s.Taken.length≤1000000
section
variable {B:Nat} {s:api_Shots} {t:api_Tree}
theorem PF.zl (h:PF B s t):(s.Now.Nodes.zip s.Since).length=s.Now.Nodes.length:=by rw [List.length_zip,h.si]; omega
open Classical in
theorem r_pasts (h:PF B s t):ref10N8 s t (0,[]++s.Pasts)=some (s.Pasts++pastsP s t):=by
 have h1:=h.f.n; have h2:=h.ft.n; have h3:=h.b; have h4:=h.tk; have h5:=h.ps; have h6:=h.ta; have hz:=h.zl
 refine Tot.eq ?_
 unfold ref10N8 pastsP
 rw [←hz] at h1
 refine Tot.each (l:=s.Now.Nodes.zip s.Since) (fun k a=>a=s.Pasts++(((s.Now.Nodes.zip s.Since).take k).filter (pastK s t)).map fun p=>⟨p.2,s.Tick+1,p.1⟩) (fun k p a hlt hp ha=>?_) (fun a ha=>?_) _ (by simp)
 ·obtain ⟨hx,hq⟩:=zip_at hp
  have hal:a.length≤1000000+k:=by
   rw [ha,List.length_append,List.length_map]
   have:=List.length_filter_le (pastK s t) ((s.Now.Nodes.zip s.Since).take k)
   rw [List.length_take] at this; omega
  unfold ref10N5
  refine Tot.cond (by simp; omega) ?_
  dsimp only
  refine Tot.bind (R:=(·=s.Pasts++(((s.Now.Nodes.zip s.Since).take (k+1)).filter (pastK s t)).map fun p=>⟨p.2,s.Tick+1,p.1⟩)) ?_ fun v hv=>Tot.chk (by unfold InI64; omega) (Tot.inl ⟨rfl,hv⟩)
  rw [take_snoc hp,List.filter_append,List.map_append,←List.append_assoc,←ha]
  refine Tot.bindeq (idx_some hx) (Tot.bindeq (r_Get t _ (by omega)) ?_)
  refine Tot.bind (R:=Tells (gN t.Nodes p.1.Ino=some p.1)) (Tot.bind (R:=Tells (gN t.Nodes p.1.Ino=some p.1)) ?_ fun r hr=>Tot.ret hr) fun r hr=>?_
  ·dsimp only
   unfold gD
   cases hg:gN t.Nodes p.1.Ino with
   | none=>exact Tot.ncond (by simp) (Tot.ret (Tells.no (by simp)))
   | some m =>
    refine Tot.cond rfl (Tot.bind (r_SameNode p.1 m (Nat.le_trans (h.f.e _ (List.mem_of_getElem? hx)) (by omega))) fun r hr=>Tot.ret (hr.trans ?_))
    simp [eq_comm]
  ·refine Tot.ite (fun e=>Tot.ret ?_) fun e=>Tot.bindeq (idx_some hq) (Tot.bindeq (r_wanted _ _ _ (by omega)) (Tot.ite (fun e2=>Tot.bindeq (idx_some hq) (Tot.chk (by simp only [List.length_cons,List.length_nil]; omega) (Tot.ret ?_))) fun e2=>Tot.ret ?_))
   ·have hk:pastK s t p=false:=by unfold pastK; rw [decide_eq_false (by rw [hr.1 e]; simp)]; rfl
    rw [List.filter_cons,hk]; simp
   ·have hk:pastK s t p=true:=by unfold pastK; rw [decide_eq_true (show gN t.Nodes p.1.Ino≠some p.1 from fun h=>e (hr.2 h)),e2]; rfl
    rw [List.filter_cons,hk]; simp
   ·have hk:pastK s t p=false:=by unfold pastK; rw [Bool.not_eq_true] at e2; rw [e2,Bool.and_false]
    rw [List.filter_cons,hk]; simp
 ·unfold ref10N5
  rw [List.take_length] at ha
  exact Tot.ncond (by rw [hz]; simp) (Tot.out (Tot.ret ha))
open Classical in
theorem p_pasts (h:PF B s t):shot_Put_L1 s t (0,s.Pasts)=some (s.Pasts++pastsP s t):=by
 have h1:=h.f.n; have h2:=h.ft.n; have h3:=h.b; have h4:=h.tk; have h5:=h.ps; have h6:=h.ta; have hz:=h.zl
 refine Tot.eq ?_
 unfold shot_Put_L1 pastsP
 rw [←hz] at h1
 refine Tot.each (l:=s.Now.Nodes.zip s.Since) (fun k a=>a=s.Pasts++(((s.Now.Nodes.zip s.Since).take k).filter (pastK s t)).map fun p=>⟨p.2,s.Tick+1,p.1⟩) (fun k p a hlt hp ha=>?_) (fun a ha=>?_) _ (by simp)
 ·obtain ⟨hx,hq⟩:=zip_at hp
  have hal:a.length≤1000000+k:=by
   rw [ha,List.length_append,List.length_map]
   have:=List.length_filter_le (pastK s t) ((s.Now.Nodes.zip s.Since).take k)
   rw [List.length_take] at this; omega
  unfold shot_Put_B1
  refine Tot.cond (by simp; omega) ?_
  dsimp only
  refine Tot.bind (R:=(·=s.Pasts++(((s.Now.Nodes.zip s.Since).take (k+1)).filter (pastK s t)).map fun p=>⟨p.2,s.Tick+1,p.1⟩)) ?_ fun v hv=>Tot.chk (by unfold InI64; omega) (Tot.inl ⟨rfl,hv⟩)
  rw [take_snoc hp,List.filter_append,List.map_append,←List.append_assoc,←ha]
  refine Tot.bindeq (idx_some hx) (Tot.bindeq (p_find h.st (by omega) _) ?_)
  refine Tot.bind (R:=(·=pastK s t p)) (Tot.bind (R:=Tells (gN t.Nodes p.1.Ino≠some p.1)) ?_ fun r hr=>Tot.bind (R:=(·=pastK s t p)) ?_ fun r hr=>Tot.ret hr) fun r hr=>?_
  ·rw [oI_neg]
   cases hg:t.Nodes.findIdx? (fun n=>n.Ino == p.1.Ino) with
   | none=>exact Tot.cond rfl (Tot.ret (Tells.yes (by unfold gN; rw [find_no hg]; simp)))
   | some j =>
    obtain ⟨m,hm,hf,-⟩:=find_at hg
    refine Tot.ncond (by simp) ?_
    show Tot ((idx t.Nodes (j:Int)).bind _) _
    refine Tot.bindeq (idx_some hm) (Tot.bind (r_node0 p.1 m (Nat.le_trans (h.f.e _ (List.mem_of_getElem? hx)) (by omega))) fun r hr=>Tot.ret ((Tells.not hr).trans ?_))
    unfold gN; rw [hf]; simp [eq_comm]
  ·unfold pastK
   refine Tot.ite (fun e=>Tot.bindeq (idx_some hq) (Tot.bindeq (p_seen _ _ _ (by omega)) (Tot.ret ?_))) fun e=>Tot.ret ?_
   ·rw [decide_eq_true (hr.1 e)]; rfl
   ·rw [decide_eq_false (fun h=>e (hr.2 h))]; rfl
  ·subst hr
   refine Tot.ite (fun e=>Tot.bindeq (idx_some hq) (Tot.chk (by simp only [List.length_cons,List.length_nil]; omega) (Tot.ret ?_))) fun e=>Tot.ret ?_
   ·rw [List.filter_cons,e]; simp
   ·rw [Bool.not_eq_true] at e; rw [List.filter_cons,e]; simp
 ·unfold shot_Put_B1
  rw [List.take_length] at ha
  exact Tot.ncond (by rw [hz]; simp) (Tot.out (Tot.ret ha))
open Classical in
theorem r_sinces (h:PF B s t):ref10N9 t s (0,[])=some (t.Nodes.map (sinceOf s)):=by
 have h1:=h.f.n; have h2:=h.ft.n; have h3:=h.b; have h4:=h.tk
 refine Tot.eq ?_
 unfold ref10N9
 refine Tot.each (l:=t.Nodes) (fun k a=>a=(t.Nodes.take k).map (sinceOf s)) (fun k n a hlt hn ha=>?_) (fun a ha=>?_) _ rfl
 ·have hal:a.length≤k:=by rw [ha,List.length_map,List.length_take]; omega
  unfold ref10N6
  refine Tot.cond (by simp; omega) ?_
  dsimp only
  refine Tot.bind (R:=(·=a++[sinceOf s n])) (Tot.bind (R:=(·=sinceOf s n)) ?_ fun v hv=>Tot.chk (by simp only [List.length_cons,List.length_nil]; omega) (Tot.ret (by rw [hv]))) fun v hv=>Tot.chk (by unfold InI64; omega) (Tot.inl ⟨rfl,by rw [hv,take_snoc hn,List.map_append,←ha]; rfl⟩)
  unfold ref10N10
  refine Tot.each' (l:=s.Now.Nodes) (fun j x=>x=if n∈s.Now.Nodes.take j then sinceOf s n else s.Tick+1) (fun j m x hlt2 hm hx=>?_) (fun x hx=>?_) _ (by simp)
  ·unfold ref10N7
   refine Tot.cond (by simp; omega) ?_
   dsimp only
   have hq:=List.getElem?_eq_getElem (show j < s.Since.length by rw [h.si]; omega)
   refine Tot.bind (R:=(·=if n∈s.Now.Nodes.take (j+1) then sinceOf s n else s.Tick+1)) (Tot.bindeq (idx_some hm) (Tot.bindeq (idx_some hn) (Tot.bind (r_SameNode m n (Nat.le_trans (h.f.e _ (List.mem_of_getElem? hm)) (by omega))) fun r hr=>?_))) fun v hv=>Tot.chk (by unfold InI64; omega) (Tot.inl ⟨rfl,hv⟩)
   rw [take_snoc hm]
   refine Tot.ite (fun e=>Tot.bindeq (idx_some hq) (Tot.ret ?_)) fun e=>Tot.ret ?_
   ·have e:=hr.1 e
    rw [if_pos (by rw [e]; simp),since_at h.so (by rw [←e]; exact hm),hq]; rfl
   ·have e:m≠n:=fun h=>e (hr.2 h)
    rw [hx]
    by_cases hmem:n∈s.Now.Nodes.take j
    ·rw [if_pos hmem,if_pos (by simp [hmem])]
    ·rw [if_neg hmem,if_neg (by simp [hmem,e.symm])]
  ·unfold ref10N7
   rw [List.take_length] at hx
   refine Tot.ncond (by simp) (Tot.out (Tot.ret ?_))
   dsimp only
   rw [hx]
   split
   ·rfl
   ·next hno=>rw [since_no hno]
 ·unfold ref10N6
  rw [List.take_length] at ha
  exact Tot.ncond (by simp) (Tot.out (Tot.ret ha))
theorem p_sinces (h:PF B s t):shot_Put_L2 t s (0,[])=some (t.Nodes.map (sinceOf s)):=by
 have h1:=h.f.n; have h2:=h.ft.n; have h3:=h.b; have h4:=h.tk
 refine Tot.eq ?_
 unfold shot_Put_L2
 refine Tot.each (l:=t.Nodes) (fun k a=>a=(t.Nodes.take k).map (sinceOf s)) (fun k n a hlt hn ha=>?_) (fun a ha=>?_) _ rfl
 ·have hal:a.length≤k:=by rw [ha,List.length_map,List.length_take]; omega
  unfold shot_Put_B2
  refine Tot.cond (by simp; omega) ?_
  dsimp only
  refine Tot.bindeq (idx_some hn) ?_
  refine Tot.bind (R:=(·=sinceOf s n)) ?_ fun v hv=>Tot.chk (by simp only [List.length_cons,List.length_nil]; omega) (Tot.chk (by unfold InI64; omega) (Tot.inl ⟨rfl,by rw [hv,take_snoc hn,List.map_append,←ha]; rfl⟩))
  refine Tot.bindeq (p_find h.so (by omega) _) ?_
  rw [oI_pos]
  cases hg:s.Now.Nodes.findIdx? (fun m=>m.Ino == n.Ino) with
  | none =>
   refine Tot.bind (R:=(·=false)) (Tot.bind (R:=(·=false)) (Tot.ncond (by simp) (Tot.ret rfl)) fun r hr=>Tot.ret hr) fun r hr=>Tot.ncond (by rw [hr]; simp) (Tot.ret ?_)
   rw [List.findIdx?_eq_none_iff] at hg
   exact (since_no fun hm=>by simpa using hg n hm).symm
  | some j =>
   obtain ⟨m,hm,-,hp⟩:=find_at hg
   have hj:=(getR hm).1
   have hq:=List.getElem?_eq_getElem (show j < s.Since.length by rw [h.si]; omega)
   refine Tot.bind (R:=Tells (n=m)) (Tot.bind (R:=Tells (n=m)) (Tot.cond (by simp) ?_) fun r hr=>Tot.ret hr) fun r hr=>?_
   ·show Tot ((idx s.Now.Nodes (j:Int)).bind _) _
    exact Tot.bindeq (idx_some hm) (Tot.bind (r_node0 n m (Nat.le_trans (h.ft.e _ (List.mem_of_getElem? hn)) (by omega))) fun r hr=>Tot.ret hr)
   ·refine Tot.ite (fun e=>?_) fun e=>Tot.ret ?_
    ·show Tot ((idx s.Since (j:Int)).bind _) _
     refine Tot.bindeq (idx_some hq) (Tot.ret ?_)
     rw [since_at h.so (by rw [hr.1 e]; exact hm),hq]; rfl
    ·refine (since_no fun hmem=>e (hr.2 ?_)).symm
     exact srt_uniq h.so hmem (List.mem_of_getElem? hm) (by simp only [beq_iff_eq] at hp; exact hp.symm)
 ·unfold shot_Put_B2
  rw [List.take_length] at ha
  exact Tot.ncond (by simp) (Tot.out (Tot.ret ha))
theorem r_PutS (h:PF B s t):ref10_Put s t=some (putS s t):=by
 have h3:=h.b; have h4:=h.tk; have h5:=h.ps
 refine Tot.eq ?_
 unfold ref10_Put putS
 refine Tot.bind (r_SameT h.f (by omega)) fun r hr=>Tot.ite (fun e=>Tot.ret (by rw [if_pos (hr.1 e)])) fun e=>?_
 rw [if_neg (fun h=>e (hr.2 h))]
 exact Tot.chk (by unfold InI64; omega) (Tot.chk (by simp; omega) (Tot.bindeq (r_pasts h) (Tot.bindeq (r_sinces h) (Tot.ret rfl))))
theorem p_PutS (h:PF B s t):shot_Put s t=some (putS s t):=by
 have h3:=h.b; have h4:=h.tk; have h5:=h.ps
 refine Tot.eq ?_
 unfold shot_Put putS
 refine Tot.bind (p_SameT h.f (by omega)) fun r hr=>Tot.ite (fun e=>Tot.ret (by rw [if_pos (hr.1 e)])) fun e=>?_
 rw [if_neg (fun h=>e (hr.2 h))]
 exact Tot.chk (by unfold InI64; omega) (Tot.bindeq (eq_slicesN1 _ (by omega)) (Tot.bindeq (p_pasts h) (Tot.bindeq (p_sinces h) (Tot.ret rfl))))
end
end Go.Proofs
