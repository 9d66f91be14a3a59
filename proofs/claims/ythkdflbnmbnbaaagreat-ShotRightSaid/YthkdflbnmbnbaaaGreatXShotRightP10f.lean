/- Shots, plain: found by halves, seen, and put. No condition. -/
import Derived.Test.YthkdflbnmbnbaaaGreatXShotRightP10e
namespace Go.Proofs
set_option linter.all false
open Go Go.Cat
set_option linter.all false
theorem cmpI_eq {x y:Int}:(cmpI x y == 0)=true↔x=y:=by unfold cmpI; split <;> (try split) <;> simp <;> omega
theorem mid_eq (a b:Nat) (h:a+b≤1000000000000):IntKind.i64.wrap (shrK .u64 (IntKind.u64.wrap ((a:Int)+(b:Int))) 1)=(((a+b) / 2:Nat):Int):=by
 have e1:(a:Int)+(b:Int)=((a+b:Nat):Int):=by omega
 rw [e1,wrap_nat rfl (by show a+b < 2 ^ 64; omega)]
 have e2:shrK .u64 ((a+b:Nat):Int) 1=(((a+b) >>> 1:Nat):Int):=shr64 (b:=1) (by decide)
 rw [e2,Nat.shiftRight_eq_div_pow]
 exact IntWalk.i64_in _ ⟨by omega,by omega⟩
theorem srt_lt {l:List api_Node} (h:SrtN l) {j k:Nat} {x y:api_Node} (hx:l[j]?=some x) (hy:l[k]?=some y) (hjk:j < k):x.Ino < y.Ino:=by
 obtain ⟨h1,rfl⟩:=List.getElem?_eq_some_iff.1 hx
 obtain ⟨h2,rfl⟩:=List.getElem?_eq_some_iff.1 hy
 exact List.pairwise_iff_getElem.1 h j k h1 h2 hjk
theorem p_bs {l:List api_Node} (hs:SrtN l) (hl:l.length≤1000000) (i:Int):Tot (slicesN1 l i) (fun r=>0≤r.1∧(if r.2=true then r.1 else -1)=oI (l.findIdx? (fun n=>n.Ino == i))):=by
 unfold slicesN1 slicesN5
 refine Tot.bind (R:=fun v:Int=>∃k:Nat,v=k∧k≤l.length∧(∀j x,j < k→l[j]?=some x→x.Ino < i)∧(∀j x,k≤j→l[j]?=some x→i≤x.Ino)) ?_ fun v hv=>?_
 ·refine Tot.loop (fun s:Int×Int=>∃a b:Nat,s=((a:Int),(b:Int))∧a≤b∧b≤l.length∧(∀j x,j < a→l[j]?=some x→x.Ino < i)∧(∀j x,b≤j→l[j]?=some x→i≤x.Ino)) (fun s=>(s.2 - s.1).toNat) ?_ _ ⟨0,l.length,rfl,by omega,by omega,fun j x h=>by omega,fun j x h hx=>by rw [List.getElem?_eq_none (by omega)] at hx; cases hx⟩
  rintro s ⟨a,b,rfl,hab,hb,hlo,hhi⟩
  unfold slicesN3
  dsimp only
  by_cases hlt:a < b
  ·refine Tot.cond (by simpa using hlt) (Tot.chk (by unfold InI64; omega) ?_)
   rw [mid_eq a b (by omega)]
   have hm:(a+b) / 2 < l.length:=by omega
   have hx:=List.getElem?_eq_getElem hm
   refine Tot.bindeq (idx_some hx) (Tot.bindeq (a:=cmpI l[(a+b) / 2].Ino i) (by unfold shot_find_1; rw [t_cmpI]; rfl) ?_)
   refine Tot.ite (fun e=>Tot.chk (by unfold InI64; omega) (Tot.inl ⟨⟨(a+b) / 2+1,b,rfl,by omega,hb,fun j x hj hjx=>?_,hhi⟩,by dsimp only; omega⟩)) fun e=>Tot.inl ⟨⟨a,(a+b) / 2,rfl,by omega,by omega,hlo,fun j x hj hjx=>?_⟩,by dsimp only; omega⟩
   ·have hc:l[(a+b) / 2].Ino < i:=cmpI_lt.1 (by simpa using e)
    rcases Nat.lt_or_ge j ((a+b) / 2) with h | h
    ·have:=srt_lt hs hjx hx h; omega
    ·have:j=(a+b) / 2:=by omega
     subst this; rw [hx] at hjx; cases hjx; exact hc
   ·have hc:¬l[(a+b) / 2].Ino < i:=fun h=>e (by simpa using cmpI_lt.2 h)
    rcases Nat.lt_or_ge ((a+b) / 2) j with h | h
    ·have:=srt_lt hs hx hjx h; omega
    ·have:j=(a+b) / 2:=by omega
     subst this; rw [hx] at hjx; cases hjx; omega
  ·have:a=b:=by omega
   subst this
   exact Tot.ncond (by simp) (Tot.out (Tot.ret ⟨a,rfl,hb,hlo,hhi⟩))
 ·obtain ⟨k,rfl,hk,hlo,hhi⟩:=hv
  by_cases hkl:k < l.length
  ·have hx:=List.getElem?_eq_getElem hkl
   refine Tot.bind (R:=(·=(cmpI l[k].Ino i == 0))) (Tot.bind (R:=(·=(cmpI l[k].Ino i == 0))) (Tot.cond (by simpa using hkl) (Tot.bindeq (idx_some hx) (Tot.bindeq (a:=cmpI l[k].Ino i) (by unfold shot_find_1; rw [t_cmpI]; rfl) (Tot.ret rfl)))) fun r hr=>Tot.ret hr) fun r hr=>Tot.ret ?_
   subst hr
   dsimp only
   refine ⟨Int.natCast_nonneg k,?_⟩
   by_cases he:l[k].Ino=i
   ·rw [if_pos (cmpI_eq.2 he)]
    have:l.findIdx? (fun n=>n.Ino == i)=some k:=by
     rw [List.findIdx?_eq_some_iff_getElem]
     refine ⟨hkl,by simpa using he,fun j hj=>?_⟩
     have:=hlo j _ hj (List.getElem?_eq_getElem (by omega))
     simp; omega
    rw [this]; rfl
   ·rw [if_neg (fun h=>he (cmpI_eq.1 h))]
    have:l.findIdx? (fun n=>n.Ino == i)=none:=by
     rw [List.findIdx?_eq_none_iff]
     intro x hx'
     obtain ⟨j,hj⟩:=memR hx'
     rcases Nat.lt_trichotomy j k with h | h | h
     ·have:=hlo j x h hj; simp; omega
     ·subst h; rw [hx] at hj; cases hj; simpa using he
     ·have:=srt_lt hs hx hj h; have:=hhi k _ (Nat.le_refl _) hx; simp; omega
    rw [this]; rfl
  ·refine Tot.bind (R:=(·=false)) (Tot.bind (R:=(·=false)) (Tot.ncond (by simpa using hkl) (Tot.ret rfl)) fun r hr=>Tot.ret hr) fun r hr=>Tot.ret ?_
   subst hr
   dsimp only
   refine ⟨Int.natCast_nonneg k,?_⟩
   have:l.findIdx? (fun n=>n.Ino == i)=none:=by
    rw [List.findIdx?_eq_none_iff]
    intro x hx'
    obtain ⟨j,hj⟩:=memR hx'
    have:=hlo j x (by have:=(getR hj).1; omega) hj; simp; omega
   rw [this]; rfl
theorem p_find {l:List api_Node} (hs:SrtN l) (hl:l.length≤1000000) (i:Int):shot_find l i=some (oI (l.findIdx? (fun n=>n.Ino == i))):=by
 refine Tot.eq ?_
 unfold shot_find
 refine Tot.bind (p_bs hs hl i) fun r hr=>?_
 obtain ⟨k,b⟩:=r
 cases b with
 | true=>exact Tot.ncond (by simp) (Tot.ret hr.2)
 | false=>exact Tot.cond rfl (Tot.ret hr.2)
theorem p_gat {t:api_Tree} (hs:SrtN t.Nodes) (hl:t.Nodes.length≤1000000) (i:Int):Tot (treeN13 ⟨t⟩ i) (fun r=>r.2=⟨t⟩∧0≤r.1.1∧(if r.1.2=true then r.1.1 else -1)=oI (t.Nodes.findIdx? (fun n=>n.Ino == i))):=by
 unfold treeN13
 show Tot ((slicesN1 t.Nodes i).bind _) _
 exact Tot.bind (p_bs hs hl i) fun r hr=>Tot.ret ⟨rfl,hr⟩
theorem p_gget {t:api_Tree} (hs:SrtN t.Nodes) (hl:t.Nodes.length≤1000000) (i:Int):treeN28 ⟨t⟩ i=some ((gD t.Nodes i,(gN t.Nodes i).isSome),⟨t⟩):=by
 refine Tot.eq ?_
 unfold treeN28
 refine Tot.bind (p_gat hs hl i) fun r hr=>?_
 obtain ⟨⟨k,b⟩,g⟩:=r
 obtain ⟨rfl,hk,hr⟩:=hr
 dsimp only at hk hr ⊢
 unfold gD gN
 cases h:t.Nodes.findIdx? (fun n=>n.Ino == i) with
 | none =>
  rw [h] at hr; rw [find_no h]
  cases b with
  | false=>exact Tot.cond rfl (Tot.ret rfl)
  | true=>rw [if_pos rfl] at hr; have:k=-1:=hr; omega
 | some n =>
  obtain ⟨x,hx,hf,-⟩:=find_at h
  rw [h] at hr; rw [hf]
  cases b with
  | false=>rw [if_neg (by simp)] at hr; have:(-1:Int)=(n:Int):=hr; omega
  | true =>
   rw [if_pos rfl] at hr
   have:k=(n:Int):=hr
   subst this
   exact Tot.ncond (by simp) (Tot.bindeq (idx_some hx) (Tot.ret rfl))
theorem p_Get {t:api_Tree} (hs:SrtN t.Nodes) (hl:t.Nodes.length≤1000000) (i:Int):tree_Get t i=some (gD t.Nodes i,(gN t.Nodes i).isSome):=by
 unfold tree_Get
 rw [p_gget hs hl]; rfl
def seesB (l:List api_Shot) (f u:Int):Bool:=l.any fun x=>decide (x.At≥f)&&decide (x.At < u)
theorem r_wanted (l:List api_Shot) (f u:Int) (hl:l.length≤1000000):ref10N20 l f u=some (seesB l f u):=by
 unfold ref10N20 ref10N23 seesB
 refine loop_has (l:=l) _ (fun n x hx hn=>?_) ?_
 ·unfold ref10N21
  rw [if_pos (by simpa using hn),idx_some hx,Option.bind_some]
  rw [ba (b:=decide (x.At < u)) (fun _=>by rw [Option.bind_some]),Option.bind_some,Option.bind_some,chk_pos (by unfold InI64; omega)]
  rfl
 ·unfold ref10N21; rw [if_neg (by simp)]; rfl
theorem p_seen (l:List api_Shot) (f u:Int) (hl:l.length≤1000000):shot_seen l f u=some (seesB l f u):=by
 unfold shot_seen slicesN19 slicesN44 slicesN49
 rw [loop_find (b:=l) (fun x=>decide (x.At≥f)&&decide (x.At < u)) (fun n _=>(n:Int)) (-1)]
 ·rw [Option.bind_some,Option.bind_some]
  refine congrArg some ?_
  unfold seesB
  cases h:l.findIdx? (fun x=>decide (x.At≥f)&&decide (x.At < u)) with
  | none =>
   rw [List.findIdx?_eq_none_iff] at h
   symm
   show _=false
   rw [List.any_eq_false]; intro x hx; simpa using h x hx
  | some n =>
   obtain ⟨x,hx,-,hp⟩:=find_at h
   rw [List.any_eq_true.2 ⟨x,List.mem_of_getElem? hx,hp⟩]
   simp only [hx]
   simp
 ·intro n x hx hn
  unfold slicesN46 shot_seen_1
  rw [if_pos (by simpa using hn),idx_some hx,Option.bind_some]
  rw [ba (b:=decide (x.At < u)) (fun _=>rfl),Option.bind_some,Option.bind_some,Option.bind_some,chk_pos (by unfold InI64; omega)]
  rfl
 ·unfold slicesN46; rw [if_neg (by simp)]; rfl
end Go.Proofs
