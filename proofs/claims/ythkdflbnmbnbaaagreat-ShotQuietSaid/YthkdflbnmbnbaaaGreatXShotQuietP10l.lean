/- Shots, plain: quiet. No condition. -/
import Derived.Test.YthkdflbnmbnbaaaGreatXShotQuietP10i
namespace Go.Proofs
set_option linter.all false
open Go Go.Cat
set_option linter.all false
section
variable {k:Nat} {s:api_Shots}
theorem put_self (s:api_Shots):putS s s.Now=s:=by unfold putS; rw [if_pos rfl]
theorem put_now (s:api_Shots) (t:api_Tree):(putS s t).Now=t:=by unfold putS; split; assumption; rfl
theorem put_taken (s:api_Shots) (t:api_Tree):(putS s t).Taken=s.Taken∧(putS s t).Next=s.Next:=by unfold putS; split <;> exact ⟨rfl,rfl⟩
theorem SI.pfs (h:SI k s) (hk:k≤200):PF (2+5 * k) s s.Now :=
 ⟨h.f,h.f,by omega,h.t.s,h.t.s,h.si,by have:=h.tk; omega,by have:=h.ps; omega,by have:=h.ta; omega⟩
theorem l_ShotQuiet (l:List law10_Act) (a:law07_Step):law10_ShotQuiet l a=some true:=by
 refine Tot.eq ?_
 unfold law10_ShotQuiet
 refine Tot.bindeq p_head10 (Tot.bind (R:=fun r=>r=false→(l.length≤60∧∀a,a∈l→a.S.Data.length≤5000)∧a.Data.length≤5000) (Tot.bind (r_Great l) fun g hg=>Tot.bind (R:=fun r=>r=false→(l.length≤60∧∀a,a∈l→a.S.Data.length≤5000)∧a.Data.length≤5000) (Tot.ite (fun _=>Tot.ret fun e=>by cases e) fun e=>Tot.ret fun e2=>⟨hg (by simpa using e),by simp at e2; omega⟩) fun r hr=>Tot.ret hr) fun g hg=>Tot.ite (fun _=>Tot.ret rfl) fun e=>?_)
 obtain ⟨⟨hl,hd⟩,ha⟩:=hg (by simpa using e)
 have h:=made_SI hl
 refine Tot.bindeq (r_Made hl hd) ?_
 generalize madeS l=s at *
 refine Tot.bind (r_DoneT h.f (by omega) a (by omega)) fun x4 hx4=>?_
 have hu:=h.put (by omega) a
 have hpf:=h.pf (by omega) a
 have htf:=h.f.done a
 rw [hx4]
 generalize doneT s.Now a=t at *
 refine Tot.bindeq (p_PutS hpf) ?_
 have hnow:=put_now s t
 have hta:=put_taken s t
 have hsi:(putS s t).Since.length=t.Nodes.length:=by have:=hu.si; rw [hnow] at this; exact this
 refine Tot.bindeq (a:=false) ?_ (Tot.ncond (by simp) ?_)
 ·refine Tot.eq ?_
  refine Tot.bindeq (p_PutS (h.pfs (by omega))) ?_
  rw [put_self]
  refine Tot.bind (h.same (by omega) s) fun r hr=>?_
  have hr:r=true:=hr.2 rfl
  subst hr
  refine Tot.bindeq (a:=false) ?_ ?_
  ·refine Tot.eq (Tot.ncond (by simp) ?_)
   have:=hu.pfs (by omega)
   rw [hnow] at this
   refine Tot.bindeq (p_PutS this) ?_
   have e:=put_self (putS s t)
   rw [hnow] at e
   rw [e]
   refine Tot.bind (hu.same (by omega) (putS s t)) fun r hr=>Tot.ret (by rw [hr.2 rfl]; rfl)
  ·refine Tot.bindeq (a:=false) (Tot.eq (Tot.ncond (by simp) ?_)) ?_
   ·rw [hnow]
    exact Tot.bind (r_SameT (a:=t) (b:=t) htf (by omega)) fun r hr=>Tot.ret (by rw [hr.2 rfl]; rfl)
   ·rw [hsi,hta.1,hta.2]
    simp only [bne_self_eq_false,Bool.false_eq_true,if_false,Option.bind_some]
    exact Tot.ret rfl
 refine Tot.bind (r_SameT (a:=t) (b:=s.Now) htf (by omega)) fun r hr=>?_
 refine Tot.ite (fun e=>?_) fun e=>?_
 ·have e:=hr.1 e
  refine Tot.bind (R:=(·=true)) (Tot.bind (R:=(·=true)) (Tot.cond rfl ?_) fun r hr=>Tot.ret hr) fun r hr=>Tot.ret hr
  refine Tot.bind (hu.same (by omega) s) fun r hr=>Tot.ret (hr.2 ?_)
  rw [e]; exact put_self s
 ·have e:¬s.Now=t:=fun h=>e (hr.2 h.symm)
  have hp:putS s t=⟨t,s.Tick+1,t.Nodes.map (sinceOf s),s.Pasts++pastsP s t,s.Taken,s.Next⟩:=by unfold putS; rw [if_neg e]
  rw [hp] at *
  have hn:=h.f.n; have hn2:=htf.n; have htk:=h.tk
  unfold law10_ShotQuiet_L1
  refine Tot.each0 (l:=t.Nodes) (fun _=>True) (fun n x hlt hx _=>?_) (fun _=>?_) trivial
  ·unfold law10_ShotQuiet_B1
   rw [hx4]
   refine Tot.cond (by simpa using hlt) (Tot.bindeq (idx_some hx) (Tot.bindeq (r_Get _ _ (by omega)) ?_))
   refine Tot.bind (R:=Tells (gN s.Now.Nodes x.Ino=some x)) (Tot.bind (R:=Tells (gN s.Now.Nodes x.Ino=some x)) ?_ fun r hr=>Tot.ret hr) fun r hr=>?_
   ·dsimp only
    unfold gD
    cases hg:gN s.Now.Nodes x.Ino with
    | none=>exact Tot.ncond (by simp) (Tot.ret (Tells.no (by simp)))
    | some m =>
     refine Tot.cond rfl (Tot.bindeq (idx_some hx) (Tot.bind (r_SameNode m x (Nat.le_trans (h.f.e _ (gN_some hg).1) (by omega))) fun r hr=>Tot.ret (hr.trans ?_)))
     simp
   ·have hq:(t.Nodes.map (sinceOf s))[n]?=some (sinceOf s x):=by rw [List.getElem?_map,hx]; rfl
    refine Tot.bindeq (idx_some hq) (Tot.ncond ?_ (Tot.chk (by unfold InI64; omega) (Tot.inl ⟨rfl,trivial⟩)))
    dsimp only
    by_cases hg:gN s.Now.Nodes x.Ino=some x
    ·obtain ⟨j,hj⟩:=memR (gN_some hg).1
     have hlt2:j < s.Since.length:=by rw [h.si]; exact (getR hj).1
     have hs1:=h.sn _ (List.getElem_mem hlt2)
     have:sinceOf s x=s.Since[j]:=by rw [since_at h.t.s hj,List.getElem?_eq_getElem hlt2]; rfl
     rw [this,hr.2 hg]
     have:(s.Since[j] == s.Tick+1)=false:=by simp; omega
     rw [this]; simp
    ·have hrf:r=false:=by cases r with | false=>rfl | true=>exact absurd (hr.1 rfl) hg
     rw [hrf,since_no fun hm=>hg (gN_mem h.t.s hm)]
     simp
  ·unfold law10_ShotQuiet_B1 law10_ShotQuiet_J1
   rw [hx4]
   refine Tot.ncond (by simp) (Tot.out ?_)
   refine Tot.bind (R:=(·=true)) (Tot.bind (R:=(·=true)) (Tot.cond rfl (Tot.chk (by unfold InI64; omega) (Tot.ret ?_))) fun r hr=>Tot.ret hr) fun r hr=>Tot.ret hr
   simp
end
end Go.Proofs
