/- Shots, plain: snapshots stay. No condition. -/
import Derived.Test.YthkdflbnmbnbaaaGreatXShotStillP10y
namespace Go.Proofs
set_option linter.all false
open Go Go.Cat
set_option linter.all false
open Classical in
theorem had_sub {t:api_Tree} (h:RT t) {i:Int} {r:List api_Node×Bool} (hr:HadP (gN t.Nodes) i r):r.1.length≤200∧∀n,n∈r.1→n.Ents.length≤64:=by
 have hm:∀n,n∈r.1→n∈t.Nodes:=fun n hn=>(gN_some ((hr.2.1 n).1 hn).2).1
 have:r.1=t.Nodes.filter fun n=>decide (n∈r.1):=srt_ext hr.1 (filter_srt h.s _) fun n=>by
  rw [List.mem_filter,decide_eq_true_iff]
  exact ⟨fun a=>⟨hm n a,a⟩,fun a=>a.2⟩
 refine ⟨?_,fun n hn=>(h.en n (hm n hn)).n⟩
 rw [this]
 exact Nat.le_trans (List.length_filter_le _ _) h.len
theorem p_isIn (u:api_Shots) (x:api_Shot) (hl:u.Taken.length≤1000):law10N15 (flat u) x (false,0)=some (u.Taken.any fun y=>y.Id == x.Id):=by
 refine Tot.eq ?_
 unfold law10N15
 refine Tot.each' (l:=u.Taken) (fun k b=>b=(u.Taken.take k).any fun y=>y.Id == x.Id) (fun k y b hlt hy hb=>?_) (fun b hb=>?_) _ rfl
 ·unfold law10N9
  refine Tot.cond (by simpa [flat] using hlt) ?_
  dsimp only [flat]
  rw [bo (b:=y.Id == x.Id) (fun _=>by rw [idx_some hy]; rfl),Option.bind_some,Option.bind_some]
  exact Tot.chk (by unfold InI64; omega) (Tot.inl ⟨rfl,by rw [take_snoc hy,List.any_append,←hb]; simp⟩)
 ·unfold law10N9
  rw [List.take_length] at hb
  exact Tot.ncond (by simp [flat]) (Tot.out (Tot.ret hb))
theorem t_still {s u:api_Shots} (h:SI 60 s) (hj:SJ s) (hu:SI 80 u) (hju:SJ u) (hK:Keep s u):law10N10 s true (flat u)=some true:=by
 have hta:=h.ta; have hut:=hu.ta
 refine Tot.eq ?_
 unfold law10N10 law10N14
 refine Tot.each0 (l:=s.Taken) (fun _=>True) (fun k x hlt hx _=>?_) (fun _=>?_) trivial
 ·have hxm:=List.mem_of_getElem? hx
  obtain ⟨t,a1,a2,a3,a4⟩:=p_At_of h (by omega) hj hxm
  unfold law10N8
  refine Tot.cond (by simpa using hlt) (Tot.bindeq (idx_some hx) (Tot.bindeq (p_isIn u x (by omega)) (Tot.bind a4 fun r hr=>?_)))
  obtain ⟨r1,r2,w,r3⟩:=hr
  cases hb:(u.Taken.any fun y=>y.Id == x.Id) with
  | true =>
   obtain ⟨y,hy,hyx⟩:=List.any_eq_true.1 hb
   have hyx:y.Id=x.Id:=by simpa using hyx
   have hyk:y=x∧∀n,Seen u x.At n↔Seen s x.At n:=by
    rcases hK.2 y hy with g1 | ⟨g1,g2⟩
    ·have:=(h.ti x hxm).1; omega
    ·have e:y=x:=by
      rcases pair_mem h.id g1 hxm with h5 | h5 | h5
      ·exact h5
      ·omega
      ·omega
     rw [e] at g2; exact ⟨e,g2⟩
   obtain ⟨e,hsee⟩:=hyk
   subst e
   obtain ⟨t',b1,b2,b3,b4⟩:=p_At_of hu (by omega) hju hy
   have et:t.Nodes=t'.Nodes:=srt_ext a1.s b1.s fun n=>by rw [←a2,←b2]; exact (hsee n).symm
   refine Tot.bind (show Tot (shot_At u y.Id) _ from b4) fun q hq=>?_
   obtain ⟨q1,q2,w',q3⟩:=hq
   rw [←et] at q3
   have hl:=had_sub a1 r3
   have eq:r.2.1=q.2.1:=(Prod.mk.inj (HadP.eq r3 q3 fun _=>rfl)).1
   refine Tot.bindeq (a:=false) ?_ (Tot.ncond (by simp) ?_)
   ·rw [r1,r2,q1,q2]
    refine Tot.eq (Tot.bindeq (a:=false) (Tot.eq (Tot.ncond (by decide) (Tot.bindeq (a:=false) ?_ (Tot.ret rfl)))) (Tot.bindeq (a:=false) rfl (Tot.ret rfl)))
    refine Tot.eq (Tot.cond rfl (Tot.bindeq (a:=false) (by simp) (Tot.bindeq (a:=false) (Tot.eq (Tot.ncond (by simp) ?_)) (Tot.ret rfl))))
    exact Tot.bind (r_SameNodes r.2.1 q.2.1 (by have:=hl.1; dsimp only at this; omega) fun n hn=>by have:=hl.2 n hn; omega) fun c hc=>Tot.ret (by rw [hc.2 eq]; rfl)
   ·unfold law10N12
    exact Tot.chk (by unfold InI64; omega) (Tot.inl ⟨rfl,trivial⟩)
  | false =>
   have hno:∀y,y∈u.Taken→y.Id≠x.Id:=fun y hy e=>by
    have:=List.any_eq_false.1 hb y hy; simp [e] at this
   refine Tot.bindeq (show shot_At u x.Id=_ from p_At_no hu (by omega) hno) (Tot.bindeq (a:=false) ?_ (Tot.ncond (by simp) ?_))
   ·rw [r2]; rfl
   ·unfold law10N12
    exact Tot.chk (by unfold InI64; omega) (Tot.inl ⟨rfl,trivial⟩)
 ·unfold law10N8 law10N11
  exact Tot.ncond (by simp) (Tot.out (Tot.ret rfl))
theorem l_ShotStill (l more:List law10_Act):law10N6 l more=some true:=by
 refine Tot.eq ?_
 unfold law10N6
 refine Tot.bindeq p_head10 (Tot.bind (R:=fun r=>r=false→(l.length≤60∧∀a,a∈l→a.S.Data.length≤5000)∧(∀a,a∈more→a.S.Data.length≤5000)∧more.length≤20) (Tot.bind (r_Great l) fun g hg=>Tot.bind (R:=fun r=>r=false→(l.length≤60∧∀a,a∈l→a.S.Data.length≤5000)∧(∀a,a∈more→a.S.Data.length≤5000)) (Tot.ite (fun _=>Tot.ret fun e=>by cases e) fun e=>Tot.bind (r_Great more) fun g2 hg2=>Tot.ret fun e2=>⟨hg (by simpa using e),(hg2 e2).2⟩) fun c hc=>Tot.bind (R:=fun r=>r=false→(l.length≤60∧∀a,a∈l→a.S.Data.length≤5000)∧(∀a,a∈more→a.S.Data.length≤5000)∧more.length≤20) (Tot.ite (fun _=>Tot.ret fun e=>by cases e) fun e=>Tot.ret fun e2=>⟨(hc (by simpa using e)).1,(hc (by simpa using e)).2,by simp at e2; omega⟩) fun r hr=>Tot.ret hr) fun g hg=>Tot.ite (fun _=>Tot.ret rfl) fun e=>?_)
 obtain ⟨⟨hl,hd⟩,hd2,hl2⟩:=hg (by simpa using e)
 have h:=made_SI hl
 have hj:=made_SJ hl
 refine Tot.bindeq (r_Made hl hd) ?_
 generalize madeS l=s at *
 unfold law10N13
 refine Tot.each (l:=more) (fun n v=>∃u,v=flat u∧SI (60+n) u∧SJ u∧Keep s u) (fun n a v hlt ha hv=>?_) (fun v hv=>?_) (flat s) ⟨s,rfl,h,hj,.refl s⟩
 ·obtain ⟨u,rfl,h1,h2,h3⟩:=hv
  have g1:=h1.step (by omega) a
  have g2:=SJ.step h1 (by omega) h2 a
  have g3:=h3.trans (Keep.step h1 (by omega) h2 a)
  have hx:=g1.f.x; have hc:=g1.f.c; have htk:=g1.tk
  unfold law10N7
  refine Tot.cond (by simpa using hlt) (Tot.bindeq (idx_some ha) (Tot.bindeq (show law10_own u a=_ from p_StepS h1 (by omega) a (by have:=hd2 a (List.mem_of_getElem? ha); omega)) (Tot.bindeq (a:=false) ?_ (Tot.ncond (by simp) (Tot.chk (by unfold InI64; dsimp only; omega) (Tot.inl ⟨rfl,_,rfl,g1,g2,g3⟩))))))
  refine Tot.eq (Tot.bindeq (r_Right g2.rt (by omega) (by omega)) (Tot.bindeq (a:=false) (by rw [if_neg (by simp),decide_eq_false (by omega)]) (Tot.bindeq (a:=false) ?_ (Tot.ret rfl))))
  rw [if_neg (by simp),g1.si]; simp
 ·obtain ⟨u,rfl,h1,h2,h3⟩:=hv
  unfold law10N7
  refine Tot.ncond (by simp) (Tot.out ?_)
  exact Tot.of (t_still h hj (h1.up (by omega)) h2 h3)
end Go.Proofs
