/- Shots, plain: what is made is right. No condition. -/
import Derived.Test.YthkdflbnmbnbaaaGreatXShotRightP10C
namespace Go.Proofs
set_option linter.all false
open Go Go.Cat
set_option linter.all false
def CI (l:List api_Node) (n:api_Node) (E:List api_Ent) (m i:List (Int×Int)) (b:Nat):Prop :=
 (∀c,(mget c m).getD 0=((cnt l c+cE E c:Nat):Int))∧(∀c v,mget c i=some v→(∃p,p∈l∧p.Ino=v∧0 < cE p.Ents c)∨(n.Ino=v∧0 < cE E c))∧(∀c,0 < cnt l c+cE E c→(mget c i).isSome=true)∧m.length≤b∧i.length≤b
section
variable {t:api_Tree}
theorem p_counted (h:RT t) (hx:t.Next≤100000):Tot (treeN16 ⟨t⟩) (fun r=>(∀c,(mget c r.1).getD 0=(cnt t.Nodes c:Int))∧(∀c v,mget c r.2=some v→∃p,p∈t.Nodes∧p.Ino=v∧0 < cE p.Ents c)∧∀c,0 < cnt t.Nodes c→(mget c r.2).isSome=true):=by
 have hlen:=h.len
 have h64:∀n,n∈t.Nodes→n.Ents.length≤64:=fun n hn=>(h.en n hn).n
 unfold treeN16
 refine Tot.bind (R:=fun r:List (Int×Int)×List (Int×Int)=>CI t.Nodes nod0 [] r.1 r.2 20000) ?_ fun r hr=>Tot.ret ⟨fun c=>by rw [hr.1]; rfl,fun c v hv=>?_,fun c hc=>hr.2.2.1 c (by omega)⟩
 ·unfold treeN22
  refine Tot.each (l:=t.Nodes) (fun k v=>CI (t.Nodes.take k) nod0 [] v.1 v.2 (64 * k)) (fun k n v hlt hn hv=>?_) (fun v hv=>?_) ([],[]) ⟨fun c=>rfl,fun c v hv=>(by cases hv),fun c hc=>(by simp [cnt,cE] at hc),Nat.zero_le _,Nat.zero_le _⟩
  ·obtain ⟨m,i⟩:=v
   have hnm:=List.mem_of_getElem? hn
   have hne:=h64 n hnm
   unfold treeN18
   refine Tot.cond (by simpa using hlt) ?_
   dsimp only
   refine Tot.bind (R:=fun v:List (Int×Int)×List (Int×Int)=>CI (t.Nodes.take k) n n.Ents v.1 v.2 (64 * k+64)) (Tot.bindeq (idx_some hn) ?_) fun v hv=>Tot.chk (by unfold InI64; omega) (Tot.inl ⟨rfl,?_⟩)
   ·unfold treeN24
    refine Tot.mono (Q:=fun v:List (Int×Int)×List (Int×Int)=>CI (t.Nodes.take k) n n.Ents v.1 v.2 (64 * k+n.Ents.length)) ?_ fun v hv=>⟨hv.1,hv.2.1,hv.2.2.1,by have:=hv.2.2.2.1; omega,by have:=hv.2.2.2.2; omega⟩
    refine Tot.each (l:=n.Ents) (fun j v=>CI (t.Nodes.take k) n (n.Ents.take j) v.1 v.2 (64 * k+j)) (fun j e v hlt2 he hv=>?_) (fun v hv=>?_) _ ?_
    ·obtain ⟨m,i⟩:=v
     obtain ⟨c1,c2,c3,c4,c5⟩:=hv
     dsimp only at c1 c2 c3 c4 c5
     have hem:=List.mem_of_getElem? he
     have hcb:=cnt_le e.Ino (t.Nodes.take k) fun p hp=>h64 p (List.mem_of_mem_take hp)
     have hce:=cE_le (n.Ents.take j) e.Ino
     rw [List.length_take] at hcb hce
     obtain ⟨q,hq⟩:=Option.isSome_iff_exists.1 (h.cl n hnm e hem)
     have hqm:=gN_some hq
     have hlo:=h.lo q hqm.1
     rw [hqm.2] at hlo
     have hone:∀c,cE [e] c=if c=e.Ino then 1 else 0:=fun c=>by
      by_cases hc:c=e.Ino
      ·simp [cE,hc]
      ·have:¬e.Ino=c:=fun h=>hc h.symm
       simp [cE,hc,this]
     unfold treeN20
     refine Tot.cond (by simpa using hlt2) (Tot.bindeq (idx_some he) (Tot.bindeq (a:=((cnt (t.Nodes.take k) e.Ino+cE (n.Ents.take j) e.Ino:Nat):Int)) (by rw [c1]) (Tot.chk (by unfold InI64; omega) (Tot.chk ⟨by unfold InI64; omega,by dsimp only; omega⟩ (Tot.chk ⟨by unfold InI64; omega,by dsimp only; omega⟩ (Tot.chk (by unfold InI64; omega) (Tot.inl ⟨rfl,?_⟩)))))))
     dsimp only
     refine ⟨fun c=>?_,fun c v hv=>?_,fun c hc=>?_,Nat.le_trans (mset_len _ _ _) (by omega),Nat.le_trans (mset_len _ _ _) (by omega)⟩
     ·rw [mget_set,take_snoc he,cE_app,hone]
      by_cases hc:c=e.Ino
      ·rw [if_pos hc,if_pos hc,hc]
       simp only [Option.getD_some]; omega
      ·rw [if_neg hc,if_neg hc,c1]; rfl
     ·rw [mget_set] at hv
      rw [take_snoc he,cE_app,hone]
      by_cases hc:c=e.Ino
      ·rw [if_pos hc] at hv; cases hv
       exact .inr ⟨rfl,by rw [if_pos hc]; omega⟩
      ·rw [if_neg hc] at hv
       rcases c2 c v hv with h1 | ⟨h1,h2⟩
       ·exact .inl h1
       ·exact .inr ⟨h1,by omega⟩
     ·rw [mget_set]
      by_cases hc2:c=e.Ino
      ·rw [if_pos hc2]; rfl
      ·rw [if_neg hc2]
       rw [take_snoc he,cE_app,hone,if_neg hc2] at hc
       exact c3 c (by omega)
    ·unfold treeN20
     rw [List.take_length] at hv
     exact Tot.ncond (by simp) (Tot.out (Tot.ret hv))
    ·obtain ⟨c1,c2,c3,c4,c5⟩:=hv
     refine ⟨c1,fun c v hv=>?_,c3,by omega,by omega⟩
     rcases c2 c v hv with h1 | ⟨_,h2⟩
     ·exact .inl h1
     ·simp [cE] at h2
   ·obtain ⟨c1,c2,c3,c4,c5⟩:=hv
    have e:∀c,cnt (t.Nodes.take (k+1)) c=cnt (t.Nodes.take k) c+cE n.Ents c:=fun c=>by
     rw [take_snoc hn,cnt_app]; simp [cnt]
    refine ⟨fun c=>by rw [c1,e]; rfl,fun c v hv=>?_,fun c hc=>c3 c (by rw [e] at hc; simpa [cE] using hc),by omega,by omega⟩
    rw [take_snoc hn]
    rcases c2 c v hv with ⟨p,hp,h1,h2⟩ | ⟨h1,h2⟩
    ·exact .inl ⟨p,List.mem_append_left _ hp,h1,h2⟩
    ·exact .inl ⟨n,by simp,h1,h2⟩
  ·unfold treeN18
   rw [List.take_length] at hv
   refine Tot.ncond (by simp) (Tot.out (Tot.ret ⟨hv.1,hv.2.1,hv.2.2.1,by have:=hv.2.2.2.1; dsimp only; omega,by have:=hv.2.2.2.2; dsimp only; omega⟩))
 ·rcases hr.2.1 c v hv with h1 | ⟨_,h2⟩
  ·exact h1
  ·simp [cE] at h2
theorem p_RightT (h:RT t) (hx:t.Next≤100000) (hc:t.Cookie≤100000) (hN:NM t):tree_Right t=some true:=by
 have hlen:=h.len
 have hck:=h.ck
 obtain ⟨r,hr,hrk⟩:=h.rt
 have hrm:=gN_some hr
 obtain ⟨j,hj⟩:=memR hrm.1
 have h0:t.Nodes[0]?=some r:=by
  rcases Nat.eq_zero_or_pos j with e | e
  ·rw [←e]; exact hj
  ·have hl:=List.getElem?_eq_getElem (show 0 < t.Nodes.length by have:=(getR hj).1; omega)
   have:=srt_lt h.s hl hj e
   have:=h.lo _ (List.mem_of_getElem? hl); omega
 have hl0:=(getR h0).1
 refine Tot.eq ?_
 unfold tree_Right
 refine Tot.bindeq (a:=false) ?_ (Tot.ncond (by simp) ?_)
 ·refine Tot.eq (Tot.bindeq (a:=false) (by rw [if_neg (by simp; omega),decide_eq_false (by omega)]) (Tot.bindeq (a:=false) (Tot.eq (Tot.ncond (by simp) (Tot.bindeq (idx_some (n:=0) h0) (Tot.ret (by rw [hrm.2]; rfl))))) (Tot.bindeq (a:=false) (Tot.eq (Tot.ncond (by simp) (Tot.bindeq (idx_some (n:=0) h0) (Tot.ret (by rw [hrk]; rfl))))) (Tot.bindeq (a:=false) (by rw [if_neg (by simp),decide_eq_false (by omega)]) (Tot.bindeq (a:=false) (by rw [if_neg (by simp),decide_eq_false (by omega)]) (Tot.bindeq (a:=false) (by rw [if_neg (by simp),decide_eq_false (by omega)]) (Tot.ret rfl)))))))
 unfold treeN8
 refine Tot.each0 (l:=t.Nodes) (fun _=>True) (fun k n hlt hn _=>?_) (fun _=>?_) trivial
 ·have hnm:=List.mem_of_getElem? hn
  have hlo:=h.lo n hnm
  have h64:=(h.en n hnm).n
  unfold treeN1
  refine Tot.cond (by simpa using hlt) (Tot.bindeq (idx_some hn) (Tot.bindeq (a:=false) ?_ (Tot.ncond (by simp) (Tot.chk (by unfold InI64; omega) (Tot.inl ⟨rfl,trivial⟩)))))
  refine Tot.eq (Tot.bindeq (a:=false) ?_ (Tot.bindeq (a:=false) (by rw [if_neg (by simp),decide_eq_false (by omega)]) (Tot.bindeq (a:=false) (by rw [if_neg (by simp),decide_eq_false (by omega)]) (Tot.ret rfl))))
  by_cases hk:k=0
  ·subst hk; rfl
  ·have hp:=List.getElem?_eq_getElem (show k - 1 < t.Nodes.length by omega)
   have hb:=srt_lt h.s hp hn (by omega)
   rw [if_pos (by simp; omega),chk_pos (by unfold InI64; omega),show (k:Int) - 1=((k - 1:Nat):Int) by omega,idx_some hp,Option.bind_some,decide_eq_false (by omega)]
 ·unfold treeN1
  refine Tot.ncond (by simp) (Tot.out ?_)
  unfold treeN5
  refine Tot.bind (p_counted h hx) fun x hxc=>?_
  obtain ⟨g1,g2,g3⟩:=hxc
  unfold treeN10
  refine Tot.each (l:=t.Nodes) (fun _ v=>v=(t.Nodes,t.Next,t.Cookie)) (fun k n v hlt hn hv=>?_) (fun v hv=>?_) _ rfl
  ·subst hv
   have hnm:=List.mem_of_getElem? hn
   unfold treeN3
   refine Tot.cond (by simpa using hlt) (Tot.bindeq (idx_some hn) (Tot.bindeq (a:=(cnt t.Nodes n.Ino:Int)) (by rw [g1]) (Tot.bindeq rfl (Tot.bindeq (a:=(true,⟨t⟩)) ?_ (Tot.ncond (by simp) (Tot.chk (by unfold InI64; omega) (Tot.inl ⟨rfl,rfl⟩)))))))
   refine p_fits h hc hN hnm _ fun hk h1=>?_
   rcases W.dir h hnm hk with hd | hd
   ·exact absurd hd.1 h1
   ·have hc1:cnt t.Nodes n.Ino=1:=hd.2.1
    obtain ⟨v,hv⟩:=Option.isSome_iff_exists.1 (g3 n.Ino (by omega))
    rw [hv]
    obtain ⟨p,hp,hpv,hpc⟩:=g2 _ _ hv
    obtain ⟨e,he,hei⟩:=cE_pos.1 hpc
    have:=W.parent h hp he (by rw [hei]; exact gN_mem h.s hnm) hk
    show v=n.Up
    rw [this,hpv]
  ·unfold treeN3 treeN7
   exact Tot.ncond (by simp) (Tot.out (Tot.ret rfl))
end
theorem p_RightS {k:Nat} {s:api_Shots} (h:SI k s) (hk:k≤180) (hj:SJ s) (h16:s.Taken.length≤16) (hN:NM s.Now):shot_Right s=some true:=by
 have hx:=h.f.x; have hc:=h.f.c; have htk:=h.tk; have hnx:=h.nx
 refine Tot.eq ?_
 unfold shot_Right
 refine Tot.bindeq (a:=false) ?_ (Tot.ncond (by simp) (Tot.bindeq (a:=false) ?_ (Tot.ncond (by simp) (Tot.of (p_hads h hk hj)))))
 ·refine Tot.eq (Tot.bindeq (p_RightT hj.rt (by omega) (by omega) hN) (Tot.bindeq (a:=false) (by rw [if_neg (by simp),decide_eq_false (by omega)]) (Tot.bindeq (a:=false) (by rw [if_neg (by simp),decide_eq_false (by omega)]) (Tot.bindeq (a:=false) (by rw [if_neg (by simp),h.si]; simp) (Tot.bindeq (a:=false) (by rw [if_neg (by simp),decide_eq_false (by omega)]) (Tot.bindeq (a:=false) (by rw [if_neg (by simp),decide_eq_false (by omega)]) (Tot.ret rfl)))))))
 ·refine Tot.eq (Tot.bindeq (p_since h hk) (Tot.bindeq (a:=false) (Tot.eq (Tot.ncond (by simp) (Tot.bindeq (p_taken h hk hj h16) (Tot.ret rfl)))) (Tot.bindeq (a:=false) (Tot.eq (Tot.ncond (by simp) (Tot.bindeq (p_pastsR h hk hj) (Tot.ret rfl)))) (Tot.ret rfl))))
theorem step_err (s:api_Shots) (a:law10_Act) (he:(stepS s a).2.2≠0):(stepS s a).1=s∧(stepS s a).2.1=0:=by
 unfold stepS at *
 split
 ·next h1 =>
  rw [if_pos h1] at he
  unfold takeS at *
  split
  ·exact ⟨rfl,rfl⟩
  ·next h2 =>
   rw [if_neg h2] at he
   split
   ·exact ⟨rfl,rfl⟩
   ·next h3 =>
    rw [if_neg h3] at he
    split
    ·exact ⟨rfl,rfl⟩
    ·next h4=>rw [if_neg h4] at he; exact absurd rfl he
 ·next h1 =>
  rw [if_neg h1] at he
  split
  ·next h2 =>
   rw [if_pos h2] at he
   unfold dropS at *
   split
   ·exact ⟨rfl,rfl⟩
   ·next h3=>rw [if_neg h3] at he; exact absurd rfl he
  ·next h2=>rw [if_neg h2] at he; exact absurd rfl he
theorem step_tick (s:api_Shots) (a:law10_Act):s.Tick≤(stepS s a).1.Tick∧(stepS s a).1.Tick≤s.Tick+1:=by
 unfold stepS
 split
 ·unfold takeS
  split
  ·dsimp only; omega
  split
  ·dsimp only; omega
  split
  ·dsimp only; omega
  ·dsimp only; omega
 split
 ·unfold dropS; split <;> (dsimp only; omega)
 ·dsimp only
  unfold putS; split
  ·omega
  ·dsimp only; omega
theorem l_ShotRight (l:List law10_Act) (a:law10_Act):law10N6 l a=some true:=by
 refine Tot.eq ?_
 unfold law10N6
 refine Tot.bindeq p_head10 (Tot.bind (R:=fun r=>r=false→(l.length≤60∧∀a,a∈l→a.S.Data.length≤5000)∧a.S.Data.length≤5000) (Tot.bind (r_Great l) fun g hg=>Tot.bind (R:=fun r=>r=false→(l.length≤60∧∀a,a∈l→a.S.Data.length≤5000)∧a.S.Data.length≤5000) (Tot.ite (fun _=>Tot.ret fun e=>by cases e) fun e=>Tot.bind (r_Great [a]) fun g2 hg2=>Tot.ret fun e2=>⟨hg (by simpa using e),(hg2 e2).2 a (by simp)⟩) fun r hr=>Tot.ret hr) fun g hg=>Tot.ite (fun _=>Tot.ret rfl) fun e=>?_)
 obtain ⟨⟨hl,hd⟩,ha⟩:=hg (by simpa using e)
 have h:=made_SI hl
 have hj:=made_SJ hl
 have h16:=made16 l
 have hN:=made_NM l
 refine Tot.bindeq (r_Made hl hd) ?_
 generalize madeS l=s at *
 refine Tot.bindeq (p_StepS h (by omega) a (by omega)) (Tot.ite (fun e=>?_) fun e=>?_)
 ·obtain ⟨e1,e2⟩:=step_err s a (by simpa using e)
  rw [e1,e2]
  refine Tot.bindeq (a:=true) ?_ (Tot.ret rfl)
  refine Tot.eq (Tot.bindeq (a:=true) (Tot.eq (Tot.cond rfl (Tot.bind (h.same (by omega) s) fun r hr=>Tot.ret (hr.2 rfl)))) (Tot.bindeq (a:=true) rfl (Tot.ret rfl)))
 ·have g1:=h.step (by omega) a
  have g2:=SJ.step h (by omega) hj a
  have g3:=step16 s a h16
  have g4:=hN.step a
  have g5:=step_tick s a
  have htk:=h.tk
  refine Tot.bindeq (a:=true) ?_ (Tot.ret rfl)
  refine Tot.eq (Tot.bindeq (a:=true) (Tot.eq (Tot.cond rfl (Tot.bindeq (p_RightS h (by omega) hj h16 hN) (Tot.ret rfl)))) (Tot.bindeq (a:=true) (Tot.eq (Tot.cond rfl (Tot.bindeq (p_RightS g1 (by omega) g2 g3 g4) (Tot.ret rfl)))) (Tot.bindeq (a:=true) (by rw [if_pos rfl]; exact congrArg some (decide_eq_true g5.1)) (Tot.bindeq (a:=true) (Tot.eq (Tot.cond rfl (Tot.chk (by unfold InI64; omega) (Tot.ret (decide_eq_true g5.2))))) (Tot.ret rfl)))))
end Go.Proofs
