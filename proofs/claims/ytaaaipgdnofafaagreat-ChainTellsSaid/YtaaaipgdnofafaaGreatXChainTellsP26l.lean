/- Chunks, plain: what is had, by both. No condition. -/
import Derived.Test.YtaaaipgdnofafaaGreatXChainTellsP26k
namespace Go.Proofs
set_option linter.all false
open Go Go.Cat
set_option linter.all false
theorem u_GetS (d:api_Disk) (id:Int) (hd:smallD d) (hu:uniq d.Synced):Tot (ref25_Get d id) (fun r=>(if (thereN d id).2=0 then r.2=0∨r.2=251 else r.2=(thereN d id).2)∧(r.2=0→mayP r.1∧r.1.Id=id∧pageN r.1=(thereN d id).1)∧(r.2≠0→r.1=⟨0,0,[],[]⟩)):=by
 unfold ref25_Get
 refine Tot.bind (R:=Tells (¬withinP id)) (Tot.bind (R:=Tells (id < 0∨199 < id)) (Tot.orI (by simp) fun _=>Tot.dec (by omega)) fun _ h=>Tot.ret (h.trans (by unfold withinP; omega))) fun v hv=>Tot.ite (fun ht=>?_) fun hf=>?_
 ·have t:thereN d id=([],1):=by unfold thereN; rw [if_neg (hv.1 ht)]
  rw [t]
  exact Tot.ret ⟨by rw [if_neg (by decide)],fun h=>absurd h (by decide),fun _=>rfl⟩
 have hw:withinP id:=Classical.byContradiction fun h=>hf (hv.2 h)
 refine Tot.bindeq (r_Read d id hd hu) ?_
 have hl:=readN_len hd id
 have h251:(251:Int)=0→False:=by decide
 by_cases hz:(readN d id).2=0
 ·refine Tot.ite (fun h=>absurd hz (by simpa using h)) fun _=>?_
  by_cases he:(readN d id).1=[]
  ·have t:thereN d id=([],41):=by unfold thereN; rw [if_pos hw,if_pos ⟨hz,he⟩]
   rw [t]
   refine Tot.ite (fun _=>Tot.ret ⟨by rw [if_neg (by decide)],fun h=>absurd h (by decide),fun _=>rfl⟩) (fun h=>absurd (by rw [he]; rfl) h)
  ·have t:thereN d id=readN d id:=by unfold thereN; rw [if_pos hw,if_neg (fun h=>he h.2)]
   rw [t]
   simp only [if_pos hz]
   refine Tot.ite (fun h=>absurd (by simpa using h) he) fun _=>?_
   refine Tot.ite (fun _=>Tot.ret ⟨.inr rfl,fun h=>(h251 h).elim,fun _=>rfl⟩) fun h4=>?_
   have h4:4≤(readN d id).1.length:=by simp at h4; omega
   refine Tot.chk (by unfold InI64; omega) (Tot.chk (by omega) ?_)
   refine Tot.bind (u_parsed _ (by simp; omega)) fun r hr=>?_
   have hr:r.1.Sums.length≤1000:=Nat.le_trans hr (by simp; omega)
   refine Tot.bind (R:=fun v=>v=false→mayP r.1∧r.1.Id=id∧pageN r.1=(readN d id).1) ?_ fun v hv=>Tot.ite (fun _=>Tot.ret ⟨.inr rfl,fun h=>(h251 h).elim,fun _=>rfl⟩) (fun hn=>?_)
   ·refine Tot.bind (R:=fun c=>c=false→mayP r.1) ?_ fun c1 hc1=>?_
    ·refine Tot.ite (fun hx=>Tot.ret fun e=>by cases e) fun hx=>Tot.bind (r_May r.1 (by omega)) fun b hb=>Tot.ret fun hh=>hb.1 (by simpa using hh)
    refine Tot.bind (R:=fun c=>c=false→mayP r.1∧r.1.Id=id) (Tot.ite (fun _=>Tot.ret fun e=>by cases e) fun hc=>Tot.ret fun e=>⟨hc1 (by simpa using hc),by simpa using e⟩) fun c2 hc2=>?_
    refine Tot.bind (R:=fun c=>c=false→mayP r.1∧r.1.Id=id∧pageN r.1=(readN d id).1) (Tot.ite (fun _=>Tot.ret fun e=>by cases e) fun hc=>?_) fun c3 h=>Tot.ret h
    have hp:=hc2 (by simpa using hc)
    refine Tot.bindeq (r_Page _ (mayP_small hp.1)) (Tot.bind (p_RBytes _ _ (by have:=pageN_len (mayP_small hp.1); omega)) fun b hb=>Tot.ret fun e=>⟨hp.1,hp.2,hb.1 (by simpa using e)⟩)
   ·exact Tot.ret ⟨.inl rfl,fun _=>hv (by simpa using hn),fun h=>(h rfl).elim⟩
 ·have t:thereN d id=readN d id:=by unfold thereN; rw [if_pos hw,if_neg (fun h=>hz h.1)]
  rw [t]
  simp only [if_neg hz]
  exact Tot.ite (fun _=>Tot.ret ⟨rfl,fun h=>(hz h).elim,fun _=>rfl⟩) (fun h=>absurd (by simpa using h) hz)
theorem r_Get_there {d:api_Disk} {id:Int} (hd:smallD d) (hu:uniq d.Synced) {c:api_Copy} (hc:mayP c) (hi:c.Id=id) (ht:thereN d id=(pageN c,0)):ref25_Get d id=some (c,0):=by
 refine Tot.eq ?_
 have hs:=mayP_small hc
 have hb:=bodyN_len hs
 have hpl:(pageN c).length=(bodyN c).length+4:=by simp [pageN,tailN]
 have hw:withinP id:=by rw [←hi]; exact hc.1
 have hrd:readN d id=(pageN c,0):=by
  unfold thereN at ht
  rw [if_pos hw] at ht
  split at ht
  ·exact absurd (show (41:Int)=0 from congrArg Prod.snd ht) (by decide)
  ·exact ht
 unfold ref25_Get
 refine Tot.bind (R:=Tells (id < 0∨199 < id)) (Tot.bind (Tot.orI (by simp) fun _=>Tot.dec (by omega)) fun _ h=>Tot.ret h) fun v hv=>Tot.ite (fun ht=>absurd (hv.1 ht) (by unfold withinP at hw; omega)) fun hf=>?_
 refine Tot.bindeq (r_Read d id hd hu) ?_
 rw [hrd]
 refine Tot.ite (fun h=>absurd h (by simp)) fun _=>Tot.ite (fun h=>absurd (eq_of_beq h) (by dsimp only; omega)) fun _=>Tot.ite (fun h=>absurd (of_decide_eq_true h) (by dsimp only; omega)) fun _=>?_
 dsimp only
 refine Tot.chk (by unfold InI64; omega) (Tot.chk (by omega) ?_)
 have htk:(pageN c).take (((pageN c).length:Int) - 4).toNat=bodyN c:=by
  have:(((pageN c).length:Int) - 4).toNat=(bodyN c).length:=by omega
  rw [this]; simp [pageN]
 rw [htk]
 refine Tot.bindeq (r_parsed c hs) ?_
 dsimp only
 refine Tot.bind (R:=(·=false)) ?_ fun v hv=>by subst hv; exact Tot.ite (fun h=>absurd h (by decide)) fun _=>Tot.ret rfl
 refine Tot.bind (R:=(·=false)) (Tot.ite (fun h=>absurd h (by decide)) fun _=>Tot.bind (r_May c (by have:=hs.2.2.2.1; omega)) fun b hb=>Tot.ret (by rw [hb.2 hc]; rfl)) fun c1 h1=>?_
 subst h1
 refine Tot.bind (R:=(·=false)) (Tot.ite (fun h=>absurd h (by decide)) fun _=>Tot.ret (by rw [hi]; simp)) fun c2 h2=>?_
 subst h2
 refine Tot.bind (R:=(·=false)) (Tot.ite (fun h=>absurd h (by decide)) fun _=>Tot.bindeq (r_Page c hs) (Tot.bind (p_RBytes _ _ (by have:=pageN_len hs; omega)) fun b hb=>Tot.ret (by rw [hb.2 rfl]; rfl))) fun c3 h3=>Tot.ret h3
theorem Get_same (d:api_Disk) (id:Int) (hd:smallD d) (hu:uniq d.Synced):∃g:api_Copy×Int,chunk_Get d id=some g∧ref25_Get d id=some g∧g.1.Data.length≤1000∧g.1.Sums.length≤1000:=by
 obtain ⟨g,hg,g1,g2,g3,g4⟩:=t_GetS d id hd
 obtain ⟨h,hh,h1,h3,h4⟩:=u_GetS d id hd hu
 refine ⟨g,hg,?_,g2.1,g2.2⟩
 by_cases hz:(thereN d id).2=0
 ·rw [if_pos hz] at g1 h1
  by_cases hg0:g.2=0
  ·obtain ⟨m1,m2,m3⟩:=g3 hg0
   have:=r_Get_there hd hu m1 m2 (by rw [m3,←hz])
   rw [this]
   obtain ⟨ga,gb⟩:=g
   have hg0:gb=0:=hg0
   rw [hg0]
  ·by_cases hh0:h.2=0
   ·obtain ⟨m1,m2,m3⟩:=h3 hh0
    have:=p_Get_there hd m1 m2 (by rw [m3,←hz])
    rw [hg] at this
    have:=Option.some.inj this
    rw [this] at hg0
    exact (hg0 rfl).elim
   ·have e1:=g4 hg0
    have e2:=h4 hh0
    rw [hh]
    obtain ⟨ga,gb⟩:=g
    obtain ⟨ha,hb⟩:=h
    have e1:ga=_:=e1
    have e2:ha=_:=e2
    have g1:gb=0∨gb=251:=g1
    have h1:hb=0∨hb=251:=h1
    have hg0:¬gb=0:=hg0
    have hh0:¬hb=0:=hh0
    have:hb=gb:=by omega
    rw [e1,e2,this]
 ·rw [if_neg hz] at g1 h1
  have e1:=g4 (by rw [g1]; exact hz)
  have e2:=h4 (by rw [h1]; exact hz)
  rw [hh]
  obtain ⟨ga,gb⟩:=g
  obtain ⟨ha,hb⟩:=h
  have e1:ga=_:=e1
  have e2:ha=_:=e2
  have g1:gb=_:=g1
  have h1:hb=_:=h1
  rw [e1,e2,g1,h1]
end Go.Proofs
