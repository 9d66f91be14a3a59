/- Shots, plain: a move keeps a right tree right. No condition. -/
import Derived.Test.YthkdflbnmbnbaaaGreatXShotRightP10p
namespace Go.Proofs
set_option linter.all false
open Go Go.Cat
set_option linter.all false
section
variable {t:api_Tree} {δ:Int→Nat}
theorem cnt_two {l:List api_Node} {i:Int} {p q:api_Node} (hp:p∈l) (hq:q∈l) (hne:p≠q) (h1:0 < cE p.Ents i) (h2:0 < cE q.Ents i):2≤cnt l i:=by
 induction l with
 | nil=>cases hp
 | cons x l ih =>
  rw [cnt_cons]
  have hc:∀{y:api_Node},y∈l→0 < cE y.Ents i→0 < cnt l i:=fun hy h=>cnt_pos.2 ⟨_,hy,cE_pos.1 h⟩
  rcases List.mem_cons.1 hp with e1 | hp <;> rcases List.mem_cons.1 hq with e2 | hq
  ·exact absurd (e1.trans e2.symm) hne
  ·rw [←e1]; have:=hc hq h2; omega
  ·rw [←e2]; have:=hc hp h1; omega
  ·have:=ih hp hq; omega
theorem W.parent (h:W t δ) {p q:api_Node} (hp:p∈t.Nodes) {e:api_Ent} (he:e∈p.Ents) (hq:gN t.Nodes e.Ino=some q) (hk:q.Kind=2):q.Up=p.Ino:=by
 obtain ⟨k1,k2,k3⟩:=h.get hq
 have hc:0 < cE p.Ents e.Ino:=cE_pos.2 ⟨e,he,rfl⟩
 have hc2:0 < cnt t.Nodes e.Ino:=cnt_pos.2 ⟨p,hp,e,he,rfl⟩
 rcases h.dir k1 hk with hr | hr
 ·exact absurd (k2.symm.trans hr.1) (h.ne1 hp he)
 ·rw [DirR,k2] at hr
  obtain ⟨p',hp',e',he',hei'⟩:=hr.2.2.2 (by omega)
  have hpm:=gN_some hp'
  by_cases hpp:p=p'
  ·rw [hpp,hpm.2]
  ·have:=cnt_two hp hpm.1 hpp hc (cE_pos.2 ⟨e',he',hei'⟩)
   omega
theorem W.noSelf (h:W t δ) {i:Int} {m:api_Node} (hm:gN t.Nodes i=some m) (hk:m.Kind=2) {e:api_Ent} (he:e∈m.Ents):e.Ino≠i:=by
 intro hei
 obtain ⟨k1,k2,k3⟩:=h.get hm
 have hu:=h.parent k1 he (by rw [hei]; exact hm) hk
 obtain ⟨d,h1,-⟩:=h.deep hm hk
 have hi1:i≠1:=by rw [←hei]; exact h.ne1 k1 he
 cases h1 with
 | root=>exact hi1 rfl
 | step g1 g2 g3 g4 =>
  rw [hm] at g2; cases g2
  rw [hu,k2] at g4
  have:=g4.uniq (.step g1 hm g3 (by rw [hu,k2]; exact g4))
  omega
theorem filt_lt {l:List api_Ent} {s:List UInt8} {e:api_Ent} (hf:l.find? (fun e=>e.Name == s)=some e):(l.filter fun e=>!(e.Name == s)).length < l.length:=by
 rw [List.length_filter_lt_length_iff_exists]
 exact ⟨e,List.mem_of_find?_eq_some hf,by have:=List.find?_some hf; simpa using this⟩
theorem mv_ahead (h:RT t) {from_ to:Int} {s asn:List UInt8} {mf md x:api_Node} {ef:api_Ent} (a1:gN t.Nodes from_=some mf) (a2:mf.Kind=2) (a5:mf.Ents.find? (fun e=>e.Name == s)=some ef)
  (b1:gN t.Nodes to=some md) (b2:md.Kind=2) (hx:gN t.Nodes ef.Ino=some x) (hxf:ef.Ino≠from_) (hxt:ef.Ino≠to) (hy:mvY t to asn≠ef.Ino)
  (hY:(∀e,e∈md.Ents→e.Name≠asn)∧mvY t to asn=0∧(to≠from_→md.Ents.length < 64)∨∃ey ny,md.Ents.find? (fun e=>e.Name == asn)=some ey∧mvY t to asn=ey.Ino∧gN t.Nodes ey.Ino=some ny∧ny.Ents=[]) :
  W (mvT t ef.Ino from_ s to asn (mvY t to asn)) (at1 ef.Ino)∧SubT (mvT t ef.Ino from_ s to asn (mvY t to asn)).Nodes t.Nodes∧gN (mvT t ef.Ino from_ s to asn (mvY t to asn)).Nodes ef.Ino=some x∧∃mu,gN (mvT t ef.Ino from_ s to asn (mvY t to asn)).Nodes to=some mu∧mu.Kind=2∧(∀e,e∈mu.Ents→e.Name≠asn)∧mu.Ents.length < 64:=by
 obtain ⟨k1,k2,k3⟩:=W.get h a1
 have hem:=List.mem_of_find?_eq_some a5
 have w1:W (lefT t from_ s) (at1 ef.Ino):=W.lefT h a1 a2 a5 fun k=>by unfold at1; omega
 have s1:SubT (lefT t from_ s).Nodes t.Nodes:=SubT.lef a1 s
 have g1:=gN_lef a1 s
 have hl:=filt_lt a5
 have hlf:=(W.en h mf k1).n
 obtain ⟨m1,c1,c2,c3⟩:∃m1,gN (lefT t from_ s).Nodes to=some m1∧m1.Kind=2∧((to=from_∧m1=updE mf (mf.Ents.filter fun e=>!(e.Name == s))∧mf=md)∨(to≠from_∧m1=md)):=by
  rw [g1]
  by_cases e:to=from_
  ·rw [if_pos e]
   rw [e,a1] at b1; cases b1
   exact ⟨_,rfl,a2,.inl ⟨e,rfl,rfl⟩⟩
  ·rw [if_neg e]
   exact ⟨md,b1,b2,.inr ⟨e,rfl⟩⟩
 have g1x:gN (lefT t from_ s).Nodes ef.Ino=some x:=by rw [g1,if_neg hxf,hx]
 rcases hY with ⟨hno,hy0,hlen⟩ | ⟨ey,ny,hfy,hye,hny,hnE⟩
 ·rw [hy0]
  unfold mvT
  rw [if_neg (by simp)]
  refine ⟨w1,s1,g1x,m1,c1,c2,?_,?_⟩
  ·rcases c3 with ⟨e,rfl,rfl⟩ | ⟨e,rfl⟩
   ·exact fun e he=>hno e (List.mem_filter.1 he).1
   ·exact hno
  ·rcases c3 with ⟨e,rfl,rfl⟩ | ⟨e,rfl⟩
   ·show (mf.Ents.filter _).length < 64; omega
   ·exact hlen e
 ·rw [hye] at hy ⊢
  have hym:=gN_some hny
  have heym:=List.mem_of_find?_eq_some hfy
  have hyf:ey.Ino≠from_:=fun e=>by rw [e,a1] at hny; cases hny; rw [hnE] at hem; cases hem
  have hyt:ey.Ino≠to:=fun e=>by rw [e,b1] at hny; cases hny; rw [hnE] at heym; cases heym
  have hy0:ey.Ino≠0:=by have:=(W.lo h ny hym.1).1; rw [hym.2] at this; omega
  have hf1:m1.Ents.find? (fun e=>e.Name == asn)=some ey:=by
   rcases c3 with ⟨e,rfl,rfl⟩ | ⟨e,rfl⟩
   ·show (mf.Ents.filter _).find? _=_
    have hne:asn≠s:=fun e=>by rw [e,a5] at hfy; cases hfy; exact hy rfl
    rw [List.find?_filter]
    have:(fun a:api_Ent=>decide ((!(a.Name == s))=true∧(a.Name == asn)=true))=fun a=>a.Name == asn:=by
     funext a
     by_cases h1:a.Name=asn
     ·simp [h1,hne]
     ·simp [h1]
    rw [this]; exact hfy
   ·exact hfy
  have hl1:m1.Ents.length≤64:=(w1.en m1 (gN_some c1).1).n
  have w2:W (lefT (lefT t from_ s) to asn) (fun k=>at1 ef.Ino k+if k=ey.Ino then 1 else 0):=W.lefT w1 c1 c2 hf1 fun _=>rfl
  have g2:=gN_lef c1 asn
  have g2y:gN (lefT (lefT t from_ s) to asn).Nodes ey.Ino=some ny:=by rw [g2,if_neg hyt,g1,if_neg hyf,hny]
  have g2x:gN (lefT (lefT t from_ s) to asn).Nodes ef.Ino=some x:=by rw [g2,if_neg hxt,g1x]
  unfold mvT
  rw [if_pos (by simpa using hy0)]
  refine ⟨W.unT w2 g2y (by rw [if_pos rfl]; omega) hnE (fun q hq hqk hqd hqy=>?_) (fun k=>?_),(SubT.un g2y).trans ((SubT.lef c1 asn).trans s1),by rw [gN_un g2y (Ne.symm hy),g2x],updE m1 (m1.Ents.filter fun e=>!(e.Name == asn)),by rw [gN_un g2y (Ne.symm hyt),g2,if_pos rfl],c2,fun e he=>?_,?_⟩
  ·have hqi:q.Ino=ef.Ino:=by
    rw [if_neg hqy] at hqd
    unfold at1 at hqd
    by_cases e:q.Ino=ef.Ino
    ·exact e
    ·rw [if_neg e] at hqd; omega
   have hqx:q=x:=by
    have:=gN_mem w2.s hq
    rw [hqi,g2x] at this; cases this; rfl
   subst hqx
   rw [W.parent h k1 hem hx hqk,k2]
   exact Ne.symm hyf
  ·unfold at1
   by_cases e:k=ey.Ino
   ·rw [if_pos e,if_neg (by rw [e]; exact hy)]
   ·rw [if_neg e]; omega
  ·have:=(List.mem_filter.1 he).2; simpa using this
  ·have:=filt_lt hf1
   show (m1.Ents.filter _).length < 64; omega
theorem RT.mv (h:RT t) (from_:Int) (s:List UInt8) (to:Int) (asn:List UInt8):RT (mvP t from_ s to asn).1:=by
 unfold mvP
 split
 ·exact h
 next hL =>
 split
 ·exact h
 next hD =>
 split
 ·exact h
 next hR =>
 split
 ·exact h
 next hy =>
 split
 ·exact h
 next hloop =>
 split
 ·exact h
 next hcl =>
 split
 ·exact h
 next hfull =>
 obtain ⟨mf,ef,a1,a2,a3,a4,a5,a6⟩:=look_ok (bne_zero hL)
 obtain ⟨md,b1,b2,b3,b4⟩:=dir_ok (bne_zero hD)
 rw [a6] at hy hloop hcl hfull ⊢
 obtain ⟨k1,k2,k3⟩:=W.get h a1
 have hem:=List.mem_of_find?_eq_some a5
 obtain ⟨x,hx⟩:=Option.isSome_iff_exists.1 (h.cl mf k1 ef hem)
 obtain ⟨x1,x2,x3⟩:=W.get h hx
 rw [x3] at hloop hcl
 have hR:nameR asn=true:=by simpa using hR
 have hy:mvY t to asn≠ef.Ino:=by simpa using hy
 have hxf:ef.Ino≠from_:=W.noSelf h a1 a2 hem
 obtain ⟨dt,t1,t2,t3,t4⟩:=W.deep h b1 b2
 unfold mvFull at hfull
 rw [b3,x3] at hfull
 simp only [Bool.or_eq_true,Bool.and_eq_true,decide_eq_true_eq,not_or,not_and,beq_iff_eq,bne_iff_ne] at hfull
 obtain ⟨⟨⟨f1,f2⟩,f3⟩,f4⟩:=hfull
 have f2:dt < 12:=by rw [t4] at f2; omega
 rw [t4] at f3
 have hnu:x.Kind=2→¬Und t.Nodes ef.Ino to:=fun hk hu=>hloop (by
  have:belP t.Nodes to ef.Ino=true:=belN_und hu t1 (by have:=deep_len t1; omega)
  simp [hk,this])
 have hxt:ef.Ino≠to:=fun e=>by
  rw [e,b1] at hx; cases hx
  exact hnu b2 (e▸.refl)
 have hY:(∀e,e∈md.Ents→e.Name≠asn)∧mvY t to asn=0∧(to≠from_→md.Ents.length < 64)∨∃ey ny,md.Ents.find? (fun e=>e.Name == asn)=some ey∧mvY t to asn=ey.Ino∧gN t.Nodes ey.Ino=some ny∧ny.Ents=[]:=by
  have hmv:mvY t to asn=match md.Ents.find? (fun e=>e.Name == asn) with | some e=>e.Ino | none=>0:=by unfold mvY; rw [b3]; rfl
  cases hfy:md.Ents.find? (fun e=>e.Name == asn) with
  | none =>
   rw [hfy] at hmv
   refine .inl ⟨fun e he=>?_,hmv,fun hne=>?_⟩
   ·rw [List.find?_eq_none] at hfy; simpa using hfy e he
   ·have:=f1 ⟨hmv,hne⟩; omega
  | some ey =>
   rw [hfy] at hmv
   obtain ⟨ny,hny⟩:=Option.isSome_iff_exists.1 (h.cl md (gN_some b1).1 ey (List.mem_of_find?_eq_some hfy))
   refine .inr ⟨ey,ny,rfl,hmv,hny,?_⟩
   have hc:=bne_zero hcl
   unfold clashP at hc
   rw [hmv] at hc
   dsimp only at hc
   rw [gD_of hny,hny] at hc
   rw [if_neg (by simp)] at hc
   split at hc
   ·cases hc
   split at hc
   ·cases hc
   split at hc
   ·cases hc
   ·next hz=>exact List.length_eq_zero_iff.1 (by have:¬((ny.Ents.length:Int) > 0):=fun h=>hz (decide_eq_true h); omega)
 obtain ⟨wu,su,gux,mu,gut,u2,u3,u4⟩:=mv_ahead h a1 a2 a5 b1 b2 hx hxf hxt hy hY
 generalize mvT t ef.Ino from_ s to asn (mvY t to asn)=u at *
 obtain ⟨d,v1,v2,v3,v4⟩:=W.deep wu gut u2
 have hdt:d=dt:=(su.deep v1).uniq t1
 subst hdt
 unfold mvU
 rw [x3]
 by_cases hk:(x.Kind == 2)=true
 ·rw [if_pos hk]
  have hk:x.Kind=2:=by simpa using hk
  obtain ⟨dx,y1,y2,y3,y4⟩:=W.deep wu gux hk
  have hx1:x.Ino≠1:=fun e=>by have:=W.no1 wu; rw [x2] at e; unfold at1 at this; rw [if_pos e.symm] at this; omega
  have hnuu:¬Und u.Nodes ef.Ino to:=fun hu=>hnu hk (su.und hu)
  have hgne:∀i,i≠ef.Ino→gN (putL ⟨x.Ino,x.Kind,x.Links,x.Data,x.Ents,to⟩ u.Nodes) i=gN u.Nodes i:=fun i hi=>by rw [gN_put]; exact if_neg (by dsimp only; rw [x2]; exact hi)
  have wm:W ⟨putL ⟨x.Ino,x.Kind,x.Links,x.Data,x.Ents,to⟩ u.Nodes,u.Next,u.Cookie⟩ (at1 ef.Ino):=by
   refine W.moves wu (gN_some gux).1 hk hx1 (by unfold at1; rw [if_pos x2]; omega) v1 (by rw [x2]; exact y1) (by rw [x2]; exact hnuu) fun n hn hkn hun d' hd'=>?_
   rw [x2] at hun
   obtain ⟨n',q1,q2,q3,q4⟩:=su n.Ino n (gN_mem wu.s hn)
   have hn':=gN_some q1
   have p1:Deep t.Nodes n.Ino d':=su.deep hd'
   have p2:Deep t.Nodes ef.Ino dx:=su.deep y1
   have p3:=(su.und hun).deep p2 p1
   have hb:belP t.Nodes n'.Ino ef.Ino=true:=by rw [hn'.2]; exact belN_und (su.und hun) p1 (by have:=deep_len p1; omega)
   have hh:=high_le (a:=(d:Int)+1) hn'.1 (by rw [q2,hkn]) hb
   have hd12:d'≤201:=by
    obtain ⟨d3,e1,e2,-⟩:=h.dp n' hn'.1 (by rw [q2,hkn])
    rw [hn'.2] at e1; have:=p1.uniq e1; omega
   have hx12:dx≤201:=by omega
   rw [hn'.2,depN_deep p1 hd12,depN_deep p2 hx12] at hh
   have f3:=f3 hk
   refine ⟨?_,fun e12=>q4 ?_⟩
   ·split at hh <;> omega
   ·split at hh
    ·omega
    ·next hz=>exact List.length_eq_zero_iff.1 (by have:¬((n'.Ents.length:Int) > 0):=fun h=>hz (decide_eq_true h); omega)
  refine W.entT (q:=⟨x.Ino,x.Kind,x.Links,x.Data,x.Ents,to⟩) wm (by dsimp only; rw [hgne to (Ne.symm hxt)]; exact gut) u2 hR u3 u4 (v1.notUnd hgne hnuu) f2 (by dsimp only; rw [gN_put]; exact if_pos x2.symm) (by unfold at1; rw [if_pos rfl]; omega) (fun _=>rfl) fun j=>?_
  unfold at1; split <;> rfl
 ·rw [if_neg hk]
  refine W.entT wu gut u2 hR u3 u4 v1 f2 gux (by unfold at1; rw [if_pos rfl]; omega) (fun e=>absurd (by simpa using e) hk) fun j=>?_
  unfold at1; split <;> rfl
theorem RT.done (h:RT t) (a:law07_Step):RT (doneT t a):=by
 unfold doneT
 split
 ·exact RT.add h _ _ _
 split
 ·exact RT.ln h _ _ _
 split
 ·exact RT.un h _ _
 split
 ·exact RT.mv h _ _ _ _
 split
 ·exact RT.putD h _ _
 ·exact RT.free h _
theorem RT0:RT tree0:=by
 refine ⟨List.pairwise_singleton _ _,fun n hn=>?_,⟨_,rfl,rfl⟩,by decide,by decide,fun n hn=>?_,fun n hn e he=>?_,fun n hn=>?_,fun n hn _=>?_⟩ <;> obtain rfl:=List.mem_singleton.1 hn
 ·decide
 ·exact ⟨by simp,List.Pairwise.nil,fun e he=>(by cases he),List.Pairwise.nil⟩
 ·cases he
 ·exact .inr ⟨rfl,rfl,.inl ⟨rfl,rfl,rfl,rfl,rfl⟩⟩
 ·exact ⟨0,.root,by omega,fun h=>by cases h⟩
end
end Go.Proofs
