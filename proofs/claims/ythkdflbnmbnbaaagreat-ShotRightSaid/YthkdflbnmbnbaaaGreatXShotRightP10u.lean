/- Shots, plain: what is seen stays. No condition. -/
import Derived.Test.YthkdflbnmbnbaaaGreatXShotRightP10t
namespace Go.Proofs
set_option linter.all false
open Go Go.Cat
set_option linter.all false
structure SJ (s:api_Shots):Prop where
 rt:RT s.Now
 pn:∀p,p∈s.Pasts→0≤p.Node.Ino∧p.Node.Ino < 5000
 ap:s.Pasts.Pairwise fun p q=>(p.Till < q.Till∨p.Till=q.Till∧p.Node.Ino < q.Node.Ino)∧(p.Node.Ino=q.Node.Ino→p.Till≤q.From)
 an:∀q,q∈s.Now.Nodes.zip s.Since→∀p,p∈s.Pasts→p.Node.Ino=q.1.Ino→p.Till≤q.2
 at_:s.Taken.Pairwise fun x y=>x.At≤y.At
 vi:∀x,x∈s.Taken→∃t,RT t∧t.Next≤5000∧(∀n,Seen s x.At n↔n∈t.Nodes)∧∃r,gN t.Nodes x.Ino=some r∧r.Kind=2
theorem pair_mem {α:Type} {R:α→α→Prop} {l:List α} (h:l.Pairwise R) {a b:α} (ha:a∈l) (hb:b∈l):a=b∨R a b∨R b a:=by
 obtain ⟨i,hi⟩:=memR ha
 obtain ⟨j,hj⟩:=memR hb
 obtain ⟨h1,rfl⟩:=List.getElem?_eq_some_iff.1 hi
 obtain ⟨h2,rfl⟩:=List.getElem?_eq_some_iff.1 hj
 rcases Nat.lt_trichotomy i j with e | e | e
 ·exact .inr (.inl (List.pairwise_iff_getElem.1 h i j h1 h2 e))
 ·subst e; exact .inl rfl
 ·exact .inr (.inr (List.pairwise_iff_getElem.1 h j i h2 h1 e))
section
variable {k:Nat} {s:api_Shots}
theorem zip_mem {q:api_Node×Int} (h:q∈s.Now.Nodes.zip s.Since):q.1∈s.Now.Nodes∧∃j:Nat,s.Now.Nodes[j]?=some q.1∧s.Since[j]?=some q.2:=by
 obtain ⟨j,hj⟩:=memR h
 obtain ⟨h1,h2⟩:=zip_at hj
 exact ⟨List.mem_of_getElem? h1,j,h1,h2⟩
theorem zip_of (hs:s.Since.length=s.Now.Nodes.length) {n:api_Node} (hn:n∈s.Now.Nodes):∃q,(n,q)∈s.Now.Nodes.zip s.Since:=by
 obtain ⟨j,hj⟩:=memR hn
 have hlt:j < s.Since.length:=by rw [hs]; exact (getR hj).1
 exact ⟨s.Since[j],List.mem_of_getElem? (List.getElem?_zip_eq_some.2 ⟨hj,List.getElem?_eq_getElem hlt⟩)⟩
theorem since_zip (h:SrtN s.Now.Nodes) {q:api_Node×Int} (hq:q∈s.Now.Nodes.zip s.Since):sinceOf s q.1=q.2:=by
 obtain ⟨-,j,h1,h2⟩:=zip_mem hq
 rw [since_at h h1,h2]; rfl
theorem seen_uniq (h:SJ s) {a:Int} {m n:api_Node} (hm:Seen s a m) (hn:Seen s a n) (e:m.Ino=n.Ino):m=n:=by
 rcases hm with ⟨q,hq,rfl,h1⟩ | ⟨p,hp,rfl,h1,h2⟩ <;> rcases hn with ⟨q',hq',rfl,g1⟩ | ⟨p',hp',rfl,g1,g2⟩
 ·exact srt_uniq h.rt.s (zip_mem hq).1 (zip_mem hq').1 e
 ·have:=h.an q hq p' hp' e.symm; omega
 ·have:=h.an q' hq' p hp e; omega
 ·rcases pair_mem h.ap hp hp' with h3 | h3 | h3
  ·rw [h3]
  ·have:=h3.2 e; omega
  ·have:=h3.2 e.symm; omega
theorem SJ.get (h:SJ s) {x:api_Shot} (hx:x∈s.Taken):∃t,RT t∧t.Next≤5000∧(∀j,mget j (allM s x.At)=gN t.Nodes j)∧∃r,gN t.Nodes x.Ino=some r∧r.Kind=2:=by
 obtain ⟨t,h1,h2,h3,h4⟩:=h.vi x hx
 refine ⟨t,h1,h2,fun j=>?_,h4⟩
 have hg:=all_get (s:=s) (a:=x.At) (fun m n=>seen_uniq h) j
 cases e:gN t.Nodes j with
 | none =>
  cases e2:mget j (allM s x.At) with
  | none=>rfl
  | some n =>
   have:=(hg n).1 e2
   exact absurd this.2 (gN_none.1 e n ((h3 n).1 this.1))
 | some n =>
  have:=gN_some e
  exact (hg n).2 ⟨(h3 n).2 this.1,this.2⟩
theorem RT.rch {t:api_Tree} (h:RT t) {i j:Int} (hr:Rch (gN t.Nodes) i j) (hi:(gN t.Nodes i).isSome=true):(gN t.Nodes j).isSome=true:=by
 induction hr with
 | refl=>exact hi
 | step _ h2 h3 _=>exact h.cl _ (gN_some h2).1 _ h3
theorem gok {all:AllM} {t:api_Tree} (h:RT t) (hx:t.Next≤5000) (hg:∀j,mget j all=gN t.Nodes j):GOK all:=by
 refine ⟨fun j n hn=>?_,fun j n hn e he=>?_,fun j n hn=>?_⟩ <;> rw [hg] at hn <;> have hm:=gN_some hn
 ·exact hm.2
 ·obtain ⟨q,hq⟩:=Option.isSome_iff_exists.1 (h.cl n hm.1 e he)
  have h1:=gN_some hq
  have:=h.lo q h1.1
  rw [h1.2] at this; omega
 ·have:=(h.en n hm.1).n; omega
theorem p_hadx (h:SI k s) (hk:k≤180) (hj:SJ s) {x:api_Shot} (hx:x∈s.Taken):∃t,RT t∧(∀n,Seen s x.At n↔n∈t.Nodes)∧(∃r,gN t.Nodes x.Ino=some r∧r.Kind=2)∧Tot (shot_had s x) (HadP (gN t.Nodes) x.Ino):=by
 obtain ⟨t,h1,h2,h3,r,h4,h5⟩:=hj.get hx
 have hn:=h.f.n; have hps:=h.ps; have hfx:=h.f.x
 have hr:=gN_some h4
 have hrl:=h1.lo r hr.1
 rw [hr.2] at hrl
 refine ⟨t,h1,fun n=>?_,⟨r,h4,h5⟩,(p_had s x (by omega) (fun p hp=>by have:=hj.pn p hp; unfold InI64; omega) (by omega) h.si (fun n hn=>by have:=hj.rt.lo n hn; unfold InI64; omega) (gok h1 h2 h3) (by omega)).mono fun r hr=>?_⟩
 ·have:=all_get (s:=s) (a:=x.At) (fun m n=>seen_uniq hj) n.Ino n
  rw [h3] at this
  constructor
  ·intro h; exact (gN_some (this.2 ⟨h,rfl⟩)).1
  ·intro h; exact (this.1 (gN_mem h1.s h)).1
 ·have:(fun j=>mget j (allM s x.At))=gN t.Nodes:=funext h3
  rw [this] at hr; exact hr
open Classical in
theorem pastK_iff {t:api_Tree} {q:api_Node×Int}:pastK s t q=true↔gN t.Nodes q.1.Ino≠some q.1∧seesB s.Taken q.2 (s.Tick+1)=true:=by
 unfold pastK; rw [Bool.and_eq_true,decide_eq_true_iff]
theorem seen_put (h:SI k s) {t:api_Tree} (ht:SrtN t.Nodes) (hne:¬s.Now=t) {x:api_Shot} (hx:x∈s.Taken) (n:api_Node):Seen (putS s t) x.At n↔Seen s x.At n:=by
 have hxa:=(h.ti x hx).2
 have hp:putS s t=⟨t,s.Tick+1,t.Nodes.map (sinceOf s),s.Pasts++pastsP s t,s.Taken,s.Next⟩:=by unfold putS; rw [if_neg hne]
 rw [hp]
 constructor
 ·rintro (⟨q,hq,rfl,h1⟩ | ⟨p,hp,rfl,h1,h2⟩)
  ·have:q∈t.Nodes.zip (t.Nodes.map (sinceOf s)):=hq
   obtain ⟨j,hj⟩:=memR this
   obtain ⟨h2,h3⟩:=zip_at hj
   rw [List.getElem?_map,h2] at h3
   have h3:sinceOf s q.1=q.2:=Option.some.inj h3
   by_cases hm:q.1∈s.Now.Nodes
   ·obtain ⟨w,hw⟩:=zip_of h.si hm
    have:=since_zip h.t.s hw
    exact .inl ⟨_,hw,rfl,by dsimp only at this ⊢; omega⟩
   ·rw [since_no hm] at h3; omega
  ·have hp:p∈s.Pasts++pastsP s t:=hp
   rcases List.mem_append.1 hp with hp | hp
   ·exact .inr ⟨p,hp,rfl,h1,h2⟩
   ·obtain ⟨q,hq,rfl⟩:=List.mem_map.1 hp
    exact .inl ⟨q,(List.mem_filter.1 hq).1,rfl,h1⟩
 ·rintro (⟨q,hq,rfl,h1⟩ | ⟨p,hp,rfl,h1,h2⟩)
  ·have hsz:=since_zip h.t.s hq
   by_cases hg:gN t.Nodes q.1.Ino=some q.1
   ·refine .inl ⟨(q.1,sinceOf s q.1),?_,rfl,by dsimp only; omega⟩
    obtain ⟨j,hj⟩:=memR (gN_some hg).1
    show _∈t.Nodes.zip (t.Nodes.map (sinceOf s))
    exact List.mem_of_getElem? (List.getElem?_zip_eq_some.2 ⟨hj,by rw [List.getElem?_map,hj]; rfl⟩)
   ·refine .inr ⟨⟨q.2,s.Tick+1,q.1⟩,?_,rfl,h1,by dsimp only; omega⟩
    show _∈s.Pasts++pastsP s t
    refine List.mem_append_right _ (List.mem_map.2 ⟨q,List.mem_filter.2 ⟨hq,pastK_iff.2 ⟨hg,?_⟩⟩,rfl⟩)
    unfold seesB
    exact List.any_eq_true.2 ⟨x,hx,by simp; omega⟩
  ·refine .inr ⟨p,?_,rfl,h1,h2⟩
   show _∈s.Pasts++pastsP s t
   exact List.mem_append_left _ hp
theorem SJ.put (h:SI k s) (hk:k≤200) (hj:SJ s) (a:law07_Step):SJ (putS s (doneT s.Now a)):=by
 by_cases hne:s.Now=doneT s.Now a
 ·unfold putS; rw [if_pos hne]; exact hj
 have hrt:=RT.done hj.rt a
 have hseen:=fun {x} (hx:x∈s.Taken) n=>seen_put h hrt.s hne hx n
 have hfx:=h.f.x
 generalize doneT s.Now a=t at *
 have hp:putS s t=⟨t,s.Tick+1,t.Nodes.map (sinceOf s),s.Pasts++pastsP s t,s.Taken,s.Next⟩:=by unfold putS; rw [if_neg hne]
 rw [hp] at hseen ⊢
 refine ⟨hrt,fun p hp=>?_,?_,fun q hq p hp he=>?_,hj.at_,fun x hx=>?_⟩
 ·rcases List.mem_append.1 hp with hp | hp
  ·exact hj.pn p hp
  ·obtain ⟨q,hq,rfl⟩:=List.mem_map.1 hp
   have:=hj.rt.lo _ (zip_mem (List.mem_filter.1 hq).1).1
   dsimp only; omega
 ·refine List.pairwise_append.2 ⟨hj.ap,?_,fun p hp q hq=>?_⟩
  ·unfold pastsP
   rw [List.pairwise_map]
   refine List.Pairwise.filter _ ?_
   rw [List.pairwise_iff_getElem]
   intro i j hi hj' hij
   have e1:=zip_at (List.getElem?_eq_getElem hi)
   have e2:=zip_at (List.getElem?_eq_getElem hj')
   have hlt:=srt_lt h.t.s e1.1 e2.1 hij
   exact ⟨.inr ⟨rfl,hlt⟩,fun e=>by dsimp only at e; omega⟩
  ·obtain ⟨w,hw,rfl⟩:=List.mem_map.1 hq
   have h1:=(h.pt p hp).1
   exact ⟨.inl (by dsimp only; omega),fun e=>hj.an w (List.mem_filter.1 hw).1 p hp e⟩
 ·have hq:q∈t.Nodes.zip (t.Nodes.map (sinceOf s)):=hq
  obtain ⟨j,hjj⟩:=memR hq
  obtain ⟨h2,h3⟩:=zip_at hjj
  rw [List.getElem?_map,h2] at h3
  have h3:sinceOf s q.1=q.2:=Option.some.inj h3
  rcases List.mem_append.1 hp with hp | hp
  ·by_cases hm:q.1∈s.Now.Nodes
   ·obtain ⟨w,hw⟩:=zip_of h.si hm
    have h4:=since_zip h.t.s hw
    have:=hj.an _ hw p hp he
    dsimp only at h4 this; omega
   ·rw [since_no hm] at h3
    have:=(h.pt p hp).1; omega
  ·obtain ⟨w,hw,rfl⟩:=List.mem_map.1 hp
   obtain ⟨hw1,hw2⟩:=List.mem_filter.1 hw
   have hw2:=(pastK_iff.1 hw2).1
   have hm:q.1∉s.Now.Nodes:=fun hm=>by
    have e:w.1=q.1:=srt_uniq h.t.s (zip_mem hw1).1 hm he
    apply hw2
    rw [e]; exact gN_mem hrt.s (List.mem_of_getElem? h2)
   rw [since_no hm] at h3
   dsimp only; omega
 ·obtain ⟨t',h1,h2,h3,h4⟩:=hj.vi x hx
  exact ⟨t',h1,h2,fun n=>(hseen hx n).trans (h3 n),h4⟩
theorem seen_now (h:SI k s) (n:api_Node):Seen s s.Tick n↔n∈s.Now.Nodes:=by
 constructor
 ·rintro (⟨q,hq,rfl,_⟩ | ⟨p,hp,rfl,h1,h2⟩)
  ·exact (zip_mem hq).1
  ·have:=(h.pt p hp).1; omega
 ·intro hn
  obtain ⟨w,hw⟩:=zip_of h.si hn
  exact .inl ⟨_,hw,rfl,(h.sn w (List.of_mem_zip hw).2).2⟩
theorem SJ.take (h:SI k s) (hk:k≤200) (hj:SJ s) (i:Int):SJ (takeS s i).1:=by
 unfold takeS
 split
 ·exact hj
 next h1 =>
 split
 ·exact hj
 next h2 =>
 split
 ·exact hj
 refine ⟨hj.rt,hj.pn,hj.ap,hj.an,?_,fun x hx=>?_⟩
 ·refine List.pairwise_append.2 ⟨hj.at_,List.pairwise_singleton _ _,fun x hx y hy=>?_⟩
  obtain rfl:=List.mem_singleton.1 hy
  exact (h.ti x hx).2.2
 ·rcases List.mem_append.1 hx with hx | hx
  ·exact hj.vi x hx
  ·obtain rfl:=List.mem_singleton.1 hx
   obtain ⟨n,hn⟩:∃n,gN s.Now.Nodes i=some n:=by
    cases hg:gN s.Now.Nodes i with
    | none=>rw [hg] at h1; simp at h1
    | some n=>exact ⟨n,rfl⟩
   rw [gD_of hn] at h2
   exact ⟨s.Now,hj.rt,by have:=h.f.x; omega,fun n=>seen_now h n,n,hn,by simpa using h2⟩
theorem seen_drop {i:Int} {x:api_Shot} (hx:x∈dropT s i) (n:api_Node):Seen ⟨s.Now,s.Tick,s.Since,keepP s.Pasts (dropT s i),dropT s i,s.Next⟩ x.At n↔Seen s x.At n:=by
 constructor
 ·rintro (⟨q,hq,rfl,h1⟩ | ⟨p,hp,rfl,h1,h2⟩)
  ·exact .inl ⟨q,hq,rfl,h1⟩
  ·exact .inr ⟨p,(List.mem_filter.1 hp).1,rfl,h1,h2⟩
 ·rintro (⟨q,hq,rfl,h1⟩ | ⟨p,hp,rfl,h1,h2⟩)
  ·exact .inl ⟨q,hq,rfl,h1⟩
  ·refine .inr ⟨p,List.mem_filter.2 ⟨hp,?_⟩,rfl,h1,h2⟩
   unfold seesB
   exact List.any_eq_true.2 ⟨x,hx,by simp; omega⟩
theorem SJ.drop (hj:SJ s) (i:Int):SJ (dropS s i).1:=by
 unfold dropS
 split
 ·exact hj
 refine ⟨hj.rt,fun p hp=>hj.pn p (List.mem_filter.1 hp).1,hj.ap.filter _,fun q hq p hp he=>hj.an q hq p (List.mem_filter.1 hp).1 he,hj.at_.filter _,fun x hx=>?_⟩
 obtain ⟨t,h1,h2,h3,h4⟩:=hj.vi x (List.mem_filter.1 hx).1
 exact ⟨t,h1,h2,fun n=>(seen_drop hx n).trans (h3 n),h4⟩
theorem SJ.step (h:SI k s) (hk:k≤200) (hj:SJ s) (a:law10_Act):SJ (stepS s a).1:=by
 unfold stepS
 split
 ·exact SJ.take h hk hj _
 split
 ·exact SJ.drop hj _
 ·exact SJ.put h hk hj _
theorem SJ0:SJ shots0:=by
 refine ⟨RT0,fun p hp=>(by cases hp),List.Pairwise.nil,fun q _ p hp=>(by cases hp),List.Pairwise.nil,fun x hx=>(by cases hx)⟩
theorem SJ_made {l:List law10_Act}:∀{k:Nat} {s:api_Shots},SI k s→SJ s→k+l.length≤200→SJ (l.foldl (fun s a=>(stepS s a).1) s):=by
 induction l with
 | nil=>intro k s _ h _; exact h
 | cons a l ih =>
  intro k s h hj hk
  exact ih (h.step (by simp at hk; omega) a) (SJ.step h (by simp at hk; omega) hj a) (by simp at hk; omega)
theorem made_SJ {l:List law10_Act} (hl:l.length≤60):SJ (madeS l):=SJ_made SI0 SJ0 (by omega)
end
end Go.Proofs
