/- Shots, plain: what a snapshot had. No condition. -/
import Derived.Test.YthkdflbnmbnbaaaGreatXShotRightP10s
namespace Go.Proofs
set_option linter.all false
open Go Go.Cat
set_option linter.all false
theorem insT_tot {x:api_Node}:∀{l:List api_Node},(∀y,y∈l→y.Ino≠x.Ino)→∃r,insT shot_had_2 x l=some r
 | [],_=>⟨_,rfl⟩
 | y::r,h=>by
  have hy:=h y (by simp)
  obtain ⟨t,ht⟩:=insT_tot (x:=x) fun z hz=>h z (List.mem_cons_of_mem _ hz)
  simp only [insT,had_cmp.1]
  by_cases h1:cmpI x.Ino y.Ino < 0
  ·have:¬cmpI y.Ino x.Ino < 0:=fun h2=>by have:=cmpI_lt.1 h1; have:=cmpI_lt.1 h2; omega
   rw [if_pos h1,if_neg this]; exact ⟨_,rfl⟩
  ·have:cmpI y.Ino x.Ino < 0:=cmpI_lt.2 (by have:¬x.Ino < y.Ino:=fun h2=>h1 (cmpI_lt.2 h2); omega)
   rw [if_neg h1,if_pos this,ht]; exact ⟨_,rfl⟩
theorem sortT_tot:∀{l:List api_Node},l.Pairwise (fun a b=>a.Ino≠b.Ino)→∃r,sortT shot_had_2 l=some r
 | [],_=>⟨_,rfl⟩
 | x::r,h=>by
  obtain ⟨h1,h2⟩:=List.pairwise_cons.1 h
  obtain ⟨t,ht⟩:=sortT_tot h2
  have hp:=(sortT_ok had_cmp ht).1
  obtain ⟨u,hu⟩:=insT_tot (x:=x) (l:=t) fun y hy=>Ne.symm (h1 y (hp.mem_iff.1 hy))
  exact ⟨u,by simp only [sortT]; rw [ht]; exact hu⟩
theorem sort_nodes {l:List api_Node} (h:l.Pairwise (fun a b=>a.Ino≠b.Ino)) (hl:l.length≤100000):Tot (sortG shot_had_2 l) (fun r=>SrtN r∧∀n,n∈r↔n∈l):=by
 obtain ⟨r,hr⟩:=sortT_tot h
 obtain ⟨h1,h2⟩:=sortT_ok had_cmp hr
 exact ⟨r,sortG_eq (by omega) hr,h2.imp fun h=>cmpI_lt.1 h,fun n=>h1.mem_iff⟩
theorem srt_ext {a b:List api_Node} (ha:SrtN a) (hb:SrtN b) (h:∀n,n∈a↔n∈b):a=b:=by
 induction a generalizing b with
 | nil =>
  cases b with
  | nil=>rfl
  | cons y r=>exact absurd ((h y).2 (by simp)) (by simp)
 | cons x l ih =>
  cases b with
  | nil=>exact absurd ((h x).1 (by simp)) (by simp)
  | cons y r =>
   obtain ⟨a1,a2⟩:=List.pairwise_cons.1 ha
   obtain ⟨b1,b2⟩:=List.pairwise_cons.1 hb
   have hxy:x=y:=by
    rcases List.mem_cons.1 ((h x).1 (by simp)) with e | e
    ·exact e
    ·rcases List.mem_cons.1 ((h y).2 (by simp)) with e2 | e2
     ·exact e2.symm
     ·have:=b1 x e; have:=a1 y e2; omega
   subst hxy
   rw [ih a2 b2 fun n=>?_]
   constructor
   ·intro hn
    rcases List.mem_cons.1 ((h n).1 (List.mem_cons_of_mem _ hn)) with e | e
    ·have:=a1 n hn; rw [e] at this; omega
    ·exact e
   ·intro hn
    rcases List.mem_cons.1 ((h n).2 (List.mem_cons_of_mem _ hn)) with e | e
    ·have:=b1 n hn; rw [e] at this; omega
    ·exact e
def pastM (a:Int) (m:AllM) (p:api_Past):AllM:=if (decide (p.From≤a)&&decide (a < p.Till))=true then mset p.Node.Ino p.Node m else m
def nowM (a:Int) (m:AllM) (q:api_Node×Int):AllM:=if decide (q.2≤a)=true then mset q.1.Ino q.1 m else m
def allM (s:api_Shots) (a:Int):AllM:=(s.Now.Nodes.zip s.Since).foldl (nowM a) (s.Pasts.foldl (pastM a) [])
def Seen (s:api_Shots) (a:Int) (n:api_Node):Prop:=(∃q,q∈s.Now.Nodes.zip s.Since∧q.1=n∧q.2≤a)∨∃p,p∈s.Pasts∧p.Node=n∧p.From≤a∧a < p.Till
theorem pastM_len (a:Int):∀(l:List api_Past) (m:AllM),(l.foldl (pastM a) m).length≤m.length+l.length
 | [],_=>Nat.le_refl _
 | p::l,m=>by
  rw [List.foldl_cons]
  have h1:=pastM_len a l (pastM a m p)
  have h2:(pastM a m p).length≤m.length+1:=by
   unfold pastM; split
   ·exact mset_len _ _ _
   ·omega
  simp only [List.length_cons]; omega
theorem nowM_len (a:Int):∀(l:List (api_Node×Int)) (m:AllM),(l.foldl (nowM a) m).length≤m.length+l.length
 | [],_=>Nat.le_refl _
 | p::l,m=>by
  rw [List.foldl_cons]
  have h1:=nowM_len a l (nowM a m p)
  have h2:(nowM a m p).length≤m.length+1:=by
   unfold nowM; split
   ·exact mset_len _ _ _
   ·omega
  simp only [List.length_cons]; omega
theorem pastM_get (a j:Int) (n:api_Node):∀(l:List api_Past) (m:AllM),mget j (l.foldl (pastM a) m)=some n→(∃p,p∈l∧p.Node=n∧n.Ino=j∧p.From≤a∧a < p.Till)∨mget j m=some n
 | [],_,h=>.inr h
 | p::l,m,h=>by
  rw [List.foldl_cons] at h
  rcases pastM_get a j n l _ h with ⟨q,hq,h1⟩ | h1
  ·exact .inl ⟨q,List.mem_cons_of_mem _ hq,h1⟩
  ·unfold pastM at h1
   split at h1
   ·next hc =>
    rw [mget_set] at h1
    split at h1
    ·next e=>cases h1; simp at hc; exact .inl ⟨p,by simp,rfl,e.symm,hc.1,hc.2⟩
    ·exact .inr h1
   ·exact .inr h1
theorem nowM_get (a j:Int) (n:api_Node):∀(l:List (api_Node×Int)) (m:AllM),mget j (l.foldl (nowM a) m)=some n→(∃q,q∈l∧q.1=n∧n.Ino=j∧q.2≤a)∨mget j m=some n
 | [],_,h=>.inr h
 | p::l,m,h=>by
  rw [List.foldl_cons] at h
  rcases nowM_get a j n l _ h with ⟨q,hq,h1⟩ | h1
  ·exact .inl ⟨q,List.mem_cons_of_mem _ hq,h1⟩
  ·unfold nowM at h1
   split at h1
   ·next hc =>
    rw [mget_set] at h1
    split at h1
    ·next e=>cases h1; simp at hc; exact .inl ⟨p,by simp,rfl,e.symm,hc⟩
    ·exact .inr h1
   ·exact .inr h1
theorem pastM_some (a j:Int):∀(l:List api_Past) (m:AllM),((mget j m).isSome=true∨∃p,p∈l∧p.Node.Ino=j∧p.From≤a∧a < p.Till)→(mget j (l.foldl (pastM a) m)).isSome=true
 | [],_,h=>h.elim id fun ⟨p,hp,_⟩=>by cases hp
 | p::l,m,h=>by
  rw [List.foldl_cons]
  refine pastM_some a j l _ ?_
  have key:∀i,(mget i m).isSome=true→(mget i (pastM a m p)).isSome=true:=fun i hi=>by
   unfold pastM; split
   ·rw [mget_set]; split; rfl; exact hi
   ·exact hi
  rcases h with h | ⟨q,hq,h1,h2,h3⟩
  ·exact .inl (key j h)
  ·rcases List.mem_cons.1 hq with rfl | hq
   ·left
    unfold pastM
    rw [if_pos (by simp [h2,h3]),mget_set,if_pos h1.symm]; rfl
   ·exact .inr ⟨q,hq,h1,h2,h3⟩
theorem nowM_some (a j:Int):∀(l:List (api_Node×Int)) (m:AllM),((mget j m).isSome=true∨∃q,q∈l∧q.1.Ino=j∧q.2≤a)→(mget j (l.foldl (nowM a) m)).isSome=true
 | [],_,h=>h.elim id fun ⟨p,hp,_⟩=>by cases hp
 | p::l,m,h=>by
  rw [List.foldl_cons]
  refine nowM_some a j l _ ?_
  have key:∀i,(mget i m).isSome=true→(mget i (nowM a m p)).isSome=true:=fun i hi=>by
   unfold nowM; split
   ·rw [mget_set]; split; rfl; exact hi
   ·exact hi
  rcases h with h | ⟨q,hq,h1,h2⟩
  ·exact .inl (key j h)
  ·rcases List.mem_cons.1 hq with rfl | hq
   ·left
    unfold nowM
    rw [if_pos (by simp [h2]),mget_set,if_pos h1.symm]; rfl
   ·exact .inr ⟨q,hq,h1,h2⟩
theorem all_get {s:api_Shots} {a:Int} (hu:∀m n,Seen s a m→Seen s a n→m.Ino=n.Ino→m=n) (j:Int) (n:api_Node):mget j (allM s a)=some n↔Seen s a n∧n.Ino=j:=by
 have hto:∀n,mget j (allM s a)=some n→Seen s a n∧n.Ino=j:=fun n h=>by
  rcases nowM_get a j n _ _ h with ⟨q,hq,h1,h2,h3⟩ | h
  ·exact ⟨.inl ⟨q,hq,h1,h3⟩,h2⟩
  ·rcases pastM_get a j n _ _ h with ⟨p,hp,h1,h2,h3⟩ | h
   ·exact ⟨.inr ⟨p,hp,h1,h3⟩,h2⟩
   ·cases h
 refine ⟨hto n,fun ⟨h,hj⟩=>?_⟩
 have:(mget j (allM s a)).isSome=true:=by
  rcases h with ⟨q,hq,h1,h2⟩ | ⟨p,hp,h1,h2,h3⟩
  ·exact nowM_some a j _ _ (.inr ⟨q,hq,by rw [h1,hj],h2⟩)
  ·exact nowM_some a j _ _ (.inl (pastM_some a j _ _ (.inr ⟨p,hp,by rw [h1,hj],h2,h3⟩)))
 obtain ⟨m,hm⟩:=Option.isSome_iff_exists.1 this
 obtain ⟨h1,h2⟩:=hto m hm
 rw [hm,hu m n h1 h (by rw [h2,hj])]
theorem p_hadL1 (s:api_Shots) (x:api_Shot) (hp:s.Pasts.length≤1000000) (hi:∀p,p∈s.Pasts→InI64 p.Node.Ino):shot_had_L1 s x (0,[])=some (s.Pasts.foldl (pastM x.At) []):=by
 refine Tot.eq ?_
 unfold shot_had_L1
 refine Tot.each (l:=s.Pasts) (fun k m=>m=(s.Pasts.take k).foldl (pastM x.At) []) (fun k p m hlt hx hm=>?_) (fun m hm=>?_) _ rfl
 ·have hl:=pastM_len x.At (s.Pasts.take k) []
  rw [←hm,List.length_take] at hl
  simp only [List.length_nil] at hl
  unfold shot_had_B1
  refine Tot.cond (by simpa using hlt) ?_
  dsimp only
  rw [idx_some hx,Option.bind_some,ba (b:=decide (x.At < p.Till)) (fun _=>rfl),Option.bind_some,Option.bind_some]
  refine Tot.bind (R:=(·=pastM x.At m p)) ?_ fun v hv=>Tot.chk (by unfold InI64; omega) (Tot.inl ⟨rfl,by rw [take_snoc hx,List.foldl_append,←hm]; exact hv⟩)
  unfold pastM
  refine Tot.ite (fun e=>Tot.chk ⟨hi p (List.mem_of_getElem? hx),by omega⟩ (Tot.ret (by rw [if_pos e]))) fun e=>Tot.ret (by rw [if_neg e])
 ·rw [List.take_length] at hm
  unfold shot_had_B1
  exact Tot.ncond (by simp) (Tot.out (Tot.ret hm))
theorem p_hadL2 (s:api_Shots) (x:api_Shot) (m0:AllM) (h0:m0.length≤1000000) (hn:s.Now.Nodes.length≤1000000) (hs:s.Since.length=s.Now.Nodes.length) (hi:∀n,n∈s.Now.Nodes→InI64 n.Ino):shot_had_L2 s x (0,m0)=some ((s.Now.Nodes.zip s.Since).foldl (nowM x.At) m0):=by
 refine Tot.eq ?_
 have hz:(s.Now.Nodes.zip s.Since).length=s.Now.Nodes.length:=by rw [List.length_zip,hs]; omega
 unfold shot_had_L2
 refine Tot.each (l:=s.Now.Nodes.zip s.Since) (fun k m=>m=((s.Now.Nodes.zip s.Since).take k).foldl (nowM x.At) m0) (fun k q m hlt hx hm=>?_) (fun m hm=>?_) _ rfl
 ·obtain ⟨h1,h2⟩:=zip_at hx
  have hl:=nowM_len x.At ((s.Now.Nodes.zip s.Since).take k) m0
  rw [←hm,List.length_take] at hl
  unfold shot_had_B2
  refine Tot.cond (by simp; omega) ?_
  dsimp only
  rw [idx_some h1,Option.bind_some,idx_some h2,Option.bind_some]
  refine Tot.bind (R:=(·=nowM x.At m q)) ?_ fun v hv=>Tot.chk (by unfold InI64; omega) (Tot.inl ⟨rfl,by rw [take_snoc hx,List.foldl_append,←hm]; exact hv⟩)
  unfold nowM
  refine Tot.ite (fun e=>Tot.chk ⟨hi q.1 (List.mem_of_getElem? h1),by omega⟩ (Tot.ret (by rw [if_pos e]))) fun e=>Tot.ret (by rw [if_neg e])
 ·rw [List.take_length] at hm
  unfold shot_had_B2
  exact Tot.ncond (by rw [hz]; simp) (Tot.out (Tot.ret hm))
def HadP (g:Int→Option api_Node) (i:Int) (r:List api_Node×Bool):Prop:=SrtN r.1∧(∀n,n∈r.1↔Rch g i n.Ino∧g n.Ino=some n)∧(r.2=true↔∀j,Rch g i j→(g j).isSome=true)
theorem HadP.eq {g g':Int→Option api_Node} {i:Int} {r r':List api_Node×Bool} (h:HadP g i r) (h':HadP g' i r') (hg:∀j,g j=g' j):r=r':=by
 obtain rfl:g=g':=funext hg
 refine Prod.ext (srt_ext h.1 h'.1 fun n=>(h.2.1 n).trans (h'.2.1 n).symm) ?_
 have:=h.2.2.trans h'.2.2.symm
 cases h1:r.2 <;> cases h2:r'.2 <;> simp_all
theorem p_had (s:api_Shots) (x:api_Shot) (hp:s.Pasts.length≤400000) (hi:∀p,p∈s.Pasts→InI64 p.Node.Ino) (hn:s.Now.Nodes.length≤400000) (hs:s.Since.length=s.Now.Nodes.length) (hin:∀n,n∈s.Now.Nodes→InI64 n.Ino) (hG:GOK (allM s x.At)) (hx:0≤x.Ino∧x.Ino < 5000):Tot (shot_had s x) (HadP (fun j=>mget j (allM s x.At)) x.Ino):=by
 unfold shot_had
 refine Tot.bindeq (p_hadL1 s x (by omega) hi) (Tot.bindeq (p_hadL2 s x _ (by have:=pastM_len x.At s.Pasts []; simp only [List.length_nil] at this; omega) (by omega) hs hin) ?_)
 show Tot ((shot_had_1 x.Ino [] (allM s x.At)).bind _) _
 refine Tot.bind (v_had1 hG x.Ino hx) fun r hr=>?_
 obtain ⟨h1,h2,h3,h4⟩:=hr
 obtain ⟨N,hN,hN1,hN2,hN3⟩:=h2.new
 have h0:∀j,¬isM [] j:=fun j h=>by cases h
 have hme:∀j,Rch (fun j=>mget j (allM s x.At)) x.Ino j↔isM r.2.1 j:=fun j=>by
  constructor
  ·intro h
   induction h with
   | refl=>exact h3
   | @step j n e h5 h6 h7 ih=>exact h2.cl j ih (h0 j) n h6 e h7
  ·intro h
   obtain ⟨i,rfl,h5⟩:=h2.rc j h (h0 j)
   exact h5
 rw [List.nil_append] at hN
 refine Tot.bind (sort_nodes (l:=r.2.2.2) (by rw [hN]; exact hN2) (by have:=h4.ol; omega)) fun l hl=>Tot.ret ⟨hl.1,fun n=>?_,?_⟩
 ·rw [hl.2,hN,hme]
  constructor
  ·intro hn; obtain ⟨a,b,c⟩:=hN1 n hn; exact ⟨c,a⟩
  ·rintro ⟨a,b⟩; exact hN3 _ a (h0 _) n b
 ·show r.1=true↔_
  rw [h2.wh]
  exact ⟨fun a j hj=>a j ((hme j).1 hj) (h0 j),fun a j hj _=>a j ((hme j).2 hj)⟩
end Go.Proofs
