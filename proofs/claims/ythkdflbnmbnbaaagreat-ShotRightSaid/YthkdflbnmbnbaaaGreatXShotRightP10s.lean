/- Shots, plain: a visit. No condition. -/
import Derived.Test.YthkdflbnmbnbaaaGreatXShotRightP10r
namespace Go.Proofs
set_option linter.all false
open Go Go.Cat
set_option linter.all false
structure MO (m:Met) (o:List api_Node):Prop where
 k:(m.map (·.1)).Pairwise (·≠·)
 r:∀p,p∈m→0≤p.1∧p.1 < 5000
 ok:(o.map (·.Ino)).Pairwise (·≠·)
 om:∀n,n∈o→isM m n.Ino
theorem MO.ml {m:Met} {o:List api_Node} (h:MO m o):m.length≤5000:=by
 have:=len_range 5000 (m.map (·.1)) h.k fun x hx=>by
  obtain ⟨p,hp,rfl⟩:=List.mem_map.1 hx
  exact h.r p hp
 rw [List.length_map] at this; exact this
theorem MO.ol {m:Met} {o:List api_Node} (h:MO m o):o.length≤5000:=by
 have:=len_range 5000 (o.map (·.Ino)) h.ok fun x hx=>by
  obtain ⟨n,hn,rfl⟩:=List.mem_map.1 hx
  obtain ⟨p,hp,e⟩:=mget_key.1 (h.om n hn)
  rw [←e]; exact h.r p hp
 rw [List.length_map] at this; exact this
theorem MO.set {m:Met} {o:List api_Node} (h:MO m o) {i:Int} (hi:¬isM m i) (hr:0≤i∧i < 5000) (v:struct_struct):MO (mset i v m) o:=by
 rcases mget_at i v m with ⟨h1,h2,h3⟩ | ⟨j,c,h1,h2,_⟩
 ·rw [h2]
  refine ⟨?_,fun p hp=>?_,h.ok,fun n hn=>?_⟩
  ·rw [List.map_append]
   refine List.pairwise_append.2 ⟨h.k,List.pairwise_singleton _ _,fun a ha b hb=>?_⟩
   obtain ⟨p,hp,rfl⟩:=List.mem_map.1 ha
   simp at hb; rw [hb]; exact h3 p hp
  ·rcases List.mem_append.1 hp with hp | hp
   ·exact h.r p hp
   ·obtain rfl:=List.mem_singleton.1 hp; exact hr
  ·rw [←h2]; exact (isM_set _ _ _ _).2 (.inr (h.om n hn))
 ·exact absurd (by unfold isM; rw [h2]; rfl) hi
theorem MO.out {m:Met} {o:List api_Node} (h:MO m o) {n:api_Node} (hn:isM m n.Ino) (ho:∀x,x∈o→x.Ino≠n.Ino):MO m (o++[n]):=by
 refine ⟨h.k,h.r,?_,fun x hx=>?_⟩
 ·rw [List.map_append]
  refine List.pairwise_append.2 ⟨h.ok,List.pairwise_singleton _ _,fun a ha b hb=>?_⟩
  obtain ⟨p,hp,rfl⟩:=List.mem_map.1 ha
  simp at hb; rw [hb]; exact ho p hp
 ·rcases List.mem_append.1 hx with hx | hx
  ·exact h.om x hx
  ·obtain rfl:=List.mem_singleton.1 hx; exact hn
structure GOK (all:AllM):Prop where
 i:∀j n,mget j all=some n→n.Ino=j
 e:∀j n,mget j all=some n→∀e,e∈n.Ents→0≤e.Ino∧e.Ino < 5000
 l:∀j n,mget j all=some n→n.Ents.length≤100000
abbrev VF:=(Int×Met×AllM×List api_Node)→Option (Bool×Met×AllM×List api_Node)
def VPost (all:AllM) (i:Int) (m:Met) (o:List api_Node) (r:Bool×Met×AllM×List api_Node):Prop :=
 r.2.2.1=all∧Tr (fun j=>mget j all) (·=i) m o r.2.1 r.2.2.2 r.1∧isM r.2.1 i∧MO r.2.1 r.2.2.2
theorem v_body {f:VF} {all:AllM} (hG:GOK all) (P:Met→Prop) (hP:∀m m',(∀j,isM m j→isM m' j)→P m→P m')
  (hf:∀i m o,0≤i∧i < 5000→MO m o→P m→Tot (f (i,m,all,o)) (VPost all i m o)) {i:Int} {m:Met} {o:List api_Node} (hr:0≤i∧i < 5000) (hm:MO m o)
  (hs:¬isM m i→(mget i all).isSome=true→P (mset i ⟨⟩ m)):Tot (shotN17 f i m all o) (VPost all i m o):=by
 have hml:=hm.ml; have hol:=hm.ol
 unfold shotN17
 refine Tot.bindeq rfl (Tot.ite (fun e=>Tot.ret ⟨rfl,Tr.refl,e,hm⟩) fun e=>?_)
 have hi:¬isM m i:=e
 refine Tot.chk ⟨by unfold InI64; omega,by omega⟩ (Tot.bindeq rfl ?_)
 cases hg:mget i all with
 | none=>exact Tot.cond rfl (Tot.ret ⟨rfl,Tr.none hi hg,(isM_set _ _ _ _).2 (.inl rfl),hm.set hi hr _⟩)
 | some n =>
  have hni:=hG.i i n hg
  have hnl:=hG.l i n hg
  have hi1:isM (mset i (⟨⟩:struct_struct) m) i:=(isM_set _ _ _ _).2 (.inl rfl)
  have hm1:MO (mset i ⟨⟩ m) (o++[n]):=(hm.set hi hr _).out (by rw [hni]; exact hi1) fun x hx ex=>hi (by rw [←hni,←ex]; exact hm.om x hx)
  have hp1:P (mset i ⟨⟩ m):=hs hi (by rw [hg]; rfl)
  refine Tot.ncond (by simp) (Tot.chk (by simp only [List.length_cons,List.length_nil]; omega) ?_)
  show Tot ((shotN19 n f (true,0,mset i ⟨⟩ m,all,o++[n])).bind _) _
  refine Tot.bind (R:=fun v:Bool×Met×AllM×List api_Node=>v.2.2.1=all∧Tr (fun j=>mget j all) (fun r=>∃e,e∈n.Ents∧e.Ino=r) (mset i ⟨⟩ m) (o++[n]) v.2.1 v.2.2.2 v.1∧(∀e,e∈n.Ents→isM v.2.1 e.Ino)∧MO v.2.1 v.2.2.2) ?_ fun v hv=>Tot.ret ⟨hv.1,Tr.one hG.i hi hg hv.2.1 hv.2.2.1,hv.2.1.mo _ hi1,hv.2.2.2⟩
  unfold shotN19
  refine Tot.eachG (l:=n.Ents) (fun s:Bool×Int×Met×AllM×List api_Node=>s.2.1) (fun k s=>s.2.2.2.1=all∧Tr (fun j=>mget j all) (fun r=>∃e,e∈n.Ents∧e.Ino=r) (mset i ⟨⟩ m) (o++[n]) s.2.2.1 s.2.2.2.2 s.1∧(∀e,e∈n.Ents.take k→isM s.2.2.1 e.Ino)∧MO s.2.2.1 s.2.2.2.2) (fun k e s hlt he hc hi=>?_) (fun s hc hi=>?_) _ rfl ⟨rfl,Tr.refl,fun e he=>by simp at he,hm1⟩
  ·obtain ⟨w,c,mk,al,ok⟩:=s
   dsimp only at hc hi
   subst hc
   obtain ⟨rfl,ht,hch,hmk⟩:=hi
   have hem:=List.mem_of_getElem? he
   unfold shotN15
   refine Tot.cond (by simpa using hlt) ?_
   dsimp only
   refine Tot.bind (R:=fun v:Bool×Met×AllM×List api_Node=>v.2.2.1=al∧Tr (fun j=>mget j al) (fun r=>∃e,e∈n.Ents∧e.Ino=r) (mset i ⟨⟩ m) (o++[n]) v.2.1 v.2.2.2 v.1∧(∀e,e∈n.Ents.take (k+1)→isM v.2.1 e.Ino)∧MO v.2.1 v.2.2.2) (Tot.bindeq (idx_some he) (Tot.bind (hf e.Ino mk ok (hG.e i n hg e hem) hmk (hP _ _ ht.mo hp1)) fun r hr=>?_)) fun v hv=>Tot.chk (by unfold InI64; omega) (Tot.inl ⟨rfl,hv⟩)
   obtain ⟨h1,h2,h3,h4⟩:=hr
   refine Tot.bindeq (a:=r.1&&w) (by cases r.1 <;> rfl) (Tot.ret ⟨h1,ht.trans hG.i (h2.sub fun j hj=>⟨j,⟨e,hem,hj.symm⟩,.refl⟩),fun e' he'=>?_,h4⟩)
   rw [take_snoc he] at he'
   rcases List.mem_append.1 he' with he' | he'
   ·exact h2.mo _ (hch e' he')
   ·obtain rfl:=List.mem_singleton.1 he'; exact h3
  ·obtain ⟨w,c,mk,al,ok⟩:=s
   dsimp only at hc hi
   subst hc
   rw [List.take_length] at hi
   unfold shotN15
   exact Tot.ncond (by simp) (Tot.out (Tot.ret hi))
def muM (all:AllM) (m:Met):Nat:=(all.filter fun p=>!(mget p.1 m).isSome).length
theorem filter_le {α:Type} {p q:α→Bool}:∀{l:List α},(∀x,x∈l→p x=true→q x=true)→(l.filter p).length≤(l.filter q).length
 | [],_=>Nat.le_refl _
 | x::r,h=>by
  have ih:=filter_le (l:=r) fun y hy=>h y (List.mem_cons_of_mem _ hy)
  have hx:=h x (by simp)
  rw [List.filter_cons,List.filter_cons]
  cases hp:p x with
  | true=>rw [hx hp]; simp only [if_true,List.length_cons]; omega
  | false=>cases q x <;> simp only [if_true,Bool.false_eq_true,if_false,List.length_cons] <;> omega
theorem filter_lt {α:Type} {p q:α→Bool}:∀{l:List α},(∀x,x∈l→p x=true→q x=true)→(∃x,x∈l∧p x=false∧q x=true)→(l.filter p).length < (l.filter q).length
 | [],_,h=>by obtain ⟨x,hx,_⟩:=h; cases hx
 | x::r,h,hex=>by
  have hr:∀y,y∈r→p y=true→q y=true:=fun y hy=>h y (List.mem_cons_of_mem _ hy)
  have hle:=filter_le hr
  have hx:=h x (by simp)
  rw [List.filter_cons,List.filter_cons]
  obtain ⟨y,hy,h1,h2⟩:=hex
  rcases List.mem_cons.1 hy with rfl | hy
  ·rw [h1,h2]; simp only [if_true,Bool.false_eq_true,if_false,List.length_cons]; omega
  ·have ih:=filter_lt hr ⟨y,hy,h1,h2⟩
   cases hp:p x with
   | true=>rw [hx hp]; simp only [if_true,List.length_cons]; omega
   | false=>cases q x <;> simp only [if_true,Bool.false_eq_true,if_false,List.length_cons] <;> omega
theorem mu_mono {all:AllM} {m m':Met} (h:∀j,isM m j→isM m' j):muM all m'≤muM all m :=
 filter_le fun p _ hp=>by
  cases e:(mget p.1 m).isSome with
  | false=>rfl
  | true=>have:=h p.1 e; unfold isM at this; rw [this] at hp; cases hp
theorem mu_set {all:AllM} {m:Met} {i:Int} (hi:¬isM m i) (hg:(mget i all).isSome=true) (v:struct_struct):muM all (mset i v m) < muM all m:=by
 refine filter_lt (fun p _ hp=>?_) ?_
 ·cases e:(mget p.1 m).isSome with
  | false=>rfl
  | true=>have:isM (mset i v m) p.1:=(isM_set _ _ _ _).2 (.inr e); unfold isM at this; rw [this] at hp; cases hp
 ·obtain ⟨p,hp,e⟩:=mget_key.1 hg
  have h1:isM (mset i v m) p.1:=(isM_set _ _ _ _).2 (.inl e)
  unfold isM at h1 hi
  refine ⟨p,hp,by rw [h1]; rfl,?_⟩
  rw [e]
  cases h2:(mget i m).isSome with
  | false=>rfl
  | true=>exact absurd h2 hi
noncomputable def VFF:VF→VF:=fun f a=>shotN17 f a.1 a.2.1 a.2.2.1 a.2.2.2
theorem VFF_mono:RMono VFF:=fun f g h a r hr=>moN2 f g (fun a r=>h a r) a.1 a.2.1 a.2.2.1 a.2.2.2 r hr
theorem v_rec {all:AllM} (hG:GOK all):∀(n:Nat) (i:Int) (m:Met) (o:List api_Node),0≤i∧i < 5000→MO m o→muM all m < n→Tot (recN VFF n (i,m,all,o)) (VPost all i m o)
 | 0,_,_,_,_,_,h=>by omega
 | n+1,i,m,o,hr,hm,hn=>by
  show Tot (shotN17 (recN VFF n) i m all o) _
  exact v_body hG (fun m=>muM all m < n) (fun m m' h1 h2=>Nat.lt_of_le_of_lt (mu_mono h1) h2) (fun i m o=>v_rec hG n i m o) hr hm fun hi hg=>by have:=mu_set hi hg ⟨⟩; omega
theorem v_visit {all:AllM} (hG:GOK all) (i:Int) (m:Met) (o:List api_Node) (hr:0≤i∧i < 5000) (hm:MO m o):Tot (shotN13 i m all o) (VPost all i m o):=by
 obtain ⟨r,h1,h2⟩:=v_rec hG (muM all m+1) i m o hr hm (Nat.lt_succ_self _)
 exact ⟨r,fixO_of VFF_mono h1,h2⟩
theorem had1_eq (i:Int) (m:Met) (all:AllM):shot_had_1 i m all=shotN17 (fun a=>shotN13 a.1 a.2.1 a.2.2.1 a.2.2.2) i m all []:=rfl
theorem v_had1 {all:AllM} (hG:GOK all) (i:Int) (hr:0≤i∧i < 5000):Tot (shot_had_1 i [] all) (VPost all i [] []):=by
 rw [had1_eq]
 exact v_body hG (fun _=>True) (fun _ _ _ _=>trivial) (fun i m o hr hm _=>v_visit hG i m o hr hm) hr ⟨List.Pairwise.nil,fun p hp=>(by cases hp),List.Pairwise.nil,fun n hn=>(by cases hn)⟩ fun _ _=>trivial
end Go.Proofs
