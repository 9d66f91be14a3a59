/- Chunks, plain: copies read; the document's disks. No condition. -/
import Derived.Test.YtaaaipgdnofafaaGreatXChainStaleP26g
namespace Go.Proofs
set_option linter.all false
open Go Go.Cat
set_option linter.all false
theorem t_GetS (d:api_Disk) (id:Int) (hd:smallD d):Tot (chunk_Get d id) (fun r=>(if (thereN d id).2=0 then r.2=0∨r.2=251 else r.2=(thereN d id).2)∧(r.1.Data.length≤1000∧r.1.Sums.length≤1000)∧(r.2=0→mayP r.1∧r.1.Id=id∧pageN r.1=(thereN d id).1)∧(r.2≠0→r.1=⟨0,0,[],[]⟩)):=by
 unfold chunk_Get
 refine Tot.bindeq (p_there d id hd) ?_
 have hl:=thereN_len hd id
 refine Tot.ite (fun h=>Tot.ret ⟨by rw [if_neg (by simpa using h)],by simp,fun h0=>?_,fun _=>rfl⟩) fun h=>?_
 ·simp at h; exact (h h0).elim
 have h0:(thereN d id).2=0:=by simpa using h
 have h251:(251:Int)=0→False:=by decide
 simp only [if_pos h0]
 refine Tot.ite (fun _=>Tot.ret ⟨.inr rfl,by simp,fun h=>(h251 h).elim,fun _=>rfl⟩) fun h4=>?_
 have h4:4≤(thereN d id).1.length:=by simp at h4; omega
 refine Tot.chk (by unfold InI64; omega) (Tot.chk (by omega) ?_)
 refine Tot.bind (t_copy _ (by simp; omega)) fun r hr=>?_
 have hr:r.1.1.Sums.length≤1000:=Nat.le_trans hr (by simp; omega)
 refine Tot.bind (R:=fun v=>v=false→mayP r.1.1∧r.1.1.Id=id∧pageN r.1.1=(thereN d id).1) ?_ fun v hv=>Tot.ite (fun _=>Tot.ret ⟨.inr rfl,by simp,fun h=>(h251 h).elim,fun _=>rfl⟩) (fun hn=>?_)
 ·refine Tot.bind (R:=fun c=>c=false→mayP r.1.1) ?_ fun c1 hc1=>?_
  ·refine Tot.ite (fun hx=>Tot.ret fun e=>by cases e) fun hx=>Tot.bind (p_may r.1.1 (by omega)) fun b hb=>Tot.ret fun hh=>hb.1 (by simpa using hh)
  refine Tot.bind (R:=fun c=>c=false→mayP r.1.1∧r.1.1.Id=id) (Tot.ite (fun _=>Tot.ret fun e=>by cases e) fun hc=>Tot.ret fun e=>⟨hc1 (by simpa using hc),by simpa using e⟩) fun c2 hc2=>?_
  refine Tot.bind (R:=fun c=>c=false→mayP r.1.1∧r.1.1.Id=id∧pageN r.1.1=(thereN d id).1) (Tot.ite (fun _=>Tot.ret fun e=>by cases e) fun hc=>?_) fun c3 h=>Tot.ret h
  have hp:=hc2 (by simpa using hc)
  refine Tot.bindeq (p_page _ (mayP_small hp.1)) (Tot.bindeq rfl (Tot.ret fun e=>⟨hp.1,hp.2,by simpa using e⟩))
 ·have hp:=hv (by simpa using hn)
  have hs:=mayP_small hp.1
  exact Tot.ret ⟨.inl rfl,⟨hs.2.2.1,hs.2.2.2.1⟩,fun _=>hp,fun h=>(h rfl).elim⟩
def uniq (l:List api_Page):Prop:=∀i j:Nat,i < j→∀p q,l[i]?=some p→l[j]?=some q→p.At < q.At
theorem uniq_eq {l:List api_Page} (h:uniq l) {x y:api_Page} (hx:x∈l) (hy:y∈l) (e:x.At=y.At):x=y:=by
 obtain ⟨i,hi,rfl⟩:=List.getElem_of_mem hx
 obtain ⟨j,hj,rfl⟩:=List.getElem_of_mem hy
 rcases Nat.lt_trichotomy i j with h' | h' | h'
 ·have:=h i j h' _ _ (List.getElem?_eq_getElem hi) (List.getElem?_eq_getElem hj); omega
 ·subst h'; rfl
 ·have:=h j i h' _ _ (List.getElem?_eq_getElem hj) (List.getElem?_eq_getElem hi); omega
theorem uniq_find {l:List api_Page} (h:uniq l) (a:Int):l.reverse.find? (fun p=>p.At == a)=l.find? (fun p=>p.At == a):=by
 cases hf:l.find? (fun p=>p.At == a) with
 | none =>
  rw [List.find?_eq_none] at hf ⊢
  intro x hx; exact hf x (List.mem_reverse.1 hx)
 | some x =>
  have hx:=List.find?_some hf
  have hm:=List.mem_of_find?_eq_some hf
  cases hr:l.reverse.find? (fun p=>p.At == a) with
  | none =>
   rw [List.find?_eq_none] at hr
   exact (hr x (List.mem_reverse.2 hm) hx).elim
  | some y =>
   have hy:=List.find?_some hr
   have hmy:=List.mem_reverse.1 (List.mem_of_find?_eq_some hr)
   have:=uniq_eq h hmy hm ((eq_of_beq hy).trans (eq_of_beq hx).symm)
   rw [this]
theorem find_last {l:List api_Page} {p:api_Page→Bool} {i:Nat} {x:api_Page} (hx:l[i]?=some x) (hp:p x=true) (hno:∀j y,i < j→l[j]?=some y→p y=false):l.reverse.find? p=some x:=by
 have hi:i < l.length:=(List.getElem?_eq_some_iff.1 hx).1
 have hsplit:l=l.take i++x::l.drop (i+1):=by
  have:l[i]=x:=by rw [List.getElem?_eq_getElem hi] at hx; exact Option.some.inj hx
  rw [←this,←List.drop_eq_getElem_cons hi,List.take_append_drop]
 rw [hsplit,List.reverse_append,List.reverse_cons,List.append_assoc,List.find?_append]
 have hn:(l.drop (i+1)).reverse.find? p=none:=by
  rw [List.find?_eq_none]
  intro y hy
  obtain ⟨k,hk,e⟩:=List.getElem_of_mem (List.mem_reverse.1 hy)
  have:=hno (i+1+k) y (by omega) (by rw [←List.getElem?_drop,List.getElem?_eq_getElem hk,e])
  simp [this]
 rw [hn]
 simp [hp]
theorem r_Read (d:api_Disk) (a:Int) (hd:smallD d) (hu:uniq d.Synced):ref04_Read d a=some (readN d a):=by
 obtain ⟨h1,h2,-⟩:=hd
 refine Tot.eq ?_
 unfold ref04_Read readN
 refine Tot.ite (fun h=>Tot.ret (by rw [if_pos h])) fun h=>?_
 simp only [if_neg h]
 refine Tot.bind (R:=Tells (a < 0∨999 < a)) (Tot.bind (Tot.orI (by simp) fun _=>Tot.dec (by omega)) fun _ h=>Tot.ret h) fun v hv=>Tot.ite (fun ht=>Tot.ret ?_) fun hf=>?_
 ·have:=hv.1 ht
  rw [if_neg (by unfold mayN; omega)]
 have hin:¬(a < 0∨999 < a):=fun hh=>hf (hv.2 hh)
 have hm:mayN a 0:=by unfold mayN; omega
 simp only [if_pos hm]
 rw [List.reverse_append,List.find?_append,uniq_find hu]
 refine Tot.chk (by unfold InI64; omega) ?_
 have k2:d.Loose.reverse.find? (fun p=>p.At == a)=none→Tot (ref04_Read_L2 d a 0) (·=(match (d.Loose.reverse.find? (fun p=>p.At == a)).or (d.Synced.find? (fun p=>p.At == a)) with | none=>([],41) | some p=>(p.Data,0))):=by
  intro hn
  unfold ref04_Read_L2
  have:=loop_find (b:=d.Synced) (B:=ref04_Read_B2 d a) (fun p=>p.At == a) (fun _ p=>(p.Data,(0:Int))) (([]:List UInt8),(41:Int)) ?_ ?_
  ·rw [this,hn]
   refine Tot.ret ?_
   rw [←find_idx]
   simp only [Option.none_or]
   cases hfi:d.Synced.findIdx? (fun p=>p.At == a) with
   | none=>rfl
   | some n =>
    dsimp only
    cases hg:d.Synced[n]? with
    | none=>rfl
    | some x=>rfl
  ·intro n x hx hn
   cases hc:x.At == a
   ·rw [if_neg (by decide)]
    refine Tot.eq ?_
    unfold ref04_Read_B2
    exact Tot.ite (fun _=>Tot.bindeq (idx_some hx) (Tot.ite (fun h=>by rw [hc] at h; cases h) (fun h=>Tot.chk (by unfold InI64; omega) (Tot.ret rfl)))) (fun hh=>absurd hh (by simp; omega))
   ·rw [if_pos rfl]
    refine Tot.eq ?_
    unfold ref04_Read_B2
    exact Tot.ite (fun _=>Tot.bindeq (idx_some hx) (Tot.ite (fun h=>Tot.bindeq (idx_some hx) ⟨_,rfl,rfl⟩) (fun h=>absurd hc h))) (fun hh=>absurd hh (by simp; omega))
  ·unfold ref04_Read_B2 ref04_Read_J2
   rw [if_neg (by simp)]; rfl
 unfold ref04_Read_L1
 refine Tot.loop (fun s:Int=>-1≤s∧s < (d.Loose.length:Int)∧∀(j:Nat) y,s < (j:Int)→d.Loose[j]?=some y→(y.At == a)=false) (fun s=>(s+1).toNat) ?_ _ ⟨by omega,by omega,fun j y hj hy=>by have:=(List.getElem?_eq_some_iff.1 hy).1; omega⟩
 rintro s ⟨g0,g1,g2⟩
 unfold ref04_Read_B1 ref04_Read_J1
 refine Tot.ite (fun hge=>?_) (fun hlt=>Tot.out (k2 ?_))
 ·have hge:0≤s:=by simpa using hge
  refine Tot.bind (Tot.idx hge (by omega) (Q:=fun x=>d.Loose[s.toNat]?=some x) fun _ h=>h) fun x hx=>Tot.ite (fun he=>?_) (fun he=>Tot.chk (by unfold InI64; omega) (Tot.inl ⟨⟨by omega,by omega,fun j y hj hy=>?_⟩,by omega⟩))
  ·refine Tot.bind (Tot.idx hge (by omega) (Q:=fun y=>d.Loose[s.toNat]?=some y) fun _ h=>h) fun y hy=>Tot.out (Tot.ret ?_)
   rw [hx] at hy; cases hy
   rw [find_last (p:=fun p=>p.At == a) hx he (fun j y hj hy=>g2 j y (by omega) hy)]
   rfl
  ·rcases (show s < (j:Int)∨(j:Int)≤s by omega) with h | h
   ·exact g2 j y h hy
   ·have:j=s.toNat:=by omega
    subst this
    rw [hx] at hy; cases hy
    simpa using he
 ·have hlt:¬0≤s:=by simpa using hlt
  rw [List.find?_eq_none]
  intro y hy
  obtain ⟨j,hj,e⟩:=List.getElem_of_mem (List.mem_reverse.1 hy)
  have:=g2 j y (by omega) (by rw [List.getElem?_eq_getElem hj,e])
  simp [this]
theorem mset_new {α:Type} (n:Int) (v:α):∀m:List (Int×α),n∉m.map (·.1)→mset n v m=m++[(n,v)]
 | [],_=>rfl
 | (j,c)::r,h=>by
  simp only [List.map_cons,List.mem_cons,not_or] at h
  unfold mset
  rw [if_neg (fun e=>h.1 e.symm),mset_new n v r h.2]; rfl
theorem mset_keys {α:Type} (n:Int) (v:α):∀m:List (Int×α),n∈m.map (·.1)→(mset n v m).map (·.1)=m.map (·.1)
 | [],h=>by simp at h
 | (j,c)::r,h=>by
  unfold mset
  by_cases e:j=n
  ·rw [if_pos e]; rfl
  ·rw [if_neg e]
   simp only [List.map_cons,List.mem_cons] at h ⊢
   rw [mset_keys n v r (h.resolve_left fun q=>e q.symm)]
theorem mset_nodup {α:Type} (n:Int) (v:α) (m:List (Int×α)) (h:(m.map (·.1)).Nodup):((mset n v m).map (·.1)).Nodup:=by
 by_cases e:n∈m.map (·.1)
 ·rw [mset_keys n v m e]; exact h
 ·rw [mset_new n v m e,List.map_append]
  refine List.nodup_append.2 ⟨h,by simp,fun a ha b hb=>?_⟩
  have hb:b=n:=by simpa using hb
  intro hab; rw [hab,hb] at ha; exact e ha
theorem by_nodup:∀(l:List api_Page) (m:List (Int×api_Page)),(m.map (·.1)).Nodup→((byM m l).map (·.1)).Nodup
 | [],_,h=>h
 | p::l,m,h=>by_nodup l (mset p.At p m) (mset_nodup p.At p m h)
def Asc (l:List api_Page):Prop:=l.Pairwise fun a b=>a.At < b.At
theorem keys_asc (m:List (Int×api_Page)) (h:(m.map (·.1)).Nodup):(keysI m).Pairwise (· < ·):=by
 have h1:(keysI m).Pairwise (fun a b=>decide (a≤b)=true):=List.pairwise_mergeSort (fun a b c h1 h2=>by simp at h1 h2 ⊢; omega) (fun a b=>by simp; omega) _
 have h2:(keysI m).Nodup:=(List.mergeSort_perm _ _).nodup_iff.2 h
 exact (h1.and h2).imp fun ⟨x,y⟩=>by simp at x; omega
theorem laid_asc (l o:List api_Page):Asc (laidN l o):=by
 unfold Asc laidN
 rw [List.pairwise_map]
 refine (List.pairwise_iff_forall_sublist.2 fun {a b} hs=>?_)
 have hk:=List.pairwise_iff_forall_sublist.1 (keys_asc _ (by_nodup (l++o) [] (by simp))) hs
 have at_:∀k,k∈keysI (byM [] (l++o))→((mget k (byM [] (l++o))).getD (⟨0,[]⟩:api_Page)).At=k:=fun k hk=>by
  obtain ⟨v,hv⟩:=mem_mget (mem_keys.1 hk)
  rw [hv]
  rw [mget_by0] at hv
  exact (last_at hv).1
 rw [at_ a (hs.subset (by simp)),at_ b (hs.subset (by simp))]
 exact hk
def layN (S:List api_Page) (p:api_Page):List api_Page:=S.filter (fun x=>decide (x.At < p.At))++p::S.filter (fun x=>decide (p.At < x.At))
def layG (p:api_Page) (s:Bool×List api_Page) (x:api_Page):Bool×List api_Page :=
 let s':=if (!s.1&&decide (x.At≥p.At)) then (true,s.2++[p]) else s
 if x.At≠p.At then (s'.1,s'.2++[x]) else s'
def syncN (d:api_Disk):api_Disk×Int:=if d.Down then (d,40) else (⟨laidN d.Synced d.Loose,[],false⟩,0)
end Go.Proofs
