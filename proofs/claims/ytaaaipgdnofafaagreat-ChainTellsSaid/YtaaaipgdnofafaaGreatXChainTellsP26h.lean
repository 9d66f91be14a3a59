/- Chunks, plain: copies read; the document's disks. No condition. -/
import Derived.Test.YtaaaipgdnofafaaGreatXChainTellsP26g
namespace Go.Proofs
set_option linter.all false
open Go Go.Cat
set_option linter.all false
theorem t_GetS (d:api_Disk) (id:Int) (hd:smallD d):Tot (chunk_Get d id) (fun r=>(if (thereN d id).2=0 then r.2=0∨r.2=251 else r.2=(thereN d id).2)∧(r.1.Data.length≤1000∧r.1.Sums.length≤1000)∧(r.2=0→mayP r.1∧r.1.Id=id∧pageN r.1=(thereN d id).1)∧(r.2≠0→r.1=⟨0,0,[],[]⟩)):=by
 unfold chunk_Get
 refine Tot.bindeq (p_there d id hd) ?_
 have hl:=thereN_len hd id
 refine Tot.ite (fun h=>Tot.ret ⟨by rw [if_neg (by simpa using h)],by simp,fun h0=>?_,fun _=>rfl⟩) fun h=>?_
 ·simp at h; exact (h h0).elim
 have h0:(thereN d id).2=0:=by simpa using h
 have h251:(251:Int)=0→False:=by decide
 simp only [if_pos h0]
 refine Tot.ite (fun _=>Tot.ret ⟨.inr rfl,by simp,fun h=>(h251 h).elim,fun _=>rfl⟩) fun h4=>?_
 have h4:4≤(thereN d id).1.length:=by simp at h4; omega
 refine Tot.chk (by unfold InI64; omega) (Tot.chk (by omega) ?_)
 refine Tot.bind (t_copy _ (by simp; omega)) fun r hr=>?_
 have hr:r.1.1.Sums.length≤1000:=Nat.le_trans hr (by simp; omega)
 refine Tot.bind (R:=fun v=>v=false→mayP r.1.1∧r.1.1.Id=id∧pageN r.1.1=(thereN d id).1) ?_ fun v hv=>Tot.ite (fun _=>Tot.ret ⟨.inr rfl,by simp,fun h=>(h251 h).elim,fun _=>rfl⟩) (fun hn=>?_)
 ·refine Tot.bind (R:=fun c=>c=false→mayP r.1.1) ?_ fun c1 hc1=>?_
  ·refine Tot.ite (fun hx=>Tot.ret fun e=>by cases e) fun hx=>Tot.bind (p_may r.1.1 (by omega)) fun b hb=>Tot.ret fun hh=>hb.1 (by simpa using hh)
  refine Tot.bind (R:=fun c=>c=false→mayP r.1.1∧r.1.1.Id=id) (Tot.ite (fun _=>Tot.ret fun e=>by cases e) fun hc=>Tot.ret fun e=>⟨hc1 (by simpa using hc),by simpa using e⟩) fun c2 hc2=>?_
  refine Tot.bind (R:=fun c=>c=false→mayP r.1.1∧r.1.1.Id=id∧pageN r.1.1=(thereN d id).1) (Tot.ite (fun _=>Tot.ret fun e=>by cases e) fun hc=>?_) fun c3 h=>Tot.ret h
  have hp:=hc2 (by simpa using hc)
  refine Tot.bindeq (p_page _ (mayP_small hp.1)) (Tot.bindeq rfl (Tot.ret fun e=>⟨hp.1,hp.2,by simpa using e⟩))
 ·have hp:=hv (by simpa using hn)
  have hs:=mayP_small hp.1
  exact Tot.ret ⟨.inl rfl,⟨hs.2.2.1,hs.2.2.2.1⟩,fun _=>hp,fun h=>(h rfl).elim⟩
theorem r_Write (d:api_Disk) (a:Int) (x:List UInt8) (hd:d.Loose.length≤1000):ref04_Write d a x=some (writeN d a x):=by
 refine Tot.eq ?_
 unfold ref04_Write writeN
 refine Tot.ite (fun h=>Tot.ret (by rw [if_pos h])) fun h=>?_
 rw [if_neg h]
 refine Tot.bind (t_Page ⟨a,x⟩) fun b hb=>Tot.ite (fun hn=>Tot.ret ?_) (fun hn=>?_)
 ·rw [if_neg (fun hp=>by rw [hb.2 hp] at hn; cases hn)]
 ·have hp:mayN a x.length:=hb.1 (by simpa using hn)
  rw [if_pos hp]
  refine Tot.chk (by omega) (Tot.chk (by simp only [List.length_cons,List.length_nil]; omega) (Tot.ret ?_))
  have:d.Down=false:=by simpa using h
  rw [this]
def uniq (l:List api_Page):Prop:=∀i j:Nat,i < j→∀p q,l[i]?=some p→l[j]?=some q→p.At < q.At
theorem uniq_eq {l:List api_Page} (h:uniq l) {x y:api_Page} (hx:x∈l) (hy:y∈l) (e:x.At=y.At):x=y:=by
 obtain ⟨i,hi,rfl⟩:=List.getElem_of_mem hx
 obtain ⟨j,hj,rfl⟩:=List.getElem_of_mem hy
 rcases Nat.lt_trichotomy i j with h' | h' | h'
 ·have:=h i j h' _ _ (List.getElem?_eq_getElem hi) (List.getElem?_eq_getElem hj); omega
 ·subst h'; rfl
 ·have:=h j i h' _ _ (List.getElem?_eq_getElem hj) (List.getElem?_eq_getElem hi); omega
theorem uniq_find {l:List api_Page} (h:uniq l) (a:Int):l.reverse.find? (fun p=>p.At == a)=l.find? (fun p=>p.At == a):=by
 cases hf:l.find? (fun p=>p.At == a) with
 | none =>
  rw [List.find?_eq_none] at hf ⊢
  intro x hx; exact hf x (List.mem_reverse.1 hx)
 | some x =>
  have hx:=List.find?_some hf
  have hm:=List.mem_of_find?_eq_some hf
  cases hr:l.reverse.find? (fun p=>p.At == a) with
  | none =>
   rw [List.find?_eq_none] at hr
   exact (hr x (List.mem_reverse.2 hm) hx).elim
  | some y =>
   have hy:=List.find?_some hr
   have hmy:=List.mem_reverse.1 (List.mem_of_find?_eq_some hr)
   have:=uniq_eq h hmy hm ((eq_of_beq hy).trans (eq_of_beq hx).symm)
   rw [this]
theorem find_last {l:List api_Page} {p:api_Page→Bool} {i:Nat} {x:api_Page} (hx:l[i]?=some x) (hp:p x=true) (hno:∀j y,i < j→l[j]?=some y→p y=false):l.reverse.find? p=some x:=by
 have hi:i < l.length:=(List.getElem?_eq_some_iff.1 hx).1
 have hsplit:l=l.take i++x::l.drop (i+1):=by
  have:l[i]=x:=by rw [List.getElem?_eq_getElem hi] at hx; exact Option.some.inj hx
  rw [←this,←List.drop_eq_getElem_cons hi,List.take_append_drop]
 rw [hsplit,List.reverse_append,List.reverse_cons,List.append_assoc,List.find?_append]
 have hn:(l.drop (i+1)).reverse.find? p=none:=by
  rw [List.find?_eq_none]
  intro y hy
  obtain ⟨k,hk,e⟩:=List.getElem_of_mem (List.mem_reverse.1 hy)
  have:=hno (i+1+k) y (by omega) (by rw [←List.getElem?_drop,List.getElem?_eq_getElem hk,e])
  simp [this]
 rw [hn]
 simp [hp]
theorem r_Read (d:api_Disk) (a:Int) (hd:smallD d) (hu:uniq d.Synced):ref04_Read d a=some (readN d a):=by
 obtain ⟨h1,h2,-⟩:=hd
 refine Tot.eq ?_
 unfold ref04_Read readN
 refine Tot.ite (fun h=>Tot.ret (by rw [if_pos h])) fun h=>?_
 simp only [if_neg h]
 refine Tot.bind (R:=Tells (a < 0∨999 < a)) (Tot.bind (Tot.orI (by simp) fun _=>Tot.dec (by omega)) fun _ h=>Tot.ret h) fun v hv=>Tot.ite (fun ht=>Tot.ret ?_) fun hf=>?_
 ·have:=hv.1 ht
  rw [if_neg (by unfold mayN; omega)]
 have hin:¬(a < 0∨999 < a):=fun hh=>hf (hv.2 hh)
 have hm:mayN a 0:=by unfold mayN; omega
 simp only [if_pos hm]
 rw [List.reverse_append,List.find?_append,uniq_find hu]
 refine Tot.chk (by unfold InI64; omega) ?_
 have k2:d.Loose.reverse.find? (fun p=>p.At == a)=none→Tot (ref04N15 d a 0) (·=(match (d.Loose.reverse.find? (fun p=>p.At == a)).or (d.Synced.find? (fun p=>p.At == a)) with | none=>([],41) | some p=>(p.Data,0))):=by
  intro hn
  unfold ref04N15
  have:=loop_find (b:=d.Synced) (B:=ref04N11 d a) (fun p=>p.At == a) (fun _ p=>(p.Data,(0:Int))) (([]:List UInt8),(41:Int)) ?_ ?_
  ·rw [this,hn]
   refine Tot.ret ?_
   rw [←find_idx]
   simp only [Option.none_or]
   cases hfi:d.Synced.findIdx? (fun p=>p.At == a) with
   | none=>rfl
   | some n =>
    dsimp only
    cases hg:d.Synced[n]? with
    | none=>rfl
    | some x=>rfl
  ·intro n x hx hn
   cases hc:x.At == a
   ·rw [if_neg (by decide)]
    refine Tot.eq ?_
    unfold ref04N11
    exact Tot.ite (fun _=>Tot.bindeq (idx_some hx) (Tot.ite (fun h=>by rw [hc] at h; cases h) (fun h=>Tot.chk (by unfold InI64; omega) (Tot.ret rfl)))) (fun hh=>absurd hh (by simp; omega))
   ·rw [if_pos rfl]
    refine Tot.eq ?_
    unfold ref04N11
    exact Tot.ite (fun _=>Tot.bindeq (idx_some hx) (Tot.ite (fun h=>Tot.bindeq (idx_some hx) ⟨_,rfl,rfl⟩) (fun h=>absurd hc h))) (fun hh=>absurd hh (by simp; omega))
  ·unfold ref04N11 ref04N13
   rw [if_neg (by simp)]; rfl
 unfold ref04N14
 refine Tot.loop (fun s:Int=>-1≤s∧s < (d.Loose.length:Int)∧∀(j:Nat) y,s < (j:Int)→d.Loose[j]?=some y→(y.At == a)=false) (fun s=>(s+1).toNat) ?_ _ ⟨by omega,by omega,fun j y hj hy=>by have:=(List.getElem?_eq_some_iff.1 hy).1; omega⟩
 rintro s ⟨g0,g1,g2⟩
 unfold ref04N10 ref04N12
 refine Tot.ite (fun hge=>?_) (fun hlt=>Tot.out (k2 ?_))
 ·have hge:0≤s:=by simpa using hge
  refine Tot.bind (Tot.idx hge (by omega) (Q:=fun x=>d.Loose[s.toNat]?=some x) fun _ h=>h) fun x hx=>Tot.ite (fun he=>?_) (fun he=>Tot.chk (by unfold InI64; omega) (Tot.inl ⟨⟨by omega,by omega,fun j y hj hy=>?_⟩,by omega⟩))
  ·refine Tot.bind (Tot.idx hge (by omega) (Q:=fun y=>d.Loose[s.toNat]?=some y) fun _ h=>h) fun y hy=>Tot.out (Tot.ret ?_)
   rw [hx] at hy; cases hy
   rw [find_last (p:=fun p=>p.At == a) hx he (fun j y hj hy=>g2 j y (by omega) hy)]
   rfl
  ·rcases (show s < (j:Int)∨(j:Int)≤s by omega) with h | h
   ·exact g2 j y h hy
   ·have:j=s.toNat:=by omega
    subst this
    rw [hx] at hy; cases hy
    simpa using he
 ·have hlt:¬0≤s:=by simpa using hlt
  rw [List.find?_eq_none]
  intro y hy
  obtain ⟨j,hj,e⟩:=List.getElem_of_mem (List.mem_reverse.1 hy)
  have:=g2 j y (by omega) (by rw [List.getElem?_eq_getElem hj,e])
  simp [this]
theorem mset_new {α:Type} (n:Int) (v:α):∀m:List (Int×α),n∉m.map (·.1)→mset n v m=m++[(n,v)]
 | [],_=>rfl
 | (j,c)::r,h=>by
  simp only [List.map_cons,List.mem_cons,not_or] at h
  unfold mset
  rw [if_neg (fun e=>h.1 e.symm),mset_new n v r h.2]; rfl
theorem mset_keys {α:Type} (n:Int) (v:α):∀m:List (Int×α),n∈m.map (·.1)→(mset n v m).map (·.1)=m.map (·.1)
 | [],h=>by simp at h
 | (j,c)::r,h=>by
  unfold mset
  by_cases e:j=n
  ·rw [if_pos e]; rfl
  ·rw [if_neg e]
   simp only [List.map_cons,List.mem_cons] at h ⊢
   rw [mset_keys n v r (h.resolve_left fun q=>e q.symm)]
theorem mset_nodup {α:Type} (n:Int) (v:α) (m:List (Int×α)) (h:(m.map (·.1)).Nodup):((mset n v m).map (·.1)).Nodup:=by
 by_cases e:n∈m.map (·.1)
 ·rw [mset_keys n v m e]; exact h
 ·rw [mset_new n v m e,List.map_append]
  refine List.nodup_append.2 ⟨h,by simp,fun a ha b hb=>?_⟩
  have hb:b=n:=by simpa using hb
  intro hab; rw [hab,hb] at ha; exact e ha
theorem by_nodup:∀(l:List api_Page) (m:List (Int×api_Page)),(m.map (·.1)).Nodup→((byM m l).map (·.1)).Nodup
 | [],_,h=>h
 | p::l,m,h=>by_nodup l (mset p.At p m) (mset_nodup p.At p m h)
def Asc (l:List api_Page):Prop:=l.Pairwise fun a b=>a.At < b.At
theorem keys_asc (m:List (Int×api_Page)) (h:(m.map (·.1)).Nodup):(keysI m).Pairwise (· < ·):=by
 have h1:(keysI m).Pairwise (fun a b=>decide (a≤b)=true):=List.pairwise_mergeSort (fun a b c h1 h2=>by simp at h1 h2 ⊢; omega) (fun a b=>by simp; omega) _
 have h2:(keysI m).Nodup:=(List.mergeSort_perm _ _).nodup_iff.2 h
 exact (h1.and h2).imp fun ⟨x,y⟩=>by simp at x; omega
theorem laid_asc (l o:List api_Page):Asc (laidN l o):=by
 unfold Asc laidN
 rw [List.pairwise_map]
 refine (List.pairwise_iff_forall_sublist.2 fun {a b} hs=>?_)
 have hk:=List.pairwise_iff_forall_sublist.1 (keys_asc _ (by_nodup (l++o) [] (by simp))) hs
 have at_:∀k,k∈keysI (byM [] (l++o))→((mget k (byM [] (l++o))).getD (⟨0,[]⟩:api_Page)).At=k:=fun k hk=>by
  obtain ⟨v,hv⟩:=mem_mget (mem_keys.1 hk)
  rw [hv]
  rw [mget_by0] at hv
  exact (last_at hv).1
 rw [at_ a (hs.subset (by simp)),at_ b (hs.subset (by simp))]
 exact hk
theorem last_append (l o:List api_Page) (b:Int):lastAt (l++o) b=(lastAt o b).or (lastAt l b):=by
 unfold lastAt; rw [List.reverse_append,List.find?_append]
theorem last_cons (p:api_Page) (l:List api_Page) (b:Int):lastAt (p::l) b=(lastAt l b).or (if p.At=b then some p else none):=by
 have:=last_append [p] l b
 rw [List.singleton_append] at this
 rw [this]; congr 1
 by_cases h:p.At=b <;> simp [lastAt,h]
theorem loop_take {β ρ σ:Type} {b:List β} {B:Int×σ→Option ((Int×σ)⊕ρ)} (st:Nat→σ) (fin:ρ)
  (h1:∀(n:Nat) (x:β),b[n]?=some x→B ((n:Int),st n)=some (.inl ((n:Int)+1,st (n+1)))) (h2:B ((b.length:Int),st b.length)=some (.inr fin)):Cat.loop B (0,st 0)=some fin:=by
 refine Tot.eq (Tot.loop (fun s=>∃n:Nat,s=((n:Int),st n)∧n≤b.length) (fun s=>((b.length:Int) - s.1).toNat) ?_ _ ⟨0,rfl,Nat.zero_le _⟩)
 rintro s ⟨n,rfl,hn⟩
 rcases Nat.lt_or_ge n b.length with h | h
 ·exact ⟨_,h1 n _ (getLt h),⟨n+1,rfl,h⟩,by dsimp only; omega⟩
 ·obtain rfl:n=b.length:=by omega
  exact ⟨_,h2,rfl⟩
theorem take_app {β:Type} {b:List β} {n:Nat} {x:β} (h:b[n]?=some x):b.take n++[x]=b.take (n+1):=by
 rw [List.take_succ,h]; rfl
def layN (S:List api_Page) (p:api_Page):List api_Page:=S.filter (fun x=>decide (x.At < p.At))++p::S.filter (fun x=>decide (p.At < x.At))
def layG (p:api_Page) (s:Bool×List api_Page) (x:api_Page):Bool×List api_Page :=
 let s':=if (!s.1&&decide (x.At≥p.At)) then (true,s.2++[p]) else s
 if x.At≠p.At then (s'.1,s'.2++[x]) else s'
theorem layG_fold (p:api_Page):∀(S:List api_Page),Asc S→∀acc,(S.foldl (layG p) (true,acc))=(true,acc++S.filter (fun x=>decide (x.At≠p.At))) ∧
  S.foldl (layG p) (false,acc)=if S.all (fun x=>decide (x.At < p.At)) then (false,acc++S) else (true,acc++layN S p)
 | [],_,acc=>by simp
 | x::S,hA,acc=>by
  have hA':Asc S:=(List.pairwise_cons.1 hA).2
  have hx:=(List.pairwise_cons.1 hA).1
  refine ⟨?_,?_⟩
  ·rw [List.foldl_cons]
   have e:layG p (true,acc) x=(true,if x.At≠p.At then acc++[x] else acc):=by unfold layG; simp; split <;> rfl
   rw [e,(layG_fold p S hA' _).1]
   by_cases h:x.At=p.At <;> simp [h]
  ·rw [List.foldl_cons]
   by_cases h:x.At < p.At
   ·have e:layG p (false,acc) x=(false,acc++[x]):=by
     unfold layG
     have h1:¬p.At≤x.At:=by omega
     have h2:x.At≠p.At:=by omega
     simp [h1,h2]
    rw [e,(layG_fold p S hA' _).2]
    have h3:¬p.At < x.At:=by omega
    simp only [List.all_cons,h,decide_true,Bool.true_and,List.append_assoc,List.singleton_append,List.cons_append]
    split
    ·rfl
    ·simp [layN,h,h3]
   ·have e:layG p (false,acc) x=(true,(acc++[p])++if x.At≠p.At then [x] else []):=by
     unfold layG
     have h1:p.At≤x.At:=by omega
     simp [h1]; split <;> simp
    rw [e,(layG_fold p S hA' _).1]
    have f1:S.filter (fun y=>decide (y.At < p.At))=[]:=by
     rw [List.filter_eq_nil_iff]; intro y hy; have:=hx y hy; simp; omega
    have f2:S.filter (fun y=>decide (y.At≠p.At))=S.filter (fun y=>decide (p.At < y.At)):=by
     refine List.filter_congr fun y hy=>?_
     have:=hx y hy
     by_cases h2:p.At < y.At
     ·simp [h2]; omega
     ·simp [h2]; omega
    have h4:(x::S).all (fun x=>decide (x.At < p.At))=false:=by simp [h]
    rw [h4,f2]
    by_cases h5:x.At=p.At
    ·simp [layN,h5,f1]
    ·have h6:p.At < x.At:=by omega
     simp [layN,h5,h,h6,f1]
theorem layN_all {S:List api_Page} {p:api_Page} (h:S.all (fun x=>decide (x.At < p.At))=true):layN S p=S++[p]:=by
 have h':∀x,x∈S→x.At < p.At:=by simpa using h
 unfold layN
 rw [List.filter_eq_self.2 (by simpa using h'),List.filter_eq_nil_iff.2 (fun y hy=>by have:=h' y hy; simp; omega)]
theorem layG_len (p:api_Page):∀(S:List api_Page) (s:Bool×List api_Page),(S.foldl (layG p) s).2.length≤s.2.length+2 * S.length
 | [],s=>by simp
 | x::S,s=>by
  rw [List.foldl_cons]
  have h:=layG_len p S (layG p s x)
  have h2:(layG p s x).2.length≤s.2.length+2:=by
   unfold layG; dsimp only
   split <;> split <;> simp
  simp only [List.length_cons]; omega
theorem p_lay (S : List api_Page) (p : api_Page) (hA : Asc S) (hs : S.length ≤ 1000) : ref04_lay S p = some (layN S p) := by
  have hlen : ∀ n, ((S.take n).foldl (layG p) (false, [])).2.length ≤ 2000 := fun n => by
    have := layG_len p (S.take n) (false, []); simp only [List.length_nil, List.length_take] at this; omega
  have hL : ref04N19 S p (false, 0, []) = some (S.foldl (layG p) (false, [])) := by
    refine Tot.eq ?_
    unfold ref04N19
    refine Tot.loop (fun s => ∃ n : Nat, s = (((S.take n).foldl (layG p) (false, [])).1, (n : Int), ((S.take n).foldl (layG p) (false, [])).2) ∧ n ≤ S.length) (fun s => ((S.length : Int) - s.2.1).toNat) ?_ _ ⟨0, rfl, Nat.zero_le _⟩
    rintro s ⟨n, rfl, hn⟩
    have hl := hlen n
    unfold ref04N18
    refine Tot.ite (fun hlt => ?_) (fun hge => Tot.out (Tot.ret ?_))
    · have hlt : n < S.length := by simpa using hlt
      have hx := getLt hlt
      generalize S[n] = x at hx
      have e1 : (S.take (n + 1)).foldl (layG p) (false, []) = layG p ((S.take n).foldl (layG p) (false, [])) x := by rw [← take_app hx, List.foldl_append]; rfl
      generalize (S.take n).foldl (layG p) (false, []) = acc at hl e1
      obtain ⟨b, o⟩ := acc
      dsimp only at hl ⊢
      refine Tot.bind (R := (· = layG p (b, o) x)) (Tot.bind (R := (· = if (!b && decide (x.At ≥ p.At)) then (true, o ++ [p]) else (b, o))) (Tot.bind (R := (· = (!b && decide (x.At ≥ p.At)))) (Tot.bind (R := (· = (!b && decide (x.At ≥ p.At)))) ?_ fun _ h => Tot.ret h) fun v4 h4 => ?_) fun v3 h3 => ?_) fun v2 h2 => Tot.chk (by unfold InI64; omega) (Tot.inl ⟨⟨n + 1, ?_, hlt⟩, by dsimp only; omega⟩)
      · cases b with
        | true => exact Tot.ncond (by decide) (Tot.ret rfl)
        | false => exact Tot.cond (by decide) (Tot.bindeq (idx_some hx) (Tot.ret rfl))
      · subst h4
        exact Tot.ite (fun ht => Tot.chk (by simp; omega) (Tot.ret (by rw [if_pos ht]))) fun hf => Tot.ret (by rw [if_neg hf])
      · have hl3 : v3.2.length ≤ 2001 := by rw [h3]; split <;> simp <;> omega
        refine Tot.bindeq (idx_some hx) (Tot.ite (fun ht => Tot.bindeq (idx_some hx) (Tot.chk (by simp; omega) (Tot.ret ?_))) fun hf => Tot.ret ?_)
        · have ht : x.At ≠ p.At := by simpa using ht
          unfold layG; dsimp only; rw [if_pos ht, ← h3]
        · have hf : ¬ x.At ≠ p.At := by simpa using hf
          unfold layG; dsimp only; rw [if_neg hf, ← h3]
      · rw [e1, ← h2]; rfl
    · have : n = S.length := by have : ¬ (n : Int) < S.length := by simpa using hge
                                omega
      subst this; rw [List.take_length]
  refine Tot.eq ?_
  unfold ref04_lay
  have hl := hlen S.length
  rw [List.take_length] at hl
  refine Tot.bindeq hL (Tot.bind (R := (· = layN S p)) (Tot.ite (fun ht => Tot.chk (by simp; omega) (Tot.ret ?_)) fun hf => Tot.ret ?_) fun _ h => Tot.ret h)
  · have h2 := (layG_fold p S hA []).2
    rw [h2] at ht ⊢
    split at ht
    · rename_i hall; rw [if_pos hall, layN_all hall]; simp
    · simp at ht
  · have h2 := (layG_fold p S hA []).2
    rw [h2] at hf ⊢
    split at hf
    · simp at hf
    · rename_i hall; rw [if_neg hall]; simp
theorem lay_asc {S:List api_Page} (p:api_Page) (hA:Asc S):Asc (layN S p):=by
 unfold layN Asc
 rw [List.pairwise_append,List.pairwise_cons]
 refine ⟨hA.filter _,⟨fun y hy=>by simpa using (List.mem_filter.1 hy).2,hA.filter _⟩,fun x hx y hy=>?_⟩
 have h1:x.At < p.At:=by simpa using (List.mem_filter.1 hx).2
 rcases List.mem_cons.1 hy with rfl | hy
 ·exact h1
 ·have h2:p.At < y.At:=by simpa using (List.mem_filter.1 hy).2
  omega
theorem asc_last {l:List api_Page} (h:Asc l) {p:api_Page}:lastAt l p.At=some p↔p∈l:=by
 refine ⟨fun e=>(last_at e).2,fun hp=>?_⟩
 cases hl:lastAt l p.At with
 | none =>
  unfold lastAt at hl
  have:=List.find?_eq_none.1 hl p (by simpa using hp)
  simp at this
 | some q =>
  obtain ⟨h1,h2⟩:=last_at hl
  congr 1
  obtain ⟨i,hi⟩:=memR hp
  obtain ⟨j,hj⟩:=memR h2
  have hi':=(getR hi).1
  have hj':=(getR hj).1
  rw [List.getElem?_eq_getElem hi'] at hi
  rw [List.getElem?_eq_getElem hj'] at hj
  cases hi; cases hj
  rcases Nat.lt_trichotomy i j with h3 | h3 | h3
  ·have:=List.pairwise_iff_getElem.1 h i j hi' hj' h3; omega
  ·subst h3; rfl
  ·have:=List.pairwise_iff_getElem.1 h j i hj' hi' h3; omega
theorem asc_ext {l m:List api_Page} (hl:Asc l) (hm:Asc m) (h:∀a,lastAt l a=lastAt m a):l=m:=by
 have hmem:∀p,p∈l↔p∈m:=fun p=>by rw [←asc_last hl,←asc_last hm,h]
 have nd:∀{l:List api_Page},Asc l→l.Nodup:=fun h=>h.imp fun {a b} hab e=>by rw [e] at hab; omega
 have hp:l.Perm m:=(List.perm_ext_iff_of_nodup (nd hl) (nd hm)).2 hmem
 exact List.Perm.eq_of_pairwise (le:=fun a b:api_Page=>a.At < b.At) (fun a b _ _ (h1:a.At < b.At) (h2:b.At < a.At)=>absurd h2 (by omega)) hl hm hp
theorem lay_last {S:List api_Page} (p:api_Page) (hA:Asc S) (a:Int):lastAt (layN S p) a=if p.At=a then some p else lastAt S a:=by
 have hB:=lay_asc p hA
 by_cases h:p.At=a
 ·subst h
  rw [if_pos rfl]
  exact (asc_last hB).2 (by unfold layN; simp)
 ·rw [if_neg h]
  cases hs:lastAt S a with
  | none =>
   cases hq:lastAt (layN S p) a with
   | none=>rfl
   | some q =>
    obtain ⟨h1,h2⟩:=last_at hq
    subst h1
    have:q∈S:=by
     unfold layN at h2
     rcases List.mem_append.1 h2 with h2 | h2
     ·exact (List.mem_filter.1 h2).1
     ·rcases List.mem_cons.1 h2 with rfl | h2
      ·exact absurd rfl h
      ·exact (List.mem_filter.1 h2).1
    rw [(asc_last hA).2 this] at hs; cases hs
  | some q =>
   obtain ⟨h1,h2⟩:=last_at hs
   subst h1
   refine (asc_last hB).2 ?_
   unfold layN
   rcases Int.lt_or_gt_of_ne h with h3 | h3
   ·exact List.mem_append_right _ (List.mem_cons_of_mem _ (List.mem_filter.2 ⟨h2,by simpa using h3⟩))
   ·exact List.mem_append_left _ (List.mem_filter.2 ⟨h2,by simpa using h3⟩)
theorem lay_fold:∀(L S:List api_Page),Asc S→Asc (L.foldl layN S)∧∀a,lastAt (L.foldl layN S) a=lastAt (S++L) a
 | [],S,h=>⟨h,fun a=>by simp⟩
 | p::L,S,h=>by
  obtain ⟨h1,h2⟩:=lay_fold L (layN S p) (lay_asc p h)
  refine ⟨h1,fun a=>?_⟩
  rw [List.foldl_cons,h2,last_append,lay_last p h,last_append,last_cons]
  by_cases e:p.At=a
  ·simp [e]
  ·simp [e]
theorem lay_laid {L S:List api_Page} (h:Asc S):L.foldl layN S=laidN S L :=
 asc_ext (lay_fold L S h).1 (laid_asc S L) fun a=>by rw [(lay_fold L S h).2,last_laid]
def syncN (d:api_Disk):api_Disk×Int:=if d.Down then (d,40) else (⟨laidN d.Synced d.Loose,[],false⟩,0)
theorem lay_len (S:List api_Page) (p:api_Page):(layN S p).length≤S.length+1:=by
 unfold layN
 have:(S.filter (fun x=>decide (x.At < p.At))).length+(S.filter (fun x=>decide (p.At < x.At))).length≤S.length:=by
  induction S with
  | nil=>simp
  | cons x S ih =>
   by_cases h1:x.At < p.At
   ·have h2:¬p.At < x.At:=by omega
    simp [h1,h2]; omega
   ·by_cases h2:p.At < x.At
    ·simp [h1,h2]; omega
    ·simp [h1,h2]; omega
 simp; omega
theorem fold_len:∀(L S:List api_Page),(L.foldl layN S).length≤S.length+L.length
 | [],S=>by simp
 | p::L,S=>by have:=fold_len L (layN S p); have:=lay_len S p; simp only [List.foldl_cons,List.length_cons]; omega
theorem p_layT (S L:List api_Page) (n:Nat) (x:api_Page) (hx:L[n]?=some x) (hA:Asc S) (hn:S.length+L.length≤1000):ref04_lay ((L.take n).foldl layN S) x=some ((L.take (n+1)).foldl layN S):=by
 rw [p_lay _ _ (lay_fold _ _ hA).1 (by have:=fold_len (L.take n) S; simp only [List.length_take] at this; omega),←take_app hx,List.foldl_append]; rfl
theorem r_Sync (d:api_Disk) (hR:Asc d.Synced) (hn:d.Synced.length+d.Loose.length≤1000):ref04_Sync d=some (syncN d):=by
 refine Tot.eq ?_
 unfold ref04_Sync syncN
 refine Tot.ite (fun h=>Tot.ret (by rw [if_pos h])) fun h=>?_
 rw [if_neg h]
 unfold ref04N17
 refine Tot.bindeq (loop_take (b:=d.Loose) (fun n=>(d.Loose.take n).foldl layN d.Synced) (d.Loose.foldl layN d.Synced) (fun n x hx=>?_) ?_) (Tot.ret (by rw [lay_laid hR]))
 ·have hl:=(getR hx).1
  refine Tot.eq ?_
  unfold ref04N16
  exact Tot.cond (by simp; omega) (Tot.bindeq (idx_some hx) (Tot.bindeq (p_layT _ _ n x hx hR hn) (Tot.chk (by unfold InI64; dsimp only; omega) (Tot.ret rfl))))
 ·unfold ref04N16
  rw [if_neg (by simp),List.take_length]; rfl
end Go.Proofs
