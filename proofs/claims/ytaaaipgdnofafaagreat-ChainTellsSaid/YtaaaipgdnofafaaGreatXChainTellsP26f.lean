/- Chunks, plain: what is asked of disks; what is had; pages laid over others. No condition. -/
import Derived.Test.YtaaaipgdnofafaaGreatXChainTellsP26e
import Derived.Test.YtaaaipgdnofafaaGreatXChainTellsCatP5
import Derived.Test.YtaaaipgdnofafaaGreatXChainTellsIn
namespace Go.Proofs
set_option linter.all false
open Go Go.Cat
set_option linter.all false
theorem t_Page (p:api_Page):Tot (ref04_Page p) (Tells (mayN p.At p.Data.length)) :=
 Tot.bind (Tot.bind (Tot.andI (Q:=p.At < 1000) (by simp) fun _=>Tot.dec (by omega)) fun _ h1=>Tot.bind (Tot.andI h1 fun _=>Tot.dec (by omega)) fun _ h2=>Tot.ret h2) fun _ h=>Tot.ret h
def modest (d:api_Disk):Prop:=d.Synced.length≤60∧d.Loose.length≤60∧∀p∈d.Synced++d.Loose,p.Data.length≤200
theorem modest.small {d:api_Disk} (h:modest d):smallD d:=⟨by have:=h.1; omega,by have:=h.2.1; omega,fun p hp=>by have:=h.2.2 p hp; omega⟩
theorem there_down {d:api_Disk} (h:d.Down=true) {id:Int} (hw:withinP id):(thereN d id).2=40:=by
 unfold thereN readN
 simp [h,hw]
theorem p_RBytes (a b:List UInt8) (h:a.length≤1000000):Tot (ref02_Bytes a b) (Tells (a=b)):=by
 unfold ref02_Bytes ref02N6
 refine Tot.ite (fun hne=>Tot.ret ⟨fun e=>(by cases e),fun e=>(by subst e; simp at hne)⟩) fun heq=>?_
 have heq:a.length=b.length:=by simp at heq; omega
 refine Tot.loop (fun s:Int=>0≤s∧s≤(a.length:Int)∧∀j:Nat,j < s.toNat→a[j]?=b[j]?) (fun s=>((a.length:Int) - s).toNat) ?_ 0 ⟨by simp,by simp,fun j hj=>by simp at hj⟩
 rintro s ⟨g0,g1,g2⟩
 unfold ref02N4 ref02N5
 refine Tot.ite (fun hlt=>?_) (fun hge=>Tot.out (Tot.ret ⟨fun _=>List.ext_getElem? fun j=>?_,fun _=>rfl⟩))
 ·have hlt:s < a.length:=by simpa using hlt
  refine Tot.bind (Tot.idx g0 hlt (Q:=fun y=>a[s.toNat]?=some y) fun _ h=>h) fun x hx=>Tot.bind (Tot.idx g0 (by omega) (Q:=fun y=>b[s.toNat]?=some y) fun _ h=>h) fun y hy=>?_
  refine Tot.ite (fun hn=>Tot.out (Tot.ret ⟨fun e=>(by cases e),fun e=>?_⟩)) fun he=>Tot.chk (by unfold InI64; omega) (Tot.inl ⟨⟨by omega,by omega,fun j hj=>?_⟩,by omega⟩)
  ·subst e; rw [hx] at hy; cases hy; simp at hn
  ·rcases Nat.lt_or_ge j s.toNat with h | h
   ·exact g2 j h
   ·have:j=s.toNat:=by omega
    subst this
    rw [hx,hy]
    have he:(x.toNat:Int)=(y.toNat:Int):=by simpa using he
    exact congrArg some (UInt8.toNat_inj.1 (by omega))
 ·have hge:¬s < a.length:=by simpa using hge
  rcases Nat.lt_or_ge j s.toNat with h | h
  ·exact g2 j h
  ·rw [List.getElem?_eq_none (by omega),List.getElem?_eq_none (by omega)]
def goodP (p:api_Page):Prop:=(0≤p.At∧p.At < 1000)∧p.Data.length≤200
def lastAt (l:List api_Page) (a:Int):Option api_Page:=l.reverse.find? (fun p=>p.At == a)
def byM (m:List (Int×api_Page)) (l:List api_Page):List (Int×api_Page):=l.foldl (fun m p=>mset p.At p m) m
def laidN (l o:List api_Page):List api_Page:=(keysI (byM [] (l++o))).map fun k=>(mget k (byM [] (l++o))).getD (⟨0,[]⟩:api_Page)
theorem mget_mset {α:Type} (k n:Int) (v:α):∀m:List (Int×α),mget k (mset n v m)=if n=k then some v else mget k m
 | []=>by simp only [mset,mget]
 | (j,c)::r=>by
  unfold mset
  by_cases hj:j=n
  ·rw [if_pos hj]; subst hj; simp only [mget]; split <;> rfl
  ·rw [if_neg hj]
   simp only [mget]
   rw [mget_mset k n v r]
   by_cases hk:j=k
   ·rw [if_pos hk,if_pos hk,if_neg (fun e=>hj (hk.trans e.symm))]
   ·rw [if_neg hk,if_neg hk]
theorem mset_len {α:Type} (n:Int) (v:α):∀m:List (Int×α),(mset n v m).length≤m.length+1
 | []=>by simp [mset]
 | (j,c)::r=>by
  unfold mset
  split
  ·simp
  ·have:=mset_len n v r; simp only [List.length_cons]; omega
theorem mget_mem {α:Type} {k:Int} {v:α}:∀{m:List (Int×α)},mget k m=some v→k∈m.map (·.1)
 | [],h=>by simp [mget] at h
 | (j,c)::r,h=>by
  unfold mget at h
  split at h
  ·rename_i hj; simp [hj]
  ·simp only [List.map_cons,List.mem_cons]; exact .inr (mget_mem h)
theorem mem_mget {α:Type} {k:Int}:∀{m:List (Int×α)},k∈m.map (·.1)→∃v,mget k m=some v
 | [],h=>by simp at h
 | (j,c)::r,h=>by
  unfold mget
  by_cases hj:j=k
  ·exact ⟨c,if_pos hj⟩
  ·rw [if_neg hj]
   simp only [List.map_cons,List.mem_cons] at h
   rcases h with h | h
   ·exact absurd h.symm hj
   ·exact mem_mget h
theorem mget_by (k:Int):∀(l:List api_Page) (m:List (Int×api_Page)),mget k (byM m l)=(lastAt l k).or (mget k m)
 | [],m=>by simp [byM,lastAt]
 | p::l,m=>by
  have h:=mget_by k l (mset p.At p m)
  show mget k (byM (mset p.At p m) l)=_
  rw [h,mget_mset]
  unfold lastAt
  rw [List.reverse_cons,List.find?_append]
  by_cases hp:p.At=k
  ·simp [hp]
  ·simp [hp]
theorem by_len:∀(l:List api_Page) (m:List (Int×api_Page)),(byM m l).length≤m.length+l.length
 | [],m=>by simp [byM]
 | p::l,m=>by
  have h:=by_len l (mset p.At p m)
  have h2:=mset_len p.At p m
  show (byM (mset p.At p m) l).length≤_
  simp only [List.length_cons]; omega
theorem last_at {l:List api_Page} {a:Int} {p:api_Page} (h:lastAt l a=some p):p.At=a∧p∈l:=by
 unfold lastAt at h
 exact ⟨by simpa using List.find?_some h,List.mem_reverse.1 (List.mem_of_find?_eq_some h)⟩
theorem mget_by0 (k:Int) (l:List api_Page):mget k (byM [] l)=lastAt l k:=by
 rw [mget_by]; simp [mget]
theorem mem_keys {k:Int} {m:List (Int×api_Page)}:k∈keysI m↔k∈m.map (·.1):=List.mem_mergeSort
theorem mem_laid {l o:List api_Page} {p:api_Page} (h:p∈laidN l o):lastAt (l++o) p.At=some p:=by
 unfold laidN at h
 obtain ⟨k,hk,rfl⟩:=List.mem_map.1 h
 obtain ⟨v,hv⟩:=mem_mget (mem_keys.1 hk)
 rw [hv]
 rw [mget_by0] at hv
 show lastAt _ v.At=some v
 rw [(last_at hv).1]; exact hv
theorem laid_len (l o:List api_Page):(laidN l o).length≤l.length+o.length:=by
 unfold laidN keysI
 rw [List.length_map,List.length_mergeSort,List.length_map]
 have:=by_len (l++o) []
 simpa using this
theorem last_laid (l o:List api_Page) (a:Int):lastAt (laidN l o) a=lastAt (l++o) a:=by
 cases h:lastAt (l++o) a with
 | none =>
  unfold lastAt
  rw [List.find?_eq_none]
  intro p hp hpa
  have:=mem_laid (List.mem_reverse.1 hp)
  have e:p.At=a:=by simpa using hpa
  rw [e,h] at this; cases this
 | some p =>
  have hm:p∈laidN l o:=by
   unfold laidN
   refine List.mem_map.2 ⟨a,mem_keys.2 (mget_mem (v:=p) (by rw [mget_by0]; exact h)),?_⟩
   rw [mget_by0,h]; rfl
  have hs:(lastAt (laidN l o) a).isSome:=by
   unfold lastAt
   rw [List.find?_isSome]
   exact ⟨p,List.mem_reverse.2 hm,by simpa using (last_at h).1⟩
  obtain ⟨q,hq⟩:=Option.isSome_iff_exists.1 hs
  have h1:=mem_laid (last_at hq).2
  rw [(last_at hq).1,h] at h1
  rw [hq,h1]
theorem p_laid (l o:List api_Page) (h:l.length+o.length≤100000) (hg:∀p,p∈l++o→InI64 p.At):disk_laid l o=some (laidN l o):=by
 have k1:∀(r:List api_Page) (n:Nat) (m:List (Int×api_Page)),(l++o).drop n=r→n≤(l++o).length→m.length≤n→loop (diskN4 (l++o)) ((n:Int),m)=some (byM m r):=by
  have hl:(l++o).length≤100000:=by simpa using h
  intro r
  induction r with
  | nil =>
   intro n m hd hn _
   have:n=(l++o).length:=by have:=congrArg List.length hd; simp only [List.length_drop,List.length_nil] at this; omega
   subst this
   refine loop_inr ?_
   unfold diskN4
   rw [if_neg (by simp)]
   simp [out,byM]
  | cons x r ih =>
   intro n m hd hn hm
   have hlt:n < (l++o).length:=by
    rcases Nat.lt_or_ge n (l++o).length with h | h
    ·exact h
    ·rw [List.drop_eq_nil_of_le h] at hd; cases hd
   rw [List.drop_eq_getElem_cons hlt] at hd
   injection hd with hx hr
   have hx':(l++o)[n]?=some x:=by rw [List.getElem?_eq_getElem hlt,hx]
   have e:diskN4 (l++o) ((n:Int),m)=some (.inl (((n+1:Nat):Int),mset x.At x m)):=by
    refine Tot.eq ?_
    unfold diskN4
    refine Tot.ite (fun _=>Tot.bindeq (idx_some hx') (Tot.chk ⟨hg x (List.mem_of_getElem? hx'),by dsimp only; omega⟩ (Tot.chk (by dsimp only; unfold InI64; omega) (Tot.ret rfl)))) (fun hh=>absurd hh (by simp only [decide_eq_true_eq]; omega))
   rw [loop_inl e,ih (n+1) _ hr hlt (by have:=mset_len x.At x m; omega)]
   rfl
 have k2:∀(ks:List Int) (m:List (Int×api_Page)) (r:List Int) (n:Nat) (a:List api_Page),ks.drop n=r→n≤ks.length→a.length+r.length≤1000000→ks.length≤1000000→loop (diskN6 ks m) ((n:Int),a)=some (a++r.map fun k=>(mget k m).getD (⟨0,[]⟩:api_Page)):=by
  intro ks m r
  induction r with
  | nil =>
   intro n a hd hn _ _
   have:n=ks.length:=by have:=congrArg List.length hd; simp only [List.length_drop,List.length_nil] at this; omega
   subst this
   refine loop_inr ?_
   unfold diskN6
   rw [if_neg (by simp)]
   simp [out]
  | cons x r ih =>
   intro n a hd hn ha hks
   have hlt:n < ks.length:=by
    rcases Nat.lt_or_ge n ks.length with h | h
    ·exact h
    ·rw [List.drop_eq_nil_of_le h] at hd; cases hd
   rw [List.drop_eq_getElem_cons hlt] at hd
   injection hd with hx hr
   have hx':ks[n]?=some x:=by rw [List.getElem?_eq_getElem hlt,hx]
   simp only [List.length_cons] at ha
   have e:diskN6 ks m ((n:Int),a)=some (.inl (((n+1:Nat):Int),a++[(mget x m).getD (⟨0,[]⟩:api_Page)])):=by
    refine Tot.eq ?_
    unfold diskN6
    refine Tot.ite (fun _=>Tot.bindeq (idx_some hx') (Tot.bindeq rfl (Tot.chk (by dsimp only; simp only [List.length_cons,List.length_nil]; omega) (Tot.chk (by dsimp only; unfold InI64; omega) (Tot.ret rfl))))) (fun hh=>absurd hh (by simp only [decide_eq_true_eq]; omega))
   rw [loop_inl e,ih (n+1) _ hr hlt (by simp only [List.length_append,List.length_cons,List.length_nil]; omega) hks]
   simp
 have hl:(l++o).length≤100000:=by simpa using h
 have hb:=by_len (l++o) []
 simp only [List.length_nil] at hb
 have hk:(keysI (byM [] (l++o))).length=(byM [] (l++o)).length:=by unfold keysI; rw [List.length_mergeSort,List.length_map]
 refine Tot.eq ?_
 unfold disk_laid diskN8 diskN10
 have hc:slicesN9 [l,o]=some (l++o):=by
  rw [pN4 [l,o] (by simp; omega) (by simp)]; simp
 refine Tot.bind (R:=(·=byM [] (l++o))) (Tot.bindeq hc (Tot.of (k1 (l++o) 0 [] rfl (Nat.zero_le _) (Nat.le_refl _)))) fun v hv=>?_
 subst hv
 refine Tot.bind (R:=(·=laidN l o)) (Tot.chk (by omega) (Tot.bindeq rfl (Tot.of ?_))) fun v hv=>Tot.ret hv
 rw [show ((0:Int),([]:List api_Page))=(((0:Nat):Int),[]) from rfl,k2 (keysI (byM [] (l++o))) _ _ 0 [] rfl (Nat.zero_le _) (by simp only [List.length_nil,List.drop_zero]; omega) (by omega)]
 rfl
theorem laid_all {l o:List api_Page} {R:api_Page→Prop} (h:∀p,p∈l++o→R p):∀p,p∈laidN l o→R p:=fun p hp=>h p (last_at (mem_laid hp)).2
structure OkD (d:api_Disk) (n:Nat):Prop where
 s:d.Synced.length≤n
 l:d.Loose.length≤n
 x:∀p,p∈d.Synced++d.Loose→p.Data.length≤1000∧InI64 p.At
theorem OkD.small {d:api_Disk} (h:OkD d 500):smallD d:=⟨by have:=h.s; omega,by have:=h.l; omega,fun p hp=>(h.x p hp).1⟩
theorem OkD.mono {d:api_Disk} {n m:Nat} (h:OkD d n) (e:n≤m):OkD d m:=⟨by have:=h.s; omega,by have:=h.l; omega,h.x⟩
theorem OkD.laid {S L:List api_Page} {b c:Bool} {n:Nat} (h:OkD ⟨S,L,b⟩ n):OkD ⟨laidN S L,[],c⟩ (n+n) :=
 ⟨Nat.le_trans (laid_len _ _) (by have:=h.s; have:=h.l; dsimp only at *; omega),Nat.zero_le _,fun p hp=>laid_all h.x p (by simpa using hp)⟩
theorem OkD.add {S L:List api_Page} {b:Bool} {n:Nat} {p:api_Page} (h:OkD ⟨S,L,b⟩ n) (hp:p.Data.length≤1000∧InI64 p.At):OkD ⟨S,L++[p],b⟩ (n+1) :=
 ⟨by have:=h.s; dsimp only at *; omega,by have:=h.l; dsimp only at *; simp only [List.length_append,List.length_cons,List.length_nil]; omega,fun q hq=>by
  simp only [List.mem_append,List.mem_singleton] at hq
  rcases hq with hq | hq | hq
  ·exact h.x q (List.mem_append_left _ hq)
  ·exact h.x q (List.mem_append_right _ hq)
  ·rw [hq]; exact hp⟩
theorem OkD.up {S L:List api_Page} {b c:Bool} {n:Nat} (h:OkD ⟨S,L,b⟩ n):OkD ⟨S,L,c⟩ n:=⟨h.s,h.l,h.x⟩
theorem OkD.take {S L:List api_Page} {b:Bool} {n:Nat} (k:Nat) (h:OkD ⟨S,L,b⟩ n):OkD ⟨S,L.take k,b⟩ n :=
 ⟨h.s,by have:=h.l; dsimp only at *; simp only [List.length_take]; omega,fun q hq=>h.x q (by
  rcases List.mem_append.1 hq with e | e
  ·exact List.mem_append_left _ e
  ·exact List.mem_append_right _ (List.mem_of_mem_take e))⟩
theorem p_SyncD {S L:List api_Page} (h:OkD ⟨S,L,false⟩ 500):disk_Sync ⟨S,L,false⟩=some (⟨laidN S L,[],false⟩,0):=by
 unfold disk_Sync
 rw [if_neg Bool.false_ne_true,p_laid S L (by have:=h.s; have:=h.l; dsimp only at *; omega) (fun p hp=>(h.x p hp).2)]; rfl
end Go.Proofs
