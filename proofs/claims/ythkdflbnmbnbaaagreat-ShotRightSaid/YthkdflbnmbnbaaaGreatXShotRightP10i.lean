/- Shots, plain: what is taken, and dropped; acts, and what holds by them. No condition. -/
import Derived.Test.YthkdflbnmbnbaaaGreatXShotRightP10g
namespace Go.Proofs
set_option linter.all false
open Go Go.Cat
set_option linter.all false
def takeS (s:api_Shots) (i:Int):api_Shots×Int×Int:=if (!(gN s.Now.Nodes i).isSome)=true then (s,0,70) else if ((gD s.Now.Nodes i).Kind != 2)=true then (s,0,73) else if (decide ((s.Taken.length:Int)≥16)||decide (s.Next≥1099511627776))=true then (s,0,76) else (⟨s.Now,s.Tick,s.Since,s.Pasts,s.Taken++[⟨s.Next,i,s.Tick⟩],s.Next+1⟩,s.Next,0)
theorem r_TakeS (s:api_Shots) (i:Int) (hl:s.Now.Nodes.length≤1000000) (ht:s.Taken.length≤1000000) (hn:0≤s.Next∧s.Next≤1000000):ref10_Take s i=some (takeS s i):=by
 unfold ref10_Take takeS
 rw [r_Get _ _ hl,Option.bind_some]
 dsimp only
 split
 ·rfl
 split
 ·rfl
 rw [bo (b:=decide (s.Next≥1099511627776)) (fun _=>rfl),Option.bind_some,Option.bind_some]
 split
 ·rfl
 rw [chk_pos (by simp; omega),chk_pos (by simp; omega),chk_pos (by unfold InI64; omega)]; rfl
theorem p_TakeS (s:api_Shots) (i:Int) (hs:SrtN s.Now.Nodes) (hl:s.Now.Nodes.length≤1000000) (ht:s.Taken.length≤1000000) (hn:0≤s.Next∧s.Next≤1000000):shot_Take s i=some (takeS s i):=by
 unfold shot_Take takeS
 rw [p_Get hs hl,Option.bind_some]
 dsimp only
 split
 ·rfl
 split
 ·rfl
 rw [bo (b:=decide (s.Next≥1099511627776)) (fun _=>rfl),Option.bind_some,Option.bind_some]
 split
 ·rfl
 rw [eq_slicesN2 _ (by omega),Option.bind_some,chk_pos (by simp only [List.length_cons,List.length_nil]; omega),chk_pos (by unfold InI64; omega)]
def dropT (s:api_Shots) (i:Int):List api_Shot:=s.Taken.filter fun x=>x.Id != i
def keepP (l:List api_Past) (T:List api_Shot):List api_Past:=l.filter fun p=>seesB T p.From p.Till
def dropS (s:api_Shots) (i:Int):api_Shots×Int:=if (((dropT s i).length:Int) == (s.Taken.length:Int))=true then (s,100) else (⟨s.Now,s.Tick,s.Since,keepP s.Pasts (dropT s i),dropT s i,s.Next⟩,0)
theorem dropT_len (s:api_Shots) (i:Int):(dropT s i).length≤s.Taken.length:=List.length_filter_le _ _
theorem r_DropS (s:api_Shots) (i:Int) (ht:s.Taken.length≤1000000) (hp:s.Pasts.length≤1000000):ref10_Drop s i=some (dropS s i):=by
 refine Tot.eq ?_
 have hd:=dropT_len s i
 unfold ref10_Drop dropS ref10N3
 refine Tot.bind (R:=(·=dropT s i)) (Tot.each (l:=s.Taken) (fun k a=>a=(s.Taken.take k).filter fun x=>x.Id != i) (fun k x a hlt hx ha=>?_) (fun a ha=>?_) _ rfl) fun v hv=>?_
 ·unfold ref10N1
  have hal:a.length≤k:=by rw [ha]; exact Nat.le_trans (List.length_filter_le _ _) (by rw [List.length_take]; omega)
  refine Tot.cond (by simpa using hlt) ?_
  dsimp only
  rw [idx_some hx,Option.bind_some]
  by_cases hne:(x.Id != i)=true
  ·rw [if_pos hne]
   exact Tot.bindeq (chk_pos (by simp only [List.length_cons,List.length_nil]; omega)) (Tot.chk (by unfold InI64; omega) (Tot.inl ⟨rfl,by rw [take_snoc hx,List.filter_append,←ha,List.filter_cons,if_pos hne]; rfl⟩))
  ·rw [if_neg hne]
   exact Tot.bindeq rfl (Tot.chk (by unfold InI64; omega) (Tot.inl ⟨rfl,by rw [take_snoc hx,List.filter_append,←ha,List.filter_cons,if_neg hne]; simp⟩))
 ·unfold ref10N1
  rw [List.take_length] at ha
  exact Tot.ncond (by simp) (Tot.out (Tot.ret ha))
 subst hv
 refine Tot.ite (fun e=>Tot.ret (by rw [if_pos e])) fun e=>?_
 rw [if_neg e]
 unfold ref10N4
 refine Tot.bind (R:=(·=keepP s.Pasts (dropT s i))) (Tot.each (l:=s.Pasts) (fun k a=>a=keepP (s.Pasts.take k) (dropT s i)) (fun k x a hlt hx ha=>?_) (fun a ha=>?_) _ rfl) fun v hv=>Tot.ret (by rw [hv])
 ·unfold ref10N2
  have hal:a.length≤k:=by rw [ha]; exact Nat.le_trans (List.length_filter_le _ _) (by rw [List.length_take]; omega)
  refine Tot.cond (by simpa using hlt) ?_
  dsimp only
  rw [idx_some hx,Option.bind_some,Option.bind_some,r_wanted _ _ _ (by omega),Option.bind_some]
  unfold keepP at *
  by_cases hne:seesB (dropT s i) x.From x.Till=true
  ·rw [if_pos hne]
   exact Tot.bindeq (chk_pos (by simp only [List.length_cons,List.length_nil]; omega)) (Tot.chk (by unfold InI64; omega) (Tot.inl ⟨rfl,by rw [take_snoc hx,List.filter_append,←ha,List.filter_cons,if_pos hne]; rfl⟩))
  ·rw [if_neg hne]
   exact Tot.bindeq rfl (Tot.chk (by unfold InI64; omega) (Tot.inl ⟨rfl,by rw [take_snoc hx,List.filter_append,←ha,List.filter_cons,if_neg hne]; simp⟩))
 ·unfold ref10N2
  rw [List.take_length] at ha
  exact Tot.ncond (by simp) (Tot.out (Tot.ret ha))
theorem p_DropS (s:api_Shots) (i:Int) (ht:s.Taken.length≤1000000) (hp:s.Pasts.length≤1000000):shot_Drop s i=some (dropS s i):=by
 refine Tot.eq ?_
 have hd:=dropT_len s i
 unfold shot_Drop dropS shotN41 shotN45
 refine Tot.bind (R:=(·=dropT s i)) (Tot.bind (R:=(·=dropT s i)) (Tot.each (l:=s.Taken) (fun k a=>a=(s.Taken.take k).filter fun x=>x.Id != i) (fun k x a hlt hx ha=>?_) (fun a ha=>?_) _ rfl) fun v hv=>Tot.ret hv) fun v hv=>?_
 ·unfold shotN43 shot_Drop_1
  have hal:a.length≤k:=by rw [ha]; exact Nat.le_trans (List.length_filter_le _ _) (by rw [List.length_take]; omega)
  refine Tot.cond (by simpa using hlt) ?_
  dsimp only
  rw [idx_some hx,Option.bind_some,Option.bind_some]
  by_cases hne:(x.Id != i)=true
  ·rw [if_pos hne]
   exact Tot.bindeq (chk_pos (by simp only [List.length_cons,List.length_nil]; omega)) (Tot.chk (by unfold InI64; omega) (Tot.inl ⟨rfl,by rw [take_snoc hx,List.filter_append,←ha,List.filter_cons,if_pos hne]; rfl⟩))
  ·rw [if_neg hne]
   exact Tot.bindeq rfl (Tot.chk (by unfold InI64; omega) (Tot.inl ⟨rfl,by rw [take_snoc hx,List.filter_append,←ha,List.filter_cons,if_neg hne]; simp⟩))
 ·unfold shotN43
  rw [List.take_length] at ha
  exact Tot.ncond (by simp) (Tot.out (Tot.ret ha))
 subst hv
 refine Tot.ite (fun e=>Tot.ret (by rw [if_pos e])) fun e=>?_
 rw [if_neg e]
 unfold shotN35 shotN39
 refine Tot.bind (R:=(·=keepP s.Pasts (dropT s i))) (Tot.bind (R:=(·=keepP s.Pasts (dropT s i))) (Tot.each (l:=s.Pasts) (fun k a=>a=keepP (s.Pasts.take k) (dropT s i)) (fun k x a hlt hx ha=>?_) (fun a ha=>?_) _ rfl) fun v hv=>Tot.ret hv) fun v hv=>Tot.ret (by rw [hv])
 ·unfold shotN37 shotN1
  have hal:a.length≤k:=by rw [ha]; exact Nat.le_trans (List.length_filter_le _ _) (by rw [List.length_take]; omega)
  refine Tot.cond (by simpa using hlt) ?_
  dsimp only
  rw [idx_some hx,Option.bind_some,p_seen _ _ _ (by omega),Option.bind_some,Option.bind_some]
  unfold keepP at *
  by_cases hne:seesB (dropT s i) x.From x.Till=true
  ·rw [if_pos hne]
   exact Tot.bindeq (chk_pos (by simp only [List.length_cons,List.length_nil]; omega)) (Tot.chk (by unfold InI64; omega) (Tot.inl ⟨rfl,by rw [take_snoc hx,List.filter_append,←ha,List.filter_cons,if_pos hne]; rfl⟩))
  ·rw [if_neg hne]
   exact Tot.bindeq rfl (Tot.chk (by unfold InI64; omega) (Tot.inl ⟨rfl,by rw [take_snoc hx,List.filter_append,←ha,List.filter_cons,if_neg hne]; simp⟩))
 ·unfold shotN37
  rw [List.take_length] at ha
  exact Tot.ncond (by simp) (Tot.out (Tot.ret ha))
def numP (s:api_Shots) (n:UInt8):Int:=match s.Taken[n.toNat % (s.Taken.length+1)]? with | some x=>x.Id | none=>quoK .i64 (n.toNat:Int) 8
theorem r_num (s:api_Shots) (n:UInt8) (ht:s.Taken.length≤1000000):law10N7 s n=some (numP s n):=by
 unfold law10N7 numP
 have e:Int.tmod (n.toNat:Int) ((s.Taken.length:Int)+1)=((n.toNat % (s.Taken.length+1):Nat):Int):=by
  rw [Int.tmod_eq_emod_of_nonneg (by omega)]; rfl
 rw [chk_pos (by unfold InI64; omega),chk_pos (by omega),e]
 generalize n.toNat % (s.Taken.length+1)=k
 by_cases hk:k < s.Taken.length
 ·rw [if_pos (by simpa using hk),idx_of_nat,List.getElem?_eq_getElem hk]; rfl
 ·rw [if_neg (by simpa using hk),List.getElem?_eq_none (by omega)]
noncomputable def stepS (s:api_Shots) (a:law10_Act):api_Shots×Int×Int :=
 if a.Do.toNat % 8=5∨a.Do.toNat % 8=6 then takeS s (nodeP s.Now a.N)
 else if a.Do.toNat % 8=7 then ((dropS s (numP s a.N)).1,0,(dropS s (numP s a.N)).2)
 else (putS s (doneT s.Now a.S),0,0)
structure SI (k:Nat) (s:api_Shots):Prop where
 f:TF (2+5 * k) s.Now
 t:TS s.Now
 si:s.Since.length=s.Now.Nodes.length
 tk:0≤s.Tick∧s.Tick≤k
 nx:1≤s.Next∧s.Next≤(k:Int)+1
 sn:∀q,q∈s.Since→0≤q∧q≤s.Tick
 ta:s.Taken.length≤k
 ps:s.Pasts.length≤2000 * k
 pe:∀p,p∈s.Pasts→p.Node.Ents.length≤2+5 * k
 id:s.Taken.Pairwise (fun x y=>x.Id < y.Id)
 ti:∀x,x∈s.Taken→(1≤x.Id∧x.Id < s.Next)∧0≤x.At∧x.At≤s.Tick
 pt:∀p,p∈s.Pasts→(0≤p.From∧p.From < p.Till∧p.Till≤s.Tick)∧seesB s.Taken p.From p.Till=true
section
variable {k:Nat} {s:api_Shots}
theorem SI.up (h:SI k s) {j:Nat} (hj:k≤j):SI j s :=
 ⟨h.f.up (by omega),h.t,h.si,by have:=h.tk; omega,by have:=h.nx; omega,h.sn,by have:=h.ta; omega,by have:=h.ps; omega,fun p hp=>by have:=h.pe p hp; omega,h.id,h.ti,h.pt⟩
theorem SI.pf (h:SI k s) (hk:k≤200) (a:law07_Step):PF (2+5 * k+5) s (doneT s.Now a) :=
 ⟨h.f.up (by omega),h.f.done a,by omega,h.t.s,(h.t.done a).s,h.si,by have:=h.tk; omega,by have:=h.ps; omega,by have:=h.ta; omega⟩
theorem sees_mono {l m:List api_Shot} {f u:Int} (h:seesB l f u=true) (hs:∀x,x∈l→x∈m):seesB m f u=true:=by
 unfold seesB at *
 rw [List.any_eq_true] at *
 obtain ⟨x,hx,hp⟩:=h
 exact ⟨x,hs x hx,hp⟩
theorem SI.put (h:SI k s) (hk:k≤200) (a:law07_Step):SI (k+1) (putS s (doneT s.Now a)):=by
 unfold putS
 split
 ·exact h.up (by omega)
 have hpf:=h.pf hk a
 have htk:=h.tk
 have hf:=h.f.done a
 refine ⟨hf.up (by omega),h.t.done a,by simp,by dsimp only; omega,by have:=h.nx; dsimp only; omega,fun q hq=>?_,by have:=h.ta; dsimp only; omega,?_,fun p hp=>?_,h.id,fun x hx=>?_,fun p hp=>?_⟩
 ·obtain ⟨n,hn,rfl⟩:=List.mem_map.1 hq
  dsimp only
  unfold sinceOf
  split
  ·next j hj =>
   have:=(List.findIdx?_eq_some_iff_getElem.1 hj).1
   have hlt:j < s.Since.length:=by rw [h.si]; omega
   rw [List.getElem?_eq_getElem hlt]
   have:=h.sn _ (List.getElem_mem hlt)
   simp only [Option.getD_some]; omega
  ·omega
 ·show (s.Pasts++pastsP s _).length≤_
  unfold pastsP
  rw [List.length_append,List.length_map]
  have h1:=List.length_filter_le (pastK s (doneT s.Now a)) (s.Now.Nodes.zip s.Since)
  rw [hpf.zl] at h1
  have:=h.ps; have:=h.f.n; omega
 ·rcases List.mem_append.1 hp with hp | hp
  ·have:=h.pe p hp; omega
  ·obtain ⟨q,hq,rfl⟩:=List.mem_map.1 hp
   have:=h.f.e _ (List.of_mem_zip (List.mem_filter.1 hq).1).1
   dsimp only; omega
 ·have:=h.ti x hx; dsimp only; omega
 ·rcases List.mem_append.1 hp with hp | hp
  ·have:=h.pt p hp; exact ⟨by dsimp only; omega,this.2⟩
  ·obtain ⟨q,hq,rfl⟩:=List.mem_map.1 hp
   obtain ⟨h1,h2⟩:=List.mem_filter.1 hq
   have:=h.sn _ (List.of_mem_zip h1).2
   unfold pastK at h2
   exact ⟨by dsimp only; omega,by simpa using (Bool.and_eq_true_iff.1 h2).2⟩
theorem SI.take (h:SI k s) (i:Int):SI (k+1) (takeS s i).1:=by
 have h0:=h.up (j:=k+1) (by omega)
 have htk:=h.tk; have hnx:=h.nx
 unfold takeS
 split
 ·exact h0
 split
 ·exact h0
 split
 ·exact h0
 refine ⟨h0.f,h.t,h.si,h0.tk,by dsimp only; omega,h.sn,by have:=h.ta; simp; omega,h0.ps,h0.pe,?_,fun x hx=>?_,fun p hp=>⟨(h.pt p hp).1,sees_mono (h.pt p hp).2 fun x hx=>List.mem_append_left _ hx⟩⟩
 ·refine List.pairwise_append.2 ⟨h.id,List.pairwise_singleton _ _,fun x hx y hy=>?_⟩
  obtain rfl:=List.mem_singleton.1 hy
  have:=h.ti x hx; dsimp only; omega
 ·rcases List.mem_append.1 hx with hx | hx
  ·have:=h.ti x hx; dsimp only; omega
  ·obtain rfl:=List.mem_singleton.1 hx
   dsimp only; omega
theorem SI.drop (h:SI k s) (i:Int):SI k (dropS s i).1:=by
 unfold dropS
 split
 ·exact h
 refine ⟨h.f,h.t,h.si,h.tk,h.nx,h.sn,by have:=h.ta; have:=dropT_len s i; dsimp only; omega,?_,fun p hp=>h.pe p (List.mem_filter.1 hp).1,h.id.filter _,fun x hx=>h.ti x (List.mem_filter.1 hx).1,fun p hp=>⟨(h.pt p (List.mem_filter.1 hp).1).1,(List.mem_filter.1 hp).2⟩⟩
 have:=h.ps; have:=List.length_filter_le (fun p=>seesB (dropT s i) p.From p.Till) s.Pasts
 unfold keepP; dsimp only; omega
theorem SI.step (h:SI k s) (hk:k≤200) (a:law10_Act):SI (k+1) (stepS s a).1:=by
 unfold stepS
 split
 ·exact h.take _
 split
 ·exact (h.drop _).up (by omega)
 ·exact h.put hk _
theorem r_StepS (h:SI k s) (hk:k≤200) (a:law10_Act) (ha:a.S.Data.length≤10000):law10_Done s a=some (stepS s a):=by
 have h1:=h.f.n; have h2:=h.ta; have h3:=h.nx; have h4:=h.ps
 refine Tot.eq ?_
 unfold law10_Done stepS
 simp only [kind8]
 generalize hd:a.Do.toNat % 8=d
 have hd8:d < 8:=by omega
 have hput:Tot ((law07_Done s.Now a.S).bind fun x5=>(ref10_Put s x5.1).bind fun x6=>some (x6,(0:Int),(0:Int))) (·=(putS s (doneT s.Now a.S),0,0)) :=
  Tot.bind (r_DoneT h.f (by omega) _ ha) fun r hr=>Tot.bindeq (by rw [hr]; exact r_PutS (h.pf hk a.S)) (Tot.ret rfl)
 match d,hd8 with
 | 0,_=>exact Tot.bindeq (a:=false) rfl (Tot.ncond (by decide) (Tot.ncond (by decide) hput))
 | 1,_=>exact Tot.bindeq (a:=false) rfl (Tot.ncond (by decide) (Tot.ncond (by decide) hput))
 | 2,_=>exact Tot.bindeq (a:=false) rfl (Tot.ncond (by decide) (Tot.ncond (by decide) hput))
 | 3,_=>exact Tot.bindeq (a:=false) rfl (Tot.ncond (by decide) (Tot.ncond (by decide) hput))
 | 4,_=>exact Tot.bindeq (a:=false) rfl (Tot.ncond (by decide) (Tot.ncond (by decide) hput))
 | 5,_=>exact Tot.bindeq (a:=true) rfl (Tot.cond rfl (Tot.bindeq (r_Node h.f (by omega) _) (Tot.bindeq (r_TakeS _ _ (by omega) (by omega) (by omega)) (Tot.ret rfl))))
 | 6,_=>exact Tot.bindeq (a:=true) rfl (Tot.cond rfl (Tot.bindeq (r_Node h.f (by omega) _) (Tot.bindeq (r_TakeS _ _ (by omega) (by omega) (by omega)) (Tot.ret rfl))))
 | 7,_=>exact Tot.bindeq (a:=false) rfl (Tot.ncond (by decide) (Tot.cond rfl (Tot.bindeq (r_num _ _ (by omega)) (Tot.bindeq (r_DropS _ _ (by omega) (by omega)) (Tot.ret rfl)))))
 | n+8,h=>exact absurd h (by omega)
theorem p_StepS (h:SI k s) (hk:k≤200) (a:law10_Act) (ha:a.S.Data.length≤10000):law10_own s a=some (stepS s a):=by
 have h1:=h.f.n; have h2:=h.ta; have h3:=h.nx; have h4:=h.ps
 refine Tot.eq ?_
 unfold law10_own stepS
 simp only [kind8]
 generalize hd:a.Do.toNat % 8=d
 have hd8:d < 8:=by omega
 have hput:Tot ((law07_Done s.Now a.S).bind fun x5=>(shot_Put s x5.1).bind fun x6=>some (x6,(0:Int),(0:Int))) (·=(putS s (doneT s.Now a.S),0,0)) :=
  Tot.bind (r_DoneT h.f (by omega) _ ha) fun r hr=>Tot.bindeq (by rw [hr]; exact p_PutS (h.pf hk a.S)) (Tot.ret rfl)
 match d,hd8 with
 | 0,_=>exact Tot.bindeq (a:=false) rfl (Tot.ncond (by decide) (Tot.ncond (by decide) hput))
 | 1,_=>exact Tot.bindeq (a:=false) rfl (Tot.ncond (by decide) (Tot.ncond (by decide) hput))
 | 2,_=>exact Tot.bindeq (a:=false) rfl (Tot.ncond (by decide) (Tot.ncond (by decide) hput))
 | 3,_=>exact Tot.bindeq (a:=false) rfl (Tot.ncond (by decide) (Tot.ncond (by decide) hput))
 | 4,_=>exact Tot.bindeq (a:=false) rfl (Tot.ncond (by decide) (Tot.ncond (by decide) hput))
 | 5,_=>exact Tot.bindeq (a:=true) rfl (Tot.cond rfl (Tot.bindeq (r_Node h.f (by omega) _) (Tot.bindeq (p_TakeS _ _ h.t.s (by omega) (by omega) (by omega)) (Tot.ret rfl))))
 | 6,_=>exact Tot.bindeq (a:=true) rfl (Tot.cond rfl (Tot.bindeq (r_Node h.f (by omega) _) (Tot.bindeq (p_TakeS _ _ h.t.s (by omega) (by omega) (by omega)) (Tot.ret rfl))))
 | 7,_=>exact Tot.bindeq (a:=false) rfl (Tot.ncond (by decide) (Tot.cond rfl (Tot.bindeq (r_num _ _ (by omega)) (Tot.bindeq (p_DropS _ _ (by omega) (by omega)) (Tot.ret rfl)))))
 | n+8,h=>exact absurd h (by omega)
theorem SI.same (h:SI k s) (hk:k≤300) (b:api_Shots):Tot (ref10_Same s b) (Tells (s=b)) :=
 r_SameS s b h.f (by omega) (by have:=h.si; have:=h.f.n; omega) (by have:=h.ps; omega) (by have:=h.ta; omega) fun p hp=>by have:=h.pe p hp; omega
end
def tree0:api_Tree:=⟨[⟨1,2,0,[],[],1⟩],2,1⟩
def shots0:api_Shots:=⟨tree0,0,[0],[],[],1⟩
theorem SI0:SI 0 shots0:=by
 refine ⟨⟨by decide,fun n hn=>?_,fun n hn=>?_,by decide,by decide⟩,⟨List.pairwise_singleton _ _,fun n hn=>?_,⟨_,rfl,rfl⟩,fun n hn e he=>?_⟩,rfl,by decide,by decide,fun q hq=>?_,by decide,by decide,fun p hp=>(by cases hp),List.Pairwise.nil,fun x hx=>(by cases hx),fun p hp=>(by cases hp)⟩
 ·obtain rfl:=List.mem_singleton.1 hn; decide
 ·obtain rfl:=List.mem_singleton.1 hn; decide
 ·obtain rfl:=List.mem_singleton.1 hn; decide
 ·obtain rfl:=List.mem_singleton.1 hn; cases he
 ·obtain rfl:=List.mem_singleton.1 hq; decide
noncomputable def madeS (l:List law10_Act):api_Shots:=l.foldl (fun s a=>(stepS s a).1) shots0
theorem r_Great (l:List law10_Act):Tot (law10_Great l) (fun r=>r=false→l.length≤60∧∀a,a∈l→a.S.Data.length≤5000):=by
 unfold law10_Great
 refine Tot.ite (fun _=>Tot.ret fun e=>by cases e) fun e=>?_
 have hl:l.length≤60:=by simp at e; omega
 unfold law10N3
 refine Tot.each0 (l:=l) (fun n=>∀a,a∈l.take n→a.S.Data.length≤5000) (fun n a hlt ha hi=>?_) (fun hi=>?_) (by simp)
 ·unfold law10N1
  refine Tot.cond (by simpa using hlt) (Tot.bindeq (idx_some ha) (Tot.ite (fun e=>Tot.out (Tot.ret fun e=>by cases e)) fun e=>Tot.chk (by unfold InI64; omega) (Tot.inl ⟨rfl,?_⟩)))
  rw [take_snoc ha]
  intro x hx
  rcases List.mem_append.1 hx with hx | hx
  ·exact hi x hx
  ·obtain rfl:=List.mem_singleton.1 hx
   simp at e; omega
 ·unfold law10N1
  rw [List.take_length] at hi
  exact Tot.ncond (by simp) (Tot.out (Tot.ret fun _=>⟨hl,hi⟩))
theorem SI_made {l:List law10_Act} (hl:l.length≤200):∀{k:Nat} {s:api_Shots},SI k s→k+l.length≤200→SI (k+l.length) (l.foldl (fun s a=>(stepS s a).1) s):=by
 induction l with
 | nil=>intro k s h _; exact h
 | cons a l ih =>
  intro k s h hk
  have:=ih (by simp at hl; omega) (h.step (by omega) a) (by simp at hk; omega)
  rw [List.length_cons,show k+(l.length+1)=k+1+l.length by omega]
  exact this
theorem made_SI {l:List law10_Act} (hl:l.length≤60):SI 60 (madeS l):=by
 have:=SI_made (by omega) SI0 (by omega:0+l.length≤200)
 exact this.up (by omega)
def flat (s:api_Shots):List api_Node×Int×Int×Int×List Int×List api_Past×List api_Shot×Int:=(s.Now.Nodes,s.Now.Next,s.Now.Cookie,s.Tick,s.Since,s.Pasts,s.Taken,s.Next)
theorem r_Made {l:List law10_Act} (hl:l.length≤60) (hd:∀a,a∈l→a.S.Data.length≤5000):law10_Made l=some (madeS l):=by
 refine Tot.eq ?_
 unfold law10_Made
 refine Tot.bindeq (a:=tree0) rfl (Tot.bindeq (a:=shots0) ?_ ?_)
 ·unfold ref10_New tree0
  rw [chk_pos (by decide)]; rfl
 unfold law10N5
 refine Tot.bind (R:=(·=flat (madeS l))) ?_ fun v hv=>Tot.ret (by rw [hv]; rfl)
 refine Tot.each (l:=l) (fun n a=>a=flat ((l.take n).foldl (fun s a=>(stepS s a).1) shots0)) (fun n a v hlt ha hv=>?_) (fun v hv=>?_) (flat shots0) rfl
 ·unfold law10N4
  have hs:SI (0+(l.take n).length) ((l.take n).foldl (fun s a=>(stepS s a).1) shots0):=SI_made (by rw [List.length_take]; omega) SI0 (by rw [List.length_take]; omega)
  have hs:=hs.up (j:=60) (by rw [List.length_take]; omega)
  subst hv
  refine Tot.cond (by simpa using hlt) (Tot.bindeq (idx_some ha) (Tot.bindeq (r_StepS hs (by omega) a (by have:=hd a (List.mem_of_getElem? ha); omega)) (Tot.chk (by unfold InI64; dsimp only; omega) (Tot.inl ⟨rfl,?_⟩))))
  rw [take_snoc ha,List.foldl_append]; rfl
 ·unfold law10N4
  rw [List.take_length] at hv
  subst hv
  exact Tot.ncond (by simp) (Tot.out (Tot.ret rfl))
end Go.Proofs
