/- Shots, plain: none spare, apart, and quiet. No condition. -/
import Derived.Test.YthkdflbnmbnbaaaGreatXShotSpareP10i
namespace Go.Proofs
set_option linter.all false
open Go Go.Cat
set_option linter.all false
def shS (s:api_Shots) (T:List api_Shot):api_Shots:=⟨s.Now,s.Tick,s.Since,keepP s.Pasts T,T,s.Next⟩
theorem keep_keep {P:List api_Past} {T U:List api_Shot} (h:∀x,x∈U→x∈T):keepP (keepP P T) U=keepP P U:=by
 unfold keepP
 rw [List.filter_filter]
 refine List.filter_congr fun p _=>?_
 cases e:seesB U p.From p.Till with
 | false=>rfl
 | true=>rw [sees_mono e h]; rfl
theorem keep_len (P:List api_Past) {T U:List api_Shot} (h:∀x,x∈U→x∈T):(keepP P U).length≤(keepP P T).length:=by
 rw [←keep_keep h]; exact List.length_filter_le _ _
theorem filt_len {α:Type} {p:α→Bool} {l:List α} (h:(l.filter p).length=l.length):l.filter p=l:=List.Sublist.eq_of_length List.filter_sublist h
theorem drop_sh1 (s:api_Shots) (T:List api_Shot) (i:Int):(dropS (shS s T) i).1=shS s (T.filter fun x=>x.Id != i):=by
 unfold dropS dropT
 by_cases h:(T.filter fun x=>x.Id != i).length=T.length
 ·rw [if_pos (by show (((T.filter _).length:Int) == (T.length:Int))=true; rw [h]; simp),filt_len h]
 ·rw [if_neg (by show ¬(((T.filter _).length:Int) == (T.length:Int))=true; simp; omega)]
  show api_Shots.mk _ _ _ (keepP (keepP s.Pasts T) (T.filter _)) _ _=_
  rw [keep_keep fun x hx=>(List.mem_filter.1 hx).1]; rfl
theorem drop_sh2 (s:api_Shots) {T:List api_Shot} {i:Int} (h:∃x,x∈T∧x.Id=i):(dropS (shS s T) i).2=0:=by
 obtain ⟨x,hx,hi⟩:=h
 unfold dropS dropT
 rw [if_neg]
 show ¬(((T.filter _).length:Int) == (T.length:Int))=true
 have:(T.filter fun x=>x.Id != i).length < T.length:=by
  rw [List.length_filter_lt_length_iff_exists]
  exact ⟨x,hx,by simp [hi]⟩
 simp; omega
section
variable {k:Nat} {s:api_Shots}
theorem SI.sh (h:SI k s):s=shS s s.Taken:=by
 unfold shS
 have:keepP s.Pasts s.Taken=s.Pasts:=List.filter_eq_self.2 fun p hp=>(h.pt p hp).2
 rw [this]
theorem SI.shS (h:SI k s) {T:List api_Shot} (hT:T.Sublist s.Taken):SI k (shS s T):=by
 have hP:=List.length_filter_le (fun p=>seesB T p.From p.Till) s.Pasts
 refine ⟨h.f,h.t,h.si,h.tk,h.nx,h.sn,by have:=h.ta; have:=hT.length_le; show T.length≤k; omega,by have:=h.ps; show (keepP s.Pasts T).length≤_; unfold keepP; omega,fun p hp=>h.pe p (List.mem_filter.1 hp).1,h.id.sublist hT,fun x hx=>h.ti x (hT.subset hx),fun p hp=>⟨(h.pt p (List.mem_filter.1 hp).1).1,(List.mem_filter.1 hp).2⟩⟩
theorem filt_cons {x:api_Shot} {T:List api_Shot} (h:(x::T).Pairwise fun x y=>x.Id < y.Id):((x::T).filter fun y=>y.Id != x.Id)=T:=by
 obtain ⟨h1,_⟩:=List.pairwise_cons.1 h
 rw [List.filter_cons,if_neg (by simp),List.filter_eq_self]
 intro y hy; have:=h1 y hy; simp; omega
theorem filt_snoc {x:api_Shot} {T:List api_Shot} (h:(T++[x]).Pairwise fun x y=>x.Id < y.Id):((T++[x]).filter fun y=>y.Id != x.Id)=T:=by
 obtain ⟨_,_,h3⟩:=List.pairwise_append.1 h
 have:T.filter (fun y=>y.Id != x.Id)=T:=by
  rw [List.filter_eq_self]; intro y hy; have:=h3 y hy x (by simp); simp; omega
 rw [List.filter_append,this]; simp
def flat2 (a b:api_Shots):List api_Node×Int×Int×Int×List Int×List api_Past×List api_Shot×Int×List api_Node×Int×Int×Int×List Int×List api_Past×List api_Shot×Int:=(a.Now.Nodes,a.Now.Next,a.Now.Cookie,a.Tick,a.Since,a.Pasts,a.Taken,a.Next,b.Now.Nodes,b.Now.Next,b.Now.Cookie,b.Tick,b.Since,b.Pasts,b.Taken,b.Next)
theorem t_spare (h:SI 60 s):law10_ShotSpare_L1 s true (0,flat2 s s)=some true:=by
 refine Tot.eq ?_
 have hta:=h.ta; have hps:=h.ps
 have h0:flat2 s s=flat2 (shS s (s.Taken.drop 0)) (shS s (s.Taken.take (s.Taken.length - 0))):=by
  rw [List.drop_zero,Nat.sub_zero,List.take_length,←h.sh]
 rw [h0]
 unfold law10_ShotSpare_L1
 refine Tot.each (l:=s.Taken) (fun n v=>v=flat2 (shS s (s.Taken.drop n)) (shS s (s.Taken.take (s.Taken.length - n)))) (fun n x v hlt hx hv=>?_) (fun v hv=>?_) _ rfl
 ·subst hv
  have hy:=List.getElem?_eq_getElem (show s.Taken.length - 1 - n < s.Taken.length by omega)
  generalize s.Taken[s.Taken.length - 1 - n]=y at hy
  have ed:s.Taken.drop n=x::s.Taken.drop (n+1):=drop_cons hx
  have et:s.Taken.take (s.Taken.length - n)=s.Taken.take (s.Taken.length - (n+1))++[y]:=by
   have:=take_snoc hy
   rw [show s.Taken.length - 1 - n+1=s.Taken.length - n by omega,show s.Taken.length - 1 - n=s.Taken.length - (n+1) by omega] at this
   exact this
  have hd:=h.id.sublist (List.drop_sublist n s.Taken)
  have ht:=h.id.sublist (List.take_sublist (s.Taken.length - n) s.Taken)
  have ea:dropS (shS s (s.Taken.drop n)) x.Id=(shS s (s.Taken.drop (n+1)),0):=by
   refine Prod.ext ?_ (drop_sh2 s ⟨x,by rw [ed]; simp,rfl⟩)
   rw [drop_sh1,ed,filt_cons (by rw [←ed]; exact hd)]
  have eb:dropS (shS s (s.Taken.take (s.Taken.length - n))) y.Id=(shS s (s.Taken.take (s.Taken.length - (n+1))),0):=by
   refine Prod.ext ?_ (drop_sh2 s ⟨y,by rw [et]; simp,rfl⟩)
   rw [drop_sh1,et,filt_snoc (by rw [←et]; exact ht)]
  have ha:=h.shS (List.drop_sublist n s.Taken)
  have hb:=h.shS (List.take_sublist (s.Taken.length - n) s.Taken)
  have la:=keep_len s.Pasts (T:=s.Taken.drop n) (U:=s.Taken.drop (n+1)) fun z hz=>by rw [ed]; exact List.mem_cons_of_mem _ hz
  have lb:=keep_len s.Pasts (T:=s.Taken.take (s.Taken.length - n)) (U:=s.Taken.take (s.Taken.length - (n+1))) fun z hz=>by rw [et]; exact List.mem_append_left _ hz
  unfold law10_ShotSpare_B1
  refine Tot.cond (by simpa using hlt) (Tot.bindeq (idx_some hx) (Tot.bindeq (show shot_Drop (shS s (s.Taken.drop n)) x.Id=_ from p_DropS _ _ (by have:=ha.ta; omega) (by have:=ha.ps; omega)) ?_))
  rw [ea]
  refine Tot.chk (by unfold InI64; omega) (Tot.chk (by unfold InI64; dsimp only; omega) ?_)
  have ei:((s.Taken.length:Int) - 1) - (n:Int)=((s.Taken.length - 1 - n:Nat):Int):=by omega
  rw [ei]
  refine Tot.bindeq (idx_some hy) (Tot.bindeq (show shot_Drop (shS s (s.Taken.take (s.Taken.length - n))) y.Id=_ from p_DropS _ _ (by have:=hb.ta; omega) (by have:=hb.ps; omega)) ?_)
  rw [eb]
  refine Tot.bindeq (a:=false) ?_ (Tot.ncond (by simp) (Tot.chk (by unfold InI64; omega) (Tot.inl ⟨rfl,rfl⟩)))
  have hl1:(s.Taken.drop n).length=(s.Taken.drop (n+1)).length+1:=by rw [ed]; rfl
  refine Tot.eq (Tot.bindeq (a:=false) rfl (Tot.bindeq (a:=false) ?_ (Tot.bindeq (a:=false) ?_ (Tot.bindeq (a:=false) ?_ (Tot.ret rfl)))))
  ·show some (decide (((keepP s.Pasts (s.Taken.drop (n+1))).length:Int) > ((keepP s.Pasts (s.Taken.drop n)).length:Int)))=_
   rw [decide_eq_false (by omega)]
  ·show some (decide (((keepP s.Pasts (s.Taken.take (s.Taken.length - (n+1)))).length:Int) > ((keepP s.Pasts (s.Taken.take (s.Taken.length - n))).length:Int)))=_
   rw [decide_eq_false (by omega)]
  ·show chk (InI64 (((s.Taken.drop n).length:Int) - 1)) (some (((s.Taken.drop (n+1)).length:Int) != ((s.Taken.drop n).length:Int) - 1))=_
   have:=ha.ta
   have:(s.Taken.drop n).length≤60:=this
   rw [chk_pos (by unfold InI64; omega),hl1]
   congr 1
   simp
 ·subst hv
  unfold law10_ShotSpare_B1
  refine Tot.ncond (by simp) (Tot.out ?_)
  have hn:shS s []=⟨s.Now,s.Tick,s.Since,[],[],s.Next⟩:=by
   unfold shS keepP
   have:s.Pasts.filter (fun p=>seesB [] p.From p.Till)=[]:=by rw [List.filter_eq_nil_iff]; intro p _; simp [seesB]
   rw [this]
  have hs:=(h.shS (List.nil_sublist s.Taken)).same (by omega) ⟨s.Now,s.Tick,s.Since,[],[],s.Next⟩
  rw [List.drop_length,Nat.sub_self,List.take_zero]
  unfold law10_ShotSpare_J1
  refine Tot.bind (R:=(·=true)) (Tot.bind (R:=(·=true)) (Tot.cond rfl ?_) fun r hr=>Tot.bind (R:=(·=true)) (Tot.cond hr ?_) fun r hr=>Tot.ret hr) fun r hr=>Tot.ret hr
  ·exact Tot.bind (show Tot (ref10_Same (shS s []) _) _ from hs) fun r hr=>Tot.ret (hr.2 hn)
  ·exact Tot.bind (show Tot (ref10_Same (shS s []) _) _ from hs) fun r hr=>Tot.ret (hr.2 hn)
end
theorem l_ShotSpare (l:List law10_Act):law10_ShotSpare l=some true:=by
 refine Tot.eq ?_
 unfold law10_ShotSpare
 refine Tot.bindeq p_head10 (Tot.bind (r_Great l) fun g hg=>Tot.ite (fun _=>Tot.ret rfl) fun e=>?_)
 obtain ⟨hl,hd⟩:=hg (by simpa using e)
 exact Tot.bindeq (r_Made hl hd) (Tot.of (t_spare (made_SI hl)))
end Go.Proofs
