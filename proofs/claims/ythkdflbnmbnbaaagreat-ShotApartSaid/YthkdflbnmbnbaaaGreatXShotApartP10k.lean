/- Shots, plain: dropped in either order; taken, and dropped. No condition. -/
import Derived.Test.YthkdflbnmbnbaaaGreatXShotApartP10j
import Derived.Test.YthkdflbnmbnbaaaGreatXShotApartIn
namespace Go.Proofs
set_option linter.all false
open Go Go.Cat
set_option linter.all false
section
variable {k:Nat} {s:api_Shots}
theorem filt_sub (T:List api_Shot) (i:Int):(T.filter fun x=>x.Id != i).Sublist T:=List.filter_sublist
theorem t_two (h:SI 60 s) (i j:Int):Tot ((shot_Drop s i).bind fun x8=>(shot_Drop x8.1 j).bind fun x9=>(shot_Drop s j).bind fun x10=>(shot_Drop x10.1 i).bind fun x11=>ref10_Same x9.1 x11.1) (·=true):=by
 have hta:=h.ta; have hps:=h.ps
 have e:∀i,(dropS s i).1=shS s (s.Taken.filter fun x=>x.Id != i):=fun i=>by
  have:=drop_sh1 s s.Taken i
  rw [←h.sh] at this; exact this
 have hi:=h.shS (filt_sub s.Taken i)
 have hj:=h.shS (filt_sub s.Taken j)
 refine Tot.bindeq (p_DropS _ _ (by omega) (by omega)) ?_
 rw [e]
 refine Tot.bindeq (p_DropS _ _ (by have:=hi.ta; omega) (by have:=hi.ps; omega)) ?_
 refine Tot.bindeq (p_DropS _ _ (by omega) (by omega)) ?_
 rw [e]
 refine Tot.bindeq (p_DropS _ _ (by have:=hj.ta; omega) (by have:=hj.ps; omega)) ?_
 rw [drop_sh1,drop_sh1]
 have hc:((s.Taken.filter fun x=>x.Id != i).filter fun x=>x.Id != j)=((s.Taken.filter fun x=>x.Id != j).filter fun x=>x.Id != i):=by
  rw [List.filter_filter,List.filter_filter]
  exact List.filter_congr fun x _=>Bool.and_comm _ _
 rw [hc]
 exact ((h.shS ((filt_sub _ i).trans (filt_sub s.Taken j))).same (by omega) _).mono fun r hr=>hr.2 rfl
theorem t_apart1 (h:SI 60 s):Tot (law10_ShotApart_J1 s true ()) (·=true):=by
 have hta:=h.ta; have hps:=h.ps; have hnx:=h.nx; have hn:=h.f.n
 unfold law10_ShotApart_J1
 refine Tot.bindeq (p_TakeS s 1 h.t.s (by omega) (by omega) (by omega)) ?_
 obtain ⟨r,hr,hk⟩:=h.t.rt
 have e:takeS s 1=if (decide ((s.Taken.length:Int)≥16)||decide (s.Next≥1099511627776))=true then (s,0,76) else (⟨s.Now,s.Tick,s.Since,s.Pasts,s.Taken++[⟨s.Next,1,s.Tick⟩],s.Next+1⟩,s.Next,0):=by
  unfold takeS gD
  rw [hr]
  rw [if_neg (by simp),if_neg (by show ¬(r.Kind != 2)=true; simp [hk])]
 have hu:=h.take 1
 rw [e] at hu ⊢
 split
 ·exact Tot.cond (by simp) (Tot.ret rfl)
 next hc =>
 rw [if_neg hc] at hu
 refine Tot.ncond (by simp) ?_
 dsimp only at hu ⊢
 have hd:dropS ⟨s.Now,s.Tick,s.Since,s.Pasts,s.Taken++[⟨s.Next,1,s.Tick⟩],s.Next+1⟩ s.Next=(⟨s.Now,s.Tick,s.Since,s.Pasts,s.Taken,s.Next+1⟩,0):=by
  have h1:=drop_sh1 ⟨s.Now,s.Tick,s.Since,s.Pasts,s.Taken++[⟨s.Next,1,s.Tick⟩],s.Next+1⟩ (s.Taken++[⟨s.Next,1,s.Tick⟩]) s.Next
  have h2:=drop_sh2 ⟨s.Now,s.Tick,s.Since,s.Pasts,s.Taken++[⟨s.Next,1,s.Tick⟩],s.Next+1⟩ (T:=s.Taken++[⟨s.Next,1,s.Tick⟩]) (i:=s.Next) ⟨⟨s.Next,1,s.Tick⟩,by simp,rfl⟩
  have hsh:=hu.sh
  rw [←hsh] at h1 h2
  refine Prod.ext ?_ h2
  rw [h1,filt_snoc hu.id]
  unfold Go.Proofs.shS
  have:keepP s.Pasts s.Taken=s.Pasts:=List.filter_eq_self.2 fun p hp=>(h.pt p hp).2
  dsimp only
  rw [this]
 refine Tot.bindeq (p_DropS _ _ (by simp; omega) (by dsimp only; omega)) ?_
 rw [hd]
 refine Tot.chk (by unfold InI64; dsimp only; omega) ?_
 have hs:(⟨s.Now,s.Tick,s.Since,s.Pasts,s.Taken,s.Next+1 - 1⟩:api_Shots)=s:=by
  rw [shots_eq]; exact ⟨rfl,rfl,by dsimp only; omega,rfl,rfl,rfl⟩
 refine Tot.bind (R:=(·=true)) (Tot.bindeq (a:=true) rfl (Tot.bind (R:=(·=true)) (Tot.cond rfl (Tot.bind (R:=(·=true)) ?_ fun r hr=>Tot.ret hr)) fun r hr=>Tot.ret hr)) fun r hr=>Tot.ret hr
 dsimp only
 rw [hs]
 exact (h.same (by omega) s).mono fun r hr=>hr.2 rfl
end
theorem l_ShotApart (l:List law10_Act) (at_:List UInt8) (h1:okL_c_law10_Act l) (h2:okA_ok_u8_2 at_):law10_ShotApart l at_=some true:=by
 refine Tot.eq ?_
 have ha:at_.length=2:=h2.1
 unfold law10_ShotApart
 refine Tot.bindeq p_head10 (Tot.bind (r_Great l) fun g hg=>Tot.ite (fun _=>Tot.ret rfl) fun e=>?_)
 obtain ⟨hl,hd⟩:=hg (by simpa using e)
 have h:=made_SI hl
 have hta:=h.ta
 refine Tot.bindeq (r_Made hl hd) ?_
 generalize madeS l=s at *
 refine Tot.ite (fun e=>?_) fun e=>t_apart1 h
 have hT:1 < s.Taken.length:=by simp at e; omega
 have em:∀x:UInt8,Int.tmod (x.toNat:Int) (s.Taken.length:Int)=((x.toNat % s.Taken.length:Nat):Int):=fun x=>by
  rw [Int.tmod_eq_emod_of_nonneg (by omega)]; rfl
 have hm:∀x:UInt8,x.toNat % s.Taken.length < s.Taken.length:=fun x=>Nat.mod_lt _ (by omega)
 refine Tot.bindeq (idx_some (n:=0) (List.getElem?_eq_getElem (by omega))) (Tot.chk (by omega) ?_)
 rw [em]
 refine Tot.bindeq (idx_some (List.getElem?_eq_getElem (hm _))) (Tot.bindeq (idx_some (n:=1) (List.getElem?_eq_getElem (by omega))) (Tot.chk (by omega) ?_))
 rw [em]
 refine Tot.bindeq (idx_some (List.getElem?_eq_getElem (hm _))) ?_
 obtain ⟨r,hr,hr2⟩:=t_two h (s.Taken[at_[0].toNat % s.Taken.length]'(hm _)).Id (s.Taken[at_[1].toNat % s.Taken.length]'(hm _)).Id
 obtain ⟨x8,e8,hr⟩:=bindS hr
 obtain ⟨x9,e9,hr⟩:=bindS hr
 obtain ⟨x10,e10,hr⟩:=bindS hr
 obtain ⟨x11,e11,hr⟩:=bindS hr
 refine Tot.bindeq e8 (Tot.bindeq e9 (Tot.bindeq e10 (Tot.bindeq e11 (Tot.bindeq hr ?_))))
 exact Tot.ncond (by simp [hr2]) (t_apart1 h)
end Go.Proofs
