/- Shots, plain: what is taken. No condition. -/
import Derived.Test.YthkdflbnmbnbaaaGreatXShotTakenP10v
namespace Go.Proofs
set_option linter.all false
open Go Go.Cat
set_option linter.all false
section
variable {k:Nat} {s:api_Shots}
theorem p_At_of (h:SI k s) (hk:k≤180) (hj:SJ s) {x:api_Shot} (hx:x∈s.Taken):∃t,RT t∧(∀n,Seen s x.At n↔n∈t.Nodes)∧(∃r,gN t.Nodes x.Ino=some r∧r.Kind=2)∧Tot (shot_At s x.Id) (fun r=>r.1=x.Ino∧r.2.2=0∧∃w,HadP (gN t.Nodes) x.Ino (r.2.1,w)):=by
 obtain ⟨t,h1,h2,h3,h4⟩:=p_hadx h hk hj hx
 refine ⟨t,h1,h2,h3,?_⟩
 have hta:=h.ta
 unfold shot_At shot_At_L1
 refine Tot.each0 (l:=s.Taken) (fun n=>x∉s.Taken.take n) (fun n y hlt hy hi=>?_) (fun hi=>?_) (by simp)
 ·unfold shot_At_B1
  refine Tot.cond (by simpa using hlt) (Tot.bindeq (idx_some hy) (Tot.ite (fun e=>?_) fun e=>Tot.chk (by unfold InI64; omega) (Tot.inl ⟨rfl,?_⟩)))
  ·have:y=x:=by
    have e:y.Id=x.Id:=by simpa using e
    rcases pair_mem h.id (List.mem_of_getElem? hy) hx with h5 | h5 | h5
    ·exact h5
    ·omega
    ·omega
   subst this
   refine Tot.bind h4 fun r hr=>Tot.out (Tot.ret ⟨rfl,rfl,r.2,hr⟩)
  ·rw [take_snoc hy]
   intro hm
   rcases List.mem_append.1 hm with hm | hm
   ·exact hi hm
   ·obtain rfl:=List.mem_singleton.1 hm
    simp at e
 ·rw [List.take_length] at hi
  exact absurd hx hi
theorem take16 (s:api_Shots) (i:Int) (h:s.Taken.length≤16):(takeS s i).1.Taken.length≤16:=by
 unfold takeS
 split
 ·exact h
 split
 ·exact h
 split
 ·exact h
 next hc=>simp at hc; simp; omega
theorem step16 (s:api_Shots) (a:law10_Act) (h:s.Taken.length≤16):(stepS s a).1.Taken.length≤16:=by
 unfold stepS
 split
 ·exact take16 _ _ h
 split
 ·unfold dropS
  split
  ·exact h
  ·have:=dropT_len s (numP s a.N); dsimp only; omega
 ·dsimp only
  unfold putS; split <;> exact h
theorem made16 (l:List law10_Act):(madeS l).Taken.length≤16:=by
 have:∀(l:List law10_Act) (s:api_Shots),s.Taken.length≤16→(l.foldl (fun s a=>(stepS s a).1) s).Taken.length≤16:=by
  intro l
  induction l with
  | nil=>intro s h; exact h
  | cons a l ih=>intro s h; exact ih _ (step16 s a h)
 exact this l _ (by decide)
theorem RT.kind {t:api_Tree} (h:RT t) {n:api_Node} (hn:n∈t.Nodes):n.Kind=1∨n.Kind=2:=(h.nd n hn).kind
theorem t_taken (h:SI 60 s) (hj:SJ s) (h16:s.Taken.length≤16) (n:UInt8):Tot ((law07_Node s.Now n).bind fun x4=>(ref07_Get s.Now x4).bind fun x5=>(shot_Take s x4).bind fun x6=>if (x6.2.2 != 0) then ((if true then (if (!x5.2) then some ((x6.2.2 == 70)) else some false).bind fun c1=>(if c1 then some true else (if x5.2 then some ((x5.1.Kind == 1)) else some false).bind fun c2=>(if c2 then some ((x6.2.2 == 73)) else some false).bind fun c3=>some c3).bind fun c4=>(if c4 then some true else (if x5.2 then some ((x5.1.Kind == 2)) else some false).bind fun c5=>(if c5 then some ((x6.2.2 == 76)) else some false).bind fun c6=>(if c6 then some (((s.Taken.length:Int) == 16)) else some false).bind fun c7=>some c7).bind fun c8=>some c8 else some false).bind fun c9=>some c9).bind fun v1=>some v1 else (shot_At x6.1 x6.2.1).bind fun x7=>(chk (InI64 ((s.Taken.length:Int)+1)) ((if ((x6.1.Taken.length:Int) != ((s.Taken.length:Int)+1)) then some true else some ((x7.2.2 != 0))).bind fun c10=>(if c10 then some true else some ((x7.1 != x4))).bind fun c11=>(if c11 then some true else some ((x5.1.Kind != 2))).bind fun c12=>(if c12 then some true else some ((x6.2.1 != s.Next))).bind fun c13=>some c13)).bind fun v2=>if v2 then some false else chk ((0:Int)≤(s.Taken.length:Int)∧(s.Taken.length:Int)≤(x6.1.Taken.length:Int)) (chk (InI64 (x6.1.Next - 1)) (((if true then (ref10_Same ((⟨x6.1.Now,x6.1.Tick,x6.1.Since,x6.1.Pasts,(x6.1.Taken.take ((s.Taken.length:Int)).toNat),(x6.1.Next - 1)⟩:api_Shots)) s).bind fun x8=>some x8 else some false).bind fun c14=>(if c14 then (ref10_Below s.Now x4).bind fun x9=>(ref07_SameNodes x7.2.1 x9).bind fun x10=>some x10 else some false).bind fun c15=>some c15).bind fun v3=>some v3))) (·=true):=by
 have hn:=h.f.n; have hnx:=h.nx; have hta:=h.ta; have hps:=h.ps
 refine Tot.bindeq (r_Node h.f (by omega) n) (Tot.bindeq (r_Get _ _ (by omega)) (Tot.bindeq (p_TakeS _ _ h.t.s (by omega) (by omega) (by omega)) ?_))
 generalize nodeP s.Now n=i
 have hu:=h.take i
 have hju:=SJ.take h (by omega) hj i
 cases hg:gN s.Now.Nodes i with
 | none =>
  have e:takeS s i=(s,0,70):=by unfold takeS; rw [hg]; rfl
  rw [e]
  exact Tot.cond (by rfl) (Tot.ret rfl)
 | some x =>
  have hgd:=gD_of hg
  rw [hgd]
  have hxm:=gN_some hg
  rcases RT.kind hj.rt hxm.1 with hk | hk
  ·have e:takeS s i=(s,0,73):=by unfold takeS; rw [hg,hgd,if_neg (by simp),if_pos (by show (x.Kind != 2)=true; simp [hk])]
   rw [e]
   refine Tot.cond (by rfl) ?_
   simp only [hk]
   exact Tot.ret rfl
  ·by_cases hc:(decide ((s.Taken.length:Int)≥16)||decide (s.Next≥1099511627776))=true
   ·have e:takeS s i=(s,0,76):=by unfold takeS; rw [hg,hgd,if_neg (by simp),if_neg (by show ¬(x.Kind != 2)=true; simp [hk]),if_pos hc]
    rw [e]
    have h3:s.Taken.length=16:=by simp at hc; omega
    refine Tot.cond (by rfl) ?_
    simp only [hk,h3]
    exact Tot.ret rfl
   ·have e:takeS s i=(⟨s.Now,s.Tick,s.Since,s.Pasts,s.Taken++[⟨s.Next,i,s.Tick⟩],s.Next+1⟩,s.Next,0):=by unfold takeS; rw [hg,hgd,if_neg (by simp),if_neg (by show ¬(x.Kind != 2)=true; simp [hk]),if_neg hc]
    rw [e] at hu hju ⊢
    refine Tot.ncond (show ¬((0:Int) != 0)=true by decide) ?_
    dsimp only at hu hju ⊢
    obtain ⟨t,h1,h2,h3,h4⟩:=p_At_of hu (by omega) hju (x:=⟨s.Next,i,s.Tick⟩) (by simp)
    refine Tot.bind h4 fun r hr=>?_
    obtain ⟨r1,r2,w,r3⟩:=hr
    refine Tot.bindeq (a:=false) ?_ (Tot.ncond (by simp) (Tot.chk (by simp <;> omega) (Tot.chk (by unfold InI64; omega) ?_)))
    ·rw [chk_pos (by unfold InI64; omega),r1,r2,hk]
     have:((s.Taken++[(⟨s.Next,i,s.Tick⟩:api_Shot)]).length:Int)=(s.Taken.length:Int)+1:=by simp
     rw [this]
     simp
    ·have es:(⟨s.Now,s.Tick,s.Since,s.Pasts,(s.Taken++[(⟨s.Next,i,s.Tick⟩:api_Shot)]).take ((s.Taken.length:Int)).toNat,s.Next+1 - 1⟩:api_Shots)=s:=by
      rw [shots_eq]
      refine ⟨rfl,rfl,by dsimp only; omega,rfl,rfl,?_⟩
      dsimp only
      rw [Int.toNat_natCast,List.take_append_of_le_length (Nat.le_refl _),List.take_length]
     rw [es]
     refine Tot.bind (R:=(·=true)) (Tot.bind (R:=(·=true)) (Tot.cond rfl (Tot.bind (h.same (by omega) s) fun r hr=>Tot.ret (hr.2 rfl))) fun c hc=>Tot.bind (R:=(·=true)) (Tot.cond hc ?_) fun r hr=>Tot.ret hr) fun r hr=>Tot.ret hr
     have hsee:∀m,m∈t.Nodes↔m∈s.Now.Nodes:=fun m=>by
      rw [←h2]
      exact seen_now h m
     have et:t.Nodes=s.Now.Nodes:=srt_ext h1.s hj.rt.s hsee
     rw [et] at r3
     refine Tot.bind (p_Below hj.rt (by rw [hg]; rfl)) fun l hl=>?_
     have el:r.2.1=l:=srt_ext r3.1 hl.1 fun m=>by
      rw [r3.2.1,hl.2]
      constructor
      ·rintro ⟨a,b⟩; exact ⟨(gN_some b).1,a⟩
      ·rintro ⟨a,b⟩; exact ⟨b,gN_mem hj.rt.s a⟩
     have hmem:∀m,m∈r.2.1→m∈s.Now.Nodes:=fun m hm=>(gN_some ((r3.2.1 m).1 hm).2).1
     have hlen:r.2.1.length≤1000000:=by
      have hnd:(r.2.1.map (·.Ino)).Pairwise (·≠·):=by
       rw [List.pairwise_map]
       exact r3.1.imp fun h=>by omega
      have:=len_range 5000 _ hnd fun y hy=>by
       obtain ⟨m,hm,rfl⟩:=List.mem_map.1 hy
       have:=hj.rt.lo m (hmem m hm); have:=h.f.x; omega
      rw [List.length_map] at this; omega
     exact Tot.bind (r_SameNodes r.2.1 l hlen fun m hm=>by have:=h.f.e m (hmem m hm); omega) fun r hr=>Tot.ret (hr.2 el)
end
theorem l_ShotTaken (l:List law10_Act) (n:UInt8):law10_ShotTaken l n=some true:=by
 refine Tot.eq ?_
 unfold law10_ShotTaken
 refine Tot.bindeq p_head10 (Tot.bind (r_Great l) fun g hg=>Tot.ite (fun _=>Tot.ret rfl) fun e=>?_)
 obtain ⟨hl,hd⟩:=hg (by simpa using e)
 exact Tot.bindeq (r_Made hl hd) (t_taken (made_SI hl) (made_SJ hl) (made16 l) n)
end Go.Proofs
