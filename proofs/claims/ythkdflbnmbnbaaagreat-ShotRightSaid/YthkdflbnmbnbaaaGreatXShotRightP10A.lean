/- Shots, plain: snapshots and pasts may be so. No condition. -/
import Derived.Test.YthkdflbnmbnbaaaGreatXShotRightP10z
namespace Go.Proofs
set_option linter.all false
open Go Go.Cat
set_option linter.all false
section
variable {k:Nat} {s:api_Shots}
theorem p_since (h:SI k s) (hk:k≤180):slicesN21 s.Since s=some false:=by
 have hn:=h.f.n; have hsi:=h.si
 refine Tot.eq ?_
 unfold slicesN21 slicesN51 slicesN56
 refine Tot.bind (R:=(·=-1)) (Tot.each0 (l:=s.Since) (fun _=>True) (fun n q hlt hq _=>?_) (fun _=>?_) trivial) fun r hr=>Tot.ret (by rw [hr]; rfl)
 ·have hb:=h.sn q (List.mem_of_getElem? hq)
  unfold slicesN53 shotN7
  refine Tot.cond (by simpa using hlt) (Tot.bindeq (idx_some hq) (Tot.bindeq (a:=false) ?_ (Tot.ncond (by simp) (Tot.chk (by unfold InI64; omega) (Tot.inl ⟨rfl,trivial⟩)))))
  rw [if_neg (by simp; omega),decide_eq_false (by omega)]; rfl
 ·unfold slicesN53 slicesN55
  exact Tot.ncond (by simp) (Tot.out (Tot.ret rfl))
theorem p_taken (h:SI k s) (hk:k≤180) (hj:SJ s) (h16:s.Taken.length≤16):shot_taken s=some true:=by
 refine Tot.eq ?_
 unfold shot_taken shotN50
 refine Tot.each0 (l:=s.Taken) (fun _=>True) (fun n x hlt hx _=>?_) (fun _=>?_) trivial
 ·have hb:=h.ti x (List.mem_of_getElem? hx)
  unfold shotN47
  refine Tot.cond (by simpa using hlt) (Tot.bindeq (idx_some hx) (Tot.bindeq (a:=false) ?_ (Tot.ncond (by simp) (Tot.bindeq (a:=false) ?_ (Tot.ncond (by simp) (Tot.chk (by unfold InI64; omega) (Tot.inl ⟨rfl,trivial⟩)))))))
  ·refine Tot.eq (Tot.bindeq (a:=false) (by rw [if_neg (by simp; omega),decide_eq_false (by omega)]) (Tot.bindeq (a:=false) (by rw [if_neg (by simp),decide_eq_false (by omega)]) (Tot.bindeq (a:=false) (by rw [if_neg (by simp),decide_eq_false (by omega)]) (Tot.ret rfl))))
  ·refine Tot.eq (Tot.bindeq (a:=false) ?_ (Tot.ret rfl))
   by_cases hn:n=0
   ·subst hn; rfl
   ·have hp:=List.getElem?_eq_getElem (show n - 1 < s.Taken.length by omega)
    have e2:=(List.getElem?_eq_some_iff.1 hx).2
    have h1:=List.pairwise_iff_getElem.1 h.id (n - 1) n (by omega) hlt (by omega)
    have h2:=List.pairwise_iff_getElem.1 hj.at_ (n - 1) n (by omega) hlt (by omega)
    rw [e2] at h1 h2
    refine Tot.eq (Tot.cond (by simp; omega) (Tot.chk (by unfold InI64; omega) ?_))
    rw [show (n:Int) - 1=((n - 1:Nat):Int) by omega]
    refine Tot.bindeq (idx_some hp) (Tot.bindeq (a:=false) (Tot.eq (Tot.ncond (by simp; omega) (Tot.chk (by unfold InI64; omega) (Tot.bindeq (idx_some hp) (Tot.ret (decide_eq_false (by omega))))))) (Tot.ret rfl))
 ·unfold shotN47 shotN49
  exact Tot.ncond (by simp) (Tot.out (Tot.ret (decide_eq_true (by omega))))
theorem p_Or (a b:Int):cmp_Or_int [a,b]=some (if a=0 then b else a):=by
 unfold cmp_Or_int cmpN5
 have hi:∀(n:Nat) (x:Int),([a,b]:List Int)[n]?=some x→cmpN2 [a,b] (n:Int)=if (x != 0)=true then some (.inr x) else some (.inl ((n:Int)+1)):=fun n x hx=>by
  have:=(getR hx).1
  simp only [List.length_cons,List.length_nil] at this
  unfold cmpN2
  rw [if_pos (by simp; omega),idx_some hx,Option.bind_some,chk_pos (by unfold InI64; omega)]
  rfl
 have h0:=hi 0 a rfl
 have h1:=hi 1 b rfl
 by_cases ha:a=0
 ·rw [if_neg (by simp [ha])] at h0
  rw [if_pos ha,show (0:Int)=((0:Nat):Int) from rfl,loop_inl h0]
  by_cases hb:b=0
  ·rw [if_neg (by simp [hb])] at h1
   rw [show ((0:Nat):Int)+1=((1:Nat):Int) from rfl,loop_inl h1]
   refine loop_inr ?_
   rw [hb]; rfl
  ·rw [if_pos (by simpa using hb)] at h1
   exact loop_inr h1
 ·rw [if_pos (by simpa using ha)] at h0
  rw [if_neg ha]
  exact loop_inr h0
theorem p_meets (l:List api_Past) (p:api_Past) (hl:l.length≤1000000) (hno:∀q,q∈l→q.Node.Ino=p.Node.Ino→q.Till≤p.From):slicesN17 l p=some false:=by
 refine Tot.eq ?_
 unfold slicesN17 slicesN37 slicesN42
 refine Tot.bind (R:=(·=-1)) (Tot.each0 (l:=l) (fun _=>True) (fun n q hlt hq _=>?_) (fun _=>?_) trivial) fun r hr=>Tot.ret (by rw [hr]; rfl)
 ·have hb:=hno q (List.mem_of_getElem? hq)
  unfold slicesN39 shotN29
  refine Tot.cond (by simpa using hlt) (Tot.bindeq (idx_some hq) (Tot.bindeq (a:=false) ?_ (Tot.ncond (by simp) (Tot.chk (by unfold InI64; omega) (Tot.inl ⟨rfl,trivial⟩)))))
  rw [ba (b:=decide (q.From < p.Till)) (fun _=>rfl),Option.bind_some,ba (b:=decide (p.From < q.Till)) (fun _=>rfl),Option.bind_some,Option.bind_some]
  by_cases e:q.Node.Ino=p.Node.Ino
  ·have:=hb e
   rw [decide_eq_false (show ¬p.From < q.Till by omega),Bool.and_false]
  ·have:(q.Node.Ino == p.Node.Ino)=false:=by simpa using e
   rw [this]; rfl
 ·unfold slicesN39 slicesN41
  exact Tot.ncond (by simp) (Tot.out (Tot.ret rfl))
theorem p_pastsR (h:SI k s) (hk:k≤180) (hj:SJ s):shot_pasts s=some true:=by
 have hps:=h.ps; have hta:=h.ta; have hn:=h.f.n
 refine Tot.eq ?_
 unfold shot_pasts shotN33
 refine Tot.each0 (l:=s.Pasts) (fun _=>True) (fun n p hlt hp _=>?_) (fun _=>?_) trivial
 ·have hpm:=List.mem_of_getElem? hp
  obtain ⟨⟨b1,b2,b3⟩,b4⟩:=h.pt p hpm
  have e2:=(List.getElem?_eq_some_iff.1 hp).2
  have hap:∀(j:Nat) (q:api_Past),j < n→s.Pasts[j]?=some q→(q.Till < p.Till∨q.Till=p.Till∧q.Node.Ino < p.Node.Ino)∧(q.Node.Ino=p.Node.Ino→q.Till≤p.From):=fun j q hjn hq=>by
   obtain ⟨g1,g2⟩:=List.getElem?_eq_some_iff.1 hq
   have:=List.pairwise_iff_getElem.1 hj.ap j n g1 hlt hjn
   rw [e2,g2] at this; exact this
  unfold shotN30
  refine Tot.cond (by simpa using hlt) (Tot.bindeq (idx_some hp) (Tot.bindeq (a:=false) ?_ (Tot.ncond (by simp) (Tot.bindeq (a:=false) ?_ (Tot.ncond (by simp) (Tot.chk ⟨by omega,by omega⟩ ?_))))))
  ·refine Tot.eq (Tot.bindeq (a:=false) (by rw [if_neg (by simp; omega),decide_eq_false (by omega)]) (Tot.bindeq (a:=false) (by rw [if_neg (by simp),decide_eq_false (by omega)]) (Tot.bindeq (a:=false) (Tot.eq (Tot.ncond (by simp) (Tot.bindeq (p_seen _ _ _ (by omega)) (Tot.ret (by rw [b4]; rfl))))) (Tot.ret rfl))))
  ·refine Tot.eq (Tot.bindeq (a:=false) ?_ (Tot.ret rfl))
   by_cases hn0:n=0
   ·subst hn0; rfl
   ·have hq:=List.getElem?_eq_getElem (show n - 1 < s.Pasts.length by omega)
    generalize s.Pasts[n - 1]=q at hq
    have hb:=(hap (n - 1) q (by omega) hq).1
    refine Tot.eq (Tot.cond (by simp; omega) (Tot.chk (by unfold InI64; omega) ?_))
    rw [show (n:Int) - 1=((n - 1:Nat):Int) by omega]
    refine Tot.bindeq (idx_some hq) (Tot.bindeq (t_cmpI _ _) (Tot.chk (by unfold InI64; omega) (Tot.bindeq (idx_some hq) (Tot.bindeq (t_cmpI _ _) (Tot.bindeq (p_Or _ _) (Tot.ret ?_))))))
    refine decide_eq_false ?_
    rcases hb with hb | ⟨hb,hb2⟩
    ·have:=cmpI_lt.2 hb
     rw [if_neg (by omega)]; omega
    ·have:=cmpI_lt.2 hb2
     rw [hb,show cmpI p.Till p.Till=0 by unfold cmpI; simp,if_pos rfl]; omega
  ·rw [Int.toNat_natCast]
   refine Tot.bindeq (p_meets _ _ (by rw [List.length_take]; omega) fun q hq he=>?_) (Tot.ncond (by simp) (Tot.bindeq (p_find h.t.s (by omega) _) (Tot.bindeq (a:=false) ?_ (Tot.ncond (by simp) (Tot.chk (by unfold InI64; omega) (Tot.inl ⟨rfl,trivial⟩))))))
   ·obtain ⟨j,hjq⟩:=memR hq
    rw [List.getElem?_take] at hjq
    split at hjq
    ·next hjn=>exact (hap j q hjn hjq).2 he
    ·cases hjq
   ·refine Tot.eq (Tot.bindeq (a:=false) ?_ (Tot.ret rfl))
    rw [oI_pos]
    cases hf:s.Now.Nodes.findIdx? (fun m=>m.Ino == p.Node.Ino) with
    | none=>rfl
    | some j =>
     obtain ⟨m,hm,-,hme⟩:=find_at hf
     have hlt2:j < s.Since.length:=by rw [h.si]; exact (getR hm).1
     have hq:=List.getElem?_eq_getElem hlt2
     have:=hj.an (m,s.Since[j]) (List.mem_of_getElem? (List.getElem?_zip_eq_some.2 ⟨hm,hq⟩)) p hpm (by simp only [beq_iff_eq] at hme; exact hme.symm)
     refine Tot.eq (Tot.cond rfl ?_)
     show Tot ((idx s.Since (j:Int)).bind _) _
     exact Tot.bindeq (idx_some hq) (Tot.ret (decide_eq_false (by dsimp only at this; omega)))
 ·unfold shotN30 shotN32
  exact Tot.ncond (by simp) (Tot.out (Tot.ret rfl))
theorem p_hads (h:SI k s) (hk:k≤180) (hj:SJ s):shotN11 s 0=some true:=by
 have hta:=h.ta
 refine Tot.eq ?_
 unfold shotN11
 refine Tot.each0 (l:=s.Taken) (fun _=>True) (fun n x hlt hx _=>?_) (fun _=>?_) trivial
 ·obtain ⟨t,h1,h2,⟨r,h3,h4⟩,h5⟩:=p_hadx h hk hj (List.mem_of_getElem? hx)
  unfold shotN8
  refine Tot.cond (by simpa using hlt) (Tot.bindeq (idx_some hx) (Tot.bind h5 fun q hq=>?_))
  have hl:=had_sub h1 hq
  have hrm:=gN_some h3
  have hin:r∈q.1:=(hq.2.1 r).2 ⟨by rw [hrm.2]; exact .refl,by rw [hrm.2]; exact h3⟩
  have hw:q.2=true:=hq.2.2.2 fun j hr=>RT.rch h1 hr (by rw [h3]; rfl)
  refine Tot.bindeq (p_find hq.1 (by omega) _) (Tot.bindeq (a:=false) ?_ (Tot.ncond (by simp) (Tot.chk (by unfold InI64; omega) (Tot.inl ⟨rfl,trivial⟩))))
  rw [hw,oI_neg]
  cases hf:q.1.findIdx? (fun m=>m.Ino == x.Ino) with
  | none =>
   rw [List.findIdx?_eq_none_iff] at hf
   have:=hf r hin; simp [hrm.2] at this
  | some j =>
   obtain ⟨m,hm,-,hme⟩:=find_at hf
   have:m=r:=srt_uniq hq.1 (List.mem_of_getElem? hm) hin (by simp only [beq_iff_eq] at hme; rw [hme,hrm.2])
   subst this
   refine Tot.eq (Tot.bindeq (a:=false) rfl (Tot.bindeq (a:=false) (Tot.eq (Tot.ncond (by simp) ?_)) (Tot.ret rfl)))
   show Tot ((idx q.1 (j:Int)).bind _) _
   exact Tot.bindeq (idx_some hm) (Tot.ret (by rw [h4]; rfl))
 ·unfold shotN8 shotN10
  exact Tot.ncond (by simp) (Tot.out (Tot.ret rfl))
end
end Go.Proofs
