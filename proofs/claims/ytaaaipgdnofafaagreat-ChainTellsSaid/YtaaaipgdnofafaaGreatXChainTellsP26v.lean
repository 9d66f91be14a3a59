/- Chains, plain: what becomes of a world by any act. No condition. -/
import Derived.Test.YtaaaipgdnofafaaGreatXChainTellsP26u
namespace Go.Proofs
set_option linter.all false
open Go Go.Cat
set_option linter.all false
section
variable {c:api_Chain} {D:List api_Disk} {beg ack rd:Int} {k:Nat}
theorem w_read (h:WOk c D beg ack rd k) (hk:k≤100):((readC c D).2≠0∧(readC c D).1=[])∨((readC c D).2=0∧∃n:Nat,n≤255∧(readC c D).1=bytesN n∧(n:Int)≤beg∧ack≤n∧rd≤n∧HasS D (c.Servers.getLastD 0) c.Ver (bytesN n)∧(atS D (c.Servers.getLastD 0)).Down=false):=by
 obtain ⟨_,hl⟩:=last_idx h.ne
 have hw:=whole_has h hl
 have hb2:=h.b2
 unfold readC
 dsimp only
 by_cases h1:(getN (atS D (c.Servers.getLastD 0)) c.Id).2≠0
 ·rw [if_pos h1]; exact .inl ⟨h1,rfl⟩
 ·rw [if_neg h1]
  by_cases h2:(getN (atS D (c.Servers.getLastD 0)) c.Id).1.Ver≠c.Ver
  ·rw [if_pos h2]; exact .inl ⟨by simp,rfl⟩
  ·rw [if_neg h2]
   have h3:wholeB c D (c.Servers.getLastD 0)=true:=by
    unfold wholeB
    simp only [Bool.and_eq_true,beq_iff_eq]
    exact ⟨Classical.not_not.1 h1,Classical.not_not.1 h2⟩
   obtain ⟨hd,n,h4,h5,h6,h7,h8⟩:=hw.1 h3
   exact .inr ⟨rfl,n,by omega,h5,h6,h7,h8,h4,hd⟩
theorem last_at_ {l:List Int} (h:l≠[]):l[l.length - 1]?=some (l.getLastD 0):=by
 have h1:=(last_idx h).1
 have hl:0 < l.length:=List.length_pos_iff.2 h
 rw [show (l.length:Int) - 1=((l.length - 1:Nat):Int) by omega,idx_of_nat] at h1
 exact h1
theorem w_read2 (h:WOk c D beg ack rd k) (hk:k≤100) {n:Nat} (hn:n≤255) (hh:HasS D (c.Servers.getLastD 0) c.Ver (bytesN n)) (hb:(n:Int)≤beg):WOk c D beg ack n k:=by
 have hnum:∀s x,s∈c.Servers→HasS D s c.Ver x→∃m:Nat,x=bytesN m∧(m:Int)≤beg∧ack≤m∧(n:Int)≤m:=by
  intro s x hs hx
  obtain ⟨m,rfl,h1,h2,h3⟩:=h.num s x hs hx
  have hb2:=h.b2
  refine ⟨m,rfl,h1,h2,?_⟩
  obtain ⟨i,hi⟩:=List.mem_iff_getElem?.1 hs
  have hlast:=last_at_ h.ne
  have hil:=(List.getElem?_eq_some_iff.1 hi).1
  have:=mono_le h (show i≤c.Servers.length - 1 by omega) hi hlast (by omega) hn hx hh
  omega
 exact { h with b1:=hb,num:=hnum }
theorem w_mend (h:WOk c D beg ack rd k) (hk:k≤100) (sv:Int):WOk (mendC c D sv).1 (mendC c D sv).2.1 beg ack rd (k+1) ∧
  ((mendC c D sv).2.2=0→(mendC c D sv).1=⟨c.Id,c.Ver,c.Servers++[sv]⟩∧isS D sv∧sv∉c.Servers∧(readC c D).2=0∧(mendC c D sv).2.1=lay1 D sv (newC c.Id c.Ver (readC c D).1)∧(atS D sv).Down=false):=by
 have hid:=h.id
 have hR:=h.right
 unfold mendC
 by_cases h1:sv∈c.Servers∨¬isS D sv
 ·rw [if_pos h1]; exact ⟨h.k1,fun e=>by cases e⟩
 rw [if_neg h1]
 by_cases h2:5≤c.Servers.length
 ·rw [if_pos h2]; exact ⟨h.k1,fun e=>by cases e⟩
 rw [if_neg h2]
 by_cases h3:(atS D sv).Down=true
 ·rw [if_pos h3]; exact ⟨h.k1,fun e=>by cases e⟩
 rw [if_neg h3]
 by_cases h4:(readC c D).2≠0
 ·rw [if_pos h4]; exact ⟨h.k1,fun e=>(h4 e).elim⟩
 rw [if_neg h4]
 have hno:sv∉c.Servers:=fun e=>h1 (.inl e)
 have hsv:isS D sv:=Classical.byContradiction fun e=>h1 (.inr e)
 have hdn:(atS D sv).Down=false:=by simpa using h3
 refine ⟨?_,fun _=>⟨rfl,hsv,hno,Classical.not_not.1 h4,rfl,hdn⟩⟩
 rcases w_read h hk with ⟨e,_⟩ | ⟨_,n,hn,hx,g1,g2,g3,hh,_⟩
 ·exact (h4 e).elim
 have hlen:=bytesN_len n
 have hm:=may_w h (bytesN n) (by omega)
 dsimp only
 rw [hx,hid]
 have hfs:=h.fineS hsv
 obtain ⟨f1,f2⟩:=has_lay hfs hdn hm
 have hin:HasS (lay1 D sv (newC 7 c.Ver (bytesN n))) sv c.Ver (bytesN n):=by unfold HasS; rw [at_lay hsv hsv,if_pos rfl]; exact f2
 have hout:∀s,s∈c.Servers→atS (lay1 D sv (newC 7 c.Ver (bytesN n))) s=atS D s:=fun s hs=>by rw [at_lay hsv (h.isS hs),if_neg (show ¬s=sv from fun e=>hno (e▸hs))]
 have hfine:∀d,d∈lay1 D sv (newC 7 c.Ver (bytesN n))→Fine d:=fun d hd=>by
  rcases List.mem_or_eq_of_mem_set hd with hd | rfl
  ·exact h.fine d hd
  ·exact f1
 have hfi:Fine (atS (lay1 D sv (newC 7 c.Ver (bytesN n))) sv):=by rw [at_lay hsv hsv,if_pos rfl]; exact f1
 have get:∀{i:Nat} {s:Int},(c.Servers++[sv])[i]?=some s→c.Servers[i]?=some s∨(i=c.Servers.length∧s=sv):=fun {i s} hi=>by
  rcases Nat.lt_or_ge i c.Servers.length with hlt | hge
  ·rw [List.getElem?_append_left hlt] at hi; exact .inl hi
  ·rw [List.getElem?_append_right hge] at hi
   have hlt:=(List.getElem?_eq_some_iff.1 hi).1
   simp at hlt
   have:i=c.Servers.length:=by omega
   subst this
   simp at hi
   exact .inr ⟨rfl,hi.symm⟩
 refine { id:=rfl,right:=⟨⟨fun s hs=>?_,?_⟩,⟨⟨⟨by dsimp only; omega,hR.2.1.1.1.2⟩,hR.2.1.1.2⟩,by simp⟩,by simp; omega⟩,len:=by rw [lay1_len]; exact h.len,fine:=hfine,ver:=by have:=h.ver; dsimp only; omega,b0:=h.b0,b1:=h.b1,b2:=by have:=h.b2; omega,b3:=h.b3,num:=fun s x hs hx'=>?_,mono:=fun i j s t n' m hij hs ht hn' hm' a1 a2=>?_ }
 ·rcases List.mem_append.1 hs with hs | hs
  ·exact hR.1.1 s hs
  ·rw [List.mem_singleton.1 hs]; have:=hsv; unfold isS at this; rw [h.len] at this; exact this
 ·rw [List.nodup_append]
  exact ⟨hR.1.2,by simp,fun a ha b hb e=>by rw [List.mem_singleton.1 hb] at e; exact hno (e▸ha)⟩
 ·rcases List.mem_append.1 hs with hs | hs
  ·unfold HasS at hx'
   rw [hout s hs] at hx'
   exact h.num s x hs hx'
  ·rw [List.mem_singleton.1 hs] at hx'
   exact ⟨n,(has_inj hfi hx' hin).2,g1,g2,g3⟩
 ·dsimp only at hs ht a1 a2
  rcases get hs with hs1 | ⟨h5,rfl⟩
  ·have hsm:=List.mem_of_getElem? hs1
   unfold HasS at a1
   rw [hout s hsm] at a1
   rcases get ht with ht1 | ⟨h6,h7⟩
   ·unfold HasS at a2
    rw [hout t (List.mem_of_getElem? ht1)] at a2
    exact h.mono i j s t n' m hij hs1 ht1 hn' hm' a1 a2
   ·rw [h7] at a2
    have e1:=bytes_inj hm' hn (has_inj hfi a2 hin).2
    subst e1
    have hlast:=last_at_ h.ne
    have hil:=(List.getElem?_eq_some_iff.1 hs1).1
    exact mono_le h (show i≤c.Servers.length - 1 by omega) hs1 hlast hn' hn a1 hh
  ·rcases get ht with ht1 | ⟨h6,h7⟩
   ·have:=(List.getElem?_eq_some_iff.1 ht1).1; omega
   ·omega
theorem find_pos {α:Type} {l:List α} {p:α→Bool} {y:α} (h:l.find? p=some y):∃i:Nat,l[i]?=some y∧∀(j:Nat) (z:α),j < i→l[j]?=some z→p z=false:=by
 rw [List.find?_eq_some_iff_getElem] at h
 obtain ⟨_,i,hi,e,hj⟩:=h
 refine ⟨i,by rw [List.getElem?_eq_getElem hi,e],fun j z hji hz=>?_⟩
 obtain ⟨hj2,rfl⟩:=List.getElem?_eq_some_iff.1 hz
 simpa using hj j hji
theorem from_spec {kk:Nat} {y:Int} (h:fromC c D kk=some y):∃i:Nat,c.Servers[i]?=some y∧i≠kk∧wholeB c D y=true ∧
  ((kk < i∧∀(j:Nat) (z:Int),kk < j→j < i→c.Servers[j]?=some z→wholeB c D z=false)∨(i < kk∧(∀(j:Nat) (z:Int),kk < j→c.Servers[j]?=some z→wholeB c D z=false)∧∀(j:Nat) (z:Int),i < j→j < kk→c.Servers[j]?=some z→wholeB c D z=false)):=by
 unfold fromC at h
 rcases Option.or_eq_some_iff.1 h with h | ⟨h0,h⟩
 ·have hp:=List.find?_some h
  obtain ⟨i,hi,hj⟩:=find_pos h
  rw [List.getElem?_drop] at hi
  refine ⟨kk+1+i,hi,by omega,hp,.inl ⟨by omega,fun j z h1 h2 hz=>?_⟩⟩
  exact hj (j - (kk+1)) z (by omega) (by rw [List.getElem?_drop,show kk+1+(j - (kk+1))=j by omega]; exact hz)
 ·have hp:=List.find?_some h
  obtain ⟨i,hi,hj⟩:=find_pos h
  have hil:=(List.getElem?_eq_some_iff.1 hi).1
  rw [List.length_reverse,List.length_take] at hil
  have hlen:(c.Servers.take kk).length=min kk c.Servers.length:=List.length_take
  rw [List.getElem?_reverse (by omega),hlen] at hi
  have hq:∀q,q < kk→(c.Servers.take kk)[q]?=c.Servers[q]?:=fun q hq=>List.getElem?_take_of_lt hq
  have hm:min kk c.Servers.length - 1 - i < kk:=by omega
  rw [hq _ hm] at hi
  refine ⟨_,hi,by omega,hp,.inr ⟨by omega,fun j z h1 hz=>?_,fun j z h1 h2 hz=>?_⟩⟩
  ·rw [List.find?_eq_none] at h0
   have:=h0 z (List.mem_of_getElem? (i:=j - (kk+1)) (by rw [List.getElem?_drop,show kk+1+(j - (kk+1))=j by omega]; exact hz))
   simpa using this
  ·have hjl:=(List.getElem?_eq_some_iff.1 hz).1
   refine hj (min kk c.Servers.length - 1 - j) z (by omega) ?_
   rw [List.getElem?_reverse (by omega),hlen,show min kk c.Servers.length - 1 - (min kk c.Servers.length - 1 - j)=j by omega,hq _ h2]
   exact hz
theorem w_patch (h:WOk c D beg ack rd k) (hk:k≤100) (sv:Int):WOk c (patchC c D sv).1 beg ack rd k:=by
 have hid:=h.id
 have hb2:=h.b2
 unfold patchC
 cases hf:c.Servers.findIdx? (fun y=>sv == y) with
 | none=>exact h
 | some kk =>
  obtain ⟨hkk,hp,-⟩:=List.findIdx?_eq_some_iff_getElem.1 hf
  have hkx:c.Servers[kk]?=some sv:=by rw [List.getElem?_eq_getElem hkk]; congr 1; simpa using (by simpa using hp:sv=c.Servers[kk]).symm
  dsimp only
  by_cases h1:(c.Servers.any fun s=>(atS D s).Down)=true
  ·rw [if_pos h1]; exact h
  rw [if_neg h1]
  by_cases h2:wholeB c D sv=true
  ·rw [if_pos h2]; exact h
  rw [if_neg h2]
  cases hq:fromC c D kk with
  | none=>exact h
  | some y =>
   dsimp only
   have hup:∀s,s∈c.Servers→(atS D s).Down=false:=fun s hs=>by
    have:=List.any_eq_false.1 (by simpa using h1) s hs
    simpa using this
   have hsvm:=List.mem_of_getElem? hkx
   have hsv:=h.isS hsvm
   obtain ⟨i,hi,hne,hw,hpos⟩:=from_spec hq
   have hym:=List.mem_of_getElem? hi
   obtain ⟨_,n,hh,hd,g1,g2,g3⟩:=(whole_has h hym).1 hw
   have hn:n≤255:=by omega
   rw [hd,hid]
   have hlen:=bytesN_len n
   have hm:=may_w h (bytesN n) (by omega)
   obtain ⟨f1,f2⟩:=has_lay (h.fineS hsv) (hup sv hsvm) hm
   have hin:HasS (lay1 D sv (newC 7 c.Ver (bytesN n))) sv c.Ver (bytesN n):=by unfold HasS; rw [at_lay hsv hsv,if_pos rfl]; exact f2
   have hout:∀s,s∈c.Servers→s≠sv→atS (lay1 D sv (newC 7 c.Ver (bytesN n))) s=atS D s:=fun s hs e=>by rw [at_lay hsv (h.isS hs),if_neg e]
   have hfi:Fine (atS (lay1 D sv (newC 7 c.Ver (bytesN n))) sv):=by rw [at_lay hsv hsv,if_pos rfl]; exact f1
   have hwhole:∀{j:Nat} {z:Int} {m:Nat},c.Servers[j]?=some z→m≤255→HasS D z c.Ver (bytesN m)→wholeB c D z=true:=fun {j z m} hz hm' hz'=>by
    have hzm:=List.mem_of_getElem? hz
    obtain ⟨m',e,q1,q2,q3⟩:=h.num z _ hzm hz'
    refine (whole_has h hzm).2 ⟨hup z hzm,m',e▸hz',?_,q1,q2,q3⟩
    unfold dataS
    rw [hid,get_has (h.fineS (h.isS hzm)) (hup z hzm) hz']
    exact e
   have uniq:∀{j:Nat},c.Servers[j]?=some sv→j=kk:=fun {j} hj=>by
    have:=idx_nodup h.right.1.2 hj
    rw [hf] at this; injection this with this; exact this.symm
   refine { h with len:=by rw [lay1_len]; exact h.len,fine:=fun d hd=>?_,num:=fun s x hs hx=>?_,mono:=fun a b s t p q hab hs ht hp' hq' a1 a2=>?_ }
   ·rcases List.mem_or_eq_of_mem_set hd with hd | rfl
    ·exact h.fine d hd
    ·exact f1
   ·by_cases e:s=sv
    ·subst e
     exact ⟨n,(has_inj hfi hx hin).2,g1,g2,g3⟩
    ·unfold HasS at hx
     rw [hout s hs e] at hx
     exact h.num s x hs hx
   ·have hsm:=List.mem_of_getElem? hs
    have htm:=List.mem_of_getElem? ht
    by_cases es:s=sv
    ·subst es
     have ha:=uniq hs
     subst ha
     have e1:=bytes_inj hp' hn (has_inj hfi a1 hin).2
     subst e1
     have et:t≠s:=fun e=>by subst e; have:=uniq ht; omega
     unfold HasS at a2
     rw [hout t htm et] at a2
     have hwt:=hwhole ht hq' a2
     rcases hpos with ⟨b1,b2⟩ | ⟨b1,b2,b3⟩
     ·have:i≤b:=Nat.le_of_not_lt fun hlt=>by have:=b2 b t hab hlt ht; rw [this] at hwt; cases hwt
      exact mono_le h this hi ht hn hq' hh a2
     ·have:=b2 b t hab ht; rw [this] at hwt; cases hwt
    ·unfold HasS at a1
     rw [hout s hsm es] at a1
     by_cases et:t=sv
     ·subst et
      have hb:=uniq ht
      subst hb
      have e1:=bytes_inj hq' hn (has_inj hfi a2 hin).2
      subst e1
      have hws:=hwhole hs hp' a1
      rcases hpos with ⟨b1,b2⟩ | ⟨b1,b2,b3⟩
      ·exact mono_le h (show a≤i by omega) hs hi hp' hn a1 hh
      ·have:a≤i:=Nat.le_of_not_lt fun hlt=>by have:=b3 a s hlt hab hs; rw [this] at hws; cases hws
       exact mono_le h this hs hi hp' hn a1 hh
     ·unfold HasS at a2
      rw [hout t htm et] at a2
      exact h.mono a b s t p q hab hs ht hp' hq' a1 a2
end
end Go.Proofs
