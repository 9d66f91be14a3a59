/- Chains, plain: a world, and what becomes of it. No condition. -/
import Derived.Test.YtaaaipgdnofafaaGreatXChainTellsP26t
namespace Go.Proofs
set_option linter.all false
open Go Go.Cat
set_option linter.all false
def HasS (D:List api_Disk) (s:Int) (v:Int) (x:List UInt8):Prop:=Has (atS D s) v x
structure WOk (c:api_Chain) (D:List api_Disk) (beg ack rd:Int) (k:Nat):Prop where
 id:c.Id=7
 right:RightP c 6
 len:D.length=6
 fine:∀d,d∈D→Fine d
 ver:c.Ver≤(k:Int)+1
 b0:ack≤beg
 b1:rd≤beg
 b2:beg≤k
 b3:0≤beg
 num:∀s x,s∈c.Servers→HasS D s c.Ver x→∃n:Nat,x=bytesN n∧(n:Int)≤beg∧ack≤n∧rd≤n
 mono:∀(i j:Nat) (s t:Int) (n m:Nat),i < j→c.Servers[i]?=some s→c.Servers[j]?=some t→n≤255→m≤255→HasS D s c.Ver (bytesN n)→HasS D t c.Ver (bytesN m)→m≤n
section
variable {c:api_Chain} {D:List api_Disk} {beg ack rd:Int} {k:Nat}
theorem WOk.fit (h:WOk c D beg ack rd k):FitD D 1:=⟨by rw [h.len]; omega,fun d hd=>(h.fine d hd).fit⟩
theorem WOk.isS (h:WOk c D beg ack rd k) {s:Int} (hs:s∈c.Servers):isS D s:=by have:=h.right.1.1 s hs; unfold Go.Proofs.isS; rw [h.len]; exact this
theorem WOk.ch (h:WOk c D beg ack rd k):ChD c D 1:=⟨h.fit,fun s hs=>h.isS hs,by have:=h.right.2.2; omega⟩
theorem WOk.fineS (h:WOk c D beg ack rd k) {s:Int} (hs:Go.Proofs.isS D s):Fine (atS D s):=h.fine _ (at_mem hs)
theorem WOk.ne (h:WOk c D beg ack rd k):c.Servers≠[]:=fun e=>by have:=h.right.2.1.2; rw [e] at this; simp at this
theorem WOk.rightD (h:WOk c D beg ack rd k):RightP c D.length:=by rw [h.len]; exact h.right
theorem WOk.k1 (h:WOk c D beg ack rd k):WOk c D beg ack rd (k+1):={ h with ver:=by have:=h.ver; omega,b2:=by have:=h.b2; omega }
theorem whole_has (h:WOk c D beg ack rd k) {s:Int} (hs:s∈c.Servers):wholeB c D s=true↔(atS D s).Down=false∧∃n:Nat,HasS D s c.Ver (bytesN n)∧dataS c D s=bytesN n∧(n:Int)≤beg∧ack≤n∧rd≤n:=by
 have hf:=h.fineS (h.isS hs)
 unfold wholeB dataS
 rw [h.id]
 constructor
 ·intro hw
  simp only [Bool.and_eq_true,beq_iff_eq] at hw
  obtain ⟨hd,v,x,hh,hg⟩:=get_of hf hw.1
  rw [hg] at hw ⊢
  have hv:v=c.Ver:=hw.2
  subst hv
  obtain ⟨n,rfl,h1,h2,h3⟩:=h.num s x hs hh
  exact ⟨hd,n,hh,rfl,h1,h2,h3⟩
 ·rintro ⟨hd,n,hh,_⟩
  rw [get_has hf hd hh]
  simp [newC]
theorem bytes_inj {n m:Nat} (hn:n≤255) (hm:m≤255) (h:bytesN n=bytesN m):n=m:=by
 have h1:=p_which n hn
 rw [h,p_which m hm] at h1
 have:=Option.some.inj h1; omega
theorem mono_le (h:WOk c D beg ack rd k) {i j:Nat} {s t:Int} {n m:Nat} (hij:i≤j) (hs:c.Servers[i]?=some s) (ht:c.Servers[j]?=some t) (hn:n≤255) (hm:m≤255) (h1:HasS D s c.Ver (bytesN n)) (h2:HasS D t c.Ver (bytesN m)):m≤n:=by
 rcases Nat.lt_or_ge i j with h3 | h3
 ·exact h.mono i j s t n m h3 hs ht hn hm h1 h2
 ·obtain rfl:i=j:=by omega
  rw [hs] at ht; cases ht
  have:=bytes_inj hm hn (has_inj (h.fineS (h.isS (List.mem_of_getElem? hs))) h2 h1).2
  omega
theorem num_of (h:WOk c D beg ack rd k) (hk:k≤100) {s:Int} {n:Nat} (hs:s∈c.Servers) (hn:n≤255) (hx:HasS D s c.Ver (bytesN n)):(n:Int)≤beg∧ack≤n∧rd≤n:=by
 obtain ⟨m,e,h1,h2,h3⟩:=h.num s _ hs hx
 have hb:=h.b2
 have:=bytes_inj hn (by omega) e
 subst this
 exact ⟨h1,h2,h3⟩
theorem nodup_take {l:List Int} (hn:l.Nodup) {i j:Nat} {s:Int} (hs:l[i]?=some s):s∈l.take j↔i < j:=by
 constructor
 ·intro h
  obtain ⟨k,hk,e⟩:=List.mem_iff_getElem.1 h
  rw [List.getElem_take] at e
  have hk':k < l.length:=by rw [List.length_take] at hk; omega
  have hkj:k < j:=by rw [List.length_take] at hk; omega
  obtain ⟨hi,e2⟩:=List.getElem?_eq_some_iff.1 hs
  rcases Nat.lt_trichotomy i k with h1 | h1 | h1
  ·omega
  ·omega
  ·have:=List.pairwise_iff_getElem.1 hn k i hk' hi h1
   rw [e,e2] at this; exact (this rfl).elim
 ·intro h
  have:(l.take j)[i]?=some s:=by rw [List.getElem?_take_of_lt h]; exact hs
  exact List.mem_of_getElem? this
theorem WOk.disks (h:WOk c D beg ack rd k) {D':List api_Disk} (hl:D'.length=6) (hf:∀d,d∈D'→Fine d) (hh:∀s x,s∈c.Servers→HasS D' s c.Ver x→HasS D s c.Ver x):WOk c D' beg ack rd k :=
 { h with len:=hl,fine:=hf,num:=fun s x hs hx=>h.num s x hs (hh s x hs hx),mono:=fun i j s t n m hij hs ht hn hm h1 h2=>h.mono i j s t n m hij hs ht hn hm (hh s _ (List.mem_of_getElem? hs) h1) (hh t _ (List.mem_of_getElem? ht) h2) }
theorem at_set {D:List api_Disk} {s t:Int} {d:api_Disk} (hs:isS D s) (ht:isS D t):atS (D.set s.toNat d) t=if t=s then d else atS D t:=by
 have hl:(D.set s.toNat d).length=D.length:=List.length_set
 have ht':isS (D.set s.toNat d) t:=by unfold isS; rw [hl]; exact ht
 have h1:=at_get ht'
 have h2:=at_get ht
 obtain ⟨a1,a2⟩:=hs; obtain ⟨b1,b2⟩:=ht
 by_cases e:t=s
 ·subst e
  rw [if_pos rfl]
  rw [List.getElem?_set_self (by omega)] at h1
  exact (Option.some.inj h1).symm
 ·rw [if_neg e]
  rw [List.getElem?_set_ne (by omega),h2] at h1
  exact (Option.some.inj h1).symm
theorem WOk.set (h:WOk c D beg ack rd k) {w:Int} (hw:Go.Proofs.isS D w) {d:api_Disk} (hd:Fine d) (hh:∀x,Has d c.Ver x→HasS D w c.Ver x):WOk c (D.set w.toNat d) beg ack rd k:=by
 refine h.disks (by rw [List.length_set]; exact h.len) (fun e he=>?_) (fun s x hs hx=>?_)
 ·rcases List.mem_or_eq_of_mem_set he with he | rfl
  ·exact h.fine e he
  ·exact hd
 ·unfold HasS at hx
  rw [at_set hw (h.isS hs)] at hx
  split at hx
  ·rename_i e; subst e; exact hh x hx
  ·exact hx
theorem fine_layAll {v:Int} {x:List UInt8} (hm:mayP (newC 7 v x)):∀{l:List Int} {D:List api_Disk},(∀s,s∈l→isS D s)→(∀d,d∈D→Fine d)→∀d,d∈layAll (newC 7 v x) D l→Fine d
 | [],_,_,h=>h
 | s::l,D,hs,h=>fine_layAll hm (l:=l) (fun t ht=>isS_lay.2 (hs t (by simp [ht]))) fun d hd=>by
  rcases List.mem_or_eq_of_mem_set hd with hd | rfl
  ·exact h d hd
  ·exact fine_lay (h _ (at_mem (hs s (by simp)))) hm
theorem has_layAll {v:Int} {x:List UInt8} (hm:mayP (newC 7 v x)):∀{l:List Int} {D:List api_Disk},(∀s,s∈l→isS D s)→(∀d,d∈D→Fine d)→∀t,t∈l→(atS D t).Down=false→HasS (layAll (newC 7 v x) D l) t v x
 | [],_,_,_,t,ht,_=>by cases ht
 | s::l,D,hs,hf,t,ht,hd=>by
  have e:layAll (newC 7 v x) D (s::l)=layAll (newC 7 v x) (lay1 D s (newC 7 v x)) l:=rfl
  have hss:=hs s (by simp)
  have htS:=hs t ht
  have hs':∀t,t∈l→isS (lay1 D s (newC 7 v x)) t:=fun t ht=>isS_lay.2 (hs t (by simp [ht]))
  rw [e]
  by_cases hl:t∈l
  ·refine has_layAll hm hs' (fun d hd=>?_) t hl (by rw [lay_DownS hss htS]; exact hd)
   rcases List.mem_or_eq_of_mem_set hd with hd | rfl
   ·exact hf d hd
   ·exact fine_lay (hf _ (at_mem hss)) hm
  ·have:t=s:=by rcases List.mem_cons.1 ht with h | h; exact h; exact (hl h).elim
   subst this
   unfold HasS
   rw [layAll_at hs' (isS_lay.2 htS) hl,at_lay hss hss,if_pos rfl]
   exact (has_lay (hf _ (at_mem hss)) hd hm).2
theorem write_go {D0:List api_Disk} {C:api_Copy} {upto:Int}:∀(l:List Int) (i:Nat) (D:List api_Disk),∃j,j≤l.length∧(writeGo D0 C upto i l D).1=layAll C D (l.take j)∧(∀s,s∈l.take j→(atS D0 s).Down=false)∧((writeGo D0 C upto i l D).2=true→j=l.length)
 | [],i,D=>⟨0,by simp,rfl,fun s h=>by simp at h,fun _=>rfl⟩
 | s::l,i,D=>by
  unfold writeGo
  by_cases e:(decide ((i:Int)≥upto)||(atS D0 s).Down)=true
  ·rw [if_pos e]; exact ⟨0,by simp,rfl,fun s h=>by simp at h,fun h=>by cases h⟩
  ·rw [if_neg e]
   obtain ⟨j,h1,h2,h3,h4⟩:=write_go l (i+1) (lay1 D s C)
   refine ⟨j+1,by simp; omega,h2,fun t ht=>?_,fun h=>by simp; exact h4 h⟩
   rw [List.take_succ_cons] at ht
   rcases List.mem_cons.1 ht with rfl | ht
   ·simp at e; exact e.2
   ·exact h3 t ht
theorem may_w (h:WOk c D beg ack rd k) (x:List UInt8) (hx:x.length≤64):mayP (newC 7 c.Ver x):=newC_may (by omega) (by have:=h.right.2.1.1; omega) hx
theorem w_write (h:WOk c D beg ack rd k) (hk:k≤100) (upto:Int) :
  WOk c (writeC c D (bytesN (beg+1).toNat) upto).1 (beg+1) (if (writeC c D (bytesN (beg+1).toNat) upto).2=true then beg+1 else ack) rd (k+1):=by
 have hb:=h.b3; have hb2:=h.b2; have hb0:=h.b0; have hb1:=h.b1
 have hlen:=bytesN_len (beg+1).toNat
 have hid:=h.id
 have hm:=may_w h (bytesN (beg+1).toNat) (by omega)
 unfold writeC
 rw [if_neg (by omega),hid]
 obtain ⟨j,hj,e1,e2,e3⟩:=write_go (D0:=D) (C:=newC 7 c.Ver (bytesN (beg+1).toNat)) (upto:=upto) c.Servers 0 D
 rw [e1]
 have hS:∀s,s∈c.Servers.take j→isS D s:=fun s hs=>h.isS (List.mem_of_mem_take hs)
 have hin:∀s,s∈c.Servers.take j→HasS (layAll (newC 7 c.Ver (bytesN (beg+1).toNat)) D (c.Servers.take j)) s c.Ver (bytesN (beg+1).toNat):=fun s hs=>has_layAll hm hS h.fine s hs (e2 s hs)
 have hout:∀s,s∈c.Servers→s∉c.Servers.take j→atS (layAll (newC 7 c.Ver (bytesN (beg+1).toNat)) D (c.Servers.take j)) s=atS D s:=fun s hs hn=>layAll_at hS (h.isS hs) hn
 have hfine:=fine_layAll hm hS h.fine
 have hfS:∀s,s∈c.Servers→Fine (atS (layAll (newC 7 c.Ver (bytesN (beg+1).toNat)) D (c.Servers.take j)) s):=fun s hs=>hfine _ (at_mem (layAll_isS.2 (h.isS hs)))
 have hbn:(((beg+1).toNat:Nat):Int)=beg+1:=by omega
 refine { id:=hid,right:=h.right,len:=by rw [layAll_len]; exact h.len,fine:=hfine,ver:=by have:=h.ver; omega,b0:=by split <;> omega,b1:=by omega,b2:=by omega,b3:=by omega,num:=fun s x hs hx=>?_,mono:=fun i j' s t n m hij hs ht hn hmm h1 h2=>?_ }
 ·by_cases hin':s∈c.Servers.take j
  ·have:=(has_inj (hfS s hs) hx (hin s hin')).2
   exact ⟨(beg+1).toNat,this,by omega,by split <;> omega,by omega⟩
  ·have hx':=hx
   unfold HasS at hx'
   rw [hout s hs hin'] at hx'
   obtain ⟨n,hn,h1,h2,h3⟩:=h.num s x hs hx'
   refine ⟨n,hn,by omega,?_,h3⟩
   split
   ·rename_i hw
    have:=e3 hw
    rw [this,List.take_length] at hin'
    exact (hin' hs).elim
   ·exact h2
 ·have hsm:=List.mem_of_getElem? hs
  have htm:=List.mem_of_getElem? ht
  have hnd:=h.right.1.2
  by_cases hi:s∈c.Servers.take j
  ·have e4:=bytes_inj hn (by omega) (has_inj (hfS s hsm) h1 (hin s hi)).2
   by_cases ht':t∈c.Servers.take j
   ·have e5:=bytes_inj hmm (by omega) (has_inj (hfS t htm) h2 (hin t ht')).2
    omega
   ·unfold HasS at h2
    rw [hout t htm ht'] at h2
    have:=(num_of h hk htm hmm h2).1
    omega
  ·have ht':t∉c.Servers.take j:=fun e=>hi ((nodup_take hnd hs).2 (by have:=(nodup_take hnd ht).1 e; omega))
   unfold HasS at h1 h2
   rw [hout s hsm hi] at h1
   rw [hout t htm ht'] at h2
   exact h.mono i j' s t n m hij hs ht hn hmm h1 h2
theorem find_idx2 {l:List Int} {p:Int→Bool} {s:Int} (h:l.find? p=some s):s∈l∧p s=true:=⟨List.mem_of_find?_eq_some h,List.find?_some h⟩
theorem w_cut (h:WOk c D beg ack rd k) (hk:k≤100) (sv:Int):WOk (cutC c D sv).1 (cutC c D sv).2.1 beg ack rd (k+1) ∧
  ((cutC c D sv).2.2=0∨(((cutC c D sv).2.2=1∨(cutC c D sv).2.2=260)∧(cutC c D sv).1=c∧(cutC c D sv).2.1=D))∧(sv∈c.Servers→(cutC c D sv).2.2≠1) ∧
  ((cutC c D sv).2.2=0→∃n:Nat,(n:Int)≤beg∧ack≤n∧rd≤n∧n≤255∧(cutC c D sv).1=⟨c.Id,c.Ver+1,restC c D sv⟩∧(∃s,s∈restC c D sv∧wholeB c D s=true) ∧
   (∀s,s∈restC c D sv→(atS (cutC c D sv).2.1 s).Down=false∧HasS (cutC c D sv).2.1 s (c.Ver+1) (bytesN n))):=by
 have hb:=h.b3; have hb2:=h.b2; have hb0:=h.b0; have hb1:=h.b1
 have hid:=h.id
 have hv:=h.ver
 have hR:=h.right
 unfold cutC
 by_cases h1:sv∉c.Servers
 ·rw [if_pos h1]
  exact ⟨h.k1,.inr ⟨.inl rfl,rfl,rfl⟩,fun e=>(h1 e).elim,fun e=>by cases e⟩
 rw [if_neg h1,if_neg (by omega)]
 cases hf:firstC ⟨c.Id,c.Ver,restC c D sv⟩ D with
 | mk x b =>
 cases b with
 | false =>
  rw [if_pos rfl]
  exact ⟨h.k1,.inr ⟨.inr rfl,rfl,rfl⟩,fun _=>by simp,fun e=>by cases e⟩
 | true =>
  rw [if_neg (by simp)]
  dsimp only
  unfold firstC at hf
  cases hq:(restC c D sv).find? (wholeB c D) with
  | none =>
   have:List.find? (wholeB ⟨c.Id,c.Ver,restC c D sv⟩ D) (restC c D sv)=none:=hq
   rw [this] at hf
   injection hf with _ hf2
   cases hf2
  | some s0 =>
   have:List.find? (wholeB ⟨c.Id,c.Ver,restC c D sv⟩ D) (restC c D sv)=some s0:=hq
   rw [this] at hf
   have hx:dataS c D s0=x:=congrArg Prod.fst hf
   obtain ⟨hs0,hw0⟩:=find_idx2 hq
   have hsub:∀s,s∈restC c D sv→s∈c.Servers:=fun s hs=>(List.mem_filter.1 hs).1
   obtain ⟨hdn0,n,hh0,hd0,g1,g2,g3⟩:=(whole_has h (hsub s0 hs0)).1 hw0
   rw [hx] at hd0
   subst hd0
   have hup:∀s,s∈restC c D sv→(atS D s).Down=false:=fun s hs=>by
    have:=(List.mem_filter.1 hs).2
    unfold goesB at this
    simp at this; exact this.2
   have hS:∀s,s∈restC c D sv→isS D s:=fun s hs=>h.isS (hsub s hs)
   have hlen:=bytesN_len n
   have hm:mayP (newC 7 (c.Ver+1) (bytesN n)):=newC_may (by omega) (by have:=hR.2.1.1; omega) (by omega)
   rw [hid]
   have hfine:=fine_layAll hm hS h.fine
   have hall:∀s,s∈restC c D sv→HasS (layAll (newC 7 (c.Ver+1) (bytesN n)) D (restC c D sv)) s (c.Ver+1) (bytesN n):=fun s hs=>has_layAll hm hS h.fine s hs (hup s hs)
   have hfS:∀s,s∈restC c D sv→Fine (atS (layAll (newC 7 (c.Ver+1) (bytesN n)) D (restC c D sv)) s):=fun s hs=>hfine _ (at_mem (layAll_isS.2 (hS s hs)))
   refine ⟨{ id:=rfl,right:=?_,len:=by rw [layAll_len]; exact h.len,fine:=hfine,ver:=by dsimp only; omega,b0:=hb0,b1:=hb1,b2:=by omega,b3:=hb,num:=fun s x hs hx'=>⟨n,(has_inj (hfS s hs) hx' (hall s hs)).2,g1,g2,g3⟩,mono:=fun i j s t n' m hij hs ht hn' hm' h1 h2=>?_ },.inl rfl,fun _=>by simp,fun _=>⟨n,g1,g2,g3,by omega,rfl,⟨s0,hs0,hw0⟩,fun s hs=>⟨by rw [layAll_down hS (hS s hs)]; exact hup s hs,hall s hs⟩⟩⟩
   ·refine ⟨⟨fun s hs=>hR.1.1 s (hsub s hs),hR.1.2.sublist (List.filter_sublist)⟩,⟨⟨⟨by dsimp only; omega,by have:=hR.2.1.1; dsimp only; omega⟩,by dsimp only; omega⟩,?_⟩,?_⟩
    ·exact List.length_pos_iff.2 fun e=>by rw [show restC c D sv=[] from e] at hs0; cases hs0
    ·exact Nat.le_trans (List.length_filter_le _ _) hR.2.2
   ·have hsm:=List.mem_of_getElem? hs
    have htm:=List.mem_of_getElem? ht
    have a1:=bytes_inj hn' (by omega) (has_inj (hfS s hsm) h1 (hall s hsm)).2
    have a2:=bytes_inj hm' (by omega) (has_inj (hfS t htm) h2 (hall t htm)).2
    omega
end
end Go.Proofs
