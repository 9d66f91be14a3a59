/- Chains, plain: behind a write, a cut, and a mend all copies are whole. No condition. -/
import Derived.Test.YtaaaipgdnofafaaGreatXChainAllP26w
namespace Go.Proofs
set_option linter.all false
open Go Go.Cat
set_option linter.all false
structure BOk (c:api_Chain) (D:List api_Disk):Prop where
 id:c.Id=7
 right:RightP c 6
 len:D.length=6
 fine:∀d,d∈D→Fine d
section
variable {c:api_Chain} {D:List api_Disk}
theorem WOk.b {beg ack rd:Int} {k:Nat} (h:WOk c D beg ack rd k):BOk c D:=⟨h.id,h.right,h.len,h.fine⟩
theorem BOk.fit (h:BOk c D):FitD D 1:=⟨by rw [h.len]; omega,fun d hd=>(h.fine d hd).fit⟩
theorem BOk.isS (h:BOk c D) {s:Int} (hs:s∈c.Servers):isS D s:=by have:=h.right.1.1 s hs; unfold Go.Proofs.isS; rw [h.len]; exact this
theorem BOk.ch (h:BOk c D):ChD c D 1:=⟨h.fit,fun s hs=>h.isS hs,by have:=h.right.2.2; omega⟩
theorem BOk.ne (h:BOk c D):c.Servers≠[]:=fun e=>by have:=h.right.2.1.2; rw [e] at this; simp at this
theorem BOk.fineS (h:BOk c D) {s:Int} (hs:Go.Proofs.isS D s):Fine (atS D s):=h.fine _ (at_mem hs)
def AllHas (c:api_Chain) (D:List api_Disk) (x:List UInt8):Prop:=∀s,s∈c.Servers→(atS D s).Down=false∧HasS D s c.Ver x
theorem AllHas.get (h:BOk c D) {x:List UInt8} (ha:AllHas c D x):∀s,s∈c.Servers→getN (atS D s) c.Id=(newC c.Id c.Ver x,0):=fun s hs=>by
 rw [h.id]; exact get_has (h.fineS (h.isS hs)) (ha s hs).1 (ha s hs).2
theorem cut_any (h:BOk c D) (hv:c.Ver < 1099511627776) (sv:Int) (hz:(cutC c D sv).2.2=0):∃x,x.length≤64∧(cutC c D sv).1=⟨c.Id,c.Ver+1,restC c D sv⟩∧BOk (cutC c D sv).1 (cutC c D sv).2.1∧AllHas (cutC c D sv).1 (cutC c D sv).2.1 x:=by
 have hid:=h.id
 have hR:=h.right
 unfold cutC at hz ⊢
 by_cases h1:sv∉c.Servers
 ·rw [if_pos h1] at hz; cases hz
 rw [if_neg h1,if_neg (by omega)] at hz ⊢
 cases hf:firstC ⟨c.Id,c.Ver,restC c D sv⟩ D with
 | mk x b =>
 rw [hf] at hz
 cases b with
 | false=>rw [if_pos rfl] at hz; cases hz
 | true =>
  rw [if_neg (by simp)]
  dsimp only
  unfold firstC at hf
  cases hq:(restC c D sv).find? (wholeB c D) with
  | none =>
   have:List.find? (wholeB ⟨c.Id,c.Ver,restC c D sv⟩ D) (restC c D sv)=none:=hq
   rw [this] at hf
   injection hf with _ hf2
   cases hf2
  | some s0 =>
   have:List.find? (wholeB ⟨c.Id,c.Ver,restC c D sv⟩ D) (restC c D sv)=some s0:=hq
   rw [this] at hf
   have hx:dataS c D s0=x:=congrArg Prod.fst hf
   have hs0:=List.mem_of_find?_eq_some hq
   have hw0:=List.find?_some hq
   have hsub:∀s,s∈restC c D sv→s∈c.Servers:=fun s hs=>(List.mem_filter.1 hs).1
   have hup:∀s,s∈restC c D sv→(atS D s).Down=false:=fun s hs=>by
    have:=(List.mem_filter.1 hs).2
    unfold goesB at this
    simp at this; exact this.2
   have hS:∀s,s∈restC c D sv→isS D s:=fun s hs=>h.isS (hsub s hs)
   have hlx:x.length≤64:=by
    have:=(whole_may h.ch (by omega) (hS s0 hs0) hw0).1.2.2.1
    rw [←hx]; exact this
   have hm:mayP (newC 7 (c.Ver+1) x):=newC_may (by omega) (by have:=hR.2.1.1; omega) hlx
   rw [hid]
   have hfine:=fine_layAll hm hS h.fine
   refine ⟨x,hlx,rfl,⟨rfl,?_,by rw [layAll_len]; exact h.len,hfine⟩,fun s hs=>⟨by rw [layAll_down hS (hS s hs)]; exact hup s hs,has_layAll hm hS h.fine s hs (hup s hs)⟩⟩
   refine ⟨⟨fun s hs=>hR.1.1 s (hsub s hs),hR.1.2.sublist (List.filter_sublist)⟩,⟨⟨⟨by dsimp only; omega,by have:=hR.2.1.1; dsimp only; omega⟩,by dsimp only; omega⟩,?_⟩,?_⟩
   ·exact List.length_pos_iff.2 fun e=>by rw [show restC c D sv=[] from e] at hs0; cases hs0
   ·exact Nat.le_trans (List.length_filter_le _ _) hR.2.2
theorem mend_any (h:BOk c D) {x:List UInt8} (hx:x.length≤64) (ha:AllHas c D x) (sv:Int) (hz:(mendC c D sv).2.2=0):(mendC c D sv).1=⟨c.Id,c.Ver,c.Servers++[sv]⟩∧BOk (mendC c D sv).1 (mendC c D sv).2.1∧AllHas (mendC c D sv).1 (mendC c D sv).2.1 x:=by
 have hid:=h.id
 have hR:=h.right
 have hread:=(all_whole (AllHas.get h ha) h.ne).2
 unfold mendC at hz ⊢
 by_cases h1:sv∈c.Servers∨¬isS D sv
 ·rw [if_pos h1] at hz; cases hz
 rw [if_neg h1] at hz ⊢
 by_cases h2:5≤c.Servers.length
 ·rw [if_pos h2] at hz; cases hz
 rw [if_neg h2] at hz ⊢
 by_cases h3:(atS D sv).Down=true
 ·rw [if_pos h3] at hz; cases hz
 rw [if_neg h3,hread,if_neg (by simp)]
 have hno:sv∉c.Servers:=fun e=>h1 (.inl e)
 have hsv:isS D sv:=Classical.byContradiction fun e=>h1 (.inr e)
 have hdn:(atS D sv).Down=false:=by simpa using h3
 have hm:mayP (newC 7 c.Ver x):=newC_may (by omega) (by have:=hR.2.1.1; omega) hx
 dsimp only
 rw [hid]
 obtain ⟨f1,f2⟩:=has_lay (h.fineS hsv) hdn hm
 refine ⟨rfl,⟨rfl,⟨⟨fun s hs=>?_,?_⟩,⟨⟨⟨by dsimp only; omega,hR.2.1.1.1.2⟩,hR.2.1.1.2⟩,by simp⟩,by simp; omega⟩,by rw [lay1_len]; exact h.len,fun d hd=>?_⟩,fun s hs=>?_⟩
 ·rcases List.mem_append.1 hs with hs | hs
  ·exact hR.1.1 s hs
  ·rw [List.mem_singleton.1 hs]; have:=hsv; unfold isS at this; rw [h.len] at this; exact this
 ·rw [List.nodup_append]
  exact ⟨hR.1.2,by simp,fun a ha b hb e=>by rw [List.mem_singleton.1 hb] at e; exact hno (e▸ha)⟩
 ·rcases List.mem_or_eq_of_mem_set hd with hd | rfl
  ·exact h.fine d hd
  ·exact f1
 ·unfold HasS
  rcases List.mem_append.1 hs with hs | hs
  ·have hne:¬s=sv:=fun e=>hno (e▸hs)
   rw [at_lay hsv (h.isS hs),if_neg hne]
   exact ha s hs
  ·rw [List.mem_singleton.1 hs,at_lay hsv hsv,if_pos rfl]
   exact ⟨lay_up hdn,f2⟩
theorem t_all (h:BOk c D) (hv:c.Ver≤1000) (who:UInt8) (b a r:Int) (D0:List api_Disk):law26_ChainAll_J1 (c.Id,c.Ver,c.Servers,D0,b,a,r) who true D=some true:=by
 refine Tot.eq ?_
 have h10:=h.ch.n
 have h0:=h.ne
 have hpos:0 < c.Servers.length:=List.length_pos_iff.2 h0
 have hv0:0≤c.Ver:=by have:=h.right.2.1.1.1.2; omega
 unfold law26_ChainAll_J1
 dsimp only
 refine Tot.chk (by omega) ?_
 have hm:Int.tmod (who.toNat:Int) (c.Servers.length:Int)=((who.toNat % c.Servers.length:Nat):Int):=by rw [Int.tmod_eq_emod_of_nonneg (by omega)]; omega
 rw [hm]
 have hml:who.toNat % c.Servers.length < c.Servers.length:=Nat.mod_lt _ hpos
 have hx:=List.getElem?_eq_getElem hml
 generalize c.Servers[who.toNat % c.Servers.length]=sv at hx
 refine Tot.bindeq (idx_some hx) (Tot.bindeq (p_CutC h.ch (by omega) hv0 sv) (Tot.ite (fun _=>Tot.ret rfl) fun e=>?_))
 have hz:(cutC c D sv).2.2=0:=by simpa using e
 obtain ⟨x,hxl,hc1,hb',ha'⟩:=cut_any h (by omega) sv hz
 generalize cutC c D sv=C at hz hc1 hb' ha'
 obtain ⟨c',D',e'⟩:=C
 dsimp only at hz hc1 hb' ha' ⊢
 have hver:c'.Ver=c.Ver+1:=by rw [hc1]
 obtain ⟨hi,hr⟩:=all_whole (AllHas.get hb' ha') hb'.ne
 have hc10:=hb'.ch.n
 obtain ⟨br,er,hbr⟩:=r_Right c' D' (by omega)
 have:br=true:=hbr.2 (by rw [hb'.len]; exact hb'.right)
 subst this
 refine Tot.bindeq er (Tot.ncond (by simp) (Tot.bindeq (p_IntactC hb'.ch (by omega)) ?_))
 rw [hi]
 refine Tot.bindeq (r_IntsR _ (by omega)) (Tot.bindeq (p_ReadC hb'.ch (by omega) hb'.ne) ?_)
 rw [hr]
 refine Tot.bindeq (a:=false) ?_ (Tot.ncond (by simp) ?_)
 ·rw [chk_pos (by unfold InI64; omega),hver]
  simp
 unfold law26_ChainAll_L2
 refine Tot.each0 (l:=c'.Servers) (fun _=>True) (fun j s hlt hs _=>?_) (fun _=>?_) trivial
 ·unfold law26_ChainAll_B2
  have hsm:=List.mem_of_getElem? hs
  have hch1:ChD ⟨c'.Id,c'.Ver,[s]⟩ D' 1:=⟨hb'.fit,fun t ht=>by rw [List.mem_singleton.1 ht]; exact hb'.isS hsm,by simp⟩
  have hr1:=(all_whole (c:=⟨c'.Id,c'.Ver,[s]⟩) (D:=D') (x:=x) (fun t ht=>by rw [List.mem_singleton.1 ht]; exact AllHas.get hb' ha' s hsm) (by simp)).2
  refine Tot.cond (by simp; omega) (Tot.bindeq (idx_some hs) (Tot.bindeq (p_ReadC hch1 (by omega) (by simp)) ?_))
  rw [hr1]
  exact Tot.bindeq (b_BytesR _ (by show x.length≤1000000; omega)) (Tot.bindeq (a:=false) rfl (Tot.ncond (by simp) (Tot.chk (by unfold InI64; omega) (Tot.inl ⟨rfl,trivial⟩))))
 ·unfold law26_ChainAll_B2 law26_ChainAll_J2
  refine Tot.ncond (by simp) (Tot.out (Tot.bindeq (p_MendC hb'.ch (by omega) hb'.ne _) (Tot.ite (fun _=>Tot.ret rfl) fun e=>?_)))
  have hz2:(mendC c' D' (Int.tmod (who.toNat:Int) 6)).2.2=0:=by simpa using e
  obtain ⟨hk1,hb2,ha2⟩:=mend_any hb' hxl ha' _ hz2
  generalize mendC c' D' (Int.tmod (who.toNat:Int) 6)=K at hz2 hk1 hb2 ha2
  obtain ⟨c2,D2,e2⟩:=K
  dsimp only at hz2 hk1 hb2 ha2 ⊢
  obtain ⟨hi2,hr2⟩:=all_whole (AllHas.get hb2 ha2) hb2.ne
  have hl2:c2.Servers.length=c'.Servers.length+1:=by rw [hk1]; simp
  refine Tot.bindeq (p_ReadC hb2.ch (by omega) hb2.ne) ?_
  rw [hr2]
  refine Tot.bindeq (b_BytesR _ (by show x.length≤1000000; omega)) (Tot.bindeq (p_IntactC hb2.ch (by omega)) ?_)
  rw [hi2]
  refine Tot.bindeq (r_IntsR _ (by omega)) (Tot.bindeq (a:=true) ?_ (Tot.ret rfl))
  rw [chk_pos (by unfold InI64; omega),hl2]
  simp
end
theorem l_ChainAll (len:UInt8) (l:List law26_Act) (who:UInt8) (data:List UInt8) (h1:ok_u8 len) (h2:okL_c_law26_Act l) (h3:ok_u8 who) (h4:okL_cU8 data):law26_ChainAll len l who data=some true:=by
 refine Tot.eq ?_
 unfold law26_ChainAll
 refine Tot.bindeq p_head26 (Tot.bind (R:=Tells (50 < l.length∨64 < data.length)) (Tot.bind (R:=Tells (50 < l.length∨64 < data.length)) (Tot.orI (by simp; omega) fun _=>Tot.dec (by omega)) fun b hb=>Tot.ret hb) fun b hb=>Tot.ite (fun _=>Tot.ret rfl) fun e=>?_)
 have hno:¬(50 < l.length∨64 < data.length):=fun h=>e (hb.2 h)
 refine Tot.bind (t_Fresh len) fun w hw=>Tot.bind (R:=fun v=>VV v l.length) (t_acts l (by omega) h2.2 hw) fun v hv=>?_
 obtain ⟨v1,v2,v3,D,vb,va,vr⟩:=v
 have h:WOk ⟨v1,v2,v3⟩ D vb va vr l.length:=hv
 have hver:=h.ver
 have h10:=h.ch.n
 have h0:=h.ne
 have hid:v1=7:=h.id
 dsimp only at hver h10 h0 ⊢
 refine Tot.bindeq (p_May h _ _ _) (Tot.ncond (by simp) (Tot.bindeq (p_WriteC h.ch (by omega) data 9) ?_))
 have hw2:writeC ⟨v1,v2,v3⟩ D data 9=writeGo D (newC v1 v2 data) 9 0 v3 D:=by unfold writeC; rw [if_neg (by omega)]
 rw [hw2]
 obtain ⟨j,hj,e1,e2,e3⟩:=write_go (D0:=D) (C:=newC v1 v2 data) (upto:=9) v3 0 D
 have hS:∀s,s∈v3.take j→isS D s:=fun s hs=>h.isS (List.mem_of_mem_take hs)
 have hm:mayP (newC 7 v2 data):=newC_may (by omega) (by have:=h.right.2.1.1; dsimp only at this; omega) (by omega)
 have hl6:(writeGo D (newC v1 v2 data) 9 0 v3 D).1.length=6:=by rw [e1,layAll_len]; exact h.len
 refine Tot.ncond (by simp [hl6]) (Tot.ite (fun e=>?_) fun e=>?_)
 ·have hjl:=e3 e
  subst hjl
  rw [List.take_length] at e1 e2 hS
  rw [hid] at e1
  have hb:BOk ⟨v1,v2,v3⟩ (writeGo D (newC v1 v2 data) 9 0 v3 D).1:=⟨hid,h.right,hl6,by rw [hid,e1]; exact fine_layAll hm hS h.fine⟩
  have ha:AllHas ⟨v1,v2,v3⟩ (writeGo D (newC v1 v2 data) 9 0 v3 D).1 data:=fun s hs=>by
   rw [hid,e1]
   exact ⟨by rw [layAll_down hS (hS s hs)]; exact e2 s hs,has_layAll hm hS h.fine s hs (e2 s hs)⟩
  obtain ⟨hi,hr⟩:=all_whole (AllHas.get hb ha) hb.ne
  refine Tot.bindeq (p_ReadC hb.ch (by omega) hb.ne) ?_
  rw [hr]
  refine Tot.bindeq (b_BytesR _ (by show data.length≤1000000; omega)) (Tot.bindeq (p_IntactC hb.ch (by omega)) ?_)
  rw [hi]
  refine Tot.bindeq (r_IntsR _ (by dsimp only; omega)) (Tot.bindeq (a:=false) rfl (Tot.ncond (by simp) (Tot.of ?_)))
  exact t_all hb (by dsimp only; omega) who _ _ _ _
 ·exact Tot.of (t_all h.b (by dsimp only; omega) who _ _ _ _)
end Go.Proofs
