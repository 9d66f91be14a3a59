/- Chains, plain: told as the document does; by an elder chain nothing is read. No condition. -/
import Derived.Test.YtaaaipgdnofafaaGreatXChainStaleP26w
namespace Go.Proofs
set_option linter.all false
open Go Go.Cat
set_option linter.all false
section
variable {c:api_Chain} {D:List api_Disk} {beg ack rd:Int} {k:Nat}
theorem intact_sub {s:Int}:s∈intactC c D↔s∈c.Servers∧wholeB c D s=true:=List.mem_filter
end
theorem l_ChainStale (len:UInt8) (l:List law26_Act) (who:UInt8) (h1:ok_u8 len) (h2:okL_c_law26_Act l) (h3:ok_u8 who):law26_ChainStale len l who=some true:=by
 refine Tot.eq ?_
 unfold law26_ChainStale
 refine Tot.bindeq p_head26 (Tot.ite (fun _=>Tot.ret rfl) fun e=>?_)
 have hl:l.length≤50:=by simp at e; omega
 refine Tot.bind (t_Fresh len) fun w hw=>Tot.bind (R:=fun v=>VV v l.length) (t_acts l hl h2.2 hw) fun v hv=>?_
 obtain ⟨v1,v2,v3,D,vb,va,vr⟩:=v
 have h:WOk ⟨v1,v2,v3⟩ D vb va vr l.length:=hv
 have h10:=h.ch.n
 have h0:=h.ne
 dsimp only at h10 h0 ⊢
 have hpos:0 < v3.length:=List.length_pos_iff.2 h0
 refine Tot.bindeq (p_May h _ _ _) (Tot.ncond (by simp) (Tot.chk (by omega) ?_))
 have hm:Int.tmod (who.toNat:Int) (v3.length:Int)=((who.toNat % v3.length:Nat):Int):=by rw [Int.tmod_eq_emod_of_nonneg (by omega)]; omega
 rw [hm]
 have hml:who.toNat % v3.length < v3.length:=Nat.mod_lt _ hpos
 have hx:=List.getElem?_eq_getElem hml
 generalize v3[who.toNat % v3.length]=sv at hx
 have hsv:=List.mem_of_getElem? hx
 have hv0:0≤v2:=by have:=h.right.2.1.1.1.2; dsimp only at this; omega
 refine Tot.bindeq (idx_some hx) (Tot.bindeq (p_CutC h.ch (by omega) hv0 sv) ?_)
 obtain ⟨wc,hc2,hc3,hc4⟩:=w_cut h (by omega) sv
 generalize hcut:cutC ⟨v1,v2,v3⟩ D sv=C at wc hc2 hc3 hc4
 obtain ⟨c',D',e'⟩:=C
 dsimp only at wc hc2 hc3 hc4 ⊢
 have hl6:=wc.len
 refine Tot.ncond (by simp; omega) (Tot.ite (fun e=>?_) fun e=>?_)
 ·have he:e'≠0:=by simpa using e
  rcases hc2 with h' | ⟨h',-,rfl⟩
  ·exact (he h').elim
  have h260:e'=260:=by
   rcases h' with h' | h'
   ·exact (hc3 hsv h').elim
   ·exact h'
  refine Tot.bindeq (r_DisksR h.fit (by omega)) ?_
  subst h260
  exact Tot.bindeq (a:=true) rfl (Tot.ret rfl)
 ·have he:e'=0:=by simpa using e
  obtain ⟨n,-,-,-,-,rfl,⟨s0,hs0,-⟩,hall⟩:=hc4 he
  have hch:ChD ⟨v1,v2,v3⟩ D' 1:=⟨wc.fit,fun s hs=>by have:=h.right.1.1 s hs; unfold isS; rw [hl6]; exact this,h10⟩
  have hid:v1=7:=h.id
  have hget:∀s,s∈restC ⟨v1,v2,v3⟩ D sv→getN (atS D' s) v1=(newC 7 (v2+1) (bytesN n),0):=fun s hs=>by
   rw [hid]
   exact get_has (wc.fineS (wc.isS hs)) (hall s hs).1 (hall s hs).2
  refine Tot.bindeq (p_IntactC hch (by omega)) ?_
  have hrl:(restC ⟨v1,v2,v3⟩ D sv).length≤10:=Nat.le_trans (List.length_filter_le _ _) h10
  have hil:(intactC ⟨v1,v2,v3⟩ D').length≤10:=Nat.le_trans (List.length_filter_le _ _) h10
  unfold law26_ChainStale_L2
  refine Tot.each0 (l:=intactC ⟨v1,v2,v3⟩ D') (fun _=>True) (fun j s hlt hs _=>?_) (fun _=>?_) trivial
  ·unfold law26_ChainStale_B2
   refine Tot.cond (by simp; omega) (Tot.bindeq (idx_some hs) (Tot.bindeq (r_Has _ s (by dsimp only; omega)) (Tot.ncond ?_ (Tot.chk (by unfold InI64; omega) (Tot.inl ⟨rfl,trivial⟩)))))
   intro hin
   have hin:s∈restC ⟨v1,v2,v3⟩ D sv:=by simpa using hin
   have hw:=(intact_sub.1 (List.mem_of_getElem? hs)).2
   unfold wholeB at hw
   dsimp only at hw
   rw [hget s hin] at hw
   have:v2+1=v2:=by simpa [newC] using hw
   omega
  ·unfold law26_ChainStale_B2 law26_ChainStale_J1
   obtain ⟨hl1,hl2⟩:=last_idx h0
   refine Tot.ncond (by simp) (Tot.out (Tot.chk (by unfold InI64; dsimp only; omega) (Tot.bindeq hl1 (Tot.bindeq (r_Has _ _ (by dsimp only; omega)) (Tot.bindeq (p_ReadC hch (by omega) h0) ?_)))))
   refine Tot.bindeq (a:=true) ?_ (Tot.ret rfl)
   by_cases hin:v3.getLastD 0∈restC ⟨v1,v2,v3⟩ D sv
   ·have hread:(readC ⟨v1,v2,v3⟩ D').2=250:=by
     unfold readC
     dsimp only
     rw [hget _ hin]
     have:(newC 7 (v2+1) (bytesN n)).Ver≠v2:=by show v2+1≠v2; omega
     rw [if_neg (by simp),if_pos this]
    rw [hread]
    simp [hin]
   ·dsimp only; rw [decide_eq_false hin]; rfl
end Go.Proofs
