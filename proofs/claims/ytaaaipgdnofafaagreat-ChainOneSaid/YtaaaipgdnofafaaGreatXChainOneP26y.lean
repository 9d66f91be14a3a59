/- Chains, plain: one whole copy is enough. No condition. -/
import Derived.Test.YtaaaipgdnofafaaGreatXChainOneP26w
namespace Go.Proofs
set_option linter.all false
open Go Go.Cat
set_option linter.all false
section
variable {c:api_Chain} {D:List api_Disk} {beg ack rd:Int} {k:Nat}
theorem cut_goes (h:WOk c D beg ack rd k) (hk:k≤100) {sv s:Int} (hsv:sv∈c.Servers) (hs:s∈c.Servers) (hne:s≠sv) (hw:wholeB c D s=true):(cutC c D sv).2.2=0∧s∈restC c D sv:=by
 have hd:=((whole_has h hs).1 hw).1
 have hr:s∈restC c D sv:=by
  unfold restC
  refine List.mem_filter.2 ⟨hs,?_⟩
  unfold goesB; simp [hne,hd]
 refine ⟨?_,hr⟩
 have hv:=h.ver
 unfold cutC
 rw [if_neg (fun e=>e hsv),if_neg (by omega)]
 have hf:(firstC ⟨c.Id,c.Ver,restC c D sv⟩ D).2=true:=by
  unfold firstC
  cases hq:List.find? (wholeB ⟨c.Id,c.Ver,restC c D sv⟩ D) (restC c D sv) with
  | none=>rw [List.find?_eq_none] at hq; exact (hq s hr hw).elim
  | some y=>rfl
 rw [hf,if_neg (by simp)]
theorem rest_len (h:WOk c D beg ack rd k) {sv:Int} (hsv:sv∈c.Servers):(restC c D sv).length < c.Servers.length:=by
 unfold restC
 refine Nat.lt_of_le_of_ne (List.length_filter_le _ _) fun e=>?_
 have:=(List.length_filter_eq_length_iff.1 e) sv hsv
 unfold goesB at this
 simp at this
end
theorem l_ChainOne (len:UInt8) (l:List law26_Act) (wh:UInt8) (h1:ok_u8 len) (h2:okL_c_law26_Act l) (h3:ok_u8 wh):law26_ChainOne len l wh=some true:=by
 refine Tot.eq ?_
 unfold law26_ChainOne
 refine Tot.bindeq p_head26 (Tot.ite (fun _=>Tot.ret rfl) fun e=>?_)
 have hl:l.length≤50:=by simp at e; omega
 refine Tot.bind (t_Fresh len) fun w hw=>Tot.bind (R:=fun v=>VV v l.length) (t_acts l hl h2.2 hw) fun v hv=>?_
 obtain ⟨v1,v2,v3,D,vb,va,vr⟩:=v
 have h:WOk ⟨v1,v2,v3⟩ D vb va vr l.length:=hv
 have h10:=h.ch.n
 have h5:=h.right.2.2
 have h0:=h.ne
 dsimp only at h10 h5 h0 ⊢
 refine Tot.bindeq (p_May h _ _ _) (Tot.ncond (by simp) (Tot.bindeq (p_IntactC h.ch (by omega)) (Tot.ite (fun _=>Tot.ret rfl) fun e=>?_)))
 have hil:(intactC ⟨v1,v2,v3⟩ D).length≤10:=Nat.le_trans (List.length_filter_le _ _) h10
 have hpos:0 < (intactC ⟨v1,v2,v3⟩ D).length:=by simp at e; exact List.length_pos_iff.2 e
 refine Tot.chk (by omega) ?_
 have hm:Int.tmod (wh.toNat:Int) ((intactC ⟨v1,v2,v3⟩ D).length:Int)=((wh.toNat % (intactC ⟨v1,v2,v3⟩ D).length:Nat):Int):=by rw [Int.tmod_eq_emod_of_nonneg (by omega)]; omega
 rw [hm]
 have hml:wh.toNat % (intactC ⟨v1,v2,v3⟩ D).length < (intactC ⟨v1,v2,v3⟩ D).length:=Nat.mod_lt _ hpos
 have hx:=List.getElem?_eq_getElem hml
 generalize (intactC ⟨v1,v2,v3⟩ D)[wh.toNat % (intactC ⟨v1,v2,v3⟩ D).length]=keep at hx
 have hkeep:=List.mem_filter.1 (List.mem_of_getElem? hx)
 refine Tot.bindeq (idx_some hx) ?_
 unfold law26_ChainOne_L2
 refine Tot.loop (fun s:Int×Int×Int×List Int×List api_Disk=>∃n:Nat,s.1=n∧s.2.2.2.1.length+n≤5∧WOk ⟨s.2.1,s.2.2.1,s.2.2.2.1⟩ s.2.2.2.2 vb va vr (l.length+n)∧keep∈s.2.2.2.1∧wholeB ⟨s.2.1,s.2.2.1,s.2.2.2.1⟩ s.2.2.2.2 keep=true) (fun s=>7 - s.1.toNat) ?_ _ ⟨0,rfl,h5,h,hkeep.1,hkeep.2⟩
 rintro ⟨i,a1,a2,a3,a4⟩ ⟨n,rfl,hn,ha,hk1,hk2⟩
 dsimp only at hn ha hk1 hk2
 have hlp:0 < a3.length:=List.length_pos_iff.2 ha.ne
 have hnd:a3.Nodup:=ha.right.1.2
 have hver:0≤a2:=by have:=ha.right.2.1.1.1.2; dsimp only at this; omega
 unfold law26_ChainOne_B2
 refine Tot.bindeq (a:=decide (1 < a3.length)) ?_ ?_
 ·rw [if_pos (by simp; omega)]
  show some (decide ((a3.length:Int) > 1))=_
  congr 1
  rw [decide_eq_decide]; omega
 refine Tot.ite (fun e=>?_) fun e=>?_
 ·have hgt:1 < a3.length:=by simpa using e
  have hx0:=List.getElem?_eq_getElem (show 0 < a3.length by omega)
  have hx1:=List.getElem?_eq_getElem hgt
  have hne:a3[0]≠a3[1]:=List.pairwise_iff_getElem.1 hnd 0 1 (by omega) hgt (by omega)
  generalize a3[0]=y0 at hx0 hne
  generalize a3[1]=y1 at hx1 hne
  refine Tot.bindeq (idx_some (n:=0) hx0) (Tot.bind (R:=fun o=>o∈a3∧keep≠o) (Tot.ite (fun e=>?_) fun e=>?_) fun o ho=>?_)
  ·have:y0=keep:=by simpa using e
   exact Tot.bindeq (idx_some (n:=1) hx1) (Tot.ret ⟨List.mem_of_getElem? hx1,fun e=>hne (this.trans e)⟩)
  ·exact Tot.ret ⟨List.mem_of_getElem? hx0,fun e2=>e (by simp [e2])⟩
  ·obtain ⟨ho1,ho2⟩:=ho
   obtain ⟨hz,hkr⟩:=cut_goes ha (by omega) (sv:=o) ho1 hk1 ho2 hk2
   have hrl:=rest_len ha (sv:=o) ho1
   obtain ⟨wc,-,-,hc4⟩:=w_cut ha (by omega) o
   refine Tot.bindeq (p_CutC ha.ch (by omega) hver o) ?_
   generalize hcut:cutC ⟨a1,a2,a3⟩ a4 o=C at hz wc hc4
   obtain ⟨c',D',e'⟩:=C
   dsimp only at hz wc hc4 ⊢
   obtain ⟨m,g1,g2,g3,-,rfl,-,hall⟩:=hc4 hz
   refine Tot.bindeq (p_May wc _ _ _) (Tot.bindeq (a:=false) (by rw [hz]; rfl) (Tot.ncond (by simp) (Tot.chk (by unfold InI64; omega) (Tot.inl ⟨⟨n+1,rfl,?_,wc,hkr,?_⟩,?_⟩))))
   ·dsimp only at hrl ⊢; omega
   ·have hh:=hall keep hkr
    refine (whole_has wc hkr).2 ⟨hh.1,m,hh.2,?_,g1,g2,g3⟩
    unfold dataS
    have hid:a1=7:=wc.id
    show (getN (atS D' keep) a1).1.Data=_
    rw [hid,get_has (wc.fineS (wc.isS hkr)) hh.1 hh.2]; rfl
   ·show 7 - ((n:Int)+1).toNat < 7 - (n:Int).toNat
    omega
 ·have h1:a3.length=1:=by simp at e; omega
  have hone:a3=[keep]:=by
   obtain ⟨y,rfl⟩:=List.length_eq_one_iff.1 h1
   rw [List.mem_singleton.1 hk1]
  subst hone
  refine Tot.out ?_
  unfold law26_ChainOne_J1
  dsimp only
  refine Tot.bindeq (p_ReadC ha.ch (by omega) ha.ne) ?_
  rcases w_read ha (by omega) with ⟨g,_⟩ | ⟨g0,m,hm,hx,g1,g2,g3,-,-⟩
  ·exfalso
   unfold wholeB at hk2
   simp only [Bool.and_eq_true,beq_iff_eq] at hk2
   unfold readC at g
   apply g
   dsimp only
   show (if (getN (atS a4 keep) a1).2≠0 then _ else _:List UInt8×Int).2=0
   rw [if_neg (fun e=>e hk2.1)]
   show (if (getN (atS a4 keep) a1).1.Ver≠a2 then _ else _:List UInt8×Int).2=0
   rw [if_neg (fun e=>e hk2.2)]
  ·rw [hx]
   refine Tot.bindeq (p_which m hm) (Tot.bindeq (p_CutC ha.ch (by omega) hver keep) (Tot.bindeq (r_IntsR _ (by simp)) (Tot.bindeq (a:=true) ?_ (Tot.ret rfl))))
   have hc:(cutC ⟨a1,a2,[keep]⟩ a4 keep).2.2=260:=by
    have hv:=ha.ver
    dsimp only at hv
    unfold cutC
    rw [if_neg (by simp),if_neg (by dsimp only; omega)]
    have:restC ⟨a1,a2,[keep]⟩ a4 keep=[]:=by unfold restC goesB; simp
    rw [this]
    rfl
   have b1:decide ((m:Int)≥va)=true:=by simp; exact g2
   have b2:decide ((m:Int)≥vr)=true:=by simp; exact g3
   have b3:decide ((m:Int)≤vb)=true:=by simp; exact g1
   rw [hc,g0,b1,b2,b3]
   rfl
end Go.Proofs
