/- Chains, plain: told as the document does; by an elder chain nothing is read. No condition. -/
import Derived.Test.YtaaaipgdnofafaaGreatXChainTellsP26w
namespace Go.Proofs
set_option linter.all false
open Go Go.Cat
set_option linter.all false
section
variable {c:api_Chain} {D:List api_Disk} {beg ack rd:Int} {k:Nat}
theorem write_fitC (h:WOk c D beg ack rd k) (x:List UInt8) (upto:Int):FitD (writeC c D x upto).1 20:=by
 have hl:=h.ch.n
 unfold writeC
 split
 ·exact h.fit.mono (by omega)
 ·obtain ⟨j,hj,e1,-,-⟩:=write_go (D0:=D) (C:=newC c.Id c.Ver x) (upto:=upto) c.Servers 0 D
  rw [e1]
  exact (layAll_fit h.fit (h.ch.take j)).mono (by have:=List.length_take_le' j c.Servers; omega)
theorem intact_le (h:WOk c D beg ack rd k):(intactC c D).length≤10:=Nat.le_trans (List.length_filter_le _ _) h.ch.n
theorem cut_len (h:WOk c D beg ack rd k) (sv:Int):(cutC c D sv).1.Servers.length≤10:=by
 have hl:=h.ch.n
 unfold cutC
 split
 ·exact hl
 ·split
  ·exact hl
  ·split
   ·exact hl
   ·exact Nat.le_trans (List.length_filter_le _ _) hl
theorem mend_len (h:WOk c D beg ack rd k) (sv:Int):(mendC c D sv).1.Servers.length≤11:=by
 have hl:=h.ch.n
 unfold mendC
 split
 ·show c.Servers.length≤11; omega
 ·split
  ·show c.Servers.length≤11; omega
  ·split
   ·show c.Servers.length≤11; omega
   ·split
    ·show c.Servers.length≤11; omega
    ·show (c.Servers++[sv]).length≤11; simp; omega
theorem tells_end (h:WOk c D beg ack rd k) (hk:k≤99) (who:Int) (data:List UInt8) (b a r:Int):(law26_May (⟨c,D,b,a,r⟩:law26_World)).bind (fun x5=>if (!x5) then some false else (chain_Cut c D who).bind fun x6=>(ref26_Cut c D who).bind fun x7=>(chain_Mend c D who).bind fun x8=>(ref26_Mend c D who).bind fun x9=>(chain_Patch c D who).bind fun x10=>(ref26_Patch c D who).bind fun x11=>(chain_Write c D data who).bind fun x12=>(ref26_Write c D data who).bind fun x13=>(chain_Read c D).bind fun x14=>(ref26_Read c D).bind fun x15=>((ref26_Same x6.1 x7.1).bind fun x16=>(if x16 then (ref26_Disks x6.2.1 x7.2.1).bind fun x17=>some x17 else some false).bind fun c2=>some c2).bind fun v3=>((ref26_Same x8.1 x9.1).bind fun x18=>(if x18 then (ref26_Disks x8.2.1 x9.2.1).bind fun x19=>some x19 else some false).bind fun c3=>some c3).bind fun v4=>(ref26_Disks x10.1 x11.1).bind fun x20=>(ref26_Disks x12.1 x13.1).bind fun x21=>(ref04_Bytes x14.1 x15.1).bind fun x22=>(chainN6 c D).bind fun x23=>(ref26N11 c D).bind fun x24=>(ref26_Ints x23 x24).bind fun x25=>((if true then some v3 else some false).bind fun c4=>(if c4 then some v4 else some false).bind fun c5=>(if c5 then some x20 else some false).bind fun c6=>(if c6 then some x21 else some false).bind fun c7=>(if c7 then some x22 else some false).bind fun c8=>(if c8 then some x25 else some false).bind fun c9=>(if c9 then some ((x6.2.2 == x7.2.2)) else some false).bind fun c10=>(if c10 then some ((x8.2.2 == x9.2.2)) else some false).bind fun c11=>(if c11 then some ((x10.2 == x11.2)) else some false).bind fun c12=>(if c12 then some ((x12.2 == x13.2)) else some false).bind fun c13=>(if c13 then some ((x14.2 == x15.2)) else some false).bind fun c14=>(if c14 then (chain_Right c D).bind fun x26=>some x26 else some false).bind fun c15=>(if c15 then (chain_Right x6.1 x6.2.1).bind fun x27=>some x27 else some false).bind fun c16=>(if c16 then (chain_Right x8.1 x8.2.1).bind fun x28=>some x28 else some false).bind fun c17=>some c17).bind fun v5=>some v5)=some true:=by
 refine Tot.eq ?_
 have hv:0≤c.Ver:=by have:=h.right.2.1.1.1.2; omega
 have wc:=(w_cut h (by omega) who).1
 have wm:=(w_mend h (by omega) who).1
 have wp:=w_patch h (by omega) who
 have hnd:=h.right.1.2
 have hr:=read_len h.ch (by omega) h.ne
 have hi:=intact_le h
 refine Tot.bindeq (p_May h _ _ _) (Tot.ncond (by simp) ?_)
 refine Tot.bindeq (p_CutC h.ch (by omega) hv who) (Tot.bindeq (r_CutC h.ch (by omega) hv who) (Tot.bindeq (p_MendC h.ch (by omega) h.ne who) (Tot.bindeq (r_MendC h.ch (by omega) h.ne who) (Tot.bindeq (p_PatchC h.ch (by omega) hnd who) (Tot.bindeq (r_PatchC h.ch (by omega) hnd who) (Tot.bindeq (p_WriteC h.ch (by omega) data who) (Tot.bindeq (r_WriteC h.ch (by omega) data who) (Tot.bindeq (p_ReadC h.ch (by omega) h.ne) (Tot.bindeq (r_ReadC h.ch (by omega) h.ne) ?_)))))))))
 refine Tot.bindeq (a:=true) (by rw [r_SameR _ (by have:=cut_len h who; omega),Option.bind_some,if_pos rfl,r_DisksR wc.fit (by omega)]; rfl) ?_
 refine Tot.bindeq (a:=true) (by rw [r_SameR _ (by have:=mend_len h who; omega),Option.bind_some,if_pos rfl,r_DisksR wm.fit (by omega)]; rfl) ?_
 refine Tot.bindeq (r_DisksR wp.fit (by omega)) (Tot.bindeq (r_DisksR (write_fitC h data who) (by omega)) (Tot.bindeq (b_BytesR _ (by omega)) (Tot.bindeq (p_IntactC h.ch (by omega)) (Tot.bindeq (r_IntactC h.ch (by omega)) (Tot.bindeq (r_IntsR _ (by omega)) ?_)))))
 have e1:=p_RightW h
 have e2:=p_RightW wc
 have e3:=p_RightW wm
 simp only [if_true,Option.bind_some,beq_self_eq_true,e1,e2,e3]
 exact Tot.ret rfl
end
theorem l_ChainTells (len:UInt8) (l:List law26_Act) (who:Int) (data:List UInt8) (h1:ok_u8 len) (h2:okL_c_law26_Act l) (h3:ok_i64 who) (h4:okL_cU8 data):law26N1 len l who data=some true:=by
 refine Tot.eq ?_
 unfold law26N1
 refine Tot.bindeq p_head26 (Tot.bind (R:=Tells (50 < l.length∨300 < data.length)) (Tot.bind (R:=Tells (50 < l.length∨300 < data.length)) (Tot.orI (by simp; omega) fun _=>Tot.dec (by omega)) fun b hb=>Tot.ret hb) fun b hb=>Tot.ite (fun _=>Tot.ret rfl) fun e=>?_)
 have hno:¬(50 < l.length∨300 < data.length):=fun h=>e (hb.2 h)
 refine Tot.bind (t_Fresh len) fun w hw=>Tot.bind (t_acts l (by omega) h2.2 hw) fun v hv=>Tot.of ?_
 exact tells_end hv (by omega) who data _ _ _
end Go.Proofs
