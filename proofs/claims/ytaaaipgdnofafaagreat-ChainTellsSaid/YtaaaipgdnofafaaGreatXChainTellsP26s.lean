/- Chains, plain: what is the same; what is made of any chunk. No condition. -/
import Derived.Test.YtaaaipgdnofafaaGreatXChainTellsP26r
namespace Go.Proofs
set_option linter.all false
open Go Go.Cat
set_option linter.all false
theorem p_head26:law26_head=some true:=le_law26N1 300 _ (by kernel_rfl)
theorem b_BytesR (a:List UInt8) (h:a.length≤1000000):ref04_Bytes a a=some true:=by
 refine Tot.eq ?_
 unfold ref04_Bytes
 refine Tot.ncond (by simp) ?_
 unfold ref04N5
 refine Tot.each0 (l:=a) (fun _=>True) (fun n x hlt hx _=>?_) (fun _=>?_) trivial
 ·unfold ref04N2
  exact Tot.cond (by simp; omega) (Tot.bindeq (idx_some hx) (Tot.bindeq (idx_some hx) (Tot.ncond (by simp) (Tot.chk (by unfold InI64; omega) (Tot.inl ⟨rfl,trivial⟩)))))
 ·unfold ref04N2 ref04N4
  exact Tot.ncond (by simp) (Tot.out (Tot.ret rfl))
theorem b_PagesR (a:List api_Page) (h:a.length≤1000000) (hx:∀p,p∈a→p.Data.length≤1000000):ref04_Pages a a=some true:=by
 refine Tot.eq ?_
 unfold ref04_Pages
 refine Tot.ncond (by simp) ?_
 unfold ref04N9
 refine Tot.each0 (l:=a) (fun _=>True) (fun n x hlt hx' _=>?_) (fun _=>?_) trivial
 ·unfold ref04N7
  refine Tot.cond (by simp; omega) ?_
  simp only [idx_some hx',Option.bind_some,b_BytesR _ (hx x (List.mem_of_getElem? hx'))]
  simp only [Bool.not_true,Bool.false_eq_true,if_false,Option.bind_some,bne_self_eq_false,chk_pos (show InI64 ((n:Int)+1) by unfold InI64; omega)]
  exact Tot.inl ⟨rfl,trivial⟩
 ·unfold ref04N7 ref04N8
  exact Tot.ncond (by simp) (Tot.out (Tot.ret rfl))
theorem b_SameR {d:api_Disk} {n:Nat} (h:Fit d n) (hn:n≤1000):ref04_Same d d=some true:=by
 have h1:=h.t
 unfold ref04_Same
 rw [b_PagesR _ (by omega) (fun p hp=>by have:=(h.x p (List.mem_append_left _ hp)).1; omega),Option.bind_some,b_PagesR _ (by omega) (fun p hp=>by have:=(h.x p (List.mem_append_right _ hp)).1; omega),Option.bind_some]
 simp
theorem r_DisksR {D:List api_Disk} {n:Nat} (h:FitD D n) (hn:n≤1000):ref26_Disks D D=some true:=by
 have hl:=h.len
 refine Tot.eq ?_
 unfold ref26_Disks
 refine Tot.ncond (by simp) ?_
 unfold ref26N7
 refine Tot.each0 (l:=D) (fun _=>True) (fun k d hlt hd _=>?_) (fun _=>?_) trivial
 ·unfold ref26N5
  exact Tot.cond (by simp; omega) (Tot.bindeq (idx_some hd) (Tot.bindeq (idx_some hd) (Tot.bindeq (b_SameR (h.d d (List.mem_of_getElem? hd)) hn) (Tot.ncond (by simp) (Tot.chk (by unfold InI64; omega) (Tot.inl ⟨rfl,trivial⟩))))))
 ·unfold ref26N5 ref26N6
  exact Tot.ncond (by simp) (Tot.out (Tot.ret rfl))
theorem r_SameR (c:api_Chain) (h:c.Servers.length≤100000):ref26_Same c c=some true:=by
 obtain ⟨b,e,hb⟩:=r_SameC c c h
 rw [e,hb.2 rfl]
theorem r_IntsR (l:List Int) (h:l.length≤100000):ref26_Ints l l=some true:=by
 obtain ⟨b,e,hb⟩:=r_IntsT l l h
 rw [e,hb.2 rfl]
theorem layAll_at {C:api_Copy}:∀{l:List Int} {D:List api_Disk} {t:Int},(∀s,s∈l→isS D s)→isS D t→t∉l→atS (layAll C D l) t=atS D t
 | [],_,_,_,_,_=>rfl
 | s::l,D,t,hs,ht,hn=>by
  have e:layAll C D (s::l)=layAll C (lay1 D s C) l:=rfl
  simp only [List.mem_cons,not_or] at hn
  rw [e,layAll_at (fun t ht=>isS_lay.2 (hs t (by simp [ht]))) (isS_lay.2 ht) hn.2,at_lay (hs s (by simp)) ht,if_neg hn.1]
end Go.Proofs
