/- Chains, plain: what is the same; what is made of any chunk. No condition. -/
import Derived.Test.YtaaaipgdnofafaaGreatXChainOneP26r
namespace Go.Proofs
set_option linter.all false
open Go Go.Cat
set_option linter.all false
theorem p_head26:law26_head=some true:=le_law26_head 300 _ (by kernel_rfl)
theorem b_BytesR (a:List UInt8) (h:a.length≤1000000):ref04_Bytes a a=some true:=by
 refine Tot.eq ?_
 unfold ref04_Bytes
 refine Tot.ncond (by simp) ?_
 unfold ref04_Bytes_L1
 refine Tot.each0 (l:=a) (fun _=>True) (fun n x hlt hx _=>?_) (fun _=>?_) trivial
 ·unfold ref04_Bytes_B1
  exact Tot.cond (by simp; omega) (Tot.bindeq (idx_some hx) (Tot.bindeq (idx_some hx) (Tot.ncond (by simp) (Tot.chk (by unfold InI64; omega) (Tot.inl ⟨rfl,trivial⟩)))))
 ·unfold ref04_Bytes_B1 ref04_Bytes_J1
  exact Tot.ncond (by simp) (Tot.out (Tot.ret rfl))
theorem r_IntsR (l:List Int) (h:l.length≤100000):ref26_Ints l l=some true:=by
 obtain ⟨b,e,hb⟩:=r_IntsT l l h
 rw [e,hb.2 rfl]
theorem layAll_at {C:api_Copy}:∀{l:List Int} {D:List api_Disk} {t:Int},(∀s,s∈l→isS D s)→isS D t→t∉l→atS (layAll C D l) t=atS D t
 | [],_,_,_,_,_=>rfl
 | s::l,D,t,hs,ht,hn=>by
  have e:layAll C D (s::l)=layAll C (lay1 D s C) l:=rfl
  simp only [List.mem_cons,not_or] at hn
  rw [e,layAll_at (fun t ht=>isS_lay.2 (hs t (by simp [ht]))) (isS_lay.2 ht) hn.2,at_lay (hs s (by simp)) ht,if_neg hn.1]
end Go.Proofs
