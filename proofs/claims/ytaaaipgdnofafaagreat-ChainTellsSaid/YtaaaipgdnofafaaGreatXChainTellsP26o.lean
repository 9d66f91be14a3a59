/- Chains, plain: what is whole; what is read, written and made. No condition. -/
import Derived.Test.YtaaaipgdnofafaaGreatXChainTellsP26n
namespace Go.Proofs
set_option linter.all false
open Go Go.Cat
set_option linter.all false
theorem if_and (a b:Bool):(if a=true then some b else some false)=some (a&&b):=by cases a <;> rfl
theorem if_or (a b:Bool):(if a=true then some true else some b)=some (a||b):=by cases a <;> rfl
noncomputable def wholeB (c:api_Chain) (D:List api_Disk) (s:Int):Bool:=(getN (atS D s) c.Id).2 == 0&&(getN (atS D s) c.Id).1.Ver == c.Ver
noncomputable def dataS (c:api_Chain) (D:List api_Disk) (s:Int):List UInt8:=(getN (atS D s) c.Id).1.Data
structure ChD (c:api_Chain) (D:List api_Disk) (n:Nat):Prop where
 f:FitD D n
 s:∀s,s∈c.Servers→isS D s
 n:c.Servers.length≤10
theorem ChD.small {c:api_Chain} {D:List api_Disk} {n:Nat} (h:ChD c D n) (hn:n≤300) {s:Int} (hs:isS D s):smallD (atS D s):=(h.f.d _ (at_mem hs)).small (by omega)
theorem ChD.get {c:api_Chain} {D:List api_Disk} {n:Nat} (h:ChD c D n) (hn:n≤300) {s:Int} (hs:isS D s) (id:Int):chunk_Get (atS D s) id=some (getN (atS D s) id):=p_GetN (h.small hn hs) id
theorem ChD.getr {c:api_Chain} {D:List api_Disk} {n:Nat} (h:ChD c D n) (hn:n≤300) {s:Int} (hs:isS D s) (id:Int):ref25_Get (atS D s) id=some (getN (atS D s) id):=r_GetN (h.small hn hs) (h.f.d _ (at_mem hs)).uniq id
theorem ChD.mem {c:api_Chain} {D:List api_Disk} {n:Nat} (h:ChD c D n) {k:Nat} {x:Int} (hx:c.Servers[k]?=some x):isS D x:=h.s x (List.mem_of_getElem? hx)
theorem ChD.mono {c:api_Chain} {D:List api_Disk} {n m:Nat} (h:ChD c D n) (e:n≤m):ChD c D m:=⟨h.f.mono e,h.s,h.n⟩
section
variable {c:api_Chain} {D:List api_Disk} {n:Nat}
theorem data_le (h:ChD c D n) (hn:n≤300) {s:Int} (hs:isS D s):(dataS c D s).length≤1000:=((getN_spec (h.small hn hs) c.Id).2.1).1
theorem r_Whole (h:ChD c D n) (hn:n≤300) {s:Int} (hs:isS D s):ref26_Whole c D s=some (dataS c D s,wholeB c D s):=by
 refine Tot.eq ?_
 unfold ref26_Whole
 exact Tot.bindeq (at_idx hs) (Tot.bindeq (h.getr hn hs c.Id) (Tot.bindeq (a:=wholeB c D s) (by rw [if_and]; rfl) (Tot.ret rfl)))
noncomputable def intactC (c:api_Chain) (D:List api_Disk):List Int:=c.Servers.filter (wholeB c D)
theorem take10 (h:ChD c D n) (k:Nat) (p:Int→Bool):((c.Servers.take k).filter p).length≤10:=by
 have h1:=List.length_filter_le p (c.Servers.take k)
 have h2:=List.length_take_le' k c.Servers
 have:=h.n; omega
theorem p_IntactC (h:ChD c D n) (hn:n≤300):chainN6 c D=some (intactC c D):=by
 refine Tot.eq ?_
 unfold chainN6
 refine Tot.bindeq (a:=()) rfl (Tot.bind (R:=(·=intactC c D)) ?_ fun r hr=>Tot.ret hr)
 unfold chainN44 chainN48
 have hlen:=h.n
 refine Tot.each (l:=c.Servers) (fun k a=>a=(c.Servers.take k).filter (wholeB c D)) (fun k x a hlt hx ha=>?_) (fun a ha=>?_) [] rfl
 ·subst ha
  have hs:=h.mem hx
  have ht:=take10 h k (wholeB c D)
  unfold chainN46
  refine Tot.cond (by simp; omega) (Tot.bindeq (idx_some hx) (Tot.bindeq (at_idx hs) (Tot.bindeq (h.get hn hs c.Id) (Tot.bind (R:=(·=(false,(c.Servers.take (k+1)).filter (wholeB c D)))) (Tot.bindeq (if_and _ _) (Tot.bind (R:=(·=(false,(c.Servers.take (k+1)).filter (wholeB c D)))) ?_ fun v hv=>by subst hv; exact Tot.ret rfl)) fun v hv=>by subst hv; exact Tot.ncond (by simp) (Tot.chk (by unfold InI64; dsimp only; omega) (Tot.inl ⟨rfl,rfl⟩))))))
  rw [take_snoc hx,filter_snoc]
  unfold chainN8
  refine Tot.ite (fun e=>Tot.bindeq (a:=()) (chk_pos (by simp only [List.length_cons,List.length_nil]; omega)) (Tot.ret (by rw [if_pos (show wholeB c D x=true from e)]; rfl))) fun e=>Tot.ret (by rw [if_neg (show ¬wholeB c D x=true from e)])
 ·subst ha
  unfold chainN46
  exact Tot.ncond (by simp) (Tot.out (Tot.ret (by rw [List.take_length]; rfl)))
theorem r_IntactC (h:ChD c D n) (hn:n≤300):ref26N11 c D=some (intactC c D):=by
 refine Tot.eq ?_
 unfold ref26N11 ref26N13
 refine Tot.bind (R:=(·=intactC c D)) ?_ fun r hr=>Tot.ret hr
 have hlen:=h.n
 refine Tot.each (l:=c.Servers) (fun k a=>a=(c.Servers.take k).filter (wholeB c D)) (fun k x a hlt hx ha=>?_) (fun a ha=>?_) [] rfl
 ·subst ha
  have hs:=h.mem hx
  have ht:=take10 h k (wholeB c D)
  unfold ref26N12
  refine Tot.cond (by simp; omega) (Tot.bind (R:=(·=(c.Servers.take (k+1)).filter (wholeB c D))) (Tot.bindeq (idx_some hx) (Tot.bindeq (r_Whole h hn hs) ?_)) fun v hv=>Tot.chk (by unfold InI64; dsimp only; omega) (Tot.inl ⟨rfl,hv⟩))
  rw [take_snoc hx,filter_snoc]
  refine Tot.ite (fun e=>Tot.bindeq (idx_some hx) (Tot.chk (by simp only [List.length_cons,List.length_nil]; omega) (Tot.ret (by rw [if_pos (show wholeB c D x=true from e)])))) fun e=>Tot.ret (by rw [if_neg (show ¬wholeB c D x=true from e)])
 ·subst ha
  unfold ref26N12
  exact Tot.ncond (by simp) (Tot.out (Tot.ret (by rw [List.take_length]; rfl)))
noncomputable def firstC (c:api_Chain) (D:List api_Disk):List UInt8×Bool:=match c.Servers.find? (wholeB c D) with
 | some s=>(dataS c D s,true)
 | none=>([],false)
theorem find_take {α:Type} {l:List α} {p:α→Bool} {k:Nat} {x:α} (hx:l[k]?=some x) (h:(l.take k).find? p=none):l.find? p=if p x=true then some x else (l.drop (k+1)).find? p:=by
 have hlt:=(List.getElem?_eq_some_iff.1 hx).1
 have e:l=l.take k++x::l.drop (k+1):=by
  obtain ⟨h3,rfl⟩:=List.getElem?_eq_some_iff.1 hx
  rw [←List.drop_eq_getElem_cons h3,List.take_append_drop]
 conv=>lhs; rw [e]
 rw [List.find?_append,h,Option.none_or,List.find?_cons]
 cases p x <;> rfl
theorem find_step {α:Type} {l:List α} {p:α→Bool} {k:Nat} {x:α} (hx:l[k]?=some x) (h:(l.take k).find? p=none) (hp:¬p x=true):(l.take (k+1)).find? p=none:=by
 rw [take_snoc hx,List.find?_append,h,Option.none_or]
 simp [hp]
theorem p_firstC (h:ChD c D n) (hn:n≤300):chain_first c D=some (firstC c D):=by
 refine Tot.eq ?_
 unfold chain_first
 have hlen:=h.n
 refine Tot.bindeq (a:=()) rfl (Tot.bind (R:=fun r:LS×List UInt8×Bool=>(r.1=.rdy∧firstC c D=([],false))∨(r.1=.ret∧firstC c D=r.2)) ?_ fun r hr=>?_)
 ·unfold chainN36 chainN52
  refine Tot.each (l:=c.Servers) (fun k a=>a=(LS.rdy,([]:List UInt8),false)∧(c.Servers.take k).find? (wholeB c D)=none) (fun k x a hlt hx ha=>?_) (fun a ha=>?_) (LS.rdy,[],false) ⟨rfl,by simp⟩
  ·obtain ⟨rfl,ha⟩:=ha
   have hs:=h.mem hx
   unfold chainN50
   refine Tot.cond (by simp; omega) (Tot.bindeq (idx_some hx) (Tot.bindeq (at_idx hs) (Tot.bindeq (h.get hn hs c.Id) (Tot.bind (R:=(·=if wholeB c D x=true then (true,LS.ret,dataS c D x,true) else (false,LS.rdy,[],false))) (Tot.bindeq (if_and _ _) (Tot.bind (R:=(·=if wholeB c D x=true then (true,LS.ret,dataS c D x,true) else (false,LS.rdy,[],false))) ?_ fun v hv=>by subst hv; exact Tot.ret rfl)) fun v hv=>?_))))
   ·refine Tot.ite (fun e=>Tot.chk rfl (Tot.bindeq (a:=()) rfl (Tot.ret (by rw [if_pos (show wholeB c D x=true from e)]; rfl)))) fun e=>Tot.ret (by rw [if_neg (show ¬wholeB c D x=true from e)])
   ·subst hv
    by_cases hw:wholeB c D x=true
    ·rw [if_pos hw]
     exact Tot.cond rfl (Tot.out (Tot.ret (.inr ⟨rfl,by unfold firstC; rw [find_take hx ha,if_pos hw]⟩)))
    ·rw [if_neg hw]
     exact Tot.ncond (by simp) (Tot.chk (by unfold InI64; dsimp only; omega) (Tot.inl ⟨rfl,rfl,find_step hx ha hw⟩))
  ·obtain ⟨rfl,ha⟩:=ha
   rw [List.take_length] at ha
   unfold chainN50
   exact Tot.ncond (by simp) (Tot.out (Tot.ret (.inl ⟨rfl,by unfold firstC; rw [ha]⟩)))
 ·obtain ⟨e,v⟩:=r
  rcases hr with ⟨h1,h2⟩ | ⟨h1,h2⟩
  ·dsimp only at h1; subst h1
   rw [if_pos rfl,h2]; exact Tot.ret rfl
  ·dsimp only at h1; subst h1
   rw [if_neg (fun e=>by cases e),if_pos rfl,h2]; exact Tot.ret rfl
noncomputable def readC (c:api_Chain) (D:List api_Disk):List UInt8×Int :=
 let g:=getN (atS D (c.Servers.getLastD 0)) c.Id
 if g.2≠0 then ([],g.2) else if g.1.Ver≠c.Ver then ([],250) else (g.1.Data,0)
theorem last_idx {l:List Int} (h:l≠[]):idx l ((l.length:Int) - 1)=some (l.getLastD 0)∧l.getLastD 0∈l:=by
 have hl:0 < l.length:=List.length_pos_iff.2 h
 have e:l.getLastD 0=l.getLast h:=by rw [List.getLastD_eq_getLast?,List.getLast?_eq_some_getLast h]; rfl
 rw [e]
 refine ⟨?_,List.getLast_mem h⟩
 rw [show (l.length:Int) - 1=((l.length - 1:Nat):Int) by omega,idx_of_nat,List.getLast_eq_getElem,List.getElem?_eq_getElem]
theorem p_ReadC (h:ChD c D n) (hn:n≤300) (h0:c.Servers≠[]):chain_Read c D=some (readC c D):=by
 refine Tot.eq ?_
 obtain ⟨h1,h2⟩:=last_idx h0
 have hs:=h.s _ h2
 have hl:=h.n
 unfold chain_Read readC
 refine Tot.chk (by unfold InI64; omega) (Tot.bindeq h1 (Tot.bindeq (at_idx hs) (Tot.bindeq (h.get hn hs c.Id) (Tot.ite (fun e=>Tot.ret (by dsimp only; rw [if_pos (by simpa using e)])) fun e=>?_))))
 have e':¬(getN (atS D (c.Servers.getLastD 0)) c.Id).2≠0:=by simpa using e
 dsimp only
 rw [if_neg e']
 exact Tot.ite (fun e=>Tot.ret (by rw [if_pos (by simpa using e)])) fun e=>Tot.ret (by rw [if_neg (by simpa using e)])
theorem r_ReadC (h:ChD c D n) (hn:n≤300) (h0:c.Servers≠[]):ref26_Read c D=some (readC c D):=by
 refine Tot.eq ?_
 obtain ⟨h1,h2⟩:=last_idx h0
 have hs:=h.s _ h2
 have hl:=h.n
 unfold ref26_Read readC
 refine Tot.chk (by unfold InI64; omega) (Tot.bindeq h1 (Tot.bindeq (at_idx hs) (Tot.bindeq (h.getr hn hs c.Id) (Tot.ite (fun e=>Tot.ret (by dsimp only; rw [if_pos (by simpa using e)])) fun e=>?_))))
 have e':¬(getN (atS D (c.Servers.getLastD 0)) c.Id).2≠0:=by simpa using e
 dsimp only
 rw [if_neg e']
 exact Tot.ite (fun e=>Tot.ret (by rw [if_pos (by simpa using e)])) fun e=>Tot.ret (by rw [if_neg (by simpa using e)])
noncomputable def layAll (C:api_Copy) (D:List api_Disk) (l:List Int):List api_Disk:=l.foldl (fun D s=>lay1 D s C) D
theorem layAll_len (C:api_Copy):∀(l:List Int) (D:List api_Disk),(layAll C D l).length=D.length
 | [],_=>rfl
 | s::l,D=>by unfold layAll; rw [List.foldl_cons]; exact (layAll_len C l _).trans (lay1_len _ _ _)
theorem layAll_isS {C:api_Copy} {l:List Int} {D:List api_Disk} {t:Int}:isS (layAll C D l) t↔isS D t:=by unfold isS; rw [layAll_len]
theorem layAll_snoc (C:api_Copy) (D:List api_Disk) (l:List Int) (s:Int):layAll C D (l++[s])=lay1 (layAll C D l) s C:=by unfold layAll; rw [List.foldl_append]; rfl
theorem layAll_fit {C:api_Copy}:∀{l:List Int} {D:List api_Disk} {n:Nat},FitD D n→(∀s,s∈l→isS D s)→FitD (layAll C D l) (n+l.length)
 | [],_,_,h,_=>h
 | s::l,D,n,h,hs=>by
  have h1:=h.lay (hs s (by simp)) C
  have h2:=layAll_fit (C:=C) (l:=l) h1 (fun t ht=>isS_lay.2 (hs t (by simp [ht])))
  have:layAll C D (s::l)=layAll C (lay1 D s C) l:=rfl
  rw [this]
  exact h2.mono (by simp; omega)
theorem layAll_down {C:api_Copy}:∀{l:List Int} {D:List api_Disk} {t:Int},(∀s,s∈l→isS D s)→isS D t→(atS (layAll C D l) t).Down=(atS D t).Down
 | [],_,_,_,_=>rfl
 | s::l,D,t,hs,ht=>by
  have:layAll C D (s::l)=layAll C (lay1 D s C) l:=rfl
  rw [this,layAll_down (fun t ht=>isS_lay.2 (hs t (by simp [ht]))) (isS_lay.2 ht),lay_DownS (hs s (by simp)) ht]
end
end Go.Proofs
