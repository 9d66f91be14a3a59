/- Chains, plain: what is written, made, cut and mended. No condition. -/
import Derived.Test.YtaaaipgdnofafaaGreatXChainTellsP26o
namespace Go.Proofs
set_option linter.all false
open Go Go.Cat
set_option linter.all false
theorem Tot.eachG {β σ ρ:Type} {l:List β} {B:σ→Option (σ⊕ρ)} (cnt:σ→Int) (I:Nat→σ→Prop) {Q:ρ→Prop}
  (h1:∀(n:Nat) (x:β) (a:σ),n < l.length→l[n]?=some x→cnt a=n→I n a→Tot (B a) (RdP (fun s=>cnt s=(n:Int)+1∧I (n+1) s) Q))
  (h2:∀a,cnt a=l.length→I l.length a→Tot (B a) (RdP (fun _=>False) Q)) (a:σ) (hc:cnt a=0) (h0:I 0 a):Tot (Cat.loop B a) Q:=by
 refine Tot.loop (fun s:σ=>∃n:Nat,cnt s=n∧n≤l.length∧I n s) (fun s=>l.length+1 - (cnt s).toNat) ?_ a ⟨0,hc,Nat.zero_le _,h0⟩
 rintro a ⟨n,hn0,hn,hi⟩
 rcases Nat.lt_or_ge n l.length with hlt | hge
 ·refine (h1 n _ a hlt (List.getElem?_eq_getElem hlt) hn0 hi).mono fun y hy=>?_
  cases y with
  | inl s=>exact ⟨⟨n+1,hy.1,hlt,hy.2⟩,by show l.length+1 - (cnt s).toNat < _; rw [hy.1]; omega⟩
  | inr r=>exact hy
 ·obtain rfl:n=l.length:=by omega
  refine (h2 a hn0 hi).mono fun y hy=>?_
  cases y with
  | inl s=>exact hy.elim
  | inr r=>exact hy
theorem drop_cons {α:Type} {l:List α} {n:Nat} {x:α} (hx:l[n]?=some x):l.drop n=x::l.drop (n+1):=by
 obtain ⟨h3,rfl⟩:=List.getElem?_eq_some_iff.1 hx
 exact List.drop_eq_getElem_cons h3
theorem tells_not {P:Prop} {b:Bool} (h:Tells P b):(!b)=true↔¬P:=by unfold Tells at h; rw [←h]; simp
section
variable {c:api_Chain} {D:List api_Disk} {n:Nat}
theorem ChD.take (h:ChD c D n) (k:Nat):∀s,s∈c.Servers.take k→isS D s:=fun s hs=>h.s s (List.mem_of_mem_take hs)
theorem ChD.layT (h:ChD c D n) (C:api_Copy) (k:Nat):FitD (layAll C D (c.Servers.take k)) (n+10):=(layAll_fit h.f (h.take k)).mono (by have:=h.n; have:=List.length_take_le' k c.Servers; omega)
theorem p_layingC (h:ChD c D n) (c':api_Chain) (x:List UInt8):chainN32 c' D x=some D:=by
 have:=h.f.len
 unfold chainN32
 rw [eq_slicesN1 D (by omega)]; rfl
noncomputable def writeGo (D0:List api_Disk) (C:api_Copy) (upto:Int):Nat→List Int→List api_Disk→List api_Disk×Bool
 | _,[],D=>(D,true)
 | k,s::l,D=>if (decide ((k:Int)≥upto)||(atS D0 s).Down)=true then (D,false) else writeGo D0 C upto (k+1) l (lay1 D s C)
noncomputable def writeC (c:api_Chain) (D:List api_Disk) (x:List UInt8) (upto:Int):List api_Disk×Bool:=if x.length > 64 then (D,false) else writeGo D (newC c.Id c.Ver x) upto 0 c.Servers D
theorem p_WriteC (h:ChD c D n) (hn:n≤300) (x:List UInt8) (upto:Int):chain_Write c D x upto=some (writeC c D x upto):=by
 refine Tot.eq ?_
 have hl:=h.n
 unfold chain_Write writeC
 refine Tot.ite (fun e=>Tot.ret (by rw [if_pos (by simp at e; omega)])) fun e=>?_
 have hx:¬x.length > 64:=by simp at e; omega
 rw [if_neg hx]
 refine Tot.bindeq (p_layingC h c x) ?_
 generalize hT:writeGo D (newC c.Id c.Ver x) upto 0 c.Servers D=T
 unfold chainN28
 refine Tot.each (l:=c.Servers) (fun k a=>a=layAll (newC c.Id c.Ver x) D (c.Servers.take k)∧writeGo D (newC c.Id c.Ver x) upto k (c.Servers.drop k) a=T) (fun k s a hlt hs ha=>?_) (fun a ha=>?_) D ⟨rfl,hT⟩
 ·obtain ⟨ha,hg⟩:=ha
  have hsS:=h.mem hs
  have haS:isS a s:=by rw [ha]; exact layAll_isS.2 hsS
  have hdn:(atS a s).Down=(atS D s).Down:=by rw [ha]; exact layAll_down (h.take k) hsS
  rw [drop_cons hs] at hg
  unfold writeGo at hg
  unfold chainN25
  refine Tot.cond (by simp; omega) (Tot.bindeq (idx_some hs) (Tot.bindeq (a:=(decide ((k:Int)≥upto)||(atS D s).Down)) ?_ (Tot.ite (fun e=>Tot.out (Tot.ret ?_)) fun e=>?_)))
  ·dsimp only; rw [at_idx haS,Option.bind_some,hdn,if_or]; rfl
  ·rw [if_pos e] at hg; exact hg
  ·rw [if_neg e] at hg
   have hf:FitD a (n+10):=by rw [ha]; exact h.layT _ k
   exact Tot.bindeq (p_lay1 hf (by omega) haS c (by omega)) (Tot.chk (by unfold InI64; dsimp only; omega) (Tot.inl ⟨rfl,by rw [take_snoc hs,layAll_snoc,←ha],hg⟩))
 ·obtain ⟨ha,hg⟩:=ha
  rw [List.drop_length] at hg
  unfold chainN25 chainN27
  exact Tot.ncond (by simp) (Tot.out (Tot.ret hg))
theorem r_WriteC (h:ChD c D n) (hn:n≤300) (x:List UInt8) (upto:Int):ref26_Write c D x upto=some (writeC c D x upto):=by
 refine Tot.eq ?_
 have hl:=h.n
 unfold ref26_Write writeC
 refine Tot.ite (fun e=>Tot.ret (by rw [if_pos (by simp at e; omega)])) fun e=>?_
 have hx:¬x.length > 64:=by simp at e; omega
 rw [if_neg hx]
 generalize hT:writeGo D (newC c.Id c.Ver x) upto 0 c.Servers D=T
 unfold ref26N36
 refine Tot.each' (l:=c.Servers) (fun k a=>a=layAll (newC c.Id c.Ver x) D (c.Servers.take k)∧writeGo D (newC c.Id c.Ver x) upto k (c.Servers.drop k) a=T) (fun k s a hlt hs ha=>?_) (fun a ha=>?_) D ⟨rfl,hT⟩
 ·obtain ⟨ha,hg⟩:=ha
  have hsS:=h.mem hs
  have haS:isS a s:=by rw [ha]; exact layAll_isS.2 hsS
  rw [drop_cons hs] at hg
  unfold writeGo at hg
  unfold ref26N34
  refine Tot.cond (by simp; omega) (Tot.bindeq (a:=(decide ((k:Int)≥upto)||(atS D s).Down)) ?_ (Tot.ite (fun e=>Tot.out (Tot.ret ?_)) fun e=>?_))
  ·dsimp only; rw [idx_some hs,Option.bind_some,at_idx hsS,Option.bind_some,if_or]; rfl
  ·rw [if_pos e] at hg; exact hg
  ·rw [if_neg e] at hg
   have hf:FitD a (n+10):=by rw [ha]; exact h.layT _ k
   exact Tot.bindeq (idx_some hs) (Tot.bindeq (r_lay1 hf (by omega) haS c c.Ver (by omega)) (Tot.chk (by unfold InI64; dsimp only; omega) (Tot.inl ⟨rfl,by rw [take_snoc hs,layAll_snoc,←ha],hg⟩)))
 ·obtain ⟨ha,hg⟩:=ha
  rw [List.drop_length] at hg
  unfold ref26N34 ref26N35
  exact Tot.ncond (by simp) (Tot.out (Tot.ret hg))
theorem p_Clone_int (l:List Int) (h:l.length≤1000000):slicesN7 l=some l:=eq_slicesN4 l (by omega)
theorem p_anyDown (l:List Int) (hl:l.length≤10000) (hs:∀s,s∈l→isS D s):slicesN29 l D=some (l.any fun s=>(atS D s).Down):=by
 refine Tot.eq ?_
 unfold slicesN29
 refine Tot.bind (R:=fun r=>decide (r≥0)=l.any fun s=>(atS D s).Down) ?_ fun r hr=>Tot.ret hr
 unfold slicesN61 slicesN66
 refine Tot.each0 (l:=l) (fun k=>((l.take k).any fun s=>(atS D s).Down)=false) (fun k s hlt hx hi=>?_) (fun hi=>?_) (by simp)
 ·unfold slicesN63
  have hsS:=hs s (List.mem_of_getElem? hx)
  refine Tot.cond (by simp; omega) (Tot.bindeq (idx_some hx) (Tot.bindeq (a:=(atS D s).Down) (by unfold chainN9; rw [at_idx hsS]; rfl) (Tot.ite (fun e=>Tot.out (Tot.ret ?_)) fun e=>Tot.chk (by unfold InI64; omega) (Tot.inl ⟨rfl,?_⟩))))
  ·have:(l.any fun s=>(atS D s).Down)=true:=List.any_eq_true.2 ⟨s,List.mem_of_getElem? hx,e⟩
   rw [this]; simp
  ·rw [take_snoc hx,List.any_append,hi]; simpa using e
 ·rw [List.take_length] at hi
  unfold slicesN63 slicesN65
  exact Tot.ncond (by simp) (Tot.out (Tot.ret (by rw [hi]; rfl)))
noncomputable def makeC (id:Int) (l:List Int) (D:List api_Disk) (x:List UInt8):api_Chain×List api_Disk×Int :=
 open Classical in if ¬ RightP ⟨id, 1, l⟩ D.length ∨ 64 < x.length then (⟨0, 0, []⟩, D, 1) else if (l.any fun s => (atS D s).Down) = true then (⟨0, 0, []⟩, D, 40) else (⟨id, 1, l⟩, layAll (newC id 1 x) D l, 0)
theorem right_ch {c:api_Chain} {D:List api_Disk} {n:Nat} (h:RightP c D.length) (hf:FitD D n):ChD c D n:=⟨hf,fun s hs=>h.1.1 s hs,by have:=h.2.2; omega⟩
theorem p_MakeC (hf:FitD D n) (hn:n≤300) (id:Int) {l:List Int} (hl:l.length≤10000) {x:List UInt8} (hx:x.length≤10000):chain_Make id l D x=some (makeC id l D x):=by
 refine Tot.eq ?_
 unfold chain_Make makeC
 refine Tot.bindeq (p_Clone_int l (by omega)) (Tot.bind (R:=Tells (¬RightP ⟨id,1,l⟩ D.length∨64 < x.length)) (Tot.bind (p_Right _ D hl) fun b hb=>Tot.bind (R:=Tells (¬RightP ⟨id,1,l⟩ D.length∨64 < x.length)) (Tot.orI (P:=¬RightP ⟨id,1,l⟩ D.length) (tells_not hb) fun _=>Tot.dec (by omega)) fun b hb=>Tot.ret hb) fun v hv=>Tot.ite (fun e=>Tot.ret (by rw [if_pos (hv.1 e)])) fun e=>?_)
 have hno:¬(¬RightP ⟨id,1,l⟩ D.length∨64 < x.length):=fun h=>e (hv.2 h)
 have hR:RightP ⟨id,1,l⟩ D.length:=Classical.byContradiction fun h=>hno (.inl h)
 have h:=right_ch hR hf
 have h10:=h.n
 rw [if_neg hno]
 refine Tot.bindeq (p_anyDown l hl h.s) (Tot.ite (fun e=>Tot.ret (by rw [if_pos e])) fun e=>?_)
 rw [if_neg e]
 refine Tot.bindeq (p_layingC h _ x) (Tot.bind (R:=(·=layAll (newC id 1 x) D l)) ?_ fun r hr=>Tot.ret (by rw [hr]))
 unfold chainN12
 refine Tot.each (l:=l) (fun k a=>a=layAll (newC id 1 x) D (l.take k)) (fun k s a hlt hs ha=>?_) (fun a ha=>?_) D rfl
 ·have hsS:=h.mem hs
  have haS:isS a s:=by rw [ha]; exact layAll_isS.2 hsS
  have hf:FitD a (n+10):=by rw [ha]; exact h.layT _ k
  unfold chainN10
  exact Tot.cond (by simp; omega) (Tot.bindeq (idx_some hs) (Tot.bindeq (p_lay1 hf (by omega) haS _ hx) (Tot.chk (by unfold InI64; dsimp only; omega) (Tot.inl ⟨rfl,by rw [take_snoc hs,layAll_snoc,←ha]⟩))))
 ·unfold chainN10
  exact Tot.ncond (by simp) (Tot.out (Tot.ret (by rw [List.take_length] at ha; exact ha)))
noncomputable def mendC (c:api_Chain) (D:List api_Disk) (s:Int):api_Chain×List api_Disk×Int :=
 open Classical in if s ∈ c.Servers ∨ ¬ isS D s then (c, D, 1) else if 5 ≤ c.Servers.length then (c, D, 76) else if (atS D s).Down = true then (c, D, 40) else if (readC c D).2 ≠ 0 then (c, D, (readC c D).2)
 else (⟨c.Id,c.Ver,c.Servers++[s]⟩,lay1 D s (newC c.Id c.Ver (readC c D).1),0)
theorem read_len (h:ChD c D n) (hn:n≤300) (h0:c.Servers≠[]):(readC c D).1.length≤1000:=by
 have:=data_le h hn (h.s _ (last_idx h0).2)
 unfold readC dataS at *
 dsimp only
 split
 ·simp
 ·split
  ·simp
  ·exact this
theorem p_MendC (h:ChD c D n) (hn:n≤300) (h0:c.Servers≠[]) (s:Int):chain_Mend c D s=some (mendC c D s):=by
 refine Tot.eq ?_
 have hl:=h.n
 unfold chain_Mend mendC
 refine Tot.bind (R:=Tells (s∈c.Servers∨¬isS D s)) (Tot.bind (R:=Tells (s < 0∨(D.length:Int)≤s)) (Tot.orI (by simp) fun _=>Tot.dec Iff.rfl) fun b hb=>Tot.bind (R:=Tells ((s < 0∨(D.length:Int)≤s)∨s∈c.Servers)) (Tot.orI hb fun _=>Tot.bindeq (p_Contains _ s (by omega)) (Tot.ret (by unfold Tells; simp))) fun v hv=>Tot.ret (hv.trans ?_)) fun v hv=>Tot.ite (fun e=>Tot.ret (by rw [if_pos (hv.1 e)])) fun e=>?_
 ·unfold isS
  constructor
  ·rintro ((h | h) | h)
   ·exact .inr (by omega)
   ·exact .inr (by omega)
   ·exact .inl h
  ·rintro (h | h)
   ·exact .inr h
   ·exact .inl (by omega)
 have hno:¬(s∈c.Servers∨¬isS D s):=fun h=>e (hv.2 h)
 have hsS:isS D s:=Classical.byContradiction fun h=>hno (.inr h)
 rw [if_neg hno]
 refine Tot.ite (fun e=>Tot.ret (by rw [if_pos (by simp at e; omega)])) fun e=>?_
 rw [if_neg (by simp at e; omega)]
 refine Tot.bindeq (at_idx hsS) (Tot.ite (fun e=>Tot.ret (by rw [if_pos e])) fun e=>?_)
 rw [if_neg e]
 refine Tot.bindeq (p_ReadC h hn h0) (Tot.ite (fun e=>Tot.ret (by rw [if_pos (by simpa using e)])) fun e=>?_)
 rw [if_neg (by simpa using e)]
 have:=read_len h hn h0
 exact Tot.bindeq (p_layingC h _ _) (Tot.bindeq (p_lay1 h.f (by omega) hsS c (by omega)) (Tot.bindeq (p_Clone_int _ (by omega)) (Tot.chk (by simp only [List.length_cons,List.length_nil]; omega) (Tot.ret rfl))))
theorem r_MendC (h:ChD c D n) (hn:n≤300) (h0:c.Servers≠[]) (s:Int):ref26_Mend c D s=some (mendC c D s):=by
 refine Tot.eq ?_
 have hl:=h.n
 unfold ref26_Mend mendC
 refine Tot.bindeq (r_Has _ s (by omega)) (Tot.bind (R:=Tells (s∈c.Servers∨¬isS D s)) (Tot.bind (R:=Tells (s∈c.Servers∨s < 0)) (Tot.orI (by simp) fun _=>Tot.dec Iff.rfl) fun b hb=>Tot.bind (R:=Tells ((s∈c.Servers∨s < 0)∨(D.length:Int)≤s)) (Tot.orI hb fun _=>Tot.dec Iff.rfl) fun v hv=>Tot.ret (hv.trans ?_)) fun v hv=>Tot.ite (fun e=>Tot.ret (by rw [if_pos (hv.1 e)])) fun e=>?_)
 ·unfold isS
  constructor
  ·rintro ((h | h) | h)
   ·exact .inl h
   ·exact .inr (by omega)
   ·exact .inr (by omega)
  ·rintro (h | h)
   ·exact .inl (.inl h)
   ·rcases Int.lt_or_le s 0 with h1 | h1
    ·exact .inl (.inr h1)
    ·exact .inr (by omega)
 have hno:¬(s∈c.Servers∨¬isS D s):=fun h=>e (hv.2 h)
 have hsS:isS D s:=Classical.byContradiction fun h=>hno (.inr h)
 rw [if_neg hno]
 refine Tot.ite (fun e=>Tot.ret (by rw [if_pos (by simp at e; omega)])) fun e=>?_
 rw [if_neg (by simp at e; omega)]
 refine Tot.bindeq (at_idx hsS) (Tot.ite (fun e=>Tot.ret (by rw [if_pos e])) fun e=>?_)
 rw [if_neg e]
 refine Tot.bindeq (r_ReadC h hn h0) (Tot.ite (fun e=>Tot.ret (by rw [if_pos (by simpa using e)])) fun e=>?_)
 rw [if_neg (by simpa using e)]
 have:=read_len h hn h0
 exact Tot.chk (by omega) (Tot.chk (by simp only [List.length_cons,List.length_nil]; omega) (Tot.bindeq (r_lay1 h.f (by omega) hsS c c.Ver (by omega)) (Tot.ret rfl)))
end
end Go.Proofs
