/- The plain law, piece 1. No condition. -/
import Derived.Test.YtdcgbodbejgliaaGreatDoorXTopPacksPl0
import Derived.Laws.Bits64
import Derived.KernelRfl
import Derived.Test.YtdcgbodbejgliaaGreatDoorXTopPacksIn
open BitVec renaming ofInt → eH, toNat_xor → ZL, xor_allOnes → ZM, toNat_not → ZK
open Bool renaming and_eq_true → bJ, eq_false_iff → ic, false_eq_true → kC, or_eq_true → ug, not_true → uf, false_or → CZ, eq_iff_iff → vB, and_true → CY, or_false → Rt
open Decidable renaming byContradiction → ZO, of_not_not → ZP
open Go.IntKind renaming wrap_u64 → ZZ
open Go.IntWalk renaming i64_in → qI
open Int renaming toNat_natCast → gU
open List renaming length_map → ax, getElem?_eq_getElem → bF, mem_cons_of_mem → cj, length_append → cP, length_cons → cZ, getElem?_eq_some_iff → fk, mem_singleton → dB, length_take → dN, pairwise_cons → eK, mem_map → dq, mem_filter → eD, getElem_mem → ek, map_append → eI, mem_append → gp, length_nil → gM, take_length → jr, length_filter_le → mh, append_assoc → kD, pairwise_iff_getElem → vJ, length_drop → lV, drop_eq_getElem_cons → sa, take_add_one → oX, mem_append_left → qM, any_eq_false → p0, append_nil → qJ, mem_append_right → vH, pairwise_append → vI, take_append_drop → xH, mem_of_mem_take → Db, mem_flatMap → Lu, any_eq_true → C7, of_mem_zip → Lv, foldl_append → G6, mem_of_mem_drop → RQ, length_eraseP_le → Z9, flatMap_append → Z4
open List.Pairwise renaming nil → j1, sublist → Z1
open Nat renaming lt_of_le_of_lt → gB, le_trans → fo, zero_le → lX, div_lt_iff_lt_mul → qP, shiftRight_eq_div_pow → G9, pow_succ → LA, lt_trans → Lw, shiftRight_le → aac
open Option renaming bind_some → cm, isSome_iff_exists → nt, getD_some → Ay
open UInt8 renaming ofNat → iZ, toNat_inj → R2
namespace Go.Proofs
set_option linter.all false
open Go Go.Cat
section
def Dj (a b:ay):Prop:=a.aW<b.aW∨a.aW=b.aW∧a.bY<b.bY
def qR (l:List ay):Prop:=l.Pairwise Dj
def Dw {x y:Int}:gX x y=0↔x=y:=by have h:=@ym x y;rw [beq_iff_eq] at h;exact h
def HD {c h:Int} {x:ay}:cH c h x<0↔(x.aW<c∨x.aW=c∧x.bY<h):=by
 unfold cH;by_cases e:gX x.aW c≠0
 ·rw [if_pos e,jx];have:=fun e'=>e (Dw.2 e');constructor
  ·exact .inl
  ·rintro (h|⟨h,-⟩)
   ·exact h
   ·exact absurd h this
 ·rw [if_neg e,jx];have:x.aW=c:=Dw.1 (ZP e);constructor
  ·exact fun h=>.inr ⟨this,h⟩
  ·rintro (h|⟨-,h⟩)
   ·omega
   ·exact h
def SC {c h:Int} {x:ay}:(cH c h x==0)=iI c h x:=by
 rw [vB,beq_iff_eq];unfold cH iI;rw [bJ,beq_iff_eq,beq_iff_eq];by_cases e:gX x.aW c≠0
 ·rw [if_pos e];exact ⟨fun h=>absurd h e,fun h=>absurd (Dw.2 h.1) e⟩
 ·rw [if_neg e,Dw];have:x.aW=c:=Dw.1 (ZP e);exact ⟨fun h=>⟨this,h⟩,fun h=>h.2⟩
def Wb {l:List ay} (hl:qR l) (c h:Int):Mon (cH c h) l:=fun j k x y pC hx hy hc=>by
 obtain ⟨h1,rfl⟩:=fk.1 hx;obtain ⟨h2,rfl⟩:=fk.1 hy;have:=vJ.1 hl j k h1 h2 pC;rw [HD] at *;unfold Dj at this;omega
def aaM {l:List ay} (hl:qR l) (c h:Int):fH (cH c h) l=l.any (iI c h):=by
 induction l with
 |nil=>rfl
 |cons x l ih =>
  have h2:=(eK.1 hl).2;have h1:=(eK.1 hl).1;rw [List.any_cons];by_cases hx:cH c h x<0
  ·rw [yf hx,ih h2,←SC,beq_eq_false_iff_ne.2 (by omega:cH c h x≠0),CZ]
  ·rw [yg hx,SC];cases hk:iI c h x with
   |true=>rfl
   |false =>
    rw [CZ];symm;rw [p0];intro y hy;have Φ:=h1 y hy;rw [HD] at hx;unfold Dj at Φ;unfold iI;simp only [bJ,beq_iff_eq];omega
def Xe {α:Type} {R:α→α→Prop} {l:List α} (h:l.Pairwise R) {x:α} {k:Nat} (h1:∀y,y∈l.take k→R y x) (h2:∀y,y∈l.drop k→R x y):(dM l (k:Int) [x]).Pairwise R:=by
 unfold dM;rw [gU,kD]
 have hs:(l.take k++l.drop k).Pairwise R:=by rw [xH];exact h
 obtain ⟨a1,a2,a3⟩:=vI.1 hs;refine vI.2 ⟨a1,?_,fun a ha b hb=>?_⟩
 ·exact eK.2 ⟨h2,a2⟩
 ·rcases List.mem_cons.1 hb with rfl|hb
  ·exact h1 a ha
  ·exact a3 a ha b hb
def Yy {α:Type} {c:α→Int} {l:List α} {y:α} (hy:y∈l.take (c9 c l)):c y<0:=by
 obtain ⟨j,hj⟩:=tn hy;rw [List.getElem?_take] at hj;split at hj
 ·exact Sz ‹_› hj
 ·cases hj
def S_ {α:Type} {c:α→Int} {l:List α} (hm:Mon c l) {y:α} (hy:y∈l.drop (c9 c l)):¬c y<0:=by
 obtain ⟨j,hj⟩:=tn hy;rw [List.getElem?_drop] at hj;intro hc
 rcases Nat.eq_zero_or_pos j with rfl|hp
 ·exact L9 hj hc
 ·have Φ:=(fk.1 hj).1;have hx:=bF (l:=l) (i:=c9 c l) (by omega);exact L9 hx (hm _ _ _ y (by omega) hx hj hc)
def ad0 {l:List ay} (hl:qR l) {c h:Int} (bw:l.any (iI c h)=false) (i:Int):qR (dM l (c9 (cH c h) l:Int) [⟨c,h,i⟩]):=by
 refine Xe hl (fun y hy=>?_) fun y hy=>?_
 ·have:=Yy hy;rw [HD] at this;unfold Dj;dsimp only;omega
 ·have h1:=S_ (Wb hl c h) hy;rw [HD] at h1;have h2:=p0.1 bw y (RQ hy);unfold iI at h2;simp only [bJ,beq_iff_eq] at h2;unfold Dj;dsimp only;omega
def u_ (t:θ) (l:List ay) (c h i:Int):List ay×Int :=
 if (!((decide (c≥0)&&decide (c<16))&&decide (h≥0)&&decide (h<100)))=true then (l,1)
 else if (!(gN t.η i).isSome||l_ (gD t.η i))=true then (l,70)
 else if ((gD t.η i).τ==2)=true then (l,72)
 else if l.any (iI c h)=true then (l,71)
 else if decide ((l.length:Int)≥64)=true then (l,76)
 else (dM l (c9 (cH c h) l:Int) [⟨c,h,i⟩],0)
def afH {t:θ} (hs:d_ t.η) (hn:t.η.length≤1000000) {l:List ay} (hl:qR l) (IM:l.length≤1000000) (c h i:Int):Bu t l c h i=some (u_ t l c h i):=by
 refine ε.eq ?_;unfold Bu u_;refine ε.af (a:=(decide (c≥0)&&decide (c<16))&&decide (h≥0)&&decide (h<100)) ?_ ?_
 ·unfold IW;dsimp only;cases decide (c≥0)<;>cases decide (c<16)<;>cases decide (h≥0)<;>cases decide (h<100)<;>rfl
 refine ε.eG (fun _=>ε.ret rfl) fun _=>ε.af (tu hs hn i) ?_;have hbs:=HB (C:=fun x=>zg (c,h) x (c,h)) (c:=cH c h) (l:=l) (fun x _=>afQ c h x (c,h)) (Wb hl c h) IM;refine ε.af (x:=Kr l (c,h) (c,h)) hbs ?_;dsimp only;refine ε.bind (R:=(·=(!(gN t.η i).isSome||l_ (gD t.η i)))) (ε.bind (R:=(·=(!(gN t.η i).isSome||l_ (gD t.η i)))) (ε.ite (fun e=>ε.ret (by rw [e];rfl)) fun e=>ε.af (Pf _) (ε.ret (by rw [ic.2 e];rfl))) fun v hv=>ε.ret hv) fun v hv=>?_;subst hv;refine ε.eG (fun _=>ε.ret rfl) fun _=>ε.eG (fun _=>ε.ret rfl) fun _=>?_;rw [aaM hl];refine ε.eG (fun _=>ε.ret rfl) fun _=>ε.eG (fun _=>ε.ret rfl) fun _=>ε.af (SF IM) ?_;have:=Ds (cH c h) l;exact ε.Ψ ⟨by omega,by omega,by simp,by simp only [cZ,gM];omega⟩ (ε.ret rfl)
def SU {α:Type} {p:α→Bool}:∀{l:List α} {k:Nat},l.findIdx? p=some k→fY l (k:Int) ((k:Int)+1)=l.eraseP p
 |[],_,h=>by simp at h
 |x::l,k,h=>by
  rw [List.findIdx?_cons] at h;cases hp:p x with
  |true =>
   rw [hp] at h
   have:k=0:=by simpa using h.symm
   subst this;rw [List.eraseP_cons_of_pos hp];rfl
  |false =>
   rw [hp] at h;cases hf:l.findIdx? p with
   |none=>rw [hf] at h;simp at h
   |some j =>
    rw [hf] at h
    have:k=j+1:=by simpa using h.symm
    subst this;rw [List.eraseP_cons_of_neg (by simp [hp]),←SU hf];unfold fY;rw [gU,gU,show ((j:Int)+1).toNat=j+1 by omega,show (((j+1:Nat):Int)+1).toNat=j+1+1 by omega];rfl
def vj (t:θ) (l:List ay) (i:Int):θ:=if ((gN t.η i).isSome&&l_ (gD t.η i)&&!wE l i)=true then (wq t i).1 else t
def pb (t:θ) (l:List ay) (c h:Int):θ×List ay×Int:=match l.find? (iI c h) with|none=>(t,l,80)|some x=>(vj t (l.eraseP (iI c h)) x.κ,l.eraseP (iI c h),0)
def zx (l:List ay) (c h:Int):Int×Int:=match l.find? (iI c h) with|none=>(0,80)|some x=>(x.κ,0)
section
variable {B:Nat} {t:θ}
def agU (h:RT t) (l:List ay) (i:Int):RT (vj t l i):=by
 unfold vj;split
 ·exact h.free i
 ·exact h
def TF.TA (h:TF B t) (i:Int):TF B (wq t i).1:=by
 unfold wq;split
 ·exact h
 split
 ·exact h
 split
 ·exact h
 ·exact h.drop i
def agV (h:TF B t) (l:List ay) (i:Int):TF B (vj t l i):=by
 unfold vj;split
 ·exact h.TA i
 ·exact h
def Wu (h:d_ t.η) (hf:TF B t) (hB:B≤90000) {l:List ay} (hl:l.length≤1000000) (c k:Int):zf t l c k=some (pb t l c k):=by
 have hn:=hf.n;refine ε.eq ?_;unfold zf pb;refine ε.af (WT l c k hl) ?_;cases hx:l.findIdx? (iI c k) with
 |none =>
  rw [DJ hx];exact ε.cond (by rfl) (ε.ret rfl)
 |some n =>
  obtain ⟨x,h1,h2,h3⟩:=sI hx;have Φ:=(fk.1 h1).1;rw [h2];show ε (if decide ((n:Int)<0)=true then _ else _) _;refine ε.cD (by simp) (ε.af (cq h1) (ε.af (SF hl) (ε.Ψ (by show Ξ ((n:Int)+1);unfold Ξ;omega) (ε.Ψ (by show (0:Int)≤(n:Int)∧(n:Int)<(n:Int)+1∧(n:Int)+1≤_;omega) ?_))));show ε (((mc t x.κ).bind fun x4=>((if x4.2 then (wO x4.1).bind fun x5=>some x5 else some false).bind fun c1=>(if c1 then (Bw (fY l (n:Int) ((n:Int)+1)) x.κ).bind fun x6=>some (!x6) else some false).bind fun c2=>some c2).bind fun v2=>if v2 then (Ae t x.κ).bind fun x7=>some (x7.1.η,x7.1.Next,x7.1.aj) else some (t.η,t.Next,t.aj)).bind fun v1=>some ((⟨v1.1,v1.2.1,v1.2.2⟩:θ),fY l (n:Int) ((n:Int)+1),0)) _;rw [SU hx];have ID:(l.eraseP (iI c k)).length≤l.length:=Z9;refine ε.af (a:=((vj t (l.eraseP (iI c k)) x.κ).η,(vj t (l.eraseP (iI c k)) x.κ).Next,(vj t (l.eraseP (iI c k)) x.κ).aj)) (ε.eq ?_) (ε.ret rfl);refine ε.af (tu h (by omega) x.κ) ?_;unfold vj;dsimp only;refine ε.bind (R:=(·=((gN t.η x.κ).isSome&&l_ (gD t.η x.κ)&&!wE (l.eraseP (iI c k)) x.κ))) ?_ fun v hv=>?_
  ·refine ε.bind (R:=(·=((gN t.η x.κ).isSome&&l_ (gD t.η x.κ)))) (ε.ite (fun e=>ε.af (Pf _) (ε.ret (by rw [e];rfl))) fun e=>ε.ret (by rw [ic.2 e];rfl)) fun v hv=>ε.bind (R:=(·=((gN t.η x.κ).isSome&&l_ (gD t.η x.κ)&&!wE (l.eraseP (iI c k)) x.κ))) ?_ fun v hv=>ε.ret hv;subst hv;exact ε.ite (fun e=>ε.af (af3 _ _ (by omega)) (ε.ret (by rw [e];rfl))) fun e=>ε.ret (by rw [ic.2 e];rfl)
  ·subst hv;by_cases e:((gN t.η x.κ).isSome&&l_ (gD t.η x.κ)&&!wE (l.eraseP (iI c k)) x.κ)=true
   ·simp only [if_pos e];exact ε.af (Ww h hf hB _) (ε.ret rfl)
   ·simp only [if_neg e];exact ε.ret rfl
def afj {l:List ay} (hl:l.length≤1000000) (c k:Int):EB l c k=some (zx l c k):=by
 refine ε.eq ?_;unfold EB zx;refine ε.af (WT l c k hl) ?_;cases hx:l.findIdx? (iI c k) with
 |none =>
  rw [DJ hx];exact ε.cond (by rfl) (ε.ret rfl)
 |some n =>
  obtain ⟨x,h1,h2,h3⟩:=sI hx;rw [h2];show ε (if decide ((n:Int)<0)=true then _ else _) _;exact ε.cD (by simp) (ε.af (cq h1) (ε.ret rfl))
def mQ (c:Int) (a:θ×List ay) (x:ay):θ×List ay:=if (x.aW==c)=true then ((pb a.1 a.2 c x.bY).1,(pb a.1 a.2 c x.bY).2.1) else a
def wz (t:θ) (l:List ay) (c:Int):θ×List ay:=l.foldl (mQ c) (t,l)
structure GI (B n:Nat) (a:θ×List ay):Prop where
 r:RT a.1
 f:TF B a.1
 l:a.2.length≤n
 s:qR a.2
def Me {n:Nat} {l:List ay} (h:GI B n (t,l)) (c k:Int):GI B n ((pb t l c k).1,(pb t l c k).2.1):=by
 unfold pb;cases l.find? (iI c k) with
 |none=>exact h
 |some x =>
  refine ⟨agU h.r _ _,agV h.f _ _,fo Z9 h.l,?_⟩;exact Z1 List.eraseP_sublist h.s
def TQ {n:Nat} {a:θ×List ay} (h:GI B n a) (c:Int) (x:ay):GI B n (mQ c a x):=by
 unfold mQ;split
 ·exact Me (t:=a.1) (l:=a.2) h c x.bY
 ·exact h
def MN {n:Nat} (c:Int):∀(l:List ay) {a:θ×List ay},GI B n a→GI B n (l.foldl (mQ c) a)
 |[],_,h=>h
 |x::l,_,h=>MN c l (TQ h c x)
def afh (h:RT t) (hf:TF B t) (hB:B≤90000) {l:List ay} (hl:l.length≤100000) (hs:qR l) (c:Int):Bt t l c=some (wz t l c):=by
 refine ε.eq ?_;unfold Bt wz U3
 have key:ε (loop (EA l c) (l,0,t.η,t.Next,t.aj)) (fun v=>v=((l.foldl (mQ c) (t,l)).2,(l.foldl (mQ c) (t,l)).1.η,(l.foldl (mQ c) (t,l)).1.Next,(l.foldl (mQ c) (t,l)).1.aj)):=by
  refine ε.loop (fun s:List ay×Int×List ξ×Int×Int=>∃n:Nat,s.2.1=(n:Int)∧n≤l.length∧GI B l.length ((⟨s.2.2.1,s.2.2.2.1,s.2.2.2.2⟩:θ),s.1)∧(l.take n).foldl (mQ c) (t,l)=((⟨s.2.2.1,s.2.2.2.1,s.2.2.2.2⟩:θ),s.1)) (fun s=>l.length-s.2.1.toNat) ?_ _ ⟨0,rfl,by omega,⟨h,hf,Nat.le_refl _,hs⟩,rfl⟩;rintro ⟨q,s1,N,X,C⟩ ⟨n,e1,hn,hG,e2⟩;dsimp only at e1 hG e2;subst e1;unfold EA;dsimp only;by_cases Φ:n<l.length
  ·have hx:=bF Φ
   have fT:l.take (n+1)=l.take n++[l[n]]:=by rw [oX,hx];rfl
   have Bc:(l.take (n+1)).foldl (mQ c) (t,l)=mQ c ((⟨N,X,C⟩:θ),q) l[n]:=by rw [fT,G6,e2];rfl
   have hG':=TQ hG c l[n];refine ε.cond (by simpa using Φ) (ε.bind (R:=fun v=>v=((mQ c ((⟨N,X,C⟩:θ),q) l[n]).2,(mQ c ((⟨N,X,C⟩:θ),q) l[n]).1.η,(mQ c ((⟨N,X,C⟩:θ),q) l[n]).1.Next,(mQ c ((⟨N,X,C⟩:θ),q) l[n]).1.aj)) (ε.af (cq hx) ?_) fun v hv=>?_)
   ·unfold mQ;by_cases e:(l[n].aW==c)=true
    ·simp only [if_pos e];have oH:=hG.l;dsimp only at oH;exact ε.af (Wu (t:=⟨N,X,C⟩) hG.r.s hG.f hB (by omega) c _) (ε.ret rfl)
    ·simp only [if_neg e];exact ε.ret rfl
   ·subst hv;refine ε.Ψ (by unfold Ξ;omega) (ε.inl ⟨⟨n+1,by dsimp only;omega,Φ,?_,?_⟩,by dsimp only;omega⟩)
    ·exact hG'
    ·rw [Bc]
  ·have:n=l.length:=by omega
   subst this;rw [jr] at e2;exact ε.cD (by simp) (ε.out (ε.ret (by rw [e2])))
 exact ε.bind key fun v hv=>ε.ret (by rw [hv])
end
end
section
def j6 (l:List aA):Prop:=l.Pairwise fun a b=>a.κ<b.κ
def cQ (i:Int) (x:aA):Int:=gX x.κ i
def Wc {l:List aA} (h:j6 l) (i:Int):Mon (cQ i) l:=fun j k x y pC hx hy hc=>by
 obtain ⟨h1,rfl⟩:=fk.1 hx;obtain ⟨h2,rfl⟩:=fk.1 hy;have:=vJ.1 h j k h1 h2 pC;unfold cQ at *;rw [jx] at *;omega
def qf (l:List aA) (i:Int):Bool:=l.any fun q=>q.κ==i
def L7 {i:Int}:∀{l:List aA},j6 l→fH (cQ i) l=qf l i
 |[],_=>rfl
 |x::l,h=>by
  have h2:=(eK.1 h).2;have h1:=(eK.1 h).1;unfold qf;rw [List.any_cons];by_cases hx:cQ i x<0
  ·rw [yf hx,L7 h2];have:x.κ<i:=jx.1 hx;rw [beq_eq_false_iff_ne.2 (by omega),CZ];rfl
  ·rw [yg hx];have gv:¬x.κ<i:=fun h=>hx (jx.2 h);by_cases he:x.κ=i
   ·rw [show (cQ i x==0)=true from ym.2 he,show (x.κ==i)=true by simpa using he];rfl
   ·rw [show (cQ i x==0)=false from ic.2 fun h=>he (ym.1 h),beq_eq_false_iff_ne.2 he,CZ];symm;rw [p0];intro y hy;have:=h1 y hy;simp;omega
def Pg {l:List aA} (h:j6 l) (hl:l.length≤1000000) (i:Int):B8 l i=some ((c9 (cQ i) l:Int),qf l i):=by
 have hb:=HB (C:=fun x=>zS x i) (c:=cQ i) (l:=l) (fun x _=>by unfold zS;rw [xp];rfl) (Wc h i) hl;unfold B8;show ((Dt (fun x=>zS x i) l).bind _)=_;rw [hb,L7 h];rfl
def oz (l:List ξ) (q:List aA):Nat→Int→Int
 |0,_=>0
 |f+1,i=>if qf q i=true then i else if i=1 then 0 else oz l q f (gD l i).Up
def abf {l:List ξ} {q:List aA} {i:Int} {d:Nat} (h:Deep l i d):∀{f:Nat},d≤f→oz l q (f+1) i=oz l q (d+1) i:=by
 induction h with
 |root=>intro f _;rw [oz,oz];simp
 |@step i n d h1 h2 h3 h4 ih =>
  intro f hf;cases f with
  |zero=>omega
  |succ f =>
   rw [oz,oz.eq_2 l q i (d+1)];have hg:gD l i=n:=jc h2;rw [hg,ih (by omega)]
def qX (l:List ξ) (q:List aA) (i:Int):Int:=oz l q 201 i
section
variable {B:Nat} {t:θ}
def aff {q:List aA} (hs:d_ t.η) (hn:t.η.length≤1000000) (hq:j6 q) (hl:q.length≤1000000) {i:Int} {d:Nat} (h:Deep t.η i d) (h0:∀n,n∈t.η→1≤n.κ):B5 t q i=some (oz t.η q (d+1) i):=by
 have key:∀{d:Nat} {i:Int},Deep t.η i d→loop (zT q t) (i,0)=some (oz t.η q (d+1) i):=by
  intro d i h;induction h with
  |root =>
   have hp:=Pg hq hl 1;refine nT ?_;unfold zT B6;rw [oz];simp only [hp,cm];cases qf q 1<;>simp [Cat.out]
  |@step i n d h1 h2 h3 h4 ih =>
   have hp:=Pg hq hl i;have hi:=h0 n (dQ h2).1;rw [(dQ h2).2] at hi;rw [oz];by_cases hh:qf q i=true
   ·rw [if_pos hh];refine nT ?_;unfold zT B6;simp only [hp,cm,hh,if_true];rw [show (i==0)=false by simp;omega];rfl
   ·rw [if_neg hh,if_neg h1,jc h2];refine (tj ?_).trans ih;unfold zT B6;have hg:=tu hs hn i;simp only [hp,cm,ic.2 hh,kC,if_false,hg];rw [show ((0:Int)==0)=true from rfl];simp only [if_true,cm,show (i != 1)=true by simpa using h1,jc h2]
 unfold B5 JY Xq;rw [key h];rfl
abbrev kH:=List (Int×Bool)
def rE (m:kH) (j:Int):Prop:=(bt j m).isSome=true
def Je {m:kH} {j:Int}:rE m j↔∃p,p∈m∧p.1=j:=Jp
structure SM (m:kH):Prop where
 k:(m.map (·.1)).Pairwise (·≠·)
 r:∀p,p∈m→0≤p.1∧p.1<5000
 v:∀p,p∈m→p.2=true
def SM.ml {m:kH} (h:SM m):m.length≤5000:=by
 have:=E2 5000 (m.map (·.1)) h.k fun x hx=>by
  obtain ⟨p,hp,rfl⟩:=dq.1 hx;exact h.r p hp
 rw [ax] at this;exact this
def V_ {α:Type} {i:Int} {v:α}:∀{l:List (Int×α)},bt i l=some v→(i,v)∈l
 |[],h=>by cases h
 |(k,c)::r,h=>by
  simp only [bt] at h;by_cases e:k=i
  ·rw [if_pos e] at h;cases h;rw [e];simp
  ·rw [if_neg e] at h;exact cj _ (V_ h)
def SM.get {m:kH} (h:SM m) (j:Int):(bt j m).getD false=(bt j m).isSome:=by
 cases e:bt j m with
 |none=>rfl
 |some b=>exact h.v _ (V_ e)
def SM.set {m:kH} (h:SM m) {i:Int} (hi:¬rE m i) (hr:0≤i∧i<5000):cO i true m=m++[(i,true)]∧SM (m++[(i,true)]):=by
 rcases BL i true m with ⟨h1,h2,h3⟩|⟨j,c,h1,h2,_⟩
 ·refine ⟨h2,?_,fun p hp=>?_,fun p hp=>?_⟩
  ·rw [eI];refine vI.2 ⟨h.k,List.pairwise_singleton _ _,fun a ha b hb=>?_⟩;obtain ⟨p,hp,rfl⟩:=dq.1 ha;simp at hb;rw [hb];exact h3 p hp
  ·rcases gp.1 hp with hp|hp
   ·exact h.r p hp
   ·obtain rfl:=dB.1 hp;exact hr
  ·rcases gp.1 hp with hp|hp
   ·exact h.v p hp
   ·obtain rfl:=dB.1 hp;rfl
 ·exact absurd (by unfold rE;rw [h2];rfl) hi
def dl (t:θ) (i:Int):Nat:=(gD t.η i).az.length
def pR (t:θ) (l:kH):Nat:=(l.map fun p=>dl t p.1).sum
def AG (t:θ) (E:List aP) (b:Int) (m:kH) (r:List ξ×Int×Int×Int×kH):Prop :=
 r.1=t.η∧r.2.1=t.Next∧r.2.2.1=t.aj∧∃new,r.2.2.2.2=m++new∧SM (m++new)∧r.2.2.2.1=b+(pR t new:Int) ∧
  (∀p,p∈new→∃e,e∈E∧l5 (gN t.η) e.κ p.1)∧(∀e,e∈E→rE (m++new) e.κ)∧∀p,p∈new→∀e,e∈(gD t.η p.1).Ω→rE (m++new) e.κ
structure UT (t:θ):Prop where
 s:d_ t.η
 n:t.η.length≤1000000
 d:∀i,dl t i≤4096
 e:∀i e,e∈(gD t.η i).Ω→0≤e.κ∧e.κ<5000
 l:∀i,(gD t.η i).Ω.length≤1000000
def aiw (h:UT t) (l:kH):pR t l≤4096*l.length:=by
 induction l with
 |nil=>exact Nat.le_refl _
 |cons p l ih =>
  unfold pR at ih ⊢;have:=h.d p.1;simp only [List.map_cons,List.sum_cons,cZ];omega
def Yv (t:θ) (a b:kH):pR t (a++b)=pR t a+pR t b:=by unfold pR;simp
abbrev UF:=(Int×θ×Int×kH)→Option (List ξ×Int×Int×Int×kH)
def aiH {f:UF} (h:UT t) {n:Nat} (hf:∀i b m,SM m→5000-m.length<n→0≤b∧b≤4096*(m.length:Int)→0≤i∧i<5000→ε (f (i,t,b,m)) (AG t (gD t.η i).Ω (b+(dl t i:Int)) m))
  {i b:Int} {m:kH} (hm:SM m) (hn:5000-m.length<n+1) (hb:0≤b∧b≤4096*(m.length:Int)):ε (tD f i t b m) (AG t (gD t.η i).Ω (b+(dl t i:Int)) m):=by
 have jC:=hm.ml;have hdi:=h.d i;unfold tD;refine ε.af (tu h.s h.n i) ?_;show ε (Ψ (Ξ (b+(dl t i:Int))) (Fx (gD t.η i,(gN t.η i).isSome) f (0,t.η,t.Next,t.aj,b+(dl t i:Int),m))) _;refine ε.Ψ (by unfold Ξ;omega) ?_;unfold Fx;generalize hE:(gD t.η i).Ω=E;have hEl:E.length≤1000000:=hE▸h.l i;have hEr:∀e,e∈E→0≤e.κ∧e.κ<5000:=fun e he=>h.e i e (by rw [hE];exact he)
 have ep:0≤b+(dl t i:Int)∧b+(dl t i:Int)≤4096*((m.length:Int)+1):=by omega
 generalize b+(dl t i:Int)=b0 at ep ⊢;refine ε.loop (fun s:Int×List ξ×Int×Int×Int×kH=>∃k:Nat,s.1=(k:Int)∧k≤E.length∧AG t (E.take k) b0 m s.2) (fun s=>E.length-s.1.toNat) ?_ _ ⟨0,rfl,by omega,rfl,rfl,rfl,[],by simp,by simpa using hm,by simp [pR],fun p hp=>(by cases hp),fun e he=>(by simp at he),fun p hp=>(by cases hp)⟩;rintro ⟨s0,N,X,C,bs,ms⟩ ⟨k,e1,hk,g1,g2,g3,new,g4,g5,g6,g7,g8,g9⟩;dsimp only at e1 g1 g2 g3 g4 g6;subst e1;subst g1;subst g2;subst g3;subst g4;subst g6;unfold zR;dsimp only;rw [hE];by_cases Φ:k<E.length
 ·have hx:=bF Φ
  have fT:E.take (k+1)=E.take k++[E[k]]:=by rw [oX,hx];rfl
  have hr:=hEr _ (ek Φ);have wU:=g5.ml;have hsd:=aiw h new;rw [cP] at wU;refine ε.cond (by simpa using Φ) (ε.bind (R:=fun v=>AG t (E.take (k+1)) b0 m v) (ε.af (cq hx) (ε.af rfl ?_)) fun v hv=>ε.Ψ (by unfold Ξ;omega) (ε.inl ⟨⟨k+1,by dsimp only;omega,Φ,hv⟩,by dsimp only;omega⟩));rw [g5.get];by_cases hK:rE (m++new) E[k].κ
  ·have yE:(bt E[k].κ (m++new)).isSome=true:=hK;refine ε.cD (by rw [yE];simp) (ε.ret ⟨rfl,rfl,rfl,new,rfl,g5,rfl,fun p hp=>?_,fun e he=>?_,g9⟩)
   ·obtain ⟨e,he,hr⟩:=g7 p hp;exact ⟨e,by rw [fT];exact qM _ he,hr⟩
   ·rw [fT] at he
    rcases gp.1 he with he|he
    ·exact g8 e he
    ·obtain rfl:=dB.1 he;exact hK
  ·obtain ⟨q1,q2⟩:=g5.set hK hr;have yE:¬(bt E[k].κ (m++new)).isSome=true:=hK
   have oH:(m++new++[(E[k].κ,true)]).length=m.length+new.length+1:=by simp;omega
   have mW:=q2.ml;rw [oH] at mW;refine ε.cond (by simpa using yE) (ε.Ψ ⟨by unfold Ξ;omega,by simp only [cP];omega⟩ ?_);rw [q1];refine ε.bind (hf E[k].κ (b0+(pR t new:Int)) (m++new++[(E[k].κ,true)]) q2 (by rw [oH];omega) (by rw [oH];omega) hr) ?_;rintro ⟨N',X',C',b',m'⟩ ⟨u1,u2,u3,Fb,u4,u5,u6,u7,u8,u9⟩;dsimp only at u1 u2 u3 u4 u6;subst u1;subst u2;subst u3;subst u4;subst u6
   have Ek:m++new++[(E[k].κ,true)]++Fb=m++(new++[(E[k].κ,true)]++Fb):=by simp
   have ke:∀j,rE (m++new) j→rE (m++(new++[(E[k].κ,true)]++Fb)) j:=fun j hj=>by
    rw [Je] at *;obtain ⟨p,hp,e⟩:=hj;refine ⟨p,?_,e⟩;rw [←Ek];simp only [gp] at *;exact .inl (.inl hp)
   have adu:rE (m++(new++[(E[k].κ,true)]++Fb)) E[k].κ:=Je.2 ⟨(E[k].κ,true),by simp,rfl⟩;refine ε.ret ⟨rfl,rfl,rfl,new++[(E[k].κ,true)]++Fb,Ek,Ek▸u5,?_,fun p hp=>?_,fun e he=>?_,fun p hp e he=>?_⟩
   ·dsimp only;rw [Yv,Yv]
    have:pR t [(E[k].κ,true)]=dl t E[k].κ:=by simp [pR]
    rw [this];omega
   ·rcases gp.1 hp with hp|hp
    ·rcases gp.1 hp with hp|hp
     ·obtain ⟨e,he,hr⟩:=g7 p hp;exact ⟨e,by rw [fT];exact qM _ he,hr⟩
     ·obtain rfl:=dB.1 hp;exact ⟨E[k],by rw [fT];exact vH _ (dB.2 rfl),.refl⟩
    ·obtain ⟨e,he,hr⟩:=u7 p hp;refine ⟨E[k],by rw [fT];exact vH _ (dB.2 rfl),?_⟩
     have iE:gN t.η E[k].κ=some (gD t.η E[k].κ):=by
      unfold gD at he ⊢;cases hg:gN t.η E[k].κ with
      |none=>rw [hg] at he;cases he
      |some n=>rfl
     exact l5.trans (.step .refl iE he) hr
   ·rw [fT] at he
    rcases gp.1 he with he|he
    ·exact ke _ (g8 e he)
    ·obtain rfl:=dB.1 he;exact adu
   ·rcases gp.1 hp with hp|hp
    ·rcases gp.1 hp with hp|hp
     ·exact ke _ (g9 p hp e he)
     ·obtain rfl:=dB.1 hp;exact Ek▸u8 e he
    ·exact Ek▸u9 p hp e he
 ·have:k=E.length:=by omega
  subst this;rw [jr] at g7 g8;exact ε.cD (by simp) (ε.out (ε.ret ⟨rfl,rfl,rfl,new,rfl,g5,rfl,g7,g8,g9⟩))
noncomputable def LR:UF→UF:=fun f a=>tD f a.1 a.2.1 a.2.2.1 a.2.2.2
def aav:Hj LR:=fun f g h a r hr=>aeE f g (fun a r=>h a r) a.1 a.2.1 a.2.2.1 a.2.2.2 r hr
def YK (h:UT t):∀(n:Nat) (i b:Int) (m:kH),SM m→5000-m.length<n→0≤b∧b≤4096*(m.length:Int)→ε (qx LR n (i,t,b,m)) (AG t (gD t.η i).Ω (b+(dl t i:Int)) m)
 |0,_,_,_,_,hn,_=>by omega
 |n+1,i,b,m,hm,hn,hb=>by
  show ε (tD (qx LR n) i t b m) _;exact aiH h (fun i b m h1 h2 h3 _=>YK h n i b m h1 h2 h3) hm hn hb
def aiI (h:UT t) (i:Int):ε (JX i t 0 []) (AG t (gD t.η i).Ω (0+(dl t i:Int)) []):=by
 obtain ⟨r,h1,h2⟩:=YK h 5001 i 0 [] ⟨j1,fun p hp=>(by cases hp),fun p hp=>(by cases hp)⟩ (by simp) (by simp);exact ⟨r,Tu aav h1,h2⟩
def LU (t:θ) (i:Int) (r:Int×Int):Prop :=
 if (gD t.η i).τ=2 then ∃m:kH,SM m∧r=((m.length:Int),(dl t i:Int)+(pR t m:Int))∧∀j,rE m j↔∃e,e∈(gD t.η i).Ω∧l5 (gN t.η) e.κ j
 else r=(0,0)
def afP (h:UT t) (i:Int):ε (xf t i) (LU t i):=by
 unfold xf LU
 have kY:(gN t.η i).isSome=false→(gD t.η i).τ≠2:=fun hg=>by
  unfold gD;cases hx:gN t.η i with
  |none=>simp [jX]
  |some n=>rw [hx] at hg;cases hg
 refine ε.bind (R:=fun v:Int×kH=>if (gD t.η i).τ=2 then ∃m:kH,SM m∧v=((dl t i:Int)+(pR t m:Int),m)∧∀j,rE m j↔∃e,e∈(gD t.η i).Ω∧l5 (gN t.η) e.κ j else v=(0,[])) (ε.af (tu h.s h.n i) ?_) fun v hv=>ε.ret ?_
 ·dsimp only
  refine ε.bind (R:=(·=decide ((gD t.η i).τ=2))) (ε.bind (R:=(·=decide ((gD t.η i).τ=2))) (ε.ite (fun _=>ε.ret (by rw [vB];simp)) fun e=>ε.ret (by
   symm;rw [decide_eq_false_iff_not];exact kY (ic.2 e))) fun v hv=>ε.ret hv) fun v hv=>?_
  subst hv;by_cases hk:(gD t.η i).τ=2
  ·simp only [hk,if_true,decide_true];refine ε.bind (aiI h i) ?_;rintro ⟨N,X,C,b,m'⟩ ⟨u1,u2,u3,new,u4,u5,u6,u7,u8,u9⟩;rw [List.nil_append] at u4 u5 u8 u9;dsimp only at u4 u6;subst u4;refine ε.ret ⟨m',u5,?_,fun j=>⟨fun hj=>?_,fun hj=>?_⟩⟩
   ·dsimp only;rw [u6];congr 1;omega
   ·obtain ⟨p,hp,e⟩:=Je.1 hj;rw [←e];exact u7 p hp
   ·obtain ⟨e,he,hr⟩:=hj;clear kY u7;induction hr with
    |refl=>exact u8 e he
    |step a b c ih =>
     obtain ⟨p,hp,e⟩:=Je.1 ih;rw [←e] at b;exact u9 p hp _ (by rw [jc b];exact c)
  ·simp only [hk,if_false,decide_false,kC];exact ε.ret rfl
 ·by_cases hk:(gD t.η i).τ=2
  ·rw [if_pos hk] at hv ⊢;obtain ⟨m,h1,h2,h3⟩:=hv;exact ⟨m,h1,by rw [h2],h3⟩
  ·rw [if_neg hk] at hv ⊢;rw [hv];rfl
end
end
section
section
variable {B:Nat} {t:θ}
def wv (l:List ξ) (i:Int):(∃n,gN l i=some n∧gD l i=n)∨(gN l i=none∧gD l i=jX):=by
 unfold gD;cases gN l i with
 |none=>exact .inr ⟨rfl,rfl⟩
 |some n=>exact .inl ⟨n,rfl,rfl⟩
def RT.data (h:RT t) {n:ξ} (hn:n∈t.η):n.az.length≤4096:=by
 rcases h.nd n hn with hf|⟨_,hd,_⟩
 ·exact hf.2.2.2.1
 ·rw [hd];simp
def RT.eR (h:RT t) {n:ξ} (hn:n∈t.η) {e:aP} (he:e∈n.Ω):1≤e.κ∧e.κ<t.Next:=by
 obtain ⟨x,hx⟩:=nt.1 (h.cl n hn e he);have:=h.lo x (dQ hx).1;rw [(dQ hx).2] at this;exact this
def RT.ut (h:RT t) (hf:TF B t) (hB:B≤4000):UT t:=by
 refine ⟨h.s,by have:=hf.n;omega,fun i=>?_,fun i e he=>?_,fun i=>by have:=hf.gE i;omega⟩
 ·unfold dl
  rcases wv t.η i with ⟨n,h1,h2⟩|⟨h1,h2⟩
  ·rw [h2];exact h.data (dQ h1).1
  ·rw [h2];exact lX _
 ·rcases wv t.η i with ⟨n,h1,h2⟩|⟨h1,h2⟩
  ·rw [h2] at he;have:=h.eR (dQ h1).1 he;have:=hf.x;omega
  ·rw [h2] at he;cases he
noncomputable def rS (t:θ) (i:Int):Int×Int:=(xf t i).getD (0,0)
def W8 (h:UT t) (i:Int):xf t i=some (rS t i)∧LU t i (rS t i):=by
 obtain ⟨r,h1,h2⟩:=afP h i;unfold rS;rw [h1];exact ⟨rfl,h2⟩
noncomputable def vk (t:θ) (l:List aA) (i n b:Int):List aA×Int :=
 if (!(gN t.η i).isSome)=true then (l,70) else if ((gD t.η i).τ != 2)=true then (l,73)
 else if decide (n<0)=true then (if qf l i=true then fY l (c9 (cQ i) l:Int) ((c9 (cQ i) l:Int)+1) else l,0)
 else if (decide ((rS t i).1>n)||decide ((rS t i).2>b))=true then (l,90)
 else if qf l i=true then (l.set (c9 (cQ i) l) ⟨i,n,b⟩,0)
 else if decide ((l.length:Int)≥16)=true then (l,76)
 else (dM l (c9 (cQ i) l:Int) [⟨i,n,b⟩],0)
def M7 {l:List aA} (h:j6 l) {i:Int} (hh:qf l i=true):∃q,l[c9 (cQ i) l]?=some q∧q.κ=i:=by
 rw [←L7 h] at hh;unfold fH at hh;cases hx:l[c9 (cQ i) l]? with
 |none=>rw [hx] at hh;cases hh
 |some q=>rw [hx] at hh;exact ⟨q,rfl,ym.1 hh⟩
def afM (h:RT t) (hf:TF B t) (hB:B≤4000) {l:List aA} (hq:j6 l) (hl:l.length≤1000000) (i n b:Int):B7 t l i n b=some (vk t l i n b):=by
 have hu:=h.ut hf hB;refine ε.eq ?_;unfold B7 vk;refine ε.af (tu hu.s hu.n i) ?_;dsimp only;have hk:=Ds (cQ i) l;refine ε.eG (fun _=>ε.ret rfl) fun _=>ε.eG (fun _=>ε.ret rfl) fun _=>ε.af (Pg hq hl i) ?_;dsimp only;refine ε.eG (fun _=>?_) fun _=>?_
 ·refine ε.bind (R:=(·=if qf l i=true then fY l (c9 (cQ i) l:Int) ((c9 (cQ i) l:Int)+1) else l)) (ε.eG (fun hh=>?_) fun _=>ε.ret rfl) fun v hv=>ε.ret (by rw [hv]);obtain ⟨q,h1,h2⟩:=M7 hq hh;have:=(fk.1 h1).1;exact ε.af (HI hl) (ε.Ψ (by unfold Ξ;omega) (ε.Ψ (by omega) (ε.ret rfl)))
 ·refine ε.af (W8 hu i).1 ?_;refine ε.bind (R:=(·=(decide ((rS t i).1>n)||decide ((rS t i).2>b)))) (ε.bind (R:=(·=(decide ((rS t i).1>n)||decide ((rS t i).2>b)))) (ε.ite (fun e=>ε.ret (by rw [e];rfl)) fun e=>ε.ret (by rw [ic.2 e];rfl)) fun v hv=>ε.ret hv) fun v hv=>?_;subst hv;refine ε.eG (fun _=>ε.ret rfl) fun _=>ε.eG (fun hh=>?_) fun _=>ε.eG (fun _=>ε.ret rfl) fun _=>?_
  ·obtain ⟨q,h1,h2⟩:=M7 hq hh;exact ε.af (HI hl) (ε.af (cq h1) (ε.ret (by rw [gU])))
  ·exact ε.af (HI hl) (ε.Ψ ⟨by omega,by omega,by simp,by simp only [cZ,gM];omega⟩ (ε.ret rfl))
def XP {l:List aA} (hq:j6 l) (hl:l.length≤16) (i n b:Int):j6 (vk t l i n b).1∧(vk t l i n b).1.length≤16:=by
 unfold vk;split
 ·exact ⟨hq,hl⟩
 split
 ·exact ⟨hq,hl⟩
 split
 ·dsimp only;split
  ·refine ⟨?_,?_⟩
   ·refine Z1 ?_ hq;unfold fY;rw [gU,show ((c9 (cQ i) l:Int)+1).toNat=c9 (cQ i) l+1 by omega]
    conv=>rhs;rw [←xH (c9 (cQ i) l) l]
    exact List.Sublist.append (List.Sublist.refl _) (List.drop_sublist_drop_left _ (by omega))
   ·unfold fY;simp only [cP,dN,lV];omega
  ·exact ⟨hq,hl⟩
 split
 ·exact ⟨hq,hl⟩
 split
 ·rename_i hh;obtain ⟨q,h1,h2⟩:=M7 hq hh;obtain ⟨Φ,h1⟩:=fk.1 h1;refine ⟨?_,by simp [hl]⟩;refine vJ.2 fun a c ha hc hac=>?_;have hp:=vJ.1 hq;simp only [List.length_set] at ha hc
  have hI:∀x (hx:x<l.length),((l.set (c9 (cQ i) l) ⟨i,n,b⟩)[x]'(by simpa using hx)).κ=l[x].κ:=fun x hx=>by
   rw [List.getElem_set];split
   ·rename_i e;subst e;rw [h1];exact h2.symm
   ·rfl
  rw [hI a ha,hI c hc];exact hp a c ha hc hac
 split
 ·exact ⟨hq,hl⟩
 ·rename_i h5 h6;have h5:qf l i=false:=ic.2 h5;rw [decide_eq_true_eq] at h6;refine ⟨Xe hq (fun y hy=>?_) fun y hy=>?_,?_⟩
  ·exact jx.1 (show cQ i y<0 from Yy hy)
  ·have h1:=S_ (Wc hq i) hy;have h1:¬y.κ<i:=fun h=>h1 (jx.2 h);have h2:=p0.1 h5 y (RQ hy);simp at h2;dsimp only;omega
  ·unfold dM;simp only [cP,dN,lV,cZ,gM];omega
def AS (t:θ) (q:List aA):List (Int×Int):=t.η.flatMap fun d=>d.Ω.map fun e=>(e.κ,qX t.η q d.κ)
def Sc (t:θ) (q:List aA):Prop:=∀j x y,(j,x)∈AS t q→(j,y)∈AS t q→(gD t.η j).τ=1→x=y
structure OI (t:θ) (p:List (Int×Int)) (M:List (Int×Int)):Prop where
 a:∀j x,bt j M=some x→(j,x)∈p
 b:∀j x,(j,x)∈p→(gD t.η j).τ=1→bt j M=some x
 l:M.length≤p.length
def OI.step {p M:List (Int×Int)} (h:OI t p M) {j x:Int} (hc:∀w,bt j M=some w→(gD t.η j).τ=1→w=x):OI t (p++[(j,x)]) (cO j x M):=by
 refine ⟨fun i y hy=>?_,fun i y hy hk=>?_,?_⟩
 ·rw [rI] at hy;by_cases e:i=j
  ·rw [if_pos e] at hy;cases hy;rw [e];simp
  ·rw [if_neg e] at hy;exact qM _ (h.a i y hy)
 ·rw [rI];by_cases e:i=j
  ·rw [if_pos e];subst e
   rcases gp.1 hy with hy|hy
   ·rw [hc y (h.b i y hy hk) hk]
   ·have:=dB.1 hy;cases this;rfl
  ·rw [if_neg e]
   rcases gp.1 hy with hy|hy
   ·exact h.b i y hy hk
   ·have:=dB.1 hy;cases this;exact absurd rfl e
 ·have:=E8 j x M;have:=h.l;rw [cP];simp;omega
def Xk (h:RT t) (q:List aA):∀(l:List ξ),(∀n,n∈l→n∈t.η)→(l.flatMap fun d=>d.Ω.map fun e=>(e.κ,qX t.η q d.κ)).length≤64*l.length
 |[],_=>by simp
 |n::l,hl=>by
  have ih:=Xk h q l fun m hm=>hl m (cj _ hm);have:=(h.en n (hl n (by simp))).n;rw [List.flatMap_cons,cP,ax,cZ];omega
def aga (h:RT t) (hf:TF B t) (hB:B≤4000) {q:List aA} (hq:j6 q) (oH:q.length≤1000000):ε (yw t q) (cR (Sc t q)):=by
 have hu:=h.ut hf hB;have hn:=hu.n;have hlen:=h.len;unfold yw TB;refine ε.loop (fun s:Int×List (Int×Int)=>∃k:Nat,s.1=(k:Int)∧k≤t.η.length∧OI t ((t.η.take k).flatMap fun d=>d.Ω.map fun e=>(e.κ,qX t.η q d.κ)) s.2) (fun s=>t.η.length-s.1.toNat) ?_ _ ⟨0,rfl,by omega,⟨fun j x hx=>(by cases hx),fun j x hx=>(by cases hx),by simp⟩⟩;rintro ⟨s0,M⟩ ⟨k,e1,hk,hO⟩;dsimp only at e1 hO;subst e1;unfold H_;dsimp only;by_cases Φ:k<t.η.length
 ·have hx:=bF Φ;have bC:=ek Φ
  have fT:t.η.take (k+1)=t.η.take k++[t.η[k]]:=by rw [oX,hx];rfl
  have uT:=Xk h q (t.η.take k) fun n hn=>Db hn;have MV:=(h.en _ bC).n;refine ε.cond (by simpa using Φ) (ε.af (cq hx) ?_);generalize hd:t.η[k]=d at *;by_cases hE:d.Ω.length=0
  ·refine ε.cond (by simp [hE]) ?_;unfold AZ;refine ε.Ψ (by unfold Ξ;omega) (ε.inl ⟨⟨k+1,by dsimp only;omega,Φ,?_⟩,by dsimp only;omega⟩);rw [fT,Z4];have hE':d.Ω=[]:=List.length_eq_zero_iff.1 hE
   have e0:([d].flatMap fun d=>d.Ω.map fun e=>(e.κ,qX t.η q d.κ))=[]:=by simp [hE']
   rw [e0,qJ];exact hO
  ·have fx:d.τ=2:=ZO fun fx=>hE (by rw [(W.file h bC fx).2.1];rfl);obtain ⟨dd,d1,d2,d3⟩:=h.dp d bC fx
   have acz:B5 t q d.κ=some (qX t.η q d.κ):=by
    rw [aff hu.s hn hq oH d1 (fun n hn=>(h.lo n hn).1)];unfold qX;rw [abf (f:=200) d1 (by omega)]
   refine ε.cD (by simpa using hE) (ε.af acz ?_);generalize hP:(t.η.take k).flatMap (fun d=>d.Ω.map fun e=>(e.κ,qX t.η q d.κ))=P at *;unfold TC
   have hPl:P.length≤12800:=by rw [dN] at uT;omega
   refine ε.loop (fun s:Int×List (Int×Int)=>∃j:Nat,s.1=(j:Int)∧j≤d.Ω.length∧OI t (P++(d.Ω.take j).map fun e=>(e.κ,qX t.η q d.κ)) s.2) (fun s=>d.Ω.length-s.1.toNat) ?_ _ ⟨0,rfl,by omega,by simpa using hO⟩;rintro ⟨s0,M'⟩ ⟨j,e1,hj,A6⟩;dsimp only at e1 A6;subst e1;unfold Ia;dsimp only;by_cases sY:j<d.Ω.length
   ·have lN:=bF sY;have Bp:=ek sY
    have I4:d.Ω.take (j+1)=d.Ω.take j++[d.Ω[j]]:=by rw [oX,lN];rfl
    have her:=h.eR bC Bp;have hMl:=A6.l;rw [cP,ax,dN] at hMl;have nP:=hf.x;generalize d.Ω[j]=e at *
    have M1:∀p,p∈P→p∈AS t q:=fun p hp=>by
     unfold AS;rw [←hP] at hp;obtain ⟨d',bH,hp⟩:=Lu.1 hp;exact Lu.2 ⟨d',Db bH,hp⟩
    have T1:∀e,e∈d.Ω→(e.κ,qX t.η q d.κ)∈AS t q:=fun e he=>Lu.2 ⟨d,bC,dq.2 ⟨e,he,rfl⟩⟩;refine ε.cond (by simpa using sY) (ε.af (cq lN) (ε.af (tu hu.s hn e.κ) (ε.af rfl ?_)));dsimp only;refine ε.bind (R:=(·=decide ((gD t.η e.κ).τ=1∧∃w,bt e.κ M'=some w∧w≠qX t.η q d.κ))) ?_ fun v hv=>?_
    ·refine ε.bind (R:=(·=decide ((gD t.η e.κ).τ=1∧(bt e.κ M').isSome=true))) (ε.ite (fun e'=>ε.ret ?_) fun e'=>ε.ret ?_) fun v hv=>ε.bind (R:=(·=decide ((gD t.η e.κ).τ=1∧∃w,bt e.κ M'=some w∧w≠qX t.η q d.κ))) ?_ fun v hv=>ε.ret hv
     ·have e':(gD t.η e.κ).τ=1:=by simpa using e'
      rw [vB,decide_eq_true_eq];simp [e']
     ·have e':¬(gD t.η e.κ).τ=1:=by simpa using e'
      symm;rw [decide_eq_false_iff_not];simp [e']
     ·subst hv;refine ε.ite (fun e'=>ε.ret ?_) fun e'=>ε.ret ?_
      ·rw [decide_eq_true_eq] at e';obtain ⟨w,hw⟩:=nt.1 e'.2;rw [vB,decide_eq_true_eq,hw];simp [e'.1]
      ·rw [decide_eq_true_eq] at e';symm;rw [decide_eq_false_iff_not];rintro ⟨h1,w,h2,h3⟩;exact e' ⟨h1,by rw [h2];rfl⟩
    ·subst hv;refine ε.ite (fun e'=>?_) fun e'=>?_
     ·rw [decide_eq_true_eq] at e';obtain ⟨e2,w,e3,e4⟩:=e';refine ε.out (ε.out (ε.ret ⟨fun h=>(by cases h),fun hO1=>?_⟩));exfalso;have kX:=A6.a _ _ e3;refine e4 (hO1 e.κ w _ ?_ (T1 e Bp) e2)
      rcases gp.1 kX with kX|kX
      ·exact M1 _ kX
      ·obtain ⟨e5,h5,h6⟩:=dq.1 kX;rw [←h6];exact T1 e5 (Db h5)
     ·rw [decide_eq_true_eq] at e';refine ε.Ψ ⟨by unfold Ξ;omega,by omega⟩ (ε.Ψ (by unfold Ξ;omega) (ε.inl ⟨⟨j+1,by dsimp only;omega,sY,?_⟩,by dsimp only;omega⟩));rw [I4,eI,←kD];exact A6.step fun w hw hk=>ZO fun hc=>e' ⟨hk,w,hw,hc⟩
   ·have:j=d.Ω.length:=by omega
    subst this;rw [jr] at A6;refine ε.cD (by simp) (ε.out ?_);unfold AZ;refine ε.Ψ (by unfold Ξ;omega) (ε.inl ⟨⟨k+1,by dsimp only;omega,Φ,?_⟩,by dsimp only;omega⟩);rw [fT,Z4,hP];simpa using A6
 ·have:k=t.η.length:=by omega
  subst this;rw [jr] at hO;unfold Ib;refine ε.cD (by simp) (ε.out (ε.ret ⟨fun _ j x y hx hy hk=>?_,fun _=>rfl⟩));have h1:=hO.b j x hx hk;have h2:=hO.b j y hy hk;rw [h1] at h2;exact Option.some.inj h2
end
end
section
def ε.OY {ρ:Type} {e:Int} {p:Int→Option ρ} {k:Unit→Option ρ} {Q:ρ→Prop} (h0:e=0→ε (k ()) Q) (h1:e≠0→ε (p e) Q):ε ((iu e).bind fun x=>bO x p k) Q:=by
 unfold iu;by_cases he:e=0
 ·rw [if_neg (by simp [he])];exact h0 he
 ·rw [if_pos (by simpa using he)];exact h1 he
def ε.check {ρ:Type} {b:Bool} {e:Int} {p:Int→Option ρ} {k:Unit→Option ρ} {Q:ρ→Prop} (he:e≠0) (h0:b=true→ε (k ()) Q) (h1:b=false→ε (p e) Q):ε ((pr b e).bind fun x=>bO x p k) Q:=by
 unfold pr iu;cases b with
 |true=>rw [if_neg (by simp)];exact h0 rfl
 |false=>rw [if_pos (by simp),if_pos (by simpa using he)];exact h1 rfl
section
variable {B:Nat} {t:θ}
noncomputable def Ff (t:θ) (q:List aA):Bool:=(yw t q).getD false
def WY (h:RT t) (hf:TF B t) (hB:B≤4000) {q:List aA} (hq:j6 q) (oH:q.length≤1000000):yw t q=some (Ff t q)∧(Ff t q=true↔Sc t q):=by
 obtain ⟨r,h1,h2⟩:=aga h hf hB hq oH;unfold Ff;rw [h1];exact ⟨rfl,h2⟩
noncomputable def zI (t:θ) (q:aA):Bool:=!(decide ((rS t q.κ).1≤q.η)&&decide ((rS t q.κ).2≤q.vN))
def uB (l:List ay) (t:θ) (i:Int):θ:=if wE l i=true then t else (wq t i).1
def lP (t:θ) (l:List ay):θ:=((t.η.filter l_).map (·.κ)).foldl (uB l) t
def te (t:θ) (q:List aA):List aA:=q.filter fun x=>(gN t.η x.κ).isSome
noncomputable def xh (t:θ) (l:List ay) (q:List aA):Int⊕(θ×List aA) :=
 if (!Ff (lP t l) (te (lP t l) q))=true then .inl 91
 else if (te (lP t l) q).any (zI (lP t l))=true then .inl 90
 else .inr (lP t l,te (lP t l) q)
structure RF (B:Nat) (t:θ):Prop where
 r:RT t
 f:TF B t
def RF.fr (h:RF B t) (l:List ay) (i:Int):RF B (uB l t i):=by
 unfold uB;split
 ·exact h
 ·exact ⟨h.r.free i,h.f.TA i⟩
def RF.MG (l:List ay):∀(o:List Int) {t:θ},RF B t→RF B (o.foldl (uB l) t)
 |[],_,h=>h
 |i::o,_,h=>RF.MG l o (h.fr l i)
def RF.settle (h:RF B t) (l:List ay):RF B (lP t l):=RF.MG l _ h
def V0 (t:θ) {q:List aA} (hq:j6 q):j6 (te t q)∧(te t q).length≤q.length:=⟨List.Pairwise.filter _ hq,mh _ _⟩
def af5 (h:d_ t.η) (hn:t.η.length≤1000000) {q:List aA} (hl:q.length≤1000000):Ky q t=some (te t q):=by
 have hd:=SY (C:=fun x=>D3 x t) (p:=fun x=>!(gN t.η x.κ).isSome) (l:=q) (z:=⟨0,0,0⟩) (fun x _=>by
  unfold D3
  rw [tu h hn];rfl) hl
 have e:(q.filter fun x=>!!(gN t.η x.κ).isSome)=te t q:=by unfold te;congr 1;funext x;simp
 rw [e] at hd;exact hd
def SI.JR {k:Nat} {s:bx} (h:SI k s) (hk:k≤200) {t:θ} (ht:d_ t.η) (hf:TF (2+5*k+5) t):PF (2+5*k+5) s t :=
 ⟨h.f.up (by omega),hf,by omega,h.t.s,ht,h.si,by have:=h.tk;omega,by have:=h.ps;omega,by have:=h.ta;omega⟩
def agk {k:Nat} {s:bx} (hs:SI k s) (hk:k≤60) (h:RF (2+5*k+5) t) {H:List ay} (hH:H.length≤1000) {q:List aA} (hq:j6 q) (oH:q.length≤1000) (q0:List aA) (xU xV:Int) (a12 xW:List UInt8) (xX xY xZ:Int) (a17:List UInt8) (x_ ya a20 a21 a22:Int) :
  qe t q s.Γ.η s.Γ.Next s.Γ.aj s.aY s.aU s.aO s.aR s.Next H q0 xU xV a12 xW xX xY xZ a17 x_ ya a20 a21 a22=some ((xh t H q).map id fun z=>((fb s z.1).Γ.η,(fb s z.1).Γ.Next,(fb s z.1).Γ.aj,(fb s z.1).aY,(fb s z.1).aU,(fb s z.1).aO,(fb s z.1).aR,(fb s z.1).Next,z.2)):=by
 have hn:=h.f.n;refine ε.eq ?_;unfold qe;refine ε.af (a:=((lP t H).η,(lP t H).Next,(lP t H).aj)) ?_ ?_
 ·refine ε.eq (ε.af (afI (by omega)) ?_);unfold TG lP;generalize hO:(t.η.filter l_).map (·.κ)=O
  have hOl:O.length≤1000000:=by rw [←hO,ax];exact fo (mh _ _) (by omega)
  refine ε.loop (fun s:Int×List ξ×Int×Int=>∃j:Nat,s.1=(j:Int)∧j≤O.length∧(O.take j).foldl (uB H) t=⟨s.2.1,s.2.2.1,s.2.2.2⟩) (fun s=>O.length-s.1.toNat) ?_ _ ⟨0,rfl,by omega,rfl⟩;rintro ⟨s0,N,X,C⟩ ⟨j,e1,hj,e2⟩;dsimp only at e1 e2;subst e1;have hR:RF (2+5*k+5) (⟨N,X,C⟩:θ):=e2▸RF.MG H (O.take j) h;unfold Ij;dsimp only;by_cases Φ:j<O.length
  ·have hx:=bF Φ
   have fT:O.take (j+1)=O.take j++[O[j]]:=by rw [oX,hx];rfl
   have Bc:(O.take (j+1)).foldl (uB H) t=uB H ⟨N,X,C⟩ O[j]:=by rw [fT,G6,e2];rfl
   refine ε.cond (by simpa using Φ) (ε.bind (R:=fun v=>(⟨v.1,v.2.1,v.2.2⟩:θ)=uB H ⟨N,X,C⟩ O[j]) (ε.af (cq hx) (ε.af (af4 H _ (by omega)) ?_)) fun v hv=>ε.Ψ (by unfold Ξ;omega) (ε.inl ⟨⟨j+1,by dsimp only;omega,Φ,?_⟩,by dsimp only;omega⟩))
   ·unfold uB;by_cases e:wE H O[j]=true
    ·simp only [if_pos e];exact ε.cD (by simp [e]) (ε.ret rfl)
    ·simp only [if_neg e];exact ε.cond (by simpa using e) (ε.af (Ww hR.r.s hR.f (by omega) _) (ε.ret rfl))
   ·rw [Bc];exact hv.symm
  ·have:j=O.length:=by omega
   subst this;rw [jr] at e2;exact ε.cD (by simp) (ε.out (ε.ret (by rw [e2])))
 have hR:=h.settle H;unfold xh;generalize lP t H=T at *;have hnT:=hR.f.n;dsimp only;refine ε.af (HI (by omega)) (ε.af (af5 (t:=T) hR.r.s (by omega) (by omega)) ?_);obtain ⟨k1,k2⟩:=V0 T hq;generalize te T q=Q at *;refine ε.af (WY hR.r hR.f (by omega) k1 (by omega)).1 ?_;refine ε.check (by decide) (fun hb=>?_) fun hb=>?_;rotate_left
 ·rw [hb,if_pos (by rfl)];exact ε.ret rfl
 rw [hb,if_neg (by simp)];unfold TH;have hu:=hR.r.ut hR.f (by omega);refine ε.loop (fun n:Int=>∃j:Nat,n=(j:Int)∧j≤Q.length∧(Q.take j).any (zI T)=false) (fun n=>Q.length-n.toNat) ?_ _ ⟨0,rfl,by omega,rfl⟩;rintro n ⟨j,rfl,hj,bw⟩;unfold Ik;by_cases Φ:j<Q.length
 ·have hx:=bF Φ
  have fT:Q.take (j+1)=Q.take j++[Q[j]]:=by rw [oX,hx];rfl
  refine ε.cond (by simpa using Φ) (ε.af (cq hx) (ε.af (W8 (t:=T) hu Q[j].κ).1 ?_));refine ε.bind (R:=(·=!zI T Q[j])) ?_ fun v hv=>?_
  ·unfold zI;rw [Bool.not_not];exact ε.ite (fun e=>ε.ret (by rw [e];rfl)) fun e=>ε.ret (by rw [ic.2 e];rfl)
  subst hv;refine ε.check (by decide) (fun ho=>?_) fun ho=>?_
  ·have ho:zI T Q[j]=false:=by simpa using ho
   unfold Im;refine ε.Ψ (by unfold Ξ;omega) (ε.inl ⟨⟨j+1,by omega,Φ,?_⟩,by omega⟩);rw [fT,List.any_append,bw];simp [ho]
  ·have ho:zI T Q[j]=true:=by simpa using ho
   have:Q.any (zI T)=true:=C7.2 ⟨_,ek Φ,ho⟩;rw [this,if_pos rfl];exact ε.out (ε.ret rfl)
 ·have:j=Q.length:=by omega
  subst this;rw [jr] at bw;refine ε.cD (by simp) (ε.out ?_);unfold Il;rw [bw];have hp:=O' (hs.JR (by omega) hR.r.s hR.f);refine ε.af (x:=tK s T) hp (ε.ret ?_);rfl
end
abbrev eb {α:Type} (F:List ξ→Int→Int→Int→List Int→List bp→List bb→Int→List ay→List aA→Int→Int→List UInt8→List UInt8→Int→Int→Int→List UInt8→Int→Int→Int→Int→Int→α) (f:dh) (o:bN):α:=F f.S.Γ.η f.S.Γ.Next f.S.Γ.aj f.S.aY f.S.aU f.S.aO f.S.aR f.S.Next f.Holds f.bc o.τ o.aW o.cF o.To o.N o.M o.bY o.az 0 0 0 0 0
abbrev s8 {β:Type} (s:bx) (r:β):=(s.Γ.η,s.Γ.Next,s.Γ.aj,s.aY,s.aU,s.aO,s.aR,s.Next,r)
end
section
section
variable {B:Nat} {t:θ}
def AE (t:θ) (i a b:Int) (r:List aP×Int×Int):Prop :=
 if (decide (a<0)||decide (b<1)||decide (b>64))=true then r=([],0,1)
 else if ((dF t.η i).2 != 0)=true then r=([],0,(dF t.η i).2)
 else ∃L:List aP,L.Perm ((dF t.η i).1.Ω.filter fun e=>!decide (e.aj<a))∧L.Pairwise (fun x y=>¬y.aj<x.aj) ∧
  (if (L.length:Int)≤b then r=(L,0,0) else ∃x,L[(b-1).toNat]?=some x∧r=(L.take b.toNat,x.aj+1,0))
def afD (h:ST B t) (hB:B≤90000) {i:Int} (hk:(dF t.η i).1.Ω.Pairwise fun a b=>a.aj≠b.aj) (hc:∀e,e∈(dF t.η i).1.Ω→0≤e.aj∧e.aj≤1000000000000000) (a b:Int):ε (xr t i a b) (AE t i a b):=by
 have hE:=Mh h.f i;unfold xr AE
 refine ε.bind (R:=(·=(decide (a<0)||decide (b<1)||decide (b>64)))) (ε.bind (R:=(·=(decide (a<0)||decide (b<1)))) (ε.ite (fun e=>ε.ret (by rw [e];rfl)) fun e=>ε.ret (by rw [ic.2 e];rfl)) fun v hv=>ε.bind (R:=(·=(decide (a<0)||decide (b<1)||decide (b>64)))) (by
  subst hv
  exact ε.ite (fun e=>ε.ret (by rw [e];rfl)) fun e=>ε.ret (by rw [ic.2 e];rfl)) fun v hv=>ε.ret hv) fun v hv=>?_
 subst hv;by_cases h0:(decide (a<0)||decide (b<1)||decide (b>64))=true
 ·simp only [if_pos h0];exact ε.ret rfl
 simp only [if_neg h0];simp only [ug,decide_eq_true_eq,not_or] at h0;refine ε.af (JI h (by omega) i) ?_;dsimp only;by_cases h1:((dF t.η i).2 != 0)=true
 ·simp only [if_pos h1];exact ε.ret rfl
 simp only [if_neg h1];generalize (dF t.η i).1.Ω=E at *;have hd:=SY (C:=fun x=>KV x a) (p:=fun x=>decide (x.aj<a)) (l:=E) (z:=⟨[],0,0⟩) (fun x _=>rfl) (by omega);refine ε.af (sz (l:=E) (K:=32) (by omega)) (ε.af (x:=Kx E a) hd ?_);have hFl:(E.filter fun e=>!decide (e.aj<a)).length≤E.length:=mh _ _;obtain ⟨L,l1⟩:=Qu OS (k:=fun e:aP=>e.aj) (l:=E.filter fun e=>!decide (e.aj<a)) (hk.filter _);obtain ⟨l2,l3⟩:=Gq OS l1;refine ε.af (Ye (by omega) l1) ?_;have T2:=l2.length_eq
 have VU:L.Pairwise (fun x y=>¬y.aj<x.aj):=l3.imp fun h hc=>by have:=jx.1 h;omega
 by_cases hle:(L.length:Int)≤b
 ·refine ε.cond (by simpa using hle) (ε.ret ⟨L,l2,VU,?_⟩);rw [if_pos hle]
 ·have hb:(b-1).toNat<L.length:=by omega
  have hx:=bF hb;have hm:L[(b-1).toNat]∈E:=(eD.1 (l2.mem_iff.1 (ek hb))).1;have eQ:=hc _ hm
  have e1:b-1=(((b-1).toNat:Nat):Int):=by omega
  refine ε.cD (by simpa using hle) (ε.Ψ ⟨by omega,by omega,by omega⟩ (ε.Ψ (by unfold Ξ;omega) ?_));refine ε.af (by rw [e1];exact cq hx) (ε.Ψ (by unfold Ξ;omega) (ε.ret ⟨L,l2,VU,?_⟩));rw [if_neg hle];exact ⟨_,hx,rfl⟩
noncomputable def rG (t:θ) (i a b:Int):List aP×Int×Int:=(xr t i a b).getD ([],0,0)
def RT.ck2 (h:RT t) (hf:TF B t) (hB:B≤90000) (i:Int):∀e,e∈(dF t.η i).1.Ω→0≤e.aj∧e.aj≤1000000000000000:=by
 intro e he
 have:(dF t.η i).1=gD t.η i∨(dF t.η i).1=jX:=by
  unfold dF;split
  ·split
   ·exact .inr rfl
   ·exact .inl rfl
  ·exact .inr rfl
 rcases this with h1|h1
 ·rw [h1] at he
  rcases wv t.η i with ⟨n,g1,g2⟩|⟨g1,g2⟩
  ·rw [g2] at he;have:=(h.en n (dQ g1).1).r e he;have:=hf.c;omega
  ·rw [g2] at he;cases he
 ·rw [h1] at he;cases he
def JJ (h:RT t) (hf:TF B t) (hB:B≤90000) (i a b:Int):xr t i a b=some (rG t i a b)∧AE t i a b (rG t i a b):=by
 have hk:(dF t.η i).1.Ω.Pairwise fun a b=>a.aj≠b.aj:=by
  unfold dF;split
  ·split
   ·exact j1
   ·rcases wv t.η i with ⟨n,g1,g2⟩|⟨g1,g2⟩
    ·rw [g2];exact (h.en n (dQ g1).1).k
    ·rw [g2];exact j1
  ·exact j1
 obtain ⟨r,h1,h2⟩:=afD (h.st hf) hB hk (h.ck2 hf hB i) a b;unfold rG;rw [h1];exact ⟨rfl,h2⟩
def WW {l:List aP} (hl:l.length≤1000000):yv l=some (l.map (·.aN)):=by
 have:MH l (0,[])=some (l.map (·.aN)):=by
  unfold MH;refine ε.eq ?_;refine ε.loop (fun s:Int×List (List UInt8)=>∃n:Nat,s.1=n∧n≤l.length∧s.2=(l.take n).map (·.aN)) (fun s=>l.length-s.1.toNat) ?_ _ ⟨0,rfl,by omega,rfl⟩;rintro ⟨s0,o⟩ ⟨n,e1,hn,e2⟩;dsimp only at e1 e2;subst e1;subst e2;unfold H9;dsimp only;by_cases Φ:n<l.length
  ·have hx:=bF Φ
   have fT:l.take (n+1)=l.take n++[l[n]]:=by rw [oX,hx];rfl
   refine ε.cond (by simpa using Φ) (ε.af (cq hx) (ε.Ψ (by simp only [ax,dN,cZ,gM];omega) (ε.Ψ (by unfold Ξ;omega) (ε.inl ⟨⟨n+1,by dsimp only;omega,Φ,?_⟩,by dsimp only;omega⟩))));dsimp only;rw [fT,eI];rfl
  ·have:n=l.length:=by omega
   subst this;exact ε.cD (by simp) (ε.out (ε.ret (by rw [jr])))
 unfold yv;rw [this];rfl
def FW (n:ξ):Int:=max (n.az.length:Int) (n.Ω.length:Int)
structure NB (n:ξ):Prop where
 i:0≤n.κ∧n.κ<5000
 e:∀e,e∈n.Ω→0≤e.κ∧e.κ<5000∧e.aN.length≤32
 l:n.Ω.length≤64
 d:n.az.length≤4096
 k:n.τ=1∨n.τ=2
 n:-100000≤n.a_∧n.a_≤100000
def RT.nb (h:RT t) (hf:TF B t) (hB:B≤4000) {n:ξ} (hn:n∈t.η):NB n:=by
 have h1:=h.lo n hn;have h2:=hf.x;have h3:=hf.l n hn;refine ⟨by omega,fun e he=>?_,(h.en n hn).n,h.data hn,(h.nd n hn).kind,by omega⟩;have h4:=h.eR hn he;have h5:=(BO ((h.en n hn).r e he).1).2.2;exact ⟨by omega,by omega,h5⟩
structure SK (s:bx):Prop where
 n:∀n,n∈s.Γ.η→NB n
 p:∀p,p∈s.aO→NB p.eL
 t:∀x,x∈s.aR→0≤x.κ∧x.κ<5000
section
variable {k:Nat} {s:bx}
def SK.TP (h:SK s) (a:Int):xP (allM s a)∧∀j n,bt j (allM s a)=some n→NB n:=by
 have key:∀j n,bt j (allM s a)=some n→NB n∧n.κ=j:=fun j n hg=>by
  unfold allM at hg
  rcases O4 a j n _ _ hg with ⟨q,h1,h2,h3,h4⟩|hg
  ·rw [←h2];exact ⟨h.n q.1 (Lv h1).1,by rw [h2];exact h3⟩
  ·rcases Pk a j n _ _ hg with ⟨p,h1,h2,h3,h4⟩|hg
   ·rw [←h2];exact ⟨h.p p h1,by rw [h2];exact h3⟩
   ·cases hg
 exact ⟨⟨fun j n hg=>(key j n hg).2,fun j n hg e he=>by have:=(key j n hg).1.e e he;exact ⟨this.1,this.2.1⟩,fun j n hg=>by have:=(key j n hg).1.l;omega⟩,fun j n hg=>(key j n hg).1⟩
noncomputable def yd (s:bx) (i:Int):Int×List ξ×Int:=(xi s i).getD (0,[],0)
def afe (hs:SI k s) (hk:k≤100) (h:SK s) (i:Int):xi s i=some (yd s i)∧(∀n,n∈(yd s i).2.1→NB n)∧(yd s i).2.1.length≤5000∧Ξ (yd s i).1∧Ξ (yd s i).2.2:=by
 have hT:ε (xi s i) (fun r=>(∀n,n∈r.2.1→NB n)∧r.2.1.length≤5000∧Ξ r.1∧Ξ r.2.2):=by
  unfold xi XU;have wW:=hs.ta;refine ε.loop (fun n:Int=>∃j:Nat,n=(j:Int)∧j≤s.aR.length) (fun n=>s.aR.length-n.toNat) ?_ _ ⟨0,rfl,by omega⟩;rintro n ⟨j,rfl,hj⟩;unfold Ki;by_cases Φ:j<s.aR.length
  ·have hx:=bF Φ;refine ε.cond (by simpa using Φ) (ε.af (cq hx) (ε.ite (fun _=>?_) fun _=>ε.Ψ (by unfold Ξ;omega) (ε.inl ⟨⟨j+1,by omega,Φ⟩,by omega⟩)));have N4:=hs.ps;have dK:=hs.f.n;have jF:=h.t _ (ek Φ);obtain ⟨g1,g2⟩:=h.TP s.aR[j].At;refine ε.bind (afZ s s.aR[j] (by omega) (fun p hp=>by have:=(h.p p hp).i;unfold Ξ;omega) (by omega) hs.si (fun n hn=>by have:=(h.n n hn).i;unfold Ξ;omega) g1 jF) fun r hr=>ε.out (ε.ret ?_);obtain ⟨h1,h2,-⟩:=hr;have T4:∀n,n∈r.1→NB n:=fun n hn=>g2 _ _ ((h2 n).1 hn).2;refine ⟨T4,?_,by unfold Ξ;dsimp only;omega,by unfold Ξ;dsimp only;omega⟩
   have:=E2 5000 (r.1.map (·.κ)) (by rw [List.pairwise_map];exact h1.imp fun h=>by omega) fun x hx=>by
    obtain ⟨n,hn,rfl⟩:=dq.1 hx;exact (T4 n hn).i
   rw [ax] at this;exact this
  ·refine ε.cD (by simpa using Φ) (ε.out (ε.ret ⟨fun n hn=>(by cases hn),by simp,by unfold Ξ;decide,by unfold Ξ;decide⟩))
 obtain ⟨r,h1,h2⟩:=hT;unfold yd;rw [h1];exact ⟨rfl,h2⟩
end
end
end
section
def bS {α β:Type} (v:Int⊕α) (k:α→Int⊕β):Int⊕β:=match v with|.inl e=>.inl e|.inr a=>k a
def mS {β:Type} (e:Int) (v:Int⊕β):Int⊕β:=if (e != 0)=true then .inl e else v
def cr {α β:Type} (g:α→β) (v:Int⊕α):Int⊕β:=match v with|.inl e=>.inl e|.inr a=>.inr (g a)
def aeN {α β:Type} (g:α→β) (v:Int⊕α):v.map id g=cr g v:=by cases v<;>rfl
def ε.bS {α β γ δ:Type} {x:Option (Int⊕α)} {g:β→α} {v:Int⊕β} {k:α→Option (Int⊕γ)} {w:β→Int⊕δ} {g2:δ→γ} (hx:x=some (cr g v)) (hk:∀b,v=.inr b→ε (k (g b)) (·=cr g2 (w b))) :
  ε (x.bind fun r=>bO r (fun e=>some (.inl e)) k) (·=cr g2 (Go.Proofs.bS v w)):=by
 subst hx;cases v with
 |inl e=>exact ε.ret rfl
 |inr b=>exact hk b rfl
def ε.mS {γ δ:Type} {e:Int} {k:Unit→Option (Int⊕γ)} {v:Int⊕δ} {g2:δ→γ} (hk:e=0→ε (k ()) (·=cr g2 v)) :
  ε ((iu e).bind fun r=>bO r (fun e=>some (.inl e)) k) (·=cr g2 (Go.Proofs.mS e v)):=by
 refine ε.OY (fun h=>?_) fun h=>?_
 ·unfold Go.Proofs.mS;rw [if_neg (by simp [h])];exact hk h
 ·unfold Go.Proofs.mS;rw [if_pos (by simpa using h)];exact ε.ret rfl
def mL {α β:Type} {v:Int⊕α} {k:α→Int⊕β} {r:β} (h:bS v k=.inr r):∃a,v=.inr a∧k a=.inr r:=by
 cases v with
 |inl e=>cases h
 |inr a=>exact ⟨a,rfl,h⟩
def l9 {β:Type} {e:Int} {v:Int⊕β} {r:β} (h:mS e v=.inr r):e=0∧v=.inr r:=by
 unfold mS at h;split at h
 ·cases h
 ·rename_i he;exact ⟨by simpa using he,h⟩
def ko (t:θ) (p:List UInt8):Int⊕ξ:=mS (qB t p).2 (.inr (gD t.η (qB t p).1))
def tM (t:θ) (p:List UInt8):Int⊕(Int×List UInt8):=mS (oP p).2.2 (mS (qB t (oP p).2.1).2 (.inr ((qB t (oP p).2.1).1,(oP p).1)))
def Fc (n:ξ):Int×Int×Int×List UInt8×List aP×Int:=(n.κ,n.τ,n.a_,n.az,n.Ω,n.Up)
def ael {p:List UInt8}:(oP p).2.1.length≤400∧Ξ (oP p).2.2:=by
 unfold oP;obtain ⟨h1,h2,h3⟩:=Gs (p:=p);split
 ·refine ⟨aee (fun s hs=>h1 s (List.dropLast_subset _ hs)) (by simp;omega),by unfold Ξ;dsimp only;omega⟩
 ·exact ⟨by simp,by unfold Ξ;dsimp only;omega⟩
section
variable {B:Nat} {t:θ}
def WX (hs:d_ t.η) (hn:t.η.length≤1000000) (i:Int) {a3:Int} {a4:List Int} {a5:List bp} {a6:List bb} {a7:Int} {a8:List ay} {a9:List aA} {xU xV:Int} {a12 xW:List UInt8} {xX xY xZ:Int} {a17:List UInt8} {x_ ya a20 a21 a22:Int}:A0 i t.η t.Next t.aj a3 a4 a5 a6 a7 a8 a9 xU xV a12 xW xX xY xZ a17 x_ ya a20 a21 a22=some (Fc (gD t.η i)):=by
 unfold A0;show ((mc t i).bind _)=_;rw [tu hs hn];rfl
def zK (h:ST B t) (hB:B≤90000) (p:List UInt8) (hp:p.length≤100000) {a3:Int} {a4:List Int} {a5:List bp} {a6:List bb} {a7:Int} {a8:List ay} {a9:List aA} {xU xV:Int} {a12 xW:List UInt8} {xX xY xZ:Int} {a17:List UInt8} {x_ ya a20 a21 a22:Int}:qZ p t.η t.Next t.aj a3 a4 a5 a6 a7 a8 a9 xU xV a12 xW xX xY xZ a17 x_ ya a20 a21 a22=some (cr Fc (ko t p)):=by
 refine ε.eq ?_;unfold qZ ko;refine ε.af (x:=xu t p) (WC h hB p hp) (ε.mS fun _=>?_);exact ε.af (WX h.s (h.n (by omega)) _) (ε.ret rfl)
def Fo (h:ST B t) (hB:B≤90000) (p:List UInt8) (hp:p.length≤100000) {a3:Int} {a4:List Int} {a5:List bp} {a6:List bb} {a7:Int} {a8:List ay} {a9:List aA} {xU xV:Int} {a12 xW:List UInt8} {xX xY xZ:Int} {a17:List UInt8} {x_ ya a20 a21 a22:Int}:uD p t.η t.Next t.aj a3 a4 a5 a6 a7 a8 a9 xU xV a12 xW xX xY xZ a17 x_ ya a20 a21 a22=some (cr id (tM t p)):=by
 refine ε.eq ?_;unfold uD tM;have:=(ael (p:=p)).1;refine ε.af (afC p hp) (ε.mS fun _=>ε.af (x:=xu t (oP p).2.1) (WC h hB _ (by omega)) (ε.mS fun _=>ε.ret rfl))
end
noncomputable def ku {α:Type} (t:θ) (H:List ay) (Q:List aA) (x:α):Int⊕(θ×List aA×α):=bS (xh t H Q) fun z=>.inr (z.1,z.2,x)
noncomputable def BM (t:θ) (H:List ay) (Q:List aA) (o:bN):Int⊕(θ×List aA×Int):=bS (tM t o.cF) fun y=>mS (mJ t y.1 y.2 o.N).2.2 (ku (mJ t y.1 y.2 o.N).1 H Q (mJ t y.1 y.2 o.N).2.1)
noncomputable def Jk (t:θ) (H:List ay) (Q:List aA) (o:bN):Int⊕(θ×List aA×Int):=bS (ko t o.cF) fun n=>bS (tM t o.To) fun y=>mS (th t n.κ y.1 y.2).2 (ku (th t n.κ y.1 y.2).1 H Q n.κ)
noncomputable def K1 (t:θ) (H:List ay) (Q:List aA) (o:bN):Int⊕(θ×List aA×Int):=bS (tM t o.cF) fun y=>mS (qz t y.1 y.2).2.2 (ku (qz t y.1 y.2).1 H Q (qz t y.1 y.2).2.1)
noncomputable def E9 (t:θ) (H:List ay) (Q:List aA) (o:bN):Int⊕(θ×List aA×Int):=bS (tM t o.cF) fun y=>bS (tM t o.To) fun w=>mS (eV t y.1 y.2).2 (mS (qu t y.1 y.2 w.1 w.2).2.2 (ku (qu t y.1 y.2 w.1 w.2).1 H Q (eV t y.1 y.2).1))
noncomputable def Jj (t:θ) (H:List ay) (Q:List aA) (o:bN):Int⊕(θ×List aA×Int):=bS (ko t o.cF) fun n=>mS (vk t Q n.κ o.N o.M).2 (ku t H (vk t Q n.κ o.N o.M).1 n.κ)
def wF (t:θ) (H:List ay) (o:bN):Int⊕ξ:=mS (zx H o.aW o.bY).2 (if decide (o.N≥0)=true then .inr (gD t.η (zx H o.aW o.bY).1) else .inl 1)
noncomputable def wC (t:θ) (H:List ay) (Q:List aA) (i:Int) (d:List UInt8):Int⊕(θ×List aA×Int×Int):=mS (nY t i d).2 (ku (nY t i d).1 H Q (i,(d.length:Int)))
def xy (d:List UInt8) (o:bN):List UInt8:=if decide ((o.az.length:Int)>0)=true then HM (d++List.replicate ((max (((o.N+(o.az.length:Int))-(d.length:Int))) (0))).toNat ((0:UInt8))) o.N.toNat o.az else d
noncomputable def Lf (t:θ) (H:List ay) (Q:List aA) (o:bN):Int⊕(θ×List aA×Int×Int):=bS (wF t H o) fun n=>if decide (o.N≤4096)=true then (if decide (o.N+(o.az.length:Int)≤4096)=true then wC t H Q n.κ (xy n.az o) else .inl 2) else .inl 1
noncomputable def HN (t:θ) (H:List ay) (Q:List aA) (o:bN):Int⊕(θ×List aA×Int×Int):=bS (wF t H o) fun n=>wC t H Q n.κ (n.az.take (min o.N (n.az.length:Int)).toNat)
def J0 (d:List UInt8) (o:bN):List UInt8:=(d.drop (min o.N (d.length:Int)).toNat).take (min o.M ((d.drop (min o.N (d.length:Int)).toNat).length:Int)).toNat
def J5 (t:θ) (H:List ay) (o:bN):Int⊕(Int×List UInt8):=bS (wF t H o) fun n=>if (decide (o.M≥0)&&decide (o.M≤4096))=true then .inr (n.κ,J0 n.az o) else .inl 1
noncomputable def E3 (t:θ) (o:bN):Int⊕(Int×List (List UInt8)):=bS (ko t o.cF) fun n=>mS (rG t n.κ o.N o.M).2.2 (.inr ((rG t n.κ o.N o.M).2.1,(rG t n.κ o.N o.M).1.map (·.aN)))
def JD (t:θ) (H:List ay) (o:bN):Int⊕(List ay×Int):=bS (ko t o.cF) fun n=>mS (u_ t H o.aW o.bY n.κ).2 (.inr ((u_ t H o.aW o.bY n.κ).1,n.κ))
def HJ (t:θ) (H:List ay) (o:bN):Int⊕(θ×List ay):=mS (pb t H o.aW o.bY).2.2 (.inr ((pb t H o.aW o.bY).1,(pb t H o.aW o.bY).2.1))
structure FI (k:Nat) (f:dh):Prop where
 s:SI k f.S
 r:RT f.S.Γ
 k:SK f.S
 h:qR f.Holds
 hl:f.Holds.length≤64
 q:j6 f.bc
 ql:f.bc.length≤16
structure OB (o:bN):Prop where
 p:o.cF.length≤1000
 t:o.To.length≤1000
 d:o.az.length≤5000
 n:Ξ o.N
 m:Ξ o.M
 k:Ξ o.τ
 c:Ξ o.aW
 h:Ξ o.bY
def TF.Ho {B:Nat} {t:θ} (h:TF B t) (hB:B≤90000) (i:Int) (s:List UInt8) (k:Int):TF (B+5) (mJ t i s k).1:=by
 unfold mJ;split
 ·exact h.up (by omega)
 split
 ·exact h.up (by omega)
 split
 ·exact h.up (by omega)
 ·exact ((h.Sj k _).uz i s t.Next).up (by omega)
def TF.V4 {B:Nat} {t:θ} (h:TF B t) (hB:B≤90000) (i to:Int) (s:List UInt8):TF (B+5) (th t i to s).1:=by
 unfold th;split
 ·exact h.up (by omega)
 split
 ·exact h.up (by omega)
 split
 ·exact h.up (by omega)
 ·exact ((h.V3 i).uz to s i).up (by omega)
def TF.YL {B:Nat} {t:θ} (h:TF B t) (hB:B≤90000) (i:Int) (s:List UInt8):TF (B+5) (qz t i s).1:=by
 unfold qz;split
 ·exact h.up (by omega)
 split
 ·exact h.up (by omega)
 ·exact ((h.qt i s).un _).up (by omega)
def TF.OZ {B:Nat} {t:θ} (h:TF B t) (hB:B≤90000) (fr:Int) (s:List UInt8) (to:Int) (aI:List UInt8):TF (B+5) (qu t fr s to aI).1:=by
 unfold qu
 repeat (split;exact h.up (by omega))
 exact ((h.kp (C:=B+3) (h.iV _ _ _ _ _ _) (by omega) _ _).uz _ _ _).up (by omega)
def TF.Xp {B:Nat} {t:θ} (h:TF B t) (i:Int) (x:List UInt8):TF (B+5) (nY t i x).1:=by
 unfold nY;split
 ·exact h.up (by omega)
 split
 ·exact h.up (by omega)
 split
 ·exact h.up (by omega)
 ·have h1:=h.gE i;have h2:=h.gL i;have h3:=h.c;have h4:=h.x;exact (h.put (n:=⟨(gD t.η i).κ,(gD t.η i).τ,(gD t.η i).a_,x,(gD t.η i).Ω,(gD t.η i).Up⟩) (by dsimp only;omega) (by dsimp only;omega) (by omega) (by omega)).up (by omega)
section
variable {k:Nat} {f:dh} {o:bN}
def FI.st (h:FI k f):ST (2+5*k) f.S.Γ:=W.st h.r h.s.f
def FI.rf (h:FI k f):RF (2+5*k+5) f.S.Γ:=⟨h.r,h.s.f.up (by omega)⟩
def BY {α:Type} (h:FI k f) (hk:k≤60) {t:θ} (ht:RF (2+5*k+5) t) {q:List aA} (hq:j6 q) (oH:q.length≤1000) (x:α) {γ:Type} (g:θ×List aA×α→γ) {K:List ξ×Int×Int×Int×List Int×List bp×List bb×Int×List aA→Option (Int⊕γ)}
  (hK:∀z:θ×List aA,xh t f.Holds q=.inr z→K (s8 (fb f.S z.1) z.2)=some (.inr (g (z.1,z.2,x)))) :
  ε ((eb (qe t q) f o).bind fun r=>bO r (fun e=>some (.inl e)) K) (·=cr g (ku t f.Holds q x)):=by
 have hp:=agk h.s hk ht (by have:=h.hl;omega) hq oH f.bc o.τ o.aW o.cF o.To o.N o.M o.bY o.az 0 0 0 0 0 (H:=f.Holds);rw [aeN] at hp;unfold ku;refine ε.bS hp fun z hz=>⟨_,hK z hz,rfl⟩
def af_ (h:FI k f) (hk:k≤60) (ho:OB o):eb DX f o=some (cr (fun z=>(s8 (fb f.S z.1) (z.2.2,z.2.1))) (BM f.S.Γ f.Holds f.bc o)):=by
 refine ε.eq ?_;unfold eb DX BM;refine ε.bS (Fo h.st (by omega) _ (by have:=ho.p;omega)) fun y _=>ε.af (x:=CB f.S.Γ y.1 y.2 o.N) (afd h.r h.s.f (by omega) _ _ _) (ε.mS fun _=>?_);exact BY (o:=o) h hk ⟨h.r.add _ _ _,h.s.f.Ho (by omega) _ _ _⟩ h.q (by have:=h.ql;omega) _ _ fun z _=>rfl
def af7 (h:FI k f) (hk:k≤60) (ho:OB o):eb DU f o=some (cr (fun z=>(s8 (fb f.S z.1) (z.2.2,z.2.1))) (Jk f.S.Γ f.Holds f.bc o)):=by
 refine ε.eq ?_;unfold eb DU Jk;refine ε.bS (zK h.st (by omega) _ (by have:=ho.p;omega)) fun n _=>ε.bS (Fo h.st (by omega) _ (by have:=ho.t;omega)) fun y _=>ε.af (x:=CD f.S.Γ n.κ y.1 y.2) (afE h.r h.s.f (by omega) _ _ _) (ε.mS fun _=>?_);exact BY (o:=o) h hk ⟨h.r.ln _ _ _,h.s.f.V4 (by omega) _ _ _⟩ h.q (by have:=h.ql;omega) _ _ fun z _=>rfl
def ago (h:FI k f) (hk:k≤60) (ho:OB o):eb D6 f o=some (cr (fun z=>(s8 (fb f.S z.1) (z.2.2,z.2.1))) (K1 f.S.Γ f.Holds f.bc o)):=by
 refine ε.eq ?_;unfold eb D6 K1;refine ε.bS (Fo h.st (by omega) _ (by have:=ho.p;omega)) fun y _=>ε.af (x:=CG f.S.Γ y.1 y.2) (afO h.r h.s.f (by omega) _ _) (ε.mS fun _=>?_);exact BY (o:=o) h hk ⟨h.r.un _ _,h.s.f.YL (by omega) _ _⟩ h.q (by have:=h.ql;omega) _ _ fun z _=>rfl
def agj (h:FI k f) (hk:k≤60) (ho:OB o):eb D0 f o=some (cr (fun z=>(s8 (fb f.S z.1) (z.2.2,z.2.1))) (E9 f.S.Γ f.Holds f.bc o)):=by
 refine ε.eq ?_;unfold eb D0 E9;refine ε.bS (Fo h.st (by omega) _ (by have:=ho.p;omega)) fun y _=>ε.bS (Fo h.st (by omega) _ (by have:=ho.t;omega)) fun w _=>ε.af (x:=vr f.S.Γ y.1 y.2) (JH h.st (by omega) _ _) (ε.mS fun _=>ε.af (x:=CE f.S.Γ y.1 y.2 w.1 w.2) (afG h.r h.s.f (by omega) _ _ _ _) (ε.mS fun _=>?_));exact BY (o:=o) h hk ⟨h.r.mv _ _ _ _,h.s.f.OZ (by omega) _ _ _ _⟩ h.q (by have:=h.ql;omega) _ _ fun z _=>rfl
def af6 (h:FI k f) (hk:k≤60) (ho:OB o):eb DT f o=some (cr (fun z=>(s8 (fb f.S z.1) (z.2.2,z.2.1))) (Jj f.S.Γ f.Holds f.bc o)):=by
 refine ε.eq ?_;unfold eb DT Jj;refine ε.bS (zK h.st (by omega) _ (by have:=ho.p;omega)) fun n _=>ε.af (x:=B7 f.S.Γ f.bc n.κ o.N o.M) (afM h.r h.s.f (by omega) h.q (by have:=h.ql;omega) _ _ _) (ε.mS fun _=>?_);have hs:=XP (t:=f.S.Γ) h.q h.ql n.κ o.N o.M;exact BY (o:=o) h hk h.rf hs.1 (by have:=hs.2;omega) _ _ fun z _=>rfl
def WS (h:FI k f) (hk:k≤60) (i:Int) (d:List UInt8):eb (yx i) f o d=some (cr (fun z=>(s8 (fb f.S z.1) z.2.1)) (wC f.S.Γ f.Holds f.bc i d)):=by
 refine ε.eq ?_;unfold eb yx wC;refine ε.af (x:=Af f.S.Γ i d) (afJ h.r h.s.f (by omega) _ _) (ε.mS fun _=>?_);exact BY (o:=o) h hk ⟨h.r.Xl _ _,h.s.f.Xp _ _⟩ h.q (by have:=h.ql;omega) _ _ fun z _=>rfl
def Pc (h:FI k f) (hk:k≤60):eb yy f o=some (cr Fc (wF f.S.Γ f.Holds o)):=by
 refine ε.eq ?_;unfold eb yy wF;refine ε.af (afj (by have:=h.hl;omega) _ _) (ε.mS fun _=>ε.check (by decide) (fun hb=>?_) fun hb=>?_)
 ·rw [hb,if_pos rfl];exact ε.af (WX h.st.s (h.st.n (by omega)) _) (ε.ret rfl)
 ·rw [hb,if_neg (by simp)];exact ε.ret rfl
def No (h:FI k f) {n:ξ} (hn:wF f.S.Γ f.Holds o=.inr n):n.az.length≤4096∧0≤o.N:=by
 obtain ⟨-,h2⟩:=l9 hn;split at h2
 ·rename_i h0;cases h2;refine ⟨?_,by simpa using h0⟩
  rcases wv f.S.Γ.η (zx f.Holds o.aW o.bY).1 with ⟨m,h1,h2⟩|⟨h1,h2⟩
  ·rw [h2];exact h.r.data (dQ h1).1
  ·rw [h2];exact lX _
 ·cases h2
def agq (h:FI k f) (hk:k≤60) (ho:OB o):eb D7 f o=some (cr (fun z=>(s8 (fb f.S z.1) (z.2.2.1,z.2.2.2,z.2.1))) (Lf f.S.Γ f.Holds f.bc o)):=by
 refine ε.eq ?_;unfold eb D7 Lf;have hod:=ho.d;refine ε.bS (Pc h hk) fun n hn=>?_;obtain ⟨hd,hN⟩:=No h hn;refine ε.check (by decide) (fun hb=>?_) fun hb=>?_;rotate_left
 ·rw [hb,if_neg (by simp)];exact ε.ret rfl
 rw [hb,if_pos rfl];rw [decide_eq_true_eq] at hb;refine ε.Ψ (by unfold Ξ;omega) (ε.check (by decide) (fun jO=>?_) fun jO=>?_);rotate_left
 ·rw [jO,if_neg (by simp)];exact ε.ret rfl
 rw [jO,if_pos rfl];rw [decide_eq_true_eq] at jO;refine ε.af (sz (l:=n.az) (K:=1) (by omega)) (ε.af (a:=xy n.az o) ?_ ?_)
 ·unfold xy;refine ε.eq (ε.eG (fun e=>?_) fun e=>ε.ret rfl);refine ε.Ψ (by unfold Ξ;omega) (ε.Ψ ⟨by omega,by omega⟩ (ε.Ψ ⟨hN,?_⟩ (ε.ret rfl)));rw [decide_eq_true_eq] at e;simp only [cP,List.length_replicate];omega
 have hh:=WS (o:=o) h hk n.κ (xy n.az o);show ε ((eb (yx n.κ) f o (xy n.az o)).bind _) _;rw [hh];unfold wC;cases hm:(Go.Proofs.mS (nY f.S.Γ n.κ (xy n.az o)).2 (ku (nY f.S.Γ n.κ (xy n.az o)).1 f.Holds f.bc (n.κ,((xy n.az o).length:Int)))) with
 |inl e=>exact ε.ret rfl
 |inr z =>
  obtain ⟨-,h2⟩:=l9 hm;obtain ⟨w,-,h3⟩:=mL h2;cases h3;exact ε.ret rfl
def afU (h:FI k f) (hk:k≤60) (ho:OB o):eb DR f o=some (cr (fun z=>(s8 (fb f.S z.1) (z.2.2.1,z.2.2.2,z.2.1))) (HN f.S.Γ f.Holds f.bc o)):=by
 refine ε.eq ?_;unfold eb DR HN;refine ε.bS (Pc h hk) fun n hn=>?_;obtain ⟨hd,hN⟩:=No h hn;have hh:=WS (o:=o) h hk n.κ (n.az.take (min o.N (n.az.length:Int)).toNat);refine ε.Ψ (by dsimp only [Fc];omega) ?_;show ε ((eb (yx n.κ) f o (n.az.take (min o.N (n.az.length:Int)).toNat)).bind _) _;rw [hh];unfold wC;cases hm:(Go.Proofs.mS (nY f.S.Γ n.κ (n.az.take (min o.N (n.az.length:Int)).toNat)).2 (ku (nY f.S.Γ n.κ (n.az.take (min o.N (n.az.length:Int)).toNat)).1 f.Holds f.bc (n.κ,((n.az.take (min o.N (n.az.length:Int)).toNat).length:Int)))) with
 |inl e=>exact ε.ret rfl
 |inr z =>
  obtain ⟨-,h2⟩:=l9 hm;obtain ⟨w,-,h3⟩:=mL h2;cases h3;exact ε.ret rfl
def agh (h:FI k f) (hk:k≤60) (ho:OB o):eb DZ f o=some (cr id (J5 f.S.Γ f.Holds o)):=by
 refine ε.eq ?_;unfold eb DZ J5;refine ε.bS (Pc h hk) fun n hn=>?_;obtain ⟨hd,hN⟩:=No h hn;refine ε.bind (R:=(·=(decide (o.M≥0)&&decide (o.M≤4096)))) (by cases decide (o.M≥0)<;>exact ε.ret rfl) fun v hv=>?_;subst hv;refine ε.check (by decide) (fun hb=>?_) fun hb=>?_
 ·rw [hb,if_pos rfl];rw [bJ,decide_eq_true_eq,decide_eq_true_eq] at hb;unfold Ii Fc;dsimp only;refine ε.Ψ (by omega) (ε.Ψ (by omega) ?_);exact ε.af (sz (l:=J0 n.az o) (K:=1) (by unfold J0;simp only [dN,lV];omega)) (ε.ret rfl)
 ·rw [hb,if_neg (by simp)];exact ε.ret rfl
def af9 (h:FI k f) (hk:k≤60) (ho:OB o):eb DW f o=some (cr (fun n=>(n.κ,n.τ)) (ko f.S.Γ o.cF)):=by
 refine ε.eq ?_;unfold eb DW;rw [zK h.st (by omega) _ (by have:=ho.p;omega)];cases ko f.S.Γ o.cF<;>exact ε.ret rfl
def agm (h:FI k f) (hk:k≤60) (ho:OB o):eb D4 f o=some (cr (fun n=>(n.κ,n.τ,n.a_,FW n)) (ko f.S.Γ o.cF)):=by
 refine ε.eq ?_;unfold eb D4;rw [zK h.st (by omega) _ (by have:=ho.p;omega)];cases ko f.S.Γ o.cF<;>exact ε.ret rfl
def abb {B:Nat} {t:θ} (h:RT t) (hf:TF B t) (hB:B≤4000) (i:Int):(dF t.η i).1.Ω.length≤64∧(∀e,e∈(dF t.η i).1.Ω→NB (dF t.η i).1∧1≤e.aj∧e.aj≤4000)∧Ξ (dF t.η i).2:=by
 unfold dF;split
 ·split
  ·exact ⟨by simp [jX],fun e he=>(by cases he),by unfold Ξ;dsimp only;omega⟩
  ·rename_i hg hk
   rcases wv t.η i with ⟨n,g1,g2⟩|⟨g1,g2⟩
   ·rw [g2];have hm:=(dQ g1).1;refine ⟨(h.en n hm).n,fun e he=>⟨h.nb hf hB hm,?_⟩,by unfold Ξ;dsimp only;omega⟩;have:=((h.en n hm).r e he).2;have:=hf.c;omega
   ·rw [g1] at hg;cases hg
 ·exact ⟨by simp [jX],fun e he=>(by cases he),by unfold Ξ;dsimp only;omega⟩
def V2 {B:Nat} {t:θ} (h:RT t) (hf:TF B t) (hB:B≤4000) (i a b:Int):(rG t i a b).1.length≤64∧(∀e,e∈(rG t i a b).1→e.aN.length≤32)∧Ξ (rG t i a b).2.1∧Ξ (rG t i a b).2.2:=by
 have hL:=(JJ h hf (by omega) i a b).2;obtain ⟨d1,d2,d3⟩:=abb h hf hB i;unfold AE at hL;split at hL
 ·rw [hL];exact ⟨by simp,fun e he=>(by cases he),by unfold Ξ;dsimp only;omega,by unfold Ξ;dsimp only;omega⟩
 split at hL
 ·rw [hL];exact ⟨by simp,fun e he=>(by cases he),by unfold Ξ;dsimp only;omega,d3⟩
 ·obtain ⟨L,l1,l2,l3⟩:=hL
  have T2:L.length≤64:=by rw [l1.length_eq];exact fo (mh _ _) d1
  have Eh:∀e,e∈L→e∈(dF t.η i).1.Ω:=fun e he=>(eD.1 (l1.mem_iff.1 he)).1;split at l3
  ·rw [l3];exact ⟨T2,fun e he=>((d2 e (Eh e he)).1.e e (Eh e he)).2.2,by unfold Ξ;dsimp only;omega,by unfold Ξ;dsimp only;omega⟩
  ·obtain ⟨x,hx,hr⟩:=l3;rw [hr];have hxm:=(d2 x (Eh x (List.mem_of_getElem? hx))).2;exact ⟨by simp;omega,fun e he=>((d2 e (Eh e (Db he))).1.e e (Eh e (Db he))).2.2,by unfold Ξ;dsimp only;omega,by unfold Ξ;dsimp only;omega⟩
def af8 (h:FI k f) (hk:k≤60) (ho:OB o):eb DV f o=some (cr id (E3 f.S.Γ o)):=by
 refine ε.eq ?_;unfold eb DV E3;refine ε.bS (zK h.st (by omega) _ (by have:=ho.p;omega)) fun n _=>ε.af (x:=xr f.S.Γ n.κ o.N o.M) (JJ h.r h.s.f (by omega) _ _ _).1 (ε.mS fun _=>?_);exact ε.af (WW (by have:=(V2 h.r h.s.f (by omega) n.κ o.N o.M).1;omega)) (ε.ret rfl)
def agc (h:FI k f) (hk:k≤60) (ho:OB o):eb DY f o=some (cr id (JD f.S.Γ f.Holds o)):=by
 refine ε.eq ?_;unfold eb DY JD;refine ε.bS (zK h.st (by omega) _ (by have:=ho.p;omega)) fun n _=>ε.af (x:=Bu f.S.Γ f.Holds o.aW o.bY n.κ) (afH h.st.s (h.st.n (by omega)) h.h (by have:=h.hl;omega) _ _ _) (ε.mS fun _=>ε.ret rfl)
def afR (h:FI k f) (hk:k≤60) (ho:OB o):eb DP f o=some (cr (fun z=>(s8 (fb f.S z.1) z.2)) (HJ f.S.Γ f.Holds o)):=by
 refine ε.eq ?_;unfold eb DP HJ;have hg:=Me (t:=f.S.Γ) (l:=f.Holds) (n:=64) (B:=2+5*k+5) ⟨h.r,h.s.f.up (by omega),h.hl,h.h⟩ o.aW o.bY;refine ε.af (x:=zf f.S.Γ f.Holds o.aW o.bY) (Wu h.st.s h.s.f (by omega) (by have:=h.hl;omega) _ _) (ε.mS fun _=>?_);exact ε.af (x:=tK f.S (pb f.S.Γ f.Holds o.aW o.bY).1) (O' (h.s.JR (by omega) hg.r.s hg.f)) (ε.ret rfl)
def afS (h:FI k f) (hk:k≤60) (ho:OB o):eb DQ f o=some ((fun z:θ×List ay=>(s8 (fb f.S z.1) z.2)) (wz f.S.Γ f.Holds o.aW)):=by
 refine ε.eq ?_;unfold eb DQ;have hg:=MN (n:=64) (B:=2+5*k+5) o.aW f.Holds (a:=(f.S.Γ,f.Holds)) ⟨h.r,h.s.f.up (by omega),h.hl,h.h⟩;refine ε.af (x:=Bt f.S.Γ f.Holds o.aW) (afh h.r h.s.f (by omega) (by have:=h.hl;omega) h.h _) ?_;exact ε.af (x:=tK f.S (wz f.S.Γ f.Holds o.aW).1) (O' (h.s.JR (by omega) hg.r.s hg.f)) (ε.ret rfl)
end
end
section
def SI.agH {k:Nat} {s:bx} (h:SI k s) (hk:k≤200) {t:θ} (Vq:TS t) (hf:TF (2+5*k+5) t):SI (k+1) (fb s t):=by
 unfold fb;split
 ·exact h.up (by omega)
 have hpf:=h.JR hk Vq.s hf;have fT:=h.tk;refine ⟨hf.up (by omega),Vq,by simp,by dsimp only;omega,by have:=h.nx;dsimp only;omega,fun q hq=>?_,by have:=h.ta;dsimp only;omega,?_,fun p hp=>?_,h.id,fun x hx=>?_,fun p hp=>?_⟩
 ·obtain ⟨n,hn,rfl⟩:=dq.1 hq;dsimp only;unfold vn;split
  ·next j hj =>
   have:=(List.findIdx?_eq_some_iff_getElem.1 hj).1
   have Φ:j<s.aU.length:=by rw [h.si];omega
   rw [bF Φ];have:=h.sn _ (ek Φ);simp only [Ay];omega
  ·omega
 ·show (s.aO++Fu s _).length≤_;unfold Fu;rw [cP,ax];have h1:=mh (vg s t) (s.Γ.η.zip s.aU);rw [hpf.zl] at h1;have:=h.ps;have:=h.f.n;omega
 ·rcases gp.1 hp with hp|hp
  ·have:=h.pe p hp;omega
  ·obtain ⟨q,hq,rfl⟩:=dq.1 hp;have:=h.f.e _ (Lv (eD.1 hq).1).1;dsimp only;omega
 ·have:=h.ti x hx;dsimp only;omega
 ·rcases gp.1 hp with hp|hp
  ·have:=h.pt p hp;exact ⟨by dsimp only;omega,this.2⟩
  ·obtain ⟨q,hq,rfl⟩:=dq.1 hp;obtain ⟨h1,h2⟩:=eD.1 hq;have:=h.sn _ (Lv h1).2;unfold vg at h2;exact ⟨by dsimp only;omega,by simpa using (Bool.and_eq_true_iff.1 h2).2⟩
def RT.ts {t:θ} (h:RT t):TS t:=⟨h.s,fun n hn=>by have:=h.lo n hn;omega,h.rt,fun n hn e he=>W.O1 h hn he⟩
def SK.put {B:Nat} {s:bx} (h:SK s) {t:θ} (hr:RT t) (hf:TF B t) (hB:B≤4000):SK (fb s t):=by
 unfold fb;split
 ·exact h
 refine ⟨fun n hn=>hr.nb hf hB hn,fun p hp=>?_,h.t⟩
 rcases gp.1 hp with hp|hp
 ·exact h.p p hp
 ·obtain ⟨q,hq,rfl⟩:=dq.1 hp;exact h.n q.1 (Lv (eD.1 hq).1).1
def SK.take {s:bx} (h:SK s) (i:Int):SK (oa s i).1:=by
 unfold oa;split
 ·exact h
 rename_i hg;split
 ·exact h
 split
 ·exact h
 refine ⟨h.n,h.p,fun x hx=>?_⟩
 rcases gp.1 hx with hx|hx
 ·exact h.t x hx
 ·obtain rfl:=dB.1 hx
  rcases wv s.Γ.η i with ⟨n,g1,g2⟩|⟨g1,g2⟩
  ·have:=(h.n n (dQ g1).1).i;rw [(dQ g1).2] at this;exact this
  ·rw [g1] at hg;exact absurd rfl hg
def SK.drop {s:bx} (h:SK s) (i:Int):SK (pf s i).1:=by
 unfold pf;split
 ·exact h
 exact ⟨h.n,fun p hp=>h.p p (eD.1 hp).1,fun x hx=>h.t x (eD.1 hx).1⟩
def xq (f:dh) (o:bN):Int⊕(bx×Int):=bS (ko f.S.Γ o.cF) fun n=>mS (oa f.S n.κ).2.2 (.inr ((oa f.S n.κ).1,(oa f.S n.κ).2.1))
def we (f:dh) (o:bN):Int⊕(bx×Unit):=mS (pf f.S o.N).2 (.inr ((pf f.S o.N).1,()))
noncomputable def xd (f:dh) (o:bN):Int⊕(Int×Int×Int×Int×List (List UInt8)×List UInt8):=(eb yz f o).getD (.inl 0)
def NZ (n:ξ):Prop:=NB n∨n=jX
def NZ.b {n:ξ} (h:NZ n):Ξ n.κ∧Ξ n.τ∧Ξ n.a_∧n.az.length≤4096∧n.Ω.length≤64∧∀e,e∈n.Ω→e.aN.length≤32:=by
 rcases h with h|h
 ·have h1:=h.i;have h2:=h.k;have h3:=h.n;exact ⟨by unfold Ξ;omega,by unfold Ξ;omega,by unfold Ξ;omega,h.d,h.l,fun e he=>(h.e e he).2.2⟩
 ·rw [h];exact ⟨by unfold Ξ jX;dsimp only;omega,by unfold Ξ jX;dsimp only;omega,by unfold Ξ jX;dsimp only;omega,by simp [jX],by simp [jX],fun e he=>(by cases he)⟩
section
variable {k:Nat} {f:dh} {o:bN}
def agn (h:FI k f) (hk:k≤60) (ho:OB o):eb D5 f o=some (cr (fun z=>(s8 z.1 z.2)) (xq f o)):=by
 refine ε.eq ?_;unfold eb D5 xq;have:=h.s.nx;have:=h.s.ta;have:=h.s.f.n;refine ε.bS (zK h.st (by omega) _ (by have:=ho.p;omega)) fun n _=>ε.af (x:=Ch f.S n.κ) (afN f.S n.κ h.st.s (by omega) (by omega) (by omega)) (ε.mS fun _=>ε.ret rfl)
def afX (h:FI k f) (hk:k≤60):eb DS f o=some (cr (fun z=>(z.1.Γ.η,z.1.Γ.Next,z.1.Γ.aj,z.1.aY,z.1.aU,z.1.aO,z.1.aR,z.1.Next)) (we f o)):=by
 refine ε.eq ?_;unfold eb DS we;have:=h.s.ps;have:=h.s.ta;exact ε.af (x:=Cg f.S o.N) (afg f.S o.N (by omega) (by omega)) (ε.mS fun _=>ε.ret rfl)
def agf (h:FI k f) (hk:k≤60) (ho:OB o):ε (eb yz f o) (fun r=>match r with|.inl e=>Ξ e|.inr z=>Ξ z.1∧Ξ z.2.1∧Ξ z.2.2.1∧Ξ z.2.2.2.1∧z.2.2.2.2.1.length≤64∧(∀s,s∈z.2.2.2.2.1→s.length≤32)∧z.2.2.2.2.2.length≤4096):=by
 unfold eb yz;obtain ⟨a1,a2,a3,a4,a5⟩:=afe h.s (by omega) h.k o.N;refine ε.af (x:=xi f.S o.N) a1 ?_;generalize yd f.S o.N=x at *;refine ε.OY (fun _=>?_) fun _=>ε.ret a5;refine ε.af (Pb o.cF (by have:=ho.p;omega)) ?_;obtain ⟨s1,s2,s3⟩:=Gs (p:=o.cF);generalize j0 o.cF=y at *;refine ε.OY (fun _=>?_) fun _=>ε.ret (by unfold Ξ;omega);refine ε.bind (R:=fun M:List (Int×ξ)=>∀j n,bt j M=some n→NB n) ?_ fun M hM=>?_
 ·unfold TD;refine ε.loop (fun s:Int×List (Int×ξ)=>∃j:Nat,s.1=(j:Int)∧j≤x.2.1.length∧s.2.length≤j∧∀j n,bt j s.2=some n→NB n) (fun s=>x.2.1.length-s.1.toNat) ?_ _ ⟨0,rfl,by omega,by simp,fun j n h=>(by cases h)⟩;rintro ⟨s0,M⟩ ⟨j,e1,hj,hl,hM⟩;dsimp only at e1 hl hM;subst e1;unfold Ie;dsimp only;by_cases Φ:j<x.2.1.length
  ·have hx:=bF Φ;have pE:=a2 _ (ek Φ);have hi:=pE.i;refine ε.cond (by simpa using Φ) (ε.af (cq hx) (ε.Ψ ⟨by unfold Ξ;omega,by omega⟩ (ε.Ψ (by unfold Ξ;omega) (ε.inl ⟨⟨j+1,by dsimp only;omega,Φ,?_,fun i n hi=>?_⟩,by dsimp only;omega⟩))))
   ·have:=E8 x.2.1[j].κ x.2.1[j] M;dsimp only;omega
   ·dsimp only at hi;rw [rI] at hi;split at hi
    ·cases hi;exact pE
    ·exact hM i n hi
  ·exact ε.cD (by simpa using Φ) (ε.out (ε.ret hM))
 ·have UZ:∀i,NZ ((bt i M).getD jX):=fun i=>by
   cases hg:bt i M with
   |none=>exact .inr rfl
   |some n=>exact .inl (hM i n hg)
  refine ε.af rfl ?_;unfold TE;refine ε.loop (fun s:Int×Int×Int×Int×List UInt8×List aP×Int=>∃j:Nat,s.1=(j:Int)∧j≤y.1.length∧NZ ⟨s.2.1,s.2.2.1,s.2.2.2.1,s.2.2.2.2.1,s.2.2.2.2.2.1,s.2.2.2.2.2.2⟩) (fun s=>y.1.length-s.1.toNat) ?_ _ ⟨0,rfl,by omega,UZ x.1⟩;rintro ⟨s0,n0,n1,n2,n3,n4,n5⟩ ⟨j,e1,hj,hN⟩;dsimp only at e1 hN;subst e1;obtain ⟨b1,b2,b3,b4,b5,b6⟩:=hN.b;dsimp only at b1 b2 b3 b4 b5 b6;unfold Ig;dsimp only;by_cases Φ:j<y.1.length
  ·have hx:=bF Φ;refine ε.cond (by simpa using Φ) (ε.af (cq hx) (ε.check (by decide) (fun _=>?_) fun _=>ε.out (ε.ret (by show Ξ 73;unfold Ξ;omega))));have rk:=EZ (C:=fun e=>Ic e y.1[j]) (p:=fun e=>e.aN==y.1[j]) (l:=n4) (fun e _=>rfl) (by omega);refine ε.af (x:=KE n4 y.1[j]) rk ?_;rw [Fe];refine ε.check (by decide) (fun hb=>?_) fun _=>ε.out (ε.ret (by show Ξ 70;unfold Ξ;omega));cases hf:n4.findIdx? fun e=>e.aN==y.1[j] with
   |none =>
    rw [List.findIdx?_eq_none_iff] at hf;rw [C7] at hb;obtain ⟨e,he,hp⟩:=hb;rw [hf e he] at hp;cases hp
   |some q =>
    obtain ⟨e,he,-⟩:=sI hf;refine ε.af (x:=idx n4 ((q:Nat):Int)) (cq he) (ε.af rfl (ε.Ψ (by unfold Ξ;omega) (ε.inl ⟨⟨j+1,by dsimp only;omega,Φ,UZ e.κ⟩,by dsimp only;omega⟩)))
  ·refine ε.cD (by simpa using Φ) (ε.out ?_);unfold Ih DO;refine ε.af rfl (ε.af (WW (by dsimp only;omega)) (ε.ret ⟨b1,b2,b3,by unfold Ξ;dsimp only;omega,by simp only [ax];exact b5,fun s hs=>?_,b4⟩));obtain ⟨e,he,rfl⟩:=dq.1 hs;exact b6 e he
def W2 (h:FI k f) (hk:k≤60) (ho:OB o):eb yz f o=some (xd f o)∧(match xd f o with|.inl e=>Ξ e|.inr z=>Ξ z.1∧Ξ z.2.1∧Ξ z.2.2.1∧Ξ z.2.2.2.1∧z.2.2.2.2.1.length≤64∧(∀s,s∈z.2.2.2.2.1→s.length≤32)∧z.2.2.2.2.2.length≤4096):=by
 obtain ⟨r,h1,h2⟩:=agf h hk ho;unfold xd;rw [h1];exact ⟨rfl,h2⟩
end
def agp:D8=some ():=by unfold D8;kernel_rfl
def Rh:List (Int×Int):=[(1,62),(2,63),(3,64),(4,65),(5,66),(6,67),(7,68),(8,69),(9,70),(10,71),(11,72),(12,73),(13,74),(14,75),(15,76),(16,77),(17,78)]
def akD:tX=Rh:=by rfl
def akE (k:Int):bt k Rh=if 1≤k∧k≤17 then some (k+61) else none:=by
 by_cases h:1≤k∧k≤17
 ·rw [if_pos h]
  rcases (by omega:k=1∨k=2∨k=3∨k=4∨k=5∨k=6∨k=7∨k=8∨k=9∨k=10∨k=11∨k=12∨k=13∨k=14∨k=15∨k=16∨k=17) with rfl|rfl|rfl|rfl|rfl|rfl|rfl|rfl|rfl|rfl|rfl|rfl|rfl|rfl|rfl|rfl|rfl<;>rfl
 ·rw [if_neg h];unfold Rh;simp only [bt];rw [if_neg (by omega:¬(1:Int)=k),if_neg (by omega:¬(2:Int)=k),if_neg (by omega:¬(3:Int)=k),if_neg (by omega:¬(4:Int)=k),if_neg (by omega:¬(5:Int)=k),if_neg (by omega:¬(6:Int)=k),if_neg (by omega:¬(7:Int)=k),if_neg (by omega:¬(8:Int)=k),if_neg (by omega:¬(9:Int)=k),if_neg (by omega:¬(10:Int)=k),if_neg (by omega:¬(11:Int)=k),if_neg (by omega:¬(12:Int)=k),if_neg (by omega:¬(13:Int)=k),if_neg (by omega:¬(14:Int)=k),if_neg (by omega:¬(15:Int)=k),if_neg (by omega:¬(16:Int)=k),if_neg (by omega:¬(17:Int)=k)]
end
section
def qc (e:Int):dg:=⟨e,0,0,0,0,[],[]⟩
abbrev uv:=Option θ×List ay×List aA×dg
noncomputable def dH (t:θ) (H:List ay) (Q:List aA) (o:bN):Int⊕uv :=
 if o.τ=1 then cr (fun n=>(none,H,Q,⟨0,n.κ,n.τ,0,0,[],[]⟩)) (ko t o.cF)
 else if o.τ=2 then cr (fun z=>(some z.1,H,z.2.1,⟨0,z.2.2,o.N,0,0,[],[]⟩)) (BM t H Q o)
 else if o.τ=3 then cr (fun z=>(some z.1,H,z.2.1,⟨0,z.2.2,0,0,0,[],[]⟩)) (Jk t H Q o)
 else if o.τ=4 then cr (fun z=>(some z.1,H,z.2.1,⟨0,z.2.2,0,0,0,[],[]⟩)) (K1 t H Q o)
 else if o.τ=5 then cr (fun z=>(some z.1,H,z.2.1,⟨0,z.2.2,0,0,0,[],[]⟩)) (E9 t H Q o)
 else if o.τ=6 then cr (fun z=>(none,H,Q,⟨0,0,0,z.1,0,z.2,[]⟩)) (E3 t o)
 else if o.τ=7 then cr (fun n=>(none,H,Q,⟨0,n.κ,n.τ,n.a_,FW n,[],[]⟩)) (ko t o.cF)
 else if o.τ=8 then cr (fun z=>(none,z.1,Q,⟨0,z.2,0,0,0,[],[]⟩)) (JD t H o)
 else if o.τ=9 then cr (fun z=>(some z.1,z.2,Q,⟨0,0,0,0,0,[],[]⟩)) (HJ t H o)
 else if o.τ=10 then cr (fun z=>(none,H,Q,⟨0,z.1,0,0,0,[],z.2⟩)) (J5 t H o)
 else if o.τ=11 then cr (fun z=>(some z.1,H,z.2.1,⟨0,z.2.2.1,0,0,z.2.2.2,[],[]⟩)) (Lf t H Q o)
 else if o.τ=12 then cr (fun z=>(some z.1,H,z.2.1,⟨0,z.2.2.1,0,0,z.2.2.2,[],[]⟩)) (HN t H Q o)
 else if o.τ=13 then cr (fun z=>(some z.1,H,z.2.1,⟨0,z.2.2,0,0,0,[],[]⟩)) (Jj t H Q o)
 else if o.τ=17 then .inr (some (wz t H o.aW).1,(wz t H o.aW).2,Q,⟨0,0,0,0,0,[],[]⟩)
 else .inl 1
noncomputable def Xo (s:bx):Option θ→bx
 |none=>s
 |some t=>fb s t
noncomputable def jz (f:dh) (v:Int⊕uv):dh×dg:=match v with|.inl e=>(f,qc e)|.inr z=>(⟨Xo f.S z.1,z.2.1,z.2.2.1⟩,z.2.2.2)
def wo {α:Type} (f:dh) (v:Int⊕(bx×α)) (g:α→dg):dh×dg:=match v with|.inl e=>(f,qc e)|.inr z=>(⟨z.1,f.Holds,f.bc⟩,g z.2)
noncomputable def kM (f:dh) (o:bN):dh×dg :=
 if ¬(0≤o.aW∧o.aW<16) then (f,qc 1)
 else if o.τ=14 then wo f (xq f o) fun i=>⟨0,0,0,i,0,[],[]⟩
 else if o.τ=15 then (match xd f o with|.inl e=>(f,qc e)|.inr z=>(f,⟨0,z.1,z.2.1,z.2.2.1,z.2.2.2.1,z.2.2.2.2.1,z.2.2.2.2.2⟩))
 else if o.τ=16 then wo f (we f o) fun _=>⟨0,0,0,0,0,[],[]⟩
 else jz f (dH f.S.Γ f.Holds f.bc o)
def fS {β:Type} (f:dh) (v:Int⊕β) (w:β→dh×dg):dh×dg:=match v with|.inl e=>(f,qc e)|.inr b=>w b
def nD {α β:Type} {f:dh} {x:Option (Int⊕α)} {v:Int⊕β} {g:β→α} {K:α→Option (dh×dg)} {w:β→dh×dg} (hx:x=some (cr g v)) (hK:∀b,v=.inr b→K (g b)=some (w b)) :
  (x.bind fun r=>bO r (fun e=>some (f,(⟨e,0,0,0,0,[],[]⟩:dg))) K)=some (fS f v w):=by
 subst hx;cases v with
 |inl e=>rfl
 |inr b=>exact hK b rfl
def pj {β:Type} (f:dh) (g:β→uv) (v:Int⊕β):jz f (cr g v)=fS f v fun b=>jz f (.inr (g b)):=by cases v<;>rfl
def K3 (t:θ) (H:List ay) (Q:List aA) {o:bN} (e:o.τ=1):dH t H Q o=cr (fun n=>(none,H,Q,⟨0,n.κ,n.τ,0,0,[],[]⟩)) (ko t o.cF):=by
 unfold dH;rw [if_pos e]
def GJ (t:θ) (H:List ay) (Q:List aA) {o:bN} (e:o.τ=2):dH t H Q o=cr (fun z=>(some z.1,H,z.2.1,⟨0,z.2.2,o.N,0,0,[],[]⟩)) (BM t H Q o):=by
 unfold dH;rw [if_neg (by omega),if_pos e]
def QS (t:θ) (H:List ay) (Q:List aA) {o:bN} (e:o.τ=3):dH t H Q o=cr (fun z=>(some z.1,H,z.2.1,⟨0,z.2.2,0,0,0,[],[]⟩)) (Jk t H Q o):=by
 unfold dH;rw [if_neg (by omega),if_neg (by omega),if_pos e]
def QT (t:θ) (H:List ay) (Q:List aA) {o:bN} (e:o.τ=4):dH t H Q o=cr (fun z=>(some z.1,H,z.2.1,⟨0,z.2.2,0,0,0,[],[]⟩)) (K1 t H Q o):=by
 unfold dH;iterate 3 rw [if_neg (by omega)]
 rw [if_pos e]
def K4 (t:θ) (H:List ay) (Q:List aA) {o:bN} (e:o.τ=5):dH t H Q o=cr (fun z=>(some z.1,H,z.2.1,⟨0,z.2.2,0,0,0,[],[]⟩)) (E9 t H Q o):=by
 unfold dH;iterate 4 rw [if_neg (by omega)]
 rw [if_pos e]
def K8 (t:θ) (H:List ay) (Q:List aA) {o:bN} (e:o.τ=6):dH t H Q o=cr (fun z=>(none,H,Q,⟨0,0,0,z.1,0,z.2,[]⟩)) (E3 t o):=by
 unfold dH;iterate 5 rw [if_neg (by omega)]
 rw [if_pos e]
def QU (t:θ) (H:List ay) (Q:List aA) {o:bN} (e:o.τ=7):dH t H Q o=cr (fun n=>(none,H,Q,⟨0,n.κ,n.τ,n.a_,FW n,[],[]⟩)) (ko t o.cF):=by
 unfold dH;iterate 6 rw [if_neg (by omega)]
 rw [if_pos e]
def QV (t:θ) (H:List ay) (Q:List aA) {o:bN} (e:o.τ=8):dH t H Q o=cr (fun z=>(none,z.1,Q,⟨0,z.2,0,0,0,[],[]⟩)) (JD t H o):=by
 unfold dH;iterate 7 rw [if_neg (by omega)]
 rw [if_pos e]
def QW (t:θ) (H:List ay) (Q:List aA) {o:bN} (e:o.τ=9):dH t H Q o=cr (fun z=>(some z.1,z.2,Q,⟨0,0,0,0,0,[],[]⟩)) (HJ t H o):=by
 unfold dH;iterate 8 rw [if_neg (by omega)]
 rw [if_pos e]
def QN (t:θ) (H:List ay) (Q:List aA) {o:bN} (e:o.τ=10):dH t H Q o=cr (fun z=>(none,H,Q,⟨0,z.1,0,0,0,[],z.2⟩)) (J5 t H o):=by
 unfold dH;iterate 9 rw [if_neg (by omega)]
 rw [if_pos e]
def QO (t:θ) (H:List ay) (Q:List aA) {o:bN} (e:o.τ=11):dH t H Q o=cr (fun z=>(some z.1,H,z.2.1,⟨0,z.2.2.1,0,0,z.2.2.2,[],[]⟩)) (Lf t H Q o):=by
 unfold dH;iterate 10 rw [if_neg (by omega)]
 rw [if_pos e]
def QP (t:θ) (H:List ay) (Q:List aA) {o:bN} (e:o.τ=12):dH t H Q o=cr (fun z=>(some z.1,H,z.2.1,⟨0,z.2.2.1,0,0,z.2.2.2,[],[]⟩)) (HN t H Q o):=by
 unfold dH;iterate 11 rw [if_neg (by omega)]
 rw [if_pos e]
def QQ (t:θ) (H:List ay) (Q:List aA) {o:bN} (e:o.τ=13):dH t H Q o=cr (fun z=>(some z.1,H,z.2.1,⟨0,z.2.2,0,0,0,[],[]⟩)) (Jj t H Q o):=by
 unfold dH;iterate 12 rw [if_neg (by omega)]
 rw [if_pos e]
def QR (t:θ) (H:List ay) (Q:List aA) {o:bN} (e:o.τ=17):dH t H Q o=.inr (some (wz t H o.aW).1,(wz t H o.aW).2,Q,⟨0,0,0,0,0,[],[]⟩):=by
 unfold dH;iterate 13 rw [if_neg (by omega)]
 rw [if_pos e]
def aiQ (t:θ) (H:List ay) (Q:List aA) {o:bN} (e:¬(1≤o.τ∧o.τ≤17)):dH t H Q o=.inl 1:=by
 unfold dH;iterate 14 rw [if_neg (by omega)]
section
variable {k:Nat} {f:dh} {o:bN}
def afk (h:FI k f) (hk:k≤60) (ho:OB o) (e:o.τ=1):fg 62 f o ()=some (jz f (dH f.S.Γ f.Holds f.bc o)):=by
 unfold fg;refine (if_pos (by decide)).trans ?_;rw [K3 _ _ _ e,pj];refine nD (af9 h hk ho) ?_;intro b _;rfl
def aft (h:FI k f) (hk:k≤60) (ho:OB o) (e:o.τ=2):fg 63 f o ()=some (jz f (dH f.S.Γ f.Holds f.bc o)):=by
 unfold fg;refine (if_neg (by decide)).trans ?_;refine (if_pos (by decide)).trans ?_;rw [GJ _ _ _ e,pj];refine nD (af_ h hk ho) ?_;intro b _;rfl
def afu (h:FI k f) (hk:k≤60) (ho:OB o) (e:o.τ=3):fg 64 f o ()=some (jz f (dH f.S.Γ f.Holds f.bc o)):=by
 unfold fg;iterate 2 refine (if_neg (by decide)).trans ?_
 refine (if_pos (by decide)).trans ?_;rw [QS _ _ _ e,pj];refine nD (af7 h hk ho) ?_;intro b _;rfl
def afv (h:FI k f) (hk:k≤60) (ho:OB o) (e:o.τ=4):fg 65 f o ()=some (jz f (dH f.S.Γ f.Holds f.bc o)):=by
 unfold fg;iterate 3 refine (if_neg (by decide)).trans ?_
 refine (if_pos (by decide)).trans ?_;rw [QT _ _ _ e,pj];refine nD (ago h hk ho) ?_;intro b _;rfl
def afw (h:FI k f) (hk:k≤60) (ho:OB o) (e:o.τ=5):fg 66 f o ()=some (jz f (dH f.S.Γ f.Holds f.bc o)):=by
 unfold fg;iterate 4 refine (if_neg (by decide)).trans ?_
 refine (if_pos (by decide)).trans ?_;rw [K4 _ _ _ e,pj];refine nD (agj h hk ho) ?_;intro b _;rfl
def afx (h:FI k f) (hk:k≤60) (ho:OB o) (e:o.τ=6):fg 67 f o ()=some (jz f (dH f.S.Γ f.Holds f.bc o)):=by
 unfold fg;iterate 5 refine (if_neg (by decide)).trans ?_
 refine (if_pos (by decide)).trans ?_;rw [K8 _ _ _ e,pj];refine nD (af8 h hk ho) ?_;intro b _;rfl
def afy (h:FI k f) (hk:k≤60) (ho:OB o) (e:o.τ=7):fg 68 f o ()=some (jz f (dH f.S.Γ f.Holds f.bc o)):=by
 unfold fg;iterate 6 refine (if_neg (by decide)).trans ?_
 refine (if_pos (by decide)).trans ?_;rw [QU _ _ _ e,pj];refine nD (agm h hk ho) ?_;intro b _;rfl
def afz (h:FI k f) (hk:k≤60) (ho:OB o) (e:o.τ=8):fg 69 f o ()=some (jz f (dH f.S.Γ f.Holds f.bc o)):=by
 unfold fg;iterate 7 refine (if_neg (by decide)).trans ?_
 refine (if_pos (by decide)).trans ?_;rw [QV _ _ _ e,pj];refine nD (agc h hk ho) ?_;intro b _;rfl
def afA (h:FI k f) (hk:k≤60) (ho:OB o) (e:o.τ=9):fg 70 f o ()=some (jz f (dH f.S.Γ f.Holds f.bc o)):=by
 unfold fg;iterate 8 refine (if_neg (by decide)).trans ?_
 refine (if_pos (by decide)).trans ?_;rw [QW _ _ _ e,pj];refine nD (afR h hk ho) ?_;intro b _;rfl
def afl (h:FI k f) (hk:k≤60) (ho:OB o) (e:o.τ=10):fg 71 f o ()=some (jz f (dH f.S.Γ f.Holds f.bc o)):=by
 unfold fg;iterate 9 refine (if_neg (by decide)).trans ?_
 refine (if_pos (by decide)).trans ?_;rw [QN _ _ _ e,pj];refine nD (agh h hk ho) ?_;intro b _;rfl
def afm (h:FI k f) (hk:k≤60) (ho:OB o) (e:o.τ=11):fg 72 f o ()=some (jz f (dH f.S.Γ f.Holds f.bc o)):=by
 unfold fg;iterate 10 refine (if_neg (by decide)).trans ?_
 refine (if_pos (by decide)).trans ?_;rw [QO _ _ _ e,pj];refine nD (agq h hk ho) ?_;intro b _;rfl
def afn (h:FI k f) (hk:k≤60) (ho:OB o) (e:o.τ=12):fg 73 f o ()=some (jz f (dH f.S.Γ f.Holds f.bc o)):=by
 unfold fg;iterate 11 refine (if_neg (by decide)).trans ?_
 refine (if_pos (by decide)).trans ?_;rw [QP _ _ _ e,pj];refine nD (afU h hk ho) ?_;intro b _;rfl
def afo (h:FI k f) (hk:k≤60) (ho:OB o) (e:o.τ=13):fg 74 f o ()=some (jz f (dH f.S.Γ f.Holds f.bc o)):=by
 unfold fg;iterate 12 refine (if_neg (by decide)).trans ?_
 refine (if_pos (by decide)).trans ?_;rw [QQ _ _ _ e,pj];refine nD (af6 h hk ho) ?_;intro b _;rfl
def afs (h:FI k f) (hk:k≤60) (ho:OB o) (e:o.τ=17):fg 78 f o ()=some (jz f (dH f.S.Γ f.Holds f.bc o)):=by
 unfold fg;iterate 16 refine (if_neg (by decide)).trans ?_
 refine (if_pos (by decide)).trans ?_;rw [QR _ _ _ e];have e2:=afS h hk ho;unfold eb at e2;rw [e2];rfl
def afp (h:FI k f) (hk:k≤60) (ho:OB o):fg 75 f o ()=some (wo f (xq f o) fun i=>⟨0,0,0,i,0,[],[]⟩):=by
 unfold fg;iterate 13 refine (if_neg (by decide)).trans ?_
 refine (if_pos (by decide)).trans ?_;refine (nD (w:=fun z=>(⟨z.1,f.Holds,f.bc⟩,⟨0,0,0,z.2,0,[],[]⟩)) (agn h hk ho) fun b _=>rfl).trans ?_;cases xq f o<;>rfl
def afq (h:FI k f) (hk:k≤60) (ho:OB o):fg 76 f o ()=some (match xd f o with|.inl e=>(f,qc e)|.inr z=>(f,⟨0,z.1,z.2.1,z.2.2.1,z.2.2.2.1,z.2.2.2.2.1,z.2.2.2.2.2⟩)):=by
 unfold fg;iterate 14 refine (if_neg (by decide)).trans ?_
 refine (if_pos (by decide)).trans ?_;have e2:=(W2 h hk ho).1;unfold eb at e2;rw [e2];cases xd f o<;>rfl
def afr (h:FI k f) (hk:k≤60) (ho:OB o):fg 77 f o ()=some (wo f (we f o) fun _=>⟨0,0,0,0,0,[],[]⟩):=by
 unfold fg;iterate 15 refine (if_neg (by decide)).trans ?_
 refine (if_pos (by decide)).trans ?_;refine (nD (w:=fun z=>(⟨z.1,f.Holds,f.bc⟩,⟨0,0,0,0,0,[],[]⟩)) (afX h hk) fun b _=>rfl).trans ?_;cases we f o<;>rfl
def S3 (hc:¬(0≤o.aW∧o.aW<16)):kM f o=(f,qc 1):=if_pos hc
def SZ (hc:0≤o.aW∧o.aW<16) (e:o.τ=14):kM f o=wo f (xq f o) fun i=>⟨0,0,0,i,0,[],[]⟩:=by
 unfold kM;rw [if_neg (not_not_intro hc),if_pos e]
def S1 (hc:0≤o.aW∧o.aW<16) (e:o.τ=15):kM f o=(match xd f o with|.inl e=>(f,qc e)|.inr z=>(f,⟨0,z.1,z.2.1,z.2.2.1,z.2.2.2.1,z.2.2.2.2.1,z.2.2.2.2.2⟩)):=by
 unfold kM;rw [if_neg (not_not_intro hc),if_neg (by omega),if_pos e]
def S2 (hc:0≤o.aW∧o.aW<16) (e:o.τ=16):kM f o=wo f (we f o) fun _=>⟨0,0,0,0,0,[],[]⟩:=by
 unfold kM;rw [if_neg (not_not_intro hc),if_neg (by omega),if_neg (by omega),if_pos e]
def jM (hc:0≤o.aW∧o.aW<16) (e:o.τ≠14∧o.τ≠15∧o.τ≠16):kM f o=jz f (dH f.S.Γ f.Holds f.bc o):=by
 unfold kM;rw [if_neg (not_not_intro hc),if_neg (by omega),if_neg (by omega),if_neg (by omega)]
def BV (h:FI k f) (hk:k≤60) (ho:OB o):pk f o=some (kM f o):=by
 unfold pk;rw [agp,akD];simp only [cm,akE];by_cases hc:0≤o.aW∧o.aW<16
 ·have c1:decide (o.aW≥0)=true:=by simp;omega
  have c2:decide (o.aW<16)=true:=by simp;omega
  by_cases hK:1≤o.τ∧o.τ≤17
  ·simp only [if_pos hK,Option.isSome_some,if_true,c1,c2,cm,Ay];refine ε.eq (ε.check (by decide) (fun _=>?_) fun h=>(by cases h))
   rcases (by omega:o.τ=1∨o.τ=2∨o.τ=3∨o.τ=4∨o.τ=5∨o.τ=6∨o.τ=7∨o.τ=8∨o.τ=9∨o.τ=10∨o.τ=11∨o.τ=12∨o.τ=13∨o.τ=14∨o.τ=15∨o.τ=16∨o.τ=17) with e|e|e|e|e|e|e|e|e|e|e|e|e|e|e|e|e
   ·rw [show o.τ+61=62 by omega,jM hc (by omega)];exact ⟨_,afk h hk ho e,rfl⟩
   ·rw [show o.τ+61=63 by omega,jM hc (by omega)];exact ⟨_,aft h hk ho e,rfl⟩
   ·rw [show o.τ+61=64 by omega,jM hc (by omega)];exact ⟨_,afu h hk ho e,rfl⟩
   ·rw [show o.τ+61=65 by omega,jM hc (by omega)];exact ⟨_,afv h hk ho e,rfl⟩
   ·rw [show o.τ+61=66 by omega,jM hc (by omega)];exact ⟨_,afw h hk ho e,rfl⟩
   ·rw [show o.τ+61=67 by omega,jM hc (by omega)];exact ⟨_,afx h hk ho e,rfl⟩
   ·rw [show o.τ+61=68 by omega,jM hc (by omega)];exact ⟨_,afy h hk ho e,rfl⟩
   ·rw [show o.τ+61=69 by omega,jM hc (by omega)];exact ⟨_,afz h hk ho e,rfl⟩
   ·rw [show o.τ+61=70 by omega,jM hc (by omega)];exact ⟨_,afA h hk ho e,rfl⟩
   ·rw [show o.τ+61=71 by omega,jM hc (by omega)];exact ⟨_,afl h hk ho e,rfl⟩
   ·rw [show o.τ+61=72 by omega,jM hc (by omega)];exact ⟨_,afm h hk ho e,rfl⟩
   ·rw [show o.τ+61=73 by omega,jM hc (by omega)];exact ⟨_,afn h hk ho e,rfl⟩
   ·rw [show o.τ+61=74 by omega,jM hc (by omega)];exact ⟨_,afo h hk ho e,rfl⟩
   ·rw [show o.τ+61=75 by omega,SZ hc e];exact ⟨_,afp h hk ho,rfl⟩
   ·rw [show o.τ+61=76 by omega,S1 hc e];exact ⟨_,afq h hk ho,rfl⟩
   ·rw [show o.τ+61=77 by omega,S2 hc e];exact ⟨_,afr h hk ho,rfl⟩
   ·rw [show o.τ+61=78 by omega,jM hc (by omega)];exact ⟨_,afs h hk ho e,rfl⟩
  ·rw [jM hc (by omega),aiQ _ _ _ hK];simp only [if_neg hK,Option.isSome_none,kC,if_false,cm];exact ε.eq (ε.check (by decide) (fun h=>(by cases h)) fun _=>ε.ret rfl)
 ·rw [S3 hc];refine ε.eq (ε.bind (R:=(·=((if 1≤o.τ∧o.τ≤17 then some (o.τ+61) else none).isSome&&decide (o.aW≥0)))) (ε.ite (fun e=>ε.ret (by rw [e];rfl)) fun e=>ε.ret (by rw [ic.2 e];rfl)) fun c1 h1=>ε.bind (R:=(·=false)) (ε.ite (fun e=>ε.ret ?_) fun e=>ε.ret rfl) fun c2 h2=>?_)
  ·rw [h1,bJ,decide_eq_true_eq] at e;rw [decide_eq_false_iff_not];omega
  ·subst h2;exact ε.check (by decide) (fun h=>(by cases h)) fun _=>ε.ret rfl
end
end
section
structure AB (a:dg):Prop where
 e:Ξ a.sf
 i:Ξ a.κ
 k:Ξ a.τ
 n:Ξ a.N
 m:Ξ a.M
 nl:a.da.length≤64
 ns:∀s,s∈a.da→s.length≤32
 d:a.az.length≤5000
def Sm (e:Int):Prop:=0≤e∧e≤200
def Sm.i {e:Int} (h:Sm e):Ξ e:=by unfold Sm at h;unfold Ξ;omega
def cz:Ξ 0:=by unfold Ξ;omega
def fG {α:Type} (v:Int⊕α):Prop:=∀e,v=.inl e→Sm e
def fG.bS {α β:Type} {v:Int⊕α} {k:α→Int⊕β} (h:fG v) (hk:∀a,fG (k a)):fG (Go.Proofs.bS v k):=by
 cases v with
 |inl e=>intro e' he;cases he;exact h e rfl
 |inr a=>exact hk a
def fG.mS {β:Type} {e:Int} {v:Int⊕β} (h:Sm e) (hv:fG v):fG (Go.Proofs.mS e v):=by
 unfold Go.Proofs.mS;split
 ·intro e' he;cases he;exact h
 ·exact hv
def fG.inr {α:Type} {a:α}:fG (.inr a:Int⊕α):=fun e he=>by cases he
def fG.inl {α:Type} {e:Int} (h:Sm e):fG (.inl e:Int⊕α):=fun e' he=>by cases he;exact h
def fG.cr {α β:Type} {g:α→β} {v:Int⊕α} (h:fG v):fG (Go.Proofs.cr g v):=by
 cases v with
 |inl e=>intro e' he;cases he;exact h e rfl
 |inr a=>exact .inr
def pO {α β:Type} {g:α→β} {v:Int⊕α} {r:β} (h:cr g v=.inr r):∃a,v=.inr a∧g a=r:=by
 cases v with
 |inl e=>cases h
 |inr a=>cases h;exact ⟨a,rfl,rfl⟩
section
variable {B:Nat} {t:θ}
def KJ (l:List ξ) (i:Int):Sm (dF l i).2:=by unfold dF Sm;(repeat' split)<;>dsimp only<;>omega
def KK (t:θ) (i:Int) (s:List UInt8):Sm (eV t i s).2:=by
 have:=KJ t.η i;unfold eV Sm at *;split
 ·exact this
 split
 ·dsimp only;omega
 split<;>dsimp only<;>omega
def Yd (t:θ):∀(l:List (List UInt8)) (i:Int),Sm (tY t i l).2
 |[],i=>by unfold tY Sm;dsimp only;omega
 |s::r,i=>by
  unfold tY;split
  ·exact KK t i s
  ·exact Yd t r _
def Yc (t:θ) (p:List UInt8):Sm (qB t p).2:=by
 unfold qB;split
 ·have:=(Gs (p:=p)).2.2;unfold Sm;dsimp only;omega
 ·exact Yd t _ _
def ah1 (p:List UInt8):Sm (oP p).2.2:=by unfold oP Sm;split<;>dsimp only<;>omega
def Ya (t:θ) (i:Int) (s:List UInt8):Sm (sG t i s):=by
 have:=KJ t.η i;unfold sG Sm at *;split
 ·exact this
 (repeat' split)<;>omega
def ahX (t:θ) (i:Int) (s:List UInt8) (k:Int):Sm (mJ t i s k).2.2:=by
 have:=Ya t i s;unfold mJ Sm at *;split
 ·dsimp only;omega
 split
 ·exact this
 split<;>dsimp only<;>omega
def ah3 (t:θ) (i to:Int) (s:List UInt8):Sm (th t i to s).2:=by
 have:=Ya t to s;unfold th Sm at *;split
 ·dsimp only;omega
 split
 ·dsimp only;omega
 split
 ·exact this
 ·dsimp only;omega
def ah_ (t:θ) (i:Int) (s:List UInt8):Sm (qz t i s).2.2:=by
 have:=KK t i s;unfold qz Sm at *;split
 ·exact this
 split<;>dsimp only<;>omega
def ah4 (t:θ) (i:Int) (s:List UInt8) (to:Int) (aI:List UInt8):Sm (qu t i s to aI).2.2:=by
 have h1:=KK t i s;have h2:=KJ t.η to
 have h3:Sm (sy t (gD t.η (eV t i s).1) (bW t to aI)):=by unfold sy Sm;(repeat' split)<;>omega
 unfold qu Sm at *;split
 ·exact h1
 split
 ·exact h2
 split
 ·dsimp only;omega
 split
 ·dsimp only;omega
 split
 ·dsimp only;omega
 split
 ·exact h3
 split<;>dsimp only<;>omega
def ah6 (t:θ) (i:Int) (x:List UInt8):Sm (nY t i x).2:=by unfold nY Sm;(repeat' split)<;>dsimp only<;>omega
def ah7 (t:θ) (l:List aA) (i n b:Int):Sm (vk t l i n b).2:=by unfold vk Sm;(repeat' split)<;>dsimp only<;>omega
def ah0 (l:List ay) (c h:Int):Sm (zx l c h).2:=by unfold zx Sm;split<;>dsimp only<;>omega
def ah5 (t:θ) (l:List ay) (c h i:Int):Sm (u_ t l c h i).2:=by unfold u_ Sm;(repeat' split)<;>dsimp only<;>omega
def ahY (t:θ) (l:List ay) (c h:Int):Sm (pb t l c h).2.2:=by unfold pb Sm;split<;>dsimp only<;>omega
def ah2 (h:RT t) (hf:TF B t) (hB:B≤90000) (i a b:Int):Sm (rG t i a b).2.2:=by
 have hL:=(JJ h hf hB i a b).2;have h2:=KJ t.η i;unfold AE at hL;unfold Sm at *;split at hL
 ·rw [hL];dsimp only;omega
 split at hL
 ·rw [hL];exact h2
 ·obtain ⟨L,-,-,l3⟩:=hL;split at l3
  ·rw [l3];dsimp only;omega
  ·obtain ⟨x,-,hr⟩:=l3;rw [hr];dsimp only;omega
def ah8 (t:θ) (H:List ay) (Q:List aA):fG (xh t H Q):=by
 unfold xh;split
 ·exact .inl (by unfold Sm;omega)
 split
 ·exact .inl (by unfold Sm;omega)
 ·exact .inr
def Ct {α:Type} (t:θ) (H:List ay) (Q:List aA) (x:α):fG (ku t H Q x):=(ah8 t H Q).bS fun _=>.inr
def Ad (t:θ) (p:List UInt8):fG (ko t p):=.mS (Yc t p) .inr
def Gp (t:θ) (p:List UInt8):fG (tM t p):=.mS (ah1 p) (.mS (Yc t _) .inr)
def Qs (t:θ) (H:List ay) (o:bN):fG (wF t H o):=.mS (ah0 _ _ _) (by
 split
 ·exact .inr
 ·exact .inl (by unfold Sm;omega))
def Yb (t:θ) (H:List ay) (Q:List aA) (i:Int) (d:List UInt8):fG (wC t H Q i d):=.mS (ah6 _ _ _) (Ct _ _ _ _)
def Cx {α:Type} {H:List ay} {Q:List aA} {x:α} {z:θ×List aA×α} (hz:ku t H Q x=.inr z) (ht:RF B t) (hq:j6 Q) (hl:Q.length≤16):RF B z.1∧j6 z.2.1∧z.2.1.length≤16∧z.2.2=x:=by
 obtain ⟨w,hw,he⟩:=mL hz;cases he;unfold xh at hw;split at hw
 ·cases hw
 split at hw
 ·cases hw
 cases hw;obtain ⟨h1,h2⟩:=V0 (lP t H) hq;exact ⟨ht.settle H,h1,by dsimp only;omega,rfl⟩
def TN (h:RT t) (hf:TF B t) (hB:B≤4000) (i:Int):NZ (gD t.η i):=by
 rcases wv t.η i with ⟨n,g1,g2⟩|⟨g1,g2⟩
 ·rw [g2];exact .inl (h.nb hf hB (dQ g1).1)
 ·exact .inr g2
def V5 (h:RT t) (hf:TF B t) (hB:B≤4000) (i:Int) (s:List UInt8):Ξ (eV t i s).1:=by
 by_cases h0:(eV t i s).2=0
 ·obtain ⟨m,e,g1,g2,g3,g4,g5,g6⟩:=look_ok h0;rw [g6];have:=h.eR (dQ g1).1 (List.mem_of_find?_eq_some g5);have:=hf.x;unfold Ξ;omega
 ·have:(eV t i s).1=0:=by
   unfold eV at h0 ⊢;by_cases h1:((dF t.η i).2 != 0)=true
   ·rw [if_pos h1]
   rw [if_neg h1] at h0 ⊢;by_cases h2:(!f_ s)=true
   ·rw [if_pos h2]
   rw [if_neg h2] at h0 ⊢;cases hf:(dF t.η i).1.Ω.find? fun e=>e.aN==s with
   |none=>rfl
   |some e=>rw [hf] at h0;exact absurd rfl h0
  rw [this];exact cz
end
def YQ (t:θ) (H:List ay) (Q:List aA) {o:bN} (e:¬o.τ=1∧¬o.τ=2∧¬o.τ=3∧¬o.τ=4∧¬o.τ=5∧¬o.τ=6∧¬o.τ=7∧¬o.τ=8∧¬o.τ=9∧¬o.τ=10∧¬o.τ=11∧¬o.τ=12∧¬o.τ=13∧¬o.τ=17):dH t H Q o=.inl 1:=by
 obtain ⟨e1,e2,e3,e4,e5,e6,e7,e8,e9,sC,sD,qY,sE,sF⟩:=e;unfold dH;rw [if_neg e1,if_neg e2,if_neg e3,if_neg e4,if_neg e5,if_neg e6,if_neg e7,if_neg e8,if_neg e9,if_neg sC,if_neg sD,if_neg qY,if_neg sE,if_neg sF]
structure Hn (B:Nat) (z:uv):Prop where
 t:∀T,z.1=some T→RF B T
 h:qR z.2.1
 hl:z.2.1.length≤64
 q:j6 z.2.2.1
 ql:z.2.2.1.length≤16
 a:AB z.2.2.2
section
variable {k:Nat} {f:dh} {o:bN}
def ad1 {l:List ay} {x:ay} {k:Nat}:(dM l (k:Int) [x]).length=l.length+1:=by
 unfold dM;simp only [cP,dN,lV,cZ,gM];omega
def ae9 (t:θ) {l:List ay} (hs:qR l) (hl:l.length≤64) (c h i:Int):qR (u_ t l c h i).1∧(u_ t l c h i).1.length≤64:=by
 unfold u_;split
 ·exact ⟨hs,hl⟩
 split
 ·exact ⟨hs,hl⟩
 split
 ·exact ⟨hs,hl⟩
 split
 ·exact ⟨hs,hl⟩
 rename_i h4;split
 ·exact ⟨hs,hl⟩
 rename_i h5;rw [decide_eq_true_eq] at h5;exact ⟨ad0 hs (ic.2 h4) i,by dsimp only;rw [ad1];omega⟩
def ah' (h:FI k f) (hk:k≤60):fG (dH f.S.Γ f.Holds f.bc o):=by
 by_cases e1:o.τ=1
 ·rw [K3 _ _ _ e1];exact (Ad _ _).cr
 by_cases e2:o.τ=2
 ·rw [GJ _ _ _ e2];exact fG.cr ((Gp _ _).bS fun _=>.mS (ahX _ _ _ _) (Ct _ _ _ _))
 by_cases e3:o.τ=3
 ·rw [QS _ _ _ e3];exact fG.cr ((Ad _ _).bS fun _=>(Gp _ _).bS fun _=>.mS (ah3 _ _ _ _) (Ct _ _ _ _))
 by_cases e4:o.τ=4
 ·rw [QT _ _ _ e4];exact fG.cr ((Gp _ _).bS fun _=>.mS (ah_ _ _ _) (Ct _ _ _ _))
 by_cases e5:o.τ=5
 ·rw [K4 _ _ _ e5];exact fG.cr ((Gp _ _).bS fun _=>(Gp _ _).bS fun _=>.mS (KK _ _ _) (.mS (ah4 _ _ _ _ _) (Ct _ _ _ _)))
 by_cases e6:o.τ=6
 ·rw [K8 _ _ _ e6];exact fG.cr ((Ad _ _).bS fun _=>.mS (ah2 h.r h.s.f (by omega) _ _ _) .inr)
 by_cases e7:o.τ=7
 ·rw [QU _ _ _ e7];exact (Ad _ _).cr
 by_cases e8:o.τ=8
 ·rw [QV _ _ _ e8];exact fG.cr ((Ad _ _).bS fun _=>.mS (ah5 _ _ _ _ _) .inr)
 by_cases e9:o.τ=9
 ·rw [QW _ _ _ e9];exact fG.cr (.mS (ahY _ _ _ _) .inr)
 by_cases sC:o.τ=10
 ·rw [QN _ _ _ sC];refine fG.cr ((Qs _ _ _).bS fun _=>?_);split
  ·exact .inr
  ·exact .inl (by unfold Sm;omega)
 by_cases sD:o.τ=11
 ·rw [QO _ _ _ sD];refine fG.cr ((Qs _ _ _).bS fun _=>?_);split
  ·split
   ·exact Yb _ _ _ _ _
   ·exact .inl (by unfold Sm;omega)
  ·exact .inl (by unfold Sm;omega)
 by_cases qY:o.τ=12
 ·rw [QP _ _ _ qY];exact fG.cr ((Qs _ _ _).bS fun _=>Yb _ _ _ _ _)
 by_cases sE:o.τ=13
 ·rw [QQ _ _ _ sE];exact fG.cr ((Ad _ _).bS fun _=>.mS (ah7 _ _ _ _ _) (Ct _ _ _ _))
 by_cases sF:o.τ=17
 ·rw [QR _ _ _ sF];exact .inr
 rw [YQ _ _ _ ⟨e1,e2,e3,e4,e5,e6,e7,e8,e9,sC,sD,qY,sE,sF⟩];exact .inl (by unfold Sm;omega)
def ow {i k n m:Int} (hi:Ξ i) (hk:Ξ k) (hn:Ξ n) (hm:Ξ m):AB ⟨0,i,k,n,m,[],[]⟩:=⟨cz,hi,hk,hn,hm,by simp,fun s hs=>(by cases hs),by simp⟩
def ahI {n:ξ} (h:NZ n):Ξ (FW n):=by
 obtain ⟨-,-,-,h4,h5,-⟩:=h.b;unfold FW Ξ;omega
def Ub (h:FI k f) {i:Int} {d:List UInt8} {z:θ×List aA×Int×Int} (hz:wC f.S.Γ f.Holds f.bc i d=.inr z):RF (2+5*k+5) z.1∧j6 z.2.1∧z.2.1.length≤16∧z.2.2=(i,(d.length:Int))∧d.length≤4096:=by
 obtain ⟨h1,h2⟩:=l9 hz;obtain ⟨g1,g2,g3,g4⟩:=Cx h2 ⟨h.r.Xl _ _,h.s.f.Xp _ _⟩ h.q h.ql;refine ⟨g1,g2,g3,g4,?_⟩;unfold nY at h1;split at h1
 ·cases h1
 split at h1
 ·cases h1
 split at h1
 ·cases h1
 ·rename_i h5;rw [decide_eq_true_eq] at h5;omega
def Np (h:FI k f) (hk:k≤60) {n:ξ} (hn:wF f.S.Γ f.Holds o=.inr n):NZ n:=by
 obtain ⟨-,h2⟩:=l9 hn;split at h2
 ·cases h2;exact TN h.r h.s.f (by omega) _
 ·cases h2
def E4 (h:FI k f) (hk:k≤60) {p:List UInt8} {n:ξ} (hn:ko f.S.Γ p=.inr n):NZ n:=by
 obtain ⟨-,h2⟩:=l9 hn;cases h2;exact TN h.r h.s.f (by omega) _
def aiR (h:FI k f) (hk:k≤60) (ho:OB o) {z:uv} (hz:dH f.S.Γ f.Holds f.bc o=.inr z):Hn (2+5*k+5) z:=by
 have hB:2+5*k≤4000:=by omega
 have no:∀(a:dg),AB a→Hn (2+5*k+5) (none,f.Holds,f.bc,a):=fun a ha=>⟨fun T hT=>(by cases hT),h.h,h.hl,h.q,h.ql,ha⟩;have st:∀(T:θ) (Q:List aA) (a:dg),RF (2+5*k+5) T→j6 Q→Q.length≤16→AB a→Hn (2+5*k+5) (some T,f.Holds,Q,a):=fun T Q a hT h1 h2 ha=>⟨fun T' hT'=>(by cases hT';exact hT),h.h,h.hl,h1,h2,ha⟩;by_cases e1:o.τ=1
 ·rw [K3 _ _ _ e1] at hz;obtain ⟨n,hn,rfl⟩:=pO hz;have hb:=(E4 h hk hn).b;exact no _ (ow hb.1 hb.2.1 cz cz)
 by_cases e2:o.τ=2
 ·rw [GJ _ _ _ e2] at hz;obtain ⟨w,hw,rfl⟩:=pO hz;obtain ⟨y,-,h2⟩:=mL hw;obtain ⟨-,h3⟩:=l9 h2;obtain ⟨g1,g2,g3,g4⟩:=Cx h3 ⟨h.r.add _ _ _,h.s.f.Ho (by omega) _ _ _⟩ h.q h.ql;refine st _ _ _ g1 g2 g3 (ow ?_ ho.n cz cz);rw [g4];have hx:=h.s.f.x;unfold mJ;split
  ·exact cz
  split
  ·exact cz
  split
  ·exact cz
  ·unfold Ξ;dsimp only;omega
 by_cases e3:o.τ=3
 ·rw [QS _ _ _ e3] at hz;obtain ⟨w,hw,rfl⟩:=pO hz;obtain ⟨n,hn,h2⟩:=mL hw;obtain ⟨y,-,h2⟩:=mL h2;obtain ⟨-,h3⟩:=l9 h2;obtain ⟨g1,g2,g3,g4⟩:=Cx h3 ⟨h.r.ln _ _ _,h.s.f.V4 (by omega) _ _ _⟩ h.q h.ql;refine st _ _ _ g1 g2 g3 (ow ?_ cz cz cz);rw [g4];exact (E4 h hk hn).b.1
 by_cases e4:o.τ=4
 ·rw [QT _ _ _ e4] at hz;obtain ⟨w,hw,rfl⟩:=pO hz;obtain ⟨y,-,h2⟩:=mL hw;obtain ⟨-,h3⟩:=l9 h2;obtain ⟨g1,g2,g3,g4⟩:=Cx h3 ⟨h.r.un _ _,h.s.f.YL (by omega) _ _⟩ h.q h.ql;refine st _ _ _ g1 g2 g3 (ow ?_ cz cz cz);rw [g4];have hx:=V5 h.r h.s.f hB y.1 y.2;unfold qz;split
  ·exact cz
  split
  ·exact cz
  ·exact hx
 by_cases e5:o.τ=5
 ·rw [K4 _ _ _ e5] at hz;obtain ⟨w,hw,rfl⟩:=pO hz;obtain ⟨y,-,h2⟩:=mL hw;obtain ⟨y',-,h2⟩:=mL h2;obtain ⟨-,h2⟩:=l9 h2;obtain ⟨-,h3⟩:=l9 h2;obtain ⟨g1,g2,g3,g4⟩:=Cx h3 ⟨h.r.mv _ _ _ _,h.s.f.OZ (by omega) _ _ _ _⟩ h.q h.ql;refine st _ _ _ g1 g2 g3 (ow ?_ cz cz cz);rw [g4];exact V5 h.r h.s.f hB _ _
 by_cases e6:o.τ=6
 ·rw [K8 _ _ _ e6] at hz;obtain ⟨w,hw,rfl⟩:=pO hz;obtain ⟨n,hn,h2⟩:=mL hw;obtain ⟨-,h3⟩:=l9 h2;cases h3;obtain ⟨l1,l2,l3,l4⟩:=V2 h.r h.s.f hB n.κ o.N o.M;refine no _ ⟨cz,cz,cz,l3,cz,by simpa using l1,fun s hs=>?_,by simp⟩;obtain ⟨e,he,rfl⟩:=dq.1 hs;exact l2 e he
 by_cases e7:o.τ=7
 ·rw [QU _ _ _ e7] at hz;obtain ⟨n,hn,rfl⟩:=pO hz;have hn:=E4 h hk hn;have hb:=hn.b;exact no _ (ow hb.1 hb.2.1 hb.2.2.1 (ahI hn))
 by_cases e8:o.τ=8
 ·rw [QV _ _ _ e8] at hz;obtain ⟨w,hw,rfl⟩:=pO hz;obtain ⟨n,hn,h2⟩:=mL hw;obtain ⟨-,h3⟩:=l9 h2;cases h3;obtain ⟨o1,o2⟩:=ae9 f.S.Γ h.h h.hl o.aW o.bY n.κ;exact ⟨fun T hT=>(by cases hT),o1,o2,h.q,h.ql,ow (E4 h hk hn).b.1 cz cz cz⟩
 by_cases e9:o.τ=9
 ·rw [QW _ _ _ e9] at hz;obtain ⟨w,hw,rfl⟩:=pO hz;obtain ⟨-,h3⟩:=l9 hw;cases h3;have hg:=Me (t:=f.S.Γ) (l:=f.Holds) (n:=64) (B:=2+5*k+5) ⟨h.r,h.s.f.up (by omega),h.hl,h.h⟩ o.aW o.bY;exact ⟨fun T hT=>(by cases hT;exact ⟨hg.r,hg.f⟩),hg.s,hg.l,h.q,h.ql,ow cz cz cz cz⟩
 by_cases sC:o.τ=10
 ·rw [QN _ _ _ sC] at hz;obtain ⟨w,hw,rfl⟩:=pO hz;obtain ⟨n,hn,h2⟩:=mL hw;split at h2
  ·cases h2;have hn:=(Np h hk hn).b;refine no _ ⟨cz,hn.1,cz,cz,cz,by simp,fun s hs=>(by cases hs),?_⟩;unfold J0;have:=hn.2.2.2.1;simp only [dN,lV];omega
  ·cases h2
 by_cases sD:o.τ=11
 ·rw [QO _ _ _ sD] at hz;obtain ⟨w,hw,rfl⟩:=pO hz;obtain ⟨n,hn,h2⟩:=mL hw;split at h2
  ·split at h2
   ·obtain ⟨g1,g2,g3,g4,g5⟩:=Ub h h2;refine st _ _ _ g1 g2 g3 ?_;rw [g4];exact ow (Np h hk hn).b.1 cz cz (by unfold Ξ;dsimp only;omega)
   ·cases h2
  ·cases h2
 by_cases qY:o.τ=12
 ·rw [QP _ _ _ qY] at hz;obtain ⟨w,hw,rfl⟩:=pO hz;obtain ⟨n,hn,h2⟩:=mL hw;obtain ⟨g1,g2,g3,g4,g5⟩:=Ub h h2;refine st _ _ _ g1 g2 g3 ?_;rw [g4];exact ow (Np h hk hn).b.1 cz cz (by unfold Ξ;dsimp only;omega)
 by_cases sE:o.τ=13
 ·rw [QQ _ _ _ sE] at hz;obtain ⟨w,hw,rfl⟩:=pO hz;obtain ⟨n,hn,h2⟩:=mL hw;obtain ⟨-,h3⟩:=l9 h2;have hs:=XP (t:=f.S.Γ) h.q h.ql n.κ o.N o.M;obtain ⟨g1,g2,g3,g4⟩:=Cx h3 h.rf hs.1 hs.2;refine st _ _ _ g1 g2 g3 (ow ?_ cz cz cz);rw [g4];exact (E4 h hk hn).b.1
 by_cases sF:o.τ=17
 ·rw [QR _ _ _ sF] at hz;cases hz;have hg:=MN (n:=64) (B:=2+5*k+5) o.aW f.Holds (a:=(f.S.Γ,f.Holds)) ⟨h.r,h.s.f.up (by omega),h.hl,h.h⟩;exact ⟨fun T hT=>(by cases hT;exact ⟨hg.r,hg.f⟩),hg.s,hg.l,h.q,h.ql,ow cz cz cz cz⟩
 rw [YQ _ _ _ ⟨e1,e2,e3,e4,e5,e6,e7,e8,e9,sC,sD,qY,sE,sF⟩] at hz;cases hz
def FI.up (h:FI k f) {j:Nat} (hj:k≤j):FI j f:=⟨h.s.up hj,h.r,h.k,h.h,h.hl,h.q,h.ql⟩
def JW (s:bx) (t:θ):(fb s t).Γ=t:=by
 unfold fb;split
 ·assumption
 ·rfl
def FI.vis (h:FI k f) (hk:k≤60) {z:uv} (hz:Hn (2+5*k+5) z):FI (k+1) ⟨Xo f.S z.1,z.2.1,z.2.2.1⟩:=by
 cases uX:z.1 with
 |none=>exact ⟨h.s.up (by omega),h.r,h.k,hz.h,hz.hl,hz.q,hz.ql⟩
 |some T =>
  have hT:=hz.t T uX;refine ⟨h.s.agH (by omega) hT.r.ts hT.f,?_,h.k.put hT.r hT.f (by omega),hz.h,hz.hl,hz.q,hz.ql⟩;show RT (fb f.S T).Γ;rw [JW];exact hT.r
def ah9:fG (xq f o):=(Ad _ _).bS fun n=>.mS (by unfold oa Sm;(repeat' split)<;>dsimp only<;>omega) .inr
def ahZ:fG (we f o):=.mS (by unfold pf Sm;split<;>dsimp only<;>omega) .inr
def Dn {e:Int} (h:Ξ e):AB (qc e):=⟨h,cz,cz,cz,cz,by simp [qc],fun s hs=>(by cases hs),by simp [qc]⟩
def HQ (h:FI k f) (hk:k≤60) (ho:OB o):FI (k+1) (kM f o).1∧AB (kM f o).2:=by
 by_cases hc:0≤o.aW∧o.aW<16
 ·by_cases DE:o.τ=14
  ·rw [SZ hc DE];unfold wo;cases hv:xq f o with
   |inl e=>exact ⟨h.up (by omega),Dn ((ah9 e hv).i)⟩
   |inr z =>
    obtain ⟨n,-,h2⟩:=mL hv;obtain ⟨-,h3⟩:=l9 h2;cases h3;have hx:=h.s.nx
    have hr:(oa f.S n.κ).1.Γ=f.S.Γ:=by unfold oa;(repeat' split)<;>rfl
    refine ⟨⟨h.s.take _,by dsimp only;rw [hr];exact h.r,h.k.take _,h.h,h.hl,h.q,h.ql⟩,ow cz cz ?_ cz⟩;unfold oa;split
    ·exact cz
    split
    ·exact cz
    split
    ·exact cz
    ·unfold Ξ;dsimp only;omega
  by_cases DF:o.τ=15
  ·rw [S1 hc DF];have hp:=(W2 h hk ho).2;cases hv:xd f o with
   |inl e=>rw [hv] at hp;exact ⟨h.up (by omega),Dn hp⟩
   |inr z =>
    rw [hv] at hp;obtain ⟨a1,a2,a3,a4,a5,a6,a7⟩:=hp;exact ⟨h.up (by omega),cz,a1,a2,a3,a4,a5,a6,by dsimp only;omega⟩
  by_cases DG:o.τ=16
  ·rw [S2 hc DG];unfold wo;cases hv:we f o with
   |inl e=>exact ⟨h.up (by omega),Dn ((ahZ e hv).i)⟩
   |inr z =>
    obtain ⟨-,h3⟩:=l9 hv;cases h3
    have hr:(pf f.S o.N).1.Γ=f.S.Γ:=by unfold pf;split<;>rfl
    exact ⟨⟨(h.s.drop _).up (by omega),by dsimp only;rw [hr];exact h.r,h.k.drop _,h.h,h.hl,h.q,h.ql⟩,ow cz cz cz cz⟩
  rw [jM hc ⟨DE,DF,DG⟩];unfold jz;cases hv:dH f.S.Γ f.Holds f.bc o with
  |inl e=>exact ⟨h.up (by omega),Dn (ah' h hk e hv).i⟩
  |inr z =>
   have hz:=aiR h hk ho hv;exact ⟨h.vis hk hz,hz.a⟩
 ·rw [S3 hc];exact ⟨h.up (by omega),Dn (by unfold Ξ;omega)⟩
end
end
section
def ly (n:Int):Nat:=if n<0 then (-2*n-1).toNat else (2*n).toNat
def me {n:Int} (h:Ξ n):ly n<18446744073709551616:=by
 unfold Ξ at h;unfold ly;split<;>omega
def akW {a:Nat} (h:a<18446744073709551616):a ^^^ 18446744073709551615=18446744073709551615-a:=by
 have h1:=ZK (x:=BitVec.ofNat 64 a);rw [←ZM,ZL,BitVec.toNat_ofNat,BitVec.toNat_allOnes,Nat.mod_eq_of_lt (by simpa using h)] at h1;simpa using h1
def ags {n:Int} (h:Ξ n):qC .u64 (pP .u64 (IntKind.u64.wrap n) 1) (IntKind.u64.wrap (eX .i64 n 63))=((ly n:Nat):Int):=by
 unfold Ξ at h
 have hs:pP .u64 (IntKind.u64.wrap n) 1=(2*n) % 18446744073709551616:=by
  unfold pP;rw [ZZ,ZZ]
  have:(2:Int) ^ (min (1:Int).toNat IntKind.u64.bits)=2:=by decide
  rw [this];omega
 have hr:eX .i64 n 63=n/9223372036854775808:=by
  unfold eX
  have:(2:Int) ^ (min (63:Int).toNat IntKind.i64.bits)=9223372036854775808:=by decide
  rw [this,Int.fdiv_eq_ediv_of_nonneg _ (by decide)]
 rw [hs,hr];unfold ly;split
 ·rename_i hn
  have e1:n/9223372036854775808=-1:=by omega
  have e2:(2*n) % 18446744073709551616=(((2*n+18446744073709551616).toNat:Nat):Int):=by omega
  have e3:IntKind.u64.wrap (-1)=((18446744073709551615:Nat):Int):=by decide
  rw [e1,e2,e3,Zz (by omega) (by decide),akW (by omega)];congr 1;omega
 ·rename_i hn
  have e1:n/9223372036854775808=0:=by omega
  have e2:(2*n) % 18446744073709551616=(((2*n).toNat:Nat):Int):=by omega
  have e3:IntKind.u64.wrap 0=((0:Nat):Int):=by decide
  rw [e1,e2,e3,Zz (by omega) (by decide),Nat.xor_zero]
def nZ:Nat→Nat→List UInt8
 |0,u=>[iZ u]
 |k+1,u=>if u<128 then [iZ u] else (iZ u ||| 128)::nZ k (u>>>7)
def jZ (u:Nat):List UInt8:=nZ 10 u
def XS:∀(k j u:Nat),u<128 ^ (j+1)→(nZ k u).length≤j+1
 |0,j,u,_=>by simp [nZ]
 |k+1,j,u,h=>by
  unfold nZ;split
  ·simp
  ·cases j with
   |zero=>simp at h;omega
   |succ j =>
    have:=XS k j (u>>>7) (by rw [G9,qP (by decide)];rw [LA] at h;simpa using h);simp only [cZ];omega
def XT:∀(k u:Nat),u<128 ^ (k+1)→nZ (k+1) u=nZ k u
 |0,u,h=>by
  have:u<128:=by simpa using h
  unfold nZ;rw [if_pos this]
 |k+1,u,h=>by
  rw [show nZ (k+1+1) u=if u<128 then [iZ u] else (iZ u ||| 128)::nZ (k+1) (u>>>7) from rfl,
   show nZ (k+1) u=if u<128 then [iZ u] else (iZ u ||| 128)::nZ k (u>>>7) from rfl]
  split
  ·rfl
  ·rw [XT k (u>>>7) (by rw [G9,qP (by decide)];rw [LA] at h;simpa using h)]
def ma {u:Nat} (h:u<18446744073709551616):(jZ u).length≤10:=XS 10 9 u (Lw h (by decide))
def W_ {u:Nat} (h:u<128):jZ u=[iZ u]:=by unfold jZ nZ;rw [if_pos h]
def W9 {u:Nat} (h:¬u<128) (hu:u<18446744073709551616):jZ u=(iZ u ||| 128)::jZ (u>>>7):=by
 have h2:u>>>7<128 ^ 10:=gB (aac _ _) (Lw hu (by decide));unfold jZ;rw [nZ,if_neg h,XT 9 _ h2]
def YB (u:Nat):lx (u:Int)=iZ u:=by
 unfold lx
 have:((u:Int) % 256).toNat=u % 256:=by omega
 rw [this];apply R2.1;simp
def Wy:∀(k u:Nat) (acc:List UInt8),u<18446744073709551616→u<128 ^ (k+1)→acc.length+k≤1000000 →
  ∃(v:Nat) (l:List UInt8),loop Fq ((u:Int),acc)=some ((v:Int),l)∧l++[iZ v]=acc++jZ u
 |k,u,acc,hu,hk,ha=>by
  rw [Jl];unfold Fq;by_cases h:u<128
  ·have:decide ((u:Int)≥128)=false:=by simp;omega
   simp only [this];refine ⟨u,acc,rfl,?_⟩;rw [W_ h]
  ·have hd:decide ((u:Int)≥128)=true:=by simp;omega
   cases k with
   |zero=>exact (h (by simpa using hk)).elim
   |succ k =>
    have e:eX .u64 (u:Int) 7=((u>>>7:Nat):Int):=PY (b:=7) (by decide);obtain ⟨v,l,hl,hv⟩:=Wy k (u>>>7) (acc++[iZ u ||| 128]) (gB (aac _ _) hu)
     (by rw [G9,qP (by decide)];rw [LA] at hk;simpa using hk) (by simp;omega)
    refine ⟨v,l,?_,?_⟩
    ·simp only [hd,if_true];rw [gq (by simp only [cZ,gM];omega),e,YB];exact hl
    ·rw [hv,W9 h hu];simp
def Wx {n:Int} (h:Ξ n):zL n=some (jZ (ly n)):=by
 refine ε.eq ?_;unfold zL Xb;rw [ags h];have hz:=me h;obtain ⟨v,l,hl,hv⟩:=Wy 9 (ly n) [] hz (Lw hz (by decide)) (by simp);refine ε.af hl ?_;have hlen:=congrArg List.length hv;have:=ma hz;simp at hlen;refine ε.Ψ (by simp only [cZ,gM];omega) (ε.ret ?_);show l++[lx (v:Int)]=_;rw [YB,hv];rfl
def lu (s:List UInt8):List UInt8:=jZ (ly s.length)++s
def Fi (s:List UInt8) (h:s.length≤1000000):tz s=some (lu s):=by
 refine ε.eq ?_;unfold tz
 have hi:Ξ (s.length:Int):=by unfold Ξ;omega
 have:=ma (me hi);exact ε.af (Wx hi) (ε.Ψ (by omega) (ε.ret rfl))
def m_ (l:List Int):List UInt8:=(l.map fun n=>jZ (ly n)).flatten
def JA:∀{l:List Int},(∀n∈l,Ξ n)→(m_ l).length≤10*l.length
 |[],_=>by simp [m_]
 |n::l,h=>by
  have h1:=ma (me (h n (List.mem_cons_self ..)));have h2:=JA (l:=l) fun m hm=>h m (cj _ hm);unfold m_ at h2 ⊢;simp at h2 ⊢;omega
def Pe (l:List Int) (h:l.length≤100000) (hi:∀n∈l,Ξ n):xb l=some (m_ l):=by
 have key:∀(r:List Int) (n:Nat) (acc:List UInt8),l.drop n=r→n≤l.length→acc.length+10*r.length≤1000000→loop (xc l) ((n:Int),acc)=some (acc++m_ r):=by
  intro r;induction r with
  |nil =>
   intro n acc hd hn _
   have:n=l.length:=by have:=congrArg List.length hd;simp at this;omega
   subst this;refine nT ?_;unfold xc;rw [if_neg (by simp)];simp [out,m_]
  |cons x r ih =>
   intro n acc hd hn ha
   have Φ:n<l.length:=by
    rcases Nat.lt_or_ge n l.length with h|h
    ·exact h
    ·rw [List.drop_eq_nil_of_le h] at hd;cases hd
   rw [sa Φ] at hd;injection hd with hx hr
   have gv:l[n]?=some x:=by rw [bF Φ,hx]
   have kX:=hi x (hx▸ek Φ);have hp:=ma (me kX);simp only [cZ] at ha
   have e:xc l ((n:Int),acc)=some (.inl (((n+1:Nat):Int),acc++jZ (ly x))):=by
    refine ε.eq ?_;unfold xc;refine ε.ite (fun _=>ε.af (cq gv) (ε.af (Wx kX) (ε.Ψ (by dsimp only;omega) (ε.Ψ (by unfold Ξ;omega) (ε.ret rfl))))) (fun hh=>absurd hh (by simp;omega))
   rw [tj e,ih (n+1) _ hr Φ (by simp;omega)];simp [m_]
 unfold xb Xd;have:=key l 0 [] rfl (lX _) (by simp;omega)
 have this:loop (xc l) (0,[])=some (m_ l):=by simpa using this
 rw [this];rfl
def aaC (a:Int):ss .u64 a 1=0∨ss .u64 a 1=1:=by
 unfold ss
 have h1:(eH 64 a &&& eH 64 1).toNat≤1:=by
  rw [BitVec.toNat_and];exact Nat.and_le_right
 have h2:(eH IntKind.u64.bits a &&& eH IntKind.u64.bits 1).toNat≤1:=h1;generalize (eH IntKind.u64.bits a &&& eH IntKind.u64.bits 1).toNat=n at h2
 have:n=0∨n=1:=by omega
 rcases this with rfl|rfl
 ·left;decide
 ·right;decide
def GV (u:Nat):Int:=if u % 2=0 then ((u/2:Nat):Int) else-((u/2:Nat):Int)-1
def akY (n:Int):GV (ly n)=n:=by
 unfold GV ly;by_cases h:n<0
 ·rw [if_pos h];split<;>omega
 ·rw [if_neg h];split<;>omega
def aaz (u:Nat) (h:u<18446744073709551616):ss .u64 (u:Int) 1=((u % 2:Nat):Int):=by
 have:=aaA (b:=1) h (by decide);rw [show (1:Nat)=2 ^ 1-1 from rfl,Nat.and_two_pow_sub_one_eq_mod] at this;exact this
def akV {a:Nat} (h:a<9223372036854775808):qC .i64 (a:Int) 0=a:=by
 unfold qC
 have e:(eH IntKind.i64.bits (a:Int) ^^^ eH IntKind.i64.bits 0).toNat=a:=by
  show (eH 64 (a:Int) ^^^ eH 64 0).toNat=a;rw [ZL,xa (by omega)];exact Nat.xor_zero a
 rw [e,qI _ ⟨by omega,by omega⟩]
def akU {a:Nat} (h:a<9223372036854775808):qC .i64 (a:Int) (-1)=-(a:Int)-1:=by
 unfold qC
 have e:(eH IntKind.i64.bits (a:Int) ^^^ eH IntKind.i64.bits (-1)).toNat=18446744073709551615-a:=by
  show (eH 64 (a:Int) ^^^ eH 64 (-1)).toNat=_
  have:eH 64 (-1)=BitVec.allOnes 64:=by decide
  rw [this,ZM,ZK,xa (by omega)]
 rw [e,IntKind.wrap_i64];omega
def agr {u:Nat} (h:u<18446744073709551616):qC .i64 (IntKind.i64.wrap (eX .u64 (u:Int) 1)) (0-IntKind.i64.wrap (ss .u64 (u:Int) 1))=GV u:=by
 have e1:eX .u64 (u:Int) 1=((u>>>1:Nat):Int):=PY (b:=1) (by decide)
 have e2:u>>>1=u/2:=by rw [G9]
 rw [e1,e2,aaz u h,qI _ ⟨by omega,by omega⟩,qI _ ⟨by omega,by omega⟩];unfold GV
 have:u % 2=0∨u % 2=1:=by omega
 rcases this with e|e
 ·rw [e,if_pos rfl];exact akV (by omega)
 ·rw [e,if_neg (by decide)];exact akU (by omega)
def aew (v:Nat):((iZ v ||| 128) &&& 127).toNat=v % 128:=by
 have h:∀w:Fin 256,((iZ w.1 ||| 128) &&& 127).toNat=w.1 % 128:=by decide +kernel
 have e:iZ v=iZ (v % 256):=by apply R2.1;simp
 have:=h ⟨v % 256,Nat.mod_lt _ (by decide)⟩;rw [e];dsimp only at this;rw [this];omega
def aex {v:Nat} (hv:v<128):(iZ v &&& 127).toNat=v:=by
 have h:∀w:Fin 128,(iZ w.1 &&& 127).toNat=w.1:=by decide +kernel
 exact h ⟨v,hv⟩
def high (v:Nat):128≤(iZ v ||| 128).toNat:=by
 have h:∀w:Fin 256,128≤(iZ w.1 ||| 128).toNat:=by decide +kernel
 have e:iZ v=iZ (v % 256):=by apply R2.1;simp
 rw [e];exact h ⟨v % 256,Nat.mod_lt _ (by decide)⟩
def ae1 {v:Nat} (hv:v<128):(iZ v).toNat=v:=by rw [UInt8.toNat_ofNat'];omega
def WZ {acc v i:Nat} (ha:acc<2 ^ (7*i)) (hi:i≤9) (hu:acc+v*2 ^ (7*i)<18446744073709551616) :
  vd .u64 (acc:Int) (pP .u64 (v:Int) (7*(i:Int)))=((acc+v*2 ^ (7*i):Nat):Int):=by
 have e:(7*(i:Int))=((7*i:Nat):Int):=by omega
 have h2:v*2 ^ (7*i)<18446744073709551616:=by omega
 rw [e,ahE rfl (by rw [vU];omega) (by rw [vU];simpa using h2),ae' (by omega) h2];congr 1;have:=Nat.shiftLeft_add_eq_or_of_lt ha v;rw [Nat.shiftLeft_eq] at this;rw [Nat.or_comm,←this,Nat.add_comm]
def Wz (b rest:List UInt8) (u:Nat) (hu:u<18446744073709551616) (hb:b.length≤100000):∀(k i v acc:Nat) (pre:List UInt8),
  b=pre++(jZ v++rest)→pre.length=i→acc<2 ^ (7*i)→u=acc+v*2 ^ (7*i)→(i=0∨v≠0)→v<128 ^ (k+1)→v<18446744073709551616→i≤9 →
  loop (B0 b) ((acc:Int),(i:Int))=some (GV u,rest,0)
 |k,i,v,acc,pre,Iz,pJ,T6,Vs,Oo,Ou,oL,UE=>by
  have lJ:∀x l,jZ v=x::l→b[i]?=some x:=fun x l e=>by rw [Iz,e,←pJ];simp
  have hlen:∀x l,jZ v=x::l→i<b.length:=fun x l e=>by rw [Iz,e];simp;omega
  by_cases h:v<128
  ·have hp:=W_ h;have hx:=lJ _ _ hp;have sX:=hlen _ _ hp;refine nT (ε.eq ?_);unfold B0;refine ε.ite (fun _=>?_) (fun hh=>absurd hh (by simp;omega));refine ε.af (cq hx) ?_;rw [ae1 h,aex h];refine ε.bind (R:=(·=false)) (ε.bind (R:=(·=false)) (ε.ite (fun h9=>ε.ret ?_) (fun _=>ε.ret rfl)) fun _ h=>ε.ret h) fun c hc=>?_
   ·have h9:i=9:=by simp at h9;omega
    subst h9;refine decide_eq_false ?_
    have:v*2 ^ (7*9)<18446744073709551616:=by omega
    omega
   subst hc;refine ε.ite (fun h=>absurd h (by decide)) fun _=>ε.Ψ (by unfold Ξ;omega) (ε.Ψ (by omega) ?_);refine ε.ite (fun hh=>absurd hh (by simp;omega)) fun _=>?_;refine ε.bind (R:=(·=false)) (ε.bind (R:=(·=false)) (ε.ite (fun h0=>ε.ret ?_) (fun _=>ε.ret rfl)) fun _ h=>ε.ret h) fun c hc=>?_
   ·have h0:v=0:=by simpa using h0
    rcases Oo with hi|aQ
    ·subst hi;rfl
    ·exact (aQ h0).elim
   subst hc;dsimp only;rw [WZ T6 UE (by omega),←Vs];refine ε.ite (fun h=>absurd h (by decide)) fun _=>ε.Ψ ?_ (ε.Ψ (by unfold Ξ;omega) (ε.Ψ (by omega) ?_))
   ·rcases aaC (u:Int) with e|e<;>rw [e]<;>decide
   ·rw [agr hu]
    have hd:b.drop ((i:Int)+1).toNat=rest:=by
     have:((i:Int)+1).toNat=pre.length+1:=by omega
     rw [this,Iz,hp,←List.drop_drop];simp
    rw [hd];exact ε.ret rfl
  ·have hp:=W9 h oL;have hx:=lJ _ _ hp;have sX:=hlen _ _ hp;have kW:=high v
   have hi8:i≤8:=by
    rcases Nat.lt_or_ge i 9 with h'|h'
    ·omega
    ·have:i=9:=by omega
     subst this
     have:v*2 ^ (7*9)<18446744073709551616:=by omega
     omega
   cases k with
   |zero=>exact (h (by simpa using Ou)).elim
   |succ k =>
    have Us:v=v % 128+128*(v/128):=by omega
    have U8:2 ^ (7*(i+1))=128*2 ^ (7*i):=by rw [Nat.mul_add,Nat.pow_add];omega
    have hs:v>>>7=v/128:=by rw [G9]
    have adF:u=(acc+v % 128*2 ^ (7*i))+v/128*2 ^ (7*(i+1)):=by
     rw [Vs,U8]
     have e:v*2 ^ (7*i)=v % 128*2 ^ (7*i)+v/128*(128*2 ^ (7*i)):=by
      rw [←Nat.mul_assoc,←Nat.add_mul,Nat.mul_comm (v/128) 128,←Us]
     omega
    have ab':acc+v % 128*2 ^ (7*i)<2 ^ (7*(i+1)):=by
     rw [U8]
     have:v % 128≤127:=by omega
     have:=Nat.mul_le_mul_right (2 ^ (7*i)) this;omega
    have ih:=Wz b rest u hu hb k (i+1) (v/128) (acc+v % 128*2 ^ (7*i)) (pre++[iZ v ||| 128])
     (by rw [Iz,hp,hs];simp) (by simp [pJ]) ab' adF (.inr (by omega))
     (by rw [LA] at Ou;exact (qP (by decide)).2 Ou) (by omega) (by omega)
    refine (tj (ε.eq ?_)).trans ih;unfold B0;refine ε.ite (fun _=>?_) (fun hh=>absurd hh (by simp;omega));refine ε.af (cq hx) ?_;refine ε.bind (R:=(·=false)) (ε.bind (R:=(·=false)) (ε.ite (fun h9=>by simp at h9;omega) (fun _=>ε.ret rfl)) fun _ h=>ε.ret h) fun c hc=>?_;subst hc;refine ε.ite (fun h=>absurd h (by decide)) fun _=>ε.Ψ (by dsimp only;unfold Ξ;omega) (ε.Ψ (by dsimp only;omega) ?_);refine ε.ite (fun _=>?_) (fun hh=>(hh (decide_eq_true (by omega))).elim);refine ε.Ψ (by dsimp only;unfold Ξ;omega) ?_;dsimp only;rw [aew v,WZ T6 UE (by omega)];exact ε.ret rfl
def afK {n:Int} (hn:Ξ n) (rest:List UInt8) (hl:rest.length≤90000):JM (jZ (ly n)++rest)=some (n,rest,0):=by
 have hz:=me hn;have hp:=ma hz;have:=Wz (jZ (ly n)++rest) rest (ly n) hz (by simp;omega) 9 0 (ly n) 0 [] rfl rfl (by simp) (by simp) (.inl rfl) (Lw hz (by decide)) hz (by omega);rw [akY] at this;exact this
def agt (u:Nat):1≤(jZ u).length:=by
 unfold jZ nZ;split<;>simp
def rL {n:Int} (hn:Ξ n) (rest:List UInt8) (hl:rest.length≤90000):nW ⟨⟨jZ (ly n)++rest⟩,0⟩=some (n,⟨⟨rest⟩,0⟩):=by
 refine ε.eq ?_;unfold nW;exact ε.ite (fun h=>absurd h (by simp)) fun _=>ε.af (afK hn rest hl) (ε.ret rfl)
def WI (n:Nat) (rest:List UInt8) (hn:n≤rest.length) (hl:rest.length≤90000):B2 ⟨⟨jZ (ly n)++rest⟩,0⟩=some ((n:Int),⟨⟨rest⟩,0⟩):=by
 refine ε.eq ?_;unfold B2;exact ε.af (rL (by unfold Ξ;omega) rest hl) (ε.ite (fun h=>absurd h (by simp)) fun _=>ε.ite (fun h=>absurd h (by simp)) fun _=>ε.ite (fun h=>absurd h (by simp;omega)) fun _=>ε.ret rfl)
def Fp (s rest:List UInt8) (hl:s.length+rest.length≤90000):ve ⟨⟨lu s++rest⟩,0⟩=some (s,⟨⟨rest⟩,0⟩):=by
 unfold lu;rw [kD];refine ε.eq ?_;unfold ve JO;refine ε.af (WI s.length (s++rest) (by simp) (by simp;omega)) (ε.ite (fun h=>absurd h (by simp)) fun _=>ε.bind (R:=(·=(s,⟨⟨rest⟩,0⟩))) (ε.Ψ (by simp;omega) (ε.Ψ (by simp;omega) (ε.ret ?_))) fun _ h=>ε.ret h);simp
def tQ (s:List UInt8) (h:s.length≤1000000):(lu s).length≤s.length+10:=by
 unfold lu;have:=ma (me (n:=(s.length:Int)) (by unfold Ξ;omega));simp;omega
def WL:B3 ⟨⟨[]⟩,0⟩=some (0,⟨⟨[]⟩,0⟩):=by
 unfold B3;rfl
def Wj (n:Int) (l:List Int) (r:List UInt8):m_ (n::l)++r=jZ (ly n)++(m_ l++r):=by unfold m_;simp
def Wl (r:List UInt8):m_ []++r=r:=rfl
def JC (o:bN):List UInt8:=m_ [o.τ,o.aW]++(lu o.cF++(lu o.To++(m_ [o.N,o.M,o.bY]++lu o.az)))
def W0 {o:bN} (ho:OB o):zM o=some (JC o):=by
 have h1:=ho.p;have h2:=ho.t;have h3:=ho.d;have l1:=JA (l:=[o.τ,o.aW]) (by intro n hn;simp at hn;exact hn.elim (fun e=>e▸ho.k) fun e=>e▸ho.c);have l2:=JA (l:=[o.N,o.M,o.bY]) (by intro n hn;simp at hn;exact hn.elim (fun e=>e▸ho.n) fun e=>e.elim (fun e=>e▸ho.m) fun e=>e▸ho.h);have s1:=tQ o.cF (by omega);have s2:=tQ o.To (by omega);have s3:=tQ o.az (by omega);simp only [cZ,gM] at l1 l2;refine ε.eq ?_;unfold zM;refine ε.af (Pe _ (by simp) (by intro n hn;simp at hn;exact hn.elim (fun e=>e▸ho.k) fun e=>e▸ho.c)) (ε.af (Fi _ (by omega)) (ε.Ψ (by omega) (ε.af (Fi _ (by omega)) (ε.Ψ (by simp only [cP];omega) ?_))));refine ε.af (Pe _ (by simp) (by intro n hn;simp at hn;exact hn.elim (fun e=>e▸ho.n) fun e=>e.elim (fun e=>e▸ho.m) fun e=>e▸ho.h)) (ε.Ψ (by simp only [cP];omega) (ε.af (Fi _ (by omega)) (ε.Ψ (by simp only [cP];omega) (ε.ret ?_))));unfold JC;simp only [kD]
def W4 {o:bN} (ho:OB o):B1 (JC o)=some (o,0):=by
 have h1:=ho.p;have h2:=ho.t;have h3:=ho.d;have s1:=tQ o.cF (by omega);have s2:=tQ o.To (by omega);have s3:=tQ o.az (by omega);have k1:=ma (me ho.k);have k2:=ma (me ho.c);have k3:=ma (me ho.n);have k4:=ma (me ho.m);have k5:=ma (me ho.h);refine ε.eq ?_;unfold B1 JC;simp only [Wj,Wl];refine ε.af (rL ho.k _ (by simp only [cP];omega)) (ε.af (rL ho.c _ (by simp only [cP];omega)) ?_);refine ε.af (Fp _ _ (by simp only [cP];omega)) (ε.af (Fp _ _ (by simp only [cP];omega)) ?_);refine ε.af (rL ho.n _ (by simp only [cP];omega)) (ε.af (rL ho.m _ (by simp only [cP];omega)) (ε.af (rL ho.h _ (by omega)) ?_));have:=Fp o.az [] (by simp;omega);rw [qJ] at this;refine ε.af this (ε.Ψ (by dsimp only;omega) (ε.af WL ?_));exact ε.cD (by simp) (ε.ret rfl)
def lv (l:List (List UInt8)):List UInt8:=(l.map lu).flatten
def Yt (a b:List (List UInt8)):lv (a++b)=lv a++lv b:=by unfold lv;rw [eI,List.flatten_append]
def Yu (s:List UInt8):lv [s]=lu s:=by unfold lv;simp
def Gv:∀{l:List (List UInt8)},(∀s,s∈l→s.length≤32)→(lv l).length≤42*l.length∧l.length≤(lv l).length
 |[],_=>by simp [lv]
 |s::l,h=>by
  have h1:=h s (by simp);obtain ⟨h2,h3⟩:=Gv (l:=l) fun s hs=>h s (cj _ hs);have h4:=tQ s (by omega)
  have h5:1≤(lu s).length:=by unfold lu;have:=agt (ly s.length);simp;omega
  unfold lv at h2 h3 ⊢;simp only [List.map_cons,List.flatten_cons,cP,cZ];omega
def Hs (a:dg):List UInt8:=m_ [a.sf,a.κ,a.τ,a.N,a.M,(a.da.length:Int)]++(lv a.da++lu a.az)
def Si {a:dg} (ha:AB a):∀n∈[a.sf,a.κ,a.τ,a.N,a.M,(a.da.length:Int)],Ξ n:=by
 intro n hn;have:=ha.nl;simp only [List.mem_cons,List.not_mem_nil,or_false] at hn
 rcases hn with rfl|rfl|rfl|rfl|rfl|rfl
 ·exact ha.e
 ·exact ha.i
 ·exact ha.k
 ·exact ha.n
 ·exact ha.m
 ·unfold Ξ;omega
def agd {a:dg} (ha:AB a):BZ a=some (Hs a):=by
 have zd:=ha.nl;have hd:=ha.d;have l1:=JA (Si ha);simp only [cZ,gM] at l1;obtain ⟨t1,t2⟩:=Gv ha.ns;have s3:=tQ a.az (by omega);refine ε.eq ?_;unfold BZ;refine ε.af (Pe _ (by simp) (Si ha)) ?_;generalize hN:m_ [a.sf,a.κ,a.τ,a.N,a.M,(a.da.length:Int)]=N at *;refine ε.af (a:=N++lv a.da) (ε.eq ?_) (ε.af (Fi _ (by omega)) (ε.Ψ (by simp only [cP];omega) (ε.ret ?_)))
 ·unfold Xa;refine ε.loop (fun s:Int×List UInt8=>∃j:Nat,s.1=(j:Int)∧j≤a.da.length∧s.2=N++lv (a.da.take j)) (fun s=>a.da.length-s.1.toNat) ?_ _ ⟨0,rfl,by omega,by simp [lv]⟩;rintro ⟨s0,b⟩ ⟨j,e1,hj,e2⟩;dsimp only at e1 e2;subst e1;subst e2;unfold JK;dsimp only;by_cases Φ:j<a.da.length
  ·have hx:=bF Φ
   have fT:a.da.take (j+1)=a.da.take j++[a.da[j]]:=by rw [oX,hx];rfl
   have hs:=ha.ns _ (ek Φ);have wU:=tQ a.da[j] (by omega);obtain ⟨t3,-⟩:=Gv (l:=a.da.take j) fun s hs=>ha.ns s (Db hs);rw [dN] at t3;refine ε.cond (by simpa using Φ) (ε.af (cq hx) (ε.af (Fi _ (by omega)) (ε.Ψ (by simp only [cP];omega) (ε.Ψ (by unfold Ξ;omega) (ε.inl ⟨⟨j+1,by dsimp only;omega,Φ,?_⟩,by dsimp only;omega⟩)))));dsimp only;rw [fT,Yt,Yu,kD]
  ·have:j=a.da.length:=by omega
   subst this;exact ε.cD (by simp) (ε.out (ε.ret (by rw [jr])))
 ·unfold Hs;rw [hN,kD]
def agi {a:dg} (ha:AB a):Fs (Hs a)=some (a,0):=by
 have zd:=ha.nl;have hd:=ha.d;obtain ⟨t1,t2⟩:=Gv ha.ns;have s3:=tQ a.az (by omega);have k1:=ma (me ha.e);have k2:=ma (me ha.i);have k3:=ma (me ha.k);have k4:=ma (me ha.n);have k5:=ma (me ha.m);have k6:=ma (me (n:=(a.da.length:Int)) (by unfold Ξ;omega));refine ε.eq ?_;unfold Fs Hs;simp only [Wj,Wl];refine ε.af (rL ha.e _ (by simp only [cP];omega)) (ε.af (rL ha.i _ (by simp only [cP];omega)) (ε.af (rL ha.k _ (by simp only [cP];omega)) (ε.af (rL ha.n _ (by simp only [cP];omega)) (ε.af (rL ha.m _ (by simp only [cP];omega)) ?_))));refine ε.af (a:=(lu a.az,0,a.da)) (ε.eq ?_) ?_
 ·refine ε.af (WI a.da.length (lv a.da++lu a.az) (by simp only [cP];omega) (by simp only [cP];omega)) ?_;unfold Xc;refine ε.loop (fun s:Int×List UInt8×Int×List (List UInt8)=>∃j:Nat,s.1=(j:Int)∧j≤a.da.length∧s.2=(lv (a.da.drop j)++lu a.az,0,a.da.take j)) (fun s=>a.da.length-s.1.toNat) ?_ _ ⟨0,rfl,by omega,rfl⟩;rintro ⟨s0,b⟩ ⟨j,e1,hj,e2⟩;dsimp only at e1 e2;subst e1;subst e2;unfold JL;dsimp only;by_cases Φ:j<a.da.length
  ·have hx:=bF Φ
   have fT:a.da.take (j+1)=a.da.take j++[a.da[j]]:=by rw [oX,hx];rfl
   have qj:a.da.drop j=a.da[j]::a.da.drop (j+1):=sa Φ;have hs:=ha.ns _ (ek Φ);obtain ⟨t3,-⟩:=Gv (l:=a.da.drop (j+1)) fun s hs=>ha.ns s (RQ hs);rw [lV] at t3
   have he:lv (a.da.drop j)++lu a.az=lu a.da[j]++(lv (a.da.drop (j+1))++lu a.az):=by
    rw [qj,show a.da[j]::a.da.drop (j+1)=[a.da[j]]++a.da.drop (j+1) from rfl,Yt,Yu,kD]
   rw [he];refine ε.cond (by simpa using Φ) (ε.af (Fp _ _ (by simp only [cP];omega)) (ε.Ψ (by simp only [dN,cZ,gM];omega) (ε.cD (by simp) (ε.Ψ (by unfold Ξ;omega) (ε.inl ⟨⟨j+1,by dsimp only;omega,Φ,?_⟩,by dsimp only;omega⟩)))));dsimp only;rw [fT]
  ·have:j=a.da.length:=by omega
   subst this;refine ε.cD (by simp) (ε.out (ε.ret ?_));simp [lv]
 ·have:=Fp a.az [] (by simp;omega);rw [qJ] at this;refine ε.af this (ε.Ψ (by dsimp only;omega) (ε.af WL ?_));exact ε.cD (by simp) (ε.ret rfl)
end
section
def rH {B:Int→Option (Int⊕Bool)} (L:Nat) (h1:∀n:Nat,n<L→B (n:Int)=some (.inl ((n:Int)+1))) {r:Bool} (h2:B (L:Int)=some (.inr r)):loop B 0=some r:=by
 refine ε.eq ?_;refine ε.loop (fun s:Int=>∃n:Nat,s=(n:Int)∧n≤L) (fun s=>L-s.toNat) ?_ _ ⟨0,rfl,by omega⟩;rintro s ⟨n,rfl,hn⟩;by_cases Φ:n<L
 ·exact ⟨_,h1 n Φ,⟨n+1,by omega,Φ⟩,by omega⟩
 ·have:n=L:=by omega
  subst this;exact ⟨_,h2,rfl⟩
def Hz {a b:Bool}:(if a=true then some true else some b)=some (a||b):=by cases a<;>rfl
def agK (a:dg) (h:a.da.length≤1000000):Ca a a=some true:=by
 unfold Ca;simp only [bne_self_eq_false,Hz,cm,CZ,beq_self_eq_true,uf,Rt,kC,if_false];unfold Xx;refine rH a.da.length (fun n hn=>?_) ?_
 ·unfold FD;have hx:=bF hn
  have hd:decide ((n:Int)<(a.da.length:Int))=true:=by simpa using hn
  simp only [hd,if_true,cq hx,cm,beq_self_eq_true,uf,kC,if_false];rw [gq (by unfold Ξ;omega)]
 ·unfold FD;simp [J6,Cat.out]
def agN (n:ξ) (h:n.Ω.length≤1000000):zU n n=some true:=by
 obtain ⟨b,h1,h2⟩:=Xs n n h;rw [h1,h2.2 rfl]
def agR {B:Nat} {t:θ} (h:TF B t) (hB:B≤100000):B9 t t=some true:=by
 obtain ⟨b,h1,h2⟩:=agQ (b:=t) h hB;rw [h1,h2.2 rfl]
def WB {B:Nat} {t:θ} (h:TF B t) (hB:B≤100000):vv t t=some true:=by
 obtain ⟨b,h1,h2⟩:=WA (b:=t) h hB;rw [h1,h2.2 rfl]
section
variable {k:Nat} {f:dh}
def agP (h:FI k f) (hk:k≤60):FE f.S f.S=some true:=by
 have h1:=h.s.si;have h2:=h.s.f.n;have h3:f.S.aO.length≤200000:=by have:=h.s.ps;omega
 have h4:=h.s.ta;unfold FE;rw [agR h.s.f (by omega)];simp only [bne_self_eq_false,Hz,cm,CZ,uf,Rt,kC,if_false];unfold Xy;refine rH f.S.aU.length (fun n hn=>?_) ?_
 ·unfold FF;have hx:=bF hn
  have hd:decide ((n:Int)<(f.S.aU.length:Int))=true:=by simpa using hn
  simp only [hd,if_true,cq hx,cm,bne_self_eq_false,kC,if_false];rw [gq (by unfold Ξ;omega)]
 ·unfold FF J7 Xz;rw [if_neg (by simp)]
  have:loop (Cb f.S f.S) 0=some true:=by
   refine rH f.S.aO.length (fun n hn=>?_) ?_
   ·unfold Cb;have hx:=bF hn
    have hd:decide ((n:Int)<(f.S.aO.length:Int))=true:=by simpa using hn
    have hp:=(h.k.p _ (ek hn)).l;generalize f.S.aO[n]=y at hx hp;have hy:=agN y.eL (by omega);refine ε.eq (ε.cond hd (ε.af (cq hx) (ε.af (cq hx) ?_)));refine ε.bind (R:=(·=false)) (ε.bind (R:=(·=false)) (ε.cD (by simp) (ε.ret (by simp))) fun c hc=>ε.bind (R:=(·=false)) (by subst hc;exact ε.cD (by simp) (ε.af hy (ε.ret rfl))) fun c hc=>ε.ret hc) fun v hv=>?_;subst hv;exact ε.cD (by simp) (ε.Ψ (by unfold Ξ;omega) (ε.ret rfl))
   ·unfold Cb J8 XA;rw [if_neg (by simp)]
    have:loop (Cc f.S f.S) 0=some true:=by
     refine rH f.S.aR.length (fun n hn=>?_) ?_
     ·unfold Cc;have hx:=bF hn
      have hd:decide ((n:Int)<(f.S.aR.length:Int))=true:=by simpa using hn
      simp only [hd,if_true,cq hx,cm,beq_self_eq_true,CY,uf,kC,if_false];rw [gq (by unfold Ξ;omega)]
     ·unfold Cc;simp [J9,Cat.out]
    rw [this];rfl
  rw [this];rfl
def agM (h:FI k f) (hk:k≤60):B_ f f=some true:=by
 have h1:=h.hl;have h2:=h.ql;unfold B_;rw [agP h hk];simp only [bne_self_eq_false,Hz,cm,uf,Rt,kC,if_false];unfold XB;refine rH f.Holds.length (fun n hn=>?_) ?_
 ·unfold FH;have hx:=bF hn
  have hd:decide ((n:Int)<(f.Holds.length:Int))=true:=by simpa using hn
  simp only [hd,if_true,cq hx,cm,beq_self_eq_true,CY,uf,kC,if_false];rw [gq (by unfold Ξ;omega)]
 ·unfold FH J_ XC;rw [if_neg (by simp)]
  have:loop (Cd f f) 0=some true:=by
   refine rH f.bc.length (fun n hn=>?_) ?_
   ·unfold Cd;have hx:=bF hn
    have hd:decide ((n:Int)<(f.bc.length:Int))=true:=by simpa using hn
    simp only [hd,if_true,cq hx,cm,beq_self_eq_true,CY,uf,kC,if_false];rw [gq (by unfold Ξ;omega)]
   ·unfold Cd;simp [J',Cat.out]
  rw [this];rfl
def afL (h:FI k f) (hk:k≤60):AY f f=some true:=by
 have h1:=h.s.si;have h2:=h.s.f.n;have h3:f.S.aO.length≤200000:=by have:=h.s.ps;omega
 have h4:=h.s.ta;have h5:=h.hl;have h6:=h.ql
 have e1:Gi f.S.aU f.S.aU=some true:=by
  unfold Gi;rw [if_neg (by simp)];unfold X7;refine rH f.S.aU.length (fun n hn=>?_) ?_
  ·unfold Gj;have hx:=bF hn
   have hd:decide ((n:Int)<(f.S.aU.length:Int))=true:=by simpa using hn
   simp only [hd,if_true,cq hx,cm,bne_self_eq_false,kC,if_false];rw [gq (by unfold Ξ;omega)]
  ·unfold Gj;simp [KD,Cat.out]
 have e2:F_ f.S.aO f.S.aO=some true:=by
  unfold F_;rw [if_neg (by simp)];unfold X2;refine rH f.S.aO.length (fun n hn=>?_) ?_
  ·unfold Ga;have hx:=bF hn
   have hd:decide ((n:Int)<(f.S.aO.length:Int))=true:=by simpa using hn
   have hp:=h.k.p _ (ek hn);have uT:=hp.l;have N3:=hp.n;generalize f.S.aO[n]=y at hx uT N3
   have hs:DN y y=some true:=by
    have ht:vv (⟨[y.eL],0,0⟩:θ) ⟨[y.eL],0,0⟩=some true:=WB (B:=100000) ⟨by simp,fun m hm=>(by obtain rfl:=dB.1 hm;omega),fun m hm=>(by obtain rfl:=dB.1 hm;omega),by dsimp only;omega,by dsimp only;omega⟩ (by omega);refine ε.eq ?_;unfold DN;refine ε.bind (R:=(·=true)) (ε.bind (R:=(·=true)) (ε.cond (by simp) (ε.ret (by simp))) fun c hc=>ε.bind (R:=(·=true)) (by subst hc;exact ε.cond rfl (ε.af ht (ε.ret rfl))) fun c hc=>ε.ret hc) fun v hv=>ε.ret hv
   refine ε.eq (ε.cond hd (ε.af (cq hx) (ε.af (cq hx) (ε.af hs (ε.cD (by simp) (ε.Ψ (by unfold Ξ;omega) (ε.ret rfl)))))))
  ·unfold Ga;simp [Kz,Cat.out]
 have e3:Gg f.S.aR f.S.aR=some true:=by
  unfold Gg;rw [if_neg (by simp)];unfold X6;refine rH f.S.aR.length (fun n hn=>?_) ?_
  ·unfold Gh;have hx:=bF hn
   have hd:decide ((n:Int)<(f.S.aR.length:Int))=true:=by simpa using hn
   simp only [hd,if_true,cq hx,cm,beq_self_eq_true,CY,uf,kC,if_false];rw [gq (by unfold Ξ;omega)]
  ·unfold Gh;simp [KC,Cat.out]
 have e4:Gc f.Holds f.Holds=some true:=by
  unfold Gc;rw [if_neg (by simp)];unfold X4;refine rH f.Holds.length (fun n hn=>?_) ?_
  ·unfold Gd;have hx:=bF hn
   have hd:decide ((n:Int)<(f.Holds.length:Int))=true:=by simpa using hn
   simp only [hd,if_true,cq hx,cm,beq_self_eq_true,CY,uf,kC,if_false];rw [gq (by unfold Ξ;omega)]
  ·unfold Gd;simp [KA,Cat.out]
 have e5:Ge f.bc f.bc=some true:=by
  unfold Ge;rw [if_neg (by simp)];unfold X5;refine rH f.bc.length (fun n hn=>?_) ?_
  ·unfold Gf;have hx:=bF hn
   have hd:decide ((n:Int)<(f.bc.length:Int))=true:=by simpa using hn
   simp only [hd,if_true,cq hx,cm,beq_self_eq_true,CY,uf,kC,if_false];rw [gq (by unfold Ξ;omega)]
  ·unfold Gf;simp [KB,Cat.out]
 unfold AY;rw [WB h.s.f (by omega)];simp [e1,e2,e3,e4,e5]
end
def sL:dh:=⟨Co,[],[]⟩
def O_:yu=some sL:=by
 unfold yu KW Km;simp [Ψ,sL,Co,QB]
def Di:FI 0 sL:=by
 refine ⟨Sh,Se,⟨fun n hn=>?_,fun p hp=>(by cases hp),fun x hx=>(by cases hx)⟩,j1,by simp [sL],j1,by simp [sL]⟩;exact Se.nb Sh.f (by omega) hn
def LQ (o:bN):Prop:=Ξ o.N∧Ξ o.M∧Ξ o.τ∧Ξ o.aW∧Ξ o.bY
def afF (o:bN):E1 o=some (decide ((o.az.length:Int)>5000)||decide ((o.cF.length:Int)>1000)||decide ((o.To.length:Int)>1000)):=by
 unfold E1;simp only [Hz,cm]
def afi (l:List bN) (hi:∀o,o∈l→LQ o):ε (E0 l) (fun r=>r=false→l.length≤50∧∀o,o∈l→OB o):=by
 unfold E0;refine ε.ite (fun _=>ε.ret fun h=>(by cases h)) fun Iv=>?_
 have Iv:l.length≤50:=by rw [decide_eq_true_eq] at Iv;omega
 unfold VW;refine ε.loop (fun s:Int=>∃n:Nat,s=(n:Int)∧n≤l.length∧∀o,o∈l.take n→OB o) (fun s=>l.length-s.toNat) ?_ _ ⟨0,rfl,by omega,fun o ho=>by simp at ho⟩;rintro s ⟨n,rfl,hn,hP⟩;unfold Jh;by_cases Φ:n<l.length
 ·have hx:=bF Φ
  have fT:l.take (n+1)=l.take n++[l[n]]:=by rw [oX,hx];rfl
  refine ε.cond (by simpa using Φ) (ε.af (cq hx) (ε.af (afF _) (ε.ite (fun _=>ε.out (ε.ret fun h=>(by cases h))) fun hL=>ε.Ψ (by unfold Ξ;omega) (ε.inl ⟨⟨n+1,by omega,Φ,fun o ho=>?_⟩,by omega⟩))));rw [fT] at ho
  rcases gp.1 ho with ho|ho
  ·exact hP o ho
  ·obtain rfl:=dB.1 ho;obtain ⟨i1,i2,i3,i4,i5⟩:=hi _ (ek Φ);simp only [ug,decide_eq_true_eq,not_or] at hL;exact ⟨by omega,by omega,by omega,i1,i2,i3,i4,i5⟩
 ·have:n=l.length:=by omega
  subst this;rw [jr] at hP;exact ε.cD (by simp) (ε.out (ε.ret fun _=>⟨Iv,hP⟩))
end
section
def S5 (l:List ξ):∀(f:Nat) (i:Int),oz l [] f i=0
 |0,_=>rfl
 |f+1,i=>by
  unfold oz;rw [if_neg (by simp [qf])];split
  ·rfl
  ·exact S5 l f _
def ae6 {B:Nat} {t:θ} (h:RT t) (hf:TF B t) (hB:B≤4000):Ff t []=true:=by
 refine (WY h hf hB j1 (by simp)).2.2 fun j x y hx hy _=>?_
 have z:∀{j x:Int},(j,x)∈AS t []→x=0:=fun {j x} h=>by
  obtain ⟨d,_,hd⟩:=Lu.1 h;obtain ⟨e,_,he⟩:=dq.1 hd;rw [←(Prod.mk.inj he).2];exact S5 _ _ _
 rw [z hx,z hy]
def Qy {B:Nat} {t:θ} (h:RF B t) (hB:B≤4000) {α:Type} (x:α):ku t [] [] x=.inr (lP t [],[],x):=by
 have h2:=h.settle [];unfold ku xh;rw [show te (lP t []) []=[] from rfl,ae6 h2.r h2.f hB];rfl
def KM {t:θ} {p:List UInt8} {ns:List (List UInt8)} {s:List UInt8} {i:Int} (hp:rF (ns++[s])=p) (hn:∀x,x∈ns++[s]→f_ x=true) (hl:(ns++[s]).length≤12) (hw:tY t 1 ns=(i,0)):tM t p=.inr (i,s):=by
 have e:=Qv hn hl;rw [hp] at e
 have e2:oP p=(s,rF ns,0):=by
  unfold oP;rw [e];simp
 have e3:=Qv (l:=ns) (fun x hx=>hn x (by simp [hx])) (by simp at hl;omega)
 have e4:qB t (rF ns)=(i,0):=by
  unfold qB;rw [e3];simp [hw]
 unfold tM;rw [e2];simp only;rw [e4];rfl
def Zl {t:θ} {p:List UInt8} {ns:List (List UInt8)} {r:Int×Int} (hp:rF ns=p) (hn:∀x,x∈ns→f_ x=true) (hl:ns.length≤12) (hw:tY t 1 ns=r):qB t p=r:=by
 have e:=Qv hn hl;rw [hp] at e;unfold qB;rw [e];simp [hw]
def qo:θ:=⟨[⟨1,2,0,[],[⟨[97],2,1⟩],1⟩,⟨2,2,1,[],[],1⟩],3,2⟩
def pK:θ:=⟨[⟨1,2,0,[],[⟨[97],2,1⟩],1⟩,⟨2,2,1,[],[⟨[98],3,2⟩],1⟩,⟨3,1,1,[],[],0⟩],4,3⟩
def lM:θ:=⟨[⟨1,2,0,[],[⟨[99],2,3⟩],1⟩,⟨2,2,1,[],[⟨[98],3,2⟩],1⟩,⟨3,1,1,[],[],0⟩],4,4⟩
abbrev U0:bN:=⟨2,0,[47,97],[],2,0,0,[]⟩
abbrev U1:bN:=⟨2,0,[47,97,47,98],[],1,0,0,[]⟩
abbrev IU:bN:=⟨5,0,[47,97],[47,99],0,0,0,[]⟩
abbrev NS:bN:=⟨6,0,[47,99],[],0,9,0,[]⟩
abbrev U2:bN:=⟨1,0,[47,97,47,98],[],0,0,0,[]⟩
abbrev ho6:bN:=⟨1,0,[47,99],[],0,0,0,[]⟩
def AF {k n m:Int} {p q:List UInt8} (hk:Ξ k) (hn:Ξ n) (hm:Ξ m) (hp:p.length≤1000) (hq:q.length≤1000):OB ⟨k,0,p,q,n,m,0,[]⟩:=⟨hp,hq,by simp,hn,hm,hk,cz,cz⟩
def af2:Gx=some true:=by
 have b1:OB U0:=AF (by unfold Ξ;omega) (by unfold Ξ;omega) cz (by simp) (by simp);have b2:OB U1:=AF (by unfold Ξ;omega) (by unfold Ξ;omega) cz (by simp) (by simp);have b3:OB IU:=AF (by unfold Ξ;omega) cz cz (by simp) (by simp);have b4:OB NS:=AF (by unfold Ξ;omega) cz (by unfold Ξ;omega) (by simp) (by simp);have b5:OB U2:=AF (by unfold Ξ;omega) cz cz (by simp) (by simp);have b6:OB ho6:=AF (by unfold Ξ;omega) cz cz (by simp) (by simp)
 have d1:kM sL U0=(⟨fb Co qo,[],[]⟩,⟨0,2,2,0,0,[],[]⟩):=by
  rw [jM (by decide) (by decide),GJ _ _ _ rfl];unfold BM;rw [KM (ns:=[]) (s:=[97]) (i:=1) (by kernel_rfl) (by decide) (by decide) (by kernel_rfl)]
  have ha:mJ sL.S.Γ 1 [97] 2=(qo,2,0):=by kernel_rfl
  have h1:RF (2+5*0+5) (mJ sL.S.Γ 1 [97] 2).1:=⟨Di.r.add _ _ _,Di.s.f.Ho (by omega) _ _ _⟩;simp only [bS];rw [ha] at h1 ⊢
  have hs:ku qo [] [] (2:Int)=.inr (qo,[],2):=by rw [Qy (t:=qo) h1 (by omega),show lP qo []=qo by kernel_rfl]
  show jz sL (cr (fun z:θ×List aA×Int=>((some z.1,[],z.2.1,⟨0,z.2.2,2,0,0,[],[]⟩):uv)) (ku qo [] [] 2))=_;rw [hs];rfl
 have f1:=(HQ Di (by omega) b1).1;rw [d1] at f1;have n1:(⟨fb Co qo,[],[]⟩:dh).S.Γ=qo:=JW _ _;generalize Δ:(⟨fb Co qo,[],[]⟩:dh)=g1 at *
 have q1:g1.Holds=[]∧g1.bc=[]:=by rw [←Δ];exact ⟨rfl,rfl⟩
 have d2:kM g1 U1=(⟨fb g1.S pK,[],[]⟩,⟨0,3,1,0,0,[],[]⟩):=by
  rw [jM (by decide) (by decide),GJ _ _ _ rfl,n1,q1.1,q1.2];unfold BM;rw [KM (ns:=[[97]]) (s:=[98]) (i:=2) (by kernel_rfl) (by decide) (by decide) (by kernel_rfl)]
  have ha:mJ qo 2 [98] 1=(pK,3,0):=by kernel_rfl
  have h1:RF (2+5*(0+1)+5) (mJ g1.S.Γ 2 [98] 1).1:=⟨f1.r.add _ _ _,f1.s.f.Ho (by omega) _ _ _⟩;simp only [bS];rw [n1] at h1;rw [ha] at h1 ⊢
  have hs:ku pK [] [] (3:Int)=.inr (pK,[],3):=by rw [Qy (t:=pK) h1 (by omega),show lP pK []=pK by kernel_rfl]
  show jz g1 (cr (fun z:θ×List aA×Int=>((some z.1,[],z.2.1,⟨0,z.2.2,1,0,0,[],[]⟩):uv)) (ku pK [] [] 3))=_;rw [hs];rfl
 have f2:=(HQ f1 (by omega) b2).1;rw [d2] at f2;have n2:(⟨fb g1.S pK,[],[]⟩:dh).S.Γ=pK:=JW _ _;generalize aF:(⟨fb g1.S pK,[],[]⟩:dh)=g2 at *
 have q2:g2.Holds=[]∧g2.bc=[]:=by rw [←aF];exact ⟨rfl,rfl⟩
 have d3:kM g2 IU=(⟨fb g2.S lM,[],[]⟩,⟨0,2,0,0,0,[],[]⟩):=by
  rw [jM (by decide) (by decide),K4 _ _ _ rfl,n2,q2.1,q2.2];unfold E9;rw [KM (ns:=[]) (s:=[97]) (i:=1) (p:=IU.cF) (by kernel_rfl) (by decide) (by decide) (by kernel_rfl),KM (ns:=[]) (s:=[99]) (i:=1) (p:=IU.To) (by kernel_rfl) (by decide) (by decide) (by kernel_rfl)]
  have ha:qu pK 1 [97] 1 [99]=(lM,0,0):=by kernel_rfl
  have hl:eV pK 1 [97]=(2,0):=by kernel_rfl
  have h1:RF (2+5*(0+1+1)+5) (qu g2.S.Γ 1 [97] 1 [99]).1:=⟨f2.r.mv _ _ _ _,f2.s.f.OZ (by omega) _ _ _ _⟩;simp only [bS];rw [n2] at h1;rw [ha] at h1 ⊢;rw [hl]
  have hs:ku lM [] [] (2:Int)=.inr (lM,[],2):=by rw [Qy (t:=lM) h1 (by omega),show lP lM []=lM by kernel_rfl]
  show jz g2 (cr (fun z:θ×List aA×Int=>((some z.1,[],z.2.1,⟨0,z.2.2,0,0,0,[],[]⟩):uv)) (ku lM [] [] 2))=_;rw [hs];rfl
 have f3:=(HQ f2 (by omega) b3).1;rw [d3] at f3;have n3:(⟨fb g2.S lM,[],[]⟩:dh).S.Γ=lM:=JW _ _;generalize aM:(⟨fb g2.S lM,[],[]⟩:dh)=g3 at *
 have d4:(kM g3 NS).2=⟨0,0,0,0,0,[[98]],[]⟩:=by
  rw [jM (by decide) (by decide),K8 _ _ _ rfl,n3];unfold E3
  have hw:ko lM NS.cF=.inr ⟨2,2,1,[],[⟨[98],3,2⟩],1⟩:=by
   unfold ko;rw [Zl (ns:=[[99]]) (r:=(2,0)) (by kernel_rfl) (by decide) (by decide) (by kernel_rfl)];kernel_rfl
  rw [hw];have hr:=f3.r;have hf:=f3.s.f;rw [n3] at hr hf;have hL:=(JJ hr hf (by omega) 2 0 9).2;unfold AE at hL;rw [if_neg (by decide),if_neg (by rw [show dF lM.η 2=(⟨2,2,1,[],[⟨[98],3,2⟩],1⟩,0) by kernel_rfl];decide)] at hL;obtain ⟨L,l1,l2,l3⟩:=hL;rw [show dF lM.η 2=(⟨2,2,1,[],[⟨[98],3,2⟩],1⟩,0) by kernel_rfl] at l1;have l4:L=[⟨[98],3,2⟩]:=List.perm_singleton.1 l1;subst l4;rw [if_pos (by decide)] at l3;simp only [bS];rw [l3];rfl
 have d5:(kM g3 U2).2=qc 70:=by
  rw [jM (by decide) (by decide),K3 _ _ _ rfl,n3];unfold ko;rw [Zl (ns:=[[97],[98]]) (r:=(0,70)) (by kernel_rfl) (by decide) (by decide) (by kernel_rfl)];rfl
 refine ε.eq ?_;unfold Gx;refine ε.af O_ (ε.af (BV Di (by omega) b1) ?_);rw [d1];refine ε.af (BV f1 (by omega) b2) ?_;rw [d2];refine ε.af (BV f2 (by omega) b3) ?_;rw [d3];refine ε.af (BV f3 (by omega) b4) (ε.af (BV f3 (by omega) b5) (ε.af (W0 b6) (ε.af (W4 b6) ?_)));rw [d4,d5];exact ⟨_,rfl,rfl⟩
end
section
abbrev LO:=List ξ×Int×Int×Int×List Int×List bp×List bb×Int×List ay×List aA
def flF (f:dh):LO:=(f.S.Γ.η,f.S.Γ.Next,f.S.Γ.aj,f.S.aY,f.S.aU,f.S.aO,f.S.aR,f.S.Next,f.Holds,f.bc)
def flG (f g:dh):List ξ×Int×Int×Int×List Int×List bp×List bb×Int×List ay×List aA×LO:=(f.S.Γ.η,f.S.Γ.Next,f.S.Γ.aj,f.S.aY,f.S.aU,f.S.aO,f.S.aR,f.S.Next,f.Holds,f.bc,flF g)
def ae8 {l:List bN} (h:JB l):∀o,o∈l→LQ o:=fun o ho=>by
 obtain ⟨h1,h2,h3,h4,h5,h6,h7,h8⟩:=h.2 o ho;exact ⟨h5,h6,h1,h2,h7⟩
end
section
def aix (l:List bN) (hi:∀o,o∈l→LQ o):CA l=some true:=by
 refine ε.eq ?_;unfold CA;refine ε.af af2 (ε.bind (afi l hi) fun r hr=>ε.ite (fun _=>ε.ret rfl) fun h0=>?_);obtain ⟨Iv,hO⟩:=hr (ic.2 h0);refine ε.af O_ (ε.af O_ ?_);unfold YE;refine ε.loop (fun s:Int×List ξ×Int×Int×Int×List Int×List bp×List bb×Int×List ay×List aA×LO=>∃(n:Nat) (f:dh),n≤l.length∧FI n f∧s=((n:Int),flG f f)) (fun s=>l.length-s.1.toNat) ?_ _ ⟨0,sL,by omega,Di,rfl⟩;rintro s ⟨n,f,hn,hF,rfl⟩;unfold KT;by_cases Φ:n<l.length
 ·have hx:=bF Φ;have ho:=hO _ (ek Φ);generalize l[n]=o at hx ho;obtain ⟨d1,d2⟩:=HQ hF (by omega) ho;have hd:=BV hF (by omega) ho;refine ε.cond (by simpa using Φ) (ε.af (cq hx) (ε.af (W0 ho) (ε.af (W4 ho) (ε.cD (by simp) (ε.af (cq hx) ?_)))));refine ε.af (x:=pk f o) hd (ε.af (x:=pk f o) hd ?_);have hs:=agK (kM f o).2 (by have:=d2.nl;omega);refine ε.af (agd d2) (ε.af (agi d2) ?_);dsimp only;refine ε.bind (R:=(·=false)) (ε.bind (R:=(·=false)) (ε.cD (by simp) (ε.af hs (ε.ret rfl))) fun c hc=>ε.bind (R:=(·=false)) (by subst hc;exact ε.cD (by simp) (ε.af hs (ε.ret rfl))) fun c hc=>ε.ret hc) fun v hv=>?_;subst hv;exact ε.cD (by simp) (ε.Ψ (by unfold Ξ;omega) (ε.inl ⟨⟨n+1,(kM f o).1,Φ,d1,rfl⟩,by dsimp only;omega⟩))
 ·have:n=l.length:=by omega
  subst this;refine ε.cD (by simp) (ε.out ?_);unfold KU;have h1:=afL hF (by omega);have h2:=agM hF (by omega);refine ε.bind (R:=(·=true)) (ε.bind (R:=(·=true)) (ε.cond rfl (ε.af (x:=AY f f) h1 (ε.ret rfl))) fun c hc=>ε.bind (R:=(·=true)) (by subst hc;exact ε.cond rfl (ε.af (x:=B_ f f) h2 (ε.ret rfl))) fun c hc=>ε.ret hc) fun v hv=>ε.ret hv
def aei (l:List bN) (h1:JB l):CA l=some true:=aix l (ae8 h1)
end
end Go.Proofs
