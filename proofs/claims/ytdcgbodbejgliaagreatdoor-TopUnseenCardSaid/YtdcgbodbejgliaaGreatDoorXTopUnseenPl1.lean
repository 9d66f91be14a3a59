/- The plain law, piece 1. No condition. -/
import Derived.Test.YtdcgbodbejgliaaGreatDoorXTopUnseenPl0
import Derived.Laws.Bits64
import Derived.KernelRfl
import Derived.Test.YtdcgbodbejgliaaGreatDoorXTopUnseenIn
open BitVec renaming ofInt → eF, toNat_xor → Y0, xor_allOnes → Y1, toNat_not → YZ
open Bool renaming and_eq_true → bJ, eq_false_iff → gK, false_eq_true → nk, or_eq_true → tT, not_true → Aj, false_or → CU, eq_iff_iff → uZ, or_false → QJ, and_true → QG
open Decidable renaming byContradiction → Y3, of_not_not → Y4
open Go.IntKind renaming wrap_u64 → Zc
open Go.IntWalk renaming i64_in → qB
open Int renaming toNat_natCast → gM
open List renaming length_map → ay, getElem?_eq_getElem → bT, mem_cons_of_mem → cr, length_cons → c8, length_append → dq, getElem?_eq_some_iff → fb, mem_singleton → dD, pairwise_cons → eI, length_take → dQ, mem_map → dg, mem_filter → eB, getElem_mem → eG, map_append → fo, mem_append → gg, length_nil → ib, take_length → jE, length_filter_le → ma, pairwise_iff_getElem → vn, length_drop → l_, append_assoc → l9, mem_append_left → qE, take_add_one → qH, any_eq_false → pS, append_nil → xk, mem_append_right → vj, pairwise_append → vk, take_append_drop → xp, mem_of_mem_take → GK, mem_flatMap → KV, any_eq_true → CZ, of_mem_zip → KW, foldl_append → GH, length_eraseP_le → Zm, mem_of_mem_drop → Zp, flatMap_append → Zh
open List.Pairwise renaming nil → jY, sublist → Ze
open Nat renaming lt_of_le_of_lt → gv, le_trans → fc, zero_le → lO, div_lt_iff_lt_mul → qI, shiftRight_eq_div_pow → GM, pow_succ → K1, lt_trans → KY, shiftRight_le → Zs
open Option renaming bind_some → cD, isSome_iff_exists → nn, getD_some → Ap
open UInt8 renaming ofNat → iY, toNat_inj → Rk
namespace Go.Proofs
set_option linter.all false
open Go Go.Cat
section
def Dc (a b:az):Prop:=a.aV<b.aV∨a.aV=b.aV∧a.cd<b.cd
def qL (l:List az):Prop:=l.Pairwise Dc
def Dp {x y:Int}:gQ x y=0↔x=y:=by have h:=@xY x y; rw [beq_iff_eq] at h; exact h
def Hf {c h:Int} {x:az}:cH c h x<0↔(x.aV<c∨x.aV=c∧x.cd<h):=by
 unfold cH;by_cases e:gQ x.aV c≠0
 ·rw [if_pos e,jr];have:=fun e'=>e (Dp.2 e');constructor
  ·exact .inl
  ·rintro (h | ⟨h,-⟩)
   ·exact h
   ·exact absurd h this
 ·rw [if_neg e,jr];have:x.aV=c:=Dp.1 (Y4 e);constructor
  ·exact fun h=>.inr ⟨this,h⟩
  ·rintro (h | ⟨-,h⟩)
   ·omega
   ·exact h
def RY {c h:Int} {x:az}:(cH c h x==0)=iF c h x:=by
 rw [uZ,beq_iff_eq];unfold cH iF;rw [bJ,beq_iff_eq,beq_iff_eq];by_cases e:gQ x.aV c≠0
 ·rw [if_pos e];exact ⟨fun h=>absurd h e,fun h=>absurd (Dp.2 h.1) e⟩
 ·rw [if_neg e,Dp];have:x.aV=c:=Dp.1 (Y4 e);exact ⟨fun h=>⟨this,h⟩,fun h=>h.2⟩
def VC {l:List az} (hl:qL l) (c h:Int):Mon (cH c h) l:=fun j k x y ph hx hy hc=>by
 obtain ⟨h1,rfl⟩:=fb.1 hx;obtain ⟨h2,rfl⟩:=fb.1 hy;have:=vn.1 hl j k h1 h2 ph;rw [Hf] at *;unfold Dc at this;omega
def Z3 {l:List az} (hl:qL l) (c h:Int):fF (cH c h) l=l.any (iF c h):=by
 induction l with
 | nil=>rfl
 | cons x l ih =>
  have h2:=(eI.1 hl).2;have h1:=(eI.1 hl).1;rw [List.any_cons];by_cases hx:cH c h x<0
  ·rw [xR hx,ih h2,←RY,beq_eq_false_iff_ne.2 (by omega:cH c h x≠0),CU]
  ·rw [xS hx,RY];cases hk:iF c h x with
   | true=>rfl
   | false =>
    rw [CU]; symm;rw [pS];intro y hy;have Φ:=h1 y hy;rw [Hf] at hx;unfold Dc at Φ;unfold iF;simp only [bJ,beq_iff_eq];omega
def Wv {α:Type} {R:α→α→Prop} {l:List α} (h:l.Pairwise R) {x:α} {k:Nat} (h1:∀y,y∈l.take k→R y x) (h2:∀y,y∈l.drop k→R x y):(dH l (k:Int) [x]).Pairwise R:=by
 unfold dH;rw [gM,l9]
 have hs:(l.take k++l.drop k).Pairwise R:=by rw [xp]; exact h
 obtain ⟨a1,a2,a3⟩:=vk.1 hs;refine vk.2 ⟨a1,?_,fun a ha b hb=>?_⟩
 ·exact eI.2 ⟨h2,a2⟩
 ·rcases List.mem_cons.1 hb with rfl | hb
  ·exact h1 a ha
  ·exact a3 a ha b hb
def XI {α:Type} {c:α→Int} {l:List α} {y:α} (hy:y∈l.take (cY c l)):c y<0:=by
 obtain ⟨j,hj⟩:=s4 hy;rw [List.getElem?_take] at hj;split at hj
 ·exact RU ‹_› hj
 ·cases hj
def Sr {α:Type} {c:α→Int} {l:List α} (hm:Mon c l) {y:α} (hy:y∈l.drop (cY c l)):¬c y<0:=by
 obtain ⟨j,hj⟩:=s4 hy;rw [List.getElem?_drop] at hj;intro hc
 rcases Nat.eq_zero_or_pos j with rfl | hp
 ·exact LD hj hc
 ·have Φ:=(fb.1 hj).1;have hx:=bT (l:=l) (i:=cY c l) (by omega);exact LD hx (hm _ _ _ y (by omega) hx hj hc)
def adf {l:List az} (hl:qL l) {c h:Int} (bw:l.any (iF c h)=false) (i:Int):qL (dH l (cY (cH c h) l:Int) [⟨c,h,i⟩]):=by
 refine Wv hl (fun y hy=>?_) fun y hy=>?_
 ·have:=XI hy;rw [Hf] at this;unfold Dc; dsimp only; omega
 ·have h1:=Sr (VC hl c h) hy;rw [Hf] at h1;have h2:=pS.1 bw y (Zp hy);unfold iF at h2;simp only [bJ,beq_iff_eq] at h2;unfold Dc; dsimp only; omega
def uN (t:ψ) (l:List az) (c h i:Int):List az×Int :=
 if (!((decide (c≥0)&&decide (c<16))&&decide (h≥0)&&decide (h<100)))=true then (l,1)
 else if (!(gN t.η i).isSome||lZ (gD t.η i))=true then (l,70)
 else if ((gD t.η i).τ==2)=true then (l,72)
 else if l.any (iF c h)=true then (l,71)
 else if decide ((l.length:Int)≥64)=true then (l,76)
 else (dH l (cY (cH c h) l:Int) [⟨c,h,i⟩],0)
def ae1 {t:ψ} (hs:dX t.η) (hn:t.η.length≤1000000) {l:List az} (hl:qL l) (Iq:l.length≤1000000) (c h i:Int):Bl t l c h i=some (uN t l c h i):=by
 refine ε.eq ?_;unfold Bl uN;refine ε.ai (a:=(decide (c≥0)&&decide (c<16))&&decide (h≥0)&&decide (h<100)) ?_ ?_
 ·unfold Iy;dsimp only;cases decide (c≥0) <;> cases decide (c<16) <;> cases decide (h≥0) <;> cases decide (h<100) <;> rfl
 refine ε.eE (fun _=>ε.ret rfl) fun _=>ε.ai (s9 hs hn i) ?_;have hbs:=Hd (C:=fun x=>yT (c,h) x (c,h)) (c:=cH c h) (l:=l) (fun x _=>ae_ c h x (c,h)) (VC hl c h) Iq;refine ε.ai (x:=J5 l (c,h) (c,h)) hbs ?_;dsimp only;refine ε.bind (R:=(·=(!(gN t.η i).isSome||lZ (gD t.η i)))) (ε.bind (R:=(·=(!(gN t.η i).isSome||lZ (gD t.η i)))) (ε.ite (fun e=>ε.ret (by rw [e]; rfl)) fun e=>ε.ai (OJ _) (ε.ret (by rw [gK.2 e]; rfl))) fun v hv=>ε.ret hv) fun v hv=>?_;subst hv;refine ε.eE (fun _=>ε.ret rfl) fun _=>ε.eE (fun _=>ε.ret rfl) fun _=>?_;rw [Z3 hl];refine ε.eE (fun _=>ε.ret rfl) fun _=>ε.eE (fun _=>ε.ret rfl) fun _=>ε.ai (R3 Iq) ?_;have:=Dk (cH c h) l;exact ε.Ω ⟨by omega,by omega,by simp,by simp only [c8,ib]; omega⟩ (ε.ret rfl)
def Sc {α:Type} {p:α→Bool}:∀{l:List α} {k:Nat},l.findIdx? p=some k→fW l (k:Int) ((k:Int)+1)=l.eraseP p
 | [],_,h=>by simp at h
 | x::l,k,h=>by
  rw [List.findIdx?_cons] at h;cases hp:p x with
  | true =>
   rw [hp] at h
   have:k=0:=by simpa using h.symm
   subst this;rw [List.eraseP_cons_of_pos hp]; rfl
  | false =>
   rw [hp] at h;cases hf:l.findIdx? p with
   | none=>rw [hf] at h; simp at h
   | some j =>
    rw [hf] at h
    have:k=j+1:=by simpa using h.symm
    subst this;rw [List.eraseP_cons_of_neg (by simp [hp]),←Sc hf];unfold fW;rw [gM,gM,show ((j:Int)+1).toNat=j+1 by omega,show (((j+1:Nat):Int)+1).toNat=j+1+1 by omega]; rfl
def uQ (t:ψ) (l:List az) (i:Int):ψ:=if ((gN t.η i).isSome&&lZ (gD t.η i)&&!v8 l i)=true then (vS t i).1 else t
def oZ (t:ψ) (l:List az) (c h:Int):ψ×List az×Int:=match l.find? (iF c h) with | none=>(t,l,80) | some x=>(uQ t (l.eraseP (iF c h)) x.ι,l.eraseP (iF c h),0)
def zj (l:List az) (c h:Int):Int×Int:=match l.find? (iF c h) with | none=>(0,80) | some x=>(x.ι,0)
section
variable {B:Nat} {t:ψ}
def age (h:RT t) (l:List az) (i:Int):RT (uQ t l i):=by
 unfold uQ; split
 ·exact h.free i
 ·exact h
def TF.SX (h:TF B t) (i:Int):TF B (vS t i).1:=by
 unfold vS;split
 ·exact h
 split
 ·exact h
 split
 ·exact h
 ·exact h.drop i
def agf (h:TF B t) (l:List az) (i:Int):TF B (uQ t l i):=by
 unfold uQ; split
 ·exact h.SX i
 ·exact h
def VT (h:dX t.η) (hf:TF B t) (hB:B≤90000) {l:List az} (hl:l.length≤1000000) (c k:Int):yS t l c k=some (oZ t l c k):=by
 have hn:=hf.n;refine ε.eq ?_;unfold yS oZ;refine ε.ai (Wb l c k hl) ?_;cases hx:l.findIdx? (iF c k) with
 | none =>
  rw [DC hx];exact ε.cond (by rfl) (ε.ret rfl)
 | some n =>
  obtain ⟨x,h1,h2,h3⟩:=sy hx;have Φ:=(fb.1 h1).1;rw [h2];show ε (if decide ((n:Int)<0)=true then _ else _) _;refine ε.cV (by simp) (ε.ai (cF h1) (ε.ai (R3 hl) (ε.Ω (by show Θ ((n:Int)+1); unfold Θ; omega) (ε.Ω (by show (0:Int)≤(n:Int)∧(n:Int)<(n:Int)+1∧(n:Int)+1≤_; omega) ?_))));show ε (((l7 t x.ι).bind fun x4=>((if x4.2 then (wq x4.1).bind fun x5=>some x5 else some false).bind fun c1=>(if c1 then (Bo (fW l (n:Int) ((n:Int)+1)) x.ι).bind fun x6=>some (!x6) else some false).bind fun c2=>some c2).bind fun v2=>if v2 then (zX t x.ι).bind fun x7=>some (x7.1.η,x7.1.Next,x7.1.aj) else some (t.η,t.Next,t.aj)).bind fun v1=>some ((⟨v1.1,v1.2.1,v1.2.2⟩:ψ),fW l (n:Int) ((n:Int)+1),0)) _;rw [Sc hx];have Ih:(l.eraseP (iF c k)).length≤l.length:=Zm;refine ε.ai (a:=((uQ t (l.eraseP (iF c k)) x.ι).η,(uQ t (l.eraseP (iF c k)) x.ι).Next,(uQ t (l.eraseP (iF c k)) x.ι).aj)) (ε.eq ?_) (ε.ret rfl);refine ε.ai (s9 h (by omega) x.ι) ?_;unfold uQ;dsimp only;refine ε.bind (R:=(·=((gN t.η x.ι).isSome&&lZ (gD t.η x.ι)&&!v8 (l.eraseP (iF c k)) x.ι))) ?_ fun v hv=>?_
  ·refine ε.bind (R:=(·=((gN t.η x.ι).isSome&&lZ (gD t.η x.ι)))) (ε.ite (fun e=>ε.ai (OJ _) (ε.ret (by rw [e]; rfl))) fun e=>ε.ret (by rw [gK.2 e]; rfl)) fun v hv=>ε.bind (R:=(·=((gN t.η x.ι).isSome&&lZ (gD t.η x.ι)&&!v8 (l.eraseP (iF c k)) x.ι))) ?_ fun v hv=>ε.ret hv;subst hv;exact ε.ite (fun e=>ε.ai (afn _ _ (by omega)) (ε.ret (by rw [e]; rfl))) fun e=>ε.ret (by rw [gK.2 e]; rfl)
  ·subst hv;by_cases e:((gN t.η x.ι).isSome&&lZ (gD t.η x.ι)&&!v8 (l.eraseP (iF c k)) x.ι)=true
   ·simp only [if_pos e];exact ε.ai (VV h hf hB _) (ε.ret rfl)
   ·simp only [if_neg e]; exact ε.ret rfl
def aeD {l:List az} (hl:l.length≤1000000) (c k:Int):Ev l c k=some (zj l c k):=by
 refine ε.eq ?_;unfold Ev zj;refine ε.ai (Wb l c k hl) ?_;cases hx:l.findIdx? (iF c k) with
 | none =>
  rw [DC hx];exact ε.cond (by rfl) (ε.ret rfl)
 | some n =>
  obtain ⟨x,h1,h2,h3⟩:=sy hx;rw [h2];show ε (if decide ((n:Int)<0)=true then _ else _) _;exact ε.cV (by simp) (ε.ai (cF h1) (ε.ret rfl))
def mN (c:Int) (a:ψ×List az) (x:az):ψ×List az:=if (x.aV==c)=true then ((oZ a.1 a.2 c x.cd).1,(oZ a.1 a.2 c x.cd).2.1) else a
def vV (t:ψ) (l:List az) (c:Int):ψ×List az:=l.foldl (mN c) (t,l)
structure GI (B n:Nat) (a:ψ×List az):Prop where
 r:RT a.1
 f:TF B a.1
 l:a.2.length≤n
 s:qL a.2
def LK {n:Nat} {l:List az} (h:GI B n (t,l)) (c k:Int):GI B n ((oZ t l c k).1,(oZ t l c k).2.1):=by
 unfold oZ;cases l.find? (iF c k) with
 | none=>exact h
 | some x =>
  refine ⟨age h.r _ _,agf h.f _ _,fc Zm h.l,?_⟩;exact Ze List.eraseP_sublist h.s
def S' {n:Nat} {a:ψ×List az} (h:GI B n a) (c:Int) (x:az):GI B n (mN c a x):=by
 unfold mN; split
 ·exact LK (t:=a.1) (l:=a.2) h c x.cd
 ·exact h
def Mm {n:Nat} (c:Int):∀(l:List az) {a:ψ×List az},GI B n a→GI B n (l.foldl (mN c) a)
 | [],_,h=>h
 | x::l,_,h=>Mm c l (S' h c x)
def aeB (h:RT t) (hf:TF B t) (hB:B≤90000) {l:List az} (hl:l.length≤100000) (hs:qL l) (c:Int):Bk t l c=some (vV t l c):=by
 refine ε.eq ?_;unfold Bk vV Uq
 have key:ε (loop (Eu l c) (l,0,t.η,t.Next,t.aj)) (fun v=>v=((l.foldl (mN c) (t,l)).2,(l.foldl (mN c) (t,l)).1.η,(l.foldl (mN c) (t,l)).1.Next,(l.foldl (mN c) (t,l)).1.aj)):=by
  refine ε.loop (fun s:List az×Int×List ξ×Int×Int=>∃n:Nat,s.2.1=(n:Int)∧n≤l.length∧GI B l.length ((⟨s.2.2.1,s.2.2.2.1,s.2.2.2.2⟩:ψ),s.1)∧(l.take n).foldl (mN c) (t,l)=((⟨s.2.2.1,s.2.2.2.1,s.2.2.2.2⟩:ψ),s.1)) (fun s=>l.length-s.2.1.toNat) ?_ _ ⟨0,rfl,by omega,⟨h,hf,Nat.le_refl _,hs⟩,rfl⟩;rintro ⟨q,s1,N,X,C⟩ ⟨n,e1,hn,hG,e2⟩;dsimp only at e1 hG e2;subst e1;unfold Eu;dsimp only;by_cases Φ:n<l.length
  ·have hx:=bT Φ
   have gB:l.take (n+1)=l.take n++[l[n]]:=by rw [qH,hx]; rfl
   have A7:(l.take (n+1)).foldl (mN c) (t,l)=mN c ((⟨N,X,C⟩:ψ),q) l[n]:=by rw [gB,GH,e2]; rfl
   have D7:=S' hG c l[n];refine ε.cond (by simpa using Φ) (ε.bind (R:=fun v=>v=((mN c ((⟨N,X,C⟩:ψ),q) l[n]).2,(mN c ((⟨N,X,C⟩:ψ),q) l[n]).1.η,(mN c ((⟨N,X,C⟩:ψ),q) l[n]).1.Next,(mN c ((⟨N,X,C⟩:ψ),q) l[n]).1.aj)) (ε.ai (cF hx) ?_) fun v hv=>?_)
   ·unfold mN;by_cases e:(l[n].aV==c)=true
    ·simp only [if_pos e];have oF:=hG.l;dsimp only at oF;exact ε.ai (VT (t:=⟨N,X,C⟩) hG.r.s hG.f hB (by omega) c _) (ε.ret rfl)
    ·simp only [if_neg e]; exact ε.ret rfl
   ·subst hv;refine ε.Ω (by unfold Θ; omega) (ε.inl ⟨⟨n+1,by dsimp only; omega,Φ,?_,?_⟩,by dsimp only; omega⟩)
    ·exact D7
    ·rw [A7]
  ·have:n=l.length:=by omega
   subst this;rw [jE] at e2;exact ε.cV (by simp) (ε.out (ε.ret (by rw [e2])))
 exact ε.bind key fun v hv=>ε.ret (by rw [hv])
end
end
section
def j3 (l:List aA):Prop:=l.Pairwise fun a b=>a.ι<b.ι
def cQ (i:Int) (x:aA):Int:=gQ x.ι i
def VD {l:List aA} (h:j3 l) (i:Int):Mon (cQ i) l:=fun j k x y ph hx hy hc=>by
 obtain ⟨h1,rfl⟩:=fb.1 hx;obtain ⟨h2,rfl⟩:=fb.1 hy;have:=vn.1 h j k h1 h2 ph;unfold cQ at *;rw [jr] at *; omega
def p8 (l:List aA) (i:Int):Bool:=l.any fun q=>q.ι==i
def LB {i:Int}:∀{l:List aA},j3 l→fF (cQ i) l=p8 l i
 | [],_=>rfl
 | x::l,h=>by
  have h2:=(eI.1 h).2;have h1:=(eI.1 h).1;unfold p8;rw [List.any_cons];by_cases hx:cQ i x<0
  ·rw [xR hx,LB h2];have:x.ι<i:=jr.1 hx;rw [beq_eq_false_iff_ne.2 (by omega),CU]; rfl
  ·rw [xS hx];have gl:¬x.ι<i:=fun h=>hx (jr.2 h);by_cases he:x.ι=i
   ·rw [show (cQ i x==0)=true from xY.2 he,show (x.ι==i)=true by simpa using he]; rfl
   ·rw [show (cQ i x==0)=false from gK.2 fun h=>he (xY.1 h),beq_eq_false_iff_ne.2 he,CU]; symm;rw [pS];intro y hy;have:=h1 y hy;simp; omega
def OK {l:List aA} (h:j3 l) (hl:l.length≤1000000) (i:Int):B2 l i=some ((cY (cQ i) l:Int),p8 l i):=by
 have hb:=Hd (C:=fun x=>zH x i) (c:=cQ i) (l:=l) (fun x _=>by unfold zH; rw [w7]; rfl) (VD h i) hl;unfold B2;show ((Dl (fun x=>zH x i) l).bind _)=_;rw [hb,LB h]; rfl
def ou (l:List ξ) (q:List aA):Nat→Int→Int
 | 0,_=>0
 | f+1,i=>if p8 q i=true then i else if i=1 then 0 else ou l q f (gD l i).Up
def aaw {l:List ξ} {q:List aA} {i:Int} {d:Nat} (h:Deep l i d):∀{f:Nat},d≤f→ou l q (f+1) i=ou l q (d+1) i:=by
 induction h with
 | root=>intro f _; rw [ou,ou]; simp
 | @step i n d h1 h2 h3 h4 ih =>
  intro f hf;cases f with
  | zero=>omega
  | succ f =>
   rw [ou,ou.eq_2 l q i (d+1)];have hg:gD l i=n:=jd h2;rw [hg,ih (by omega)]
def qR (l:List ξ) (q:List aA) (i:Int):Int:=ou l q 201 i
section
variable {B:Nat} {t:ψ}
def aez {q:List aA} (hs:dX t.η) (hn:t.η.length≤1000000) (hq:j3 q) (hl:q.length≤1000000) {i:Int} {d:Nat} (h:Deep t.η i d) (h0:∀n,n∈t.η→1≤n.ι):BZ t q i=some (ou t.η q (d+1) i):=by
 have key:∀{d:Nat} {i:Int},Deep t.η i d→loop (zI q t) (i,0)=some (ou t.η q (d+1) i):=by
  intro d i h;induction h with
  | root =>
   have hp:=OK hq hl 1;refine nS ?_;unfold zI B0;rw [ou];simp only [hp,cD];cases p8 q 1 <;> simp [Cat.out]
  | @step i n d h1 h2 h3 h4 ih =>
   have hp:=OK hq hl i;have hi:=h0 n (dM h2).1;rw [(dM h2).2] at hi;rw [ou];by_cases hh:p8 q i=true
   ·rw [if_pos hh];refine nS ?_;unfold zI B0;simp only [hp,cD,hh,if_true];rw [show (i==0)=false by simp; omega];rfl
   ·rw [if_neg hh,if_neg h1,jd h2];refine (sZ ?_).trans ih;unfold zI B0;have hg:=s9 hs hn i;simp only [hp,cD,gK.2 hh,nk,if_false,hg];rw [show ((0:Int)==0)=true from rfl];simp only [if_true,cD,show (i != 1)=true by simpa using h1,jd h2]
 unfold BZ JB WI;rw [key h]; rfl
abbrev kC:=List (Int×Bool)
def rz (m:kC) (j:Int):Prop:=(bn j m).isSome=true
def IT {m:kC} {j:Int}:rz m j↔∃p,p∈m∧p.1=j:=I5
structure SM (m:kC):Prop where
 k:(m.map (·.1)).Pairwise (·≠·)
 r:∀p,p∈m→0≤p.1∧p.1<5000
 v:∀p,p∈m→p.2=true
def SM.ml {m:kC} (h:SM m):m.length≤5000:=by
 have:=EU 5000 (m.map (·.1)) h.k fun x hx=>by
  obtain ⟨p,hp,rfl⟩:=dg.1 hx;exact h.r p hp
 rw [ay] at this; exact this
def Vz {α:Type} {i:Int} {v:α}:∀{l:List (Int×α)},bn i l=some v→(i,v)∈l
 | [],h=>by cases h
 | (k,c)::r,h=>by
  simp only [bn] at h;by_cases e:k=i
  ·rw [if_pos e] at h; cases h; rw [e]; simp
  ·rw [if_neg e] at h; exact cr _ (Vz h)
def SM.get {m:kC} (h:SM m) (j:Int):(bn j m).getD false=(bn j m).isSome:=by
 cases e:bn j m with
 | none=>rfl
 | some b=>exact h.v _ (Vz e)
def SM.set {m:kC} (h:SM m) {i:Int} (hi:¬rz m i) (hr:0≤i∧i<5000):ak i true m=m++[(i,true)]∧SM (m++[(i,true)]):=by
 rcases BG i true m with ⟨h1,h2,h3⟩ | ⟨j,c,h1,h2,_⟩
 ·refine ⟨h2,?_,fun p hp=>?_,fun p hp=>?_⟩
  ·rw [fo];refine vk.2 ⟨h.k,List.pairwise_singleton _ _,fun a ha b hb=>?_⟩;obtain ⟨p,hp,rfl⟩:=dg.1 ha;simp at hb; rw [hb]; exact h3 p hp
  ·rcases gg.1 hp with hp | hp
   ·exact h.r p hp
   ·obtain rfl:=dD.1 hp; exact hr
  ·rcases gg.1 hp with hp | hp
   ·exact h.v p hp
   ·obtain rfl:=dD.1 hp; rfl
 ·exact absurd (by unfold rz; rw [h2]; rfl) hi
def dl (t:ψ) (i:Int):Nat:=(gD t.η i).aC.length
def pJ (t:ψ) (l:kC):Nat:=(l.map fun p=>dl t p.1).sum
def Ay (t:ψ) (E:List aN) (b:Int) (m:kC) (r:List ξ×Int×Int×Int×kC):Prop :=
 r.1=t.η∧r.2.1=t.Next∧r.2.2.1=t.aj∧∃new,r.2.2.2.2=m++new∧SM (m++new)∧r.2.2.2.1=b+(pJ t new:Int) ∧
  (∀p,p∈new→∃e,e∈E∧lT (gN t.η) e.ι p.1)∧(∀e,e∈E→rz (m++new) e.ι)∧∀p,p∈new→∀e,e∈(gD t.η p.1).Ψ→rz (m++new) e.ι
structure UT (t:ψ):Prop where
 s:dX t.η
 n:t.η.length≤1000000
 d:∀i,dl t i≤4096
 e:∀i e,e∈(gD t.η i).Ψ→0≤e.ι∧e.ι<5000
 l:∀i,(gD t.η i).Ψ.length≤1000000
def ahV (h:UT t) (l:kC):pJ t l≤4096*l.length:=by
 induction l with
 | nil=>exact Nat.le_refl _
 | cons p l ih =>
  unfold pJ at ih ⊢;have:=h.d p.1;simp only [List.map_cons,List.sum_cons,c8]; omega
def XG (t:ψ) (a b:kC):pJ t (a++b)=pJ t a+pJ t b:=by unfold pJ; simp
abbrev UF:=(Int×ψ×Int×kC)→Option (List ξ×Int×Int×Int×kC)
def ah5 {f:UF} (h:UT t) {n:Nat} (hf:∀i b m,SM m→5000-m.length<n→0≤b∧b≤4096*(m.length:Int)→0≤i∧i<5000→ε (f (i,t,b,m)) (Ay t (gD t.η i).Ψ (b+(dl t i:Int)) m))
  {i b:Int} {m:kC} (hm:SM m) (hn:5000-m.length<n+1) (hb:0≤b∧b≤4096*(m.length:Int)):ε (th f i t b m) (Ay t (gD t.η i).Ψ (b+(dl t i:Int)) m):=by
 have jv:=hm.ml;have hdi:=h.d i;unfold th;refine ε.ai (s9 h.s h.n i) ?_;show ε (Ω (Θ (b+(dl t i:Int))) (Fo (gD t.η i,(gN t.η i).isSome) f (0,t.η,t.Next,t.aj,b+(dl t i:Int),m))) _;refine ε.Ω (by unfold Θ; omega) ?_;unfold Fo;generalize hE:(gD t.η i).Ψ=E;have hEl:E.length≤1000000:=hE▸h.l i;have hEr:∀e,e∈E→0≤e.ι∧e.ι<5000:=fun e he=>h.e i e (by rw [hE]; exact he)
 have ek:0≤b+(dl t i:Int)∧b+(dl t i:Int)≤4096*((m.length:Int)+1):=by omega
 generalize b+(dl t i:Int)=b0 at ek ⊢;refine ε.loop (fun s:Int×List ξ×Int×Int×Int×kC=>∃k:Nat,s.1=(k:Int)∧k≤E.length∧Ay t (E.take k) b0 m s.2) (fun s=>E.length-s.1.toNat) ?_ _ ⟨0,rfl,by omega,rfl,rfl,rfl,[],by simp,by simpa using hm,by simp [pJ],fun p hp=>(by cases hp),fun e he=>(by simp at he),fun p hp=>(by cases hp)⟩;rintro ⟨s0,N,X,C,bs,ms⟩ ⟨k,e1,hk,g1,g2,g3,new,g4,g5,g6,g7,g8,g9⟩;dsimp only at e1 g1 g2 g3 g4 g6;subst e1; subst g1; subst g2; subst g3; subst g4; subst g6;unfold zG;dsimp only;rw [hE];by_cases Φ:k<E.length
 ·have hx:=bT Φ
  have gB:E.take (k+1)=E.take k++[E[k]]:=by rw [qH,hx]; rfl
  have hr:=hEr _ (eG Φ);have y_:=g5.ml;have hsd:=ahV h new;rw [dq] at y_;refine ε.cond (by simpa using Φ) (ε.bind (R:=fun v=>Ay t (E.take (k+1)) b0 m v) (ε.ai (cF hx) (ε.ai rfl ?_)) fun v hv=>ε.Ω (by unfold Θ; omega) (ε.inl ⟨⟨k+1,by dsimp only; omega,Φ,hv⟩,by dsimp only; omega⟩));rw [g5.get];by_cases hK:rz (m++new) E[k].ι
  ·have yp:(bn E[k].ι (m++new)).isSome=true:=hK;refine ε.cV (by rw [yp]; simp) (ε.ret ⟨rfl,rfl,rfl,new,rfl,g5,rfl,fun p hp=>?_,fun e he=>?_,g9⟩)
   ·obtain ⟨e,he,hr⟩:=g7 p hp;exact ⟨e,by rw [gB]; exact qE _ he,hr⟩
   ·rw [gB] at he
    rcases gg.1 he with he | he
    ·exact g8 e he
    ·obtain rfl:=dD.1 he; exact hK
  ·obtain ⟨q1,q2⟩:=g5.set hK hr;have yp:¬(bn E[k].ι (m++new)).isSome=true:=hK
   have oF:(m++new++[(E[k].ι,true)]).length=m.length+new.length+1:=by simp; omega
   have mR:=q2.ml;rw [oF] at mR;refine ε.cond (by simpa using yp) (ε.Ω ⟨by unfold Θ; omega,by simp only [dq]; omega⟩ ?_);rw [q1];refine ε.bind (hf E[k].ι (b0+(pJ t new:Int)) (m++new++[(E[k].ι,true)]) q2 (by rw [oF]; omega) (by rw [oF]; omega) hr) ?_;rintro ⟨N',X',C',b',m'⟩ ⟨u1,u2,u3,E4,u4,u5,u6,u7,u8,u9⟩;dsimp only at u1 u2 u3 u4 u6;subst u1; subst u2; subst u3; subst u4; subst u6
   have Ed:m++new++[(E[k].ι,true)]++E4=m++(new++[(E[k].ι,true)]++E4):=by simp
   have j9:∀j,rz (m++new) j→rz (m++(new++[(E[k].ι,true)]++E4)) j:=fun j hj=>by
    rw [IT] at *;obtain ⟨p,hp,e⟩:=hj;refine ⟨p,?_,e⟩;rw [←Ed]; simp only [gg] at *; exact .inl (.inl hp)
   have acJ:rz (m++(new++[(E[k].ι,true)]++E4)) E[k].ι:=IT.2 ⟨(E[k].ι,true),by simp,rfl⟩;refine ε.ret ⟨rfl,rfl,rfl,new++[(E[k].ι,true)]++E4,Ed,Ed▸u5,?_,fun p hp=>?_,fun e he=>?_,fun p hp e he=>?_⟩
   ·dsimp only;rw [XG,XG]
    have:pJ t [(E[k].ι,true)]=dl t E[k].ι:=by simp [pJ]
    rw [this]; omega
   ·rcases gg.1 hp with hp | hp
    ·rcases gg.1 hp with hp | hp
     ·obtain ⟨e,he,hr⟩:=g7 p hp;exact ⟨e,by rw [gB]; exact qE _ he,hr⟩
     ·obtain rfl:=dD.1 hp;exact ⟨E[k],by rw [gB]; exact vj _ (dD.2 rfl),.refl⟩
    ·obtain ⟨e,he,hr⟩:=u7 p hp;refine ⟨E[k],by rw [gB]; exact vj _ (dD.2 rfl),?_⟩
     have iB:gN t.η E[k].ι=some (gD t.η E[k].ι):=by
      unfold gD at he ⊢;cases hg:gN t.η E[k].ι with
      | none=>rw [hg] at he; cases he
      | some n=>rfl
     exact lT.trans (.step .refl iB he) hr
   ·rw [gB] at he
    rcases gg.1 he with he | he
    ·exact j9 _ (g8 e he)
    ·obtain rfl:=dD.1 he; exact acJ
   ·rcases gg.1 hp with hp | hp
    ·rcases gg.1 hp with hp | hp
     ·exact j9 _ (g9 p hp e he)
     ·obtain rfl:=dD.1 hp;exact Ed▸u8 e he
    ·exact Ed▸u9 p hp e he
 ·have:k=E.length:=by omega
  subst this;rw [jE] at g7 g8;exact ε.cV (by simp) (ε.out (ε.ret ⟨rfl,rfl,rfl,new,rfl,g5,rfl,g7,g8,g9⟩))
noncomputable def Lj:UF→UF:=fun f a=>th f a.1 a.2.1 a.2.2.1 a.2.2.2
def ZL:G3 Lj:=fun f g h a r hr=>adV f g (fun a r=>h a r) a.1 a.2.1 a.2.2.1 a.2.2.2 r hr
def X1 (h:UT t):∀(n:Nat) (i b:Int) (m:kC),SM m→5000-m.length<n→0≤b∧b≤4096*(m.length:Int)→ε (qn Lj n (i,t,b,m)) (Ay t (gD t.η i).Ψ (b+(dl t i:Int)) m)
 | 0,_,_,_,_,hn,_=>by omega
 | n+1,i,b,m,hm,hn,hb=>by
  show ε (th (qn Lj n) i t b m) _;exact ah5 h (fun i b m h1 h2 h3 _=>X1 h n i b m h1 h2 h3) hm hn hb
def ah6 (h:UT t) (i:Int):ε (JA i t 0 []) (Ay t (gD t.η i).Ψ (0+(dl t i:Int)) []):=by
 obtain ⟨r,h1,h2⟩:=X1 h 5001 i 0 [] ⟨jY,fun p hp=>(by cases hp),fun p hp=>(by cases hp)⟩ (by simp) (by simp);exact ⟨r,SO ZL h1,h2⟩
def Lk (t:ψ) (i:Int) (r:Int×Int):Prop :=
 if (gD t.η i).τ=2 then ∃m:kC,SM m∧r=((m.length:Int),(dl t i:Int)+(pJ t m:Int))∧∀j,rz m j↔∃e,e∈(gD t.η i).Ψ∧lT (gN t.η) e.ι j
 else r=(0,0)
def ae9 (h:UT t) (i:Int):ε (wP t i) (Lk t i):=by
 unfold wP Lk
 have kP:(gN t.η i).isSome=false→(gD t.η i).τ≠2:=fun hg=>by
  unfold gD;cases hx:gN t.η i with
  | none=>simp [jV]
  | some n=>rw [hx] at hg; cases hg
 refine ε.bind (R:=fun v:Int×kC=>if (gD t.η i).τ=2 then ∃m:kC,SM m∧v=((dl t i:Int)+(pJ t m:Int),m)∧∀j,rz m j↔∃e,e∈(gD t.η i).Ψ∧lT (gN t.η) e.ι j else v=(0,[])) (ε.ai (s9 h.s h.n i) ?_) fun v hv=>ε.ret ?_
 ·dsimp only
  refine ε.bind (R:=(·=decide ((gD t.η i).τ=2))) (ε.bind (R:=(·=decide ((gD t.η i).τ=2))) (ε.ite (fun _=>ε.ret (by rw [uZ]; simp)) fun e=>ε.ret (by
   symm; rw [decide_eq_false_iff_not]; exact kP (gK.2 e))) fun v hv=>ε.ret hv) fun v hv=>?_
  subst hv;by_cases hk:(gD t.η i).τ=2
  ·simp only [hk,if_true,decide_true];refine ε.bind (ah6 h i) ?_;rintro ⟨N,X,C,b,m'⟩ ⟨u1,u2,u3,new,u4,u5,u6,u7,u8,u9⟩;rw [List.nil_append] at u4 u5 u8 u9;dsimp only at u4 u6;subst u4;refine ε.ret ⟨m',u5,?_,fun j=>⟨fun hj=>?_,fun hj=>?_⟩⟩
   ·dsimp only; rw [u6]; congr 1; omega
   ·obtain ⟨p,hp,e⟩:=IT.1 hj;rw [←e]; exact u7 p hp
   ·obtain ⟨e,he,hr⟩:=hj;clear kP u7;induction hr with
    | refl=>exact u8 e he
    | step a b c ih =>
     obtain ⟨p,hp,e⟩:=IT.1 ih;rw [←e] at b;exact u9 p hp _ (by rw [jd b]; exact c)
  ·simp only [hk,if_false,decide_false,nk];exact ε.ret rfl
 ·by_cases hk:(gD t.η i).τ=2
  ·rw [if_pos hk] at hv ⊢;obtain ⟨m,h1,h2,h3⟩:=hv;exact ⟨m,h1,by rw [h2],h3⟩
  ·rw [if_neg hk] at hv ⊢;rw [hv]; rfl
end
end
section
section
variable {B:Nat} {t:ψ}
def vT (l:List ξ) (i:Int):(∃n,gN l i=some n∧gD l i=n)∨(gN l i=none∧gD l i=jV):=by
 unfold gD;cases gN l i with
 | none=>exact .inr ⟨rfl,rfl⟩
 | some n=>exact .inl ⟨n,rfl,rfl⟩
def RT.data (h:RT t) {n:ξ} (hn:n∈t.η):n.aC.length≤4096:=by
 rcases h.nd n hn with hf | ⟨_,hd,_⟩
 ·exact hf.2.2.2.1
 ·rw [hd]; simp
def RT.eR (h:RT t) {n:ξ} (hn:n∈t.η) {e:aN} (he:e∈n.Ψ):1≤e.ι∧e.ι<t.Next:=by
 obtain ⟨x,hx⟩:=nn.1 (h.cl n hn e he);have:=h.lo x (dM hx).1;rw [(dM hx).2] at this; exact this
def RT.ut (h:RT t) (hf:TF B t) (hB:B≤4000):UT t:=by
 refine ⟨h.s,by have:=hf.n; omega,fun i=>?_,fun i e he=>?_,fun i=>by have:=hf.gE i; omega⟩
 ·unfold dl
  rcases vT t.η i with ⟨n,h1,h2⟩ | ⟨h1,h2⟩
  ·rw [h2]; exact h.data (dM h1).1
  ·rw [h2]; exact lO _
 ·rcases vT t.η i with ⟨n,h1,h2⟩ | ⟨h1,h2⟩
  ·rw [h2] at he;have:=h.eR (dM h1).1 he;have:=hf.x; omega
  ·rw [h2] at he; cases he
noncomputable def rL (t:ψ) (i:Int):Int×Int:=(wP t i).getD (0,0)
def Wq (h:UT t) (i:Int):wP t i=some (rL t i)∧Lk t i (rL t i):=by
 obtain ⟨r,h1,h2⟩:=ae9 h i;unfold rL;rw [h1]; exact ⟨rfl,h2⟩
noncomputable def uR (t:ψ) (l:List aA) (i n b:Int):List aA×Int :=
 if (!(gN t.η i).isSome)=true then (l,70) else if ((gD t.η i).τ != 2)=true then (l,73)
 else if decide (n<0)=true then (if p8 l i=true then fW l (cY (cQ i) l:Int) ((cY (cQ i) l:Int)+1) else l,0)
 else if (decide ((rL t i).1>n)||decide ((rL t i).2>b))=true then (l,90)
 else if p8 l i=true then (l.set (cY (cQ i) l) ⟨i,n,b⟩,0)
 else if decide ((l.length:Int)≥16)=true then (l,76)
 else (dH l (cY (cQ i) l:Int) [⟨i,n,b⟩],0)
def MF {l:List aA} (h:j3 l) {i:Int} (hh:p8 l i=true):∃q,l[cY (cQ i) l]?=some q∧q.ι=i:=by
 rw [←LB h] at hh;unfold fF at hh;cases hx:l[cY (cQ i) l]? with
 | none=>rw [hx] at hh; cases hh
 | some q=>rw [hx] at hh; exact ⟨q,rfl,xY.1 hh⟩
def ae6 (h:RT t) (hf:TF B t) (hB:B≤4000) {l:List aA} (hq:j3 l) (hl:l.length≤1000000) (i n b:Int):B1 t l i n b=some (uR t l i n b):=by
 have hu:=h.ut hf hB;refine ε.eq ?_;unfold B1 uR;refine ε.ai (s9 hu.s hu.n i) ?_;dsimp only;have hk:=Dk (cQ i) l;refine ε.eE (fun _=>ε.ret rfl) fun _=>ε.eE (fun _=>ε.ret rfl) fun _=>ε.ai (OK hq hl i) ?_;dsimp only;refine ε.eE (fun _=>?_) fun _=>?_
 ·refine ε.bind (R:=(·=if p8 l i=true then fW l (cY (cQ i) l:Int) ((cY (cQ i) l:Int)+1) else l)) (ε.eE (fun hh=>?_) fun _=>ε.ret rfl) fun v hv=>ε.ret (by rw [hv]);obtain ⟨q,h1,h2⟩:=MF hq hh;have:=(fb.1 h1).1;exact ε.ai (Hk hl) (ε.Ω (by unfold Θ; omega) (ε.Ω (by omega) (ε.ret rfl)))
 ·refine ε.ai (Wq hu i).1 ?_;refine ε.bind (R:=(·=(decide ((rL t i).1>n)||decide ((rL t i).2>b)))) (ε.bind (R:=(·=(decide ((rL t i).1>n)||decide ((rL t i).2>b)))) (ε.ite (fun e=>ε.ret (by rw [e]; rfl)) fun e=>ε.ret (by rw [gK.2 e]; rfl)) fun v hv=>ε.ret hv) fun v hv=>?_;subst hv;refine ε.eE (fun _=>ε.ret rfl) fun _=>ε.eE (fun hh=>?_) fun _=>ε.eE (fun _=>ε.ret rfl) fun _=>?_
  ·obtain ⟨q,h1,h2⟩:=MF hq hh;exact ε.ai (Hk hl) (ε.ai (cF h1) (ε.ret (by rw [gM])))
  ·exact ε.ai (Hk hl) (ε.Ω ⟨by omega,by omega,by simp,by simp only [c8,ib]; omega⟩ (ε.ret rfl))
def W8 {l:List aA} (hq:j3 l) (hl:l.length≤16) (i n b:Int):j3 (uR t l i n b).1∧(uR t l i n b).1.length≤16:=by
 unfold uR;split
 ·exact ⟨hq,hl⟩
 split
 ·exact ⟨hq,hl⟩
 split
 ·dsimp only;split
  ·refine ⟨?_,?_⟩
   ·refine Ze ?_ hq;unfold fW;rw [gM,show ((cY (cQ i) l:Int)+1).toNat=cY (cQ i) l+1 by omega]
    conv=>rhs; rw [←xp (cY (cQ i) l) l]
    exact List.Sublist.append (List.Sublist.refl _) (List.drop_sublist_drop_left _ (by omega))
   ·unfold fW;simp only [dq,dQ,l_]; omega
  ·exact ⟨hq,hl⟩
 split
 ·exact ⟨hq,hl⟩
 split
 ·rename_i hh;obtain ⟨q,h1,h2⟩:=MF hq hh;obtain ⟨Φ,h1⟩:=fb.1 h1;refine ⟨?_,by simp [hl]⟩;refine vn.2 fun a c ha hc hac=>?_;have hp:=vn.1 hq;simp only [List.length_set] at ha hc
  have hI:∀x (hx:x<l.length),((l.set (cY (cQ i) l) ⟨i,n,b⟩)[x]'(by simpa using hx)).ι=l[x].ι:=fun x hx=>by
   rw [List.getElem_set];split
   ·rename_i e; subst e; rw [h1]; exact h2.symm
   ·rfl
  rw [hI a ha,hI c hc];exact hp a c ha hc hac
 split
 ·exact ⟨hq,hl⟩
 ·rename_i h5 h6;have h5:p8 l i=false:=gK.2 h5;rw [decide_eq_true_eq] at h6;refine ⟨Wv hq (fun y hy=>?_) fun y hy=>?_,?_⟩
  ·exact jr.1 (show cQ i y<0 from XI hy)
  ·have h1:=Sr (VD hq i) hy;have h1:¬y.ι<i:=fun h=>h1 (jr.2 h);have h2:=pS.1 h5 y (Zp hy);simp at h2; dsimp only; omega
  ·unfold dH;simp only [dq,dQ,l_,c8,ib]; omega
def AN (t:ψ) (q:List aA):List (Int×Int):=t.η.flatMap fun d=>d.Ψ.map fun e=>(e.ι,qR t.η q d.ι)
def Rw (t:ψ) (q:List aA):Prop:=∀j x y,(j,x)∈AN t q→(j,y)∈AN t q→(gD t.η j).τ=1→x=y
structure OI (t:ψ) (p:List (Int×Int)) (M:List (Int×Int)):Prop where
 a:∀j x,bn j M=some x→(j,x)∈p
 b:∀j x,(j,x)∈p→(gD t.η j).τ=1→bn j M=some x
 l:M.length≤p.length
def OI.step {p M:List (Int×Int)} (h:OI t p M) {j x:Int} (hc:∀w,bn j M=some w→(gD t.η j).τ=1→w=x):OI t (p++[(j,x)]) (ak j x M):=by
 refine ⟨fun i y hy=>?_,fun i y hy hk=>?_,?_⟩
 ·rw [rC] at hy;by_cases e:i=j
  ·rw [if_pos e] at hy; cases hy; rw [e]; simp
  ·rw [if_neg e] at hy; exact qE _ (h.a i y hy)
 ·rw [rC];by_cases e:i=j
  ·rw [if_pos e];subst e
   rcases gg.1 hy with hy | hy
   ·rw [hc y (h.b i y hy hk) hk]
   ·have:=dD.1 hy; cases this; rfl
  ·rw [if_neg e]
   rcases gg.1 hy with hy | hy
   ·exact h.b i y hy hk
   ·have:=dD.1 hy; cases this; exact absurd rfl e
 ·have:=E0 j x M;have:=h.l;rw [dq]; simp; omega
def WB (h:RT t) (q:List aA):∀(l:List ξ),(∀n,n∈l→n∈t.η)→(l.flatMap fun d=>d.Ψ.map fun e=>(e.ι,qR t.η q d.ι)).length≤64*l.length
 | [],_=>by simp
 | n::l,hl=>by
  have ih:=WB h q l fun m hm=>hl m (cr _ hm);have:=(h.en n (hl n (by simp))).n;rw [List.flatMap_cons,dq,ay,c8]; omega
def afw (h:RT t) (hf:TF B t) (hB:B≤4000) {q:List aA} (hq:j3 q) (oF:q.length≤1000000):ε (yh t q) (cM (Rw t q)):=by
 have hu:=h.ut hf hB;have hn:=hu.n;have hlen:=h.len;unfold yh SY;refine ε.loop (fun s:Int×List (Int×Int)=>∃k:Nat,s.1=(k:Int)∧k≤t.η.length∧OI t ((t.η.take k).flatMap fun d=>d.Ψ.map fun e=>(e.ι,qR t.η q d.ι)) s.2) (fun s=>t.η.length-s.1.toNat) ?_ _ ⟨0,rfl,by omega,⟨fun j x hx=>(by cases hx),fun j x hx=>(by cases hx),by simp⟩⟩;rintro ⟨s0,M⟩ ⟨k,e1,hk,hO⟩;dsimp only at e1 hO;subst e1;unfold HM;dsimp only;by_cases Φ:k<t.η.length
 ·have hx:=bT Φ;have bH:=eG Φ
  have gB:t.η.take (k+1)=t.η.take k++[t.η[k]]:=by rw [qH,hx]; rfl
  have yY:=WB h q (t.η.take k) fun n hn=>GK hn;have Mt:=(h.en _ bH).n;refine ε.cond (by simpa using Φ) (ε.ai (cF hx) ?_);generalize hd:t.η[k]=d at *;by_cases hE:d.Ψ.length=0
  ·refine ε.cond (by simp [hE]) ?_;unfold AS;refine ε.Ω (by unfold Θ; omega) (ε.inl ⟨⟨k+1,by dsimp only; omega,Φ,?_⟩,by dsimp only; omega⟩);rw [gB,Zh];have hE':d.Ψ=[]:=List.length_eq_zero_iff.1 hE
   have e0:([d].flatMap fun d=>d.Ψ.map fun e=>(e.ι,qR t.η q d.ι))=[]:=by simp [hE']
   rw [e0,xk]; exact hO
  ·have fx:d.τ=2:=Y3 fun fx=>hE (by rw [(W.file h bH fx).2.1]; rfl);obtain ⟨dd,d1,d2,d3⟩:=h.dp d bH fx
   have abN:BZ t q d.ι=some (qR t.η q d.ι):=by
    rw [aez hu.s hn hq oF d1 (fun n hn=>(h.lo n hn).1)];unfold qR;rw [aaw (f:=200) d1 (by omega)]
   refine ε.cV (by simpa using hE) (ε.ai abN ?_);generalize hP:(t.η.take k).flatMap (fun d=>d.Ψ.map fun e=>(e.ι,qR t.η q d.ι))=P at *;unfold SZ
   have hPl:P.length≤12800:=by rw [dQ] at yY; omega
   refine ε.loop (fun s:Int×List (Int×Int)=>∃j:Nat,s.1=(j:Int)∧j≤d.Ψ.length∧OI t (P++(d.Ψ.take j).map fun e=>(e.ι,qR t.η q d.ι)) s.2) (fun s=>d.Ψ.length-s.1.toNat) ?_ _ ⟨0,rfl,by omega,by simpa using hO⟩;rintro ⟨s0,M'⟩ ⟨j,e1,hj,A0⟩;dsimp only at e1 A0;subst e1;unfold HN;dsimp only;by_cases sM:j<d.Ψ.length
   ·have lE:=bT sM;have Bi:=eG sM
    have IF:d.Ψ.take (j+1)=d.Ψ.take j++[d.Ψ[j]]:=by rw [qH,lE]; rfl
    have her:=h.eR bH Bi;have hMl:=A0.l;rw [dq,ay,dQ] at hMl;have nO:=hf.x;generalize d.Ψ[j]=e at *
    have Mz:∀p,p∈P→p∈AN t q:=fun p hp=>by
     unfold AN;rw [←hP] at hp;obtain ⟨d',bG,hp⟩:=KV.1 hp;exact KV.2 ⟨d',GK bG,hp⟩
    have Ti:∀e,e∈d.Ψ→(e.ι,qR t.η q d.ι)∈AN t q:=fun e he=>KV.2 ⟨d,bH,dg.2 ⟨e,he,rfl⟩⟩;refine ε.cond (by simpa using sM) (ε.ai (cF lE) (ε.ai (s9 hu.s hn e.ι) (ε.ai rfl ?_)));dsimp only;refine ε.bind (R:=(·=decide ((gD t.η e.ι).τ=1∧∃w,bn e.ι M'=some w∧w≠qR t.η q d.ι))) ?_ fun v hv=>?_
    ·refine ε.bind (R:=(·=decide ((gD t.η e.ι).τ=1∧(bn e.ι M').isSome=true))) (ε.ite (fun e'=>ε.ret ?_) fun e'=>ε.ret ?_) fun v hv=>ε.bind (R:=(·=decide ((gD t.η e.ι).τ=1∧∃w,bn e.ι M'=some w∧w≠qR t.η q d.ι))) ?_ fun v hv=>ε.ret hv
     ·have e':(gD t.η e.ι).τ=1:=by simpa using e'
      rw [uZ,decide_eq_true_eq]; simp [e']
     ·have e':¬(gD t.η e.ι).τ=1:=by simpa using e'
      symm; rw [decide_eq_false_iff_not]; simp [e']
     ·subst hv;refine ε.ite (fun e'=>ε.ret ?_) fun e'=>ε.ret ?_
      ·rw [decide_eq_true_eq] at e';obtain ⟨w,hw⟩:=nn.1 e'.2;rw [uZ,decide_eq_true_eq,hw];simp [e'.1]
      ·rw [decide_eq_true_eq] at e';symm; rw [decide_eq_false_iff_not];rintro ⟨h1,w,h2,h3⟩;exact e' ⟨h1,by rw [h2]; rfl⟩
    ·subst hv;refine ε.ite (fun e'=>?_) fun e'=>?_
     ·rw [decide_eq_true_eq] at e';obtain ⟨e2,w,e3,e4⟩:=e';refine ε.out (ε.out (ε.ret ⟨fun h=>(by cases h),fun hO1=>?_⟩));exfalso;have kO:=A0.a _ _ e3;refine e4 (hO1 e.ι w _ ?_ (Ti e Bi) e2)
      rcases gg.1 kO with kO | kO
      ·exact Mz _ kO
      ·obtain ⟨e5,h5,h6⟩:=dg.1 kO;rw [←h6]; exact Ti e5 (GK h5)
     ·rw [decide_eq_true_eq] at e';refine ε.Ω ⟨by unfold Θ; omega,by omega⟩ (ε.Ω (by unfold Θ; omega) (ε.inl ⟨⟨j+1,by dsimp only; omega,sM,?_⟩,by dsimp only; omega⟩));rw [IF,fo,←l9];exact A0.step fun w hw hk=>Y3 fun hc=>e' ⟨hk,w,hw,hc⟩
   ·have:j=d.Ψ.length:=by omega
    subst this;rw [jE] at A0;refine ε.cV (by simp) (ε.out ?_);unfold AS;refine ε.Ω (by unfold Θ; omega) (ε.inl ⟨⟨k+1,by dsimp only; omega,Φ,?_⟩,by dsimp only; omega⟩);rw [gB,Zh,hP];simpa using A0
 ·have:k=t.η.length:=by omega
  subst this;rw [jE] at hO;unfold HO;refine ε.cV (by simp) (ε.out (ε.ret ⟨fun _ j x y hx hy hk=>?_,fun _=>rfl⟩));have h1:=hO.b j x hx hk;have h2:=hO.b j y hy hk;rw [h1] at h2; exact Option.some.inj h2
end
end
section
def ε.On {ρ:Type} {e:Int} {p:Int→Option ρ} {k:Unit→Option ρ} {Q:ρ→Prop} (h0:e=0→ε (k ()) Q) (h1:e≠0→ε (p e) Q):ε ((ir e).bind fun x=>bP x p k) Q:=by
 unfold ir;by_cases he:e=0
 ·rw [if_neg (by simp [he])]; exact h0 he
 ·rw [if_pos (by simpa using he)]; exact h1 he
def ε.check {ρ:Type} {b:Bool} {e:Int} {p:Int→Option ρ} {k:Unit→Option ρ} {Q:ρ→Prop} (he:e≠0) (h0:b=true→ε (k ()) Q) (h1:b=false→ε (p e) Q):ε ((pb b e).bind fun x=>bP x p k) Q:=by
 unfold pb ir;cases b with
 | true=>rw [if_neg (by simp)]; exact h0 rfl
 | false=>rw [if_pos (by simp),if_pos (by simpa using he)]; exact h1 rfl
section
variable {B:Nat} {t:ψ}
noncomputable def E9 (t:ψ) (q:List aA):Bool:=(yh t q).getD false
def Wh (h:RT t) (hf:TF B t) (hB:B≤4000) {q:List aA} (hq:j3 q) (oF:q.length≤1000000):yh t q=some (E9 t q)∧(E9 t q=true↔Rw t q):=by
 obtain ⟨r,h1,h2⟩:=afw h hf hB hq oF;unfold E9;rw [h1]; exact ⟨rfl,h2⟩
noncomputable def zw (t:ψ) (q:aA):Bool:=!(decide ((rL t q.ι).1≤q.η)&&decide ((rL t q.ι).2≤q.As))
def ui (l:List az) (t:ψ) (i:Int):ψ:=if v8 l i=true then t else (vS t i).1
def lG (t:ψ) (l:List az):ψ:=((t.η.filter lZ).map (·.ι)).foldl (ui l) t
def sW (t:ψ) (q:List aA):List aA:=q.filter fun x=>(gN t.η x.ι).isSome
noncomputable def wR (t:ψ) (l:List az) (q:List aA):Int⊕(ψ×List aA) :=
 if (!E9 (lG t l) (sW (lG t l) q))=true then .inl 91
 else if (sW (lG t l) q).any (zw (lG t l))=true then .inl 90
 else .inr (lG t l,sW (lG t l) q)
structure RF (B:Nat) (t:ψ):Prop where
 r:RT t
 f:TF B t
def RF.fr (h:RF B t) (l:List az) (i:Int):RF B (ui l t i):=by
 unfold ui; split
 ·exact h
 ·exact ⟨h.r.free i,h.f.SX i⟩
def RF.Mf (l:List az):∀(o:List Int) {t:ψ},RF B t→RF B (o.foldl (ui l) t)
 | [],_,h=>h
 | i::o,_,h=>RF.Mf l o (h.fr l i)
def RF.settle (h:RF B t) (l:List az):RF B (lG t l):=RF.Mf l _ h
def Vp (t:ψ) {q:List aA} (hq:j3 q):j3 (sW t q)∧(sW t q).length≤q.length:=⟨List.Pairwise.filter _ hq,ma _ _⟩
def afp (h:dX t.η) (hn:t.η.length≤1000000) {q:List aA} (hl:q.length≤1000000):J' q t=some (sW t q):=by
 have hd:=Sf (C:=fun x=>DU x t) (p:=fun x=>!(gN t.η x.ι).isSome) (l:=q) (z:=⟨0,0,0⟩) (fun x _=>by
  unfold DU
  rw [s9 h hn]; rfl) hl
 have e:(q.filter fun x=>!!(gN t.η x.ι).isSome)=sW t q:=by unfold sW; congr 1; funext x; simp
 rw [e] at hd;exact hd
def SI.Jv {k:Nat} {s:bq} (h:SI k s) (hk:k≤200) {t:ψ} (ht:dX t.η) (hf:TF (2+5*k+5) t):PF (2+5*k+5) s t :=
 ⟨h.f.up (by omega),hf,by omega,h.t.s,ht,h.si,by have:=h.tk; omega,by have:=h.ps; omega,by have:=h.ta; omega⟩
def afF {k:Nat} {s:bq} (hs:SI k s) (hk:k≤60) (h:RF (2+5*k+5) t) {H:List az} (hH:H.length≤1000) {q:List aA} (hq:j3 q) (oF:q.length≤1000) (q0:List aA) (xG xH:Int) (a12 xI:List UInt8) (xJ xK xL:Int) (a17:List UInt8) (xM xN a20 a21 a22:Int) :
  p7 t q s.Γ.η s.Γ.Next s.Γ.aj s.aT s.aQ s.aS s.aW s.Next H q0 xG xH a12 xI xJ xK xL a17 xM xN a20 a21 a22=some ((wR t H q).map id fun z=>((dP s z.1).Γ.η,(dP s z.1).Γ.Next,(dP s z.1).Γ.aj,(dP s z.1).aT,(dP s z.1).aQ,(dP s z.1).aS,(dP s z.1).aW,(dP s z.1).Next,z.2)):=by
 have hn:=h.f.n;refine ε.eq ?_;unfold p7;refine ε.ai (a:=((lG t H).η,(lG t H).Next,(lG t H).aj)) ?_ ?_
 ·refine ε.eq (ε.ai (ae2 (by omega)) ?_);unfold S3 lG;generalize hO:(t.η.filter lZ).map (·.ι)=O
  have hOl:O.length≤1000000:=by rw [←hO,ay]; exact fc (ma _ _) (by omega)
  refine ε.loop (fun s:Int×List ξ×Int×Int=>∃j:Nat,s.1=(j:Int)∧j≤O.length∧(O.take j).foldl (ui H) t=⟨s.2.1,s.2.2.1,s.2.2.2⟩) (fun s=>O.length-s.1.toNat) ?_ _ ⟨0,rfl,by omega,rfl⟩;rintro ⟨s0,N,X,C⟩ ⟨j,e1,hj,e2⟩;dsimp only at e1 e2;subst e1;have hR:RF (2+5*k+5) (⟨N,X,C⟩:ψ):=e2▸RF.Mf H (O.take j) h;unfold HU;dsimp only;by_cases Φ:j<O.length
  ·have hx:=bT Φ
   have gB:O.take (j+1)=O.take j++[O[j]]:=by rw [qH,hx]; rfl
   have A7:(O.take (j+1)).foldl (ui H) t=ui H ⟨N,X,C⟩ O[j]:=by rw [gB,GH,e2]; rfl
   refine ε.cond (by simpa using Φ) (ε.bind (R:=fun v=>(⟨v.1,v.2.1,v.2.2⟩:ψ)=ui H ⟨N,X,C⟩ O[j]) (ε.ai (cF hx) (ε.ai (afo H _ (by omega)) ?_)) fun v hv=>ε.Ω (by unfold Θ; omega) (ε.inl ⟨⟨j+1,by dsimp only; omega,Φ,?_⟩,by dsimp only; omega⟩))
   ·unfold ui;by_cases e:v8 H O[j]=true
    ·simp only [if_pos e];exact ε.cV (by simp [e]) (ε.ret rfl)
    ·simp only [if_neg e];exact ε.cond (by simpa using e) (ε.ai (VV hR.r.s hR.f (by omega) _) (ε.ret rfl))
   ·rw [A7]; exact hv.symm
  ·have:j=O.length:=by omega
   subst this;rw [jE] at e2;exact ε.cV (by simp) (ε.out (ε.ret (by rw [e2])))
 have hR:=h.settle H;unfold wR;generalize lG t H=T at *;have hnT:=hR.f.n;dsimp only;refine ε.ai (Hk (by omega)) (ε.ai (afp (t:=T) hR.r.s (by omega) (by omega)) ?_);obtain ⟨k1,k2⟩:=Vp T hq;generalize sW T q=Q at *;refine ε.ai (Wh hR.r hR.f (by omega) k1 (by omega)).1 ?_;refine ε.check (by decide) (fun hb=>?_) fun hb=>?_;rotate_left
 ·rw [hb,if_pos (by rfl)]; exact ε.ret rfl
 rw [hb,if_neg (by simp)];unfold S4;have hu:=hR.r.ut hR.f (by omega);refine ε.loop (fun n:Int=>∃j:Nat,n=(j:Int)∧j≤Q.length∧(Q.take j).any (zw T)=false) (fun n=>Q.length-n.toNat) ?_ _ ⟨0,rfl,by omega,rfl⟩;rintro n ⟨j,rfl,hj,bw⟩;unfold HV;by_cases Φ:j<Q.length
 ·have hx:=bT Φ
  have gB:Q.take (j+1)=Q.take j++[Q[j]]:=by rw [qH,hx]; rfl
  refine ε.cond (by simpa using Φ) (ε.ai (cF hx) (ε.ai (Wq (t:=T) hu Q[j].ι).1 ?_));refine ε.bind (R:=(·=!zw T Q[j])) ?_ fun v hv=>?_
  ·unfold zw;rw [Bool.not_not];exact ε.ite (fun e=>ε.ret (by rw [e]; rfl)) fun e=>ε.ret (by rw [gK.2 e]; rfl)
  subst hv;refine ε.check (by decide) (fun ho=>?_) fun ho=>?_
  ·have ho:zw T Q[j]=false:=by simpa using ho
   unfold HX;refine ε.Ω (by unfold Θ; omega) (ε.inl ⟨⟨j+1,by omega,Φ,?_⟩,by omega⟩);rw [gB,List.any_append,bw]; simp [ho]
  ·have ho:zw T Q[j]=true:=by simpa using ho
   have:Q.any (zw T)=true:=CZ.2 ⟨_,eG Φ,ho⟩;rw [this,if_pos rfl];exact ε.out (ε.ret rfl)
 ·have:j=Q.length:=by omega
  subst this;rw [jE] at bw;refine ε.cV (by simp) (ε.out ?_);unfold HW;rw [bw];have hp:=OD (hs.Jv (by omega) hR.r.s hR.f);refine ε.ai (x:=tr s T) hp (ε.ret ?_);rfl
end
abbrev dY {α:Type} (F:List ξ→Int→Int→Int→List Int→List bp→List bd→Int→List az→List aA→Int→Int→List UInt8→List UInt8→Int→Int→Int→List UInt8→Int→Int→Int→Int→Int→α) (f:c9) (o:bN):α:=F f.S.Γ.η f.S.Γ.Next f.S.Γ.aj f.S.aT f.S.aQ f.S.aS f.S.aW f.S.Next f.Holds f.bc o.τ o.aV o.cA o.To o.N o.M o.cd o.aC 0 0 0 0 0
abbrev s8 {β:Type} (s:bq) (r:β):=(s.Γ.η,s.Γ.Next,s.Γ.aj,s.aT,s.aQ,s.aS,s.aW,s.Next,r)
end
section
section
variable {B:Nat} {t:ψ}
def Aw (t:ψ) (i a b:Int) (r:List aN×Int×Int):Prop :=
 if (decide (a<0)||decide (b<1)||decide (b>64))=true then r=([],0,1)
 else if ((dz t.η i).2 != 0)=true then r=([],0,(dz t.η i).2)
 else ∃L:List aN,L.Perm ((dz t.η i).1.Ψ.filter fun e=>!decide (e.aj<a))∧L.Pairwise (fun x y=>¬y.aj<x.aj) ∧
  (if (L.length:Int)≤b then r=(L,0,0) else ∃x,L[(b-1).toNat]?=some x∧r=(L.take b.toNat,x.aj+1,0))
def aeX (h:ST B t) (hB:B≤90000) {i:Int} (hk:(dz t.η i).1.Ψ.Pairwise fun a b=>a.aj≠b.aj) (hc:∀e,e∈(dz t.η i).1.Ψ→0≤e.aj∧e.aj≤1000000000000000) (a b:Int):ε (w8 t i a b) (Aw t i a b):=by
 have hE:=LO h.f i;unfold w8 Aw
 refine ε.bind (R:=(·=(decide (a<0)||decide (b<1)||decide (b>64)))) (ε.bind (R:=(·=(decide (a<0)||decide (b<1)))) (ε.ite (fun e=>ε.ret (by rw [e]; rfl)) fun e=>ε.ret (by rw [gK.2 e]; rfl)) fun v hv=>ε.bind (R:=(·=(decide (a<0)||decide (b<1)||decide (b>64)))) (by
  subst hv
  exact ε.ite (fun e=>ε.ret (by rw [e]; rfl)) fun e=>ε.ret (by rw [gK.2 e]; rfl)) fun v hv=>ε.ret hv) fun v hv=>?_
 subst hv;by_cases h0:(decide (a<0)||decide (b<1)||decide (b>64))=true
 ·simp only [if_pos h0]; exact ε.ret rfl
 simp only [if_neg h0];simp only [tT,decide_eq_true_eq,not_or] at h0;refine ε.ai (Jn h (by omega) i) ?_;dsimp only;by_cases h1:((dz t.η i).2 != 0)=true
 ·simp only [if_pos h1]; exact ε.ret rfl
 simp only [if_neg h1];generalize (dz t.η i).1.Ψ=E at *;have hd:=Sf (C:=fun x=>Ks x a) (p:=fun x=>decide (x.aj<a)) (l:=E) (z:=⟨[],0,0⟩) (fun x _=>rfl) (by omega);refine ε.ai (se (l:=E) (K:=32) (by omega)) (ε.ai (x:=J_ E a) hd ?_);have hFl:(E.filter fun e=>!decide (e.aj<a)).length≤E.length:=ma _ _;obtain ⟨L,l1⟩:=PZ Og (k:=fun e:aN=>e.aj) (l:=E.filter fun e=>!decide (e.aj<a)) (hk.filter _);obtain ⟨l2,l3⟩:=F8 Og l1;refine ε.ai (Xs (by omega) l1) ?_;have Tj:=l2.length_eq
 have Vj:L.Pairwise (fun x y=>¬y.aj<x.aj):=l3.imp fun h hc=>by have:=jr.1 h; omega
 by_cases hle:(L.length:Int)≤b
 ·refine ε.cond (by simpa using hle) (ε.ret ⟨L,l2,Vj,?_⟩);rw [if_pos hle]
 ·have hb:(b-1).toNat<L.length:=by omega
  have hx:=bT hb;have hm:L[(b-1).toNat]∈E:=(eB.1 (l2.mem_iff.1 (eG hb))).1;have eN:=hc _ hm
  have e1:b-1=(((b-1).toNat:Nat):Int):=by omega
  refine ε.cV (by simpa using hle) (ε.Ω ⟨by omega,by omega,by omega⟩ (ε.Ω (by unfold Θ; omega) ?_));refine ε.ai (by rw [e1]; exact cF hx) (ε.Ω (by unfold Θ; omega) (ε.ret ⟨L,l2,Vj,?_⟩));rw [if_neg hle];exact ⟨_,hx,rfl⟩
noncomputable def rB (t:ψ) (i a b:Int):List aN×Int×Int:=(w8 t i a b).getD ([],0,0)
def RT.ck2 (h:RT t) (hf:TF B t) (hB:B≤90000) (i:Int):∀e,e∈(dz t.η i).1.Ψ→0≤e.aj∧e.aj≤1000000000000000:=by
 intro e he
 have:(dz t.η i).1=gD t.η i∨(dz t.η i).1=jV:=by
  unfold dz;split
  ·split
   ·exact .inr rfl
   ·exact .inl rfl
  ·exact .inr rfl
 rcases this with h1 | h1
 ·rw [h1] at he
  rcases vT t.η i with ⟨n,g1,g2⟩ | ⟨g1,g2⟩
  ·rw [g2] at he;have:=(h.en n (dM g1).1).r e he;have:=hf.c; omega
  ·rw [g2] at he; cases he
 ·rw [h1] at he; cases he
def Jo (h:RT t) (hf:TF B t) (hB:B≤90000) (i a b:Int):w8 t i a b=some (rB t i a b)∧Aw t i a b (rB t i a b):=by
 have hk:(dz t.η i).1.Ψ.Pairwise fun a b=>a.aj≠b.aj:=by
  unfold dz;split
  ·split
   ·exact jY
   ·rcases vT t.η i with ⟨n,g1,g2⟩ | ⟨g1,g2⟩
    ·rw [g2]; exact (h.en n (dM g1).1).k
    ·rw [g2]; exact jY
  ·exact jY
 obtain ⟨r,h1,h2⟩:=aeX (h.st hf) hB hk (h.ck2 hf hB i) a b;unfold rB;rw [h1]; exact ⟨rfl,h2⟩
def We {l:List aN} (hl:l.length≤1000000):yg l=some (l.map (·.aM)):=by
 have:Mg l (0,[])=some (l.map (·.aM)):=by
  unfold Mg;refine ε.eq ?_;refine ε.loop (fun s:Int×List (List UInt8)=>∃n:Nat,s.1=n∧n≤l.length∧s.2=(l.take n).map (·.aM)) (fun s=>l.length-s.1.toNat) ?_ _ ⟨0,rfl,by omega,rfl⟩;rintro ⟨s0,o⟩ ⟨n,e1,hn,e2⟩;dsimp only at e1 e2;subst e1; subst e2;unfold HL;dsimp only;by_cases Φ:n<l.length
  ·have hx:=bT Φ
   have gB:l.take (n+1)=l.take n++[l[n]]:=by rw [qH,hx]; rfl
   refine ε.cond (by simpa using Φ) (ε.ai (cF hx) (ε.Ω (by simp only [ay,dQ,c8,ib]; omega) (ε.Ω (by unfold Θ; omega) (ε.inl ⟨⟨n+1,by dsimp only; omega,Φ,?_⟩,by dsimp only; omega⟩))));dsimp only;rw [gB,fo]; rfl
  ·have:n=l.length:=by omega
   subst this;exact ε.cV (by simp) (ε.out (ε.ret (by rw [jE])))
 unfold yg;rw [this]; rfl
def FN (n:ξ):Int:=max (n.aC.length:Int) (n.Ψ.length:Int)
structure NB (n:ξ):Prop where
 i:0≤n.ι∧n.ι<5000
 e:∀e,e∈n.Ψ→0≤e.ι∧e.ι<5000∧e.aM.length≤32
 l:n.Ψ.length≤64
 d:n.aC.length≤4096
 k:n.τ=1∨n.τ=2
 n:-100000≤n.bb∧n.bb≤100000
def RT.nb (h:RT t) (hf:TF B t) (hB:B≤4000) {n:ξ} (hn:n∈t.η):NB n:=by
 have h1:=h.lo n hn;have h2:=hf.x;have h3:=hf.l n hn;refine ⟨by omega,fun e he=>?_,(h.en n hn).n,h.data hn,(h.nd n hn).kind,by omega⟩;have h4:=h.eR hn he;have h5:=(BJ ((h.en n hn).r e he).1).2.2;exact ⟨by omega,by omega,h5⟩
structure SK (s:bq):Prop where
 n:∀n,n∈s.Γ.η→NB n
 p:∀p,p∈s.aS→NB p.fg
 t:∀x,x∈s.aW→0≤x.ι∧x.ι<5000
section
variable {k:Nat} {s:bq}
def SK.S_ (h:SK s) (a:Int):xA (allM s a)∧∀j n,bn j (allM s a)=some n→NB n:=by
 have key:∀j n,bn j (allM s a)=some n→NB n∧n.ι=j:=fun j n hg=>by
  unfold allM at hg
  rcases Ow a j n _ _ hg with ⟨q,h1,h2,h3,h4⟩ | hg
  ·rw [←h2];exact ⟨h.n q.1 (KW h1).1,by rw [h2]; exact h3⟩
  ·rcases OO a j n _ _ hg with ⟨p,h1,h2,h3,h4⟩ | hg
   ·rw [←h2];exact ⟨h.p p h1,by rw [h2]; exact h3⟩
   ·cases hg
 exact ⟨⟨fun j n hg=>(key j n hg).2,fun j n hg e he=>by have:=(key j n hg).1.e e he; exact ⟨this.1,this.2.1⟩,fun j n hg=>by have:=(key j n hg).1.l; omega⟩,fun j n hg=>(key j n hg).1⟩
noncomputable def xP (s:bq) (i:Int):Int×List ξ×Int:=(wS s i).getD (0,[],0)
def aey (hs:SI k s) (hk:k≤100) (h:SK s) (i:Int):wS s i=some (xP s i)∧(∀n,n∈(xP s i).2.1→NB n)∧(xP s i).2.1.length≤5000∧Θ (xP s i).1∧Θ (xP s i).2.2:=by
 have hT:ε (wS s i) (fun r=>(∀n,n∈r.2.1→NB n)∧r.2.1.length≤5000∧Θ r.1∧Θ r.2.2):=by
  unfold wS Xc;have wC:=hs.ta;refine ε.loop (fun n:Int=>∃j:Nat,n=(j:Int)∧j≤s.aW.length) (fun n=>s.aW.length-n.toNat) ?_ _ ⟨0,rfl,by omega⟩;rintro n ⟨j,rfl,hj⟩;unfold JT;by_cases Φ:j<s.aW.length
  ·have hx:=bT Φ;refine ε.cond (by simpa using Φ) (ε.ai (cF hx) (ε.ite (fun _=>?_) fun _=>ε.Ω (by unfold Θ; omega) (ε.inl ⟨⟨j+1,by omega,Φ⟩,by omega⟩)));have Nr:=hs.ps;have dF:=hs.f.n;have jz:=h.t _ (eG Φ);obtain ⟨g1,g2⟩:=h.S_ s.aW[j].At;refine ε.bind (afj s s.aW[j] (by omega) (fun p hp=>by have:=(h.p p hp).i; unfold Θ; omega) (by omega) hs.si (fun n hn=>by have:=(h.n n hn).i; unfold Θ; omega) g1 jz) fun r hr=>ε.out (ε.ret ?_);obtain ⟨h1,h2,-⟩:=hr;have Tl:∀n,n∈r.1→NB n:=fun n hn=>g2 _ _ ((h2 n).1 hn).2;refine ⟨Tl,?_,by unfold Θ; dsimp only; omega,by unfold Θ; dsimp only; omega⟩
   have:=EU 5000 (r.1.map (·.ι)) (by rw [List.pairwise_map]; exact h1.imp fun h=>by omega) fun x hx=>by
    obtain ⟨n,hn,rfl⟩:=dg.1 hx;exact (Tl n hn).i
   rw [ay] at this; exact this
  ·refine ε.cV (by simpa using Φ) (ε.out (ε.ret ⟨fun n hn=>(by cases hn),by simp,by unfold Θ; decide,by unfold Θ; decide⟩))
 obtain ⟨r,h1,h2⟩:=hT;unfold xP;rw [h1]; exact ⟨rfl,h2⟩
end
end
end
section
def bS {α β:Type} (v:Int⊕α) (k:α→Int⊕β):Int⊕β:=match v with | .inl e=>.inl e | .inr a=>k a
def mS {β:Type} (e:Int) (v:Int⊕β):Int⊕β:=if (e != 0)=true then .inl e else v
def cu {α β:Type} (g:α→β) (v:Int⊕α):Int⊕β:=match v with | .inl e=>.inl e | .inr a=>.inr (g a)
def ad4 {α β:Type} (g:α→β) (v:Int⊕α):v.map id g=cu g v:=by cases v <;> rfl
def ε.bS {α β γ δ:Type} {x:Option (Int⊕α)} {g:β→α} {v:Int⊕β} {k:α→Option (Int⊕γ)} {w:β→Int⊕δ} {g2:δ→γ} (hx:x=some (cu g v)) (hk:∀b,v=.inr b→ε (k (g b)) (·=cu g2 (w b))) :
  ε (x.bind fun r=>bP r (fun e=>some (.inl e)) k) (·=cu g2 (Go.Proofs.bS v w)):=by
 subst hx;cases v with
 | inl e=>exact ε.ret rfl
 | inr b=>exact hk b rfl
def ε.mS {γ δ:Type} {e:Int} {k:Unit→Option (Int⊕γ)} {v:Int⊕δ} {g2:δ→γ} (hk:e=0→ε (k ()) (·=cu g2 v)) :
  ε ((ir e).bind fun r=>bP r (fun e=>some (.inl e)) k) (·=cu g2 (Go.Proofs.mS e v)):=by
 refine ε.On (fun h=>?_) fun h=>?_
 ·unfold Go.Proofs.mS; rw [if_neg (by simp [h])]; exact hk h
 ·unfold Go.Proofs.mS; rw [if_pos (by simpa using h)]; exact ε.ret rfl
def my {α β:Type} {v:Int⊕α} {k:α→Int⊕β} {r:β} (h:bS v k=.inr r):∃a,v=.inr a∧k a=.inr r:=by
 cases v with
 | inl e=>cases h
 | inr a=>exact ⟨a,rfl,h⟩
def lY {β:Type} {e:Int} {v:Int⊕β} {r:β} (h:mS e v=.inr r):e=0∧v=.inr r:=by
 unfold mS at h;split at h
 ·cases h
 ·rename_i he; exact ⟨by simpa using he,h⟩
def jT (t:ψ) (p:List UInt8):Int⊕ξ:=mS (qu t p).2 (.inr (gD t.η (qu t p).1))
def tz (t:ψ) (p:List UInt8):Int⊕(Int×List UInt8):=mS (oL p).2.2 (mS (qu t (oL p).2.1).2 (.inr ((qu t (oL p).2.1).1,(oL p).1)))
def E5 (n:ξ):Int×Int×Int×List UInt8×List aN×Int:=(n.ι,n.τ,n.bb,n.aC,n.Ψ,n.Up)
def adC {p:List UInt8}:(oL p).2.1.length≤400∧Θ (oL p).2.2:=by
 unfold oL;obtain ⟨h1,h2,h3⟩:=F_ (p:=p);split
 ·refine ⟨adv (fun s hs=>h1 s (List.dropLast_subset _ hs)) (by simp; omega),by unfold Θ; dsimp only; omega⟩
 ·exact ⟨by simp,by unfold Θ; dsimp only; omega⟩
section
variable {B:Nat} {t:ψ}
def Wf (hs:dX t.η) (hn:t.η.length≤1000000) (i:Int) {a3:Int} {a4:List Int} {a5:List bp} {a6:List bd} {a7:Int} {a8:List az} {a9:List aA} {xG xH:Int} {a12 xI:List UInt8} {xJ xK xL:Int} {a17:List UInt8} {xM xN a20 a21 a22:Int}:AT i t.η t.Next t.aj a3 a4 a5 a6 a7 a8 a9 xG xH a12 xI xJ xK xL a17 xM xN a20 a21 a22=some (E5 (gD t.η i)):=by
 unfold AT;show ((l7 t i).bind _)=_;rw [s9 hs hn]; rfl
def zy (h:ST B t) (hB:B≤90000) (p:List UInt8) (hp:p.length≤100000) {a3:Int} {a4:List Int} {a5:List bp} {a6:List bd} {a7:Int} {a8:List az} {a9:List aA} {xG xH:Int} {a12 xI:List UInt8} {xJ xK xL:Int} {a17:List UInt8} {xM xN a20 a21 a22:Int}:qU p t.η t.Next t.aj a3 a4 a5 a6 a7 a8 a9 xG xH a12 xI xJ xK xL a17 xM xN a20 a21 a22=some (cu E5 (jT t p)):=by
 refine ε.eq ?_;unfold qU jT;refine ε.ai (x:=w9 t p) (VZ h hB p hp) (ε.mS fun _=>?_);exact ε.ai (Wf h.s (h.n (by omega)) _) (ε.ret rfl)
def Ff (h:ST B t) (hB:B≤90000) (p:List UInt8) (hp:p.length≤100000) {a3:Int} {a4:List Int} {a5:List bp} {a6:List bd} {a7:Int} {a8:List az} {a9:List aA} {xG xH:Int} {a12 xI:List UInt8} {xJ xK xL:Int} {a17:List UInt8} {xM xN a20 a21 a22:Int}:uk p t.η t.Next t.aj a3 a4 a5 a6 a7 a8 a9 xG xH a12 xI xJ xK xL a17 xM xN a20 a21 a22=some (cu id (tz t p)):=by
 refine ε.eq ?_;unfold uk tz;have:=(adC (p:=p)).1;refine ε.ai (aeW p hp) (ε.mS fun _=>ε.ai (x:=w9 t (oL p).2.1) (VZ h hB _ (by omega)) (ε.mS fun _=>ε.ret rfl))
end
noncomputable def kp {α:Type} (t:ψ) (H:List az) (Q:List aA) (x:α):Int⊕(ψ×List aA×α):=bS (wR t H Q) fun z=>.inr (z.1,z.2,x)
noncomputable def BH (t:ψ) (H:List az) (Q:List aA) (o:bN):Int⊕(ψ×List aA×Int):=bS (tz t o.cA) fun y=>mS (mw t y.1 y.2 o.N).2.2 (kp (mw t y.1 y.2 o.N).1 H Q (mw t y.1 y.2 o.N).2.1)
noncomputable def IZ (t:ψ) (H:List az) (Q:List aA) (o:bN):Int⊕(ψ×List aA×Int):=bS (jT t o.cA) fun n=>bS (tz t o.To) fun y=>mS (sY t n.ι y.1 y.2).2 (kp (sY t n.ι y.1 y.2).1 H Q n.ι)
noncomputable def Ky (t:ψ) (H:List az) (Q:List aA) (o:bN):Int⊕(ψ×List aA×Int):=bS (tz t o.cA) fun y=>mS (qs t y.1 y.2).2.2 (kp (qs t y.1 y.2).1 H Q (qs t y.1 y.2).2.1)
noncomputable def E1 (t:ψ) (H:List az) (Q:List aA) (o:bN):Int⊕(ψ×List aA×Int):=bS (tz t o.cA) fun y=>bS (tz t o.To) fun w=>mS (eQ t y.1 y.2).2 (mS (qj t y.1 y.2 w.1 w.2).2.2 (kp (qj t y.1 y.2 w.1 w.2).1 H Q (eQ t y.1 y.2).1))
noncomputable def IY (t:ψ) (H:List az) (Q:List aA) (o:bN):Int⊕(ψ×List aA×Int):=bS (jT t o.cA) fun n=>mS (uR t Q n.ι o.N o.M).2 (kp t H (uR t Q n.ι o.N o.M).1 n.ι)
def v_ (t:ψ) (H:List az) (o:bN):Int⊕ξ:=mS (zj H o.aV o.cd).2 (if decide (o.N≥0)=true then .inr (gD t.η (zj H o.aV o.cd).1) else .inl 1)
noncomputable def vY (t:ψ) (H:List az) (Q:List aA) (i:Int) (d:List UInt8):Int⊕(ψ×List aA×Int×Int):=mS (nX t i d).2 (kp (nX t i d).1 H Q (i,(d.length:Int)))
def xe (d:List UInt8) (o:bN):List UInt8:=if decide ((o.aC.length:Int)>0)=true then Hq (d++List.replicate ((max (((o.N+(o.aC.length:Int))-(d.length:Int))) (0))).toNat ((0:UInt8))) o.N.toNat o.aC else d
noncomputable def KJ (t:ψ) (H:List az) (Q:List aA) (o:bN):Int⊕(ψ×List aA×Int×Int):=bS (v_ t H o) fun n=>if decide (o.N≤4096)=true then (if decide (o.N+(o.aC.length:Int)≤4096)=true then vY t H Q n.ι (xe n.aC o) else .inl 2) else .inl 1
noncomputable def Hr (t:ψ) (H:List az) (Q:List aA) (o:bN):Int⊕(ψ×List aA×Int×Int):=bS (v_ t H o) fun n=>vY t H Q n.ι (n.aC.take (min o.N (n.aC.length:Int)).toNat)
def JD (d:List UInt8) (o:bN):List UInt8:=(d.drop (min o.N (d.length:Int)).toNat).take (min o.M ((d.drop (min o.N (d.length:Int)).toNat).length:Int)).toNat
def JE (t:ψ) (H:List az) (o:bN):Int⊕(Int×List UInt8):=bS (v_ t H o) fun n=>if (decide (o.M≥0)&&decide (o.M≤4096))=true then .inr (n.ι,JD n.aC o) else .inl 1
noncomputable def EV (t:ψ) (o:bN):Int⊕(Int×List (List UInt8)):=bS (jT t o.cA) fun n=>mS (rB t n.ι o.N o.M).2.2 (.inr ((rB t n.ι o.N o.M).2.1,(rB t n.ι o.N o.M).1.map (·.aM)))
def Jh (t:ψ) (H:List az) (o:bN):Int⊕(List az×Int):=bS (jT t o.cA) fun n=>mS (uN t H o.aV o.cd n.ι).2 (.inr ((uN t H o.aV o.cd n.ι).1,n.ι))
def Hl (t:ψ) (H:List az) (o:bN):Int⊕(ψ×List az):=mS (oZ t H o.aV o.cd).2.2 (.inr ((oZ t H o.aV o.cd).1,(oZ t H o.aV o.cd).2.1))
structure FI (k:Nat) (f:c9):Prop where
 s:SI k f.S
 r:RT f.S.Γ
 k:SK f.S
 h:qL f.Holds
 hl:f.Holds.length≤64
 q:j3 f.bc
 ql:f.bc.length≤16
structure OB (o:bN):Prop where
 p:o.cA.length≤1000
 t:o.To.length≤1000
 d:o.aC.length≤5000
 n:Θ o.N
 m:Θ o.M
 k:Θ o.τ
 c:Θ o.aV
 h:Θ o.cd
def TF.G7 {B:Nat} {t:ψ} (h:TF B t) (hB:B≤90000) (i:Int) (s:List UInt8) (k:Int):TF (B+5) (mw t i s k).1:=by
 unfold mw;split
 ·exact h.up (by omega)
 split
 ·exact h.up (by omega)
 split
 ·exact h.up (by omega)
 ·exact ((h.RC k _).uf i s t.Next).up (by omega)
def TF.Vt {B:Nat} {t:ψ} (h:TF B t) (hB:B≤90000) (i to:Int) (s:List UInt8):TF (B+5) (sY t i to s).1:=by
 unfold sY;split
 ·exact h.up (by omega)
 split
 ·exact h.up (by omega)
 split
 ·exact h.up (by omega)
 ·exact ((h.Vs i).uf to s i).up (by omega)
def TF.X2 {B:Nat} {t:ψ} (h:TF B t) (hB:B≤90000) (i:Int) (s:List UInt8):TF (B+5) (qs t i s).1:=by
 unfold qs;split
 ·exact h.up (by omega)
 split
 ·exact h.up (by omega)
 ·exact ((h.qi i s).un _).up (by omega)
def TF.Oo {B:Nat} {t:ψ} (h:TF B t) (hB:B≤90000) (fr:Int) (s:List UInt8) (to:Int) (aJ:List UInt8):TF (B+5) (qj t fr s to aJ).1:=by
 unfold qj
 repeat (split; exact h.up (by omega))
 exact ((h.kg (C:=B+3) (h.iU _ _ _ _ _ _) (by omega) _ _).uf _ _ _).up (by omega)
def TF.WH {B:Nat} {t:ψ} (h:TF B t) (i:Int) (x:List UInt8):TF (B+5) (nX t i x).1:=by
 unfold nX;split
 ·exact h.up (by omega)
 split
 ·exact h.up (by omega)
 split
 ·exact h.up (by omega)
 ·have h1:=h.gE i; have h2:=h.gL i; have h3:=h.c; have h4:=h.x;exact (h.put (n:=⟨(gD t.η i).ι,(gD t.η i).τ,(gD t.η i).bb,x,(gD t.η i).Ψ,(gD t.η i).Up⟩) (by dsimp only; omega) (by dsimp only; omega) (by omega) (by omega)).up (by omega)
section
variable {k:Nat} {f:c9} {o:bN}
def FI.st (h:FI k f):ST (2+5*k) f.S.Γ:=W.st h.r h.s.f
def FI.rf (h:FI k f):RF (2+5*k+5) f.S.Γ:=⟨h.r,h.s.f.up (by omega)⟩
def BT {α:Type} (h:FI k f) (hk:k≤60) {t:ψ} (ht:RF (2+5*k+5) t) {q:List aA} (hq:j3 q) (oF:q.length≤1000) (x:α) {γ:Type} (g:ψ×List aA×α→γ) {K:List ξ×Int×Int×Int×List Int×List bp×List bd×Int×List aA→Option (Int⊕γ)}
  (hK:∀z:ψ×List aA,wR t f.Holds q=.inr z→K (s8 (dP f.S z.1) z.2)=some (.inr (g (z.1,z.2,x)))) :
  ε ((dY (p7 t q) f o).bind fun r=>bP r (fun e=>some (.inl e)) K) (·=cu g (kp t f.Holds q x)):=by
 have hp:=afF h.s hk ht (by have:=h.hl; omega) hq oF f.bc o.τ o.aV o.cA o.To o.N o.M o.cd o.aC 0 0 0 0 0 (H:=f.Holds);rw [ad4] at hp;unfold kp;refine ε.bS hp fun z hz=>⟨_,hK z hz,rfl⟩
def afu (h:FI k f) (hk:k≤60) (ho:OB o):dY DP f o=some (cu (fun z=>(s8 (dP f.S z.1) (z.2.2,z.2.1))) (BH f.S.Γ f.Holds f.bc o)):=by
 refine ε.eq ?_;unfold dY DP BH;refine ε.bS (Ff h.st (by omega) _ (by have:=ho.p; omega)) fun y _=>ε.ai (x:=Cw f.S.Γ y.1 y.2 o.N) (aex h.r h.s.f (by omega) _ _ _) (ε.mS fun _=>?_);exact BT (o:=o) h hk ⟨h.r.add _ _ _,h.s.f.G7 (by omega) _ _ _⟩ h.q (by have:=h.ql; omega) _ _ fun z _=>rfl
def afr (h:FI k f) (hk:k≤60) (ho:OB o):dY DM f o=some (cu (fun z=>(s8 (dP f.S z.1) (z.2.2,z.2.1))) (IZ f.S.Γ f.Holds f.bc o)):=by
 refine ε.eq ?_;unfold dY DM IZ;refine ε.bS (zy h.st (by omega) _ (by have:=ho.p; omega)) fun n _=>ε.bS (Ff h.st (by omega) _ (by have:=ho.t; omega)) fun y _=>ε.ai (x:=Cy f.S.Γ n.ι y.1 y.2) (aeY h.r h.s.f (by omega) _ _ _) (ε.mS fun _=>?_);exact BT (o:=o) h hk ⟨h.r.ln _ _ _,h.s.f.Vt (by omega) _ _ _⟩ h.q (by have:=h.ql; omega) _ _ fun z _=>rfl
def afJ (h:FI k f) (hk:k≤60) (ho:OB o):dY DX f o=some (cu (fun z=>(s8 (dP f.S z.1) (z.2.2,z.2.1))) (Ky f.S.Γ f.Holds f.bc o)):=by
 refine ε.eq ?_;unfold dY DX Ky;refine ε.bS (Ff h.st (by omega) _ (by have:=ho.p; omega)) fun y _=>ε.ai (x:=CB f.S.Γ y.1 y.2) (ae8 h.r h.s.f (by omega) _ _) (ε.mS fun _=>?_);exact BT (o:=o) h hk ⟨h.r.un _ _,h.s.f.X2 (by omega) _ _⟩ h.q (by have:=h.ql; omega) _ _ fun z _=>rfl
def afE (h:FI k f) (hk:k≤60) (ho:OB o):dY DS f o=some (cu (fun z=>(s8 (dP f.S z.1) (z.2.2,z.2.1))) (E1 f.S.Γ f.Holds f.bc o)):=by
 refine ε.eq ?_;unfold dY DS E1;refine ε.bS (Ff h.st (by omega) _ (by have:=ho.p; omega)) fun y _=>ε.bS (Ff h.st (by omega) _ (by have:=ho.t; omega)) fun w _=>ε.ai (x:=uV f.S.Γ y.1 y.2) (Jm h.st (by omega) _ _) (ε.mS fun _=>ε.ai (x:=Cz f.S.Γ y.1 y.2 w.1 w.2) (ae0 h.r h.s.f (by omega) _ _ _ _) (ε.mS fun _=>?_));exact BT (o:=o) h hk ⟨h.r.mv _ _ _ _,h.s.f.Oo (by omega) _ _ _ _⟩ h.q (by have:=h.ql; omega) _ _ fun z _=>rfl
def afq (h:FI k f) (hk:k≤60) (ho:OB o):dY DL f o=some (cu (fun z=>(s8 (dP f.S z.1) (z.2.2,z.2.1))) (IY f.S.Γ f.Holds f.bc o)):=by
 refine ε.eq ?_;unfold dY DL IY;refine ε.bS (zy h.st (by omega) _ (by have:=ho.p; omega)) fun n _=>ε.ai (x:=B1 f.S.Γ f.bc n.ι o.N o.M) (ae6 h.r h.s.f (by omega) h.q (by have:=h.ql; omega) _ _ _) (ε.mS fun _=>?_);have hs:=W8 (t:=f.S.Γ) h.q h.ql n.ι o.N o.M;exact BT (o:=o) h hk h.rf hs.1 (by have:=hs.2; omega) _ _ fun z _=>rfl
def Wa (h:FI k f) (hk:k≤60) (i:Int) (d:List UInt8):dY (yi i) f o d=some (cu (fun z=>(s8 (dP f.S z.1) z.2.1)) (vY f.S.Γ f.Holds f.bc i d)):=by
 refine ε.eq ?_;unfold dY yi vY;refine ε.ai (x:=zY f.S.Γ i d) (ae3 h.r h.s.f (by omega) _ _) (ε.mS fun _=>?_);exact BT (o:=o) h hk ⟨h.r.WC _ _,h.s.f.WH _ _⟩ h.q (by have:=h.ql; omega) _ _ fun z _=>rfl
def OG (h:FI k f) (hk:k≤60):dY yj f o=some (cu E5 (v_ f.S.Γ f.Holds o)):=by
 refine ε.eq ?_;unfold dY yj v_;refine ε.ai (aeD (by have:=h.hl; omega) _ _) (ε.mS fun _=>ε.check (by decide) (fun hb=>?_) fun hb=>?_)
 ·rw [hb,if_pos rfl];exact ε.ai (Wf h.st.s (h.st.n (by omega)) _) (ε.ret rfl)
 ·rw [hb,if_neg (by simp)]; exact ε.ret rfl
def MW (h:FI k f) {n:ξ} (hn:v_ f.S.Γ f.Holds o=.inr n):n.aC.length≤4096∧0≤o.N:=by
 obtain ⟨-,h2⟩:=lY hn;split at h2
 ·rename_i h0;cases h2;refine ⟨?_,by simpa using h0⟩
  rcases vT f.S.Γ.η (zj f.Holds o.aV o.cd).1 with ⟨m,h1,h2⟩ | ⟨h1,h2⟩
  ·rw [h2]; exact h.r.data (dM h1).1
  ·rw [h2]; exact lO _
 ·cases h2
def afL (h:FI k f) (hk:k≤60) (ho:OB o):dY DY f o=some (cu (fun z=>(s8 (dP f.S z.1) (z.2.2.1,z.2.2.2,z.2.1))) (KJ f.S.Γ f.Holds f.bc o)):=by
 refine ε.eq ?_;unfold dY DY KJ;have hod:=ho.d;refine ε.bS (OG h hk) fun n hn=>?_;obtain ⟨hd,hN⟩:=MW h hn;refine ε.check (by decide) (fun hb=>?_) fun hb=>?_;rotate_left
 ·rw [hb,if_neg (by simp)]; exact ε.ret rfl
 rw [hb,if_pos rfl];rw [decide_eq_true_eq] at hb;refine ε.Ω (by unfold Θ; omega) (ε.check (by decide) (fun jJ=>?_) fun jJ=>?_);rotate_left
 ·rw [jJ,if_neg (by simp)]; exact ε.ret rfl
 rw [jJ,if_pos rfl];rw [decide_eq_true_eq] at jJ;refine ε.ai (se (l:=n.aC) (K:=1) (by omega)) (ε.ai (a:=xe n.aC o) ?_ ?_)
 ·unfold xe;refine ε.eq (ε.eE (fun e=>?_) fun e=>ε.ret rfl);refine ε.Ω (by unfold Θ; omega) (ε.Ω ⟨by omega,by omega⟩ (ε.Ω ⟨hN,?_⟩ (ε.ret rfl)));rw [decide_eq_true_eq] at e;simp only [dq,List.length_replicate]; omega
 have hh:=Wa (o:=o) h hk n.ι (xe n.aC o);show ε ((dY (yi n.ι) f o (xe n.aC o)).bind _) _;rw [hh];unfold vY;cases hm:(Go.Proofs.mS (nX f.S.Γ n.ι (xe n.aC o)).2 (kp (nX f.S.Γ n.ι (xe n.aC o)).1 f.Holds f.bc (n.ι,((xe n.aC o).length:Int)))) with
 | inl e=>exact ε.ret rfl
 | inr z =>
  obtain ⟨-,h2⟩:=lY hm;obtain ⟨w,-,h3⟩:=my h2;cases h3;exact ε.ret rfl
def afd (h:FI k f) (hk:k≤60) (ho:OB o):dY DJ f o=some (cu (fun z=>(s8 (dP f.S z.1) (z.2.2.1,z.2.2.2,z.2.1))) (Hr f.S.Γ f.Holds f.bc o)):=by
 refine ε.eq ?_;unfold dY DJ Hr;refine ε.bS (OG h hk) fun n hn=>?_;obtain ⟨hd,hN⟩:=MW h hn;have hh:=Wa (o:=o) h hk n.ι (n.aC.take (min o.N (n.aC.length:Int)).toNat);refine ε.Ω (by dsimp only [E5]; omega) ?_;show ε ((dY (yi n.ι) f o (n.aC.take (min o.N (n.aC.length:Int)).toNat)).bind _) _;rw [hh];unfold vY;cases hm:(Go.Proofs.mS (nX f.S.Γ n.ι (n.aC.take (min o.N (n.aC.length:Int)).toNat)).2 (kp (nX f.S.Γ n.ι (n.aC.take (min o.N (n.aC.length:Int)).toNat)).1 f.Holds f.bc (n.ι,((n.aC.take (min o.N (n.aC.length:Int)).toNat).length:Int)))) with
 | inl e=>exact ε.ret rfl
 | inr z =>
  obtain ⟨-,h2⟩:=lY hm;obtain ⟨w,-,h3⟩:=my h2;cases h3;exact ε.ret rfl
def afC (h:FI k f) (hk:k≤60) (ho:OB o):dY DR f o=some (cu id (JE f.S.Γ f.Holds o)):=by
 refine ε.eq ?_;unfold dY DR JE;refine ε.bS (OG h hk) fun n hn=>?_;obtain ⟨hd,hN⟩:=MW h hn;refine ε.bind (R:=(·=(decide (o.M≥0)&&decide (o.M≤4096)))) (by cases decide (o.M≥0) <;> exact ε.ret rfl) fun v hv=>?_;subst hv;refine ε.check (by decide) (fun hb=>?_) fun hb=>?_
 ·rw [hb,if_pos rfl];rw [bJ,decide_eq_true_eq,decide_eq_true_eq] at hb;unfold HT E5;dsimp only;refine ε.Ω (by omega) (ε.Ω (by omega) ?_);exact ε.ai (se (l:=JD n.aC o) (K:=1) (by unfold JD; simp only [dQ,l_]; omega)) (ε.ret rfl)
 ·rw [hb,if_neg (by simp)]; exact ε.ret rfl
def aft (h:FI k f) (hk:k≤60) (ho:OB o):dY DO f o=some (cu (fun n=>(n.ι,n.τ)) (jT f.S.Γ o.cA)):=by
 refine ε.eq ?_;unfold dY DO;rw [zy h.st (by omega) _ (by have:=ho.p; omega)];cases jT f.S.Γ o.cA <;> exact ε.ret rfl
def afH (h:FI k f) (hk:k≤60) (ho:OB o):dY DV f o=some (cu (fun n=>(n.ι,n.τ,n.bb,FN n)) (jT f.S.Γ o.cA)):=by
 refine ε.eq ?_;unfold dY DV;rw [zy h.st (by omega) _ (by have:=ho.p; omega)];cases jT f.S.Γ o.cA <;> exact ε.ret rfl
def aas {B:Nat} {t:ψ} (h:RT t) (hf:TF B t) (hB:B≤4000) (i:Int):(dz t.η i).1.Ψ.length≤64∧(∀e,e∈(dz t.η i).1.Ψ→NB (dz t.η i).1∧1≤e.aj∧e.aj≤4000)∧Θ (dz t.η i).2:=by
 unfold dz;split
 ·split
  ·exact ⟨by simp [jV],fun e he=>(by cases he),by unfold Θ; dsimp only; omega⟩
  ·rename_i hg hk
   rcases vT t.η i with ⟨n,g1,g2⟩ | ⟨g1,g2⟩
   ·rw [g2];have hm:=(dM g1).1;refine ⟨(h.en n hm).n,fun e he=>⟨h.nb hf hB hm,?_⟩,by unfold Θ; dsimp only; omega⟩;have:=((h.en n hm).r e he).2;have:=hf.c; omega
   ·rw [g1] at hg; cases hg
 ·exact ⟨by simp [jV],fun e he=>(by cases he),by unfold Θ; dsimp only; omega⟩
def Vr {B:Nat} {t:ψ} (h:RT t) (hf:TF B t) (hB:B≤4000) (i a b:Int):(rB t i a b).1.length≤64∧(∀e,e∈(rB t i a b).1→e.aM.length≤32)∧Θ (rB t i a b).2.1∧Θ (rB t i a b).2.2:=by
 have hL:=(Jo h hf (by omega) i a b).2;obtain ⟨d1,d2,d3⟩:=aas h hf hB i;unfold Aw at hL;split at hL
 ·rw [hL]; exact ⟨by simp,fun e he=>(by cases he),by unfold Θ; dsimp only; omega,by unfold Θ; dsimp only; omega⟩
 split at hL
 ·rw [hL]; exact ⟨by simp,fun e he=>(by cases he),by unfold Θ; dsimp only; omega,d3⟩
 ·obtain ⟨L,l1,l2,l3⟩:=hL
  have Tj:L.length≤64:=by rw [l1.length_eq]; exact fc (ma _ _) d1
  have Ea:∀e,e∈L→e∈(dz t.η i).1.Ψ:=fun e he=>(eB.1 (l1.mem_iff.1 he)).1;split at l3
  ·rw [l3]; exact ⟨Tj,fun e he=>((d2 e (Ea e he)).1.e e (Ea e he)).2.2,by unfold Θ; dsimp only; omega,by unfold Θ; dsimp only; omega⟩
  ·obtain ⟨x,hx,hr⟩:=l3;rw [hr];have hxm:=(d2 x (Ea x (List.mem_of_getElem? hx))).2;exact ⟨by simp; omega,fun e he=>((d2 e (Ea e (GK he))).1.e e (Ea e (GK he))).2.2,by unfold Θ; dsimp only; omega,by unfold Θ; dsimp only; omega⟩
def afs (h:FI k f) (hk:k≤60) (ho:OB o):dY DN f o=some (cu id (EV f.S.Γ o)):=by
 refine ε.eq ?_;unfold dY DN EV;refine ε.bS (zy h.st (by omega) _ (by have:=ho.p; omega)) fun n _=>ε.ai (x:=w8 f.S.Γ n.ι o.N o.M) (Jo h.r h.s.f (by omega) _ _ _).1 (ε.mS fun _=>?_);exact ε.ai (We (by have:=(Vr h.r h.s.f (by omega) n.ι o.N o.M).1; omega)) (ε.ret rfl)
def afy (h:FI k f) (hk:k≤60) (ho:OB o):dY DQ f o=some (cu id (Jh f.S.Γ f.Holds o)):=by
 refine ε.eq ?_;unfold dY DQ Jh;refine ε.bS (zy h.st (by omega) _ (by have:=ho.p; omega)) fun n _=>ε.ai (x:=Bl f.S.Γ f.Holds o.aV o.cd n.ι) (ae1 h.st.s (h.st.n (by omega)) h.h (by have:=h.hl; omega) _ _ _) (ε.mS fun _=>ε.ret rfl)
def ae' (h:FI k f) (hk:k≤60) (ho:OB o):dY DH f o=some (cu (fun z=>(s8 (dP f.S z.1) z.2)) (Hl f.S.Γ f.Holds o)):=by
 refine ε.eq ?_;unfold dY DH Hl;have hg:=LK (t:=f.S.Γ) (l:=f.Holds) (n:=64) (B:=2+5*k+5) ⟨h.r,h.s.f.up (by omega),h.hl,h.h⟩ o.aV o.cd;refine ε.ai (x:=yS f.S.Γ f.Holds o.aV o.cd) (VT h.st.s h.s.f (by omega) (by have:=h.hl; omega) _ _) (ε.mS fun _=>?_);exact ε.ai (x:=tr f.S (oZ f.S.Γ f.Holds o.aV o.cd).1) (OD (h.s.Jv (by omega) hg.r.s hg.f)) (ε.ret rfl)
def afb (h:FI k f) (hk:k≤60) (ho:OB o):dY DI f o=some ((fun z:ψ×List az=>(s8 (dP f.S z.1) z.2)) (vV f.S.Γ f.Holds o.aV)):=by
 refine ε.eq ?_;unfold dY DI;have hg:=Mm (n:=64) (B:=2+5*k+5) o.aV f.Holds (a:=(f.S.Γ,f.Holds)) ⟨h.r,h.s.f.up (by omega),h.hl,h.h⟩;refine ε.ai (x:=Bk f.S.Γ f.Holds o.aV) (aeB h.r h.s.f (by omega) (by have:=h.hl; omega) h.h _) ?_;exact ε.ai (x:=tr f.S (vV f.S.Γ f.Holds o.aV).1) (OD (h.s.Jv (by omega) hg.r.s hg.f)) (ε.ret rfl)
end
end
section
def SI.af1 {k:Nat} {s:bq} (h:SI k s) (hk:k≤200) {t:ψ} (UQ:TS t) (hf:TF (2+5*k+5) t):SI (k+1) (dP s t):=by
 unfold dP;split
 ·exact h.up (by omega)
 have hpf:=h.Jv hk UQ.s hf;have gB:=h.tk;refine ⟨hf.up (by omega),UQ,by simp,by dsimp only; omega,by have:=h.nx; dsimp only; omega,fun q hq=>?_,by have:=h.ta; dsimp only; omega,?_,fun p hp=>?_,h.id,fun x hx=>?_,fun p hp=>?_⟩
 ·obtain ⟨n,hn,rfl⟩:=dg.1 hq;dsimp only;unfold qq;split
  ·next j hj =>
   have:=(List.findIdx?_eq_some_iff_getElem.1 hj).1
   have Φ:j<s.aQ.length:=by rw [h.si]; omega
   rw [bT Φ];have:=h.sn _ (eG Φ);simp only [Ap]; omega
  ·omega
 ·show (s.aS++BW s _).length≤_;unfold BW;rw [dq,ay];have h1:=ma (te s t) (s.Γ.η.zip s.aQ);rw [hpf.zl] at h1;have:=h.ps; have:=h.f.n; omega
 ·rcases gg.1 hp with hp | hp
  ·have:=h.pe p hp; omega
  ·obtain ⟨q,hq,rfl⟩:=dg.1 hp;have:=h.f.e _ (KW (eB.1 hq).1).1;dsimp only; omega
 ·have:=h.ti x hx; dsimp only; omega
 ·rcases gg.1 hp with hp | hp
  ·have:=h.pt p hp; exact ⟨by dsimp only; omega,this.2⟩
  ·obtain ⟨q,hq,rfl⟩:=dg.1 hp;obtain ⟨h1,h2⟩:=eB.1 hq;have:=h.sn _ (KW h1).2;unfold te at h2;exact ⟨by dsimp only; omega,by simpa using (Bool.and_eq_true_iff.1 h2).2⟩
def RT.ts {t:ψ} (h:RT t):TS t:=⟨h.s,fun n hn=>by have:=h.lo n hn; omega,h.rt,fun n hn e he=>W.Ot h hn he⟩
def SK.put {B:Nat} {s:bq} (h:SK s) {t:ψ} (hr:RT t) (hf:TF B t) (hB:B≤4000):SK (dP s t):=by
 unfold dP;split
 ·exact h
 refine ⟨fun n hn=>hr.nb hf hB hn,fun p hp=>?_,h.t⟩
 rcases gg.1 hp with hp | hp
 ·exact h.p p hp
 ·obtain ⟨q,hq,rfl⟩:=dg.1 hp;exact h.n q.1 (KW (eB.1 hq).1).1
def SK.take {s:bq} (h:SK s) (i:Int):SK (kq s i).1:=by
 unfold kq;split
 ·exact h
 rename_i hg;split
 ·exact h
 split
 ·exact h
 refine ⟨h.n,h.p,fun x hx=>?_⟩
 rcases gg.1 hx with hx | hx
 ·exact h.t x hx
 ·obtain rfl:=dD.1 hx
  rcases vT s.Γ.η i with ⟨n,g1,g2⟩ | ⟨g1,g2⟩
  ·have:=(h.n n (dM g1).1).i;rw [(dM g1).2] at this; exact this
  ·rw [g1] at hg; exact absurd rfl hg
def SK.drop {s:bq} (h:SK s) (i:Int):SK (o9 s i).1:=by
 unfold o9;split
 ·exact h
 exact ⟨h.n,fun p hp=>h.p p (eB.1 hp).1,fun x hx=>h.t x (eB.1 hx).1⟩
def uU (f:c9) (o:bN):Int⊕(bq×Int):=bS (jT f.S.Γ o.cA) fun n=>mS (kq f.S n.ι).2.2 (.inr ((kq f.S n.ι).1,(kq f.S n.ι).2.1))
def vO (f:c9) (o:bN):Int⊕(bq×Unit):=mS (o9 f.S o.N).2 (.inr ((o9 f.S o.N).1,()))
noncomputable def wN (f:c9) (o:bN):Int⊕(Int×Int×Int×Int×List (List UInt8)×List UInt8):=(dY yk f o).getD (.inl 0)
def NZ (n:ξ):Prop:=NB n∨n=jV
def NZ.b {n:ξ} (h:NZ n):Θ n.ι∧Θ n.τ∧Θ n.bb∧n.aC.length≤4096∧n.Ψ.length≤64∧∀e,e∈n.Ψ→e.aM.length≤32:=by
 rcases h with h | h
 ·have h1:=h.i; have h2:=h.k; have h3:=h.n;exact ⟨by unfold Θ; omega,by unfold Θ; omega,by unfold Θ; omega,h.d,h.l,fun e he=>(h.e e he).2.2⟩
 ·rw [h]; exact ⟨by unfold Θ jV; dsimp only; omega,by unfold Θ jV; dsimp only; omega,by unfold Θ jV; dsimp only; omega,by simp [jV],by simp [jV],fun e he=>(by cases he)⟩
section
variable {k:Nat} {f:c9} {o:bN}
def afI (h:FI k f) (hk:k≤60) (ho:OB o):dY DW f o=some (cu (fun z=>(s8 z.1 z.2)) (uU f o)):=by
 refine ε.eq ?_;unfold dY DW uU;have:=h.s.nx; have:=h.s.ta; have:=h.s.f.n;refine ε.bS (zy h.st (by omega) _ (by have:=ho.p; omega)) fun n _=>ε.ai (x:=Cb f.S n.ι) (ae7 f.S n.ι h.st.s (by omega) (by omega) (by omega)) (ε.mS fun _=>ε.ret rfl)
def afg (h:FI k f) (hk:k≤60):dY DK f o=some (cu (fun z=>(z.1.Γ.η,z.1.Γ.Next,z.1.Γ.aj,z.1.aT,z.1.aQ,z.1.aS,z.1.aW,z.1.Next)) (vO f o)):=by
 refine ε.eq ?_;unfold dY DK vO;have:=h.s.ps; have:=h.s.ta;exact ε.ai (x:=Ca f.S o.N) (aeA f.S o.N (by omega) (by omega)) (ε.mS fun _=>ε.ret rfl)
def afB (h:FI k f) (hk:k≤60) (ho:OB o):ε (dY yk f o) (fun r=>match r with | .inl e=>Θ e | .inr z=>Θ z.1∧Θ z.2.1∧Θ z.2.2.1∧Θ z.2.2.2.1∧z.2.2.2.2.1.length≤64∧(∀s,s∈z.2.2.2.2.1→s.length≤32)∧z.2.2.2.2.2.length≤4096):=by
 unfold dY yk;obtain ⟨a1,a2,a3,a4,a5⟩:=aey h.s (by omega) h.k o.N;refine ε.ai (x:=wS f.S o.N) a1 ?_;generalize xP f.S o.N=x at *;refine ε.On (fun _=>?_) fun _=>ε.ret a5;refine ε.ai (OE o.cA (by have:=ho.p; omega)) ?_;obtain ⟨s1,s2,s3⟩:=F_ (p:=o.cA);generalize jX o.cA=y at *;refine ε.On (fun _=>?_) fun _=>ε.ret (by unfold Θ; omega);refine ε.bind (R:=fun M:List (Int×ξ)=>∀j n,bn j M=some n→NB n) ?_ fun M hM=>?_
 ·unfold S1;refine ε.loop (fun s:Int×List (Int×ξ)=>∃j:Nat,s.1=(j:Int)∧j≤x.2.1.length∧s.2.length≤j∧∀j n,bn j s.2=some n→NB n) (fun s=>x.2.1.length-s.1.toNat) ?_ _ ⟨0,rfl,by omega,by simp,fun j n h=>(by cases h)⟩;rintro ⟨s0,M⟩ ⟨j,e1,hj,hl,hM⟩;dsimp only at e1 hl hM;subst e1;unfold HQ;dsimp only;by_cases Φ:j<x.2.1.length
  ·have hx:=bT Φ;have pk:=a2 _ (eG Φ);have hi:=pk.i;refine ε.cond (by simpa using Φ) (ε.ai (cF hx) (ε.Ω ⟨by unfold Θ; omega,by omega⟩ (ε.Ω (by unfold Θ; omega) (ε.inl ⟨⟨j+1,by dsimp only; omega,Φ,?_,fun i n hi=>?_⟩,by dsimp only; omega⟩))))
   ·have:=E0 x.2.1[j].ι x.2.1[j] M; dsimp only; omega
   ·dsimp only at hi;rw [rC] at hi;split at hi
    ·cases hi; exact pk
    ·exact hM i n hi
  ·exact ε.cV (by simpa using Φ) (ε.out (ε.ret hM))
 ·have Ul:∀i,NZ ((bn i M).getD jV):=fun i=>by
   cases hg:bn i M with
   | none=>exact .inr rfl
   | some n=>exact .inl (hM i n hg)
  refine ε.ai rfl ?_;unfold S2;refine ε.loop (fun s:Int×Int×Int×Int×List UInt8×List aN×Int=>∃j:Nat,s.1=(j:Int)∧j≤y.1.length∧NZ ⟨s.2.1,s.2.2.1,s.2.2.2.1,s.2.2.2.2.1,s.2.2.2.2.2.1,s.2.2.2.2.2.2⟩) (fun s=>y.1.length-s.1.toNat) ?_ _ ⟨0,rfl,by omega,Ul x.1⟩;rintro ⟨s0,n0,n1,n2,n3,n4,n5⟩ ⟨j,e1,hj,hN⟩;dsimp only at e1 hN;subst e1;obtain ⟨b1,b2,b3,b4,b5,b6⟩:=hN.b;dsimp only at b1 b2 b3 b4 b5 b6;unfold HR;dsimp only;by_cases Φ:j<y.1.length
  ·have hx:=bT Φ;refine ε.cond (by simpa using Φ) (ε.ai (cF hx) (ε.check (by decide) (fun _=>?_) fun _=>ε.out (ε.ret (by show Θ 73; unfold Θ; omega))));have rb:=ER (C:=fun e=>HP e y.1[j]) (p:=fun e=>e.aM==y.1[j]) (l:=n4) (fun e _=>rfl) (by omega);refine ε.ai (x:=Ka n4 y.1[j]) rb ?_;rw [E6];refine ε.check (by decide) (fun hb=>?_) fun _=>ε.out (ε.ret (by show Θ 70; unfold Θ; omega));cases hf:n4.findIdx? fun e=>e.aM==y.1[j] with
   | none =>
    rw [List.findIdx?_eq_none_iff] at hf;rw [CZ] at hb;obtain ⟨e,he,hp⟩:=hb;rw [hf e he] at hp; cases hp
   | some q =>
    obtain ⟨e,he,-⟩:=sy hf;refine ε.ai (x:=idx n4 ((q:Nat):Int)) (cF he) (ε.ai rfl (ε.Ω (by unfold Θ; omega) (ε.inl ⟨⟨j+1,by dsimp only; omega,Φ,Ul e.ι⟩,by dsimp only; omega⟩)))
  ·refine ε.cV (by simpa using Φ) (ε.out ?_);unfold HS DG;refine ε.ai rfl (ε.ai (We (by dsimp only; omega)) (ε.ret ⟨b1,b2,b3,by unfold Θ; dsimp only; omega,by simp only [ay]; exact b5,fun s hs=>?_,b4⟩));obtain ⟨e,he,rfl⟩:=dg.1 hs;exact b6 e he
def Wl (h:FI k f) (hk:k≤60) (ho:OB o):dY yk f o=some (wN f o)∧(match wN f o with | .inl e=>Θ e | .inr z=>Θ z.1∧Θ z.2.1∧Θ z.2.2.1∧Θ z.2.2.2.1∧z.2.2.2.2.1.length≤64∧(∀s,s∈z.2.2.2.2.1→s.length≤32)∧z.2.2.2.2.2.length≤4096):=by
 obtain ⟨r,h1,h2⟩:=afB h hk ho;unfold wN;rw [h1]; exact ⟨rfl,h2⟩
end
def afK:DZ=some ():=by unfold DZ; kernel_rfl
def Qx:List (Int×Int):=[(1,62),(2,63),(3,64),(4,65),(5,66),(6,67),(7,68),(8,69),(9,70),(10,71),(11,72),(12,73),(13,74),(14,75),(15,76),(16,77),(17,78)]
def aj3:(ak (17) 78 ((ak (16) 77 ((ak (15) 76 ((ak (14) 75 ((ak (13) 74 ((ak (12) 73 ((ak (11) 72 ((ak (10) 71 ((ak (9) 70 ((ak (8) 69 ((ak (7) 68 ((ak (6) 67 ((ak (5) 66 ((ak (4) 65 ((ak (3) 64 ((ak (2) 63 ((ak (1) 62 (([]:List (Int×Int))))))))))))))))))))))))))))))))))))=Qx:=by rfl
def aj4 (k:Int):bn k Qx=if 1≤k∧k≤17 then some (k+61) else none:=by
 by_cases h:1≤k∧k≤17
 ·rw [if_pos h]
  rcases (by omega:k=1∨k=2∨k=3∨k=4∨k=5∨k=6∨k=7∨k=8∨k=9∨k=10∨k=11∨k=12∨k=13∨k=14∨k=15∨k=16∨k=17) with rfl | rfl | rfl | rfl | rfl | rfl | rfl | rfl | rfl | rfl | rfl | rfl | rfl | rfl | rfl | rfl | rfl <;> rfl
 ·rw [if_neg h];unfold Qx;simp only [bn];rw [if_neg (by omega:¬(1:Int)=k),if_neg (by omega:¬(2:Int)=k),if_neg (by omega:¬(3:Int)=k),if_neg (by omega:¬(4:Int)=k),if_neg (by omega:¬(5:Int)=k),if_neg (by omega:¬(6:Int)=k),if_neg (by omega:¬(7:Int)=k),if_neg (by omega:¬(8:Int)=k),if_neg (by omega:¬(9:Int)=k),if_neg (by omega:¬(10:Int)=k),if_neg (by omega:¬(11:Int)=k),if_neg (by omega:¬(12:Int)=k),if_neg (by omega:¬(13:Int)=k),if_neg (by omega:¬(14:Int)=k),if_neg (by omega:¬(15:Int)=k),if_neg (by omega:¬(16:Int)=k),if_neg (by omega:¬(17:Int)=k)]
end
section
def p5 (e:Int):dL:=⟨e,0,0,0,0,[],[]⟩
abbrev rZ:=Option ψ×List az×List aA×dL
noncomputable def dy (t:ψ) (H:List az) (Q:List aA) (o:bN):Int⊕rZ :=
 if o.τ=1 then cu (fun n=>(none,H,Q,⟨0,n.ι,n.τ,0,0,[],[]⟩)) (jT t o.cA)
 else if o.τ=2 then cu (fun z=>(some z.1,H,z.2.1,⟨0,z.2.2,o.N,0,0,[],[]⟩)) (BH t H Q o)
 else if o.τ=3 then cu (fun z=>(some z.1,H,z.2.1,⟨0,z.2.2,0,0,0,[],[]⟩)) (IZ t H Q o)
 else if o.τ=4 then cu (fun z=>(some z.1,H,z.2.1,⟨0,z.2.2,0,0,0,[],[]⟩)) (Ky t H Q o)
 else if o.τ=5 then cu (fun z=>(some z.1,H,z.2.1,⟨0,z.2.2,0,0,0,[],[]⟩)) (E1 t H Q o)
 else if o.τ=6 then cu (fun z=>(none,H,Q,⟨0,0,0,z.1,0,z.2,[]⟩)) (EV t o)
 else if o.τ=7 then cu (fun n=>(none,H,Q,⟨0,n.ι,n.τ,n.bb,FN n,[],[]⟩)) (jT t o.cA)
 else if o.τ=8 then cu (fun z=>(none,z.1,Q,⟨0,z.2,0,0,0,[],[]⟩)) (Jh t H o)
 else if o.τ=9 then cu (fun z=>(some z.1,z.2,Q,⟨0,0,0,0,0,[],[]⟩)) (Hl t H o)
 else if o.τ=10 then cu (fun z=>(none,H,Q,⟨0,z.1,0,0,0,[],z.2⟩)) (JE t H o)
 else if o.τ=11 then cu (fun z=>(some z.1,H,z.2.1,⟨0,z.2.2.1,0,0,z.2.2.2,[],[]⟩)) (KJ t H Q o)
 else if o.τ=12 then cu (fun z=>(some z.1,H,z.2.1,⟨0,z.2.2.1,0,0,z.2.2.2,[],[]⟩)) (Hr t H Q o)
 else if o.τ=13 then cu (fun z=>(some z.1,H,z.2.1,⟨0,z.2.2,0,0,0,[],[]⟩)) (IY t H Q o)
 else if o.τ=17 then .inr (some (vV t H o.aV).1,(vV t H o.aV).2,Q,⟨0,0,0,0,0,[],[]⟩)
 else .inl 1
noncomputable def WG (s:bq):Option ψ→bq
 | none=>s
 | some t=>dP s t
noncomputable def iq (f:c9) (v:Int⊕rZ):c9×dL:=match v with | .inl e=>(f,p5 e) | .inr z=>(⟨WG f.S z.1,z.2.1,z.2.2.1⟩,z.2.2.2)
def uh {α:Type} (f:c9) (v:Int⊕(bq×α)) (g:α→dL):c9×dL:=match v with | .inl e=>(f,p5 e) | .inr z=>(⟨z.1,f.Holds,f.bc⟩,g z.2)
noncomputable def gy (f:c9) (o:bN):c9×dL :=
 if ¬(0≤o.aV∧o.aV<16) then (f,p5 1)
 else if o.τ=14 then uh f (uU f o) fun i=>⟨0,0,0,i,0,[],[]⟩
 else if o.τ=15 then (match wN f o with | .inl e=>(f,p5 e) | .inr z=>(f,⟨0,z.1,z.2.1,z.2.2.1,z.2.2.2.1,z.2.2.2.2.1,z.2.2.2.2.2⟩))
 else if o.τ=16 then uh f (vO f o) fun _=>⟨0,0,0,0,0,[],[]⟩
 else iq f (dy f.S.Γ f.Holds f.bc o)
def fS {β:Type} (f:c9) (v:Int⊕β) (w:β→c9×dL):c9×dL:=match v with | .inl e=>(f,p5 e) | .inr b=>w b
def nw {α β:Type} {f:c9} {x:Option (Int⊕α)} {v:Int⊕β} {g:β→α} {K:α→Option (c9×dL)} {w:β→c9×dL} (hx:x=some (cu g v)) (hK:∀b,v=.inr b→K (g b)=some (w b)) :
  (x.bind fun r=>bP r (fun e=>some (f,(⟨e,0,0,0,0,[],[]⟩:dL))) K)=some (fS f v w):=by
 subst hx;cases v with
 | inl e=>rfl
 | inr b=>exact hK b rfl
def pa {β:Type} (f:c9) (g:β→rZ) (v:Int⊕β):iq f (cu g v)=fS f v fun b=>iq f (.inr (g b)):=by cases v <;> rfl
def KA (t:ψ) (H:List az) (Q:List aA) {o:bN} (e:o.τ=1):dy t H Q o=cu (fun n=>(none,H,Q,⟨0,n.ι,n.τ,0,0,[],[]⟩)) (jT t o.cA):=by
 unfold dy;rw [if_pos e]
def Gm (t:ψ) (H:List az) (Q:List aA) {o:bN} (e:o.τ=2):dy t H Q o=cu (fun z=>(some z.1,H,z.2.1,⟨0,z.2.2,o.N,0,0,[],[]⟩)) (BH t H Q o):=by
 unfold dy;rw [if_neg (by omega),if_pos e]
def Qg (t:ψ) (H:List az) (Q:List aA) {o:bN} (e:o.τ=3):dy t H Q o=cu (fun z=>(some z.1,H,z.2.1,⟨0,z.2.2,0,0,0,[],[]⟩)) (IZ t H Q o):=by
 unfold dy;rw [if_neg (by omega),if_neg (by omega),if_pos e]
def Qh (t:ψ) (H:List az) (Q:List aA) {o:bN} (e:o.τ=4):dy t H Q o=cu (fun z=>(some z.1,H,z.2.1,⟨0,z.2.2,0,0,0,[],[]⟩)) (Ky t H Q o):=by
 unfold dy;iterate 3 rw [if_neg (by omega)]
 rw [if_pos e]
def KB (t:ψ) (H:List az) (Q:List aA) {o:bN} (e:o.τ=5):dy t H Q o=cu (fun z=>(some z.1,H,z.2.1,⟨0,z.2.2,0,0,0,[],[]⟩)) (E1 t H Q o):=by
 unfold dy;iterate 4 rw [if_neg (by omega)]
 rw [if_pos e]
def KC (t:ψ) (H:List az) (Q:List aA) {o:bN} (e:o.τ=6):dy t H Q o=cu (fun z=>(none,H,Q,⟨0,0,0,z.1,0,z.2,[]⟩)) (EV t o):=by
 unfold dy;iterate 5 rw [if_neg (by omega)]
 rw [if_pos e]
def Qi (t:ψ) (H:List az) (Q:List aA) {o:bN} (e:o.τ=7):dy t H Q o=cu (fun n=>(none,H,Q,⟨0,n.ι,n.τ,n.bb,FN n,[],[]⟩)) (jT t o.cA):=by
 unfold dy;iterate 6 rw [if_neg (by omega)]
 rw [if_pos e]
def Qj (t:ψ) (H:List az) (Q:List aA) {o:bN} (e:o.τ=8):dy t H Q o=cu (fun z=>(none,z.1,Q,⟨0,z.2,0,0,0,[],[]⟩)) (Jh t H o):=by
 unfold dy;iterate 7 rw [if_neg (by omega)]
 rw [if_pos e]
def Qk (t:ψ) (H:List az) (Q:List aA) {o:bN} (e:o.τ=9):dy t H Q o=cu (fun z=>(some z.1,z.2,Q,⟨0,0,0,0,0,[],[]⟩)) (Hl t H o):=by
 unfold dy;iterate 8 rw [if_neg (by omega)]
 rw [if_pos e]
def Qb (t:ψ) (H:List az) (Q:List aA) {o:bN} (e:o.τ=10):dy t H Q o=cu (fun z=>(none,H,Q,⟨0,z.1,0,0,0,[],z.2⟩)) (JE t H o):=by
 unfold dy;iterate 9 rw [if_neg (by omega)]
 rw [if_pos e]
def Qc (t:ψ) (H:List az) (Q:List aA) {o:bN} (e:o.τ=11):dy t H Q o=cu (fun z=>(some z.1,H,z.2.1,⟨0,z.2.2.1,0,0,z.2.2.2,[],[]⟩)) (KJ t H Q o):=by
 unfold dy;iterate 10 rw [if_neg (by omega)]
 rw [if_pos e]
def Qd (t:ψ) (H:List az) (Q:List aA) {o:bN} (e:o.τ=12):dy t H Q o=cu (fun z=>(some z.1,H,z.2.1,⟨0,z.2.2.1,0,0,z.2.2.2,[],[]⟩)) (Hr t H Q o):=by
 unfold dy;iterate 11 rw [if_neg (by omega)]
 rw [if_pos e]
def Qe (t:ψ) (H:List az) (Q:List aA) {o:bN} (e:o.τ=13):dy t H Q o=cu (fun z=>(some z.1,H,z.2.1,⟨0,z.2.2,0,0,0,[],[]⟩)) (IY t H Q o):=by
 unfold dy;iterate 12 rw [if_neg (by omega)]
 rw [if_pos e]
def Qf (t:ψ) (H:List az) (Q:List aA) {o:bN} (e:o.τ=17):dy t H Q o=.inr (some (vV t H o.aV).1,(vV t H o.aV).2,Q,⟨0,0,0,0,0,[],[]⟩):=by
 unfold dy;iterate 13 rw [if_neg (by omega)]
 rw [if_pos e]
def aih (t:ψ) (H:List az) (Q:List aA) {o:bN} (e:¬(1≤o.τ∧o.τ≤17)):dy t H Q o=.inl 1:=by
 unfold dy;iterate 14 rw [if_neg (by omega)]
section
variable {k:Nat} {f:c9} {o:bN}
def aeE (h:FI k f) (hk:k≤60) (ho:OB o) (e:o.τ=1):eY 62 f o ()=some (iq f (dy f.S.Γ f.Holds f.bc o)):=by
 unfold eY;refine (if_pos (by decide)).trans ?_;rw [KA _ _ _ e,pa];refine nw (aft h hk ho) ?_;intro b _; rfl
def aeN (h:FI k f) (hk:k≤60) (ho:OB o) (e:o.τ=2):eY 63 f o ()=some (iq f (dy f.S.Γ f.Holds f.bc o)):=by
 unfold eY;refine (if_neg (by decide)).trans ?_;refine (if_pos (by decide)).trans ?_;rw [Gm _ _ _ e,pa];refine nw (afu h hk ho) ?_;intro b _; rfl
def aeO (h:FI k f) (hk:k≤60) (ho:OB o) (e:o.τ=3):eY 64 f o ()=some (iq f (dy f.S.Γ f.Holds f.bc o)):=by
 unfold eY;iterate 2 refine (if_neg (by decide)).trans ?_
 refine (if_pos (by decide)).trans ?_;rw [Qg _ _ _ e,pa];refine nw (afr h hk ho) ?_;intro b _; rfl
def aeP (h:FI k f) (hk:k≤60) (ho:OB o) (e:o.τ=4):eY 65 f o ()=some (iq f (dy f.S.Γ f.Holds f.bc o)):=by
 unfold eY;iterate 3 refine (if_neg (by decide)).trans ?_
 refine (if_pos (by decide)).trans ?_;rw [Qh _ _ _ e,pa];refine nw (afJ h hk ho) ?_;intro b _; rfl
def aeQ (h:FI k f) (hk:k≤60) (ho:OB o) (e:o.τ=5):eY 66 f o ()=some (iq f (dy f.S.Γ f.Holds f.bc o)):=by
 unfold eY;iterate 4 refine (if_neg (by decide)).trans ?_
 refine (if_pos (by decide)).trans ?_;rw [KB _ _ _ e,pa];refine nw (afE h hk ho) ?_;intro b _; rfl
def aeR (h:FI k f) (hk:k≤60) (ho:OB o) (e:o.τ=6):eY 67 f o ()=some (iq f (dy f.S.Γ f.Holds f.bc o)):=by
 unfold eY;iterate 5 refine (if_neg (by decide)).trans ?_
 refine (if_pos (by decide)).trans ?_;rw [KC _ _ _ e,pa];refine nw (afs h hk ho) ?_;intro b _; rfl
def aeS (h:FI k f) (hk:k≤60) (ho:OB o) (e:o.τ=7):eY 68 f o ()=some (iq f (dy f.S.Γ f.Holds f.bc o)):=by
 unfold eY;iterate 6 refine (if_neg (by decide)).trans ?_
 refine (if_pos (by decide)).trans ?_;rw [Qi _ _ _ e,pa];refine nw (afH h hk ho) ?_;intro b _; rfl
def aeT (h:FI k f) (hk:k≤60) (ho:OB o) (e:o.τ=8):eY 69 f o ()=some (iq f (dy f.S.Γ f.Holds f.bc o)):=by
 unfold eY;iterate 7 refine (if_neg (by decide)).trans ?_
 refine (if_pos (by decide)).trans ?_;rw [Qj _ _ _ e,pa];refine nw (afy h hk ho) ?_;intro b _; rfl
def aeU (h:FI k f) (hk:k≤60) (ho:OB o) (e:o.τ=9):eY 70 f o ()=some (iq f (dy f.S.Γ f.Holds f.bc o)):=by
 unfold eY;iterate 8 refine (if_neg (by decide)).trans ?_
 refine (if_pos (by decide)).trans ?_;rw [Qk _ _ _ e,pa];refine nw (ae' h hk ho) ?_;intro b _; rfl
def aeF (h:FI k f) (hk:k≤60) (ho:OB o) (e:o.τ=10):eY 71 f o ()=some (iq f (dy f.S.Γ f.Holds f.bc o)):=by
 unfold eY;iterate 9 refine (if_neg (by decide)).trans ?_
 refine (if_pos (by decide)).trans ?_;rw [Qb _ _ _ e,pa];refine nw (afC h hk ho) ?_;intro b _; rfl
def aeG (h:FI k f) (hk:k≤60) (ho:OB o) (e:o.τ=11):eY 72 f o ()=some (iq f (dy f.S.Γ f.Holds f.bc o)):=by
 unfold eY;iterate 10 refine (if_neg (by decide)).trans ?_
 refine (if_pos (by decide)).trans ?_;rw [Qc _ _ _ e,pa];refine nw (afL h hk ho) ?_;intro b _; rfl
def aeH (h:FI k f) (hk:k≤60) (ho:OB o) (e:o.τ=12):eY 73 f o ()=some (iq f (dy f.S.Γ f.Holds f.bc o)):=by
 unfold eY;iterate 11 refine (if_neg (by decide)).trans ?_
 refine (if_pos (by decide)).trans ?_;rw [Qd _ _ _ e,pa];refine nw (afd h hk ho) ?_;intro b _; rfl
def aeI (h:FI k f) (hk:k≤60) (ho:OB o) (e:o.τ=13):eY 74 f o ()=some (iq f (dy f.S.Γ f.Holds f.bc o)):=by
 unfold eY;iterate 12 refine (if_neg (by decide)).trans ?_
 refine (if_pos (by decide)).trans ?_;rw [Qe _ _ _ e,pa];refine nw (afq h hk ho) ?_;intro b _; rfl
def aeM (h:FI k f) (hk:k≤60) (ho:OB o) (e:o.τ=17):eY 78 f o ()=some (iq f (dy f.S.Γ f.Holds f.bc o)):=by
 unfold eY;iterate 16 refine (if_neg (by decide)).trans ?_
 refine (if_pos (by decide)).trans ?_;rw [Qf _ _ _ e];have e2:=afb h hk ho;unfold dY at e2;rw [e2]; rfl
def aeJ (h:FI k f) (hk:k≤60) (ho:OB o):eY 75 f o ()=some (uh f (uU f o) fun i=>⟨0,0,0,i,0,[],[]⟩):=by
 unfold eY;iterate 13 refine (if_neg (by decide)).trans ?_
 refine (if_pos (by decide)).trans ?_;refine (nw (w:=fun z=>(⟨z.1,f.Holds,f.bc⟩,⟨0,0,0,z.2,0,[],[]⟩)) (afI h hk ho) fun b _=>rfl).trans ?_;cases uU f o <;> rfl
def aeK (h:FI k f) (hk:k≤60) (ho:OB o):eY 76 f o ()=some (match wN f o with | .inl e=>(f,p5 e) | .inr z=>(f,⟨0,z.1,z.2.1,z.2.2.1,z.2.2.2.1,z.2.2.2.2.1,z.2.2.2.2.2⟩)):=by
 unfold eY;iterate 14 refine (if_neg (by decide)).trans ?_
 refine (if_pos (by decide)).trans ?_;have e2:=(Wl h hk ho).1;unfold dY at e2;rw [e2];cases wN f o <;> rfl
def aeL (h:FI k f) (hk:k≤60) (ho:OB o):eY 77 f o ()=some (uh f (vO f o) fun _=>⟨0,0,0,0,0,[],[]⟩):=by
 unfold eY;iterate 15 refine (if_neg (by decide)).trans ?_
 refine (if_pos (by decide)).trans ?_;refine (nw (w:=fun z=>(⟨z.1,f.Holds,f.bc⟩,⟨0,0,0,0,0,[],[]⟩)) (afg h hk) fun b _=>rfl).trans ?_;cases vO f o <;> rfl
def AJ (hc:¬(0≤o.aV∧o.aV<16)):gy f o=(f,p5 1):=if_pos hc
def LQ (hc:0≤o.aV∧o.aV<16) (e:o.τ=14):gy f o=uh f (uU f o) fun i=>⟨0,0,0,i,0,[],[]⟩:=by
 unfold gy; rw [if_neg (not_not_intro hc),if_pos e]
def Sh (hc:0≤o.aV∧o.aV<16) (e:o.τ=15):gy f o=(match wN f o with | .inl e=>(f,p5 e) | .inr z=>(f,⟨0,z.1,z.2.1,z.2.2.1,z.2.2.2.1,z.2.2.2.2.1,z.2.2.2.2.2⟩)):=by
 unfold gy; rw [if_neg (not_not_intro hc),if_neg (by omega),if_pos e]
def Si (hc:0≤o.aV∧o.aV<16) (e:o.τ=16):gy f o=uh f (vO f o) fun _=>⟨0,0,0,0,0,[],[]⟩:=by
 unfold gy; rw [if_neg (not_not_intro hc),if_neg (by omega),if_neg (by omega),if_pos e]
def iN (hc:0≤o.aV∧o.aV<16) (e:o.τ≠14∧o.τ≠15∧o.τ≠16):gy f o=iq f (dy f.S.Γ f.Holds f.bc o):=by
 unfold gy; rw [if_neg (not_not_intro hc),if_neg (by omega),if_neg (by omega),if_neg (by omega)]
def wK (h:FI k f) (hk:k≤60) (ho:OB o):nB f o=some (gy f o):=by
 unfold nB;rw [afK,aj3];simp only [cD,aj4];by_cases hc:0≤o.aV∧o.aV<16
 ·have c1:decide (o.aV≥0)=true:=by simp; omega
  have c2:decide (o.aV<16)=true:=by simp; omega
  by_cases hK:1≤o.τ∧o.τ≤17
  ·simp only [if_pos hK,Option.isSome_some,if_true,c1,c2,cD,Ap];refine ε.eq (ε.check (by decide) (fun _=>?_) fun h=>(by cases h))
   rcases (by omega:o.τ=1∨o.τ=2∨o.τ=3∨o.τ=4∨o.τ=5∨o.τ=6∨o.τ=7∨o.τ=8∨o.τ=9∨o.τ=10∨o.τ=11∨o.τ=12∨o.τ=13∨o.τ=14∨o.τ=15∨o.τ=16∨o.τ=17) with e | e | e | e | e | e | e | e | e | e | e | e | e | e | e | e | e
   ·rw [show o.τ+61=62 by omega,iN hc (by omega)]; exact ⟨_,aeE h hk ho e,rfl⟩
   ·rw [show o.τ+61=63 by omega,iN hc (by omega)]; exact ⟨_,aeN h hk ho e,rfl⟩
   ·rw [show o.τ+61=64 by omega,iN hc (by omega)]; exact ⟨_,aeO h hk ho e,rfl⟩
   ·rw [show o.τ+61=65 by omega,iN hc (by omega)]; exact ⟨_,aeP h hk ho e,rfl⟩
   ·rw [show o.τ+61=66 by omega,iN hc (by omega)]; exact ⟨_,aeQ h hk ho e,rfl⟩
   ·rw [show o.τ+61=67 by omega,iN hc (by omega)]; exact ⟨_,aeR h hk ho e,rfl⟩
   ·rw [show o.τ+61=68 by omega,iN hc (by omega)]; exact ⟨_,aeS h hk ho e,rfl⟩
   ·rw [show o.τ+61=69 by omega,iN hc (by omega)]; exact ⟨_,aeT h hk ho e,rfl⟩
   ·rw [show o.τ+61=70 by omega,iN hc (by omega)]; exact ⟨_,aeU h hk ho e,rfl⟩
   ·rw [show o.τ+61=71 by omega,iN hc (by omega)]; exact ⟨_,aeF h hk ho e,rfl⟩
   ·rw [show o.τ+61=72 by omega,iN hc (by omega)]; exact ⟨_,aeG h hk ho e,rfl⟩
   ·rw [show o.τ+61=73 by omega,iN hc (by omega)]; exact ⟨_,aeH h hk ho e,rfl⟩
   ·rw [show o.τ+61=74 by omega,iN hc (by omega)]; exact ⟨_,aeI h hk ho e,rfl⟩
   ·rw [show o.τ+61=75 by omega,LQ hc e]; exact ⟨_,aeJ h hk ho,rfl⟩
   ·rw [show o.τ+61=76 by omega,Sh hc e]; exact ⟨_,aeK h hk ho,rfl⟩
   ·rw [show o.τ+61=77 by omega,Si hc e]; exact ⟨_,aeL h hk ho,rfl⟩
   ·rw [show o.τ+61=78 by omega,iN hc (by omega)]; exact ⟨_,aeM h hk ho e,rfl⟩
  ·rw [iN hc (by omega),aih _ _ _ hK];simp only [if_neg hK,Option.isSome_none,nk,if_false,cD];exact ε.eq (ε.check (by decide) (fun h=>(by cases h)) fun _=>ε.ret rfl)
 ·rw [AJ hc];refine ε.eq (ε.bind (R:=(·=((if 1≤o.τ∧o.τ≤17 then some (o.τ+61) else none).isSome&&decide (o.aV≥0)))) (ε.ite (fun e=>ε.ret (by rw [e]; rfl)) fun e=>ε.ret (by rw [gK.2 e]; rfl)) fun c1 h1=>ε.bind (R:=(·=false)) (ε.ite (fun e=>ε.ret ?_) fun e=>ε.ret rfl) fun c2 h2=>?_)
  ·rw [h1,bJ,decide_eq_true_eq] at e;rw [decide_eq_false_iff_not]; omega
  ·subst h2;exact ε.check (by decide) (fun h=>(by cases h)) fun _=>ε.ret rfl
end
end
section
structure AB (a:dL):Prop where
 e:Θ a.xz
 i:Θ a.ι
 k:Θ a.τ
 n:Θ a.N
 m:Θ a.M
 nl:a.mq.length≤64
 ns:∀s,s∈a.mq→s.length≤32
 d:a.aC.length≤5000
def Sm (e:Int):Prop:=0≤e∧e≤200
def Sm.i {e:Int} (h:Sm e):Θ e:=by unfold Sm at h; unfold Θ; omega
def cj:Θ 0:=by unfold Θ; omega
def fE {α:Type} (v:Int⊕α):Prop:=∀e,v=.inl e→Sm e
def fE.bS {α β:Type} {v:Int⊕α} {k:α→Int⊕β} (h:fE v) (hk:∀a,fE (k a)):fE (Go.Proofs.bS v k):=by
 cases v with
 | inl e=>intro e' he; cases he; exact h e rfl
 | inr a=>exact hk a
def fE.mS {β:Type} {e:Int} {v:Int⊕β} (h:Sm e) (hv:fE v):fE (Go.Proofs.mS e v):=by
 unfold Go.Proofs.mS;split
 ·intro e' he; cases he; exact h
 ·exact hv
def fE.inr {α:Type} {a:α}:fE (.inr a:Int⊕α):=fun e he=>by cases he
def fE.inl {α:Type} {e:Int} (h:Sm e):fE (.inl e:Int⊕α):=fun e' he=>by cases he; exact h
def fE.cu {α β:Type} {g:α→β} {v:Int⊕α} (h:fE v):fE (Go.Proofs.cu g v):=by
 cases v with
 | inl e=>intro e' he; cases he; exact h e rfl
 | inr a=>exact .inr
def pG {α β:Type} {g:α→β} {v:Int⊕α} {r:β} (h:cu g v=.inr r):∃a,v=.inr a∧g a=r:=by
 cases v with
 | inl e=>cases h
 | inr a=>cases h; exact ⟨a,rfl,rfl⟩
section
variable {B:Nat} {t:ψ}
def Kf (l:List ξ) (i:Int):Sm (dz l i).2:=by unfold dz Sm; (repeat' split) <;> dsimp only <;> omega
def Kg (t:ψ) (i:Int) (s:List UInt8):Sm (eQ t i s).2:=by
 have:=Kf t.η i;unfold eQ Sm at *;split
 ·exact this
 split
 ·dsimp only; omega
 split <;> dsimp only <;> omega
def Xr (t:ψ):∀(l:List (List UInt8)) (i:Int),Sm (tH t i l).2
 | [],i=>by unfold tH Sm; dsimp only; omega
 | s::r,i=>by
  unfold tH;split
  ·exact Kg t i s
  ·exact Xr t r _
def Xq (t:ψ) (p:List UInt8):Sm (qu t p).2:=by
 unfold qu;split
 ·have:=(F_ (p:=p)).2.2;unfold Sm; dsimp only; omega
 ·exact Xr t _ _
def ahn (p:List UInt8):Sm (oL p).2.2:=by unfold oL Sm; split <;> dsimp only <;> omega
def Xo (t:ψ) (i:Int) (s:List UInt8):Sm (sw t i s):=by
 have:=Kf t.η i;unfold sw Sm at *;split
 ·exact this
 (repeat' split) <;> omega
def ahj (t:ψ) (i:Int) (s:List UInt8) (k:Int):Sm (mw t i s k).2.2:=by
 have:=Xo t i s;unfold mw Sm at *;split
 ·dsimp only; omega
 split
 ·exact this
 split <;> dsimp only <;> omega
def ahp (t:ψ) (i to:Int) (s:List UInt8):Sm (sY t i to s).2:=by
 have:=Xo t to s;unfold sY Sm at *;split
 ·dsimp only; omega
 split
 ·dsimp only; omega
 split
 ·exact this
 ·dsimp only; omega
def ahw (t:ψ) (i:Int) (s:List UInt8):Sm (qs t i s).2.2:=by
 have:=Kg t i s;unfold qs Sm at *;split
 ·exact this
 split <;> dsimp only <;> omega
def ahq (t:ψ) (i:Int) (s:List UInt8) (to:Int) (aJ:List UInt8):Sm (qj t i s to aJ).2.2:=by
 have h1:=Kg t i s;have h2:=Kf t.η to
 have h3:Sm (sd t (gD t.η (eQ t i s).1) (bY t to aJ)):=by unfold sd Sm; (repeat' split) <;> omega
 unfold qj Sm at *;split
 ·exact h1
 split
 ·exact h2
 split
 ·dsimp only; omega
 split
 ·dsimp only; omega
 split
 ·dsimp only; omega
 split
 ·exact h3
 split <;> dsimp only <;> omega
def ahs (t:ψ) (i:Int) (x:List UInt8):Sm (nX t i x).2:=by unfold nX Sm; (repeat' split) <;> dsimp only <;> omega
def aht (t:ψ) (l:List aA) (i n b:Int):Sm (uR t l i n b).2:=by unfold uR Sm; (repeat' split) <;> dsimp only <;> omega
def ahm (l:List az) (c h:Int):Sm (zj l c h).2:=by unfold zj Sm; split <;> dsimp only <;> omega
def ahr (t:ψ) (l:List az) (c h i:Int):Sm (uN t l c h i).2:=by unfold uN Sm; (repeat' split) <;> dsimp only <;> omega
def ahk (t:ψ) (l:List az) (c h:Int):Sm (oZ t l c h).2.2:=by unfold oZ Sm; split <;> dsimp only <;> omega
def aho (h:RT t) (hf:TF B t) (hB:B≤90000) (i a b:Int):Sm (rB t i a b).2.2:=by
 have hL:=(Jo h hf hB i a b).2;have h2:=Kf t.η i;unfold Aw at hL;unfold Sm at *;split at hL
 ·rw [hL]; dsimp only; omega
 split at hL
 ·rw [hL]; exact h2
 ·obtain ⟨L,-,-,l3⟩:=hL;split at l3
  ·rw [l3]; dsimp only; omega
  ·obtain ⟨x,-,hr⟩:=l3;rw [hr]; dsimp only; omega
def ahu (t:ψ) (H:List az) (Q:List aA):fE (wR t H Q):=by
 unfold wR;split
 ·exact .inl (by unfold Sm; omega)
 split
 ·exact .inl (by unfold Sm; omega)
 ·exact .inr
def Cm {α:Type} (t:ψ) (H:List az) (Q:List aA) (x:α):fE (kp t H Q x):=(ahu t H Q).bS fun _=>.inr
def zW (t:ψ) (p:List UInt8):fE (jT t p):=.mS (Xq t p) .inr
def F7 (t:ψ) (p:List UInt8):fE (tz t p):=.mS (ahn p) (.mS (Xq t _) .inr)
def PX (t:ψ) (H:List az) (o:bN):fE (v_ t H o):=.mS (ahm _ _ _) (by
 split
 ·exact .inr
 ·exact .inl (by unfold Sm; omega))
def Xp (t:ψ) (H:List az) (Q:List aA) (i:Int) (d:List UInt8):fE (vY t H Q i d):=.mS (ahs _ _ _) (Cm _ _ _ _)
def Cr {α:Type} {H:List az} {Q:List aA} {x:α} {z:ψ×List aA×α} (hz:kp t H Q x=.inr z) (ht:RF B t) (hq:j3 Q) (hl:Q.length≤16):RF B z.1∧j3 z.2.1∧z.2.1.length≤16∧z.2.2=x:=by
 obtain ⟨w,hw,he⟩:=my hz;cases he;unfold wR at hw;split at hw
 ·cases hw
 split at hw
 ·cases hw
 cases hw;obtain ⟨h1,h2⟩:=Vp (lG t H) hq;exact ⟨ht.settle H,h1,by dsimp only; omega,rfl⟩
def S8 (h:RT t) (hf:TF B t) (hB:B≤4000) (i:Int):NZ (gD t.η i):=by
 rcases vT t.η i with ⟨n,g1,g2⟩ | ⟨g1,g2⟩
 ·rw [g2]; exact .inl (h.nb hf hB (dM g1).1)
 ·exact .inr g2
def Vu (h:RT t) (hf:TF B t) (hB:B≤4000) (i:Int) (s:List UInt8):Θ (eQ t i s).1:=by
 by_cases h0:(eQ t i s).2=0
 ·obtain ⟨m,e,g1,g2,g3,g4,g5,g6⟩:=look_ok h0;rw [g6];have:=h.eR (dM g1).1 (List.mem_of_find?_eq_some g5);have:=hf.x;unfold Θ; omega
 ·have:(eQ t i s).1=0:=by
   unfold eQ at h0 ⊢;by_cases h1:((dz t.η i).2 != 0)=true
   ·rw [if_pos h1]
   rw [if_neg h1] at h0 ⊢;by_cases h2:(!fY s)=true
   ·rw [if_pos h2]
   rw [if_neg h2] at h0 ⊢;cases hf:(dz t.η i).1.Ψ.find? fun e=>e.aM==s with
   | none=>rfl
   | some e=>rw [hf] at h0; exact absurd rfl h0
  rw [this]; exact cj
end
def X7 (t:ψ) (H:List az) (Q:List aA) {o:bN} (e:¬o.τ=1∧¬o.τ=2∧¬o.τ=3∧¬o.τ=4∧¬o.τ=5∧¬o.τ=6∧¬o.τ=7∧¬o.τ=8∧¬o.τ=9∧¬o.τ=10∧¬o.τ=11∧¬o.τ=12∧¬o.τ=13∧¬o.τ=17):dy t H Q o=.inl 1:=by
 obtain ⟨e1,e2,e3,e4,e5,e6,e7,e8,e9,sl,sm,qS,sr,ss⟩:=e;unfold dy;rw [if_neg e1,if_neg e2,if_neg e3,if_neg e4,if_neg e5,if_neg e6,if_neg e7,if_neg e8,if_neg e9,if_neg sl,if_neg sm,if_neg qS,if_neg sr,if_neg ss]
structure G6 (B:Nat) (z:rZ):Prop where
 t:∀T,z.1=some T→RF B T
 h:qL z.2.1
 hl:z.2.1.length≤64
 q:j3 z.2.2.1
 ql:z.2.2.1.length≤16
 a:AB z.2.2.2
section
variable {k:Nat} {f:c9} {o:bN}
def adg {l:List az} {x:az} {k:Nat}:(dH l (k:Int) [x]).length=l.length+1:=by
 unfold dH;simp only [dq,dQ,l_,c8,ib]; omega
def aer (t:ψ) {l:List az} (hs:qL l) (hl:l.length≤64) (c h i:Int):qL (uN t l c h i).1∧(uN t l c h i).1.length≤64:=by
 unfold uN;split
 ·exact ⟨hs,hl⟩
 split
 ·exact ⟨hs,hl⟩
 split
 ·exact ⟨hs,hl⟩
 split
 ·exact ⟨hs,hl⟩
 rename_i h4;split
 ·exact ⟨hs,hl⟩
 rename_i h5;rw [decide_eq_true_eq] at h5;exact ⟨adf hs (gK.2 h4) i,by dsimp only; rw [adg]; omega⟩
def ahx (h:FI k f) (hk:k≤60):fE (dy f.S.Γ f.Holds f.bc o):=by
 by_cases e1:o.τ=1
 ·rw [KA _ _ _ e1];exact (zW _ _).cu
 by_cases e2:o.τ=2
 ·rw [Gm _ _ _ e2];exact fE.cu ((F7 _ _).bS fun _=>.mS (ahj _ _ _ _) (Cm _ _ _ _))
 by_cases e3:o.τ=3
 ·rw [Qg _ _ _ e3];exact fE.cu ((zW _ _).bS fun _=>(F7 _ _).bS fun _=>.mS (ahp _ _ _ _) (Cm _ _ _ _))
 by_cases e4:o.τ=4
 ·rw [Qh _ _ _ e4];exact fE.cu ((F7 _ _).bS fun _=>.mS (ahw _ _ _) (Cm _ _ _ _))
 by_cases e5:o.τ=5
 ·rw [KB _ _ _ e5];exact fE.cu ((F7 _ _).bS fun _=>(F7 _ _).bS fun _=>.mS (Kg _ _ _) (.mS (ahq _ _ _ _ _) (Cm _ _ _ _)))
 by_cases e6:o.τ=6
 ·rw [KC _ _ _ e6];exact fE.cu ((zW _ _).bS fun _=>.mS (aho h.r h.s.f (by omega) _ _ _) .inr)
 by_cases e7:o.τ=7
 ·rw [Qi _ _ _ e7];exact (zW _ _).cu
 by_cases e8:o.τ=8
 ·rw [Qj _ _ _ e8];exact fE.cu ((zW _ _).bS fun _=>.mS (ahr _ _ _ _ _) .inr)
 by_cases e9:o.τ=9
 ·rw [Qk _ _ _ e9];exact fE.cu (.mS (ahk _ _ _ _) .inr)
 by_cases sl:o.τ=10
 ·rw [Qb _ _ _ sl];refine fE.cu ((PX _ _ _).bS fun _=>?_);split
  ·exact .inr
  ·exact .inl (by unfold Sm; omega)
 by_cases sm:o.τ=11
 ·rw [Qc _ _ _ sm];refine fE.cu ((PX _ _ _).bS fun _=>?_);split
  ·split
   ·exact Xp _ _ _ _ _
   ·exact .inl (by unfold Sm; omega)
  ·exact .inl (by unfold Sm; omega)
 by_cases qS:o.τ=12
 ·rw [Qd _ _ _ qS];exact fE.cu ((PX _ _ _).bS fun _=>Xp _ _ _ _ _)
 by_cases sr:o.τ=13
 ·rw [Qe _ _ _ sr];exact fE.cu ((zW _ _).bS fun _=>.mS (aht _ _ _ _ _) (Cm _ _ _ _))
 by_cases ss:o.τ=17
 ·rw [Qf _ _ _ ss];exact .inr
 rw [X7 _ _ _ ⟨e1,e2,e3,e4,e5,e6,e7,e8,e9,sl,sm,qS,sr,ss⟩];exact .inl (by unfold Sm; omega)
def ot {i k n m:Int} (hi:Θ i) (hk:Θ k) (hn:Θ n) (hm:Θ m):AB ⟨0,i,k,n,m,[],[]⟩:=⟨cj,hi,hk,hn,hm,by simp,fun s hs=>(by cases hs),by simp⟩
def ag6 {n:ξ} (h:NZ n):Θ (FN n):=by
 obtain ⟨-,-,-,h4,h5,-⟩:=h.b;unfold FN Θ; omega
def Tw (h:FI k f) {i:Int} {d:List UInt8} {z:ψ×List aA×Int×Int} (hz:vY f.S.Γ f.Holds f.bc i d=.inr z):RF (2+5*k+5) z.1∧j3 z.2.1∧z.2.1.length≤16∧z.2.2=(i,(d.length:Int))∧d.length≤4096:=by
 obtain ⟨h1,h2⟩:=lY hz;obtain ⟨g1,g2,g3,g4⟩:=Cr h2 ⟨h.r.WC _ _,h.s.f.WH _ _⟩ h.q h.ql;refine ⟨g1,g2,g3,g4,?_⟩;unfold nX at h1;split at h1
 ·cases h1
 split at h1
 ·cases h1
 split at h1
 ·cases h1
 ·rename_i h5; rw [decide_eq_true_eq] at h5; omega
def MX (h:FI k f) (hk:k≤60) {n:ξ} (hn:v_ f.S.Γ f.Holds o=.inr n):NZ n:=by
 obtain ⟨-,h2⟩:=lY hn;split at h2
 ·cases h2; exact S8 h.r h.s.f (by omega) _
 ·cases h2
def EW (h:FI k f) (hk:k≤60) {p:List UInt8} {n:ξ} (hn:jT f.S.Γ p=.inr n):NZ n:=by
 obtain ⟨-,h2⟩:=lY hn;cases h2; exact S8 h.r h.s.f (by omega) _
def aii (h:FI k f) (hk:k≤60) (ho:OB o) {z:rZ} (hz:dy f.S.Γ f.Holds f.bc o=.inr z):G6 (2+5*k+5) z:=by
 have hB:2+5*k≤4000:=by omega
 have no:∀(a:dL),AB a→G6 (2+5*k+5) (none,f.Holds,f.bc,a):=fun a ha=>⟨fun T hT=>(by cases hT),h.h,h.hl,h.q,h.ql,ha⟩;have st:∀(T:ψ) (Q:List aA) (a:dL),RF (2+5*k+5) T→j3 Q→Q.length≤16→AB a→G6 (2+5*k+5) (some T,f.Holds,Q,a):=fun T Q a hT h1 h2 ha=>⟨fun T' hT'=>(by cases hT'; exact hT),h.h,h.hl,h1,h2,ha⟩;by_cases e1:o.τ=1
 ·rw [KA _ _ _ e1] at hz;obtain ⟨n,hn,rfl⟩:=pG hz;have hb:=(EW h hk hn).b;exact no _ (ot hb.1 hb.2.1 cj cj)
 by_cases e2:o.τ=2
 ·rw [Gm _ _ _ e2] at hz;obtain ⟨w,hw,rfl⟩:=pG hz;obtain ⟨y,-,h2⟩:=my hw;obtain ⟨-,h3⟩:=lY h2;obtain ⟨g1,g2,g3,g4⟩:=Cr h3 ⟨h.r.add _ _ _,h.s.f.G7 (by omega) _ _ _⟩ h.q h.ql;refine st _ _ _ g1 g2 g3 (ot ?_ ho.n cj cj);rw [g4];have hx:=h.s.f.x;unfold mw;split
  ·exact cj
  split
  ·exact cj
  split
  ·exact cj
  ·unfold Θ; dsimp only; omega
 by_cases e3:o.τ=3
 ·rw [Qg _ _ _ e3] at hz;obtain ⟨w,hw,rfl⟩:=pG hz;obtain ⟨n,hn,h2⟩:=my hw;obtain ⟨y,-,h2⟩:=my h2;obtain ⟨-,h3⟩:=lY h2;obtain ⟨g1,g2,g3,g4⟩:=Cr h3 ⟨h.r.ln _ _ _,h.s.f.Vt (by omega) _ _ _⟩ h.q h.ql;refine st _ _ _ g1 g2 g3 (ot ?_ cj cj cj);rw [g4]; exact (EW h hk hn).b.1
 by_cases e4:o.τ=4
 ·rw [Qh _ _ _ e4] at hz;obtain ⟨w,hw,rfl⟩:=pG hz;obtain ⟨y,-,h2⟩:=my hw;obtain ⟨-,h3⟩:=lY h2;obtain ⟨g1,g2,g3,g4⟩:=Cr h3 ⟨h.r.un _ _,h.s.f.X2 (by omega) _ _⟩ h.q h.ql;refine st _ _ _ g1 g2 g3 (ot ?_ cj cj cj);rw [g4];have hx:=Vu h.r h.s.f hB y.1 y.2;unfold qs;split
  ·exact cj
  split
  ·exact cj
  ·exact hx
 by_cases e5:o.τ=5
 ·rw [KB _ _ _ e5] at hz;obtain ⟨w,hw,rfl⟩:=pG hz;obtain ⟨y,-,h2⟩:=my hw;obtain ⟨y',-,h2⟩:=my h2;obtain ⟨-,h2⟩:=lY h2;obtain ⟨-,h3⟩:=lY h2;obtain ⟨g1,g2,g3,g4⟩:=Cr h3 ⟨h.r.mv _ _ _ _,h.s.f.Oo (by omega) _ _ _ _⟩ h.q h.ql;refine st _ _ _ g1 g2 g3 (ot ?_ cj cj cj);rw [g4]; exact Vu h.r h.s.f hB _ _
 by_cases e6:o.τ=6
 ·rw [KC _ _ _ e6] at hz;obtain ⟨w,hw,rfl⟩:=pG hz;obtain ⟨n,hn,h2⟩:=my hw;obtain ⟨-,h3⟩:=lY h2;cases h3;obtain ⟨l1,l2,l3,l4⟩:=Vr h.r h.s.f hB n.ι o.N o.M;refine no _ ⟨cj,cj,cj,l3,cj,by simpa using l1,fun s hs=>?_,by simp⟩;obtain ⟨e,he,rfl⟩:=dg.1 hs;exact l2 e he
 by_cases e7:o.τ=7
 ·rw [Qi _ _ _ e7] at hz;obtain ⟨n,hn,rfl⟩:=pG hz;have hn:=EW h hk hn;have hb:=hn.b;exact no _ (ot hb.1 hb.2.1 hb.2.2.1 (ag6 hn))
 by_cases e8:o.τ=8
 ·rw [Qj _ _ _ e8] at hz;obtain ⟨w,hw,rfl⟩:=pG hz;obtain ⟨n,hn,h2⟩:=my hw;obtain ⟨-,h3⟩:=lY h2;cases h3;obtain ⟨o1,o2⟩:=aer f.S.Γ h.h h.hl o.aV o.cd n.ι;exact ⟨fun T hT=>(by cases hT),o1,o2,h.q,h.ql,ot (EW h hk hn).b.1 cj cj cj⟩
 by_cases e9:o.τ=9
 ·rw [Qk _ _ _ e9] at hz;obtain ⟨w,hw,rfl⟩:=pG hz;obtain ⟨-,h3⟩:=lY hw;cases h3;have hg:=LK (t:=f.S.Γ) (l:=f.Holds) (n:=64) (B:=2+5*k+5) ⟨h.r,h.s.f.up (by omega),h.hl,h.h⟩ o.aV o.cd;exact ⟨fun T hT=>(by cases hT; exact ⟨hg.r,hg.f⟩),hg.s,hg.l,h.q,h.ql,ot cj cj cj cj⟩
 by_cases sl:o.τ=10
 ·rw [Qb _ _ _ sl] at hz;obtain ⟨w,hw,rfl⟩:=pG hz;obtain ⟨n,hn,h2⟩:=my hw;split at h2
  ·cases h2;have hn:=(MX h hk hn).b;refine no _ ⟨cj,hn.1,cj,cj,cj,by simp,fun s hs=>(by cases hs),?_⟩;unfold JD;have:=hn.2.2.2.1;simp only [dQ,l_]; omega
  ·cases h2
 by_cases sm:o.τ=11
 ·rw [Qc _ _ _ sm] at hz;obtain ⟨w,hw,rfl⟩:=pG hz;obtain ⟨n,hn,h2⟩:=my hw;split at h2
  ·split at h2
   ·obtain ⟨g1,g2,g3,g4,g5⟩:=Tw h h2;refine st _ _ _ g1 g2 g3 ?_;rw [g4];exact ot (MX h hk hn).b.1 cj cj (by unfold Θ; dsimp only; omega)
   ·cases h2
  ·cases h2
 by_cases qS:o.τ=12
 ·rw [Qd _ _ _ qS] at hz;obtain ⟨w,hw,rfl⟩:=pG hz;obtain ⟨n,hn,h2⟩:=my hw;obtain ⟨g1,g2,g3,g4,g5⟩:=Tw h h2;refine st _ _ _ g1 g2 g3 ?_;rw [g4];exact ot (MX h hk hn).b.1 cj cj (by unfold Θ; dsimp only; omega)
 by_cases sr:o.τ=13
 ·rw [Qe _ _ _ sr] at hz;obtain ⟨w,hw,rfl⟩:=pG hz;obtain ⟨n,hn,h2⟩:=my hw;obtain ⟨-,h3⟩:=lY h2;have hs:=W8 (t:=f.S.Γ) h.q h.ql n.ι o.N o.M;obtain ⟨g1,g2,g3,g4⟩:=Cr h3 h.rf hs.1 hs.2;refine st _ _ _ g1 g2 g3 (ot ?_ cj cj cj);rw [g4]; exact (EW h hk hn).b.1
 by_cases ss:o.τ=17
 ·rw [Qf _ _ _ ss] at hz;cases hz;have hg:=Mm (n:=64) (B:=2+5*k+5) o.aV f.Holds (a:=(f.S.Γ,f.Holds)) ⟨h.r,h.s.f.up (by omega),h.hl,h.h⟩;exact ⟨fun T hT=>(by cases hT; exact ⟨hg.r,hg.f⟩),hg.s,hg.l,h.q,h.ql,ot cj cj cj cj⟩
 rw [X7 _ _ _ ⟨e1,e2,e3,e4,e5,e6,e7,e8,e9,sl,sm,qS,sr,ss⟩] at hz;cases hz
def FI.up (h:FI k f) {j:Nat} (hj:k≤j):FI j f:=⟨h.s.up hj,h.r,h.k,h.h,h.hl,h.q,h.ql⟩
def BY (s:bq) (t:ψ):(dP s t).Γ=t:=by
 unfold dP;split
 ·assumption
 ·rfl
def FI.vis (h:FI k f) (hk:k≤60) {z:rZ} (hz:G6 (2+5*k+5) z):FI (k+1) ⟨WG f.S z.1,z.2.1,z.2.2.1⟩:=by
 cases uK:z.1 with
 | none=>exact ⟨h.s.up (by omega),h.r,h.k,hz.h,hz.hl,hz.q,hz.ql⟩
 | some T =>
  have hT:=hz.t T uK;refine ⟨h.s.af1 (by omega) hT.r.ts hT.f,?_,h.k.put hT.r hT.f (by omega),hz.h,hz.hl,hz.q,hz.ql⟩;show RT (dP f.S T).Γ;rw [BY]; exact hT.r
def ahv:fE (uU f o):=(zW _ _).bS fun n=>.mS (by unfold kq Sm; (repeat' split) <;> dsimp only <;> omega) .inr
def ahl:fE (vO f o):=.mS (by unfold o9 Sm; split <;> dsimp only <;> omega) .inr
def Dg {e:Int} (h:Θ e):AB (p5 e):=⟨h,cj,cj,cj,cj,by simp [p5],fun s hs=>(by cases hs),by simp [p5]⟩
def AK (h:FI k f) (hk:k≤60) (ho:OB o):FI (k+1) (gy f o).1∧AB (gy f o).2:=by
 by_cases hc:0≤o.aV∧o.aV<16
 ·by_cases Dx:o.τ=14
  ·rw [LQ hc Dx];unfold uh;cases hv:uU f o with
   | inl e=>exact ⟨h.up (by omega),Dg ((ahv e hv).i)⟩
   | inr z =>
    obtain ⟨n,-,h2⟩:=my hv;obtain ⟨-,h3⟩:=lY h2;cases h3;have hx:=h.s.nx
    have hr:(kq f.S n.ι).1.Γ=f.S.Γ:=by unfold kq; (repeat' split) <;> rfl
    refine ⟨⟨h.s.take _,by dsimp only; rw [hr]; exact h.r,h.k.take _,h.h,h.hl,h.q,h.ql⟩,ot cj cj ?_ cj⟩;unfold kq;split
    ·exact cj
    split
    ·exact cj
    split
    ·exact cj
    ·unfold Θ; dsimp only; omega
  by_cases Dy:o.τ=15
  ·rw [Sh hc Dy];have hp:=(Wl h hk ho).2;cases hv:wN f o with
   | inl e=>rw [hv] at hp; exact ⟨h.up (by omega),Dg hp⟩
   | inr z =>
    rw [hv] at hp;obtain ⟨a1,a2,a3,a4,a5,a6,a7⟩:=hp;exact ⟨h.up (by omega),cj,a1,a2,a3,a4,a5,a6,by dsimp only; omega⟩
  by_cases Dz:o.τ=16
  ·rw [Si hc Dz];unfold uh;cases hv:vO f o with
   | inl e=>exact ⟨h.up (by omega),Dg ((ahl e hv).i)⟩
   | inr z =>
    obtain ⟨-,h3⟩:=lY hv;cases h3
    have hr:(o9 f.S o.N).1.Γ=f.S.Γ:=by unfold o9; split <;> rfl
    exact ⟨⟨(h.s.drop _).up (by omega),by dsimp only; rw [hr]; exact h.r,h.k.drop _,h.h,h.hl,h.q,h.ql⟩,ot cj cj cj cj⟩
  rw [iN hc ⟨Dx,Dy,Dz⟩];unfold iq;cases hv:dy f.S.Γ f.Holds f.bc o with
  | inl e=>exact ⟨h.up (by omega),Dg (ahx h hk e hv).i⟩
  | inr z =>
   have hz:=aii h hk ho hv;exact ⟨h.vis hk hz,hz.a⟩
 ·rw [AJ hc];exact ⟨h.up (by omega),Dg (by unfold Θ; omega)⟩
end
end
section
def lH (n:Int):Nat:=if n<0 then (-2*n-1).toNat else (2*n).toNat
def rR {n:Int} (h:Θ n):lH n<18446744073709551616:=by
 unfold Θ at h; unfold lH; split <;> omega
def aki {a:Nat} (h:a<18446744073709551616):a ^^^ 18446744073709551615=18446744073709551615-a:=by
 have h1:=YZ (x:=BitVec.ofNat 64 a);rw [←Y1,Y0,BitVec.toNat_ofNat,BitVec.toNat_allOnes,Nat.mod_eq_of_lt (by simpa using h)] at h1;simpa using h1
def afN {n:Int} (h:Θ n):qv .u64 (pH .u64 (IntKind.u64.wrap n) 1) (IntKind.u64.wrap (eT .i64 n 63))=((lH n:Nat):Int):=by
 unfold Θ at h
 have hs:pH .u64 (IntKind.u64.wrap n) 1=(2*n) % 18446744073709551616:=by
  unfold pH;rw [Zc,Zc]
  have:(2:Int) ^ (min (1:Int).toNat IntKind.u64.bits)=2:=by decide
  rw [this]; omega
 have hr:eT .i64 n 63=n/9223372036854775808:=by
  unfold eT
  have:(2:Int) ^ (min (63:Int).toNat IntKind.i64.bits)=9223372036854775808:=by decide
  rw [this,Int.fdiv_eq_ediv_of_nonneg _ (by decide)]
 rw [hs,hr];unfold lH;split
 ·rename_i hn
  have e1:n/9223372036854775808=-1:=by omega
  have e2:(2*n) % 18446744073709551616=(((2*n+18446744073709551616).toNat:Nat):Int):=by omega
  have e3:IntKind.u64.wrap (-1)=((18446744073709551615:Nat):Int):=by decide
  rw [e1,e2,e3,YO (by omega) (by decide),aki (by omega)];congr 1; omega
 ·rename_i hn
  have e1:n/9223372036854775808=0:=by omega
  have e2:(2*n) % 18446744073709551616=(((2*n).toNat:Nat):Int):=by omega
  have e3:IntKind.u64.wrap 0=((0:Nat):Int):=by decide
  rw [e1,e2,e3,YO (by omega) (by decide),Nat.xor_zero]
def oO:Nat→Nat→List UInt8
 | 0,u=>[iY u]
 | k+1,u=>if u<128 then [iY u] else (iY u ||| 128)::oO k (u>>>7)
def kW (u:Nat):List UInt8:=oO 10 u
def Xa:∀(k j u:Nat),u<128 ^ (j+1)→(oO k u).length≤j+1
 | 0,j,u,_=>by simp [oO]
 | k+1,j,u,h=>by
  unfold oO;split
  ·simp
  ·cases j with
   | zero=>simp at h; omega
   | succ j =>
    have:=Xa k j (u>>>7) (by rw [GM,qI (by decide)]; rw [K1] at h; simpa using h);simp only [c8]; omega
def Xb:∀(k u:Nat),u<128 ^ (k+1)→oO (k+1) u=oO k u
 | 0,u,h=>by
  have:u<128:=by simpa using h
  unfold oO;rw [if_pos this]
 | k+1,u,h=>by
  rw [show oO (k+1+1) u=if u<128 then [iY u] else (iY u ||| 128)::oO (k+1) (u>>>7) from rfl,
   show oO (k+1) u=if u<128 then [iY u] else (iY u ||| 128)::oO k (u>>>7) from rfl]
  split
  ·rfl
  ·rw [Xb k (u>>>7) (by rw [GM,qI (by decide)]; rw [K1] at h; simpa using h)]
def rF {u:Nat} (h:u<18446744073709551616):(kW u).length≤10:=Xa 10 9 u (KY h (by decide))
def Ws {u:Nat} (h:u<128):kW u=[iY u]:=by unfold kW oO; rw [if_pos h]
def Wr {u:Nat} (h:¬u<128) (hu:u<18446744073709551616):kW u=(iY u ||| 128)::kW (u>>>7):=by
 have h2:u>>>7<128 ^ 10:=gv (Zs _ _) (KY hu (by decide));unfold kW;rw [oO,if_neg h,Xb 9 _ h2]
def XL (u:Nat):k_ (u:Int)=iY u:=by
 unfold k_
 have:((u:Int) % 256).toNat=u % 256:=by omega
 rw [this];apply Rk.1;simp
def VX:∀(k u:Nat) (acc:List UInt8),u<18446744073709551616→u<128 ^ (k+1)→acc.length+k≤1000000 →
  ∃(v:Nat) (l:List UInt8),loop Fg ((u:Int),acc)=some ((v:Int),l)∧l++[iY v]=acc++kW u
 | k,u,acc,hu,hk,ha=>by
  rw [I1];unfold Fg;by_cases h:u<128
  ·have:decide ((u:Int)≥128)=false:=by simp; omega
   simp only [this];refine ⟨u,acc,rfl,?_⟩;rw [Ws h]
  ·have hd:decide ((u:Int)≥128)=true:=by simp; omega
   cases k with
   | zero=>exact (h (by simpa using hk)).elim
   | succ k =>
    have e:eT .u64 (u:Int) 7=((u>>>7:Nat):Int):=Pq (b:=7) (by decide);obtain ⟨v,l,hl,hv⟩:=VX k (u>>>7) (acc++[iY u ||| 128]) (gv (Zs _ _) hu)
     (by rw [GM,qI (by decide)]; rw [K1] at hk; simpa using hk) (by simp; omega)
    refine ⟨v,l,?_,?_⟩
    ·simp only [hd,if_true];rw [ij (by simp only [c8,ib]; omega),e,XL];exact hl
    ·rw [hv,Wr h hu]; simp
def VW {n:Int} (h:Θ n):zz n=some (kW (lH n)):=by
 refine ε.eq ?_;unfold zz Wt;rw [afN h];have hz:=rR h;obtain ⟨v,l,hl,hv⟩:=VX 9 (lH n) [] hz (KY hz (by decide)) (by simp);refine ε.ai hl ?_;have hlen:=congrArg List.length hv;have:=rF hz;simp at hlen;refine ε.Ω (by simp only [c8,ib]; omega) (ε.ret ?_);show l++[k_ (v:Int)]=_;rw [XL,hv]; rfl
def tC (s:List UInt8):List UInt8:=kW (lH s.length)++s
def OF (s:List UInt8) (h:s.length≤1000000):wL s=some (tC s):=by
 refine ε.eq ?_;unfold wL
 have hi:Θ (s.length:Int):=by unfold Θ; omega
 have:=rF (rR hi);exact ε.ai (VW hi) (ε.Ω (by omega) (ε.ret rfl))
def nU (l:List Int):List UInt8:=(l.map fun n=>kW (lH n)).flatten
def Oy:∀{l:List Int},(∀n∈l,Θ n)→(nU l).length≤10*l.length
 | [],_=>by simp [nU]
 | n::l,h=>by
  have h1:=rF (rR (h n (List.mem_cons_self ..)));have h2:=Oy (l:=l) fun m hm=>h m (cr _ hm);unfold nU at h2 ⊢;simp at h2 ⊢; omega
def Wg (l:List Int) (h:l.length≤100000) (hi:∀n∈l,Θ n):zA l=some (nU l):=by
 have key:∀(r:List Int) (n:Nat) (acc:List UInt8),l.drop n=r→n≤l.length→acc.length+10*r.length≤1000000→loop (wM l) ((n:Int),acc)=some (acc++nU r):=by
  intro r;induction r with
  | nil =>
   intro n acc hd hn _
   have:n=l.length:=by have:=congrArg List.length hd; simp at this; omega
   subst this;refine nS ?_;unfold wM;rw [if_neg (by simp)];simp [out,nU]
  | cons x r ih =>
   intro n acc hd hn ha
   have Φ:n<l.length:=by
    rcases Nat.lt_or_ge n l.length with h | h
    ·exact h
    ·rw [List.drop_eq_nil_of_le h] at hd; cases hd
   rw [List.drop_eq_getElem_cons Φ] at hd;injection hd with hx hr
   have gl:l[n]?=some x:=by rw [bT Φ,hx]
   have kO:=hi x (hx▸eG Φ);have hp:=rF (rR kO);simp only [c8] at ha
   have e:wM l ((n:Int),acc)=some (.inl (((n+1:Nat):Int),acc++kW (lH x))):=by
    refine ε.eq ?_;unfold wM;refine ε.ite (fun _=>ε.ai (cF gl) (ε.ai (VW kO) (ε.Ω (by dsimp only; omega) (ε.Ω (by unfold Θ; omega) (ε.ret rfl))))) (fun hh=>absurd hh (by simp; omega))
   rw [sZ e,ih (n+1) _ hr Φ (by simp; omega)];simp [nU]
 unfold zA Wu;have:=key l 0 [] rfl (lO _) (by simp; omega)
 have this:loop (wM l) (0,[])=some (nU l):=by simpa using this
 rw [this]; rfl
def ZS (a:Int):r7 .u64 a 1=0∨r7 .u64 a 1=1:=by
 unfold r7
 have h1:(eF 64 a &&& eF 64 1).toNat≤1:=by
  rw [BitVec.toNat_and];exact Nat.and_le_right
 have h2:(eF IntKind.u64.bits a &&& eF IntKind.u64.bits 1).toNat≤1:=h1;generalize (eF IntKind.u64.bits a &&& eF IntKind.u64.bits 1).toNat=n at h2
 have:n=0∨n=1:=by omega
 rcases this with rfl | rfl
 ·left; decide
 ·right; decide
def Gu (u:Nat):Int:=if u % 2=0 then ((u/2:Nat):Int) else-((u/2:Nat):Int)-1
def akk (n:Int):Gu (lH n)=n:=by
 unfold Gu lH;by_cases h:n<0
 ·rw [if_pos h]; split <;> omega
 ·rw [if_neg h]; split <;> omega
def ZP (u:Nat) (h:u<18446744073709551616):r7 .u64 (u:Int) 1=((u % 2:Nat):Int):=by
 have:=ZQ (b:=1) h (by decide);rw [show (1:Nat)=2 ^ 1-1 from rfl,Nat.and_two_pow_sub_one_eq_mod] at this;exact this
def akh {a:Nat} (h:a<9223372036854775808):qv .i64 (a:Int) 0=a:=by
 unfold qv
 have e:(eF IntKind.i64.bits (a:Int) ^^^ eF IntKind.i64.bits 0).toNat=a:=by
  show (eF 64 (a:Int) ^^^ eF 64 0).toNat=a;rw [Y0,wJ (by omega)];exact Nat.xor_zero a
 rw [e,qB _ ⟨by omega,by omega⟩]
def akg {a:Nat} (h:a<9223372036854775808):qv .i64 (a:Int) (-1)=-(a:Int)-1:=by
 unfold qv
 have e:(eF IntKind.i64.bits (a:Int) ^^^ eF IntKind.i64.bits (-1)).toNat=18446744073709551615-a:=by
  show (eF 64 (a:Int) ^^^ eF 64 (-1)).toNat=_
  have:eF 64 (-1)=BitVec.allOnes 64:=by decide
  rw [this,Y1,YZ,wJ (by omega)]
 rw [e,IntKind.wrap_i64];omega
def afM {u:Nat} (h:u<18446744073709551616):qv .i64 (IntKind.i64.wrap (eT .u64 (u:Int) 1)) (0-IntKind.i64.wrap (r7 .u64 (u:Int) 1))=Gu u:=by
 have e1:eT .u64 (u:Int) 1=((u>>>1:Nat):Int):=Pq (b:=1) (by decide)
 have e2:u>>>1=u/2:=by rw [GM]
 rw [e1,e2,ZP u h,qB _ ⟨by omega,by omega⟩,qB _ ⟨by omega,by omega⟩];unfold Gu
 have:u % 2=0∨u % 2=1:=by omega
 rcases this with e | e
 ·rw [e,if_pos rfl];exact akh (by omega)
 ·rw [e,if_neg (by decide)];exact akg (by omega)
def adN (v:Nat):((iY v ||| 128) &&& 127).toNat=v % 128:=by
 have h:∀w:Fin 256,((iY w.1 ||| 128) &&& 127).toNat=w.1 % 128:=by decide +kernel
 have e:iY v=iY (v % 256):=by apply Rk.1; simp
 have:=h ⟨v % 256,Nat.mod_lt _ (by decide)⟩;rw [e];dsimp only at this;rw [this]; omega
def adO {v:Nat} (hv:v<128):(iY v &&& 127).toNat=v:=by
 have h:∀w:Fin 128,(iY w.1 &&& 127).toNat=w.1:=by decide +kernel
 exact h ⟨v,hv⟩
def high (v:Nat):128≤(iY v ||| 128).toNat:=by
 have h:∀w:Fin 256,128≤(iY w.1 ||| 128).toNat:=by decide +kernel
 have e:iY v=iY (v % 256):=by apply Rk.1; simp
 rw [e];exact h ⟨v % 256,Nat.mod_lt _ (by decide)⟩
def aej {v:Nat} (hv:v<128):(iY v).toNat=v:=by rw [UInt8.toNat_ofNat']; omega
def Wi {acc v i:Nat} (ha:acc<2 ^ (7*i)) (hi:i≤9) (hu:acc+v*2 ^ (7*i)<18446744073709551616) :
  uO .u64 (acc:Int) (pH .u64 (v:Int) (7*(i:Int)))=((acc+v*2 ^ (7*i):Nat):Int):=by
 have e:(7*(i:Int))=((7*i:Nat):Int):=by omega
 have h2:v*2 ^ (7*i)<18446744073709551616:=by omega
 rw [e,ag1 rfl (by rw [vD]; omega) (by rw [vD]; simpa using h2),aet (by omega) h2];congr 1;have:=Nat.shiftLeft_add_eq_or_of_lt ha v;rw [Nat.shiftLeft_eq] at this;rw [Nat.or_comm,←this,Nat.add_comm]
def VY (b rest:List UInt8) (u:Nat) (hu:u<18446744073709551616) (hb:b.length≤100000):∀(k i v acc:Nat) (pre:List UInt8),
  b=pre++(kW v++rest)→pre.length=i→acc<2 ^ (7*i)→u=acc+v*2 ^ (7*i)→(i=0∨v≠0)→v<128 ^ (k+1)→v<18446744073709551616→i≤9 →
  loop (BV b) ((acc:Int),(i:Int))=some (Gu u,rest,0)
 | k,i,v,acc,pre,Ib,pB,Tp,US,NN,NQ,oH,T4=>by
  have ly:∀x l,kW v=x::l→b[i]?=some x:=fun x l e=>by rw [Ib,e,←pB]; simp
  have hlen:∀x l,kW v=x::l→i<b.length:=fun x l e=>by rw [Ib,e]; simp; omega
  by_cases h:v<128
  ·have hp:=Ws h;have hx:=ly _ _ hp;have sL:=hlen _ _ hp;refine nS (ε.eq ?_);unfold BV;refine ε.ite (fun _=>?_) (fun hh=>absurd hh (by simp; omega));refine ε.ai (cF hx) ?_;rw [aej h,adO h];refine ε.bind (R:=(·=false)) (ε.bind (R:=(·=false)) (ε.ite (fun h9=>ε.ret ?_) (fun _=>ε.ret rfl)) fun _ h=>ε.ret h) fun c hc=>?_
   ·have h9:i=9:=by simp at h9; omega
    subst h9;refine decide_eq_false ?_
    have:v*2 ^ (7*9)<18446744073709551616:=by omega
    omega
   subst hc;refine ε.ite (fun h=>absurd h (by decide)) fun _=>ε.Ω (by unfold Θ; omega) (ε.Ω (by omega) ?_);refine ε.ite (fun hh=>absurd hh (by simp; omega)) fun _=>?_;refine ε.bind (R:=(·=false)) (ε.bind (R:=(·=false)) (ε.ite (fun h0=>ε.ret ?_) (fun _=>ε.ret rfl)) fun _ h=>ε.ret h) fun c hc=>?_
   ·have h0:v=0:=by simpa using h0
    rcases NN with hi | aO
    ·subst hi; rfl
    ·exact (aO h0).elim
   subst hc;dsimp only;rw [Wi Tp T4 (by omega),←US];refine ε.ite (fun h=>absurd h (by decide)) fun _=>ε.Ω ?_ (ε.Ω (by unfold Θ; omega) (ε.Ω (by omega) ?_))
   ·rcases ZS (u:Int) with e | e <;> rw [e] <;> decide
   ·rw [afM hu]
    have hd:b.drop ((i:Int)+1).toNat=rest:=by
     have:((i:Int)+1).toNat=pre.length+1:=by omega
     rw [this,Ib,hp,←List.drop_drop];simp
    rw [hd];exact ε.ret rfl
  ·have hp:=Wr h oH;have hx:=ly _ _ hp;have sL:=hlen _ _ hp;have kN:=high v
   have hi8:i≤8:=by
    rcases Nat.lt_or_ge i 9 with h' | h'
    ·omega
    ·have:i=9:=by omega
     subst this
     have:v*2 ^ (7*9)<18446744073709551616:=by omega
     omega
   cases k with
   | zero=>exact (h (by simpa using NQ)).elim
   | succ k =>
    have TP:v=v % 128+128*(v/128):=by omega
    have Uv:2 ^ (7*(i+1))=128*2 ^ (7*i):=by rw [Nat.mul_add,Nat.pow_add]; omega
    have hs:v>>>7=v/128:=by rw [GM]
    have acU:u=(acc+v % 128*2 ^ (7*i))+v/128*2 ^ (7*(i+1)):=by
     rw [US,Uv]
     have e:v*2 ^ (7*i)=v % 128*2 ^ (7*i)+v/128*(128*2 ^ (7*i)):=by
      rw [←Nat.mul_assoc,←Nat.add_mul,Nat.mul_comm (v/128) 128,←TP]
     omega
    have abp:acc+v % 128*2 ^ (7*i)<2 ^ (7*(i+1)):=by
     rw [Uv]
     have:v % 128≤127:=by omega
     have:=Nat.mul_le_mul_right (2 ^ (7*i)) this;omega
    have ih:=VY b rest u hu hb k (i+1) (v/128) (acc+v % 128*2 ^ (7*i)) (pre++[iY v ||| 128])
     (by rw [Ib,hp,hs]; simp) (by simp [pB]) abp acU (.inr (by omega))
     (by rw [K1] at NQ; exact (qI (by decide)).2 NQ) (by omega) (by omega)
    refine (sZ (ε.eq ?_)).trans ih;unfold BV;refine ε.ite (fun _=>?_) (fun hh=>absurd hh (by simp; omega));refine ε.ai (cF hx) ?_;refine ε.bind (R:=(·=false)) (ε.bind (R:=(·=false)) (ε.ite (fun h9=>by simp at h9; omega) (fun _=>ε.ret rfl)) fun _ h=>ε.ret h) fun c hc=>?_;subst hc;refine ε.ite (fun h=>absurd h (by decide)) fun _=>ε.Ω (by dsimp only; unfold Θ; omega) (ε.Ω (by dsimp only; omega) ?_);refine ε.ite (fun _=>?_) (fun hh=>(hh (decide_eq_true (by omega))).elim);refine ε.Ω (by dsimp only; unfold Θ; omega) ?_;dsimp only;rw [adN v,Wi Tp T4 (by omega)];exact ε.ret rfl
def ae4 {n:Int} (hn:Θ n) (rest:List UInt8) (hl:rest.length≤90000):Jp (kW (lH n)++rest)=some (n,rest,0):=by
 have hz:=rR hn;have hp:=rF hz;have:=VY (kW (lH n)++rest) rest (lH n) hz (by simp; omega) 9 0 (lH n) 0 [] rfl rfl (by simp) (by simp) (.inl rfl) (KY hz (by decide)) hz (by omega);rw [akk] at this;exact this
def BR {n:Int} (hn:Θ n) (rest:List UInt8) (hl:rest.length≤90000):s_ ⟨⟨kW (lH n)++rest⟩,0⟩=some (n,⟨⟨rest⟩,0⟩):=by
 refine ε.eq ?_;unfold s_;exact ε.ite (fun h=>absurd h (by simp)) fun _=>ε.ai (ae4 hn rest hl) (ε.ret rfl)
def afa (n:Nat) (rest:List UInt8) (hn:n≤rest.length) (hl:rest.length≤90000):Fi ⟨⟨kW (lH n)++rest⟩,0⟩=some ((n:Int),⟨⟨rest⟩,0⟩):=by
 refine ε.eq ?_;unfold Fi;exact ε.ai (BR (by unfold Θ; omega) rest hl) (ε.ite (fun h=>absurd h (by simp)) fun _=>ε.ite (fun h=>absurd h (by simp)) fun _=>ε.ite (fun h=>absurd h (by simp; omega)) fun _=>ε.ret rfl)
def OL (s rest:List UInt8) (hl:s.length+rest.length≤90000):zB ⟨⟨tC s++rest⟩,0⟩=some (s,⟨⟨rest⟩,0⟩):=by
 unfold tC;rw [l9];refine ε.eq ?_;unfold zB Js;refine ε.ai (afa s.length (s++rest) (by simp) (by simp; omega)) (ε.ite (fun h=>absurd h (by simp)) fun _=>ε.bind (R:=(·=(s,⟨⟨rest⟩,0⟩))) (ε.Ω (by simp; omega) (ε.Ω (by simp; omega) (ε.ret ?_))) fun _ h=>ε.ret h);simp
def Cs (s:List UInt8) (h:s.length≤1000000):(tC s).length≤s.length+10:=by
 unfold tC;have:=rF (rR (n:=(s.length:Int)) (by unfold Θ; omega));simp; omega
def afh:Fj ⟨⟨[]⟩,0⟩=some (0,⟨⟨[]⟩,0⟩):=by
 unfold Fj; rfl
def aee (n:Int) (l:List Int) (r:List UInt8):nU (n::l)++r=kW (lH n)++(nU l++r):=by unfold nU; simp
def aef (r:List UInt8):nU []++r=r:=rfl
def Jg (o:bN):List UInt8:=nU [o.τ,o.aV]++(tC o.cA++(tC o.To++(nU [o.N,o.M,o.cd]++tC o.aC)))
def afz {o:bN} (ho:OB o):BU o=some (Jg o):=by
 have h1:=ho.p; have h2:=ho.t; have h3:=ho.d;have l1:=Oy (l:=[o.τ,o.aV]) (by intro n hn; simp at hn; exact hn.elim (fun e=>e▸ho.k) fun e=>e▸ho.c);have l2:=Oy (l:=[o.N,o.M,o.cd]) (by intro n hn; simp at hn; exact hn.elim (fun e=>e▸ho.n) fun e=>e.elim (fun e=>e▸ho.m) fun e=>e▸ho.h);have s1:=Cs o.cA (by omega); have s2:=Cs o.To (by omega); have s3:=Cs o.aC (by omega);simp only [c8,ib] at l1 l2;refine ε.eq ?_;unfold BU;refine ε.ai (Wg _ (by simp) (by intro n hn; simp at hn; exact hn.elim (fun e=>e▸ho.k) fun e=>e▸ho.c)) (ε.ai (OF _ (by omega)) (ε.Ω (by omega) (ε.ai (OF _ (by omega)) (ε.Ω (by simp only [dq]; omega) ?_))));refine ε.ai (Wg _ (by simp) (by intro n hn; simp at hn; exact hn.elim (fun e=>e▸ho.n) fun e=>e.elim (fun e=>e▸ho.m) fun e=>e▸ho.h)) (ε.Ω (by simp only [dq]; omega) (ε.ai (OF _ (by omega)) (ε.Ω (by simp only [dq]; omega) (ε.ret ?_))));unfold Jg;simp only [l9]
def afD {o:bN} (ho:OB o):Fh (Jg o)=some (o,0):=by
 have h1:=ho.p; have h2:=ho.t; have h3:=ho.d;have s1:=Cs o.cA (by omega); have s2:=Cs o.To (by omega); have s3:=Cs o.aC (by omega);have k1:=rF (rR ho.k); have k2:=rF (rR ho.c); have k3:=rF (rR ho.n); have k4:=rF (rR ho.m); have k5:=rF (rR ho.h);refine ε.eq ?_;unfold Fh Jg;simp only [aee,aef];refine ε.ai (BR ho.k _ (by simp only [dq]; omega)) (ε.ai (BR ho.c _ (by simp only [dq]; omega)) ?_);refine ε.ai (OL _ _ (by simp only [dq]; omega)) (ε.ai (OL _ _ (by simp only [dq]; omega)) ?_);refine ε.ai (BR ho.n _ (by simp only [dq]; omega)) (ε.ai (BR ho.m _ (by simp only [dq]; omega)) (ε.ai (BR ho.h _ (by omega)) ?_));have:=OL o.aC [] (by simp; omega);rw [xk] at this;refine ε.ai this (ε.Ω (by dsimp only; omega) (ε.ai afh ?_));exact ε.cV (by simp) (ε.ret rfl)
def ahS (l:List (List UInt8)):List UInt8:=(l.map tC).flatten
def akz (a:dL):List UInt8:=nU [a.xz,a.ι,a.τ,a.N,a.M,(a.mq.length:Int)]++(ahS a.mq++tC a.aC)
end
section
def BE {B:Int→Option (Int⊕Bool)} (L:Nat) (h1:∀n:Nat,n<L→B (n:Int)=some (.inl ((n:Int)+1))) {r:Bool} (h2:B (L:Int)=some (.inr r)):loop B 0=some r:=by
 refine ε.eq ?_;refine ε.loop (fun s:Int=>∃n:Nat,s=(n:Int)∧n≤L) (fun s=>L-s.toNat) ?_ _ ⟨0,rfl,by omega⟩;rintro s ⟨n,rfl,hn⟩;by_cases Φ:n<L
 ·exact ⟨_,h1 n Φ,⟨n+1,by omega,Φ⟩,by omega⟩
 ·have:n=L:=by omega
  subst this;exact ⟨_,h2,rfl⟩
def Hc {a b:Bool}:(if a=true then some true else some b)=some (a||b):=by cases a <;> rfl
def af6 (a:dL) (h:a.mq.length≤1000000):B5 a a=some true:=by
 unfold B5;simp only [bne_self_eq_false,Hc,cD,CU,beq_self_eq_true,Aj,QJ,nk,if_false];unfold WQ;refine BE a.mq.length (fun n hn=>?_) ?_
 ·unfold Fu;have hx:=bT hn
  have hd:decide ((n:Int)<(a.mq.length:Int))=true:=by simpa using hn
  simp only [hd,if_true,cF hx,cD,beq_self_eq_true,Aj,nk,if_false];rw [ij (by unfold Θ; omega)]
 ·unfold Fu;simp [JF,Cat.out]
def af9 (n:ξ) (h:n.Ψ.length≤1000000):zJ n n=some true:=by
 obtain ⟨b,h1,h2⟩:=WK n n h;rw [h1,h2.2 rfl]
def agb {B:Nat} {t:ψ} (h:TF B t) (hB:B≤100000):B3 t t=some true:=by
 obtain ⟨b,h1,h2⟩:=aga (b:=t) h hB;rw [h1,h2.2 rfl]
section
variable {k:Nat} {f:c9}
def af' (h:FI k f) (hk:k≤60):Fv f.S f.S=some true:=by
 have h1:=h.s.si; have h2:=h.s.f.n; have h3:f.S.aS.length≤200000:=by have:=h.s.ps; omega
 have h4:=h.s.ta;unfold Fv;rw [agb h.s.f (by omega)];simp only [bne_self_eq_false,Hc,cD,CU,Aj,QJ,nk,if_false];unfold WR;refine BE f.S.aQ.length (fun n hn=>?_) ?_
 ·unfold Fw;have hx:=bT hn
  have hd:decide ((n:Int)<(f.S.aQ.length:Int))=true:=by simpa using hn
  simp only [hd,if_true,cF hx,cD,bne_self_eq_false,nk,if_false];rw [ij (by unfold Θ; omega)]
 ·unfold Fw JG WS;rw [if_neg (by simp)]
  have:loop (B6 f.S f.S) 0=some true:=by
   refine BE f.S.aS.length (fun n hn=>?_) ?_
   ·unfold B6;have hx:=bT hn
    have hd:decide ((n:Int)<(f.S.aS.length:Int))=true:=by simpa using hn
    have hp:=(h.k.p _ (eG hn)).l;generalize f.S.aS[n]=y at hx hp;have hy:=af9 y.fg (by omega);refine ε.eq (ε.cond hd (ε.ai (cF hx) (ε.ai (cF hx) ?_)));refine ε.bind (R:=(·=false)) (ε.bind (R:=(·=false)) (ε.cV (by simp) (ε.ret (by simp))) fun c hc=>ε.bind (R:=(·=false)) (by subst hc; exact ε.cV (by simp) (ε.ai hy (ε.ret rfl))) fun c hc=>ε.ret hc) fun v hv=>?_;subst hv;exact ε.cV (by simp) (ε.Ω (by unfold Θ; omega) (ε.ret rfl))
   ·unfold B6 JH WT;rw [if_neg (by simp)]
    have:loop (B7 f.S f.S) 0=some true:=by
     refine BE f.S.aW.length (fun n hn=>?_) ?_
     ·unfold B7;have hx:=bT hn
      have hd:decide ((n:Int)<(f.S.aW.length:Int))=true:=by simpa using hn
      simp only [hd,if_true,cF hx,cD,beq_self_eq_true,QG,Aj,nk,if_false];rw [ij (by unfold Θ; omega)]
     ·unfold B7;simp [JI,Cat.out]
    rw [this]; rfl
  rw [this]; rfl
def af8 (h:FI k f) (hk:k≤60):B4 f f=some true:=by
 have h1:=h.hl; have h2:=h.ql;unfold B4;rw [af' h hk];simp only [bne_self_eq_false,Hc,cD,Aj,QJ,nk,if_false];unfold WU;refine BE f.Holds.length (fun n hn=>?_) ?_
 ·unfold Fx;have hx:=bT hn
  have hd:decide ((n:Int)<(f.Holds.length:Int))=true:=by simpa using hn
  simp only [hd,if_true,cF hx,cD,beq_self_eq_true,QG,Aj,nk,if_false];rw [ij (by unfold Θ; omega)]
 ·unfold Fx JJ WV;rw [if_neg (by simp)]
  have:loop (B8 f f) 0=some true:=by
   refine BE f.bc.length (fun n hn=>?_) ?_
   ·unfold B8;have hx:=bT hn
    have hd:decide ((n:Int)<(f.bc.length:Int))=true:=by simpa using hn
    simp only [hd,if_true,cF hx,cD,beq_self_eq_true,QG,Aj,nk,if_false];rw [ij (by unfold Θ; omega)]
   ·unfold B8;simp [JK,Cat.out]
  rw [this]; rfl
end
def qT:c9:=⟨Ch,[],[]⟩
def OC:yf=some qT:=by
 unfold yf Kt JW;simp [Ω,qT,Ch,P7]
def Av:FI 0 qT:=by
 refine ⟨RB,Rz,⟨fun n hn=>?_,fun p hp=>(by cases hp),fun x hx=>(by cases hx)⟩,jY,by simp [qT],jY,by simp [qT]⟩;exact Rz.nb RB.f (by omega) hn
def Rx (o:bN):Prop:=Θ o.N∧Θ o.M∧Θ o.τ∧Θ o.aV∧Θ o.cd
def aeZ (o:bN):ET o=some (decide ((o.aC.length:Int)>5000)||decide ((o.cA.length:Int)>1000)||decide ((o.To.length:Int)>1000)):=by
 unfold ET;simp only [Hc,cD]
def aeC (l:List bN) (hi:∀o,o∈l→Rx o):ε (ES l) (fun r=>r=false→l.length≤50∧∀o,o∈l→OB o):=by
 unfold ES;refine ε.ite (fun _=>ε.ret fun h=>(by cases h)) fun H8=>?_
 have H8:l.length≤50:=by rw [decide_eq_true_eq] at H8; omega
 unfold Vl;refine ε.loop (fun s:Int=>∃n:Nat,s=(n:Int)∧n≤l.length∧∀o,o∈l.take n→OB o) (fun s=>l.length-s.toNat) ?_ _ ⟨0,rfl,by omega,fun o ho=>by simp at ho⟩;rintro s ⟨n,rfl,hn,hP⟩;unfold IW;by_cases Φ:n<l.length
 ·have hx:=bT Φ
  have gB:l.take (n+1)=l.take n++[l[n]]:=by rw [qH,hx]; rfl
  refine ε.cond (by simpa using Φ) (ε.ai (cF hx) (ε.ai (aeZ _) (ε.ite (fun _=>ε.out (ε.ret fun h=>(by cases h))) fun hL=>ε.Ω (by unfold Θ; omega) (ε.inl ⟨⟨n+1,by omega,Φ,fun o ho=>?_⟩,by omega⟩))));rw [gB] at ho
  rcases gg.1 ho with ho | ho
  ·exact hP o ho
  ·obtain rfl:=dD.1 ho;obtain ⟨i1,i2,i3,i4,i5⟩:=hi _ (eG Φ);simp only [tT,decide_eq_true_eq,not_or] at hL;exact ⟨by omega,by omega,by omega,i1,i2,i3,i4,i5⟩
 ·have:n=l.length:=by omega
  subst this;rw [jE] at hP;exact ε.cV (by simp) (ε.out (ε.ret fun _=>⟨H8,hP⟩))
end
section
def Sk (l:List ξ):∀(f:Nat) (i:Int),ou l [] f i=0
 | 0,_=>rfl
 | f+1,i=>by
  unfold ou;rw [if_neg (by simp [p8])];split
  ·rfl
  ·exact Sk l f _
def aeo {B:Nat} {t:ψ} (h:RT t) (hf:TF B t) (hB:B≤4000):E9 t []=true:=by
 refine (Wh h hf hB jY (by simp)).2.2 fun j x y hx hy _=>?_
 have z:∀{j x:Int},(j,x)∈AN t []→x=0:=fun {j x} h=>by
  obtain ⟨d,_,hd⟩:=KV.1 h;obtain ⟨e,_,he⟩:=dg.1 hd;rw [←(Prod.mk.inj he).2];exact Sk _ _ _
 rw [z hx,z hy]
def P4 {B:Nat} {t:ψ} (h:RF B t) (hB:B≤4000) {α:Type} (x:α):kp t [] [] x=.inr (lG t [],[],x):=by
 have h2:=h.settle [];unfold kp wR;rw [show sW (lG t []) []=[] from rfl,aeo h2.r h2.f hB];rfl
def Ki {t:ψ} {p:List UInt8} {ns:List (List UInt8)} {s:List UInt8} {i:Int} (hp:rA (ns++[s])=p) (hn:∀x,x∈ns++[s]→fY x=true) (hl:(ns++[s]).length≤12) (hw:tH t 1 ns=(i,0)):tz t p=.inr (i,s):=by
 have e:=P1 hn hl;rw [hp] at e
 have e2:oL p=(s,rA ns,0):=by
  unfold oL;rw [e];simp
 have e3:=P1 (l:=ns) (fun x hx=>hn x (by simp [hx])) (by simp at hl; omega)
 have e4:qu t (rA ns)=(i,0):=by
  unfold qu;rw [e3];simp [hw]
 unfold tz;rw [e2];simp only;rw [e4];rfl
def Yy {t:ψ} {p:List UInt8} {ns:List (List UInt8)} {r:Int×Int} (hp:rA ns=p) (hn:∀x,x∈ns→fY x=true) (hl:ns.length≤12) (hw:tH t 1 ns=r):qu t p=r:=by
 have e:=P1 hn hl;rw [hp] at e;unfold qu;rw [e];simp [hw]
def qe:ψ:=⟨[⟨1,2,0,[],[⟨[97],2,1⟩],1⟩,⟨2,2,1,[],[],1⟩],3,2⟩
def pC:ψ:=⟨[⟨1,2,0,[],[⟨[97],2,1⟩],1⟩,⟨2,2,1,[],[⟨[98],3,2⟩],1⟩,⟨3,1,1,[],[],0⟩],4,3⟩
def lD:ψ:=⟨[⟨1,2,0,[],[⟨[99],2,3⟩],1⟩,⟨2,2,1,[],[⟨[98],3,2⟩],1⟩,⟨3,1,1,[],[],0⟩],4,4⟩
abbrev Um:bN:=⟨2,0,[47,97],[],2,0,0,[]⟩
abbrev Un:bN:=⟨2,0,[47,97,47,98],[],1,0,0,[]⟩
abbrev Iw:bN:=⟨5,0,[47,97],[47,99],0,0,0,[]⟩
abbrev Ni:bN:=⟨6,0,[47,99],[],0,9,0,[]⟩
abbrev Uo:bN:=⟨1,0,[47,97,47,98],[],0,0,0,[]⟩
abbrev ho6:bN:=⟨1,0,[47,99],[],0,0,0,[]⟩
def Ax {k n m:Int} {p q:List UInt8} (hk:Θ k) (hn:Θ n) (hm:Θ m) (hp:p.length≤1000) (hq:q.length≤1000):OB ⟨k,0,p,q,n,m,0,[]⟩:=⟨hp,hq,by simp,hn,hm,hk,cj,cj⟩
def afm:Ge=some true:=by
 have b1:OB Um:=Ax (by unfold Θ; omega) (by unfold Θ; omega) cj (by simp) (by simp);have b2:OB Un:=Ax (by unfold Θ; omega) (by unfold Θ; omega) cj (by simp) (by simp);have b3:OB Iw:=Ax (by unfold Θ; omega) cj cj (by simp) (by simp);have b4:OB Ni:=Ax (by unfold Θ; omega) cj (by unfold Θ; omega) (by simp) (by simp);have b5:OB Uo:=Ax (by unfold Θ; omega) cj cj (by simp) (by simp);have b6:OB ho6:=Ax (by unfold Θ; omega) cj cj (by simp) (by simp)
 have d1:gy qT Um=(⟨dP Ch qe,[],[]⟩,⟨0,2,2,0,0,[],[]⟩):=by
  rw [iN (by decide) (by decide),Gm _ _ _ rfl];unfold BH;rw [Ki (ns:=[]) (s:=[97]) (i:=1) (by kernel_rfl) (by decide) (by decide) (by kernel_rfl)]
  have ha:mw qT.S.Γ 1 [97] 2=(qe,2,0):=by kernel_rfl
  have h1:RF (2+5*0+5) (mw qT.S.Γ 1 [97] 2).1:=⟨Av.r.add _ _ _,Av.s.f.G7 (by omega) _ _ _⟩;simp only [bS];rw [ha] at h1 ⊢
  have hs:kp qe [] [] (2:Int)=.inr (qe,[],2):=by rw [P4 (t:=qe) h1 (by omega),show lG qe []=qe by kernel_rfl]
  show iq qT (cu (fun z:ψ×List aA×Int=>((some z.1,[],z.2.1,⟨0,z.2.2,2,0,0,[],[]⟩):rZ)) (kp qe [] [] 2))=_;rw [hs];rfl
 have f1:=(AK Av (by omega) b1).1;rw [d1] at f1;have n1:(⟨dP Ch qe,[],[]⟩:c9).S.Γ=qe:=BY _ _;generalize Δ:(⟨dP Ch qe,[],[]⟩:c9)=g1 at *
 have q1:g1.Holds=[]∧g1.bc=[]:=by rw [←Δ]; exact ⟨rfl,rfl⟩
 have d2:gy g1 Un=(⟨dP g1.S pC,[],[]⟩,⟨0,3,1,0,0,[],[]⟩):=by
  rw [iN (by decide) (by decide),Gm _ _ _ rfl,n1,q1.1,q1.2];unfold BH;rw [Ki (ns:=[[97]]) (s:=[98]) (i:=2) (by kernel_rfl) (by decide) (by decide) (by kernel_rfl)]
  have ha:mw qe 2 [98] 1=(pC,3,0):=by kernel_rfl
  have h1:RF (2+5*(0+1)+5) (mw g1.S.Γ 2 [98] 1).1:=⟨f1.r.add _ _ _,f1.s.f.G7 (by omega) _ _ _⟩;simp only [bS];rw [n1] at h1;rw [ha] at h1 ⊢
  have hs:kp pC [] [] (3:Int)=.inr (pC,[],3):=by rw [P4 (t:=pC) h1 (by omega),show lG pC []=pC by kernel_rfl]
  show iq g1 (cu (fun z:ψ×List aA×Int=>((some z.1,[],z.2.1,⟨0,z.2.2,1,0,0,[],[]⟩):rZ)) (kp pC [] [] 3))=_;rw [hs];rfl
 have f2:=(AK f1 (by omega) b2).1;rw [d2] at f2;have n2:(⟨dP g1.S pC,[],[]⟩:c9).S.Γ=pC:=BY _ _;generalize aI:(⟨dP g1.S pC,[],[]⟩:c9)=g2 at *
 have q2:g2.Holds=[]∧g2.bc=[]:=by rw [←aI]; exact ⟨rfl,rfl⟩
 have d3:gy g2 Iw=(⟨dP g2.S lD,[],[]⟩,⟨0,2,0,0,0,[],[]⟩):=by
  rw [iN (by decide) (by decide),KB _ _ _ rfl,n2,q2.1,q2.2];unfold E1;rw [Ki (ns:=[]) (s:=[97]) (i:=1) (p:=Iw.cA) (by kernel_rfl) (by decide) (by decide) (by kernel_rfl),Ki (ns:=[]) (s:=[99]) (i:=1) (p:=Iw.To) (by kernel_rfl) (by decide) (by decide) (by kernel_rfl)]
  have ha:qj pC 1 [97] 1 [99]=(lD,0,0):=by kernel_rfl
  have hl:eQ pC 1 [97]=(2,0):=by kernel_rfl
  have h1:RF (2+5*(0+1+1)+5) (qj g2.S.Γ 1 [97] 1 [99]).1:=⟨f2.r.mv _ _ _ _,f2.s.f.Oo (by omega) _ _ _ _⟩;simp only [bS];rw [n2] at h1;rw [ha] at h1 ⊢;rw [hl]
  have hs:kp lD [] [] (2:Int)=.inr (lD,[],2):=by rw [P4 (t:=lD) h1 (by omega),show lG lD []=lD by kernel_rfl]
  show iq g2 (cu (fun z:ψ×List aA×Int=>((some z.1,[],z.2.1,⟨0,z.2.2,0,0,0,[],[]⟩):rZ)) (kp lD [] [] 2))=_;rw [hs];rfl
 have f3:=(AK f2 (by omega) b3).1;rw [d3] at f3;have n3:(⟨dP g2.S lD,[],[]⟩:c9).S.Γ=lD:=BY _ _;generalize aX:(⟨dP g2.S lD,[],[]⟩:c9)=g3 at *
 have d4:(gy g3 Ni).2=⟨0,0,0,0,0,[[98]],[]⟩:=by
  rw [iN (by decide) (by decide),KC _ _ _ rfl,n3];unfold EV
  have hw:jT lD Ni.cA=.inr ⟨2,2,1,[],[⟨[98],3,2⟩],1⟩:=by
   unfold jT;rw [Yy (ns:=[[99]]) (r:=(2,0)) (by kernel_rfl) (by decide) (by decide) (by kernel_rfl)];kernel_rfl
  rw [hw];have hr:=f3.r;have hf:=f3.s.f;rw [n3] at hr hf;have hL:=(Jo hr hf (by omega) 2 0 9).2;unfold Aw at hL;rw [if_neg (by decide),if_neg (by rw [show dz lD.η 2=(⟨2,2,1,[],[⟨[98],3,2⟩],1⟩,0) by kernel_rfl]; decide)] at hL;obtain ⟨L,l1,l2,l3⟩:=hL;rw [show dz lD.η 2=(⟨2,2,1,[],[⟨[98],3,2⟩],1⟩,0) by kernel_rfl] at l1;have l4:L=[⟨[98],3,2⟩]:=List.perm_singleton.1 l1;subst l4;rw [if_pos (by decide)] at l3;simp only [bS];rw [l3];rfl
 have d5:(gy g3 Uo).2=p5 70:=by
  rw [iN (by decide) (by decide),KA _ _ _ rfl,n3];unfold jT;rw [Yy (ns:=[[97],[98]]) (r:=(0,70)) (by kernel_rfl) (by decide) (by decide) (by kernel_rfl)];rfl
 refine ε.eq ?_;unfold Ge;refine ε.ai OC (ε.ai (wK Av (by omega) b1) ?_);rw [d1];refine ε.ai (wK f1 (by omega) b2) ?_;rw [d2];refine ε.ai (wK f2 (by omega) b3) ?_;rw [d3];refine ε.ai (wK f3 (by omega) b4) (ε.ai (wK f3 (by omega) b5) (ε.ai (afz b6) (ε.ai (afD b6) ?_)));rw [d4,d5];exact ⟨_,rfl,rfl⟩
end
section
abbrev Lh:=List ξ×Int×Int×Int×List Int×List bp×List bd×Int×List az×List aA
def SP (f:c9):Lh:=(f.S.Γ.η,f.S.Γ.Next,f.S.Γ.aj,f.S.aT,f.S.aQ,f.S.aS,f.S.aW,f.S.Next,f.Holds,f.bc)
def Ma (f g:c9):List ξ×Int×Int×Int×List Int×List bp×List bd×Int×List az×List aA×Lh:=(f.S.Γ.η,f.S.Γ.Next,f.S.Γ.aj,f.S.aT,f.S.aQ,f.S.aS,f.S.aW,f.S.Next,f.Holds,f.bc,SP g)
def aeq {l:List bN} (h:Jf l):∀o,o∈l→Rx o:=fun o ho=>by
 obtain ⟨h1,h2,h3,h4,h5,h6,h7,h8⟩:=h.2 o ho;exact ⟨h5,h6,h1,h2,h7⟩
end
section
structure UV (f g:c9):Prop where
 n:g.S.Γ=f.S.Γ
 t:g.S.aT=f.S.aT
 s:g.S.aQ=f.S.aQ
 h:g.Holds=f.Holds
 q:g.bc=f.bc
structure G2 (f:c9):Prop where
 t:f.S.aW=[]
 p:f.S.aS=[]
def ag5 {s s':bq} (h1:s'.Γ=s.Γ) (h2:s'.aT=s.aT) (h3:s'.aQ=s.aQ):qq s'=qq s:=by
 funext n; unfold qq; rw [h1,h2,h3]
def af3 {s s':bq} (h1:s'.Γ=s.Γ) (h2:s'.aT=s.aT) (h3:s'.aQ=s.aQ) (t:ψ):(dP s' t).aT=(dP s t).aT∧(dP s' t).aQ=(dP s t).aQ:=by
 unfold dP;rw [h1];split
 ·exact ⟨h2,h3⟩
 ·exact ⟨by dsimp only; rw [h2],by dsimp only; rw [ag5 h1 h2 h3]⟩
def af2 {s:bq} (h1:s.aW=[]) (h2:s.aS=[]) (t:ψ):(dP s t).aW=[]∧(dP s t).aS=[]:=by
 unfold dP;split
 ·exact ⟨h1,h2⟩
 ·refine ⟨h1,?_⟩;dsimp only;rw [h2,List.nil_append];unfold BW;rw [List.filter_eq_nil_iff.2 (fun p _=>by unfold te; rw [h1]; simp [qp]),List.map_nil]
section
variable {f g:c9} {o:bN}
def ah' (h:UV f g) (v:Int⊕rZ):UV (iq f v).1 (iq g v).1∧(iq g v).2=(iq f v).2:=by
 cases v with
 | inl e=>exact ⟨h,rfl⟩
 | inr z =>
  refine ⟨?_,rfl⟩;obtain ⟨z1,z2,z3,z4⟩:=z;cases z1 with
  | none=>exact ⟨h.n,h.t,h.s,rfl,rfl⟩
  | some t =>
   obtain ⟨p1,p2⟩:=af3 h.n h.t h.s t;exact ⟨by show (dP g.S t).Γ=(dP f.S t).Γ; rw [BY,BY],p1,p2,rfl,rfl⟩
def ah9 (h:UV f g) (hk:o.τ≠14∧o.τ≠15∧o.τ≠16):UV (gy f o).1 (gy g o).1∧(gy g o).2=(gy f o).2:=by
 by_cases hc:0≤o.aV∧o.aV<16
 ·rw [iN hc hk,iN hc hk,h.n,h.h,h.q];exact ah' h _
 ·rw [AJ hc,AJ hc]; exact ⟨h,rfl⟩
def aed (h:G2 f) (hk:o.τ≠14∧o.τ≠15∧o.τ≠16):G2 (gy f o).1:=by
 by_cases hc:0≤o.aV∧o.aV<16
 ·rw [iN hc hk];cases dy f.S.Γ f.Holds f.bc o with
  | inl e=>exact h
  | inr z =>
   obtain ⟨z1,z2,z3,z4⟩:=z;cases z1 with
   | none=>exact ⟨h.t,h.p⟩
   | some t=>obtain ⟨p1,p2⟩:=af2 h.t h.p t; exact ⟨p1,p2⟩
 ·rw [AJ hc]; exact h
def aia (h:UV f g) (hk:o.τ=14):UV f (gy g o).1:=by
 by_cases hc:0≤o.aV∧o.aV<16
 ·rw [LQ hc hk];unfold uU;cases jT g.S.Γ o.cA with
  | inl e=>exact h
  | inr n =>
   show UV f (uh g (mS (kq g.S n.ι).2.2 (.inr ((kq g.S n.ι).1,(kq g.S n.ι).2.1))) fun i=>⟨0,0,0,i,0,[],[]⟩).1;unfold mS;split
   ·exact h
   ·show UV f ⟨(kq g.S n.ι).1,g.Holds,g.bc⟩;unfold kq
    repeat' split
    iterate 4 exact ⟨h.n,h.t,h.s,h.h,h.q⟩
 ·rw [AJ hc]; exact h
def ah_ (h:UV f g) (hn:G2 f):(⟨⟨g.S.Γ,g.S.aT,g.S.aQ,[],[],f.S.Next⟩,g.Holds,g.bc⟩:c9)=f:=by
 obtain ⟨⟨a1,a2,a3,a4,a5,a6⟩,a7,a8⟩:=f;obtain ⟨h1,h2,h3,h4,h5⟩:=h;obtain ⟨n1,n2⟩:=hn;dsimp only at h1 h2 h3 h4 h5 n1 n2;rw [h1,h2,h3,h4,h5,n1,n2]
end
end
section
def Rv {p:List UInt8} (h:p.length≤1000):OB ⟨14,0,p,[],0,0,0,[]⟩:=⟨h,by simp,by simp,cj,cj,by unfold Θ; dsimp only; omega,cj,cj⟩
def adz (l:List bN) (at_:UInt8) (path:List UInt8) (h1:Jf l) (h2:E8 at_) (h3:E7 path):Gd l at_ path=some true:=by
 have hi:=aeq h1;refine ε.eq ?_;unfold Gd;refine ε.ai afm ?_;refine ε.bind (R:=fun b=>b=false→(l.length≤50∧∀o,o∈l→OB o)∧path.length≤1000) (ε.bind (aeC l hi) fun r hr=>ε.bind (R:=fun b=>b=false→r=false∧path.length≤1000) (ε.ite (fun e=>ε.ret fun h=>(by cases h)) fun e=>ε.ret fun h=>⟨gK.2 e,by simp at h; omega⟩) fun c hc=>ε.ret fun h=>⟨hr (hc h).1,(hc h).2⟩) fun v hv=>ε.ite (fun _=>ε.ret rfl) fun h0=>?_;obtain ⟨⟨H8,hO⟩,hp⟩:=hv (gK.2 h0);refine ε.ai OC (ε.ai OC ?_);unfold XP;refine ε.loop (fun s:Int×List ξ×Int×Int×Int×List Int×List bp×List bd×Int×List az×List aA×Lh=>∃(n:Nat) (f g:c9),n≤l.length∧FI n f∧FI (n+(if (n:Int)≤Int.tmod (at_.toNat:Int) (l.length:Int) then 0 else 1)) g∧UV f g∧G2 f∧s=((n:Int),Ma f g)) (fun s=>l.length-s.1.toNat) ?_ _ ⟨0,qT,qT,by omega,Av,Av.up (by omega),⟨rfl,rfl,rfl,rfl,rfl⟩,⟨rfl,rfl⟩,rfl⟩;rintro s ⟨n,f,g,hn,hF,hG,hU,hN,rfl⟩;unfold Kq;by_cases Φ:n<l.length
 ·have hx:=bT Φ;have ho:=hO _ (eG Φ);generalize l[n]=o at hx ho;refine ε.cond (by simpa using Φ) ?_;generalize hK:Int.tmod (at_.toNat:Int) (l.length:Int)=K at hG;refine ε.bind (R:=fun v=>∃g':c9,v=SP g'∧FI (n+(if (n:Int)+1≤K then 0 else 1)) g'∧UV f g') (ε.Ω (by omega) (ε.ite (fun e=>?_) fun e=>?_)) fun v hv=>?_
  ·have e:(n:Int)=K:=by simpa using e
   rw [if_pos (by omega)] at hG;refine ε.ai (x:=nB g _) (wK hG (by omega) (Rv hp)) (ε.ret ⟨(gy g ⟨14,0,path,[],0,0,0,[]⟩).1,rfl,?_,aia hU rfl⟩);rw [if_neg (by omega)];exact (AK hG (by omega) (Rv hp)).1
  ·have e:(n:Int)≠K:=fun h=>e (by simpa using h);refine ε.ret ⟨g,rfl,?_,hU⟩;by_cases e2:(n:Int)≤K
   ·rw [if_pos e2] at hG; rw [if_pos (by omega)]; exact hG
   ·rw [if_neg e2] at hG; rw [if_neg (by omega)]; exact hG
  obtain ⟨g',rfl,D7,Tm⟩:=hv
  have hk:n+(if (n:Int)+1≤K then 0 else 1)≤51:=by split <;> omega
  refine ε.bind (R:=fun b=>b=true↔o.τ=14∨o.τ=15∨o.τ=16) (ε.ai (cF hx) (ε.bind (R:=fun b=>b=true↔o.τ=14∨o.τ=15) (ε.ite (fun e=>ε.ret (by simp at e; simp [e])) fun e=>ε.ai (cF hx) (ε.ret (by simp at e; simp [e]))) fun c hc=>ε.bind (R:=fun b=>b=true↔o.τ=14∨o.τ=15∨o.τ=16) (ε.ite (fun e=>ε.ret (by have:=hc.1 e; simp; omega)) fun e=>ε.ai (cF hx) (ε.ret (by have:¬(o.τ=14∨o.τ=15):=fun h=>e (hc.2 h); simp; omega))) fun c hc=>ε.ret hc)) fun b hb=>?_;refine ε.ite (fun e=>?_) fun e=>?_
  ·unfold Cv;refine ε.Ω (by unfold Θ; dsimp only [Ma]; omega) (ε.inl ⟨⟨n+1,f,g',Φ,hF.up (by omega),?_,Tm,hN,rfl⟩,by dsimp only; omega⟩);refine D7.up ?_;split <;> split <;> omega
  ·have lA:o.τ≠14∧o.τ≠15∧o.τ≠16:=by
    have:¬(o.τ=14∨o.τ=15∨o.τ=16):=fun h=>e (hb.2 h);omega
   obtain ⟨u1,u2⟩:=ah9 Tm lA;obtain ⟨d1,d2⟩:=AK hF (by omega) ho;obtain ⟨q1,q2⟩:=AK D7 (by omega) ho;refine ε.ai (cF hx) (ε.ai (x:=nB f o) (wK hF (by omega) ho) (ε.ai (cF hx) (ε.ai (x:=nB g' o) (wK D7 (by omega) ho) ?_)));have hs:=af6 (gy f o).2 (by have:=d2.nl; omega);refine ε.ai (x:=B5 (gy f o).2 (gy g' o).2) (by rw [u2]; exact hs) (ε.cV (by simp) ?_);unfold Cv;refine ε.Ω (by unfold Θ; dsimp only [Ma]; omega) (ε.inl ⟨⟨n+1,(gy f o).1,(gy g' o).1,Φ,d1,?_,u1,aed hN lA,rfl⟩,by dsimp only; omega⟩);refine q1.up ?_;split <;> split <;> omega
 ·have:n=l.length:=by omega
  subst this;refine ε.cV (by simp) (ε.out ?_);unfold Kr;have h2:=af8 hF (by omega);have h3:=ah_ hU hN;refine ε.bind (R:=(·=true)) (ε.bind (R:=(·=true)) (ε.cond rfl (ε.ai (x:=B4 f ⟨⟨g.S.Γ,g.S.aT,g.S.aQ,[],[],f.S.Next⟩,g.Holds,g.bc⟩) (by rw [h3]; exact h2) (ε.ret rfl))) fun c hc=>ε.ret hc) fun v hv=>ε.ret hv
end
end Go.Proofs
