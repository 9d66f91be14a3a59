/- The plain law, piece 1. No condition. -/
import Derived.Test.YtdcgbodbejgliaaGreatDoorXTopClientsPl0
import Derived.Laws.Bits64
import Derived.KernelRfl
import Derived.Test.YtdcgbodbejgliaaGreatDoorXTopClientsIn
open BitVec renaming ofInt → eH, toNat_xor → Y', xor_allOnes → Za, toNat_not → Y_
open Bool renaming and_eq_true → bE, eq_false_iff → ia, false_eq_true → ni, or_eq_true → ug, eq_iff_iff → qL, not_true → Ax, false_or → C8, or_false → QU, and_true → QR
open Decidable renaming byContradiction → Zc, of_not_not → Zd
open Go.IntKind renaming wrap_u64 → Zn
open Go.IntWalk renaming i64_in → qO
open Int renaming toNat_natCast → gP
open List renaming length_map → az, getElem?_eq_getElem → bU, mem_cons_of_mem → cu, mem_cons → bf, length_cons → cZ, length_append → dj, getElem?_eq_some_iff → fh, mem_singleton → dC, pairwise_cons → eD, length_take → dR, mem_filter → ek, mem_map → c9, getElem_mem → eI, map_append → fu, mem_append → gl, length_nil → ig, mem_of_find?_eq_some → nj, take_length → jK, length_filter_le → l_, pairwise_iff_getElem → vG, length_drop → l9, append_assoc → lN, mem_append_left → qR, take_add_one → qT, any_eq_false → pY, foldl_cons → pZ, append_nil → xq, find?_eq_none → sw, take_append_drop → vI, mem_append_right → vE, pairwise_append → vF, mem_of_mem_take → G6, mem_flatMap → Ld, any_eq_true → Dc, of_mem_zip → Lf, foldl_append → G4, eraseP_sublist → Rj, pairwise_map → ZD, eraseP_of_forall_not → Zs, length_eraseP_le → Zz, mem_of_mem_drop → ZC, flatMap_append → Zu
open List.Pairwise renaming nil → jr, sublist → Zp
open List.Perm renaming of_eq → Zq
open Nat renaming lt_of_le_of_lt → gx, le_trans → fi, zero_le → lP, div_lt_iff_lt_mul → qU, shiftRight_eq_div_pow → G8, pow_succ → Lj, lt_trans → Lg, shiftRight_le → ZG
open Option renaming bind_some → cD, isSome_iff_exists → nk, getD_some → AF, map_some → G9, map_none → ZK
open UInt8 renaming ofNat → iX, toNat_inj → Rv
namespace Go.Proofs
set_option linter.all false
open Go Go.Cat
section
def uq (a b:ay):Prop:=a.aL<b.aL∨a.aL=b.aL∧a.bq<b.bq
def mr (l:List ay):Prop:=l.Pairwise uq
def Dz {x y:Int}:gS x y=0↔x=y:=by have h:=@yd x y;rw [beq_iff_eq] at h;exact h
def HB {c h:Int} {x:ay}:cH c h x<0↔(x.aL<c∨x.aL=c∧x.bq<h):=by
 unfold cH;by_cases e:gS x.aL c≠0
 ·rw [if_pos e,jx];have:=fun e'=>e (Dz.2 e');constructor
  ·exact .inl
  ·rintro (h|⟨h,-⟩)
   ·exact h
   ·exact absurd h this
 ·rw [if_neg e,jx];have:x.aL=c:=Dz.1 (Zd e);constructor
  ·exact fun h=>.inr ⟨this,h⟩
  ·rintro (h|⟨-,h⟩)
   ·omega
   ·exact h
def R_ {c h:Int} {x:ay}:(cH c h x==0)=ez c h x:=by
 rw [qL,beq_iff_eq];unfold cH ez;rw [bE,beq_iff_eq,beq_iff_eq];by_cases e:gS x.aL c≠0
 ·rw [if_pos e];exact ⟨fun h=>absurd h e,fun h=>absurd (Dz.2 h.1) e⟩
 ·rw [if_neg e,Dz];have:x.aL=c:=Dz.1 (Zd e);exact ⟨fun h=>⟨this,h⟩,fun h=>h.2⟩
def VS {l:List ay} (hl:mr l) (c h:Int):Mon (cH c h) l:=fun j k x y py hx hy hc=>by
 obtain ⟨h1,rfl⟩:=fh.1 hx;obtain ⟨h2,rfl⟩:=fh.1 hy;have:=vG.1 hl j k h1 h2 py;rw [HB] at *;unfold uq at this;omega
def aae {l:List ay} (hl:mr l) (c h:Int):fI (cH c h) l=l.any (ez c h):=by
 induction l with
 |nil=>rfl
 |cons x l ih =>
  have h2:=(eD.1 hl).2;have h1:=(eD.1 hl).1;rw [List.any_cons];by_cases hx:cH c h x<0
  ·rw [xV hx,ih h2,←R_,beq_eq_false_iff_ne.2 (by omega:cH c h x≠0),C8]
  ·rw [xW hx,R_];cases hk:ez c h x with
   |true=>rfl
   |false =>
    rw [C8];symm;rw [pY];intro y hy;have Φ:=h1 y hy;rw [HB] at hx;unfold uq at Φ;unfold ez;simp only [bE,beq_iff_eq];omega
def WJ {α:Type} {R:α→α→Prop} {l:List α} (h:l.Pairwise R) {x:α} {k:Nat} (h1:∀y,y∈l.take k→R y x) (h2:∀y,y∈l.drop k→R x y):(dy l (k:Int) [x]).Pairwise R:=by
 unfold dy;rw [gP,lN]
 have hs:(l.take k++l.drop k).Pairwise R:=by rw [vI];exact h
 obtain ⟨a1,a2,a3⟩:=vF.1 hs;refine vF.2 ⟨a1,?_,fun a ha b hb=>?_⟩
 ·exact eD.2 ⟨h2,a2⟩
 ·rcases bf.1 hb with rfl|hb
  ·exact h1 a ha
  ·exact a3 a ha b hb
def XW {α:Type} {c:α→Int} {l:List α} {y:α} (hy:y∈l.take (cX c l)):c y<0:=by
 obtain ⟨j,hj⟩:=tz hy;rw [List.getElem?_take] at hj;split at hj
 ·exact R7 ‹_› hj
 ·cases hj
def Sz {α:Type} {c:α→Int} {l:List α} (hm:Mon c l) {y:α} (hy:y∈l.drop (cX c l)):¬c y<0:=by
 obtain ⟨j,hj⟩:=tz hy;rw [List.getElem?_drop] at hj;intro hc
 rcases Nat.eq_zero_or_pos j with rfl|hp
 ·exact LV hj hc
 ·have Φ:=(fh.1 hj).1;have hx:=bU (l:=l) (i:=cX c l) (by omega);exact LV hx (hm _ _ _ y (by omega) hx hj hc)
def Oj {l:List ay} (hl:mr l) {c h:Int} (bp:l.any (ez c h)=false) (i:Int):mr (dy l (cX (cH c h) l:Int) [⟨c,h,i⟩]):=by
 refine WJ hl (fun y hy=>?_) fun y hy=>?_
 ·have:=XW hy;rw [HB] at this;unfold uq;dsimp only;omega
 ·have h1:=Sz (VS hl c h) hy;rw [HB] at h1;have h2:=pY.1 bp y (ZC hy);unfold ez at h2;simp only [bE,beq_iff_eq] at h2;unfold uq;dsimp only;omega
def mW (t:ψ) (l:List ay) (c h i:Int):List ay×Int :=
 if (!((decide (c≥0)&&decide (c<16))&&decide (h≥0)&&decide (h<100)))=true then (l,1)
 else if (!(gN t.η i).isSome||lZ (gD t.η i))=true then (l,70)
 else if ((gD t.η i).ξ==2)=true then (l,72)
 else if l.any (ez c h)=true then (l,71)
 else if decide ((l.length:Int)≥64)=true then (l,76)
 else (dy l (cX (cH c h) l:Int) [⟨c,h,i⟩],0)
def aff {t:ψ} (hs:dY t.η) (hn:t.η.length≤1000000) {l:List ay} (hl:mr l) (IM:l.length≤1000000) (c h i:Int):Bz t l c h i=some (mW t l c h i):=by
 refine ε.eq ?_;unfold Bz mW;refine ε.ai (a:=(decide (c≥0)&&decide (c<16))&&decide (h≥0)&&decide (h<100)) ?_ ?_
 ·unfold IW;dsimp only;cases decide (c≥0)<;>cases decide (c<16)<;>cases decide (h≥0)<;>cases decide (h<100)<;>rfl
 refine ε.eG (fun _=>ε.ret rfl) fun _=>ε.ai (tG hs hn i) ?_;have hbs:=Hy (C:=fun x=>yY (c,h) x (c,h)) (c:=cH c h) (l:=l) (fun x _=>afo c h x (c,h)) (VS hl c h) IM;refine ε.ai (x:=Kn l (c,h) (c,h)) hbs ?_;dsimp only;refine ε.bind (R:=(·=(!(gN t.η i).isSome||lZ (gD t.η i)))) (ε.bind (R:=(·=(!(gN t.η i).isSome||lZ (gD t.η i)))) (ε.ite (fun e=>ε.ret (by rw [e];rfl)) fun e=>ε.ai (O3 _) (ε.ret (by rw [ia.2 e];rfl))) fun v hv=>ε.ret hv) fun v hv=>?_;subst hv;refine ε.eG (fun _=>ε.ret rfl) fun _=>ε.eG (fun _=>ε.ret rfl) fun _=>?_;rw [aae hl];refine ε.eG (fun _=>ε.ret rfl) fun _=>ε.eG (fun _=>ε.ret rfl) fun _=>ε.ai (Sc IM) ?_;have:=xY (cH c h) l;exact ε.Ω ⟨by omega,by omega,by simp,by simp only [cZ,ig];omega⟩ (ε.ret rfl)
def Sp {α:Type} {p:α→Bool}:∀{l:List α} {k:Nat},l.findIdx? p=some k→fY l (k:Int) ((k:Int)+1)=l.eraseP p
 |[],_,h=>by simp at h
 |x::l,k,h=>by
  rw [List.findIdx?_cons] at h;cases hp:p x with
  |true =>
   rw [hp] at h
   have:k=0:=by simpa using h.symm
   subst this;rw [List.eraseP_cons_of_pos hp];rfl
  |false =>
   rw [hp] at h;cases hf:l.findIdx? p with
   |none=>rw [hf] at h;simp at h
   |some j =>
    rw [hf] at h
    have:k=j+1:=by simpa using h.symm
    subst this;rw [List.eraseP_cons_of_neg (by simp [hp]),←Sp hf];unfold fY;rw [gP,gP,show ((j:Int)+1).toNat=j+1 by omega,show (((j+1:Nat):Int)+1).toNat=j+1+1 by omega];rfl
def qB (t:ψ) (l:List ay) (i:Int):ψ:=if ((gN t.η i).isSome&&lZ (gD t.η i)&&!ru l i)=true then (we t i).1 else t
def fJ (t:ψ) (l:List ay) (c h:Int):ψ×List ay×Int:=match l.find? (ez c h) with|none=>(t,l,80)|some x=>(qB t (l.eraseP (ez c h)) x.ι,l.eraseP (ez c h),0)
def qt (l:List ay) (c h:Int):Int×Int:=match l.find? (ez c h) with|none=>(0,80)|some x=>(x.ι,0)
section
variable {B:Nat} {t:ψ}
def agt (h:RT t) (l:List ay) (i:Int):RT (qB t l i):=by
 unfold qB;split
 ·exact h.free i
 ·exact h
def TF.S6 (h:TF B t) (i:Int):TF B (we t i).1:=by
 unfold we;split
 ·exact h
 split
 ·exact h
 split
 ·exact h
 ·exact h.drop i
def agu (h:TF B t) (l:List ay) (i:Int):TF B (qB t l i):=by
 unfold qB;split
 ·exact h.S6 i
 ·exact h
def V8 (h:dY t.η) (hf:TF B t) (hB:B≤90000) {l:List ay} (hl:l.length≤1000000) (c k:Int):yX t l c k=some (fJ t l c k):=by
 have hn:=hf.n;refine ε.eq ?_;unfold yX fJ;refine ε.ai (Wq l c k hl) ?_;cases hx:l.findIdx? (ez c k) with
 |none =>
  rw [DN hx];exact ε.cond (by rfl) (ε.ret rfl)
 |some n =>
  obtain ⟨x,h1,h2,h3⟩:=sO hx;have Φ:=(fh.1 h1).1;rw [h2];show ε (if decide ((n:Int)<0)=true then _ else _) _;refine ε.cR (by simp) (ε.ai (cL h1) (ε.ai (Sc hl) (ε.Ω (by show Θ ((n:Int)+1);unfold Θ;omega) (ε.Ω (by show (0:Int)≤(n:Int)∧(n:Int)<(n:Int)+1∧(n:Int)+1≤_;omega) ?_))));show ε (((l7 t x.ι).bind fun x4=>((if x4.2 then (wF x4.1).bind fun x5=>some x5 else some false).bind fun c1=>(if c1 then (BB (fY l (n:Int) ((n:Int)+1)) x.ι).bind fun x6=>some (!x6) else some false).bind fun c2=>some c2).bind fun v2=>if v2 then (Ac t x.ι).bind fun x7=>some (x7.1.η,x7.1.Next,x7.1.aj) else some (t.η,t.Next,t.aj)).bind fun v1=>some ((⟨v1.1,v1.2.1,v1.2.2⟩:ψ),fY l (n:Int) ((n:Int)+1),0)) _;rw [Sp hx];have ID:(l.eraseP (ez c k)).length≤l.length:=Zz;refine ε.ai (a:=((qB t (l.eraseP (ez c k)) x.ι).η,(qB t (l.eraseP (ez c k)) x.ι).Next,(qB t (l.eraseP (ez c k)) x.ι).aj)) (ε.eq ?_) (ε.ret rfl);refine ε.ai (tG h (by omega) x.ι) ?_;unfold qB;dsimp only;refine ε.bind (R:=(·=((gN t.η x.ι).isSome&&lZ (gD t.η x.ι)&&!ru (l.eraseP (ez c k)) x.ι))) ?_ fun v hv=>?_
  ·refine ε.bind (R:=(·=((gN t.η x.ι).isSome&&lZ (gD t.η x.ι)))) (ε.ite (fun e=>ε.ai (O3 _) (ε.ret (by rw [e];rfl))) fun e=>ε.ret (by rw [ia.2 e];rfl)) fun v hv=>ε.bind (R:=(·=((gN t.η x.ι).isSome&&lZ (gD t.η x.ι)&&!ru (l.eraseP (ez c k)) x.ι))) ?_ fun v hv=>ε.ret hv;subst hv;exact ε.ite (fun e=>ε.ai (afD _ _ (by omega)) (ε.ret (by rw [e];rfl))) fun e=>ε.ret (by rw [ia.2 e];rfl)
  ·subst hv;by_cases e:((gN t.η x.ι).isSome&&lZ (gD t.η x.ι)&&!ru (l.eraseP (ez c k)) x.ι)=true
   ·simp only [if_pos e];exact ε.ai (V_ h hf hB _) (ε.ret rfl)
   ·simp only [if_neg e];exact ε.ret rfl
def aeT {l:List ay} (hl:l.length≤1000000) (c k:Int):EF l c k=some (qt l c k):=by
 refine ε.eq ?_;unfold EF qt;refine ε.ai (Wq l c k hl) ?_;cases hx:l.findIdx? (ez c k) with
 |none =>
  rw [DN hx];exact ε.cond (by rfl) (ε.ret rfl)
 |some n =>
  obtain ⟨x,h1,h2,h3⟩:=sO hx;rw [h2];show ε (if decide ((n:Int)<0)=true then _ else _) _;exact ε.cR (by simp) (ε.ai (cL h1) (ε.ret rfl))
def kJ (c:Int) (a:ψ×List ay) (x:ay):ψ×List ay:=if (x.aL==c)=true then ((fJ a.1 a.2 c x.bq).1,(fJ a.1 a.2 c x.bq).2.1) else a
def pj (t:ψ) (l:List ay) (c:Int):ψ×List ay:=l.foldl (kJ c) (t,l)
structure GI (B n:Nat) (a:ψ×List ay):Prop where
 r:RT a.1
 f:TF B a.1
 l:a.2.length≤n
 s:mr a.2
def L1 {n:Nat} {l:List ay} (h:GI B n (t,l)) (c k:Int):GI B n ((fJ t l c k).1,(fJ t l c k).2.1):=by
 unfold fJ;cases l.find? (ez c k) with
 |none=>exact h
 |some x =>
  refine ⟨agt h.r _ _,agu h.f _ _,fi Zz h.l,?_⟩;exact Zp Rj h.s
def Ti {n:Nat} {a:ψ×List ay} (h:GI B n a) (c:Int) (x:ay):GI B n (kJ c a x):=by
 unfold kJ;split
 ·exact L1 (t:=a.1) (l:=a.2) h c x.bq
 ·exact h
def Mz {n:Nat} (c:Int):∀(l:List ay) {a:ψ×List ay},GI B n a→GI B n (l.foldl (kJ c) a)
 |[],_,h=>h
 |x::l,_,h=>Mz c l (Ti h c x)
def aeR (h:RT t) (hf:TF B t) (hB:B≤90000) {l:List ay} (hl:l.length≤100000) (hs:mr l) (c:Int):By t l c=some (pj t l c):=by
 refine ε.eq ?_;unfold By pj Uz
 have key:ε (loop (EE l c) (l,0,t.η,t.Next,t.aj)) (fun v=>v=((l.foldl (kJ c) (t,l)).2,(l.foldl (kJ c) (t,l)).1.η,(l.foldl (kJ c) (t,l)).1.Next,(l.foldl (kJ c) (t,l)).1.aj)):=by
  refine ε.loop (fun s:List ay×Int×List τ×Int×Int=>∃n:Nat,s.2.1=(n:Int)∧n≤l.length∧GI B l.length ((⟨s.2.2.1,s.2.2.2.1,s.2.2.2.2⟩:ψ),s.1)∧(l.take n).foldl (kJ c) (t,l)=((⟨s.2.2.1,s.2.2.2.1,s.2.2.2.2⟩:ψ),s.1)) (fun s=>l.length-s.2.1.toNat) ?_ _ ⟨0,rfl,by omega,⟨h,hf,Nat.le_refl _,hs⟩,rfl⟩;rintro ⟨q,s1,N,X,C⟩ ⟨n,e1,hn,hG,e2⟩;dsimp only at e1 hG e2;subst e1;unfold EE;dsimp only;by_cases Φ:n<l.length
  ·have hx:=bU Φ
   have gC:l.take (n+1)=l.take n++[l[n]]:=by rw [qT,hx];rfl
   have Bh:(l.take (n+1)).foldl (kJ c) (t,l)=kJ c ((⟨N,X,C⟩:ψ),q) l[n]:=by rw [gC,G4,e2];rfl
   have hG':=Ti hG c l[n];refine ε.cond (by simpa using Φ) (ε.bind (R:=fun v=>v=((kJ c ((⟨N,X,C⟩:ψ),q) l[n]).2,(kJ c ((⟨N,X,C⟩:ψ),q) l[n]).1.η,(kJ c ((⟨N,X,C⟩:ψ),q) l[n]).1.Next,(kJ c ((⟨N,X,C⟩:ψ),q) l[n]).1.aj)) (ε.ai (cL hx) ?_) fun v hv=>?_)
   ·unfold kJ;by_cases e:(l[n].aL==c)=true
    ·simp only [if_pos e];have oH:=hG.l;dsimp only at oH;exact ε.ai (V8 (t:=⟨N,X,C⟩) hG.r.s hG.f hB (by omega) c _) (ε.ret rfl)
    ·simp only [if_neg e];exact ε.ret rfl
   ·subst hv;refine ε.Ω (by unfold Θ;omega) (ε.inl ⟨⟨n+1,by dsimp only;omega,Φ,?_,?_⟩,by dsimp only;omega⟩)
    ·exact hG'
    ·rw [Bh]
  ·have:n=l.length:=by omega
   subst this;rw [jK] at e2;exact ε.cR (by simp) (ε.out (ε.ret (by rw [e2])))
 exact ε.bind key fun v hv=>ε.ret (by rw [hv])
end
end
section
def j5 (l:List aA):Prop:=l.Pairwise fun a b=>a.ι<b.ι
def cQ (i:Int) (x:aA):Int:=gS x.ι i
def VT {l:List aA} (h:j5 l) (i:Int):Mon (cQ i) l:=fun j k x y py hx hy hc=>by
 obtain ⟨h1,rfl⟩:=fh.1 hx;obtain ⟨h2,rfl⟩:=fh.1 hy;have:=vG.1 h j k h1 h2 py;unfold cQ at *;rw [jx] at *;omega
def qe (l:List aA) (i:Int):Bool:=l.any fun q=>q.ι==i
def LR {i:Int}:∀{l:List aA},j5 l→fI (cQ i) l=qe l i
 |[],_=>rfl
 |x::l,h=>by
  have h2:=(eD.1 h).2;have h1:=(eD.1 h).1;unfold qe;rw [List.any_cons];by_cases hx:cQ i x<0
  ·rw [xV hx,LR h2];have:x.ι<i:=jx.1 hx;rw [beq_eq_false_iff_ne.2 (by omega),C8];rfl
  ·rw [xW hx];have gr:¬x.ι<i:=fun h=>hx (jx.2 h);by_cases he:x.ι=i
   ·rw [show (cQ i x==0)=true from yd.2 he,show (x.ι==i)=true by simpa using he];rfl
   ·rw [show (cQ i x==0)=false from ia.2 fun h=>he (yd.1 h),beq_eq_false_iff_ne.2 he,C8];symm;rw [pY];intro y hy;have:=h1 y hy;simp;omega
def O4 {l:List aA} (h:j5 l) (hl:l.length≤1000000) (i:Int):B_ l i=some ((cX (cQ i) l:Int),qe l i):=by
 have hb:=Hy (C:=fun x=>zP x i) (c:=cQ i) (l:=l) (fun x _=>by unfold zP;rw [xe];rfl) (VT h i) hl;unfold B_;show ((Dv (fun x=>zP x i) l).bind _)=_;rw [hb,LR h];rfl
def ou (l:List τ) (q:List aA):Nat→Int→Int
 |0,_=>0
 |f+1,i=>if qe q i=true then i else if i=1 then 0 else ou l q f (gD l i).Up
def aaJ {l:List τ} {q:List aA} {i:Int} {d:Nat} (h:Deep l i d):∀{f:Nat},d≤f→ou l q (f+1) i=ou l q (d+1) i:=by
 induction h with
 |root=>intro f _;rw [ou,ou];simp
 |@step i n d h1 h2 h3 h4 ih =>
  intro f hf;cases f with
  |zero=>omega
  |succ f =>
   rw [ou,ou.eq_2 l q i (d+1)];have hg:gD l i=n:=jd h2;rw [hg,ih (by omega)]
def q9 (l:List τ) (q:List aA) (i:Int):Int:=ou l q 201 i
section
variable {B:Nat} {t:ψ}
def aeP {q:List aA} (hs:dY t.η) (hn:t.η.length≤1000000) (hq:j5 q) (hl:q.length≤1000000) {i:Int} {d:Nat} (h:Deep t.η i d) (h0:∀n,n∈t.η→1≤n.ι):B7 t q i=some (ou t.η q (d+1) i):=by
 have key:∀{d:Nat} {i:Int},Deep t.η i d→loop (zQ q t) (i,0)=some (ou t.η q (d+1) i):=by
  intro d i h;induction h with
  |root =>
   have hp:=O4 hq hl 1;refine nS ?_;unfold zQ B8;rw [ou];simp only [hp,cD];cases qe q 1<;>simp [Cat.out]
  |@step i n d h1 h2 h3 h4 ih =>
   have hp:=O4 hq hl i;have hi:=h0 n (dM h2).1;rw [(dM h2).2] at hi;rw [ou];by_cases hh:qe q i=true
   ·rw [if_pos hh];refine nS ?_;unfold zQ B8;simp only [hp,cD,hh,if_true];rw [show (i==0)=false by simp;omega];rfl
   ·rw [if_neg hh,if_neg h1,jd h2];refine (tu ?_).trans ih;unfold zQ B8;have hg:=tG hs hn i;simp only [hp,cD,ia.2 hh,ni,if_false,hg];rw [show ((0:Int)==0)=true from rfl];simp only [if_true,cD,show (i != 1)=true by simpa using h1,jd h2]
 unfold B7 JV WV;rw [key h];rfl
abbrev kD:=List (Int×Bool)
def rN (m:kD) (j:Int):Prop:=(bn j m).isSome=true
def Je {m:kD} {j:Int}:rN m j↔∃p,p∈m∧p.1=j:=Jn
structure SM (m:kD):Prop where
 k:(m.map (·.1)).Pairwise (·≠·)
 r:∀p,p∈m→0≤p.1∧p.1<5000
 v:∀p,p∈m→p.2=true
def SM.ml {m:kD} (h:SM m):m.length≤5000:=by
 have:=E4 5000 (m.map (·.1)) h.k fun x hx=>by
  obtain ⟨p,hp,rfl⟩:=c9.1 hx;exact h.r p hp
 rw [az] at this;exact this
def VL {α:Type} {i:Int} {v:α}:∀{l:List (Int×α)},bn i l=some v→(i,v)∈l
 |[],h=>by cases h
 |(k,c)::r,h=>by
  simp only [bn] at h;by_cases e:k=i
  ·rw [if_pos e] at h;cases h;rw [e];simp
  ·rw [if_neg e] at h;exact cu _ (VL h)
def SM.get {m:kD} (h:SM m) (j:Int):(bn j m).getD false=(bn j m).isSome:=by
 cases e:bn j m with
 |none=>rfl
 |some b=>exact h.v _ (VL e)
def SM.set {m:kD} (h:SM m) {i:Int} (hi:¬rN m i) (hr:0≤i∧i<5000):ak i true m=m++[(i,true)]∧SM (m++[(i,true)]):=by
 rcases BR i true m with ⟨h1,h2,h3⟩|⟨j,c,h1,h2,_⟩
 ·refine ⟨h2,?_,fun p hp=>?_,fun p hp=>?_⟩
  ·rw [fu];refine vF.2 ⟨h.k,List.pairwise_singleton _ _,fun a ha b hb=>?_⟩;obtain ⟨p,hp,rfl⟩:=c9.1 ha;simp at hb;rw [hb];exact h3 p hp
  ·rcases gl.1 hp with hp|hp
   ·exact h.r p hp
   ·obtain rfl:=dC.1 hp;exact hr
  ·rcases gl.1 hp with hp|hp
   ·exact h.v p hp
   ·obtain rfl:=dC.1 hp;rfl
 ·exact absurd (by unfold rN;rw [h2];rfl) hi
def dl (t:ψ) (i:Int):Nat:=(gD t.η i).aC.length
def pN (t:ψ) (l:kD):Nat:=(l.map fun p=>dl t p.1).sum
def AN (t:ψ) (E:List aO) (b:Int) (m:kD) (r:List τ×Int×Int×Int×kD):Prop :=
 r.1=t.η∧r.2.1=t.Next∧r.2.2.1=t.aj∧∃new,r.2.2.2.2=m++new∧SM (m++new)∧r.2.2.2.1=b+(pN t new:Int) ∧
  (∀p,p∈new→∃e,e∈E∧lT (gN t.η) e.ι p.1)∧(∀e,e∈E→rN (m++new) e.ι)∧∀p,p∈new→∀e,e∈(gD t.η p.1).Ψ→rN (m++new) e.ι
structure UT (t:ψ):Prop where
 s:dY t.η
 n:t.η.length≤1000000
 d:∀i,dl t i≤4096
 e:∀i e,e∈(gD t.η i).Ψ→0≤e.ι∧e.ι<5000
 l:∀i,(gD t.η i).Ψ.length≤1000000
def ah8 (h:UT t) (l:kD):pN t l≤4096*l.length:=by
 induction l with
 |nil=>exact Nat.le_refl _
 |cons p l ih =>
  unfold pN at ih ⊢;have:=h.d p.1;simp only [List.map_cons,List.sum_cons,cZ];omega
def XU (t:ψ) (a b:kD):pN t (a++b)=pN t a+pN t b:=by unfold pN;simp
abbrev UF:=(Int×ψ×Int×kD)→Option (List τ×Int×Int×Int×kD)
def aih {f:UF} (h:UT t) {n:Nat} (hf:∀i b m,SM m→5000-m.length<n→0≤b∧b≤4096*(m.length:Int)→0≤i∧i<5000→ε (f (i,t,b,m)) (AN t (gD t.η i).Ψ (b+(dl t i:Int)) m))
  {i b:Int} {m:kD} (hm:SM m) (hn:5000-m.length<n+1) (hb:0≤b∧b≤4096*(m.length:Int)):ε (tK f i t b m) (AN t (gD t.η i).Ψ (b+(dl t i:Int)) m):=by
 have jC:=hm.ml;have hdi:=h.d i;unfold tK;refine ε.ai (tG h.s h.n i) ?_;show ε (Ω (Θ (b+(dl t i:Int))) (Fy (gD t.η i,(gN t.η i).isSome) f (0,t.η,t.Next,t.aj,b+(dl t i:Int),m))) _;refine ε.Ω (by unfold Θ;omega) ?_;unfold Fy;generalize hE:(gD t.η i).Ψ=E;have hEl:E.length≤1000000:=hE▸h.l i;have hEr:∀e,e∈E→0≤e.ι∧e.ι<5000:=fun e he=>h.e i e (by rw [hE];exact he)
 have eo:0≤b+(dl t i:Int)∧b+(dl t i:Int)≤4096*((m.length:Int)+1):=by omega
 generalize b+(dl t i:Int)=b0 at eo ⊢;refine ε.loop (fun s:Int×List τ×Int×Int×Int×kD=>∃k:Nat,s.1=(k:Int)∧k≤E.length∧AN t (E.take k) b0 m s.2) (fun s=>E.length-s.1.toNat) ?_ _ ⟨0,rfl,by omega,rfl,rfl,rfl,[],by simp,by simpa using hm,by simp [pN],fun p hp=>(by cases hp),fun e he=>(by simp at he),fun p hp=>(by cases hp)⟩;rintro ⟨s0,N,X,C,bs,ms⟩ ⟨k,e1,hk,g1,g2,g3,new,g4,g5,g6,g7,g8,g9⟩;dsimp only at e1 g1 g2 g3 g4 g6;subst e1;subst g1;subst g2;subst g3;subst g4;subst g6;unfold zO;dsimp only;rw [hE];by_cases Φ:k<E.length
 ·have hx:=bU Φ
  have gC:E.take (k+1)=E.take k++[E[k]]:=by rw [qT,hx];rfl
  have hr:=hEr _ (eI Φ);have zf:=g5.ml;have hsd:=ah8 h new;rw [dj] at zf;refine ε.cond (by simpa using Φ) (ε.bind (R:=fun v=>AN t (E.take (k+1)) b0 m v) (ε.ai (cL hx) (ε.ai rfl ?_)) fun v hv=>ε.Ω (by unfold Θ;omega) (ε.inl ⟨⟨k+1,by dsimp only;omega,Φ,hv⟩,by dsimp only;omega⟩));rw [g5.get];by_cases hK:rN (m++new) E[k].ι
  ·have yv:(bn E[k].ι (m++new)).isSome=true:=hK;refine ε.cR (by rw [yv];simp) (ε.ret ⟨rfl,rfl,rfl,new,rfl,g5,rfl,fun p hp=>?_,fun e he=>?_,g9⟩)
   ·obtain ⟨e,he,hr⟩:=g7 p hp;exact ⟨e,by rw [gC];exact qR _ he,hr⟩
   ·rw [gC] at he
    rcases gl.1 he with he|he
    ·exact g8 e he
    ·obtain rfl:=dC.1 he;exact hK
  ·obtain ⟨q1,q2⟩:=g5.set hK hr;have yv:¬(bn E[k].ι (m++new)).isSome=true:=hK
   have oH:(m++new++[(E[k].ι,true)]).length=m.length+new.length+1:=by simp;omega
   have mQ:=q2.ml;rw [oH] at mQ;refine ε.cond (by simpa using yv) (ε.Ω ⟨by unfold Θ;omega,by simp only [dj];omega⟩ ?_);rw [q1];refine ε.bind (hf E[k].ι (b0+(pN t new:Int)) (m++new++[(E[k].ι,true)]) q2 (by rw [oH];omega) (by rw [oH];omega) hr) ?_;rintro ⟨N',X',C',b',m'⟩ ⟨u1,u2,u3,Fc,u4,u5,u6,u7,u8,u9⟩;dsimp only at u1 u2 u3 u4 u6;subst u1;subst u2;subst u3;subst u4;subst u6
   have En:m++new++[(E[k].ι,true)]++Fc=m++(new++[(E[k].ι,true)]++Fc):=by simp
   have kb:∀j,rN (m++new) j→rN (m++(new++[(E[k].ι,true)]++Fc)) j:=fun j hj=>by
    rw [Je] at *;obtain ⟨p,hp,e⟩:=hj;refine ⟨p,?_,e⟩;rw [←En];simp only [gl] at *;exact .inl (.inl hp)
   have acY:rN (m++(new++[(E[k].ι,true)]++Fc)) E[k].ι:=Je.2 ⟨(E[k].ι,true),by simp,rfl⟩;refine ε.ret ⟨rfl,rfl,rfl,new++[(E[k].ι,true)]++Fc,En,En▸u5,?_,fun p hp=>?_,fun e he=>?_,fun p hp e he=>?_⟩
   ·dsimp only;rw [XU,XU]
    have:pN t [(E[k].ι,true)]=dl t E[k].ι:=by simp [pN]
    rw [this];omega
   ·rcases gl.1 hp with hp|hp
    ·rcases gl.1 hp with hp|hp
     ·obtain ⟨e,he,hr⟩:=g7 p hp;exact ⟨e,by rw [gC];exact qR _ he,hr⟩
     ·obtain rfl:=dC.1 hp;exact ⟨E[k],by rw [gC];exact vE _ (dC.2 rfl),.refl⟩
    ·obtain ⟨e,he,hr⟩:=u7 p hp;refine ⟨E[k],by rw [gC];exact vE _ (dC.2 rfl),?_⟩
     have iD:gN t.η E[k].ι=some (gD t.η E[k].ι):=by
      unfold gD at he ⊢;cases hg:gN t.η E[k].ι with
      |none=>rw [hg] at he;cases he
      |some n=>rfl
     exact lT.trans (.step .refl iD he) hr
   ·rw [gC] at he
    rcases gl.1 he with he|he
    ·exact kb _ (g8 e he)
    ·obtain rfl:=dC.1 he;exact acY
   ·rcases gl.1 hp with hp|hp
    ·rcases gl.1 hp with hp|hp
     ·exact kb _ (g9 p hp e he)
     ·obtain rfl:=dC.1 hp;exact En▸u8 e he
    ·exact En▸u9 p hp e he
 ·have:k=E.length:=by omega
  subst this;rw [jK] at g7 g8;exact ε.cR (by simp) (ε.out (ε.ret ⟨rfl,rfl,rfl,new,rfl,g5,rfl,g7,g8,g9⟩))
noncomputable def LC:UF→UF:=fun f a=>tK f a.1 a.2.1 a.2.2.1 a.2.2.2
def ZZ:Hj LC:=fun f g h a r hr=>aea f g (fun a r=>h a r) a.1 a.2.1 a.2.2.1 a.2.2.2 r hr
def Yd (h:UT t):∀(n:Nat) (i b:Int) (m:kD),SM m→5000-m.length<n→0≤b∧b≤4096*(m.length:Int)→ε (qA LC n (i,t,b,m)) (AN t (gD t.η i).Ψ (b+(dl t i:Int)) m)
 |0,_,_,_,_,hn,_=>by omega
 |n+1,i,b,m,hm,hn,hb=>by
  show ε (tK (qA LC n) i t b m) _;exact aih h (fun i b m h1 h2 h3 _=>Yd h n i b m h1 h2 h3) hm hn hb
def aii (h:UT t) (i:Int):ε (JU i t 0 []) (AN t (gD t.η i).Ψ (0+(dl t i:Int)) []):=by
 obtain ⟨r,h1,h2⟩:=Yd h 5001 i 0 [] ⟨jr,fun p hp=>(by cases hp),fun p hp=>(by cases hp)⟩ (by simp) (by simp);exact ⟨r,SY ZZ h1,h2⟩
def LD (t:ψ) (i:Int) (r:Int×Int):Prop :=
 if (gD t.η i).ξ=2 then ∃m:kD,SM m∧r=((m.length:Int),(dl t i:Int)+(pN t m:Int))∧∀j,rN m j↔∃e,e∈(gD t.η i).Ψ∧lT (gN t.η) e.ι j
 else r=(0,0)
def afn (h:UT t) (i:Int):ε (wZ t i) (LD t i):=by
 unfold wZ LD
 have kR:(gN t.η i).isSome=false→(gD t.η i).ξ≠2:=fun hg=>by
  unfold gD;cases hx:gN t.η i with
  |none=>simp [jX]
  |some n=>rw [hx] at hg;cases hg
 refine ε.bind (R:=fun v:Int×kD=>if (gD t.η i).ξ=2 then ∃m:kD,SM m∧v=((dl t i:Int)+(pN t m:Int),m)∧∀j,rN m j↔∃e,e∈(gD t.η i).Ψ∧lT (gN t.η) e.ι j else v=(0,[])) (ε.ai (tG h.s h.n i) ?_) fun v hv=>ε.ret ?_
 ·dsimp only
  refine ε.bind (R:=(·=decide ((gD t.η i).ξ=2))) (ε.bind (R:=(·=decide ((gD t.η i).ξ=2))) (ε.ite (fun _=>ε.ret (by rw [qL];simp)) fun e=>ε.ret (by
   symm;rw [decide_eq_false_iff_not];exact kR (ia.2 e))) fun v hv=>ε.ret hv) fun v hv=>?_
  subst hv;by_cases hk:(gD t.η i).ξ=2
  ·simp only [hk,if_true,decide_true];refine ε.bind (aii h i) ?_;rintro ⟨N,X,C,b,m'⟩ ⟨u1,u2,u3,new,u4,u5,u6,u7,u8,u9⟩;rw [List.nil_append] at u4 u5 u8 u9;dsimp only at u4 u6;subst u4;refine ε.ret ⟨m',u5,?_,fun j=>⟨fun hj=>?_,fun hj=>?_⟩⟩
   ·dsimp only;rw [u6];congr 1;omega
   ·obtain ⟨p,hp,e⟩:=Je.1 hj;rw [←e];exact u7 p hp
   ·obtain ⟨e,he,hr⟩:=hj;clear kR u7;induction hr with
    |refl=>exact u8 e he
    |step a b c ih =>
     obtain ⟨p,hp,e⟩:=Je.1 ih;rw [←e] at b;exact u9 p hp _ (by rw [jd b];exact c)
  ·simp only [hk,if_false,decide_false,ni];exact ε.ret rfl
 ·by_cases hk:(gD t.η i).ξ=2
  ·rw [if_pos hk] at hv ⊢;obtain ⟨m,h1,h2,h3⟩:=hv;exact ⟨m,h1,by rw [h2],h3⟩
  ·rw [if_neg hk] at hv ⊢;rw [hv];rfl
end
end
section
section
variable {B:Nat} {t:ψ}
def wi (l:List τ) (i:Int):(∃n,gN l i=some n∧gD l i=n)∨(gN l i=none∧gD l i=jX):=by
 unfold gD;cases gN l i with
 |none=>exact .inr ⟨rfl,rfl⟩
 |some n=>exact .inl ⟨n,rfl,rfl⟩
def RT.data (h:RT t) {n:τ} (hn:n∈t.η):n.aC.length≤4096:=by
 rcases h.nd n hn with hf|⟨_,hd,_⟩
 ·exact hf.2.2.2.1
 ·rw [hd];simp
def RT.eR (h:RT t) {n:τ} (hn:n∈t.η) {e:aO} (he:e∈n.Ψ):1≤e.ι∧e.ι<t.Next:=by
 obtain ⟨x,hx⟩:=nk.1 (h.cl n hn e he);have:=h.lo x (dM hx).1;rw [(dM hx).2] at this;exact this
def RT.ut (h:RT t) (hf:TF B t) (hB:B≤4000):UT t:=by
 refine ⟨h.s,by have:=hf.n;omega,fun i=>?_,fun i e he=>?_,fun i=>by have:=hf.gE i;omega⟩
 ·unfold dl
  rcases wi t.η i with ⟨n,h1,h2⟩|⟨h1,h2⟩
  ·rw [h2];exact h.data (dM h1).1
  ·rw [h2];exact lP _
 ·rcases wi t.η i with ⟨n,h1,h2⟩|⟨h1,h2⟩
  ·rw [h2] at he;have:=h.eR (dM h1).1 he;have:=hf.x;omega
  ·rw [h2] at he;cases he
noncomputable def r_ (t:ψ) (i:Int):Int×Int:=(wZ t i).getD (0,0)
def WD (h:UT t) (i:Int):wZ t i=some (r_ t i)∧LD t i (r_ t i):=by
 obtain ⟨r,h1,h2⟩:=afn h i;unfold r_;rw [h1];exact ⟨rfl,h2⟩
noncomputable def vj (t:ψ) (l:List aA) (i n b:Int):List aA×Int :=
 if (!(gN t.η i).isSome)=true then (l,70) else if ((gD t.η i).ξ != 2)=true then (l,73)
 else if decide (n<0)=true then (if qe l i=true then fY l (cX (cQ i) l:Int) ((cX (cQ i) l:Int)+1) else l,0)
 else if (decide ((r_ t i).1>n)||decide ((r_ t i).2>b))=true then (l,90)
 else if qe l i=true then (l.set (cX (cQ i) l) ⟨i,n,b⟩,0)
 else if decide ((l.length:Int)≥16)=true then (l,76)
 else (dy l (cX (cQ i) l:Int) [⟨i,n,b⟩],0)
def MV {l:List aA} (h:j5 l) {i:Int} (hh:qe l i=true):∃q,l[cX (cQ i) l]?=some q∧q.ι=i:=by
 rw [←LR h] at hh;unfold fI at hh;cases hx:l[cX (cQ i) l]? with
 |none=>rw [hx] at hh;cases hh
 |some q=>rw [hx] at hh;exact ⟨q,rfl,yd.1 hh⟩
def afk (h:RT t) (hf:TF B t) (hB:B≤4000) {l:List aA} (hq:j5 l) (hl:l.length≤1000000) (i n b:Int):B9 t l i n b=some (vj t l i n b):=by
 have hu:=h.ut hf hB;refine ε.eq ?_;unfold B9 vj;refine ε.ai (tG hu.s hu.n i) ?_;dsimp only;have hk:=xY (cQ i) l;refine ε.eG (fun _=>ε.ret rfl) fun _=>ε.eG (fun _=>ε.ret rfl) fun _=>ε.ai (O4 hq hl i) ?_;dsimp only;refine ε.eG (fun _=>?_) fun _=>?_
 ·refine ε.bind (R:=(·=if qe l i=true then fY l (cX (cQ i) l:Int) ((cX (cQ i) l:Int)+1) else l)) (ε.eG (fun hh=>?_) fun _=>ε.ret rfl) fun v hv=>ε.ret (by rw [hv]);obtain ⟨q,h1,h2⟩:=MV hq hh;have:=(fh.1 h1).1;exact ε.ai (HG hl) (ε.Ω (by unfold Θ;omega) (ε.Ω (by omega) (ε.ret rfl)))
 ·refine ε.ai (WD hu i).1 ?_;refine ε.bind (R:=(·=(decide ((r_ t i).1>n)||decide ((r_ t i).2>b)))) (ε.bind (R:=(·=(decide ((r_ t i).1>n)||decide ((r_ t i).2>b)))) (ε.ite (fun e=>ε.ret (by rw [e];rfl)) fun e=>ε.ret (by rw [ia.2 e];rfl)) fun v hv=>ε.ret hv) fun v hv=>?_;subst hv;refine ε.eG (fun _=>ε.ret rfl) fun _=>ε.eG (fun hh=>?_) fun _=>ε.eG (fun _=>ε.ret rfl) fun _=>?_
  ·obtain ⟨q,h1,h2⟩:=MV hq hh;exact ε.ai (HG hl) (ε.ai (cL h1) (ε.ret (by rw [gP])))
  ·exact ε.ai (HG hl) (ε.Ω ⟨by omega,by omega,by simp,by simp only [cZ,ig];omega⟩ (ε.ret rfl))
def Xj {l:List aA} (hq:j5 l) (hl:l.length≤16) (i n b:Int):j5 (vj t l i n b).1∧(vj t l i n b).1.length≤16:=by
 unfold vj;split
 ·exact ⟨hq,hl⟩
 split
 ·exact ⟨hq,hl⟩
 split
 ·dsimp only;split
  ·refine ⟨?_,?_⟩
   ·refine Zp ?_ hq;unfold fY;rw [gP,show ((cX (cQ i) l:Int)+1).toNat=cX (cQ i) l+1 by omega]
    conv=>rhs;rw [←vI (cX (cQ i) l) l]
    exact List.Sublist.append (List.Sublist.refl _) (List.drop_sublist_drop_left _ (by omega))
   ·unfold fY;simp only [dj,dR,l9];omega
  ·exact ⟨hq,hl⟩
 split
 ·exact ⟨hq,hl⟩
 split
 ·rename_i hh;obtain ⟨q,h1,h2⟩:=MV hq hh;obtain ⟨Φ,h1⟩:=fh.1 h1;refine ⟨?_,by simp [hl]⟩;refine vG.2 fun a c ha hc hac=>?_;have hp:=vG.1 hq;simp only [List.length_set] at ha hc
  have hI:∀x (hx:x<l.length),((l.set (cX (cQ i) l) ⟨i,n,b⟩)[x]'(by simpa using hx)).ι=l[x].ι:=fun x hx=>by
   rw [List.getElem_set];split
   ·rename_i e;subst e;rw [h1];exact h2.symm
   ·rfl
  rw [hI a ha,hI c hc];exact hp a c ha hc hac
 split
 ·exact ⟨hq,hl⟩
 ·rename_i h5 h6;have h5:qe l i=false:=ia.2 h5;rw [decide_eq_true_eq] at h6;refine ⟨WJ hq (fun y hy=>?_) fun y hy=>?_,?_⟩
  ·exact jx.1 (show cQ i y<0 from XW hy)
  ·have h1:=Sz (VT hq i) hy;have h1:¬y.ι<i:=fun h=>h1 (jx.2 h);have h2:=pY.1 h5 y (ZC hy);simp at h2;dsimp only;omega
  ·unfold dy;simp only [dj,dR,l9,cZ,ig];omega
def AZ (t:ψ) (q:List aA):List (Int×Int):=t.η.flatMap fun d=>d.Ψ.map fun e=>(e.ι,q9 t.η q d.ι)
def RH (t:ψ) (q:List aA):Prop:=∀j x y,(j,x)∈AZ t q→(j,y)∈AZ t q→(gD t.η j).ξ=1→x=y
structure OI (t:ψ) (p:List (Int×Int)) (M:List (Int×Int)):Prop where
 a:∀j x,bn j M=some x→(j,x)∈p
 b:∀j x,(j,x)∈p→(gD t.η j).ξ=1→bn j M=some x
 l:M.length≤p.length
def OI.step {p M:List (Int×Int)} (h:OI t p M) {j x:Int} (hc:∀w,bn j M=some w→(gD t.η j).ξ=1→w=x):OI t (p++[(j,x)]) (ak j x M):=by
 refine ⟨fun i y hy=>?_,fun i y hy hk=>?_,?_⟩
 ·rw [rQ] at hy;by_cases e:i=j
  ·rw [if_pos e] at hy;cases hy;rw [e];simp
  ·rw [if_neg e] at hy;exact qR _ (h.a i y hy)
 ·rw [rQ];by_cases e:i=j
  ·rw [if_pos e];subst e
   rcases gl.1 hy with hy|hy
   ·rw [hc y (h.b i y hy hk) hk]
   ·have:=dC.1 hy;cases this;rfl
  ·rw [if_neg e]
   rcases gl.1 hy with hy|hy
   ·exact h.b i y hy hk
   ·have:=dC.1 hy;cases this;exact absurd rfl e
 ·have:=E_ j x M;have:=h.l;rw [dj];simp;omega
def WQ (h:RT t) (q:List aA):∀(l:List τ),(∀n,n∈l→n∈t.η)→(l.flatMap fun d=>d.Ψ.map fun e=>(e.ι,q9 t.η q d.ι)).length≤64*l.length
 |[],_=>by simp
 |n::l,hl=>by
  have ih:=WQ h q l fun m hm=>hl m (cu _ hm);have:=(h.en n (hl n (by simp))).n;rw [List.flatMap_cons,dj,az,cZ];omega
def afM (h:RT t) (hf:TF B t) (hB:B≤4000) {q:List aA} (hq:j5 q) (oH:q.length≤1000000):ε (yn t q) (cM (RH t q)):=by
 have hu:=h.ut hf hB;have hn:=hu.n;have hlen:=h.len;unfold yn S7;refine ε.loop (fun s:Int×List (Int×Int)=>∃k:Nat,s.1=(k:Int)∧k≤t.η.length∧OI t ((t.η.take k).flatMap fun d=>d.Ψ.map fun e=>(e.ι,q9 t.η q d.ι)) s.2) (fun s=>t.η.length-s.1.toNat) ?_ _ ⟨0,rfl,by omega,⟨fun j x hx=>(by cases hx),fun j x hx=>(by cases hx),by simp⟩⟩;rintro ⟨s0,M⟩ ⟨k,e1,hk,hO⟩;dsimp only at e1 hO;subst e1;unfold H9;dsimp only;by_cases Φ:k<t.η.length
 ·have hx:=bU Φ;have bI:=eI Φ
  have gC:t.η.take (k+1)=t.η.take k++[t.η[k]]:=by rw [qT,hx];rfl
  have zb:=WQ h q (t.η.take k) fun n hn=>G6 hn;have MJ:=(h.en _ bI).n;refine ε.cond (by simpa using Φ) (ε.ai (cL hx) ?_);generalize hd:t.η[k]=d at *;by_cases hE:d.Ψ.length=0
  ·refine ε.cond (by simp [hE]) ?_;unfold A4;refine ε.Ω (by unfold Θ;omega) (ε.inl ⟨⟨k+1,by dsimp only;omega,Φ,?_⟩,by dsimp only;omega⟩);rw [gC,Zu];have hE':d.Ψ=[]:=List.length_eq_zero_iff.1 hE
   have e0:([d].flatMap fun d=>d.Ψ.map fun e=>(e.ι,q9 t.η q d.ι))=[]:=by simp [hE']
   rw [e0,xq];exact hO
  ·have fz:d.ξ=2:=Zc fun fz=>hE (by rw [(W.file h bI fz).2.1];rfl);obtain ⟨dd,d1,d2,d3⟩:=h.dp d bI fz
   have ab2:B7 t q d.ι=some (q9 t.η q d.ι):=by
    rw [aeP hu.s hn hq oH d1 (fun n hn=>(h.lo n hn).1)];unfold q9;rw [aaJ (f:=200) d1 (by omega)]
   refine ε.cR (by simpa using hE) (ε.ai ab2 ?_);generalize hP:(t.η.take k).flatMap (fun d=>d.Ψ.map fun e=>(e.ι,q9 t.η q d.ι))=P at *;unfold S8
   have hPl:P.length≤12800:=by rw [dR] at zb;omega
   refine ε.loop (fun s:Int×List (Int×Int)=>∃j:Nat,s.1=(j:Int)∧j≤d.Ψ.length∧OI t (P++(d.Ψ.take j).map fun e=>(e.ι,q9 t.η q d.ι)) s.2) (fun s=>d.Ψ.length-s.1.toNat) ?_ _ ⟨0,rfl,by omega,by simpa using hO⟩;rintro ⟨s0,M'⟩ ⟨j,e1,hj,Ba⟩;dsimp only at e1 Ba;subst e1;unfold H_;dsimp only;by_cases s9:j<d.Ψ.length
   ·have lF:=bU s9;have Bw:=eI s9
    have I4:d.Ψ.take (j+1)=d.Ψ.take j++[d.Ψ[j]]:=by rw [qT,lF];rfl
    have her:=h.eR bI Bw;have hMl:=Ba.l;rw [dj,az,dR] at hMl;have nO:=hf.x;generalize d.Ψ[j]=e at *
    have MQ:∀p,p∈P→p∈AZ t q:=fun p hp=>by
     unfold AZ;rw [←hP] at hp;obtain ⟨d',bH,hp⟩:=Ld.1 hp;exact Ld.2 ⟨d',G6 bH,hp⟩
    have Tt:∀e,e∈d.Ψ→(e.ι,q9 t.η q d.ι)∈AZ t q:=fun e he=>Ld.2 ⟨d,bI,c9.2 ⟨e,he,rfl⟩⟩;refine ε.cond (by simpa using s9) (ε.ai (cL lF) (ε.ai (tG hu.s hn e.ι) (ε.ai rfl ?_)));dsimp only;refine ε.bind (R:=(·=decide ((gD t.η e.ι).ξ=1∧∃w,bn e.ι M'=some w∧w≠q9 t.η q d.ι))) ?_ fun v hv=>?_
    ·refine ε.bind (R:=(·=decide ((gD t.η e.ι).ξ=1∧(bn e.ι M').isSome=true))) (ε.ite (fun e'=>ε.ret ?_) fun e'=>ε.ret ?_) fun v hv=>ε.bind (R:=(·=decide ((gD t.η e.ι).ξ=1∧∃w,bn e.ι M'=some w∧w≠q9 t.η q d.ι))) ?_ fun v hv=>ε.ret hv
     ·have e':(gD t.η e.ι).ξ=1:=by simpa using e'
      rw [qL,decide_eq_true_eq];simp [e']
     ·have e':¬(gD t.η e.ι).ξ=1:=by simpa using e'
      symm;rw [decide_eq_false_iff_not];simp [e']
     ·subst hv;refine ε.ite (fun e'=>ε.ret ?_) fun e'=>ε.ret ?_
      ·rw [decide_eq_true_eq] at e';obtain ⟨w,hw⟩:=nk.1 e'.2;rw [qL,decide_eq_true_eq,hw];simp [e'.1]
      ·rw [decide_eq_true_eq] at e';symm;rw [decide_eq_false_iff_not];rintro ⟨h1,w,h2,h3⟩;exact e' ⟨h1,by rw [h2];rfl⟩
    ·subst hv;refine ε.ite (fun e'=>?_) fun e'=>?_
     ·rw [decide_eq_true_eq] at e';obtain ⟨e2,w,e3,e4⟩:=e';refine ε.out (ε.out (ε.ret ⟨fun h=>(by cases h),fun hO1=>?_⟩));exfalso;have kQ:=Ba.a _ _ e3;refine e4 (hO1 e.ι w _ ?_ (Tt e Bw) e2)
      rcases gl.1 kQ with kQ|kQ
      ·exact MQ _ kQ
      ·obtain ⟨e5,h5,h6⟩:=c9.1 kQ;rw [←h6];exact Tt e5 (G6 h5)
     ·rw [decide_eq_true_eq] at e';refine ε.Ω ⟨by unfold Θ;omega,by omega⟩ (ε.Ω (by unfold Θ;omega) (ε.inl ⟨⟨j+1,by dsimp only;omega,s9,?_⟩,by dsimp only;omega⟩));rw [I4,fu,←lN];exact Ba.step fun w hw hk=>Zc fun hc=>e' ⟨hk,w,hw,hc⟩
   ·have:j=d.Ψ.length:=by omega
    subst this;rw [jK] at Ba;refine ε.cR (by simp) (ε.out ?_);unfold A4;refine ε.Ω (by unfold Θ;omega) (ε.inl ⟨⟨k+1,by dsimp only;omega,Φ,?_⟩,by dsimp only;omega⟩);rw [gC,Zu,hP];simpa using Ba
 ·have:k=t.η.length:=by omega
  subst this;rw [jK] at hO;unfold Ia;refine ε.cR (by simp) (ε.out (ε.ret ⟨fun _ j x y hx hy hk=>?_,fun _=>rfl⟩));have h1:=hO.b j x hx hk;have h2:=hO.b j y hy hk;rw [h1] at h2;exact Option.some.inj h2
end
end
section
def ε.OK {ρ:Type} {e:Int} {p:Int→Option ρ} {k:Unit→Option ρ} {Q:ρ→Prop} (h0:e=0→ε (k ()) Q) (h1:e≠0→ε (p e) Q):ε ((iu e).bind fun x=>bQ x p k) Q:=by
 unfold iu;by_cases he:e=0
 ·rw [if_neg (by simp [he])];exact h0 he
 ·rw [if_pos (by simpa using he)];exact h1 he
def ε.check {ρ:Type} {b:Bool} {e:Int} {p:Int→Option ρ} {k:Unit→Option ρ} {Q:ρ→Prop} (he:e≠0) (h0:b=true→ε (k ()) Q) (h1:b=false→ε (p e) Q):ε ((ph b e).bind fun x=>bQ x p k) Q:=by
 unfold ph iu;cases b with
 |true=>rw [if_neg (by simp)];exact h0 rfl
 |false=>rw [if_pos (by simp),if_pos (by simpa using he)];exact h1 rfl
section
variable {B:Nat} {t:ψ}
noncomputable def Fg (t:ψ) (q:List aA):Bool:=(yn t q).getD false
def Ww (h:RT t) (hf:TF B t) (hB:B≤4000) {q:List aA} (hq:j5 q) (oH:q.length≤1000000):yn t q=some (Fg t q)∧(Fg t q=true↔RH t q):=by
 obtain ⟨r,h1,h2⟩:=afM h hf hB hq oH;unfold Fg;rw [h1];exact ⟨rfl,h2⟩
noncomputable def zD (t:ψ) (q:aA):Bool:=!(decide ((r_ t q.ι).1≤q.η)&&decide ((r_ t q.ι).2≤q.AI))
def oB (l:List ay) (t:ψ) (i:Int):ψ:=if ru l i=true then t else (we t i).1
def jo (t:ψ) (l:List ay):ψ:=((t.η.filter lZ).map (·.ι)).foldl (oB l) t
def tp (t:ψ) (q:List aA):List aA:=q.filter fun x=>(gN t.η x.ι).isSome
noncomputable def rX (t:ψ) (l:List ay) (q:List aA):Int⊕(ψ×List aA) :=
 if (!Fg (jo t l) (tp (jo t l) q))=true then .inl 91
 else if (tp (jo t l) q).any (zD (jo t l))=true then .inl 90
 else .inr (jo t l,tp (jo t l) q)
structure RF (B:Nat) (t:ψ):Prop where
 r:RT t
 f:TF B t
def RF.fr (h:RF B t) (l:List ay) (i:Int):RF B (oB l t i):=by
 unfold oB;split
 ·exact h
 ·exact ⟨h.r.free i,h.f.S6 i⟩
def RF.Ms (l:List ay):∀(o:List Int) {t:ψ},RF B t→RF B (o.foldl (oB l) t)
 |[],_,h=>h
 |i::o,_,h=>RF.Ms l o (h.fr l i)
def RF.settle (h:RF B t) (l:List ay):RF B (jo t l):=RF.Ms l _ h
def VA (t:ψ) {q:List aA} (hq:j5 q):j5 (tp t q)∧(tp t q).length≤q.length:=⟨List.Pairwise.filter _ hq,l_ _ _⟩
def afF (h:dY t.η) (hn:t.η.length≤1000000) {q:List aA} (hl:q.length≤1000000):Kt q t=some (tp t q):=by
 have hd:=Ss (C:=fun x=>D6 x t) (p:=fun x=>!(gN t.η x.ι).isSome) (l:=q) (z:=⟨0,0,0⟩) (fun x _=>by
  unfold D6
  rw [tG h hn];rfl) hl
 have e:(q.filter fun x=>!!(gN t.η x.ι).isSome)=tp t q:=by unfold tp;congr 1;funext x;simp
 rw [e] at hd;exact hd
def SI.JN {k:Nat} {s:bx} (h:SI k s) (hk:k≤200) {t:ψ} (ht:dY t.η) (hf:TF (2+5*k+5) t):PF (2+5*k+5) s t :=
 ⟨h.f.up (by omega),hf,by omega,h.t.s,ht,h.si,by have:=h.tk;omega,by have:=h.ps;omega,by have:=h.ta;omega⟩
def afV {k:Nat} {s:bx} (hs:SI k s) (hk:k≤60) (h:RF (2+5*k+5) t) {H:List ay} (hH:H.length≤1000) {q:List aA} (hq:j5 q) (oH:q.length≤1000) (q0:List aA) (xK xL:Int) (a12 xM:List UInt8) (xN xO xP:Int) (a17:List UInt8) (xQ xR a20 a21 a22:Int) :
  qd t q s.Γ.η s.Γ.Next s.Γ.aj s.bc s.a_ s.aU s.aW s.Next H q0 xK xL a12 xM xN xO xP a17 xQ xR a20 a21 a22=some ((rX t H q).map id fun z=>((eY s z.1).Γ.η,(eY s z.1).Γ.Next,(eY s z.1).Γ.aj,(eY s z.1).bc,(eY s z.1).a_,(eY s z.1).aU,(eY s z.1).aW,(eY s z.1).Next,z.2)):=by
 have hn:=h.f.n;refine ε.eq ?_;unfold qd;refine ε.ai (a:=((jo t H).η,(jo t H).Next,(jo t H).aj)) ?_ ?_
 ·refine ε.eq (ε.ai (afg (by omega)) ?_);unfold S' jo;generalize hO:(t.η.filter lZ).map (·.ι)=O
  have hOl:O.length≤1000000:=by rw [←hO,az];exact fi (l_ _ _) (by omega)
  refine ε.loop (fun s:Int×List τ×Int×Int=>∃j:Nat,s.1=(j:Int)∧j≤O.length∧(O.take j).foldl (oB H) t=⟨s.2.1,s.2.2.1,s.2.2.2⟩) (fun s=>O.length-s.1.toNat) ?_ _ ⟨0,rfl,by omega,rfl⟩;rintro ⟨s0,N,X,C⟩ ⟨j,e1,hj,e2⟩;dsimp only at e1 e2;subst e1;have hR:RF (2+5*k+5) (⟨N,X,C⟩:ψ):=e2▸RF.Ms H (O.take j) h;unfold Ii;dsimp only;by_cases Φ:j<O.length
  ·have hx:=bU Φ
   have gC:O.take (j+1)=O.take j++[O[j]]:=by rw [qT,hx];rfl
   have Bh:(O.take (j+1)).foldl (oB H) t=oB H ⟨N,X,C⟩ O[j]:=by rw [gC,G4,e2];rfl
   refine ε.cond (by simpa using Φ) (ε.bind (R:=fun v=>(⟨v.1,v.2.1,v.2.2⟩:ψ)=oB H ⟨N,X,C⟩ O[j]) (ε.ai (cL hx) (ε.ai (afE H _ (by omega)) ?_)) fun v hv=>ε.Ω (by unfold Θ;omega) (ε.inl ⟨⟨j+1,by dsimp only;omega,Φ,?_⟩,by dsimp only;omega⟩))
   ·unfold oB;by_cases e:ru H O[j]=true
    ·simp only [if_pos e];exact ε.cR (by simp [e]) (ε.ret rfl)
    ·simp only [if_neg e];exact ε.cond (by simpa using e) (ε.ai (V_ hR.r.s hR.f (by omega) _) (ε.ret rfl))
   ·rw [Bh];exact hv.symm
  ·have:j=O.length:=by omega
   subst this;rw [jK] at e2;exact ε.cR (by simp) (ε.out (ε.ret (by rw [e2])))
 have hR:=h.settle H;unfold rX;generalize jo t H=T at *;have hnT:=hR.f.n;dsimp only;refine ε.ai (HG (by omega)) (ε.ai (afF (t:=T) hR.r.s (by omega) (by omega)) ?_);obtain ⟨k1,k2⟩:=VA T hq;generalize tp T q=Q at *;refine ε.ai (Ww hR.r hR.f (by omega) k1 (by omega)).1 ?_;refine ε.check (by decide) (fun hb=>?_) fun hb=>?_;rotate_left
 ·rw [hb,if_pos (by rfl)];exact ε.ret rfl
 rw [hb,if_neg (by simp)];unfold Ta;have hu:=hR.r.ut hR.f (by omega);refine ε.loop (fun n:Int=>∃j:Nat,n=(j:Int)∧j≤Q.length∧(Q.take j).any (zD T)=false) (fun n=>Q.length-n.toNat) ?_ _ ⟨0,rfl,by omega,rfl⟩;rintro n ⟨j,rfl,hj,bp⟩;unfold Ij;by_cases Φ:j<Q.length
 ·have hx:=bU Φ
  have gC:Q.take (j+1)=Q.take j++[Q[j]]:=by rw [qT,hx];rfl
  refine ε.cond (by simpa using Φ) (ε.ai (cL hx) (ε.ai (WD (t:=T) hu Q[j].ι).1 ?_));refine ε.bind (R:=(·=!zD T Q[j])) ?_ fun v hv=>?_
  ·unfold zD;rw [Bool.not_not];exact ε.ite (fun e=>ε.ret (by rw [e];rfl)) fun e=>ε.ret (by rw [ia.2 e];rfl)
  subst hv;refine ε.check (by decide) (fun ho=>?_) fun ho=>?_
  ·have ho:zD T Q[j]=false:=by simpa using ho
   unfold Il;refine ε.Ω (by unfold Θ;omega) (ε.inl ⟨⟨j+1,by omega,Φ,?_⟩,by omega⟩);rw [gC,List.any_append,bp];simp [ho]
  ·have ho:zD T Q[j]=true:=by simpa using ho
   have:Q.any (zD T)=true:=Dc.2 ⟨_,eI Φ,ho⟩;rw [this,if_pos rfl];exact ε.out (ε.ret rfl)
 ·have:j=Q.length:=by omega
  subst this;rw [jK] at bp;refine ε.cR (by simp) (ε.out ?_);unfold Ik;rw [bp];have hp:=OY (hs.JN (by omega) hR.r.s hR.f);refine ε.ai (x:=tU s T) hp (ε.ret ?_);rfl
end
abbrev dW {α:Type} (F:List τ→Int→Int→Int→List Int→List br→List bd→Int→List ay→List aA→Int→Int→List UInt8→List UInt8→Int→Int→Int→List UInt8→Int→Int→Int→Int→Int→α) (f:db) (o:bF):α:=F f.S.Γ.η f.S.Γ.Next f.S.Γ.aj f.S.bc f.S.a_ f.S.aU f.S.aW f.S.Next f.Holds f.bb o.ξ o.aL o.cm o.To o.N o.M o.bq o.aC 0 0 0 0 0
abbrev s8 {β:Type} (s:bx) (r:β):=(s.Γ.η,s.Γ.Next,s.Γ.aj,s.bc,s.a_,s.aU,s.aW,s.Next,r)
end
section
section
variable {B:Nat} {t:ψ}
def AL (t:ψ) (i a b:Int) (r:List aO×Int×Int):Prop :=
 if (decide (a<0)||decide (b<1)||decide (b>64))=true then r=([],0,1)
 else if ((dz t.η i).2 != 0)=true then r=([],0,(dz t.η i).2)
 else ∃L:List aO,L.Perm ((dz t.η i).1.Ψ.filter fun e=>!decide (e.aj<a))∧L.Pairwise (fun x y=>¬y.aj<x.aj) ∧
  (if (L.length:Int)≤b then r=(L,0,0) else ∃x,L[(b-1).toNat]?=some x∧r=(L.take b.toNat,x.aj+1,0))
def afb (h:ST B t) (hB:B≤90000) {i:Int} (hk:(dz t.η i).1.Ψ.Pairwise fun a b=>a.aj≠b.aj) (hc:∀e,e∈(dz t.η i).1.Ψ→0≤e.aj∧e.aj≤1000000000000000) (a b:Int):ε (xf t i a b) (AL t i a b):=by
 have hE:=L4 h.f i;unfold xf AL
 refine ε.bind (R:=(·=(decide (a<0)||decide (b<1)||decide (b>64)))) (ε.bind (R:=(·=(decide (a<0)||decide (b<1)))) (ε.ite (fun e=>ε.ret (by rw [e];rfl)) fun e=>ε.ret (by rw [ia.2 e];rfl)) fun v hv=>ε.bind (R:=(·=(decide (a<0)||decide (b<1)||decide (b>64)))) (by
  subst hv
  exact ε.ite (fun e=>ε.ret (by rw [e];rfl)) fun e=>ε.ret (by rw [ia.2 e];rfl)) fun v hv=>ε.ret hv) fun v hv=>?_
 subst hv;by_cases h0:(decide (a<0)||decide (b<1)||decide (b>64))=true
 ·simp only [if_pos h0];exact ε.ret rfl
 simp only [if_neg h0];simp only [ug,decide_eq_true_eq,not_or] at h0;refine ε.ai (JF h (by omega) i) ?_;dsimp only;by_cases h1:((dz t.η i).2 != 0)=true
 ·simp only [if_pos h1];exact ε.ret rfl
 simp only [if_neg h1];generalize (dz t.η i).1.Ψ=E at *;have hd:=Ss (C:=fun x=>KM x a) (p:=fun x=>decide (x.aj<a)) (l:=E) (z:=⟨[],0,0⟩) (fun x _=>rfl) (by omega);refine ε.ai (sF (l:=E) (K:=32) (by omega)) (ε.ai (x:=Ks E a) hd ?_);have hFl:(E.filter fun e=>!decide (e.aj<a)).length≤E.length:=l_ _ _;obtain ⟨L,l1⟩:=Qi OC (k:=fun e:aO=>e.aj) (l:=E.filter fun e=>!decide (e.aj<a)) (hk.filter _);obtain ⟨l2,l3⟩:=Gg OC l1;refine ε.ai (XE (by omega) l1) ?_;have Tu:=l2.length_eq
 have Vu:L.Pairwise (fun x y=>¬y.aj<x.aj):=l3.imp fun h hc=>by have:=jx.1 h;omega
 by_cases hle:(L.length:Int)≤b
 ·refine ε.cond (by simpa using hle) (ε.ret ⟨L,l2,Vu,?_⟩);rw [if_pos hle]
 ·have hb:(b-1).toNat<L.length:=by omega
  have hx:=bU hb;have hm:L[(b-1).toNat]∈E:=(ek.1 (l2.mem_iff.1 (eI hb))).1;have eP:=hc _ hm
  have e1:b-1=(((b-1).toNat:Nat):Int):=by omega
  refine ε.cR (by simpa using hle) (ε.Ω ⟨by omega,by omega,by omega⟩ (ε.Ω (by unfold Θ;omega) ?_));refine ε.ai (by rw [e1];exact cL hx) (ε.Ω (by unfold Θ;omega) (ε.ret ⟨L,l2,Vu,?_⟩));rw [if_neg hle];exact ⟨_,hx,rfl⟩
noncomputable def rP (t:ψ) (i a b:Int):List aO×Int×Int:=(xf t i a b).getD ([],0,0)
def RT.ck2 (h:RT t) (hf:TF B t) (hB:B≤90000) (i:Int):∀e,e∈(dz t.η i).1.Ψ→0≤e.aj∧e.aj≤1000000000000000:=by
 intro e he
 have:(dz t.η i).1=gD t.η i∨(dz t.η i).1=jX:=by
  unfold dz;split
  ·split
   ·exact .inr rfl
   ·exact .inl rfl
  ·exact .inr rfl
 rcases this with h1|h1
 ·rw [h1] at he
  rcases wi t.η i with ⟨n,g1,g2⟩|⟨g1,g2⟩
  ·rw [g2] at he;have:=(h.en n (dM g1).1).r e he;have:=hf.c;omega
  ·rw [g2] at he;cases he
 ·rw [h1] at he;cases he
def JG (h:RT t) (hf:TF B t) (hB:B≤90000) (i a b:Int):xf t i a b=some (rP t i a b)∧AL t i a b (rP t i a b):=by
 have hk:(dz t.η i).1.Ψ.Pairwise fun a b=>a.aj≠b.aj:=by
  unfold dz;split
  ·split
   ·exact jr
   ·rcases wi t.η i with ⟨n,g1,g2⟩|⟨g1,g2⟩
    ·rw [g2];exact (h.en n (dM g1).1).k
    ·rw [g2];exact jr
  ·exact jr
 obtain ⟨r,h1,h2⟩:=afb (h.st hf) hB hk (h.ck2 hf hB i) a b;unfold rP;rw [h1];exact ⟨rfl,h2⟩
def Wt {l:List aO} (hl:l.length≤1000000):ym l=some (l.map (·.aN)):=by
 have:Mt l (0,[])=some (l.map (·.aN)):=by
  unfold Mt;refine ε.eq ?_;refine ε.loop (fun s:Int×List (List UInt8)=>∃n:Nat,s.1=n∧n≤l.length∧s.2=(l.take n).map (·.aN)) (fun s=>l.length-s.1.toNat) ?_ _ ⟨0,rfl,by omega,rfl⟩;rintro ⟨s0,o⟩ ⟨n,e1,hn,e2⟩;dsimp only at e1 e2;subst e1;subst e2;unfold H8;dsimp only;by_cases Φ:n<l.length
  ·have hx:=bU Φ
   have gC:l.take (n+1)=l.take n++[l[n]]:=by rw [qT,hx];rfl
   refine ε.cond (by simpa using Φ) (ε.ai (cL hx) (ε.Ω (by simp only [az,dR,cZ,ig];omega) (ε.Ω (by unfold Θ;omega) (ε.inl ⟨⟨n+1,by dsimp only;omega,Φ,?_⟩,by dsimp only;omega⟩))));dsimp only;rw [gC,fu];rfl
  ·have:n=l.length:=by omega
   subst this;exact ε.cR (by simp) (ε.out (ε.ret (by rw [jK])))
 unfold ym;rw [this];rfl
def FX (n:τ):Int:=max (n.aC.length:Int) (n.Ψ.length:Int)
structure NB (n:τ):Prop where
 i:0≤n.ι∧n.ι<5000
 e:∀e,e∈n.Ψ→0≤e.ι∧e.ι<5000∧e.aN.length≤32
 l:n.Ψ.length≤64
 d:n.aC.length≤4096
 k:n.ξ=1∨n.ξ=2
 n:-100000≤n.aZ∧n.aZ≤100000
def RT.nb (h:RT t) (hf:TF B t) (hB:B≤4000) {n:τ} (hn:n∈t.η):NB n:=by
 have h1:=h.lo n hn;have h2:=hf.x;have h3:=hf.l n hn;refine ⟨by omega,fun e he=>?_,(h.en n hn).n,h.data hn,(h.nd n hn).kind,by omega⟩;have h4:=h.eR hn he;have h5:=(BT ((h.en n hn).r e he).1).2.2;exact ⟨by omega,by omega,h5⟩
structure SK (s:bx):Prop where
 n:∀n,n∈s.Γ.η→NB n
 p:∀p,p∈s.aU→NB p.fj
 t:∀x,x∈s.aW→0≤x.ι∧x.ι<5000
section
variable {k:Nat} {s:bx}
def SK.Th (h:SK s) (a:Int):xE (allM s a)∧∀j n,bn j (allM s a)=some n→NB n:=by
 have key:∀j n,bn j (allM s a)=some n→NB n∧n.ι=j:=fun j n hg=>by
  unfold allM at hg
  rcases OQ a j n _ _ hg with ⟨q,h1,h2,h3,h4⟩|hg
  ·rw [←h2];exact ⟨h.n q.1 (Lf h1).1,by rw [h2];exact h3⟩
  ·rcases O8 a j n _ _ hg with ⟨p,h1,h2,h3,h4⟩|hg
   ·rw [←h2];exact ⟨h.p p h1,by rw [h2];exact h3⟩
   ·cases hg
 exact ⟨⟨fun j n hg=>(key j n hg).2,fun j n hg e he=>by have:=(key j n hg).1.e e he;exact ⟨this.1,this.2.1⟩,fun j n hg=>by have:=(key j n hg).1.l;omega⟩,fun j n hg=>(key j n hg).1⟩
noncomputable def xT (s:bx) (i:Int):Int×List τ×Int:=(w8 s i).getD (0,[],0)
def aeO (hs:SI k s) (hk:k≤100) (h:SK s) (i:Int):w8 s i=some (xT s i)∧(∀n,n∈(xT s i).2.1→NB n)∧(xT s i).2.1.length≤5000∧Θ (xT s i).1∧Θ (xT s i).2.2:=by
 have hT:ε (w8 s i) (fun r=>(∀n,n∈r.2.1→NB n)∧r.2.1.length≤5000∧Θ r.1∧Θ r.2.2):=by
  unfold w8 Xo;have wL:=hs.ta;refine ε.loop (fun n:Int=>∃j:Nat,n=(j:Int)∧j≤s.aW.length) (fun n=>s.aW.length-n.toNat) ?_ _ ⟨0,rfl,by omega⟩;rintro n ⟨j,rfl,hj⟩;unfold Ke;by_cases Φ:j<s.aW.length
  ·have hx:=bU Φ;refine ε.cond (by simpa using Φ) (ε.ai (cL hx) (ε.ite (fun _=>?_) fun _=>ε.Ω (by unfold Θ;omega) (ε.inl ⟨⟨j+1,by omega,Φ⟩,by omega⟩)));have NI:=hs.ps;have dE:=hs.f.n;have jF:=h.t _ (eI Φ);obtain ⟨g1,g2⟩:=h.Th s.aW[j].At;refine ε.bind (afz s s.aW[j] (by omega) (fun p hp=>by have:=(h.p p hp).i;unfold Θ;omega) (by omega) hs.si (fun n hn=>by have:=(h.n n hn).i;unfold Θ;omega) g1 jF) fun r hr=>ε.out (ε.ret ?_);obtain ⟨h1,h2,-⟩:=hr;have Tw:∀n,n∈r.1→NB n:=fun n hn=>g2 _ _ ((h2 n).1 hn).2;refine ⟨Tw,?_,by unfold Θ;dsimp only;omega,by unfold Θ;dsimp only;omega⟩
   have:=E4 5000 (r.1.map (·.ι)) (by rw [ZD];exact h1.imp fun h=>by omega) fun x hx=>by
    obtain ⟨n,hn,rfl⟩:=c9.1 hx;exact (Tw n hn).i
   rw [az] at this;exact this
  ·refine ε.cR (by simpa using Φ) (ε.out (ε.ret ⟨fun n hn=>(by cases hn),by simp,by unfold Θ;decide,by unfold Θ;decide⟩))
 obtain ⟨r,h1,h2⟩:=hT;unfold xT;rw [h1];exact ⟨rfl,h2⟩
end
end
end
section
def bS {α β:Type} (v:Int⊕α) (k:α→Int⊕β):Int⊕β:=match v with|.inl e=>.inl e|.inr a=>k a
def mS {β:Type} (e:Int) (v:Int⊕β):Int⊕β:=if (e != 0)=true then .inl e else v
def bZ {α β:Type} (g:α→β) (v:Int⊕α):Int⊕β:=match v with|.inl e=>.inl e|.inr a=>.inr (g a)
def aej {α β:Type} (g:α→β) (v:Int⊕α):v.map id g=bZ g v:=by cases v<;>rfl
def ε.bS {α β γ δ:Type} {x:Option (Int⊕α)} {g:β→α} {v:Int⊕β} {k:α→Option (Int⊕γ)} {w:β→Int⊕δ} {g2:δ→γ} (hx:x=some (bZ g v)) (hk:∀b,v=.inr b→ε (k (g b)) (·=bZ g2 (w b))) :
  ε (x.bind fun r=>bQ r (fun e=>some (.inl e)) k) (·=bZ g2 (Go.Proofs.bS v w)):=by
 subst hx;cases v with
 |inl e=>exact ε.ret rfl
 |inr b=>exact hk b rfl
def ε.mS {γ δ:Type} {e:Int} {k:Unit→Option (Int⊕γ)} {v:Int⊕δ} {g2:δ→γ} (hk:e=0→ε (k ()) (·=bZ g2 v)) :
  ε ((iu e).bind fun r=>bQ r (fun e=>some (.inl e)) k) (·=bZ g2 (Go.Proofs.mS e v)):=by
 refine ε.OK (fun h=>?_) fun h=>?_
 ·unfold Go.Proofs.mS;rw [if_neg (by simp [h])];exact hk h
 ·unfold Go.Proofs.mS;rw [if_pos (by simpa using h)];exact ε.ret rfl
def my {α β:Type} {v:Int⊕α} {k:α→Int⊕β} {r:β} (h:bS v k=.inr r):∃a,v=.inr a∧k a=.inr r:=by
 cases v with
 |inl e=>cases h
 |inr a=>exact ⟨a,rfl,h⟩
def lY {β:Type} {e:Int} {v:Int⊕β} {r:β} (h:mS e v=.inr r):e=0∧v=.inr r:=by
 unfold mS at h;split at h
 ·cases h
 ·rename_i he;exact ⟨by simpa using he,h⟩
def jl (t:ψ) (p:List UInt8):Int⊕τ:=mS (qG t p).2 (.inr (gD t.η (qG t p).1))
def tW (t:ψ) (p:List UInt8):Int⊕(Int×List UInt8):=mS (oN p).2.2 (mS (qG t (oN p).2.1).2 (.inr ((qG t (oN p).2.1).1,(oN p).1)))
def Fe (n:τ):Int×Int×Int×List UInt8×List aO×Int:=(n.ι,n.ξ,n.aZ,n.aC,n.Ψ,n.Up)
def adR {p:List UInt8}:(oN p).2.1.length≤400∧Θ (oN p).2.2:=by
 unfold oN;obtain ⟨h1,h2,h3⟩:=Gi (p:=p);split
 ·refine ⟨adJ (fun s hs=>h1 s (List.dropLast_subset _ hs)) (by simp;omega),by unfold Θ;dsimp only;omega⟩
 ·exact ⟨by simp,by unfold Θ;dsimp only;omega⟩
section
variable {B:Nat} {t:ψ}
def Wu (hs:dY t.η) (hn:t.η.length≤1000000) (i:Int) {a3:Int} {a4:List Int} {a5:List br} {a6:List bd} {a7:Int} {a8:List ay} {a9:List aA} {xK xL:Int} {a12 xM:List UInt8} {xN xO xP:Int} {a17:List UInt8} {xQ xR a20 a21 a22:Int}:A5 i t.η t.Next t.aj a3 a4 a5 a6 a7 a8 a9 xK xL a12 xM xN xO xP a17 xQ xR a20 a21 a22=some (Fe (gD t.η i)):=by
 unfold A5;show ((l7 t i).bind _)=_;rw [tG hs hn];rfl
def zH (h:ST B t) (hB:B≤90000) (p:List UInt8) (hp:p.length≤100000) {a3:Int} {a4:List Int} {a5:List br} {a6:List bd} {a7:Int} {a8:List ay} {a9:List aA} {xK xL:Int} {a12 xM:List UInt8} {xN xO xP:Int} {a17:List UInt8} {xQ xR a20 a21 a22:Int}:re p t.η t.Next t.aj a3 a4 a5 a6 a7 a8 a9 xK xL a12 xM xN xO xP a17 xQ xR a20 a21 a22=some (bZ Fe (jl t p)):=by
 refine ε.eq ?_;unfold re jl;refine ε.ai (x:=xg t p) (Wc h hB p hp) (ε.mS fun _=>?_);exact ε.ai (Wu h.s (h.n (by omega)) _) (ε.ret rfl)
def Fo (h:ST B t) (hB:B≤90000) (p:List UInt8) (hp:p.length≤100000) {a3:Int} {a4:List Int} {a5:List br} {a6:List bd} {a7:Int} {a8:List ay} {a9:List aA} {xK xL:Int} {a12 xM:List UInt8} {xN xO xP:Int} {a17:List UInt8} {xQ xR a20 a21 a22:Int}:uD p t.η t.Next t.aj a3 a4 a5 a6 a7 a8 a9 xK xL a12 xM xN xO xP a17 xQ xR a20 a21 a22=some (bZ id (tW t p)):=by
 refine ε.eq ?_;unfold uD tW;have:=(adR (p:=p)).1;refine ε.ai (afa p hp) (ε.mS fun _=>ε.ai (x:=xg t (oN p).2.1) (Wc h hB _ (by omega)) (ε.mS fun _=>ε.ret rfl))
end
noncomputable def jq {α:Type} (t:ψ) (H:List ay) (Q:List aA) (x:α):Int⊕(ψ×List aA×α):=bS (rX t H Q) fun z=>.inr (z.1,z.2,x)
noncomputable def u_ (t:ψ) (H:List ay) (Q:List aA) (o:bF):Int⊕(ψ×List aA×Int):=bS (tW t o.cm) fun y=>mS (mw t y.1 y.2 o.N).2.2 (jq (mw t y.1 y.2 o.N).1 H Q (mw t y.1 y.2 o.N).2.1)
noncomputable def zy (t:ψ) (H:List ay) (Q:List aA) (o:bF):Int⊕(ψ×List aA×Int):=bS (jl t o.cm) fun n=>bS (tW t o.To) fun y=>mS (tr t n.ι y.1 y.2).2 (jq (tr t n.ι y.1 y.2).1 H Q n.ι)
noncomputable def Ak (t:ψ) (H:List ay) (Q:List aA) (o:bF):Int⊕(ψ×List aA×Int):=bS (tW t o.cm) fun y=>mS (qE t y.1 y.2).2.2 (jq (qE t y.1 y.2).1 H Q (qE t y.1 y.2).2.1)
noncomputable def wS (t:ψ) (H:List ay) (Q:List aA) (o:bF):Int⊕(ψ×List aA×Int):=bS (tW t o.cm) fun y=>bS (tW t o.To) fun w=>mS (eT t y.1 y.2).2 (mS (qw t y.1 y.2 w.1 w.2).2.2 (jq (qw t y.1 y.2 w.1 w.2).1 H Q (eT t y.1 y.2).1))
noncomputable def zx (t:ψ) (H:List ay) (Q:List aA) (o:bF):Int⊕(ψ×List aA×Int):=bS (jl t o.cm) fun n=>mS (vj t Q n.ι o.N o.M).2 (jq t H (vj t Q n.ι o.N o.M).1 n.ι)
def nE (t:ψ) (H:List ay) (o:bF):Int⊕τ:=mS (qt H o.aL o.bq).2 (if decide (o.N≥0)=true then .inr (gD t.η (qt H o.aL o.bq).1) else .inl 1)
noncomputable def oC (t:ψ) (H:List ay) (Q:List aA) (i:Int) (d:List UInt8):Int⊕(ψ×List aA×Int×Int):=mS (nX t i d).2 (jq (nX t i d).1 H Q (i,(d.length:Int)))
def xk (d:List UInt8) (o:bF):List UInt8:=if decide ((o.aC.length:Int)>0)=true then HJ (d++List.replicate ((max (((o.N+(o.aC.length:Int))-(d.length:Int))) (0))).toNat ((0:UInt8))) o.N.toNat o.aC else d
noncomputable def Aq (t:ψ) (H:List ay) (Q:List aA) (o:bF):Int⊕(ψ×List aA×Int×Int):=bS (nE t H o) fun n=>if decide (o.N≤4096)=true then (if decide (o.N+(o.aC.length:Int)≤4096)=true then oC t H Q n.ι (xk n.aC o) else .inl 2) else .inl 1
noncomputable def yf (t:ψ) (H:List ay) (Q:List aA) (o:bF):Int⊕(ψ×List aA×Int×Int):=bS (nE t H o) fun n=>oC t H Q n.ι (n.aC.take (min o.N (n.aC.length:Int)).toNat)
def JX (d:List UInt8) (o:bF):List UInt8:=(d.drop (min o.N (d.length:Int)).toNat).take (min o.M ((d.drop (min o.N (d.length:Int)).toNat).length:Int)).toNat
def zR (t:ψ) (H:List ay) (o:bF):Int⊕(Int×List UInt8):=bS (nE t H o) fun n=>if (decide (o.M≥0)&&decide (o.M≤4096))=true then .inr (n.ι,JX n.aC o) else .inl 1
noncomputable def E5 (t:ψ) (o:bF):Int⊕(Int×List (List UInt8)):=bS (jl t o.cm) fun n=>mS (rP t n.ι o.N o.M).2.2 (.inr ((rP t n.ι o.N o.M).2.1,(rP t n.ι o.N o.M).1.map (·.aN)))
def Fh (t:ψ) (H:List ay) (o:bF):Int⊕(List ay×Int):=bS (jl t o.cm) fun n=>mS (mW t H o.aL o.bq n.ι).2 (.inr ((mW t H o.aL o.bq n.ι).1,n.ι))
def Dy (t:ψ) (H:List ay) (o:bF):Int⊕(ψ×List ay):=mS (fJ t H o.aL o.bq).2.2 (.inr ((fJ t H o.aL o.bq).1,(fJ t H o.aL o.bq).2.1))
structure FI (k:Nat) (f:db):Prop where
 s:SI k f.S
 r:RT f.S.Γ
 k:SK f.S
 h:mr f.Holds
 hl:f.Holds.length≤64
 q:j5 f.bb
 ql:f.bb.length≤16
structure OB (o:bF):Prop where
 p:o.cm.length≤1000
 t:o.To.length≤1000
 d:o.aC.length≤5000
 n:Θ o.N
 m:Θ o.M
 k:Θ o.ξ
 c:Θ o.aL
 h:Θ o.bq
def TF.Ho {B:Nat} {t:ψ} (h:TF B t) (hB:B≤90000) (i:Int) (s:List UInt8) (k:Int):TF (B+5) (mw t i s k).1:=by
 unfold mw;split
 ·exact h.up (by omega)
 split
 ·exact h.up (by omega)
 split
 ·exact h.up (by omega)
 ·exact ((h.RO k _).uA i s t.Next).up (by omega)
def TF.VE {B:Nat} {t:ψ} (h:TF B t) (hB:B≤90000) (i to:Int) (s:List UInt8):TF (B+5) (tr t i to s).1:=by
 unfold tr;split
 ·exact h.up (by omega)
 split
 ·exact h.up (by omega)
 split
 ·exact h.up (by omega)
 ·exact ((h.VD i).uA to s i).up (by omega)
def TF.Ye {B:Nat} {t:ψ} (h:TF B t) (hB:B≤90000) (i:Int) (s:List UInt8):TF (B+5) (qE t i s).1:=by
 unfold qE;split
 ·exact h.up (by omega)
 split
 ·exact h.up (by omega)
 ·exact ((h.qv i s).un _).up (by omega)
def TF.OL {B:Nat} {t:ψ} (h:TF B t) (hB:B≤90000) (fr:Int) (s:List UInt8) (to:Int) (aJ:List UInt8):TF (B+5) (qw t fr s to aJ).1:=by
 unfold qw
 repeat (split;exact h.up (by omega))
 exact ((h.ko (C:=B+3) (h.iU _ _ _ _ _ _) (by omega) _ _).uA _ _ _).up (by omega)
def TF.WU {B:Nat} {t:ψ} (h:TF B t) (i:Int) (x:List UInt8):TF (B+5) (nX t i x).1:=by
 unfold nX;split
 ·exact h.up (by omega)
 split
 ·exact h.up (by omega)
 split
 ·exact h.up (by omega)
 ·have h1:=h.gE i;have h2:=h.gL i;have h3:=h.c;have h4:=h.x;exact (h.put (n:=⟨(gD t.η i).ι,(gD t.η i).ξ,(gD t.η i).aZ,x,(gD t.η i).Ψ,(gD t.η i).Up⟩) (by dsimp only;omega) (by dsimp only;omega) (by omega) (by omega)).up (by omega)
section
variable {k:Nat} {f:db} {o:bF}
def FI.st (h:FI k f):ST (2+5*k) f.S.Γ:=W.st h.r h.s.f
def FI.rf (h:FI k f):RF (2+5*k+5) f.S.Γ:=⟨h.r,h.s.f.up (by omega)⟩
def B3 {α:Type} (h:FI k f) (hk:k≤60) {t:ψ} (ht:RF (2+5*k+5) t) {q:List aA} (hq:j5 q) (oH:q.length≤1000) (x:α) {γ:Type} (g:ψ×List aA×α→γ) {K:List τ×Int×Int×Int×List Int×List br×List bd×Int×List aA→Option (Int⊕γ)}
  (hK:∀z:ψ×List aA,rX t f.Holds q=.inr z→K (s8 (eY f.S z.1) z.2)=some (.inr (g (z.1,z.2,x)))) :
  ε ((dW (qd t q) f o).bind fun r=>bQ r (fun e=>some (.inl e)) K) (·=bZ g (jq t f.Holds q x)):=by
 have hp:=afV h.s hk ht (by have:=h.hl;omega) hq oH f.bb o.ξ o.aL o.cm o.To o.N o.M o.bq o.aC 0 0 0 0 0 (H:=f.Holds);rw [aej] at hp;unfold jq;refine ε.bS hp fun z hz=>⟨_,hK z hz,rfl⟩
def afK (h:FI k f) (hk:k≤60) (ho:OB o):dW D0 f o=some (bZ (fun z=>(s8 (eY f.S z.1) (z.2.2,z.2.1))) (u_ f.S.Γ f.Holds f.bb o)):=by
 refine ε.eq ?_;unfold dW D0 u_;refine ε.bS (Fo h.st (by omega) _ (by have:=ho.p;omega)) fun y _=>ε.ai (x:=CE f.S.Γ y.1 y.2 o.N) (aeN h.r h.s.f (by omega) _ _ _) (ε.mS fun _=>?_);exact B3 (o:=o) h hk ⟨h.r.add _ _ _,h.s.f.Ho (by omega) _ _ _⟩ h.q (by have:=h.ql;omega) _ _ fun z _=>rfl
def afH (h:FI k f) (hk:k≤60) (ho:OB o):dW DX f o=some (bZ (fun z=>(s8 (eY f.S z.1) (z.2.2,z.2.1))) (zy f.S.Γ f.Holds f.bb o)):=by
 refine ε.eq ?_;unfold dW DX zy;refine ε.bS (zH h.st (by omega) _ (by have:=ho.p;omega)) fun n _=>ε.bS (Fo h.st (by omega) _ (by have:=ho.t;omega)) fun y _=>ε.ai (x:=CG f.S.Γ n.ι y.1 y.2) (afc h.r h.s.f (by omega) _ _ _) (ε.mS fun _=>?_);exact B3 (o:=o) h hk ⟨h.r.ln _ _ _,h.s.f.VE (by omega) _ _ _⟩ h.q (by have:=h.ql;omega) _ _ fun z _=>rfl
def afZ (h:FI k f) (hk:k≤60) (ho:OB o):dW D9 f o=some (bZ (fun z=>(s8 (eY f.S z.1) (z.2.2,z.2.1))) (Ak f.S.Γ f.Holds f.bb o)):=by
 refine ε.eq ?_;unfold dW D9 Ak;refine ε.bS (Fo h.st (by omega) _ (by have:=ho.p;omega)) fun y _=>ε.ai (x:=CL f.S.Γ y.1 y.2) (afm h.r h.s.f (by omega) _ _) (ε.mS fun _=>?_);exact B3 (o:=o) h hk ⟨h.r.un _ _,h.s.f.Ye (by omega) _ _⟩ h.q (by have:=h.ql;omega) _ _ fun z _=>rfl
def afU (h:FI k f) (hk:k≤60) (ho:OB o):dW D4 f o=some (bZ (fun z=>(s8 (eY f.S z.1) (z.2.2,z.2.1))) (wS f.S.Γ f.Holds f.bb o)):=by
 refine ε.eq ?_;unfold dW D4 wS;refine ε.bS (Fo h.st (by omega) _ (by have:=ho.p;omega)) fun y _=>ε.bS (Fo h.st (by omega) _ (by have:=ho.t;omega)) fun w _=>ε.ai (x:=vq f.S.Γ y.1 y.2) (JE h.st (by omega) _ _) (ε.mS fun _=>ε.ai (x:=CI f.S.Γ y.1 y.2 w.1 w.2) (afe h.r h.s.f (by omega) _ _ _ _) (ε.mS fun _=>?_));exact B3 (o:=o) h hk ⟨h.r.mv _ _ _ _,h.s.f.OL (by omega) _ _ _ _⟩ h.q (by have:=h.ql;omega) _ _ fun z _=>rfl
def afG (h:FI k f) (hk:k≤60) (ho:OB o):dW DW f o=some (bZ (fun z=>(s8 (eY f.S z.1) (z.2.2,z.2.1))) (zx f.S.Γ f.Holds f.bb o)):=by
 refine ε.eq ?_;unfold dW DW zx;refine ε.bS (zH h.st (by omega) _ (by have:=ho.p;omega)) fun n _=>ε.ai (x:=B9 f.S.Γ f.bb n.ι o.N o.M) (afk h.r h.s.f (by omega) h.q (by have:=h.ql;omega) _ _ _) (ε.mS fun _=>?_);have hs:=Xj (t:=f.S.Γ) h.q h.ql n.ι o.N o.M;exact B3 (o:=o) h hk h.rf hs.1 (by have:=hs.2;omega) _ _ fun z _=>rfl
def Wp (h:FI k f) (hk:k≤60) (i:Int) (d:List UInt8):dW (yo i) f o d=some (bZ (fun z=>(s8 (eY f.S z.1) z.2.1)) (oC f.S.Γ f.Holds f.bb i d)):=by
 refine ε.eq ?_;unfold dW yo oC;refine ε.ai (x:=Ad f.S.Γ i d) (afh h.r h.s.f (by omega) _ _) (ε.mS fun _=>?_);exact B3 (o:=o) h hk ⟨h.r.WR _ _,h.s.f.WU _ _⟩ h.q (by have:=h.ql;omega) _ _ fun z _=>rfl
def O1 (h:FI k f) (hk:k≤60):dW yp f o=some (bZ Fe (nE f.S.Γ f.Holds o)):=by
 refine ε.eq ?_;unfold dW yp nE;refine ε.ai (aeT (by have:=h.hl;omega) _ _) (ε.mS fun _=>ε.check (by decide) (fun hb=>?_) fun hb=>?_)
 ·rw [hb,if_pos rfl];exact ε.ai (Wu h.st.s (h.st.n (by omega)) _) (ε.ret rfl)
 ·rw [hb,if_neg (by simp)];exact ε.ret rfl
def Nb (h:FI k f) {n:τ} (hn:nE f.S.Γ f.Holds o=.inr n):n.aC.length≤4096∧0≤o.N:=by
 obtain ⟨-,h2⟩:=lY hn;split at h2
 ·rename_i h0;cases h2;refine ⟨?_,by simpa using h0⟩
  rcases wi f.S.Γ.η (qt f.Holds o.aL o.bq).1 with ⟨m,h1,h2⟩|⟨h1,h2⟩
  ·rw [h2];exact h.r.data (dM h1).1
  ·rw [h2];exact lP _
 ·cases h2
def af1 (h:FI k f) (hk:k≤60) (ho:OB o):dW D_ f o=some (bZ (fun z=>(s8 (eY f.S z.1) (z.2.2.1,z.2.2.2,z.2.1))) (Aq f.S.Γ f.Holds f.bb o)):=by
 refine ε.eq ?_;unfold dW D_ Aq;have hod:=ho.d;refine ε.bS (O1 h hk) fun n hn=>?_;obtain ⟨hd,hN⟩:=Nb h hn;refine ε.check (by decide) (fun hb=>?_) fun hb=>?_;rotate_left
 ·rw [hb,if_neg (by simp)];exact ε.ret rfl
 rw [hb,if_pos rfl];rw [decide_eq_true_eq] at hb;refine ε.Ω (by unfold Θ;omega) (ε.check (by decide) (fun iA=>?_) fun iA=>?_);rotate_left
 ·rw [iA,if_neg (by simp)];exact ε.ret rfl
 rw [iA,if_pos rfl];rw [decide_eq_true_eq] at iA;refine ε.ai (sF (l:=n.aC) (K:=1) (by omega)) (ε.ai (a:=xk n.aC o) ?_ ?_)
 ·unfold xk;refine ε.eq (ε.eG (fun e=>?_) fun e=>ε.ret rfl);refine ε.Ω (by unfold Θ;omega) (ε.Ω ⟨by omega,by omega⟩ (ε.Ω ⟨hN,?_⟩ (ε.ret rfl)));rw [decide_eq_true_eq] at e;simp only [dj,List.length_replicate];omega
 have hh:=Wp (o:=o) h hk n.ι (xk n.aC o);show ε ((dW (yo n.ι) f o (xk n.aC o)).bind _) _;rw [hh];unfold oC;cases hm:(Go.Proofs.mS (nX f.S.Γ n.ι (xk n.aC o)).2 (jq (nX f.S.Γ n.ι (xk n.aC o)).1 f.Holds f.bb (n.ι,((xk n.aC o).length:Int)))) with
 |inl e=>exact ε.ret rfl
 |inr z =>
  obtain ⟨-,h2⟩:=lY hm;obtain ⟨w,-,h3⟩:=my h2;cases h3;exact ε.ret rfl
def aft (h:FI k f) (hk:k≤60) (ho:OB o):dW DU f o=some (bZ (fun z=>(s8 (eY f.S z.1) (z.2.2.1,z.2.2.2,z.2.1))) (yf f.S.Γ f.Holds f.bb o)):=by
 refine ε.eq ?_;unfold dW DU yf;refine ε.bS (O1 h hk) fun n hn=>?_;obtain ⟨hd,hN⟩:=Nb h hn;have hh:=Wp (o:=o) h hk n.ι (n.aC.take (min o.N (n.aC.length:Int)).toNat);refine ε.Ω (by dsimp only [Fe];omega) ?_;show ε ((dW (yo n.ι) f o (n.aC.take (min o.N (n.aC.length:Int)).toNat)).bind _) _;rw [hh];unfold oC;cases hm:(Go.Proofs.mS (nX f.S.Γ n.ι (n.aC.take (min o.N (n.aC.length:Int)).toNat)).2 (jq (nX f.S.Γ n.ι (n.aC.take (min o.N (n.aC.length:Int)).toNat)).1 f.Holds f.bb (n.ι,((n.aC.take (min o.N (n.aC.length:Int)).toNat).length:Int)))) with
 |inl e=>exact ε.ret rfl
 |inr z =>
  obtain ⟨-,h2⟩:=lY hm;obtain ⟨w,-,h3⟩:=my h2;cases h3;exact ε.ret rfl
def afS (h:FI k f) (hk:k≤60) (ho:OB o):dW D3 f o=some (bZ id (zR f.S.Γ f.Holds o)):=by
 refine ε.eq ?_;unfold dW D3 zR;refine ε.bS (O1 h hk) fun n hn=>?_;obtain ⟨hd,hN⟩:=Nb h hn;refine ε.bind (R:=(·=(decide (o.M≥0)&&decide (o.M≤4096)))) (by cases decide (o.M≥0)<;>exact ε.ret rfl) fun v hv=>?_;subst hv;refine ε.check (by decide) (fun hb=>?_) fun hb=>?_
 ·rw [hb,if_pos rfl];rw [bE,decide_eq_true_eq,decide_eq_true_eq] at hb;unfold Ih Fe;dsimp only;refine ε.Ω (by omega) (ε.Ω (by omega) ?_);exact ε.ai (sF (l:=JX n.aC o) (K:=1) (by unfold JX;simp only [dR,l9];omega)) (ε.ret rfl)
 ·rw [hb,if_neg (by simp)];exact ε.ret rfl
def afJ (h:FI k f) (hk:k≤60) (ho:OB o):dW DZ f o=some (bZ (fun n=>(n.ι,n.ξ)) (jl f.S.Γ o.cm)):=by
 refine ε.eq ?_;unfold dW DZ;rw [zH h.st (by omega) _ (by have:=ho.p;omega)];cases jl f.S.Γ o.cm<;>exact ε.ret rfl
def afX (h:FI k f) (hk:k≤60) (ho:OB o):dW D7 f o=some (bZ (fun n=>(n.ι,n.ξ,n.aZ,FX n)) (jl f.S.Γ o.cm)):=by
 refine ε.eq ?_;unfold dW D7;rw [zH h.st (by omega) _ (by have:=ho.p;omega)];cases jl f.S.Γ o.cm<;>exact ε.ret rfl
def aaF {B:Nat} {t:ψ} (h:RT t) (hf:TF B t) (hB:B≤4000) (i:Int):(dz t.η i).1.Ψ.length≤64∧(∀e,e∈(dz t.η i).1.Ψ→NB (dz t.η i).1∧1≤e.aj∧e.aj≤4000)∧Θ (dz t.η i).2:=by
 unfold dz;split
 ·split
  ·exact ⟨by simp [jX],fun e he=>(by cases he),by unfold Θ;dsimp only;omega⟩
  ·rename_i hg hk
   rcases wi t.η i with ⟨n,g1,g2⟩|⟨g1,g2⟩
   ·rw [g2];have hm:=(dM g1).1;refine ⟨(h.en n hm).n,fun e he=>⟨h.nb hf hB hm,?_⟩,by unfold Θ;dsimp only;omega⟩;have:=((h.en n hm).r e he).2;have:=hf.c;omega
   ·rw [g1] at hg;cases hg
 ·exact ⟨by simp [jX],fun e he=>(by cases he),by unfold Θ;dsimp only;omega⟩
def VC {B:Nat} {t:ψ} (h:RT t) (hf:TF B t) (hB:B≤4000) (i a b:Int):(rP t i a b).1.length≤64∧(∀e,e∈(rP t i a b).1→e.aN.length≤32)∧Θ (rP t i a b).2.1∧Θ (rP t i a b).2.2:=by
 have hL:=(JG h hf (by omega) i a b).2;obtain ⟨d1,d2,d3⟩:=aaF h hf hB i;unfold AL at hL;split at hL
 ·rw [hL];exact ⟨by simp,fun e he=>(by cases he),by unfold Θ;dsimp only;omega,by unfold Θ;dsimp only;omega⟩
 split at hL
 ·rw [hL];exact ⟨by simp,fun e he=>(by cases he),by unfold Θ;dsimp only;omega,d3⟩
 ·obtain ⟨L,l1,l2,l3⟩:=hL
  have Tu:L.length≤64:=by rw [l1.length_eq];exact fi (l_ _ _) d1
  have Ek:∀e,e∈L→e∈(dz t.η i).1.Ψ:=fun e he=>(ek.1 (l1.mem_iff.1 he)).1;split at l3
  ·rw [l3];exact ⟨Tu,fun e he=>((d2 e (Ek e he)).1.e e (Ek e he)).2.2,by unfold Θ;dsimp only;omega,by unfold Θ;dsimp only;omega⟩
  ·obtain ⟨x,hx,hr⟩:=l3;rw [hr];have hxm:=(d2 x (Ek x (List.mem_of_getElem? hx))).2;exact ⟨by simp;omega,fun e he=>((d2 e (Ek e (G6 he))).1.e e (Ek e (G6 he))).2.2,by unfold Θ;dsimp only;omega,by unfold Θ;dsimp only;omega⟩
def afI (h:FI k f) (hk:k≤60) (ho:OB o):dW DY f o=some (bZ id (E5 f.S.Γ o)):=by
 refine ε.eq ?_;unfold dW DY E5;refine ε.bS (zH h.st (by omega) _ (by have:=ho.p;omega)) fun n _=>ε.ai (x:=xf f.S.Γ n.ι o.N o.M) (JG h.r h.s.f (by omega) _ _ _).1 (ε.mS fun _=>?_);exact ε.ai (Wt (by have:=(VC h.r h.s.f (by omega) n.ι o.N o.M).1;omega)) (ε.ret rfl)
def afO (h:FI k f) (hk:k≤60) (ho:OB o):dW D1 f o=some (bZ id (Fh f.S.Γ f.Holds o)):=by
 refine ε.eq ?_;unfold dW D1 Fh;refine ε.bS (zH h.st (by omega) _ (by have:=ho.p;omega)) fun n _=>ε.ai (x:=Bz f.S.Γ f.Holds o.aL o.bq n.ι) (aff h.st.s (h.st.n (by omega)) h.h (by have:=h.hl;omega) _ _ _) (ε.mS fun _=>ε.ret rfl)
def afp (h:FI k f) (hk:k≤60) (ho:OB o):dW DS f o=some (bZ (fun z=>(s8 (eY f.S z.1) z.2)) (Dy f.S.Γ f.Holds o)):=by
 refine ε.eq ?_;unfold dW DS Dy;have hg:=L1 (t:=f.S.Γ) (l:=f.Holds) (n:=64) (B:=2+5*k+5) ⟨h.r,h.s.f.up (by omega),h.hl,h.h⟩ o.aL o.bq;refine ε.ai (x:=yX f.S.Γ f.Holds o.aL o.bq) (V8 h.st.s h.s.f (by omega) (by have:=h.hl;omega) _ _) (ε.mS fun _=>?_);exact ε.ai (x:=tU f.S (fJ f.S.Γ f.Holds o.aL o.bq).1) (OY (h.s.JN (by omega) hg.r.s hg.f)) (ε.ret rfl)
def afr (h:FI k f) (hk:k≤60) (ho:OB o):dW DT f o=some ((fun z:ψ×List ay=>(s8 (eY f.S z.1) z.2)) (pj f.S.Γ f.Holds o.aL)):=by
 refine ε.eq ?_;unfold dW DT;have hg:=Mz (n:=64) (B:=2+5*k+5) o.aL f.Holds (a:=(f.S.Γ,f.Holds)) ⟨h.r,h.s.f.up (by omega),h.hl,h.h⟩;refine ε.ai (x:=By f.S.Γ f.Holds o.aL) (aeR h.r h.s.f (by omega) (by have:=h.hl;omega) h.h _) ?_;exact ε.ai (x:=tU f.S (pj f.S.Γ f.Holds o.aL).1) (OY (h.s.JN (by omega) hg.r.s hg.f)) (ε.ret rfl)
end
end
section
def SI.agf {k:Nat} {s:bx} (h:SI k s) (hk:k≤200) {t:ψ} (U1:TS t) (hf:TF (2+5*k+5) t):SI (k+1) (eY s t):=by
 unfold eY;split
 ·exact h.up (by omega)
 have hpf:=h.JN hk U1.s hf;have gC:=h.tk;refine ⟨hf.up (by omega),U1,by simp,by dsimp only;omega,by have:=h.nx;dsimp only;omega,fun q hq=>?_,by have:=h.ta;dsimp only;omega,?_,fun p hp=>?_,h.id,fun x hx=>?_,fun p hp=>?_⟩
 ·obtain ⟨n,hn,rfl⟩:=c9.1 hq;dsimp only;unfold vk;split
  ·next j hj =>
   have:=(List.findIdx?_eq_some_iff_getElem.1 hj).1
   have Φ:j<s.a_.length:=by rw [h.si];omega
   rw [bU Φ];have:=h.sn _ (eI Φ);simp only [AF];omega
  ·omega
 ·show (s.aU++Fv s _).length≤_;unfold Fv;rw [dj,az];have h1:=l_ (vg s t) (s.Γ.η.zip s.a_);rw [hpf.zl] at h1;have:=h.ps;have:=h.f.n;omega
 ·rcases gl.1 hp with hp|hp
  ·have:=h.pe p hp;omega
  ·obtain ⟨q,hq,rfl⟩:=c9.1 hp;have:=h.f.e _ (Lf (ek.1 hq).1).1;dsimp only;omega
 ·have:=h.ti x hx;dsimp only;omega
 ·rcases gl.1 hp with hp|hp
  ·have:=h.pt p hp;exact ⟨by dsimp only;omega,this.2⟩
  ·obtain ⟨q,hq,rfl⟩:=c9.1 hp;obtain ⟨h1,h2⟩:=ek.1 hq;have:=h.sn _ (Lf h1).2;unfold vg at h2;exact ⟨by dsimp only;omega,by simpa using (Bool.and_eq_true_iff.1 h2).2⟩
def RT.ts {t:ψ} (h:RT t):TS t:=⟨h.s,fun n hn=>by have:=h.lo n hn;omega,h.rt,fun n hn e he=>W.ON h hn he⟩
def SK.put {B:Nat} {s:bx} (h:SK s) {t:ψ} (hr:RT t) (hf:TF B t) (hB:B≤4000):SK (eY s t):=by
 unfold eY;split
 ·exact h
 refine ⟨fun n hn=>hr.nb hf hB hn,fun p hp=>?_,h.t⟩
 rcases gl.1 hp with hp|hp
 ·exact h.p p hp
 ·obtain ⟨q,hq,rfl⟩:=c9.1 hp;exact h.n q.1 (Lf (ek.1 hq).1).1
def SK.take {s:bx} (h:SK s) (i:Int):SK (nZ s i).1:=by
 unfold nZ;split
 ·exact h
 rename_i hg;split
 ·exact h
 split
 ·exact h
 refine ⟨h.n,h.p,fun x hx=>?_⟩
 rcases gl.1 hx with hx|hx
 ·exact h.t x hx
 ·obtain rfl:=dC.1 hx
  rcases wi s.Γ.η i with ⟨n,g1,g2⟩|⟨g1,g2⟩
  ·have:=(h.n n (dM g1).1).i;rw [(dM g1).2] at this;exact this
  ·rw [g1] at hg;exact absurd rfl hg
def SK.drop {s:bx} (h:SK s) (i:Int):SK (pa s i).1:=by
 unfold pa;split
 ·exact h
 exact ⟨h.n,fun p hp=>h.p p (ek.1 hp).1,fun x hx=>h.t x (ek.1 hx).1⟩
def qD (f:db) (o:bF):Int⊕(bx×Int):=bS (jl f.S.Γ o.cm) fun n=>mS (nZ f.S n.ι).2.2 (.inr ((nZ f.S n.ι).1,(nZ f.S n.ι).2.1))
def qa (f:db) (o:bF):Int⊕(bx×Unit):=mS (pa f.S o.N).2 (.inr ((pa f.S o.N).1,()))
noncomputable def qy (f:db) (o:bF):Int⊕(Int×Int×Int×Int×List (List UInt8)×List UInt8):=(dW wg f o).getD (.inl 0)
def NZ (n:τ):Prop:=NB n∨n=jX
def NZ.b {n:τ} (h:NZ n):Θ n.ι∧Θ n.ξ∧Θ n.aZ∧n.aC.length≤4096∧n.Ψ.length≤64∧∀e,e∈n.Ψ→e.aN.length≤32:=by
 rcases h with h|h
 ·have h1:=h.i;have h2:=h.k;have h3:=h.n;exact ⟨by unfold Θ;omega,by unfold Θ;omega,by unfold Θ;omega,h.d,h.l,fun e he=>(h.e e he).2.2⟩
 ·rw [h];exact ⟨by unfold Θ jX;dsimp only;omega,by unfold Θ jX;dsimp only;omega,by unfold Θ jX;dsimp only;omega,by simp [jX],by simp [jX],fun e he=>(by cases he)⟩
section
variable {k:Nat} {f:db} {o:bF}
def afY (h:FI k f) (hk:k≤60) (ho:OB o):dW D8 f o=some (bZ (fun z=>(s8 z.1 z.2)) (qD f o)):=by
 refine ε.eq ?_;unfold dW D8 qD;have:=h.s.nx;have:=h.s.ta;have:=h.s.f.n;refine ε.bS (zH h.st (by omega) _ (by have:=ho.p;omega)) fun n _=>ε.ai (x:=Cj f.S n.ι) (afl f.S n.ι h.st.s (by omega) (by omega) (by omega)) (ε.mS fun _=>ε.ret rfl)
def afw (h:FI k f) (hk:k≤60):dW DV f o=some (bZ (fun z=>(z.1.Γ.η,z.1.Γ.Next,z.1.Γ.aj,z.1.bc,z.1.a_,z.1.aU,z.1.aW,z.1.Next)) (qa f o)):=by
 refine ε.eq ?_;unfold dW DV qa;have:=h.s.ps;have:=h.s.ta;exact ε.ai (x:=Ci f.S o.N) (aeQ f.S o.N (by omega) (by omega)) (ε.mS fun _=>ε.ret rfl)
def afR (h:FI k f) (hk:k≤60) (ho:OB o):ε (dW wg f o) (fun r=>match r with|.inl e=>Θ e|.inr z=>Θ z.1∧Θ z.2.1∧Θ z.2.2.1∧Θ z.2.2.2.1∧z.2.2.2.2.1.length≤64∧(∀s,s∈z.2.2.2.2.1→s.length≤32)∧z.2.2.2.2.2.length≤4096):=by
 unfold dW wg;obtain ⟨a1,a2,a3,a4,a5⟩:=aeO h.s (by omega) h.k o.N;refine ε.ai (x:=w8 f.S o.N) a1 ?_;generalize xT f.S o.N=x at *;refine ε.OK (fun _=>?_) fun _=>ε.ret a5;refine ε.ai (OZ o.cm (by have:=ho.p;omega)) ?_;obtain ⟨s1,s2,s3⟩:=Gi (p:=o.cm);generalize jZ o.cm=y at *;refine ε.OK (fun _=>?_) fun _=>ε.ret (by unfold Θ;omega);refine ε.bind (R:=fun M:List (Int×τ)=>∀j n,bn j M=some n→NB n) ?_ fun M hM=>?_
 ·unfold S9;refine ε.loop (fun s:Int×List (Int×τ)=>∃j:Nat,s.1=(j:Int)∧j≤x.2.1.length∧s.2.length≤j∧∀j n,bn j s.2=some n→NB n) (fun s=>x.2.1.length-s.1.toNat) ?_ _ ⟨0,rfl,by omega,by simp,fun j n h=>(by cases h)⟩;rintro ⟨s0,M⟩ ⟨j,e1,hj,hl,hM⟩;dsimp only at e1 hl hM;subst e1;unfold Ic;dsimp only;by_cases Φ:j<x.2.1.length
  ·have hx:=bU Φ;have pA:=a2 _ (eI Φ);have hi:=pA.i;refine ε.cond (by simpa using Φ) (ε.ai (cL hx) (ε.Ω ⟨by unfold Θ;omega,by omega⟩ (ε.Ω (by unfold Θ;omega) (ε.inl ⟨⟨j+1,by dsimp only;omega,Φ,?_,fun i n hi=>?_⟩,by dsimp only;omega⟩))))
   ·have:=E_ x.2.1[j].ι x.2.1[j] M;dsimp only;omega
   ·dsimp only at hi;rw [rQ] at hi;split at hi
    ·cases hi;exact pA
    ·exact hM i n hi
  ·exact ε.cR (by simpa using Φ) (ε.out (ε.ret hM))
 ·have Uv:∀i,NZ ((bn i M).getD jX):=fun i=>by
   cases hg:bn i M with
   |none=>exact .inr rfl
   |some n=>exact .inl (hM i n hg)
  refine ε.ai rfl ?_;unfold S_;refine ε.loop (fun s:Int×Int×Int×Int×List UInt8×List aO×Int=>∃j:Nat,s.1=(j:Int)∧j≤y.1.length∧NZ ⟨s.2.1,s.2.2.1,s.2.2.2.1,s.2.2.2.2.1,s.2.2.2.2.2.1,s.2.2.2.2.2.2⟩) (fun s=>y.1.length-s.1.toNat) ?_ _ ⟨0,rfl,by omega,Uv x.1⟩;rintro ⟨s0,n0,n1,n2,n3,n4,n5⟩ ⟨j,e1,hj,hN⟩;dsimp only at e1 hN;subst e1;obtain ⟨b1,b2,b3,b4,b5,b6⟩:=hN.b;dsimp only at b1 b2 b3 b4 b5 b6;unfold Ie;dsimp only;by_cases Φ:j<y.1.length
  ·have hx:=bU Φ;refine ε.cond (by simpa using Φ) (ε.ai (cL hx) (ε.check (by decide) (fun _=>?_) fun _=>ε.out (ε.ret (by show Θ 73;unfold Θ;omega))));have rB:=E1 (C:=fun e=>Ib e y.1[j]) (p:=fun e=>e.aN==y.1[j]) (l:=n4) (fun e _=>rfl) (by omega);refine ε.ai (x:=Ku n4 y.1[j]) rB ?_;rw [Ff];refine ε.check (by decide) (fun hb=>?_) fun _=>ε.out (ε.ret (by show Θ 70;unfold Θ;omega));cases hf:n4.findIdx? fun e=>e.aN==y.1[j] with
   |none =>
    rw [List.findIdx?_eq_none_iff] at hf;rw [Dc] at hb;obtain ⟨e,he,hp⟩:=hb;rw [hf e he] at hp;cases hp
   |some q =>
    obtain ⟨e,he,-⟩:=sO hf;refine ε.ai (x:=idx n4 ((q:Nat):Int)) (cL he) (ε.ai rfl (ε.Ω (by unfold Θ;omega) (ε.inl ⟨⟨j+1,by dsimp only;omega,Φ,Uv e.ι⟩,by dsimp only;omega⟩)))
  ·refine ε.cR (by simpa using Φ) (ε.out ?_);unfold Ig DR;refine ε.ai rfl (ε.ai (Wt (by dsimp only;omega)) (ε.ret ⟨b1,b2,b3,by unfold Θ;dsimp only;omega,by simp only [az];exact b5,fun s hs=>?_,b4⟩));obtain ⟨e,he,rfl⟩:=c9.1 hs;exact b6 e he
def Wy (h:FI k f) (hk:k≤60) (ho:OB o):dW wg f o=some (qy f o)∧(match qy f o with|.inl e=>Θ e|.inr z=>Θ z.1∧Θ z.2.1∧Θ z.2.2.1∧Θ z.2.2.2.1∧z.2.2.2.2.1.length≤64∧(∀s,s∈z.2.2.2.2.1→s.length≤32)∧z.2.2.2.2.2.length≤4096):=by
 obtain ⟨r,h1,h2⟩:=afR h hk ho;unfold qy;rw [h1];exact ⟨rfl,h2⟩
end
def af0:Ea=some ():=by unfold Ea;kernel_rfl
def QI:List (Int×Int):=[(1,62),(2,63),(3,64),(4,65),(5,66),(6,67),(7,68),(8,69),(9,70),(10,71),(11,72),(12,73),(13,74),(14,75),(15,76),(16,77),(17,78)]
def aka:(ak (17) 78 ((ak (16) 77 ((ak (15) 76 ((ak (14) 75 ((ak (13) 74 ((ak (12) 73 ((ak (11) 72 ((ak (10) 71 ((ak (9) 70 ((ak (8) 69 ((ak (7) 68 ((ak (6) 67 ((ak (5) 66 ((ak (4) 65 ((ak (3) 64 ((ak (2) 63 ((ak (1) 62 (([]:List (Int×Int))))))))))))))))))))))))))))))))))))=QI:=by rfl
def akb (k:Int):bn k QI=if 1≤k∧k≤17 then some (k+61) else none:=by
 by_cases h:1≤k∧k≤17
 ·rw [if_pos h]
  rcases (by omega:k=1∨k=2∨k=3∨k=4∨k=5∨k=6∨k=7∨k=8∨k=9∨k=10∨k=11∨k=12∨k=13∨k=14∨k=15∨k=16∨k=17) with rfl|rfl|rfl|rfl|rfl|rfl|rfl|rfl|rfl|rfl|rfl|rfl|rfl|rfl|rfl|rfl|rfl<;>rfl
 ·rw [if_neg h];unfold QI;simp only [bn];rw [if_neg (by omega:¬(1:Int)=k),if_neg (by omega:¬(2:Int)=k),if_neg (by omega:¬(3:Int)=k),if_neg (by omega:¬(4:Int)=k),if_neg (by omega:¬(5:Int)=k),if_neg (by omega:¬(6:Int)=k),if_neg (by omega:¬(7:Int)=k),if_neg (by omega:¬(8:Int)=k),if_neg (by omega:¬(9:Int)=k),if_neg (by omega:¬(10:Int)=k),if_neg (by omega:¬(11:Int)=k),if_neg (by omega:¬(12:Int)=k),if_neg (by omega:¬(13:Int)=k),if_neg (by omega:¬(14:Int)=k),if_neg (by omega:¬(15:Int)=k),if_neg (by omega:¬(16:Int)=k),if_neg (by omega:¬(17:Int)=k)]
end
section
def qb (e:Int):dL:=⟨e,0,0,0,0,[],[]⟩
abbrev qX:=Option ψ×List ay×List aA×dL
noncomputable def de (t:ψ) (H:List ay) (Q:List aA) (o:bF):Int⊕qX :=
 if o.ξ=1 then bZ (fun n=>(none,H,Q,⟨0,n.ι,n.ξ,0,0,[],[]⟩)) (jl t o.cm)
 else if o.ξ=2 then bZ (fun z=>(some z.1,H,z.2.1,⟨0,z.2.2,o.N,0,0,[],[]⟩)) (u_ t H Q o)
 else if o.ξ=3 then bZ (fun z=>(some z.1,H,z.2.1,⟨0,z.2.2,0,0,0,[],[]⟩)) (zy t H Q o)
 else if o.ξ=4 then bZ (fun z=>(some z.1,H,z.2.1,⟨0,z.2.2,0,0,0,[],[]⟩)) (Ak t H Q o)
 else if o.ξ=5 then bZ (fun z=>(some z.1,H,z.2.1,⟨0,z.2.2,0,0,0,[],[]⟩)) (wS t H Q o)
 else if o.ξ=6 then bZ (fun z=>(none,H,Q,⟨0,0,0,z.1,0,z.2,[]⟩)) (E5 t o)
 else if o.ξ=7 then bZ (fun n=>(none,H,Q,⟨0,n.ι,n.ξ,n.aZ,FX n,[],[]⟩)) (jl t o.cm)
 else if o.ξ=8 then bZ (fun z=>(none,z.1,Q,⟨0,z.2,0,0,0,[],[]⟩)) (Fh t H o)
 else if o.ξ=9 then bZ (fun z=>(some z.1,z.2,Q,⟨0,0,0,0,0,[],[]⟩)) (Dy t H o)
 else if o.ξ=10 then bZ (fun z=>(none,H,Q,⟨0,z.1,0,0,0,[],z.2⟩)) (zR t H o)
 else if o.ξ=11 then bZ (fun z=>(some z.1,H,z.2.1,⟨0,z.2.2.1,0,0,z.2.2.2,[],[]⟩)) (Aq t H Q o)
 else if o.ξ=12 then bZ (fun z=>(some z.1,H,z.2.1,⟨0,z.2.2.1,0,0,z.2.2.2,[],[]⟩)) (yf t H Q o)
 else if o.ξ=13 then bZ (fun z=>(some z.1,H,z.2.1,⟨0,z.2.2,0,0,0,[],[]⟩)) (zx t H Q o)
 else if o.ξ=17 then .inr (some (pj t H o.aL).1,(pj t H o.aL).2,Q,⟨0,0,0,0,0,[],[]⟩)
 else .inl 1
noncomputable def JS (s:bx):Option ψ→bx
 |none=>s
 |some t=>eY s t
noncomputable def jz (f:db) (v:Int⊕qX):db×dL:=match v with|.inl e=>(f,qb e)|.inr z=>(⟨JS f.S z.1,z.2.1,z.2.2.1⟩,z.2.2.2)
def wc {α:Type} (f:db) (v:Int⊕(bx×α)) (g:α→dL):db×dL:=match v with|.inl e=>(f,qb e)|.inr z=>(⟨z.1,f.Holds,f.bb⟩,g z.2)
noncomputable def gK (f:db) (o:bF):db×dL :=
 if ¬(0≤o.aL∧o.aL<16) then (f,qb 1)
 else if o.ξ=14 then wc f (qD f o) fun i=>⟨0,0,0,i,0,[],[]⟩
 else if o.ξ=15 then (match qy f o with|.inl e=>(f,qb e)|.inr z=>(f,⟨0,z.1,z.2.1,z.2.2.1,z.2.2.2.1,z.2.2.2.2.1,z.2.2.2.2.2⟩))
 else if o.ξ=16 then wc f (qa f o) fun _=>⟨0,0,0,0,0,[],[]⟩
 else jz f (de f.S.Γ f.Holds f.bb o)
def fS {β:Type} (f:db) (v:Int⊕β) (w:β→db×dL):db×dL:=match v with|.inl e=>(f,qb e)|.inr b=>w b
def nw {α β:Type} {f:db} {x:Option (Int⊕α)} {v:Int⊕β} {g:β→α} {K:α→Option (db×dL)} {w:β→db×dL} (hx:x=some (bZ g v)) (hK:∀b,v=.inr b→K (g b)=some (w b)) :
  (x.bind fun r=>bQ r (fun e=>some (f,(⟨e,0,0,0,0,[],[]⟩:dL))) K)=some (fS f v w):=by
 subst hx;cases v with
 |inl e=>rfl
 |inr b=>exact hK b rfl
def pc {β:Type} (f:db) (g:β→qX) (v:Int⊕β):jz f (bZ g v)=fS f v fun b=>jz f (.inr (g b)):=by cases v<;>rfl
def CY (t:ψ) (H:List ay) (Q:List aA) {o:bF} (e:o.ξ=1):de t H Q o=bZ (fun n=>(none,H,Q,⟨0,n.ι,n.ξ,0,0,[],[]⟩)) (jl t o.cm):=by
 unfold de;rw [if_pos e]
def Al (t:ψ) (H:List ay) (Q:List aA) {o:bF} (e:o.ξ=2):de t H Q o=bZ (fun z=>(some z.1,H,z.2.1,⟨0,z.2.2,o.N,0,0,[],[]⟩)) (u_ t H Q o):=by
 unfold de;rw [if_neg (by omega),if_pos e]
def GF (t:ψ) (H:List ay) (Q:List aA) {o:bF} (e:o.ξ=3):de t H Q o=bZ (fun z=>(some z.1,H,z.2.1,⟨0,z.2.2,0,0,0,[],[]⟩)) (zy t H Q o):=by
 unfold de;rw [if_neg (by omega),if_neg (by omega),if_pos e]
def GG (t:ψ) (H:List ay) (Q:List aA) {o:bF} (e:o.ξ=4):de t H Q o=bZ (fun z=>(some z.1,H,z.2.1,⟨0,z.2.2,0,0,0,[],[]⟩)) (Ak t H Q o):=by
 unfold de;iterate 3 rw [if_neg (by omega)]
 rw [if_pos e]
def CZ (t:ψ) (H:List ay) (Q:List aA) {o:bF} (e:o.ξ=5):de t H Q o=bZ (fun z=>(some z.1,H,z.2.1,⟨0,z.2.2,0,0,0,[],[]⟩)) (wS t H Q o):=by
 unfold de;iterate 4 rw [if_neg (by omega)]
 rw [if_pos e]
def C0 (t:ψ) (H:List ay) (Q:List aA) {o:bF} (e:o.ξ=6):de t H Q o=bZ (fun z=>(none,H,Q,⟨0,0,0,z.1,0,z.2,[]⟩)) (E5 t o):=by
 unfold de;iterate 5 rw [if_neg (by omega)]
 rw [if_pos e]
def GH (t:ψ) (H:List ay) (Q:List aA) {o:bF} (e:o.ξ=7):de t H Q o=bZ (fun n=>(none,H,Q,⟨0,n.ι,n.ξ,n.aZ,FX n,[],[]⟩)) (jl t o.cm):=by
 unfold de;iterate 6 rw [if_neg (by omega)]
 rw [if_pos e]
def GJ (t:ψ) (H:List ay) (Q:List aA) {o:bF} (e:o.ξ=8):de t H Q o=bZ (fun z=>(none,z.1,Q,⟨0,z.2,0,0,0,[],[]⟩)) (Fh t H o):=by
 unfold de;iterate 7 rw [if_neg (by omega)]
 rw [if_pos e]
def GK (t:ψ) (H:List ay) (Q:List aA) {o:bF} (e:o.ξ=9):de t H Q o=bZ (fun z=>(some z.1,z.2,Q,⟨0,0,0,0,0,[],[]⟩)) (Dy t H o):=by
 unfold de;iterate 8 rw [if_neg (by omega)]
 rw [if_pos e]
def Gx (t:ψ) (H:List ay) (Q:List aA) {o:bF} (e:o.ξ=10):de t H Q o=bZ (fun z=>(none,H,Q,⟨0,z.1,0,0,0,[],z.2⟩)) (zR t H o):=by
 unfold de;iterate 9 rw [if_neg (by omega)]
 rw [if_pos e]
def Gy (t:ψ) (H:List ay) (Q:List aA) {o:bF} (e:o.ξ=11):de t H Q o=bZ (fun z=>(some z.1,H,z.2.1,⟨0,z.2.2.1,0,0,z.2.2.2,[],[]⟩)) (Aq t H Q o):=by
 unfold de;iterate 10 rw [if_neg (by omega)]
 rw [if_pos e]
def Gz (t:ψ) (H:List ay) (Q:List aA) {o:bF} (e:o.ξ=12):de t H Q o=bZ (fun z=>(some z.1,H,z.2.1,⟨0,z.2.2.1,0,0,z.2.2.2,[],[]⟩)) (yf t H Q o):=by
 unfold de;iterate 11 rw [if_neg (by omega)]
 rw [if_pos e]
def GC (t:ψ) (H:List ay) (Q:List aA) {o:bF} (e:o.ξ=13):de t H Q o=bZ (fun z=>(some z.1,H,z.2.1,⟨0,z.2.2,0,0,0,[],[]⟩)) (zx t H Q o):=by
 unfold de;iterate 12 rw [if_neg (by omega)]
 rw [if_pos e]
def GD (t:ψ) (H:List ay) (Q:List aA) {o:bF} (e:o.ξ=17):de t H Q o=.inr (some (pj t H o.aL).1,(pj t H o.aL).2,Q,⟨0,0,0,0,0,[],[]⟩):=by
 unfold de;iterate 13 rw [if_neg (by omega)]
 rw [if_pos e]
def aiq (t:ψ) (H:List ay) (Q:List aA) {o:bF} (e:¬(1≤o.ξ∧o.ξ≤17)):de t H Q o=.inl 1:=by
 unfold de;iterate 14 rw [if_neg (by omega)]
section
variable {k:Nat} {f:db} {o:bF}
def aeU (h:FI k f) (hk:k≤60) (ho:OB o) (e:o.ξ=1):fa 62 f o ()=some (jz f (de f.S.Γ f.Holds f.bb o)):=by
 unfold fa;refine (if_pos (by decide)).trans ?_;rw [CY _ _ _ e,pc];refine nw (afJ h hk ho) ?_;intro b _;rfl
def ae3 (h:FI k f) (hk:k≤60) (ho:OB o) (e:o.ξ=2):fa 63 f o ()=some (jz f (de f.S.Γ f.Holds f.bb o)):=by
 unfold fa;refine (if_neg (by decide)).trans ?_;refine (if_pos (by decide)).trans ?_;rw [Al _ _ _ e,pc];refine nw (afK h hk ho) ?_;intro b _;rfl
def ae4 (h:FI k f) (hk:k≤60) (ho:OB o) (e:o.ξ=3):fa 64 f o ()=some (jz f (de f.S.Γ f.Holds f.bb o)):=by
 unfold fa;iterate 2 refine (if_neg (by decide)).trans ?_
 refine (if_pos (by decide)).trans ?_;rw [GF _ _ _ e,pc];refine nw (afH h hk ho) ?_;intro b _;rfl
def ae5 (h:FI k f) (hk:k≤60) (ho:OB o) (e:o.ξ=4):fa 65 f o ()=some (jz f (de f.S.Γ f.Holds f.bb o)):=by
 unfold fa;iterate 3 refine (if_neg (by decide)).trans ?_
 refine (if_pos (by decide)).trans ?_;rw [GG _ _ _ e,pc];refine nw (afZ h hk ho) ?_;intro b _;rfl
def ae6 (h:FI k f) (hk:k≤60) (ho:OB o) (e:o.ξ=5):fa 66 f o ()=some (jz f (de f.S.Γ f.Holds f.bb o)):=by
 unfold fa;iterate 4 refine (if_neg (by decide)).trans ?_
 refine (if_pos (by decide)).trans ?_;rw [CZ _ _ _ e,pc];refine nw (afU h hk ho) ?_;intro b _;rfl
def ae7 (h:FI k f) (hk:k≤60) (ho:OB o) (e:o.ξ=6):fa 67 f o ()=some (jz f (de f.S.Γ f.Holds f.bb o)):=by
 unfold fa;iterate 5 refine (if_neg (by decide)).trans ?_
 refine (if_pos (by decide)).trans ?_;rw [C0 _ _ _ e,pc];refine nw (afI h hk ho) ?_;intro b _;rfl
def ae8 (h:FI k f) (hk:k≤60) (ho:OB o) (e:o.ξ=7):fa 68 f o ()=some (jz f (de f.S.Γ f.Holds f.bb o)):=by
 unfold fa;iterate 6 refine (if_neg (by decide)).trans ?_
 refine (if_pos (by decide)).trans ?_;rw [GH _ _ _ e,pc];refine nw (afX h hk ho) ?_;intro b _;rfl
def ae9 (h:FI k f) (hk:k≤60) (ho:OB o) (e:o.ξ=8):fa 69 f o ()=some (jz f (de f.S.Γ f.Holds f.bb o)):=by
 unfold fa;iterate 7 refine (if_neg (by decide)).trans ?_
 refine (if_pos (by decide)).trans ?_;rw [GJ _ _ _ e,pc];refine nw (afO h hk ho) ?_;intro b _;rfl
def ae_ (h:FI k f) (hk:k≤60) (ho:OB o) (e:o.ξ=9):fa 70 f o ()=some (jz f (de f.S.Γ f.Holds f.bb o)):=by
 unfold fa;iterate 8 refine (if_neg (by decide)).trans ?_
 refine (if_pos (by decide)).trans ?_;rw [GK _ _ _ e,pc];refine nw (afp h hk ho) ?_;intro b _;rfl
def aeV (h:FI k f) (hk:k≤60) (ho:OB o) (e:o.ξ=10):fa 71 f o ()=some (jz f (de f.S.Γ f.Holds f.bb o)):=by
 unfold fa;iterate 9 refine (if_neg (by decide)).trans ?_
 refine (if_pos (by decide)).trans ?_;rw [Gx _ _ _ e,pc];refine nw (afS h hk ho) ?_;intro b _;rfl
def aeW (h:FI k f) (hk:k≤60) (ho:OB o) (e:o.ξ=11):fa 72 f o ()=some (jz f (de f.S.Γ f.Holds f.bb o)):=by
 unfold fa;iterate 10 refine (if_neg (by decide)).trans ?_
 refine (if_pos (by decide)).trans ?_;rw [Gy _ _ _ e,pc];refine nw (af1 h hk ho) ?_;intro b _;rfl
def aeX (h:FI k f) (hk:k≤60) (ho:OB o) (e:o.ξ=12):fa 73 f o ()=some (jz f (de f.S.Γ f.Holds f.bb o)):=by
 unfold fa;iterate 11 refine (if_neg (by decide)).trans ?_
 refine (if_pos (by decide)).trans ?_;rw [Gz _ _ _ e,pc];refine nw (aft h hk ho) ?_;intro b _;rfl
def aeY (h:FI k f) (hk:k≤60) (ho:OB o) (e:o.ξ=13):fa 74 f o ()=some (jz f (de f.S.Γ f.Holds f.bb o)):=by
 unfold fa;iterate 12 refine (if_neg (by decide)).trans ?_
 refine (if_pos (by decide)).trans ?_;rw [GC _ _ _ e,pc];refine nw (afG h hk ho) ?_;intro b _;rfl
def ae2 (h:FI k f) (hk:k≤60) (ho:OB o) (e:o.ξ=17):fa 78 f o ()=some (jz f (de f.S.Γ f.Holds f.bb o)):=by
 unfold fa;iterate 16 refine (if_neg (by decide)).trans ?_
 refine (if_pos (by decide)).trans ?_;rw [GD _ _ _ e];have e2:=afr h hk ho;unfold dW at e2;rw [e2];rfl
def aeZ (h:FI k f) (hk:k≤60) (ho:OB o):fa 75 f o ()=some (wc f (qD f o) fun i=>⟨0,0,0,i,0,[],[]⟩):=by
 unfold fa;iterate 13 refine (if_neg (by decide)).trans ?_
 refine (if_pos (by decide)).trans ?_;refine (nw (w:=fun z=>(⟨z.1,f.Holds,f.bb⟩,⟨0,0,0,z.2,0,[],[]⟩)) (afY h hk ho) fun b _=>rfl).trans ?_;cases qD f o<;>rfl
def ae0 (h:FI k f) (hk:k≤60) (ho:OB o):fa 76 f o ()=some (match qy f o with|.inl e=>(f,qb e)|.inr z=>(f,⟨0,z.1,z.2.1,z.2.2.1,z.2.2.2.1,z.2.2.2.2.1,z.2.2.2.2.2⟩)):=by
 unfold fa;iterate 14 refine (if_neg (by decide)).trans ?_
 refine (if_pos (by decide)).trans ?_;have e2:=(Wy h hk ho).1;unfold dW at e2;rw [e2];cases qy f o<;>rfl
def ae1 (h:FI k f) (hk:k≤60) (ho:OB o):fa 77 f o ()=some (wc f (qa f o) fun _=>⟨0,0,0,0,0,[],[]⟩):=by
 unfold fa;iterate 15 refine (if_neg (by decide)).trans ?_
 refine (if_pos (by decide)).trans ?_;refine (nw (w:=fun z=>(⟨z.1,f.Holds,f.bb⟩,⟨0,0,0,0,0,[],[]⟩)) (afw h hk) fun b _=>rfl).trans ?_;cases qa f o<;>rfl
def HP (hc:¬(0≤o.aL∧o.aL<16)):gK f o=(f,qb 1):=if_pos hc
def HM (hc:0≤o.aL∧o.aL<16) (e:o.ξ=14):gK f o=wc f (qD f o) fun i=>⟨0,0,0,i,0,[],[]⟩:=by
 unfold gK;rw [if_neg (not_not_intro hc),if_pos e]
def HN (hc:0≤o.aL∧o.aL<16) (e:o.ξ=15):gK f o=(match qy f o with|.inl e=>(f,qb e)|.inr z=>(f,⟨0,z.1,z.2.1,z.2.2.1,z.2.2.2.1,z.2.2.2.2.1,z.2.2.2.2.2⟩)):=by
 unfold gK;rw [if_neg (not_not_intro hc),if_neg (by omega),if_pos e]
def HO (hc:0≤o.aL∧o.aL<16) (e:o.ξ=16):gK f o=wc f (qa f o) fun _=>⟨0,0,0,0,0,[],[]⟩:=by
 unfold gK;rw [if_neg (not_not_intro hc),if_neg (by omega),if_neg (by omega),if_pos e]
def jb (hc:0≤o.aL∧o.aL<16) (e:o.ξ≠14∧o.ξ≠15∧o.ξ≠16):gK f o=jz f (de f.S.Γ f.Holds f.bb o):=by
 unfold gK;rw [if_neg (not_not_intro hc),if_neg (by omega),if_neg (by omega),if_neg (by omega)]
def zF (h:FI k f) (hk:k≤60) (ho:OB o):pf f o=some (gK f o):=by
 unfold pf;rw [af0,aka];simp only [cD,akb];by_cases hc:0≤o.aL∧o.aL<16
 ·have c1:decide (o.aL≥0)=true:=by simp;omega
  have c2:decide (o.aL<16)=true:=by simp;omega
  by_cases hK:1≤o.ξ∧o.ξ≤17
  ·simp only [if_pos hK,Option.isSome_some,if_true,c1,c2,cD,AF];refine ε.eq (ε.check (by decide) (fun _=>?_) fun h=>(by cases h))
   rcases (by omega:o.ξ=1∨o.ξ=2∨o.ξ=3∨o.ξ=4∨o.ξ=5∨o.ξ=6∨o.ξ=7∨o.ξ=8∨o.ξ=9∨o.ξ=10∨o.ξ=11∨o.ξ=12∨o.ξ=13∨o.ξ=14∨o.ξ=15∨o.ξ=16∨o.ξ=17) with e|e|e|e|e|e|e|e|e|e|e|e|e|e|e|e|e
   ·rw [show o.ξ+61=62 by omega,jb hc (by omega)];exact ⟨_,aeU h hk ho e,rfl⟩
   ·rw [show o.ξ+61=63 by omega,jb hc (by omega)];exact ⟨_,ae3 h hk ho e,rfl⟩
   ·rw [show o.ξ+61=64 by omega,jb hc (by omega)];exact ⟨_,ae4 h hk ho e,rfl⟩
   ·rw [show o.ξ+61=65 by omega,jb hc (by omega)];exact ⟨_,ae5 h hk ho e,rfl⟩
   ·rw [show o.ξ+61=66 by omega,jb hc (by omega)];exact ⟨_,ae6 h hk ho e,rfl⟩
   ·rw [show o.ξ+61=67 by omega,jb hc (by omega)];exact ⟨_,ae7 h hk ho e,rfl⟩
   ·rw [show o.ξ+61=68 by omega,jb hc (by omega)];exact ⟨_,ae8 h hk ho e,rfl⟩
   ·rw [show o.ξ+61=69 by omega,jb hc (by omega)];exact ⟨_,ae9 h hk ho e,rfl⟩
   ·rw [show o.ξ+61=70 by omega,jb hc (by omega)];exact ⟨_,ae_ h hk ho e,rfl⟩
   ·rw [show o.ξ+61=71 by omega,jb hc (by omega)];exact ⟨_,aeV h hk ho e,rfl⟩
   ·rw [show o.ξ+61=72 by omega,jb hc (by omega)];exact ⟨_,aeW h hk ho e,rfl⟩
   ·rw [show o.ξ+61=73 by omega,jb hc (by omega)];exact ⟨_,aeX h hk ho e,rfl⟩
   ·rw [show o.ξ+61=74 by omega,jb hc (by omega)];exact ⟨_,aeY h hk ho e,rfl⟩
   ·rw [show o.ξ+61=75 by omega,HM hc e];exact ⟨_,aeZ h hk ho,rfl⟩
   ·rw [show o.ξ+61=76 by omega,HN hc e];exact ⟨_,ae0 h hk ho,rfl⟩
   ·rw [show o.ξ+61=77 by omega,HO hc e];exact ⟨_,ae1 h hk ho,rfl⟩
   ·rw [show o.ξ+61=78 by omega,jb hc (by omega)];exact ⟨_,ae2 h hk ho e,rfl⟩
  ·rw [jb hc (by omega),aiq _ _ _ hK];simp only [if_neg hK,Option.isSome_none,ni,if_false,cD];exact ε.eq (ε.check (by decide) (fun h=>(by cases h)) fun _=>ε.ret rfl)
 ·rw [HP hc];refine ε.eq (ε.bind (R:=(·=((if 1≤o.ξ∧o.ξ≤17 then some (o.ξ+61) else none).isSome&&decide (o.aL≥0)))) (ε.ite (fun e=>ε.ret (by rw [e];rfl)) fun e=>ε.ret (by rw [ia.2 e];rfl)) fun c1 h1=>ε.bind (R:=(·=false)) (ε.ite (fun e=>ε.ret ?_) fun e=>ε.ret rfl) fun c2 h2=>?_)
  ·rw [h1,bE,decide_eq_true_eq] at e;rw [decide_eq_false_iff_not];omega
  ·subst h2;exact ε.check (by decide) (fun h=>(by cases h)) fun _=>ε.ret rfl
end
end
section
structure AB (a:dL):Prop where
 e:Θ a.xD
 i:Θ a.ι
 k:Θ a.ξ
 n:Θ a.N
 m:Θ a.M
 nl:a.mj.length≤64
 ns:∀s,s∈a.mj→s.length≤32
 d:a.aC.length≤5000
def Sm (e:Int):Prop:=0≤e∧e≤200
def Sm.i {e:Int} (h:Sm e):Θ e:=by unfold Sm at h;unfold Θ;omega
def cA:Θ 0:=by unfold Θ;omega
def fH {α:Type} (v:Int⊕α):Prop:=∀e,v=.inl e→Sm e
def fH.bS {α β:Type} {v:Int⊕α} {k:α→Int⊕β} (h:fH v) (hk:∀a,fH (k a)):fH (Go.Proofs.bS v k):=by
 cases v with
 |inl e=>intro e' he;cases he;exact h e rfl
 |inr a=>exact hk a
def fH.mS {β:Type} {e:Int} {v:Int⊕β} (h:Sm e) (hv:fH v):fH (Go.Proofs.mS e v):=by
 unfold Go.Proofs.mS;split
 ·intro e' he;cases he;exact h
 ·exact hv
def fH.inr {α:Type} {a:α}:fH (.inr a:Int⊕α):=fun e he=>by cases he
def fH.inl {α:Type} {e:Int} (h:Sm e):fH (.inl e:Int⊕α):=fun e' he=>by cases he;exact h
def fH.bZ {α β:Type} {g:α→β} {v:Int⊕α} (h:fH v):fH (Go.Proofs.bZ g v):=by
 cases v with
 |inl e=>intro e' he;cases he;exact h e rfl
 |inr a=>exact .inr
def pK {α β:Type} {g:α→β} {v:Int⊕α} {r:β} (h:bZ g v=.inr r):∃a,v=.inr a∧g a=r:=by
 cases v with
 |inl e=>cases h
 |inr a=>cases h;exact ⟨a,rfl,rfl⟩
section
variable {B:Nat} {t:ψ}
def KA (l:List τ) (i:Int):Sm (dz l i).2:=by unfold dz Sm;(repeat' split)<;>dsimp only<;>omega
def KB (t:ψ) (i:Int) (s:List UInt8):Sm (eT t i s).2:=by
 have:=KA t.η i;unfold eT Sm at *;split
 ·exact this
 split
 ·dsimp only;omega
 split<;>dsimp only<;>omega
def XD (t:ψ):∀(l:List (List UInt8)) (i:Int),Sm (ua t i l).2
 |[],i=>by unfold ua Sm;dsimp only;omega
 |s::r,i=>by
  unfold ua;split
  ·exact KB t i s
  ·exact XD t r _
def XC (t:ψ) (p:List UInt8):Sm (qG t p).2:=by
 unfold qG;split
 ·have:=(Gi (p:=p)).2.2;unfold Sm;dsimp only;omega
 ·exact XD t _ _
def ahA (p:List UInt8):Sm (oN p).2.2:=by unfold oN Sm;split<;>dsimp only<;>omega
def XA (t:ψ) (i:Int) (s:List UInt8):Sm (sM t i s):=by
 have:=KA t.η i;unfold sM Sm at *;split
 ·exact this
 (repeat' split)<;>omega
def ahw (t:ψ) (i:Int) (s:List UInt8) (k:Int):Sm (mw t i s k).2.2:=by
 have:=XA t i s;unfold mw Sm at *;split
 ·dsimp only;omega
 split
 ·exact this
 split<;>dsimp only<;>omega
def ahC (t:ψ) (i to:Int) (s:List UInt8):Sm (tr t i to s).2:=by
 have:=XA t to s;unfold tr Sm at *;split
 ·dsimp only;omega
 split
 ·dsimp only;omega
 split
 ·exact this
 ·dsimp only;omega
def ahJ (t:ψ) (i:Int) (s:List UInt8):Sm (qE t i s).2.2:=by
 have:=KB t i s;unfold qE Sm at *;split
 ·exact this
 split<;>dsimp only<;>omega
def ahD (t:ψ) (i:Int) (s:List UInt8) (to:Int) (aJ:List UInt8):Sm (qw t i s to aJ).2.2:=by
 have h1:=KB t i s;have h2:=KA t.η to
 have h3:Sm (sE t (gD t.η (eT t i s).1) (cd t to aJ)):=by unfold sE Sm;(repeat' split)<;>omega
 unfold qw Sm at *;split
 ·exact h1
 split
 ·exact h2
 split
 ·dsimp only;omega
 split
 ·dsimp only;omega
 split
 ·dsimp only;omega
 split
 ·exact h3
 split<;>dsimp only<;>omega
def ahF (t:ψ) (i:Int) (x:List UInt8):Sm (nX t i x).2:=by unfold nX Sm;(repeat' split)<;>dsimp only<;>omega
def ahG (t:ψ) (l:List aA) (i n b:Int):Sm (vj t l i n b).2:=by unfold vj Sm;(repeat' split)<;>dsimp only<;>omega
def ahz (l:List ay) (c h:Int):Sm (qt l c h).2:=by unfold qt Sm;split<;>dsimp only<;>omega
def ahE (t:ψ) (l:List ay) (c h i:Int):Sm (mW t l c h i).2:=by unfold mW Sm;(repeat' split)<;>dsimp only<;>omega
def ahx (t:ψ) (l:List ay) (c h:Int):Sm (fJ t l c h).2.2:=by unfold fJ Sm;split<;>dsimp only<;>omega
def ahB (h:RT t) (hf:TF B t) (hB:B≤90000) (i a b:Int):Sm (rP t i a b).2.2:=by
 have hL:=(JG h hf hB i a b).2;have h2:=KA t.η i;unfold AL at hL;unfold Sm at *;split at hL
 ·rw [hL];dsimp only;omega
 split at hL
 ·rw [hL];exact h2
 ·obtain ⟨L,-,-,l3⟩:=hL;split at l3
  ·rw [l3];dsimp only;omega
  ·obtain ⟨x,-,hr⟩:=l3;rw [hr];dsimp only;omega
def ahH (t:ψ) (H:List ay) (Q:List aA):fH (rX t H Q):=by
 unfold rX;split
 ·exact .inl (by unfold Sm;omega)
 split
 ·exact .inl (by unfold Sm;omega)
 ·exact .inr
def Cv {α:Type} (t:ψ) (H:List ay) (Q:List aA) (x:α):fH (jq t H Q x):=(ahH t H Q).bS fun _=>.inr
def Ab (t:ψ) (p:List UInt8):fH (jl t p):=.mS (XC t p) .inr
def Gf (t:ψ) (p:List UInt8):fH (tW t p):=.mS (ahA p) (.mS (XC t _) .inr)
def Qg (t:ψ) (H:List ay) (o:bF):fH (nE t H o):=.mS (ahz _ _ _) (by
 split
 ·exact .inr
 ·exact .inl (by unfold Sm;omega))
def XB (t:ψ) (H:List ay) (Q:List aA) (i:Int) (d:List UInt8):fH (oC t H Q i d):=.mS (ahF _ _ _) (Cv _ _ _ _)
def CA {α:Type} {H:List ay} {Q:List aA} {x:α} {z:ψ×List aA×α} (hz:jq t H Q x=.inr z) (ht:RF B t) (hq:j5 Q) (hl:Q.length≤16):RF B z.1∧j5 z.2.1∧z.2.1.length≤16∧z.2.2=x:=by
 obtain ⟨w,hw,he⟩:=my hz;cases he;unfold rX at hw;split at hw
 ·cases hw
 split at hw
 ·cases hw
 cases hw;obtain ⟨h1,h2⟩:=VA (jo t H) hq;exact ⟨ht.settle H,h1,by dsimp only;omega,rfl⟩
def Te (h:RT t) (hf:TF B t) (hB:B≤4000) (i:Int):NZ (gD t.η i):=by
 rcases wi t.η i with ⟨n,g1,g2⟩|⟨g1,g2⟩
 ·rw [g2];exact .inl (h.nb hf hB (dM g1).1)
 ·exact .inr g2
def VG (h:RT t) (hf:TF B t) (hB:B≤4000) (i:Int) (s:List UInt8):Θ (eT t i s).1:=by
 by_cases h0:(eT t i s).2=0
 ·obtain ⟨m,e,g1,g2,g3,g4,g5,g6⟩:=look_ok h0;rw [g6];have:=h.eR (dM g1).1 (nj g5);have:=hf.x;unfold Θ;omega
 ·have:(eT t i s).1=0:=by
   unfold eT at h0 ⊢;by_cases h1:((dz t.η i).2 != 0)=true
   ·rw [if_pos h1]
   rw [if_neg h1] at h0 ⊢;by_cases h2:(!f_ s)=true
   ·rw [if_pos h2]
   rw [if_neg h2] at h0 ⊢;cases hf:(dz t.η i).1.Ψ.find? fun e=>e.aN==s with
   |none=>rfl
   |some e=>rw [hf] at h0;exact absurd rfl h0
  rw [this];exact cA
end
def KS (t:ψ) (H:List ay) (Q:List aA) {o:bF} (e:¬o.ξ=1∧¬o.ξ=2∧¬o.ξ=3∧¬o.ξ=4∧¬o.ξ=5∧¬o.ξ=6∧¬o.ξ=7∧¬o.ξ=8∧¬o.ξ=9∧¬o.ξ=10∧¬o.ξ=11∧¬o.ξ=12∧¬o.ξ=13∧¬o.ξ=17):de t H Q o=.inl 1:=by
 obtain ⟨e1,e2,e3,e4,e5,e6,e7,e8,e9,sI,sJ,ra,sK,sL⟩:=e;unfold de;rw [if_neg e1,if_neg e2,if_neg e3,if_neg e4,if_neg e5,if_neg e6,if_neg e7,if_neg e8,if_neg e9,if_neg sI,if_neg sJ,if_neg ra,if_neg sK,if_neg sL]
structure Hn (B:Nat) (z:qX):Prop where
 t:∀T,z.1=some T→RF B T
 h:mr z.2.1
 hl:z.2.1.length≤64
 q:j5 z.2.2.1
 ql:z.2.2.1.length≤16
 a:AB z.2.2.2
section
variable {k:Nat} {f:db} {o:bF}
def adu {l:List ay} {x:ay} {k:Nat}:(dy l (k:Int) [x]).length=l.length+1:=by
 unfold dy;simp only [dj,dR,l9,cZ,ig];omega
def aeH (t:ψ) {l:List ay} (hs:mr l) (hl:l.length≤64) (c h i:Int):mr (mW t l c h i).1∧(mW t l c h i).1.length≤64:=by
 unfold mW;split
 ·exact ⟨hs,hl⟩
 split
 ·exact ⟨hs,hl⟩
 split
 ·exact ⟨hs,hl⟩
 split
 ·exact ⟨hs,hl⟩
 rename_i h4;split
 ·exact ⟨hs,hl⟩
 rename_i h5;rw [decide_eq_true_eq] at h5;exact ⟨Oj hs (ia.2 h4) i,by dsimp only;rw [adu];omega⟩
def ahK (h:FI k f) (hk:k≤60):fH (de f.S.Γ f.Holds f.bb o):=by
 by_cases e1:o.ξ=1
 ·rw [CY _ _ _ e1];exact (Ab _ _).bZ
 by_cases e2:o.ξ=2
 ·rw [Al _ _ _ e2];exact fH.bZ ((Gf _ _).bS fun _=>.mS (ahw _ _ _ _) (Cv _ _ _ _))
 by_cases e3:o.ξ=3
 ·rw [GF _ _ _ e3];exact fH.bZ ((Ab _ _).bS fun _=>(Gf _ _).bS fun _=>.mS (ahC _ _ _ _) (Cv _ _ _ _))
 by_cases e4:o.ξ=4
 ·rw [GG _ _ _ e4];exact fH.bZ ((Gf _ _).bS fun _=>.mS (ahJ _ _ _) (Cv _ _ _ _))
 by_cases e5:o.ξ=5
 ·rw [CZ _ _ _ e5];exact fH.bZ ((Gf _ _).bS fun _=>(Gf _ _).bS fun _=>.mS (KB _ _ _) (.mS (ahD _ _ _ _ _) (Cv _ _ _ _)))
 by_cases e6:o.ξ=6
 ·rw [C0 _ _ _ e6];exact fH.bZ ((Ab _ _).bS fun _=>.mS (ahB h.r h.s.f (by omega) _ _ _) .inr)
 by_cases e7:o.ξ=7
 ·rw [GH _ _ _ e7];exact (Ab _ _).bZ
 by_cases e8:o.ξ=8
 ·rw [GJ _ _ _ e8];exact fH.bZ ((Ab _ _).bS fun _=>.mS (ahE _ _ _ _ _) .inr)
 by_cases e9:o.ξ=9
 ·rw [GK _ _ _ e9];exact fH.bZ (.mS (ahx _ _ _ _) .inr)
 by_cases sI:o.ξ=10
 ·rw [Gx _ _ _ sI];refine fH.bZ ((Qg _ _ _).bS fun _=>?_);split
  ·exact .inr
  ·exact .inl (by unfold Sm;omega)
 by_cases sJ:o.ξ=11
 ·rw [Gy _ _ _ sJ];refine fH.bZ ((Qg _ _ _).bS fun _=>?_);split
  ·split
   ·exact XB _ _ _ _ _
   ·exact .inl (by unfold Sm;omega)
  ·exact .inl (by unfold Sm;omega)
 by_cases ra:o.ξ=12
 ·rw [Gz _ _ _ ra];exact fH.bZ ((Qg _ _ _).bS fun _=>XB _ _ _ _ _)
 by_cases sK:o.ξ=13
 ·rw [GC _ _ _ sK];exact fH.bZ ((Ab _ _).bS fun _=>.mS (ahG _ _ _ _ _) (Cv _ _ _ _))
 by_cases sL:o.ξ=17
 ·rw [GD _ _ _ sL];exact .inr
 rw [KS _ _ _ ⟨e1,e2,e3,e4,e5,e6,e7,e8,e9,sI,sJ,ra,sK,sL⟩];exact .inl (by unfold Sm;omega)
def ot {i k n m:Int} (hi:Θ i) (hk:Θ k) (hn:Θ n) (hm:Θ m):AB ⟨0,i,k,n,m,[],[]⟩:=⟨cA,hi,hk,hn,hm,by simp,fun s hs=>(by cases hs),by simp⟩
def ahh {n:τ} (h:NZ n):Θ (FX n):=by
 obtain ⟨-,-,-,h4,h5,-⟩:=h.b;unfold FX Θ;omega
def TG (h:FI k f) {i:Int} {d:List UInt8} {z:ψ×List aA×Int×Int} (hz:oC f.S.Γ f.Holds f.bb i d=.inr z):RF (2+5*k+5) z.1∧j5 z.2.1∧z.2.1.length≤16∧z.2.2=(i,(d.length:Int))∧d.length≤4096:=by
 obtain ⟨h1,h2⟩:=lY hz;obtain ⟨g1,g2,g3,g4⟩:=CA h2 ⟨h.r.WR _ _,h.s.f.WU _ _⟩ h.q h.ql;refine ⟨g1,g2,g3,g4,?_⟩;unfold nX at h1;split at h1
 ·cases h1
 split at h1
 ·cases h1
 split at h1
 ·cases h1
 ·rename_i h5;rw [decide_eq_true_eq] at h5;omega
def Nc (h:FI k f) (hk:k≤60) {n:τ} (hn:nE f.S.Γ f.Holds o=.inr n):NZ n:=by
 obtain ⟨-,h2⟩:=lY hn;split at h2
 ·cases h2;exact Te h.r h.s.f (by omega) _
 ·cases h2
def E6 (h:FI k f) (hk:k≤60) {p:List UInt8} {n:τ} (hn:jl f.S.Γ p=.inr n):NZ n:=by
 obtain ⟨-,h2⟩:=lY hn;cases h2;exact Te h.r h.s.f (by omega) _
def air (h:FI k f) (hk:k≤60) (ho:OB o) {z:qX} (hz:de f.S.Γ f.Holds f.bb o=.inr z):Hn (2+5*k+5) z:=by
 have hB:2+5*k≤4000:=by omega
 have no:∀(a:dL),AB a→Hn (2+5*k+5) (none,f.Holds,f.bb,a):=fun a ha=>⟨fun T hT=>(by cases hT),h.h,h.hl,h.q,h.ql,ha⟩;have st:∀(T:ψ) (Q:List aA) (a:dL),RF (2+5*k+5) T→j5 Q→Q.length≤16→AB a→Hn (2+5*k+5) (some T,f.Holds,Q,a):=fun T Q a hT h1 h2 ha=>⟨fun T' hT'=>(by cases hT';exact hT),h.h,h.hl,h1,h2,ha⟩;by_cases e1:o.ξ=1
 ·rw [CY _ _ _ e1] at hz;obtain ⟨n,hn,rfl⟩:=pK hz;have hb:=(E6 h hk hn).b;exact no _ (ot hb.1 hb.2.1 cA cA)
 by_cases e2:o.ξ=2
 ·rw [Al _ _ _ e2] at hz;obtain ⟨w,hw,rfl⟩:=pK hz;obtain ⟨y,-,h2⟩:=my hw;obtain ⟨-,h3⟩:=lY h2;obtain ⟨g1,g2,g3,g4⟩:=CA h3 ⟨h.r.add _ _ _,h.s.f.Ho (by omega) _ _ _⟩ h.q h.ql;refine st _ _ _ g1 g2 g3 (ot ?_ ho.n cA cA);rw [g4];have hx:=h.s.f.x;unfold mw;split
  ·exact cA
  split
  ·exact cA
  split
  ·exact cA
  ·unfold Θ;dsimp only;omega
 by_cases e3:o.ξ=3
 ·rw [GF _ _ _ e3] at hz;obtain ⟨w,hw,rfl⟩:=pK hz;obtain ⟨n,hn,h2⟩:=my hw;obtain ⟨y,-,h2⟩:=my h2;obtain ⟨-,h3⟩:=lY h2;obtain ⟨g1,g2,g3,g4⟩:=CA h3 ⟨h.r.ln _ _ _,h.s.f.VE (by omega) _ _ _⟩ h.q h.ql;refine st _ _ _ g1 g2 g3 (ot ?_ cA cA cA);rw [g4];exact (E6 h hk hn).b.1
 by_cases e4:o.ξ=4
 ·rw [GG _ _ _ e4] at hz;obtain ⟨w,hw,rfl⟩:=pK hz;obtain ⟨y,-,h2⟩:=my hw;obtain ⟨-,h3⟩:=lY h2;obtain ⟨g1,g2,g3,g4⟩:=CA h3 ⟨h.r.un _ _,h.s.f.Ye (by omega) _ _⟩ h.q h.ql;refine st _ _ _ g1 g2 g3 (ot ?_ cA cA cA);rw [g4];have hx:=VG h.r h.s.f hB y.1 y.2;unfold qE;split
  ·exact cA
  split
  ·exact cA
  ·exact hx
 by_cases e5:o.ξ=5
 ·rw [CZ _ _ _ e5] at hz;obtain ⟨w,hw,rfl⟩:=pK hz;obtain ⟨y,-,h2⟩:=my hw;obtain ⟨y',-,h2⟩:=my h2;obtain ⟨-,h2⟩:=lY h2;obtain ⟨-,h3⟩:=lY h2;obtain ⟨g1,g2,g3,g4⟩:=CA h3 ⟨h.r.mv _ _ _ _,h.s.f.OL (by omega) _ _ _ _⟩ h.q h.ql;refine st _ _ _ g1 g2 g3 (ot ?_ cA cA cA);rw [g4];exact VG h.r h.s.f hB _ _
 by_cases e6:o.ξ=6
 ·rw [C0 _ _ _ e6] at hz;obtain ⟨w,hw,rfl⟩:=pK hz;obtain ⟨n,hn,h2⟩:=my hw;obtain ⟨-,h3⟩:=lY h2;cases h3;obtain ⟨l1,l2,l3,l4⟩:=VC h.r h.s.f hB n.ι o.N o.M;refine no _ ⟨cA,cA,cA,l3,cA,by simpa using l1,fun s hs=>?_,by simp⟩;obtain ⟨e,he,rfl⟩:=c9.1 hs;exact l2 e he
 by_cases e7:o.ξ=7
 ·rw [GH _ _ _ e7] at hz;obtain ⟨n,hn,rfl⟩:=pK hz;have hn:=E6 h hk hn;have hb:=hn.b;exact no _ (ot hb.1 hb.2.1 hb.2.2.1 (ahh hn))
 by_cases e8:o.ξ=8
 ·rw [GJ _ _ _ e8] at hz;obtain ⟨w,hw,rfl⟩:=pK hz;obtain ⟨n,hn,h2⟩:=my hw;obtain ⟨-,h3⟩:=lY h2;cases h3;obtain ⟨o1,o2⟩:=aeH f.S.Γ h.h h.hl o.aL o.bq n.ι;exact ⟨fun T hT=>(by cases hT),o1,o2,h.q,h.ql,ot (E6 h hk hn).b.1 cA cA cA⟩
 by_cases e9:o.ξ=9
 ·rw [GK _ _ _ e9] at hz;obtain ⟨w,hw,rfl⟩:=pK hz;obtain ⟨-,h3⟩:=lY hw;cases h3;have hg:=L1 (t:=f.S.Γ) (l:=f.Holds) (n:=64) (B:=2+5*k+5) ⟨h.r,h.s.f.up (by omega),h.hl,h.h⟩ o.aL o.bq;exact ⟨fun T hT=>(by cases hT;exact ⟨hg.r,hg.f⟩),hg.s,hg.l,h.q,h.ql,ot cA cA cA cA⟩
 by_cases sI:o.ξ=10
 ·rw [Gx _ _ _ sI] at hz;obtain ⟨w,hw,rfl⟩:=pK hz;obtain ⟨n,hn,h2⟩:=my hw;split at h2
  ·cases h2;have hn:=(Nc h hk hn).b;refine no _ ⟨cA,hn.1,cA,cA,cA,by simp,fun s hs=>(by cases hs),?_⟩;unfold JX;have:=hn.2.2.2.1;simp only [dR,l9];omega
  ·cases h2
 by_cases sJ:o.ξ=11
 ·rw [Gy _ _ _ sJ] at hz;obtain ⟨w,hw,rfl⟩:=pK hz;obtain ⟨n,hn,h2⟩:=my hw;split at h2
  ·split at h2
   ·obtain ⟨g1,g2,g3,g4,g5⟩:=TG h h2;refine st _ _ _ g1 g2 g3 ?_;rw [g4];exact ot (Nc h hk hn).b.1 cA cA (by unfold Θ;dsimp only;omega)
   ·cases h2
  ·cases h2
 by_cases ra:o.ξ=12
 ·rw [Gz _ _ _ ra] at hz;obtain ⟨w,hw,rfl⟩:=pK hz;obtain ⟨n,hn,h2⟩:=my hw;obtain ⟨g1,g2,g3,g4,g5⟩:=TG h h2;refine st _ _ _ g1 g2 g3 ?_;rw [g4];exact ot (Nc h hk hn).b.1 cA cA (by unfold Θ;dsimp only;omega)
 by_cases sK:o.ξ=13
 ·rw [GC _ _ _ sK] at hz;obtain ⟨w,hw,rfl⟩:=pK hz;obtain ⟨n,hn,h2⟩:=my hw;obtain ⟨-,h3⟩:=lY h2;have hs:=Xj (t:=f.S.Γ) h.q h.ql n.ι o.N o.M;obtain ⟨g1,g2,g3,g4⟩:=CA h3 h.rf hs.1 hs.2;refine st _ _ _ g1 g2 g3 (ot ?_ cA cA cA);rw [g4];exact (E6 h hk hn).b.1
 by_cases sL:o.ξ=17
 ·rw [GD _ _ _ sL] at hz;cases hz;have hg:=Mz (n:=64) (B:=2+5*k+5) o.aL f.Holds (a:=(f.S.Γ,f.Holds)) ⟨h.r,h.s.f.up (by omega),h.hl,h.h⟩;exact ⟨fun T hT=>(by cases hT;exact ⟨hg.r,hg.f⟩),hg.s,hg.l,h.q,h.ql,ot cA cA cA cA⟩
 rw [KS _ _ _ ⟨e1,e2,e3,e4,e5,e6,e7,e8,e9,sI,sJ,ra,sK,sL⟩] at hz;cases hz
def FI.up (h:FI k f) {j:Nat} (hj:k≤j):FI j f:=⟨h.s.up hj,h.r,h.k,h.h,h.hl,h.q,h.ql⟩
def JT (s:bx) (t:ψ):(eY s t).Γ=t:=by
 unfold eY;split
 ·assumption
 ·rfl
def FI.Qv (h:FI k f) (hk:k≤60) {z:qX} (hz:Hn (2+5*k+5) z):FI (k+1) ⟨JS f.S z.1,z.2.1,z.2.2.1⟩:=by
 cases uX:z.1 with
 |none=>exact ⟨h.s.up (by omega),h.r,h.k,hz.h,hz.hl,hz.q,hz.ql⟩
 |some T =>
  have hT:=hz.t T uX;refine ⟨h.s.agf (by omega) hT.r.ts hT.f,?_,h.k.put hT.r hT.f (by omega),hz.h,hz.hl,hz.q,hz.ql⟩;show RT (eY f.S T).Γ;rw [JT];exact hT.r
def ahI:fH (qD f o):=(Ab _ _).bS fun n=>.mS (by unfold nZ Sm;(repeat' split)<;>dsimp only<;>omega) .inr
def ahy:fH (qa f o):=.mS (by unfold pa Sm;split<;>dsimp only<;>omega) .inr
def Dr {e:Int} (h:Θ e):AB (qb e):=⟨h,cA,cA,cA,cA,by simp [qb],fun s hs=>(by cases hs),by simp [qb]⟩
def DG (h:FI k f) (hk:k≤60) (ho:OB o):FI (k+1) (gK f o).1∧AB (gK f o).2:=by
 by_cases hc:0≤o.aL∧o.aL<16
 ·by_cases DI:o.ξ=14
  ·rw [HM hc DI];unfold wc;cases hv:qD f o with
   |inl e=>exact ⟨h.up (by omega),Dr ((ahI e hv).i)⟩
   |inr z =>
    obtain ⟨n,-,h2⟩:=my hv;obtain ⟨-,h3⟩:=lY h2;cases h3;have hx:=h.s.nx
    have hr:(nZ f.S n.ι).1.Γ=f.S.Γ:=by unfold nZ;(repeat' split)<;>rfl
    refine ⟨⟨h.s.take _,by dsimp only;rw [hr];exact h.r,h.k.take _,h.h,h.hl,h.q,h.ql⟩,ot cA cA ?_ cA⟩;unfold nZ;split
    ·exact cA
    split
    ·exact cA
    split
    ·exact cA
    ·unfold Θ;dsimp only;omega
  by_cases DJ:o.ξ=15
  ·rw [HN hc DJ];have hp:=(Wy h hk ho).2;cases hv:qy f o with
   |inl e=>rw [hv] at hp;exact ⟨h.up (by omega),Dr hp⟩
   |inr z =>
    rw [hv] at hp;obtain ⟨a1,a2,a3,a4,a5,a6,a7⟩:=hp;exact ⟨h.up (by omega),cA,a1,a2,a3,a4,a5,a6,by dsimp only;omega⟩
  by_cases DK:o.ξ=16
  ·rw [HO hc DK];unfold wc;cases hv:qa f o with
   |inl e=>exact ⟨h.up (by omega),Dr ((ahy e hv).i)⟩
   |inr z =>
    obtain ⟨-,h3⟩:=lY hv;cases h3
    have hr:(pa f.S o.N).1.Γ=f.S.Γ:=by unfold pa;split<;>rfl
    exact ⟨⟨(h.s.drop _).up (by omega),by dsimp only;rw [hr];exact h.r,h.k.drop _,h.h,h.hl,h.q,h.ql⟩,ot cA cA cA cA⟩
  rw [jb hc ⟨DI,DJ,DK⟩];unfold jz;cases hv:de f.S.Γ f.Holds f.bb o with
  |inl e=>exact ⟨h.up (by omega),Dr (ahK h hk e hv).i⟩
  |inr z =>
   have hz:=air h hk ho hv;exact ⟨h.Qv hk hz,hz.a⟩
 ·rw [HP hc];exact ⟨h.up (by omega),Dr (by unfold Θ;omega)⟩
end
end
section
def lH (n:Int):Nat:=if n<0 then (-2*n-1).toNat else (2*n).toNat
def sl {n:Int} (h:Θ n):lH n<18446744073709551616:=by
 unfold Θ at h;unfold lH;split<;>omega
def aks {a:Nat} (h:a<18446744073709551616):a ^^^ 18446744073709551615=18446744073709551615-a:=by
 have h1:=Y_ (x:=BitVec.ofNat 64 a);rw [←Za,Y',BitVec.toNat_ofNat,BitVec.toNat_allOnes,Nat.mod_eq_of_lt (by simpa using h)] at h1;simpa using h1
def af3 {n:Int} (h:Θ n):qH .u64 (pL .u64 (IntKind.u64.wrap n) 1) (IntKind.u64.wrap (eV .i64 n 63))=((lH n:Nat):Int):=by
 unfold Θ at h
 have hs:pL .u64 (IntKind.u64.wrap n) 1=(2*n) % 18446744073709551616:=by
  unfold pL;rw [Zn,Zn]
  have:(2:Int) ^ (min (1:Int).toNat IntKind.u64.bits)=2:=by decide
  rw [this];omega
 have hr:eV .i64 n 63=n/9223372036854775808:=by
  unfold eV
  have:(2:Int) ^ (min (63:Int).toNat IntKind.i64.bits)=9223372036854775808:=by decide
  rw [this,Int.fdiv_eq_ediv_of_nonneg _ (by decide)]
 rw [hs,hr];unfold lH;split
 ·rename_i hn
  have e1:n/9223372036854775808=-1:=by omega
  have e2:(2*n) % 18446744073709551616=(((2*n+18446744073709551616).toNat:Nat):Int):=by omega
  have e3:IntKind.u64.wrap (-1)=((18446744073709551615:Nat):Int):=by decide
  rw [e1,e2,e3,YZ (by omega) (by decide),aks (by omega)];congr 1;omega
 ·rename_i hn
  have e1:n/9223372036854775808=0:=by omega
  have e2:(2*n) % 18446744073709551616=(((2*n).toNat:Nat):Int):=by omega
  have e3:IntKind.u64.wrap 0=((0:Nat):Int):=by decide
  rw [e1,e2,e3,YZ (by omega) (by decide),Nat.xor_zero]
def oQ:Nat→Nat→List UInt8
 |0,u=>[iX u]
 |k+1,u=>if u<128 then [iX u] else (iX u ||| 128)::oQ k (u>>>7)
def kY (u:Nat):List UInt8:=oQ 10 u
def Xm:∀(k j u:Nat),u<128 ^ (j+1)→(oQ k u).length≤j+1
 |0,j,u,_=>by simp [oQ]
 |k+1,j,u,h=>by
  unfold oQ;split
  ·simp
  ·cases j with
   |zero=>simp at h;omega
   |succ j =>
    have:=Xm k j (u>>>7) (by rw [G8,qU (by decide)];rw [Lj] at h;simpa using h);simp only [cZ];omega
def Xn:∀(k u:Nat),u<128 ^ (k+1)→oQ (k+1) u=oQ k u
 |0,u,h=>by
  have:u<128:=by simpa using h
  unfold oQ;rw [if_pos this]
 |k+1,u,h=>by
  rw [show oQ (k+1+1) u=if u<128 then [iX u] else (iX u ||| 128)::oQ (k+1) (u>>>7) from rfl,
   show oQ (k+1) u=if u<128 then [iX u] else (iX u ||| 128)::oQ k (u>>>7) from rfl]
  split
  ·rfl
  ·rw [Xn k (u>>>7) (by rw [G8,qU (by decide)];rw [Lj] at h;simpa using h)]
def rT {u:Nat} (h:u<18446744073709551616):(kY u).length≤10:=Xm 10 9 u (Lg h (by decide))
def WG {u:Nat} (h:u<128):kY u=[iX u]:=by unfold kY oQ;rw [if_pos h]
def WE {u:Nat} (h:¬u<128) (hu:u<18446744073709551616):kY u=(iX u ||| 128)::kY (u>>>7):=by
 have h2:u>>>7<128 ^ 10:=gx (ZG _ _) (Lg hu (by decide));unfold kY;rw [oQ,if_neg h,Xn 9 _ h2]
def XZ (u:Nat):lg (u:Int)=iX u:=by
 unfold lg
 have:((u:Int) % 256).toNat=u % 256:=by omega
 rw [this];apply Rv.1;simp
def Wa:∀(k u:Nat) (acc:List UInt8),u<18446744073709551616→u<128 ^ (k+1)→acc.length+k≤1000000 →
  ∃(v:Nat) (l:List UInt8),loop Fp ((u:Int),acc)=some ((v:Int),l)∧l++[iX v]=acc++kY u
 |k,u,acc,hu,hk,ha=>by
  rw [Jj];unfold Fp;by_cases h:u<128
  ·have:decide ((u:Int)≥128)=false:=by simp;omega
   simp only [this];refine ⟨u,acc,rfl,?_⟩;rw [WG h]
  ·have hd:decide ((u:Int)≥128)=true:=by simp;omega
   cases k with
   |zero=>exact (h (by simpa using hk)).elim
   |succ k =>
    have e:eV .u64 (u:Int) 7=((u>>>7:Nat):Int):=PL (b:=7) (by decide);obtain ⟨v,l,hl,hv⟩:=Wa k (u>>>7) (acc++[iX u ||| 128]) (gx (ZG _ _) hu)
     (by rw [G8,qU (by decide)];rw [Lj] at hk;simpa using hk) (by simp;omega)
    refine ⟨v,l,?_,?_⟩
    ·simp only [hd,if_true];rw [im (by simp only [cZ,ig];omega),e,XZ];exact hl
    ·rw [hv,WE h hu];simp
def V' {n:Int} (h:Θ n):zI n=some (kY (lH n)):=by
 refine ε.eq ?_;unfold zI WH;rw [af3 h];have hz:=sl h;obtain ⟨v,l,hl,hv⟩:=Wa 9 (lH n) [] hz (Lg hz (by decide)) (by simp);refine ε.ai hl ?_;have hlen:=congrArg List.length hv;have:=rT hz;simp at hlen;refine ε.Ω (by simp only [cZ,ig];omega) (ε.ret ?_);show l++[lg (v:Int)]=_;rw [XZ,hv];rfl
def tX (s:List UInt8):List UInt8:=kY (lH s.length)++s
def O0 (s:List UInt8) (h:s.length≤1000000):wW s=some (tX s):=by
 refine ε.eq ?_;unfold wW
 have hi:Θ (s.length:Int):=by unfold Θ;omega
 have:=rT (sl hi);exact ε.ai (V' hi) (ε.Ω (by omega) (ε.ret rfl))
def nU (l:List Int):List UInt8:=(l.map fun n=>kY (lH n)).flatten
def OS:∀{l:List Int},(∀n∈l,Θ n)→(nU l).length≤10*l.length
 |[],_=>by simp [nU]
 |n::l,h=>by
  have h1:=rT (sl (h n (List.mem_cons_self ..)));have h2:=OS (l:=l) fun m hm=>h m (cu _ hm);unfold nU at h2 ⊢;simp at h2 ⊢;omega
def Wv (l:List Int) (h:l.length≤100000) (hi:∀n∈l,Θ n):zJ l=some (nU l):=by
 have key:∀(r:List Int) (n:Nat) (acc:List UInt8),l.drop n=r→n≤l.length→acc.length+10*r.length≤1000000→loop (wX l) ((n:Int),acc)=some (acc++nU r):=by
  intro r;induction r with
  |nil =>
   intro n acc hd hn _
   have:n=l.length:=by have:=congrArg List.length hd;simp at this;omega
   subst this;refine nS ?_;unfold wX;rw [if_neg (by simp)];simp [out,nU]
  |cons x r ih =>
   intro n acc hd hn ha
   have Φ:n<l.length:=by
    rcases Nat.lt_or_ge n l.length with h|h
    ·exact h
    ·rw [List.drop_eq_nil_of_le h] at hd;cases hd
   rw [List.drop_eq_getElem_cons Φ] at hd;injection hd with hx hr
   have gr:l[n]?=some x:=by rw [bU Φ,hx]
   have kQ:=hi x (hx▸eI Φ);have hp:=rT (sl kQ);simp only [cZ] at ha
   have e:wX l ((n:Int),acc)=some (.inl (((n+1:Nat):Int),acc++kY (lH x))):=by
    refine ε.eq ?_;unfold wX;refine ε.ite (fun _=>ε.ai (cL gr) (ε.ai (V' kQ) (ε.Ω (by dsimp only;omega) (ε.Ω (by unfold Θ;omega) (ε.ret rfl))))) (fun hh=>absurd hh (by simp;omega))
   rw [tu e,ih (n+1) _ hr Φ (by simp;omega)];simp [nU]
 unfold zJ WI;have:=key l 0 [] rfl (lP _) (by simp;omega)
 have this:loop (wX l) (0,[])=some (nU l):=by simpa using this
 rw [this];rfl
def Z6 (a:Int):sB .u64 a 1=0∨sB .u64 a 1=1:=by
 unfold sB
 have h1:(eH 64 a &&& eH 64 1).toNat≤1:=by
  rw [BitVec.toNat_and];exact Nat.and_le_right
 have h2:(eH IntKind.u64.bits a &&& eH IntKind.u64.bits 1).toNat≤1:=h1;generalize (eH IntKind.u64.bits a &&& eH IntKind.u64.bits 1).toNat=n at h2
 have:n=0∨n=1:=by omega
 rcases this with rfl|rfl
 ·left;decide
 ·right;decide
def GU (u:Nat):Int:=if u % 2=0 then ((u/2:Nat):Int) else-((u/2:Nat):Int)-1
def aku (n:Int):GU (lH n)=n:=by
 unfold GU lH;by_cases h:n<0
 ·rw [if_pos h];split<;>omega
 ·rw [if_neg h];split<;>omega
def Z3 (u:Nat) (h:u<18446744073709551616):sB .u64 (u:Int) 1=((u % 2:Nat):Int):=by
 have:=Z4 (b:=1) h (by decide);rw [show (1:Nat)=2 ^ 1-1 from rfl,Nat.and_two_pow_sub_one_eq_mod] at this;exact this
def akr {a:Nat} (h:a<9223372036854775808):qH .i64 (a:Int) 0=a:=by
 unfold qH
 have e:(eH IntKind.i64.bits (a:Int) ^^^ eH IntKind.i64.bits 0).toNat=a:=by
  show (eH 64 (a:Int) ^^^ eH 64 0).toNat=a;rw [Y',wV (by omega)];exact Nat.xor_zero a
 rw [e,qO _ ⟨by omega,by omega⟩]
def akq {a:Nat} (h:a<9223372036854775808):qH .i64 (a:Int) (-1)=-(a:Int)-1:=by
 unfold qH
 have e:(eH IntKind.i64.bits (a:Int) ^^^ eH IntKind.i64.bits (-1)).toNat=18446744073709551615-a:=by
  show (eH 64 (a:Int) ^^^ eH 64 (-1)).toNat=_
  have:eH 64 (-1)=BitVec.allOnes 64:=by decide
  rw [this,Za,Y_,wV (by omega)]
 rw [e,IntKind.wrap_i64];omega
def af2 {u:Nat} (h:u<18446744073709551616):qH .i64 (IntKind.i64.wrap (eV .u64 (u:Int) 1)) (0-IntKind.i64.wrap (sB .u64 (u:Int) 1))=GU u:=by
 have e1:eV .u64 (u:Int) 1=((u>>>1:Nat):Int):=PL (b:=1) (by decide)
 have e2:u>>>1=u/2:=by rw [G8]
 rw [e1,e2,Z3 u h,qO _ ⟨by omega,by omega⟩,qO _ ⟨by omega,by omega⟩];unfold GU
 have:u % 2=0∨u % 2=1:=by omega
 rcases this with e|e
 ·rw [e,if_pos rfl];exact akr (by omega)
 ·rw [e,if_neg (by decide)];exact akq (by omega)
def ad2 (v:Nat):((iX v ||| 128) &&& 127).toNat=v % 128:=by
 have h:∀w:Fin 256,((iX w.1 ||| 128) &&& 127).toNat=w.1 % 128:=by decide +kernel
 have e:iX v=iX (v % 256):=by apply Rv.1;simp
 have:=h ⟨v % 256,Nat.mod_lt _ (by decide)⟩;rw [e];dsimp only at this;rw [this];omega
def ad3 {v:Nat} (hv:v<128):(iX v &&& 127).toNat=v:=by
 have h:∀w:Fin 128,(iX w.1 &&& 127).toNat=w.1:=by decide +kernel
 exact h ⟨v,hv⟩
def high (v:Nat):128≤(iX v ||| 128).toNat:=by
 have h:∀w:Fin 256,128≤(iX w.1 ||| 128).toNat:=by decide +kernel
 have e:iX v=iX (v % 256):=by apply Rv.1;simp
 rw [e];exact h ⟨v % 256,Nat.mod_lt _ (by decide)⟩
def aez {v:Nat} (hv:v<128):(iX v).toNat=v:=by rw [UInt8.toNat_ofNat'];omega
def Wx {acc v i:Nat} (ha:acc<2 ^ (7*i)) (hi:i≤9) (hu:acc+v*2 ^ (7*i)<18446744073709551616) :
  ve .u64 (acc:Int) (pL .u64 (v:Int) (7*(i:Int)))=((acc+v*2 ^ (7*i):Nat):Int):=by
 have e:(7*(i:Int))=((7*i:Nat):Int):=by omega
 have h2:v*2 ^ (7*i)<18446744073709551616:=by omega
 rw [e,ahd rfl (by rw [vQ];omega) (by rw [vQ];simpa using h2),aeJ (by omega) h2];congr 1;have:=Nat.shiftLeft_add_eq_or_of_lt ha v;rw [Nat.shiftLeft_eq] at this;rw [Nat.or_comm,←this,Nat.add_comm]
def Wb (b rest:List UInt8) (u:Nat) (hu:u<18446744073709551616) (hb:b.length≤100000):∀(k i v acc:Nat) (pre:List UInt8),
  b=pre++(kY v++rest)→pre.length=i→acc<2 ^ (7*i)→u=acc+v*2 ^ (7*i)→(i=0∨v≠0)→v<128 ^ (k+1)→v<18446744073709551616→i≤9 →
  loop (B5 b) ((acc:Int),(i:Int))=some (GU u,rest,0)
 |k,i,v,acc,pre,Iz,pF,Tz,U3,N5,N8,oL,Uc=>by
  have lB:∀x l,kY v=x::l→b[i]?=some x:=fun x l e=>by rw [Iz,e,←pF];simp
  have hlen:∀x l,kY v=x::l→i<b.length:=fun x l e=>by rw [Iz,e];simp;omega
  by_cases h:v<128
  ·have hp:=WG h;have hx:=lB _ _ hp;have s7:=hlen _ _ hp;refine nS (ε.eq ?_);unfold B5;refine ε.ite (fun _=>?_) (fun hh=>absurd hh (by simp;omega));refine ε.ai (cL hx) ?_;rw [aez h,ad3 h];refine ε.bind (R:=(·=false)) (ε.bind (R:=(·=false)) (ε.ite (fun h9=>ε.ret ?_) (fun _=>ε.ret rfl)) fun _ h=>ε.ret h) fun c hc=>?_
   ·have h9:i=9:=by simp at h9;omega
    subst h9;refine decide_eq_false ?_
    have:v*2 ^ (7*9)<18446744073709551616:=by omega
    omega
   subst hc;refine ε.ite (fun h=>absurd h (by decide)) fun _=>ε.Ω (by unfold Θ;omega) (ε.Ω (by omega) ?_);refine ε.ite (fun hh=>absurd hh (by simp;omega)) fun _=>?_;refine ε.bind (R:=(·=false)) (ε.bind (R:=(·=false)) (ε.ite (fun h0=>ε.ret ?_) (fun _=>ε.ret rfl)) fun _ h=>ε.ret h) fun c hc=>?_
   ·have h0:v=0:=by simpa using h0
    rcases N5 with hi|aP
    ·subst hi;rfl
    ·exact (aP h0).elim
   subst hc;dsimp only;rw [Wx Tz Uc (by omega),←U3];refine ε.ite (fun h=>absurd h (by decide)) fun _=>ε.Ω ?_ (ε.Ω (by unfold Θ;omega) (ε.Ω (by omega) ?_))
   ·rcases Z6 (u:Int) with e|e<;>rw [e]<;>decide
   ·rw [af2 hu]
    have hd:b.drop ((i:Int)+1).toNat=rest:=by
     have:((i:Int)+1).toNat=pre.length+1:=by omega
     rw [this,Iz,hp,←List.drop_drop];simp
    rw [hd];exact ε.ret rfl
  ·have hp:=WE h oL;have hx:=lB _ _ hp;have s7:=hlen _ _ hp;have kP:=high v
   have hi8:i≤8:=by
    rcases Nat.lt_or_ge i 9 with h'|h'
    ·omega
    ·have:i=9:=by omega
     subst this
     have:v*2 ^ (7*9)<18446744073709551616:=by omega
     omega
   cases k with
   |zero=>exact (h (by simpa using N8)).elim
   |succ k =>
    have T1:v=v % 128+128*(v/128):=by omega
    have UE:2 ^ (7*(i+1))=128*2 ^ (7*i):=by rw [Nat.mul_add,Nat.pow_add];omega
    have hs:v>>>7=v/128:=by rw [G8]
    have ac9:u=(acc+v % 128*2 ^ (7*i))+v/128*2 ^ (7*(i+1)):=by
     rw [U3,UE]
     have e:v*2 ^ (7*i)=v % 128*2 ^ (7*i)+v/128*(128*2 ^ (7*i)):=by
      rw [←Nat.mul_assoc,←Nat.add_mul,Nat.mul_comm (v/128) 128,←T1]
     omega
    have abE:acc+v % 128*2 ^ (7*i)<2 ^ (7*(i+1)):=by
     rw [UE]
     have:v % 128≤127:=by omega
     have:=Nat.mul_le_mul_right (2 ^ (7*i)) this;omega
    have ih:=Wb b rest u hu hb k (i+1) (v/128) (acc+v % 128*2 ^ (7*i)) (pre++[iX v ||| 128])
     (by rw [Iz,hp,hs];simp) (by simp [pF]) abE ac9 (.inr (by omega))
     (by rw [Lj] at N8;exact (qU (by decide)).2 N8) (by omega) (by omega)
    refine (tu (ε.eq ?_)).trans ih;unfold B5;refine ε.ite (fun _=>?_) (fun hh=>absurd hh (by simp;omega));refine ε.ai (cL hx) ?_;refine ε.bind (R:=(·=false)) (ε.bind (R:=(·=false)) (ε.ite (fun h9=>by simp at h9;omega) (fun _=>ε.ret rfl)) fun _ h=>ε.ret h) fun c hc=>?_;subst hc;refine ε.ite (fun h=>absurd h (by decide)) fun _=>ε.Ω (by dsimp only;unfold Θ;omega) (ε.Ω (by dsimp only;omega) ?_);refine ε.ite (fun _=>?_) (fun hh=>(hh (decide_eq_true (by omega))).elim);refine ε.Ω (by dsimp only;unfold Θ;omega) ?_;dsimp only;rw [ad2 v,Wx Tz Uc (by omega)];exact ε.ret rfl
def afi {n:Int} (hn:Θ n) (rest:List UInt8) (hl:rest.length≤90000):JH (kY (lH n)++rest)=some (n,rest,0):=by
 have hz:=sl hn;have hp:=rT hz;have:=Wb (kY (lH n)++rest) rest (lH n) hz (by simp;omega) 9 0 (lH n) 0 [] rfl rfl (by simp) (by simp) (.inl rfl) (Lg hz (by decide)) hz (by omega);rw [aku] at this;exact this
def B1 {n:Int} (hn:Θ n) (rest:List UInt8) (hl:rest.length≤90000):tH ⟨⟨kY (lH n)++rest⟩,0⟩=some (n,⟨⟨rest⟩,0⟩):=by
 refine ε.eq ?_;unfold tH;exact ε.ite (fun h=>absurd h (by simp)) fun _=>ε.ai (afi hn rest hl) (ε.ret rfl)
def afq (n:Nat) (rest:List UInt8) (hn:n≤rest.length) (hl:rest.length≤90000):Fs ⟨⟨kY (lH n)++rest⟩,0⟩=some ((n:Int),⟨⟨rest⟩,0⟩):=by
 refine ε.eq ?_;unfold Fs;exact ε.ai (B1 (by unfold Θ;omega) rest hl) (ε.ite (fun h=>absurd h (by simp)) fun _=>ε.ite (fun h=>absurd h (by simp)) fun _=>ε.ite (fun h=>absurd h (by simp;omega)) fun _=>ε.ret rfl)
def O5 (s rest:List UInt8) (hl:s.length+rest.length≤90000):zK ⟨⟨tX s++rest⟩,0⟩=some (s,⟨⟨rest⟩,0⟩):=by
 unfold tX;rw [lN];refine ε.eq ?_;unfold zK JK;refine ε.ai (afq s.length (s++rest) (by simp) (by simp;omega)) (ε.ite (fun h=>absurd h (by simp)) fun _=>ε.bind (R:=(·=(s,⟨⟨rest⟩,0⟩))) (ε.Ω (by simp;omega) (ε.Ω (by simp;omega) (ε.ret ?_))) fun _ h=>ε.ret h);simp
def CB (s:List UInt8) (h:s.length≤1000000):(tX s).length≤s.length+10:=by
 unfold tX;have:=rT (sl (n:=(s.length:Int)) (by unfold Θ;omega));simp;omega
def afx:Ft ⟨⟨[]⟩,0⟩=some (0,⟨⟨[]⟩,0⟩):=by
 unfold Ft;rfl
def aeu (n:Int) (l:List Int) (r:List UInt8):nU (n::l)++r=kY (lH n)++(nU l++r):=by unfold nU;simp
def aev (r:List UInt8):nU []++r=r:=rfl
def Jz (o:bF):List UInt8:=nU [o.ξ,o.aL]++(tX o.cm++(tX o.To++(nU [o.N,o.M,o.bq]++tX o.aC)))
def afP {o:bF} (ho:OB o):B4 o=some (Jz o):=by
 have h1:=ho.p;have h2:=ho.t;have h3:=ho.d;have l1:=OS (l:=[o.ξ,o.aL]) (by intro n hn;simp at hn;exact hn.elim (fun e=>e▸ho.k) fun e=>e▸ho.c);have l2:=OS (l:=[o.N,o.M,o.bq]) (by intro n hn;simp at hn;exact hn.elim (fun e=>e▸ho.n) fun e=>e.elim (fun e=>e▸ho.m) fun e=>e▸ho.h);have s1:=CB o.cm (by omega);have s2:=CB o.To (by omega);have s3:=CB o.aC (by omega);simp only [cZ,ig] at l1 l2;refine ε.eq ?_;unfold B4;refine ε.ai (Wv _ (by simp) (by intro n hn;simp at hn;exact hn.elim (fun e=>e▸ho.k) fun e=>e▸ho.c)) (ε.ai (O0 _ (by omega)) (ε.Ω (by omega) (ε.ai (O0 _ (by omega)) (ε.Ω (by simp only [dj];omega) ?_))));refine ε.ai (Wv _ (by simp) (by intro n hn;simp at hn;exact hn.elim (fun e=>e▸ho.n) fun e=>e.elim (fun e=>e▸ho.m) fun e=>e▸ho.h)) (ε.Ω (by simp only [dj];omega) (ε.ai (O0 _ (by omega)) (ε.Ω (by simp only [dj];omega) (ε.ret ?_))));unfold Jz;simp only [lN]
def afT {o:bF} (ho:OB o):Fq (Jz o)=some (o,0):=by
 have h1:=ho.p;have h2:=ho.t;have h3:=ho.d;have s1:=CB o.cm (by omega);have s2:=CB o.To (by omega);have s3:=CB o.aC (by omega);have k1:=rT (sl ho.k);have k2:=rT (sl ho.c);have k3:=rT (sl ho.n);have k4:=rT (sl ho.m);have k5:=rT (sl ho.h);refine ε.eq ?_;unfold Fq Jz;simp only [aeu,aev];refine ε.ai (B1 ho.k _ (by simp only [dj];omega)) (ε.ai (B1 ho.c _ (by simp only [dj];omega)) ?_);refine ε.ai (O5 _ _ (by simp only [dj];omega)) (ε.ai (O5 _ _ (by simp only [dj];omega)) ?_);refine ε.ai (B1 ho.n _ (by simp only [dj];omega)) (ε.ai (B1 ho.m _ (by simp only [dj];omega)) (ε.ai (B1 ho.h _ (by omega)) ?_));have:=O5 o.aC [] (by simp;omega);rw [xq] at this;refine ε.ai this (ε.Ω (by dsimp only;omega) (ε.ai afx ?_));exact ε.cR (by simp) (ε.ret rfl)
def ah5 (l:List (List UInt8)):List UInt8:=(l.map tX).flatten
def akJ (a:dL):List UInt8:=nU [a.xD,a.ι,a.ξ,a.N,a.M,(a.mj.length:Int)]++(ah5 a.mj++tX a.aC)
end
section
def BP {B:Int→Option (Int⊕Bool)} (L:Nat) (h1:∀n:Nat,n<L→B (n:Int)=some (.inl ((n:Int)+1))) {r:Bool} (h2:B (L:Int)=some (.inr r)):loop B 0=some r:=by
 refine ε.eq ?_;refine ε.loop (fun s:Int=>∃n:Nat,s=(n:Int)∧n≤L) (fun s=>L-s.toNat) ?_ _ ⟨0,rfl,by omega⟩;rintro s ⟨n,rfl,hn⟩;by_cases Φ:n<L
 ·exact ⟨_,h1 n Φ,⟨n+1,by omega,Φ⟩,by omega⟩
 ·have:n=L:=by omega
  subst this;exact ⟨_,h2,rfl⟩
def Hw {a b:Bool}:(if a=true then some true else some b)=some (a||b):=by cases a<;>rfl
def agj (a:dL) (h:a.mj.length≤1000000):Cc a a=some true:=by
 unfold Cc;simp only [bne_self_eq_false,Hw,cD,C8,beq_self_eq_true,Ax,QU,ni,if_false];unfold W3;refine BP a.mj.length (fun n hn=>?_) ?_
 ·unfold FE;have hx:=bU hn
  have hd:decide ((n:Int)<(a.mj.length:Int))=true:=by simpa using hn
  simp only [hd,if_true,cL hx,cD,beq_self_eq_true,Ax,ni,if_false];rw [im (by unfold Θ;omega)]
 ·unfold FE;simp [JY,Cat.out]
def agm (n:τ) (h:n.Ψ.length≤1000000):zS n n=some true:=by
 obtain ⟨b,h1,h2⟩:=WX n n h;rw [h1,h2.2 rfl]
def agq {B:Nat} {t:ψ} (h:TF B t) (hB:B≤100000):Ca t t=some true:=by
 obtain ⟨b,h1,h2⟩:=agp (b:=t) h hB;rw [h1,h2.2 rfl]
section
variable {k:Nat} {f:db}
def ago (h:FI k f) (hk:k≤60):FF f.S f.S=some true:=by
 have h1:=h.s.si;have h2:=h.s.f.n;have h3:f.S.aU.length≤200000:=by have:=h.s.ps;omega
 have h4:=h.s.ta;unfold FF;rw [agq h.s.f (by omega)];simp only [bne_self_eq_false,Hw,cD,C8,Ax,QU,ni,if_false];unfold W4;refine BP f.S.a_.length (fun n hn=>?_) ?_
 ·unfold FH;have hx:=bU hn
  have hd:decide ((n:Int)<(f.S.a_.length:Int))=true:=by simpa using hn
  simp only [hd,if_true,cL hx,cD,bne_self_eq_false,ni,if_false];rw [im (by unfold Θ;omega)]
 ·unfold FH JZ W5;rw [if_neg (by simp)]
  have:loop (Cd f.S f.S) 0=some true:=by
   refine BP f.S.aU.length (fun n hn=>?_) ?_
   ·unfold Cd;have hx:=bU hn
    have hd:decide ((n:Int)<(f.S.aU.length:Int))=true:=by simpa using hn
    have hp:=(h.k.p _ (eI hn)).l;generalize f.S.aU[n]=y at hx hp;have hy:=agm y.fj (by omega);refine ε.eq (ε.cond hd (ε.ai (cL hx) (ε.ai (cL hx) ?_)));refine ε.bind (R:=(·=false)) (ε.bind (R:=(·=false)) (ε.cR (by simp) (ε.ret (by simp))) fun c hc=>ε.bind (R:=(·=false)) (by subst hc;exact ε.cR (by simp) (ε.ai hy (ε.ret rfl))) fun c hc=>ε.ret hc) fun v hv=>?_;subst hv;exact ε.cR (by simp) (ε.Ω (by unfold Θ;omega) (ε.ret rfl))
   ·unfold Cd J0 W6;rw [if_neg (by simp)]
    have:loop (Ce f.S f.S) 0=some true:=by
     refine BP f.S.aW.length (fun n hn=>?_) ?_
     ·unfold Ce;have hx:=bU hn
      have hd:decide ((n:Int)<(f.S.aW.length:Int))=true:=by simpa using hn
      simp only [hd,if_true,cL hx,cD,beq_self_eq_true,QR,Ax,ni,if_false];rw [im (by unfold Θ;omega)]
     ·unfold Ce;simp [J5,Cat.out]
    rw [this];rfl
  rw [this];rfl
def agl (h:FI k f) (hk:k≤60):Cb f f=some true:=by
 have h1:=h.hl;have h2:=h.ql;unfold Cb;rw [ago h hk];simp only [bne_self_eq_false,Hw,cD,Ax,QU,ni,if_false];unfold W7;refine BP f.Holds.length (fun n hn=>?_) ?_
 ·unfold FJ;have hx:=bU hn
  have hd:decide ((n:Int)<(f.Holds.length:Int))=true:=by simpa using hn
  simp only [hd,if_true,cL hx,cD,beq_self_eq_true,QR,Ax,ni,if_false];rw [im (by unfold Θ;omega)]
 ·unfold FJ J6 W8;rw [if_neg (by simp)]
  have:loop (Cf f f) 0=some true:=by
   refine BP f.bb.length (fun n hn=>?_) ?_
   ·unfold Cf;have hx:=bU hn
    have hd:decide ((n:Int)<(f.bb.length:Int))=true:=by simpa using hn
    simp only [hd,if_true,cL hx,cD,beq_self_eq_true,QR,Ax,ni,if_false];rw [im (by unfold Θ;omega)]
   ·unfold Cf;simp [J7,Cat.out]
  rw [this];rfl
end
def rb:db:=⟨Cq,[],[]⟩
def OX:yl=some rb:=by
 unfold yl KN Kh;simp [Ω,rb,Cq,Qp]
def AK:FI 0 rb:=by
 refine ⟨RN,RL,⟨fun n hn=>?_,fun p hp=>(by cases hp),fun x hx=>(by cases hx)⟩,jr,by simp [rb],jr,by simp [rb]⟩;exact RL.nb RN.f (by omega) hn
def RI (o:bF):Prop:=Θ o.N∧Θ o.M∧Θ o.ξ∧Θ o.aL∧Θ o.bq
def afd (o:bF):E3 o=some (decide ((o.aC.length:Int)>5000)||decide ((o.cm.length:Int)>1000)||decide ((o.To.length:Int)>1000)):=by
 unfold E3;simp only [Hw,cD]
def aeS (l:List bF) (hi:∀o,o∈l→RI o):ε (E2 l) (fun r=>r=false→l.length≤50∧∀o,o∈l→OB o):=by
 unfold E2;refine ε.ite (fun _=>ε.ret fun h=>(by cases h)) fun Iv=>?_
 have Iv:l.length≤50:=by rw [decide_eq_true_eq] at Iv;omega
 unfold Vw;refine ε.loop (fun s:Int=>∃n:Nat,s=(n:Int)∧n≤l.length∧∀o,o∈l.take n→OB o) (fun s=>l.length-s.toNat) ?_ _ ⟨0,rfl,by omega,fun o ho=>by simp at ho⟩;rintro s ⟨n,rfl,hn,hP⟩;unfold Jh;by_cases Φ:n<l.length
 ·have hx:=bU Φ
  have gC:l.take (n+1)=l.take n++[l[n]]:=by rw [qT,hx];rfl
  refine ε.cond (by simpa using Φ) (ε.ai (cL hx) (ε.ai (afd _) (ε.ite (fun _=>ε.out (ε.ret fun h=>(by cases h))) fun hL=>ε.Ω (by unfold Θ;omega) (ε.inl ⟨⟨n+1,by omega,Φ,fun o ho=>?_⟩,by omega⟩))));rw [gC] at ho
  rcases gl.1 ho with ho|ho
  ·exact hP o ho
  ·obtain rfl:=dC.1 ho;obtain ⟨i1,i2,i3,i4,i5⟩:=hi _ (eI Φ);simp only [ug,decide_eq_true_eq,not_or] at hL;exact ⟨by omega,by omega,by omega,i1,i2,i3,i4,i5⟩
 ·have:n=l.length:=by omega
  subst this;rw [jK] at hP;exact ε.cR (by simp) (ε.out (ε.ret fun _=>⟨Iv,hP⟩))
end
section
def Su (l:List τ):∀(f:Nat) (i:Int),ou l [] f i=0
 |0,_=>rfl
 |f+1,i=>by
  unfold ou;rw [if_neg (by simp [qe])];split
  ·rfl
  ·exact Su l f _
def aeE {B:Nat} {t:ψ} (h:RT t) (hf:TF B t) (hB:B≤4000):Fg t []=true:=by
 refine (Ww h hf hB jr (by simp)).2.2 fun j x y hx hy _=>?_
 have z:∀{j x:Int},(j,x)∈AZ t []→x=0:=fun {j x} h=>by
  obtain ⟨d,_,hd⟩:=Ld.1 h;obtain ⟨e,_,he⟩:=c9.1 hd;rw [←(Prod.mk.inj he).2];exact Su _ _ _
 rw [z hx,z hy]
def Qm {B:Nat} {t:ψ} (h:RF B t) (hB:B≤4000) {α:Type} (x:α):jq t [] [] x=.inr (jo t [],[],x):=by
 have h2:=h.settle [];unfold jq rX;rw [show tp (jo t []) []=[] from rfl,aeE h2.r h2.f hB];rfl
def KD {t:ψ} {p:List UInt8} {ns:List (List UInt8)} {s:List UInt8} {i:Int} (hp:rO (ns++[s])=p) (hn:∀x,x∈ns++[s]→f_ x=true) (hl:(ns++[s]).length≤12) (hw:ua t 1 ns=(i,0)):tW t p=.inr (i,s):=by
 have e:=Qj hn hl;rw [hp] at e
 have e2:oN p=(s,rO ns,0):=by
  unfold oN;rw [e];simp
 have e3:=Qj (l:=ns) (fun x hx=>hn x (by simp [hx])) (by simp at hl;omega)
 have e4:qG t (rO ns)=(i,0):=by
  unfold qG;rw [e3];simp [hw]
 unfold tW;rw [e2];simp only;rw [e4];rfl
def YK {t:ψ} {p:List UInt8} {ns:List (List UInt8)} {r:Int×Int} (hp:rO ns=p) (hn:∀x,x∈ns→f_ x=true) (hl:ns.length≤12) (hw:ua t 1 ns=r):qG t p=r:=by
 have e:=Qj hn hl;rw [hp] at e;unfold qG;rw [e];simp [hw]
def qn:ψ:=⟨[⟨1,2,0,[],[⟨[97],2,1⟩],1⟩,⟨2,2,1,[],[],1⟩],3,2⟩
def pG:ψ:=⟨[⟨1,2,0,[],[⟨[97],2,1⟩],1⟩,⟨2,2,1,[],[⟨[98],3,2⟩],1⟩,⟨3,1,1,[],[],0⟩],4,3⟩
def lE:ψ:=⟨[⟨1,2,0,[],[⟨[99],2,3⟩],1⟩,⟨2,2,1,[],[⟨[98],3,2⟩],1⟩,⟨3,1,1,[],[],0⟩],4,4⟩
abbrev Uw:bF:=⟨2,0,[47,97],[],2,0,0,[]⟩
abbrev Ux:bF:=⟨2,0,[47,97,47,98],[],1,0,0,[]⟩
abbrev IU:bF:=⟨5,0,[47,97],[47,99],0,0,0,[]⟩
abbrev Ny:bF:=⟨6,0,[47,99],[],0,9,0,[]⟩
abbrev Uy:bF:=⟨1,0,[47,97,47,98],[],0,0,0,[]⟩
abbrev ho6:bF:=⟨1,0,[47,99],[],0,0,0,[]⟩
def AM {k n m:Int} {p q:List UInt8} (hk:Θ k) (hn:Θ n) (hm:Θ m) (hp:p.length≤1000) (hq:q.length≤1000):OB ⟨k,0,p,q,n,m,0,[]⟩:=⟨hp,hq,by simp,hn,hm,hk,cA,cA⟩
def afC:Gn=some true:=by
 have b1:OB Uw:=AM (by unfold Θ;omega) (by unfold Θ;omega) cA (by simp) (by simp);have b2:OB Ux:=AM (by unfold Θ;omega) (by unfold Θ;omega) cA (by simp) (by simp);have b3:OB IU:=AM (by unfold Θ;omega) cA cA (by simp) (by simp);have b4:OB Ny:=AM (by unfold Θ;omega) cA (by unfold Θ;omega) (by simp) (by simp);have b5:OB Uy:=AM (by unfold Θ;omega) cA cA (by simp) (by simp);have b6:OB ho6:=AM (by unfold Θ;omega) cA cA (by simp) (by simp)
 have d1:gK rb Uw=(⟨eY Cq qn,[],[]⟩,⟨0,2,2,0,0,[],[]⟩):=by
  rw [jb (by decide) (by decide),Al _ _ _ rfl];unfold u_;rw [KD (ns:=[]) (s:=[97]) (i:=1) (by kernel_rfl) (by decide) (by decide) (by kernel_rfl)]
  have ha:mw rb.S.Γ 1 [97] 2=(qn,2,0):=by kernel_rfl
  have h1:RF (2+5*0+5) (mw rb.S.Γ 1 [97] 2).1:=⟨AK.r.add _ _ _,AK.s.f.Ho (by omega) _ _ _⟩;simp only [bS];rw [ha] at h1 ⊢
  have hs:jq qn [] [] (2:Int)=.inr (qn,[],2):=by rw [Qm (t:=qn) h1 (by omega),show jo qn []=qn by kernel_rfl]
  show jz rb (bZ (fun z:ψ×List aA×Int=>((some z.1,[],z.2.1,⟨0,z.2.2,2,0,0,[],[]⟩):qX)) (jq qn [] [] 2))=_;rw [hs];rfl
 have f1:=(DG AK (by omega) b1).1;rw [d1] at f1;have n1:(⟨eY Cq qn,[],[]⟩:db).S.Γ=qn:=JT _ _;generalize Δ:(⟨eY Cq qn,[],[]⟩:db)=g1 at *
 have q1:g1.Holds=[]∧g1.bb=[]:=by rw [←Δ];exact ⟨rfl,rfl⟩
 have d2:gK g1 Ux=(⟨eY g1.S pG,[],[]⟩,⟨0,3,1,0,0,[],[]⟩):=by
  rw [jb (by decide) (by decide),Al _ _ _ rfl,n1,q1.1,q1.2];unfold u_;rw [KD (ns:=[[97]]) (s:=[98]) (i:=2) (by kernel_rfl) (by decide) (by decide) (by kernel_rfl)]
  have ha:mw qn 2 [98] 1=(pG,3,0):=by kernel_rfl
  have h1:RF (2+5*(0+1)+5) (mw g1.S.Γ 2 [98] 1).1:=⟨f1.r.add _ _ _,f1.s.f.Ho (by omega) _ _ _⟩;simp only [bS];rw [n1] at h1;rw [ha] at h1 ⊢
  have hs:jq pG [] [] (3:Int)=.inr (pG,[],3):=by rw [Qm (t:=pG) h1 (by omega),show jo pG []=pG by kernel_rfl]
  show jz g1 (bZ (fun z:ψ×List aA×Int=>((some z.1,[],z.2.1,⟨0,z.2.2,1,0,0,[],[]⟩):qX)) (jq pG [] [] 3))=_;rw [hs];rfl
 have f2:=(DG f1 (by omega) b2).1;rw [d2] at f2;have n2:(⟨eY g1.S pG,[],[]⟩:db).S.Γ=pG:=JT _ _;generalize aI:(⟨eY g1.S pG,[],[]⟩:db)=g2 at *
 have q2:g2.Holds=[]∧g2.bb=[]:=by rw [←aI];exact ⟨rfl,rfl⟩
 have d3:gK g2 IU=(⟨eY g2.S lE,[],[]⟩,⟨0,2,0,0,0,[],[]⟩):=by
  rw [jb (by decide) (by decide),CZ _ _ _ rfl,n2,q2.1,q2.2];unfold wS;rw [KD (ns:=[]) (s:=[97]) (i:=1) (p:=IU.cm) (by kernel_rfl) (by decide) (by decide) (by kernel_rfl),KD (ns:=[]) (s:=[99]) (i:=1) (p:=IU.To) (by kernel_rfl) (by decide) (by decide) (by kernel_rfl)]
  have ha:qw pG 1 [97] 1 [99]=(lE,0,0):=by kernel_rfl
  have hl:eT pG 1 [97]=(2,0):=by kernel_rfl
  have h1:RF (2+5*(0+1+1)+5) (qw g2.S.Γ 1 [97] 1 [99]).1:=⟨f2.r.mv _ _ _ _,f2.s.f.OL (by omega) _ _ _ _⟩;simp only [bS];rw [n2] at h1;rw [ha] at h1 ⊢;rw [hl]
  have hs:jq lE [] [] (2:Int)=.inr (lE,[],2):=by rw [Qm (t:=lE) h1 (by omega),show jo lE []=lE by kernel_rfl]
  show jz g2 (bZ (fun z:ψ×List aA×Int=>((some z.1,[],z.2.1,⟨0,z.2.2,0,0,0,[],[]⟩):qX)) (jq lE [] [] 2))=_;rw [hs];rfl
 have f3:=(DG f2 (by omega) b3).1;rw [d3] at f3;have n3:(⟨eY g2.S lE,[],[]⟩:db).S.Γ=lE:=JT _ _;generalize aS:(⟨eY g2.S lE,[],[]⟩:db)=g3 at *
 have d4:(gK g3 Ny).2=⟨0,0,0,0,0,[[98]],[]⟩:=by
  rw [jb (by decide) (by decide),C0 _ _ _ rfl,n3];unfold E5
  have hw:jl lE Ny.cm=.inr ⟨2,2,1,[],[⟨[98],3,2⟩],1⟩:=by
   unfold jl;rw [YK (ns:=[[99]]) (r:=(2,0)) (by kernel_rfl) (by decide) (by decide) (by kernel_rfl)];kernel_rfl
  rw [hw];have hr:=f3.r;have hf:=f3.s.f;rw [n3] at hr hf;have hL:=(JG hr hf (by omega) 2 0 9).2;unfold AL at hL;rw [if_neg (by decide),if_neg (by rw [show dz lE.η 2=(⟨2,2,1,[],[⟨[98],3,2⟩],1⟩,0) by kernel_rfl];decide)] at hL;obtain ⟨L,l1,l2,l3⟩:=hL;rw [show dz lE.η 2=(⟨2,2,1,[],[⟨[98],3,2⟩],1⟩,0) by kernel_rfl] at l1;have l4:L=[⟨[98],3,2⟩]:=List.perm_singleton.1 l1;subst l4;rw [if_pos (by decide)] at l3;simp only [bS];rw [l3];rfl
 have d5:(gK g3 Uy).2=qb 70:=by
  rw [jb (by decide) (by decide),CY _ _ _ rfl,n3];unfold jl;rw [YK (ns:=[[97],[98]]) (r:=(0,70)) (by kernel_rfl) (by decide) (by decide) (by kernel_rfl)];rfl
 refine ε.eq ?_;unfold Gn;refine ε.ai OX (ε.ai (zF AK (by omega) b1) ?_);rw [d1];refine ε.ai (zF f1 (by omega) b2) ?_;rw [d2];refine ε.ai (zF f2 (by omega) b3) ?_;rw [d3];refine ε.ai (zF f3 (by omega) b4) (ε.ai (zF f3 (by omega) b5) (ε.ai (afP b6) (ε.ai (afT b6) ?_)));rw [d4,d5];exact ⟨_,rfl,rfl⟩
end
section
abbrev LA:=List τ×Int×Int×Int×List Int×List br×List bd×Int×List ay×List aA
def flF (f:db):LA:=(f.S.Γ.η,f.S.Γ.Next,f.S.Γ.aj,f.S.bc,f.S.a_,f.S.aU,f.S.aW,f.S.Next,f.Holds,f.bb)
def SZ (f g:db):List τ×Int×Int×Int×List Int×List br×List bd×Int×List ay×List aA×LA:=(f.S.Γ.η,f.S.Γ.Next,f.S.Γ.aj,f.S.bc,f.S.a_,f.S.aU,f.S.aW,f.S.Next,f.Holds,f.bb,flF g)
def aeG {l:List bF} (h:Jy l):∀o,o∈l→RI o:=fun o ho=>by
 obtain ⟨h1,h2,h3,h4,h5,h6,h7,h8⟩:=h.2 o ho;exact ⟨h5,h6,h1,h2,h7⟩
end
section
def dQ (c:Int):Int:=if 0≤c∧c<16 then 15-c else c
def uZ (x:ay):ay:=⟨dQ x.aL,x.bq,x.ι⟩
def VP (c:Int):dQ (dQ c)=c:=by unfold dQ;repeat' split<;>omega
def OJ {c:Int}:(0≤dQ c∧dQ c<16)↔(0≤c∧c<16):=by unfold dQ;split<;>omega
def VO {c d:Int}:dQ c=dQ d↔c=d:=⟨fun h=>by rw [←VP c,h,VP],fun h=>by rw [h]⟩
structure MH (l m:List ay):Prop where
 p:m.Perm (l.map uZ)
 s:mr l
 r:mr m
def Ov (c h:Int) (x:ay):ez (dQ c) h (uZ x)=ez c h x:=by
 unfold ez uZ;rw [qL];simp only [bE,beq_iff_eq,VO]
def adL {l:List ay} (h:mr l) {c k:Int} {x y:ay} (hx:x∈l) (hy:y∈l) (kx:ez c k x=true) (ky:ez c k y=true):x=y:=by
 unfold ez at kx ky;simp only [bE,beq_iff_eq] at kx ky
 have hp:∀{l:List ay},mr l→∀{a b},a∈l→b∈l→a=b∨uq a b∨uq b a:=by
  intro l hl;induction l with
  |nil=>intro a b ha;cases ha
  |cons z l ih =>
   obtain ⟨h1,h2⟩:=eD.1 hl;intro a b ha hb
   rcases bf.1 ha with e1|Ty
   ·rcases bf.1 hb with e2|iA
    ·exact .inl (e1.trans e2.symm)
    ·rw [e1];exact .inr (.inl (h1 _ iA))
   ·rcases bf.1 hb with e2|iA
    ·rw [e2];exact .inr (.inr (h1 _ Ty))
    ·exact ih h2 Ty iA
 rcases hp h hx hy with e|e|e
 ·exact e
 iterate 2 (unfold uq at e;omega)
section
variable {l m:List ay}
def MH.held (h:MH l m) (i:Int):ru m i=ru l i:=by
 unfold ru;rw [h.p.any_eq,List.any_map];rfl
def MH.any (h:MH l m) (c k:Int):m.any (ez (dQ c) k)=l.any (ez c k):=by
 rw [h.p.any_eq,List.any_map];congr 1;funext x;exact Ov c k x
def MH.find (h:MH l m) (c k:Int):m.find? (ez (dQ c) k)=(l.find? (ez c k)).map uZ:=by
 cases hl:l.find? (ez c k) with
 |none =>
  rw [ZK,sw];intro x hx;obtain ⟨y,hy,rfl⟩:=c9.1 (h.p.mem_iff.1 hx);rw [Ov];exact sw.1 hl y hy
 |some y =>
  have hy:=nj hl;have ky:=List.find?_some hl;have hm:uZ y∈m:=h.p.mem_iff.2 (List.mem_map_of_mem hy)
  have km:ez (dQ c) k (uZ y)=true:=by rw [Ov];exact ky
  cases qj:m.find? (ez (dQ c) k) with
  |none=>exact absurd km (sw.1 qj _ hm)
  |some z=>rw [G9,adL h.r (nj qj) hm (List.find?_some qj) km]
def MH.len (h:MH l m):m.length=l.length:=by rw [h.p.length_eq,az]
def Ml {α:Type} {p:α→Bool}:∀{l:List α} {x:α},l.find? p=some x→l.Perm (x::l.eraseP p)
 |[],_,h=>by cases h
 |y::l,x,h=>by
  rw [List.find?_cons] at h;rw [List.eraseP_cons];cases hy:p y with
  |true=>rw [hy] at h;cases h;exact .refl _
  |false=>rw [hy] at h;exact ((Ml h).cons y).trans (.swap _ _ _)
def MH.erase (h:MH l m) (c k:Int):MH (l.eraseP (ez c k)) (m.eraseP (ez (dQ c) k)):=by
 refine ⟨?_,h.s.sublist Rj,h.r.sublist Rj⟩;have hf:=h.find c k;cases hl:l.find? (ez c k) with
 |none =>
  rw [hl,ZK] at hf;rw [Zs (sw.1 hl),Zs (sw.1 hf)];exact h.p
 |some x =>
  rw [hl,G9] at hf;have h1:=Ml hf;have h2:=(Ml hl).map uZ;exact (h1.symm.trans (h.p.trans h2)).cons_inv
def Vm {α:Type} {l:List α} {k:Nat} {x:α} (hk:k≤l.length):(dy l (k:Int) [x]).Perm (x::l):=by
 unfold dy
 have:((k:Int)).toNat=k:=by omega
 rw [this];have e:l=l.take k++l.drop k:=(vI k l).symm;refine List.Perm.trans ?_ (List.Perm.cons x (Zq e.symm));rw [lN];exact List.perm_middle
end
section
variable {t:ψ} {l m:List ay}
def MH.open (h:MH l m) (c k i:Int):MH (mW t l c k i).1 (mW t m (dQ c) k i).1∧(mW t m (dQ c) k i).2=(mW t l c k i).2:=by
 have hc:(decide (dQ c≥0)&&decide (dQ c<16))=(decide (c≥0)&&decide (c<16)):=by
  rw [qL];simp only [bE,decide_eq_true_eq];exact OJ
 unfold mW;rw [hc,h.any,h.len];split
 ·exact ⟨h,rfl⟩
 split
 ·exact ⟨h,rfl⟩
 split
 ·exact ⟨h,rfl⟩
 split
 ·exact ⟨h,rfl⟩
 rename_i bp;split
 ·exact ⟨h,rfl⟩
 ·refine ⟨⟨?_,Oj h.s (by simpa using bp) i,Oj h.r (by rw [h.any];simpa using bp) i⟩,rfl⟩;refine (Vm (xY _ _)).trans ((h.p.cons _).trans ?_);exact ((Vm (x:=(⟨c,k,i⟩:ay)) (xY (cH c k) l)).map uZ).symm
def MH.rel (h:MH l m) (i:Int):qB t m i=qB t l i:=by unfold qB;rw [h.held]
def MH.close (h:MH l m) (c k:Int):(fJ t m (dQ c) k).1=(fJ t l c k).1∧MH (fJ t l c k).2.1 (fJ t m (dQ c) k).2.1∧(fJ t m (dQ c) k).2.2=(fJ t l c k).2.2:=by
 have hf:=h.find c k;unfold fJ;cases hl:l.find? (ez c k) with
 |none=>rw [hl] at hf;rw [hf];exact ⟨rfl,h,rfl⟩
 |some x=>rw [hl] at hf;rw [hf];exact ⟨(h.erase c k).rel _,h.erase c k,rfl⟩
def MH.ino (h:MH l m) (c k:Int):qt m (dQ c) k=qt l c k:=by
 have hf:=h.find c k;unfold qt;cases hl:l.find? (ez c k) with
 |none=>rw [hl] at hf;rw [hf];rfl
 |some x=>rw [hl] at hf;rw [hf];rfl
def Iq (c:Int):∀(l:List ay) (a:ψ×List ay),l.foldl (kJ c) a=((l.filter fun x=>x.aL==c).map (·.bq)).foldl (fun a k=>((fJ a.1 a.2 c k).1,(fJ a.1 a.2 c k).2.1)) a
 |[],_=>rfl
 |x::l,a=>by
  rw [pZ,List.filter_cons];cases hx:(x.aL==c) with
  |true=>rw [if_pos rfl,List.map_cons,pZ,Iq c l];unfold kJ;rw [if_pos hx]
  |false=>rw [if_neg (by simp),Iq c l];unfold kJ;rw [if_neg (by rw [hx];simp)]
def Tj (c:Int):∀(ks:List Int) {a b:ψ×List ay},b.1=a.1→MH a.2 b.2 →
  (ks.foldl (fun a k=>((fJ a.1 a.2 (dQ c) k).1,(fJ a.1 a.2 (dQ c) k).2.1)) b).1=(ks.foldl (fun a k=>((fJ a.1 a.2 c k).1,(fJ a.1 a.2 c k).2.1)) a).1 ∧
  MH (ks.foldl (fun a k=>((fJ a.1 a.2 c k).1,(fJ a.1 a.2 c k).2.1)) a).2 (ks.foldl (fun a k=>((fJ a.1 a.2 (dQ c) k).1,(fJ a.1 a.2 (dQ c) k).2.1)) b).2
 |[],_,_,h1,h2=>⟨h1,h2⟩
 |k::ks,a,b,h1,h2=>by
  rw [pZ,pZ];obtain ⟨c1,c2,c3⟩:=h2.close (t:=a.1) c k;refine Tj c ks ?_ ?_
  ·dsimp only;rw [h1];exact c1
  ·dsimp only;rw [h1];exact c2
def MH.abJ (h:MH l m) (c:Int):(m.filter fun x=>x.aL==dQ c).map (·.bq)=(l.filter fun x=>x.aL==c).map (·.bq):=by
 have XI:∀{l:List ay} (c:Int),mr l→((l.filter fun x=>x.aL==c).map (·.bq)).Pairwise (· < ·):=by
  intro l c hl;rw [ZD];refine ((hl.filter _).imp_of_mem ?_);intro a b ha hb jh;have ha:=(ek.1 ha).2;have hb:=(ek.1 hb).2;rw [beq_iff_eq] at ha hb;unfold uq at jh;omega
 refine List.Perm.eq_of_pairwise (le:=(· < ·)) (fun a b _ _ h1 h2=>by omega) (XI _ h.r) (XI _ h.s) ?_;have hp:=(h.p.filter (fun x=>x.aL==dQ c)).map (·.bq);refine hp.trans (Zq ?_);rw [List.filter_map,List.map_map]
 have:((fun x:ay=>x.aL==dQ c) ∘ uZ)=fun x=>x.aL==c:=by
  funext x;show (dQ x.aL==dQ c)=_;rw [qL];simp only [beq_iff_eq,VO]
 rw [this];rfl
def MH.gone (h:MH l m) (c:Int):(pj t m (dQ c)).1=(pj t l c).1∧MH (pj t l c).2 (pj t m (dQ c)).2:=by
 unfold pj;rw [Iq,Iq,h.abJ];exact Tj c _ rfl h
def abw (h:MH l m) (i:Int):oB m t i=oB l t i:=by unfold oB;rw [h.held]
def MH.jo (h:MH l m):Go.Proofs.jo t m=Go.Proofs.jo t l:=by
 unfold Go.Proofs.jo
 have:oB m=oB l:=by funext t i;exact abw h i
 rw [this]
def MH.settle (h:MH l m) (q:List aA):rX t m q=rX t l q:=by unfold rX;rw [h.jo]
def MH.Cz (h:MH l m) {α:Type} (q:List aA) (x:α):jq t m q x=jq t l q x:=by unfold jq;rw [h.settle]
end
def ed (o:bF):bF:=⟨o.ξ,dQ o.aL,o.cm,o.To,o.N,o.M,o.bq,o.aC⟩
def VM (v w:Int⊕qX):Prop:=match v,w with
 |.inl e,.inl e'=>e'=e
 |.inr z,.inr z'=>z'.1=z.1∧MH z.2.1 z'.2.1∧z'.2.2=z.2.2
 |_,_=>False
section
variable {t:ψ} {l m:List ay} {Q:List aA} {o:bF}
def VM.mp {β:Type} {v:Int⊕β} {g g':β→qX} (h:∀b,v=.inr b→(g' b).1=(g b).1∧MH (g b).2.1 (g' b).2.1∧(g' b).2.2=(g b).2.2):VM (bZ g v) (bZ g' v):=by
 cases v with
 |inl e=>exact rfl
 |inr b=>exact h b rfl
def MH.nE (h:MH l m):Go.Proofs.nE t m (ed o)=Go.Proofs.nE t l o:=by
 unfold Go.Proofs.nE;show (Go.Proofs.mS (qt m (dQ o.aL) o.bq).2 (if decide (o.N≥0)=true then .inr (gD t.η (qt m (dQ o.aL) o.bq).1) else .inl 1))=_;rw [h.ino]
def MH.oC (h:MH l m) (i:Int) (d:List UInt8):Go.Proofs.oC t m Q i d=Go.Proofs.oC t l Q i d:=by
 unfold Go.Proofs.oC;rw [h.Cz]
def MH.Qv (h:MH l m):VM (de t l Q o) (de t m Q (ed o)):=by
 by_cases e:o.ξ=1
 ·rw [CY _ _ _ e,CY _ _ _ (o:=ed o) e];exact VM.mp fun b _=>⟨rfl,h,rfl⟩
 by_cases e:o.ξ=2
 ·rw [Al _ _ _ e,Al _ _ _ (o:=ed o) e]
  have:u_ t m Q (ed o)=u_ t l Q o:=by unfold u_;simp only [h.Cz];rfl
  rw [this];exact VM.mp fun b _=>⟨rfl,h,rfl⟩
 by_cases e:o.ξ=3
 ·rw [GF _ _ _ e,GF _ _ _ (o:=ed o) e]
  have:zy t m Q (ed o)=zy t l Q o:=by unfold zy;simp only [h.Cz];rfl
  rw [this];exact VM.mp fun b _=>⟨rfl,h,rfl⟩
 by_cases e:o.ξ=4
 ·rw [GG _ _ _ e,GG _ _ _ (o:=ed o) e]
  have:Ak t m Q (ed o)=Ak t l Q o:=by unfold Ak;simp only [h.Cz];rfl
  rw [this];exact VM.mp fun b _=>⟨rfl,h,rfl⟩
 by_cases e:o.ξ=5
 ·rw [CZ _ _ _ e,CZ _ _ _ (o:=ed o) e]
  have:wS t m Q (ed o)=wS t l Q o:=by unfold wS;simp only [h.Cz];rfl
  rw [this];exact VM.mp fun b _=>⟨rfl,h,rfl⟩
 by_cases e:o.ξ=6
 ·rw [C0 _ _ _ e,C0 _ _ _ (o:=ed o) e];exact VM.mp fun b _=>⟨rfl,h,rfl⟩
 by_cases e:o.ξ=7
 ·rw [GH _ _ _ e,GH _ _ _ (o:=ed o) e];exact VM.mp fun b _=>⟨rfl,h,rfl⟩
 by_cases e:o.ξ=8
 ·rw [GJ _ _ _ e,GJ _ _ _ (o:=ed o) e];unfold Fh;show VM (bZ _ (bS (jl t o.cm) _)) (bZ _ (bS (jl t o.cm) fun n=>mS (mW t m (dQ o.aL) o.bq n.ι).2 (.inr ((mW t m (dQ o.aL) o.bq n.ι).1,n.ι))));cases jl t o.cm with
  |inl e=>exact rfl
  |inr n =>
   obtain ⟨h1,h2⟩:=h.open (t:=t) o.aL o.bq n.ι;simp only [bS];unfold mS;rw [h2];split
   ·exact rfl
   ·exact ⟨rfl,h1,rfl⟩
 by_cases e:o.ξ=9
 ·rw [GK _ _ _ e,GK _ _ _ (o:=ed o) e];obtain ⟨h1,h2,h3⟩:=h.close (t:=t) o.aL o.bq;unfold Dy;show VM (bZ _ (mS (fJ t l o.aL o.bq).2.2 _)) (bZ _ (mS (fJ t m (dQ o.aL) o.bq).2.2 (.inr ((fJ t m (dQ o.aL) o.bq).1,(fJ t m (dQ o.aL) o.bq).2.1))));rw [h3];unfold mS;split
  ·exact rfl
  ·exact ⟨congrArg some h1,h2,rfl⟩
 by_cases e:o.ξ=10
 ·rw [Gx _ _ _ e,Gx _ _ _ (o:=ed o) e]
  have:zR t m (ed o)=zR t l o:=by unfold zR;rw [h.nE];rfl
  rw [this];exact VM.mp fun b _=>⟨rfl,h,rfl⟩
 by_cases e:o.ξ=11
 ·rw [Gy _ _ _ e,Gy _ _ _ (o:=ed o) e]
  have:Aq t m Q (ed o)=Aq t l Q o:=by unfold Aq;simp only [h.nE,h.oC];rfl
  rw [this];exact VM.mp fun b _=>⟨rfl,h,rfl⟩
 by_cases e:o.ξ=12
 ·rw [Gz _ _ _ e,Gz _ _ _ (o:=ed o) e]
  have:yf t m Q (ed o)=yf t l Q o:=by unfold yf;simp only [h.nE,h.oC];rfl
  rw [this];exact VM.mp fun b _=>⟨rfl,h,rfl⟩
 by_cases e:o.ξ=13
 ·rw [GC _ _ _ e,GC _ _ _ (o:=ed o) e]
  have:zx t m Q (ed o)=zx t l Q o:=by unfold zx;simp only [h.Cz];rfl
  rw [this];exact VM.mp fun b _=>⟨rfl,h,rfl⟩
 by_cases e:o.ξ=17
 ·rw [GD _ _ _ e,GD _ _ _ (o:=ed o) e];obtain ⟨h1,h2⟩:=h.gone (t:=t) o.aL;exact ⟨congrArg some h1,h2,rfl⟩
 ·rw [KS _ _ _ (by omega),KS _ _ _ (o:=ed o) (by show ¬o.ξ=1∧_;exact ⟨by omega,by show ¬o.ξ=2;omega,by show ¬o.ξ=3;omega,by show ¬o.ξ=4;omega,by show ¬o.ξ=5;omega,by show ¬o.ξ=6;omega,by show ¬o.ξ=7;omega,by show ¬o.ξ=8;omega,by show ¬o.ξ=9;omega,by show ¬o.ξ=10;omega,by show ¬o.ξ=11;omega,by show ¬o.ξ=12;omega,by show ¬o.ξ=13;omega,by show ¬o.ξ=17;omega⟩)];exact rfl
end
structure MF (f g:db):Prop where
 s:g.S=f.S
 h:MH f.Holds g.Holds
 q:g.bb=f.bb
def ad8 {f g:db} (h:MF f g) (o:bF):MF (gK f o).1 (gK g (ed o)).1∧(gK g (ed o)).2=(gK f o).2:=by
 by_cases hc:0≤o.aL∧o.aL<16
 ·have eK:0≤(ed o).aL∧(ed o).aL<16:=OJ.2 hc;by_cases e4:o.ξ=14
  ·rw [HM hc e4,HM eK (o:=ed o) e4]
   have:qD g (ed o)=qD f o:=by unfold qD;rw [h.s];rfl
   rw [this];cases qD f o with
   |inl e=>exact ⟨h,rfl⟩
   |inr z=>exact ⟨⟨rfl,h.h,h.q⟩,rfl⟩
  by_cases e5:o.ξ=15
  ·rw [HN hc e5,HN eK (o:=ed o) e5]
   have:qy g (ed o)=qy f o:=by unfold qy dW wg;rw [h.s];rfl
   rw [this];cases qy f o with
   |inl e=>exact ⟨h,rfl⟩
   |inr z=>exact ⟨h,rfl⟩
  by_cases e6:o.ξ=16
  ·rw [HO hc e6,HO eK (o:=ed o) e6]
   have:qa g (ed o)=qa f o:=by unfold qa;rw [h.s];rfl
   rw [this];cases qa f o with
   |inl e=>exact ⟨h,rfl⟩
   |inr z=>exact ⟨⟨rfl,h.h,h.q⟩,rfl⟩
  rw [jb hc ⟨e4,e5,e6⟩,jb eK (o:=ed o) ⟨e4,e5,e6⟩,h.s,h.q];have hv:=h.h.Qv (t:=f.S.Γ) (Q:=f.bb) (o:=o);revert hv;cases de f.S.Γ f.Holds f.bb o with
  |inl e =>
   cases de f.S.Γ g.Holds f.bb (ed o) with
   |inl e'=>intro hv;cases hv;exact ⟨h,rfl⟩
   |inr z'=>intro hv;exact hv.elim
  |inr z =>
   cases de f.S.Γ g.Holds f.bb (ed o) with
   |inl e'=>intro hv;exact hv.elim
   |inr z' =>
    intro hv;obtain ⟨h1,h2,h3⟩:=hv;obtain ⟨z1,z2,z3,z4⟩:=z;obtain ⟨w1,w2,w3,w4⟩:=z';dsimp only at h1 h2 h3;cases h1;cases h3;refine ⟨⟨?_,h2,rfl⟩,rfl⟩;show JS g.S z1=JS f.S z1;rw [h.s]
 ·have eK:¬(0≤(ed o).aL∧(ed o).aL<16):=fun h=>hc (OJ.1 h);rw [HP hc,HP eK];exact ⟨h,rfl⟩
def ad9 {f g:db} (h:MF f g):(⟨g.S,f.Holds,g.bb⟩:db)=f:=by rw [h.s,h.q]
def VQ {o:bF} (h:OB o):OB (ed o):=⟨h.p,h.t,h.d,h.n,h.m,h.k,by have:=h.c;unfold Θ at *;show _≤dQ _∧dQ _≤_;unfold dQ;split<;>omega,h.h⟩
end
section
def adO (l:List bF) (h1:Jy l):Gm l=some true:=by
 have hi:=aeG h1;refine ε.eq ?_;unfold Gm;refine ε.ai afC (ε.bind (aeS l hi) fun r hr=>ε.ite (fun _=>ε.ret rfl) fun h0=>?_);obtain ⟨Iv,hO⟩:=hr (ia.2 h0);refine ε.ai OX (ε.ai OX ?_);unfold X2;refine ε.loop (fun s:Int×List τ×Int×Int×Int×List Int×List br×List bd×Int×List ay×List aA×LA=>∃(n:Nat) (f g:db),n≤l.length∧FI n f∧FI n g∧MF f g∧s=((n:Int),SZ f g)) (fun s=>l.length-s.1.toNat) ?_ _ ⟨0,rb,rb,by omega,AK,AK,⟨rfl,⟨.nil,jr,jr⟩,rfl⟩,rfl⟩;rintro s ⟨n,f,g,hn,hF,hG,hM,rfl⟩;unfold KK;by_cases Φ:n<l.length
 ·have hx:=bU Φ;have ho:=hO _ (eI Φ);generalize l[n]=o at hx ho;obtain ⟨d1,d2⟩:=DG hF (by omega) ho;obtain ⟨q1,q2⟩:=DG hG (by omega) (VQ ho);obtain ⟨m1,m2⟩:=ad8 hM o;have hc:=ho.c;refine ε.cond (by simpa using Φ) (ε.ai (cL hx) ?_);refine ε.bind (R:=(·=dQ o.aL)) (ε.bind (R:=fun b=>b=true↔0≤o.aL∧o.aL<16) (ε.bind (R:=fun b=>b=true↔0≤o.aL∧o.aL<16) (ε.ite (fun e=>ε.ret (by simp at e ⊢;omega)) fun e=>ε.ret (by simp at e ⊢;omega)) fun c hc=>ε.ret hc) fun b hb=>ε.ite (fun e=>ε.Ω (by have:=hb.1 e;unfold Θ;omega) (ε.ret (by unfold dQ;rw [if_pos (hb.1 e)]))) fun e=>ε.ret (by unfold dQ;rw [if_neg fun h=>e (hb.2 h)])) fun v hv=>?_;subst hv;refine ε.ai (cL hx) (ε.ai (x:=pf f o) (zF hF (by omega) ho) (ε.ai (x:=pf g (ed o)) (zF hG (by omega) (VQ ho)) ?_));have hs:=agj (gK f o).2 (by have:=d2.nl;omega);refine ε.bind (R:=(·=false)) (ε.ai (x:=Cc (gK f o).2 (gK g (ed o)).2) (by rw [m2];exact hs) (ε.bind (R:=(·=false)) (ε.cR (by simp) (ε.ret ?_)) fun c hc=>ε.ret hc)) fun b hb=>?_
  ·show (((gK f o).1.Holds.length:Int) != ((gK g (ed o)).1.Holds.length:Int))=false;rw [m1.h.len];simp
  subst hb;exact ε.cR (by simp) (ε.Ω (by unfold Θ;dsimp only [SZ];omega) (ε.inl ⟨⟨n+1,(gK f o).1,(gK g (ed o)).1,Φ,d1,q1,m1,rfl⟩,by dsimp only;omega⟩))
 ·have:n=l.length:=by omega
  subst this;refine ε.cR (by simp) (ε.out ?_);unfold KL;have h2:=agl hF (by omega);have h3:=ad9 hM;refine ε.bind (R:=(·=true)) (ε.bind (R:=(·=true)) (ε.cond rfl (ε.ai (x:=Cb f ⟨g.S,f.Holds,g.bb⟩) (by rw [h3];exact h2) (ε.ret rfl))) fun c hc=>ε.ret hc) fun v hv=>ε.ret hv
end
end Go.Proofs
