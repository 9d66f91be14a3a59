/- The plain law, piece 1. No condition. -/
import Derived.Test.YtdcgbodbejgliaaGreatDoorXTopThereAndBackPl0
import Derived.Test.YtdcgbodbejgliaaGreatDoorXTopThereAndBackIn
import Derived.KernelRfl
open Option renaming some->V
open Bool renaming and_eq_true->bR,not_eq_true'->lC,false_eq_true->oq,eq_false_iff->oo,not_eq_true->rJ,eq_iff_iff->uC,false_or->Rn
open Decidable renaming byContradiction->zM
open Go.Op renaming bytesLess->eB
open Int renaming toNat_natCast->gv,le_refl->o8
open List renaming length_map->au,getElem?_eq_getElem->bD,length_cons->bV,mem_cons->bp,mem_cons_of_mem->cw,map_append->bO,mem_singleton->cV,length_append->cZ,getElem?_eq_some_iff->eZ,length_take->dq,length_nil->dF,mem_filter->dK,mem_map->cL,mem_of_getElem?->fz,pairwise_cons->e9,mem_append->ep,filter_cons->eL,getElem_mem->eA,take_length->gl,getElem?_take->fS,mem_of_find?_eq_some->lE,length_filter_le->j2,getElem?_drop->iN,map_cons->fT,drop_eq_nil_of_le->kN,filter_append->lD,mem_append_left->nC,filter_eq_self->ot,append_assoc->l7,pairwise_iff_getElem->xa,length_drop->nB,nil_append->uK,getElem?_map->o_,mem_iff_getElem?->w_,pairwise_singleton->uL,any_eq_false->qG,append_nil->qH,take_append_drop->qL,any_eq_true->rN,take_add_one->s7,sum_cons->pc,mem_append_right->uJ,getElem?_zip_eq_some->Gt,map_map->w9,find?_eq_none->w8,pairwise_map->zR,perm_ext_iff_of_nodup->Gv,pairwise_append->KR,mem_of_mem_take->KQ,length->RS,foldl_cons->RN,mem_flatMap->KP,find?_some->RM,dropLast_subset->Z1,drop_zero->als,dropLast_concat->Z0,flatMap_append->Z4,foldl_append->Z5,of_mem_zip->alv,count_set->alw
open List.Pairwise renaming nil->o9,filter->w7
open List.Perm renaming append_left->RG
open Nat renaming le_refl->bm,lt_or_ge->fa,zero_le->iE
open Option renaming bind_some->aS,isSome_iff_exists->kv
open Option.some renaming inj->iP
open Prod renaming ext->alu
open UInt8 renaming toNat_inj->aap
namespace Go.Proofs
set_option linter.all false
open Go Go.Cat
section
def VA{α:Type}{c:α->α->Option Int}{k:α->Int}(hc:rQ c λa b=>lL (k a) (k b)){x:α}:∀{l:List α},(∀y,y∈l->k y≠k x)->∃r,yD c x l=V r
 |[],_=>⟨_,rfl⟩
 |y::r,h=>by
  have hy:=h y (by simp);obtain⟨t,ht⟩:=VA hc (x:=x) λz hz=>h z (cw _ hz);simp only[yD,hc.1];by_cases h1:lL (k x) (k y)<0
  .have:¬lL (k y) (k x)<0:=λh2=>by have:=oD.1 h1;have:=oD.1 h2;omega
   rw[if_pos h1,if_neg this];exact⟨_,rfl⟩
  .have:lL (k y) (k x)<0:=oD.2 (by have:¬k x<k y:=λh2=>h1 (oD.2 h2);omega);rw[if_neg h1,if_pos this,ht];exact⟨_,rfl⟩
def Yq{α:Type}{c:α->α->Option Int}{k:α->Int}(hc:rQ c λa b=>lL (k a) (k b)):∀{l:List α},l.Pairwise (λa b=>k a≠k b)->∃r,ux c l=V r
 |[],_=>⟨_,rfl⟩
 |x::r,h=>by
  obtain⟨h1,h2⟩:=e9.1 h;obtain⟨t,ht⟩:=Yq hc h2;have hp:=(Kd hc ht).1;obtain⟨u,hu⟩:=VA hc (x:=x) (l:=t) λy hy=>Ne.symm (h1 y (hp.mem_iff.1 hy));exact⟨u,by simp only[ux];rw[ht];exact hu⟩
def qR(l:List τ)(i:Int):(∃n,gN l i=V n/\gD l i=n)\/(gN l i=none/\gD l i=n_):=by
 unfold gD;cases gN l i with
 |none=>exact .inr ⟨rfl,rfl⟩
 |some n=>exact .inl ⟨n,rfl,rfl⟩
def ε.V9{ρ:Type}{e:Int}{p:Int->Option ρ}{k:Unit->Option ρ}{Q:ρ->Prop}(h0:e=0->ε (k ()) Q)(h1:e≠0->ε (p e) Q):ε ((oH e).bind λx=>fH x p k) Q:=by
 unfold oH;by_cases he:e=0
 .rw[if_neg (by simp[he])];exact h0 he
 .rw[if_pos (by simpa using he)];exact h1 he
def ε.check{ρ:Type}{b:Bool}{e:Int}{p:Int->Option ρ}{k:Unit->Option ρ}{Q:ρ->Prop}(he:e≠0)(h0:b=true->ε (k ()) Q)(h1:b=false->ε (p e) Q):ε ((xI b e).bind λx=>fH x p k) Q:=by
 unfold xI oH;cases b with
 |true=>rw[if_neg (by simp)];exact h0 rfl
 |false=>rw[if_pos (by simp),if_pos (by simpa using he)];exact h1 rfl
def bS{α β:Type}(v:Int⊕α)(k:α->Int⊕β):Int⊕β:=match v with|.inl e=>.inl e|.inr a=>k a
def mS{β:Type}(e:Int)(v:Int⊕β):Int⊕β:=if(e != 0)=true then .inl e else v
def uo{α β:Type}(g:α->β)(v:Int⊕α):Int⊕β:=match v with|.inl e=>.inl e|.inr a=>.inr (g a)
def aeM{α β:Type}(g:α->β)(v:Int⊕α):v.map id g=uo g v:=by cases v<;>rfl
def ε.bS{α β γ δ:Type}{x:Option (Int⊕α)}{g:β->α}{v:Int⊕β}{k:α->Option (Int⊕γ)}{w:β->Int⊕δ}{g2:δ->γ}(hx:x=V (uo g v))(hk:∀b,v=.inr b->ε (k (g b)) (·=uo g2 (w b))):
  ε (x.bind λr=>fH r (λe=>V (.inl e)) k) (·=uo g2 (Go.Proofs.bS v w)):=by
 subst hx;cases v with
 |inl e=>exact ε.ret rfl
 |inr b=>exact hk b rfl
def ε.mS{γ δ:Type}{e:Int}{k:Unit->Option (Int⊕γ)}{v:Int⊕δ}{g2:δ->γ}(hk:e=0->ε (k ()) (·=uo g2 v)):
  ε ((oH e).bind λr=>fH r (λe=>V (.inl e)) k) (·=uo g2 (Go.Proofs.mS e v)):=by
 refine ε.V9 (λh=>?_) λh=>?_
 .unfold Go.Proofs.mS;rw[if_neg (by simp[h])];exact hk h
 .unfold Go.Proofs.mS;rw[if_pos (by simpa using h)];exact ε.ret rfl
def Lk{α β:Type}{v:Int⊕α}{k:α->Int⊕β}{r:β}(h:bS v k=.inr r):∃a,v=.inr a/\k a=.inr r:=by
 cases v with
 |inl e=>cases h
 |inr a=>exact⟨a,rfl,h⟩
def Ix{β:Type}{e:Int}{v:Int⊕β}{r:β}(h:mS e v=.inr r):e=0/\v=.inr r:=by
 unfold mS at h;split at h
 .cases h
 .rename_i he;exact⟨by simpa using he,h⟩
def pS(t:Γ)(p:List UInt8):Int⊕τ:=mS (nu t p).2 (.inr (gD t.η (nu t p).1))
def np(t:Γ)(p:List UInt8):Int⊕(Int×List UInt8):=mS (oT p).2.2 (mS (nu t (oT p).2.1).2 (.inr ((nu t (oT p).2.1).1,(oT p).1)))
def Wd(n:τ):Int×Int×Int×List UInt8×List aH×Int:=(n.κ,n.θ,n.a_,n.aK,n.ψ,n.Up)
def VR{p:List UInt8}:(oT p).2.1.length<=400/\ae (oT p).2.2:=by
 unfold oT;obtain⟨h1,h2,h3⟩:=zx (p:=p);split
 .refine⟨N6 (λs hs=>h1 s (Z1 _ hs)) (by simp;omega),by unfold ae;dsimp only;omega⟩
 .exact⟨by simp,by unfold ae;dsimp only;omega⟩
section
variable{B:Nat}{t:Γ}
def afu(hs:fc t.η)(hn:t.η.length<=1000000)(i:Int){a3:Int}{a4:List Int}{a5:List cq}{a6:List cG}{a7:Int}{a8:List bg}{a9:List aJ}{xp xq:Int}{a12 xr:List UInt8}{xu xv xw:Int}{a17:List UInt8}{xx xy a20 a21 a22:Int}:Dd i t.η t.Next t.ai a3 a4 a5 a6 a7 a8 a9 xp xq a12 xr xu xv xw a17 xx xy a20 a21 a22=V (Wd (gD t.η i)):=by
 unfold Dd;show((qB t i).bind _)=_;rw[Bo hs hn];rfl
def IU(h:ST B t)(hB:B<=90000)(p:List UInt8)(hp:p.length<=100000){a3:Int}{a4:List Int}{a5:List cq}{a6:List cG}{a7:Int}{a8:List bg}{a9:List aJ}{xp xq:Int}{a12 xr:List UInt8}{xu xv xw:Int}{a17:List UInt8}{xx xy a20 a21 a22:Int}:xL p t.η t.Next t.ai a3 a4 a5 a6 a7 a8 a9 xp xq a12 xr xu xv xw a17 xx xy a20 a21 a22=V (uo Wd (pS t p)):=by
 refine ε.eq ?_;unfold xL pS;refine ε.af (x:=wN t p) (Ww h hB p hp) (ε.mS λ_=>?_);exact ε.af (afu h.s (h.n (by omega)) _) (ε.ret rfl)
def WL(h:ST B t)(hB:B<=90000)(p:List UInt8)(hp:p.length<=100000){a3:Int}{a4:List Int}{a5:List cq}{a6:List cG}{a7:Int}{a8:List bg}{a9:List aJ}{xp xq:Int}{a12 xr:List UInt8}{xu xv xw:Int}{a17:List UInt8}{xx xy a20 a21 a22:Int}:xK p t.η t.Next t.ai a3 a4 a5 a6 a7 a8 a9 xp xq a12 xr xu xv xw a17 xx xy a20 a21 a22=V (uo id (np t p)):=by
 refine ε.eq ?_;unfold xK np;have:=(VR (p:=p)).1;refine ε.af (afb p hp) (ε.mS λ_=>ε.af (x:=wN t (oT p).2.1) (Ww h hB _ (by omega)) (ε.mS λ_=>ε.ret rfl))
end
def IV:Dh=V ():=by unfold Dh;kernel_rfl
section
variable{B:Nat}{t:Γ}
def GI(t:Γ)(i a b:Int)(r:List aH×Int×Int):Prop:=
 if(decide (a<0)||decide (b<1)||decide (b>64))=true then r=([],0,1)
 else if((dj t.η i).2 != 0)=true then r=([],0,(dj t.η i).2)
 else∃L:List aH,L.Perm ((dj t.η i).1.ψ.filter λe=>!decide (e.ai<a))/\L.Pairwise (λx y=>¬y.ai<x.ai) /\
  (if(L.length:Int)<=b then r=(L,0,0)else∃x,L[(b-1).toNat]?=V x/\r=(L.take b.toNat,x.ai+1,0))
def afc(h:ST B t)(hB:B<=90000){i:Int}(hk:(dj t.η i).1.ψ.Pairwise λa b=>a.ai≠b.ai)(hc:∀e,e∈(dj t.η i).1.ψ->0<=e.ai/\e.ai<=1000000000000000)(a b:Int):ε (wL t i a b) (GI t i a b):=by
 have hE:=Ai h.f i;unfold wL GI
 refine ε.bind (R:=(·=(decide (a<0)||decide (b<1)||decide (b>64)))) (ε.bind (R:=(·=(decide (a<0)||decide (b<1)))) (ε.ite (λe=>ε.ret (by rw[e];rfl)) λe=>ε.ret (by rw[oo.2 e];rfl)) λv hv=>ε.bind (R:=(·=(decide (a<0)||decide (b<1)||decide (b>64)))) (by
  subst hv
  exact ε.ite (λe=>ε.ret (by rw[e];rfl)) λe=>ε.ret (by rw[oo.2 e];rfl)) λv hv=>ε.ret hv) λv hv=>?_
 subst hv;by_cases h0:(decide (a<0)||decide (b<1)||decide (b>64))=true
 .simp only[if_pos h0];exact ε.ret rfl
 simp only[if_neg h0];simp only[Bool.or_eq_true,decide_eq_true_eq,not_or]at h0;refine ε.af (OC h (by omega) i) ?_;dsimp only;by_cases h1:((dj t.η i).2 != 0)=true
 .simp only[if_pos h1];exact ε.ret rfl
 simp only[if_neg h1];generalize (dj t.η i).1.ψ=E at *;have hd:=SX (C:=λx=>Km x a) (p:=λx=>decide (x.ai<a)) (l:=E) (z:=⟨[],0,0⟩) (λx _=>rfl) (by omega);refine ε.af (Af (l:=E) (K:=32) (by omega)) (ε.af (x:=J9 E a) hd ?_);have hFl:(E.filter λe=>!decide (e.ai<a)).length<=E.length:=j2 _ _;obtain⟨L,l1⟩:=Yq Of (k:=λe:aH=>e.ai) (l:=E.filter λe=>!decide (e.ai<a)) (hk.filter _);obtain⟨l2,l3⟩:=Kd Of l1;refine ε.af (ahd (by omega) l1) ?_;have HG:=l2.length_eq
 have VP:L.Pairwise (λx y=>¬y.ai<x.ai):=l3.imp λh hc=>by have:=oD.1 h;omega
 by_cases hle:(L.length:Int)<=b
 .refine ε.cond (by simpa using hle) (ε.ret ⟨L,l2,VP,?_⟩);rw[if_pos hle]
 .have hb:(b-1).toNat<L.length:=by omega
  have hx:=bD hb;have hm:L[(b-1).toNat]∈E:=(dK.1 (l2.mem_iff.1 (eA hb))).1;have eU:=hc _ hm
  have e1:b-1=(((b-1).toNat:Nat):Int):=by omega
  refine ε.aV (by simpa using hle) (ε.χ ⟨by omega,by omega,by omega⟩ (ε.χ (by unfold ae;omega) ?_));refine ε.af (by rw[e1];exact aW hx) (ε.χ (by unfold ae;omega) (ε.ret ⟨L,l2,VP,?_⟩));rw[if_neg hle];exact⟨_,hx,rfl⟩
noncomputable def Iu (t:Γ) (i a b:Int):List aH×Int×Int:=(wL t i a b).getD ([],0,0)
def RT.SF(h:RT t)(hf:TF B t)(hB:B<=90000)(i:Int):∀e,e∈(dj t.η i).1.ψ->0<=e.ai/\e.ai<=1000000000000000:=by
 intro e he
 have:(dj t.η i).1=gD t.η i\/(dj t.η i).1=n_:=by
  unfold dj;split
  .split
   .exact .inr rfl
   .exact .inl rfl
  .exact .inr rfl
 rcases this with h1|h1
 .rw[h1]at he
  rcases qR t.η i with⟨n,g1,g2⟩|⟨g1,g2⟩
  .rw[g2]at he;have:=(h.en n (bz g1).1).r e he;have:=hf.c;omega
  .rw[g2]at he;cases he
 .rw[h1]at he;cases he
def afr(h:RT t)(hf:TF B t)(hB:B<=90000)(i a b:Int):wL t i a b=V (Iu t i a b)/\GI t i a b (Iu t i a b):=by
 have hk:(dj t.η i).1.ψ.Pairwise λa b=>a.ai≠b.ai:=by
  unfold dj;split
  .split
   .exact o9
   .rcases qR t.η i with⟨n,g1,g2⟩|⟨g1,g2⟩
    .rw[g2];exact(h.en n (bz g1).1).k
    .rw[g2];exact o9
  .exact o9
 obtain⟨r,h1,h2⟩:=afc (h.st hf) hB hk (h.SF hf hB i) a b;unfold Iu;rw[h1];exact⟨rfl,h2⟩
def aft{l:List aH}(hl:l.length<=1000000):As l=V (l.map (·.aC)):=by
 have:Md l (0,[])=V (l.map (·.aC)):=by
  unfold Md;refine ε.eq ?_;refine ε.loop (λs:Int×List (List UInt8)=>∃n:Nat,s.1=n/\n<=l.length/\s.2=(l.take n).map (·.aC)) (λs=>l.length-s.1.toNat) ?_ _ ⟨0,rfl,by omega,rfl⟩;rintro⟨s0,o⟩ ⟨n,e1,hn,e2⟩;dsimp only at e1 e2;subst e1;subst e2;unfold Hn;dsimp only;by_cases Ξ:n<l.length
  .have hx:=bD Ξ
   have gB:l.take (n+1)=l.take n++[l[n]]:=by rw[s7,hx];rfl
   refine ε.cond (by simpa using Ξ) (ε.af (aW hx) (ε.χ (by simp only[au,dq,bV,dF];omega) (ε.χ (by unfold ae;omega) (ε.inl ⟨⟨n+1,by dsimp only;omega,Ξ,?_⟩,by dsimp only;omega⟩))));dsimp only;rw[gB,bO];rfl
  .have:n=l.length:=by omega
   subst this;exact ε.aV (by simp) (ε.out (ε.ret (by rw[gl])))
 unfold As;rw[this];rfl
def JY(n:τ):Int:=max (n.aK.length:Int) (n.ψ.length:Int)
end
end
section
section
variable{B:Nat}{f:cy}
def PO.walk{t:Γ}(h:RT t){q:List (List UInt8)}{n:τ}(hq:PO t q n):nu t (gb q)=(n.κ,0)/\(gb q).length<=400/\fR (gb q)=(q,0):=by
 have hl:=hq.len h;have e:=Ke hq.1 hl;refine⟨?_,N6 hq.1 hl,e⟩;unfold nu;rw[e,if_neg (by simp)];exact hq.2.1
def PO.pS{t:Γ}(h:RT t){q:List (List UInt8)}{n:τ}(hq:PO t q n):pS t (gb q)=.inr n:=by
 unfold Go.Proofs.pS;rw[(hq.walk h).1];unfold mS;rw[if_neg (by simp)];exact congrArg Sum.inr (eE hq.2.2)
def SZ(p:List UInt8):ir f ⟨1,0,p,[],0,0,0,[]⟩=qh 62 f ⟨1,0,p,[],0,0,0,[]⟩ ():=by
 unfold ir;rw[IV];rfl
def abg(p:List UInt8)(a b:Int):ir f ⟨6,0,p,[],a,b,0,[]⟩=qh 67 f ⟨6,0,p,[],a,b,0,[]⟩ ():=by
 unfold ir;rw[IV];rfl
def aaY(h:RT f.S.aw)(hf:TF B f.S.aw)(hB:B<=4000){q:List (List UInt8)}{n:τ}(hq:PO f.S.aw q n):ε (ir f ⟨1,0,gb q,[],0,0,0,[]⟩) λr=>r.2.mN=0/\r.2.κ=n.κ/\r.2.θ=n.θ:=by
 rw[SZ];unfold qh;refine ε.cond (by decide) ?_;have hw:=(hq.walk h).2.1;unfold Dc;refine ε.af (a:=.inr (n.κ,n.θ)) ?_ ?_
 .refine ε.eq (ε.af (IU (h.st hf) (by omega) (gb q) (by omega)) ?_);rw[hq.pS h];exact ε.ret rfl
 .exact⟨_,rfl,rfl,rfl,rfl⟩
def aaX(h:RT f.S.aw)(hf:TF B f.S.aw)(hB:B<=4000){q:List (List UInt8)}{n:τ}(hq:PO f.S.aw q n)(hk:n.θ=2){a b:Int}(ha:0<=a)(hb:1<=b/\b<=64):
  ε (ir f ⟨6,0,gb q,[],a,b,0,[]⟩) λr=>r.2.mN=0/\∃L:List aH,L.Perm (n.ψ.filter λe=>!decide (e.ai<a))/\L.Pairwise (λx y=>¬y.ai<x.ai) /\
   (if(L.length:Int)<=b then r.2.jy=L.map (·.aC)/\r.2.N=0 else∃x,L[(b-1).toNat]?=V x/\r.2.jy=(L.take b.toNat).map (·.aC)/\r.2.N=x.ai+1):=by
 rw[abg];unfold qh;refine ε.aV (by decide) (ε.aV (by decide) (ε.aV (by decide) (ε.cond (by decide) ?_)));have hw:=(hq.walk h).2.1
 have hd:dj f.S.aw.η n.κ=(n,0):=by
  unfold dj;rw[eE hq.2.2,hq.2.2];simp[hk]
 obtain⟨l1,l2⟩:=afr h hf (by omega) n.κ a b;unfold GI at l2;rw[if_neg (by simp;omega),hd,if_neg (by simp)]at l2;obtain⟨L,g1,g2,g3⟩:=l2;have HG:=g1.length_eq;have hFl:=j2 (λe:aH=>!decide (e.ai<a)) n.ψ;have hE:=(h.en n hq.mem).n;generalize Iu f.S.aw n.κ a b=r at *
 have hr:r.1.length<=64/\r.2.2=0:=by
  split at g3
  .rw[g3];exact⟨by dsimp only at *;omega,rfl⟩
  .obtain⟨x,-,g3⟩:=g3;rw[g3];exact⟨by have:=List.length_take_le b.toNat L;dsimp only at *;omega,rfl⟩
 refine ε.af (a:=.inr (r.2.1,r.1.map (·.aC))) ?_ ?_
 .unfold Hs;refine ε.eq (ε.af (IU (h.st hf) (by omega) (gb q) (by omega)) ?_);rw[hq.pS h];refine ε.af (x:=wL f.S.aw n.κ a b) l1 (ε.V9 (λ_=>?_) λhe=>absurd hr.2 he);exact ε.af (aft (by omega)) (ε.ret rfl)
 .refine⟨_,rfl,rfl,L,g1,g2,?_⟩;split at g3
  .next hle =>
   rw[if_pos hle,g3];exact⟨rfl,rfl⟩
  .next hle =>
   rw[if_neg hle];obtain⟨x,k1,k2⟩:=g3;exact⟨x,k1,by rw[k2],by rw[k2]⟩
end
end
section
def ahf{out:List (List UInt8)}{r:List UInt8}(h3:out.length<=12):jZ out (47::r)=if dX (tw r)=true/\out.length≠12 then jZ (out++[tw r]) (dw r)else none:=by
 unfold jZ;rw[wI];by_cases hn:dX (tw r)=true
 .rw[if_pos ⟨rfl,hn⟩];cases hs:jJ (dw r)with
  |none=>simp
  |some l =>
   simp only[Option.map_some,cZ,bV,l7,List.cons_append,uK];by_cases ho:out.length=12
   .rw[if_pos (by omega),if_neg (by simp[ho])]
   .rw[if_pos (show dX (tw r)=true/\out.length≠12 from⟨hn,ho⟩)]
 .rw[if_neg (λh=>hn h.2),if_neg (λh=>hn h.1)]
def ahg{out:List (List UInt8)}(h:out.length<=12):jZ out []=V out:=by
 unfold jZ;rw[BZ];dsimp only;rw[qH,if_neg (by omega)]
def ahh{p:List UInt8}(h0:p≠[47])(hp:p≠[]):fR p=match jZ [] p with|some l=>(l,0)|none=>([],60):=by
 unfold fR jZ;rw[if_neg h0];cases hs:jJ p with
 |none=>rfl
 |some l =>
  dsimp only;rw[uK]
  have hl:l.length≠0:=λh=>by
   cases p with
   |nil=>exact hp rfl
   |cons a r =>
    rw[wI]at hs;split at hs
    .cases hx:jJ (dw r)with
     |none=>rw[hx]at hs;cases hs
     |some k=>rw[hx]at hs;cases hs;simp at h
    .cases hs
  by_cases oJ:12<l.length
  .rw[if_pos (.inr oJ),if_pos oJ]
  .rw[if_neg (by omega),if_neg oJ]
def abn{p:List UInt8}{a b:Nat}(h:a<=b):p.drop a=sub p (a:Int) (b:Int)++p.drop b:=by
 unfold sub;rw[gv,gv]
 conv=>lhs;rw[<-qL b p]
 rw[List.drop_append]
 rcases fa b p.length with hb|hb
 .rw[dq,Nat.min_eq_left (by omega),show a-b=0 by omega,als]
 .have e:p.drop b=[]:=kN hb;rw[e];simp
def ahv{p:List UInt8}{a b:Nat}{x:UInt8}(h:x∈sub p (a:Int) (b:Int)):∃k,a<=k/\k<b/\p[k]?=V x:=by
 unfold sub at h;rw[gv,gv]at h;obtain⟨j,hj⟩:=w_.1 h;rw[iN,fS]at hj;split at hj
 .exact⟨a+j,by omega,by omega,hj⟩
 .cases hj
def I9(p:List UInt8)(hp:p.length<=100000):wv p=V (fR p):=by
 refine ε.eq ?_;unfold wv;by_cases h0:p=[47]
 .rw[if_pos (by simpa using h0),h0];exact ε.ret rfl
 rw[if_neg (by simpa using h0)];cases p with
 |nil=>exact⟨_,rfl,by unfold fR;rw[BZ];rfl⟩
 |cons a r =>
  by_cases ha:a=47
  .subst ha;rw[ahh h0 (by simp)];refine ε.af (a:=false) rfl (ε.aV (by simp) ?_);unfold Xd;generalize hP:(47::r:List UInt8)=P at *
   have rf:1<=P.length:=by rw[<-hP];simp
   refine ε.loop (λs:Int×Int×List (List UInt8)=>∃m i:Nat,s.1=(m:Int)/\s.2.1=(i:Int)/\m<=i/\i<=P.length+1/\s.2.2.length<=12/\(∀k x,m<=k->k<i->P[k]?=V x->x≠47)/\jZ [] P=(if i<=P.length then jZ s.2.2 (47::P.drop m)else V s.2.2)) (λs=>P.length+2-s.2.1.toNat) ?_ _ ⟨1,1,rfl,rfl,bm _,by omega,by simp,λk x h1 h2=>by omega,?_⟩
   .rintro ⟨s1,s2,out⟩ ⟨m,i,e1,e2,lj,hi,ho,bu,hs⟩;dsimp only at e1 e2 ho hs;subst e1;subst e2;unfold Ja;dsimp only;by_cases hle:i<=P.length
    .rw[if_pos hle]at hs;refine ε.cond (by simpa using hle) ?_;by_cases hc:i<P.length/\P[i]?≠V 47
     .have hx:=bD hc.1;refine ε.af (a:=true) ?_ ?_
      .refine ε.eq (ε.af (a:=true) ?_ (ε.ret rfl));refine ε.eq (ε.cond (by simpa using hc.1) (ε.af (aW hx) (ε.ret ?_)));have:P[i]≠47:=λe=>hc.2 (by rw[hx,e]);have aI:P[i].toNat≠47:=λe=>this (aap.1 e);rw[bne_iff_ne];omega
      .unfold Bw;refine ε.cond rfl (ε.χ (by unfold ae;dsimp only;omega) (ε.inl ⟨⟨m,i+1,rfl,by dsimp only;omega,by omega,by omega,ho,λk x h1 h2 hk=>?_,?_⟩,by dsimp only;omega⟩))
       .rcases fa k i with h|h
        .exact bu k x h1 h hk
        .have:k=i:=by omega
         subst this;intro e;exact hc.2 (by rw[hk,e])
       .rw[if_pos (by omega)];exact hs
     .refine ε.af (a:=false) ?_ (ε.aV (by simp) ?_)
      .refine ε.eq (ε.af (a:=false) ?_ (ε.ret rfl));by_cases Ξ:i<P.length
       .have se:P[i]?=V 47:=zM λh=>hc ⟨Ξ,h⟩;exact ε.eq (ε.cond (by simpa using Ξ) (ε.af (aW se) (ε.ret rfl)))
       .exact ε.eq (ε.aV (by simpa using Ξ) (ε.ret rfl))
      have ui:(∀x,x∈sub P (m:Int) (i:Int)->x≠47):=λx hx=>by
       obtain⟨k,k1,k2,k3⟩:=ahv hx;exact bu k x k1 k2 k3
      have qk:P.drop i=[]\/∃r',P.drop i=47::r':=by
       by_cases Ξ:i<P.length
       .have se:P[i]?=V 47:=zM λh=>hc ⟨Ξ,h⟩;exact .inr ⟨_,drop_cons se⟩
       .exact .inl (kN (by omega))
      obtain⟨t1,t2⟩:=Kp ui qk;rw[<-abn lj]at t1 t2;rw[ahf ho,t1,t2]at hs;refine ε.bind (R:=(·=decide (¬(dX (sub P (m:Int) (i:Int))=true/\out.length≠12)))) (ε.χ ⟨by omega,by omega,by omega⟩ (ε.af (I' _) (ε.bind (R:=(·=decide (¬(dX (sub P (m:Int) (i:Int))=true/\out.length≠12)))) ?_ λv hv=>ε.ret hv))) λv hv=>?_
      .cases dX (sub P (m:Int) (i:Int))with
       |false=>exact⟨_,rfl,by simp⟩
       |true =>
        refine ε.aV (by simp) (ε.ret ?_);by_cases oJ:out.length=12
        .simp[oJ]
        .simp[oJ];omega
      subst hv;by_cases hg:dX (sub P (m:Int) (i:Int))=true/\out.length≠12
      .rw[if_pos hg]at hs;refine ε.aV (by simpa using hg) (ε.χ ⟨by omega,by omega,by omega⟩ (ε.χ (by simp only[bV,dF];omega) (ε.χ (by unfold ae;omega) ?_)));unfold Bw;refine ε.χ (by unfold ae;dsimp only;omega) (ε.inl ⟨⟨i+1,i+1,by dsimp only;omega,by dsimp only;omega,bm _,by omega,by simp only[cZ,bV,dF];have:=hg.2;omega,λk x h1 h2=>by omega,?_⟩,by dsimp only;omega⟩);dsimp only;rw[hs];by_cases Ξ:i<P.length
       .have se:P[i]?=V 47:=zM λh=>hc ⟨Ξ,h⟩;rw[if_pos (by omega),drop_cons se]
       .rw[if_neg (by omega),kN (by omega)];exact ahg (by simp only[cZ,bV,dF];have:=hg.2;omega)
      .rw[if_neg hg]at hs;exact ε.cond (decide_eq_true hg) (ε.out (ε.ret (by rw[hs])))
    .rw[if_neg hle]at hs;exact ε.aV (by simpa using hle) (ε.out ⟨_,rfl,by dsimp only;rw[hs]⟩)
   .rw[if_pos rf,<-hP];rfl
  .refine ε.af (a:=true) ?_ (ε.cond rfl (ε.ret ?_))
   .have aI:a.toNat≠47:=λe=>ha (aap.1 e);refine ε.eq (ε.af (a:=true) (ε.eq (ε.aV (by simp) (ε.af (a:=a) rfl (ε.ret ?_)))) (ε.ret rfl));rw[bne_iff_ne];omega
   .unfold fR;rw[if_neg h0,wI,if_neg (λh=>ha h.1)]
def W3{l:List (List UInt8)}(h:∀s,s∈l->s.length<=32)(hl:l.length<=100000):Bu l=V (gb l):=by
 refine ε.eq ?_;unfold Bu gb;by_cases h0:l.length=0
 .rw[if_pos (show l.length=0 from h0)];exact ε.cond (by simp[h0]) (ε.ret rfl)
 .rw[if_neg (show ¬l.length=0 from h0)];refine ε.aV (by simpa using h0) (ε.af (a:=[47]++ke l [47]) (ε.eq ?_) (ε.ret rfl));unfold Xb
  have key:∀(l:List (List UInt8))(s:List UInt8),l≠[]->l.foldl (λs x=>s++[47]++x) s=s++([47]++ke l [47]):=by
   intro l;induction l with
   |nil=>intro s h;exact absurd rfl h
   |cons a l ih =>
    intro s _;cases l with
    |nil=>rw[Io];simp
    |cons b l =>
     rw[RN,ih _ (by simp),Im];simp
  refine ε.tE (l:=l) (λn s=>s=(l.take n).foldl (λs x=>s++[47]++x) []/\s.length<=33*n) (λn x s Ξ hx hs=>?_) (λs hs=>?_) _ ⟨rfl,by simp⟩
  .unfold EG;have Vq:=h x (fz hx);have h2:=hs.2;refine ε.cond (by simpa using Ξ) (ε.χ (by dsimp only;simp only[bV,dF];omega) (ε.af (aW hx) (ε.χ (by simp only[cZ,bV,dF];omega) (ε.χ (by unfold ae;dsimp only;omega) (ε.inl ⟨rfl,?_,?_⟩)))))
   .rw[h_ hx,Z5,<-hs.1];rfl
   .simp only[cZ,bV,dF];omega
  .unfold EG;refine ε.aV (by simp) (ε.out (ε.ret ?_));have aI:l≠[]:=λe=>h0 (by rw[e];rfl);rw[hs.1,gl,key l [] aI];rfl
def afW(p:List UInt8)(hp:p.length<=100000):EH p=V (oT p):=by
 refine ε.eq ?_;unfold EH oT;refine ε.af (I9 p hp) ?_;obtain⟨h1,h2,h3⟩:=zx (p:=p);generalize hx:fR p=x at *;obtain⟨l,e⟩:=x;dsimp only at h1 h2 h3 ⊢;cases l with
 |nil =>
  refine ε.bind (R:=(·=true)) (ε.bind (R:=(·=true)) (ε.ite (λ_=>ε.ret rfl) λ_=>ε.ret rfl) λv hv=>ε.ret hv) λv hv=>?_;rw[hv];exact ε.cond rfl (ε.ret rfl)
 |cons a r =>
  have he:e=0:=by
   rcases h3 with h|h
   .exact h
   .cases h.2
  subst he;refine ε.bind (R:=(·=false)) (ε.bind (R:=(·=false)) (ε.aV (by simp) (ε.ret (by rw[beq_eq_false_iff_ne];simp only[bV];omega))) λv hv=>ε.ret hv) λv hv=>?_;rw[hv]
  have M7:(a::r)[r.length]?=(a::r).getLast?:=by rw[List.getLast?_eq_getElem?];rfl
  have hs:(a::r).getLast?=V ((a::r).getLast (by simp)):=List.getLast?_eq_some_getLast (by simp)
  have hi:(((a::r).length:Int)-1)=((r.length:Nat):Int):=by simp only[bV];omega
  rw[hi,hs];refine ε.aV (by simp) (ε.χ (by unfold ae;simp only[bV]at h2;omega) (ε.af (aW (M7.trans hs)) (ε.χ (by unfold ae;simp only[bV]at h2;omega) (ε.χ (by simp only[bV];omega) ?_))))
  have ht:(a::r).take ((r.length:Nat):Int).toNat=(a::r).dropLast:=by rw[gv,List.dropLast_eq_take];rfl
  rw[ht];exact ε.af (W3 (λs hs=>(wc (h1 s (Z1 _ hs))).2.2) (by simp at h2 ⊢;omega)) (ε.ret rfl)
def O0{B:Nat}{t:Γ}(h:TF B t)(hB:B<=90000)(p:List UInt8)(hp:p.length<=100000):yX t p=V (nu t p):=by
 refine ε.eq ?_;unfold yX nu;refine ε.af (I9 p hp) (ε.mo (λ_=>ε.ret rfl) λ_=>?_);have hl:=(zx (p:=p)).2.1;generalize fR p=x at *;obtain⟨l,e⟩:=x;dsimp only at hl ⊢;unfold Xj
 have key:∀(r:List (List UInt8))(n:Nat)(i:Int),l.drop n=r->n<=l.length->loop (yY (l,e) t) (i,(n:Int))=V (iB t i r):=by
  intro r;induction r with
  |nil =>
   intro n i hd hn
   have:n=l.length:=by have:=congrArg RS hd;simp at this;omega
   subst this;refine kJ ?_;unfold yY;simp[Je,Cat.out,iB]
  |cons s r ih =>
   intro n i hd hn
   have Ξ:n<l.length:=by
    rcases fa n l.length with h|h
    .exact h
    .rw[kN h]at hd;cases hd
   rw[List.drop_eq_getElem_cons Ξ]at hd;injection hd with hx mg
   have hb:yY (l,e) t (i,(n:Int))=if((bJ t i s).2 != 0)=true then V (.inr (0,(bJ t i s).2))else V (.inl ((bJ t i s).1,((n+1:Nat):Int))):=by
    unfold yY
    have hd:decide ((n:Int)<(l.length:Int))=true:=by simpa using Ξ
    simp only[hd,if_true,aW (bD Ξ),hx,aS,I7 h (by omega:B<=100000)];split
    .rfl
    .rw[dW (by unfold ae;omega)];rfl
   unfold iB;by_cases hc:((bJ t i s).2 != 0)=true
   .rw[if_pos hc]at hb ⊢;exact kJ hb
   .rw[if_neg hc]at hb ⊢;rw[ry hb];exact ih (n+1) _ mg Ξ
 exact⟨_,key l 0 1 rfl (iE _),rfl⟩
end
section
section
variable{B:Nat}{f:cy}
def aaW{L:List aH}(h1:L.Pairwise λx y=>¬y.ai<x.ai)(h2:L.Pairwise λx y=>x.ai≠y.ai){k:Nat}{x:aH}(hx:L[k]?=V x):
  L.filter (λe=>!decide (e.ai<x.ai+1))=L.drop (k+1):=by
 obtain⟨hk,jU⟩:=eZ.1 hx
 conv=>lhs;rw[<-qL (k+1) L]
 have e1:(L.take (k+1)).filter (λe=>!decide (e.ai<x.ai+1))=[]:=by
  rw[List.filter_eq_nil_iff];intro y hy;obtain⟨j,hj⟩:=w_.1 hy;rw[fS]at hj;split at hj
  .obtain⟨mZ,rfl⟩:=eZ.1 hj
   rcases fa j k with h|h
   .have:=xa.1 h1 j k mZ hk h;rw[jU]at this;simp only[lC,decide_eq_false_iff_not];omega
   .have:j=k:=by omega
    subst this;rw[jU];simp only[lC,decide_eq_false_iff_not];omega
  .cases hj
 have e2:(L.drop (k+1)).filter (λe=>!decide (e.ai<x.ai+1))=L.drop (k+1):=by
  rw[ot];intro y hy;obtain⟨j,hj⟩:=w_.1 hy;rw[iN]at hj;obtain⟨mZ,rfl⟩:=eZ.1 hj;have g1:=xa.1 h1 k (k+1+j) hk mZ (by omega);have g2:=xa.1 h2 k (k+1+j) hk mZ (by omega);rw[jU]at g1 g2;simp only[lC,decide_eq_false_iff_not];omega
 rw[lD,e1,e2,uK]
def aa1(h:RT f.S.aw)(hf:TF B f.S.aw)(hB:B<=4000){q:List (List UInt8)}{n:τ}(hq:PO f.S.aw q n)(hk:n.θ=2){b:Int}(hb:1<=b/\b<=64):
  ε (F7 f (gb q) b) λr=>r.2=true/\r.1.Perm (n.ψ.map (·.aC)):=by
 unfold F7 YN;have hE:=h.en n hq.mem;refine ε.loop (λs:Int×Int×List (List UInt8)=>∃(i:Nat) (O:List aH),s.2.1=(i:Int)/\i<=O.length/\s.2.2=O.map (·.aC)/\0<=s.1/\(O++n.ψ.filter λe=>!decide (e.ai<s.1)).Perm n.ψ) (λs=>66-s.2.1.toNat) ?_ _ ⟨0,[],rfl,bm _,rfl,o8 _,?_⟩
 .rintro ⟨a,i0,out⟩ ⟨i,O,e1,hi,e2,ha,hp⟩;dsimp only at e1 e2 ha hp;subst e1;subst e2;have hlen:=hp.length_eq;rw[cZ]at hlen;have hn:=hE.n;unfold Kj;refine ε.cond (by simp;omega) (ε.bind (aaX h hf hB hq hk ha hb) ?_);rintro⟨g,r⟩ ⟨r1,L,l1,l2,l3⟩;dsimp only at r1 l3 ⊢;have HG:=l1.length_eq
  have hNl:(r.jy.length:Int)<=b/\r.jy.length<=64:=by
   split at l3
   .rw[l3.1,au];omega
   .obtain⟨x,k1,k2,k3⟩:=l3;rw[k2,au,dq];omega
  refine ε.af (a:=false) ?_ (ε.aV (by simp) ?_)
  .rw[r1];refine ε.eq (ε.af (a:=false) (ε.eq (ε.aV (by simp) (ε.ret ?_))) (ε.ret rfl));rw[decide_eq_false_iff_not];omega
  refine ε.χ (by rw[au];omega) ?_;split at l3
  .rw[l3.1,l3.2];refine ε.cond (by simp) (ε.out (ε.ret ⟨rfl,?_⟩));dsimp only;rw[<-bO];exact((RG O l1).trans hp).map _
  .next hle =>
   obtain⟨x,k1,k2,k3⟩:=l3;have hxL:=fz k1;have D6:=dK.1 (l1.mem_iff.1 hxL);have hc:=(hE.r x D6.1).2
   have hca:a<=x.ai:=by have:=D6.2;simp at this;exact this
   rw[k3];refine ε.aV (by simp;omega) (ε.χ (by unfold ae;omega) (ε.inl ⟨⟨i+1,O++L.take b.toNat,by dsimp only;omega,?_,?_,by dsimp only;omega,?_⟩,by dsimp only;omega⟩))
   .rw[cZ,dq];omega
   .dsimp only;rw[k2,bO]
   .dsimp only;have hd:L.Pairwise λx y=>x.ai≠y.ai:=(List.Perm.pairwise_iff (λh=>Ne.symm h) l1).2 (hE.k.filter _);have Uj:=aaW l2 hd k1;rw[show(b-1).toNat+1=b.toNat by omega]at Uj
    have e3:(n.ψ.filter λe=>!decide (e.ai<x.ai+1))=(n.ψ.filter λe=>!decide (e.ai<a)).filter λe=>!decide (e.ai<x.ai+1):=by
     rw[List.filter_filter];refine List.filter_congr λe he=>?_;by_cases h1:e.ai<x.ai+1
     .simp[h1]
     .have:¬e.ai<a:=by omega
      simp[h1,this]
    have e4:(n.ψ.filter λe=>!decide (e.ai<x.ai+1)).Perm (L.drop b.toNat):=by
     rw[e3,<-Uj];exact(l1.filter _).symm
    rw[l7];refine(RG O ((RG _ e4).trans ?_)).trans hp;rw[qL];exact l1
 .refine List.Perm.of_eq ?_;rw[uK,ot];intro e he;have:=(hE.r e he).2;simp;omega
def aa0{q:List (List UInt8)}{s:List UInt8}(hq:∀x,x∈q->dX x=true)(hl:q.length<=12)(hs:dX s=true):F6 (gb q) s=V (gb (q++[s])):=by
 have hj:=N6 hq hl;unfold F6;rw[I9 _ (by omega),Ke hq hl];refine ε.eq (ε.χ (by simp;omega) (ε.χ (by simp;omega) ?_));refine ε.af (W3 (l:=[]++q++[s]) (λx hx=>?_) (by simp;omega)) (ε.ret (by rw[uK]));rw[uK]at hx
 rcases ep.1 hx with hx|hx
 .exact(wc (hq x hx)).2.2
 .rw[cV.1 hx];exact(wc hs).2.2
def SR(h:RT f.S.aw)(hf:TF B f.S.aw)(hB:B<=4000)(hS:(f.S.aw.η.map nH).sum<=3900){b:Int}(hb:1<=b/\b<=64):
  ε (zy f b) λr=>r.2=true/\∃A,BF f.S.aw A.length A/\r.1=A.map gb:=by
 unfold zy YO;refine ε.loop (λs:Int×List (List UInt8)=>∃(i:Nat) (A:List (List (List UInt8))),s.1=(i:Int)/\s.2=A.map gb/\BF f.S.aw i A) (λs=>4001-s.1.toNat) ?_ _ ⟨0,[[]],rfl,rfl,BF0 h⟩;rintro⟨i0,all⟩ ⟨i,A,e1,e2,aN⟩;dsimp only at e1 e2;subst e1;subst e2;have qq:=aN.up h;have hle:=aN.le;unfold Kl;dsimp only;by_cases Ξ:i<A.length
 .refine ε.af (a:=true) (ε.eq (ε.af (a:=true) (ε.eq (ε.cond (by simpa using Ξ) (ε.ret (by simp;omega)))) (ε.ret rfl))) (ε.cond rfl ?_);have hx:=bD Ξ
  have Vp:(A.map gb)[i]?=V (gb A[i]):=by rw[o_,hx];rfl
  obtain⟨n,hn⟩:=aN.po A[i] (eA Ξ);refine ε.af (aW Vp) (ε.bind (aaY h hf hB hn) ?_);rintro⟨g,r⟩ ⟨r1,r2,r3⟩;dsimp only at r1 r2 r3 ⊢;rw[r1,r3];refine ε.aV (by simp) ?_;by_cases hk:n.θ=2
  .refine ε.aV (by simpa using hk) (ε.af (aW Vp) (ε.bind (aa1 h hf hB hn hk hb) ?_));rintro⟨L,ok⟩ ⟨rfl,hL⟩;dsimp only at hL;refine ε.aV (by simp) ?_
   have dM:∀s,s∈L->dX s=true:=λs hs=>by
    obtain⟨e,he,rfl⟩:=cL.1 (hL.mem_iff.1 hs);exact((h.en n hn.mem).r e he).1
   have HG:=hL.length_eq;rw[au]at HG;have hEn:=(h.en n hn.mem).n;unfold YP;refine ε.each (l:=L) (λk a=>a=(A++(L.take k).map λs=>A[i]++[s]).map gb) (λk x a t_ D7 ha=>?_) (λa ha=>?_) _ (by simp)
   .subst ha;unfold F8;dsimp only
    have adW:((A++(L.take k).map λs=>A[i]++[s]).map gb)[i]?=V (gb A[i]):=by
     rw[o_,List.getElem?_append_left Ξ,hx];rfl
    refine ε.cond (by simpa using t_) (ε.af (aW adW) (ε.af (aW D7) (ε.af (aa0 hn.1 (hn.len h) (dM x (fz D7))) (ε.χ ?_ (ε.χ (by unfold ae;omega) (ε.inl ⟨rfl,?_⟩))))))
    .simp only[au,cZ,dq,bV,dF];omega
    .dsimp only;rw[h_ D7,bO (l₁:=L.take k),<-l7,bO (l₁:=A++_)];rfl
   .subst ha;unfold F8 B_;rw[gl];refine ε.aV (by simp) (ε.out (ε.χ (by unfold ae;dsimp only;omega) ⟨_,rfl,⟨i+1,_,by dsimp only;omega,rfl,aN.step h hx (by rw[hn.oV];exact hL)⟩,by dsimp only;omega⟩))
  .refine ε.cond (by simpa using hk) ?_;unfold B_;have DL:n.ψ=[]:=(W.file h hn.mem hk).2.1;refine ε.χ (by unfold ae;dsimp only;omega) (ε.inl ⟨⟨i+1,A++([]:List (List UInt8)).map λs=>A[i]++[s],by dsimp only;omega,by simp,aN.step h hx (by rw[hn.oV,DL];exact .nil)⟩,by dsimp only;omega⟩)
 .have:i=A.length:=by omega
  subst this;refine ε.af (a:=false) (ε.eq (ε.af (a:=false) (ε.eq (ε.aV (by simp) (ε.ret rfl))) (ε.ret rfl))) (ε.aV (by simp) (ε.out ⟨_,rfl,rfl,A,aN,rfl⟩))
def YG{α:Type}{g:α->Int}{c:Int}:∀{l:List α},(∀x,x∈l->0<=g x/\g x<=c)->0<=(l.map g).sum/\(l.map g).sum<=c*(l.length:Int)
 |[],_=>by simp
 |x::l,h=>by
  have h1:=h x (by simp);have h2:=YG (l:=l) λy hy=>h y (cw _ hy)
  have:c*((x::l).length:Int)=c*(l.length:Int)+c:=by rw[bV,Int.natCast_add,Int.mul_add];simp
  simp only[fT,pc];omega
end
end
section
section
variable{B:Nat}{f:cy}
end
end
section
def Oe:∀(n:Nat)(l:List Int),l.Pairwise (·≠·)->(∀x,x∈l->0<=x/\x<n)->l.length<=n
 |0,l,_,h=>by
  cases l with
  |nil=>exact bm _
  |cons x r=>have:=h x (by simp);omega
 |n+1,l,hp,h=>by
  have h1:=Oe n (l.filter λx=>x != (n:Int)) (hp.filter _) λx hx=>by
   obtain⟨a,b⟩:=dK.1 hx;have:=h x a;simp at b;omega
  have h2:∀l:List Int,l.Pairwise (·≠·)->l.length<=(l.filter λx=>x != (n:Int)).length+1:=by
   intro l;induction l with
   |nil=>intro _;exact iE _
   |cons x r ih =>
    intro hp;obtain⟨a,b⟩:=e9.1 hp;rw[eL];by_cases e:x=(n:Int)
    .have:r.filter (λx=>x != (n:Int))=r:=by
      rw[ot];intro y hy;have:=a y hy;simp;omega
     rw[if_neg (by simp[e]),this];exact bm _
    .have:=ih b;rw[if_pos (by simpa using e)];simp only[bV];omega
  have:=h2 l hp;omega
def RT.data{t:Γ}(h:RT t){n:τ}(hn:n∈t.η):n.aK.length<=4096:=by
 rcases h.nd n hn with hf|⟨_,hd,_⟩
 .exact hf.2.2.2.1
 .rw[hd];simp
def TF.Hk{B:Nat}{t:Γ}(h:TF B t)(i:Int):TF B (mV t i).1:=by
 unfold mV;split
 .exact h
 split
 .exact h
 split
 .exact h
 .exact h.drop i
def TF.aax{B:Nat}{t:Γ}(h:TF B t)(hB:B<=90000)(i:Int)(s:List UInt8)(k:Int):TF (B+5) (uT t i s k).1:=by
 unfold uT;split
 .exact h.up (by omega)
 split
 .exact h.up (by omega)
 split
 .exact h.up (by omega)
 .exact((h.Sm k _).tH i s t.Next).up (by omega)
def TF.lnT{B:Nat}{t:Γ}(h:TF B t)(hB:B<=90000)(i to:Int)(s:List UInt8):TF (B+5) (vZ t i to s).1:=by
 unfold vZ;split
 .exact h.up (by omega)
 split
 .exact h.up (by omega)
 split
 .exact h.up (by omega)
 .exact((h.V0 i).tH to s i).up (by omega)
def TF.ahL{B:Nat}{t:Γ}(h:TF B t)(hB:B<=90000)(i:Int)(s:List UInt8):TF (B+5) (wP t i s).1:=by
 unfold wP;split
 .exact h.up (by omega)
 split
 .exact h.up (by omega)
 .exact((h.nZ i s).un _).up (by omega)
def TF.IC{B:Nat}{t:Γ}(h:TF B t)(hB:B<=90000)(fr:Int)(s:List UInt8)(to:Int)(aG:List UInt8):TF (B+5) (fO t fr s to aG).1:=by
 unfold fO
 repeat (split;exact h.up (by omega))
 exact((h.gG (C:=B+3) (h.fP _ _ _ _ _ _) (by omega) _ _).tH _ _ _).up (by omega)
def TF.WX{B:Nat}{t:Γ}(h:TF B t)(i:Int)(x:List UInt8):TF (B+5) (wj t i x).1:=by
 unfold wj;split
 .exact h.up (by omega)
 split
 .exact h.up (by omega)
 split
 .exact h.up (by omega)
 .have h1:=h.gE i;have h2:=h.gL i;have h3:=h.c;have h4:=h.x;exact(h.put (n:=⟨(gD t.η i).κ,(gD t.η i).θ,(gD t.η i).a_,x,(gD t.η i).ψ,(gD t.η i).Up⟩) (by dsimp only;omega) (by dsimp only;omega) (by omega) (by omega)).up (by omega)
def SI.EA{k:Nat}{s:cd}(h:SI k s)(hk:k<=200){t:Γ}(ht:fc t.η)(hf:TF (2+5*k+5) t):PF (2+5*k+5) s t:=
 ⟨h.f.up (by omega),hf,by omega,h.t.s,ht,h.si,by have:=h.tk;omega,by have:=h.ps;omega,by have:=h.ta;omega⟩
def SI.OW{k:Nat}{s:cd}(h:SI k s)(hk:k<=200){t:Γ}(Vi:TS t)(hf:TF (2+5*k+5) t):SI (k+1) (gH s t):=by
 unfold gH;split
 .exact h.up (by omega)
 have hpf:=h.EA hk Vi.s hf;have gB:=h.tk;refine⟨hf.up (by omega),Vi,by simp,by dsimp only;omega,by have:=h.nx;dsimp only;omega,λq hq=>?_,by have:=h.ta;dsimp only;omega,?_,λp hp=>?_,h.id,λx hx=>?_,λp hp=>?_⟩
 .obtain⟨n,hn,rfl⟩:=cL.1 hq;dsimp only;unfold oe;split
  .next j hj =>
   have:=(List.findIdx?_eq_some_iff_getElem.1 hj).1
   have Ξ:j<s.dh.length:=by rw[h.si];omega
   rw[bD Ξ];have:=h.sn _ (eA Ξ);simp only[Option.getD_some];omega
  .omega
 .show (s.cM++yM s _).length<=_;unfold yM;rw[cZ,au];have h1:=j2 (lW s t) (s.aw.η.zip s.dh);rw[hpf.zl]at h1;have:=h.ps;have:=h.f.n;omega
 .rcases ep.1 hp with hp|hp
  .have:=h.pe p hp;omega
  .obtain⟨q,hq,rfl⟩:=cL.1 hp;have:=h.f.e _ (alv (dK.1 hq).1).1;dsimp only;omega
 .have:=h.ti x hx;dsimp only;omega
 .rcases ep.1 hp with hp|hp
  .have:=h.pt p hp;exact⟨by dsimp only;omega,this.2⟩
  .obtain⟨q,hq,rfl⟩:=cL.1 hp;obtain⟨h1,h2⟩:=dK.1 hq;have:=h.sn _ (alv h1).2;unfold lW at h2;exact⟨by dsimp only;omega,by simpa using(Bool.and_eq_true_iff.1 h2).2⟩
def RT.ts{t:Γ}(h:RT t):TS t:=⟨h.s,λn hn=>by have:=h.lo n hn;omega,h.rt,λn hn e he=>W.we h hn he⟩
abbrev En{α:Type}(x:Option α):Prop:=ε x λ_=>True
def En.of{α:Type}{x:Option α}{Q:α->Prop}(h:ε x Q):En x:=h.mono λ_ _=>trivial
def En.bb{c:Prop}[Decidable c]{a b:Bool}:En (if c then V a else V b):=by split<;>exact⟨_,rfl,trivial⟩
def En.bt{c:Prop}[Decidable c]{a:Bool}{x:Option Bool}(h:En x):En (if c then V a else x):=by
 split
 .exact⟨_,rfl,trivial⟩
 .exact h
def En.tb{c:Prop}[Decidable c]{a:Bool}{x:Option Bool}(h:c->En x):En (if c then x else V a):=by
 split
 .exact h ‹_›
 .exact⟨_,rfl,trivial⟩
def En.b{α β:Type}{x:Option α}{f:α->Option β}{Q:β->Prop}(h:En x)(hf:∀a,ε (f a) Q):ε (x.bind f) Q:=ε.bind h λa _=>hf a
def En.r{α:Type}(a:α):En (V a):=⟨_,rfl,trivial⟩
section
variable{B:Nat}{t:Γ}
def abS(l:List aJ)(i:Int)(hl:l.length<=1000000):En (wF l i):=by
 unfold wF Ph;refine ε.pB (l:=l) (λ_=>True) (λn x Ξ hx _=>?_) (λ_=>?_) trivial<;>unfold E8
 .exact ε.cond (by simpa using Ξ) (ε.af (aW hx) (ε.ite (λ_=>ε.out (ε.ret trivial)) λ_=>ε.χ (by unfold ae;omega) (ε.inl ⟨rfl,trivial⟩)))
 .exact ε.aV (by simp) (ε.out (ε.ret trivial))
def Td(i:Int)(ht:t.η.length<=1000000):En (y_ t i):=by
 unfold y_;exact ε.af (iM t i ht) (En.b (En.b En.bb En.r) En.r)
def abV(i:Int)(ht:t.η.length<=1000000):ε (za t i) λr=>r<t.η.length:=by
 unfold za Pk;refine ε.pB (l:=t.η) (λ_=>True) (λn x Ξ hx _=>?_) (λ_=>?_) trivial<;>unfold zb
 .exact ε.cond (by simpa using Ξ) (ε.af (aW hx) (ε.ite (λ_=>ε.out (ε.ret (by omega))) λ_=>ε.χ (by unfold ae;omega) (ε.inl ⟨rfl,trivial⟩)))
 .exact ε.aV (by simp) (ε.out (ε.ret (by omega)))
def abW(h:TF B t)(hB:B<=90000)(i:Int):ε (wG t i) λr=>r.length=t.η.length:=by
 have ht:=h.n;unfold wG Pl;refine ε.χ ⟨by omega,by rw[gv];omega⟩ (ε.loop (λs:Int×List Bool=>∃n:Nat,s.1=(n:Int)/\n<=t.η.length/\s.2.length=t.η.length) (λs=>t.η.length-s.1.toNat) ?_ _ ⟨0,rfl,iE _,by simp⟩);rintro⟨a,o⟩ ⟨n,e,hn,ho⟩;dsimp only at e ho;subst e;unfold E9;by_cases Ξ:n<t.η.length
 .refine ε.cond (by simpa using Ξ) (ε.bind (R:=λv=>v.2.length=t.η.length) ?_ λv hv=>?_)
  .unfold Pm;refine ε.tG (l:=t.η) (λs:Bool×Int×List Bool=>s.2.1) (λ_ s=>s.2.2.length=t.η.length) (λm x s hm hx hc hs=>?_) (λs hc hs=>?_) _ rfl ho<;>(obtain⟨d,c,w⟩:=s;dsimp only at hc hs;subst hc;unfold E_)
   .have hw:=bD (show m<w.length by omega);refine ε.cond (by simpa using hm) (ε.bind (R:=λv=>v.2.length=t.η.length) ?_ λv hv=>ε.χ (by unfold ae;dsimp only;omega) (ε.inl ⟨rfl,hv⟩));refine En.b (ε.af (aW hw) (En.b (En.tb λ_=>ε.af (aW hx) (En.r _)) En.r)) λ_=>ε.ite (λ_=>ε.ret hs) λ_=>?_;unfold Pn;have hE:=h.e x (fz hx);refine ε.tG (l:=x.ψ) (λs:Bool×Int×List Bool=>s.2.1) (λ_ s=>s.2.2.length=t.η.length) (λk e s hk he hc hs=>?_) (λs hc hs=>?_) _ rfl hs<;>(obtain⟨d2,c2,w2⟩:=s;dsimp only at hc hs;subst hc;unfold BH;refine ε.af (aW hx) ?_)
    .refine ε.cond (by simpa using hk) (ε.bind (R:=λv=>v.2.length=t.η.length) ?_ λv hv=>ε.χ (by unfold ae;dsimp only;omega) (ε.inl ⟨rfl,hv⟩));refine ε.af (aW hx) (ε.af (aW he) (ε.bind (abV e.κ (by omega)) λp hp=>?_));have hi:p>=0->En (idx w2 p):=λh0=>ε.idx h0 (by omega) λ_ _=>trivial;by_cases H2:p>=0
     .refine En.b (En.b (ε.cond (by simpa using H2) (En.b (hi H2) λ_=>En.r _)) En.r) λv=>ε.ite (λ_=>En.b (hi H2) λ_=>ε.ret (by simpa using hs)) λ_=>ε.ret hs
     .exact ε.af (a:=false) (ε.eq (ε.af (a:=false) (ε.eq (ε.aV (by simpa using H2) (ε.ret rfl))) (ε.ret rfl))) (ε.aV (by simp) (ε.ret hs))
    .exact ε.aV (by simp) (ε.out (ε.ret hs))
   .exact ε.aV (by simp) (ε.out (ε.ret hs))
  .refine ε.ite (λ_=>ε.out (ε.ret hv)) λ_=>?_;unfold Fa;exact ε.χ (by unfold ae;dsimp only;omega) (ε.inl ⟨⟨n+1,by dsimp only;omega,Ξ,hv⟩,by dsimp only;omega⟩)
 .exact ε.aV (by simpa using Ξ) (ε.out (ε.ret ho))
def abR(h:TF B t)(hB:B<=90000)(hd:∀n,n∈t.η->n.aK.length<=5000)(i:Int):En (wE t i):=by
 have ht:=h.n;unfold wE;refine En.b (Td i (by omega)) λ_=>ε.ite (λ_=>En.r _) λ_=>ε.bind (abW h hB i) λu hu=>En.b ?_ λ_=>En.r _;unfold Pf;refine ε.tG (l:=u) (λs:Int×Int×Int=>s.2.2) (λn s=>0<=s.1/\s.1<=n/\0<=s.2.1/\s.2.1<=5000*(n:Int)) (λn x s Ξ hx hc hs=>?_) (λs hc hs=>?_) _ rfl (by simp)<;>(obtain⟨a,b,c⟩:=s;dsimp only at hc hs;subst hc;unfold E7)
 .have hy:=bD (show n<t.η.length by omega);have jO:=hd _ (eA (show n<t.η.length by omega));refine ε.cond (by simpa using Ξ) (ε.bind (R:=λv:Int×Int=>0<=v.1/\v.1<=n+1/\0<=v.2/\v.2<=5000*(n:Int)+5000) (ε.af (aW hx) (ε.ite (λ_=>ε.χ (by unfold ae;dsimp only;omega) (ε.af (aW hy) (ε.χ (by unfold ae;dsimp only;omega) (ε.ret (by dsimp only;omega))))) λ_=>ε.ret (by dsimp only;omega))) λv hv=>ε.χ (by unfold ae;dsimp only;omega) (ε.inl ⟨rfl,?_⟩));dsimp only;omega
 .exact ε.aV (by simp) (ε.out (ε.ret trivial))
def Tf(i:Int)(ht:t.η.length<=1000000):En (BG t i):=by
 unfold BG;exact ε.af (iM t i ht) (En.b (En.b En.bb λ_=>En.b En.bb En.r) En.r)
def LZ(l:List bg)(c k:Int)(hl:l.length<=1000000):ε (y9 l c k) λr=>r<l.length:=by
 unfold y9 Xv;refine ε.pB (l:=l) (λ_=>True) (λn x Ξ hx _=>?_) (λ_=>?_) trivial<;>unfold Ji
 .exact ε.cond (by simpa using Ξ) (En.b (ε.af (aW hx) (En.b (En.tb λ_=>ε.af (aW hx) (En.r _)) En.r)) λ_=>ε.ite (λ_=>ε.out (ε.ret (by omega))) λ_=>ε.χ (by unfold ae;omega) (ε.inl ⟨rfl,trivial⟩))
 .exact ε.aV (by simp) (ε.out (ε.ret (by omega)))
def abP(l:List bg)(c k i:Int)(hl:l.length<=100000)(ht:t.η.length<=1000000):ε (E4 t l c k i) λr=>r.1.length<=l.length+1:=by
 unfold E4;refine ε.af (iM t i ht) (En.b (En.b En.bb λ_=>En.b En.bb λ_=>En.b En.bb En.r) λ_=>ε.ite (λ_=>ε.ret (by simp)) λ_=>En.b (En.b (En.bt (En.b (Tf i ht) En.r)) En.r) λ_=>ε.ite (λ_=>ε.ret (by simp)) λ_=>ε.ite (λ_=>ε.ret (by simp)) λ_=>ε.bind (LZ l c k (by omega)) λ_ _=>ε.ite (λ_=>ε.ret (by simp)) λ_=>ε.ite (λ_=>ε.ret (by simp)) λ_=>ε.bind (R:=λv:Int=>∃n:Nat,v=n/\n<=l.length) ?_ λv hv=>?_)
 .unfold Xu;refine ε.pB (l:=l) (λ_=>True) (λn x Ξ hx _=>?_) (λ_=>?_) trivial<;>unfold Jh
  .exact En.b (En.b (En.tb λ_=>ε.af (aW hx) (En.b (En.bt (ε.af (aW hx) (En.b (En.tb λ_=>ε.af (aW hx) (En.r _)) En.r))) En.r)) En.r) λ_=>ε.ite (λ_=>ε.χ (by unfold ae;omega) (ε.inl ⟨rfl,trivial⟩)) λ_=>ε.out (ε.ret ⟨n,rfl,by omega⟩)
  .exact ε.af (a:=false) (ε.eq (ε.af (a:=false) (ε.eq (ε.aV (by simp) (ε.ret rfl))) (ε.ret rfl))) (ε.aV (by simp) (ε.out (ε.ret ⟨l.length,rfl,bm _⟩)))
 .obtain⟨n,rfl,hn⟩:=hv;rw[gv];refine ε.χ (by omega) (ε.χ ?_ (ε.χ ?_ (ε.χ (by omega) (ε.χ ?_ (ε.ret ?_)))))<;>simp only[cZ,dq,nB,bV,dF]<;>omega
def abL(l:List bg)(i:Int)(hl:l.length<=1000000):En (E2 l i):=by
 unfold E2 Xt;refine En.b (ε.tE (l:=l) (λn s=>0<=s/\s<=(n:Int)) (λn x s Ξ hx hs=>?_) (λs hs=>?_) _ (by simp)) En.r<;>unfold Jg
 .refine ε.cond (by simpa using Ξ) (ε.bind (R:=λv:Int=>0<=v/\v<=(n:Int)+1) (ε.af (aW hx) (ε.ite (λ_=>ε.χ (by unfold ae;dsimp only;omega) (ε.ret (by dsimp only;omega))) λ_=>ε.ret (by dsimp only;omega))) λv hv=>ε.χ (by unfold ae;dsimp only;omega) (ε.inl ⟨rfl,?_⟩));dsimp only;omega
 .exact ε.aV (by simp) (ε.out (ε.ret trivial))
def Tb(h:TF B t)(hB:B<=90000)(l:List bg)(c k:Int)(hl:l.length<=100000):ε (BE t l c k) λr=>(r.1=t\/∃j,r.1=(mV t j).1)/\r.2.1.length<=l.length:=by
 have ht:=h.n;unfold BE;refine ε.bind (LZ l c k (by omega)) λp hp=>ε.ite (λ_=>ε.ret ⟨.inl rfl,bm _⟩) λh0=>?_
 have h0:0<=p:=by simp at h0;omega
 have Ξ:p.toNat<l.length:=by omega
 have e:p=(p.toNat:Int):=by omega
 refine ε.af (by rw[e];exact aW (bD Ξ)) ?_
 have hlen:(([]:List bg)++l.take p.toNat++l.drop (p+1).toNat).length<=l.length:=by
  simp only[cZ,dq,nB,dF];omega
 refine ε.χ (by omega) (ε.χ ?_ (ε.χ (by unfold ae;omega) (ε.χ (by omega) (ε.χ ?_ (En.b (En.b (Tf _ (by omega)) λ_=>En.b (En.tb λ_=>En.b (abL _ _ (by omega)) λ_=>En.r _) En.r) λ_=>ε.ite (λ_=>ε.af (W2 h hB _) (ε.ret ⟨.inr ⟨_,rfl⟩,hlen⟩)) λ_=>ε.ret ⟨.inl rfl,hlen⟩)))))
 .simp only[dq,dF];omega
 .simp only[cZ,dq,nB,dF];omega
def abM(l:List bg)(c k:Int)(hl:l.length<=1000000):En (E3 l c k):=by
 unfold E3;refine ε.bind (LZ l c k hl) λp hp=>ε.ite (λ_=>En.r _) λh0=>En.b (ε.idx (by simp at h0;omega) (by omega) λ_ _=>trivial) λ_=>En.r _
def Wg{c:Int}(j:Int)(h:t.Next=c):(mV t j).1.Next=c:=by
 unfold mV;split
 .exact h
 split
 .exact h
 split;iterate 2 exact h
end
end
section
section
def Te(l:List τ)(n:τ)(hl:l.length<=1000000):ε (ze l n) λr=>r.length=l.length+1/\∀x,x∈r->x=n\/x∈l:=by
 unfold ze;refine ε.bind (R:=λv:Int=>∃m:Nat,v=m/\m<=l.length) ?_ λv hv=>?_
 .unfold XF;refine ε.pB (l:=l) (λ_=>True) (λm x Ξ hx _=>?_) (λ_=>?_) trivial<;>unfold Js
  .exact En.b (En.b (En.tb λ_=>ε.af (aW hx) (En.r _)) En.r) λ_=>ε.ite (λ_=>ε.χ (by unfold ae;omega) (ε.inl ⟨rfl,trivial⟩)) λ_=>ε.out (ε.ret ⟨m,rfl,by omega⟩)
  .exact ε.af (a:=false) (ε.eq (ε.af (a:=false) (ε.eq (ε.aV (by simp) (ε.ret rfl))) (ε.ret rfl))) (ε.aV (by simp) (ε.out (ε.ret ⟨l.length,rfl,bm _⟩)))
 .obtain⟨m,rfl,hm⟩:=hv;rw[gv];refine ε.χ (by omega) (ε.χ ?_ (ε.χ ?_ (ε.χ (by omega) (ε.χ ?_ (ε.ret ⟨?_,λx hx=>?_⟩)))));iterate 4 (simp only[cZ,dq,nB,bV,dF];omega)
  rw[uK]at hx
  rcases ep.1 hx with hx|hx
  .rcases ep.1 hx with hx|hx
   .exact .inr (KQ hx)
   .exact .inl (cV.1 hx)
  .exact .inr (List.mem_of_mem_drop hx)
def abQ{B:Nat}(s:cd)(a:Int)(hn:s.aw.η.length<=1000)(hp:s.cM.length<=500000)(he:∀n,n∈s.aw.η->n.ψ.length<=B)(hq:∀p,p∈s.cM->p.rS.ψ.length<=B):
  ε (Fj s a) λr=>r.length<=501000/\∀n,n∈r->n.ψ.length<=B:=by
 unfold Fj;refine ε.bind (R:=λv:List τ=>v.length<=s.aw.η.length/\∀n,n∈v->n.ψ.length<=B) ?_ λv hv=>ε.bind (R:=λv:List τ=>v.length<=501000/\∀n,n∈v->n.ψ.length<=B) ?_ λv hv=>ε.ret hv
 .unfold XD;refine ε.tE (l:=s.aw.η) (λk v=>v.length<=k/\∀n,n∈v->n.ψ.length<=B) (λk x v Ξ hx hv=>?_) (λv hv=>?_) _ ⟨bm _,λn h=>(by cases h)⟩<;>unfold Jq
  .refine ε.cond (by simpa using Ξ) (ε.bind (R:=λv:List τ=>v.length<=k+1/\∀n,n∈v->n.ψ.length<=B) (En.b (En.b (En.tb λhs=>En.b (ε.idx (by omega) (by simpa using hs) λ_ _=>trivial) λ_=>En.r _) En.r) λ_=>ε.ite (λ_=>?_) λ_=>ε.ret ⟨by have:=hv.1;first|omega|(dsimp only at *;omega),hv.2⟩) λv hv=>ε.χ (by unfold ae;dsimp only;omega) (ε.inl ⟨rfl,hv⟩));refine ε.af (aW hx) (ε.bind (Te v x (by have:=hv.1;omega)) λr hr=>ε.ret ⟨by have:=hv.1;omega,λn hn=>?_⟩)
   rcases hr.2 n hn with rfl|h
   .exact he _ (fz hx)
   .exact hv.2 n h
  .exact ε.aV (by simp) (ε.out (ε.ret hv))
 .unfold XE;refine ε.tE (l:=s.cM) (λk v=>v.length<=1000+k/\∀n,n∈v->n.ψ.length<=B) (λk x v Ξ hx hv=>?_) (λv hv=>?_) _ ⟨by have:=hv.1;first|omega|(dsimp only at *;omega),hv.2⟩<;>unfold Jr
  .refine ε.cond (by simpa using Ξ) (ε.bind (R:=λv:List τ=>v.length<=1000+(k+1)/\∀n,n∈v->n.ψ.length<=B) (En.b (ε.af (aW hx) (En.b (En.tb λ_=>ε.af (aW hx) (En.r _)) En.r)) λ_=>ε.ite (λ_=>?_) λ_=>ε.ret ⟨by have:=hv.1;first|omega|(dsimp only at *;omega),hv.2⟩) λv hv=>ε.χ (by unfold ae;dsimp only;omega) (ε.inl ⟨rfl,hv⟩));refine ε.af (aW hx) (ε.bind (Te v x.rS (by have:=hv.1;omega)) λr hr=>ε.ret ⟨by have:=hv.1;omega,λn hn=>?_⟩)
   rcases hr.2 n hn with rfl|h
   .exact hq _ (fz hx)
   .exact hv.2 n h
  .exact ε.aV (by simp) (ε.out (ε.ret ⟨by have:=hv.1;first|omega|(dsimp only at *;omega),hv.2⟩))
def abX{B:Nat}(l:List τ)(i:Int)(hl:l.length<=501000)(hB:B<=4000)(he:∀n,n∈l->n.ψ.length<=B):ε (Fl l i) λr=>r.1.length=l.length:=by
 unfold Fl XG;refine ε.χ ⟨by omega,by rw[gv];omega⟩ (ε.loop (λs:Int×List Bool×List Int=>∃n:Nat,s.1=(n:Int)/\n<=s.2.2.length/\s.2.1.length=l.length/\s.2.2.length+B*s.2.1.count false<=1+B*l.length) (λs=>(s.2.1.count false)*(B+1)+(s.2.2.length-s.1.toNat)) ?_ _ ⟨0,rfl,iE _,by simp,by simp⟩);rintro⟨a,w,all⟩ ⟨n,e,hn,hw,hc⟩;dsimp only at e hn hw hc;subst e;have hBl:B*l.length<=4000*501000:=Nat.mul_le_mul hB hl;unfold Jt;by_cases Ξ:n<all.length
 .have hx:=bD Ξ;refine ε.cond (by simpa using Ξ) (ε.af (aW hx) (ε.af (iM ⟨l,0,0⟩ all[n] (by dsimp only;omega)) ?_));dsimp only;cases hg:gN l all[n]with
  |none=>exact ε.cond rfl (ε.out (ε.ret hw))
  |some m =>
   rw[eE hg];refine ε.aV (by simp) ?_;obtain⟨j,hj⟩:=w_.1 (bz hg).1;have mZ:=(eZ.1 hj).1;refine ε.bind (R:=λv:Int=>∃p:Nat,v=p/\p<l.length) ?_ ?_
   .unfold XH;refine ε.loop (λs:Int=>∃p:Nat,s=p/\p<=j) (λs=>j-s.toNat) ?_ _ ⟨0,rfl,iE _⟩;rintro s ⟨p,rfl,hp⟩;unfold Ju;have rk:=bD (show p<l.length by omega);refine ε.af (aW rk) (ε.ite (λaI=>?_) λ_=>ε.out (ε.ret ⟨p,rfl,by omega⟩))
    have:p≠j:=λe=>by
     subst e;rw[rk]at hj;injection hj with hj;rw[hj]at aI;simp at aI
    exact ε.χ (by unfold ae;omega) (ε.inl ⟨⟨p+1,by omega,by omega⟩,by omega⟩)
   .rintro v ⟨p,rfl,hp⟩;have D4:=bD (show p<w.length by omega);refine ε.af (aW D4) ?_;by_cases hb:w[p]=true
    .refine ε.cond hb ?_;unfold BI;exact ε.χ (by unfold ae;dsimp only;omega) (ε.inl ⟨⟨n+1,by dsimp only;omega,Ξ,hw,hc⟩,by dsimp only;omega⟩)
    .have T7:w[p]=false:=by simpa using hb
     refine ε.aV hb (ε.af (aW D4) ?_)
     have fD:(w.set p true).count false+1=w.count false:=by
      rw[alw (by omega:p<w.length),T7];have:0<w.count false:=List.count_pos_iff.2 (T7▸eA _);simp;omega
     have hm:=he m (bz hg).1
     have hmul:B*w.count false=B*(w.set p true).count false+B:=by rw[<-fD,Nat.mul_add,Nat.mul_one]
     have akD:w.count false*(B+1)=(w.set p true).count false*(B+1)+(B+1):=by rw[<-fD,Nat.add_mul,Nat.one_mul]
     unfold XI;refine ε.each (l:=m.ψ) (λk s=>s.length=all.length+k) (λk x s hk D7 hs=>?_) (λs hs=>?_) _ rfl
     .unfold Fm;exact ε.cond (by simpa using hk) (ε.af (aW D7) (ε.χ (by simp only[bV,dF];omega) (ε.χ (by unfold ae;dsimp only;omega) (ε.inl ⟨rfl,by simp;omega⟩))))
     .unfold Fm BI;rw[gv];refine ε.aV (by simp) (ε.out (ε.χ (by unfold ae;dsimp only;omega) ⟨_,rfl,⟨n+1,by dsimp only;omega,by dsimp only;omega,by simpa using hw,by dsimp only;omega⟩,?_⟩));dsimp only;omega
 .exact ε.aV (by simpa using Ξ) (ε.out ⟨_,rfl,hw⟩)
def abK{k:Nat}{s:cd}(hs:SI k s)(hk:k<=100)(i:Int):ε (Fb s i) λr=>r.2.1.length<=501000/\∀n,n∈r.2.1->n.ψ.length<=2+5*k:=by
 have h1:=hs.f.n;have h2:=hs.ps;have h3:=hs.ta;unfold Fb Xy;refine ε.pB (l:=s.cm) (λ_=>True) (λn x Ξ hx _=>?_) (λ_=>?_) trivial<;>unfold Jl
 .refine ε.cond (by simpa using Ξ) (ε.af (aW hx) (ε.ite (λ_=>?_) λ_=>?_))
  .unfold Jo;exact ε.χ (by unfold ae;omega) (ε.inl ⟨rfl,trivial⟩)
  refine ε.af (aW hx) (ε.bind (abQ (B:=2+5*k) s x.At (by omega) (by omega) hs.f.e hs.pe) λl hl=>ε.af (aW hx) (ε.bind (abX l x.κ hl.1 (by omega) hl.2) λw hw=>ε.bind (R:=λv:List τ=>v.length<=501000/\∀n,n∈v->n.ψ.length<=2+5*k) ?_ λv hv=>ε.af (aW hx) (ε.out (ε.ret hv))));unfold Xz;refine ε.each (l:=l) (λk' v=>v.length<=k'/\∀n,n∈v->n.ψ.length<=2+5*k) (λm y v hm hy hv=>?_) (λv hv=>?_) _ ⟨bm _,λn h=>(by cases h)⟩<;>unfold Jm
  .have yy:=bD (show m<w.1.length by omega);have yi:=hl.1;have ν:=hv.1;refine ε.cond (by simpa using hm) (ε.bind (R:=λv:List τ=>v.length<=m+1/\∀n,n∈v->n.ψ.length<=2+5*k) (ε.af (aW yy) (ε.ite (λ_=>ε.af (aW hy) (ε.χ (by simp only[bV,dF];omega) (ε.ret ⟨by simp;omega,λn hn=>?_⟩))) λ_=>ε.ret ⟨by dsimp only;omega,hv.2⟩)) λv hv=>ε.χ (by unfold ae;dsimp only;omega) (ε.inl ⟨rfl,hv⟩))
   rcases ep.1 hn with hn|hn
   .exact hv.2 n hn
   .rw[cV.1 hn];exact hl.2 y (fz hy)
  .exact ε.aV (by simp) (ε.out (ε.ret ⟨by have:=hv.1;have:=hl.1;dsimp only at *;omega,hv.2⟩))
 .unfold Jn;exact ε.aV (by simp) (ε.out (ε.ret ⟨by simp,λn h=>(by cases h)⟩))
def abO{B:Nat}{t:Γ}(h:TF B t)(hB:B<=90000)(i a b:Int)(hc:∀e,e∈(dj t.η i).1.ψ->0<=e.ai/\e.ai<=1000000000000000):ε (EJ t i a b) λr=>r.1.length<=64:=by
 have ht:=h.n;have hE:=Ai h i;unfold EJ;refine ε.bind (R:=λv:Bool=>v=false->1<=b/\b<=64) ?_ λv hv=>ε.ite (λ_=>ε.ret (by simp)) λhf=>ε.af (I_ t i (by omega)) (ε.ite (λ_=>ε.ret (by simp)) λ_=>?_)
 .refine ε.bind (R:=λv:Bool=>v=false->1<=b) (ε.ite (λ_=>ε.ret λh=>(by cases h)) λ_=>ε.ret λh=>by simpa using h) λv hv=>ε.bind (R:=λv:Bool=>v=false->1<=b/\b<=64) (ε.ite (λ_=>ε.ret λh=>(by cases h)) λhn=>ε.ret λh=>⟨hv (by simpa using hn),by simpa using h⟩) λv hv=>ε.ret hv
 have hb:=hv (by simpa using hf);generalize dj t.η i=dd at *;obtain⟨d,d2⟩:=dd;dsimp only at hc hE;unfold Xf;refine ε.loop (λs:Int×List aH=>(s.2.length:Int)<=b/\∀e,e∈s.2->e∈d.ψ) (λs=>64-s.2.length) ?_ _ ⟨by simp;omega,λe h=>(by cases h)⟩;rintro⟨fr,o⟩ ⟨ho,Nf⟩;dsimp only at ho Nf;unfold Jb;refine ε.bind (R:=λv:Int=>-1<=v/\v<d.ψ.length) ?_ λv hv=>ε.ite (λ_=>ε.out (ε.ret (by dsimp only;omega))) λh0=>?_
 .unfold Xg;refine ε.tE (l:=d.ψ) (λ(n:Nat)(s:Int)=>-1<=s/\s<(n:Int)) (λn x s Ξ hx hs=>?_) (λs hs=>?_) _ (by simp)<;>unfold Jc
  .refine ε.cond (by simpa using Ξ) (ε.bind (R:=λv:Int=>-1<=v/\v<(n:Int)+1) (En.b (ε.af (aW hx) (En.b (En.tb λ_=>En.b ?_ En.r) En.r)) λ_=>ε.ite (λ_=>ε.ret (by dsimp only;omega)) λ_=>ε.ret (by dsimp only;omega)) λv hv=>ε.χ (by unfold ae;dsimp only;omega) (ε.inl ⟨rfl,by dsimp only;omega⟩));refine ε.ite (λ_=>En.r _) λh0=>ε.af (aW hx) (En.b (ε.idx (by simp at h0;exact h0) (by have:=hs.2;dsimp only at *;omega) λ_ _=>trivial) λ_=>En.r _)
  .exact ε.aV (by simp) (ε.out (ε.ret hs))
 .have h0:0<=v:=by simpa using h0
  have na:v.toNat<d.ψ.length:=by omega
  have e:v=(v.toNat:Int):=by omega
  have hx:=bD na;refine ε.ite (λhm=>?_) λhm=>?_
  .have hm:(o.length:Int)=b:=by simpa using hm
   have cR:(b-1).toNat<o.length:=by omega
   have e2:b-1=((b-1).toNat:Int):=by omega
   have:=hc _ (Nf _ (eA cR));refine ε.χ (by unfold ae;omega) (ε.af (by rw[e2];exact aW (bD cR)) (ε.χ (by unfold ae;omega) (ε.out (ε.ret (by dsimp only;omega)))))
  .have hm:(o.length:Int)≠b:=by simpa using hm
   have:=hc _ (eA na);refine ε.af (by rw[e];exact aW hx) (ε.χ (by simp only[bV,dF];omega) (ε.af (by rw[e];exact aW hx) (ε.χ (by unfold ae;omega) (ε.inl ⟨⟨by simp;omega,λx hx=>?_⟩,by simp;omega⟩))))
   rcases ep.1 hx with hx|hx
   .exact Nf x hx
   .rw[cV.1 hx];exact eA na
end
end
section
structure OB(o:dO):Prop where
 p:o.ib.length<=1000
 t:o.To.length<=1000
 d:o.aK.length<=5000
 n:ae o.N
structure LI(k:Nat)(f:cy):Prop where
 s:SI k f.S
 r:RT f.S.aw
 x:f.S.aw.Next<=k+2
 h:f.Holds.length<=k
 q:f.et.length<=k
def LI.up{k:Nat}{f:cy}(h:LI k f):LI (k+1) f:=⟨h.s.up (by omega),h.r,by have:=h.x;omega,by have:=h.h;omega,by have:=h.q;omega⟩
def wo(s:cd)(t:Γ):(gH s t).aw=t:=by
 unfold gH;split
 .assumption
 .rfl
section
variable{B:Nat}{t:Γ}{k:Nat}{f:cy}{o:dO}
def abT(l:List bg)(i:Int)(hl:l.length<=1000000):En (Fx l i):=by
 unfold Fx XS;refine ε.pB (l:=l) (λ_=>True) (λn x Ξ hx _=>?_) (λ_=>?_) trivial<;>unfold JE
 .exact ε.cond (by simpa using Ξ) (ε.af (aW hx) (ε.ite (λ_=>ε.out (En.r _)) λ_=>ε.χ (by unfold ae;omega) (ε.inl ⟨rfl,trivial⟩)))
 .exact ε.aV (by simp) (ε.out (En.r _))
def Ot(i:Int):(mV t i).1.Next=t.Next:=Wg i rfl
def L0(h:TF B t)(hB:B<=90000)(p:List UInt8)(hp:p.length<=1000):En (zf t p):=by
 have:=(VR (p:=p)).1;unfold zf;exact ε.af (afW p (by omega)) (ε.ite (λ_=>En.r _) λ_=>ε.af (O0 h hB _ (by omega)) (En.r _))
def Wj(i:Int):(jt t i).Next=t.Next:=by unfold jt;split<;>rfl
def aeW(i:Int)(s:List UInt8)(j:Int):(uT t i s j).1.Next<=t.Next+1:=by
 unfold uT;split
 .dsimp only;omega
 split
 .dsimp only;omega
 split
 .dsimp only;omega
 .exact o8 _
def aeY(i j:Int)(s:List UInt8):(vZ t i j s).1.Next=t.Next:=by
 unfold vZ;split
 .rfl
 split
 .rfl
 split;iterate 2 rfl
def ae0(i:Int)(s:List UInt8):(wP t i s).1.Next=t.Next:=by
 unfold wP;split
 .rfl
 split
 .rfl
 .exact Wj _
def aeZ(a b:Int)(c:List UInt8)(d:Int)(e:List UInt8)(g:Int):(fP t a b c d e g).Next=t.Next:=by
 unfold fP;split
 .exact Wj _
 .rfl
def Wh(i:Int)(s:List UInt8)(j:Int)(z:List UInt8):(fO t i s j z).1.Next=t.Next:=by
 have h2:∀u a b,(gG t u a b).Next=u.Next:=λu a b=>by unfold gG;split<;>rfl
 unfold fO;split
 .rfl
 split
 .rfl
 split
 .rfl
 split
 .rfl
 split
 .rfl
 split
 .rfl
 split
 .rfl
 .exact(h2 _ _ _).trans (aeZ _ _ _ _ _ _)
def Wi(i:Int)(x:List UInt8):(wj t i x).1.Next=t.Next:=by
 unfold wj;split
 .rfl
 split
 .rfl
 split;iterate 2 rfl
def ahy(s:cd)(i:Int):(B8 s i).1.aw=s.aw:=by
 unfold B8;split
 .rfl
 split
 .rfl
 split;iterate 2 rfl
def abN(x:List UInt8)(a:Int)(d:List UInt8)(hx:x.length<=5000)(ha:0<=a)(hd:a+d.length<=5000):ε (BK x a d) λr=>r.length<=5000:=by
 unfold BK;refine ε.χ (by simp;omega) (ε.ite (λ_=>ε.ret (by simpa using hx)) λ_=>ε.bind (R:=λv:List UInt8=>v.length<=5000/\a+d.length<=v.length) ?_ λv hv=>ε.bind (R:=λv:List UInt8=>v.length<=5000) ?_ λv hv=>ε.ret hv)
 .unfold XK;refine ε.loop (λs:List UInt8=>s.length<=5000) (λs=>5000-s.length) ?_ _ (by simpa using hx);intro s hs;unfold Jv;refine ε.χ (by unfold ae;omega) (ε.ite (λΞ=>?_) λhn=>ε.out (ε.ret ⟨hs,by simpa using hn⟩))
  have Ξ:(s.length:Int)<a+d.length:=by simpa using Ξ
  exact ε.χ (by simp;omega) (ε.inl ⟨by simp;omega,by simp;omega⟩)
 .unfold XL;refine ε.each (l:=d) (λ_ w=>w.length=v.length) (λn y w Ξ hy hw=>?_) (λw hw=>?_) _ rfl<;>unfold Jw
  .exact ε.cond (by simpa using Ξ) (ε.χ (by unfold ae;dsimp only;omega) (ε.af (aW hy) (En.b (ε.idx (by dsimp only;omega) (by have:=hv.2;dsimp only;omega) λ_ _=>trivial) λ_=>ε.χ (by unfold ae;dsimp only;omega) (ε.inl ⟨rfl,by simpa using hw⟩))))
  .exact ε.aV (by simp) (ε.out (ε.ret (by have:=hv.1;dsimp only;omega)))
def abU(h:LI k f)(hk:k<=60)(ho:OB o):En (FA f o):=by
 have hp:=ho.p;unfold FA gI;refine ε.bind (abK h.s (by omega) _) λr hr=>ε.ite (λ_=>⟨_,rfl,trivial⟩) λ_=>ε.af (I9 _ (by omega)) (ε.ite (λ_=>⟨_,rfl,trivial⟩) λ_=>ε.af (iM _ _ (by have:=hr.1;dsimp only;omega)) ?_);dsimp only;have hl:=(zx (p:=o.ib)).2.1;generalize fR o.ib=x at *
 have hg:∀i,(gD r.2.1 i).ψ.length<=2+5*k:=λi=>by
  rcases Aw r.2.1 i with h1|h1
  .exact hr.2 _ h1
  .rw[h1];simp[n_]
 unfold XT;refine ε.loop (λs:Int×Int×Int×Int×List UInt8×List aH×Int=>∃n:Nat,s.1=(n:Int)/\n<=x.1.length/\s.2.2.2.2.2.1.length<=2+5*k) (λs=>x.1.length-s.1.toNat) ?_ _ ⟨0,rfl,iE _,hg _⟩;rintro⟨a,b1,b2,b3,b4,b5,b6⟩ ⟨n,e,hn,hE⟩;dsimp only at e hE;subst e;unfold JF;dsimp only;by_cases Ξ:n<x.1.length
 .refine ε.cond (by simpa using Ξ) (ε.ite (λ_=>⟨_,rfl,trivial⟩) λ_=>En.b ?_ λv=>ε.af (iM _ _ (by have:=hr.1;dsimp only;omega)) (ε.ite (λ_=>⟨_,rfl,trivial⟩) λ_=>?_))
  .have hxn:=bD Ξ;unfold XU;refine ε.tE (l:=b5) (λ_ _=>True) (λm y c hm hy _=>?_) (λc _=>?_) _ trivial<;>unfold JG
   .exact ε.cond (by simpa using hm) (En.b (ε.af (aW hy) (ε.af (aW hxn) (ε.ite (λ_=>ε.af (aW hy) (En.r _)) λ_=>En.r _))) λ_=>ε.χ (by unfold ae;dsimp only;omega) (ε.inl ⟨rfl,trivial⟩))
   .exact ε.aV (by simp) (ε.out (En.r _))
  .unfold JJ;exact ε.χ (by unfold ae;dsimp only;omega) (ε.inl ⟨⟨n+1,by dsimp only;omega,Ξ,hg v⟩,by dsimp only;omega⟩)
 .refine ε.aV (by simpa using Ξ) (ε.out ?_);unfold JI BN;refine En.b ?_ λ_=>En.b (by split<;>exact En.r _) λ_=>En.r _;unfold XV;refine ε.each (l:=b5) (λn v=>v.length=n) (λn x v Ξ hx hv=>?_) (λv hv=>?_) _ rfl<;>unfold JH
  .exact ε.cond (by simpa using Ξ) (ε.af (aW hx) (ε.χ (by simp only[bV,dF];omega) (ε.χ (by unfold ae;dsimp only;omega) (ε.inl ⟨rfl,by simp;omega⟩))))
  .exact ε.aV (by simp) (ε.out (En.r _))
end
end
section
def Om{α:Type}(i n:Int)(v:α):∀l:List (Int×α),ei i (fh n v l)=if i=n then V v else ei i l
 |[]=>by
  unfold fh ei;by_cases h:n=i
  .rw[if_pos h,if_pos h.symm]
  .rw[if_neg h,if_neg (Ne.symm h)];rfl
 |(k,c)::r=>by
  simp only[fh];by_cases hk:k=n
  .rw[if_pos hk];simp only[ei];by_cases h:k=i
   .rw[if_pos h,if_pos (by omega)]
   .rw[if_neg h,if_neg (by omega),if_neg h]
  .rw[if_neg hk];simp only[ei];by_cases h:k=i
   .rw[if_pos h,if_neg (by omega),if_pos h]
   .rw[if_neg h,Om i n v r,if_neg h]
def V8{α:Type}(n:Int)(v:α):∀l:List (Int×α),(fh n v l).length<=l.length+1
 |[]=>bm _
 |(k,c)::r=>by
  simp only[fh];split
  .simp
  .have:=V8 n v r;simp only[bV];omega
def V4{α:Type}{i:Int}:∀{l:List (Int×α)},(ei i l).isSome=true↔∃p,p∈l/\p.1=i
 |[]=>by simp[ei]
 |(k,c)::r=>by
  simp only[ei];by_cases h:k=i
  .rw[if_pos h];simp[h]
  .rw[if_neg h,V4];constructor
   .rintro ⟨p,hp,e⟩;exact⟨p,cw _ hp,e⟩
   .rintro ⟨p,hp,e⟩
    rcases bp.1 hp with rfl|hp
    .exact absurd e h
    .exact⟨p,hp,e⟩
inductive lI(g:Int->Option τ)(i:Int):Int->Prop
 |refl:lI g i i
 |step {j:Int} {n:τ} {e:aH}:lI g i j->g j=V n->e∈n.ψ->lI g i e.κ
def lI.trans{g:Int->Option τ}{i j k:Int}(h:lI g i j)(h':lI g j k):lI g i k:=by
 induction h' with
 |refl=>exact h
 |step _ h2 h3 ih=>exact .step ih h2 h3
end
section
def kD(l:List aJ):Prop:=l.Pairwise λa b=>a.κ<b.κ
def cQ(i:Int)(x:aJ):Int:=lL x.κ i
def aeJ{l:List aJ}(h:kD l)(i:Int):Mon (cQ i) l:=λj k x y rb hx hy hc=>by
 obtain⟨h1,rfl⟩:=eZ.1 hx;obtain⟨h2,rfl⟩:=eZ.1 hy;have:=xa.1 h j k h1 h2 rb;unfold cQ at *;rw[oD]at *;omega
def mc(l:List aJ)(i:Int):Bool:=l.any λq=>q.κ==i
def Sz{i:Int}:∀{l:List aJ},kD l->gy (cQ i) l=mc l i
 |[],_=>rfl
 |x::l,h=>by
  have h2:=(e9.1 h).2;have h1:=(e9.1 h).1;unfold mc;rw[List.any_cons];by_cases hx:cQ i x<0
  .rw[z7 hx,Sz h2];have:x.κ<i:=oD.1 hx;rw[beq_eq_false_iff_ne.2 (by omega),Rn];rfl
  .rw[z8 hx];have fN:¬x.κ<i:=λh=>hx (oD.2 h);by_cases he:x.κ=i
   .rw[show(cQ i x==0)=true from CU.2 he,show(x.κ==i)=true by simpa using he];rfl
   .rw[show(cQ i x==0)=false from oo.2 λh=>he (CU.1 h),beq_eq_false_iff_ne.2 he,Rn];symm;rw[qG];intro y hy;have:=h1 y hy;simp;omega
def WJ{l:List aJ}(h:kD l)(hl:l.length<=1000000)(i:Int):EF l i=V ((fi (cQ i) l:Int),mc l i):=by
 have hb:=Lv (C:=λx=>yT x i) (c:=cQ i) (l:=l) (λx _=>by unfold yT;rw[FX];rfl) (aeJ h i) hl;unfold EF;show((CR (λx=>yT x i) l).bind _)=_;rw[hb,Sz h];rfl
def im(l:List τ)(q:List aJ):Nat->Int->Int
 |0,_=>0
 |f+1,i=>if mc q i=true then i else if i=1 then 0 else im l q f (gD l i).Up
def S1{l:List τ}{q:List aJ}{i:Int}{d:Nat}(h:Deep l i d):∀{f:Nat},d<=f->im l q (f+1) i=im l q (d+1) i:=by
 induction h with
 |root=>intro f _;rw[im,im];simp
 |@step i n d h1 h2 h3 h4 ih =>
  intro f hf;cases f with
  |zero=>omega
  |succ f =>
   rw[im,im.eq_2 l q i (d+1)];have hg:gD l i=n:=eE h2;rw[hg,ih (by omega)]
def gY(l:List τ)(q:List aJ)(i:Int):Int:=im l q 201 i
section
variable{B:Nat}{t:Γ}
def ae9{q:List aJ}(hs:fc t.η)(hn:t.η.length<=1000000)(hq:kD q)(hl:q.length<=1000000){i:Int}{d:Nat}(h:Deep t.η i d)(h0:∀n,n∈t.η->1<=n.κ):Bs t q i=V (im t.η q (d+1) i):=by
 have key:∀{d:Nat}{i:Int},Deep t.η i d->loop (yU q t) (i,0)=V (im t.η q (d+1) i):=by
  intro d i h;induction h with
  |root =>
   have hp:=WJ hq hl 1;refine kJ ?_;unfold yU Bt;rw[im];simp only[hp,aS];cases mc q 1<;>simp[Cat.out]
  |@step i n d h1 h2 h3 h4 ih =>
   have hp:=WJ hq hl i;have hi:=h0 n (bz h2).1;rw[(bz h2).2]at hi;rw[im];by_cases hh:mc q i=true
   .rw[if_pos hh];refine kJ ?_;unfold yU Bt;simp only[hp,aS,hh,if_true];rw[show(i==0)=false by simp;omega];rfl
   .rw[if_neg hh,if_neg h1,eE h2];refine(ry ?_).trans ih;unfold yU Bt;have hg:=Bo hs hn i;simp only[hp,aS,oo.2 hh,oq,if_false,hg];rw[show((0:Int)==0)=true from rfl];simp only[if_true,aS,show(i != 1)=true by simpa using h1,eE h2]
 unfold Bs I5 WY;rw[key h];rfl
abbrev kC:=List (Int×Bool)
def pR(m:kC)(j:Int):Prop:=(ei j m).isSome=true
def vU{m:kC}{j:Int}:pR m j↔∃p,p∈m/\p.1=j:=V4
structure SM(m:kC):Prop where
 k:(m.map (·.1)).Pairwise (·≠·)
 r:∀p,p∈m->0<=p.1/\p.1<5000
 v:∀p,p∈m->p.2=true
def SM.ml{m:kC}(h:SM m):m.length<=5000:=by
 have:=Oe 5000 (m.map (·.1)) h.k λx hx=>by
  obtain⟨p,hp,rfl⟩:=cL.1 hx;exact h.r p hp
 rw[au]at this;exact this
def V5{α:Type}{i:Int}{v:α}:∀{l:List (Int×α)},ei i l=V v->(i,v)∈l
 |[],h=>by cases h
 |(k,c)::r,h=>by
  simp only[ei]at h;by_cases e:k=i
  .rw[if_pos e]at h;cases h;rw[e];simp
  .rw[if_neg e]at h;exact cw _ (V5 h)
def SM.get{m:kC}(h:SM m)(j:Int):(ei j m).getD false=(ei j m).isSome:=by
 cases e:ei j m with
 |none=>rfl
 |some b=>exact h.v _ (V5 e)
def SM.set{m:kC}(h:SM m){i:Int}(hi:¬pR m i)(hr:0<=i/\i<5000):fh i true m=m++[(i,true)]/\SM (m++[(i,true)]):=by
 rcases Eo i true m with⟨h1,h2,h3⟩|⟨j,c,h1,h2,_⟩
 .refine⟨h2,?_,λp hp=>?_,λp hp=>?_⟩
  .rw[bO];refine KR.2 ⟨h.k,uL _ _,λa ha b hb=>?_⟩;obtain⟨p,hp,rfl⟩:=cL.1 ha;simp at hb;rw[hb];exact h3 p hp
  .rcases ep.1 hp with hp|hp
   .exact h.r p hp
   .obtain rfl:=cV.1 hp;exact hr
  .rcases ep.1 hp with hp|hp
   .exact h.v p hp
   .obtain rfl:=cV.1 hp;rfl
 .exact absurd (by unfold pR;rw[h2];rfl) hi
def dl(t:Γ)(i:Int):Nat:=(gD t.η i).aK.length
def jK(t:Γ)(l:kC):Nat:=(l.map λp=>dl t p.1).sum
def zZ(t:Γ)(E:List aH)(b:Int)(m:kC)(r:List τ×Int×Int×Int×kC):Prop:=
 r.1=t.η/\r.2.1=t.Next/\r.2.2.1=t.ai/\∃new,r.2.2.2.2=m++new/\SM (m++new)/\r.2.2.2.1=b+(jK t new:Int) /\
  (∀p,p∈new->∃e,e∈E/\lI (gN t.η) e.κ p.1)/\(∀e,e∈E->pR (m++new) e.κ)/\∀p,p∈new->∀e,e∈(gD t.η p.1).ψ->pR (m++new) e.κ
structure UT(t:Γ):Prop where
 s:fc t.η
 n:t.η.length<=1000000
 d:∀i,dl t i<=4096
 e:∀i e,e∈(gD t.η i).ψ->0<=e.κ/\e.κ<5000
 l:∀i,(gD t.η i).ψ.length<=1000000
def YF(h:UT t)(l:kC):jK t l<=4096*l.length:=by
 induction l with
 |nil=>exact bm _
 |cons p l ih =>
  unfold jK at ih ⊢;have:=h.d p.1;simp only[fT,pc,bV];omega
def Qs(t:Γ)(a b:kC):jK t (a++b)=jK t a+jK t b:=by unfold jK;simp
abbrev UF:=(Int×Γ×Int×kC)->Option (List τ×Int×Int×Int×kC)
def ahJ{f:UF}(h:UT t){n:Nat}(hf:∀i b m,SM m->5000-m.length<n->0<=b/\b<=4096*(m.length:Int)->0<=i/\i<5000->ε (f (i,t,b,m)) (zZ t (gD t.η i).ψ (b+(dl t i:Int)) m))
  {i b:Int} {m:kC} (hm:SM m) (hn:5000-m.length<n+1) (hb:0<=b/\b<=4096*(m.length:Int)):ε (sO f i t b m) (zZ t (gD t.η i).ψ (b+(dl t i:Int)) m):=by
 have j8:=hm.ml;have hdi:=h.d i;unfold sO;refine ε.af (Bo h.s h.n i) ?_;show ε (χ (ae (b+(dl t i:Int))) (EE (gD t.η i,(gN t.η i).isSome) f (0,t.η,t.Next,t.ai,b+(dl t i:Int),m))) _;refine ε.χ (by unfold ae;omega) ?_;unfold EE;generalize hE:(gD t.η i).ψ=E;have hEl:E.length<=1000000:=hE▸h.l i;have hEr:∀e,e∈E->0<=e.κ/\e.κ<5000:=λe he=>h.e i e (by rw[hE];exact he)
 have eu:0<=b+(dl t i:Int)/\b+(dl t i:Int)<=4096*((m.length:Int)+1):=by omega
 generalize b+(dl t i:Int)=b0 at eu ⊢;refine ε.loop (λs:Int×List τ×Int×Int×Int×kC=>∃k:Nat,s.1=(k:Int)/\k<=E.length/\zZ t (E.take k) b0 m s.2) (λs=>E.length-s.1.toNat) ?_ _ ⟨0,rfl,by omega,rfl,rfl,rfl,[],by simp,by simpa using hm,by simp[jK],λp hp=>(by cases hp),λe he=>(by simp at he),λp hp=>(by cases hp)⟩;rintro⟨s0,N,X,C,bs,ms⟩ ⟨k,e1,hk,g1,g2,g3,new,g4,g5,g6,g7,g8,g9⟩;dsimp only at e1 g1 g2 g3 g4 g6;subst e1;subst g1;subst g2;subst g3;subst g4;subst g6;unfold yS;dsimp only;rw[hE];by_cases Ξ:k<E.length
 .have hx:=bD Ξ
  have gB:E.take (k+1)=E.take k++[E[k]]:=by rw[s7,hx];rfl
  have hr:=hEr _ (eA Ξ);have yt:=g5.ml;have Vc:=YF h new;rw[cZ]at yt;refine ε.cond (by simpa using Ξ) (ε.bind (R:=λv=>zZ t (E.take (k+1)) b0 m v) (ε.af (aW hx) (ε.af rfl ?_)) λv hv=>ε.χ (by unfold ae;omega) (ε.inl ⟨⟨k+1,by dsimp only;omega,Ξ,hv⟩,by dsimp only;omega⟩));rw[g5.get];by_cases hK:pR (m++new) E[k].κ
  .have xP:(ei E[k].κ (m++new)).isSome=true:=hK;refine ε.aV (by rw[xP];simp) (ε.ret ⟨rfl,rfl,rfl,new,rfl,g5,rfl,λp hp=>?_,λe he=>?_,g9⟩)
   .obtain⟨e,he,hr⟩:=g7 p hp;exact⟨e,by rw[gB];exact nC _ he,hr⟩
   .rw[gB]at he
    rcases ep.1 he with he|he
    .exact g8 e he
    .obtain rfl:=cV.1 he;exact hK
  .obtain⟨q1,q2⟩:=g5.set hK hr;have xP:¬(ei E[k].κ (m++new)).isSome=true:=hK
   have pP:(m++new++[(E[k].κ,true)]).length=m.length+new.length+1:=by simp;omega
   have m_:=q2.ml;rw[pP]at m_;refine ε.cond (by simpa using xP) (ε.χ ⟨by unfold ae;omega,by simp only[cZ];omega⟩ ?_);rw[q1];refine ε.bind (hf E[k].κ (b0+(jK t new:Int)) (m++new++[(E[k].κ,true)]) q2 (by rw[pP];omega) (by rw[pP];omega) hr) ?_;rintro⟨N',X',C',b',m'⟩ ⟨u1,u2,u3,Et,u4,u5,u6,u7,u8,u9⟩;dsimp only at u1 u2 u3 u4 u6;subst u1;subst u2;subst u3;subst u4;subst u6
   have Dx:m++new++[(E[k].κ,true)]++Et=m++(new++[(E[k].κ,true)]++Et):=by simp
   have kE:∀j,pR (m++new) j->pR (m++(new++[(E[k].κ,true)]++Et)) j:=λj hj=>by
    rw[vU]at *;obtain⟨p,hp,e⟩:=hj;refine⟨p,?_,e⟩;rw[<-Dx];simp only[ep]at *;exact .inl (.inl hp)
   have adz:pR (m++(new++[(E[k].κ,true)]++Et)) E[k].κ:=vU.2 ⟨(E[k].κ,true),by simp,rfl⟩;refine ε.ret ⟨rfl,rfl,rfl,new++[(E[k].κ,true)]++Et,Dx,Dx▸u5,?_,λp hp=>?_,λe he=>?_,λp hp e he=>?_⟩
   .dsimp only;rw[Qs,Qs]
    have:jK t [(E[k].κ,true)]=dl t E[k].κ:=by simp[jK]
    rw[this];omega
   .rcases ep.1 hp with hp|hp
    .rcases ep.1 hp with hp|hp
     .obtain⟨e,he,hr⟩:=g7 p hp;exact⟨e,by rw[gB];exact nC _ he,hr⟩
     .obtain rfl:=cV.1 hp;exact⟨E[k],by rw[gB];exact uJ _ (cV.2 rfl),.refl⟩
    .obtain⟨e,he,hr⟩:=u7 p hp;refine⟨E[k],by rw[gB];exact uJ _ (cV.2 rfl),?_⟩
     have gP:gN t.η E[k].κ=V (gD t.η E[k].κ):=by
      unfold gD at he ⊢;cases hg:gN t.η E[k].κ with
      |none=>rw[hg]at he;cases he
      |some n=>rfl
     exact lI.trans (.step .refl gP he) hr
   .rw[gB]at he
    rcases ep.1 he with he|he
    .exact kE _ (g8 e he)
    .obtain rfl:=cV.1 he;exact adz
   .rcases ep.1 hp with hp|hp
    .rcases ep.1 hp with hp|hp
     .exact kE _ (g9 p hp e he)
     .obtain rfl:=cV.1 hp;exact Dx▸u8 e he
    .exact Dx▸u9 p hp e he
 .have:k=E.length:=by omega
  subst this;rw[gl]at g7 g8;exact ε.aV (by simp) (ε.out (ε.ret ⟨rfl,rfl,rfl,new,rfl,g5,rfl,g7,g8,g9⟩))
noncomputable def Lc:UF->UF:=λf a=>sO f a.1 a.2.1 a.2.2.1 a.2.2.2
def aaw:La Lc:=λf g h a r hr=>aeF f g (λa r=>h a r) a.1 a.2.1 a.2.2.1 a.2.2.2 r hr
def YV(h:UT t):∀(n:Nat)(i b:Int)(m:kC),SM m->5000-m.length<n->0<=b/\b<=4096*(m.length:Int)->ε (sP Lc n (i,t,b,m)) (zZ t (gD t.η i).ψ (b+(dl t i:Int)) m)
 |0,_,_,_,_,hn,_=>by omega
 |n+1,i,b,m,hm,hn,hb=>by
  show ε (sO (sP Lc n) i t b m) _;exact ahJ h (λi b m h1 h2 h3 _=>YV h n i b m h1 h2 h3) hm hn hb
def ahK(h:UT t)(i:Int):ε (I4 i t 0 []) (zZ t (gD t.η i).ψ (0+(dl t i:Int)) []):=by
 obtain⟨r,h1,h2⟩:=YV h 5001 i 0 [] ⟨o9,λp hp=>(by cases hp),λp hp=>(by cases hp)⟩ (by simp) (by simp);exact⟨r,acd aaw h1,h2⟩
def nF(t:Γ)(i:Int)(r:Int×Int):Prop:=
 if(gD t.η i).θ=2 then∃m:kC,SM m/\r=((m.length:Int),(dl t i:Int)+(jK t m:Int))/\∀j,pR m j↔∃e,e∈(gD t.η i).ψ/\lI (gN t.η) e.κ j
 else r=(0,0)
def afh(h:UT t)(i:Int):ε (yR t i) (nF t i):=by
 unfold yR nF
 have lf:(gN t.η i).isSome=false->(gD t.η i).θ≠2:=λhg=>by
  unfold gD;cases hx:gN t.η i with
  |none=>simp[n_]
  |some n=>rw[hx]at hg;cases hg
 refine ε.bind (R:=λv:Int×kC=>if(gD t.η i).θ=2 then∃m:kC,SM m/\v=((dl t i:Int)+(jK t m:Int),m)/\∀j,pR m j↔∃e,e∈(gD t.η i).ψ/\lI (gN t.η) e.κ j else v=(0,[])) (ε.af (Bo h.s h.n i) ?_) λv hv=>ε.ret ?_
 .dsimp only
  refine ε.bind (R:=(·=decide ((gD t.η i).θ=2))) (ε.bind (R:=(·=decide ((gD t.η i).θ=2))) (ε.ite (λ_=>ε.ret (by rw[uC];simp)) λe=>ε.ret (by
   symm;rw[decide_eq_false_iff_not];exact lf (oo.2 e))) λv hv=>ε.ret hv) λv hv=>?_
  subst hv;by_cases hk:(gD t.η i).θ=2
  .simp only[hk,if_true,decide_true];refine ε.bind (ahK h i) ?_;rintro⟨N,X,C,b,m'⟩ ⟨u1,u2,u3,new,u4,u5,u6,u7,u8,u9⟩;rw[uK]at u4 u5 u8 u9;dsimp only at u4 u6;subst u4;refine ε.ret ⟨m',u5,?_,λj=>⟨λhj=>?_,λhj=>?_⟩⟩
   .dsimp only;rw[u6];congr 1;omega
   .obtain⟨p,hp,e⟩:=vU.1 hj;rw[<-e];exact u7 p hp
   .obtain⟨e,he,hr⟩:=hj;clear lf u7;induction hr with
    |refl=>exact u8 e he
    |step a b c ih =>
     obtain⟨p,hp,e⟩:=vU.1 ih;rw[<-e]at b;exact u9 p hp _ (by rw[eE b];exact c)
  .simp only[hk,if_false,decide_false,oq];exact ε.ret rfl
 .by_cases hk:(gD t.η i).θ=2
  .rw[if_pos hk]at hv ⊢;obtain⟨m,h1,h2,h3⟩:=hv;exact⟨m,h1,by rw[h2],h3⟩
  .rw[if_neg hk]at hv ⊢;rw[hv];rfl
def aeq{a b:kC}(ha:SM a)(hb:SM b)(h:∀j,pR a j↔pR b j):(a.map (·.1)).Perm (b.map (·.1)):=by
 refine(Gv ha.k hb.k).2 λj=>?_;have:=h j;rw[vU,vU]at this;simp only[cL];exact this
end
end
section
section
variable{B:Nat}{t:Γ}
def RT.eR(h:RT t){n:τ}(hn:n∈t.η){e:aH}(he:e∈n.ψ):1<=e.κ/\e.κ<t.Next:=by
 obtain⟨x,hx⟩:=kv.1 (h.cl n hn e he);have:=h.lo x (bz hx).1;rw[(bz hx).2]at this;exact this
def RT.ut(h:RT t)(hf:TF B t)(hB:B<=4000):UT t:=by
 refine⟨h.s,by have:=hf.n;omega,λi=>?_,λi e he=>?_,λi=>by have:=hf.gE i;omega⟩
 .unfold dl
  rcases qR t.η i with⟨n,h1,h2⟩|⟨h1,h2⟩
  .rw[h2];exact h.data (bz h1).1
  .rw[h2];exact iE _
 .rcases qR t.η i with⟨n,h1,h2⟩|⟨h1,h2⟩
  .rw[h2]at he;have:=h.eR (bz h1).1 he;have:=hf.x;omega
  .rw[h2]at he;cases he
noncomputable def Gg (t:Γ) (i:Int):Int×Int:=(yR t i).getD (0,0)
def OH(h:UT t)(i:Int):yR t i=V (Gg t i)/\nF t i (Gg t i):=by
 obtain⟨r,h1,h2⟩:=afh h i;unfold Gg;rw[h1];exact⟨rfl,h2⟩
def tJ(t:Γ)(q:List aJ):List (Int×Int):=t.η.flatMap λd=>d.ψ.map λe=>(e.κ,gY t.η q d.κ)
def xm(t:Γ)(q:List aJ):Prop:=∀j x y,(j,x)∈tJ t q->(j,y)∈tJ t q->(gD t.η j).θ=1->x=y
structure OI(t:Γ)(p:List (Int×Int))(M:List (Int×Int)):Prop where
 a:∀j x,ei j M=V x->(j,x)∈p
 b:∀j x,(j,x)∈p->(gD t.η j).θ=1->ei j M=V x
 l:M.length<=p.length
def OI.step{p M:List (Int×Int)}(h:OI t p M){j x:Int}(hc:∀w,ei j M=V w->(gD t.η j).θ=1->w=x):OI t (p++[(j,x)]) (fh j x M):=by
 refine⟨λi y hy=>?_,λi y hy hk=>?_,?_⟩
 .rw[Om]at hy;by_cases e:i=j
  .rw[if_pos e]at hy;cases hy;rw[e];simp
  .rw[if_neg e]at hy;exact nC _ (h.a i y hy)
 .rw[Om];by_cases e:i=j
  .rw[if_pos e];subst e
   rcases ep.1 hy with hy|hy
   .rw[hc y (h.b i y hy hk) hk]
   .have:=cV.1 hy;cases this;rfl
  .rw[if_neg e]
   rcases ep.1 hy with hy|hy
   .exact h.b i y hy hk
   .have:=cV.1 hy;cases this;exact absurd rfl e
 .have:=V8 j x M;have:=h.l;rw[cZ];simp;omega
def WS(h:RT t)(q:List aJ):∀(l:List τ),(∀n,n∈l->n∈t.η)->(l.flatMap λd=>d.ψ.map λe=>(e.κ,gY t.η q d.κ)).length<=64*l.length
 |[],_=>by simp
 |n::l,hl=>by
  have ih:=WS h q l λm hm=>hl m (cw _ hm);have:=(h.en n (hl n (by simp))).n;rw[List.flatMap_cons,cZ,au,bV];omega
def afv(h:RT t)(hf:TF B t)(hB:B<=4000){q:List aJ}(hq:kD q)(pP:q.length<=1000000):ε (xJ t q) (cF (xm t q)):=by
 have hu:=h.ut hf hB;have hn:=hu.n;have hlen:=h.len;unfold xJ TB;refine ε.loop (λs:Int×List (Int×Int)=>∃k:Nat,s.1=(k:Int)/\k<=t.η.length/\OI t ((t.η.take k).flatMap λd=>d.ψ.map λe=>(e.κ,gY t.η q d.κ)) s.2) (λs=>t.η.length-s.1.toNat) ?_ _ ⟨0,rfl,by omega,⟨λj x hx=>(by cases hx),λj x hx=>(by cases hx),by simp⟩⟩;rintro⟨s0,M⟩ ⟨k,e1,hk,hO⟩;dsimp only at e1 hO;subst e1;unfold Ho;dsimp only;by_cases Ξ:k<t.η.length
 .have hx:=bD Ξ;have bn:=eA Ξ
  have gB:t.η.take (k+1)=t.η.take k++[t.η[k]]:=by rw[s7,hx];rfl
  have rk:=WS h q (t.η.take k) λn hn=>KQ hn;have hEn:=(h.en _ bn).n;refine ε.cond (by simpa using Ξ) (ε.af (aW hx) ?_);generalize hd:t.η[k]=d at *;by_cases hE:d.ψ.length=0
  .refine ε.cond (by simp[hE]) ?_;unfold Au;refine ε.χ (by unfold ae;omega) (ε.inl ⟨⟨k+1,by dsimp only;omega,Ξ,?_⟩,by dsimp only;omega⟩);rw[gB,Z4];have hE':d.ψ=[]:=List.length_eq_zero_iff.1 hE
   have e0:([d].flatMap λd=>d.ψ.map λe=>(e.κ,gY t.η q d.κ))=[]:=by simp[hE']
   rw[e0,qH];exact hO
  .have dz:d.θ=2:=zM λdz=>hE (by rw[(W.file h bn dz).2.1];rfl);obtain⟨dd,d1,d2,d3⟩:=h.dp d bn dz
   have acT:Bs t q d.κ=V (gY t.η q d.κ):=by
    rw[ae9 hu.s hn hq pP d1 (λn hn=>(h.lo n hn).1)];unfold gY;rw[S1 (f:=200) d1 (by omega)]
   refine ε.aV (by simpa using hE) (ε.af acT ?_);generalize hP:(t.η.take k).flatMap (λd=>d.ψ.map λe=>(e.κ,gY t.η q d.κ))=P at *;unfold TC
   have hPl:P.length<=12800:=by rw[dq]at rk;omega
   refine ε.loop (λs:Int×List (Int×Int)=>∃j:Nat,s.1=(j:Int)/\j<=d.ψ.length/\OI t (P++(d.ψ.take j).map λe=>(e.κ,gY t.η q d.κ)) s.2) (λs=>d.ψ.length-s.1.toNat) ?_ _ ⟨0,rfl,by omega,by simpa using hO⟩;rintro⟨s0,M'⟩ ⟨j,e1,hj,AE⟩;dsimp only at e1 AE;subst e1;unfold Hq;dsimp only;by_cases mZ:j<d.ψ.length
   .have jU:=bD mZ;have UO:=eA mZ
    have H9:d.ψ.take (j+1)=d.ψ.take j++[d.ψ[j]]:=by rw[s7,jU];rfl
    have her:=h.eR bn UO;have hMl:=AE.l;rw[cZ,au,dq]at hMl;have nW:=hf.x;generalize d.ψ[j]=e at *
    have Mv:∀p,p∈P->p∈tJ t q:=λp hp=>by
     unfold tJ;rw[<-hP]at hp;obtain⟨d',bF,hp⟩:=KP.1 hp;exact KP.2 ⟨d',KQ bF,hp⟩
    have TX:∀e,e∈d.ψ->(e.κ,gY t.η q d.κ)∈tJ t q:=λe he=>KP.2 ⟨d,bn,cL.2 ⟨e,he,rfl⟩⟩;refine ε.cond (by simpa using mZ) (ε.af (aW jU) (ε.af (Bo hu.s hn e.κ) (ε.af rfl ?_)));dsimp only;refine ε.bind (R:=(·=decide ((gD t.η e.κ).θ=1/\∃w,ei e.κ M'=V w/\w≠gY t.η q d.κ))) ?_ λv hv=>?_
    .refine ε.bind (R:=(·=decide ((gD t.η e.κ).θ=1/\(ei e.κ M').isSome=true))) (ε.ite (λe'=>ε.ret ?_) λe'=>ε.ret ?_) λv hv=>ε.bind (R:=(·=decide ((gD t.η e.κ).θ=1/\∃w,ei e.κ M'=V w/\w≠gY t.η q d.κ))) ?_ λv hv=>ε.ret hv
     .have e':(gD t.η e.κ).θ=1:=by simpa using e'
      rw[uC,decide_eq_true_eq];simp[e']
     .have e':¬(gD t.η e.κ).θ=1:=by simpa using e'
      symm;rw[decide_eq_false_iff_not];simp[e']
     .subst hv;refine ε.ite (λe'=>ε.ret ?_) λe'=>ε.ret ?_
      .rw[decide_eq_true_eq]at e';obtain⟨w,hw⟩:=kv.1 e'.2;rw[uC,decide_eq_true_eq,hw];simp[e'.1]
      .rw[decide_eq_true_eq]at e';symm;rw[decide_eq_false_iff_not];rintro⟨h1,w,h2,h3⟩;exact e' ⟨h1,by rw[h2];rfl⟩
    .subst hv;refine ε.ite (λe'=>?_) λe'=>?_
     .rw[decide_eq_true_eq]at e';obtain⟨e2,w,e3,e4⟩:=e';refine ε.out (ε.out (ε.ret ⟨λh=>(by cases h),λhO1=>?_⟩));exfalso;have oO:=AE.a _ _ e3;refine e4 (hO1 e.κ w _ ?_ (TX e UO) e2)
      rcases ep.1 oO with oO|oO
      .exact Mv _ oO
      .obtain⟨e5,h5,h6⟩:=cL.1 oO;rw[<-h6];exact TX e5 (KQ h5)
     .rw[decide_eq_true_eq]at e';refine ε.χ ⟨by unfold ae;omega,by omega⟩ (ε.χ (by unfold ae;omega) (ε.inl ⟨⟨j+1,by dsimp only;omega,mZ,?_⟩,by dsimp only;omega⟩));rw[H9,bO,<-l7];exact AE.step λw hw hk=>zM λhc=>e' ⟨hk,w,hw,hc⟩
   .have:j=d.ψ.length:=by omega
    subst this;rw[gl]at AE;refine ε.aV (by simp) (ε.out ?_);unfold Au;refine ε.χ (by unfold ae;omega) (ε.inl ⟨⟨k+1,by dsimp only;omega,Ξ,?_⟩,by dsimp only;omega⟩);rw[gB,Z4,hP];simpa using AE
 .have:k=t.η.length:=by omega
  subst this;rw[gl]at hO;unfold Hr;refine ε.aV (by simp) (ε.out (ε.ret ⟨λ_ j x y hx hy hk=>?_,λ_=>rfl⟩));have h1:=hO.b j x hx hk;have h2:=hO.b j y hy hk;rw[h1]at h2;exact iP h2
end
end
section
section
variable{B:Nat}{t:Γ}
noncomputable def Bm (t:Γ) (q:List aJ):Bool:=(xJ t q).getD false
def OD(h:RT t)(hf:TF B t)(hB:B<=4000){q:List aJ}(hq:kD q)(pP:q.length<=1000000):xJ t q=V (Bm t q)/\(Bm t q=true↔xm t q):=by
 obtain⟨r,h1,h2⟩:=afv h hf hB hq pP;unfold Bm;rw[h1];exact⟨rfl,h2⟩
noncomputable def pT (t:Γ) (q:aJ):Bool:=!(decide ((Gg t q.κ).1<=q.η)&&decide ((Gg t q.κ).2<=q.uO))
def mT(l:List bg)(t:Γ)(i:Int):Γ:=if HL l i=true then t else(mV t i).1
def gh(t:Γ)(l:List bg):Γ:=((t.η.filter ur).map (·.κ)).foldl (mT l) t
def jW(t:Γ)(q:List aJ):List aJ:=q.filter λx=>(gN t.η x.κ).isSome
noncomputable def rD (t:Γ) (l:List bg) (q:List aJ):Int⊕(Γ×List aJ):=
 if(!Bm (gh t l) (jW (gh t l) q))=true then .inl 91
 else if(jW (gh t l) q).any (pT (gh t l))=true then .inl 90
 else .inr (gh t l,jW (gh t l) q)
structure RF(B:Nat)(t:Γ):Prop where
 r:RT t
 f:TF B t
def RF.fr(h:RF B t)(l:List bg)(i:Int):RF B (mT l t i):=by
 unfold mT;split
 .exact h
 .exact⟨h.r.free i,h.f.Hk i⟩
def RF.vv(l:List bg):∀(o:List Int){t:Γ},RF B t->RF B (o.foldl (mT l) t)
 |[],_,h=>h
 |i::o,_,h=>RF.vv l o (h.fr l i)
def RF.settle(h:RF B t)(l:List bg):RF B (gh t l):=RF.vv l _ h
def It(t:Γ){q:List aJ}(hq:kD q):kD (jW t q)/\(jW t q).length<=q.length:=⟨w7 _ hq,j2 _ _⟩
def afq(h:fc t.η)(hn:t.η.length<=1000000){q:List aJ}(hl:q.length<=1000000):J_ q t=V (jW t q):=by
 have hd:=SX (C:=λx=>Dg x t) (p:=λx=>!(gN t.η x.κ).isSome) (l:=q) (z:=⟨0,0,0⟩) (λx _=>by
  unfold Dg
  rw[Bo h hn];rfl) hl
 have e:(q.filter λx=>!!(gN t.η x.κ).isSome)=jW t q:=by unfold jW;congr 1;funext x;simp
 rw[e]at hd;exact hd
def afA{k:Nat}{s:cd}(hs:SI k s)(hk:k<=60)(h:RF (2+5*k+5) t){H:List bg}(hH:H.length<=1000){q:List aJ}(hq:kD q)(pP:q.length<=1000)(q0:List aJ)(xp xq:Int)(a12 xr:List UInt8)(xu xv xw:Int)(a17:List UInt8)(xx xy a20 a21 a22:Int):
  Av t q s.aw.η s.aw.Next s.aw.ai s.bE s.dh s.cM s.cm s.Next H q0 xp xq a12 xr xu xv xw a17 xx xy a20 a21 a22=V ((rD t H q).map id λz=>((gH s z.1).aw.η,(gH s z.1).aw.Next,(gH s z.1).aw.ai,(gH s z.1).bE,(gH s z.1).dh,(gH s z.1).cM,(gH s z.1).cm,(gH s z.1).Next,z.2)):=by
 have hn:=h.f.n;refine ε.eq ?_;unfold Av;refine ε.af (a:=((gh t H).η,(gh t H).Next,(gh t H).ai)) ?_ ?_
 .refine ε.eq (ε.af (afe (by omega)) ?_);unfold TD gh;generalize hO:(t.η.filter ur).map (·.κ)=O
  have hOl:O.length<=1000000:=by rw[<-hO,au];exact Nat.le_trans (j2 _ _) (by omega)
  refine ε.loop (λs:Int×List τ×Int×Int=>∃j:Nat,s.1=(j:Int)/\j<=O.length/\(O.take j).foldl (mT H) t=⟨s.2.1,s.2.2.1,s.2.2.2⟩) (λs=>O.length-s.1.toNat) ?_ _ ⟨0,rfl,by omega,rfl⟩;rintro⟨s0,N,X,C⟩ ⟨j,e1,hj,e2⟩;dsimp only at e1 e2;subst e1;have hR:RF (2+5*k+5) (⟨N,X,C⟩:Γ):=e2▸RF.vv H (O.take j) h;unfold Ht;dsimp only;by_cases Ξ:j<O.length
  .have hx:=bD Ξ
   have gB:O.take (j+1)=O.take j++[O[j]]:=by rw[s7,hx];rfl
   have HN:(O.take (j+1)).foldl (mT H) t=mT H ⟨N,X,C⟩ O[j]:=by rw[gB,Z5,e2];rfl
   refine ε.cond (by simpa using Ξ) (ε.bind (R:=λv=>(⟨v.1,v.2.1,v.2.2⟩:Γ)=mT H ⟨N,X,C⟩ O[j]) (ε.af (aW hx) (ε.af (afp H _ (by omega)) ?_)) λv hv=>ε.χ (by unfold ae;omega) (ε.inl ⟨⟨j+1,by dsimp only;omega,Ξ,?_⟩,by dsimp only;omega⟩))
   .unfold mT;by_cases e:HL H O[j]=true
    .simp only[if_pos e];exact ε.aV (by simp[e]) (ε.ret rfl)
    .simp only[if_neg e];exact ε.cond (by simpa using e) (ε.af (ae_ hR.r.s hR.f (by omega) _) (ε.ret rfl))
   .rw[HN];exact hv.symm
  .have:j=O.length:=by omega
   subst this;rw[gl]at e2;exact ε.aV (by simp) (ε.out (ε.ret (by rw[e2])))
 have hR:=h.settle H;unfold rD;generalize gh t H=T at *;have hnT:=hR.f.n;dsimp only;refine ε.af (aaR (by omega)) (ε.af (afq (t:=T) hR.r.s (by omega) (by omega)) ?_);obtain⟨k1,k2⟩:=It T hq;generalize jW T q=Q at *;refine ε.af (OD hR.r hR.f (by omega) k1 (by omega)).1 ?_;refine ε.check (by decide) (λhb=>?_) λhb=>?_;rotate_left
 .rw[hb,if_pos (by rfl)];exact ε.ret rfl
 rw[hb,if_neg (by simp)];unfold TE;have hu:=hR.r.ut hR.f (by omega);refine ε.loop (λn:Int=>∃j:Nat,n=(j:Int)/\j<=Q.length/\(Q.take j).any (pT T)=false) (λn=>Q.length-n.toNat) ?_ _ ⟨0,rfl,by omega,rfl⟩;rintro n ⟨j,rfl,hj,bu⟩;unfold Hu;by_cases Ξ:j<Q.length
 .have hx:=bD Ξ
  have gB:Q.take (j+1)=Q.take j++[Q[j]]:=by rw[s7,hx];rfl
  refine ε.cond (by simpa using Ξ) (ε.af (aW hx) (ε.af (OH (t:=T) hu Q[j].κ).1 ?_));refine ε.bind (R:=(·=!pT T Q[j])) ?_ λv hv=>?_
  .unfold pT;rw[Bool.not_not];exact ε.ite (λe=>ε.ret (by rw[e];rfl)) λe=>ε.ret (by rw[oo.2 e];rfl)
  subst hv;refine ε.check (by decide) (λho=>?_) λho=>?_
  .have ho:pT T Q[j]=false:=by simpa using ho
   unfold Hw;refine ε.χ (by unfold ae;omega) (ε.inl ⟨⟨j+1,by omega,Ξ,?_⟩,by omega⟩);rw[gB,List.any_append,bu];simp[ho]
  .have ho:pT T Q[j]=true:=by simpa using ho
   have:Q.any (pT T)=true:=rN.2 ⟨_,eA Ξ,ho⟩;rw[this,if_pos rfl];exact ε.out (ε.ret rfl)
 .have:j=Q.length:=by omega
  subst this;rw[gl]at bu;refine ε.aV (by simp) (ε.out ?_);unfold Hv;rw[bu];have hp:=aff (hs.EA (by omega) hR.r.s hR.f);refine ε.af (x:=BQ s T) hp (ε.ret ?_);rfl
end
abbrev Lf{α:Type}(F:List τ->Int->Int->Int->List Int->List cq->List cG->Int->List bg->List aJ->Int->Int->List UInt8->List UInt8->Int->Int->Int->List UInt8->Int->Int->Int->Int->Int->α)(f:cy)(o:dO):α:=F f.S.aw.η f.S.aw.Next f.S.aw.ai f.S.bE f.S.dh f.S.cM f.S.cm f.S.Next f.Holds f.et o.θ o.gp o.ib o.To o.N o.M o.iR o.aK 0 0 0 0 0
abbrev s8{β:Type}(s:cd)(r:β):=(s.aw.η,s.aw.Next,s.aw.ai,s.bE,s.dh,s.cM,s.cm,s.Next,r)
end
section
abbrev SE:=List (List UInt8×Int)
def sE(l:List aH):SE:=l.map λe=>(e.aC,e.κ)
def jY{l:List aH}{s:List UInt8}{i:Int}:(s,i)∈sE l↔∃e,e∈l/\e.aC=s/\e.κ=i:=by
 unfold sE;rw[cL];constructor
 .rintro ⟨e,he,h⟩;injection h with h1 h2;exact⟨e,he,h1,h2⟩
 .rintro ⟨e,he,h1,h2⟩;exact⟨e,he,by rw[h1,h2]⟩
def qN(t:Γ)(i:Int):Prop:=∃n,n∈t.η/\∃e,e∈n.ψ/\e.κ=i
def MS(A:Int->SE->SE)(U:Int->Int->Int->Int)(i:Int)(m n:τ):Prop:=m.θ=n.θ/\m.a_=n.a_/\m.aK=n.aK/\m.Up=U i n.θ n.Up/\sE m.ψ=A i (sE n.ψ)
structure Rl(A:Int->SE->SE)(U:Int->Int->Int->Int)(t g:Γ):Prop where
 to:∀i n,gN t.η i=V n->n.θ=2\/qN t i->∃m,gN g.η i=V m/\MS A U i m n
 fr:∀i m,gN g.η i=V m->∃n,gN t.η i=V n/\MS A U i m n
 nm:∀i,qN t i->qN g i
abbrev dD:=Rl (λ_ L=>L) λ_ _ u=>u
section
variable{B:Nat}{t g h:Γ}{A A':Int->SE->SE}{U U':Int->Int->Int->Int}
def Rl.comp(h1:Rl A U t g)(h2:Rl A' U' g h):Rl (λi L=>A' i (A i L)) (λi k u=>U' i k (U i k u)) t h:=by
 refine⟨λi n hn hk=>?_,λi m hm=>?_,λi hi=>h2.nm i (h1.nm i hi)⟩
 .obtain⟨m,m1,m2,m3,m4,m5,m6⟩:=h1.to i n hn hk;obtain⟨q,q1,q2,q3,q4,q5,q6⟩:=h2.to i m m1 (hk.elim (λe=>.inl (m2.trans e)) λe=>.inr (h1.nm i e));exact⟨q,q1,q2.trans m2,q3.trans m3,q4.trans m4,by rw[q5,m5,m2],by rw[q6,m6]⟩
 .obtain⟨q,q1,q2,q3,q4,q5,q6⟩:=h2.fr i m hm;obtain⟨n,n1,n2,n3,n4,n5,n6⟩:=h1.fr i q q1;exact⟨n,n1,q2.trans n2,q3.trans n3,q4.trans n4,by rw[q5,n5,n2],by rw[q6,n6]⟩
def Rl.eq(h1:Rl A U t g)(h2:∀i n,gN t.η i=V n->A' i (sE n.ψ)=A i (sE n.ψ)/\U' i n.θ n.Up=U i n.θ n.Up):Rl A' U' t g:=by
 refine⟨λi n hn hk=>?_,λi m hm=>?_,h1.nm⟩
 .obtain⟨m,m1,m2,m3,m4,m5,m6⟩:=h1.to i n hn hk;exact⟨m,m1,m2,m3,m4,by rw[(h2 i n hn).2,m5],by rw[(h2 i n hn).1,m6]⟩
 .obtain⟨n,m1,m2,m3,m4,m5,m6⟩:=h1.fr i m hm;exact⟨n,m1,m2,m3,m4,by rw[(h2 i n m1).2,m5],by rw[(h2 i n m1).1,m6]⟩
def dD.rfl(t:Γ):dD t t:=⟨λi n hn _=>⟨n,hn,.refl _,.refl _,.refl _,.refl _,.refl _⟩,λi m hm=>⟨m,hm,.refl _,.refl _,.refl _,.refl _,.refl _⟩,λi h=>h⟩
def dD.B9(hs:dD t g){i:Int}{n:τ}(h1:gN t.η i=V n)(h2:n.θ=2\/qN t i):∃m,gN g.η i=V m/\m.θ=n.θ/\m.a_=n.a_/\m.aK=n.aK/\m.Up=n.Up/\sE m.ψ=sE n.ψ:=hs.to i n h1 h2
def dD.Ar(hs:dD t g){i:Int}{m:τ}(h1:gN g.η i=V m):∃n,gN t.η i=V n/\m.θ=n.θ/\m.a_=n.a_/\m.aK=n.aK/\m.Up=n.Up/\sE m.ψ=sE n.ψ:=hs.fr i m h1
def qN.di{i:Int}(h:qN t i):0<di t.η i:=Ag.2 h
def dD.free(h:RT t)(j:Int):dD t (mV t j).1:=by
 unfold mV;split
 .exact dD.rfl t
 split
 .exact dD.rfl t
 split
 .exact dD.rfl t
 next h1 h2 h3 =>
 obtain⟨x,hx⟩:=kv.1 (show(gN t.η j).isSome=true by rw[lC,<-rJ,Decidable.not_not]at h1;exact h1);rw[eE hx]at h2 h3;have hg:=bz hx
 have hk:x.θ≠2:=by simpa using h2
 have hl:=h.aer hg.1
 have hc:di t.η j=0:=by rw[hg.2]at hl;simp at h3;omega
 have bu:∀i n,gN t.η i=V n->n.θ=2\/qN t i->i≠j:=λi n hn bG e=>by
  subst e;rw[hx]at hn;cases hn
  rcases bG with e|e
  .exact hk e
  .have:=e.di;omega
 refine⟨λi n hn bG=>⟨n,by rw[vw,if_neg (bu i n hn bG)];exact hn,.refl _,.refl _,.refl _,.refl _,.refl _⟩,λi m hm=>?_,λi hi=>?_⟩
 .dsimp only at hm;rw[vw]at hm;split at hm
  .cases hm
  .exact⟨m,hm,.refl _,.refl _,.refl _,.refl _,.refl _⟩
 .obtain⟨n,hn,e,he,oM⟩:=hi
  have aI:n.κ≠j:=λe'=>hk (by
   have:=B0 h.s hn hg.1 (e'.trans hg.2.symm)
   rw[<-this];exact h.Bd hn he)
  exact⟨n,dK.2 ⟨hn,by simpa using aI⟩,e,he,oM⟩
def dD.vv(l:List bg):∀(o:List Int){t:Γ},RT t->dD t (o.foldl (mT l) t)
 |[],t,_=>dD.rfl t
 |i::o,t,h=>by
  rw[RN];by_cases hh:HL l i=true
  .have:mT l t i=t:=by unfold mT;rw[if_pos hh]
   rw[this];exact dD.vv l o h
  .have:mT l t i=(mV t i).1:=by unfold mT;rw[if_neg hh]
   rw[this];exact(dD.free h i).comp (dD.vv l o (h.free i))
def PO.root{q:List (List UInt8)}(h:RT t)(hq:q=[]):∃r,PO t q r/\r.κ=1:=by
 obtain⟨r,hr,-⟩:=h.rt;have:=bz hr;subst hq;exact⟨r,⟨λs hs=>(by cases hs),by rw[this.2];rfl,by rw[this.2];exact hr⟩,this.2⟩
def PO.nil{n:τ}(h:PO t [] n):n.κ=1:=by have:=h.2.1;injection this with this _;exact this.symm
def dD.po(hh:RT h)(hs:dD t h)(q:List (List UInt8)):∀{n:τ},PO t q n->∃m,PO h q m/\m.κ=n.κ:=by
 induction q using BY with
 |h0 =>
  intro n hn;obtain⟨r,h1,h2⟩:=PO.root hh (.refl []);exact⟨r,h1,h2.trans hn.nil.symm⟩
 |h1 q s ih =>
  intro n hn;obtain⟨p,e,g1,g2,g3,g4,g5⟩:=hn.inv;obtain⟨p',k1,k2⟩:=ih g1;obtain⟨m,m1,m2,m3,m4,m5,m6⟩:=hs.B9 g1.2.2 (.inl g2)
  have:m=p':=by have:=k1.2.2;rw[k2,m1]at this;exact iP this
  subst this
  have hm:(s,n.κ)∈sE m.ψ:=by rw[m6];exact jY.2 ⟨e,g3,g4,g5⟩
  obtain⟨e',a1,a2,a3⟩:=jY.1 hm;obtain⟨x,x1,x2⟩:=k1.step hh a1;rw[a2]at x1;exact⟨x,x1,x2.trans a3⟩
def dD.op(ht:RT t)(hs:dD t h)(q:List (List UInt8)):∀{m:τ},PO h q m->∃n,PO t q n/\m.κ=n.κ:=by
 induction q using BY with
 |h0 =>
  intro n hn;obtain⟨r,h1,h2⟩:=PO.root ht (.refl []);exact⟨r,h1,hn.nil.trans h2.symm⟩
 |h1 q s ih =>
  intro n hn;obtain⟨p,e,g1,g2,g3,g4,g5⟩:=hn.inv;obtain⟨p',k1,k2⟩:=ih g1;obtain⟨m,m1,m2,m3,m4,m5,m6⟩:=hs.Ar g1.2.2
  have:m=p':=by have:=k1.2.2;rw[<-k2,m1]at this;exact iP this
  subst this
  have hm:(s,n.κ)∈sE m.ψ:=by rw[<-m6];exact jY.2 ⟨e,g3,g4,g5⟩
  obtain⟨e',a1,a2,a3⟩:=jY.1 hm;obtain⟨x,x1,x2⟩:=k1.step ht a1;rw[a2]at x1;exact⟨x,x1,(x2.trans a3).symm⟩
def dD.rch(ht:RT t)(hs:dD t h){i j:Int}(hr:lI (gN t.η) i j):lI (gN h.η) i j:=by
 induction hr with
 |refl=>exact .refl
 |@step j n e _ h2 h3 ih =>
  obtain⟨m,m1,m2,m3,m4,m5,m6⟩:=hs.B9 h2 (.inl (ht.Bd (bz h2).1 h3))
  have hm:(e.aC,e.κ)∈sE m.ψ:=by rw[m6];exact jY.2 ⟨e,h3,.refl _,.refl _⟩
  obtain⟨e',a1,a2,a3⟩:=jY.1 hm;rw[<-a3];exact .step ih m1 a1
def dD.hcr(hs:dD t h){i j:Int}(hr:lI (gN h.η) i j):lI (gN t.η) i j:=by
 induction hr with
 |refl=>exact .refl
 |@step j n e _ h2 h3 ih =>
  obtain⟨m,m1,m2,m3,m4,m5,m6⟩:=hs.Ar h2
  have hm:(e.aC,e.κ)∈sE m.ψ:=by rw[<-m6];exact jY.2 ⟨e,h3,.refl _,.refl _⟩
  obtain⟨e',a1,a2,a3⟩:=jY.1 hm;rw[<-a3];exact .step ih m1 a1
def dD.dom(hs:dD t h){Q Q':List aJ}(hQ:∀i n,gN t.η i=V n->n.θ=2->mc Q' i=mc Q i){r:τ}(h1:gN t.η 1=V r)(hr:r.θ=2){i:Int}{d:Nat}(hd:Deep t.η i d):∀f,im h.η Q' f i=im t.η Q f i:=by
 induction hd with
 |root =>
  intro f;cases f with
  |zero=>rfl
  |succ f=>rw[im,im,hQ 1 r h1 hr];simp
 |@step i n d g1 g2 g3 g4 ih =>
  intro f;cases f with
  |zero=>rfl
  |succ f =>
   obtain⟨m,m1,m2,m3,m4,m5,m6⟩:=hs.B9 g2 (.inl g3);rw[im,im,hQ i n g2 g3,eE m1,eE g2,m5,ih f]
def C6{q:List aJ}{j x:Int}:(j,x)∈tJ t q↔∃d,d∈t.η/\∃e,e∈d.ψ/\e.κ=j/\gY t.η q d.κ=x:=by
 unfold tJ;rw[KP];constructor
 .rintro ⟨d,hd,h⟩;obtain⟨e,he,h⟩:=cL.1 h;injection h with h1 h2;exact⟨d,hd,e,he,h1,h2⟩
 .rintro ⟨d,hd,e,he,h1,h2⟩;exact⟨d,hd,cL.2 ⟨e,he,by rw[h1,h2]⟩⟩
def dD.one(ht:RT t)(hh:RT h)(hs:dD t h){Q Q':List aJ}(hQ:∀i n,gN t.η i=V n->n.θ=2->mc Q' i=mc Q i)(ho:xm t Q):xm h Q':=by
 obtain⟨r,h1,hr⟩:=ht.rt
 have key:∀j x,(j,x)∈tJ h Q'->(j,x)∈tJ t Q/\(gD t.η j).θ=(gD h.η j).θ:=λj x hm=>by
  obtain⟨d,hd,e,he,e1,e2⟩:=C6.1 hm;obtain⟨n,n1,n2,n3,n4,n5,n6⟩:=hs.Ar (pD hh.s hd);have hn:=bz n1
  have sB:(e.aC,e.κ)∈sE n.ψ:=by rw[<-n6];exact jY.2 ⟨e,he,.refl _,.refl _⟩
  obtain⟨e',a1,a2,a3⟩:=jY.1 sB;obtain⟨dd,jO,-⟩:=ht.dp n hn.1 (ht.Bd hn.1 a1);rw[hn.2]at jO;refine⟨C6.2 ⟨n,hn.1,e',a1,a3.trans e1,?_⟩,?_⟩
  .rw[hn.2,<-e2];exact(hs.dom hQ h1 hr jO 201).symm
  .obtain⟨m,hm⟩:=kv.1 (hh.cl d hd e he);rw[e1]at hm;obtain⟨p,p1,p2,-⟩:=hs.Ar hm;rw[eE hm,eE p1,p2]
 intro j x y hx hy hk;obtain⟨k1,k2⟩:=key j x hx;exact ho j x y k1 (key j y hy).1 (k2.trans hk)
def dD.dl(ht:RT t)(hs:dD t h){i:Int}(hi:(gD t.η i).θ=2\/qN t i):dl h i=dl t i:=by
 have:∃n,gN t.η i=V n:=by
  rcases hi with hi|⟨n,hn,e,he,rfl⟩
  .rcases qR t.η i with⟨n,g1,-⟩|⟨-,g2⟩
   .exact⟨n,g1⟩
   .rw[g2]at hi;exact absurd hi (by decide)
  .exact kv.1 (ht.cl n hn e he)
 obtain⟨n,hn⟩:=this;rw[eE hn]at hi;obtain⟨m,m1,m2,m3,m4,m5,m6⟩:=hs.B9 hn hi;unfold Go.Proofs.dl;rw[eE hn,eE m1,m4]
def W_{E:List aH}{i j:Int}{n:τ}(hi:gN t.η i=V n)(hE:E=n.ψ){e:aH}(he:e∈E)(hr:lI (gN t.η) e.κ j):qN t j:=by
 cases hr with
 |refl=>exact⟨n,(bz hi).1,e,hE▸he,.refl _⟩
 |step _ h2 h3=>exact⟨_,(bz h2).1,_,h3,.refl _⟩
def dD.used(ht:RT t)(hs:dD t h){i:Int}{r:Int×Int}(hk:(gD t.η i).θ=2)(hu:nF t i r):nF h i r:=by
 have⟨n,g1,g2⟩:∃n,gN t.η i=V n/\gD t.η i=n:=by
  rcases qR t.η i with h|⟨-,g2⟩
  .exact h
  .rw[g2]at hk;exact absurd hk (by decide)
 have jQ:n.θ=2:=by rw[<-g2];exact hk
 obtain⟨m,m1,m2,m3,m4,m5,m6⟩:=hs.B9 g1 (.inl jQ);unfold nF at hu ⊢;rw[if_pos hk]at hu;rw[eE m1,if_pos (m2.trans jQ)];rw[g2]at hu;obtain⟨M,M1,M2,M3⟩:=hu
 have dQ:∀p,p∈M->qN t p.1:=λp hp=>by
  obtain⟨e,he,hr⟩:=(M3 p.1).1 (vU.2 ⟨p,hp,.refl _⟩);exact W_ g1 (.refl _) he hr
 have adI:jK h M=jK t M:=by
  unfold jK;exact congrArg List.sum (List.map_congr_left λp hp=>hs.dl ht (.inr (dQ p hp)))
 refine⟨M,M1,by rw[adI,hs.dl ht (.inl hk)];exact M2,λj=>(M3 j).trans ⟨?_,?_⟩⟩
 .rintro ⟨e,he,hr⟩
  have hm:(e.aC,e.κ)∈sE m.ψ:=by rw[m6];exact jY.2 ⟨e,he,.refl _,.refl _⟩
  obtain⟨e',a1,a2,a3⟩:=jY.1 hm;exact⟨e',a1,by rw[a3];exact hs.rch ht hr⟩
 .rintro ⟨e,he,hr⟩
  have hm:(e.aC,e.κ)∈sE n.ψ:=by rw[<-m6];exact jY.2 ⟨e,he,.refl _,.refl _⟩
  obtain⟨e',a1,a2,a3⟩:=jY.1 hm;exact⟨e',a1,by rw[a3];exact hs.hcr hr⟩
def ahw{f:Int->Nat}{l r:List Int}(h:l.Perm r):(l.map f).sum=(r.map f).sum:=by
 induction h with
 |nil=>exact .refl _
 |cons x _ ih=>simp only[fT,pc,ih]
 |swap x y l=>simp only[fT,pc];omega
 |trans _ _ h1 h2=>rw[h1,h2]
def ahO{i:Int}{r r':Int×Int}(h1:nF t i r)(h2:nF t i r'):r=r':=by
 unfold nF at h1 h2;split at h1
 .next hk =>
  rw[if_pos hk]at h2;obtain⟨M,M1,M2,M3⟩:=h1;obtain⟨N,N1,N2,N3⟩:=h2;have hp:=aeq M1 N1 λj=>(M3 j).trans (N3 j).symm;have hl:=hp.length_eq;have DZ:=ahw (f:=λj=>Go.Proofs.dl t j) hp;rw[au,au]at hl;rw[w9,w9]at DZ;rw[M2,N2,hl];have:jK t M=jK t N:=DZ;rw[this]
 .next hk =>
  rw[if_neg hk]at h2;rw[h1,h2]
def Fits(t:Γ)(q:aJ):Prop:=∃r,nF t q.κ r/\r.1<=q.η/\r.2<=q.uO
def Fits.over(h:UT t){q:aJ}(hf:Fits t q):pT t q=false:=by
 obtain⟨r,r1,r2,r3⟩:=hf;have:=ahO (OH h q.κ).2 r1;unfold pT;rw[this];simp[r2,r3]
end
end
section
def oS(p:List UInt8×Int):SE->SE
 |[]=>[p]
 |x::r=>if(!(eB x.1 p.1||x.1==p.1))=true then p::x::r else x::oS p r
def ji(s:List UInt8)(L:SE):SE:=L.filter λe=>!(e.1==s)
def X_(e:aH):∀l,sE (js e l)=oS (e.aC,e.κ) (sE l)
 |[]=>rfl
 |x::r=>by
  have e1:sE (x::r)=(x.aC,x.κ)::sE r:=rfl;rw[yC,e1,oS];by_cases h:(!(eB x.aC e.aC||x.aC==e.aC))=true
  .rw[if_pos h,if_pos h];rfl
  .rw[if_neg h,if_neg h,<-X_ e r];rfl
def PH(s:List UInt8)(l:List aH):sE (l.filter λe=>!(e.aC==s))=ji s (sE l):=by
 unfold sE ji;rw[List.filter_map];rfl
def Bc{p x:List UInt8×Int}:∀{L:SE},x∈oS p L↔x=p\/x∈L
 |[]=>by simp[oS]
 |y::r=>by
  rw[oS];by_cases h:(!(eB y.1 p.1||y.1==p.1))=true
  .rw[if_pos h];simp
  .rw[if_neg h,bp,bp,Bc];constructor
   .rintro (h|h|h)
    .exact .inr (.inl h)
    .exact .inl h
    .exact .inr (.inr h)
   .rintro (h|h|h)
    .exact .inr (.inl h)
    .exact .inl h
    .exact .inr (.inr h)
def CY{s:List UInt8}{x:List UInt8×Int}{L:SE}:x∈ji s L↔x∈L/\x.1≠s:=by
 unfold ji;rw[dK];simp
def LB{s:List UInt8}{i:Int}:∀{L:SE},(∀e,e∈L->e.1≠s)->ji s (oS (s,i) L)=L
 |[],_=>by simp[oS,ji]
 |x::r,h=>by
  have hx:=h x (by simp)
  have hr:ji s r=r:=by
   unfold ji;rw[ot];intro e he;simpa using h e (cw _ he)
  have ih:=LB (i:=i) (L:=r) λe he=>h e (cw _ he);rw[oS];by_cases hc:(!(eB x.1 s||x.1==s))=true
  .rw[if_pos hc];unfold ji at hr ⊢;rw[eL,if_neg (by simp),eL,if_pos (by simpa using hx),hr]
  .rw[if_neg hc];unfold ji at ih ⊢;rw[eL,if_pos (by simpa using hx),ih]
def VB{s:List UInt8}{i:Int}:∀{L:SE},L.Pairwise (λa b=>eB a.1 b.1=true)->(s,i)∈L->oS (s,i) (ji s L)=L
 |[],_,h=>by cases h
 |x::r,hs,h=>by
  obtain⟨h1,h2⟩:=e9.1 hs
  rcases bp.1 h with e|h'
  .subst e
   have hr:ji s r=r:=by
    unfold ji;rw[ot];intro e he;have:=h1 e he
    have aI:e.1≠s:=λe2=>by rw[e2,rV]at this;cases this
    simpa using aI
   have e1:ji s ((s,i)::r)=r:=by
    unfold ji at hr ⊢;rw[eL,if_neg (by simp),hr]
   rw[e1];cases r with
   |nil=>rfl
   |cons y r =>
    have hy:=h1 y (by simp)
    have hb:eB y.1 s=false:=by
     cases hc:eB y.1 s with
     |false=>rfl
     |true=>have:=GX hc hy;rw[rV]at this;cases this
    have aI:(y.1==s)=false:=by
     rw[beq_eq_false_iff_ne];intro e2;rw[e2,rV]at hy;cases hy
    rw[oS,if_pos (by rw[hb,aI];rfl)]
  .have hx:=h1 _ h'
   have aI:x.1≠s:=λe2=>by rw[e2,rV]at hx;cases hx
   have e1:ji s (x::r)=x::ji s r:=by
    unfold ji;rw[eL,if_pos (by simpa using aI)]
   rw[e1,oS,if_neg (by rw[hx];simp),VB h2 h']
def agG{c:Int}{l:List aH}(h:tg c l):(sE l).Pairwise (λa b=>eB a.1 b.1=true):=zR.2 h.s
def i_(d1:Int)(s1:List UInt8)(d2:Int)(s2:List UInt8)(x:Int)(i:Int)(L:SE):SE:=if i=d2 then oS (s2,x) (if i=d1 then ji s1 L else L)else if i=d1 then ji s1 L else L
def kj(x d2:Int)(i k u:Int):Int:=if i=x/\k=2 then d2 else u
structure zY(t:Γ)(d1:Int)(s1:List UInt8)(d2:Int)(s2:List UInt8)(x:Int):Prop where
 a:∃mf ef,gN t.η d1=V mf/\mf.θ=2/\mf.ψ.find? (λe=>e.aC==s1)=V ef/\ef.κ=x
 b:∃md,gN t.η d2=V md/\md.θ=2/\∀e,e∈md.ψ->e.aC≠s2
 c:∃xn,gN t.η x=V xn
 n1:dX s1=true
 n2:dX s2=true
 u:¬fU t.η x d2
 f:x≠d1
section
variable{B:Nat}{t g:Γ}{d1 d2 x:Int}{s1 s2:List UInt8}
def fU.ex{l:List τ}{x i:Int}(h:fU l x i):∀{d:Nat},Deep l i d->∃k,Deep l x k:=by
 induction h with
 |refl=>intro d hd;exact⟨d,hd⟩
 |step h1 h2 h3 h4 ih =>
  intro d hd;cases hd with
  |root=>exact absurd rfl h1
  |step g1 g2 g3 g4=>rw[h2]at g2;cases g2;exact ih g4
def SU(h:RT t){i:Int}{k:Nat}{n:τ}(hd:Deep t.η i k)(hn:gN t.η i=V n):n.θ=2:=by
 cases hd with
 |root=>exact W.one h (bz hn).1 (bz hn).2
 |step _ g2 g3 _=>rw[hn]at g2;cases g2;exact g3
def V'(h:RT t)(he:(fO t d1 s1 d2 s2).2.2=0)(hy:bw t d2 s2=0):bJ t d1 s1=((bJ t d1 s1).1,0)/\zY t d1 s1 d2 s2 (bJ t d1 s1).1/\Rl (i_ d1 s1 d2 s2 (bJ t d1 s1).1) (kj (bJ t d1 s1).1 d2) t (fO t d1 s1 d2 s2).1:=by
 unfold fO at he ⊢;rw[hy]at he ⊢;split at he
 .next hc=>rw[he]at hc;simp at hc
 next hL =>
 rw[if_neg hL];split at he
 .next hc=>rw[he]at hc;simp at hc
 next hD =>
 rw[if_neg hD];split at he
 .cases he
 next hR =>
 rw[if_neg hR];obtain⟨mf,ef,a1,a2,a3,a4,a5,a6⟩:=look_ok (mb hL);obtain⟨md,b1,b2,b3,b4⟩:=CZ (mb hD);have hg:=W.get h a1;have lP:=lE a5;obtain⟨xn,hx⟩:=kv.1 (h.cl mf hg.1 ef lP);have ru:=W.get h hx;have Θ:=(h.lo xn ru.1).1;have rf:bJ t d1 s1=(ef.κ,0):=alu a6 (mb hL);rw[a6]at he ⊢;split at he
 .next hc=>simp at hc;omega
 next D8 =>
 rw[if_neg D8];split at he
 .cases he
 next rh =>
 rw[if_neg rh];split at he
 .next hc =>
  have eN:pz t (gD t.η ef.κ) 0=0:=he;rw[eN]at hc;simp at hc
 next cY =>
 rw[if_neg cY];split at he
 .cases he
 next sv =>
 rw[if_neg sv];rw[ru.2.2]at rh;have vS:ef.κ≠d1:=W.IK h a1 a2 lP;obtain⟨dt,t1,t2,t3,t4⟩:=W.deep h b1 b2
 have hu:¬fU t.η ef.κ d2:=λhu=>by
  obtain⟨k,hk⟩:=hu.ex t1;have dz:=SU h hk hx;apply rh;rw[dz,GV hu t1 (by have:=tC t1;omega) |> (show gw t.η d2 ef.κ=true from ·)];rfl
 have sH:ef.κ≠d2:=λe=>hu (e▸.refl)
 have jm:bw t d2 s2=match md.ψ.find? (λe=>e.aC==s2)with|some e=>e.κ|none=>0:=by unfold bw;rw[b3]<;>rfl
 have bu:∀e,e∈md.ψ->e.aC≠s2:=by
  cases eV:md.ψ.find? (λe=>e.aC==s2)with
  |none=>intro e eN;rw[w8]at eV;simpa using eV e eN
  |some ey =>
   rw[eV,hy]at jm;obtain⟨ny,jS⟩:=kv.1 (h.cl md (bz b1).1 ey (lE eV));have:=(h.lo ny (bz jS).1).1;rw[(bz jS).2]at this;dsimp only at jm;omega
 refine⟨rf▸rfl,⟨⟨mf,ef,a1,a2,a5,rfl⟩,⟨md,b1,b2,bu⟩,⟨xn,hx⟩,a4,by simpa using hR,hu,vS⟩,?_⟩
 have e0:fP t ef.κ d1 s1 d2 s2 0=eh t d1 s1:=by unfold fP;rw[if_neg (by simp)]
 rw[e0];generalize hT:gG t (eh t d1 s1) ef.κ d2=T;have gL:=xM a1 s1
 have gT:∀i,gN T.η i=if i=ef.κ/\xn.θ=2 then V ⟨xn.κ,xn.θ,xn.a_,xn.aK,xn.ψ,d2⟩else gN (eh t d1 s1).η i:=λi=>by
  rw[<-hT];unfold gG;rw[ru.2.2];by_cases hk:xn.θ=2
  .rw[if_pos (by simpa using hk)];dsimp only;rw[lO];dsimp only;rw[ru.2.1];by_cases hi:i=ef.κ
   .rw[if_pos hi,if_pos ⟨hi,hk⟩]
   .rw[if_neg hi,if_neg λh=>hi h.1]
  .rw[if_neg (by simpa using hk),if_neg λh=>hk h.2]
 have gT2:∃m2,gN T.η d2=V m2/\m2.κ=d2/\m2.θ=md.θ/\m2.a_=md.a_/\m2.aK=md.aK/\m2.Up=md.Up/\m2.ψ=if d2=d1 then md.ψ.filter (λe=>!(e.aC==s1))else md.ψ:=by
  rw[gT,if_neg λh=>sH h.1.symm,gL];by_cases e:d2=d1
  .rw[if_pos e,if_pos e];rw[e,a1]at b1;cases b1;exact⟨_,rfl,(bz a1).2.trans e.symm,rfl,rfl,rfl,rfl,rfl⟩
  .rw[if_neg e,if_neg e];exact⟨md,b1,(bz b1).2,rfl,rfl,rfl,rfl,rfl⟩
 obtain⟨m2,p1,p2,p3,p4,p5,p6,p7⟩:=gT2
 have gU:∀i,gN (jz T d2 s2 ef.κ).η i=if i=d2 then V (zF m2 (js ⟨s2,ef.κ,T.ai⟩ m2.ψ))else gN T.η i:=λi=>by
  unfold jz;dsimp only;rw[lO,eE p1];show(if i=m2.κ then V (zF m2 (js ⟨s2,ef.κ,T.ai⟩ m2.ψ))else gN T.η i)=_;rw[p2]
 have HB:∀i n,gN t.η i=V n->∃m,gN (jz T d2 s2 ef.κ).η i=V m/\MS (i_ d1 s1 d2 s2 ef.κ) (kj ef.κ d2) i m n:=λi n hn=>by
  rw[gU];by_cases h2:i=d2
  .rw[if_pos h2];rw[h2,b1]at hn;cases hn;refine⟨_,rfl,p3,p4,p5,?_,?_⟩
   .show m2.Up=_;unfold kj;rw[if_neg λh=>sH (h.1.symm.trans h2),p6]
   .show sE (js _ m2.ψ)=_;unfold i_;rw[X_,p7,if_pos h2,h2];by_cases e:d2=d1
    .rw[if_pos e,if_pos e,PH]
    .rw[if_neg e,if_neg e]
  .rw[if_neg h2,gT];by_cases k_:i=ef.κ
   .rw[k_,hx]at hn;cases hn;have aI:¬i=d1:=λe=>vS (k_.symm.trans e);by_cases hk:xn.θ=2
    .rw[if_pos ⟨k_,hk⟩];refine⟨_,rfl,rfl,rfl,rfl,?_,?_⟩
     .unfold kj;rw[if_pos ⟨k_,hk⟩]
     .unfold i_;rw[if_neg h2,if_neg aI]
    .rw[if_neg λh=>hk h.2,gL,if_neg aI,k_];refine⟨_,hx,rfl,rfl,rfl,?_,?_⟩
     .unfold kj;rw[if_neg λh=>hk h.2]
     .unfold i_;rw[<-k_,if_neg h2,if_neg aI]
   .rw[if_neg λh=>k_ h.1,gL];by_cases h1:i=d1
    .rw[if_pos h1];rw[h1,a1]at hn;cases hn;refine⟨_,rfl,rfl,rfl,rfl,?_,?_⟩
     .unfold kj;rw[if_neg λh=>k_ h.1];rfl
     .unfold i_;rw[if_neg h2,if_pos h1];exact PH _ _
    .rw[if_neg h1];refine⟨n,hn,rfl,rfl,rfl,?_,?_⟩
     .unfold kj;rw[if_neg λh=>k_ h.1]
     .unfold i_;rw[if_neg h2,if_neg h1]
 refine⟨λi n hn _=>HB i n hn,λi m hm=>?_,λi hi=>?_⟩
 .cases hn:gN t.η i with
  |some n =>
   obtain⟨m',k1,k2⟩:=HB i n hn;rw[hm]at k1;cases k1;exact⟨n,rfl,k2⟩
  |none =>
   rw[gU,if_neg (λe=>by rw[e,b1]at hn;cases hn),gT,if_neg (λe=>by rw[e.1,hx]at hn;cases hn),gL,if_neg (λe=>by rw[e,a1]at hn;cases hn),hn]at hm;cases hm
 .obtain⟨n,hn,e,Uq,oM⟩:=hi;have gP:=pD h.s hn;obtain⟨m,k1,k2,k3,k4,k5,k6⟩:=HB _ _ gP;obtain⟨m',q1,q2,q3,q4,q5,q6⟩:=HB _ _ b1
  have UR:∀{i:Int}{m:τ},gN (jz T d2 s2 ef.κ).η i=V m->∀(s:List UInt8)(j:Int),(s,j)∈sE m.ψ->qN (jz T d2 s2 ef.κ) j:=λhm s j bn=>by
   obtain⟨e,e1,e2,e3⟩:=jY.1 bn;exact⟨_,(bz hm).1,e,e1,e3⟩
  by_cases fN:e.κ=ef.κ
  .refine UR q1 s2 _ ?_;rw[q6,<-oM,fN];unfold i_;rw[if_pos rfl];exact Bc.2 (.inl rfl)
  .refine UR k1 e.aC _ ?_;rw[k6,<-oM];have bn:(e.aC,e.κ)∈sE n.ψ:=jY.2 ⟨e,Uq,rfl,rfl⟩
   have hd:n.κ=d1->(e.aC,e.κ)∈ji s1 (sE n.ψ):=λe1=>CY.2 ⟨bn,λe2=>fN (by
    rw[e1,a1]at gP;cases gP;have:=L1 (h.en _ hn) Uq;have e2:e.aC=s1:=e2
    rw[e2,a5]at this;cases this;rfl)⟩
   unfold i_;by_cases h2:n.κ=d2
   .rw[if_pos h2];refine Bc.2 (.inr ?_);by_cases h1:n.κ=d1
    .rw[if_pos h1];exact hd h1
    .rw[if_neg h1];exact bn
   .rw[if_neg h2];by_cases h1:n.κ=d1
    .rw[if_pos h1];exact hd h1
    .rw[if_neg h1];exact bn
end
end
section
section
variable{B:Nat}{t g:Γ}{d1 d2 x:Int}{s1 s2:List UInt8}
def zY.YW(h:RT t)(F:zY t d1 s1 d2 s2 x):¬fU t.η x d1:=by
 obtain⟨mf,ef,a1,a2,a3,a4⟩:=F.a;obtain⟨xn,hx⟩:=F.c;intro hu;obtain⟨k1,ek,-⟩:=W.deep h a1 a2;obtain⟨k,hk⟩:=hu.ex ek;have dz:=SU h hk hx;have ru:=bz hx;have qq:=W.parent h (bz a1).1 (lE a3) (q:=xn) (by rw[a4];exact hx) dz;have Θ:x≠1:=λe=>W.we h (bz a1).1 (lE a3) (a4.trans e);rw[(bz a1).2]at qq;have hd:Deep t.η x (k1+1):=.step Θ hx dz (by rw[qq];exact ek);have:=hu.deep hd ek;omega
def Zu(h:RT t)(hg:RT g)(F:zY t d1 s1 d2 s2 x)(R:Rl (i_ d1 s1 d2 s2 x) (kj x d2) t g)(q:List (List UInt8)):∀{n:τ},n.θ=2->PO t q n->¬fU t.η x n.κ->∃m,PO g q m/\m.κ=n.κ:=by
 induction q using BY with
 |h0 =>
  intro n _ hn _;obtain⟨r,h1,h2⟩:=PO.root hg (.refl []);exact⟨r,h1,h2.trans hn.nil.symm⟩
 |h1 q s ih =>
  intro n hk hn hu;obtain⟨p,e,g1,g2,g3,g4,g5⟩:=hn.inv;have qq:=W.parent h g1.mem g3 (q:=n) (by rw[g5];exact hn.2.2) hk;have lT:n.κ≠1:=λe1=>W.we h g1.mem g3 (g5.trans e1);obtain⟨p',k1,k2⟩:=ih g2 g1 λhc=>hu (.step lT hn.2.2 hk (by rw[qq];exact hc));obtain⟨m,m1,m2,m3,m4,m5,m6⟩:=R.to _ _ g1.2.2 (.inl g2)
  have:m=p':=by have:=k1.2.2;rw[k2,m1]at this;exact iP this
  subst this;have aI:e.κ≠x:=λe1=>hu (by rw[<-g5,e1];exact .refl);have lS:(s,n.κ)∈sE p.ψ:=jY.2 ⟨e,g3,g4,g5⟩
  have hd:p.κ=d1->(s,n.κ)∈ji s1 (sE p.ψ):=λe1=>CY.2 ⟨lS,λe2=>aI (by
   obtain⟨mf,ef,a1,a2,a3,a4⟩:=F.a;have hp:=g1.2.2;rw[e1,a1]at hp;cases hp;have:=L1 (h.en _ g1.mem) g3;have e2:s=s1:=e2
   rw[g4,e2,a3]at this;cases this;exact a4)⟩
  have hm:(s,n.κ)∈sE m.ψ:=by
   rw[m6];unfold i_;by_cases h2:p.κ=d2
   .rw[if_pos h2];refine Bc.2 (.inr ?_);by_cases h1:p.κ=d1
    .rw[if_pos h1];exact hd h1
    .rw[if_neg h1];exact lS
   .rw[if_neg h2];by_cases h1:p.κ=d1
    .rw[if_pos h1];exact hd h1
    .rw[if_neg h1];exact lS
  obtain⟨e',a1,a2,a3⟩:=jY.1 hm;obtain⟨y,y1,y2⟩:=k1.step hg a1;rw[a2]at y1;exact⟨y,y1,y2.trans a3⟩
def aa8(R:Rl (i_ d1 s1 d2 s2 x) (kj x d2) t g){i:Int}{k:Nat}(hd:Deep t.η i k):¬fU t.η x i->Deep g.η i k:=by
 induction hd with
 |root=>intro _;exact .root
 |@step i n k h1 h2 h3 h4 ih =>
  intro hu;obtain⟨m,m1,m2,m3,m4,m5,m6⟩:=R.to _ _ h2 (.inl h3)
  have e:m.Up=n.Up:=by
   rw[m5];unfold kj;rw[if_neg λ(h:i=x/\n.θ=2)=>hu (h.1▸.refl)]
  exact .step h1 m1 (m2.trans h3) (by rw[e];exact ih λhc=>hu (.step h1 h2 h3 hc))
def YY(R:Rl (i_ d1 s1 d2 s2 x) (kj x d2) t g){i:Int}(hu:fU g.η x i):fU t.η x i:=by
 induction hu with
 |refl=>exact .refl
 |@step i m h1 h2 h3 h4 ih =>
  by_cases e:i=x
  .rw[e];exact .refl
  .obtain⟨n,n1,n2,n3,n4,n5,n6⟩:=R.fr _ _ h2
   have e1:m.Up=n.Up:=by rw[n5];unfold kj;rw[if_neg λh=>e h.1]
   exact .step h1 n1 (n2.symm.trans h3) (by rw[<-e1];exact ih)
def abc(R:Rl (i_ d1 s1 d2 s2 x) (kj x d2) t g){kx gx:Nat}(hx:Deep t.η x kx)(sw:Deep g.η x gx){i:Int}(hu:fU t.η x i):∀{k:Nat},Deep t.η i k->kx<=k/\Deep g.η i (gx+(k-kx)):=by
 induction hu with
 |refl=>intro k hk;have:=hx.uniq hk;subst this;rw[Nat.sub_self];exact⟨bm _,sw⟩
 |@step i n h1 h2 h3 h4 ih =>
  intro k hk;by_cases e:i=x
  .subst e;have:=hx.uniq hk;subst this;rw[Nat.sub_self];exact⟨bm _,sw⟩
  .cases hk with
   |root=>exact absurd rfl h1
   |@step _ n' k' g1 g2 g3 g4 =>
    rw[h2]at g2;cases g2;obtain⟨b1,b2⟩:=ih g4;obtain⟨m,m1,m2,m3,m4,m5,m6⟩:=R.to _ _ h2 (.inl h3)
    have e1:m.Up=n.Up:=by rw[m5];unfold kj;rw[if_neg λh=>e h.1]
    refine⟨by omega,?_⟩
    have:gx+(k'+1-kx)=gx+(k'-kx)+1:=by omega
    rw[this];exact .step h1 m1 (m2.trans h3) (by rw[e1];exact b2)
def aeO(h:RT t)(hg:RT g)(hf:TF B g)(hB:B<=90000)(F:zY t d1 s1 d2 s2 x)(R:Rl (i_ d1 s1 d2 s2 x) (kj x d2) t g):
  bJ g d2 s2=(x,0)/\bw g d1 s1=0/\(fO g d2 s2 d1 s1).2.2=0:=by
 obtain⟨mf,ef,a1,a2,a3,a4⟩:=F.a;obtain⟨md,b1,b2,b3⟩:=F.b;obtain⟨xn,hx⟩:=F.c;have NI:=F.YW h;have tV:=lE a3
 have MO:ef.aC=s1:=by simpa using RM a3
 obtain⟨m1,p1,p2,p3,p4,p5,p6⟩:=R.to _ _ a1 (.inl a2);obtain⟨m2,q1,q2,q3,q4,q5,q6⟩:=R.to _ _ b1 (.inl b2);have akO:x≠d2:=λe=>F.u (e▸.refl);have Θ:x≠1:=λe=>W.we h (bz a1).1 tV (a4.trans e)
 have hxp:1<=x:=by have:=(h.lo xn (bz hx).1).1;rw[(bz hx).2]at this;exact this
 have hl:bJ g d2 s2=(x,0):=by
  have hm:(s2,x)∈sE m2.ψ:=by
   rw[q6];unfold i_;rw[if_pos rfl];exact Bc.2 (.inl rfl)
  obtain⟨e,e1,e2,e3⟩:=jY.1 hm;have hq:=bz q1;have:=hg.look (n:=m2) (by rw[hq.2];exact q1) (q2.trans b2) e1;rw[hq.2,e2,e3]at this;exact this
 have bu:∀e,e∈m1.ψ->e.aC≠s1:=λe he e1=>by
  have hm:(s1,e.κ)∈sE m1.ψ:=jY.2 ⟨e,he,e1,rfl⟩;rw[p6]at hm;unfold i_ at hm;rw[if_pos rfl]at hm;by_cases hd:d1=d2
  .rw[if_pos hd]at hm
   rcases Bc.1 hm with e2|e2
   .injection e2 with e2 _;rw[hd,b1]at a1;cases a1;exact b3 ef tV (MO.trans e2)
   .exact(CY.1 e2).2 rfl
  .rw[if_neg hd]at hm;exact(CY.1 hm).2 rfl
 have xU:dj g.η d1=(m1,0):=by
  unfold dj;rw[eE p1,p1];simp[p2,a2]
 have hy:bw g d1 s1=0:=by
  unfold bw;rw[xU]
  have:m1.ψ.find? (λe=>e.aC==s1)=none:=by
   rw[w8];intro e he;simpa using bu e he
  rw[this]
 refine⟨hl,hy,?_⟩;obtain⟨k1,ek,akx,ac7,-⟩:=W.deep h a1 a2
 have aky:k1<12:=by
  rcases fa k1 12 with h'|h'
  .exact h'
  .have:=ac7 (by omega);rw[this]at tV;cases tV
 have Ut:=aa8 R ek NI;have acQ:eG g.η 201 d1=k1:=G8 Ut (by omega)
 obtain⟨xg,ru⟩:∃xg,gN g.η x=V xg/\xg.θ=xn.θ:=by
  obtain⟨m,m1,m2,-⟩:=R.to _ _ hx (.inr ⟨mf,(bz a1).1,ef,tV,a4⟩);exact⟨m,m1,m2⟩
 have sD:¬fU g.η x d1:=λhc=>NI (YY R hc)
 have sv:wa g x d2 d1 0=false:=by
  unfold wa;rw[xU,acQ,eE ru.1]
  have c1:(((0:Int)==0&&d1 != d2)&&decide ((m1.ψ.length:Int)>=64))=false:=by
   by_cases hd:d1=d2
   .simp[hd]
   .have:m1.ψ.length<64:=by
     have hs:(sE m1.ψ).length=(ji s1 (sE mf.ψ)).length:=by
      rw[p6];unfold i_;rw[if_neg hd,if_pos rfl]
     have e1:(sE m1.ψ).length=m1.ψ.length:=au ..;rw[<-PH,e1]at hs;have e2:(sE (mf.ψ.filter λe=>!(e.aC==s1))).length=(mf.ψ.filter λe=>!(e.aC==s1)).length:=au ..;have:=L7 a3;have:=(h.en mf (bz a1).1).n;omega
    have:¬((m1.ψ.length:Int)>=64):=by omega
    simp[this]
  have c2:decide ((k1:Int)>=12)=false:=by rw[decide_eq_false_iff_not];omega
  have c3:(xg.θ==2&&decide (oN g.η x ((k1:Int)+1)>12))=false:=by
   by_cases hk:xg.θ=2
   .have jQ:xn.θ=2:=ru.2.symm.trans hk;rw[Uy];have qq:=W.parent h (bz a1).1 tV (q:=xn) (by rw[a4];exact hx) jQ;rw[(bz a1).2]at qq;have hdx:Deep t.η x (k1+1):=.step Θ hx jQ (by rw[qq];exact ek);obtain⟨gx,sw,akw,-,acS⟩:=W.deep hg ru.1 hk
    have:g.η.any (qf g.η x ((k1:Int)+1))=false:=by
     rw[qG];intro m hm hb;unfold qf at hb;simp only[bR,decide_eq_true_eq,beq_iff_eq]at hb;obtain⟨⟨qm,M_⟩,vL⟩:=hb;have UP:=pD hg.s hm;obtain⟨km,ua,akz,-,acR⟩:=W.deep hg UP qm;have hum:=(CQ ua).1 M_;have NL:=YY R hum;obtain⟨n,n1,n2,n3,n4,n5,n6⟩:=R.fr _ _ UP;have hnk:n.θ=2:=n2.symm.trans qm;obtain⟨k,bG,dz,mh,-⟩:=W.deep h n1 hnk;obtain⟨c1,c2⟩:=abc R hdx sw NL bG;have akA:=ua.uniq c2;have adl:m.κ≠d1:=λe=>NI (e▸NL);have adm:m.κ≠d2:=λe=>F.u (e▸NL)
     have hE:m.ψ.length=n.ψ.length:=by
      unfold i_ at n6;rw[if_neg adm,if_neg adl]at n6;have:=congrArg RS n6;unfold sE at this;rw[au,au]at this;exact this
     rw[acR,acS]at vL;rw[hE]at vL
     have:k=12->n.ψ.length=0:=λe=>by rw[mh e];rfl
     split at vL
     .next pO=>simp at pO;omega
     .omega
    rw[this];simp
   .have:(xg.θ==2)=false:=by simpa using hk
    rw[this];rfl
  have c4:decide (g.ai>=1099511627776)=false:=by have:=hf.c;rw[decide_eq_false_iff_not];omega
  rw[c1,c2,c3,c4];rfl
 have cY:pz g (gD g.η x) 0=0:=by
  unfold pz
  have h0:gN g.η 0=none:=xN.2 λn hn=>by have:=(hg.lo n hn).1;omega
  rw[h0];rfl
 have vC:((gD g.η x).θ==2&&gw g.η d1 x)=false:=by
  have:gw g.η d1 x=false:=by
   rw[<-rJ,CQ Ut];exact sD
  rw[this];simp
 unfold fO;rw[hl,xU,hy];dsimp only;rw[if_neg (by simp),if_neg (by simp),if_neg (by rw[F.n1];simp),if_neg (by simp;omega),vC,if_neg (by simp),cY,if_neg (by simp),sv,if_neg (by simp)]
def aeQ(h:RT t)(F:zY t d1 s1 d2 s2 x)(R:Rl (i_ d1 s1 d2 s2 x) (kj x d2) t g){u:Γ}(R':Rl (i_ d2 s2 d1 s1 x) (kj x d1) g u):dD t u:=by
 refine(R.comp R').eq λi n hn=>?_;obtain⟨mf,ef,a1,a2,a3,a4⟩:=F.a;obtain⟨md,b1,b2,b3⟩:=F.b;have tV:=lE a3
 have MO:ef.aC=s1:=by simpa using RM a3
 constructor
 .have adE:=agG (h.en n (bz hn).1)
  have k1:i=d1->oS (s1,x) (ji s1 (sE n.ψ))=sE n.ψ:=λe=>by
   rw[e,a1]at hn;cases hn;exact VB adE (jY.2 ⟨ef,tV,MO,a4⟩)
  have k2:i=d2->∀e,e∈sE n.ψ->e.1≠s2:=λe y hy=>by
   rw[e,b1]at hn;cases hn;obtain⟨s,j⟩:=y;obtain⟨z,z1,z2,z3⟩:=jY.1 hy;rw[<-z2];exact b3 z z1
  show sE n.ψ=i_ d2 s2 d1 s1 x i (i_ d1 s1 d2 s2 x i (sE n.ψ));unfold i_;by_cases h1:i=d1
  .rw[if_pos h1];by_cases h2:i=d2
   .rw[if_pos h2,if_pos h2,if_pos h1,LB λe he=>k2 h2 e (CY.1 he).1,k1 h1]
   .rw[if_neg h2,if_neg h2,if_pos h1,k1 h1]
  .rw[if_neg h1];by_cases h2:i=d2
   .rw[if_pos h2,if_pos h2,if_neg h1,LB (k2 h2)]
   .rw[if_neg h2,if_neg h2,if_neg h1]
 .show n.Up=kj x d1 i n.θ (kj x d2 i n.θ n.Up);unfold kj;by_cases hi:i=x/\n.θ=2
  .rw[if_pos hi];have:=W.parent h (bz a1).1 tV (q:=n) (by rw[a4,<-hi.1];exact hn) hi.2;rw[this,(bz a1).2]
  .rw[if_neg hi,if_neg hi]
end
end
section
section
variable{B:Nat}{t:Γ}
def agb(i:Int)(hl:t.η.length<=1000000):za t i=V (oI (t.η.findIdx? (λn=>n.κ==i))):=by
 unfold za Pk;have:=v8 (b:=t.η) (B:=zb t i) (λn=>n.κ==i) (λn _=>(n:Int)) (-1) ?_ ?_
 .rw[this];refine congrArg V ?_;cases h:t.η.findIdx? (λn=>n.κ==i)with
  |none=>rfl
  |some n =>
   obtain⟨x,hx,-⟩:=oF h;dsimp only;rw[hx];rfl
 .intro n x hx hn;unfold zb;rw[if_pos (by simpa using hn),aW hx,aS,dW (by unfold ae;omega)];rfl
 .unfold zb;rw[if_neg (by simp)];rfl
def CJ(t:Γ)(i j:Int):Prop:=∃e,e∈(gD t.η i).ψ/\lI (gN t.η) e.κ j
def Mk(t:Γ)(o:List Bool)(j:Int):Prop:=∀(k:Nat)(nd:τ),t.η[k]?=V nd->nd.κ=j->o[k]?=V true
def Cl(t:Γ)(i:Int)(o:List Bool)(n:Nat):Prop:=∀(k:Nat)(nd:τ),k<n->t.η[k]?=V nd->(o[k]?=V true\/nd.κ=i)->∀e,e∈nd.ψ->Mk t o e.κ
def Lb(t:Γ)(i:Int)(o:List Bool):Prop:=∀(k:Nat)(nd:τ),t.η[k]?=V nd->o[k]?=V true->CJ t i nd.κ
structure Gd(t:Γ)(i:Int)(o0 o:List Bool)(more:Bool):Prop where
 l:o.length=t.η.length
 s:Lb t i o
 f:more=false->o=o0
 m:more=true->o0.count true<o.count true
 c:o0.count true<=o.count true
def Gd.up{i:Int}{o0 o:List Bool}{more:Bool}(h:Gd t i o0 o more){p:Nat}(hp:p<o.length)(ho:o[p]=false)(hb:∀nd:τ,t.η[p]?=V nd->CJ t i nd.κ):Gd t i o0 (o.set p true) true:=by
 have hc:(o.set p true).count true=o.count true+1:=by
  rw[alw hp,ho];simp
 refine⟨by rw[List.length_set];exact h.l,λk nd hk dz=>?_,λe=>(by cases e),λ_=>by have:=h.c;omega,by have:=h.c;omega⟩;rw[List.getElem?_set]at dz;split at dz
 .next e=>subst e;exact hb nd hk
 .exact h.s k nd hk dz
def aka(h:RT t)(hf:TF B t)(hB:B<=90000)(i:Int):ε (wG t i) λo=>o.length=t.η.length/\∀(k:Nat)(nd:τ),t.η[k]?=V nd->(o[k]?=V true↔CJ t i nd.κ):=by
 have ht:=hf.n
 have fin:∀o,o.length=t.η.length->Lb t i o->Cl t i o t.η.length->o.length=t.η.length/\∀(k:Nat)(nd:τ),t.η[k]?=V nd->(o[k]?=V true↔CJ t i nd.κ):=λo hl hs hc=>by
  refine⟨hl,λk nd hk=>⟨hs k nd hk,λ⟨e,he,hr⟩=>?_⟩⟩
  have key:∀{j},lI (gN t.η) e.κ j->Mk t o j:=λhr=>by
   induction hr with
   |refl =>
    rcases qR t.η i with⟨n,g1,g2⟩|⟨-,g2⟩
    .rw[g2]at he;obtain⟨k',bG⟩:=w_.1 (bz g1).1;exact hc k' n (eZ.1 bG).1 bG (.inr (bz g1).2) e he
    .rw[g2]at he;cases he
   |@step j n e' _ h2 h3 ih =>
    obtain⟨k',bG⟩:=w_.1 (bz h2).1;exact hc k' n (eZ.1 bG).1 bG (.inl (ih k' n bG (bz h2).2)) e' h3
  exact key hr k nd hk rfl
 unfold wG Pl;refine ε.χ ⟨by omega,by rw[gv];omega⟩ (ε.loop (λs:Int×List Bool=>∃n:Nat,s.1=(n:Int)/\n<=t.η.length/\s.2.length=t.η.length/\Lb t i s.2/\n<=s.2.count true) (λs=>t.η.length-s.1.toNat) ?_ _ ⟨0,rfl,iE _,by simp,λk nd _ hk=>?_,iE _⟩)
 .rintro ⟨a,o⟩ ⟨n,e,hn,ho,hS,jD⟩;dsimp only at e ho hS jD;subst e;unfold E9;by_cases Ξ:n<t.η.length
  .refine ε.cond (by simpa using Ξ) (ε.bind (R:=λv=>Gd t i o v.2 v.1/\(v.1=false->Cl t i v.2 t.η.length)) ?_ λv hv=>?_)
   .unfold Pm;refine ε.tG (l:=t.η) (λs:Bool×Int×List Bool=>s.2.1) (λm s=>Gd t i o s.2.2 s.1/\(s.1=false->Cl t i s.2.2 m)) (λm x s hm hx hc hs=>?_) (λs hc hs=>?_) _ rfl ⟨⟨ho,hS,λ_=>rfl,λe=>(by cases e),bm _⟩,λ_ k nd hk=>by omega⟩<;>(obtain⟨d,c,w⟩:=s;dsimp only at hc hs;subst hc;unfold E_)
    .obtain⟨hG,hC⟩:=hs;have hwl:=hG.l;have hw:=bD (show m<w.length by omega);refine ε.cond (by simpa using hm) (ε.bind (R:=λv=>Gd t i o v.2 v.1/\(v.1=false->Cl t i v.2 (m+1))) ?_ λv hv=>ε.χ (by unfold ae;dsimp only;omega) (ε.inl ⟨rfl,hv⟩));refine ε.bind (R:=λv:Bool=>v=true↔¬(w[m]?=V true\/x.κ=i)) ?_ λv hv=>ε.ite (λNO=>ε.ret ⟨hG,λhd=>?_⟩) λuj=>?_
     .refine ε.af (aW hw) (ε.bind (R:=λv:Bool=>v=true↔¬(w[m]?=V true\/x.κ=i)) ?_ λv hv=>ε.ret hv);rw[hw];cases hb:w[m]with
      |true=>exact ε.aV (by simp) (ε.ret (by simp))
      |false=>exact ε.cond rfl (ε.af (aW hx) (ε.ret (by simp)))
     .intro k nd hk jQ DP
      rcases fa k m with h'|h'
      .exact hC hd k nd h' jQ DP
      .have:k=m:=by omega
       subst this;rw[hx]at jQ;cases jQ;exact absurd DP (hv.1 NO)
     have acs:w[m]?=V true\/x.κ=i:=zM λhc=>uj (hv.2 hc);have Vr:=fz hx;have sw:=pD h.s Vr
     have vC:∀e,e∈x.ψ->CJ t i e.κ:=λe he=>by
      rcases acs with h1|h1
      .obtain⟨e0,e1,e2⟩:=hG.s m x hx h1;exact⟨e0,e1,.step e2 sw he⟩
      .exact⟨e,by rw[<-h1,eE sw];exact he,.refl⟩
     have hE:=hf.e x Vr;unfold Pn;refine(ε.tG (l:=x.ψ) (Q:=λv=>Gd t i o v.2 v.1/\(v.1=false->Cl t i v.2 m/\∀e,e∈x.ψ->Mk t v.2 e.κ)) (λs:Bool×Int×List Bool=>s.2.1) (λk s=>Gd t i o s.2.2 s.1/\(s.1=false->Cl t i s.2.2 m/\∀e,e∈x.ψ.take k->Mk t s.2.2 e.κ)) (λk e s hk he hc hs=>?_) (λs hc hs=>?_) _ rfl ⟨hG,λhd=>⟨hC hd,λe he=>by simp at he⟩⟩).mono ?_
     .obtain⟨d2,c2,w2⟩:=s;dsimp only at hc hs;subst hc;obtain⟨Ds,Dq⟩:=hs;unfold BH;refine ε.af (aW hx) (ε.cond (by simpa using hk) (ε.bind (R:=λv=>Gd t i o v.2 v.1/\(v.1=false->Cl t i v.2 m/\∀e,e∈x.ψ.take (k+1)->Mk t v.2 e.κ)) ?_ λv hv=>ε.χ (by unfold ae;dsimp only;omega) (ε.inl ⟨rfl,hv⟩)));refine ε.af (aW hx) (ε.af (aW he) (ε.af (agb e.κ (by omega)) ?_))
      have keep:Mk t w2 e.κ->Gd t i o w2 d2/\(d2=false->Cl t i w2 m/\∀e,e∈x.ψ.take (k+1)->Mk t w2 e.κ):=λhM=>⟨Ds,λhd=>⟨(Dq hd).1,λe' eN=>by
       rw[h_ he]at eN
       rcases ep.1 eN with h1|h1
       .exact(Dq hd).2 e' h1
       .rw[cV.1 h1];exact hM⟩⟩
      cases AJ:t.η.findIdx? (λn=>n.κ==e.κ)with
      |none =>
       rw[List.findIdx?_eq_none_iff]at AJ;refine ε.af (a:=false) rfl (ε.aV (by simp) (ε.ret (keep λk' nd bG hn=>?_)));have:=AJ nd (fz bG);rw[beq_eq_false_iff_ne]at this;exact absurd hn this
      |some p =>
       obtain⟨y,hy,-,hyp⟩:=oF AJ
       have NS:y.κ=e.κ:=by simpa using hyp
       have rk:=(eZ.1 hy).1;have akJ:=Ds.l;have D4:=bD (show p<w2.length by omega);have UA:idx w2 (oI (V p))=V w2[p]:=aW D4
       have dH:∀(k':Nat)(nd:τ),t.η[k']?=V nd->nd.κ=e.κ->k'=p:=λk' nd bG hn=>by
        rcases Nat.lt_trichotomy k' p with h'|h'|h'
        .have:=wJ h.s bG hy h';omega
        .exact h'
        .have:=wJ h.s hy bG h';omega
       refine ε.af (a:=!w2[p]) (ε.eq (ε.af (a:=!w2[p]) (ε.eq (ε.cond (by simp[oI]) (ε.af UA (ε.ret rfl)))) (ε.ret rfl))) ?_;cases hb:w2[p]with
       |true =>
        refine ε.aV (by simp) (ε.ret (keep λk' nd bG hn=>?_));rw[dH k' nd bG hn,D4,hb]
       |false =>
        refine ε.cond rfl (ε.af UA (ε.ret ⟨?_,λhd=>(by cases hd)⟩))
        have:(oI (V p)).toNat=p:=by unfold oI;simp
        rw[this]
        exact Ds.up (by omega) hb λnd cz=>by
         rw[hy]at cz;cases cz;rw[NS];exact vC e (fz he)
     .obtain⟨d2,c2,w2⟩:=s;dsimp only at hc hs;subst hc;unfold BH;rw[gl]at hs;exact ε.af (aW hx) (ε.aV (by simp) (ε.out (ε.ret hs)))
     .rintro v ⟨Ds,Dq⟩;refine⟨Ds,λhd k nd hk jQ DP=>?_⟩
      rcases fa k m with h'|h'
      .exact(Dq hd).1 k nd h' jQ DP
      .have:k=m:=by omega
       subst this;rw[hx]at jQ;cases jQ;exact(Dq hd).2
    .exact ε.aV (by simp) (ε.out (ε.ret hs))
   .obtain⟨d,w⟩:=v;obtain⟨hG,hC⟩:=hv;cases d with
    |false=>exact ε.cond rfl (ε.out (ε.ret (fin w hG.l hG.s (hC rfl))))
    |true =>
     refine ε.aV (by simp) ?_;unfold Fa;have:=hG.m rfl;exact ε.χ (by unfold ae;dsimp only;omega) (ε.inl ⟨⟨n+1,by dsimp only;omega,Ξ,hG.l,hG.s,by dsimp only at *;omega⟩,by dsimp only;omega⟩)
  .refine ε.aV (by simpa using Ξ) (ε.out ?_);unfold Jk;refine ε.ret (fin o ho hS λk nd hk jQ DP e he k' nd' bG uf=>?_);have dQ:∀b,b∈o->true=b:=List.count_eq_length.1 (Nat.le_antisymm List.count_le_length (by omega))
   have t_:k'<o.length:=by rw[ho];exact(eZ.1 bG).1
   rw[bD t_,<-dQ _ (eA t_)]
 .dsimp only at hk;rw[List.getElem?_replicate]at hk;split at hk<;>cases hk
def aj8(h:RT t)(hf:TF B t)(hB:B<=4000)(i:Int):ε (wE t i) (nF t i):=by
 have ht:=hf.n;have Mw:=h.ut hf hB;unfold wE;refine ε.bind (R:=λv:Bool=>v=true↔(gD t.η i).θ=2) ?_ λv hv=>ε.ite (λhn=>ε.ret ?_) λhn=>?_
 .unfold y_;refine ε.af (iM t i (by omega)) (ε.bind (R:=λv:Bool=>v=true↔(gD t.η i).θ=2) (ε.bind (R:=λv:Bool=>v=true↔(gD t.η i).θ=2) ?_ λv hv=>ε.ret hv) λv hv=>ε.ret hv)
  rcases qR t.η i with⟨n,g1,g2⟩|⟨g1,g2⟩
  .rw[g1,g2];exact ε.cond rfl (ε.ret (by simp))
  .rw[g1,g2];exact ε.aV (by simp) (ε.ret (by simp[n_]))
 .unfold nF;rw[if_neg λhk=>by rw[hv.2 hk]at hn;simp at hn]
 have hk:(gD t.η i).θ=2:=hv.1 (by simpa using hn);refine ε.bind (aka h hf (by omega) i) λo ho=>ε.bind (R:=nF t i) ?_ λv hv=>ε.ret hv;obtain⟨Ni,AX⟩:=ho
 have hz:(t.η.zip o).length=t.η.length:=by rw[List.length_zip,Ni];omega
 unfold Pf
 have mg:∀nd,nd∈t.η->dl t nd.κ=nd.aK.length:=λnd cz=>by unfold dl;rw[eE (pD h.s cz)]
 refine ε.tG (l:=t.η.zip o) (λs:Int×Int×Int=>s.2.2) (λn s=>s.1=((((t.η.zip o).take n).filter (·.2)).length:Int)/\s.2.1=(jK t ((((t.η.zip o).take n).filter (·.2)).map λp=>(p.1.κ,true)):Int)) (λn x s Ξ hx hc hs=>?_) (λs hc hs=>?_) _ rfl ⟨by simp,by simp[jK]⟩<;>(obtain⟨a,b,c⟩:=s;dsimp only at hc hs;subst hc;obtain⟨rfl,rfl⟩:=hs;unfold E7)
 .obtain⟨h1,h2⟩:=Gt.1 hx;have AW:n<o.length:=(eZ.1 h2).1;have hle:=j2 (·.2) ((t.η.zip o).take n)
  have hl2:((t.η.zip o).take n).length=n:=by rw[dq];omega
  have Vc:=YF Mw ((((t.η.zip o).take n).filter (·.2)).map λp=>(p.1.κ,true));rw[au]at Vc;have cz:=mg x.1 (fz h1);have jO:=h.data (fz h1);refine ε.cond (by simpa using AW) (ε.bind (R:=λv:Int×Int=>v.1=((((t.η.zip o).take (n+1)).filter (·.2)).length:Int)/\v.2=(jK t ((((t.η.zip o).take (n+1)).filter (·.2)).map λp=>(p.1.κ,true)):Int)) (ε.af (aW h2) ?_) λv hv=>ε.χ (by unfold ae;dsimp only;omega) (ε.inl ⟨rfl,hv⟩));rw[h_ hx,lD];cases hb:x.2 with
  |true =>
   have e1:[x].filter (·.2)=[x]:=by rw[eL,if_pos hb];rfl
   rw[e1];refine ε.cond rfl (ε.χ (by unfold ae;dsimp only;omega) (ε.af (aW h1) (ε.χ (by unfold ae;dsimp only;omega) (ε.ret ⟨by simp,?_⟩))));rw[bO,Qs]
   have:jK t (List.map (λp=>(p.1.κ,true)) [x])=x.1.aK.length:=by unfold jK;simp[cz]
   rw[this];dsimp only;omega
  |false =>
   have e1:[x].filter (·.2)=[]:=by rw[eL,if_neg (by simp[hb])];rfl
   rw[e1,qH];exact ε.aV (by simp) (ε.ret ⟨rfl,rfl⟩)
 .rw[hz,<-Ni,List.take_of_length_le (by rw[hz];omega)];refine ε.aV (by simp) (ε.out (ε.ret ?_))
  have vE:dl t i=0:=by
   unfold dl
   rcases qR t.η i with⟨n,g1,g2⟩|⟨g1,g2⟩
   .rw[g2]at hk ⊢
    rcases h.nd n (bz g1).1 with k|k
    .rw[k.1]at hk;cases hk
    .rw[k.2.1];rfl
   .rw[g2];rfl
  unfold nF;rw[if_pos hk]
  have bn:∀p,p∈(t.η.zip o).filter (·.2)->∃k:Nat,t.η[k]?=V p.1/\o[k]?=V true:=λp hp=>by
   obtain⟨p1,p2⟩:=dK.1 hp;obtain⟨k,hk⟩:=w_.1 p1;obtain⟨h1,h2⟩:=Gt.1 hk;exact⟨k,h1,by rw[h2,p2]⟩
  refine⟨((t.η.zip o).filter (·.2)).map λp=>(p.1.κ,true),⟨?_,λp hp=>?_,λp hp=>?_⟩,by rw[vE,au];simp,λj=>?_⟩
  .rw[w9]
   refine zR.2 ((w7 _ ?_).imp λ{a b}(fY:a.1.κ<b.1.κ)=>by
    show a.1.κ≠b.1.κ
    omega)
   rw[xa];intro a b ha hb fY;obtain⟨h1,-⟩:=Gt.1 (bD ha);obtain⟨h2,-⟩:=Gt.1 (bD hb);exact wJ h.s h1 h2 fY
  .obtain⟨q,hq,rfl⟩:=cL.1 hp;obtain⟨k,hk,-⟩:=bn q hq;have:=h.lo _ (fz hk);have:=hf.x;dsimp only;omega
  .obtain⟨q,hq,rfl⟩:=cL.1 hp;rfl
  .rw[vU];constructor
   .rintro ⟨p,hp,rfl⟩;obtain⟨q,hq,rfl⟩:=cL.1 hp;obtain⟨k,ek,dz⟩:=bn q hq;exact(AX k _ ek).1 dz
   .intro hb
    have hj:∃nd,gN t.η j=V nd:=by
     obtain⟨e,he,hr⟩:=hb
     rcases qR t.η i with⟨n,g1,g2⟩|⟨g1,g2⟩
     .rw[g2]at he;obtain⟨m,hm,e',eN,h'⟩:=W_ g1 rfl he hr;rw[<-h'];exact kv.1 (h.cl m hm e' eN)
     .rw[g2]at he;cases he
    obtain⟨nd,cz⟩:=hj;obtain⟨k,ek⟩:=w_.1 (bz cz).1;have sx:=(bz cz).2;have dz:=(AX k nd ek).2 (by rw[sx];exact hb);exact⟨(nd.κ,true),cL.2 ⟨(nd,true),dK.2 ⟨fz (Gt.2 ⟨ek,dz⟩),rfl⟩,rfl⟩,sx⟩
end
end
section
def Fits.FJ{t h:Γ}(ht:RT t)(hs:dD t h){q:aJ}(hf:Fits t q):Fits h q:=by
 obtain⟨r,r1,r2⟩:=hf;refine⟨r,?_,r2⟩;by_cases hk:(gD t.η q.κ).θ=2
 .exact hs.used ht hk r1
 .have dz:(gD h.η q.κ).θ≠2:=λe=>by
   rcases qR h.η q.κ with⟨m,g1,g2⟩|⟨-,g2⟩
   .obtain⟨n,n1,n2,-⟩:=hs.Ar g1;rw[g2]at e;exact hk (by rw[eE n1,<-n2];exact e)
   .rw[g2]at e;exact absurd e (by decide)
  unfold nF at r1 ⊢;rw[if_neg hk]at r1;rw[if_neg dz];exact r1
structure LJ(k:Nat)(f:cy):Prop where
 i:LI k f
 s:kD f.et
 o:xm f.S.aw f.et
 f:∀q,q∈f.et->Fits f.S.aw q
def LJ.up{k:Nat}{f:cy}(h:LJ k f):LJ (k+1) f:=⟨h.i.up,h.s,h.o,h.f⟩
section
variable{B:Nat}{t:Γ}{k:Nat}{f:cy}{o:dO}
def LJ.FJ(h:LJ k f)(hk:k<=60){u:Γ}(hr:RT u)(hf:TF (2+5*k+5) u)(hx:u.Next<=k+3)(hs:dD f.S.aw u){H:List bg}(hH:H.length<=k+1):LJ (k+1) ⟨gH f.S u,H,f.et⟩:=by
 refine⟨⟨h.i.s.OW (by omega) hr.ts hf,?_,?_,hH,h.i.up.q⟩,h.s,?_,λq hq=>?_⟩<;>dsimp only<;>rw[wo]
 .exact hr
 .omega
 .exact hs.one h.i.r hr (λ_ _ _ _=>rfl) h.o
 .exact(h.f q hq).FJ h.i.r hs
def ZD(l:List aJ)(i:Int)(hl:l.length<=1000000):ε (wF l i) λr=>r>=0↔mc l i=true:=by
 unfold wF Ph mc;refine ε.pB (l:=l) (λn=>∀q,q∈l.take n->q.κ≠i) (λn x Ξ hx hI=>?_) (λhI=>?_) (by simp)<;>unfold E8
 .refine ε.cond (by simpa using Ξ) (ε.af (aW hx) (ε.ite (λhe=>ε.out (ε.ret ?_)) λhe=>ε.χ (by unfold ae;omega) (ε.inl ⟨rfl,λq hq=>?_⟩)))
  .exact⟨λ_=>rN.2 ⟨x,fz hx,he⟩,λ_=>by omega⟩
  .rw[h_ hx]at hq
   rcases ep.1 hq with hq|hq
   .exact hI q hq
   .rw[cV.1 hq];simpa using he
 .rw[gl]at hI;refine ε.aV (by simp) (ε.out (ε.ret ⟨λh=>by omega,λh=>?_⟩));obtain⟨q,hq,he⟩:=rN.1 h;exact absurd (by simpa using he) (hI q hq)
def aj2(l:List aJ)(hl:l.length<=1000000)(h:RT t)(ht:t.η.length<=1000000){i:Int}{d:Nat}(hd:Deep t.η i d):E5 t l i=V (gY t.η l i):=by
 have mg:=tC hd;have akp:=h.len;unfold gY;rw[S1 hd (f:=200) (by omega)];unfold E5 Xw
 have key:∀{i:Int}{d:Nat},Deep t.η i d->∀n:Nat,n+d<=t.η.length->ε (loop (wD t l) (i,(n:Int))) (·=im t.η l (d+1) i):=by
  intro i d hd;induction hd with
  |root =>
   intro n hn
   have hB:ε (wD t l (1,(n:Int))) (λy=>y=.inr (im t.η l 1 1)):=by
    unfold wD;refine ε.cond (by simp;omega) (ε.bind (ZD l 1 hl) λr hr=>ε.ite (λh0=>?_) λh0=>?_)
    .refine⟨_,rfl,?_⟩;rw[im,if_pos (hr.1 (by simpa using h0))]
    .refine ε.cond rfl ⟨_,rfl,?_⟩;rw[im,if_neg λh=>h0 (by simpa using hr.2 h),if_pos rfl]
   obtain⟨y,hy,rfl⟩:=hB;rw[kJ hy];exact ε.ret rfl
  |@step i nd d g1 g2 g3 g4 ih =>
   intro n hn
   have hB:ε (wD t l (i,(n:Int))) (λy=>(mc l i=true/\y=.inr i)\/(mc l i≠true/\y=.inl (nd.Up,((n+1:Nat):Int)))):=by
    unfold wD;refine ε.cond (by simp;omega) (ε.bind (ZD l i hl) λr hr=>ε.ite (λh0=>?_) λh0=>?_)
    .exact⟨_,rfl,.inl ⟨hr.1 (by simpa using h0),rfl⟩⟩
    .refine ε.aV (by simpa using g1) (ε.af (iM t i ht) (ε.χ (by unfold ae;dsimp only;omega) ⟨_,rfl,.inr ⟨λh=>h0 (by simpa using hr.2 h),?_⟩⟩));dsimp only;rw[eE g2];rfl
   obtain⟨y,hy,h1|h1⟩:=hB
   .obtain⟨h1,rfl⟩:=h1;rw[kJ hy];refine ε.ret ?_;rw[im,if_pos h1]
   .obtain⟨h1,rfl⟩:=h1;rw[ry hy];refine(ih (n+1) (by omega)).mono λr hr=>?_;rw[hr,im.eq_2 t.η l i (d+1),if_neg h1,if_neg g1,eE g2]
 exact ε.eq (key hd 0 (by omega))
def abj{l:List τ}{q:List aJ}(hd:∀n,n∈l->1<=n.κ){i:Int}{d:Nat}(h:Deep l i d):∀f,0<=im l q f i:=by
 induction h with
 |root=>intro f;cases f with|zero=>exact o8 _|succ f=>rw[im];simp;split<;>omega
 |@step i n d g1 g2 g3 g4 ih =>
  intro f;cases f with
  |zero=>exact o8 _
  |succ f =>
   rw[im,if_neg g1,eE g2];split
   .have:=hd n (bz g2).1;rw[(bz g2).2]at this;omega
   .exact ih f
def aj4(h:RT t)(hf:TF B t)(hB:B<=90000)(l:List aJ)(hl:l.length<=1000000):ε (Fs t l) λr=>r=true->xm t l:=by
 have ht:=hf.n;unfold Fs XN;refine ε.pB (l:=t.η) (λn=>∀nd,nd∈t.η.take n->nd.θ=1->∃z,∀y,y∈t.η->∀e,e∈y.ψ->e.κ=nd.κ->gY t.η l y.κ=z) (λn x Ξ hx hI=>?_) (λhI=>?_) (by simp)<;>unfold Jx
 .have J2:(x.θ=1->∃z,∀y,y∈t.η->∀e,e∈y.ψ->e.κ=x.κ->gY t.η l y.κ=z)->ε (BL (n:Int) ()) (qc (λs=>s=(n:Int)+1/\∀nd,nd∈t.η.take (n+1)->nd.θ=1->∃z,∀y,y∈t.η->∀e,e∈y.ψ->e.κ=nd.κ->gY t.η l y.κ=z) λr=>r=true->xm t l):=λfN=>by
   unfold BL;refine ε.χ (by unfold ae;omega) (ε.inl ⟨rfl,λnd cz=>?_⟩);rw[h_ hx]at cz
   rcases ep.1 cz with h1|h1
   .exact hI nd h1
   .rw[cV.1 h1];exact fN
  refine ε.cond (by simpa using Ξ) (ε.af (aW hx) (ε.ite (λhk=>J2 λe=>absurd e (by simpa using hk)) λ_=>?_));unfold XO;refine ε.tE (l:=t.η) (λm a=>(a=-1/\∀y,y∈t.η.take m->∀e,e∈y.ψ->e.κ≠x.κ)\/(0<=a/\∀y,y∈t.η.take m->∀e,e∈y.ψ->e.κ=x.κ->gY t.η l y.κ=a)) (λm y a hm hy ha=>?_) (λa ha=>?_) _ (.inl ⟨rfl,by simp⟩)<;>unfold Jy
  .refine ε.cond (by simpa using hm) (ε.af (aW hy) ?_);have A8:=fz hy;have hE:=hf.e y A8
   have ext:∀{b:Int}{E:List aH},((b=-1/\(∀y,y∈t.η.take m->∀e,e∈y.ψ->e.κ≠x.κ)/\∀e,e∈E->e.κ≠x.κ)\/(0<=b/\(∀y,y∈t.η.take m->∀e,e∈y.ψ->e.κ=x.κ->gY t.η l y.κ=b)/\∀e,e∈E->e.κ=x.κ->gY t.η l y.κ=b))->E=y.ψ->(b=-1/\∀y,y∈t.η.take (m+1)->∀e,e∈y.ψ->e.κ≠x.κ)\/(0<=b/\∀y,y∈t.η.take (m+1)->∀e,e∈y.ψ->e.κ=x.κ->gY t.η l y.κ=b):=λ{b E}hb hEe=>by
    subst hEe;rw[h_ hy]
    rcases hb with⟨b1,b2,b3⟩|⟨b1,b2,b3⟩
    .refine .inl ⟨b1,λz hz=>?_⟩
     rcases ep.1 hz with h1|h1
     .exact b2 z h1
     .rw[cV.1 h1];exact b3
    .refine .inr ⟨b1,λz hz=>?_⟩
     rcases ep.1 hz with h1|h1
     .exact b2 z h1
     .rw[cV.1 h1];exact b3
   unfold XP
   refine ε.tE (l:=y.ψ) (λj b=>(b=-1/\(∀y,y∈t.η.take m->∀e,e∈y.ψ->e.κ≠x.κ)/\∀e,e∈y.ψ.take j->e.κ≠x.κ)\/(0<=b/\(∀y,y∈t.η.take m->∀e,e∈y.ψ->e.κ=x.κ->gY t.η l y.κ=b)/\∀e,e∈y.ψ.take j->e.κ=x.κ->gY t.η l y.κ=b)) (λj e b hj he hb=>?_) (λb hb=>?_) _ (by
    rcases ha with⟨a1,a2⟩|⟨a1,a2⟩
    .exact .inl ⟨a1,a2,by simp⟩
    .exact .inr ⟨a1,a2,by simp⟩)<;>unfold Jz
   .obtain⟨dd,jO,-⟩:=h.dp y A8 (h.Bd A8 (fz he));refine ε.cond (by simpa using hj) (ε.af (aW he) (ε.af (aW hx) (ε.ite (λaI=>?_) λheq=>ε.af (aj2 l hl h (by omega) jO) ?_)))
    .have aI:e.κ≠x.κ:=by simpa using aI
     unfold BM;refine ε.χ (by unfold ae;dsimp only;omega) (ε.inl ⟨rfl,?_⟩);dsimp only;rw[h_ he]
     rcases hb with⟨b1,b2,b3⟩|⟨b1,b2,b3⟩
     .refine .inl ⟨b1,b2,λz hz=>?_⟩
      rcases ep.1 hz with h1|h1
      .exact b3 z h1
      .rw[cV.1 h1];exact aI
     .refine .inr ⟨b1,b2,λz hz A9=>?_⟩
      rcases ep.1 hz with h1|h1
      .exact b3 z h1 A9
      .rw[cV.1 h1]at A9;exact absurd A9 aI
    .have heq:e.κ=x.κ:=by simpa using heq
     have Nd:0<=gY t.η l y.κ:=abj (λn hn=>(h.lo n hn).1) jO 201;refine ε.bind (R:=λv:Bool=>v=true↔(b>=0/\gY t.η l y.κ≠b)) (ε.bind (R:=λv:Bool=>v=true↔(b>=0/\gY t.η l y.κ≠b)) (ε.ite (λh0=>ε.ret ?_) λh0=>ε.ret ?_) λv hv=>ε.ret hv) λv hv=>ε.ite (λ_=>ε.out (ε.out (ε.out (ε.ret λh=>(by cases h))))) λuj=>?_
     .have h0:b>=0:=by simpa using h0
      simp[h0]
     .have h0:¬b>=0:=by simpa using h0
      simp[h0]
     .have uj:¬(b>=0/\gY t.η l y.κ≠b):=λh=>uj (hv.2 h);unfold BM;refine ε.χ (by unfold ae;dsimp only;omega) (ε.inl ⟨rfl,.inr ⟨Nd,?_⟩⟩);dsimp only;rw[h_ he]
      rcases hb with⟨b1,b2,b3⟩|⟨b1,b2,b3⟩
      .refine⟨λz hz w hw hwx=>absurd hwx (b2 z hz w hw),λz hz A9=>?_⟩
       rcases ep.1 hz with h1|h1
       .exact absurd A9 (b3 z h1)
       .rfl
      .have Dy:gY t.η l y.κ=b:=zM λhc=>uj ⟨b1,hc⟩;rw[Dy];refine⟨b2,λz hz A9=>rfl⟩
   .unfold JB;rw[gl]at hb;exact ε.aV (by simp) (ε.out (ε.χ (by unfold ae;dsimp only;omega) (ε.inl ⟨rfl,ext hb rfl⟩)))
  .rw[gl]at ha;refine ε.aV (by simp) (ε.out (J2 λ_=>?_))
   rcases ha with⟨-,a2⟩|⟨-,a2⟩
   .exact⟨0,λy hy e he hx=>absurd hx (a2 y hy e he)⟩
   .exact⟨a,a2⟩
 .rw[gl]at hI;unfold JA;refine ε.aV (by simp) (ε.out (ε.ret λ_ j x y hx hy hk=>?_));obtain⟨d,hd,e,he,e1,e2⟩:=C6.1 hx;obtain⟨d',bF,e',eN,C3,C4⟩:=C6.1 hy;obtain⟨nd,cz⟩:=kv.1 (h.cl d hd e he);rw[e1]at cz;rw[eE cz]at hk;obtain⟨z,hz⟩:=hI nd (bz cz).1 hk;have AU:=(bz cz).2;rw[<-e2,<-C4,hz d hd e he (e1.trans AU.symm),hz d' bF e' eN (C3.trans AU.symm)]
def aj6(h:RT t)(hf:TF B t)(hB:B<=4000)(l:List aJ)(hl:l.length<=1000000):ε (Ft t l) λr=>r=false->∀q,q∈l->Fits t q:=by
 unfold Ft XQ;refine ε.pB (l:=l) (λn=>∀q,q∈l.take n->Fits t q) (λn x Ξ hx hI=>?_) (λhI=>?_) (by simp)<;>unfold JC
 .refine ε.cond (by simpa using Ξ) (ε.af (aW hx) (ε.bind (aj8 h hf hB x.κ) λr hr=>ε.bind (R:=λv:Bool=>v=false->r.1<=x.η/\r.2<=x.uO) (ε.af (aW hx) (ε.bind (R:=λv:Bool=>v=false->r.1<=x.η/\r.2<=x.uO) (ε.ite (λ_=>ε.ret λh=>(by cases h)) λh1=>ε.af (aW hx) (ε.ret λh=>by simp at h1 h;exact⟨h1,h⟩)) λv hv=>ε.ret hv)) λv hv=>ε.ite (λ_=>ε.out (ε.ret λh=>(by cases h))) λuj=>ε.χ (by unfold ae;omega) (ε.inl ⟨rfl,λq hq=>?_⟩)));rw[h_ hx]at hq
  rcases ep.1 hq with hq|hq
  .exact hI q hq
  .rw[cV.1 hq];exact⟨r,hr,hv (by simpa using uj)⟩
 .rw[gl]at hI;exact ε.aV (by simp) (ε.out (ε.ret λ_=>hI))
def aj'(h:LJ k f)(hk:k<=60)(hr:RT t)(hf:TF (2+5*k+5) t)(hx:t.Next<=k+3){q:List aJ}(hq:q.length<=k+1)(A2:kD q):ε (FB f t q) λr=>LJ (k+1) r.1:=by
 have ht:=hf.n;have hh:=h.i.h;unfold FB;refine ε.bind (R:=λv:List Int=>v.length<=t.η.length) ?_ λv hv=>ε.bind (R:=λv:List τ×Int×Int=>RT ⟨v.1,v.2.1,v.2.2⟩/\TF (2+5*k+5) ⟨v.1,v.2.1,v.2.2⟩/\v.2.1=t.Next) ?_ λu hu=>ε.bind (R:=λw:List aJ=>w=jW ⟨u.1,u.2.1,u.2.2⟩ q) ?_ λw hw=>?_
 .unfold XW;refine ε.each (l:=t.η) (λn v=>v.length<=n) (λn x v Ξ hx hv=>?_) (λv hv=>?_) _ (bm _)<;>unfold JK
  .exact ε.cond (by simpa using Ξ) (ε.bind (R:=λv:List Int=>v.length<=n+1) (ε.af (aW hx) (En.b (En.b En.bb λ_=>En.b (En.tb λ_=>En.b (abT _ _ (by omega)) λ_=>En.r _) En.r) λ_=>ε.ite (λ_=>ε.χ (by simp only[bV,dF];omega) (ε.ret (by simp;omega))) λ_=>ε.ret (by dsimp only;omega))) λv hv=>ε.χ (by unfold ae;dsimp only;omega) (ε.inl ⟨rfl,hv⟩))
  .exact ε.aV (by simp) (ε.out (ε.ret hv))
 .unfold XX;refine ε.each (l:=v) (λ_(s:List τ×Int×Int)=>RT ⟨s.1,s.2.1,s.2.2⟩/\TF (2+5*k+5) ⟨s.1,s.2.1,s.2.2⟩/\s.2.1=t.Next) (λn x s Ξ hx hs=>?_) (λs hs=>?_) _ ⟨hr,hf,rfl⟩<;>unfold JL
  .obtain⟨a,b,c⟩:=s;obtain⟨h1,h2,h3⟩:=hs;dsimp only at h1 h2 h3;exact ε.cond (by simpa using Ξ) (ε.af (aW hx) (ε.af (W2 h2 (by omega) x) (ε.χ (by unfold ae;dsimp only;omega) (ε.inl ⟨rfl,h1.free x,h2.Hk x,(Ot (t:=⟨a,b,c⟩) x).trans h3⟩))))
  .exact ε.aV (by simp) (ε.out (ε.ret hs))
 .unfold XY;have dH:=hu.2.1.n;refine ε.each (l:=q) (λn w=>w=jW ⟨u.1,u.2.1,u.2.2⟩ (q.take n)) (λn x w Ξ hx hw=>?_) (λw hw=>?_) _ rfl<;>unfold JM
  .have hwl:w.length<=n:=by rw[hw];exact Nat.le_trans (j2 _ _) (by rw[dq];omega)
   refine ε.cond (by simpa using Ξ) (ε.bind (R:=λv:List aJ=>v=jW ⟨u.1,u.2.1,u.2.2⟩ (q.take (n+1))) (ε.af (aW hx) (ε.af (iM _ _ (by dsimp only at *;omega)) ?_)) λv hv=>ε.χ (by unfold ae;dsimp only;omega) (ε.inl ⟨rfl,hv⟩));rw[h_ hx];unfold jW at hw ⊢;rw[lD,<-hw,eL];dsimp only;refine ε.ite (λhs=>ε.af (aW hx) (ε.χ (by simp only[bV,dF];omega) (ε.ret (by rw[if_pos hs];rfl)))) λhs=>ε.ret (by rw[if_neg hs];simp)
  .rw[gl]at hw;exact ε.aV (by simp) (ε.out (ε.ret hw))
 .obtain⟨a,b,c⟩:=u;obtain⟨h1,h2,h3⟩:=hu;dsimp only at h1 h2 h3 hw;have Vo:=It ⟨a,b,c⟩ A2;rw[<-hw]at Vo;refine ε.bind (aj4 h1 h2 (by omega) w (by omega)) λo1 ho1=>ε.ite (λ_=>ε.ret h.up) λg1=>ε.bind (aj6 h1 h2 (by omega) w (by omega)) λo2 ho2=>ε.ite (λ_=>ε.ret h.up) λg2=>ε.af (OY (h.i.s.EA (by omega) h1.s h2)) (ε.ret ?_);refine⟨⟨h.i.s.OW (by omega) h1.ts h2,?_,?_,by dsimp only;omega,by dsimp only;omega⟩,Vo.1,?_,?_⟩<;>dsimp only<;>rw[wo]
  .exact h1
  .dsimp only;omega
  .exact ho1 (by simpa using g1)
  .exact ho2 (by simpa using g2)
def zJ(h:LJ k f)(hk:k<=60)(hr:RT t)(hf:TF (2+5*k+5) t)(hx:t.Next<=k+3){q:List aJ}(hq:q.length<=k+1)(A2:kD q)(e:Int)(a:da):ε (rB f t q e a) λr=>LJ (k+1) r.1:=by
 unfold rB gI;exact ε.ite (λ_=>⟨_,rfl,h.up⟩) λ_=>ε.bind (aj' h hk hr hf hx hq A2) λr hr=>ε.ite (λ_=>⟨_,rfl,h.up⟩) λ_=>ε.ret hr
def aj7(h:TF B t)(hB:B<=90000)(hd:∀n,n∈t.η->n.aK.length<=5000)(l:List aJ)(hl:l.length<=100000)(hs:kD l)(i a b:Int):ε (E6 t l i a b) λr=>r.1.length<=l.length+1/\kD r.1:=by
 have ht:=h.n;have h0:l.length<=l.length+1/\kD l:=⟨by omega,hs⟩;unfold E6;refine ε.af (iM t i (by omega)) (ε.ite (λ_=>ε.ret h0) λ_=>En.b (Td i (by omega)) λ_=>ε.ite (λ_=>ε.ret h0) λ_=>En.b (abR h hB hd i) λ_=>En.b (En.b (En.tb λ_=>En.b En.bb En.r) En.r) λ_=>ε.ite (λ_=>ε.ret h0) λ_=>En.b (En.b (En.tb λ_=>En.b (abS l i (by omega)) λ_=>En.r _) λ_=>En.b En.bb En.r) λ_=>ε.ite (λ_=>ε.ret h0) λ_=>ε.bind (R:=λv:Bool×List aJ=>v.2.length+(if v.1 then 0 else 1)<=l.length+1/\kD v.2/\(v.1=false->∀q,q∈v.2->q.κ<i)) ?_ λv hv=>?_)
 .unfold Xx;refine ε.tG (l:=l) (λs:Bool×Int×List aJ=>s.2.1) (λn s=>s.2.2.length+(if s.1 then 0 else 1)<=n+1/\kD (s.2.2++(l.drop n).filter λq=>q.κ != i)/\(s.1=false->∀q,q∈s.2.2->q.κ<i)) (λn x s Ξ hx hc dG=>?_) (λs hc dG=>?_) _ rfl ⟨by simp;split<;>simp,by rw[uK,als];exact w7 _ hs,λ_ q hq=>(by cases hq)⟩<;>(obtain⟨d,c,o⟩:=s;dsimp only at hc dG;subst hc;unfold Jj;dsimp only)
  .obtain⟨h1,h2,h3⟩:=dG
   have Ni:o.length<=n+1:=by omega
   rw[drop_cons hx]at h2
   have vJ:∀q,q∈l.drop (n+1)->x.κ<q.κ:=λq hq=>by
    have:=List.Pairwise.sublist (List.drop_sublist n l) hs;rw[drop_cons hx]at this;exact(e9.1 this).1 q hq
   refine ε.cond (by simpa using Ξ) (ε.bind (R:=λv:Bool×List aJ=>v.2.length+(if v.1 then 0 else 1)<=n+2/\kD (v.2++(l.drop (n+1)).filter λq=>q.κ != i)/\(v.1=false->∀q,q∈v.2->q.κ<i)) (ε.bind (R:=λv:Bool×List aJ=>v.2.length+(if v.1 then 0 else 1)<=n+1/\kD (v.2++(x::l.drop (n+1)).filter λq=>q.κ != i)/\(v.1=false->x.κ<i/\∀q,q∈v.2->q.κ<i)) ?_ λv hv=>?_) λv hv=>ε.χ (by unfold ae;omega) (ε.inl ⟨rfl,hv⟩))
   .cases d with
    |true=>exact ε.af (a:=false) rfl (ε.aV (by simp) (ε.ret ⟨h1,h2,λe=>(by cases e)⟩))
    |false =>
     refine ε.bind (R:=λv:Bool=>v=true↔x.κ>=i) (ε.bind (R:=λv:Bool=>v=true↔x.κ>=i) (ε.cond rfl (ε.af (aW hx) (ε.ret (by simp)))) λv hv=>ε.ret hv) λv hv=>ε.ite (λNO=>ε.χ (by simp only[bV,dF];omega) (ε.ret ⟨?_,?_,λe=>(by cases e)⟩)) λuj=>ε.ret ⟨h1,h2,λ_=>⟨?_,h3 rfl⟩⟩
     .simp at h1 ⊢;omega
     .have eW:=hv.1 NO;obtain⟨p1,p2,p3⟩:=KR.1 h2;dsimp only;rw[l7];refine KR.2 ⟨p1,e9.2 ⟨λq hq=>?_,p2⟩,λq hq r hr=>?_⟩
      .obtain⟨q1,q2⟩:=dK.1 hq
       have q2:q.κ≠i:=by simpa using q2
       show i<q.κ
       rcases bp.1 q1 with rfl|q1
       .omega
       .have:=vJ q q1;omega
      .rcases bp.1 hr with rfl|hr
       .exact h3 rfl q hq
       .exact p3 q hq r hr
     .have:¬x.κ>=i:=λe=>uj (hv.2 e);omega
   .obtain⟨v1,v2,v3⟩:=hv
    have:v.2.length<=n+1:=by omega
    rw[eL]at v2;refine ε.af (aW hx) (ε.ite (λaI=>ε.af (aW hx) (ε.χ (by simp only[bV,dF];omega) (ε.ret ⟨?_,?_,λe q hq=>?_⟩))) λaI=>ε.ret ⟨by dsimp only;omega,?_,λe=>(v3 e).2⟩)
    .dsimp only;rw[cZ,bV,dF];omega
    .rw[if_pos aI]at v2;dsimp only;rw[l7];exact v2
    .rcases ep.1 hq with hq|hq
     .exact(v3 e).2 q hq
     .rw[cV.1 hq];exact(v3 e).1
    .rw[if_neg aI]at v2;exact v2
  .rw[List.drop_length]at dG;refine ε.aV (by simp) (ε.out (ε.ret ⟨dG.1,by simpa using dG.2.1,dG.2.2⟩))
 .refine ε.bind (R:=λv:List aJ=>v.length<=l.length+1/\kD v) ?_ λv hv=>ε.ret hv;obtain⟨d,o⟩:=v;obtain⟨v1,v2,v3⟩:=hv;dsimp only at v1 v2 v3;cases d with
  |true=>exact ε.aV (by simp) (ε.ret ⟨by simpa using v1,v2⟩)
  |false =>
   refine ε.cond rfl (ε.χ (by simp at v1 ⊢;omega) (ε.ret ⟨by simp at v1 ⊢;omega,?_⟩));refine KR.2 ⟨v2,uL _ _,λq hq r hr=>?_⟩;rw[cV.1 hr];exact v3 rfl q hq
def aj3(h:RT t)(hf:TF B t)(hB:B<=90000)(l:List bg)(c:Int)(hl:l.length<=100000):ε (E1 t l c) λr=>(RT r.1/\TF B r.1/\r.1.Next=t.Next/\dD t r.1)/\r.2.length<=l.length:=by
 unfold E1 Xs;refine ε.bind (R:=λv:List bg×List τ×Int×Int=>(RT ⟨v.2.1,v.2.2.1,v.2.2.2⟩/\TF B ⟨v.2.1,v.2.2.1,v.2.2.2⟩/\v.2.2.1=t.Next/\dD t ⟨v.2.1,v.2.2.1,v.2.2.2⟩)/\v.1.length<=l.length) ?_ λv hv=>ε.ret hv;refine ε.loop (λs:List bg×Int×List τ×Int×Int=>∃n:Nat,s.2.1=(n:Int)/\n<=100/\(RT ⟨s.2.2.1,s.2.2.2.1,s.2.2.2.2⟩/\TF B ⟨s.2.2.1,s.2.2.2.1,s.2.2.2.2⟩/\s.2.2.2.1=t.Next/\dD t ⟨s.2.2.1,s.2.2.2.1,s.2.2.2.2⟩)/\s.1.length<=l.length) (λs=>100-s.2.1.toNat) ?_ _ ⟨0,rfl,by omega,⟨h,hf,rfl,dD.rfl t⟩,bm _⟩;rintro⟨m,b,ns,nx,ck⟩ ⟨n,e,hn,⟨h1,h2,h3,h5⟩,h4⟩;dsimp only at e h1 h2 h3 h4 h5;subst e;unfold Jf;by_cases Ξ:n<=99
 .refine ε.cond (by simp;omega) (ε.bind (Tb h2 hB m c (n:Int) (by omega)) λr hr=>ε.χ (by unfold ae;dsimp only;omega) (ε.inl ⟨⟨n+1,by dsimp only;omega,by omega,?_,by dsimp only;omega⟩,by dsimp only;omega⟩));have e1:(⟨r.1.η,r.1.Next,r.1.ai⟩:Γ)=r.1:=rfl;dsimp only;rw[e1]
  rcases hr.1 with e|⟨j,e⟩<;>rw[e]
  .exact⟨h1,h2,h3,h5⟩
  .exact⟨h1.free j,h2.Hk j,Wg j h3,h5.comp (dD.free h1 j)⟩
 .exact ε.aV (by simp;omega) (ε.out (ε.ret ⟨⟨h1,h2,h3,h5⟩,h4⟩))
def aj_(h:LJ k f)(hk:k<=60)(ho:OB o):ε (Fy f o) λr=>LJ (k+1) r.1:=by
 have hf:=h.i.s.f;have hp:=ho.p;have ht:=ho.t;have hx:=h.i.x;have hq:=h.i.q;have hr:=h.i.r;unfold Fy gI;refine ε.ite (λ_=>?_) λ_=>?_
 .refine ε.af (O0 hf (by omega) _ (by omega)) (ε.ite (λ_=>⟨_,rfl,h.up⟩) λ_=>En.b (L0 hf (by omega) _ ht) λs=>ε.ite (λ_=>⟨_,rfl,h.up⟩) λ_=>ε.af (afX hf (by omega) _ _ _) (ε.bind (zJ h hk (hr.ln _ _ _) (hf.lnT (by omega) _ _ _) ?_ (by omega) h.s _ _) λ_ hr=>ε.ret hr));rw[aeY];omega
 refine En.b (L0 hf (by omega) _ hp) λs=>ε.ite (λ_=>⟨_,rfl,h.up⟩) λ_=>ε.ite (λ_=>?_) λ_=>ε.ite (λ_=>?_) λ_=>?_
 .refine ε.af (afU hf (by omega) _ _ _) (ε.bind (zJ h hk (hr.add _ _ _) (hf.aax (by omega) _ _ _) ?_ (by omega) h.s _ _) λ_ hr=>ε.ret hr);have:=aeW (t:=f.S.aw) s.1 s.2.1 o.N;omega
 .refine ε.af (af5 hf (by omega) _ _) (ε.bind (zJ h hk (hr.un _ _) (hf.ahL (by omega) _ _) ?_ (by omega) h.s _ _) λ_ hr=>ε.ret hr);rw[ae0];omega
 .refine En.b (L0 hf (by omega) _ ht) λu=>ε.ite (λ_=>⟨_,rfl,h.up⟩) λ_=>ε.af (I7 hf (by omega) _ _) (ε.af (afY hf (by omega) _ _ _ _) (ε.bind (zJ h hk (hr.mv _ _ _ _) (hf.IC (by omega) _ _ _ _) ?_ (by omega) h.s _ _) λ_ hr=>ε.ret hr));rw[Wh];omega
def akb(h:LJ k f)(hk:k<=60)(ho:OB o):ε (FC f o) λr=>LJ (k+1) r.1:=by
 have hf:=h.i.s.f;have hp:=ho.p;have hx:=h.i.x;have hq:=h.i.q;have hh:=h.i.h;have hn:=hf.n;have hta:=h.i.s.ta;have hnx:=h.i.s.nx;have hr:=h.i.r
 have hd:∀n,n∈f.S.aw.η->n.aK.length<=5000:=λn hn=>by have:=hr.data hn;omega
 unfold FC gI BN;refine ε.af (O0 hf (by omega) _ (by omega)) (ε.ite (λ_=>⟨_,rfl,h.up⟩) λ_=>ε.af (iM _ _ (by omega)) (ε.ite (λ_=>⟨_,rfl,h.up⟩) λ_=>ε.ite (λ_=>?_) λ_=>ε.ite (λ_=>?_) λ_=>ε.ite (λ_=>?_) λ_=>ε.ite (λ_=>?_) λ_=>?_))
 .exact En.b (by split<;>exact En.r _) λ_=>ε.ret h.up
 .refine ε.bind (abO hf (by omega) _ _ _ (hr.SF hf (by omega) _)) λr hr=>ε.ite (λ_=>⟨_,rfl,h.up⟩) λ_=>En.b ?_ λ_=>ε.ret h.up;unfold XZ;refine ε.each (l:=r.1) (λn v=>v.length=n) (λn x v Ξ hx hv=>?_) (λv hv=>?_) _ rfl<;>unfold JN
  .exact ε.cond (by simpa using Ξ) (ε.af (aW hx) (ε.χ (by simp only[bV,dF];omega) (ε.χ (by unfold ae;dsimp only;omega) (ε.inl ⟨rfl,by simp;omega⟩))))
  .exact ε.aV (by simp) (ε.out (En.r _))
 .exact ε.bind (abP _ _ _ _ (by omega) (by omega)) λr cr=>ε.ite (λ_=>⟨_,rfl,h.up⟩) λ_=>ε.ret ⟨⟨h.up.i.s,hr,h.up.i.x,by dsimp only;omega,h.up.i.q⟩,h.s,h.o,h.f⟩
 .exact ε.bind (aj7 hf (by omega) hd _ (by omega) h.s _ _ _) λr cr=>ε.bind (zJ h hk hr (hf.up (by omega)) (by omega) (by have:=cr.1;omega) cr.2 _ _) λ_ hr=>ε.ret hr
 .unfold JO gI;refine ε.af (af4 f.S _ (by omega) (by omega) (by omega)) (ε.ite (λ_=>⟨_,rfl,h.up⟩) λ_=>ε.ret ⟨⟨h.i.s.take _,?_,?_,h.up.i.h,h.up.i.q⟩,h.s,?_,?_⟩)<;>dsimp only<;>rw[ahy]
  .exact hr
  .exact h.up.i.x
  .exact h.o
  .exact h.f
def aj9(h:LJ k f)(hk:k<=60)(ho:OB o):ε (Fw f o) λr=>LJ (k+1) r.1:=by
 have hf:=h.i.s.f;have hx:=h.i.x;have hq:=h.i.q;have hh:=h.i.h;have hn:=hf.n;have hN:=ho.n;have hD:=ho.d;have hR:=h.i.r;unfold Fw gI;refine ε.ite (λ_=>?_) λ_=>En.b (abM _ _ _ (by omega)) λy=>ε.ite (λ_=>⟨_,rfl,h.up⟩) λ_=>ε.af (iM _ _ (by omega)) ?_
 .refine ε.bind (Tb hf (by omega) _ _ _ (by omega)) λr hr=>ε.ite (λ_=>⟨_,rfl,h.up⟩) λ_=>?_
  have hu:RT r.1/\TF (2+5*k) r.1/\r.1.Next=f.S.aw.Next/\dD f.S.aw r.1:=by
   rcases hr.1 with e|⟨j,e⟩<;>rw[e]
   .exact⟨hR,hf,rfl,dD.rfl _⟩
   .exact⟨hR.free j,hf.Hk j,Ot j,dD.free hR j⟩
  have D0:=hu.2.1.up (show 2+5*k<=2+5*k+5 by omega);exact ε.af (OY (h.i.s.EA (by omega) hu.1.s D0)) (ε.ret (h.FJ hk hu.1 D0 (by have:=hu.2.2.1;omega) hu.2.2.2 (by have:=hr.2;omega)))
 dsimp only
 have mg:(gD f.S.aw.η y.1).aK.length<=4096:=by
  rcases Aw f.S.aw.η y.1 with h1|h1
  .exact hR.data h1
  .rw[h1];simp[n_]
 generalize (gD f.S.aw.η y.1).aK=D at *;refine ε.bind (R:=λv:Bool=>v=false->0<=o.N/\(o.θ=10->0<=o.M/\o.M<=4096)/\(o.θ=11->o.N<=4096)) ?_ λv hv=>ε.ite (λ_=>⟨_,rfl,h.up⟩) λq7=>?_
 .refine ε.bind (R:=λv:Bool=>v=false->0<=o.N/\(o.θ=10->0<=o.M/\o.M<=4096)) (ε.ite (λ_=>ε.ret λh=>(by cases h)) λh1=>ε.bind (R:=λv:Bool=>v=false->(o.θ=10->0<=o.M/\o.M<=4096)) (ε.ite (λ_=>ε.bind (R:=λv:Bool=>v=false->0<=o.M/\o.M<=4096) (ε.ite (λ_=>ε.ret λh=>(by cases h)) λh2=>ε.ret λh=>by simp at h2 h;omega) λv hv=>ε.ret λh _=>hv h) λh2=>ε.ret λ_ e=>absurd (by simpa using e) h2) λv hv=>ε.ret λh=>⟨by simpa using h1,hv h⟩) λv hv=>ε.bind (R:=λv:Bool=>v=false->0<=o.N/\(o.θ=10->0<=o.M/\o.M<=4096)/\(o.θ=11->o.N<=4096)) (ε.ite (λ_=>ε.ret λh=>(by cases h)) λh1=>ε.bind (R:=λv:Bool=>v=false->o.θ=11->o.N<=4096) (ε.ite (λ_=>ε.ret λh _=>by simpa using h) λh2=>ε.ret λ_ e=>absurd (by simpa using e) h2) λw hw=>ε.ret λh=>⟨(hv (by simpa using h1)).1,(hv (by simpa using h1)).2,hw h⟩) λv hv=>ε.ret hv
 obtain⟨g1,g2,g3⟩:=hv (by simpa using q7);refine ε.ite (λe=>?_) λ_=>ε.ite (λe=>?_) λ_=>?_
 .obtain⟨m1,m2⟩:=g2 (by simpa using e);exact ε.χ (by unfold ae;omega) (ε.χ (by omega) (ε.ret h.up))
 .have g3:=g3 (by simpa using e);refine ε.χ (by unfold ae;omega) (ε.ite (λ_=>⟨_,rfl,h.up⟩) λhb=>?_)
  have hb:o.N+o.aK.length<=4096:=by simpa using hb
  refine ε.bind (abN D o.N o.aK (by omega) g1 (by omega)) λx fN=>ε.af (W4 hf (by omega) _ _ (by omega)) (ε.bind (zJ h hk (hR.WT _ _) (hf.WX _ _) (by rw[Wi];omega) (by omega) h.s _ _) λ_ hr=>ε.ret hr)
 .refine ε.χ (by omega) (ε.af (W4 hf (by omega) _ _ (by rw[dq];omega)) (ε.bind (zJ h hk (hR.WT _ _) (hf.WX _ _) (by rw[Wi];omega) (by omega) h.s _ _) λ_ hr=>ε.ret hr))
def aj1(h:LJ k f)(hk:k<=60)(ho:OB o):ε (Fp f o) λr=>LJ (k+1) r.1:=by
 have hf:=h.i.s.f;have hh:=h.i.h;have hx:=h.i.x;have hta:=h.i.s.ta;have No:=h.i.s.ps;unfold Fp gI;refine En.b (En.b En.bb En.r) λ_=>ε.ite (λ_=>⟨_,rfl,h.up⟩) λ_=>En.b (by repeat' (first|exact En.r _|split)) λ_=>ε.ite (λ_=>ε.bind (aj_ h hk ho) λ_ hr=>ε.ret hr) λ_=>En.b (by repeat' (first|exact En.r _|split)) λ_=>ε.ite (λ_=>ε.bind (akb h hk ho) λ_ hr=>ε.ret hr) λ_=>En.b (by repeat' (first|exact En.r _|split)) λ_=>ε.ite (λ_=>ε.bind (aj9 h hk ho) λ_ hr=>ε.ret hr) λ_=>ε.ite (λ_=>En.b (abU h.i hk ho) λ_=>ε.ret h.up) λ_=>ε.ite (λ_=>?_) λ_=>ε.ite (λ_=>?_) λ_=>⟨_,rfl,h.up⟩
 .have e:(Aj f.S o.N).1.aw=f.S.aw:=by unfold Aj;split<;>rfl
  refine ε.af (afV f.S _ (by omega) (by omega)) (ε.ite (λ_=>⟨_,rfl,h.up⟩) λ_=>ε.ret ⟨⟨(h.i.s.drop _).up (by omega),?_,?_,h.up.i.h,h.up.i.q⟩,h.s,?_,?_⟩)<;>dsimp only<;>rw[e]
  .exact h.i.r
  .exact h.up.i.x
  .exact h.o
  .exact h.f
 .refine ε.bind (aj3 h.i.r hf (by omega) _ _ (by omega)) λr hr=>?_;obtain⟨⟨u1,u2,u3,u5⟩,u4⟩:=hr;have D0:=u2.up (show 2+5*k<=2+5*k+5 by omega);exact ε.af (OY (h.i.s.EA (by omega) u1.s D0)) (ε.ret (h.FJ hk u1 D0 (by omega) u5 (by omega)))
end
end
section
noncomputable def qz (t:Γ) (H:List bg) (Q:List aJ) (p q:List UInt8):Int⊕(Γ×List aJ×Int):=bS (np t p) λy=>bS (np t q) λw=>mS (bJ t y.1 y.2).2 (mS (fO t y.1 y.2 w.1 w.2).2.2 (bS (rD (fO t y.1 y.2 w.1 w.2).1 H Q) λz=>.inr (z.1,z.2,(bJ t y.1 y.2).1)))
noncomputable def rnA (f:cy) (v:Int⊕(Γ×List aJ×Int)):cy×da:=match v with|.inl e=>(f,⟨e,0,0,0,0,[],[]⟩)|.inr z=>(⟨gH f.S z.1,f.Holds,z.2.1⟩,⟨0,z.2.2,0,0,0,[],[]⟩)
section
variable{B k:Nat}{t:Γ}{f:cy}{p q:List UInt8}{H:List bg}{Q:List aJ}
def abf(p q:List UInt8):ir f ⟨5,0,p,q,0,0,0,[]⟩=qh 66 f ⟨5,0,p,q,0,0,0,[]⟩ ():=by
 unfold ir;rw[IV];rfl
def abh(p:List UInt8):ir f ⟨7,0,p,[],0,0,0,[]⟩=qh 68 f ⟨7,0,p,[],0,0,0,[]⟩ ():=by
 unfold ir;rw[IV];rfl
def SP(h:LJ k f)(hk:k<=60)(hp:p.length<=1000)(hq:q.length<=1000):ir f ⟨5,0,p,q,0,0,0,[]⟩=V (rnA f (qz f.S.aw f.Holds f.et p q)):=by
 have hr:=h.i.r;have hf:=h.i.s.f;have hh:=h.i.h;have pP:=h.i.q;have cO:=hr.st hf;rw[abf];unfold qh;refine ε.eq (ε.aV (by decide) (ε.aV (by decide) (ε.cond (by decide) ?_)))
 have key:Lf De f ⟨5,0,p,q,0,0,0,[]⟩=V (uo (λz=>(s8 (gH f.S z.1) (z.2.2,z.2.1))) (qz f.S.aw f.Holds f.et p q)):=by
  refine ε.eq ?_;unfold Lf De qz;refine ε.bS (WL cO (by omega) p (by omega)) λy _=>ε.bS (WL cO (by omega) q (by omega)) λw _=>ε.af (x:=wM f.S.aw y.1 y.2) (OA cO (by omega) _ _) (ε.mS λ_=>ε.af (x:=Cb f.S.aw y.1 y.2 w.1 w.2) (afd hr hf (by omega) _ _ _ _) (ε.mS λ_=>?_));have hs:=afA h.i.s hk ⟨hr.mv y.1 y.2 w.1 w.2,hf.IC (by omega) y.1 y.2 w.1 w.2⟩ (H:=f.Holds) (by omega) h.s (by omega) f.et 5 0 p q 0 0 0 [] 0 0 0 0 0;rw[aeM]at hs;exact ε.bS hs λz hz=>ε.ret rfl
 unfold Lf at key;refine ε.af key ?_;cases qz f.S.aw f.Holds f.et p q with
 |inl e=>exact ε.ret rfl
 |inr z=>exact⟨_,rfl,rfl⟩
def aaZ(h:RT f.S.aw)(hf:TF B f.S.aw)(hB:B<=4000)(hp:p.length<=1000):ε (ir f ⟨1,0,p,[],0,0,0,[]⟩) λr=>r.2.mN=match pS f.S.aw p with|.inl e=>e|.inr _=>0:=by
 rw[SZ];unfold qh;refine ε.cond (by decide) ?_;unfold Dc;rw[IU (h.st hf) (by omega) p (by omega)];cases pS f.S.aw p with
 |inl e=>exact⟨_,rfl,rfl⟩
 |inr n=>exact⟨_,rfl,rfl⟩
def SQ(h:RT f.S.aw)(hf:TF B f.S.aw)(hB:B<=4000){q:List (List UInt8)}{n:τ}(hq:PO f.S.aw q n):ε (ir f ⟨7,0,gb q,[],0,0,0,[]⟩) λr=>r.2=⟨0,n.κ,n.θ,n.a_,JY n,[],[]⟩:=by
 rw[abh];unfold qh;refine ε.aV (by decide) (ε.aV (by decide) (ε.aV (by decide) (ε.aV (by decide) (ε.cond (by decide) ?_))));have hw:=(hq.walk h).2.1;unfold Hy;rw[IU (h.st hf) (by omega) (gb q) (by omega),hq.pS h];exact⟨_,rfl,rfl⟩
def agk{z:Γ×List aJ×Int}(h:qz t H Q p q=.inr z):∃y w,np t p=.inr y/\np t q=.inr w/\(bJ t y.1 y.2).2=0/\(fO t y.1 y.2 w.1 w.2).2.2=0/\rD (fO t y.1 y.2 w.1 w.2).1 H Q=.inr (z.1,z.2.1)/\z.2.2=(bJ t y.1 y.2).1:=by
 unfold qz at h;obtain⟨y,h1,h⟩:=Lk h;obtain⟨w,h2,h⟩:=Lk h;obtain⟨h3,h⟩:=Ix h;obtain⟨h4,h⟩:=Ix h;obtain⟨v,h5,h⟩:=Lk h;cases h;exact⟨y,w,h1,h2,h3,h4,h5,rfl⟩
def agl{y w:Int×List UInt8}{v:Γ×List aJ}(h1:np t p=.inr y)(h2:np t q=.inr w)(h3:(bJ t y.1 y.2).2=0)(h4:(fO t y.1 y.2 w.1 w.2).2.2=0)(h5:rD (fO t y.1 y.2 w.1 w.2).1 H Q=.inr v):qz t H Q p q=.inr (v.1,v.2,(bJ t y.1 y.2).1):=by
 unfold qz bS mS;rw[h1,h2];dsimp only;rw[if_neg (by rw[h3];simp),if_neg (by rw[h4];simp),h5]
def Ye{v:Γ×List aJ}(h:rD t H Q=.inr v):Bm (gh t H) (jW (gh t H) Q)=true/\(∀x,x∈jW (gh t H) Q->pT (gh t H) x=false)/\v=(gh t H,jW (gh t H) Q):=by
 unfold rD at h;split at h
 .cases h
 next h1 =>
 split at h
 .cases h
 next h2 =>
 cases h;refine⟨by simpa using h1,λx hx=>?_,rfl⟩;cases ho:pT (gh t H) x with
 |false=>rfl
 |true=>exact absurd (rN.2 ⟨x,hx,ho⟩) h2
def agZ(h1:Bm (gh t H) (jW (gh t H) Q)=true)(h2:∀x,x∈jW (gh t H) Q->pT (gh t H) x=false):rD t H Q=.inr (gh t H,jW (gh t H) Q):=by
 unfold rD;rw[if_neg (by rw[h1];simp),if_neg];intro h;obtain⟨x,hx,ho⟩:=rN.1 h;rw[h2 x hx]at ho;cases ho
def TA(l:List bg):∀(o:List Int)(t:Γ),(o.foldl (mT l) t).Next=t.Next
 |[],_=>rfl
 |i::o,t=>by
  rw[RN,TA l o];unfold mT;split
  .rfl
  .exact Ot i
def LJ.X0(h:LJ k f)(hk:k<=60){y w:Int×List UInt8}{v:Γ×List aJ}(h5:rD (fO f.S.aw y.1 y.2 w.1 w.2).1 f.Holds f.et=.inr v):LJ (k+1) ⟨gH f.S v.1,f.Holds,v.2⟩:=by
 have hr:=h.i.r;have hf:=h.i.s.f;have hx:=h.i.x;have hq:=h.i.q;obtain⟨g1,g2,rfl⟩:=Ye h5;have hR:RF (2+5*k+5) (gh (fO f.S.aw y.1 y.2 w.1 w.2).1 f.Holds):=RF.settle ⟨hr.mv y.1 y.2 w.1 w.2,hf.IC (by omega) y.1 y.2 w.1 w.2⟩ _;have hn:(gh (fO f.S.aw y.1 y.2 w.1 w.2).1 f.Holds).Next=f.S.aw.Next:=(TA _ _ _).trans (Wh _ _ _ _);generalize gh (fO f.S.aw y.1 y.2 w.1 w.2).1 f.Holds=u at *;have U4:=It u h.s;have Mw:=hR.r.ut hR.f (by omega);refine⟨⟨h.i.s.OW (by omega) hR.r.ts hR.f,?_,?_,h.i.up.h,by dsimp only;omega⟩,U4.1,?_,λx hx=>?_⟩<;>dsimp only<;>rw[wo]
 .exact hR.r
 .omega
 .exact(OD hR.r hR.f (by omega) U4.1 (by omega)).2.1 g1
 .have:=g2 x hx;unfold pT at this;simp only[Bool.not_eq_false',bR,decide_eq_true_eq]at this;exact⟨_,(OH Mw x.κ).2,this.1,this.2⟩
def Qm{d:Int}{s:List UInt8}(h:np t p=.inr (d,s)):∃q,fR p=(q++[s],0)/\(∀x,x∈q->dX x=true)/\q.length<=12/\iB t 1 q=(d,0):=by
 unfold np at h;obtain⟨h1,h⟩:=Ix h;obtain⟨h2,h⟩:=Ix h;injection h with h;injection h with h3 h4;obtain⟨o1,o2,o3⟩:=zx (p:=p);unfold oT at h1 h2 h3 h4;cases hl:(fR p).1.getLast? with
 |none=>rw[hl]at h1;cases h1
 |some s' =>
  rw[hl]at h2 h3 h4;dsimp only at h2 h3 h4;subst h4;obtain⟨l,hl⟩:=List.getLast?_eq_some_iff.1 hl
  have he:(fR p).2=0:=by
   rcases o3 with e|⟨-,e⟩
   .exact e
   .rw[hl]at e;simp at e
  have hd:(fR p).1.dropLast=l:=by rw[hl,Z0]
  rw[hd]at h2 h3;have hn:∀x,x∈l->dX x=true:=λx hx=>o1 x (by rw[hl];exact nC _ hx)
  have oJ:l.length<=12:=by rw[hl]at o2;simp at o2;omega
  have hw:nu t (gb l)=iB t 1 l:=by
   unfold nu;rw[Ke hn oJ,if_neg (by simp)]
  rw[hw]at h2 h3;exact⟨l,alu hl he,hn,oJ,alu h3 h2⟩
def Yu{d:Int}{s:List UInt8}{q:List (List UInt8)}(h1:fR p=(q++[s],0))(h2:∀x,x∈q->dX x=true)(h3:q.length<=12)(h4:iB t 1 q=(d,0)):np t p=.inr (d,s):=by
 have hw:nu t (gb q)=(d,0):=by
  unfold nu;rw[Ke h2 h3,if_neg (by simp)];exact h4
 unfold np oT;rw[h1];dsimp only;rw[List.getLast?_concat,Z0];dsimp only;rw[hw];rfl
def aes{d:Int}{s:List UInt8}(h1:np t p=.inr (d,s))(h2:(match pS t p with|.inl e=>e|.inr _=>(0:Int))=70)(hd:(dj t.η d).2=0)(hs:dX s=true):bw t d s=0:=by
 obtain⟨q,q1,q2,q3,q4⟩:=Qm h1
 have hw:nu t p=if((bJ t d s).2 != 0)=true then(0,(bJ t d s).2)else((bJ t d s).1,0):=by
  unfold nu;rw[q1,if_neg (by simp)];dsimp only;rw[KB,q4,if_neg (by simp)]
 unfold pS mS at h2;rw[hw]at h2;by_cases hc:((bJ t d s).2 != 0)=true
 .rw[if_pos hc]at h2;dsimp only at h2;rw[if_pos hc]at h2;dsimp only at h2;unfold bJ at h2;rw[if_neg (by rw[hd];simp),if_neg (by rw[hs];simp)]at h2;unfold bw;cases hf:(dj t.η d).1.ψ.find? (λe=>e.aC==s)with
  |none=>rfl
  |some e=>rw[hf]at h2;cases h2
 .rw[if_neg hc]at h2;dsimp only at h2;rw[if_neg (by simp)]at h2;cases h2
end
end
section
def afo:Qw=V true:=by kernel_rfl
def Hl:cy:=⟨PY,[],[]⟩
def LI0:LI 0 Hl:=⟨SI0,RT0,by decide,by decide,by decide⟩
def afZ:Fq=V Hl:=by
 unfold Fq Jd Jp;simp[χ,Hl,PY,Qz]
def ae'(l:List dO)(hi:∀o,o∈l->ae o.N):ε (Ej l) (λr=>r=false->l.length<=50/\∀o,o∈l->OB o):=by
 unfold Ej;refine ε.ite (λ_=>ε.ret λh=>(by cases h)) λAz=>?_
 have Az:l.length<=50:=by rw[decide_eq_true_eq]at Az;omega
 unfold VS;refine ε.pB (l:=l) (λn=>∀o,o∈l.take n->OB o) (λn x Ξ hx hP=>?_) (λhP=>?_) (by simp)<;>unfold Ip
 .refine ε.cond (by simpa using Ξ) (ε.af (aW hx) (ε.bind (R:=λv:Bool=>v=false->OB x) ?_ λv hv=>ε.ite (λ_=>ε.out (ε.ret λh=>(by cases h))) λhL=>ε.χ (by unfold ae;omega) (ε.inl ⟨rfl,λo ho=>?_⟩)))
  .unfold Iq;refine ε.bind (R:=λv:Bool=>v=false->OB x) (ε.bind (R:=λv:Bool=>v=false->x.aK.length<=5000/\x.ib.length<=1000) (ε.ite (λ_=>ε.ret λh=>(by cases h)) λh1=>ε.ret λh=>by simp at h1 h;omega) λv hv=>ε.bind (R:=λv:Bool=>v=false->OB x) (ε.ite (λ_=>ε.ret λh=>(by cases h)) λh1=>ε.ret λh=>?_) λv hv=>ε.ret hv) λv hv=>ε.ret hv;have:=hv (by simpa using h1);exact⟨this.2,by simp at h;omega,this.1,hi x (fz hx)⟩
  .rw[h_ hx]at ho
   rcases ep.1 ho with ho|ho
   .exact hP o ho
   .rw[cV.1 ho];exact hv (by simpa using hL)
 .rw[gl]at hP;exact ε.aV (by simp) (ε.out (ε.ret λ_=>⟨Az,hP⟩))
def LJ0:LJ 0 Hl:=by
 refine⟨LI0,o9,λj x y hx _ _=>?_,λq hq=>(by cases hq)⟩;obtain⟨d,hd,e,he,-⟩:=C6.1 hx;obtain rfl:=cV.1 hd;cases he
def aj5(l:List dO)(hl:l.length<=50)(hO:∀o,o∈l->OB o):ε (Ek l) λf=>LJ l.length f:=by
 unfold Ek;refine ε.af afZ (ε.bind (R:=λv:List τ×Int×Int×Int×List Int×List cq×List cG×Int×List bg×List aJ=>LJ l.length ⟨⟨⟨v.1,v.2.1,v.2.2.1⟩,v.2.2.2.1,v.2.2.2.2.1,v.2.2.2.2.2.1,v.2.2.2.2.2.2.1,v.2.2.2.2.2.2.2.1⟩,v.2.2.2.2.2.2.2.2.1,v.2.2.2.2.2.2.2.2.2⟩) ?_ λv hv=>ε.ret hv);unfold VT;refine ε.each (l:=l) (λn(v:List τ×Int×Int×Int×List Int×List cq×List cG×Int×List bg×List aJ)=>LJ n ⟨⟨⟨v.1,v.2.1,v.2.2.1⟩,v.2.2.2.1,v.2.2.2.2.1,v.2.2.2.2.2.1,v.2.2.2.2.2.2.1,v.2.2.2.2.2.2.2.1⟩,v.2.2.2.2.2.2.2.2.1,v.2.2.2.2.2.2.2.2.2⟩) (λn x v Ξ hx hv=>?_) (λv hv=>?_) _ LJ0<;>unfold Ir
 .exact ε.cond (by simpa using Ξ) (ε.af (aW hx) (ε.bind (aj1 hv (by omega) (hO _ (fz hx))) λr hr=>ε.χ (by unfold ae;dsimp only;omega) (ε.inl ⟨rfl,hr⟩)))
 .exact ε.aV (by simp) (ε.out (ε.ret hv))
def LI.L5{k:Nat}{f:cy}(h:LI k f)(hk:k<=55):(f.S.aw.η.map nH).sum<=3900:=by
 have h1:=Oe (k+2) (f.S.aw.η.map (·.κ)) (by rw[zR];exact h.r.s.imp λh=>by omega) λx hx=>by
  obtain⟨n,hn,rfl⟩:=cL.1 hx;have:=h.r.lo n hn;have:=h.x;omega
 rw[au]at h1
 have:=YG (l:=f.S.aw.η) (g:=nH) (c:=64) λn hn=>by have:=(h.r.en n hn).n;unfold nH;omega
 omega
def bor{a b:Bool}:(if a=true then V true else V b)=V (a||b):=by cases a<;>rfl
def aev{B:Int->Option (Int⊕Bool)}(L:Nat)(h1:∀n:Nat,n<L->B (n:Int)=V (.inl ((n:Int)+1))){r:Bool}(h2:B (L:Int)=V (.inr r)):loop B 0=V r:=by
 refine ε.eq ?_;refine ε.loop (λs:Int=>∃n:Nat,s=(n:Int)/\n<=L) (λs=>L-s.toNat) ?_ _ ⟨0,rfl,by omega⟩;rintro s ⟨n,rfl,hn⟩;by_cases Ξ:n<L
 .exact⟨_,h1 n Ξ,⟨n+1,by omega,Ξ⟩,by omega⟩
 .have:n=L:=by omega
  subst this;exact⟨_,h2,rfl⟩
def af0(a:da)(h:a.jy.length<=1000000):Fu a a=V true:=by
 unfold Fu;simp only[bne_self_eq_false,bor,aS,Rn,beq_self_eq_true,Bool.not_true,Bool.or_false,oq,if_false];unfold XR;refine aev a.jy.length (λn hn=>?_) ?_
 .unfold Fv;have hx:=bD hn
  have hd:decide ((n:Int)<(a.jy.length:Int))=true:=by simpa using hn
  simp only[hd,if_true,aW hx,aS,beq_self_eq_true,Bool.not_true,oq,if_false];rw[dW (by unfold ae;omega)]
 .unfold Fv;simp[JD,Cat.out]
def T6{u:Γ}{q:List aJ}{i:Int}(h:(gN u.η i).isSome=true):mc (jW u q) i=mc q i:=by
 unfold mc jW;rw[uC,rN,rN];constructor
 .rintro ⟨x,hx,he⟩;exact⟨x,(dK.1 hx).1,he⟩
 .rintro ⟨x,hx,he⟩;refine⟨x,dK.2 ⟨hx,?_⟩,he⟩
  have he:x.κ=i:=by simpa using he
  rw[he];exact h
def aeP{t:Γ}{d1 d2:Int}{s1 s2:List UInt8}(he:(fO t d1 s1 d2 s2).2.2=0):(dj t.η d2).2=0/\dX s2=true:=by
 unfold fO at he;split at he
 .next hc=>rw[he]at hc;simp at hc
 split at he
 .next hc=>rw[he]at hc;simp at hc
 next hD =>
 split at he
 .cases he
 next hR=>exact⟨mb hD,by simpa using hR⟩
def ahz{k:Nat}{f:cy}(h:LJ k f)(hk:k<=50){p q:List UInt8}(AK:(match pS f.S.aw q with|.inl e=>e|.inr _=>(0:Int))=70){z:Γ×List aJ×Int}(hz:qz f.S.aw f.Holds f.et p q=.inr z):
  LJ (k+1) ⟨gH f.S z.1,f.Holds,z.2.1⟩/\∃z',qz z.1 f.Holds z.2.1 q p=.inr z'/\z'.2.2=z.2.2/\dD f.S.aw z'.1/\LJ (k+2) ⟨gH (gH f.S z.1) z'.1,f.Holds,z'.2.1⟩:=by
 obtain⟨⟨d1,s1⟩,⟨d2,s2⟩,a1,a2,a3,a4,a5,a6⟩:=agk hz;dsimp only at a3 a4 a5 a6;have hr:=h.i.r;have hG:=h.X0 (by omega) (y:=(d1,s1)) (w:=(d2,s2)) a5;obtain⟨v1,v2,v3⟩:=Ye a5;injection v3 with v3 v4;obtain⟨b1,b2⟩:=aeP a4;have hy:=aes a2 AK b1 b2;obtain⟨c1,F,R1⟩:=V' hr a4 hy
 have AM:RT z.1:=by have:=hG.i.r;dsimp only at this;rw[wo]at this;exact this
 have Uu:TF (2+5*(k+1)) z.1:=by have:=hG.i.s.f;dsimp only at this;rw[wo]at this;exact this
 have DX:dD (fO f.S.aw d1 s1 d2 s2).1 z.1:=by rw[v3];exact dD.vv _ _ (hr.mv _ _ _ _)
 have R:Rl (i_ d1 s1 d2 s2 (bJ f.S.aw d1 s1).1) (kj (bJ f.S.aw d1 s1).1 d2) f.S.aw z.1:=R1.comp DX;generalize hx:(bJ f.S.aw d1 s1).1=x at *;obtain⟨l1,l2,l3⟩:=aeO hr AM Uu (by omega) F R;obtain⟨pn,F',R2⟩:=V' AM l3 l2;rw[l1]at R2;dsimp only at R2;have S2:=aeQ hr F R R2;obtain⟨q1,e1,e2,e3,e4⟩:=Qm a1;obtain⟨q2,g1,g2,g3,g4⟩:=Qm a2;obtain⟨mf,ef,m1,m2,m3,m4⟩:=F.a;obtain⟨md,n1,n2,n3⟩:=F.b;have i1:=(bz m1).2;have i2:=(bz n1).2;obtain⟨p1,o1,o2⟩:=Zu hr AM F R q1 (n:=mf) m2 ⟨e2,by rw[i1];exact e4,by rw[i1];exact m1⟩ (by rw[i1];exact F.YW hr);obtain⟨p2,r1,r2⟩:=Zu hr AM F R q2 (n:=md) n2 ⟨g2,by rw[i2];exact g4,by rw[i2];exact n1⟩ (by rw[i2];exact F.u);have sp1:np z.1 p=.inr (d1,s1):=Yu e1 e2 e3 (by have:=o1.2.1;rw[o2,i1]at this;exact this);have sp2:np z.1 q=.inr (d2,s2):=Yu g1 g2 g3 (by have:=r1.2.1;rw[r2,i2]at this;exact this);have hR:RF (2+5*(k+1)+5) (gh (fO z.1 d2 s2 d1 s1).1 f.Holds):=RF.settle ⟨AM.mv d2 s2 d1 s1,Uu.IC (by omega) d2 s2 d1 s1⟩ _;have S3:dD f.S.aw (gh (fO z.1 d2 s2 d1 s1).1 f.Holds):=S2.comp (dD.vv _ _ (AM.mv _ _ _ _));have A2:=It (gh (fO z.1 d2 s2 d1 s1).1 f.Holds) hG.s;have pP:=hG.i.q;dsimp only at A2 pP;have st:=agZ (t:=(fO z.1 d2 s2 d1 s1).1) (H:=f.Holds) (Q:=z.2.1) ?_ ?_
 .have g_:=agl (y:=(d2,s2)) (w:=(d1,s1)) sp2 sp1 (by rw[l1]) l3 st;refine⟨hG,_,g_,by dsimp only;rw[l1,a6],S3,?_⟩;have:=hG.X0 (by omega) (y:=(d2,s2)) (w:=(d1,s1)) (v:=(gh (fO z.1 d2 s2 d1 s1).1 f.Holds,jW (gh (fO z.1 d2 s2 d1 s1).1 f.Holds) z.2.1)) (by dsimp only;rw[wo];exact st);exact this
 .refine(OD hR.r hR.f (by omega) A2.1 (by omega)).2.2 (S3.one hr hR.r (λi n hn dz=>?_) h.o);obtain⟨m,w1,-⟩:=S3.B9 hn (.inl dz);obtain⟨m',w2,-⟩:=R.to i n hn (.inl dz);rw[T6 (by rw[w1];rfl),v4,T6 (by rw[<-v3,w2];rfl)]
 .intro y qt;have y1:=(dK.1 qt).1;rw[v4]at y1;exact((h.f y (dK.1 y1).1).FJ hr S3).over (hR.r.ut hR.f (by omega))
def afQ{t h:Γ}(ht:RT t)(hh:RT h)(hs:dD t h){A A':List (List (List UInt8))}(hA:BF t A.length A)(Dk:BF h A'.length A'):A'.length=A.length:=by
 refine((Gv Dk.nd hA.nd).2 λq=>⟨λhq=>?_,λhq=>?_⟩).length_eq
 .obtain⟨m,hm⟩:=Dk.po q hq;obtain⟨n,hn,-⟩:=hs.op ht q hm;exact hA.all ht q hn
 .obtain⟨m,hm⟩:=hA.po q hq;obtain⟨n,hn,-⟩:=hs.po hh q hm;exact Dk.all hh q hn
def Iw{β:Type}{e a:Int}{v:Int⊕β}(h:mS e v=.inl a)(hv:v=.inl a->a≠0):a≠0:=by
 unfold mS at h;split at h
 .next he=>cases h;simpa using he
 .exact hv h
def Lj{α β:Type}{a:Int}{v:Int⊕α}{k:α->Int⊕β}(h:bS v k=.inl a)(hv:v=.inl a->a≠0)(hk:∀b,k b=.inl a->a≠0):a≠0:=by
 cases v with
 |inl e=>cases h;exact hv rfl
 |inr b=>exact hk b h
def Yt{t:Γ}{p:List UInt8}{a:Int}(h:np t p=.inl a):a≠0:=Iw h λh=>Iw h λh=>(by cases h)
def agj{t:Γ}{H:List bg}{Q:List aJ}{p q:List UInt8}{a:Int}(h:qz t H Q p q=.inl a):a≠0:=
 Lj h Yt λ_ h=>Lj h Yt λ_ h=>Iw h λh=>Iw h λh=>Lj h (λh=>by
  unfold rD at h;split at h
  .cases h;decide
  split at h
  .cases h;decide
  .cases h) λ_ h=>(by cases h)
def ahk{t h:Γ}(hh:RT h)(hs:dD t h){q:List (List UInt8)}{n:τ}(hn:PO t q n):∃m,PO h q m/\m.κ=n.κ/\m.θ=n.θ/\m.a_=n.a_/\JY m=JY n:=by
 obtain⟨m,m1,m2⟩:=hs.po hh q hn;obtain⟨n',n1,n2,n3,n4,n5,n6⟩:=hs.Ar m1.2.2
 have:n'=n:=by rw[m2,hn.2.2]at n1;exact(iP n1).symm
 subst this
 have hl:m.ψ.length=n'.ψ.length:=by
  have:=congrArg RS n6;unfold sE at this;rw[au,au]at this;exact this
 exact⟨m,m1,m2,n2,n3,by unfold JY;rw[n4,hl]⟩
def ae7{l:List dO}(h:IN l):∀o,o∈l->ae o.N:=λo ho=>(h.2 o ho).2.2.2.2.1
def aef(l:List dO)(p q:List UInt8)(h1:IN l)(h2:yL p)(h3:yL q):FZ l p q=V true:=by
 refine ε.eq ?_;unfold FZ;refine ε.af afo (ε.bind (R:=λv:Bool=>v=false->(l.length<=50/\∀o,o∈l->OB o)/\p.length<=1000/\q.length<=1000) ?_ λv hv=>ε.ite (λ_=>ε.ret rfl) λh0=>?_)
 .refine ε.bind (ae' l (ae7 h1)) λr hr=>ε.bind (R:=λv:Bool=>v=false->(l.length<=50/\∀o,o∈l->OB o)/\p.length<=1000) (ε.ite (λ_=>ε.ret λh=>(by cases h)) λg=>ε.ret λh=>⟨hr (by simpa using g),by simp at h;omega⟩) λv hv=>ε.bind (R:=λv:Bool=>v=false->(l.length<=50/\∀o,o∈l->OB o)/\p.length<=1000/\q.length<=1000) (ε.ite (λ_=>ε.ret λh=>(by cases h)) λg=>ε.ret λh=>⟨(hv (by simpa using g)).1,(hv (by simpa using g)).2,by simp at h;omega⟩) λv hv=>ε.ret hv
 obtain⟨⟨Az,hO⟩,hp,hq⟩:=hv (by simpa using h0);refine ε.bind (aj5 l Az hO) λf hf=>?_;have hr:=hf.i.r;have NF:=hf.i.s.f;refine ε.bind (aaZ hr NF (by omega) hq) λx4 aZ=>ε.af (SP hf (by omega) hp hq) ?_;cases hz:qz f.S.aw f.Holds f.et p q with
 |inl e =>
  have he:=agj hz;exact ε.af (a:=true) (ε.eq (ε.af (a:=true) (ε.eq (ε.cond (by show(e != 0)=true;simpa using he) (ε.ret rfl))) (ε.ret rfl))) (ε.cond rfl (ε.ret rfl))
 |inr z =>
  refine ε.af (a:=x4.2.mN != 70) (ε.eq (ε.af (a:=x4.2.mN != 70) (ε.eq (ε.aV (by show ¬((0:Int) != 0)=true;simp) (ε.ret rfl))) (ε.ret rfl))) (ε.ite (λ_=>ε.ret rfl) λh70=>?_);have AK:=aZ.symm.trans (show x4.2.mN=70 by simpa using h70);obtain⟨hG,z',g_,hi,hS,hH⟩:=ahz hf Az AK hz;have U9:=SP hG (by omega) hq hp;rw[show(⟨gH f.S z.1,f.Holds,z.2.1⟩:cy).S.aw=z.1 from wo _ _,g_]at U9;refine ε.af U9 ?_
  have TY:dD f.S.aw (⟨gH (gH f.S z.1) z'.1,f.Holds,z'.2.1⟩:cy).S.aw:=by dsimp only;rw[wo];exact hS
  have HF:=hH.i.r;have TU:=hH.i.s.f;have hHw:=hH.i.L5 (by omega);show ε ((zy f 64).bind _) _;refine ε.bind (SR hr NF (by omega) (hf.i.L5 (by omega)) (b:=64) (by omega)) ?_;rintro⟨all,ok⟩ ⟨rfl,A,hA,rfl⟩;refine ε.af (a:=false) (ε.eq (ε.af (a:=false) (ε.eq (ε.aV (by show ¬((0:Int) != 0)=true;simp) (ε.ret ?_))) (ε.af (a:=false) (ε.eq (ε.aV (by simp) (ε.ret rfl))) (ε.ret rfl)))) (ε.aV (by simp) ?_)
  .show (z'.2.2 != z.2.2)=false;rw[hi];simp
  show ε (Qu _ f (⟨gH (gH f.S z.1) z'.1,f.Holds,z'.2.1⟩,_) true 0) _;unfold Qu;generalize (⟨gH (gH f.S z.1) z'.1,f.Holds,z'.2.1⟩:cy)=h at *;have hAl:=hA.up hr;have akv:=hf.i.L5 (by omega);refine ε.pB (l:=A.map gb) (λ_=>True) (λn x Ξ hx _=>?_) (λ_=>?_) trivial<;>unfold Kh
  .rw[au]at Ξ;have hxA:=bD Ξ
   have fN:x=gb A[n]:=by rw[o_,hxA]at hx;cases hx;rfl
   subst fN;obtain⟨nd,hn⟩:=hA.po A[n] (eA Ξ);obtain⟨m,m1,m2,m3,m4,m5⟩:=ahk HF TY hn;refine ε.cond (by simpa using Ξ) (ε.af (aW hx) (ε.bind (SQ hr NF (by omega) hn) λr9 h9=>ε.af (aW hx) (ε.bind (SQ HF TU (by omega) m1) λr11 Ay=>?_)))
   have e:r11.2=r9.2:=by rw[h9,Ay,m2,m3,m4,m5]
   rw[e];exact ε.af (af0 r9.2 (by rw[h9];simp)) (ε.aV (by simp) (ε.χ (by unfold ae;omega) (ε.inl ⟨rfl,trivial⟩)))
  .refine ε.aV (by simp) (ε.out ?_);unfold Ki;refine ε.bind (SR HF TU (by omega) hHw (b:=64) (by omega)) ?_;rintro⟨akk,ok⟩ ⟨rfl,A',Dk,rfl⟩;have hlen:=afQ hr HF TY hA Dk;refine ε.af (a:=true) (ε.eq (ε.af (a:=true) (ε.eq (ε.cond rfl (ε.ret rfl))) (ε.af (a:=true) (ε.eq (ε.cond rfl (ε.ret ?_))) (ε.ret rfl)))) (ε.ret rfl);rw[beq_iff_eq,au,au,hlen]
end
end Go.Proofs
