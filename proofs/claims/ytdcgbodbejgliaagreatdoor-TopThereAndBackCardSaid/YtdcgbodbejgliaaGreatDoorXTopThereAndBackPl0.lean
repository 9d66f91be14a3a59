/- The plain law, piece 0. No condition. -/
import Derived.Test.YtdcgbodbejgliaaGreatDoorXTopThereAndBackSp
import Derived.IntWalk
open Option renaming some->V
open Bool renaming and_eq_true->bR,not_eq_true'->lC,false_eq_true->oq,eq_false_iff->oo,or_eq_true->s6,not_eq_true->rJ,eq_iff_iff->uC,not_false->Cv,not_true->Rp,true_and->KE,and_false->alq
open Go.Op renaming bytesLess->eB
open Int renaming toNat_natCast->gv,le_refl->o8,natCast_nonneg->ZX
open List renaming length_map->au,getElem?_eq_getElem->bD,length_cons->bV,mem_cons->bp,mem_cons_of_mem->cw,map_append->bO,mem_singleton->cV,length_append->cZ,getElem?_eq_some_iff->eZ,length_take->dq,length_nil->dF,mem_filter->dK,mem_map->cL,mem_of_getElem?->fz,pairwise_cons->e9,mem_append->ep,filter_cons->eL,getElem_mem->eA,take_length->gl,getElem?_take->fS,replicate->ia,mem_of_find?_eq_some->lE,length_filter_le->j2,map_cons->fT,drop_eq_nil_of_le->kN,filter_append->lD,mem_append_left->nC,length_eq_zero_iff->qJ,findIdx?_eq_none_iff->uI,filter_eq_self->ot,append_assoc->l7,drop_eq_getElem_cons->rO,pairwise_iff_getElem->xa,pairwise_singleton->uL,any_eq_false->qG,findIdx?_eq_some_iff_getElem->KN,append_nil->qH,take_append_drop->qL,any_eq_true->rN,take_add_one->s7,sum_cons->pc,map_map->w9,find?_eq_none->w8,pairwise_map->zR,takeWhile_cons->CB,cons_append->Cz,countP_cons->zP,perm_ext_iff_of_nodup->Gv,foldl_cons->RN,dropLast_concat_getLast->RJ,length_filter_lt_length_iff_exists->Z_,find?_some->RM,nodup_append->RY,getElem?_eq_none->RO,map_nil->RV,find?_cons->KM,getElem!_eq_getElem?_getD->Z6,sum_append->KS,take_append_of_le_length->aab,countP_pos_iff->RI,drop_length->Z2,intercalate->RQ,takeWhile_prefix->aaa,length_dropLast->Z9,sum_nil->RZ,find?_filter->Z3,take_take->alr
open List.Pairwise renaming nil->o9,filter->w7
open Nat renaming le_refl->bm,le_trans->dZ,lt_or_ge->fa,zero_le->iE,eq_zero_or_pos->pf,lt_trichotomy->R6
open Ne renaming symm->lG
open Option renaming bind_some->aS,isSome_iff_exists->kv
open Option.some renaming inj->iP
open UInt8 renaming not_lt->K0,lt_iff_toNat_lt->aan,le_antisymm->aam,lt_irrefl->aao
namespace Go.Proofs
set_option linter.all false
open Go Go.Cat
section
def ab4(OF:List cq)(h:OF.length*96<=140737488355328):J5 OF=V OF:=SG h
def aeE(x1:τ×Bool)(lx:(Int×Γ×Int×(List (Int×Bool)))->Option ((List τ)×Int×Int×Int×(List (Int×Bool))))(uv:(Int×Γ×Int×(List (Int×Bool)))->Option ((List τ)×Int×Int×Int×(List (Int×Bool))))(hs:∀a,dA (lx a) (uv a))(s1:Int×(List τ)×Int×Int×Int×(List (Int×Bool))):dA (yS x1 lx s1) (yS x1 uv s1):=by
 unfold yS
 repeat' (first|with_reducible exact hs|with_reducible exact hs _|with_reducible refine dA.bind ?_ (λ_=>?_)|with_reducible refine dA.ite ?_ ?_|with_reducible refine dA.χ ?_|with_reducible refine dA.fH (λ_=>?_) (λ_=>?_)|with_reducible refine dA.out ?_|with_reducible exact dA.refl _)
def aeG(x1:τ×Bool)(lx:(Int×Γ×Int×(List (Int×Bool)))->Option ((List τ)×Int×Int×Int×(List (Int×Bool))))(uv:(Int×Γ×Int×(List (Int×Bool)))->Option ((List τ)×Int×Int×Int×(List (Int×Bool))))(hs:∀a,dA (lx a) (uv a))(s1:Int×(List τ)×Int×Int×Int×(List (Int×Bool))):dA (EE x1 lx s1) (EE x1 uv s1):=dA.aeu (λs=>aeE x1 lx uv hs s) s1
def aeF(lx:(Int×Γ×Int×(List (Int×Bool)))->Option ((List τ)×Int×Int×Int×(List (Int×Bool))))(uv:(Int×Γ×Int×(List (Int×Bool)))->Option ((List τ)×Int×Int×Int×(List (Int×Bool))))(hs:∀a,dA (lx a) (uv a))(WE:Int)(Wy:Γ)(Wz:Int)(WD:List (Int×Bool)):dA (sO lx WE Wy Wz WD) (sO uv WE Wy Wz WD):=by
 unfold sO
 repeat' (first|with_reducible apply aeG|with_reducible exact hs|with_reducible exact hs _|with_reducible refine dA.bind ?_ (λ_=>?_)|with_reducible refine dA.ite ?_ ?_|with_reducible refine dA.χ ?_|with_reducible refine dA.fH (λ_=>?_) (λ_=>?_)|with_reducible refine dA.out ?_|with_reducible exact dA.refl _)
end
section
def ε.tG{β σ ρ:Type}{l:List β}{B:σ->Option (σ⊕ρ)}(di:σ->Int)(I:Nat->σ->Prop){Q:ρ->Prop}
  (h1:∀(n:Nat)(x:β)(a:σ),n<l.length->l[n]?=V x->di a=n->I n a->ε (B a) (qc (λs=>di s=(n:Int)+1/\I (n+1) s) Q))
  (h2:∀a,di a=l.length->I l.length a->ε (B a) (qc (λ_=>False) Q)) (a:σ) (hc:di a=0) (h0:I 0 a):ε (Cat.loop B a) Q:=by
 refine ε.loop (λs:σ=>∃n:Nat,di s=n/\n<=l.length/\I n s) (λs=>l.length+1-(di s).toNat) ?_ a ⟨0,hc,iE _,h0⟩;rintro a ⟨n,AT,hn,hi⟩
 rcases fa n l.length with Ξ|eW
 .refine(h1 n _ a Ξ (bD Ξ) AT hi).mono λy hy=>?_;cases y with
  |inl s=>exact⟨⟨n+1,hy.1,Ξ,hy.2⟩,by show l.length+1-(di s).toNat<_;rw[hy.1];omega⟩
  |inr r=>exact hy
 .obtain rfl:n=l.length:=by omega
  refine(h2 a AT hi).mono λy hy=>?_;cases y with
  |inl s=>exact hy.elim
  |inr r=>exact hy
def drop_cons{α:Type}{l:List α}{n:Nat}{x:α}(hx:l[n]?=V x):l.drop n=x::l.drop (n+1):=by
 obtain⟨h3,rfl⟩:=eZ.1 hx;exact rO h3
def oF{α:Type}{l:List α}{p:α->Bool}{n:Nat}(h:l.findIdx? p=V n):∃x,l[n]?=V x/\l.find? p=V x/\p x=true:=by
 obtain⟨hn,hp,hb⟩:=KN.1 h;refine⟨l[n],bD hn,?_,hp⟩;rw[List.find?_eq_some_iff_getElem];exact⟨hp,n,hn,rfl,λj hj=>by simpa using hb j hj⟩
def C9{α:Type}{l:List α}{p:α->Bool}(h:l.findIdx? p=none):l.find? p=none:=by
 rw[uI]at h;rw[w8];intro x hx;simp[h x hx]
def oI:Option Nat->Int
 |some k=>k
 |none=>-1
def IM(o:Option Nat):decide (oI o>=0)=o.isSome:=by cases o<;>simp[oI]
def Ow(o:Option Nat):decide (oI o<0)=!o.isSome:=by
 cases o with
 |none=>rfl
 |some n=>show decide ((n:Int)<0)=false;rw[decide_eq_false_iff_not];omega
def n_:τ:=⟨0,0,0,[],[],0⟩
def gN(l:List τ)(i:Int):Option τ:=l.find? (λn=>n.κ==i)
def gD(l:List τ)(i:Int):τ:=(gN l i).getD n_
def bz{l:List τ}{i:Int}{n:τ}(h:gN l i=V n):n∈l/\n.κ=i:=⟨lE h,by simpa using RM h⟩
def xN{l:List τ}{i:Int}:gN l i=none↔∀n,n∈l->n.κ≠i:=by
 unfold gN;rw[w8];simp
def aga(t:Γ)(i:Int)(hl:t.η.length<=1000000):EY t i=V (oI (t.η.findIdx? (λn=>n.κ==i))):=by
 unfold EY Xp;have:=v8 (b:=t.η) (B:=BC t i) (λn=>n.κ==i) (λn _=>(n:Int)) (-1) ?_ ?_
 .rw[this];refine congrArg V ?_;cases h:t.η.findIdx? (λn=>n.κ==i)with
  |none=>rfl
  |some n =>
   obtain⟨x,hx,-⟩:=oF h;dsimp only;rw[hx];rfl
 .intro n x hx hn;unfold BC;rw[if_pos (by simpa using hn),aW hx,aS,dW (by unfold ae;omega)];rfl
 .unfold BC;rw[if_neg (by simp)];rfl
def iM(t:Γ)(i:Int)(hl:t.η.length<=1000000):gR t i=V (gD t.η i,(gN t.η i).isSome):=by
 unfold gR;rw[aga t i hl,aS];unfold gD gN;cases h:t.η.findIdx? (λn=>n.κ==i)with
 |none=>rw[C9 h];rfl
 |some n =>
  obtain⟨x,hx,hf,-⟩:=oF h;rw[hf];rw[Ow,if_neg (by simp)];show(idx _ (n:Int)).bind _=_;rw[aW hx];rfl
def dj(l:List τ)(i:Int):τ×Int:=if(gN l i).isSome then(if(gD l i).θ != 2 then(n_,73)else(gD l i,0))else(n_,70)
def I_(t:Γ)(i:Int)(hl:t.η.length<=1000000):wA t i=V (dj t.η i):=by
 unfold wA dj;rw[iM t i hl,aS];dsimp only;cases (gN t.η i).isSome with
 |false=>rfl
 |true=>rw[if_neg (by simp),if_pos rfl];split<;>rfl
def dX(s:List UInt8):Bool:=decide (1<=s.length)&&decide (s.length<=32)&&!(s == [46])&&!(s == [46,46])&&!(s.any λx=>decide ((x.toNat:Int)<32)||(x.toNat:Int)==47)
def I'(s:List UInt8):wq s=V (dX s):=by
 unfold wq dX Xc;by_cases h1:s.length<1
 .rw[if_pos (by simp;omega)];simp;omega
 by_cases h2:s.length>32
 .rw[if_neg (by simp;omega),aS,if_pos (by simp;omega)];simp;omega
 rw[if_neg (by simp;omega),aS,if_neg (by simp;omega),aS];by_cases h3:(s == [46,46])=true
 .have:s=[46,46]:=by simpa using h3
  subst this;simp
 by_cases h4:(s == [46])=true
 .have:s=[46]:=by simpa using h4
  subst this;simp
 rw[rJ]at h3 h4;simp only[h3,h4,oq,if_false,aS];have:=v8 (b:=s) (B:=Bv s) (λx=>decide ((x.toNat:Int)<32)||(x.toNat:Int)==47) (λ_ _=>false) true ?_ ?_
 .rw[this];refine congrArg V ?_
  have e1:decide (1<=s.length)=true:=by simp;omega
  have e2:decide (s.length<=32)=true:=by simp;omega
  rw[e1,e2];cases h:s.findIdx? (λx=>decide ((x.toNat:Int)<32)||(x.toNat:Int)==47)with
  |none =>
   have:(s.any λx=>decide ((x.toNat:Int)<32)||(x.toNat:Int)==47)=false:=by
    rw[qG];rw[uI]at h;intro x hx;simp[h x hx]
   rw[this];rfl
  |some n =>
   obtain⟨x,hx,-,hp⟩:=oF h;dsimp only;rw[hx,rN.2 ⟨x,fz hx,hp⟩];rfl
 .intro n x hx hn;unfold Bv;rw[if_pos (by simpa using hn),aW hx];simp only[aS];by_cases h5:(x.toNat:Int)<32
  .simp[h5];rfl
  .simp only[decide_eq_false h5,oq,if_false,aS,Bool.false_or];rw[dW (by unfold ae;omega)];rfl
 .unfold Bv;rw[if_neg (by simp)];rfl
def sL(l:List aH)(s:List UInt8):Option Nat:=l.findIdx? (λe=>e.aC==s)
def O4(n:τ)(s:List UInt8)(hl:n.ψ.length<=1000000):y7 n s=V (oI (sL n.ψ s)):=by
 unfold y7 Xo sL;have:=v8 (b:=n.ψ) (B:=BB n s) (λe=>e.aC==s) (λn _=>(n:Int)) (-1) ?_ ?_
 .rw[this];refine congrArg V ?_;cases h:n.ψ.findIdx? (λe=>e.aC==s)with
  |none=>rfl
  |some n =>
   obtain⟨x,hx,-⟩:=oF h;dsimp only;rw[hx];rfl
 .intro k x hx hn;unfold BB;rw[if_pos (by simpa using hn),aW hx,aS,dW (by unfold ae;omega)];rfl
 .unfold BB;rw[if_neg (by simp)];rfl
def eG(l:List τ):Nat->Int->Nat
 |0,_=>0
 |f+1,i=>if i=1 then 0 else eG l f (gD l i).Up+1
def LF(l:List τ)(f:Nat)(i:Int):eG l (f+1) i=if i=1 then 0 else eG l f (gD l i).Up+1:=rfl
def LD(l:List τ):∀f i,eG l f i<=f
 |0,_=>bm _
 |f+1,i=>by unfold eG;split;omega;have:=LD l f (gD l i).Up;omega
def O1(t:Γ)(i:Int)(hl:t.η.length<=1000000):uu t i=V (eG t.η 201 i:Int):=by
 unfold uu Xk
 have key:∀(f:Nat)(i d:Int),0<=d->d+f=201->loop (yZ t) (i,d)=V (d+eG t.η f i):=by
  intro f;induction f with
  |zero =>
   intro i d h0 h1;refine kJ ?_;unfold yZ
   have:¬d<=200:=by omega
   have e:(eG t.η 0 i:Int)=0:=rfl;rw[e,Int.add_zero];by_cases hi:i=1<;>simp[hi,this]<;>rfl
  |succ f ih =>
   intro i d h0 h1;by_cases hi:i=1
   .subst hi;rw[kJ (r:=d)]
    .simp[eG]
    .unfold yZ;simp;rfl
   .rw[ry (s':=((gD t.η i).Up,d+1)),ih _ _ (by omega) (by omega)]
    .rw[LF,if_neg hi];refine congrArg V ?_;omega
    .unfold yZ
     have:d<=200:=by omega
     have br:(i != 1)=true:=by simpa using hi
     simp only[br,this,decide_true,if_true,aS];rw[iM t i hl,aS,dW (by unfold ae;omega)]
 rw[key 201 i 0 (by omega) (by omega),aS];simp
def tq(l:List τ)(o:Int):Nat->Int->Bool
 |0,_=>false
 |f+1,i=>if i==o then true else if i==1 then false else tq l o f (gD l i).Up
def gw(l:List τ)(i o:Int):Bool:=tq l o (l.length+1) i
def WZ(t:Γ)(i o:Int)(hl:t.η.length<=1000000):Bx t i o=V (gw t.η i o):=by
 unfold Bx Xe gw
 have key:∀(f:Nat)(i d:Int),0<=d->d+f=t.η.length+1->loop (wy t o) (i,d)=V (tq t.η o f i):=by
  intro f;induction f with
  |zero =>
   intro i d h0 h1;refine kJ ?_;unfold wy;rw[if_neg (by simp;omega)];rfl
  |succ f ih =>
   intro i d h0 h1;unfold tq;by_cases h2:(i==o)=true
   .rw[if_pos h2];refine kJ ?_;unfold wy;rw[if_pos (by simp;omega),if_pos h2];rfl
   by_cases h3:(i==1)=true
   .rw[if_neg h2,if_pos h3];refine kJ ?_;unfold wy;rw[if_pos (by simp;omega),if_neg h2,if_pos h3];rfl
   rw[if_neg h2,if_neg h3,ry (s':=((gD t.η i).Up,d+1)),ih _ _ (by omega) (by omega)];unfold wy;rw[if_pos (by simp;omega),if_neg h2,if_neg h3,iM t i hl,aS,dW (by unfold ae;omega)]
 exact key _ i 0 (by omega) (by omega)
def cu(n:τ):List τ->List τ
 |[]=>[n]
 |x::r=>if x.κ>=n.κ then n::(x::r).filter (λy=>y.κ != n.κ)else x::cu n r
def yO(n x:τ)(r:List τ):cu n (x::r)=if x.κ>=n.κ then n::(x::r).filter (λy=>y.κ != n.κ)else x::cu n r:=rfl
def OV(n:τ):∀l,(cu n l).length<=l.length+1
 |[]=>bm _
 |x::r=>by
  unfold cu;split
  .have:=j2 (λy:τ=>y.κ != n.κ) (x::r);simp only[bV]at *;omega
  .have:=OV n r;simp only[bV];omega
def yV(t:Γ)(n:τ)(hl:t.η.length<=1000000):qx t n=V ⟨cu n t.η,t.Next,t.ai⟩:=by
 refine ε.eq ?_;unfold qx Xq;refine ε.bind (R:=λv:Bool×List τ=>(if v.1 then v.2 else v.2++[n])=cu n t.η/\v.2.length<=1000001) ?_ λv hv=>?_
 .refine ε.tG (l:=t.η) (λs:Bool×Int×List τ=>s.2.1) (λk s=>(if s.1 then s.2.2++(t.η.drop k).filter (λy=>y.κ != n.κ)else s.2.2++cu n (t.η.drop k))=cu n t.η/\s.2.2.length<=k+(if s.1 then 1 else 0)) (λk x s Ξ hx hc hi=>?_) (λs hc hi=>?_) _ rfl ⟨by simp,by simp⟩
  .obtain⟨d,c,o⟩:=s;dsimp only at hc hi ⊢;subst hc;obtain⟨he,hlen⟩:=hi;rw[drop_cons hx]at he;unfold EZ;refine ε.cond (by simpa using Ξ) ?_;dsimp only;rw[aW hx];simp only[aS];cases d with
   |true =>
    simp only[Rp,oq,if_false,aS,if_true]at *;rw[eL]at he;by_cases aI:(x.κ != n.κ)=true
    .rw[if_pos aI]at he ⊢;exact ε.af (dW (by simp only[bV,dF];omega)) (ε.χ (by unfold ae;omega) (ε.inl ⟨rfl,by simpa using he,by simp;omega⟩))
    .rw[if_neg aI]at he ⊢;exact ε.af rfl (ε.χ (by unfold ae;omega) (ε.inl ⟨rfl,by simpa using he,by simp;omega⟩))
   |false =>
    simp only[Cv,oq,if_true,if_false,aS]at *;rw[yO]at he;by_cases eW:x.κ>=n.κ
    .rw[if_pos eW,eL]at he;simp only[eW,decide_true,if_true];rw[dW (by simp only[bV,dF];omega),aS];by_cases aI:(x.κ != n.κ)=true
     .rw[if_pos aI]at he ⊢;exact ε.af (dW (by simp only[cZ,bV,dF];omega)) (ε.χ (by unfold ae;omega) (ε.inl ⟨rfl,by simpa using he,by simp;omega⟩))
     .rw[if_neg aI]at he ⊢;exact ε.af rfl (ε.χ (by unfold ae;omega) (ε.inl ⟨rfl,by simpa using he,by simp;omega⟩))
    .rw[if_neg eW]at he
     have aI:(x.κ != n.κ)=true:=by simp;omega
     simp only[eW,decide_false,oq,if_false,aS];rw[if_pos aI];exact ε.af (dW (by simp only[bV,dF];omega)) (ε.χ (by unfold ae;omega) (ε.inl ⟨rfl,by simpa using he,by simp;omega⟩))
  .obtain⟨d,c,o⟩:=s;dsimp only at hc hi ⊢;subst hc;obtain⟨he,hlen⟩:=hi;rw[Z2]at he;unfold EZ;refine ε.aV (by simp) (ε.out (ε.ret ⟨?_,?_⟩))
   .cases d<;>simpa [cu]using he
   .dsimp only;split at hlen<;>omega
 .obtain⟨d,o⟩:=v;obtain⟨he,hlen⟩:=hv;dsimp only at he hlen ⊢;cases d with
  |true=>exact ε.ret (by simp only[if_true]at he;rw[<-he])
  |false =>
   simp only[oq,if_false]at he;simp only[Cv,if_true];exact ε.af (dW (by simp only[bV,dF];omega)) (ε.ret (by rw[<-he]))
def W9(t:Γ)(i:Int)(hl:t.η.length<=1000000):BD t i=V ⟨t.η.filter (λx=>x.κ != i),t.Next,t.ai⟩:=by
 refine ε.eq ?_;unfold BD Xr;refine ε.bind (R:=(·=t.η.filter (λx=>x.κ != i))) ?_ λv hv=>ε.ret (by rw[hv]);refine ε.each (l:=t.η) (λk a=>a=(t.η.take k).filter (λx=>x.κ != i)) (λk x a Ξ hx ha=>?_) (λa ha=>?_) _ rfl
 .unfold E0
  have aY:a.length<=k:=by rw[ha];exact dZ (j2 _ _) (by rw[dq];omega)
  refine ε.cond (by simpa using Ξ) ?_;dsimp only;rw[aW hx,aS];by_cases aI:(x.κ != i)=true
  .rw[if_pos aI];exact ε.af (dW (by simp only[bV,dF];omega)) (ε.χ (by unfold ae;omega) (ε.inl ⟨rfl,by rw[h_ hx,lD,<-ha];simp[aI]⟩))
  .rw[if_neg aI];exact ε.af rfl (ε.χ (by unfold ae;omega) (ε.inl ⟨rfl,by rw[h_ hx,lD,<-ha];simp[aI]⟩))
 .unfold E0;rw[gl]at ha;exact ε.aV (by simp) (ε.out (ε.ret ha))
def js(e:aH):List aH->List aH
 |[]=>[e]
 |x::r=>if(!(eB x.aC e.aC||x.aC==e.aC))=true then e::x::r else x::js e r
def yC(e x:aH)(r:List aH):js e (x::r)=if(!(eB x.aC e.aC||x.aC==e.aC))=true then e::x::r else x::js e r:=rfl
def NY(e:aH):∀l,(js e l).length=l.length+1
 |[]=>rfl
 |x::r=>by unfold js;split;rfl;simp only[bV,NY e r]
def jz(t:Γ)(i:Int)(s:List UInt8)(o:Int):Γ:=⟨cu ⟨(gD t.η i).κ,(gD t.η i).θ,(gD t.η i).a_,(gD t.η i).aK,js ⟨s,o,t.ai⟩ (gD t.η i).ψ,(gD t.η i).Up⟩ t.η,t.Next,t.ai+1⟩
def O2(t:Γ)(i:Int)(s:List UInt8)(o:Int)(hl:t.η.length<=1000000)(he:(gD t.η i).ψ.length<=1000000)(hc:0<=t.ai/\t.ai<=10000000000000):wB t i s o=V (jz t i s o):=by
 refine ε.eq ?_;unfold wB Xl;refine ε.af (iM t i hl) ?_;refine ε.bind (R:=λv:Bool×List aH=>(if v.1 then v.2 else v.2++[⟨s,o,t.ai⟩])=js ⟨s,o,t.ai⟩ (gD t.η i).ψ/\v.2.length<=1000001) ?_ λv hv=>?_
 .refine ε.tG (l:=(gD t.η i).ψ) (λs:Bool×Int×List aH=>s.2.1) (λk a=>(if a.1 then a.2.2++((gD t.η i).ψ.drop k)else a.2.2++js ⟨s,o,t.ai⟩ ((gD t.η i).ψ.drop k))=js ⟨s,o,t.ai⟩ (gD t.η i).ψ/\a.2.2.length<=k+(if a.1 then 1 else 0)) (λk x a Ξ hx hc hi=>?_) (λa hc hi=>?_) _ rfl ⟨by simp,by simp⟩
  .obtain⟨d,c,u⟩:=a;dsimp only at hc hi ⊢;subst hc;obtain⟨he,hlen⟩:=hi;rw[drop_cons hx]at he;unfold EU;refine ε.cond (by simpa using Ξ) ?_;dsimp only;rw[aW hx];simp only[aS];cases d with
   |true =>
    simp only[Rp,oq,if_false,aS,if_true]at *;exact ε.χ (by simp only[bV,dF];omega) (ε.χ (by unfold ae;omega) (ε.inl ⟨rfl,by simpa using he,by simp;omega⟩))
   |false =>
    simp only[Cv,oq,if_true,if_false,aS]at *;rw[yC]at he;by_cases eW:(!(eB x.aC s||x.aC==s))=true
    .rw[if_pos eW]at he ⊢;rw[dW (by simp only[bV,dF];omega),aS];exact ε.χ (by simp only[cZ,bV,dF];omega) (ε.χ (by unfold ae;omega) (ε.inl ⟨rfl,by simpa using he,by simp;omega⟩))
    .rw[if_neg eW]at he ⊢;rw[aS];exact ε.χ (by simp only[bV,dF];omega) (ε.χ (by unfold ae;omega) (ε.inl ⟨rfl,by simpa using he,by simp;omega⟩))
  .obtain⟨d,c,u⟩:=a;dsimp only at hc hi ⊢;subst hc;obtain⟨he,hlen⟩:=hi;rw[Z2]at he;unfold EU;refine ε.aV (by simp) (ε.out (ε.ret ⟨?_,?_⟩))
   .cases d<;>simpa [js]using he
   .dsimp only;split at hlen<;>omega
 .obtain⟨d,u⟩:=v;obtain⟨he,hlen⟩:=hv;dsimp only at he hlen ⊢
  have e2:(if(!d)=true then χ ((u.length+[(⟨s,o,t.ai⟩:aH)].length)*32<=140737488355328) (V (u++[(⟨s,o,t.ai⟩:aH)]))else V u)=V (js ⟨s,o,t.ai⟩ (gD t.η i).ψ):=by
   cases d with
   |true=>simp only[if_true]at he;rw[<-he];rfl
   |false=>simp only[oq,if_false]at he;simp only[Cv,if_true];rw[dW (by simp only[bV,dF];omega),he]
  exact ε.af e2 (ε.χ (by unfold ae;omega) (ε.af (yV _ _ hl) (ε.ret rfl)))
def eh(t:Γ)(i:Int)(s:List UInt8):Γ:=⟨cu ⟨(gD t.η i).κ,(gD t.η i).θ,(gD t.η i).a_,(gD t.η i).aK,(gD t.η i).ψ.filter (λe=>!(e.aC==s)),(gD t.η i).Up⟩ t.η,t.Next,t.ai⟩
def O3(t:Γ)(i:Int)(s:List UInt8)(hl:t.η.length<=1000000)(he:(gD t.η i).ψ.length<=1000000):wC t i s=V (eh t i s):=by
 refine ε.eq ?_;unfold wC Xn;refine ε.af (iM t i hl) ?_;refine ε.bind (R:=(·=(gD t.η i).ψ.filter (λe=>!(e.aC==s)))) ?_ λv hv=>ε.af (yV _ _ hl) (ε.ret (by rw[hv];rfl));refine ε.each (l:=(gD t.η i).ψ) (λk a=>a=((gD t.η i).ψ.take k).filter (λe=>!(e.aC==s))) (λk x a Ξ hx ha=>?_) (λa ha=>?_) _ rfl
 .unfold EX
  have aY:a.length<=k:=by rw[ha];exact dZ (j2 _ _) (by rw[dq];omega)
  refine ε.cond (by simpa using Ξ) ?_;dsimp only;rw[aW hx,aS];by_cases aI:(!(x.aC==s))=true
  .rw[if_pos aI];exact ε.af (dW (by simp only[bV,dF];omega)) (ε.χ (by unfold ae;omega) (ε.inl ⟨rfl,by rw[h_ hx,lD,<-ha,eL,if_pos aI];rfl⟩))
  .rw[if_neg aI];exact ε.af rfl (ε.χ (by unfold ae;omega) (ε.inl ⟨rfl,by rw[h_ hx,lD,<-ha,eL,if_neg aI];simp⟩))
 .unfold EX;rw[gl]at ha;exact ε.aV (by simp) (ε.out (ε.ret ha))
end
section
def bo{a b:Bool}{x:Option Bool}(h:a=false->x=V b):(if a=true then V true else x)=V (a||b):=by
 cases a with
 |true=>rfl
 |false=>rw[if_neg (by simp),h rfl];rfl
def ba{a b:Bool}{x:Option Bool}(h:a=true->x=V b):(if a=true then x else V false)=V (a&&b):=by
 cases a with
 |true=>rw[if_pos rfl,h rfl];rfl
 |false=>rfl
structure TF(B:Nat)(t:Γ):Prop where
 n:t.η.length<=B
 e:∀n,n∈t.η->n.ψ.length<=B
 l:∀n,n∈t.η->-(B:Int)<=n.a_/\n.a_<=B
 c:0<=t.ai/\t.ai<=B
 x:0<=t.Next/\t.Next<=B
def TF.up{B C:Nat}{t:Γ}(h:TF B t)(hC:B<=C):TF C t:=
 ⟨dZ h.n hC,λn hn=>dZ (h.e n hn) hC,λn hn=>by have:=h.l n hn;omega,by have:=h.c;omega,by have:=h.x;omega⟩
def Aw(l:List τ)(i:Int):gD l i∈l\/gD l i=n_:=by
 unfold gD;cases h:gN l i with
 |none=>exact .inr rfl
 |some n=>exact .inl (bz h).1
def TF.gE{B:Nat}{t:Γ}(h:TF B t)(i:Int):(gD t.η i).ψ.length<=B:=by
 rcases Aw t.η i with h1|h1
 .exact h.e _ h1
 .rw[h1];exact iE _
def TF.gL{B:Nat}{t:Γ}(h:TF B t)(i:Int):-(B:Int)<=(gD t.η i).a_/\(gD t.η i).a_<=B:=by
 rcases Aw t.η i with h1|h1
 .exact h.l _ h1
 .rw[h1];show -(B:Int)<=0/\(0:Int)<=B;omega
def WW{n x:τ}:∀{l:List τ},x∈cu n l->x=n\/(x∈l/\x.κ≠n.κ)\/(x∈l/\x.κ<n.κ)
 |[],h=>by simp[cu]at h;exact .inl h
 |y::r,h=>by
  rw[yO]at h;split at h
  .rcases bp.1 h with h|h
   .exact .inl h
   .obtain⟨h1,h2⟩:=dK.1 h;exact .inr (.inl ⟨h1,by simpa using h2⟩)
  .next Ξ =>
   rcases bp.1 h with h|h
   .exact .inr (.inr ⟨by rw[h];simp,by rw[h];omega⟩)
   .rcases WW h with h|h|h
    .exact .inl h
    .exact .inr (.inl ⟨cw _ h.1,h.2⟩)
    .exact .inr (.inr ⟨cw _ h.1,h.2⟩)
def sN{n x:τ}{l:List τ}(h:x∈cu n l):x=n\/(x∈l/\x.κ≠n.κ):=by
 rcases WW h with h|h|h
 .exact .inl h
 .exact .inr h
 .exact .inr ⟨h.1,by have:=h.2;omega⟩
def TF.put{B:Nat}{t:Γ}(h:TF B t){n:τ}(h1:n.ψ.length<=B+1)(h2:-(B+1:Int)<=n.a_/\n.a_<=B+1){x c:Int}(hx:0<=x/\x<=B+1)(hc:0<=c/\c<=B+1):TF (B+1) ⟨cu n t.η,x,c⟩:=by
 refine⟨dZ (OV n t.η) (Nat.succ_le_succ h.n),λy hy=>?_,λy hy=>?_,hc,hx⟩
 .rcases sN hy with rfl|⟨hy,-⟩
  .exact h1
  .have:=h.e _ hy;omega
 .rcases sN hy with rfl|⟨hy,-⟩
  .exact h2
  .have:=h.l _ hy;omega
def TF.drop{B:Nat}{t:Γ}(h:TF B t)(i:Int):TF B ⟨t.η.filter (λx=>x.κ != i),t.Next,t.ai⟩:=
 ⟨dZ (j2 _ _) h.n,λy hy=>h.e _ (dK.1 hy).1,λy hy=>h.l _ (dK.1 hy).1,h.c,h.x⟩
def TF.tH{B:Nat}{t:Γ}(h:TF B t)(i:Int)(s:List UInt8)(o:Int):TF (B+1) (jz t i s o):=by
 have h1:=h.gE i;have h2:=h.gL i;have h3:=h.c;have h4:=h.x;exact h.put (by rw[NY];omega) (by dsimp only;omega) (by omega) (by omega)
def TF.nZ{B:Nat}{t:Γ}(h:TF B t)(i:Int)(s:List UInt8):TF (B+1) (eh t i s):=by
 have h1:=h.gE i;have h2:=h.gL i;have h3:=h.c;have h4:=h.x;exact h.put (dZ (j2 _ _) (by omega)) (by dsimp only;omega) (by omega) (by omega)
def jt(t:Γ)(i:Int):Γ:=if((gD t.η i).θ==2)=true then⟨t.η.filter (λx=>x.κ != i),t.Next,t.ai⟩else⟨cu ⟨(gD t.η i).κ,(gD t.η i).θ,(gD t.η i).a_-1,(gD t.η i).aK,(gD t.η i).ψ,(gD t.η i).Up⟩ t.η,t.Next,t.ai⟩
def TF.un{B:Nat}{t:Γ}(h:TF B t)(i:Int):TF (B+1) (jt t i):=by
 have h1:=h.gE i;have h2:=h.gL i;have h3:=h.c;have h4:=h.x;unfold jt;split
 .exact(h.drop i).up (by omega)
 .exact h.put (by dsimp only;omega) (by dsimp only;omega) (by omega) (by omega)
section
variable{B:Nat}{t:Γ}
def W7(h:TF B t)(hB:B<=100000)(i:Int):y8 t i=V (jt t i):=by
 have h1:=h.n;have h2:=h.gL i;unfold y8 jt;rw[iM t i (by omega),aS];dsimp only;split
 .rw[W9 t i (by omega)];rfl
 .rw[dW (by unfold ae;omega),yV _ _ (by omega)];rfl
def Di(t:Γ)(n:τ):Bool:=decide ((n.ψ.length:Int)>=64)||decide ((eG t.η 201 n.κ:Int)>=12)||decide (t.ai>=1099511627776)
def af7(h:TF B t)(hB:B<=100000)(n:τ):EV t n=V (Di t n):=by
 have h1:=h.n;unfold EV Di;rw[bo (b:=decide ((eG t.η 201 n.κ:Int)>=12)) (λ_=>by rw[O1 t _ (by omega)];rfl),aS,bo (b:=decide (t.ai>=1099511627776)) (λ_=>rfl)];rfl
def vp(t:Γ)(i:Int)(s:List UInt8):Int:=if((dj t.η i).2 != 0)=true then(dj t.η i).2 else if(!dX s)=true then 60 else if(sL (dj t.η i).1.ψ s).isSome=true then 71 else if Di t (dj t.η i).1=true then 76 else 0
def Ai(h:TF B t)(i:Int):(dj t.η i).1.ψ.length<=B:=by
 unfold dj;split
 .split
  .exact iE _
  .exact h.gE i
 .exact iE _
def W5(h:TF B t)(hB:B<=100000)(i:Int)(s:List UInt8):BA t i s=V (vp t i s):=by
 have h1:=h.n;have h2:=Ai h i;unfold BA vp;rw[I_ t i (by omega),aS];split
 .rfl
 rw[I',aS];split
 .rfl
 rw[O4 _ _ (by omega),aS,IM];split
 .rfl
 rw[af7 h hB,aS];split<;>rfl
def uT(t:Γ)(i:Int)(s:List UInt8)(k:Int):Γ×Int×Int:=if((k != 1)&&(k != 2))=true then(t,0,1)else if(vp t i s != 0)=true then(t,0,vp t i s)else if(decide ((t.η.length:Int)>=200)||decide (t.Next>=1099511627776))=true then(t,0,76)else(jz ⟨cu ⟨t.Next,k,1,[],[],if(k==2)=true then i else 0⟩ t.η,t.Next+1,t.ai⟩ i s t.Next,t.Next,0)
def TF.Sm(h:TF B t)(k:Int)(u:Int):TF (B+1) ⟨cu ⟨t.Next,k,1,[],[],u⟩ t.η,t.Next+1,t.ai⟩:=by
 have h3:=h.c;have h4:=h.x;exact h.put (by simp) (by dsimp only;omega) (by omega) (by omega)
def afU(h:TF B t)(hB:B<=90000)(i:Int)(s:List UInt8)(k:Int):EI t i s k=V (uT t i s k):=by
 have h1:=h.n;have h3:=h.c;have h4:=h.x;unfold EI uT;rw[ba (b:=k != 2) (λ_=>rfl),aS,aS];split
 .rfl
 rw[W5 h (by omega),aS];split
 .rfl
 rw[bo (b:=decide (t.Next>=1099511627776)) (λ_=>rfl),aS,aS];split
 .rfl
 have e:(if(k==2)=true then V i else V 0)=V (if(k==2)=true then i else 0):=by split<;>rfl
 rw[e,aS,dW (by unfold ae;omega),yV _ _ (by dsimp only;omega),aS];have hf:=h.Sm k (if(k==2)=true then i else 0);rw[O2 _ _ _ _ (dZ hf.n (by omega)) (dZ (hf.gE i) (by omega)) (by have:=hf.c;omega)];rfl
def vZ(t:Γ)(i to:Int)(s:List UInt8):Γ×Int:=if(!(gN t.η i).isSome||((gD t.η i).θ==1&&(gD t.η i).a_==0))=true then(t,70)else if((gD t.η i).θ==2)=true then(t,72)else if(vp t to s != 0)=true then(t,vp t to s)else(jz ⟨cu ⟨(gD t.η i).κ,(gD t.η i).θ,(gD t.η i).a_+1,(gD t.η i).aK,(gD t.η i).ψ,(gD t.η i).Up⟩ t.η,t.Next,t.ai⟩ to s i,0)
def TF.V0(h:TF B t)(i:Int):TF (B+1) ⟨cu ⟨(gD t.η i).κ,(gD t.η i).θ,(gD t.η i).a_+1,(gD t.η i).aK,(gD t.η i).ψ,(gD t.η i).Up⟩ t.η,t.Next,t.ai⟩:=by
 have h1:=h.gE i;have h2:=h.gL i;have h3:=h.c;have h4:=h.x;exact h.put (by dsimp only;omega) (by dsimp only;omega) (by omega) (by omega)
def afX(h:TF B t)(hB:B<=90000)(i to:Int)(s:List UInt8):EK t i to s=V (vZ t i to s):=by
 have h1:=h.n;have h2:=h.gL i;have h3:=h.c;have h4:=h.x;unfold EK vZ;rw[iM t i (by omega),aS];dsimp only;rw[ba (b:=(gD t.η i).a_==0) (λ_=>rfl),aS,bo (b:=(gD t.η i).θ==1&&(gD t.η i).a_==0) (λ_=>rfl),aS,aS];split
 .rfl
 split
 .rfl
 rw[W5 h (by omega),aS];split
 .rfl
 have hf:=h.V0 i;rw[dW (by unfold ae;omega),yV _ _ (by omega),aS,O2 _ _ _ _ (dZ hf.n (by omega)) (dZ (hf.gE to) (by omega)) (by have:=hf.c;omega)];rfl
def bJ(t:Γ)(i:Int)(s:List UInt8):Int×Int:=if((dj t.η i).2 != 0)=true then(0,(dj t.η i).2)else if(!dX s)=true then(0,60)else match(dj t.η i).1.ψ.find? (λe=>e.aC==s)with|some e=>(e.κ,0)|none=>(0,70)
def I7(h:TF B t)(hB:B<=100000)(i:Int)(s:List UInt8):wz t i s=V (bJ t i s):=by
 have h1:=h.n;have h2:=Ai h i;unfold wz bJ;rw[I_ t i (by omega),aS];split
 .rfl
 rw[I',aS];split
 .rfl
 rw[O4 _ _ (by omega),aS];unfold sL;cases hk:(dj t.η i).1.ψ.findIdx? (λe=>e.aC==s)with
 |none=>rw[C9 hk];rfl
 |some k =>
  obtain⟨x,hx,hf,-⟩:=oF hk;rw[hf,Ow,if_neg (by simp)];show(idx _ (k:Int)).bind _=_;rw[aW hx];rfl
def wP(t:Γ)(i:Int)(s:List UInt8):Γ×Int×Int:=if((bJ t i s).2 != 0)=true then(t,0,(bJ t i s).2)else if decide (((gD t.η (bJ t i s).1).ψ.length:Int)>0)=true then(t,0,74)else(jt (eh t i s) (bJ t i s).1,(bJ t i s).1,0)
def af5(h:TF B t)(hB:B<=90000)(i:Int)(s:List UInt8):ES t i s=V (wP t i s):=by
 have h1:=h.n;unfold ES wP;rw[I7 h (by omega),aS];split
 .rfl
 rw[iM t _ (by omega),aS];dsimp only;split
 .rfl
 rw[O3 t i s (by omega) (by have:=h.gE i;omega),aS,W7 (h.nZ i s) (by omega)];rfl
def pz(t:Γ)(x:τ)(y:Int):Int:=if(!(gN t.η y).isSome)=true then 0 else if(x.θ==2&&(gD t.η y).θ != 2)=true then 73 else if(x.θ != 2&&(gD t.η y).θ==2)=true then 72 else if decide (((gD t.η y).ψ.length:Int)>0)=true then 74 else 0
def af6(h:TF B t)(hB:B<=100000)(x:τ)(y:Int):ET t x y=V (pz t x y):=by
 have h1:=h.n;unfold ET pz;rw[iM t y (by omega),aS];dsimp only;split
 .rfl
 rw[ba (b:=(gD t.η y).θ != 2) (λ_=>rfl),aS,aS];split
 .rfl
 rw[ba (b:=(gD t.η y).θ==2) (λ_=>rfl),aS,aS];split
 .rfl
 split<;>rfl
def oN(l:List τ)(i a:Int):Int:=l.foldl (λm n=>if(n.θ==2&&gw l n.κ i)=true then max m (a+(eG l 201 n.κ:Int)-(eG l 201 i:Int)+if decide ((n.ψ.length:Int)>0)=true then 1 else 0)else m) 0
def af9(dd:Int->Nat)(hD:∀j,uu t j=V (dd j:Int))(hle:∀j,dd j<=201)(h:TF B t)(hB:B<=100000)(i a:Int)(ha:0<=a/\a<=1000):y0 t i a=V (t.η.foldl (λm n=>if(n.θ==2&&gw t.η n.κ i)=true then max m (a+(dd n.κ:Int)-(dd i:Int)+if decide ((n.ψ.length:Int)>0)=true then 1 else 0)else m) 0):=by
 have h1:=h.n;unfold y0;rw[hD,aS];unfold Xm;have hd:=hle i;rw[aew (b:=t.η) (λm n=>if(n.θ==2&&gw t.η n.κ i)=true then max m (a+(dd n.κ:Int)-(dd i:Int)+if decide ((n.ψ.length:Int)>0)=true then 1 else 0)else m) (λ_=>True) (λa=>a) (λm k n _ hn hk=>?_) (λ_ _ _ _=>trivial) (λm _=>?_) 0 trivial,aS]
 .unfold EW;rw[if_pos (by simpa using hk),aW hn,aS];rw[ba (b:=gw t.η n.κ i) (λ_=>by rw[WZ t _ _ (by omega)];rfl),aS,aS];have hd2:=hle n.κ;by_cases hc:(n.θ==2&&gw t.η n.κ i)=true
  .rw[if_pos hc,if_pos hc,hD,aS,dW (by unfold ae;omega),dW (by unfold ae;omega)];by_cases he:decide ((n.ψ.length:Int)>0)=true
   .rw[if_pos he,if_pos he,dW (by unfold ae;omega),aS,aS,dW (by unfold ae;omega)]
   .rw[if_neg he,if_neg he,aS,aS,dW (by unfold ae;omega),Int.add_zero]
  .rw[if_neg hc,if_neg hc,aS,dW (by unfold ae;omega)]
 .unfold EW;rw[if_neg (by simp)];rfl
def af8(h:TF B t)(hB:B<=100000)(i a:Int)(ha:0<=a/\a<=1000):y0 t i a=V (oN t.η i a):=
 af9 (λj=>eG t.η 201 j) (λj=>O1 t j (by have:=h.n;omega)) (λj=>LD t.η 201 j) h hB i a ha
end
end
section
section
variable{B:Nat}{t:Γ}
def bw(t:Γ)(to:Int)(aG:List UInt8):Int:=match(dj t.η to).1.ψ.find? (λe=>e.aC==aG)with|some e=>e.κ|none=>0
def wa(t:Γ)(i from_ to y:Int):Bool:=(((y==0)&&(to != from_))&&decide (((dj t.η to).1.ψ.length:Int)>=64))||decide ((eG t.η 201 to:Int)>=12)||((gD t.η i).θ==2&&decide (oN t.η i ((eG t.η 201 to:Int)+1)>12))||decide (t.ai>=1099511627776)
def fP(t:Γ)(i from_:Int)(s:List UInt8)(to:Int)(aG:List UInt8)(y:Int):Γ:=if(y != 0)=true then jt (eh (eh t from_ s) to aG) y else eh t from_ s
def gG(t u:Γ)(i to:Int):Γ:=if((gD t.η i).θ==2)=true then⟨cu ⟨(gD t.η i).κ,(gD t.η i).θ,(gD t.η i).a_,(gD t.η i).aK,(gD t.η i).ψ,to⟩ u.η,u.Next,u.ai⟩else u
def fO(t:Γ)(from_:Int)(s:List UInt8)(to:Int)(aG:List UInt8):Γ×Int×Int:=
 if((bJ t from_ s).2 != 0)=true then(t,0,(bJ t from_ s).2)else if((dj t.η to).2 != 0)=true then(t,0,(dj t.η to).2)else if(!dX aG)=true then(t,0,60)
 else if(bw t to aG==(bJ t from_ s).1)=true then(t,0,0)
 else if((gD t.η (bJ t from_ s).1).θ==2&&gw t.η to (bJ t from_ s).1)=true then(t,0,75)
 else if(pz t (gD t.η (bJ t from_ s).1) (bw t to aG) != 0)=true then(t,0,pz t (gD t.η (bJ t from_ s).1) (bw t to aG))
 else if wa t (bJ t from_ s).1 from_ to (bw t to aG)=true then(t,0,76)
 else(jz (gG t (fP t (bJ t from_ s).1 from_ s to aG (bw t to aG)) (bJ t from_ s).1 to) to aG (bJ t from_ s).1,bw t to aG,0)
def TF.fP(h:TF B t)(i from_:Int)(s:List UInt8)(to:Int)(aG:List UInt8)(y:Int):TF (B+3) (fP t i from_ s to aG y):=by
 unfold Go.Proofs.fP;split
 .exact((h.nZ from_ s).nZ to aG).un y
 .exact(h.nZ from_ s).up (by omega)
def TF.gG{C:Nat}{u:Γ}(h:TF B t)(hu:TF C u)(hC:B<=C)(i to:Int):TF (C+1) (gG t u i to):=by
 have h1:=h.gE i;have h2:=h.gL i;have h3:=hu.c;have h4:=hu.x;unfold Go.Proofs.gG;split
 .exact hu.put (by dsimp only;omega) (by dsimp only;omega) (by omega) (by omega)
 .exact hu.up (by omega)
def af_(h:TF B t)(hB:B<=90000)(i from_ to y:Int):((if(y==0)=true then V (to != from_)else V false).bind λc2=>(if c2=true then V (decide (((dj t.η to).1.ψ.length:Int)>=64))else V false).bind λc3=>(if c3=true then V true else V (decide ((eG t.η 201 to:Int)>=12))).bind λc4=>(if c4=true then V true else(if((gD t.η i).θ==2)=true then χ (ae ((eG t.η 201 to:Int)+1)) ((y0 t i ((eG t.η 201 to:Int)+1)).bind λdI=>V (decide (dI>12)))else V false).bind λc5=>V c5).bind λc6=>(if c6=true then V true else V (decide (t.ai>=1099511627776))).bind λc7=>V c7)=V (wa t i from_ to y):=by
 have hd:=LD t.η 201 to;unfold wa;rw[ba (b:=to != from_) (λ_=>rfl),aS,ba (b:=decide (((dj t.η to).1.ψ.length:Int)>=64)) (λ_=>rfl),aS,bo (b:=decide ((eG t.η 201 to:Int)>=12)) (λ_=>rfl),aS];rw[bo (b:=(gD t.η i).θ==2&&decide (oN t.η i ((eG t.η 201 to:Int)+1)>12)) (λ_=>?_),aS,bo (b:=decide (t.ai>=1099511627776)) (λ_=>rfl),aS];rw[ba (b:=decide (oN t.η i ((eG t.η 201 to:Int)+1)>12)) (λ_=>?_),aS];rw[dW (by unfold ae;omega),af8 h (by omega) _ _ (by omega),aS]
def afY(h:TF B t)(hB:B<=90000)(from_:Int)(s:List UInt8)(to:Int)(aG:List UInt8):EL t from_ s to aG=V (fO t from_ s to aG):=by
 have h1:=h.n;have h2:=Ai h to;unfold EL fO;rw[I7 h (by omega),aS];split
 .rfl
 rw[I_ t to (by omega),aS];split
 .rfl
 rw[I',aS];split
 .rfl
 rw[O4 _ _ (by omega),aS]
 have e1:(if decide (oI (sL (dj t.η to).1.ψ aG)>=0)=true then(idx (dj t.η to).1.ψ (oI (sL (dj t.η to).1.ψ aG))).bind λx5=>V x5.κ else V 0)=V (bw t to aG):=by
  rw[IM];unfold sL bw;cases hk:(dj t.η to).1.ψ.findIdx? (λe=>e.aC==aG)with
  |none=>rw[C9 hk];rfl
  |some k =>
   obtain⟨x,hx,hf,-⟩:=oF hk;rw[hf,if_pos (show(V k).isSome=true from rfl)];show(idx _ (k:Int)).bind _=_;rw[aW hx];rfl
 rw[e1,aS];split
 .rfl
 rw[iM t _ (by omega),aS];dsimp only;rw[ba (b:=gw t.η to (bJ t from_ s).1) (λ_=>by rw[WZ t _ _ (by omega)];rfl),aS,aS];split
 .rfl
 rw[af6 h (by omega),aS];split
 .rfl
 rw[O1 t to (by omega),aS,af_ h hB,aS];split
 .rfl
 have hL:=h.nZ from_ s;have hT:=h.fP (bJ t from_ s).1 from_ s to aG (bw t to aG);have hU:=TF.gG h hT (by omega) (bJ t from_ s).1 to;rw[O3 t from_ s (by omega) (by have:=h.gE from_;omega),aS]
 have e2:(if(bw t to aG != 0)=true then(wC (eh t from_ s) to aG).bind λdU=>(y8 dU (bw t to aG)).bind λfy=>V (fy.η,fy.Next,fy.ai)else V ((eh t from_ s).η,(eh t from_ s).Next,(eh t from_ s).ai))=V ((fP t (bJ t from_ s).1 from_ s to aG (bw t to aG)).η,(fP t (bJ t from_ s).1 from_ s to aG (bw t to aG)).Next,(fP t (bJ t from_ s).1 from_ s to aG (bw t to aG)).ai):=by
  unfold fP;by_cases hc:(bw t to aG != 0)=true
  .rw[if_pos hc,if_pos hc,O3 _ to aG (dZ hL.n (by omega)) (dZ (hL.gE to) (by omega)),aS,W7 (hL.nZ to aG) (by omega),aS]
  .rw[if_neg hc,if_neg hc]
 rw[e2,aS];generalize fP t (bJ t from_ s).1 from_ s to aG (bw t to aG)=u at *
 have e3:(if((gD t.η (bJ t from_ s).1).θ==2)=true then(qx (⟨u.η,u.Next,u.ai⟩:Γ) ⟨(gD t.η (bJ t from_ s).1).κ,(gD t.η (bJ t from_ s).1).θ,(gD t.η (bJ t from_ s).1).a_,(gD t.η (bJ t from_ s).1).aK,(gD t.η (bJ t from_ s).1).ψ,to⟩).bind λly=>V (ly.η,ly.Next,ly.ai)else V (u.η,u.Next,u.ai))=V ((gG t u (bJ t from_ s).1 to).η,(gG t u (bJ t from_ s).1 to).Next,(gG t u (bJ t from_ s).1 to).ai):=by
  unfold gG;by_cases hc:((gD t.η (bJ t from_ s).1).θ==2)=true
  .rw[if_pos hc,if_pos hc,yV _ _ (dZ hT.n (by omega)),aS]
  .rw[if_neg hc,if_neg hc]
 rw[e3,aS];generalize gG t u (bJ t from_ s).1 to=w at *;show(wB w to aG _).bind _=_;rw[O2 _ _ _ _ (dZ hU.n (by omega)) (dZ (hU.gE to) (by omega)) (by have:=hU.c;omega)];rfl
def wj(t:Γ)(i:Int)(x:List UInt8):Γ×Int:=if(!(gN t.η i).isSome)=true then(t,70)else if((gD t.η i).θ==2)=true then(t,72)else if decide ((x.length:Int)>4096)=true then(t,2)else(⟨cu ⟨(gD t.η i).κ,(gD t.η i).θ,(gD t.η i).a_,x,(gD t.η i).ψ,(gD t.η i).Up⟩ t.η,t.Next,t.ai⟩,0)
def W4(h:TF B t)(hB:B<=90000)(i:Int)(x:List UInt8)(hx:x.length<=10000):Bz t i x=V (wj t i x):=by
 have h1:=h.n;unfold Bz wj;rw[iM t i (by omega),aS];dsimp only;split
 .rfl
 split
 .rfl
 split
 .rfl
 rw[dW (by simp;omega),yV _ _ (by omega)];rfl
def mV(t:Γ)(i:Int):Γ×Int:=if(!(gN t.η i).isSome)=true then(t,70)else if((gD t.η i).θ==2)=true then(t,72)else if decide ((gD t.η i).a_>0)=true then(t,71)else(⟨t.η.filter (λx=>x.κ != i),t.Next,t.ai⟩,0)
def W2(h:TF B t)(hB:B<=90000)(i:Int):By t i=V (mV t i):=by
 have h1:=h.n;unfold By mV;rw[iM t i (by omega),aS];dsimp only;split
 .rfl
 split
 .rfl
 split
 .rfl
 rw[W9 _ _ (by omega)];rfl
end
end
section
def fc(l:List τ):Prop:=l.Pairwise (λa b=>a.κ<b.κ)
def yP{n:τ}:∀{l:List τ},fc l->fc (cu n l)
 |[],_=>uL _ _
 |x::r,h=>by
  obtain⟨h1,h2⟩:=e9.1 h;rw[yO];split
  .next eW =>
   refine e9.2 ⟨λy hy=>?_,h.filter _⟩;obtain⟨hy,aI⟩:=dK.1 hy
   have aI:y.κ≠n.κ:=by simpa using aI
   rcases bp.1 hy with rfl|hy
   .omega
   .have:=h1 y hy;omega
  .next Ξ =>
   refine e9.2 ⟨λy hy=>?_,yP h2⟩
   rcases sN hy with rfl|⟨hy,-⟩
   .omega
   .exact h1 y hy
def Ts{l:List τ}(h:fc l)(p:τ->Bool):fc (l.filter p):=w7 p h
def qS(x:τ)(l:List τ)(i:Int):gN (x::l) i=if x.κ=i then V x else gN l i:=by
 unfold gN;rw[KM];by_cases h:x.κ=i
 .rw[if_pos h];simp[h]
 .rw[if_neg h]
  have:(x.κ==i)=false:=by simpa using h
  rw[this]
def vw(l:List τ)(j i:Int):gN (l.filter (λx=>x.κ != j)) i=if i=j then none else gN l i:=by
 induction l with
 |nil=>simp[gN]
 |cons x l ih =>
  rw[eL,qS];by_cases h:x.κ=j
  .have e:(x.κ != j)=false:=by simpa using h
   rw[e,if_neg (by simp),ih];by_cases hi:i=j
   .rw[if_pos hi,if_pos hi]
   .rw[if_neg hi,if_neg hi,if_neg (by omega)]
  .have e:(x.κ != j)=true:=by simpa using h
   rw[e,if_pos rfl,qS,ih];by_cases hi:i=j
   .rw[if_pos hi,if_pos hi,if_neg (by omega)]
   .rw[if_neg hi,if_neg hi]
def lO(n:τ)(i:Int):∀l,gN (cu n l) i=if i=n.κ then V n else gN l i
 |[]=>by
  unfold cu;rw[qS];by_cases h:i=n.κ
  .rw[if_pos h,if_pos h.symm]
  .rw[if_neg h,if_neg (lG h)]
 |x::r=>by
  rw[yO];by_cases h:i=n.κ
  .rw[if_pos h];split
   .rw[qS,if_pos h.symm]
   .rw[qS,if_neg (by omega),lO n i r,if_pos h]
  .rw[if_neg h];split
   .rw[qS,if_neg (lG h),vw,if_neg h]
   .rw[qS,lO n i r,if_neg h,qS]
def B0{l:List τ}(h:fc l){a b:τ}(ha:a∈l)(hb:b∈l)(e:a.κ=b.κ):a=b:=by
 induction l with
 |nil=>cases ha
 |cons x l ih =>
  obtain⟨h1,h2⟩:=e9.1 h
  rcases bp.1 ha with ha|ha<;>rcases bp.1 hb with hb|hb
  .rw[ha,hb]
  .have:=h1 b hb;rw[<-ha]at this;omega
  .have:=h1 a ha;rw[<-hb]at this;omega
  .exact ih h2 ha hb
def pD{l:List τ}(h:fc l){n:τ}(hn:n∈l):gN l n.κ=V n:=by
 cases e:gN l n.κ with
 |none=>exact absurd rfl (xN.1 e n hn)
 |some m=>have:=bz e;rw[B0 h this.1 hn this.2]
structure TS(t:Γ):Prop where
 s:fc t.η
 lo:∀n,n∈t.η->0<=n.κ/\n.κ<t.Next
 rt:∃n,gN t.η 1=V n/\n.θ=2
 en:∀n,n∈t.η->∀e,e∈n.ψ->e.κ≠1
section
variable{t:Γ}
def TS.nx(h:TS t):1<t.Next:=by
 obtain⟨n,hn,-⟩:=h.rt;have:=bz hn;have h1:=h.lo n this.1;omega
def TS.g(h:TS t)(i:Int):(0<=(gD t.η i).κ/\(gD t.η i).κ<t.Next)/\((gD t.η i).κ=1->(gD t.η i).θ=2)/\∀e,e∈(gD t.η i).ψ->e.κ≠1:=by
 have hx:=h.nx
 rcases Aw t.η i with h1|h1
 .refine⟨h.lo _ h1,λe=>?_,h.en _ h1⟩;obtain⟨n,hn,hk⟩:=h.rt;have:=bz hn;rw[<-B0 h.s this.1 h1 (by rw[this.2,e])];exact hk
 .rw[h1];exact⟨⟨o8 _,by show(0:Int)<_;omega⟩,λe=>absurd e (by show(0:Int)≠1;omega),λe he=>by cases he⟩
def TS.put(h:TS t){n:τ}{x c:Int}(hn:0<=n.κ/\n.κ<x)(hx:t.Next<=x)(hk:n.κ=1->n.θ=2)(he:∀e,e∈n.ψ->e.κ≠1):TS ⟨cu n t.η,x,c⟩:=by
 refine⟨yP h.s,λy hy=>?_,?_,λy hy=>?_⟩
 .rcases sN hy with rfl|⟨hy,-⟩
  .exact hn
  .have:=h.lo y hy;dsimp only;omega
 .obtain⟨r,hr,lg⟩:=h.rt;dsimp only;rw[lO];by_cases e:1=n.κ
  .exact⟨n,if_pos e,hk e.symm⟩
  .exact⟨r,by rw[if_neg e,hr],lg⟩
 .rcases sN hy with rfl|⟨hy,-⟩
  .exact he
  .exact h.en y hy
def TS.drop(h:TS t){i:Int}(hi:i≠1):TS ⟨t.η.filter (λx=>x.κ != i),t.Next,t.ai⟩:=by
 refine⟨Ts h.s _,λy hy=>h.lo _ (dK.1 hy).1,?_,λy hy=>h.en _ (dK.1 hy).1⟩;obtain⟨r,hr,lg⟩:=h.rt;exact⟨r,by dsimp only;rw[vw,if_neg (lG hi),hr],lg⟩
def Bb{e x:aH}:∀{l:List aH},x∈js e l↔x=e\/x∈l
 |[]=>by simp[js]
 |y::r=>by
  rw[yC];split
  .simp
  .rw[bp,Bb,bp];constructor
   .rintro (h|h|h)
    .exact .inr (.inl h)
    .exact .inl h
    .exact .inr (.inr h)
   .rintro (h|h|h)
    .exact .inr (.inl h)
    .exact .inl h
    .exact .inr (.inr h)
def TS.tH(h:TS t)(i:Int)(s:List UInt8){o:Int}(ho:o≠1):TS (jz t i s o):=by
 obtain⟨h1,h2,h3⟩:=h.g i;refine h.put h1 (o8 _) h2 λe he=>?_
 rcases Bb.1 he with rfl|he
 .exact ho
 .exact h3 e he
def TS.nZ(h:TS t)(i:Int)(s:List UInt8):TS (eh t i s):=by
 obtain⟨h1,h2,h3⟩:=h.g i;exact h.put h1 (o8 _) h2 λe he=>h3 e (dK.1 he).1
def TS.un(h:TS t){i:Int}(hi:i≠1):TS (jt t i):=by
 obtain⟨h1,h2,h3⟩:=h.g i;unfold jt;split
 .exact h.drop hi
 .exact h.put h1 (o8 _) h2 h3
def TS.fP(h:TS t)(i from_:Int)(s:List UInt8)(to:Int)(aG:List UInt8){y:Int}(hy:y≠1):TS (fP t i from_ s to aG y)/\(fP t i from_ s to aG y).Next=t.Next:=by
 unfold Go.Proofs.fP;split
 .refine⟨((h.nZ from_ s).nZ to aG).un hy,?_⟩;unfold jt;split<;>rfl
 .exact⟨h.nZ from_ s,rfl⟩
def TS.gG{u:Γ}(h:TS t)(hu:TS u)(hx:u.Next=t.Next)(i to:Int):TS (gG t u i to):=by
 obtain⟨h1,h2,h3⟩:=h.g i;unfold Go.Proofs.gG;split
 .exact hu.put (by dsimp only;omega) (o8 _) h2 h3
 .exact hu
def mb{x:Int}(h:¬(x != 0)=true):x=0:=by simpa using h
end
end
section
def ε.same{α ρ:Type}{a b:List α}{B:Int->Option (Int⊕ρ)}{Q:ρ->Prop}(fY:a.length=b.length)
  (h1:∀(n:Nat)(x y:α),n<a.length->a[n]?=V x->b[n]?=V y->ε (B (n:Int)) (λr=>(x=y/\r=.inl ((n:Int)+1))\/(x≠y/\∃q,r=.inr q/\(a≠b->Q q))))
  (h2:a=b->ε (B (a.length:Int)) (λr=>∃q,r=.inr q/\Q q)):ε (Cat.loop B 0) Q:=by
 refine ε.pB (l:=a) (λn=>a.take n=b.take n) (λn x Ξ hx hi=>?_) (λhi=>?_) (by simp)
 .have hy:=bD (show n<b.length by omega);refine(h1 n x _ Ξ hx hy).mono ?_;rintro r (⟨he,rfl⟩|⟨he,q,rfl,hq⟩)
  .exact⟨rfl,by rw[h_ hx,h_ hy,hi,he]⟩
  .exact hq λe=>he (by subst e;rw[hx]at hy;exact iP hy)
 .rw[gl,fY,gl]at hi;refine(h2 hi).mono ?_;rintro r ⟨q,rfl,hq⟩;exact hq
def Hg{x y:aH}:(x.aC==y.aC&&(x.κ==y.κ&&(x.ai==y.ai&&true)))=true↔x=y:=by
 cases x;cases y;simp
def af1(a b:List aH)(hl:a.length<=1000000):ε (EN a b) (cF (a=b)):=by
 unfold EN;refine ε.ite (λe=>ε.ret (cF.no λh=>?_)) λe=>?_
 .simp[h]at e
 have fY:a.length=b.length:=by simp at e;omega
 unfold Xh;refine ε.same fY (λn x y hn hx hy=>?_) λhe=>?_
 .unfold EO;refine ε.cond (by simpa using hn) (ε.af (aW hx) (ε.af (aW hy) ?_));by_cases h:x=y
  .rw[if_neg (by rw[Hg.2 h];simp),dW (by unfold ae;omega)];exact ε.ret (.inl ⟨h,rfl⟩)
  .rw[if_pos (by rw[lC,<-rJ,Hg];exact h)];exact⟨_,rfl,.inr ⟨h,_,rfl,λaI=>cF.no aI⟩⟩
 .unfold EO;exact ε.aV (by simp) ⟨_,rfl,_,rfl,cF.yes he⟩
def W0(a b:List aH)(hl:a.length<=1000000):ε (BW a b) (cF (a=b)):=by
 unfold BW;refine ε.ite (λe=>ε.ret (cF.no λh=>?_)) λe=>?_
 .simp[h]at e
 have fY:a.length=b.length:=by simp at e;omega
 unfold Yl;refine ε.same fY (λn x y hn hx hy=>?_) λhe=>?_
 .unfold FO;refine ε.cond (by simpa using hn) (ε.af (aW hx) (ε.af (aW hy) ?_));by_cases h:x=y
  .rw[if_neg (by rw[Hg.2 h];simp),dW (by unfold ae;omega)];exact ε.ret (.inl ⟨h,rfl⟩)
  .rw[if_pos (by rw[lC,<-rJ,Hg];exact h)];exact⟨_,rfl,.inr ⟨h,_,rfl,λaI=>cF.no aI⟩⟩
 .unfold FO;exact ε.aV (by simp) ⟨_,rfl,_,rfl,cF.yes he⟩
def aeV{a b:τ}:a=b↔a.κ=b.κ/\a.θ=b.θ/\a.a_=b.a_/\a.Up=b.Up/\a.aK=b.aK/\a.ψ=b.ψ:=by
 constructor
 .rintro rfl;exact⟨rfl,rfl,rfl,rfl,rfl,rfl⟩
 .obtain⟨a1,a2,a3,a4,a5,a6⟩:=a;obtain⟨b1,b2,b3,b4,b5,b6⟩:=b;rintro⟨h1,h2,h3,h6,h4,h5⟩;dsimp only at *;subst h1 h2 h3 h4 h5 h6;rfl
def xV(a b:τ):Bool:=a.κ==b.κ&&a.θ==b.θ&&a.a_==b.a_&&a.Up==b.Up&&a.aK==b.aK
def AH{a b:τ}:(xV a b=true/\a.ψ=b.ψ)↔a=b:=by
 rw[aeV];unfold xV;simp[and_assoc]
def OZ(a b:τ)(hl:a.ψ.length<=1000000):ε (yW a b) (cF (a=b)):=by
 unfold yW;rw[bo (b:=a.θ != b.θ) (λ_=>rfl),aS,bo (b:=a.a_ != b.a_) (λ_=>rfl),aS,bo (b:=a.Up != b.Up) (λ_=>rfl),aS,bo (b:=!(a.aK==b.aK)) (λ_=>rfl),aS,aS]
 have e:(a.κ != b.κ||a.θ != b.θ||a.a_ != b.a_||a.Up != b.Up||!(a.aK==b.aK))=!xV a b:=by unfold xV;simp[bne,Bool.not_and]
 rw[e];refine ε.ite (λh=>ε.ret (cF.no λfY=>?_)) λh=>?_
 .rw[lC,<-rJ]at h;exact h (AH.2 fY).1
 .have h:xV a b=true:=by simpa using h
  refine ε.bind (af1 a.ψ b.ψ hl) λr hr=>ε.ret (hr.trans ?_);rw[<-AH];simp[h]
def W6(a b:τ)(hl:a.ψ.length<=1000000):ε (BT a b) (cF (a=b)):=by
 unfold BT;rw[ba (b:=a.θ==b.θ) (λ_=>rfl),aS,ba (b:=a.a_==b.a_) (λ_=>rfl),aS,ba (b:=a.Up==b.Up) (λ_=>rfl),aS,ba (b:=a.aK==b.aK) (λ_=>rfl),aS];show ε (((if xV a b=true then _ else _:Option Bool).bind _).bind _) _;refine ε.bind (R:=cF (a=b)) (ε.bind (R:=cF (a=b)) ?_ λr hr=>ε.ret hr) λr hr=>ε.ret hr;refine ε.ite (λh=>?_) λh=>ε.ret (cF.no λfY=>h (AH.2 fY).1);refine ε.bind (W0 a.ψ b.ψ hl) λr hr=>ε.ret (hr.trans ?_);rw[<-AH];simp[h]
def agd(a b:τ)(hl:a.ψ.length<=1000000):ε (Ga a b) (cF (a=b)):=by
 unfold Ga GZ;simp only[aS];rw[ba (b:=a.θ==b.θ) (λ_=>rfl),aS,ba (b:=a.a_==b.a_) (λ_=>rfl),aS,ba (b:=a.Up==b.Up) (λ_=>rfl),aS,ba (b:=a.aK==b.aK) (λ_=>rfl),aS];show ε (((if xV a b=true then _ else _:Option Bool).bind _).bind _) _;refine ε.bind (R:=cF (a=b)) (ε.bind (R:=cF (a=b)) ?_ λr hr=>ε.ret hr) λr hr=>ε.ret hr;refine ε.ite (λh=>?_) λh=>ε.ret (cF.no λfY=>h (AH.2 fY).1);refine ε.bind (W0 a.ψ b.ψ hl) λr hr=>ε.ret (hr.trans ?_);rw[<-AH];simp[h]
def af2(a b:List τ)(hl:a.length<=1000000)(he:∀n,n∈a->n.ψ.length<=1000000):ε (EP a b) (cF (a=b)):=by
 unfold EP;refine ε.ite (λe=>ε.ret (cF.no λh=>?_)) λe=>?_
 .simp[h]at e
 have fY:a.length=b.length:=by simp at e;omega
 unfold Xi;refine ε.same fY (λn x y hn hx hy=>?_) λhe=>?_
 .unfold ER;refine ε.cond (by simpa using hn) (ε.af (aW hx) (ε.af (aW hy) (ε.bind (OZ x y (he x (fz hx))) λr hr=>?_)));by_cases h:x=y
  .rw[if_neg (by rw[hr.2 h];simp),dW (by unfold ae;omega)];exact ε.ret (.inl ⟨h,rfl⟩)
  .rw[if_pos (by rw[lC,<-rJ];exactλe=>h (hr.1 e))];exact⟨_,rfl,.inr ⟨h,_,rfl,λaI=>cF.no aI⟩⟩
 .unfold ER;exact ε.aV (by simp) ⟨_,rfl,_,rfl,cF.yes he⟩
def age(a b:List τ)(hl:a.length<=1000000)(he:∀n,n∈a->n.ψ.length<=1000000):ε (FM a b) (cF (a=b)):=by
 unfold FM;refine ε.ite (λe=>ε.ret (cF.no λh=>?_)) λe=>?_
 .simp[h]at e
 have fY:a.length=b.length:=by simp at e;omega
 unfold Yk;refine ε.same fY (λn x y hn hx hy=>?_) λhe=>?_
 .unfold FN;refine ε.cond (by simpa using hn) (ε.af (aW hx) (ε.af (aW hy) (ε.bind (agd x y (he x (fz hx))) λr hr=>?_)));by_cases h:x=y
  .rw[if_neg (by rw[hr.2 h];simp),dW (by unfold ae;omega)];exact ε.ret (.inl ⟨h,rfl⟩)
  .rw[if_pos (by rw[lC,<-rJ];exactλe=>h (hr.1 e))];exact⟨_,rfl,.inr ⟨h,_,rfl,λaI=>cF.no aI⟩⟩
 .unfold FN;exact ε.aV (by simp) ⟨_,rfl,_,rfl,cF.yes he⟩
def YR{a b:Γ}:a=b↔(a.Next=b.Next/\a.ai=b.ai)/\a.η=b.η:=by
 cases a;cases b;simp;constructor
 .rintro ⟨h1,h2,h3⟩;exact⟨⟨h2,h3⟩,h1⟩
 .rintro ⟨⟨h2,h3⟩,h1⟩;exact⟨h1,h2,h3⟩
section
variable{B:Nat}{a b:Γ}
def af3(h:TF B a)(hB:B<=100000):ε (EM a b) (cF (a=b)):=by
 have h1:=h.n;unfold EM;refine ε.bind (R:=cF (a=b)) (ε.bind (R:=cF (a.Next=b.Next/\a.ai=b.ai)) (ε.GO (by simp) λ_=>ε.is (by simp)) λc hc=>ε.bind (R:=cF ((a.Next=b.Next/\a.ai=b.ai)/\a.η=b.η)) (ε.GO hc λ_=>ε.bind (af2 a.η b.η (by omega) λn hn=>dZ (h.e n hn) (by omega)) λr hr=>ε.ret hr) λr hr=>ε.ret (hr.trans YR.symm)) λr hr=>ε.ret hr
def afg(h:TF B a)(hB:B<=100000):ε (F_ a b) (cF (a=b)):=by
 have h1:=h.n;unfold F_;refine ε.bind (R:=cF (a=b)) (ε.bind (R:=cF (a.Next=b.Next/\a.ai=b.ai)) (ε.GO (by simp) λ_=>ε.is (by simp)) λc hc=>ε.bind (R:=cF ((a.Next=b.Next/\a.ai=b.ai)/\a.η=b.η)) (ε.GO hc λ_=>ε.bind (age a.η b.η (by omega) λn hn=>dZ (h.e n hn) (by omega)) λr hr=>ε.ret hr) λr hr=>ε.ret (hr.trans YR.symm)) λr hr=>ε.ret hr
end
end
section
def CU{x y:Int}:(lL x y==0)=true↔x=y:=by unfold lL;split<;>(try split)<;>simp<;>omega
def V6(a b:Nat)(h:a+b<=1000000000000):IntKind.i64.wrap (gS .u64 (IntKind.u64.wrap ((a:Int)+(b:Int))) 1)=(((a+b)/2:Nat):Int):=by
 have e1:(a:Int)+(b:Int)=((a+b:Nat):Int):=by omega
 rw[e1,ajY rfl (by show a+b<2 ^ 64;omega)];have e2:gS .u64 ((a+b:Nat):Int) 1=(((a+b)>>>1:Nat):Int):=ag0 (b:=1) (by decide);rw[e2,Nat.shiftRight_eq_div_pow];exact IntWalk.i64_in _ ⟨by omega,by omega⟩
def wJ{l:List τ}(h:fc l){j k:Nat}{x y:τ}(hx:l[j]?=V x)(hy:l[k]?=V y)(rb:j<k):x.κ<y.κ:=by
 obtain⟨h1,rfl⟩:=eZ.1 hx;obtain⟨h2,rfl⟩:=eZ.1 hy;exact xa.1 h j k h1 h2 rb
def WA{l:List τ}(hs:fc l)(hl:l.length<=1000000)(i:Int):ε (BU l i) (λr=>0<=r.1/\(if r.2=true then r.1 else -1)=oI (l.findIdx? (λn=>n.κ==i))):=by
 unfold BU Yj;refine ε.bind (R:=λv:Int=>∃k:Nat,v=k/\k<=l.length/\(∀j x,j<k->l[j]?=V x->x.κ<i)/\(∀j x,k<=j->l[j]?=V x->i<=x.κ)) ?_ λv hv=>?_
 .refine ε.loop (λs:Int×Int=>∃a b:Nat,s=((a:Int),(b:Int))/\a<=b/\b<=l.length/\(∀j x,j<a->l[j]?=V x->x.κ<i)/\(∀j x,b<=j->l[j]?=V x->i<=x.κ)) (λs=>(s.2-s.1).toNat) ?_ _ ⟨0,l.length,rfl,by omega,by omega,λj x h=>by omega,λj x h hx=>by rw[RO (by omega)]at hx;cases hx⟩;rintro s ⟨a,b,rfl,fY,hb,lh,lR⟩;unfold J0;dsimp only;by_cases Ξ:a<b
  .refine ε.cond (by simpa using Ξ) (ε.χ (by unfold ae;omega) ?_);rw[V6 a b (by omega)]
   have hm:(a+b)/2<l.length:=by omega
   have hx:=bD hm;refine ε.af (aW hx) (ε.af (a:=lL l[(a+b)/2].κ i) (by unfold BS;rw[FX];rfl) ?_);refine ε.ite (λe=>ε.χ (by unfold ae;omega) (ε.inl ⟨⟨(a+b)/2+1,b,rfl,by omega,hb,λj x hj yg=>?_,lR⟩,by dsimp only;omega⟩)) λe=>ε.inl ⟨⟨a,(a+b)/2,rfl,by omega,by omega,lh,λj x hj yg=>?_⟩,by dsimp only;omega⟩
   .have hc:l[(a+b)/2].κ<i:=oD.1 (by simpa using e)
    rcases fa j ((a+b)/2)with h|h
    .have:=wJ hs yg hx h;omega
    .have:j=(a+b)/2:=by omega
     subst this;rw[hx]at yg;cases yg;exact hc
   .have hc:¬l[(a+b)/2].κ<i:=λh=>e (by simpa using oD.2 h)
    rcases fa ((a+b)/2) j with h|h
    .have:=wJ hs hx yg h;omega
    .have:j=(a+b)/2:=by omega
     subst this;rw[hx]at yg;cases yg;omega
  .have:a=b:=by omega
   subst this;exact ε.aV (by simp) (ε.out (ε.ret ⟨a,rfl,hb,lh,lR⟩))
 .obtain⟨k,rfl,hk,lh,lR⟩:=hv;by_cases t_:k<l.length
  .have hx:=bD t_;refine ε.bind (R:=(·=(lL l[k].κ i==0))) (ε.bind (R:=(·=(lL l[k].κ i==0))) (ε.cond (by simpa using t_) (ε.af (aW hx) (ε.af (a:=lL l[k].κ i) (by unfold BS;rw[FX];rfl) (ε.ret rfl)))) λr hr=>ε.ret hr) λr hr=>ε.ret ?_;subst hr;dsimp only;refine⟨ZX k,?_⟩;by_cases he:l[k].κ=i
   .rw[if_pos (CU.2 he)]
    have:l.findIdx? (λn=>n.κ==i)=V k:=by
     rw[KN];refine⟨t_,by simpa using he,λj hj=>?_⟩;have:=lh j _ hj (bD (by omega));simp;omega
    rw[this];rfl
   .rw[if_neg (λh=>he (CU.1 h))]
    have:l.findIdx? (λn=>n.κ==i)=none:=by
     rw[uI];intro x fN;obtain⟨j,hj⟩:=Iz fN
     rcases R6 j k with h|h|h
     .have:=lh j x h hj;simp;omega
     .subst h;rw[hx]at hj;cases hj;simpa using he
     .have:=wJ hs hx hj h;have:=lR k _ (bm _) hx;simp;omega
    rw[this];rfl
  .refine ε.bind (R:=(·=false)) (ε.bind (R:=(·=false)) (ε.aV (by simpa using t_) (ε.ret rfl)) λr hr=>ε.ret hr) λr hr=>ε.ret ?_;subst hr;dsimp only;refine⟨ZX k,?_⟩
   have:l.findIdx? (λn=>n.κ==i)=none:=by
    rw[uI];intro x fN;obtain⟨j,hj⟩:=Iz fN;have:=lh j x (by have:=(TM hj).1;omega) hj;simp;omega
   rw[this];rfl
def WC{l:List τ}(hs:fc l)(hl:l.length<=1000000)(i:Int):BR l i=V (oI (l.findIdx? (λn=>n.κ==i))):=by
 refine ε.eq ?_;unfold BR;refine ε.bind (WA hs hl i) λr hr=>?_;obtain⟨k,b⟩:=r;cases b with
 |true=>exact ε.aV (by simp) (ε.ret hr.2)
 |false=>exact ε.cond rfl (ε.ret hr.2)
def afn{t:Γ}(hs:fc t.η)(hl:t.η.length<=1000000)(i:Int):ε (sX ⟨t⟩ i) (λr=>r.2=⟨t⟩/\0<=r.1.1/\(if r.1.2=true then r.1.1 else -1)=oI (t.η.findIdx? (λn=>n.κ==i))):=by
 unfold sX;show ε ((BU t.η i).bind _) _;exact ε.bind (WA hs hl i) λr hr=>ε.ret ⟨rfl,hr⟩
def wg{t:Γ}(hs:fc t.η)(hl:t.η.length<=1000000)(i:Int):pV ⟨t⟩ i=V ((gD t.η i,(gN t.η i).isSome),⟨t⟩):=by
 refine ε.eq ?_;unfold pV;refine ε.bind (afn hs hl i) λr hr=>?_;obtain⟨⟨k,b⟩,g⟩:=r;obtain⟨rfl,hk,hr⟩:=hr;dsimp only at hk hr ⊢;unfold gD gN;cases h:t.η.findIdx? (λn=>n.κ==i)with
 |none =>
  rw[h]at hr;rw[C9 h];cases b with
  |false=>exact ε.cond rfl (ε.ret rfl)
  |true=>rw[if_pos rfl]at hr;have:k=-1:=hr;omega
 |some n =>
  obtain⟨x,hx,hf,-⟩:=oF h;rw[h]at hr;rw[hf];cases b with
  |false=>rw[if_neg (by simp)]at hr;have:(-1:Int)=(n:Int):=hr;omega
  |true =>
   rw[if_pos rfl]at hr;have:k=(n:Int):=hr;subst this;exact ε.aV (by simp) (ε.af (aW hx) (ε.ret rfl))
def Bo{t:Γ}(hs:fc t.η)(hl:t.η.length<=1000000)(i:Int):qB t i=V (gD t.η i,(gN t.η i).isSome):=by
 unfold qB;rw[wg hs hl];rfl
def qA(l:List cG)(f u:Int):Bool:=l.any λx=>decide (x.At>=f)&&decide (x.At<u)
def W8(l:List cG)(f u:Int)(hl:l.length<=1000000):BJ l f u=V (qA l f u):=by
 unfold BJ XJ qA;refine aey (l:=l) _ (λn x hx hn=>?_) ?_
 .unfold Fo;rw[if_pos (by simpa using hn),aW hx,aS];rw[ba (b:=decide (x.At<u)) (λ_=>by rw[aS]),aS,aS,dW (by unfold ae;omega)];rfl
 .unfold Fo;rw[if_neg (by simp)];rfl
def afz(l:List cG)(f u:Int)(hl:l.length<=1000000):FI l f u=V (qA l f u):=by
 unfold FI J8 Kb Yn;rw[v8 (b:=l) (λx=>decide (x.At>=f)&&decide (x.At<u)) (λn _=>(n:Int)) (-1)]
 .rw[aS,aS];refine congrArg V ?_;unfold qA;cases h:l.findIdx? (λx=>decide (x.At>=f)&&decide (x.At<u))with
  |none =>
   rw[uI]at h;symm;show _=false;rw[qG];intro x hx;simpa using h x hx
  |some n =>
   obtain⟨x,hx,-,hp⟩:=oF h;rw[rN.2 ⟨x,fz hx,hp⟩];simp only[hx];simp
 .intro n x hx hn;unfold FP JX;rw[if_pos (by simpa using hn),aW hx,aS];rw[ba (b:=decide (x.At<u)) (λ_=>rfl),aS,aS,aS,dW (by unfold ae;omega)];rfl
 .unfold FP;rw[if_neg (by simp)];rfl
end
section
open Classical in
noncomputable def lW (s:cd) (t:Γ) (p:τ×Int):Bool:=decide (gN t.η p.1.κ≠V p.1)&&qA s.cm p.2 (s.bE+1)
noncomputable def yM (s:cd) (t:Γ):List cq:=((s.aw.η.zip s.dh).filter (lW s t)).map λp=>⟨p.2,s.bE+1,p.1⟩
open Classical in
noncomputable def oe (s:cd) (n:τ):Int:=match s.aw.η.findIdx? (λm=>decide (m=n))with|some k=>(s.dh[k]?).getD 0|none=>s.bE+1
open Classical in
noncomputable def gH (s:cd) (t:Γ):cd:=if s.aw=t then s else⟨t,s.bE+1,t.η.map (oe s),s.cM++yM s t,s.cm,s.Next⟩
open Classical in
def Yf{s:cd}(hs:fc s.aw.η){k:Nat}{n:τ}(hn:s.aw.η[k]?=V n):oe s n=(s.dh[k]?).getD 0:=by
 unfold oe
 have:s.aw.η.findIdx? (λm=>decide (m=n))=V k:=by
  rw[KN];obtain⟨h1,h2⟩:=eZ.1 hn;refine⟨h1,by simpa using h2,λj hj=>?_⟩;have:=wJ hs (bD (show j<s.aw.η.length by omega)) hn hj;simp only[decide_eq_true_eq];intro e;rw[e]at this;omega
 rw[this]
open Classical in
def PZ{s:cd}{n:τ}(hn:n∉s.aw.η):oe s n=s.bE+1:=by
 unfold oe
 have:s.aw.η.findIdx? (λm=>decide (m=n))=none:=by
  rw[uI];intro x hx;simp only[decide_eq_false_iff_not];intro e;exact hn (e▸hx)
 rw[this]
def ZE{l:List τ}{m:List Int}{k:Nat}{p:τ×Int}(h:(l.zip m)[k]?=V p):l[k]?=V p.1/\m[k]?=V p.2:=by
 rw[List.getElem?_zip_eq_some]at h;exact h
structure PF(B:Nat)(s:cd)(t:Γ):Prop where
 f:TF B s.aw
 ft:TF B t
 b:B<=90000
 so:fc s.aw.η
 st:fc t.η
 si:s.dh.length=s.aw.η.length
 tk:0<=s.bE/\s.bE<=1000000
 ps:s.cM.length<=1000000
 ta:s.cm.length<=1000000
section
variable{B:Nat}{s:cd}{t:Γ}
def PF.zl(h:PF B s t):(s.aw.η.zip s.dh).length=s.aw.η.length:=by rw[List.length_zip,h.si];omega
open Classical in
def af'(h:PF B s t):Po s t (0,[]++s.cM)=V (s.cM++yM s t):=by
 have h1:=h.f.n;have h2:=h.ft.n;have h3:=h.b;have h4:=h.tk;have h5:=h.ps;have h6:=h.ta;have hz:=h.zl;refine ε.eq ?_;unfold Po yM;rw[<-hz]at h1;refine ε.each (l:=s.aw.η.zip s.dh) (λk a=>a=s.cM++(((s.aw.η.zip s.dh).take k).filter (lW s t)).map λp=>⟨p.2,s.bE+1,p.1⟩) (λk p a Ξ hp ha=>?_) (λa ha=>?_) _ (by simp)
 .obtain⟨hx,hq⟩:=ZE hp
  have aY:a.length<=1000000+k:=by
   rw[ha,cZ,au];have:=j2 (lW s t) ((s.aw.η.zip s.dh).take k);rw[dq]at this;omega
  unfold Fg;refine ε.cond (by simp;omega) ?_;dsimp only;refine ε.bind (R:=(·=s.cM++(((s.aw.η.zip s.dh).take (k+1)).filter (lW s t)).map λp=>⟨p.2,s.bE+1,p.1⟩)) ?_ λv hv=>ε.χ (by unfold ae;omega) (ε.inl ⟨rfl,hv⟩);rw[h_ hp,lD,bO,<-l7,<-ha];refine ε.af (aW hx) (ε.af (iM t _ (by omega)) ?_);refine ε.bind (R:=cF (gN t.η p.1.κ=V p.1)) (ε.bind (R:=cF (gN t.η p.1.κ=V p.1)) ?_ λr hr=>ε.ret hr) λr hr=>?_
  .dsimp only;unfold gD;cases hg:gN t.η p.1.κ with
   |none=>exact ε.aV (by simp) (ε.ret (cF.no (by simp)))
   |some m =>
    refine ε.cond rfl (ε.bind (OZ p.1 m (dZ (h.f.e _ (fz hx)) (by omega))) λr hr=>ε.ret (hr.trans ?_));simp[eq_comm]
  .refine ε.ite (λe=>ε.ret ?_) λe=>ε.af (aW hq) (ε.af (W8 _ _ _ (by omega)) (ε.ite (λe2=>ε.af (aW hq) (ε.χ (by simp only[bV,dF];omega) (ε.ret ?_))) λe2=>ε.ret ?_))
   .have hk:lW s t p=false:=by unfold lW;rw[decide_eq_false (by rw[hr.1 e];simp)];rfl
    rw[eL,hk];simp
   .have hk:lW s t p=true:=by unfold lW;rw[decide_eq_true (show gN t.η p.1.κ≠V p.1 fromλh=>e (hr.2 h)),e2];rfl
    rw[eL,hk];simp
   .have hk:lW s t p=false:=by unfold lW;rw[rJ]at e2;rw[e2,alq]
    rw[eL,hk];simp
 .unfold Fg;rw[gl]at ha;exact ε.aV (by rw[hz];simp) (ε.out (ε.ret ha))
open Classical in
def afy(h:PF B s t):PW s t (0,s.cM)=V (s.cM++yM s t):=by
 have h1:=h.f.n;have h2:=h.ft.n;have h3:=h.b;have h4:=h.tk;have h5:=h.ps;have h6:=h.ta;have hz:=h.zl;refine ε.eq ?_;unfold PW yM;rw[<-hz]at h1;refine ε.each (l:=s.aw.η.zip s.dh) (λk a=>a=s.cM++(((s.aw.η.zip s.dh).take k).filter (lW s t)).map λp=>⟨p.2,s.bE+1,p.1⟩) (λk p a Ξ hp ha=>?_) (λa ha=>?_) _ (by simp)
 .obtain⟨hx,hq⟩:=ZE hp
  have aY:a.length<=1000000+k:=by
   rw[ha,cZ,au];have:=j2 (lW s t) ((s.aw.η.zip s.dh).take k);rw[dq]at this;omega
  unfold FF;refine ε.cond (by simp;omega) ?_;dsimp only;refine ε.bind (R:=(·=s.cM++(((s.aw.η.zip s.dh).take (k+1)).filter (lW s t)).map λp=>⟨p.2,s.bE+1,p.1⟩)) ?_ λv hv=>ε.χ (by unfold ae;omega) (ε.inl ⟨rfl,hv⟩);rw[h_ hp,lD,bO,<-l7,<-ha];refine ε.af (aW hx) (ε.af (WC h.st (by omega) _) ?_);refine ε.bind (R:=(·=lW s t p)) (ε.bind (R:=cF (gN t.η p.1.κ≠V p.1)) ?_ λr hr=>ε.bind (R:=(·=lW s t p)) ?_ λr hr=>ε.ret hr) λr hr=>?_
  .rw[Ow];cases hg:t.η.findIdx? (λn=>n.κ==p.1.κ)with
   |none=>exact ε.cond rfl (ε.ret (cF.yes (by unfold gN;rw[C9 hg];simp)))
   |some j =>
    obtain⟨m,hm,hf,-⟩:=oF hg;refine ε.aV (by simp) ?_;show ε ((idx t.η (j:Int)).bind _) _;refine ε.af (aW hm) (ε.bind (W6 p.1 m (dZ (h.f.e _ (fz hx)) (by omega))) λr hr=>ε.ret ((cF.not hr).trans ?_));unfold gN;rw[hf];simp[eq_comm]
  .unfold lW;refine ε.ite (λe=>ε.af (aW hq) (ε.af (afz _ _ _ (by omega)) (ε.ret ?_))) λe=>ε.ret ?_
   .rw[decide_eq_true (hr.1 e)];rfl
   .rw[decide_eq_false (λh=>e (hr.2 h))];rfl
  .subst hr;refine ε.ite (λe=>ε.af (aW hq) (ε.χ (by simp only[bV,dF];omega) (ε.ret ?_))) λe=>ε.ret ?_
   .rw[eL,e];simp
   .rw[rJ]at e;rw[eL,e];simp
 .unfold FF;rw[gl]at ha;exact ε.aV (by rw[hz];simp) (ε.out (ε.ret ha))
open Classical in
def agc(h:PF B s t):Pp t s (0,[])=V (t.η.map (oe s)):=by
 have h1:=h.f.n;have h2:=h.ft.n;have h3:=h.b;have h4:=h.tk;refine ε.eq ?_;unfold Pp;refine ε.each (l:=t.η) (λk a=>a=(t.η.take k).map (oe s)) (λk n a Ξ hn ha=>?_) (λa ha=>?_) _ rfl
 .have aY:a.length<=k:=by rw[ha,au,dq];omega
  unfold Fh;refine ε.cond (by simp;omega) ?_;dsimp only;refine ε.bind (R:=(·=a++[oe s n])) (ε.bind (R:=(·=oe s n)) ?_ λv hv=>ε.χ (by simp only[bV,dF];omega) (ε.ret (by rw[hv]))) λv hv=>ε.χ (by unfold ae;omega) (ε.inl ⟨rfl,by rw[hv,h_ hn,bO,<-ha];rfl⟩);unfold XC;refine ε.tE (l:=s.aw.η) (λj x=>x=if n∈s.aw.η.take j then oe s n else s.bE+1) (λj m x akB hm hx=>?_) (λx hx=>?_) _ (by simp)
  .unfold Fi;refine ε.cond (by simp;omega) ?_;dsimp only;have hq:=bD (show j<s.dh.length by rw[h.si];omega);refine ε.bind (R:=(·=if n∈s.aw.η.take (j+1)then oe s n else s.bE+1)) (ε.af (aW hm) (ε.af (aW hn) (ε.bind (OZ m n (dZ (h.f.e _ (fz hm)) (by omega))) λr hr=>?_))) λv hv=>ε.χ (by unfold ae;omega) (ε.inl ⟨rfl,hv⟩);rw[h_ hm];refine ε.ite (λe=>ε.af (aW hq) (ε.ret ?_)) λe=>ε.ret ?_
   .have e:=hr.1 e;rw[if_pos (by rw[e];simp),Yf h.so (by rw[<-e];exact hm),hq];rfl
   .have e:m≠n:=λh=>e (hr.2 h);rw[hx];by_cases bn:n∈s.aw.η.take j
    .rw[if_pos bn,if_pos (by simp[bn])]
    .rw[if_neg bn,if_neg (by simp[bn,e.symm])]
  .unfold Fi;rw[gl]at hx;refine ε.aV (by simp) (ε.out (ε.ret ?_));dsimp only;rw[hx];split
   .rfl
   .next bu=>rw[PZ bu]
 .unfold Fh;rw[gl]at ha;exact ε.aV (by simp) (ε.out (ε.ret ha))
def afB(h:PF B s t):PX t s (0,[])=V (t.η.map (oe s)):=by
 have h1:=h.f.n;have h2:=h.ft.n;have h3:=h.b;have h4:=h.tk;refine ε.eq ?_;unfold PX;refine ε.each (l:=t.η) (λk a=>a=(t.η.take k).map (oe s)) (λk n a Ξ hn ha=>?_) (λa ha=>?_) _ rfl
 .have aY:a.length<=k:=by rw[ha,au,dq];omega
  unfold FH;refine ε.cond (by simp;omega) ?_;dsimp only;refine ε.af (aW hn) ?_;refine ε.bind (R:=(·=oe s n)) ?_ λv hv=>ε.χ (by simp only[bV,dF];omega) (ε.χ (by unfold ae;omega) (ε.inl ⟨rfl,by rw[hv,h_ hn,bO,<-ha];rfl⟩));refine ε.af (WC h.so (by omega) _) ?_;rw[IM];cases hg:s.aw.η.findIdx? (λm=>m.κ==n.κ)with
  |none =>
   refine ε.bind (R:=(·=false)) (ε.bind (R:=(·=false)) (ε.aV (by simp) (ε.ret rfl)) λr hr=>ε.ret hr) λr hr=>ε.aV (by rw[hr];simp) (ε.ret ?_);rw[uI]at hg;exact(PZ λhm=>by simpa using hg n hm).symm
  |some j =>
   obtain⟨m,hm,-,hp⟩:=oF hg;have hj:=(TM hm).1;have hq:=bD (show j<s.dh.length by rw[h.si];omega);refine ε.bind (R:=cF (n=m)) (ε.bind (R:=cF (n=m)) (ε.cond (by simp) ?_) λr hr=>ε.ret hr) λr hr=>?_
   .show ε ((idx s.aw.η (j:Int)).bind _) _;exact ε.af (aW hm) (ε.bind (W6 n m (dZ (h.ft.e _ (fz hn)) (by omega))) λr hr=>ε.ret hr)
   .refine ε.ite (λe=>?_) λe=>ε.ret ?_
    .show ε ((idx s.dh (j:Int)).bind _) _;refine ε.af (aW hq) (ε.ret ?_);rw[Yf h.so (by rw[hr.1 e];exact hm),hq];rfl
    .refine(PZ λbn=>e (hr.2 ?_)).symm;exact B0 h.so bn (fz hm) (by simp only[beq_iff_eq]at hp;exact hp.symm)
 .unfold FH;rw[gl]at ha;exact ε.aV (by simp) (ε.out (ε.ret ha))
def OY(h:PF B s t):zd s t=V (gH s t):=by
 have h3:=h.b;have h4:=h.tk;have h5:=h.ps;refine ε.eq ?_;unfold zd gH;refine ε.bind (af3 h.f (by omega)) λr hr=>ε.ite (λe=>ε.ret (by rw[if_pos (hr.1 e)])) λe=>?_;rw[if_neg (λh=>e (hr.2 h))];exact ε.χ (by unfold ae;omega) (ε.χ (by simp;omega) (ε.af (af' h) (ε.af (agc h) (ε.ret rfl))))
def aff(h:PF B s t):BQ s t=V (gH s t):=by
 have h3:=h.b;have h4:=h.tk;have h5:=h.ps;refine ε.eq ?_;unfold BQ gH;refine ε.bind (afg h.f (by omega)) λr hr=>ε.ite (λe=>ε.ret (by rw[if_pos (hr.1 e)])) λe=>?_;rw[if_neg (λh=>e (hr.2 h))];exact ε.χ (by unfold ae;omega) (ε.af (ab4 _ (by omega)) (ε.af (afy h) (ε.af (afB h) (ε.ret rfl))))
end
end
section
def B8(s:cd)(i:Int):cd×Int×Int:=if(!(gN s.aw.η i).isSome)=true then(s,0,70)else if((gD s.aw.η i).θ != 2)=true then(s,0,73)else if(decide ((s.cm.length:Int)>=16)||decide (s.Next>=1099511627776))=true then(s,0,76)else(⟨s.aw,s.bE,s.dh,s.cM,s.cm++[⟨s.Next,i,s.bE⟩],s.Next+1⟩,s.Next,0)
def af4(s:cd)(i:Int)(hl:s.aw.η.length<=1000000)(ht:s.cm.length<=1000000)(hn:0<=s.Next/\s.Next<=1000000):Fk s i=V (B8 s i):=by
 unfold Fk B8;rw[iM _ _ hl,aS];dsimp only;split
 .rfl
 split
 .rfl
 rw[bo (b:=decide (s.Next>=1099511627776)) (λ_=>rfl),aS,aS];split
 .rfl
 rw[dW (by simp;omega),dW (by simp;omega),dW (by unfold ae;omega)];rfl
def tD(s:cd)(i:Int):List cG:=s.cm.filter λx=>x.Id != i
def Ei(l:List cq)(T:List cG):List cq:=l.filter λp=>qA T p.th p.tp
def Aj(s:cd)(i:Int):cd×Int:=if(((tD s i).length:Int)==(s.cm.length:Int))=true then(s,100)else(⟨s.aw,s.bE,s.dh,Ei s.cM (tD s i),tD s i,s.Next⟩,0)
def S6(s:cd)(i:Int):(tD s i).length<=s.cm.length:=j2 _ _
def afV(s:cd)(i:Int)(ht:s.cm.length<=1000000)(hp:s.cM.length<=1000000):Fc s i=V (Aj s i):=by
 refine ε.eq ?_;have hd:=S6 s i;unfold Fc Aj XA;refine ε.bind (R:=(·=tD s i)) (ε.each (l:=s.cm) (λk a=>a=(s.cm.take k).filter λx=>x.Id != i) (λk x a Ξ hx ha=>?_) (λa ha=>?_) _ rfl) λv hv=>?_
 .unfold Fe
  have aY:a.length<=k:=by rw[ha];exact dZ (j2 _ _) (by rw[dq];omega)
  refine ε.cond (by simpa using Ξ) ?_;dsimp only;rw[aW hx,aS];by_cases aI:(x.Id != i)=true
  .rw[if_pos aI];exact ε.af (dW (by simp only[bV,dF];omega)) (ε.χ (by unfold ae;omega) (ε.inl ⟨rfl,by rw[h_ hx,lD,<-ha,eL,if_pos aI];rfl⟩))
  .rw[if_neg aI];exact ε.af rfl (ε.χ (by unfold ae;omega) (ε.inl ⟨rfl,by rw[h_ hx,lD,<-ha,eL,if_neg aI];simp⟩))
 .unfold Fe;rw[gl]at ha;exact ε.aV (by simp) (ε.out (ε.ret ha))
 subst hv;refine ε.ite (λe=>ε.ret (by rw[if_pos e])) λe=>?_;rw[if_neg e];unfold XB;refine ε.bind (R:=(·=Ei s.cM (tD s i))) (ε.each (l:=s.cM) (λk a=>a=Ei (s.cM.take k) (tD s i)) (λk x a Ξ hx ha=>?_) (λa ha=>?_) _ rfl) λv hv=>ε.ret (by rw[hv])
 .unfold Ff
  have aY:a.length<=k:=by rw[ha];exact dZ (j2 _ _) (by rw[dq];omega)
  refine ε.cond (by simpa using Ξ) ?_;dsimp only;rw[aW hx,aS,aS,W8 _ _ _ (by omega),aS];unfold Ei at *;by_cases aI:qA (tD s i) x.th x.tp=true
  .rw[if_pos aI];exact ε.af (dW (by simp only[bV,dF];omega)) (ε.χ (by unfold ae;omega) (ε.inl ⟨rfl,by rw[h_ hx,lD,<-ha,eL,if_pos aI];rfl⟩))
  .rw[if_neg aI];exact ε.af rfl (ε.χ (by unfold ae;omega) (ε.inl ⟨rfl,by rw[h_ hx,lD,<-ha,eL,if_neg aI];simp⟩))
 .unfold Ff;rw[gl]at ha;exact ε.aV (by simp) (ε.out (ε.ret ha))
structure SI(k:Nat)(s:cd):Prop where
 f:TF (2+5*k) s.aw
 t:TS s.aw
 si:s.dh.length=s.aw.η.length
 tk:0<=s.bE/\s.bE<=k
 nx:1<=s.Next/\s.Next<=(k:Int)+1
 sn:∀q,q∈s.dh->0<=q/\q<=s.bE
 ta:s.cm.length<=k
 ps:s.cM.length<=2000*k
 pe:∀p,p∈s.cM->p.rS.ψ.length<=2+5*k
 id:s.cm.Pairwise (λx y=>x.Id<y.Id)
 ti:∀x,x∈s.cm->(1<=x.Id/\x.Id<s.Next)/\0<=x.At/\x.At<=s.bE
 pt:∀p,p∈s.cM->(0<=p.th/\p.th<p.tp/\p.tp<=s.bE)/\qA s.cm p.th p.tp=true
section
variable{k:Nat}{s:cd}
def SI.up(h:SI k s){j:Nat}(hj:k<=j):SI j s:=
 ⟨h.f.up (by omega),h.t,h.si,by have:=h.tk;omega,by have:=h.nx;omega,h.sn,by have:=h.ta;omega,by have:=h.ps;omega,λp hp=>by have:=h.pe p hp;omega,h.id,h.ti,h.pt⟩
def agW{l m:List cG}{f u:Int}(h:qA l f u=true)(hs:∀x,x∈l->x∈m):qA m f u=true:=by
 unfold qA at *;rw[rN]at *;obtain⟨x,hx,hp⟩:=h;exact⟨x,hs x hx,hp⟩
def SI.take(h:SI k s)(i:Int):SI (k+1) (B8 s i).1:=by
 have h0:=h.up (j:=k+1) (by omega);have gB:=h.tk;have hnx:=h.nx;unfold B8;split
 .exact h0
 split
 .exact h0
 split
 .exact h0
 refine⟨h0.f,h.t,h.si,h0.tk,by dsimp only;omega,h.sn,by have:=h.ta;simp;omega,h0.ps,h0.pe,?_,λx hx=>?_,λp hp=>⟨(h.pt p hp).1,agW (h.pt p hp).2 λx hx=>nC _ hx⟩⟩
 .refine List.pairwise_append.2 ⟨h.id,uL _ _,λx hx y hy=>?_⟩;obtain rfl:=cV.1 hy;have:=h.ti x hx;dsimp only;omega
 .rcases ep.1 hx with hx|hx
  .have:=h.ti x hx;dsimp only;omega
  .obtain rfl:=cV.1 hx;dsimp only;omega
def SI.drop(h:SI k s)(i:Int):SI k (Aj s i).1:=by
 unfold Aj;split
 .exact h
 refine⟨h.f,h.t,h.si,h.tk,h.nx,h.sn,by have:=h.ta;have:=S6 s i;dsimp only;omega,?_,λp hp=>h.pe p (dK.1 hp).1,h.id.filter _,λx hx=>h.ti x (dK.1 hx).1,λp hp=>⟨(h.pt p (dK.1 hp).1).1,(dK.1 hp).2⟩⟩;have:=h.ps;have:=j2 (λp=>qA (tD s i) p.th p.tp) s.cM;unfold Ei;dsimp only;omega
end
def Qz:Γ:=⟨[⟨1,2,0,[],[],1⟩],2,1⟩
def PY:cd:=⟨Qz,0,[0],[],[],1⟩
def SI0:SI 0 PY:=by
 refine⟨⟨by decide,λn hn=>?_,λn hn=>?_,by decide,by decide⟩,⟨uL _ _,λn hn=>?_,⟨_,rfl,rfl⟩,λn hn e he=>?_⟩,rfl,by decide,by decide,λq hq=>?_,by decide,by decide,λp hp=>(by cases hp),o9,λx hx=>(by cases hx),λp hp=>(by cases hp)⟩;iterate 3 (obtain rfl:=cV.1 hn;decide)
 .obtain rfl:=cV.1 hn;cases he
 .obtain rfl:=cV.1 hq;decide
end
section
def rV:∀x:List UInt8,eB x x=false
 |[]=>rfl
 |a::x=>by
  have:=rV x;simp only[eB,this,alq,Bool.or_false];simp
def GX:∀{x y z:List UInt8},eB x y=true->eB y z=true->eB x z=true
 |[],_,[],_,h=>by cases ‹List UInt8›<;>simp[eB]at h
 |[],_,_::_,_,_=>rfl
 |_::_,[],_,h,_=>by simp[eB]at h
 |_::_,_::_,[],_,h=>by simp[eB]at h
 |a::x,b::y,c::z,h1,h2=>by
  simp only[eB,s6,bR,decide_eq_true_eq,beq_iff_eq]at *
  rcases h1 with h1|⟨rfl,h1⟩<;>rcases h2 with h2|⟨rfl,h2⟩
  .exact .inl (UInt8.lt_trans h1 h2)
  .exact .inl h1
  .exact .inl h2
  .exact .inr ⟨rfl,GX h1 h2⟩
def Sw:∀x y:List UInt8,eB x y=true\/x=y\/eB y x=true
 |[],[]=>.inr (.inl rfl)
 |[],_::_=>.inl rfl
 |_::_,[]=>.inr (.inr rfl)
 |a::x,b::y=>by
  simp only[eB,s6,bR,decide_eq_true_eq,beq_iff_eq]
  rcases R6 a.toNat b.toNat with h|h|h
  .exact .inl (.inl (aan.2 h))
  .have:a=b:=UInt8.toNat_inj.1 h;subst this
   rcases Sw x y with h|h|h
   .exact .inl (.inr ⟨rfl,h⟩)
   .exact .inr (.inl (by rw[h]))
   .exact .inr (.inr (.inr ⟨rfl,h⟩))
  .exact .inr (.inr (.inl (aan.2 h)))
def cE(l:List aH)(i:Int):Nat:=l.countP λe=>e.κ==i
def di(l:List τ)(i:Int):Nat:=(l.map λn=>cE n.ψ i).sum
def uX{l:List aH}{i:Int}:0<cE l i↔∃e,e∈l/\e.κ=i:=by
 unfold cE;rw[RI];simp
def Ag{l:List τ}{i:Int}:0<di l i↔∃n,n∈l/\∃e,e∈n.ψ/\e.κ=i:=by
 induction l with
 |nil=>simp[di]
 |cons x l ih =>
  have:di (x::l) i=cE x.ψ i+di l i:=by simp[di]
  rw[this];constructor
  .intro h
   rcases pf (cE x.ψ i)with h0|h0
   .obtain⟨n,hn,h⟩:=ih.1 (by omega);exact⟨n,cw _ hn,h⟩
   .exact⟨x,by simp,uX.1 h0⟩
  .rintro ⟨n,hn,h⟩
   rcases bp.1 hn with rfl|hn
   .have:=uX.2 h;omega
   .have:=ih.2 ⟨n,hn,h⟩;omega
def vh(x:τ)(l:List τ)(i:Int):di (x::l) i=cE x.ψ i+di l i:=by simp[di]
def TJ(x:τ)(l:List τ)(i:Int):gD (x::l) i=if x.κ=i then x else gD l i:=by
 unfold gD;rw[qS];split<;>rfl
def SL{l:List τ}(h:fc l)(j i:Int):di (l.filter (λx=>x.κ != j)) i+cE (gD l j).ψ i=di l i:=by
 induction l with
 |nil=>rfl
 |cons x l ih =>
  obtain⟨h1,h2⟩:=e9.1 h;rw[eL,vh,TJ];by_cases e:x.κ=j
  .have:l.filter (λx=>x.κ != j)=l:=by
    rw[ot];intro y hy;have:=h1 y hy;simp;omega
   rw[if_neg (by simp[e]),if_pos e,this];omega
  .rw[if_pos (by simpa using e),if_neg e,vh,<-ih h2];omega
def CV{n:τ}(i:Int):∀{l:List τ},fc l->di (cu n l) i+cE (gD l n.κ).ψ i=di l i+cE n.ψ i
 |[],_=>by
  show di [n] i+cE n_.ψ i=di [] i+cE n.ψ i;rw[vh];simp[di,n_,cE]
 |x::r,h=>by
  obtain⟨h1,h2⟩:=e9.1 h;rw[yO];by_cases e:x.κ>=n.κ
  .rw[if_pos e,vh];have:=SL h n.κ i;omega
  .rw[if_neg e,vh,vh,TJ,if_neg (by omega)];have:=CV (n:=n) i h2;omega
def I3{n:τ}:∀{l:List τ},fc l->(gN l n.κ).isSome=true->(cu n l).length=l.length
 |[],_,hp=>by simp[gN]at hp
 |x::r,h,hp=>by
  obtain⟨h1,h2⟩:=e9.1 h;rw[yO];rw[qS]at hp;by_cases e:x.κ>=n.κ
  .rw[if_pos e];by_cases e2:x.κ=n.κ
   .have:r.filter (λy=>y.κ != n.κ)=r:=by
     rw[ot];intro y hy;have:=h1 y hy;simp;omega
    rw[eL,if_neg (by simp[e2]),this];rfl
   .rw[if_neg e2]at hp;obtain⟨m,hm⟩:=kv.1 hp;have:=bz hm;have:=h1 m this.1;omega
  .rw[if_neg e];rw[if_neg (by omega)]at hp;simp only[bV,I3 h2 hp]
inductive Deep(l:List τ):Int->Nat->Prop
 |root:Deep l 1 0
 |step {i:Int} {n:τ} {d:Nat}:i≠1->gN l i=V n->n.θ=2->Deep l n.Up d->Deep l i (d+1)
def Deep.uniq{l:List τ}{i:Int}{a:Nat}(h:Deep l i a):∀{b:Nat},Deep l i b->a=b:=by
 induction h with
 |root=>intro b hb;cases hb with|root=>rfl|step h1=>exact absurd rfl h1
 |step h1 h2 h3 h4 ih =>
  intro b hb;cases hb with
  |root=>exact absurd rfl h1
  |step g1 g2 g3 g4=>rw[h2]at g2;cases g2;rw[ih g4]
def Deep.congr{l l':List τ}(H:∀j n,gN l j=V n->n.θ=2->∃n',gN l' j=V n'/\n'.θ=n.θ/\n'.Up=n.Up){i:Int}{d:Nat}(h:Deep l i d):Deep l' i d:=by
 induction h with
 |root=>exact .root
 |step h1 h2 h3 h4 ih =>
  obtain⟨n',e1,e2,e3⟩:=H _ _ h2 h3;exact .step h1 e1 (by rw[e2,h3]) (by rw[e3];exact ih)
structure tg(c:Int)(l:List aH):Prop where
 n:l.length<=64
 s:l.Pairwise λa b=>eB a.aC b.aC=true
 r:∀e,e∈l->dX e.aC=true/\1<=e.ai/\e.ai<c
 k:l.Pairwise λa b=>a.ai≠b.ai
def Sh(l:List τ)(δ:Int->Nat)(n:τ):Prop:=n.θ=1/\n.ψ=[]/\n.Up=0/\n.aK.length<=4096/\n.a_=(di l n.κ:Int)+δ n.κ
def Sl(l:List τ)(δ:Int->Nat)(n:τ):Prop:=n.κ=1/\n.Up=1/\n.a_=0/\di l 1=0/\δ 1=0
def K8(l:List τ)(δ:Int->Nat)(n:τ):Prop:=n.κ≠1/\di l n.κ+δ n.κ=1/\n.a_=1/\(δ n.κ=0->∃p,gN l n.Up=V p/\∃e,e∈p.ψ/\e.κ=n.κ)
def xl(l:List τ)(δ:Int->Nat)(n:τ):Prop:=Sh l δ n\/(n.θ=2/\n.aK=[]/\(Sl l δ n\/K8 l δ n))
structure W(t:Γ)(δ:Int->Nat):Prop where
 s:fc t.η
 lo:∀n,n∈t.η->1<=n.κ/\n.κ<t.Next
 rt:∃n,gN t.η 1=V n/\n.θ=2
 len:t.η.length<=200
 ck:1<=t.ai
 en:∀n,n∈t.η->tg t.ai n.ψ
 cl:∀n,n∈t.η->∀e,e∈n.ψ->(gN t.η e.κ).isSome=true
 nd:∀n,n∈t.η->xl t.η δ n
 dp:∀n,n∈t.η->n.θ=2->∃d,Deep t.η n.κ d/\d<=12/\(d=12->n.ψ=[])
def xl.kind{l:List τ}{δ:Int->Nat}{n:τ}(h:xl l δ n):n.θ=1\/n.θ=2:=by
 rcases h with h|h
 .exact .inl h.1
 .exact .inr h.1
section
variable{t:Γ}{δ:Int->Nat}
def W.nx(h:W t δ):1<t.Next:=by
 obtain⟨n,hn,-⟩:=h.rt;have:=bz hn;have h1:=h.lo n this.1;omega
def W.get(h:W t δ){i:Int}{n:τ}(hn:gN t.η i=V n):n∈t.η/\n.κ=i/\gD t.η i=n:=⟨(bz hn).1,(bz hn).2,by unfold gD;rw[hn];rfl⟩
def W.dir(h:W t δ){n:τ}(hn:n∈t.η)(hk:n.θ=2):Sl t.η δ n\/K8 t.η δ n:=by
 rcases h.nd n hn with h|h
 .exact absurd h.1 (by omega)
 .exact h.2.2
def W.file(h:W t δ){n:τ}(hn:n∈t.η)(hk:n.θ≠2):Sh t.η δ n:=by
 rcases h.nd n hn with h|h
 .exact h
 .exact absurd h.1 hk
def W.one(h:W t δ){n:τ}(hn:n∈t.η)(h1:n.κ=1):n.θ=2:=by
 obtain⟨r,hr,hk⟩:=h.rt;have:=bz hr;rw[B0 h.s hn this.1 (by rw[h1,this.2])];exact hk
def W.IJ(h:W t δ):di t.η 1=0/\δ 1=0:=by
 obtain⟨r,hr,hk⟩:=h.rt;have:=bz hr
 rcases h.dir this.1 hk with h2|h2
 .exact h2.2.2.2
 .exact absurd this.2 h2.1
def W.we(h:W t δ){n:τ}(hn:n∈t.η){e:aH}(he:e∈n.ψ):e.κ≠1:=by
 intro h1;have:0<di t.η 1:=Ag.2 ⟨n,hn,e,he,h1⟩;have:=h.IJ.1;omega
def W.Tk(h:W t δ){m:τ}(hm:m∈t.η)(hk:m.θ=2){E:List aH}{c:Int}{iC:Int->Nat}(hc:t.ai<=c)(hE:tg c E)
  (cY:∀e,e∈E->(gN t.η e.κ).isSome=true) (vD:∀i,cE E i+iC i=cE m.ψ i+δ i)
  (qq:∀q,q∈t.η->q.θ=2->0<δ q.κ->iC q.κ=0->q.Up=m.κ)
  (xY:E=[]\/m.ψ≠[]\/∃d,Deep t.η m.κ d/\d<12):W ⟨cu ⟨m.κ,m.θ,m.a_,m.aK,E,m.Up⟩ t.η,t.Next,c⟩ iC:=by
 have hg:gN t.η m.κ=V m:=pD h.s hm;have ew:gD t.η m.κ=m:=(h.get hg).2.2;have eU:=h.ck
 have jD:∀i,di (cu ⟨m.κ,m.θ,m.a_,m.aK,E,m.Up⟩ t.η) i+iC i=di t.η i+δ i:=λi=>by
  have h1:=CV (n:=⟨m.κ,m.θ,m.a_,m.aK,E,m.Up⟩) i h.s;have h2:=vD i;dsimp only at h1;rw[ew]at h1;omega
 have gP:∀i,gN (cu ⟨m.κ,m.θ,m.a_,m.aK,E,m.Up⟩ t.η) i=if i=m.κ then V ⟨m.κ,m.θ,m.a_,m.aK,E,m.Up⟩else gN t.η i:=λi=>lO _ i _
 have vQ:∀i,(gN t.η i).isSome=true->(gN (cu ⟨m.κ,m.θ,m.a_,m.aK,E,m.Up⟩ t.η) i).isSome=true:=λi hi=>by
  rw[gP];split;rfl;exact hi
 have bn:∀{y},y∈cu ⟨m.κ,m.θ,m.a_,m.aK,E,m.Up⟩ t.η->y=⟨m.κ,m.θ,m.a_,m.aK,E,m.Up⟩\/(y∈t.η/\y.κ≠m.κ):=sN;have bu:=h.IJ
 have tU:∀{i d},Deep t.η i d->Deep (cu ⟨m.κ,m.θ,m.a_,m.aK,E,m.Up⟩ t.η) i d:=λhd=>hd.congr λj n hj _=>by
  rw[gP];by_cases e:j=m.κ
  .rw[if_pos e];rw[e,hg]at hj;cases hj;exact⟨_,rfl,rfl,rfl⟩
  .rw[if_neg e];exact⟨n,hj,rfl,rfl⟩
 have US:∀q,q∈t.η->∀q':τ,q'.κ=q.κ->q'.θ=q.θ->q'.Up=q.Up->q'.a_=q.a_->q'.aK=q.aK->(q.θ=1->q'.ψ=[])->xl (cu ⟨m.κ,m.θ,m.a_,m.aK,E,m.Up⟩ t.η) iC q':=by
  intro q hq q' e1 e2 e3 e4 e5 e6
  rcases h.nd q hq with hf|⟨dz,xZ,hr|hd⟩
  .refine .inl ⟨by rw[e2,hf.1],e6 hf.1,by rw[e3,hf.2.2.1],by rw[e5];exact hf.2.2.2.1,?_⟩;have:=hf.2.2.2.2;have:=jD q.κ;rw[e4,e1];omega
  .refine .inr ⟨by rw[e2,dz],by rw[e5,xZ],.inl ⟨by rw[e1,hr.1],by rw[e3,hr.2.1],by rw[e4,hr.2.2.1],?_,?_⟩⟩<;>(have:=jD 1;omega)
  .refine .inr ⟨by rw[e2,dz],by rw[e5,xZ],.inr ⟨by rw[e1];exact hd.1,by rw[e1,jD];exact hd.2.1,by rw[e4];exact hd.2.2.1,λh0=>?_⟩⟩;rw[e1]at h0;rw[e3,e1];have U3:=vD q.κ
   rcases pf (δ q.κ)with hz|hz
   .obtain⟨p,hp,e,he,oM⟩:=hd.2.2.2 hz;by_cases A0:q.Up=m.κ
    .refine⟨_,by rw[gP,if_pos A0],?_⟩;rw[A0,hg]at hp;cases hp;have:0<cE m.ψ q.κ:=uX.2 ⟨e,he,oM⟩;exact uX.1 (by dsimp only;omega)
    .exact⟨p,by rw[gP,if_neg A0,hp],e,he,oM⟩
   .have hu:=qq q hq dz hz h0;refine⟨_,by rw[gP,if_pos hu],?_⟩;exact uX.1 (by dsimp only;omega)
 refine⟨yP h.s,λn hn=>?_,?_,?_,by dsimp only;omega,λn hn=>?_,λn hn e he=>?_,λn hn=>?_,λn hn bG=>?_⟩
 .rcases bn hn with rfl|⟨hn,-⟩
  .exact h.lo m hm
  .exact h.lo n hn
 .obtain⟨r,hr,lg⟩:=h.rt;dsimp only;rw[gP];by_cases e:1=m.κ
  .exact⟨⟨m.κ,m.θ,m.a_,m.aK,E,m.Up⟩,by rw[if_pos e],hk⟩
  .exact⟨r,by rw[if_neg e,hr],lg⟩
 .dsimp only;rw[I3 h.s (by dsimp only;rw[hg];rfl)];exact h.len
 .rcases bn hn with rfl|⟨hn,-⟩
  .exact hE
  .have:=h.en n hn;exact⟨this.n,this.s,λe he=>⟨(this.r e he).1,by have:=(this.r e he).2;dsimp only;omega⟩,this.k⟩
 .rcases bn hn with rfl|⟨hn,-⟩
  .exact vQ _ (cY e he)
  .exact vQ _ (h.cl n hn e he)
 .rcases bn hn with rfl|⟨hn,-⟩
  .exact US m hm _ rfl rfl rfl rfl rfl (λe=>by omega)
  .exact US n hn n rfl rfl rfl rfl rfl (λe=>by
    rcases h.nd n hn with hf|hf
    .exact hf.2.1
    .have:=hf.1;omega)
 .rcases bn hn with rfl|⟨hn,-⟩
  .obtain⟨d,h1,h2,h3⟩:=h.dp m hm hk;refine⟨d,tU h1,h2,λe=>?_⟩
   rcases xY with h4|h4|⟨d',h4,h5⟩
   .exact h4
   .exact absurd (h3 e) h4
   .have:=h1.uniq h4;omega
  .obtain⟨d,h1,h2,h3⟩:=h.dp n hn bG;exact⟨d,tU h1,h2,h3⟩
end
end
section
section
variable{t:Γ}{δ iC:Int->Nat}
def xl.congr{l l':List τ}{n:τ}(h:xl l δ n)(hc:di l' n.κ=di l n.κ)(h1:di l' 1=di l 1)(hd:iC n.κ=δ n.κ)(xU:iC 1=δ 1)(hp:∀p,gN l n.Up=V p->n.κ≠1->n.θ=2->∃p',gN l' n.Up=V p'/\p'.ψ=p.ψ):xl l' iC n:=by
 rcases h with h|⟨hk,xZ,h|h⟩
 .exact .inl ⟨h.1,h.2.1,h.2.2.1,h.2.2.2.1,by rw[hc,hd];exact h.2.2.2.2⟩
 .exact .inr ⟨hk,xZ,.inl ⟨h.1,h.2.1,h.2.2.1,by rw[h1];exact h.2.2.2.1,by rw[xU];exact h.2.2.2.2⟩⟩
 .refine .inr ⟨hk,xZ,.inr ⟨h.1,by rw[hc,hd];exact h.2.1,h.2.2.1,λh0=>?_⟩⟩;rw[hd]at h0;obtain⟨p,h2,h3⟩:=h.2.2.2 h0;obtain⟨p',h4,h5⟩:=hp p h2 h.1 hk;exact⟨p',h4,by rw[h5];exact h3⟩
def W.of_eq(h:W t δ)(he:∀i,iC i=δ i):W t iC:=by
 have:iC=δ:=funext he;rw[this];exact h
def W.L6(h:W t δ){m:τ}(hm:m∈t.η)(hk:m.θ≠2){L:Int}{D:List UInt8}(hD:D.length<=4096)(hd:∀i,i≠m.κ->iC i=δ i)(hL:L=(di t.η m.κ:Int)+iC m.κ):W ⟨cu ⟨m.κ,m.θ,L,D,m.ψ,m.Up⟩ t.η,t.Next,t.ai⟩ iC:=by
 have hg:gN t.η m.κ=V m:=pD h.s hm;have ew:gD t.η m.κ=m:=(h.get hg).2.2;have hf:=h.file hm hk;have jR:m.κ≠1:=λe=>hk (h.one hm e)
 have jD:∀i,di (cu ⟨m.κ,m.θ,L,D,m.ψ,m.Up⟩ t.η) i=di t.η i:=λi=>by
  have h1:=CV (n:=⟨m.κ,m.θ,L,D,m.ψ,m.Up⟩) i h.s;dsimp only at h1;rw[ew]at h1;omega
 have gP:∀i,gN (cu ⟨m.κ,m.θ,L,D,m.ψ,m.Up⟩ t.η) i=if i=m.κ then V ⟨m.κ,m.θ,L,D,m.ψ,m.Up⟩else gN t.η i:=λi=>lO _ i _
 have Uv:∀i p,gN t.η i=V p->∃p',gN (cu ⟨m.κ,m.θ,L,D,m.ψ,m.Up⟩ t.η) i=V p'/\p'.ψ=p.ψ/\p'.θ=p.θ/\p'.Up=p.Up:=λi p hp=>by
  by_cases e:i=m.κ
  .rw[e,hg]at hp;cases hp;exact⟨⟨m.κ,m.θ,L,D,m.ψ,m.Up⟩,by rw[gP,if_pos e],rfl,rfl,rfl⟩
  .exact⟨p,by rw[gP,if_neg e,hp],rfl,rfl,rfl⟩
 have vQ:∀i,(gN t.η i).isSome=true->(gN (cu ⟨m.κ,m.θ,L,D,m.ψ,m.Up⟩ t.η) i).isSome=true:=λi hi=>by
  rw[gP];split;rfl;exact hi
 have bn:∀{y},y∈cu ⟨m.κ,m.θ,L,D,m.ψ,m.Up⟩ t.η->y=⟨m.κ,m.θ,L,D,m.ψ,m.Up⟩\/(y∈t.η/\y.κ≠m.κ):=sN
 have tU:∀{i d},Deep t.η i d->Deep (cu ⟨m.κ,m.θ,L,D,m.ψ,m.Up⟩ t.η) i d:=λhd=>hd.congr λj n hj _=>by
  obtain⟨p',h1,-,h2,h3⟩:=Uv j n hj;exact⟨p',h1,h2,h3⟩
 refine⟨yP h.s,λn hn=>?_,?_,?_,h.ck,λn hn=>?_,λn hn e he=>?_,λn hn=>?_,λn hn bG=>?_⟩
 .rcases bn hn with rfl|⟨hn,-⟩
  .exact h.lo m hm
  .exact h.lo n hn
 .obtain⟨r,hr,lg⟩:=h.rt;exact⟨r,by dsimp only;rw[gP,if_neg (lG jR),hr],lg⟩
 .dsimp only;rw[I3 h.s (by dsimp only;rw[hg];rfl)];exact h.len
 .rcases bn hn with rfl|⟨hn,-⟩
  .exact h.en m hm
  .exact h.en n hn
 .rcases bn hn with rfl|⟨hn,-⟩
  .exact vQ _ (h.cl m hm e he)
  .exact vQ _ (h.cl n hn e he)
 .rcases bn hn with rfl|⟨hn,aI⟩
  .exact .inl ⟨hf.1,hf.2.1,hf.2.2.1,hD,by dsimp only;rw[jD];exact hL⟩
  .refine(h.nd n hn).congr (jD _) (jD _) (hd _ aI) (hd _ (lG jR)) λp hp _ _=>?_;obtain⟨p',h1,h2,-⟩:=Uv _ p hp;exact⟨p',h1,h2⟩
 .rcases bn hn with rfl|⟨hn,-⟩
  .exact absurd bG hk
  .obtain⟨d,h1,h2,h3⟩:=h.dp n hn bG;exact⟨d,tU h1,h2,h3⟩
def W.gone(h:W t δ){m:τ}(hm:m∈t.η)(jR:m.κ≠1)(hE:m.ψ=[])(hc:di t.η m.κ=0)(hu:∀q,q∈t.η->q.θ=2->q.κ≠1->q.κ≠m.κ->q.Up≠m.κ)(hd:∀i,i≠m.κ->iC i=δ i):W ⟨t.η.filter (λx=>x.κ != m.κ),t.Next,t.ai⟩ iC:=by
 have hg:gN t.η m.κ=V m:=pD h.s hm;have ew:gD t.η m.κ=m:=(h.get hg).2.2
 have jD:∀i,di (t.η.filter (λx=>x.κ != m.κ)) i=di t.η i:=λi=>by
  have h1:=SL h.s m.κ i;rw[ew,hE]at h1;simp[cE]at h1;exact h1
 have gP:∀i,gN (t.η.filter (λx=>x.κ != m.κ)) i=if i=m.κ then none else gN t.η i:=λi=>vw _ _ _
 have bn:∀{y},y∈t.η.filter (λx=>x.κ != m.κ)->y∈t.η/\y.κ≠m.κ:=λhy=>by
  have:=dK.1 hy;exact⟨this.1,by simpa using this.2⟩
 have tU:∀{i d},Deep t.η i d->i≠m.κ->Deep (t.η.filter (λx=>x.κ != m.κ)) i d:=by
  intro i d hd;induction hd with
  |root=>intro _;exact .root
  |@step i n d h1 h2 h3 h4 ih =>
   intro aI;have:=bz h2;exact .step h1 (by rw[gP,if_neg aI,h2]) h3 (ih (hu n this.1 h3 (by rw[this.2];exact h1) (by rw[this.2];exact aI)))
 refine⟨Ts h.s _,λn hn=>h.lo n (bn hn).1,?_,?_,h.ck,λn hn=>h.en n (bn hn).1,λn hn e he=>?_,λn hn=>?_,λn hn bG=>?_⟩
 .obtain⟨r,hr,lg⟩:=h.rt;exact⟨r,by dsimp only;rw[gP,if_neg (lG jR),hr],lg⟩
 .exact dZ (j2 _ _) h.len
 .have hn:=(bn hn).1;dsimp only;rw[gP,if_neg ?_]
  .exact h.cl n hn e he
  .intro h1;have:0<di t.η m.κ:=Ag.2 ⟨n,hn,e,he,h1⟩;omega
 .obtain⟨hn,aI⟩:=bn hn;refine(h.nd n hn).congr (jD _) (jD _) (hd _ aI) (hd _ (lG jR)) λp hp h1 hk=>⟨p,?_,rfl⟩;rw[gP,if_neg (hu n hn hk h1 aI),hp]
 .obtain⟨hn,aI⟩:=bn hn;obtain⟨d,h1,h2,h3⟩:=h.dp n hn bG;exact⟨d,tU h1 aI,h2,h3⟩
def W.new(h:W t δ)(hl:t.η.length<200){k u:Int}(hk:k=1/\u=0\/k=2/\∃d,Deep t.η u d/\d<12)(h0:δ t.Next=0)(hd:∀i,iC i=δ i+if i=t.Next then 1 else 0):W ⟨cu ⟨t.Next,k,1,[],[],u⟩ t.η,t.Next+1,t.ai⟩ iC:=by
 have hx:=h.nx
 have bu:gN t.η t.Next=none:=xN.2 λn hn e=>by have:=h.lo n hn;omega
 have ew:gD t.η t.Next=n_:=by unfold gD;rw[bu];rfl
 have jD:∀i,di (cu ⟨t.Next,k,1,[],[],u⟩ t.η) i=di t.η i:=λi=>by
  have h1:=CV (n:=⟨t.Next,k,1,[],[],u⟩) i h.s;dsimp only at h1;rw[ew]at h1;simp[cE,n_]at h1;exact h1
 have Uk:di t.η t.Next=0:=by
  rcases pf (di t.η t.Next)with h1|h1
  .exact h1
  .obtain⟨n,hn,e,he,oM⟩:=Ag.1 h1;have:=h.cl n hn e he;rw[oM,bu]at this;cases this
 have gP:∀i,gN (cu ⟨t.Next,k,1,[],[],u⟩ t.η) i=if i=t.Next then V ⟨t.Next,k,1,[],[],u⟩else gN t.η i:=λi=>lO _ i _
 have vI:∀i p,gN t.η i=V p->gN (cu ⟨t.Next,k,1,[],[],u⟩ t.η) i=V p:=λi p hp=>by
  rw[gP,if_neg,hp];intro e;rw[e,bu]at hp;cases hp
 have bn:∀{y},y∈cu ⟨t.Next,k,1,[],[],u⟩ t.η->y=⟨t.Next,k,1,[],[],u⟩\/(y∈t.η/\y.κ≠t.Next):=sN;have tU:∀{i d},Deep t.η i d->Deep (cu ⟨t.Next,k,1,[],[],u⟩ t.η) i d:=λhd=>hd.congr λj n hj _=>⟨n,vI j n hj,rfl,rfl⟩;refine⟨yP h.s,λn hn=>?_,?_,?_,h.ck,λn hn=>?_,λn hn e he=>?_,λn hn=>?_,λn hn bG=>?_⟩
 .rcases bn hn with rfl|⟨hn,-⟩
  .dsimp only;omega
  .have:=h.lo n hn;dsimp only;omega
 .obtain⟨r,hr,lg⟩:=h.rt;exact⟨r,vI _ _ hr,lg⟩
 .have:=OV ⟨t.Next,k,1,[],[],u⟩ t.η;dsimp only;omega
 .rcases bn hn with rfl|⟨hn,-⟩
  .exact⟨by simp,o9,λe he=>(by cases he),o9⟩
  .exact h.en n hn
 .rcases bn hn with rfl|⟨hn,-⟩
  .cases he
  .obtain⟨p,hp⟩:=kv.1 (h.cl n hn e he);dsimp only;rw[vI _ _ hp];rfl
 .rcases bn hn with rfl|⟨hn,aI⟩
  .have e1:iC t.Next=1:=by rw[hd,h0,if_pos rfl]
   rcases hk with⟨h1,h2⟩|⟨h1,h2⟩
   .exact .inl ⟨h1,rfl,h2,by simp,by dsimp only;rw[jD,Uk,e1];rfl⟩
   .exact .inr ⟨h1,rfl,.inr ⟨by dsimp only;omega,by dsimp only;rw[jD,Uk,e1],rfl,λh=>by dsimp only at h;omega⟩⟩
  .exact(h.nd n hn).congr (jD _) (jD _) (by rw[hd,if_neg aI];rfl) (by rw[hd,if_neg (by omega)];rfl) λp hp _ _=>⟨p,vI _ _ hp,rfl⟩
 .rcases bn hn with rfl|⟨hn,-⟩
  .rcases hk with⟨h1,h2⟩|⟨h1,d,h2,h3⟩
   .dsimp only at bG;omega
   .exact⟨d+1,.step (by dsimp only;omega) (by rw[gP,if_pos rfl]) h1 (tU h2),by omega,λ_=>rfl⟩
  .obtain⟨d,h1,h2,h3⟩:=h.dp n hn bG;exact⟨d,tU h1,h2,h3⟩
inductive fU(l:List τ)(x:Int):Int->Prop
 |refl:fU l x x
 |step {i:Int} {n:τ}:i≠1->gN l i=V n->n.θ=2->fU l x n.Up->fU l x i
def Deep.IL{l l':List τ}{x:Int}(hg:∀i,i≠x->gN l' i=gN l i){i:Int}{d:Nat}(h:Deep l i d):¬fU l x i->Deep l' i d:=by
 induction h with
 |root=>intro _;exact .root
 |@step i n d h1 h2 h3 h4 ih =>
  intro hu;have aI:i≠x:=λe=>hu (e▸.refl);exact .step h1 (by rw[hg i aI,h2]) h3 (ih λh=>hu (.step h1 h2 h3 h))
def fU.deep{l:List τ}{x:Int}{dx:Nat}(hx:Deep l x dx){i:Int}(h:fU l x i):∀{d:Nat},Deep l i d->dx<=d:=by
 induction h with
 |refl=>intro d hd;rw[hx.uniq hd];exact bm _
 |step h1 h2 h3 h4 ih =>
  intro d hd;cases hd with
  |root=>exact absurd rfl h1
  |step g1 g2 g3 g4=>rw[h2]at g2;cases g2;have:=ih g4;omega
def fU.aeK{l l':List τ}{x:Int}{x':τ}(hg:∀i,i≠x->gN l' i=gN l i)(Θ:x≠1)(fN:gN l' x=V x')(hk:x'.θ=2){dt dx:Nat}(ht:Deep l' x'.Up dt)(hx:Deep l x dx){i:Int}(h:fU l x i):∀{d:Nat},Deep l i d->Deep l' i (dt+1+(d-dx)):=by
 induction h with
 |refl=>intro d hd;rw[hx.uniq hd,Nat.sub_self];exact .step Θ fN hk ht
 |@step i n h1 h2 h3 h4 ih =>
  intro d hd;by_cases e:i=x
  .subst e;rw[hx.uniq hd,Nat.sub_self];exact .step Θ fN hk ht
  .cases hd with
   |root=>exact absurd rfl h1
   |@step _ n' d' g1 g2 g3 g4 =>
    rw[h2]at g2;cases g2;have h5:=ih g4;have h6:=h4.deep hx g4
    have:dt+1+(d'+1-dx)=dt+1+(d'-dx)+1:=by omega
    rw[this];exact .step h1 (by rw[hg i e,h2]) h3 h5
def W.aeL(h:W t δ){m:τ}(hm:m∈t.η)(hk:m.θ=2)(jR:m.κ≠1)(hw:0<δ m.κ){to:Int}{dt dx:Nat}(ht:Deep t.η to dt)(hx:Deep t.η m.κ dx)(sD:¬fU t.η m.κ to)
  (xY:∀n,n∈t.η->n.θ=2->fU t.η m.κ n.κ->∀d,Deep t.η n.κ d->dt+1+(d-dx)<=12/\(dt+1+(d-dx)=12->n.ψ=[])):W ⟨cu ⟨m.κ,m.θ,m.a_,m.aK,m.ψ,to⟩ t.η,t.Next,t.ai⟩ δ:=by
 have hg:gN t.η m.κ=V m:=pD h.s hm;have ew:gD t.η m.κ=m:=(h.get hg).2.2
 have jD:∀i,di (cu ⟨m.κ,m.θ,m.a_,m.aK,m.ψ,to⟩ t.η) i=di t.η i:=λi=>by
  have h1:=CV (n:=⟨m.κ,m.θ,m.a_,m.aK,m.ψ,to⟩) i h.s;dsimp only at h1;rw[ew]at h1;omega
 have gP:∀i,gN (cu ⟨m.κ,m.θ,m.a_,m.aK,m.ψ,to⟩ t.η) i=if i=m.κ then V ⟨m.κ,m.θ,m.a_,m.aK,m.ψ,to⟩else gN t.η i:=λi=>lO _ i _
 have sw:gN (cu ⟨m.κ,m.θ,m.a_,m.aK,m.ψ,to⟩ t.η) m.κ=V ⟨m.κ,m.θ,m.a_,m.aK,m.ψ,to⟩:=by rw[gP,if_pos rfl]
 have vH:∀i,i≠m.κ->gN (cu ⟨m.κ,m.θ,m.a_,m.aK,m.ψ,to⟩ t.η) i=gN t.η i:=λi hi=>by rw[gP,if_neg hi]
 have vQ:∀i,(gN t.η i).isSome=true->(gN (cu ⟨m.κ,m.θ,m.a_,m.aK,m.ψ,to⟩ t.η) i).isSome=true:=λi hi=>by
  rw[gP];split;rfl;exact hi
 have bn:∀{y},y∈cu ⟨m.κ,m.θ,m.a_,m.aK,m.ψ,to⟩ t.η->y=⟨m.κ,m.θ,m.a_,m.aK,m.ψ,to⟩\/(y∈t.η/\y.κ≠m.κ):=sN;have htt:Deep (cu ⟨m.κ,m.θ,m.a_,m.aK,m.ψ,to⟩ t.η) to dt:=ht.IL vH sD
 have dQ:∀n,n∈t.η->n.θ=2->∃d,Deep (cu ⟨m.κ,m.θ,m.a_,m.aK,m.ψ,to⟩ t.η) n.κ d/\d<=12/\(d=12->n.ψ=[]):=λn hn jQ=>by
  obtain⟨d,h1,h2,h3⟩:=h.dp n hn jQ;by_cases hu:fU t.η m.κ n.κ
  .exact⟨_,hu.aeK vH jR sw hk htt hx h1,xY n hn jQ hu d h1⟩
  .exact⟨d,h1.IL vH hu,h2,h3⟩
 refine⟨yP h.s,λn hn=>?_,?_,?_,h.ck,λn hn=>?_,λn hn e he=>?_,λn hn=>?_,λn hn bG=>?_⟩
 .rcases bn hn with rfl|⟨hn,-⟩
  .exact h.lo m hm
  .exact h.lo n hn
 .obtain⟨r,hr,lg⟩:=h.rt;exact⟨r,by dsimp only;rw[vH _ (lG jR),hr],lg⟩
 .dsimp only;rw[I3 h.s (by dsimp only;rw[hg];rfl)];exact h.len
 .rcases bn hn with rfl|⟨hn,-⟩
  .exact h.en m hm
  .exact h.en n hn
 .rcases bn hn with rfl|⟨hn,-⟩
  .exact vQ _ (h.cl m hm e he)
  .exact vQ _ (h.cl n hn e he)
 .rcases bn hn with rfl|⟨hn,aI⟩
  .rcases h.dir hm hk with hr|hd
   .exact absurd hr.1 jR
   .refine .inr ⟨hk,?_,.inr ⟨jR,by dsimp only;rw[jD];exact hd.2.1,hd.2.2.1,λh0=>by dsimp only at h0;omega⟩⟩
    rcases h.nd m hm with h5|h5
    .exact absurd h5.1 (by omega)
    .exact h5.2.1
  .refine(h.nd n hn).congr (jD _) (jD _) rfl rfl λp hp _ _=>?_;by_cases e:n.Up=m.κ
   .rw[e,hg]at hp;cases hp;exact⟨⟨m.κ,m.θ,m.a_,m.aK,m.ψ,to⟩,by rw[e];exact sw,rfl⟩
   .exact⟨p,by rw[vH _ e,hp],rfl⟩
 .rcases bn hn with rfl|⟨hn,-⟩
  .exact dQ m hm hk
  .exact dQ n hn bG
end
end
section
def SC(e:aH)(i:Int):∀l,cE (js e l) i=cE l i+if i=e.κ then 1 else 0
 |[]=>by
  unfold js cE;by_cases h:i=e.κ
  .simp[h]
  .have:¬e.κ=i:=λh'=>h h'.symm;simp[h,this]
 |x::r=>by
  have ih:=SC e i r;rw[yC];unfold cE at *;split
  .rw[zP];by_cases h:i=e.κ
   .simp[h]
   .have:¬e.κ=i:=λh'=>h h'.symm;simp[h,this]
  .rw[zP,zP,ih];omega
def ad3{c:Int}{l:List aH}(h:tg c l){s:List UInt8}{o:Int}(hs:dX s=true)(hc:1<=c)(hl:l.length<64)(bu:∀e,e∈l->e.aC≠s):tg (c+1) (js ⟨s,o,c⟩ l):=by
 refine⟨by rw[NY];omega,?_,λe he=>?_,?_⟩
 .have key:∀l:List aH,l.Pairwise (λa b=>eB a.aC b.aC=true)->(∀e,e∈l->e.aC≠s)->(js ⟨s,o,c⟩ l).Pairwise λa b=>eB a.aC b.aC=true:=by
   intro l;induction l with
   |nil=>intro _ _;exact uL _ _
   |cons x r ih =>
    intro hp hn;obtain⟨h1,h2⟩:=e9.1 hp;have nX:=hn x (by simp);rw[yC];split
    .next vJ =>
     have vJ:eB s x.aC=true:=by
      rcases Sw s x.aC with h|h|h
      .exact h
      .exact absurd h.symm nX
      .simp[h]at vJ
     refine e9.2 ⟨λy hy=>?_,hp⟩
     rcases bp.1 hy with rfl|hy
     .exact vJ
     .exact GX vJ (h1 y hy)
    .next vJ =>
     have Ξ:eB x.aC s=true:=by
      cases hb:eB x.aC s with
      |true=>rfl
      |false=>exact absurd (by simp[hb,nX]) vJ
     refine e9.2 ⟨λy hy=>?_,ih h2 λe he=>hn e (cw _ he)⟩
     rcases Bb.1 hy with rfl|hy
     .exact Ξ
     .exact h1 y hy
  exact key l h.s bu
 .rcases Bb.1 he with rfl|he
  .exact⟨hs,by dsimp only;omega,by dsimp only;omega⟩
  .exact⟨(h.r e he).1,by have:=(h.r e he).2;omega⟩
 .have key:∀l:List aH,l.Pairwise (λa b=>a.ai≠b.ai)->(∀e,e∈l->e.ai≠c)->(js ⟨s,o,c⟩ l).Pairwise λa b=>a.ai≠b.ai:=by
   intro l;induction l with
   |nil=>intro _ _;exact uL _ _
   |cons x r ih =>
    intro hp hn;obtain⟨h1,h2⟩:=e9.1 hp;rw[yC];split
    .exact e9.2 ⟨λy hy=>λe=>hn y hy e.symm,hp⟩
    .refine e9.2 ⟨λy hy=>?_,ih h2 λe he=>hn e (cw _ he)⟩
     rcases Bb.1 hy with rfl|hy
     .exact hn x (by simp)
     .exact h1 y hy
  exact key l h.k λe he=>by have:=(h.r e he).2;omega
def ab'{c:Int}{l:List aH}(h:tg c l)(p:aH->Bool):tg c (l.filter p):=
 ⟨dZ (j2 _ _) h.n,h.s.filter _,λe he=>h.r e (dK.1 he).1,h.k.filter _⟩
def aaK{c:Int}{l:List aH}(h:tg c l){s:List UInt8}{e:aH}(hf:l.find? (λe=>e.aC==s)=V e)(i:Int):cE (l.filter λe=>!(e.aC==s)) i+(if i=e.κ then 1 else 0)=cE l i:=by
 have key:∀l:List aH,l.Pairwise (λa b=>eB a.aC b.aC=true)->l.find? (λe=>e.aC==s)=V e->cE (l.filter λe=>!(e.aC==s)) i+(if i=e.κ then 1 else 0)=cE l i:=by
  intro l;induction l with
  |nil=>intro _ h;cases h
  |cons x r ih =>
   intro hp hf;obtain⟨h1,h2⟩:=e9.1 hp;rw[KM]at hf;rw[eL];cases hx:(x.aC==s)with
   |true =>
    rw[hx]at hf;cases hf
    have nX:e.aC=s:=by simpa using hx
    have:r.filter (λe=>!(e.aC==s))=r:=by
     rw[ot];intro y hy;have h3:=h1 y hy;cases qt:(y.aC==s)with
     |false=>rfl
     |true =>
      have uk:y.aC=s:=by simpa using qt
      rw[nX,uk,rV]at h3;cases h3
    rw[if_neg (by simp),this];unfold cE;rw[zP];by_cases hi:i=e.κ
    .simp[hi]
    .have:¬e.κ=i:=λh'=>hi h'.symm;simp[hi,this]
   |false =>
    rw[hx]at hf;have:=ih h2 hf;rw[if_pos (show(!false)=true from rfl)];unfold cE at *;rw[zP,zP];omega
 exact key l h.s hf
def CZ{l:List τ}{i:Int}(h:(dj l i).2=0):∃m,gN l i=V m/\m.θ=2/\(dj l i).1=m/\gD l i=m:=by
 unfold dj at *;cases hg:gN l i with
 |none=>rw[hg]at h;cases h
 |some m =>
  have hd:gD l i=m:=by unfold gD;rw[hg];rfl
  rw[hg,hd]at h;by_cases hk:(m.θ != 2)=true
  .simp[hk]at h
  .rw[hd];refine⟨m,rfl,by simpa using hk,?_,rfl⟩;simp[hk]
def look_ok{t:Γ}{i:Int}{s:List UInt8}(h:(bJ t i s).2=0):∃m e,gN t.η i=V m/\m.θ=2/\gD t.η i=m/\dX s=true/\m.ψ.find? (λe=>e.aC==s)=V e/\(bJ t i s).1=e.κ:=by
 unfold bJ at *;by_cases h1:((dj t.η i).2 != 0)=true
 .rw[if_pos h1]at h;exact absurd h (by simpa using h1)
 rw[if_neg h1]at h ⊢;obtain⟨m,h2,h3,h4,h5⟩:=CZ (mb h1);by_cases h6:(!dX s)=true
 .rw[if_pos h6]at h;cases h
 rw[if_neg h6]at h ⊢;rw[h4]at h ⊢;cases hf:m.ψ.find? (λe=>e.aC==s)with
 |none=>rw[hf]at h;cases h
 |some e=>exact⟨m,e,h2,h3,h5,by simpa using h6,hf,rfl⟩
def aeR{l:List aH}{s:List UInt8}(h:(sL l s).isSome=false):∀e,e∈l->e.aC≠s:=by
 unfold sL at h;intro e he
 have:l.findIdx? (λe=>e.aC==s)=none:=by cases hx:l.findIdx? (λe=>e.aC==s)<;>simp_all
 rw[uI]at this;simpa using this e he
def G8{l:List τ}{i:Int}{d:Nat}(h:Deep l i d):∀{f:Nat},d<=f->eG l f i=d:=by
 induction h with
 |root =>
  intro f _;cases f with
  |zero=>rfl
  |succ f=>rw[LF,if_pos rfl]
 |@step i n d h1 h2 h3 h4 ih =>
  intro f hf;cases f with
  |zero=>omega
  |succ f =>
   have:gD l i=n:=by unfold gD;rw[h2];rfl
   rw[LF,if_neg h1,this,ih (by omega)]
def GV{l:List τ}{x i:Int}(h:fU l x i):∀{d f:Nat},Deep l i d->d<f->tq l x f i=true:=by
 induction h with
 |refl =>
  intro d f _ hf;cases f with
  |zero=>omega
  |succ f=>unfold tq;rw[if_pos (by simp)]
 |@step i n h1 h2 h3 h4 ih =>
  intro d f hd hf;cases f with
  |zero=>omega
  |succ f =>
   unfold tq;by_cases e:(i==x)=true
   .rw[if_pos e]
   .rw[if_neg e,if_neg (by simpa using h1)]
    have:gD l i=n:=by unfold gD;rw[h2];rfl
    rw[this];cases hd with
    |root=>exact absurd rfl h1
    |step g1 g2 g3 g4=>rw[h2]at g2;cases g2;exact ih g4 (by omega)
def YX{l:List τ}{x:Int}:∀{f d:Nat}{i:Int},Deep l i d->tq l x f i=true->fU l x i
 |0,_,_,_,h=>by cases h
 |f+1,d,i,hd,h=>by
  unfold tq at h;by_cases e:(i==x)=true
  .have:i=x:=by simpa using e
   rw[this];exact .refl
  .rw[if_neg e]at h;by_cases e1:(i==1)=true
   .rw[if_pos e1]at h;cases h
   .rw[if_neg e1]at h;cases hd with
    |root=>simp at e1
    |step g1 g2 g3 g4 =>
     rename_i n _
     have:gD l i=n:=by unfold gD;rw[g2];rfl
     rw[this]at h;exact .step g1 g2 g3 (YX g4 h)
def tC:∀{d:Nat}{l:List τ}{i:Int},Deep l i d->d<=l.length
 |0,_,_,_=>iE _
 |d+1,l,i,h=>by
  cases h with
  |step h1 h2 h3 h4 =>
   have hi:Deep l i (d+1):=.step h1 h2 h3 h4
   have sD:¬fU l i _:=λhu=>by have:=hu.deep hi h4;omega
   have h5:=h4.IL (l':=l.filter (λx=>x.κ != i)) (λj hj=>by rw[vw,if_neg hj]) sD;have h6:=tC h5
   have h7:(l.filter (λx=>x.κ != i)).length<l.length:=by
    rw[Z_];exact⟨_,(bz h2).1,by simp[(bz h2).2]⟩
   omega
def ac6{l:List τ}{i a:Int}{n:τ}(hn:n∈l)(hk:n.θ=2)(hb:gw l n.κ i=true):a+(eG l 201 n.κ:Int)-(eG l 201 i:Int)+(if decide ((n.ψ.length:Int)>0)=true then 1 else 0)<=oN l i a:=by
 unfold oN;generalize eG l 201=dd
 have key:∀(m:List τ)(z:Int),z<=m.foldl (λm n=>if(n.θ==2&&gw l n.κ i)=true then max m (a+(dd n.κ:Int)-(dd i:Int)+if decide ((n.ψ.length:Int)>0)=true then 1 else 0)else m) z/\(n∈m->a+(dd n.κ:Int)-(dd i:Int)+(if decide ((n.ψ.length:Int)>0)=true then 1 else 0)<=m.foldl (λm n=>if(n.θ==2&&gw l n.κ i)=true then max m (a+(dd n.κ:Int)-(dd i:Int)+if decide ((n.ψ.length:Int)>0)=true then 1 else 0)else m) z):=by
  intro m;induction m with
  |nil=>intro z;exact⟨o8 _,λh=>by cases h⟩
  |cons x r ih =>
   intro z;rw[RN];have h1:=ih (if(x.θ==2&&gw l x.κ i)=true then max z (a+(dd x.κ:Int)-(dd i:Int)+if decide ((x.ψ.length:Int)>0)=true then 1 else 0)else z);refine⟨Int.le_trans ?_ h1.1,λhm=>?_⟩
   .split
    .exact Int.le_max_left _ _
    .exact o8 _
   .rcases bp.1 hm with rfl|hm
    .refine Int.le_trans ?_ h1.1;rw[if_pos (show(n.θ==2&&gw l n.κ i)=true by simp[hk,hb])];exact Int.le_max_right _ _
    .exact h1.2 hm
 exact(key l 0).2 hn
def zF(m:τ)(E:List aH):τ:=⟨m.κ,m.θ,m.a_,m.aK,E,m.Up⟩
section
variable{t:Γ}{δ iC:Int->Nat}
def xM{i:Int}{m:τ}(hm:gN t.η i=V m)(s:List UInt8)(j:Int):gN (eh t i s).η j=if j=i then V (zF m (m.ψ.filter λe=>!(e.aC==s)))else gN t.η j:=by
 have hd:gD t.η i=m:=by unfold gD;rw[hm];rfl
 unfold eh;dsimp only;rw[lO,hd];show(if j=m.κ then V (zF m _)else _)=_;rw[(bz hm).2]
def W.eh(h:W t δ){i:Int}{m:τ}(hm:gN t.η i=V m)(hk:m.θ=2){s:List UInt8}{e:aH}(hf:m.ψ.find? (λe=>e.aC==s)=V e)(hd:∀k,iC k=δ k+if k=e.κ then 1 else 0):W (eh t i s) iC:=by
 obtain⟨h1,h2,h3⟩:=h.get hm;unfold Go.Proofs.eh;rw[h3];refine h.Tk h1 hk (o8 _) (ab' (h.en m h1) _) (λe he=>h.cl m h1 e (dK.1 he).1) (λk=>?_) (λq hq _ h4 h5=>?_) (.inr (.inl λe0=>by rw[e0]at hf;cases hf))
 .rw[hd,<-aaK (h.en m h1) hf k];omega
 .rw[hd]at h5;omega
def W.jz(h:W t δ){i:Int}{m:τ}(hm:gN t.η i=V m)(hk:m.θ=2){s:List UInt8}(hs:dX s=true)(bu:∀e,e∈m.ψ->e.aC≠s)(hl:m.ψ.length<64){d:Nat}(xY:Deep t.η i d)(MH:d<12){o:Int}{q:τ}(ho:gN t.η o=V q)(NU:0<δ o)(qq:q.θ=2->q.Up=i)(hd:∀k,iC k=δ k-if k=o then 1 else 0):W (jz t i s o) iC:=by
 obtain⟨h1,h2,h3⟩:=h.get hm;obtain⟨g1,g2,g3⟩:=h.get ho;unfold Go.Proofs.jz;rw[h3];refine h.Tk h1 hk (by omega) (ad3 (h.en m h1) hs h.ck hl bu) (λe he=>?_) (λk=>?_) (λp hp DR h4 h5=>?_) (.inr (.inr ⟨d,by rw[h2];exact xY,MH⟩))
 .rcases Bb.1 he with rfl|he
  .dsimp only;rw[ho];rfl
  .exact h.cl m h1 e he
 .rw[hd,SC];dsimp only;by_cases e:k=o
  .rw[if_pos e];rw[<-e]at NU;omega
  .rw[if_neg e];omega
 .rw[hd]at h5
  have e:p.κ=o:=by
   by_cases e:p.κ=o
   .exact e
   .rw[if_neg e]at h5;omega
  have:p=q:=B0 h.s hp g1 (by rw[e,g2]);rw[h2,this];exact qq (this▸DR)
def W.jt(h:W t δ){j:Int}{m:τ}(hm:gN t.η j=V m)(NU:0<δ j)(hE:m.ψ=[])(bu:∀q,q∈t.η->q.θ=2->0<δ q.κ->q.κ≠j->q.Up≠j)(hd:∀k,iC k=δ k-if k=j then 1 else 0):W (jt t j) iC:=by
 obtain⟨h1,h2,h3⟩:=h.get hm;unfold Go.Proofs.jt;rw[h3]
 have AN:m.κ≠1:=λe=>by have:=h.IJ.2;rw[<-h2,e]at NU;omega
 split
 .next hk =>
  have hk:m.θ=2:=by simpa using hk
  rw[<-h2]
  rcases h.dir h1 hk with hr|hr
  .exact absurd hr.1 AN
  .have h4:=hr.2.1;rw[h2]at h4;refine h.gone h1 AN hE (by rw[h2];omega) (λq hq A1 gq m_=>?_) (λk hk=>by rw[hd,if_neg (by omega)];rfl);rw[h2]at m_ ⊢
   rcases pf (δ q.κ)with hz|hz
   .intro hu
    rcases h.dir hq A1 with oQ|oQ
    .exact absurd oQ.1 gq
    .obtain⟨p,hp,e,he,-⟩:=oQ.2.2.2 hz;rw[hu,hm]at hp;cases hp;rw[hE]at he;cases he
   .exact bu q hq A1 hz m_
 .next hk =>
  have hk:m.θ≠2:=by simpa using hk
  have hf:=h.file h1 hk;refine h.L6 h1 hk hf.2.2.2.1 (λk hk=>by rw[hd,if_neg (by omega)];rfl) ?_;have:=hf.2.2.2.2;rw[h2]at this ⊢;rw[hd,if_pos rfl];omega
end
end
section
def RT(t:Γ):Prop:=W t λ_=>0
def ig(j:Int):Int->Nat:=λi=>if i=j then 1 else 0
def eE{l:List τ}{i:Int}{m:τ}(h:gN l i=V m):gD l i=m:=by unfold gD;rw[h];rfl
section
variable{t:Γ}{δ:Int->Nat}
def W.deep(h:W t δ){i:Int}{m:τ}(hm:gN t.η i=V m)(hk:m.θ=2):∃d,Deep t.η i d/\d<=12/\(d=12->m.ψ=[])/\eG t.η 201 i=d:=by
 obtain⟨h1,h2,h3⟩:=h.get hm;obtain⟨d,h4,h5,h6⟩:=h.dp m h1 hk;rw[h2]at h4;exact⟨d,h4,h5,h6,G8 h4 (by omega)⟩
def Tj{i:Int}{s:List UInt8}(h:vp t i s=0):∃m,gN t.η i=V m/\m.θ=2/\dX s=true/\(∀e,e∈m.ψ->e.aC≠s)/\m.ψ.length<64/\eG t.η 201 i<12:=by
 unfold vp at h;by_cases h1:((dj t.η i).2 != 0)=true
 .rw[if_pos h1]at h;exact absurd h (by simpa using h1)
 rw[if_neg h1]at h;obtain⟨m,h2,h3,h4,h5⟩:=CZ (mb h1);by_cases h6:(!dX s)=true
 .rw[if_pos h6]at h;cases h
 rw[if_neg h6,h4]at h;by_cases h7:(sL m.ψ s).isSome=true
 .rw[if_pos h7]at h;cases h
 rw[if_neg h7]at h;by_cases h8:Di t m=true
 .rw[if_pos h8]at h;cases h
 unfold Di at h8;simp only[s6,decide_eq_true_eq,not_or]at h8;have hi:=(bz h2).2;rw[hi]at h8;refine⟨m,h2,h3,by simpa using h6,aeR (by simpa using h7),by omega,?_⟩;have:=h8.1.2;generalize eG t.η 201 i=q at *;omega
def RT.add(h:RT t)(i:Int)(s:List UInt8)(k:Int):RT (uT t i s k).1:=by
 unfold uT;split
 .exact h
 next hk =>
 split
 .exact h
 next he =>
 split
 .exact h
 next hf =>
 obtain⟨m,h1,h2,h3,h4,h5,h6⟩:=Tj (mb he);obtain⟨d,g1,g2,g3,g4⟩:=W.deep h h1 h2;rw[g4]at h6
 have hl:t.η.length<200:=by simp at hf;omega
 have re:k=1\/k=2:=by
  by_cases e:k=1
  .exact .inl e
  .refine .inr (Classical.byContradiction λe2=>hk (by simp[e,e2]))
 have bu:gN t.η t.Next=none:=xN.2 λn hn e=>by have:=h.lo n hn;omega
 have oO:i≠t.Next:=λe=>by rw[e,bu]at h1;cases h1
 have w1:W ⟨cu ⟨t.Next,k,1,[],[],if(k==2)=true then i else 0⟩ t.η,t.Next+1,t.ai⟩ (ig t.Next):=by
  refine W.new h hl ?_ rfl λj=>?_
  .rcases re with e|e
   .subst e;exact .inl ⟨rfl,rfl⟩
   .subst e;exact .inr ⟨rfl,d,g1,h6⟩
  .unfold ig;omega
 have ξ:∀j,j≠t.Next->gN (cu ⟨t.Next,k,1,[],[],if(k==2)=true then i else 0⟩ t.η) j=gN t.η j:=λj hj=>by rw[lO];exact if_neg hj
 refine W.jz (q:=⟨t.Next,k,1,[],[],if(k==2)=true then i else 0⟩) w1 (by dsimp only;rw[ξ i oO];exact h1) h2 h3 h4 h5 (g1.congr λj n hj _=>⟨n,by dsimp only;rw[ξ j λe=>by rw[e,bu]at hj;cases hj];exact hj,rfl,rfl⟩) h6 (by dsimp only;rw[lO];exact if_pos rfl) (by unfold ig;rw[if_pos rfl];omega) (λe=>by dsimp only at e ⊢;rw[if_pos (by simp[e])]) λj=>?_;unfold ig;split<;>rfl
def RT.ln(h:RT t)(i to:Int)(s:List UInt8):RT (vZ t i to s).1:=by
 unfold vZ;split
 .exact h
 next hp =>
 split
 .exact h
 next hk =>
 split
 .exact h
 next he =>
 obtain⟨m,h1,h2,h3,h4,h5,h6⟩:=Tj (mb he);obtain⟨d,g1,g2,g3,g4⟩:=W.deep h h1 h2;rw[g4]at h6
 obtain⟨n,hn⟩:∃n,gN t.η i=V n:=by
  cases hg:gN t.η i with
  |none=>rw[hg]at hp;simp at hp
  |some n=>exact⟨n,rfl⟩
 rw[eE hn]at hk ⊢
 have dz:n.θ≠2:=by simpa using hk
 obtain⟨k1,k2,k3⟩:=W.get h hn;have hf:=W.file h k1 dz
 have kG:to≠i:=λe=>by rw[e,hn]at h1;cases h1;exact dz h2
 have w1:W ⟨cu ⟨n.κ,n.θ,n.a_+1,n.aK,n.ψ,n.Up⟩ t.η,t.Next,t.ai⟩ (ig i):=by
  refine W.L6 h k1 dz hf.2.2.2.1 (λj hj=>by unfold ig;rw[if_neg (by rw[<-k2];exact hj)]) ?_;have:=hf.2.2.2.2;dsimp only at this;unfold ig;rw[k2,if_pos rfl];rw[k2]at this;omega
 have ξ:∀j,gN (cu ⟨n.κ,n.θ,n.a_+1,n.aK,n.ψ,n.Up⟩ t.η) j=if j=i then V ⟨n.κ,n.θ,n.a_+1,n.aK,n.ψ,n.Up⟩else gN t.η j:=λj=>by
  rw[lO];show(if j=n.κ then _ else _)=_;rw[k2]
 refine W.jz (q:=⟨n.κ,n.θ,n.a_+1,n.aK,n.ψ,n.Up⟩) w1 (by dsimp only;rw[ξ,if_neg kG];exact h1) h2 h3 h4 h5 (g1.congr λj p hj DR=>⟨p,by dsimp only;rw[ξ,if_neg λe=>by rw[e,hn]at hj;cases hj;exact dz DR];exact hj,rfl,rfl⟩) h6 (by dsimp only;rw[ξ];exact if_pos rfl) (by unfold ig;rw[if_pos rfl];omega) (λe=>absurd e dz) λj=>?_;unfold ig;split<;>rfl
def RT.un(h:RT t)(i:Int)(s:List UInt8):RT (wP t i s).1:=by
 unfold wP;split
 .exact h
 next he =>
 split
 .exact h
 next hE =>
 obtain⟨m,e,h1,h2,h3,h4,h5,h6⟩:=look_ok (mb he);rw[h6]at hE ⊢;obtain⟨k1,k2,k3⟩:=W.get h h1;have lP:=lE h5;obtain⟨x,hx⟩:=kv.1 (h.cl m k1 e lP);rw[eE hx]at hE;have D6:x.ψ=[]:=qJ.1 (by have:¬((x.ψ.length:Int)>0):=λh=>hE (decide_eq_true h);omega)
 have hxi:e.κ≠i:=λh'=>by rw[h',h1]at hx;cases hx;rw[D6]at lP;cases lP
 have w1:W (eh t i s) (ig e.κ):=W.eh h h1 h2 h5 λk=>by unfold ig;omega
 refine W.jt w1 (j:=e.κ) (m:=x) (by rw[xM h1,if_neg hxi];exact hx) (by unfold ig;rw[if_pos rfl];omega) D6 (λq _ _ h7 h8=>by unfold ig at h7;rw[if_neg h8]at h7;omega) λk=>?_;unfold ig;split<;>rfl
def RT.WT(h:RT t)(i:Int)(x:List UInt8):RT (wj t i x).1:=by
 unfold wj;split
 .exact h
 next hp =>
 split
 .exact h
 next hk =>
 split
 .exact h
 next hx =>
 obtain⟨n,hn⟩:∃n,gN t.η i=V n:=by
  cases hg:gN t.η i with
  |none=>rw[hg]at hp;simp at hp
  |some n=>exact⟨n,rfl⟩
 rw[eE hn]at hk ⊢
 have dz:n.θ≠2:=by simpa using hk
 obtain⟨k1,k2,k3⟩:=W.get h hn;have hf:=W.file h k1 dz;exact W.L6 h k1 dz (by simp at hx;omega) (λ_ _=>rfl) hf.2.2.2.2
def RT.free(h:RT t)(i:Int):RT (mV t i).1:=by
 unfold mV;split
 .exact h
 next hp =>
 split
 .exact h
 next hk =>
 split
 .exact h
 next hx =>
 obtain⟨n,hn⟩:∃n,gN t.η i=V n:=by
  cases hg:gN t.η i with
  |none=>rw[hg]at hp;simp at hp
  |some n=>exact⟨n,rfl⟩
 rw[eE hn]at hk hx
 have dz:n.θ≠2:=by simpa using hk
 obtain⟨k1,k2,k3⟩:=W.get h hn;have hf:=W.file h k1 dz;rw[<-k2];refine W.gone h k1 (λe=>dz (W.one h k1 e)) hf.2.1 (by have:=hf.2.2.2.2;simp at hx;omega) (λq hq A1 gq _ hu=>?_) λ_ _=>rfl
 rcases W.dir h hq A1 with hr|hr
 .exact gq hr.1
 .obtain⟨p,hp,e,he,-⟩:=hr.2.2.2 rfl;rw[hu,k2,hn]at hp;cases hp;rw[hf.2.1]at he;cases he
def ma(u t:List τ):Prop:=∀j n,gN u j=V n->∃n',gN t j=V n'/\n'.θ=n.θ/\n'.Up=n.Up/\(n'.ψ=[]->n.ψ=[])
def ma.deep{u t:List τ}(h:ma u t){i:Int}{d:Nat}(hd:Deep u i d):Deep t i d:=hd.congr λj n hj _=>by
 obtain⟨n',h1,h2,h3,-⟩:=h j n hj;exact⟨n',h1,h2,h3⟩
def ma.oi{u t:List τ}(h:ma u t){x i:Int}(hu:fU u x i):fU t x i:=by
 induction hu with
 |refl=>exact .refl
 |step h1 h2 h3 h4 ih =>
  obtain⟨n',g1,g2,g3,-⟩:=h _ _ h2;exact .step h1 g1 (by rw[g2,h3]) (by rw[g3];exact ih)
def ma.trans{u v t:List τ}(h:ma u v)(h':ma v t):ma u t:=λj n hn=>by
 obtain⟨n',h1,h2,h3,h4⟩:=h j n hn;obtain⟨n'',g1,g2,g3,g4⟩:=h' j n' h1;exact⟨n'',g1,by rw[g2,h2],by rw[g3,h3],λe=>h4 (g4 e)⟩
def ma.nZ{i:Int}{m:τ}(hm:gN t.η i=V m)(s:List UInt8):ma (eh t i s).η t.η:=λj n hn=>by
 rw[xM hm]at hn;by_cases e:j=i
 .rw[if_pos e]at hn;cases hn;exact⟨m,by rw[e,hm],rfl,rfl,λe0=>by show List.filter _ _=_;rw[e0];rfl⟩
 .rw[if_neg e]at hn;exact⟨n,hn,rfl,rfl,id⟩
def Mi{j:Int}{m:τ}(hm:gN t.η j=V m){i:Int}(hi:i≠j):gN (jt t j).η i=gN t.η i:=by
 unfold jt;rw[eE hm];split
 .dsimp only;rw[vw,if_neg hi]
 .dsimp only;rw[lO];exact if_neg (by rw[(bz hm).2];exact hi)
def ma.un{j:Int}{m:τ}(hm:gN t.η j=V m):ma (jt t j).η t.η:=λi n hn=>by
 by_cases e:i=j
 .subst e;unfold jt at hn;rw[eE hm]at hn;split at hn
  .dsimp only at hn;rw[vw,if_pos rfl]at hn;cases hn
  .dsimp only at hn;rw[lO,if_pos (bz hm).2.symm]at hn;cases hn;exact⟨m,hm,rfl,rfl,id⟩
 .rw[Mi hm e]at hn;exact⟨n,hn,rfl,rfl,id⟩
end
end
section
section
variable{t:Γ}{δ:Int->Nat}
def aaT{l:List τ}{i:Int}{p q:τ}(hp:p∈l)(hq:q∈l)(aI:p≠q)(h1:0<cE p.ψ i)(h2:0<cE q.ψ i):2<=di l i:=by
 induction l with
 |nil=>cases hp
 |cons x l ih =>
  rw[vh];have hc:∀{y:τ},y∈l->0<cE y.ψ i->0<di l i:=λhy h=>Ag.2 ⟨_,hy,uX.1 h⟩
  rcases bp.1 hp with e1|hp<;>rcases bp.1 hq with e2|hq
  .exact absurd (e1.trans e2.symm) aI
  .rw[<-e1];have:=hc hq h2;omega
  .rw[<-e2];have:=hc hp h1;omega
  .have:=ih hp hq;omega
def W.parent(h:W t δ){p q:τ}(hp:p∈t.η){e:aH}(he:e∈p.ψ)(hq:gN t.η e.κ=V q)(hk:q.θ=2):q.Up=p.κ:=by
 obtain⟨k1,k2,k3⟩:=h.get hq;have hc:0<cE p.ψ e.κ:=uX.2 ⟨e,he,rfl⟩;have aX:0<di t.η e.κ:=Ag.2 ⟨p,hp,e,he,rfl⟩
 rcases h.dir k1 hk with hr|hr
 .exact absurd (k2.symm.trans hr.1) (h.we hp he)
 .rw[K8,k2]at hr;obtain⟨p',iJ,e',eN,acV⟩:=hr.2.2.2 (by omega);have A0:=bz iJ;by_cases H4:p=p'
  .rw[H4,A0.2]
  .have:=aaT hp A0.1 H4 hc (uX.2 ⟨e',eN,acV⟩);omega
def W.IK(h:W t δ){i:Int}{m:τ}(hm:gN t.η i=V m)(hk:m.θ=2){e:aH}(he:e∈m.ψ):e.κ≠i:=by
 intro oM;obtain⟨k1,k2,k3⟩:=h.get hm;have hu:=h.parent k1 he (by rw[oM];exact hm) hk;obtain⟨d,h1,-⟩:=h.deep hm hk
 have DH:i≠1:=by rw[<-oM];exact h.we k1 he
 cases h1 with
 |root=>exact DH rfl
 |step g1 g2 g3 g4 =>
  rw[hm]at g2;cases g2;rw[hu,k2]at g4;have:=g4.uniq (.step g1 hm g3 (by rw[hu,k2];exact g4));omega
def L7{l:List aH}{s:List UInt8}{e:aH}(hf:l.find? (λe=>e.aC==s)=V e):(l.filter λe=>!(e.aC==s)).length<l.length:=by
 rw[Z_];exact⟨e,lE hf,by have:=RM hf;simpa using this⟩
def V_(h:RT t){from_ to:Int}{s aG:List UInt8}{mf md x:τ}{ef:aH}(a1:gN t.η from_=V mf)(a2:mf.θ=2)(a5:mf.ψ.find? (λe=>e.aC==s)=V ef)
  (b1:gN t.η to=V md) (b2:md.θ=2) (hx:gN t.η ef.κ=V x) (vS:ef.κ≠from_) (sH:ef.κ≠to) (hy:bw t to aG≠ef.κ)
  (hY:(∀e,e∈md.ψ->e.aC≠aG)/\bw t to aG=0/\(to≠from_->md.ψ.length<64)\/∃ey ny,md.ψ.find? (λe=>e.aC==aG)=V ey/\bw t to aG=ey.κ/\gN t.η ey.κ=V ny/\ny.ψ=[]) :
  W (fP t ef.κ from_ s to aG (bw t to aG)) (ig ef.κ)/\ma (fP t ef.κ from_ s to aG (bw t to aG)).η t.η/\gN (fP t ef.κ from_ s to aG (bw t to aG)).η ef.κ=V x/\∃mu,gN (fP t ef.κ from_ s to aG (bw t to aG)).η to=V mu/\mu.θ=2/\(∀e,e∈mu.ψ->e.aC≠aG)/\mu.ψ.length<64:=by
 obtain⟨k1,k2,k3⟩:=W.get h a1;have lP:=lE a5
 have w1:W (eh t from_ s) (ig ef.κ):=W.eh h a1 a2 a5 λk=>by unfold ig;omega
 have s1:ma (eh t from_ s).η t.η:=ma.nZ a1 s;have g1:=xM a1 s;have hl:=L7 a5;have hlf:=(W.en h mf k1).n
 obtain⟨m1,c1,c2,c3⟩:∃m1,gN (eh t from_ s).η to=V m1/\m1.θ=2/\((to=from_/\m1=zF mf (mf.ψ.filter λe=>!(e.aC==s))/\mf=md)\/(to≠from_/\m1=md)):=by
  rw[g1];by_cases e:to=from_
  .rw[if_pos e];rw[e,a1]at b1;cases b1;exact⟨_,rfl,a2,.inl ⟨e,rfl,rfl⟩⟩
  .rw[if_neg e];exact⟨md,b1,b2,.inr ⟨e,rfl⟩⟩
 have TG:gN (eh t from_ s).η ef.κ=V x:=by rw[g1,if_neg vS,hx]
 rcases hY with⟨bu,D8,hlen⟩|⟨ey,ny,eV,hye,jS,DL⟩
 .rw[D8];unfold fP;rw[if_neg (by simp)];refine⟨w1,s1,TG,m1,c1,c2,?_,?_⟩
  .rcases c3 with⟨e,rfl,rfl⟩|⟨e,rfl⟩
   .exact λe he=>bu e (dK.1 he).1
   .exact bu
  .rcases c3 with⟨e,rfl,rfl⟩|⟨e,rfl⟩
   .show (mf.ψ.filter _).length<64;omega
   .exact hlen e
 .rw[hye]at hy ⊢;have A8:=bz jS;have Ur:=lE eV
  have Ib:ey.κ≠from_:=λe=>by rw[e,a1]at jS;cases jS;rw[DL]at lP;cases lP
  have Ic:ey.κ≠to:=λe=>by rw[e,b1]at jS;cases jS;rw[DL]at Ur;cases Ur
  have D8:ey.κ≠0:=by have:=(W.lo h ny A8.1).1;rw[A8.2]at this;omega
  have sr:m1.ψ.find? (λe=>e.aC==aG)=V ey:=by
   rcases c3 with⟨e,rfl,rfl⟩|⟨e,rfl⟩
   .show (mf.ψ.filter _).find? _=_
    have aI:aG≠s:=λe=>by rw[e,a5]at eV;cases eV;exact hy rfl
    rw[Z3]
    have:(λa:aH=>decide ((!(a.aC==s))=true/\(a.aC==aG)=true))=λa=>a.aC==aG:=by
     funext a;by_cases h1:a.aC=aG
     .simp[h1,aI]
     .simp[h1]
    rw[this];exact eV
   .exact eV
  have yi:m1.ψ.length<=64:=(w1.en m1 (bz c1).1).n;have w2:W (eh (eh t from_ s) to aG) (λk=>ig ef.κ k+if k=ey.κ then 1 else 0):=W.eh w1 c1 c2 sr λ_=>rfl;have g2:=xM c1 aG
  have Hz:gN (eh (eh t from_ s) to aG).η ey.κ=V ny:=by rw[g2,if_neg Ic,g1,if_neg Ib,jS]
  have TH:gN (eh (eh t from_ s) to aG).η ef.κ=V x:=by rw[g2,if_neg sH,TG]
  unfold fP;rw[if_pos (by simpa using D8)];refine⟨W.jt w2 Hz (by rw[if_pos rfl];omega) DL (λq hq A1 rp hqy=>?_) (λk=>?_),(ma.un Hz).trans ((ma.nZ c1 aG).trans s1),by rw[Mi Hz (lG hy),TH],zF m1 (m1.ψ.filter λe=>!(e.aC==aG)),by rw[Mi Hz (lG Ic),g2,if_pos rfl],c2,λe he=>?_,?_⟩
  .have hqi:q.κ=ef.κ:=by
    rw[if_neg hqy]at rp;unfold ig at rp;by_cases e:q.κ=ef.κ
    .exact e
    .rw[if_neg e]at rp;omega
   have hqx:q=x:=by
    have:=pD w2.s hq;rw[hqi,TH]at this;cases this;rfl
   subst hqx;rw[W.parent h k1 lP hx A1,k2];exact lG Ib
  .unfold ig;by_cases e:k=ey.κ
   .rw[if_pos e,if_neg (by rw[e];exact hy)]
   .rw[if_neg e];omega
  .have:=(dK.1 he).2;simpa using this
  .have:=L7 sr;show(m1.ψ.filter _).length<64;omega
def RT.mv(h:RT t)(from_:Int)(s:List UInt8)(to:Int)(aG:List UInt8):RT (fO t from_ s to aG).1:=by
 unfold fO;split
 .exact h
 next hL =>
 split
 .exact h
 next hD =>
 split
 .exact h
 next hR =>
 split
 .exact h
 next hy =>
 split
 .exact h
 next rh =>
 split
 .exact h
 next cY =>
 split
 .exact h
 next sv =>
 obtain⟨mf,ef,a1,a2,a3,a4,a5,a6⟩:=look_ok (mb hL);obtain⟨md,b1,b2,b3,b4⟩:=CZ (mb hD);rw[a6]at hy rh cY sv ⊢;obtain⟨k1,k2,k3⟩:=W.get h a1;have lP:=lE a5;obtain⟨x,hx⟩:=kv.1 (h.cl mf k1 ef lP);obtain⟨x1,x2,x3⟩:=W.get h hx;rw[x3]at rh cY
 have hR:dX aG=true:=by simpa using hR
 have hy:bw t to aG≠ef.κ:=by simpa using hy
 have vS:ef.κ≠from_:=W.IK h a1 a2 lP;obtain⟨dt,t1,t2,t3,t4⟩:=W.deep h b1 b2;unfold wa at sv;rw[b3,x3]at sv;simp only[s6,bR,decide_eq_true_eq,not_or,not_and,beq_iff_eq,bne_iff_ne]at sv;obtain⟨⟨⟨f1,f2⟩,f3⟩,f4⟩:=sv
 have f2:dt<12:=by rw[t4]at f2;omega
 rw[t4]at f3
 have sD:x.θ=2->¬fU t.η ef.κ to:=λhk hu=>rh (by
  have:gw t.η to ef.κ=true:=GV hu t1 (by have:=tC t1;omega)
  simp[hk,this])
 have sH:ef.κ≠to:=λe=>by
  rw[e,b1]at hx;cases hx;exact sD b2 (e▸.refl)
 have hY:(∀e,e∈md.ψ->e.aC≠aG)/\bw t to aG=0/\(to≠from_->md.ψ.length<64)\/∃ey ny,md.ψ.find? (λe=>e.aC==aG)=V ey/\bw t to aG=ey.κ/\gN t.η ey.κ=V ny/\ny.ψ=[]:=by
  have jm:bw t to aG=match md.ψ.find? (λe=>e.aC==aG)with|some e=>e.κ|none=>0:=by unfold bw;rw[b3]<;>rfl
  cases eV:md.ψ.find? (λe=>e.aC==aG)with
  |none =>
   rw[eV]at jm;refine .inl ⟨λe he=>?_,jm,λaI=>?_⟩
   .rw[w8]at eV;simpa using eV e he
   .have:=f1 ⟨jm,aI⟩;omega
  |some ey =>
   rw[eV]at jm;obtain⟨ny,jS⟩:=kv.1 (h.cl md (bz b1).1 ey (lE eV));refine .inr ⟨ey,ny,rfl,jm,jS,?_⟩;have hc:=mb cY;unfold pz at hc;rw[jm]at hc;dsimp only at hc;rw[eE jS,jS]at hc;rw[if_neg (by simp)]at hc;split at hc
   .cases hc
   split at hc
   .cases hc
   split at hc
   .cases hc
   .next hz=>exact qJ.1 (by have:¬((ny.ψ.length:Int)>0):=λh=>hz (decide_eq_true h);omega)
 obtain⟨wu,su,Ml,mu,Mj,u2,u3,u4⟩:=V_ h a1 a2 a5 b1 b2 hx vS sH hy hY;generalize fP t ef.κ from_ s to aG (bw t to aG)=u at *;obtain⟨d,v1,v2,v3,v4⟩:=W.deep wu Mj u2;have xZ:d=dt:=(su.deep v1).uniq t1;subst xZ;unfold gG;rw[x3];by_cases hk:(x.θ==2)=true
 .rw[if_pos hk]
  have hk:x.θ=2:=by simpa using hk
  obtain⟨dx,y1,y2,y3,y4⟩:=W.deep wu Ml hk
  have Θ:x.κ≠1:=λe=>by have:=W.IJ wu;rw[x2]at e;unfold ig at this;rw[if_pos e.symm]at this;omega
  have UU:¬fU u.η ef.κ to:=λhu=>sD hk (su.oi hu)
  have vH:∀i,i≠ef.κ->gN (cu ⟨x.κ,x.θ,x.a_,x.aK,x.ψ,to⟩ u.η) i=gN u.η i:=λi hi=>by rw[lO];exact if_neg (by dsimp only;rw[x2];exact hi)
  have wm:W ⟨cu ⟨x.κ,x.θ,x.a_,x.aK,x.ψ,to⟩ u.η,u.Next,u.ai⟩ (ig ef.κ):=by
   refine W.aeL wu (bz Ml).1 hk Θ (by unfold ig;rw[if_pos x2];omega) v1 (by rw[x2];exact y1) (by rw[x2];exact UU) λn hn jQ dH d' bF=>?_;rw[x2]at dH;obtain⟨n',q1,q2,q3,q4⟩:=su n.κ n (pD wu.s hn);have uf:=bz q1;have p1:Deep t.η n.κ d':=su.deep bF;have p2:Deep t.η ef.κ dx:=su.deep y1;have p3:=(su.oi dH).deep p2 p1
   have hb:gw t.η n'.κ ef.κ=true:=by rw[uf.2];exact GV (su.oi dH) p1 (by have:=tC p1;omega)
   have hh:=ac6 (a:=(d:Int)+1) uf.1 (by rw[q2,jQ]) hb
   have MH:d'<=201:=by
    obtain⟨d3,e1,e2,-⟩:=h.dp n' uf.1 (by rw[q2,jQ]);rw[uf.2]at e1;have:=p1.uniq e1;omega
   have kb:dx<=201:=by omega
   rw[uf.2,G8 p1 MH,G8 p2 kb]at hh;have f3:=f3 hk;refine⟨?_,λS9=>q4 ?_⟩
   .split at hh<;>omega
   .split at hh
    .omega
    .next hz=>exact qJ.1 (by have:¬((n'.ψ.length:Int)>0):=λh=>hz (decide_eq_true h);omega)
  refine W.jz (q:=⟨x.κ,x.θ,x.a_,x.aK,x.ψ,to⟩) wm (by dsimp only;rw[vH to (lG sH)];exact Mj) u2 hR u3 u4 (v1.IL vH UU) f2 (by dsimp only;rw[lO];exact if_pos x2.symm) (by unfold ig;rw[if_pos rfl];omega) (λ_=>rfl) λj=>?_;unfold ig;split<;>rfl
 .rw[if_neg hk];refine W.jz wu Mj u2 hR u3 u4 v1 f2 Ml (by unfold ig;rw[if_pos rfl];omega) (λe=>absurd (by simpa using e) hk) λj=>?_;unfold ig;split<;>rfl
def RT0:RT Qz:=by
 refine⟨uL _ _,λn hn=>?_,⟨_,rfl,rfl⟩,by decide,by decide,λn hn=>?_,λn hn e he=>?_,λn hn=>?_,λn hn _=>?_⟩<;>obtain rfl:=cV.1 hn
 .decide
 .exact⟨by simp,o9,λe he=>(by cases he),o9⟩
 .cases he
 .exact .inr ⟨rfl,rfl,.inl ⟨rfl,rfl,rfl,rfl,rfl⟩⟩
 .exact⟨0,.root,by omega,λh=>by cases h⟩
end
end
section
section
variable{α:Type}
def fi(c:α->Int)(l:List α):Nat:=(l.takeWhile λx=>decide (c x<0)).length
def gy(c:α->Int)(l:List α):Bool:=match l[fi c l]? with|some x=>c x==0|none=>false
def Mon(c:α->Int)(l:List α):Prop:=∀(j k:Nat)x y,j<k->l[j]?=V x->l[k]?=V y->c y<0->c x<0
def Lp(C:α->Option Int)(l:List α)(s1:Int×Int):Option ((Int×Int)⊕Int):=if(decide (s1.1<s1.2))then χ (ae (s1.1+s1.2)) ((idx l ((IntKind.i64.wrap ((gS .u64 ((IntKind.u64.wrap ((s1.1+s1.2)))) (1)))))).bind λx1=>(C x1).bind λx2=>if(decide (x2<0))then χ (ae ((IntKind.i64.wrap ((gS .u64 ((IntKind.u64.wrap ((s1.1+s1.2)))) (1))))+1)) (V (.inl ((((IntKind.i64.wrap ((gS .u64 ((IntKind.u64.wrap ((s1.1+s1.2)))) (1))))+1),s1.2))))else V (.inl ((s1.1,(IntKind.i64.wrap ((gS .u64 ((IntKind.u64.wrap ((s1.1+s1.2)))) (1))))))))else out (V s1.1)
noncomputable def CR (C:α->Option Int) (l:List α):Option (Int×Bool):=(loop (Lp C l) (0,(l.length:Int))).bind λv1=>((if(decide (v1<(l.length:Int)))then(idx l v1).bind λx3=>(C x3).bind λx4=>V ((x4==0))else V false).bind λc1=>V c1).bind λv2=>V ((v1,v2))
def Lu(c:α->Int)(l:List α):fi c l<=l.length:=by
 unfold fi;exact(aaa _).length_le
def SB{c:α->Int}:∀{l:List α}{k:Nat},k<=l.length->(∀(j:Nat)x,j<k->l[j]?=V x->c x<0)->(∀x,l[k]?=V x->¬c x<0)->fi c l=k
 |[],k,hk,_,_=>by simp at hk;subst hk;rfl
 |x::l,0,_,_,h2=>by
  have:=h2 x rfl;unfold fi;rw[CB,if_neg (by simpa using this)];rfl
 |x::l,k+1,hk,h1,h2=>by
  have:=h1 0 x (by omega) rfl;have ih:=SB (c:=c) (l:=l) (k:=k) (by simpa using hk) (λj y hj hy=>h1 (j+1) y (by omega) (by simpa using hy)) (λy hy=>h2 y (by simpa using hy));unfold fi at ih ⊢;rw[CB,if_pos (by simpa using this),bV,ih]
def xz{c:α->Int}{x:α}{l:List α}(h:c x<0):fi c (x::l)=fi c l+1:=by
 unfold fi;rw[CB,if_pos (by simpa using h)];rfl
def xA{c:α->Int}{x:α}{l:List α}(h:¬c x<0):fi c (x::l)=0:=by
 unfold fi;rw[CB,if_neg (by simpa using h)];rfl
def z7{c:α->Int}{x:α}{l:List α}(h:c x<0):gy c (x::l)=gy c l:=by
 unfold gy;rw[xz h];rfl
def z8{c:α->Int}{x:α}{l:List α}(h:¬c x<0):gy c (x::l)=(c x==0):=by
 unfold gy;rw[xA h];rfl
def aaG{C:α->Option Int}{c:α->Int}{l:List α}(P:Nat->Nat->Prop)(hC:∀x,x∈l->C x=V (c x))(hl:l.length<=1000000)(h0:P 0 l.length)
  (DQ:∀a b x,P a b->a<b->b<=l.length->l[(a+b)/2]?=V x->c x<0->P ((a+b)/2+1) b)
  (H3:∀a b x,P a b->a<b->b<=l.length->l[(a+b)/2]?=V x->¬c x<0->P a ((a+b)/2)) :
  ε (loop (Lp C l) (0,(l.length:Int))) (λv=>∃k:Nat,v=k/\k<=l.length/\P k k):=by
 refine ε.loop (λs:Int×Int=>∃a b:Nat,s=((a:Int),(b:Int))/\a<=b/\b<=l.length/\P a b) (λs=>(s.2-s.1).toNat) ?_ _ ⟨0,l.length,rfl,by omega,by omega,h0⟩;rintro s ⟨a,b,rfl,fY,hb,hP⟩;unfold Lp;dsimp only;by_cases Ξ:a<b
 .refine ε.cond (by simpa using Ξ) (ε.χ (by unfold ae;omega) ?_);rw[V6 a b (by omega)]
  have hm:(a+b)/2<l.length:=by omega
  have hx:=bD hm;refine ε.af (aW hx) (ε.af (hC _ (eA hm)) ?_);exact ε.ite (λe=>ε.χ (by unfold ae;omega) (ε.inl ⟨⟨(a+b)/2+1,b,rfl,by omega,hb,DQ a b _ hP Ξ hb hx (by simpa using e)⟩,by dsimp only;omega⟩)) λe=>ε.inl ⟨⟨a,(a+b)/2,rfl,by omega,by omega,H3 a b _ hP Ξ hb hx (by simpa using e)⟩,by dsimp only;omega⟩
 .have:a=b:=by omega
  subst this;exact ε.aV (by simp) (ε.out (ε.ret ⟨a,rfl,hb,hP⟩))
def aaF{C:α->Option Int}{c:α->Int}{l:List α}(hC:∀x,x∈l->C x=V (c x)){k:Nat}{v:Int}(hv:v=k):
  (((if(decide (v<(l.length:Int)))then(idx l v).bind λx3=>(C x3).bind λx4=>V ((x4==0))else V false).bind λc1=>V c1).bind λv2=>V ((v,v2)))=V ((k:Int),match l[k]? with|some x=>c x==0|none=>false):=by
 subst hv;refine ε.eq ?_;by_cases hk:k<l.length
 .have hx:=bD hk;rw[hx];exact ε.bind (R:=(·=(c l[k]==0))) (ε.bind (R:=(·=(c l[k]==0))) (ε.cond (by simpa using hk) (ε.af (aW hx) (ε.af (hC _ (eA hk)) (ε.ret rfl)))) λr hr=>ε.ret hr) λr hr=>ε.ret (by subst hr;rfl)
 .rw[RO (by omega)];exact ε.bind (R:=(·=false)) (ε.bind (R:=(·=false)) (ε.aV (by simpa using hk) (ε.ret rfl)) λr hr=>ε.ret hr) λr hr=>ε.ret (by subst hr;rfl)
def Lv{C:α->Option Int}{c:α->Int}{l:List α}(hC:∀x,x∈l->C x=V (c x))(hm:Mon c l)(hl:l.length<=1000000):CR C l=V ((fi c l:Int),gy c l):=by
 refine ε.eq ?_;unfold CR;refine ε.bind (aaG (λa b=>(∀(j:Nat)x,j<a->l[j]?=V x->c x<0)/\(∀(j:Nat)x,b<=j->l[j]?=V x->¬c x<0)) hC hl ⟨λj x h=>by omega,λj x h hx=>by rw[RO (by omega)]at hx;cases hx⟩ ?_ ?_) ?_
 .rintro a b x ⟨h1,h2⟩ fY hb hx hc;refine⟨λj y hj hy=>?_,h2⟩
  rcases fa j ((a+b)/2)with h|h
  .exact hm j _ y x h hy hx hc
  .have:j=(a+b)/2:=by omega
   subst this;rw[hx]at hy;cases hy;exact hc
 .rintro a b x ⟨h1,h2⟩ fY hb hx hc;refine⟨h1,λj y hj hy=>?_⟩
  rcases fa ((a+b)/2) j with h|h
  .exact λqt=>hc (hm _ j x y h hx hy qt)
  .have:j=(a+b)/2:=by omega
   subst this;rw[hx]at hy;cases hy;exact hc
 .rintro v ⟨k,hv,hk,h1,h2⟩;have e:=SB hk h1 (λx hx=>h2 k x (bm _) hx);rw[aaF hC hv];exact ε.ret (by unfold gy;rw[e])
end
end
section
def SK:∀{a b:List UInt8},mR a b<0↔eB a b=true
 |[],[]=>by simp[mR,eB]
 |[],_::_=>by simp[mR,eB]
 |_::_,[]=>by simp[mR,eB]
 |a::x,b::y=>by
  have ih:=SK (a:=x) (b:=y);simp only[mR,eB,s6,bR,decide_eq_true_eq,beq_iff_eq];by_cases h1:a<b
  .rw[if_pos h1];simp[h1]
  .rw[if_neg h1];by_cases h2:b<a
   .rw[if_pos h2];refine⟨λh=>by omega,λh=>?_⟩
    rcases h with h|⟨rfl,-⟩
    .exact absurd h h1
    .exact absurd h2 h1
   .rw[if_neg h2,ih];have:a=b:=aam (K0.1 h2) (K0.1 h1);simp[h1,this]
def SJ:∀{a b:List UInt8},mR a b=0↔a=b
 |[],[]=>by simp[mR]
 |[],_::_=>by simp[mR]
 |_::_,[]=>by simp[mR]
 |a::x,b::y=>by
  have ih:=SJ (a:=x) (b:=y);simp only[mR];by_cases h1:a<b
  .rw[if_pos h1];refine⟨λh=>by omega,λh=>?_⟩;injection h with h _;subst h;exact absurd h1 (aao _)
  .rw[if_neg h1];by_cases h2:b<a
   .rw[if_pos h2];refine⟨λh=>by omega,λh=>?_⟩;injection h with h _;subst h;exact absurd h2 (aao _)
   .rw[if_neg h2,ih];have:a=b:=aam (K0.1 h2) (K0.1 h1);subst this;simp
def cN(i:Int)(x:τ):Int:=lL x.κ i
def uY{i:Int}{x:τ}:cN i x<0↔x.κ<i:=oD
def Aa{i:Int}{x:τ}:(cN i x==0)=true↔x.κ=i:=CU
def aeI{l:List τ}(h:fc l)(i:Int):Mon (cN i) l:=λj k x y rb hx hy hc=>by
 have:=wJ h hx hy rb;rw[uY]at *;omega
def Mh{i:Int}:∀{l:List τ},fc l->gN l i=if gy (cN i) l=true then l[fi (cN i) l]? else none
 |[],_=>by simp[gN,gy]
 |x::l,h=>by
  have h2:=(e9.1 h).2;have h1:=(e9.1 h).1;rw[qS];by_cases hx:cN i x<0
  .rw[z7 hx,xz hx,if_neg (by have:=uY.1 hx;omega),Mh h2];rfl
  .rw[z8 hx,xA hx];rw[uY]at hx;by_cases he:x.κ=i
   .rw[if_pos he,if_pos (Aa.2 he)];rfl
   .rw[if_neg he,if_neg (λh=>he (Aa.1 h))]
    exact xN.2 λn hn=>by have:=h1 n hn;omega
def Lq{i:Int}{l:List τ}(h:fc l):gy (cN i) l=(gN l i).isSome:=by
 rw[Mh h];cases hb:gy (cN i) l with
 |false=>rfl
 |true =>
  rw[if_pos rfl];unfold gy at hb;cases hx:l[fi (cN i) l]? with
  |none=>rw[hx]at hb;cases hb
  |some x=>rfl
def SA{i:Int}{l:List τ}(h:fc l){n:τ}(hn:gN l i=V n):l[fi (cN i) l]?=V n:=by
 have:=Lq (i:=i) h;rw[hn]at this;rw[Mh h,if_pos (show gy (cN i) l=true from this)]at hn;exact hn
def WV{n:τ}:∀{l:List τ},fc l->cu n l=if gy (cN n.κ) l=true then l.set (fi (cN n.κ) l) n else eQ l (fi (cN n.κ) l:Int) [n]
 |[],_=>by simp[cu,gy,eQ]
 |x::l,h=>by
  have h2:=(e9.1 h).2;have h1:=(e9.1 h).1;rw[yO];by_cases hx:cN n.κ x<0
  .rw[if_neg (by have:=uY.1 hx;omega),z7 hx,xz hx,WV h2];split
   .rfl
   .unfold eQ;rw[gv,gv];rfl
  .rw[z8 hx,xA hx,if_pos (by rw[uY]at hx;omega)];rw[uY]at hx;by_cases he:x.κ=n.κ
   .rw[if_pos (Aa.2 he),List.set_cons_zero,eL,if_neg (by simpa using he),ot.2];intro y hy;have:=h1 y hy;simp;omega
   .rw[if_neg (λh=>he (Aa.1 h)),ot.2]
    .rfl
    .intro y hy
     rcases bp.1 hy with rfl|hy
     .simpa using he
     .have:=h1 y hy;simp;omega
def S7{i:Int}:∀{l:List τ},fc l->l.filter (λx=>x.κ != i)=if gy (cN i) l=true then kU l (fi (cN i) l:Int) ((fi (cN i) l:Int)+1)else l
 |[],_=>by simp[gy]
 |x::l,h=>by
  have h2:=(e9.1 h).2;have h1:=(e9.1 h).1;by_cases hx:cN i x<0
  .rw[eL,if_pos (by have:=uY.1 hx;simp;omega),z7 hx,xz hx,S7 h2];split
   .unfold kU;rw[gv,gv,show((fi (cN i) l:Int)+1).toNat=fi (cN i) l+1 by omega,show(((fi (cN i) l+1:Nat):Int)+1).toNat=fi (cN i) l+1+1 by omega];rfl
   .rfl
  .rw[z8 hx,xA hx];rw[uY]at hx
   have hf:l.filter (λx=>x.κ != i)=l:=ot.2 λy hy=>by have:=h1 y hy;simp;omega
   by_cases he:x.κ=i
   .rw[eL,if_neg (by simpa using he),if_pos (Aa.2 he),hf];rfl
   .rw[eL,if_pos (by simpa using he),if_neg (λh=>he (Aa.1 h)),hf]
def Wx{t:Γ}(hs:fc t.η)(hl:t.η.length<=1000000)(i:Int):sX ⟨t⟩ i=V (((fi (cN i) t.η:Int),gy (cN i) t.η),⟨t⟩):=by
 have h:=Lv (C:=λx=>zA x i) (c:=cN i) (l:=t.η) (λx _=>by unfold zA;rw[FX];rfl) (aeI hs i) hl;unfold sX;show((CR (λx=>zA x i) t.η).bind _)=_;rw[h];rfl
def Af{α:Type}{l:List α}{K:Nat}(h:l.length*K<=140737488355328):ve l K=V l:=SG h
def OE{t:Γ}(hs:fc t.η)(hl:t.η.length<=1000000)(n:τ):zB n ⟨t⟩=V (t.Next,t.ai,cu n t.η):=by
 refine ε.eq ?_;unfold zB zv;refine ε.af (Wx hs hl n.κ) ?_;dsimp only;refine ε.af (Af (by omega)) ?_;rw[WV hs];have hk:=Lu (cN n.κ) t.η;refine ε.ite (λhb=>?_) λhb=>?_
 .rw[if_pos hb];have hg:=Lq (i:=n.κ) hs;rw[hb]at hg;obtain⟨m,hm⟩:=kv.1 hg.symm;exact ε.af (aW (SA hs hm)) (ε.ret (by rw[gv]))
 .rw[if_neg hb];exact ε.χ ⟨by omega,by omega,by simp,by simp only[bV,dF];omega⟩ (ε.ret rfl)
def WK{t:Γ}(hs:fc t.η)(hl:t.η.length<=1000000)(n0 n1 n2:Int)(n3:List UInt8)(n5:Int)(E:List aH):Ci n0 n1 n2 n3 n5 ⟨t⟩ E=V (t.Next,t.ai,cu ⟨n0,n1,n2,n3,E,n5⟩ t.η):=OE hs hl ⟨n0,n1,n2,n3,E,n5⟩
def WB{t:Γ}(hs:fc t.η)(hl:t.η.length<=1000000)(i:Int):Cg i ⟨t⟩=V (t.η.filter (λx=>x.κ != i),t.Next,t.ai):=by
 refine ε.eq ?_;unfold Cg zv;refine ε.af (Wx hs hl i) ?_;dsimp only;rw[S7 hs];have hk:=Lu (cN i) t.η;refine ε.ite (λhb=>?_) λhb=>?_
 .rw[if_pos hb];have hg:=Lq (i:=i) hs;rw[hb]at hg;obtain⟨m,hm⟩:=kv.1 hg.symm;have:=(eZ.1 (SA hs hm)).1;exact ε.af (Af (by omega)) (ε.χ (by unfold ae;omega) (ε.χ (by omega) (ε.ret rfl)))
 .rw[if_neg hb];exact ε.ret rfl
def pk(l:List aH):Prop:=l.Pairwise λa b=>eB a.aC b.aC=true
def cS(s:List UInt8)(x:aH):Int:=mR x.aC s
def Ab{s:List UInt8}{x:aH}:cS s x<0↔eB x.aC s=true:=SK
def G0{s:List UInt8}{x:aH}:(cS s x==0)=true↔x.aC=s:=by rw[beq_iff_eq];exact SJ
def aeH{l:List aH}(h:pk l)(s:List UInt8):Mon (cS s) l:=λj k x y rb hx hy hc=>by
 obtain⟨h1,rfl⟩:=eZ.1 hx;obtain⟨h2,rfl⟩:=eZ.1 hy;rw[Ab]at *;exact GX (xa.1 h j k h1 h2 rb) hc
def Ti{s:List UInt8}{x y:aH}(hx:¬cS s x<0)(hl:eB x.aC y.aC=true):y.aC≠s:=by
 intro e;rw[e]at hl;exact hx (Ab.2 hl)
def L8{s:List UInt8}:∀{l:List aH},pk l->l.find? (λe=>e.aC==s)=if gy (cS s) l=true then l[fi (cS s) l]? else none
 |[],_=>by simp[gy]
 |x::l,h=>by
  have h2:=(e9.1 h).2;have h1:=(e9.1 h).1;rw[KM];by_cases hx:cS s x<0
  .have aI:(x.aC==s)=false:=by
    rw[beq_eq_false_iff_ne];intro e;rw[Ab,e,rV]at hx;cases hx
   rw[aI,z7 hx,xz hx,L8 h2];rfl
  .rw[z8 hx,xA hx];by_cases he:x.aC=s
   .rw[if_pos (G0.2 he),show(x.aC==s)=true by simpa using he];rfl
   .rw[if_neg (λh=>he (G0.1 h)),show(x.aC==s)=false by simpa using he]
    exact w8.2 λy hy=>by simpa using Ti hx (h1 y hy)
def GY{s:List UInt8}{l:List aH}(h:pk l):gy (cS s) l=(l.find? (λe=>e.aC==s)).isSome:=by
 rw[L8 h];cases hb:gy (cS s) l with
 |false=>rfl
 |true =>
  rw[if_pos rfl];unfold gy at hb;cases hx:l[fi (cS s) l]? with
  |none=>rw[hx]at hb;cases hb
  |some x=>rfl
def Lt{s:List UInt8}{l:List aH}(h:pk l){e:aH}(he:l.find? (λe=>e.aC==s)=V e):l[fi (cS s) l]?=V e:=by
 have:=GY (s:=s) h;rw[he]at this;rw[L8 h,if_pos (show gy (cS s) l=true from this)]at he;exact he
def Vx{e:aH}:∀{l:List aH},pk l->(∀x,x∈l->x.aC≠e.aC)->js e l=eQ l (fi (cS e.aC) l:Int) [e]
 |[],_,_=>by simp[js,eQ]
 |x::l,h,hn=>by
  have h2:=(e9.1 h).2;have hx:=hn x (by simp);rw[yC];by_cases hc:cS e.aC x<0
  .rw[xz hc,if_neg (by rw[Ab]at hc;simp[hc]),Vx h2 λy hy=>hn y (cw _ hy)];unfold eQ;rw[gv,gv];rfl
  .rw[xA hc,if_pos (by rw[Ab]at hc;simp[hc,hx])];rfl
def Tr{s:List UInt8}:∀{l:List aH},pk l->l.filter (λe=>!(e.aC==s))=if gy (cS s) l=true then kU l (fi (cS s) l:Int) ((fi (cS s) l:Int)+1)else l
 |[],_=>by simp[gy]
 |x::l,h=>by
  have h2:=(e9.1 h).2;have h1:=(e9.1 h).1;by_cases hx:cS s x<0
  .have aI:(x.aC==s)=false:=by
    rw[beq_eq_false_iff_ne];intro e;rw[Ab,e,rV]at hx;cases hx
   rw[eL,if_pos (by rw[aI];rfl),z7 hx,xz hx,Tr h2];split
   .unfold kU;rw[gv,gv,show((fi (cS s) l:Int)+1).toNat=fi (cS s) l+1 by omega,show(((fi (cS s) l+1:Nat):Int)+1).toNat=fi (cS s) l+1+1 by omega];rfl
   .rfl
  .rw[z8 hx,xA hx]
   have hf:l.filter (λe=>!(e.aC==s))=l:=ot.2 λy hy=>by simpa using Ti hx (h1 y hy)
   by_cases he:x.aC=s
   .rw[eL,if_neg (by simpa using he),if_pos (G0.2 he),hf];rfl
   .rw[eL,if_pos (by simpa using he),if_neg (λh=>he (G0.1 h)),hf]
def IS{n:τ}(hs:pk n.ψ)(hl:n.ψ.length<=1000000)(s:List UInt8):sW n s=V ((fi (cS s) n.ψ:Int),gy (cS s) n.ψ):=by
 have h:=Lv (C:=λx=>Cd x s) (c:=cS s) (l:=n.ψ) (λx _=>rfl) (aeH hs s) hl;unfold sW;show((CR (λx=>Cd x s) n.ψ).bind _)=_;rw[h];rfl
def aa7(l:List UInt8)(i:Nat)(h:i<l.length):1<=(pA l i).2/\i+(pA l i).2<=l.length/\(((pA l i).1=(l[i]!).toNat/\(l[i]!).toNat<128)\/(128<=(pA l i).1/\128<=(l[i]!).toNat))/\∀j,1<=j->j<(pA l i).2->128<=(l[i+j]!).toNat:=by
 have hg:∀k,((⟨l.toArray⟩:ByteArray).get! k)=l[k]! :=λk=>by
  show l.toArray[k]! = _;simp
 have hz:(⟨l.toArray⟩:ByteArray).size=l.length:=by show l.toArray.size=_;simp
 have hc:∀k,(decide (i+k<l.length)&&(l[i+k]!).toNat/64==2)=true->i+k<l.length/\128<=(l[i+k]!).toNat:=λk h=>by
  rw[bR,decide_eq_true_eq,beq_iff_eq]at h;omega
 have e1:∀b:Nat,¬b<128->1<=((65533,1):Nat×Nat).2/\i+((65533,1):Nat×Nat).2<=l.length/\((((65533,1):Nat×Nat).1=b/\b<128)\/(128<=((65533,1):Nat×Nat).1/\128<=b))/\∀j,1<=j->j<((65533,1):Nat×Nat).2->128<=(l[i+j]!).toNat:=λb hb=>⟨by simp,by simp;omega,.inr ⟨by simp,by omega⟩,λj h1 h2=>by simp at h2;omega⟩;unfold pA Utf8.decode;simp only[hg,hz,Nat.add_zero,Utf8.runeError];generalize eu:(l[i]!).toNat=b0 at *;split
 .exact⟨by simp,by simp;omega,.inl ⟨rfl,by omega⟩,λj h1 h2=>by simp at h2;omega⟩
 rename_i hb;split
 .rename_i h2;rw[bR]at h2;have c1:=hc 1 h2.2;split
  .exact⟨by simp,by dsimp only;omega,.inr ⟨by dsimp only;omega,by omega⟩,λj h3 h4=>by
    dsimp only at h4
    have:j=1:=by omega
    subst this;exact c1.2⟩
  .exact e1 b0 hb
 split
 .rename_i h2;rw[bR,bR]at h2;have c1:=hc 1 h2.1.2;have c2:=hc 2 h2.2;split
  .rename_i h5;rw[bR,decide_eq_true_eq]at h5
   exact⟨by simp,by dsimp only;omega,.inr ⟨by dsimp only;omega,by omega⟩,λj h3 h4=>by
    dsimp only at h4
    rcases (by omega:j=1\/j=2)with rfl|rfl
    .exact c1.2
    .exact c2.2⟩
  .exact e1 b0 hb
 split
 .rename_i h2;rw[bR,bR,bR]at h2;have c1:=hc 1 h2.1.1.2;have c2:=hc 2 h2.1.2;have c3:=hc 3 h2.2;split
  .rename_i h5;rw[bR,decide_eq_true_eq]at h5
   exact⟨by simp,by dsimp only;omega,.inr ⟨by dsimp only;omega,by omega⟩,λj h3 h4=>by
    dsimp only at h4
    rcases (by omega:j=1\/j=2\/j=3)with rfl|rfl|rfl
    .exact c1.2
    .exact c2.2
    .exact c3.2⟩
  .exact e1 b0 hb
 .exact e1 b0 hb
def qP(x:UInt8):Bool:=decide ((x.toNat:Int)<32)||(x.toNat:Int)==47
def afs(s:List UInt8):On s 0=V (!s.any qP):=by
 refine ε.eq ?_;unfold On;refine ε.loop (λn:Nat=>n<=s.length/\(s.take n).any qP=false) (λn=>s.length-n) ?_ 0 ⟨by omega,by simp⟩;rintro n ⟨hn,hp⟩;unfold ID IE
 have adD:s.any qP=((s.take n).any qP||(s.drop n).any qP):=by rw[<-List.any_append,qL]
 by_cases Ξ:n<s.length
 .obtain⟨h1,h2,h3,h4⟩:=aa7 s n Ξ
  have hx:s[n]! = s[n]:=by rw[Z6,bD Ξ];rfl
  refine ε.cond (by simpa using Ξ) ?_
  have acz:qP s[n]=(decide ((((pA s n).1:Nat):Int)<32)||(((pA s n).1:Nat):Int)==47):=by
   rw[<-hx];unfold qP
   rcases h3 with⟨e,-⟩|⟨e1,e2⟩
   .rw[e]
   .rw[decide_eq_false (by omega),decide_eq_false (by omega),beq_eq_false_iff_ne.2 (by omega),beq_eq_false_iff_ne.2 (by omega)]
  refine ε.bind (R:=(·=qP s[n])) (ε.bind (R:=(·=qP s[n])) ?_ λr hr=>ε.ret hr) λr hr=>?_
  .rw[acz];refine ε.ite (λh=>ε.ret ?_) λh=>ε.ret ?_
   .rw[h];rfl
   .rw[oo.2 h];rfl
  .subst hr;have hd:s.drop n=s[n]::s.drop (n+1):=rO Ξ;refine ε.ite (λhb=>ε.out (ε.ret ?_)) λhb=>ε.inl ⟨⟨h2,?_⟩,by omega⟩
   .rw[adD,hd,List.any_cons,hb];simp
   .have hb:qP s[n]=false:=by simpa using hb
    rw[qG];intro x fN;obtain⟨k,hk⟩:=Iz fN;rw[fS]at hk;by_cases UJ:k<n+(pA s n).2
    .rw[if_pos UJ]at hk
     rcases R6 k n with h|h|h
     .rw[qG]at hp;exact hp x (fz (by rw[fS,if_pos h];exact hk))
     .subst h;rw[bD Ξ]at hk;cases hk;simpa using hb
     .have:=h4 (k-n) (by omega) (by omega);rw[show n+(k-n)=k by omega,Z6,hk]at this;have:128<=x.toNat:=this;unfold qP;simp;omega
    .rw[if_neg UJ]at hk;cases hk
 .have:n=s.length:=by omega
  subst this;rw[gl]at hp;exact ε.aV (by simp) (ε.out (ε.ret (by rw[hp];rfl)))
def IT(s:List UInt8):wb s=V (dX s):=by
 refine ε.eq ?_;unfold wb dX;refine ε.bind (R:=(·=(s == []||decide ((s.length:Int)>32)||s == [46]||s == [46,46]))) (ε.bind (R:=(·=(s == []||decide ((s.length:Int)>32)))) ?_ λc hc=>ε.bind (R:=(·=(s == []||decide ((s.length:Int)>32)||s == [46]))) ?_ λc2 aX=>ε.bind (R:=(·=(s == []||decide ((s.length:Int)>32)||s == [46]||s == [46,46]))) ?_ λc3 bY=>ε.ret bY) λr hr=>?_
 .cases s == []<;>exact ε.ret rfl
 .subst hc;cases (s == []||decide ((s.length:Int)>32))<;>exact ε.ret rfl
 .subst aX;cases (s == []||decide ((s.length:Int)>32)||s == [46])<;>exact ε.ret rfl
 .have e:(decide (1<=s.length)&&decide (s.length<=32)&&!(s == [46])&&!(s == [46,46]))=!r:=by
   subst hr;cases s with
   |nil=>rfl
   |cons a l =>
    simp only[bV,Bool.not_or];congr 1;congr 1;rw[show((a::l)==([]:List UInt8))=false by rfl,decide_eq_true (by omega:1<=l.length+1),Cv];congr 1;rw[<-decide_not];congr 1;apply propext;omega
  refine ε.ite (λh=>ε.ret ?_) λh=>?_
  .rw[e,h];rfl
  .rw[afs,e];refine ε.ret ?_;rw[oo.2 h,Cv,KE];rfl
end
section
def ε.mo{α:Type}{p:Prop}[Decidable p]{x y:Option α}{a b:α}(h:p->ε x (·=a))(h':¬p->ε y (·=b)):ε (if p then x else y) (·=if p then a else b):=by
 split
 .exact h ‹_›
 .exact h' ‹_›
structure ST(B:Nat)(t:Γ):Prop where
 f:TF B t
 s:fc t.η
 e:∀n,n∈t.η->pk n.ψ
section
variable{B:Nat}{t:Γ}{δ:Int->Nat}
def W.st(h:W t δ)(hf:TF B t):ST B t:=⟨hf,h.s,λn hn=>(h.en n hn).s⟩
def ST.g(h:ST B t)(i:Int):pk (gD t.η i).ψ:=by
 rcases Aw t.η i with hm|hm
 .exact h.e _ hm
 .rw[hm];exact o9
def ST.n(h:ST B t)(hB:B<=100000):t.η.length<=1000000:=by have:=h.f.n;omega
def ST.WU(h:ST B t){n:τ}{x c:Int}(hf:TF (B+1) ⟨cu n t.η,x,c⟩)(he:pk n.ψ):ST (B+1) ⟨cu n t.η,x,c⟩:=by
 refine⟨hf,yP h.s,λy hy=>?_⟩
 rcases sN hy with rfl|⟨hy,-⟩
 .exact he
 .exact h.e _ hy
def ahj{l:List aH}(h:pk l)(p:aH->Bool):pk (l.filter p):=w7 p h
def ST.VX(h:ST B t)(i:Int)(s:List UInt8):ST (B+1) (eh t i s):=h.WU (h.f.nZ i s) (ahj (h.g i) _)
def ST.up(h:ST B t){C:Nat}(hC:B<=C):ST C t:=⟨h.f.up hC,h.s,h.e⟩
def OC(h:ST B t)(hB:B<=100000)(i:Int):wO ⟨t⟩ i=V (dj t.η i,⟨t⟩):=by
 refine ε.eq ?_;unfold wO;refine ε.af (wg h.s (h.n hB) i) ?_;unfold dj;dsimp only;by_cases hg:(gN t.η i).isSome=true
 .rw[if_pos hg];refine ε.aV (by rw[hg];simp) ?_;by_cases hk:((gD t.η i).θ != 2)=true
  .rw[if_pos hk,if_pos hk];exact ε.ret rfl
  .rw[if_neg hk,if_neg hk];exact ε.ret rfl
 .rw[if_neg hg];exact ε.cond (by simpa using hg) (ε.ret rfl)
def LG(h:ST B t)(i:Int):pk (dj t.η i).1.ψ:=by
 unfold dj;split
 .split
  .exact o9
  .exact h.g i
 .exact o9
def OA(h:ST B t)(hB:B<=100000)(i:Int)(s:List UInt8):wM t i s=V (bJ t i s):=by
 refine ε.eq ?_;unfold wM bJ;refine ε.af (OC h hB i) ?_;dsimp only;refine ε.mo (λ_=>ε.ret rfl) λ_=>ε.af (IT s) (ε.mo (λ_=>ε.ret rfl) λ_=>?_);refine ε.af (IS (LG h i) (by have:=Ai h.f i;omega) s) ?_;dsimp only;have hf:=GY (s:=s) (LG h i);cases hx:(dj t.η i).1.ψ.find? (λe=>e.aC==s)with
 |none=>rw[hx]at hf;exact ε.cond (by rw[hf];rfl) (ε.ret rfl)
 |some e=>rw[hx]at hf;exact ε.aV (by rw[hf];simp) (ε.af (aW (Lt (LG h i) hx)) (ε.ret rfl))
def WN{l:List τ}{x c:Int}(hs:fc l)(hl:l.length<=1000000):∀{d:Nat}{i:Int},Deep l i d->∀out:List Int,out.length+d<=l.length+1->∃r,loop zC (i,l,x,c,out)=V (out++r,⟨⟨l,x,c⟩⟩)/\r.length=d/\∀y,(y=i\/y∈r)↔fU l y i
 |_,_,.root,out,ho=>by
  refine⟨[],?_,rfl,λy=>?_⟩
  .refine kJ ?_;unfold zC;simp[Ko,Cat.out]
  .refine⟨λh=>?_,λh=>?_⟩
   .rcases h with rfl|h
    .exact .refl
    .cases h
   .cases h with
    |refl=>exact .inl rfl
    |step h1=>exact absurd rfl h1
 |_,i,.step (n:=n) (d:=d) h1 h2 h3 h4,out,ho=>by
  obtain⟨r,e1,e2,e3⟩:=WN (x:=x) (c:=c) hs hl h4 (out++[n.Up]) (by simp only[cZ,bV,dF];omega);refine⟨n.Up::r,?_,by simp[e2],λy=>?_⟩
  .have hb:zC (i,l,x,c,out)=V (.inl (n.Up,l,x,c,out++[n.Up])):=by
    unfold zC
    have hd:decide ((out.length:Int)<=(l.length:Int))=true:=by simp;omega
    have hg:=wg (t:=⟨l,x,c⟩) hs hl i
    have aI:(i != 1)=true:=by simpa using h1
    have hk:(n.θ != 2)=false:=by simp[h3]
    have ew:gD l i=n:=by unfold gD;rw[h2];rfl
    simp only[aI,if_true,hd,aS,hg,h2,Option.isSome_some,ew,hk,Rp,oq,if_false];rw[dW (by simp only[bV,dF];omega)]
   rw[ry hb,e1,l7];rfl
  .refine⟨λh=>?_,λh=>?_⟩
   .rcases h with rfl|h
    .exact .refl
    .exact .step h1 h2 h3 ((e3 y).1 (bp.1 h))
   .cases h with
    |refl=>exact .inl rfl
    |step g1 g2 g3 g4=>rw[h2]at g2;cases g2;exact .inr (bp.2 ((e3 y).2 g4))
def OG(h:ST B t)(hB:B<=100000){i:Int}{d:Nat}(hd:Deep t.η i d):∃r,Cj ⟨t⟩ i=V (r,⟨t⟩)/\r.length=d+1/\∀y,y∈r↔fU t.η y i:=by
 obtain⟨r,e1,e2,e3⟩:=WN (x:=t.Next) (c:=t.ai) h.s (h.n hB) hd [i] (by have:=tC hd;simp;omega);exact⟨i::r,e1,by simp[e2],λy=>by rw[bp];exact e3 y⟩
def afl(h:ST B t)(hB:B<=100000){i:Int}{d:Nat}(hd:Deep t.η i d):Cf ⟨t⟩ i=V ((d:Int),⟨t⟩):=by
 obtain⟨r,e1,e2,-⟩:=OG h hB hd;refine ε.eq ?_;unfold Cf;have:=tC hd;have:=h.n hB;refine ε.af e1 (ε.χ (by unfold ae;dsimp only;omega) (ε.ret ?_));dsimp only;rw[e2,show(((d+1:Nat):Int)-1)=(d:Int) by omega]
def afm(h:ST B t)(hB:B<=100000)(i:Int)(s:List UInt8)(o:Int)(bu:∀e,e∈(gD t.η i).ψ->e.aC≠s):Gc i s o ⟨t⟩=V ((jz t i s o).Next,(jz t i s o).ai,(jz t i s o).η):=by
 refine ε.eq ?_;unfold Gc wH;refine ε.af (wg h.s (h.n hB) i) ?_;have hE:=h.f.gE i;have hk:=Lu (cS s) (gD t.η i).ψ;have hc:=h.f.c;refine ε.af (IS (h.g i) (by omega) s) ?_;dsimp only;refine ε.af (Af (by omega)) (ε.χ ⟨by omega,by omega,by simp,by simp only[bV,dF];omega⟩ (ε.χ (by unfold ae;omega) ?_));refine ε.af (WK (t:=⟨t.η,t.Next,t.ai+1⟩) h.s (h.n hB) _ _ _ _ _ _) (ε.ret ?_);unfold jz;dsimp only;rw[Vx (e:=⟨s,o,t.ai⟩) (h.g i) bu]
def WH(h:ST B t)(hB:B<=100000)(i:Int)(s:List UInt8){e:aH}(he:(gD t.η i).ψ.find? (λe=>e.aC==s)=V e):Ch i s ⟨t⟩=V ((eh t i s).η,(eh t i s).Next,(eh t i s).ai):=by
 refine ε.eq ?_;unfold Ch wH;refine ε.af (wg h.s (h.n hB) i) ?_;have hE:=h.f.gE i;have hk:=Lt (h.g i) he;have hl:=(eZ.1 hk).1;have hF:=GY (s:=s) (h.g i);rw[he]at hF;have hF:gy (cS s) (gD t.η i).ψ=true:=hF;refine ε.af (IS (h.g i) (by omega) s) ?_;dsimp only;refine ε.cond hF (ε.af (Af (by omega)) (ε.χ (by unfold ae;omega) (ε.χ ⟨by omega,by omega,by omega⟩ ?_)));refine ε.af (WK h.s (h.n hB) _ _ _ _ _ _) (ε.ret ?_);unfold eh;dsimp only;rw[Tr (h.g i),if_pos hF]
def afC(h:ST B t)(hB:B<=100000){n:τ}(hn:gN t.η n.κ=V n):Ge n ⟨t⟩=V ((jt t n.κ).η,(jt t n.κ).Next,(jt t n.κ).ai):=by
 refine ε.eq ?_;unfold Ge jt;rw[eE hn];have hL:=h.f.gL n.κ;rw[eE hn]at hL;by_cases hk:(n.θ==2)=true
 .simp only[if_pos hk];exact ε.af (WB h.s (h.n hB) _) (ε.ret rfl)
 .simp only[if_neg hk];exact ε.χ (by unfold ae;omega) (ε.af (OE h.s (h.n hB) _) (ε.ret rfl))
end
section
variable{B:Nat}{t:Γ}
def ae_(h:fc t.η)(hf:TF B t)(hB:B<=90000)(i:Int):F9 t i=V (mV t i):=by
 have hn:=hf.n;refine ε.eq ?_;unfold F9 mV;refine ε.af (wg h (by omega) i) ?_;dsimp only;refine ε.mo (λ_=>ε.ret rfl) λ_=>ε.mo (λ_=>ε.ret rfl) λ_=>ε.mo (λ_=>ε.ret rfl) λhx=>?_;exact ε.af (WB h (by omega) _) (ε.ret rfl)
end
end
section
def aex{β σ ρ:Type}{b:List β}{B:Int×σ->Option ((Int×σ)⊕ρ)}(x:σ)(p:β->Bool)(yes:Nat->ρ)(no:ρ)
  (h1:∀(n:Nat)(a:β),b[n]?=V a->n<b.length->B ((n:Int),x)=if p a then V (.inr (yes n))else V (.inl ((n:Int)+1,x)))
  (h2:B ((b.length:Int),x)=V (.inr no)) :
  loop B (0,x)=V (match b.findIdx? p with|some n=>yes n|none=>no):=by
 have key:∀(l:List β)(n:Nat),b.drop n=l->n<=b.length->loop B ((n:Int),x)=V (match l.findIdx? p with|some k=>yes (n+k)|none=>no):=by
  intro l;induction l with
  |nil =>
   intro n hd hn
   have:n=b.length:=by have:=congrArg List.length hd;simp at this;omega
   subst this;exact kJ h2
  |cons a l ih =>
   intro n hd hn
   have Ξ:n<b.length:=by
    rcases fa n b.length with h|h
    .exact h
    .rw[kN h]at hd;cases hd
   rw[rO Ξ]at hd;injection hd with hx hl;have h:=h1 n a (by rw[bD Ξ,hx]) Ξ;rw[List.findIdx?_cons];cases hp:p a with
   |true =>
    rw[hp]at h;rw[kJ h];simp
   |false =>
    rw[hp]at h;rw[ry h,show((n:Int)+1)=((n+1:Nat):Int)from rfl,ih (n+1) hl Ξ];cases hf:l.findIdx? p with
    |none=>simp
    |some k=>simp[Nat.add_comm,Nat.add_left_comm]
 have:=key b 0 rfl (iE _);simpa using this
def Ov{α:Type}(l:List α)(p:α->Bool):decide (oI (l.findIdx? p)>=0)=l.any p:=by
 rw[IM,List.findIdx?_isSome]
def Wu(l:List Int)(y:Int)(hl:l.length<=1000000):BV l y=V (l.any λx=>y==x):=by
 have:FQ l y=V (oI (l.findIdx? λx=>y==x)):=by
  unfold FQ Yo;rw[v8 (b:=l) (λx=>y==x) (λn _=>(n:Int)) (-1)]
  .cases h:l.findIdx? λx=>y==x with
   |none=>rfl
   |some n=>obtain⟨x,hx,-⟩:=oF h;simp only[hx];rfl
  .intro n x hx Ξ;unfold FR
   have hd:decide ((n:Int)<(l.length:Int))=true:=by simpa using Ξ
   simp only[hd,if_true,aW hx,aS];split
   .rfl
   .rw[dW (by unfold ae;omega)]
  .unfold FR;simp[Kc,Cat.out]
 unfold BV;rw[this,aS,Ov]
section
variable{B:Nat}{t:Γ}
def CQ{i x:Int}{d:Nat}(h:Deep t.η i d):gw t.η i x=true↔fU t.η x i:=
 ⟨λhb=>YX h hb,λhu=>GV hu h (by have:=tC h;omega)⟩
noncomputable def qf (l:List τ) (i a:Int) (n:τ):Bool:=(n.θ==2&&gw l n.κ i)&&decide (a+(eG l 201 n.κ:Int)-(eG l 201 i:Int)+(if decide ((n.ψ.length:Int)>0)=true then 1 else 0)>12)
def Uy(l:List τ)(i a:Int):decide (oN l i a>12)=l.any (qf l i a):=by
 have key:∀(r:List τ)(m:Int),(r.foldl (λm n=>if(n.θ==2&&gw l n.κ i)=true then max m (a+(eG l 201 n.κ:Int)-(eG l 201 i:Int)+if decide ((n.ψ.length:Int)>0)=true then 1 else 0)else m) m>12)↔(m>12\/r.any (qf l i a)=true):=by
  intro r;induction r with
  |nil=>intro m;simp
  |cons x r ih =>
   intro m;rw[RN,ih,List.any_cons,s6]
   have:(qf l i a x=true)↔(x.θ==2&&gw l x.κ i)=true/\(a+(eG l 201 x.κ:Int)-(eG l 201 i:Int)+(if decide ((x.ψ.length:Int)>0)=true then 1 else 0)>12):=by
    unfold qf;rw[bR,decide_eq_true_eq]
   rw[this];by_cases hc:(x.θ==2&&gw l x.κ i)=true
   .rw[if_pos hc];generalize (a+(eG l 201 x.κ:Int)-(eG l 201 i:Int)+(if decide ((x.ψ.length:Int)>0)=true then 1 else 0))=v;constructor
    .rintro (h|h)
     .rcases (by omega:m>12\/v>12)with h|h
      .exact .inl h
      .exact .inr (.inl ⟨hc,h⟩)
     .exact .inr (.inr h)
    .rintro (h|⟨-,h⟩|h)
     .exact .inl (by omega)
     .exact .inl (by omega)
     .exact .inr h
   .rw[if_neg hc];constructor
    .rintro (h|h)
     .exact .inl h
     .exact .inr (.inr h)
    .rintro (h|⟨h,-⟩|h)
     .exact .inl h
     .exact absurd h hc
     .exact .inr h
 have h:=key l 0;unfold oN;rw[uC,decide_eq_true_eq,h];simp
def afj(h:RT t)(hf:TF B t)(hB:B<=90000){i a:Int}{m:τ}(hi:gN t.η i=V m)(hm:m.θ=2)(ha:0<=a/\a<=1000){n:τ}(hn:n∈t.η):Ce n ⟨t⟩ a (eG t.η 201 i:Int) i=V (qf t.η i a n,t.η,t.Next,t.ai):=by
 have cO:=h.st hf;refine ε.eq ?_;unfold Ce qf;by_cases hk:(n.θ != 2)=true
 .rw[if_pos hk,show(n.θ==2)=false by simpa using hk];exact ε.ret rfl
 rw[if_neg hk]
 have dz:n.θ=2:=by simpa using hk
 obtain⟨d,d1,d2,d3,d4⟩:=W.deep h (pD h.s hn) dz;obtain⟨d',e1,e2,e3,e4⟩:=W.deep h hi hm;obtain⟨r,r1,r2,r3⟩:=OG cO (by omega) d1;refine ε.af r1 ?_;dsimp only;rw[e4,d4,r2];refine ε.χ (by unfold ae;omega) (ε.χ (by unfold ae;omega) (ε.χ (by unfold ae;omega) ?_))
 have hc:(r.any λx=>i==x)=gw t.η n.κ i:=by
  rw[uC,CQ d1,<-r3 i];simp
 have bG:(n.θ==2)=true:=by simpa using dz
 refine ε.bind (R:=(·=(gw t.η n.κ i&&decide (a+(d:Int)-(d':Int)+(if decide ((n.ψ.length:Int)>0)=true then 1 else 0)>12)))) (ε.af (Wu r i (by omega)) (ε.bind (R:=(·=(gw t.η n.κ i&&decide (a+(d:Int)-(d':Int)+(if decide ((n.ψ.length:Int)>0)=true then 1 else 0)>12)))) ?_ λv hv=>ε.ret hv)) λv hv=>ε.ret (by rw[hv,bG,KE]);rw[hc];refine ε.ite (λhb=>?_) λhb=>ε.ret (by rw[oo.2 hb];rfl);rw[hb,KE];refine ε.bind (R:=(·=decide (a+(d:Int)-(d':Int)+(if decide ((n.ψ.length:Int)>0)=true then 1 else 0)>12))) ?_ λv hv=>ε.ret hv;refine ε.ite (λh1=>ε.ret ?_) λh1=>?_
 .rw[decide_eq_true_eq]at h1;symm;rw[decide_eq_true_eq];split<;>omega
 .rw[decide_eq_true_eq]at h1;refine ε.bind (R:=(·=decide (a+(d:Int)-(d':Int)+(if decide ((n.ψ.length:Int)>0)=true then 1 else 0)>12))) ?_ λv hv=>ε.ret hv;refine ε.ite (λh2=>ε.ret ?_) λh2=>ε.ret ?_
  .rw[beq_iff_eq]at h2;by_cases h3:(n.ψ.length:Int)>0
   .rw[decide_eq_true h3,if_pos rfl];symm;rw[decide_eq_true_eq];omega
   .rw[decide_eq_false h3,if_neg (by simp)];symm;rw[decide_eq_false_iff_not];omega
  .rw[beq_iff_eq]at h2;symm;rw[decide_eq_false_iff_not];split<;>omega
def afk(h:RT t)(hf:TF B t)(hB:B<=90000){i a:Int}{m:τ}(hi:gN t.η i=V m)(hm:m.θ=2)(ha:0<=a/\a<=1000):Gb ⟨t⟩ i a=V (decide (oN t.η i a>12),⟨t⟩):=by
 have cO:=h.st hf;obtain⟨d',e1,e2,e3,e4⟩:=W.deep h hi hm;have hl:=hf.n;refine ε.eq ?_;unfold Gb;refine ε.af (afl cO (by omega) e1) ?_;rw[Uy];dsimp only;unfold J7 J' Ym;rw[<-e4];have rh:=aex (b:=t.η) (B:=BX t.η a (eG t.η 201 i:Int) i) (t.η,t.Next,t.ai) (qf t.η i a) (λn=>((n:Int),t.η,t.Next,t.ai)) (-1,t.η,t.Next,t.ai) ?_ ?_
 .refine ε.af (a:=(t.η.any (qf t.η i a),t.η,t.Next,t.ai)) ?_ (ε.ret rfl);show((loop _ _).bind _)=_;rw[rh];have:=Ov t.η (qf t.η i a);cases hx:t.η.findIdx? (qf t.η i a)with
  |none=>rw[hx]at this;rw[<-this];rfl
  |some k=>rw[hx]at this;rw[<-this];rfl
 .intro n x hx Ξ;unfold BX
  have hd:decide ((n:Int)<(t.η.length:Int))=true:=by simpa using Ξ
  simp only[hd,if_true,aW hx,aS];have hp:Ce x (⟨(⟨t.η,t.Next,t.ai⟩:Γ)⟩:dC) a (eG t.η 201 i:Int) i=_:=afj h hf hB hi hm ha (fz hx);rw[hp,aS];dsimp only;split
  .rfl
  .rw[dW (by unfold ae;omega)]
 .unfold BX;simp[Ka,Cat.out]
end
end
section
section
variable{B:Nat}{t:Γ}
def Bn(x y:τ):Int:=if(x.θ==2&&y.θ != 2)=true then 73 else if(x.θ != 2&&y.θ==2)=true then 72 else if decide ((y.ψ.length:Int)>0)=true then 74 else 0
def afw(x y:τ):Gf x y=V (Bn x y):=by
 refine ε.eq ?_;unfold Gf Bn;refine ε.bind (R:=(·=(x.θ==2&&y.θ != 2))) (ε.bind (R:=(·=(x.θ==2&&y.θ != 2))) (by cases x.θ==2<;>exact ε.ret rfl) λr hr=>ε.ret hr) λr hr=>?_;subst hr;refine ε.mo (λ_=>ε.ret rfl) λ_=>?_;refine ε.bind (R:=(·=(x.θ != 2&&y.θ==2))) (ε.bind (R:=(·=(x.θ != 2&&y.θ==2))) (by cases x.θ != 2<;>exact ε.ret rfl) λr hr=>ε.ret hr) λr hr=>?_;subst hr;exact ε.mo (λ_=>ε.ret rfl) λ_=>ε.mo (λ_=>ε.ret rfl) λ_=>ε.ret rfl
def afd(h:RT t)(hf:TF B t)(hB:B<=90000)(from_:Int)(s:List UInt8)(to:Int)(aG:List UInt8):Cb t from_ s to aG=V (fO t from_ s to aG):=by
 have cO:=h.st hf;have hn:=cO.n (by omega);refine ε.eq ?_;unfold Cb fO;refine ε.af (OA cO (by omega) from_ s) (ε.mo (λ_=>ε.ret rfl) λhL=>ε.af (OC cO (by omega) to) ?_);dsimp only;refine ε.mo (λ_=>ε.ret rfl) λhD=>ε.af (IT aG) (ε.mo (λ_=>ε.ret rfl) λhR=>?_);obtain⟨mf,ef,a1,a2,a3,a4,a5,a6⟩:=look_ok (mb hL);obtain⟨md,b1,b2,b3,b4⟩:=CZ (mb hD);rw[a6,b3];obtain⟨k1,k2,k3⟩:=W.get h a1;obtain⟨q1,q2,q3⟩:=W.get h b1;have lP:=lE a5;obtain⟨x,hx⟩:=kv.1 (h.cl mf k1 ef lP);obtain⟨x1,x2,x3⟩:=W.get h hx;have vS:ef.κ≠from_:=W.IK h a1 a2 lP;obtain⟨dt,t1,t2,t3,t4⟩:=W.deep h b1 b2;have Nx:=cO.e _ q1;have hEl:=hf.e _ q1
 have jm:bw t to aG=match md.ψ.find? (λe=>e.aC==aG)with|some e=>e.κ|none=>0:=by unfold bw;rw[b3]<;>rfl
 have hYf:gy (cS aG) md.ψ=(bw t to aG != 0)/\(gD t.η (bw t to aG)).κ=bw t to aG/\(gN t.η (bw t to aG)).isSome=(bw t to aG != 0):=by
  have hF:=GY (s:=aG) Nx;rw[jm];cases eV:md.ψ.find? (λe=>e.aC==aG)with
  |none =>
   rw[eV]at hF
   have h0:gN t.η 0=none:=xN.2 λn hn=>by have:=(h.lo n hn).1;omega
   refine⟨hF,?_,?_⟩
   .dsimp only;unfold gD;rw[h0];rfl
   .dsimp only;rw[h0];rfl
  |some ey =>
   rw[eV]at hF;have DB:=lE eV;obtain⟨ny,jS⟩:=kv.1 (h.cl md q1 ey DB);have NS:=(bz jS).2
   have aI:(ey.κ != 0)=true:=by have:=(h.lo ny (bz jS).1).1;simp;omega
   refine⟨by dsimp only;rw[aI];exact hF,by dsimp only;rw[eE jS];exact NS,by dsimp only;rw[jS,aI];rfl⟩
 obtain⟨y1,y2,y3⟩:=hYf;refine ε.af (wg h.s hn ef.κ) ?_;dsimp only;rw[x3];refine ε.af (IS Nx (by omega) aG) ?_;dsimp only;rw[y1];refine ε.af (a:=(t.η,t.Next,t.ai,(gD t.η (bw t to aG)).κ,(gD t.η (bw t to aG)).θ,(gD t.η (bw t to aG)).a_,(gD t.η (bw t to aG)).aK,(gD t.η (bw t to aG)).ψ,(gD t.η (bw t to aG)).Up)) ?_ ?_
 .refine ε.eq (ε.ite (λe=>?_) λe=>?_)
  .cases eV:md.ψ.find? (λe=>e.aC==aG)with
   |none=>rw[eV]at jm;rw[jm]at e;simp at e
   |some ey =>
    rw[eV]at jm;refine ε.af (aW (Lt Nx eV)) (ε.af (wg h.s hn ey.κ) (ε.ret ?_));dsimp only;rw[jm]
  .have e0:bw t to aG=0:=by simpa using e
   refine ε.ret ?_
   have h0:gD t.η 0=n_:=by unfold gD;rw[xN.2 λn hn=>by have:=(h.lo n hn).1;omega];rfl
   rw[e0,h0];rfl
 dsimp only;rw[y2];refine ε.mo (λ_=>ε.ret rfl) λhy=>?_
 have hy:bw t to aG≠ef.κ:=by simpa using hy
 obtain⟨r,r1,r2,r3⟩:=OG cO (by omega) t1;refine ε.af r1 ?_;dsimp only
 have hc:(r.any λx=>ef.κ==x)=gw t.η to ef.κ:=by
  rw[uC,CQ t1,<-r3 ef.κ];simp
 refine ε.bind (R:=(·=(x.θ==2&&gw t.η to ef.κ))) (ε.bind (R:=(·=(x.θ==2&&gw t.η to ef.κ))) (ε.ite (λe=>ε.af (Wu r ef.κ (by omega)) (ε.ret (by rw[hc,e];rfl))) λe=>ε.ret (by rw[oo.2 e];rfl)) λv hv=>ε.ret hv) λv hv=>?_;subst hv;refine ε.mo (λ_=>ε.ret rfl) λrh=>?_
 have MC:pz t x (bw t to aG)=if(bw t to aG != 0)=true then Bn x (gD t.η (bw t to aG))else 0:=by
  unfold pz Bn;rw[y3];by_cases e:(bw t to aG != 0)=true
  .rw[if_pos e,if_neg (by rw[e];simp)]
  .rw[if_neg e,if_pos (by simpa using e)]
 have hJ:pz t x (bw t to aG)=0->ε (Cc (↑(fi (cS aG) md.ψ),bw t to aG != 0) to from_ (dj t.η to,⟨t⟩) (r,⟨t⟩) ((x,(gN t.η ef.κ).isSome),⟨t⟩) (bJ t from_ s) t s aG (t.η,t.Next,t.ai,bw t to aG,(gD t.η (bw t to aG)).θ,(gD t.η (bw t to aG)).a_,(gD t.η (bw t to aG)).aK,(gD t.η (bw t to aG)).ψ,(gD t.η (bw t to aG)).Up) ())
   (·=if wa t ef.κ from_ to (bw t to aG)=true then(t,0,76)else(jz (gG t (fP t ef.κ from_ s to aG (bw t to aG)) ef.κ to) to aG ef.κ,bw t to aG,0)):=by
  intro cY;unfold Cc wa;rw[b3,x3,t4,a6];refine ε.bind (R:=(·=(((bw t to aG==0)&&(to != from_))&&decide ((md.ψ.length:Int)>=64)))) ?_ λv hv=>?_
  .refine ε.bind (R:=(·=((bw t to aG==0)&&(to != from_)))) (ε.ite (λe=>ε.ret ?_) λe=>ε.ret ?_) λv hv=>ε.bind (R:=(·=(((bw t to aG==0)&&(to != from_))&&decide ((md.ψ.length:Int)>=64)))) ?_ λv hv=>ε.ret hv
   .have e:bw t to aG=0:=by simpa using e
    rw[e];simp
   .have e:¬bw t to aG=0:=by simpa using e
    rw[beq_eq_false_iff_ne.2 e];rfl
   .subst hv;exact ε.ite (λe=>ε.ret (by rw[e];rfl)) λe=>ε.ret (by rw[oo.2 e];rfl)
  subst hv;generalize qW:(((bw t to aG==0)&&(to != from_))&&decide ((md.ψ.length:Int)>=64))=bA
  have hlen:decide ((r.length:Int)>12)=decide ((dt:Int)>=12):=by rw[r2,decide_eq_decide];omega
  have mg:=tC t1
  have aY:(r.length:Int)=(dt:Int)+1:=by rw[r2];omega
  dsimp only;rw[hlen,aY];generalize hbB:decide ((dt:Int)>=12)=bB;refine ε.bind (R:=(·=((bA||bB||((x.θ==2)&&decide (oN t.η ef.κ ((dt:Int)+1)>12))||decide (t.ai>=1099511627776)),t.η,t.Next,t.ai))) ?_ λv hv=>?_
  .refine ε.bind (R:=(·=(bA||bB))) (by cases bA<;>exact ε.ret rfl) λv hv=>?_;subst hv;refine ε.bind (R:=(·=((bA||bB||((x.θ==2)&&decide (oN t.η ef.κ ((dt:Int)+1)>12))),t.η,t.Next,t.ai))) ?_ λv hv=>?_
   .refine ε.ite (λe=>ε.ret (by rw[e];rfl)) λe=>?_;rw[oo.2 e,Bool.false_or];refine ε.bind (R:=(·=(((x.θ==2)&&decide (oN t.η ef.κ ((dt:Int)+1)>12)),t.η,t.Next,t.ai))) (ε.ite (λe=>?_) λe=>ε.ret (by rw[oo.2 e];rfl)) λv hv=>ε.ret (by rw[hv]);rw[e,KE];exact ε.af (afk h hf hB hx (by simpa using e) (by omega)) (ε.ret rfl)
   .subst hv;dsimp only;refine ε.bind (R:=(·=(bA||bB||((x.θ==2)&&decide (oN t.η ef.κ ((dt:Int)+1)>12))||decide (t.ai>=1099511627776)))) (ε.ite (λe=>ε.ret (by rw[e];rfl)) λe=>ε.ret (by rw[oo.2 e];rfl)) λv hv=>ε.ret (by rw[hv])
  subst hv;dsimp only;refine ε.mo (λ_=>ε.ret rfl) λsv=>?_
  have acy:bA=false:=by cases bA<;>simp_all
  rw[acy]at qW;have sD:x.θ=2->¬fU t.η ef.κ to:=λhk hu=>rh (by rw[(CQ t1).2 hu];simp[hk])
  have sH:ef.κ≠to:=λe=>by
   rw[e,b1]at hx;cases hx;exact sD b2 (e▸.refl)
  have AJ:∀ey,md.ψ.find? (λe=>e.aC==aG)=V ey->∃ny,bw t to aG=ey.κ/\gN t.η ey.κ=V ny/\ny.ψ=[]:=λey eV=>by
   rw[eV]at jm;have DB:=lE eV;obtain⟨ny,jS⟩:=kv.1 (h.cl md q1 ey DB);refine⟨ny,jm,jS,?_⟩
   have e1:(bw t to aG != 0)=true:=by rw[<-y3,jm];dsimp only;rw[jS];rfl
   rw[MC,if_pos e1]at cY;rw[jm]at cY;dsimp only at cY;rw[eE jS]at cY;unfold Bn at cY;split at cY
   .cases cY
   split at cY
   .cases cY
   split at cY
   .cases cY
   rename_i h0;rw[decide_eq_true_eq]at h0;exact qJ.1 (by omega)
  have hY:(∀e,e∈md.ψ->e.aC≠aG)/\bw t to aG=0/\(to≠from_->md.ψ.length<64)\/∃ey ny,md.ψ.find? (λe=>e.aC==aG)=V ey/\bw t to aG=ey.κ/\gN t.η ey.κ=V ny/\ny.ψ=[]:=by
   cases eV:md.ψ.find? (λe=>e.aC==aG)with
   |none =>
    rw[eV]at jm;refine .inl ⟨λe he=>by have:=w8.1 eV e he;simpa using this,jm,λaI=>?_⟩;rw[jm]at qW
    have:(to != from_)=true:=by simpa using aI
    rw[this]at qW;simp at qW;omega
   |some ey=>obtain⟨ny,n1,n2,n3⟩:=AJ ey eV;exact .inr ⟨ey,ny,rfl,n1,n2,n3⟩
  obtain⟨w,-,wx,mu,u1,u2,u3,u4⟩:=V_ h a1 a2 a5 b1 b2 hx vS sH hy hY;refine ε.af (WH cO (by omega) from_ s (by rw[a3];exact a5)) ?_;dsimp only;refine ε.af (a:=((fP t ef.κ from_ s to aG (bw t to aG)).η,(fP t ef.κ from_ s to aG (bw t to aG)).Next,(fP t ef.κ from_ s to aG (bw t to aG)).ai)) ?_ ?_
  .refine ε.eq ?_;unfold fP;by_cases e:(bw t to aG != 0)=true
   .rw[if_pos e,if_pos e];cases eV:md.ψ.find? (λe=>e.aC==aG)with
    |none=>rw[eV]at jm;rw[jm]at e;simp at e
    |some ey =>
     obtain⟨ny,n1,n2,n3⟩:=AJ ey eV;have DB:=lE eV;have Ic:ey.κ≠to:=W.IK h b1 b2 DB
     have Ib:ey.κ≠from_:=λe=>by
      rw[e,a1]at n2;cases n2;rw[n3]at lP;cases lP
     have g1:=xM a1 s;have s1:ST (B+1) (eh t from_ s):=cO.VX from_ s
     obtain⟨m1,c1,c2⟩:∃m1,gN (eh t from_ s).η to=V m1/\m1.ψ.find? (λe=>e.aC==aG)=V ey:=by
      rw[g1];by_cases e:to=from_
      .rw[if_pos e];rw[e,a1]at b1;cases b1;refine⟨_,rfl,?_⟩;unfold zF;dsimp only
       have aI:aG≠s:=λe=>by
        rw[e,a5]at eV;cases eV;exact hy n1
       rw[Z3]
       have:(λa:aH=>decide ((!(a.aC==s))=true/\(a.aC==aG)=true))=λa=>a.aC==aG:=by
        funext a;by_cases ha:a.aC=aG
        .rw[ha];simp[aI]
        .simp[ha]
       rw[this];exact eV
      .rw[if_neg e];exact⟨md,b1,eV⟩
     refine ε.af (WH (t:=eh t from_ s) s1 (by omega) to aG (by rw[eE c1];exact c2)) ?_;dsimp only;rw[n1,eE n2];have AU:=(bz n2).2
     have az:gN (eh (eh t from_ s) to aG).η ny.κ=V ny:=by rw[AU,xM c1,if_neg Ic,g1,if_neg Ib,n2]
     have U1:=afC (t:=eh (eh t from_ s) to aG) (s1.VX to aG) (by omega) az;rw[AU]at U1
     have acX:(⟨ey.κ,ny.θ,ny.a_,ny.aK,ny.ψ,ny.Up⟩:τ)=ny:=by rw[<-AU]
     rw[acX];exact ε.af U1 (ε.ret rfl)
   .rw[if_neg e,if_neg e];exact ε.ret rfl
  dsimp only;have sT:ST (B+3) (fP t ef.κ from_ s to aG (bw t to aG)):=w.st (hf.fP _ _ _ _ _ _);generalize fP t ef.κ from_ s to aG (bw t to aG)=T at *
  have sU:ST (B+4) (gG t T ef.κ to):=by
   have hu:=hf.gG (C:=B+3) sT.f (by omega) ef.κ to;unfold gG at hu ⊢;split
   .rename_i hk;rw[if_pos hk]at hu;exact sT.WU hu (cO.g _)
   .exact sT.up (by omega)
  refine ε.af (a:=((gG t T ef.κ to).η,(gG t T ef.κ to).Next,(gG t T ef.κ to).ai)) ?_ ?_
  .refine ε.eq ?_;unfold gG;rw[x3];by_cases e:(x.θ==2)=true
   .simp only[if_pos e];exact ε.af (OE sT.s (sT.n (by omega)) _) (ε.ret rfl)
   .simp only[if_neg e];exact ε.ret rfl
  dsimp only
  have hgU:gD (gG t T ef.κ to).η to=mu:=by
   unfold gG;rw[x3];split
   .unfold gD;dsimp only;rw[lO];dsimp only;rw[x2,if_neg (lG sH),u1];rfl
   .exact eE u1
  exact ε.af (afm (t:=gG t T ef.κ to) sU (by omega) to aG ef.κ (by rw[hgU];exact u3)) (ε.ret rfl)
 by_cases e:(bw t to aG != 0)=true
 .rw[if_pos e];refine ε.af (afw _ _) ?_
  have e1:pz t x (bw t to aG)=Bn x (gD t.η (bw t to aG)):=by rw[MC,if_pos e]
  have e2:(⟨bw t to aG,(gD t.η (bw t to aG)).θ,(gD t.η (bw t to aG)).a_,(gD t.η (bw t to aG)).aK,(gD t.η (bw t to aG)).ψ,(gD t.η (bw t to aG)).Up⟩:τ)=gD t.η (bw t to aG):=by
   have:∀n:τ,n.κ=bw t to aG->(⟨bw t to aG,n.θ,n.a_,n.aK,n.ψ,n.Up⟩:τ)=n:=λn hn=>by rw[<-hn]
   exact this _ y2
  rw[e2,<-e1];refine ε.mo (λ_=>ε.ret rfl) λhc=>?_;exact hJ (mb hc)
 .rw[if_neg e]
  have e1:pz t x (bw t to aG)=0:=by rw[MC,if_neg e]
  have e3:=hJ e1;rw[e1,if_neg (by simp)];exact e3
end
end
section
def tw(l:List UInt8):List UInt8:=l.takeWhile (· != 47)
def dw(l:List UInt8):List UInt8:=l.dropWhile (· != 47)
def LL(l:List UInt8):(dw l).length<=l.length:=(List.dropWhile_suffix _).length_le
def jJ(p:List UInt8):Option (List (List UInt8)):=
 match p with
 |[]=>V []
 |a::r=>if a=47/\dX (tw r)=true then(jJ (dw r)).map (tw r::·)else none
termination_by p.length
decreasing_by have:=LL r;simp only[bV];omega
def BZ:jJ []=V []:=by rw[jJ]
def wI(a:UInt8)(r:List UInt8):jJ (a::r)=if a=47/\dX (tw r)=true then(jJ (dw r)).map (tw r::·)else none:=by rw[jJ]
def fR(p:List UInt8):List (List UInt8)×Int:=if p=[47]then([],0)else match jJ p with|some l=>if l.length=0\/12<l.length then([],60)else(l,0)|none=>([],60)
def N5:∀l:List UInt8,(if decide (ni l 47<0)=true then(l.length:Int)else ni l 47)=((tw l).length:Int)/\-1<=ni l 47
 |[]=>⟨rfl,by decide⟩
 |a::l=>by
  obtain⟨ih,ih2⟩:=N5 l;have hx:ni (a::l) 47=if(a==47)=true then 0 else if(ni l 47 == -1)=true then -1 else ni l 47+1:=rfl;have ht:tw (a::l)=if(a != 47)=true then a::tw l else[]:=CB ..;by_cases ha:a=47
  .rw[if_pos (by simpa using ha)]at hx;rw[if_neg (by simpa using ha)]at ht;rw[hx,ht];simp
  .rw[if_neg (by simpa using ha)]at hx;rw[if_pos (by simpa using ha)]at ht;by_cases h1:ni l 47=-1
   .rw[if_pos (by simpa using h1)]at hx;rw[h1]at ih;rw[hx,ht];simp at ih ⊢;omega
   .rw[if_neg (by simpa using h1)]at hx;rw[if_neg (by simp;omega)]at ih;rw[hx,ht,if_neg (by simp;omega),bV];omega
def YT(l:List UInt8):tw l++dw l=l:=List.takeWhile_append_dropWhile
def ahG(l:List UInt8):l.take (tw l).length=tw l:=by
 have:(tw l++dw l).take (tw l).length=tw l:=List.take_left;rwa [YT]at this
def ahF(l:List UInt8):l.drop (tw l).length=dw l:=by
 have:(tw l++dw l).drop (tw l).length=dw l:=List.drop_left;rwa [YT]at this
def YU(l:List UInt8):(tw l).length<=l.length:=(aaa _).length_le
def afi(p:List UInt8)(h:p.length<=1000000):FV p [47]=V (match p with|[]=>([],false)|a::r=>if a=47 then(r,true)else(a::r,false)):=by
 refine ε.eq ?_;unfold FV Ij Ik;refine ε.af (a:=match p with|[]=>([],false)|a::r=>if a=47 then(r,true)else(a::r,false)) (ε.eq ?_) (ε.ret rfl);cases p with
 |nil =>
  refine ε.af (a:=false) rfl (ε.ret rfl)
 |cons a r =>
  dsimp only
  have hh:((sub (a::r) 0 (([47]:List UInt8).length:Int)) == [47])=decide (a=47):=by
   unfold sub;rw[uC];simp
  refine ε.bind (R:=(·=decide (a=47))) (ε.bind (R:=(·=decide (a=47))) (ε.bind (R:=(·=decide (a=47))) (ε.cond (by simp;omega) (ε.χ ⟨by decide,by simp,by simp;omega⟩ (ε.ret hh))) λv hv=>ε.ret hv) λv hv=>ε.ret hv) λv hv=>?_;subst hv;by_cases ha:a=47
  .rw[if_pos ha];refine ε.aV (by simpa using ha) (ε.χ ⟨by simp,by simp;omega,by omega⟩ (ε.ret ?_));unfold sub;simp
  .rw[if_neg ha];exact ε.cond (by simpa using ha) (ε.ret rfl)
def jZ(out:List (List UInt8))(p:List UInt8):Option (List (List UInt8)):=match jJ p with|some l=>if 12<(out++l).length then none else V (out++l)|none=>none
def Wv(p:List UInt8)(hp:p.length<=100000):Bh p=V (fR p):=by
 refine ε.eq ?_;unfold Bh fR;by_cases h0:p=[47]
 .rw[if_pos (by simpa using h0),if_pos h0];exact ε.ret rfl
 rw[if_neg (by simpa using h0),if_neg h0];unfold IF IG Wb;refine ε.af rfl ?_;refine ε.bind (R:=λr=>(∀l,jZ [] p=V l->r.1=.jb/\r.2.2.2=l)/\(jZ [] p=none->r.1=.ret/\r.2.1=60)) ?_ λr hr=>?_
 .refine ε.loop (λs:LS×List UInt8×Int×List (List UInt8)=>s.1=.jb/\s.2.1.length<=100000/\s.2.2.2.length<=12/\jZ s.2.2.2 s.2.1=jZ [] p) (λs=>s.2.1.length) ?_ _ ⟨rfl,hp,by simp,rfl⟩;rintro⟨c,q,b,out⟩ ⟨h1,h2,h3,h4⟩;dsimp only at h1 h2 h3 h4;subst h1;unfold II;cases q with
  |nil =>
   refine ε.aV (by simp) (ε.out (ε.ret ⟨λl hl=>⟨rfl,?_⟩,λhn=>?_⟩))
   .rw[<-h4]at hl;unfold jZ at hl;rw[BZ]at hl;simp only[qH]at hl;rw[if_neg (by omega)]at hl;exact iP hl
   .rw[<-h4]at hn;unfold jZ at hn;rw[BZ]at hn;simp only[qH]at hn;rw[if_neg (by omega)]at hn;cases hn
  |cons a r =>
   refine ε.cond (by simp) (ε.af (afi (a::r) (by omega)) ?_);dsimp only
   have HU:r.length+1<=100000:=by simpa using h2
   by_cases ha:a=47
   .rw[if_pos ha];dsimp only;have yu:=YU r;have mg:=LL r;refine ε.bind (R:=(·=((tw r).length:Int))) ?_ λv hv=>?_
    .have k_:=(N5 r).1;by_cases hc:decide (ni r 47<0)=true
     .rw[if_pos hc]at k_ ⊢;exact ε.ret k_
     .rw[if_neg hc]at k_ ⊢;exact ε.ret k_
    subst hv
    have e1:sub r 0 ((tw r).length:Int)=tw r:=by unfold sub;rw[gv];exact ahG r
    have e2:sub r ((tw r).length:Int) (r.length:Int)=dw r:=by unfold sub;rw[gv,gv,gl];exact ahF r
    refine ε.χ ⟨by decide,by omega,by omega⟩ (ε.χ rfl ?_);rw[e1]
    have A4:jZ out (a::r)=if dX (tw r)=true/\out.length≠12 then jZ (out++[tw r]) (dw r)else none:=by
     unfold jZ;rw[wI];by_cases hn:dX (tw r)=true
     .rw[if_pos ⟨ha,hn⟩];cases hs:jJ (dw r)with
      |none=>simp
      |some l =>
       simp only[Option.map_some,cZ,bV,l7,Cz,List.nil_append];by_cases ho:out.length=12
       .rw[if_pos (by omega),if_neg (by simp[ho])]
       .rw[if_pos (show dX (tw r)=true/\out.length≠12 from⟨hn,ho⟩)]
     .rw[if_neg (λh=>hn h.2),if_neg (λh=>hn h.1)]
    by_cases hg:dX (tw r)=true/\out.length≠12
    .rw[if_pos hg]at A4;refine ε.af (a:=(.jb,b,out++[tw r])) ?_ ?_
     .refine ε.eq ?_;unfold Bi;refine ε.bind (R:=(·=false)) (ε.bind (R:=(·=false)) (ε.aV (by simp) (ε.af (IT _) (ε.ret (by rw[hg.1];rfl)))) λv hv=>ε.bind (R:=(·=false)) (by rw[hv];exact ε.aV (by simp) (ε.ret (by rw[beq_eq_false_iff_ne];have:=hg.2;omega))) λv hv=>ε.ret hv) λv hv=>?_;rw[hv];exact ε.aV (by simp) (ε.χ (by simp only[bV,dF];omega) (ε.ret rfl))
     .refine ε.aV (by simp[LS.vV]) (ε.χ ⟨by omega,by omega,by omega⟩ (ε.inl ⟨⟨rfl,?_,?_,?_⟩,?_⟩))
      .dsimp only;rw[e2];omega
      .simp only[cZ,bV,dF];have:=hg.2;omega
      .dsimp only;rw[e2,<-A4,h4]
      .dsimp only;rw[e2,bV];omega
    .rw[if_neg hg]at A4;refine ε.af (a:=(.ret,60,out)) ?_ ?_
     .refine ε.eq ?_;unfold Bi
      refine ε.bind (R:=(·=true)) (ε.bind (R:=(·=!dX (tw r))) (ε.aV (by simp) (ε.af (IT _) (ε.ret rfl))) λv hv=>ε.bind (R:=(·=true)) (by
       rw[hv];refine ε.ite (λ_=>ε.ret rfl) λhn=>ε.ret ?_
       have hn:dX (tw r)=true:=by simpa using hn
       have:out.length=12:=Decidable.byContradiction λhc=>hg ⟨hn,hc⟩
       rw[this];rfl) λv hv=>ε.ret hv) λv hv=>?_
      rw[hv];exact ε.cond rfl (ε.ret rfl)
     .refine ε.cond (by simp[LS.vV]) (ε.out (ε.ret ⟨λl hl=>?_,λ_=>⟨rfl,rfl⟩⟩));rw[<-h4,A4]at hl;cases hl
   .rw[if_neg ha];dsimp only
    have A4:jZ out (a::r)=none:=by unfold jZ;rw[wI,if_neg (λh=>ha h.1)]
    have yu:=YU (a::r);refine ε.bind (R:=(·=((tw (a::r)).length:Int))) ?_ λv hv=>?_
    .have k_:=(N5 (a::r)).1;by_cases hc:decide (ni (a::r) 47<0)=true
     .rw[if_pos hc]at k_ ⊢;exact ε.ret k_
     .rw[if_neg hc]at k_ ⊢;exact ε.ret k_
    subst hv;refine ε.χ ⟨by decide,by omega,by omega⟩ (ε.χ rfl ?_);refine ε.af (a:=(.ret,60,out)) ?_ ?_
    .refine ε.eq ?_;unfold Bi
     exact ε.bind (R:=(·=true)) (ε.bind (R:=(·=true)) (ε.cond rfl (ε.ret rfl)) λv hv=>ε.bind (R:=(·=true)) (by rw[hv];exact ε.cond rfl (ε.ret rfl)) λv hv=>ε.ret hv) λv hv=>by rw[hv];exact ε.cond rfl (ε.ret rfl)
    .refine ε.cond (by simp[LS.vV]) (ε.out (ε.ret ⟨λl hl=>?_,λ_=>⟨rfl,rfl⟩⟩));rw[<-h4,A4]at hl;cases hl
 .obtain⟨r1,r2,r3,r4⟩:=r;obtain⟨g1,g2⟩:=hr
  have hA:jZ [] p=match jJ p with|some l=>if 12<l.length then none else V l|none=>none:=by unfold jZ;simp
  rw[hA]at g1 g2;cases hs:jJ p with
  |none =>
   rw[hs]at g2;obtain⟨e1,e2⟩:=g2 rfl;subst e1;subst e2;exact ε.aV (by simp) (ε.cond rfl (ε.ret rfl))
  |some l =>
   rw[hs]at g1 g2;dsimp only at g1 g2 ⊢;by_cases hl:12<l.length
   .rw[if_pos (show l.length=0\/12<l.length from .inr hl)];rw[if_pos hl]at g2;obtain⟨e1,e2⟩:=g2 rfl;subst e1;subst e2;exact ε.aV (by simp) (ε.cond rfl (ε.ret rfl))
   .rw[if_neg hl]at g1;obtain⟨e1,e2⟩:=g1 l rfl;subst e1;subst e2;refine ε.cond rfl ?_;by_cases Mm:r4.length=0
    .rw[if_pos (show r4.length=0\/12<r4.length from .inl Mm)];exact ε.cond (by simp[Mm]) (ε.ret rfl)
    .rw[if_neg (show ¬(r4.length=0\/12<r4.length) by omega)];exact ε.aV (by simpa using Mm) (ε.ret rfl)
def gb(l:List (List UInt8)):List UInt8:=if l.length=0 then[47]else[47]++ke l [47]
def Im(a b:List UInt8)(l:List (List UInt8)):ke (a::b::l) [47]=a++[47]++ke (b::l) [47]:=by
 unfold ke;simp[RQ]
def Io(a:List UInt8):ke [a] [47]=a:=by unfold ke;simp[RQ]
def wc{s:List UInt8}(h:dX s=true):(∀x,x∈s->x≠47)/\1<=s.length/\s.length<=32:=by
 unfold dX at h;simp only[bR,decide_eq_true_eq,lC,qG]at h;refine⟨λx hx e=>?_,h.1.1.1.1,h.1.1.1.2⟩;have:=h.2 x hx;rw[e]at this;exact this (by decide)
def Kp:∀{s r:List UInt8},(∀x,x∈s->x≠47)->(r=[]\/∃r',r=47::r')->tw (s++r)=s/\dw (s++r)=r
 |[],r,_,hr=>by rcases hr with rfl|⟨r',rfl⟩<;>exact⟨rfl,rfl⟩
 |a::s,r,hs,hr=>by
  have ha:(a != 47)=true:=by simpa using hs a (by simp)
  obtain⟨h1,h2⟩:=Kp (s:=s) (λx hx=>hs x (cw _ hx)) hr;unfold tw dw at *;rw[Cz,CB,if_pos ha,List.dropWhile_cons,if_pos ha,h1,h2];exact⟨rfl,rfl⟩
def Yr:∀{l:List (List UInt8)},(∀s,s∈l->dX s=true)->l≠[]->jJ (47::ke l [47])=V l
 |[],_,h=>absurd rfl h
 |[a],h,_=>by
  have ha:=h a (by simp);rw[Io,wI];have:=Kp (r:=[]) (wc ha).1 (.inl rfl);rw[qH]at this;rw[this.1,this.2,if_pos ⟨rfl,ha⟩,BZ];rfl
 |a::b::l,h,_=>by
  have ha:=h a (by simp);have ih:=Yr (l:=b::l) (λs hs=>h s (cw _ hs)) (by simp);rw[Im,wI,l7];have:=Kp (r:=[47]++ke (b::l) [47]) (wc ha).1 (.inr ⟨_,rfl⟩);rw[this.1,this.2,if_pos ⟨rfl,ha⟩];show(jJ (47::ke (b::l) [47])).map (a::·)=_;rw[ih];rfl
def Ke{l:List (List UInt8)}(h:∀s,s∈l->dX s=true)(hl:l.length<=12):fR (gb l)=(l,0):=by
 unfold gb fR;cases l with
 |nil=>rfl
 |cons a r =>
  have aI:¬(47::ke (a::r) [47]:List UInt8)=[47]:=by
   intro e;injection e with _ e;have ha:=(wc (h a (by simp))).2.1;cases r with
   |nil=>rw[Io]at e;rw[e]at ha;simp at ha
   |cons b r=>rw[Im]at e;simp at e
  have e:(if(a::r).length=0 then[47]else[47]++ke (a::r) [47]:List UInt8)=47::ke (a::r) [47]:=if_neg (by simp);rw[e,if_neg aI,Yr h (by simp)];dsimp only;rw[if_neg (by simp only[bV]at *;omega)]
def Ys:∀(n:Nat)(p:List UInt8),p.length<=n->∀l,jJ p=V l->∀s,s∈l->dX s=true
 |_,[],_,l,h,s,hs=>by rw[BZ]at h;cases h;cases hs
 |0,_::_,hn,_,_,_,_=>by simp at hn
 |n+1,a::r,hn,l,h,s,hs=>by
  rw[wI]at h;split at h
  .rename_i hc;cases hx:jJ (dw r)with
   |none=>rw[hx]at h;cases h
   |some k =>
    rw[hx]at h;cases h
    rcases bp.1 hs with rfl|hs
    .exact hc.2
    .exact Ys n (dw r) (by have:=LL r;simp at hn;omega) k hx s hs
  .cases h
def zx{p:List UInt8}:(∀s,s∈(fR p).1->dX s=true)/\(fR p).1.length<=12/\((fR p).2=0\/(fR p).2=60/\(fR p).1=[]):=by
 have:fR p=([],0)\/fR p=([],60)\/∃l,jJ p=V l/\fR p=(l,0)/\l.length<=12:=by
  unfold fR;by_cases h0:p=[47]
  .rw[if_pos h0];exact .inl rfl
  .rw[if_neg h0];cases hs:jJ p with
   |none=>exact .inr (.inl rfl)
   |some l =>
    dsimp only;by_cases hl:l.length=0\/12<l.length
    .rw[if_pos hl];exact .inr (.inl rfl)
    .rw[if_neg hl];exact .inr (.inr ⟨l,rfl,rfl,by omega⟩)
 rcases this with h|h|⟨l,h1,h2,h3⟩
 .rw[h];exact⟨λs hs=>(by cases hs),by simp,.inl rfl⟩
 .rw[h];exact⟨λs hs=>(by cases hs),by simp,.inr ⟨rfl,rfl⟩⟩
 .rw[h2];exact⟨λs hs=>Ys _ _ (bm _) l h1 s hs,h3,.inl rfl⟩
def N7:∀{l:List (List UInt8)},(∀s,s∈l->s.length<=32)->(ke l [47]).length<=33*l.length
 |[],_=>by simp[ke,RQ]
 |[a],h=>by rw[Io];have:=h a (by simp);simp;omega
 |a::b::l,h=>by
  have h1:=h a (by simp);have ih:=N7 (l:=b::l) λs hs=>h s (cw _ hs);rw[Im];simp only[cZ,bV,dF]at *;omega
def afa{l:List (List UInt8)}(h:∀s,s∈l->s.length<=32)(hl:l.length<=100000):Er l=V (gb l):=by
 refine ε.eq ?_;unfold Er gb;have:=N7 h;by_cases h0:l.length=0
 .rw[if_pos (show l.length=0 from h0)];exact ε.cond (by simp[h0]) (ε.ret rfl)
 .rw[if_neg (show ¬l.length=0 from h0)];exact ε.aV (by simpa using h0) (ε.χ ⟨by omega,by omega⟩ (ε.χ (by simp only[bV,dF];omega) (ε.ret rfl)))
def oT(p:List UInt8):List UInt8×List UInt8×Int:=match(fR p).1.getLast? with|some s=>(s,gb (fR p).1.dropLast,0)|none=>([],[],60)
def afb(p:List UInt8)(hp:p.length<=100000):Es p=V (oT p):=by
 refine ε.eq ?_;unfold Es oT;refine ε.af (Wv p hp) ?_;obtain⟨h1,h2,h3⟩:=zx (p:=p);generalize hx:fR p=x at *;obtain⟨l,e⟩:=x;dsimp only at h1 h2 h3 ⊢;cases l with
 |nil =>
  refine ε.bind (R:=(·=true)) (ε.bind (R:=(·=true)) (ε.ite (λ_=>ε.ret rfl) λ_=>ε.ret rfl) λv hv=>ε.ret hv) λv hv=>?_;rw[hv];exact ε.cond rfl (ε.ret rfl)
 |cons a r =>
  have he:e=0:=by
   rcases h3 with h|h
   .exact h
   .cases h.2
  subst he;refine ε.bind (R:=(·=false)) (ε.bind (R:=(·=false)) (ε.aV (by simp) (ε.ret (by rw[beq_eq_false_iff_ne];simp only[bV];omega))) λv hv=>ε.ret hv) λv hv=>?_;rw[hv]
  have M7:(a::r)[r.length]?=(a::r).getLast?:=by rw[List.getLast?_eq_getElem?];rfl
  have hs:(a::r).getLast?=V ((a::r).getLast (by simp)):=List.getLast?_eq_some_getLast (by simp)
  have hi:(((a::r).length:Int)-1)=((r.length:Nat):Int):=by simp only[bV];omega
  rw[hi,hs];refine ε.aV (by simp) (ε.χ (by unfold ae;simp only[bV]at h2;omega) (ε.af (aW (M7.trans hs)) (ε.χ (by simp only[bV];omega) ?_)))
  have ht:(a::r).take ((r.length:Nat):Int).toNat=(a::r).dropLast:=by rw[gv,List.dropLast_eq_take];rfl
  rw[ht];exact ε.af (afa (λs hs=>(wc (h1 s (List.dropLast_subset _ hs))).2.2) (by simp at h2 ⊢;omega)) (ε.ret rfl)
def N6{l:List (List UInt8)}(h:∀s,s∈l->dX s=true)(hl:l.length<=12):(gb l).length<=400:=by
 unfold gb;have:=N7 (l:=l) λs hs=>(wc (h s hs)).2.2;split
 .simp
 .simp only[cZ,bV,dF];omega
def iB(t:Γ):Int->List (List UInt8)->Int×Int
 |i,[]=>(i,0)
 |i,s::r=>if((bJ t i s).2 != 0)=true then(0,(bJ t i s).2)else iB t (bJ t i s).1 r
def nu(t:Γ)(p:List UInt8):Int×Int:=if((fR p).2 != 0)=true then(0,(fR p).2)else iB t 1 (fR p).1
def Ww{B:Nat}{t:Γ}(h:ST B t)(hB:B<=90000)(p:List UInt8)(hp:p.length<=100000):wN t p=V (nu t p):=by
 refine ε.eq ?_;unfold wN nu;refine ε.af (Wv p hp) (ε.mo (λ_=>ε.ret rfl) λ_=>?_);have hl:=(zx (p:=p)).2.1;generalize fR p=x at *;obtain⟨l,e⟩:=x;dsimp only at hl ⊢;unfold YQ
 have key:∀(r:List (List UInt8))(n:Nat)(i:Int),l.drop n=r->n<=l.length->loop (zz (l,e) t) (i,(n:Int))=V (iB t i r):=by
  intro r;induction r with
  |nil =>
   intro n i hd hn
   have:n=l.length:=by have:=congrArg List.length hd;simp at this;omega
   subst this;refine kJ ?_;unfold zz;simp[Kn,Cat.out,iB]
  |cons s r ih =>
   intro n i hd hn
   have Ξ:n<l.length:=by
    rcases fa n l.length with h|h
    .exact h
    .rw[kN h]at hd;cases hd
   rw[rO Ξ]at hd;injection hd with hx mg
   have hb:zz (l,e) t (i,(n:Int))=if((bJ t i s).2 != 0)=true then V (.inr (0,(bJ t i s).2))else V (.inl ((bJ t i s).1,((n+1:Nat):Int))):=by
    unfold zz
    have hd:decide ((n:Int)<(l.length:Int))=true:=by simpa using Ξ
    simp only[hd,if_true,aW (bD Ξ),hx,aS,OA h (by omega)];split
    .rfl
    .rw[dW (by unfold ae;omega)];rfl
   unfold iB;by_cases hc:((bJ t i s).2 != 0)=true
   .rw[if_pos hc]at hb ⊢;exact kJ hb
   .rw[if_neg hc]at hb ⊢;rw[ry hb];exact ih (n+1) _ mg Ξ
 exact⟨_,key l 0 1 rfl (iE _),rfl⟩
end
section
section
variable{α:Type}
def Eg(C:α->Option Bool)(l:List α)(s1:Int):Option (Int⊕Int):=if(decide (s1<(l.length:Int)))then(idx l s1).bind λx1=>(C x1).bind λx2=>if x2 then out (V s1)else χ (ae (s1+1)) (V (.inl ((s1+1))))else out (V (-1))
def VF{C:α->Option Bool}{p:α->Bool}{l:List α}(hC:∀x,x∈l->C x=V (p x))(hl:l.length<=1000000):loop (Eg C l) 0=V (oI (l.findIdx? p)):=by
 rw[v8 (b:=l) p (λn _=>(n:Int)) (-1)]
 .cases h:l.findIdx? p with
  |none=>rfl
  |some n=>obtain⟨x,hx,-⟩:=oF h;simp only[hx];rfl
 .intro n x hx Ξ;unfold Eg
  have hd:decide ((n:Int)<(l.length:Int))=true:=by simpa using Ξ
  simp only[hd,if_true,aW hx,aS,hC x (fz hx)];split
  .rfl
  .rw[dW (by unfold ae;omega)]
 .unfold Eg;simp[Cat.out]
def LH(C:α->Option Bool)(s1:Int×Int×List α):Option ((Int×Int×List α)⊕(Int×List α)):=if(decide (s1.2.1<(s1.2.2.length:Int)))then((idx s1.2.2 s1.2.1).bind λx2=>(C x2).bind λx3=>if(!x3)then(idx s1.2.2 s1.1).bind λ_=>χ (ae (s1.1+1)) (V (((s1.1+1),(s1.2.2.set s1.1.toNat x2))))else V ((s1.1,s1.2.2))).bind λv2=>χ (ae (s1.2.1+1)) (V (.inl ((v2.1,(s1.2.1+1),v2.2))))else out (V ((s1.1,s1.2.2)))
def agY{l:List α}{i:Nat}{x:α}(h:i<l.length):(l.set i x).take (i+1)=l.take i++[x]:=by
 rw[List.take_set,List.set_eq_take_append_cons_drop,if_pos (by simp;omega)];rw[alr,Nat.min_eq_left (by omega)];congr 1;rw[kN (by simp;omega)]
def abe{C:α->Option Bool}{p:α->Bool}{l:List α}(hC:∀x,x∈l->C x=V (p x))(hl:l.length<=1000000){k:Nat}(hk:k<l.length)(hb:l.take k=(l.take (k+1)).filter λx=>!p x):
  ε (loop (LH C) ((k:Int),(k:Int)+1,l)) (λr=>∃i:Nat,r.1=i/\i<=r.2.length/\r.2.take i=l.filter λx=>!p x):=by
 refine ε.loop (λs:Int×Int×List α=>∃i j:Nat,s.1=i/\s.2.1=j/\i<j/\j<=l.length/\s.2.2.length=l.length/\s.2.2.take i=(l.take j).filter (λx=>!p x)/\s.2.2.drop j=l.drop j) (λs=>l.length-s.2.1.toNat) ?_ _ ⟨k,k+1,rfl,rfl,by omega,by omega,rfl,hb,rfl⟩;rintro⟨s0,s1,s⟩ ⟨i,j,e1,e2,eX,hj,hlen,ht,hd⟩;dsimp only at e1 e2 hlen ht hd;subst e1;subst e2;unfold LH;dsimp only;by_cases Ξ:j<l.length
 .have hx:s[j]?=l[j]?:=by
   have:=congrArg (λr=>r[0]?) hd;simpa using this
  have UM:l[j]?=V l[j]:=bD Ξ;rw[UM]at hx
  have xW:s.drop (j+1)=l.drop (j+1):=by
   have:=congrArg (List.drop 1) hd;simpa using this
  have H9:l.take (j+1)=l.take j++[l[j]]:=by rw[s7,UM];rfl
  refine ε.cond (by simp;omega) (ε.bind (R:=λv:Int×List α=>∃i':Nat,v.1=(i':Int)/\i'<=j+1/\i'<j+1/\v.2.length=l.length/\v.2.take i'=(l.take (j+1)).filter (λx=>!p x)/\v.2.drop (j+1)=l.drop (j+1)) (ε.af (aW hx) (ε.af (hC _ (eA Ξ)) ?_)) λv hv=>?_)
  .refine ε.ite (λhp=>?_) λhp=>ε.ret ⟨i,rfl,by omega,by omega,hlen,?_,xW⟩
   .have hi:i<s.length:=by omega
    refine ε.af (aW (bD hi)) (ε.χ (by unfold ae;omega) (ε.ret ⟨i+1,by dsimp only;omega,by omega,by omega,by simp[hlen],?_,?_⟩))
    .dsimp only;rw[gv,agY hi,ht,H9,lD,eL,if_pos hp];rfl
    .dsimp only;rw[gv,List.drop_set_of_lt (by omega)];exact xW
   .rw[ht,H9,lD,eL,if_neg hp];simp
  .obtain⟨i',h1,h2,h3,h4,h5,h6⟩:=hv;exact ε.χ (by unfold ae;omega) (ε.inl ⟨⟨i',j+1,h1,by dsimp only;omega,h3,Ξ,h4,h5,h6⟩,by dsimp only;omega⟩)
 .have:j=l.length:=by omega
  subst this;refine ε.aV (by simp[hlen]) (ε.out (ε.ret ⟨i,rfl,by dsimp only;omega,?_⟩));dsimp only;rw[ht,gl]
def SX{C:α->Option Bool}{p:α->Bool}{l:List α}{z:α}(hC:∀x,x∈l->C x=V (p x))(hl:l.length<=1000000):
  ((loop (Eg C l) 0).bind λx1=>if(x1==(-1))then V l else(χ (ae (x1+1)) (loop (LH C) ((x1,(x1+1),l)))).bind λv1=>χ ((0:Int)<=v1.1/\v1.1<=(v1.2.length:Int)) (χ ((0:Int)<=v1.1/\v1.1<=(((v1.2.take (v1.1.toNat)++ia (v1.2.length-(v1.1.toNat)) z)).length:Int)) (V ((((v1.2.take (v1.1.toNat)++ia (v1.2.length-(v1.1.toNat)) z)).take v1.1.toNat)))))=V (l.filter λx=>!p x):=by
 refine ε.eq ?_;refine ε.af (VF hC hl) ?_;cases h:l.findIdx? p with
 |none =>
  refine ε.cond (by rfl) (ε.ret ?_);rw[uI]at h;symm;rw[ot];intro x hx;simp[h x hx]
 |some k =>
  rw[KN]at h;obtain⟨hk,DR,lh⟩:=h;show ε (if((k:Int) == -1)=true then _ else _) _;refine ε.aV (by simp) (ε.bind (ε.χ (by show ae ((k:Int)+1);unfold ae;omega) (abe hC hl hk ?_)) λv hv=>?_)
  .have gB:l.take (k+1)=l.take k++[l[k]]:=by rw[s7,bD hk];rfl
   rw[gB,lD,eL,if_neg (by simp[DR])];simp only[List.filter_nil,qH];symm;rw[ot];intro x hx;obtain⟨j,hj⟩:=Iz hx;rw[fS]at hj;by_cases rb:j<k
   .rw[if_pos rb]at hj;obtain⟨h1,rfl⟩:=eZ.1 hj;have:=lh j rb;simpa using this
   .rw[if_neg rb]at hj;cases hj
  .obtain⟨i,h1,h2,h3⟩:=hv;rw[h1,gv];refine ε.χ ⟨by omega,by omega⟩ (ε.χ ⟨by omega,by simp;omega⟩ (ε.ret ?_));rw[<-h3,aab (by simp;omega),alr,Nat.min_self]
end
def HL(l:List bg)(i:Int):Bool:=l.any λh=>h.κ==i
def afp(l:List bg)(i:Int)(hl:l.length<=1000000):FL l i=V (HL l i):=by
 have h:=VF (C:=λx=>Df x i) (p:=λh=>h.κ==i) (l:=l) (λx _=>rfl) hl;unfold FL;show((loop (Eg (λx=>Df x i) l) 0).bind _)=_;rw[h,aS,Ov];rfl
def ur(n:τ):Bool:=n.θ==1&&n.a_==0
def afx(n:τ):DO n=V (ur n):=by
 unfold DO ur;cases n.θ==1<;>rfl
def afe{t:Γ}(hl:t.η.length<=1000000):AY t=V ((t.η.filter ur).map (·.κ)):=by
 have:Nj t (0,[])=V ((t.η.filter ur).map (·.κ)):=by
  unfold Nj;refine ε.eq ?_;refine ε.loop (λs:Int×List Int=>∃n:Nat,s.1=n/\n<=t.η.length/\s.2=((t.η.take n).filter ur).map (·.κ)) (λs=>t.η.length-s.1.toNat) ?_ _ ⟨0,rfl,by omega,rfl⟩;rintro⟨s0,o⟩ ⟨n,e1,hn,e2⟩;dsimp only at e1 e2;subst e1;subst e2;unfold HX;dsimp only;by_cases Ξ:n<t.η.length
  .have hx:=bD Ξ
   have gB:t.η.take (n+1)=t.η.take n++[t.η[n]]:=by rw[s7,hx];rfl
   have hle:(((t.η.take n).filter ur).map (·.κ)).length<=n:=by
    rw[au];exact dZ (j2 _ _) (by simp;omega)
   refine ε.cond (by simpa using Ξ) (ε.bind (R:=(·=((t.η.take (n+1)).filter ur).map (·.κ))) (ε.af (aW hx) (ε.af (afx _) (ε.ite (λh=>ε.χ (by simp only[bV,dF];omega) (ε.ret ?_)) λh=>ε.ret ?_))) λv hv=>ε.χ (by unfold ae;omega) (ε.inl ⟨⟨n+1,by dsimp only;omega,Ξ,hv⟩,by dsimp only;omega⟩))
   .rw[gB,lD,bO,eL,if_pos h];rfl
   .rw[gB,lD,bO,eL,if_neg h];simp
  .have:n=t.η.length:=by omega
   subst this;exact ε.aV (by simp) (ε.out (ε.ret (by rw[gl])))
 unfold AY;rw[this];rfl
def aaR{l:List aJ}(hl:l.length<=1000000):J6 l=V l:=Af (by omega)
end
section
section
variable{t:Γ}
def PO(t:Γ)(q:List (List UInt8))(n:τ):Prop:=(∀s,s∈q->dX s=true)/\iB t 1 q=(n.κ,0)/\gN t.η n.κ=V n
def KB(s:List UInt8):∀(q:List (List UInt8))(i:Int),iB t i (q++[s])=if((iB t i q).2 != 0)=true then iB t i q else if((bJ t (iB t i q).1 s).2 != 0)=true then(0,(bJ t (iB t i q).1 s).2)else((bJ t (iB t i q).1 s).1,0)
 |[],i=>by
  show iB t i [s]=_;unfold iB iB;rw[if_neg (show ¬(((i,(0:Int)):Int×Int).2 != 0)=true by simp)]
 |a::q,i=>by
  have ih:=KB s q (bJ t i a).1;show iB t i (a::(q++[s]))=_;have e:∀r,iB t i (a::r)=if((bJ t i a).2 != 0)=true then(0,(bJ t i a).2)else iB t (bJ t i a).1 r:=λr=>rfl;rw[e,e];by_cases h:((bJ t i a).2 != 0)=true
  .simp only[if_pos h]
  .simp only[if_neg h];exact ih
def L1{c:Int}{l:List aH}(h:tg c l){e:aH}(he:e∈l):l.find? (λx=>x.aC==e.aC)=V e:=by
 have hs:=h.s;clear h;induction l with
 |nil=>cases he
 |cons x l ih =>
  obtain⟨h1,h2⟩:=e9.1 hs;rw[KM]
  rcases bp.1 he with rfl|eN
  .simp
  .have:(x.aC==e.aC)=false:=by
    rw[beq_eq_false_iff_ne];intro hx;have:=h1 e eN;rw[hx,rV]at this;cases this
   rw[this];exact ih eN h2
def RT.look(h:RT t){n:τ}(hn:gN t.η n.κ=V n)(hk:n.θ=2){e:aH}(he:e∈n.ψ):bJ t n.κ e.aC=(e.κ,0):=by
 have hd:dj t.η n.κ=(n,0):=by
  unfold dj;rw[eE hn,hn];simp[hk]
 have ho:=h.en n (bz hn).1;unfold bJ;rw[hd];dsimp only;rw[if_neg (by simp),if_neg (by rw[(ho.r e he).1];simp),L1 ho he]
def RT.Bd(h:RT t){n:τ}(hn:n∈t.η){e:aH}(he:e∈n.ψ):n.θ=2:=by
 rcases h.nd n hn with g|g
 .rw[g.2.1]at he;cases he
 .exact g.1
def PO.step(h:RT t){q:List (List UInt8)}{n:τ}(hp:PO t q n){e:aH}(he:e∈n.ψ):∃m,PO t (q++[e.aC]) m/\m.κ=e.κ:=by
 obtain⟨h1,h2,h3⟩:=hp;have hk:=h.Bd (bz h3).1 he;obtain⟨m,hm⟩:=kv.1 (h.cl n (bz h3).1 e he);have lj:=(bz hm).2;refine⟨m,⟨λs hs=>?_,?_,by rw[lj];exact hm⟩,lj⟩
 .rcases ep.1 hs with hs|hs
  .exact h1 s hs
  .rw[cV.1 hs];exact((h.en n (bz h3).1).r e he).1
 .rw[KB,h2,if_neg (by simp)];dsimp only;rw[h.look h3 hk he,if_neg (by simp),lj]
def PO.inv{q:List (List UInt8)}{s:List UInt8}{m:τ}(hp:PO t (q++[s]) m):∃n e,PO t q n/\n.θ=2/\e∈n.ψ/\e.aC=s/\e.κ=m.κ:=by
 obtain⟨h1,h2,h3⟩:=hp;rw[KB]at h2;by_cases c1:((iB t 1 q).2 != 0)=true
 .rw[if_pos c1]at h2;rw[h2]at c1;exact absurd c1 (by simp)
 rw[if_neg c1]at h2;by_cases c2:((bJ t (iB t 1 q).1 s).2 != 0)=true
 .rw[if_pos c2]at h2;injection h2 with _ h2;rw[h2]at c2;exact absurd c2 (by simp)
 rw[if_neg c2]at h2;injection h2 with h2 _;obtain⟨n,e,g1,g2,g3,g4,g5,g6⟩:=look_ok (mb c2);have hi:=(bz g1).2;refine⟨n,e,⟨λx hx=>h1 x (nC _ hx),?_,by rw[hi];exact g1⟩,g2,lE g5,by simpa using RM g5,by rw[<-g6,h2]⟩;have:=mb c1;exact Prod.ext hi.symm this
def PO.mem{q:List (List UInt8)}{n:τ}(h:PO t q n):n∈t.η:=(bz h.2.2).1
def BY{α:Type}{P:List α->Prop}(h0:P [])(h1:∀q s,P q->P (q++[s]))(q:List α):P q:=by
 have:∀n(q:List α),q.length=n->P q:=by
  intro n;induction n with
  |zero=>intro q hq;rw[qJ.1 hq];exact h0
  |succ n ih =>
   intro q hq
   have aI:q≠[]:=by intro e;rw[e]at hq;cases hq
   rw[<-RJ aI];exact h1 _ _ (ih _ (by rw[Z9];omega))
 exact this _ q rfl
def aaJ{l:List τ}{n:τ}(hn:n∈l)(i:Int):cE n.ψ i<=di l i:=by
 induction l with
 |nil=>cases hn
 |cons x l ih =>
  rw[vh]
  rcases bp.1 hn with rfl|hn
  .omega
  .have:=ih hn;omega
def Wo{α:Type}{p:α->Bool}{a b:α}:∀{l:List α},l.countP p<=1->a∈l->b∈l->p a=true->p b=true->a=b
 |[],_,h,_,_,_=>by cases h
 |x::l,h,ha,hb,pa,pb=>by
  rw[zP]at h
  rcases bp.1 ha with rfl|pE<;>rcases bp.1 hb with rfl|aN
  .rfl
  .rw[if_pos pa]at h;have:=RI.2 ⟨b,aN,pb⟩;omega
  .rw[if_pos pb]at h;have:=RI.2 ⟨a,pE,pa⟩;omega
  .exact Wo (by omega) pE aN pa pb
def RT.aaS(h:RT t){n:τ}(hn:n∈t.η)(hk:n.θ=2):di t.η n.κ<=1:=by
 rcases h.dir hn hk with g|g
 .rw[g.1,g.2.2.2.1];omega
 .have:=g.2.1;omega
def PO.uniq(h:RT t)(q:List (List UInt8)):∀{q':List (List UInt8)}{n:τ},n.θ=2->PO t q n->PO t q' n->q=q':=by
 have Wc:∀{n:τ},PO t [] n->∀r s,¬PO t (r++[s]) n:=λ{n}hn r s hr=>by
  obtain⟨p,e,g1,g2,g3,g4,g5⟩:=hr.inv
  have e1:n.κ=1:=by have:=hn.2.1;injection this with this _;exact this.symm
  exact W.we h g1.mem g3 (g5.trans e1)
 have jJ:∀q':List (List UInt8),q'=[]\/∃r s,q'=r++[s]:=λq'=>by
  by_cases aI:q'=[]
  .exact .inl aI
  .exact .inr ⟨_,_,(RJ aI).symm⟩
 induction q using BY with
 |h0 =>
  intro q' n hk h1 h2
  rcases jJ q' with rfl|⟨r,s,rfl⟩
  .rfl
  .exact absurd h2 (Wc h1 r s)
 |h1 r s ih =>
  intro q' n hk h1 h2
  rcases jJ q' with rfl|⟨r',s',rfl⟩
  .exact absurd h1 (Wc h2 r s)
  .obtain⟨p,e,g1,g2,g3,g4,g5⟩:=h1.inv;obtain⟨p',e',k1,k2,k3,k4,k5⟩:=h2.inv;have u1:=W.parent h g1.mem g3 (q:=n) (by rw[g5];exact h1.2.2) hk;have u2:=W.parent h k1.mem k3 (q:=n) (by rw[k5];exact h1.2.2) hk
   have H4:p=p':=by
    have:=g1.2.2;rw[<-u1,u2,k1.2.2]at this;exact(iP this).symm
   subst H4;have hc:=h.aaS h1.mem hk;have he:e=e':=Wo (p:=λe:aH=>e.κ==n.κ) (dZ (aaJ g1.mem n.κ) hc) g3 k3 (by simpa using g5) (by simpa using k5);subst he;rw[ih g2 g1 k1,<-g4,<-k4]
def PO.ex(h:RT t):∀{i:Int}{d:Nat},Deep t.η i d->∀{n:τ},gN t.η i=V n->n.θ=2->∃q,PO t q n:=by
 intro i d hd;induction hd with
 |root=>intro n hn hk;exact⟨[],λs hs=>(by cases hs),by rw[(bz hn).2];rfl,by rw[(bz hn).2];exact hn⟩
 |step h1 h2 h3 h4 ih =>
  intro n hn hk;rw[hn]at h2;cases h2;have hm:=bz hn
  rcases h.dir hm.1 hk with g|g
  .exact absurd (g.1.symm.trans hm.2).symm h1
  .obtain⟨p,hp,e,he,oM⟩:=g.2.2.2 rfl;obtain⟨q,hq⟩:=ih hp (h.Bd (bz hp).1 he);obtain⟨m,k1,k2⟩:=hq.step h he;refine⟨q++[e.aC],?_⟩;have e:=k1.2.2;rw[k2,oM,hm.2,hn]at e;rw[iP e];exact k1
def PO.deep(h:RT t)(q:List (List UInt8)):∀{n:τ},n.θ=2->PO t q n->Deep t.η n.κ q.length:=by
 induction q using BY with
 |h0 =>
  intro n hk hn
  have e1:n.κ=1:=by have:=hn.2.1;injection this with this _;exact this.symm
  rw[e1];exact .root
 |h1 r s ih =>
  intro n hk hn;obtain⟨p,e,g1,g2,g3,g4,g5⟩:=hn.inv;have u1:=W.parent h g1.mem g3 (q:=n) (by rw[g5];exact hn.2.2) hk;rw[cZ];exact .step (λe1=>W.we h g1.mem g3 (g5.trans e1)) hn.2.2 hk (by rw[u1];exact ih g2 g1)
def PO.len(h:RT t){q:List (List UInt8)}{n:τ}(hn:PO t q n):q.length<=12:=by
 by_cases aI:q=[]
 .rw[aI];exact iE _
 .rw[<-RJ aI]at hn;obtain⟨p,e,g1,g2,g3,g4,g5⟩:=hn.inv;obtain⟨d,d1,d2,d3⟩:=h.dp p g1.mem g2;have:=d1.uniq (PO.deep h _ g2 g1)
  have:d≠12:=λS9=>by rw[d3 S9]at g3;cases g3
  rw[Z9]at *;omega
def OS{l r:List Int}(h:l.Perm r):l.sum=r.sum:=by
 induction h with
 |nil=>rfl
 |cons x _ ih=>rw[pc,pc,ih]
 |swap x y l=>simp only[pc];omega
 |trans _ _ h1 h2=>rw[h1,h2]
def lu(t:Γ)(q:List (List UInt8)):τ:=gD t.η (iB t 1 q).1
def PO.oV{q:List (List UInt8)}{n:τ}(h:PO t q n):lu t q=n:=by unfold lu;rw[h.2.1];exact eE h.2.2
def nH(n:τ):Int:=(n.ψ.length:Int)
def Th(n:τ):Int:=(n.ψ.map (·.κ)).sum
structure BF(t:Γ)(i:Nat)(A:List (List (List UInt8))):Prop where
 le:i<=A.length
 nd:A.Nodup
 rt:[]∈A
 po:∀q,q∈A->∃n,PO t q n
 pr:∀q s,q++[s]∈A->q∈A.take i
 cl:∀q,q∈A.take i->∀e,e∈(lu t q).ψ->q++[e.aC]∈A
 ct:(A.length:Int)=1+((A.take i).map λq=>nH (lu t q)).sum
 sm:(A.map λq=>(lu t q).κ).sum=1+((A.take i).map λq=>Th (lu t q)).sum
def BF0(h:RT t):BF t 0 [[]]:=by
 obtain⟨r,h1,h2⟩:=h.rt;have hp:PO t [] r:=⟨λs hs=>(by cases hs),by rw[(bz h1).2];rfl,by rw[(bz h1).2];exact h1⟩;refine⟨iE _,by simp,by simp,λq hq=>⟨r,by rw[cV.1 hq];exact hp⟩,λq s hq=>?_,λq hq=>(by cases hq),by simp,?_⟩
 .simp at hq
 .simp only[fT,RV,pc,RZ,List.take_zero];rw[hp.oV,(bz h1).2]
def BF.step(h:RT t){i:Nat}{A:List (List (List UInt8))}(hb:BF t i A){q:List (List UInt8)}(hq:A[i]?=V q){L:List (List UInt8)}(hL:L.Perm ((lu t q).ψ.map (·.aC))):BF t (i+1) (A++L.map λs=>q++[s]):=by
 have Ξ:=(eZ.1 hq).1
 have gB:(A++L.map λs=>q++[s]).take (i+1)=A.take i++[q]:=by
  rw[aab (by omega),h_ hq]
 obtain⟨n,hn⟩:=hb.po q (fz hq);rw[hn.oV]at hL
 have bn:∀s,s∈L↔∃e,e∈n.ψ/\e.aC=s:=λs=>by rw[hL.mem_iff,cL]
 have acP:A=A.take i++q::A.drop (i+1):=by rw[<-drop_cons hq,qL]
 have hnq:q∉A.take i:=by
  have:=hb.nd;rw[acP,RY]at this;intro hc;exact this.2.2 q hc q (by simp) rfl
 have inj:∀{a b:List UInt8},q++[a]=q++[b]->a=b:=λ{a b}e=>by
  have:=List.append_cancel_left e;injection this
 refine⟨by simp;omega,?_,nC _ hb.rt,λr hr=>?_,λr s hr=>?_,λr hr e he=>?_,?_,?_⟩
 .rw[RY];refine⟨hb.nd,?_,λa ha b aN e=>?_⟩
  .refine zR.2 ?_;have Nd:(n.ψ.map (·.aC)).Nodup:=zR.2 ((h.en n hn.mem).s.imp λ{a b}fY e=>by rw[e,rV]at fY;cases fY);exact((hL.nodup_iff).2 Nd).imp λfY e=>fY (inj e)
  .obtain⟨s,hs,rfl⟩:=cL.1 aN;exact hnq (hb.pr q s (e▸ha))
 .rcases ep.1 hr with hr|hr
  .exact hb.po r hr
  .obtain⟨s,hs,rfl⟩:=cL.1 hr;obtain⟨e,he,rfl⟩:=(bn s).1 hs;obtain⟨m,hm,-⟩:=hn.step h he;exact⟨m,hm⟩
 .rw[gB]
  rcases ep.1 hr with hr|hr
  .exact nC _ (hb.pr r s hr)
  .obtain⟨s',hs,e⟩:=cL.1 hr;have:q=r:=(List.append_inj_left' e rfl);rw[this];simp
 .rw[gB]at hr
  rcases ep.1 hr with hr|hr
  .exact nC _ (hb.cl r hr e he)
  .obtain rfl:=cV.1 hr;rw[hn.oV]at he;exact List.mem_append_right _ (cL.2 ⟨_,(bn _).2 ⟨e,he,rfl⟩,rfl⟩)
 .rw[gB,bO,KS,cZ,au,hL.length_eq,au];have:=hb.ct;simp only[fT,RV,pc,RZ,hn.oV];have e1:nH n=(n.ψ.length:Int):=rfl;omega
 .rw[gB,bO,bO,KS,KS,hb.sm];simp only[fT,RV,pc,RZ,hn.oV,w9]
  have:(L.map ((λq=>(lu t q).κ) ∘ λs=>q++[s])).Perm (n.ψ.map (·.κ)):=by
   refine(hL.map _).trans ?_;rw[w9];refine List.Perm.of_eq (List.map_congr_left λe he=>?_);obtain⟨m,hm,lj⟩:=hn.step h he;show(lu t (q++[e.aC])).κ=e.κ;rw[hm.oV,lj]
  rw[OS this];unfold Th;omega
def BF.all(h:RT t){A:List (List (List UInt8))}(hb:BF t A.length A)(q:List (List UInt8)):∀{n:τ},PO t q n->q∈A:=by
 induction q using BY with
 |h0=>intro n _;exact hb.rt
 |h1 r s ih =>
  intro n hn;obtain⟨p,e,g1,g2,g3,g4,g5⟩:=hn.inv;rw[<-g4];exact hb.cl r (by rw[gl];exact ih g1) e (by rw[g1.oV];exact g3)
def FW{α:Type}(f:α->Int)(p:α->Bool):∀l:List α,(∀x,x∈l->p x=false->f x=0)->((l.filter p).map f).sum=(l.map f).sum
 |[],_=>rfl
 |x::l,h=>by
  have ih:=FW f p l λy hy=>h y (cw _ hy);rw[eL,fT,pc];cases hx:p x with
  |true=>rw[if_pos rfl,fT,pc,ih]
  |false=>rw[if_neg (by simp),ih,h x (by simp) hx];omega
def QN(h:RT t){Q:List (List (List UInt8))}(cz:Q.Nodup)(hp:∀q,q∈Q->∃n,PO t q n):((Q.map (lu t)).filter λn=>n.θ==2).Nodup/\∀q,q∈Q->lu t q∈t.η:=by
 refine⟨?_,λq hq=>by
  obtain⟨n,hn⟩:=hp q hq
  rw[hn.oV];exact hn.mem⟩
 rw[List.filter_map];refine zR.2 ((cz.filter _).imp_of_mem λ{a b}ha aN fY e=>fY ?_);obtain⟨Dw,ha2⟩:=dK.1 ha;obtain⟨cR,me⟩:=dK.1 aN;obtain⟨m,hm⟩:=hp a Dw;obtain⟨m',bN⟩:=hp b cR
 have k2:(lu t a).θ=2:=by simpa using ha2
 rw[hm.oV,bN.oV]at e;rw[hm.oV]at k2;subst e;exact PO.uniq h a k2 hm bN
def RT.We(h:RT t):(t.η.filter λn=>n.θ==2).Nodup:=w7 _ (h.s.imp λ{a b}fY e=>by rw[e]at fY;omega)
def RT.zero(h:RT t){f:τ->Int}(hf:∀n,n.ψ=[]->f n=0):∀n,n∈t.η->(n.θ==2)=false->f n=0:=λn hn hk=>hf n (by
 rcases h.nd n hn with g|g
 .exact g.2.1
 .rw[g.1]at hk;cases hk)
def BF.sum(h:RT t){A:List (List (List UInt8))}(hb:BF t A.length A)(f:τ->Int)(hf:∀n,n.ψ=[]->f n=0):(A.map λq=>f (lu t q)).sum=(t.η.map f).sum:=by
 have hz:=h.zero hf;obtain⟨hD,hN⟩:=QN h hb.nd hb.po
 have e1:(A.map λq=>f (lu t q))=(A.map (lu t)).map f:=by rw[w9];rfl
 rw[e1,<-FW f (λn=>n.θ==2) (A.map (lu t)) (λn hn hk=>by obtain⟨q,hq,rfl⟩:=cL.1 hn;exact hz _ (hN q hq) hk),<-FW f (λn=>n.θ==2) t.η hz];refine OS (List.Perm.map _ ((Gv hD h.We).2 λn=>?_));rw[dK,dK,cL];constructor
 .rintro ⟨⟨q,hq,rfl⟩,hk⟩;exact⟨hN q hq,hk⟩
 .rintro ⟨hn,hk⟩
  have k2:n.θ=2:=by simpa using hk
  obtain⟨d,hd,-⟩:=h.dp n hn k2;obtain⟨q,hq⟩:=PO.ex h hd (pD h.s hn) k2;exact⟨⟨q,hb.all h q hq,hq.oV⟩,hk⟩
def YH{α:Type}{f:α->Int}(hf:∀x,0<=f x):∀l:List α,0<=(l.map f).sum
 |[]=>o8 _
 |x::l=>by have:=hf x;have:=YH hf l;simp only[fT,pc];omega
open Classical in
def ahx{α:Type}{f:α->Int}(hf:∀x,0<=f x){D N:List α}(hD:D.Nodup)(hN:N.Nodup)(hs:∀n,n∈D->n∈N):(D.map f).sum<=(N.map f).sum:=by
 have:(D++N.filter λn=>decide (n∉D)).Perm N:=by
  refine(Gv ?_ hN).2 λn=>?_
  .rw[RY];refine⟨hD,w7 _ hN,λa ha b hb e=>?_⟩;have:=(dK.1 hb).2;simp only[decide_eq_true_eq]at this;exact this (e▸ha)
  .rw[ep,dK,decide_eq_true_eq];constructor
   .rintro (h|h)
    .exact hs n h
    .exact h.1
   .intro h;by_cases hd:n∈D
    .exact .inl hd
    .exact .inr ⟨h,hd⟩
 rw[<-OS (this.map f),bO,KS];have:=YH hf (N.filter λn=>decide (n∉D));omega
def BF.up(h:RT t){i:Nat}{A:List (List (List UInt8))}(hb:BF t i A):(A.length:Int)<=1+(t.η.map nH).sum:=by
 have hf:∀n:τ,n.ψ=[]->nH n=0:=λn hn=>by unfold nH;rw[hn];rfl
 have hz:=h.zero hf;obtain⟨hD,hN⟩:=QN h (Q:=A.take i) (hb.nd.sublist (List.take_sublist _ _)) λq hq=>hb.po q (List.mem_of_mem_take hq)
 have e1:((A.take i).map λq=>nH (lu t q))=((A.take i).map (lu t)).map nH:=by rw[w9];rfl
 have:=hb.ct;rw[e1,<-FW nH (λn=>n.θ==2) ((A.take i).map (lu t)) (λn hn hk=>by obtain⟨q,hq,rfl⟩:=cL.1 hn;exact hz _ (hN q hq) hk)]at this;have h2:=FW nH (λn=>n.θ==2) t.η hz
 have h3:=ahx (f:=nH) (λn=>by unfold nH;omega) hD h.We λn hn=>by
  obtain⟨h1,h2⟩:=dK.1 hn;obtain⟨q,hq,rfl⟩:=cL.1 h1;exact dK.2 ⟨hN q hq,h2⟩
 omega
def RT.aer(h:RT t){n:τ}(hn:n∈t.η):n.a_=(di t.η n.κ:Int):=by
 rcases h.nd n hn with g|⟨-,-,g|g⟩
 .have:=g.2.2.2.2;dsimp only at this;omega
 .rw[g.1,g.2.2.2.1];exact g.2.2.1
 .have:=g.2.1;have:=g.2.2.1;dsimp only at *;omega
end
end
end Go.Proofs
