/- The walks of this seat beside the plain programs, part 10. No condition. -/
import Derived.Test.YtdcgbodbejgliaaGreatDoorXTopThereAndBackWk9
open Option renaming some->V
open List renaming length_map->au,map_append->bO
open Or renaming inl->ah,inr->fJ
namespace Go.Proofs
set_option linter.all false
open Go Go.Cat Tryz
variable[M:cD][K:LK]
set_option maxRecDepth 100000
set_option maxHeartbeats 4000000
def aiF{c d r}(h:Fc c d=V r):Pure prog 53 [.a (b1 c),vi d] (.t [.a (b1 r.1),vi r.2]):=by
 refine pq tok 76 func53 ?_;unfold Fc at h;have⟨v1,ν,h⟩:=ι h;refine sg (sg (fJ (Ok.aD ⟨Ψ [(2,.b 2 0),(4,.b 4 0),(6,.o 10)],[(2,.box (b1 c)),(4,.box (k3 0 0 0 0)),(10,.own 105 3 (mE v1))]⟩ ?_ ?_)))
 .refine sg (bl (Ok.loop (λ(s1:Int×(List cG))=>⟨Ψ [(1,vi d),(2,.b 2 0),(4,.b 4 0),(6,.o 10),(7,vi s1.1)],[(2,.box (b1 c)),(4,.box (k3 0 0 0 0)),(10,.own 105 3 (mE s1.2))]⟩) (Fe c d) (s0:=(0,([]:List cG))) ν (wt Q5 ⟨hr,hr,hr,Q0⟩ rfl) ?_));intro s1 y1 ζ aB;unfold Fe at ζ;refine sq (sg ⟨_,rfl,_,au _,λ_=>ct ζ (λhb ζ=>?_) λhb ζ=>?_⟩)
  .have⟨v2,Φ,ζ⟩:=ι ζ;refine sk (Ok.aD ⟨Ψ [(1,vi d),(2,.b 2 0),(4,.b 4 0),(6,.o 10),(7,vi s1.1)],[(2,.box (b1 c)),(4,.box (k3 0 0 0 0)),(10,.own 105 3 (mE v2))]⟩ ?_ ?_)
   .have⟨x1,Θ,Φ⟩:=ι Φ;refine bl (sg ⟨_,rfl,_,aO Θ,_,aP Θ,_,rfl,ct Φ (λhb Φ=>?_) λhb Φ=>?_⟩)
    .have⟨x2,ar,Φ⟩:=ι Φ;have⟨aj,Φ⟩:=aq Φ;refine rg ⟨_,rfl,_,aO ar,_,aP ar,_,rfl,ah ⟨c_ (f:=rX) (n:=3) (λ_=>rfl) ([x2]),c8 (f:=rX) (l:=s1.2) (l':=[x2]) aj,_,(bO (f:=rX) (l₁:=s1.2) (l₂:=[x2])).symm,?_⟩⟩;cases Φ;exact wt Q5 J3 rfl
    refine sk ?_;cases Φ;exact wt Q5 J3 rfl
   have⟨aX,ζ⟩:=aq ζ;exact rg (ah ⟨aX,_,sj ζ,wt Q5 J3 rfl⟩)
  refine xt ?_;have ζ:=aT ζ aB;cases ζ;exact wt Q3 J3 rfl
 refine sq (sg ⟨_,au _,λ_=>⟨_,rfl,_,au _,λ_=>ct h (λhb h=>?_) λhb h=>?_⟩⟩)
 .cases h;exact sg ⟨_,rfl,_,rfl,rt ⟨_,rfl,Fz.t fq⟩⟩
 have⟨v3,aA,h⟩:=ι h;refine sk (sg (fJ (Ok.aD ⟨Ψ [(2,.b 2 0),(4,.b 4 0),(6,.o 10),(8,.o 41)],[(2,.box (b1 c)),(4,.box (k3 0 0 0 0)),(10,.own 105 3 (mE v1)),(41,.own 98 8 (mD v3))]⟩ ?_ ?_)))
 .refine sg (bl (Ok.loop (λ(s2:Int×(List cq))=>⟨Ψ [(2,.b 2 0),(4,.b 4 0),(6,.o 10),(8,.o 41),(9,vi s2.1)],[(2,.box (b1 c)),(4,.box (k3 0 0 0 0)),(10,.own 105 3 (mE v1)),(41,.own 98 8 (mD s2.2))]⟩) (Ff c v1) (s0:=(0,([]:List cq))) aA (wt Q5 ⟨hr,hr,hr,hr,Q0⟩ rfl) ?_));intro s2 y2 av eP;unfold Ff at av;refine sq (sg ⟨_,rfl,_,au _,λ_=>ct av (λhb av=>?_) λhb av=>?_⟩)
  .have⟨v4,aU,av⟩:=ι av;refine sk (Ok.aD ⟨Ψ [(2,.b 2 0),(4,.b 4 0),(6,.o 10),(8,.o 41),(9,vi s2.1)],[(2,.box (b1 c)),(4,.box (k3 0 0 0 0)),(10,.own 105 3 (mE v1)),(41,.own 98 8 (mD v4))]⟩ ?_ ?_)
   .have⟨x3,aL,aU⟩:=ι aU;have⟨x4,aZ,aU⟩:=ι aU;have⟨x5,bT,aU⟩:=ι aU;refine bl (sq (dw 14 tok mixed ⟨_,rfl,_,rfl,_,⟨_,rfl,rfl⟩,_,rfl,_,⟨_,aO aL,_,aP aL,rfl⟩,_,rfl,_,⟨_,rfl,rfl⟩,_,rfl,_,⟨_,rfl,rfl⟩,_,rfl,_,⟨_,aO aZ,_,aP aZ,rfl⟩,_,rfl,_,⟨_,rfl,rfl⟩,_,⟨_,.borrow (Zg bT) (.cons (Fz.o rfl) fq) rfl,rfl⟩,Q0,ct aU (λhb aU=>?_) λhb aU=>?_⟩))
    .have⟨x6,dg,aU⟩:=ι aU;have⟨bY,aU⟩:=aq aU;refine rg ⟨_,rfl,_,aO dg,_,aP dg,_,rfl,ah ⟨c_ (f:=mQ) (n:=8) (λ_=>rfl) ([x6]),c8 (f:=mQ) (l:=s2.2) (l':=[x6]) bY,_,(bO (f:=mQ) (l₁:=s2.2) (l₂:=[x6])).symm,?_⟩⟩;cases aU;exact wt Q5 J4 rfl
    refine sk ?_;cases aU;exact wt Q5 J4 rfl
   have⟨dL,av⟩:=aq av;exact rg (ah ⟨dL,_,sj av,wt Q5 J4 rfl⟩)
  refine xt ?_;have av:=aT av eP;cases av;exact wt Q4 J4 rfl
 cases h;exact sg ⟨_,rfl,sg ⟨_,rfl,sg ⟨_,rfl,_,rfl,rt ⟨_,rfl,Fz.t (.cons (Fz.a (.cons Fz.s (.cons Fz.v (.cons Fz.v (.cons Fz.v (.cons Fz.s (.cons (Fz.o rfl) (.cons (Fz.o rfl) fq)))))))) fq)⟩⟩⟩⟩
def aiw{c e d r}(h:E1 c e d=V r):Pure prog 54 [.a (b0 c),.s (mF e),vi d] (.t [.a (b0 r.1),.s (mF r.2)]):=by
 refine pq tok 29 func54 ?_;unfold E1 at h;have⟨v1,ν,h⟩:=ι h;refine sg (Ok.aD ⟨Ψ [(1,.s (mF v1.1)),(3,.b 3 0),(6,.b 6 0)],[(3,.box (k0 v1.2.1 v1.2.2.1 v1.2.2.2)),(6,.box (k1 0 0))]⟩ ?_ ?_)
 .refine sg (bl (Ok.loop (λ(s1:(List bg)×Int×eK)=>⟨Ψ [(1,.s (mF s1.1)),(2,vi d),(3,.b 3 0),(6,.b 6 0),(8,vi s1.2.1)],[(3,.box (k0 s1.2.2.1 s1.2.2.2.1 s1.2.2.2.2)),(6,.box (k1 0 0))]⟩) (Jf d) (s0:=(e,0,c.η,c.Next,c.ai)) ν (wt Q5 ⟨hr,hr,Q0⟩ rfl) ?_));intro s1 y1 ζ aB;unfold Jf at ζ;refine sq (sg (ct ζ (λhb ζ=>?_) λhb ζ=>?_))
  .have⟨x1,Θ,ζ⟩:=ι ζ;have⟨aj,ζ⟩:=aq ζ;exact sk (sq (bl (sg ⟨_,rfl,Ω.call (Za Θ) lz ⟨_,rfl,sg ⟨_,rfl,_,rfl,rg (rg (ah ⟨aj,_,sj ζ,wt Q5 J2 rfl⟩))⟩⟩⟩)))
  refine xt ?_;have ζ:=aT ζ aB;cases ζ;exact wt Q3 J2 rfl
 cases h;exact sg ⟨_,rfl,_,rfl,rt ⟨_,rfl,Fz.t (.cons (Fz.cP rfl) (.cons Fz.s .nil))⟩⟩
def aiK{c d r}(h:Fp c d=V r):Pure prog 23 [.a (b2 c),.a (lJ d)] (.t [.a (b2 r.1),.a (iS r.2)]):=by
 refine pq tok 118 func23 ?_;unfold Fp at h;have⟨v1,ν,h⟩:=ι h;refine sg (sq (Ok.aD ⟨Ψ [(2,.b 2 0),(3,.b 3 0),(4,.b 4 0),(5,.b 5 0),(23,vb v1)],[(2,.box (b2 c)),(3,.box (lJ d)),(4,.box (k6 0 0 0 0)),(5,.box (iL 0 0 0 0 0))]⟩ ?_ ?_))
 .have⟨c1,ξ,ν⟩:=ι ν;refine rg ⟨_,rfl,Br.cA ξ (λhb ξ=>?_) λhb ξ=>?_⟩
  .cases ξ;cases ν;exact wt Q5 J4 rfl
  refine⟨_,rfl,?_⟩;cases ξ;cases ν;exact wt Q5 J4 rfl
 refine ct h (λhb h=>?_) λhb h=>?_
 .have⟨x1,Θ,h⟩:=ι h;cases h;exact sq (dw 2 tok mixed ⟨_,⟨_,rfl,rfl⟩,_,⟨_,.dN (kq Θ) lz,rfl⟩,Q0,_,rfl,_,rfl,rt ⟨_,rfl,_,rfl,Fz.t fq⟩⟩)
 have⟨v2,Φ,h⟩:=ι h;refine sk (sq (sg ⟨_,rfl,bl (Ok.aD ⟨Ψ [(2,.b 2 0),(3,.b 3 0),(4,.b 4 0),(5,.b 5 0),(27,vi d.θ),(28,vb v2)],[(2,.box (b2 c)),(3,.box (lJ d)),(4,.box (k6 0 0 0 0)),(5,.box (iL 0 0 0 0 0))]⟩ ?_ ?_)⟩))
 .refine sg (ct Φ (λhb Φ=>?_) λhb Φ=>?_)
  .refine sk ?_;cases Φ;exact wt Q6 J4 rfl
  refine sg (ct Φ (λhb Φ=>?_) λhb Φ=>?_)
  .refine sk ?_;cases Φ;exact wt Q6 J4 rfl
  refine sg (ct Φ (λhb Φ=>?_) λhb Φ=>?_)
  .refine sk ?_;cases Φ;exact wt Q6 J4 rfl
  refine rg ?_;cases Φ;exact wt Q6 J4 rfl
 refine ct h (λhb h=>?_) λhb h=>?_
 .have⟨x2,ar,h⟩:=ι h;cases h;exact sg ⟨_,rfl,_,rfl,Ω.call (aiS ar) lz ⟨_,rfl,_,rfl,sq (Ok.iG (m:=2) (late:=[1]) (MD:=⟨[]⟩) (CH:=⟨[]⟩) tok mixed (by kernel_rfl) ⟨_,⟨_,rfl,rfl⟩,_,⟨_,rfl,rfl⟩,Q0,_,rfl,⟨⟨_,rfl,_,rfl,rfl⟩,Q0⟩,_,rfl,rt ⟨_,rfl,_,rfl,Fz.t fq⟩⟩)⟩⟩
 have⟨v3,aA,h⟩:=ι h;refine Ok.aD ⟨Ψ [(2,.b 2 0),(3,.b 3 0),(4,.b 4 0),(5,.b 5 0),(27,vi d.θ),(41,vb v3)],[(2,.box (b2 c)),(3,.box (lJ d)),(4,.box (k6 0 0 0 0)),(5,.box (iL 0 0 0 0 0))]⟩ ?_ ?_
 .refine sg (ct aA (λhb aA=>?_) λhb aA=>?_)
  .refine sk ?_;cases aA;exact wt Q6 J4 rfl
  refine sg (ct aA (λhb aA=>?_) λhb aA=>?_)
  .refine sk ?_;cases aA;exact wt Q6 J4 rfl
  refine sg (ct aA (λhb aA=>?_) λhb aA=>?_)
  .refine sk ?_;cases aA;exact wt Q6 J4 rfl
  refine sg (ct aA (λhb aA=>?_) λhb aA=>?_)
  .refine sk ?_;cases aA;exact wt Q6 J4 rfl
  refine sg (ct aA (λhb aA=>?_) λhb aA=>?_)
  .refine sk ?_;cases aA;exact wt Q6 J4 rfl
  refine rg ?_;cases aA;exact wt Q6 J4 rfl
 refine ct h (λhb h=>?_) λhb h=>?_
 .have⟨x3,aL,h⟩:=ι h;cases h;exact sg ⟨_,rfl,_,rfl,Ω.call (aiV aL) lz ⟨_,rfl,_,rfl,sq (Ok.iG (m:=2) (late:=[1]) (MD:=⟨[]⟩) (CH:=⟨[]⟩) tok mixed (by kernel_rfl) ⟨_,⟨_,rfl,rfl⟩,_,⟨_,rfl,rfl⟩,Q0,_,rfl,⟨⟨_,rfl,_,rfl,rfl⟩,Q0⟩,_,rfl,rt ⟨_,rfl,_,rfl,Fz.t fq⟩⟩)⟩⟩
 have⟨v4,aU,h⟩:=ι h;refine Ok.aD ⟨Ψ [(2,.b 2 0),(3,.b 3 0),(4,.b 4 0),(5,.b 5 0),(27,vi d.θ),(56,vb v4)],[(2,.box (b2 c)),(3,.box (lJ d)),(4,.box (k6 0 0 0 0)),(5,.box (iL 0 0 0 0 0))]⟩ ?_ ?_
 .refine sg (ct aU (λhb aU=>?_) λhb aU=>?_)
  .refine sk ?_;cases aU;exact wt Q6 J4 rfl
  refine sg (ct aU (λhb aU=>?_) λhb aU=>?_)
  .refine sk ?_;cases aU;exact wt Q6 J4 rfl
  refine sg (ct aU (λhb aU=>?_) λhb aU=>?_)
  .refine sk ?_;cases aU;exact wt Q6 J4 rfl
  refine rg ?_;cases aU;exact wt Q6 J4 rfl
 refine ct h (λhb h=>?_) λhb h=>?_
 .have⟨x4,aZ,h⟩:=ι h;cases h;exact sg ⟨_,rfl,_,rfl,Ω.call (aiQ aZ) lz ⟨_,rfl,_,rfl,sq (Ok.iG (m:=2) (late:=[1]) (MD:=⟨[]⟩) (CH:=⟨[]⟩) tok mixed (by kernel_rfl) ⟨_,⟨_,rfl,rfl⟩,_,⟨_,rfl,rfl⟩,Q0,_,rfl,⟨⟨_,rfl,_,rfl,rfl⟩,Q0⟩,_,rfl,rt ⟨_,rfl,_,rfl,Fz.t fq⟩⟩)⟩⟩
 refine sg (ct h (λhb h=>?_) λhb h=>?_)
 .have⟨x5,bT,h⟩:=ι h;cases h;exact sq (dw 4 tok mixed ⟨_,⟨_,rfl,rfl⟩,_,⟨_,rfl,rfl⟩,_,⟨_,rfl,rfl⟩,_,⟨_,.dN (aiT bT) lz,rfl⟩,Q0,_,rfl,_,rfl,rt ⟨_,rfl,_,rfl,Fz.t fq⟩⟩)
 refine sg (ct h (λhb h=>?_) λhb h=>?_)
 .have⟨x6,dg,h⟩:=ι h;refine sg ⟨_,rfl,_,rfl,Ω.call (aiF dg) lz ⟨_,rfl,sq (sg (ct h (λhb h=>?_) λhb h=>?_))⟩⟩
  .have⟨x7,du,h⟩:=ι h;cases h;exact sq (dw 3 tok mixed ⟨_,⟨_,rfl,rfl⟩,_,rfl,_,⟨_,.dN (kq du) lz,rfl⟩,Q0,_,rfl,_,rfl,rt ⟨_,rfl,_,rfl,Fz.t fq⟩⟩)
  cases h;exact sk (sg ⟨_,rfl,_,rfl,sg ⟨_,rfl,_,rfl,_,rfl,rt ⟨_,rfl,_,rfl,Fz.t (.cons (Fz.cP rfl) (.cons (Fz.a (.cons Fz.v (.cons Fz.v (.cons Fz.v (.cons Fz.v (.cons Fz.v (.cons Fz.nil (.cons Fz.nil .nil)))))))) .nil))⟩⟩⟩)
 refine sg (ct h (λhb h=>?_) λhb h=>?_)
 .have⟨x8,eJ,h⟩:=ι h;have⟨x9,ga,h⟩:=ι h;cases h;exact sg ⟨_,rfl,_,rfl,_,rfl,Ω.call (aiw eJ) lz ⟨_,rfl,sg ⟨_,rfl,_,rfl,Ω.call (QY ga) lz ⟨_,rfl,sg ⟨_,rfl,sg ⟨_,rfl,_,rfl,_,rfl,rt ⟨_,rfl,_,rfl,Fz.t (.cons (Fz.cP rfl) (.cons (Fz.a (.cons Fz.v (.cons Fz.v (.cons Fz.v (.cons Fz.v (.cons Fz.v (.cons Fz.nil (.cons Fz.nil .nil)))))))) .nil))⟩⟩⟩⟩⟩⟩⟩
 have⟨dI,gQ,h⟩:=ι h;cases h;exact sk (sq (dw 2 tok mixed ⟨_,⟨_,rfl,rfl⟩,_,⟨_,.dN (kq gQ) lz,rfl⟩,Q0,_,rfl,_,rfl,rt ⟨_,rfl,_,rfl,Fz.t fq⟩⟩))
def ah6{c r}(h:Ek c=V r):Pure prog 10 [.s (mK c)] (.a (b2 r)):=by
 refine pq tok 25 func10 ?_;unfold Ek at h;have⟨x1,Θ,h⟩:=ι h;have⟨v1,ν,h⟩:=ι h;refine sg (sg (Ω.call (aiM Θ) lz ⟨_,rfl,Ok.aD ⟨Ψ [(2,.b 2 0),(3,.b 3 0)],[(2,.box (k6 0 0 0 0)),(3,.box (k5 v1.1 v1.2.1 v1.2.2.1 v1.2.2.2.1 v1.2.2.2.2.1 v1.2.2.2.2.2.1 v1.2.2.2.2.2.2.1 v1.2.2.2.2.2.2.2.1 (t8 v1).1 (t8 v1).2))]⟩ ?_ ?_⟩))
 .refine sg (bl (Ok.loop (λ(s1:Int×Ck)=>⟨Ψ [(0,.s (mK c)),(2,.b 2 0),(3,.b 3 0),(4,vi s1.1)],[(2,.box (k6 0 0 0 0)),(3,.box (k5 s1.2.1 s1.2.2.1 s1.2.2.2.1 s1.2.2.2.2.1 s1.2.2.2.2.2.1 s1.2.2.2.2.2.2.1 s1.2.2.2.2.2.2.2.1 (t8 s1).1 (t8 s1).2.1 (t8 s1).2.2))]⟩) (Ir c) (s0:=(0,x1.S.aw.η,x1.S.aw.Next,x1.S.aw.ai,x1.S.bE,x1.S.dh,x1.S.cM,x1.S.cm,x1.S.Next,x1.Holds,x1.et)) ν (wt Q4 ⟨hr,hr,Q0⟩ rfl) ?_));intro s1 y1 ζ aB;unfold Ir at ζ;refine sq (sg ⟨_,au _,λ_=>ct ζ (λhb ζ=>?_) λhb ζ=>?_⟩)
  .have⟨x2,ar,ζ⟩:=ι ζ;have⟨x3,aL,ζ⟩:=ι ζ;have⟨aj,ζ⟩:=aq ζ;exact sk (sq (bl (sq (Ok.iG (m:=11) (late:=[8]) (MD:=⟨[]⟩) (CH:=⟨[]⟩) tok mixed (by kernel_rfl) ⟨_,⟨_,rfl,rfl⟩,_,rfl,_,rfl,_,⟨_,aO ar,_,aP ar,rfl⟩,_,⟨_,rfl,rfl⟩,_,⟨_,.dN (aiK aL) lz,rfl⟩,_,rfl,_,rfl,_,rfl,Q0,_,rfl,⟨⟨_,rfl,rfl⟩,Q0⟩,_,rfl,rg ⟨_,rfl,_,rfl,rg (ah ⟨aj,_,sj ζ,wt Q4 J2 rfl⟩)⟩⟩))))
  refine xt ?_;have ζ:=aT ζ aB;cases ζ;exact wt Q2 J2 rfl
 cases h;exact sg ⟨_,rfl,_,rfl,rt ⟨_,rfl,Fz.cP rfl⟩⟩
def aje[oC]{c d e r}(h:F7 c d e=V r):Pure prog 24 [.a (b2 c),vs d,vi e] (.t [.s (mG r.1),vb r.2]):=by
 refine pq tok 47 func24 ?_;unfold F7 at h;refine sg (sg (fJ (sg (Ok.dy (λv1=>⟨Ψ [],[]⟩) (λv1=>Qx v1=V r) ?_ ?_))))
 .refine sg (bl (Ok.loop (λ(s1:rE)=>⟨Ψ [(1,vs d),(2,vi e),(3,.b 3 0),(8,.o 13),(9,vi s1.1),(10,vi s1.2.1)],[(3,.box (b2 c)),(13,.own 9 1 (mG s1.2.2))]⟩) (Kj c d e) (s0:=(0,0,([]:List (List UInt8)))) h (wt Q6 ⟨hr,hr,Q0⟩ rfl) ?_));intro s1 y1 ζ aB;unfold Kj at ζ;refine sq (sg (ct ζ (λhb ζ=>?_) λhb ζ=>?_))
  .have⟨x1,Θ,ζ⟩:=ι ζ;have⟨v2,Φ,ζ⟩:=ι ζ;refine sk (sq (bl (sg ⟨_,rfl,Ω.call (qC Θ) (l1 (.cons (Le.a (l4 (l2 (l1 (.cons (Le.nil) .nil))))) .nil)) ⟨_,rfl,_,rfl,sq (Ok.aD ⟨Ψ [(1,vs d),(2,vi e),(3,.b 3 0),(8,.o 13),(10,vi s1.2.1),(12,.b 12 0),(36,vb v2)],[(3,.box (b2 c)),(13,.own 9 1 (mG s1.2.2)),(12,.box (iS x1.2))]⟩ ?_ ?_)⟩⟩)))
   .have⟨c1,ξ,Φ⟩:=ι Φ;refine rg ⟨_,rfl,Br.cA ξ (λhb ξ=>?_) λhb ξ=>?_⟩
    .cases ξ;cases Φ;exact wt Q7 J3 rfl
    refine⟨_,rfl,_,au _,λ_=>?_⟩;cases ξ;cases Φ;exact wt Q7 J3 rfl
   refine ct ζ (λhb ζ=>?_) λhb ζ=>?_
   .refine sg (rt ?_);have ζ:=aT ζ aB;cases ζ;exact(Fz.t (.cons Fz.nil fq))
   have⟨aj,ζ⟩:=aq ζ;refine sk (sg ⟨_,rfl,c_ (f:=fg) (n:=1) (λ_=>rfl) x1.2.jy,c8 (f:=fg) (l:=s1.2.2) (l':=x1.2.jy) aj,_,(bO (f:=fg) (l₁:=s1.2.2) (l₂:=x1.2.jy)).symm,sq (sg ⟨_,rfl,ct ζ (λhb ζ=>?_) λhb ζ=>?_⟩)⟩)
   .refine sg (rt ?_);have ζ:=aT ζ aB;cases ζ;exact(Fz.t (.cons (Fz.o rfl) fq))
   have⟨aX,ζ⟩:=aq ζ;exact sk (rg ⟨_,rfl,rg (ah ⟨aX,_,sj ζ,wt Q6 J2 rfl⟩)⟩)
  refine xt ?_;have ζ:=aT ζ aB;exact⟨_,ζ,wt Q0 Q0 rfl⟩
 intro v1 h;unfold Qx at h;cases h;exact sg (rt (Fz.t (.cons Fz.nil fq)))
def ajb{b a r}(h:F6 b a=V r):Pure prog 25 [vs b,vs a] (vs r):=by
 refine pq tok 22 func25 ?_;unfold F6 at h;have⟨x1,Θ,h⟩:=ι h;have⟨aj,h⟩:=aq h;have⟨aX,h⟩:=aq h;have⟨x2,ar,h⟩:=ι h;cases h;exact sg (sg (Ω.call (Ku Θ) lz (sg (fJ ⟨c_ (f:=fg) (n:=1) (λ_=>rfl) x1.1,c8 (f:=fg) (l:=([]:List (List UInt8))) (l':=x1.1) aj,_,(bO (f:=fg) (l₁:=([]:List (List UInt8))) (l₂:=x1.1)).symm,sg (ah ⟨c_ (f:=fg) (n:=1) (λ_=>rfl) ([a]),c8 (f:=fg) (l:=([]:List (List UInt8))++x1.1) (l':=[a]) aX,_,(bO (f:=fg) (l₁:=([]:List (List UInt8))++x1.1) (l₂:=[a])).symm,sg (Ω.borrow (Y5 ar) (.cons (Fz.o rfl) .nil) rfl (rt Fz.v))⟩)⟩))))
def Zo[oC]{c d r}(h:zy c d=V r):Pure prog 11 [.a (b2 c),vi d] (.t [.s (mG r.1),vb r.2]):=by
 refine pq tok 72 func11 ?_;unfold zy at h;refine sg (sg (fJ (Ok.dy (λv1=>⟨Ψ [(6,.o 13)],[(13,.own 9 1 (mG v1))]⟩) (λv1=>Qy v1=V r) ?_ ?_)))
 .refine sg (bl (Ok.loop (λ(s1:Int×(List (List UInt8)))=>⟨Ψ [(1,vi d),(2,.b 2 0),(6,.o 13),(7,vi s1.1)],[(2,.box (b2 c)),(13,.own 9 1 (mG s1.2))]⟩) (Kl c d) (s0:=(0,[[47]])) h (wt Q4 ⟨hr,hr,Q0⟩ rfl) ?_));intro s1 y1 ζ aB;unfold Kl at ζ;have⟨v2,Φ,ζ⟩:=ι ζ;refine sq (Ok.aD ⟨Ψ [(1,vi d),(2,.b 2 0),(6,.o 13),(7,vi s1.1),(22,vb v2)],[(2,.box (b2 c)),(13,.own 9 1 (mG s1.2))]⟩ ?_ ?_)
  .have⟨c1,ξ,Φ⟩:=ι Φ;refine rg ⟨_,au _,λ_=>Br.ite ξ (λhb ξ=>?_) λhb ξ=>?_⟩
   .refine⟨_,au _,λ_=>?_⟩;cases ξ;cases Φ;exact wt Q5 J2 rfl
   cases ξ;cases Φ;exact wt Q5 J2 rfl
  refine ct ζ (λhb ζ=>?_) λhb ζ=>?_
  .refine sk (Ok.dy (λv3=>⟨Ψ [(1,vi d),(2,.b 2 0),(6,.o 13),(7,vi s1.1)],[(2,.box (b2 c)),(13,.own 9 1 (mG v3))]⟩) (λv3=>B_ s1 v3=V y1) ?_ ?_)
   .have⟨x1,Θ,ζ⟩:=ι ζ;have⟨x2,ar,ζ⟩:=ι ζ;refine bl (sq (Ok.iG (m:=12) (late:=[9]) (MD:=⟨[]⟩) (CH:=⟨[]⟩) tok mixed (by kernel_rfl) ⟨_,⟨_,rfl,rfl⟩,_,rfl,_,rfl,_,⟨_,aO Θ,ll Θ,rfl⟩,_,⟨_,aP Θ,rfl,_,rfl,rfl⟩,_,rfl,_,⟨_,.dN (qC ar) (l1 (.cons (Le.a (l4 (l2 (l1 (.cons (Le.nil) .nil))))) .nil)),rfl⟩,_,rfl,_,rfl,_,rfl,Q0,_,rfl,⟨⟨_,rfl,rfl⟩,Q0⟩,_,rfl,sq (sg ⟨_,rfl,ct ζ (λhb ζ=>?_) λhb ζ=>?_⟩)⟩))
    .refine sg (rt ?_);have ζ:=aT ζ aB;cases ζ;exact(Fz.t (.cons Fz.nil fq))
    refine sk (sq (sg ⟨_,rfl,ct ζ (λhb ζ=>?_) λhb ζ=>?_⟩))
    .exact xt ⟨_,ζ,wt Q4 ⟨hr,hr,Q0⟩ rfl⟩
    have⟨x3,aL,ζ⟩:=ι ζ;have⟨x4,aZ,ζ⟩:=ι ζ;refine sk (sq (dw 12 tok mixed ⟨_,⟨_,rfl,rfl⟩,_,rfl,_,rfl,_,⟨_,aO aL,ll aL,rfl⟩,_,⟨_,aP aL,rfl,_,rfl,rfl⟩,_,rfl,_,⟨_,.dN (aje aZ) lz,rfl⟩,_,rfl,_,rfl,_,rfl,_,rfl,_,rfl,Q0,sq (sg (ct ζ (λhb ζ=>?_) λhb ζ=>?_))⟩))
    .refine sg (rt ?_);have ζ:=aT ζ aB;cases ζ;exact(Fz.t (.cons Fz.nil fq))
    refine sk (sg (bl (Ok.loop (λ(s2:Int×(List (List UInt8)))=>⟨Ψ [(1,vi d),(2,.b 2 0),(6,.o 13),(7,vi s1.1),(10,.s (mG x4.1)),(12,vi s2.1)],[(2,.box (b2 c)),(13,.own 9 1 (mG s2.2))]⟩) (F8 x4 s1) (s0:=(0,s1.2)) ζ (wt Q6 ⟨hr,hr,Q0⟩ rfl) ?_)));intro s2 y2 av eP;unfold F8 at av;refine sq (sg ⟨_,au _,λ_=>ct av (λhb av=>?_) λhb av=>?_⟩)
    .have⟨x5,bT,av⟩:=ι av;have⟨x6,dg,av⟩:=ι av;have⟨x7,du,av⟩:=ι av;have⟨aj,av⟩:=aq av;have⟨aX,av⟩:=aq av;exact sk (sq (bl (dw 11 tok mixed ⟨_,rfl,_,rfl,_,rfl,_,⟨_,aO bT,ll bT,rfl⟩,_,⟨_,aP bT,rfl,_,rfl,rfl⟩,_,rfl,_,rfl,_,⟨_,aO dg,_,aP dg,rfl⟩,_,⟨_,rfl,rfl⟩,_,⟨_,.dN (ajb du) lz,rfl⟩,_,rfl,Q0,c_ (f:=fg) (n:=1) (λ_=>rfl) ([x7]),c8 (f:=fg) (l:=s2.2) (l':=[x7]) aj,_,(bO (f:=fg) (l₁:=s2.2) (l₂:=[x7])).symm,rg (ah ⟨aX,_,sj av,wt Q6 J2 rfl⟩)⟩)))
    refine xt ?_;have av:=aT av eP;exact⟨_,av,wt Q4 ⟨hr,hr,Q0⟩ rfl⟩
   intro v3 ζ;unfold B_ at ζ;have⟨bY,ζ⟩:=aq ζ;exact rg (ah ⟨bY,_,sj ζ,wt Q4 J2 rfl⟩)
  refine xt ?_;have ζ:=aT ζ aB;exact⟨_,ζ,wt Q1 ⟨hr,Q0⟩ rfl⟩
 intro v1 h;unfold Qy at h;cases h;exact sg (rt (Fz.t (.cons (Fz.o rfl) fq)))
def aiP{c d r}(h:Fu c d=V r):Pure prog 14 [.a (iS c),.a (iS d)] (vb r):=by
 refine pq tok 75 func14 ?_;unfold Fu at h;have⟨v1,ν,h⟩:=ι h;refine sg (sq (Ok.aD ⟨Ψ [(2,.b 2 0),(3,.b 3 0),(56,vb v1)],[(2,.box (iS c)),(3,.box (iS d))]⟩ ?_ ?_))
 .have⟨c1,ξ,ν⟩:=ι ν;refine rg ⟨_,rfl,_,rfl,Br.cA ξ (λhb ξ=>?_) λhb ξ=>?_⟩
  .cases ξ;have⟨c2,az,ν⟩:=ι ν;replace az:=dS az;cases az;have⟨c3,aQ,ν⟩:=ι ν;replace aQ:=dS aQ;cases aQ;have⟨c4,bC,ν⟩:=ι ν;replace bC:=dS bC;cases bC;have⟨c5,bX,ν⟩:=ι ν;replace bX:=dS bX;cases bX;have⟨c6,cI,ν⟩:=ι ν;replace cI:=dS cI;cases cI;cases ν;exact wt Q3 J2 rfl
  refine⟨_,rfl,_,rfl,?_⟩;cases ξ;have⟨c2,cJ,ν⟩:=ι ν;refine Br.cA cJ (λhb cJ=>?_) λhb cJ=>?_
  .cases cJ;have⟨c3,c9,ν⟩:=ι ν;replace c9:=dS c9;cases c9;have⟨c4,dr,ν⟩:=ι ν;replace dr:=dS dr;cases dr;have⟨c5,dY,ν⟩:=ι ν;replace dY:=dS dY;cases dY;have⟨c6,iU,ν⟩:=ι ν;replace iU:=dS iU;cases iU;cases ν;exact wt Q3 J2 rfl
  refine⟨_,rfl,_,rfl,?_⟩;cases cJ;have⟨c3,iV,ν⟩:=ι ν;refine Br.cA iV (λhb iV=>?_) λhb iV=>?_
  .cases iV;have⟨c4,jl,ν⟩:=ι ν;replace jl:=dS jl;cases jl;have⟨c5,kZ,ν⟩:=ι ν;replace kZ:=dS kZ;cases kZ;have⟨c6,iW,ν⟩:=ι ν;replace iW:=dS iW;cases iW;cases ν;exact wt Q3 J2 rfl
  refine⟨_,rfl,_,rfl,?_⟩;cases iV;have⟨c4,nN,ν⟩:=ι ν;refine Br.cA nN (λhb nN=>?_) λhb nN=>?_
  .cases nN;have⟨c5,q8,ν⟩:=ι ν;replace q8:=dS q8;cases q8;have⟨c6,q9,ν⟩:=ι ν;replace q9:=dS q9;cases q9;cases ν;exact wt Q3 J2 rfl
  refine⟨_,rfl,_,rfl,?_⟩;cases nN;have⟨c5,pG,ν⟩:=ι ν;refine Br.cA pG (λhb pG=>?_) λhb pG=>?_
  .cases pG;have⟨c6,mY,ν⟩:=ι ν;replace mY:=dS mY;cases mY;cases ν;exact wt Q3 J2 rfl
  refine⟨_,rfl,_,au _,λ_=>⟨_,rfl,_,au _,λ_=>?_⟩⟩;cases pG;have⟨c6,pH,ν⟩:=ι ν;refine Br.cA pH (λhb pH=>?_) λhb pH=>?_
  .cases pH;cases ν;exact wt Q3 J2 rfl
  refine⟨_,rfl,_,rfl,_,rfl,_,rfl,_,FU _ _,?_⟩;cases pH;cases ν;exact wt Q3 J2 rfl
 refine ct h (λhb h=>?_) λhb h=>?_
 .cases h;exact sg (rt Fz.v)
 refine sk (Ok.dy (λv2=>⟨Ψ [],[]⟩) (λv2=>JD v2=V r) ?_ ?_)
 .refine sg (bl (Ok.loop (λ(s1:Int)=>⟨Ψ [(2,.b 2 0),(3,.b 3 0),(5,vi s1)],[(2,.box (iS c)),(3,.box (iS d))]⟩) (Fv c d) (s0:=0) h (wt Q3 ⟨hr,hr,Q0⟩ rfl) ?_));intro s1 y1 ζ aB;unfold Fv at ζ;refine sq (sg ⟨_,rfl,_,au _,λ_=>ct ζ (λhb ζ=>?_) λhb ζ=>?_⟩)
  .have⟨x1,Θ,ζ⟩:=ι ζ;have⟨x2,ar,ζ⟩:=ι ζ;refine sk (sq (bl (sq (dw 11 tok mixed ⟨_,rfl,_,⟨_,rfl,rfl⟩,_,rfl,_,⟨_,aO Θ,_,aP Θ,rfl⟩,_,⟨_,rfl,rfl⟩,_,rfl,_,⟨_,rfl,rfl⟩,_,rfl,_,⟨_,aO ar,_,aP ar,rfl⟩,_,⟨_,rfl,rfl⟩,_,⟨_,FU _ _,rfl⟩,Q0,ct ζ (λhb ζ=>?_) λhb ζ=>?_⟩))))
   .refine sg (rt ?_);have ζ:=aT ζ aB;cases ζ;exact Fz.v
   have⟨aj,ζ⟩:=aq ζ;exact sk (rg (ah ⟨aj,_,sj ζ,wt Q3 J2 rfl⟩))
  refine xt ?_;have ζ:=aT ζ aB;exact⟨_,ζ,wt Q0 Q0 rfl⟩
 intro v2 h;unfold JD at h;cases h;exact sg (rt Fz.v)
end Go.Proofs
