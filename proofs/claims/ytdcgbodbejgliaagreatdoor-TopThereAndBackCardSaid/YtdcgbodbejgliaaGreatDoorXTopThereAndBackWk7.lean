/- The walks of this seat beside the plain programs, part 7. No condition. -/
import Derived.Test.YtdcgbodbejgliaaGreatDoorXTopThereAndBackWk6
open Option renaming some->V
open List renaming length_map->au,map_append->bO
open Or renaming inl->ah
namespace Go.Proofs
set_option linter.all false
open Go Go.Cat Tryz
variable[M:cD][K:LK]
set_option maxRecDepth 100000
set_option maxHeartbeats 4000000
def ais{c d e r}(h:ES c d e=V r):Pure prog 94 [.a (b0 c),vi d,vs e] (.t [.a (b0 r.1),vi r.2.1,vi r.2.2]):=by
 refine pq tok 42 func94 ?_;unfold ES at h;have⟨x1,Θ,h⟩:=ι h;refine sg (sg ⟨_,rfl,Ω.call (Kv Θ) lz (sq (sg (ct h (λhb h=>?_) λhb h=>?_)))⟩)
 .cases h;exact sg ⟨_,rfl,_,rfl,rt ⟨_,rfl,Fz.t fq⟩⟩
 have⟨x2,ar,h⟩:=ι h;refine sk (sg ⟨_,rfl,Ω.call (jd ar) lz ⟨_,rfl,sq (sg ⟨_,rfl,_,au _,λ_=>ct h (λhb h=>?_) λhb h=>?_⟩)⟩⟩)
 .cases h;exact sg ⟨_,rfl,_,rfl,rt ⟨_,rfl,Fz.t fq⟩⟩
 have⟨x3,aL,h⟩:=ι h;have⟨x4,aZ,h⟩:=ι h;cases h;exact sk (sg ⟨_,rfl,Ω.call (QV aL) lz (Ω.call (Y_ aZ) lz ⟨_,rfl,rt ⟨_,rfl,Fz.t fq⟩⟩)⟩)
def Y6{c e d r}(h:Bx c e d=V r):Pure prog 149 [.a (b0 c),vi e,vi d] (vb r):=by
 refine pq tok 30 func149 ?_;unfold Bx at h;refine sg (Ok.dy (λv1=>⟨Ψ [],[]⟩) (λv1=>O9 v1=V r) ?_ ?_)
 .refine sg (bl (Ok.loop (λ(s1:Int×Int)=>⟨Ψ [(1,vi s1.1),(2,vi d),(3,.b 3 0),(7,vi s1.2)],[(3,.box (b0 c))]⟩) (wy c d) (s0:=(e,0)) h (wt Q4 ⟨hr,Q0⟩ rfl) ?_));intro s1 y1 ζ aB;unfold wy at ζ;refine sq (sg ⟨_,rfl,_,au _,λ_=>ct ζ (λhb ζ=>?_) λhb ζ=>?_⟩)
  .refine sk (sq (bl (sq (sg (ct ζ (λhb ζ=>?_) λhb ζ=>?_)))))
   .refine sg (rt ?_);have ζ:=aT ζ aB;cases ζ;exact Fz.v
   refine sk (sq (sg (ct ζ (λhb ζ=>?_) λhb ζ=>?_)))
   .refine sg (rt ?_);have ζ:=aT ζ aB;cases ζ;exact Fz.v
   have⟨x1,Θ,ζ⟩:=ι ζ;have⟨aj,ζ⟩:=aq ζ;exact sk (sg ⟨_,rfl,Ω.call (jd Θ) lz ⟨_,rfl,rg ⟨_,rfl,rg (ah ⟨aj,_,sj ζ,wt Q4 J1 rfl⟩)⟩⟩⟩)
  refine xt ?_;have ζ:=aT ζ aB;exact⟨_,ζ,wt Q0 Q0 rfl⟩
 intro v1 h;unfold O9 at h;cases h;exact sg (rt Fz.v)
def ait{d c e r}(h:ET d c e=V r):Pure prog 150 [.a (b0 d),.a (b4 c),vi e] (vi r):=by
 refine pq tok 37 func150 ?_;unfold ET at h;have⟨x1,Θ,h⟩:=ι h;refine sg (sg ⟨_,rfl,Ω.call (jd Θ) lz ⟨_,rfl,sq (sg (ct h (λhb h=>?_) λhb h=>?_))⟩⟩)
 .cases h;exact sg (rt Fz.v)
 have⟨v1,ν,h⟩:=ι h;refine sk (sq (Ok.aD ⟨Ψ [(4,.b 4 0),(7,.b 7 0),(24,vb v1)],[(4,.box (b4 c)),(7,.box (b4 x1.1))]⟩ ?_ ?_))
 .have⟨c1,ξ,ν⟩:=ι ν;refine rg ⟨_,rfl,Br.ite ξ (λhb ξ=>?_) λhb ξ=>?_⟩
  .refine⟨_,rfl,?_⟩;cases ξ;cases ν;exact wt Q3 J2 rfl
  cases ξ;cases ν;exact wt Q3 J2 rfl
 refine ct h (λhb h=>?_) λhb h=>?_
 .cases h;exact sg (rt Fz.v)
 have⟨v2,Φ,h⟩:=ι h;refine sk (sq (Ok.aD ⟨Ψ [(7,.b 7 0),(32,vb v2)],[(7,.box (b4 x1.1))]⟩ ?_ ?_))
 .have⟨c2,az,Φ⟩:=ι Φ;refine rg ⟨_,rfl,Br.ite az (λhb az=>?_) λhb az=>?_⟩
  .refine⟨_,rfl,?_⟩;cases az;cases Φ;exact wt Q2 J1 rfl
  cases az;cases Φ;exact wt Q2 J1 rfl
 refine ct h (λhb h=>?_) λhb h=>?_
 .cases h;exact sg (rt Fz.v)
 refine sk (sq (sg ⟨_,rfl,_,au _,λ_=>ct h (λhb h=>?_) λhb h=>?_⟩))
 .cases h;exact sg (rt Fz.v)
 cases h;exact sk (sg (rt Fz.v))
def QU{c e d r}(h:y0 c e d=V r):Pure prog 152 [.a (b0 c),vi e,vi d] (vi r):=by
 refine pq tok 55 func152 ?_;unfold y0 at h;have⟨x1,Θ,h⟩:=ι h;have⟨v1,ν,h⟩:=ι h;refine sg (sg (sg ⟨_,rfl,Ω.call (Kx Θ) lz (Ok.aD ⟨Ψ [(7,vi v1)],[]⟩ ?_ ?_)⟩))
 .refine sg (bl (Ok.loop (λ(s1:Int×Int)=>⟨Ψ [(1,vi e),(2,vi d),(3,.b 3 0),(7,vi s1.1),(8,vi x1),(9,vi s1.2)],[(3,.box (b0 c))]⟩) (EW c e d x1) (s0:=(0,0)) ν (wt Q6 ⟨hr,Q0⟩ rfl) ?_));intro s1 y1 ζ aB;unfold EW at ζ;refine sq (sg ⟨_,rfl,_,au _,λ_=>ct ζ (λhb ζ=>?_) λhb ζ=>?_⟩)
  .have⟨v2,Φ,ζ⟩:=ι ζ;refine sk (Ok.aD ⟨Ψ [(1,vi e),(2,vi d),(3,.b 3 0),(7,vi v2),(8,vi x1),(9,vi s1.2)],[(3,.box (b0 c))]⟩ ?_ ?_)
   .have⟨x2,ar,Φ⟩:=ι Φ;have⟨v3,aA,Φ⟩:=ι Φ;refine bl (sg ⟨_,rfl,_,aO ar,_,aP ar,_,rfl,_,rfl,Ok.aD ⟨Ψ [(1,vi e),(2,vi d),(3,.b 3 0),(7,vi s1.1),(8,vi x1),(9,vi s1.2),(10,.b 10 0),(36,vb v3)],[(3,.box (b0 c)),(10,.box (b4 x2))]⟩ ?_ ?_⟩)
    .have⟨c1,ξ,aA⟩:=ι aA;refine rg ⟨_,rfl,Br.ite ξ (λhb ξ=>?_) λhb ξ=>?_⟩
     .have⟨x3,aL,ξ⟩:=ι ξ;refine⟨_,rfl,_,rfl,Ω.call (Y6 aL) lz ?_⟩;cases ξ;cases aA;exact wt Q8 J2 rfl
     cases ξ;cases aA;exact wt Q8 J2 rfl
    refine ct Φ (λhb Φ=>?_) λhb Φ=>?_
    .have⟨x4,aZ,Φ⟩:=ι Φ;have⟨aj,Φ⟩:=aq Φ;have⟨aX,Φ⟩:=aq Φ;have⟨v4,aU,Φ⟩:=ι Φ;refine sg ⟨_,rfl,_,rfl,Ω.call (Kx aZ) lz (ah ⟨aj,ah ⟨aX,Ok.aD ⟨Ψ [(1,vi e),(2,vi d),(3,.b 3 0),(7,vi s1.1),(8,vi x1),(9,vi s1.2),(11,vi v4)],[(3,.box (b0 c))]⟩ ?_ ?_⟩⟩)⟩
     .refine sg ⟨_,rfl,_,au _,λ_=>ct aU (λhb aU=>?_) λhb aU=>?_⟩
      .have⟨bY,aU⟩:=aq aU;refine rg (ah ⟨bY,?_⟩);cases aU;exact wt Q7 J1 rfl
      refine sk ?_;cases aU;exact wt Q7 J1 rfl
     refine rg ⟨max s1.1 v4,rfl,?_⟩;cases Φ;exact wt Q6 J1 rfl
    refine sk ?_;cases Φ;exact wt Q6 J1 rfl
   have⟨dL,ζ⟩:=aq ζ;exact rg (ah ⟨dL,_,sj ζ,wt Q6 J1 rfl⟩)
  refine xt ?_;have ζ:=aT ζ aB;cases ζ;exact wt Q1 Q0 rfl
 cases h;exact sg (rt Fz.v)
def ain{c f g d e r}(h:EL c f g d e=V r):Pure prog 96 [.a (b0 c),vi f,vs g,vi d,vs e] (.t [.a (b0 r.1),vi r.2.1,vi r.2.2]):=by
 refine pq tok 151 func96 ?_;unfold EL at h;have⟨x1,Θ,h⟩:=ι h;refine sg (sg ⟨_,rfl,Ω.call (Kv Θ) lz (sq (sg (ct h (λhb h=>?_) λhb h=>?_)))⟩)
 .cases h;exact sg ⟨_,rfl,_,rfl,rt ⟨_,rfl,Fz.t fq⟩⟩
 have⟨x2,ar,h⟩:=ι h;refine sk (sg ⟨_,rfl,Ω.call (Ky ar) lz ⟨_,rfl,sq (sg (ct h (λhb h=>?_) λhb h=>?_))⟩⟩)
 .cases h;exact sg ⟨_,rfl,_,rfl,rt ⟨_,rfl,Fz.t fq⟩⟩
 have⟨x3,aL,h⟩:=ι h;refine sk (sq (sg (Ω.call (Kt aL) lz (ct h (λhb h=>?_) λhb h=>?_))))
 .cases h;exact sg ⟨_,rfl,_,rfl,rt ⟨_,rfl,Fz.t fq⟩⟩
 have⟨x4,aZ,h⟩:=ι h;have⟨v1,ν,h⟩:=ι h;refine sk (sg (sg ⟨_,rfl,Ω.call (QW aZ) lz (Ok.aD ⟨Ψ [(1,vi f),(2,vs g),(3,vi d),(4,vs e),(5,.b 5 0),(10,.b 10 0),(13,vi x1.1),(15,.b 15 0),(16,vi v1)],[(5,.box (b0 c)),(10,.box (k1 0 0)),(15,.box (b4 x2.1))]⟩ ?_ ?_)⟩))
 .refine sg (ct ν (λhb ν=>?_) λhb ν=>?_)
  .have⟨x5,bT,ν⟩:=ι ν;refine rg ⟨_,rfl,_,aO bT,_,aP bT,_,rfl,?_⟩;cases ν;exact wt ⟨lr,Q8⟩ J3 rfl
  refine sk ?_;cases ν;exact wt ⟨lr,Q8⟩ J3 rfl
 refine sq (sg (ct h (λhb h=>?_) λhb h=>?_))
 .cases h;exact sg ⟨_,rfl,_,rfl,rt ⟨_,rfl,Fz.t fq⟩⟩
 have⟨x6,dg,h⟩:=ι h;have⟨v2,Φ,h⟩:=ι h;refine sk (sg ⟨_,rfl,Ω.call (jd dg) lz ⟨_,rfl,sq (Ok.aD ⟨Ψ [(1,vi f),(2,vs g),(3,vi d),(4,vs e),(5,.b 5 0),(10,.b 10 0),(13,vi x1.1),(15,.b 15 0),(16,vi v1),(18,.b 18 0),(76,vb v2)],[(5,.box (b0 c)),(10,.box (k1 0 0)),(15,.box (b4 x2.1)),(18,.box (b4 x6.1))]⟩ ?_ ?_)⟩⟩)
 .have⟨c1,ξ,Φ⟩:=ι Φ;refine rg ⟨_,rfl,Br.ite ξ (λhb ξ=>?_) λhb ξ=>?_⟩
  .have⟨x7,du,ξ⟩:=ι ξ;refine⟨_,rfl,Ω.call (Y6 du) lz ?_⟩;cases ξ;cases Φ;exact wt ⟨lr,lr,lr,Q8⟩ J4 rfl
  cases ξ;cases Φ;exact wt ⟨lr,lr,lr,Q8⟩ J4 rfl
 refine ct h (λhb h=>?_) λhb h=>?_
 .cases h;exact sg ⟨_,rfl,_,rfl,rt ⟨_,rfl,Fz.t fq⟩⟩
 have⟨x8,eJ,h⟩:=ι h;refine sk (sg ⟨_,rfl,_,rfl,Ω.call (ait eJ) lz (sq (sg (ct h (λhb h=>?_) λhb h=>?_)))⟩)
 .cases h;exact sg ⟨_,rfl,_,rfl,rt ⟨_,rfl,Fz.t fq⟩⟩
 have⟨x9,ga,h⟩:=ι h;have⟨v3,aA,h⟩:=ι h;refine sk (sg ⟨_,rfl,Ω.call (Kx ga) lz (sq (Ok.aD ⟨Ψ [(1,vi f),(2,vs g),(3,vi d),(4,vs e),(5,.b 5 0),(10,.b 10 0),(13,vi x1.1),(16,vi v1),(18,.b 18 0),(123,vb v3)],[(5,.box (b0 c)),(10,.box (k1 0 0)),(18,.box (b4 x6.1))]⟩ ?_ ?_))⟩)
 .have⟨c2,az,aA⟩:=ι aA;refine rg (Br.ite az (λhb az=>?_) λhb az=>?_)
  .cases az;have⟨c3,aQ,aA⟩:=ι aA;refine Br.ite aQ (λhb aQ=>?_) λhb aQ=>?_
   .refine⟨_,rfl,_,au _,λ_=>?_⟩;cases aQ;have⟨c4,bC,aA⟩:=ι aA;refine Br.cA bC (λhb bC=>?_) λhb bC=>?_
    .cases bC;have⟨c6,bX,aA⟩:=ι aA;replace bX:=dS bX;cases bX;have⟨c7,cI,aA⟩:=ι aA;replace cI:=dS cI;cases cI;cases aA;exact wt ⟨lr,lr,Q8⟩ J3 rfl
    cases bC;have⟨c6,cJ,aA⟩:=ι aA;refine Br.cA cJ (λhb cJ=>?_) λhb cJ=>?_
    .cases cJ;have⟨c7,c9,aA⟩:=ι aA;replace c9:=dS c9;cases c9;cases aA;exact wt ⟨lr,lr,Q8⟩ J3 rfl
    have⟨c5,dr,cJ⟩:=ι cJ;refine⟨_,rfl,Br.ite dr (λhb dr=>?_) λhb dr=>?_⟩
    .have⟨aj,dr⟩:=aq dr;have⟨dI,gQ,dr⟩:=ι dr;refine⟨_,rfl,ah ⟨aj,Ω.call (QU gQ) lz ?_⟩⟩;cases dr;cases cJ;have⟨c7,dY,aA⟩:=ι aA;refine Br.cA dY (λhb dY=>?_) λhb dY=>?_
     .cases dY;cases aA;exact wt ⟨lr,lr,Q8⟩ J3 rfl
     refine⟨_,rfl,?_⟩;cases dY;cases aA;exact wt ⟨lr,lr,Q8⟩ J3 rfl
    cases dr;cases cJ;have⟨c7,iU,aA⟩:=ι aA;replace iU:=dE iU;refine⟨_,rfl,?_⟩;cases iU;cases aA;exact wt ⟨lr,lr,Q8⟩ J3 rfl
   cases aQ;have⟨c4,iV,aA⟩:=ι aA;replace iV:=dE iV;cases iV;have⟨c6,jl,aA⟩:=ι aA;refine Br.cA jl (λhb jl=>?_) λhb jl=>?_
   .cases jl;have⟨c7,kZ,aA⟩:=ι aA;replace kZ:=dS kZ;cases kZ;cases aA;exact wt ⟨lr,lr,Q8⟩ J3 rfl
   have⟨c5,iW,jl⟩:=ι jl;refine⟨_,rfl,Br.ite iW (λhb iW=>?_) λhb iW=>?_⟩
   .have⟨aj,iW⟩:=aq iW;have⟨dI,gQ,iW⟩:=ι iW;refine⟨_,rfl,ah ⟨aj,Ω.call (QU gQ) lz ?_⟩⟩;cases iW;cases jl;have⟨c7,nN,aA⟩:=ι aA;refine Br.cA nN (λhb nN=>?_) λhb nN=>?_
    .cases nN;cases aA;exact wt ⟨lr,lr,Q8⟩ J3 rfl
    refine⟨_,rfl,?_⟩;cases nN;cases aA;exact wt ⟨lr,lr,Q8⟩ J3 rfl
   cases iW;cases jl;have⟨c7,q8,aA⟩:=ι aA;replace q8:=dE q8;refine⟨_,rfl,?_⟩;cases q8;cases aA;exact wt ⟨lr,lr,Q8⟩ J3 rfl
  cases az;have⟨c3,q9,aA⟩:=ι aA;replace q9:=dE q9;cases q9;have⟨c4,pG,aA⟩:=ι aA;replace pG:=dE pG;cases pG;have⟨c6,mY,aA⟩:=ι aA;refine Br.cA mY (λhb mY=>?_) λhb mY=>?_
  .cases mY;have⟨c7,pH,aA⟩:=ι aA;replace pH:=dS pH;cases pH;cases aA;exact wt ⟨lr,lr,Q8⟩ J3 rfl
  have⟨c5,tX,mY⟩:=ι mY;refine⟨_,rfl,Br.ite tX (λhb tX=>?_) λhb tX=>?_⟩
  .have⟨aj,tX⟩:=aq tX;have⟨dI,gQ,tX⟩:=ι tX;refine⟨_,rfl,ah ⟨aj,Ω.call (QU gQ) lz ?_⟩⟩;cases tX;cases mY;have⟨c7,DE,aA⟩:=ι aA;refine Br.cA DE (λhb DE=>?_) λhb DE=>?_
   .cases DE;cases aA;exact wt ⟨lr,lr,Q8⟩ J3 rfl
   refine⟨_,rfl,?_⟩;cases DE;cases aA;exact wt ⟨lr,lr,Q8⟩ J3 rfl
  cases tX;cases mY;have⟨c7,MV,aA⟩:=ι aA;replace MV:=dE MV;refine⟨_,rfl,?_⟩;cases MV;cases aA;exact wt ⟨lr,lr,Q8⟩ J3 rfl
 refine ct h (λhb h=>?_) λhb h=>?_
 .cases h;exact sg ⟨_,rfl,_,rfl,rt ⟨_,rfl,Fz.t fq⟩⟩
 have⟨ez,jT,h⟩:=ι h;have⟨v4,aU,h⟩:=ι h;refine sk (sg ⟨_,rfl,Ω.call (QV jT) lz ⟨_,rfl,Ok.aD ⟨Ψ [(3,vi d),(4,vs e),(10,.b 10 0),(13,vi x1.1),(16,vi v1),(18,.b 18 0),(21,.b 21 0)],[(10,.box (k1 0 0)),(18,.box (b4 x6.1)),(21,.box (k0 v4.1 v4.2.1 v4.2.2))]⟩ ?_ ?_⟩⟩)
 .refine sg (ct aU (λhb aU=>?_) λhb aU=>?_)
  .have⟨dU,kb,aU⟩:=ι aU;have⟨fy,nV,aU⟩:=ι aU;refine rg ⟨_,rfl,Ω.call (QV kb) lz (Ω.call (Y_ nV) lz ⟨_,rfl,?_⟩)⟩;cases aU;exact wt Q7 J3 rfl
  refine sk ?_;cases aU;exact wt Q7 J3 rfl
 have⟨v5,bh,h⟩:=ι h;refine Ok.aD ⟨Ψ [(3,vi d),(4,vs e),(10,.b 10 0),(13,vi x1.1),(16,vi v1),(21,.b 21 0)],[(10,.box (k1 0 0)),(21,.box (k0 v5.1 v5.2.1 v5.2.2))]⟩ ?_ ?_
 .refine sg ⟨_,rfl,ct bh (λhb bh=>?_) λhb bh=>?_⟩
  .have⟨ly,vR,bh⟩:=ι bh;refine sg ⟨_,rfl,rg ⟨_,rfl,_,rfl,Ω.call (zG vR) lz ⟨_,rfl,?_⟩⟩⟩;cases bh;exact wt Q6 J2 rfl
  refine sk ?_;cases bh;exact wt Q6 J2 rfl
 have⟨sZ,D5,h⟩:=ι h;cases h;exact sg ⟨_,rfl,Ω.call (QT D5) lz ⟨_,rfl,rt ⟨_,rfl,Fz.t fq⟩⟩⟩
def aiS{c d r}(h:Fy c d=V r):Pure prog 49 [.a (b2 c),.a (lJ d)] (.t [.a (b2 r.1),.a (iS r.2)]):=by
 refine pq tok 196 func49 ?_;unfold Fy at h;refine sg (sg ⟨_,rfl,_,rfl,sq (sg ⟨_,rfl,ct h (λhb h=>?_) λhb h=>?_⟩)⟩)
 .have⟨x1,Θ,h⟩:=ι h;refine sg ⟨_,rfl,_,rfl,Ω.call (QS Θ) lz (sq (sg (ct h (λhb h=>?_) λhb h=>?_)))⟩
  .have⟨x2,ar,h⟩:=ι h;cases h;exact sq (dw 3 tok mixed ⟨_,⟨_,rfl,rfl⟩,_,rfl,_,⟨_,.dN (kq ar) lz,rfl⟩,Q0,_,rfl,_,rfl,rt ⟨_,rfl,_,rfl,Fz.t fq⟩⟩)
  have⟨x3,aL,h⟩:=ι h;refine sk (sg ⟨_,rfl,_,rfl,Ω.call (QZ aL) lz (sq (sg (ct h (λhb h=>?_) λhb h=>?_)))⟩)
  .have⟨x4,aZ,h⟩:=ι h;cases h;exact sq (dw 3 tok mixed ⟨_,⟨_,rfl,rfl⟩,_,rfl,_,⟨_,.dN (kq aZ) lz,rfl⟩,Q0,_,rfl,_,rfl,rt ⟨_,rfl,_,rfl,Fz.t fq⟩⟩)
  have⟨x5,bT,h⟩:=ι h;have⟨x6,dg,h⟩:=ι h;cases h;exact sk (sg ⟨_,rfl,Ω.call (aim bT) lz ⟨_,rfl,sg ⟨_,rfl,_,rfl,_,rfl,Ω.call (zH dg) (l4 (.cons (Le.a (l4 (l1 (.cons (Le.nil) (.cons (Le.nil) .nil))))) .nil)) ⟨_,rfl,_,rfl,sq (Ok.iG (m:=2) (late:=[1]) (MD:=⟨[]⟩) (CH:=⟨[]⟩) tok mixed (by kernel_rfl) ⟨_,⟨_,rfl,rfl⟩,_,⟨_,rfl,rfl⟩,Q0,_,rfl,⟨⟨_,rfl,_,rfl,rfl⟩,Q0⟩,_,rfl,rt ⟨_,rfl,_,rfl,Fz.t fq⟩⟩)⟩⟩⟩⟩)
 have⟨x7,du,h⟩:=ι h;refine sk (sg ⟨_,rfl,_,rfl,Ω.call (QZ du) lz (sq (sg (ct h (λhb h=>?_) λhb h=>?_)))⟩)
 .have⟨x8,eJ,h⟩:=ι h;cases h;exact sq (dw 3 tok mixed ⟨_,⟨_,rfl,rfl⟩,_,rfl,_,⟨_,.dN (kq eJ) lz,rfl⟩,Q0,_,rfl,_,rfl,rt ⟨_,rfl,_,rfl,Fz.t fq⟩⟩)
 refine sk (sq (sg ⟨_,rfl,bl (sg (ct h (λhb h=>?_) λhb h=>?_))⟩))
 .have⟨x9,ga,h⟩:=ι h;have⟨dI,gQ,h⟩:=ι h;cases h;exact sg ⟨_,rfl,_,rfl,Ω.call (aik ga) lz ⟨_,rfl,sg ⟨_,rfl,_,rfl,_,rfl,_,rfl,Ω.call (zH gQ) (l4 (.cons (Le.a (l4 (l1 (.cons (Le.nil) (.cons (Le.nil) .nil))))) .nil)) ⟨_,rfl,_,rfl,sq (Ok.iG (m:=2) (late:=[1]) (MD:=⟨[]⟩) (CH:=⟨[]⟩) tok mixed (by kernel_rfl) ⟨_,⟨_,rfl,rfl⟩,_,⟨_,rfl,rfl⟩,Q0,_,rfl,⟨⟨_,rfl,_,rfl,rfl⟩,Q0⟩,_,rfl,rt ⟨_,rfl,_,rfl,Fz.t fq⟩⟩)⟩⟩⟩⟩
 refine sg (ct h (λhb h=>?_) λhb h=>?_)
 .have⟨ez,jT,h⟩:=ι h;have⟨dU,kb,h⟩:=ι h;cases h;exact sg ⟨_,rfl,Ω.call (ais jT) lz ⟨_,rfl,sg ⟨_,rfl,_,rfl,_,rfl,Ω.call (zH kb) (l4 (.cons (Le.a (l4 (l1 (.cons (Le.nil) (.cons (Le.nil) .nil))))) .nil)) ⟨_,rfl,_,rfl,sq (Ok.iG (m:=2) (late:=[1]) (MD:=⟨[]⟩) (CH:=⟨[]⟩) tok mixed (by kernel_rfl) ⟨_,⟨_,rfl,rfl⟩,_,⟨_,rfl,rfl⟩,Q0,_,rfl,⟨⟨_,rfl,_,rfl,rfl⟩,Q0⟩,_,rfl,rt ⟨_,rfl,_,rfl,Fz.t fq⟩⟩)⟩⟩⟩⟩
 have⟨fy,nV,h⟩:=ι h;refine sk (sg ⟨_,rfl,_,rfl,Ω.call (QZ nV) lz (sq (sg (ct h (λhb h=>?_) λhb h=>?_)))⟩)
 .have⟨ly,vR,h⟩:=ι h;cases h;exact sq (dw 3 tok mixed ⟨_,⟨_,rfl,rfl⟩,_,rfl,_,⟨_,.dN (kq vR) lz,rfl⟩,Q0,_,rfl,_,rfl,rt ⟨_,rfl,_,rfl,Fz.t fq⟩⟩)
 have⟨sZ,D5,h⟩:=ι h;have⟨wU,NR,h⟩:=ι h;have⟨Ri,adV,h⟩:=ι h;cases h;exact sk (sg ⟨_,rfl,Ω.call (Kv D5) lz (sg ⟨_,rfl,Ω.call (ain NR) lz ⟨_,rfl,sg ⟨_,rfl,_,rfl,_,rfl,Ω.call (zH adV) (l4 (.cons (Le.a (l4 (l1 (.cons (Le.nil) (.cons (Le.nil) .nil))))) .nil)) ⟨_,rfl,_,rfl,sq (Ok.iG (m:=2) (late:=[1]) (MD:=⟨[]⟩) (CH:=⟨[]⟩) tok mixed (by kernel_rfl) ⟨_,⟨_,rfl,rfl⟩,_,⟨_,rfl,rfl⟩,Q0,_,rfl,⟨⟨_,rfl,_,rfl,rfl⟩,Q0⟩,_,rfl,rt ⟨_,rfl,_,rfl,Fz.t fq⟩⟩)⟩⟩⟩⟩)⟩)
def Zh{c r}(h:BN c=V r):Pure prog 98 [.a (b4 c)] (vi r):=by
 refine pq tok 12 func98 ?_;unfold BN at h;refine sg (sq (sg ⟨_,rfl,ct h (λhb h=>?_) λhb h=>?_⟩))
 .cases h;exact sg ⟨_,rfl,_,au _,λ_=>rt Fz.v⟩
 cases h;exact sk (sg ⟨_,rfl,_,au _,λ_=>rt Fz.v⟩)
def ail{d g e c r}(h:EJ d g e c=V r):Pure prog 99 [.a (b0 d),vi g,vi e,vi c] (.t (VJ r.1 r.2.1 r.2.2)):=by
 refine pq tok 100 func99 ?_;unfold EJ at h;have⟨v1,ν,h⟩:=ι h;refine sg (sq (Ok.aD ⟨Ψ [(1,vi g),(2,vi e),(3,vi c),(4,.b 4 0),(25,vb v1)],[(4,.box (b0 d))]⟩ ?_ ?_))
 .have⟨c1,ξ,ν⟩:=ι ν;refine rg (Br.cA ξ (λhb ξ=>?_) λhb ξ=>?_)
  .cases ξ;have⟨c2,az,ν⟩:=ι ν;replace az:=dS az;cases az;cases ν;exact wt Q5 J1 rfl
  cases ξ;have⟨c2,aQ,ν⟩:=ι ν;refine Br.cA aQ (λhb aQ=>?_) λhb aQ=>?_
  .cases aQ;cases ν;exact wt Q5 J1 rfl
  cases aQ;cases ν;exact wt Q5 J1 rfl
 refine ct h (λhb h=>?_) λhb h=>?_
 .cases h;exact sg (rt (Fz.t (.cons Fz.nil fq)))
 have⟨x1,Θ,h⟩:=ι h;refine sk (sg ⟨_,rfl,Ω.call (Ky Θ) lz ⟨_,rfl,sq (sg (ct h (λhb h=>?_) λhb h=>?_))⟩⟩)
 .cases h;exact sg (rt (Fz.t (.cons Fz.nil fq)))
 refine sk (sg (bl (Ok.loop (λ(s1:Int×(List aH))=>⟨Ψ [(2,vi s1.1),(3,vi c),(11,.b 11 0),(13,.o 92)],[(11,.box (b4 x1.1)),(92,.own 138 3 (mC s1.2))]⟩) (Jb x1 c) (s0:=(e,[])) h ((Wk.oW (t:=13) (id:=92) (E:=138) (K:=3) rfl rfl).trans (wt Q4 ⟨hr,hr,Q0⟩ rfl)) ?_)));intro s1 y1 ζ aB;unfold Jb at ζ;have⟨v2,Φ,ζ⟩:=ι ζ;refine bl (sg (Ok.aD ⟨Ψ [(3,vi c),(11,.b 11 0),(13,.o 92),(14,vi v2)],[(11,.box (b4 x1.1)),(92,.own 138 3 (mC s1.2))]⟩ ?_ ?_))
 .refine sg (bl (Ok.loop (λ(s2:Int×Int)=>⟨Ψ [(2,vi s1.1),(3,vi c),(11,.b 11 0),(13,.o 92),(14,vi s2.1),(15,vi s2.2)],[(11,.box (b4 x1.1)),(92,.own 138 3 (mC s1.2))]⟩) (Jc x1 s1) (s0:=((-1),0)) Φ (wt Q6 ⟨hr,hr,Q0⟩ rfl) ?_));intro s2 y2 av eP;unfold Jc at av;refine sq (sg ⟨_,rfl,_,au _,λ_=>ct av (λhb av=>?_) λhb av=>?_⟩)
  .have⟨v3,aA,av⟩:=ι av;refine sk (Ok.aD ⟨Ψ [(2,vi s1.1),(3,vi c),(11,.b 11 0),(13,.o 92),(14,vi v3),(15,vi s2.2)],[(11,.box (b4 x1.1)),(92,.own 138 3 (mC s1.2))]⟩ ?_ ?_)
   .have⟨v4,aU,aA⟩:=ι aA;refine bl (Ok.aD ⟨Ψ [(2,vi s1.1),(3,vi c),(11,.b 11 0),(13,.o 92),(14,vi s2.1),(15,vi s2.2),(68,vb v4)],[(11,.box (b4 x1.1)),(92,.own 138 3 (mC s1.2))]⟩ ?_ ?_)
    .have⟨x2,ar,aU⟩:=ι aU;have⟨c4,bC,aU⟩:=ι aU;refine dw 27 tok mixed ⟨_,rfl,_,⟨_,rfl,rfl⟩,_,rfl,_,⟨_,aO ar,_,aP ar,rfl⟩,_,rfl,_,⟨_,rfl,rfl⟩,_,rfl,_,rfl,_,rfl,Br.ite bC (λhb bC=>?_) λhb bC=>?_⟩
     .have⟨c3,bX,bC⟩:=ι bC;refine⟨_,rfl,_,rfl,_,rfl,Br.cA bX (λhb bX=>?_) λhb bX=>?_⟩
      .cases bX;refine⟨_,rfl,?_⟩;cases bC;refine⟨_,rfl,Q0,?_⟩;cases aU;exact wt Q7 J2 rfl
      have⟨x3,aL,bX⟩:=ι bX;have⟨x4,aZ,bX⟩:=ι bX;refine⟨_,rfl,_,⟨_,rfl,rfl⟩,_,rfl,_,⟨_,aO aL,_,aP aL,rfl⟩,_,rfl,_,⟨_,rfl,rfl⟩,_,rfl,_,⟨_,rfl,rfl⟩,_,rfl,_,⟨_,aO aZ,_,aP aZ,rfl⟩,_,rfl,_,⟨_,rfl,rfl⟩,_,rfl,?_⟩;cases bX;refine⟨_,rfl,?_⟩;cases bC;refine⟨_,rfl,Q0,?_⟩;cases aU;exact wt Q7 J2 rfl
     cases bC;refine⟨_,rfl,Q0,?_⟩;cases aU;exact wt Q7 J2 rfl
    refine ct aA (λhb aA=>?_) λhb aA=>?_
    .refine rg ?_;cases aA;exact wt Q6 J2 rfl
    refine sk ?_;cases aA;exact wt Q6 J2 rfl
   have⟨aj,av⟩:=aq av;exact rg (ah ⟨aj,_,sj av,wt Q6 J2 rfl⟩)
  refine xt ?_;have av:=aT av eP;cases av;exact wt Q4 J2 rfl
 refine sq (sg (ct ζ (λhb ζ=>?_) λhb ζ=>?_))
 .refine sg (rt ?_);have ζ:=aT ζ aB;cases ζ;exact(Fz.t (.cons (Fz.o rfl) fq))
 refine sk (sq (sg ⟨_,au _,λ_=>ct ζ (λhb ζ=>?_) λhb ζ=>?_⟩))
 .have⟨aX,ζ⟩:=aq ζ;have⟨x5,bT,ζ⟩:=ι ζ;have⟨bY,ζ⟩:=aq ζ;refine sq (dw 11 tok mixed ⟨_,rfl,_,rfl,_,rfl,_,ah ⟨aX,rfl⟩,_,⟨_,aO bT,ll bT,rfl⟩,_,rfl,_,⟨_,aP bT,rfl,_,rfl,rfl⟩,_,ah ⟨bY,rfl⟩,_,rfl,_,rfl,_,rfl,Q0,rt ?_⟩);have ζ:=aT ζ aB;cases ζ;exact(Fz.t (.cons (Fz.o rfl) fq))
 have⟨x6,dg,ζ⟩:=ι ζ;have⟨dL,ζ⟩:=aq ζ;have⟨x7,du,ζ⟩:=ι ζ;have⟨fL,ζ⟩:=aq ζ;exact sk (sg ⟨_,rfl,_,aO dg,_,aP dg,_,rfl,ah ⟨c_ (f:=fB) (n:=3) (λ_=>rfl) ([x6]),c8 (f:=fB) (l:=s1.2) (l':=[x6]) dL,_,(bO (f:=fB) (l₁:=s1.2) (l₂:=[x6])).symm,rg ⟨_,rfl,_,aO du,_,aP du,_,rfl,ah ⟨fL,_,sj ζ,wt Q4 J2 rfl⟩⟩⟩⟩)
def Zb{c d r}(h:BG c d=V r):Pure prog 154 [.a (b0 c),vi d] (vb r):=by
 refine pq tok 24 func154 ?_;unfold BG at h;have⟨x1,Θ,h⟩:=ι h;have⟨v1,ν,h⟩:=ι h;refine sg (sg ⟨_,rfl,Ω.call (jd Θ) lz ⟨_,rfl,Ok.aD ⟨Ψ [(4,vb v1)],[]⟩ ?_ ?_⟩⟩)
 .have⟨c1,ξ,ν⟩:=ι ν;refine rg (Br.ite ξ (λhb ξ=>?_) λhb ξ=>?_)
  .refine⟨_,rfl,?_⟩;cases ξ;have⟨c2,az,ν⟩:=ι ν;refine Br.ite az (λhb az=>?_) λhb az=>?_
   .refine⟨_,rfl,?_⟩;cases az;cases ν;exact wt Q1 Q0 rfl
   cases az;cases ν;exact wt Q1 Q0 rfl
  cases ξ;have⟨c2,aQ,ν⟩:=ι ν;replace aQ:=dE aQ;cases aQ;cases ν;exact wt Q1 Q0 rfl
 cases h;exact rt Fz.v
def QX{a b c r}(h:y9 a b c=V r):Pure prog 155 (VN a b c) (vi r):=by
 refine pq tok 31 func155 ?_;unfold y9 at h;refine sg (Ok.dy (λv1=>⟨Ψ [],[]⟩) (λv1=>Pd v1=V r) ?_ ?_)
 .refine sg (bl (Ok.loop (λ(s1:Int)=>⟨Ψ [(0,.s (mF a)),(1,vi b),(2,vi c),(7,vi s1)],[]⟩) (Ji a b c) (s0:=0) h (wt Q4 Q0 rfl) ?_));intro s1 y1 ζ aB;unfold Ji at ζ;refine sq (sg ⟨_,au _,λ_=>ct ζ (λhb ζ=>?_) λhb ζ=>?_⟩)
  .have⟨v2,Φ,ζ⟩:=ι ζ;refine sk (sq (bl (Ok.aD ⟨Ψ [(0,.s (mF a)),(1,vi b),(2,vi c),(7,vi s1),(29,vb v2)],[]⟩ ?_ ?_)))
   .have⟨x1,Θ,Φ⟩:=ι Φ;have⟨c1,ξ,Φ⟩:=ι Φ;refine rg ⟨_,aO Θ,_,aP Θ,_,rfl,Br.ite ξ (λhb ξ=>?_) λhb ξ=>?_⟩
    .have⟨x2,ar,ξ⟩:=ι ξ;refine⟨_,aO ar,_,aP ar,_,rfl,?_⟩;cases ξ;cases Φ;exact wt Q5 Q0 rfl
    cases ξ;cases Φ;exact wt Q5 Q0 rfl
   refine ct ζ (λhb ζ=>?_) λhb ζ=>?_
   .refine sg (rt ?_);have ζ:=aT ζ aB;cases ζ;exact Fz.v
   have⟨aj,ζ⟩:=aq ζ;exact sk (rg (ah ⟨aj,_,sj ζ,wt Q4 Q0 rfl⟩))
  refine xt ?_;have ζ:=aT ζ aB;exact⟨_,ζ,wt Q0 Q0 rfl⟩
 intro v1 h;unfold Pd at h;cases h;exact sg (rt Fz.v)
def aiz{i c d e g r}(h:E4 i c d e g=V r):Pure prog 100 [.a (b0 i),.s (mF c),vi d,vi e,vi g] (.t [.s (mF r.1),vi r.2]):=by
 refine pq tok 110 func100 ?_;unfold E4 at h;have⟨x1,Θ,h⟩:=ι h;have⟨v1,ν,h⟩:=ι h;refine sg (sg ⟨_,rfl,Ω.call (jd Θ) lz ⟨_,rfl,sq (Ok.aD ⟨Ψ [(1,.s (mF c)),(2,vi d),(3,vi e),(4,vi g),(5,.b 5 0),(12,.b 12 0),(13,vb x1.2),(35,vb v1)],[(5,.box (b0 i)),(12,.box (b4 x1.1))]⟩ ?_ ?_)⟩⟩)
 .have⟨c1,ξ,ν⟩:=ι ν;refine rg (Br.cA ξ (λhb ξ=>?_) λhb ξ=>?_)
  .cases ξ;have⟨c2,az,ν⟩:=ι ν;replace az:=dS az;cases az;have⟨c3,aQ,ν⟩:=ι ν;replace aQ:=dS aQ;cases aQ;cases ν;exact wt Q8 J2 rfl
  cases ξ;have⟨c2,bC,ν⟩:=ι ν;refine Br.cA bC (λhb bC=>?_) λhb bC=>?_
  .cases bC;have⟨c3,bX,ν⟩:=ι ν;replace bX:=dS bX;cases bX;cases ν;exact wt Q8 J2 rfl
  cases bC;have⟨c3,cI,ν⟩:=ι ν;refine Br.cA cI (λhb cI=>?_) λhb cI=>?_
  .cases cI;cases ν;exact wt Q8 J2 rfl
  cases cI;cases ν;exact wt Q8 J2 rfl
 refine ct h (λhb h=>?_) λhb h=>?_
 .cases h;exact sg (rt (Fz.t (.cons Fz.s fq)))
 have⟨v2,Φ,h⟩:=ι h;refine sk (sq (Ok.aD ⟨Ψ [(1,.s (mF c)),(2,vi d),(3,vi e),(4,vi g),(12,.b 12 0),(43,vb v2)],[(12,.box (b4 x1.1))]⟩ ?_ ?_))
 .have⟨c4,cJ,Φ⟩:=ι Φ;refine rg (Br.cA cJ (λhb cJ=>?_) λhb cJ=>?_)
  .cases cJ;cases Φ;exact wt Q6 J1 rfl
  have⟨x2,ar,cJ⟩:=ι cJ;refine⟨_,rfl,Ω.call (Zb ar) lz ?_⟩;cases cJ;cases Φ;exact wt Q6 J1 rfl
 refine ct h (λhb h=>?_) λhb h=>?_
 .cases h;exact sg (rt (Fz.t (.cons Fz.s fq)))
 refine sk (sq (sg ⟨_,rfl,ct h (λhb h=>?_) λhb h=>?_⟩))
 .cases h;exact sg (rt (Fz.t (.cons Fz.s fq)))
 have⟨x3,aL,h⟩:=ι h;refine sk (sq (sg (Ω.call (QX aL) lz (ct h (λhb h=>?_) λhb h=>?_))))
 .cases h;exact sg (rt (Fz.t (.cons Fz.s fq)))
 refine sk (sq (sg ⟨_,au _,λ_=>ct h (λhb h=>?_) λhb h=>?_⟩))
 .cases h;exact sg (rt (Fz.t (.cons Fz.s fq)))
 have⟨v3,aA,h⟩:=ι h;refine sk (sg (Ok.aD ⟨Ψ [(1,.s (mF c)),(2,vi d),(3,vi e),(4,vi g),(14,vi v3)],[]⟩ ?_ ?_))
 .refine bl (Ok.loop (λ(s1:Int)=>⟨Ψ [(1,.s (mF c)),(2,vi d),(3,vi e),(4,vi g),(14,vi s1)],[]⟩) (Jh c d e) (s0:=0) aA (wt Q5 Q0 rfl) ?_);intro s1 y1 ζ aB;unfold Jh at ζ;have⟨v4,aU,ζ⟩:=ι ζ;refine sq (Ok.aD ⟨Ψ [(1,.s (mF c)),(2,vi d),(3,vi e),(4,vi g),(14,vi s1),(89,vb v4)],[]⟩ ?_ ?_)
  .have⟨c7,c9,aU⟩:=ι aU;refine rg ⟨_,au _,λ_=>Br.ite c9 (λhb c9=>?_) λhb c9=>?_⟩
   .have⟨x4,aZ,c9⟩:=ι c9;have⟨c6,dr,c9⟩:=ι c9;refine⟨_,aO aZ,_,aP aZ,_,rfl,Br.cA dr (λhb dr=>?_) λhb dr=>?_⟩
    .cases dr;cases c9;cases aU;exact wt Q6 Q0 rfl
    have⟨x5,bT,dr⟩:=ι dr;have⟨c5,dY,dr⟩:=ι dr;refine⟨_,aO bT,_,aP bT,_,rfl,Br.ite dY (λhb dY=>?_) λhb dY=>?_⟩
    .have⟨x6,dg,dY⟩:=ι dY;refine⟨_,aO dg,_,aP dg,_,rfl,?_⟩;cases dY;cases dr;cases c9;cases aU;exact wt Q6 Q0 rfl
    cases dY;cases dr;cases c9;cases aU;exact wt Q6 Q0 rfl
   cases c9;cases aU;exact wt Q6 Q0 rfl
  refine ct ζ (λhb ζ=>?_) λhb ζ=>?_
  .have⟨aj,ζ⟩:=aq ζ;exact sk (bl (rg (ah ⟨aj,_,sj ζ,wt Q5 Q0 rfl⟩)))
  refine xt ?_;have ζ:=aT ζ aB;cases ζ;exact wt Q5 Q0 rfl
 have⟨aX,h⟩:=aq h;have⟨bY,h⟩:=aq h;have⟨dL,h⟩:=aq h;have⟨fL,h⟩:=aq h;have⟨qY,h⟩:=aq h;cases h;exact sg (Or.inr ⟨_,gJ aX.1,Nat.zero_le _,pU aX,oc (f:=gX) (K:=3) (λ_=>rfl) c,_,zu _ _ _,c_ (f:=gX) (n:=3) (λ_=>rfl) (c.take v3.toNat),c8 (f:=gX) (l:=([]:List bg)) (l':=c.take v3.toNat) bY,_,(bO (f:=gX) (l₁:=([]:List bg)) (l₂:=c.take v3.toNat)).symm,sg (ah ⟨c_ (f:=gX) (n:=3) (λ_=>rfl) ([(⟨d,e,g⟩:bg)]),c8 (f:=gX) (l:=([]:List bg)++(c.take v3.toNat)) (l':=[(⟨d,e,g⟩:bg)]) dL,_,(bO (f:=gX) (l₁:=([]:List bg)++(c.take v3.toNat)) (l₂:=[(⟨d,e,g⟩:bg)])).symm,sg ⟨_,gJ fL.1,pU fL,Nat.le_refl _,oc (f:=gX) (K:=3) (λ_=>rfl) c,_,FK _ _ _,c_ (f:=gX) (n:=3) (λ_=>rfl) (c.drop v3.toNat),c8 (f:=gX) (l:=(([]:List bg)++(c.take v3.toNat))++[(⟨d,e,g⟩:bg)]) (l':=c.drop v3.toNat) qY,_,(bO (f:=gX) (l₁:=(([]:List bg)++(c.take v3.toNat))++[(⟨d,e,g⟩:bg)]) (l₂:=c.drop v3.toNat)).symm,sg (rt (Fz.t (.cons (Fz.o rfl) fq)))⟩⟩)⟩)
end Go.Proofs
