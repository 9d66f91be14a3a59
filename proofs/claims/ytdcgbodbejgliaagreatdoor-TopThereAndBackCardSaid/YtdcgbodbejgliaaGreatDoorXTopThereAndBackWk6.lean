/- The walks of this seat beside the plain programs, part 6. No condition. -/
import Derived.Test.YtdcgbodbejgliaaGreatDoorXTopThereAndBackWk5
open Option renaming some->V
open List renaming length_map->au,map_append->bO
open Or renaming inl->ah
namespace Go.Proofs
set_option linter.all false
open Go Go.Cat Tryz
variable[M:cD][K:LK]
set_option maxRecDepth 100000
set_option maxHeartbeats 4000000
def Zc{c d r}(h:wE c d=V r):Pure prog 157 [.a (b0 c),vi d] (.t [vi r.1,vi r.2]):=by
 refine pq tok 42 func157 ?_;unfold wE at h;have⟨x1,Θ,h⟩:=ι h;refine sg (sg ⟨_,rfl,Ω.call (Zd Θ) lz (sq (sg (ct h (λhb h=>?_) λhb h=>?_)))⟩)
 .cases h;exact sg (rt (Fz.t fq))
 have⟨x2,ar,h⟩:=ι h;have⟨v1,ν,h⟩:=ι h;refine sk (sg ⟨_,rfl,Ω.call (aiD ar) lz (sg (sg (Ok.aD ⟨Ψ [(8,vi v1.1),(9,vi v1.2)],[]⟩ ?_ ?_)))⟩)
 .refine sg (bl (Ok.loop (λ(s1:Int×Int×Int)=>⟨Ψ [(2,.b 2 0),(7,.s (mH x2)),(8,vi s1.1),(9,vi s1.2.1),(10,vi s1.2.2)],[(2,.box (b0 c))]⟩) (E7 x2 c) (s0:=(0,0,0)) ν (wt Q5 ⟨hr,Q0⟩ rfl) ?_));intro s1 y1 ζ aB;unfold E7 at ζ;refine sq (sg ⟨_,au _,λ_=>ct ζ (λhb ζ=>?_) λhb ζ=>?_⟩)
  .have⟨v2,Φ,ζ⟩:=ι ζ;refine sk (Ok.aD ⟨Ψ [(2,.b 2 0),(7,.s (mH x2)),(8,vi v2.1),(9,vi v2.2),(10,vi s1.2.2)],[(2,.box (b0 c))]⟩ ?_ ?_)
   .have⟨x3,aL,Φ⟩:=ι Φ;refine bl (sg ⟨_,aO aL,_,aP aL,_,rfl,ct Φ (λhb Φ=>?_) λhb Φ=>?_⟩)
    .have⟨aj,Φ⟩:=aq Φ;have⟨x4,aZ,Φ⟩:=ι Φ;have⟨aX,Φ⟩:=aq Φ;refine sg (ah ⟨aj,rg ⟨_,rfl,_,aO aZ,_,aP aZ,_,rfl,_,au _,λ_=>(ah ⟨aX,?_⟩)⟩⟩);cases Φ;exact wt Q5 J1 rfl
    refine sk ?_;cases Φ;exact wt Q5 J1 rfl
   have⟨bY,ζ⟩:=aq ζ;exact rg (ah ⟨bY,_,sj ζ,wt Q5 J1 rfl⟩)
  refine xt ?_;have ζ:=aT ζ aB;cases ζ;exact wt Q2 Q0 rfl
 cases h;exact sg (rt (Fz.t fq))
def aiO{c d r}(h:Ft c d=V r):Pure prog 224 [.a (b0 c),.s (mA d)] (vb r):=by
 refine pq tok 40 func224 ?_;unfold Ft at h;refine sg (Ok.dy (λv1=>⟨Ψ [],[]⟩) (λv1=>Ps v1=V r) ?_ ?_)
 .refine sg (bl (Ok.loop (λ(s1:Int)=>⟨Ψ [(1,.s (mA d)),(2,.b 2 0),(5,vi s1)],[(2,.box (b0 c))]⟩) (JC d c) (s0:=0) h (wt Q3 ⟨hr,Q0⟩ rfl) ?_));intro s1 y1 ζ aB;unfold JC at ζ;refine sq (sg ⟨_,au _,λ_=>ct ζ (λhb ζ=>?_) λhb ζ=>?_⟩)
  .have⟨x1,Θ,ζ⟩:=ι ζ;have⟨x2,ar,ζ⟩:=ι ζ;have⟨v2,Φ,ζ⟩:=ι ζ;refine sk (sq (bl (sq (dw 12 tok mixed ⟨_,⟨_,rfl,rfl⟩,_,rfl,_,rfl,_,⟨_,aO Θ,_,aP Θ,rfl⟩,_,rfl,_,⟨_,rfl,rfl⟩,_,⟨_,.dN (Zc ar) lz,rfl⟩,_,rfl,_,rfl,_,rfl,_,rfl,_,rfl,Q0,Ok.aD ⟨Ψ [(1,.s (mA d)),(2,.b 2 0),(5,vi s1),(39,vb v2)],[(2,.box (b0 c))]⟩ ?_ ?_⟩))))
   .have⟨x3,aL,Φ⟩:=ι Φ;have⟨c1,ξ,Φ⟩:=ι Φ;refine rg ⟨_,aO aL,_,aP aL,_,rfl,Br.cA ξ (λhb ξ=>?_) λhb ξ=>?_⟩
    .cases ξ;cases Φ;exact wt Q4 J1 rfl
    have⟨x4,aZ,ξ⟩:=ι ξ;refine⟨_,aO aZ,_,aP aZ,_,rfl,?_⟩;cases ξ;cases Φ;exact wt Q4 J1 rfl
   refine ct ζ (λhb ζ=>?_) λhb ζ=>?_
   .refine sg (rt ?_);have ζ:=aT ζ aB;cases ζ;exact Fz.v
   have⟨aj,ζ⟩:=aq ζ;exact sk (rg (ah ⟨aj,_,sj ζ,wt Q3 J1 rfl⟩))
  refine xt ?_;have ζ:=aT ζ aB;exact⟨_,ζ,wt Q0 Q0 rfl⟩
 intro v1 h;unfold Ps at h;cases h;exact sg (rt Fz.v)
def aiq{a b r}(h:EN a b=V r):Pure prog 139 [.s (mC a),.s (mC b)] (vb r):=by
 refine pq tok 26 func139 ?_;unfold EN at h;refine sg (sq (sg ⟨_,au _,λ_=>⟨_,au _,λ_=>ct h (λhb h=>?_) λhb h=>?_⟩⟩))
 .cases h;exact sg (rt Fz.v)
 refine sk (Ok.dy (λv1=>⟨Ψ [],[]⟩) (λv1=>O_ v1=V r) ?_ ?_)
 .refine sg (bl (Ok.loop (λ(s1:Int)=>⟨Ψ [(0,.s (mC a)),(1,.s (mC b)),(5,vi s1)],[]⟩) (EO a b) (s0:=0) h (wt Q3 Q0 rfl) ?_));intro s1 y1 ζ aB;unfold EO at ζ;refine sq (sg ⟨_,au _,λ_=>ct ζ (λhb ζ=>?_) λhb ζ=>?_⟩)
  .have⟨x1,Θ,ζ⟩:=ι ζ;have⟨x2,ar,ζ⟩:=ι ζ;refine sk (sq (bl (sq (dw 9 tok mixed ⟨_,rfl,_,rfl,_,⟨_,aO Θ,_,aP Θ,rfl⟩,_,⟨_,rfl,rfl⟩,_,rfl,_,rfl,_,⟨_,aO ar,_,aP ar,rfl⟩,_,⟨_,rfl,rfl⟩,_,⟨[.one (.str),.one (.int .i64),.one (.int .i64)],by kernel_rfl,rfl⟩,Q0,ct ζ (λhb ζ=>?_) λhb ζ=>?_⟩))))
   .refine sg (rt ?_);have ζ:=aT ζ aB;cases ζ;exact Fz.v
   have⟨aj,ζ⟩:=aq ζ;exact sk (rg (ah ⟨aj,_,sj ζ,wt Q3 Q0 rfl⟩))
  refine xt ?_;have ζ:=aT ζ aB;exact⟨_,ζ,wt Q0 Q0 rfl⟩
 intro v1 h;unfold O_ at h;cases h;exact sg (rt Fz.v)
def QR{c d r}(h:yW c d=V r):Pure prog 81 [.a (b4 c),.a (b4 d)] (vb r):=by
 refine pq tok 45 func81 ?_;unfold yW at h;have⟨v1,ν,h⟩:=ι h;refine sg (sq (Ok.aD ⟨Ψ [(2,.b 2 0),(3,.b 3 0),(39,vb v1)],[(2,.box (b4 c)),(3,.box (b4 d))]⟩ ?_ ?_))
 .have⟨c1,ξ,ν⟩:=ι ν;refine rg ⟨_,rfl,_,rfl,Br.cA ξ (λhb ξ=>?_) λhb ξ=>?_⟩
  .cases ξ;have⟨c2,az,ν⟩:=ι ν;replace az:=dS az;cases az;have⟨c3,aQ,ν⟩:=ι ν;replace aQ:=dS aQ;cases aQ;have⟨c4,bC,ν⟩:=ι ν;replace bC:=dS bC;cases bC;cases ν;exact wt Q3 J2 rfl
  refine⟨_,rfl,_,rfl,?_⟩;cases ξ;have⟨c2,bX,ν⟩:=ι ν;refine Br.cA bX (λhb bX=>?_) λhb bX=>?_
  .cases bX;have⟨c3,cI,ν⟩:=ι ν;replace cI:=dS cI;cases cI;have⟨c4,cJ,ν⟩:=ι ν;replace cJ:=dS cJ;cases cJ;cases ν;exact wt Q3 J2 rfl
  refine⟨_,rfl,_,rfl,?_⟩;cases bX;have⟨c3,c9,ν⟩:=ι ν;refine Br.cA c9 (λhb c9=>?_) λhb c9=>?_
  .cases c9;have⟨c4,dr,ν⟩:=ι ν;replace dr:=dS dr;cases dr;cases ν;exact wt Q3 J2 rfl
  refine⟨_,rfl,_,rfl,?_⟩;cases c9;have⟨c4,dY,ν⟩:=ι ν;refine Br.cA dY (λhb dY=>?_) λhb dY=>?_
  .cases dY;cases ν;exact wt Q3 J2 rfl
  refine⟨_,rfl,_,rfl,_,rfl,_,rfl,_,FU _ _,?_⟩;cases dY;cases ν;exact wt Q3 J2 rfl
 refine ct h (λhb h=>?_) λhb h=>?_
 .cases h;exact sg (rt Fz.v)
 have⟨x1,Θ,h⟩:=ι h;cases h;exact sk (sg ⟨_,rfl,_,rfl,Ω.call (aiq Θ) lz (rt Fz.v)⟩)
def air{a b r}(h:EP a b=V r):Pure prog 138 [.s (mI a),.s (mI b)] (vb r):=by
 refine pq tok 27 func138 ?_;unfold EP at h;refine sg (sq (sg ⟨_,au _,λ_=>⟨_,au _,λ_=>ct h (λhb h=>?_) λhb h=>?_⟩⟩))
 .cases h;exact sg (rt Fz.v)
 refine sk (Ok.dy (λv1=>⟨Ψ [],[]⟩) (λv1=>O' v1=V r) ?_ ?_)
 .refine sg (bl (Ok.loop (λ(s1:Int)=>⟨Ψ [(0,.s (mI a)),(1,.s (mI b)),(5,vi s1)],[]⟩) (ER a b) (s0:=0) h (wt Q3 Q0 rfl) ?_));intro s1 y1 ζ aB;unfold ER at ζ;refine sq (sg ⟨_,au _,λ_=>ct ζ (λhb ζ=>?_) λhb ζ=>?_⟩)
  .have⟨x1,Θ,ζ⟩:=ι ζ;have⟨x2,ar,ζ⟩:=ι ζ;have⟨x3,aL,ζ⟩:=ι ζ;refine sk (sq (bl (sq (dw 10 tok mixed ⟨_,rfl,_,rfl,_,⟨_,aO Θ,_,aP Θ,rfl⟩,_,⟨_,rfl,rfl⟩,_,rfl,_,rfl,_,⟨_,aO ar,_,aP ar,rfl⟩,_,⟨_,rfl,rfl⟩,_,⟨_,.dN (QR aL) lz,rfl⟩,_,rfl,Q0,ct ζ (λhb ζ=>?_) λhb ζ=>?_⟩))))
   .refine sg (rt ?_);have ζ:=aT ζ aB;cases ζ;exact Fz.v
   have⟨aj,ζ⟩:=aq ζ;exact sk (rg (ah ⟨aj,_,sj ζ,wt Q3 Q0 rfl⟩))
  refine xt ?_;have ζ:=aT ζ aB;exact⟨_,ζ,wt Q0 Q0 rfl⟩
 intro v1 h;unfold O' at h;cases h;exact sg (rt Fz.v)
def aip{c d r}(h:EM c d=V r):Pure prog 80 [.a (b0 c),.a (b0 d)] (vb r):=by
 refine pq tok 24 func80 ?_;unfold EM at h;have⟨v1,ν,h⟩:=ι h;refine sg (Ok.aD ⟨Ψ [(4,vb v1)],[]⟩ ?_ ?_)
 .have⟨c1,ξ,ν⟩:=ι ν;refine rg ⟨_,rfl,_,rfl,Br.ite ξ (λhb ξ=>?_) λhb ξ=>?_⟩
  .refine⟨_,rfl,_,rfl,?_⟩;cases ξ;have⟨c2,az,ν⟩:=ι ν;refine Br.ite az (λhb az=>?_) λhb az=>?_
   .have⟨x1,Θ,az⟩:=ι az;refine⟨_,rfl,_,rfl,Ω.call (air Θ) lz ?_⟩;cases az;cases ν;exact wt Q1 Q0 rfl
   cases az;cases ν;exact wt Q1 Q0 rfl
  cases ξ;have⟨c2,aQ,ν⟩:=ι ν;replace aQ:=dE aQ;cases aQ;cases ν;exact wt Q1 Q0 rfl
 cases h;exact rt Fz.v
def Zg{a b c r}(h:BJ a b c=V r):Pure prog 108 (VI a b c) (vb r):=by
 refine pq tok 30 func108 ?_;unfold BJ at h;refine sg (Ok.dy (λv1=>⟨Ψ [],[]⟩) (λv1=>Pr v1=V r) ?_ ?_)
 .refine sg (bl (Ok.loop (λ(s1:Int)=>⟨Ψ [(0,.s (mE a)),(1,vi b),(2,vi c),(7,vi s1)],[]⟩) (Fo a b c) (s0:=0) h (wt Q4 Q0 rfl) ?_));intro s1 y1 ζ aB;unfold Fo at ζ;refine sq (sg ⟨_,au _,λ_=>ct ζ (λhb ζ=>?_) λhb ζ=>?_⟩)
  .have⟨v2,Φ,ζ⟩:=ι ζ;refine sk (sq (bl (Ok.aD ⟨Ψ [(0,.s (mE a)),(1,vi b),(2,vi c),(7,vi s1),(29,vb v2)],[]⟩ ?_ ?_)))
   .have⟨x1,Θ,Φ⟩:=ι Φ;have⟨c1,ξ,Φ⟩:=ι Φ;refine rg ⟨_,aO Θ,_,aP Θ,_,rfl,Br.ite ξ (λhb ξ=>?_) λhb ξ=>?_⟩
    .have⟨x2,ar,ξ⟩:=ι ξ;refine⟨_,aO ar,_,aP ar,_,rfl,?_⟩;cases ξ;cases Φ;exact wt Q5 Q0 rfl
    cases ξ;cases Φ;exact wt Q5 Q0 rfl
   refine ct ζ (λhb ζ=>?_) λhb ζ=>?_
   .refine sg (rt ?_);have ζ:=aT ζ aB;cases ζ;exact Fz.v
   have⟨aj,ζ⟩:=aq ζ;exact sk (rg (ah ⟨aj,_,sj ζ,wt Q4 Q0 rfl⟩))
  refine xt ?_;have ζ:=aT ζ aB;exact⟨_,ζ,wt Q0 Q0 rfl⟩
 intro v1 h;unfold Pr at h;cases h;exact sg (rt Fz.v)
def QY{c d r}(h:zd c d=V r):Pure prog 55 [.a (b1 c),.a (b0 d)] (.a (b1 r)):=by
 refine pq tok 121 func55 ?_;unfold zd at h;have⟨x1,Θ,h⟩:=ι h;refine sg (sq (sg ⟨_,rfl,_,rfl,Ω.call (aip Θ) lz (ct h (λhb h=>?_) λhb h=>?_)⟩))
 .cases h;exact sg ⟨_,rfl,_,rfl,rt ⟨_,rfl,Fz.cP rfl⟩⟩
 have⟨aj,h⟩:=aq h;have⟨aX,h⟩:=aq h;have⟨v1,ν,h⟩:=ι h;refine sk (sg ⟨_,rfl,ah ⟨aj,sg (Or.inr ⟨_,rfl,c_ (f:=mQ) (n:=8) (λ_=>rfl) c.cM,c8 (f:=mQ) (l:=([]:List cq)) (l':=c.cM) aX,_,(bO (f:=mQ) (l₁:=([]:List cq)) (l₂:=c.cM)).symm,Ok.aD ⟨Ψ [(2,.b 2 0),(3,.b 3 0),(4,.b 4 0),(5,vi (c.bE+1)),(6,.o 23)],[(2,.box (b1 c)),(3,.box (b0 d)),(4,.box (k3 0 0 0 0)),(23,.own 98 8 (mD v1))]⟩ ?_ ?_⟩)⟩⟩)
 .refine sg (bl (Ok.loop (λ(s1:Int×(List cq))=>⟨Ψ [(2,.b 2 0),(3,.b 3 0),(4,.b 4 0),(5,vi (c.bE+1)),(6,.o 23),(7,vi s1.1)],[(2,.box (b1 c)),(3,.box (b0 d)),(4,.box (k3 0 0 0 0)),(23,.own 98 8 (mD s1.2))]⟩) (Fg c d) (s0:=(0,([]:List cq)++c.cM)) ν (wt Q6 ⟨hr,hr,hr,hr,Q0⟩ rfl) ?_));intro s1 y1 ζ aB;unfold Fg at ζ;refine sq (sg ⟨_,rfl,_,au _,λ_=>ct ζ (λhb ζ=>?_) λhb ζ=>?_⟩)
  .have⟨v2,Φ,ζ⟩:=ι ζ;refine sk (Ok.aD ⟨Ψ [(2,.b 2 0),(3,.b 3 0),(4,.b 4 0),(5,vi (c.bE+1)),(6,.o 23),(7,vi s1.1)],[(2,.box (b1 c)),(3,.box (b0 d)),(4,.box (k3 0 0 0 0)),(23,.own 98 8 (mD v2))]⟩ ?_ ?_)
   .have⟨x2,ar,Φ⟩:=ι Φ;have⟨x3,aL,Φ⟩:=ι Φ;have⟨v3,aA,Φ⟩:=ι Φ;refine bl (sg ⟨_,rfl,_,aO ar,_,aP ar,_,rfl,_,rfl,sg ⟨_,rfl,_,rfl,Ω.call (jd aL) lz ⟨_,rfl,sq (Ok.aD ⟨Ψ [(2,.b 2 0),(3,.b 3 0),(4,.b 4 0),(5,vi (c.bE+1)),(6,.o 23),(7,vi s1.1),(8,.b 8 0),(53,vb v3)],[(2,.box (b1 c)),(3,.box (b0 d)),(4,.box (k3 0 0 0 0)),(23,.own 98 8 (mD s1.2)),(8,.box (b4 x2))]⟩ ?_ ?_)⟩⟩⟩)
    .have⟨c1,ξ,aA⟩:=ι aA;refine rg (Br.ite ξ (λhb ξ=>?_) λhb ξ=>?_)
     .have⟨x4,aZ,ξ⟩:=ι ξ;refine⟨_,rfl,_,rfl,Ω.call (QR aZ) lz ?_⟩;cases ξ;cases aA;exact wt Q8 ⟨hr,J4⟩ rfl
     cases ξ;cases aA;exact wt Q8 ⟨hr,J4⟩ rfl
    refine ct Φ (λhb Φ=>?_) λhb Φ=>?_
    .refine xt ?_;cases Φ;exact wt Q6 J4 rfl
    have⟨x5,bT,Φ⟩:=ι Φ;have⟨x6,dg,Φ⟩:=ι Φ;refine sk (sq (dw 9 tok mixed ⟨_,rfl,_,⟨_,rfl,rfl⟩,_,rfl,_,⟨_,rfl,rfl⟩,_,rfl,_,⟨_,aO bT,_,aP bT,rfl⟩,_,⟨_,rfl,rfl⟩,_,rfl,_,⟨_,.dN (Zg dg) lz,rfl⟩,Q0,ct Φ (λhb Φ=>?_) λhb Φ=>?_⟩))
    .have⟨x7,du,Φ⟩:=ι Φ;have⟨bY,Φ⟩:=aq Φ;refine dw 10 tok mixed ⟨_,rfl,_,rfl,_,⟨_,rfl,rfl⟩,_,rfl,_,⟨_,aO du,_,aP du,rfl⟩,_,⟨_,rfl,rfl⟩,_,rfl,_,⟨_,rfl,rfl⟩,_,rfl,_,rfl,Q0,c_ (f:=mQ) (n:=8) (λ_=>rfl) ([(⟨x7,c.bE+1,x2⟩:cq)]),c8 (f:=mQ) (l:=s1.2) (l':=[(⟨x7,c.bE+1,x2⟩:cq)]) bY,_,(bO (f:=mQ) (l₁:=s1.2) (l₂:=[(⟨x7,c.bE+1,x2⟩:cq)])).symm,?_⟩;cases Φ;exact wt Q6 J4 rfl
    refine sk ?_;cases Φ;exact wt Q6 J4 rfl
   have⟨dL,ζ⟩:=aq ζ;exact rg (ah ⟨dL,_,sj ζ,wt Q6 J4 rfl⟩)
  refine xt ?_;have ζ:=aT ζ aB;cases ζ;exact wt Q5 J4 rfl
 have⟨v4,aU,h⟩:=ι h;refine sg (Or.inr (Ok.aD ⟨Ψ [(2,.b 2 0),(3,.b 3 0),(4,.b 4 0),(5,vi (c.bE+1)),(6,.o 23),(11,.o 74)],[(2,.box (b1 c)),(3,.box (b0 d)),(4,.box (k3 0 0 0 0)),(23,.own 98 8 (mD v1)),(74,.own 3 1 (mB v4))]⟩ ?_ ?_))
 .refine sg (bl (Ok.loop (λ(s2:Int×(List Int))=>⟨Ψ [(2,.b 2 0),(3,.b 3 0),(4,.b 4 0),(5,vi (c.bE+1)),(6,.o 23),(11,.o 74),(12,vi s2.1)],[(2,.box (b1 c)),(3,.box (b0 d)),(4,.box (k3 0 0 0 0)),(23,.own 98 8 (mD v1)),(74,.own 3 1 (mB s2.2))]⟩) (Fh d c) (s0:=(0,([]:List Int))) aU (wt Q7 ⟨hr,hr,hr,hr,hr,Q0⟩ rfl) ?_));intro s2 y2 av eP;unfold Fh at av;refine sq (sg ⟨_,rfl,_,au _,λ_=>ct av (λhb av=>?_) λhb av=>?_⟩)
  .have⟨v5,bh,av⟩:=ι av;refine sk (Ok.aD ⟨Ψ [(2,.b 2 0),(3,.b 3 0),(4,.b 4 0),(5,vi (c.bE+1)),(6,.o 23),(11,.o 74),(12,vi s2.1)],[(2,.box (b1 c)),(3,.box (b0 d)),(4,.box (k3 0 0 0 0)),(23,.own 98 8 (mD v1)),(74,.own 3 1 (mB v5))]⟩ ?_ ?_)
   .have⟨v6,de,bh⟩:=ι bh;refine bl (sg (Ok.aD ⟨Ψ [(2,.b 2 0),(3,.b 3 0),(4,.b 4 0),(5,vi (c.bE+1)),(6,.o 23),(11,.o 74),(12,vi s2.1),(13,vi v6)],[(2,.box (b1 c)),(3,.box (b0 d)),(4,.box (k3 0 0 0 0)),(23,.own 98 8 (mD v1)),(74,.own 3 1 (mB s2.2))]⟩ ?_ ?_))
    .refine sg (bl (Ok.loop (λ(s3:Int×Int)=>⟨Ψ [(2,.b 2 0),(3,.b 3 0),(4,.b 4 0),(5,vi (c.bE+1)),(6,.o 23),(11,.o 74),(12,vi s2.1),(13,vi s3.1),(14,vi s3.2)],[(2,.box (b1 c)),(3,.box (b0 d)),(4,.box (k3 0 0 0 0)),(23,.own 98 8 (mD v1)),(74,.own 3 1 (mB s2.2))]⟩) (Fi c d s2) (s0:=((c.bE+1),0)) de (wt ⟨lr,Q8⟩ ⟨hr,hr,hr,hr,hr,Q0⟩ rfl) ?_));intro s3 y3 bj qu;unfold Fi at bj;refine sq (sg ⟨_,rfl,_,au _,λ_=>ct bj (λhb bj=>?_) λhb bj=>?_⟩)
     .have⟨v7,fM,bj⟩:=ι bj;refine sk (Ok.aD ⟨Ψ [(2,.b 2 0),(3,.b 3 0),(4,.b 4 0),(5,vi (c.bE+1)),(6,.o 23),(11,.o 74),(12,vi s2.1),(13,vi v7),(14,vi s3.2)],[(2,.box (b1 c)),(3,.box (b0 d)),(4,.box (k3 0 0 0 0)),(23,.own 98 8 (mD v1)),(74,.own 3 1 (mB s2.2))]⟩ ?_ ?_)
      .have⟨x8,eJ,fM⟩:=ι fM;have⟨x9,ga,fM⟩:=ι fM;have⟨dI,gQ,fM⟩:=ι fM;refine bl (sq (dw 12 tok mixed ⟨_,rfl,_,rfl,_,⟨_,rfl,rfl⟩,_,rfl,_,⟨_,aO eJ,_,aP eJ,rfl⟩,_,⟨_,rfl,rfl⟩,_,rfl,_,⟨_,rfl,rfl⟩,_,rfl,_,⟨_,aO ga,_,aP ga,rfl⟩,_,⟨_,rfl,rfl⟩,_,⟨_,.dN (QR gQ) lz,rfl⟩,Q0,ct fM (λhb fM=>?_) λhb fM=>?_⟩))
       .have⟨ez,jT,fM⟩:=ι fM;refine rg ⟨_,rfl,_,aO jT,_,aP jT,_,rfl,?_⟩;cases fM;exact wt ⟨lr,Q8⟩ ⟨hr,J4⟩ rfl
       refine sk ?_;cases fM;exact wt ⟨lr,Q8⟩ ⟨hr,J4⟩ rfl
      have⟨fL,bj⟩:=aq bj;exact rg (ah ⟨fL,_,sj bj,wt ⟨lr,Q8⟩ ⟨hr,J4⟩ rfl⟩)
     refine xt ?_;have bj:=aT bj qu;cases bj;exact wt Q8 ⟨hr,J4⟩ rfl
    have⟨qY,bh⟩:=aq bh;refine rg (ah ⟨c_ (f:=Go.Cat.encI) (n:=1) (λ_=>rfl) ([v6]),c8 (f:=Go.Cat.encI) (l:=s2.2) (l':=[v6]) qY,_,(bO (f:=Go.Cat.encI) (l₁:=s2.2) (l₂:=[v6])).symm,?_⟩);cases bh;exact wt Q7 ⟨hr,J4⟩ rfl
   have⟨HI,av⟩:=aq av;exact rg (ah ⟨HI,_,sj av,wt Q7 ⟨hr,J4⟩ rfl⟩)
  refine xt ?_;have av:=aT av eP;cases av;exact wt Q6 ⟨hr,J4⟩ rfl
 cases h;exact sg ⟨_,rfl,_,rfl,_,rfl,_,rfl,rt ⟨_,rfl,Fz.a (.cons Fz.s (.cons Fz.v (.cons Fz.v (.cons Fz.v (.cons (Fz.o rfl) (.cons (Fz.o rfl) (.cons Fz.s fq)))))))⟩⟩
def aiU{c d e r}(h:FB c d e=V r):Pure prog 144 [.a (b2 c),.a (b0 d),.s (mA e)] (.t [.a (b2 r.1),vi r.2]):=by
 refine pq tok 108 func144 ?_;unfold FB at h;have⟨v1,ν,h⟩:=ι h;refine sg (sg (Ok.aD ⟨Ψ [(2,.s (mA e)),(3,.b 3 0),(4,.b 4 0),(6,.b 6 0),(8,.o 50)],[(3,.box (b2 c)),(4,.box (b0 d)),(6,.box (k6 0 0 0 0)),(50,.own 3 1 (mB v1))]⟩ ?_ ?_))
 .refine sg (bl (Ok.loop (λ(s1:Int×(List Int))=>⟨Ψ [(2,.s (mA e)),(3,.b 3 0),(4,.b 4 0),(6,.b 6 0),(8,.o 50),(9,vi s1.1)],[(3,.box (b2 c)),(4,.box (b0 d)),(6,.box (k6 0 0 0 0)),(50,.own 3 1 (mB s1.2))]⟩) (JK d c) (s0:=(0,[])) ν ((Wk.oW (t:=8) (id:=50) (E:=3) (K:=1) rfl rfl).trans (wt Q6 ⟨hr,hr,hr,hr,Q0⟩ rfl)) ?_));intro s1 y1 ζ aB;unfold JK at ζ;refine sq (sg ⟨_,rfl,_,au _,λ_=>ct ζ (λhb ζ=>?_) λhb ζ=>?_⟩)
  .have⟨v2,Φ,ζ⟩:=ι ζ;refine sk (Ok.aD ⟨Ψ [(2,.s (mA e)),(3,.b 3 0),(4,.b 4 0),(6,.b 6 0),(8,.o 50),(9,vi s1.1)],[(3,.box (b2 c)),(4,.box (b0 d)),(6,.box (k6 0 0 0 0)),(50,.own 3 1 (mB v2))]⟩ ?_ ?_)
   .have⟨x1,Θ,Φ⟩:=ι Φ;have⟨v3,aA,Φ⟩:=ι Φ;refine bl (sg ⟨_,rfl,_,aO Θ,_,aP Θ,_,rfl,_,rfl,Ok.aD ⟨Ψ [(2,.s (mA e)),(3,.b 3 0),(4,.b 4 0),(6,.b 6 0),(8,.o 50),(9,vi s1.1),(10,.b 10 0),(45,vb v3)],[(3,.box (b2 c)),(4,.box (b0 d)),(6,.box (k6 0 0 0 0)),(50,.own 3 1 (mB s1.2)),(10,.box (b4 x1))]⟩ ?_ ?_⟩)
    .have⟨c1,ξ,aA⟩:=ι aA;refine rg ⟨_,rfl,Br.ite ξ (λhb ξ=>?_) λhb ξ=>?_⟩
     .refine⟨_,rfl,?_⟩;cases ξ;have⟨c2,az,aA⟩:=ι aA;refine Br.ite az (λhb az=>?_) λhb az=>?_
      .have⟨x2,ar,az⟩:=ι az;refine⟨_,rfl,_,rfl,Ω.call (aiR ar) lz ?_⟩;cases az;cases aA;exact wt Q8 ⟨hr,J4⟩ rfl
      cases az;cases aA;exact wt Q8 ⟨hr,J4⟩ rfl
     cases ξ;have⟨c2,aQ,aA⟩:=ι aA;replace aQ:=dE aQ;cases aQ;cases aA;exact wt Q8 ⟨hr,J4⟩ rfl
    refine ct Φ (λhb Φ=>?_) λhb Φ=>?_
    .have⟨aj,Φ⟩:=aq Φ;refine rg ⟨_,rfl,ah ⟨c_ (f:=Go.Cat.encI) (n:=1) (λ_=>rfl) ([x1.κ]),c8 (f:=Go.Cat.encI) (l:=s1.2) (l':=[x1.κ]) aj,_,(bO (f:=Go.Cat.encI) (l₁:=s1.2) (l₂:=[x1.κ])).symm,?_⟩⟩;cases Φ;exact wt Q6 J4 rfl
    refine sk ?_;cases Φ;exact wt Q6 J4 rfl
   have⟨aX,ζ⟩:=aq ζ;exact rg (ah ⟨aX,_,sj ζ,wt Q6 J4 rfl⟩)
  refine xt ?_;have ζ:=aT ζ aB;cases ζ;exact wt Q5 J4 rfl
 have⟨v4,aU,h⟩:=ι h;refine Ok.aD ⟨Ψ [(2,.s (mA e)),(3,.b 3 0),(4,.b 4 0),(6,.b 6 0)],[(3,.box (b2 c)),(4,.box (k0 v4.1 v4.2.1 v4.2.2)),(6,.box (k6 0 0 0 0))]⟩ ?_ ?_
 .refine sg (bl (Ok.loop (λ(s2:Int×eK)=>⟨Ψ [(2,.s (mA e)),(3,.b 3 0),(4,.b 4 0),(6,.b 6 0),(8,.o 50),(11,vi s2.1)],[(3,.box (b2 c)),(4,.box (k0 s2.2.1 s2.2.2.1 s2.2.2.2)),(6,.box (k6 0 0 0 0)),(50,.own 3 1 (mB v1))]⟩) (JL v1) (s0:=(0,d.η,d.Next,d.ai)) aU (wt Q6 ⟨hr,hr,hr,hr,Q0⟩ rfl) ?_));intro s2 y2 av eP;unfold JL at av;refine sq (sg ⟨_,au _,λ_=>ct av (λhb av=>?_) λhb av=>?_⟩)
  .have⟨x3,aL,av⟩:=ι av;have⟨x4,aZ,av⟩:=ι av;have⟨bY,av⟩:=aq av;exact sk (sq (bl (sq (Ok.iG (m:=10) (late:=[8]) (MD:=⟨[]⟩) (CH:=⟨[]⟩) tok mixed (by kernel_rfl) ⟨_,⟨_,rfl,rfl⟩,_,rfl,_,rfl,_,⟨_,aO aL,ll aL,rfl⟩,_,⟨_,aP aL,rfl,_,rfl,rfl⟩,_,⟨_,.dN (Y7 aZ) lz,rfl⟩,_,rfl,_,rfl,_,rfl,Q0,_,rfl,⟨⟨_,rfl,rfl⟩,Q0⟩,rg ⟨_,rfl,_,rfl,rg (ah ⟨bY,_,sj av,wt Q6 J4 rfl⟩)⟩⟩))))
  refine xt ?_;have av:=aT av eP;cases av;exact wt Q4 J3 rfl
 have⟨v5,bh,h⟩:=ι h;refine sg (Ok.aD ⟨Ψ [(3,.b 3 0),(4,.b 4 0),(6,.b 6 0),(14,.o 90)],[(3,.box (b2 c)),(4,.box (k0 v4.1 v4.2.1 v4.2.2)),(6,.box (k6 0 0 0 0)),(90,.own 86 3 (mA v5))]⟩ ?_ ?_)
 .refine sg (bl (Ok.loop (λ(s3:Int×(List aJ))=>⟨Ψ [(2,.s (mA e)),(3,.b 3 0),(4,.b 4 0),(6,.b 6 0),(14,.o 90),(15,vi s3.1)],[(3,.box (b2 c)),(4,.box (k0 v4.1 v4.2.1 v4.2.2)),(6,.box (k6 0 0 0 0)),(90,.own 86 3 (mA s3.2))]⟩) (JM e v4) (s0:=(0,[])) bh ((Wk.oW (t:=14) (id:=90) (E:=86) (K:=3) rfl rfl).trans (wt Q6 ⟨hr,hr,hr,hr,Q0⟩ rfl)) ?_));intro s3 y3 bj qu;unfold JM at bj;refine sq (sg ⟨_,au _,λ_=>ct bj (λhb bj=>?_) λhb bj=>?_⟩)
  .have⟨v6,de,bj⟩:=ι bj;refine sk (Ok.aD ⟨Ψ [(2,.s (mA e)),(3,.b 3 0),(4,.b 4 0),(6,.b 6 0),(14,.o 90),(15,vi s3.1)],[(3,.box (b2 c)),(4,.box (k0 v4.1 v4.2.1 v4.2.2)),(6,.box (k6 0 0 0 0)),(90,.own 86 3 (mA v6))]⟩ ?_ ?_)
   .have⟨x5,bT,de⟩:=ι de;have⟨x6,dg,de⟩:=ι de;refine bl (sq (Ok.iG (m:=11) (late:=[9]) (MD:=⟨[]⟩) (CH:=⟨[]⟩) tok mixed (by kernel_rfl) ⟨_,⟨_,rfl,rfl⟩,_,rfl,_,rfl,_,⟨_,aO bT,_,aP bT,rfl⟩,_,rfl,_,⟨_,rfl,rfl⟩,_,⟨_,.dN (jd dg) lz,rfl⟩,_,rfl,_,rfl,_,rfl,Q0,_,rfl,⟨⟨_,rfl,rfl⟩,Q0⟩,sg (ct de (λhb de=>?_) λhb de=>?_)⟩))
    .have⟨x7,du,de⟩:=ι de;have⟨dL,de⟩:=aq de;refine rg ⟨_,aO du,_,aP du,_,rfl,ah ⟨c_ (f:=il) (n:=3) (λ_=>rfl) ([x7]),c8 (f:=il) (l:=s3.2) (l':=[x7]) dL,_,(bO (f:=il) (l₁:=s3.2) (l₂:=[x7])).symm,?_⟩⟩;cases de;exact wt Q6 J4 rfl
    refine sk ?_;cases de;exact wt Q6 J4 rfl
   have⟨fL,bj⟩:=aq bj;exact rg (ah ⟨fL,_,sj bj,wt Q6 J4 rfl⟩)
  refine xt ?_;have bj:=aT bj qu;cases bj;exact wt Q4 J4 rfl
 have⟨x8,eJ,h⟩:=ι h;refine sq (sg ⟨_,rfl,Ω.borrow (aiN eJ) (.cons (Fz.a (.cons Fz.s fq)) (.cons (Fz.o rfl) .nil)) rfl (ct h (λhb h=>?_) λhb h=>?_)⟩)
 .cases h;exact sg ⟨_,rfl,_,rfl,rt ⟨_,rfl,Fz.t fq⟩⟩
 have⟨x9,ga,h⟩:=ι h;refine sk (sq (sg ⟨_,rfl,Ω.borrow (aiO ga) (.cons (Fz.a (.cons Fz.s fq)) (.cons (Fz.o rfl) .nil)) rfl (ct h (λhb h=>?_) λhb h=>?_)⟩))
 .cases h;exact sg ⟨_,rfl,_,rfl,rt ⟨_,rfl,Fz.t fq⟩⟩
 have⟨dI,gQ,h⟩:=ι h;cases h;exact sk (sg ⟨_,rfl,_,rfl,Ω.call (QY gQ) lz ⟨_,rfl,sg ⟨_,rfl,sg ⟨_,rfl,_,rfl,rt ⟨_,rfl,Fz.t (.cons (Fz.a (.cons Fz.s (.cons Fz.v (.cons Fz.v (.cons Fz.v (.cons Fz.s (.cons Fz.s (.cons Fz.s (.cons Fz.v (.cons Fz.s (.cons (Fz.o rfl) .nil))))))))))) fq)⟩⟩⟩⟩⟩)
def zH{c e g f d r}(h:rB c e g f d=V r):Pure prog 92 [.a (b2 c),.a (b0 e),.s (mA g),vi f,.a (iS d)] (.t [.a (b2 r.1),.a (iS r.2)]):=by
 refine pq tok 32 func92 ?_;unfold rB at h;refine sg (sq (sg (ct h (λhb h=>?_) λhb h=>?_)))
 .have⟨x1,Θ,h⟩:=ι h;cases h;exact sq (dw 3 tok mixed ⟨_,⟨_,rfl,rfl⟩,_,rfl,_,⟨_,.dN (kq Θ) lz,rfl⟩,Q0,_,rfl,_,rfl,rt ⟨_,rfl,_,rfl,Fz.t fq⟩⟩)
 have⟨x2,ar,h⟩:=ι h;refine sk (sg ⟨_,rfl,_,rfl,Ω.call (aiU ar) lz ⟨_,rfl,sq (sg (ct h (λhb h=>?_) λhb h=>?_))⟩⟩)
 .have⟨x3,aL,h⟩:=ι h;cases h;exact sq (dw 3 tok mixed ⟨_,⟨_,rfl,rfl⟩,_,rfl,_,⟨_,.dN (kq aL) lz,rfl⟩,Q0,_,rfl,_,rfl,rt ⟨_,rfl,_,rfl,Fz.t fq⟩⟩)
 cases h;exact sk (sq (Ok.iG (m:=2) (late:=[1]) (MD:=⟨[]⟩) (CH:=⟨[]⟩) tok mixed (by kernel_rfl) ⟨_,⟨_,rfl,rfl⟩,_,⟨_,rfl,rfl⟩,Q0,_,rfl,⟨⟨_,rfl,_,rfl,rfl⟩,Q0⟩,_,rfl,rt ⟨_,rfl,_,rfl,Fz.t fq⟩⟩))
def aik{c e f d r}(h:EI c e f d=V r):Pure prog 93 [.a (b0 c),vi e,vs f,vi d] (.t [.a (b0 r.1),vi r.2.1,vi r.2.2]):=by
 refine pq tok 60 func93 ?_;unfold EI at h;have⟨v1,ν,h⟩:=ι h;refine sg (sq (Ok.aD ⟨Ψ [(1,vi e),(2,vs f),(3,vi d),(4,.b 4 0),(8,.b 8 0),(18,vb v1)],[(4,.box (b0 c)),(8,.box (k1 0 0))]⟩ ?_ ?_))
 .have⟨c1,ξ,ν⟩:=ι ν;refine rg (Br.ite ξ (λhb ξ=>?_) λhb ξ=>?_)
  .cases ξ;cases ν;exact wt Q6 J2 rfl
  cases ξ;cases ν;exact wt Q6 J2 rfl
 refine ct h (λhb h=>?_) λhb h=>?_
 .cases h;exact sg ⟨_,rfl,_,rfl,rt ⟨_,rfl,Fz.t fq⟩⟩
 have⟨x1,Θ,h⟩:=ι h;refine sk (sg ⟨_,rfl,Ω.call (Y9 Θ) lz (sq (sg (ct h (λhb h=>?_) λhb h=>?_)))⟩)
 .cases h;exact sg ⟨_,rfl,_,rfl,rt ⟨_,rfl,Fz.t fq⟩⟩
 have⟨v2,Φ,h⟩:=ι h;refine sk (sq (Ok.aD ⟨Ψ [(1,vi e),(2,vs f),(3,vi d),(4,.b 4 0),(8,.b 8 0),(36,vb v2)],[(4,.box (b0 c)),(8,.box (k1 0 0))]⟩ ?_ ?_))
 .have⟨c2,az,Φ⟩:=ι Φ;refine rg ⟨_,rfl,_,au _,λ_=>Br.cA az (λhb az=>?_) λhb az=>?_⟩
  .cases az;cases Φ;exact wt Q6 J2 rfl
  refine⟨_,rfl,?_⟩;cases az;cases Φ;exact wt Q6 J2 rfl
 refine ct h (λhb h=>?_) λhb h=>?_
 .cases h;exact sg ⟨_,rfl,_,rfl,rt ⟨_,rfl,Fz.t fq⟩⟩
 have⟨v3,aA,h⟩:=ι h;refine sk (sg ⟨_,rfl,_,rfl,Ok.aD ⟨Ψ [(1,vi e),(2,vs f),(4,.b 4 0),(8,.b 8 0),(12,.b 12 0)],[(4,.box (b0 c)),(8,.box (k1 0 0)),(12,.box (k9 c.Next d 1 v3))]⟩ ?_ ?_⟩)
 .refine sg (ct aA (λhb aA=>?_) λhb aA=>?_)
  .refine rg ⟨_,rfl,?_⟩;cases aA;exact wt Q5 J3 rfl
  refine sk ?_;cases aA;exact wt Q5 J3 rfl
 have⟨aj,h⟩:=aq h;have⟨x2,ar,h⟩:=ι h;have⟨x3,aL,h⟩:=ι h;cases h;exact sg ⟨_,rfl,ah ⟨aj,_,rfl,sq (Ok.iG (m:=10) (late:=[8,9]) (MD:=⟨[]⟩) (CH:=⟨[]⟩) tok mixed (by kernel_rfl) ⟨_,⟨_,rfl,rfl⟩,_,⟨_,rfl,rfl⟩,_,⟨_,.dN (zG ar) (l1 (.cons (Le.a (l2 (l1 (.cons (Le.nil) (.cons (Le.nil) lz))))) .nil)),rfl⟩,_,rfl,_,rfl,_,rfl,_,⟨_,rfl,rfl⟩,_,⟨_,.dN (QT aL) lz,rfl⟩,_,rfl,_,⟨_,rfl,rfl⟩,Q0,_,rfl,⟨⟨_,rfl,rfl⟩,⟨_,rfl,_,rfl,rfl⟩,Q0⟩,rt ⟨_,rfl,Fz.t fq⟩⟩)⟩⟩
def QV{c e d r}(h:wC c e d=V r):Pure prog 146 [.a (b0 c),vi e,vs d] (.a (b0 r)):=by
 refine pq tok 45 func146 ?_;unfold wC at h;have⟨x1,Θ,h⟩:=ι h;have⟨v1,ν,h⟩:=ι h;refine sg (sg ⟨_,rfl,Ω.call (jd Θ) lz ⟨_,rfl,sg (Ok.aD ⟨Ψ [(3,.b 3 0),(6,.b 6 0),(7,.b 7 0),(9,.o 39)],[(3,.box (b0 c)),(6,.box (k1 0 0)),(7,.box (b4 x1.1)),(39,.own 138 3 (mC v1))]⟩ ?_ ?_)⟩⟩)
 .refine sg (bl (Ok.loop (λ(s1:Int×(List aH))=>⟨Ψ [(2,vs d),(3,.b 3 0),(6,.b 6 0),(7,.b 7 0),(9,.o 39),(10,vi s1.1)],[(3,.box (b0 c)),(6,.box (k1 0 0)),(7,.box (b4 x1.1)),(39,.own 138 3 (mC s1.2))]⟩) (EX x1 d) (s0:=(0,[])) ν ((Wk.oW (t:=9) (id:=39) (E:=138) (K:=3) rfl rfl).trans (wt Q6 ⟨hr,hr,hr,hr,Q0⟩ rfl)) ?_));intro s1 y1 ζ aB;unfold EX at ζ;refine sq (sg ⟨_,rfl,_,au _,λ_=>ct ζ (λhb ζ=>?_) λhb ζ=>?_⟩)
  .have⟨v2,Φ,ζ⟩:=ι ζ;refine sk (Ok.aD ⟨Ψ [(2,vs d),(3,.b 3 0),(6,.b 6 0),(7,.b 7 0),(9,.o 39),(10,vi s1.1)],[(3,.box (b0 c)),(6,.box (k1 0 0)),(7,.box (b4 x1.1)),(39,.own 138 3 (mC v2))]⟩ ?_ ?_)
   .have⟨x2,ar,Φ⟩:=ι Φ;refine bl (sg ⟨_,rfl,_,aO ar,_,aP ar,_,rfl,_,FU _ _,ct Φ (λhb Φ=>?_) λhb Φ=>?_⟩)
    .have⟨x3,aL,Φ⟩:=ι Φ;have⟨aj,Φ⟩:=aq Φ;refine rg ⟨_,rfl,_,aO aL,_,aP aL,_,rfl,ah ⟨c_ (f:=fB) (n:=3) (λ_=>rfl) ([x3]),c8 (f:=fB) (l:=s1.2) (l':=[x3]) aj,_,(bO (f:=fB) (l₁:=s1.2) (l₂:=[x3])).symm,?_⟩⟩;cases Φ;exact wt Q6 J4 rfl
    refine sk ?_;cases Φ;exact wt Q6 J4 rfl
   have⟨aX,ζ⟩:=aq ζ;exact rg (ah ⟨aX,_,sj ζ,wt Q6 J4 rfl⟩)
  refine xt ?_;have ζ:=aT ζ aB;cases ζ;exact wt Q4 J4 rfl
 have⟨x4,aZ,h⟩:=ι h;cases h;exact sg ⟨_,rfl,sg ⟨_,rfl,_,rfl,Ω.freeze (id:=39) rfl (Ω.call (zG aZ) lz ⟨_,rfl,rt ⟨_,rfl,Fz.cP rfl⟩⟩)⟩⟩
def Y_{c d r}(h:y8 c d=V r):Pure prog 145 [.a (b0 c),vi d] (.a (b0 r)):=by
 refine pq tok 26 func145 ?_;unfold y8 at h;have⟨x1,Θ,h⟩:=ι h;refine sg (sg ⟨_,rfl,Ω.call (jd Θ) lz ⟨_,rfl,sq (sg ⟨_,rfl,ct h (λhb h=>?_) λhb h=>?_⟩)⟩⟩)
 .have⟨x2,ar,h⟩:=ι h;cases h;exact sg ⟨_,rfl,Ω.call (Y' ar) lz ⟨_,rfl,rt ⟨_,rfl,Fz.cP rfl⟩⟩⟩
 have⟨aj,h⟩:=aq h;have⟨x3,aL,h⟩:=ι h;cases h;exact sk (sg ⟨_,rfl,ah ⟨aj,_,rfl,sg ⟨_,rfl,_,rfl,Ω.call (zG aL) lz ⟨_,rfl,rt ⟨_,rfl,Fz.cP rfl⟩⟩⟩⟩⟩)
end Go.Proofs
