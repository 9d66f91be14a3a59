/- The walks of this seat beside the plain programs, part 5. No condition. -/
import Derived.Test.YtdcgbodbejgliaaGreatDoorXTopThereAndBackWk4
open Option renaming some->V
open List renaming length_map->au,map_append->bO
open Or renaming inl->ah
namespace Go.Proofs
set_option linter.all false
open Go Go.Cat Tryz
variable[M:cD][K:LK]
set_option maxRecDepth 100000
set_option maxHeartbeats 4000000
def QW{c d r}(h:y7 c d=V r):Pure prog 148 [.a (b4 c),vs d] (vi r):=by
 refine pq tok 22 func148 ?_;unfold y7 at h;refine sg (Ok.dy (λv1=>⟨Ψ [],[]⟩) (λv1=>Pb v1=V r) ?_ ?_)
 .refine sg (bl (Ok.loop (λ(s1:Int)=>⟨Ψ [(1,vs d),(2,.b 2 0),(5,vi s1)],[(2,.box (b4 c))]⟩) (BB c d) (s0:=0) h (wt Q3 ⟨hr,Q0⟩ rfl) ?_));intro s1 y1 ζ aB;unfold BB at ζ;refine sq (sg ⟨_,rfl,_,au _,λ_=>ct ζ (λhb ζ=>?_) λhb ζ=>?_⟩)
  .have⟨x1,Θ,ζ⟩:=ι ζ;refine sk (sq (bl (sg ⟨_,rfl,_,aO Θ,_,aP Θ,_,rfl,_,oh _ _,ct ζ (λhb ζ=>?_) λhb ζ=>?_⟩)))
   .refine sg (rt ?_);have ζ:=aT ζ aB;cases ζ;exact Fz.v
   have⟨aj,ζ⟩:=aq ζ;exact sk (rg (ah ⟨aj,_,sj ζ,wt Q3 J1 rfl⟩))
  refine xt ?_;have ζ:=aT ζ aB;exact⟨_,ζ,wt Q0 Q0 rfl⟩
 intro v1 h;unfold Pb at h;cases h;exact sg (rt Fz.v)
def Kv{c e d r}(h:wz c e d=V r):Pure prog 95 [.a (b0 c),vi e,vs d] (.t [vi r.1,vi r.2]):=by
 refine pq tok 34 func95 ?_;unfold wz at h;have⟨x1,Θ,h⟩:=ι h;refine sg (sg ⟨_,rfl,Ω.call (Ky Θ) lz ⟨_,rfl,sq (sg (ct h (λhb h=>?_) λhb h=>?_))⟩⟩)
 .cases h;exact sg (rt (Fz.t fq))
 have⟨x2,ar,h⟩:=ι h;refine sk (sq (sg (Ω.call (Kt ar) lz (ct h (λhb h=>?_) λhb h=>?_))))
 .cases h;exact sg (rt (Fz.t fq))
 have⟨x3,aL,h⟩:=ι h;refine sk (sg ⟨_,rfl,Ω.call (QW aL) lz (sq (sg (ct h (λhb h=>?_) λhb h=>?_)))⟩)
 .cases h;exact sg (rt (Fz.t fq))
 have⟨x4,aZ,h⟩:=ι h;cases h;exact sk (sg ⟨_,rfl,_,aO aZ,_,aP aZ,_,rfl,rt (Fz.t fq)⟩)
def QS{c d r}(h:yX c d=V r):Pure prog 89 [.a (b0 c),vs d] (.t [vi r.1,vi r.2]):=by
 refine pq tok 41 func89 ?_;unfold yX at h;have⟨x1,Θ,h⟩:=ι h;refine sg (sg (Ω.call (Ku Θ) lz (sq (sg (ct h (λhb h=>?_) λhb h=>?_)))))
 .cases h;exact sg (rt (Fz.t fq))
 refine sk (sg (Ok.dy (λv1=>⟨Ψ [(8,vi v1)],[]⟩) (λv1=>Je v1=V r) ?_ ?_))
 .refine sg (bl (Ok.loop (λ(s1:Int×Int)=>⟨Ψ [(2,.b 2 0),(6,.s (mG x1.1)),(8,vi s1.1),(9,vi s1.2)],[(2,.box (b0 c))]⟩) (yY x1 c) (s0:=(1,0)) h (wt Q4 ⟨hr,Q0⟩ rfl) ?_));intro s1 y1 ζ aB;unfold yY at ζ;refine sq (sg ⟨_,au _,λ_=>ct ζ (λhb ζ=>?_) λhb ζ=>?_⟩)
  .have⟨x2,ar,ζ⟩:=ι ζ;have⟨x3,aL,ζ⟩:=ι ζ;refine sk (sq (bl (sq (dw 12 tok mixed ⟨_,⟨_,rfl,rfl⟩,_,rfl,_,rfl,_,rfl,_,⟨_,aO ar,_,aP ar,rfl⟩,_,⟨_,rfl,rfl⟩,_,⟨_,.dN (Kv aL) lz,rfl⟩,_,rfl,_,rfl,_,rfl,_,rfl,_,rfl,Q0,sq (sg (ct ζ (λhb ζ=>?_) λhb ζ=>?_))⟩))))
   .refine sg (rt ?_);have ζ:=aT ζ aB;cases ζ;exact(Fz.t fq)
   have⟨aj,ζ⟩:=aq ζ;exact sk (rg (rg (ah ⟨aj,_,sj ζ,wt Q4 J1 rfl⟩)))
  refine xt ?_;have ζ:=aT ζ aB;exact⟨_,ζ,wt Q1 Q0 rfl⟩
 intro v1 h;unfold Je at h;cases h;exact sg (rt (Fz.t fq))
def Y5{a r}(h:Bu a=V r):Pure prog 57 [.s (mG a)] (vs r):=by
 refine pq tok 22 func57 ?_;unfold Bu at h;refine sg (sq (sg ⟨_,au _,λ_=>ct h (λhb h=>?_) λhb h=>?_⟩))
 .cases h;exact sg (rt Fz.v)
 have⟨v1,ν,h⟩:=ι h;refine sk (sg (Ok.aD ⟨Ψ [(3,vs v1)],[]⟩ ?_ ?_))
 .refine sg (bl (Ok.loop (λ(s1:(List UInt8)×Int)=>⟨Ψ [(0,.s (mG a)),(3,vs s1.1),(4,vi s1.2)],[]⟩) (EG a) (s0:=([],0)) ν (wt Q3 Q0 rfl) ?_));intro s1 y1 ζ aB;unfold EG at ζ;refine sq (sg ⟨_,au _,λ_=>ct ζ (λhb ζ=>?_) λhb ζ=>?_⟩)
  .have⟨aj,ζ⟩:=aq ζ;have⟨x1,Θ,ζ⟩:=ι ζ;have⟨aX,ζ⟩:=aq ζ;have⟨bY,ζ⟩:=aq ζ;exact sk (sq (bl (rg ⟨Qq aj,_,Qr _ _,_,aO Θ,_,aP Θ,_,rfl,Qq aX,_,Qr _ _,rg (ah ⟨bY,_,sj ζ,wt Q3 Q0 rfl⟩)⟩)))
  refine xt ?_;have ζ:=aT ζ aB;cases ζ;exact wt Q1 Q0 rfl
 cases h;exact sg (rt Fz.v)
def aij{a r}(h:EH a=V r):Pure prog 140 [vs a] (.t (VH r.1 r.2.1 r.2.2)):=by
 refine pq tok 31 func140 ?_;unfold EH at h;have⟨x1,Θ,h⟩:=ι h;have⟨v1,ν,h⟩:=ι h;refine sg (sg (Ω.call (Ku Θ) lz (sq (Ok.aD ⟨Ψ [(5,.s (mG x1.1)),(18,vb v1)],[]⟩ ?_ ?_))))
 .have⟨c1,ξ,ν⟩:=ι ν;refine rg (Br.cA ξ (λhb ξ=>?_) λhb ξ=>?_)
  .cases ξ;cases ν;exact wt Q2 Q0 rfl
  refine⟨_,au _,λ_=>?_⟩;cases ξ;cases ν;exact wt Q2 Q0 rfl
 refine ct h (λhb h=>?_) λhb h=>?_
 .cases h;exact sg (rt (Fz.t fq))
 have⟨aj,h⟩:=aq h;have⟨x2,ar,h⟩:=ι h;have⟨aX,h⟩:=aq h;have⟨bY,h⟩:=aq h;have⟨x3,aL,h⟩:=ι h;cases h;exact sk (sq (dw 15 tok mixed ⟨_,rfl,_,rfl,_,⟨_,au _,λ_=>rfl⟩,_,ah ⟨aj,rfl⟩,_,⟨_,aO ar,_,aP ar,rfl⟩,_,⟨_,rfl,rfl⟩,_,rfl,_,rfl,_,⟨_,au _,λ_=>rfl⟩,_,ah ⟨aX,rfl⟩,_,⟨_,gJ bY.1,Nat.zero_le _,pU bY,oc (f:=fg) (K:=1) (λ_=>rfl) x1.1,_,zu _ _ _,rfl⟩,_,⟨_,.dN (Y5 aL) lz,rfl⟩,_,rfl,_,rfl,_,rfl,Q0,rt (Fz.t fq)⟩))
def QZ{c d r}(h:zf c d=V r):Pure prog 90 [.a (b0 c),vs d] (.t (vW r.1 r.2.1 r.2.2)):=by
 refine pq tok 29 func90 ?_;unfold zf at h;have⟨x1,Θ,h⟩:=ι h;refine sg (sg (Ω.call (aij Θ) lz (sq (sg (ct h (λhb h=>?_) λhb h=>?_)))))
 .cases h;exact sg (rt (Fz.t fq))
 have⟨x2,ar,h⟩:=ι h;cases h;exact sk (sg ⟨_,rfl,Ω.call (QS ar) lz (sg (rt (Fz.t fq)))⟩)
def Kx{c d r}(h:uu c d=V r):Pure prog 151 [.a (b0 c),vi d] (vi r):=by
 refine pq tok 25 func151 ?_;unfold uu at h;have⟨v1,ν,h⟩:=ι h;refine sg (sg (Ok.aD ⟨Ψ [(5,vi v1)],[]⟩ ?_ ?_))
 .refine bl (Ok.loop (λ(s1:Int×Int)=>⟨Ψ [(1,vi s1.1),(2,.b 2 0),(5,vi s1.2)],[(2,.box (b0 c))]⟩) (yZ c) (s0:=(d,0)) ν (wt Q3 ⟨hr,Q0⟩ rfl) ?_);intro s1 y1 ζ aB;unfold yZ at ζ;have⟨v2,Φ,ζ⟩:=ι ζ;refine sq (Ok.aD ⟨Ψ [(1,vi s1.1),(2,.b 2 0),(5,vi s1.2),(13,vb v2)],[(2,.box (b0 c))]⟩ ?_ ?_)
  .have⟨c1,ξ,Φ⟩:=ι Φ;refine rg (Br.ite ξ (λhb ξ=>?_) λhb ξ=>?_)
   .cases ξ;cases Φ;exact wt Q4 J1 rfl
   cases ξ;cases Φ;exact wt Q4 J1 rfl
  refine ct ζ (λhb ζ=>?_) λhb ζ=>?_
  .have⟨x1,Θ,ζ⟩:=ι ζ;have⟨aj,ζ⟩:=aq ζ;exact sk (bl (sg ⟨_,rfl,Ω.call (jd Θ) lz ⟨_,rfl,sg ⟨_,rfl,rg (ah ⟨aj,_,sj ζ,wt Q3 J1 rfl⟩)⟩⟩⟩))
  refine xt ?_;have ζ:=aT ζ aB;cases ζ;exact wt Q1 Q0 rfl
 cases h;exact sg (rt Fz.v)
def aiu{d c r}(h:EV d c=V r):Pure prog 221 [.a (b0 d),.a (b4 c)] (vb r):=by
 refine pq tok 21 func221 ?_;unfold EV at h;have⟨v1,ν,h⟩:=ι h;refine sg (Ok.aD ⟨Ψ [(4,vb v1)],[]⟩ ?_ ?_)
 .have⟨c1,ξ,ν⟩:=ι ν;refine rg ⟨_,rfl,_,au _,λ_=>Br.cA ξ (λhb ξ=>?_) λhb ξ=>?_⟩
  .cases ξ;have⟨c2,az,ν⟩:=ι ν;replace az:=dS az;cases az;cases ν;exact wt Q1 Q0 rfl
  have⟨x1,Θ,ξ⟩:=ι ξ;refine⟨_,rfl,_,rfl,Ω.call (Kx Θ) lz ?_⟩;cases ξ;have⟨c2,aQ,ν⟩:=ι ν;refine Br.cA aQ (λhb aQ=>?_) λhb aQ=>?_
  .cases aQ;cases ν;exact wt Q1 Q0 rfl
  refine⟨_,rfl,?_⟩;cases aQ;cases ν;exact wt Q1 Q0 rfl
 cases h;exact rt Fz.v
def Y9{c e d r}(h:BA c e d=V r):Pure prog 141 [.a (b0 c),vi e,vs d] (vi r):=by
 refine pq tok 28 func141 ?_;unfold BA at h;have⟨x1,Θ,h⟩:=ι h;refine sg (sg ⟨_,rfl,Ω.call (Ky Θ) lz ⟨_,rfl,sq (sg (ct h (λhb h=>?_) λhb h=>?_))⟩⟩)
 .cases h;exact sg (rt Fz.v)
 have⟨x2,ar,h⟩:=ι h;refine sk (sq (sg (Ω.call (Kt ar) lz (ct h (λhb h=>?_) λhb h=>?_))))
 .cases h;exact sg (rt Fz.v)
 have⟨x3,aL,h⟩:=ι h;refine sk (sq (sg ⟨_,rfl,Ω.call (QW aL) lz (ct h (λhb h=>?_) λhb h=>?_)⟩))
 .cases h;exact sg (rt Fz.v)
 have⟨x4,aZ,h⟩:=ι h;refine sk (sq (sg ⟨_,rfl,_,rfl,Ω.call (aiu aZ) lz (ct h (λhb h=>?_) λhb h=>?_)⟩))
 .cases h;exact sg (rt Fz.v)
 cases h;exact sk (sg (rt Fz.v))
def zG{d c r}(h:qx d c=V r):Pure prog 143 [.a (b0 d),.a (b4 c)] (.a (b0 r)):=by
 refine pq tok 58 func143 ?_;unfold qx at h;have⟨v1,ν,h⟩:=ι h;refine sg (sg (sg (Ok.aD ⟨Ψ [(2,.b 2 0),(3,.b 3 0),(4,.b 4 0),(5,.o 31),(6,vb v1.1)],[(2,.box (b0 d)),(3,.box (b4 c)),(4,.box (k1 0 0)),(31,.own 44 6 (mI v1.2))]⟩ ?_ ?_)))
 .refine sg (bl (Ok.loop (λ(s1:Bool×Int×(List τ))=>⟨Ψ [(2,.b 2 0),(3,.b 3 0),(4,.b 4 0),(5,.o 31),(6,vb s1.1),(7,vi s1.2.1)],[(2,.box (b0 d)),(3,.box (b4 c)),(4,.box (k1 0 0)),(31,.own 44 6 (mI s1.2.2))]⟩) (EZ d c) (s0:=(false,0,[])) ν ((Wk.oW (t:=5) (id:=31) (E:=44) (K:=6) rfl rfl).trans (wt Q6 ⟨hr,hr,hr,hr,Q0⟩ rfl)) ?_));intro s1 y1 ζ aB;unfold EZ at ζ;refine sq (sg ⟨_,rfl,_,au _,λ_=>ct ζ (λhb ζ=>?_) λhb ζ=>?_⟩)
  .have⟨v2,Φ,ζ⟩:=ι ζ;refine sk (Ok.aD ⟨Ψ [(2,.b 2 0),(3,.b 3 0),(4,.b 4 0),(5,.o 31),(6,vb v2.1),(7,vi s1.2.1)],[(2,.box (b0 d)),(3,.box (b4 c)),(4,.box (k1 0 0)),(31,.own 44 6 (mI v2.2))]⟩ ?_ ?_)
   .have⟨v3,aA,Φ⟩:=ι Φ;refine bl (Ok.aD ⟨Ψ [(2,.b 2 0),(3,.b 3 0),(4,.b 4 0),(5,.o 31),(6,vb v3.1),(7,vi s1.2.1)],[(2,.box (b0 d)),(3,.box (b4 c)),(4,.box (k1 0 0)),(31,.own 44 6 (mI v3.2))]⟩ ?_ ?_)
    .have⟨v4,aU,aA⟩:=ι aA;refine Ok.aD ⟨Ψ [(2,.b 2 0),(3,.b 3 0),(4,.b 4 0),(5,.o 31),(6,vb s1.1),(7,vi s1.2.1),(27,vb v4)],[(2,.box (b0 d)),(3,.box (b4 c)),(4,.box (k1 0 0)),(31,.own 44 6 (mI s1.2.2))]⟩ ?_ ?_
     .have⟨c1,ξ,aU⟩:=ι aU;refine dw 13 tok mixed ⟨_,rfl,_,rfl,_,rfl,Br.ite ξ (λhb ξ=>?_) λhb ξ=>?_⟩
      .have⟨x1,Θ,ξ⟩:=ι ξ;refine⟨_,rfl,_,⟨_,rfl,rfl⟩,_,rfl,_,⟨_,aO Θ,_,aP Θ,rfl⟩,_,rfl,_,⟨_,rfl,rfl⟩,_,rfl,_,⟨_,rfl,rfl⟩,_,rfl,?_⟩;cases ξ;refine⟨_,rfl,Q0,?_⟩;cases aU;exact wt Q7 J4 rfl
      cases ξ;refine⟨_,rfl,Q0,?_⟩;cases aU;exact wt Q7 J4 rfl
     refine ct aA (λhb aA=>?_) λhb aA=>?_
     .have⟨aj,aA⟩:=aq aA;refine sg ⟨_,rfl,ah ⟨c_ (f:=eM) (n:=6) (λ_=>rfl) ([c]),c8 (f:=eM) (l:=s1.2.2) (l':=[c]) aj,_,(bO (f:=eM) (l₁:=s1.2.2) (l₂:=[c])).symm,rg ?_⟩⟩;cases aA;exact wt Q6 J4 rfl
     refine sk ?_;cases aA;exact wt Q6 J4 rfl
    have⟨x2,ar,Φ⟩:=ι Φ;refine sq (dw 9 tok mixed ⟨_,rfl,_,⟨_,rfl,rfl⟩,_,rfl,_,⟨_,aO ar,_,aP ar,rfl⟩,_,rfl,_,⟨_,rfl,rfl⟩,_,rfl,_,⟨_,rfl,rfl⟩,_,rfl,Q0,ct Φ (λhb Φ=>?_) λhb Φ=>?_⟩)
    .have⟨x3,aL,Φ⟩:=ι Φ;have⟨aX,Φ⟩:=aq Φ;refine rg ⟨_,rfl,_,aO aL,_,aP aL,_,rfl,ah ⟨c_ (f:=eM) (n:=6) (λ_=>rfl) ([x3]),c8 (f:=eM) (l:=v3.2) (l':=[x3]) aX,_,(bO (f:=eM) (l₁:=v3.2) (l₂:=[x3])).symm,?_⟩⟩;cases Φ;exact wt Q6 J4 rfl
    refine sk ?_;cases Φ;exact wt Q6 J4 rfl
   have⟨bY,ζ⟩:=aq ζ;exact rg (ah ⟨bY,_,sj ζ,wt Q6 J4 rfl⟩)
  refine xt ?_;have ζ:=aT ζ aB;cases ζ;exact wt Q5 J4 rfl
 have⟨v5,bh,h⟩:=ι h;refine Ok.aD ⟨Ψ [(2,.b 2 0),(4,.b 4 0),(5,.o 31)],[(2,.box (b0 d)),(4,.box (k1 0 0)),(31,.own 44 6 (mI v5))]⟩ ?_ ?_
 .refine sg (ct bh (λhb bh=>?_) λhb bh=>?_)
  .have⟨dL,bh⟩:=aq bh;refine rg ⟨_,rfl,ah ⟨c_ (f:=eM) (n:=6) (λ_=>rfl) ([c]),c8 (f:=eM) (l:=v1.2) (l':=[c]) dL,_,(bO (f:=eM) (l₁:=v1.2) (l₂:=[c])).symm,?_⟩⟩;cases bh;exact wt Q3 J3 rfl
  refine sk ?_;cases bh;exact wt Q3 J3 rfl
 cases h;exact sg ⟨_,rfl,sg ⟨_,rfl,_,rfl,rt ⟨_,rfl,Fz.a (.cons (Fz.o rfl) fq)⟩⟩⟩
def QT{c g d e r}(h:wB c g d e=V r):Pure prog 142 [.a (b0 c),vi g,vs d,vi e] (.a (b0 r)):=by
 refine pq tok 72 func142 ?_;unfold wB at h;have⟨x1,Θ,h⟩:=ι h;have⟨v1,ν,h⟩:=ι h;refine sg (sg ⟨_,rfl,Ω.call (jd Θ) lz ⟨_,rfl,sg ⟨_,rfl,_,rfl,sg (sg (Ok.aD ⟨Ψ [(4,.b 4 0),(8,.b 8 0),(9,.b 9 0),(11,.b 11 0),(12,.o 48),(13,vb v1.1)],[(4,.box (b0 c)),(8,.box (k1 0 0)),(9,.box (b4 x1.1)),(11,.box (Eh d e c.ai)),(48,.own 138 3 (mC v1.2))]⟩ ?_ ?_))⟩⟩⟩)
 .refine sg (bl (Ok.loop (λ(s1:Bool×Int×(List aH))=>⟨Ψ [(2,vs d),(4,.b 4 0),(8,.b 8 0),(9,.b 9 0),(11,.b 11 0),(12,.o 48),(13,vb s1.1),(14,vi s1.2.1)],[(4,.box (b0 c)),(8,.box (k1 0 0)),(9,.box (b4 x1.1)),(11,.box (Eh d e c.ai)),(48,.own 138 3 (mC s1.2.2))]⟩) (EU x1 d e c) (s0:=(false,0,[])) ν ((Wk.oW (t:=12) (id:=48) (E:=138) (K:=3) rfl rfl).trans (wt Q8 ⟨hr,hr,hr,hr,hr,Q0⟩ rfl)) ?_));intro s1 y1 ζ aB;unfold EU at ζ;refine sq (sg ⟨_,rfl,_,au _,λ_=>ct ζ (λhb ζ=>?_) λhb ζ=>?_⟩)
  .have⟨v2,Φ,ζ⟩:=ι ζ;refine sk (sq (bl (Ok.aD ⟨Ψ [(2,vs d),(4,.b 4 0),(8,.b 8 0),(9,.b 9 0),(11,.b 11 0),(12,.o 48),(13,vb v2.1),(14,vi s1.2.1)],[(4,.box (b0 c)),(8,.box (k1 0 0)),(9,.box (b4 x1.1)),(11,.box (Eh d e c.ai)),(48,.own 138 3 (mC v2.2))]⟩ ?_ ?_)))
   .have⟨v3,aA,Φ⟩:=ι Φ;refine Ok.aD ⟨Ψ [(2,vs d),(4,.b 4 0),(8,.b 8 0),(9,.b 9 0),(11,.b 11 0),(12,.o 48),(13,vb s1.1),(14,vi s1.2.1),(44,vb v3)],[(4,.box (b0 c)),(8,.box (k1 0 0)),(9,.box (b4 x1.1)),(11,.box (Eh d e c.ai)),(48,.own 138 3 (mC s1.2.2))]⟩ ?_ ?_
    .have⟨c1,ξ,aA⟩:=ι aA;refine rg (Br.ite ξ (λhb ξ=>?_) λhb ξ=>?_)
     .have⟨x2,ar,ξ⟩:=ι ξ;refine⟨_,rfl,_,aO ar,_,aP ar,_,rfl,_,ahq _ _,?_⟩;cases ξ;cases aA;exact wt ⟨lr,Q8⟩ ⟨hr,J4⟩ rfl
     cases ξ;cases aA;exact wt ⟨lr,Q8⟩ ⟨hr,J4⟩ rfl
    refine ct Φ (λhb Φ=>?_) λhb Φ=>?_
    .have⟨aj,Φ⟩:=aq Φ;refine sg ⟨_,rfl,ah ⟨c_ (f:=fB) (n:=3) (λ_=>rfl) ([(⟨d,e,c.ai⟩:aH)]),c8 (f:=fB) (l:=s1.2.2) (l':=[(⟨d,e,c.ai⟩:aH)]) aj,_,(bO (f:=fB) (l₁:=s1.2.2) (l₂:=[(⟨d,e,c.ai⟩:aH)])).symm,rg ?_⟩⟩;cases Φ;exact wt Q8 ⟨hr,J4⟩ rfl
    refine sk ?_;cases Φ;exact wt Q8 ⟨hr,J4⟩ rfl
   have⟨x3,aL,ζ⟩:=ι ζ;have⟨aX,ζ⟩:=aq ζ;have⟨bY,ζ⟩:=aq ζ;exact rg ⟨_,rfl,_,aO aL,_,aP aL,_,rfl,ah ⟨c_ (f:=fB) (n:=3) (λ_=>rfl) ([x3]),c8 (f:=fB) (l:=v2.2) (l':=[x3]) aX,_,(bO (f:=fB) (l₁:=v2.2) (l₂:=[x3])).symm,rg (ah ⟨bY,_,sj ζ,wt Q8 ⟨hr,J4⟩ rfl⟩)⟩⟩
  refine xt ?_;have ζ:=aT ζ aB;cases ζ;exact wt Q6 ⟨hr,J4⟩ rfl
 have⟨v4,aU,h⟩:=ι h;refine Ok.aD ⟨Ψ [(4,.b 4 0),(8,.b 8 0),(9,.b 9 0),(12,.o 48)],[(4,.box (b0 c)),(8,.box (k1 0 0)),(9,.box (b4 x1.1)),(48,.own 138 3 (mC v4))]⟩ ?_ ?_
 .refine sg (ct aU (λhb aU=>?_) λhb aU=>?_)
  .have⟨dL,aU⟩:=aq aU;refine rg ⟨_,rfl,ah ⟨c_ (f:=fB) (n:=3) (λ_=>rfl) ([(⟨d,e,c.ai⟩:aH)]),c8 (f:=fB) (l:=v1.2) (l':=[(⟨d,e,c.ai⟩:aH)]) dL,_,(bO (f:=fB) (l₁:=v1.2) (l₂:=[(⟨d,e,c.ai⟩:aH)])).symm,?_⟩⟩;cases aU;exact wt Q4 J4 rfl
  refine sk ?_;cases aU;exact wt Q4 J4 rfl
 have⟨fL,h⟩:=aq h;have⟨x4,aZ,h⟩:=ι h;cases h;exact sg ⟨_,rfl,sg ⟨_,rfl,ah ⟨fL,_,rfl,sg ⟨_,rfl,_,rfl,Ω.freeze (id:=48) rfl (Ω.call (zG aZ) lz ⟨_,rfl,rt ⟨_,rfl,Fz.cP rfl⟩⟩)⟩⟩⟩⟩
def aim{c d e f r}(h:EK c d e f=V r):Pure prog 91 [.a (b0 c),vi d,vi e,vs f] (.t [.a (b0 r.1),vi r.2]):=by
 refine pq tok 55 func91 ?_;unfold EK at h;have⟨x1,Θ,h⟩:=ι h;have⟨v1,ν,h⟩:=ι h;refine sg (sg ⟨_,rfl,Ω.call (jd Θ) lz ⟨_,rfl,sq (Ok.aD ⟨Ψ [(1,vi d),(2,vi e),(3,vs f),(4,.b 4 0),(8,.b 8 0),(10,.b 10 0),(30,vb v1)],[(4,.box (b0 c)),(8,.box (k1 0 0)),(10,.box (b4 x1.1))]⟩ ?_ ?_)⟩⟩)
 .have⟨c2,ξ,ν⟩:=ι ν;refine rg (Br.cA ξ (λhb ξ=>?_) λhb ξ=>?_)
  .cases ξ;cases ν;exact wt Q7 J3 rfl
  have⟨c1,az,ξ⟩:=ι ξ;refine⟨_,rfl,Br.ite az (λhb az=>?_) λhb az=>?_⟩
  .refine⟨_,rfl,?_⟩;cases az;cases ξ;cases ν;exact wt Q7 J3 rfl
  cases az;cases ξ;cases ν;exact wt Q7 J3 rfl
 refine ct h (λhb h=>?_) λhb h=>?_
 .cases h;exact sg ⟨_,rfl,_,rfl,rt ⟨_,rfl,Fz.t fq⟩⟩
 refine sk (sq (sg ⟨_,rfl,ct h (λhb h=>?_) λhb h=>?_⟩))
 .cases h;exact sg ⟨_,rfl,_,rfl,rt ⟨_,rfl,Fz.t fq⟩⟩
 have⟨x2,ar,h⟩:=ι h;refine sk (sg ⟨_,rfl,Ω.call (Y9 ar) lz (sq (sg (ct h (λhb h=>?_) λhb h=>?_)))⟩)
 .cases h;exact sg ⟨_,rfl,_,rfl,rt ⟨_,rfl,Fz.t fq⟩⟩
 have⟨aj,h⟩:=aq h;have⟨x3,aL,h⟩:=ι h;have⟨x4,aZ,h⟩:=ι h;cases h;exact sk (sg ⟨_,rfl,ah ⟨aj,_,rfl,sg ⟨_,rfl,_,rfl,Ω.call (zG aL) lz (Ω.call (QT aZ) lz ⟨_,rfl,rt ⟨_,rfl,Fz.t fq⟩⟩)⟩⟩⟩)
def aiR{a b r}(h:Fx a b=V r):Pure prog 222 [.s (mF a),vi b] (vb r):=by
 refine pq tok 19 func222 ?_;unfold Fx at h;refine sg (Ok.dy (λv1=>⟨Ψ [],[]⟩) (λv1=>Pt v1=V r) ?_ ?_)
 .refine sg (bl (Ok.loop (λ(s1:Int)=>⟨Ψ [(0,.s (mF a)),(1,vi b),(5,vi s1)],[]⟩) (JE a b) (s0:=0) h (wt Q3 Q0 rfl) ?_));intro s1 y1 ζ aB;unfold JE at ζ;refine sq (sg ⟨_,au _,λ_=>ct ζ (λhb ζ=>?_) λhb ζ=>?_⟩)
  .have⟨x1,Θ,ζ⟩:=ι ζ;refine sk (sq (bl (sg ⟨_,aO Θ,_,aP Θ,_,rfl,ct ζ (λhb ζ=>?_) λhb ζ=>?_⟩)))
   .refine sg (rt ?_);have ζ:=aT ζ aB;cases ζ;exact Fz.v
   have⟨aj,ζ⟩:=aq ζ;exact sk (rg (ah ⟨aj,_,sj ζ,wt Q3 Q0 rfl⟩))
  refine xt ?_;have ζ:=aT ζ aB;exact⟨_,ζ,wt Q0 Q0 rfl⟩
 intro v1 h;unfold Pt at h;cases h;exact sg (rt Fz.v)
def Y'{c d r}(h:BD c d=V r):Pure prog 225 [.a (b0 c),vi d] (.a (b0 r)):=by
 refine pq tok 33 func225 ?_;unfold BD at h;have⟨v1,ν,h⟩:=ι h;refine sg (sg (Ok.aD ⟨Ψ [(2,.b 2 0),(4,.b 4 0),(5,.o 29)],[(2,.box (b0 c)),(4,.box (k1 0 0)),(29,.own 44 6 (mI v1))]⟩ ?_ ?_))
 .refine sg (bl (Ok.loop (λ(s1:Int×(List τ))=>⟨Ψ [(1,vi d),(2,.b 2 0),(4,.b 4 0),(5,.o 29),(6,vi s1.1)],[(2,.box (b0 c)),(4,.box (k1 0 0)),(29,.own 44 6 (mI s1.2))]⟩) (E0 c d) (s0:=(0,[])) ν ((Wk.oW (t:=5) (id:=29) (E:=44) (K:=6) rfl rfl).trans (wt Q5 ⟨hr,hr,hr,Q0⟩ rfl)) ?_));intro s1 y1 ζ aB;unfold E0 at ζ;refine sq (sg ⟨_,rfl,_,au _,λ_=>ct ζ (λhb ζ=>?_) λhb ζ=>?_⟩)
  .have⟨v2,Φ,ζ⟩:=ι ζ;refine sk (Ok.aD ⟨Ψ [(1,vi d),(2,.b 2 0),(4,.b 4 0),(5,.o 29),(6,vi s1.1)],[(2,.box (b0 c)),(4,.box (k1 0 0)),(29,.own 44 6 (mI v2))]⟩ ?_ ?_)
   .have⟨x1,Θ,Φ⟩:=ι Φ;refine bl (sg ⟨_,rfl,_,aO Θ,_,aP Θ,_,rfl,ct Φ (λhb Φ=>?_) λhb Φ=>?_⟩)
    .have⟨x2,ar,Φ⟩:=ι Φ;have⟨aj,Φ⟩:=aq Φ;refine rg ⟨_,rfl,_,aO ar,_,aP ar,_,rfl,ah ⟨c_ (f:=eM) (n:=6) (λ_=>rfl) ([x2]),c8 (f:=eM) (l:=s1.2) (l':=[x2]) aj,_,(bO (f:=eM) (l₁:=s1.2) (l₂:=[x2])).symm,?_⟩⟩;cases Φ;exact wt Q5 J3 rfl
    refine sk ?_;cases Φ;exact wt Q5 J3 rfl
   have⟨aX,ζ⟩:=aq ζ;exact rg (ah ⟨aX,_,sj ζ,wt Q5 J3 rfl⟩)
  refine xt ?_;have ζ:=aT ζ aB;cases ζ;exact wt Q3 J3 rfl
 cases h;exact sg ⟨_,rfl,sg ⟨_,rfl,_,rfl,rt ⟨_,rfl,Fz.a (.cons (Fz.o rfl) fq)⟩⟩⟩
def Y7{c d r}(h:By c d=V r):Pure prog 160 [.a (b0 c),vi d] (.t [.a (b0 r.1),vi r.2]):=by
 refine pq tok 28 func160 ?_;unfold By at h;have⟨x1,Θ,h⟩:=ι h;refine sg (sg ⟨_,rfl,Ω.call (jd Θ) lz ⟨_,rfl,sq (sg (ct h (λhb h=>?_) λhb h=>?_))⟩⟩)
 .cases h;exact sg ⟨_,rfl,_,rfl,rt ⟨_,rfl,Fz.t fq⟩⟩
 refine sk (sq (sg ⟨_,rfl,ct h (λhb h=>?_) λhb h=>?_⟩))
 .cases h;exact sg ⟨_,rfl,_,rfl,rt ⟨_,rfl,Fz.t fq⟩⟩
 refine sk (sq (sg ⟨_,rfl,ct h (λhb h=>?_) λhb h=>?_⟩))
 .cases h;exact sg ⟨_,rfl,_,rfl,rt ⟨_,rfl,Fz.t fq⟩⟩
 have⟨x2,ar,h⟩:=ι h;cases h;exact sk (sg ⟨_,rfl,Ω.call (Y' ar) lz ⟨_,rfl,rt ⟨_,rfl,Fz.t fq⟩⟩⟩)
def Ze{a b r}(h:wF a b=V r):Pure prog 158 [.s (mA a),vi b] (vi r):=by
 refine pq tok 20 func158 ?_;unfold wF at h;refine sg (Ok.dy (λv1=>⟨Ψ [],[]⟩) (λv1=>Pg v1=V r) ?_ ?_)
 .refine sg (bl (Ok.loop (λ(s1:Int)=>⟨Ψ [(0,.s (mA a)),(1,vi b),(5,vi s1)],[]⟩) (E8 a b) (s0:=0) h (wt Q3 Q0 rfl) ?_));intro s1 y1 ζ aB;unfold E8 at ζ;refine sq (sg ⟨_,au _,λ_=>ct ζ (λhb ζ=>?_) λhb ζ=>?_⟩)
  .have⟨x1,Θ,ζ⟩:=ι ζ;refine sk (sq (bl (sg ⟨_,aO Θ,_,aP Θ,_,rfl,ct ζ (λhb ζ=>?_) λhb ζ=>?_⟩)))
   .refine sg (rt ?_);have ζ:=aT ζ aB;cases ζ;exact Fz.v
   have⟨aj,ζ⟩:=aq ζ;exact sk (rg (ah ⟨aj,_,sj ζ,wt Q3 Q0 rfl⟩))
  refine xt ?_;have ζ:=aT ζ aB;exact⟨_,ζ,wt Q0 Q0 rfl⟩
 intro v1 h;unfold Pg at h;cases h;exact sg (rt Fz.v)
def aiA{c d e r}(h:E5 c d e=V r):Pure prog 267 [.a (b0 c),.s (mA d),vi e] (vi r):=by
 refine pq tok 34 func267 ?_;unfold E5 at h;refine sg (sg (Ok.dy (λv1=>⟨Ψ [],[]⟩) (λv1=>Pe v1=V r) ?_ ?_))
 .refine sg (bl (Ok.loop (λ(s1:Int×Int)=>⟨Ψ [(1,.s (mA d)),(3,.b 3 0),(7,vi s1.1),(8,vi s1.2)],[(3,.box (b0 c))]⟩) (wD c d) (s0:=(e,0)) h (wt Q4 ⟨hr,Q0⟩ rfl) ?_));intro s1 y1 ζ aB;unfold wD at ζ;refine sq (sg ⟨_,rfl,_,au _,λ_=>ct ζ (λhb ζ=>?_) λhb ζ=>?_⟩)
  .have⟨x1,Θ,ζ⟩:=ι ζ;refine sk (sq (bl (sq (sg (Ω.call (Ze Θ) lz (ct ζ (λhb ζ=>?_) λhb ζ=>?_))))))
   .refine sg (rt ?_);have ζ:=aT ζ aB;cases ζ;exact Fz.v
   refine sk (sq (sg (ct ζ (λhb ζ=>?_) λhb ζ=>?_)))
   .refine sg (rt ?_);have ζ:=aT ζ aB;cases ζ;exact Fz.v
   have⟨x2,ar,ζ⟩:=ι ζ;have⟨aj,ζ⟩:=aq ζ;exact sk (sg ⟨_,rfl,Ω.call (jd ar) lz ⟨_,rfl,rg ⟨_,rfl,rg (ah ⟨aj,_,sj ζ,wt Q4 J1 rfl⟩)⟩⟩⟩)
  refine xt ?_;have ζ:=aT ζ aB;exact⟨_,ζ,wt Q0 Q0 rfl⟩
 intro v1 h;unfold Pe at h;cases h;exact sg (rt Fz.v)
def aiN{c d r}(h:Fs c d=V r):Pure prog 223 [.a (b0 c),.s (mA d)] (vb r):=by
 refine pq tok 70 func223 ?_;unfold Fs at h;refine sg (Ok.dy (λv1=>⟨Ψ [],[]⟩) (λv1=>JA v1=V r) ?_ ?_)
 .refine sg (bl (Ok.loop (λ(s1:Int)=>⟨Ψ [(1,.s (mA d)),(2,.b 2 0),(5,vi s1)],[(2,.box (b0 c))]⟩) (Jx c d) (s0:=0) h (wt Q3 ⟨hr,Q0⟩ rfl) ?_));intro s1 y1 ζ aB;unfold Jx at ζ;refine sq (sg ⟨_,rfl,_,au _,λ_=>ct ζ (λhb ζ=>?_) λhb ζ=>?_⟩)
  .refine sk (Ok.dy (λv2=>⟨Ψ [(1,.s (mA d)),(2,.b 2 0),(5,vi s1)],[(2,.box (b0 c))]⟩) (λv2=>BL s1 v2=V y1) ?_ ?_)
   .have⟨x1,Θ,ζ⟩:=ι ζ;refine bl (sq (sg ⟨_,rfl,_,aO Θ,_,aP Θ,_,rfl,ct ζ (λhb ζ=>?_) λhb ζ=>?_⟩))
    .exact xt ⟨_,ζ,wt Q3 ⟨hr,Q0⟩ rfl⟩
    refine sk (sg (sg (bl (Ok.loop (λ(s2:Int×Int)=>⟨Ψ [(1,.s (mA d)),(2,.b 2 0),(5,vi s1),(6,vi s2.1),(7,vi s2.2)],[(2,.box (b0 c))]⟩) (Jy c s1 d) (s0:=((-1),0)) ζ (wt Q5 ⟨hr,Q0⟩ rfl) ?_))));intro s2 y2 av eP;unfold Jy at av;refine sq (sg ⟨_,rfl,_,au _,λ_=>ct av (λhb av=>?_) λhb av=>?_⟩)
    .refine sk (Ok.dy (λv3=>⟨Ψ [(1,.s (mA d)),(2,.b 2 0),(5,vi s1),(6,vi v3),(7,vi s2.2)],[(2,.box (b0 c))]⟩) (λv3=>JB s2 v3=V y2) ?_ ?_)
     .have⟨x2,ar,av⟩:=ι av;refine bl (sg ⟨_,rfl,_,aO ar,_,aP ar,_,rfl,_,rfl,sg (bl (Ok.loop (λ(s3:Int×Int)=>⟨Ψ [(1,.s (mA d)),(2,.b 2 0),(5,vi s1),(6,vi s3.1),(7,vi s2.2),(8,.b 8 0),(9,vi s3.2)],[(2,.box (b0 c)),(8,.box (b4 x2))]⟩) (Jz x2 c s1 d s2) (s0:=(s2.1,0)) av (wt Q7 ⟨hr,hr,Q0⟩ rfl) ?_))⟩);intro s3 y3 bj qu;unfold Jz at bj;refine sq (sg ⟨_,rfl,_,au _,λ_=>ct bj (λhb bj=>?_) λhb bj=>?_⟩)
      .refine sk (Ok.dy (λv4=>⟨Ψ [(1,.s (mA d)),(2,.b 2 0),(5,vi s1),(6,vi v4),(7,vi s2.2),(8,.b 8 0),(9,vi s3.2)],[(2,.box (b0 c)),(8,.box (b4 x2))]⟩) (λv4=>BM s3 v4=V y3) ?_ ?_)
       .have⟨x3,aL,bj⟩:=ι bj;have⟨x4,aZ,bj⟩:=ι bj;refine bl (sq (sq (dw 13 tok mixed ⟨_,rfl,_,⟨_,rfl,rfl⟩,_,rfl,_,⟨_,aO aL,_,aP aL,rfl⟩,_,rfl,_,⟨_,rfl,rfl⟩,_,rfl,_,⟨_,rfl,rfl⟩,_,rfl,_,⟨_,aO aZ,_,aP aZ,rfl⟩,_,rfl,_,⟨_,rfl,rfl⟩,_,rfl,Q0,ct bj (λhb bj=>?_) λhb bj=>?_⟩)))
        .exact xt ⟨_,bj,wt Q7 ⟨hr,hr,Q0⟩ rfl⟩
        have⟨x5,bT,bj⟩:=ι bj;have⟨v5,bh,bj⟩:=ι bj;refine sk (sg ⟨_,rfl,_,rfl,Ω.call (aiA bT) lz (sq (Ok.aD ⟨Ψ [(1,.s (mA d)),(2,.b 2 0),(5,vi s1),(7,vi s2.2),(8,.b 8 0),(9,vi s3.2),(10,vi x5),(68,vb v5)],[(2,.box (b0 c)),(8,.box (b4 x2))]⟩ ?_ ?_))⟩)
        .have⟨c1,ξ,bh⟩:=ι bh;refine rg (Br.ite ξ (λhb ξ=>?_) λhb ξ=>?_)
         .cases ξ;cases bh;exact wt Q8 J2 rfl
         cases ξ;cases bh;exact wt Q8 J2 rfl
        refine ct bj (λhb bj=>?_) λhb bj=>?_
        .refine sg (rt ?_);have bj:=aT bj qu;have bj:=aT bj eP;have bj:=aT bj aB;cases bj;exact Fz.v
        exact sk (rg ⟨_,bj,wt Q7 ⟨hr,hr,Q0⟩ rfl⟩)
       intro v4 bj;unfold BM at bj;have⟨aj,bj⟩:=aq bj;exact rg (ah ⟨aj,_,sj bj,wt Q7 J2 rfl⟩)
      refine xt ?_;have bj:=aT bj qu;exact⟨_,bj,wt Q5 ⟨hr,Q0⟩ rfl⟩
     intro v3 av;unfold JB at av;have⟨aX,av⟩:=aq av;exact rg (ah ⟨aX,_,sj av,wt Q5 J1 rfl⟩)
    refine xt ?_;have av:=aT av eP;exact⟨_,av,wt Q3 ⟨hr,Q0⟩ rfl⟩
   intro v2 ζ;unfold BL at ζ;have⟨bY,ζ⟩:=aq ζ;exact rg (ah ⟨bY,_,sj ζ,wt Q3 J1 rfl⟩)
  refine xt ?_;have ζ:=aT ζ aB;exact⟨_,ζ,wt Q0 Q0 rfl⟩
 intro v1 h;unfold JA at h;cases h;exact sg (rt Fz.v)
def Zd{c d r}(h:y_ c d=V r):Pure prog 156 [.a (b0 c),vi d] (vb r):=by
 refine pq tok 19 func156 ?_;unfold y_ at h;have⟨x1,Θ,h⟩:=ι h;have⟨v1,ν,h⟩:=ι h;refine sg (sg ⟨_,rfl,Ω.call (jd Θ) lz ⟨_,rfl,Ok.aD ⟨Ψ [(4,vb v1)],[]⟩ ?_ ?_⟩⟩)
 .have⟨c1,ξ,ν⟩:=ι ν;refine rg (Br.ite ξ (λhb ξ=>?_) λhb ξ=>?_)
  .refine⟨_,rfl,?_⟩;cases ξ;cases ν;exact wt Q1 Q0 rfl
  cases ξ;cases ν;exact wt Q1 Q0 rfl
 cases h;exact rt Fz.v
def aiC{c d r}(h:za c d=V r):Pure prog 268 [.a (b0 c),vi d] (vi r):=by
 refine pq tok 22 func268 ?_;unfold za at h;refine sg (Ok.dy (λv1=>⟨Ψ [],[]⟩) (λv1=>Pj v1=V r) ?_ ?_)
 .refine sg (bl (Ok.loop (λ(s1:Int)=>⟨Ψ [(1,vi d),(2,.b 2 0),(5,vi s1)],[(2,.box (b0 c))]⟩) (zb c d) (s0:=0) h (wt Q3 ⟨hr,Q0⟩ rfl) ?_));intro s1 y1 ζ aB;unfold zb at ζ;refine sq (sg ⟨_,rfl,_,au _,λ_=>ct ζ (λhb ζ=>?_) λhb ζ=>?_⟩)
  .have⟨x1,Θ,ζ⟩:=ι ζ;refine sk (sq (bl (sg ⟨_,rfl,_,aO Θ,_,aP Θ,_,rfl,ct ζ (λhb ζ=>?_) λhb ζ=>?_⟩)))
   .refine sg (rt ?_);have ζ:=aT ζ aB;cases ζ;exact Fz.v
   have⟨aj,ζ⟩:=aq ζ;exact sk (rg (ah ⟨aj,_,sj ζ,wt Q3 J1 rfl⟩))
  refine xt ?_;have ζ:=aT ζ aB;exact⟨_,ζ,wt Q0 Q0 rfl⟩
 intro v1 h;unfold Pj at h;cases h;exact sg (rt Fz.v)
def ajP{c d r}(h:wG c d=V r):j5 prog 226 [.a (b0 c),vi d] 4 1 (mH r):=by
 refine pv tok 83 func226 ?_;unfold wG at h;have⟨aj,h⟩:=aq h;refine sg (sg ⟨_,rfl,_,au _,λ_=>Or.inr ⟨_,_,v_ aj,v_ aj,Nat.le_refl _,mk_le (by decide) aj,aj.2,_,(List.map_replicate (f:=cB) (a:=(false:Bool))).symm,Ok.dy (λv1=>⟨Ψ [(5,.o 14)],[(14,.own 4 1 (mH v1))]⟩) (λv1=>Jk v1=V r) ?_ ?_⟩⟩)
 .refine sg (bl (Ok.loop (λ(s1:Int×(List Bool))=>⟨Ψ [(1,vi d),(2,.b 2 0),(5,.o 14),(6,vi s1.1)],[(2,.box (b0 c)),(14,.own 4 1 (mH s1.2))]⟩) (E9 c d) (s0:=(0,List.replicate (c.η.length:Int).toNat (false:Bool))) h (wt Q4 ⟨hr,hr,Q0⟩ rfl) ?_));intro s1 y1 ζ aB;unfold E9 at ζ;refine sq (sg ⟨_,rfl,_,au _,λ_=>ct ζ (λhb ζ=>?_) λhb ζ=>?_⟩)
  .refine sk (Ok.dy (λv2=>⟨Ψ [(1,vi d),(2,.b 2 0),(5,.o 14),(6,vi s1.1)],[(2,.box (b0 c)),(14,.own 4 1 (mH v2))]⟩) (λv2=>Fa s1 v2=V y1) ?_ ?_)
   .have⟨v3,aA,ζ⟩:=ι ζ;refine bl (sg (Ok.aD ⟨Ψ [(1,vi d),(2,.b 2 0),(5,.o 14),(6,vi s1.1),(7,vb v3.1)],[(2,.box (b0 c)),(14,.own 4 1 (mH v3.2))]⟩ ?_ ?_))
    .refine sg (bl (Ok.loop (λ(s2:Bool×Int×(List Bool))=>⟨Ψ [(1,vi d),(2,.b 2 0),(5,.o 14),(6,vi s1.1),(7,vb s2.1),(8,vi s2.2.1)],[(2,.box (b0 c)),(14,.own 4 1 (mH s2.2.2))]⟩) (E_ c d) (s0:=(false,0,s1.2)) aA (wt Q6 ⟨hr,hr,Q0⟩ rfl) ?_));intro s2 y2 av eP;unfold E_ at av;refine sq (sg ⟨_,rfl,_,au _,λ_=>ct av (λhb av=>?_) λhb av=>?_⟩)
     .have⟨v4,aU,av⟩:=ι av;refine sk (Ok.aD ⟨Ψ [(1,vi d),(2,.b 2 0),(5,.o 14),(6,vi s1.1),(7,vb v4.1),(8,vi s2.2.1)],[(2,.box (b0 c)),(14,.own 4 1 (mH v4.2))]⟩ ?_ ?_)
      .have⟨v5,bh,aU⟩:=ι aU;refine bl (sq (Ok.aD ⟨Ψ [(1,vi d),(2,.b 2 0),(5,.o 14),(6,vi s1.1),(7,vb s2.1),(8,vi s2.2.1),(43,vb v5)],[(2,.box (b0 c)),(14,.own 4 1 (mH s2.2.2))]⟩ ?_ ?_))
       .have⟨x1,Θ,bh⟩:=ι bh;have⟨c1,ξ,bh⟩:=ι bh;refine rg ⟨_,aO Θ,ll Θ,_,aP Θ,rfl,_,rfl,Br.ite ξ (λhb ξ=>?_) λhb ξ=>?_⟩
        .have⟨x2,ar,ξ⟩:=ι ξ;refine⟨_,rfl,_,aO ar,_,aP ar,_,rfl,?_⟩;cases ξ;cases bh;exact wt Q7 J2 rfl
        cases ξ;cases bh;exact wt Q7 J2 rfl
       refine ct aU (λhb aU=>?_) λhb aU=>?_
       .refine xt ?_;cases aU;exact wt Q6 J2 rfl
       refine sk (sg (bl (Ok.loop (λ(s3:Bool×Int×(List Bool))=>⟨Ψ [(1,vi d),(2,.b 2 0),(5,.o 14),(6,vi s1.1),(7,vb s3.1),(8,vi s2.2.1),(9,vi s3.2.1)],[(2,.box (b0 c)),(14,.own 4 1 (mH s3.2.2))]⟩) (BH c s2) (s0:=(s2.1,0,s2.2.2)) aU (wt Q7 ⟨hr,hr,Q0⟩ rfl) ?_)));intro s3 y3 bj qu;unfold BH at bj;have⟨x3,aL,bj⟩:=ι bj;refine sq (sg ⟨_,rfl,_,aO aL,_,aP aL,_,rfl,_,au _,λ_=>ct bj (λhb bj=>?_) λhb bj=>?_⟩)
       .have⟨v6,de,bj⟩:=ι bj;refine sk (Ok.aD ⟨Ψ [(1,vi d),(2,.b 2 0),(5,.o 14),(6,vi s1.1),(7,vb v6.1),(8,vi s2.2.1),(9,vi s3.2.1)],[(2,.box (b0 c)),(14,.own 4 1 (mH v6.2))]⟩ ?_ ?_)
        .have⟨x4,aZ,de⟩:=ι de;have⟨x5,bT,de⟩:=ι de;have⟨x6,dg,de⟩:=ι de;have⟨v7,fM,de⟩:=ι de;refine bl (sq (dw 13 tok mixed ⟨_,⟨_,rfl,rfl⟩,_,rfl,_,⟨_,rfl,rfl⟩,_,rfl,_,⟨_,aO aZ,_,aP aZ,rfl⟩,_,rfl,_,⟨_,rfl,rfl⟩,_,rfl,_,⟨_,aO bT,_,aP bT,rfl⟩,_,rfl,_,⟨_,rfl,rfl⟩,_,⟨_,.dN (aiC dg) lz,rfl⟩,_,rfl,Q0,Ok.aD ⟨Ψ [(1,vi d),(2,.b 2 0),(5,.o 14),(6,vi s1.1),(7,vb s3.1),(8,vi s2.2.1),(9,vi s3.2.1),(10,vi x6),(75,vb v7)],[(2,.box (b0 c)),(14,.own 4 1 (mH s3.2.2))]⟩ ?_ ?_⟩))
         .have⟨c2,az,fM⟩:=ι fM;refine rg (Br.ite az (λhb az=>?_) λhb az=>?_)
          .have⟨x7,du,az⟩:=ι az;refine⟨_,aO du,ll du,_,aP du,rfl,_,rfl,?_⟩;cases az;cases fM;exact wt ⟨lr,Q8⟩ J2 rfl
          cases az;cases fM;exact wt ⟨lr,Q8⟩ J2 rfl
         refine ct de (λhb de=>?_) λhb de=>?_
         .have⟨x8,eJ,de⟩:=ι de;refine sg ⟨_,aO eJ,ll eJ,_,aP eJ,rfl,_,rfl,_,zq (f:=cB) (x:=true),rg ?_⟩;cases de;exact wt Q7 J2 rfl
         refine sk ?_;cases de;exact wt Q7 J2 rfl
        have⟨aX,bj⟩:=aq bj;exact rg (ah ⟨aX,_,sj bj,wt Q7 J2 rfl⟩)
       refine xt ?_;have bj:=aT bj qu;cases bj;exact wt Q6 J2 rfl
      have⟨bY,av⟩:=aq av;exact rg (ah ⟨bY,_,sj av,wt Q6 J2 rfl⟩)
     refine xt ?_;have av:=aT av eP;cases av;exact wt Q5 J2 rfl
    refine sg (ct ζ (λhb ζ=>?_) λhb ζ=>?_)
    .refine sg (rt ?_);have ζ:=aT ζ aB;cases ζ;exact(.inr ⟨_,rfl,rfl⟩)
    exact sk ⟨_,ζ,wt Q4 ⟨hr,hr,Q0⟩ rfl⟩
   intro v2 ζ;unfold Fa at ζ;have⟨dL,ζ⟩:=aq ζ;exact rg (ah ⟨dL,_,sj ζ,wt Q4 J2 rfl⟩)
  refine xt ?_;have ζ:=aT ζ aB;exact⟨_,ζ,wt Q1 ⟨hr,Q0⟩ rfl⟩
 intro v1 h;unfold Jk at h;cases h;exact sg (rt (.inr ⟨_,rfl,rfl⟩))
def aiD{b c r}(h:wG b c=V r):Pure prog 226 [.a (b0 b),vi c] (.s (mH r)):=(ajP h).pure
end Go.Proofs
