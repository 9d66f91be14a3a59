/- The walks of this seat beside the plain programs, part 11. No condition. -/
import Derived.Test.YtdcgbodbejgliaaGreatDoorXTopThereAndBackWk10
open Option renaming some->V
open List renaming length_map->au
namespace Go.Proofs
set_option linter.all false
open Go Go.Cat Tryz
variable[M:cD][K:LK]
set_option maxRecDepth 100000
set_option maxHeartbeats 4000000
def aja[oC]{e c d r}(h:FZ e c d=V r):Pure prog 5 (k28 e c d) (vb r):=by
 refine pq tok 137 func5 ?_;unfold FZ at h;have⟨x1,Θ,h⟩:=ι h;have⟨v1,ν,h⟩:=ι h;refine sg (sg (Ω.call (ajd Θ) lz (sq (Ok.aD ⟨Ψ [(0,.s (mK e)),(1,vs c),(2,vs d),(7,vb x1),(36,vb v1)],[]⟩ ?_ ?_))))
 .have⟨x2,ar,ν⟩:=ι ν;have⟨c1,ξ,ν⟩:=ι ν;refine rg (Ω.call (ah4 ar) lz (Br.cA ξ (λhb ξ=>?_) λhb ξ=>?_))
  .cases ξ;have⟨c2,az,ν⟩:=ι ν;replace az:=dS az;cases az;cases ν;exact wt Q5 Q0 rfl
  refine⟨_,kp _,?_⟩;cases ξ;have⟨c2,aQ,ν⟩:=ι ν;refine Br.cA aQ (λhb aQ=>?_) λhb aQ=>?_
  .cases aQ;cases ν;exact wt Q5 Q0 rfl
  refine⟨_,kp _,?_⟩;cases aQ;cases ν;exact wt Q5 Q0 rfl
 refine ct h (λhb h=>?_) λhb h=>?_
 .cases h;exact sg (rt Fz.v)
 have⟨x3,aL,h⟩:=ι h;have⟨x4,aZ,h⟩:=ι h;have⟨x5,bT,h⟩:=ι h;have⟨v2,Φ,h⟩:=ι h;refine sk (sg (Ω.call (ah6 aL) lz ⟨_,rfl,sg ⟨_,rfl,Ω.call (qC aZ) (l1 (.cons (Le.a (l4 (l2 (l1 (.cons (Le.nil) .nil))))) .nil)) ⟨_,rfl,_,rfl,sg ⟨_,rfl,Ω.call (qC bT) (l1 (.cons (Le.a (l4 (l2 (l1 (.cons (Le.nil) .nil))))) .nil)) ⟨_,rfl,_,rfl,sq (Ok.aD ⟨Ψ [(1,vs c),(2,vs d),(7,vb x1),(8,.b 8 0),(11,.b 11 0),(12,.b 12 0),(62,vb v2)],[(8,.box (b2 x3)),(11,.box (b2 x5.1)),(12,.box (iS x5.2))]⟩ ?_ ?_)⟩⟩⟩⟩⟩))
 .have⟨c3,bC,Φ⟩:=ι Φ;refine rg ⟨_,rfl,Br.cA bC (λhb bC=>?_) λhb bC=>?_⟩
  .cases bC;cases Φ;exact wt Q7 J3 rfl
  refine⟨_,rfl,?_⟩;cases bC;cases Φ;exact wt Q7 J3 rfl
 refine ct h (λhb h=>?_) λhb h=>?_
 .cases h;exact sg (rt Fz.v)
 have⟨x6,dg,h⟩:=ι h;have⟨x7,du,h⟩:=ι h;have⟨v3,aA,h⟩:=ι h;refine sk (sg ⟨_,rfl,Ω.call (qC dg) (l1 (.cons (Le.a (l4 (l2 (l1 (.cons (Le.nil) .nil))))) .nil)) ⟨_,rfl,_,rfl,sg ⟨_,rfl,Ω.call (Zo du) lz (sq (Ok.aD ⟨Ψ [(7,vb x1),(8,.b 8 0),(13,.b 13 0),(15,.s (mG x7.1)),(90,vb v3)],[(8,.box (b2 x3)),(13,.box (b2 x6.1))]⟩ ?_ ?_))⟩⟩⟩)
 .have⟨c4,bX,aA⟩:=ι aA;refine rg ⟨_,rfl,Br.cA bX (λhb bX=>?_) λhb bX=>?_⟩
  .cases bX;have⟨c5,cI,aA⟩:=ι aA;replace cI:=dS cI;cases cI;cases aA;exact wt Q5 J2 rfl
  refine⟨_,rfl,_,rfl,?_⟩;cases bX;have⟨c5,cJ,aA⟩:=ι aA;refine Br.cA cJ (λhb cJ=>?_) λhb cJ=>?_
  .cases cJ;cases aA;exact wt Q5 J2 rfl
  cases cJ;cases aA;exact wt Q5 J2 rfl
 refine ct h (λhb h=>?_) λhb h=>?_
 .cases h;exact sg (rt Fz.v)
 refine sk (Ok.dy (λv4=>⟨Ψ [(7,vb x1),(13,.b 13 0),(15,.s (mG x7.1))],[(13,.box (b2 x6.1))]⟩) (λv4=>Ki x6 x1 x7 v4=V r) ?_ ?_)
 .refine sg (bl (Ok.loop (λ(s1:Int)=>⟨Ψ [(7,vb x1),(8,.b 8 0),(13,.b 13 0),(15,.s (mG x7.1)),(17,vi s1)],[(8,.box (b2 x3)),(13,.box (b2 x6.1))]⟩) (Kh x7 x3 x6 x1) (s0:=0) h (wt Q5 ⟨hr,hr,Q0⟩ rfl) ?_));intro s1 y1 ζ aB;unfold Kh at ζ;refine sq (sg ⟨_,au _,λ_=>ct ζ (λhb ζ=>?_) λhb ζ=>?_⟩)
  .have⟨x8,eJ,ζ⟩:=ι ζ;have⟨x9,ga,ζ⟩:=ι ζ;have⟨dI,gQ,ζ⟩:=ι ζ;have⟨ez,jT,ζ⟩:=ι ζ;have⟨dU,kb,ζ⟩:=ι ζ;refine sk (sq (bl (sq (Ok.iG (m:=12) (late:=[9]) (MD:=⟨[]⟩) (CH:=⟨[]⟩) tok mixed (by kernel_rfl) ⟨_,⟨_,rfl,rfl⟩,_,rfl,_,rfl,_,⟨_,aO eJ,_,aP eJ,rfl⟩,_,⟨_,rfl,rfl⟩,_,rfl,_,⟨_,.dN (qC ga) (l1 (.cons (Le.a (l4 (l2 (l1 (.cons (Le.nil) .nil))))) .nil)),rfl⟩,_,rfl,_,rfl,_,rfl,Q0,_,rfl,⟨⟨_,rfl,rfl⟩,Q0⟩,_,rfl,sq (Ok.iG (m:=12) (late:=[9]) (MD:=⟨[]⟩) (CH:=⟨[]⟩) tok mixed (by kernel_rfl) ⟨_,⟨_,rfl,rfl⟩,_,rfl,_,rfl,_,⟨_,aO gQ,_,aP gQ,rfl⟩,_,⟨_,rfl,rfl⟩,_,rfl,_,⟨_,.dN (qC jT) (l1 (.cons (Le.a (l4 (l2 (l1 (.cons (Le.nil) .nil))))) .nil)),rfl⟩,_,rfl,_,rfl,_,rfl,Q0,_,rfl,⟨⟨_,rfl,rfl⟩,Q0⟩,_,rfl,sg ⟨_,rfl,_,rfl,Ω.call (aiP kb) lz (ct ζ (λhb ζ=>?_) λhb ζ=>?_)⟩⟩)⟩))))
   .refine sg (rt ?_);have ζ:=aT ζ aB;cases ζ;exact Fz.v
   have⟨aj,ζ⟩:=aq ζ;exact sk (rg (Or.inl ⟨aj,_,sj ζ,wt Q5 J2 rfl⟩))
  refine xt ?_;have ζ:=aT ζ aB;exact⟨_,ζ,wt Q3 ⟨hr,Q0⟩ rfl⟩
 intro v4 h;unfold Ki at h;have⟨fy,nV,h⟩:=ι h;have⟨v5,bh,h⟩:=ι h;refine sg ⟨_,rfl,Ω.call (Zo nV) lz (Ok.aD ⟨Ψ [(6,vb v5)],[]⟩ ?_ ?_)⟩
 .have⟨c6,c9,bh⟩:=ι bh;refine rg (Br.ite c9 (λhb c9=>?_) λhb c9=>?_)
  .cases c9;have⟨c7,dr,bh⟩:=ι bh;refine Br.ite dr (λhb dr=>?_) λhb dr=>?_
   .refine⟨_,au _,λ_=>⟨_,au _,λ_=>?_⟩⟩;cases dr;cases bh;exact wt Q1 Q0 rfl
   cases dr;cases bh;exact wt Q1 Q0 rfl
  cases c9;have⟨c7,dY,bh⟩:=ι bh;replace dY:=dE dY;cases dY;cases bh;exact wt Q1 Q0 rfl
 cases h;exact rt Fz.v
end Go.Proofs
