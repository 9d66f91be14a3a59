/- The walks of this seat beside the plain programs, part 8. No condition. -/
import Derived.Test.YtdcgbodbejgliaaGreatDoorXTopThereAndBackWk7
open Option renaming some->V
open List renaming length_map->au,map_append->bO
open Or renaming inl->ah
namespace Go.Proofs
set_option linter.all false
open Go Go.Cat Tryz
variable[M:cD][K:LK]
set_option maxRecDepth 100000
set_option maxHeartbeats 4000000
def aiB{i g d c e r}(h:E6 i g d c e=V r):Pure prog 101 [.a (b0 i),.s (mA g),vi d,vi c,vi e] (.t [.s (mA r.1),vi r.2]):=by
 refine pq tok 118 func101 ?_;unfold E6 at h;have⟨x1,Θ,h⟩:=ι h;refine sg (sg ⟨_,rfl,Ω.call (jd Θ) lz ⟨_,rfl,sq (sg (ct h (λhb h=>?_) λhb h=>?_))⟩⟩)
 .cases h;exact sg (rt (Fz.t (.cons Fz.s fq)))
 have⟨x2,ar,h⟩:=ι h;refine sk (sg ⟨_,rfl,Ω.call (Zd ar) lz (sq (sg (ct h (λhb h=>?_) λhb h=>?_)))⟩)
 .cases h;exact sg (rt (Fz.t (.cons Fz.s fq)))
 have⟨x3,aL,h⟩:=ι h;have⟨v1,ν,h⟩:=ι h;refine sk (sg ⟨_,rfl,Ω.call (Zc aL) lz (sq (Ok.aD ⟨Ψ [(1,.s (mA g)),(2,vi d),(3,vi c),(4,vi e),(52,vb v1)],[]⟩ ?_ ?_))⟩)
 .have⟨c2,ξ,ν⟩:=ι ν;refine rg (Br.ite ξ (λhb ξ=>?_) λhb ξ=>?_)
  .have⟨c1,az,ξ⟩:=ι ξ;refine Br.cA az (λhb az=>?_) λhb az=>?_
   .cases az;cases ξ;cases ν;exact wt Q5 Q0 rfl
   cases az;cases ξ;cases ν;exact wt Q5 Q0 rfl
  cases ξ;cases ν;exact wt Q5 Q0 rfl
 refine ct h (λhb h=>?_) λhb h=>?_
 .cases h;exact sg (rt (Fz.t (.cons Fz.s fq)))
 have⟨v2,Φ,h⟩:=ι h;refine sk (sq (Ok.aD ⟨Ψ [(1,.s (mA g)),(2,vi d),(3,vi c),(4,vi e),(66,vb v2)],[]⟩ ?_ ?_))
 .have⟨c3,aQ,Φ⟩:=ι Φ;refine rg (Br.ite aQ (λhb aQ=>?_) λhb aQ=>?_)
  .have⟨x4,aZ,aQ⟩:=ι aQ;refine Ω.call (Ze aZ) lz ?_;cases aQ;have⟨c4,bC,Φ⟩:=ι Φ;refine Br.ite bC (λhb bC=>?_) λhb bC=>?_
   .refine⟨_,au _,λ_=>?_⟩;cases bC;cases Φ;exact wt Q5 Q0 rfl
   cases bC;cases Φ;exact wt Q5 Q0 rfl
  cases aQ;have⟨c4,bX,Φ⟩:=ι Φ;replace bX:=dE bX;cases bX;cases Φ;exact wt Q5 Q0 rfl
 refine ct h (λhb h=>?_) λhb h=>?_
 .cases h;exact sg (rt (Fz.t (.cons Fz.s fq)))
 have⟨v3,aA,h⟩:=ι h;refine sk (sg (sg (Ok.aD ⟨Ψ [(2,vi d),(3,vi c),(4,vi e),(17,.o 93),(18,vb v3.1)],[(93,.own 86 3 (mA v3.2))]⟩ ?_ ?_)))
 .refine sg (bl (Ok.loop (λ(s1:Bool×Int×(List aJ))=>⟨Ψ [(1,.s (mA g)),(2,vi d),(3,vi c),(4,vi e),(17,.o 93),(18,vb s1.1),(19,vi s1.2.1)],[(93,.own 86 3 (mA s1.2.2))]⟩) (Jj g d c e) (s0:=((decide (c<0)),0,[])) aA ((Wk.oW (t:=17) (id:=93) (E:=86) (K:=3) rfl rfl).trans (wt Q7 ⟨hr,Q0⟩ rfl)) ?_));intro s1 y1 ζ aB;unfold Jj at ζ;refine sq (sg ⟨_,au _,λ_=>ct ζ (λhb ζ=>?_) λhb ζ=>?_⟩)
  .have⟨v4,aU,ζ⟩:=ι ζ;refine sk (Ok.aD ⟨Ψ [(1,.s (mA g)),(2,vi d),(3,vi c),(4,vi e),(17,.o 93),(18,vb v4.1),(19,vi s1.2.1)],[(93,.own 86 3 (mA v4.2))]⟩ ?_ ?_)
   .have⟨v5,bh,aU⟩:=ι aU;refine bl (Ok.aD ⟨Ψ [(1,.s (mA g)),(2,vi d),(3,vi c),(4,vi e),(17,.o 93),(18,vb v5.1),(19,vi s1.2.1)],[(93,.own 86 3 (mA v5.2))]⟩ ?_ ?_)
    .have⟨v6,de,bh⟩:=ι bh;refine Ok.aD ⟨Ψ [(1,.s (mA g)),(2,vi d),(3,vi c),(4,vi e),(17,.o 93),(18,vb s1.1),(19,vi s1.2.1),(86,vb v6)],[(93,.own 86 3 (mA s1.2.2))]⟩ ?_ ?_
     .have⟨c5,cI,de⟩:=ι de;refine rg (Br.ite cI (λhb cI=>?_) λhb cI=>?_)
      .have⟨x5,bT,cI⟩:=ι cI;refine⟨_,aO bT,_,aP bT,_,rfl,?_⟩;cases cI;cases de;exact wt Q8 J1 rfl
      cases cI;cases de;exact wt Q8 J1 rfl
     refine ct bh (λhb bh=>?_) λhb bh=>?_
     .have⟨aj,bh⟩:=aq bh;refine sg (ah ⟨c_ (f:=il) (n:=3) (λ_=>rfl) ([(⟨d,c,e⟩:aJ)]),c8 (f:=il) (l:=s1.2.2) (l':=[(⟨d,c,e⟩:aJ)]) aj,_,(bO (f:=il) (l₁:=s1.2.2) (l₂:=[(⟨d,c,e⟩:aJ)])).symm,rg ?_⟩);cases bh;exact wt Q7 J1 rfl
     refine sk ?_;cases bh;exact wt Q7 J1 rfl
    have⟨x6,dg,aU⟩:=ι aU;refine sg ⟨_,aO dg,_,aP dg,_,rfl,ct aU (λhb aU=>?_) λhb aU=>?_⟩
    .have⟨x7,du,aU⟩:=ι aU;have⟨aX,aU⟩:=aq aU;refine rg ⟨_,aO du,_,aP du,_,rfl,ah ⟨c_ (f:=il) (n:=3) (λ_=>rfl) ([x7]),c8 (f:=il) (l:=v5.2) (l':=[x7]) aX,_,(bO (f:=il) (l₁:=v5.2) (l₂:=[x7])).symm,?_⟩⟩;cases aU;exact wt Q7 J1 rfl
    refine sk ?_;cases aU;exact wt Q7 J1 rfl
   have⟨bY,ζ⟩:=aq ζ;exact rg (ah ⟨bY,_,sj ζ,wt Q7 J1 rfl⟩)
  refine xt ?_;have ζ:=aT ζ aB;cases ζ;exact wt Q5 J1 rfl
 have⟨v7,fM,h⟩:=ι h;refine Ok.aD ⟨Ψ [(17,.o 93)],[(93,.own 86 3 (mA v7))]⟩ ?_ ?_
 .refine sg (ct fM (λhb fM=>?_) λhb fM=>?_)
  .have⟨dL,fM⟩:=aq fM;refine rg (ah ⟨c_ (f:=il) (n:=3) (λ_=>rfl) ([(⟨d,c,e⟩:aJ)]),c8 (f:=il) (l:=v3.2) (l':=[(⟨d,c,e⟩:aJ)]) dL,_,(bO (f:=il) (l₁:=v3.2) (l₂:=[(⟨d,c,e⟩:aJ)])).symm,?_⟩);cases fM;exact wt Q1 J1 rfl
  refine sk ?_;cases fM;exact wt Q1 J1 rfl
 cases h;exact sg (rt (Fz.t (.cons (Fz.o rfl) fq)))
def aiI{c d r}(h:Fk c d=V r):Pure prog 102 [.a (b1 c),vi d] (.t [.a (b1 r.1),vi r.2.1,vi r.2.2]):=by
 refine pq tok 58 func102 ?_;unfold Fk at h;have⟨x1,Θ,h⟩:=ι h;refine sg (sg ⟨_,rfl,Ω.call (jd Θ) lz ⟨_,rfl,sq (sg (ct h (λhb h=>?_) λhb h=>?_))⟩⟩)
 .cases h;exact sg ⟨_,rfl,_,rfl,rt ⟨_,rfl,Fz.t fq⟩⟩
 refine sk (sq (sg ⟨_,rfl,ct h (λhb h=>?_) λhb h=>?_⟩))
 .cases h;exact sg ⟨_,rfl,_,rfl,rt ⟨_,rfl,Fz.t fq⟩⟩
 have⟨v1,ν,h⟩:=ι h;refine sk (sq (Ok.aD ⟨Ψ [(1,vi d),(2,.b 2 0),(4,.b 4 0),(33,vb v1)],[(2,.box (b1 c)),(4,.box (k3 0 0 0 0))]⟩ ?_ ?_))
 .have⟨c1,ξ,ν⟩:=ι ν;refine rg ⟨_,rfl,_,au _,λ_=>Br.cA ξ (λhb ξ=>?_) λhb ξ=>?_⟩
  .cases ξ;cases ν;exact wt Q4 J2 rfl
  refine⟨_,rfl,?_⟩;cases ξ;cases ν;exact wt Q4 J2 rfl
 refine ct h (λhb h=>?_) λhb h=>?_
 .cases h;exact sg ⟨_,rfl,_,rfl,rt ⟨_,rfl,Fz.t fq⟩⟩
 have⟨aj,h⟩:=aq h;have⟨aX,h⟩:=aq h;have⟨bY,h⟩:=aq h;cases h;exact sk (sg (Or.inr ⟨_,rfl,c_ (f:=rX) (n:=3) (λ_=>rfl) c.cm,c8 (f:=rX) (l:=([]:List cG)) (l':=c.cm) aj,_,(bO (f:=rX) (l₁:=([]:List cG)) (l₂:=c.cm)).symm,sg ⟨_,rfl,_,rfl,ah ⟨c_ (f:=rX) (n:=3) (λ_=>rfl) ([(⟨c.Next,d,c.bE⟩:cG)]),c8 (f:=rX) (l:=([]:List cG)++c.cm) (l':=[(⟨c.Next,d,c.bE⟩:cG)]) aX,_,(bO (f:=rX) (l₁:=([]:List cG)++c.cm) (l₂:=[(⟨c.Next,d,c.bE⟩:cG)])).symm,sg ⟨_,rfl,sg ⟨_,rfl,sg ⟨_,rfl,ah ⟨bY,_,rfl,sg ⟨_,rfl,_,rfl,rt ⟨_,rfl,Fz.t (.cons (Fz.a (.cons Fz.s (.cons Fz.v (.cons Fz.v (.cons Fz.v (.cons Fz.s (.cons Fz.s (.cons (Fz.o rfl) fq)))))))) fq)⟩⟩⟩⟩⟩⟩⟩⟩⟩))
def aiV{c d r}(h:FC c d=V r):Pure prog 50 [.a (b2 c),.a (lJ d)] (.t [.a (b2 r.1),.a (iS r.2)]):=by
 refine pq tok 170 func50 ?_;unfold FC at h;have⟨x1,Θ,h⟩:=ι h;refine sg (sg ⟨_,rfl,_,rfl,sg ⟨_,rfl,_,rfl,Ω.call (QS Θ) lz (sq (sg (ct h (λhb h=>?_) λhb h=>?_)))⟩⟩)
 .have⟨x2,ar,h⟩:=ι h;cases h;exact sq (dw 3 tok mixed ⟨_,⟨_,rfl,rfl⟩,_,rfl,_,⟨_,.dN (kq ar) lz,rfl⟩,Q0,_,rfl,_,rfl,rt ⟨_,rfl,_,rfl,Fz.t fq⟩⟩)
 have⟨x3,aL,h⟩:=ι h;refine sk (sg ⟨_,rfl,Ω.call (jd aL) lz ⟨_,rfl,Ok.dy (λv1=>⟨Ψ [(2,.b 2 0),(4,.b 4 0),(5,.b 5 0),(7,vi x1.1)],[(2,.box (b2 c)),(4,.box (k6 0 0 0 0)),(5,.box (iL 0 0 0 0 0))]⟩) (λv1=>JO c x1 v1=V r) ?_ ?_⟩⟩)
 .refine sg ⟨_,rfl,bl (sg (ct h (λhb h=>?_) λhb h=>?_))⟩
  .cases h;exact sq (Ok.iG (m:=5) (late:=[1,2,3,4]) (MD:=⟨[]⟩) (CH:=⟨[]⟩) tok mixed (by kernel_rfl) ⟨_,⟨_,rfl,rfl⟩,_,rfl,_,rfl,_,⟨_,rfl,rfl⟩,_,rfl,Q0,_,rfl,⟨⟨_,rfl,rfl⟩,⟨_,rfl,rfl⟩,⟨_,rfl,_,rfl,rfl⟩,⟨_,rfl,rfl⟩,Q0⟩,_,rfl,rt ⟨_,rfl,_,rfl,Fz.t (.cons (Fz.cP rfl) (.cons (Fz.a (.cons Fz.v (.cons Fz.v (.cons Fz.v (.cons Fz.v (.cons Fz.v (.cons Fz.nil (.cons Fz.nil .nil)))))))) .nil))⟩⟩)
  refine sg (ct h (λhb h=>?_) λhb h=>?_)
  .have⟨x4,aZ,h⟩:=ι h;cases h;exact sq (Ok.iG (m:=9) (late:=[1,2,3,4,5,8]) (MD:=⟨[]⟩) (CH:=⟨[]⟩) tok mixed (by kernel_rfl) ⟨_,⟨_,rfl,rfl⟩,_,rfl,_,rfl,_,⟨_,rfl,rfl⟩,_,rfl,_,⟨_,rfl,rfl⟩,_,⟨_,rfl,rfl⟩,_,⟨_,.dN (Zh aZ) lz,rfl⟩,_,rfl,Q0,_,rfl,⟨⟨_,rfl,rfl⟩,⟨_,rfl,rfl⟩,⟨_,rfl,_,rfl,rfl⟩,⟨_,rfl,rfl⟩,⟨_,rfl,_,rfl,rfl⟩,⟨_,rfl,rfl⟩,Q0⟩,_,rfl,rt ⟨_,rfl,_,rfl,Fz.t (.cons (Fz.cP rfl) (.cons (Fz.a (.cons Fz.v (.cons Fz.v (.cons Fz.v (.cons Fz.v (.cons Fz.v (.cons Fz.nil (.cons Fz.nil .nil)))))))) .nil))⟩⟩)
  refine sg (ct h (λhb h=>?_) λhb h=>?_)
  .have⟨x5,bT,h⟩:=ι h;refine sg ⟨_,rfl,_,rfl,_,rfl,Ω.call (ail bT) lz (sq (sg (ct h (λhb h=>?_) λhb h=>?_)))⟩
   .have⟨x6,dg,h⟩:=ι h;cases h;exact sq (dw 3 tok mixed ⟨_,⟨_,rfl,rfl⟩,_,rfl,_,⟨_,.dN (kq dg) lz,rfl⟩,Q0,_,rfl,_,rfl,rt ⟨_,rfl,_,rfl,Fz.t fq⟩⟩)
   have⟨v2,Φ,h⟩:=ι h;refine sk (sg (Ok.aD ⟨Ψ [(2,.b 2 0),(4,.b 4 0),(5,.b 5 0),(12,vi x5.2.1),(14,.o 97)],[(2,.box (b2 c)),(4,.box (k6 0 0 0 0)),(5,.box (iL 0 0 0 0 0)),(97,.own 9 1 (mG v2))]⟩ ?_ ?_))
   .refine sg (bl (Ok.loop (λ(s1:Int×(List (List UInt8)))=>⟨Ψ [(2,.b 2 0),(4,.b 4 0),(5,.b 5 0),(11,.s (mC x5.1)),(12,vi x5.2.1),(14,.o 97),(15,vi s1.1)],[(2,.box (b2 c)),(4,.box (k6 0 0 0 0)),(5,.box (iL 0 0 0 0 0)),(97,.own 9 1 (mG s1.2))]⟩) (JN x5) (s0:=(0,[])) Φ ((Wk.oW (t:=14) (id:=97) (E:=9) (K:=1) rfl rfl).trans (wt Q7 ⟨hr,hr,hr,hr,Q0⟩ rfl)) ?_));intro s1 y1 ζ aB;unfold JN at ζ;refine sq (sg ⟨_,au _,λ_=>ct ζ (λhb ζ=>?_) λhb ζ=>?_⟩)
    .have⟨x7,du,ζ⟩:=ι ζ;have⟨aj,ζ⟩:=aq ζ;have⟨aX,ζ⟩:=aq ζ;exact sk (sq (bl (rg ⟨_,aO du,_,aP du,_,rfl,ah ⟨c_ (f:=fg) (n:=1) (λ_=>rfl) ([x7.aC]),c8 (f:=fg) (l:=s1.2) (l':=[x7.aC]) aj,_,(bO (f:=fg) (l₁:=s1.2) (l₂:=[x7.aC])).symm,rg (ah ⟨aX,_,sj ζ,wt Q7 J4 rfl⟩)⟩⟩)))
    refine xt ?_;have ζ:=aT ζ aB;cases ζ;exact wt Q5 J4 rfl
   cases h;exact sg ⟨_,rfl,_,rfl,_,rfl,rt ⟨_,rfl,_,rfl,Fz.t (.cons (Fz.cP rfl) (.cons (Fz.a (.cons Fz.v (.cons Fz.v (.cons Fz.v (.cons Fz.v (.cons Fz.v (.cons (Fz.o rfl) (.cons Fz.nil .nil)))))))) .nil))⟩⟩
  refine sg (ct h (λhb h=>?_) λhb h=>?_)
  .have⟨x8,eJ,h⟩:=ι h;refine sg ⟨_,rfl,_,rfl,_,rfl,_,rfl,Ω.call (aiz eJ) lz (sq (sg (ct h (λhb h=>?_) λhb h=>?_)))⟩
   .have⟨x9,ga,h⟩:=ι h;cases h;exact sq (dw 3 tok mixed ⟨_,⟨_,rfl,rfl⟩,_,rfl,_,⟨_,.dN (kq ga) lz,rfl⟩,Q0,_,rfl,_,rfl,rt ⟨_,rfl,_,rfl,Fz.t fq⟩⟩)
   cases h;exact sk (sg ⟨_,rfl,sg ⟨_,rfl,_,rfl,_,rfl,rt ⟨_,rfl,_,rfl,Fz.t (.cons (Fz.cP rfl) (.cons (Fz.a (.cons Fz.v (.cons Fz.v (.cons Fz.v (.cons Fz.v (.cons Fz.v (.cons Fz.nil (.cons Fz.nil .nil)))))))) .nil))⟩⟩⟩)
  refine sg (ct h (λhb h=>?_) λhb h=>?_)
  .have⟨dI,gQ,h⟩:=ι h;have⟨ez,jT,h⟩:=ι h;cases h;exact sg ⟨_,rfl,_,rfl,_,rfl,_,rfl,Ω.call (aiB gQ) lz (sg ⟨_,rfl,_,rfl,Ω.call (zH jT) (l4 (.cons (Le.a (l4 (l1 (.cons (Le.nil) (.cons (Le.nil) .nil))))) .nil)) ⟨_,rfl,_,rfl,sq (Ok.iG (m:=2) (late:=[1]) (MD:=⟨[]⟩) (CH:=⟨[]⟩) tok mixed (by kernel_rfl) ⟨_,⟨_,rfl,rfl⟩,_,⟨_,rfl,rfl⟩,Q0,_,rfl,⟨⟨_,rfl,_,rfl,rfl⟩,Q0⟩,_,rfl,rt ⟨_,rfl,_,rfl,Fz.t fq⟩⟩)⟩⟩)⟩
  exact sk ⟨_,h,wt Q4 ⟨hr,hr,hr,Q0⟩ rfl⟩
 intro v1 h;unfold JO at h;have⟨dU,kb,h⟩:=ι h;refine sg ⟨_,rfl,Ω.call (aiI kb) lz ⟨_,rfl,sq (sg (ct h (λhb h=>?_) λhb h=>?_))⟩⟩
 .have⟨fy,nV,h⟩:=ι h;cases h;exact sq (dw 3 tok mixed ⟨_,⟨_,rfl,rfl⟩,_,rfl,_,⟨_,.dN (kq nV) lz,rfl⟩,Q0,_,rfl,_,rfl,rt ⟨_,rfl,_,rfl,Fz.t fq⟩⟩)
 cases h;exact sk (sg ⟨_,rfl,_,rfl,sg ⟨_,rfl,_,rfl,_,rfl,rt ⟨_,rfl,_,rfl,Fz.t (.cons (Fz.cP rfl) (.cons (Fz.a (.cons Fz.v (.cons Fz.v (.cons Fz.v (.cons Fz.v (.cons Fz.v (.cons Fz.nil (.cons Fz.nil .nil)))))))) .nil))⟩⟩⟩)
def aix{a b r}(h:E2 a b=V r):Pure prog 159 [.s (mF a),vi b] (vi r):=by
 refine pq tok 23 func159 ?_;unfold E2 at h;have⟨v1,ν,h⟩:=ι h;refine sg (sg (Ok.aD ⟨Ψ [(5,vi v1)],[]⟩ ?_ ?_))
 .refine sg (bl (Ok.loop (λ(s1:Int×Int)=>⟨Ψ [(0,.s (mF a)),(1,vi b),(5,vi s1.1),(6,vi s1.2)],[]⟩) (Jg a b) (s0:=(0,0)) ν (wt Q4 Q0 rfl) ?_));intro s1 y1 ζ aB;unfold Jg at ζ;refine sq (sg ⟨_,au _,λ_=>ct ζ (λhb ζ=>?_) λhb ζ=>?_⟩)
  .have⟨v2,Φ,ζ⟩:=ι ζ;refine sk (Ok.aD ⟨Ψ [(0,.s (mF a)),(1,vi b),(5,vi v2),(6,vi s1.2)],[]⟩ ?_ ?_)
   .have⟨x1,Θ,Φ⟩:=ι Φ;refine bl (sg ⟨_,aO Θ,_,aP Θ,_,rfl,ct Φ (λhb Φ=>?_) λhb Φ=>?_⟩)
    .have⟨aj,Φ⟩:=aq Φ;refine rg (ah ⟨aj,?_⟩);cases Φ;exact wt Q4 Q0 rfl
    refine sk ?_;cases Φ;exact wt Q4 Q0 rfl
   have⟨aX,ζ⟩:=aq ζ;exact rg (ah ⟨aX,_,sj ζ,wt Q4 Q0 rfl⟩)
  refine xt ?_;have ζ:=aT ζ aB;cases ζ;exact wt Q1 Q0 rfl
 cases h;exact sg (rt Fz.v)
def Za{c d e g r}(h:BE c d e g=V r):Pure prog 103 [.a (b0 c),.s (mF d),vi e,vi g] (.t [.a (b0 r.1),.s (mF r.2.1),vi r.2.2]):=by
 refine pq tok 59 func103 ?_;unfold BE at h;have⟨x1,Θ,h⟩:=ι h;refine sg (sg (Ω.call (QX Θ) lz (sq (sg (ct h (λhb h=>?_) λhb h=>?_)))))
 .cases h;exact sg ⟨_,rfl,_,rfl,rt ⟨_,rfl,Fz.t (.cons (Fz.cP rfl) (.cons Fz.s fq))⟩⟩
 have⟨x2,ar,h⟩:=ι h;have⟨aj,h⟩:=aq h;have⟨aX,h⟩:=aq h;have⟨bY,h⟩:=aq h;have⟨dL,h⟩:=aq h;have⟨fL,h⟩:=aq h;have⟨v1,ν,h⟩:=ι h;refine sk (sg ⟨_,aO ar,_,aP ar,_,rfl,sg (Or.inr ⟨_,gJ aj.1,Nat.zero_le _,pU aj,oc (f:=gX) (K:=3) (λ_=>rfl) d,_,zu _ _ _,c_ (f:=gX) (n:=3) (λ_=>rfl) (d.take x1.toNat),c8 (f:=gX) (l:=([]:List bg)) (l':=d.take x1.toNat) aX,_,(bO (f:=gX) (l₁:=([]:List bg)) (l₂:=d.take x1.toNat)).symm,sg (ah ⟨bY,_,gJ dL.1,pU dL,Nat.le_refl _,oc (f:=gX) (K:=3) (λ_=>rfl) d,_,FK _ _ _,c_ (f:=gX) (n:=3) (λ_=>rfl) (d.drop (x1+1).toNat),c8 (f:=gX) (l:=([]:List bg)++(d.take x1.toNat)) (l':=d.drop (x1+1).toNat) fL,_,(bO (f:=gX) (l₁:=([]:List bg)++(d.take x1.toNat)) (l₂:=d.drop (x1+1).toNat)).symm,sq (Ok.aD ⟨Ψ [(4,.b 4 0),(8,.b 8 0),(12,vi x2.κ),(13,.o 29),(48,vb v1)],[(4,.box (b0 c)),(8,.box (k1 0 0)),(29,.own 84 3 (mF ((([]:List bg)++(d.take x1.toNat))++(d.drop (x1+1).toNat))))]⟩ ?_ ?_)⟩)⟩)⟩)
 .have⟨x3,aL,ν⟩:=ι ν;have⟨c1,ξ,ν⟩:=ι ν;refine rg ⟨_,rfl,Ω.call (Zb aL) lz (Br.ite ξ (λhb ξ=>?_) λhb ξ=>?_)⟩
  .have⟨x4,aZ,ξ⟩:=ι ξ;refine Ω.borrow (aix aZ) (.cons (Fz.o rfl) fq) rfl ?_;cases ξ;cases ν;exact wt Q5 J3 rfl
  cases ξ;cases ν;exact wt Q5 J3 rfl
 refine ct h (λhb h=>?_) λhb h=>?_
 .have⟨x5,bT,h⟩:=ι h;cases h;exact sg ⟨_,rfl,Ω.call (Y7 bT) lz ⟨_,rfl,sg ⟨_,rfl,_,rfl,rt ⟨_,rfl,Fz.t (.cons (Fz.cP rfl) (.cons (Fz.o rfl) fq))⟩⟩⟩⟩
 cases h;exact sk (sg ⟨_,rfl,_,rfl,rt ⟨_,rfl,Fz.t (.cons (Fz.cP rfl) (.cons (Fz.o rfl) fq))⟩⟩)
def aiy{a b c r}(h:E3 a b c=V r):Pure prog 104 (VN a b c) (.t [vi r.1,vi r.2]):=by
 refine pq tok 20 func104 ?_;unfold E3 at h;have⟨x1,Θ,h⟩:=ι h;refine sg (sg (Ω.call (QX Θ) lz (sq (sg (ct h (λhb h=>?_) λhb h=>?_)))))
 .cases h;exact sg (rt (Fz.t fq))
 have⟨x2,ar,h⟩:=ι h;cases h;exact sk (sg ⟨_,aO ar,_,aP ar,_,rfl,rt (Fz.t fq)⟩)
def ajR{c b a r}(h:BK c b a=V r):j5 prog 105 (N9 c b a) 5 1 (mU r):=by
 refine pv tok 42 func105 ?_;unfold BK at h;have⟨aj,h⟩:=aq h;refine sg (sg (Or.inr ⟨c_ (f:=dV) (n:=1) (λ_=>rfl) c,c8 (f:=dV) (l:=([]:List UInt8)) (l':=c) aj,_,(bO (f:=dV) (l₁:=([]:List UInt8)) (l₂:=c)).symm,sq (sg ⟨_,au _,λ_=>ct h (λhb h=>?_) λhb h=>?_⟩)⟩))
 .cases h;exact sg (rt (.inr ⟨_,rfl,rfl⟩))
 have⟨v1,ν,h⟩:=ι h;refine sk (Ok.aD ⟨Ψ [(1,vi b),(2,.s (mU a)),(7,.o 9)],[(9,.own 5 1 (mU v1))]⟩ ?_ ?_)
 .refine bl (Ok.loop (λ(s1:(List UInt8))=>⟨Ψ [(1,vi b),(2,.s (mU a)),(7,.o 9)],[(9,.own 5 1 (mU s1))]⟩) (Jv b a) (s0:=([]:List UInt8)++c) ν (wt Q3 ⟨hr,Q0⟩ rfl) ?_);intro s1 y1 ζ aB;unfold Jv at ζ;have⟨aX,ζ⟩:=aq ζ;refine sq (sg ⟨_,au _,λ_=>⟨_,au _,λ_=>(ah ⟨aX,ct ζ (λhb ζ=>?_) λhb ζ=>?_⟩)⟩⟩)
  .have⟨bY,ζ⟩:=aq ζ;exact sk (bl (rg (ah ⟨c_ (f:=dV) (n:=1) (λ_=>rfl) ([0]),c8 (f:=dV) (l:=s1) (l':=[0]) bY,_,(bO (f:=dV) (l₁:=s1) (l₂:=[0])).symm,_,sj ζ,wt Q3 J1 rfl⟩)))
  refine xt ?_;have ζ:=aT ζ aB;cases ζ;exact wt Q3 J1 rfl
 have⟨v2,Φ,h⟩:=ι h;refine Ok.aD ⟨Ψ [(7,.o 9)],[(9,.own 5 1 (mU v2))]⟩ ?_ ?_
 .refine sg (bl (Ok.loop (λ(s2:Int×(List UInt8))=>⟨Ψ [(1,vi b),(2,.s (mU a)),(7,.o 9),(8,vi s2.1)],[(9,.own 5 1 (mU s2.2))]⟩) (Jw a b) (s0:=(0,v1)) Φ (wt Q4 ⟨hr,Q0⟩ rfl) ?_));intro s2 y2 av eP;unfold Jw at av;refine sq (sg ⟨_,au _,λ_=>ct av (λhb av=>?_) λhb av=>?_⟩)
  .have⟨dL,av⟩:=aq av;have⟨x1,Θ,av⟩:=ι av;have⟨x2,ar,av⟩:=ι av;have⟨fL,av⟩:=aq av;exact sk (sq (bl (rg (ah ⟨dL,_,aO Θ,_,aP Θ,_,rfl,_,aO ar,ll ar,_,aP ar,rfl,_,rfl,_,zq (f:=dV) (x:=x1),rg (ah ⟨fL,_,sj av,wt Q4 J1 rfl⟩)⟩))))
  refine xt ?_;have av:=aT av eP;cases av;exact wt Q1 J1 rfl
 cases h;exact sg (rt (.inr ⟨_,rfl,rfl⟩))
def aiL{a b c r}(h:BK a b c=V r):Pure prog 105 (N9 a b c) (.s (mU r)):=(ajR h).pure
def Y8{c e d r}(h:Bz c e d=V r):Pure prog 106 [.a (b0 c),vi e,.s (mU d)] (.t [.a (b0 r.1),vi r.2]):=by
 refine pq tok 34 func106 ?_;unfold Bz at h;have⟨x1,Θ,h⟩:=ι h;refine sg (sg ⟨_,rfl,Ω.call (jd Θ) lz ⟨_,rfl,sq (sg (ct h (λhb h=>?_) λhb h=>?_))⟩⟩)
 .cases h;exact sg ⟨_,rfl,_,rfl,rt ⟨_,rfl,Fz.t fq⟩⟩
 refine sk (sq (sg ⟨_,rfl,ct h (λhb h=>?_) λhb h=>?_⟩))
 .cases h;exact sg ⟨_,rfl,_,rfl,rt ⟨_,rfl,Fz.t fq⟩⟩
 refine sk (sq (sg ⟨_,au _,λ_=>ct h (λhb h=>?_) λhb h=>?_⟩))
 .cases h;exact sg ⟨_,rfl,_,rfl,rt ⟨_,rfl,Fz.t fq⟩⟩
 have⟨aj,h⟩:=aq h;have⟨x2,ar,h⟩:=ι h;cases h;exact sk (sg (Or.inr ⟨c_ (f:=dV) (n:=1) (λ_=>rfl) d,c8 (f:=dV) (l:=([]:List UInt8)) (l':=d) aj,_,(bO (f:=dV) (l₁:=([]:List UInt8)) (l₂:=d)).symm,_,rfl,sg ⟨_,rfl,_,rfl,Ω.freeze (id:=27) rfl (Ω.call (zG ar) lz ⟨_,rfl,rt ⟨_,rfl,Fz.t fq⟩⟩)⟩⟩))
end Go.Proofs
