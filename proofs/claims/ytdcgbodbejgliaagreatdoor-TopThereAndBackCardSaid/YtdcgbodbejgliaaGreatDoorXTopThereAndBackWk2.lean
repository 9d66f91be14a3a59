/- The walks of this seat beside the plain programs, part 2. No condition. -/
import Derived.Test.YtdcgbodbejgliaaGreatDoorXTopThereAndBackWk1
open Option renaming some->V
open List renaming length_map->au,map_append->bO
open Or renaming inl->ah,inr->fJ
namespace Go.Proofs
set_option linter.all false
open Go Go.Cat Tryz
variable[M:cD][K:LK]
set_option maxRecDepth 100000
set_option maxHeartbeats 4000000
def aih{d e r}(h:yR d e=V r):Pure prog 178 [.a (b0 d),vi e] (.t [vi r.1,vi r.2]):=by
 refine pq tok 31 func178 ?_;unfold yR at h;have⟨v1,ν,h⟩:=ι h;refine sg (sg ⟨_,rfl,sg ⟨_,rfl,sg (sg ⟨_,rfl,Ok.aD ⟨Ψ [(6,.b 6 0),(7,.b 7 0)],[(6,.box [.m 11]),(11,.mp false (List.map (λp=>(p.1,cB p.2)) v1.2)),(7,.box [vi v1.1])]⟩ ?_ ?_⟩)⟩⟩)
 .have⟨x1,Θ,ν⟩:=ι ν;have⟨v2,Φ,ν⟩:=ι ν;refine sg ⟨_,rfl,Ω.call (zI Θ) lz ⟨_,rfl,Ok.aD ⟨Ψ [(1,vi e),(6,.b 6 0),(7,.b 7 0),(8,.b 8 0),(24,vb v2)],[(6,.box [.m 11]),(11,.mp false (List.map (λp=>(p.1,cB p.2)) ([]:List (Int×Bool)))),(7,.box [vi (0)]),(8,.box [.c (.func 237) [] [.b 2 0,.b 7 0,.b 6 0,.b 8 0]]),(2,.box (b0 d))]⟩ ?_ ?_⟩⟩
  .have⟨c1,ξ,Φ⟩:=ι Φ;refine rg (Br.ite ξ (λhb ξ=>?_) λhb ξ=>?_)
   .refine⟨_,rfl,?_⟩;cases ξ;cases Φ;exact wt Q5 ⟨hr,J4⟩ rfl
   cases ξ;cases Φ;exact wt Q5 ⟨hr,J4⟩ rfl
  refine ct ν (λhb ν=>?_) λhb ν=>?_
  .have⟨x2,ar,ν⟩:=ι ν;refine rg ⟨_,rfl,cg [(1000,2),(1001,7),(1002,6),(1003,11),(1004,8)] [] (ajB ar) (n1 (.cons (Ln.b rfl) (.cons (Ln.b rfl) (.cons (Ln.b rfl) (.cons (Ln.b rfl) .nil))))) ⟨⟨2,_,rfl,rfl,.box nq⟩,⟨7,_,rfl,rfl,.box nq⟩,⟨6,_,rfl,rfl,.box (.cons (Ln.mm rfl) .nil)⟩,⟨11,_,rfl,rfl,.refl rfl⟩,⟨8,_,rfl,rfl,.box (.cons (Ln.c .nil (.cons (Ln.b rfl) (.cons (Ln.b rfl) (.cons (Ln.b rfl) (.cons (Ln.b rfl) .nil))))) .nil)⟩,Q0⟩ ?_⟩;cases ν;exact wt Q2 J3 rfl
  refine sk ?_;cases ν;exact wt Q2 J3 rfl
 cases h;exact sq (dw 5 tok mixed ⟨_,⟨_,rfl,rfl⟩,_,⟨_,au _,λ_=>rfl⟩,_,⟨_,rfl,rfl⟩,_,rfl,_,rfl,Q0,rt (Fz.t fq)⟩)
def ahS{a b r}(h:GZ a b=V r):Pure prog 86 [.s (mU a),.s (mU b)] (vb r):=by
 refine pq tok 10 func86 ?_;unfold GZ at h;cases h;exact sg (sg ⟨_,rfl,_,rfl,_,oh _ _,rt Fz.v⟩)
def Zn{a b r}(h:BW a b=V r):Pure prog 87 [.s (mC a),.s (mC b)] (vb r):=by
 refine pq tok 26 func87 ?_;unfold BW at h;refine sg (sq (sg ⟨_,au _,λ_=>⟨_,au _,λ_=>ct h (λhb h=>?_) λhb h=>?_⟩⟩))
 .cases h;exact sg (rt Fz.v)
 refine sk (Ok.dy (λv1=>⟨Ψ [],[]⟩) (λv1=>Qa v1=V r) ?_ ?_)
 .refine sg ⟨_,au _,λ_=>bl (Ok.loop (λ(s1:Int)=>⟨Ψ [(0,.s (mC a)),(1,.s (mC b)),(12,vi (a.length:Int)),(13,vi s1)],[]⟩) (FO a b) (s0:=0) h (wt Q4 Q0 rfl) ?_)⟩;intro s1 y1 ζ aB;unfold FO at ζ;refine sg (sq (ct ζ (λhb ζ=>?_) λhb ζ=>?_))
  .have⟨x1,Θ,ζ⟩:=ι ζ;have⟨x2,ar,ζ⟩:=ι ζ;refine sk (sq (bl (sg (sq (dw 9 tok mixed ⟨_,rfl,_,rfl,_,⟨_,aO Θ,_,aP Θ,rfl⟩,_,⟨_,rfl,rfl⟩,_,rfl,_,rfl,_,⟨_,aO ar,_,aP ar,rfl⟩,_,⟨_,rfl,rfl⟩,_,⟨[.one (.str),.one (.int .i64),.one (.int .i64)],by kernel_rfl,rfl⟩,Q0,ct ζ (λhb ζ=>?_) λhb ζ=>?_⟩)))))
   .refine sg (rt ?_);have ζ:=aT ζ aB;cases ζ;exact Fz.v
   have⟨aj,ζ⟩:=aq ζ;exact sk (rg (ah ⟨aj,_,sj ζ,wt Q4 Q0 rfl⟩))
  refine xt ?_;have ζ:=aT ζ aB;exact⟨_,ζ,wt Q0 Q0 rfl⟩
 intro v1 h;unfold Qa at h;cases h;exact sg (rt Fz.v)
def ajn{c d r}(h:Ga c d=V r):Pure prog 85 [.a (b4 c),.a (b4 d)] (vb r):=by
 refine pq tok 45 func85 ?_;unfold Ga at h;have⟨v1,ν,h⟩:=ι h;refine sg (Ok.aD ⟨Ψ [(4,vb v1)],[]⟩ ?_ ?_)
 .have⟨c1,ξ,ν⟩:=ι ν;refine rg ⟨_,rfl,_,rfl,Br.ite ξ (λhb ξ=>?_) λhb ξ=>?_⟩
  .refine⟨_,rfl,_,rfl,?_⟩;cases ξ;have⟨c2,az,ν⟩:=ι ν;refine Br.ite az (λhb az=>?_) λhb az=>?_
   .refine⟨_,rfl,_,rfl,?_⟩;cases az;have⟨c3,aQ,ν⟩:=ι ν;refine Br.ite aQ (λhb aQ=>?_) λhb aQ=>?_
    .refine⟨_,rfl,_,rfl,?_⟩;cases aQ;have⟨c4,bC,ν⟩:=ι ν;refine Br.ite bC (λhb bC=>?_) λhb bC=>?_
     .have⟨x1,Θ,bC⟩:=ι bC;refine⟨_,rfl,_,rfl,Ω.call (ahS Θ) lz ?_⟩;cases bC;have⟨c5,bX,ν⟩:=ι ν;refine Br.ite bX (λhb bX=>?_) λhb bX=>?_
      .have⟨x2,ar,bX⟩:=ι bX;refine⟨_,rfl,_,rfl,Ω.call (Zn ar) lz ?_⟩;cases bX;cases ν;exact wt Q1 Q0 rfl
      cases bX;cases ν;exact wt Q1 Q0 rfl
     cases bC;have⟨c5,cI,ν⟩:=ι ν;replace cI:=dE cI;cases cI;cases ν;exact wt Q1 Q0 rfl
    cases aQ;have⟨c4,cJ,ν⟩:=ι ν;replace cJ:=dE cJ;cases cJ;have⟨c5,c9,ν⟩:=ι ν;replace c9:=dE c9;cases c9;cases ν;exact wt Q1 Q0 rfl
   cases az;have⟨c3,dr,ν⟩:=ι ν;replace dr:=dE dr;cases dr;have⟨c4,dY,ν⟩:=ι ν;replace dY:=dE dY;cases dY;have⟨c5,iU,ν⟩:=ι ν;replace iU:=dE iU;cases iU;cases ν;exact wt Q1 Q0 rfl
  cases ξ;have⟨c2,iV,ν⟩:=ι ν;replace iV:=dE iV;cases iV;have⟨c3,jl,ν⟩:=ι ν;replace jl:=dE jl;cases jl;have⟨c4,kZ,ν⟩:=ι ν;replace kZ:=dE kZ;cases kZ;have⟨c5,iW,ν⟩:=ι ν;replace iW:=dE iW;cases iW;cases ν;exact wt Q1 Q0 rfl
 cases h;exact rt Fz.v
def ai5{a d r}(h:FM a d=V r):Pure prog 88 [.s (mI a),.s (mI d),.c (.func 85) [] []] (vb r):=by
 refine pq tok 32 func88 ?_;unfold FM at h;refine sg (sq (sg ⟨_,au _,λ_=>⟨_,au _,λ_=>ct h (λhb h=>?_) λhb h=>?_⟩⟩))
 .cases h;exact sg (rt Fz.v)
 refine sk (Ok.dy (λv1=>⟨Ψ [],[]⟩) (λv1=>P' v1=V r) ?_ ?_)
 .refine sg ⟨_,au _,λ_=>bl (Ok.loop (λ(s1:Int)=>⟨Ψ [(1,.s (mI d)),(2,.c (.func 85) [] []),(15,.s (mI a)),(16,vi (a.length:Int)),(17,vi s1)],[]⟩) (FN a d) (s0:=0) h (wt Q5 Q0 rfl) ?_)⟩;intro s1 y1 ζ aB;unfold FN at ζ;refine sg (sq (ct ζ (λhb ζ=>?_) λhb ζ=>?_))
  .have⟨x1,Θ,ζ⟩:=ι ζ;have⟨x2,ar,ζ⟩:=ι ζ;have⟨x3,aL,ζ⟩:=ι ζ;refine sk (sq (bl (sg ⟨_,aO Θ,_,aP Θ,_,rfl,_,rfl,sg ⟨_,aO ar,_,aP ar,_,rfl,_,rfl,sg ⟨_,rfl,_,rfl,Ω.call (ajn aL) lz (ct ζ (λhb ζ=>?_) λhb ζ=>?_)⟩⟩⟩)))
   .refine sg (rt ?_);have ζ:=aT ζ aB;cases ζ;exact Fz.v
   have⟨aj,ζ⟩:=aq ζ;exact sk (rg (ah ⟨aj,_,sj ζ,wt Q5 Q0 rfl⟩))
  refine xt ?_;have ζ:=aT ζ aB;exact⟨_,ζ,wt Q0 Q0 rfl⟩
 intro v1 h;unfold P' at h;cases h;exact sg (rt Fz.v)
def ajm{d e r}(h:F_ d e=V r):Pure prog 40 [.a (b0 d),.a (b0 e)] (vb r):=by
 refine pq tok 26 func40 ?_;unfold F_ at h;have⟨v1,ν,h⟩:=ι h;refine sg (sg (Ok.aD ⟨Ψ [(4,vb v1)],[]⟩ ?_ ?_))
 .have⟨c1,ξ,ν⟩:=ι ν;refine rg ⟨_,rfl,_,rfl,Br.ite ξ (λhb ξ=>?_) λhb ξ=>?_⟩
  .refine⟨_,rfl,_,rfl,?_⟩;cases ξ;have⟨c2,az,ν⟩:=ι ν;refine Br.ite az (λhb az=>?_) λhb az=>?_
   .have⟨x1,Θ,az⟩:=ι az;refine⟨_,rfl,_,rfl,Ω.call (ai5 Θ) lz ?_⟩;cases az;cases ν;exact wt Q1 Q0 rfl
   cases az;cases ν;exact wt Q1 Q0 rfl
  cases ξ;have⟨c2,aQ,ν⟩:=ι ν;replace aQ:=dE aQ;cases aQ;cases ν;exact wt Q1 Q0 rfl
 cases h;exact rt Fz.v
def ajS{a r}(h:J5 a=V r):j5 prog 205 [.s (mD a)] 98 8 (mD r):=by
 refine pv tok 8 func205 ?_;unfold J5 at h;refine sg (sq (sg ?_));intro b1 cR;have h:=G4 h b1 (λe=>List.map_eq_nil_iff.1 (cR e));refine ct h (λhb h=>?_) λhb h=>?_
 .cases h;exact sg (rt (.inl ⟨rfl,rfl⟩))
 have⟨aj,h⟩:=aq h;cases h;exact sk (sg (fJ ⟨c_ (f:=mQ) (n:=8) (λ_=>rfl) a,c8 (f:=mQ) (l:=([]:List cq)) (l':=a) aj,_,(bO (f:=mQ) (l₁:=([]:List cq)) (l₂:=a)).symm,rt (.inr ⟨_,rfl,rfl⟩)⟩))
def Zj{c d r}(h:BS c d=V r):Pure prog 254 [.a (b4 c),vi d] (vi r):=by
 refine pq tok 9 func254 ?_;unfold BS at h;have⟨x1,Θ,h⟩:=ι h;cases h;exact sg (sg ⟨_,rfl,Ω.call (Kr Θ) lz (rt Fz.v)⟩)
def ai0{a b r}(h:BU a b=V r):Pure prog 253 [.s (mI a),vi b,.c (.func 254) [] []] (.t [vi r.1,vb r.2]):=by
 refine pq tok 49 func253 ?_;unfold BU at h;have⟨v1,ν,h⟩:=ι h;refine sg (sg ⟨_,au _,λ_=>sg (Ok.aD ⟨Ψ [(0,.s (mI a)),(1,vi b),(2,.c (.func 254) [] []),(8,vi (a.length:Int)),(9,vi v1)],[]⟩ ?_ ?_)⟩)
 .refine bl (Ok.loop (λ(s1:Int×Int)=>⟨Ψ [(0,.s (mI a)),(1,vi b),(2,.c (.func 254) [] []),(8,vi (a.length:Int)),(9,vi s1.1),(10,vi s1.2)],[]⟩) (J0 a b) (s0:=(0,(a.length:Int))) ν (wt Q6 Q0 rfl) ?_);intro s1 y1 ζ aB;unfold J0 at ζ;refine sq (sg (ct ζ (λhb ζ=>?_) λhb ζ=>?_))
  .have⟨aj,ζ⟩:=aq ζ;have⟨x1,Θ,ζ⟩:=ι ζ;have⟨x2,ar,ζ⟩:=ι ζ;refine sk (bl (sg (ah ⟨aj,_,rfl,by decide,_,rfl,_,rfl,sg ⟨_,aO Θ,_,aP Θ,_,rfl,Ω.call (Zj ar) lz (ct ζ (λhb ζ=>?_) λhb ζ=>?_)⟩⟩)))
   .have⟨aX,ζ⟩:=aq ζ;exact rg (ah ⟨aX,_,sj ζ,wt Q6 Q0 rfl⟩)
   exact rg ⟨_,sj ζ,wt Q6 Q0 rfl⟩
  refine xt ?_;have ζ:=aT ζ aB;cases ζ;exact wt Q5 Q0 rfl
 have⟨v2,Φ,h⟩:=ι h;refine Ok.aD ⟨Ψ [(6,vi v1),(7,vb v2)],[]⟩ ?_ ?_
 .have⟨c1,ξ,Φ⟩:=ι Φ;refine rg (Br.ite ξ (λhb ξ=>?_) λhb ξ=>?_)
  .have⟨x3,aL,ξ⟩:=ι ξ;have⟨x4,aZ,ξ⟩:=ι ξ;refine⟨_,aO aL,_,aP aL,_,rfl,Ω.call (Zj aZ) lz ?_⟩;cases ξ;cases Φ;exact wt Q2 Q0 rfl
  cases ξ;cases Φ;exact wt Q2 Q0 rfl
 cases h;exact rt (Fz.t fq)
def Zi{a b r}(h:BR a b=V r):Pure prog 206 [.s (mI a),vi b] (vi r):=by
 refine pq tok 16 func206 ?_;unfold BR at h;have⟨x1,Θ,h⟩:=ι h;refine sg (sg (Ω.call (ai0 Θ) lz (sq (sg (ct h (λhb h=>?_) λhb h=>?_)))))
 .cases h;exact sg (rt Fz.v)
 cases h;exact sk (sg (rt Fz.v))
def Zk{c d r}(h:BT c d=V r):Pure prog 207 [.a (b4 c),.a (b4 d)] (vb r):=by
 refine pq tok 47 func207 ?_;unfold BT at h;have⟨v1,ν,h⟩:=ι h;refine sg (Ok.aD ⟨Ψ [(4,vb v1)],[]⟩ ?_ ?_)
 .have⟨c1,ξ,ν⟩:=ι ν;refine rg ⟨_,rfl,_,rfl,Br.ite ξ (λhb ξ=>?_) λhb ξ=>?_⟩
  .refine⟨_,rfl,_,rfl,?_⟩;cases ξ;have⟨c2,az,ν⟩:=ι ν;refine Br.ite az (λhb az=>?_) λhb az=>?_
   .refine⟨_,rfl,_,rfl,?_⟩;cases az;have⟨c3,aQ,ν⟩:=ι ν;refine Br.ite aQ (λhb aQ=>?_) λhb aQ=>?_
    .refine⟨_,rfl,_,rfl,?_⟩;cases aQ;have⟨c4,bC,ν⟩:=ι ν;refine Br.ite bC (λhb bC=>?_) λhb bC=>?_
     .refine⟨_,rfl,_,rfl,_,rfl,_,rfl,_,oh _ _,?_⟩;cases bC;have⟨c5,bX,ν⟩:=ι ν;refine Br.ite bX (λhb bX=>?_) λhb bX=>?_
      .have⟨x1,Θ,bX⟩:=ι bX;refine⟨_,rfl,_,rfl,Ω.call (Zn Θ) lz ?_⟩;cases bX;cases ν;exact wt Q1 Q0 rfl
      cases bX;cases ν;exact wt Q1 Q0 rfl
     cases bC;have⟨c5,cI,ν⟩:=ι ν;replace cI:=dE cI;cases cI;cases ν;exact wt Q1 Q0 rfl
    cases aQ;have⟨c4,cJ,ν⟩:=ι ν;replace cJ:=dE cJ;cases cJ;have⟨c5,c9,ν⟩:=ι ν;replace c9:=dE c9;cases c9;cases ν;exact wt Q1 Q0 rfl
   cases az;have⟨c3,dr,ν⟩:=ι ν;replace dr:=dE dr;cases dr;have⟨c4,dY,ν⟩:=ι ν;replace dY:=dE dY;cases dY;have⟨c5,iU,ν⟩:=ι ν;replace iU:=dE iU;cases iU;cases ν;exact wt Q1 Q0 rfl
  cases ξ;have⟨c2,iV,ν⟩:=ι ν;replace iV:=dE iV;cases iV;have⟨c3,jl,ν⟩:=ι ν;replace jl:=dE jl;cases jl;have⟨c4,kZ,ν⟩:=ι ν;replace kZ:=dE kZ;cases kZ;have⟨c5,iW,ν⟩:=ι ν;replace iW:=dE iW;cases iW;cases ν;exact wt Q1 Q0 rfl
 cases h;exact rt Fz.v
def aiY{c d e r}(h:JX c d e=V r):Pure prog 256 [.a (b9 c),.p [vi d],.p [vi e]] (vb r):=by
 refine pq tok 15 func256 ?_;unfold JX at h;have⟨v1,ν,h⟩:=ι h;refine sg (Ok.aD ⟨Ψ [(4,vb v1)],[]⟩ ?_ ?_)
 .have⟨c1,ξ,ν⟩:=ι ν;refine rg ⟨_,rfl,_,rfl,Br.ite ξ (λhb ξ=>?_) λhb ξ=>?_⟩
  .refine⟨_,rfl,_,rfl,?_⟩;cases ξ;cases ν;exact wt Q1 Q0 rfl
  cases ξ;cases ν;exact wt Q1 Q0 rfl
 cases h;exact rt Fz.v
def ai9{a b d r}(h:Kb a b d=V r):Pure prog 291 [.s (mE a),.c (.func 256) [] [.p [vi b],.p [vi d]]] (vi r):=by
 refine pq tok 19 func291 ?_;unfold Kb at h;refine sg (Ok.dy (λv1=>⟨Ψ [],[]⟩) (λv1=>Qk v1=V r) ?_ ?_)
 .refine sg ⟨_,au _,λ_=>bl (Ok.loop (λ(s1:Int)=>⟨Ψ [(0,.s (mE a)),(1,.c (.func 256) [] [.p [vi b],.p [vi d]]),(7,vi (a.length:Int)),(8,vi s1)],[]⟩) (FP a b d) (s0:=0) h (wt Q4 Q0 rfl) ?_)⟩;intro s1 y1 ζ aB;unfold FP at ζ;refine sg (sq (ct ζ (λhb ζ=>?_) λhb ζ=>?_))
  .have⟨x1,Θ,ζ⟩:=ι ζ;have⟨x2,ar,ζ⟩:=ι ζ;refine sk (sq (bl (sg (sg ⟨_,aO Θ,_,aP Θ,_,rfl,Ω.call (aiY ar) lz (ct ζ (λhb ζ=>?_) λhb ζ=>?_)⟩))))
   .refine sg (rt ?_);have ζ:=aT ζ aB;cases ζ;exact Fz.v
   have⟨aj,ζ⟩:=aq ζ;exact sk (rg (ah ⟨aj,_,sj ζ,wt Q4 Q0 rfl⟩))
  refine xt ?_;have ζ:=aT ζ aB;exact⟨_,ζ,wt Q0 Q0 rfl⟩
 intro v1 h;unfold Qk at h;cases h;exact sg (rt Fz.v)
def ai4{a b d r}(h:J8 a b d=V r):Pure prog 255 [.s (mE a),.c (.func 256) [] [.p [vi b],.p [vi d]]] (vb r):=by
 refine pq tok 9 func255 ?_;unfold J8 at h;have⟨x1,Θ,h⟩:=ι h;cases h;exact sg (sg (Ω.call (ai9 Θ) lz (rt Fz.v)))
def Zl{a d e r}(h:FI a d e=V r):Pure prog 208 (VI a d e) (vb r):=by
 refine pq tok 10 func208 ?_;unfold FI at h;have⟨x1,Θ,h⟩:=ι h;cases h;exact sg (sg (Ω.borrow (ai4 Θ) (.cons Fz.s (.cons (Fz.c .nil (.cons (Fz.b rfl rfl) (.cons (Fz.b rfl rfl) .nil))) .nil)) rfl (rt Fz.v)))
def aiX{c d r}(h:BQ c d=V r):Pure prog 126 [.a (b1 c),.a (b0 d)] (.a (b1 r)):=by
 refine pq tok 123 func126 ?_;unfold BQ at h;have⟨x1,Θ,h⟩:=ι h;refine sg (sq (sg ⟨_,rfl,_,rfl,Ω.call (ajm Θ) lz (wT [(2,.b 2 0),(3,.b 3 0),(4,.b 4 0),(16,vb x1)] [(2,.box (b1 c)),(3,.box (b0 d)),(4,.box (k3 0 0 0 0))] Q4 J3 rfl (ct h (λhb h=>?_) λhb h=>?_))⟩))
 .cases h;exact sg ⟨_,rfl,_,rfl,rt ⟨_,rfl,Fz.cP rfl⟩⟩
 have⟨aj,h⟩:=aq h;have⟨x2,ar,h⟩:=ι h;have⟨v1,ν,h⟩:=ι h;refine sk (sq (Ok.draw (m:=13) (MD:=⟨[24]⟩) (CH:=⟨[(24,.own 98 8 (mD x2))]⟩) tok mixed (by kernel_rfl) ⟨_,⟨_,rfl,rfl⟩,_,rfl,_,⟨_,rfl,rfl⟩,_,ah ⟨aj,rfl⟩,_,rfl,_,⟨_,rfl,rfl⟩,_,rfl,_,⟨_,rfl,rfl⟩,_,rfl,_,⟨_,rfl,rfl⟩,_,rfl,⟨⟨_,(ajS ar).makes,lz⟩,Q0⟩,_,rfl,Ok.aD ⟨Ψ [(2,.b 2 0),(3,.b 3 0),(4,.b 4 0),(5,.b 5 0)],[(2,.box (b1 c)),(3,.box (b0 d)),(4,.box (k3 0 0 0 0)),(5,.box [.s (mI d.η),vi d.Next,vi d.ai,vi (c.bE+1),zs,.o 24,.s (mE c.cm),vi c.Next]),(24,.own 98 8 (mD v1))]⟩ ?_ ?_⟩))
 .refine sg ⟨_,rfl,_,au _,λ_=>bl (Ok.loop (λ(s1:Int×(List cq))=>⟨Ψ [(2,.b 2 0),(3,.b 3 0),(4,.b 4 0),(5,.b 5 0),(32,.s (mI c.aw.η)),(33,vi (c.aw.η.length:Int)),(34,vi s1.1)],[(2,.box (b1 c)),(3,.box (b0 d)),(4,.box (k3 0 0 0 0)),(5,.box [.s (mI d.η),vi d.Next,vi d.ai,vi (c.bE+1),zs,.o 24,.s (mE c.cm),vi c.Next]),(24,.own 98 8 (mD s1.2))]⟩) (FF c d) (s0:=(0,x2)) ν (wt Q7 ⟨⟨_,rfl,.refl _⟩,⟨_,rfl,.refl _⟩,⟨_,rfl,.refl _⟩,⟨_,rfl,.refl _⟩,⟨_,rfl,.refl _⟩,Q0⟩ rfl) ?_)⟩;intro s1 y1 ζ aB;unfold FF at ζ;refine sg (sq (ct ζ (λhb ζ=>?_) λhb ζ=>?_))
  .have⟨v2,Φ,ζ⟩:=ι ζ;refine sk (Ok.aD ⟨Ψ [(2,.b 2 0),(3,.b 3 0),(4,.b 4 0),(5,.b 5 0),(32,.s (mI c.aw.η)),(33,vi (c.aw.η.length:Int)),(34,vi s1.1)],[(2,.box (b1 c)),(3,.box (b0 d)),(4,.box (k3 0 0 0 0)),(5,.box [.s (mI d.η),vi d.Next,vi d.ai,vi (c.bE+1),zs,.o 24,.s (mE c.cm),vi c.Next]),(24,.own 98 8 (mD v2))]⟩ ?_ ?_)
   .have⟨x3,aL,Φ⟩:=ι Φ;have⟨x4,aZ,Φ⟩:=ι Φ;have⟨v3,aA,Φ⟩:=ι Φ;refine bl (sg ⟨_,aO aL,_,aP aL,_,rfl,_,rfl,sg ⟨_,rfl,_,rfl,Ω.call (Zi aZ) lz (Ok.aD ⟨Ψ [(2,.b 2 0),(3,.b 3 0),(4,.b 4 0),(5,.b 5 0),(6,vi s1.1),(7,.b 7 0),(32,.s (mI c.aw.η)),(33,vi (c.aw.η.length:Int)),(34,vi s1.1),(67,vb v3)],[(2,.box (b1 c)),(3,.box (b0 d)),(4,.box (k3 0 0 0 0)),(5,.box [.s (mI d.η),vi d.Next,vi d.ai,vi (c.bE+1),zs,.o 24,.s (mE c.cm),vi c.Next]),(24,.own 98 8 (mD s1.2)),(7,.box (b4 x3))]⟩ ?_ ?_)⟩⟩)
    .have⟨c1,ξ,aA⟩:=ι aA;refine dw 24 tok mixed ⟨_,rfl,_,rfl,_,rfl,Br.cA ξ (λhb ξ=>?_) λhb ξ=>?_⟩
     .cases ξ;refine⟨_,rfl,_,rfl,?_⟩;have⟨c2,az,aA⟩:=ι aA;replace az:=dS az;have⟨x7,du,az⟩:=ι az;have⟨x8,eJ,az⟩:=ι az;refine⟨_,rfl,_,⟨_,rfl,rfl⟩,_,rfl,_,⟨_,rfl,rfl⟩,_,rfl,_,⟨_,aO du,_,aP du,rfl⟩,_,⟨_,rfl,rfl⟩,_,rfl,_,⟨_,rfl,rfl⟩,_,⟨_,.dN (Zl eJ) lz,rfl⟩,?_⟩;cases az;refine⟨_,rfl,Q0,?_⟩;cases aA;exact wt ⟨lr,lr,Q8⟩ ⟨hr,hr,J4⟩ rfl
     have⟨x5,bT,ξ⟩:=ι ξ;have⟨x6,dg,ξ⟩:=ι ξ;refine⟨_,⟨_,rfl,rfl⟩,_,rfl,_,⟨_,rfl,rfl⟩,_,rfl,_,⟨_,aO bT,_,aP bT,rfl⟩,_,⟨_,rfl,rfl⟩,_,⟨_,.dN (Zk dg) lz,rfl⟩,_,rfl,?_⟩;cases ξ;have⟨c2,aQ,aA⟩:=ι aA;refine⟨_,rfl,_,rfl,Br.ite aQ (λhb aQ=>?_) λhb aQ=>?_⟩
     .have⟨x7,du,aQ⟩:=ι aQ;have⟨x8,eJ,aQ⟩:=ι aQ;refine⟨_,rfl,_,⟨_,rfl,rfl⟩,_,rfl,_,⟨_,rfl,rfl⟩,_,rfl,_,⟨_,aO du,_,aP du,rfl⟩,_,⟨_,rfl,rfl⟩,_,rfl,_,⟨_,rfl,rfl⟩,_,⟨_,.dN (Zl eJ) lz,rfl⟩,?_⟩;cases aQ;refine⟨_,rfl,Q0,?_⟩;cases aA;exact wt ⟨lr,lr,Q8⟩ ⟨hr,hr,J4⟩ rfl
     cases aQ;refine⟨_,rfl,Q0,?_⟩;cases aA;exact wt ⟨lr,lr,Q8⟩ ⟨hr,hr,J4⟩ rfl
    refine ct Φ (λhb Φ=>?_) λhb Φ=>?_
    .have⟨x9,ga,Φ⟩:=ι Φ;have⟨aX,Φ⟩:=aq Φ;refine dw 12 tok mixed ⟨_,rfl,_,⟨_,rfl,rfl⟩,_,rfl,_,⟨_,rfl,rfl⟩,_,rfl,_,⟨_,aO ga,_,aP ga,rfl⟩,_,⟨_,rfl,rfl⟩,_,rfl,_,⟨_,rfl,rfl⟩,_,⟨_,rfl,rfl⟩,_,rfl,_,rfl,Q0,c_ (f:=mQ) (n:=8) (λ_=>rfl) ([(⟨x9,c.bE+1,x3⟩:cq)]),c8 (f:=mQ) (l:=s1.2) (l':=[(⟨x9,c.bE+1,x3⟩:cq)]) aX,_,(bO (f:=mQ) (l₁:=s1.2) (l₂:=[(⟨x9,c.bE+1,x3⟩:cq)])).symm,_,rfl,?_⟩;cases Φ;exact wt Q7 ⟨hr,J4⟩ rfl
    refine sk ?_;cases Φ;exact wt Q7 ⟨hr,J4⟩ rfl
   have⟨bY,ζ⟩:=aq ζ;exact rg (ah ⟨bY,_,sj ζ,wt Q7 ⟨hr,J4⟩ rfl⟩)
  refine xt ?_;have ζ:=aT ζ aB;cases ζ;exact wt Q4 ⟨hr,J4⟩ rfl
 have⟨v4,aU,h⟩:=ι h;refine Ok.aD ⟨Ψ [(4,.b 4 0),(5,.b 5 0)],[(4,.box (k3 0 0 0 0)),(5,.box [.s (mI d.η),vi d.Next,vi d.ai,vi (c.bE+1),.o 119,.o 24,.s (mE c.cm),vi c.Next]),(119,.own 3 1 (mB v4)),(24,.own 98 8 (mD v1))]⟩ ?_ ?_
 .refine sg ⟨_,rfl,_,au _,λ_=>bl (Ok.loop (λ(s2:Int×(List Int))=>⟨Ψ [(2,.b 2 0),(4,.b 4 0),(5,.b 5 0),(84,.s (mI d.η)),(85,vi (d.η.length:Int)),(86,vi s2.1)],[(2,.box (b1 c)),(4,.box (k3 0 0 0 0)),(5,.box [.s (mI d.η),vi d.Next,vi d.ai,vi (c.bE+1),.o 119,.o 24,.s (mE c.cm),vi c.Next]),(119,.own 3 1 (mB s2.2)),(24,.own 98 8 (mD v1))]⟩) (FH d c) (s0:=(0,[])) aU ((Wk.Wt (b:=5) (q:=4) (id:=119) (E:=3) (K:=1) rfl rfl rfl).trans (wt Q6 ⟨⟨_,rfl,.refl _⟩,⟨_,rfl,.refl _⟩,⟨_,rfl,.refl _⟩,⟨_,rfl,.refl _⟩,⟨_,rfl,.refl _⟩,Q0⟩ rfl)) ?_)⟩;intro s2 y2 av eP;unfold FH at av;refine sg (sq (ct av (λhb av=>?_) λhb av=>?_))
  .have⟨dI,gQ,av⟩:=ι av;have⟨v5,bh,av⟩:=ι av;refine sk (sq (bl (sg ⟨_,aO gQ,_,aP gQ,_,rfl,_,rfl,sg ⟨_,rfl,Ok.aD ⟨Ψ [(2,.b 2 0),(4,.b 4 0),(5,.b 5 0),(11,vi v5),(84,.s (mI d.η)),(85,vi (d.η.length:Int)),(86,vi s2.1)],[(2,.box (b1 c)),(4,.box (k3 0 0 0 0)),(5,.box [.s (mI d.η),vi d.Next,vi d.ai,vi (c.bE+1),.o 119,.o 24,.s (mE c.cm),vi c.Next]),(119,.own 3 1 (mB s2.2)),(24,.own 98 8 (mD v1))]⟩ ?_ ?_⟩⟩)))
   .have⟨ez,jT,bh⟩:=ι bh;have⟨v6,de,bh⟩:=ι bh;refine sg ⟨_,rfl,_,rfl,Ω.call (Zi jT) lz (Ok.aD ⟨Ψ [(2,.b 2 0),(4,.b 4 0),(5,.b 5 0),(11,vi (c.bE+1)),(12,vi ez),(84,.s (mI d.η)),(85,vi (d.η.length:Int)),(86,vi s2.1),(109,vb v6)],[(2,.box (b1 c)),(4,.box (k3 0 0 0 0)),(5,.box [.s (mI d.η),vi d.Next,vi d.ai,vi (c.bE+1),.o 119,.o 24,.s (mE c.cm),vi c.Next]),(119,.own 3 1 (mB s2.2)),(24,.own 98 8 (mD v1))]⟩ ?_ ?_)⟩
    .have⟨c3,bC,de⟩:=ι de;refine dw 12 tok mixed ⟨_,rfl,_,rfl,_,rfl,Br.ite bC (λhb bC=>?_) λhb bC=>?_⟩
     .have⟨dU,kb,bC⟩:=ι bC;have⟨fy,nV,bC⟩:=ι bC;refine⟨_,⟨_,rfl,rfl⟩,_,rfl,_,rfl,_,⟨_,rfl,rfl⟩,_,rfl,_,⟨_,aO kb,_,aP kb,rfl⟩,_,⟨_,rfl,rfl⟩,_,⟨_,.dN (Zk nV) lz,rfl⟩,?_⟩;cases bC;refine⟨_,rfl,Q0,?_⟩;cases de;exact wt ⟨lr,Q8⟩ ⟨hr,J4⟩ rfl
     cases bC;refine⟨_,rfl,Q0,?_⟩;cases de;exact wt ⟨lr,Q8⟩ ⟨hr,J4⟩ rfl
    refine ct bh (λhb bh=>?_) λhb bh=>?_
    .have⟨ly,vR,bh⟩:=ι bh;refine rg ⟨_,rfl,_,aO vR,_,aP vR,_,rfl,?_⟩;cases bh;exact wt Q7 ⟨hr,J4⟩ rfl
    refine sk ?_;cases bh;exact wt Q7 ⟨hr,J4⟩ rfl
   have⟨dL,av⟩:=aq av;have⟨fL,av⟩:=aq av;exact rg ⟨_,rfl,ah ⟨c_ (f:=Go.Cat.encI) (n:=1) (λ_=>rfl) ([v5]),c8 (f:=Go.Cat.encI) (l:=s2.2) (l':=[v5]) dL,_,(bO (f:=Go.Cat.encI) (l₁:=s2.2) (l₂:=[v5])).symm,_,rfl,rg (ah ⟨fL,_,sj av,wt Q6 ⟨hr,J4⟩ rfl⟩)⟩⟩
  refine xt ?_;have av:=aT av eP;cases av;exact wt Q2 J4 rfl
 cases h;exact sg ⟨_,rfl,_,rfl,rt ⟨_,rfl,Fz.a (.cons Fz.s (.cons Fz.v (.cons Fz.v (.cons Fz.v (.cons (Fz.o rfl) (.cons (Fz.o rfl) (.cons Fz.s fq)))))))⟩⟩
def Zv{P R e f g i j k l u d O w z A B C E F G I J K L N}{q:Int⊕(zD)}(h:Av P R e f g i j k l u d O w z A B C E F G I J K L N=V q):kQ prog eI 116 [.b 1000 0,.a (b0 P),.s (mA R)] ⟨aR,[(1000,.box (iK e f g i j k l u d O w z A B C E F G I J K L N))]⟩ (λx s=>∃y:zD,q=.inr y/\x=(.t [])/\s.H=[(1000,.box [.s (mI y.1),vi y.2.1,vi y.2.2.1,vi y.2.2.2.1,.s (mB y.2.2.2.2.1),.s (mD y.2.2.2.2.2.1),.s (mE y.2.2.2.2.2.2.1),vi y.2.2.2.2.2.2.2.1,.s (mF d),.o 35,vi w,vi z,vs A,vs B,vi C,vi E,vi F,.s (mU G),vi I,vi J,vi K,vi L,vi N,zs,zs]),(35,.own 86 3 (mA (t8 y)))]) λm s=>q=.inl m/\s.H=[]:=by
 refine px tok 83 func116 ?_;unfold Av at h;have⟨v1,ν,h⟩:=ι h;refine sg (Ok.aD ⟨Ψ [(0,.b 1000 0),(2,.s (mA R)),(4,.b 4 0)],[(1000,.box (iK e f g i j k l u d O w z A B C E F G I J K L N)),(4,.box (k0 v1.1 v1.2.1 v1.2.2))]⟩ ?_ ?_)
 .have⟨x1,Θ,ν⟩:=ι ν;refine sg ⟨_,rfl,Ω.call (ah0 Θ) lz ⟨_,au _,λ_=>bl (Ok.loop (λ(s1:Int×eK)=>⟨Ψ [(0,.b 1000 0),(2,.s (mA R)),(4,.b 4 0),(13,.s (mB x1)),(14,vi (x1.length:Int)),(15,vi s1.1)],[(1000,.box (iK e f g i j k l u d O w z A B C E F G I J K L N)),(4,.box (k0 s1.2.1 s1.2.2.1 s1.2.2.2))]⟩) (Ht x1 d) (s0:=(0,P.η,P.Next,P.ai)) ν (wt Q6 ⟨hr,hr,Q0⟩ rfl) ?_)⟩⟩;intro s1 y1 ζ aB;unfold Ht at ζ;refine sg (sq (ct ζ (λhb ζ=>?_) λhb ζ=>?_))
  .have⟨v2,Φ,ζ⟩:=ι ζ;refine sk (Ok.aD ⟨Ψ [(0,.b 1000 0),(2,.s (mA R)),(4,.b 4 0),(13,.s (mB x1)),(14,vi (x1.length:Int)),(15,vi s1.1)],[(1000,.box (iK e f g i j k l u d O w z A B C E F G I J K L N)),(4,.box (k0 v2.1 v2.2.1 v2.2.2))]⟩ ?_ ?_)
   .have⟨x2,ar,Φ⟩:=ι Φ;have⟨x3,aL,Φ⟩:=ι Φ;refine bl (sg ⟨_,aO ar,_,aP ar,_,rfl,_,rfl,sg ⟨_,rfl,Ω.borrow (ai3 aL) (.cons Fz.s (.cons (Fz.c .nil (.cons (Fz.b rfl rfl) .nil)) .nil)) rfl (ct Φ (λhb Φ=>?_) λhb Φ=>?_)⟩⟩)
    .have⟨x4,aZ,Φ⟩:=ι Φ;refine rg ⟨_,rfl,_,rfl,Ω.call (ajf aZ) lz ⟨_,rfl,?_⟩⟩;cases Φ;exact wt Q6 J2 rfl
    refine sk ?_;cases Φ;exact wt Q6 J2 rfl
   have⟨aj,ζ⟩:=aq ζ;exact rg (ah ⟨aj,_,sj ζ,wt Q6 J2 rfl⟩)
  refine xt ?_;have ζ:=aT ζ aB;cases ζ;exact wt Q3 J2 rfl
 have⟨x5,bT,h⟩:=ι h;have⟨x6,dg,h⟩:=ι h;have⟨x7,du,h⟩:=ι h;have⟨x8,eJ,h⟩:=ι h;refine sg (Ω.own (D:=35) (ajT bT) lz rfl (cg [(1000,35),(1001,4)] [(999,35)] (ajF dg) (.cons (Ln.o rfl) (.cons (Ln.c .nil (.cons (Ln.b rfl) .nil)) .nil)) ⟨⟨35,_,rfl,rfl,.refl rfl⟩,⟨4,_,rfl,rfl,.box nq⟩,Q0⟩ (sq (Ok.jI eI tok (ah (⟨_,rfl,ah (ah (Ω.borrow (ahV du) (.cons (Fz.a (.cons Fz.s fq)) (.cons (Fz.o rfl) .nil)) rfl (fJ (cx [] [] (Cs eJ) nq Q0 (λe1 cW=>?_) (λy2 gq=>?_)))))⟩))))))
 .have h:=iy h cW;cases h;exact⟨_,rfl,rfl⟩
 have h:=iz h gq;refine Ok.dy (λv3=>⟨Ψ [(0,.b 1000 0),(2,.o 35),(4,.b 4 0)],[(1000,.box (iK e f g i j k l u d O w z A B C E F G I J K L N)),(35,.own 86 3 (mA x6)),(4,.box (k0 ((⟨v1.1,v1.2.1,v1.2.2⟩:Γ).η) ((⟨v1.1,v1.2.1,v1.2.2⟩:Γ).Next) ((⟨v1.1,v1.2.1,v1.2.2⟩:Γ).ai)))]⟩) (λv3=>Hv e f g i j k l u v1 x6 v3=V q) ?_ ?_
 .refine sg ⟨_,au _,λ_=>bl (Ok.loop (λ(s2:Int)=>⟨Ψ [(0,.b 1000 0),(2,.o 35),(4,.b 4 0),(42,.o 35),(43,vi (x6.length:Int)),(44,vi s2)],[(1000,.box (iK e f g i j k l u d O w z A B C E F G I J K L N)),(35,.own 86 3 (mA x6)),(4,.box (k0 ((⟨v1.1,v1.2.1,v1.2.2⟩:Γ).η) ((⟨v1.1,v1.2.1,v1.2.2⟩:Γ).Next) ((⟨v1.1,v1.2.1,v1.2.2⟩:Γ).ai)))]⟩) (Hu x6 v1 e f g i j k l u) (s0:=0) h (wt Q6 ⟨hr,hr,hr,Q0⟩ rfl) ?_)⟩;intro s2 y3 av eP;unfold Hu at av;refine sg (sq (ct av (λhb av=>?_) λhb av=>?_))
  .refine sk (Ok.dy (λv4=>⟨Ψ [(0,.b 1000 0),(2,.o 35),(4,.b 4 0),(42,.o 35),(43,vi (x6.length:Int)),(44,vi s2)],[(1000,.box (iK e f g i j k l u d O w z A B C E F G I J K L N)),(35,.own 86 3 (mA x6)),(4,.box (k0 ((⟨v1.1,v1.2.1,v1.2.2⟩:Γ).η) ((⟨v1.1,v1.2.1,v1.2.2⟩:Γ).Next) ((⟨v1.1,v1.2.1,v1.2.2⟩:Γ).ai)))]⟩) (λv4=>Hw s2 v4=V y3) ?_ ?_)
   .have⟨x9,ga,av⟩:=ι av;have⟨dI,gQ,av⟩:=ι av;have⟨c1,ξ,av⟩:=ι av;refine bl (sg ⟨_,aO ga,ll ga,_,aP ga,rfl,_,rfl,_,rfl,sg ⟨_,rfl,_,rfl,Ω.call (aih gQ) lz (Ok.jI eI tok (ah (ah (ah (⟨_,rfl,ah (ah (Br.ite ξ (λhb ξ=>?_) λhb ξ=>?_))⟩)))))⟩⟩)
    .refine ah (ah (ah (⟨_,rfl,ah ?_⟩)));cases ξ;have⟨ez,jT,av⟩:=ι av;refine ah (fJ (cx [] [] (Cs jT) nq Q0 (λe2 j7=>?_) (λy4 mj=>?_)))
     .have av:=iy av j7;have av:=aT av eP;cases av;exact⟨_,rfl,rfl⟩
     have av:=iz av mj;exact⟨_,av,wt Q6 ⟨hr,hr,hr,Q0⟩ rfl⟩
    cases ξ;have⟨ez,jT,av⟩:=ι av;refine ah (fJ (cx [] [] (Cs jT) nq Q0 (λe2 j7=>?_) (λy4 mj=>?_)))
    .have av:=iy av j7;have av:=aT av eP;cases av;exact⟨_,rfl,rfl⟩
    have av:=iz av mj;exact⟨_,av,wt Q6 ⟨hr,hr,hr,Q0⟩ rfl⟩
   intro v4 av;unfold Hw at av;have⟨aX,av⟩:=aq av;exact rg (ah ⟨aX,_,sj av,wt Q6 J3 rfl⟩)
  refine xt ?_;have av:=aT av eP;exact⟨_,av,wt Q3 ⟨hr,hr,hr,Q0⟩ rfl⟩
 intro v3 h;unfold Hv at h;have⟨dU,kb,h⟩:=ι h;cases h;exact Ok.iG (m:=13) (late:=[1,9]) (MD:=⟨[]⟩) (CH:=⟨[]⟩) tok mixed (by kernel_rfl) ⟨_,rfl,_,rfl,_,rfl,_,rfl,_,rfl,_,rfl,_,⟨_,rfl,rfl⟩,_,⟨_,rfl,rfl⟩,_,⟨_,.dN (aiX kb) lz,rfl⟩,_,rfl,_,rfl,_,rfl,_,rfl,Q0,_,rfl,⟨⟨_,rfl,rfl⟩,⟨_,rfl,rfl⟩,Q0⟩,_,rfl,_,rfl,wt Q1 J2 rfl⟩
def ajt[oC]{C D F G I J K L d N e f g i a j k l u w z A B}{q:Int⊕(Cm)}(h:Mf C D F G I J K L d N e f g i a j k l u w z A B=V q):kQ prog eI 63 [.b 1000 0] ⟨aR,[(1000,.box (iK C D F G I J K L d N e f g i a j k l u w z A B))]⟩ (λx s=>∃y:Cm,q=.inr y/\x=(.t [])/\s.H=[(1000,.box [.s (mI y.1),vi y.2.1,vi y.2.2.1,vi y.2.2.2.1,.s (mB y.2.2.2.2.1),.s (mD y.2.2.2.2.2.1),.s (mE y.2.2.2.2.2.2.1),vi y.2.2.2.2.2.2.2.1,.s (mF d),.o 999,vi e,vi f,vs g,vs i,vi a,vi j,vi k,.s (mU l),vi (0),vi (t8 y).1,vi a,vi (0),vi (0),zs,zs]),(999,.own 86 3 (mA (t8 y).2))]) λm s=>q=.inl m/\s.H=[]:=by
 refine px tok 55 func63 ?_;unfold Mf at h;have⟨x1,Θ,h⟩:=ι h;refine sq (Ok.jI eI tok (ah (ah (ah (ah (ah (ah (⟨_,rfl,fJ (cx [(1000,1000)] [] (Ra Θ) (.cons (Ln.b rfl) nq) ⟨⟨1000,_,rfl,rfl,.box nq⟩,Q0⟩ (λe1 cW=>?_) (λy1 gq=>?_))⟩))))))))
 .have h:=iy h cW;cases h;exact⟨_,rfl,rfl⟩
 have h:=iz h gq;have⟨x2,ar,h⟩:=ι h;have⟨x3,aL,h⟩:=ι h;refine ah (ah (ah (ah (ah (sq (Ok.xC (E:=eI) (chain:=[(18,[0,1,2,3,4,5,6,7,8,9,10,11,12,13,14,15,16,17,20,21]),(19,[16,17,20,21])]) tok mixed (by kernel_rfl) ⟨_,rfl,_,rfl,_,rfl,_,rfl,_,rfl,_,⟨_,rfl,rfl⟩,_,rfl,_,rfl,_,rfl,_,rfl,_,rfl,_,rfl,_,⟨_,rfl,rfl⟩,_,⟨_,.dN (Zp ar) lz,rfl⟩,_,rfl,_,rfl,_,rfl,_,rfl,_,rfl,_,rfl,ah ⟨⟨⟨_,rfl,rfl⟩,⟨_,rfl,rfl⟩,⟨_,rfl,rfl⟩,⟨_,rfl,rfl⟩,⟨_,rfl,rfl⟩,⟨_,rfl,_,rfl,rfl⟩,⟨_,rfl,rfl⟩,⟨_,rfl,rfl⟩,⟨_,rfl,rfl⟩,⟨_,rfl,rfl⟩,⟨_,rfl,rfl⟩,⟨_,rfl,rfl⟩,⟨_,rfl,_,rfl,rfl⟩,⟨_,rfl,_,.dN (Zp ar) lz,rfl⟩,⟨_,rfl,rfl⟩,⟨_,rfl,rfl⟩,⟨_,rfl,rfl⟩,⟨_,rfl,rfl⟩,⟨_,rfl,rfl⟩,⟨_,rfl,rfl⟩,Q0⟩,ah (⟨_,rfl,⟨⟨_,rfl,rfl⟩,⟨_,rfl,rfl⟩,⟨_,rfl,rfl⟩,⟨_,rfl,rfl⟩,Q0⟩,sq (Ok.jI eI tok (ah (fJ (cx [] [] (wR aL) nq Q0 (λe2 j7=>?_) (λy2 mj=>?_)))))⟩)⟩⟩))))))
 .have h:=iy h j7;cases h;exact⟨_,rfl,rfl⟩
 have h:=iz h mj;have⟨x4,aZ,h⟩:=ι h;refine sq (Ok.xC (E:=eI) (chain:=[(7,[])]) tok mixed (by kernel_rfl) ⟨_,rfl,_,⟨_,rfl,rfl⟩,_,rfl,_,rfl,_,rfl,_,rfl,_,⟨_,rfl,rfl⟩,fJ (cx [(1000,1000)] [(35,999)] (Zv aZ) (.cons (Ln.b rfl) nq) ⟨⟨1000,_,rfl,rfl,.box nq⟩,Q0⟩ (λe3 qZ=>?_) (λy3 qp=>?_))⟩)
 .have h:=iy h qZ;cases h;exact⟨_,rfl,rfl⟩
 have h:=iz h qp;cases h;exact⟨Q0,rg ⟨_,rfl,_,rfl,_,rfl,wt Q1 J2 rfl⟩⟩
def ai_{a b r}(h:FQ a b=V r):Pure prog 242 [.s (mB a),vi b] (vi r):=by
 refine pq tok 19 func242 ?_;unfold FQ at h;refine sg (Ok.dy (λv1=>⟨Ψ [],[]⟩) (λv1=>Kc v1=V r) ?_ ?_)
 .refine sg ⟨_,au _,λ_=>bl (Ok.loop (λ(s1:Int)=>⟨Ψ [(0,.s (mB a)),(1,vi b),(7,vi (a.length:Int)),(8,vi s1)],[]⟩) (FR a b) (s0:=0) h (wt Q4 Q0 rfl) ?_)⟩;intro s1 y1 ζ aB;unfold FR at ζ;refine sg (sq (ct ζ (λhb ζ=>?_) λhb ζ=>?_))
  .have⟨x1,Θ,ζ⟩:=ι ζ;refine sk (sq (bl (sg (sg ⟨_,aO Θ,_,aP Θ,_,rfl,ct ζ (λhb ζ=>?_) λhb ζ=>?_⟩))))
   .refine sg (rt ?_);have ζ:=aT ζ aB;cases ζ;exact Fz.v
   have⟨aj,ζ⟩:=aq ζ;exact sk (rg (ah ⟨aj,_,sj ζ,wt Q4 Q0 rfl⟩))
  refine xt ?_;have ζ:=aT ζ aB;exact⟨_,ζ,wt Q0 Q0 rfl⟩
 intro v1 h;unfold Kc at h;cases h;exact sg (rt Fz.v)
def Zm{a b r}(h:BV a b=V r):Pure prog 186 [.s (mB a),vi b] (vb r):=by
 refine pq tok 9 func186 ?_;unfold BV at h;have⟨x1,Θ,h⟩:=ι h;cases h;exact sg (sg (Ω.call (ai_ Θ) lz (rt Fz.v)))
def ajq{d c r}(h:Gf d c=V r):Pure prog 187 [.a (b4 d),.a (b4 c)] (vi r):=by
 refine pq tok 28 func187 ?_;unfold Gf at h;have⟨v1,ν,h⟩:=ι h;refine sg (sq (bl (Ok.aD ⟨Ψ [(2,.b 2 0),(3,.b 3 0),(5,vb v1)],[(2,.box (b4 d)),(3,.box (b4 c))]⟩ ?_ ?_)))
 .have⟨c1,ξ,ν⟩:=ι ν;refine rg ⟨_,rfl,Br.ite ξ (λhb ξ=>?_) λhb ξ=>?_⟩
  .refine⟨_,rfl,?_⟩;cases ξ;cases ν;exact wt Q3 J2 rfl
  cases ξ;cases ν;exact wt Q3 J2 rfl
 refine ct h (λhb h=>?_) λhb h=>?_
 .cases h;exact sg (rt Fz.v)
 have⟨v2,Φ,h⟩:=ι h;refine Ok.aD ⟨Ψ [(3,.b 3 0),(14,vb v2)],[(3,.box (b4 c))]⟩ ?_ ?_
 .have⟨c2,az,Φ⟩:=ι Φ;refine rg ⟨_,rfl,Br.ite az (λhb az=>?_) λhb az=>?_⟩
  .refine⟨_,rfl,?_⟩;cases az;cases Φ;exact wt Q2 J1 rfl
  cases az;cases Φ;exact wt Q2 J1 rfl
 refine ct h (λhb h=>?_) λhb h=>?_
 .cases h;exact sg (rt Fz.v)
 refine sg ⟨_,rfl,_,au _,λ_=>ct h (λhb h=>?_) λhb h=>?_⟩
 .cases h;exact sg (rt Fz.v)
 cases h;exact sk (sg (rt Fz.v))
def ajH{d e f g i r}(h:Ce d e f g i=V r):Ω prog 244 [.a (b4 d),.b 1000 0,.b 1002 0,.b 1003 0,.b 1004 0] ⟨aR,[(1000,.box [.b 1001 0]),(1001,.box (b5 e)),(1002,.box [vi f]),(1003,.box [vi g]),(1004,.box [vi i])]⟩ λx s=>x=(vb r.1)/\s.H=[(1000,.box [.b 1001 0]),(1001,.box (k0 r.2.1 r.2.2.1 r.2.2.2)),(1002,.box [vi f]),(1003,.box [vi g]),(1004,.box [vi i])]:=by
 refine pg tok 40 func244 ?_;unfold Ce at h;refine sg (sq (sg ⟨_,rfl,ct h (λhb h=>?_) λhb h=>?_⟩))
 .cases h;exact sg (rt (wt Q1 ⟨hr,J4⟩ rfl))
 have⟨x1,Θ,h⟩:=ι h;refine sk (sg ⟨_,rfl,_,rfl,Ω.fj (id:=1001) (Q_ Θ) rfl (.box lz) rfl (.cons (Lr.b) (.cons (Lr.cP rfl) .nil)) ?_⟩);rintro _ _ ⟨rfl,rfl⟩;have⟨aj,h⟩:=aq h;have⟨aX,h⟩:=aq h;have⟨bY,h⟩:=aq h;have⟨v1,ν,h⟩:=ι h;refine sg ⟨_,rfl,_,au _,λ_=>(ah ⟨aj,ah ⟨aX,_,rfl,ah ⟨bY,Ok.aD ⟨Ψ [(6,vb v1)],[(1000,.box [.b 1001 0]),(1001,.box (b5 x1.2)),(1002,.box [vi f]),(1003,.box [vi g]),(1004,.box [vi i])]⟩ ?_ ?_⟩⟩⟩)⟩
 .have⟨x2,ar,ν⟩:=ι ν;have⟨c3,ξ,ν⟩:=ι ν;refine rg ⟨_,rfl,Ω.call (Zm ar) lz (Br.ite ξ (λhb ξ=>?_) λhb ξ=>?_)⟩
  .have⟨c2,az,ξ⟩:=ι ξ;refine Br.cA az (λhb az=>?_) λhb az=>?_
   .cases az;cases ξ;cases ν;exact wt Q1 ⟨hr,J4⟩ rfl
   have⟨c1,aQ,az⟩:=ι az;refine Br.ite aQ (λhb aQ=>?_) λhb aQ=>?_
   .refine⟨_,rfl,_,au _,λ_=>?_⟩;cases aQ;cases az;cases ξ;cases ν;exact wt Q1 ⟨hr,J4⟩ rfl
   cases aQ;cases az;cases ξ;cases ν;exact wt Q1 ⟨hr,J4⟩ rfl
  cases ξ;cases ν;exact wt Q1 ⟨hr,J4⟩ rfl
 cases h;exact rt (wt Q1 ⟨hr,J4⟩ rfl)
end Go.Proofs
