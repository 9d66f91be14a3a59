/- The walks of this seat beside the plain programs, part 9. No condition. -/
import Derived.Test.YtdcgbodbejgliaaGreatDoorXTopThereAndBackWk8
open Option renaming some->V
open List renaming length_map->au,map_append->bO
open Or renaming inl->ah
namespace Go.Proofs
set_option linter.all false
open Go Go.Cat Tryz
variable[M:cD][K:LK]
set_option maxRecDepth 100000
set_option maxHeartbeats 4000000
def aiQ{c d r}(h:Fw c d=V r):Pure prog 51 [.a (b2 c),.a (lJ d)] (.t [.a (b2 r.1),.a (iS r.2)]):=by
 refine pq tok 206 func51 ?_;unfold Fw at h;refine sg (sg ⟨_,rfl,_,rfl,sq (sg ⟨_,rfl,ct h (λhb h=>?_) λhb h=>?_⟩)⟩)
 .have⟨x1,Θ,h⟩:=ι h;refine sg ⟨_,rfl,_,rfl,_,rfl,_,rfl,Ω.call (Za Θ) lz ⟨_,rfl,sq (sg (ct h (λhb h=>?_) λhb h=>?_))⟩⟩
  .have⟨x2,ar,h⟩:=ι h;cases h;exact sq (dw 3 tok mixed ⟨_,⟨_,rfl,rfl⟩,_,rfl,_,⟨_,.dN (kq ar) lz,rfl⟩,Q0,_,rfl,_,rfl,rt ⟨_,rfl,_,rfl,Fz.t fq⟩⟩)
  have⟨x3,aL,h⟩:=ι h;cases h;exact sk (sg ⟨_,rfl,_,rfl,Ω.call (QY aL) lz ⟨_,rfl,sg ⟨_,rfl,sg ⟨_,rfl,_,rfl,_,rfl,rt ⟨_,rfl,_,rfl,Fz.t (.cons (Fz.cP rfl) (.cons (Fz.a (.cons Fz.v (.cons Fz.v (.cons Fz.v (.cons Fz.v (.cons Fz.v (.cons Fz.nil (.cons Fz.nil .nil)))))))) .nil))⟩⟩⟩⟩⟩)
 have⟨x4,aZ,h⟩:=ι h;refine sk (sg ⟨_,rfl,_,rfl,_,rfl,Ω.call (aiy aZ) lz (sq (sg (ct h (λhb h=>?_) λhb h=>?_)))⟩)
 .have⟨x5,bT,h⟩:=ι h;cases h;exact sq (dw 3 tok mixed ⟨_,⟨_,rfl,rfl⟩,_,rfl,_,⟨_,.dN (kq bT) lz,rfl⟩,Q0,_,rfl,_,rfl,rt ⟨_,rfl,_,rfl,Fz.t fq⟩⟩)
 have⟨x6,dg,h⟩:=ι h;have⟨v1,ν,h⟩:=ι h;refine sk (sg ⟨_,rfl,Ω.call (jd dg) lz ⟨_,rfl,sq (Ok.aD ⟨Ψ [(2,.b 2 0),(3,.b 3 0),(4,.b 4 0),(5,.b 5 0),(6,.b 6 0),(10,vi x4.1),(12,.b 12 0),(106,vb v1)],[(2,.box (b2 c)),(3,.box (lJ d)),(4,.box (k6 0 0 0 0)),(5,.box (iL 0 0 0 0 0)),(6,.box (b12 c)),(12,.box (b4 x6.1))]⟩ ?_ ?_)⟩⟩)
 .have⟨c3,ξ,ν⟩:=ι ν;refine rg ⟨_,rfl,Br.cA ξ (λhb ξ=>?_) λhb ξ=>?_⟩
  .cases ξ;have⟨c5,az,ν⟩:=ι ν;replace az:=dS az;cases az;cases ν;exact wt Q8 ⟨hr,hr,J4⟩ rfl
  have⟨c2,aQ,ξ⟩:=ι ξ;refine⟨_,rfl,Br.ite aQ (λhb aQ=>?_) λhb aQ=>?_⟩
  .have⟨c1,bC,aQ⟩:=ι aQ;refine⟨_,rfl,Br.cA bC (λhb bC=>?_) λhb bC=>?_⟩
   .cases bC;cases aQ;cases ξ;have⟨c5,bX,ν⟩:=ι ν;replace bX:=dS bX;cases bX;cases ν;exact wt Q8 ⟨hr,hr,J4⟩ rfl
   refine⟨_,rfl,?_⟩;cases bC;cases aQ;cases ξ;have⟨c5,cI,ν⟩:=ι ν;refine Br.cA cI (λhb cI=>?_) λhb cI=>?_
   .cases cI;cases ν;exact wt Q8 ⟨hr,hr,J4⟩ rfl
   have⟨c4,cJ,cI⟩:=ι cI;refine⟨_,rfl,Br.ite cJ (λhb cJ=>?_) λhb cJ=>?_⟩
   .refine⟨_,rfl,?_⟩;cases cJ;cases cI;cases ν;exact wt Q8 ⟨hr,hr,J4⟩ rfl
   cases cJ;cases cI;cases ν;exact wt Q8 ⟨hr,hr,J4⟩ rfl
  cases aQ;cases ξ;have⟨c5,c9,ν⟩:=ι ν;replace c9:=dE c9;have⟨c4,dr,c9⟩:=ι c9;refine⟨_,rfl,Br.ite dr (λhb dr=>?_) λhb dr=>?_⟩
  .refine⟨_,rfl,?_⟩;cases dr;cases c9;cases ν;exact wt Q8 ⟨hr,hr,J4⟩ rfl
  cases dr;cases c9;cases ν;exact wt Q8 ⟨hr,hr,J4⟩ rfl
 refine ct h (λhb h=>?_) λhb h=>?_
 .have⟨x7,du,h⟩:=ι h;cases h;exact sq (dw 2 tok mixed ⟨_,⟨_,rfl,rfl⟩,_,⟨_,.dN (kq du) lz,rfl⟩,Q0,_,rfl,_,rfl,rt ⟨_,rfl,_,rfl,Fz.t fq⟩⟩)
 refine sk (sq (sg ⟨_,rfl,bl (sg (ct h (λhb h=>?_) λhb h=>?_))⟩))
 .have⟨aj,h⟩:=aq h;have⟨aX,h⟩:=aq h;cases h;exact sg ⟨_,rfl,_,rfl,_,au _,λ_=>⟨(min d.N (x6.1.aK.length:Int)),rfl,sg ⟨_,rfl,(ah ⟨aj,_,rfl,_,au _,λ_=>⟨(min ((min d.N (x6.1.aK.length:Int))+d.M) (x6.1.aK.length:Int)),rfl,sq (Ok.iG (m:=8) (late:=[1,2,3,4,5,6,7]) (MD:=⟨[]⟩) (CH:=⟨[]⟩) tok mixed (by kernel_rfl) ⟨_,⟨_,rfl,rfl⟩,_,rfl,_,rfl,_,⟨_,rfl,rfl⟩,_,rfl,_,rfl,_,⟨_,gJ aX.1,_,gJ (zt aX),P1 aX,P2 aX,oc (f:=dV) (K:=1) (λ_=>rfl) x6.1.aK,_,Yh _ _ _ _,rfl⟩,_,rfl,Q0,_,rfl,⟨⟨_,rfl,rfl⟩,⟨_,rfl,rfl⟩,⟨_,rfl,_,rfl,rfl⟩,⟨_,rfl,rfl⟩,⟨_,rfl,rfl⟩,⟨_,rfl,_,gJ aX.1,_,gJ (zt aX),P1 aX,P2 aX,oc (f:=dV) (K:=1) (λ_=>rfl) x6.1.aK,_,Yh _ _ _ _,rfl⟩,⟨_,rfl,rfl⟩,Q0⟩,_,rfl,rt ⟨_,rfl,_,rfl,Fz.t (.cons (Fz.cP rfl) (.cons (Fz.a (.cons Fz.v (.cons Fz.v (.cons Fz.v (.cons Fz.v (.cons Fz.v (.cons Fz.nil (.cons Fz.s .nil)))))))) .nil))⟩⟩)⟩⟩)⟩⟩⟩
 refine sg (ct h (λhb h=>?_) λhb h=>?_)
 .have⟨bY,h⟩:=aq h;refine sq (sg ⟨_,rfl,_,rfl,_,au _,λ_=>(ah ⟨bY,ct h (λhb h=>?_) λhb h=>?_⟩)⟩)
  .have⟨x8,eJ,h⟩:=ι h;cases h;exact sq (dw 2 tok mixed ⟨_,⟨_,rfl,rfl⟩,_,⟨_,.dN (kq eJ) lz,rfl⟩,Q0,_,rfl,_,rfl,rt ⟨_,rfl,_,rfl,Fz.t fq⟩⟩)
  have⟨x9,ga,h⟩:=ι h;have⟨dI,gQ,h⟩:=ι h;have⟨ez,jT,h⟩:=ι h;cases h;exact sk (sg ⟨_,rfl,_,rfl,_,rfl,Ω.call (aiL ga) lz (sg ⟨_,rfl,Ω.call (Y8 gQ) lz ⟨_,rfl,sg ⟨_,rfl,_,rfl,_,rfl,_,au _,λ_=>Ω.call (zH jT) (l4 (.cons (Le.a (l4 (l1 (.cons (Le.nil) (.cons (Le.nil) .nil))))) .nil)) ⟨_,rfl,_,rfl,sq (Ok.iG (m:=2) (late:=[1]) (MD:=⟨[]⟩) (CH:=⟨[]⟩) tok mixed (by kernel_rfl) ⟨_,⟨_,rfl,rfl⟩,_,⟨_,rfl,rfl⟩,Q0,_,rfl,⟨⟨_,rfl,_,rfl,rfl⟩,Q0⟩,_,rfl,rt ⟨_,rfl,_,rfl,Fz.t fq⟩⟩)⟩⟩⟩⟩)⟩)
 have⟨dL,h⟩:=aq h;have⟨dU,kb,h⟩:=ι h;have⟨fy,nV,h⟩:=ι h;cases h;exact sk (sg ⟨_,rfl,_,rfl,_,rfl,_,au _,λ_=>⟨(min d.N (x6.1.aK.length:Int)),rfl,_,gJ dL.1,Nat.zero_le _,pU dL,oc (f:=dV) (K:=1) (λ_=>rfl) x6.1.aK,_,zu _ _ _,sg ⟨_,rfl,Ω.call (Y8 kb) lz ⟨_,rfl,sg ⟨_,rfl,_,rfl,_,rfl,_,au _,λ_=>Ω.call (zH nV) (l4 (.cons (Le.a (l4 (l1 (.cons (Le.nil) (.cons (Le.nil) .nil))))) .nil)) ⟨_,rfl,_,rfl,sq (Ok.iG (m:=2) (late:=[1]) (MD:=⟨[]⟩) (CH:=⟨[]⟩) tok mixed (by kernel_rfl) ⟨_,⟨_,rfl,rfl⟩,_,⟨_,rfl,rfl⟩,Q0,_,rfl,⟨⟨_,rfl,_,rfl,rfl⟩,Q0⟩,_,rfl,rt ⟨_,rfl,_,rfl,Fz.t fq⟩⟩)⟩⟩⟩⟩⟩⟩)
def ajQ{d c r}(h:ze d c=V r):j5 prog 227 [.s (mI d),.a (b4 c)] 44 6 (mI r):=by
 refine pv tok 38 func227 ?_;unfold ze at h;have⟨v1,ν,h⟩:=ι h;refine sg (sg (Ok.aD ⟨Ψ [(0,.s (mI d)),(3,.b 3 0),(5,vi v1)],[(3,.box (b4 c))]⟩ ?_ ?_))
 .refine bl (Ok.loop (λ(s1:Int)=>⟨Ψ [(0,.s (mI d)),(3,.b 3 0),(5,vi s1)],[(3,.box (b4 c))]⟩) (Js d c) (s0:=0) ν (wt Q3 ⟨hr,Q0⟩ rfl) ?_);intro s1 y1 ζ aB;unfold Js at ζ;have⟨v2,Φ,ζ⟩:=ι ζ;refine sq (Ok.aD ⟨Ψ [(0,.s (mI d)),(3,.b 3 0),(5,vi s1),(20,vb v2)],[(3,.box (b4 c))]⟩ ?_ ?_)
  .have⟨c1,ξ,Φ⟩:=ι Φ;refine dw 14 tok mixed ⟨_,rfl,_,rfl,_,⟨_,au _,λ_=>rfl⟩,_,rfl,_,rfl,Br.ite ξ (λhb ξ=>?_) λhb ξ=>?_⟩
   .have⟨x1,Θ,ξ⟩:=ι ξ;refine⟨_,rfl,_,rfl,_,⟨_,aO Θ,_,aP Θ,rfl⟩,_,rfl,_,⟨_,rfl,rfl⟩,_,rfl,_,⟨_,rfl,rfl⟩,_,rfl,?_⟩;cases ξ;refine⟨_,rfl,Q0,?_⟩;cases Φ;exact wt Q4 J1 rfl
   cases ξ;refine⟨_,rfl,Q0,?_⟩;cases Φ;exact wt Q4 J1 rfl
  refine ct ζ (λhb ζ=>?_) λhb ζ=>?_
  .have⟨aj,ζ⟩:=aq ζ;exact sk (bl (rg (ah ⟨aj,_,sj ζ,wt Q3 J1 rfl⟩)))
  refine xt ?_;have ζ:=aT ζ aB;cases ζ;exact wt Q3 J1 rfl
 have⟨aX,h⟩:=aq h;have⟨bY,h⟩:=aq h;have⟨dL,h⟩:=aq h;have⟨fL,h⟩:=aq h;have⟨qY,h⟩:=aq h;cases h;exact sg (Or.inr ⟨_,gJ aX.1,Nat.zero_le _,pU aX,oc (f:=eM) (K:=6) (λ_=>rfl) d,_,zu _ _ _,c_ (f:=eM) (n:=6) (λ_=>rfl) (d.take v1.toNat),c8 (f:=eM) (l:=([]:List τ)) (l':=d.take v1.toNat) bY,_,(bO (f:=eM) (l₁:=([]:List τ)) (l₂:=d.take v1.toNat)).symm,sg ⟨_,rfl,ah ⟨c_ (f:=eM) (n:=6) (λ_=>rfl) ([c]),c8 (f:=eM) (l:=([]:List τ)++(d.take v1.toNat)) (l':=[c]) dL,_,(bO (f:=eM) (l₁:=([]:List τ)++(d.take v1.toNat)) (l₂:=[c])).symm,sg ⟨_,gJ fL.1,pU fL,Nat.le_refl _,oc (f:=eM) (K:=6) (λ_=>rfl) d,_,FK _ _ _,c_ (f:=eM) (n:=6) (λ_=>rfl) (d.drop v1.toNat),c8 (f:=eM) (l:=(([]:List τ)++(d.take v1.toNat))++[c]) (l':=d.drop v1.toNat) qY,_,(bO (f:=eM) (l₁:=(([]:List τ)++(d.take v1.toNat))++[c]) (l₂:=d.drop v1.toNat)).symm,sg (rt (.inr ⟨_,rfl,rfl⟩))⟩⟩⟩⟩)
def Zf{c b r}(h:ze c b=V r):Pure prog 227 [.s (mI c),.a (b4 b)] (.s (mI r)):=(ajQ h).pure
def aiH{c d r}(h:Fj c d=V r):Pure prog 161 [.a (b1 c),vi d] (.s (mI r)):=by
 refine pq tok 73 func161 ?_;unfold Fj at h;have⟨v1,ν,h⟩:=ι h;refine sg (sg (ah (Ok.aD ⟨Ψ [(1,vi d),(2,.b 2 0),(5,.s (mI v1))],[(2,.box (b1 c))]⟩ ?_ ?_)))
 .refine sg (bl (Ok.loop (λ(s1:(List τ)×Int)=>⟨Ψ [(1,vi d),(2,.b 2 0),(5,.s (mI s1.1)),(6,vi s1.2)],[(2,.box (b1 c))]⟩) (Jq c d) (s0:=(([]:List τ),0)) ν (wt Q4 ⟨hr,Q0⟩ rfl) ?_));intro s1 y1 ζ aB;unfold Jq at ζ;refine sq (sg ⟨_,rfl,_,au _,λ_=>ct ζ (λhb ζ=>?_) λhb ζ=>?_⟩)
  .have⟨v2,Φ,ζ⟩:=ι ζ;refine sk (Ok.aD ⟨Ψ [(1,vi d),(2,.b 2 0),(5,.s (mI v2)),(6,vi s1.2)],[(2,.box (b1 c))]⟩ ?_ ?_)
   .have⟨v3,aA,Φ⟩:=ι Φ;refine bl (Ok.aD ⟨Ψ [(1,vi d),(2,.b 2 0),(5,.s (mI s1.1)),(6,vi s1.2),(30,vb v3)],[(2,.box (b1 c))]⟩ ?_ ?_)
    .have⟨c1,ξ,aA⟩:=ι aA;refine rg ⟨_,rfl,_,au _,λ_=>Br.ite ξ (λhb ξ=>?_) λhb ξ=>?_⟩
     .have⟨x1,Θ,ξ⟩:=ι ξ;refine⟨_,rfl,_,aO Θ,_,aP Θ,_,rfl,?_⟩;cases ξ;cases aA;exact wt Q5 J1 rfl
     cases ξ;cases aA;exact wt Q5 J1 rfl
    refine ct Φ (λhb Φ=>?_) λhb Φ=>?_
    .have⟨x2,ar,Φ⟩:=ι Φ;have⟨x3,aL,Φ⟩:=ι Φ;refine rg ⟨_,rfl,_,aO ar,_,aP ar,_,rfl,Ω.call (Zf aL) lz ?_⟩;cases Φ;exact wt Q4 J1 rfl
    refine sk ?_;cases Φ;exact wt Q4 J1 rfl
   have⟨aj,ζ⟩:=aq ζ;exact rg (ah ⟨aj,_,sj ζ,wt Q4 J1 rfl⟩)
  refine xt ?_;have ζ:=aT ζ aB;cases ζ;exact wt Q3 J1 rfl
 have⟨v4,aU,h⟩:=ι h;refine Ok.aD ⟨Ψ [(5,.s (mI v4))],[]⟩ ?_ ?_
 .refine sg (bl (Ok.loop (λ(s2:(List τ)×Int)=>⟨Ψ [(1,vi d),(2,.b 2 0),(5,.s (mI s2.1)),(7,vi s2.2)],[(2,.box (b1 c))]⟩) (Jr c d) (s0:=(v1,0)) aU (wt Q4 ⟨hr,Q0⟩ rfl) ?_));intro s2 y2 av eP;unfold Jr at av;refine sq (sg ⟨_,rfl,_,au _,λ_=>ct av (λhb av=>?_) λhb av=>?_⟩)
  .have⟨v5,bh,av⟩:=ι av;refine sk (Ok.aD ⟨Ψ [(1,vi d),(2,.b 2 0),(5,.s (mI v5)),(7,vi s2.2)],[(2,.box (b1 c))]⟩ ?_ ?_)
   .have⟨v6,de,bh⟩:=ι bh;refine bl (Ok.aD ⟨Ψ [(1,vi d),(2,.b 2 0),(5,.s (mI s2.1)),(7,vi s2.2),(63,vb v6)],[(2,.box (b1 c))]⟩ ?_ ?_)
    .have⟨x4,aZ,de⟩:=ι de;have⟨c2,az,de⟩:=ι de;refine rg ⟨_,rfl,_,aO aZ,_,aP aZ,_,rfl,Br.ite az (λhb az=>?_) λhb az=>?_⟩
     .have⟨x5,bT,az⟩:=ι az;refine⟨_,rfl,_,aO bT,_,aP bT,_,rfl,?_⟩;cases az;cases de;exact wt Q5 J1 rfl
     cases az;cases de;exact wt Q5 J1 rfl
    refine ct bh (λhb bh=>?_) λhb bh=>?_
    .have⟨x6,dg,bh⟩:=ι bh;have⟨x7,du,bh⟩:=ι bh;refine rg ⟨_,rfl,_,aO dg,_,aP dg,_,rfl,Ω.call (Zf du) lz ?_⟩;cases bh;exact wt Q4 J1 rfl
    refine sk ?_;cases bh;exact wt Q4 J1 rfl
   have⟨aX,av⟩:=aq av;exact rg (ah ⟨aX,_,sj av,wt Q4 J1 rfl⟩)
  refine xt ?_;have av:=aT av eP;cases av;exact wt Q1 Q0 rfl
 cases h;exact sg (rt Fz.s)
def aiJ{c d r}(h:Fl c d=V r):Pure prog 162 [.s (mI c),vi d] (.t [.s (mH r.1),vb r.2]):=by
 refine pq tok 73 func162 ?_;unfold Fl at h;have⟨aj,h⟩:=aq h;refine sg (sg ⟨_,au _,λ_=>Or.inr ⟨_,_,v_ aj,v_ aj,Nat.le_refl _,mk_le (by decide) aj,aj.2,_,(List.map_replicate (f:=cB) (a:=(false:Bool))).symm,sg ⟨_,rfl,sg (Or.inr (Ok.dy (λv1=>⟨Ψ [(6,.o 16)],[(16,.own 4 1 (mH v1))]⟩) (λv1=>Pq v1=V r) ?_ ?_))⟩⟩⟩)
 .refine sg (bl (Ok.loop (λ(s1:sY)=>⟨Ψ [(0,.s (mI c)),(6,.o 16),(7,.b 7 0),(8,.o 20),(9,vi s1.1)],[(16,.own 4 1 (mH s1.2.1)),(7,.box (k0 c 0 0)),(20,.own 3 1 (mB s1.2.2))]⟩) (Jt c) (s0:=(0,List.replicate (c.length:Int).toNat (false:Bool),[d])) h (wt Q5 ⟨hr,hr,hr,Q0⟩ rfl) ?_));intro s1 y1 ζ aB;unfold Jt at ζ;refine sq (sg ⟨_,au _,λ_=>ct ζ (λhb ζ=>?_) λhb ζ=>?_⟩)
  .refine sk (Ok.dy (λv2=>⟨Ψ [(0,.s (mI c)),(6,.o 16),(7,.b 7 0),(8,.o 20),(9,vi s1.1)],[(16,.own 4 1 (mH v2.1)),(7,.box (k0 c 0 0)),(20,.own 3 1 (mB v2.2))]⟩) (λv2=>BI s1 v2=V y1) ?_ ?_)
   .have⟨x1,Θ,ζ⟩:=ι ζ;have⟨x2,ar,ζ⟩:=ι ζ;refine bl (sq (Ok.iG (m:=10) (late:=[8]) (MD:=⟨[]⟩) (CH:=⟨[]⟩) tok mixed (by kernel_rfl) ⟨_,⟨_,rfl,rfl⟩,_,rfl,_,rfl,_,⟨_,aO Θ,ll Θ,rfl⟩,_,⟨_,aP Θ,rfl,_,rfl,rfl⟩,_,⟨_,.dN (jd ar) lz,rfl⟩,_,rfl,_,rfl,_,rfl,Q0,_,rfl,⟨⟨_,rfl,rfl⟩,Q0⟩,sq (sg (ct ζ (λhb ζ=>?_) λhb ζ=>?_))⟩))
    .refine sg (rt ?_);have ζ:=aT ζ aB;cases ζ;exact(Fz.t (.cons (Fz.o rfl) fq))
    have⟨v3,aA,ζ⟩:=ι ζ;refine sk (sg (Ok.aD ⟨Ψ [(0,.s (mI c)),(6,.o 16),(7,.b 7 0),(8,.o 20),(9,vi s1.1),(10,.b 10 0),(12,vi v3)],[(16,.own 4 1 (mH s1.2.1)),(7,.box (k0 c 0 0)),(20,.own 3 1 (mB s1.2.2)),(10,.box (b4 x2.1))]⟩ ?_ ?_))
    .refine bl (Ok.loop (λ(s2:Int)=>⟨Ψ [(0,.s (mI c)),(6,.o 16),(7,.b 7 0),(8,.o 20),(9,vi s1.1),(10,.b 10 0),(12,vi s2)],[(16,.own 4 1 (mH s1.2.1)),(7,.box (k0 c 0 0)),(20,.own 3 1 (mB s1.2.2)),(10,.box (b4 x2.1))]⟩) (Ju c x2) (s0:=0) aA (wt Q7 ⟨hr,hr,hr,hr,Q0⟩ rfl) ?_);intro s2 y2 av eP;unfold Ju at av;have⟨x3,aL,av⟩:=ι av;refine sq (sq (dw 8 tok mixed ⟨_,rfl,_,rfl,_,⟨_,aO aL,_,aP aL,rfl⟩,_,rfl,_,⟨_,rfl,rfl⟩,_,rfl,_,⟨_,rfl,rfl⟩,_,rfl,Q0,ct av (λhb av=>?_) λhb av=>?_⟩))
     .have⟨aX,av⟩:=aq av;exact sk (bl (rg (ah ⟨aX,_,sj av,wt Q7 J4 rfl⟩)))
     refine xt ?_;have av:=aT av eP;cases av;exact wt Q7 J4 rfl
    have⟨x4,aZ,ζ⟩:=ι ζ;refine sq (sg ⟨_,aO aZ,ll aZ,_,aP aZ,rfl,_,rfl,ct ζ (λhb ζ=>?_) λhb ζ=>?_⟩)
    .exact xt ⟨_,ζ,wt Q5 ⟨hr,hr,hr,Q0⟩ rfl⟩
    have⟨x5,bT,ζ⟩:=ι ζ;refine sk (sg ⟨_,aO bT,ll bT,_,aP bT,rfl,_,rfl,_,zq (f:=cB) (x:=true),sg (bl (Ok.loop (λ(s3:Int×(List Int))=>⟨Ψ [(0,.s (mI c)),(6,.o 16),(7,.b 7 0),(8,.o 20),(9,vi s1.1),(10,.b 10 0),(13,vi s3.1)],[(16,.own 4 1 (mH (s1.2.1.set v3.toNat true))),(7,.box (k0 c 0 0)),(20,.own 3 1 (mB s3.2)),(10,.box (b4 x2.1))]⟩) (Fm x2 s1 v3) (s0:=(0,s1.2.2)) ζ (wt Q7 ⟨hr,hr,hr,hr,Q0⟩ rfl) ?_))⟩);intro s3 y3 bj qu;unfold Fm at bj;refine sq (sg ⟨_,rfl,_,au _,λ_=>ct bj (λhb bj=>?_) λhb bj=>?_⟩)
    .have⟨x6,dg,bj⟩:=ι bj;have⟨bY,bj⟩:=aq bj;have⟨dL,bj⟩:=aq bj;exact sk (sq (bl (rg ⟨_,rfl,_,aO dg,_,aP dg,_,rfl,ah ⟨c_ (f:=Go.Cat.encI) (n:=1) (λ_=>rfl) ([x6.κ]),c8 (f:=Go.Cat.encI) (l:=s3.2) (l':=[x6.κ]) bY,_,(bO (f:=Go.Cat.encI) (l₁:=s3.2) (l₂:=[x6.κ])).symm,rg (ah ⟨dL,_,sj bj,wt Q7 J4 rfl⟩)⟩⟩)))
    refine xt ?_;have bj:=aT bj qu;exact⟨_,bj,wt Q5 ⟨hr,hr,hr,Q0⟩ rfl⟩
   intro v2 ζ;unfold BI at ζ;have⟨fL,ζ⟩:=aq ζ;exact rg (ah ⟨fL,_,sj ζ,wt Q5 J3 rfl⟩)
  refine xt ?_;have ζ:=aT ζ aB;exact⟨_,ζ,wt Q1 ⟨hr,Q0⟩ rfl⟩
 intro v1 h;unfold Pq at h;cases h;exact sg (rt (Fz.t (.cons (Fz.o rfl) fq)))
def aiE{c d r}(h:Fb c d=V r):Pure prog 107 [.a (b1 c),vi d] (.t (VO r.1 r.2.1 r.2.2)):=by
 refine pq tok 72 func107 ?_;unfold Fb at h;refine sg (Ok.dy (λv1=>⟨Ψ [],[]⟩) (λv1=>Jn v1=V r) ?_ ?_)
 .refine sg (bl (Ok.loop (λ(s1:Int)=>⟨Ψ [(1,vi d),(2,.b 2 0),(7,vi s1)],[(2,.box (b1 c))]⟩) (Jl c d) (s0:=0) h (wt Q3 ⟨hr,Q0⟩ rfl) ?_));intro s1 y1 ζ aB;unfold Jl at ζ;refine sq (sg ⟨_,rfl,_,au _,λ_=>ct ζ (λhb ζ=>?_) λhb ζ=>?_⟩)
  .refine sk (Ok.dy (λv2=>⟨Ψ [(1,vi d),(2,.b 2 0),(7,vi s1)],[(2,.box (b1 c))]⟩) (λv2=>Jo s1 v2=V y1) ?_ ?_)
   .have⟨x1,Θ,ζ⟩:=ι ζ;refine bl (sq (sg ⟨_,rfl,_,aO Θ,_,aP Θ,_,rfl,ct ζ (λhb ζ=>?_) λhb ζ=>?_⟩))
    .exact xt ⟨_,ζ,wt Q3 ⟨hr,Q0⟩ rfl⟩
    have⟨x2,ar,ζ⟩:=ι ζ;have⟨x3,aL,ζ⟩:=ι ζ;have⟨x4,aZ,ζ⟩:=ι ζ;have⟨x5,bT,ζ⟩:=ι ζ;have⟨v3,aA,ζ⟩:=ι ζ;refine sk (sq (dw 9 tok mixed ⟨_,⟨_,rfl,rfl⟩,_,rfl,_,⟨_,rfl,rfl⟩,_,rfl,_,⟨_,aO ar,_,aP ar,rfl⟩,_,rfl,_,⟨_,rfl,rfl⟩,_,⟨_,.dN (aiH aL) lz,rfl⟩,_,rfl,Q0,sg ⟨_,rfl,_,aO aZ,_,aP aZ,_,rfl,Ω.call (aiJ bT) lz (sg (Or.inr (Ok.aD ⟨Ψ [(2,.b 2 0),(7,vi s1),(11,.o 47)],[(2,.box (b1 c)),(47,.own 44 6 (mI v3))]⟩ ?_ ?_)))⟩⟩))
    .refine sg (bl (Ok.loop (λ(s2:Int×(List τ))=>⟨Ψ [(2,.b 2 0),(7,vi s1),(8,.s (mI x3)),(9,.s (mH x5.1)),(11,.o 47),(12,vi s2.1)],[(2,.box (b1 c)),(47,.own 44 6 (mI s2.2))]⟩) (Jm x3 x5) (s0:=(0,([]:List τ))) aA (wt Q6 ⟨hr,hr,Q0⟩ rfl) ?_));intro s2 y2 av eP;unfold Jm at av;refine sq (sg ⟨_,au _,λ_=>ct av (λhb av=>?_) λhb av=>?_⟩)
     .have⟨v4,aU,av⟩:=ι av;refine sk (Ok.aD ⟨Ψ [(2,.b 2 0),(7,vi s1),(8,.s (mI x3)),(9,.s (mH x5.1)),(11,.o 47),(12,vi s2.1)],[(2,.box (b1 c)),(47,.own 44 6 (mI v4))]⟩ ?_ ?_)
      .have⟨x6,dg,aU⟩:=ι aU;refine bl (sg ⟨_,aO dg,_,aP dg,_,rfl,ct aU (λhb aU=>?_) λhb aU=>?_⟩)
       .have⟨x7,du,aU⟩:=ι aU;have⟨aj,aU⟩:=aq aU;refine rg ⟨_,aO du,_,aP du,_,rfl,ah ⟨c_ (f:=eM) (n:=6) (λ_=>rfl) ([x7]),c8 (f:=eM) (l:=s2.2) (l':=[x7]) aj,_,(bO (f:=eM) (l₁:=s2.2) (l₂:=[x7])).symm,?_⟩⟩;cases aU;exact wt Q6 J2 rfl
       refine sk ?_;cases aU;exact wt Q6 J2 rfl
      have⟨aX,av⟩:=aq av;exact rg (ah ⟨aX,_,sj av,wt Q6 J2 rfl⟩)
     refine xt ?_;have av:=aT av eP;cases av;exact wt Q3 J2 rfl
    have⟨x8,eJ,ζ⟩:=ι ζ;refine sg ⟨_,rfl,_,aO eJ,_,aP eJ,_,rfl,rt ?_⟩;have ζ:=aT ζ aB;cases ζ;exact(Fz.t (.cons Fz.v (.cons (Fz.o rfl) fq)))
   intro v2 ζ;unfold Jo at ζ;have⟨bY,ζ⟩:=aq ζ;exact rg (ah ⟨bY,_,sj ζ,wt Q3 J1 rfl⟩)
  refine xt ?_;have ζ:=aT ζ aB;exact⟨_,ζ,wt Q0 Q0 rfl⟩
 intro v1 h;unfold Jn at h;cases h;exact sg (rt (Fz.t (.cons Fz.v (.cons Fz.nil fq))))
def aiT{d c r}(h:FA d c=V r):Pure prog 52 [.a (b2 d),.a (lJ c)] (.a (iS r)):=by
 refine pq tok 122 func52 ?_;unfold FA at h;have⟨x1,Θ,h⟩:=ι h;refine sg (sg ⟨_,rfl,_,rfl,Ω.call (aiE Θ) lz (sq (sg (ct h (λhb h=>?_) λhb h=>?_)))⟩)
 .have⟨x2,ar,h⟩:=ι h;cases h;exact sg (Ω.call (kq ar) lz ⟨_,rfl,rt ⟨_,rfl,Fz.cP rfl⟩⟩)
 have⟨x3,aL,h⟩:=ι h;refine sk (sg ⟨_,rfl,Ω.call (Ku aL) lz (sq (sg (ct h (λhb h=>?_) λhb h=>?_)))⟩)
 .have⟨x4,aZ,h⟩:=ι h;cases h;exact sg (Ω.call (kq aZ) lz ⟨_,rfl,rt ⟨_,rfl,Fz.cP rfl⟩⟩)
 have⟨x5,bT,h⟩:=ι h;refine sk (sg ⟨_,rfl,sg ⟨_,rfl,Ω.call (jd bT) lz ⟨_,rfl,Ok.dy (λv1=>⟨Ψ [(4,.b 4 0),(10,.b 10 0)],[(4,.box (iL 0 0 0 0 0)),(10,.box (k8 v1.1 v1.2.1 v1.2.2.1 v1.2.2.2.1 v1.2.2.2.2.1 v1.2.2.2.2.2))]⟩) (λv1=>JI v1=V r) ?_ ?_⟩⟩⟩)
 .refine sg (bl (Ok.loop (λ(s1:Int×mr)=>⟨Ψ [(4,.b 4 0),(8,.s (mG x3.1)),(9,.b 9 0),(10,.b 10 0),(12,vi s1.1)],[(4,.box (iL 0 0 0 0 0)),(9,.box (k0 x1.2.1 0 0)),(10,.box (k8 s1.2.1 s1.2.2.1 s1.2.2.2.1 s1.2.2.2.2.1 s1.2.2.2.2.2.1 s1.2.2.2.2.2.2))]⟩) (JF x3 x1) (s0:=(0,x5.1.κ,x5.1.θ,x5.1.a_,x5.1.aK,x5.1.ψ,x5.1.Up)) h (wt Q5 ⟨hr,hr,hr,Q0⟩ rfl) ?_));intro s1 y1 ζ aB;unfold JF at ζ;refine sq (sg ⟨_,au _,λ_=>ct ζ (λhb ζ=>?_) λhb ζ=>?_⟩)
  .refine sk (Ok.dy (λv2=>⟨Ψ [(4,.b 4 0),(8,.s (mG x3.1)),(9,.b 9 0),(10,.b 10 0),(12,vi s1.1)],[(4,.box (iL 0 0 0 0 0)),(9,.box (k0 x1.2.1 0 0)),(10,.box (k8 v2.1 v2.2.1 v2.2.2.1 v2.2.2.2.1 v2.2.2.2.2.1 v2.2.2.2.2.2))]⟩) (λv2=>JJ s1 v2=V y1) ?_ ?_)
   .refine bl (sq (sg ⟨_,rfl,ct ζ (λhb ζ=>?_) λhb ζ=>?_⟩))
    .have⟨x6,dg,ζ⟩:=ι ζ;refine sg (Ω.call (kq dg) lz ⟨_,rfl,rt ?_⟩);have ζ:=aT ζ aB;cases ζ;exact⟨_,rfl,Fz.cP rfl⟩
    have⟨v3,aA,ζ⟩:=ι ζ;refine sk (sg (Ok.aD ⟨Ψ [(4,.b 4 0),(8,.s (mG x3.1)),(9,.b 9 0),(10,.b 10 0),(12,vi s1.1),(13,vi v3)],[(4,.box (iL 0 0 0 0 0)),(9,.box (k0 x1.2.1 0 0)),(10,.box (k8 s1.2.1 s1.2.2.1 s1.2.2.2.1 s1.2.2.2.2.1 s1.2.2.2.2.2.1 s1.2.2.2.2.2.2))]⟩ ?_ ?_))
    .refine sg (bl (Ok.loop (λ(s2:Int×Int)=>⟨Ψ [(4,.b 4 0),(8,.s (mG x3.1)),(9,.b 9 0),(10,.b 10 0),(12,vi s1.1),(13,vi s2.1),(14,vi s2.2)],[(4,.box (iL 0 0 0 0 0)),(9,.box (k0 x1.2.1 0 0)),(10,.box (k8 s1.2.1 s1.2.2.1 s1.2.2.2.1 s1.2.2.2.2.1 s1.2.2.2.2.2.1 s1.2.2.2.2.2.2))]⟩) (JG s1 x3) (s0:=(0,0)) aA (wt Q7 ⟨hr,hr,hr,Q0⟩ rfl) ?_));intro s2 y2 av eP;unfold JG at av;refine sq (sg ⟨_,rfl,_,au _,λ_=>ct av (λhb av=>?_) λhb av=>?_⟩)
     .have⟨v4,aU,av⟩:=ι av;refine sk (Ok.aD ⟨Ψ [(4,.b 4 0),(8,.s (mG x3.1)),(9,.b 9 0),(10,.b 10 0),(12,vi s1.1),(13,vi v4),(14,vi s2.2)],[(4,.box (iL 0 0 0 0 0)),(9,.box (k0 x1.2.1 0 0)),(10,.box (k8 s1.2.1 s1.2.2.1 s1.2.2.2.1 s1.2.2.2.2.1 s1.2.2.2.2.2.1 s1.2.2.2.2.2.2))]⟩ ?_ ?_)
      .have⟨x7,du,aU⟩:=ι aU;have⟨x8,eJ,aU⟩:=ι aU;refine bl (sq (dw 11 tok mixed ⟨_,rfl,_,⟨_,rfl,rfl⟩,_,rfl,_,⟨_,aO du,_,aP du,rfl⟩,_,rfl,_,⟨_,rfl,rfl⟩,_,rfl,_,rfl,_,⟨_,aO eJ,_,aP eJ,rfl⟩,_,⟨_,rfl,rfl⟩,_,⟨_,oh _ _,rfl⟩,Q0,ct aU (λhb aU=>?_) λhb aU=>?_⟩))
       .have⟨x9,ga,aU⟩:=ι aU;refine rg ⟨_,rfl,_,aO ga,_,aP ga,_,rfl,?_⟩;cases aU;exact wt Q7 J3 rfl
       refine sk ?_;cases aU;exact wt Q7 J3 rfl
      have⟨aj,av⟩:=aq av;exact rg (ah ⟨aj,_,sj av,wt Q7 J3 rfl⟩)
     refine xt ?_;have av:=aT av eP;cases av;exact wt Q6 J3 rfl
    have⟨dI,gQ,ζ⟩:=ι ζ;refine sg ⟨_,rfl,Ω.call (jd gQ) lz ⟨_,rfl,sq (sg (ct ζ (λhb ζ=>?_) λhb ζ=>?_))⟩⟩
    .have⟨ez,jT,ζ⟩:=ι ζ;refine sg (Ω.call (kq jT) lz ⟨_,rfl,rt ?_⟩);have ζ:=aT ζ aB;cases ζ;exact⟨_,rfl,Fz.cP rfl⟩
    exact sk (rg ⟨_,rfl,_,rfl,_,ζ,wt Q5 ⟨hr,hr,hr,Q0⟩ rfl⟩)
   intro v2 ζ;unfold JJ at ζ;have⟨aX,ζ⟩:=aq ζ;exact rg (ah ⟨aX,_,sj ζ,wt Q5 J3 rfl⟩)
  refine xt ?_;have ζ:=aT ζ aB;exact⟨_,ζ,wt Q2 ⟨hr,hr,Q0⟩ rfl⟩
 intro v1 h;unfold JI at h;have⟨v5,bh,h⟩:=ι h;refine sg (Ok.aD ⟨Ψ [(4,.b 4 0),(10,.b 10 0),(17,.o 109)],[(4,.box (iL 0 0 0 0 0)),(10,.box (k8 v1.1 v1.2.1 v1.2.2.1 v1.2.2.2.1 v1.2.2.2.2.1 v1.2.2.2.2.2)),(109,.own 9 1 (mG v5))]⟩ ?_ ?_)
 .refine sg (bl (Ok.loop (λ(s3:Int×(List (List UInt8)))=>⟨Ψ [(4,.b 4 0),(10,.b 10 0),(17,.o 109),(18,vi s3.1)],[(4,.box (iL 0 0 0 0 0)),(10,.box (k8 v1.1 v1.2.1 v1.2.2.1 v1.2.2.2.1 v1.2.2.2.2.1 v1.2.2.2.2.2)),(109,.own 9 1 (mG s3.2))]⟩) (JH v1) (s0:=(0,[])) bh ((Wk.oW (t:=17) (id:=109) (E:=9) (K:=1) rfl rfl).trans (wt Q4 ⟨hr,hr,hr,Q0⟩ rfl)) ?_));intro s3 y3 bj qu;unfold JH at bj;refine sq (sg ⟨_,rfl,_,au _,λ_=>ct bj (λhb bj=>?_) λhb bj=>?_⟩)
  .have⟨dU,kb,bj⟩:=ι bj;have⟨bY,bj⟩:=aq bj;have⟨dL,bj⟩:=aq bj;exact sk (sq (bl (rg ⟨_,rfl,_,aO kb,_,aP kb,_,rfl,ah ⟨c_ (f:=fg) (n:=1) (λ_=>rfl) ([dU.aC]),c8 (f:=fg) (l:=s3.2) (l':=[dU.aC]) bY,_,(bO (f:=fg) (l₁:=s3.2) (l₂:=[dU.aC])).symm,rg (ah ⟨dL,_,sj bj,wt Q4 J3 rfl⟩)⟩⟩)))
  refine xt ?_;have bj:=aT bj qu;cases bj;exact wt Q3 J3 rfl
 have⟨fy,nV,h⟩:=ι h;cases h;exact sq (dw 12 tok mixed ⟨_,rfl,_,⟨_,rfl,rfl⟩,_,rfl,_,⟨_,rfl,rfl⟩,_,rfl,_,⟨_,rfl,rfl⟩,_,⟨_,rfl,rfl⟩,_,⟨_,.dN (Zh nV) lz,rfl⟩,_,rfl,_,rfl,_,⟨_,rfl,rfl⟩,_,rfl,Q0,_,rfl,rt ⟨_,rfl,Fz.a (.cons Fz.v (.cons Fz.v (.cons Fz.v (.cons Fz.v (.cons Fz.v (.cons (Fz.o rfl) (.cons Fz.s .nil)))))))⟩⟩)
end Go.Proofs
