/- The walks of this seat beside the plain programs, part 7. No condition. -/
import Derived.Test.YtdcgbodbejgliaaGreatDoorXTopListedWk6
open List renaming length_map → au, map_append → bP
open Or renaming inl → af
namespace Go.Proofs
set_option linter.all false
open Go Go.Cat Tryz
variable [M:bU] [K:LK]
set_option maxRecDepth 100000
set_option maxHeartbeats 4000000
def ae2 {c d e r} (h:BC c d e=some r):Pure prog 94 [.a (b0 c),vi d,vs e] (.t [.a (b0 r.1),vi r.2.1,vi r.2.2]):=by
 refine pq tok 42 func94 ?_;unfold BC at h;refine sg (sg ?_);have ⟨x1,θ,h⟩:=η h;refine ⟨_,rfl,?_⟩;refine Θ.call (GL θ) lz ?_;refine sq (sg ?_);refine ct h (fun hb h=>?_) fun hb h=>?_
 ·refine sg ⟨_,rfl,_,rfl,?_⟩;refine rt ?_;cases h;exact ⟨_,rfl,Fz.t fq⟩
 refine sk (sg ?_);have ⟨x2,aq,h⟩:=η h;refine ⟨_,rfl,?_⟩;refine Θ.call (g_ aq) lz ?_;refine ⟨_,rfl,?_⟩;refine sq (sg ?_);refine ⟨_,rfl,_,au _,fun _=>?_⟩;refine ct h (fun hb h=>?_) fun hb h=>?_
 ·refine sg ⟨_,rfl,_,rfl,?_⟩;refine rt ?_;cases h;exact ⟨_,rfl,Fz.t fq⟩
 refine sk (sg ?_);have ⟨x3,aF,h⟩:=η h;refine ⟨_,rfl,?_⟩;refine Θ.call (NH aF) lz ?_;have ⟨x4,aV,h⟩:=η h;refine Θ.call (Vb aV) lz ?_;refine ⟨_,rfl,?_⟩;refine rt ?_;cases h;exact ⟨_,rfl,Fz.t fq⟩
def U9 {c e d r} (h:yF c e d=some r):Pure prog 149 [.a (b0 c),vi e,vi d] (vb r):=by
 refine pq tok 30 func149 ?_;unfold yF at h;refine sg (Ok.cU (fun v1=>⟨Γ [],[]⟩) (fun v1=>Lm v1=some r) ?_ ?_)
 ·refine sg (bl (Ok.loop (fun (s1:Int×Int)=>⟨Γ [(1,vi s1.1),(2,vi d),(3,.b 3 0),(7,vi s1.2)],[(3,.box (b0 c))]⟩) (tL c d) (s0:=(e,0)) h (wt Q4 ⟨hr,Q0⟩ rfl) ?_));intro s1 y1 ζ az;unfold tL at ζ;refine sq (sg ?_);refine ⟨_,rfl,_,au _,fun _=>?_⟩;refine ct ζ (fun hb ζ=>?_) fun hb ζ=>?_
  ·refine sk (sq (bl (sq (sg ?_))));refine ct ζ (fun hb ζ=>?_) fun hb ζ=>?_
   ·refine sg (rt ?_);have ζ:=aN ζ az;cases ζ;exact Fz.v
   refine sk (sq (sg ?_));refine ct ζ (fun hb ζ=>?_) fun hb ζ=>?_
   ·refine sg (rt ?_);have ζ:=aN ζ az;cases ζ;exact Fz.v
   refine sk (sg ?_);have ⟨x1,θ,ζ⟩:=η ζ;refine ⟨_,rfl,?_⟩;refine Θ.call (g_ θ) lz ?_;refine ⟨_,rfl,?_⟩;refine rg ⟨_,rfl,?_⟩;refine rg ?_;have ⟨ah,ζ⟩:=ak ζ;refine (af ⟨ah,?_⟩);exact ⟨_,sj ζ,wt Q4 J1 rfl⟩
  refine xt ?_;have ζ:=aN ζ az;exact ⟨_,ζ,wt Q0 Q0 rfl⟩
 intro v1 h;unfold Lm at h;refine sg (rt ?_);cases h;exact Fz.v
def ae3 {d c e r} (h:BD d c e=some r):Pure prog 150 [.a (b0 d),.a (b4 c),vi e] (vi r):=by
 refine pq tok 37 func150 ?_;unfold BD at h;refine sg (sg ?_);have ⟨x1,θ,h⟩:=η h;refine ⟨_,rfl,?_⟩;refine Θ.call (g_ θ) lz ?_;refine ⟨_,rfl,?_⟩;refine sq (sg ?_);refine ct h (fun hb h=>?_) fun hb h=>?_
 ·refine sg (rt ?_);cases h;exact Fz.v
 refine sk (sq ?_);have ⟨v1,ν,h⟩:=η h;refine Ok.aB ⟨Γ [(4,.b 4 0),(7,.b 7 0),(24,vb v1)],[(4,.box (b4 c)),(7,.box (b4 x1.1))]⟩ ?_ ?_
 ·refine rg ⟨_,rfl,?_⟩;have ⟨c1,ξ,ν⟩:=η ν;refine Br.ite ξ (fun hb ξ=>?_) fun hb ξ=>?_
  ·refine ⟨_,rfl,?_⟩;cases ξ;cases ν;exact wt Q3 J2 rfl
  cases ξ;cases ν;exact wt Q3 J2 rfl
 refine ct h (fun hb h=>?_) fun hb h=>?_
 ·refine sg (rt ?_);cases h;exact Fz.v
 refine sk (sq ?_);have ⟨v2,Δ,h⟩:=η h;refine Ok.aB ⟨Γ [(7,.b 7 0),(32,vb v2)],[(7,.box (b4 x1.1))]⟩ ?_ ?_
 ·refine rg ⟨_,rfl,?_⟩;have ⟨c2,ax,Δ⟩:=η Δ;refine Br.ite ax (fun hb ax=>?_) fun hb ax=>?_
  ·refine ⟨_,rfl,?_⟩;cases ax;cases Δ;exact wt Q2 J1 rfl
  cases ax;cases Δ;exact wt Q2 J1 rfl
 refine ct h (fun hb h=>?_) fun hb h=>?_
 ·refine sg (rt ?_);cases h;exact Fz.v
 refine sk (sq (sg ?_));refine ⟨_,rfl,_,au _,fun _=>?_⟩;refine ct h (fun hb h=>?_) fun hb h=>?_
 ·refine sg (rt ?_);cases h;exact Fz.v
 refine sk (sg ?_);refine rt ?_;cases h;exact Fz.v
def NG {c e d r} (h:wi c e d=some r):Pure prog 152 [.a (b0 c),vi e,vi d] (vi r):=by
 refine pq tok 55 func152 ?_;unfold wi at h;refine sg (sg (sg ?_));have ⟨x1,θ,h⟩:=η h;refine ⟨_,rfl,?_⟩;refine Θ.call (GM θ) lz ?_;have ⟨v1,ν,h⟩:=η h;refine Ok.aB ⟨Γ [(7,vi v1)],[]⟩ ?_ ?_
 ·refine sg (bl (Ok.loop (fun (s1:Int×Int)=>⟨Γ [(1,vi e),(2,vi d),(3,.b 3 0),(7,vi s1.1),(8,vi x1),(9,vi s1.2)],[(3,.box (b0 c))]⟩) (BH c e d x1) (s0:=(0,0)) ν (wt Q6 ⟨hr,Q0⟩ rfl) ?_));intro s1 y1 ζ az;unfold BH at ζ;refine sq (sg ?_);refine ⟨_,rfl,_,au _,fun _=>?_⟩;refine ct ζ (fun hb ζ=>?_) fun hb ζ=>?_
  ·refine sk ?_;have ⟨v2,Δ,ζ⟩:=η ζ;refine Ok.aB ⟨Γ [(1,vi e),(2,vi d),(3,.b 3 0),(7,vi v2),(8,vi x1),(9,vi s1.2)],[(3,.box (b0 c))]⟩ ?_ ?_
   ·refine bl (sg ?_);have ⟨x2,aq,Δ⟩:=η Δ;refine ⟨_,rfl,_,aI aq,_,aK aq,_,rfl,_,rfl,?_⟩;have ⟨v3,aA,Δ⟩:=η Δ;refine Ok.aB ⟨Γ [(1,vi e),(2,vi d),(3,.b 3 0),(7,vi s1.1),(8,vi x1),(9,vi s1.2),(10,.b 10 0),(36,vb v3)],[(3,.box (b0 c)),(10,.box (b4 x2))]⟩ ?_ ?_
    ·refine rg ⟨_,rfl,?_⟩;have ⟨c1,ξ,aA⟩:=η aA;refine Br.ite ξ (fun hb ξ=>?_) fun hb ξ=>?_
     ·have ⟨x3,aF,ξ⟩:=η ξ;refine ⟨_,rfl,_,rfl,?_⟩;refine Θ.call (U9 aF) lz ?_;cases ξ;cases aA;exact wt Q8 J2 rfl
     cases ξ;cases aA;exact wt Q8 J2 rfl
    refine ct Δ (fun hb Δ=>?_) fun hb Δ=>?_
    ·refine sg ?_;have ⟨x4,aV,Δ⟩:=η Δ;refine ⟨_,rfl,_,rfl,?_⟩;refine Θ.call (GM aV) lz ?_;have ⟨ah,Δ⟩:=ak Δ;have ⟨aQ,Δ⟩:=ak Δ;refine (af ⟨ah,af ⟨aQ,?_⟩⟩);have ⟨v4,aO,Δ⟩:=η Δ;refine Ok.aB ⟨Γ [(1,vi e),(2,vi d),(3,.b 3 0),(7,vi s1.1),(8,vi x1),(9,vi s1.2),(11,vi v4)],[(3,.box (b0 c))]⟩ ?_ ?_
     ·refine sg ⟨_,rfl,_,au _,fun _=>?_⟩;refine ct aO (fun hb aO=>?_) fun hb aO=>?_
      ·refine rg ?_;have ⟨bN,aO⟩:=ak aO;refine (af ⟨bN,?_⟩);cases aO;exact wt Q7 J1 rfl
      refine sk ?_;cases aO;exact wt Q7 J1 rfl
     refine rg ⟨max s1.1 v4,rfl,?_⟩;cases Δ;exact wt Q6 J1 rfl
    refine sk ?_;cases Δ;exact wt Q6 J1 rfl
   refine rg ?_;have ⟨c8,ζ⟩:=ak ζ;refine (af ⟨c8,?_⟩);exact ⟨_,sj ζ,wt Q6 J1 rfl⟩
  refine xt ?_;have ζ:=aN ζ az;cases ζ;exact wt Q1 Q0 rfl
 refine sg (rt ?_);cases h;exact Fz.v
def aeX {c f g d e r} (h:Bw c f g d e=some r):Pure prog 96 [.a (b0 c),vi f,vs g,vi d,vs e] (.t [.a (b0 r.1),vi r.2.1,vi r.2.2]):=by
 refine pq tok 151 func96 ?_;unfold Bw at h;refine sg (sg ?_);have ⟨x1,θ,h⟩:=η h;refine ⟨_,rfl,?_⟩;refine Θ.call (GL θ) lz ?_;refine sq (sg ?_);refine ct h (fun hb h=>?_) fun hb h=>?_
 ·refine sg ⟨_,rfl,_,rfl,?_⟩;refine rt ?_;cases h;exact ⟨_,rfl,Fz.t fq⟩
 refine sk (sg ?_);have ⟨x2,aq,h⟩:=η h;refine ⟨_,rfl,?_⟩;refine Θ.call (GN aq) lz ?_;refine ⟨_,rfl,?_⟩;refine sq (sg ?_);refine ct h (fun hb h=>?_) fun hb h=>?_
 ·refine sg ⟨_,rfl,_,rfl,?_⟩;refine rt ?_;cases h;exact ⟨_,rfl,Fz.t fq⟩
 refine sk (sq (sg ?_));have ⟨x3,aF,h⟩:=η h;refine Θ.call (GJ aF) lz ?_;refine ct h (fun hb h=>?_) fun hb h=>?_
 ·refine sg ⟨_,rfl,_,rfl,?_⟩;refine rt ?_;cases h;exact ⟨_,rfl,Fz.t fq⟩
 refine sk (sg ?_);refine sg ?_;have ⟨x4,aV,h⟩:=η h;refine ⟨_,rfl,?_⟩;refine Θ.call (NI aV) lz ?_;have ⟨v1,ν,h⟩:=η h;refine Ok.aB ⟨Γ [(1,vi f),(2,vs g),(3,vi d),(4,vs e),(5,.b 5 0),(10,.b 10 0),(13,vi x1.1),(15,.b 15 0),(16,vi v1)],[(5,.box (b0 c)),(10,.box (k1 0 0)),(15,.box (b4 x2.1))]⟩ ?_ ?_
 ·refine sg (ct ν (fun hb ν=>?_) fun hb ν=>?_)
  ·refine rg ?_;have ⟨x5,bJ,ν⟩:=η ν;refine ⟨_,rfl,_,aI bJ,_,aK bJ,_,rfl,?_⟩;cases ν;exact wt ⟨lr,Q8⟩ J3 rfl
  refine sk ?_;cases ν;exact wt ⟨lr,Q8⟩ J3 rfl
 refine sq (sg ?_);refine ct h (fun hb h=>?_) fun hb h=>?_
 ·refine sg ⟨_,rfl,_,rfl,?_⟩;refine rt ?_;cases h;exact ⟨_,rfl,Fz.t fq⟩
 refine sk (sg ?_);have ⟨x6,cK,h⟩:=η h;refine ⟨_,rfl,?_⟩;refine Θ.call (g_ cK) lz ?_;refine ⟨_,rfl,?_⟩;refine sq ?_;have ⟨v2,Δ,h⟩:=η h;refine Ok.aB ⟨Γ [(1,vi f),(2,vs g),(3,vi d),(4,vs e),(5,.b 5 0),(10,.b 10 0),(13,vi x1.1),(15,.b 15 0),(16,vi v1),(18,.b 18 0),(76,vb v2)],[(5,.box (b0 c)),(10,.box (k1 0 0)),(15,.box (b4 x2.1)),(18,.box (b4 x6.1))]⟩ ?_ ?_
 ·refine rg ⟨_,rfl,?_⟩;have ⟨c1,ξ,Δ⟩:=η Δ;refine Br.ite ξ (fun hb ξ=>?_) fun hb ξ=>?_
  ·have ⟨x7,cP,ξ⟩:=η ξ;refine ⟨_,rfl,?_⟩;refine Θ.call (U9 cP) lz ?_;cases ξ;cases Δ;exact wt ⟨lr,lr,lr,Q8⟩ J4 rfl
  cases ξ;cases Δ;exact wt ⟨lr,lr,lr,Q8⟩ J4 rfl
 refine ct h (fun hb h=>?_) fun hb h=>?_
 ·refine sg ⟨_,rfl,_,rfl,?_⟩;refine rt ?_;cases h;exact ⟨_,rfl,Fz.t fq⟩
 refine sk (sg ?_);have ⟨x8,ew,h⟩:=η h;refine ⟨_,rfl,_,rfl,?_⟩;refine Θ.call (ae3 ew) lz ?_;refine sq (sg ?_);refine ct h (fun hb h=>?_) fun hb h=>?_
 ·refine sg ⟨_,rfl,_,rfl,?_⟩;refine rt ?_;cases h;exact ⟨_,rfl,Fz.t fq⟩
 refine sk (sg ?_);have ⟨x9,fi,h⟩:=η h;refine ⟨_,rfl,?_⟩;refine Θ.call (GM fi) lz ?_;refine sq ?_;have ⟨v3,aA,h⟩:=η h;refine Ok.aB ⟨Γ [(1,vi f),(2,vs g),(3,vi d),(4,vs e),(5,.b 5 0),(10,.b 10 0),(13,vi x1.1),(16,vi v1),(18,.b 18 0),(123,vb v3)],[(5,.box (b0 c)),(10,.box (k1 0 0)),(18,.box (b4 x6.1))]⟩ ?_ ?_
 ·refine rg ?_;have ⟨c2,ax,aA⟩:=η aA;refine Br.ite ax (fun hb ax=>?_) fun hb ax=>?_
  ·cases ax;have ⟨c3,aL,aA⟩:=η aA;refine Br.ite aL (fun hb aL=>?_) fun hb aL=>?_
   ·refine ⟨_,rfl,_,au _,fun _=>?_⟩;cases aL;have ⟨c4,bI,aA⟩:=η aA;refine Br.cO bI (fun hb bI=>?_) fun hb bI=>?_
    ·cases bI;have ⟨c6,bZ,aA⟩:=η aA;replace bZ:=fu bZ;cases bZ;have ⟨c7,cI,aA⟩:=η aA;replace cI:=fu cI;cases cI;cases aA;exact wt ⟨lr,lr,Q8⟩ J3 rfl
    cases bI;have ⟨c6,cQ,aA⟩:=η aA;refine Br.cO cQ (fun hb cQ=>?_) fun hb cQ=>?_
    ·cases cQ;have ⟨c7,dq,aA⟩:=η aA;replace dq:=fu dq;cases dq;cases aA;exact wt ⟨lr,lr,Q8⟩ J3 rfl
    refine ⟨_,rfl,?_⟩;have ⟨c5,dE,cQ⟩:=η cQ;refine Br.ite dE (fun hb dE=>?_) fun hb dE=>?_
    ·have ⟨ah,dE⟩:=ak dE;have ⟨cR,fR,dE⟩:=η dE;refine ⟨_,rfl,af ⟨ah,?_⟩⟩;refine Θ.call (NG fR) lz ?_;cases dE;cases cQ;have ⟨c7,ep,aA⟩:=η aA;refine Br.cO ep (fun hb ep=>?_) fun hb ep=>?_
     ·cases ep;cases aA;exact wt ⟨lr,lr,Q8⟩ J3 rfl
     refine ⟨_,rfl,?_⟩;cases ep;cases aA;exact wt ⟨lr,lr,Q8⟩ J3 rfl
    cases dE;cases cQ;have ⟨c7,jh,aA⟩:=η aA;replace jh:=c9 jh;refine ⟨_,rfl,?_⟩;cases jh;cases aA;exact wt ⟨lr,lr,Q8⟩ J3 rfl
   cases aL;have ⟨c4,jS,aA⟩:=η aA;replace jS:=c9 jS;cases jS;have ⟨c6,jv,aA⟩:=η aA;refine Br.cO jv (fun hb jv=>?_) fun hb jv=>?_
   ·cases jv;have ⟨c7,l7,aA⟩:=η aA;replace l7:=fu l7;cases l7;cases aA;exact wt ⟨lr,lr,Q8⟩ J3 rfl
   refine ⟨_,rfl,?_⟩;have ⟨c5,ji,jv⟩:=η jv;refine Br.ite ji (fun hb ji=>?_) fun hb ji=>?_
   ·have ⟨ah,ji⟩:=ak ji;have ⟨cR,fR,ji⟩:=η ji;refine ⟨_,rfl,af ⟨ah,?_⟩⟩;refine Θ.call (NG fR) lz ?_;cases ji;cases jv;have ⟨c7,ru,aA⟩:=η aA;refine Br.cO ru (fun hb ru=>?_) fun hb ru=>?_
    ·cases ru;cases aA;exact wt ⟨lr,lr,Q8⟩ J3 rfl
    refine ⟨_,rfl,?_⟩;cases ru;cases aA;exact wt ⟨lr,lr,Q8⟩ J3 rfl
   cases ji;cases jv;have ⟨c7,uZ,aA⟩:=η aA;replace uZ:=c9 uZ;refine ⟨_,rfl,?_⟩;cases uZ;cases aA;exact wt ⟨lr,lr,Q8⟩ J3 rfl
  cases ax;have ⟨c3,u_,aA⟩:=η aA;replace u_:=c9 u_;cases u_;have ⟨c4,vd,aA⟩:=η aA;replace vd:=c9 vd;cases vd;have ⟨c6,oD,aA⟩:=η aA;refine Br.cO oD (fun hb oD=>?_) fun hb oD=>?_
  ·cases oD;have ⟨c7,ve,aA⟩:=η aA;replace ve:=fu ve;cases ve;cases aA;exact wt ⟨lr,lr,Q8⟩ J3 rfl
  refine ⟨_,rfl,?_⟩;have ⟨c5,rv,oD⟩:=η oD;refine Br.ite rv (fun hb rv=>?_) fun hb rv=>?_
  ·have ⟨ah,rv⟩:=ak rv;have ⟨cR,fR,rv⟩:=η rv;refine ⟨_,rfl,af ⟨ah,?_⟩⟩;refine Θ.call (NG fR) lz ?_;cases rv;cases oD;have ⟨c7,Aw,aA⟩:=η aA;refine Br.cO Aw (fun hb Aw=>?_) fun hb Aw=>?_
   ·cases Aw;cases aA;exact wt ⟨lr,lr,Q8⟩ J3 rfl
   refine ⟨_,rfl,?_⟩;cases Aw;cases aA;exact wt ⟨lr,lr,Q8⟩ J3 rfl
  cases rv;cases oD;have ⟨c7,Jk,aA⟩:=η aA;replace Jk:=c9 Jk;refine ⟨_,rfl,?_⟩;cases Jk;cases aA;exact wt ⟨lr,lr,Q8⟩ J3 rfl
 refine ct h (fun hb h=>?_) fun hb h=>?_
 ·refine sg ⟨_,rfl,_,rfl,?_⟩;refine rt ?_;cases h;exact ⟨_,rfl,Fz.t fq⟩
 refine sk (sg ?_);have ⟨ei,jA,h⟩:=η h;refine ⟨_,rfl,?_⟩;refine Θ.call (NH jA) lz ?_;refine ⟨_,rfl,?_⟩;have ⟨v4,aO,h⟩:=η h;refine Ok.aB ⟨Γ [(3,vi d),(4,vs e),(10,.b 10 0),(13,vi x1.1),(16,vi v1),(18,.b 18 0),(21,.b 21 0)],[(10,.box (k1 0 0)),(18,.box (b4 x6.1)),(21,.box (k0 v4.1 v4.2.1 v4.2.2))]⟩ ?_ ?_
 ·refine sg (ct aO (fun hb aO=>?_) fun hb aO=>?_)
  ·refine rg ?_;have ⟨dG,jW,aO⟩:=η aO;refine ⟨_,rfl,?_⟩;refine Θ.call (NH jW) lz ?_;have ⟨fx,nU,aO⟩:=η aO;refine Θ.call (Vb nU) lz ?_;refine ⟨_,rfl,?_⟩;cases aO;exact wt Q7 J3 rfl
  refine sk ?_;cases aO;exact wt Q7 J3 rfl
 have ⟨v5,bg,h⟩:=η h;refine Ok.aB ⟨Γ [(3,vi d),(4,vs e),(10,.b 10 0),(13,vi x1.1),(16,vi v1),(21,.b 21 0)],[(10,.box (k1 0 0)),(21,.box (k0 v5.1 v5.2.1 v5.2.2))]⟩ ?_ ?_
 ·refine sg ⟨_,rfl,?_⟩;refine ct bg (fun hb bg=>?_) fun hb bg=>?_
  ·refine sg ⟨_,rfl,?_⟩;refine rg ?_;have ⟨j2,th,bg⟩:=η bg;refine ⟨_,rfl,_,rfl,?_⟩;refine Θ.call (wR th) lz ?_;refine ⟨_,rfl,?_⟩;cases bg;exact wt Q6 J2 rfl
  refine sk ?_;cases bg;exact wt Q6 J2 rfl
 refine sg ?_;have ⟨qQ,AW,h⟩:=η h;refine ⟨_,rfl,?_⟩;refine Θ.call (NF AW) lz ?_;refine ⟨_,rfl,?_⟩;refine rt ?_;cases h;exact ⟨_,rfl,Fz.t fq⟩
def afp {c d r} (h:Ca c d=some r):Pure prog 49 [.a (b2 c),.a (j_ d)] (.t [.a (b2 r.1),.a (kb r.2)]):=by
 refine pq tok 196 func49 ?_;unfold Ca at h;refine sg (sg ⟨_,rfl,_,rfl,?_⟩);refine sq (sg ?_);refine ⟨_,rfl,?_⟩;refine ct h (fun hb h=>?_) fun hb h=>?_
 ·refine sg ?_;have ⟨x1,θ,h⟩:=η h;refine ⟨_,rfl,_,rfl,?_⟩;refine Θ.call (ND θ) lz ?_;refine sq (sg ?_);refine ct h (fun hb h=>?_) fun hb h=>?_
  ·refine sq (dw 3 tok mixed ?_);have ⟨x2,aq,h⟩:=η h;refine ⟨_,⟨_,rfl,rfl⟩,_,rfl,_,⟨_,.dz (jr aq) lz,rfl⟩,Q0,_,rfl,_,rfl,?_⟩;refine rt ?_;cases h;exact ⟨_,rfl,_,rfl,Fz.t fq⟩
  refine sk (sg ?_);have ⟨x3,aF,h⟩:=η h;refine ⟨_,rfl,_,rfl,?_⟩;refine Θ.call (NL aF) lz ?_;refine sq (sg ?_);refine ct h (fun hb h=>?_) fun hb h=>?_
  ·refine sq (dw 3 tok mixed ?_);have ⟨x4,aV,h⟩:=η h;refine ⟨_,⟨_,rfl,rfl⟩,_,rfl,_,⟨_,.dz (jr aV) lz,rfl⟩,Q0,_,rfl,_,rfl,?_⟩;refine rt ?_;cases h;exact ⟨_,rfl,_,rfl,Fz.t fq⟩
  refine sk (sg ?_);have ⟨x5,bJ,h⟩:=η h;refine ⟨_,rfl,?_⟩;refine Θ.call (aeW bJ) lz ?_;refine ⟨_,rfl,?_⟩;refine sg ?_;have ⟨x6,cK,h⟩:=η h;refine ⟨_,rfl,_,rfl,_,rfl,?_⟩;refine Θ.call (wS cK) (l4 (.cons (Le.a (l4 (l1 (.cons (Le.nil) (.cons (Le.nil) .nil))))) .nil)) ?_;refine ⟨_,rfl,_,rfl,?_⟩;refine sq (Ok.gP (m:=2) (late:=[1]) (MD:=⟨[]⟩) (CH:=⟨[]⟩) tok mixed (by kernel_rfl) ?_);refine ⟨_,⟨_,rfl,rfl⟩,_,⟨_,rfl,rfl⟩,Q0,?_⟩;refine ⟨_,rfl,⟨⟨_,rfl,_,rfl,rfl⟩,Q0⟩,_,rfl,?_⟩;refine rt ?_;cases h;exact ⟨_,rfl,_,rfl,Fz.t fq⟩
 refine sk (sg ?_);have ⟨x7,cP,h⟩:=η h;refine ⟨_,rfl,_,rfl,?_⟩;refine Θ.call (NL cP) lz ?_;refine sq (sg ?_);refine ct h (fun hb h=>?_) fun hb h=>?_
 ·refine sq (dw 3 tok mixed ?_);have ⟨x8,ew,h⟩:=η h;refine ⟨_,⟨_,rfl,rfl⟩,_,rfl,_,⟨_,.dz (jr ew) lz,rfl⟩,Q0,_,rfl,_,rfl,?_⟩;refine rt ?_;cases h;exact ⟨_,rfl,_,rfl,Fz.t fq⟩
 refine sk (sq (sg ?_));refine ⟨_,rfl,?_⟩;refine bl (sg ?_);refine ct h (fun hb h=>?_) fun hb h=>?_
 ·refine sg ?_;have ⟨x9,fi,h⟩:=η h;refine ⟨_,rfl,_,rfl,?_⟩;refine Θ.call (aeU fi) lz ?_;refine ⟨_,rfl,?_⟩;refine sg ?_;have ⟨cR,fR,h⟩:=η h;refine ⟨_,rfl,_,rfl,_,rfl,_,rfl,?_⟩;refine Θ.call (wS fR) (l4 (.cons (Le.a (l4 (l1 (.cons (Le.nil) (.cons (Le.nil) .nil))))) .nil)) ?_;refine ⟨_,rfl,_,rfl,?_⟩;refine sq (Ok.gP (m:=2) (late:=[1]) (MD:=⟨[]⟩) (CH:=⟨[]⟩) tok mixed (by kernel_rfl) ?_);refine ⟨_,⟨_,rfl,rfl⟩,_,⟨_,rfl,rfl⟩,Q0,?_⟩;refine ⟨_,rfl,⟨⟨_,rfl,_,rfl,rfl⟩,Q0⟩,_,rfl,?_⟩;refine rt ?_;cases h;exact ⟨_,rfl,_,rfl,Fz.t fq⟩
 refine sg (ct h (fun hb h=>?_) fun hb h=>?_)
 ·refine sg ?_;have ⟨ei,jA,h⟩:=η h;refine ⟨_,rfl,?_⟩;refine Θ.call (ae2 jA) lz ?_;refine ⟨_,rfl,?_⟩;refine sg ?_;have ⟨dG,jW,h⟩:=η h;refine ⟨_,rfl,_,rfl,_,rfl,?_⟩;refine Θ.call (wS jW) (l4 (.cons (Le.a (l4 (l1 (.cons (Le.nil) (.cons (Le.nil) .nil))))) .nil)) ?_;refine ⟨_,rfl,_,rfl,?_⟩;refine sq (Ok.gP (m:=2) (late:=[1]) (MD:=⟨[]⟩) (CH:=⟨[]⟩) tok mixed (by kernel_rfl) ?_);refine ⟨_,⟨_,rfl,rfl⟩,_,⟨_,rfl,rfl⟩,Q0,?_⟩;refine ⟨_,rfl,⟨⟨_,rfl,_,rfl,rfl⟩,Q0⟩,_,rfl,?_⟩;refine rt ?_;cases h;exact ⟨_,rfl,_,rfl,Fz.t fq⟩
 refine sk (sg ?_);have ⟨fx,nU,h⟩:=η h;refine ⟨_,rfl,_,rfl,?_⟩;refine Θ.call (NL nU) lz ?_;refine sq (sg ?_);refine ct h (fun hb h=>?_) fun hb h=>?_
 ·refine sq (dw 3 tok mixed ?_);have ⟨j2,th,h⟩:=η h;refine ⟨_,⟨_,rfl,rfl⟩,_,rfl,_,⟨_,.dz (jr th) lz,rfl⟩,Q0,_,rfl,_,rfl,?_⟩;refine rt ?_;cases h;exact ⟨_,rfl,_,rfl,Fz.t fq⟩
 refine sk (sg ?_);have ⟨qQ,AW,h⟩:=η h;refine ⟨_,rfl,?_⟩;refine Θ.call (GL AW) lz ?_;refine sg ?_;have ⟨uf,J8,h⟩:=η h;refine ⟨_,rfl,?_⟩;refine Θ.call (aeX J8) lz ?_;refine ⟨_,rfl,?_⟩;refine sg ?_;have ⟨NV,aaU,h⟩:=η h;refine ⟨_,rfl,_,rfl,_,rfl,?_⟩;refine Θ.call (wS aaU) (l4 (.cons (Le.a (l4 (l1 (.cons (Le.nil) (.cons (Le.nil) .nil))))) .nil)) ?_;refine ⟨_,rfl,_,rfl,?_⟩;refine sq (Ok.gP (m:=2) (late:=[1]) (MD:=⟨[]⟩) (CH:=⟨[]⟩) tok mixed (by kernel_rfl) ?_);refine ⟨_,⟨_,rfl,rfl⟩,_,⟨_,rfl,rfl⟩,Q0,?_⟩;refine ⟨_,rfl,⟨⟨_,rfl,_,rfl,rfl⟩,Q0⟩,_,rfl,?_⟩;refine rt ?_;cases h;exact ⟨_,rfl,_,rfl,Fz.t fq⟩
def Vk {c r} (h:yX c=some r):Pure prog 98 [.a (b4 c)] (vi r):=by
 refine pq tok 12 func98 ?_;unfold yX at h;refine sg (sq (sg ?_));refine ⟨_,rfl,?_⟩;refine ct h (fun hb h=>?_) fun hb h=>?_
 ·refine sg ⟨_,rfl,_,au _,fun _=>?_⟩;refine rt ?_;cases h;exact Fz.v
 refine sk (sg ?_);refine ⟨_,rfl,_,au _,fun _=>?_⟩;refine rt ?_;cases h;exact Fz.v
def aeV {d g e c r} (h:Bu d g e c=some r):Pure prog 99 [.a (b0 d),vi g,vi e,vi c] (.t (R3 r.1 r.2.1 r.2.2)):=by
 refine pq tok 100 func99 ?_;unfold Bu at h;refine sg (sq ?_);have ⟨v1,ν,h⟩:=η h;refine Ok.aB ⟨Γ [(1,vi g),(2,vi e),(3,vi c),(4,.b 4 0),(25,vb v1)],[(4,.box (b0 d))]⟩ ?_ ?_
 ·refine rg ?_;have ⟨c1,ξ,ν⟩:=η ν;refine Br.cO ξ (fun hb ξ=>?_) fun hb ξ=>?_
  ·cases ξ;have ⟨c2,ax,ν⟩:=η ν;replace ax:=fu ax;cases ax;cases ν;exact wt Q5 J1 rfl
  cases ξ;have ⟨c2,aL,ν⟩:=η ν;refine Br.cO aL (fun hb aL=>?_) fun hb aL=>?_
  ·cases aL;cases ν;exact wt Q5 J1 rfl
  cases aL;cases ν;exact wt Q5 J1 rfl
 refine ct h (fun hb h=>?_) fun hb h=>?_
 ·refine sg (rt ?_);cases h;exact (Fz.t (.cons Fz.nil fq))
 refine sk (sg ?_);have ⟨x1,θ,h⟩:=η h;refine ⟨_,rfl,?_⟩;refine Θ.call (GN θ) lz ?_;refine ⟨_,rfl,?_⟩;refine sq (sg ?_);refine ct h (fun hb h=>?_) fun hb h=>?_
 ·refine sg (rt ?_);cases h;exact (Fz.t (.cons Fz.nil fq))
 refine sk (sg ?_);refine bl (Ok.loop (fun (s1:Int×(List aJ))=>⟨Γ [(2,vi s1.1),(3,vi c),(11,.b 11 0),(13,.o 92)],[(11,.box (b4 x1.1)),(92,.own 138 3 (mC s1.2))]⟩) (E9 x1 c) (s0:=(e,[])) h ((Wk.nn (t:=13) (id:=92) (E:=138) (K:=3) rfl rfl).trans (wt Q4 ⟨hr,hr,Q0⟩ rfl)) ?_);intro s1 y1 ζ az;unfold E9 at ζ;refine bl (sg ?_);have ⟨v2,Δ,ζ⟩:=η ζ;refine Ok.aB ⟨Γ [(3,vi c),(11,.b 11 0),(13,.o 92),(14,vi v2)],[(11,.box (b4 x1.1)),(92,.own 138 3 (mC s1.2))]⟩ ?_ ?_
 ·refine sg (bl (Ok.loop (fun (s2:Int×Int)=>⟨Γ [(2,vi s1.1),(3,vi c),(11,.b 11 0),(13,.o 92),(14,vi s2.1),(15,vi s2.2)],[(11,.box (b4 x1.1)),(92,.own 138 3 (mC s1.2))]⟩) (E_ x1 s1) (s0:=((-1),0)) Δ (wt Q6 ⟨hr,hr,Q0⟩ rfl) ?_));intro s2 y2 an dM;unfold E_ at an;refine sq (sg ?_);refine ⟨_,rfl,_,au _,fun _=>?_⟩;refine ct an (fun hb an=>?_) fun hb an=>?_
  ·refine sk ?_;have ⟨v3,aA,an⟩:=η an;refine Ok.aB ⟨Γ [(2,vi s1.1),(3,vi c),(11,.b 11 0),(13,.o 92),(14,vi v3),(15,vi s2.2)],[(11,.box (b4 x1.1)),(92,.own 138 3 (mC s1.2))]⟩ ?_ ?_
   ·refine bl ?_;have ⟨v4,aO,aA⟩:=η aA;refine Ok.aB ⟨Γ [(2,vi s1.1),(3,vi c),(11,.b 11 0),(13,.o 92),(14,vi s2.1),(15,vi s2.2),(68,vb v4)],[(11,.box (b4 x1.1)),(92,.own 138 3 (mC s1.2))]⟩ ?_ ?_
    ·refine dw 27 tok mixed ?_;have ⟨x2,aq,aO⟩:=η aO;refine ⟨_,rfl,_,⟨_,rfl,rfl⟩,_,rfl,_,⟨_,aI aq,_,aK aq,rfl⟩,_,rfl,_,⟨_,rfl,rfl⟩,_,rfl,_,rfl,_,rfl,?_⟩;have ⟨c4,bI,aO⟩:=η aO;refine Br.ite bI (fun hb bI=>?_) fun hb bI=>?_
     ·refine ⟨_,rfl,_,rfl,_,rfl,?_⟩;have ⟨c3,bZ,bI⟩:=η bI;refine Br.cO bZ (fun hb bZ=>?_) fun hb bZ=>?_
      ·cases bZ;refine ⟨_,rfl,?_⟩;cases bI;refine ⟨_,rfl,?_⟩;refine ⟨Q0,?_⟩;cases aO;exact wt Q7 J2 rfl
      have ⟨x3,aF,bZ⟩:=η bZ;have ⟨x4,aV,bZ⟩:=η bZ;refine ⟨_,rfl,_,⟨_,rfl,rfl⟩,_,rfl,_,⟨_,aI aF,_,aK aF,rfl⟩,_,rfl,_,⟨_,rfl,rfl⟩,_,rfl,_,⟨_,rfl,rfl⟩,_,rfl,_,⟨_,aI aV,_,aK aV,rfl⟩,_,rfl,_,⟨_,rfl,rfl⟩,_,rfl,?_⟩;cases bZ;refine ⟨_,rfl,?_⟩;cases bI;refine ⟨_,rfl,?_⟩;refine ⟨Q0,?_⟩;cases aO;exact wt Q7 J2 rfl
     cases bI;refine ⟨_,rfl,?_⟩;refine ⟨Q0,?_⟩;cases aO;exact wt Q7 J2 rfl
    refine ct aA (fun hb aA=>?_) fun hb aA=>?_
    ·refine rg ?_;cases aA;exact wt Q6 J2 rfl
    refine sk ?_;cases aA;exact wt Q6 J2 rfl
   refine rg ?_;have ⟨ah,an⟩:=ak an;refine (af ⟨ah,?_⟩);exact ⟨_,sj an,wt Q6 J2 rfl⟩
  refine xt ?_;have an:=aN an dM;cases an;exact wt Q4 J2 rfl
 refine sq (sg ?_);refine ct ζ (fun hb ζ=>?_) fun hb ζ=>?_
 ·refine sg (rt ?_);have ζ:=aN ζ az;cases ζ;exact (Fz.t (.cons (Fz.o rfl) fq))
 refine sk (sq (sg ?_));refine ⟨_,au _,fun _=>?_⟩;refine ct ζ (fun hb ζ=>?_) fun hb ζ=>?_
 ·refine sq (dw 11 tok mixed ?_);have ⟨aQ,ζ⟩:=ak ζ;have ⟨x5,bJ,ζ⟩:=η ζ;have ⟨bN,ζ⟩:=ak ζ;refine ⟨_,rfl,_,rfl,_,rfl,_,af ⟨aQ,rfl⟩,_,⟨_,aI bJ,jY bJ,rfl⟩,_,rfl,_,⟨_,aK bJ,rfl,_,rfl,rfl⟩,_,af ⟨bN,rfl⟩,_,rfl,_,rfl,_,rfl,Q0,?_⟩;refine rt ?_;have ζ:=aN ζ az;cases ζ;exact (Fz.t (.cons (Fz.o rfl) fq))
 refine sk (sg ?_);have ⟨x6,cK,ζ⟩:=η ζ;have ⟨c8,ζ⟩:=ak ζ;refine ⟨_,rfl,_,aI cK,_,aK cK,_,rfl,af ⟨cL (f:=eM) (n:=3) (fun _=>rfl) ([x6]),cJ (f:=eM) (l:=s1.2) (l':=[x6]) c8,_,(bP (f:=eM) (l₁:=s1.2) (l₂:=[x6])).symm,?_⟩⟩;refine rg ?_;have ⟨x7,cP,ζ⟩:=η ζ;have ⟨eJ,ζ⟩:=ak ζ;refine ⟨_,rfl,_,aI cP,_,aK cP,_,rfl,af ⟨eJ,?_⟩⟩;exact ⟨_,sj ζ,wt Q4 J2 rfl⟩
def Ve {c d r} (h:yN c d=some r):Pure prog 154 [.a (b0 c),vi d] (vb r):=by
 refine pq tok 24 func154 ?_;unfold yN at h;refine sg (sg ?_);have ⟨x1,θ,h⟩:=η h;refine ⟨_,rfl,?_⟩;refine Θ.call (g_ θ) lz ?_;refine ⟨_,rfl,?_⟩;have ⟨v1,ν,h⟩:=η h;refine Ok.aB ⟨Γ [(4,vb v1)],[]⟩ ?_ ?_
 ·refine rg ?_;have ⟨c1,ξ,ν⟩:=η ν;refine Br.ite ξ (fun hb ξ=>?_) fun hb ξ=>?_
  ·refine ⟨_,rfl,?_⟩;cases ξ;have ⟨c2,ax,ν⟩:=η ν;refine Br.ite ax (fun hb ax=>?_) fun hb ax=>?_
   ·refine ⟨_,rfl,?_⟩;cases ax;cases ν;exact wt Q1 Q0 rfl
   cases ax;cases ν;exact wt Q1 Q0 rfl
  cases ξ;have ⟨c2,aL,ν⟩:=η ν;replace aL:=c9 aL;cases aL;cases ν;exact wt Q1 Q0 rfl
 refine rt ?_;cases h;exact Fz.v
def NJ {a b c r} (h:wq a b c=some r):Pure prog 155 (R7 a b c) (vi r):=by
 refine pq tok 31 func155 ?_;unfold wq at h;refine sg (Ok.cU (fun v1=>⟨Γ [],[]⟩) (fun v1=>Lu v1=some r) ?_ ?_)
 ·refine sg (bl (Ok.loop (fun (s1:Int)=>⟨Γ [(0,.s (mF a)),(1,vi b),(2,vi c),(7,vi s1)],[]⟩) (Fg a b c) (s0:=0) h (wt Q4 Q0 rfl) ?_));intro s1 y1 ζ az;unfold Fg at ζ;refine sq (sg ?_);refine ⟨_,au _,fun _=>?_⟩;refine ct ζ (fun hb ζ=>?_) fun hb ζ=>?_
  ·refine sk (sq (bl ?_));have ⟨v2,Δ,ζ⟩:=η ζ;refine Ok.aB ⟨Γ [(0,.s (mF a)),(1,vi b),(2,vi c),(7,vi s1),(29,vb v2)],[]⟩ ?_ ?_
   ·refine rg ?_;have ⟨x1,θ,Δ⟩:=η Δ;refine ⟨_,aI θ,_,aK θ,_,rfl,?_⟩;have ⟨c1,ξ,Δ⟩:=η Δ;refine Br.ite ξ (fun hb ξ=>?_) fun hb ξ=>?_
    ·have ⟨x2,aq,ξ⟩:=η ξ;refine ⟨_,aI aq,_,aK aq,_,rfl,?_⟩;cases ξ;cases Δ;exact wt Q5 Q0 rfl
    cases ξ;cases Δ;exact wt Q5 Q0 rfl
   refine ct ζ (fun hb ζ=>?_) fun hb ζ=>?_
   ·refine sg (rt ?_);have ζ:=aN ζ az;cases ζ;exact Fz.v
   refine sk (rg ?_);have ⟨ah,ζ⟩:=ak ζ;refine (af ⟨ah,?_⟩);exact ⟨_,sj ζ,wt Q4 Q0 rfl⟩
  refine xt ?_;have ζ:=aN ζ az;exact ⟨_,ζ,wt Q0 Q0 rfl⟩
 intro v1 h;unfold Lu at h;refine sg (rt ?_);cases h;exact Fz.v
def ae9 {i c d e g r} (h:BP i c d e g=some r):Pure prog 100 [.a (b0 i),.s (mF c),vi d,vi e,vi g] (.t [.s (mF r.1),vi r.2]):=by
 refine pq tok 110 func100 ?_;unfold BP at h;refine sg (sg ?_);have ⟨x1,θ,h⟩:=η h;refine ⟨_,rfl,?_⟩;refine Θ.call (g_ θ) lz ?_;refine ⟨_,rfl,?_⟩;refine sq ?_;have ⟨v1,ν,h⟩:=η h;refine Ok.aB ⟨Γ [(1,.s (mF c)),(2,vi d),(3,vi e),(4,vi g),(5,.b 5 0),(12,.b 12 0),(13,vb x1.2),(35,vb v1)],[(5,.box (b0 i)),(12,.box (b4 x1.1))]⟩ ?_ ?_
 ·refine rg ?_;have ⟨c1,ξ,ν⟩:=η ν;refine Br.cO ξ (fun hb ξ=>?_) fun hb ξ=>?_
  ·cases ξ;have ⟨c2,ax,ν⟩:=η ν;replace ax:=fu ax;cases ax;have ⟨c3,aL,ν⟩:=η ν;replace aL:=fu aL;cases aL;cases ν;exact wt Q8 J2 rfl
  cases ξ;have ⟨c2,bI,ν⟩:=η ν;refine Br.cO bI (fun hb bI=>?_) fun hb bI=>?_
  ·cases bI;have ⟨c3,bZ,ν⟩:=η ν;replace bZ:=fu bZ;cases bZ;cases ν;exact wt Q8 J2 rfl
  cases bI;have ⟨c3,cI,ν⟩:=η ν;refine Br.cO cI (fun hb cI=>?_) fun hb cI=>?_
  ·cases cI;cases ν;exact wt Q8 J2 rfl
  cases cI;cases ν;exact wt Q8 J2 rfl
 refine ct h (fun hb h=>?_) fun hb h=>?_
 ·refine sg (rt ?_);cases h;exact (Fz.t (.cons Fz.s fq))
 refine sk (sq ?_);have ⟨v2,Δ,h⟩:=η h;refine Ok.aB ⟨Γ [(1,.s (mF c)),(2,vi d),(3,vi e),(4,vi g),(12,.b 12 0),(43,vb v2)],[(12,.box (b4 x1.1))]⟩ ?_ ?_
 ·refine rg ?_;have ⟨c4,cQ,Δ⟩:=η Δ;refine Br.cO cQ (fun hb cQ=>?_) fun hb cQ=>?_
  ·cases cQ;cases Δ;exact wt Q6 J1 rfl
  have ⟨x2,aq,cQ⟩:=η cQ;refine ⟨_,rfl,?_⟩;refine Θ.call (Ve aq) lz ?_;cases cQ;cases Δ;exact wt Q6 J1 rfl
 refine ct h (fun hb h=>?_) fun hb h=>?_
 ·refine sg (rt ?_);cases h;exact (Fz.t (.cons Fz.s fq))
 refine sk (sq (sg ?_));refine ⟨_,rfl,?_⟩;refine ct h (fun hb h=>?_) fun hb h=>?_
 ·refine sg (rt ?_);cases h;exact (Fz.t (.cons Fz.s fq))
 refine sk (sq (sg ?_));have ⟨x3,aF,h⟩:=η h;refine Θ.call (NJ aF) lz ?_;refine ct h (fun hb h=>?_) fun hb h=>?_
 ·refine sg (rt ?_);cases h;exact (Fz.t (.cons Fz.s fq))
 refine sk (sq (sg ?_));refine ⟨_,au _,fun _=>?_⟩;refine ct h (fun hb h=>?_) fun hb h=>?_
 ·refine sg (rt ?_);cases h;exact (Fz.t (.cons Fz.s fq))
 refine sk (sg ?_);have ⟨v3,aA,h⟩:=η h;refine Ok.aB ⟨Γ [(1,.s (mF c)),(2,vi d),(3,vi e),(4,vi g),(14,vi v3)],[]⟩ ?_ ?_
 ·refine bl (Ok.loop (fun (s1:Int)=>⟨Γ [(1,.s (mF c)),(2,vi d),(3,vi e),(4,vi g),(14,vi s1)],[]⟩) (Ff c d e) (s0:=0) aA (wt Q5 Q0 rfl) ?_);intro s1 y1 ζ az;unfold Ff at ζ;refine sq ?_;have ⟨v4,aO,ζ⟩:=η ζ;refine Ok.aB ⟨Γ [(1,.s (mF c)),(2,vi d),(3,vi e),(4,vi g),(14,vi s1),(89,vb v4)],[]⟩ ?_ ?_
  ·refine rg ⟨_,au _,fun _=>?_⟩;have ⟨c7,dq,aO⟩:=η aO;refine Br.ite dq (fun hb dq=>?_) fun hb dq=>?_
   ·have ⟨x4,aV,dq⟩:=η dq;refine ⟨_,aI aV,_,aK aV,_,rfl,?_⟩;have ⟨c6,dE,dq⟩:=η dq;refine Br.cO dE (fun hb dE=>?_) fun hb dE=>?_
    ·cases dE;cases dq;cases aO;exact wt Q6 Q0 rfl
    have ⟨x5,bJ,dE⟩:=η dE;refine ⟨_,aI bJ,_,aK bJ,_,rfl,?_⟩;have ⟨c5,ep,dE⟩:=η dE;refine Br.ite ep (fun hb ep=>?_) fun hb ep=>?_
    ·have ⟨x6,cK,ep⟩:=η ep;refine ⟨_,aI cK,_,aK cK,_,rfl,?_⟩;cases ep;cases dE;cases dq;cases aO;exact wt Q6 Q0 rfl
    cases ep;cases dE;cases dq;cases aO;exact wt Q6 Q0 rfl
   cases dq;cases aO;exact wt Q6 Q0 rfl
  refine ct ζ (fun hb ζ=>?_) fun hb ζ=>?_
  ·refine sk (bl (rg ?_));have ⟨ah,ζ⟩:=ak ζ;refine (af ⟨ah,?_⟩);exact ⟨_,sj ζ,wt Q5 Q0 rfl⟩
  refine xt ?_;have ζ:=aN ζ az;cases ζ;exact wt Q5 Q0 rfl
 refine sg ?_;have ⟨aQ,h⟩:=ak h;have ⟨bN,h⟩:=ak h;refine Or.inr ⟨_,fK aQ.1,Nat.zero_le _,nW aQ,mo (f:=ga) (K:=3) (fun _=>rfl) c,_,wL _ _ _,cL (f:=ga) (n:=3) (fun _=>rfl) (c.take v3.toNat),cJ (f:=ga) (l:=([]:List bq)) (l':=c.take v3.toNat) bN,_,(bP (f:=ga) (l₁:=([]:List bq)) (l₂:=c.take v3.toNat)).symm,?_⟩;refine sg ?_;have ⟨c8,h⟩:=ak h;refine af ⟨cL (f:=ga) (n:=3) (fun _=>rfl) ([(⟨d,e,g⟩:bq)]),cJ (f:=ga) (l:=([]:List bq)++(c.take v3.toNat)) (l':=[(⟨d,e,g⟩:bq)]) c8,_,(bP (f:=ga) (l₁:=([]:List bq)++(c.take v3.toNat)) (l₂:=[(⟨d,e,g⟩:bq)])).symm,?_⟩;refine sg ?_;have ⟨eJ,h⟩:=ak h;have ⟨nJ,h⟩:=ak h;refine ⟨_,fK eJ.1,nW eJ,Nat.le_refl _,mo (f:=ga) (K:=3) (fun _=>rfl) c,_,Cg _ _ _,cL (f:=ga) (n:=3) (fun _=>rfl) (c.drop v3.toNat),cJ (f:=ga) (l:=(([]:List bq)++(c.take v3.toNat))++[(⟨d,e,g⟩:bq)]) (l':=c.drop v3.toNat) nJ,_,(bP (f:=ga) (l₁:=(([]:List bq)++(c.take v3.toNat))++[(⟨d,e,g⟩:bq)]) (l₂:=c.drop v3.toNat)).symm,?_⟩;refine sg (rt ?_);cases h;exact (Fz.t (.cons (Fz.o rfl) fq))
end Go.Proofs
