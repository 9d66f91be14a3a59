/- The walks of this seat beside the plain programs, part 9. No condition. -/
import Derived.Test.YtdcgbodbejgliaaGreatDoorXTopPacksWk8
namespace Go.Proofs
set_option linter.all false
open Go Go.Cat Tryz
variable [M:cM]
set_option maxRecDepth 100000
set_option maxHeartbeats 4000000
def ajU [o8] {a r} (h:CA a=some r):Pure prog 7 [.s (mH a)] (vb r):=by
 refine pq tok 86 func7 ?_;unfold CA at h;refine sg (sg ?_);have ⟨x1,Θ,h⟩:=ι h;refine ae.call (ajV Θ) lz ?_;refine sq (sg ?_);have ⟨x2,ak,h⟩:=ι h;refine ae.call (ai' ak) lz ?_;refine ct h (fun hb h=>?_) fun hb h=>?_
 ·refine sg (rt ?_);cases h;exact Fz.v
 refine sk (sg ?_);have ⟨x3,aK,h⟩:=ι h;refine ae.call (QX aK) lz ?_;refine ⟨_,rfl,?_⟩;refine sg ?_;have ⟨x4,bn,h⟩:=ι h;refine ae.call (QX bn) lz ?_;refine ⟨_,rfl,?_⟩;refine Ok.eC (fun v1=>⟨aq [(3,vb x1),(4,.b 4 0),(5,.b 5 0)],[(4,.box (k5 v1.1 v1.2.1 v1.2.2.1 v1.2.2.2.1 v1.2.2.2.2.1 v1.2.2.2.2.2.1 v1.2.2.2.2.2.2.1 v1.2.2.2.2.2.2.2.1 (t8 v1).1 (t8 v1).2.1)),(5,.box (k5 (t8 v1).2.2.1 (t8 v1).2.2.2.1 (t8 v1).2.2.2.2.1 (t8 v1).2.2.2.2.2.1 (t5 (t8 v1)).2.1 (t5 (t8 v1)).2.2.1 (t8 (t8 v1)).1 (t8 (t8 v1)).2.1 (t8 (t8 v1)).2.2.1 (t8 (t8 v1)).2.2.2))]⟩) (fun v1=>KU x1 v1=some r) ?_ ?_
 ·refine sg (bl (Ok.loop (fun (s1:Int×GG)=>⟨aq [(0,.s (mH a)),(3,vb x1),(4,.b 4 0),(5,.b 5 0),(6,vi s1.1)],[(4,.box (k5 s1.2.1 s1.2.2.1 s1.2.2.2.1 s1.2.2.2.2.1 s1.2.2.2.2.2.1 s1.2.2.2.2.2.2.1 s1.2.2.2.2.2.2.2.1 (t8 s1).1 (t8 s1).2.1 (t8 s1).2.2.1)),(5,.box (k5 (t8 s1).2.2.2.1 (t8 s1).2.2.2.2.1 (t8 s1).2.2.2.2.2.1 (t5 (t8 s1)).2.1 (t5 (t8 s1)).2.2.1 (t8 (t8 s1)).1 (t8 (t8 s1)).2.1 (t8 (t8 s1)).2.2.1 (t8 (t8 s1)).2.2.2.1 (t8 (t8 s1)).2.2.2.2))]⟩) (KT a x1) (s0:=(0,x3.S.Γ.η,x3.S.Γ.Next,x3.S.Γ.aj,x3.S.aY,x3.S.aU,x3.S.aO,x3.S.aR,x3.S.Next,x3.Holds,x3.bc,x4.S.Γ.η,x4.S.Γ.Next,x4.S.Γ.aj,x4.S.aY,x4.S.aU,x4.S.aO,x4.S.aR,x4.S.Next,x4.Holds,x4.bc)) h (wt Q5 ⟨hr,hr,Q0⟩ rfl) ?_));intro s1 y1 ζ aL;unfold KT at ζ;refine sq (sg ?_);refine ⟨_,List.length_map _,fun _=>?_⟩;refine ct ζ (fun hb ζ=>?_) fun hb ζ=>?_
  ·refine sk (sq (bl (sg ?_)));have ⟨x5,dr,ζ⟩:=ι ζ;have ⟨x6,gw,ζ⟩:=ι ζ;refine ⟨_,bq dr,_,br dr,_,rfl,?_⟩;refine ae.call (YZ gw) lz ?_;have ⟨x7,gg,ζ⟩:=ι ζ;refine ae.call (Y0 gg) lz ?_;refine ⟨_,rfl,?_⟩;refine sq (sg ?_);refine ct ζ (fun hb ζ=>?_) fun hb ζ=>?_
   ·refine sg (rt ?_);have ζ:=bd ζ aL;cases ζ;exact Fz.v
   refine sk (sq (Ok.qb (m:=11) (late:=[8]) (MD:=⟨[]⟩) (CH:=⟨[]⟩) tok mixed (by kernel_rfl) ?_));have ⟨x8,jl,ζ⟩:=ι ζ;have ⟨x9,jV,ζ⟩:=ι ζ;refine ⟨_,⟨_,rfl,rfl⟩,_,rfl,_,rfl,_,⟨_,bq jl,_,br jl,rfl⟩,_,⟨_,rfl,rfl⟩,_,⟨_,.fC (Am jV) lz,rfl⟩,_,rfl,_,rfl,_,rfl,Q0,?_⟩;refine ⟨_,rfl,⟨⟨_,rfl,rfl⟩,Q0⟩,_,rfl,?_⟩;refine sg ?_;have ⟨fV,qq,ζ⟩:=ι ζ;refine ⟨_,rfl,_,rfl,?_⟩;refine ae.call (Am qq) lz ?_;refine ⟨_,rfl,_,rfl,?_⟩;refine wT [(0,.s (mH a)),(3,vb x1),(4,.b 4 0),(5,.b 5 0),(6,vi s1.1),(9,.b 9 0),(10,.b 10 0),(11,.b 11 0),(12,.b 12 0)] [(4,.box (k5 s1.2.1 s1.2.2.1 s1.2.2.2.1 s1.2.2.2.2.1 s1.2.2.2.2.2.1 s1.2.2.2.2.2.2.1 s1.2.2.2.2.2.2.2.1 (t8 s1).1 (t8 s1).2.1 (t8 s1).2.2.1)),(5,.box (k5 (t8 s1).2.2.2.1 (t8 s1).2.2.2.2.1 (t8 s1).2.2.2.2.2.1 (t5 (t8 s1)).2.1 (t5 (t8 s1)).2.2.1 (t8 (t8 s1)).1 (t8 (t8 s1)).2.1 (t8 (t8 s1)).2.2.1 (t8 (t8 s1)).2.2.2.1 (t8 (t8 s1)).2.2.2.2)),(9,.box (b2 x9.1)),(10,.box (ju x9.2)),(11,.box (b2 fV.1)),(12,.box (ju fV.2))] ⟨lr,Q8⟩ ⟨hr,hr,J4⟩ rfl ?_;refine sg ?_;have ⟨iX,oN,ζ⟩:=ι ζ;refine ⟨_,rfl,?_⟩;refine ae.call (ajd oN) lz ?_;have ⟨fE,oO,ζ⟩:=ι ζ;refine ae.call (ajf oO) lz ?_;refine ⟨_,rfl,?_⟩
   refine sq ?_;have ⟨v2,aw,ζ⟩:=ι ζ;refine Ok.bg ⟨aq [(0,.s (mH a)),(3,vb x1),(4,.b 4 0),(5,.b 5 0),(6,vi s1.1),(9,.b 9 0),(11,.b 11 0),(72,vb v2)],[(4,.box (k5 s1.2.1 s1.2.2.1 s1.2.2.2.1 s1.2.2.2.2.1 s1.2.2.2.2.2.1 s1.2.2.2.2.2.2.1 s1.2.2.2.2.2.2.2.1 (t8 s1).1 (t8 s1).2.1 (t8 s1).2.2.1)),(5,.box (k5 (t8 s1).2.2.2.1 (t8 s1).2.2.2.2.1 (t8 s1).2.2.2.2.2.1 (t5 (t8 s1)).2.1 (t5 (t8 s1)).2.2.1 (t8 (t8 s1)).1 (t8 (t8 s1)).2.1 (t8 (t8 s1)).2.2.1 (t8 (t8 s1)).2.2.2.1 (t8 (t8 s1)).2.2.2.2)),(9,.box (b2 x9.1)),(11,.box (b2 fV.1))]⟩ ?_ ?_
   ·refine rg ?_;have ⟨c1,Δ,aw⟩:=ι aw;refine Br.eh Δ (fun hb Δ=>?_) fun hb Δ=>?_
    ·cases Δ;have ⟨c2,aF,aw⟩:=ι aw;replace aF:=ee aF;cases aF;cases aw;exact wt Q8 J4 rfl
    have ⟨nk,uV,Δ⟩:=ι Δ;refine ⟨_,rfl,_,rfl,?_⟩;refine ae.call (Y7 uV) lz ?_;cases Δ;have ⟨c2,aM,aw⟩:=ι aw;refine Br.eh aM (fun hb aM=>?_) fun hb aM=>?_
    ·cases aM;cases aw;exact wt Q8 J4 rfl
    have ⟨nn,s7,aM⟩:=ι aM;refine ⟨_,rfl,_,rfl,?_⟩;refine ae.call (Y7 s7) lz ?_;cases aM;cases aw;exact wt Q8 J4 rfl
   refine ct ζ (fun hb ζ=>?_) fun hb ζ=>?_
   ·refine sg (rt ?_);have ζ:=bd ζ aL;cases ζ;exact Fz.v
   refine sk (sg ?_);refine ⟨_,rfl,_,rfl,?_⟩;refine rg ⟨_,rfl,_,rfl,?_⟩;refine rg ?_;have ⟨ar,ζ⟩:=aC ζ;refine (Or.inl ⟨ar,?_⟩);exact ⟨_,sj ζ,wt Q5 J2 rfl⟩
  refine xt ?_;have ζ:=bd ζ aL;exact ⟨_,ζ,wt Q3 ⟨hr,hr,Q0⟩ rfl⟩
 intro v1 h;unfold KU at h;have ⟨v3,dy,h⟩:=ι h;refine Ok.bg ⟨aq [(2,vb v3)],[]⟩ ?_ ?_
 ·refine rg ?_;have ⟨c3,cC,dy⟩:=ι dy;refine Br.ite cC (fun hb cC=>?_) fun hb cC=>?_
  ·have ⟨tZ,EN,cC⟩:=ι cC;refine ⟨_,rfl,_,rfl,?_⟩;refine ae.call (aiU EN) lz ?_;cases cC;have ⟨c4,cU,dy⟩:=ι dy;refine Br.ite cU (fun hb cU=>?_) fun hb cU=>?_
   ·have ⟨t_,EO,cU⟩:=ι cU;refine ⟨_,rfl,_,rfl,?_⟩;refine ae.call (ajo EO) lz ?_;cases cU;cases dy;exact wt Q1 Q0 rfl
   cases cU;cases dy;exact wt Q1 Q0 rfl
  cases cC;have ⟨c4,dA,dy⟩:=ι dy;replace dA:=cL dA;cases dA;cases dy;exact wt Q1 Q0 rfl
 refine rt ?_;cases h;exact Fz.v
end Go.Proofs
