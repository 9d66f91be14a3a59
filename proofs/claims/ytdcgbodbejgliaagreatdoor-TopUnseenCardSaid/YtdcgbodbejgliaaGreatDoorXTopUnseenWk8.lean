/- The walks of this seat beside the plain programs, part 8. No condition. -/
import Derived.Test.YtdcgbodbejgliaaGreatDoorXTopUnseenHb
import Derived.Test.YtdcgbodbejgliaaGreatDoorXTopUnseenWk0
import Derived.Test.YtdcgbodbejgliaaGreatDoorXTopUnseenWk1
import Derived.Test.YtdcgbodbejgliaaGreatDoorXTopUnseenWk2
import Derived.Test.YtdcgbodbejgliaaGreatDoorXTopUnseenWk3
import Derived.Test.YtdcgbodbejgliaaGreatDoorXTopUnseenWk4
import Derived.Test.YtdcgbodbejgliaaGreatDoorXTopUnseenWk5
import Derived.Test.YtdcgbodbejgliaaGreatDoorXTopUnseenWk6
import Derived.Test.YtdcgbodbejgliaaGreatDoorXTopUnseenWk7
open List renaming length_map → ay
open Or renaming inl → θ
namespace Go.Proofs
set_option linter.all false
open Go Go.Cat Tryz
variable [M:bK]
set_option maxRecDepth 100000
set_option maxHeartbeats 4000000
def aiA {a r} (h:ES a=some r):Pure prog 9 [.s (mH a)] (vb r):=by
 refine pq tok 18 func9 ?_;unfold ES at h;refine sg (sq (sg ?_));refine ⟨_,ay _,fun _=>?_⟩;refine ct h (fun hb h=>?_) fun hb h=>?_
 ·refine sg (rt ?_);cases h;exact Fz.v
 refine sk (Ok.eW (fun v1=>⟨ar [],[]⟩) (fun v1=>Oc v1=some r) ?_ ?_)
 ·refine sg (bl (Ok.loop (fun (s1:Int)=>⟨ar [(0,.s (mH a)),(3,vi s1)],[]⟩) (IW a) (s0:=0) h (wt Q2 Q0 rfl) ?_));intro s1 y1 ζ aP;unfold IW at ζ;refine sq (sg ?_);refine ⟨_,ay _,fun _=>?_⟩;refine ct ζ (fun hb ζ=>?_) fun hb ζ=>?_
  ·refine sk (sq (bl (sg ?_)));have ⟨x1,Ξ,ζ⟩:=κ ζ;have ⟨x2,au,ζ⟩:=κ ζ;refine ⟨_,bz Ξ,_,bC Ξ,_,rfl,?_⟩;refine af.call (aiB au) lz ?_;refine ct ζ (fun hb ζ=>?_) fun hb ζ=>?_
   ·refine sg (rt ?_);have ζ:=bx ζ aP;cases ζ;exact Fz.v
   refine sk (rg ?_);have ⟨aw,ζ⟩:=aG ζ;refine (θ ⟨aw,?_⟩);exact ⟨_,sj ζ,wt Q2 Q0 rfl⟩
  refine xt ?_;have ζ:=bx ζ aP;exact ⟨_,ζ,wt Q0 Q0 rfl⟩
 intro v1 h;unfold Oc at h;refine sg (rt ?_);cases h;exact Fz.v
def aiS {c d r} (h:B5 c d=some r):Pure prog 14 [.a (np c),.a (np d)] (vb r):=by
 refine pq tok 75 func14 ?_;unfold B5 at h;refine sg (sq ?_);have ⟨v1,ν,h⟩:=κ h;refine Ok.bh ⟨ar [(2,.b 2 0),(3,.b 3 0),(56,vb v1)],[(2,.box (np c)),(3,.box (np d))]⟩ ?_ ?_
 ·refine rg ⟨_,rfl,_,rfl,?_⟩;have ⟨c1,Δ,ν⟩:=κ ν;refine Br.dV Δ (fun hb Δ=>?_) fun hb Δ=>?_
  ·cases Δ;have ⟨c2,aI,ν⟩:=κ ν;replace aI:=ee aI;cases aI;have ⟨c3,aX,ν⟩:=κ ν;replace aX:=ee aX;cases aX;have ⟨c4,cU,ν⟩:=κ ν;replace cU:=ee cU;cases cU;have ⟨c5,db,ν⟩:=κ ν;replace db:=ee db;cases db;have ⟨c6,eD,ν⟩:=κ ν;replace eD:=ee eD;cases eD;cases ν;exact wt Q3 J2 rfl
  refine ⟨_,rfl,_,rfl,?_⟩;cases Δ;have ⟨c2,fw,ν⟩:=κ ν;refine Br.dV fw (fun hb fw=>?_) fun hb fw=>?_
  ·cases fw;have ⟨c3,fH,ν⟩:=κ ν;replace fH:=ee fH;cases fH;have ⟨c4,gT,ν⟩:=κ ν;replace gT:=ee gT;cases gT;have ⟨c5,fu,ν⟩:=κ ν;replace fu:=ee fu;cases fu;have ⟨c6,iz,ν⟩:=κ ν;replace iz:=ee iz;cases iz;cases ν;exact wt Q3 J2 rfl
  refine ⟨_,rfl,_,rfl,?_⟩;cases fw;have ⟨c3,iA,ν⟩:=κ ν;refine Br.dV iA (fun hb iA=>?_) fun hb iA=>?_
  ·cases iA;have ⟨c4,jN,ν⟩:=κ ν;replace jN:=ee jN;cases jN;have ⟨c5,kM,ν⟩:=κ ν;replace kM:=ee kM;cases kM;have ⟨c6,jO,ν⟩:=κ ν;replace jO:=ee jO;cases jO;cases ν;exact wt Q3 J2 rfl
  refine ⟨_,rfl,_,rfl,?_⟩;cases iA;have ⟨c4,nF,ν⟩:=κ ν;refine Br.dV nF (fun hb nF=>?_) fun hb nF=>?_
  ·cases nF;have ⟨c5,q8,ν⟩:=κ ν;replace q8:=ee q8;cases q8;have ⟨c6,nG,ν⟩:=κ ν;replace nG:=ee nG;cases nG;cases ν;exact wt Q3 J2 rfl
  refine ⟨_,rfl,_,rfl,?_⟩;cases nF;have ⟨c5,uw,ν⟩:=κ ν;refine Br.dV uw (fun hb uw=>?_) fun hb uw=>?_
  ·cases uw;have ⟨c6,yD,ν⟩:=κ ν;replace yD:=ee yD;cases yD;cases ν;exact wt Q3 J2 rfl
  refine ⟨_,rfl,_,ay _,fun _=>⟨_,rfl,_,ay _,fun _=>?_⟩⟩;cases uw;have ⟨c6,ux,ν⟩:=κ ν;refine Br.dV ux (fun hb ux=>?_) fun hb ux=>?_
  ·cases ux;cases ν;exact wt Q3 J2 rfl
  refine ⟨_,rfl,_,rfl,_,rfl,_,rfl,_,Km _ _,?_⟩;cases ux;cases ν;exact wt Q3 J2 rfl
 refine ct h (fun hb h=>?_) fun hb h=>?_
 ·refine sg (rt ?_);cases h;exact Fz.v
 refine sk (Ok.eW (fun v2=>⟨ar [],[]⟩) (fun v2=>JF v2=some r) ?_ ?_)
 ·refine sg (bl (Ok.loop (fun (s1:Int)=>⟨ar [(2,.b 2 0),(3,.b 3 0),(5,vi s1)],[(2,.box (np c)),(3,.box (np d))]⟩) (Fu c d) (s0:=0) h (wt Q3 ⟨⟨_,rfl,.refl _⟩,⟨_,rfl,.refl _⟩,Q0⟩ rfl) ?_));intro s1 y1 ζ aP;unfold Fu at ζ;refine sq (sg ?_);refine ⟨_,rfl,_,ay _,fun _=>?_⟩;refine ct ζ (fun hb ζ=>?_) fun hb ζ=>?_
  ·refine sk (sq (bl (sq (dw 11 tok mixed ?_))));have ⟨x1,Ξ,ζ⟩:=κ ζ;have ⟨x2,au,ζ⟩:=κ ζ;refine ⟨_,rfl,_,⟨_,rfl,rfl⟩,_,rfl,_,⟨_,bz Ξ,_,bC Ξ,rfl⟩,_,⟨_,rfl,rfl⟩,_,rfl,_,⟨_,rfl,rfl⟩,_,rfl,_,⟨_,bz au,_,bC au,rfl⟩,_,⟨_,rfl,rfl⟩,_,⟨_,Km _ _,rfl⟩,Q0,?_⟩;refine ct ζ (fun hb ζ=>?_) fun hb ζ=>?_
   ·refine sg (rt ?_);have ζ:=bx ζ aP;cases ζ;exact Fz.v
   refine sk (rg ?_);have ⟨aw,ζ⟩:=aG ζ;refine (θ ⟨aw,?_⟩);exact ⟨_,sj ζ,wt Q3 J2 rfl⟩
  refine xt ?_;have ζ:=bx ζ aP;exact ⟨_,ζ,wt Q0 Q0 rfl⟩
 intro v2 h;unfold JF at h;refine sg (rt ?_);cases h;exact Fz.v
def aiP {a b r} (h:Fp a b=some r):Pure prog 139 [.s (mF a),.s (mF b)] (vb r):=by
 refine pq tok 26 func139 ?_;unfold Fp at h;refine sg (sq (sg ?_));refine ⟨_,ay _,fun _=>⟨_,ay _,fun _=>?_⟩⟩;refine ct h (fun hb h=>?_) fun hb h=>?_
 ·refine sg (rt ?_);cases h;exact Fz.v
 refine sk (Ok.eW (fun v1=>⟨ar [],[]⟩) (fun v1=>OV v1=some r) ?_ ?_)
 ·refine sg (bl (Ok.loop (fun (s1:Int)=>⟨ar [(0,.s (mF a)),(1,.s (mF b)),(5,vi s1)],[]⟩) (Fq a b) (s0:=0) h (wt Q3 Q0 rfl) ?_));intro s1 y1 ζ aP;unfold Fq at ζ;refine sq (sg ?_);refine ⟨_,ay _,fun _=>?_⟩;refine ct ζ (fun hb ζ=>?_) fun hb ζ=>?_
  ·refine sk (sq (bl (sq (dw 9 tok mixed ?_))));have ⟨x1,Ξ,ζ⟩:=κ ζ;have ⟨x2,au,ζ⟩:=κ ζ;refine ⟨_,rfl,_,rfl,_,⟨_,bz Ξ,_,bC Ξ,rfl⟩,_,⟨_,rfl,rfl⟩,_,rfl,_,rfl,_,⟨_,bz au,_,bC au,rfl⟩,_,⟨_,rfl,rfl⟩,_,⟨[.one (.str),.one (.int .i64),.one (.int .i64)],by kernel_rfl,rfl⟩,Q0,?_⟩;refine ct ζ (fun hb ζ=>?_) fun hb ζ=>?_
   ·refine sg (rt ?_);have ζ:=bx ζ aP;cases ζ;exact Fz.v
   refine sk (rg ?_);have ⟨aw,ζ⟩:=aG ζ;refine (θ ⟨aw,?_⟩);exact ⟨_,sj ζ,wt Q3 Q0 rfl⟩
  refine xt ?_;have ζ:=bx ζ aP;exact ⟨_,ζ,wt Q0 Q0 rfl⟩
 intro v1 h;unfold OV at h;refine sg (rt ?_);cases h;exact Fz.v
def Yi {c d r} (h:zJ c d=some r):Pure prog 81 [.a (b4 c),.a (b4 d)] (vb r):=by
 refine pq tok 45 func81 ?_;unfold zJ at h;refine sg (sq ?_);have ⟨v1,ν,h⟩:=κ h;refine Ok.bh ⟨ar [(2,.b 2 0),(3,.b 3 0),(39,vb v1)],[(2,.box (b4 c)),(3,.box (b4 d))]⟩ ?_ ?_
 ·refine rg ⟨_,rfl,_,rfl,?_⟩;have ⟨c1,Δ,ν⟩:=κ ν;refine Br.dV Δ (fun hb Δ=>?_) fun hb Δ=>?_
  ·cases Δ;have ⟨c2,aI,ν⟩:=κ ν;replace aI:=ee aI;cases aI;have ⟨c3,aX,ν⟩:=κ ν;replace aX:=ee aX;cases aX;have ⟨c4,cU,ν⟩:=κ ν;replace cU:=ee cU;cases cU;cases ν;exact wt Q3 J2 rfl
  refine ⟨_,rfl,_,rfl,?_⟩;cases Δ;have ⟨c2,db,ν⟩:=κ ν;refine Br.dV db (fun hb db=>?_) fun hb db=>?_
  ·cases db;have ⟨c3,eD,ν⟩:=κ ν;replace eD:=ee eD;cases eD;have ⟨c4,fw,ν⟩:=κ ν;replace fw:=ee fw;cases fw;cases ν;exact wt Q3 J2 rfl
  refine ⟨_,rfl,_,rfl,?_⟩;cases db;have ⟨c3,fH,ν⟩:=κ ν;refine Br.dV fH (fun hb fH=>?_) fun hb fH=>?_
  ·cases fH;have ⟨c4,gT,ν⟩:=κ ν;replace gT:=ee gT;cases gT;cases ν;exact wt Q3 J2 rfl
  refine ⟨_,rfl,_,rfl,?_⟩;cases fH;have ⟨c4,fu,ν⟩:=κ ν;refine Br.dV fu (fun hb fu=>?_) fun hb fu=>?_
  ·cases fu;cases ν;exact wt Q3 J2 rfl
  refine ⟨_,rfl,_,rfl,_,rfl,_,rfl,_,Km _ _,?_⟩;cases fu;cases ν;exact wt Q3 J2 rfl
 refine ct h (fun hb h=>?_) fun hb h=>?_
 ·refine sg (rt ?_);cases h;exact Fz.v
 refine sk (sg ?_);have ⟨x1,Ξ,h⟩:=κ h;refine ⟨_,rfl,_,rfl,?_⟩;refine af.call (aiP Ξ) lz ?_;refine rt ?_;cases h;exact Fz.v
def aiQ {a b r} (h:Fs a b=some r):Pure prog 138 [.s (mI a),.s (mI b)] (vb r):=by
 refine pq tok 27 func138 ?_;unfold Fs at h;refine sg (sq (sg ?_));refine ⟨_,ay _,fun _=>⟨_,ay _,fun _=>?_⟩⟩;refine ct h (fun hb h=>?_) fun hb h=>?_
 ·refine sg (rt ?_);cases h;exact Fz.v
 refine sk (Ok.eW (fun v1=>⟨ar [],[]⟩) (fun v1=>OW v1=some r) ?_ ?_)
 ·refine sg (bl (Ok.loop (fun (s1:Int)=>⟨ar [(0,.s (mI a)),(1,.s (mI b)),(5,vi s1)],[]⟩) (Ft a b) (s0:=0) h (wt Q3 Q0 rfl) ?_));intro s1 y1 ζ aP;unfold Ft at ζ;refine sq (sg ?_);refine ⟨_,ay _,fun _=>?_⟩;refine ct ζ (fun hb ζ=>?_) fun hb ζ=>?_
  ·refine sk (sq (bl (sq (dw 10 tok mixed ?_))));have ⟨x1,Ξ,ζ⟩:=κ ζ;have ⟨x2,au,ζ⟩:=κ ζ;have ⟨x3,aL,ζ⟩:=κ ζ;refine ⟨_,rfl,_,rfl,_,⟨_,bz Ξ,_,bC Ξ,rfl⟩,_,⟨_,rfl,rfl⟩,_,rfl,_,rfl,_,⟨_,bz au,_,bC au,rfl⟩,_,⟨_,rfl,rfl⟩,_,⟨_,.fk (Yi aL) lz,rfl⟩,_,rfl,Q0,?_⟩;refine ct ζ (fun hb ζ=>?_) fun hb ζ=>?_
   ·refine sg (rt ?_);have ζ:=bx ζ aP;cases ζ;exact Fz.v
   refine sk (rg ?_);have ⟨aw,ζ⟩:=aG ζ;refine (θ ⟨aw,?_⟩);exact ⟨_,sj ζ,wt Q3 Q0 rfl⟩
  refine xt ?_;have ζ:=bx ζ aP;exact ⟨_,ζ,wt Q0 Q0 rfl⟩
 intro v1 h;unfold OW at h;refine sg (rt ?_);cases h;exact Fz.v
def aiO {c d r} (h:B3 c d=some r):Pure prog 80 [.a (b0 c),.a (b0 d)] (vb r):=by
 refine pq tok 24 func80 ?_;unfold B3 at h;refine sg ?_;have ⟨v1,ν,h⟩:=κ h;refine Ok.bh ⟨ar [(4,vb v1)],[]⟩ ?_ ?_
 ·refine rg ⟨_,rfl,_,rfl,?_⟩;have ⟨c1,Δ,ν⟩:=κ ν;refine Br.ite Δ (fun hb Δ=>?_) fun hb Δ=>?_
  ·refine ⟨_,rfl,_,rfl,?_⟩;cases Δ;have ⟨c2,aI,ν⟩:=κ ν;refine Br.ite aI (fun hb aI=>?_) fun hb aI=>?_
   ·have ⟨x1,Ξ,aI⟩:=κ aI;refine ⟨_,rfl,_,rfl,?_⟩;refine af.call (aiQ Ξ) lz ?_;cases aI;cases ν;exact wt Q1 Q0 rfl
   cases aI;cases ν;exact wt Q1 Q0 rfl
  cases Δ;have ⟨c2,aX,ν⟩:=κ ν;replace aX:=ed aX;cases aX;cases ν;exact wt Q1 Q0 rfl
 refine rt ?_;cases h;exact Fz.v
def aiT {c d r} (h:Fv c d=some r):Pure prog 32 [.a (b1 c),.a (b1 d)] (vb r):=by
 refine pq tok 130 func32 ?_;unfold Fv at h;refine sg (sq ?_);have ⟨v1,ν,h⟩:=κ h;refine Ok.bh ⟨ar [(2,.b 2 0),(3,.b 3 0),(56,vb v1)],[(2,.box (b1 c)),(3,.box (b1 d))]⟩ ?_ ?_
 ·refine rg ?_;have ⟨x1,Ξ,ν⟩:=κ ν;refine ⟨_,rfl,_,rfl,?_⟩;refine af.call (aiO Ξ) lz ?_;have ⟨c1,Δ,ν⟩:=κ ν;refine Br.dV Δ (fun hb Δ=>?_) fun hb Δ=>?_
  ·cases Δ;have ⟨c2,aI,ν⟩:=κ ν;replace aI:=ee aI;cases aI;have ⟨c3,aX,ν⟩:=κ ν;replace aX:=ee aX;cases aX;have ⟨c4,cU,ν⟩:=κ ν;replace cU:=ee cU;cases cU;have ⟨c5,db,ν⟩:=κ ν;replace db:=ee db;cases db;cases ν;exact wt Q3 J2 rfl
  refine ⟨_,rfl,_,rfl,?_⟩;cases Δ;have ⟨c2,eD,ν⟩:=κ ν;refine Br.dV eD (fun hb eD=>?_) fun hb eD=>?_
  ·cases eD;have ⟨c3,fw,ν⟩:=κ ν;replace fw:=ee fw;cases fw;have ⟨c4,fH,ν⟩:=κ ν;replace fH:=ee fH;cases fH;have ⟨c5,gT,ν⟩:=κ ν;replace gT:=ee gT;cases gT;cases ν;exact wt Q3 J2 rfl
  refine ⟨_,rfl,_,rfl,?_⟩;cases eD;have ⟨c3,fu,ν⟩:=κ ν;refine Br.dV fu (fun hb fu=>?_) fun hb fu=>?_
  ·cases fu;have ⟨c4,iz,ν⟩:=κ ν;replace iz:=ee iz;cases iz;have ⟨c5,iA,ν⟩:=κ ν;replace iA:=ee iA;cases iA;cases ν;exact wt Q3 J2 rfl
  refine ⟨_,rfl,_,ay _,fun _=>⟨_,rfl,_,ay _,fun _=>?_⟩⟩;cases fu;have ⟨c4,jN,ν⟩:=κ ν;refine Br.dV jN (fun hb jN=>?_) fun hb jN=>?_
  ·cases jN;have ⟨c5,kM,ν⟩:=κ ν;replace kM:=ee kM;cases kM;cases ν;exact wt Q3 J2 rfl
  refine ⟨_,rfl,_,ay _,fun _=>⟨_,rfl,_,ay _,fun _=>?_⟩⟩;cases jN;have ⟨c5,jO,ν⟩:=κ ν;refine Br.dV jO (fun hb jO=>?_) fun hb jO=>?_
  ·cases jO;cases ν;exact wt Q3 J2 rfl
  refine ⟨_,rfl,_,ay _,fun _=>⟨_,rfl,_,ay _,fun _=>?_⟩⟩;cases jO;cases ν;exact wt Q3 J2 rfl
 refine ct h (fun hb h=>?_) fun hb h=>?_
 ·refine sg (rt ?_);cases h;exact Fz.v
 refine sk (Ok.eW (fun v2=>⟨ar [(2,.b 2 0),(3,.b 3 0)],[(2,.box (b1 c)),(3,.box (b1 d))]⟩) (fun v2=>JG c d v2=some r) ?_ ?_)
 ·refine sg (bl (Ok.loop (fun (s1:Int)=>⟨ar [(2,.b 2 0),(3,.b 3 0),(5,vi s1)],[(2,.box (b1 c)),(3,.box (b1 d))]⟩) (Fw c d) (s0:=0) h (wt Q3 ⟨⟨_,rfl,.refl _⟩,⟨_,rfl,.refl _⟩,Q0⟩ rfl) ?_));intro s1 y1 ζ aP;unfold Fw at ζ;refine sq (sg ?_);refine ⟨_,rfl,_,ay _,fun _=>?_⟩;refine ct ζ (fun hb ζ=>?_) fun hb ζ=>?_
  ·refine sk (sq (bl (sq (dw 11 tok mixed ?_))));have ⟨x2,au,ζ⟩:=κ ζ;have ⟨x3,aL,ζ⟩:=κ ζ;refine ⟨_,rfl,_,⟨_,rfl,rfl⟩,_,rfl,_,⟨_,bz au,_,bC au,rfl⟩,_,⟨_,rfl,rfl⟩,_,rfl,_,⟨_,rfl,rfl⟩,_,rfl,_,⟨_,bz aL,_,bC aL,rfl⟩,_,⟨_,rfl,rfl⟩,_,rfl,Q0,?_⟩;refine ct ζ (fun hb ζ=>?_) fun hb ζ=>?_
   ·refine sg (rt ?_);have ζ:=bx ζ aP;cases ζ;exact Fz.v
   refine sk (rg ?_);have ⟨aw,ζ⟩:=aG ζ;refine (θ ⟨aw,?_⟩);exact ⟨_,sj ζ,wt Q3 J2 rfl⟩
  refine xt ?_;have ζ:=bx ζ aP;exact ⟨_,ζ,wt Q2 ⟨⟨_,rfl,.refl _⟩,⟨_,rfl,.refl _⟩,Q0⟩ rfl⟩
 intro v2 h;unfold JG at h;refine Ok.eW (fun v3=>⟨ar [(2,.b 2 0),(3,.b 3 0)],[(2,.box (b1 c)),(3,.box (b1 d))]⟩) (fun v3=>JH c d v3=some r) ?_ ?_
 ·refine sg (bl (Ok.loop (fun (s2:Int)=>⟨ar [(2,.b 2 0),(3,.b 3 0),(6,vi s2)],[(2,.box (b1 c)),(3,.box (b1 d))]⟩) (B6 c d) (s0:=0) h (wt Q3 ⟨⟨_,rfl,.refl _⟩,⟨_,rfl,.refl _⟩,Q0⟩ rfl) ?_));intro s2 y2 aD gX;unfold B6 at aD;refine sq (sg ?_);refine ⟨_,rfl,_,ay _,fun _=>?_⟩;refine ct aD (fun hb aD=>?_) fun hb aD=>?_
  ·refine sk (sq (bl (sg ?_)));have ⟨x4,bu,aD⟩:=κ aD;refine ⟨_,rfl,_,bz bu,_,bC bu,_,rfl,_,rfl,?_⟩;refine sg ?_;have ⟨x5,dA,aD⟩:=κ aD;refine ⟨_,rfl,_,bz dA,_,bC dA,_,rfl,_,rfl,?_⟩;have ⟨v4,fR,aD⟩:=κ aD;refine Ok.bh ⟨ar [(2,.b 2 0),(3,.b 3 0),(6,vi s2),(111,vb v4)],[(2,.box (b1 c)),(3,.box (b1 d))]⟩ ?_ ?_
   ·refine rg ⟨_,rfl,_,rfl,?_⟩;have ⟨c6,nF,fR⟩:=κ fR;refine Br.dV nF (fun hb nF=>?_) fun hb nF=>?_
    ·cases nF;have ⟨c7,q8,fR⟩:=κ fR;replace q8:=ee q8;cases q8;cases fR;exact wt Q4 J2 rfl
    refine ⟨_,rfl,_,rfl,?_⟩;cases nF;have ⟨c7,nG,fR⟩:=κ fR;refine Br.dV nG (fun hb nG=>?_) fun hb nG=>?_
    ·cases nG;cases fR;exact wt Q4 J2 rfl
    have ⟨x6,gW,nG⟩:=κ nG;refine ⟨_,rfl,_,rfl,?_⟩;refine af.call (Yi gW) lz ?_;cases nG;cases fR;exact wt Q4 J2 rfl
   refine ct aD (fun hb aD=>?_) fun hb aD=>?_
   ·refine sg (rt ?_);have aD:=bx aD gX;cases aD;exact Fz.v
   refine sk (rg ?_);have ⟨br,aD⟩:=aG aD;refine (θ ⟨br,?_⟩);exact ⟨_,sj aD,wt Q3 J2 rfl⟩
  refine xt ?_;have aD:=bx aD gX;exact ⟨_,aD,wt Q2 ⟨⟨_,rfl,.refl _⟩,⟨_,rfl,.refl _⟩,Q0⟩ rfl⟩
 intro v3 h;unfold JH at h;refine Ok.eW (fun v5=>⟨ar [],[]⟩) (fun v5=>JI v5=some r) ?_ ?_
 ·refine sg (bl (Ok.loop (fun (s3:Int)=>⟨ar [(2,.b 2 0),(3,.b 3 0),(9,vi s3)],[(2,.box (b1 c)),(3,.box (b1 d))]⟩) (B7 c d) (s0:=0) h (wt Q3 ⟨⟨_,rfl,.refl _⟩,⟨_,rfl,.refl _⟩,Q0⟩ rfl) ?_));intro s3 y3 j7 U1;unfold B7 at j7;refine sq (sg ?_);refine ⟨_,rfl,_,ay _,fun _=>?_⟩;refine ct j7 (fun hb j7=>?_) fun hb j7=>?_
  ·refine sk (sq (bl (sq (dw 11 tok mixed ?_))));have ⟨x7,gn,j7⟩:=κ j7;have ⟨x8,jS,j7⟩:=κ j7;refine ⟨_,rfl,_,⟨_,rfl,rfl⟩,_,rfl,_,⟨_,bz gn,_,bC gn,rfl⟩,_,⟨_,rfl,rfl⟩,_,rfl,_,⟨_,rfl,rfl⟩,_,rfl,_,⟨_,bz jS,_,bC jS,rfl⟩,_,⟨_,rfl,rfl⟩,_,⟨[.one (.int .i64),.one (.int .i64),.one (.int .i64)],by kernel_rfl,rfl⟩,Q0,?_⟩;refine ct j7 (fun hb j7=>?_) fun hb j7=>?_
   ·refine sg (rt ?_);have j7:=bx j7 U1;cases j7;exact Fz.v
   refine sk (rg ?_);have ⟨eo,j7⟩:=aG j7;refine (θ ⟨eo,?_⟩);exact ⟨_,sj j7,wt Q3 J2 rfl⟩
  refine xt ?_;have j7:=bx j7 U1;exact ⟨_,j7,wt Q0 Q0 rfl⟩
 intro v5 h;unfold JI at h;refine sg (rt ?_);cases h;exact Fz.v
def aiR {c d r} (h:B4 c d=some r):Pure prog 15 [.a (b2 c),.a (b2 d)] (vb r):=by
 refine pq tok 67 func15 ?_;unfold B4 at h;refine sg (sq ?_);have ⟨v1,ν,h⟩:=κ h;refine Ok.bh ⟨ar [(2,.b 2 0),(3,.b 3 0),(30,vb v1)],[(2,.box (b2 c)),(3,.box (b2 d))]⟩ ?_ ?_
 ·refine rg ?_;have ⟨x1,Ξ,ν⟩:=κ ν;refine ⟨_,rfl,_,rfl,?_⟩;refine af.call (aiT Ξ) lz ?_;have ⟨c1,Δ,ν⟩:=κ ν;refine Br.dV Δ (fun hb Δ=>?_) fun hb Δ=>?_
  ·cases Δ;have ⟨c2,aI,ν⟩:=κ ν;replace aI:=ee aI;cases aI;cases ν;exact wt Q3 J2 rfl
  refine ⟨_,rfl,_,ay _,fun _=>⟨_,rfl,_,ay _,fun _=>?_⟩⟩;cases Δ;have ⟨c2,aX,ν⟩:=κ ν;refine Br.dV aX (fun hb aX=>?_) fun hb aX=>?_
  ·cases aX;cases ν;exact wt Q3 J2 rfl
  refine ⟨_,rfl,_,ay _,fun _=>⟨_,rfl,_,ay _,fun _=>?_⟩⟩;cases aX;cases ν;exact wt Q3 J2 rfl
 refine ct h (fun hb h=>?_) fun hb h=>?_
 ·refine sg (rt ?_);cases h;exact Fz.v
 refine sk (Ok.eW (fun v2=>⟨ar [(2,.b 2 0),(3,.b 3 0)],[(2,.box (b2 c)),(3,.box (b2 d))]⟩) (fun v2=>JJ c d v2=some r) ?_ ?_)
 ·refine sg (bl (Ok.loop (fun (s1:Int)=>⟨ar [(2,.b 2 0),(3,.b 3 0),(5,vi s1)],[(2,.box (b2 c)),(3,.box (b2 d))]⟩) (Fx c d) (s0:=0) h (wt Q3 ⟨⟨_,rfl,.refl _⟩,⟨_,rfl,.refl _⟩,Q0⟩ rfl) ?_));intro s1 y1 ζ aP;unfold Fx at ζ;refine sq (sg ?_);refine ⟨_,rfl,_,ay _,fun _=>?_⟩;refine ct ζ (fun hb ζ=>?_) fun hb ζ=>?_
  ·refine sk (sq (bl (sq (dw 11 tok mixed ?_))));have ⟨x2,au,ζ⟩:=κ ζ;have ⟨x3,aL,ζ⟩:=κ ζ;refine ⟨_,rfl,_,⟨_,rfl,rfl⟩,_,rfl,_,⟨_,bz au,_,bC au,rfl⟩,_,⟨_,rfl,rfl⟩,_,rfl,_,⟨_,rfl,rfl⟩,_,rfl,_,⟨_,bz aL,_,bC aL,rfl⟩,_,⟨_,rfl,rfl⟩,_,⟨[.one (.int .i64),.one (.int .i64),.one (.int .i64)],by kernel_rfl,rfl⟩,Q0,?_⟩;refine ct ζ (fun hb ζ=>?_) fun hb ζ=>?_
   ·refine sg (rt ?_);have ζ:=bx ζ aP;cases ζ;exact Fz.v
   refine sk (rg ?_);have ⟨aw,ζ⟩:=aG ζ;refine (θ ⟨aw,?_⟩);exact ⟨_,sj ζ,wt Q3 J2 rfl⟩
  refine xt ?_;have ζ:=bx ζ aP;exact ⟨_,ζ,wt Q2 ⟨⟨_,rfl,.refl _⟩,⟨_,rfl,.refl _⟩,Q0⟩ rfl⟩
 intro v2 h;unfold JJ at h;refine Ok.eW (fun v3=>⟨ar [],[]⟩) (fun v3=>JK v3=some r) ?_ ?_
 ·refine sg (bl (Ok.loop (fun (s2:Int)=>⟨ar [(2,.b 2 0),(3,.b 3 0),(6,vi s2)],[(2,.box (b2 c)),(3,.box (b2 d))]⟩) (B8 c d) (s0:=0) h (wt Q3 ⟨⟨_,rfl,.refl _⟩,⟨_,rfl,.refl _⟩,Q0⟩ rfl) ?_));intro s2 y2 aD gX;unfold B8 at aD;refine sq (sg ?_);refine ⟨_,rfl,_,ay _,fun _=>?_⟩;refine ct aD (fun hb aD=>?_) fun hb aD=>?_
  ·refine sk (sq (bl (sq (dw 11 tok mixed ?_))));have ⟨x4,bu,aD⟩:=κ aD;have ⟨x5,dA,aD⟩:=κ aD;refine ⟨_,rfl,_,⟨_,rfl,rfl⟩,_,rfl,_,⟨_,bz bu,_,bC bu,rfl⟩,_,⟨_,rfl,rfl⟩,_,rfl,_,⟨_,rfl,rfl⟩,_,rfl,_,⟨_,bz dA,_,bC dA,rfl⟩,_,⟨_,rfl,rfl⟩,_,⟨[.one (.int .i64),.one (.int .i64),.one (.int .i64)],by kernel_rfl,rfl⟩,Q0,?_⟩;refine ct aD (fun hb aD=>?_) fun hb aD=>?_
   ·refine sg (rt ?_);have aD:=bx aD gX;cases aD;exact Fz.v
   refine sk (rg ?_);have ⟨br,aD⟩:=aG aD;refine (θ ⟨br,?_⟩);exact ⟨_,sj aD,wt Q3 J2 rfl⟩
  refine xt ?_;have aD:=bx aD gX;exact ⟨_,aD,wt Q0 Q0 rfl⟩
 intro v3 h;unfold JK at h;refine sg (rt ?_);cases h;exact Fz.v
def ajh [oV] {c d e r} (h:Gd c d e=some r):Pure prog 4 [.s (mH c),vu d,vs e] (vb r):=by
 refine pq tok 110 func4 ?_;unfold Gd at h;refine sg (sg ?_);have ⟨x1,Ξ,h⟩:=κ h;refine af.call (aji Ξ) lz ?_;refine sq ?_;have ⟨v1,ν,h⟩:=κ h;refine Ok.bh ⟨ar [(0,.s (mH c)),(1,vu d),(2,vs e),(7,vb x1),(24,vb v1)],[]⟩ ?_ ?_
 ·refine rg ?_;have ⟨x2,au,ν⟩:=κ ν;refine af.call (aiA au) lz ?_;have ⟨c1,Δ,ν⟩:=κ ν;refine Br.dV Δ (fun hb Δ=>?_) fun hb Δ=>?_
  ·cases Δ;cases ν;exact wt Q5 Q0 rfl
  refine ⟨_,nZ _,?_⟩;cases Δ;cases ν;exact wt Q5 Q0 rfl
 refine ct h (fun hb h=>?_) fun hb h=>?_
 ·refine sg (rt ?_);cases h;exact Fz.v
 refine sk (sg ?_);have ⟨x3,aL,h⟩:=κ h;refine af.call (Ql aL) lz ?_;refine ⟨_,rfl,?_⟩;refine sg ?_;have ⟨x4,bu,h⟩:=κ h;refine af.call (Ql bu) lz ?_;refine ⟨_,rfl,?_⟩;refine Ok.eW (fun v2=>⟨ar [(7,vb x1),(8,.b 8 0),(9,.b 9 0)],[(8,.box (k5 v2.1 v2.2.1 v2.2.2.1 v2.2.2.2.1 v2.2.2.2.2.1 v2.2.2.2.2.2.1 v2.2.2.2.2.2.2.1 v2.2.2.2.2.2.2.2.1 v2.2.2.2.2.2.2.2.2.1 v2.2.2.2.2.2.2.2.2.2.1)),(9,.box (k5 v2.2.2.2.2.2.2.2.2.2.2.1 v2.2.2.2.2.2.2.2.2.2.2.2.1 v2.2.2.2.2.2.2.2.2.2.2.2.2.1 v2.2.2.2.2.2.2.2.2.2.2.2.2.2.1 v2.2.2.2.2.2.2.2.2.2.2.2.2.2.2.1 v2.2.2.2.2.2.2.2.2.2.2.2.2.2.2.2.1 v2.2.2.2.2.2.2.2.2.2.2.2.2.2.2.2.2.1 v2.2.2.2.2.2.2.2.2.2.2.2.2.2.2.2.2.2.1 v2.2.2.2.2.2.2.2.2.2.2.2.2.2.2.2.2.2.2.1 v2.2.2.2.2.2.2.2.2.2.2.2.2.2.2.2.2.2.2.2))]⟩) (fun v2=>Kr x1 v2=some r) ?_ ?_
 ·refine sg (bl (Ok.loop (fun (s1:Int×xa)=>⟨ar [(0,.s (mH c)),(1,vu d),(2,vs e),(7,vb x1),(8,.b 8 0),(9,.b 9 0),(10,vi s1.1)],[(8,.box (k5 s1.2.1 s1.2.2.1 s1.2.2.2.1 s1.2.2.2.2.1 s1.2.2.2.2.2.1 s1.2.2.2.2.2.2.1 s1.2.2.2.2.2.2.2.1 s1.2.2.2.2.2.2.2.2.1 s1.2.2.2.2.2.2.2.2.2.1 s1.2.2.2.2.2.2.2.2.2.2.1)),(9,.box (k5 s1.2.2.2.2.2.2.2.2.2.2.2.1 s1.2.2.2.2.2.2.2.2.2.2.2.2.1 s1.2.2.2.2.2.2.2.2.2.2.2.2.2.1 s1.2.2.2.2.2.2.2.2.2.2.2.2.2.2.1 s1.2.2.2.2.2.2.2.2.2.2.2.2.2.2.2.1 s1.2.2.2.2.2.2.2.2.2.2.2.2.2.2.2.2.1 s1.2.2.2.2.2.2.2.2.2.2.2.2.2.2.2.2.2.1 s1.2.2.2.2.2.2.2.2.2.2.2.2.2.2.2.2.2.2.1 s1.2.2.2.2.2.2.2.2.2.2.2.2.2.2.2.2.2.2.2.1 s1.2.2.2.2.2.2.2.2.2.2.2.2.2.2.2.2.2.2.2.2))]⟩) (Kq c d e x1) (s0:=(0,x3.S.Γ.η,x3.S.Γ.Next,x3.S.Γ.aj,x3.S.aT,x3.S.aQ,x3.S.aS,x3.S.aW,x3.S.Next,x3.Holds,x3.bc,x4.S.Γ.η,x4.S.Γ.Next,x4.S.Γ.aj,x4.S.aT,x4.S.aQ,x4.S.aS,x4.S.aW,x4.S.Next,x4.Holds,x4.bc)) h (wt Q7 ⟨⟨_,rfl,.refl _⟩,⟨_,rfl,.refl _⟩,Q0⟩ rfl) ?_));intro s1 y1 ζ aP;unfold Kq at ζ;refine sq (sg ?_);refine ⟨_,ay _,fun _=>?_⟩;refine ct ζ (fun hb ζ=>?_) fun hb ζ=>?_
  ·refine sk (Ok.eW (fun v3=>⟨ar [(0,.s (mH c)),(1,vu d),(2,vs e),(7,vb x1),(8,.b 8 0),(9,.b 9 0),(10,vi s1.1)],[(8,.box (k5 v3.1 v3.2.1 v3.2.2.1 v3.2.2.2.1 v3.2.2.2.2.1 v3.2.2.2.2.2.1 v3.2.2.2.2.2.2.1 v3.2.2.2.2.2.2.2.1 v3.2.2.2.2.2.2.2.2.1 v3.2.2.2.2.2.2.2.2.2.1)),(9,.box (k5 v3.2.2.2.2.2.2.2.2.2.2.1 v3.2.2.2.2.2.2.2.2.2.2.2.1 v3.2.2.2.2.2.2.2.2.2.2.2.2.1 v3.2.2.2.2.2.2.2.2.2.2.2.2.2.1 v3.2.2.2.2.2.2.2.2.2.2.2.2.2.2.1 v3.2.2.2.2.2.2.2.2.2.2.2.2.2.2.2.1 v3.2.2.2.2.2.2.2.2.2.2.2.2.2.2.2.2.1 v3.2.2.2.2.2.2.2.2.2.2.2.2.2.2.2.2.2.1 v3.2.2.2.2.2.2.2.2.2.2.2.2.2.2.2.2.2.2.1 v3.2.2.2.2.2.2.2.2.2.2.2.2.2.2.2.2.2.2.2))]⟩) (fun v3=>Cv s1 v3=some y1) ?_ ?_)
   ·refine bl ?_;have ⟨v4,fR,ζ⟩:=κ ζ;refine Ok.bh ⟨ar [(0,.s (mH c)),(1,vu d),(2,vs e),(7,vb x1),(8,.b 8 0),(9,.b 9 0),(10,vi s1.1)],[(8,.box (k5 s1.2.1 s1.2.2.1 s1.2.2.2.1 s1.2.2.2.2.1 s1.2.2.2.2.2.1 s1.2.2.2.2.2.2.1 s1.2.2.2.2.2.2.2.1 s1.2.2.2.2.2.2.2.2.1 s1.2.2.2.2.2.2.2.2.2.1 s1.2.2.2.2.2.2.2.2.2.2.1)),(9,.box (k5 v4.1 v4.2.1 v4.2.2.1 v4.2.2.2.1 v4.2.2.2.2.1 v4.2.2.2.2.2.1 v4.2.2.2.2.2.2.1 v4.2.2.2.2.2.2.2.1 v4.2.2.2.2.2.2.2.2.1 v4.2.2.2.2.2.2.2.2.2))]⟩ ?_ ?_
    ·refine sg ?_;have ⟨aw,fR⟩:=aG fR;refine ⟨_,YJ (k:=.i64) (by decide) _,_,ay _,fun _=>⟨aw,_,rfl,?_⟩⟩;refine ct fR (fun hb fR=>?_) fun hb fR=>?_
     ·refine sg ?_;have ⟨x5,dA,fR⟩:=κ fR;refine ⟨_,rfl,?_⟩;refine af.call (xb dA) (l1 (.cons (Le.a (l4 (l2 (l1 (.cons (Le.nil) .nil))))) .nil)) ?_;refine ⟨_,rfl,_,rfl,?_⟩;refine rg ⟨_,rfl,_,rfl,?_⟩;cases fR;exact wt Q7 J2 rfl
     refine sk ?_;cases fR;exact wt Q7 J2 rfl
    refine sq ?_;have ⟨v5,dj,ζ⟩:=κ ζ;refine Ok.bh ⟨ar [(0,.s (mH c)),(1,vu d),(2,vs e),(7,vb x1),(8,.b 8 0),(9,.b 9 0),(10,vi s1.1),(70,vb v5)],[(8,.box (k5 s1.2.1 s1.2.2.1 s1.2.2.2.1 s1.2.2.2.2.1 s1.2.2.2.2.2.1 s1.2.2.2.2.2.2.1 s1.2.2.2.2.2.2.2.1 s1.2.2.2.2.2.2.2.2.1 s1.2.2.2.2.2.2.2.2.2.1 s1.2.2.2.2.2.2.2.2.2.2.1)),(9,.box (k5 v4.1 v4.2.1 v4.2.2.1 v4.2.2.2.1 v4.2.2.2.2.1 v4.2.2.2.2.2.1 v4.2.2.2.2.2.2.1 v4.2.2.2.2.2.2.2.1 v4.2.2.2.2.2.2.2.2.1 v4.2.2.2.2.2.2.2.2.2))]⟩ ?_ ?_
    ·refine rg ?_;have ⟨x6,gW,dj⟩:=κ dj;refine ⟨_,bz gW,_,bC gW,_,rfl,?_⟩;have ⟨c2,aI,dj⟩:=κ dj;refine Br.dV aI (fun hb aI=>?_) fun hb aI=>?_
     ·cases aI;have ⟨c3,aX,dj⟩:=κ dj;replace aX:=ee aX;cases aX;cases dj;exact wt Q8 J2 rfl
     have ⟨x7,gn,aI⟩:=κ aI;refine ⟨_,bz gn,_,bC gn,_,rfl,?_⟩;cases aI;have ⟨c3,cU,dj⟩:=κ dj;refine Br.dV cU (fun hb cU=>?_) fun hb cU=>?_
     ·cases cU;cases dj;exact wt Q8 J2 rfl
     have ⟨x8,jS,cU⟩:=κ cU;refine ⟨_,bz jS,_,bC jS,_,rfl,?_⟩;cases cU;cases dj;exact wt Q8 J2 rfl
    refine ct ζ (fun hb ζ=>?_) fun hb ζ=>?_
    ·refine xt ?_;exact ⟨_,ζ,wt Q7 ⟨⟨_,rfl,.refl _⟩,⟨_,rfl,.refl _⟩,Q0⟩ rfl⟩
    refine sk (sq (Ok.p4 (m:=11) (late:=[8]) (MD:=⟨[]⟩) (CH:=⟨[]⟩) tok mixed (by kernel_rfl) ?_));have ⟨x9,j_,ζ⟩:=κ ζ;have ⟨gq,qg,ζ⟩:=κ ζ;refine ⟨_,⟨_,rfl,rfl⟩,_,rfl,_,rfl,_,⟨_,bz j_,_,bC j_,rfl⟩,_,⟨_,rfl,rfl⟩,_,⟨_,.fk (xb qg) lz,rfl⟩,_,rfl,_,rfl,_,rfl,Q0,?_⟩;refine ⟨_,rfl,⟨⟨_,rfl,rfl⟩,Q0⟩,_,rfl,?_⟩;refine sq (Ok.p4 (m:=11) (late:=[8]) (MD:=⟨[]⟩) (CH:=⟨[]⟩) tok mixed (by kernel_rfl) ?_);have ⟨iW,nN,ζ⟩:=κ ζ;have ⟨ei,oK,ζ⟩:=κ ζ;refine ⟨_,⟨_,rfl,rfl⟩,_,rfl,_,rfl,_,⟨_,bz nN,_,bC nN,rfl⟩,_,⟨_,rfl,rfl⟩,_,⟨_,.fk (xb oK) lz,rfl⟩,_,rfl,_,rfl,_,rfl,Q0,?_⟩;refine ⟨_,rfl,⟨⟨_,rfl,rfl⟩,Q0⟩,_,rfl,?_⟩;refine sq (sg ?_);have ⟨na,uI,ζ⟩:=κ ζ;refine ⟨_,rfl,_,rfl,?_⟩;refine af.call (aiS uI) lz ?_;refine ct ζ (fun hb ζ=>?_) fun hb ζ=>?_
    ·refine sg (rt ?_);have ζ:=bx ζ aP;cases ζ;exact Fz.v
    refine sk (sg ?_);refine ⟨_,rfl,_,rfl,?_⟩;refine rg ⟨_,rfl,_,rfl,?_⟩;exact ⟨_,ζ,wt Q7 ⟨⟨_,rfl,.refl _⟩,⟨_,rfl,.refl _⟩,Q0⟩ rfl⟩
   intro v3 ζ;unfold Cv at ζ;refine rg ?_;have ⟨br,ζ⟩:=aG ζ;refine (θ ⟨br,?_⟩);exact ⟨_,sj ζ,wt Q7 J2 rfl⟩
  refine xt ?_;have ζ:=bx ζ aP;exact ⟨_,ζ,wt Q3 ⟨⟨_,rfl,.refl _⟩,⟨_,rfl,.refl _⟩,Q0⟩ rfl⟩
 intro v2 h;unfold Kr at h;refine sg ⟨_,rfl,?_⟩;refine sg ⟨_,rfl,?_⟩;refine sg ⟨_,rfl,_,rfl,?_⟩;have ⟨v6,kT,h⟩:=κ h;refine Ok.bh ⟨ar [(6,vb v6)],[]⟩ ?_ ?_
 ·refine rg ?_;have ⟨c4,db,kT⟩:=κ kT;refine Br.ite db (fun hb db=>?_) fun hb db=>?_
  ·have ⟨nf,sR,db⟩:=κ db;refine ⟨_,rfl,_,rfl,?_⟩;refine af.call (aiR sR) (l1 (.cons (Le.a (l4 (l1 (.cons (Le.nil) (.cons (Le.nil) lz))))) .nil)) ?_;cases db;cases kT;exact wt Q1 Q0 rfl
  cases db;cases kT;exact wt Q1 Q0 rfl
 refine rt ?_;cases h;exact Fz.v
end Go.Proofs
