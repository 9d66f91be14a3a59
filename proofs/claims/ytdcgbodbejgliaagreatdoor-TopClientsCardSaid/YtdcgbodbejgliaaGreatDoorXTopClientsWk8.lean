/- The walks of this seat beside the plain programs, part 8. No condition. -/
import Derived.Test.YtdcgbodbejgliaaGreatDoorXTopClientsHb
import Derived.Test.YtdcgbodbejgliaaGreatDoorXTopClientsWk0
import Derived.Test.YtdcgbodbejgliaaGreatDoorXTopClientsWk1
import Derived.Test.YtdcgbodbejgliaaGreatDoorXTopClientsWk2
import Derived.Test.YtdcgbodbejgliaaGreatDoorXTopClientsWk3
import Derived.Test.YtdcgbodbejgliaaGreatDoorXTopClientsWk4
import Derived.Test.YtdcgbodbejgliaaGreatDoorXTopClientsWk5
import Derived.Test.YtdcgbodbejgliaaGreatDoorXTopClientsWk6
import Derived.Test.YtdcgbodbejgliaaGreatDoorXTopClientsWk7
open List renaming length_map → az
open Or renaming inl → θ
namespace Go.Proofs
set_option linter.all false
open Go Go.Cat Tryz
variable [M:bM]
set_option maxRecDepth 100000
set_option maxHeartbeats 4000000
def aiJ {a r} (h:E2 a=some r):Pure prog 9 [.s (mH a)] (vb r):=by
 refine pq tok 18 func9 ?_;unfold E2 at h;refine sg (sq (sg ?_));refine ⟨_,az _,fun _=>?_⟩;refine ct h (fun hb h=>?_) fun hb h=>?_
 ·refine sg (rt ?_);cases h;exact Fz.v
 refine sk (Ok.fg (fun v1=>⟨ar [],[]⟩) (fun v1=>Ox v1=some r) ?_ ?_)
 ·refine sg (bl (Ok.loop (fun (s1:Int)=>⟨ar [(0,.s (mH a)),(3,vi s1)],[]⟩) (Jh a) (s0:=0) h (wt Q2 Q0 rfl) ?_));intro s1 y1 ζ aQ;unfold Jh at ζ;refine sq (sg ?_);refine ⟨_,az _,fun _=>?_⟩;refine ct ζ (fun hb ζ=>?_) fun hb ζ=>?_
  ·refine sk (sq (bl (sg ?_)));have ⟨x1,Ξ,ζ⟩:=κ ζ;have ⟨x2,au,ζ⟩:=κ ζ;refine ⟨_,bK Ξ,_,bL Ξ,_,rfl,?_⟩;refine af.call (aiK au) lz ?_;refine ct ζ (fun hb ζ=>?_) fun hb ζ=>?_
   ·refine sg (rt ?_);have ζ:=bz ζ aQ;cases ζ;exact Fz.v
   refine sk (rg ?_);have ⟨ax,ζ⟩:=aG ζ;refine (θ ⟨ax,?_⟩);exact ⟨_,sj ζ,wt Q2 Q0 rfl⟩
  refine xt ?_;have ζ:=bz ζ aQ;exact ⟨_,ζ,wt Q0 Q0 rfl⟩
 intro v1 h;unfold Ox at h;refine sg (rt ?_);cases h;exact Fz.v
def ai1 {c d r} (h:Cc c d=some r):Pure prog 14 [.a (np c),.a (np d)] (vb r):=by
 refine pq tok 75 func14 ?_;unfold Cc at h;refine sg (sq ?_);have ⟨v1,ν,h⟩:=κ h;refine Ok.bj ⟨ar [(2,.b 2 0),(3,.b 3 0),(56,vb v1)],[(2,.box (np c)),(3,.box (np d))]⟩ ?_ ?_
 ·refine rg ⟨_,rfl,_,rfl,?_⟩;have ⟨c1,Δ,ν⟩:=κ ν;refine Br.ei Δ (fun hb Δ=>?_) fun hb Δ=>?_
  ·cases Δ;have ⟨c2,aI,ν⟩:=κ ν;replace aI:=eh aI;cases aI;have ⟨c3,aS,ν⟩:=κ ν;replace aS:=eh aS;cases aS;have ⟨c4,di,ν⟩:=κ ν;replace di:=eh di;cases di;have ⟨c5,dI,ν⟩:=κ ν;replace dI:=eh dI;cases dI;have ⟨c6,eF,ν⟩:=κ ν;replace eF:=eh eF;cases eF;cases ν;exact wt Q3 J2 rfl
  refine ⟨_,rfl,_,rfl,?_⟩;cases Δ;have ⟨c2,fy,ν⟩:=κ ν;refine Br.ei fy (fun hb fy=>?_) fun hb fy=>?_
  ·cases fy;have ⟨c3,fL,ν⟩:=κ ν;replace fL:=eh fL;cases fL;have ⟨c4,gV,ν⟩:=κ ν;replace gV:=eh gV;cases gV;have ⟨c5,fx,ν⟩:=κ ν;replace fx:=eh fx;cases fx;have ⟨c6,iB,ν⟩:=κ ν;replace iB:=eh iB;cases iB;cases ν;exact wt Q3 J2 rfl
  refine ⟨_,rfl,_,rfl,?_⟩;cases fy;have ⟨c3,iC,ν⟩:=κ ν;refine Br.ei iC (fun hb iC=>?_) fun hb iC=>?_
  ·cases iC;have ⟨c4,jR,ν⟩:=κ ν;replace jR:=eh jR;cases jR;have ⟨c5,kO,ν⟩:=κ ν;replace kO:=eh kO;cases kO;have ⟨c6,jS,ν⟩:=κ ν;replace jS:=eh jS;cases jS;cases ν;exact wt Q3 J2 rfl
  refine ⟨_,rfl,_,rfl,?_⟩;cases iC;have ⟨c4,nF,ν⟩:=κ ν;refine Br.ei nF (fun hb nF=>?_) fun hb nF=>?_
  ·cases nF;have ⟨c5,rv,ν⟩:=κ ν;replace rv:=eh rv;cases rv;have ⟨c6,nG,ν⟩:=κ ν;replace nG:=eh nG;cases nG;cases ν;exact wt Q3 J2 rfl
  refine ⟨_,rfl,_,rfl,?_⟩;cases nF;have ⟨c5,uK,ν⟩:=κ ν;refine Br.ei uK (fun hb uK=>?_) fun hb uK=>?_
  ·cases uK;have ⟨c6,yI,ν⟩:=κ ν;replace yI:=eh yI;cases yI;cases ν;exact wt Q3 J2 rfl
  refine ⟨_,rfl,_,az _,fun _=>⟨_,rfl,_,az _,fun _=>?_⟩⟩;cases uK;have ⟨c6,uL,ν⟩:=κ ν;refine Br.ei uL (fun hb uL=>?_) fun hb uL=>?_
  ·cases uL;cases ν;exact wt Q3 J2 rfl
  refine ⟨_,rfl,_,rfl,_,rfl,_,rfl,_,KG _ _,?_⟩;cases uL;cases ν;exact wt Q3 J2 rfl
 refine ct h (fun hb h=>?_) fun hb h=>?_
 ·refine sg (rt ?_);cases h;exact Fz.v
 refine sk (Ok.fg (fun v2=>⟨ar [],[]⟩) (fun v2=>JY v2=some r) ?_ ?_)
 ·refine sg (bl (Ok.loop (fun (s1:Int)=>⟨ar [(2,.b 2 0),(3,.b 3 0),(5,vi s1)],[(2,.box (np c)),(3,.box (np d))]⟩) (FE c d) (s0:=0) h (wt Q3 ⟨hr,hr,Q0⟩ rfl) ?_));intro s1 y1 ζ aQ;unfold FE at ζ;refine sq (sg ?_);refine ⟨_,rfl,_,az _,fun _=>?_⟩;refine ct ζ (fun hb ζ=>?_) fun hb ζ=>?_
  ·refine sk (sq (bl (sq (dw 11 tok mixed ?_))));have ⟨x1,Ξ,ζ⟩:=κ ζ;have ⟨x2,au,ζ⟩:=κ ζ;refine ⟨_,rfl,_,⟨_,rfl,rfl⟩,_,rfl,_,⟨_,bK Ξ,_,bL Ξ,rfl⟩,_,⟨_,rfl,rfl⟩,_,rfl,_,⟨_,rfl,rfl⟩,_,rfl,_,⟨_,bK au,_,bL au,rfl⟩,_,⟨_,rfl,rfl⟩,_,⟨_,KG _ _,rfl⟩,Q0,?_⟩;refine ct ζ (fun hb ζ=>?_) fun hb ζ=>?_
   ·refine sg (rt ?_);have ζ:=bz ζ aQ;cases ζ;exact Fz.v
   refine sk (rg ?_);have ⟨ax,ζ⟩:=aG ζ;refine (θ ⟨ax,?_⟩);exact ⟨_,sj ζ,wt Q3 J2 rfl⟩
  refine xt ?_;have ζ:=bz ζ aQ;exact ⟨_,ζ,wt Q0 Q0 rfl⟩
 intro v2 h;unfold JY at h;refine sg (rt ?_);cases h;exact Fz.v
def aiY {a b r} (h:FA a b=some r):Pure prog 139 [.s (mF a),.s (mF b)] (vb r):=by
 refine pq tok 26 func139 ?_;unfold FA at h;refine sg (sq (sg ?_));refine ⟨_,az _,fun _=>⟨_,az _,fun _=>?_⟩⟩;refine ct h (fun hb h=>?_) fun hb h=>?_
 ·refine sg (rt ?_);cases h;exact Fz.v
 refine sk (Ok.fg (fun v1=>⟨ar [],[]⟩) (fun v1=>Pe v1=some r) ?_ ?_)
 ·refine sg (bl (Ok.loop (fun (s1:Int)=>⟨ar [(0,.s (mF a)),(1,.s (mF b)),(5,vi s1)],[]⟩) (FB a b) (s0:=0) h (wt Q3 Q0 rfl) ?_));intro s1 y1 ζ aQ;unfold FB at ζ;refine sq (sg ?_);refine ⟨_,az _,fun _=>?_⟩;refine ct ζ (fun hb ζ=>?_) fun hb ζ=>?_
  ·refine sk (sq (bl (sq (dw 9 tok mixed ?_))));have ⟨x1,Ξ,ζ⟩:=κ ζ;have ⟨x2,au,ζ⟩:=κ ζ;refine ⟨_,rfl,_,rfl,_,⟨_,bK Ξ,_,bL Ξ,rfl⟩,_,⟨_,rfl,rfl⟩,_,rfl,_,rfl,_,⟨_,bK au,_,bL au,rfl⟩,_,⟨_,rfl,rfl⟩,_,⟨[.one (.str),.one (.int .i64),.one (.int .i64)],by kernel_rfl,rfl⟩,Q0,?_⟩;refine ct ζ (fun hb ζ=>?_) fun hb ζ=>?_
   ·refine sg (rt ?_);have ζ:=bz ζ aQ;cases ζ;exact Fz.v
   refine sk (rg ?_);have ⟨ax,ζ⟩:=aG ζ;refine (θ ⟨ax,?_⟩);exact ⟨_,sj ζ,wt Q3 Q0 rfl⟩
  refine xt ?_;have ζ:=bz ζ aQ;exact ⟨_,ζ,wt Q0 Q0 rfl⟩
 intro v1 h;unfold Pe at h;refine sg (rt ?_);cases h;exact Fz.v
def Yu {c d r} (h:zS c d=some r):Pure prog 81 [.a (b4 c),.a (b4 d)] (vb r):=by
 refine pq tok 45 func81 ?_;unfold zS at h;refine sg (sq ?_);have ⟨v1,ν,h⟩:=κ h;refine Ok.bj ⟨ar [(2,.b 2 0),(3,.b 3 0),(39,vb v1)],[(2,.box (b4 c)),(3,.box (b4 d))]⟩ ?_ ?_
 ·refine rg ⟨_,rfl,_,rfl,?_⟩;have ⟨c1,Δ,ν⟩:=κ ν;refine Br.ei Δ (fun hb Δ=>?_) fun hb Δ=>?_
  ·cases Δ;have ⟨c2,aI,ν⟩:=κ ν;replace aI:=eh aI;cases aI;have ⟨c3,aS,ν⟩:=κ ν;replace aS:=eh aS;cases aS;have ⟨c4,di,ν⟩:=κ ν;replace di:=eh di;cases di;cases ν;exact wt Q3 J2 rfl
  refine ⟨_,rfl,_,rfl,?_⟩;cases Δ;have ⟨c2,dI,ν⟩:=κ ν;refine Br.ei dI (fun hb dI=>?_) fun hb dI=>?_
  ·cases dI;have ⟨c3,eF,ν⟩:=κ ν;replace eF:=eh eF;cases eF;have ⟨c4,fy,ν⟩:=κ ν;replace fy:=eh fy;cases fy;cases ν;exact wt Q3 J2 rfl
  refine ⟨_,rfl,_,rfl,?_⟩;cases dI;have ⟨c3,fL,ν⟩:=κ ν;refine Br.ei fL (fun hb fL=>?_) fun hb fL=>?_
  ·cases fL;have ⟨c4,gV,ν⟩:=κ ν;replace gV:=eh gV;cases gV;cases ν;exact wt Q3 J2 rfl
  refine ⟨_,rfl,_,rfl,?_⟩;cases fL;have ⟨c4,fx,ν⟩:=κ ν;refine Br.ei fx (fun hb fx=>?_) fun hb fx=>?_
  ·cases fx;cases ν;exact wt Q3 J2 rfl
  refine ⟨_,rfl,_,rfl,_,rfl,_,rfl,_,KG _ _,?_⟩;cases fx;cases ν;exact wt Q3 J2 rfl
 refine ct h (fun hb h=>?_) fun hb h=>?_
 ·refine sg (rt ?_);cases h;exact Fz.v
 refine sk (sg ?_);have ⟨x1,Ξ,h⟩:=κ h;refine ⟨_,rfl,_,rfl,?_⟩;refine af.call (aiY Ξ) lz ?_;refine rt ?_;cases h;exact Fz.v
def aiZ {a b r} (h:FC a b=some r):Pure prog 138 [.s (mI a),.s (mI b)] (vb r):=by
 refine pq tok 27 func138 ?_;unfold FC at h;refine sg (sq (sg ?_));refine ⟨_,az _,fun _=>⟨_,az _,fun _=>?_⟩⟩;refine ct h (fun hb h=>?_) fun hb h=>?_
 ·refine sg (rt ?_);cases h;exact Fz.v
 refine sk (Ok.fg (fun v1=>⟨ar [],[]⟩) (fun v1=>Pf v1=some r) ?_ ?_)
 ·refine sg (bl (Ok.loop (fun (s1:Int)=>⟨ar [(0,.s (mI a)),(1,.s (mI b)),(5,vi s1)],[]⟩) (FD a b) (s0:=0) h (wt Q3 Q0 rfl) ?_));intro s1 y1 ζ aQ;unfold FD at ζ;refine sq (sg ?_);refine ⟨_,az _,fun _=>?_⟩;refine ct ζ (fun hb ζ=>?_) fun hb ζ=>?_
  ·refine sk (sq (bl (sq (dw 10 tok mixed ?_))));have ⟨x1,Ξ,ζ⟩:=κ ζ;have ⟨x2,au,ζ⟩:=κ ζ;have ⟨x3,aM,ζ⟩:=κ ζ;refine ⟨_,rfl,_,rfl,_,⟨_,bK Ξ,_,bL Ξ,rfl⟩,_,⟨_,rfl,rfl⟩,_,rfl,_,rfl,_,⟨_,bK au,_,bL au,rfl⟩,_,⟨_,rfl,rfl⟩,_,⟨_,.fE (Yu aM) lz,rfl⟩,_,rfl,Q0,?_⟩;refine ct ζ (fun hb ζ=>?_) fun hb ζ=>?_
   ·refine sg (rt ?_);have ζ:=bz ζ aQ;cases ζ;exact Fz.v
   refine sk (rg ?_);have ⟨ax,ζ⟩:=aG ζ;refine (θ ⟨ax,?_⟩);exact ⟨_,sj ζ,wt Q3 Q0 rfl⟩
  refine xt ?_;have ζ:=bz ζ aQ;exact ⟨_,ζ,wt Q0 Q0 rfl⟩
 intro v1 h;unfold Pf at h;refine sg (rt ?_);cases h;exact Fz.v
def aiX {c d r} (h:Ca c d=some r):Pure prog 80 [.a (b0 c),.a (b0 d)] (vb r):=by
 refine pq tok 24 func80 ?_;unfold Ca at h;refine sg ?_;have ⟨v1,ν,h⟩:=κ h;refine Ok.bj ⟨ar [(4,vb v1)],[]⟩ ?_ ?_
 ·refine rg ⟨_,rfl,_,rfl,?_⟩;have ⟨c1,Δ,ν⟩:=κ ν;refine Br.ite Δ (fun hb Δ=>?_) fun hb Δ=>?_
  ·refine ⟨_,rfl,_,rfl,?_⟩;cases Δ;have ⟨c2,aI,ν⟩:=κ ν;refine Br.ite aI (fun hb aI=>?_) fun hb aI=>?_
   ·have ⟨x1,Ξ,aI⟩:=κ aI;refine ⟨_,rfl,_,rfl,?_⟩;refine af.call (aiZ Ξ) lz ?_;cases aI;cases ν;exact wt Q1 Q0 rfl
   cases aI;cases ν;exact wt Q1 Q0 rfl
  cases Δ;have ⟨c2,aS,ν⟩:=κ ν;replace aS:=eb aS;cases aS;cases ν;exact wt Q1 Q0 rfl
 refine rt ?_;cases h;exact Fz.v
def ai2 {c d r} (h:FF c d=some r):Pure prog 32 [.a (b1 c),.a (b1 d)] (vb r):=by
 refine pq tok 130 func32 ?_;unfold FF at h;refine sg (sq ?_);have ⟨v1,ν,h⟩:=κ h;refine Ok.bj ⟨ar [(2,.b 2 0),(3,.b 3 0),(56,vb v1)],[(2,.box (b1 c)),(3,.box (b1 d))]⟩ ?_ ?_
 ·refine rg ?_;have ⟨x1,Ξ,ν⟩:=κ ν;refine ⟨_,rfl,_,rfl,?_⟩;refine af.call (aiX Ξ) lz ?_;have ⟨c1,Δ,ν⟩:=κ ν;refine Br.ei Δ (fun hb Δ=>?_) fun hb Δ=>?_
  ·cases Δ;have ⟨c2,aI,ν⟩:=κ ν;replace aI:=eh aI;cases aI;have ⟨c3,aS,ν⟩:=κ ν;replace aS:=eh aS;cases aS;have ⟨c4,di,ν⟩:=κ ν;replace di:=eh di;cases di;have ⟨c5,dI,ν⟩:=κ ν;replace dI:=eh dI;cases dI;cases ν;exact wt Q3 J2 rfl
  refine ⟨_,rfl,_,rfl,?_⟩;cases Δ;have ⟨c2,eF,ν⟩:=κ ν;refine Br.ei eF (fun hb eF=>?_) fun hb eF=>?_
  ·cases eF;have ⟨c3,fy,ν⟩:=κ ν;replace fy:=eh fy;cases fy;have ⟨c4,fL,ν⟩:=κ ν;replace fL:=eh fL;cases fL;have ⟨c5,gV,ν⟩:=κ ν;replace gV:=eh gV;cases gV;cases ν;exact wt Q3 J2 rfl
  refine ⟨_,rfl,_,rfl,?_⟩;cases eF;have ⟨c3,fx,ν⟩:=κ ν;refine Br.ei fx (fun hb fx=>?_) fun hb fx=>?_
  ·cases fx;have ⟨c4,iB,ν⟩:=κ ν;replace iB:=eh iB;cases iB;have ⟨c5,iC,ν⟩:=κ ν;replace iC:=eh iC;cases iC;cases ν;exact wt Q3 J2 rfl
  refine ⟨_,rfl,_,az _,fun _=>⟨_,rfl,_,az _,fun _=>?_⟩⟩;cases fx;have ⟨c4,jR,ν⟩:=κ ν;refine Br.ei jR (fun hb jR=>?_) fun hb jR=>?_
  ·cases jR;have ⟨c5,kO,ν⟩:=κ ν;replace kO:=eh kO;cases kO;cases ν;exact wt Q3 J2 rfl
  refine ⟨_,rfl,_,az _,fun _=>⟨_,rfl,_,az _,fun _=>?_⟩⟩;cases jR;have ⟨c5,jS,ν⟩:=κ ν;refine Br.ei jS (fun hb jS=>?_) fun hb jS=>?_
  ·cases jS;cases ν;exact wt Q3 J2 rfl
  refine ⟨_,rfl,_,az _,fun _=>⟨_,rfl,_,az _,fun _=>?_⟩⟩;cases jS;cases ν;exact wt Q3 J2 rfl
 refine ct h (fun hb h=>?_) fun hb h=>?_
 ·refine sg (rt ?_);cases h;exact Fz.v
 refine sk (Ok.fg (fun v2=>⟨ar [(2,.b 2 0),(3,.b 3 0)],[(2,.box (b1 c)),(3,.box (b1 d))]⟩) (fun v2=>JZ c d v2=some r) ?_ ?_)
 ·refine sg (bl (Ok.loop (fun (s1:Int)=>⟨ar [(2,.b 2 0),(3,.b 3 0),(5,vi s1)],[(2,.box (b1 c)),(3,.box (b1 d))]⟩) (FH c d) (s0:=0) h (wt Q3 ⟨hr,hr,Q0⟩ rfl) ?_));intro s1 y1 ζ aQ;unfold FH at ζ;refine sq (sg ?_);refine ⟨_,rfl,_,az _,fun _=>?_⟩;refine ct ζ (fun hb ζ=>?_) fun hb ζ=>?_
  ·refine sk (sq (bl (sq (dw 11 tok mixed ?_))));have ⟨x2,au,ζ⟩:=κ ζ;have ⟨x3,aM,ζ⟩:=κ ζ;refine ⟨_,rfl,_,⟨_,rfl,rfl⟩,_,rfl,_,⟨_,bK au,_,bL au,rfl⟩,_,⟨_,rfl,rfl⟩,_,rfl,_,⟨_,rfl,rfl⟩,_,rfl,_,⟨_,bK aM,_,bL aM,rfl⟩,_,⟨_,rfl,rfl⟩,_,rfl,Q0,?_⟩;refine ct ζ (fun hb ζ=>?_) fun hb ζ=>?_
   ·refine sg (rt ?_);have ζ:=bz ζ aQ;cases ζ;exact Fz.v
   refine sk (rg ?_);have ⟨ax,ζ⟩:=aG ζ;refine (θ ⟨ax,?_⟩);exact ⟨_,sj ζ,wt Q3 J2 rfl⟩
  refine xt ?_;have ζ:=bz ζ aQ;exact ⟨_,ζ,wt Q2 ⟨hr,hr,Q0⟩ rfl⟩
 intro v2 h;unfold JZ at h;refine Ok.fg (fun v3=>⟨ar [(2,.b 2 0),(3,.b 3 0)],[(2,.box (b1 c)),(3,.box (b1 d))]⟩) (fun v3=>J0 c d v3=some r) ?_ ?_
 ·refine sg (bl (Ok.loop (fun (s2:Int)=>⟨ar [(2,.b 2 0),(3,.b 3 0),(6,vi s2)],[(2,.box (b1 c)),(3,.box (b1 d))]⟩) (Cd c d) (s0:=0) h (wt Q3 ⟨hr,hr,Q0⟩ rfl) ?_));intro s2 y2 aD gZ;unfold Cd at aD;refine sq (sg ?_);refine ⟨_,rfl,_,az _,fun _=>?_⟩;refine ct aD (fun hb aD=>?_) fun hb aD=>?_
  ·refine sk (sq (bl (sg ?_)));have ⟨x4,bw,aD⟩:=κ aD;refine ⟨_,rfl,_,bK bw,_,bL bw,_,rfl,_,rfl,?_⟩;refine sg ?_;have ⟨x5,dv,aD⟩:=κ aD;refine ⟨_,rfl,_,bK dv,_,bL dv,_,rfl,_,rfl,?_⟩;have ⟨v4,gq,aD⟩:=κ aD;refine Ok.bj ⟨ar [(2,.b 2 0),(3,.b 3 0),(6,vi s2),(111,vb v4)],[(2,.box (b1 c)),(3,.box (b1 d))]⟩ ?_ ?_
   ·refine rg ⟨_,rfl,_,rfl,?_⟩;have ⟨c6,nF,gq⟩:=κ gq;refine Br.ei nF (fun hb nF=>?_) fun hb nF=>?_
    ·cases nF;have ⟨c7,rv,gq⟩:=κ gq;replace rv:=eh rv;cases rv;cases gq;exact wt Q4 J2 rfl
    refine ⟨_,rfl,_,rfl,?_⟩;cases nF;have ⟨c7,nG,gq⟩:=κ gq;refine Br.ei nG (fun hb nG=>?_) fun hb nG=>?_
    ·cases nG;cases gq;exact wt Q4 J2 rfl
    have ⟨x6,gY,nG⟩:=κ nG;refine ⟨_,rfl,_,rfl,?_⟩;refine af.call (Yu gY) lz ?_;cases nG;cases gq;exact wt Q4 J2 rfl
   refine ct aD (fun hb aD=>?_) fun hb aD=>?_
   ·refine sg (rt ?_);have aD:=bz aD gZ;cases aD;exact Fz.v
   refine sk (rg ?_);have ⟨bt,aD⟩:=aG aD;refine (θ ⟨bt,?_⟩);exact ⟨_,sj aD,wt Q3 J2 rfl⟩
  refine xt ?_;have aD:=bz aD gZ;exact ⟨_,aD,wt Q2 ⟨hr,hr,Q0⟩ rfl⟩
 intro v3 h;unfold J0 at h;refine Ok.fg (fun v5=>⟨ar [],[]⟩) (fun v5=>J5 v5=some r) ?_ ?_
 ·refine sg (bl (Ok.loop (fun (s3:Int)=>⟨ar [(2,.b 2 0),(3,.b 3 0),(9,vi s3)],[(2,.box (b1 c)),(3,.box (b1 d))]⟩) (Ce c d) (s0:=0) h (wt Q3 ⟨hr,hr,Q0⟩ rfl) ?_));intro s3 y3 j9 U_;unfold Ce at j9;refine sq (sg ?_);refine ⟨_,rfl,_,az _,fun _=>?_⟩;refine ct j9 (fun hb j9=>?_) fun hb j9=>?_
  ·refine sk (sq (bl (sq (dw 11 tok mixed ?_))));have ⟨x7,gF,j9⟩:=κ j9;have ⟨x8,ke,j9⟩:=κ j9;refine ⟨_,rfl,_,⟨_,rfl,rfl⟩,_,rfl,_,⟨_,bK gF,_,bL gF,rfl⟩,_,⟨_,rfl,rfl⟩,_,rfl,_,⟨_,rfl,rfl⟩,_,rfl,_,⟨_,bK ke,_,bL ke,rfl⟩,_,⟨_,rfl,rfl⟩,_,⟨[.one (.int .i64),.one (.int .i64),.one (.int .i64)],by kernel_rfl,rfl⟩,Q0,?_⟩;refine ct j9 (fun hb j9=>?_) fun hb j9=>?_
   ·refine sg (rt ?_);have j9:=bz j9 U_;cases j9;exact Fz.v
   refine sk (rg ?_);have ⟨ep,j9⟩:=aG j9;refine (θ ⟨ep,?_⟩);exact ⟨_,sj j9,wt Q3 J2 rfl⟩
  refine xt ?_;have j9:=bz j9 U_;exact ⟨_,j9,wt Q0 Q0 rfl⟩
 intro v5 h;unfold J5 at h;refine sg (rt ?_);cases h;exact Fz.v
def ai0 {c d r} (h:Cb c d=some r):Pure prog 15 [.a (b2 c),.a (b2 d)] (vb r):=by
 refine pq tok 67 func15 ?_;unfold Cb at h;refine sg (sq ?_);have ⟨v1,ν,h⟩:=κ h;refine Ok.bj ⟨ar [(2,.b 2 0),(3,.b 3 0),(30,vb v1)],[(2,.box (b2 c)),(3,.box (b2 d))]⟩ ?_ ?_
 ·refine rg ?_;have ⟨x1,Ξ,ν⟩:=κ ν;refine ⟨_,rfl,_,rfl,?_⟩;refine af.call (ai2 Ξ) lz ?_;have ⟨c1,Δ,ν⟩:=κ ν;refine Br.ei Δ (fun hb Δ=>?_) fun hb Δ=>?_
  ·cases Δ;have ⟨c2,aI,ν⟩:=κ ν;replace aI:=eh aI;cases aI;cases ν;exact wt Q3 J2 rfl
  refine ⟨_,rfl,_,az _,fun _=>⟨_,rfl,_,az _,fun _=>?_⟩⟩;cases Δ;have ⟨c2,aS,ν⟩:=κ ν;refine Br.ei aS (fun hb aS=>?_) fun hb aS=>?_
  ·cases aS;cases ν;exact wt Q3 J2 rfl
  refine ⟨_,rfl,_,az _,fun _=>⟨_,rfl,_,az _,fun _=>?_⟩⟩;cases aS;cases ν;exact wt Q3 J2 rfl
 refine ct h (fun hb h=>?_) fun hb h=>?_
 ·refine sg (rt ?_);cases h;exact Fz.v
 refine sk (Ok.fg (fun v2=>⟨ar [(2,.b 2 0),(3,.b 3 0)],[(2,.box (b2 c)),(3,.box (b2 d))]⟩) (fun v2=>J6 c d v2=some r) ?_ ?_)
 ·refine sg (bl (Ok.loop (fun (s1:Int)=>⟨ar [(2,.b 2 0),(3,.b 3 0),(5,vi s1)],[(2,.box (b2 c)),(3,.box (b2 d))]⟩) (FJ c d) (s0:=0) h (wt Q3 ⟨hr,hr,Q0⟩ rfl) ?_));intro s1 y1 ζ aQ;unfold FJ at ζ;refine sq (sg ?_);refine ⟨_,rfl,_,az _,fun _=>?_⟩;refine ct ζ (fun hb ζ=>?_) fun hb ζ=>?_
  ·refine sk (sq (bl (sq (dw 11 tok mixed ?_))));have ⟨x2,au,ζ⟩:=κ ζ;have ⟨x3,aM,ζ⟩:=κ ζ;refine ⟨_,rfl,_,⟨_,rfl,rfl⟩,_,rfl,_,⟨_,bK au,_,bL au,rfl⟩,_,⟨_,rfl,rfl⟩,_,rfl,_,⟨_,rfl,rfl⟩,_,rfl,_,⟨_,bK aM,_,bL aM,rfl⟩,_,⟨_,rfl,rfl⟩,_,⟨[.one (.int .i64),.one (.int .i64),.one (.int .i64)],by kernel_rfl,rfl⟩,Q0,?_⟩;refine ct ζ (fun hb ζ=>?_) fun hb ζ=>?_
   ·refine sg (rt ?_);have ζ:=bz ζ aQ;cases ζ;exact Fz.v
   refine sk (rg ?_);have ⟨ax,ζ⟩:=aG ζ;refine (θ ⟨ax,?_⟩);exact ⟨_,sj ζ,wt Q3 J2 rfl⟩
  refine xt ?_;have ζ:=bz ζ aQ;exact ⟨_,ζ,wt Q2 ⟨hr,hr,Q0⟩ rfl⟩
 intro v2 h;unfold J6 at h;refine Ok.fg (fun v3=>⟨ar [],[]⟩) (fun v3=>J7 v3=some r) ?_ ?_
 ·refine sg (bl (Ok.loop (fun (s2:Int)=>⟨ar [(2,.b 2 0),(3,.b 3 0),(6,vi s2)],[(2,.box (b2 c)),(3,.box (b2 d))]⟩) (Cf c d) (s0:=0) h (wt Q3 ⟨hr,hr,Q0⟩ rfl) ?_));intro s2 y2 aD gZ;unfold Cf at aD;refine sq (sg ?_);refine ⟨_,rfl,_,az _,fun _=>?_⟩;refine ct aD (fun hb aD=>?_) fun hb aD=>?_
  ·refine sk (sq (bl (sq (dw 11 tok mixed ?_))));have ⟨x4,bw,aD⟩:=κ aD;have ⟨x5,dv,aD⟩:=κ aD;refine ⟨_,rfl,_,⟨_,rfl,rfl⟩,_,rfl,_,⟨_,bK bw,_,bL bw,rfl⟩,_,⟨_,rfl,rfl⟩,_,rfl,_,⟨_,rfl,rfl⟩,_,rfl,_,⟨_,bK dv,_,bL dv,rfl⟩,_,⟨_,rfl,rfl⟩,_,⟨[.one (.int .i64),.one (.int .i64),.one (.int .i64)],by kernel_rfl,rfl⟩,Q0,?_⟩;refine ct aD (fun hb aD=>?_) fun hb aD=>?_
   ·refine sg (rt ?_);have aD:=bz aD gZ;cases aD;exact Fz.v
   refine sk (rg ?_);have ⟨bt,aD⟩:=aG aD;refine (θ ⟨bt,?_⟩);exact ⟨_,sj aD,wt Q3 J2 rfl⟩
  refine xt ?_;have aD:=bz aD gZ;exact ⟨_,aD,wt Q0 Q0 rfl⟩
 intro v3 h;unfold J7 at h;refine sg (rt ?_);cases h;exact Fz.v
def ajq [oY] {a r} (h:Gm a=some r):Pure prog 6 [.s (mH a)] (vb r):=by
 refine pq tok 79 func6 ?_;unfold Gm at h;refine sg (sg ?_);have ⟨x1,Ξ,h⟩:=κ h;refine af.call (ajr Ξ) lz ?_;refine sq (sg ?_);have ⟨x2,au,h⟩:=κ h;refine af.call (aiJ au) lz ?_;refine ct h (fun hb h=>?_) fun hb h=>?_
 ·refine sg (rt ?_);cases h;exact Fz.v
 refine sk (sg ?_);have ⟨x3,aM,h⟩:=κ h;refine af.call (Qw aM) lz ?_;refine ⟨_,rfl,?_⟩;refine sg ?_;have ⟨x4,bw,h⟩:=κ h;refine af.call (Qw bw) lz ?_;refine ⟨_,rfl,?_⟩;refine Ok.fg (fun v1=>⟨ar [(3,vb x1),(4,.b 4 0),(5,.b 5 0)],[(4,.box (k5 v1.1 v1.2.1 v1.2.2.1 v1.2.2.2.1 v1.2.2.2.2.1 v1.2.2.2.2.2.1 v1.2.2.2.2.2.2.1 v1.2.2.2.2.2.2.2.1 (t8 v1).1 (t8 v1).2.1)),(5,.box (k5 (t8 v1).2.2.1 (t8 v1).2.2.2.1 (t8 v1).2.2.2.2.1 (t8 v1).2.2.2.2.2.1 (t5 (t8 v1)).2.1 (t5 (t8 v1)).2.2.1 (t8 (t8 v1)).1 (t8 (t8 v1)).2.1 (t8 (t8 v1)).2.2.1 (t8 (t8 v1)).2.2.2))]⟩) (fun v1=>KL x1 v1=some r) ?_ ?_
 ·refine sg (bl (Ok.loop (fun (s1:Int×Gv)=>⟨ar [(0,.s (mH a)),(3,vb x1),(4,.b 4 0),(5,.b 5 0),(6,vi s1.1)],[(4,.box (k5 s1.2.1 s1.2.2.1 s1.2.2.2.1 s1.2.2.2.2.1 s1.2.2.2.2.2.1 s1.2.2.2.2.2.2.1 s1.2.2.2.2.2.2.2.1 (t8 s1).1 (t8 s1).2.1 (t8 s1).2.2.1)),(5,.box (k5 (t8 s1).2.2.2.1 (t8 s1).2.2.2.2.1 (t8 s1).2.2.2.2.2.1 (t5 (t8 s1)).2.1 (t5 (t8 s1)).2.2.1 (t8 (t8 s1)).1 (t8 (t8 s1)).2.1 (t8 (t8 s1)).2.2.1 (t8 (t8 s1)).2.2.2.1 (t8 (t8 s1)).2.2.2.2))]⟩) (KK a x1) (s0:=(0,x3.S.Γ.η,x3.S.Γ.Next,x3.S.Γ.aj,x3.S.bc,x3.S.a_,x3.S.aU,x3.S.aW,x3.S.Next,x3.Holds,x3.bb,x4.S.Γ.η,x4.S.Γ.Next,x4.S.Γ.aj,x4.S.bc,x4.S.a_,x4.S.aU,x4.S.aW,x4.S.Next,x4.Holds,x4.bb)) h (wt Q5 ⟨hr,hr,Q0⟩ rfl) ?_));intro s1 y1 ζ aQ;unfold KK at ζ;refine sq (sg ?_);refine ⟨_,az _,fun _=>?_⟩;refine ct ζ (fun hb ζ=>?_) fun hb ζ=>?_
  ·refine sk (sq (bl (sg ?_)));have ⟨x5,dv,ζ⟩:=κ ζ;refine ⟨_,bK dv,_,bL dv,_,rfl,_,rfl,?_⟩;have ⟨v2,aw,ζ⟩:=κ ζ;refine Ok.bj ⟨ar [(0,.s (mH a)),(3,vb x1),(4,.b 4 0),(5,.b 5 0),(6,vi s1.1),(7,.b 7 0)],[(4,.box (k5 s1.2.1 s1.2.2.1 s1.2.2.2.1 s1.2.2.2.2.1 s1.2.2.2.2.2.1 s1.2.2.2.2.2.2.1 s1.2.2.2.2.2.2.2.1 (t8 s1).1 (t8 s1).2.1 (t8 s1).2.2.1)),(5,.box (k5 (t8 s1).2.2.2.1 (t8 s1).2.2.2.2.1 (t8 s1).2.2.2.2.2.1 (t5 (t8 s1)).2.1 (t5 (t8 s1)).2.2.1 (t8 (t8 s1)).1 (t8 (t8 s1)).2.1 (t8 (t8 s1)).2.2.1 (t8 (t8 s1)).2.2.2.1 (t8 (t8 s1)).2.2.2.2)),(7,.box (Vr x5.ξ v2 x5.cm x5.To x5.N x5.M x5.bq x5.aC))]⟩ ?_ ?_
   ·have ⟨v3,dF,aw⟩:=κ aw;refine Ok.bj ⟨ar [(0,.s (mH a)),(3,vb x1),(4,.b 4 0),(5,.b 5 0),(6,vi s1.1),(7,.b 7 0),(35,vb v3)],[(4,.box (k5 s1.2.1 s1.2.2.1 s1.2.2.2.1 s1.2.2.2.2.1 s1.2.2.2.2.2.1 s1.2.2.2.2.2.2.1 s1.2.2.2.2.2.2.2.1 (t8 s1).1 (t8 s1).2.1 (t8 s1).2.2.1)),(5,.box (k5 (t8 s1).2.2.2.1 (t8 s1).2.2.2.2.1 (t8 s1).2.2.2.2.2.1 (t5 (t8 s1)).2.1 (t5 (t8 s1)).2.2.1 (t8 (t8 s1)).1 (t8 (t8 s1)).2.1 (t8 (t8 s1)).2.2.1 (t8 (t8 s1)).2.2.2.1 (t8 (t8 s1)).2.2.2.2)),(7,.box (uw x5))]⟩ ?_ ?_
    ·refine rg ⟨_,rfl,?_⟩;have ⟨c1,Δ,dF⟩:=κ dF;refine Br.ite Δ (fun hb Δ=>?_) fun hb Δ=>?_
     ·refine ⟨_,rfl,?_⟩;cases Δ;cases dF;exact wt Q7 J3 rfl
     cases Δ;cases dF;exact wt Q7 J3 rfl
    refine ct aw (fun hb aw=>?_) fun hb aw=>?_
    ·refine rg ?_;have ⟨ax,aw⟩:=aG aw;refine ⟨_,rfl,θ ⟨ax,_,rfl,?_⟩⟩;cases aw;exact wt Q6 J3 rfl
    refine sk ?_;cases aw;exact wt Q6 J3 rfl
   refine sq (Ok.q_ (m:=11) (late:=[8]) (MD:=⟨[]⟩) (CH:=⟨[]⟩) tok mixed (by kernel_rfl) ?_);have ⟨x6,gY,ζ⟩:=κ ζ;have ⟨x7,gF,ζ⟩:=κ ζ;refine ⟨_,⟨_,rfl,rfl⟩,_,rfl,_,rfl,_,⟨_,bK gY,_,bL gY,rfl⟩,_,⟨_,rfl,rfl⟩,_,⟨_,.fE (An gF) lz,rfl⟩,_,rfl,_,rfl,_,rfl,Q0,?_⟩;refine ⟨_,rfl,⟨⟨_,rfl,rfl⟩,Q0⟩,_,rfl,?_⟩;refine sg ?_;have ⟨x8,ke,ζ⟩:=κ ζ;refine ⟨_,rfl,_,rfl,?_⟩;refine af.call (An ke) lz ?_;refine ⟨_,rfl,_,rfl,?_⟩;refine sq ?_;have ⟨v4,gq,ζ⟩:=κ ζ;refine Ok.bj ⟨ar [(0,.s (mH a)),(3,vb x1),(4,.b 4 0),(5,.b 5 0),(6,vi s1.1),(8,.b 8 0),(10,.b 10 0),(67,vb v4)],[(4,.box (k5 s1.2.1 s1.2.2.1 s1.2.2.2.1 s1.2.2.2.2.1 s1.2.2.2.2.2.1 s1.2.2.2.2.2.2.1 s1.2.2.2.2.2.2.2.1 (t8 s1).1 (t8 s1).2.1 (t8 s1).2.2.1)),(5,.box (k5 (t8 s1).2.2.2.1 (t8 s1).2.2.2.2.1 (t8 s1).2.2.2.2.2.1 (t5 (t8 s1)).2.1 (t5 (t8 s1)).2.2.1 (t8 (t8 s1)).1 (t8 (t8 s1)).2.1 (t8 (t8 s1)).2.2.1 (t8 (t8 s1)).2.2.2.1 (t8 (t8 s1)).2.2.2.2)),(8,.box (b2 x7.1)),(10,.box (b2 x8.1))]⟩ ?_ ?_
   ·refine rg ?_;have ⟨x9,kV,gq⟩:=κ gq;refine ⟨_,rfl,_,rfl,?_⟩;refine af.call (ai1 kV) lz ?_;have ⟨c2,aI,gq⟩:=κ gq;refine Br.ei aI (fun hb aI=>?_) fun hb aI=>?_
    ·cases aI;cases gq;exact wt Q8 J4 rfl
    refine ⟨_,rfl,_,az _,fun _=>⟨_,rfl,_,az _,fun _=>?_⟩⟩;cases aI;cases gq;exact wt Q8 J4 rfl
   refine ct ζ (fun hb ζ=>?_) fun hb ζ=>?_
   ·refine sg (rt ?_);have ζ:=bz ζ aQ;cases ζ;exact Fz.v
   refine sk (sg ?_);refine ⟨_,rfl,_,rfl,?_⟩;refine rg ⟨_,rfl,_,rfl,?_⟩;refine rg ?_;have ⟨bt,ζ⟩:=aG ζ;refine (θ ⟨bt,?_⟩);exact ⟨_,sj ζ,wt Q5 J2 rfl⟩
  refine xt ?_;have ζ:=bz ζ aQ;exact ⟨_,ζ,wt Q3 ⟨hr,hr,Q0⟩ rfl⟩
 intro v1 h;unfold KL at h;refine sg ⟨_,rfl,_,rfl,?_⟩;have ⟨v5,dP,h⟩:=κ h;refine Ok.bj ⟨ar [(2,vb v5)],[]⟩ ?_ ?_
 ·refine rg ?_;have ⟨c3,aS,dP⟩:=κ dP;refine Br.ite aS (fun hb aS=>?_) fun hb aS=>?_
  ·have ⟨kv,qp,aS⟩:=κ aS;refine ⟨_,rfl,_,rfl,?_⟩;refine af.call (ai0 qp) lz ?_;cases aS;cases dP;exact wt Q1 Q0 rfl
  cases aS;cases dP;exact wt Q1 Q0 rfl
 refine rt ?_;cases h;exact Fz.v
end Go.Proofs
