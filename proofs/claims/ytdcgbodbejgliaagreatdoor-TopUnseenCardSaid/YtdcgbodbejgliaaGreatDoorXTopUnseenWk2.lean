/- The walks of this seat beside the plain programs, part 2. No condition. -/
import Derived.Test.YtdcgbodbejgliaaGreatDoorXTopUnseenHb
import Derived.Test.YtdcgbodbejgliaaGreatDoorXTopUnseenWk0
import Derived.Test.YtdcgbodbejgliaaGreatDoorXTopUnseenWk1
open List renaming length_map → ay, map_append → fo
open Or renaming inl → θ, inr → bX
namespace Go.Proofs
set_option linter.all false
open Go Go.Cat Tryz
variable [M:bK]
set_option maxRecDepth 100000
set_option maxHeartbeats 4000000
def Yf {d e r} (h:wP d e=some r):Pure prog 178 [.a (b0 d),vi e] (.t [vi r.1,vi r.2]):=by
 refine pq tok 31 func178 ?_;unfold wP at h;refine sg (sg ⟨_,rfl,?_⟩);refine sg ⟨_,rfl,?_⟩;refine sg (sg ⟨_,rfl,?_⟩);have ⟨v1,ν,h⟩:=κ h;refine Ok.bh ⟨ar [(6,.b 6 0),(7,.b 7 0)],[(6,.box [.m 11]),(11,.mp false (List.map (fun p=>(p.1,cB p.2)) v1.2)),(7,.box [vi v1.1])]⟩ ?_ ?_
 ·refine sg ?_;have ⟨x1,Ξ,ν⟩:=κ ν;refine ⟨_,rfl,?_⟩;refine af.call (rO Ξ) lz ?_;refine ⟨_,rfl,?_⟩;have ⟨v2,ax,ν⟩:=κ ν;refine Ok.bh ⟨ar [(1,vi e),(6,.b 6 0),(7,.b 7 0),(8,.b 8 0),(24,vb v2)],[(6,.box [.m 11]),(11,.mp false (List.map (fun p=>(p.1,cB p.2)) ([]:List (Int×Bool)))),(7,.box [vi (0)]),(8,.box [.c (.func 237) [] [.b 2 0,.b 7 0,.b 6 0,.b 8 0]]),(2,.box (b0 d))]⟩ ?_ ?_
  ·refine rg ?_;have ⟨c1,Δ,ax⟩:=κ ax;refine Br.ite Δ (fun hb Δ=>?_) fun hb Δ=>?_
   ·refine ⟨_,rfl,?_⟩;cases Δ;cases ax;exact wt Q5 ⟨hr,J4⟩ rfl
   cases Δ;cases ax;exact wt Q5 ⟨hr,J4⟩ rfl
  refine ct ν (fun hb ν=>?_) fun hb ν=>?_
  ·refine rg ?_;have ⟨x2,au,ν⟩:=κ ν;refine ⟨_,rfl,?_⟩;refine cg [(1000,2),(1001,7),(1002,6),(1003,11),(1004,8)] [] (ajS au) (n1 (.cons (Ln.b rfl) (.cons (Ln.b rfl) (.cons (Ln.b rfl) (.cons (Ln.b rfl) .nil))))) ⟨⟨2,_,rfl,rfl,.box nq⟩,⟨7,_,rfl,rfl,.box nq⟩,⟨6,_,rfl,rfl,.box (.cons (Ln.mm rfl) .nil)⟩,⟨11,_,rfl,rfl,.refl rfl⟩,⟨8,_,rfl,rfl,.box (.cons (Ln.c .nil (.cons (Ln.b rfl) (.cons (Ln.b rfl) (.cons (Ln.b rfl) (.cons (Ln.b rfl) .nil))))) .nil)⟩,Q0⟩ ?_;cases ν;exact wt Q2 J3 rfl
  refine sk ?_;cases ν;exact wt Q2 J3 rfl
 refine sq (dw 5 tok mixed ?_);refine ⟨_,⟨_,rfl,rfl⟩,_,⟨_,ay _,fun _=>rfl⟩,_,⟨_,rfl,rfl⟩,_,rfl,_,rfl,Q0,?_⟩;refine rt ?_;cases h;exact (Fz.t fq)
def aij {a b r} (h:He a b=some r):Pure prog 86 [.s (mU a),.s (mU b)] (vb r):=by
 refine pq tok 10 func86 ?_;unfold He at h;refine sg (sg ⟨_,rfl,_,rfl,_,tD _ _,?_⟩);refine rt ?_;cases h;exact Fz.v
def Yo {a b r} (h:Ck a b=some r):Pure prog 87 [.s (mF a),.s (mF b)] (vb r):=by
 refine pq tok 26 func87 ?_;unfold Ck at h;refine sg (sq (sg ?_));refine ⟨_,ay _,fun _=>⟨_,ay _,fun _=>?_⟩⟩;refine ct h (fun hb h=>?_) fun hb h=>?_
 ·refine sg (rt ?_);cases h;exact Fz.v
 refine sk (Ok.eW (fun v1=>⟨ar [],[]⟩) (fun v1=>PD v1=some r) ?_ ?_)
 ·refine sg ⟨_,ay _,fun _=>?_⟩;refine bl (Ok.loop (fun (s1:Int)=>⟨ar [(0,.s (mF a)),(1,.s (mF b)),(12,vi (a.length:Int)),(13,vi s1)],[]⟩) (FW a b) (s0:=0) h (wt Q4 Q0 rfl) ?_);intro s1 y1 ζ aP;unfold FW at ζ;refine sg (sq (ct ζ (fun hb ζ=>?_) fun hb ζ=>?_))
  ·refine sk (sq (bl (sg ?_)));refine sq (dw 9 tok mixed ?_);have ⟨x1,Ξ,ζ⟩:=κ ζ;have ⟨x2,au,ζ⟩:=κ ζ;refine ⟨_,rfl,_,rfl,_,⟨_,bz Ξ,_,bC Ξ,rfl⟩,_,⟨_,rfl,rfl⟩,_,rfl,_,rfl,_,⟨_,bz au,_,bC au,rfl⟩,_,⟨_,rfl,rfl⟩,_,⟨[.one (.str),.one (.int .i64),.one (.int .i64)],by kernel_rfl,rfl⟩,Q0,?_⟩;refine ct ζ (fun hb ζ=>?_) fun hb ζ=>?_
   ·refine sg (rt ?_);have ζ:=bx ζ aP;cases ζ;exact Fz.v
   refine sk (rg ?_);have ⟨aw,ζ⟩:=aG ζ;refine (θ ⟨aw,?_⟩);exact ⟨_,sj ζ,wt Q4 Q0 rfl⟩
  refine xt ?_;have ζ:=bx ζ aP;exact ⟨_,ζ,wt Q0 Q0 rfl⟩
 intro v1 h;unfold PD at h;refine sg (rt ?_);cases h;exact Fz.v
def ajr {c d r} (h:Gg c d=some r):Pure prog 85 [.a (b4 c),.a (b4 d)] (vb r):=by
 refine pq tok 45 func85 ?_;unfold Gg at h;refine sg ?_;have ⟨v1,ν,h⟩:=κ h;refine Ok.bh ⟨ar [(4,vb v1)],[]⟩ ?_ ?_
 ·refine rg ⟨_,rfl,_,rfl,?_⟩;have ⟨c1,Δ,ν⟩:=κ ν;refine Br.ite Δ (fun hb Δ=>?_) fun hb Δ=>?_
  ·refine ⟨_,rfl,_,rfl,?_⟩;cases Δ;have ⟨c2,aI,ν⟩:=κ ν;refine Br.ite aI (fun hb aI=>?_) fun hb aI=>?_
   ·refine ⟨_,rfl,_,rfl,?_⟩;cases aI;have ⟨c3,aX,ν⟩:=κ ν;refine Br.ite aX (fun hb aX=>?_) fun hb aX=>?_
    ·refine ⟨_,rfl,_,rfl,?_⟩;cases aX;have ⟨c4,cU,ν⟩:=κ ν;refine Br.ite cU (fun hb cU=>?_) fun hb cU=>?_
     ·have ⟨x1,Ξ,cU⟩:=κ cU;refine ⟨_,rfl,_,rfl,?_⟩;refine af.call (aij Ξ) lz ?_;cases cU;have ⟨c5,db,ν⟩:=κ ν;refine Br.ite db (fun hb db=>?_) fun hb db=>?_
      ·have ⟨x2,au,db⟩:=κ db;refine ⟨_,rfl,_,rfl,?_⟩;refine af.call (Yo au) lz ?_;cases db;cases ν;exact wt Q1 Q0 rfl
      cases db;cases ν;exact wt Q1 Q0 rfl
     cases cU;have ⟨c5,eD,ν⟩:=κ ν;replace eD:=ed eD;cases eD;cases ν;exact wt Q1 Q0 rfl
    cases aX;have ⟨c4,fw,ν⟩:=κ ν;replace fw:=ed fw;cases fw;have ⟨c5,fH,ν⟩:=κ ν;replace fH:=ed fH;cases fH;cases ν;exact wt Q1 Q0 rfl
   cases aI;have ⟨c3,gT,ν⟩:=κ ν;replace gT:=ed gT;cases gT;have ⟨c4,fu,ν⟩:=κ ν;replace fu:=ed fu;cases fu;have ⟨c5,iz,ν⟩:=κ ν;replace iz:=ed iz;cases iz;cases ν;exact wt Q1 Q0 rfl
  cases Δ;have ⟨c2,iA,ν⟩:=κ ν;replace iA:=ed iA;cases iA;have ⟨c3,jN,ν⟩:=κ ν;replace jN:=ed jN;cases jN;have ⟨c4,kM,ν⟩:=κ ν;replace kM:=ed kM;cases kM;have ⟨c5,jO,ν⟩:=κ ν;replace jO:=ed jO;cases jO;cases ν;exact wt Q1 Q0 rfl
 refine rt ?_;cases h;exact Fz.v
def ai_ {a d r} (h:FU a d=some r):Pure prog 88 [.s (mI a),.s (mI d),.c (.func 85) [] []] (vb r):=by
 refine pq tok 32 func88 ?_;unfold FU at h;refine sg (sq (sg ?_));refine ⟨_,ay _,fun _=>⟨_,ay _,fun _=>?_⟩⟩;refine ct h (fun hb h=>?_) fun hb h=>?_
 ·refine sg (rt ?_);cases h;exact Fz.v
 refine sk (Ok.eW (fun v1=>⟨ar [],[]⟩) (fun v1=>PC v1=some r) ?_ ?_)
 ·refine sg ⟨_,ay _,fun _=>?_⟩;refine bl (Ok.loop (fun (s1:Int)=>⟨ar [(1,.s (mI d)),(2,.c (.func 85) [] []),(15,.s (mI a)),(16,vi (a.length:Int)),(17,vi s1)],[]⟩) (FV a d) (s0:=0) h (wt Q5 Q0 rfl) ?_);intro s1 y1 ζ aP;unfold FV at ζ;refine sg (sq (ct ζ (fun hb ζ=>?_) fun hb ζ=>?_))
  ·refine sk (sq (bl (sg ?_)));have ⟨x1,Ξ,ζ⟩:=κ ζ;refine ⟨_,bz Ξ,_,bC Ξ,_,rfl,_,rfl,?_⟩;refine sg ?_;have ⟨x2,au,ζ⟩:=κ ζ;refine ⟨_,bz au,_,bC au,_,rfl,_,rfl,?_⟩;refine sg ?_;have ⟨x3,aL,ζ⟩:=κ ζ;refine ⟨_,rfl,_,rfl,?_⟩;refine af.call (ajr aL) lz ?_;refine ct ζ (fun hb ζ=>?_) fun hb ζ=>?_
   ·refine sg (rt ?_);have ζ:=bx ζ aP;cases ζ;exact Fz.v
   refine sk (rg ?_);have ⟨aw,ζ⟩:=aG ζ;refine (θ ⟨aw,?_⟩);exact ⟨_,sj ζ,wt Q5 Q0 rfl⟩
  refine xt ?_;have ζ:=bx ζ aP;exact ⟨_,ζ,wt Q0 Q0 rfl⟩
 intro v1 h;unfold PC at h;refine sg (rt ?_);cases h;exact Fz.v
def ajq {d e r} (h:Gf d e=some r):Pure prog 40 [.a (b0 d),.a (b0 e)] (vb r):=by
 refine pq tok 26 func40 ?_;unfold Gf at h;refine sg (sg ?_);have ⟨v1,ν,h⟩:=κ h;refine Ok.bh ⟨ar [(4,vb v1)],[]⟩ ?_ ?_
 ·refine rg ⟨_,rfl,_,rfl,?_⟩;have ⟨c1,Δ,ν⟩:=κ ν;refine Br.ite Δ (fun hb Δ=>?_) fun hb Δ=>?_
  ·refine ⟨_,rfl,_,rfl,?_⟩;cases Δ;have ⟨c2,aI,ν⟩:=κ ν;refine Br.ite aI (fun hb aI=>?_) fun hb aI=>?_
   ·have ⟨x1,Ξ,aI⟩:=κ aI;refine ⟨_,rfl,_,rfl,?_⟩;refine af.call (ai_ Ξ) lz ?_;cases aI;cases ν;exact wt Q1 Q0 rfl
   cases aI;cases ν;exact wt Q1 Q0 rfl
  cases Δ;have ⟨c2,aX,ν⟩:=κ ν;replace aX:=ed aX;cases aX;cases ν;exact wt Q1 Q0 rfl
 refine rt ?_;cases h;exact Fz.v
def aj_ {a r} (h:FQ a=some r):i_ prog 205 [.s (mC a)] 98 8 (mC r):=by
 refine pv tok 8 func205 ?_;unfold FQ at h;refine sg (sq (sg ?_));intro b1 cO;have h:=xO h b1 (fun e=>List.map_eq_nil_iff.1 (cO e));refine ct h (fun hb h=>?_) fun hb h=>?_
 ·refine sg (rt ?_);cases h;exact (.inl ⟨rfl,rfl⟩)
 refine sk (sg ?_);have ⟨aw,h⟩:=aG h;refine bX ⟨g_ (f:=sa) (n:=8) (fun _=>rfl) a,ix (f:=sa) (l:=([]:List bp)) (l':=a) aw,_,(fo (f:=sa) (l₁:=([]:List bp)) (l₂:=a)).symm,?_⟩;refine rt ?_;cases h;exact (.inr ⟨_,rfl,rfl⟩)
def Yl {c d r} (h:Cd c d=some r):Pure prog 254 [.a (b4 c),vi d] (vi r):=by
 refine pq tok 9 func254 ?_;unfold Cd at h;refine sg (sg ?_);have ⟨x1,Ξ,h⟩:=κ h;refine ⟨_,rfl,?_⟩;refine af.call (Ab Ξ) lz ?_;refine rt ?_;cases h;exact Fz.v
def ai4 {a b r} (h:Ci a b=some r):Pure prog 253 [.s (mI a),vi b,.c (.func 254) [] []] (.t [vi r.1,vb r.2]):=by
 refine pq tok 49 func253 ?_;unfold Ci at h;refine sg (sg ⟨_,ay _,fun _=>?_⟩);refine sg ?_;have ⟨v1,ν,h⟩:=κ h;refine Ok.bh ⟨ar [(0,.s (mI a)),(1,vi b),(2,.c (.func 254) [] []),(8,vi (a.length:Int)),(9,vi v1)],[]⟩ ?_ ?_
 ·refine bl (Ok.loop (fun (s1:Int×Int)=>⟨ar [(0,.s (mI a)),(1,vi b),(2,.c (.func 254) [] []),(8,vi (a.length:Int)),(9,vi s1.1),(10,vi s1.2)],[]⟩) (J6 a b) (s0:=(0,(a.length:Int))) ν (wt Q6 Q0 rfl) ?_);intro s1 y1 ζ aP;unfold J6 at ζ;refine sq (sg ?_);refine ct ζ (fun hb ζ=>?_) fun hb ζ=>?_
  ·refine sk (bl (sg ?_));have ⟨aw,ζ⟩:=aG ζ;refine (θ ⟨aw,_,rfl,(by decide),_,rfl,_,rfl,?_⟩);refine sg ?_;have ⟨x1,Ξ,ζ⟩:=κ ζ;have ⟨x2,au,ζ⟩:=κ ζ;refine ⟨_,bz Ξ,_,bC Ξ,_,rfl,?_⟩;refine af.call (Yl au) lz ?_;refine ct ζ (fun hb ζ=>?_) fun hb ζ=>?_
   ·refine rg ?_;have ⟨br,ζ⟩:=aG ζ;refine (θ ⟨br,?_⟩);exact ⟨_,sj ζ,wt Q6 Q0 rfl⟩
   refine rg ?_;exact ⟨_,sj ζ,wt Q6 Q0 rfl⟩
  refine xt ?_;have ζ:=bx ζ aP;cases ζ;exact wt Q5 Q0 rfl
 have ⟨v2,ax,h⟩:=κ h;refine Ok.bh ⟨ar [(6,vi v1),(7,vb v2)],[]⟩ ?_ ?_
 ·refine rg ?_;have ⟨c1,Δ,ax⟩:=κ ax;refine Br.ite Δ (fun hb Δ=>?_) fun hb Δ=>?_
  ·have ⟨x3,aL,Δ⟩:=κ Δ;have ⟨x4,bu,Δ⟩:=κ Δ;refine ⟨_,bz aL,_,bC aL,_,rfl,?_⟩;refine af.call (Yl bu) lz ?_;cases Δ;cases ax;exact wt Q2 Q0 rfl
  cases Δ;cases ax;exact wt Q2 Q0 rfl
 refine rt ?_;cases h;exact (Fz.t fq)
def Yk {a b r} (h:Cc a b=some r):Pure prog 206 [.s (mI a),vi b] (vi r):=by
 refine pq tok 16 func206 ?_;unfold Cc at h;refine sg (sg ?_);have ⟨x1,Ξ,h⟩:=κ h;refine af.call (ai4 Ξ) lz ?_;refine sq (sg ?_);refine ct h (fun hb h=>?_) fun hb h=>?_
 ·refine sg (rt ?_);cases h;exact Fz.v
 refine sk (sg ?_);refine rt ?_;cases h;exact Fz.v
def Ym {c d r} (h:Cf c d=some r):Pure prog 207 [.a (b4 c),.a (b4 d)] (vb r):=by
 refine pq tok 47 func207 ?_;unfold Cf at h;refine sg ?_;have ⟨v1,ν,h⟩:=κ h;refine Ok.bh ⟨ar [(4,vb v1)],[]⟩ ?_ ?_
 ·refine rg ⟨_,rfl,_,rfl,?_⟩;have ⟨c1,Δ,ν⟩:=κ ν;refine Br.ite Δ (fun hb Δ=>?_) fun hb Δ=>?_
  ·refine ⟨_,rfl,_,rfl,?_⟩;cases Δ;have ⟨c2,aI,ν⟩:=κ ν;refine Br.ite aI (fun hb aI=>?_) fun hb aI=>?_
   ·refine ⟨_,rfl,_,rfl,?_⟩;cases aI;have ⟨c3,aX,ν⟩:=κ ν;refine Br.ite aX (fun hb aX=>?_) fun hb aX=>?_
    ·refine ⟨_,rfl,_,rfl,?_⟩;cases aX;have ⟨c4,cU,ν⟩:=κ ν;refine Br.ite cU (fun hb cU=>?_) fun hb cU=>?_
     ·refine ⟨_,rfl,_,rfl,_,rfl,_,rfl,_,tD _ _,?_⟩;cases cU;have ⟨c5,db,ν⟩:=κ ν;refine Br.ite db (fun hb db=>?_) fun hb db=>?_
      ·have ⟨x1,Ξ,db⟩:=κ db;refine ⟨_,rfl,_,rfl,?_⟩;refine af.call (Yo Ξ) lz ?_;cases db;cases ν;exact wt Q1 Q0 rfl
      cases db;cases ν;exact wt Q1 Q0 rfl
     cases cU;have ⟨c5,eD,ν⟩:=κ ν;replace eD:=ed eD;cases eD;cases ν;exact wt Q1 Q0 rfl
    cases aX;have ⟨c4,fw,ν⟩:=κ ν;replace fw:=ed fw;cases fw;have ⟨c5,fH,ν⟩:=κ ν;replace fH:=ed fH;cases fH;cases ν;exact wt Q1 Q0 rfl
   cases aI;have ⟨c3,gT,ν⟩:=κ ν;replace gT:=ed gT;cases gT;have ⟨c4,fu,ν⟩:=κ ν;replace fu:=ed fu;cases fu;have ⟨c5,iz,ν⟩:=κ ν;replace iz:=ed iz;cases iz;cases ν;exact wt Q1 Q0 rfl
  cases Δ;have ⟨c2,iA,ν⟩:=κ ν;replace iA:=ed iA;cases iA;have ⟨c3,jN,ν⟩:=κ ν;replace jN:=ed jN;cases jN;have ⟨c4,kM,ν⟩:=κ ν;replace kM:=ed kM;cases kM;have ⟨c5,jO,ν⟩:=κ ν;replace jO:=ed jO;cases jO;cases ν;exact wt Q1 Q0 rfl
 refine rt ?_;cases h;exact Fz.v
def ai1 {c d e r} (h:JX c d e=some r):Pure prog 256 [.a (b9 c),.p [vi d],.p [vi e]] (vb r):=by
 refine pq tok 15 func256 ?_;unfold JX at h;refine sg ?_;have ⟨v1,ν,h⟩:=κ h;refine Ok.bh ⟨ar [(4,vb v1)],[]⟩ ?_ ?_
 ·refine rg ⟨_,rfl,_,rfl,?_⟩;have ⟨c1,Δ,ν⟩:=κ ν;refine Br.ite Δ (fun hb Δ=>?_) fun hb Δ=>?_
  ·refine ⟨_,rfl,_,rfl,?_⟩;cases Δ;cases ν;exact wt Q1 Q0 rfl
  cases Δ;cases ν;exact wt Q1 Q0 rfl
 refine rt ?_;cases h;exact Fz.v
def aje {a b d r} (h:Kd a b d=some r):Pure prog 291 [.s (mA a),.c (.func 256) [] [.p [vi b],.p [vi d]]] (vi r):=by
 refine pq tok 19 func291 ?_;unfold Kd at h;refine sg (Ok.eW (fun v1=>⟨ar [],[]⟩) (fun v1=>PW v1=some r) ?_ ?_)
 ·refine sg ⟨_,ay _,fun _=>?_⟩;refine bl (Ok.loop (fun (s1:Int)=>⟨ar [(0,.s (mA a)),(1,.c (.func 256) [] [.p [vi b],.p [vi d]]),(7,vi (a.length:Int)),(8,vi s1)],[]⟩) (FY a b d) (s0:=0) h (wt Q4 Q0 rfl) ?_);intro s1 y1 ζ aP;unfold FY at ζ;refine sg (sq (ct ζ (fun hb ζ=>?_) fun hb ζ=>?_))
  ·refine sk (sq (bl (sg ?_)));refine sg ?_;have ⟨x1,Ξ,ζ⟩:=κ ζ;have ⟨x2,au,ζ⟩:=κ ζ;refine ⟨_,bz Ξ,_,bC Ξ,_,rfl,?_⟩;refine af.call (ai1 au) lz ?_;refine ct ζ (fun hb ζ=>?_) fun hb ζ=>?_
   ·refine sg (rt ?_);have ζ:=bx ζ aP;cases ζ;exact Fz.v
   refine sk (rg ?_);have ⟨aw,ζ⟩:=aG ζ;refine (θ ⟨aw,?_⟩);exact ⟨_,sj ζ,wt Q4 Q0 rfl⟩
  refine xt ?_;have ζ:=bx ζ aP;exact ⟨_,ζ,wt Q0 Q0 rfl⟩
 intro v1 h;unfold PW at h;refine sg (rt ?_);cases h;exact Fz.v
def ai9 {a b d r} (h:J9 a b d=some r):Pure prog 255 [.s (mA a),.c (.func 256) [] [.p [vi b],.p [vi d]]] (vb r):=by
 refine pq tok 9 func255 ?_;unfold J9 at h;refine sg (sg ?_);have ⟨x1,Ξ,h⟩:=κ h;refine af.call (aje Ξ) lz ?_;refine rt ?_;cases h;exact Fz.v
def Qs {a d e r} (h:Cg a d e=some r):Pure prog 208 (k14 a d e) (vb r):=by
 refine pq tok 10 func208 ?_;unfold Cg at h;refine sg (sg ?_);have ⟨x1,Ξ,h⟩:=κ h;refine af.borrow (ai9 Ξ) (.cons Fz.s (.cons (Fz.c .nil (.cons (Fz.b rfl rfl) (.cons (Fz.b rfl rfl) .nil))) .nil)) rfl ?_;refine rt ?_;cases h;exact Fz.v
def Qr {c d r} (h:tr c d=some r):Pure prog 126 [.a (b1 c),.a (b0 d)] (.a (b1 r)):=by
 refine pq tok 123 func126 ?_;unfold tr at h;refine sg (sq (sg ?_));have ⟨x1,Ξ,h⟩:=κ h;refine ⟨_,rfl,_,rfl,?_⟩;refine af.call (ajq Ξ) lz ?_;refine wT [(2,.b 2 0),(3,.b 3 0),(4,.b 4 0),(16,vb x1)] [(2,.box (b1 c)),(3,.box (b0 d)),(4,.box (k3 0 0 0 0))] Q4 J3 rfl ?_;refine ct h (fun hb h=>?_) fun hb h=>?_
 ·refine sg ⟨_,rfl,_,rfl,?_⟩;refine rt ?_;cases h;exact ⟨_,rfl,Fz.dG rfl⟩
 refine sk (sq ?_);have ⟨aw,h⟩:=aG h;have ⟨x2,au,h⟩:=κ h;refine Ok.draw (m:=13) (MD:=⟨[24]⟩) (CH:=⟨[(24,.own 98 8 (mC x2))]⟩) tok mixed (by kernel_rfl) ?_;refine ⟨_,⟨_,rfl,rfl⟩,_,rfl,_,⟨_,rfl,rfl⟩,_,θ ⟨aw,rfl⟩,_,rfl,_,⟨_,rfl,rfl⟩,_,rfl,_,⟨_,rfl,rfl⟩,_,rfl,_,⟨_,rfl,rfl⟩,_,rfl,⟨⟨_,(aj_ au).makes,lz⟩,Q0⟩,_,rfl,?_⟩;have ⟨v1,ν,h⟩:=κ h;refine Ok.bh ⟨ar [(2,.b 2 0),(3,.b 3 0),(4,.b 4 0),(5,.b 5 0)],[(2,.box (b1 c)),(3,.box (b0 d)),(4,.box (k3 0 0 0 0)),(5,.box [.s (mI d.η),vi d.Next,vi d.aj,vi (c.aT+1),zs,.o 24,.s (mA c.aW),vi c.Next]),(24,.own 98 8 (mC v1))]⟩ ?_ ?_
 ·refine sg ⟨_,rfl,_,ay _,fun _=>?_⟩;refine bl (Ok.loop (fun (s1:Int×(List bp))=>⟨ar [(2,.b 2 0),(3,.b 3 0),(4,.b 4 0),(5,.b 5 0),(32,.s (mI c.Γ.η)),(33,vi (c.Γ.η.length:Int)),(34,vi s1.1)],[(2,.box (b1 c)),(3,.box (b0 d)),(4,.box (k3 0 0 0 0)),(5,.box [.s (mI d.η),vi d.Next,vi d.aj,vi (c.aT+1),zs,.o 24,.s (mA c.aW),vi c.Next]),(24,.own 98 8 (mC s1.2))]⟩) (FC c d) (s0:=(0,x2)) ν (wt Q7 ⟨⟨_,rfl,.refl _⟩,⟨_,rfl,.refl _⟩,⟨_,rfl,.refl _⟩,⟨_,rfl,.refl _⟩,⟨_,rfl,.refl _⟩,Q0⟩ rfl) ?_);intro s1 y1 ζ aP;unfold FC at ζ;refine sg (sq (ct ζ (fun hb ζ=>?_) fun hb ζ=>?_))
  ·refine sk ?_;have ⟨v2,ax,ζ⟩:=κ ζ;refine Ok.bh ⟨ar [(2,.b 2 0),(3,.b 3 0),(4,.b 4 0),(5,.b 5 0),(32,.s (mI c.Γ.η)),(33,vi (c.Γ.η.length:Int)),(34,vi s1.1)],[(2,.box (b1 c)),(3,.box (b0 d)),(4,.box (k3 0 0 0 0)),(5,.box [.s (mI d.η),vi d.Next,vi d.aj,vi (c.aT+1),zs,.o 24,.s (mA c.aW),vi c.Next]),(24,.own 98 8 (mC v2))]⟩ ?_ ?_
   ·refine bl (sg ?_);have ⟨x3,aL,ax⟩:=κ ax;refine ⟨_,bz aL,_,bC aL,_,rfl,_,rfl,?_⟩;refine sg ?_;have ⟨x4,bu,ax⟩:=κ ax;refine ⟨_,rfl,_,rfl,?_⟩;refine af.call (Yk bu) lz ?_;have ⟨v3,eb,ax⟩:=κ ax;refine Ok.bh ⟨ar [(2,.b 2 0),(3,.b 3 0),(4,.b 4 0),(5,.b 5 0),(6,vi s1.1),(7,.b 7 0),(32,.s (mI c.Γ.η)),(33,vi (c.Γ.η.length:Int)),(34,vi s1.1),(67,vb v3)],[(2,.box (b1 c)),(3,.box (b0 d)),(4,.box (k3 0 0 0 0)),(5,.box [.s (mI d.η),vi d.Next,vi d.aj,vi (c.aT+1),zs,.o 24,.s (mA c.aW),vi c.Next]),(24,.own 98 8 (mC s1.2)),(7,.box (b4 x3))]⟩ ?_ ?_
    ·refine dw 24 tok mixed ⟨_,rfl,_,rfl,_,rfl,?_⟩;have ⟨c1,Δ,eb⟩:=κ eb;refine Br.dV Δ (fun hb Δ=>?_) fun hb Δ=>?_
     ·cases Δ;refine ⟨_,rfl,?_⟩;refine ⟨_,rfl,?_⟩;have ⟨c2,aI,eb⟩:=κ eb;replace aI:=ee aI;have ⟨x7,gn,aI⟩:=κ aI;have ⟨x8,jS,aI⟩:=κ aI;refine ⟨_,rfl,_,⟨_,rfl,rfl⟩,_,rfl,_,⟨_,rfl,rfl⟩,_,rfl,_,⟨_,bz gn,_,bC gn,rfl⟩,_,⟨_,rfl,rfl⟩,_,rfl,_,⟨_,rfl,rfl⟩,_,⟨_,.fk (Qs jS) lz,rfl⟩,?_⟩;cases aI;refine ⟨_,rfl,?_⟩;refine ⟨Q0,?_⟩;cases eb;exact wt ⟨lr,lr,Q8⟩ ⟨hr,hr,J4⟩ rfl
     have ⟨x5,dA,Δ⟩:=κ Δ;have ⟨x6,gW,Δ⟩:=κ Δ;refine ⟨_,⟨_,rfl,rfl⟩,_,rfl,_,⟨_,rfl,rfl⟩,_,rfl,_,⟨_,bz dA,_,bC dA,rfl⟩,_,⟨_,rfl,rfl⟩,_,⟨_,.fk (Ym gW) lz,rfl⟩,_,rfl,?_⟩;cases Δ;refine ⟨_,rfl,?_⟩;refine ⟨_,rfl,?_⟩;have ⟨c2,aX,eb⟩:=κ eb;refine Br.ite aX (fun hb aX=>?_) fun hb aX=>?_
     ·have ⟨x7,gn,aX⟩:=κ aX;have ⟨x8,jS,aX⟩:=κ aX;refine ⟨_,rfl,_,⟨_,rfl,rfl⟩,_,rfl,_,⟨_,rfl,rfl⟩,_,rfl,_,⟨_,bz gn,_,bC gn,rfl⟩,_,⟨_,rfl,rfl⟩,_,rfl,_,⟨_,rfl,rfl⟩,_,⟨_,.fk (Qs jS) lz,rfl⟩,?_⟩;cases aX;refine ⟨_,rfl,?_⟩;refine ⟨Q0,?_⟩;cases eb;exact wt ⟨lr,lr,Q8⟩ ⟨hr,hr,J4⟩ rfl
     cases aX;refine ⟨_,rfl,?_⟩;refine ⟨Q0,?_⟩;cases eb;exact wt ⟨lr,lr,Q8⟩ ⟨hr,hr,J4⟩ rfl
    refine ct ax (fun hb ax=>?_) fun hb ax=>?_
    ·refine dw 12 tok mixed ?_;have ⟨x9,j_,ax⟩:=κ ax;have ⟨br,ax⟩:=aG ax;refine ⟨_,rfl,_,⟨_,rfl,rfl⟩,_,rfl,_,⟨_,rfl,rfl⟩,_,rfl,_,⟨_,bz j_,_,bC j_,rfl⟩,_,⟨_,rfl,rfl⟩,_,rfl,_,⟨_,rfl,rfl⟩,_,⟨_,rfl,rfl⟩,_,rfl,_,rfl,Q0,g_ (f:=sa) (n:=8) (fun _=>rfl) ([(⟨x9,c.aT+1,x3⟩:bp)]),ix (f:=sa) (l:=s1.2) (l':=[(⟨x9,c.aT+1,x3⟩:bp)]) br,_,(fo (f:=sa) (l₁:=s1.2) (l₂:=[(⟨x9,c.aT+1,x3⟩:bp)])).symm,_,rfl,?_⟩;cases ax;exact wt Q7 ⟨hr,J4⟩ rfl
    refine sk ?_;cases ax;exact wt Q7 ⟨hr,J4⟩ rfl
   refine rg ?_;have ⟨eo,ζ⟩:=aG ζ;refine (θ ⟨eo,?_⟩);exact ⟨_,sj ζ,wt Q7 ⟨hr,J4⟩ rfl⟩
  refine xt ?_;have ζ:=bx ζ aP;cases ζ;exact wt Q4 ⟨hr,J4⟩ rfl
 have ⟨v4,fR,h⟩:=κ h;refine Ok.bh ⟨ar [(4,.b 4 0),(5,.b 5 0)],[(4,.box (k3 0 0 0 0)),(5,.box [.s (mI d.η),vi d.Next,vi d.aj,vi (c.aT+1),.o 119,.o 24,.s (mA c.aW),vi c.Next]),(119,.own 3 1 (mB v4)),(24,.own 98 8 (mC v1))]⟩ ?_ ?_
 ·refine sg ⟨_,rfl,_,ay _,fun _=>?_⟩;refine bl (Ok.loop (fun (s2:Int×(List Int))=>⟨ar [(2,.b 2 0),(4,.b 4 0),(5,.b 5 0),(84,.s (mI d.η)),(85,vi (d.η.length:Int)),(86,vi s2.1)],[(2,.box (b1 c)),(4,.box (k3 0 0 0 0)),(5,.box [.s (mI d.η),vi d.Next,vi d.aj,vi (c.aT+1),.o 119,.o 24,.s (mA c.aW),vi c.Next]),(119,.own 3 1 (mB s2.2)),(24,.own 98 8 (mC v1))]⟩) (FD d c) (s0:=(0,[])) fR ((Wk.Jl (b:=5) (q:=4) (id:=119) (E:=3) (K:=1) rfl rfl rfl).trans (wt Q6 ⟨⟨_,rfl,.refl _⟩,⟨_,rfl,.refl _⟩,⟨_,rfl,.refl _⟩,⟨_,rfl,.refl _⟩,⟨_,rfl,.refl _⟩,Q0⟩ rfl)) ?_);intro s2 y2 aD gX;unfold FD at aD;refine sg (sq (ct aD (fun hb aD=>?_) fun hb aD=>?_))
  ·refine sk (sq (bl (sg ?_)));have ⟨gq,qg,aD⟩:=κ aD;refine ⟨_,bz qg,_,bC qg,_,rfl,_,rfl,?_⟩;refine sg ⟨_,rfl,?_⟩;have ⟨v5,dj,aD⟩:=κ aD;refine Ok.bh ⟨ar [(2,.b 2 0),(4,.b 4 0),(5,.b 5 0),(11,vi v5),(84,.s (mI d.η)),(85,vi (d.η.length:Int)),(86,vi s2.1)],[(2,.box (b1 c)),(4,.box (k3 0 0 0 0)),(5,.box [.s (mI d.η),vi d.Next,vi d.aj,vi (c.aT+1),.o 119,.o 24,.s (mA c.aW),vi c.Next]),(119,.own 3 1 (mB s2.2)),(24,.own 98 8 (mC v1))]⟩ ?_ ?_
   ·refine sg ?_;have ⟨iW,nN,dj⟩:=κ dj;refine ⟨_,rfl,_,rfl,?_⟩;refine af.call (Yk nN) lz ?_;have ⟨v6,kT,dj⟩:=κ dj;refine Ok.bh ⟨ar [(2,.b 2 0),(4,.b 4 0),(5,.b 5 0),(11,vi (c.aT+1)),(12,vi iW),(84,.s (mI d.η)),(85,vi (d.η.length:Int)),(86,vi s2.1),(109,vb v6)],[(2,.box (b1 c)),(4,.box (k3 0 0 0 0)),(5,.box [.s (mI d.η),vi d.Next,vi d.aj,vi (c.aT+1),.o 119,.o 24,.s (mA c.aW),vi c.Next]),(119,.own 3 1 (mB s2.2)),(24,.own 98 8 (mC v1))]⟩ ?_ ?_
    ·refine dw 12 tok mixed ⟨_,rfl,_,rfl,_,rfl,?_⟩;have ⟨c3,cU,kT⟩:=κ kT;refine Br.ite cU (fun hb cU=>?_) fun hb cU=>?_
     ·have ⟨ei,oK,cU⟩:=κ cU;have ⟨na,uI,cU⟩:=κ cU;refine ⟨_,⟨_,rfl,rfl⟩,_,rfl,_,rfl,_,⟨_,rfl,rfl⟩,_,rfl,_,⟨_,bz oK,_,bC oK,rfl⟩,_,⟨_,rfl,rfl⟩,_,⟨_,.fk (Ym uI) lz,rfl⟩,?_⟩;cases cU;refine ⟨_,rfl,?_⟩;refine ⟨Q0,?_⟩;cases kT;exact wt ⟨lr,Q8⟩ ⟨hr,J4⟩ rfl
     cases cU;refine ⟨_,rfl,?_⟩;refine ⟨Q0,?_⟩;cases kT;exact wt ⟨lr,Q8⟩ ⟨hr,J4⟩ rfl
    refine ct dj (fun hb dj=>?_) fun hb dj=>?_
    ·refine rg ?_;have ⟨nf,sR,dj⟩:=κ dj;refine ⟨_,rfl,_,bz sR,_,bC sR,_,rfl,?_⟩;cases dj;exact wt Q7 ⟨hr,J4⟩ rfl
    refine sk ?_;cases dj;exact wt Q7 ⟨hr,J4⟩ rfl
   refine rg ?_;have ⟨kL,aD⟩:=aG aD;refine ⟨_,rfl,θ ⟨g_ (f:=Go.Cat.encI) (n:=1) (fun _=>rfl) ([v5]),ix (f:=Go.Cat.encI) (l:=s2.2) (l':=[v5]) kL,_,(fo (f:=Go.Cat.encI) (l₁:=s2.2) (l₂:=[v5])).symm,_,rfl,?_⟩⟩;refine rg ?_;have ⟨p_,aD⟩:=aG aD;refine (θ ⟨p_,?_⟩);exact ⟨_,sj aD,wt Q6 ⟨hr,J4⟩ rfl⟩
  refine xt ?_;have aD:=bx aD gX;cases aD;exact wt Q2 J4 rfl
 refine sg ⟨_,rfl,_,rfl,?_⟩;refine rt ?_;cases h;exact ⟨_,rfl,Fz.a (.cons Fz.s (.cons Fz.v (.cons Fz.v (.cons Fz.v (.cons (Fz.o rfl) (.cons (Fz.o rfl) (.cons Fz.s fq)))))))⟩
def Ac {P R e f g i j k l u d O w z A B C E F G I J K L N} {q:Int⊕(pK)} (h:p7 P R e f g i j k l u d O w z A B C E F G I J K L N=some q):fL prog bg 116 [.b 1000 0,.a (b0 P),.s (mD R)] ⟨aF,[(1000,.box (cP e f g i j k l u d O w z A B C E F G I J K L N))]⟩ (fun x s=>∃y:pK,q=.inr y∧x=(.t [])∧s.H=[(1000,.box [.s (mI y.1),vi y.2.1,vi y.2.2.1,vi y.2.2.2.1,.s (mB y.2.2.2.2.1),.s (mC y.2.2.2.2.2.1),.s (mA y.2.2.2.2.2.2.1),vi y.2.2.2.2.2.2.2.1,.s (mE d),.o 35,vi w,vi z,vs A,vs B,vi C,vi E,vi F,.s (mU G),vi I,vi J,vi K,vi L,vi N,zs,zs]),(35,.own 86 3 (mD y.2.2.2.2.2.2.2.2))]) fun m s=>q=.inl m∧s.H=[]:=by
 refine px tok 83 func116 ?_;unfold p7 at h;refine sg ?_;have ⟨v1,ν,h⟩:=κ h;refine Ok.bh ⟨ar [(0,.b 1000 0),(2,.s (mD R)),(4,.b 4 0)],[(1000,.box (cP e f g i j k l u d O w z A B C E F G I J K L N)),(4,.box (k0 v1.1 v1.2.1 v1.2.2))]⟩ ?_ ?_
 ·refine sg ?_;have ⟨x1,Ξ,ν⟩:=κ ν;refine ⟨_,rfl,?_⟩;refine af.call (ait Ξ) lz ?_;refine ⟨_,ay _,fun _=>?_⟩;refine bl (Ok.loop (fun (s1:Int×fT)=>⟨ar [(0,.b 1000 0),(2,.s (mD R)),(4,.b 4 0),(13,.s (mB x1)),(14,vi (x1.length:Int)),(15,vi s1.1)],[(1000,.box (cP e f g i j k l u d O w z A B C E F G I J K L N)),(4,.box (k0 s1.2.1 s1.2.2.1 s1.2.2.2))]⟩) (HU x1 d) (s0:=(0,P.η,P.Next,P.aj)) ν (wt Q6 ⟨⟨_,rfl,.refl _⟩,⟨_,rfl,.refl _⟩,Q0⟩ rfl) ?_);intro s1 y1 ζ aP;unfold HU at ζ;refine sg (sq (ct ζ (fun hb ζ=>?_) fun hb ζ=>?_))
  ·refine sk ?_;have ⟨v2,ax,ζ⟩:=κ ζ;refine Ok.bh ⟨ar [(0,.b 1000 0),(2,.s (mD R)),(4,.b 4 0),(13,.s (mB x1)),(14,vi (x1.length:Int)),(15,vi s1.1)],[(1000,.box (cP e f g i j k l u d O w z A B C E F G I J K L N)),(4,.box (k0 v2.1 v2.2.1 v2.2.2))]⟩ ?_ ?_
   ·refine bl (sg ?_);have ⟨x2,au,ax⟩:=κ ax;refine ⟨_,bz au,_,bC au,_,rfl,_,rfl,?_⟩;refine sg ?_;have ⟨x3,aL,ax⟩:=κ ax;refine ⟨_,rfl,?_⟩;refine af.borrow (ai7 aL) (.cons Fz.s (.cons (Fz.c .nil (.cons (Fz.b rfl rfl) .nil)) .nil)) rfl ?_;refine ct ax (fun hb ax=>?_) fun hb ax=>?_
    ·refine rg ?_;have ⟨x4,bu,ax⟩:=κ ax;refine ⟨_,rfl,_,rfl,?_⟩;refine af.call (Yr bu) lz ?_;refine ⟨_,rfl,?_⟩;cases ax;exact wt Q6 J2 rfl
    refine sk ?_;cases ax;exact wt Q6 J2 rfl
   refine rg ?_;have ⟨aw,ζ⟩:=aG ζ;refine (θ ⟨aw,?_⟩);exact ⟨_,sj ζ,wt Q6 J2 rfl⟩
  refine xt ?_;have ζ:=bx ζ aP;cases ζ;exact wt Q3 J2 rfl
 refine sg ?_;have ⟨x5,dA,h⟩:=κ h;refine af.own (D:=35) (KI dA) lz rfl ?_;have ⟨x6,gW,h⟩:=κ h;refine cg [(1000,35),(1001,4)] [(999,35)] (ajZ gW) (.cons (Ln.o rfl) (.cons (Ln.c .nil (.cons (Ln.b rfl) .nil)) .nil)) ⟨⟨35,_,rfl,rfl,.refl rfl⟩,⟨4,_,rfl,rfl,.box nq⟩,Q0⟩ ?_;refine sq (Ok.cW bg tok ?_);have ⟨x7,gn,h⟩:=κ h;refine θ (⟨_,rfl,θ ?_⟩);refine θ (af.borrow (ail gn) (.cons (Fz.a (.cons Fz.s fq)) (.cons (Fz.o rfl) .nil)) rfl ?_);have ⟨x8,jS,h⟩:=κ h;refine bX (cx [] [] (pN jS) nq Q0 (fun e1 bE=>?_) (fun y2 cZ=>?_))
 ·have h:=cw h bE;cases h;exact ⟨_,rfl,rfl⟩
 have h:=cy h cZ;refine Ok.eW (fun v3=>⟨ar [(0,.b 1000 0),(2,.o 35),(4,.b 4 0)],[(1000,.box (cP e f g i j k l u d O w z A B C E F G I J K L N)),(35,.own 86 3 (mD x6)),(4,.box (k0 ((⟨v1.1,v1.2.1,v1.2.2⟩:ψ).η) ((⟨v1.1,v1.2.1,v1.2.2⟩:ψ).Next) ((⟨v1.1,v1.2.1,v1.2.2⟩:ψ).aj)))]⟩) (fun v3=>HW e f g i j k l u v1 x6 v3=some q) ?_ ?_
 ·refine sg ⟨_,ay _,fun _=>?_⟩;refine bl (Ok.loop (fun (s2:Int)=>⟨ar [(0,.b 1000 0),(2,.o 35),(4,.b 4 0),(42,.o 35),(43,vi (x6.length:Int)),(44,vi s2)],[(1000,.box (cP e f g i j k l u d O w z A B C E F G I J K L N)),(35,.own 86 3 (mD x6)),(4,.box (k0 ((⟨v1.1,v1.2.1,v1.2.2⟩:ψ).η) ((⟨v1.1,v1.2.1,v1.2.2⟩:ψ).Next) ((⟨v1.1,v1.2.1,v1.2.2⟩:ψ).aj)))]⟩) (HV x6 v1 e f g i j k l u) (s0:=0) h (wt Q6 ⟨⟨_,rfl,.refl _⟩,⟨_,rfl,.refl _⟩,⟨_,rfl,.refl _⟩,Q0⟩ rfl) ?_);intro s2 y3 aD gX;unfold HV at aD;refine sg (sq (ct aD (fun hb aD=>?_) fun hb aD=>?_))
  ·refine sk (Ok.eW (fun v4=>⟨ar [(0,.b 1000 0),(2,.o 35),(4,.b 4 0),(42,.o 35),(43,vi (x6.length:Int)),(44,vi s2)],[(1000,.box (cP e f g i j k l u d O w z A B C E F G I J K L N)),(35,.own 86 3 (mD x6)),(4,.box (k0 ((⟨v1.1,v1.2.1,v1.2.2⟩:ψ).η) ((⟨v1.1,v1.2.1,v1.2.2⟩:ψ).Next) ((⟨v1.1,v1.2.1,v1.2.2⟩:ψ).aj)))]⟩) (fun v4=>HX s2 v4=some y3) ?_ ?_)
   ·refine bl (sg ?_);have ⟨x9,j_,aD⟩:=κ aD;refine ⟨_,bz j_,wD j_,_,bC j_,rfl,_,rfl,_,rfl,?_⟩;refine sg ?_;have ⟨gq,qg,aD⟩:=κ aD;refine ⟨_,rfl,_,rfl,?_⟩;refine af.call (Yf qg) lz ?_;refine Ok.cW bg tok (θ (θ (θ (⟨_,rfl,θ (θ ?_)⟩))));have ⟨c1,Δ,aD⟩:=κ aD;refine Br.ite Δ (fun hb Δ=>?_) fun hb Δ=>?_
    ·refine θ (θ (θ (⟨_,rfl,θ ?_⟩)));cases Δ;refine θ ?_;have ⟨iW,nN,aD⟩:=κ aD;refine bX (cx [] [] (pN nN) nq Q0 (fun e2 dR=>?_) (fun y4 et=>?_))
     ·have aD:=cw aD dR;have aD:=bx aD gX;cases aD;exact ⟨_,rfl,rfl⟩
     have aD:=cy aD et;exact ⟨_,aD,wt Q6 ⟨⟨_,rfl,.refl _⟩,⟨_,rfl,.refl _⟩,⟨_,rfl,.refl _⟩,Q0⟩ rfl⟩
    cases Δ;refine θ ?_;have ⟨iW,nN,aD⟩:=κ aD;refine bX (cx [] [] (pN nN) nq Q0 (fun e2 dR=>?_) (fun y4 et=>?_))
    ·have aD:=cw aD dR;have aD:=bx aD gX;cases aD;exact ⟨_,rfl,rfl⟩
    have aD:=cy aD et;exact ⟨_,aD,wt Q6 ⟨⟨_,rfl,.refl _⟩,⟨_,rfl,.refl _⟩,⟨_,rfl,.refl _⟩,Q0⟩ rfl⟩
   intro v4 aD;unfold HX at aD;refine rg ?_;have ⟨br,aD⟩:=aG aD;refine (θ ⟨br,?_⟩);exact ⟨_,sj aD,wt Q6 J3 rfl⟩
  refine xt ?_;have aD:=bx aD gX;exact ⟨_,aD,wt Q3 ⟨⟨_,rfl,.refl _⟩,⟨_,rfl,.refl _⟩,⟨_,rfl,.refl _⟩,Q0⟩ rfl⟩
 intro v3 h;unfold HW at h;refine Ok.p4 (m:=13) (late:=[1,9]) (MD:=⟨[]⟩) (CH:=⟨[]⟩) tok mixed (by kernel_rfl) ?_;have ⟨ei,oK,h⟩:=κ h;refine ⟨_,rfl,_,rfl,_,rfl,_,rfl,_,rfl,_,rfl,_,⟨_,rfl,rfl⟩,_,⟨_,rfl,rfl⟩,_,⟨_,.fk (Qr oK) lz,rfl⟩,_,rfl,_,rfl,_,rfl,_,rfl,Q0,?_⟩;refine ⟨_,rfl,⟨⟨_,rfl,rfl⟩,⟨_,rfl,rfl⟩,Q0⟩,_,rfl,?_⟩;cases h;exact ⟨_,rfl,wt Q1 J2 rfl⟩
def ajF [oV] {C D F G I J K L d N e f g i a j k l u w z A B} {q:Int⊕(n_)} (h:DP C D F G I J K L d N e f g i a j k l u w z A B=some q):fL prog bg 63 [.b 1000 0] ⟨aF,[(1000,.box (cP C D F G I J K L d N e f g i a j k l u w z A B))]⟩ (fun x s=>∃y:n_,q=.inr y∧x=(.t [])∧s.H=[(1000,.box [.s (mI y.1),vi y.2.1,vi y.2.2.1,vi y.2.2.2.1,.s (mB y.2.2.2.2.1),.s (mC y.2.2.2.2.2.1),.s (mA y.2.2.2.2.2.2.1),vi y.2.2.2.2.2.2.2.1,.s (mE d),.o 999,vi e,vi f,vs g,vs i,vi a,vi j,vi k,.s (mU l),vi (0),vi y.2.2.2.2.2.2.2.2.1,vi a,vi (0),vi (0),zs,zs]),(999,.own 86 3 (mD y.2.2.2.2.2.2.2.2.2))]) fun m s=>q=.inl m∧s.H=[]:=by
 refine px tok 55 func63 ?_;unfold DP at h;refine sq (Ok.cW bg tok ?_);have ⟨x1,Ξ,h⟩:=κ h;refine θ (θ (θ (θ (θ (θ (⟨_,rfl,?_⟩))))));refine bX (cx [(1000,1000)] [] (Gn Ξ) (.cons (Ln.b rfl) nq) ⟨⟨1000,_,rfl,rfl,.box nq⟩,Q0⟩ (fun e1 bE=>?_) (fun y1 cZ=>?_))
 ·have h:=cw h bE;cases h;exact ⟨_,rfl,rfl⟩
 have h:=cy h cZ;refine θ (θ (θ (θ (θ ?_))));refine sq (Ok.nu (E:=bg) (chain:=[(18,[0,1,2,3,4,5,6,7,8,9,10,11,12,13,14,15,16,17,20,21]),(19,[16,17,20,21])]) tok mixed (by kernel_rfl) ?_);have ⟨x2,au,h⟩:=κ h;refine ⟨_,rfl,_,rfl,_,rfl,_,rfl,_,rfl,_,⟨_,rfl,rfl⟩,_,rfl,_,rfl,_,rfl,_,rfl,_,rfl,_,rfl,_,⟨_,rfl,rfl⟩,_,⟨_,.fk (Yq au) lz,rfl⟩,_,rfl,_,rfl,_,rfl,_,rfl,_,rfl,_,rfl,θ ⟨⟨⟨_,rfl,rfl⟩,⟨_,rfl,rfl⟩,⟨_,rfl,rfl⟩,⟨_,rfl,rfl⟩,⟨_,rfl,rfl⟩,⟨_,rfl,_,rfl,rfl⟩,⟨_,rfl,rfl⟩,⟨_,rfl,rfl⟩,⟨_,rfl,rfl⟩,⟨_,rfl,rfl⟩,⟨_,rfl,rfl⟩,⟨_,rfl,rfl⟩,⟨_,rfl,_,rfl,rfl⟩,⟨_,rfl,_,.fk (Yq au) lz,rfl⟩,⟨_,rfl,rfl⟩,⟨_,rfl,rfl⟩,⟨_,rfl,rfl⟩,⟨_,rfl,rfl⟩,⟨_,rfl,rfl⟩,⟨_,rfl,rfl⟩,Q0⟩,θ (⟨_,rfl,⟨⟨_,rfl,rfl⟩,⟨_,rfl,rfl⟩,⟨_,rfl,rfl⟩,⟨_,rfl,rfl⟩,Q0⟩,?_⟩)⟩⟩;refine sq (Ok.cW bg tok ?_);have ⟨x3,aL,h⟩:=κ h;refine θ (bX (cx [] [] (ku aL) nq Q0 (fun e2 dR=>?_) (fun y2 et=>?_)))
 ·have h:=cw h dR;cases h;exact ⟨_,rfl,rfl⟩
 have h:=cy h et;refine sq (Ok.nu (E:=bg) (chain:=[(7,[])]) tok mixed (by kernel_rfl) ?_);have ⟨x4,bu,h⟩:=κ h;refine ⟨_,rfl,_,⟨_,rfl,rfl⟩,_,rfl,_,rfl,_,rfl,_,rfl,_,⟨_,rfl,rfl⟩,?_⟩;refine bX (cx [(1000,1000)] [(35,999)] (Ac bu) (.cons (Ln.b rfl) nq) ⟨⟨1000,_,rfl,rfl,.box nq⟩,Q0⟩ (fun e3 jL=>?_) (fun y3 jx=>?_))
 ·have h:=cw h jL;cases h;exact ⟨_,rfl,rfl⟩
 have h:=cy h jx;refine ⟨Q0,?_⟩;refine rg ⟨_,rfl,_,rfl,?_⟩;cases h;exact ⟨_,rfl,wt Q1 J2 rfl⟩
def ajn {c d e f r} (h:Cy c d e f=some r):Pure prog 117 [.a (b0 c),vi d,vi e,vs f] (.t [.a (b0 r.1),vi r.2]):=by
 refine pq tok 66 func117 ?_;unfold Cy at h;refine sg (sg ⟨_,rfl,?_⟩);refine sg ?_;have ⟨x1,Ξ,h⟩:=κ h;refine af.ez (id:=16) (qt Ξ) rfl (.box lz) rfl (.cons (Lr.b) (.cons (Lr.dG rfl) .nil)) ?_;rintro _ _ ⟨rfl,rfl⟩;refine ⟨_,rfl,?_⟩;refine sq (bl ?_);have ⟨v1,ν,h⟩:=κ h;refine Ok.bh ⟨ar [(1,vi d),(2,vi e),(3,vs f),(4,.b 4 0),(8,.b 8 0),(10,.b 16 0),(11,.b 11 0),(23,vb v1)],[(4,.box (b0 c)),(8,.box (k1 0 0)),(16,.box (b5 x1.2)),(11,.box (b4 x1.1.1))]⟩ ?_ ?_
 ·refine rg ?_;have ⟨c2,Δ,ν⟩:=κ ν;refine Br.dV Δ (fun hb Δ=>?_) fun hb Δ=>?_
  ·cases Δ;cases ν;exact wt Q8 J4 rfl
  refine ⟨_,rfl,?_⟩;have ⟨c1,aI,Δ⟩:=κ Δ;refine Br.ite aI (fun hb aI=>?_) fun hb aI=>?_
  ·refine ⟨_,rfl,?_⟩;cases aI;cases Δ;cases ν;exact wt Q8 J4 rfl
  cases aI;cases Δ;cases ν;exact wt Q8 J4 rfl
 refine ct h (fun hb h=>?_) fun hb h=>?_
 ·refine sg ⟨_,rfl,_,rfl,?_⟩;refine rt ?_;cases h;exact ⟨_,rfl,Fz.t fq⟩
 refine sg ⟨_,rfl,?_⟩;refine ct h (fun hb h=>?_) fun hb h=>?_
 ·refine sg ⟨_,rfl,_,rfl,?_⟩;refine rt ?_;cases h;exact ⟨_,rfl,Fz.t fq⟩
 refine sk (sq (sg ?_));have ⟨x2,au,h⟩:=κ h;refine af.ez (id:=16) (Yx au) rfl (.box lz) rfl (.cons (Lr.b) (.cons (Lr.dG rfl) (.cons (Lr.dG rfl) .nil))) ?_;rintro _ _ ⟨rfl,rfl⟩;refine sg (ct h (fun hb h=>?_) fun hb h=>?_)
 ·refine sg ⟨_,rfl,_,rfl,?_⟩;refine rt ?_;cases h;exact ⟨_,rfl,Fz.t fq⟩
 refine sk (sg ?_);have ⟨aw,h⟩:=aG h;refine ⟨_,rfl,θ ⟨aw,_,rfl,?_⟩⟩;refine sg ?_;have ⟨x3,aL,h⟩:=κ h;refine ⟨_,rfl,?_⟩;refine cg [(1000,16)] [(19,999)] (Gq aL) (.cons (Ln.b rfl) nq) ⟨⟨16,_,rfl,rfl,.box nq⟩,Q0⟩ ?_;refine sg ?_;have ⟨x4,bu,h⟩:=κ h;refine cg [(1000,16),(1001,999)] [(999,999)] (YB bu) (.cons (Ln.b rfl) nq) ⟨⟨16,_,rfl,rfl,.box (.cons (Ln.o rfl) nq)⟩,⟨999,_,rfl,rfl,.refl rfl⟩,Q0⟩ ?_;refine sg ⟨_,rfl,_,rfl,?_⟩;refine rt ?_;cases h;exact ⟨_,rfl,Fz.t (.cons (Fz.a (.cons (Fz.o rfl) fq)) fq)⟩
end Go.Proofs
