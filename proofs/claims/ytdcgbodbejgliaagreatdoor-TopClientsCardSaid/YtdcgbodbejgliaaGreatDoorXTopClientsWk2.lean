/- The walks of this seat beside the plain programs, part 2. No condition. -/
import Derived.Test.YtdcgbodbejgliaaGreatDoorXTopClientsHb
import Derived.Test.YtdcgbodbejgliaaGreatDoorXTopClientsWk0
import Derived.Test.YtdcgbodbejgliaaGreatDoorXTopClientsWk1
open List renaming length_map → az, map_append → fu
open Or renaming inl → θ, inr → bY
namespace Go.Proofs
set_option linter.all false
open Go Go.Cat Tryz
variable [M:bM]
set_option maxRecDepth 100000
set_option maxHeartbeats 4000000
def Yr {d e r} (h:wZ d e=some r):Pure prog 178 [.a (b0 d),vi e] (.t [vi r.1,vi r.2]):=by
 refine pq tok 31 func178 ?_;unfold wZ at h;refine sg (sg ⟨_,rfl,?_⟩);refine sg ⟨_,rfl,?_⟩;refine sg (sg ⟨_,rfl,?_⟩);have ⟨v1,ν,h⟩:=κ h;refine Ok.bj ⟨ar [(6,.b 6 0),(7,.b 7 0)],[(6,.box [.m 11]),(11,.mp false (List.map (fun p=>(p.1,cB p.2)) v1.2)),(7,.box [vi v1.1])]⟩ ?_ ?_
 ·refine sg ?_;have ⟨x1,Ξ,ν⟩:=κ ν;refine ⟨_,rfl,?_⟩;refine af.call (se Ξ) lz ?_;refine ⟨_,rfl,?_⟩;have ⟨v2,aw,ν⟩:=κ ν;refine Ok.bj ⟨ar [(1,vi e),(6,.b 6 0),(7,.b 7 0),(8,.b 8 0),(24,vb v2)],[(6,.box [.m 11]),(11,.mp false (List.map (fun p=>(p.1,cB p.2)) ([]:List (Int×Bool)))),(7,.box [vi (0)]),(8,.box [.c (.func 237) [] [.b 2 0,.b 7 0,.b 6 0,.b 8 0]]),(2,.box (b0 d))]⟩ ?_ ?_
  ·refine rg ?_;have ⟨c1,Δ,aw⟩:=κ aw;refine Br.ite Δ (fun hb Δ=>?_) fun hb Δ=>?_
   ·refine ⟨_,rfl,?_⟩;cases Δ;cases aw;exact wt Q5 ⟨hr,J4⟩ rfl
   cases Δ;cases aw;exact wt Q5 ⟨hr,J4⟩ rfl
  refine ct ν (fun hb ν=>?_) fun hb ν=>?_
  ·refine rg ?_;have ⟨x2,au,ν⟩:=κ ν;refine ⟨_,rfl,?_⟩;refine cg [(1000,2),(1001,7),(1002,6),(1003,11),(1004,8)] [] (aj1 au) (n1 (.cons (Ln.b rfl) (.cons (Ln.b rfl) (.cons (Ln.b rfl) (.cons (Ln.b rfl) .nil))))) ⟨⟨2,_,rfl,rfl,.box nq⟩,⟨7,_,rfl,rfl,.box nq⟩,⟨6,_,rfl,rfl,.box (.cons (Ln.mm rfl) .nil)⟩,⟨11,_,rfl,rfl,.refl rfl⟩,⟨8,_,rfl,rfl,.box (.cons (Ln.c .nil (.cons (Ln.b rfl) (.cons (Ln.b rfl) (.cons (Ln.b rfl) (.cons (Ln.b rfl) .nil))))) .nil)⟩,Q0⟩ ?_;cases ν;exact wt Q2 J3 rfl
  refine sk ?_;cases ν;exact wt Q2 J3 rfl
 refine sq (dw 5 tok mixed ?_);refine ⟨_,⟨_,rfl,rfl⟩,_,⟨_,az _,fun _=>rfl⟩,_,⟨_,rfl,rfl⟩,_,rfl,_,rfl,Q0,?_⟩;refine rt ?_;cases h;exact (Fz.t fq)
def ais {a b r} (h:Hz a b=some r):Pure prog 86 [.s (mU a),.s (mU b)] (vb r):=by
 refine pq tok 10 func86 ?_;unfold Hz at h;refine sg (sg ⟨_,rfl,_,rfl,_,tY _ _,?_⟩);refine rt ?_;cases h;exact Fz.v
def YA {a b r} (h:Ct a b=some r):Pure prog 87 [.s (mF a),.s (mF b)] (vb r):=by
 refine pq tok 26 func87 ?_;unfold Ct at h;refine sg (sq (sg ?_));refine ⟨_,az _,fun _=>⟨_,az _,fun _=>?_⟩⟩;refine ct h (fun hb h=>?_) fun hb h=>?_
 ·refine sg (rt ?_);cases h;exact Fz.v
 refine sk (Ok.fg (fun v1=>⟨ar [],[]⟩) (fun v1=>PZ v1=some r) ?_ ?_)
 ·refine sg ⟨_,az _,fun _=>?_⟩;refine bl (Ok.loop (fun (s1:Int)=>⟨ar [(0,.s (mF a)),(1,.s (mF b)),(12,vi (a.length:Int)),(13,vi s1)],[]⟩) (Ga a b) (s0:=0) h (wt Q4 Q0 rfl) ?_);intro s1 y1 ζ aQ;unfold Ga at ζ;refine sg (sq (ct ζ (fun hb ζ=>?_) fun hb ζ=>?_))
  ·refine sk (sq (bl (sg ?_)));refine sq (dw 9 tok mixed ?_);have ⟨x1,Ξ,ζ⟩:=κ ζ;have ⟨x2,au,ζ⟩:=κ ζ;refine ⟨_,rfl,_,rfl,_,⟨_,bK Ξ,_,bL Ξ,rfl⟩,_,⟨_,rfl,rfl⟩,_,rfl,_,rfl,_,⟨_,bK au,_,bL au,rfl⟩,_,⟨_,rfl,rfl⟩,_,⟨[.one (.str),.one (.int .i64),.one (.int .i64)],by kernel_rfl,rfl⟩,Q0,?_⟩;refine ct ζ (fun hb ζ=>?_) fun hb ζ=>?_
   ·refine sg (rt ?_);have ζ:=bz ζ aQ;cases ζ;exact Fz.v
   refine sk (rg ?_);have ⟨ax,ζ⟩:=aG ζ;refine (θ ⟨ax,?_⟩);exact ⟨_,sj ζ,wt Q4 Q0 rfl⟩
  refine xt ?_;have ζ:=bz ζ aQ;exact ⟨_,ζ,wt Q0 Q0 rfl⟩
 intro v1 h;unfold PZ at h;refine sg (rt ?_);cases h;exact Fz.v
def ajA {c d r} (h:Gq c d=some r):Pure prog 85 [.a (b4 c),.a (b4 d)] (vb r):=by
 refine pq tok 45 func85 ?_;unfold Gq at h;refine sg ?_;have ⟨v1,ν,h⟩:=κ h;refine Ok.bj ⟨ar [(4,vb v1)],[]⟩ ?_ ?_
 ·refine rg ⟨_,rfl,_,rfl,?_⟩;have ⟨c1,Δ,ν⟩:=κ ν;refine Br.ite Δ (fun hb Δ=>?_) fun hb Δ=>?_
  ·refine ⟨_,rfl,_,rfl,?_⟩;cases Δ;have ⟨c2,aI,ν⟩:=κ ν;refine Br.ite aI (fun hb aI=>?_) fun hb aI=>?_
   ·refine ⟨_,rfl,_,rfl,?_⟩;cases aI;have ⟨c3,aS,ν⟩:=κ ν;refine Br.ite aS (fun hb aS=>?_) fun hb aS=>?_
    ·refine ⟨_,rfl,_,rfl,?_⟩;cases aS;have ⟨c4,di,ν⟩:=κ ν;refine Br.ite di (fun hb di=>?_) fun hb di=>?_
     ·have ⟨x1,Ξ,di⟩:=κ di;refine ⟨_,rfl,_,rfl,?_⟩;refine af.call (ais Ξ) lz ?_;cases di;have ⟨c5,dI,ν⟩:=κ ν;refine Br.ite dI (fun hb dI=>?_) fun hb dI=>?_
      ·have ⟨x2,au,dI⟩:=κ dI;refine ⟨_,rfl,_,rfl,?_⟩;refine af.call (YA au) lz ?_;cases dI;cases ν;exact wt Q1 Q0 rfl
      cases dI;cases ν;exact wt Q1 Q0 rfl
     cases di;have ⟨c5,eF,ν⟩:=κ ν;replace eF:=eb eF;cases eF;cases ν;exact wt Q1 Q0 rfl
    cases aS;have ⟨c4,fy,ν⟩:=κ ν;replace fy:=eb fy;cases fy;have ⟨c5,fL,ν⟩:=κ ν;replace fL:=eb fL;cases fL;cases ν;exact wt Q1 Q0 rfl
   cases aI;have ⟨c3,gV,ν⟩:=κ ν;replace gV:=eb gV;cases gV;have ⟨c4,fx,ν⟩:=κ ν;replace fx:=eb fx;cases fx;have ⟨c5,iB,ν⟩:=κ ν;replace iB:=eb iB;cases iB;cases ν;exact wt Q1 Q0 rfl
  cases Δ;have ⟨c2,iC,ν⟩:=κ ν;replace iC:=eb iC;cases iC;have ⟨c3,jR,ν⟩:=κ ν;replace jR:=eb jR;cases jR;have ⟨c4,kO,ν⟩:=κ ν;replace kO:=eb kO;cases kO;have ⟨c5,jS,ν⟩:=κ ν;replace jS:=eb jS;cases jS;cases ν;exact wt Q1 Q0 rfl
 refine rt ?_;cases h;exact Fz.v
def ajh {a d r} (h:F9 a d=some r):Pure prog 88 [.s (mI a),.s (mI d),.c (.func 85) [] []] (vb r):=by
 refine pq tok 32 func88 ?_;unfold F9 at h;refine sg (sq (sg ?_));refine ⟨_,az _,fun _=>⟨_,az _,fun _=>?_⟩⟩;refine ct h (fun hb h=>?_) fun hb h=>?_
 ·refine sg (rt ?_);cases h;exact Fz.v
 refine sk (Ok.fg (fun v1=>⟨ar [],[]⟩) (fun v1=>PY v1=some r) ?_ ?_)
 ·refine sg ⟨_,az _,fun _=>?_⟩;refine bl (Ok.loop (fun (s1:Int)=>⟨ar [(1,.s (mI d)),(2,.c (.func 85) [] []),(15,.s (mI a)),(16,vi (a.length:Int)),(17,vi s1)],[]⟩) (F_ a d) (s0:=0) h (wt Q5 Q0 rfl) ?_);intro s1 y1 ζ aQ;unfold F_ at ζ;refine sg (sq (ct ζ (fun hb ζ=>?_) fun hb ζ=>?_))
  ·refine sk (sq (bl (sg ?_)));have ⟨x1,Ξ,ζ⟩:=κ ζ;refine ⟨_,bK Ξ,_,bL Ξ,_,rfl,_,rfl,?_⟩;refine sg ?_;have ⟨x2,au,ζ⟩:=κ ζ;refine ⟨_,bK au,_,bL au,_,rfl,_,rfl,?_⟩;refine sg ?_;have ⟨x3,aM,ζ⟩:=κ ζ;refine ⟨_,rfl,_,rfl,?_⟩;refine af.call (ajA aM) lz ?_;refine ct ζ (fun hb ζ=>?_) fun hb ζ=>?_
   ·refine sg (rt ?_);have ζ:=bz ζ aQ;cases ζ;exact Fz.v
   refine sk (rg ?_);have ⟨ax,ζ⟩:=aG ζ;refine (θ ⟨ax,?_⟩);exact ⟨_,sj ζ,wt Q5 Q0 rfl⟩
  refine xt ?_;have ζ:=bz ζ aQ;exact ⟨_,ζ,wt Q0 Q0 rfl⟩
 intro v1 h;unfold PY at h;refine sg (rt ?_);cases h;exact Fz.v
def ajz {d e r} (h:Gp d e=some r):Pure prog 40 [.a (b0 d),.a (b0 e)] (vb r):=by
 refine pq tok 26 func40 ?_;unfold Gp at h;refine sg (sg ?_);have ⟨v1,ν,h⟩:=κ h;refine Ok.bj ⟨ar [(4,vb v1)],[]⟩ ?_ ?_
 ·refine rg ⟨_,rfl,_,rfl,?_⟩;have ⟨c1,Δ,ν⟩:=κ ν;refine Br.ite Δ (fun hb Δ=>?_) fun hb Δ=>?_
  ·refine ⟨_,rfl,_,rfl,?_⟩;cases Δ;have ⟨c2,aI,ν⟩:=κ ν;refine Br.ite aI (fun hb aI=>?_) fun hb aI=>?_
   ·have ⟨x1,Ξ,aI⟩:=κ aI;refine ⟨_,rfl,_,rfl,?_⟩;refine af.call (ajh Ξ) lz ?_;cases aI;cases ν;exact wt Q1 Q0 rfl
   cases aI;cases ν;exact wt Q1 Q0 rfl
  cases Δ;have ⟨c2,aS,ν⟩:=κ ν;replace aS:=eb aS;cases aS;cases ν;exact wt Q1 Q0 rfl
 refine rt ?_;cases h;exact Fz.v
def akh {a r} (h:F6 a=some r):iZ prog 205 [.s (mC a)] 98 8 (mC r):=by
 refine pv tok 8 func205 ?_;unfold F6 at h;refine sg (sq (sg ?_));intro b1 cO;have h:=xS h b1 (fun e=>List.map_eq_nil_iff.1 (cO e));refine ct h (fun hb h=>?_) fun hb h=>?_
 ·refine sg (rt ?_);cases h;exact (.inl ⟨rfl,rfl⟩)
 refine sk (sg ?_);have ⟨ax,h⟩:=aG h;refine bY ⟨hZ (f:=sD) (n:=8) (fun _=>rfl) a,iy (f:=sD) (l:=([]:List br)) (l':=a) ax,_,(fu (f:=sD) (l₁:=([]:List br)) (l₂:=a)).symm,?_⟩;refine rt ?_;cases h;exact (.inr ⟨_,rfl,rfl⟩)
def Yx {c d r} (h:Cl c d=some r):Pure prog 254 [.a (b4 c),vi d] (vi r):=by
 refine pq tok 9 func254 ?_;unfold Cl at h;refine sg (sg ?_);have ⟨x1,Ξ,h⟩:=κ h;refine ⟨_,rfl,?_⟩;refine af.call (Am Ξ) lz ?_;refine rt ?_;cases h;exact Fz.v
def ajb {a b r} (h:Cr a b=some r):Pure prog 253 [.s (mI a),vi b,.c (.func 254) [] []] (.t [vi r.1,vb r.2]):=by
 refine pq tok 49 func253 ?_;unfold Cr at h;refine sg (sg ⟨_,az _,fun _=>?_⟩);refine sg ?_;have ⟨v1,ν,h⟩:=κ h;refine Ok.bj ⟨ar [(0,.s (mI a)),(1,vi b),(2,.c (.func 254) [] []),(8,vi (a.length:Int)),(9,vi v1)],[]⟩ ?_ ?_
 ·refine bl (Ok.loop (fun (s1:Int×Int)=>⟨ar [(0,.s (mI a)),(1,vi b),(2,.c (.func 254) [] []),(8,vi (a.length:Int)),(9,vi s1.1),(10,vi s1.2)],[]⟩) (Ko a b) (s0:=(0,(a.length:Int))) ν (wt Q6 Q0 rfl) ?_);intro s1 y1 ζ aQ;unfold Ko at ζ;refine sq (sg ?_);refine ct ζ (fun hb ζ=>?_) fun hb ζ=>?_
  ·refine sk (bl (sg ?_));have ⟨ax,ζ⟩:=aG ζ;refine (θ ⟨ax,_,rfl,(by decide),_,rfl,_,rfl,?_⟩);refine sg ?_;have ⟨x1,Ξ,ζ⟩:=κ ζ;have ⟨x2,au,ζ⟩:=κ ζ;refine ⟨_,bK Ξ,_,bL Ξ,_,rfl,?_⟩;refine af.call (Yx au) lz ?_;refine ct ζ (fun hb ζ=>?_) fun hb ζ=>?_
   ·refine rg ?_;have ⟨bt,ζ⟩:=aG ζ;refine (θ ⟨bt,?_⟩);exact ⟨_,sj ζ,wt Q6 Q0 rfl⟩
   refine rg ?_;exact ⟨_,sj ζ,wt Q6 Q0 rfl⟩
  refine xt ?_;have ζ:=bz ζ aQ;cases ζ;exact wt Q5 Q0 rfl
 have ⟨v2,aw,h⟩:=κ h;refine Ok.bj ⟨ar [(6,vi v1),(7,vb v2)],[]⟩ ?_ ?_
 ·refine rg ?_;have ⟨c1,Δ,aw⟩:=κ aw;refine Br.ite Δ (fun hb Δ=>?_) fun hb Δ=>?_
  ·have ⟨x3,aM,Δ⟩:=κ Δ;have ⟨x4,bw,Δ⟩:=κ Δ;refine ⟨_,bK aM,_,bL aM,_,rfl,?_⟩;refine af.call (Yx bw) lz ?_;cases Δ;cases aw;exact wt Q2 Q0 rfl
  cases Δ;cases aw;exact wt Q2 Q0 rfl
 refine rt ?_;cases h;exact (Fz.t fq)
def Yw {a b r} (h:Ck a b=some r):Pure prog 206 [.s (mI a),vi b] (vi r):=by
 refine pq tok 16 func206 ?_;unfold Ck at h;refine sg (sg ?_);have ⟨x1,Ξ,h⟩:=κ h;refine af.call (ajb Ξ) lz ?_;refine sq (sg ?_);refine ct h (fun hb h=>?_) fun hb h=>?_
 ·refine sg (rt ?_);cases h;exact Fz.v
 refine sk (sg ?_);refine rt ?_;cases h;exact Fz.v
def Yy {c d r} (h:Co c d=some r):Pure prog 207 [.a (b4 c),.a (b4 d)] (vb r):=by
 refine pq tok 47 func207 ?_;unfold Co at h;refine sg ?_;have ⟨v1,ν,h⟩:=κ h;refine Ok.bj ⟨ar [(4,vb v1)],[]⟩ ?_ ?_
 ·refine rg ⟨_,rfl,_,rfl,?_⟩;have ⟨c1,Δ,ν⟩:=κ ν;refine Br.ite Δ (fun hb Δ=>?_) fun hb Δ=>?_
  ·refine ⟨_,rfl,_,rfl,?_⟩;cases Δ;have ⟨c2,aI,ν⟩:=κ ν;refine Br.ite aI (fun hb aI=>?_) fun hb aI=>?_
   ·refine ⟨_,rfl,_,rfl,?_⟩;cases aI;have ⟨c3,aS,ν⟩:=κ ν;refine Br.ite aS (fun hb aS=>?_) fun hb aS=>?_
    ·refine ⟨_,rfl,_,rfl,?_⟩;cases aS;have ⟨c4,di,ν⟩:=κ ν;refine Br.ite di (fun hb di=>?_) fun hb di=>?_
     ·refine ⟨_,rfl,_,rfl,_,rfl,_,rfl,_,tY _ _,?_⟩;cases di;have ⟨c5,dI,ν⟩:=κ ν;refine Br.ite dI (fun hb dI=>?_) fun hb dI=>?_
      ·have ⟨x1,Ξ,dI⟩:=κ dI;refine ⟨_,rfl,_,rfl,?_⟩;refine af.call (YA Ξ) lz ?_;cases dI;cases ν;exact wt Q1 Q0 rfl
      cases dI;cases ν;exact wt Q1 Q0 rfl
     cases di;have ⟨c5,eF,ν⟩:=κ ν;replace eF:=eb eF;cases eF;cases ν;exact wt Q1 Q0 rfl
    cases aS;have ⟨c4,fy,ν⟩:=κ ν;replace fy:=eb fy;cases fy;have ⟨c5,fL,ν⟩:=κ ν;replace fL:=eb fL;cases fL;cases ν;exact wt Q1 Q0 rfl
   cases aI;have ⟨c3,gV,ν⟩:=κ ν;replace gV:=eb gV;cases gV;have ⟨c4,fx,ν⟩:=κ ν;replace fx:=eb fx;cases fx;have ⟨c5,iB,ν⟩:=κ ν;replace iB:=eb iB;cases iB;cases ν;exact wt Q1 Q0 rfl
  cases Δ;have ⟨c2,iC,ν⟩:=κ ν;replace iC:=eb iC;cases iC;have ⟨c3,jR,ν⟩:=κ ν;replace jR:=eb jR;cases jR;have ⟨c4,kO,ν⟩:=κ ν;replace kO:=eb kO;cases kO;have ⟨c5,jS,ν⟩:=κ ν;replace jS:=eb jS;cases jS;cases ν;exact wt Q1 Q0 rfl
 refine rt ?_;cases h;exact Fz.v
def ai_ {c d e r} (h:Ki c d e=some r):Pure prog 256 [.a (b9 c),.p [vi d],.p [vi e]] (vb r):=by
 refine pq tok 15 func256 ?_;unfold Ki at h;refine sg ?_;have ⟨v1,ν,h⟩:=κ h;refine Ok.bj ⟨ar [(4,vb v1)],[]⟩ ?_ ?_
 ·refine rg ⟨_,rfl,_,rfl,?_⟩;have ⟨c1,Δ,ν⟩:=κ ν;refine Br.ite Δ (fun hb Δ=>?_) fun hb Δ=>?_
  ·refine ⟨_,rfl,_,rfl,?_⟩;cases Δ;cases ν;exact wt Q1 Q0 rfl
  cases Δ;cases ν;exact wt Q1 Q0 rfl
 refine rt ?_;cases h;exact Fz.v
def ajn {a b d r} (h:Ky a b d=some r):Pure prog 291 [.s (mA a),.c (.func 256) [] [.p [vi b],.p [vi d]]] (vi r):=by
 refine pq tok 19 func291 ?_;unfold Ky at h;refine sg (Ok.fg (fun v1=>⟨ar [],[]⟩) (fun v1=>Qf v1=some r) ?_ ?_)
 ·refine sg ⟨_,az _,fun _=>?_⟩;refine bl (Ok.loop (fun (s1:Int)=>⟨ar [(0,.s (mA a)),(1,.c (.func 256) [] [.p [vi b],.p [vi d]]),(7,vi (a.length:Int)),(8,vi s1)],[]⟩) (Gc a b d) (s0:=0) h (wt Q4 Q0 rfl) ?_);intro s1 y1 ζ aQ;unfold Gc at ζ;refine sg (sq (ct ζ (fun hb ζ=>?_) fun hb ζ=>?_))
  ·refine sk (sq (bl (sg ?_)));refine sg ?_;have ⟨x1,Ξ,ζ⟩:=κ ζ;have ⟨x2,au,ζ⟩:=κ ζ;refine ⟨_,bK Ξ,_,bL Ξ,_,rfl,?_⟩;refine af.call (ai_ au) lz ?_;refine ct ζ (fun hb ζ=>?_) fun hb ζ=>?_
   ·refine sg (rt ?_);have ζ:=bz ζ aQ;cases ζ;exact Fz.v
   refine sk (rg ?_);have ⟨ax,ζ⟩:=aG ζ;refine (θ ⟨ax,?_⟩);exact ⟨_,sj ζ,wt Q4 Q0 rfl⟩
  refine xt ?_;have ζ:=bz ζ aQ;exact ⟨_,ζ,wt Q0 Q0 rfl⟩
 intro v1 h;unfold Qf at h;refine sg (rt ?_);cases h;exact Fz.v
def ajg {a b d r} (h:Kr a b d=some r):Pure prog 255 [.s (mA a),.c (.func 256) [] [.p [vi b],.p [vi d]]] (vb r):=by
 refine pq tok 9 func255 ?_;unfold Kr at h;refine sg (sg ?_);have ⟨x1,Ξ,h⟩:=κ h;refine af.call (ajn Ξ) lz ?_;refine rt ?_;cases h;exact Fz.v
def QD {a d e r} (h:Cp a d e=some r):Pure prog 208 (k14 a d e) (vb r):=by
 refine pq tok 10 func208 ?_;unfold Cp at h;refine sg (sg ?_);have ⟨x1,Ξ,h⟩:=κ h;refine af.borrow (ajg Ξ) (.cons Fz.s (.cons (Fz.c .nil (.cons (Fz.b rfl rfl) (.cons (Fz.b rfl rfl) .nil))) .nil)) rfl ?_;refine rt ?_;cases h;exact Fz.v
def QC {c d r} (h:tU c d=some r):Pure prog 126 [.a (b1 c),.a (b0 d)] (.a (b1 r)):=by
 refine pq tok 123 func126 ?_;unfold tU at h;refine sg (sq (sg ?_));have ⟨x1,Ξ,h⟩:=κ h;refine ⟨_,rfl,_,rfl,?_⟩;refine af.call (ajz Ξ) lz ?_;refine wT [(2,.b 2 0),(3,.b 3 0),(4,.b 4 0),(16,vb x1)] [(2,.box (b1 c)),(3,.box (b0 d)),(4,.box (k3 0 0 0 0))] Q4 J3 rfl ?_;refine ct h (fun hb h=>?_) fun hb h=>?_
 ·refine sg ⟨_,rfl,_,rfl,?_⟩;refine rt ?_;cases h;exact ⟨_,rfl,Fz.dG rfl⟩
 refine sk (sq ?_);have ⟨ax,h⟩:=aG h;have ⟨x2,au,h⟩:=κ h;refine Ok.draw (m:=13) (MD:=⟨[24]⟩) (CH:=⟨[(24,.own 98 8 (mC x2))]⟩) tok mixed (by kernel_rfl) ?_;refine ⟨_,⟨_,rfl,rfl⟩,_,rfl,_,⟨_,rfl,rfl⟩,_,θ ⟨ax,rfl⟩,_,rfl,_,⟨_,rfl,rfl⟩,_,rfl,_,⟨_,rfl,rfl⟩,_,rfl,_,⟨_,rfl,rfl⟩,_,rfl,⟨⟨_,(akh au).makes,lz⟩,Q0⟩,_,rfl,?_⟩;have ⟨v1,ν,h⟩:=κ h;refine Ok.bj ⟨ar [(2,.b 2 0),(3,.b 3 0),(4,.b 4 0),(5,.b 5 0)],[(2,.box (b1 c)),(3,.box (b0 d)),(4,.box (k3 0 0 0 0)),(5,.box [.s (mI d.η),vi d.Next,vi d.aj,vi (c.bc+1),zs,.o 24,.s (mA c.aW),vi c.Next]),(24,.own 98 8 (mC v1))]⟩ ?_ ?_
 ·refine sg ⟨_,rfl,_,az _,fun _=>?_⟩;refine bl (Ok.loop (fun (s1:Int×(List br))=>⟨ar [(2,.b 2 0),(3,.b 3 0),(4,.b 4 0),(5,.b 5 0),(32,.s (mI c.Γ.η)),(33,vi (c.Γ.η.length:Int)),(34,vi s1.1)],[(2,.box (b1 c)),(3,.box (b0 d)),(4,.box (k3 0 0 0 0)),(5,.box [.s (mI d.η),vi d.Next,vi d.aj,vi (c.bc+1),zs,.o 24,.s (mA c.aW),vi c.Next]),(24,.own 98 8 (mC s1.2))]⟩) (FN c d) (s0:=(0,x2)) ν (wt Q7 ⟨⟨_,rfl,.refl _⟩,⟨_,rfl,.refl _⟩,⟨_,rfl,.refl _⟩,⟨_,rfl,.refl _⟩,⟨_,rfl,.refl _⟩,Q0⟩ rfl) ?_);intro s1 y1 ζ aQ;unfold FN at ζ;refine sg (sq (ct ζ (fun hb ζ=>?_) fun hb ζ=>?_))
  ·refine sk ?_;have ⟨v2,aw,ζ⟩:=κ ζ;refine Ok.bj ⟨ar [(2,.b 2 0),(3,.b 3 0),(4,.b 4 0),(5,.b 5 0),(32,.s (mI c.Γ.η)),(33,vi (c.Γ.η.length:Int)),(34,vi s1.1)],[(2,.box (b1 c)),(3,.box (b0 d)),(4,.box (k3 0 0 0 0)),(5,.box [.s (mI d.η),vi d.Next,vi d.aj,vi (c.bc+1),zs,.o 24,.s (mA c.aW),vi c.Next]),(24,.own 98 8 (mC v2))]⟩ ?_ ?_
   ·refine bl (sg ?_);have ⟨x3,aM,aw⟩:=κ aw;refine ⟨_,bK aM,_,bL aM,_,rfl,_,rfl,?_⟩;refine sg ?_;have ⟨x4,bw,aw⟩:=κ aw;refine ⟨_,rfl,_,rfl,?_⟩;refine af.call (Yw bw) lz ?_;have ⟨v3,dF,aw⟩:=κ aw;refine Ok.bj ⟨ar [(2,.b 2 0),(3,.b 3 0),(4,.b 4 0),(5,.b 5 0),(6,vi s1.1),(7,.b 7 0),(32,.s (mI c.Γ.η)),(33,vi (c.Γ.η.length:Int)),(34,vi s1.1),(67,vb v3)],[(2,.box (b1 c)),(3,.box (b0 d)),(4,.box (k3 0 0 0 0)),(5,.box [.s (mI d.η),vi d.Next,vi d.aj,vi (c.bc+1),zs,.o 24,.s (mA c.aW),vi c.Next]),(24,.own 98 8 (mC s1.2)),(7,.box (b4 x3))]⟩ ?_ ?_
    ·refine dw 24 tok mixed ⟨_,rfl,_,rfl,_,rfl,?_⟩;have ⟨c1,Δ,dF⟩:=κ dF;refine Br.ei Δ (fun hb Δ=>?_) fun hb Δ=>?_
     ·cases Δ;refine ⟨_,rfl,?_⟩;refine ⟨_,rfl,?_⟩;have ⟨c2,aI,dF⟩:=κ dF;replace aI:=eh aI;have ⟨x7,gF,aI⟩:=κ aI;have ⟨x8,ke,aI⟩:=κ aI;refine ⟨_,rfl,_,⟨_,rfl,rfl⟩,_,rfl,_,⟨_,rfl,rfl⟩,_,rfl,_,⟨_,bK gF,_,bL gF,rfl⟩,_,⟨_,rfl,rfl⟩,_,rfl,_,⟨_,rfl,rfl⟩,_,⟨_,.fE (QD ke) lz,rfl⟩,?_⟩;cases aI;refine ⟨_,rfl,?_⟩;refine ⟨Q0,?_⟩;cases dF;exact wt ⟨lr,lr,Q8⟩ ⟨hr,hr,J4⟩ rfl
     have ⟨x5,dv,Δ⟩:=κ Δ;have ⟨x6,gY,Δ⟩:=κ Δ;refine ⟨_,⟨_,rfl,rfl⟩,_,rfl,_,⟨_,rfl,rfl⟩,_,rfl,_,⟨_,bK dv,_,bL dv,rfl⟩,_,⟨_,rfl,rfl⟩,_,⟨_,.fE (Yy gY) lz,rfl⟩,_,rfl,?_⟩;cases Δ;refine ⟨_,rfl,?_⟩;refine ⟨_,rfl,?_⟩;have ⟨c2,aS,dF⟩:=κ dF;refine Br.ite aS (fun hb aS=>?_) fun hb aS=>?_
     ·have ⟨x7,gF,aS⟩:=κ aS;have ⟨x8,ke,aS⟩:=κ aS;refine ⟨_,rfl,_,⟨_,rfl,rfl⟩,_,rfl,_,⟨_,rfl,rfl⟩,_,rfl,_,⟨_,bK gF,_,bL gF,rfl⟩,_,⟨_,rfl,rfl⟩,_,rfl,_,⟨_,rfl,rfl⟩,_,⟨_,.fE (QD ke) lz,rfl⟩,?_⟩;cases aS;refine ⟨_,rfl,?_⟩;refine ⟨Q0,?_⟩;cases dF;exact wt ⟨lr,lr,Q8⟩ ⟨hr,hr,J4⟩ rfl
     cases aS;refine ⟨_,rfl,?_⟩;refine ⟨Q0,?_⟩;cases dF;exact wt ⟨lr,lr,Q8⟩ ⟨hr,hr,J4⟩ rfl
    refine ct aw (fun hb aw=>?_) fun hb aw=>?_
    ·refine dw 12 tok mixed ?_;have ⟨x9,kV,aw⟩:=κ aw;have ⟨bt,aw⟩:=aG aw;refine ⟨_,rfl,_,⟨_,rfl,rfl⟩,_,rfl,_,⟨_,rfl,rfl⟩,_,rfl,_,⟨_,bK kV,_,bL kV,rfl⟩,_,⟨_,rfl,rfl⟩,_,rfl,_,⟨_,rfl,rfl⟩,_,⟨_,rfl,rfl⟩,_,rfl,_,rfl,Q0,hZ (f:=sD) (n:=8) (fun _=>rfl) ([(⟨x9,c.bc+1,x3⟩:br)]),iy (f:=sD) (l:=s1.2) (l':=[(⟨x9,c.bc+1,x3⟩:br)]) bt,_,(fu (f:=sD) (l₁:=s1.2) (l₂:=[(⟨x9,c.bc+1,x3⟩:br)])).symm,_,rfl,?_⟩;cases aw;exact wt Q7 ⟨hr,J4⟩ rfl
    refine sk ?_;cases aw;exact wt Q7 ⟨hr,J4⟩ rfl
   refine rg ?_;have ⟨ep,ζ⟩:=aG ζ;refine (θ ⟨ep,?_⟩);exact ⟨_,sj ζ,wt Q7 ⟨hr,J4⟩ rfl⟩
  refine xt ?_;have ζ:=bz ζ aQ;cases ζ;exact wt Q4 ⟨hr,J4⟩ rfl
 have ⟨v4,gq,h⟩:=κ h;refine Ok.bj ⟨ar [(4,.b 4 0),(5,.b 5 0)],[(4,.box (k3 0 0 0 0)),(5,.box [.s (mI d.η),vi d.Next,vi d.aj,vi (c.bc+1),.o 119,.o 24,.s (mA c.aW),vi c.Next]),(119,.own 3 1 (mB v4)),(24,.own 98 8 (mC v1))]⟩ ?_ ?_
 ·refine sg ⟨_,rfl,_,az _,fun _=>?_⟩;refine bl (Ok.loop (fun (s2:Int×(List Int))=>⟨ar [(2,.b 2 0),(4,.b 4 0),(5,.b 5 0),(84,.s (mI d.η)),(85,vi (d.η.length:Int)),(86,vi s2.1)],[(2,.box (b1 c)),(4,.box (k3 0 0 0 0)),(5,.box [.s (mI d.η),vi d.Next,vi d.aj,vi (c.bc+1),.o 119,.o 24,.s (mA c.aW),vi c.Next]),(119,.own 3 1 (mB s2.2)),(24,.own 98 8 (mC v1))]⟩) (FO d c) (s0:=(0,[])) gq ((Wk.JD (b:=5) (q:=4) (id:=119) (E:=3) (K:=1) rfl rfl rfl).trans (wt Q6 ⟨⟨_,rfl,.refl _⟩,⟨_,rfl,.refl _⟩,⟨_,rfl,.refl _⟩,⟨_,rfl,.refl _⟩,⟨_,rfl,.refl _⟩,Q0⟩ rfl)) ?_);intro s2 y2 aD gZ;unfold FO at aD;refine sg (sq (ct aD (fun hb aD=>?_) fun hb aD=>?_))
  ·refine sk (sq (bl (sg ?_)));have ⟨kv,qp,aD⟩:=κ aD;refine ⟨_,bK qp,_,bL qp,_,rfl,_,rfl,?_⟩;refine sg ⟨_,rfl,?_⟩;have ⟨v5,dP,aD⟩:=κ aD;refine Ok.bj ⟨ar [(2,.b 2 0),(4,.b 4 0),(5,.b 5 0),(11,vi v5),(84,.s (mI d.η)),(85,vi (d.η.length:Int)),(86,vi s2.1)],[(2,.box (b1 c)),(4,.box (k3 0 0 0 0)),(5,.box [.s (mI d.η),vi d.Next,vi d.aj,vi (c.bc+1),.o 119,.o 24,.s (mA c.aW),vi c.Next]),(119,.own 3 1 (mB s2.2)),(24,.own 98 8 (mC v1))]⟩ ?_ ?_
   ·refine sg ?_;have ⟨j0,qq,dP⟩:=κ dP;refine ⟨_,rfl,_,rfl,?_⟩;refine af.call (Yw qq) lz ?_;have ⟨v6,oK,dP⟩:=κ dP;refine Ok.bj ⟨ar [(2,.b 2 0),(4,.b 4 0),(5,.b 5 0),(11,vi (c.bc+1)),(12,vi j0),(84,.s (mI d.η)),(85,vi (d.η.length:Int)),(86,vi s2.1),(109,vb v6)],[(2,.box (b1 c)),(4,.box (k3 0 0 0 0)),(5,.box [.s (mI d.η),vi d.Next,vi d.aj,vi (c.bc+1),.o 119,.o 24,.s (mA c.aW),vi c.Next]),(119,.own 3 1 (mB s2.2)),(24,.own 98 8 (mC v1))]⟩ ?_ ?_
    ·refine dw 12 tok mixed ⟨_,rfl,_,rfl,_,rfl,?_⟩;have ⟨c3,di,oK⟩:=κ oK;refine Br.ite di (fun hb di=>?_) fun hb di=>?_
     ·have ⟨gb,qs,di⟩:=κ di;have ⟨pS,zm,di⟩:=κ di;refine ⟨_,⟨_,rfl,rfl⟩,_,rfl,_,rfl,_,⟨_,rfl,rfl⟩,_,rfl,_,⟨_,bK qs,_,bL qs,rfl⟩,_,⟨_,rfl,rfl⟩,_,⟨_,.fE (Yy zm) lz,rfl⟩,?_⟩;cases di;refine ⟨_,rfl,?_⟩;refine ⟨Q0,?_⟩;cases oK;exact wt ⟨lr,Q8⟩ ⟨hr,J4⟩ rfl
     cases di;refine ⟨_,rfl,?_⟩;refine ⟨Q0,?_⟩;cases oK;exact wt ⟨lr,Q8⟩ ⟨hr,J4⟩ rfl
    refine ct dP (fun hb dP=>?_) fun hb dP=>?_
    ·refine rg ?_;have ⟨pT,wM,dP⟩:=κ dP;refine ⟨_,rfl,_,bK wM,_,bL wM,_,rfl,?_⟩;cases dP;exact wt Q7 ⟨hr,J4⟩ rfl
    refine sk ?_;cases dP;exact wt Q7 ⟨hr,J4⟩ rfl
   refine rg ?_;have ⟨kN,aD⟩:=aG aD;refine ⟨_,rfl,θ ⟨hZ (f:=Go.Cat.encI) (n:=1) (fun _=>rfl) ([v5]),iy (f:=Go.Cat.encI) (l:=s2.2) (l':=[v5]) kN,_,(fu (f:=Go.Cat.encI) (l₁:=s2.2) (l₂:=[v5])).symm,_,rfl,?_⟩⟩;refine rg ?_;have ⟨qg,aD⟩:=aG aD;refine (θ ⟨qg,?_⟩);exact ⟨_,sj aD,wt Q6 ⟨hr,J4⟩ rfl⟩
  refine xt ?_;have aD:=bz aD gZ;cases aD;exact wt Q2 J4 rfl
 refine sg ⟨_,rfl,_,rfl,?_⟩;refine rt ?_;cases h;exact ⟨_,rfl,Fz.a (.cons Fz.s (.cons Fz.v (.cons Fz.v (.cons Fz.v (.cons (Fz.o rfl) (.cons (Fz.o rfl) (.cons Fz.s fq)))))))⟩
def Ao {P R e f g i j k l u d O w z A B C E F G I J K L N} {q:Int⊕(pO)} (h:qd P R e f g i j k l u d O w z A B C E F G I J K L N=some q):fP prog bh 116 [.b 1000 0,.a (b0 P),.s (mD R)] ⟨aF,[(1000,.box (cP e f g i j k l u d O w z A B C E F G I J K L N))]⟩ (fun x s=>∃y:pO,q=.inr y∧x=(.t [])∧s.H=[(1000,.box [.s (mI y.1),vi y.2.1,vi y.2.2.1,vi y.2.2.2.1,.s (mB y.2.2.2.2.1),.s (mC y.2.2.2.2.2.1),.s (mA y.2.2.2.2.2.2.1),vi y.2.2.2.2.2.2.2.1,.s (mE d),.o 35,vi w,vi z,vs A,vs B,vi C,vi E,vi F,.s (mU G),vi I,vi J,vi K,vi L,vi N,zs,zs]),(35,.own 86 3 (mD (t8 y)))]) fun m s=>q=.inl m∧s.H=[]:=by
 refine px tok 83 func116 ?_;unfold qd at h;refine sg ?_;have ⟨v1,ν,h⟩:=κ h;refine Ok.bj ⟨ar [(0,.b 1000 0),(2,.s (mD R)),(4,.b 4 0)],[(1000,.box (cP e f g i j k l u d O w z A B C E F G I J K L N)),(4,.box (k0 v1.1 v1.2.1 v1.2.2))]⟩ ?_ ?_
 ·refine sg ?_;have ⟨x1,Ξ,ν⟩:=κ ν;refine ⟨_,rfl,?_⟩;refine af.call (aiC Ξ) lz ?_;refine ⟨_,az _,fun _=>?_⟩;refine bl (Ok.loop (fun (s1:Int×fV)=>⟨ar [(0,.b 1000 0),(2,.s (mD R)),(4,.b 4 0),(13,.s (mB x1)),(14,vi (x1.length:Int)),(15,vi s1.1)],[(1000,.box (cP e f g i j k l u d O w z A B C E F G I J K L N)),(4,.box (k0 s1.2.1 s1.2.2.1 s1.2.2.2))]⟩) (Ii x1 d) (s0:=(0,P.η,P.Next,P.aj)) ν (wt Q6 ⟨hr,hr,Q0⟩ rfl) ?_);intro s1 y1 ζ aQ;unfold Ii at ζ;refine sg (sq (ct ζ (fun hb ζ=>?_) fun hb ζ=>?_))
  ·refine sk ?_;have ⟨v2,aw,ζ⟩:=κ ζ;refine Ok.bj ⟨ar [(0,.b 1000 0),(2,.s (mD R)),(4,.b 4 0),(13,.s (mB x1)),(14,vi (x1.length:Int)),(15,vi s1.1)],[(1000,.box (cP e f g i j k l u d O w z A B C E F G I J K L N)),(4,.box (k0 v2.1 v2.2.1 v2.2.2))]⟩ ?_ ?_
   ·refine bl (sg ?_);have ⟨x2,au,aw⟩:=κ aw;refine ⟨_,bK au,_,bL au,_,rfl,_,rfl,?_⟩;refine sg ?_;have ⟨x3,aM,aw⟩:=κ aw;refine ⟨_,rfl,?_⟩;refine af.borrow (aje aM) (.cons Fz.s (.cons (Fz.c .nil (.cons (Fz.b rfl rfl) .nil)) .nil)) rfl ?_;refine ct aw (fun hb aw=>?_) fun hb aw=>?_
    ·refine rg ?_;have ⟨x4,bw,aw⟩:=κ aw;refine ⟨_,rfl,_,rfl,?_⟩;refine af.call (YD bw) lz ?_;refine ⟨_,rfl,?_⟩;cases aw;exact wt Q6 J2 rfl
    refine sk ?_;cases aw;exact wt Q6 J2 rfl
   refine rg ?_;have ⟨ax,ζ⟩:=aG ζ;refine (θ ⟨ax,?_⟩);exact ⟨_,sj ζ,wt Q6 J2 rfl⟩
  refine xt ?_;have ζ:=bz ζ aQ;cases ζ;exact wt Q3 J2 rfl
 refine sg ?_;have ⟨x5,dv,h⟩:=κ h;refine af.own (D:=35) (KZ dv) lz rfl ?_;have ⟨x6,gY,h⟩:=κ h;refine cg [(1000,35),(1001,4)] [(999,35)] (aj8 gY) (.cons (Ln.o rfl) (.cons (Ln.c .nil (.cons (Ln.b rfl) .nil)) .nil)) ⟨⟨35,_,rfl,rfl,.refl rfl⟩,⟨4,_,rfl,rfl,.box nq⟩,Q0⟩ ?_;refine sq (Ok.cV bh tok ?_);have ⟨x7,gF,h⟩:=κ h;refine θ (⟨_,rfl,θ ?_⟩);refine θ (af.borrow (aiu gF) (.cons (Fz.a (.cons Fz.s fq)) (.cons (Fz.o rfl) .nil)) rfl ?_);have ⟨x8,ke,h⟩:=κ h;refine bY (cx [] [] (pR ke) nq Q0 (fun e1 bD=>?_) (fun y2 cY=>?_))
 ·have h:=cw h bD;cases h;exact ⟨_,rfl,rfl⟩
 have h:=cy h cY;refine Ok.fg (fun v3=>⟨ar [(0,.b 1000 0),(2,.o 35),(4,.b 4 0)],[(1000,.box (cP e f g i j k l u d O w z A B C E F G I J K L N)),(35,.own 86 3 (mD x6)),(4,.box (k0 ((⟨v1.1,v1.2.1,v1.2.2⟩:ψ).η) ((⟨v1.1,v1.2.1,v1.2.2⟩:ψ).Next) ((⟨v1.1,v1.2.1,v1.2.2⟩:ψ).aj)))]⟩) (fun v3=>Ik e f g i j k l u v1 x6 v3=some q) ?_ ?_
 ·refine sg ⟨_,az _,fun _=>?_⟩;refine bl (Ok.loop (fun (s2:Int)=>⟨ar [(0,.b 1000 0),(2,.o 35),(4,.b 4 0),(42,.o 35),(43,vi (x6.length:Int)),(44,vi s2)],[(1000,.box (cP e f g i j k l u d O w z A B C E F G I J K L N)),(35,.own 86 3 (mD x6)),(4,.box (k0 ((⟨v1.1,v1.2.1,v1.2.2⟩:ψ).η) ((⟨v1.1,v1.2.1,v1.2.2⟩:ψ).Next) ((⟨v1.1,v1.2.1,v1.2.2⟩:ψ).aj)))]⟩) (Ij x6 v1 e f g i j k l u) (s0:=0) h (wt Q6 ⟨hr,hr,hr,Q0⟩ rfl) ?_);intro s2 y3 aD gZ;unfold Ij at aD;refine sg (sq (ct aD (fun hb aD=>?_) fun hb aD=>?_))
  ·refine sk (Ok.fg (fun v4=>⟨ar [(0,.b 1000 0),(2,.o 35),(4,.b 4 0),(42,.o 35),(43,vi (x6.length:Int)),(44,vi s2)],[(1000,.box (cP e f g i j k l u d O w z A B C E F G I J K L N)),(35,.own 86 3 (mD x6)),(4,.box (k0 ((⟨v1.1,v1.2.1,v1.2.2⟩:ψ).η) ((⟨v1.1,v1.2.1,v1.2.2⟩:ψ).Next) ((⟨v1.1,v1.2.1,v1.2.2⟩:ψ).aj)))]⟩) (fun v4=>Il s2 v4=some y3) ?_ ?_)
   ·refine bl (sg ?_);have ⟨x9,kV,aD⟩:=κ aD;refine ⟨_,bK kV,wN kV,_,bL kV,rfl,_,rfl,_,rfl,?_⟩;refine sg ?_;have ⟨kv,qp,aD⟩:=κ aD;refine ⟨_,rfl,_,rfl,?_⟩;refine af.call (Yr qp) lz ?_;refine Ok.cV bh tok (θ (θ (θ (⟨_,rfl,θ (θ ?_)⟩))));have ⟨c1,Δ,aD⟩:=κ aD;refine Br.ite Δ (fun hb Δ=>?_) fun hb Δ=>?_
    ·refine θ (θ (θ (⟨_,rfl,θ ?_⟩)));cases Δ;refine θ ?_;have ⟨j0,qq,aD⟩:=κ aD;refine bY (cx [] [] (pR qq) nq Q0 (fun e2 dS=>?_) (fun y4 eu=>?_))
     ·have aD:=cw aD dS;have aD:=bz aD gZ;cases aD;exact ⟨_,rfl,rfl⟩
     have aD:=cy aD eu;exact ⟨_,aD,wt Q6 ⟨hr,hr,hr,Q0⟩ rfl⟩
    cases Δ;refine θ ?_;have ⟨j0,qq,aD⟩:=κ aD;refine bY (cx [] [] (pR qq) nq Q0 (fun e2 dS=>?_) (fun y4 eu=>?_))
    ·have aD:=cw aD dS;have aD:=bz aD gZ;cases aD;exact ⟨_,rfl,rfl⟩
    have aD:=cy aD eu;exact ⟨_,aD,wt Q6 ⟨hr,hr,hr,Q0⟩ rfl⟩
   intro v4 aD;unfold Il at aD;refine rg ?_;have ⟨bt,aD⟩:=aG aD;refine (θ ⟨bt,?_⟩);exact ⟨_,sj aD,wt Q6 J3 rfl⟩
  refine xt ?_;have aD:=bz aD gZ;exact ⟨_,aD,wt Q3 ⟨hr,hr,hr,Q0⟩ rfl⟩
 intro v3 h;unfold Ik at h;refine Ok.q_ (m:=13) (late:=[1,9]) (MD:=⟨[]⟩) (CH:=⟨[]⟩) tok mixed (by kernel_rfl) ?_;have ⟨gb,qs,h⟩:=κ h;refine ⟨_,rfl,_,rfl,_,rfl,_,rfl,_,rfl,_,rfl,_,⟨_,rfl,rfl⟩,_,⟨_,rfl,rfl⟩,_,⟨_,.fE (QC qs) lz,rfl⟩,_,rfl,_,rfl,_,rfl,_,rfl,Q0,?_⟩;refine ⟨_,rfl,⟨⟨_,rfl,rfl⟩,⟨_,rfl,rfl⟩,Q0⟩,_,rfl,?_⟩;cases h;exact ⟨_,rfl,wt Q1 J2 rfl⟩
def ajO [oY] {C D F G I J K L d N e f g i a j k l u w z A B} {q:Int⊕(n_)} (h:D0 C D F G I J K L d N e f g i a j k l u w z A B=some q):fP prog bh 63 [.b 1000 0] ⟨aF,[(1000,.box (cP C D F G I J K L d N e f g i a j k l u w z A B))]⟩ (fun x s=>∃y:n_,q=.inr y∧x=(.t [])∧s.H=[(1000,.box [.s (mI y.1),vi y.2.1,vi y.2.2.1,vi y.2.2.2.1,.s (mB y.2.2.2.2.1),.s (mC y.2.2.2.2.2.1),.s (mA y.2.2.2.2.2.2.1),vi y.2.2.2.2.2.2.2.1,.s (mE d),.o 999,vi e,vi f,vs g,vs i,vi a,vi j,vi k,.s (mU l),vi (0),vi (t8 y).1,vi a,vi (0),vi (0),zs,zs]),(999,.own 86 3 (mD (t8 y).2))]) fun m s=>q=.inl m∧s.H=[]:=by
 refine px tok 55 func63 ?_;unfold D0 at h;refine sq (Ok.cV bh tok ?_);have ⟨x1,Ξ,h⟩:=κ h;refine θ (θ (θ (θ (θ (θ (⟨_,rfl,?_⟩))))));refine bY (cx [(1000,1000)] [] (GL Ξ) (.cons (Ln.b rfl) nq) ⟨⟨1000,_,rfl,rfl,.box nq⟩,Q0⟩ (fun e1 bD=>?_) (fun y1 cY=>?_))
 ·have h:=cw h bD;cases h;exact ⟨_,rfl,rfl⟩
 have h:=cy h cY;refine θ (θ (θ (θ (θ ?_))));refine sq (Ok.nu (E:=bh) (chain:=[(18,[0,1,2,3,4,5,6,7,8,9,10,11,12,13,14,15,16,17,20,21]),(19,[16,17,20,21])]) tok mixed (by kernel_rfl) ?_);have ⟨x2,au,h⟩:=κ h;refine ⟨_,rfl,_,rfl,_,rfl,_,rfl,_,rfl,_,⟨_,rfl,rfl⟩,_,rfl,_,rfl,_,rfl,_,rfl,_,rfl,_,rfl,_,⟨_,rfl,rfl⟩,_,⟨_,.fE (YC au) lz,rfl⟩,_,rfl,_,rfl,_,rfl,_,rfl,_,rfl,_,rfl,θ ⟨⟨⟨_,rfl,rfl⟩,⟨_,rfl,rfl⟩,⟨_,rfl,rfl⟩,⟨_,rfl,rfl⟩,⟨_,rfl,rfl⟩,⟨_,rfl,_,rfl,rfl⟩,⟨_,rfl,rfl⟩,⟨_,rfl,rfl⟩,⟨_,rfl,rfl⟩,⟨_,rfl,rfl⟩,⟨_,rfl,rfl⟩,⟨_,rfl,rfl⟩,⟨_,rfl,_,rfl,rfl⟩,⟨_,rfl,_,.fE (YC au) lz,rfl⟩,⟨_,rfl,rfl⟩,⟨_,rfl,rfl⟩,⟨_,rfl,rfl⟩,⟨_,rfl,rfl⟩,⟨_,rfl,rfl⟩,⟨_,rfl,rfl⟩,Q0⟩,θ (⟨_,rfl,⟨⟨_,rfl,rfl⟩,⟨_,rfl,rfl⟩,⟨_,rfl,rfl⟩,⟨_,rfl,rfl⟩,Q0⟩,?_⟩)⟩⟩;refine sq (Ok.cV bh tok ?_);have ⟨x3,aM,h⟩:=κ h;refine θ (bY (cx [] [] (ku aM) nq Q0 (fun e2 dS=>?_) (fun y2 eu=>?_)))
 ·have h:=cw h dS;cases h;exact ⟨_,rfl,rfl⟩
 have h:=cy h eu;refine sq (Ok.nu (E:=bh) (chain:=[(7,[])]) tok mixed (by kernel_rfl) ?_);have ⟨x4,bw,h⟩:=κ h;refine ⟨_,rfl,_,⟨_,rfl,rfl⟩,_,rfl,_,rfl,_,rfl,_,rfl,_,⟨_,rfl,rfl⟩,?_⟩;refine bY (cx [(1000,1000)] [(35,999)] (Ao bw) (.cons (Ln.b rfl) nq) ⟨⟨1000,_,rfl,rfl,.box nq⟩,Q0⟩ (fun e3 jP=>?_) (fun y3 jD=>?_))
 ·have h:=cw h jP;cases h;exact ⟨_,rfl,rfl⟩
 have h:=cy h jD;refine ⟨Q0,?_⟩;refine rg ⟨_,rfl,_,rfl,?_⟩;cases h;exact ⟨_,rfl,wt Q1 J2 rfl⟩
def ajw {c d e f r} (h:CG c d e f=some r):Pure prog 117 [.a (b0 c),vi d,vi e,vs f] (.t [.a (b0 r.1),vi r.2]):=by
 refine pq tok 66 func117 ?_;unfold CG at h;refine sg (sg ⟨_,rfl,?_⟩);refine sg ?_;have ⟨x1,Ξ,h⟩:=κ h;refine af.eB (id:=16) (qF Ξ) rfl (.box lz) rfl (.cons (Lr.b) (.cons (Lr.dG rfl) .nil)) ?_;rintro _ _ ⟨rfl,rfl⟩;refine ⟨_,rfl,?_⟩;refine sq (bl ?_);have ⟨v1,ν,h⟩:=κ h;refine Ok.bj ⟨ar [(1,vi d),(2,vi e),(3,vs f),(4,.b 4 0),(8,.b 8 0),(10,.b 16 0),(11,.b 11 0),(23,vb v1)],[(4,.box (b0 c)),(8,.box (k1 0 0)),(16,.box (b5 x1.2)),(11,.box (b4 x1.1.1))]⟩ ?_ ?_
 ·refine rg ?_;have ⟨c2,Δ,ν⟩:=κ ν;refine Br.ei Δ (fun hb Δ=>?_) fun hb Δ=>?_
  ·cases Δ;cases ν;exact wt Q8 J4 rfl
  refine ⟨_,rfl,?_⟩;have ⟨c1,aI,Δ⟩:=κ Δ;refine Br.ite aI (fun hb aI=>?_) fun hb aI=>?_
  ·refine ⟨_,rfl,?_⟩;cases aI;cases Δ;cases ν;exact wt Q8 J4 rfl
  cases aI;cases Δ;cases ν;exact wt Q8 J4 rfl
 refine ct h (fun hb h=>?_) fun hb h=>?_
 ·refine sg ⟨_,rfl,_,rfl,?_⟩;refine rt ?_;cases h;exact ⟨_,rfl,Fz.t fq⟩
 refine sg ⟨_,rfl,?_⟩;refine ct h (fun hb h=>?_) fun hb h=>?_
 ·refine sg ⟨_,rfl,_,rfl,?_⟩;refine rt ?_;cases h;exact ⟨_,rfl,Fz.t fq⟩
 refine sk (sq (sg ?_));have ⟨x2,au,h⟩:=κ h;refine af.eB (id:=16) (YJ au) rfl (.box lz) rfl (.cons (Lr.b) (.cons (Lr.dG rfl) (.cons (Lr.dG rfl) .nil))) ?_;rintro _ _ ⟨rfl,rfl⟩;refine sg (ct h (fun hb h=>?_) fun hb h=>?_)
 ·refine sg ⟨_,rfl,_,rfl,?_⟩;refine rt ?_;cases h;exact ⟨_,rfl,Fz.t fq⟩
 refine sk (sg ?_);have ⟨ax,h⟩:=aG h;refine ⟨_,rfl,θ ⟨ax,_,rfl,?_⟩⟩;refine sg ?_;have ⟨x3,aM,h⟩:=κ h;refine ⟨_,rfl,?_⟩;refine cg [(1000,16)] [(19,999)] (GN aM) (.cons (Ln.b rfl) nq) ⟨⟨16,_,rfl,rfl,.box nq⟩,Q0⟩ ?_;refine sg ?_;have ⟨x4,bw,h⟩:=κ h;refine cg [(1000,16),(1001,999)] [(999,999)] (YN bw) (.cons (Ln.b rfl) nq) ⟨⟨16,_,rfl,rfl,.box (.cons (Ln.o rfl) nq)⟩,⟨999,_,rfl,rfl,.refl rfl⟩,Q0⟩ ?_;refine sg ⟨_,rfl,_,rfl,?_⟩;refine rt ?_;cases h;exact ⟨_,rfl,Fz.t (.cons (Fz.a (.cons (Fz.o rfl) fq)) fq)⟩
end Go.Proofs
