/- The walks of this seat beside the plain programs, part 6. No condition. -/
import Derived.Test.YtdcgbodbejgliaaGreatDoorXTopClientsHb
import Derived.Test.YtdcgbodbejgliaaGreatDoorXTopClientsWk0
import Derived.Test.YtdcgbodbejgliaaGreatDoorXTopClientsWk1
import Derived.Test.YtdcgbodbejgliaaGreatDoorXTopClientsWk2
import Derived.Test.YtdcgbodbejgliaaGreatDoorXTopClientsWk3
import Derived.Test.YtdcgbodbejgliaaGreatDoorXTopClientsWk4
import Derived.Test.YtdcgbodbejgliaaGreatDoorXTopClientsWk5
open List renaming length_map → az, map → aT, map_append → fu
open Nat renaming lt_of_le_of_lt → gx, le_of_eq → kz
open Or renaming inl → θ, inr → bY
namespace Go.Proofs
set_option linter.all false
open Go Go.Cat Tryz
variable [M:bM]
set_option maxRecDepth 100000
set_option maxHeartbeats 4000000
def ai8 {d e r} (h:FP d e=some r):Pure prog 215 [.a (b1 d),.a (b9 e)] (.t [.s (mI r.1),vb r.2]):=by
 refine pq tok 74 func215 ?_;unfold FP at h;refine sg (sg ⟨_,rfl,?_⟩);have ⟨v1,ν,h⟩:=κ h;refine Ok.bj ⟨ar [(2,.b 2 0),(3,.b 3 0),(6,.b 6 0)],[(2,.box (b1 d)),(3,.box (b9 e)),(6,.box [.m 15]),(15,.mp true (aT (fun p=>(p.1,dh p.2)) v1))]⟩ ?_ ?_
 ·refine sg ⟨_,rfl,_,az _,fun _=>?_⟩;refine bl (Ok.loop (fun (s1:Int×(List (Int×τ)))=>⟨ar [(2,.b 2 0),(3,.b 3 0),(6,.b 6 0),(17,.s (mC d.aU)),(18,vi (d.aU.length:Int)),(19,vi s1.1)],[(2,.box (b1 d)),(3,.box (b9 e)),(6,.box [.m 15]),(15,.mp true (aT (fun p=>(p.1,dh p.2)) s1.2))]⟩) (FT d e) (s0:=(0,([]:List (Int×τ)))) ν (wt Q6 ⟨⟨_,rfl,.refl _⟩,⟨_,rfl,.refl _⟩,⟨_,rfl,.refl _⟩,⟨_,rfl,.refl _⟩,Q0⟩ rfl) ?_);intro s1 y1 ζ aQ;unfold FT at ζ;refine sg (sq (ct ζ (fun hb ζ=>?_) fun hb ζ=>?_))
  ·refine sk ?_;have ⟨v2,aw,ζ⟩:=κ ζ;refine Ok.bj ⟨ar [(2,.b 2 0),(3,.b 3 0),(6,.b 6 0),(17,.s (mC d.aU)),(18,vi (d.aU.length:Int)),(19,vi s1.1)],[(2,.box (b1 d)),(3,.box (b9 e)),(6,.box [.m 15]),(15,.mp true (aT (fun p=>(p.1,dh p.2)) v2))]⟩ ?_ ?_
   ·refine bl (sg ?_);have ⟨x1,Ξ,aw⟩:=κ aw;refine ⟨_,bK Ξ,_,bL Ξ,_,rfl,_,rfl,?_⟩;have ⟨v3,dF,aw⟩:=κ aw;refine Ok.bj ⟨ar [(2,.b 2 0),(3,.b 3 0),(6,.b 6 0),(8,.b 8 0),(17,.s (mC d.aU)),(18,vi (d.aU.length:Int)),(19,vi s1.1),(34,vb v3)],[(2,.box (b1 d)),(3,.box (b9 e)),(6,.box [.m 15]),(15,.mp true (aT (fun p=>(p.1,dh p.2)) s1.2)),(8,.box (RY x1))]⟩ ?_ ?_
    ·refine rg ⟨_,rfl,_,rfl,?_⟩;have ⟨c1,Δ,dF⟩:=κ dF;refine Br.ite Δ (fun hb Δ=>?_) fun hb Δ=>?_
     ·refine ⟨_,rfl,_,rfl,?_⟩;cases Δ;cases dF;exact wt Q8 ⟨hr,J4⟩ rfl
     cases Δ;cases dF;exact wt Q8 ⟨hr,J4⟩ rfl
    refine ct aw (fun hb aw=>?_) fun hb aw=>?_
    ·refine rg ?_;have ⟨ax,aw⟩:=aG aw;refine ⟨_,rfl,_,rfl,_,rfl,ax.1,gx (kz (az _)) ax.2,_,iH dh x1.fj.ι x1.fj s1.2,?_⟩;cases aw;exact wt Q6 J4 rfl
    refine sk ?_;cases aw;exact wt Q6 J4 rfl
   refine rg ?_;have ⟨bt,ζ⟩:=aG ζ;refine (θ ⟨bt,?_⟩);exact ⟨_,sj ζ,wt Q6 J4 rfl⟩
  refine xt ?_;have ζ:=bz ζ aQ;cases ζ;exact wt Q3 J4 rfl
 have ⟨v4,gq,h⟩:=κ h;refine Ok.bj ⟨ar [(3,.b 3 0),(6,.b 6 0)],[(3,.box (b9 e)),(6,.box [.m 15]),(15,.mp true (aT (fun p=>(p.1,dh p.2)) v4))]⟩ ?_ ?_
 ·refine sg ⟨_,rfl,_,az _,fun _=>?_⟩;refine bl (Ok.loop (fun (s2:Int×(List (Int×τ)))=>⟨ar [(2,.b 2 0),(3,.b 3 0),(6,.b 6 0),(44,.s (mI d.Γ.η)),(45,vi (d.Γ.η.length:Int)),(46,vi s2.1)],[(2,.box (b1 d)),(3,.box (b9 e)),(6,.box [.m 15]),(15,.mp true (aT (fun p=>(p.1,dh p.2)) s2.2))]⟩) (FU d e) (s0:=(0,v1)) gq (wt Q6 ⟨⟨_,rfl,.refl _⟩,⟨_,rfl,.refl _⟩,⟨_,rfl,.refl _⟩,⟨_,rfl,.refl _⟩,Q0⟩ rfl) ?_);intro s2 y2 aD gZ;unfold FU at aD;refine sg (sq (ct aD (fun hb aD=>?_) fun hb aD=>?_))
  ·refine sk ?_;have ⟨v5,dP,aD⟩:=κ aD;refine Ok.bj ⟨ar [(2,.b 2 0),(3,.b 3 0),(6,.b 6 0),(44,.s (mI d.Γ.η)),(45,vi (d.Γ.η.length:Int)),(46,vi s2.1)],[(2,.box (b1 d)),(3,.box (b9 e)),(6,.box [.m 15]),(15,.mp true (aT (fun p=>(p.1,dh p.2)) v5))]⟩ ?_ ?_
   ·refine bl (sg ?_);have ⟨x2,au,dP⟩:=κ dP;refine ⟨_,bK au,_,bL au,_,rfl,_,rfl,?_⟩;refine sq (dw 8 tok mixed ?_);have ⟨x3,aM,dP⟩:=κ dP;refine ⟨_,rfl,_,⟨_,rfl,rfl⟩,_,rfl,_,⟨_,bK aM,_,bL aM,rfl⟩,_,⟨_,rfl,rfl⟩,_,rfl,_,⟨_,rfl,rfl⟩,_,rfl,Q0,?_⟩;refine ct dP (fun hb dP=>?_) fun hb dP=>?_
    ·refine rg ?_;have ⟨ep,dP⟩:=aG dP;refine ⟨_,rfl,_,rfl,_,rfl,ep.1,gx (kz (az _)) ep.2,_,iH dh x2.ι x2 s2.2,?_⟩;cases dP;exact wt Q6 J4 rfl
    refine sk ?_;cases dP;exact wt Q6 J4 rfl
   refine rg ?_;have ⟨kN,aD⟩:=aG aD;refine (θ ⟨kN,?_⟩);exact ⟨_,sj aD,wt Q6 J4 rfl⟩
  refine xt ?_;have aD:=bz aD gZ;cases aD;exact wt Q2 J3 rfl
 refine sg ⟨_,rfl,?_⟩;refine sg (sg (sg ⟨_,rfl,?_⟩));refine sg ?_;have ⟨x4,bw,h⟩:=κ h;refine ⟨_,rfl,_,rfl,?_⟩;refine cg [(1000,11),(1001,64),(1002,6),(1003,15),(1004,12),(1005,13)] [(35,999)] (aj3 bw) (n1 (.cons (Ln.b rfl) (.cons (Ln.b rfl) (.cons (Ln.b rfl) (.cons (Ln.b rfl) .nil))))) ⟨⟨11,_,rfl,rfl,.box (.cons (Ln.mm rfl) .nil)⟩,⟨64,_,rfl,rfl,.refl rfl⟩,⟨6,_,rfl,rfl,.box (.cons (Ln.mm rfl) .nil)⟩,⟨15,_,rfl,rfl,.refl rfl⟩,⟨12,_,rfl,rfl,.box nq⟩,⟨13,_,rfl,rfl,.box (.cons (Ln.c .nil (.cons (Ln.b rfl) (.cons (Ln.b rfl) (.cons (Ln.b rfl) (.cons (Ln.b rfl) .nil))))) .nil)⟩,Q0⟩ ?_;refine sg ?_;have ⟨x5,dv,h⟩:=κ h;refine ⟨_,rfl,?_⟩;refine af.eB (id:=999) (WM (E:=44) (enc:=dh) ag7 abc (fun _=>rfl) (fun _ _ _ h=>ai9 (M:=bM.yes) h) (enters_of func263 (by kernel_rfl) rfl) dv) rfl (.refl _) rfl (.cons Lr.o (.cons (Lr.dG rfl) .nil)) ?_;rintro _ _ ⟨rfl,rfl⟩;refine sg ⟨_,rfl,?_⟩
 refine rt ?_;cases h;exact (Fz.t (.cons (Fz.o rfl) fq))
def ai3 {c d r} (h:w8 c d=some r):Pure prog 132 [.a (b1 c),vi d] (.t (k20 r.1 r.2.1 r.2.2)):=by
 refine pq tok 32 func132 ?_;unfold w8 at h;refine sg (Ok.fg (fun v1=>⟨ar [],[]⟩) (fun v1=>PE v1=some r) ?_ ?_)
 ·refine sg ⟨_,rfl,_,az _,fun _=>?_⟩;refine bl (Ok.loop (fun (s1:Int)=>⟨ar [(1,vi d),(2,.b 2 0),(12,.s (mA c.aW)),(13,vi (c.aW.length:Int)),(14,vi s1)],[(2,.box (b1 c))]⟩) (Ke c d) (s0:=0) h (wt Q5 ⟨hr,Q0⟩ rfl) ?_);intro s1 y1 ζ aQ;unfold Ke at ζ;refine sg (sq (ct ζ (fun hb ζ=>?_) fun hb ζ=>?_))
  ·refine sk (sq (bl (sg ?_)));have ⟨x1,Ξ,ζ⟩:=κ ζ;refine ⟨_,bK Ξ,_,bL Ξ,_,rfl,_,rfl,?_⟩;refine sg ⟨_,rfl,?_⟩;refine ct ζ (fun hb ζ=>?_) fun hb ζ=>?_
   ·refine sg ?_;have ⟨x2,au,ζ⟩:=κ ζ;refine ⟨_,rfl,_,rfl,?_⟩;refine af.call (ai8 au) lz ?_;refine sg ⟨_,rfl,?_⟩;refine rt ?_;have ζ:=bz ζ aQ;cases ζ;exact (Fz.t (.cons Fz.v (.cons Fz.s fq)))
   refine sk (rg ?_);have ⟨ax,ζ⟩:=aG ζ;refine (θ ⟨ax,?_⟩);exact ⟨_,sj ζ,wt Q5 J1 rfl⟩
  refine xt ?_;have ζ:=bz ζ aQ;exact ⟨_,ζ,wt Q0 Q0 rfl⟩
 intro v1 h;unfold PE at h;refine sg (rt ?_);cases h;exact (Fz.t (.cons Fz.v (.cons Fz.nil fq)))
def aiv {c d r} (h:Ib c d=some r):Pure prog 135 [.a (b6 c),.p [vs d]] (vb r):=by
 refine pq tok 8 func135 ?_;unfold Ib at h;refine sg (sg ⟨_,rfl,_,rfl,_,tY _ _,?_⟩);refine rt ?_;cases h;exact Fz.v
def aji {a b r} (h:Ku a b=some r):Pure prog 134 [.s (mF a),.c (.func 135) [] [.p [vs b]]] (vi r):=by
 refine pq tok 19 func134 ?_;unfold Ku at h;refine sg (Ok.fg (fun v1=>⟨ar [],[]⟩) (fun v1=>P2 v1=some r) ?_ ?_)
 ·refine sg ⟨_,az _,fun _=>?_⟩;refine bl (Ok.loop (fun (s1:Int)=>⟨ar [(0,.s (mF a)),(1,.c (.func 135) [] [.p [vs b]]),(7,vi (a.length:Int)),(8,vi s1)],[]⟩) (P1 a b) (s0:=0) h (wt Q4 Q0 rfl) ?_);intro s1 y1 ζ aQ;unfold P1 at ζ;refine sg (sq (ct ζ (fun hb ζ=>?_) fun hb ζ=>?_))
  ·refine sk (sq (bl (sg ?_)));refine sg ?_;have ⟨x1,Ξ,ζ⟩:=κ ζ;have ⟨x2,au,ζ⟩:=κ ζ;refine ⟨_,bK Ξ,_,bL Ξ,_,rfl,?_⟩;refine af.call (aiv au) lz ?_;refine ct ζ (fun hb ζ=>?_) fun hb ζ=>?_
   ·refine sg (rt ?_);have ζ:=bz ζ aQ;cases ζ;exact Fz.v
   refine sk (rg ?_);have ⟨ax,ζ⟩:=aG ζ;refine (θ ⟨ax,?_⟩);exact ⟨_,sj ζ,wt Q4 Q0 rfl⟩
  refine xt ?_;have ζ:=bz ζ aQ;exact ⟨_,ζ,wt Q0 Q0 rfl⟩
 intro v1 h;unfold P2 at h;refine sg (rt ?_);cases h;exact Fz.v
def ajQ {a d e f g i j k l o u w A B C D E F G I J K L} {q:Int⊕(Ai)} (h:wg a d e f g i j k l o u w A B C D E F G I J K L=some q):fP prog bh 76 [.b 1000 0] ⟨aF,[(1000,.box (cP a d e f g i j k l o u w A B C D E F G I J K L))]⟩ (fun x s=>∃y:Ai,q=.inr y∧x=(.t [])∧s.H=[(1000,.box (Vq a d e f g i j k l o u w A B C D E F 0 y.1 y.2.1 y.2.2.1 y.2.2.2.1 y.2.2.2.2.1 y.2.2.2.2.2))]) fun m s=>q=.inl m∧s.H=[]:=by
 refine px tok 99 func76 ?_;unfold wg at h;refine sq (dw 18 tok mixed ?_);have ⟨x1,Ξ,h⟩:=κ h;refine ⟨_,rfl,_,rfl,_,rfl,_,rfl,_,⟨_,rfl,rfl⟩,_,rfl,_,rfl,_,rfl,_,rfl,_,⟨_,rfl,rfl⟩,_,⟨_,.fE (ai3 Ξ) lz,rfl⟩,_,rfl,_,rfl,_,rfl,_,rfl,_,rfl,_,rfl,_,rfl,Q0,?_⟩;refine sq (Ok.cV bh tok ?_);have ⟨x2,au,h⟩:=κ h;refine θ (bY (cx [] [] (ku au) nq Q0 (fun e1 bD=>?_) (fun y1 cY=>?_)))
 ·have h:=cw h bD;cases h;exact ⟨_,rfl,rfl⟩
 have h:=cy h cY;refine sg ?_;have ⟨x3,aM,h⟩:=κ h;refine ⟨_,rfl,?_⟩;refine af.call (Qz aM) lz ?_;refine sq (Ok.cV bh tok ?_);have ⟨x4,bw,h⟩:=κ h;refine θ (bY (cx [] [] (ku bw) nq Q0 (fun e2 dS=>?_) (fun y2 eu=>?_)))
 ·have h:=cw h dS;cases h;exact ⟨_,rfl,rfl⟩
 have h:=cy h eu;refine sg ?_;have ⟨v1,ν,h⟩:=κ h;refine Ok.bj ⟨ar [(0,.b 1000 0),(2,vi x1.1),(5,.s (mG x3.1)),(6,.m 41)],[(1000,.box (cP a d e f g i j k l o u w A B C D E F G I J K L)),(41,.mp true (aT (fun p=>(p.1,dh p.2)) v1))]⟩ ?_ ?_
 ·refine sg ⟨_,az _,fun _=>?_⟩;refine bl (Ok.loop (fun (s1:Int×(List (Int×τ)))=>⟨ar [(0,.b 1000 0),(2,vi x1.1),(5,.s (mG x3.1)),(6,.m 41),(42,.s (mI x1.2.1)),(43,vi (x1.2.1.length:Int)),(44,vi s1.1)],[(1000,.box (cP a d e f g i j k l o u w A B C D E F G I J K L)),(41,.mp true (aT (fun p=>(p.1,dh p.2)) s1.2))]⟩) (Ic x1) (s0:=(0,([]:List (Int×τ)))) ν (wt Q7 ⟨⟨_,rfl,.refl _⟩,⟨_,rfl,.refl _⟩,Q0⟩ rfl) ?_);intro s1 y3 ζ aQ;unfold Ic at ζ;refine sg (sq (ct ζ (fun hb ζ=>?_) fun hb ζ=>?_))
  ·refine sk (sq (bl (sg ?_)));have ⟨x5,dv,ζ⟩:=κ ζ;refine ⟨_,bK dv,_,bL dv,_,rfl,_,rfl,?_⟩;refine rg ?_;have ⟨ax,ζ⟩:=aG ζ;refine ⟨_,rfl,_,rfl,ax.1,gx (kz (az _)) ax.2,_,iH dh x5.ι x5 s1.2,?_⟩;refine rg ?_;have ⟨bt,ζ⟩:=aG ζ;refine (θ ⟨bt,?_⟩);exact ⟨_,sj ζ,wt Q7 J2 rfl⟩
  refine xt ?_;have ζ:=bz ζ aQ;cases ζ;exact wt Q4 J2 rfl
 refine sg ?_;have ⟨x6,gY,h⟩:=κ h;refine ⟨_,pJ dh (z:=((⟨0,0,0,[],[],0⟩:τ):τ)) gY,_,rfl,?_⟩;refine Ok.fg (fun v2=>⟨ar [(0,.b 1000 0),(9,.b 9 0)],[(1000,.box (cP a d e f g i j k l o u w A B C D E F G I J K L)),(9,.box (k8 v2.1 v2.2.1 v2.2.2.1 v2.2.2.2.1 v2.2.2.2.2.1 v2.2.2.2.2.2))]⟩) (fun v2=>Ig v2=some q) ?_ ?_
 ·refine sg ⟨_,az _,fun _=>?_⟩;refine bl (Ok.loop (fun (s2:Int×oT)=>⟨ar [(0,.b 1000 0),(6,.m 41),(9,.b 9 0),(56,.s (mG x3.1)),(57,vi (x3.1.length:Int)),(58,vi s2.1)],[(1000,.box (cP a d e f g i j k l o u w A B C D E F G I J K L)),(41,.mp true (aT (fun p=>(p.1,dh p.2)) v1)),(9,.box (k8 s2.2.1 s2.2.2.1 s2.2.2.2.1 s2.2.2.2.2.1 s2.2.2.2.2.2.1 s2.2.2.2.2.2.2))]⟩) (Ie x3 v1) (s0:=(0,x6.ι,x6.ξ,x6.aZ,x6.aC,x6.Ψ,x6.Up)) h (wt Q6 ⟨⟨_,rfl,.refl _⟩,⟨_,rfl,.refl _⟩,⟨_,rfl,.refl _⟩,Q0⟩ rfl) ?_);intro s2 y4 aD gZ;unfold Ie at aD;refine sg (sq (ct aD (fun hb aD=>?_) fun hb aD=>?_))
  ·refine sk (sq (bl (sg ?_)));have ⟨x7,gF,aD⟩:=κ aD;refine ⟨_,bK gF,_,bL gF,_,rfl,_,rfl,?_⟩;refine sq (Ok.cV bh tok ?_);have ⟨x8,ke,aD⟩:=κ aD;refine θ (θ (⟨_,rfl,θ ?_⟩));refine bY (cx [] [] (pR ke) nq Q0 (fun e3 jP=>?_) (fun y5 jD=>?_))
   ·have aD:=cw aD jP;have aD:=bz aD gZ;cases aD;exact ⟨_,rfl,rfl⟩
   have aD:=cy aD jD;refine sg ?_;have ⟨x9,kV,aD⟩:=κ aD;refine ⟨_,rfl,?_⟩;refine af.borrow (aji kV) (.cons Fz.s (.cons (Fz.c .nil (.cons (Fz.b rfl rfl) .nil)) .nil)) rfl ?_;refine sq (Ok.cV bh tok ?_);have ⟨kv,qp,aD⟩:=κ aD;refine θ (θ ?_);refine bY (cx [] [] (pR qp) nq Q0 (fun e4 j_=>?_) (fun y6 uV=>?_))
   ·have aD:=cw aD j_;have aD:=bz aD gZ;cases aD;exact ⟨_,rfl,rfl⟩
   have aD:=cy aD uV;refine rg ?_;have ⟨j0,qq,aD⟩:=κ aD;have ⟨gb,qs,aD⟩:=κ aD;refine ⟨_,rfl,_,bK qq,_,bL qq,_,rfl,_,pJ dh (z:=((⟨0,0,0,[],[],0⟩:τ):τ)) qs,_,rfl,?_⟩;refine rg ?_;have ⟨ep,aD⟩:=aG aD;refine (θ ⟨ep,?_⟩);exact ⟨_,sj aD,wt Q6 J3 rfl⟩
  refine xt ?_;have aD:=bz aD gZ;exact ⟨_,aD,wt Q2 ⟨⟨_,rfl,.refl _⟩,⟨_,rfl,.refl _⟩,Q0⟩ rfl⟩
 intro v2 h;unfold Ig at h;refine dw 17 tok mixed ?_;have ⟨pS,zm,h⟩:=κ h;have ⟨pT,wM,h⟩:=κ h;refine ⟨_,rfl,_,rfl,_,⟨_,rfl,rfl⟩,_,rfl,_,⟨_,rfl,rfl⟩,_,rfl,_,⟨_,rfl,rfl⟩,_,⟨_,rfl,rfl⟩,_,⟨_,.fE (Yo zm) lz,rfl⟩,_,rfl,_,⟨_,rfl,rfl⟩,_,⟨_,.fE (Yn wM) lz,rfl⟩,_,rfl,_,⟨_,rfl,rfl⟩,_,rfl,_,rfl,_,rfl,Q0,_,rfl,?_⟩;cases h;exact ⟨_,rfl,wt Q1 J1 rfl⟩
def ai5 {c d r} (h:Kf c d=some r):Pure prog 218 [.a (b9 c),.p [vi d]] (vb r):=by
 refine pq tok 8 func218 ?_;unfold Kf at h;refine sg (sg ⟨_,rfl,_,rfl,?_⟩);refine rt ?_;cases h;exact Fz.v
def akg {a d r} (h:Kl a d=some r):iZ prog 217 [.s (mA a),.c (.func 218) [] [.p [vi d]]] 105 3 (mA r):=by
 refine pv tok 23 func217 ?_;unfold Kl at h;refine sg (sg ?_);have ⟨v1,ν,h⟩:=κ h;refine Ok.bj ⟨ar [(5,.o 20)],[(20,.own 105 3 (mA v1))]⟩ ?_ ?_
 ·refine sg ⟨_,az _,fun _=>?_⟩;refine bl (Ok.loop (fun (s1:Int×(List bd))=>⟨ar [(1,.c (.func 218) [] [.p [vi d]]),(5,.o 20),(8,.s (mA a)),(9,vi (a.length:Int)),(10,vi s1.1)],[(20,.own 105 3 (mA s1.2))]⟩) (FW a d) (s0:=(0,[])) ν ((Wk.BZ (t:=5) (id:=20) (E:=105) (K:=3) rfl rfl).trans (wt Q5 ⟨hr,Q0⟩ rfl)) ?_);intro s1 y1 ζ aQ;unfold FW at ζ;refine sg (sq (ct ζ (fun hb ζ=>?_) fun hb ζ=>?_))
  ·refine sk ?_;have ⟨v2,aw,ζ⟩:=κ ζ;refine Ok.bj ⟨ar [(1,.c (.func 218) [] [.p [vi d]]),(5,.o 20),(8,.s (mA a)),(9,vi (a.length:Int)),(10,vi s1.1)],[(20,.own 105 3 (mA v2))]⟩ ?_ ?_
   ·refine bl (sg ?_);have ⟨x1,Ξ,aw⟩:=κ aw;refine ⟨_,bK Ξ,_,bL Ξ,_,rfl,_,rfl,?_⟩;refine sg ?_;have ⟨x2,au,aw⟩:=κ aw;refine ⟨_,rfl,?_⟩;refine af.call (ai5 au) lz ?_;refine ct aw (fun hb aw=>?_) fun hb aw=>?_
    ·refine rg ?_;have ⟨ax,aw⟩:=aG aw;refine ⟨_,rfl,θ ⟨hZ (f:=q7) (n:=3) (fun _=>rfl) ([x1]),iy (f:=q7) (l:=s1.2) (l':=[x1]) ax,_,(fu (f:=q7) (l₁:=s1.2) (l₂:=[x1])).symm,?_⟩⟩;cases aw;exact wt Q5 J1 rfl
    refine sk ?_;cases aw;exact wt Q5 J1 rfl
   refine rg ?_;have ⟨bt,ζ⟩:=aG ζ;refine (θ ⟨bt,?_⟩);exact ⟨_,sj ζ,wt Q5 J1 rfl⟩
  refine xt ?_;have ζ:=bz ζ aQ;cases ζ;exact wt Q1 J1 rfl
 refine sg (rt ?_);cases h;exact (.inr ⟨_,rfl,rfl⟩)
def ai6 {c d r} (h:Kg c d=some r):Pure prog 220 [.a (RY c),.p [.s (mA d)]] (vb r):=by
 refine pq tok 10 func220 ?_;unfold Kg at h;refine sg (sg ?_);have ⟨x1,Ξ,h⟩:=κ h;refine ⟨_,rfl,_,rfl,_,rfl,?_⟩;refine af.call (QD Ξ) lz ?_;refine rt ?_;cases h;exact Fz.v
def aj5 {d e r} (h:Kj d e=some r):af prog 219 [.s (mC d),.c (.func 220) [] [.b 1000 0]] ⟨aF,[(1000,.box [.s (mA e)])]⟩ fun x s=>x=(.o 20)∧s.H=[(20,.own 98 8 (mC r)),(1000,.box [.s (mA e)])]:=by
 refine pg tok 23 func219 ?_;unfold Kj at h;refine sg (sg ?_);have ⟨v1,ν,h⟩:=κ h;refine Ok.bj ⟨ar [(5,.o 20)],[(20,.own 98 8 (mC v1)),(1000,.box [.s (mA e)])]⟩ ?_ ?_
 ·refine sg ⟨_,az _,fun _=>?_⟩;refine bl (Ok.loop (fun (s1:Int×(List br))=>⟨ar [(1,.c (.func 220) [] [.b 1000 0]),(5,.o 20),(8,.s (mC d)),(9,vi (d.length:Int)),(10,vi s1.1)],[(1000,.box [.s (mA e)]),(20,.own 98 8 (mC s1.2))]⟩) (FV d e) (s0:=(0,[])) ν ((Wk.BZ (t:=5) (id:=20) (E:=98) (K:=8) rfl rfl).trans (wt Q5 ⟨hr,hr,Q0⟩ rfl)) ?_);intro s1 y1 ζ aQ;unfold FV at ζ;refine sg (sq (ct ζ (fun hb ζ=>?_) fun hb ζ=>?_))
  ·refine sk ?_;have ⟨v2,aw,ζ⟩:=κ ζ;refine Ok.bj ⟨ar [(1,.c (.func 220) [] [.b 1000 0]),(5,.o 20),(8,.s (mC d)),(9,vi (d.length:Int)),(10,vi s1.1)],[(1000,.box [.s (mA e)]),(20,.own 98 8 (mC v2))]⟩ ?_ ?_
   ·refine bl (sg ?_);have ⟨x1,Ξ,aw⟩:=κ aw;refine ⟨_,bK Ξ,_,bL Ξ,_,rfl,_,rfl,?_⟩;refine sg ?_;have ⟨x2,au,aw⟩:=κ aw;refine ⟨_,rfl,?_⟩;refine af.borrow (ai6 au) (.cons (Fz.a (.cons Fz.v (.cons Fz.v (.cons Fz.v (.cons Fz.v (.cons Fz.v (.cons Fz.s (.cons Fz.s fq)))))))) (.cons (Fz.b rfl rfl) .nil)) rfl ?_;refine ct aw (fun hb aw=>?_) fun hb aw=>?_
    ·refine rg ?_;have ⟨ax,aw⟩:=aG aw;refine ⟨_,rfl,θ ⟨hZ (f:=sD) (n:=8) (fun _=>rfl) ([x1]),iy (f:=sD) (l:=s1.2) (l':=[x1]) ax,_,(fu (f:=sD) (l₁:=s1.2) (l₂:=[x1])).symm,?_⟩⟩;cases aw;exact wt Q5 J2 rfl
    refine sk ?_;cases aw;exact wt Q5 J2 rfl
   refine rg ?_;have ⟨bt,ζ⟩:=aG ζ;refine (θ ⟨bt,?_⟩);exact ⟨_,sj ζ,wt Q5 J2 rfl⟩
  refine xt ?_;have ζ:=bz ζ aQ;cases ζ;exact wt Q1 J2 rfl
 refine sg (rt ?_);cases h;exact wt Q1 J2 rfl
def ai4 {d e r} (h:Ci d e=some r):Pure prog 136 [.a (b1 d),vi e] (.t [.a (b1 r.1),vi r.2]):=by
 refine pq tok 26 func136 ?_;unfold Ci at h;refine sg (sg ?_);have ⟨x1,Ξ,h⟩:=κ h;refine ⟨_,rfl,?_⟩;refine af.aeL (D:=10) (akg Ξ) (.cons Fz.s (.cons (Fz.c .nil (.cons (Fz.b rfl rfl) .nil)) .nil)) (agz (f:=q7) (fun _=>rfl) _) rfl ?_;refine ⟨_,rfl,?_⟩;refine sq (sg ?_);refine ⟨_,rfl,_,az _,fun _=>⟨_,rfl,_,az _,fun _=>?_⟩⟩;refine ct h (fun hb h=>?_) fun hb h=>?_
 ·refine sg ⟨_,rfl,_,rfl,?_⟩;refine rt ?_;cases h;exact ⟨_,rfl,Fz.t fq⟩
 refine sk (sg ?_);refine ⟨_,rfl,_,rfl,?_⟩;refine sq (Ok.wk (Wk.freeze (id:=10) rfl) ?_);refine rg ?_;have ⟨x3,aM,h⟩:=κ h;refine ⟨_,rfl,?_⟩;refine cg [(1000,6)] [(20,999)] (aj5 aM) (n1 (.cons (Ln.c .nil (.cons (Ln.b rfl) .nil)) .nil)) ⟨⟨6,_,rfl,rfl,.box nq⟩,Q0⟩ ?_;refine ⟨_,rfl,?_⟩;refine wT [(2,.b 2 0),(4,.b 4 0)] [(2,.box [.s (mI d.Γ.η),vi d.Γ.Next,vi d.Γ.aj,vi d.bc,.s (mB d.a_),.o 999,.s (mA x1),vi d.Next]),(999,.own 98 8 (mC x3)),(4,.box (k3 0 0 0 0))] Q2 J3 rfl ?_;refine sg ⟨_,rfl,_,rfl,?_⟩;refine rt ?_;cases h;exact ⟨_,rfl,Fz.t (.cons (Fz.a (.cons Fz.s (.cons Fz.v (.cons Fz.v (.cons Fz.v (.cons Fz.s (.cons (Fz.o rfl) (.cons Fz.s fq)))))))) fq)⟩
def ajH {C D E F G I J K a d e f g i j k l o u w z A B} {q:Int⊕((List τ)×Int×Int×Int×(List Int)×(List br)×(List bd)×Int)} (h:DV C D E F G I J K a d e f g i j k l o u w z A B=some q):fP prog bh 77 [.b 1000 0] ⟨aF,[(1000,.box (cP C D E F G I J K a d e f g i j k l o u w z A B))]⟩ (fun x s=>∃y:(List τ)×Int×Int×Int×(List Int)×(List br)×(List bd)×Int,q=.inr y∧x=(.t [])∧s.H=[(1000,.box (cP y.1 y.2.1 y.2.2.1 y.2.2.2.1 y.2.2.2.2.1 y.2.2.2.2.2.1 y.2.2.2.2.2.2.1 y.2.2.2.2.2.2.2 a d e f g i j k l o u w z A B))]) fun m s=>q=.inl m∧s.H=[]:=by
 refine px tok 25 func77 ?_;unfold DV at h;refine sq (Ok.q_ (m:=15) (late:=[13]) (MD:=⟨[]⟩) (CH:=⟨[]⟩) tok mixed (by kernel_rfl) ?_);have ⟨x1,Ξ,h⟩:=κ h;refine ⟨_,rfl,_,rfl,_,rfl,_,rfl,_,⟨_,rfl,rfl⟩,_,rfl,_,rfl,_,rfl,_,rfl,_,⟨_,rfl,rfl⟩,_,⟨_,.fE (ai4 Ξ) lz,rfl⟩,_,rfl,_,rfl,_,rfl,Q0,?_⟩;refine ⟨_,rfl,⟨⟨_,rfl,rfl⟩,Q0⟩,?_⟩;refine sq (Ok.cV bh tok ?_);have ⟨x2,au,h⟩:=κ h;refine θ (bY (cx [] [] (ku au) nq Q0 (fun e1 bD=>?_) (fun y1 cY=>?_)))
 ·have h:=cw h bD;cases h;exact ⟨_,rfl,rfl⟩
 have h:=cy h cY;refine rg ⟨_,rfl,_,rfl,?_⟩;cases h;exact ⟨_,rfl,wt Q1 J1 rfl⟩
def aiz {d c e r} (h:By d c e=some r):Pure prog 137 [.a (b0 d),.s (mE c),vi e] (.t [.a (b0 r.1),.s (mE r.2)]):=by
 refine pq tok 33 func137 ?_;unfold By at h;refine sg ?_;have ⟨v1,ν,h⟩:=κ h;refine Ok.bj ⟨ar [(1,.s (mE v1.1)),(3,.b 3 0),(6,.b 6 0)],[(3,.box (k0 v1.2.1 v1.2.2.1 v1.2.2.2)),(6,.box (k1 0 0))]⟩ ?_ ?_
 ·refine sg ⟨_,az _,fun _=>?_⟩;refine bl (Ok.loop (fun (s1:(List ay)×Int×fV)=>⟨ar [(1,.s (mE s1.1)),(2,vi e),(3,.b 3 0),(6,.b 6 0),(10,.s (mE c)),(11,vi (c.length:Int)),(12,vi s1.2.1)],[(3,.box (k0 s1.2.2.1 s1.2.2.2.1 s1.2.2.2.2)),(6,.box (k1 0 0))]⟩) (EE c e) (s0:=(c,0,d.η,d.Next,d.aj)) ν (wt Q7 ⟨hr,hr,Q0⟩ rfl) ?_);intro s1 y1 ζ aQ;unfold EE at ζ;refine sg (sq (ct ζ (fun hb ζ=>?_) fun hb ζ=>?_))
  ·refine sk ?_;have ⟨v2,aw,ζ⟩:=κ ζ;refine Ok.bj ⟨ar [(1,.s (mE v2.1)),(2,vi e),(3,.b 3 0),(6,.b 6 0),(10,.s (mE c)),(11,vi (c.length:Int)),(12,vi s1.2.1)],[(3,.box (k0 v2.2.1 v2.2.2.1 v2.2.2.2)),(6,.box (k1 0 0))]⟩ ?_ ?_
   ·refine bl (sg ?_);have ⟨x1,Ξ,aw⟩:=κ aw;refine ⟨_,bK Ξ,_,bL Ξ,_,rfl,_,rfl,?_⟩;refine sg ⟨_,rfl,?_⟩;refine ct aw (fun hb aw=>?_) fun hb aw=>?_
    ·refine rg ?_;have ⟨x2,au,aw⟩:=κ aw;refine ⟨_,rfl,_,rfl,?_⟩;refine af.call (Qx au) lz ?_;refine ⟨_,rfl,?_⟩;cases aw;exact wt Q7 J2 rfl
    refine sk ?_;cases aw;exact wt Q7 J2 rfl
   refine rg ?_;have ⟨ax,ζ⟩:=aG ζ;refine (θ ⟨ax,?_⟩);exact ⟨_,sj ζ,wt Q7 J2 rfl⟩
  refine xt ?_;have ζ:=bz ζ aQ;cases ζ;exact wt Q3 J2 rfl
 refine sg ⟨_,rfl,_,rfl,?_⟩;refine rt ?_;cases h;exact ⟨_,rfl,Fz.t (.cons (Fz.dG rfl) (.cons Fz.s .nil))⟩
def ajF {A B C D E F G I J a d e f g i j k l o u w z y r} (h:DT A B C D E F G I J a d e f g i j k l o u w z y=some r):af prog 78 [.b 1000 0] ⟨aF,[(1000,.box (cP A B C D E F G I J a d e f g i j k l o u w z y))]⟩ fun x s=>x=(.t [])∧s.H=[(1000,.box (cP r.1 r.2.1 r.2.2.1 r.2.2.2.1 r.2.2.2.2.1 r.2.2.2.2.2.1 r.2.2.2.2.2.2.1 r.2.2.2.2.2.2.2.1 (t8 r) a d e f g i j k l o u w z y))]:=by
 refine pg tok 40 func78 ?_;unfold DT at h;refine sq (Ok.q_ (m:=21) (late:=[19]) (MD:=⟨[]⟩) (CH:=⟨[]⟩) tok mixed (by kernel_rfl) ?_);have ⟨x1,Ξ,h⟩:=κ h;refine ⟨_,rfl,_,rfl,_,rfl,_,rfl,_,rfl,_,⟨_,rfl,rfl⟩,_,rfl,_,rfl,_,rfl,_,rfl,_,⟨_,rfl,rfl⟩,_,rfl,_,rfl,_,rfl,_,rfl,_,⟨_,rfl,rfl⟩,_,⟨_,.fE (aiz Ξ) lz,rfl⟩,_,rfl,_,rfl,_,rfl,Q0,?_⟩;refine ⟨_,rfl,⟨⟨_,rfl,rfl⟩,Q0⟩,?_⟩;refine Ok.q_ (m:=13) (late:=[1,9]) (MD:=⟨[]⟩) (CH:=⟨[]⟩) tok mixed (by kernel_rfl) ?_;have ⟨x2,au,h⟩:=κ h;refine ⟨_,rfl,_,rfl,_,rfl,_,rfl,_,rfl,_,rfl,_,⟨_,rfl,rfl⟩,_,⟨_,rfl,rfl⟩,_,⟨_,.fE (QC au) lz,rfl⟩,_,rfl,_,rfl,_,rfl,_,rfl,Q0,?_⟩;refine ⟨_,rfl,⟨⟨_,rfl,rfl⟩,⟨_,rfl,rfl⟩,Q0⟩,_,rfl,?_⟩;cases h;exact wt Q1 J1 rfl
end Go.Proofs
