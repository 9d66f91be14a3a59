/- The walks of this seat beside the plain programs, part 6. No condition. -/
import Derived.Test.YtdcgbodbejgliaaGreatDoorXTopUnseenHb
import Derived.Test.YtdcgbodbejgliaaGreatDoorXTopUnseenWk0
import Derived.Test.YtdcgbodbejgliaaGreatDoorXTopUnseenWk1
import Derived.Test.YtdcgbodbejgliaaGreatDoorXTopUnseenWk2
import Derived.Test.YtdcgbodbejgliaaGreatDoorXTopUnseenWk3
import Derived.Test.YtdcgbodbejgliaaGreatDoorXTopUnseenWk4
import Derived.Test.YtdcgbodbejgliaaGreatDoorXTopUnseenWk5
open List renaming length_map → ay, map → aU, map_append → fo
open Nat renaming lt_of_le_of_lt → gv, le_of_eq → kv
open Or renaming inl → θ, inr → bX
namespace Go.Proofs
set_option linter.all false
open Go Go.Cat Tryz
variable [M:bK]
set_option maxRecDepth 100000
set_option maxHeartbeats 4000000
def aiZ {d e r} (h:FE d e=some r):Pure prog 215 [.a (b1 d),.a (b9 e)] (.t [.s (mI r.1),vb r.2]):=by
 refine pq tok 74 func215 ?_;unfold FE at h;refine sg (sg ⟨_,rfl,?_⟩);have ⟨v1,ν,h⟩:=κ h;refine Ok.bh ⟨ar [(2,.b 2 0),(3,.b 3 0),(6,.b 6 0)],[(2,.box (b1 d)),(3,.box (b9 e)),(6,.box [.m 15]),(15,.mp true (aU (fun p=>(p.1,di p.2)) v1))]⟩ ?_ ?_
 ·refine sg ⟨_,rfl,_,ay _,fun _=>?_⟩;refine bl (Ok.loop (fun (s1:Int×(List (Int×ξ)))=>⟨ar [(2,.b 2 0),(3,.b 3 0),(6,.b 6 0),(17,.s (mC d.aS)),(18,vi (d.aS.length:Int)),(19,vi s1.1)],[(2,.box (b1 d)),(3,.box (b9 e)),(6,.box [.m 15]),(15,.mp true (aU (fun p=>(p.1,di p.2)) s1.2))]⟩) (FJ d e) (s0:=(0,([]:List (Int×ξ)))) ν (wt Q6 ⟨⟨_,rfl,.refl _⟩,⟨_,rfl,.refl _⟩,⟨_,rfl,.refl _⟩,⟨_,rfl,.refl _⟩,Q0⟩ rfl) ?_);intro s1 y1 ζ aP;unfold FJ at ζ;refine sg (sq (ct ζ (fun hb ζ=>?_) fun hb ζ=>?_))
  ·refine sk ?_;have ⟨v2,ax,ζ⟩:=κ ζ;refine Ok.bh ⟨ar [(2,.b 2 0),(3,.b 3 0),(6,.b 6 0),(17,.s (mC d.aS)),(18,vi (d.aS.length:Int)),(19,vi s1.1)],[(2,.box (b1 d)),(3,.box (b9 e)),(6,.box [.m 15]),(15,.mp true (aU (fun p=>(p.1,di p.2)) v2))]⟩ ?_ ?_
   ·refine bl (sg ?_);have ⟨x1,Ξ,ax⟩:=κ ax;refine ⟨_,bz Ξ,_,bC Ξ,_,rfl,_,rfl,?_⟩;have ⟨v3,eb,ax⟩:=κ ax;refine Ok.bh ⟨ar [(2,.b 2 0),(3,.b 3 0),(6,.b 6 0),(8,.b 8 0),(17,.s (mC d.aS)),(18,vi (d.aS.length:Int)),(19,vi s1.1),(34,vb v3)],[(2,.box (b1 d)),(3,.box (b9 e)),(6,.box [.m 15]),(15,.mp true (aU (fun p=>(p.1,di p.2)) s1.2)),(8,.box (RL x1))]⟩ ?_ ?_
    ·refine rg ⟨_,rfl,_,rfl,?_⟩;have ⟨c1,Δ,eb⟩:=κ eb;refine Br.ite Δ (fun hb Δ=>?_) fun hb Δ=>?_
     ·refine ⟨_,rfl,_,rfl,?_⟩;cases Δ;cases eb;exact wt Q8 ⟨hr,J4⟩ rfl
     cases Δ;cases eb;exact wt Q8 ⟨hr,J4⟩ rfl
    refine ct ax (fun hb ax=>?_) fun hb ax=>?_
    ·refine rg ?_;have ⟨aw,ax⟩:=aG ax;refine ⟨_,rfl,_,rfl,_,rfl,aw.1,gv (kv (ay _)) aw.2,_,iG di x1.fg.ι x1.fg s1.2,?_⟩;cases ax;exact wt Q6 J4 rfl
    refine sk ?_;cases ax;exact wt Q6 J4 rfl
   refine rg ?_;have ⟨br,ζ⟩:=aG ζ;refine (θ ⟨br,?_⟩);exact ⟨_,sj ζ,wt Q6 J4 rfl⟩
  refine xt ?_;have ζ:=bx ζ aP;cases ζ;exact wt Q3 J4 rfl
 have ⟨v4,fR,h⟩:=κ h;refine Ok.bh ⟨ar [(3,.b 3 0),(6,.b 6 0)],[(3,.box (b9 e)),(6,.box [.m 15]),(15,.mp true (aU (fun p=>(p.1,di p.2)) v4))]⟩ ?_ ?_
 ·refine sg ⟨_,rfl,_,ay _,fun _=>?_⟩;refine bl (Ok.loop (fun (s2:Int×(List (Int×ξ)))=>⟨ar [(2,.b 2 0),(3,.b 3 0),(6,.b 6 0),(44,.s (mI d.Γ.η)),(45,vi (d.Γ.η.length:Int)),(46,vi s2.1)],[(2,.box (b1 d)),(3,.box (b9 e)),(6,.box [.m 15]),(15,.mp true (aU (fun p=>(p.1,di p.2)) s2.2))]⟩) (FK d e) (s0:=(0,v1)) fR (wt Q6 ⟨⟨_,rfl,.refl _⟩,⟨_,rfl,.refl _⟩,⟨_,rfl,.refl _⟩,⟨_,rfl,.refl _⟩,Q0⟩ rfl) ?_);intro s2 y2 aD gX;unfold FK at aD;refine sg (sq (ct aD (fun hb aD=>?_) fun hb aD=>?_))
  ·refine sk ?_;have ⟨v5,dj,aD⟩:=κ aD;refine Ok.bh ⟨ar [(2,.b 2 0),(3,.b 3 0),(6,.b 6 0),(44,.s (mI d.Γ.η)),(45,vi (d.Γ.η.length:Int)),(46,vi s2.1)],[(2,.box (b1 d)),(3,.box (b9 e)),(6,.box [.m 15]),(15,.mp true (aU (fun p=>(p.1,di p.2)) v5))]⟩ ?_ ?_
   ·refine bl (sg ?_);have ⟨x2,au,dj⟩:=κ dj;refine ⟨_,bz au,_,bC au,_,rfl,_,rfl,?_⟩;refine sq (dw 8 tok mixed ?_);have ⟨x3,aL,dj⟩:=κ dj;refine ⟨_,rfl,_,⟨_,rfl,rfl⟩,_,rfl,_,⟨_,bz aL,_,bC aL,rfl⟩,_,⟨_,rfl,rfl⟩,_,rfl,_,⟨_,rfl,rfl⟩,_,rfl,Q0,?_⟩;refine ct dj (fun hb dj=>?_) fun hb dj=>?_
    ·refine rg ?_;have ⟨eo,dj⟩:=aG dj;refine ⟨_,rfl,_,rfl,_,rfl,eo.1,gv (kv (ay _)) eo.2,_,iG di x2.ι x2 s2.2,?_⟩;cases dj;exact wt Q6 J4 rfl
    refine sk ?_;cases dj;exact wt Q6 J4 rfl
   refine rg ?_;have ⟨kL,aD⟩:=aG aD;refine (θ ⟨kL,?_⟩);exact ⟨_,sj aD,wt Q6 J4 rfl⟩
  refine xt ?_;have aD:=bx aD gX;cases aD;exact wt Q2 J3 rfl
 refine sg ⟨_,rfl,?_⟩;refine sg (sg (sg ⟨_,rfl,?_⟩));refine sg ?_;have ⟨x4,bu,h⟩:=κ h;refine ⟨_,rfl,_,rfl,?_⟩;refine cg [(1000,11),(1001,64),(1002,6),(1003,15),(1004,12),(1005,13)] [(35,999)] (ajU bu) (n1 (.cons (Ln.b rfl) (.cons (Ln.b rfl) (.cons (Ln.b rfl) (.cons (Ln.b rfl) .nil))))) ⟨⟨11,_,rfl,rfl,.box (.cons (Ln.mm rfl) .nil)⟩,⟨64,_,rfl,rfl,.refl rfl⟩,⟨6,_,rfl,rfl,.box (.cons (Ln.mm rfl) .nil)⟩,⟨15,_,rfl,rfl,.refl rfl⟩,⟨12,_,rfl,rfl,.box nq⟩,⟨13,_,rfl,rfl,.box (.cons (Ln.c .nil (.cons (Ln.b rfl) (.cons (Ln.b rfl) (.cons (Ln.b rfl) (.cons (Ln.b rfl) .nil))))) .nil)⟩,Q0⟩ ?_;refine sg ?_;have ⟨x5,dA,h⟩:=κ h;refine ⟨_,rfl,?_⟩;refine af.ez (id:=999) (Wy (E:=44) (enc:=di) agT aa1 (fun _=>rfl) (fun _ _ _ h=>ai0 (M:=bK.yes) h) (enters_of func263 (by kernel_rfl) rfl) dA) rfl (.refl _) rfl (.cons Lr.o (.cons (Lr.dG rfl) .nil)) ?_;rintro _ _ ⟨rfl,rfl⟩;refine sg ⟨_,rfl,?_⟩
 refine rt ?_;cases h;exact (Fz.t (.cons (Fz.o rfl) fq))
def aiU {c d r} (h:wS c d=some r):Pure prog 132 [.a (b1 c),vi d] (.t (k20 r.1 r.2.1 r.2.2)):=by
 refine pq tok 32 func132 ?_;unfold wS at h;refine sg (Ok.eW (fun v1=>⟨ar [],[]⟩) (fun v1=>Pk v1=some r) ?_ ?_)
 ·refine sg ⟨_,rfl,_,ay _,fun _=>?_⟩;refine bl (Ok.loop (fun (s1:Int)=>⟨ar [(1,vi d),(2,.b 2 0),(12,.s (mA c.aW)),(13,vi (c.aW.length:Int)),(14,vi s1)],[(2,.box (b1 c))]⟩) (JT c d) (s0:=0) h (wt Q5 ⟨⟨_,rfl,.refl _⟩,Q0⟩ rfl) ?_);intro s1 y1 ζ aP;unfold JT at ζ;refine sg (sq (ct ζ (fun hb ζ=>?_) fun hb ζ=>?_))
  ·refine sk (sq (bl (sg ?_)));have ⟨x1,Ξ,ζ⟩:=κ ζ;refine ⟨_,bz Ξ,_,bC Ξ,_,rfl,_,rfl,?_⟩;refine sg ⟨_,rfl,?_⟩;refine ct ζ (fun hb ζ=>?_) fun hb ζ=>?_
   ·refine sg ?_;have ⟨x2,au,ζ⟩:=κ ζ;refine ⟨_,rfl,_,rfl,?_⟩;refine af.call (aiZ au) lz ?_;refine sg ⟨_,rfl,?_⟩;refine rt ?_;have ζ:=bx ζ aP;cases ζ;exact (Fz.t (.cons Fz.v (.cons Fz.s fq)))
   refine sk (rg ?_);have ⟨aw,ζ⟩:=aG ζ;refine (θ ⟨aw,?_⟩);exact ⟨_,sj ζ,wt Q5 J1 rfl⟩
  refine xt ?_;have ζ:=bx ζ aP;exact ⟨_,ζ,wt Q0 Q0 rfl⟩
 intro v1 h;unfold Pk at h;refine sg (rt ?_);cases h;exact (Fz.t (.cons Fz.v (.cons Fz.nil fq)))
def aim {c d r} (h:HP c d=some r):Pure prog 135 [.a (b6 c),.p [vs d]] (vb r):=by
 refine pq tok 8 func135 ?_;unfold HP at h;refine sg (sg ⟨_,rfl,_,rfl,_,tD _ _,?_⟩);refine rt ?_;cases h;exact Fz.v
def ai' {a b r} (h:Ka a b=some r):Pure prog 134 [.s (mF a),.c (.func 135) [] [.p [vs b]]] (vi r):=by
 refine pq tok 19 func134 ?_;unfold Ka at h;refine sg (Ok.eW (fun v1=>⟨ar [],[]⟩) (fun v1=>PG v1=some r) ?_ ?_)
 ·refine sg ⟨_,ay _,fun _=>?_⟩;refine bl (Ok.loop (fun (s1:Int)=>⟨ar [(0,.s (mF a)),(1,.c (.func 135) [] [.p [vs b]]),(7,vi (a.length:Int)),(8,vi s1)],[]⟩) (PE a b) (s0:=0) h (wt Q4 Q0 rfl) ?_);intro s1 y1 ζ aP;unfold PE at ζ;refine sg (sq (ct ζ (fun hb ζ=>?_) fun hb ζ=>?_))
  ·refine sk (sq (bl (sg ?_)));refine sg ?_;have ⟨x1,Ξ,ζ⟩:=κ ζ;have ⟨x2,au,ζ⟩:=κ ζ;refine ⟨_,bz Ξ,_,bC Ξ,_,rfl,?_⟩;refine af.call (aim au) lz ?_;refine ct ζ (fun hb ζ=>?_) fun hb ζ=>?_
   ·refine sg (rt ?_);have ζ:=bx ζ aP;cases ζ;exact Fz.v
   refine sk (rg ?_);have ⟨aw,ζ⟩:=aG ζ;refine (θ ⟨aw,?_⟩);exact ⟨_,sj ζ,wt Q4 Q0 rfl⟩
  refine xt ?_;have ζ:=bx ζ aP;exact ⟨_,ζ,wt Q0 Q0 rfl⟩
 intro v1 h;unfold PG at h;refine sg (rt ?_);cases h;exact Fz.v
def ajH {a d e f g i j k l o u w A B C D E F G I J K L} {q:Int⊕(z_)} (h:yk a d e f g i j k l o u w A B C D E F G I J K L=some q):fL prog bg 76 [.b 1000 0] ⟨aF,[(1000,.box (cP a d e f g i j k l o u w A B C D E F G I J K L))]⟩ (fun x s=>∃y:z_,q=.inr y∧x=(.t [])∧s.H=[(1000,.box (Vg a d e f g i j k l o u w A B C D E F 0 y.1 y.2.1 y.2.2.1 y.2.2.2.1 y.2.2.2.2.1 y.2.2.2.2.2))]) fun m s=>q=.inl m∧s.H=[]:=by
 refine px tok 99 func76 ?_;unfold yk at h;refine sq (dw 18 tok mixed ?_);have ⟨x1,Ξ,h⟩:=κ h;refine ⟨_,rfl,_,rfl,_,rfl,_,rfl,_,⟨_,rfl,rfl⟩,_,rfl,_,rfl,_,rfl,_,rfl,_,⟨_,rfl,rfl⟩,_,⟨_,.fk (aiU Ξ) lz,rfl⟩,_,rfl,_,rfl,_,rfl,_,rfl,_,rfl,_,rfl,_,rfl,Q0,?_⟩;refine sq (Ok.cW bg tok ?_);have ⟨x2,au,h⟩:=κ h;refine θ (bX (cx [] [] (ku au) nq Q0 (fun e1 bE=>?_) (fun y1 cZ=>?_)))
 ·have h:=cw h bE;cases h;exact ⟨_,rfl,rfl⟩
 have h:=cy h cZ;refine sg ?_;have ⟨x3,aL,h⟩:=κ h;refine ⟨_,rfl,?_⟩;refine af.call (Qo aL) lz ?_;refine sq (Ok.cW bg tok ?_);have ⟨x4,bu,h⟩:=κ h;refine θ (bX (cx [] [] (ku bu) nq Q0 (fun e2 dR=>?_) (fun y2 et=>?_)))
 ·have h:=cw h dR;cases h;exact ⟨_,rfl,rfl⟩
 have h:=cy h et;refine sg ?_;have ⟨v1,ν,h⟩:=κ h;refine Ok.bh ⟨ar [(0,.b 1000 0),(2,vi x1.1),(5,.s (mG x3.1)),(6,.m 41)],[(1000,.box (cP a d e f g i j k l o u w A B C D E F G I J K L)),(41,.mp true (aU (fun p=>(p.1,di p.2)) v1))]⟩ ?_ ?_
 ·refine sg ⟨_,ay _,fun _=>?_⟩;refine bl (Ok.loop (fun (s1:Int×(List (Int×ξ)))=>⟨ar [(0,.b 1000 0),(2,vi x1.1),(5,.s (mG x3.1)),(6,.m 41),(42,.s (mI x1.2.1)),(43,vi (x1.2.1.length:Int)),(44,vi s1.1)],[(1000,.box (cP a d e f g i j k l o u w A B C D E F G I J K L)),(41,.mp true (aU (fun p=>(p.1,di p.2)) s1.2))]⟩) (HQ x1) (s0:=(0,([]:List (Int×ξ)))) ν (wt Q7 ⟨⟨_,rfl,.refl _⟩,⟨_,rfl,.refl _⟩,Q0⟩ rfl) ?_);intro s1 y3 ζ aP;unfold HQ at ζ;refine sg (sq (ct ζ (fun hb ζ=>?_) fun hb ζ=>?_))
  ·refine sk (sq (bl (sg ?_)));have ⟨x5,dA,ζ⟩:=κ ζ;refine ⟨_,bz dA,_,bC dA,_,rfl,_,rfl,?_⟩;refine rg ?_;have ⟨aw,ζ⟩:=aG ζ;refine ⟨_,rfl,_,rfl,aw.1,gv (kv (ay _)) aw.2,_,iG di x5.ι x5 s1.2,?_⟩;refine rg ?_;have ⟨br,ζ⟩:=aG ζ;refine (θ ⟨br,?_⟩);exact ⟨_,sj ζ,wt Q7 J2 rfl⟩
  refine xt ?_;have ζ:=bx ζ aP;cases ζ;exact wt Q4 J2 rfl
 refine sg ?_;have ⟨x6,gW,h⟩:=κ h;refine ⟨_,pF di (z:=((⟨0,0,0,[],[],0⟩:ξ):ξ)) gW,_,rfl,?_⟩;refine Ok.eW (fun v2=>⟨ar [(0,.b 1000 0),(9,.b 9 0)],[(1000,.box (cP a d e f g i j k l o u w A B C D E F G I J K L)),(9,.box (k8 v2.1 v2.2.1 v2.2.2.1 v2.2.2.2.1 v2.2.2.2.2.1 v2.2.2.2.2.2))]⟩) (fun v2=>HS v2=some q) ?_ ?_
 ·refine sg ⟨_,ay _,fun _=>?_⟩;refine bl (Ok.loop (fun (s2:Int×oQ)=>⟨ar [(0,.b 1000 0),(6,.m 41),(9,.b 9 0),(56,.s (mG x3.1)),(57,vi (x3.1.length:Int)),(58,vi s2.1)],[(1000,.box (cP a d e f g i j k l o u w A B C D E F G I J K L)),(41,.mp true (aU (fun p=>(p.1,di p.2)) v1)),(9,.box (k8 s2.2.1 s2.2.2.1 s2.2.2.2.1 s2.2.2.2.2.1 s2.2.2.2.2.2.1 s2.2.2.2.2.2.2))]⟩) (HR x3 v1) (s0:=(0,x6.ι,x6.τ,x6.bb,x6.aC,x6.Ψ,x6.Up)) h (wt Q6 ⟨⟨_,rfl,.refl _⟩,⟨_,rfl,.refl _⟩,⟨_,rfl,.refl _⟩,Q0⟩ rfl) ?_);intro s2 y4 aD gX;unfold HR at aD;refine sg (sq (ct aD (fun hb aD=>?_) fun hb aD=>?_))
  ·refine sk (sq (bl (sg ?_)));have ⟨x7,gn,aD⟩:=κ aD;refine ⟨_,bz gn,_,bC gn,_,rfl,_,rfl,?_⟩;refine sq (Ok.cW bg tok ?_);have ⟨x8,jS,aD⟩:=κ aD;refine θ (θ (⟨_,rfl,θ ?_⟩));refine bX (cx [] [] (pN jS) nq Q0 (fun e3 jL=>?_) (fun y5 jx=>?_))
   ·have aD:=cw aD jL;have aD:=bx aD gX;cases aD;exact ⟨_,rfl,rfl⟩
   have aD:=cy aD jx;refine sg ?_;have ⟨x9,j_,aD⟩:=κ aD;refine ⟨_,rfl,?_⟩;refine af.borrow (ai' j_) (.cons Fz.s (.cons (Fz.c .nil (.cons (Fz.b rfl rfl) .nil)) .nil)) rfl ?_;refine sq (Ok.cW bg tok ?_);have ⟨gq,qg,aD⟩:=κ aD;refine θ (θ ?_);refine bX (cx [] [] (pN qg) nq Q0 (fun e4 j8=>?_) (fun y6 uH=>?_))
   ·have aD:=cw aD j8;have aD:=bx aD gX;cases aD;exact ⟨_,rfl,rfl⟩
   have aD:=cy aD uH;refine rg ?_;have ⟨iW,nN,aD⟩:=κ aD;have ⟨ei,oK,aD⟩:=κ aD;refine ⟨_,rfl,_,bz nN,_,bC nN,_,rfl,_,pF di (z:=((⟨0,0,0,[],[],0⟩:ξ):ξ)) oK,_,rfl,?_⟩;refine rg ?_;have ⟨eo,aD⟩:=aG aD;refine (θ ⟨eo,?_⟩);exact ⟨_,sj aD,wt Q6 J3 rfl⟩
  refine xt ?_;have aD:=bx aD gX;exact ⟨_,aD,wt Q2 ⟨⟨_,rfl,.refl _⟩,⟨_,rfl,.refl _⟩,Q0⟩ rfl⟩
 intro v2 h;unfold HS at h;refine dw 17 tok mixed ?_;have ⟨na,uI,h⟩:=κ h;have ⟨nf,sR,h⟩:=κ h;refine ⟨_,rfl,_,rfl,_,⟨_,rfl,rfl⟩,_,rfl,_,⟨_,rfl,rfl⟩,_,rfl,_,⟨_,rfl,rfl⟩,_,⟨_,rfl,rfl⟩,_,⟨_,.fk (Yc uI) lz,rfl⟩,_,rfl,_,⟨_,rfl,rfl⟩,_,⟨_,.fk (Yb sR) lz,rfl⟩,_,rfl,_,⟨_,rfl,rfl⟩,_,rfl,_,rfl,_,rfl,Q0,_,rfl,?_⟩;cases h;exact ⟨_,rfl,wt Q1 J1 rfl⟩
def aiW {c d r} (h:JU c d=some r):Pure prog 218 [.a (b9 c),.p [vi d]] (vb r):=by
 refine pq tok 8 func218 ?_;unfold JU at h;refine sg (sg ⟨_,rfl,_,rfl,?_⟩);refine rt ?_;cases h;exact Fz.v
def aj9 {a d r} (h:JZ a d=some r):i_ prog 217 [.s (mA a),.c (.func 218) [] [.p [vi d]]] 105 3 (mA r):=by
 refine pv tok 23 func217 ?_;unfold JZ at h;refine sg (sg ?_);have ⟨v1,ν,h⟩:=κ h;refine Ok.bh ⟨ar [(5,.o 20)],[(20,.own 105 3 (mA v1))]⟩ ?_ ?_
 ·refine sg ⟨_,ay _,fun _=>?_⟩;refine bl (Ok.loop (fun (s1:Int×(List bd))=>⟨ar [(1,.c (.func 218) [] [.p [vi d]]),(5,.o 20),(8,.s (mA a)),(9,vi (a.length:Int)),(10,vi s1.1)],[(20,.own 105 3 (mA s1.2))]⟩) (FM a d) (s0:=(0,[])) ν ((Wk.BP (t:=5) (id:=20) (E:=105) (K:=3) rfl rfl).trans (wt Q5 ⟨⟨_,rfl,.refl _⟩,Q0⟩ rfl)) ?_);intro s1 y1 ζ aP;unfold FM at ζ;refine sg (sq (ct ζ (fun hb ζ=>?_) fun hb ζ=>?_))
  ·refine sk ?_;have ⟨v2,ax,ζ⟩:=κ ζ;refine Ok.bh ⟨ar [(1,.c (.func 218) [] [.p [vi d]]),(5,.o 20),(8,.s (mA a)),(9,vi (a.length:Int)),(10,vi s1.1)],[(20,.own 105 3 (mA v2))]⟩ ?_ ?_
   ·refine bl (sg ?_);have ⟨x1,Ξ,ax⟩:=κ ax;refine ⟨_,bz Ξ,_,bC Ξ,_,rfl,_,rfl,?_⟩;refine sg ?_;have ⟨x2,au,ax⟩:=κ ax;refine ⟨_,rfl,?_⟩;refine af.call (aiW au) lz ?_;refine ct ax (fun hb ax=>?_) fun hb ax=>?_
    ·refine rg ?_;have ⟨aw,ax⟩:=aG ax;refine ⟨_,rfl,θ ⟨g_ (f:=qP) (n:=3) (fun _=>rfl) ([x1]),ix (f:=qP) (l:=s1.2) (l':=[x1]) aw,_,(fo (f:=qP) (l₁:=s1.2) (l₂:=[x1])).symm,?_⟩⟩;cases ax;exact wt Q5 J1 rfl
    refine sk ?_;cases ax;exact wt Q5 J1 rfl
   refine rg ?_;have ⟨br,ζ⟩:=aG ζ;refine (θ ⟨br,?_⟩);exact ⟨_,sj ζ,wt Q5 J1 rfl⟩
  refine xt ?_;have ζ:=bx ζ aP;cases ζ;exact wt Q1 J1 rfl
 refine sg (rt ?_);cases h;exact (.inr ⟨_,rfl,rfl⟩)
def aiX {c d r} (h:JV c d=some r):Pure prog 220 [.a (RL c),.p [.s (mA d)]] (vb r):=by
 refine pq tok 10 func220 ?_;unfold JV at h;refine sg (sg ?_);have ⟨x1,Ξ,h⟩:=κ h;refine ⟨_,rfl,_,rfl,_,rfl,?_⟩;refine af.call (Qs Ξ) lz ?_;refine rt ?_;cases h;exact Fz.v
def ajW {d e r} (h:JY d e=some r):af prog 219 [.s (mC d),.c (.func 220) [] [.b 1000 0]] ⟨aF,[(1000,.box [.s (mA e)])]⟩ fun x s=>x=(.o 20)∧s.H=[(20,.own 98 8 (mC r)),(1000,.box [.s (mA e)])]:=by
 refine pg tok 23 func219 ?_;unfold JY at h;refine sg (sg ?_);have ⟨v1,ν,h⟩:=κ h;refine Ok.bh ⟨ar [(5,.o 20)],[(20,.own 98 8 (mC v1)),(1000,.box [.s (mA e)])]⟩ ?_ ?_
 ·refine sg ⟨_,ay _,fun _=>?_⟩;refine bl (Ok.loop (fun (s1:Int×(List bp))=>⟨ar [(1,.c (.func 220) [] [.b 1000 0]),(5,.o 20),(8,.s (mC d)),(9,vi (d.length:Int)),(10,vi s1.1)],[(1000,.box [.s (mA e)]),(20,.own 98 8 (mC s1.2))]⟩) (FL d e) (s0:=(0,[])) ν ((Wk.BP (t:=5) (id:=20) (E:=98) (K:=8) rfl rfl).trans (wt Q5 ⟨⟨_,rfl,.refl _⟩,⟨_,rfl,.refl _⟩,Q0⟩ rfl)) ?_);intro s1 y1 ζ aP;unfold FL at ζ;refine sg (sq (ct ζ (fun hb ζ=>?_) fun hb ζ=>?_))
  ·refine sk ?_;have ⟨v2,ax,ζ⟩:=κ ζ;refine Ok.bh ⟨ar [(1,.c (.func 220) [] [.b 1000 0]),(5,.o 20),(8,.s (mC d)),(9,vi (d.length:Int)),(10,vi s1.1)],[(1000,.box [.s (mA e)]),(20,.own 98 8 (mC v2))]⟩ ?_ ?_
   ·refine bl (sg ?_);have ⟨x1,Ξ,ax⟩:=κ ax;refine ⟨_,bz Ξ,_,bC Ξ,_,rfl,_,rfl,?_⟩;refine sg ?_;have ⟨x2,au,ax⟩:=κ ax;refine ⟨_,rfl,?_⟩;refine af.borrow (aiX au) (.cons (Fz.a (.cons Fz.v (.cons Fz.v (.cons Fz.v (.cons Fz.v (.cons Fz.v (.cons Fz.s (.cons Fz.s fq)))))))) (.cons (Fz.b rfl rfl) .nil)) rfl ?_;refine ct ax (fun hb ax=>?_) fun hb ax=>?_
    ·refine rg ?_;have ⟨aw,ax⟩:=aG ax;refine ⟨_,rfl,θ ⟨g_ (f:=sa) (n:=8) (fun _=>rfl) ([x1]),ix (f:=sa) (l:=s1.2) (l':=[x1]) aw,_,(fo (f:=sa) (l₁:=s1.2) (l₂:=[x1])).symm,?_⟩⟩;cases ax;exact wt Q5 J2 rfl
    refine sk ?_;cases ax;exact wt Q5 J2 rfl
   refine rg ?_;have ⟨br,ζ⟩:=aG ζ;refine (θ ⟨br,?_⟩);exact ⟨_,sj ζ,wt Q5 J2 rfl⟩
  refine xt ?_;have ζ:=bx ζ aP;cases ζ;exact wt Q1 J2 rfl
 refine sg (rt ?_);cases h;exact wt Q1 J2 rfl
def aiV {d e r} (h:Ca d e=some r):Pure prog 136 [.a (b1 d),vi e] (.t [.a (b1 r.1),vi r.2]):=by
 refine pq tok 26 func136 ?_;unfold Ca at h;refine sg (sg ?_);have ⟨x1,Ξ,h⟩:=κ h;refine ⟨_,rfl,?_⟩;refine af.aev (D:=10) (aj9 Ξ) (.cons Fz.s (.cons (Fz.c .nil (.cons (Fz.b rfl rfl) .nil)) .nil)) (agl (f:=qP) (fun _=>rfl) _) rfl ?_;refine ⟨_,rfl,?_⟩;refine sq (sg ?_);refine ⟨_,rfl,_,ay _,fun _=>⟨_,rfl,_,ay _,fun _=>?_⟩⟩;refine ct h (fun hb h=>?_) fun hb h=>?_
 ·refine sg ⟨_,rfl,_,rfl,?_⟩;refine rt ?_;cases h;exact ⟨_,rfl,Fz.t fq⟩
 refine sk (sg ?_);refine ⟨_,rfl,_,rfl,?_⟩;refine sq (Ok.wk (Wk.freeze (id:=10) rfl) ?_);refine rg ?_;have ⟨x3,aL,h⟩:=κ h;refine ⟨_,rfl,?_⟩;refine cg [(1000,6)] [(20,999)] (ajW aL) (n1 (.cons (Ln.c .nil (.cons (Ln.b rfl) .nil)) .nil)) ⟨⟨6,_,rfl,rfl,.box nq⟩,Q0⟩ ?_;refine ⟨_,rfl,?_⟩;refine wT [(2,.b 2 0),(4,.b 4 0)] [(2,.box [.s (mI d.Γ.η),vi d.Γ.Next,vi d.Γ.aj,vi d.aT,.s (mB d.aQ),.o 999,.s (mA x1),vi d.Next]),(999,.own 98 8 (mC x3)),(4,.box (k3 0 0 0 0))] Q2 J3 rfl ?_;refine sg ⟨_,rfl,_,rfl,?_⟩;refine rt ?_;cases h;exact ⟨_,rfl,Fz.t (.cons (Fz.a (.cons Fz.s (.cons Fz.v (.cons Fz.v (.cons Fz.v (.cons Fz.s (.cons (Fz.o rfl) (.cons Fz.s fq)))))))) fq)⟩
def ajy {C D E F G I J K a d e f g i j k l o u w z A B} {q:Int⊕((List ξ)×Int×Int×Int×(List Int)×(List bp)×(List bd)×Int)} (h:DK C D E F G I J K a d e f g i j k l o u w z A B=some q):fL prog bg 77 [.b 1000 0] ⟨aF,[(1000,.box (cP C D E F G I J K a d e f g i j k l o u w z A B))]⟩ (fun x s=>∃y:(List ξ)×Int×Int×Int×(List Int)×(List bp)×(List bd)×Int,q=.inr y∧x=(.t [])∧s.H=[(1000,.box (cP y.1 y.2.1 y.2.2.1 y.2.2.2.1 y.2.2.2.2.1 y.2.2.2.2.2.1 y.2.2.2.2.2.2.1 y.2.2.2.2.2.2.2 a d e f g i j k l o u w z A B))]) fun m s=>q=.inl m∧s.H=[]:=by
 refine px tok 25 func77 ?_;unfold DK at h;refine sq (Ok.p4 (m:=15) (late:=[13]) (MD:=⟨[]⟩) (CH:=⟨[]⟩) tok mixed (by kernel_rfl) ?_);have ⟨x1,Ξ,h⟩:=κ h;refine ⟨_,rfl,_,rfl,_,rfl,_,rfl,_,⟨_,rfl,rfl⟩,_,rfl,_,rfl,_,rfl,_,rfl,_,⟨_,rfl,rfl⟩,_,⟨_,.fk (aiV Ξ) lz,rfl⟩,_,rfl,_,rfl,_,rfl,Q0,?_⟩;refine ⟨_,rfl,⟨⟨_,rfl,rfl⟩,Q0⟩,?_⟩;refine sq (Ok.cW bg tok ?_);have ⟨x2,au,h⟩:=κ h;refine θ (bX (cx [] [] (ku au) nq Q0 (fun e1 bE=>?_) (fun y1 cZ=>?_)))
 ·have h:=cw h bE;cases h;exact ⟨_,rfl,rfl⟩
 have h:=cy h cZ;refine rg ⟨_,rfl,_,rfl,?_⟩;cases h;exact ⟨_,rfl,wt Q1 J1 rfl⟩
def aiq {d c e r} (h:Bk d c e=some r):Pure prog 137 [.a (b0 d),.s (mE c),vi e] (.t [.a (b0 r.1),.s (mE r.2)]):=by
 refine pq tok 33 func137 ?_;unfold Bk at h;refine sg ?_;have ⟨v1,ν,h⟩:=κ h;refine Ok.bh ⟨ar [(1,.s (mE v1.1)),(3,.b 3 0),(6,.b 6 0)],[(3,.box (k0 v1.2.1 v1.2.2.1 v1.2.2.2)),(6,.box (k1 0 0))]⟩ ?_ ?_
 ·refine sg ⟨_,ay _,fun _=>?_⟩;refine bl (Ok.loop (fun (s1:(List az)×Int×fT)=>⟨ar [(1,.s (mE s1.1)),(2,vi e),(3,.b 3 0),(6,.b 6 0),(10,.s (mE c)),(11,vi (c.length:Int)),(12,vi s1.2.1)],[(3,.box (k0 s1.2.2.1 s1.2.2.2.1 s1.2.2.2.2)),(6,.box (k1 0 0))]⟩) (Eu c e) (s0:=(c,0,d.η,d.Next,d.aj)) ν (wt Q7 ⟨⟨_,rfl,.refl _⟩,⟨_,rfl,.refl _⟩,Q0⟩ rfl) ?_);intro s1 y1 ζ aP;unfold Eu at ζ;refine sg (sq (ct ζ (fun hb ζ=>?_) fun hb ζ=>?_))
  ·refine sk ?_;have ⟨v2,ax,ζ⟩:=κ ζ;refine Ok.bh ⟨ar [(1,.s (mE v2.1)),(2,vi e),(3,.b 3 0),(6,.b 6 0),(10,.s (mE c)),(11,vi (c.length:Int)),(12,vi s1.2.1)],[(3,.box (k0 v2.2.1 v2.2.2.1 v2.2.2.2)),(6,.box (k1 0 0))]⟩ ?_ ?_
   ·refine bl (sg ?_);have ⟨x1,Ξ,ax⟩:=κ ax;refine ⟨_,bz Ξ,_,bC Ξ,_,rfl,_,rfl,?_⟩;refine sg ⟨_,rfl,?_⟩;refine ct ax (fun hb ax=>?_) fun hb ax=>?_
    ·refine rg ?_;have ⟨x2,au,ax⟩:=κ ax;refine ⟨_,rfl,_,rfl,?_⟩;refine af.call (Qm au) lz ?_;refine ⟨_,rfl,?_⟩;cases ax;exact wt Q7 J2 rfl
    refine sk ?_;cases ax;exact wt Q7 J2 rfl
   refine rg ?_;have ⟨aw,ζ⟩:=aG ζ;refine (θ ⟨aw,?_⟩);exact ⟨_,sj ζ,wt Q7 J2 rfl⟩
  refine xt ?_;have ζ:=bx ζ aP;cases ζ;exact wt Q3 J2 rfl
 refine sg ⟨_,rfl,_,rfl,?_⟩;refine rt ?_;cases h;exact ⟨_,rfl,Fz.t (.cons (Fz.dG rfl) (.cons Fz.s .nil))⟩
def ajw {A B C D E F G I J a d e f g i j k l o u w z y r} (h:DI A B C D E F G I J a d e f g i j k l o u w z y=some r):af prog 78 [.b 1000 0] ⟨aF,[(1000,.box (cP A B C D E F G I J a d e f g i j k l o u w z y))]⟩ fun x s=>x=(.t [])∧s.H=[(1000,.box (cP r.1 r.2.1 r.2.2.1 r.2.2.2.1 r.2.2.2.2.1 r.2.2.2.2.2.1 r.2.2.2.2.2.2.1 r.2.2.2.2.2.2.2.1 r.2.2.2.2.2.2.2.2 a d e f g i j k l o u w z y))]:=by
 refine pg tok 40 func78 ?_;unfold DI at h;refine sq (Ok.p4 (m:=21) (late:=[19]) (MD:=⟨[]⟩) (CH:=⟨[]⟩) tok mixed (by kernel_rfl) ?_);have ⟨x1,Ξ,h⟩:=κ h;refine ⟨_,rfl,_,rfl,_,rfl,_,rfl,_,rfl,_,⟨_,rfl,rfl⟩,_,rfl,_,rfl,_,rfl,_,rfl,_,⟨_,rfl,rfl⟩,_,rfl,_,rfl,_,rfl,_,rfl,_,⟨_,rfl,rfl⟩,_,⟨_,.fk (aiq Ξ) lz,rfl⟩,_,rfl,_,rfl,_,rfl,Q0,?_⟩;refine ⟨_,rfl,⟨⟨_,rfl,rfl⟩,Q0⟩,?_⟩;refine Ok.p4 (m:=13) (late:=[1,9]) (MD:=⟨[]⟩) (CH:=⟨[]⟩) tok mixed (by kernel_rfl) ?_;have ⟨x2,au,h⟩:=κ h;refine ⟨_,rfl,_,rfl,_,rfl,_,rfl,_,rfl,_,rfl,_,⟨_,rfl,rfl⟩,_,⟨_,rfl,rfl⟩,_,⟨_,.fk (Qr au) lz,rfl⟩,_,rfl,_,rfl,_,rfl,_,rfl,Q0,?_⟩;refine ⟨_,rfl,⟨⟨_,rfl,rfl⟩,⟨_,rfl,rfl⟩,Q0⟩,_,rfl,?_⟩;cases h;exact wt Q1 J1 rfl
end Go.Proofs
