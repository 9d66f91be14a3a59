/- The walks of this seat beside the plain programs, part 6. No condition. -/
import Derived.Test.YtdcgbodbejgliaaGreatDoorXTopPacksWk5
open List renaming length_map → ax, map → aT, map_append → eI
open Nat renaming lt_of_le_of_lt → gB, le_of_eq → kE
open Or renaming inl → ψ, inr → bV
namespace Go.Proofs
set_option linter.all false
open Go Go.Cat Tryz
variable [M:cM]
set_option maxRecDepth 100000
set_option maxHeartbeats 4000000
def ajv {d e r} (h:FO d e=some r):Pure prog 215 [.a (b1 d),.a (b9 e)] (.t [.s (mI r.1),vb r.2]):=by
 refine pq tok 74 func215 ?_;unfold FO at h;refine sg (sg ⟨_,rfl,?_⟩);have ⟨v1,ν,h⟩:=ι h;refine Ok.bg ⟨aq [(2,.b 2 0),(3,.b 3 0),(6,.b 6 0)],[(2,.box (b1 d)),(3,.box (b9 e)),(6,.box [.m 15]),(15,.mp true (aT (fun p=>(p.1,dv p.2)) v1))]⟩ ?_ ?_
 ·refine sg ⟨_,rfl,_,ax _,fun _=>?_⟩;refine bl (Ok.loop (fun (s1:Int×(List (Int×ξ)))=>⟨aq [(2,.b 2 0),(3,.b 3 0),(6,.b 6 0),(17,.s (mC d.aO)),(18,vi (d.aO.length:Int)),(19,vi s1.1)],[(2,.box (b1 d)),(3,.box (b9 e)),(6,.box [.m 15]),(15,.mp true (aT (fun p=>(p.1,dv p.2)) s1.2))]⟩) (FR d e) (s0:=(0,([]:List (Int×ξ)))) ν (wt Q6 ⟨⟨_,rfl,.refl _⟩,⟨_,rfl,.refl _⟩,⟨_,rfl,.refl _⟩,⟨_,rfl,.refl _⟩,Q0⟩ rfl) ?_);intro s1 y1 ζ aL;unfold FR at ζ;refine sg (sq (ct ζ (fun hb ζ=>?_) fun hb ζ=>?_))
  ·refine sk ?_;have ⟨v2,aw,ζ⟩:=ι ζ;refine Ok.bg ⟨aq [(2,.b 2 0),(3,.b 3 0),(6,.b 6 0),(17,.s (mC d.aO)),(18,vi (d.aO.length:Int)),(19,vi s1.1)],[(2,.box (b1 d)),(3,.box (b9 e)),(6,.box [.m 15]),(15,.mp true (aT (fun p=>(p.1,dv p.2)) v2))]⟩ ?_ ?_
   ·refine bl (sg ?_);have ⟨x1,Θ,aw⟩:=ι aw;refine ⟨_,bq Θ,_,br Θ,_,rfl,_,rfl,?_⟩;have ⟨v3,dy,aw⟩:=ι aw;refine Ok.bg ⟨aq [(2,.b 2 0),(3,.b 3 0),(6,.b 6 0),(8,.b 8 0),(17,.s (mC d.aO)),(18,vi (d.aO.length:Int)),(19,vi s1.1),(34,vb v3)],[(2,.box (b1 d)),(3,.box (b9 e)),(6,.box [.m 15]),(15,.mp true (aT (fun p=>(p.1,dv p.2)) s1.2)),(8,.box (Hv x1))]⟩ ?_ ?_
    ·refine rg ⟨_,rfl,_,rfl,?_⟩;have ⟨c1,Δ,dy⟩:=ι dy;refine Br.ite Δ (fun hb Δ=>?_) fun hb Δ=>?_
     ·refine ⟨_,rfl,_,rfl,?_⟩;cases Δ;cases dy;exact wt Q8 ⟨hr,J4⟩ rfl
     cases Δ;cases dy;exact wt Q8 ⟨hr,J4⟩ rfl
    refine ct aw (fun hb aw=>?_) fun hb aw=>?_
    ·refine rg ?_;have ⟨ar,aw⟩:=aC aw;refine ⟨_,rfl,_,rfl,_,rfl,ar.1,gB (kE (ax _)) ar.2,_,iJ dv x1.eL.κ x1.eL s1.2,?_⟩;cases aw;exact wt Q6 J4 rfl
    refine sk ?_;cases aw;exact wt Q6 J4 rfl
   refine rg ?_;have ⟨bu,ζ⟩:=aC ζ;refine (ψ ⟨bu,?_⟩);exact ⟨_,sj ζ,wt Q6 J4 rfl⟩
  refine xt ?_;have ζ:=bd ζ aL;cases ζ;exact wt Q3 J4 rfl
 have ⟨v4,jj,h⟩:=ι h;refine Ok.bg ⟨aq [(3,.b 3 0),(6,.b 6 0)],[(3,.box (b9 e)),(6,.box [.m 15]),(15,.mp true (aT (fun p=>(p.1,dv p.2)) v4))]⟩ ?_ ?_
 ·refine sg ⟨_,rfl,_,ax _,fun _=>?_⟩;refine bl (Ok.loop (fun (s2:Int×(List (Int×ξ)))=>⟨aq [(2,.b 2 0),(3,.b 3 0),(6,.b 6 0),(44,.s (mI d.Γ.η)),(45,vi (d.Γ.η.length:Int)),(46,vi s2.1)],[(2,.box (b1 d)),(3,.box (b9 e)),(6,.box [.m 15]),(15,.mp true (aT (fun p=>(p.1,dv p.2)) s2.2))]⟩) (FT d e) (s0:=(0,v1)) jj (wt Q6 ⟨⟨_,rfl,.refl _⟩,⟨_,rfl,.refl _⟩,⟨_,rfl,.refl _⟩,⟨_,rfl,.refl _⟩,Q0⟩ rfl) ?_);intro s2 y2 aD hZ;unfold FT at aD;refine sg (sq (ct aD (fun hb aD=>?_) fun hb aD=>?_))
  ·refine sk ?_;have ⟨v5,eA,aD⟩:=ι aD;refine Ok.bg ⟨aq [(2,.b 2 0),(3,.b 3 0),(6,.b 6 0),(44,.s (mI d.Γ.η)),(45,vi (d.Γ.η.length:Int)),(46,vi s2.1)],[(2,.box (b1 d)),(3,.box (b9 e)),(6,.box [.m 15]),(15,.mp true (aT (fun p=>(p.1,dv p.2)) v5))]⟩ ?_ ?_
   ·refine bl (sg ?_);have ⟨x2,ak,eA⟩:=ι eA;refine ⟨_,bq ak,_,br ak,_,rfl,_,rfl,?_⟩;refine sq (dw 8 tok mixed ?_);have ⟨x3,aK,eA⟩:=ι eA;refine ⟨_,rfl,_,⟨_,rfl,rfl⟩,_,rfl,_,⟨_,bq aK,_,br aK,rfl⟩,_,⟨_,rfl,rfl⟩,_,rfl,_,⟨_,rfl,rfl⟩,_,rfl,Q0,?_⟩;refine ct eA (fun hb eA=>?_) fun hb eA=>?_
    ·refine rg ?_;have ⟨dU,eA⟩:=aC eA;refine ⟨_,rfl,_,rfl,_,rfl,dU.1,gB (kE (ax _)) dU.2,_,iJ dv x2.κ x2 s2.2,?_⟩;cases eA;exact wt Q6 J4 rfl
    refine sk ?_;cases eA;exact wt Q6 J4 rfl
   refine rg ?_;have ⟨kT,aD⟩:=aC aD;refine (ψ ⟨kT,?_⟩);exact ⟨_,sj aD,wt Q6 J4 rfl⟩
  refine xt ?_;have aD:=bd aD hZ;cases aD;exact wt Q2 J3 rfl
 refine sg ⟨_,rfl,?_⟩;refine sg (sg (sg ⟨_,rfl,?_⟩));refine sg ?_;have ⟨x4,bn,h⟩:=ι h;refine ⟨_,rfl,_,rfl,?_⟩;refine cg [(1000,11),(1001,64),(1002,6),(1003,15),(1004,12),(1005,13)] [(35,999)] (aku bn) (n1 (.cons (Ln.b rfl) (.cons (Ln.b rfl) (.cons (Ln.b rfl) (.cons (Ln.b rfl) .nil))))) ⟨⟨11,_,rfl,rfl,.box (.cons (Ln.mm rfl) .nil)⟩,⟨64,_,rfl,rfl,.refl rfl⟩,⟨6,_,rfl,rfl,.box (.cons (Ln.mm rfl) .nil)⟩,⟨15,_,rfl,rfl,.refl rfl⟩,⟨12,_,rfl,rfl,.box nq⟩,⟨13,_,rfl,rfl,.box (.cons (Ln.c .nil (.cons (Ln.b rfl) (.cons (Ln.b rfl) (.cons (Ln.b rfl) (.cons (Ln.b rfl) .nil))))) .nil)⟩,Q0⟩ ?_;refine sg ?_;have ⟨x5,dr,h⟩:=ι h;refine ⟨_,rfl,?_⟩;refine ae.dE (id:=999) (Xh (E:=44) (enc:=dv) ahw abL (fun _=>rfl) (fun _ _ _ h=>ajw (M:=cM.yes) h) (enters_of func263 (by kernel_rfl) rfl) dr) rfl (.refl _) rfl (.cons Lr.o (.cons (Lr.dL rfl) .nil)) ?_;rintro _ _ ⟨rfl,rfl⟩;refine sg ⟨_,rfl,?_⟩
 refine rt ?_;cases h;exact (Fz.t (.cons (Fz.o rfl) fq))
def ajq {c d r} (h:xi c d=some r):Pure prog 132 [.a (b1 c),vi d] (.t (k20 r.1 r.2.1 r.2.2)):=by
 refine pq tok 32 func132 ?_;unfold xi at h;refine sg (Ok.eC (fun v1=>⟨aq [],[]⟩) (fun v1=>PS v1=some r) ?_ ?_)
 ·refine sg ⟨_,rfl,_,ax _,fun _=>?_⟩;refine bl (Ok.loop (fun (s1:Int)=>⟨aq [(1,vi d),(2,.b 2 0),(12,.s (mA c.aR)),(13,vi (c.aR.length:Int)),(14,vi s1)],[(2,.box (b1 c))]⟩) (Ki c d) (s0:=0) h (wt Q5 ⟨hr,Q0⟩ rfl) ?_);intro s1 y1 ζ aL;unfold Ki at ζ;refine sg (sq (ct ζ (fun hb ζ=>?_) fun hb ζ=>?_))
  ·refine sk (sq (bl (sg ?_)));have ⟨x1,Θ,ζ⟩:=ι ζ;refine ⟨_,bq Θ,_,br Θ,_,rfl,_,rfl,?_⟩;refine sg ⟨_,rfl,?_⟩;refine ct ζ (fun hb ζ=>?_) fun hb ζ=>?_
   ·refine sg ?_;have ⟨x2,ak,ζ⟩:=ι ζ;refine ⟨_,rfl,_,rfl,?_⟩;refine ae.call (ajv ak) lz ?_;refine sg ⟨_,rfl,?_⟩;refine rt ?_;have ζ:=bd ζ aL;cases ζ;exact (Fz.t (.cons Fz.v (.cons Fz.s fq)))
   refine sk (rg ?_);have ⟨ar,ζ⟩:=aC ζ;refine (ψ ⟨ar,?_⟩);exact ⟨_,sj ζ,wt Q5 J1 rfl⟩
  refine xt ?_;have ζ:=bd ζ aL;exact ⟨_,ζ,wt Q0 Q0 rfl⟩
 intro v1 h;unfold PS at h;refine sg (rt ?_);cases h;exact (Fz.t (.cons Fz.v (.cons Fz.nil fq)))
def aiX {c d r} (h:Ic c d=some r):Pure prog 135 [.a (b6 c),.p [vs d]] (vb r):=by
 refine pq tok 8 func135 ?_;unfold Ic at h;refine sg (sg ⟨_,rfl,_,rfl,_,tT _ _,?_⟩);refine rt ?_;cases h;exact Fz.v
def ajM {a b r} (h:KE a b=some r):Pure prog 134 [.s (mF a),.c (.func 135) [] [.p [vs b]]] (vi r):=by
 refine pq tok 19 func134 ?_;unfold KE at h;refine sg (Ok.eC (fun v1=>⟨aq [],[]⟩) (fun v1=>Qc v1=some r) ?_ ?_)
 ·refine sg ⟨_,ax _,fun _=>?_⟩;refine bl (Ok.loop (fun (s1:Int)=>⟨aq [(0,.s (mF a)),(1,.c (.func 135) [] [.p [vs b]]),(7,vi (a.length:Int)),(8,vi s1)],[]⟩) (Qb a b) (s0:=0) h (wt Q4 Q0 rfl) ?_);intro s1 y1 ζ aL;unfold Qb at ζ;refine sg (sq (ct ζ (fun hb ζ=>?_) fun hb ζ=>?_))
  ·refine sk (sq (bl (sg ?_)));refine sg ?_;have ⟨x1,Θ,ζ⟩:=ι ζ;have ⟨x2,ak,ζ⟩:=ι ζ;refine ⟨_,bq Θ,_,br Θ,_,rfl,?_⟩;refine ae.call (aiX ak) lz ?_;refine ct ζ (fun hb ζ=>?_) fun hb ζ=>?_
   ·refine sg (rt ?_);have ζ:=bd ζ aL;cases ζ;exact Fz.v
   refine sk (rg ?_);have ⟨ar,ζ⟩:=aC ζ;refine (ψ ⟨ar,?_⟩);exact ⟨_,sj ζ,wt Q4 Q0 rfl⟩
  refine xt ?_;have ζ:=bd ζ aL;exact ⟨_,ζ,wt Q0 Q0 rfl⟩
 intro v1 h;unfold Qc at h;refine sg (rt ?_);cases h;exact Fz.v
def akh {a d e f g i j k l o u w A B C D E F G I J K L} {q:Int⊕(Ak)} (h:yz a d e f g i j k l o u w A B C D E F G I J K L=some q):fM prog bf 76 [.b 1000 0] ⟨aG,[(1000,.box (cV a d e f g i j k l o u w A B C D E F G I J K L))]⟩ (fun x s=>∃y:Ak,q=.inr y∧x=(.t [])∧s.H=[(1000,.box (VR a d e f g i j k l o u w A B C D E F 0 y.1 y.2.1 y.2.2.1 y.2.2.2.1 y.2.2.2.2.1 y.2.2.2.2.2))]) fun m s=>q=.inl m∧s.H=[]:=by
 refine px tok 99 func76 ?_;unfold yz at h;refine sq (dw 18 tok mixed ?_);have ⟨x1,Θ,h⟩:=ι h;refine ⟨_,rfl,_,rfl,_,rfl,_,rfl,_,⟨_,rfl,rfl⟩,_,rfl,_,rfl,_,rfl,_,rfl,_,⟨_,rfl,rfl⟩,_,⟨_,.fC (ajq Θ) lz,rfl⟩,_,rfl,_,rfl,_,rfl,_,rfl,_,rfl,_,rfl,_,rfl,Q0,?_⟩;refine sq (Ok.cY bf tok ?_);have ⟨x2,ak,h⟩:=ι h;refine ψ (bV (cx [] [] (kz ak) nq Q0 (fun e1 bE=>?_) (fun y1 c_=>?_)))
 ·have h:=cu h bE;cases h;exact ⟨_,rfl,rfl⟩
 have h:=cw h c_;refine sg ?_;have ⟨x3,aK,h⟩:=ι h;refine ⟨_,rfl,?_⟩;refine ae.call (Q9 aK) lz ?_;refine sq (Ok.cY bf tok ?_);have ⟨x4,bn,h⟩:=ι h;refine ψ (bV (cx [] [] (kz bn) nq Q0 (fun e2 dV=>?_) (fun y2 ew=>?_)))
 ·have h:=cu h dV;cases h;exact ⟨_,rfl,rfl⟩
 have h:=cw h ew;refine sg ?_;have ⟨v1,ν,h⟩:=ι h;refine Ok.bg ⟨aq [(0,.b 1000 0),(2,vi x1.1),(5,.s (mG x3.1)),(6,.m 41)],[(1000,.box (cV a d e f g i j k l o u w A B C D E F G I J K L)),(41,.mp true (aT (fun p=>(p.1,dv p.2)) v1))]⟩ ?_ ?_
 ·refine sg ⟨_,ax _,fun _=>?_⟩;refine bl (Ok.loop (fun (s1:Int×(List (Int×ξ)))=>⟨aq [(0,.b 1000 0),(2,vi x1.1),(5,.s (mG x3.1)),(6,.m 41),(42,.s (mI x1.2.1)),(43,vi (x1.2.1.length:Int)),(44,vi s1.1)],[(1000,.box (cV a d e f g i j k l o u w A B C D E F G I J K L)),(41,.mp true (aT (fun p=>(p.1,dv p.2)) s1.2))]⟩) (Ie x1) (s0:=(0,([]:List (Int×ξ)))) ν (wt Q7 ⟨⟨_,rfl,.refl _⟩,⟨_,rfl,.refl _⟩,Q0⟩ rfl) ?_);intro s1 y3 ζ aL;unfold Ie at ζ;refine sg (sq (ct ζ (fun hb ζ=>?_) fun hb ζ=>?_))
  ·refine sk (sq (bl (sg ?_)));have ⟨x5,dr,ζ⟩:=ι ζ;refine ⟨_,bq dr,_,br dr,_,rfl,_,rfl,?_⟩;refine rg ?_;have ⟨ar,ζ⟩:=aC ζ;refine ⟨_,rfl,_,rfl,ar.1,gB (kE (ax _)) ar.2,_,iJ dv x5.κ x5 s1.2,?_⟩;refine rg ?_;have ⟨bu,ζ⟩:=aC ζ;refine (ψ ⟨bu,?_⟩);exact ⟨_,sj ζ,wt Q7 J2 rfl⟩
  refine xt ?_;have ζ:=bd ζ aL;cases ζ;exact wt Q4 J2 rfl
 refine sg ?_;have ⟨x6,gw,h⟩:=ι h;refine ⟨_,pN dv (z:=((⟨0,0,0,[],[],0⟩:ξ):ξ)) gw,_,rfl,?_⟩;refine Ok.eC (fun v2=>⟨aq [(0,.b 1000 0),(9,.b 9 0)],[(1000,.box (cV a d e f g i j k l o u w A B C D E F G I J K L)),(9,.box (k8 v2.1 v2.2.1 v2.2.2.1 v2.2.2.2.1 v2.2.2.2.2.1 v2.2.2.2.2.2))]⟩) (fun v2=>Ih v2=some q) ?_ ?_
 ·refine sg ⟨_,ax _,fun _=>?_⟩;refine bl (Ok.loop (fun (s2:Int×oU)=>⟨aq [(0,.b 1000 0),(6,.m 41),(9,.b 9 0),(56,.s (mG x3.1)),(57,vi (x3.1.length:Int)),(58,vi s2.1)],[(1000,.box (cV a d e f g i j k l o u w A B C D E F G I J K L)),(41,.mp true (aT (fun p=>(p.1,dv p.2)) v1)),(9,.box (k8 s2.2.1 s2.2.2.1 s2.2.2.2.1 s2.2.2.2.2.1 s2.2.2.2.2.2.1 s2.2.2.2.2.2.2))]⟩) (Ig x3 v1) (s0:=(0,x6.κ,x6.τ,x6.a_,x6.az,x6.Ω,x6.Up)) h (wt Q6 ⟨⟨_,rfl,.refl _⟩,⟨_,rfl,.refl _⟩,⟨_,rfl,.refl _⟩,Q0⟩ rfl) ?_);intro s2 y4 aD hZ;unfold Ig at aD;refine sg (sq (ct aD (fun hb aD=>?_) fun hb aD=>?_))
  ·refine sk (sq (bl (sg ?_)));have ⟨x7,gg,aD⟩:=ι aD;refine ⟨_,bq gg,_,br gg,_,rfl,_,rfl,?_⟩;refine sq (Ok.cY bf tok ?_);have ⟨x8,jl,aD⟩:=ι aD;refine ψ (ψ (⟨_,rfl,ψ ?_⟩));refine bV (cx [] [] (pV jl) nq Q0 (fun e3 jQ=>?_) (fun y5 jD=>?_))
   ·have aD:=cu aD jQ;have aD:=bd aD hZ;cases aD;exact ⟨_,rfl,rfl⟩
   have aD:=cw aD jD;refine sg ?_;have ⟨x9,jV,aD⟩:=ι aD;refine ⟨_,rfl,?_⟩;refine ae.borrow (ajM jV) (.cons Fz.s (.cons (Fz.c .nil (.cons (Fz.b rfl rfl) .nil)) .nil)) rfl ?_;refine sq (Ok.cY bf tok ?_);have ⟨fV,qq,aD⟩:=ι aD;refine ψ (ψ ?_);refine bV (cx [] [] (pV qq) nq Q0 (fun e4 kb=>?_) (fun y6 uU=>?_))
   ·have aD:=cu aD kb;have aD:=bd aD hZ;cases aD;exact ⟨_,rfl,rfl⟩
   have aD:=cw aD uU;refine rg ?_;have ⟨iX,oN,aD⟩:=ι aD;have ⟨fE,oO,aD⟩:=ι aD;refine ⟨_,rfl,_,bq oN,_,br oN,_,rfl,_,pN dv (z:=((⟨0,0,0,[],[],0⟩:ξ):ξ)) oO,_,rfl,?_⟩;refine rg ?_;have ⟨dU,aD⟩:=aC aD;refine (ψ ⟨dU,?_⟩);exact ⟨_,sj aD,wt Q6 J3 rfl⟩
  refine xt ?_;have aD:=bd aD hZ;exact ⟨_,aD,wt Q2 ⟨⟨_,rfl,.refl _⟩,⟨_,rfl,.refl _⟩,Q0⟩ rfl⟩
 intro v2 h;unfold Ih at h;refine dw 17 tok mixed ?_;have ⟨nk,uV,h⟩:=ι h;have ⟨nn,s7,h⟩:=ι h;refine ⟨_,rfl,_,rfl,_,⟨_,rfl,rfl⟩,_,rfl,_,⟨_,rfl,rfl⟩,_,rfl,_,⟨_,rfl,rfl⟩,_,⟨_,rfl,rfl⟩,_,⟨_,.fC (YW uV) lz,rfl⟩,_,rfl,_,⟨_,rfl,rfl⟩,_,⟨_,.fC (YV s7) lz,rfl⟩,_,rfl,_,⟨_,rfl,rfl⟩,_,rfl,_,rfl,_,rfl,Q0,_,rfl,?_⟩;cases h;exact ⟨_,rfl,wt Q1 J1 rfl⟩
def ajs {c d r} (h:Kj c d=some r):Pure prog 218 [.a (b9 c),.p [vi d]] (vb r):=by
 refine pq tok 8 func218 ?_;unfold Kj at h;refine sg (sg ⟨_,rfl,_,rfl,?_⟩);refine rt ?_;cases h;exact Fz.v
def akK {a d r} (h:Kp a d=some r):iN prog 217 [.s (mA a),.c (.func 218) [] [.p [vi d]]] 105 3 (mA r):=by
 refine pv tok 23 func217 ?_;unfold Kp at h;refine sg (sg ?_);have ⟨v1,ν,h⟩:=ι h;refine Ok.bg ⟨aq [(5,.o 20)],[(20,.own 105 3 (mA v1))]⟩ ?_ ?_
 ·refine sg ⟨_,ax _,fun _=>?_⟩;refine bl (Ok.loop (fun (s1:Int×(List bb))=>⟨aq [(1,.c (.func 218) [] [.p [vi d]]),(5,.o 20),(8,.s (mA a)),(9,vi (a.length:Int)),(10,vi s1.1)],[(20,.own 105 3 (mA s1.2))]⟩) (FV a d) (s0:=(0,[])) ν ((Wk.BU (t:=5) (id:=20) (E:=105) (K:=3) rfl rfl).trans (wt Q5 ⟨hr,Q0⟩ rfl)) ?_);intro s1 y1 ζ aL;unfold FV at ζ;refine sg (sq (ct ζ (fun hb ζ=>?_) fun hb ζ=>?_))
  ·refine sk ?_;have ⟨v2,aw,ζ⟩:=ι ζ;refine Ok.bg ⟨aq [(1,.c (.func 218) [] [.p [vi d]]),(5,.o 20),(8,.s (mA a)),(9,vi (a.length:Int)),(10,vi s1.1)],[(20,.own 105 3 (mA v2))]⟩ ?_ ?_
   ·refine bl (sg ?_);have ⟨x1,Θ,aw⟩:=ι aw;refine ⟨_,bq Θ,_,br Θ,_,rfl,_,rfl,?_⟩;refine sg ?_;have ⟨x2,ak,aw⟩:=ι aw;refine ⟨_,rfl,?_⟩;refine ae.call (ajs ak) lz ?_;refine ct aw (fun hb aw=>?_) fun hb aw=>?_
    ·refine rg ?_;have ⟨ar,aw⟩:=aC aw;refine ⟨_,rfl,ψ ⟨gy (f:=qV) (n:=3) (fun _=>rfl) ([x1]),gQ (f:=qV) (l:=s1.2) (l':=[x1]) ar,_,(eI (f:=qV) (l₁:=s1.2) (l₂:=[x1])).symm,?_⟩⟩;cases aw;exact wt Q5 J1 rfl
    refine sk ?_;cases aw;exact wt Q5 J1 rfl
   refine rg ?_;have ⟨bu,ζ⟩:=aC ζ;refine (ψ ⟨bu,?_⟩);exact ⟨_,sj ζ,wt Q5 J1 rfl⟩
  refine xt ?_;have ζ:=bd ζ aL;cases ζ;exact wt Q1 J1 rfl
 refine sg (rt ?_);cases h;exact (.inr ⟨_,rfl,rfl⟩)
def ajt {c d r} (h:Kl c d=some r):Pure prog 220 [.a (Hv c),.p [.s (mA d)]] (vb r):=by
 refine pq tok 10 func220 ?_;unfold Kl at h;refine sg (sg ?_);have ⟨x1,Θ,h⟩:=ι h;refine ⟨_,rfl,_,rfl,_,rfl,?_⟩;refine ae.call (Ra Θ) lz ?_;refine rt ?_;cases h;exact Fz.v
def akw {d e r} (h:Ko d e=some r):ae prog 219 [.s (mC d),.c (.func 220) [] [.b 1000 0]] ⟨aG,[(1000,.box [.s (mA e)])]⟩ fun x s=>x=(.o 20)∧s.H=[(20,.own 98 8 (mC r)),(1000,.box [.s (mA e)])]:=by
 refine pg tok 23 func219 ?_;unfold Ko at h;refine sg (sg ?_);have ⟨v1,ν,h⟩:=ι h;refine Ok.bg ⟨aq [(5,.o 20)],[(20,.own 98 8 (mC v1)),(1000,.box [.s (mA e)])]⟩ ?_ ?_
 ·refine sg ⟨_,ax _,fun _=>?_⟩;refine bl (Ok.loop (fun (s1:Int×(List bp))=>⟨aq [(1,.c (.func 220) [] [.b 1000 0]),(5,.o 20),(8,.s (mC d)),(9,vi (d.length:Int)),(10,vi s1.1)],[(1000,.box [.s (mA e)]),(20,.own 98 8 (mC s1.2))]⟩) (FU d e) (s0:=(0,[])) ν ((Wk.BU (t:=5) (id:=20) (E:=98) (K:=8) rfl rfl).trans (wt Q5 ⟨hr,hr,Q0⟩ rfl)) ?_);intro s1 y1 ζ aL;unfold FU at ζ;refine sg (sq (ct ζ (fun hb ζ=>?_) fun hb ζ=>?_))
  ·refine sk ?_;have ⟨v2,aw,ζ⟩:=ι ζ;refine Ok.bg ⟨aq [(1,.c (.func 220) [] [.b 1000 0]),(5,.o 20),(8,.s (mC d)),(9,vi (d.length:Int)),(10,vi s1.1)],[(1000,.box [.s (mA e)]),(20,.own 98 8 (mC v2))]⟩ ?_ ?_
   ·refine bl (sg ?_);have ⟨x1,Θ,aw⟩:=ι aw;refine ⟨_,bq Θ,_,br Θ,_,rfl,_,rfl,?_⟩;refine sg ?_;have ⟨x2,ak,aw⟩:=ι aw;refine ⟨_,rfl,?_⟩;refine ae.borrow (ajt ak) (.cons (Fz.a (.cons Fz.v (.cons Fz.v (.cons Fz.v (.cons Fz.v (.cons Fz.v (.cons Fz.s (.cons Fz.s fq)))))))) (.cons (Fz.b rfl rfl) .nil)) rfl ?_;refine ct aw (fun hb aw=>?_) fun hb aw=>?_
    ·refine rg ?_;have ⟨ar,aw⟩:=aC aw;refine ⟨_,rfl,ψ ⟨gy (f:=sx) (n:=8) (fun _=>rfl) ([x1]),gQ (f:=sx) (l:=s1.2) (l':=[x1]) ar,_,(eI (f:=sx) (l₁:=s1.2) (l₂:=[x1])).symm,?_⟩⟩;cases aw;exact wt Q5 J2 rfl
    refine sk ?_;cases aw;exact wt Q5 J2 rfl
   refine rg ?_;have ⟨bu,ζ⟩:=aC ζ;refine (ψ ⟨bu,?_⟩);exact ⟨_,sj ζ,wt Q5 J2 rfl⟩
  refine xt ?_;have ζ:=bd ζ aL;cases ζ;exact wt Q1 J2 rfl
 refine sg (rt ?_);cases h;exact wt Q1 J2 rfl
def ajr {d e r} (h:Cg d e=some r):Pure prog 136 [.a (b1 d),vi e] (.t [.a (b1 r.1),vi r.2]):=by
 refine pq tok 26 func136 ?_;unfold Cg at h;refine sg (sg ?_);have ⟨x1,Θ,h⟩:=ι h;refine ⟨_,rfl,?_⟩;refine ae.afb (D:=10) (akK Θ) (.cons Fz.s (.cons (Fz.c .nil (.cons (Fz.b rfl rfl) .nil)) .nil)) (ag0 (f:=qV) (fun _=>rfl) _) rfl ?_;refine ⟨_,rfl,?_⟩;refine sq (sg ?_);refine ⟨_,rfl,_,ax _,fun _=>⟨_,rfl,_,ax _,fun _=>?_⟩⟩;refine ct h (fun hb h=>?_) fun hb h=>?_
 ·refine sg ⟨_,rfl,_,rfl,?_⟩;refine rt ?_;cases h;exact ⟨_,rfl,Fz.t fq⟩
 refine sk (sg ?_);refine ⟨_,rfl,_,rfl,?_⟩;refine sq (Ok.wk (Wk.freeze (id:=10) rfl) ?_);refine rg ?_;have ⟨x3,aK,h⟩:=ι h;refine ⟨_,rfl,?_⟩;refine cg [(1000,6)] [(20,999)] (akw aK) (n1 (.cons (Ln.c .nil (.cons (Ln.b rfl) .nil)) .nil)) ⟨⟨6,_,rfl,rfl,.box nq⟩,Q0⟩ ?_;refine ⟨_,rfl,?_⟩;refine wT [(2,.b 2 0),(4,.b 4 0)] [(2,.box [.s (mI d.Γ.η),vi d.Γ.Next,vi d.Γ.aj,vi d.aY,.s (mB d.aU),.o 999,.s (mA x1),vi d.Next]),(999,.own 98 8 (mC x3)),(4,.box (k3 0 0 0 0))] Q2 J3 rfl ?_;refine sg ⟨_,rfl,_,rfl,?_⟩;refine rt ?_;cases h;exact ⟨_,rfl,Fz.t (.cons (Fz.a (.cons Fz.s (.cons Fz.v (.cons Fz.v (.cons Fz.v (.cons Fz.s (.cons (Fz.o rfl) (.cons Fz.s fq)))))))) fq)⟩
def aj_ {C D E F G I J K a d e f g i j k l o u w z A B} {q:Int⊕((List ξ)×Int×Int×Int×(List Int)×(List bp)×(List bb)×Int)} (h:DS C D E F G I J K a d e f g i j k l o u w z A B=some q):fM prog bf 77 [.b 1000 0] ⟨aG,[(1000,.box (cV C D E F G I J K a d e f g i j k l o u w z A B))]⟩ (fun x s=>∃y:(List ξ)×Int×Int×Int×(List Int)×(List bp)×(List bb)×Int,q=.inr y∧x=(.t [])∧s.H=[(1000,.box (cV y.1 y.2.1 y.2.2.1 y.2.2.2.1 y.2.2.2.2.1 y.2.2.2.2.2.1 y.2.2.2.2.2.2.1 y.2.2.2.2.2.2.2 a d e f g i j k l o u w z A B))]) fun m s=>q=.inl m∧s.H=[]:=by
 refine px tok 25 func77 ?_;unfold DS at h;refine sq (Ok.qb (m:=15) (late:=[13]) (MD:=⟨[]⟩) (CH:=⟨[]⟩) tok mixed (by kernel_rfl) ?_);have ⟨x1,Θ,h⟩:=ι h;refine ⟨_,rfl,_,rfl,_,rfl,_,rfl,_,⟨_,rfl,rfl⟩,_,rfl,_,rfl,_,rfl,_,rfl,_,⟨_,rfl,rfl⟩,_,⟨_,.fC (ajr Θ) lz,rfl⟩,_,rfl,_,rfl,_,rfl,Q0,?_⟩;refine ⟨_,rfl,⟨⟨_,rfl,rfl⟩,Q0⟩,?_⟩;refine sq (Ok.cY bf tok ?_);have ⟨x2,ak,h⟩:=ι h;refine ψ (bV (cx [] [] (kz ak) nq Q0 (fun e1 bE=>?_) (fun y1 c_=>?_)))
 ·have h:=cu h bE;cases h;exact ⟨_,rfl,rfl⟩
 have h:=cw h c_;refine rg ⟨_,rfl,_,rfl,?_⟩;cases h;exact ⟨_,rfl,wt Q1 J1 rfl⟩
def ai1 {d c e r} (h:Bt d c e=some r):Pure prog 137 [.a (b0 d),.s (mE c),vi e] (.t [.a (b0 r.1),.s (mE r.2)]):=by
 refine pq tok 33 func137 ?_;unfold Bt at h;refine sg ?_;have ⟨v1,ν,h⟩:=ι h;refine Ok.bg ⟨aq [(1,.s (mE v1.1)),(3,.b 3 0),(6,.b 6 0)],[(3,.box (k0 v1.2.1 v1.2.2.1 v1.2.2.2)),(6,.box (k1 0 0))]⟩ ?_ ?_
 ·refine sg ⟨_,ax _,fun _=>?_⟩;refine bl (Ok.loop (fun (s1:(List ay)×Int×fU)=>⟨aq [(1,.s (mE s1.1)),(2,vi e),(3,.b 3 0),(6,.b 6 0),(10,.s (mE c)),(11,vi (c.length:Int)),(12,vi s1.2.1)],[(3,.box (k0 s1.2.2.1 s1.2.2.2.1 s1.2.2.2.2)),(6,.box (k1 0 0))]⟩) (EA c e) (s0:=(c,0,d.η,d.Next,d.aj)) ν (wt Q7 ⟨hr,hr,Q0⟩ rfl) ?_);intro s1 y1 ζ aL;unfold EA at ζ;refine sg (sq (ct ζ (fun hb ζ=>?_) fun hb ζ=>?_))
  ·refine sk ?_;have ⟨v2,aw,ζ⟩:=ι ζ;refine Ok.bg ⟨aq [(1,.s (mE v2.1)),(2,vi e),(3,.b 3 0),(6,.b 6 0),(10,.s (mE c)),(11,vi (c.length:Int)),(12,vi s1.2.1)],[(3,.box (k0 v2.2.1 v2.2.2.1 v2.2.2.2)),(6,.box (k1 0 0))]⟩ ?_ ?_
   ·refine bl (sg ?_);have ⟨x1,Θ,aw⟩:=ι aw;refine ⟨_,bq Θ,_,br Θ,_,rfl,_,rfl,?_⟩;refine sg ⟨_,rfl,?_⟩;refine ct aw (fun hb aw=>?_) fun hb aw=>?_
    ·refine rg ?_;have ⟨x2,ak,aw⟩:=ι aw;refine ⟨_,rfl,_,rfl,?_⟩;refine ae.call (QY ak) lz ?_;refine ⟨_,rfl,?_⟩;cases aw;exact wt Q7 J2 rfl
    refine sk ?_;cases aw;exact wt Q7 J2 rfl
   refine rg ?_;have ⟨ar,ζ⟩:=aC ζ;refine (ψ ⟨ar,?_⟩);exact ⟨_,sj ζ,wt Q7 J2 rfl⟩
  refine xt ?_;have ζ:=bd ζ aL;cases ζ;exact wt Q3 J2 rfl
 refine sg ⟨_,rfl,_,rfl,?_⟩;refine rt ?_;cases h;exact ⟨_,rfl,Fz.t (.cons (Fz.dL rfl) (.cons Fz.s .nil))⟩
def aj8 {A B C D E F G I J a d e f g i j k l o u w z y r} (h:DQ A B C D E F G I J a d e f g i j k l o u w z y=some r):ae prog 78 [.b 1000 0] ⟨aG,[(1000,.box (cV A B C D E F G I J a d e f g i j k l o u w z y))]⟩ fun x s=>x=(.t [])∧s.H=[(1000,.box (cV r.1 r.2.1 r.2.2.1 r.2.2.2.1 r.2.2.2.2.1 r.2.2.2.2.2.1 r.2.2.2.2.2.2.1 r.2.2.2.2.2.2.2.1 (t8 r) a d e f g i j k l o u w z y))]:=by
 refine pg tok 40 func78 ?_;unfold DQ at h;refine sq (Ok.qb (m:=21) (late:=[19]) (MD:=⟨[]⟩) (CH:=⟨[]⟩) tok mixed (by kernel_rfl) ?_);have ⟨x1,Θ,h⟩:=ι h;refine ⟨_,rfl,_,rfl,_,rfl,_,rfl,_,rfl,_,⟨_,rfl,rfl⟩,_,rfl,_,rfl,_,rfl,_,rfl,_,⟨_,rfl,rfl⟩,_,rfl,_,rfl,_,rfl,_,rfl,_,⟨_,rfl,rfl⟩,_,⟨_,.fC (ai1 Θ) lz,rfl⟩,_,rfl,_,rfl,_,rfl,Q0,?_⟩;refine ⟨_,rfl,⟨⟨_,rfl,rfl⟩,Q0⟩,?_⟩;refine Ok.qb (m:=13) (late:=[1,9]) (MD:=⟨[]⟩) (CH:=⟨[]⟩) tok mixed (by kernel_rfl) ?_;have ⟨x2,ak,h⟩:=ι h;refine ⟨_,rfl,_,rfl,_,rfl,_,rfl,_,rfl,_,rfl,_,⟨_,rfl,rfl⟩,_,⟨_,rfl,rfl⟩,_,⟨_,.fC (Q_ ak) lz,rfl⟩,_,rfl,_,rfl,_,rfl,_,rfl,Q0,?_⟩;refine ⟨_,rfl,⟨⟨_,rfl,rfl⟩,⟨_,rfl,rfl⟩,Q0⟩,_,rfl,?_⟩;cases h;exact wt Q1 J1 rfl
end Go.Proofs
