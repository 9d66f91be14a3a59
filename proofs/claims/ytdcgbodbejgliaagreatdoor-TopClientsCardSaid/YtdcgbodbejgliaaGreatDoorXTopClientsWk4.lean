/- The walks of this seat beside the plain programs, part 4. No condition. -/
import Derived.Test.YtdcgbodbejgliaaGreatDoorXTopClientsHb
import Derived.Test.YtdcgbodbejgliaaGreatDoorXTopClientsWk0
import Derived.Test.YtdcgbodbejgliaaGreatDoorXTopClientsWk1
import Derived.Test.YtdcgbodbejgliaaGreatDoorXTopClientsWk2
import Derived.Test.YtdcgbodbejgliaaGreatDoorXTopClientsWk3
open List renaming length_map → az, map_append → fu, map_eq_nil_iff → Df
open Or renaming inl → θ, inr → bY
namespace Go.Proofs
set_option linter.all false
open Go Go.Cat Tryz
variable [M:bM]
set_option maxRecDepth 100000
set_option maxHeartbeats 4000000
def ajj {a b r} (h:P3 a b=some r):Pure prog 134 [.s (mF a),.c (.func 191) [] [.p [vi b]]] (vi r):=by
 refine pq tok 19 func134 ?_;unfold P3 at h;refine sg (Ok.fg (fun v1=>⟨ar [],[]⟩) (fun v1=>P5 v1=some r) ?_ ?_)
 ·refine sg ⟨_,az _,fun _=>?_⟩;refine bl (Ok.loop (fun (s1:Int)=>⟨ar [(0,.s (mF a)),(1,.c (.func 191) [] [.p [vi b]]),(7,vi (a.length:Int)),(8,vi s1)],[]⟩) (P4 a b) (s0:=0) h (wt Q4 Q0 rfl) ?_);intro s1 y1 ζ aQ;unfold P4 at ζ;refine sg (sq (ct ζ (fun hb ζ=>?_) fun hb ζ=>?_))
  ·refine sk (sq (bl (sg ?_)));refine sg ?_;have ⟨x1,Ξ,ζ⟩:=κ ζ;have ⟨x2,au,ζ⟩:=κ ζ;refine ⟨_,bK Ξ,_,bL Ξ,_,rfl,?_⟩;refine af.call (ajt au) lz ?_;refine ct ζ (fun hb ζ=>?_) fun hb ζ=>?_
   ·refine sg (rt ?_);have ζ:=bz ζ aQ;cases ζ;exact Fz.v
   refine sk (rg ?_);have ⟨ax,ζ⟩:=aG ζ;refine (θ ⟨ax,?_⟩);exact ⟨_,sj ζ,wt Q4 Q0 rfl⟩
  refine xt ?_;have ζ:=bz ζ aQ;exact ⟨_,ζ,wt Q0 Q0 rfl⟩
 intro v1 h;unfold P5 at h;refine sg (rt ?_);cases h;exact Fz.v
def aju {c d r} (h:KM c d=some r):Pure prog 191 [.a (b6 c),.p [vi d]] (vb r):=by
 refine pq tok 8 func191 ?_;unfold KM at h;refine sg (sg ⟨_,rfl,_,rfl,?_⟩);refine rt ?_;cases h;exact Fz.v
def aj7 {g e r} (h:Ks g e=some r):af prog 189 [.o 1000,.c (.func 191) [] [.b 1001 0]] ⟨aF,[(1000,.own 138 3 (mF g)),(1001,.box [vi e])]⟩ fun x s=>x=(.o 999)∧s.H=[(999,.own 138 3 (mF r)),(1001,.box [vi e])]:=by
 refine pg tok 42 func189 ?_;unfold Ks at h;refine sg (sg ?_);have ⟨x1,Ξ,h⟩:=κ h;refine af.borrow (ajj Ξ) (.cons (Fz.o rfl) (.cons (Fz.c .nil (.cons (Fz.b rfl rfl) .nil)) .nil)) rfl ?_;refine sq (sg ?_);refine ct h (fun hb h=>?_) fun hb h=>?_
 ·refine sg (rt ?_);cases h;exact (Wk.mv (i:=1000) (d:=999) rfl rfl rfl).trans (wt Q1 ⟨hr,hr,Q0⟩ rfl)
 refine sk ?_;have ⟨v1,ν,h⟩:=κ h;refine Ok.bj ⟨ar [(0,.o 1000),(5,vi v1.1)],[(1000,.own 138 3 (mF v1.2)),(1001,.box [vi e])]⟩ ?_ ?_
 ·refine sg ?_;have ⟨ax,ν⟩:=aG ν;refine (θ ⟨ax,?_⟩);refine bl (Ok.loop (fun (s1:Int×Int×(List aO))=>⟨ar [(0,.o 1000),(1,.c (.func 191) [] [.b 1001 0]),(5,vi s1.1),(6,vi s1.2.1)],[(1000,.own 138 3 (mF s1.2.2)),(1001,.box [vi e])]⟩) (PW e) (s0:=(x1,x1+1,g)) ν (wt Q4 ⟨hr,hr,Q0⟩ rfl) ?_);intro s1 y1 ζ aQ;unfold PW at ζ;refine sq (sg ?_);refine ⟨_,az _,fun _=>?_⟩;refine ct ζ (fun hb ζ=>?_) fun hb ζ=>?_
  ·refine sk ?_;have ⟨v2,aw,ζ⟩:=κ ζ;refine Ok.bj ⟨ar [(0,.o 1000),(1,.c (.func 191) [] [.b 1001 0]),(5,vi v2.1),(6,vi s1.2.1)],[(1000,.own 138 3 (mF v2.2)),(1001,.box [vi e])]⟩ ?_ ?_
   ·refine bl (sg ?_);have ⟨x2,au,aw⟩:=κ aw;refine ⟨_,bK au,wN au,_,bL au,rfl,_,rfl,_,rfl,?_⟩;refine sg ?_;have ⟨x3,aM,aw⟩:=κ aw;refine ⟨_,rfl,?_⟩;refine af.borrow (aju aM) (.cons (Fz.a fq) (.cons (Fz.b rfl rfl) .nil)) rfl ?_;refine ct aw (fun hb aw=>?_) fun hb aw=>?_
    ·refine sg ?_;have ⟨x4,bw,aw⟩:=κ aw;refine ⟨_,rfl,_,bK bw,wN bw,_,bL bw,rfl,_,rfl,_,FM (f:=j7) (x:=x2),?_⟩;refine rg ?_;have ⟨bt,aw⟩:=aG aw;refine (θ ⟨bt,?_⟩);cases aw;exact wt Q4 J2 rfl
    refine sk ?_;cases aw;exact wt Q4 J2 rfl
   refine rg ?_;have ⟨ep,ζ⟩:=aG ζ;refine (θ ⟨ep,?_⟩);exact ⟨_,sj ζ,wt Q4 J2 rfl⟩
  refine xt ?_;have ζ:=bz ζ aQ;cases ζ;exact wt Q2 J2 rfl
 refine sg ?_;have ⟨kN,h⟩:=aG h;refine ⟨_,lf kN.1,FY kN,_,Sd (f:=j7) (z:=((⟨[],0,0⟩:aO):aO)) v1.2 (v1.1.toNat),?_⟩;refine sq (Ok.wk (Wk.mv (i:=1000) (d:=999) rfl rfl rfl) ?_);refine rg ?_;have ⟨qg,h⟩:=aG h;refine ⟨_,lf qg.1,FY qg,_,(List.map_take (f:=j7)).symm,?_⟩;refine rt ?_;cases h;exact wt Q1 J2 rfl
def ajv {c d r} (h:CF c d=some r):Pure prog 193 [.a (b6 c),.a (b6 d)] (vi r):=by
 refine pq tok 10 func193 ?_;unfold CF at h;refine sg (sg ?_);have ⟨x1,Ξ,h⟩:=κ h;refine ⟨_,rfl,_,rfl,?_⟩;refine af.call (Am Ξ) lz ?_;refine rt ?_;cases h;exact Fz.v
def ajs {d i g e r} (h:xf d i g e=some r):Pure prog 121 [.a (b0 d),vi i,vi g,vi e] (.t (k15 r.1 r.2.1 r.2.2)):=by
 refine pq tok 58 func121 ?_;unfold xf at h;refine sg (sq ?_);have ⟨v1,ν,h⟩:=κ h;refine Ok.bj ⟨ar [(1,vi i),(3,vi e),(4,.b 4 0),(6,.b 6 0),(23,vb v1)],[(4,.box (b0 d)),(6,.box [vi g])]⟩ ?_ ?_
 ·refine rg ⟨_,rfl,?_⟩;have ⟨c1,Δ,ν⟩:=κ ν;refine Br.ei Δ (fun hb Δ=>?_) fun hb Δ=>?_
  ·cases Δ;have ⟨c2,aI,ν⟩:=κ ν;replace aI:=eh aI;cases aI;cases ν;exact wt Q5 J2 rfl
  cases Δ;have ⟨c2,aS,ν⟩:=κ ν;refine Br.ei aS (fun hb aS=>?_) fun hb aS=>?_
  ·cases aS;cases ν;exact wt Q5 J2 rfl
  cases aS;cases ν;exact wt Q5 J2 rfl
 refine ct h (fun hb h=>?_) fun hb h=>?_
 ·refine sg (rt ?_);cases h;exact (Fz.t (.cons Fz.nil fq))
 refine sk (sg ?_);have ⟨x1,Ξ,h⟩:=κ h;refine ⟨_,rfl,?_⟩;refine af.eB (id:=27) (KW Ξ) rfl (.box lz) rfl (.cons (Lr.b) (.cons (Lr.dG rfl) .nil)) ?_;rintro _ _ ⟨rfl,rfl⟩;refine ⟨_,rfl,?_⟩;refine sq (sg ?_);refine ct h (fun hb h=>?_) fun hb h=>?_
 ·refine sg (rt ?_);cases h;exact (Fz.t (.cons Fz.nil fq))
 refine sk (sg ?_);have ⟨x2,au,h⟩:=κ h;refine ⟨_,rfl,?_⟩;refine af.own (D:=37) (KY au) lz rfl ?_;have ⟨x3,aM,h⟩:=κ h;refine cg [(1000,37),(1001,6)] [(999,37)] (aj7 aM) (.cons (Ln.o rfl) (.cons (Ln.c .nil (.cons (Ln.b rfl) .nil)) .nil)) ⟨⟨37,_,rfl,rfl,.refl rfl⟩,⟨6,_,rfl,rfl,.box nq⟩,Q0⟩ ?_;refine sg ?_;have ⟨x4,bw,h⟩:=κ h;refine af.eB (id:=37) (WM (E:=138) (enc:=j7) ag6 abb (fun _=>rfl) (fun _ _ _ h=>ajv (M:=bM.yes) h) (enters_of func193 (by kernel_rfl) rfl) bw) rfl (.refl _) rfl (.cons Lr.o (.cons (Lr.dG rfl) .nil)) ?_;rintro _ _ ⟨rfl,rfl⟩;refine sq (sg ?_);refine ⟨_,az _,fun _=>?_⟩;refine ct h (fun hb h=>?_) fun hb h=>?_
 ·refine sg (rt ?_);cases h;exact (Fz.t (.cons (Fz.o rfl) fq))
 refine sk (sq (Ok.wk (Wk.freeze (id:=37) rfl) ?_));refine dw 14 tok mixed ?_;have ⟨ax,h⟩:=aG h;have ⟨bt,h⟩:=aG h;have ⟨x5,dv,h⟩:=κ h;have ⟨ep,h⟩:=aG h;refine ⟨_,rfl,_,rfl,_,rfl,_,⟨_,_,lf ax.1,lf (PN ax),ahi ax,ahj ax,w7 (f:=j7) (K:=3) (fun _=>rfl) x4,_,(List.map_take (f:=j7)).symm,rfl⟩,_,rfl,_,rfl,_,θ ⟨bt,rfl⟩,_,⟨_,bK dv,_,bL dv,rfl⟩,_,rfl,_,⟨_,rfl,rfl⟩,_,θ ⟨ep,rfl⟩,_,rfl,_,rfl,_,rfl,Q0,?_⟩;refine rt ?_;cases h;exact (Fz.t (.cons Fz.s fq))
def akc {a r} (h:ym a=some r):iZ prog 122 [.s (mF a)] 9 1 (mG r):=by
 refine pv tok 19 func122 ?_;unfold ym at h;refine sg (sg ?_);have ⟨v1,ν,h⟩:=κ h;refine Ok.bj ⟨ar [(3,.o 16)],[(16,.own 9 1 (mG v1))]⟩ ?_ ?_
 ·refine sg ⟨_,az _,fun _=>?_⟩;refine bl (Ok.loop (fun (s1:Int×(List (List UInt8)))=>⟨ar [(3,.o 16),(6,.s (mF a)),(7,vi (a.length:Int)),(8,vi s1.1)],[(16,.own 9 1 (mG s1.2))]⟩) (H8 a) (s0:=(0,[])) ν ((Wk.BZ (t:=3) (id:=16) (E:=9) (K:=1) rfl rfl).trans (wt Q4 ⟨hr,Q0⟩ rfl)) ?_);intro s1 y1 ζ aQ;unfold H8 at ζ;refine sg (sq (ct ζ (fun hb ζ=>?_) fun hb ζ=>?_))
  ·refine sk (sq (bl (sg ?_)));have ⟨x1,Ξ,ζ⟩:=κ ζ;refine ⟨_,bK Ξ,_,bL Ξ,_,rfl,_,rfl,?_⟩;refine rg ?_;have ⟨ax,ζ⟩:=aG ζ;refine ⟨_,rfl,θ ⟨hZ (f:=mJ) (n:=1) (fun _=>rfl) ([x1.aN]),iy (f:=mJ) (l:=s1.2) (l':=[x1.aN]) ax,_,(fu (f:=mJ) (l₁:=s1.2) (l₂:=[x1.aN])).symm,?_⟩⟩;refine rg ?_;have ⟨bt,ζ⟩:=aG ζ;refine (θ ⟨bt,?_⟩);exact ⟨_,sj ζ,wt Q4 J1 rfl⟩
  refine xt ?_;have ζ:=bz ζ aQ;cases ζ;exact wt Q1 J1 rfl
 refine sg (rt ?_);cases h;exact (.inr ⟨_,rfl,rfl⟩)
def Yn {a r} (h:ym a=some r):Pure prog 122 [.s (mF a)] (.s (mG r)):=(akc h).pure
def ajM {a d e f g i j k l o u w z A B C D E F G I J K} {q:Int⊕(Int×(List (List UInt8)))} (h:DY a d e f g i j k l o u w z A B C D E F G I J K=some q):fP prog bh 67 [.b 1000 0] ⟨aF,[(1000,.box (cP a d e f g i j k l o u w z A B C D E F G I J K))]⟩ (fun x s=>∃y:Int×(List (List UInt8)),q=.inr y∧x=(.t [])∧s.H=[(1000,.box (k16 a d e f g i j k l o u w z A B C D E 0 0 0 y.1 0 y.2))]) fun m s=>q=.inl m∧s.H=[]:=by
 refine px tok 45 func67 ?_;unfold DY at h;refine sq (Ok.cV bh tok ?_);have ⟨x1,Ξ,h⟩:=κ h;refine θ (θ (θ (θ (θ (θ (⟨_,rfl,?_⟩))))));refine bY (cx [(1000,1000)] [] (Ap Ξ) (.cons (Ln.b rfl) nq) ⟨⟨1000,_,rfl,rfl,.box nq⟩,Q0⟩ (fun e1 bD=>?_) (fun y1 cY=>?_))
 ·have h:=cw h bD;cases h;exact ⟨_,rfl,rfl⟩
 have h:=cy h cY;refine θ (θ (⟨_,rfl,?_⟩));refine sq (dw 26 tok mixed ?_);have ⟨x2,au,h⟩:=κ h;refine ⟨_,rfl,_,rfl,_,rfl,_,rfl,_,rfl,_,⟨_,rfl,rfl⟩,_,rfl,_,⟨_,rfl,rfl⟩,_,rfl,_,rfl,_,rfl,_,rfl,_,⟨_,rfl,rfl⟩,_,rfl,_,rfl,_,rfl,_,rfl,_,⟨_,rfl,rfl⟩,_,⟨_,.fE (ajs au) lz,rfl⟩,_,rfl,_,rfl,_,rfl,_,rfl,_,rfl,_,rfl,_,rfl,Q0,?_⟩;refine sq (Ok.cV bh tok ?_);have ⟨x3,aM,h⟩:=κ h;refine θ (bY (cx [] [] (ku aM) nq Q0 (fun e2 dS=>?_) (fun y2 eu=>?_)))
 ·have h:=cw h dS;cases h;exact ⟨_,rfl,rfl⟩
 have h:=cy h eu;refine rg ?_;have ⟨x4,bw,h⟩:=κ h;refine af.call (Yn bw) lz ?_;refine ⟨_,rfl,?_⟩;cases h;exact ⟨_,rfl,wt Q1 J1 rfl⟩
def Yo {c r} (h:DR c=some r):Pure prog 123 [.a (b4 c)] (vi r):=by
 refine pq tok 10 func123 ?_;unfold DR at h;refine sg (sg ⟨_,rfl,_,az _,fun _=>⟨_,rfl,_,az _,fun _=>⟨(max (c.aC.length:Int) (c.Ψ.length:Int)),rfl,?_⟩⟩⟩);refine rt ?_;cases h;exact Fz.v
def ajT {a d e f g i j k l o u w z A B C D E F G I J K} {q:Int⊕(Int×Int×Int×Int)} (h:D7 a d e f g i j k l o u w z A B C D E F G I J K=some q):fP prog bh 68 [.b 1000 0] ⟨aF,[(1000,.box (cP a d e f g i j k l o u w z A B C D E F G I J K))]⟩ (fun x s=>∃y:Int×Int×Int×Int,q=.inr y∧x=(.t [])∧s.H=[(1000,.box (cP a d e f g i j k l o u w z A B C D E 0 y.1 y.2.1 y.2.2.1 y.2.2.2))]) fun m s=>q=.inl m∧s.H=[]:=by
 refine px tok 22 func68 ?_;unfold D7 at h;refine sq (Ok.cV bh tok ?_);have ⟨x1,Ξ,h⟩:=κ h;refine θ (θ (θ (θ (θ (θ (⟨_,rfl,?_⟩))))));refine bY (cx [(1000,1000)] [] (Ap Ξ) (.cons (Ln.b rfl) nq) ⟨⟨1000,_,rfl,rfl,.box nq⟩,Q0⟩ (fun e1 bD=>?_) (fun y1 cY=>?_))
 ·have h:=cw h bD;cases h;exact ⟨_,rfl,rfl⟩
 have h:=cy h cY;refine θ (θ (⟨_,rfl,?_⟩));refine dw 12 tok mixed ?_;have ⟨x2,au,h⟩:=κ h;refine ⟨_,rfl,_,rfl,_,⟨_,rfl,rfl⟩,_,rfl,_,⟨_,rfl,rfl⟩,_,rfl,_,⟨_,rfl,rfl⟩,_,⟨_,rfl,rfl⟩,_,⟨_,.fE (Yo au) lz,rfl⟩,_,rfl,_,rfl,_,rfl,Q0,_,rfl,?_⟩;cases h;exact ⟨_,rfl,wt Q1 J1 rfl⟩
def aiG {c r} (h:IW c=some r):Pure prog 195 [.a [vi c.1,vi c.2]] (vb r):=by
 refine pq tok 21 func195 ?_;unfold IW at h;refine sg ?_;have ⟨v1,ν,h⟩:=κ h;refine Ok.bj ⟨ar [(2,vb v1)],[]⟩ ?_ ?_
 ·refine rg ⟨0,rfl,by decide,_,rfl,?_⟩;have ⟨c1,Δ,ν⟩:=κ ν;refine Br.ite Δ (fun hb Δ=>?_) fun hb Δ=>?_
  ·refine ⟨0,rfl,by decide,_,rfl,?_⟩;cases Δ;have ⟨c2,aI,ν⟩:=κ ν;refine Br.ite aI (fun hb aI=>?_) fun hb aI=>?_
   ·refine ⟨1,rfl,by decide,_,rfl,?_⟩;cases aI;have ⟨c3,aS,ν⟩:=κ ν;refine Br.ite aS (fun hb aS=>?_) fun hb aS=>?_
    ·refine ⟨1,rfl,by decide,_,rfl,?_⟩;cases aS;cases ν;exact wt Q1 Q0 rfl
    cases aS;cases ν;exact wt Q1 Q0 rfl
   cases aI;have ⟨c3,di,ν⟩:=κ ν;replace di:=eb di;cases di;cases ν;exact wt Q1 Q0 rfl
  cases Δ;have ⟨c2,dI,ν⟩:=κ ν;replace dI:=eb dI;cases dI;have ⟨c3,eF,ν⟩:=κ ν;replace eF:=eb eF;cases eF;cases ν;exact wt Q1 Q0 rfl
 refine rt ?_;cases h;exact Fz.v
def Yq {c r} (h:BC c=some r):Pure prog 248 [.a (b7 c)] (.a [vi r.1,vi r.2]):=by
 refine pq tok 8 func248 ?_;unfold BC at h;refine sg (sg ⟨_,rfl,_,rfl,_,rfl,?_⟩);refine rt ?_;cases h;exact ⟨_,rfl,Fz.dG rfl⟩
def ait {a r} (h:HH a=some r):Pure prog 249 [.s (mB a)] (vi r):=by
 refine pq tok 18 func249 ?_;unfold HH at h;refine sg (sg (Ok.fg (fun v1=>⟨ar [(3,vi (0))],[]⟩) (fun v1=>HI v1=some r) ?_ ?_))
 ·refine sg ⟨_,az _,fun _=>?_⟩;refine bl (Ok.loop (fun (s1:Int)=>⟨ar [(3,vi (0)),(6,.s (mB a)),(7,vi (a.length:Int)),(8,vi s1)],[]⟩) (vY a) (s0:=0) h (wt Q4 Q0 rfl) ?_);intro s1 y1 ζ aQ;unfold vY at ζ;refine sg (sq (ct ζ (fun hb ζ=>?_) fun hb ζ=>?_))
  ·refine sk (sq (bl (sg ?_)));have ⟨x1,Ξ,ζ⟩:=κ ζ;refine ⟨_,bK Ξ,_,bL Ξ,_,rfl,?_⟩;refine sg (ct ζ (fun hb ζ=>?_) fun hb ζ=>?_)
   ·refine sg (rt ?_);have ζ:=bz ζ aQ;cases ζ;exact Fz.v
   refine sk (rg ?_);have ⟨ax,ζ⟩:=aG ζ;refine (θ ⟨ax,?_⟩);exact ⟨_,sj ζ,wt Q4 Q0 rfl⟩
  refine xt ?_;have ζ:=bz ζ aQ;exact ⟨_,ζ,wt Q1 Q0 rfl⟩
 intro v1 h;unfold HI at h;refine sg (rt ?_);cases h;exact Fz.v
def Yp {d c e r} (h:yY d c e=some r):Pure prog 197 [.a [vi d.1,vi d.2],.a (b7 c),.a [vi e.1,vi e.2]] (vi r):=by
 refine pq tok 22 func197 ?_;unfold yY at h;refine sg (sg ?_);have ⟨x1,Ξ,h⟩:=κ h;refine ⟨_,rfl,?_⟩;refine af.call (Yq Ξ) lz ?_;refine ⟨_,rfl,?_⟩;refine sq (dw 13 tok mixed ?_);have ⟨x2,au,h⟩:=κ h;have ⟨x3,aM,h⟩:=κ h;have ⟨x4,bw,h⟩:=κ h;refine ⟨_,⟨0,rfl,by decide,rfl⟩,_,⟨_,rfl,rfl⟩,_,⟨0,rfl,by decide,rfl⟩,_,⟨_,rfl,rfl⟩,_,⟨_,.fE (Am au) lz,rfl⟩,_,⟨1,rfl,by decide,rfl⟩,_,⟨_,rfl,rfl⟩,_,⟨1,rfl,by decide,rfl⟩,_,⟨_,rfl,rfl⟩,_,⟨_,.fE (Am aM) lz,rfl⟩,_,rfl,_,⟨_,.fE (ait bw) lz,rfl⟩,_,rfl,Q0,?_⟩;refine rt ?_;cases h;exact Fz.v
def aja {f d e r} (h:Kn f d e=some r):Pure prog 196 [.s (mE f),.a [vi d.1,vi d.2],.c (.func 197) [.a [vi e.1,vi e.2]] []] (.t [vi r.1,vb r.2]):=by
 refine pq tok 49 func196 ?_;unfold Kn at h;refine sg (sg ⟨_,az _,fun _=>?_⟩);refine sg ?_;have ⟨v1,ν,h⟩:=κ h;refine Ok.bj ⟨ar [(0,.s (mE f)),(2,.c (.func 197) [.a [vi e.1,vi e.2]] []),(4,.b 4 0),(8,vi (f.length:Int)),(9,vi v1)],[(4,.box [vi d.1,vi d.2])]⟩ ?_ ?_
 ·refine bl (Ok.loop (fun (s1:Int×Int)=>⟨ar [(0,.s (mE f)),(2,.c (.func 197) [.a [vi e.1,vi e.2]] []),(4,.b 4 0),(8,vi (f.length:Int)),(9,vi s1.1),(10,vi s1.2)],[(4,.box [vi d.1,vi d.2])]⟩) (PR f e d) (s0:=(0,(f.length:Int))) ν (wt Q6 ⟨hr,Q0⟩ rfl) ?_);intro s1 y1 ζ aQ;unfold PR at ζ;refine sq (sg ?_);refine ct ζ (fun hb ζ=>?_) fun hb ζ=>?_
  ·refine sk (bl (sg ?_));have ⟨ax,ζ⟩:=aG ζ;refine (θ ⟨ax,_,rfl,(by decide),_,rfl,_,rfl,?_⟩);refine sq (dw 8 tok mixed ?_);have ⟨x1,Ξ,ζ⟩:=κ ζ;have ⟨x2,au,ζ⟩:=κ ζ;refine ⟨_,rfl,_,rfl,_,rfl,_,⟨_,bK Ξ,_,bL Ξ,rfl⟩,_,⟨_,rfl,rfl⟩,_,⟨_,rfl,rfl⟩,_,⟨_,.fE (Yp au) lz,rfl⟩,_,rfl,Q0,?_⟩;refine ct ζ (fun hb ζ=>?_) fun hb ζ=>?_
   ·refine rg ?_;have ⟨bt,ζ⟩:=aG ζ;refine (θ ⟨bt,?_⟩);exact ⟨_,sj ζ,wt Q6 J1 rfl⟩
   refine rg ?_;exact ⟨_,sj ζ,wt Q6 J1 rfl⟩
  refine xt ?_;have ζ:=bz ζ aQ;cases ζ;exact wt Q5 J1 rfl
 have ⟨v2,aw,h⟩:=κ h;refine Ok.bj ⟨ar [(6,vi v1),(7,vb v2)],[]⟩ ?_ ?_
 ·refine dw 16 tok mixed ⟨_,rfl,_,rfl,_,rfl,_,rfl,_,rfl,?_⟩;have ⟨c1,Δ,aw⟩:=κ aw;refine Br.ite Δ (fun hb Δ=>?_) fun hb Δ=>?_
  ·have ⟨x3,aM,Δ⟩:=κ Δ;have ⟨x4,bw,Δ⟩:=κ Δ;refine ⟨_,rfl,_,rfl,_,rfl,_,⟨_,bK aM,_,bL aM,rfl⟩,_,⟨_,rfl,rfl⟩,_,⟨_,rfl,rfl⟩,_,⟨_,.fE (Yp bw) lz,rfl⟩,_,rfl,?_⟩;cases Δ;refine ⟨_,rfl,?_⟩;refine ⟨_,rfl,_,rfl,Q0,?_⟩;cases aw;exact wt Q2 Q0 rfl
  cases Δ;refine ⟨_,rfl,?_⟩;refine ⟨_,rfl,_,rfl,Q0,?_⟩;cases aw;exact wt Q2 Q0 rfl
 refine rt ?_;cases h;exact (Fz.t fq)
def YS {a r} (h:FZ a=some r):iZ prog 200 [.s (mE a)] 84 3 (mE r):=by
 refine pv tok 8 func200 ?_;unfold FZ at h;refine sg (sq (sg ?_));intro b1 cO;have h:=xS h b1 (fun e=>Df.1 (cO e));refine ct h (fun hb h=>?_) fun hb h=>?_
 ·refine sg (rt ?_);cases h;exact (.inl ⟨rfl,rfl⟩)
 refine sk (sg ?_);have ⟨ax,h⟩:=aG h;refine bY ⟨hZ (f:=p9) (n:=3) (fun _=>rfl) a,iy (f:=p9) (l:=([]:List ay)) (l':=a) ax,_,(fu (f:=p9) (l₁:=([]:List ay)) (l₂:=a)).symm,?_⟩;refine rt ?_;cases h;exact (.inr ⟨_,rfl,rfl⟩)
def aiB {f c d e g r} (h:Bz f c d e g=some r):Pure prog 124 [.a (b0 f),.s (mE c),vi d,vi e,vi g] (.t [.s (mE r.1),vi r.2]):=by
 refine pq tok 68 func124 ?_;unfold Bz at h;refine sg (sg ⟨_,rfl,?_⟩);refine sq (sg ?_);have ⟨x1,Ξ,h⟩:=κ h;refine ⟨_,rfl,?_⟩;refine af.call (aiG Ξ) lz ?_;refine ct h (fun hb h=>?_) fun hb h=>?_
 ·refine sg (rt ?_);cases h;exact (Fz.t (.cons Fz.s fq))
 refine sk (sg ?_);have ⟨x2,au,h⟩:=κ h;refine ⟨_,rfl,?_⟩;refine af.call (se au) lz ?_;refine ⟨_,rfl,?_⟩;refine sg ?_;have ⟨x3,aM,h⟩:=κ h;refine ⟨_,rfl,_,rfl,?_⟩;refine af.call (aja aM) lz ?_;refine sq (bl ?_);have ⟨v1,ν,h⟩:=κ h;refine Ok.bj ⟨ar [(1,.s (mE c)),(2,vi d),(3,vi e),(4,vi g),(13,.b 13 0),(15,vi x3.1),(16,vb x3.2),(38,vb v1)],[(13,.box (b4 x2.1))]⟩ ?_ ?_
 ·refine rg ?_;have ⟨c1,Δ,ν⟩:=κ ν;refine Br.ei Δ (fun hb Δ=>?_) fun hb Δ=>?_
  ·cases Δ;cases ν;exact wt Q8 J1 rfl
  have ⟨x4,bw,Δ⟩:=κ Δ;refine ⟨_,rfl,?_⟩;refine af.call (Qy bw) lz ?_;cases Δ;cases ν;exact wt Q8 J1 rfl
 refine ct h (fun hb h=>?_) fun hb h=>?_
 ·refine sg (rt ?_);cases h;exact (Fz.t (.cons Fz.s fq))
 refine sg ⟨_,rfl,?_⟩;refine ct h (fun hb h=>?_) fun hb h=>?_
 ·refine sg (rt ?_);cases h;exact (Fz.t (.cons Fz.s fq))
 refine sg (ct h (fun hb h=>?_) fun hb h=>?_)
 ·refine sg (rt ?_);cases h;exact (Fz.t (.cons Fz.s fq))
 refine sg ⟨_,az _,fun _=>?_⟩;refine ct h (fun hb h=>?_) fun hb h=>?_
 ·refine sg (rt ?_);cases h;exact (Fz.t (.cons Fz.s fq))
 refine sk (sg ?_);have ⟨x5,dv,h⟩:=κ h;refine af.own (D:=60) (YS dv) lz rfl ?_;have ⟨ax,h⟩:=aG h;refine θ (cg [(1000,60)] [(900,60)] (ada x5 x3.1 ([(⟨d,e,g⟩:ay)]) ax) (.cons (Ln.o rfl) nq) ⟨⟨60,_,rfl,rfl,.refl rfl⟩,Q0⟩ ?_);refine rt ?_;cases h;exact (Fz.t (.cons (Fz.o rfl) fq))
def ajP {a d e f g i j k J l o u w z A B C D E K F G I} {q:Int⊕((List ay)×Int)} (h:D1 a d e f g i j k J l o u w z A B C D E K F G I=some q):fP prog bh 69 [.b 1000 0] ⟨aF,[(1000,.box (cP a d e f g i j k J l o u w z A B C D E K F G I))]⟩ (fun x s=>∃y:(List ay)×Int,q=.inr y∧x=(.t [])∧s.H=[(1000,.box (cP a d e f g i j k y.1 l o u w z A B C D E y.2 F G I))]) fun m s=>q=.inl m∧s.H=[]:=by
 refine px tok 52 func69 ?_;unfold D1 at h;refine sq (Ok.cV bh tok ?_);have ⟨x1,Ξ,h⟩:=κ h;refine θ (θ (θ (θ (θ (θ (⟨_,rfl,?_⟩))))));refine bY (cx [(1000,1000)] [] (Ap Ξ) (.cons (Ln.b rfl) nq) ⟨⟨1000,_,rfl,rfl,.box nq⟩,Q0⟩ (fun e1 bD=>?_) (fun y1 cY=>?_))
 ·have h:=cw h bD;cases h;exact ⟨_,rfl,rfl⟩
 have h:=cy h cY;refine θ (θ (⟨_,rfl,?_⟩));refine sq (dw 29 tok mixed ?_);have ⟨x2,au,h⟩:=κ h;refine ⟨_,rfl,_,rfl,_,rfl,_,rfl,_,rfl,_,⟨_,rfl,rfl⟩,_,rfl,_,rfl,_,rfl,_,rfl,_,⟨_,rfl,rfl⟩,_,rfl,_,rfl,_,rfl,_,rfl,_,⟨_,rfl,rfl⟩,_,rfl,_,rfl,_,rfl,_,rfl,_,⟨_,rfl,rfl⟩,_,rfl,_,⟨_,rfl,rfl⟩,_,⟨_,.fE (aiB au) lz,rfl⟩,_,rfl,_,rfl,_,rfl,_,rfl,_,rfl,Q0,?_⟩;refine sq (Ok.cV bh tok ?_);have ⟨x3,aM,h⟩:=κ h;refine θ (bY (cx [] [] (ku aM) nq Q0 (fun e2 dS=>?_) (fun y2 eu=>?_)))
 ·have h:=cw h dS;cases h;exact ⟨_,rfl,rfl⟩
 have h:=cy h eu;refine Ok.q_ (m:=8) (late:=[1,3,4]) (MD:=⟨[]⟩) (CH:=⟨[]⟩) tok mixed (by kernel_rfl) ?_;refine ⟨_,rfl,_,rfl,_,rfl,_,rfl,_,⟨_,rfl,rfl⟩,_,rfl,_,rfl,_,rfl,Q0,?_⟩;refine ⟨_,rfl,⟨⟨_,rfl,rfl⟩,⟨_,rfl,rfl⟩,⟨_,rfl,_,rfl,rfl⟩,Q0⟩,_,rfl,?_⟩;cases h;exact ⟨_,rfl,wt Q1 J1 rfl⟩
def aiF {d c r} (h:EH d c=some r):Pure prog 202 [.a [vi d.1,vi d.2],.a (b7 c)] (vb r):=by
 refine pq tok 9 func202 ?_;unfold EH at h;refine sg (sq (dw 5 tok mixed ?_));have ⟨x1,Ξ,h⟩:=κ h;refine ⟨_,⟨_,rfl,rfl⟩,_,⟨_,.fE (Yq Ξ) lz,rfl⟩,_,⟨_,rfl,rfl⟩,_,⟨[.one (.int .i64),.one (.int .i64)],by kernel_rfl,rfl⟩,_,rfl,Q0,?_⟩;refine rt ?_;cases h;exact Fz.v
def YB {d b r} (h:Gb d b=some r):Pure prog 201 [.s (mE d),.c (.func 202) [.a [vi b.1,vi b.2]] []] (vi r):=by
 refine pq tok 19 func201 ?_;unfold Gb at h;refine sg (Ok.fg (fun v1=>⟨ar [],[]⟩) (fun v1=>Qb v1=some r) ?_ ?_)
 ·refine sg ⟨_,az _,fun _=>?_⟩;refine bl (Ok.loop (fun (s1:Int)=>⟨ar [(0,.s (mE d)),(1,.c (.func 202) [.a [vi b.1,vi b.2]] []),(7,vi (d.length:Int)),(8,vi s1)],[]⟩) (Qa d b) (s0:=0) h (wt Q4 Q0 rfl) ?_);intro s1 y1 ζ aQ;unfold Qa at ζ;refine sg (sq (ct ζ (fun hb ζ=>?_) fun hb ζ=>?_))
  ·refine sk (sq (bl (sg ?_)));refine sg ?_;have ⟨x1,Ξ,ζ⟩:=κ ζ;have ⟨x2,au,ζ⟩:=κ ζ;refine ⟨_,bK Ξ,_,bL Ξ,_,rfl,?_⟩;refine af.call (aiF au) lz ?_;refine ct ζ (fun hb ζ=>?_) fun hb ζ=>?_
   ·refine sg (rt ?_);have ζ:=bz ζ aQ;cases ζ;exact Fz.v
   refine sk (rg ?_);have ⟨ax,ζ⟩:=aG ζ;refine (θ ⟨ax,?_⟩);exact ⟨_,sj ζ,wt Q4 Q0 rfl⟩
  refine xt ?_;have ζ:=bz ζ aQ;exact ⟨_,ζ,wt Q0 Q0 rfl⟩
 intro v1 h;unfold Qb at h;refine sg (rt ?_);cases h;exact Fz.v
def aiE {c d r} (h:EG c d=some r):Pure prog 252 [.a (b7 c),.p [vi d]] (vb r):=by
 refine pq tok 8 func252 ?_;unfold EG at h;refine sg (sg ⟨_,rfl,_,rfl,?_⟩);refine rt ?_;cases h;exact Fz.v
def ajl {a b r} (h:P9 a b=some r):Pure prog 201 [.s (mE a),.c (.func 252) [] [.p [vi b]]] (vi r):=by
 refine pq tok 19 func201 ?_;unfold P9 at h;refine sg (Ok.fg (fun v1=>⟨ar [],[]⟩) (fun v1=>P' v1=some r) ?_ ?_)
 ·refine sg ⟨_,az _,fun _=>?_⟩;refine bl (Ok.loop (fun (s1:Int)=>⟨ar [(0,.s (mE a)),(1,.c (.func 252) [] [.p [vi b]]),(7,vi (a.length:Int)),(8,vi s1)],[]⟩) (P_ a b) (s0:=0) h (wt Q4 Q0 rfl) ?_);intro s1 y1 ζ aQ;unfold P_ at ζ;refine sg (sq (ct ζ (fun hb ζ=>?_) fun hb ζ=>?_))
  ·refine sk (sq (bl (sg ?_)));refine sg ?_;have ⟨x1,Ξ,ζ⟩:=κ ζ;have ⟨x2,au,ζ⟩:=κ ζ;refine ⟨_,bK Ξ,_,bL Ξ,_,rfl,?_⟩;refine af.call (aiE au) lz ?_;refine ct ζ (fun hb ζ=>?_) fun hb ζ=>?_
   ·refine sg (rt ?_);have ζ:=bz ζ aQ;cases ζ;exact Fz.v
   refine sk (rg ?_);have ⟨ax,ζ⟩:=aG ζ;refine (θ ⟨ax,?_⟩);exact ⟨_,sj ζ,wt Q4 Q0 rfl⟩
  refine xt ?_;have ζ:=bz ζ aQ;exact ⟨_,ζ,wt Q0 Q0 rfl⟩
 intro v1 h;unfold P' at h;refine sg (rt ?_);cases h;exact Fz.v
def ajf {a b r} (h:Kp a b=some r):Pure prog 170 [.s (mE a),.c (.func 252) [] [.p [vi b]]] (vb r):=by
 refine pq tok 9 func170 ?_;unfold Kp at h;refine sg (sg ?_);have ⟨x1,Ξ,h⟩:=κ h;refine af.call (ajl Ξ) lz ?_;refine rt ?_;cases h;exact Fz.v
def aiD {a d r} (h:BB a d=some r):Pure prog 204 [.s (mE a),vi d] (vb r):=by
 refine pq tok 8 func204 ?_;unfold BB at h;refine sg (sg ?_);have ⟨x1,Ξ,h⟩:=κ h;refine af.borrow (ajf Ξ) (.cons Fz.s (.cons (Fz.c .nil (.cons (Fz.b rfl rfl) .nil)) .nil)) rfl ?_;refine rt ?_;cases h;exact Fz.v
def Qx {c d e f r} (h:yX c d e f=some r):Pure prog 125 [.a (b0 c),.s (mE d),vi e,vi f] (.t [.a (b0 r.1),.s (mE r.2.1),vi r.2.2]):=by
 refine pq tok 62 func125 ?_;unfold yX at h;refine sg (sg ?_);have ⟨x1,Ξ,h⟩:=κ h;refine af.call (YB Ξ) lz ?_;refine sq (sg ?_);refine ct h (fun hb h=>?_) fun hb h=>?_
 ·refine sg ⟨_,rfl,_,rfl,?_⟩;refine rt ?_;cases h;exact ⟨_,rfl,Fz.t (.cons (Fz.dG rfl) (.cons Fz.s fq))⟩
 refine sk (sg ?_);have ⟨x2,au,h⟩:=κ h;refine ⟨_,bK au,_,bL au,_,rfl,?_⟩;refine sg ?_;have ⟨x3,aM,h⟩:=κ h;refine af.own (D:=32) (YS aM) lz rfl ?_;have ⟨ax,h⟩:=aG h;have ⟨bt,h⟩:=aG h;refine (θ ⟨ax,?_⟩);refine cg [(1000,32)] [(900,32)] (adb x3 x1 (x1+1) bt) (.cons (Ln.o rfl) nq) ⟨⟨32,_,rfl,rfl,.refl rfl⟩,Q0⟩ ?_;have ⟨v1,ν,h⟩:=κ h;refine Ok.bj ⟨ar [(4,.b 4 0),(8,.b 8 0),(13,.o 32)],[(4,.box (k0 v1.1 v1.2.1 v1.2.2)),(8,.box (k1 0 0)),(32,.own 84 3 (mE (fY x3 x1 (x1+1))))]⟩ ?_ ?_
 ·refine sg ?_;have ⟨x4,bw,ν⟩:=κ ν;refine ⟨_,rfl,?_⟩;refine af.call (se bw) lz ?_;refine ⟨_,rfl,?_⟩;have ⟨v2,aw,ν⟩:=κ ν;refine Ok.bj ⟨ar [(4,.b 4 0),(8,.b 8 0),(12,vi x2.ι),(13,.o 32),(53,vb v2)],[(4,.box (b0 c)),(8,.box (k1 0 0)),(32,.own 84 3 (mE (fY x3 x1 (x1+1))))]⟩ ?_ ?_
  ·refine rg ?_;have ⟨c1,Δ,aw⟩:=κ aw;refine Br.ite Δ (fun hb Δ=>?_) fun hb Δ=>?_
   ·have ⟨x5,dv,Δ⟩:=κ Δ;refine ⟨_,rfl,?_⟩;refine af.call (Qy dv) lz ?_;cases Δ;have ⟨c2,aI,aw⟩:=κ aw;refine Br.ite aI (fun hb aI=>?_) fun hb aI=>?_
    ·have ⟨x6,gY,aI⟩:=κ aI;refine af.borrow (aiD gY) (.cons (Fz.o rfl) fq) rfl ?_;cases aI;cases aw;exact wt Q5 J3 rfl
    cases aI;cases aw;exact wt Q5 J3 rfl
   cases Δ;have ⟨c2,aS,aw⟩:=κ aw;replace aS:=eb aS;cases aS;cases aw;exact wt Q5 J3 rfl
  refine ct ν (fun hb ν=>?_) fun hb ν=>?_
  ·refine rg ?_;have ⟨x7,gF,ν⟩:=κ ν;refine ⟨_,rfl,?_⟩;refine af.call (YD gF) lz ?_;refine ⟨_,rfl,?_⟩;cases ν;exact wt Q3 J3 rfl
  refine sk ?_;cases ν;exact wt Q3 J3 rfl
 refine sg ⟨_,rfl,_,rfl,?_⟩;refine rt ?_;cases h;exact ⟨_,rfl,Fz.t (.cons (Fz.dG rfl) (.cons (Fz.o rfl) fq))⟩
def ajE {B C D F G I J K L a d e f g i j k l o u w z A} {q:Int⊕(KQ)} (h:DS B C D F G I J K L a d e f g i j k l o u w z A=some q):fP prog bh 70 [.b 1000 0] ⟨aF,[(1000,.box (cP B C D F G I J K L a d e f g i j k l o u w z A))]⟩ (fun x s=>∃y:KQ,q=.inr y∧x=(.t [])∧s.H=[(1000,.box (cP y.1 y.2.1 y.2.2.1 y.2.2.2.1 y.2.2.2.2.1 y.2.2.2.2.2.1 y.2.2.2.2.2.2.1 y.2.2.2.2.2.2.2.1 (t8 y) a d e f g i j k l o u w z A))]) fun m s=>q=.inl m∧s.H=[]:=by
 refine px tok 49 func70 ?_;unfold DS at h;refine sq (Ok.nu (E:=bh) (chain:=[(26,[0,1,2,3,4,5,6,7,8,9,10,11,12,13,14,15,16,17,18,19,20,21,22,23,24,25,28,29]),(27,[24,25,28,29])]) tok mixed (by kernel_rfl) ?_);have ⟨x1,Ξ,h⟩:=κ h;refine ⟨_,rfl,_,rfl,_,rfl,_,rfl,_,rfl,_,⟨_,rfl,rfl⟩,_,rfl,_,rfl,_,rfl,_,rfl,_,⟨_,rfl,rfl⟩,_,rfl,_,rfl,_,rfl,_,rfl,_,⟨_,rfl,rfl⟩,_,rfl,_,rfl,_,rfl,_,rfl,_,⟨_,rfl,rfl⟩,_,⟨_,.fE (Qx Ξ) lz,rfl⟩,_,rfl,_,rfl,_,rfl,_,rfl,_,rfl,_,rfl,θ ⟨⟨⟨_,rfl,rfl⟩,⟨_,rfl,rfl⟩,⟨_,rfl,rfl⟩,⟨_,rfl,rfl⟩,⟨_,rfl,rfl⟩,⟨_,rfl,_,rfl,rfl⟩,⟨_,rfl,rfl⟩,⟨_,rfl,rfl⟩,⟨_,rfl,rfl⟩,⟨_,rfl,rfl⟩,⟨_,rfl,_,rfl,rfl⟩,⟨_,rfl,rfl⟩,⟨_,rfl,rfl⟩,⟨_,rfl,rfl⟩,⟨_,rfl,rfl⟩,⟨_,rfl,_,rfl,rfl⟩,⟨_,rfl,rfl⟩,⟨_,rfl,rfl⟩,⟨_,rfl,rfl⟩,⟨_,rfl,rfl⟩,⟨_,rfl,_,rfl,rfl⟩,⟨_,rfl,_,.fE (Qx Ξ) lz,rfl⟩,⟨_,rfl,rfl⟩,⟨_,rfl,rfl⟩,⟨_,rfl,rfl⟩,⟨_,rfl,rfl⟩,⟨_,rfl,rfl⟩,⟨_,rfl,rfl⟩,Q0⟩,θ (⟨_,rfl,⟨⟨_,rfl,rfl⟩,⟨_,rfl,rfl⟩,⟨_,rfl,rfl⟩,⟨_,rfl,rfl⟩,Q0⟩,?_⟩)⟩⟩;refine sq (Ok.cV bh tok ?_);have ⟨x2,au,h⟩:=κ h;refine θ (bY (cx [] [] (ku au) nq Q0 (fun e1 bD=>?_) (fun y1 cY=>?_)))
 ·have h:=cw h bD;cases h;exact ⟨_,rfl,rfl⟩
 have h:=cy h cY;refine Ok.q_ (m:=13) (late:=[1,9]) (MD:=⟨[]⟩) (CH:=⟨[]⟩) tok mixed (by kernel_rfl) ?_;have ⟨x3,aM,h⟩:=κ h;refine ⟨_,rfl,_,rfl,_,rfl,_,rfl,_,rfl,_,rfl,_,⟨_,rfl,rfl⟩,_,⟨_,rfl,rfl⟩,_,⟨_,.fE (QC aM) lz,rfl⟩,_,rfl,_,rfl,_,rfl,_,rfl,Q0,?_⟩;refine ⟨_,rfl,⟨⟨_,rfl,rfl⟩,⟨_,rfl,rfl⟩,Q0⟩,_,rfl,?_⟩;cases h;exact ⟨_,rfl,wt Q1 J1 rfl⟩
def aiA {a b c r} (h:EF a b c=some r):Pure prog 209 (k17 a b c) (.t [vi r.1,vi r.2]):=by
 refine pq tok 22 func209 ?_;unfold EF at h;refine sg (sg ?_);have ⟨x1,Ξ,h⟩:=κ h;refine af.call (YB Ξ) lz ?_;refine sq (sg ?_);refine ct h (fun hb h=>?_) fun hb h=>?_
 ·refine sg (rt ?_);cases h;exact (Fz.t fq)
 refine sk (sg ?_);have ⟨x2,au,h⟩:=κ h;refine ⟨_,bK au,_,bL au,_,rfl,?_⟩;refine rt ?_;cases h;exact (Fz.t fq)
def QF {d e f g i j k l o t u w z A B C D E F G I J K} {q:Int⊕(oT)} (h:yp d e f g i j k l o t u w z A B C D E F G I J K=some q):fP prog bh 127 [.b 1000 0] ⟨aF,[(1000,.box (cP d e f g i j k l o t u w z A B C D E F G I J K))]⟩ (fun x s=>∃y:oT,q=.inr y∧x=(.a (k8 y.1 y.2.1 y.2.2.1 y.2.2.2.1 y.2.2.2.2.1 y.2.2.2.2.2))∧s.H=[(1000,.box (cP d e f g i j k l o t u w z A B C D E F G I J K))]) fun m s=>q=.inl m∧s.H=[]:=by
 refine px tok 36 func127 ?_;unfold yp at h;refine sg (sq (dw 21 tok mixed ?_));have ⟨x1,Ξ,h⟩:=κ h;refine ⟨_,rfl,_,rfl,_,rfl,_,rfl,_,⟨_,rfl,rfl⟩,_,rfl,_,rfl,_,rfl,_,rfl,_,⟨_,rfl,rfl⟩,_,rfl,_,rfl,_,rfl,_,rfl,_,⟨_,rfl,rfl⟩,_,⟨_,.fE (aiA Ξ) lz,rfl⟩,_,rfl,_,rfl,_,rfl,_,rfl,_,rfl,Q0,?_⟩;refine sq (Ok.cV bh tok ?_);have ⟨x2,au,h⟩:=κ h;refine θ (bY (cx [] [] (ku au) nq Q0 (fun e1 bD=>?_) (fun y1 cY=>?_)))
 ·have h:=cw h bD;cases h;exact ⟨_,rfl,rfl⟩
 have h:=cy h cY;refine sq (Ok.cV bh tok ?_);have ⟨x3,aM,h⟩:=κ h;refine θ (θ (θ (θ (θ (⟨_,rfl,θ ?_⟩)))));refine bY (cx [] [] (pR aM) nq Q0 (fun e2 dS=>?_) (fun y2 eu=>?_))
 ·have h:=cw h dS;cases h;exact ⟨_,rfl,rfl⟩
 have h:=cy h eu;refine sg ?_;have ⟨x4,bw,h⟩:=κ h;refine cg [(1000,1000)] [] (YL bw) (.cons (Ln.b rfl) nq) ⟨⟨1000,_,rfl,rfl,.box nq⟩,Q0⟩ ?_;refine ⟨_,rfl,?_⟩;refine rt ?_;cases h;exact ⟨_,rfl,_,rfl,wt Q1 J1 rfl⟩
def YP {a r} (h:x_ a=some r):iZ prog 128 [.s (mU a)] 5 1 (mU r):=by
 refine pv tok 8 func128 ?_;unfold x_ at h;refine sg (sq (sg ?_));intro b1 cO;have h:=xS h b1 (fun e=>Df.1 (cO e));refine ct h (fun hb h=>?_) fun hb h=>?_
 ·refine sg (rt ?_);cases h;exact (.inl ⟨rfl,rfl⟩)
 refine sk (sg ?_);have ⟨ax,h⟩:=aG h;refine bY ⟨hZ (f:=dZ) (n:=1) (fun _=>rfl) a,iy (f:=dZ) (l:=([]:List UInt8)) (l':=a) ax,_,(fu (f:=dZ) (l₁:=([]:List UInt8)) (l₂:=a)).symm,?_⟩;refine rt ?_;cases h;exact (.inr ⟨_,rfl,rfl⟩)
def Yk {a r} (h:x_ a=some r):Pure prog 128 [.s (mU a)] (.s (mU r)):=(YP h).pure
def ajR {e g i j k l o u w z A B C D a d E F G I J L N} {q:Int⊕(Int×(List UInt8))} (h:D3 e g i j k l o u w z A B C D a d E F G I J L N=some q):fP prog bh 71 [.b 1000 0] ⟨aF,[(1000,.box (cP e g i j k l o u w z A B C D a d E F G I J L N))]⟩ (fun x s=>∃y:Int×(List UInt8),q=.inr y∧x=(.t [])∧s.H=[(1000,.box (k18 e g i j k l o u w z A B C D a d E F 0 y.1 0 0 0 y.2))]) fun m s=>q=.inl m∧s.H=[]:=by
 refine px tok 50 func71 ?_;unfold D3 at h;refine sq (Ok.cV bh tok ?_);have ⟨x1,Ξ,h⟩:=κ h;refine θ (bY (cx [(1000,1000)] [] (QF Ξ) (.cons (Ln.b rfl) .nil) ⟨⟨1000,_,rfl,rfl,.box nq⟩,Q0⟩ (fun e1 bD=>?_) (fun y1 cY=>?_)))
 ·have h:=cw h bD;cases h;exact ⟨_,rfl,rfl⟩
 have h:=cy h cY;refine θ (θ (⟨_,rfl,?_⟩));refine Ok.fg (fun v1=>⟨ar [(0,.b 1000 0),(2,.b 2 0)],[(1000,.box (cP e g i j k l o u w z A B C D a d E F G I J L N)),(2,.box (k8 y1.1 y1.2.1 y1.2.2.1 y1.2.2.2.1 y1.2.2.2.2.1 y1.2.2.2.2.2))]⟩) (fun v1=>Ih a y1 d v1=some q) ?_ ?_
 ·refine Ok.cV bh tok (θ (θ (θ (θ (θ (⟨_,rfl,θ (θ ?_)⟩))))));have ⟨c1,Δ,h⟩:=κ h;refine Br.ite Δ (fun hb Δ=>?_) fun hb Δ=>?_
  ·refine θ (θ (θ (θ (θ (⟨_,rfl,θ ?_⟩)))));cases Δ;refine θ ?_;have ⟨x2,au,h⟩:=κ h;refine bY (cx [] [] (pR au) nq Q0 (fun e2 dS=>?_) (fun y2 eu=>?_))
   ·have h:=cw h dS;cases h;exact ⟨_,rfl,rfl⟩
   have h:=cy h eu;exact ⟨_,h,wt Q2 ⟨hr,hr,Q0⟩ rfl⟩
  cases Δ;refine θ ?_;have ⟨x2,au,h⟩:=κ h;refine bY (cx [] [] (pR au) nq Q0 (fun e2 dS=>?_) (fun y2 eu=>?_))
  ·have h:=cw h dS;cases h;exact ⟨_,rfl,rfl⟩
  have h:=cy h eu;exact ⟨_,h,wt Q2 ⟨hr,hr,Q0⟩ rfl⟩
 intro v1 h;unfold Ih at h;refine sq (dw 13 tok mixed ?_);have ⟨ax,h⟩:=aG h;refine ⟨_,rfl,_,⟨_,rfl,rfl⟩,_,rfl,_,rfl,_,rfl,_,rfl,_,⟨_,rfl,rfl⟩,_,rfl,_,⟨_,rfl,rfl⟩,_,⟨_,az _,fun _=>rfl⟩,_,⟨(min a (y1.2.2.2.1.length:Int)),rfl,rfl⟩,_,⟨_,lf ax.1,w_ ax,Nat.le_refl _,w7 (f:=dZ) (K:=1) (fun _=>rfl) y1.2.2.2.1,_,PM _ _ _,rfl⟩,_,rfl,Q0,?_⟩;refine dw 17 tok mixed ?_;have ⟨bt,h⟩:=aG h;have ⟨x3,aM,h⟩:=κ h;refine ⟨_,rfl,_,rfl,_,⟨_,rfl,rfl⟩,_,rfl,_,rfl,_,rfl,_,rfl,_,rfl,_,⟨_,rfl,rfl⟩,_,rfl,_,⟨_,az _,fun _=>rfl⟩,_,⟨(min d ((y1.2.2.2.1.drop (min a (y1.2.2.2.1.length:Int)).toNat).length:Int)),rfl,rfl⟩,_,⟨_,lf bt.1,Nat.zero_le _,w_ bt,w7 (f:=dZ) (K:=1) (fun _=>rfl) (y1.2.2.2.1.drop (min a (y1.2.2.2.1.length:Int)).toNat),_,Km _ _ _,rfl⟩,_,⟨_,.fE (Yk aM) lz,rfl⟩,_,rfl,_,rfl,_,rfl,Q0,_,rfl,?_⟩;cases h;exact ⟨_,rfl,wt Q1 J1 rfl⟩
end Go.Proofs
