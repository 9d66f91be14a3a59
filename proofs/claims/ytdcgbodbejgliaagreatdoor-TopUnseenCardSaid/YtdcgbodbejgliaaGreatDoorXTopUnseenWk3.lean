/- The walks of this seat beside the plain programs, part 3. No condition. -/
import Derived.Test.YtdcgbodbejgliaaGreatDoorXTopUnseenHb
import Derived.Test.YtdcgbodbejgliaaGreatDoorXTopUnseenWk0
import Derived.Test.YtdcgbodbejgliaaGreatDoorXTopUnseenWk1
import Derived.Test.YtdcgbodbejgliaaGreatDoorXTopUnseenWk2
open List renaming length_map → ay
open Or renaming inl → θ, inr → bX
namespace Go.Proofs
set_option linter.all false
open Go Go.Cat Tryz
variable [M:bK]
set_option maxRecDepth 100000
set_option maxHeartbeats 4000000
def ajC [oV] {C D F G I J K L a N d e f g i j k l u B w z A} {q:Int⊕(n_)} (h:DM C D F G I J K L a N d e f g i j k l u B w z A=some q):fL prog bg 64 [.b 1000 0] ⟨aF,[(1000,.box (cP C D F G I J K L a N d e f g i j k l u B w z A))]⟩ (fun x s=>∃y:n_,q=.inr y∧x=(.t [])∧s.H=[(1000,.box [.s (mI y.1),vi y.2.1,vi y.2.2.1,vi y.2.2.2.1,.s (mB y.2.2.2.2.1),.s (mC y.2.2.2.2.2.1),.s (mA y.2.2.2.2.2.2.1),vi y.2.2.2.2.2.2.2.1,.s (mE a),.o 999,vi d,vi e,vs f,vs g,vi i,vi j,vi k,.s (mU l),vi u,vi y.2.2.2.2.2.2.2.2.1,vi w,vi z,vi A,zs,zs]),(999,.own 86 3 (mD y.2.2.2.2.2.2.2.2.2))]) fun m s=>q=.inl m∧s.H=[]:=by
 refine px tok 54 func64 ?_;unfold DM at h;refine sq (Ok.cW bg tok ?_);have ⟨x1,Ξ,h⟩:=κ h;refine θ (θ (θ (θ (θ (θ (⟨_,rfl,?_⟩))))));refine bX (cx [(1000,1000)] [] (Ad Ξ) (.cons (Ln.b rfl) nq) ⟨⟨1000,_,rfl,rfl,.box nq⟩,Q0⟩ (fun e1 bE=>?_) (fun y1 cZ=>?_))
 ·have h:=cw h bE;cases h;exact ⟨_,rfl,rfl⟩
 have h:=cy h cZ;refine θ (θ (⟨_,rfl,?_⟩));refine sq (Ok.cW bg tok ?_);have ⟨x2,au,h⟩:=κ h;refine θ (θ (θ (θ (θ (θ (⟨_,rfl,?_⟩))))));refine bX (cx [(1000,1000)] [] (Gn au) (.cons (Ln.b rfl) nq) ⟨⟨1000,_,rfl,rfl,.box nq⟩,Q0⟩ (fun e2 dR=>?_) (fun y2 et=>?_))
 ·have h:=cw h dR;cases h;exact ⟨_,rfl,rfl⟩
 have h:=cy h et;refine θ (θ (θ (θ (θ ?_))));refine sq (Ok.p4 (m:=15) (late:=[13]) (MD:=⟨[]⟩) (CH:=⟨[]⟩) tok mixed (by kernel_rfl) ?_);have ⟨x3,aL,h⟩:=κ h;refine ⟨_,rfl,_,rfl,_,rfl,_,rfl,_,rfl,_,⟨_,rfl,rfl⟩,_,rfl,_,⟨_,rfl,rfl⟩,_,rfl,_,rfl,_,⟨_,.fk (ajn aL) lz,rfl⟩,_,rfl,_,rfl,_,rfl,Q0,?_⟩;refine ⟨_,rfl,⟨⟨_,rfl,rfl⟩,Q0⟩,?_⟩;refine sq (Ok.cW bg tok ?_);have ⟨x4,bu,h⟩:=κ h;refine θ (bX (cx [] [] (ku bu) nq Q0 (fun e3 jL=>?_) (fun y3 jx=>?_)))
 ·have h:=cw h jL;cases h;exact ⟨_,rfl,rfl⟩
 have h:=cy h jx;refine sq (Ok.nu (E:=bg) (chain:=[(7,[])]) tok mixed (by kernel_rfl) ?_);have ⟨x5,dA,h⟩:=κ h;refine ⟨_,rfl,_,⟨_,rfl,rfl⟩,_,rfl,_,rfl,_,rfl,_,rfl,_,⟨_,rfl,rfl⟩,?_⟩;refine bX (cx [(1000,1000)] [(35,999)] (Ac dA) (.cons (Ln.b rfl) nq) ⟨⟨1000,_,rfl,rfl,.box nq⟩,Q0⟩ (fun e4 j8=>?_) (fun y4 uH=>?_))
 ·have h:=cw h j8;cases h;exact ⟨_,rfl,rfl⟩
 have h:=cy h uH;refine ⟨Q0,?_⟩;refine rg ⟨_,rfl,_,rfl,?_⟩;cases h;exact ⟨_,rfl,wt Q1 J2 rfl⟩
def Qv {f e d r} (h:z7 f e d=some r):af prog 180 [.b 1000 0,vi f,vs e] ⟨aF,[(1000,.box (b5 d))]⟩ fun x s=>x=(.t [])∧s.H=[(1000,.box (k0 r.1 r.2.1 r.2.2))]:=by
 refine pg tok 34 func180 ?_;unfold z7 at h;refine sg ?_;have ⟨x1,Ξ,h⟩:=κ h;refine af.ez (id:=1000) (qt Ξ) rfl (.box lz) rfl (.cons (Lr.b) (.cons (Lr.dG rfl) .nil)) ?_;rintro _ _ ⟨rfl,rfl⟩;refine ⟨_,rfl,?_⟩;refine sg ?_;have ⟨x2,au,h⟩:=κ h;refine ⟨_,rfl,?_⟩;refine af.call (CR au) lz ?_;refine sg (ct h (fun hb h=>?_) fun hb h=>?_)
 ·refine sg ?_;have ⟨x3,aL,h⟩:=κ h;refine ⟨_,rfl,?_⟩;refine af.own (D:=25) (KH aL) lz rfl ?_;have ⟨aw,h⟩:=aG h;have ⟨br,h⟩:=aG h;refine (θ ⟨aw,?_⟩);refine cg [(1000,25)] [(900,25)] (ac1 x3 x2.1 (x2.1+1) br) (.cons (Ln.o rfl) nq) ⟨⟨25,_,rfl,rfl,.refl rfl⟩,Q0⟩ ?_;refine ⟨_,rfl,?_⟩;refine rg ?_;have ⟨x4,bu,h⟩:=κ h;refine ⟨_,rfl,?_⟩;refine cg [(1000,1000),(1001,25)] [(19,999)] (Qw bu) (.cons (Ln.b rfl) (.cons (Ln.a (n4 (.cons (Ln.o rfl) nq))) .nil)) ⟨⟨1000,_,rfl,rfl,.box nq⟩,⟨25,_,rfl,rfl,.refl rfl⟩,Q0⟩ ?_;cases h;exact (Wk.freeze (id:=999) rfl).trans (wt Q1 ⟨⟨_,rfl,.refl _⟩,Q0⟩ rfl)
 refine sk ?_;cases h;exact wt Q1 J1 rfl
def YC {d e r} (h:CJ d e=some r):af prog 181 [.b 1000 0,.a (b4 d)] ⟨aF,[(1000,.box (b5 e))]⟩ fun x s=>x=(.t [])∧s.H=[(1000,.box (k0 r.1 r.2.1 r.2.2))]:=by
 refine pg tok 18 func181 ?_;unfold CJ at h;refine sg (sq (sg ?_));refine ⟨_,rfl,?_⟩;refine ct h (fun hb h=>?_) fun hb h=>?_
 ·refine sg ?_;have ⟨x1,Ξ,h⟩:=κ h;refine ⟨_,rfl,?_⟩;refine cg [(1000,1000)] [] (YA Ξ) (.cons (Ln.b rfl) nq) ⟨⟨1000,_,rfl,rfl,.box nq⟩,Q0⟩ ?_;refine rt ?_;cases h;exact wt Q1 J1 rfl
 refine sk (sg ?_);have ⟨aw,h⟩:=aG h;refine ⟨_,rfl,θ ⟨aw,_,rfl,?_⟩⟩;refine rg ?_;have ⟨x2,au,h⟩:=κ h;refine ⟨_,rfl,?_⟩;refine cg [(1000,1000)] [(19,999)] (Gq au) (.cons (Ln.b rfl) nq) ⟨⟨1000,_,rfl,rfl,.box nq⟩,Q0⟩ ?_;cases h;exact (Wk.freeze (id:=999) rfl).trans (wt Q1 ⟨⟨_,rfl,.refl _⟩,Q0⟩ rfl)
def ajs {c d e r} (h:CB c d e=some r):Pure prog 118 [.a (b0 c),vi d,vs e] (.t [.a (b0 r.1),vi r.2.1,vi r.2.2]):=by
 refine pq tok 51 func118 ?_;unfold CB at h;refine sg (sg ?_);have ⟨x1,Ξ,h⟩:=κ h;refine ⟨_,rfl,?_⟩;refine af.call (KE Ξ) lz ?_;refine sq (sg ?_);refine ct h (fun hb h=>?_) fun hb h=>?_
 ·refine sg ⟨_,rfl,_,rfl,?_⟩;refine rt ?_;cases h;exact ⟨_,rfl,Fz.t fq⟩
 refine sk (sg ?_);refine ⟨_,rfl,?_⟩;refine sg ?_;have ⟨x2,au,h⟩:=κ h;refine af.ez (id:=27) (qt au) rfl (.box lz) rfl (.cons (Lr.b) (.cons (Lr.dG rfl) .nil)) ?_;rintro _ _ ⟨rfl,rfl⟩;refine ⟨_,rfl,?_⟩;refine sq (sg ?_);refine ⟨_,rfl,_,ay _,fun _=>?_⟩;refine ct h (fun hb h=>?_) fun hb h=>?_
 ·refine sg ⟨_,rfl,_,rfl,?_⟩;refine rt ?_;cases h;exact ⟨_,rfl,Fz.t fq⟩
 refine sk (sg ?_);have ⟨x3,aL,h⟩:=κ h;refine cg [(1000,27)] [] (Qv aL) (.cons (Ln.b rfl) nq) ⟨⟨27,_,rfl,rfl,.box nq⟩,Q0⟩ ?_;refine sg ?_;have ⟨x4,bu,h⟩:=κ h;refine ⟨_,rfl,?_⟩;refine cg [(1000,27)] [] (YC bu) (.cons (Ln.b rfl) nq) ⟨⟨27,_,rfl,rfl,.box nq⟩,Q0⟩ ?_;refine sg ⟨_,rfl,_,rfl,?_⟩;refine rt ?_;cases h;exact ⟨_,rfl,Fz.t fq⟩
def ajM [oV] {C D F G I J K L a N d e f g i j k l u B w z A} {q:Int⊕(n_)} (h:DX C D F G I J K L a N d e f g i j k l u B w z A=some q):fL prog bg 65 [.b 1000 0] ⟨aF,[(1000,.box (cP C D F G I J K L a N d e f g i j k l u B w z A))]⟩ (fun x s=>∃y:n_,q=.inr y∧x=(.t [])∧s.H=[(1000,.box [.s (mI y.1),vi y.2.1,vi y.2.2.1,vi y.2.2.2.1,.s (mB y.2.2.2.2.1),.s (mC y.2.2.2.2.2.1),.s (mA y.2.2.2.2.2.2.1),vi y.2.2.2.2.2.2.2.1,.s (mE a),.o 999,vi d,vi e,vs f,vs g,vi i,vi j,vi k,.s (mU l),vi u,vi y.2.2.2.2.2.2.2.2.1,vi w,vi z,vi A,zs,zs]),(999,.own 86 3 (mD y.2.2.2.2.2.2.2.2.2))]) fun m s=>q=.inl m∧s.H=[]:=by
 refine px tok 45 func65 ?_;unfold DX at h;refine sq (Ok.cW bg tok ?_);have ⟨x1,Ξ,h⟩:=κ h;refine θ (θ (θ (θ (θ (θ (⟨_,rfl,?_⟩))))));refine bX (cx [(1000,1000)] [] (Gn Ξ) (.cons (Ln.b rfl) nq) ⟨⟨1000,_,rfl,rfl,.box nq⟩,Q0⟩ (fun e1 bE=>?_) (fun y1 cZ=>?_))
 ·have h:=cw h bE;cases h;exact ⟨_,rfl,rfl⟩
 have h:=cy h cZ;refine θ (θ (θ (θ (θ ?_))));refine sg ?_;have ⟨x2,au,h⟩:=κ h;refine ⟨_,rfl,?_⟩;refine af.call (ajs au) lz ?_;refine ⟨_,rfl,?_⟩;refine sq (Ok.cW bg tok ?_);have ⟨x3,aL,h⟩:=κ h;refine θ (bX (cx [] [] (ku aL) nq Q0 (fun e2 dR=>?_) (fun y2 et=>?_)))
 ·have h:=cw h dR;cases h;exact ⟨_,rfl,rfl⟩
 have h:=cy h et;refine sq (Ok.nu (E:=bg) (chain:=[(7,[])]) tok mixed (by kernel_rfl) ?_);have ⟨x4,bu,h⟩:=κ h;refine ⟨_,rfl,_,⟨_,rfl,rfl⟩,_,rfl,_,rfl,_,rfl,_,rfl,_,⟨_,rfl,rfl⟩,?_⟩;refine bX (cx [(1000,1000)] [(35,999)] (Ac bu) (.cons (Ln.b rfl) nq) ⟨⟨1000,_,rfl,rfl,.box nq⟩,Q0⟩ (fun e3 jL=>?_) (fun y3 jx=>?_))
 ·have h:=cw h jL;cases h;exact ⟨_,rfl,rfl⟩
 have h:=cy h jx;refine ⟨Q0,?_⟩;refine rg ⟨_,rfl,?_⟩;cases h;exact ⟨_,rfl,wt Q1 J2 rfl⟩
def ajf {a b r} (h:FZ a b=some r):Pure prog 242 [.s (mB a),vi b] (vi r):=by
 refine pq tok 19 func242 ?_;unfold FZ at h;refine sg (Ok.eW (fun v1=>⟨ar [],[]⟩) (fun v1=>Ke v1=some r) ?_ ?_)
 ·refine sg ⟨_,ay _,fun _=>?_⟩;refine bl (Ok.loop (fun (s1:Int)=>⟨ar [(0,.s (mB a)),(1,vi b),(7,vi (a.length:Int)),(8,vi s1)],[]⟩) (F6 a b) (s0:=0) h (wt Q4 Q0 rfl) ?_);intro s1 y1 ζ aP;unfold F6 at ζ;refine sg (sq (ct ζ (fun hb ζ=>?_) fun hb ζ=>?_))
  ·refine sk (sq (bl (sg ?_)));refine sg ?_;have ⟨x1,Ξ,ζ⟩:=κ ζ;refine ⟨_,bz Ξ,_,bC Ξ,_,rfl,?_⟩;refine ct ζ (fun hb ζ=>?_) fun hb ζ=>?_
   ·refine sg (rt ?_);have ζ:=bx ζ aP;cases ζ;exact Fz.v
   refine sk (rg ?_);have ⟨aw,ζ⟩:=aG ζ;refine (θ ⟨aw,?_⟩);exact ⟨_,sj ζ,wt Q4 Q0 rfl⟩
  refine xt ?_;have ζ:=bx ζ aP;exact ⟨_,ζ,wt Q0 Q0 rfl⟩
 intro v1 h;unfold Ke at h;refine sg (rt ?_);cases h;exact Fz.v
def Yn {a b r} (h:Cj a b=some r):Pure prog 186 [.s (mB a),vi b] (vb r):=by
 refine pq tok 9 func186 ?_;unfold Cj at h;refine sg (sg ?_);have ⟨x1,Ξ,h⟩:=κ h;refine af.call (ajf Ξ) lz ?_;refine rt ?_;cases h;exact Fz.v
def aju {d c r} (h:Gk d c=some r):Pure prog 187 [.a (b4 d),.a (b4 c)] (vi r):=by
 refine pq tok 28 func187 ?_;unfold Gk at h;refine sg (sq (bl ?_));have ⟨v1,ν,h⟩:=κ h;refine Ok.bh ⟨ar [(2,.b 2 0),(3,.b 3 0),(5,vb v1)],[(2,.box (b4 d)),(3,.box (b4 c))]⟩ ?_ ?_
 ·refine rg ⟨_,rfl,?_⟩;have ⟨c1,Δ,ν⟩:=κ ν;refine Br.ite Δ (fun hb Δ=>?_) fun hb Δ=>?_
  ·refine ⟨_,rfl,?_⟩;cases Δ;cases ν;exact wt Q3 J2 rfl
  cases Δ;cases ν;exact wt Q3 J2 rfl
 refine ct h (fun hb h=>?_) fun hb h=>?_
 ·refine sg (rt ?_);cases h;exact Fz.v
 have ⟨v2,ax,h⟩:=κ h;refine Ok.bh ⟨ar [(3,.b 3 0),(14,vb v2)],[(3,.box (b4 c))]⟩ ?_ ?_
 ·refine rg ⟨_,rfl,?_⟩;have ⟨c2,aI,ax⟩:=κ ax;refine Br.ite aI (fun hb aI=>?_) fun hb aI=>?_
  ·refine ⟨_,rfl,?_⟩;cases aI;cases ax;exact wt Q2 J1 rfl
  cases aI;cases ax;exact wt Q2 J1 rfl
 refine ct h (fun hb h=>?_) fun hb h=>?_
 ·refine sg (rt ?_);cases h;exact Fz.v
 refine sg ⟨_,rfl,_,ay _,fun _=>?_⟩;refine ct h (fun hb h=>?_) fun hb h=>?_
 ·refine sg (rt ?_);cases h;exact Fz.v
 refine sk (sg ?_);refine rt ?_;cases h;exact Fz.v
def aj1 {d e f g i r} (h:CD d e f g i=some r):af prog 244 [.a (b4 d),.b 1000 0,.b 1002 0,.b 1003 0,.b 1004 0] ⟨aF,[(1000,.box [.b 1001 0]),(1001,.box (b5 e)),(1002,.box [vi f]),(1003,.box [vi g]),(1004,.box [vi i])]⟩ fun x s=>x=(vb r.1)∧s.H=[(1000,.box [.b 1001 0]),(1001,.box (k0 r.2.1 r.2.2.1 r.2.2.2)),(1002,.box [vi f]),(1003,.box [vi g]),(1004,.box [vi i])]:=by
 refine pg tok 40 func244 ?_;unfold CD at h;refine sg (sq (sg ?_));refine ⟨_,rfl,?_⟩;refine ct h (fun hb h=>?_) fun hb h=>?_
 ·refine sg (rt ?_);cases h;exact wt Q1 ⟨hr,J4⟩ rfl
 refine sk (sg ?_);have ⟨x1,Ξ,h⟩:=κ h;refine ⟨_,rfl,_,rfl,?_⟩;refine af.ez (id:=1001) (Qt Ξ) rfl (.box lz) rfl (.cons (Lr.b) (.cons (Lr.dG rfl) .nil)) ?_;rintro _ _ ⟨rfl,rfl⟩;refine sg ?_;have ⟨aw,h⟩:=aG h;have ⟨br,h⟩:=aG h;have ⟨eo,h⟩:=aG h;refine ⟨_,rfl,_,ay _,fun _=>(θ ⟨aw,θ ⟨br,_,rfl,θ ⟨eo,?_⟩⟩⟩)⟩;have ⟨v1,ν,h⟩:=κ h;refine Ok.bh ⟨ar [(6,vb v1)],[(1000,.box [.b 1001 0]),(1001,.box (b5 x1.2)),(1002,.box [vi f]),(1003,.box [vi g]),(1004,.box [vi i])]⟩ ?_ ?_
 ·refine rg ?_;have ⟨x2,au,ν⟩:=κ ν;refine ⟨_,rfl,?_⟩;refine af.call (Yn au) lz ?_;have ⟨c3,Δ,ν⟩:=κ ν;refine Br.ite Δ (fun hb Δ=>?_) fun hb Δ=>?_
  ·have ⟨c2,aI,Δ⟩:=κ Δ;refine Br.dV aI (fun hb aI=>?_) fun hb aI=>?_
   ·cases aI;cases Δ;cases ν;exact wt Q1 ⟨hr,J4⟩ rfl
   have ⟨c1,aX,aI⟩:=κ aI;refine Br.ite aX (fun hb aX=>?_) fun hb aX=>?_
   ·refine ⟨_,rfl,_,ay _,fun _=>?_⟩;cases aX;cases aI;cases Δ;cases ν;exact wt Q1 ⟨hr,J4⟩ rfl
   cases aX;cases aI;cases Δ;cases ν;exact wt Q1 ⟨hr,J4⟩ rfl
  cases Δ;cases ν;exact wt Q1 ⟨hr,J4⟩ rfl
 refine rt ?_;cases h;exact wt Q1 ⟨hr,J4⟩ rfl
def aj0 {a d e f g r} (h:Kb a d e f g=some r):af prog 279 [.s (mI a),.c (.func 244) [] [.b 1000 0,.b 1002 0,.b 1003 0,.b 1004 0]] ⟨aF,[(1000,.box [.b 1001 0]),(1001,.box (b5 d)),(1002,.box [vi e]),(1003,.box [vi f]),(1004,.box [vi g])]⟩ fun x s=>x=(vi r.1)∧s.H=[(1000,.box [.b 1001 0]),(1001,.box (k0 r.2.1 r.2.2.1 r.2.2.2)),(1002,.box [vi e]),(1003,.box [vi f]),(1004,.box [vi g])]:=by
 refine pg tok 19 func279 ?_;unfold Kb at h;refine sg (Ok.eW (fun v1=>⟨ar [],[(1000,.box [.b 1001 0]),(1001,.box (k0 v1.1 v1.2.1 v1.2.2)),(1002,.box [vi e]),(1003,.box [vi f]),(1004,.box [vi g])]⟩) (fun v1=>Kc v1=some r) ?_ ?_)
 ·refine sg ⟨_,ay _,fun _=>?_⟩;refine bl (Ok.loop (fun (s1:Int×fT)=>⟨ar [(0,.s (mI a)),(1,.c (.func 244) [] [.b 1000 0,.b 1002 0,.b 1003 0,.b 1004 0]),(7,vi (a.length:Int)),(8,vi s1.1)],[(1000,.box [.b 1001 0]),(1001,.box (k0 s1.2.1 s1.2.2.1 s1.2.2.2)),(1002,.box [vi e]),(1003,.box [vi f]),(1004,.box [vi g])]⟩) (Cl a e f g) (s0:=(0,d.Tree.η,d.Tree.Next,d.Tree.aj)) h (wt Q4 ⟨⟨_,rfl,.refl _⟩,⟨_,rfl,.refl _⟩,⟨_,rfl,.refl _⟩,⟨_,rfl,.refl _⟩,⟨_,rfl,.refl _⟩,Q0⟩ rfl) ?_);intro s1 y1 ζ aP;unfold Cl at ζ;refine sg (sq (ct ζ (fun hb ζ=>?_) fun hb ζ=>?_))
  ·refine sk (sq (bl (sg ?_)));refine sg ?_;have ⟨x1,Ξ,ζ⟩:=κ ζ;have ⟨x2,au,ζ⟩:=κ ζ;refine ⟨_,bz Ξ,_,bC Ξ,_,rfl,?_⟩;refine cg [(1000,1000),(1001,1001),(1002,1002),(1003,1003),(1004,1004)] [] (aj1 au) (n1 (.cons (Ln.b rfl) (.cons (Ln.b rfl) (.cons (Ln.b rfl) (.cons (Ln.b rfl) .nil))))) ⟨⟨1000,_,rfl,rfl,.box (.cons (Ln.b rfl) .nil)⟩,⟨1001,_,rfl,rfl,.box nq⟩,⟨1002,_,rfl,rfl,.box nq⟩,⟨1003,_,rfl,rfl,.box nq⟩,⟨1004,_,rfl,rfl,.box nq⟩,Q0⟩ ?_;refine ct ζ (fun hb ζ=>?_) fun hb ζ=>?_
   ·refine sg (rt ?_);have ζ:=bx ζ aP;cases ζ;exact wt Q1 ⟨hr,J4⟩ rfl
   refine sk (rg ?_);have ⟨aw,ζ⟩:=aG ζ;refine (θ ⟨aw,?_⟩);exact ⟨_,sj ζ,wt Q4 ⟨hr,J4⟩ rfl⟩
  refine xt ?_;have ζ:=bx ζ aP;exact ⟨_,ζ,wt Q0 ⟨⟨_,rfl,.refl _⟩,⟨_,rfl,.refl _⟩,⟨_,rfl,.refl _⟩,⟨_,rfl,.refl _⟩,⟨_,rfl,.refl _⟩,Q0⟩ rfl⟩
 intro v1 h;unfold Kc at h;refine sg (rt ?_);cases h;exact wt Q1 ⟨hr,J4⟩ rfl
def ajX {g a d e f r} (h:J8 g a d e f=some r):af prog 243 [.s (mI g),.c (.func 244) [] [.b 1000 0,.b 1002 0,.b 1003 0,.b 1004 0]] ⟨aF,[(1000,.box [.b 1001 0]),(1001,.box (b5 a)),(1002,.box [vi d]),(1003,.box [vi e]),(1004,.box [vi f])]⟩ fun x s=>x=(vb r.1)∧s.H=[(1000,.box [.b 1001 0]),(1001,.box (k0 r.2.1 r.2.2.1 r.2.2.2)),(1002,.box [vi d]),(1003,.box [vi e]),(1004,.box [vi f])]:=by
 refine pg tok 9 func243 ?_;unfold J8 at h;refine sg (sg ?_);have ⟨x1,Ξ,h⟩:=κ h;refine cg [(1000,1000),(1001,1001),(1002,1002),(1003,1003),(1004,1004)] [] (aj0 Ξ) (n1 (.cons (Ln.c .nil (.cons (Ln.b rfl) (.cons (Ln.b rfl) (.cons (Ln.b rfl) (.cons (Ln.b rfl) .nil))))) .nil)) ⟨⟨1000,_,rfl,rfl,.box (.cons (Ln.b rfl) .nil)⟩,⟨1001,_,rfl,rfl,.box nq⟩,⟨1002,_,rfl,rfl,.box nq⟩,⟨1003,_,rfl,rfl,.box nq⟩,⟨1004,_,rfl,rfl,.box nq⟩,Q0⟩ ?_;refine rt ?_;cases h;exact wt Q1 ⟨hr,J4⟩ rfl
def ajt {self a d r} (h:Gh self a d=some r):mr prog 188 [.b 1000 0,vi a,vi d] (.box (b5 self)) (fun x c=>x=(vb r.1)∧c=.box (b5 r.2)):=by
 refine qk (n:=18) (c:=f188.body.getD .skip) tok func188 (by kernel_rfl) rfl rfl nb ?_;unfold Gh at h;refine sg (sg ?_);have ⟨x1,Ξ,h⟩:=κ h;refine ⟨_,rfl,_,rfl,?_⟩;refine af.ez (id:=1000) (Yw Ξ) rfl (.box lz) rfl (.cons (Lr.b) (.cons (Lr.dG rfl) .nil)) ?_;rintro _ _ ⟨rfl,rfl⟩;refine ⟨_,rfl,?_⟩;refine sg ?_;have ⟨x2,au,h⟩:=κ h;refine ⟨_,rfl,_,rfl,?_⟩;refine cg [(1000,3),(1001,1000),(1002,5),(1003,7),(1004,4)] [] (ajX au) (n1 (.cons (Ln.c .nil (.cons (Ln.b rfl) (.cons (Ln.b rfl) (.cons (Ln.b rfl) (.cons (Ln.b rfl) .nil))))) .nil)) ⟨⟨3,_,rfl,rfl,.box (.cons (Ln.b rfl) .nil)⟩,⟨1000,_,rfl,rfl,.box nq⟩,⟨5,_,rfl,rfl,.box nq⟩,⟨7,_,rfl,rfl,.box nq⟩,⟨4,_,rfl,rfl,.box nq⟩,Q0⟩ ?_;refine rt ?_;cases h;exact ⟨_,_,⟨rfl,rfl⟩,rfl,rfl,Fz.v⟩
def aj2 {g d e f r} (h:Gj g d e f=some r):af prog 168 [.b 1000 0,vi g,vs d,vi e] ⟨aF,[(1000,.box (b5 f))]⟩ fun x s=>x=(.t [])∧s.H=[(1000,.box [.o 999,vi r.1,vi r.2.1]),(999,.own 44 6 (mI r.2.2))]:=by
 refine pg tok 51 func168 ?_;unfold Gj at h;refine sg ?_;have ⟨x1,Ξ,h⟩:=κ h;refine af.ez (id:=1000) (qt Ξ) rfl (.box lz) rfl (.cons (Lr.b) (.cons (Lr.dG rfl) .nil)) ?_;rintro _ _ ⟨rfl,rfl⟩;refine ⟨_,rfl,?_⟩;refine sg ?_;have ⟨x2,au,h⟩:=κ h;refine ⟨_,rfl,?_⟩;refine af.call (CR au) lz ?_;refine sq (Ok.nu (E:=bg) (chain:=[(2,[3,4,5,6,7,8,9,10,11,12,14]),(13,[14]),(15,[])]) tok mixed (by kernel_rfl) ?_);have ⟨x3,aL,h⟩:=κ h;refine ⟨_,rfl,_,⟨_,rfl,rfl⟩,_,rfl,_,rfl,_,rfl,_,rfl,_,rfl,_,rfl,_,rfl,_,⟨_,rfl,rfl⟩,_,rfl,_,rfl,_,rfl,?_⟩;refine θ (af.own (D:=26) (KH aL) lz rfl ?_);have ⟨aw,h⟩:=aG h;refine ⟨⟨⟨_,rfl,rfl⟩,⟨_,rfl,rfl⟩,⟨_,rfl,rfl⟩,⟨_,rfl,rfl⟩,⟨_,rfl,rfl⟩,⟨_,rfl,rfl⟩,⟨_,rfl,rfl⟩,⟨_,rfl,_,rfl,rfl⟩,⟨_,rfl,rfl⟩,⟨_,rfl,rfl⟩,⟨_,rfl,rfl⟩,Q0⟩,?_⟩;refine θ (cg [(1000,26)] [(900,26)] (UY x3 x2.1 ([(⟨d,e,x1.2.Tree.aj⟩:aN)]) aw) (.cons (Ln.o rfl) nq) ⟨⟨26,_,rfl,rfl,.refl rfl⟩,Q0⟩ ?_);refine ⟨⟨⟨_,rfl,rfl⟩,Q0⟩,θ (⟨_,rfl,Q0,?_⟩)⟩;refine sg ?_;have ⟨br,h⟩:=aG h;refine ⟨_,rfl,θ ⟨br,_,rfl,?_⟩⟩;refine rg ?_;have ⟨x4,bu,h⟩:=κ h;refine ⟨_,rfl,?_⟩;refine cg [(1000,1000),(1001,26)] [(19,999)] (Qw bu) (.cons (Ln.b rfl) (.cons (Ln.a (n4 (.cons (Ln.o rfl) nq))) .nil)) ⟨⟨1000,_,rfl,rfl,.box nq⟩,⟨26,_,rfl,rfl,.refl rfl⟩,Q0⟩ ?_;cases h;exact wt Q1 J2 rfl
def ajo {c f g d e r} (h:Cz c f g d e=some r):Pure prog 120 [.a (b0 c),vi f,vs g,vi d,vs e] (.t [.a (b0 r.1),vi r.2.1,vi r.2.2]):=by
 refine pq tok 173 func120 ?_;unfold Cz at h;refine sg (sg ?_);have ⟨x1,Ξ,h⟩:=κ h;refine ⟨_,rfl,?_⟩;refine af.call (KE Ξ) lz ?_;refine sq (sg ?_);refine ct h (fun hb h=>?_) fun hb h=>?_
 ·refine sg ⟨_,rfl,_,rfl,?_⟩;refine rt ?_;cases h;exact ⟨_,rfl,Fz.t fq⟩
 refine sk (sg ?_);refine ⟨_,rfl,?_⟩;refine sg ?_;have ⟨x2,au,h⟩:=κ h;refine af.ez (id:=38) (KG au) rfl (.box lz) rfl (.cons (Lr.b) (.cons (Lr.dG rfl) .nil)) ?_;rintro _ _ ⟨rfl,rfl⟩;refine ⟨_,rfl,?_⟩;refine sq (sg ?_);refine ct h (fun hb h=>?_) fun hb h=>?_
 ·refine sg ⟨_,rfl,_,rfl,?_⟩;refine rt ?_;cases h;exact ⟨_,rfl,Fz.t fq⟩
 refine sk (sq (sg ?_));have ⟨x3,aL,h⟩:=κ h;refine af.call (KD aL) lz ?_;refine ct h (fun hb h=>?_) fun hb h=>?_
 ·refine sg ⟨_,rfl,_,rfl,?_⟩;refine rt ?_;cases h;exact ⟨_,rfl,Fz.t fq⟩
 refine sk (sg ?_);have ⟨x4,bu,h⟩:=κ h;refine af.ez (id:=38) (qt bu) rfl (.box lz) rfl (.cons (Lr.b) (.cons (Lr.dG rfl) .nil)) ?_;rintro _ _ ⟨rfl,rfl⟩;refine ⟨_,rfl,?_⟩;refine sg (sg ?_);have ⟨x5,dA,h⟩:=κ h;refine ⟨_,rfl,?_⟩;refine af.call (CR dA) lz ?_;have ⟨v1,ν,h⟩:=κ h;refine Ok.bh ⟨ar [(1,vi f),(2,vs g),(3,vi d),(4,vs e),(5,.b 5 0),(10,.b 10 0),(13,vi x1.1),(15,.b 38 0),(16,.b 16 0),(17,.b 17 0),(19,.b 19 0),(21,vb x5.2)],[(5,.box (b0 c)),(10,.box (k1 0 0)),(38,.box (k0 v1.1 v1.2.1 v1.2.2.1)),(16,.box (b4 x2.1.1)),(17,.box (b4 x4.1.1)),(19,.box (k8 v1.2.2.2.1 v1.2.2.2.2.1 v1.2.2.2.2.2.1 v1.2.2.2.2.2.2.1 v1.2.2.2.2.2.2.2.1 v1.2.2.2.2.2.2.2.2))]⟩ ?_ ?_
 ·refine sg (ct ν (fun hb ν=>?_) fun hb ν=>?_)
  ·refine rg ?_;have ⟨x6,gW,ν⟩:=κ ν;have ⟨x7,gn,ν⟩:=κ ν;refine ⟨_,rfl,_,bz gW,_,bC gW,_,rfl,?_⟩;refine af.ez (id:=38) (qt gn) rfl (.box lz) rfl (.cons (Lr.b) (.cons (Lr.dG rfl) .nil)) ?_;rintro _ _ ⟨rfl,rfl⟩;refine ⟨_,rfl,?_⟩;cases ν;exact wt ⟨lr,lr,lr,lr,Q8⟩ ⟨hr,hr,J4⟩ rfl
  refine sk ?_;cases ν;exact wt ⟨lr,lr,lr,lr,Q8⟩ ⟨hr,hr,hr,hr,hr,⟨_,rfl,.box (l2 (l1 (.cons (Le.nil) (.cons (Le.nil) lz))))⟩,Q0⟩ rfl
 refine sq (sg ?_);refine ⟨_,rfl,?_⟩;refine ct h (fun hb h=>?_) fun hb h=>?_
 ·refine sg ⟨_,rfl,_,rfl,?_⟩;refine rt ?_;cases h;exact ⟨_,rfl,Fz.t fq⟩
 refine sk (sg ?_);have ⟨x8,jS,h⟩:=κ h;refine af.ez (id:=38) (Qt jS) rfl (.box lz) rfl (.cons (Lr.b) (.cons (Lr.dG rfl) .nil)) ?_;rintro _ _ ⟨rfl,rfl⟩;refine sq ?_;have ⟨v2,ax,h⟩:=κ h;refine Ok.bh ⟨ar [(1,vi f),(2,vs g),(3,vi d),(4,vs e),(5,.b 5 0),(10,.b 10 0),(13,vi x1.1),(15,.b 38 0),(16,.b 16 0),(17,.b 17 0),(19,.b 19 0),(21,vb x5.2),(22,.s (mB x8.1)),(92,vb v2)],[(5,.box (b0 c)),(10,.box (k1 0 0)),(38,.box (b5 x8.2)),(16,.box (b4 x2.1.1)),(17,.box (b4 x4.1.1)),(19,.box (k8 v1.2.2.2.1 v1.2.2.2.2.1 v1.2.2.2.2.2.1 v1.2.2.2.2.2.2.1 v1.2.2.2.2.2.2.2.1 v1.2.2.2.2.2.2.2.2))]⟩ ?_ ?_
 ·refine rg ⟨_,rfl,?_⟩;have ⟨c1,Δ,ax⟩:=κ ax;refine Br.ite Δ (fun hb Δ=>?_) fun hb Δ=>?_
  ·have ⟨x9,j_,Δ⟩:=κ Δ;refine af.call (Yn j_) lz ?_;cases Δ;cases ax;exact wt ⟨lr,lr,lr,lr,lr,lr,Q8⟩ ⟨hr,hr,J4⟩ rfl
  cases Δ;cases ax;exact wt ⟨lr,lr,lr,lr,lr,lr,Q8⟩ ⟨hr,hr,J4⟩ rfl
 refine ct h (fun hb h=>?_) fun hb h=>?_
 ·refine sg ⟨_,rfl,_,rfl,?_⟩;refine rt ?_;cases h;exact ⟨_,rfl,Fz.t fq⟩
 refine sk (Ok.eW (fun v3=>⟨ar [(1,vi f),(2,vs g),(3,vi d),(4,vs e),(5,.b 5 0),(10,.b 10 0),(13,vi x1.1),(15,.b 38 0),(16,.b 16 0),(17,.b 17 0),(19,.b 19 0),(21,vb x5.2),(22,.s (mB x8.1))],[(5,.box (b0 c)),(10,.box (k1 0 0)),(38,.box (b5 x8.2)),(16,.box (b4 x2.1.1)),(17,.box (b4 x4.1.1)),(19,.box (k8 v1.2.2.2.1 v1.2.2.2.2.1 v1.2.2.2.2.2.1 v1.2.2.2.2.2.2.1 v1.2.2.2.2.2.2.2.1 v1.2.2.2.2.2.2.2.2))]⟩) (fun v3=>CA x5 d f x2 x8 x4 x1 c g e v1 v3=some r) ?_ ?_)
 ·refine sg (ct h (fun hb h=>?_) fun hb h=>?_)
  ·refine sg ?_;have ⟨gq,qg,h⟩:=κ h;refine ⟨_,rfl,_,rfl,?_⟩;refine af.call (aju qg) lz ?_;refine sg (ct h (fun hb h=>?_) fun hb h=>?_)
   ·refine sg ⟨_,rfl,_,rfl,?_⟩;refine rt ?_;cases h;exact ⟨_,rfl,Fz.t fq⟩
   refine sk ?_;exact ⟨_,h,wt ⟨lr,lr,lr,lr,lr,Q8⟩ ⟨⟨_,rfl,.refl _⟩,⟨_,rfl,.refl _⟩,⟨_,rfl,.refl _⟩,⟨_,rfl,.refl _⟩,⟨_,rfl,.refl _⟩,⟨_,rfl,.refl _⟩,Q0⟩ rfl⟩
  refine sk ?_;exact ⟨_,h,wt ⟨lr,lr,lr,lr,lr,Q8⟩ ⟨⟨_,rfl,.refl _⟩,⟨_,rfl,.refl _⟩,⟨_,rfl,.refl _⟩,⟨_,rfl,.refl _⟩,⟨_,rfl,.refl _⟩,⟨_,rfl,.refl _⟩,Q0⟩ rfl⟩
 intro v3 h;unfold CA at h;have ⟨v4,fR,h⟩:=κ h;refine Ok.bh ⟨ar [(1,vi f),(2,vs g),(3,vi d),(4,vs e),(5,.b 5 0),(10,.b 10 0),(13,vi x1.1),(15,.b 38 0),(17,.b 17 0),(19,.b 19 0),(21,vb x5.2),(22,.s (mB x8.1)),(24,vb v4)],[(5,.box (b0 c)),(10,.box (k1 0 0)),(38,.box (b5 x8.2)),(17,.box (b4 x4.1.1)),(19,.box (k8 v1.2.2.2.1 v1.2.2.2.2.1 v1.2.2.2.2.2.1 v1.2.2.2.2.2.2.1 v1.2.2.2.2.2.2.2.1 v1.2.2.2.2.2.2.2.2))]⟩ ?_ ?_
 ·refine rg ?_;have ⟨c2,aI,fR⟩:=κ fR;refine Br.ite aI (fun hb aI=>?_) fun hb aI=>?_
  ·cases aI;have ⟨c3,aX,fR⟩:=κ fR;refine Br.ite aX (fun hb aX=>?_) fun hb aX=>?_
   ·refine ⟨_,rfl,_,ay _,fun _=>?_⟩;cases aX;cases fR;exact wt ⟨lr,lr,lr,lr,lr,Q8⟩ ⟨hr,J4⟩ rfl
   cases aX;cases fR;exact wt ⟨lr,lr,lr,lr,lr,Q8⟩ ⟨hr,J4⟩ rfl
  cases aI;have ⟨c3,cU,fR⟩:=κ fR;replace cU:=ed cU;cases cU;cases fR;exact wt ⟨lr,lr,lr,lr,lr,Q8⟩ ⟨hr,J4⟩ rfl
 refine sq ?_;have ⟨v5,dj,h⟩:=κ h;refine Ok.bh ⟨ar [(1,vi f),(2,vs g),(3,vi d),(4,vs e),(5,.b 5 0),(10,.b 10 0),(13,vi x1.1),(15,.b 38 0),(17,.b 17 0),(19,.b 19 0),(21,vb x5.2),(140,vb v5.1)],[(5,.box (b0 c)),(10,.box (k1 0 0)),(38,.box (k0 v5.2.1 v5.2.2.1 v5.2.2.2)),(17,.box (b4 x4.1.1)),(19,.box (k8 v1.2.2.2.1 v1.2.2.2.2.1 v1.2.2.2.2.2.1 v1.2.2.2.2.2.2.1 v1.2.2.2.2.2.2.2.1 v1.2.2.2.2.2.2.2.2))]⟩ ?_ ?_
 ·refine rg ?_;have ⟨c4,db,dj⟩:=κ dj;refine Br.dV db (fun hb db=>?_) fun hb db=>?_
  ·cases db;have ⟨c6,eD,dj⟩:=κ dj;replace eD:=ee eD;cases eD;have ⟨c7,fw,dj⟩:=κ dj;replace fw:=ee fw;cases fw;cases dj;exact wt ⟨lr,lr,lr,lr,Q8⟩ ⟨hr,J4⟩ rfl
  refine ⟨_,ay _,fun _=>?_⟩;cases db;have ⟨c6,fH,dj⟩:=κ dj;refine Br.dV fH (fun hb fH=>?_) fun hb fH=>?_
  ·cases fH;have ⟨c7,gT,dj⟩:=κ dj;replace gT:=ee gT;cases gT;cases dj;exact wt ⟨lr,lr,lr,lr,Q8⟩ ⟨hr,J4⟩ rfl
  refine ⟨_,rfl,?_⟩;have ⟨c5,fu,fH⟩:=κ fH;refine Br.ite fu (fun hb fu=>?_) fun hb fu=>?_
  ·have ⟨iW,nN,fu⟩:=κ fu;refine ⟨_,ay _,fun _=>?_⟩;refine af.ez (id:=38) (ajt nN) rfl (.box lz) rfl (.cons (Lr.b) (.cons (Lr.dG rfl) (.cons (Lr.dG rfl) .nil))) ?_;rintro _ _ ⟨rfl,rfl⟩;cases fu;cases fH;have ⟨c7,iz,dj⟩:=κ dj;refine Br.dV iz (fun hb iz=>?_) fun hb iz=>?_
   ·cases iz;cases dj;exact wt ⟨lr,lr,lr,lr,Q8⟩ ⟨hr,J4⟩ rfl
   refine ⟨_,rfl,?_⟩;cases iz;cases dj;exact wt ⟨lr,lr,lr,lr,Q8⟩ ⟨hr,J4⟩ rfl
  cases fu;cases fH;have ⟨c7,iA,dj⟩:=κ dj;replace iA:=ed iA;refine ⟨_,rfl,?_⟩;cases iA;cases dj;exact wt ⟨lr,lr,lr,lr,Q8⟩ ⟨hr,J4⟩ rfl
 refine ct h (fun hb h=>?_) fun hb h=>?_
 ·refine sg ⟨_,rfl,_,rfl,?_⟩;refine rt ?_;cases h;exact ⟨_,rfl,Fz.t fq⟩
 refine sk (sg ?_);have ⟨ei,oK,h⟩:=κ h;refine cg [(1000,38)] [] (Qv oK) (.cons (Ln.b rfl) nq) ⟨⟨38,_,rfl,rfl,.box nq⟩,Q0⟩ ?_;have ⟨v6,kT,h⟩:=κ h;refine Ok.bh ⟨ar [(3,vi d),(4,vs e),(10,.b 10 0),(13,vi x1.1),(15,.b 38 0),(17,.b 17 0),(19,.b 19 0)],[(10,.box (k1 0 0)),(38,.box (k0 v6.1 v6.2.1 v6.2.2)),(17,.box (b4 x4.1.1)),(19,.box (k8 v1.2.2.2.1 v1.2.2.2.2.1 v1.2.2.2.2.2.1 v1.2.2.2.2.2.2.1 v1.2.2.2.2.2.2.2.1 v1.2.2.2.2.2.2.2.2))]⟩ ?_ ?_
 ·refine sg (ct kT (fun hb kT=>?_) fun hb kT=>?_)
  ·refine sg ?_;have ⟨na,uI,kT⟩:=κ kT;refine cg [(1000,38)] [] (Qv uI) (.cons (Ln.b rfl) nq) ⟨⟨38,_,rfl,rfl,.box nq⟩,Q0⟩ ?_;refine rg ?_;have ⟨nf,sR,kT⟩:=κ kT;refine ⟨_,rfl,?_⟩;refine cg [(1000,38)] [] (YC sR) (.cons (Ln.b rfl) nq) ⟨⟨38,_,rfl,rfl,.box nq⟩,Q0⟩ ?_;cases kT;exact wt Q7 J4 rfl
  refine sk ?_;cases kT;exact wt Q7 J4 rfl
 have ⟨v7,ze,h⟩:=κ h;refine Ok.bh ⟨ar [(3,vi d),(4,vs e),(10,.b 10 0),(13,vi x1.1),(15,.b 38 0),(19,.b 19 0)],[(10,.box (k1 0 0)),(38,.box (k0 v7.1 v7.2.1 v7.2.2)),(19,.box (k8 v1.2.2.2.1 v1.2.2.2.2.1 v1.2.2.2.2.2.1 v1.2.2.2.2.2.2.1 v1.2.2.2.2.2.2.2.1 v1.2.2.2.2.2.2.2.2))]⟩ ?_ ?_
 ·refine sg ⟨_,rfl,?_⟩;refine ct ze (fun hb ze=>?_) fun hb ze=>?_
  ·refine sg ⟨_,rfl,?_⟩;refine rg ?_;have ⟨Ae,NT,ze⟩:=κ ze;refine ⟨_,rfl,?_⟩;refine cg [(1000,38)] [(19,999)] (Gq NT) (.cons (Ln.b rfl) nq) ⟨⟨38,_,rfl,rfl,.box nq⟩,Q0⟩ ?_;cases ze;exact (Wk.freeze (id:=999) rfl).trans (wt Q6 ⟨⟨_,rfl,.refl _⟩,⟨_,rfl,.refl _⟩,⟨_,rfl,.refl _⟩,Q0⟩ rfl)
  refine sk ?_;cases ze;exact wt Q6 J3 rfl
 refine sg ?_;have ⟨Af,NU,h⟩:=κ h;refine cg [(1000,38)] [(999,998)] (aj2 NU) (.cons (Ln.b rfl) nq) ⟨⟨38,_,rfl,rfl,.box nq⟩,Q0⟩ ?_;refine sq (Ok.p4 (m:=6) (late:=[4,5]) (MD:=⟨[]⟩) (CH:=⟨[]⟩) tok mixed (by kernel_rfl) ?_);refine ⟨_,rfl,_,rfl,_,rfl,_,⟨_,rfl,rfl⟩,_,rfl,_,⟨_,rfl,rfl⟩,Q0,?_⟩;refine ⟨_,rfl,⟨⟨_,rfl,rfl⟩,⟨_,rfl,_,rfl,rfl⟩,Q0⟩,?_⟩;refine rt ?_;cases h;exact ⟨_,rfl,Fz.t (.cons (Fz.a (.cons (Fz.o rfl) fq)) fq)⟩
def ajJ [oV] {C D F G I J K L a N d e f g i j k l u B w z A} {q:Int⊕(n_)} (h:DS C D F G I J K L a N d e f g i j k l u B w z A=some q):fL prog bg 66 [.b 1000 0] ⟨aF,[(1000,.box (cP C D F G I J K L a N d e f g i j k l u B w z A))]⟩ (fun x s=>∃y:n_,q=.inr y∧x=(.t [])∧s.H=[(1000,.box [.s (mI y.1),vi y.2.1,vi y.2.2.1,vi y.2.2.2.1,.s (mB y.2.2.2.2.1),.s (mC y.2.2.2.2.2.1),.s (mA y.2.2.2.2.2.2.1),vi y.2.2.2.2.2.2.2.1,.s (mE a),.o 999,vi d,vi e,vs f,vs g,vi i,vi j,vi k,.s (mU l),vi u,vi y.2.2.2.2.2.2.2.2.1,vi w,vi z,vi A,zs,zs]),(999,.own 86 3 (mD y.2.2.2.2.2.2.2.2.2))]) fun m s=>q=.inl m∧s.H=[]:=by
 refine px tok 74 func66 ?_;unfold DS at h;refine sq (Ok.cW bg tok ?_);have ⟨x1,Ξ,h⟩:=κ h;refine θ (θ (θ (θ (θ (θ (⟨_,rfl,?_⟩))))));refine bX (cx [(1000,1000)] [] (Gn Ξ) (.cons (Ln.b rfl) nq) ⟨⟨1000,_,rfl,rfl,.box nq⟩,Q0⟩ (fun e1 bE=>?_) (fun y1 cZ=>?_))
 ·have h:=cw h bE;cases h;exact ⟨_,rfl,rfl⟩
 have h:=cy h cZ;refine θ (θ (θ (θ (θ ?_))));refine sq (Ok.cW bg tok ?_);have ⟨x2,au,h⟩:=κ h;refine θ (θ (θ (θ (θ (θ (⟨_,rfl,?_⟩))))));refine bX (cx [(1000,1000)] [] (Gn au) (.cons (Ln.b rfl) nq) ⟨⟨1000,_,rfl,rfl,.box nq⟩,Q0⟩ (fun e2 dR=>?_) (fun y2 et=>?_))
 ·have h:=cw h dR;cases h;exact ⟨_,rfl,rfl⟩
 have h:=cy h et;refine θ (θ (θ (θ (θ ?_))));refine sg ?_;have ⟨x3,aL,h⟩:=κ h;refine ⟨_,rfl,?_⟩;refine af.call (KE aL) lz ?_;refine sq (Ok.cW bg tok ?_);have ⟨x4,bu,h⟩:=κ h;refine θ (bX (cx [] [] (ku bu) nq Q0 (fun e3 jL=>?_) (fun y3 jx=>?_)))
 ·have h:=cw h jL;cases h;exact ⟨_,rfl,rfl⟩
 have h:=cy h jx;refine sg ?_;have ⟨x5,dA,h⟩:=κ h;refine ⟨_,rfl,?_⟩;refine af.call (ajo dA) lz ?_;refine ⟨_,rfl,?_⟩;refine sq (Ok.cW bg tok ?_);have ⟨x6,gW,h⟩:=κ h;refine θ (bX (cx [] [] (ku gW) nq Q0 (fun e4 j8=>?_) (fun y4 uH=>?_)))
 ·have h:=cw h j8;cases h;exact ⟨_,rfl,rfl⟩
 have h:=cy h uH;refine sq (Ok.nu (E:=bg) (chain:=[(7,[])]) tok mixed (by kernel_rfl) ?_);have ⟨x7,gn,h⟩:=κ h;refine ⟨_,rfl,_,⟨_,rfl,rfl⟩,_,rfl,_,rfl,_,rfl,_,rfl,_,⟨_,rfl,rfl⟩,?_⟩;refine bX (cx [(1000,1000)] [(35,999)] (Ac gn) (.cons (Ln.b rfl) nq) ⟨⟨1000,_,rfl,rfl,.box nq⟩,Q0⟩ (fun e5 MV=>?_) (fun y5 Ez=>?_))
 ·have h:=cw h MV;cases h;exact ⟨_,rfl,rfl⟩
 have h:=cy h Ez;refine ⟨Q0,?_⟩;refine rg ⟨_,rfl,?_⟩;cases h;exact ⟨_,rfl,wt Q1 J2 rfl⟩
def ajk {c d r} (h:P8 c d=some r):Pure prog 191 [.a (b6 c),.p [vi d]] (vb r):=by
 refine pq tok 8 func191 ?_;unfold P8 at h;refine sg (sg ⟨_,rfl,_,rfl,?_⟩);refine rt ?_;cases h;exact Fz.v
end Go.Proofs
