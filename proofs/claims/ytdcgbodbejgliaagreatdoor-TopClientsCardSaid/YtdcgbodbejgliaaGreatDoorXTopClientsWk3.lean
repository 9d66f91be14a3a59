/- The walks of this seat beside the plain programs, part 3. No condition. -/
import Derived.Test.YtdcgbodbejgliaaGreatDoorXTopClientsHb
import Derived.Test.YtdcgbodbejgliaaGreatDoorXTopClientsWk0
import Derived.Test.YtdcgbodbejgliaaGreatDoorXTopClientsWk1
import Derived.Test.YtdcgbodbejgliaaGreatDoorXTopClientsWk2
open List renaming length_map → az
open Or renaming inl → θ, inr → bY
namespace Go.Proofs
set_option linter.all false
open Go Go.Cat Tryz
variable [M:bM]
set_option maxRecDepth 100000
set_option maxHeartbeats 4000000
def ajL [oY] {C D F G I J K L a N d e f g i j k l u B w z A} {q:Int⊕(n_)} (h:DX C D F G I J K L a N d e f g i j k l u B w z A=some q):fP prog bh 64 [.b 1000 0] ⟨aF,[(1000,.box (cP C D F G I J K L a N d e f g i j k l u B w z A))]⟩ (fun x s=>∃y:n_,q=.inr y∧x=(.t [])∧s.H=[(1000,.box [.s (mI y.1),vi y.2.1,vi y.2.2.1,vi y.2.2.2.1,.s (mB y.2.2.2.2.1),.s (mC y.2.2.2.2.2.1),.s (mA y.2.2.2.2.2.2.1),vi y.2.2.2.2.2.2.2.1,.s (mE a),.o 999,vi d,vi e,vs f,vs g,vi i,vi j,vi k,.s (mU l),vi u,vi (t8 y).1,vi w,vi z,vi A,zs,zs]),(999,.own 86 3 (mD (t8 y).2))]) fun m s=>q=.inl m∧s.H=[]:=by
 refine px tok 54 func64 ?_;unfold DX at h;refine sq (Ok.cV bh tok ?_);have ⟨x1,Ξ,h⟩:=κ h;refine θ (θ (θ (θ (θ (θ (⟨_,rfl,?_⟩))))));refine bY (cx [(1000,1000)] [] (Ap Ξ) (.cons (Ln.b rfl) nq) ⟨⟨1000,_,rfl,rfl,.box nq⟩,Q0⟩ (fun e1 bD=>?_) (fun y1 cY=>?_))
 ·have h:=cw h bD;cases h;exact ⟨_,rfl,rfl⟩
 have h:=cy h cY;refine θ (θ (⟨_,rfl,?_⟩));refine sq (Ok.cV bh tok ?_);have ⟨x2,au,h⟩:=κ h;refine θ (θ (θ (θ (θ (θ (⟨_,rfl,?_⟩))))));refine bY (cx [(1000,1000)] [] (GL au) (.cons (Ln.b rfl) nq) ⟨⟨1000,_,rfl,rfl,.box nq⟩,Q0⟩ (fun e2 dS=>?_) (fun y2 eu=>?_))
 ·have h:=cw h dS;cases h;exact ⟨_,rfl,rfl⟩
 have h:=cy h eu;refine θ (θ (θ (θ (θ ?_))));refine sq (Ok.q_ (m:=15) (late:=[13]) (MD:=⟨[]⟩) (CH:=⟨[]⟩) tok mixed (by kernel_rfl) ?_);have ⟨x3,aM,h⟩:=κ h;refine ⟨_,rfl,_,rfl,_,rfl,_,rfl,_,rfl,_,⟨_,rfl,rfl⟩,_,rfl,_,⟨_,rfl,rfl⟩,_,rfl,_,rfl,_,⟨_,.fE (ajw aM) lz,rfl⟩,_,rfl,_,rfl,_,rfl,Q0,?_⟩;refine ⟨_,rfl,⟨⟨_,rfl,rfl⟩,Q0⟩,?_⟩;refine sq (Ok.cV bh tok ?_);have ⟨x4,bw,h⟩:=κ h;refine θ (bY (cx [] [] (ku bw) nq Q0 (fun e3 jP=>?_) (fun y3 jD=>?_)))
 ·have h:=cw h jP;cases h;exact ⟨_,rfl,rfl⟩
 have h:=cy h jD;refine sq (Ok.nu (E:=bh) (chain:=[(7,[])]) tok mixed (by kernel_rfl) ?_);have ⟨x5,dv,h⟩:=κ h;refine ⟨_,rfl,_,⟨_,rfl,rfl⟩,_,rfl,_,rfl,_,rfl,_,rfl,_,⟨_,rfl,rfl⟩,?_⟩;refine bY (cx [(1000,1000)] [(35,999)] (Ao dv) (.cons (Ln.b rfl) nq) ⟨⟨1000,_,rfl,rfl,.box nq⟩,Q0⟩ (fun e4 j_=>?_) (fun y4 uV=>?_))
 ·have h:=cw h j_;cases h;exact ⟨_,rfl,rfl⟩
 have h:=cy h uV;refine ⟨Q0,?_⟩;refine rg ⟨_,rfl,_,rfl,?_⟩;cases h;exact ⟨_,rfl,wt Q1 J2 rfl⟩
def QG {f e d r} (h:Ag f e d=some r):af prog 180 [.b 1000 0,vi f,vs e] ⟨aF,[(1000,.box (b5 d))]⟩ fun x s=>x=(.t [])∧s.H=[(1000,.box (k0 r.1 r.2.1 r.2.2))]:=by
 refine pg tok 34 func180 ?_;unfold Ag at h;refine sg ?_;have ⟨x1,Ξ,h⟩:=κ h;refine af.eB (id:=1000) (qF Ξ) rfl (.box lz) rfl (.cons (Lr.b) (.cons (Lr.dG rfl) .nil)) ?_;rintro _ _ ⟨rfl,rfl⟩;refine ⟨_,rfl,?_⟩;refine sg ?_;have ⟨x2,au,h⟩:=κ h;refine ⟨_,rfl,?_⟩;refine af.call (C4 au) lz ?_;refine sg (ct h (fun hb h=>?_) fun hb h=>?_)
 ·refine sg ?_;have ⟨x3,aM,h⟩:=κ h;refine ⟨_,rfl,?_⟩;refine af.own (D:=25) (KY aM) lz rfl ?_;have ⟨ax,h⟩:=aG h;have ⟨bt,h⟩:=aG h;refine (θ ⟨ax,?_⟩);refine cg [(1000,25)] [(900,25)] (adg x3 x2.1 (x2.1+1) bt) (.cons (Ln.o rfl) nq) ⟨⟨25,_,rfl,rfl,.refl rfl⟩,Q0⟩ ?_;refine ⟨_,rfl,?_⟩;refine rg ?_;have ⟨x4,bw,h⟩:=κ h;refine ⟨_,rfl,?_⟩;refine cg [(1000,1000),(1001,25)] [(19,999)] (QH bw) (.cons (Ln.b rfl) (.cons (Ln.a (n4 (.cons (Ln.o rfl) nq))) .nil)) ⟨⟨1000,_,rfl,rfl,.box nq⟩,⟨25,_,rfl,rfl,.refl rfl⟩,Q0⟩ ?_;cases h;exact (Wk.freeze (id:=999) rfl).trans (wt Q1 ⟨hr,Q0⟩ rfl)
 refine sk ?_;cases h;exact wt Q1 J1 rfl
def YO {d e r} (h:CT d e=some r):af prog 181 [.b 1000 0,.a (b4 d)] ⟨aF,[(1000,.box (b5 e))]⟩ fun x s=>x=(.t [])∧s.H=[(1000,.box (k0 r.1 r.2.1 r.2.2))]:=by
 refine pg tok 18 func181 ?_;unfold CT at h;refine sg (sq (sg ?_));refine ⟨_,rfl,?_⟩;refine ct h (fun hb h=>?_) fun hb h=>?_
 ·refine sg ?_;have ⟨x1,Ξ,h⟩:=κ h;refine ⟨_,rfl,?_⟩;refine cg [(1000,1000)] [] (YM Ξ) (.cons (Ln.b rfl) nq) ⟨⟨1000,_,rfl,rfl,.box nq⟩,Q0⟩ ?_;refine rt ?_;cases h;exact wt Q1 J1 rfl
 refine sk (sg ?_);have ⟨ax,h⟩:=aG h;refine ⟨_,rfl,θ ⟨ax,_,rfl,?_⟩⟩;refine rg ?_;have ⟨x2,au,h⟩:=κ h;refine ⟨_,rfl,?_⟩;refine cg [(1000,1000)] [(19,999)] (GN au) (.cons (Ln.b rfl) nq) ⟨⟨1000,_,rfl,rfl,.box nq⟩,Q0⟩ ?_;cases h;exact (Wk.freeze (id:=999) rfl).trans (wt Q1 ⟨hr,Q0⟩ rfl)
def ajB {c d e r} (h:CL c d e=some r):Pure prog 118 [.a (b0 c),vi d,vs e] (.t [.a (b0 r.1),vi r.2.1,vi r.2.2]):=by
 refine pq tok 51 func118 ?_;unfold CL at h;refine sg (sg ?_);have ⟨x1,Ξ,h⟩:=κ h;refine ⟨_,rfl,?_⟩;refine af.call (KU Ξ) lz ?_;refine sq (sg ?_);refine ct h (fun hb h=>?_) fun hb h=>?_
 ·refine sg ⟨_,rfl,_,rfl,?_⟩;refine rt ?_;cases h;exact ⟨_,rfl,Fz.t fq⟩
 refine sk (sg ?_);refine ⟨_,rfl,?_⟩;refine sg ?_;have ⟨x2,au,h⟩:=κ h;refine af.eB (id:=27) (qF au) rfl (.box lz) rfl (.cons (Lr.b) (.cons (Lr.dG rfl) .nil)) ?_;rintro _ _ ⟨rfl,rfl⟩;refine ⟨_,rfl,?_⟩;refine sq (sg ?_);refine ⟨_,rfl,_,az _,fun _=>?_⟩;refine ct h (fun hb h=>?_) fun hb h=>?_
 ·refine sg ⟨_,rfl,_,rfl,?_⟩;refine rt ?_;cases h;exact ⟨_,rfl,Fz.t fq⟩
 refine sk (sg ?_);have ⟨x3,aM,h⟩:=κ h;refine cg [(1000,27)] [] (QG aM) (.cons (Ln.b rfl) nq) ⟨⟨27,_,rfl,rfl,.box nq⟩,Q0⟩ ?_;refine sg ?_;have ⟨x4,bw,h⟩:=κ h;refine ⟨_,rfl,?_⟩;refine cg [(1000,27)] [] (YO bw) (.cons (Ln.b rfl) nq) ⟨⟨27,_,rfl,rfl,.box nq⟩,Q0⟩ ?_;refine sg ⟨_,rfl,_,rfl,?_⟩;refine rt ?_;cases h;exact ⟨_,rfl,Fz.t fq⟩
def ajV [oY] {C D F G I J K L a N d e f g i j k l u B w z A} {q:Int⊕(n_)} (h:D9 C D F G I J K L a N d e f g i j k l u B w z A=some q):fP prog bh 65 [.b 1000 0] ⟨aF,[(1000,.box (cP C D F G I J K L a N d e f g i j k l u B w z A))]⟩ (fun x s=>∃y:n_,q=.inr y∧x=(.t [])∧s.H=[(1000,.box [.s (mI y.1),vi y.2.1,vi y.2.2.1,vi y.2.2.2.1,.s (mB y.2.2.2.2.1),.s (mC y.2.2.2.2.2.1),.s (mA y.2.2.2.2.2.2.1),vi y.2.2.2.2.2.2.2.1,.s (mE a),.o 999,vi d,vi e,vs f,vs g,vi i,vi j,vi k,.s (mU l),vi u,vi (t8 y).1,vi w,vi z,vi A,zs,zs]),(999,.own 86 3 (mD (t8 y).2))]) fun m s=>q=.inl m∧s.H=[]:=by
 refine px tok 45 func65 ?_;unfold D9 at h;refine sq (Ok.cV bh tok ?_);have ⟨x1,Ξ,h⟩:=κ h;refine θ (θ (θ (θ (θ (θ (⟨_,rfl,?_⟩))))));refine bY (cx [(1000,1000)] [] (GL Ξ) (.cons (Ln.b rfl) nq) ⟨⟨1000,_,rfl,rfl,.box nq⟩,Q0⟩ (fun e1 bD=>?_) (fun y1 cY=>?_))
 ·have h:=cw h bD;cases h;exact ⟨_,rfl,rfl⟩
 have h:=cy h cY;refine θ (θ (θ (θ (θ ?_))));refine sg ?_;have ⟨x2,au,h⟩:=κ h;refine ⟨_,rfl,?_⟩;refine af.call (ajB au) lz ?_;refine ⟨_,rfl,?_⟩;refine sq (Ok.cV bh tok ?_);have ⟨x3,aM,h⟩:=κ h;refine θ (bY (cx [] [] (ku aM) nq Q0 (fun e2 dS=>?_) (fun y2 eu=>?_)))
 ·have h:=cw h dS;cases h;exact ⟨_,rfl,rfl⟩
 have h:=cy h eu;refine sq (Ok.nu (E:=bh) (chain:=[(7,[])]) tok mixed (by kernel_rfl) ?_);have ⟨x4,bw,h⟩:=κ h;refine ⟨_,rfl,_,⟨_,rfl,rfl⟩,_,rfl,_,rfl,_,rfl,_,rfl,_,⟨_,rfl,rfl⟩,?_⟩;refine bY (cx [(1000,1000)] [(35,999)] (Ao bw) (.cons (Ln.b rfl) nq) ⟨⟨1000,_,rfl,rfl,.box nq⟩,Q0⟩ (fun e3 jP=>?_) (fun y3 jD=>?_))
 ·have h:=cw h jP;cases h;exact ⟨_,rfl,rfl⟩
 have h:=cy h jD;refine ⟨Q0,?_⟩;refine rg ⟨_,rfl,?_⟩;cases h;exact ⟨_,rfl,wt Q1 J2 rfl⟩
def ajo {a b r} (h:Gd a b=some r):Pure prog 242 [.s (mB a),vi b] (vi r):=by
 refine pq tok 19 func242 ?_;unfold Gd at h;refine sg (Ok.fg (fun v1=>⟨ar [],[]⟩) (fun v1=>Kz v1=some r) ?_ ?_)
 ·refine sg ⟨_,az _,fun _=>?_⟩;refine bl (Ok.loop (fun (s1:Int)=>⟨ar [(0,.s (mB a)),(1,vi b),(7,vi (a.length:Int)),(8,vi s1)],[]⟩) (Ge a b) (s0:=0) h (wt Q4 Q0 rfl) ?_);intro s1 y1 ζ aQ;unfold Ge at ζ;refine sg (sq (ct ζ (fun hb ζ=>?_) fun hb ζ=>?_))
  ·refine sk (sq (bl (sg ?_)));refine sg ?_;have ⟨x1,Ξ,ζ⟩:=κ ζ;refine ⟨_,bK Ξ,_,bL Ξ,_,rfl,?_⟩;refine ct ζ (fun hb ζ=>?_) fun hb ζ=>?_
   ·refine sg (rt ?_);have ζ:=bz ζ aQ;cases ζ;exact Fz.v
   refine sk (rg ?_);have ⟨ax,ζ⟩:=aG ζ;refine (θ ⟨ax,?_⟩);exact ⟨_,sj ζ,wt Q4 Q0 rfl⟩
  refine xt ?_;have ζ:=bz ζ aQ;exact ⟨_,ζ,wt Q0 Q0 rfl⟩
 intro v1 h;unfold Kz at h;refine sg (rt ?_);cases h;exact Fz.v
def Yz {a b r} (h:Cs a b=some r):Pure prog 186 [.s (mB a),vi b] (vb r):=by
 refine pq tok 9 func186 ?_;unfold Cs at h;refine sg (sg ?_);have ⟨x1,Ξ,h⟩:=κ h;refine af.call (ajo Ξ) lz ?_;refine rt ?_;cases h;exact Fz.v
def ajD {d c r} (h:Gu d c=some r):Pure prog 187 [.a (b4 d),.a (b4 c)] (vi r):=by
 refine pq tok 28 func187 ?_;unfold Gu at h;refine sg (sq (bl ?_));have ⟨v1,ν,h⟩:=κ h;refine Ok.bj ⟨ar [(2,.b 2 0),(3,.b 3 0),(5,vb v1)],[(2,.box (b4 d)),(3,.box (b4 c))]⟩ ?_ ?_
 ·refine rg ⟨_,rfl,?_⟩;have ⟨c1,Δ,ν⟩:=κ ν;refine Br.ite Δ (fun hb Δ=>?_) fun hb Δ=>?_
  ·refine ⟨_,rfl,?_⟩;cases Δ;cases ν;exact wt Q3 J2 rfl
  cases Δ;cases ν;exact wt Q3 J2 rfl
 refine ct h (fun hb h=>?_) fun hb h=>?_
 ·refine sg (rt ?_);cases h;exact Fz.v
 have ⟨v2,aw,h⟩:=κ h;refine Ok.bj ⟨ar [(3,.b 3 0),(14,vb v2)],[(3,.box (b4 c))]⟩ ?_ ?_
 ·refine rg ⟨_,rfl,?_⟩;have ⟨c2,aI,aw⟩:=κ aw;refine Br.ite aI (fun hb aI=>?_) fun hb aI=>?_
  ·refine ⟨_,rfl,?_⟩;cases aI;cases aw;exact wt Q2 J1 rfl
  cases aI;cases aw;exact wt Q2 J1 rfl
 refine ct h (fun hb h=>?_) fun hb h=>?_
 ·refine sg (rt ?_);cases h;exact Fz.v
 refine sg ⟨_,rfl,_,az _,fun _=>?_⟩;refine ct h (fun hb h=>?_) fun hb h=>?_
 ·refine sg (rt ?_);cases h;exact Fz.v
 refine sk (sg ?_);refine rt ?_;cases h;exact Fz.v
def aj_ {d e f g i r} (h:CN d e f g i=some r):af prog 244 [.a (b4 d),.b 1000 0,.b 1002 0,.b 1003 0,.b 1004 0] ⟨aF,[(1000,.box [.b 1001 0]),(1001,.box (b5 e)),(1002,.box [vi f]),(1003,.box [vi g]),(1004,.box [vi i])]⟩ fun x s=>x=(vb r.1)∧s.H=[(1000,.box [.b 1001 0]),(1001,.box (k0 r.2.1 r.2.2.1 r.2.2.2)),(1002,.box [vi f]),(1003,.box [vi g]),(1004,.box [vi i])]:=by
 refine pg tok 40 func244 ?_;unfold CN at h;refine sg (sq (sg ?_));refine ⟨_,rfl,?_⟩;refine ct h (fun hb h=>?_) fun hb h=>?_
 ·refine sg (rt ?_);cases h;exact wt Q1 ⟨hr,J4⟩ rfl
 refine sk (sg ?_);have ⟨x1,Ξ,h⟩:=κ h;refine ⟨_,rfl,_,rfl,?_⟩;refine af.eB (id:=1001) (QE Ξ) rfl (.box lz) rfl (.cons (Lr.b) (.cons (Lr.dG rfl) .nil)) ?_;rintro _ _ ⟨rfl,rfl⟩;refine sg ?_;have ⟨ax,h⟩:=aG h;have ⟨bt,h⟩:=aG h;have ⟨ep,h⟩:=aG h;refine ⟨_,rfl,_,az _,fun _=>(θ ⟨ax,θ ⟨bt,_,rfl,θ ⟨ep,?_⟩⟩⟩)⟩;have ⟨v1,ν,h⟩:=κ h;refine Ok.bj ⟨ar [(6,vb v1)],[(1000,.box [.b 1001 0]),(1001,.box (b5 x1.2)),(1002,.box [vi f]),(1003,.box [vi g]),(1004,.box [vi i])]⟩ ?_ ?_
 ·refine rg ?_;have ⟨x2,au,ν⟩:=κ ν;refine ⟨_,rfl,?_⟩;refine af.call (Yz au) lz ?_;have ⟨c3,Δ,ν⟩:=κ ν;refine Br.ite Δ (fun hb Δ=>?_) fun hb Δ=>?_
  ·have ⟨c2,aI,Δ⟩:=κ Δ;refine Br.ei aI (fun hb aI=>?_) fun hb aI=>?_
   ·cases aI;cases Δ;cases ν;exact wt Q1 ⟨hr,J4⟩ rfl
   have ⟨c1,aS,aI⟩:=κ aI;refine Br.ite aS (fun hb aS=>?_) fun hb aS=>?_
   ·refine ⟨_,rfl,_,az _,fun _=>?_⟩;cases aS;cases aI;cases Δ;cases ν;exact wt Q1 ⟨hr,J4⟩ rfl
   cases aS;cases aI;cases Δ;cases ν;exact wt Q1 ⟨hr,J4⟩ rfl
  cases Δ;cases ν;exact wt Q1 ⟨hr,J4⟩ rfl
 refine rt ?_;cases h;exact wt Q1 ⟨hr,J4⟩ rfl
def aj9 {a d e f g r} (h:Kv a d e f g=some r):af prog 279 [.s (mI a),.c (.func 244) [] [.b 1000 0,.b 1002 0,.b 1003 0,.b 1004 0]] ⟨aF,[(1000,.box [.b 1001 0]),(1001,.box (b5 d)),(1002,.box [vi e]),(1003,.box [vi f]),(1004,.box [vi g])]⟩ fun x s=>x=(vi r.1)∧s.H=[(1000,.box [.b 1001 0]),(1001,.box (k0 r.2.1 r.2.2.1 r.2.2.2)),(1002,.box [vi e]),(1003,.box [vi f]),(1004,.box [vi g])]:=by
 refine pg tok 19 func279 ?_;unfold Kv at h;refine sg (Ok.fg (fun v1=>⟨ar [],[(1000,.box [.b 1001 0]),(1001,.box (k0 v1.1 v1.2.1 v1.2.2)),(1002,.box [vi e]),(1003,.box [vi f]),(1004,.box [vi g])]⟩) (fun v1=>Kx v1=some r) ?_ ?_)
 ·refine sg ⟨_,az _,fun _=>?_⟩;refine bl (Ok.loop (fun (s1:Int×fV)=>⟨ar [(0,.s (mI a)),(1,.c (.func 244) [] [.b 1000 0,.b 1002 0,.b 1003 0,.b 1004 0]),(7,vi (a.length:Int)),(8,vi s1.1)],[(1000,.box [.b 1001 0]),(1001,.box (k0 s1.2.1 s1.2.2.1 s1.2.2.2)),(1002,.box [vi e]),(1003,.box [vi f]),(1004,.box [vi g])]⟩) (Cu a e f g) (s0:=(0,d.Tree.η,d.Tree.Next,d.Tree.aj)) h (wt Q4 ⟨hr,hr,hr,hr,hr,Q0⟩ rfl) ?_);intro s1 y1 ζ aQ;unfold Cu at ζ;refine sg (sq (ct ζ (fun hb ζ=>?_) fun hb ζ=>?_))
  ·refine sk (sq (bl (sg ?_)));refine sg ?_;have ⟨x1,Ξ,ζ⟩:=κ ζ;have ⟨x2,au,ζ⟩:=κ ζ;refine ⟨_,bK Ξ,_,bL Ξ,_,rfl,?_⟩;refine cg [(1000,1000),(1001,1001),(1002,1002),(1003,1003),(1004,1004)] [] (aj_ au) (n1 (.cons (Ln.b rfl) (.cons (Ln.b rfl) (.cons (Ln.b rfl) (.cons (Ln.b rfl) .nil))))) ⟨⟨1000,_,rfl,rfl,.box (.cons (Ln.b rfl) .nil)⟩,⟨1001,_,rfl,rfl,.box nq⟩,⟨1002,_,rfl,rfl,.box nq⟩,⟨1003,_,rfl,rfl,.box nq⟩,⟨1004,_,rfl,rfl,.box nq⟩,Q0⟩ ?_;refine ct ζ (fun hb ζ=>?_) fun hb ζ=>?_
   ·refine sg (rt ?_);have ζ:=bz ζ aQ;cases ζ;exact wt Q1 ⟨hr,J4⟩ rfl
   refine sk (rg ?_);have ⟨ax,ζ⟩:=aG ζ;refine (θ ⟨ax,?_⟩);exact ⟨_,sj ζ,wt Q4 ⟨hr,J4⟩ rfl⟩
  refine xt ?_;have ζ:=bz ζ aQ;exact ⟨_,ζ,wt Q0 ⟨hr,hr,hr,hr,hr,Q0⟩ rfl⟩
 intro v1 h;unfold Kx at h;refine sg (rt ?_);cases h;exact wt Q1 ⟨hr,J4⟩ rfl
def aj6 {g a d e f r} (h:Kq g a d e f=some r):af prog 243 [.s (mI g),.c (.func 244) [] [.b 1000 0,.b 1002 0,.b 1003 0,.b 1004 0]] ⟨aF,[(1000,.box [.b 1001 0]),(1001,.box (b5 a)),(1002,.box [vi d]),(1003,.box [vi e]),(1004,.box [vi f])]⟩ fun x s=>x=(vb r.1)∧s.H=[(1000,.box [.b 1001 0]),(1001,.box (k0 r.2.1 r.2.2.1 r.2.2.2)),(1002,.box [vi d]),(1003,.box [vi e]),(1004,.box [vi f])]:=by
 refine pg tok 9 func243 ?_;unfold Kq at h;refine sg (sg ?_);have ⟨x1,Ξ,h⟩:=κ h;refine cg [(1000,1000),(1001,1001),(1002,1002),(1003,1003),(1004,1004)] [] (aj9 Ξ) (n1 (.cons (Ln.c .nil (.cons (Ln.b rfl) (.cons (Ln.b rfl) (.cons (Ln.b rfl) (.cons (Ln.b rfl) .nil))))) .nil)) ⟨⟨1000,_,rfl,rfl,.box (.cons (Ln.b rfl) .nil)⟩,⟨1001,_,rfl,rfl,.box nq⟩,⟨1002,_,rfl,rfl,.box nq⟩,⟨1003,_,rfl,rfl,.box nq⟩,⟨1004,_,rfl,rfl,.box nq⟩,Q0⟩ ?_;refine rt ?_;cases h;exact wt Q1 ⟨hr,J4⟩ rfl
def ajC {self a d r} (h:Gr self a d=some r):mq prog 188 [.b 1000 0,vi a,vi d] (.box (b5 self)) (fun x c=>x=(vb r.1)∧c=.box (b5 r.2)):=by
 refine qx (n:=18) (c:=f188.body.getD .skip) tok func188 (by kernel_rfl) rfl rfl nb ?_;unfold Gr at h;refine sg (sg ?_);have ⟨x1,Ξ,h⟩:=κ h;refine ⟨_,rfl,_,rfl,?_⟩;refine af.eB (id:=1000) (YI Ξ) rfl (.box lz) rfl (.cons (Lr.b) (.cons (Lr.dG rfl) .nil)) ?_;rintro _ _ ⟨rfl,rfl⟩;refine ⟨_,rfl,?_⟩;refine sg ?_;have ⟨x2,au,h⟩:=κ h;refine ⟨_,rfl,_,rfl,?_⟩;refine cg [(1000,3),(1001,1000),(1002,5),(1003,7),(1004,4)] [] (aj6 au) (n1 (.cons (Ln.c .nil (.cons (Ln.b rfl) (.cons (Ln.b rfl) (.cons (Ln.b rfl) (.cons (Ln.b rfl) .nil))))) .nil)) ⟨⟨3,_,rfl,rfl,.box (.cons (Ln.b rfl) .nil)⟩,⟨1000,_,rfl,rfl,.box nq⟩,⟨5,_,rfl,rfl,.box nq⟩,⟨7,_,rfl,rfl,.box nq⟩,⟨4,_,rfl,rfl,.box nq⟩,Q0⟩ ?_;refine rt ?_;cases h;exact ⟨_,_,⟨rfl,rfl⟩,rfl,rfl,Fz.v⟩
def aj' {g d e f r} (h:Gt g d e f=some r):af prog 168 [.b 1000 0,vi g,vs d,vi e] ⟨aF,[(1000,.box (b5 f))]⟩ fun x s=>x=(.t [])∧s.H=[(1000,.box [.o 999,vi r.1,vi r.2.1]),(999,.own 44 6 (mI r.2.2))]:=by
 refine pg tok 51 func168 ?_;unfold Gt at h;refine sg ?_;have ⟨x1,Ξ,h⟩:=κ h;refine af.eB (id:=1000) (qF Ξ) rfl (.box lz) rfl (.cons (Lr.b) (.cons (Lr.dG rfl) .nil)) ?_;rintro _ _ ⟨rfl,rfl⟩;refine ⟨_,rfl,?_⟩;refine sg ?_;have ⟨x2,au,h⟩:=κ h;refine ⟨_,rfl,?_⟩;refine af.call (C4 au) lz ?_;refine sq (Ok.nu (E:=bh) (chain:=[(2,[3,4,5,6,7,8,9,10,11,12,14]),(13,[14]),(15,[])]) tok mixed (by kernel_rfl) ?_);have ⟨x3,aM,h⟩:=κ h;refine ⟨_,rfl,_,⟨_,rfl,rfl⟩,_,rfl,_,rfl,_,rfl,_,rfl,_,rfl,_,rfl,_,rfl,_,⟨_,rfl,rfl⟩,_,rfl,_,rfl,_,rfl,?_⟩;refine θ (af.own (D:=26) (KY aM) lz rfl ?_);have ⟨ax,h⟩:=aG h;refine ⟨⟨⟨_,rfl,rfl⟩,⟨_,rfl,rfl⟩,⟨_,rfl,rfl⟩,⟨_,rfl,rfl⟩,⟨_,rfl,rfl⟩,⟨_,rfl,rfl⟩,⟨_,rfl,rfl⟩,⟨_,rfl,_,rfl,rfl⟩,⟨_,rfl,rfl⟩,⟨_,rfl,rfl⟩,⟨_,rfl,rfl⟩,Q0⟩,?_⟩;refine θ (cg [(1000,26)] [(900,26)] (U7 x3 x2.1 ([(⟨d,e,x1.2.Tree.aj⟩:aO)]) ax) (.cons (Ln.o rfl) nq) ⟨⟨26,_,rfl,rfl,.refl rfl⟩,Q0⟩ ?_);refine ⟨⟨⟨_,rfl,rfl⟩,Q0⟩,θ (⟨_,rfl,Q0,?_⟩)⟩;refine sg ?_;have ⟨bt,h⟩:=aG h;refine ⟨_,rfl,θ ⟨bt,_,rfl,?_⟩⟩;refine rg ?_;have ⟨x4,bw,h⟩:=κ h;refine ⟨_,rfl,?_⟩;refine cg [(1000,1000),(1001,26)] [(19,999)] (QH bw) (.cons (Ln.b rfl) (.cons (Ln.a (n4 (.cons (Ln.o rfl) nq))) .nil)) ⟨⟨1000,_,rfl,rfl,.box nq⟩,⟨26,_,rfl,rfl,.refl rfl⟩,Q0⟩ ?_;cases h;exact wt Q1 J2 rfl
def ajx {c f g d e r} (h:CI c f g d e=some r):Pure prog 120 [.a (b0 c),vi f,vs g,vi d,vs e] (.t [.a (b0 r.1),vi r.2.1,vi r.2.2]):=by
 refine pq tok 173 func120 ?_;unfold CI at h;refine sg (sg ?_);have ⟨x1,Ξ,h⟩:=κ h;refine ⟨_,rfl,?_⟩;refine af.call (KU Ξ) lz ?_;refine sq (sg ?_);refine ct h (fun hb h=>?_) fun hb h=>?_
 ·refine sg ⟨_,rfl,_,rfl,?_⟩;refine rt ?_;cases h;exact ⟨_,rfl,Fz.t fq⟩
 refine sk (sg ?_);refine ⟨_,rfl,?_⟩;refine sg ?_;have ⟨x2,au,h⟩:=κ h;refine af.eB (id:=38) (KW au) rfl (.box lz) rfl (.cons (Lr.b) (.cons (Lr.dG rfl) .nil)) ?_;rintro _ _ ⟨rfl,rfl⟩;refine ⟨_,rfl,?_⟩;refine sq (sg ?_);refine ct h (fun hb h=>?_) fun hb h=>?_
 ·refine sg ⟨_,rfl,_,rfl,?_⟩;refine rt ?_;cases h;exact ⟨_,rfl,Fz.t fq⟩
 refine sk (sq (sg ?_));have ⟨x3,aM,h⟩:=κ h;refine af.call (KT aM) lz ?_;refine ct h (fun hb h=>?_) fun hb h=>?_
 ·refine sg ⟨_,rfl,_,rfl,?_⟩;refine rt ?_;cases h;exact ⟨_,rfl,Fz.t fq⟩
 refine sk (sg ?_);have ⟨x4,bw,h⟩:=κ h;refine af.eB (id:=38) (qF bw) rfl (.box lz) rfl (.cons (Lr.b) (.cons (Lr.dG rfl) .nil)) ?_;rintro _ _ ⟨rfl,rfl⟩;refine ⟨_,rfl,?_⟩;refine sg (sg ?_);have ⟨x5,dv,h⟩:=κ h;refine ⟨_,rfl,?_⟩;refine af.call (C4 dv) lz ?_;have ⟨v1,ν,h⟩:=κ h;refine Ok.bj ⟨ar [(1,vi f),(2,vs g),(3,vi d),(4,vs e),(5,.b 5 0),(10,.b 10 0),(13,vi x1.1),(15,.b 38 0),(16,.b 16 0),(17,.b 17 0),(19,.b 19 0),(21,vb x5.2)],[(5,.box (b0 c)),(10,.box (k1 0 0)),(38,.box (k0 v1.1 v1.2.1 v1.2.2.1)),(16,.box (b4 x2.1.1)),(17,.box (b4 x4.1.1)),(19,.box (k8 v1.2.2.2.1 v1.2.2.2.2.1 v1.2.2.2.2.2.1 v1.2.2.2.2.2.2.1 v1.2.2.2.2.2.2.2.1 (t8 v1)))]⟩ ?_ ?_
 ·refine sg (ct ν (fun hb ν=>?_) fun hb ν=>?_)
  ·refine rg ?_;have ⟨x6,gY,ν⟩:=κ ν;have ⟨x7,gF,ν⟩:=κ ν;refine ⟨_,rfl,_,bK gY,_,bL gY,_,rfl,?_⟩;refine af.eB (id:=38) (qF gF) rfl (.box lz) rfl (.cons (Lr.b) (.cons (Lr.dG rfl) .nil)) ?_;rintro _ _ ⟨rfl,rfl⟩;refine ⟨_,rfl,?_⟩;cases ν;exact wt ⟨lr,lr,lr,lr,Q8⟩ ⟨hr,hr,J4⟩ rfl
  refine sk ?_;cases ν;exact wt ⟨lr,lr,lr,lr,Q8⟩ ⟨hr,hr,hr,hr,hr,⟨_,rfl,.box (l2 (l1 (.cons (Le.nil) (.cons (Le.nil) lz))))⟩,Q0⟩ rfl
 refine sq (sg ?_);refine ⟨_,rfl,?_⟩;refine ct h (fun hb h=>?_) fun hb h=>?_
 ·refine sg ⟨_,rfl,_,rfl,?_⟩;refine rt ?_;cases h;exact ⟨_,rfl,Fz.t fq⟩
 refine sk (sg ?_);have ⟨x8,ke,h⟩:=κ h;refine af.eB (id:=38) (QE ke) rfl (.box lz) rfl (.cons (Lr.b) (.cons (Lr.dG rfl) .nil)) ?_;rintro _ _ ⟨rfl,rfl⟩;refine sq ?_;have ⟨v2,aw,h⟩:=κ h;refine Ok.bj ⟨ar [(1,vi f),(2,vs g),(3,vi d),(4,vs e),(5,.b 5 0),(10,.b 10 0),(13,vi x1.1),(15,.b 38 0),(16,.b 16 0),(17,.b 17 0),(19,.b 19 0),(21,vb x5.2),(22,.s (mB x8.1)),(92,vb v2)],[(5,.box (b0 c)),(10,.box (k1 0 0)),(38,.box (b5 x8.2)),(16,.box (b4 x2.1.1)),(17,.box (b4 x4.1.1)),(19,.box (k8 v1.2.2.2.1 v1.2.2.2.2.1 v1.2.2.2.2.2.1 v1.2.2.2.2.2.2.1 v1.2.2.2.2.2.2.2.1 (t8 v1)))]⟩ ?_ ?_
 ·refine rg ⟨_,rfl,?_⟩;have ⟨c1,Δ,aw⟩:=κ aw;refine Br.ite Δ (fun hb Δ=>?_) fun hb Δ=>?_
  ·have ⟨x9,kV,Δ⟩:=κ Δ;refine af.call (Yz kV) lz ?_;cases Δ;cases aw;exact wt ⟨lr,lr,lr,lr,lr,lr,Q8⟩ ⟨hr,hr,J4⟩ rfl
  cases Δ;cases aw;exact wt ⟨lr,lr,lr,lr,lr,lr,Q8⟩ ⟨hr,hr,J4⟩ rfl
 refine ct h (fun hb h=>?_) fun hb h=>?_
 ·refine sg ⟨_,rfl,_,rfl,?_⟩;refine rt ?_;cases h;exact ⟨_,rfl,Fz.t fq⟩
 refine sk (Ok.fg (fun v3=>⟨ar [(1,vi f),(2,vs g),(3,vi d),(4,vs e),(5,.b 5 0),(10,.b 10 0),(13,vi x1.1),(15,.b 38 0),(16,.b 16 0),(17,.b 17 0),(19,.b 19 0),(21,vb x5.2),(22,.s (mB x8.1))],[(5,.box (b0 c)),(10,.box (k1 0 0)),(38,.box (b5 x8.2)),(16,.box (b4 x2.1.1)),(17,.box (b4 x4.1.1)),(19,.box (k8 v1.2.2.2.1 v1.2.2.2.2.1 v1.2.2.2.2.2.1 v1.2.2.2.2.2.2.1 v1.2.2.2.2.2.2.2.1 (t8 v1)))]⟩) (fun v3=>CJ x5 d f x2 x8 x4 x1 c g e v1 v3=some r) ?_ ?_)
 ·refine sg (ct h (fun hb h=>?_) fun hb h=>?_)
  ·refine sg ?_;have ⟨kv,qp,h⟩:=κ h;refine ⟨_,rfl,_,rfl,?_⟩;refine af.call (ajD qp) lz ?_;refine sg (ct h (fun hb h=>?_) fun hb h=>?_)
   ·refine sg ⟨_,rfl,_,rfl,?_⟩;refine rt ?_;cases h;exact ⟨_,rfl,Fz.t fq⟩
   refine sk ?_;exact ⟨_,h,wt ⟨lr,lr,lr,lr,lr,Q8⟩ ⟨hr,hr,hr,hr,hr,hr,Q0⟩ rfl⟩
  refine sk ?_;exact ⟨_,h,wt ⟨lr,lr,lr,lr,lr,Q8⟩ ⟨hr,hr,hr,hr,hr,hr,Q0⟩ rfl⟩
 intro v3 h;unfold CJ at h;have ⟨v4,gq,h⟩:=κ h;refine Ok.bj ⟨ar [(1,vi f),(2,vs g),(3,vi d),(4,vs e),(5,.b 5 0),(10,.b 10 0),(13,vi x1.1),(15,.b 38 0),(17,.b 17 0),(19,.b 19 0),(21,vb x5.2),(22,.s (mB x8.1)),(24,vb v4)],[(5,.box (b0 c)),(10,.box (k1 0 0)),(38,.box (b5 x8.2)),(17,.box (b4 x4.1.1)),(19,.box (k8 v1.2.2.2.1 v1.2.2.2.2.1 v1.2.2.2.2.2.1 v1.2.2.2.2.2.2.1 v1.2.2.2.2.2.2.2.1 (t8 v1)))]⟩ ?_ ?_
 ·refine rg ?_;have ⟨c2,aI,gq⟩:=κ gq;refine Br.ite aI (fun hb aI=>?_) fun hb aI=>?_
  ·cases aI;have ⟨c3,aS,gq⟩:=κ gq;refine Br.ite aS (fun hb aS=>?_) fun hb aS=>?_
   ·refine ⟨_,rfl,_,az _,fun _=>?_⟩;cases aS;cases gq;exact wt ⟨lr,lr,lr,lr,lr,Q8⟩ ⟨hr,J4⟩ rfl
   cases aS;cases gq;exact wt ⟨lr,lr,lr,lr,lr,Q8⟩ ⟨hr,J4⟩ rfl
  cases aI;have ⟨c3,di,gq⟩:=κ gq;replace di:=eb di;cases di;cases gq;exact wt ⟨lr,lr,lr,lr,lr,Q8⟩ ⟨hr,J4⟩ rfl
 refine sq ?_;have ⟨v5,dP,h⟩:=κ h;refine Ok.bj ⟨ar [(1,vi f),(2,vs g),(3,vi d),(4,vs e),(5,.b 5 0),(10,.b 10 0),(13,vi x1.1),(15,.b 38 0),(17,.b 17 0),(19,.b 19 0),(21,vb x5.2),(140,vb v5.1)],[(5,.box (b0 c)),(10,.box (k1 0 0)),(38,.box (k0 v5.2.1 v5.2.2.1 v5.2.2.2)),(17,.box (b4 x4.1.1)),(19,.box (k8 v1.2.2.2.1 v1.2.2.2.2.1 v1.2.2.2.2.2.1 v1.2.2.2.2.2.2.1 v1.2.2.2.2.2.2.2.1 (t8 v1)))]⟩ ?_ ?_
 ·refine rg ?_;have ⟨c4,dI,dP⟩:=κ dP;refine Br.ei dI (fun hb dI=>?_) fun hb dI=>?_
  ·cases dI;have ⟨c6,eF,dP⟩:=κ dP;replace eF:=eh eF;cases eF;have ⟨c7,fy,dP⟩:=κ dP;replace fy:=eh fy;cases fy;cases dP;exact wt ⟨lr,lr,lr,lr,Q8⟩ ⟨hr,J4⟩ rfl
  refine ⟨_,az _,fun _=>?_⟩;cases dI;have ⟨c6,fL,dP⟩:=κ dP;refine Br.ei fL (fun hb fL=>?_) fun hb fL=>?_
  ·cases fL;have ⟨c7,gV,dP⟩:=κ dP;replace gV:=eh gV;cases gV;cases dP;exact wt ⟨lr,lr,lr,lr,Q8⟩ ⟨hr,J4⟩ rfl
  refine ⟨_,rfl,?_⟩;have ⟨c5,fx,fL⟩:=κ fL;refine Br.ite fx (fun hb fx=>?_) fun hb fx=>?_
  ·have ⟨j0,qq,fx⟩:=κ fx;refine ⟨_,az _,fun _=>?_⟩;refine af.eB (id:=38) (ajC qq) rfl (.box lz) rfl (.cons (Lr.b) (.cons (Lr.dG rfl) (.cons (Lr.dG rfl) .nil))) ?_;rintro _ _ ⟨rfl,rfl⟩;cases fx;cases fL;have ⟨c7,iB,dP⟩:=κ dP;refine Br.ei iB (fun hb iB=>?_) fun hb iB=>?_
   ·cases iB;cases dP;exact wt ⟨lr,lr,lr,lr,Q8⟩ ⟨hr,J4⟩ rfl
   refine ⟨_,rfl,?_⟩;cases iB;cases dP;exact wt ⟨lr,lr,lr,lr,Q8⟩ ⟨hr,J4⟩ rfl
  cases fx;cases fL;have ⟨c7,iC,dP⟩:=κ dP;replace iC:=eb iC;refine ⟨_,rfl,?_⟩;cases iC;cases dP;exact wt ⟨lr,lr,lr,lr,Q8⟩ ⟨hr,J4⟩ rfl
 refine ct h (fun hb h=>?_) fun hb h=>?_
 ·refine sg ⟨_,rfl,_,rfl,?_⟩;refine rt ?_;cases h;exact ⟨_,rfl,Fz.t fq⟩
 refine sk (sg ?_);have ⟨gb,qs,h⟩:=κ h;refine cg [(1000,38)] [] (QG qs) (.cons (Ln.b rfl) nq) ⟨⟨38,_,rfl,rfl,.box nq⟩,Q0⟩ ?_;have ⟨v6,oK,h⟩:=κ h;refine Ok.bj ⟨ar [(3,vi d),(4,vs e),(10,.b 10 0),(13,vi x1.1),(15,.b 38 0),(17,.b 17 0),(19,.b 19 0)],[(10,.box (k1 0 0)),(38,.box (k0 v6.1 v6.2.1 v6.2.2)),(17,.box (b4 x4.1.1)),(19,.box (k8 v1.2.2.2.1 v1.2.2.2.2.1 v1.2.2.2.2.2.1 v1.2.2.2.2.2.2.1 v1.2.2.2.2.2.2.2.1 (t8 v1)))]⟩ ?_ ?_
 ·refine sg (ct oK (fun hb oK=>?_) fun hb oK=>?_)
  ·refine sg ?_;have ⟨pS,zm,oK⟩:=κ oK;refine cg [(1000,38)] [] (QG zm) (.cons (Ln.b rfl) nq) ⟨⟨38,_,rfl,rfl,.box nq⟩,Q0⟩ ?_;refine rg ?_;have ⟨pT,wM,oK⟩:=κ oK;refine ⟨_,rfl,?_⟩;refine cg [(1000,38)] [] (YO wM) (.cons (Ln.b rfl) nq) ⟨⟨38,_,rfl,rfl,.box nq⟩,Q0⟩ ?_;cases oK;exact wt Q7 J4 rfl
  refine sk ?_;cases oK;exact wt Q7 J4 rfl
 have ⟨v7,zj,h⟩:=κ h;refine Ok.bj ⟨ar [(3,vi d),(4,vs e),(10,.b 10 0),(13,vi x1.1),(15,.b 38 0),(19,.b 19 0)],[(10,.box (k1 0 0)),(38,.box (k0 v7.1 v7.2.1 v7.2.2)),(19,.box (k8 v1.2.2.2.1 v1.2.2.2.2.1 v1.2.2.2.2.2.1 v1.2.2.2.2.2.2.1 v1.2.2.2.2.2.2.2.1 (t8 v1)))]⟩ ?_ ?_
 ·refine sg ⟨_,rfl,?_⟩;refine ct zj (fun hb zj=>?_) fun hb zj=>?_
  ·refine sg ⟨_,rfl,?_⟩;refine rg ?_;have ⟨Ar,Oa,zj⟩:=κ zj;refine ⟨_,rfl,?_⟩;refine cg [(1000,38)] [(19,999)] (GN Oa) (.cons (Ln.b rfl) nq) ⟨⟨38,_,rfl,rfl,.box nq⟩,Q0⟩ ?_;cases zj;exact (Wk.freeze (id:=999) rfl).trans (wt Q6 ⟨hr,hr,hr,Q0⟩ rfl)
  refine sk ?_;cases zj;exact wt Q6 J3 rfl
 refine sg ?_;have ⟨As,Ob,h⟩:=κ h;refine cg [(1000,38)] [(999,998)] (aj' Ob) (.cons (Ln.b rfl) nq) ⟨⟨38,_,rfl,rfl,.box nq⟩,Q0⟩ ?_;refine sq (Ok.q_ (m:=6) (late:=[4,5]) (MD:=⟨[]⟩) (CH:=⟨[]⟩) tok mixed (by kernel_rfl) ?_);refine ⟨_,rfl,_,rfl,_,rfl,_,⟨_,rfl,rfl⟩,_,rfl,_,⟨_,rfl,rfl⟩,Q0,?_⟩;refine ⟨_,rfl,⟨⟨_,rfl,rfl⟩,⟨_,rfl,_,rfl,rfl⟩,Q0⟩,?_⟩;refine rt ?_;cases h;exact ⟨_,rfl,Fz.t (.cons (Fz.a (.cons (Fz.o rfl) fq)) fq)⟩
def ajS [oY] {C D F G I J K L a N d e f g i j k l u B w z A} {q:Int⊕(n_)} (h:D4 C D F G I J K L a N d e f g i j k l u B w z A=some q):fP prog bh 66 [.b 1000 0] ⟨aF,[(1000,.box (cP C D F G I J K L a N d e f g i j k l u B w z A))]⟩ (fun x s=>∃y:n_,q=.inr y∧x=(.t [])∧s.H=[(1000,.box [.s (mI y.1),vi y.2.1,vi y.2.2.1,vi y.2.2.2.1,.s (mB y.2.2.2.2.1),.s (mC y.2.2.2.2.2.1),.s (mA y.2.2.2.2.2.2.1),vi y.2.2.2.2.2.2.2.1,.s (mE a),.o 999,vi d,vi e,vs f,vs g,vi i,vi j,vi k,.s (mU l),vi u,vi (t8 y).1,vi w,vi z,vi A,zs,zs]),(999,.own 86 3 (mD (t8 y).2))]) fun m s=>q=.inl m∧s.H=[]:=by
 refine px tok 74 func66 ?_;unfold D4 at h;refine sq (Ok.cV bh tok ?_);have ⟨x1,Ξ,h⟩:=κ h;refine θ (θ (θ (θ (θ (θ (⟨_,rfl,?_⟩))))));refine bY (cx [(1000,1000)] [] (GL Ξ) (.cons (Ln.b rfl) nq) ⟨⟨1000,_,rfl,rfl,.box nq⟩,Q0⟩ (fun e1 bD=>?_) (fun y1 cY=>?_))
 ·have h:=cw h bD;cases h;exact ⟨_,rfl,rfl⟩
 have h:=cy h cY;refine θ (θ (θ (θ (θ ?_))));refine sq (Ok.cV bh tok ?_);have ⟨x2,au,h⟩:=κ h;refine θ (θ (θ (θ (θ (θ (⟨_,rfl,?_⟩))))));refine bY (cx [(1000,1000)] [] (GL au) (.cons (Ln.b rfl) nq) ⟨⟨1000,_,rfl,rfl,.box nq⟩,Q0⟩ (fun e2 dS=>?_) (fun y2 eu=>?_))
 ·have h:=cw h dS;cases h;exact ⟨_,rfl,rfl⟩
 have h:=cy h eu;refine θ (θ (θ (θ (θ ?_))));refine sg ?_;have ⟨x3,aM,h⟩:=κ h;refine ⟨_,rfl,?_⟩;refine af.call (KU aM) lz ?_;refine sq (Ok.cV bh tok ?_);have ⟨x4,bw,h⟩:=κ h;refine θ (bY (cx [] [] (ku bw) nq Q0 (fun e3 jP=>?_) (fun y3 jD=>?_)))
 ·have h:=cw h jP;cases h;exact ⟨_,rfl,rfl⟩
 have h:=cy h jD;refine sg ?_;have ⟨x5,dv,h⟩:=κ h;refine ⟨_,rfl,?_⟩;refine af.call (ajx dv) lz ?_;refine ⟨_,rfl,?_⟩;refine sq (Ok.cV bh tok ?_);have ⟨x6,gY,h⟩:=κ h;refine θ (bY (cx [] [] (ku gY) nq Q0 (fun e4 j_=>?_) (fun y4 uV=>?_)))
 ·have h:=cw h j_;cases h;exact ⟨_,rfl,rfl⟩
 have h:=cy h uV;refine sq (Ok.nu (E:=bh) (chain:=[(7,[])]) tok mixed (by kernel_rfl) ?_);have ⟨x7,gF,h⟩:=κ h;refine ⟨_,rfl,_,⟨_,rfl,rfl⟩,_,rfl,_,rfl,_,rfl,_,rfl,_,⟨_,rfl,rfl⟩,?_⟩;refine bY (cx [(1000,1000)] [(35,999)] (Ao gF) (.cons (Ln.b rfl) nq) ⟨⟨1000,_,rfl,rfl,.box nq⟩,Q0⟩ (fun e5 Na=>?_) (fun y5 EJ=>?_))
 ·have h:=cw h Na;cases h;exact ⟨_,rfl,rfl⟩
 have h:=cy h EJ;refine ⟨Q0,?_⟩;refine rg ⟨_,rfl,?_⟩;cases h;exact ⟨_,rfl,wt Q1 J2 rfl⟩
def ajt {c d r} (h:Qq c d=some r):Pure prog 191 [.a (b6 c),.p [vi d]] (vb r):=by
 refine pq tok 8 func191 ?_;unfold Qq at h;refine sg (sg ⟨_,rfl,_,rfl,?_⟩);refine rt ?_;cases h;exact Fz.v
end Go.Proofs
