/- The walks of this seat beside the plain programs, part 3. No condition. -/
import Derived.Test.YtdcgbodbejgliaaGreatDoorXTopPacksWk2
open List renaming length_map → ax
open Or renaming inl → ψ, inr → bV
namespace Go.Proofs
set_option linter.all false
open Go Go.Cat Tryz
variable [M:cM]
set_option maxRecDepth 100000
set_option maxHeartbeats 4000000
def akc [o8] {C D F G I J K L a N d e f g i j k l u B w z A} {q:Int⊕(oc)} (h:DU C D F G I J K L a N d e f g i j k l u B w z A=some q):fM prog bf 64 [.b 1000 0] ⟨aG,[(1000,.box (cV C D F G I J K L a N d e f g i j k l u B w z A))]⟩ (fun x s=>∃y:oc,q=.inr y∧x=(.t [])∧s.H=[(1000,.box [.s (mI y.1),vi y.2.1,vi y.2.2.1,vi y.2.2.2.1,.s (mB y.2.2.2.2.1),.s (mC y.2.2.2.2.2.1),.s (mA y.2.2.2.2.2.2.1),vi y.2.2.2.2.2.2.2.1,.s (mE a),.o 999,vi d,vi e,vs f,vs g,vi i,vi j,vi k,.s (mU l),vi u,vi (t8 y).1,vi w,vi z,vi A,zs,zs]),(999,.own 86 3 (mD (t8 y).2))]) fun m s=>q=.inl m∧s.H=[]:=by
 refine px tok 54 func64 ?_;unfold DU at h;refine sq (Ok.cY bf tok ?_);have ⟨x1,Θ,h⟩:=ι h;refine ψ (ψ (ψ (ψ (ψ (ψ (⟨_,rfl,?_⟩))))));refine bV (cx [(1000,1000)] [] (Ao Θ) (.cons (Ln.b rfl) nq) ⟨⟨1000,_,rfl,rfl,.box nq⟩,Q0⟩ (fun e1 bE=>?_) (fun y1 c_=>?_))
 ·have h:=cu h bE;cases h;exact ⟨_,rfl,rfl⟩
 have h:=cw h c_;refine ψ (ψ (⟨_,rfl,?_⟩));refine sq (Ok.cY bf tok ?_);have ⟨x2,ak,h⟩:=ι h;refine ψ (ψ (ψ (ψ (ψ (ψ (⟨_,rfl,?_⟩))))));refine bV (cx [(1000,1000)] [] (GM ak) (.cons (Ln.b rfl) nq) ⟨⟨1000,_,rfl,rfl,.box nq⟩,Q0⟩ (fun e2 dV=>?_) (fun y2 ew=>?_))
 ·have h:=cu h dV;cases h;exact ⟨_,rfl,rfl⟩
 have h:=cw h ew;refine ψ (ψ (ψ (ψ (ψ ?_))));refine sq (Ok.qb (m:=15) (late:=[13]) (MD:=⟨[]⟩) (CH:=⟨[]⟩) tok mixed (by kernel_rfl) ?_);have ⟨x3,aK,h⟩:=ι h;refine ⟨_,rfl,_,rfl,_,rfl,_,rfl,_,rfl,_,⟨_,rfl,rfl⟩,_,rfl,_,⟨_,rfl,rfl⟩,_,rfl,_,rfl,_,⟨_,.fC (aj0 aK) lz,rfl⟩,_,rfl,_,rfl,_,rfl,Q0,?_⟩;refine ⟨_,rfl,⟨⟨_,rfl,rfl⟩,Q0⟩,?_⟩;refine sq (Ok.cY bf tok ?_);have ⟨x4,bn,h⟩:=ι h;refine ψ (bV (cx [] [] (kz bn) nq Q0 (fun e3 jQ=>?_) (fun y3 jD=>?_)))
 ·have h:=cu h jQ;cases h;exact ⟨_,rfl,rfl⟩
 have h:=cw h jD;refine sq (Ok.mO (E:=bf) (chain:=[(7,[])]) tok mixed (by kernel_rfl) ?_);have ⟨x5,dr,h⟩:=ι h;refine ⟨_,rfl,_,⟨_,rfl,rfl⟩,_,rfl,_,rfl,_,rfl,_,rfl,_,⟨_,rfl,rfl⟩,?_⟩;refine bV (cx [(1000,1000)] [(35,999)] (An dr) (.cons (Ln.b rfl) nq) ⟨⟨1000,_,rfl,rfl,.box nq⟩,Q0⟩ (fun e4 kb=>?_) (fun y4 uU=>?_))
 ·have h:=cu h kb;cases h;exact ⟨_,rfl,rfl⟩
 have h:=cw h uU;refine ⟨Q0,?_⟩;refine rg ⟨_,rfl,_,rfl,?_⟩;cases h;exact ⟨_,rfl,wt Q1 J2 rfl⟩
def Rf {f e d r} (h:Ai f e d=some r):ae prog 180 [.b 1000 0,vi f,vs e] ⟨aG,[(1000,.box (b5 d))]⟩ fun x s=>x=(.t [])∧s.H=[(1000,.box (k0 r.1 r.2.1 r.2.2))]:=by
 refine pg tok 34 func180 ?_;unfold Ai at h;refine sg ?_;have ⟨x1,Θ,h⟩:=ι h;refine ae.dE (id:=1000) (qA Θ) rfl (.box lz) rfl (.cons (Lr.b) (.cons (Lr.dL rfl) .nil)) ?_;rintro _ _ ⟨rfl,rfl⟩;refine ⟨_,rfl,?_⟩;refine sg ?_;have ⟨x2,ak,h⟩:=ι h;refine ⟨_,rfl,?_⟩;refine ae.call (CV ak) lz ?_;refine sg (ct h (fun hb h=>?_) fun hb h=>?_)
 ·refine sg ?_;have ⟨x3,aK,h⟩:=ι h;refine ⟨_,rfl,?_⟩;refine ae.own (D:=25) (Lc aK) lz rfl ?_;have ⟨ar,h⟩:=aC h;have ⟨bu,h⟩:=aC h;refine (ψ ⟨ar,?_⟩);refine cg [(1000,25)] [(900,25)] (adM x3 x2.1 (x2.1+1) bu) (.cons (Ln.o rfl) nq) ⟨⟨25,_,rfl,rfl,.refl rfl⟩,Q0⟩ ?_;refine ⟨_,rfl,?_⟩;refine rg ?_;have ⟨x4,bn,h⟩:=ι h;refine ⟨_,rfl,?_⟩;refine cg [(1000,1000),(1001,25)] [(19,999)] (Rg bn) (.cons (Ln.b rfl) (.cons (Ln.a (n4 (.cons (Ln.o rfl) nq))) .nil)) ⟨⟨1000,_,rfl,rfl,.box nq⟩,⟨25,_,rfl,rfl,.refl rfl⟩,Q0⟩ ?_;cases h;exact (Wk.freeze (id:=999) rfl).trans (wt Q1 ⟨hr,Q0⟩ rfl)
 refine sk ?_;cases h;exact wt Q1 J1 rfl
def Zp {d e r} (h:CQ d e=some r):ae prog 181 [.b 1000 0,.a (b4 d)] ⟨aG,[(1000,.box (b5 e))]⟩ fun x s=>x=(.t [])∧s.H=[(1000,.box (k0 r.1 r.2.1 r.2.2))]:=by
 refine pg tok 18 func181 ?_;unfold CQ at h;refine sg (sq (sg ?_));refine ⟨_,rfl,?_⟩;refine ct h (fun hb h=>?_) fun hb h=>?_
 ·refine sg ?_;have ⟨x1,Θ,h⟩:=ι h;refine ⟨_,rfl,?_⟩;refine cg [(1000,1000)] [] (Zn Θ) (.cons (Ln.b rfl) nq) ⟨⟨1000,_,rfl,rfl,.box nq⟩,Q0⟩ ?_;refine rt ?_;cases h;exact wt Q1 J1 rfl
 refine sk (sg ?_);have ⟨ar,h⟩:=aC h;refine ⟨_,rfl,ψ ⟨ar,_,rfl,?_⟩⟩;refine rg ?_;have ⟨x2,ak,h⟩:=ι h;refine ⟨_,rfl,?_⟩;refine cg [(1000,1000)] [(19,999)] (GO ak) (.cons (Ln.b rfl) nq) ⟨⟨1000,_,rfl,rfl,.box nq⟩,Q0⟩ ?_;cases h;exact (Wk.freeze (id:=999) rfl).trans (wt Q1 ⟨hr,Q0⟩ rfl)
def aj4 {c d e r} (h:CG c d e=some r):Pure prog 118 [.a (b0 c),vi d,vs e] (.t [.a (b0 r.1),vi r.2.1,vi r.2.2]):=by
 refine pq tok 51 func118 ?_;unfold CG at h;refine sg (sg ?_);have ⟨x1,Θ,h⟩:=ι h;refine ⟨_,rfl,?_⟩;refine ae.call (K_ Θ) lz ?_;refine sq (sg ?_);refine ct h (fun hb h=>?_) fun hb h=>?_
 ·refine sg ⟨_,rfl,_,rfl,?_⟩;refine rt ?_;cases h;exact ⟨_,rfl,Fz.t fq⟩
 refine sk (sg ?_);refine ⟨_,rfl,?_⟩;refine sg ?_;have ⟨x2,ak,h⟩:=ι h;refine ae.dE (id:=27) (qA ak) rfl (.box lz) rfl (.cons (Lr.b) (.cons (Lr.dL rfl) .nil)) ?_;rintro _ _ ⟨rfl,rfl⟩;refine ⟨_,rfl,?_⟩;refine sq (sg ?_);refine ⟨_,rfl,_,ax _,fun _=>?_⟩;refine ct h (fun hb h=>?_) fun hb h=>?_
 ·refine sg ⟨_,rfl,_,rfl,?_⟩;refine rt ?_;cases h;exact ⟨_,rfl,Fz.t fq⟩
 refine sk (sg ?_);have ⟨x3,aK,h⟩:=ι h;refine cg [(1000,27)] [] (Rf aK) (.cons (Ln.b rfl) nq) ⟨⟨27,_,rfl,rfl,.box nq⟩,Q0⟩ ?_;refine sg ?_;have ⟨x4,bn,h⟩:=ι h;refine ⟨_,rfl,?_⟩;refine cg [(1000,27)] [] (Zp bn) (.cons (Ln.b rfl) nq) ⟨⟨27,_,rfl,rfl,.box nq⟩,Q0⟩ ?_;refine sg ⟨_,rfl,_,rfl,?_⟩;refine rt ?_;cases h;exact ⟨_,rfl,Fz.t fq⟩
def akm [o8] {C D F G I J K L a N d e f g i j k l u B w z A} {q:Int⊕(oc)} (h:D6 C D F G I J K L a N d e f g i j k l u B w z A=some q):fM prog bf 65 [.b 1000 0] ⟨aG,[(1000,.box (cV C D F G I J K L a N d e f g i j k l u B w z A))]⟩ (fun x s=>∃y:oc,q=.inr y∧x=(.t [])∧s.H=[(1000,.box [.s (mI y.1),vi y.2.1,vi y.2.2.1,vi y.2.2.2.1,.s (mB y.2.2.2.2.1),.s (mC y.2.2.2.2.2.1),.s (mA y.2.2.2.2.2.2.1),vi y.2.2.2.2.2.2.2.1,.s (mE a),.o 999,vi d,vi e,vs f,vs g,vi i,vi j,vi k,.s (mU l),vi u,vi (t8 y).1,vi w,vi z,vi A,zs,zs]),(999,.own 86 3 (mD (t8 y).2))]) fun m s=>q=.inl m∧s.H=[]:=by
 refine px tok 45 func65 ?_;unfold D6 at h;refine sq (Ok.cY bf tok ?_);have ⟨x1,Θ,h⟩:=ι h;refine ψ (ψ (ψ (ψ (ψ (ψ (⟨_,rfl,?_⟩))))));refine bV (cx [(1000,1000)] [] (GM Θ) (.cons (Ln.b rfl) nq) ⟨⟨1000,_,rfl,rfl,.box nq⟩,Q0⟩ (fun e1 bE=>?_) (fun y1 c_=>?_))
 ·have h:=cu h bE;cases h;exact ⟨_,rfl,rfl⟩
 have h:=cw h c_;refine ψ (ψ (ψ (ψ (ψ ?_))));refine sg ?_;have ⟨x2,ak,h⟩:=ι h;refine ⟨_,rfl,?_⟩;refine ae.call (aj4 ak) lz ?_;refine ⟨_,rfl,?_⟩;refine sq (Ok.cY bf tok ?_);have ⟨x3,aK,h⟩:=ι h;refine ψ (bV (cx [] [] (kz aK) nq Q0 (fun e2 dV=>?_) (fun y2 ew=>?_)))
 ·have h:=cu h dV;cases h;exact ⟨_,rfl,rfl⟩
 have h:=cw h ew;refine sq (Ok.mO (E:=bf) (chain:=[(7,[])]) tok mixed (by kernel_rfl) ?_);have ⟨x4,bn,h⟩:=ι h;refine ⟨_,rfl,_,⟨_,rfl,rfl⟩,_,rfl,_,rfl,_,rfl,_,rfl,_,⟨_,rfl,rfl⟩,?_⟩;refine bV (cx [(1000,1000)] [(35,999)] (An bn) (.cons (Ln.b rfl) nq) ⟨⟨1000,_,rfl,rfl,.box nq⟩,Q0⟩ (fun e3 jQ=>?_) (fun y3 jD=>?_))
 ·have h:=cu h jQ;cases h;exact ⟨_,rfl,rfl⟩
 have h:=cw h jD;refine ⟨Q0,?_⟩;refine rg ⟨_,rfl,?_⟩;cases h;exact ⟨_,rfl,wt Q1 J2 rfl⟩
def ajS {a b r} (h:Gm a b=some r):Pure prog 242 [.s (mB a),vi b] (vi r):=by
 refine pq tok 19 func242 ?_;unfold Gm at h;refine sg (Ok.eC (fun v1=>⟨aq [],[]⟩) (fun v1=>KI v1=some r) ?_ ?_)
 ·refine sg ⟨_,ax _,fun _=>?_⟩;refine bl (Ok.loop (fun (s1:Int)=>⟨aq [(0,.s (mB a)),(1,vi b),(7,vi (a.length:Int)),(8,vi s1)],[]⟩) (Gn a b) (s0:=0) h (wt Q4 Q0 rfl) ?_);intro s1 y1 ζ aL;unfold Gn at ζ;refine sg (sq (ct ζ (fun hb ζ=>?_) fun hb ζ=>?_))
  ·refine sk (sq (bl (sg ?_)));refine sg ?_;have ⟨x1,Θ,ζ⟩:=ι ζ;refine ⟨_,bq Θ,_,br Θ,_,rfl,?_⟩;refine ct ζ (fun hb ζ=>?_) fun hb ζ=>?_
   ·refine sg (rt ?_);have ζ:=bd ζ aL;cases ζ;exact Fz.v
   refine sk (rg ?_);have ⟨ar,ζ⟩:=aC ζ;refine (ψ ⟨ar,?_⟩);exact ⟨_,sj ζ,wt Q4 Q0 rfl⟩
  refine xt ?_;have ζ:=bd ζ aL;exact ⟨_,ζ,wt Q0 Q0 rfl⟩
 intro v1 h;unfold KI at h;refine sg (rt ?_);cases h;exact Fz.v
def Za {a b r} (h:Cq a b=some r):Pure prog 186 [.s (mB a),vi b] (vb r):=by
 refine pq tok 9 func186 ?_;unfold Cq at h;refine sg (sg ?_);have ⟨x1,Θ,h⟩:=ι h;refine ae.call (ajS Θ) lz ?_;refine rt ?_;cases h;exact Fz.v
def aj6 {d c r} (h:GF d c=some r):Pure prog 187 [.a (b4 d),.a (b4 c)] (vi r):=by
 refine pq tok 28 func187 ?_;unfold GF at h;refine sg (sq (bl ?_));have ⟨v1,ν,h⟩:=ι h;refine Ok.bg ⟨aq [(2,.b 2 0),(3,.b 3 0),(5,vb v1)],[(2,.box (b4 d)),(3,.box (b4 c))]⟩ ?_ ?_
 ·refine rg ⟨_,rfl,?_⟩;have ⟨c1,Δ,ν⟩:=ι ν;refine Br.ite Δ (fun hb Δ=>?_) fun hb Δ=>?_
  ·refine ⟨_,rfl,?_⟩;cases Δ;cases ν;exact wt Q3 J2 rfl
  cases Δ;cases ν;exact wt Q3 J2 rfl
 refine ct h (fun hb h=>?_) fun hb h=>?_
 ·refine sg (rt ?_);cases h;exact Fz.v
 have ⟨v2,aw,h⟩:=ι h;refine Ok.bg ⟨aq [(3,.b 3 0),(14,vb v2)],[(3,.box (b4 c))]⟩ ?_ ?_
 ·refine rg ⟨_,rfl,?_⟩;have ⟨c2,aF,aw⟩:=ι aw;refine Br.ite aF (fun hb aF=>?_) fun hb aF=>?_
  ·refine ⟨_,rfl,?_⟩;cases aF;cases aw;exact wt Q2 J1 rfl
  cases aF;cases aw;exact wt Q2 J1 rfl
 refine ct h (fun hb h=>?_) fun hb h=>?_
 ·refine sg (rt ?_);cases h;exact Fz.v
 refine sg ⟨_,rfl,_,ax _,fun _=>?_⟩;refine ct h (fun hb h=>?_) fun hb h=>?_
 ·refine sg (rt ?_);cases h;exact Fz.v
 refine sk (sg ?_);refine rt ?_;cases h;exact Fz.v
def akB {d e f g i r} (h:CJ d e f g i=some r):ae prog 244 [.a (b4 d),.b 1000 0,.b 1002 0,.b 1003 0,.b 1004 0] ⟨aG,[(1000,.box [.b 1001 0]),(1001,.box (b5 e)),(1002,.box [vi f]),(1003,.box [vi g]),(1004,.box [vi i])]⟩ fun x s=>x=(vb r.1)∧s.H=[(1000,.box [.b 1001 0]),(1001,.box (k0 r.2.1 r.2.2.1 r.2.2.2)),(1002,.box [vi f]),(1003,.box [vi g]),(1004,.box [vi i])]:=by
 refine pg tok 40 func244 ?_;unfold CJ at h;refine sg (sq (sg ?_));refine ⟨_,rfl,?_⟩;refine ct h (fun hb h=>?_) fun hb h=>?_
 ·refine sg (rt ?_);cases h;exact wt Q1 ⟨hr,J4⟩ rfl
 refine sk (sg ?_);have ⟨x1,Θ,h⟩:=ι h;refine ⟨_,rfl,_,rfl,?_⟩;refine ae.dE (id:=1001) (Rc Θ) rfl (.box lz) rfl (.cons (Lr.b) (.cons (Lr.dL rfl) .nil)) ?_;rintro _ _ ⟨rfl,rfl⟩;refine sg ?_;have ⟨ar,h⟩:=aC h;have ⟨bu,h⟩:=aC h;have ⟨dU,h⟩:=aC h;refine ⟨_,rfl,_,ax _,fun _=>(ψ ⟨ar,ψ ⟨bu,_,rfl,ψ ⟨dU,?_⟩⟩⟩)⟩;have ⟨v1,ν,h⟩:=ι h;refine Ok.bg ⟨aq [(6,vb v1)],[(1000,.box [.b 1001 0]),(1001,.box (b5 x1.2)),(1002,.box [vi f]),(1003,.box [vi g]),(1004,.box [vi i])]⟩ ?_ ?_
 ·refine rg ?_;have ⟨x2,ak,ν⟩:=ι ν;refine ⟨_,rfl,?_⟩;refine ae.call (Za ak) lz ?_;have ⟨c3,Δ,ν⟩:=ι ν;refine Br.ite Δ (fun hb Δ=>?_) fun hb Δ=>?_
  ·have ⟨c2,aF,Δ⟩:=ι Δ;refine Br.eh aF (fun hb aF=>?_) fun hb aF=>?_
   ·cases aF;cases Δ;cases ν;exact wt Q1 ⟨hr,J4⟩ rfl
   have ⟨c1,aM,aF⟩:=ι aF;refine Br.ite aM (fun hb aM=>?_) fun hb aM=>?_
   ·refine ⟨_,rfl,_,ax _,fun _=>?_⟩;cases aM;cases aF;cases Δ;cases ν;exact wt Q1 ⟨hr,J4⟩ rfl
   cases aM;cases aF;cases Δ;cases ν;exact wt Q1 ⟨hr,J4⟩ rfl
  cases Δ;cases ν;exact wt Q1 ⟨hr,J4⟩ rfl
 refine rt ?_;cases h;exact wt Q1 ⟨hr,J4⟩ rfl
def akA {a d e f g r} (h:KF a d e f g=some r):ae prog 279 [.s (mI a),.c (.func 244) [] [.b 1000 0,.b 1002 0,.b 1003 0,.b 1004 0]] ⟨aG,[(1000,.box [.b 1001 0]),(1001,.box (b5 d)),(1002,.box [vi e]),(1003,.box [vi f]),(1004,.box [vi g])]⟩ fun x s=>x=(vi r.1)∧s.H=[(1000,.box [.b 1001 0]),(1001,.box (k0 r.2.1 r.2.2.1 r.2.2.2)),(1002,.box [vi e]),(1003,.box [vi f]),(1004,.box [vi g])]:=by
 refine pg tok 19 func279 ?_;unfold KF at h;refine sg (Ok.eC (fun v1=>⟨aq [],[(1000,.box [.b 1001 0]),(1001,.box (k0 v1.1 v1.2.1 v1.2.2)),(1002,.box [vi e]),(1003,.box [vi f]),(1004,.box [vi g])]⟩) (fun v1=>KG v1=some r) ?_ ?_)
 ·refine sg ⟨_,ax _,fun _=>?_⟩;refine bl (Ok.loop (fun (s1:Int×fU)=>⟨aq [(0,.s (mI a)),(1,.c (.func 244) [] [.b 1000 0,.b 1002 0,.b 1003 0,.b 1004 0]),(7,vi (a.length:Int)),(8,vi s1.1)],[(1000,.box [.b 1001 0]),(1001,.box (k0 s1.2.1 s1.2.2.1 s1.2.2.2)),(1002,.box [vi e]),(1003,.box [vi f]),(1004,.box [vi g])]⟩) (Cs a e f g) (s0:=(0,d.Tree.η,d.Tree.Next,d.Tree.aj)) h (wt Q4 ⟨hr,hr,hr,hr,hr,Q0⟩ rfl) ?_);intro s1 y1 ζ aL;unfold Cs at ζ;refine sg (sq (ct ζ (fun hb ζ=>?_) fun hb ζ=>?_))
  ·refine sk (sq (bl (sg ?_)));refine sg ?_;have ⟨x1,Θ,ζ⟩:=ι ζ;have ⟨x2,ak,ζ⟩:=ι ζ;refine ⟨_,bq Θ,_,br Θ,_,rfl,?_⟩;refine cg [(1000,1000),(1001,1001),(1002,1002),(1003,1003),(1004,1004)] [] (akB ak) (n1 (.cons (Ln.b rfl) (.cons (Ln.b rfl) (.cons (Ln.b rfl) (.cons (Ln.b rfl) .nil))))) ⟨⟨1000,_,rfl,rfl,.box (.cons (Ln.b rfl) .nil)⟩,⟨1001,_,rfl,rfl,.box nq⟩,⟨1002,_,rfl,rfl,.box nq⟩,⟨1003,_,rfl,rfl,.box nq⟩,⟨1004,_,rfl,rfl,.box nq⟩,Q0⟩ ?_;refine ct ζ (fun hb ζ=>?_) fun hb ζ=>?_
   ·refine sg (rt ?_);have ζ:=bd ζ aL;cases ζ;exact wt Q1 ⟨hr,J4⟩ rfl
   refine sk (rg ?_);have ⟨ar,ζ⟩:=aC ζ;refine (ψ ⟨ar,?_⟩);exact ⟨_,sj ζ,wt Q4 ⟨hr,J4⟩ rfl⟩
  refine xt ?_;have ζ:=bd ζ aL;exact ⟨_,ζ,wt Q0 ⟨hr,hr,hr,hr,hr,Q0⟩ rfl⟩
 intro v1 h;unfold KG at h;refine sg (rt ?_);cases h;exact wt Q1 ⟨hr,J4⟩ rfl
def akx {g a d e f r} (h:Ku g a d e f=some r):ae prog 243 [.s (mI g),.c (.func 244) [] [.b 1000 0,.b 1002 0,.b 1003 0,.b 1004 0]] ⟨aG,[(1000,.box [.b 1001 0]),(1001,.box (b5 a)),(1002,.box [vi d]),(1003,.box [vi e]),(1004,.box [vi f])]⟩ fun x s=>x=(vb r.1)∧s.H=[(1000,.box [.b 1001 0]),(1001,.box (k0 r.2.1 r.2.2.1 r.2.2.2)),(1002,.box [vi d]),(1003,.box [vi e]),(1004,.box [vi f])]:=by
 refine pg tok 9 func243 ?_;unfold Ku at h;refine sg (sg ?_);have ⟨x1,Θ,h⟩:=ι h;refine cg [(1000,1000),(1001,1001),(1002,1002),(1003,1003),(1004,1004)] [] (akA Θ) (n1 (.cons (Ln.c .nil (.cons (Ln.b rfl) (.cons (Ln.b rfl) (.cons (Ln.b rfl) (.cons (Ln.b rfl) .nil))))) .nil)) ⟨⟨1000,_,rfl,rfl,.box (.cons (Ln.b rfl) .nil)⟩,⟨1001,_,rfl,rfl,.box nq⟩,⟨1002,_,rfl,rfl,.box nq⟩,⟨1003,_,rfl,rfl,.box nq⟩,⟨1004,_,rfl,rfl,.box nq⟩,Q0⟩ ?_;refine rt ?_;cases h;exact wt Q1 ⟨hr,J4⟩ rfl
def aj5 {self a d r} (h:Gz self a d=some r):mz prog 188 [.b 1000 0,vi a,vi d] (.box (b5 self)) (fun x c=>x=(vb r.1)∧c=.box (b5 r.2)):=by
 refine qv (n:=18) (c:=f188.body.getD .skip) tok func188 (by kernel_rfl) rfl rfl nb ?_;unfold Gz at h;refine sg (sg ?_);have ⟨x1,Θ,h⟩:=ι h;refine ⟨_,rfl,_,rfl,?_⟩;refine ae.dE (id:=1000) (Zj Θ) rfl (.box lz) rfl (.cons (Lr.b) (.cons (Lr.dL rfl) .nil)) ?_;rintro _ _ ⟨rfl,rfl⟩;refine ⟨_,rfl,?_⟩;refine sg ?_;have ⟨x2,ak,h⟩:=ι h;refine ⟨_,rfl,_,rfl,?_⟩;refine cg [(1000,3),(1001,1000),(1002,5),(1003,7),(1004,4)] [] (akx ak) (n1 (.cons (Ln.c .nil (.cons (Ln.b rfl) (.cons (Ln.b rfl) (.cons (Ln.b rfl) (.cons (Ln.b rfl) .nil))))) .nil)) ⟨⟨3,_,rfl,rfl,.box (.cons (Ln.b rfl) .nil)⟩,⟨1000,_,rfl,rfl,.box nq⟩,⟨5,_,rfl,rfl,.box nq⟩,⟨7,_,rfl,rfl,.box nq⟩,⟨4,_,rfl,rfl,.box nq⟩,Q0⟩ ?_;refine rt ?_;cases h;exact ⟨_,_,⟨rfl,rfl⟩,rfl,rfl,Fz.v⟩
def akC {g d e f r} (h:GD g d e f=some r):ae prog 168 [.b 1000 0,vi g,vs d,vi e] ⟨aG,[(1000,.box (b5 f))]⟩ fun x s=>x=(.t [])∧s.H=[(1000,.box [.o 999,vi r.1,vi r.2.1]),(999,.own 44 6 (mI r.2.2))]:=by
 refine pg tok 51 func168 ?_;unfold GD at h;refine sg ?_;have ⟨x1,Θ,h⟩:=ι h;refine ae.dE (id:=1000) (qA Θ) rfl (.box lz) rfl (.cons (Lr.b) (.cons (Lr.dL rfl) .nil)) ?_;rintro _ _ ⟨rfl,rfl⟩;refine ⟨_,rfl,?_⟩;refine sg ?_;have ⟨x2,ak,h⟩:=ι h;refine ⟨_,rfl,?_⟩;refine ae.call (CV ak) lz ?_;refine sq (Ok.mO (E:=bf) (chain:=[(2,[3,4,5,6,7,8,9,10,11,12,14]),(13,[14]),(15,[])]) tok mixed (by kernel_rfl) ?_);have ⟨x3,aK,h⟩:=ι h;refine ⟨_,rfl,_,⟨_,rfl,rfl⟩,_,rfl,_,rfl,_,rfl,_,rfl,_,rfl,_,rfl,_,rfl,_,⟨_,rfl,rfl⟩,_,rfl,_,rfl,_,rfl,?_⟩;refine ψ (ae.own (D:=26) (Lc aK) lz rfl ?_);have ⟨ar,h⟩:=aC h;refine ⟨⟨⟨_,rfl,rfl⟩,⟨_,rfl,rfl⟩,⟨_,rfl,rfl⟩,⟨_,rfl,rfl⟩,⟨_,rfl,rfl⟩,⟨_,rfl,rfl⟩,⟨_,rfl,rfl⟩,⟨_,rfl,_,rfl,rfl⟩,⟨_,rfl,rfl⟩,⟨_,rfl,rfl⟩,⟨_,rfl,rfl⟩,Q0⟩,?_⟩;refine ψ (cg [(1000,26)] [(900,26)] (Vw x3 x2.1 ([(⟨d,e,x1.2.Tree.aj⟩:aP)]) ar) (.cons (Ln.o rfl) nq) ⟨⟨26,_,rfl,rfl,.refl rfl⟩,Q0⟩ ?_);refine ⟨⟨⟨_,rfl,rfl⟩,Q0⟩,ψ (⟨_,rfl,Q0,?_⟩)⟩;refine sg ?_;have ⟨bu,h⟩:=aC h;refine ⟨_,rfl,ψ ⟨bu,_,rfl,?_⟩⟩;refine rg ?_;have ⟨x4,bn,h⟩:=ι h;refine ⟨_,rfl,?_⟩;refine cg [(1000,1000),(1001,26)] [(19,999)] (Rg bn) (.cons (Ln.b rfl) (.cons (Ln.a (n4 (.cons (Ln.o rfl) nq))) .nil)) ⟨⟨1000,_,rfl,rfl,.box nq⟩,⟨26,_,rfl,rfl,.refl rfl⟩,Q0⟩ ?_;cases h;exact wt Q1 J2 rfl
def aj1 {c f g d e r} (h:CE c f g d e=some r):Pure prog 120 [.a (b0 c),vi f,vs g,vi d,vs e] (.t [.a (b0 r.1),vi r.2.1,vi r.2.2]):=by
 refine pq tok 173 func120 ?_;unfold CE at h;refine sg (sg ?_);have ⟨x1,Θ,h⟩:=ι h;refine ⟨_,rfl,?_⟩;refine ae.call (K_ Θ) lz ?_;refine sq (sg ?_);refine ct h (fun hb h=>?_) fun hb h=>?_
 ·refine sg ⟨_,rfl,_,rfl,?_⟩;refine rt ?_;cases h;exact ⟨_,rfl,Fz.t fq⟩
 refine sk (sg ?_);refine ⟨_,rfl,?_⟩;refine sg ?_;have ⟨x2,ak,h⟩:=ι h;refine ae.dE (id:=38) (Lb ak) rfl (.box lz) rfl (.cons (Lr.b) (.cons (Lr.dL rfl) .nil)) ?_;rintro _ _ ⟨rfl,rfl⟩;refine ⟨_,rfl,?_⟩;refine sq (sg ?_);refine ct h (fun hb h=>?_) fun hb h=>?_
 ·refine sg ⟨_,rfl,_,rfl,?_⟩;refine rt ?_;cases h;exact ⟨_,rfl,Fz.t fq⟩
 refine sk (sq (sg ?_));have ⟨x3,aK,h⟩:=ι h;refine ae.call (K9 aK) lz ?_;refine ct h (fun hb h=>?_) fun hb h=>?_
 ·refine sg ⟨_,rfl,_,rfl,?_⟩;refine rt ?_;cases h;exact ⟨_,rfl,Fz.t fq⟩
 refine sk (sg ?_);have ⟨x4,bn,h⟩:=ι h;refine ae.dE (id:=38) (qA bn) rfl (.box lz) rfl (.cons (Lr.b) (.cons (Lr.dL rfl) .nil)) ?_;rintro _ _ ⟨rfl,rfl⟩;refine ⟨_,rfl,?_⟩;refine sg (sg ?_);have ⟨x5,dr,h⟩:=ι h;refine ⟨_,rfl,?_⟩;refine ae.call (CV dr) lz ?_;have ⟨v1,ν,h⟩:=ι h;refine Ok.bg ⟨aq [(1,vi f),(2,vs g),(3,vi d),(4,vs e),(5,.b 5 0),(10,.b 10 0),(13,vi x1.1),(15,.b 38 0),(16,.b 16 0),(17,.b 17 0),(19,.b 19 0),(21,vb x5.2)],[(5,.box (b0 c)),(10,.box (k1 0 0)),(38,.box (k0 v1.1 v1.2.1 v1.2.2.1)),(16,.box (b4 x2.1.1)),(17,.box (b4 x4.1.1)),(19,.box (k8 v1.2.2.2.1 v1.2.2.2.2.1 v1.2.2.2.2.2.1 v1.2.2.2.2.2.2.1 v1.2.2.2.2.2.2.2.1 (t8 v1)))]⟩ ?_ ?_
 ·refine sg (ct ν (fun hb ν=>?_) fun hb ν=>?_)
  ·refine rg ?_;have ⟨x6,gw,ν⟩:=ι ν;have ⟨x7,gg,ν⟩:=ι ν;refine ⟨_,rfl,_,bq gw,_,br gw,_,rfl,?_⟩;refine ae.dE (id:=38) (qA gg) rfl (.box lz) rfl (.cons (Lr.b) (.cons (Lr.dL rfl) .nil)) ?_;rintro _ _ ⟨rfl,rfl⟩;refine ⟨_,rfl,?_⟩;cases ν;exact wt ⟨lr,lr,lr,lr,Q8⟩ ⟨hr,hr,J4⟩ rfl
  refine sk ?_;cases ν;exact wt ⟨lr,lr,lr,lr,Q8⟩ ⟨hr,hr,hr,hr,hr,⟨_,rfl,.box (l2 (l1 (.cons (Le.nil) (.cons (Le.nil) lz))))⟩,Q0⟩ rfl
 refine sq (sg ?_);refine ⟨_,rfl,?_⟩;refine ct h (fun hb h=>?_) fun hb h=>?_
 ·refine sg ⟨_,rfl,_,rfl,?_⟩;refine rt ?_;cases h;exact ⟨_,rfl,Fz.t fq⟩
 refine sk (sg ?_);have ⟨x8,jl,h⟩:=ι h;refine ae.dE (id:=38) (Rc jl) rfl (.box lz) rfl (.cons (Lr.b) (.cons (Lr.dL rfl) .nil)) ?_;rintro _ _ ⟨rfl,rfl⟩;refine sq ?_;have ⟨v2,aw,h⟩:=ι h;refine Ok.bg ⟨aq [(1,vi f),(2,vs g),(3,vi d),(4,vs e),(5,.b 5 0),(10,.b 10 0),(13,vi x1.1),(15,.b 38 0),(16,.b 16 0),(17,.b 17 0),(19,.b 19 0),(21,vb x5.2),(22,.s (mB x8.1)),(92,vb v2)],[(5,.box (b0 c)),(10,.box (k1 0 0)),(38,.box (b5 x8.2)),(16,.box (b4 x2.1.1)),(17,.box (b4 x4.1.1)),(19,.box (k8 v1.2.2.2.1 v1.2.2.2.2.1 v1.2.2.2.2.2.1 v1.2.2.2.2.2.2.1 v1.2.2.2.2.2.2.2.1 (t8 v1)))]⟩ ?_ ?_
 ·refine rg ⟨_,rfl,?_⟩;have ⟨c1,Δ,aw⟩:=ι aw;refine Br.ite Δ (fun hb Δ=>?_) fun hb Δ=>?_
  ·have ⟨x9,jV,Δ⟩:=ι Δ;refine ae.call (Za jV) lz ?_;cases Δ;cases aw;exact wt ⟨lr,lr,lr,lr,lr,lr,Q8⟩ ⟨hr,hr,J4⟩ rfl
  cases Δ;cases aw;exact wt ⟨lr,lr,lr,lr,lr,lr,Q8⟩ ⟨hr,hr,J4⟩ rfl
 refine ct h (fun hb h=>?_) fun hb h=>?_
 ·refine sg ⟨_,rfl,_,rfl,?_⟩;refine rt ?_;cases h;exact ⟨_,rfl,Fz.t fq⟩
 refine sk (Ok.eC (fun v3=>⟨aq [(1,vi f),(2,vs g),(3,vi d),(4,vs e),(5,.b 5 0),(10,.b 10 0),(13,vi x1.1),(15,.b 38 0),(16,.b 16 0),(17,.b 17 0),(19,.b 19 0),(21,vb x5.2),(22,.s (mB x8.1))],[(5,.box (b0 c)),(10,.box (k1 0 0)),(38,.box (b5 x8.2)),(16,.box (b4 x2.1.1)),(17,.box (b4 x4.1.1)),(19,.box (k8 v1.2.2.2.1 v1.2.2.2.2.1 v1.2.2.2.2.2.1 v1.2.2.2.2.2.2.1 v1.2.2.2.2.2.2.2.1 (t8 v1)))]⟩) (fun v3=>CF x5 d f x2 x8 x4 x1 c g e v1 v3=some r) ?_ ?_)
 ·refine sg (ct h (fun hb h=>?_) fun hb h=>?_)
  ·refine sg ?_;have ⟨fV,qq,h⟩:=ι h;refine ⟨_,rfl,_,rfl,?_⟩;refine ae.call (aj6 qq) lz ?_;refine sg (ct h (fun hb h=>?_) fun hb h=>?_)
   ·refine sg ⟨_,rfl,_,rfl,?_⟩;refine rt ?_;cases h;exact ⟨_,rfl,Fz.t fq⟩
   refine sk ?_;exact ⟨_,h,wt ⟨lr,lr,lr,lr,lr,Q8⟩ ⟨hr,hr,hr,hr,hr,hr,Q0⟩ rfl⟩
  refine sk ?_;exact ⟨_,h,wt ⟨lr,lr,lr,lr,lr,Q8⟩ ⟨hr,hr,hr,hr,hr,hr,Q0⟩ rfl⟩
 intro v3 h;unfold CF at h;have ⟨v4,jj,h⟩:=ι h;refine Ok.bg ⟨aq [(1,vi f),(2,vs g),(3,vi d),(4,vs e),(5,.b 5 0),(10,.b 10 0),(13,vi x1.1),(15,.b 38 0),(17,.b 17 0),(19,.b 19 0),(21,vb x5.2),(22,.s (mB x8.1)),(24,vb v4)],[(5,.box (b0 c)),(10,.box (k1 0 0)),(38,.box (b5 x8.2)),(17,.box (b4 x4.1.1)),(19,.box (k8 v1.2.2.2.1 v1.2.2.2.2.1 v1.2.2.2.2.2.1 v1.2.2.2.2.2.2.1 v1.2.2.2.2.2.2.2.1 (t8 v1)))]⟩ ?_ ?_
 ·refine rg ?_;have ⟨c2,aF,jj⟩:=ι jj;refine Br.ite aF (fun hb aF=>?_) fun hb aF=>?_
  ·cases aF;have ⟨c3,aM,jj⟩:=ι jj;refine Br.ite aM (fun hb aM=>?_) fun hb aM=>?_
   ·refine ⟨_,rfl,_,ax _,fun _=>?_⟩;cases aM;cases jj;exact wt ⟨lr,lr,lr,lr,lr,Q8⟩ ⟨hr,J4⟩ rfl
   cases aM;cases jj;exact wt ⟨lr,lr,lr,lr,lr,Q8⟩ ⟨hr,J4⟩ rfl
  cases aF;have ⟨c3,cC,jj⟩:=ι jj;replace cC:=cL cC;cases cC;cases jj;exact wt ⟨lr,lr,lr,lr,lr,Q8⟩ ⟨hr,J4⟩ rfl
 refine sq ?_;have ⟨v5,eA,h⟩:=ι h;refine Ok.bg ⟨aq [(1,vi f),(2,vs g),(3,vi d),(4,vs e),(5,.b 5 0),(10,.b 10 0),(13,vi x1.1),(15,.b 38 0),(17,.b 17 0),(19,.b 19 0),(21,vb x5.2),(140,vb v5.1)],[(5,.box (b0 c)),(10,.box (k1 0 0)),(38,.box (k0 v5.2.1 v5.2.2.1 v5.2.2.2)),(17,.box (b4 x4.1.1)),(19,.box (k8 v1.2.2.2.1 v1.2.2.2.2.1 v1.2.2.2.2.2.1 v1.2.2.2.2.2.2.1 v1.2.2.2.2.2.2.2.1 (t8 v1)))]⟩ ?_ ?_
 ·refine rg ?_;have ⟨c4,cU,eA⟩:=ι eA;refine Br.eh cU (fun hb cU=>?_) fun hb cU=>?_
  ·cases cU;have ⟨c6,dA,eA⟩:=ι eA;replace dA:=ee dA;cases dA;have ⟨c7,et,eA⟩:=ι eA;replace et:=ee et;cases et;cases eA;exact wt ⟨lr,lr,lr,lr,Q8⟩ ⟨hr,J4⟩ rfl
  refine ⟨_,ax _,fun _=>?_⟩;cases cU;have ⟨c6,fa,eA⟩:=ι eA;refine Br.eh fa (fun hb fa=>?_) fun hb fa=>?_
  ·cases fa;have ⟨c7,gb,eA⟩:=ι eA;replace gb:=ee gb;cases gb;cases eA;exact wt ⟨lr,lr,lr,lr,Q8⟩ ⟨hr,J4⟩ rfl
  refine ⟨_,rfl,?_⟩;have ⟨c5,eS,fa⟩:=ι fa;refine Br.ite eS (fun hb eS=>?_) fun hb eS=>?_
  ·have ⟨iX,oN,eS⟩:=ι eS;refine ⟨_,ax _,fun _=>?_⟩;refine ae.dE (id:=38) (aj5 oN) rfl (.box lz) rfl (.cons (Lr.b) (.cons (Lr.dL rfl) (.cons (Lr.dL rfl) .nil))) ?_;rintro _ _ ⟨rfl,rfl⟩;cases eS;cases fa;have ⟨c7,gG,eA⟩:=ι eA;refine Br.eh gG (fun hb gG=>?_) fun hb gG=>?_
   ·cases gG;cases eA;exact wt ⟨lr,lr,lr,lr,Q8⟩ ⟨hr,J4⟩ rfl
   refine ⟨_,rfl,?_⟩;cases gG;cases eA;exact wt ⟨lr,lr,lr,lr,Q8⟩ ⟨hr,J4⟩ rfl
  cases eS;cases fa;have ⟨c7,gH,eA⟩:=ι eA;replace gH:=cL gH;refine ⟨_,rfl,?_⟩;cases gH;cases eA;exact wt ⟨lr,lr,lr,lr,Q8⟩ ⟨hr,J4⟩ rfl
 refine ct h (fun hb h=>?_) fun hb h=>?_
 ·refine sg ⟨_,rfl,_,rfl,?_⟩;refine rt ?_;cases h;exact ⟨_,rfl,Fz.t fq⟩
 refine sk (sg ?_);have ⟨fE,oO,h⟩:=ι h;refine cg [(1000,38)] [] (Rf oO) (.cons (Ln.b rfl) nq) ⟨⟨38,_,rfl,rfl,.box nq⟩,Q0⟩ ?_;have ⟨v6,oK,h⟩:=ι h;refine Ok.bg ⟨aq [(3,vi d),(4,vs e),(10,.b 10 0),(13,vi x1.1),(15,.b 38 0),(17,.b 17 0),(19,.b 19 0)],[(10,.box (k1 0 0)),(38,.box (k0 v6.1 v6.2.1 v6.2.2)),(17,.box (b4 x4.1.1)),(19,.box (k8 v1.2.2.2.1 v1.2.2.2.2.1 v1.2.2.2.2.2.1 v1.2.2.2.2.2.2.1 v1.2.2.2.2.2.2.2.1 (t8 v1)))]⟩ ?_ ?_
 ·refine sg (ct oK (fun hb oK=>?_) fun hb oK=>?_)
  ·refine sg ?_;have ⟨nk,uV,oK⟩:=ι oK;refine cg [(1000,38)] [] (Rf uV) (.cons (Ln.b rfl) nq) ⟨⟨38,_,rfl,rfl,.box nq⟩,Q0⟩ ?_;refine rg ?_;have ⟨nn,s7,oK⟩:=ι oK;refine ⟨_,rfl,?_⟩;refine cg [(1000,38)] [] (Zp s7) (.cons (Ln.b rfl) nq) ⟨⟨38,_,rfl,rfl,.box nq⟩,Q0⟩ ?_;cases oK;exact wt Q7 J4 rfl
  refine sk ?_;cases oK;exact wt Q7 J4 rfl
 have ⟨v7,zr,h⟩:=ι h;refine Ok.bg ⟨aq [(3,vi d),(4,vs e),(10,.b 10 0),(13,vi x1.1),(15,.b 38 0),(19,.b 19 0)],[(10,.box (k1 0 0)),(38,.box (k0 v7.1 v7.2.1 v7.2.2)),(19,.box (k8 v1.2.2.2.1 v1.2.2.2.2.1 v1.2.2.2.2.2.1 v1.2.2.2.2.2.2.1 v1.2.2.2.2.2.2.2.1 (t8 v1)))]⟩ ?_ ?_
 ·refine sg ⟨_,rfl,?_⟩;refine ct zr (fun hb zr=>?_) fun hb zr=>?_
  ·refine sg ⟨_,rfl,?_⟩;refine rg ?_;have ⟨tZ,EN,zr⟩:=ι zr;refine ⟨_,rfl,?_⟩;refine cg [(1000,38)] [(19,999)] (GO EN) (.cons (Ln.b rfl) nq) ⟨⟨38,_,rfl,rfl,.box nq⟩,Q0⟩ ?_;cases zr;exact (Wk.freeze (id:=999) rfl).trans (wt Q6 ⟨hr,hr,hr,Q0⟩ rfl)
  refine sk ?_;cases zr;exact wt Q6 J3 rfl
 refine sg ?_;have ⟨t_,EO,h⟩:=ι h;refine cg [(1000,38)] [(999,998)] (akC EO) (.cons (Ln.b rfl) nq) ⟨⟨38,_,rfl,rfl,.box nq⟩,Q0⟩ ?_;refine sq (Ok.qb (m:=6) (late:=[4,5]) (MD:=⟨[]⟩) (CH:=⟨[]⟩) tok mixed (by kernel_rfl) ?_);refine ⟨_,rfl,_,rfl,_,rfl,_,⟨_,rfl,rfl⟩,_,rfl,_,⟨_,rfl,rfl⟩,Q0,?_⟩;refine ⟨_,rfl,⟨⟨_,rfl,rfl⟩,⟨_,rfl,_,rfl,rfl⟩,Q0⟩,?_⟩;refine rt ?_;cases h;exact ⟨_,rfl,Fz.t (.cons (Fz.a (.cons (Fz.o rfl) fq)) fq)⟩
def akj [o8] {C D F G I J K L a N d e f g i j k l u B w z A} {q:Int⊕(oc)} (h:D0 C D F G I J K L a N d e f g i j k l u B w z A=some q):fM prog bf 66 [.b 1000 0] ⟨aG,[(1000,.box (cV C D F G I J K L a N d e f g i j k l u B w z A))]⟩ (fun x s=>∃y:oc,q=.inr y∧x=(.t [])∧s.H=[(1000,.box [.s (mI y.1),vi y.2.1,vi y.2.2.1,vi y.2.2.2.1,.s (mB y.2.2.2.2.1),.s (mC y.2.2.2.2.2.1),.s (mA y.2.2.2.2.2.2.1),vi y.2.2.2.2.2.2.2.1,.s (mE a),.o 999,vi d,vi e,vs f,vs g,vi i,vi j,vi k,.s (mU l),vi u,vi (t8 y).1,vi w,vi z,vi A,zs,zs]),(999,.own 86 3 (mD (t8 y).2))]) fun m s=>q=.inl m∧s.H=[]:=by
 refine px tok 74 func66 ?_;unfold D0 at h;refine sq (Ok.cY bf tok ?_);have ⟨x1,Θ,h⟩:=ι h;refine ψ (ψ (ψ (ψ (ψ (ψ (⟨_,rfl,?_⟩))))));refine bV (cx [(1000,1000)] [] (GM Θ) (.cons (Ln.b rfl) nq) ⟨⟨1000,_,rfl,rfl,.box nq⟩,Q0⟩ (fun e1 bE=>?_) (fun y1 c_=>?_))
 ·have h:=cu h bE;cases h;exact ⟨_,rfl,rfl⟩
 have h:=cw h c_;refine ψ (ψ (ψ (ψ (ψ ?_))));refine sq (Ok.cY bf tok ?_);have ⟨x2,ak,h⟩:=ι h;refine ψ (ψ (ψ (ψ (ψ (ψ (⟨_,rfl,?_⟩))))));refine bV (cx [(1000,1000)] [] (GM ak) (.cons (Ln.b rfl) nq) ⟨⟨1000,_,rfl,rfl,.box nq⟩,Q0⟩ (fun e2 dV=>?_) (fun y2 ew=>?_))
 ·have h:=cu h dV;cases h;exact ⟨_,rfl,rfl⟩
 have h:=cw h ew;refine ψ (ψ (ψ (ψ (ψ ?_))));refine sg ?_;have ⟨x3,aK,h⟩:=ι h;refine ⟨_,rfl,?_⟩;refine ae.call (K_ aK) lz ?_;refine sq (Ok.cY bf tok ?_);have ⟨x4,bn,h⟩:=ι h;refine ψ (bV (cx [] [] (kz bn) nq Q0 (fun e3 jQ=>?_) (fun y3 jD=>?_)))
 ·have h:=cu h jQ;cases h;exact ⟨_,rfl,rfl⟩
 have h:=cw h jD;refine sg ?_;have ⟨x5,dr,h⟩:=ι h;refine ⟨_,rfl,?_⟩;refine ae.call (aj1 dr) lz ?_;refine ⟨_,rfl,?_⟩;refine sq (Ok.cY bf tok ?_);have ⟨x6,gw,h⟩:=ι h;refine ψ (bV (cx [] [] (kz gw) nq Q0 (fun e4 kb=>?_) (fun y4 uU=>?_)))
 ·have h:=cu h kb;cases h;exact ⟨_,rfl,rfl⟩
 have h:=cw h uU;refine sq (Ok.mO (E:=bf) (chain:=[(7,[])]) tok mixed (by kernel_rfl) ?_);have ⟨x7,gg,h⟩:=ι h;refine ⟨_,rfl,_,⟨_,rfl,rfl⟩,_,rfl,_,rfl,_,rfl,_,rfl,_,⟨_,rfl,rfl⟩,?_⟩;refine bV (cx [(1000,1000)] [(35,999)] (An gg) (.cons (Ln.b rfl) nq) ⟨⟨1000,_,rfl,rfl,.box nq⟩,Q0⟩ (fun e5 Nn=>?_) (fun y5 EF=>?_))
 ·have h:=cu h Nn;cases h;exact ⟨_,rfl,rfl⟩
 have h:=cw h EF;refine ⟨Q0,?_⟩;refine rg ⟨_,rfl,?_⟩;cases h;exact ⟨_,rfl,wt Q1 J2 rfl⟩
def ajX {c d r} (h:QC c d=some r):Pure prog 191 [.a (b6 c),.p [vi d]] (vb r):=by
 refine pq tok 8 func191 ?_;unfold QC at h;refine sg (sg ⟨_,rfl,_,rfl,?_⟩);refine rt ?_;cases h;exact Fz.v
end Go.Proofs
