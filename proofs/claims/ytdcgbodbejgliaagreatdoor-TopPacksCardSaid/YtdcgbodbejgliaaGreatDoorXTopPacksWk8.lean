/- The walks of this seat beside the plain programs, part 8. No condition. -/
import Derived.Test.YtdcgbodbejgliaaGreatDoorXTopPacksWk7
open List renaming length_map → ax, map_append → eI
open Or renaming inl → ψ
namespace Go.Proofs
set_option linter.all false
open Go Go.Cat Tryz
variable [M:cM]
set_option maxRecDepth 100000
set_option maxHeartbeats 4000000
def ai' {a r} (h:E0 a=some r):Pure prog 9 [.s (mH a)] (vb r):=by
 refine pq tok 18 func9 ?_;unfold E0 at h;refine sg (sq (sg ?_));refine ⟨_,ax _,fun _=>?_⟩;refine ct h (fun hb h=>?_) fun hb h=>?_
 ·refine sg (rt ?_);cases h;exact Fz.v
 refine sk (Ok.eC (fun v1=>⟨aq [],[]⟩) (fun v1=>OO v1=some r) ?_ ?_)
 ·refine sg (bl (Ok.loop (fun (s1:Int)=>⟨aq [(0,.s (mH a)),(3,vi s1)],[]⟩) (Jh a) (s0:=0) h (wt Q2 Q0 rfl) ?_));intro s1 y1 ζ aL;unfold Jh at ζ;refine sq (sg ?_);refine ⟨_,ax _,fun _=>?_⟩;refine ct ζ (fun hb ζ=>?_) fun hb ζ=>?_
  ·refine sk (sq (bl (sg ?_)));have ⟨x1,Θ,ζ⟩:=ι ζ;have ⟨x2,ak,ζ⟩:=ι ζ;refine ⟨_,bq Θ,_,br Θ,_,rfl,?_⟩;refine ae.call (aja ak) lz ?_;refine ct ζ (fun hb ζ=>?_) fun hb ζ=>?_
   ·refine sg (rt ?_);have ζ:=bd ζ aL;cases ζ;exact Fz.v
   refine sk (rg ?_);have ⟨ar,ζ⟩:=aC ζ;refine (ψ ⟨ar,?_⟩);exact ⟨_,sj ζ,wt Q2 Q0 rfl⟩
  refine xt ?_;have ζ:=bd ζ aL;exact ⟨_,ζ,wt Q0 Q0 rfl⟩
 intro v1 h;unfold OO at h;refine sg (rt ?_);cases h;exact Fz.v
def akH {c r} (h:BZ c=some r):iN prog 19 [.a (ju c)] 5 1 (mU r):=by
 refine pv tok 39 func19 ?_;unfold BZ at h;refine sg (sg ?_);have ⟨x1,Θ,h⟩:=ι h;refine ⟨_,rfl,_,rfl,_,rfl,_,rfl,_,rfl,_,rfl,_,ax _,fun _=>ψ ?_⟩;refine ae.own (D:=20) (Ri Θ) lz rfl ?_;have ⟨v1,ν,h⟩:=ι h;refine Ok.bg ⟨aq [(1,.b 1 0),(3,.o 20)],[(1,.box (ju c)),(20,.own 5 1 (mU v1))]⟩ ?_ ?_
 ·refine sg ⟨_,rfl,_,ax _,fun _=>?_⟩;refine bl (Ok.loop (fun (s1:Int×(List UInt8))=>⟨aq [(1,.b 1 0),(3,.o 20),(22,.s (mG c.da)),(23,vi (c.da.length:Int)),(24,vi s1.1)],[(1,.box (ju c)),(20,.own 5 1 (mU s1.2))]⟩) (JK c) (s0:=(0,x1)) ν (wt Q5 ⟨hr,hr,Q0⟩ rfl) ?_);intro s1 y1 ζ aL;unfold JK at ζ;refine sg (sq (ct ζ (fun hb ζ=>?_) fun hb ζ=>?_))
  ·refine sk (sq (bl (sg ?_)));have ⟨x2,ak,ζ⟩:=ι ζ;refine ⟨_,bq ak,_,br ak,_,rfl,?_⟩;refine rg ?_;have ⟨x3,aK,ζ⟩:=ι ζ;refine ae.call (GK aK) lz ?_;have ⟨ar,ζ⟩:=aC ζ;refine ⟨gy (f:=dD) (n:=1) (fun _=>rfl) x3,gQ (f:=dD) (l:=s1.2) (l':=x3) ar,_,(eI (f:=dD) (l₁:=s1.2) (l₂:=x3)).symm,?_⟩;refine rg ?_;have ⟨bu,ζ⟩:=aC ζ;refine (ψ ⟨bu,?_⟩);exact ⟨_,sj ζ,wt Q5 J2 rfl⟩
  refine xt ?_;have ζ:=bd ζ aL;cases ζ;exact wt Q2 J2 rfl
 refine sg ?_;have ⟨x4,bn,h⟩:=ι h;refine ⟨_,rfl,_,rfl,?_⟩;refine ae.call (GK bn) lz ?_;have ⟨dU,h⟩:=aC h;refine ⟨gy (f:=dD) (n:=1) (fun _=>rfl) x4,gQ (f:=dD) (l:=v1) (l':=x4) dU,_,(eI (f:=dD) (l₁:=v1) (l₂:=x4)).symm,?_⟩;refine rt ?_;cases h;exact (.inr ⟨_,rfl,rfl⟩)
def ajd {b r} (h:BZ b=some r):Pure prog 19 [.a (ju b)] (.s (mU r)):=(akH h).pure
def ajf {c r} (h:Fs c=some r):Pure prog 18 [.s (mU c)] (.t [.a (ju r.1),vi r.2]):=by
 refine pq tok 54 func18 ?_;unfold Fs at h;refine sg (sg (sg (sg ?_)));have ⟨x1,Θ,h⟩:=ι h;refine ae.dE (id:=10) (rV Θ) rfl (.box lz) rfl (.cons (Lr.b) .nil) ?_;rintro _ _ ⟨rfl,rfl⟩;refine ⟨_,rfl,?_⟩;refine sg ?_;have ⟨x2,ak,h⟩:=ι h;refine ae.dE (id:=10) (rV ak) rfl (.box lz) rfl (.cons (Lr.b) .nil) ?_;rintro _ _ ⟨rfl,rfl⟩;have ⟨x3,aK,h⟩:=ι h;refine ae.dE (id:=10) (rV aK) rfl (.box lz) rfl (.cons (Lr.b) .nil) ?_;rintro _ _ ⟨rfl,rfl⟩;have ⟨x4,bn,h⟩:=ι h;refine ae.dE (id:=10) (rV bn) rfl (.box lz) rfl (.cons (Lr.b) .nil) ?_;rintro _ _ ⟨rfl,rfl⟩;have ⟨x5,dr,h⟩:=ι h;refine ae.dE (id:=10) (rV dr) rfl (.box lz) rfl (.cons (Lr.b) .nil) ?_;rintro _ _ ⟨rfl,rfl⟩;refine ⟨_,rfl,_,rfl,_,rfl,_,rfl,?_⟩;refine wT [(2,.b 2 0),(4,.b 10 0),(5,.b 5 0)] [(2,.box (iw 0 0 0 0 0)),(10,.box [.s (mU x5.2.gx.b_),vi x5.2.e_]),(5,.box (iw x1.1 x2.1 x3.1 x4.1 x5.1))] Q3 J3 rfl ?_;have ⟨v1,ν,h⟩:=ι h;refine Ok.bg ⟨aq [(2,.b 2 0),(4,.b 10 0),(5,.b 5 0)],[(2,.box (iw 0 0 0 0 0)),(10,.box [.s (mU v1.1),vi v1.2.1]),(5,.box [vi x1.1,vi x2.1,vi x3.1,vi x4.1,vi x5.1,.o 35,zs]),(35,.own 9 1 (mG v1.2.2))]⟩ ?_ ?_
 ·refine sg ?_;have ⟨x6,gw,ν⟩:=ι ν;refine ae.dE (id:=10) (Y1 gw) rfl (.box lz) rfl (.cons (Lr.b) .nil) ?_;rintro _ _ ⟨rfl,rfl⟩;refine bl (Ok.loop (fun (s1:Int×tW)=>⟨aq [(2,.b 2 0),(4,.b 10 0),(5,.b 5 0),(27,vi x6.1),(28,vi s1.1)],[(2,.box (iw 0 0 0 0 0)),(10,.box [.s (mU s1.2.1),vi s1.2.2.1]),(5,.box [vi x1.1,vi x2.1,vi x3.1,vi x4.1,vi x5.1,.o 35,zs]),(35,.own 9 1 (mG s1.2.2.2))]⟩) (JL x6) (s0:=(0,x6.2.gx.b_,x6.2.e_,[])) ν ((Wk.Fh (b:=5) (q:=5) (id:=35) (E:=9) (K:=1) rfl rfl rfl).trans (wt Q5 ⟨⟨_,rfl,.refl _⟩,⟨_,rfl,.refl _⟩,⟨_,rfl,.refl _⟩,⟨_,rfl,.refl _⟩,Q0⟩ rfl)) ?_);intro s1 y1 ζ aL;unfold JL at ζ;refine sg (sq (ct ζ (fun hb ζ=>?_) fun hb ζ=>?_))
  ·refine sk (sq (bl (sq (Ok.mO (E:=bf) (chain:=[(3,[0,1,6]),(4,[0,1,6]),(5,[6]),(7,[])]) tok mixed (by kernel_rfl) ?_))));have ⟨x7,gg,ζ⟩:=ι ζ;refine ⟨_,rfl,_,⟨_,rfl,rfl⟩,_,rfl,_,rfl,?_⟩;refine ψ (ae.dE (id:=10) (GL gg) rfl (.box lz) rfl (.cons (Lr.b) .nil) ?_);rintro _ _ ⟨rfl,rfl⟩;have ⟨ar,ζ⟩:=aC ζ;refine ⟨⟨⟨_,rfl,rfl⟩,⟨_,rfl,_,rfl,rfl⟩,⟨_,rfl,rfl⟩,Q0⟩,ψ (ψ ⟨⟨⟨_,rfl,rfl⟩,⟨_,rfl,_,rfl,rfl⟩,⟨_,rfl,rfl⟩,Q0⟩,ψ (⟨gy (f:=kL) (n:=1) (fun _=>rfl) ([x7.1]),gQ (f:=kL) (l:=s1.2.2.2) (l':=[x7.1]) ar,_,(eI (f:=kL) (l₁:=s1.2.2.2) (l₂:=[x7.1])).symm,⟨⟨_,rfl,rfl⟩,Q0⟩,ψ (⟨_,rfl,Q0,?_⟩)⟩)⟩)⟩;refine sg ⟨_,rfl,?_⟩;refine ct ζ (fun hb ζ=>?_) fun hb ζ=>?_
   ·refine xt ?_;have ζ:=bd ζ aL;cases ζ;exact wt Q3 J4 rfl
   refine sk (rg ?_);have ⟨bu,ζ⟩:=aC ζ;refine (ψ ⟨bu,?_⟩);exact ⟨_,sj ζ,wt Q5 J4 rfl⟩
  refine xt ?_;have ζ:=bd ζ aL;cases ζ;exact wt Q3 J4 rfl
 refine sg ?_;have ⟨x8,jl,h⟩:=ι h;refine ae.dE (id:=10) (GL jl) rfl (.box lz) rfl (.cons (Lr.b) .nil) ?_;rintro _ _ ⟨rfl,rfl⟩;have ⟨dU,h⟩:=aC h;refine ⟨Ys dU,_,rfl,?_⟩;refine sq (sg ?_);have ⟨x9,jV,h⟩:=ι h;refine ae.dE (id:=10) (Y2 jV) rfl (.box lz) rfl (.cons (Lr.b) .nil) ?_;rintro _ _ ⟨rfl,rfl⟩;refine sg (ct h (fun hb h=>?_) fun hb h=>?_)
 ·refine sg ⟨_,rfl,?_⟩;refine rt ?_;cases h;exact ⟨_,rfl,Fz.t (.cons (Fz.a (.cons Fz.v (.cons Fz.v (.cons Fz.v (.cons Fz.v (.cons Fz.v (.cons Fz.nil (.cons Fz.nil .nil)))))))) fq)⟩
 refine sk (sg ?_);refine ⟨_,rfl,_,rfl,?_⟩;refine rt ?_;cases h;exact ⟨_,rfl,Fz.t (.cons (Fz.a (.cons Fz.v (.cons Fz.v (.cons Fz.v (.cons Fz.v (.cons Fz.v (.cons (Fz.o rfl) (.cons Fz.s .nil)))))))) fq)⟩
def Y7 {c d r} (h:Ca c d=some r):Pure prog 14 [.a (ju c),.a (ju d)] (vb r):=by
 refine pq tok 75 func14 ?_;unfold Ca at h;refine sg (sq ?_);have ⟨v1,ν,h⟩:=ι h;refine Ok.bg ⟨aq [(2,.b 2 0),(3,.b 3 0),(56,vb v1)],[(2,.box (ju c)),(3,.box (ju d))]⟩ ?_ ?_
 ·refine rg ⟨_,rfl,_,rfl,?_⟩;have ⟨c1,Δ,ν⟩:=ι ν;refine Br.eh Δ (fun hb Δ=>?_) fun hb Δ=>?_
  ·cases Δ;have ⟨c2,aF,ν⟩:=ι ν;replace aF:=ee aF;cases aF;have ⟨c3,aM,ν⟩:=ι ν;replace aM:=ee aM;cases aM;have ⟨c4,cC,ν⟩:=ι ν;replace cC:=ee cC;cases cC;have ⟨c5,cU,ν⟩:=ι ν;replace cU:=ee cU;cases cU;have ⟨c6,dA,ν⟩:=ι ν;replace dA:=ee dA;cases dA;cases ν;exact wt Q3 J2 rfl
  refine ⟨_,rfl,_,rfl,?_⟩;cases Δ;have ⟨c2,et,ν⟩:=ι ν;refine Br.eh et (fun hb et=>?_) fun hb et=>?_
  ·cases et;have ⟨c3,fa,ν⟩:=ι ν;replace fa:=ee fa;cases fa;have ⟨c4,gb,ν⟩:=ι ν;replace gb:=ee gb;cases gb;have ⟨c5,eS,ν⟩:=ι ν;replace eS:=ee eS;cases eS;have ⟨c6,gG,ν⟩:=ι ν;replace gG:=ee gG;cases gG;cases ν;exact wt Q3 J2 rfl
  refine ⟨_,rfl,_,rfl,?_⟩;cases et;have ⟨c3,gH,ν⟩:=ι ν;refine Br.eh gH (fun hb gH=>?_) fun hb gH=>?_
  ·cases gH;have ⟨c4,iC,ν⟩:=ι ν;replace iC:=ee iC;cases iC;have ⟨c5,ji,ν⟩:=ι ν;replace ji:=ee ji;cases ji;have ⟨c6,iD,ν⟩:=ι ν;replace iD:=ee iD;cases iD;cases ν;exact wt Q3 J2 rfl
  refine ⟨_,rfl,_,rfl,?_⟩;cases gH;have ⟨c4,kU,ν⟩:=ι ν;refine Br.eh kU (fun hb kU=>?_) fun hb kU=>?_
  ·cases kU;have ⟨c5,nH,ν⟩:=ι ν;replace nH:=ee nH;cases nH;have ⟨c6,kV,ν⟩:=ι ν;replace kV:=ee kV;cases kV;cases ν;exact wt Q3 J2 rfl
  refine ⟨_,rfl,_,rfl,?_⟩;cases kU;have ⟨c5,pz,ν⟩:=ι ν;refine Br.eh pz (fun hb pz=>?_) fun hb pz=>?_
  ·cases pz;have ⟨c6,re,ν⟩:=ι ν;replace re:=ee re;cases re;cases ν;exact wt Q3 J2 rfl
  refine ⟨_,rfl,_,ax _,fun _=>⟨_,rfl,_,ax _,fun _=>?_⟩⟩;cases pz;have ⟨c6,pA,ν⟩:=ι ν;refine Br.eh pA (fun hb pA=>?_) fun hb pA=>?_
  ·cases pA;cases ν;exact wt Q3 J2 rfl
  refine ⟨_,rfl,_,rfl,_,rfl,_,rfl,_,KP _ _,?_⟩;cases pA;cases ν;exact wt Q3 J2 rfl
 refine ct h (fun hb h=>?_) fun hb h=>?_
 ·refine sg (rt ?_);cases h;exact Fz.v
 refine sk (Ok.eC (fun v2=>⟨aq [],[]⟩) (fun v2=>J6 v2=some r) ?_ ?_)
 ·refine sg (bl (Ok.loop (fun (s1:Int)=>⟨aq [(2,.b 2 0),(3,.b 3 0),(5,vi s1)],[(2,.box (ju c)),(3,.box (ju d))]⟩) (FD c d) (s0:=0) h (wt Q3 ⟨hr,hr,Q0⟩ rfl) ?_));intro s1 y1 ζ aL;unfold FD at ζ;refine sq (sg ?_);refine ⟨_,rfl,_,ax _,fun _=>?_⟩;refine ct ζ (fun hb ζ=>?_) fun hb ζ=>?_
  ·refine sk (sq (bl (sq (dw 11 tok mixed ?_))));have ⟨x1,Θ,ζ⟩:=ι ζ;have ⟨x2,ak,ζ⟩:=ι ζ;refine ⟨_,rfl,_,⟨_,rfl,rfl⟩,_,rfl,_,⟨_,bq Θ,_,br Θ,rfl⟩,_,⟨_,rfl,rfl⟩,_,rfl,_,⟨_,rfl,rfl⟩,_,rfl,_,⟨_,bq ak,_,br ak,rfl⟩,_,⟨_,rfl,rfl⟩,_,⟨_,KP _ _,rfl⟩,Q0,?_⟩;refine ct ζ (fun hb ζ=>?_) fun hb ζ=>?_
   ·refine sg (rt ?_);have ζ:=bd ζ aL;cases ζ;exact Fz.v
   refine sk (rg ?_);have ⟨ar,ζ⟩:=aC ζ;refine (ψ ⟨ar,?_⟩);exact ⟨_,sj ζ,wt Q3 J2 rfl⟩
  refine xt ?_;have ζ:=bd ζ aL;exact ⟨_,ζ,wt Q0 Q0 rfl⟩
 intro v2 h;unfold J6 at h;refine sg (rt ?_);cases h;exact Fz.v
def ajL {a b r} (h:Gi a b=some r):Pure prog 41 [.s (mB a),.s (mB b)] (vb r):=by
 refine pq tok 26 func41 ?_;unfold Gi at h;refine sg (sq (sg ?_));refine ⟨_,ax _,fun _=>⟨_,ax _,fun _=>?_⟩⟩;refine ct h (fun hb h=>?_) fun hb h=>?_
 ·refine sg (rt ?_);cases h;exact Fz.v
 refine sk (Ok.eC (fun v1=>⟨aq [],[]⟩) (fun v1=>KD v1=some r) ?_ ?_)
 ·refine sg ⟨_,ax _,fun _=>?_⟩;refine bl (Ok.loop (fun (s1:Int)=>⟨aq [(0,.s (mB a)),(1,.s (mB b)),(12,vi (a.length:Int)),(13,vi s1)],[]⟩) (Gj a b) (s0:=0) h (wt Q4 Q0 rfl) ?_);intro s1 y1 ζ aL;unfold Gj at ζ;refine sg (sq (ct ζ (fun hb ζ=>?_) fun hb ζ=>?_))
  ·refine sk (sq (bl (sg ?_)));refine sq (dw 9 tok mixed ?_);have ⟨x1,Θ,ζ⟩:=ι ζ;have ⟨x2,ak,ζ⟩:=ι ζ;refine ⟨_,rfl,_,rfl,_,⟨_,bq Θ,_,br Θ,rfl⟩,_,⟨_,rfl,rfl⟩,_,rfl,_,rfl,_,⟨_,bq ak,_,br ak,rfl⟩,_,⟨_,rfl,rfl⟩,_,rfl,Q0,?_⟩;refine ct ζ (fun hb ζ=>?_) fun hb ζ=>?_
   ·refine sg (rt ?_);have ζ:=bd ζ aL;cases ζ;exact Fz.v
   refine sk (rg ?_);have ⟨ar,ζ⟩:=aC ζ;refine (ψ ⟨ar,?_⟩);exact ⟨_,sj ζ,wt Q4 Q0 rfl⟩
  refine xt ?_;have ζ:=bd ζ aL;exact ⟨_,ζ,wt Q0 Q0 rfl⟩
 intro v1 h;unfold KD at h;refine sg (rt ?_);cases h;exact Fz.v
def aiV {c d r} (h:DN c d=some r):Pure prog 39 [.a (Hv c),.a (Hv d)] (vb r):=by
 refine pq tok 28 func39 ?_;unfold DN at h;refine sg ?_;have ⟨v1,ν,h⟩:=ι h;refine Ok.bg ⟨aq [(4,vb v1)],[]⟩ ?_ ?_
 ·refine rg ⟨_,rfl,_,rfl,?_⟩;have ⟨c1,Δ,ν⟩:=ι ν;refine Br.ite Δ (fun hb Δ=>?_) fun hb Δ=>?_
  ·refine ⟨_,rfl,_,rfl,?_⟩;cases Δ;have ⟨c2,aF,ν⟩:=ι ν;refine Br.ite aF (fun hb aF=>?_) fun hb aF=>?_
   ·have ⟨x1,Θ,aF⟩:=ι aF;refine ⟨_,rfl,ψ ⟨_,rfl,ψ ?_⟩⟩;refine ae.call (Rb Θ) lz ?_;cases aF;cases ν;exact wt Q1 Q0 rfl
   cases aF;cases ν;exact wt Q1 Q0 rfl
  cases Δ;have ⟨c2,aM,ν⟩:=ι ν;replace aM:=cL aM;cases aM;cases ν;exact wt Q1 Q0 rfl
 refine rt ?_;cases h;exact Fz.v
def ajH {a d r} (h:F_ a d=some r):Pure prog 42 [.s (mC a),.s (mC d),.c (.func 39) [] []] (vb r):=by
 refine pq tok 32 func42 ?_;unfold F_ at h;refine sg (sq (sg ?_));refine ⟨_,ax _,fun _=>⟨_,ax _,fun _=>?_⟩⟩;refine ct h (fun hb h=>?_) fun hb h=>?_
 ·refine sg (rt ?_);cases h;exact Fz.v
 refine sk (Ok.eC (fun v1=>⟨aq [],[]⟩) (fun v1=>Kz v1=some r) ?_ ?_)
 ·refine sg ⟨_,ax _,fun _=>?_⟩;refine bl (Ok.loop (fun (s1:Int)=>⟨aq [(1,.s (mC d)),(2,.c (.func 39) [] []),(15,.s (mC a)),(16,vi (a.length:Int)),(17,vi s1)],[]⟩) (Ga a d) (s0:=0) h (wt Q5 Q0 rfl) ?_);intro s1 y1 ζ aL;unfold Ga at ζ;refine sg (sq (ct ζ (fun hb ζ=>?_) fun hb ζ=>?_))
  ·refine sk (sq (bl (sg ?_)));have ⟨x1,Θ,ζ⟩:=ι ζ;refine ⟨_,bq Θ,_,br Θ,_,rfl,_,rfl,?_⟩;refine sg ?_;have ⟨x2,ak,ζ⟩:=ι ζ;refine ⟨_,bq ak,_,br ak,_,rfl,_,rfl,?_⟩;refine sg ?_;have ⟨x3,aK,ζ⟩:=ι ζ;refine ⟨_,rfl,_,rfl,?_⟩;refine ae.call (aiV aK) lz ?_;refine ct ζ (fun hb ζ=>?_) fun hb ζ=>?_
   ·refine sg (rt ?_);have ζ:=bd ζ aL;cases ζ;exact Fz.v
   refine sk (rg ?_);have ⟨ar,ζ⟩:=aC ζ;refine (ψ ⟨ar,?_⟩);exact ⟨_,sj ζ,wt Q5 Q0 rfl⟩
  refine xt ?_;have ζ:=bd ζ aL;exact ⟨_,ζ,wt Q0 Q0 rfl⟩
 intro v1 h;unfold Kz at h;refine sg (rt ?_);cases h;exact Fz.v
def ajK {a b r} (h:Gg a b=some r):Pure prog 43 [.s (mA a),.s (mA b)] (vb r):=by
 refine pq tok 26 func43 ?_;unfold Gg at h;refine sg (sq (sg ?_));refine ⟨_,ax _,fun _=>⟨_,ax _,fun _=>?_⟩⟩;refine ct h (fun hb h=>?_) fun hb h=>?_
 ·refine sg (rt ?_);cases h;exact Fz.v
 refine sk (Ok.eC (fun v1=>⟨aq [],[]⟩) (fun v1=>KC v1=some r) ?_ ?_)
 ·refine sg ⟨_,ax _,fun _=>?_⟩;refine bl (Ok.loop (fun (s1:Int)=>⟨aq [(0,.s (mA a)),(1,.s (mA b)),(12,vi (a.length:Int)),(13,vi s1)],[]⟩) (Gh a b) (s0:=0) h (wt Q4 Q0 rfl) ?_);intro s1 y1 ζ aL;unfold Gh at ζ;refine sg (sq (ct ζ (fun hb ζ=>?_) fun hb ζ=>?_))
  ·refine sk (sq (bl (sg ?_)));refine sq (dw 9 tok mixed ?_);have ⟨x1,Θ,ζ⟩:=ι ζ;have ⟨x2,ak,ζ⟩:=ι ζ;refine ⟨_,rfl,_,rfl,_,⟨_,bq Θ,_,br Θ,rfl⟩,_,⟨_,rfl,rfl⟩,_,rfl,_,rfl,_,⟨_,bq ak,_,br ak,rfl⟩,_,⟨_,rfl,rfl⟩,_,⟨[.one (.int .i64),.one (.int .i64),.one (.int .i64)],by kernel_rfl,rfl⟩,Q0,?_⟩;refine ct ζ (fun hb ζ=>?_) fun hb ζ=>?_
   ·refine sg (rt ?_);have ζ:=bd ζ aL;cases ζ;exact Fz.v
   refine sk (rg ?_);have ⟨ar,ζ⟩:=aC ζ;refine (ψ ⟨ar,?_⟩);exact ⟨_,sj ζ,wt Q4 Q0 rfl⟩
  refine xt ?_;have ζ:=bd ζ aL;exact ⟨_,ζ,wt Q0 Q0 rfl⟩
 intro v1 h;unfold KC at h;refine sg (rt ?_);cases h;exact Fz.v
def ajI {a b r} (h:Gc a b=some r):Pure prog 44 [.s (mE a),.s (mE b)] (vb r):=by
 refine pq tok 26 func44 ?_;unfold Gc at h;refine sg (sq (sg ?_));refine ⟨_,ax _,fun _=>⟨_,ax _,fun _=>?_⟩⟩;refine ct h (fun hb h=>?_) fun hb h=>?_
 ·refine sg (rt ?_);cases h;exact Fz.v
 refine sk (Ok.eC (fun v1=>⟨aq [],[]⟩) (fun v1=>KA v1=some r) ?_ ?_)
 ·refine sg ⟨_,ax _,fun _=>?_⟩;refine bl (Ok.loop (fun (s1:Int)=>⟨aq [(0,.s (mE a)),(1,.s (mE b)),(12,vi (a.length:Int)),(13,vi s1)],[]⟩) (Gd a b) (s0:=0) h (wt Q4 Q0 rfl) ?_);intro s1 y1 ζ aL;unfold Gd at ζ;refine sg (sq (ct ζ (fun hb ζ=>?_) fun hb ζ=>?_))
  ·refine sk (sq (bl (sg ?_)));refine sq (dw 9 tok mixed ?_);have ⟨x1,Θ,ζ⟩:=ι ζ;have ⟨x2,ak,ζ⟩:=ι ζ;refine ⟨_,rfl,_,rfl,_,⟨_,bq Θ,_,br Θ,rfl⟩,_,⟨_,rfl,rfl⟩,_,rfl,_,rfl,_,⟨_,bq ak,_,br ak,rfl⟩,_,⟨_,rfl,rfl⟩,_,⟨[.one (.int .i64),.one (.int .i64),.one (.int .i64)],by kernel_rfl,rfl⟩,Q0,?_⟩;refine ct ζ (fun hb ζ=>?_) fun hb ζ=>?_
   ·refine sg (rt ?_);have ζ:=bd ζ aL;cases ζ;exact Fz.v
   refine sk (rg ?_);have ⟨ar,ζ⟩:=aC ζ;refine (ψ ⟨ar,?_⟩);exact ⟨_,sj ζ,wt Q4 Q0 rfl⟩
  refine xt ?_;have ζ:=bd ζ aL;exact ⟨_,ζ,wt Q0 Q0 rfl⟩
 intro v1 h;unfold KA at h;refine sg (rt ?_);cases h;exact Fz.v
def ajJ {a b r} (h:Ge a b=some r):Pure prog 45 [.s (mD a),.s (mD b)] (vb r):=by
 refine pq tok 26 func45 ?_;unfold Ge at h;refine sg (sq (sg ?_));refine ⟨_,ax _,fun _=>⟨_,ax _,fun _=>?_⟩⟩;refine ct h (fun hb h=>?_) fun hb h=>?_
 ·refine sg (rt ?_);cases h;exact Fz.v
 refine sk (Ok.eC (fun v1=>⟨aq [],[]⟩) (fun v1=>KB v1=some r) ?_ ?_)
 ·refine sg ⟨_,ax _,fun _=>?_⟩;refine bl (Ok.loop (fun (s1:Int)=>⟨aq [(0,.s (mD a)),(1,.s (mD b)),(12,vi (a.length:Int)),(13,vi s1)],[]⟩) (Gf a b) (s0:=0) h (wt Q4 Q0 rfl) ?_);intro s1 y1 ζ aL;unfold Gf at ζ;refine sg (sq (ct ζ (fun hb ζ=>?_) fun hb ζ=>?_))
  ·refine sk (sq (bl (sg ?_)));refine sq (dw 9 tok mixed ?_);have ⟨x1,Θ,ζ⟩:=ι ζ;have ⟨x2,ak,ζ⟩:=ι ζ;refine ⟨_,rfl,_,rfl,_,⟨_,bq Θ,_,br Θ,rfl⟩,_,⟨_,rfl,rfl⟩,_,rfl,_,rfl,_,⟨_,bq ak,_,br ak,rfl⟩,_,⟨_,rfl,rfl⟩,_,⟨[.one (.int .i64),.one (.int .i64),.one (.int .i64)],by kernel_rfl,rfl⟩,Q0,?_⟩;refine ct ζ (fun hb ζ=>?_) fun hb ζ=>?_
   ·refine sg (rt ?_);have ζ:=bd ζ aL;cases ζ;exact Fz.v
   refine sk (rg ?_);have ⟨ar,ζ⟩:=aC ζ;refine (ψ ⟨ar,?_⟩);exact ⟨_,sj ζ,wt Q4 Q0 rfl⟩
  refine xt ?_;have ζ:=bd ζ aL;exact ⟨_,ζ,wt Q0 Q0 rfl⟩
 intro v1 h;unfold KB at h;refine sg (rt ?_);cases h;exact Fz.v
def aiU {d e r} (h:AY d e=some r):Pure prog 20 [.a (b2 d),.a (b2 e)] (vb r):=by
 refine pq tok 67 func20 ?_;unfold AY at h;refine sg (sg (sq (Ok.qb (m:=6) (late:=[2,3]) (MD:=⟨[]⟩) (CH:=⟨[]⟩) tok mixed (by kernel_rfl) ?_)));refine ⟨_,rfl,_,⟨_,rfl,rfl⟩,_,rfl,_,⟨_,rfl,rfl⟩,Q0,?_⟩;refine ⟨_,rfl,⟨⟨_,rfl,rfl⟩,⟨_,rfl,_,rfl,rfl⟩,Q0⟩,_,rfl,?_⟩;have ⟨v1,ν,h⟩:=ι h;refine Ok.bg ⟨aq [(4,vb v1)],[]⟩ ?_ ?_
 ·refine rg ?_;have ⟨x1,Θ,ν⟩:=ι ν;refine ⟨_,rfl,_,rfl,?_⟩;refine ae.norm (L:=[(2,.b 2 0),(3,.b 3 0),(5,.c (.func 39) [] []),(6,.b 6 0),(7,.b 7 0),(13,.a (Ss d)),(15,.a (Ss e))]) (H':=[(2,.box (b2 d)),(3,.box (b2 e)),(6,.box (AH d)),(7,.box (AH e))]) lz Q7 ⟨hr,hr,hr,hr,Q0⟩ rfl (ae.call (Rb Θ) lz ?_);have ⟨c1,Δ,ν⟩:=ι ν;refine Br.ite Δ (fun hb Δ=>?_) fun hb Δ=>?_
  ·refine ⟨_,rfl,_,rfl,?_⟩;cases Δ;have ⟨c2,aF,ν⟩:=ι ν;refine Br.ite aF (fun hb aF=>?_) fun hb aF=>?_
   ·refine ⟨_,rfl,_,rfl,?_⟩;cases aF;have ⟨c3,aM,ν⟩:=ι ν;refine Br.ite aM (fun hb aM=>?_) fun hb aM=>?_
    ·have ⟨x2,ak,aM⟩:=ι aM;refine ⟨_,rfl,_,rfl,?_⟩;refine ae.norm (L:=[(2,.b 2 0),(3,.b 3 0),(5,.c (.func 39) [] []),(6,.b 6 0),(7,.b 7 0),(31,.v (.bool true)),(33,.s (mB d.S.aU)),(35,.s (mB e.S.aU))]) (H':=[(2,.box (b2 d)),(3,.box (b2 e)),(6,.box (AH d)),(7,.box (AH e))]) lz Q8 ⟨hr,hr,hr,hr,Q0⟩ rfl (ae.call (ajL ak) lz ?_);cases aM;have ⟨c4,cC,ν⟩:=ι ν;refine Br.ite cC (fun hb cC=>?_) fun hb cC=>?_
     ·have ⟨x3,aK,cC⟩:=ι cC;refine ⟨_,rfl,_,rfl,?_⟩;refine ae.norm (L:=[(2,.b 2 0),(3,.b 3 0),(6,.b 6 0),(7,.b 7 0),(38,.v (.bool true)),(40,.s (mC d.S.aO)),(42,.s (mC e.S.aO)),(43,.c (.func 39) [] [])]) (H':=[(2,.box (b2 d)),(3,.box (b2 e)),(6,.box (AH d)),(7,.box (AH e))]) lz Q8 ⟨hr,hr,hr,hr,Q0⟩ rfl (ae.call (ajH aK) lz ?_);cases cC;have ⟨c5,cU,ν⟩:=ι ν;refine Br.ite cU (fun hb cU=>?_) fun hb cU=>?_
      ·have ⟨x4,bn,cU⟩:=ι cU;refine ⟨_,rfl,_,rfl,?_⟩;refine ae.norm (L:=[(2,.b 2 0),(3,.b 3 0),(46,.v (.bool true)),(48,.s (mA d.S.aR)),(50,.s (mA e.S.aR))]) (H':=[(2,.box (b2 d)),(3,.box (b2 e))]) lz Q5 ⟨hr,hr,Q0⟩ rfl (ae.call (ajK bn) lz ?_);cases cU;have ⟨c6,dA,ν⟩:=ι ν;refine Br.ite dA (fun hb dA=>?_) fun hb dA=>?_
       ·have ⟨x5,dr,dA⟩:=ι dA;refine ⟨_,rfl,_,rfl,?_⟩;refine ae.norm (L:=[(2,.b 2 0),(3,.b 3 0),(53,.v (.bool true)),(55,.s (mE d.Holds)),(57,.s (mE e.Holds))]) (H':=[(2,.box (b2 d)),(3,.box (b2 e))]) lz Q5 ⟨hr,hr,Q0⟩ rfl (ae.call (ajI dr) lz ?_);cases dA;have ⟨c7,et,ν⟩:=ι ν;refine Br.ite et (fun hb et=>?_) fun hb et=>?_
        ·have ⟨x6,gw,et⟩:=ι et;refine ⟨_,rfl,_,rfl,?_⟩;refine ae.norm (L:=[(60,.v (.bool true)),(62,.s (mD d.bc)),(64,.s (mD e.bc))]) (H':=[]) lz Q3 Q0 rfl (ae.call (ajJ gw) lz ?_);cases et;cases ν;exact wt Q1 Q0 rfl
        cases et;cases ν;exact wt Q1 Q0 rfl
       cases dA;have ⟨c7,fa,ν⟩:=ι ν;replace fa:=cL fa;cases fa;cases ν;exact wt Q1 Q0 rfl
      cases cU;have ⟨c6,gb,ν⟩:=ι ν;replace gb:=cL gb;cases gb;have ⟨c7,eS,ν⟩:=ι ν;replace eS:=cL eS;cases eS;cases ν;exact wt Q1 Q0 rfl
     cases cC;have ⟨c5,gG,ν⟩:=ι ν;replace gG:=cL gG;cases gG;have ⟨c6,gH,ν⟩:=ι ν;replace gH:=cL gH;cases gH;have ⟨c7,iC,ν⟩:=ι ν;replace iC:=cL iC;cases iC;cases ν;exact wt Q1 Q0 rfl
    cases aM;have ⟨c4,ji,ν⟩:=ι ν;replace ji:=cL ji;cases ji;have ⟨c5,iD,ν⟩:=ι ν;replace iD:=cL iD;cases iD;have ⟨c6,kU,ν⟩:=ι ν;replace kU:=cL kU;cases kU;have ⟨c7,nH,ν⟩:=ι ν;replace nH:=cL nH;cases nH;cases ν;exact wt Q1 Q0 rfl
   cases aF;have ⟨c3,kV,ν⟩:=ι ν;replace kV:=cL kV;cases kV;have ⟨c4,pz,ν⟩:=ι ν;replace pz:=cL pz;cases pz;have ⟨c5,re,ν⟩:=ι ν;replace re:=cL re;cases re;have ⟨c6,pA,ν⟩:=ι ν;replace pA:=cL pA;cases pA;have ⟨c7,Nu,ν⟩:=ι ν;replace Nu:=cL Nu;cases Nu;cases ν;exact wt Q1 Q0 rfl
  cases Δ;have ⟨c2,Nv,ν⟩:=ι ν;replace Nv:=cL Nv;cases Nv;have ⟨c3,Nw,ν⟩:=ι ν;replace Nw:=cL Nw;cases Nw;have ⟨c4,Nx,ν⟩:=ι ν;replace Nx:=cL Nx;cases Nx;have ⟨c5,Ny,ν⟩:=ι ν;replace Ny:=cL Ny;cases Ny;have ⟨c6,Nz,ν⟩:=ι ν;replace Nz:=cL Nz;cases Nz;have ⟨c7,NA,ν⟩:=ι ν;replace NA:=cL NA;cases NA;cases ν;exact wt Q1 Q0 rfl
 refine rt ?_;cases h;exact Fz.v
def ajm {a b r} (h:Fy a b=some r):Pure prog 139 [.s (mF a),.s (mF b)] (vb r):=by
 refine pq tok 26 func139 ?_;unfold Fy at h;refine sg (sq (sg ?_));refine ⟨_,ax _,fun _=>⟨_,ax _,fun _=>?_⟩⟩;refine ct h (fun hb h=>?_) fun hb h=>?_
 ·refine sg (rt ?_);cases h;exact Fz.v
 refine sk (Ok.eC (fun v1=>⟨aq [],[]⟩) (fun v1=>Pr v1=some r) ?_ ?_)
 ·refine sg (bl (Ok.loop (fun (s1:Int)=>⟨aq [(0,.s (mF a)),(1,.s (mF b)),(5,vi s1)],[]⟩) (FA a b) (s0:=0) h (wt Q3 Q0 rfl) ?_));intro s1 y1 ζ aL;unfold FA at ζ;refine sq (sg ?_);refine ⟨_,ax _,fun _=>?_⟩;refine ct ζ (fun hb ζ=>?_) fun hb ζ=>?_
  ·refine sk (sq (bl (sq (dw 9 tok mixed ?_))));have ⟨x1,Θ,ζ⟩:=ι ζ;have ⟨x2,ak,ζ⟩:=ι ζ;refine ⟨_,rfl,_,rfl,_,⟨_,bq Θ,_,br Θ,rfl⟩,_,⟨_,rfl,rfl⟩,_,rfl,_,rfl,_,⟨_,bq ak,_,br ak,rfl⟩,_,⟨_,rfl,rfl⟩,_,⟨[.one (.str),.one (.int .i64),.one (.int .i64)],by kernel_rfl,rfl⟩,Q0,?_⟩;refine ct ζ (fun hb ζ=>?_) fun hb ζ=>?_
   ·refine sg (rt ?_);have ζ:=bd ζ aL;cases ζ;exact Fz.v
   refine sk (rg ?_);have ⟨ar,ζ⟩:=aC ζ;refine (ψ ⟨ar,?_⟩);exact ⟨_,sj ζ,wt Q3 Q0 rfl⟩
  refine xt ?_;have ζ:=bd ζ aL;exact ⟨_,ζ,wt Q0 Q0 rfl⟩
 intro v1 h;unfold Pr at h;refine sg (rt ?_);cases h;exact Fz.v
def Y6 {c d r} (h:zU c d=some r):Pure prog 81 [.a (b4 c),.a (b4 d)] (vb r):=by
 refine pq tok 45 func81 ?_;unfold zU at h;refine sg (sq ?_);have ⟨v1,ν,h⟩:=ι h;refine Ok.bg ⟨aq [(2,.b 2 0),(3,.b 3 0),(39,vb v1)],[(2,.box (b4 c)),(3,.box (b4 d))]⟩ ?_ ?_
 ·refine rg ⟨_,rfl,_,rfl,?_⟩;have ⟨c1,Δ,ν⟩:=ι ν;refine Br.eh Δ (fun hb Δ=>?_) fun hb Δ=>?_
  ·cases Δ;have ⟨c2,aF,ν⟩:=ι ν;replace aF:=ee aF;cases aF;have ⟨c3,aM,ν⟩:=ι ν;replace aM:=ee aM;cases aM;have ⟨c4,cC,ν⟩:=ι ν;replace cC:=ee cC;cases cC;cases ν;exact wt Q3 J2 rfl
  refine ⟨_,rfl,_,rfl,?_⟩;cases Δ;have ⟨c2,cU,ν⟩:=ι ν;refine Br.eh cU (fun hb cU=>?_) fun hb cU=>?_
  ·cases cU;have ⟨c3,dA,ν⟩:=ι ν;replace dA:=ee dA;cases dA;have ⟨c4,et,ν⟩:=ι ν;replace et:=ee et;cases et;cases ν;exact wt Q3 J2 rfl
  refine ⟨_,rfl,_,rfl,?_⟩;cases cU;have ⟨c3,fa,ν⟩:=ι ν;refine Br.eh fa (fun hb fa=>?_) fun hb fa=>?_
  ·cases fa;have ⟨c4,gb,ν⟩:=ι ν;replace gb:=ee gb;cases gb;cases ν;exact wt Q3 J2 rfl
  refine ⟨_,rfl,_,rfl,?_⟩;cases fa;have ⟨c4,eS,ν⟩:=ι ν;refine Br.eh eS (fun hb eS=>?_) fun hb eS=>?_
  ·cases eS;cases ν;exact wt Q3 J2 rfl
  refine ⟨_,rfl,_,rfl,_,rfl,_,rfl,_,KP _ _,?_⟩;cases eS;cases ν;exact wt Q3 J2 rfl
 refine ct h (fun hb h=>?_) fun hb h=>?_
 ·refine sg (rt ?_);cases h;exact Fz.v
 refine sk (sg ?_);have ⟨x1,Θ,h⟩:=ι h;refine ⟨_,rfl,_,rfl,?_⟩;refine ae.call (ajm Θ) lz ?_;refine rt ?_;cases h;exact Fz.v
def ajn {a b r} (h:FB a b=some r):Pure prog 138 [.s (mI a),.s (mI b)] (vb r):=by
 refine pq tok 27 func138 ?_;unfold FB at h;refine sg (sq (sg ?_));refine ⟨_,ax _,fun _=>⟨_,ax _,fun _=>?_⟩⟩;refine ct h (fun hb h=>?_) fun hb h=>?_
 ·refine sg (rt ?_);cases h;exact Fz.v
 refine sk (Ok.eC (fun v1=>⟨aq [],[]⟩) (fun v1=>Ps v1=some r) ?_ ?_)
 ·refine sg (bl (Ok.loop (fun (s1:Int)=>⟨aq [(0,.s (mI a)),(1,.s (mI b)),(5,vi s1)],[]⟩) (FC a b) (s0:=0) h (wt Q3 Q0 rfl) ?_));intro s1 y1 ζ aL;unfold FC at ζ;refine sq (sg ?_);refine ⟨_,ax _,fun _=>?_⟩;refine ct ζ (fun hb ζ=>?_) fun hb ζ=>?_
  ·refine sk (sq (bl (sq (dw 10 tok mixed ?_))));have ⟨x1,Θ,ζ⟩:=ι ζ;have ⟨x2,ak,ζ⟩:=ι ζ;have ⟨x3,aK,ζ⟩:=ι ζ;refine ⟨_,rfl,_,rfl,_,⟨_,bq Θ,_,br Θ,rfl⟩,_,⟨_,rfl,rfl⟩,_,rfl,_,rfl,_,⟨_,bq ak,_,br ak,rfl⟩,_,⟨_,rfl,rfl⟩,_,⟨_,.fC (Y6 aK) lz,rfl⟩,_,rfl,Q0,?_⟩;refine ct ζ (fun hb ζ=>?_) fun hb ζ=>?_
   ·refine sg (rt ?_);have ζ:=bd ζ aL;cases ζ;exact Fz.v
   refine sk (rg ?_);have ⟨ar,ζ⟩:=aC ζ;refine (ψ ⟨ar,?_⟩);exact ⟨_,sj ζ,wt Q3 Q0 rfl⟩
  refine xt ?_;have ζ:=bd ζ aL;exact ⟨_,ζ,wt Q0 Q0 rfl⟩
 intro v1 h;unfold Ps at h;refine sg (rt ?_);cases h;exact Fz.v
def ajl {c d r} (h:B9 c d=some r):Pure prog 80 [.a (b0 c),.a (b0 d)] (vb r):=by
 refine pq tok 24 func80 ?_;unfold B9 at h;refine sg ?_;have ⟨v1,ν,h⟩:=ι h;refine Ok.bg ⟨aq [(4,vb v1)],[]⟩ ?_ ?_
 ·refine rg ⟨_,rfl,_,rfl,?_⟩;have ⟨c1,Δ,ν⟩:=ι ν;refine Br.ite Δ (fun hb Δ=>?_) fun hb Δ=>?_
  ·refine ⟨_,rfl,_,rfl,?_⟩;cases Δ;have ⟨c2,aF,ν⟩:=ι ν;refine Br.ite aF (fun hb aF=>?_) fun hb aF=>?_
   ·have ⟨x1,Θ,aF⟩:=ι aF;refine ⟨_,rfl,_,rfl,?_⟩;refine ae.call (ajn Θ) lz ?_;cases aF;cases ν;exact wt Q1 Q0 rfl
   cases aF;cases ν;exact wt Q1 Q0 rfl
  cases Δ;have ⟨c2,aM,ν⟩:=ι ν;replace aM:=cL aM;cases aM;cases ν;exact wt Q1 Q0 rfl
 refine rt ?_;cases h;exact Fz.v
def ajp {c d r} (h:FE c d=some r):Pure prog 32 [.a (b1 c),.a (b1 d)] (vb r):=by
 refine pq tok 130 func32 ?_;unfold FE at h;refine sg (sq ?_);have ⟨v1,ν,h⟩:=ι h;refine Ok.bg ⟨aq [(2,.b 2 0),(3,.b 3 0),(56,vb v1)],[(2,.box (b1 c)),(3,.box (b1 d))]⟩ ?_ ?_
 ·refine rg ?_;have ⟨x1,Θ,ν⟩:=ι ν;refine ⟨_,rfl,_,rfl,?_⟩;refine ae.call (ajl Θ) lz ?_;have ⟨c1,Δ,ν⟩:=ι ν;refine Br.eh Δ (fun hb Δ=>?_) fun hb Δ=>?_
  ·cases Δ;have ⟨c2,aF,ν⟩:=ι ν;replace aF:=ee aF;cases aF;have ⟨c3,aM,ν⟩:=ι ν;replace aM:=ee aM;cases aM;have ⟨c4,cC,ν⟩:=ι ν;replace cC:=ee cC;cases cC;have ⟨c5,cU,ν⟩:=ι ν;replace cU:=ee cU;cases cU;cases ν;exact wt Q3 J2 rfl
  refine ⟨_,rfl,_,rfl,?_⟩;cases Δ;have ⟨c2,dA,ν⟩:=ι ν;refine Br.eh dA (fun hb dA=>?_) fun hb dA=>?_
  ·cases dA;have ⟨c3,et,ν⟩:=ι ν;replace et:=ee et;cases et;have ⟨c4,fa,ν⟩:=ι ν;replace fa:=ee fa;cases fa;have ⟨c5,gb,ν⟩:=ι ν;replace gb:=ee gb;cases gb;cases ν;exact wt Q3 J2 rfl
  refine ⟨_,rfl,_,rfl,?_⟩;cases dA;have ⟨c3,eS,ν⟩:=ι ν;refine Br.eh eS (fun hb eS=>?_) fun hb eS=>?_
  ·cases eS;have ⟨c4,gG,ν⟩:=ι ν;replace gG:=ee gG;cases gG;have ⟨c5,gH,ν⟩:=ι ν;replace gH:=ee gH;cases gH;cases ν;exact wt Q3 J2 rfl
  refine ⟨_,rfl,_,ax _,fun _=>⟨_,rfl,_,ax _,fun _=>?_⟩⟩;cases eS;have ⟨c4,iC,ν⟩:=ι ν;refine Br.eh iC (fun hb iC=>?_) fun hb iC=>?_
  ·cases iC;have ⟨c5,ji,ν⟩:=ι ν;replace ji:=ee ji;cases ji;cases ν;exact wt Q3 J2 rfl
  refine ⟨_,rfl,_,ax _,fun _=>⟨_,rfl,_,ax _,fun _=>?_⟩⟩;cases iC;have ⟨c5,iD,ν⟩:=ι ν;refine Br.eh iD (fun hb iD=>?_) fun hb iD=>?_
  ·cases iD;cases ν;exact wt Q3 J2 rfl
  refine ⟨_,rfl,_,ax _,fun _=>⟨_,rfl,_,ax _,fun _=>?_⟩⟩;cases iD;cases ν;exact wt Q3 J2 rfl
 refine ct h (fun hb h=>?_) fun hb h=>?_
 ·refine sg (rt ?_);cases h;exact Fz.v
 refine sk (Ok.eC (fun v2=>⟨aq [(2,.b 2 0),(3,.b 3 0)],[(2,.box (b1 c)),(3,.box (b1 d))]⟩) (fun v2=>J7 c d v2=some r) ?_ ?_)
 ·refine sg (bl (Ok.loop (fun (s1:Int)=>⟨aq [(2,.b 2 0),(3,.b 3 0),(5,vi s1)],[(2,.box (b1 c)),(3,.box (b1 d))]⟩) (FF c d) (s0:=0) h (wt Q3 ⟨hr,hr,Q0⟩ rfl) ?_));intro s1 y1 ζ aL;unfold FF at ζ;refine sq (sg ?_);refine ⟨_,rfl,_,ax _,fun _=>?_⟩;refine ct ζ (fun hb ζ=>?_) fun hb ζ=>?_
  ·refine sk (sq (bl (sq (dw 11 tok mixed ?_))));have ⟨x2,ak,ζ⟩:=ι ζ;have ⟨x3,aK,ζ⟩:=ι ζ;refine ⟨_,rfl,_,⟨_,rfl,rfl⟩,_,rfl,_,⟨_,bq ak,_,br ak,rfl⟩,_,⟨_,rfl,rfl⟩,_,rfl,_,⟨_,rfl,rfl⟩,_,rfl,_,⟨_,bq aK,_,br aK,rfl⟩,_,⟨_,rfl,rfl⟩,_,rfl,Q0,?_⟩;refine ct ζ (fun hb ζ=>?_) fun hb ζ=>?_
   ·refine sg (rt ?_);have ζ:=bd ζ aL;cases ζ;exact Fz.v
   refine sk (rg ?_);have ⟨ar,ζ⟩:=aC ζ;refine (ψ ⟨ar,?_⟩);exact ⟨_,sj ζ,wt Q3 J2 rfl⟩
  refine xt ?_;have ζ:=bd ζ aL;exact ⟨_,ζ,wt Q2 ⟨hr,hr,Q0⟩ rfl⟩
 intro v2 h;unfold J7 at h;refine Ok.eC (fun v3=>⟨aq [(2,.b 2 0),(3,.b 3 0)],[(2,.box (b1 c)),(3,.box (b1 d))]⟩) (fun v3=>J8 c d v3=some r) ?_ ?_
 ·refine sg (bl (Ok.loop (fun (s2:Int)=>⟨aq [(2,.b 2 0),(3,.b 3 0),(6,vi s2)],[(2,.box (b1 c)),(3,.box (b1 d))]⟩) (Cb c d) (s0:=0) h (wt Q3 ⟨hr,hr,Q0⟩ rfl) ?_));intro s2 y2 aD hZ;unfold Cb at aD;refine sq (sg ?_);refine ⟨_,rfl,_,ax _,fun _=>?_⟩;refine ct aD (fun hb aD=>?_) fun hb aD=>?_
  ·refine sk (sq (bl (sg ?_)));have ⟨x4,bn,aD⟩:=ι aD;refine ⟨_,rfl,_,bq bn,_,br bn,_,rfl,_,rfl,?_⟩;refine sg ?_;have ⟨x5,dr,aD⟩:=ι aD;refine ⟨_,rfl,_,bq dr,_,br dr,_,rfl,_,rfl,?_⟩;have ⟨v4,jj,aD⟩:=ι aD;refine Ok.bg ⟨aq [(2,.b 2 0),(3,.b 3 0),(6,vi s2),(111,vb v4)],[(2,.box (b1 c)),(3,.box (b1 d))]⟩ ?_ ?_
   ·refine rg ⟨_,rfl,_,rfl,?_⟩;have ⟨c6,kU,jj⟩:=ι jj;refine Br.eh kU (fun hb kU=>?_) fun hb kU=>?_
    ·cases kU;have ⟨c7,nH,jj⟩:=ι jj;replace nH:=ee nH;cases nH;cases jj;exact wt Q4 J2 rfl
    refine ⟨_,rfl,_,rfl,?_⟩;cases kU;have ⟨c7,kV,jj⟩:=ι jj;refine Br.eh kV (fun hb kV=>?_) fun hb kV=>?_
    ·cases kV;cases jj;exact wt Q4 J2 rfl
    have ⟨x6,gw,kV⟩:=ι kV;refine ⟨_,rfl,_,rfl,?_⟩;refine ae.call (Y6 gw) lz ?_;cases kV;cases jj;exact wt Q4 J2 rfl
   refine ct aD (fun hb aD=>?_) fun hb aD=>?_
   ·refine sg (rt ?_);have aD:=bd aD hZ;cases aD;exact Fz.v
   refine sk (rg ?_);have ⟨bu,aD⟩:=aC aD;refine (ψ ⟨bu,?_⟩);exact ⟨_,sj aD,wt Q3 J2 rfl⟩
  refine xt ?_;have aD:=bd aD hZ;exact ⟨_,aD,wt Q2 ⟨hr,hr,Q0⟩ rfl⟩
 intro v3 h;unfold J8 at h;refine Ok.eC (fun v5=>⟨aq [],[]⟩) (fun v5=>J9 v5=some r) ?_ ?_
 ·refine sg (bl (Ok.loop (fun (s3:Int)=>⟨aq [(2,.b 2 0),(3,.b 3 0),(9,vi s3)],[(2,.box (b1 c)),(3,.box (b1 d))]⟩) (Cc c d) (s0:=0) h (wt Q3 ⟨hr,hr,Q0⟩ rfl) ?_));intro s3 y3 j_ Vz;unfold Cc at j_;refine sq (sg ?_);refine ⟨_,rfl,_,ax _,fun _=>?_⟩;refine ct j_ (fun hb j_=>?_) fun hb j_=>?_
  ·refine sk (sq (bl (sq (dw 11 tok mixed ?_))));have ⟨x7,gg,j_⟩:=ι j_;have ⟨x8,jl,j_⟩:=ι j_;refine ⟨_,rfl,_,⟨_,rfl,rfl⟩,_,rfl,_,⟨_,bq gg,_,br gg,rfl⟩,_,⟨_,rfl,rfl⟩,_,rfl,_,⟨_,rfl,rfl⟩,_,rfl,_,⟨_,bq jl,_,br jl,rfl⟩,_,⟨_,rfl,rfl⟩,_,⟨[.one (.int .i64),.one (.int .i64),.one (.int .i64)],by kernel_rfl,rfl⟩,Q0,?_⟩;refine ct j_ (fun hb j_=>?_) fun hb j_=>?_
   ·refine sg (rt ?_);have j_:=bd j_ Vz;cases j_;exact Fz.v
   refine sk (rg ?_);have ⟨dU,j_⟩:=aC j_;refine (ψ ⟨dU,?_⟩);exact ⟨_,sj j_,wt Q3 J2 rfl⟩
  refine xt ?_;have j_:=bd j_ Vz;exact ⟨_,j_,wt Q0 Q0 rfl⟩
 intro v5 h;unfold J9 at h;refine sg (rt ?_);cases h;exact Fz.v
def ajo {c d r} (h:B_ c d=some r):Pure prog 15 [.a (b2 c),.a (b2 d)] (vb r):=by
 refine pq tok 67 func15 ?_;unfold B_ at h;refine sg (sq ?_);have ⟨v1,ν,h⟩:=ι h;refine Ok.bg ⟨aq [(2,.b 2 0),(3,.b 3 0),(30,vb v1)],[(2,.box (b2 c)),(3,.box (b2 d))]⟩ ?_ ?_
 ·refine rg ?_;have ⟨x1,Θ,ν⟩:=ι ν;refine ⟨_,rfl,_,rfl,?_⟩;refine ae.call (ajp Θ) lz ?_;have ⟨c1,Δ,ν⟩:=ι ν;refine Br.eh Δ (fun hb Δ=>?_) fun hb Δ=>?_
  ·cases Δ;have ⟨c2,aF,ν⟩:=ι ν;replace aF:=ee aF;cases aF;cases ν;exact wt Q3 J2 rfl
  refine ⟨_,rfl,_,ax _,fun _=>⟨_,rfl,_,ax _,fun _=>?_⟩⟩;cases Δ;have ⟨c2,aM,ν⟩:=ι ν;refine Br.eh aM (fun hb aM=>?_) fun hb aM=>?_
  ·cases aM;cases ν;exact wt Q3 J2 rfl
  refine ⟨_,rfl,_,ax _,fun _=>⟨_,rfl,_,ax _,fun _=>?_⟩⟩;cases aM;cases ν;exact wt Q3 J2 rfl
 refine ct h (fun hb h=>?_) fun hb h=>?_
 ·refine sg (rt ?_);cases h;exact Fz.v
 refine sk (Ok.eC (fun v2=>⟨aq [(2,.b 2 0),(3,.b 3 0)],[(2,.box (b2 c)),(3,.box (b2 d))]⟩) (fun v2=>J_ c d v2=some r) ?_ ?_)
 ·refine sg (bl (Ok.loop (fun (s1:Int)=>⟨aq [(2,.b 2 0),(3,.b 3 0),(5,vi s1)],[(2,.box (b2 c)),(3,.box (b2 d))]⟩) (FH c d) (s0:=0) h (wt Q3 ⟨hr,hr,Q0⟩ rfl) ?_));intro s1 y1 ζ aL;unfold FH at ζ;refine sq (sg ?_);refine ⟨_,rfl,_,ax _,fun _=>?_⟩;refine ct ζ (fun hb ζ=>?_) fun hb ζ=>?_
  ·refine sk (sq (bl (sq (dw 11 tok mixed ?_))));have ⟨x2,ak,ζ⟩:=ι ζ;have ⟨x3,aK,ζ⟩:=ι ζ;refine ⟨_,rfl,_,⟨_,rfl,rfl⟩,_,rfl,_,⟨_,bq ak,_,br ak,rfl⟩,_,⟨_,rfl,rfl⟩,_,rfl,_,⟨_,rfl,rfl⟩,_,rfl,_,⟨_,bq aK,_,br aK,rfl⟩,_,⟨_,rfl,rfl⟩,_,⟨[.one (.int .i64),.one (.int .i64),.one (.int .i64)],by kernel_rfl,rfl⟩,Q0,?_⟩;refine ct ζ (fun hb ζ=>?_) fun hb ζ=>?_
   ·refine sg (rt ?_);have ζ:=bd ζ aL;cases ζ;exact Fz.v
   refine sk (rg ?_);have ⟨ar,ζ⟩:=aC ζ;refine (ψ ⟨ar,?_⟩);exact ⟨_,sj ζ,wt Q3 J2 rfl⟩
  refine xt ?_;have ζ:=bd ζ aL;exact ⟨_,ζ,wt Q2 ⟨hr,hr,Q0⟩ rfl⟩
 intro v2 h;unfold J_ at h;refine Ok.eC (fun v3=>⟨aq [],[]⟩) (fun v3=>J' v3=some r) ?_ ?_
 ·refine sg (bl (Ok.loop (fun (s2:Int)=>⟨aq [(2,.b 2 0),(3,.b 3 0),(6,vi s2)],[(2,.box (b2 c)),(3,.box (b2 d))]⟩) (Cd c d) (s0:=0) h (wt Q3 ⟨hr,hr,Q0⟩ rfl) ?_));intro s2 y2 aD hZ;unfold Cd at aD;refine sq (sg ?_);refine ⟨_,rfl,_,ax _,fun _=>?_⟩;refine ct aD (fun hb aD=>?_) fun hb aD=>?_
  ·refine sk (sq (bl (sq (dw 11 tok mixed ?_))));have ⟨x4,bn,aD⟩:=ι aD;have ⟨x5,dr,aD⟩:=ι aD;refine ⟨_,rfl,_,⟨_,rfl,rfl⟩,_,rfl,_,⟨_,bq bn,_,br bn,rfl⟩,_,⟨_,rfl,rfl⟩,_,rfl,_,⟨_,rfl,rfl⟩,_,rfl,_,⟨_,bq dr,_,br dr,rfl⟩,_,⟨_,rfl,rfl⟩,_,⟨[.one (.int .i64),.one (.int .i64),.one (.int .i64)],by kernel_rfl,rfl⟩,Q0,?_⟩;refine ct aD (fun hb aD=>?_) fun hb aD=>?_
   ·refine sg (rt ?_);have aD:=bd aD hZ;cases aD;exact Fz.v
   refine sk (rg ?_);have ⟨bu,aD⟩:=aC aD;refine (ψ ⟨bu,?_⟩);exact ⟨_,sj aD,wt Q3 J2 rfl⟩
  refine xt ?_;have aD:=bd aD hZ;exact ⟨_,aD,wt Q0 Q0 rfl⟩
 intro v3 h;unfold J' at h;refine sg (rt ?_);cases h;exact Fz.v
end Go.Proofs
