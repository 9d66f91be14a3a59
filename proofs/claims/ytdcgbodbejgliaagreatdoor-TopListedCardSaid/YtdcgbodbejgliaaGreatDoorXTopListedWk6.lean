/- The walks of this seat beside the plain programs, part 6. No condition. -/
import Derived.Test.YtdcgbodbejgliaaGreatDoorXTopListedWk5
open List renaming length_map → au, map_append → bP
open Or renaming inl → af
namespace Go.Proofs
set_option linter.all false
open Go Go.Cat Tryz
variable [M:bU] [K:LK]
set_option maxRecDepth 100000
set_option maxHeartbeats 4000000
def Vf {c d r} (h:yO c d=some r):Pure prog 157 [.a (b0 c),vi d] (.t [vi r.1,vi r.2]):=by
 refine pq tok 42 func157 ?_;unfold yO at h;refine sg (sg ?_);have ⟨x1,θ,h⟩:=η h;refine ⟨_,rfl,?_⟩;refine Θ.call (Vg θ) lz ?_;refine sq (sg ?_);refine ct h (fun hb h=>?_) fun hb h=>?_
 ·refine sg (rt ?_);cases h;exact (Fz.t fq)
 refine sk (sg ?_);have ⟨x2,aq,h⟩:=η h;refine ⟨_,rfl,?_⟩;refine Θ.call (afb aq) lz ?_;refine sg (sg ?_);have ⟨v1,ν,h⟩:=η h;refine Ok.aB ⟨Γ [(8,vi v1.1),(9,vi v1.2)],[]⟩ ?_ ?_
 ·refine sg (bl (Ok.loop (fun (s1:Int×Int×Int)=>⟨Γ [(2,.b 2 0),(7,.s (mH x2)),(8,vi s1.1),(9,vi s1.2.1),(10,vi s1.2.2)],[(2,.box (b0 c))]⟩) (Fj x2 c) (s0:=(0,0,0)) ν (wt Q5 ⟨hr,Q0⟩ rfl) ?_));intro s1 y1 ζ az;unfold Fj at ζ;refine sq (sg ?_);refine ⟨_,au _,fun _=>?_⟩;refine ct ζ (fun hb ζ=>?_) fun hb ζ=>?_
  ·refine sk ?_;have ⟨v2,Δ,ζ⟩:=η ζ;refine Ok.aB ⟨Γ [(2,.b 2 0),(7,.s (mH x2)),(8,vi v2.1),(9,vi v2.2),(10,vi s1.2.2)],[(2,.box (b0 c))]⟩ ?_ ?_
   ·refine bl (sg ?_);have ⟨x3,aF,Δ⟩:=η Δ;refine ⟨_,aI aF,_,aK aF,_,rfl,?_⟩;refine ct Δ (fun hb Δ=>?_) fun hb Δ=>?_
    ·refine sg ?_;have ⟨ah,Δ⟩:=ak Δ;refine (af ⟨ah,?_⟩);refine rg ?_;have ⟨x4,aV,Δ⟩:=η Δ;have ⟨aQ,Δ⟩:=ak Δ;refine ⟨_,rfl,_,aI aV,_,aK aV,_,rfl,_,au _,fun _=>(af ⟨aQ,?_⟩)⟩;cases Δ;exact wt Q5 J1 rfl
    refine sk ?_;cases Δ;exact wt Q5 J1 rfl
   refine rg ?_;have ⟨bN,ζ⟩:=ak ζ;refine (af ⟨bN,?_⟩);exact ⟨_,sj ζ,wt Q5 J1 rfl⟩
  refine xt ?_;have ζ:=aN ζ az;cases ζ;exact wt Q2 Q0 rfl
 refine sg (rt ?_);cases h;exact (Fz.t fq)
def afm {c d r} (h:B8 c d=some r):Pure prog 224 [.a (b0 c),.s (mA d)] (vb r):=by
 refine pq tok 40 func224 ?_;unfold B8 at h;refine sg (Ok.cU (fun v1=>⟨Γ [],[]⟩) (fun v1=>LG v1=some r) ?_ ?_)
 ·refine sg (bl (Ok.loop (fun (s1:Int)=>⟨Γ [(1,.s (mA d)),(2,.b 2 0),(5,vi s1)],[(2,.box (b0 c))]⟩) (FK d c) (s0:=0) h (wt Q3 ⟨hr,Q0⟩ rfl) ?_));intro s1 y1 ζ az;unfold FK at ζ;refine sq (sg ?_);refine ⟨_,au _,fun _=>?_⟩;refine ct ζ (fun hb ζ=>?_) fun hb ζ=>?_
  ·refine sk (sq (bl (sq (dw 12 tok mixed ?_))));have ⟨x1,θ,ζ⟩:=η ζ;have ⟨x2,aq,ζ⟩:=η ζ;refine ⟨_,⟨_,rfl,rfl⟩,_,rfl,_,rfl,_,⟨_,aI θ,_,aK θ,rfl⟩,_,rfl,_,⟨_,rfl,rfl⟩,_,⟨_,.dz (Vf aq) lz,rfl⟩,_,rfl,_,rfl,_,rfl,_,rfl,_,rfl,Q0,?_⟩;have ⟨v2,Δ,ζ⟩:=η ζ;refine Ok.aB ⟨Γ [(1,.s (mA d)),(2,.b 2 0),(5,vi s1),(39,vb v2)],[(2,.box (b0 c))]⟩ ?_ ?_
   ·refine rg ?_;have ⟨x3,aF,Δ⟩:=η Δ;refine ⟨_,aI aF,_,aK aF,_,rfl,?_⟩;have ⟨c1,ξ,Δ⟩:=η Δ;refine Br.cO ξ (fun hb ξ=>?_) fun hb ξ=>?_
    ·cases ξ;cases Δ;exact wt Q4 J1 rfl
    have ⟨x4,aV,ξ⟩:=η ξ;refine ⟨_,aI aV,_,aK aV,_,rfl,?_⟩;cases ξ;cases Δ;exact wt Q4 J1 rfl
   refine ct ζ (fun hb ζ=>?_) fun hb ζ=>?_
   ·refine sg (rt ?_);have ζ:=aN ζ az;cases ζ;exact Fz.v
   refine sk (rg ?_);have ⟨ah,ζ⟩:=ak ζ;refine (af ⟨ah,?_⟩);exact ⟨_,sj ζ,wt Q3 J1 rfl⟩
  refine xt ?_;have ζ:=aN ζ az;exact ⟨_,ζ,wt Q0 Q0 rfl⟩
 intro v1 h;unfold LG at h;refine sg (rt ?_);cases h;exact Fz.v
def ae0 {a b r} (h:By a b=some r):Pure prog 139 [.s (mC a),.s (mC b)] (vb r):=by
 refine pq tok 26 func139 ?_;unfold By at h;refine sg (sq (sg ?_));refine ⟨_,au _,fun _=>⟨_,au _,fun _=>?_⟩⟩;refine ct h (fun hb h=>?_) fun hb h=>?_
 ·refine sg (rt ?_);cases h;exact Fz.v
 refine sk (Ok.cU (fun v1=>⟨Γ [],[]⟩) (fun v1=>Lo v1=some r) ?_ ?_)
 ·refine sg (bl (Ok.loop (fun (s1:Int)=>⟨Γ [(0,.s (mC a)),(1,.s (mC b)),(5,vi s1)],[]⟩) (Bz a b) (s0:=0) h (wt Q3 Q0 rfl) ?_));intro s1 y1 ζ az;unfold Bz at ζ;refine sq (sg ?_);refine ⟨_,au _,fun _=>?_⟩;refine ct ζ (fun hb ζ=>?_) fun hb ζ=>?_
  ·refine sk (sq (bl (sq (dw 9 tok mixed ?_))));have ⟨x1,θ,ζ⟩:=η ζ;have ⟨x2,aq,ζ⟩:=η ζ;refine ⟨_,rfl,_,rfl,_,⟨_,aI θ,_,aK θ,rfl⟩,_,⟨_,rfl,rfl⟩,_,rfl,_,rfl,_,⟨_,aI aq,_,aK aq,rfl⟩,_,⟨_,rfl,rfl⟩,_,⟨[.one (.str),.one (.int .i64),.one (.int .i64)],by kernel_rfl,rfl⟩,Q0,?_⟩;refine ct ζ (fun hb ζ=>?_) fun hb ζ=>?_
   ·refine sg (rt ?_);have ζ:=aN ζ az;cases ζ;exact Fz.v
   refine sk (rg ?_);have ⟨ah,ζ⟩:=ak ζ;refine (af ⟨ah,?_⟩);exact ⟨_,sj ζ,wt Q3 Q0 rfl⟩
  refine xt ?_;have ζ:=aN ζ az;exact ⟨_,ζ,wt Q0 Q0 rfl⟩
 intro v1 h;unfold Lo at h;refine sg (rt ?_);cases h;exact Fz.v
def NC {c d r} (h:wc c d=some r):Pure prog 81 [.a (b4 c),.a (b4 d)] (vb r):=by
 refine pq tok 45 func81 ?_;unfold wc at h;refine sg (sq ?_);have ⟨v1,ν,h⟩:=η h;refine Ok.aB ⟨Γ [(2,.b 2 0),(3,.b 3 0),(39,vb v1)],[(2,.box (b4 c)),(3,.box (b4 d))]⟩ ?_ ?_
 ·refine rg ⟨_,rfl,_,rfl,?_⟩;have ⟨c1,ξ,ν⟩:=η ν;refine Br.cO ξ (fun hb ξ=>?_) fun hb ξ=>?_
  ·cases ξ;have ⟨c2,ax,ν⟩:=η ν;replace ax:=fu ax;cases ax;have ⟨c3,aL,ν⟩:=η ν;replace aL:=fu aL;cases aL;have ⟨c4,bI,ν⟩:=η ν;replace bI:=fu bI;cases bI;cases ν;exact wt Q3 J2 rfl
  refine ⟨_,rfl,_,rfl,?_⟩;cases ξ;have ⟨c2,bZ,ν⟩:=η ν;refine Br.cO bZ (fun hb bZ=>?_) fun hb bZ=>?_
  ·cases bZ;have ⟨c3,cI,ν⟩:=η ν;replace cI:=fu cI;cases cI;have ⟨c4,cQ,ν⟩:=η ν;replace cQ:=fu cQ;cases cQ;cases ν;exact wt Q3 J2 rfl
  refine ⟨_,rfl,_,rfl,?_⟩;cases bZ;have ⟨c3,dq,ν⟩:=η ν;refine Br.cO dq (fun hb dq=>?_) fun hb dq=>?_
  ·cases dq;have ⟨c4,dE,ν⟩:=η ν;replace dE:=fu dE;cases dE;cases ν;exact wt Q3 J2 rfl
  refine ⟨_,rfl,_,rfl,?_⟩;cases dq;have ⟨c4,ep,ν⟩:=η ν;refine Br.cO ep (fun hb ep=>?_) fun hb ep=>?_
  ·cases ep;cases ν;exact wt Q3 J2 rfl
  refine ⟨_,rfl,_,rfl,_,rfl,_,rfl,_,M0 _ _,?_⟩;cases ep;cases ν;exact wt Q3 J2 rfl
 refine ct h (fun hb h=>?_) fun hb h=>?_
 ·refine sg (rt ?_);cases h;exact Fz.v
 refine sk (sg ?_);have ⟨x1,θ,h⟩:=η h;refine ⟨_,rfl,_,rfl,?_⟩;refine Θ.call (ae0 θ) lz ?_;refine rt ?_;cases h;exact Fz.v
def ae1 {a b r} (h:BA a b=some r):Pure prog 138 [.s (mI a),.s (mI b)] (vb r):=by
 refine pq tok 27 func138 ?_;unfold BA at h;refine sg (sq (sg ?_));refine ⟨_,au _,fun _=>⟨_,au _,fun _=>?_⟩⟩;refine ct h (fun hb h=>?_) fun hb h=>?_
 ·refine sg (rt ?_);cases h;exact Fz.v
 refine sk (Ok.cU (fun v1=>⟨Γ [],[]⟩) (fun v1=>Lp v1=some r) ?_ ?_)
 ·refine sg (bl (Ok.loop (fun (s1:Int)=>⟨Γ [(0,.s (mI a)),(1,.s (mI b)),(5,vi s1)],[]⟩) (BB a b) (s0:=0) h (wt Q3 Q0 rfl) ?_));intro s1 y1 ζ az;unfold BB at ζ;refine sq (sg ?_);refine ⟨_,au _,fun _=>?_⟩;refine ct ζ (fun hb ζ=>?_) fun hb ζ=>?_
  ·refine sk (sq (bl (sq (dw 10 tok mixed ?_))));have ⟨x1,θ,ζ⟩:=η ζ;have ⟨x2,aq,ζ⟩:=η ζ;have ⟨x3,aF,ζ⟩:=η ζ;refine ⟨_,rfl,_,rfl,_,⟨_,aI θ,_,aK θ,rfl⟩,_,⟨_,rfl,rfl⟩,_,rfl,_,rfl,_,⟨_,aI aq,_,aK aq,rfl⟩,_,⟨_,rfl,rfl⟩,_,⟨_,.dz (NC aF) lz,rfl⟩,_,rfl,Q0,?_⟩;refine ct ζ (fun hb ζ=>?_) fun hb ζ=>?_
   ·refine sg (rt ?_);have ζ:=aN ζ az;cases ζ;exact Fz.v
   refine sk (rg ?_);have ⟨ah,ζ⟩:=ak ζ;refine (af ⟨ah,?_⟩);exact ⟨_,sj ζ,wt Q3 Q0 rfl⟩
  refine xt ?_;have ζ:=aN ζ az;exact ⟨_,ζ,wt Q0 Q0 rfl⟩
 intro v1 h;unfold Lp at h;refine sg (rt ?_);cases h;exact Fz.v
def aeZ {c d r} (h:Bx c d=some r):Pure prog 80 [.a (b0 c),.a (b0 d)] (vb r):=by
 refine pq tok 24 func80 ?_;unfold Bx at h;refine sg ?_;have ⟨v1,ν,h⟩:=η h;refine Ok.aB ⟨Γ [(4,vb v1)],[]⟩ ?_ ?_
 ·refine rg ⟨_,rfl,_,rfl,?_⟩;have ⟨c1,ξ,ν⟩:=η ν;refine Br.ite ξ (fun hb ξ=>?_) fun hb ξ=>?_
  ·refine ⟨_,rfl,_,rfl,?_⟩;cases ξ;have ⟨c2,ax,ν⟩:=η ν;refine Br.ite ax (fun hb ax=>?_) fun hb ax=>?_
   ·have ⟨x1,θ,ax⟩:=η ax;refine ⟨_,rfl,_,rfl,?_⟩;refine Θ.call (ae1 θ) lz ?_;cases ax;cases ν;exact wt Q1 Q0 rfl
   cases ax;cases ν;exact wt Q1 Q0 rfl
  cases ξ;have ⟨c2,aL,ν⟩:=η ν;replace aL:=c9 aL;cases aL;cases ν;exact wt Q1 Q0 rfl
 refine rt ?_;cases h;exact Fz.v
def Vj {a b c r} (h:yT a b c=some r):Pure prog 108 (R2 a b c) (vb r):=by
 refine pq tok 30 func108 ?_;unfold yT at h;refine sg (Ok.cU (fun v1=>⟨Γ [],[]⟩) (fun v1=>LD v1=some r) ?_ ?_)
 ·refine sg (bl (Ok.loop (fun (s1:Int)=>⟨Γ [(0,.s (mE a)),(1,vi b),(2,vi c),(7,vi s1)],[]⟩) (B4 a b c) (s0:=0) h (wt Q4 Q0 rfl) ?_));intro s1 y1 ζ az;unfold B4 at ζ;refine sq (sg ?_);refine ⟨_,au _,fun _=>?_⟩;refine ct ζ (fun hb ζ=>?_) fun hb ζ=>?_
  ·refine sk (sq (bl ?_));have ⟨v2,Δ,ζ⟩:=η ζ;refine Ok.aB ⟨Γ [(0,.s (mE a)),(1,vi b),(2,vi c),(7,vi s1),(29,vb v2)],[]⟩ ?_ ?_
   ·refine rg ?_;have ⟨x1,θ,Δ⟩:=η Δ;refine ⟨_,aI θ,_,aK θ,_,rfl,?_⟩;have ⟨c1,ξ,Δ⟩:=η Δ;refine Br.ite ξ (fun hb ξ=>?_) fun hb ξ=>?_
    ·have ⟨x2,aq,ξ⟩:=η ξ;refine ⟨_,aI aq,_,aK aq,_,rfl,?_⟩;cases ξ;cases Δ;exact wt Q5 Q0 rfl
    cases ξ;cases Δ;exact wt Q5 Q0 rfl
   refine ct ζ (fun hb ζ=>?_) fun hb ζ=>?_
   ·refine sg (rt ?_);have ζ:=aN ζ az;cases ζ;exact Fz.v
   refine sk (rg ?_);have ⟨ah,ζ⟩:=ak ζ;refine (af ⟨ah,?_⟩);exact ⟨_,sj ζ,wt Q4 Q0 rfl⟩
  refine xt ?_;have ζ:=aN ζ az;exact ⟨_,ζ,wt Q0 Q0 rfl⟩
 intro v1 h;unfold LD at h;refine sg (rt ?_);cases h;exact Fz.v
def NK {c d r} (h:wv c d=some r):Pure prog 55 [.a (b1 c),.a (b0 d)] (.a (b1 r)):=by
 refine pq tok 121 func55 ?_;unfold wv at h;refine sg (sq (sg ?_));have ⟨x1,θ,h⟩:=η h;refine ⟨_,rfl,_,rfl,?_⟩;refine Θ.call (aeZ θ) lz ?_;refine ct h (fun hb h=>?_) fun hb h=>?_
 ·refine sg ⟨_,rfl,_,rfl,?_⟩;refine rt ?_;cases h;exact ⟨_,rfl,Fz.cq rfl⟩
 refine sk (sg ?_);have ⟨ah,h⟩:=ak h;refine ⟨_,rfl,af ⟨ah,?_⟩⟩;refine sg ?_;have ⟨aQ,h⟩:=ak h;refine Or.inr ⟨_,rfl,cL (f:=ll) (n:=8) (fun _=>rfl) c.cW,cJ (f:=ll) (l:=([]:List bV)) (l':=c.cW) aQ,_,(bP (f:=ll) (l₁:=([]:List bV)) (l₂:=c.cW)).symm,?_⟩;have ⟨v1,ν,h⟩:=η h;refine Ok.aB ⟨Γ [(2,.b 2 0),(3,.b 3 0),(4,.b 4 0),(5,vi (c.bH+1)),(6,.o 23)],[(2,.box (b1 c)),(3,.box (b0 d)),(4,.box (k3 0 0 0 0)),(23,.own 98 8 (mD v1))]⟩ ?_ ?_
 ·refine sg (bl (Ok.loop (fun (s1:Int×(List bV))=>⟨Γ [(2,.b 2 0),(3,.b 3 0),(4,.b 4 0),(5,vi (c.bH+1)),(6,.o 23),(7,vi s1.1)],[(2,.box (b1 c)),(3,.box (b0 d)),(4,.box (k3 0 0 0 0)),(23,.own 98 8 (mD s1.2))]⟩) (BX c d) (s0:=(0,([]:List bV)++c.cW)) ν (wt Q6 ⟨hr,hr,hr,hr,Q0⟩ rfl) ?_));intro s1 y1 ζ az;unfold BX at ζ;refine sq (sg ?_);refine ⟨_,rfl,_,au _,fun _=>?_⟩;refine ct ζ (fun hb ζ=>?_) fun hb ζ=>?_
  ·refine sk ?_;have ⟨v2,Δ,ζ⟩:=η ζ;refine Ok.aB ⟨Γ [(2,.b 2 0),(3,.b 3 0),(4,.b 4 0),(5,vi (c.bH+1)),(6,.o 23),(7,vi s1.1)],[(2,.box (b1 c)),(3,.box (b0 d)),(4,.box (k3 0 0 0 0)),(23,.own 98 8 (mD v2))]⟩ ?_ ?_
   ·refine bl (sg ?_);have ⟨x2,aq,Δ⟩:=η Δ;refine ⟨_,rfl,_,aI aq,_,aK aq,_,rfl,_,rfl,?_⟩;refine sg ?_;have ⟨x3,aF,Δ⟩:=η Δ;refine ⟨_,rfl,_,rfl,?_⟩;refine Θ.call (g_ aF) lz ?_;refine ⟨_,rfl,?_⟩;refine sq ?_;have ⟨v3,aA,Δ⟩:=η Δ;refine Ok.aB ⟨Γ [(2,.b 2 0),(3,.b 3 0),(4,.b 4 0),(5,vi (c.bH+1)),(6,.o 23),(7,vi s1.1),(8,.b 8 0),(53,vb v3)],[(2,.box (b1 c)),(3,.box (b0 d)),(4,.box (k3 0 0 0 0)),(23,.own 98 8 (mD s1.2)),(8,.box (b4 x2))]⟩ ?_ ?_
    ·refine rg ?_;have ⟨c1,ξ,aA⟩:=η aA;refine Br.ite ξ (fun hb ξ=>?_) fun hb ξ=>?_
     ·have ⟨x4,aV,ξ⟩:=η ξ;refine ⟨_,rfl,_,rfl,?_⟩;refine Θ.call (NC aV) lz ?_;cases ξ;cases aA;exact wt Q8 ⟨hr,J4⟩ rfl
     cases ξ;cases aA;exact wt Q8 ⟨hr,J4⟩ rfl
    refine ct Δ (fun hb Δ=>?_) fun hb Δ=>?_
    ·refine xt ?_;cases Δ;exact wt Q6 J4 rfl
    refine sk (sq (dw 9 tok mixed ?_));have ⟨x5,bJ,Δ⟩:=η Δ;have ⟨x6,cK,Δ⟩:=η Δ;refine ⟨_,rfl,_,⟨_,rfl,rfl⟩,_,rfl,_,⟨_,rfl,rfl⟩,_,rfl,_,⟨_,aI bJ,_,aK bJ,rfl⟩,_,⟨_,rfl,rfl⟩,_,rfl,_,⟨_,.dz (Vj cK) lz,rfl⟩,Q0,?_⟩;refine ct Δ (fun hb Δ=>?_) fun hb Δ=>?_
    ·refine dw 10 tok mixed ?_;have ⟨x7,cP,Δ⟩:=η Δ;have ⟨bN,Δ⟩:=ak Δ;refine ⟨_,rfl,_,rfl,_,⟨_,rfl,rfl⟩,_,rfl,_,⟨_,aI cP,_,aK cP,rfl⟩,_,⟨_,rfl,rfl⟩,_,rfl,_,⟨_,rfl,rfl⟩,_,rfl,_,rfl,Q0,cL (f:=ll) (n:=8) (fun _=>rfl) ([(⟨x7,c.bH+1,x2⟩:bV)]),cJ (f:=ll) (l:=s1.2) (l':=[(⟨x7,c.bH+1,x2⟩:bV)]) bN,_,(bP (f:=ll) (l₁:=s1.2) (l₂:=[(⟨x7,c.bH+1,x2⟩:bV)])).symm,?_⟩;cases Δ;exact wt Q6 J4 rfl
    refine sk ?_;cases Δ;exact wt Q6 J4 rfl
   refine rg ?_;have ⟨c8,ζ⟩:=ak ζ;refine (af ⟨c8,?_⟩);exact ⟨_,sj ζ,wt Q6 J4 rfl⟩
  refine xt ?_;have ζ:=aN ζ az;cases ζ;exact wt Q5 J4 rfl
 refine sg (Or.inr ?_);have ⟨v4,aO,h⟩:=η h;refine Ok.aB ⟨Γ [(2,.b 2 0),(3,.b 3 0),(4,.b 4 0),(5,vi (c.bH+1)),(6,.o 23),(11,.o 74)],[(2,.box (b1 c)),(3,.box (b0 d)),(4,.box (k3 0 0 0 0)),(23,.own 98 8 (mD v1)),(74,.own 3 1 (mB v4))]⟩ ?_ ?_
 ·refine sg (bl (Ok.loop (fun (s2:Int×(List Int))=>⟨Γ [(2,.b 2 0),(3,.b 3 0),(4,.b 4 0),(5,vi (c.bH+1)),(6,.o 23),(11,.o 74),(12,vi s2.1)],[(2,.box (b1 c)),(3,.box (b0 d)),(4,.box (k3 0 0 0 0)),(23,.own 98 8 (mD v1)),(74,.own 3 1 (mB s2.2))]⟩) (BY d c) (s0:=(0,([]:List Int))) aO (wt Q7 ⟨hr,hr,hr,hr,hr,Q0⟩ rfl) ?_));intro s2 y2 an dM;unfold BY at an;refine sq (sg ?_);refine ⟨_,rfl,_,au _,fun _=>?_⟩;refine ct an (fun hb an=>?_) fun hb an=>?_
  ·refine sk ?_;have ⟨v5,bg,an⟩:=η an;refine Ok.aB ⟨Γ [(2,.b 2 0),(3,.b 3 0),(4,.b 4 0),(5,vi (c.bH+1)),(6,.o 23),(11,.o 74),(12,vi s2.1)],[(2,.box (b1 c)),(3,.box (b0 d)),(4,.box (k3 0 0 0 0)),(23,.own 98 8 (mD v1)),(74,.own 3 1 (mB v5))]⟩ ?_ ?_
   ·refine bl (sg ?_);have ⟨v6,bX,bg⟩:=η bg;refine Ok.aB ⟨Γ [(2,.b 2 0),(3,.b 3 0),(4,.b 4 0),(5,vi (c.bH+1)),(6,.o 23),(11,.o 74),(12,vi s2.1),(13,vi v6)],[(2,.box (b1 c)),(3,.box (b0 d)),(4,.box (k3 0 0 0 0)),(23,.own 98 8 (mD v1)),(74,.own 3 1 (mB s2.2))]⟩ ?_ ?_
    ·refine sg (bl (Ok.loop (fun (s3:Int×Int)=>⟨Γ [(2,.b 2 0),(3,.b 3 0),(4,.b 4 0),(5,vi (c.bH+1)),(6,.o 23),(11,.o 74),(12,vi s2.1),(13,vi s3.1),(14,vi s3.2)],[(2,.box (b1 c)),(3,.box (b0 d)),(4,.box (k3 0 0 0 0)),(23,.own 98 8 (mD v1)),(74,.own 3 1 (mB s2.2))]⟩) (BZ c d s2) (s0:=((c.bH+1),0)) bX (wt ⟨lr,Q8⟩ ⟨hr,hr,hr,hr,hr,Q0⟩ rfl) ?_));intro s3 y3 aT mi;unfold BZ at aT;refine sq (sg ?_);refine ⟨_,rfl,_,au _,fun _=>?_⟩;refine ct aT (fun hb aT=>?_) fun hb aT=>?_
     ·refine sk ?_;have ⟨v7,eV,aT⟩:=η aT;refine Ok.aB ⟨Γ [(2,.b 2 0),(3,.b 3 0),(4,.b 4 0),(5,vi (c.bH+1)),(6,.o 23),(11,.o 74),(12,vi s2.1),(13,vi v7),(14,vi s3.2)],[(2,.box (b1 c)),(3,.box (b0 d)),(4,.box (k3 0 0 0 0)),(23,.own 98 8 (mD v1)),(74,.own 3 1 (mB s2.2))]⟩ ?_ ?_
      ·refine bl (sq (dw 12 tok mixed ?_));have ⟨x8,ew,eV⟩:=η eV;have ⟨x9,fi,eV⟩:=η eV;have ⟨cR,fR,eV⟩:=η eV;refine ⟨_,rfl,_,rfl,_,⟨_,rfl,rfl⟩,_,rfl,_,⟨_,aI ew,_,aK ew,rfl⟩,_,⟨_,rfl,rfl⟩,_,rfl,_,⟨_,rfl,rfl⟩,_,rfl,_,⟨_,aI fi,_,aK fi,rfl⟩,_,⟨_,rfl,rfl⟩,_,⟨_,.dz (NC fR) lz,rfl⟩,Q0,?_⟩;refine ct eV (fun hb eV=>?_) fun hb eV=>?_
       ·refine rg ?_;have ⟨ei,jA,eV⟩:=η eV;refine ⟨_,rfl,_,aI jA,_,aK jA,_,rfl,?_⟩;cases eV;exact wt ⟨lr,Q8⟩ ⟨hr,J4⟩ rfl
       refine sk ?_;cases eV;exact wt ⟨lr,Q8⟩ ⟨hr,J4⟩ rfl
      refine rg ?_;have ⟨eJ,aT⟩:=ak aT;refine (af ⟨eJ,?_⟩);exact ⟨_,sj aT,wt ⟨lr,Q8⟩ ⟨hr,J4⟩ rfl⟩
     refine xt ?_;have aT:=aN aT mi;cases aT;exact wt Q8 ⟨hr,J4⟩ rfl
    refine rg ?_;have ⟨nJ,bg⟩:=ak bg;refine af ⟨cL (f:=Go.Cat.encI) (n:=1) (fun _=>rfl) ([v6]),cJ (f:=Go.Cat.encI) (l:=s2.2) (l':=[v6]) nJ,_,(bP (f:=Go.Cat.encI) (l₁:=s2.2) (l₂:=[v6])).symm,?_⟩;cases bg;exact wt Q7 ⟨hr,J4⟩ rfl
   refine rg ?_;have ⟨xL,an⟩:=ak an;refine (af ⟨xL,?_⟩);exact ⟨_,sj an,wt Q7 ⟨hr,J4⟩ rfl⟩
  refine xt ?_;have an:=aN an dM;cases an;exact wt Q6 ⟨hr,J4⟩ rfl
 refine sg ⟨_,rfl,_,rfl,_,rfl,_,rfl,?_⟩;refine rt ?_;cases h;exact ⟨_,rfl,Fz.a (.cons Fz.s (.cons Fz.v (.cons Fz.v (.cons Fz.v (.cons (Fz.o rfl) (.cons (Fz.o rfl) (.cons Fz.s fq)))))))⟩
def afr {c d e r} (h:Cc c d e=some r):Pure prog 144 [.a (b2 c),.a (b0 d),.s (mA e)] (.t [.a (b2 r.1),vi r.2]):=by
 refine pq tok 108 func144 ?_;unfold Cc at h;refine sg (sg ?_);have ⟨v1,ν,h⟩:=η h;refine Ok.aB ⟨Γ [(2,.s (mA e)),(3,.b 3 0),(4,.b 4 0),(6,.b 6 0),(8,.o 50)],[(3,.box (b2 c)),(4,.box (b0 d)),(6,.box (k6 0 0 0 0)),(50,.own 3 1 (mB v1))]⟩ ?_ ?_
 ·refine sg (bl (Ok.loop (fun (s1:Int×(List Int))=>⟨Γ [(2,.s (mA e)),(3,.b 3 0),(4,.b 4 0),(6,.b 6 0),(8,.o 50),(9,vi s1.1)],[(3,.box (b2 c)),(4,.box (b0 d)),(6,.box (k6 0 0 0 0)),(50,.own 3 1 (mB s1.2))]⟩) (FR d c) (s0:=(0,[])) ν ((Wk.nn (t:=8) (id:=50) (E:=3) (K:=1) rfl rfl).trans (wt Q6 ⟨hr,hr,hr,hr,Q0⟩ rfl)) ?_));intro s1 y1 ζ az;unfold FR at ζ;refine sq (sg ?_);refine ⟨_,rfl,_,au _,fun _=>?_⟩;refine ct ζ (fun hb ζ=>?_) fun hb ζ=>?_
  ·refine sk ?_;have ⟨v2,Δ,ζ⟩:=η ζ;refine Ok.aB ⟨Γ [(2,.s (mA e)),(3,.b 3 0),(4,.b 4 0),(6,.b 6 0),(8,.o 50),(9,vi s1.1)],[(3,.box (b2 c)),(4,.box (b0 d)),(6,.box (k6 0 0 0 0)),(50,.own 3 1 (mB v2))]⟩ ?_ ?_
   ·refine bl (sg ?_);have ⟨x1,θ,Δ⟩:=η Δ;refine ⟨_,rfl,_,aI θ,_,aK θ,_,rfl,_,rfl,?_⟩;have ⟨v3,aA,Δ⟩:=η Δ;refine Ok.aB ⟨Γ [(2,.s (mA e)),(3,.b 3 0),(4,.b 4 0),(6,.b 6 0),(8,.o 50),(9,vi s1.1),(10,.b 10 0),(45,vb v3)],[(3,.box (b2 c)),(4,.box (b0 d)),(6,.box (k6 0 0 0 0)),(50,.own 3 1 (mB s1.2)),(10,.box (b4 x1))]⟩ ?_ ?_
    ·refine rg ⟨_,rfl,?_⟩;have ⟨c1,ξ,aA⟩:=η aA;refine Br.ite ξ (fun hb ξ=>?_) fun hb ξ=>?_
     ·refine ⟨_,rfl,?_⟩;cases ξ;have ⟨c2,ax,aA⟩:=η aA;refine Br.ite ax (fun hb ax=>?_) fun hb ax=>?_
      ·have ⟨x2,aq,ax⟩:=η ax;refine ⟨_,rfl,_,rfl,?_⟩;refine Θ.call (afo aq) lz ?_;cases ax;cases aA;exact wt Q8 ⟨hr,J4⟩ rfl
      cases ax;cases aA;exact wt Q8 ⟨hr,J4⟩ rfl
     cases ξ;have ⟨c2,aL,aA⟩:=η aA;replace aL:=c9 aL;cases aL;cases aA;exact wt Q8 ⟨hr,J4⟩ rfl
    refine ct Δ (fun hb Δ=>?_) fun hb Δ=>?_
    ·refine rg ?_;have ⟨ah,Δ⟩:=ak Δ;refine ⟨_,rfl,af ⟨cL (f:=Go.Cat.encI) (n:=1) (fun _=>rfl) ([x1.κ]),cJ (f:=Go.Cat.encI) (l:=s1.2) (l':=[x1.κ]) ah,_,(bP (f:=Go.Cat.encI) (l₁:=s1.2) (l₂:=[x1.κ])).symm,?_⟩⟩;cases Δ;exact wt Q6 J4 rfl
    refine sk ?_;cases Δ;exact wt Q6 J4 rfl
   refine rg ?_;have ⟨aQ,ζ⟩:=ak ζ;refine (af ⟨aQ,?_⟩);exact ⟨_,sj ζ,wt Q6 J4 rfl⟩
  refine xt ?_;have ζ:=aN ζ az;cases ζ;exact wt Q5 J4 rfl
 have ⟨v4,aO,h⟩:=η h;refine Ok.aB ⟨Γ [(2,.s (mA e)),(3,.b 3 0),(4,.b 4 0),(6,.b 6 0)],[(3,.box (b2 c)),(4,.box (k0 v4.1 v4.2.1 v4.2.2)),(6,.box (k6 0 0 0 0))]⟩ ?_ ?_
 ·refine sg (bl (Ok.loop (fun (s2:Int×eb)=>⟨Γ [(2,.s (mA e)),(3,.b 3 0),(4,.b 4 0),(6,.b 6 0),(8,.o 50),(11,vi s2.1)],[(3,.box (b2 c)),(4,.box (k0 s2.2.1 s2.2.2.1 s2.2.2.2)),(6,.box (k6 0 0 0 0)),(50,.own 3 1 (mB v1))]⟩) (FT v1) (s0:=(0,d.ι,d.Next,d.ar)) aO (wt Q6 ⟨hr,hr,hr,hr,Q0⟩ rfl) ?_));intro s2 y2 an dM;unfold FT at an;refine sq (sg ?_);refine ⟨_,au _,fun _=>?_⟩;refine ct an (fun hb an=>?_) fun hb an=>?_
  ·refine sk (sq (bl (sq (Ok.gP (m:=10) (late:=[8]) (MD:=⟨[]⟩) (CH:=⟨[]⟩) tok mixed (by kernel_rfl) ?_))));have ⟨x3,aF,an⟩:=η an;have ⟨x4,aV,an⟩:=η an;refine ⟨_,⟨_,rfl,rfl⟩,_,rfl,_,rfl,_,⟨_,aI aF,jY aF,rfl⟩,_,⟨_,aK aF,rfl,_,rfl,rfl⟩,_,⟨_,.dz (U_ aV) lz,rfl⟩,_,rfl,_,rfl,_,rfl,Q0,?_⟩;refine ⟨_,rfl,⟨⟨_,rfl,rfl⟩,Q0⟩,?_⟩;refine rg ⟨_,rfl,_,rfl,?_⟩;refine rg ?_;have ⟨bN,an⟩:=ak an;refine (af ⟨bN,?_⟩);exact ⟨_,sj an,wt Q6 J4 rfl⟩
  refine xt ?_;have an:=aN an dM;cases an;exact wt Q4 J3 rfl
 refine sg ?_;have ⟨v5,bg,h⟩:=η h;refine Ok.aB ⟨Γ [(3,.b 3 0),(4,.b 4 0),(6,.b 6 0),(14,.o 90)],[(3,.box (b2 c)),(4,.box (k0 v4.1 v4.2.1 v4.2.2)),(6,.box (k6 0 0 0 0)),(90,.own 86 3 (mA v5))]⟩ ?_ ?_
 ·refine sg (bl (Ok.loop (fun (s3:Int×(List aU))=>⟨Γ [(2,.s (mA e)),(3,.b 3 0),(4,.b 4 0),(6,.b 6 0),(14,.o 90),(15,vi s3.1)],[(3,.box (b2 c)),(4,.box (k0 v4.1 v4.2.1 v4.2.2)),(6,.box (k6 0 0 0 0)),(90,.own 86 3 (mA s3.2))]⟩) (FU e v4) (s0:=(0,[])) bg ((Wk.nn (t:=14) (id:=90) (E:=86) (K:=3) rfl rfl).trans (wt Q6 ⟨hr,hr,hr,hr,Q0⟩ rfl)) ?_));intro s3 y3 aT mi;unfold FU at aT;refine sq (sg ?_);refine ⟨_,au _,fun _=>?_⟩;refine ct aT (fun hb aT=>?_) fun hb aT=>?_
  ·refine sk ?_;have ⟨v6,bX,aT⟩:=η aT;refine Ok.aB ⟨Γ [(2,.s (mA e)),(3,.b 3 0),(4,.b 4 0),(6,.b 6 0),(14,.o 90),(15,vi s3.1)],[(3,.box (b2 c)),(4,.box (k0 v4.1 v4.2.1 v4.2.2)),(6,.box (k6 0 0 0 0)),(90,.own 86 3 (mA v6))]⟩ ?_ ?_
   ·refine bl (sq (Ok.gP (m:=11) (late:=[9]) (MD:=⟨[]⟩) (CH:=⟨[]⟩) tok mixed (by kernel_rfl) ?_));have ⟨x5,bJ,bX⟩:=η bX;have ⟨x6,cK,bX⟩:=η bX;refine ⟨_,⟨_,rfl,rfl⟩,_,rfl,_,rfl,_,⟨_,aI bJ,_,aK bJ,rfl⟩,_,rfl,_,⟨_,rfl,rfl⟩,_,⟨_,.dz (g_ cK) lz,rfl⟩,_,rfl,_,rfl,_,rfl,Q0,?_⟩;refine ⟨_,rfl,⟨⟨_,rfl,rfl⟩,Q0⟩,?_⟩;refine sg (ct bX (fun hb bX=>?_) fun hb bX=>?_)
    ·refine rg ?_;have ⟨x7,cP,bX⟩:=η bX;have ⟨c8,bX⟩:=ak bX;refine ⟨_,aI cP,_,aK cP,_,rfl,af ⟨cL (f:=gr) (n:=3) (fun _=>rfl) ([x7]),cJ (f:=gr) (l:=s3.2) (l':=[x7]) c8,_,(bP (f:=gr) (l₁:=s3.2) (l₂:=[x7])).symm,?_⟩⟩;cases bX;exact wt Q6 J4 rfl
    refine sk ?_;cases bX;exact wt Q6 J4 rfl
   refine rg ?_;have ⟨eJ,aT⟩:=ak aT;refine (af ⟨eJ,?_⟩);exact ⟨_,sj aT,wt Q6 J4 rfl⟩
  refine xt ?_;have aT:=aN aT mi;cases aT;exact wt Q4 J4 rfl
 refine sq (sg ?_);have ⟨x8,ew,h⟩:=η h;refine ⟨_,rfl,?_⟩;refine Θ.borrow (afl ew) (.cons (Fz.a (.cons Fz.s fq)) (.cons (Fz.o rfl) .nil)) rfl ?_;refine ct h (fun hb h=>?_) fun hb h=>?_
 ·refine sg ⟨_,rfl,_,rfl,?_⟩;refine rt ?_;cases h;exact ⟨_,rfl,Fz.t fq⟩
 refine sk (sq (sg ?_));have ⟨x9,fi,h⟩:=η h;refine ⟨_,rfl,?_⟩;refine Θ.borrow (afm fi) (.cons (Fz.a (.cons Fz.s fq)) (.cons (Fz.o rfl) .nil)) rfl ?_;refine ct h (fun hb h=>?_) fun hb h=>?_
 ·refine sg ⟨_,rfl,_,rfl,?_⟩;refine rt ?_;cases h;exact ⟨_,rfl,Fz.t fq⟩
 refine sk (sg ?_);have ⟨cR,fR,h⟩:=η h;refine ⟨_,rfl,_,rfl,?_⟩;refine Θ.call (NK fR) lz ?_;refine ⟨_,rfl,?_⟩;refine sg ⟨_,rfl,?_⟩;refine sg ⟨_,rfl,_,rfl,?_⟩;refine rt ?_;cases h;exact ⟨_,rfl,Fz.t (.cons (Fz.a (.cons Fz.s (.cons Fz.v (.cons Fz.v (.cons Fz.v (.cons Fz.s (.cons Fz.s (.cons Fz.s (.cons Fz.v (.cons Fz.s (.cons (Fz.o rfl) .nil))))))))))) fq)⟩
def wS {c e g f d r} (h:pO c e g f d=some r):Pure prog 92 [.a (b2 c),.a (b0 e),.s (mA g),vi f,.a (kb d)] (.t [.a (b2 r.1),.a (kb r.2)]):=by
 refine pq tok 32 func92 ?_;unfold pO at h;refine sg (sq (sg ?_));refine ct h (fun hb h=>?_) fun hb h=>?_
 ·refine sq (dw 3 tok mixed ?_);have ⟨x1,θ,h⟩:=η h;refine ⟨_,⟨_,rfl,rfl⟩,_,rfl,_,⟨_,.dz (jr θ) lz,rfl⟩,Q0,_,rfl,_,rfl,?_⟩;refine rt ?_;cases h;exact ⟨_,rfl,_,rfl,Fz.t fq⟩
 refine sk (sg ?_);have ⟨x2,aq,h⟩:=η h;refine ⟨_,rfl,_,rfl,?_⟩;refine Θ.call (afr aq) lz ?_;refine ⟨_,rfl,?_⟩;refine sq (sg ?_);refine ct h (fun hb h=>?_) fun hb h=>?_
 ·refine sq (dw 3 tok mixed ?_);have ⟨x3,aF,h⟩:=η h;refine ⟨_,⟨_,rfl,rfl⟩,_,rfl,_,⟨_,.dz (jr aF) lz,rfl⟩,Q0,_,rfl,_,rfl,?_⟩;refine rt ?_;cases h;exact ⟨_,rfl,_,rfl,Fz.t fq⟩
 refine sk (sq (Ok.gP (m:=2) (late:=[1]) (MD:=⟨[]⟩) (CH:=⟨[]⟩) tok mixed (by kernel_rfl) ?_));refine ⟨_,⟨_,rfl,rfl⟩,_,⟨_,rfl,rfl⟩,Q0,?_⟩;refine ⟨_,rfl,⟨⟨_,rfl,_,rfl,rfl⟩,Q0⟩,_,rfl,?_⟩;refine rt ?_;cases h;exact ⟨_,rfl,_,rfl,Fz.t fq⟩
def aeU {c e f d r} (h:Bt c e f d=some r):Pure prog 93 [.a (b0 c),vi e,vs f,vi d] (.t [.a (b0 r.1),vi r.2.1,vi r.2.2]):=by
 refine pq tok 60 func93 ?_;unfold Bt at h;refine sg (sq ?_);have ⟨v1,ν,h⟩:=η h;refine Ok.aB ⟨Γ [(1,vi e),(2,vs f),(3,vi d),(4,.b 4 0),(8,.b 8 0),(18,vb v1)],[(4,.box (b0 c)),(8,.box (k1 0 0))]⟩ ?_ ?_
 ·refine rg ?_;have ⟨c1,ξ,ν⟩:=η ν;refine Br.ite ξ (fun hb ξ=>?_) fun hb ξ=>?_
  ·cases ξ;cases ν;exact wt Q6 J2 rfl
  cases ξ;cases ν;exact wt Q6 J2 rfl
 refine ct h (fun hb h=>?_) fun hb h=>?_
 ·refine sg ⟨_,rfl,_,rfl,?_⟩;refine rt ?_;cases h;exact ⟨_,rfl,Fz.t fq⟩
 refine sk (sg ?_);have ⟨x1,θ,h⟩:=η h;refine ⟨_,rfl,?_⟩;refine Θ.call (Va θ) lz ?_;refine sq (sg ?_);refine ct h (fun hb h=>?_) fun hb h=>?_
 ·refine sg ⟨_,rfl,_,rfl,?_⟩;refine rt ?_;cases h;exact ⟨_,rfl,Fz.t fq⟩
 refine sk (sq ?_);have ⟨v2,Δ,h⟩:=η h;refine Ok.aB ⟨Γ [(1,vi e),(2,vs f),(3,vi d),(4,.b 4 0),(8,.b 8 0),(36,vb v2)],[(4,.box (b0 c)),(8,.box (k1 0 0))]⟩ ?_ ?_
 ·refine rg ⟨_,rfl,_,au _,fun _=>?_⟩;have ⟨c2,ax,Δ⟩:=η Δ;refine Br.cO ax (fun hb ax=>?_) fun hb ax=>?_
  ·cases ax;cases Δ;exact wt Q6 J2 rfl
  refine ⟨_,rfl,?_⟩;cases ax;cases Δ;exact wt Q6 J2 rfl
 refine ct h (fun hb h=>?_) fun hb h=>?_
 ·refine sg ⟨_,rfl,_,rfl,?_⟩;refine rt ?_;cases h;exact ⟨_,rfl,Fz.t fq⟩
 refine sk (sg ?_);refine ⟨_,rfl,_,rfl,?_⟩;have ⟨v3,aA,h⟩:=η h;refine Ok.aB ⟨Γ [(1,vi e),(2,vs f),(4,.b 4 0),(8,.b 8 0),(12,.b 12 0)],[(4,.box (b0 c)),(8,.box (k1 0 0)),(12,.box (k9 c.Next d 1 v3))]⟩ ?_ ?_
 ·refine sg (ct aA (fun hb aA=>?_) fun hb aA=>?_)
  ·refine rg ⟨_,rfl,?_⟩;cases aA;exact wt Q5 J3 rfl
  refine sk ?_;cases aA;exact wt Q5 J3 rfl
 refine sg ?_;have ⟨ah,h⟩:=ak h;refine ⟨_,rfl,af ⟨ah,_,rfl,?_⟩⟩;refine sq (Ok.gP (m:=10) (late:=[8,9]) (MD:=⟨[]⟩) (CH:=⟨[]⟩) tok mixed (by kernel_rfl) ?_);have ⟨x2,aq,h⟩:=η h;have ⟨x3,aF,h⟩:=η h;refine ⟨_,⟨_,rfl,rfl⟩,_,⟨_,rfl,rfl⟩,_,⟨_,.dz (wR aq) (l1 (.cons (Le.a (l2 (l1 (.cons (Le.nil) (.cons (Le.nil) lz))))) .nil)),rfl⟩,_,rfl,_,rfl,_,rfl,_,⟨_,rfl,rfl⟩,_,⟨_,.dz (NF aF) lz,rfl⟩,_,rfl,_,⟨_,rfl,rfl⟩,Q0,?_⟩;refine ⟨_,rfl,⟨⟨_,rfl,rfl⟩,⟨_,rfl,_,rfl,rfl⟩,Q0⟩,?_⟩;refine rt ?_;cases h;exact ⟨_,rfl,Fz.t fq⟩
def NH {c e d r} (h:tU c e d=some r):Pure prog 146 [.a (b0 c),vi e,vs d] (.a (b0 r)):=by
 refine pq tok 45 func146 ?_;unfold tU at h;refine sg (sg ?_);have ⟨x1,θ,h⟩:=η h;refine ⟨_,rfl,?_⟩;refine Θ.call (g_ θ) lz ?_;refine ⟨_,rfl,?_⟩;refine sg ?_;have ⟨v1,ν,h⟩:=η h;refine Ok.aB ⟨Γ [(3,.b 3 0),(6,.b 6 0),(7,.b 7 0),(9,.o 39)],[(3,.box (b0 c)),(6,.box (k1 0 0)),(7,.box (b4 x1.1)),(39,.own 138 3 (mC v1))]⟩ ?_ ?_
 ·refine sg (bl (Ok.loop (fun (s1:Int×(List aJ))=>⟨Γ [(2,vs d),(3,.b 3 0),(6,.b 6 0),(7,.b 7 0),(9,.o 39),(10,vi s1.1)],[(3,.box (b0 c)),(6,.box (k1 0 0)),(7,.box (b4 x1.1)),(39,.own 138 3 (mC s1.2))]⟩) (BI x1 d) (s0:=(0,[])) ν ((Wk.nn (t:=9) (id:=39) (E:=138) (K:=3) rfl rfl).trans (wt Q6 ⟨hr,hr,hr,hr,Q0⟩ rfl)) ?_));intro s1 y1 ζ az;unfold BI at ζ;refine sq (sg ?_);refine ⟨_,rfl,_,au _,fun _=>?_⟩;refine ct ζ (fun hb ζ=>?_) fun hb ζ=>?_
  ·refine sk ?_;have ⟨v2,Δ,ζ⟩:=η ζ;refine Ok.aB ⟨Γ [(2,vs d),(3,.b 3 0),(6,.b 6 0),(7,.b 7 0),(9,.o 39),(10,vi s1.1)],[(3,.box (b0 c)),(6,.box (k1 0 0)),(7,.box (b4 x1.1)),(39,.own 138 3 (mC v2))]⟩ ?_ ?_
   ·refine bl (sg ?_);have ⟨x2,aq,Δ⟩:=η Δ;refine ⟨_,rfl,_,aI aq,_,aK aq,_,rfl,_,M0 _ _,?_⟩;refine ct Δ (fun hb Δ=>?_) fun hb Δ=>?_
    ·refine rg ?_;have ⟨x3,aF,Δ⟩:=η Δ;have ⟨ah,Δ⟩:=ak Δ;refine ⟨_,rfl,_,aI aF,_,aK aF,_,rfl,af ⟨cL (f:=eM) (n:=3) (fun _=>rfl) ([x3]),cJ (f:=eM) (l:=s1.2) (l':=[x3]) ah,_,(bP (f:=eM) (l₁:=s1.2) (l₂:=[x3])).symm,?_⟩⟩;cases Δ;exact wt Q6 J4 rfl
    refine sk ?_;cases Δ;exact wt Q6 J4 rfl
   refine rg ?_;have ⟨aQ,ζ⟩:=ak ζ;refine (af ⟨aQ,?_⟩);exact ⟨_,sj ζ,wt Q6 J4 rfl⟩
  refine xt ?_;have ζ:=aN ζ az;cases ζ;exact wt Q4 J4 rfl
 refine sg ⟨_,rfl,?_⟩;refine sg ?_;have ⟨x4,aV,h⟩:=η h;refine ⟨_,rfl,_,rfl,?_⟩;refine Θ.freeze (id:=39) rfl (Θ.call (wR aV) lz ?_);refine ⟨_,rfl,?_⟩;refine rt ?_;cases h;exact ⟨_,rfl,Fz.cq rfl⟩
def Vb {c d r} (h:wo c d=some r):Pure prog 145 [.a (b0 c),vi d] (.a (b0 r)):=by
 refine pq tok 26 func145 ?_;unfold wo at h;refine sg (sg ?_);have ⟨x1,θ,h⟩:=η h;refine ⟨_,rfl,?_⟩;refine Θ.call (g_ θ) lz ?_;refine ⟨_,rfl,?_⟩;refine sq (sg ?_);refine ⟨_,rfl,?_⟩;refine ct h (fun hb h=>?_) fun hb h=>?_
 ·refine sg ?_;have ⟨x2,aq,h⟩:=η h;refine ⟨_,rfl,?_⟩;refine Θ.call (Vc aq) lz ?_;refine ⟨_,rfl,?_⟩;refine rt ?_;cases h;exact ⟨_,rfl,Fz.cq rfl⟩
 refine sk (sg ?_);have ⟨ah,h⟩:=ak h;refine ⟨_,rfl,af ⟨ah,_,rfl,?_⟩⟩;refine sg ?_;have ⟨x3,aF,h⟩:=η h;refine ⟨_,rfl,_,rfl,?_⟩;refine Θ.call (wR aF) lz ?_;refine ⟨_,rfl,?_⟩;refine rt ?_;cases h;exact ⟨_,rfl,Fz.cq rfl⟩
end Go.Proofs
