/- The walks of this seat beside the plain programs, part 5. No condition. -/
import Derived.Test.YtdcgbodbejgliaaGreatDoorXTopListedWk4
open List renaming length_map → au, map_append → bP
open Or renaming inl → af
namespace Go.Proofs
set_option linter.all false
open Go Go.Cat Tryz
variable [M:bU] [K:LK]
set_option maxRecDepth 100000
set_option maxHeartbeats 4000000
def GL {c e d r} (h:tM c e d=some r):Pure prog 95 [.a (b0 c),vi e,vs d] (.t [vi r.1,vi r.2]):=by
 refine pq tok 34 func95 ?_;unfold tM at h;refine sg (sg ?_);have ⟨x1,θ,h⟩:=η h;refine ⟨_,rfl,?_⟩;refine Θ.call (GN θ) lz ?_;refine ⟨_,rfl,?_⟩;refine sq (sg ?_);refine ct h (fun hb h=>?_) fun hb h=>?_
 ·refine sg (rt ?_);cases h;exact (Fz.t fq)
 refine sk (sq (sg ?_));have ⟨x2,aq,h⟩:=η h;refine Θ.call (GJ aq) lz ?_;refine ct h (fun hb h=>?_) fun hb h=>?_
 ·refine sg (rt ?_);cases h;exact (Fz.t fq)
 refine sk (sg ?_);have ⟨x3,aF,h⟩:=η h;refine ⟨_,rfl,?_⟩;refine Θ.call (NI aF) lz ?_;refine sq (sg ?_);refine ct h (fun hb h=>?_) fun hb h=>?_
 ·refine sg (rt ?_);cases h;exact (Fz.t fq)
 refine sk (sg ?_);have ⟨x4,aV,h⟩:=η h;refine ⟨_,rfl,_,aI aV,_,aK aV,_,rfl,?_⟩;refine rt ?_;cases h;exact (Fz.t fq)
def ND {c d r} (h:we c d=some r):Pure prog 89 [.a (b0 c),vs d] (.t [vi r.1,vi r.2]):=by
 refine pq tok 41 func89 ?_;unfold we at h;refine sg (sg ?_);have ⟨x1,θ,h⟩:=η h;refine Θ.call (GK θ) lz ?_;refine sq (sg ?_);refine ct h (fun hb h=>?_) fun hb h=>?_
 ·refine sg (rt ?_);cases h;exact (Fz.t fq)
 refine sk (sg ?_);refine Ok.cU (fun v1=>⟨Γ [(8,vi v1)],[]⟩) (fun v1=>Fb v1=some r) ?_ ?_
 ·refine sg (bl (Ok.loop (fun (s1:Int×Int)=>⟨Γ [(2,.b 2 0),(6,.s (mG x1.1)),(8,vi s1.1),(9,vi s1.2)],[(2,.box (b0 c))]⟩) (wg x1 c) (s0:=(1,0)) h (wt Q4 ⟨hr,Q0⟩ rfl) ?_));intro s1 y1 ζ az;unfold wg at ζ;refine sq (sg ?_);refine ⟨_,au _,fun _=>?_⟩;refine ct ζ (fun hb ζ=>?_) fun hb ζ=>?_
  ·refine sk (sq (bl (sq (dw 12 tok mixed ?_))));have ⟨x2,aq,ζ⟩:=η ζ;have ⟨x3,aF,ζ⟩:=η ζ;refine ⟨_,⟨_,rfl,rfl⟩,_,rfl,_,rfl,_,rfl,_,⟨_,aI aq,_,aK aq,rfl⟩,_,⟨_,rfl,rfl⟩,_,⟨_,.dz (GL aF) lz,rfl⟩,_,rfl,_,rfl,_,rfl,_,rfl,_,rfl,Q0,?_⟩;refine sq (sg ?_);refine ct ζ (fun hb ζ=>?_) fun hb ζ=>?_
   ·refine sg (rt ?_);have ζ:=aN ζ az;cases ζ;exact (Fz.t fq)
   refine sk (rg ?_);refine rg ?_;have ⟨ah,ζ⟩:=ak ζ;refine (af ⟨ah,?_⟩);exact ⟨_,sj ζ,wt Q4 J1 rfl⟩
  refine xt ?_;have ζ:=aN ζ az;exact ⟨_,ζ,wt Q1 Q0 rfl⟩
 intro v1 h;unfold Fb at h;refine sg (rt ?_);cases h;exact (Fz.t fq)
def U8 {a r} (h:yC a=some r):Pure prog 57 [.s (mG a)] (vs r):=by
 refine pq tok 22 func57 ?_;unfold yC at h;refine sg (sq (sg ?_));refine ⟨_,au _,fun _=>?_⟩;refine ct h (fun hb h=>?_) fun hb h=>?_
 ·refine sg (rt ?_);cases h;exact Fz.v
 refine sk (sg ?_);have ⟨v1,ν,h⟩:=η h;refine Ok.aB ⟨Γ [(3,vs v1)],[]⟩ ?_ ?_
 ·refine sg (bl (Ok.loop (fun (s1:(List UInt8)×Int)=>⟨Γ [(0,.s (mG a)),(3,vs s1.1),(4,vi s1.2)],[]⟩) (Bq a) (s0:=([],0)) ν (wt Q3 Q0 rfl) ?_));intro s1 y1 ζ az;unfold Bq at ζ;refine sq (sg ?_);refine ⟨_,au _,fun _=>?_⟩;refine ct ζ (fun hb ζ=>?_) fun hb ζ=>?_
  ·refine sk (sq (bl (rg ?_)));have ⟨ah,ζ⟩:=ak ζ;have ⟨x1,θ,ζ⟩:=η ζ;have ⟨aQ,ζ⟩:=ak ζ;refine ⟨MY ah,_,MZ _ _,_,aI θ,_,aK θ,_,rfl,MY aQ,_,MZ _ _,?_⟩;refine rg ?_;have ⟨bN,ζ⟩:=ak ζ;refine (af ⟨bN,?_⟩);exact ⟨_,sj ζ,wt Q3 Q0 rfl⟩
  refine xt ?_;have ζ:=aN ζ az;cases ζ;exact wt Q1 Q0 rfl
 refine sg (rt ?_);cases h;exact Fz.v
def aeT {a r} (h:Bs a=some r):Pure prog 140 [vs a] (.t (RZ r.1 r.2.1 r.2.2)):=by
 refine pq tok 31 func140 ?_;unfold Bs at h;refine sg (sg ?_);have ⟨x1,θ,h⟩:=η h;refine Θ.call (GK θ) lz ?_;refine sq ?_;have ⟨v1,ν,h⟩:=η h;refine Ok.aB ⟨Γ [(5,.s (mG x1.1)),(18,vb v1)],[]⟩ ?_ ?_
 ·refine rg ?_;have ⟨c1,ξ,ν⟩:=η ν;refine Br.cO ξ (fun hb ξ=>?_) fun hb ξ=>?_
  ·cases ξ;cases ν;exact wt Q2 Q0 rfl
  refine ⟨_,au _,fun _=>?_⟩;cases ξ;cases ν;exact wt Q2 Q0 rfl
 refine ct h (fun hb h=>?_) fun hb h=>?_
 ·refine sg (rt ?_);cases h;exact (Fz.t fq)
 refine sk (sq (dw 15 tok mixed ?_));have ⟨ah,h⟩:=ak h;have ⟨x2,aq,h⟩:=η h;have ⟨aQ,h⟩:=ak h;have ⟨bN,h⟩:=ak h;have ⟨x3,aF,h⟩:=η h;refine ⟨_,rfl,_,rfl,_,⟨_,au _,fun _=>rfl⟩,_,af ⟨ah,rfl⟩,_,⟨_,aI aq,_,aK aq,rfl⟩,_,⟨_,rfl,rfl⟩,_,rfl,_,rfl,_,⟨_,au _,fun _=>rfl⟩,_,af ⟨aQ,rfl⟩,_,⟨_,fK bN.1,Nat.zero_le _,nW bN,mo (f:=eA) (K:=1) (fun _=>rfl) x1.1,_,wL _ _ _,rfl⟩,_,⟨_,.dz (U8 aF) lz,rfl⟩,_,rfl,_,rfl,_,rfl,Q0,?_⟩;refine rt ?_;cases h;exact (Fz.t fq)
def NL {c d r} (h:wy c d=some r):Pure prog 90 [.a (b0 c),vs d] (.t (tp r.1 r.2.1 r.2.2)):=by
 refine pq tok 29 func90 ?_;unfold wy at h;refine sg (sg ?_);have ⟨x1,θ,h⟩:=η h;refine Θ.call (aeT θ) lz ?_;refine sq (sg ?_);refine ct h (fun hb h=>?_) fun hb h=>?_
 ·refine sg (rt ?_);cases h;exact (Fz.t fq)
 refine sk (sg ?_);have ⟨x2,aq,h⟩:=η h;refine ⟨_,rfl,?_⟩;refine Θ.call (ND aq) lz ?_;refine sg (rt ?_);cases h;exact (Fz.t fq)
def GM {c d r} (h:rP c d=some r):Pure prog 151 [.a (b0 c),vi d] (vi r):=by
 refine pq tok 25 func151 ?_;unfold rP at h;refine sg (sg ?_);have ⟨v1,ν,h⟩:=η h;refine Ok.aB ⟨Γ [(5,vi v1)],[]⟩ ?_ ?_
 ·refine bl (Ok.loop (fun (s1:Int×Int)=>⟨Γ [(1,vi s1.1),(2,.b 2 0),(5,vi s1.2)],[(2,.box (b0 c))]⟩) (wh c) (s0:=(d,0)) ν (wt Q3 ⟨hr,Q0⟩ rfl) ?_);intro s1 y1 ζ az;unfold wh at ζ;refine sq ?_;have ⟨v2,Δ,ζ⟩:=η ζ;refine Ok.aB ⟨Γ [(1,vi s1.1),(2,.b 2 0),(5,vi s1.2),(13,vb v2)],[(2,.box (b0 c))]⟩ ?_ ?_
  ·refine rg ?_;have ⟨c1,ξ,Δ⟩:=η Δ;refine Br.ite ξ (fun hb ξ=>?_) fun hb ξ=>?_
   ·cases ξ;cases Δ;exact wt Q4 J1 rfl
   cases ξ;cases Δ;exact wt Q4 J1 rfl
  refine ct ζ (fun hb ζ=>?_) fun hb ζ=>?_
  ·refine sk (bl (sg ?_));have ⟨x1,θ,ζ⟩:=η ζ;refine ⟨_,rfl,?_⟩;refine Θ.call (g_ θ) lz ?_;refine ⟨_,rfl,?_⟩;refine sg ⟨_,rfl,?_⟩;refine rg ?_;have ⟨ah,ζ⟩:=ak ζ;refine (af ⟨ah,?_⟩);exact ⟨_,sj ζ,wt Q3 J1 rfl⟩
  refine xt ?_;have ζ:=aN ζ az;cases ζ;exact wt Q1 Q0 rfl
 refine sg (rt ?_);cases h;exact Fz.v
def ae4 {d c r} (h:BG d c=some r):Pure prog 221 [.a (b0 d),.a (b4 c)] (vb r):=by
 refine pq tok 21 func221 ?_;unfold BG at h;refine sg ?_;have ⟨v1,ν,h⟩:=η h;refine Ok.aB ⟨Γ [(4,vb v1)],[]⟩ ?_ ?_
 ·refine rg ⟨_,rfl,_,au _,fun _=>?_⟩;have ⟨c1,ξ,ν⟩:=η ν;refine Br.cO ξ (fun hb ξ=>?_) fun hb ξ=>?_
  ·cases ξ;have ⟨c2,ax,ν⟩:=η ν;replace ax:=fu ax;cases ax;cases ν;exact wt Q1 Q0 rfl
  have ⟨x1,θ,ξ⟩:=η ξ;refine ⟨_,rfl,_,rfl,?_⟩;refine Θ.call (GM θ) lz ?_;cases ξ;have ⟨c2,aL,ν⟩:=η ν;refine Br.cO aL (fun hb aL=>?_) fun hb aL=>?_
  ·cases aL;cases ν;exact wt Q1 Q0 rfl
  refine ⟨_,rfl,?_⟩;cases aL;cases ν;exact wt Q1 Q0 rfl
 refine rt ?_;cases h;exact Fz.v
def Va {c e d r} (h:yI c e d=some r):Pure prog 141 [.a (b0 c),vi e,vs d] (vi r):=by
 refine pq tok 28 func141 ?_;unfold yI at h;refine sg (sg ?_);have ⟨x1,θ,h⟩:=η h;refine ⟨_,rfl,?_⟩;refine Θ.call (GN θ) lz ?_;refine ⟨_,rfl,?_⟩;refine sq (sg ?_);refine ct h (fun hb h=>?_) fun hb h=>?_
 ·refine sg (rt ?_);cases h;exact Fz.v
 refine sk (sq (sg ?_));have ⟨x2,aq,h⟩:=η h;refine Θ.call (GJ aq) lz ?_;refine ct h (fun hb h=>?_) fun hb h=>?_
 ·refine sg (rt ?_);cases h;exact Fz.v
 refine sk (sq (sg ?_));have ⟨x3,aF,h⟩:=η h;refine ⟨_,rfl,?_⟩;refine Θ.call (NI aF) lz ?_;refine ct h (fun hb h=>?_) fun hb h=>?_
 ·refine sg (rt ?_);cases h;exact Fz.v
 refine sk (sq (sg ?_));have ⟨x4,aV,h⟩:=η h;refine ⟨_,rfl,_,rfl,?_⟩;refine Θ.call (ae4 aV) lz ?_;refine ct h (fun hb h=>?_) fun hb h=>?_
 ·refine sg (rt ?_);cases h;exact Fz.v
 refine sk (sg ?_);refine rt ?_;cases h;exact Fz.v
def wR {d c r} (h:oO d c=some r):Pure prog 143 [.a (b0 d),.a (b4 c)] (.a (b0 r)):=by
 refine pq tok 58 func143 ?_;unfold oO at h;refine sg (sg (sg ?_));have ⟨v1,ν,h⟩:=η h;refine Ok.aB ⟨Γ [(2,.b 2 0),(3,.b 3 0),(4,.b 4 0),(5,.o 31),(6,vb v1.1)],[(2,.box (b0 d)),(3,.box (b4 c)),(4,.box (k1 0 0)),(31,.own 44 6 (mI v1.2))]⟩ ?_ ?_
 ·refine sg (bl (Ok.loop (fun (s1:Bool×Int×(List ψ))=>⟨Γ [(2,.b 2 0),(3,.b 3 0),(4,.b 4 0),(5,.o 31),(6,vb s1.1),(7,vi s1.2.1)],[(2,.box (b0 d)),(3,.box (b4 c)),(4,.box (k1 0 0)),(31,.own 44 6 (mI s1.2.2))]⟩) (BK d c) (s0:=(false,0,[])) ν ((Wk.nn (t:=5) (id:=31) (E:=44) (K:=6) rfl rfl).trans (wt Q6 ⟨hr,hr,hr,hr,Q0⟩ rfl)) ?_));intro s1 y1 ζ az;unfold BK at ζ;refine sq (sg ?_);refine ⟨_,rfl,_,au _,fun _=>?_⟩;refine ct ζ (fun hb ζ=>?_) fun hb ζ=>?_
  ·refine sk ?_;have ⟨v2,Δ,ζ⟩:=η ζ;refine Ok.aB ⟨Γ [(2,.b 2 0),(3,.b 3 0),(4,.b 4 0),(5,.o 31),(6,vb v2.1),(7,vi s1.2.1)],[(2,.box (b0 d)),(3,.box (b4 c)),(4,.box (k1 0 0)),(31,.own 44 6 (mI v2.2))]⟩ ?_ ?_
   ·refine bl ?_;have ⟨v3,aA,Δ⟩:=η Δ;refine Ok.aB ⟨Γ [(2,.b 2 0),(3,.b 3 0),(4,.b 4 0),(5,.o 31),(6,vb v3.1),(7,vi s1.2.1)],[(2,.box (b0 d)),(3,.box (b4 c)),(4,.box (k1 0 0)),(31,.own 44 6 (mI v3.2))]⟩ ?_ ?_
    ·have ⟨v4,aO,aA⟩:=η aA;refine Ok.aB ⟨Γ [(2,.b 2 0),(3,.b 3 0),(4,.b 4 0),(5,.o 31),(6,vb s1.1),(7,vi s1.2.1),(27,vb v4)],[(2,.box (b0 d)),(3,.box (b4 c)),(4,.box (k1 0 0)),(31,.own 44 6 (mI s1.2.2))]⟩ ?_ ?_
     ·refine dw 13 tok mixed ⟨_,rfl,_,rfl,_,rfl,?_⟩;have ⟨c1,ξ,aO⟩:=η aO;refine Br.ite ξ (fun hb ξ=>?_) fun hb ξ=>?_
      ·have ⟨x1,θ,ξ⟩:=η ξ;refine ⟨_,rfl,_,⟨_,rfl,rfl⟩,_,rfl,_,⟨_,aI θ,_,aK θ,rfl⟩,_,rfl,_,⟨_,rfl,rfl⟩,_,rfl,_,⟨_,rfl,rfl⟩,_,rfl,?_⟩;cases ξ;refine ⟨_,rfl,?_⟩;refine ⟨Q0,?_⟩;cases aO;exact wt Q7 J4 rfl
      cases ξ;refine ⟨_,rfl,?_⟩;refine ⟨Q0,?_⟩;cases aO;exact wt Q7 J4 rfl
     refine ct aA (fun hb aA=>?_) fun hb aA=>?_
     ·refine sg ?_;have ⟨ah,aA⟩:=ak aA;refine ⟨_,rfl,af ⟨cL (f:=ed) (n:=6) (fun _=>rfl) ([c]),cJ (f:=ed) (l:=s1.2.2) (l':=[c]) ah,_,(bP (f:=ed) (l₁:=s1.2.2) (l₂:=[c])).symm,?_⟩⟩;refine rg ?_;cases aA;exact wt Q6 J4 rfl
     refine sk ?_;cases aA;exact wt Q6 J4 rfl
    refine sq (dw 9 tok mixed ?_);have ⟨x2,aq,Δ⟩:=η Δ;refine ⟨_,rfl,_,⟨_,rfl,rfl⟩,_,rfl,_,⟨_,aI aq,_,aK aq,rfl⟩,_,rfl,_,⟨_,rfl,rfl⟩,_,rfl,_,⟨_,rfl,rfl⟩,_,rfl,Q0,?_⟩;refine ct Δ (fun hb Δ=>?_) fun hb Δ=>?_
    ·refine rg ?_;have ⟨x3,aF,Δ⟩:=η Δ;have ⟨aQ,Δ⟩:=ak Δ;refine ⟨_,rfl,_,aI aF,_,aK aF,_,rfl,af ⟨cL (f:=ed) (n:=6) (fun _=>rfl) ([x3]),cJ (f:=ed) (l:=v3.2) (l':=[x3]) aQ,_,(bP (f:=ed) (l₁:=v3.2) (l₂:=[x3])).symm,?_⟩⟩;cases Δ;exact wt Q6 J4 rfl
    refine sk ?_;cases Δ;exact wt Q6 J4 rfl
   refine rg ?_;have ⟨bN,ζ⟩:=ak ζ;refine (af ⟨bN,?_⟩);exact ⟨_,sj ζ,wt Q6 J4 rfl⟩
  refine xt ?_;have ζ:=aN ζ az;cases ζ;exact wt Q5 J4 rfl
 have ⟨v5,bg,h⟩:=η h;refine Ok.aB ⟨Γ [(2,.b 2 0),(4,.b 4 0),(5,.o 31)],[(2,.box (b0 d)),(4,.box (k1 0 0)),(31,.own 44 6 (mI v5))]⟩ ?_ ?_
 ·refine sg (ct bg (fun hb bg=>?_) fun hb bg=>?_)
  ·refine rg ?_;have ⟨c8,bg⟩:=ak bg;refine ⟨_,rfl,af ⟨cL (f:=ed) (n:=6) (fun _=>rfl) ([c]),cJ (f:=ed) (l:=v1.2) (l':=[c]) c8,_,(bP (f:=ed) (l₁:=v1.2) (l₂:=[c])).symm,?_⟩⟩;cases bg;exact wt Q3 J3 rfl
  refine sk ?_;cases bg;exact wt Q3 J3 rfl
 refine sg ⟨_,rfl,?_⟩;refine sg ⟨_,rfl,_,rfl,?_⟩;refine rt ?_;cases h;exact ⟨_,rfl,Fz.a (.cons (Fz.o rfl) fq)⟩
def NF {c g d e r} (h:tT c g d e=some r):Pure prog 142 [.a (b0 c),vi g,vs d,vi e] (.a (b0 r)):=by
 refine pq tok 72 func142 ?_;unfold tT at h;refine sg (sg ?_);have ⟨x1,θ,h⟩:=η h;refine ⟨_,rfl,?_⟩;refine Θ.call (g_ θ) lz ?_;refine ⟨_,rfl,?_⟩;refine sg ⟨_,rfl,_,rfl,?_⟩;refine sg (sg ?_);have ⟨v1,ν,h⟩:=η h;refine Ok.aB ⟨Γ [(4,.b 4 0),(8,.b 8 0),(9,.b 9 0),(11,.b 11 0),(12,.o 48),(13,vb v1.1)],[(4,.box (b0 c)),(8,.box (k1 0 0)),(9,.box (b4 x1.1)),(11,.box (A6 d e c.ar)),(48,.own 138 3 (mC v1.2))]⟩ ?_ ?_
 ·refine sg (bl (Ok.loop (fun (s1:Bool×Int×(List aJ))=>⟨Γ [(2,vs d),(4,.b 4 0),(8,.b 8 0),(9,.b 9 0),(11,.b 11 0),(12,.o 48),(13,vb s1.1),(14,vi s1.2.1)],[(4,.box (b0 c)),(8,.box (k1 0 0)),(9,.box (b4 x1.1)),(11,.box (A6 d e c.ar)),(48,.own 138 3 (mC s1.2.2))]⟩) (BE x1 d e c) (s0:=(false,0,[])) ν ((Wk.nn (t:=12) (id:=48) (E:=138) (K:=3) rfl rfl).trans (wt Q8 ⟨hr,hr,hr,hr,hr,Q0⟩ rfl)) ?_));intro s1 y1 ζ az;unfold BE at ζ;refine sq (sg ?_);refine ⟨_,rfl,_,au _,fun _=>?_⟩;refine ct ζ (fun hb ζ=>?_) fun hb ζ=>?_
  ·refine sk (sq (bl ?_));have ⟨v2,Δ,ζ⟩:=η ζ;refine Ok.aB ⟨Γ [(2,vs d),(4,.b 4 0),(8,.b 8 0),(9,.b 9 0),(11,.b 11 0),(12,.o 48),(13,vb v2.1),(14,vi s1.2.1)],[(4,.box (b0 c)),(8,.box (k1 0 0)),(9,.box (b4 x1.1)),(11,.box (A6 d e c.ar)),(48,.own 138 3 (mC v2.2))]⟩ ?_ ?_
   ·have ⟨v3,aA,Δ⟩:=η Δ;refine Ok.aB ⟨Γ [(2,vs d),(4,.b 4 0),(8,.b 8 0),(9,.b 9 0),(11,.b 11 0),(12,.o 48),(13,vb s1.1),(14,vi s1.2.1),(44,vb v3)],[(4,.box (b0 c)),(8,.box (k1 0 0)),(9,.box (b4 x1.1)),(11,.box (A6 d e c.ar)),(48,.own 138 3 (mC s1.2.2))]⟩ ?_ ?_
    ·refine rg ?_;have ⟨c1,ξ,aA⟩:=η aA;refine Br.ite ξ (fun hb ξ=>?_) fun hb ξ=>?_
     ·have ⟨x2,aq,ξ⟩:=η ξ;refine ⟨_,rfl,_,aI aq,_,aK aq,_,rfl,_,ad7 _ _,?_⟩;cases ξ;cases aA;exact wt ⟨lr,Q8⟩ ⟨hr,J4⟩ rfl
     cases ξ;cases aA;exact wt ⟨lr,Q8⟩ ⟨hr,J4⟩ rfl
    refine ct Δ (fun hb Δ=>?_) fun hb Δ=>?_
    ·refine sg ?_;have ⟨ah,Δ⟩:=ak Δ;refine ⟨_,rfl,af ⟨cL (f:=eM) (n:=3) (fun _=>rfl) ([(⟨d,e,c.ar⟩:aJ)]),cJ (f:=eM) (l:=s1.2.2) (l':=[(⟨d,e,c.ar⟩:aJ)]) ah,_,(bP (f:=eM) (l₁:=s1.2.2) (l₂:=[(⟨d,e,c.ar⟩:aJ)])).symm,?_⟩⟩;refine rg ?_;cases Δ;exact wt Q8 ⟨hr,J4⟩ rfl
    refine sk ?_;cases Δ;exact wt Q8 ⟨hr,J4⟩ rfl
   refine rg ?_;have ⟨x3,aF,ζ⟩:=η ζ;have ⟨aQ,ζ⟩:=ak ζ;refine ⟨_,rfl,_,aI aF,_,aK aF,_,rfl,af ⟨cL (f:=eM) (n:=3) (fun _=>rfl) ([x3]),cJ (f:=eM) (l:=v2.2) (l':=[x3]) aQ,_,(bP (f:=eM) (l₁:=v2.2) (l₂:=[x3])).symm,?_⟩⟩;refine rg ?_;have ⟨bN,ζ⟩:=ak ζ;refine (af ⟨bN,?_⟩);exact ⟨_,sj ζ,wt Q8 ⟨hr,J4⟩ rfl⟩
  refine xt ?_;have ζ:=aN ζ az;cases ζ;exact wt Q6 ⟨hr,J4⟩ rfl
 have ⟨v4,aO,h⟩:=η h;refine Ok.aB ⟨Γ [(4,.b 4 0),(8,.b 8 0),(9,.b 9 0),(12,.o 48)],[(4,.box (b0 c)),(8,.box (k1 0 0)),(9,.box (b4 x1.1)),(48,.own 138 3 (mC v4))]⟩ ?_ ?_
 ·refine sg (ct aO (fun hb aO=>?_) fun hb aO=>?_)
  ·refine rg ?_;have ⟨c8,aO⟩:=ak aO;refine ⟨_,rfl,af ⟨cL (f:=eM) (n:=3) (fun _=>rfl) ([(⟨d,e,c.ar⟩:aJ)]),cJ (f:=eM) (l:=v1.2) (l':=[(⟨d,e,c.ar⟩:aJ)]) c8,_,(bP (f:=eM) (l₁:=v1.2) (l₂:=[(⟨d,e,c.ar⟩:aJ)])).symm,?_⟩⟩;cases aO;exact wt Q4 J4 rfl
  refine sk ?_;cases aO;exact wt Q4 J4 rfl
 refine sg ⟨_,rfl,?_⟩;refine sg ?_;have ⟨eJ,h⟩:=ak h;refine ⟨_,rfl,af ⟨eJ,_,rfl,?_⟩⟩;refine sg ?_;have ⟨x4,aV,h⟩:=η h;refine ⟨_,rfl,_,rfl,?_⟩;refine Θ.freeze (id:=48) rfl (Θ.call (wR aV) lz ?_);refine ⟨_,rfl,?_⟩;refine rt ?_;cases h;exact ⟨_,rfl,Fz.cq rfl⟩
def aeW {c d e f r} (h:Bv c d e f=some r):Pure prog 91 [.a (b0 c),vi d,vi e,vs f] (.t [.a (b0 r.1),vi r.2]):=by
 refine pq tok 55 func91 ?_;unfold Bv at h;refine sg (sg ?_);have ⟨x1,θ,h⟩:=η h;refine ⟨_,rfl,?_⟩;refine Θ.call (g_ θ) lz ?_;refine ⟨_,rfl,?_⟩;refine sq ?_;have ⟨v1,ν,h⟩:=η h;refine Ok.aB ⟨Γ [(1,vi d),(2,vi e),(3,vs f),(4,.b 4 0),(8,.b 8 0),(10,.b 10 0),(30,vb v1)],[(4,.box (b0 c)),(8,.box (k1 0 0)),(10,.box (b4 x1.1))]⟩ ?_ ?_
 ·refine rg ?_;have ⟨c2,ξ,ν⟩:=η ν;refine Br.cO ξ (fun hb ξ=>?_) fun hb ξ=>?_
  ·cases ξ;cases ν;exact wt Q7 J3 rfl
  refine ⟨_,rfl,?_⟩;have ⟨c1,ax,ξ⟩:=η ξ;refine Br.ite ax (fun hb ax=>?_) fun hb ax=>?_
  ·refine ⟨_,rfl,?_⟩;cases ax;cases ξ;cases ν;exact wt Q7 J3 rfl
  cases ax;cases ξ;cases ν;exact wt Q7 J3 rfl
 refine ct h (fun hb h=>?_) fun hb h=>?_
 ·refine sg ⟨_,rfl,_,rfl,?_⟩;refine rt ?_;cases h;exact ⟨_,rfl,Fz.t fq⟩
 refine sk (sq (sg ?_));refine ⟨_,rfl,?_⟩;refine ct h (fun hb h=>?_) fun hb h=>?_
 ·refine sg ⟨_,rfl,_,rfl,?_⟩;refine rt ?_;cases h;exact ⟨_,rfl,Fz.t fq⟩
 refine sk (sg ?_);have ⟨x2,aq,h⟩:=η h;refine ⟨_,rfl,?_⟩;refine Θ.call (Va aq) lz ?_;refine sq (sg ?_);refine ct h (fun hb h=>?_) fun hb h=>?_
 ·refine sg ⟨_,rfl,_,rfl,?_⟩;refine rt ?_;cases h;exact ⟨_,rfl,Fz.t fq⟩
 refine sk (sg ?_);have ⟨ah,h⟩:=ak h;refine ⟨_,rfl,af ⟨ah,_,rfl,?_⟩⟩;refine sg ?_;have ⟨x3,aF,h⟩:=η h;refine ⟨_,rfl,_,rfl,?_⟩;refine Θ.call (wR aF) lz ?_;have ⟨x4,aV,h⟩:=η h;refine Θ.call (NF aV) lz ?_;refine ⟨_,rfl,?_⟩;refine rt ?_;cases h;exact ⟨_,rfl,Fz.t fq⟩
def afo {a b r} (h:B_ a b=some r):Pure prog 222 [.s (mF a),vi b] (vb r):=by
 refine pq tok 19 func222 ?_;unfold B_ at h;refine sg (Ok.cU (fun v1=>⟨Γ [],[]⟩) (fun v1=>LH v1=some r) ?_ ?_)
 ·refine sg (bl (Ok.loop (fun (s1:Int)=>⟨Γ [(0,.s (mF a)),(1,vi b),(5,vi s1)],[]⟩) (FL a b) (s0:=0) h (wt Q3 Q0 rfl) ?_));intro s1 y1 ζ az;unfold FL at ζ;refine sq (sg ?_);refine ⟨_,au _,fun _=>?_⟩;refine ct ζ (fun hb ζ=>?_) fun hb ζ=>?_
  ·refine sk (sq (bl (sg ?_)));have ⟨x1,θ,ζ⟩:=η ζ;refine ⟨_,aI θ,_,aK θ,_,rfl,?_⟩;refine ct ζ (fun hb ζ=>?_) fun hb ζ=>?_
   ·refine sg (rt ?_);have ζ:=aN ζ az;cases ζ;exact Fz.v
   refine sk (rg ?_);have ⟨ah,ζ⟩:=ak ζ;refine (af ⟨ah,?_⟩);exact ⟨_,sj ζ,wt Q3 Q0 rfl⟩
  refine xt ?_;have ζ:=aN ζ az;exact ⟨_,ζ,wt Q0 Q0 rfl⟩
 intro v1 h;unfold LH at h;refine sg (rt ?_);cases h;exact Fz.v
def Vc {c d r} (h:yL c d=some r):Pure prog 225 [.a (b0 c),vi d] (.a (b0 r)):=by
 refine pq tok 33 func225 ?_;unfold yL at h;refine sg (sg ?_);have ⟨v1,ν,h⟩:=η h;refine Ok.aB ⟨Γ [(2,.b 2 0),(4,.b 4 0),(5,.o 29)],[(2,.box (b0 c)),(4,.box (k1 0 0)),(29,.own 44 6 (mI v1))]⟩ ?_ ?_
 ·refine sg (bl (Ok.loop (fun (s1:Int×(List ψ))=>⟨Γ [(1,vi d),(2,.b 2 0),(4,.b 4 0),(5,.o 29),(6,vi s1.1)],[(2,.box (b0 c)),(4,.box (k1 0 0)),(29,.own 44 6 (mI s1.2))]⟩) (BL c d) (s0:=(0,[])) ν ((Wk.nn (t:=5) (id:=29) (E:=44) (K:=6) rfl rfl).trans (wt Q5 ⟨hr,hr,hr,Q0⟩ rfl)) ?_));intro s1 y1 ζ az;unfold BL at ζ;refine sq (sg ?_);refine ⟨_,rfl,_,au _,fun _=>?_⟩;refine ct ζ (fun hb ζ=>?_) fun hb ζ=>?_
  ·refine sk ?_;have ⟨v2,Δ,ζ⟩:=η ζ;refine Ok.aB ⟨Γ [(1,vi d),(2,.b 2 0),(4,.b 4 0),(5,.o 29),(6,vi s1.1)],[(2,.box (b0 c)),(4,.box (k1 0 0)),(29,.own 44 6 (mI v2))]⟩ ?_ ?_
   ·refine bl (sg ?_);have ⟨x1,θ,Δ⟩:=η Δ;refine ⟨_,rfl,_,aI θ,_,aK θ,_,rfl,?_⟩;refine ct Δ (fun hb Δ=>?_) fun hb Δ=>?_
    ·refine rg ?_;have ⟨x2,aq,Δ⟩:=η Δ;have ⟨ah,Δ⟩:=ak Δ;refine ⟨_,rfl,_,aI aq,_,aK aq,_,rfl,af ⟨cL (f:=ed) (n:=6) (fun _=>rfl) ([x2]),cJ (f:=ed) (l:=s1.2) (l':=[x2]) ah,_,(bP (f:=ed) (l₁:=s1.2) (l₂:=[x2])).symm,?_⟩⟩;cases Δ;exact wt Q5 J3 rfl
    refine sk ?_;cases Δ;exact wt Q5 J3 rfl
   refine rg ?_;have ⟨aQ,ζ⟩:=ak ζ;refine (af ⟨aQ,?_⟩);exact ⟨_,sj ζ,wt Q5 J3 rfl⟩
  refine xt ?_;have ζ:=aN ζ az;cases ζ;exact wt Q3 J3 rfl
 refine sg ⟨_,rfl,?_⟩;refine sg ⟨_,rfl,_,rfl,?_⟩;refine rt ?_;cases h;exact ⟨_,rfl,Fz.a (.cons (Fz.o rfl) fq)⟩
def U_ {c d r} (h:yG c d=some r):Pure prog 160 [.a (b0 c),vi d] (.t [.a (b0 r.1),vi r.2]):=by
 refine pq tok 28 func160 ?_;unfold yG at h;refine sg (sg ?_);have ⟨x1,θ,h⟩:=η h;refine ⟨_,rfl,?_⟩;refine Θ.call (g_ θ) lz ?_;refine ⟨_,rfl,?_⟩;refine sq (sg ?_);refine ct h (fun hb h=>?_) fun hb h=>?_
 ·refine sg ⟨_,rfl,_,rfl,?_⟩;refine rt ?_;cases h;exact ⟨_,rfl,Fz.t fq⟩
 refine sk (sq (sg ?_));refine ⟨_,rfl,?_⟩;refine ct h (fun hb h=>?_) fun hb h=>?_
 ·refine sg ⟨_,rfl,_,rfl,?_⟩;refine rt ?_;cases h;exact ⟨_,rfl,Fz.t fq⟩
 refine sk (sq (sg ?_));refine ⟨_,rfl,?_⟩;refine ct h (fun hb h=>?_) fun hb h=>?_
 ·refine sg ⟨_,rfl,_,rfl,?_⟩;refine rt ?_;cases h;exact ⟨_,rfl,Fz.t fq⟩
 refine sk (sg ?_);have ⟨x2,aq,h⟩:=η h;refine ⟨_,rfl,?_⟩;refine Θ.call (Vc aq) lz ?_;refine ⟨_,rfl,?_⟩;refine rt ?_;cases h;exact ⟨_,rfl,Fz.t fq⟩
def Vh {a b r} (h:yQ a b=some r):Pure prog 158 [.s (mA a),vi b] (vi r):=by
 refine pq tok 20 func158 ?_;unfold yQ at h;refine sg (Ok.cU (fun v1=>⟨Γ [],[]⟩) (fun v1=>Lw v1=some r) ?_ ?_)
 ·refine sg (bl (Ok.loop (fun (s1:Int)=>⟨Γ [(0,.s (mA a)),(1,vi b),(5,vi s1)],[]⟩) (Fk a b) (s0:=0) h (wt Q3 Q0 rfl) ?_));intro s1 y1 ζ az;unfold Fk at ζ;refine sq (sg ?_);refine ⟨_,au _,fun _=>?_⟩;refine ct ζ (fun hb ζ=>?_) fun hb ζ=>?_
  ·refine sk (sq (bl (sg ?_)));have ⟨x1,θ,ζ⟩:=η ζ;refine ⟨_,aI θ,_,aK θ,_,rfl,?_⟩;refine ct ζ (fun hb ζ=>?_) fun hb ζ=>?_
   ·refine sg (rt ?_);have ζ:=aN ζ az;cases ζ;exact Fz.v
   refine sk (rg ?_);have ⟨ah,ζ⟩:=ak ζ;refine (af ⟨ah,?_⟩);exact ⟨_,sj ζ,wt Q3 Q0 rfl⟩
  refine xt ?_;have ζ:=aN ζ az;exact ⟨_,ζ,wt Q0 Q0 rfl⟩
 intro v1 h;unfold Lw at h;refine sg (rt ?_);cases h;exact Fz.v
def ae_ {c d e r} (h:BQ c d e=some r):Pure prog 267 [.a (b0 c),.s (mA d),vi e] (vi r):=by
 refine pq tok 34 func267 ?_;unfold BQ at h;refine sg (sg (Ok.cU (fun v1=>⟨Γ [],[]⟩) (fun v1=>Lv v1=some r) ?_ ?_))
 ·refine sg (bl (Ok.loop (fun (s1:Int×Int)=>⟨Γ [(1,.s (mA d)),(3,.b 3 0),(7,vi s1.1),(8,vi s1.2)],[(3,.box (b0 c))]⟩) (Fh c d) (s0:=(e,0)) h (wt Q4 ⟨hr,Q0⟩ rfl) ?_));intro s1 y1 ζ az;unfold Fh at ζ;refine sq (sg ?_);refine ⟨_,rfl,_,au _,fun _=>?_⟩;refine ct ζ (fun hb ζ=>?_) fun hb ζ=>?_
  ·refine sk (sq (bl (sq (sg ?_))));have ⟨x1,θ,ζ⟩:=η ζ;refine Θ.call (Vh θ) lz ?_;refine ct ζ (fun hb ζ=>?_) fun hb ζ=>?_
   ·refine sg (rt ?_);have ζ:=aN ζ az;cases ζ;exact Fz.v
   refine sk (sq (sg ?_));refine ct ζ (fun hb ζ=>?_) fun hb ζ=>?_
   ·refine sg (rt ?_);have ζ:=aN ζ az;cases ζ;exact Fz.v
   refine sk (sg ?_);have ⟨x2,aq,ζ⟩:=η ζ;refine ⟨_,rfl,?_⟩;refine Θ.call (g_ aq) lz ?_;refine ⟨_,rfl,?_⟩;refine rg ⟨_,rfl,?_⟩;refine rg ?_;have ⟨ah,ζ⟩:=ak ζ;refine (af ⟨ah,?_⟩);exact ⟨_,sj ζ,wt Q4 J1 rfl⟩
  refine xt ?_;have ζ:=aN ζ az;exact ⟨_,ζ,wt Q0 Q0 rfl⟩
 intro v1 h;unfold Lv at h;refine sg (rt ?_);cases h;exact Fz.v
def afl {c d r} (h:B7 c d=some r):Pure prog 223 [.a (b0 c),.s (mA d)] (vb r):=by
 refine pq tok 70 func223 ?_;unfold B7 at h;refine sg (Ok.cU (fun v1=>⟨Γ [],[]⟩) (fun v1=>LF v1=some r) ?_ ?_)
 ·refine sg (bl (Ok.loop (fun (s1:Int)=>⟨Γ [(1,.s (mA d)),(2,.b 2 0),(5,vi s1)],[(2,.box (b0 c))]⟩) (FF c d) (s0:=0) h (wt Q3 ⟨hr,Q0⟩ rfl) ?_));intro s1 y1 ζ az;unfold FF at ζ;refine sq (sg ?_);refine ⟨_,rfl,_,au _,fun _=>?_⟩;refine ct ζ (fun hb ζ=>?_) fun hb ζ=>?_
  ·refine sk (Ok.cU (fun v2=>⟨Γ [(1,.s (mA d)),(2,.b 2 0),(5,vi s1)],[(2,.box (b0 c))]⟩) (fun v2=>yV s1 v2=some y1) ?_ ?_)
   ·refine bl (sq (sg ?_));have ⟨x1,θ,ζ⟩:=η ζ;refine ⟨_,rfl,_,aI θ,_,aK θ,_,rfl,?_⟩;refine ct ζ (fun hb ζ=>?_) fun hb ζ=>?_
    ·refine xt ?_;exact ⟨_,ζ,wt Q3 ⟨hr,Q0⟩ rfl⟩
    refine sk (sg ?_);refine sg (bl (Ok.loop (fun (s2:Int×Int)=>⟨Γ [(1,.s (mA d)),(2,.b 2 0),(5,vi s1),(6,vi s2.1),(7,vi s2.2)],[(2,.box (b0 c))]⟩) (FH c s1 d) (s0:=((-1),0)) ζ (wt Q5 ⟨hr,Q0⟩ rfl) ?_));intro s2 y2 an dM;unfold FH at an;refine sq (sg ?_);refine ⟨_,rfl,_,au _,fun _=>?_⟩;refine ct an (fun hb an=>?_) fun hb an=>?_
    ·refine sk (Ok.cU (fun v3=>⟨Γ [(1,.s (mA d)),(2,.b 2 0),(5,vi s1),(6,vi v3),(7,vi s2.2)],[(2,.box (b0 c))]⟩) (fun v3=>FJ s2 v3=some y2) ?_ ?_)
     ·refine bl (sg ?_);have ⟨x2,aq,an⟩:=η an;refine ⟨_,rfl,_,aI aq,_,aK aq,_,rfl,_,rfl,?_⟩;refine sg (bl (Ok.loop (fun (s3:Int×Int)=>⟨Γ [(1,.s (mA d)),(2,.b 2 0),(5,vi s1),(6,vi s3.1),(7,vi s2.2),(8,.b 8 0),(9,vi s3.2)],[(2,.box (b0 c)),(8,.box (b4 x2))]⟩) (FI x2 c s1 d s2) (s0:=(s2.1,0)) an (wt Q7 ⟨hr,hr,Q0⟩ rfl) ?_));intro s3 y3 aT mi;unfold FI at aT;refine sq (sg ?_);refine ⟨_,rfl,_,au _,fun _=>?_⟩;refine ct aT (fun hb aT=>?_) fun hb aT=>?_
      ·refine sk (Ok.cU (fun v4=>⟨Γ [(1,.s (mA d)),(2,.b 2 0),(5,vi s1),(6,vi v4),(7,vi s2.2),(8,.b 8 0),(9,vi s3.2)],[(2,.box (b0 c)),(8,.box (b4 x2))]⟩) (fun v4=>yW s3 v4=some y3) ?_ ?_)
       ·refine bl (sq (sq (dw 13 tok mixed ?_)));have ⟨x3,aF,aT⟩:=η aT;have ⟨x4,aV,aT⟩:=η aT;refine ⟨_,rfl,_,⟨_,rfl,rfl⟩,_,rfl,_,⟨_,aI aF,_,aK aF,rfl⟩,_,rfl,_,⟨_,rfl,rfl⟩,_,rfl,_,⟨_,rfl,rfl⟩,_,rfl,_,⟨_,aI aV,_,aK aV,rfl⟩,_,rfl,_,⟨_,rfl,rfl⟩,_,rfl,Q0,?_⟩;refine ct aT (fun hb aT=>?_) fun hb aT=>?_
        ·refine xt ?_;exact ⟨_,aT,wt Q7 ⟨hr,hr,Q0⟩ rfl⟩
        refine sk (sg ?_);have ⟨x5,bJ,aT⟩:=η aT;refine ⟨_,rfl,_,rfl,?_⟩;refine Θ.call (ae_ bJ) lz ?_;refine sq ?_;have ⟨v5,bg,aT⟩:=η aT;refine Ok.aB ⟨Γ [(1,.s (mA d)),(2,.b 2 0),(5,vi s1),(7,vi s2.2),(8,.b 8 0),(9,vi s3.2),(10,vi x5),(68,vb v5)],[(2,.box (b0 c)),(8,.box (b4 x2))]⟩ ?_ ?_
        ·refine rg ?_;have ⟨c1,ξ,bg⟩:=η bg;refine Br.ite ξ (fun hb ξ=>?_) fun hb ξ=>?_
         ·cases ξ;cases bg;exact wt Q8 J2 rfl
         cases ξ;cases bg;exact wt Q8 J2 rfl
        refine ct aT (fun hb aT=>?_) fun hb aT=>?_
        ·refine sg (rt ?_);have aT:=aN aT mi;have aT:=aN aT dM;have aT:=aN aT az;cases aT;exact Fz.v
        refine sk (rg ?_);exact ⟨_,aT,wt Q7 ⟨hr,hr,Q0⟩ rfl⟩
       intro v4 aT;unfold yW at aT;refine rg ?_;have ⟨ah,aT⟩:=ak aT;refine (af ⟨ah,?_⟩);exact ⟨_,sj aT,wt Q7 J2 rfl⟩
      refine xt ?_;have aT:=aN aT mi;exact ⟨_,aT,wt Q5 ⟨hr,Q0⟩ rfl⟩
     intro v3 an;unfold FJ at an;refine rg ?_;have ⟨aQ,an⟩:=ak an;refine (af ⟨aQ,?_⟩);exact ⟨_,sj an,wt Q5 J1 rfl⟩
    refine xt ?_;have an:=aN an dM;exact ⟨_,an,wt Q3 ⟨hr,Q0⟩ rfl⟩
   intro v2 ζ;unfold yV at ζ;refine rg ?_;have ⟨bN,ζ⟩:=ak ζ;refine (af ⟨bN,?_⟩);exact ⟨_,sj ζ,wt Q3 J1 rfl⟩
  refine xt ?_;have ζ:=aN ζ az;exact ⟨_,ζ,wt Q0 Q0 rfl⟩
 intro v1 h;unfold LF at h;refine sg (rt ?_);cases h;exact Fz.v
def Vg {c d r} (h:yP c d=some r):Pure prog 156 [.a (b0 c),vi d] (vb r):=by
 refine pq tok 19 func156 ?_;unfold yP at h;refine sg (sg ?_);have ⟨x1,θ,h⟩:=η h;refine ⟨_,rfl,?_⟩;refine Θ.call (g_ θ) lz ?_;refine ⟨_,rfl,?_⟩;have ⟨v1,ν,h⟩:=η h;refine Ok.aB ⟨Γ [(4,vb v1)],[]⟩ ?_ ?_
 ·refine rg ?_;have ⟨c1,ξ,ν⟩:=η ν;refine Br.ite ξ (fun hb ξ=>?_) fun hb ξ=>?_
  ·refine ⟨_,rfl,?_⟩;cases ξ;cases ν;exact wt Q1 Q0 rfl
  cases ξ;cases ν;exact wt Q1 Q0 rfl
 refine rt ?_;cases h;exact Fz.v
def afa {c d r} (h:BS c d=some r):Pure prog 268 [.a (b0 c),vi d] (vi r):=by
 refine pq tok 22 func268 ?_;unfold BS at h;refine sg (Ok.cU (fun v1=>⟨Γ [],[]⟩) (fun v1=>Lx v1=some r) ?_ ?_)
 ·refine sg (bl (Ok.loop (fun (s1:Int)=>⟨Γ [(1,vi d),(2,.b 2 0),(5,vi s1)],[(2,.box (b0 c))]⟩) (Fl c d) (s0:=0) h (wt Q3 ⟨hr,Q0⟩ rfl) ?_));intro s1 y1 ζ az;unfold Fl at ζ;refine sq (sg ?_);refine ⟨_,rfl,_,au _,fun _=>?_⟩;refine ct ζ (fun hb ζ=>?_) fun hb ζ=>?_
  ·refine sk (sq (bl (sg ?_)));have ⟨x1,θ,ζ⟩:=η ζ;refine ⟨_,rfl,_,aI θ,_,aK θ,_,rfl,?_⟩;refine ct ζ (fun hb ζ=>?_) fun hb ζ=>?_
   ·refine sg (rt ?_);have ζ:=aN ζ az;cases ζ;exact Fz.v
   refine sk (rg ?_);have ⟨ah,ζ⟩:=ak ζ;refine (af ⟨ah,?_⟩);exact ⟨_,sj ζ,wt Q3 J1 rfl⟩
  refine xt ?_;have ζ:=aN ζ az;exact ⟨_,ζ,wt Q0 Q0 rfl⟩
 intro v1 h;unfold Lx at h;refine sg (rt ?_);cases h;exact Fz.v
def agn {c d r} (h:yR c d=some r):jb prog 226 [.a (b0 c),vi d] 4 1 (mH r):=by
 refine pv tok 83 func226 ?_;unfold yR at h;refine sg (sg ?_);have ⟨ah,h⟩:=ak h;refine ⟨_,rfl,_,au _,fun _=>Or.inr ⟨_,_,tz ah,tz ah,Nat.le_refl _,mk_le (by decide) ah,ah.2,_,(List.map_replicate (f:=cB) (a:=(false:Bool))).symm,?_⟩⟩;refine Ok.cU (fun v1=>⟨Γ [(5,.o 14)],[(14,.own 4 1 (mH v1))]⟩) (fun v1=>Ly v1=some r) ?_ ?_
 ·refine sg (bl (Ok.loop (fun (s1:Int×(List Bool))=>⟨Γ [(1,vi d),(2,.b 2 0),(5,.o 14),(6,vi s1.1)],[(2,.box (b0 c)),(14,.own 4 1 (mH s1.2))]⟩) (Fm c d) (s0:=(0,List.replicate (c.ι.length:Int).toNat (false:Bool))) h (wt Q4 ⟨hr,hr,Q0⟩ rfl) ?_));intro s1 y1 ζ az;unfold Fm at ζ;refine sq (sg ?_);refine ⟨_,rfl,_,au _,fun _=>?_⟩;refine ct ζ (fun hb ζ=>?_) fun hb ζ=>?_
  ·refine sk (Ok.cU (fun v2=>⟨Γ [(1,vi d),(2,.b 2 0),(5,.o 14),(6,vi s1.1)],[(2,.box (b0 c)),(14,.own 4 1 (mH v2))]⟩) (fun v2=>Fq s1 v2=some y1) ?_ ?_)
   ·refine bl (sg ?_);have ⟨v3,aA,ζ⟩:=η ζ;refine Ok.aB ⟨Γ [(1,vi d),(2,.b 2 0),(5,.o 14),(6,vi s1.1),(7,vb v3.1)],[(2,.box (b0 c)),(14,.own 4 1 (mH v3.2))]⟩ ?_ ?_
    ·refine sg (bl (Ok.loop (fun (s2:Bool×Int×(List Bool))=>⟨Γ [(1,vi d),(2,.b 2 0),(5,.o 14),(6,vi s1.1),(7,vb s2.1),(8,vi s2.2.1)],[(2,.box (b0 c)),(14,.own 4 1 (mH s2.2.2))]⟩) (Fo c d) (s0:=(false,0,s1.2)) aA (wt Q6 ⟨hr,hr,Q0⟩ rfl) ?_));intro s2 y2 an dM;unfold Fo at an;refine sq (sg ?_);refine ⟨_,rfl,_,au _,fun _=>?_⟩;refine ct an (fun hb an=>?_) fun hb an=>?_
     ·refine sk ?_;have ⟨v4,aO,an⟩:=η an;refine Ok.aB ⟨Γ [(1,vi d),(2,.b 2 0),(5,.o 14),(6,vi s1.1),(7,vb v4.1),(8,vi s2.2.1)],[(2,.box (b0 c)),(14,.own 4 1 (mH v4.2))]⟩ ?_ ?_
      ·refine bl (sq ?_);have ⟨v5,bg,aO⟩:=η aO;refine Ok.aB ⟨Γ [(1,vi d),(2,.b 2 0),(5,.o 14),(6,vi s1.1),(7,vb s2.1),(8,vi s2.2.1),(43,vb v5)],[(2,.box (b0 c)),(14,.own 4 1 (mH s2.2.2))]⟩ ?_ ?_
       ·refine rg ?_;have ⟨x1,θ,bg⟩:=η bg;refine ⟨_,aI θ,jY θ,_,aK θ,rfl,_,rfl,?_⟩;have ⟨c1,ξ,bg⟩:=η bg;refine Br.ite ξ (fun hb ξ=>?_) fun hb ξ=>?_
        ·have ⟨x2,aq,ξ⟩:=η ξ;refine ⟨_,rfl,_,aI aq,_,aK aq,_,rfl,?_⟩;cases ξ;cases bg;exact wt Q7 J2 rfl
        cases ξ;cases bg;exact wt Q7 J2 rfl
       refine ct aO (fun hb aO=>?_) fun hb aO=>?_
       ·refine xt ?_;cases aO;exact wt Q6 J2 rfl
       refine sk (sg ?_);refine bl (Ok.loop (fun (s3:Bool×Int×(List Bool))=>⟨Γ [(1,vi d),(2,.b 2 0),(5,.o 14),(6,vi s1.1),(7,vb s3.1),(8,vi s2.2.1),(9,vi s3.2.1)],[(2,.box (b0 c)),(14,.own 4 1 (mH s3.2.2))]⟩) (Fp c s2) (s0:=(s2.1,0,s2.2.2)) aO (wt Q7 ⟨hr,hr,Q0⟩ rfl) ?_);intro s3 y3 aT mi;unfold Fp at aT;refine sq (sg ?_);have ⟨x3,aF,aT⟩:=η aT;refine ⟨_,rfl,_,aI aF,_,aK aF,_,rfl,_,au _,fun _=>?_⟩;refine ct aT (fun hb aT=>?_) fun hb aT=>?_
       ·refine sk ?_;have ⟨v6,bX,aT⟩:=η aT;refine Ok.aB ⟨Γ [(1,vi d),(2,.b 2 0),(5,.o 14),(6,vi s1.1),(7,vb v6.1),(8,vi s2.2.1),(9,vi s3.2.1)],[(2,.box (b0 c)),(14,.own 4 1 (mH v6.2))]⟩ ?_ ?_
        ·refine bl (sq (dw 13 tok mixed ?_));have ⟨x4,aV,bX⟩:=η bX;have ⟨x5,bJ,bX⟩:=η bX;have ⟨x6,cK,bX⟩:=η bX;refine ⟨_,⟨_,rfl,rfl⟩,_,rfl,_,⟨_,rfl,rfl⟩,_,rfl,_,⟨_,aI aV,_,aK aV,rfl⟩,_,rfl,_,⟨_,rfl,rfl⟩,_,rfl,_,⟨_,aI bJ,_,aK bJ,rfl⟩,_,rfl,_,⟨_,rfl,rfl⟩,_,⟨_,.dz (afa cK) lz,rfl⟩,_,rfl,Q0,?_⟩;have ⟨v7,eV,bX⟩:=η bX;refine Ok.aB ⟨Γ [(1,vi d),(2,.b 2 0),(5,.o 14),(6,vi s1.1),(7,vb s3.1),(8,vi s2.2.1),(9,vi s3.2.1),(10,vi x6),(75,vb v7)],[(2,.box (b0 c)),(14,.own 4 1 (mH s3.2.2))]⟩ ?_ ?_
         ·refine rg ?_;have ⟨c2,ax,eV⟩:=η eV;refine Br.ite ax (fun hb ax=>?_) fun hb ax=>?_
          ·have ⟨x7,cP,ax⟩:=η ax;refine ⟨_,aI cP,jY cP,_,aK cP,rfl,_,rfl,?_⟩;cases ax;cases eV;exact wt ⟨lr,Q8⟩ J2 rfl
          cases ax;cases eV;exact wt ⟨lr,Q8⟩ J2 rfl
         refine ct bX (fun hb bX=>?_) fun hb bX=>?_
         ·refine sg ?_;have ⟨x8,ew,bX⟩:=η bX;refine ⟨_,aI ew,jY ew,_,aK ew,rfl,_,rfl,_,wI (f:=cB) (x:=true),?_⟩;refine rg ?_;cases bX;exact wt Q7 J2 rfl
         refine sk ?_;cases bX;exact wt Q7 J2 rfl
        refine rg ?_;have ⟨aQ,aT⟩:=ak aT;refine (af ⟨aQ,?_⟩);exact ⟨_,sj aT,wt Q7 J2 rfl⟩
       refine xt ?_;have aT:=aN aT mi;cases aT;exact wt Q6 J2 rfl
      refine rg ?_;have ⟨bN,an⟩:=ak an;refine (af ⟨bN,?_⟩);exact ⟨_,sj an,wt Q6 J2 rfl⟩
     refine xt ?_;have an:=aN an dM;cases an;exact wt Q5 J2 rfl
    refine sg (ct ζ (fun hb ζ=>?_) fun hb ζ=>?_)
    ·refine sg (rt ?_);have ζ:=aN ζ az;cases ζ;exact (.inr ⟨_,rfl,rfl⟩)
    refine sk ?_;exact ⟨_,ζ,wt Q4 ⟨hr,hr,Q0⟩ rfl⟩
   intro v2 ζ;unfold Fq at ζ;refine rg ?_;have ⟨c8,ζ⟩:=ak ζ;refine (af ⟨c8,?_⟩);exact ⟨_,sj ζ,wt Q4 J2 rfl⟩
  refine xt ?_;have ζ:=aN ζ az;exact ⟨_,ζ,wt Q1 ⟨hr,Q0⟩ rfl⟩
 intro v1 h;unfold Ly at h;refine sg (rt ?_);cases h;exact (.inr ⟨_,rfl,rfl⟩)
def afb {b c r} (h:yR b c=some r):Pure prog 226 [.a (b0 b),vi c] (.s (mH r)):=(agn h).pure
end Go.Proofs
