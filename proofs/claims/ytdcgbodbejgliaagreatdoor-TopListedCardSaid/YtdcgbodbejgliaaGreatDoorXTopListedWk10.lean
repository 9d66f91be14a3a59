/- The walks of this seat beside the plain programs, part 10. No condition. -/
import Derived.Test.YtdcgbodbejgliaaGreatDoorXTopListedWk9
open List renaming length_map → au, map_append → bP
open Or renaming inl → af, inr → fp
namespace Go.Proofs
set_option linter.all false
open Go Go.Cat Tryz
variable [M:bU] [K:LK]
set_option maxRecDepth 100000
set_option maxHeartbeats 4000000
def afd {c d r} (h:BU c d=some r):Pure prog 53 [.a (b1 c),vi d] (.t [.a (b1 r.1),vi r.2]):=by
 refine pq tok 76 func53 ?_;unfold BU at h;refine sg (sg (fp ?_));have ⟨v1,ν,h⟩:=η h;refine Ok.aB ⟨Γ [(2,.b 2 0),(4,.b 4 0),(6,.o 10)],[(2,.box (b1 c)),(4,.box (k3 0 0 0 0)),(10,.own 105 3 (mE v1))]⟩ ?_ ?_
 ·refine sg (bl (Ok.loop (fun (s1:Int×(List cw))=>⟨Γ [(1,vi d),(2,.b 2 0),(4,.b 4 0),(6,.o 10),(7,vi s1.1)],[(2,.box (b1 c)),(4,.box (k3 0 0 0 0)),(10,.own 105 3 (mE s1.2))]⟩) (BV c d) (s0:=(0,([]:List cw))) ν (wt Q5 ⟨hr,hr,hr,Q0⟩ rfl) ?_));intro s1 y1 ζ az;unfold BV at ζ;refine sq (sg ?_);refine ⟨_,rfl,_,au _,fun _=>?_⟩;refine ct ζ (fun hb ζ=>?_) fun hb ζ=>?_
  ·refine sk ?_;have ⟨v2,Δ,ζ⟩:=η ζ;refine Ok.aB ⟨Γ [(1,vi d),(2,.b 2 0),(4,.b 4 0),(6,.o 10),(7,vi s1.1)],[(2,.box (b1 c)),(4,.box (k3 0 0 0 0)),(10,.own 105 3 (mE v2))]⟩ ?_ ?_
   ·refine bl (sg ?_);have ⟨x1,θ,Δ⟩:=η Δ;refine ⟨_,rfl,_,aI θ,_,aK θ,_,rfl,?_⟩;refine ct Δ (fun hb Δ=>?_) fun hb Δ=>?_
    ·refine rg ?_;have ⟨x2,aq,Δ⟩:=η Δ;have ⟨ah,Δ⟩:=ak Δ;refine ⟨_,rfl,_,aI aq,_,aK aq,_,rfl,af ⟨cL (f:=qd) (n:=3) (fun _=>rfl) ([x2]),cJ (f:=qd) (l:=s1.2) (l':=[x2]) ah,_,(bP (f:=qd) (l₁:=s1.2) (l₂:=[x2])).symm,?_⟩⟩;cases Δ;exact wt Q5 J3 rfl
    refine sk ?_;cases Δ;exact wt Q5 J3 rfl
   refine rg ?_;have ⟨aQ,ζ⟩:=ak ζ;refine (af ⟨aQ,?_⟩);exact ⟨_,sj ζ,wt Q5 J3 rfl⟩
  refine xt ?_;have ζ:=aN ζ az;cases ζ;exact wt Q3 J3 rfl
 refine sq (sg ?_);refine ⟨_,au _,fun _=>⟨_,rfl,_,au _,fun _=>?_⟩⟩;refine ct h (fun hb h=>?_) fun hb h=>?_
 ·refine sg ⟨_,rfl,_,rfl,?_⟩;refine rt ?_;cases h;exact ⟨_,rfl,Fz.t fq⟩
 refine sk (sg ?_);refine fp ?_;have ⟨v3,aA,h⟩:=η h;refine Ok.aB ⟨Γ [(2,.b 2 0),(4,.b 4 0),(6,.o 10),(8,.o 41)],[(2,.box (b1 c)),(4,.box (k3 0 0 0 0)),(10,.own 105 3 (mE v1)),(41,.own 98 8 (mD v3))]⟩ ?_ ?_
 ·refine sg (bl (Ok.loop (fun (s2:Int×(List bV))=>⟨Γ [(2,.b 2 0),(4,.b 4 0),(6,.o 10),(8,.o 41),(9,vi s2.1)],[(2,.box (b1 c)),(4,.box (k3 0 0 0 0)),(10,.own 105 3 (mE v1)),(41,.own 98 8 (mD s2.2))]⟩) (BW c v1) (s0:=(0,([]:List bV))) aA (wt Q5 ⟨hr,hr,hr,hr,Q0⟩ rfl) ?_));intro s2 y2 an dM;unfold BW at an;refine sq (sg ?_);refine ⟨_,rfl,_,au _,fun _=>?_⟩;refine ct an (fun hb an=>?_) fun hb an=>?_
  ·refine sk ?_;have ⟨v4,aO,an⟩:=η an;refine Ok.aB ⟨Γ [(2,.b 2 0),(4,.b 4 0),(6,.o 10),(8,.o 41),(9,vi s2.1)],[(2,.box (b1 c)),(4,.box (k3 0 0 0 0)),(10,.own 105 3 (mE v1)),(41,.own 98 8 (mD v4))]⟩ ?_ ?_
   ·refine bl (sq (dw 14 tok mixed ?_));have ⟨x3,aF,aO⟩:=η aO;have ⟨x4,aV,aO⟩:=η aO;have ⟨x5,bJ,aO⟩:=η aO;refine ⟨_,rfl,_,rfl,_,⟨_,rfl,rfl⟩,_,rfl,_,⟨_,aI aF,_,aK aF,rfl⟩,_,rfl,_,⟨_,rfl,rfl⟩,_,rfl,_,⟨_,rfl,rfl⟩,_,rfl,_,⟨_,aI aV,_,aK aV,rfl⟩,_,rfl,_,⟨_,rfl,rfl⟩,_,⟨_,.borrow (Vj bJ) (.cons (Fz.o rfl) fq) rfl,rfl⟩,Q0,?_⟩;refine ct aO (fun hb aO=>?_) fun hb aO=>?_
    ·refine rg ?_;have ⟨x6,cK,aO⟩:=η aO;have ⟨bN,aO⟩:=ak aO;refine ⟨_,rfl,_,aI cK,_,aK cK,_,rfl,af ⟨cL (f:=ll) (n:=8) (fun _=>rfl) ([x6]),cJ (f:=ll) (l:=s2.2) (l':=[x6]) bN,_,(bP (f:=ll) (l₁:=s2.2) (l₂:=[x6])).symm,?_⟩⟩;cases aO;exact wt Q5 J4 rfl
    refine sk ?_;cases aO;exact wt Q5 J4 rfl
   refine rg ?_;have ⟨c8,an⟩:=ak an;refine (af ⟨c8,?_⟩);exact ⟨_,sj an,wt Q5 J4 rfl⟩
  refine xt ?_;have an:=aN an dM;cases an;exact wt Q4 J4 rfl
 refine sg ⟨_,rfl,?_⟩;refine sg ⟨_,rfl,?_⟩;refine sg ⟨_,rfl,_,rfl,?_⟩;refine rt ?_;cases h;exact ⟨_,rfl,Fz.t (.cons (Fz.a (.cons Fz.s (.cons Fz.v (.cons Fz.v (.cons Fz.v (.cons Fz.s (.cons (Fz.o rfl) (.cons (Fz.o rfl) fq)))))))) fq)⟩
def ae6 {c e d r} (h:BM c e d=some r):Pure prog 54 [.a (b0 c),.s (mF e),vi d] (.t [.a (b0 r.1),.s (mF r.2)]):=by
 refine pq tok 29 func54 ?_;unfold BM at h;refine sg ?_;have ⟨v1,ν,h⟩:=η h;refine Ok.aB ⟨Γ [(1,.s (mF v1.1)),(3,.b 3 0),(6,.b 6 0)],[(3,.box (k0 v1.2.1 v1.2.2.1 v1.2.2.2)),(6,.box (k1 0 0))]⟩ ?_ ?_
 ·refine sg (bl (Ok.loop (fun (s1:(List bq)×Int×eb)=>⟨Γ [(1,.s (mF s1.1)),(2,vi d),(3,.b 3 0),(6,.b 6 0),(8,vi s1.2.1)],[(3,.box (k0 s1.2.2.1 s1.2.2.2.1 s1.2.2.2.2)),(6,.box (k1 0 0))]⟩) (Fc d) (s0:=(e,0,c.ι,c.Next,c.ar)) ν (wt Q5 ⟨hr,hr,Q0⟩ rfl) ?_));intro s1 y1 ζ az;unfold Fc at ζ;refine sq (sg ?_);refine ct ζ (fun hb ζ=>?_) fun hb ζ=>?_
  ·refine sk (sq (bl (sg ?_)));have ⟨x1,θ,ζ⟩:=η ζ;refine ⟨_,rfl,?_⟩;refine Θ.call (Vd θ) lz ?_;refine ⟨_,rfl,?_⟩;refine sg ⟨_,rfl,_,rfl,?_⟩;refine rg (rg ?_);have ⟨ah,ζ⟩:=ak ζ;refine (af ⟨ah,?_⟩);exact ⟨_,sj ζ,wt Q5 J2 rfl⟩
  refine xt ?_;have ζ:=aN ζ az;cases ζ;exact wt Q3 J2 rfl
 refine sg ⟨_,rfl,_,rfl,?_⟩;refine rt ?_;cases h;exact ⟨_,rfl,Fz.t (.cons (Fz.cq rfl) (.cons Fz.s .nil))⟩
def afi {c d r} (h:B5 c d=some r):Pure prog 23 [.a (b2 c),.a (j_ d)] (.t [.a (b2 r.1),.a (kb r.2)]):=by
 refine pq tok 118 func23 ?_;unfold B5 at h;refine sg (sq ?_);have ⟨v1,ν,h⟩:=η h;refine Ok.aB ⟨Γ [(2,.b 2 0),(3,.b 3 0),(4,.b 4 0),(5,.b 5 0),(23,vb v1)],[(2,.box (b2 c)),(3,.box (j_ d)),(4,.box (k6 0 0 0 0)),(5,.box (gU 0 0 0 0 0))]⟩ ?_ ?_
 ·refine rg ⟨_,rfl,?_⟩;have ⟨c1,ξ,ν⟩:=η ν;refine Br.cO ξ (fun hb ξ=>?_) fun hb ξ=>?_
  ·cases ξ;cases ν;exact wt Q5 J4 rfl
  refine ⟨_,rfl,?_⟩;cases ξ;cases ν;exact wt Q5 J4 rfl
 refine ct h (fun hb h=>?_) fun hb h=>?_
 ·refine sq (dw 2 tok mixed ?_);have ⟨x1,θ,h⟩:=η h;refine ⟨_,⟨_,rfl,rfl⟩,_,⟨_,.dz (jr θ) lz,rfl⟩,Q0,_,rfl,_,rfl,?_⟩;refine rt ?_;cases h;exact ⟨_,rfl,_,rfl,Fz.t fq⟩
 refine sk (sq (sg ?_));refine ⟨_,rfl,?_⟩;refine bl ?_;have ⟨v2,Δ,h⟩:=η h;refine Ok.aB ⟨Γ [(2,.b 2 0),(3,.b 3 0),(4,.b 4 0),(5,.b 5 0),(27,vi d.Ω),(28,vb v2)],[(2,.box (b2 c)),(3,.box (j_ d)),(4,.box (k6 0 0 0 0)),(5,.box (gU 0 0 0 0 0))]⟩ ?_ ?_
 ·refine sg (ct Δ (fun hb Δ=>?_) fun hb Δ=>?_)
  ·refine sk ?_;cases Δ;exact wt Q6 J4 rfl
  refine sg (ct Δ (fun hb Δ=>?_) fun hb Δ=>?_)
  ·refine sk ?_;cases Δ;exact wt Q6 J4 rfl
  refine sg (ct Δ (fun hb Δ=>?_) fun hb Δ=>?_)
  ·refine sk ?_;cases Δ;exact wt Q6 J4 rfl
  refine rg ?_;cases Δ;exact wt Q6 J4 rfl
 refine ct h (fun hb h=>?_) fun hb h=>?_
 ·refine sg ?_;have ⟨x2,aq,h⟩:=η h;refine ⟨_,rfl,_,rfl,?_⟩;refine Θ.call (afp aq) lz ?_;refine ⟨_,rfl,_,rfl,?_⟩;refine sq (Ok.gP (m:=2) (late:=[1]) (MD:=⟨[]⟩) (CH:=⟨[]⟩) tok mixed (by kernel_rfl) ?_);refine ⟨_,⟨_,rfl,rfl⟩,_,⟨_,rfl,rfl⟩,Q0,?_⟩;refine ⟨_,rfl,⟨⟨_,rfl,_,rfl,rfl⟩,Q0⟩,_,rfl,?_⟩;refine rt ?_;cases h;exact ⟨_,rfl,_,rfl,Fz.t fq⟩
 have ⟨v3,aA,h⟩:=η h;refine Ok.aB ⟨Γ [(2,.b 2 0),(3,.b 3 0),(4,.b 4 0),(5,.b 5 0),(27,vi d.Ω),(41,vb v3)],[(2,.box (b2 c)),(3,.box (j_ d)),(4,.box (k6 0 0 0 0)),(5,.box (gU 0 0 0 0 0))]⟩ ?_ ?_
 ·refine sg (ct aA (fun hb aA=>?_) fun hb aA=>?_)
  ·refine sk ?_;cases aA;exact wt Q6 J4 rfl
  refine sg (ct aA (fun hb aA=>?_) fun hb aA=>?_)
  ·refine sk ?_;cases aA;exact wt Q6 J4 rfl
  refine sg (ct aA (fun hb aA=>?_) fun hb aA=>?_)
  ·refine sk ?_;cases aA;exact wt Q6 J4 rfl
  refine sg (ct aA (fun hb aA=>?_) fun hb aA=>?_)
  ·refine sk ?_;cases aA;exact wt Q6 J4 rfl
  refine sg (ct aA (fun hb aA=>?_) fun hb aA=>?_)
  ·refine sk ?_;cases aA;exact wt Q6 J4 rfl
  refine rg ?_;cases aA;exact wt Q6 J4 rfl
 refine ct h (fun hb h=>?_) fun hb h=>?_
 ·refine sg ?_;have ⟨x3,aF,h⟩:=η h;refine ⟨_,rfl,_,rfl,?_⟩;refine Θ.call (afs aF) lz ?_;refine ⟨_,rfl,_,rfl,?_⟩;refine sq (Ok.gP (m:=2) (late:=[1]) (MD:=⟨[]⟩) (CH:=⟨[]⟩) tok mixed (by kernel_rfl) ?_);refine ⟨_,⟨_,rfl,rfl⟩,_,⟨_,rfl,rfl⟩,Q0,?_⟩;refine ⟨_,rfl,⟨⟨_,rfl,_,rfl,rfl⟩,Q0⟩,_,rfl,?_⟩;refine rt ?_;cases h;exact ⟨_,rfl,_,rfl,Fz.t fq⟩
 have ⟨v4,aO,h⟩:=η h;refine Ok.aB ⟨Γ [(2,.b 2 0),(3,.b 3 0),(4,.b 4 0),(5,.b 5 0),(27,vi d.Ω),(56,vb v4)],[(2,.box (b2 c)),(3,.box (j_ d)),(4,.box (k6 0 0 0 0)),(5,.box (gU 0 0 0 0 0))]⟩ ?_ ?_
 ·refine sg (ct aO (fun hb aO=>?_) fun hb aO=>?_)
  ·refine sk ?_;cases aO;exact wt Q6 J4 rfl
  refine sg (ct aO (fun hb aO=>?_) fun hb aO=>?_)
  ·refine sk ?_;cases aO;exact wt Q6 J4 rfl
  refine sg (ct aO (fun hb aO=>?_) fun hb aO=>?_)
  ·refine sk ?_;cases aO;exact wt Q6 J4 rfl
  refine rg ?_;cases aO;exact wt Q6 J4 rfl
 refine ct h (fun hb h=>?_) fun hb h=>?_
 ·refine sg ?_;have ⟨x4,aV,h⟩:=η h;refine ⟨_,rfl,_,rfl,?_⟩;refine Θ.call (afn aV) lz ?_;refine ⟨_,rfl,_,rfl,?_⟩;refine sq (Ok.gP (m:=2) (late:=[1]) (MD:=⟨[]⟩) (CH:=⟨[]⟩) tok mixed (by kernel_rfl) ?_);refine ⟨_,⟨_,rfl,rfl⟩,_,⟨_,rfl,rfl⟩,Q0,?_⟩;refine ⟨_,rfl,⟨⟨_,rfl,_,rfl,rfl⟩,Q0⟩,_,rfl,?_⟩;refine rt ?_;cases h;exact ⟨_,rfl,_,rfl,Fz.t fq⟩
 refine sg (ct h (fun hb h=>?_) fun hb h=>?_)
 ·refine sq (dw 4 tok mixed ?_);have ⟨x5,bJ,h⟩:=η h;refine ⟨_,⟨_,rfl,rfl⟩,_,⟨_,rfl,rfl⟩,_,⟨_,rfl,rfl⟩,_,⟨_,.dz (afq bJ) lz,rfl⟩,Q0,_,rfl,_,rfl,?_⟩;refine rt ?_;cases h;exact ⟨_,rfl,_,rfl,Fz.t fq⟩
 refine sg (ct h (fun hb h=>?_) fun hb h=>?_)
 ·refine sg ?_;have ⟨x6,cK,h⟩:=η h;refine ⟨_,rfl,_,rfl,?_⟩;refine Θ.call (afd cK) lz ?_;refine ⟨_,rfl,?_⟩;refine sq (sg ?_);refine ct h (fun hb h=>?_) fun hb h=>?_
  ·refine sq (dw 3 tok mixed ?_);have ⟨x7,cP,h⟩:=η h;refine ⟨_,⟨_,rfl,rfl⟩,_,rfl,_,⟨_,.dz (jr cP) lz,rfl⟩,Q0,_,rfl,_,rfl,?_⟩;refine rt ?_;cases h;exact ⟨_,rfl,_,rfl,Fz.t fq⟩
  refine sk (sg ?_);refine ⟨_,rfl,_,rfl,?_⟩;refine sg ⟨_,rfl,_,rfl,_,rfl,?_⟩;refine rt ?_;cases h;exact ⟨_,rfl,_,rfl,Fz.t (.cons (Fz.cq rfl) (.cons (Fz.a (.cons Fz.v (.cons Fz.v (.cons Fz.v (.cons Fz.v (.cons Fz.v (.cons Fz.nil (.cons Fz.nil .nil)))))))) .nil))⟩
 refine sg (ct h (fun hb h=>?_) fun hb h=>?_)
 ·refine sg ?_;have ⟨x8,ew,h⟩:=η h;refine ⟨_,rfl,_,rfl,_,rfl,?_⟩;refine Θ.call (ae6 ew) lz ?_;refine ⟨_,rfl,?_⟩;refine sg ?_;have ⟨x9,fi,h⟩:=η h;refine ⟨_,rfl,_,rfl,?_⟩;refine Θ.call (NK fi) lz ?_;refine ⟨_,rfl,?_⟩;refine sg ⟨_,rfl,?_⟩;refine sg ⟨_,rfl,_,rfl,_,rfl,?_⟩;refine rt ?_;cases h;exact ⟨_,rfl,_,rfl,Fz.t (.cons (Fz.cq rfl) (.cons (Fz.a (.cons Fz.v (.cons Fz.v (.cons Fz.v (.cons Fz.v (.cons Fz.v (.cons Fz.nil (.cons Fz.nil .nil)))))))) .nil))⟩
 refine sk (sq (dw 2 tok mixed ?_));have ⟨cR,fR,h⟩:=η h;refine ⟨_,⟨_,rfl,rfl⟩,_,⟨_,.dz (jr fR) lz,rfl⟩,Q0,_,rfl,_,rfl,?_⟩;refine rt ?_;cases h;exact ⟨_,rfl,_,rfl,Fz.t fq⟩
def aeF {c r} (h:A_ c=some r):Pure prog 10 [.s (mK c)] (.a (b2 r)):=by
 refine pq tok 25 func10 ?_;unfold A_ at h;refine sg (sg ?_);have ⟨x1,θ,h⟩:=η h;refine Θ.call (afk θ) lz ?_;refine ⟨_,rfl,?_⟩;have ⟨v1,ν,h⟩:=η h;refine Ok.aB ⟨Γ [(2,.b 2 0),(3,.b 3 0)],[(2,.box (k6 0 0 0 0)),(3,.box (k5 v1.1 v1.2.1 v1.2.2.1 v1.2.2.2.1 v1.2.2.2.2.1 v1.2.2.2.2.2.1 v1.2.2.2.2.2.2.1 v1.2.2.2.2.2.2.2.1 (t8 v1).1 (t8 v1).2))]⟩ ?_ ?_
 ·refine sg (bl (Ok.loop (fun (s1:Int×zm)=>⟨Γ [(0,.s (mK c)),(2,.b 2 0),(3,.b 3 0),(4,vi s1.1)],[(2,.box (k6 0 0 0 0)),(3,.box (k5 s1.2.1 s1.2.2.1 s1.2.2.2.1 s1.2.2.2.2.1 s1.2.2.2.2.2.1 s1.2.2.2.2.2.2.1 s1.2.2.2.2.2.2.2.1 (t8 s1).1 (t8 s1).2.1 (t8 s1).2.2))]⟩) (Ez c) (s0:=(0,x1.S.aC.ι,x1.S.aC.Next,x1.S.aC.ar,x1.S.bH,x1.S.dI,x1.S.cW,x1.S.cm,x1.S.Next,x1.Holds,x1.f_)) ν (wt Q4 ⟨hr,hr,Q0⟩ rfl) ?_));intro s1 y1 ζ az;unfold Ez at ζ;refine sq (sg ?_);refine ⟨_,au _,fun _=>?_⟩;refine ct ζ (fun hb ζ=>?_) fun hb ζ=>?_
  ·refine sk (sq (bl (sq (Ok.gP (m:=11) (late:=[8]) (MD:=⟨[]⟩) (CH:=⟨[]⟩) tok mixed (by kernel_rfl) ?_))));have ⟨x2,aq,ζ⟩:=η ζ;have ⟨x3,aF,ζ⟩:=η ζ;refine ⟨_,⟨_,rfl,rfl⟩,_,rfl,_,rfl,_,⟨_,aI aq,_,aK aq,rfl⟩,_,⟨_,rfl,rfl⟩,_,⟨_,.dz (afi aF) lz,rfl⟩,_,rfl,_,rfl,_,rfl,Q0,?_⟩;refine ⟨_,rfl,⟨⟨_,rfl,rfl⟩,Q0⟩,_,rfl,?_⟩;refine rg ⟨_,rfl,_,rfl,?_⟩;refine rg ?_;have ⟨ah,ζ⟩:=ak ζ;refine (af ⟨ah,?_⟩);exact ⟨_,sj ζ,wt Q4 J2 rfl⟩
  refine xt ?_;have ζ:=aN ζ az;cases ζ;exact wt Q2 J2 rfl
 refine sg ⟨_,rfl,_,rfl,?_⟩;refine rt ?_;cases h;exact ⟨_,rfl,Fz.cq rfl⟩
def afN [mP] {c d e r} (h:Cv c d e=some r):Pure prog 24 [.a (b2 c),vs d,vi e] (.t [.s (mG r.1),vb r.2]):=by
 refine pq tok 47 func24 ?_;unfold Cv at h;refine sg (sg (fp ?_));refine sg (Ok.cU (fun v1=>⟨Γ [],[]⟩) (fun v1=>M8 v1=some r) ?_ ?_)
 ·refine sg (bl (Ok.loop (fun (s1:pQ)=>⟨Γ [(1,vs d),(2,vi e),(3,.b 3 0),(8,.o 13),(9,vi s1.1),(10,vi s1.2.1)],[(3,.box (b2 c)),(13,.own 9 1 (mG s1.2.2))]⟩) (Gs c d e) (s0:=(0,0,([]:List (List UInt8)))) h (wt Q6 ⟨hr,hr,Q0⟩ rfl) ?_));intro s1 y1 ζ az;unfold Gs at ζ;refine sq (sg ?_);refine ct ζ (fun hb ζ=>?_) fun hb ζ=>?_
  ·refine sk (sq (bl (sg ?_)));have ⟨x1,θ,ζ⟩:=η ζ;refine ⟨_,rfl,?_⟩;refine Θ.call (ua θ) (l1 (.cons (Le.a (l4 (l2 (l1 (.cons (Le.nil) .nil))))) .nil)) ?_;refine ⟨_,rfl,_,rfl,?_⟩;refine sq ?_;have ⟨v2,Δ,ζ⟩:=η ζ;refine Ok.aB ⟨Γ [(1,vs d),(2,vi e),(3,.b 3 0),(8,.o 13),(10,vi s1.2.1),(12,.b 12 0),(36,vb v2)],[(3,.box (b2 c)),(13,.own 9 1 (mG s1.2.2)),(12,.box (kb x1.2))]⟩ ?_ ?_
   ·refine rg ⟨_,rfl,?_⟩;have ⟨c1,ξ,Δ⟩:=η Δ;refine Br.cO ξ (fun hb ξ=>?_) fun hb ξ=>?_
    ·cases ξ;cases Δ;exact wt Q7 J3 rfl
    refine ⟨_,rfl,_,au _,fun _=>?_⟩;cases ξ;cases Δ;exact wt Q7 J3 rfl
   refine ct ζ (fun hb ζ=>?_) fun hb ζ=>?_
   ·refine sg (rt ?_);have ζ:=aN ζ az;cases ζ;exact (Fz.t (.cons Fz.nil fq))
   refine sk (sg ?_);have ⟨ah,ζ⟩:=ak ζ;refine ⟨_,rfl,cL (f:=eA) (n:=1) (fun _=>rfl) x1.2.lS,cJ (f:=eA) (l:=s1.2.2) (l':=x1.2.lS) ah,_,(bP (f:=eA) (l₁:=s1.2.2) (l₂:=x1.2.lS)).symm,?_⟩;refine sq (sg ?_);refine ⟨_,rfl,?_⟩;refine ct ζ (fun hb ζ=>?_) fun hb ζ=>?_
   ·refine sg (rt ?_);have ζ:=aN ζ az;cases ζ;exact (Fz.t (.cons (Fz.o rfl) fq))
   refine sk (rg ?_);refine ⟨_,rfl,?_⟩;refine rg ?_;have ⟨aQ,ζ⟩:=ak ζ;refine (af ⟨aQ,?_⟩);exact ⟨_,sj ζ,wt Q6 J2 rfl⟩
  refine xt ?_;have ζ:=aN ζ az;exact ⟨_,ζ,wt Q0 Q0 rfl⟩
 intro v1 h;unfold M8 at h;refine sg (rt ?_);cases h;exact (Fz.t (.cons Fz.nil fq))
def afK {b a r} (h:Cu b a=some r):Pure prog 25 [vs b,vs a] (vs r):=by
 refine pq tok 22 func25 ?_;unfold Cu at h;refine sg (sg ?_);have ⟨x1,θ,h⟩:=η h;refine Θ.call (GK θ) lz ?_;refine sg ?_;have ⟨ah,h⟩:=ak h;refine fp ⟨cL (f:=eA) (n:=1) (fun _=>rfl) x1.1,cJ (f:=eA) (l:=([]:List (List UInt8))) (l':=x1.1) ah,_,(bP (f:=eA) (l₁:=([]:List (List UInt8))) (l₂:=x1.1)).symm,?_⟩;refine sg ?_;have ⟨aQ,h⟩:=ak h;refine af ⟨cL (f:=eA) (n:=1) (fun _=>rfl) ([a]),cJ (f:=eA) (l:=([]:List (List UInt8))++x1.1) (l':=[a]) aQ,_,(bP (f:=eA) (l₁:=([]:List (List UInt8))++x1.1) (l₂:=[a])).symm,?_⟩;refine sg ?_;have ⟨x2,aq,h⟩:=η h;refine Θ.borrow (U8 aq) (.cons (Fz.o rfl) .nil) rfl ?_;refine rt ?_;cases h;exact Fz.v
def afO [mP] {c d r} (h:zh c d=some r):Pure prog 11 [.a (b2 c),vi d] (.t [.s (mG r.1),vb r.2]):=by
 refine pq tok 72 func11 ?_;unfold zh at h;refine sg (sg (fp ?_));refine Ok.cU (fun v1=>⟨Γ [(6,.o 13)],[(13,.own 9 1 (mG v1))]⟩) (fun v1=>M9 v1=some r) ?_ ?_
 ·refine sg (bl (Ok.loop (fun (s1:Int×(List (List UInt8)))=>⟨Γ [(1,vi d),(2,.b 2 0),(6,.o 13),(7,vi s1.1)],[(2,.box (b2 c)),(13,.own 9 1 (mG s1.2))]⟩) (Gt c d) (s0:=(0,[[47]])) h (wt Q4 ⟨hr,hr,Q0⟩ rfl) ?_));intro s1 y1 ζ az;unfold Gt at ζ;refine sq ?_;have ⟨v2,Δ,ζ⟩:=η ζ;refine Ok.aB ⟨Γ [(1,vi d),(2,.b 2 0),(6,.o 13),(7,vi s1.1),(22,vb v2)],[(2,.box (b2 c)),(13,.own 9 1 (mG s1.2))]⟩ ?_ ?_
  ·refine rg ⟨_,au _,fun _=>?_⟩;have ⟨c1,ξ,Δ⟩:=η Δ;refine Br.ite ξ (fun hb ξ=>?_) fun hb ξ=>?_
   ·refine ⟨_,au _,fun _=>?_⟩;cases ξ;cases Δ;exact wt Q5 J2 rfl
   cases ξ;cases Δ;exact wt Q5 J2 rfl
  refine ct ζ (fun hb ζ=>?_) fun hb ζ=>?_
  ·refine sk (Ok.cU (fun v3=>⟨Γ [(1,vi d),(2,.b 2 0),(6,.o 13),(7,vi s1.1)],[(2,.box (b2 c)),(13,.own 9 1 (mG v3))]⟩) (fun v3=>zi s1 v3=some y1) ?_ ?_)
   ·refine bl (sq (Ok.gP (m:=12) (late:=[9]) (MD:=⟨[]⟩) (CH:=⟨[]⟩) tok mixed (by kernel_rfl) ?_));have ⟨x1,θ,ζ⟩:=η ζ;have ⟨x2,aq,ζ⟩:=η ζ;refine ⟨_,⟨_,rfl,rfl⟩,_,rfl,_,rfl,_,⟨_,aI θ,jY θ,rfl⟩,_,⟨_,aK θ,rfl,_,rfl,rfl⟩,_,rfl,_,⟨_,.dz (ua aq) (l1 (.cons (Le.a (l4 (l2 (l1 (.cons (Le.nil) .nil))))) .nil)),rfl⟩,_,rfl,_,rfl,_,rfl,Q0,?_⟩;refine ⟨_,rfl,⟨⟨_,rfl,rfl⟩,Q0⟩,_,rfl,?_⟩;refine sq (sg ?_);refine ⟨_,rfl,?_⟩;refine ct ζ (fun hb ζ=>?_) fun hb ζ=>?_
    ·refine sg (rt ?_);have ζ:=aN ζ az;cases ζ;exact (Fz.t (.cons Fz.nil fq))
    refine sk (sq (sg ?_));refine ⟨_,rfl,?_⟩;refine ct ζ (fun hb ζ=>?_) fun hb ζ=>?_
    ·refine xt ?_;exact ⟨_,ζ,wt Q4 ⟨hr,hr,Q0⟩ rfl⟩
    refine sk (sq (dw 12 tok mixed ?_));have ⟨x3,aF,ζ⟩:=η ζ;have ⟨x4,aV,ζ⟩:=η ζ;refine ⟨_,⟨_,rfl,rfl⟩,_,rfl,_,rfl,_,⟨_,aI aF,jY aF,rfl⟩,_,⟨_,aK aF,rfl,_,rfl,rfl⟩,_,rfl,_,⟨_,.dz (afN aV) lz,rfl⟩,_,rfl,_,rfl,_,rfl,_,rfl,_,rfl,Q0,?_⟩;refine sq (sg ?_);refine ct ζ (fun hb ζ=>?_) fun hb ζ=>?_
    ·refine sg (rt ?_);have ζ:=aN ζ az;cases ζ;exact (Fz.t (.cons Fz.nil fq))
    refine sk (sg ?_);refine bl (Ok.loop (fun (s2:Int×(List (List UInt8)))=>⟨Γ [(1,vi d),(2,.b 2 0),(6,.o 13),(7,vi s1.1),(10,.s (mG x4.1)),(12,vi s2.1)],[(2,.box (b2 c)),(13,.own 9 1 (mG s2.2))]⟩) (Cw x4 s1) (s0:=(0,s1.2)) ζ (wt Q6 ⟨hr,hr,Q0⟩ rfl) ?_);intro s2 y2 an dM;unfold Cw at an;refine sq (sg ?_);refine ⟨_,au _,fun _=>?_⟩;refine ct an (fun hb an=>?_) fun hb an=>?_
    ·refine sk (sq (bl (dw 11 tok mixed ?_)));have ⟨x5,bJ,an⟩:=η an;have ⟨x6,cK,an⟩:=η an;have ⟨x7,cP,an⟩:=η an;have ⟨ah,an⟩:=ak an;refine ⟨_,rfl,_,rfl,_,rfl,_,⟨_,aI bJ,jY bJ,rfl⟩,_,⟨_,aK bJ,rfl,_,rfl,rfl⟩,_,rfl,_,rfl,_,⟨_,aI cK,_,aK cK,rfl⟩,_,⟨_,rfl,rfl⟩,_,⟨_,.dz (afK cP) lz,rfl⟩,_,rfl,Q0,cL (f:=eA) (n:=1) (fun _=>rfl) ([x7]),cJ (f:=eA) (l:=s2.2) (l':=[x7]) ah,_,(bP (f:=eA) (l₁:=s2.2) (l₂:=[x7])).symm,?_⟩;refine rg ?_;have ⟨aQ,an⟩:=ak an;refine (af ⟨aQ,?_⟩);exact ⟨_,sj an,wt Q6 J2 rfl⟩
    refine xt ?_;have an:=aN an dM;exact ⟨_,an,wt Q4 ⟨hr,hr,Q0⟩ rfl⟩
   intro v3 ζ;unfold zi at ζ;refine rg ?_;have ⟨bN,ζ⟩:=ak ζ;refine (af ⟨bN,?_⟩);exact ⟨_,sj ζ,wt Q4 J2 rfl⟩
  refine xt ?_;have ζ:=aN ζ az;exact ⟨_,ζ,wt Q1 ⟨hr,Q0⟩ rfl⟩
 intro v1 h;unfold M9 at h;refine sg (rt ?_);cases h;exact (Fz.t (.cons (Fz.o rfl) fq))
end Go.Proofs
