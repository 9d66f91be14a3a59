/- The walks of this seat beside the plain programs, part 2. No condition. -/
import Derived.Test.YtdcgbodbejgliaaGreatDoorXTopListedWk1
open List renaming length_map → au, map_append → bP
open Or renaming inl → af, inr → fp
namespace Go.Proofs
set_option linter.all false
open Go Go.Cat Tryz
variable [M:bU] [K:LK]
set_option maxRecDepth 100000
set_option maxHeartbeats 4000000
def aeR {d e r} (h:K1 d e=some r):Pure prog 178 [.a (b0 d),vi e] (.t [vi r.1,vi r.2]):=by
 refine pq tok 31 func178 ?_;unfold K1 at h;refine sg (sg ⟨_,rfl,?_⟩);refine sg ⟨_,rfl,?_⟩;refine sg (sg ⟨_,rfl,?_⟩);have ⟨v1,ν,h⟩:=η h;refine Ok.aB ⟨Γ [(6,.b 6 0),(7,.b 7 0)],[(6,.box [.m 11]),(11,.mp false (List.map (fun p=>(p.1,cB p.2)) v1.2)),(7,.box [vi v1.1])]⟩ ?_ ?_
 ·refine sg ?_;have ⟨x1,θ,ν⟩:=η ν;refine ⟨_,rfl,?_⟩;refine Θ.call (wU θ) lz ?_;refine ⟨_,rfl,?_⟩;have ⟨v2,Δ,ν⟩:=η ν;refine Ok.aB ⟨Γ [(1,vi e),(6,.b 6 0),(7,.b 7 0),(8,.b 8 0),(24,vb v2)],[(6,.box [.m 11]),(11,.mp false (List.map (fun p=>(p.1,cB p.2)) ([]:List (Int×Bool)))),(7,.box [vi (0)]),(8,.box [.c (.func 237) [] [.b 2 0,.b 7 0,.b 6 0,.b 8 0]]),(2,.box (b0 d))]⟩ ?_ ?_
  ·refine rg ?_;have ⟨c1,ξ,Δ⟩:=η Δ;refine Br.ite ξ (fun hb ξ=>?_) fun hb ξ=>?_
   ·refine ⟨_,rfl,?_⟩;cases ξ;cases Δ;exact wt Q5 ⟨hr,J4⟩ rfl
   cases ξ;cases Δ;exact wt Q5 ⟨hr,J4⟩ rfl
  refine ct ν (fun hb ν=>?_) fun hb ν=>?_
  ·refine rg ?_;have ⟨x2,aq,ν⟩:=η ν;refine ⟨_,rfl,?_⟩;refine cg [(1000,2),(1001,7),(1002,6),(1003,11),(1004,8)] [] (af_ aq) (n1 (.cons (Ln.b rfl) (.cons (Ln.b rfl) (.cons (Ln.b rfl) (.cons (Ln.b rfl) .nil))))) ⟨⟨2,_,rfl,rfl,.box nq⟩,⟨7,_,rfl,rfl,.box nq⟩,⟨6,_,rfl,rfl,.box (.cons (Ln.mm rfl) .nil)⟩,⟨11,_,rfl,rfl,.refl rfl⟩,⟨8,_,rfl,rfl,.box (.cons (Ln.c .nil (.cons (Ln.b rfl) (.cons (Ln.b rfl) (.cons (Ln.b rfl) (.cons (Ln.b rfl) .nil))))) .nil)⟩,Q0⟩ ?_;cases ν;exact wt Q2 J3 rfl
  refine sk ?_;cases ν;exact wt Q2 J3 rfl
 refine sq (dw 5 tok mixed ?_);refine ⟨_,⟨_,rfl,rfl⟩,_,⟨_,au _,fun _=>rfl⟩,_,⟨_,rfl,rfl⟩,_,rfl,_,rfl,Q0,?_⟩;refine rt ?_;cases h;exact (Fz.t fq)
def aes {a b r} (h:HJ a b=some r):Pure prog 86 [.s (mU a),.s (mU b)] (vb r):=by
 refine pq tok 10 func86 ?_;unfold HJ at h;refine sg (sg ⟨_,rfl,_,rfl,_,lL _ _,?_⟩);refine rt ?_;cases h;exact Fz.v
def Vq {a b r} (h:Gg a b=some r):Pure prog 87 [.s (mC a),.s (mC b)] (vb r):=by
 refine pq tok 26 func87 ?_;unfold Gg at h;refine sg (sq (sg ?_));refine ⟨_,au _,fun _=>⟨_,au _,fun _=>?_⟩⟩;refine ct h (fun hb h=>?_) fun hb h=>?_
 ·refine sg (rt ?_);cases h;exact Fz.v
 refine sk (Ok.cU (fun v1=>⟨Γ [],[]⟩) (fun v1=>Mz v1=some r) ?_ ?_)
 ·refine sg ⟨_,au _,fun _=>?_⟩;refine bl (Ok.loop (fun (s1:Int)=>⟨Γ [(0,.s (mC a)),(1,.s (mC b)),(12,vi (a.length:Int)),(13,vi s1)],[]⟩) (My a b) (s0:=0) h (wt Q4 Q0 rfl) ?_);intro s1 y1 ζ az;unfold My at ζ;refine sg (sq (ct ζ (fun hb ζ=>?_) fun hb ζ=>?_))
  ·refine sk (sq (bl (sg ?_)));refine sq (dw 9 tok mixed ?_);have ⟨x1,θ,ζ⟩:=η ζ;have ⟨x2,aq,ζ⟩:=η ζ;refine ⟨_,rfl,_,rfl,_,⟨_,aI θ,_,aK θ,rfl⟩,_,⟨_,rfl,rfl⟩,_,rfl,_,rfl,_,⟨_,aI aq,_,aK aq,rfl⟩,_,⟨_,rfl,rfl⟩,_,⟨[.one (.str),.one (.int .i64),.one (.int .i64)],by kernel_rfl,rfl⟩,Q0,?_⟩;refine ct ζ (fun hb ζ=>?_) fun hb ζ=>?_
   ·refine sg (rt ?_);have ζ:=aN ζ az;cases ζ;exact Fz.v
   refine sk (rg ?_);have ⟨ah,ζ⟩:=ak ζ;refine (af ⟨ah,?_⟩);exact ⟨_,sj ζ,wt Q4 Q0 rfl⟩
  refine xt ?_;have ζ:=aN ζ az;exact ⟨_,ζ,wt Q0 Q0 rfl⟩
 intro v1 h;unfold Mz at h;refine sg (rt ?_);cases h;exact Fz.v
def afX {c d r} (h:Ng c d=some r):Pure prog 85 [.a (b4 c),.a (b4 d)] (vb r):=by
 refine pq tok 45 func85 ?_;unfold Ng at h;refine sg ?_;have ⟨v1,ν,h⟩:=η h;refine Ok.aB ⟨Γ [(4,vb v1)],[]⟩ ?_ ?_
 ·refine rg ⟨_,rfl,_,rfl,?_⟩;have ⟨c1,ξ,ν⟩:=η ν;refine Br.ite ξ (fun hb ξ=>?_) fun hb ξ=>?_
  ·refine ⟨_,rfl,_,rfl,?_⟩;cases ξ;have ⟨c2,ax,ν⟩:=η ν;refine Br.ite ax (fun hb ax=>?_) fun hb ax=>?_
   ·refine ⟨_,rfl,_,rfl,?_⟩;cases ax;have ⟨c3,aL,ν⟩:=η ν;refine Br.ite aL (fun hb aL=>?_) fun hb aL=>?_
    ·refine ⟨_,rfl,_,rfl,?_⟩;cases aL;have ⟨c4,bI,ν⟩:=η ν;refine Br.ite bI (fun hb bI=>?_) fun hb bI=>?_
     ·have ⟨x1,θ,bI⟩:=η bI;refine ⟨_,rfl,_,rfl,?_⟩;refine Θ.call (aes θ) lz ?_;cases bI;have ⟨c5,bZ,ν⟩:=η ν;refine Br.ite bZ (fun hb bZ=>?_) fun hb bZ=>?_
      ·have ⟨x2,aq,bZ⟩:=η bZ;refine ⟨_,rfl,_,rfl,?_⟩;refine Θ.call (Vq aq) lz ?_;cases bZ;cases ν;exact wt Q1 Q0 rfl
      cases bZ;cases ν;exact wt Q1 Q0 rfl
     cases bI;have ⟨c5,cI,ν⟩:=η ν;replace cI:=c9 cI;cases cI;cases ν;exact wt Q1 Q0 rfl
    cases aL;have ⟨c4,cQ,ν⟩:=η ν;replace cQ:=c9 cQ;cases cQ;have ⟨c5,dq,ν⟩:=η ν;replace dq:=c9 dq;cases dq;cases ν;exact wt Q1 Q0 rfl
   cases ax;have ⟨c3,dE,ν⟩:=η ν;replace dE:=c9 dE;cases dE;have ⟨c4,ep,ν⟩:=η ν;replace ep:=c9 ep;cases ep;have ⟨c5,jh,ν⟩:=η ν;replace jh:=c9 jh;cases jh;cases ν;exact wt Q1 Q0 rfl
  cases ξ;have ⟨c2,jS,ν⟩:=η ν;replace jS:=c9 jS;cases jS;have ⟨c3,jv,ν⟩:=η ν;replace jv:=c9 jv;cases jv;have ⟨c4,l7,ν⟩:=η ν;replace l7:=c9 l7;cases l7;have ⟨c5,ji,ν⟩:=η ν;replace ji:=c9 ji;cases ji;cases ν;exact wt Q1 Q0 rfl
 refine rt ?_;cases h;exact Fz.v
def afC {a d r} (h:Mv a d=some r):Pure prog 88 [.s (mI a),.s (mI d),.c (.func 85) [] []] (vb r):=by
 refine pq tok 32 func88 ?_;unfold Mv at h;refine sg (sq (sg ?_));refine ⟨_,au _,fun _=>⟨_,au _,fun _=>?_⟩⟩;refine ct h (fun hb h=>?_) fun hb h=>?_
 ·refine sg (rt ?_);cases h;exact Fz.v
 refine sk (Ok.cU (fun v1=>⟨Γ [],[]⟩) (fun v1=>Mx v1=some r) ?_ ?_)
 ·refine sg ⟨_,au _,fun _=>?_⟩;refine bl (Ok.loop (fun (s1:Int)=>⟨Γ [(1,.s (mI d)),(2,.c (.func 85) [] []),(15,.s (mI a)),(16,vi (a.length:Int)),(17,vi s1)],[]⟩) (Mw a d) (s0:=0) h (wt Q5 Q0 rfl) ?_);intro s1 y1 ζ az;unfold Mw at ζ;refine sg (sq (ct ζ (fun hb ζ=>?_) fun hb ζ=>?_))
  ·refine sk (sq (bl (sg ?_)));have ⟨x1,θ,ζ⟩:=η ζ;refine ⟨_,aI θ,_,aK θ,_,rfl,_,rfl,?_⟩;refine sg ?_;have ⟨x2,aq,ζ⟩:=η ζ;refine ⟨_,aI aq,_,aK aq,_,rfl,_,rfl,?_⟩;refine sg ?_;have ⟨x3,aF,ζ⟩:=η ζ;refine ⟨_,rfl,_,rfl,?_⟩;refine Θ.call (afX aF) lz ?_;refine ct ζ (fun hb ζ=>?_) fun hb ζ=>?_
   ·refine sg (rt ?_);have ζ:=aN ζ az;cases ζ;exact Fz.v
   refine sk (rg ?_);have ⟨ah,ζ⟩:=ak ζ;refine (af ⟨ah,?_⟩);exact ⟨_,sj ζ,wt Q5 Q0 rfl⟩
  refine xt ?_;have ζ:=aN ζ az;exact ⟨_,ζ,wt Q0 Q0 rfl⟩
 intro v1 h;unfold Mx at h;refine sg (rt ?_);cases h;exact Fz.v
def afW {d e r} (h:Nf d e=some r):Pure prog 40 [.a (b0 d),.a (b0 e)] (vb r):=by
 refine pq tok 26 func40 ?_;unfold Nf at h;refine sg (sg ?_);have ⟨v1,ν,h⟩:=η h;refine Ok.aB ⟨Γ [(4,vb v1)],[]⟩ ?_ ?_
 ·refine rg ⟨_,rfl,_,rfl,?_⟩;have ⟨c1,ξ,ν⟩:=η ν;refine Br.ite ξ (fun hb ξ=>?_) fun hb ξ=>?_
  ·refine ⟨_,rfl,_,rfl,?_⟩;cases ξ;have ⟨c2,ax,ν⟩:=η ν;refine Br.ite ax (fun hb ax=>?_) fun hb ax=>?_
   ·have ⟨x1,θ,ax⟩:=η ax;refine ⟨_,rfl,_,rfl,?_⟩;refine Θ.call (afC θ) lz ?_;cases ax;cases ν;exact wt Q1 Q0 rfl
   cases ax;cases ν;exact wt Q1 Q0 rfl
  cases ξ;have ⟨c2,aL,ν⟩:=η ν;replace aL:=c9 aL;cases aL;cases ν;exact wt Q1 Q0 rfl
 refine rt ?_;cases h;exact Fz.v
def agq {a r} (h:Mn a=some r):jb prog 205 [.s (mD a)] 98 8 (mD r):=by
 refine pv tok 8 func205 ?_;unfold Mn at h;refine sg (sq (sg ?_));intro b1 cy;have h:=Dh h b1 (fun e=>List.map_eq_nil_iff.1 (cy e));refine ct h (fun hb h=>?_) fun hb h=>?_
 ·refine sg (rt ?_);cases h;exact (.inl ⟨rfl,rfl⟩)
 refine sk (sg ?_);have ⟨ah,h⟩:=ak h;refine fp ⟨cL (f:=ll) (n:=8) (fun _=>rfl) a,cJ (f:=ll) (l:=([]:List bV)) (l':=a) ah,_,(bP (f:=ll) (l₁:=([]:List bV)) (l₂:=a)).symm,?_⟩;refine rt ?_;cases h;exact (.inr ⟨_,rfl,rfl⟩)
def Vm {c d r} (h:y0 c d=some r):Pure prog 254 [.a (b4 c),vi d] (vi r):=by
 refine pq tok 9 func254 ?_;unfold y0 at h;refine sg (sg ?_);have ⟨x1,θ,h⟩:=η h;refine ⟨_,rfl,?_⟩;refine Θ.call (GH θ) lz ?_;refine rt ?_;cases h;exact Fz.v
def afx {a b r} (h:y6 a b=some r):Pure prog 253 [.s (mI a),vi b,.c (.func 254) [] []] (.t [vi r.1,vb r.2]):=by
 refine pq tok 49 func253 ?_;unfold y6 at h;refine sg (sg ⟨_,au _,fun _=>?_⟩);refine sg ?_;have ⟨v1,ν,h⟩:=η h;refine Ok.aB ⟨Γ [(0,.s (mI a)),(1,vi b),(2,.c (.func 254) [] []),(8,vi (a.length:Int)),(9,vi v1)],[]⟩ ?_ ?_
 ·refine bl (Ok.loop (fun (s1:Int×Int)=>⟨Γ [(0,.s (mI a)),(1,vi b),(2,.c (.func 254) [] []),(8,vi (a.length:Int)),(9,vi s1.1),(10,vi s1.2)],[]⟩) (Gd a b) (s0:=(0,(a.length:Int))) ν (wt Q6 Q0 rfl) ?_);intro s1 y1 ζ az;unfold Gd at ζ;refine sq (sg ?_);refine ct ζ (fun hb ζ=>?_) fun hb ζ=>?_
  ·refine sk (bl (sg ?_));have ⟨ah,ζ⟩:=ak ζ;refine (af ⟨ah,_,rfl,(by decide),_,rfl,_,rfl,?_⟩);refine sg ?_;have ⟨x1,θ,ζ⟩:=η ζ;have ⟨x2,aq,ζ⟩:=η ζ;refine ⟨_,aI θ,_,aK θ,_,rfl,?_⟩;refine Θ.call (Vm aq) lz ?_;refine ct ζ (fun hb ζ=>?_) fun hb ζ=>?_
   ·refine rg ?_;have ⟨aQ,ζ⟩:=ak ζ;refine (af ⟨aQ,?_⟩);exact ⟨_,sj ζ,wt Q6 Q0 rfl⟩
   refine rg ?_;exact ⟨_,sj ζ,wt Q6 Q0 rfl⟩
  refine xt ?_;have ζ:=aN ζ az;cases ζ;exact wt Q5 Q0 rfl
 have ⟨v2,Δ,h⟩:=η h;refine Ok.aB ⟨Γ [(6,vi v1),(7,vb v2)],[]⟩ ?_ ?_
 ·refine rg ?_;have ⟨c1,ξ,Δ⟩:=η Δ;refine Br.ite ξ (fun hb ξ=>?_) fun hb ξ=>?_
  ·have ⟨x3,aF,ξ⟩:=η ξ;have ⟨x4,aV,ξ⟩:=η ξ;refine ⟨_,aI aF,_,aK aF,_,rfl,?_⟩;refine Θ.call (Vm aV) lz ?_;cases ξ;cases Δ;exact wt Q2 Q0 rfl
  cases ξ;cases Δ;exact wt Q2 Q0 rfl
 refine rt ?_;cases h;exact (Fz.t fq)
def Vl {a b r} (h:Ga a b=some r):Pure prog 206 [.s (mI a),vi b] (vi r):=by
 refine pq tok 16 func206 ?_;unfold Ga at h;refine sg (sg ?_);have ⟨x1,θ,h⟩:=η h;refine Θ.call (afx θ) lz ?_;refine sq (sg ?_);refine ct h (fun hb h=>?_) fun hb h=>?_
 ·refine sg (rt ?_);cases h;exact Fz.v
 refine sk (sg ?_);refine rt ?_;cases h;exact Fz.v
def Vn {c d r} (h:Gb c d=some r):Pure prog 207 [.a (b4 c),.a (b4 d)] (vb r):=by
 refine pq tok 47 func207 ?_;unfold Gb at h;refine sg ?_;have ⟨v1,ν,h⟩:=η h;refine Ok.aB ⟨Γ [(4,vb v1)],[]⟩ ?_ ?_
 ·refine rg ⟨_,rfl,_,rfl,?_⟩;have ⟨c1,ξ,ν⟩:=η ν;refine Br.ite ξ (fun hb ξ=>?_) fun hb ξ=>?_
  ·refine ⟨_,rfl,_,rfl,?_⟩;cases ξ;have ⟨c2,ax,ν⟩:=η ν;refine Br.ite ax (fun hb ax=>?_) fun hb ax=>?_
   ·refine ⟨_,rfl,_,rfl,?_⟩;cases ax;have ⟨c3,aL,ν⟩:=η ν;refine Br.ite aL (fun hb aL=>?_) fun hb aL=>?_
    ·refine ⟨_,rfl,_,rfl,?_⟩;cases aL;have ⟨c4,bI,ν⟩:=η ν;refine Br.ite bI (fun hb bI=>?_) fun hb bI=>?_
     ·refine ⟨_,rfl,_,rfl,_,rfl,_,rfl,_,lL _ _,?_⟩;cases bI;have ⟨c5,bZ,ν⟩:=η ν;refine Br.ite bZ (fun hb bZ=>?_) fun hb bZ=>?_
      ·have ⟨x1,θ,bZ⟩:=η bZ;refine ⟨_,rfl,_,rfl,?_⟩;refine Θ.call (Vq θ) lz ?_;cases bZ;cases ν;exact wt Q1 Q0 rfl
      cases bZ;cases ν;exact wt Q1 Q0 rfl
     cases bI;have ⟨c5,cI,ν⟩:=η ν;replace cI:=c9 cI;cases cI;cases ν;exact wt Q1 Q0 rfl
    cases aL;have ⟨c4,cQ,ν⟩:=η ν;replace cQ:=c9 cQ;cases cQ;have ⟨c5,dq,ν⟩:=η ν;replace dq:=c9 dq;cases dq;cases ν;exact wt Q1 Q0 rfl
   cases ax;have ⟨c3,dE,ν⟩:=η ν;replace dE:=c9 dE;cases dE;have ⟨c4,ep,ν⟩:=η ν;replace ep:=c9 ep;cases ep;have ⟨c5,jh,ν⟩:=η ν;replace jh:=c9 jh;cases jh;cases ν;exact wt Q1 Q0 rfl
  cases ξ;have ⟨c2,jS,ν⟩:=η ν;replace jS:=c9 jS;cases jS;have ⟨c3,jv,ν⟩:=η ν;replace jv:=c9 jv;cases jv;have ⟨c4,l7,ν⟩:=η ν;replace l7:=c9 l7;cases l7;have ⟨c5,ji,ν⟩:=η ν;replace ji:=c9 ji;cases ji;cases ν;exact wt Q1 Q0 rfl
 refine rt ?_;cases h;exact Fz.v
def afv {c d e r} (h:Md c d e=some r):Pure prog 256 [.a (b9 c),.p [vi d],.p [vi e]] (vb r):=by
 refine pq tok 15 func256 ?_;unfold Md at h;refine sg ?_;have ⟨v1,ν,h⟩:=η h;refine Ok.aB ⟨Γ [(4,vb v1)],[]⟩ ?_ ?_
 ·refine rg ⟨_,rfl,_,rfl,?_⟩;have ⟨c1,ξ,ν⟩:=η ν;refine Br.ite ξ (fun hb ξ=>?_) fun hb ξ=>?_
  ·refine ⟨_,rfl,_,rfl,?_⟩;cases ξ;cases ν;exact wt Q1 Q0 rfl
  cases ξ;cases ν;exact wt Q1 Q0 rfl
 refine rt ?_;cases h;exact Fz.v
def afG {a b d r} (h:MN a b d=some r):Pure prog 291 [.s (mE a),.c (.func 256) [] [.p [vi b],.p [vi d]]] (vi r):=by
 refine pq tok 19 func291 ?_;unfold MN at h;refine sg (Ok.cU (fun v1=>⟨Γ [],[]⟩) (fun v1=>MP v1=some r) ?_ ?_)
 ·refine sg ⟨_,au _,fun _=>?_⟩;refine bl (Ok.loop (fun (s1:Int)=>⟨Γ [(0,.s (mE a)),(1,.c (.func 256) [] [.p [vi b],.p [vi d]]),(7,vi (a.length:Int)),(8,vi s1)],[]⟩) (MO a b d) (s0:=0) h (wt Q4 Q0 rfl) ?_);intro s1 y1 ζ az;unfold MO at ζ;refine sg (sq (ct ζ (fun hb ζ=>?_) fun hb ζ=>?_))
  ·refine sk (sq (bl (sg ?_)));refine sg ?_;have ⟨x1,θ,ζ⟩:=η ζ;have ⟨x2,aq,ζ⟩:=η ζ;refine ⟨_,aI θ,_,aK θ,_,rfl,?_⟩;refine Θ.call (afv aq) lz ?_;refine ct ζ (fun hb ζ=>?_) fun hb ζ=>?_
   ·refine sg (rt ?_);have ζ:=aN ζ az;cases ζ;exact Fz.v
   refine sk (rg ?_);have ⟨ah,ζ⟩:=ak ζ;refine (af ⟨ah,?_⟩);exact ⟨_,sj ζ,wt Q4 Q0 rfl⟩
  refine xt ?_;have ζ:=aN ζ az;exact ⟨_,ζ,wt Q0 Q0 rfl⟩
 intro v1 h;unfold MP at h;refine sg (rt ?_);cases h;exact Fz.v
def afB {a b d r} (h:Mr a b d=some r):Pure prog 255 [.s (mE a),.c (.func 256) [] [.p [vi b],.p [vi d]]] (vb r):=by
 refine pq tok 9 func255 ?_;unfold Mr at h;refine sg (sg ?_);have ⟨x1,θ,h⟩:=η h;refine Θ.call (afG θ) lz ?_;refine rt ?_;cases h;exact Fz.v
def Vo {a d e r} (h:Mc a d e=some r):Pure prog 208 (R2 a d e) (vb r):=by
 refine pq tok 10 func208 ?_;unfold Mc at h;refine sg (sg ?_);have ⟨x1,θ,h⟩:=η h;refine Θ.borrow (afB θ) (.cons Fz.s (.cons (Fz.c .nil (.cons (Fz.b rfl rfl) (.cons (Fz.b rfl rfl) .nil))) .nil)) rfl ?_;refine rt ?_;cases h;exact Fz.v
def afu {c d r} (h:L_ c d=some r):Pure prog 126 [.a (b1 c),.a (b0 d)] (.a (b1 r)):=by
 refine pq tok 123 func126 ?_;unfold L_ at h;refine sg (sq (sg ?_));have ⟨x1,θ,h⟩:=η h;refine ⟨_,rfl,_,rfl,?_⟩;refine Θ.call (afW θ) lz ?_;refine wT [(2,.b 2 0),(3,.b 3 0),(4,.b 4 0),(16,vb x1)] [(2,.box (b1 c)),(3,.box (b0 d)),(4,.box (k3 0 0 0 0))] Q4 J3 rfl ?_;refine ct h (fun hb h=>?_) fun hb h=>?_
 ·refine sg ⟨_,rfl,_,rfl,?_⟩;refine rt ?_;cases h;exact ⟨_,rfl,Fz.cq rfl⟩
 refine sk (sq ?_);have ⟨ah,h⟩:=ak h;have ⟨x2,aq,h⟩:=η h;refine Ok.draw (m:=13) (MD:=⟨[24]⟩) (CH:=⟨[(24,.own 98 8 (mD x2))]⟩) tok mixed (by kernel_rfl) ?_;refine ⟨_,⟨_,rfl,rfl⟩,_,rfl,_,⟨_,rfl,rfl⟩,_,af ⟨ah,rfl⟩,_,rfl,_,⟨_,rfl,rfl⟩,_,rfl,_,⟨_,rfl,rfl⟩,_,rfl,_,⟨_,rfl,rfl⟩,_,rfl,⟨⟨_,(agq aq).makes,lz⟩,Q0⟩,_,rfl,?_⟩;have ⟨v1,ν,h⟩:=η h;refine Ok.aB ⟨Γ [(2,.b 2 0),(3,.b 3 0),(4,.b 4 0),(5,.b 5 0)],[(2,.box (b1 c)),(3,.box (b0 d)),(4,.box (k3 0 0 0 0)),(5,.box [.s (mI d.ι),vi d.Next,vi d.ar,vi (c.bH+1),zs,.o 24,.s (mE c.cm),vi c.Next]),(24,.own 98 8 (mD v1))]⟩ ?_ ?_
 ·refine sg ⟨_,rfl,_,au _,fun _=>?_⟩;refine bl (Ok.loop (fun (s1:Int×(List bV))=>⟨Γ [(2,.b 2 0),(3,.b 3 0),(4,.b 4 0),(5,.b 5 0),(32,.s (mI c.aC.ι)),(33,vi (c.aC.ι.length:Int)),(34,vi s1.1)],[(2,.box (b1 c)),(3,.box (b0 d)),(4,.box (k3 0 0 0 0)),(5,.box [.s (mI d.ι),vi d.Next,vi d.ar,vi (c.bH+1),zs,.o 24,.s (mE c.cm),vi c.Next]),(24,.own 98 8 (mD s1.2))]⟩) (Ma c d) (s0:=(0,x2)) ν (wt Q7 ⟨⟨_,rfl,.refl _⟩,⟨_,rfl,.refl _⟩,⟨_,rfl,.refl _⟩,⟨_,rfl,.refl _⟩,⟨_,rfl,.refl _⟩,Q0⟩ rfl) ?_);intro s1 y1 ζ az;unfold Ma at ζ;refine sg (sq (ct ζ (fun hb ζ=>?_) fun hb ζ=>?_))
  ·refine sk ?_;have ⟨v2,Δ,ζ⟩:=η ζ;refine Ok.aB ⟨Γ [(2,.b 2 0),(3,.b 3 0),(4,.b 4 0),(5,.b 5 0),(32,.s (mI c.aC.ι)),(33,vi (c.aC.ι.length:Int)),(34,vi s1.1)],[(2,.box (b1 c)),(3,.box (b0 d)),(4,.box (k3 0 0 0 0)),(5,.box [.s (mI d.ι),vi d.Next,vi d.ar,vi (c.bH+1),zs,.o 24,.s (mE c.cm),vi c.Next]),(24,.own 98 8 (mD v2))]⟩ ?_ ?_
   ·refine bl (sg ?_);have ⟨x3,aF,Δ⟩:=η Δ;refine ⟨_,aI aF,_,aK aF,_,rfl,_,rfl,?_⟩;refine sg ?_;have ⟨x4,aV,Δ⟩:=η Δ;refine ⟨_,rfl,_,rfl,?_⟩;refine Θ.call (Vl aV) lz ?_;have ⟨v3,aA,Δ⟩:=η Δ;refine Ok.aB ⟨Γ [(2,.b 2 0),(3,.b 3 0),(4,.b 4 0),(5,.b 5 0),(6,vi s1.1),(7,.b 7 0),(32,.s (mI c.aC.ι)),(33,vi (c.aC.ι.length:Int)),(34,vi s1.1),(67,vb v3)],[(2,.box (b1 c)),(3,.box (b0 d)),(4,.box (k3 0 0 0 0)),(5,.box [.s (mI d.ι),vi d.Next,vi d.ar,vi (c.bH+1),zs,.o 24,.s (mE c.cm),vi c.Next]),(24,.own 98 8 (mD s1.2)),(7,.box (b4 x3))]⟩ ?_ ?_
    ·refine dw 24 tok mixed ⟨_,rfl,_,rfl,_,rfl,?_⟩;have ⟨c1,ξ,aA⟩:=η aA;refine Br.cO ξ (fun hb ξ=>?_) fun hb ξ=>?_
     ·cases ξ;refine ⟨_,rfl,?_⟩;refine ⟨_,rfl,?_⟩;have ⟨c2,ax,aA⟩:=η aA;replace ax:=fu ax;have ⟨x7,cP,ax⟩:=η ax;have ⟨x8,ew,ax⟩:=η ax;refine ⟨_,rfl,_,⟨_,rfl,rfl⟩,_,rfl,_,⟨_,rfl,rfl⟩,_,rfl,_,⟨_,aI cP,_,aK cP,rfl⟩,_,⟨_,rfl,rfl⟩,_,rfl,_,⟨_,rfl,rfl⟩,_,⟨_,.dz (Vo ew) lz,rfl⟩,?_⟩;cases ax;refine ⟨_,rfl,?_⟩;refine ⟨Q0,?_⟩;cases aA;exact wt ⟨lr,lr,Q8⟩ ⟨hr,hr,J4⟩ rfl
     have ⟨x5,bJ,ξ⟩:=η ξ;have ⟨x6,cK,ξ⟩:=η ξ;refine ⟨_,⟨_,rfl,rfl⟩,_,rfl,_,⟨_,rfl,rfl⟩,_,rfl,_,⟨_,aI bJ,_,aK bJ,rfl⟩,_,⟨_,rfl,rfl⟩,_,⟨_,.dz (Vn cK) lz,rfl⟩,_,rfl,?_⟩;cases ξ;refine ⟨_,rfl,?_⟩;refine ⟨_,rfl,?_⟩;have ⟨c2,aL,aA⟩:=η aA;refine Br.ite aL (fun hb aL=>?_) fun hb aL=>?_
     ·have ⟨x7,cP,aL⟩:=η aL;have ⟨x8,ew,aL⟩:=η aL;refine ⟨_,rfl,_,⟨_,rfl,rfl⟩,_,rfl,_,⟨_,rfl,rfl⟩,_,rfl,_,⟨_,aI cP,_,aK cP,rfl⟩,_,⟨_,rfl,rfl⟩,_,rfl,_,⟨_,rfl,rfl⟩,_,⟨_,.dz (Vo ew) lz,rfl⟩,?_⟩;cases aL;refine ⟨_,rfl,?_⟩;refine ⟨Q0,?_⟩;cases aA;exact wt ⟨lr,lr,Q8⟩ ⟨hr,hr,J4⟩ rfl
     cases aL;refine ⟨_,rfl,?_⟩;refine ⟨Q0,?_⟩;cases aA;exact wt ⟨lr,lr,Q8⟩ ⟨hr,hr,J4⟩ rfl
    refine ct Δ (fun hb Δ=>?_) fun hb Δ=>?_
    ·refine dw 12 tok mixed ?_;have ⟨x9,fi,Δ⟩:=η Δ;have ⟨aQ,Δ⟩:=ak Δ;refine ⟨_,rfl,_,⟨_,rfl,rfl⟩,_,rfl,_,⟨_,rfl,rfl⟩,_,rfl,_,⟨_,aI fi,_,aK fi,rfl⟩,_,⟨_,rfl,rfl⟩,_,rfl,_,⟨_,rfl,rfl⟩,_,⟨_,rfl,rfl⟩,_,rfl,_,rfl,Q0,cL (f:=ll) (n:=8) (fun _=>rfl) ([(⟨x9,c.bH+1,x3⟩:bV)]),cJ (f:=ll) (l:=s1.2) (l':=[(⟨x9,c.bH+1,x3⟩:bV)]) aQ,_,(bP (f:=ll) (l₁:=s1.2) (l₂:=[(⟨x9,c.bH+1,x3⟩:bV)])).symm,_,rfl,?_⟩;cases Δ;exact wt Q7 ⟨hr,J4⟩ rfl
    refine sk ?_;cases Δ;exact wt Q7 ⟨hr,J4⟩ rfl
   refine rg ?_;have ⟨bN,ζ⟩:=ak ζ;refine (af ⟨bN,?_⟩);exact ⟨_,sj ζ,wt Q7 ⟨hr,J4⟩ rfl⟩
  refine xt ?_;have ζ:=aN ζ az;cases ζ;exact wt Q4 ⟨hr,J4⟩ rfl
 have ⟨v4,aO,h⟩:=η h;refine Ok.aB ⟨Γ [(4,.b 4 0),(5,.b 5 0)],[(4,.box (k3 0 0 0 0)),(5,.box [.s (mI d.ι),vi d.Next,vi d.ar,vi (c.bH+1),.o 119,.o 24,.s (mE c.cm),vi c.Next]),(119,.own 3 1 (mB v4)),(24,.own 98 8 (mD v1))]⟩ ?_ ?_
 ·refine sg ⟨_,rfl,_,au _,fun _=>?_⟩;refine bl (Ok.loop (fun (s2:Int×(List Int))=>⟨Γ [(2,.b 2 0),(4,.b 4 0),(5,.b 5 0),(84,.s (mI d.ι)),(85,vi (d.ι.length:Int)),(86,vi s2.1)],[(2,.box (b1 c)),(4,.box (k3 0 0 0 0)),(5,.box [.s (mI d.ι),vi d.Next,vi d.ar,vi (c.bH+1),.o 119,.o 24,.s (mE c.cm),vi c.Next]),(119,.own 3 1 (mB s2.2)),(24,.own 98 8 (mD v1))]⟩) (Mb d c) (s0:=(0,[])) aO ((Wk.SO (b:=5) (q:=4) (id:=119) (E:=3) (K:=1) rfl rfl rfl).trans (wt Q6 ⟨⟨_,rfl,.refl _⟩,⟨_,rfl,.refl _⟩,⟨_,rfl,.refl _⟩,⟨_,rfl,.refl _⟩,⟨_,rfl,.refl _⟩,Q0⟩ rfl)) ?_);intro s2 y2 an dM;unfold Mb at an;refine sg (sq (ct an (fun hb an=>?_) fun hb an=>?_))
  ·refine sk (sq (bl (sg ?_)));have ⟨cR,fR,an⟩:=η an;refine ⟨_,aI fR,_,aK fR,_,rfl,_,rfl,?_⟩;refine sg ⟨_,rfl,?_⟩;have ⟨v5,bg,an⟩:=η an;refine Ok.aB ⟨Γ [(2,.b 2 0),(4,.b 4 0),(5,.b 5 0),(11,vi v5),(84,.s (mI d.ι)),(85,vi (d.ι.length:Int)),(86,vi s2.1)],[(2,.box (b1 c)),(4,.box (k3 0 0 0 0)),(5,.box [.s (mI d.ι),vi d.Next,vi d.ar,vi (c.bH+1),.o 119,.o 24,.s (mE c.cm),vi c.Next]),(119,.own 3 1 (mB s2.2)),(24,.own 98 8 (mD v1))]⟩ ?_ ?_
   ·refine sg ?_;have ⟨ei,jA,bg⟩:=η bg;refine ⟨_,rfl,_,rfl,?_⟩;refine Θ.call (Vl jA) lz ?_;have ⟨v6,bX,bg⟩:=η bg;refine Ok.aB ⟨Γ [(2,.b 2 0),(4,.b 4 0),(5,.b 5 0),(11,vi (c.bH+1)),(12,vi ei),(84,.s (mI d.ι)),(85,vi (d.ι.length:Int)),(86,vi s2.1),(109,vb v6)],[(2,.box (b1 c)),(4,.box (k3 0 0 0 0)),(5,.box [.s (mI d.ι),vi d.Next,vi d.ar,vi (c.bH+1),.o 119,.o 24,.s (mE c.cm),vi c.Next]),(119,.own 3 1 (mB s2.2)),(24,.own 98 8 (mD v1))]⟩ ?_ ?_
    ·refine dw 12 tok mixed ⟨_,rfl,_,rfl,_,rfl,?_⟩;have ⟨c3,bI,bX⟩:=η bX;refine Br.ite bI (fun hb bI=>?_) fun hb bI=>?_
     ·have ⟨dG,jW,bI⟩:=η bI;have ⟨fx,nU,bI⟩:=η bI;refine ⟨_,⟨_,rfl,rfl⟩,_,rfl,_,rfl,_,⟨_,rfl,rfl⟩,_,rfl,_,⟨_,aI jW,_,aK jW,rfl⟩,_,⟨_,rfl,rfl⟩,_,⟨_,.dz (Vn nU) lz,rfl⟩,?_⟩;cases bI;refine ⟨_,rfl,?_⟩;refine ⟨Q0,?_⟩;cases bX;exact wt ⟨lr,Q8⟩ ⟨hr,J4⟩ rfl
     cases bI;refine ⟨_,rfl,?_⟩;refine ⟨Q0,?_⟩;cases bX;exact wt ⟨lr,Q8⟩ ⟨hr,J4⟩ rfl
    refine ct bg (fun hb bg=>?_) fun hb bg=>?_
    ·refine rg ?_;have ⟨j2,th,bg⟩:=η bg;refine ⟨_,rfl,_,aI th,_,aK th,_,rfl,?_⟩;cases bg;exact wt Q7 ⟨hr,J4⟩ rfl
    refine sk ?_;cases bg;exact wt Q7 ⟨hr,J4⟩ rfl
   refine rg ?_;have ⟨c8,an⟩:=ak an;refine ⟨_,rfl,af ⟨cL (f:=Go.Cat.encI) (n:=1) (fun _=>rfl) ([v5]),cJ (f:=Go.Cat.encI) (l:=s2.2) (l':=[v5]) c8,_,(bP (f:=Go.Cat.encI) (l₁:=s2.2) (l₂:=[v5])).symm,_,rfl,?_⟩⟩;refine rg ?_;have ⟨eJ,an⟩:=ak an;refine (af ⟨eJ,?_⟩);exact ⟨_,sj an,wt Q6 ⟨hr,J4⟩ rfl⟩
  refine xt ?_;have an:=aN an dM;cases an;exact wt Q2 J4 rfl
 refine sg ⟨_,rfl,_,rfl,?_⟩;refine rt ?_;cases h;exact ⟨_,rfl,Fz.a (.cons Fz.s (.cons Fz.v (.cons Fz.v (.cons Fz.v (.cons (Fz.o rfl) (.cons (Fz.o rfl) (.cons Fz.s fq)))))))⟩
def Vw {P R e f g i j k l u d O w z A B C E F G I J K L N} {q:Int⊕(wQ)} (h:DD P R e f g i j k l u d O w z A B C E F G I J K L N=some q):j8 prog eB 116 [.b 1000 0,.a (b0 P),.s (mA R)] ⟨aM,[(1000,.box (iJ e f g i j k l u d O w z A B C E F G I J K L N))]⟩ (fun x s=>∃y:wQ,q=.inr y∧x=(.t [])∧s.H=[(1000,.box [.s (mI y.1),vi y.2.1,vi y.2.2.1,vi y.2.2.2.1,.s (mB y.2.2.2.2.1),.s (mD y.2.2.2.2.2.1),.s (mE y.2.2.2.2.2.2.1),vi y.2.2.2.2.2.2.2.1,.s (mF d),.o 35,vi w,vi z,vs A,vs B,vi C,vi E,vi F,.s (mU G),vi I,vi J,vi K,vi L,vi N,zs,zs]),(35,.own 86 3 (mA (t8 y)))]) fun m s=>q=.inl m∧s.H=[]:=by
 refine px tok 83 func116 ?_;unfold DD at h;refine sg ?_;have ⟨v1,ν,h⟩:=η h;refine Ok.aB ⟨Γ [(0,.b 1000 0),(2,.s (mA R)),(4,.b 4 0)],[(1000,.box (iJ e f g i j k l u d O w z A B C E F G I J K L N)),(4,.box (k0 v1.1 v1.2.1 v1.2.2))]⟩ ?_ ?_
 ·refine sg ?_;have ⟨x1,θ,ν⟩:=η ν;refine ⟨_,rfl,?_⟩;refine Θ.call (aez θ) lz ?_;refine ⟨_,au _,fun _=>?_⟩;refine bl (Ok.loop (fun (s1:Int×eb)=>⟨Γ [(0,.b 1000 0),(2,.s (mA R)),(4,.b 4 0),(13,.s (mB x1)),(14,vi (x1.length:Int)),(15,vi s1.1)],[(1000,.box (iJ e f g i j k l u d O w z A B C E F G I J K L N)),(4,.box (k0 s1.2.1 s1.2.2.1 s1.2.2.2))]⟩) (ID x1 d) (s0:=(0,P.ι,P.Next,P.ar)) ν (wt Q6 ⟨hr,hr,Q0⟩ rfl) ?_);intro s1 y1 ζ az;unfold ID at ζ;refine sg (sq (ct ζ (fun hb ζ=>?_) fun hb ζ=>?_))
  ·refine sk ?_;have ⟨v2,Δ,ζ⟩:=η ζ;refine Ok.aB ⟨Γ [(0,.b 1000 0),(2,.s (mA R)),(4,.b 4 0),(13,.s (mB x1)),(14,vi (x1.length:Int)),(15,vi s1.1)],[(1000,.box (iJ e f g i j k l u d O w z A B C E F G I J K L N)),(4,.box (k0 v2.1 v2.2.1 v2.2.2))]⟩ ?_ ?_
   ·refine bl (sg ?_);have ⟨x2,aq,Δ⟩:=η Δ;refine ⟨_,aI aq,_,aK aq,_,rfl,_,rfl,?_⟩;refine sg ?_;have ⟨x3,aF,Δ⟩:=η Δ;refine ⟨_,rfl,?_⟩;refine Θ.borrow (afA aF) (.cons Fz.s (.cons (Fz.c .nil (.cons (Fz.b rfl rfl) .nil)) .nil)) rfl ?_;refine ct Δ (fun hb Δ=>?_) fun hb Δ=>?_
    ·refine rg ?_;have ⟨x4,aV,Δ⟩:=η Δ;refine ⟨_,rfl,_,rfl,?_⟩;refine Θ.call (afP aV) lz ?_;refine ⟨_,rfl,?_⟩;cases Δ;exact wt Q6 J2 rfl
    refine sk ?_;cases Δ;exact wt Q6 J2 rfl
   refine rg ?_;have ⟨ah,ζ⟩:=ak ζ;refine (af ⟨ah,?_⟩);exact ⟨_,sj ζ,wt Q6 J2 rfl⟩
  refine xt ?_;have ζ:=aN ζ az;cases ζ;exact wt Q3 J2 rfl
 refine sg ?_;have ⟨x5,bJ,h⟩:=η h;refine Θ.own (D:=35) (agr bJ) lz rfl ?_;have ⟨x6,cK,h⟩:=η h;refine cg [(1000,35),(1001,4)] [(999,35)] (agc cK) (.cons (Ln.o rfl) (.cons (Ln.c .nil (.cons (Ln.b rfl) .nil)) .nil)) ⟨⟨35,_,rfl,rfl,.refl rfl⟩,⟨4,_,rfl,rfl,.box nq⟩,Q0⟩ ?_;refine sq (Ok.jq eB tok ?_);have ⟨x7,cP,h⟩:=η h;refine af (⟨_,rfl,af ?_⟩);refine af (Θ.borrow (aev cP) (.cons (Fz.a (.cons Fz.s fq)) (.cons (Fz.o rfl) .nil)) rfl ?_);have ⟨x8,ew,h⟩:=η h;refine fp (cx [] [] (zt ew) nq Q0 (fun e1 cH=>?_) (fun y2 fQ=>?_))
 ·have h:=gV h cH;cases h;exact ⟨_,rfl,rfl⟩
 have h:=gW h fQ;refine Ok.cU (fun v3=>⟨Γ [(0,.b 1000 0),(2,.o 35),(4,.b 4 0)],[(1000,.box (iJ e f g i j k l u d O w z A B C E F G I J K L N)),(35,.own 86 3 (mA x6)),(4,.box (k0 ((⟨v1.1,v1.2.1,v1.2.2⟩:Φ).ι) ((⟨v1.1,v1.2.1,v1.2.2⟩:Φ).Next) ((⟨v1.1,v1.2.1,v1.2.2⟩:Φ).ar)))]⟩) (fun v3=>IF e f g i j k l u v1 x6 v3=some q) ?_ ?_
 ·refine sg ⟨_,au _,fun _=>?_⟩;refine bl (Ok.loop (fun (s2:Int)=>⟨Γ [(0,.b 1000 0),(2,.o 35),(4,.b 4 0),(42,.o 35),(43,vi (x6.length:Int)),(44,vi s2)],[(1000,.box (iJ e f g i j k l u d O w z A B C E F G I J K L N)),(35,.own 86 3 (mA x6)),(4,.box (k0 ((⟨v1.1,v1.2.1,v1.2.2⟩:Φ).ι) ((⟨v1.1,v1.2.1,v1.2.2⟩:Φ).Next) ((⟨v1.1,v1.2.1,v1.2.2⟩:Φ).ar)))]⟩) (IE x6 v1 e f g i j k l u) (s0:=0) h (wt Q6 ⟨hr,hr,hr,Q0⟩ rfl) ?_);intro s2 y3 an dM;unfold IE at an;refine sg (sq (ct an (fun hb an=>?_) fun hb an=>?_))
  ·refine sk (Ok.cU (fun v4=>⟨Γ [(0,.b 1000 0),(2,.o 35),(4,.b 4 0),(42,.o 35),(43,vi (x6.length:Int)),(44,vi s2)],[(1000,.box (iJ e f g i j k l u d O w z A B C E F G I J K L N)),(35,.own 86 3 (mA x6)),(4,.box (k0 ((⟨v1.1,v1.2.1,v1.2.2⟩:Φ).ι) ((⟨v1.1,v1.2.1,v1.2.2⟩:Φ).Next) ((⟨v1.1,v1.2.1,v1.2.2⟩:Φ).ar)))]⟩) (fun v4=>IG s2 v4=some y3) ?_ ?_)
   ·refine bl (sg ?_);have ⟨x9,fi,an⟩:=η an;refine ⟨_,aI fi,jY fi,_,aK fi,rfl,_,rfl,_,rfl,?_⟩;refine sg ?_;have ⟨cR,fR,an⟩:=η an;refine ⟨_,rfl,_,rfl,?_⟩;refine Θ.call (aeR fR) lz ?_;refine Ok.jq eB tok (af (af (af (⟨_,rfl,af (af ?_)⟩))));have ⟨c1,ξ,an⟩:=η an;refine Br.ite ξ (fun hb ξ=>?_) fun hb ξ=>?_
    ·refine af (af (af (⟨_,rfl,af ?_⟩)));cases ξ;refine af ?_;have ⟨ei,jA,an⟩:=η an;refine fp (cx [] [] (zt jA) nq Q0 (fun e2 jg=>?_) (fun y4 kS=>?_))
     ·have an:=gV an jg;have an:=aN an dM;cases an;exact ⟨_,rfl,rfl⟩
     have an:=gW an kS;exact ⟨_,an,wt Q6 ⟨hr,hr,hr,Q0⟩ rfl⟩
    cases ξ;refine af ?_;have ⟨ei,jA,an⟩:=η an;refine fp (cx [] [] (zt jA) nq Q0 (fun e2 jg=>?_) (fun y4 kS=>?_))
    ·have an:=gV an jg;have an:=aN an dM;cases an;exact ⟨_,rfl,rfl⟩
    have an:=gW an kS;exact ⟨_,an,wt Q6 ⟨hr,hr,hr,Q0⟩ rfl⟩
   intro v4 an;unfold IG at an;refine rg ?_;have ⟨aQ,an⟩:=ak an;refine (af ⟨aQ,?_⟩);exact ⟨_,sj an,wt Q6 J3 rfl⟩
  refine xt ?_;have an:=aN an dM;exact ⟨_,an,wt Q3 ⟨hr,hr,hr,Q0⟩ rfl⟩
 intro v3 h;unfold IF at h;refine Ok.gP (m:=13) (late:=[1,9]) (MD:=⟨[]⟩) (CH:=⟨[]⟩) tok mixed (by kernel_rfl) ?_;have ⟨dG,jW,h⟩:=η h;refine ⟨_,rfl,_,rfl,_,rfl,_,rfl,_,rfl,_,rfl,_,⟨_,rfl,rfl⟩,_,⟨_,rfl,rfl⟩,_,⟨_,.dz (afu jW) lz,rfl⟩,_,rfl,_,rfl,_,rfl,_,rfl,Q0,?_⟩;refine ⟨_,rfl,⟨⟨_,rfl,rfl⟩,⟨_,rfl,rfl⟩,Q0⟩,_,rfl,?_⟩;cases h;exact ⟨_,rfl,wt Q1 J2 rfl⟩
def af3 [mP] {C D F G I J K L d N e f g i a j k l u w z A B} {q:Int⊕(zn)} (h:Iy C D F G I J K L d N e f g i a j k l u w z A B=some q):j8 prog eB 63 [.b 1000 0] ⟨aM,[(1000,.box (iJ C D F G I J K L d N e f g i a j k l u w z A B))]⟩ (fun x s=>∃y:zn,q=.inr y∧x=(.t [])∧s.H=[(1000,.box [.s (mI y.1),vi y.2.1,vi y.2.2.1,vi y.2.2.2.1,.s (mB y.2.2.2.2.1),.s (mD y.2.2.2.2.2.1),.s (mE y.2.2.2.2.2.2.1),vi y.2.2.2.2.2.2.2.1,.s (mF d),.o 999,vi e,vi f,vs g,vs i,vi a,vi j,vi k,.s (mU l),vi (0),vi (t8 y).1,vi a,vi (0),vi (0),zs,zs]),(999,.own 86 3 (mA (t8 y).2))]) fun m s=>q=.inl m∧s.H=[]:=by
 refine px tok 55 func63 ?_;unfold Iy at h;refine sq (Ok.jq eB tok ?_);have ⟨x1,θ,h⟩:=η h;refine af (af (af (af (af (af (⟨_,rfl,?_⟩))))));refine fp (cx [(1000,1000)] [] (NP θ) (.cons (Ln.b rfl) nq) ⟨⟨1000,_,rfl,rfl,.box nq⟩,Q0⟩ (fun e1 cH=>?_) (fun y1 fQ=>?_))
 ·have h:=gV h cH;cases h;exact ⟨_,rfl,rfl⟩
 have h:=gW h fQ;refine af (af (af (af (af ?_))));refine sq (Ok.uH (E:=eB) (chain:=[(18,[0,1,2,3,4,5,6,7,8,9,10,11,12,13,14,15,16,17,20,21]),(19,[16,17,20,21])]) tok mixed (by kernel_rfl) ?_);have ⟨x2,aq,h⟩:=η h;refine ⟨_,rfl,_,rfl,_,rfl,_,rfl,_,rfl,_,⟨_,rfl,rfl⟩,_,rfl,_,rfl,_,rfl,_,rfl,_,rfl,_,rfl,_,⟨_,rfl,rfl⟩,_,⟨_,.dz (Vr aq) lz,rfl⟩,_,rfl,_,rfl,_,rfl,_,rfl,_,rfl,_,rfl,af ⟨⟨⟨_,rfl,rfl⟩,⟨_,rfl,rfl⟩,⟨_,rfl,rfl⟩,⟨_,rfl,rfl⟩,⟨_,rfl,rfl⟩,⟨_,rfl,_,rfl,rfl⟩,⟨_,rfl,rfl⟩,⟨_,rfl,rfl⟩,⟨_,rfl,rfl⟩,⟨_,rfl,rfl⟩,⟨_,rfl,rfl⟩,⟨_,rfl,rfl⟩,⟨_,rfl,_,rfl,rfl⟩,⟨_,rfl,_,.dz (Vr aq) lz,rfl⟩,⟨_,rfl,rfl⟩,⟨_,rfl,rfl⟩,⟨_,rfl,rfl⟩,⟨_,rfl,rfl⟩,⟨_,rfl,rfl⟩,⟨_,rfl,rfl⟩,Q0⟩,af (⟨_,rfl,⟨⟨_,rfl,rfl⟩,⟨_,rfl,rfl⟩,⟨_,rfl,rfl⟩,⟨_,rfl,rfl⟩,Q0⟩,?_⟩)⟩⟩;refine sq (Ok.jq eB tok ?_);have ⟨x3,aF,h⟩:=η h;refine af (fp (cx [] [] (ud aF) nq Q0 (fun e2 jg=>?_) (fun y2 kS=>?_)))
 ·have h:=gV h jg;cases h;exact ⟨_,rfl,rfl⟩
 have h:=gW h kS;refine sq (Ok.uH (E:=eB) (chain:=[(7,[])]) tok mixed (by kernel_rfl) ?_);have ⟨x4,aV,h⟩:=η h;refine ⟨_,rfl,_,⟨_,rfl,rfl⟩,_,rfl,_,rfl,_,rfl,_,rfl,_,⟨_,rfl,rfl⟩,?_⟩;refine fp (cx [(1000,1000)] [(35,999)] (Vw aV) (.cons (Ln.b rfl) nq) ⟨⟨1000,_,rfl,rfl,.box nq⟩,Q0⟩ (fun e3 pn=>?_) (fun y3 oH=>?_))
 ·have h:=gV h pn;cases h;exact ⟨_,rfl,rfl⟩
 have h:=gW h oH;refine ⟨Q0,?_⟩;refine rg ⟨_,rfl,_,rfl,?_⟩;cases h;exact ⟨_,rfl,wt Q1 J2 rfl⟩
def afH {a b r} (h:MQ a b=some r):Pure prog 242 [.s (mB a),vi b] (vi r):=by
 refine pq tok 19 func242 ?_;unfold MQ at h;refine sg (Ok.cU (fun v1=>⟨Γ [],[]⟩) (fun v1=>MS v1=some r) ?_ ?_)
 ·refine sg ⟨_,au _,fun _=>?_⟩;refine bl (Ok.loop (fun (s1:Int)=>⟨Γ [(0,.s (mB a)),(1,vi b),(7,vi (a.length:Int)),(8,vi s1)],[]⟩) (MR a b) (s0:=0) h (wt Q4 Q0 rfl) ?_);intro s1 y1 ζ az;unfold MR at ζ;refine sg (sq (ct ζ (fun hb ζ=>?_) fun hb ζ=>?_))
  ·refine sk (sq (bl (sg ?_)));refine sg ?_;have ⟨x1,θ,ζ⟩:=η ζ;refine ⟨_,aI θ,_,aK θ,_,rfl,?_⟩;refine ct ζ (fun hb ζ=>?_) fun hb ζ=>?_
   ·refine sg (rt ?_);have ζ:=aN ζ az;cases ζ;exact Fz.v
   refine sk (rg ?_);have ⟨ah,ζ⟩:=ak ζ;refine (af ⟨ah,?_⟩);exact ⟨_,sj ζ,wt Q4 Q0 rfl⟩
  refine xt ?_;have ζ:=aN ζ az;exact ⟨_,ζ,wt Q0 Q0 rfl⟩
 intro v1 h;unfold MS at h;refine sg (rt ?_);cases h;exact Fz.v
def Vp {a b r} (h:Ge a b=some r):Pure prog 186 [.s (mB a),vi b] (vb r):=by
 refine pq tok 9 func186 ?_;unfold Ge at h;refine sg (sg ?_);have ⟨x1,θ,h⟩:=η h;refine Θ.call (afH θ) lz ?_;refine rt ?_;cases h;exact Fz.v
def af0 {d c r} (h:Nq d c=some r):Pure prog 187 [.a (b4 d),.a (b4 c)] (vi r):=by
 refine pq tok 28 func187 ?_;unfold Nq at h;refine sg (sq (bl ?_));have ⟨v1,ν,h⟩:=η h;refine Ok.aB ⟨Γ [(2,.b 2 0),(3,.b 3 0),(5,vb v1)],[(2,.box (b4 d)),(3,.box (b4 c))]⟩ ?_ ?_
 ·refine rg ⟨_,rfl,?_⟩;have ⟨c1,ξ,ν⟩:=η ν;refine Br.ite ξ (fun hb ξ=>?_) fun hb ξ=>?_
  ·refine ⟨_,rfl,?_⟩;cases ξ;cases ν;exact wt Q3 J2 rfl
  cases ξ;cases ν;exact wt Q3 J2 rfl
 refine ct h (fun hb h=>?_) fun hb h=>?_
 ·refine sg (rt ?_);cases h;exact Fz.v
 have ⟨v2,Δ,h⟩:=η h;refine Ok.aB ⟨Γ [(3,.b 3 0),(14,vb v2)],[(3,.box (b4 c))]⟩ ?_ ?_
 ·refine rg ⟨_,rfl,?_⟩;have ⟨c2,ax,Δ⟩:=η Δ;refine Br.ite ax (fun hb ax=>?_) fun hb ax=>?_
  ·refine ⟨_,rfl,?_⟩;cases ax;cases Δ;exact wt Q2 J1 rfl
  cases ax;cases Δ;exact wt Q2 J1 rfl
 refine ct h (fun hb h=>?_) fun hb h=>?_
 ·refine sg (rt ?_);cases h;exact Fz.v
 refine sg ⟨_,rfl,_,au _,fun _=>?_⟩;refine ct h (fun hb h=>?_) fun hb h=>?_
 ·refine sg (rt ?_);cases h;exact Fz.v
 refine sk (sg ?_);refine rt ?_;cases h;exact Fz.v
def age {d e f g i r} (h:Ni d e f g i=some r):Θ prog 244 [.a (b4 d),.b 1000 0,.b 1002 0,.b 1003 0,.b 1004 0] ⟨aM,[(1000,.box [.b 1001 0]),(1001,.box (b5 e)),(1002,.box [vi f]),(1003,.box [vi g]),(1004,.box [vi i])]⟩ fun x s=>x=(vb r.1)∧s.H=[(1000,.box [.b 1001 0]),(1001,.box (k0 r.2.1 r.2.2.1 r.2.2.2)),(1002,.box [vi f]),(1003,.box [vi g]),(1004,.box [vi i])]:=by
 refine pg tok 40 func244 ?_;unfold Ni at h;refine sg (sq (sg ?_));refine ⟨_,rfl,?_⟩;refine ct h (fun hb h=>?_) fun hb h=>?_
 ·refine sg (rt ?_);cases h;exact wt Q1 ⟨hr,J4⟩ rfl
 refine sk (sg ?_);have ⟨x1,θ,h⟩:=η h;refine ⟨_,rfl,_,rfl,?_⟩;refine Θ.eD (id:=1001) (NN θ) rfl (.box lz) rfl (.cons (Lr.b) (.cons (Lr.cq rfl) .nil)) ?_;rintro _ _ ⟨rfl,rfl⟩;refine sg ?_;have ⟨ah,h⟩:=ak h;have ⟨aQ,h⟩:=ak h;have ⟨bN,h⟩:=ak h;refine ⟨_,rfl,_,au _,fun _=>(af ⟨ah,af ⟨aQ,_,rfl,af ⟨bN,?_⟩⟩⟩)⟩;have ⟨v1,ν,h⟩:=η h;refine Ok.aB ⟨Γ [(6,vb v1)],[(1000,.box [.b 1001 0]),(1001,.box (b5 x1.2)),(1002,.box [vi f]),(1003,.box [vi g]),(1004,.box [vi i])]⟩ ?_ ?_
 ·refine rg ?_;have ⟨x2,aq,ν⟩:=η ν;refine ⟨_,rfl,?_⟩;refine Θ.call (Vp aq) lz ?_;have ⟨c3,ξ,ν⟩:=η ν;refine Br.ite ξ (fun hb ξ=>?_) fun hb ξ=>?_
  ·have ⟨c2,ax,ξ⟩:=η ξ;refine Br.cO ax (fun hb ax=>?_) fun hb ax=>?_
   ·cases ax;cases ξ;cases ν;exact wt Q1 ⟨hr,J4⟩ rfl
   have ⟨c1,aL,ax⟩:=η ax;refine Br.ite aL (fun hb aL=>?_) fun hb aL=>?_
   ·refine ⟨_,rfl,_,au _,fun _=>?_⟩;cases aL;cases ax;cases ξ;cases ν;exact wt Q1 ⟨hr,J4⟩ rfl
   cases aL;cases ax;cases ξ;cases ν;exact wt Q1 ⟨hr,J4⟩ rfl
  cases ξ;cases ν;exact wt Q1 ⟨hr,J4⟩ rfl
 refine rt ?_;cases h;exact wt Q1 ⟨hr,J4⟩ rfl
end Go.Proofs
