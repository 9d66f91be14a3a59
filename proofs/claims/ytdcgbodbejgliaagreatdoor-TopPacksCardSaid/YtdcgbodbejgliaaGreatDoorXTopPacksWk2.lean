/- The walks of this seat beside the plain programs, part 2. No condition. -/
import Derived.Test.YtdcgbodbejgliaaGreatDoorXTopPacksWk1
open List renaming length_map → ax, map_append → eI
open Or renaming inl → ψ, inr → bV
namespace Go.Proofs
set_option linter.all false
open Go Go.Cat Tryz
variable [M:cM]
set_option maxRecDepth 100000
set_option maxHeartbeats 4000000
def Y3 {d e r} (h:xf d e=some r):Pure prog 178 [.a (b0 d),vi e] (.t [vi r.1,vi r.2]):=by
 refine pq tok 31 func178 ?_;unfold xf at h;refine sg (sg ⟨_,rfl,?_⟩);refine sg ⟨_,rfl,?_⟩;refine sg (sg ⟨_,rfl,?_⟩);have ⟨v1,ν,h⟩:=ι h;refine Ok.bg ⟨aq [(6,.b 6 0),(7,.b 7 0)],[(6,.box [.m 11]),(11,.mp false (List.map (fun p=>(p.1,cB p.2)) v1.2)),(7,.box [vi v1.1])]⟩ ?_ ?_
 ·refine sg ?_;have ⟨x1,Θ,ν⟩:=ι ν;refine ⟨_,rfl,?_⟩;refine ae.call (rW Θ) lz ?_;refine ⟨_,rfl,?_⟩;have ⟨v2,aw,ν⟩:=ι ν;refine Ok.bg ⟨aq [(1,vi e),(6,.b 6 0),(7,.b 7 0),(8,.b 8 0),(24,vb v2)],[(6,.box [.m 11]),(11,.mp false (List.map (fun p=>(p.1,cB p.2)) ([]:List (Int×Bool)))),(7,.box [vi (0)]),(8,.box [.c (.func 237) [] [.b 2 0,.b 7 0,.b 6 0,.b 8 0]]),(2,.box (b0 d))]⟩ ?_ ?_
  ·refine rg ?_;have ⟨c1,Δ,aw⟩:=ι aw;refine Br.ite Δ (fun hb Δ=>?_) fun hb Δ=>?_
   ·refine ⟨_,rfl,?_⟩;cases Δ;cases aw;exact wt Q5 ⟨hr,J4⟩ rfl
   cases Δ;cases aw;exact wt Q5 ⟨hr,J4⟩ rfl
  refine ct ν (fun hb ν=>?_) fun hb ν=>?_
  ·refine rg ?_;have ⟨x2,ak,ν⟩:=ι ν;refine ⟨_,rfl,?_⟩;refine cg [(1000,2),(1001,7),(1002,6),(1003,11),(1004,8)] [] (aks ak) (n1 (.cons (Ln.b rfl) (.cons (Ln.b rfl) (.cons (Ln.b rfl) (.cons (Ln.b rfl) .nil))))) ⟨⟨2,_,rfl,rfl,.box nq⟩,⟨7,_,rfl,rfl,.box nq⟩,⟨6,_,rfl,rfl,.box (.cons (Ln.mm rfl) .nil)⟩,⟨11,_,rfl,rfl,.refl rfl⟩,⟨8,_,rfl,rfl,.box (.cons (Ln.c .nil (.cons (Ln.b rfl) (.cons (Ln.b rfl) (.cons (Ln.b rfl) (.cons (Ln.b rfl) .nil))))) .nil)⟩,Q0⟩ ?_;cases ν;exact wt Q2 J3 rfl
  refine sk ?_;cases ν;exact wt Q2 J3 rfl
 refine sq (dw 5 tok mixed ?_);refine ⟨_,⟨_,rfl,rfl⟩,_,⟨_,ax _,fun _=>rfl⟩,_,⟨_,rfl,rfl⟩,_,rfl,_,rfl,Q0,?_⟩;refine rt ?_;cases h;exact (Fz.t fq)
def aiS {a b r} (h:HC a b=some r):Pure prog 86 [.s (mU a),.s (mU b)] (vb r):=by
 refine pq tok 10 func86 ?_;unfold HC at h;refine sg (sg ⟨_,rfl,_,rfl,_,tT _ _,?_⟩);refine rt ?_;cases h;exact Fz.v
def Zb {a b r} (h:Cr a b=some r):Pure prog 87 [.s (mF a),.s (mF b)] (vb r):=by
 refine pq tok 26 func87 ?_;unfold Cr at h;refine sg (sq (sg ?_));refine ⟨_,ax _,fun _=>⟨_,ax _,fun _=>?_⟩⟩;refine ct h (fun hb h=>?_) fun hb h=>?_
 ·refine sg (rt ?_);cases h;exact Fz.v
 refine sk (Ok.eC (fun v1=>⟨aq [],[]⟩) (fun v1=>Qa v1=some r) ?_ ?_)
 ·refine sg ⟨_,ax _,fun _=>?_⟩;refine bl (Ok.loop (fun (s1:Int)=>⟨aq [(0,.s (mF a)),(1,.s (mF b)),(12,vi (a.length:Int)),(13,vi s1)],[]⟩) (Gb a b) (s0:=0) h (wt Q4 Q0 rfl) ?_);intro s1 y1 ζ aL;unfold Gb at ζ;refine sg (sq (ct ζ (fun hb ζ=>?_) fun hb ζ=>?_))
  ·refine sk (sq (bl (sg ?_)));refine sq (dw 9 tok mixed ?_);have ⟨x1,Θ,ζ⟩:=ι ζ;have ⟨x2,ak,ζ⟩:=ι ζ;refine ⟨_,rfl,_,rfl,_,⟨_,bq Θ,_,br Θ,rfl⟩,_,⟨_,rfl,rfl⟩,_,rfl,_,rfl,_,⟨_,bq ak,_,br ak,rfl⟩,_,⟨_,rfl,rfl⟩,_,⟨[.one (.str),.one (.int .i64),.one (.int .i64)],by kernel_rfl,rfl⟩,Q0,?_⟩;refine ct ζ (fun hb ζ=>?_) fun hb ζ=>?_
   ·refine sg (rt ?_);have ζ:=bd ζ aL;cases ζ;exact Fz.v
   refine sk (rg ?_);have ⟨ar,ζ⟩:=aC ζ;refine (ψ ⟨ar,?_⟩);exact ⟨_,sj ζ,wt Q4 Q0 rfl⟩
  refine xt ?_;have ζ:=bd ζ aL;exact ⟨_,ζ,wt Q0 Q0 rfl⟩
 intro v1 h;unfold Qa at h;refine sg (rt ?_);cases h;exact Fz.v
def aj3 {c d r} (h:Gy c d=some r):Pure prog 85 [.a (b4 c),.a (b4 d)] (vb r):=by
 refine pq tok 45 func85 ?_;unfold Gy at h;refine sg ?_;have ⟨v1,ν,h⟩:=ι h;refine Ok.bg ⟨aq [(4,vb v1)],[]⟩ ?_ ?_
 ·refine rg ⟨_,rfl,_,rfl,?_⟩;have ⟨c1,Δ,ν⟩:=ι ν;refine Br.ite Δ (fun hb Δ=>?_) fun hb Δ=>?_
  ·refine ⟨_,rfl,_,rfl,?_⟩;cases Δ;have ⟨c2,aF,ν⟩:=ι ν;refine Br.ite aF (fun hb aF=>?_) fun hb aF=>?_
   ·refine ⟨_,rfl,_,rfl,?_⟩;cases aF;have ⟨c3,aM,ν⟩:=ι ν;refine Br.ite aM (fun hb aM=>?_) fun hb aM=>?_
    ·refine ⟨_,rfl,_,rfl,?_⟩;cases aM;have ⟨c4,cC,ν⟩:=ι ν;refine Br.ite cC (fun hb cC=>?_) fun hb cC=>?_
     ·have ⟨x1,Θ,cC⟩:=ι cC;refine ⟨_,rfl,_,rfl,?_⟩;refine ae.call (aiS Θ) lz ?_;cases cC;have ⟨c5,cU,ν⟩:=ι ν;refine Br.ite cU (fun hb cU=>?_) fun hb cU=>?_
      ·have ⟨x2,ak,cU⟩:=ι cU;refine ⟨_,rfl,_,rfl,?_⟩;refine ae.call (Zb ak) lz ?_;cases cU;cases ν;exact wt Q1 Q0 rfl
      cases cU;cases ν;exact wt Q1 Q0 rfl
     cases cC;have ⟨c5,dA,ν⟩:=ι ν;replace dA:=cL dA;cases dA;cases ν;exact wt Q1 Q0 rfl
    cases aM;have ⟨c4,et,ν⟩:=ι ν;replace et:=cL et;cases et;have ⟨c5,fa,ν⟩:=ι ν;replace fa:=cL fa;cases fa;cases ν;exact wt Q1 Q0 rfl
   cases aF;have ⟨c3,gb,ν⟩:=ι ν;replace gb:=cL gb;cases gb;have ⟨c4,eS,ν⟩:=ι ν;replace eS:=cL eS;cases eS;have ⟨c5,gG,ν⟩:=ι ν;replace gG:=cL gG;cases gG;cases ν;exact wt Q1 Q0 rfl
  cases Δ;have ⟨c2,gH,ν⟩:=ι ν;replace gH:=cL gH;cases gH;have ⟨c3,iC,ν⟩:=ι ν;replace iC:=cL iC;cases iC;have ⟨c4,ji,ν⟩:=ι ν;replace ji:=cL ji;cases ji;have ⟨c5,iD,ν⟩:=ι ν;replace iD:=cL iD;cases iD;cases ν;exact wt Q1 Q0 rfl
 refine rt ?_;cases h;exact Fz.v
def ajG {a d r} (h:F8 a d=some r):Pure prog 88 [.s (mI a),.s (mI d),.c (.func 85) [] []] (vb r):=by
 refine pq tok 32 func88 ?_;unfold F8 at h;refine sg (sq (sg ?_));refine ⟨_,ax _,fun _=>⟨_,ax _,fun _=>?_⟩⟩;refine ct h (fun hb h=>?_) fun hb h=>?_
 ·refine sg (rt ?_);cases h;exact Fz.v
 refine sk (Ok.eC (fun v1=>⟨aq [],[]⟩) (fun v1=>P' v1=some r) ?_ ?_)
 ·refine sg ⟨_,ax _,fun _=>?_⟩;refine bl (Ok.loop (fun (s1:Int)=>⟨aq [(1,.s (mI d)),(2,.c (.func 85) [] []),(15,.s (mI a)),(16,vi (a.length:Int)),(17,vi s1)],[]⟩) (F9 a d) (s0:=0) h (wt Q5 Q0 rfl) ?_);intro s1 y1 ζ aL;unfold F9 at ζ;refine sg (sq (ct ζ (fun hb ζ=>?_) fun hb ζ=>?_))
  ·refine sk (sq (bl (sg ?_)));have ⟨x1,Θ,ζ⟩:=ι ζ;refine ⟨_,bq Θ,_,br Θ,_,rfl,_,rfl,?_⟩;refine sg ?_;have ⟨x2,ak,ζ⟩:=ι ζ;refine ⟨_,bq ak,_,br ak,_,rfl,_,rfl,?_⟩;refine sg ?_;have ⟨x3,aK,ζ⟩:=ι ζ;refine ⟨_,rfl,_,rfl,?_⟩;refine ae.call (aj3 aK) lz ?_;refine ct ζ (fun hb ζ=>?_) fun hb ζ=>?_
   ·refine sg (rt ?_);have ζ:=bd ζ aL;cases ζ;exact Fz.v
   refine sk (rg ?_);have ⟨ar,ζ⟩:=aC ζ;refine (ψ ⟨ar,?_⟩);exact ⟨_,sj ζ,wt Q5 Q0 rfl⟩
  refine xt ?_;have ζ:=bd ζ aL;exact ⟨_,ζ,wt Q0 Q0 rfl⟩
 intro v1 h;unfold P' at h;refine sg (rt ?_);cases h;exact Fz.v
def Rb {d e r} (h:vv d e=some r):Pure prog 40 [.a (b0 d),.a (b0 e)] (vb r):=by
 refine pq tok 26 func40 ?_;unfold vv at h;refine sg (sg ?_);have ⟨v1,ν,h⟩:=ι h;refine Ok.bg ⟨aq [(4,vb v1)],[]⟩ ?_ ?_
 ·refine rg ⟨_,rfl,_,rfl,?_⟩;have ⟨c1,Δ,ν⟩:=ι ν;refine Br.ite Δ (fun hb Δ=>?_) fun hb Δ=>?_
  ·refine ⟨_,rfl,_,rfl,?_⟩;cases Δ;have ⟨c2,aF,ν⟩:=ι ν;refine Br.ite aF (fun hb aF=>?_) fun hb aF=>?_
   ·have ⟨x1,Θ,aF⟩:=ι aF;refine ⟨_,rfl,_,rfl,?_⟩;refine ae.call (ajG Θ) lz ?_;cases aF;cases ν;exact wt Q1 Q0 rfl
   cases aF;cases ν;exact wt Q1 Q0 rfl
  cases Δ;have ⟨c2,aM,ν⟩:=ι ν;replace aM:=cL aM;cases aM;cases ν;exact wt Q1 Q0 rfl
 refine rt ?_;cases h;exact Fz.v
def akL {a r} (h:FZ a=some r):iN prog 205 [.s (mC a)] 98 8 (mC r):=by
 refine pv tok 8 func205 ?_;unfold FZ at h;refine sg (sq (sg ?_));intro b1 cT;have h:=yb h b1 (fun e=>List.map_eq_nil_iff.1 (cT e));refine ct h (fun hb h=>?_) fun hb h=>?_
 ·refine sg (rt ?_);cases h;exact (.inl ⟨rfl,rfl⟩)
 refine sk (sg ?_);have ⟨ar,h⟩:=aC h;refine bV ⟨gy (f:=sx) (n:=8) (fun _=>rfl) a,gQ (f:=sx) (l:=([]:List bp)) (l':=a) ar,_,(eI (f:=sx) (l₁:=([]:List bp)) (l₂:=a)).symm,?_⟩;refine rt ?_;cases h;exact (.inr ⟨_,rfl,rfl⟩)
def Y_ {c d r} (h:Cj c d=some r):Pure prog 254 [.a (b4 c),vi d] (vi r):=by
 refine pq tok 9 func254 ?_;unfold Cj at h;refine sg (sg ?_);have ⟨x1,Θ,h⟩:=ι h;refine ⟨_,rfl,?_⟩;refine ae.call (Al Θ) lz ?_;refine rt ?_;cases h;exact Fz.v
def ajA {a b r} (h:Cp a b=some r):Pure prog 253 [.s (mI a),vi b,.c (.func 254) [] []] (.t [vi r.1,vb r.2]):=by
 refine pq tok 49 func253 ?_;unfold Cp at h;refine sg (sg ⟨_,ax _,fun _=>?_⟩);refine sg ?_;have ⟨v1,ν,h⟩:=ι h;refine Ok.bg ⟨aq [(0,.s (mI a)),(1,vi b),(2,.c (.func 254) [] []),(8,vi (a.length:Int)),(9,vi v1)],[]⟩ ?_ ?_
 ·refine bl (Ok.loop (fun (s1:Int×Int)=>⟨aq [(0,.s (mI a)),(1,vi b),(2,.c (.func 254) [] []),(8,vi (a.length:Int)),(9,vi s1.1),(10,vi s1.2)],[]⟩) (Ks a b) (s0:=(0,(a.length:Int))) ν (wt Q6 Q0 rfl) ?_);intro s1 y1 ζ aL;unfold Ks at ζ;refine sq (sg ?_);refine ct ζ (fun hb ζ=>?_) fun hb ζ=>?_
  ·refine sk (bl (sg ?_));have ⟨ar,ζ⟩:=aC ζ;refine (ψ ⟨ar,_,rfl,(by decide),_,rfl,_,rfl,?_⟩);refine sg ?_;have ⟨x1,Θ,ζ⟩:=ι ζ;have ⟨x2,ak,ζ⟩:=ι ζ;refine ⟨_,bq Θ,_,br Θ,_,rfl,?_⟩;refine ae.call (Y_ ak) lz ?_;refine ct ζ (fun hb ζ=>?_) fun hb ζ=>?_
   ·refine rg ?_;have ⟨bu,ζ⟩:=aC ζ;refine (ψ ⟨bu,?_⟩);exact ⟨_,sj ζ,wt Q6 Q0 rfl⟩
   refine rg ?_;exact ⟨_,sj ζ,wt Q6 Q0 rfl⟩
  refine xt ?_;have ζ:=bd ζ aL;cases ζ;exact wt Q5 Q0 rfl
 have ⟨v2,aw,h⟩:=ι h;refine Ok.bg ⟨aq [(6,vi v1),(7,vb v2)],[]⟩ ?_ ?_
 ·refine rg ?_;have ⟨c1,Δ,aw⟩:=ι aw;refine Br.ite Δ (fun hb Δ=>?_) fun hb Δ=>?_
  ·have ⟨x3,aK,Δ⟩:=ι Δ;have ⟨x4,bn,Δ⟩:=ι Δ;refine ⟨_,bq aK,_,br aK,_,rfl,?_⟩;refine ae.call (Y_ bn) lz ?_;cases Δ;cases aw;exact wt Q2 Q0 rfl
  cases Δ;cases aw;exact wt Q2 Q0 rfl
 refine rt ?_;cases h;exact (Fz.t fq)
def Y9 {a b r} (h:Ci a b=some r):Pure prog 206 [.s (mI a),vi b] (vi r):=by
 refine pq tok 16 func206 ?_;unfold Ci at h;refine sg (sg ?_);have ⟨x1,Θ,h⟩:=ι h;refine ae.call (ajA Θ) lz ?_;refine sq (sg ?_);refine ct h (fun hb h=>?_) fun hb h=>?_
 ·refine sg (rt ?_);cases h;exact Fz.v
 refine sk (sg ?_);refine rt ?_;cases h;exact Fz.v
def Y' {c d r} (h:Cl c d=some r):Pure prog 207 [.a (b4 c),.a (b4 d)] (vb r):=by
 refine pq tok 47 func207 ?_;unfold Cl at h;refine sg ?_;have ⟨v1,ν,h⟩:=ι h;refine Ok.bg ⟨aq [(4,vb v1)],[]⟩ ?_ ?_
 ·refine rg ⟨_,rfl,_,rfl,?_⟩;have ⟨c1,Δ,ν⟩:=ι ν;refine Br.ite Δ (fun hb Δ=>?_) fun hb Δ=>?_
  ·refine ⟨_,rfl,_,rfl,?_⟩;cases Δ;have ⟨c2,aF,ν⟩:=ι ν;refine Br.ite aF (fun hb aF=>?_) fun hb aF=>?_
   ·refine ⟨_,rfl,_,rfl,?_⟩;cases aF;have ⟨c3,aM,ν⟩:=ι ν;refine Br.ite aM (fun hb aM=>?_) fun hb aM=>?_
    ·refine ⟨_,rfl,_,rfl,?_⟩;cases aM;have ⟨c4,cC,ν⟩:=ι ν;refine Br.ite cC (fun hb cC=>?_) fun hb cC=>?_
     ·refine ⟨_,rfl,_,rfl,_,rfl,_,rfl,_,tT _ _,?_⟩;cases cC;have ⟨c5,cU,ν⟩:=ι ν;refine Br.ite cU (fun hb cU=>?_) fun hb cU=>?_
      ·have ⟨x1,Θ,cU⟩:=ι cU;refine ⟨_,rfl,_,rfl,?_⟩;refine ae.call (Zb Θ) lz ?_;cases cU;cases ν;exact wt Q1 Q0 rfl
      cases cU;cases ν;exact wt Q1 Q0 rfl
     cases cC;have ⟨c5,dA,ν⟩:=ι ν;replace dA:=cL dA;cases dA;cases ν;exact wt Q1 Q0 rfl
    cases aM;have ⟨c4,et,ν⟩:=ι ν;replace et:=cL et;cases et;have ⟨c5,fa,ν⟩:=ι ν;replace fa:=cL fa;cases fa;cases ν;exact wt Q1 Q0 rfl
   cases aF;have ⟨c3,gb,ν⟩:=ι ν;replace gb:=cL gb;cases gb;have ⟨c4,eS,ν⟩:=ι ν;replace eS:=cL eS;cases eS;have ⟨c5,gG,ν⟩:=ι ν;replace gG:=cL gG;cases gG;cases ν;exact wt Q1 Q0 rfl
  cases Δ;have ⟨c2,gH,ν⟩:=ι ν;replace gH:=cL gH;cases gH;have ⟨c3,iC,ν⟩:=ι ν;replace iC:=cL iC;cases iC;have ⟨c4,ji,ν⟩:=ι ν;replace ji:=cL ji;cases ji;have ⟨c5,iD,ν⟩:=ι ν;replace iD:=cL iD;cases iD;cases ν;exact wt Q1 Q0 rfl
 refine rt ?_;cases h;exact Fz.v
def ajx {c d e r} (h:Kn c d e=some r):Pure prog 256 [.a (b9 c),.p [vi d],.p [vi e]] (vb r):=by
 refine pq tok 15 func256 ?_;unfold Kn at h;refine sg ?_;have ⟨v1,ν,h⟩:=ι h;refine Ok.bg ⟨aq [(4,vb v1)],[]⟩ ?_ ?_
 ·refine rg ⟨_,rfl,_,rfl,?_⟩;have ⟨c1,Δ,ν⟩:=ι ν;refine Br.ite Δ (fun hb Δ=>?_) fun hb Δ=>?_
  ·refine ⟨_,rfl,_,rfl,?_⟩;cases Δ;cases ν;exact wt Q1 Q0 rfl
  cases Δ;cases ν;exact wt Q1 Q0 rfl
 refine rt ?_;cases h;exact Fz.v
def ajR {a b d r} (h:KH a b d=some r):Pure prog 291 [.s (mA a),.c (.func 256) [] [.p [vi b],.p [vi d]]] (vi r):=by
 refine pq tok 19 func291 ?_;unfold KH at h;refine sg (Ok.eC (fun v1=>⟨aq [],[]⟩) (fun v1=>Qr v1=some r) ?_ ?_)
 ·refine sg ⟨_,ax _,fun _=>?_⟩;refine bl (Ok.loop (fun (s1:Int)=>⟨aq [(0,.s (mA a)),(1,.c (.func 256) [] [.p [vi b],.p [vi d]]),(7,vi (a.length:Int)),(8,vi s1)],[]⟩) (Gl a b d) (s0:=0) h (wt Q4 Q0 rfl) ?_);intro s1 y1 ζ aL;unfold Gl at ζ;refine sg (sq (ct ζ (fun hb ζ=>?_) fun hb ζ=>?_))
  ·refine sk (sq (bl (sg ?_)));refine sg ?_;have ⟨x1,Θ,ζ⟩:=ι ζ;have ⟨x2,ak,ζ⟩:=ι ζ;refine ⟨_,bq Θ,_,br Θ,_,rfl,?_⟩;refine ae.call (ajx ak) lz ?_;refine ct ζ (fun hb ζ=>?_) fun hb ζ=>?_
   ·refine sg (rt ?_);have ζ:=bd ζ aL;cases ζ;exact Fz.v
   refine sk (rg ?_);have ⟨ar,ζ⟩:=aC ζ;refine (ψ ⟨ar,?_⟩);exact ⟨_,sj ζ,wt Q4 Q0 rfl⟩
  refine xt ?_;have ζ:=bd ζ aL;exact ⟨_,ζ,wt Q0 Q0 rfl⟩
 intro v1 h;unfold Qr at h;refine sg (rt ?_);cases h;exact Fz.v
def ajF {a b d r} (h:Kv a b d=some r):Pure prog 255 [.s (mA a),.c (.func 256) [] [.p [vi b],.p [vi d]]] (vb r):=by
 refine pq tok 9 func255 ?_;unfold Kv at h;refine sg (sg ?_);have ⟨x1,Θ,h⟩:=ι h;refine ae.call (ajR Θ) lz ?_;refine rt ?_;cases h;exact Fz.v
def Ra {a d e r} (h:Cm a d e=some r):Pure prog 208 (k14 a d e) (vb r):=by
 refine pq tok 10 func208 ?_;unfold Cm at h;refine sg (sg ?_);have ⟨x1,Θ,h⟩:=ι h;refine ae.borrow (ajF Θ) (.cons Fz.s (.cons (Fz.c .nil (.cons (Fz.b rfl rfl) (.cons (Fz.b rfl rfl) .nil))) .nil)) rfl ?_;refine rt ?_;cases h;exact Fz.v
def Q_ {c d r} (h:tK c d=some r):Pure prog 126 [.a (b1 c),.a (b0 d)] (.a (b1 r)):=by
 refine pq tok 123 func126 ?_;unfold tK at h;refine sg (sq (sg ?_));have ⟨x1,Θ,h⟩:=ι h;refine ⟨_,rfl,_,rfl,?_⟩;refine ae.call (Rb Θ) lz ?_;refine wT [(2,.b 2 0),(3,.b 3 0),(4,.b 4 0),(16,vb x1)] [(2,.box (b1 c)),(3,.box (b0 d)),(4,.box (k3 0 0 0 0))] Q4 J3 rfl ?_;refine ct h (fun hb h=>?_) fun hb h=>?_
 ·refine sg ⟨_,rfl,_,rfl,?_⟩;refine rt ?_;cases h;exact ⟨_,rfl,Fz.dL rfl⟩
 refine sk (sq ?_);have ⟨ar,h⟩:=aC h;have ⟨x2,ak,h⟩:=ι h;refine Ok.draw (m:=13) (MD:=⟨[24]⟩) (CH:=⟨[(24,.own 98 8 (mC x2))]⟩) tok mixed (by kernel_rfl) ?_;refine ⟨_,⟨_,rfl,rfl⟩,_,rfl,_,⟨_,rfl,rfl⟩,_,ψ ⟨ar,rfl⟩,_,rfl,_,⟨_,rfl,rfl⟩,_,rfl,_,⟨_,rfl,rfl⟩,_,rfl,_,⟨_,rfl,rfl⟩,_,rfl,⟨⟨_,(akL ak).makes,lz⟩,Q0⟩,_,rfl,?_⟩;have ⟨v1,ν,h⟩:=ι h;refine Ok.bg ⟨aq [(2,.b 2 0),(3,.b 3 0),(4,.b 4 0),(5,.b 5 0)],[(2,.box (b1 c)),(3,.box (b0 d)),(4,.box (k3 0 0 0 0)),(5,.box [.s (mI d.η),vi d.Next,vi d.aj,vi (c.aY+1),zs,.o 24,.s (mA c.aR),vi c.Next]),(24,.own 98 8 (mC v1))]⟩ ?_ ?_
 ·refine sg ⟨_,rfl,_,ax _,fun _=>?_⟩;refine bl (Ok.loop (fun (s1:Int×(List bp))=>⟨aq [(2,.b 2 0),(3,.b 3 0),(4,.b 4 0),(5,.b 5 0),(32,.s (mI c.Γ.η)),(33,vi (c.Γ.η.length:Int)),(34,vi s1.1)],[(2,.box (b1 c)),(3,.box (b0 d)),(4,.box (k3 0 0 0 0)),(5,.box [.s (mI d.η),vi d.Next,vi d.aj,vi (c.aY+1),zs,.o 24,.s (mA c.aR),vi c.Next]),(24,.own 98 8 (mC s1.2))]⟩) (FM c d) (s0:=(0,x2)) ν (wt Q7 ⟨⟨_,rfl,.refl _⟩,⟨_,rfl,.refl _⟩,⟨_,rfl,.refl _⟩,⟨_,rfl,.refl _⟩,⟨_,rfl,.refl _⟩,Q0⟩ rfl) ?_);intro s1 y1 ζ aL;unfold FM at ζ;refine sg (sq (ct ζ (fun hb ζ=>?_) fun hb ζ=>?_))
  ·refine sk ?_;have ⟨v2,aw,ζ⟩:=ι ζ;refine Ok.bg ⟨aq [(2,.b 2 0),(3,.b 3 0),(4,.b 4 0),(5,.b 5 0),(32,.s (mI c.Γ.η)),(33,vi (c.Γ.η.length:Int)),(34,vi s1.1)],[(2,.box (b1 c)),(3,.box (b0 d)),(4,.box (k3 0 0 0 0)),(5,.box [.s (mI d.η),vi d.Next,vi d.aj,vi (c.aY+1),zs,.o 24,.s (mA c.aR),vi c.Next]),(24,.own 98 8 (mC v2))]⟩ ?_ ?_
   ·refine bl (sg ?_);have ⟨x3,aK,aw⟩:=ι aw;refine ⟨_,bq aK,_,br aK,_,rfl,_,rfl,?_⟩;refine sg ?_;have ⟨x4,bn,aw⟩:=ι aw;refine ⟨_,rfl,_,rfl,?_⟩;refine ae.call (Y9 bn) lz ?_;have ⟨v3,dy,aw⟩:=ι aw;refine Ok.bg ⟨aq [(2,.b 2 0),(3,.b 3 0),(4,.b 4 0),(5,.b 5 0),(6,vi s1.1),(7,.b 7 0),(32,.s (mI c.Γ.η)),(33,vi (c.Γ.η.length:Int)),(34,vi s1.1),(67,vb v3)],[(2,.box (b1 c)),(3,.box (b0 d)),(4,.box (k3 0 0 0 0)),(5,.box [.s (mI d.η),vi d.Next,vi d.aj,vi (c.aY+1),zs,.o 24,.s (mA c.aR),vi c.Next]),(24,.own 98 8 (mC s1.2)),(7,.box (b4 x3))]⟩ ?_ ?_
    ·refine dw 24 tok mixed ⟨_,rfl,_,rfl,_,rfl,?_⟩;have ⟨c1,Δ,dy⟩:=ι dy;refine Br.eh Δ (fun hb Δ=>?_) fun hb Δ=>?_
     ·cases Δ;refine ⟨_,rfl,?_⟩;refine ⟨_,rfl,?_⟩;have ⟨c2,aF,dy⟩:=ι dy;replace aF:=ee aF;have ⟨x7,gg,aF⟩:=ι aF;have ⟨x8,jl,aF⟩:=ι aF;refine ⟨_,rfl,_,⟨_,rfl,rfl⟩,_,rfl,_,⟨_,rfl,rfl⟩,_,rfl,_,⟨_,bq gg,_,br gg,rfl⟩,_,⟨_,rfl,rfl⟩,_,rfl,_,⟨_,rfl,rfl⟩,_,⟨_,.fC (Ra jl) lz,rfl⟩,?_⟩;cases aF;refine ⟨_,rfl,?_⟩;refine ⟨Q0,?_⟩;cases dy;exact wt ⟨lr,lr,Q8⟩ ⟨hr,hr,J4⟩ rfl
     have ⟨x5,dr,Δ⟩:=ι Δ;have ⟨x6,gw,Δ⟩:=ι Δ;refine ⟨_,⟨_,rfl,rfl⟩,_,rfl,_,⟨_,rfl,rfl⟩,_,rfl,_,⟨_,bq dr,_,br dr,rfl⟩,_,⟨_,rfl,rfl⟩,_,⟨_,.fC (Y' gw) lz,rfl⟩,_,rfl,?_⟩;cases Δ;refine ⟨_,rfl,?_⟩;refine ⟨_,rfl,?_⟩;have ⟨c2,aM,dy⟩:=ι dy;refine Br.ite aM (fun hb aM=>?_) fun hb aM=>?_
     ·have ⟨x7,gg,aM⟩:=ι aM;have ⟨x8,jl,aM⟩:=ι aM;refine ⟨_,rfl,_,⟨_,rfl,rfl⟩,_,rfl,_,⟨_,rfl,rfl⟩,_,rfl,_,⟨_,bq gg,_,br gg,rfl⟩,_,⟨_,rfl,rfl⟩,_,rfl,_,⟨_,rfl,rfl⟩,_,⟨_,.fC (Ra jl) lz,rfl⟩,?_⟩;cases aM;refine ⟨_,rfl,?_⟩;refine ⟨Q0,?_⟩;cases dy;exact wt ⟨lr,lr,Q8⟩ ⟨hr,hr,J4⟩ rfl
     cases aM;refine ⟨_,rfl,?_⟩;refine ⟨Q0,?_⟩;cases dy;exact wt ⟨lr,lr,Q8⟩ ⟨hr,hr,J4⟩ rfl
    refine ct aw (fun hb aw=>?_) fun hb aw=>?_
    ·refine dw 12 tok mixed ?_;have ⟨x9,jV,aw⟩:=ι aw;have ⟨bu,aw⟩:=aC aw;refine ⟨_,rfl,_,⟨_,rfl,rfl⟩,_,rfl,_,⟨_,rfl,rfl⟩,_,rfl,_,⟨_,bq jV,_,br jV,rfl⟩,_,⟨_,rfl,rfl⟩,_,rfl,_,⟨_,rfl,rfl⟩,_,⟨_,rfl,rfl⟩,_,rfl,_,rfl,Q0,gy (f:=sx) (n:=8) (fun _=>rfl) ([(⟨x9,c.aY+1,x3⟩:bp)]),gQ (f:=sx) (l:=s1.2) (l':=[(⟨x9,c.aY+1,x3⟩:bp)]) bu,_,(eI (f:=sx) (l₁:=s1.2) (l₂:=[(⟨x9,c.aY+1,x3⟩:bp)])).symm,_,rfl,?_⟩;cases aw;exact wt Q7 ⟨hr,J4⟩ rfl
    refine sk ?_;cases aw;exact wt Q7 ⟨hr,J4⟩ rfl
   refine rg ?_;have ⟨dU,ζ⟩:=aC ζ;refine (ψ ⟨dU,?_⟩);exact ⟨_,sj ζ,wt Q7 ⟨hr,J4⟩ rfl⟩
  refine xt ?_;have ζ:=bd ζ aL;cases ζ;exact wt Q4 ⟨hr,J4⟩ rfl
 have ⟨v4,jj,h⟩:=ι h;refine Ok.bg ⟨aq [(4,.b 4 0),(5,.b 5 0)],[(4,.box (k3 0 0 0 0)),(5,.box [.s (mI d.η),vi d.Next,vi d.aj,vi (c.aY+1),.o 119,.o 24,.s (mA c.aR),vi c.Next]),(119,.own 3 1 (mB v4)),(24,.own 98 8 (mC v1))]⟩ ?_ ?_
 ·refine sg ⟨_,rfl,_,ax _,fun _=>?_⟩;refine bl (Ok.loop (fun (s2:Int×(List Int))=>⟨aq [(2,.b 2 0),(4,.b 4 0),(5,.b 5 0),(84,.s (mI d.η)),(85,vi (d.η.length:Int)),(86,vi s2.1)],[(2,.box (b1 c)),(4,.box (k3 0 0 0 0)),(5,.box [.s (mI d.η),vi d.Next,vi d.aj,vi (c.aY+1),.o 119,.o 24,.s (mA c.aR),vi c.Next]),(119,.own 3 1 (mB s2.2)),(24,.own 98 8 (mC v1))]⟩) (FN d c) (s0:=(0,[])) jj ((Wk.Fh (b:=5) (q:=4) (id:=119) (E:=3) (K:=1) rfl rfl rfl).trans (wt Q6 ⟨⟨_,rfl,.refl _⟩,⟨_,rfl,.refl _⟩,⟨_,rfl,.refl _⟩,⟨_,rfl,.refl _⟩,⟨_,rfl,.refl _⟩,Q0⟩ rfl)) ?_);intro s2 y2 aD hZ;unfold FN at aD;refine sg (sq (ct aD (fun hb aD=>?_) fun hb aD=>?_))
  ·refine sk (sq (bl (sg ?_)));have ⟨fV,qq,aD⟩:=ι aD;refine ⟨_,bq qq,_,br qq,_,rfl,_,rfl,?_⟩;refine sg ⟨_,rfl,?_⟩;have ⟨v5,eA,aD⟩:=ι aD;refine Ok.bg ⟨aq [(2,.b 2 0),(4,.b 4 0),(5,.b 5 0),(11,vi v5),(84,.s (mI d.η)),(85,vi (d.η.length:Int)),(86,vi s2.1)],[(2,.box (b1 c)),(4,.box (k3 0 0 0 0)),(5,.box [.s (mI d.η),vi d.Next,vi d.aj,vi (c.aY+1),.o 119,.o 24,.s (mA c.aR),vi c.Next]),(119,.own 3 1 (mB s2.2)),(24,.own 98 8 (mC v1))]⟩ ?_ ?_
   ·refine sg ?_;have ⟨iX,oN,eA⟩:=ι eA;refine ⟨_,rfl,_,rfl,?_⟩;refine ae.call (Y9 oN) lz ?_;have ⟨v6,oK,eA⟩:=ι eA;refine Ok.bg ⟨aq [(2,.b 2 0),(4,.b 4 0),(5,.b 5 0),(11,vi (c.aY+1)),(12,vi iX),(84,.s (mI d.η)),(85,vi (d.η.length:Int)),(86,vi s2.1),(109,vb v6)],[(2,.box (b1 c)),(4,.box (k3 0 0 0 0)),(5,.box [.s (mI d.η),vi d.Next,vi d.aj,vi (c.aY+1),.o 119,.o 24,.s (mA c.aR),vi c.Next]),(119,.own 3 1 (mB s2.2)),(24,.own 98 8 (mC v1))]⟩ ?_ ?_
    ·refine dw 12 tok mixed ⟨_,rfl,_,rfl,_,rfl,?_⟩;have ⟨c3,cC,oK⟩:=ι oK;refine Br.ite cC (fun hb cC=>?_) fun hb cC=>?_
     ·have ⟨fE,oO,cC⟩:=ι cC;have ⟨nk,uV,cC⟩:=ι cC;refine ⟨_,⟨_,rfl,rfl⟩,_,rfl,_,rfl,_,⟨_,rfl,rfl⟩,_,rfl,_,⟨_,bq oO,_,br oO,rfl⟩,_,⟨_,rfl,rfl⟩,_,⟨_,.fC (Y' uV) lz,rfl⟩,?_⟩;cases cC;refine ⟨_,rfl,?_⟩;refine ⟨Q0,?_⟩;cases oK;exact wt ⟨lr,Q8⟩ ⟨hr,J4⟩ rfl
     cases cC;refine ⟨_,rfl,?_⟩;refine ⟨Q0,?_⟩;cases oK;exact wt ⟨lr,Q8⟩ ⟨hr,J4⟩ rfl
    refine ct eA (fun hb eA=>?_) fun hb eA=>?_
    ·refine rg ?_;have ⟨nn,s7,eA⟩:=ι eA;refine ⟨_,rfl,_,bq s7,_,br s7,_,rfl,?_⟩;cases eA;exact wt Q7 ⟨hr,J4⟩ rfl
    refine sk ?_;cases eA;exact wt Q7 ⟨hr,J4⟩ rfl
   refine rg ?_;have ⟨kT,aD⟩:=aC aD;refine ⟨_,rfl,ψ ⟨gy (f:=Go.Cat.encI) (n:=1) (fun _=>rfl) ([v5]),gQ (f:=Go.Cat.encI) (l:=s2.2) (l':=[v5]) kT,_,(eI (f:=Go.Cat.encI) (l₁:=s2.2) (l₂:=[v5])).symm,_,rfl,?_⟩⟩;refine rg ?_;have ⟨qh,aD⟩:=aC aD;refine (ψ ⟨qh,?_⟩);exact ⟨_,sj aD,wt Q6 ⟨hr,J4⟩ rfl⟩
  refine xt ?_;have aD:=bd aD hZ;cases aD;exact wt Q2 J4 rfl
 refine sg ⟨_,rfl,_,rfl,?_⟩;refine rt ?_;cases h;exact ⟨_,rfl,Fz.a (.cons Fz.s (.cons Fz.v (.cons Fz.v (.cons Fz.v (.cons (Fz.o rfl) (.cons (Fz.o rfl) (.cons Fz.s fq)))))))⟩
def An {P R e f g i j k l u d O w z A B C E F G I J K L N} {q:Int⊕(pS)} (h:qe P R e f g i j k l u d O w z A B C E F G I J K L N=some q):fM prog bf 116 [.b 1000 0,.a (b0 P),.s (mD R)] ⟨aG,[(1000,.box (cV e f g i j k l u d O w z A B C E F G I J K L N))]⟩ (fun x s=>∃y:pS,q=.inr y∧x=(.t [])∧s.H=[(1000,.box [.s (mI y.1),vi y.2.1,vi y.2.2.1,vi y.2.2.2.1,.s (mB y.2.2.2.2.1),.s (mC y.2.2.2.2.2.1),.s (mA y.2.2.2.2.2.2.1),vi y.2.2.2.2.2.2.2.1,.s (mE d),.o 35,vi w,vi z,vs A,vs B,vi C,vi E,vi F,.s (mU G),vi I,vi J,vi K,vi L,vi N,zs,zs]),(35,.own 86 3 (mD (t8 y)))]) fun m s=>q=.inl m∧s.H=[]:=by
 refine px tok 83 func116 ?_;unfold qe at h;refine sg ?_;have ⟨v1,ν,h⟩:=ι h;refine Ok.bg ⟨aq [(0,.b 1000 0),(2,.s (mD R)),(4,.b 4 0)],[(1000,.box (cV e f g i j k l u d O w z A B C E F G I J K L N)),(4,.box (k0 v1.1 v1.2.1 v1.2.2))]⟩ ?_ ?_
 ·refine sg ?_;have ⟨x1,Θ,ν⟩:=ι ν;refine ⟨_,rfl,?_⟩;refine ae.call (ai4 Θ) lz ?_;refine ⟨_,ax _,fun _=>?_⟩;refine bl (Ok.loop (fun (s1:Int×fU)=>⟨aq [(0,.b 1000 0),(2,.s (mD R)),(4,.b 4 0),(13,.s (mB x1)),(14,vi (x1.length:Int)),(15,vi s1.1)],[(1000,.box (cV e f g i j k l u d O w z A B C E F G I J K L N)),(4,.box (k0 s1.2.1 s1.2.2.1 s1.2.2.2))]⟩) (Ij x1 d) (s0:=(0,P.η,P.Next,P.aj)) ν (wt Q6 ⟨hr,hr,Q0⟩ rfl) ?_);intro s1 y1 ζ aL;unfold Ij at ζ;refine sg (sq (ct ζ (fun hb ζ=>?_) fun hb ζ=>?_))
  ·refine sk ?_;have ⟨v2,aw,ζ⟩:=ι ζ;refine Ok.bg ⟨aq [(0,.b 1000 0),(2,.s (mD R)),(4,.b 4 0),(13,.s (mB x1)),(14,vi (x1.length:Int)),(15,vi s1.1)],[(1000,.box (cV e f g i j k l u d O w z A B C E F G I J K L N)),(4,.box (k0 v2.1 v2.2.1 v2.2.2))]⟩ ?_ ?_
   ·refine bl (sg ?_);have ⟨x2,ak,aw⟩:=ι aw;refine ⟨_,bq ak,_,br ak,_,rfl,_,rfl,?_⟩;refine sg ?_;have ⟨x3,aK,aw⟩:=ι aw;refine ⟨_,rfl,?_⟩;refine ae.borrow (ajD aK) (.cons Fz.s (.cons (Fz.c .nil (.cons (Fz.b rfl rfl) .nil)) .nil)) rfl ?_;refine ct aw (fun hb aw=>?_) fun hb aw=>?_
    ·refine rg ?_;have ⟨x4,bn,aw⟩:=ι aw;refine ⟨_,rfl,_,rfl,?_⟩;refine ae.call (Ze bn) lz ?_;refine ⟨_,rfl,?_⟩;cases aw;exact wt Q6 J2 rfl
    refine sk ?_;cases aw;exact wt Q6 J2 rfl
   refine rg ?_;have ⟨ar,ζ⟩:=aC ζ;refine (ψ ⟨ar,?_⟩);exact ⟨_,sj ζ,wt Q6 J2 rfl⟩
  refine xt ?_;have ζ:=bd ζ aL;cases ζ;exact wt Q3 J2 rfl
 refine sg ?_;have ⟨x5,dr,h⟩:=ι h;refine ae.own (D:=35) (Ld dr) lz rfl ?_;have ⟨x6,gw,h⟩:=ι h;refine cg [(1000,35),(1001,4)] [(999,35)] (akz gw) (.cons (Ln.o rfl) (.cons (Ln.c .nil (.cons (Ln.b rfl) .nil)) .nil)) ⟨⟨35,_,rfl,rfl,.refl rfl⟩,⟨4,_,rfl,rfl,.box nq⟩,Q0⟩ ?_;refine sq (Ok.cY bf tok ?_);have ⟨x7,gg,h⟩:=ι h;refine ψ (⟨_,rfl,ψ ?_⟩);refine ψ (ae.borrow (aiW gg) (.cons (Fz.a (.cons Fz.s fq)) (.cons (Fz.o rfl) .nil)) rfl ?_);have ⟨x8,jl,h⟩:=ι h;refine bV (cx [] [] (pV jl) nq Q0 (fun e1 bE=>?_) (fun y2 c_=>?_))
 ·have h:=cu h bE;cases h;exact ⟨_,rfl,rfl⟩
 have h:=cw h c_;refine Ok.eC (fun v3=>⟨aq [(0,.b 1000 0),(2,.o 35),(4,.b 4 0)],[(1000,.box (cV e f g i j k l u d O w z A B C E F G I J K L N)),(35,.own 86 3 (mD x6)),(4,.box (k0 ((⟨v1.1,v1.2.1,v1.2.2⟩:θ).η) ((⟨v1.1,v1.2.1,v1.2.2⟩:θ).Next) ((⟨v1.1,v1.2.1,v1.2.2⟩:θ).aj)))]⟩) (fun v3=>Il e f g i j k l u v1 x6 v3=some q) ?_ ?_
 ·refine sg ⟨_,ax _,fun _=>?_⟩;refine bl (Ok.loop (fun (s2:Int)=>⟨aq [(0,.b 1000 0),(2,.o 35),(4,.b 4 0),(42,.o 35),(43,vi (x6.length:Int)),(44,vi s2)],[(1000,.box (cV e f g i j k l u d O w z A B C E F G I J K L N)),(35,.own 86 3 (mD x6)),(4,.box (k0 ((⟨v1.1,v1.2.1,v1.2.2⟩:θ).η) ((⟨v1.1,v1.2.1,v1.2.2⟩:θ).Next) ((⟨v1.1,v1.2.1,v1.2.2⟩:θ).aj)))]⟩) (Ik x6 v1 e f g i j k l u) (s0:=0) h (wt Q6 ⟨hr,hr,hr,Q0⟩ rfl) ?_);intro s2 y3 aD hZ;unfold Ik at aD;refine sg (sq (ct aD (fun hb aD=>?_) fun hb aD=>?_))
  ·refine sk (Ok.eC (fun v4=>⟨aq [(0,.b 1000 0),(2,.o 35),(4,.b 4 0),(42,.o 35),(43,vi (x6.length:Int)),(44,vi s2)],[(1000,.box (cV e f g i j k l u d O w z A B C E F G I J K L N)),(35,.own 86 3 (mD x6)),(4,.box (k0 ((⟨v1.1,v1.2.1,v1.2.2⟩:θ).η) ((⟨v1.1,v1.2.1,v1.2.2⟩:θ).Next) ((⟨v1.1,v1.2.1,v1.2.2⟩:θ).aj)))]⟩) (fun v4=>Im s2 v4=some y3) ?_ ?_)
   ·refine bl (sg ?_);have ⟨x9,jV,aD⟩:=ι aD;refine ⟨_,bq jV,wX jV,_,br jV,rfl,_,rfl,_,rfl,?_⟩;refine sg ?_;have ⟨fV,qq,aD⟩:=ι aD;refine ⟨_,rfl,_,rfl,?_⟩;refine ae.call (Y3 qq) lz ?_;refine Ok.cY bf tok (ψ (ψ (ψ (⟨_,rfl,ψ (ψ ?_)⟩))));have ⟨c1,Δ,aD⟩:=ι aD;refine Br.ite Δ (fun hb Δ=>?_) fun hb Δ=>?_
    ·refine ψ (ψ (ψ (⟨_,rfl,ψ ?_⟩)));cases Δ;refine ψ ?_;have ⟨iX,oN,aD⟩:=ι aD;refine bV (cx [] [] (pV oN) nq Q0 (fun e2 dV=>?_) (fun y4 ew=>?_))
     ·have aD:=cu aD dV;have aD:=bd aD hZ;cases aD;exact ⟨_,rfl,rfl⟩
     have aD:=cw aD ew;exact ⟨_,aD,wt Q6 ⟨hr,hr,hr,Q0⟩ rfl⟩
    cases Δ;refine ψ ?_;have ⟨iX,oN,aD⟩:=ι aD;refine bV (cx [] [] (pV oN) nq Q0 (fun e2 dV=>?_) (fun y4 ew=>?_))
    ·have aD:=cu aD dV;have aD:=bd aD hZ;cases aD;exact ⟨_,rfl,rfl⟩
    have aD:=cw aD ew;exact ⟨_,aD,wt Q6 ⟨hr,hr,hr,Q0⟩ rfl⟩
   intro v4 aD;unfold Im at aD;refine rg ?_;have ⟨bu,aD⟩:=aC aD;refine (ψ ⟨bu,?_⟩);exact ⟨_,sj aD,wt Q6 J3 rfl⟩
  refine xt ?_;have aD:=bd aD hZ;exact ⟨_,aD,wt Q3 ⟨hr,hr,hr,Q0⟩ rfl⟩
 intro v3 h;unfold Il at h;refine Ok.qb (m:=13) (late:=[1,9]) (MD:=⟨[]⟩) (CH:=⟨[]⟩) tok mixed (by kernel_rfl) ?_;have ⟨fE,oO,h⟩:=ι h;refine ⟨_,rfl,_,rfl,_,rfl,_,rfl,_,rfl,_,rfl,_,⟨_,rfl,rfl⟩,_,⟨_,rfl,rfl⟩,_,⟨_,.fC (Q_ oO) lz,rfl⟩,_,rfl,_,rfl,_,rfl,_,rfl,Q0,?_⟩;refine ⟨_,rfl,⟨⟨_,rfl,rfl⟩,⟨_,rfl,rfl⟩,Q0⟩,_,rfl,?_⟩;cases h;exact ⟨_,rfl,wt Q1 J2 rfl⟩
def akf [o8] {C D F G I J K L d N e f g i a j k l u w z A B} {q:Int⊕(oc)} (h:DX C D F G I J K L d N e f g i a j k l u w z A B=some q):fM prog bf 63 [.b 1000 0] ⟨aG,[(1000,.box (cV C D F G I J K L d N e f g i a j k l u w z A B))]⟩ (fun x s=>∃y:oc,q=.inr y∧x=(.t [])∧s.H=[(1000,.box [.s (mI y.1),vi y.2.1,vi y.2.2.1,vi y.2.2.2.1,.s (mB y.2.2.2.2.1),.s (mC y.2.2.2.2.2.1),.s (mA y.2.2.2.2.2.2.1),vi y.2.2.2.2.2.2.2.1,.s (mE d),.o 999,vi e,vi f,vs g,vs i,vi a,vi j,vi k,.s (mU l),vi (0),vi (t8 y).1,vi a,vi (0),vi (0),zs,zs]),(999,.own 86 3 (mD (t8 y).2))]) fun m s=>q=.inl m∧s.H=[]:=by
 refine px tok 55 func63 ?_;unfold DX at h;refine sq (Ok.cY bf tok ?_);have ⟨x1,Θ,h⟩:=ι h;refine ψ (ψ (ψ (ψ (ψ (ψ (⟨_,rfl,?_⟩))))));refine bV (cx [(1000,1000)] [] (GM Θ) (.cons (Ln.b rfl) nq) ⟨⟨1000,_,rfl,rfl,.box nq⟩,Q0⟩ (fun e1 bE=>?_) (fun y1 c_=>?_))
 ·have h:=cu h bE;cases h;exact ⟨_,rfl,rfl⟩
 have h:=cw h c_;refine ψ (ψ (ψ (ψ (ψ ?_))));refine sq (Ok.mO (E:=bf) (chain:=[(18,[0,1,2,3,4,5,6,7,8,9,10,11,12,13,14,15,16,17,20,21]),(19,[16,17,20,21])]) tok mixed (by kernel_rfl) ?_);have ⟨x2,ak,h⟩:=ι h;refine ⟨_,rfl,_,rfl,_,rfl,_,rfl,_,rfl,_,⟨_,rfl,rfl⟩,_,rfl,_,rfl,_,rfl,_,rfl,_,rfl,_,rfl,_,⟨_,rfl,rfl⟩,_,⟨_,.fC (Zd ak) lz,rfl⟩,_,rfl,_,rfl,_,rfl,_,rfl,_,rfl,_,rfl,ψ ⟨⟨⟨_,rfl,rfl⟩,⟨_,rfl,rfl⟩,⟨_,rfl,rfl⟩,⟨_,rfl,rfl⟩,⟨_,rfl,rfl⟩,⟨_,rfl,_,rfl,rfl⟩,⟨_,rfl,rfl⟩,⟨_,rfl,rfl⟩,⟨_,rfl,rfl⟩,⟨_,rfl,rfl⟩,⟨_,rfl,rfl⟩,⟨_,rfl,rfl⟩,⟨_,rfl,_,rfl,rfl⟩,⟨_,rfl,_,.fC (Zd ak) lz,rfl⟩,⟨_,rfl,rfl⟩,⟨_,rfl,rfl⟩,⟨_,rfl,rfl⟩,⟨_,rfl,rfl⟩,⟨_,rfl,rfl⟩,⟨_,rfl,rfl⟩,Q0⟩,ψ (⟨_,rfl,⟨⟨_,rfl,rfl⟩,⟨_,rfl,rfl⟩,⟨_,rfl,rfl⟩,⟨_,rfl,rfl⟩,Q0⟩,?_⟩)⟩⟩;refine sq (Ok.cY bf tok ?_);have ⟨x3,aK,h⟩:=ι h;refine ψ (bV (cx [] [] (kz aK) nq Q0 (fun e2 dV=>?_) (fun y2 ew=>?_)))
 ·have h:=cu h dV;cases h;exact ⟨_,rfl,rfl⟩
 have h:=cw h ew;refine sq (Ok.mO (E:=bf) (chain:=[(7,[])]) tok mixed (by kernel_rfl) ?_);have ⟨x4,bn,h⟩:=ι h;refine ⟨_,rfl,_,⟨_,rfl,rfl⟩,_,rfl,_,rfl,_,rfl,_,rfl,_,⟨_,rfl,rfl⟩,?_⟩;refine bV (cx [(1000,1000)] [(35,999)] (An bn) (.cons (Ln.b rfl) nq) ⟨⟨1000,_,rfl,rfl,.box nq⟩,Q0⟩ (fun e3 jQ=>?_) (fun y3 jD=>?_))
 ·have h:=cu h jQ;cases h;exact ⟨_,rfl,rfl⟩
 have h:=cw h jD;refine ⟨Q0,?_⟩;refine rg ⟨_,rfl,_,rfl,?_⟩;cases h;exact ⟨_,rfl,wt Q1 J2 rfl⟩
def aj0 {c d e f r} (h:CD c d e f=some r):Pure prog 117 [.a (b0 c),vi d,vi e,vs f] (.t [.a (b0 r.1),vi r.2]):=by
 refine pq tok 66 func117 ?_;unfold CD at h;refine sg (sg ⟨_,rfl,?_⟩);refine sg ?_;have ⟨x1,Θ,h⟩:=ι h;refine ae.dE (id:=16) (qA Θ) rfl (.box lz) rfl (.cons (Lr.b) (.cons (Lr.dL rfl) .nil)) ?_;rintro _ _ ⟨rfl,rfl⟩;refine ⟨_,rfl,?_⟩;refine sq (bl ?_);have ⟨v1,ν,h⟩:=ι h;refine Ok.bg ⟨aq [(1,vi d),(2,vi e),(3,vs f),(4,.b 4 0),(8,.b 8 0),(10,.b 16 0),(11,.b 11 0),(23,vb v1)],[(4,.box (b0 c)),(8,.box (k1 0 0)),(16,.box (b5 x1.2)),(11,.box (b4 x1.1.1))]⟩ ?_ ?_
 ·refine rg ?_;have ⟨c2,Δ,ν⟩:=ι ν;refine Br.eh Δ (fun hb Δ=>?_) fun hb Δ=>?_
  ·cases Δ;cases ν;exact wt Q8 J4 rfl
  refine ⟨_,rfl,?_⟩;have ⟨c1,aF,Δ⟩:=ι Δ;refine Br.ite aF (fun hb aF=>?_) fun hb aF=>?_
  ·refine ⟨_,rfl,?_⟩;cases aF;cases Δ;cases ν;exact wt Q8 J4 rfl
  cases aF;cases Δ;cases ν;exact wt Q8 J4 rfl
 refine ct h (fun hb h=>?_) fun hb h=>?_
 ·refine sg ⟨_,rfl,_,rfl,?_⟩;refine rt ?_;cases h;exact ⟨_,rfl,Fz.t fq⟩
 refine sg ⟨_,rfl,?_⟩;refine ct h (fun hb h=>?_) fun hb h=>?_
 ·refine sg ⟨_,rfl,_,rfl,?_⟩;refine rt ?_;cases h;exact ⟨_,rfl,Fz.t fq⟩
 refine sk (sq (sg ?_));have ⟨x2,ak,h⟩:=ι h;refine ae.dE (id:=16) (Zk ak) rfl (.box lz) rfl (.cons (Lr.b) (.cons (Lr.dL rfl) (.cons (Lr.dL rfl) .nil))) ?_;rintro _ _ ⟨rfl,rfl⟩;refine sg (ct h (fun hb h=>?_) fun hb h=>?_)
 ·refine sg ⟨_,rfl,_,rfl,?_⟩;refine rt ?_;cases h;exact ⟨_,rfl,Fz.t fq⟩
 refine sk (sg ?_);have ⟨ar,h⟩:=aC h;refine ⟨_,rfl,ψ ⟨ar,_,rfl,?_⟩⟩;refine sg ?_;have ⟨x3,aK,h⟩:=ι h;refine ⟨_,rfl,?_⟩;refine cg [(1000,16)] [(19,999)] (GO aK) (.cons (Ln.b rfl) nq) ⟨⟨16,_,rfl,rfl,.box nq⟩,Q0⟩ ?_;refine sg ?_;have ⟨x4,bn,h⟩:=ι h;refine cg [(1000,16),(1001,999)] [(999,999)] (Zo bn) (.cons (Ln.b rfl) nq) ⟨⟨16,_,rfl,rfl,.box (.cons (Ln.o rfl) nq)⟩,⟨999,_,rfl,rfl,.refl rfl⟩,Q0⟩ ?_;refine sg ⟨_,rfl,_,rfl,?_⟩;refine rt ?_;cases h;exact ⟨_,rfl,Fz.t (.cons (Fz.a (.cons (Fz.o rfl) fq)) fq)⟩
end Go.Proofs
