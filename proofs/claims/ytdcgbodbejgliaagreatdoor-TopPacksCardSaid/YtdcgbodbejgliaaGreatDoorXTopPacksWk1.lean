/- The walks of this seat beside the plain programs, part 1. No condition. -/
import Derived.Test.YtdcgbodbejgliaaGreatDoorXTopPacksWk0
open List renaming length_map → ax, map → aT, map_append → eI, map_eq_nil_iff → C_
open Nat renaming lt_of_le_of_lt → gB
open Or renaming inl → ψ
namespace Go.Proofs
set_option linter.all false
open Go Go.Cat Tryz
variable [M:cM]
set_option maxRecDepth 100000
set_option maxHeartbeats 4000000
def Rj {a r} (h:Ab a=some r):iN prog 231 [.s (mI a)] 44 6 (mI r):=by
 refine pv tok 8 func231 ?_;unfold Ab at h;refine sg (sq (sg ?_));intro b1 cT;have h:=yb h b1 (fun e=>C_.1 (cT e));refine ct h (fun hb h=>?_) fun hb h=>?_
 ·refine sg (rt ?_);cases h;exact (.inl ⟨rfl,rfl⟩)
 refine sk (sg ?_);have ⟨ar,h⟩:=aC h;refine Or.inr ⟨gy (f:=dv) (n:=6) (fun _=>rfl) a,gQ (f:=dv) (l:=([]:List ξ)) (l':=a) ar,_,(eI (f:=dv) (l₁:=([]:List ξ)) (l₂:=a)).symm,?_⟩;refine rt ?_;cases h;exact (.inr ⟨_,rfl,rfl⟩)
def GO {d e r} (h:vw d e=some r):ae prog 167 [.b 1000 0,.a (b4 d)] ⟨aG,[(1000,.box (b5 e))]⟩ fun x s=>x=(.t [])∧s.H=[(1000,.box [.o 19,vi r.1,vi r.2.1]),(19,.own 44 6 (mI r.2.2))]:=by
 refine pg tok 45 func167 ?_;unfold vw at h;refine sg (sg ?_);have ⟨x1,Θ,h⟩:=ι h;refine ⟨_,rfl,?_⟩;refine ae.dE (id:=1000) (La Θ) rfl (.box lz) rfl (.cons (Lr.b) (.cons (Lr.dL rfl) .nil)) ?_;rintro _ _ ⟨rfl,rfl⟩;refine sg ?_;have ⟨x2,ak,h⟩:=ι h;refine ⟨_,rfl,?_⟩;refine ae.own (D:=19) (Rj ak) lz rfl ?_;refine ⟨_,rfl,?_⟩;refine sq (sg ?_);refine ct h (fun hb h=>?_) fun hb h=>?_
 ·refine sq (dw 8 tok mixed ?_);have ⟨x3,aK,h⟩:=ι h;refine ⟨_,rfl,_,rfl,_,rfl,_,rfl,_,⟨_,rfl,rfl⟩,_,rfl,_,⟨_,rfl,rfl⟩,_,⟨_,bq aK,wX aK,rfl⟩,Q0,_,br aK,rfl,_,rfl,_,FL (f:=dv) (x:=d),?_⟩;refine rt ?_;cases h;exact wt Q1 J2 rfl
 refine sk (Ok.mO (E:=bf) (chain:=[(9,[0,10,11,12]),(13,[])]) tok mixed (by kernel_rfl) ?_);have ⟨ar,h⟩:=aC h;refine ⟨_,rfl,_,rfl,_,rfl,_,rfl,_,rfl,_,⟨_,rfl,rfl⟩,_,rfl,_,⟨_,rfl,rfl⟩,_,rfl,_,rfl,_,rfl,_,rfl,?_⟩;refine ψ (cg [(1000,19)] [(900,19)] (Vv x2 x1.1.1 ([d]) ar) (.cons (Ln.o rfl) nq) ⟨⟨19,_,rfl,rfl,.refl rfl⟩,Q0⟩ ?_);refine ⟨⟨⟨_,rfl,rfl⟩,⟨_,rfl,rfl⟩,⟨_,rfl,rfl⟩,⟨_,rfl,rfl⟩,Q0⟩,ψ (⟨_,rfl,Q0,?_⟩)⟩;cases h;exact wt Q1 J2 rfl
def Lc {a r} (h:xl a=some r):iN prog 190 [.s (mF a)] 138 3 (mF r):=by
 refine pv tok 8 func190 ?_;unfold xl at h;refine sg (sq (sg ?_));intro b1 cT;have h:=yb h b1 (fun e=>C_.1 (cT e));refine ct h (fun hb h=>?_) fun hb h=>?_
 ·refine sg (rt ?_);cases h;exact (.inl ⟨rfl,rfl⟩)
 refine sk (sg ?_);have ⟨ar,h⟩:=aC h;refine Or.inr ⟨gy (f:=j8) (n:=3) (fun _=>rfl) a,gQ (f:=j8) (l:=([]:List aP)) (l':=a) ar,_,(eI (f:=j8) (l₁:=([]:List aP)) (l₂:=a)).symm,?_⟩;refine rt ?_;cases h;exact (.inr ⟨_,rfl,rfl⟩)
def Rg {d e g i j k l r} (h:CP d e g i j k l=some r):ae prog 167 [.b 1000 0,.a [vi d,vi e,vi g,.s (mU i),.o 1001,vi j]] ⟨aG,[(1000,.box (b5 k)),(1001,.own 138 3 (mF l))]⟩ fun x s=>x=(.t [])∧s.H=[(1000,.box [.o 19,vi r.1,vi r.2.1]),(19,.own 44 6 (mI r.2.2))]:=by
 refine pg tok 45 func167 ?_;unfold CP at h;refine sg (sg ?_);have ⟨x1,Θ,h⟩:=ι h;refine ⟨_,rfl,?_⟩;refine ae.dE (id:=1000) (La Θ) rfl (.box lz) rfl (.cons (Lr.b) (.cons (Lr.dL rfl) .nil)) ?_;rintro _ _ ⟨rfl,rfl⟩;refine sg ?_;have ⟨x2,ak,h⟩:=ι h;refine ⟨_,rfl,?_⟩;refine ae.own (D:=19) (Rj ak) lz rfl ?_;refine ⟨_,rfl,?_⟩;refine sq (sg ?_);refine ct h (fun hb h=>?_) fun hb h=>?_
 ·refine sq (Ok.wk (Wk.freeze (id:=1001) rfl) ?_);refine dw 8 tok mixed ?_;have ⟨x3,aK,h⟩:=ι h;refine ⟨_,rfl,_,rfl,_,rfl,_,rfl,_,⟨_,rfl,rfl⟩,_,rfl,_,⟨_,rfl,rfl⟩,_,⟨_,bq aK,wX aK,rfl⟩,Q0,_,br aK,rfl,_,rfl,_,FL (f:=dv) (x:=(⟨d,e,g,i,l,j⟩:ξ)),?_⟩;refine rt ?_;cases h;exact wt Q1 J2 rfl
 refine sk (Ok.wk (Wk.freeze (id:=1001) rfl) ?_);refine Ok.mO (E:=bf) (chain:=[(9,[0,10,11,12]),(13,[])]) tok mixed (by kernel_rfl) ?_;have ⟨ar,h⟩:=aC h;refine ⟨_,rfl,_,rfl,_,rfl,_,rfl,_,rfl,_,⟨_,rfl,rfl⟩,_,rfl,_,⟨_,rfl,rfl⟩,_,rfl,_,rfl,_,rfl,_,rfl,?_⟩;refine ψ (cg [(1000,19)] [(900,19)] (Vv x2 x1.1.1 ([(⟨d,e,g,i,l,j⟩:ξ)]) ar) (.cons (Ln.o rfl) nq) ⟨⟨19,_,rfl,rfl,.refl rfl⟩,Q0⟩ ?_);refine ⟨⟨⟨_,rfl,rfl⟩,⟨_,rfl,rfl⟩,⟨_,rfl,rfl⟩,⟨_,rfl,rfl⟩,Q0⟩,ψ (⟨_,rfl,Q0,?_⟩)⟩;cases h;exact wt Q1 J2 rfl
def Zo {f d e g i j r} (h:GC f d e g i j=some r):ae prog 168 [.b 1000 0,vi f,vs d,vi e] ⟨aG,[(1000,.box [.o 1001,vi g,vi i]),(1001,.own 44 6 (mI j))]⟩ fun x s=>x=(.t [])∧s.H=[(1000,.box [.o 999,vi r.1,vi r.2.1]),(999,.own 44 6 (mI r.2.2))]:=by
 refine pg tok 51 func168 ?_;unfold GC at h;refine sq (Ok.wk (Wk.freeze (id:=1001) rfl) ?_);refine rg ?_;have ⟨x1,Θ,h⟩:=ι h;refine ae.dE (id:=1000) (qA Θ) rfl (.box lz) rfl (.cons (Lr.b) (.cons (Lr.dL rfl) .nil)) ?_;rintro _ _ ⟨rfl,rfl⟩;refine ⟨_,rfl,?_⟩;refine sg ?_;have ⟨x2,ak,h⟩:=ι h;refine ⟨_,rfl,?_⟩;refine ae.call (CV ak) lz ?_;refine sq (Ok.mO (E:=bf) (chain:=[(2,[3,4,5,6,7,8,9,10,11,12,14]),(13,[14]),(15,[])]) tok mixed (by kernel_rfl) ?_);have ⟨x3,aK,h⟩:=ι h;refine ⟨_,rfl,_,⟨_,rfl,rfl⟩,_,rfl,_,rfl,_,rfl,_,rfl,_,rfl,_,rfl,_,rfl,_,⟨_,rfl,rfl⟩,_,rfl,_,rfl,_,rfl,?_⟩;refine ψ (ae.own (D:=26) (Lc aK) lz rfl ?_);have ⟨ar,h⟩:=aC h;refine ⟨⟨⟨_,rfl,rfl⟩,⟨_,rfl,rfl⟩,⟨_,rfl,rfl⟩,⟨_,rfl,rfl⟩,⟨_,rfl,rfl⟩,⟨_,rfl,rfl⟩,⟨_,rfl,rfl⟩,⟨_,rfl,_,rfl,rfl⟩,⟨_,rfl,rfl⟩,⟨_,rfl,rfl⟩,⟨_,rfl,rfl⟩,Q0⟩,?_⟩;refine ψ (cg [(1000,26)] [(900,26)] (Vw x3 x2.1 ([(⟨d,e,x1.2.Tree.aj⟩:aP)]) ar) (.cons (Ln.o rfl) nq) ⟨⟨26,_,rfl,rfl,.refl rfl⟩,Q0⟩ ?_);refine ⟨⟨⟨_,rfl,rfl⟩,Q0⟩,ψ (⟨_,rfl,Q0,?_⟩)⟩;refine sg ?_;have ⟨bu,h⟩:=aC h;refine ⟨_,rfl,ψ ⟨bu,_,rfl,?_⟩⟩;refine rg ?_;have ⟨x4,bn,h⟩:=ι h;refine ⟨_,rfl,?_⟩;refine cg [(1000,1000),(1001,26)] [(19,999)] (Rg bn) (.cons (Ln.b rfl) (.cons (Ln.a (n4 (.cons (Ln.o rfl) nq))) .nil)) ⟨⟨1000,_,rfl,rfl,.box nq⟩,⟨26,_,rfl,rfl,.refl rfl⟩,Q0⟩ ?_;cases h;exact wt Q1 J2 rfl
def Zd {c e f d r} (h:CB c e f d=some r):Pure prog 115 [.a (b0 c),vi e,vs f,vi d] (.t [.a (b0 r.1),vi r.2.1,vi r.2.2]):=by
 refine pq tok 83 func115 ?_;unfold CB at h;refine sg (sq ?_);have ⟨v1,ν,h⟩:=ι h;refine Ok.bg ⟨aq [(1,vi e),(2,vs f),(3,vi d),(4,.b 4 0),(8,.b 8 0),(19,vb v1)],[(4,.box (b0 c)),(8,.box (k1 0 0))]⟩ ?_ ?_
 ·refine rg ?_;have ⟨c1,Δ,ν⟩:=ι ν;refine Br.ite Δ (fun hb Δ=>?_) fun hb Δ=>?_
  ·cases Δ;cases ν;exact wt Q6 J2 rfl
  cases Δ;cases ν;exact wt Q6 J2 rfl
 refine ct h (fun hb h=>?_) fun hb h=>?_
 ·refine sg ⟨_,rfl,_,rfl,?_⟩;refine rt ?_;cases h;exact ⟨_,rfl,Fz.t fq⟩
 refine sk (sg ?_);refine ⟨_,rfl,?_⟩;refine sq (sg ?_);have ⟨x1,Θ,h⟩:=ι h;refine ae.dE (id:=23) (Zk Θ) rfl (.box lz) rfl (.cons (Lr.b) (.cons (Lr.dL rfl) (.cons (Lr.dL rfl) .nil))) ?_;rintro _ _ ⟨rfl,rfl⟩;refine sg (ct h (fun hb h=>?_) fun hb h=>?_)
 ·refine sg ⟨_,rfl,_,rfl,?_⟩;refine rt ?_;cases h;exact ⟨_,rfl,Fz.t fq⟩
 refine sk (sq ?_);have ⟨v2,aw,h⟩:=ι h;refine Ok.bg ⟨aq [(1,vi e),(2,vs f),(3,vi d),(4,.b 4 0),(8,.b 8 0),(11,.b 23 0),(46,vb v2)],[(4,.box (b0 c)),(8,.box (k1 0 0)),(23,.box (b5 x1.2))]⟩ ?_ ?_
 ·refine rg ⟨_,rfl,_,ax _,fun _=>?_⟩;have ⟨c2,aF,aw⟩:=ι aw;refine Br.eh aF (fun hb aF=>?_) fun hb aF=>?_
  ·cases aF;cases aw;exact wt Q7 J3 rfl
  refine ⟨_,rfl,?_⟩;cases aF;cases aw;exact wt Q7 J3 rfl
 refine ct h (fun hb h=>?_) fun hb h=>?_
 ·refine sg ⟨_,rfl,_,rfl,?_⟩;refine rt ?_;cases h;exact ⟨_,rfl,Fz.t fq⟩
 refine sk (sg ?_);refine ⟨_,rfl,_,rfl,?_⟩;have ⟨v3,dy,h⟩:=ι h;refine Ok.bg ⟨aq [(1,vi e),(2,vs f),(8,.b 8 0),(11,.b 23 0),(13,.b 13 0)],[(8,.box (k1 0 0)),(23,.box (b5 x1.2)),(13,.box (k9 x1.2.Tree.Next d 1 v3))]⟩ ?_ ?_
 ·refine sg (ct dy (fun hb dy=>?_) fun hb dy=>?_)
  ·refine rg ⟨_,rfl,?_⟩;cases dy;exact wt Q5 J3 rfl
  refine sk ?_;cases dy;exact wt Q5 J3 rfl
 refine sg ?_;have ⟨ar,h⟩:=aC h;refine ⟨_,rfl,ψ ⟨ar,_,rfl,?_⟩⟩;refine sg ?_;have ⟨x2,ak,h⟩:=ι h;refine ⟨_,rfl,?_⟩;refine cg [(1000,23)] [(19,999)] (GO ak) (.cons (Ln.b rfl) (.cons (Ln.a (n2 (n1 (.cons (Ln.nil) (.cons (Ln.nil) nq))))) .nil)) ⟨⟨23,_,rfl,rfl,.box nq⟩,Q0⟩ ?_;refine sg ?_;have ⟨x3,aK,h⟩:=ι h;refine ⟨_,rfl,?_⟩;refine cg [(1000,23),(1001,999)] [(999,999)] (Zo aK) (.cons (Ln.b rfl) nq) ⟨⟨23,_,rfl,rfl,.box (.cons (Ln.o rfl) nq)⟩,⟨999,_,rfl,rfl,.refl rfl⟩,Q0⟩ ?_;refine sq (Ok.qb (m:=6) (late:=[4,5]) (MD:=⟨[]⟩) (CH:=⟨[]⟩) tok mixed (by kernel_rfl) ?_);refine ⟨_,rfl,_,rfl,_,rfl,_,⟨_,rfl,rfl⟩,_,rfl,_,⟨_,rfl,rfl⟩,Q0,?_⟩;refine ⟨_,rfl,⟨⟨_,rfl,rfl⟩,⟨_,rfl,_,rfl,rfl⟩,Q0⟩,?_⟩;refine rt ?_;cases h;exact ⟨_,rfl,Fz.t (.cons (Fz.a (.cons (Fz.o rfl) fq)) fq)⟩
def QZ {c r} (h:wO c=some r):Pure prog 198 [.a (b4 c)] (vb r):=by
 refine pq tok 11 func198 ?_;unfold wO at h;refine sg ?_;have ⟨v1,ν,h⟩:=ι h;refine Ok.bg ⟨aq [(2,vb v1)],[]⟩ ?_ ?_
 ·refine rg ⟨_,rfl,?_⟩;have ⟨c1,Δ,ν⟩:=ι ν;refine Br.ite Δ (fun hb Δ=>?_) fun hb Δ=>?_
  ·refine ⟨_,rfl,?_⟩;cases Δ;cases ν;exact wt Q1 Q0 rfl
  cases Δ;cases ν;exact wt Q1 Q0 rfl
 refine rt ?_;cases h;exact Fz.v
def akG {c r} (h:Bv c=some r):iN prog 169 [.a (b0 c)] 3 1 (mB r):=by
 refine pv tok 22 func169 ?_;unfold Bv at h;refine sg (sg ?_);have ⟨v1,ν,h⟩:=ι h;refine Ok.bg ⟨aq [(3,.o 19)],[(19,.own 3 1 (mB v1))]⟩ ?_ ?_
 ·refine sg ⟨_,rfl,_,ax _,fun _=>?_⟩;refine bl (Ok.loop (fun (s1:Int×(List Int))=>⟨aq [(3,.o 19),(7,.s (mI c.η)),(8,vi (c.η.length:Int)),(9,vi s1.1)],[(19,.own 3 1 (mB s1.2))]⟩) (IV c) (s0:=(0,[])) ν ((Wk.BU (t:=3) (id:=19) (E:=3) (K:=1) rfl rfl).trans (wt Q4 ⟨hr,Q0⟩ rfl)) ?_);intro s1 y1 ζ aL;unfold IV at ζ;refine sg (sq (ct ζ (fun hb ζ=>?_) fun hb ζ=>?_))
  ·refine sk ?_;have ⟨v2,aw,ζ⟩:=ι ζ;refine Ok.bg ⟨aq [(3,.o 19),(7,.s (mI c.η)),(8,vi (c.η.length:Int)),(9,vi s1.1)],[(19,.own 3 1 (mB v2))]⟩ ?_ ?_
   ·refine bl (sg ?_);have ⟨x1,Θ,aw⟩:=ι aw;refine ⟨_,bq Θ,_,br Θ,_,rfl,_,rfl,?_⟩;refine sg ?_;have ⟨x2,ak,aw⟩:=ι aw;refine ⟨_,rfl,?_⟩;refine ae.call (QZ ak) lz ?_;refine ct aw (fun hb aw=>?_) fun hb aw=>?_
    ·refine rg ?_;have ⟨ar,aw⟩:=aC aw;refine ⟨_,rfl,ψ ⟨gy (f:=Go.Cat.encI) (n:=1) (fun _=>rfl) ([x1.κ]),gQ (f:=Go.Cat.encI) (l:=s1.2) (l':=[x1.κ]) ar,_,(eI (f:=Go.Cat.encI) (l₁:=s1.2) (l₂:=[x1.κ])).symm,?_⟩⟩;cases aw;exact wt Q4 J1 rfl
    refine sk ?_;cases aw;exact wt Q4 J1 rfl
   refine rg ?_;have ⟨bu,ζ⟩:=aC ζ;refine (ψ ⟨bu,?_⟩);exact ⟨_,sj ζ,wt Q4 J1 rfl⟩
  refine xt ?_;have ζ:=bd ζ aL;cases ζ;exact wt Q1 J1 rfl
 refine sg (rt ?_);cases h;exact (.inr ⟨_,rfl,rfl⟩)
def ai4 {b r} (h:Bv b=some r):Pure prog 169 [.a (b0 b)] (.s (mB r)):=(akG h).pure
def aiY {c d r} (h:D1 c d=some r):Pure prog 171 [.a (b7 c),.p [vi d]] (vb r):=by
 refine pq tok 8 func171 ?_;unfold D1 at h;refine sg (sg ⟨_,rfl,_,rfl,?_⟩);refine rt ?_;cases h;exact Fz.v
def ajO {a b r} (h:Qg a b=some r):Pure prog 201 [.s (mE a),.c (.func 171) [] [.p [vi b]]] (vi r):=by
 refine pq tok 19 func201 ?_;unfold Qg at h;refine sg (Ok.eC (fun v1=>⟨aq [],[]⟩) (fun v1=>Qi v1=some r) ?_ ?_)
 ·refine sg ⟨_,ax _,fun _=>?_⟩;refine bl (Ok.loop (fun (s1:Int)=>⟨aq [(0,.s (mE a)),(1,.c (.func 171) [] [.p [vi b]]),(7,vi (a.length:Int)),(8,vi s1)],[]⟩) (Qh a b) (s0:=0) h (wt Q4 Q0 rfl) ?_);intro s1 y1 ζ aL;unfold Qh at ζ;refine sg (sq (ct ζ (fun hb ζ=>?_) fun hb ζ=>?_))
  ·refine sk (sq (bl (sg ?_)));refine sg ?_;have ⟨x1,Θ,ζ⟩:=ι ζ;have ⟨x2,ak,ζ⟩:=ι ζ;refine ⟨_,bq Θ,_,br Θ,_,rfl,?_⟩;refine ae.call (aiY ak) lz ?_;refine ct ζ (fun hb ζ=>?_) fun hb ζ=>?_
   ·refine sg (rt ?_);have ζ:=bd ζ aL;cases ζ;exact Fz.v
   refine sk (rg ?_);have ⟨ar,ζ⟩:=aC ζ;refine (ψ ⟨ar,?_⟩);exact ⟨_,sj ζ,wt Q4 Q0 rfl⟩
  refine xt ?_;have ζ:=bd ζ aL;exact ⟨_,ζ,wt Q0 Q0 rfl⟩
 intro v1 h;unfold Qi at h;refine sg (rt ?_);cases h;exact Fz.v
def ajD {a b r} (h:F7 a b=some r):Pure prog 170 [.s (mE a),.c (.func 171) [] [.p [vi b]]] (vb r):=by
 refine pq tok 9 func170 ?_;unfold F7 at h;refine sg (sg ?_);have ⟨x1,Θ,h⟩:=ι h;refine ae.call (ajO Θ) lz ?_;refine rt ?_;cases h;exact Fz.v
def Zn {d a r} (h:CM d a=some r):ae prog 234 [.b 1000 0,vi d] ⟨aG,[(1000,.box (b5 a))]⟩ fun x s=>x=(.t [])∧s.H=[(1000,.box (k0 r.1 r.2.1 r.2.2))]:=by
 refine pg tok 27 func234 ?_;unfold CM at h;refine sg ?_;have ⟨x1,Θ,h⟩:=ι h;refine ae.dE (id:=1000) (La Θ) rfl (.box lz) rfl (.cons (Lr.b) (.cons (Lr.dL rfl) .nil)) ?_;rintro _ _ ⟨rfl,rfl⟩;refine sg (ct h (fun hb h=>?_) fun hb h=>?_)
 ·refine rg ?_;have ⟨x2,ak,h⟩:=ι h;refine ⟨_,rfl,?_⟩;refine ae.own (D:=19) (Rj ak) lz rfl ?_;have ⟨ar,h⟩:=aC h;have ⟨bu,h⟩:=aC h;refine (ψ ⟨ar,?_⟩);refine cg [(1000,19)] [(900,19)] (adQ x2 x1.1.1 (x1.1.1+1) bu) (.cons (Ln.o rfl) nq) ⟨⟨19,_,rfl,rfl,.refl rfl⟩,Q0⟩ ?_;refine ⟨_,rfl,?_⟩;cases h;exact (Wk.freeze (id:=19) rfl).trans (wt Q1 ⟨hr,Q0⟩ rfl)
 refine sk ?_;cases h;exact wt Q1 J1 rfl
def Ze {c d r} (h:Ae c d=some r):Pure prog 172 [.a (b0 c),vi d] (.t [.a (b0 r.1),vi r.2]):=by
 refine pq tok 39 func172 ?_;unfold Ae at h;refine sg (sg ⟨_,rfl,?_⟩);refine sg ?_;have ⟨x1,Θ,h⟩:=ι h;refine ae.dE (id:=11) (qA Θ) rfl (.box lz) rfl (.cons (Lr.b) (.cons (Lr.dL rfl) .nil)) ?_;rintro _ _ ⟨rfl,rfl⟩;refine ⟨_,rfl,?_⟩;refine sq (bl (sg ?_));refine ct h (fun hb h=>?_) fun hb h=>?_
 ·refine sg ⟨_,rfl,_,rfl,?_⟩;refine rt ?_;cases h;exact ⟨_,rfl,Fz.t fq⟩
 refine sg ⟨_,rfl,?_⟩;refine ct h (fun hb h=>?_) fun hb h=>?_
 ·refine sg ⟨_,rfl,_,rfl,?_⟩;refine rt ?_;cases h;exact ⟨_,rfl,Fz.t fq⟩
 refine sg ⟨_,rfl,?_⟩;refine ct h (fun hb h=>?_) fun hb h=>?_
 ·refine sg ⟨_,rfl,_,rfl,?_⟩;refine rt ?_;cases h;exact ⟨_,rfl,Fz.t fq⟩
 refine sk (sg ?_);have ⟨x2,ak,h⟩:=ι h;refine cg [(1000,11)] [] (Zn ak) (.cons (Ln.b rfl) nq) ⟨⟨11,_,rfl,rfl,.box nq⟩,Q0⟩ ?_;refine sg ⟨_,rfl,_,rfl,?_⟩;refine rt ?_;cases h;exact ⟨_,rfl,Fz.t fq⟩
def Ld {a r} (h:Ac a=some r):iN prog 174 [.s (mD a)] 86 3 (mD r):=by
 refine pv tok 8 func174 ?_;unfold Ac at h;refine sg (sq (sg ?_));intro b1 cT;have h:=yb h b1 (fun e=>C_.1 (cT e));refine ct h (fun hb h=>?_) fun hb h=>?_
 ·refine sg (rt ?_);cases h;exact (.inl ⟨rfl,rfl⟩)
 refine sk (sg ?_);have ⟨ar,h⟩:=aC h;refine Or.inr ⟨gy (f:=mN) (n:=3) (fun _=>rfl) a,gQ (f:=mN) (l:=([]:List aA)) (l':=a) ar,_,(eI (f:=mN) (l₁:=([]:List aA)) (l₂:=a)).symm,?_⟩;refine rt ?_;cases h;exact (.inr ⟨_,rfl,rfl⟩)
def aiZ {c d e f r} (h:MJ c d e f=some r):Pure prog 175 [.a (b8 c),.p (k0 d e f)] (vb r):=by
 refine pq tok 15 func175 ?_;unfold MJ at h;refine sg (sg ?_);have ⟨x1,Θ,h⟩:=ι h;refine ⟨_,rfl,_,rfl,?_⟩;refine ae.call (rW Θ) lz ?_;refine ⟨_,rfl,?_⟩;refine sg (rt ?_);cases h;exact Fz.v
def ajQ {b a r} (h:Qo b a=some r):Pure prog 235 [.s (mD b),.c (.func 175) [] [.p (b0 a)]] (vi r):=by
 refine pq tok 19 func235 ?_;unfold Qo at h;refine sg (Ok.eC (fun v1=>⟨aq [],[]⟩) (fun v1=>Qq v1=some r) ?_ ?_)
 ·refine sg ⟨_,ax _,fun _=>?_⟩;refine bl (Ok.loop (fun (s1:Int)=>⟨aq [(0,.s (mD b)),(1,.c (.func 175) [] [.p (b0 a)]),(7,vi (b.length:Int)),(8,vi s1)],[]⟩) (Qp b a) (s0:=0) h (wt Q4 Q0 rfl) ?_);intro s1 y1 ζ aL;unfold Qp at ζ;refine sg (sq (ct ζ (fun hb ζ=>?_) fun hb ζ=>?_))
  ·refine sk (sq (bl (sg ?_)));refine sg ?_;have ⟨x1,Θ,ζ⟩:=ι ζ;have ⟨x2,ak,ζ⟩:=ι ζ;refine ⟨_,bq Θ,_,br Θ,_,rfl,?_⟩;refine ae.call (aiZ ak) lz ?_;refine ct ζ (fun hb ζ=>?_) fun hb ζ=>?_
   ·refine sg (rt ?_);have ζ:=bd ζ aL;cases ζ;exact Fz.v
   refine sk (rg ?_);have ⟨ar,ζ⟩:=aC ζ;refine (ψ ⟨ar,?_⟩);exact ⟨_,sj ζ,wt Q4 Q0 rfl⟩
  refine xt ?_;have ζ:=bd ζ aL;exact ⟨_,ζ,wt Q0 Q0 rfl⟩
 intro v1 h;unfold Qq at h;refine sg (rt ?_);cases h;exact Fz.v
def ai0 {c d r} (h:D3 c d=some r):Pure prog 175 [.a (b8 c),.p (b0 d)] (vb r):=by
 refine pq tok 15 func175 ?_;unfold D3 at h;refine sg (sg ?_);have ⟨x1,Θ,h⟩:=ι h;refine ⟨_,rfl,_,rfl,?_⟩;refine ae.call (rW Θ) lz ?_;refine ⟨_,rfl,?_⟩;refine sg (rt ?_);cases h;exact Fz.v
def akz {g e r} (h:Ky g e=some r):ae prog 173 [.o 1000,.c (.func 175) [] [.b 1001 0]] ⟨aG,[(1000,.own 86 3 (mD g)),(1001,.box (b0 e))]⟩ fun x s=>x=(.o 999)∧s.H=[(999,.own 86 3 (mD r)),(1001,.box (b0 e))]:=by
 refine pg tok 42 func173 ?_;unfold Ky at h;refine sg (sg ?_);have ⟨x1,Θ,h⟩:=ι h;refine ae.borrow (ajQ Θ) (.cons (Fz.o rfl) (.cons (Fz.c .nil (.cons (Fz.b rfl rfl) .nil)) .nil)) rfl ?_;refine sq (sg ?_);refine ct h (fun hb h=>?_) fun hb h=>?_
 ·refine sg (rt ?_);cases h;exact (Wk.mv (i:=1000) (d:=999) rfl rfl rfl).trans (wt Q1 ⟨hr,hr,Q0⟩ rfl)
 refine sk ?_;have ⟨v1,ν,h⟩:=ι h;refine Ok.bg ⟨aq [(0,.o 1000),(5,vi v1.1)],[(1000,.own 86 3 (mD v1.2)),(1001,.box (b0 e))]⟩ ?_ ?_
 ·refine sg ?_;have ⟨ar,ν⟩:=aC ν;refine (ψ ⟨ar,?_⟩);refine bl (Ok.loop (fun (s1:Int×Int×(List aA))=>⟨aq [(0,.o 1000),(1,.c (.func 175) [] [.b 1001 0]),(5,vi s1.1),(6,vi s1.2.1)],[(1000,.own 86 3 (mD s1.2.2)),(1001,.box (b0 e))]⟩) (P_ e) (s0:=(x1,x1+1,g)) ν (wt Q4 ⟨hr,hr,Q0⟩ rfl) ?_);intro s1 y1 ζ aL;unfold P_ at ζ;refine sq (sg ?_);refine ⟨_,ax _,fun _=>?_⟩;refine ct ζ (fun hb ζ=>?_) fun hb ζ=>?_
  ·refine sk ?_;have ⟨v2,aw,ζ⟩:=ι ζ;refine Ok.bg ⟨aq [(0,.o 1000),(1,.c (.func 175) [] [.b 1001 0]),(5,vi v2.1),(6,vi s1.2.1)],[(1000,.own 86 3 (mD v2.2)),(1001,.box (b0 e))]⟩ ?_ ?_
   ·refine bl (sg ?_);have ⟨x2,ak,aw⟩:=ι aw;refine ⟨_,bq ak,wX ak,_,br ak,rfl,_,rfl,_,rfl,?_⟩;refine sg ?_;have ⟨x3,aK,aw⟩:=ι aw;refine ⟨_,rfl,?_⟩;refine ae.borrow (ai0 aK) (.cons (Fz.a fq) (.cons (Fz.b rfl rfl) .nil)) rfl ?_;refine ct aw (fun hb aw=>?_) fun hb aw=>?_
    ·refine sg ?_;have ⟨x4,bn,aw⟩:=ι aw;refine ⟨_,rfl,_,bq bn,wX bn,_,br bn,rfl,_,rfl,_,FL (f:=mN) (x:=x2),?_⟩;refine rg ?_;have ⟨bu,aw⟩:=aC aw;refine (ψ ⟨bu,?_⟩);cases aw;exact wt Q4 J2 rfl
    refine sk ?_;cases aw;exact wt Q4 J2 rfl
   refine rg ?_;have ⟨dU,ζ⟩:=aC ζ;refine (ψ ⟨dU,?_⟩);exact ⟨_,sj ζ,wt Q4 J2 rfl⟩
  refine xt ?_;have ζ:=bd ζ aL;cases ζ;exact wt Q2 J2 rfl
 refine sg ?_;have ⟨kT,h⟩:=aC h;refine ⟨_,lq kT.1,FX kT,_,SG (f:=mN) (z:=((⟨0,0,0⟩:aA):aA)) v1.2 (v1.1.toNat),?_⟩;refine sq (Ok.wk (Wk.mv (i:=1000) (d:=999) rfl rfl rfl) ?_);refine rg ?_;have ⟨qh,h⟩:=aC h;refine ⟨_,lq qh.1,FX qh,_,(List.map_take (f:=mN)).symm,?_⟩;refine rt ?_;cases h;exact wt Q1 J2 rfl
def Y5 {c d r} (h:zS c d=some r):Pure prog 258 [.a (b8 c),vi d] (vi r):=by
 refine pq tok 9 func258 ?_;unfold zS at h;refine sg (sg ?_);have ⟨x1,Θ,h⟩:=ι h;refine ⟨_,rfl,?_⟩;refine ae.call (Al Θ) lz ?_;refine rt ?_;cases h;exact Fz.v
def ajC {a b r} (h:P7 a b=some r):Pure prog 257 [.s (mD a),vi b,.c (.func 258) [] []] (.t [vi r.1,vb r.2]):=by
 refine pq tok 49 func257 ?_;unfold P7 at h;refine sg (sg ⟨_,ax _,fun _=>?_⟩);refine sg ?_;have ⟨v1,ν,h⟩:=ι h;refine Ok.bg ⟨aq [(0,.s (mD a)),(1,vi b),(2,.c (.func 258) [] []),(8,vi (a.length:Int)),(9,vi v1)],[]⟩ ?_ ?_
 ·refine bl (Ok.loop (fun (s1:Int×Int)=>⟨aq [(0,.s (mD a)),(1,vi b),(2,.c (.func 258) [] []),(8,vi (a.length:Int)),(9,vi s1.1),(10,vi s1.2)],[]⟩) (P8 a b) (s0:=(0,(a.length:Int))) ν (wt Q6 Q0 rfl) ?_);intro s1 y1 ζ aL;unfold P8 at ζ;refine sq (sg ?_);refine ct ζ (fun hb ζ=>?_) fun hb ζ=>?_
  ·refine sk (bl (sg ?_));have ⟨ar,ζ⟩:=aC ζ;refine (ψ ⟨ar,_,rfl,(by decide),_,rfl,_,rfl,?_⟩);refine sg ?_;have ⟨x1,Θ,ζ⟩:=ι ζ;have ⟨x2,ak,ζ⟩:=ι ζ;refine ⟨_,bq Θ,_,br Θ,_,rfl,?_⟩;refine ae.call (Y5 ak) lz ?_;refine ct ζ (fun hb ζ=>?_) fun hb ζ=>?_
   ·refine rg ?_;have ⟨bu,ζ⟩:=aC ζ;refine (ψ ⟨bu,?_⟩);exact ⟨_,sj ζ,wt Q6 Q0 rfl⟩
   refine rg ?_;exact ⟨_,sj ζ,wt Q6 Q0 rfl⟩
  refine xt ?_;have ζ:=bd ζ aL;cases ζ;exact wt Q5 Q0 rfl
 have ⟨v2,aw,h⟩:=ι h;refine Ok.bg ⟨aq [(6,vi v1),(7,vb v2)],[]⟩ ?_ ?_
 ·refine rg ?_;have ⟨c1,Δ,aw⟩:=ι aw;refine Br.ite Δ (fun hb Δ=>?_) fun hb Δ=>?_
  ·have ⟨x3,aK,Δ⟩:=ι Δ;have ⟨x4,bn,Δ⟩:=ι Δ;refine ⟨_,bq aK,_,br aK,_,rfl,?_⟩;refine ae.call (Y5 bn) lz ?_;cases Δ;cases aw;exact wt Q2 Q0 rfl
  cases Δ;cases aw;exact wt Q2 Q0 rfl
 refine rt ?_;cases h;exact (Fz.t fq)
def Y4 {a b r} (h:B8 a b=some r):Pure prog 211 [.s (mD a),vi b] (.t [vi r.1,vb r.2]):=by
 refine pq tok 11 func211 ?_;unfold B8 at h;refine sg (sg ?_);have ⟨x1,Θ,h⟩:=ι h;refine ae.call (ajC Θ) lz ?_;refine rt ?_;cases h;exact (Fz.t fq)
def akr {d a e r} (h:B6 d a e=some r):ae prog 277 [vi d,.b 1000 0,.b 1001 0] ⟨aG,[(1000,.box [.s (mD a)]),(1001,.box [vi e])]⟩ fun x s=>x=(vb r.1)∧s.H=[(1000,.box [.s (mD a)]),(1001,.box [vi r.2])]:=by
 refine pg tok 17 func277 ?_;unfold B6 at h;refine sg ?_;have ⟨v1,ν,h⟩:=ι h;refine Ok.bg ⟨aq [(2,.b 1001 0)],[(1001,.box [vi v1]),(1000,.box [.s (mD a)])]⟩ ?_ ?_
 ·refine sg ?_;have ⟨x1,Θ,ν⟩:=ι ν;refine ⟨_,rfl,?_⟩;refine ae.call (Y4 Θ) lz ?_;refine sg (ct ν (fun hb ν=>?_) fun hb ν=>?_)
  ·refine rg ⟨_,rfl,?_⟩;cases ν;exact wt Q1 J2 rfl
  refine sk ?_;cases ν;exact wt Q1 J2 rfl
 refine sg ⟨_,rfl,?_⟩;refine rt ?_;cases h;exact wt Q1 J2 rfl
def akt {d f e g r} (h:JY d f e g=some r):ae prog 276 [.a (b0 d),vi f,.c (.func 277) [] [.b 1000 0,.b 1001 0]] ⟨aG,[(1000,.box [.s (mD e)]),(1001,.box [vi g])]⟩ fun x s=>x=(.t [])∧s.H=[(1000,.box [.s (mD e)]),(1001,.box [vi r])]:=by
 refine pg tok 23 func276 ?_;unfold JY at h;refine sg (bl (Ok.loop (fun (s1:Int×Int)=>⟨aq [(1,vi s1.1),(2,.c (.func 277) [] [.b 1000 0,.b 1001 0]),(3,.b 3 0)],[(1000,.box [.s (mD e)]),(1001,.box [vi s1.2]),(3,.box (b0 d))]⟩) (zT e d) (s0:=(f,g)) h (wt Q3 ⟨hr,hr,hr,Q0⟩ rfl) ?_));intro s1 y1 ζ aL;unfold zT at ζ;refine sq ?_;have ⟨v1,ν,ζ⟩:=ι ζ;refine Ok.bg ⟨aq [(1,vi s1.1),(2,.c (.func 277) [] [.b 1000 0,.b 1001 0]),(3,.b 3 0),(14,vb v1.1)],[(1000,.box [.s (mD e)]),(1001,.box [vi v1.2]),(3,.box (b0 d))]⟩ ?_ ?_
 ·refine rg ?_;have ⟨x1,Θ,ν⟩:=ι ν;refine cg [(1000,1000),(1001,1001)] [] (akr Θ) (n1 (.cons (Ln.b rfl) (.cons (Ln.b rfl) .nil))) ⟨⟨1000,_,rfl,rfl,.box nq⟩,⟨1001,_,rfl,rfl,.box nq⟩,Q0⟩ ?_;have ⟨c1,Δ,ν⟩:=ι ν;refine Br.ite Δ (fun hb Δ=>?_) fun hb Δ=>?_
  ·cases Δ;cases ν;exact wt Q4 J3 rfl
  cases Δ;cases ν;exact wt Q4 J3 rfl
 refine ct ζ (fun hb ζ=>?_) fun hb ζ=>?_
 ·refine sk (bl (sg ?_));have ⟨x2,ak,ζ⟩:=ι ζ;refine ⟨_,rfl,?_⟩;refine ae.call (rW ak) lz ?_;refine ⟨_,rfl,?_⟩;refine rg ⟨_,rfl,?_⟩;exact ⟨_,sj ζ,wt Q3 J3 rfl⟩
 refine xt ?_;have ζ:=bd ζ aL;cases ζ;exact wt Q1 J2 rfl
def ajj {d e f r} (h:B5 d e f=some r):Pure prog 236 [.a (b0 d),.s (mD e),vi f] (vi r):=by
 refine pq tok 13 func236 ?_;unfold B5 at h;refine sg (sg ⟨_,rfl,?_⟩);refine sg ?_;have ⟨x1,Θ,h⟩:=ι h;refine ⟨_,rfl,?_⟩;refine cg [(1000,4),(1001,7)] [] (akt Θ) (n2 (.cons (Ln.c .nil (.cons (Ln.b rfl) (.cons (Ln.b rfl) .nil))) .nil)) ⟨⟨4,_,rfl,rfl,.box nq⟩,⟨7,_,rfl,rfl,.box nq⟩,Q0⟩ ?_;refine sg ⟨_,rfl,?_⟩;refine rt ?_;cases h;exact Fz.v
def aiW {c d r} (h:yw c d=some r):Pure prog 177 [.a (b0 c),.s (mD d)] (vb r):=by
 refine pq tok 70 func177 ?_;unfold yw at h;refine sg (sg (Ok.eC (fun v1=>⟨aq [],[]⟩) (fun v1=>Ib v1=some r) ?_ ?_))
 ·refine sg ⟨_,rfl,_,ax _,fun _=>?_⟩;refine bl (Ok.loop (fun (s1:Int×(List (Int×Int)))=>⟨aq [(1,.s (mD d)),(2,.b 2 0),(5,.m 15),(17,.s (mI c.η)),(18,vi (c.η.length:Int)),(19,vi s1.1)],[(2,.box (b0 c)),(15,.mp false (aT (fun p=>(p.1,Go.Cat.encI p.2)) s1.2))]⟩) (H_ c d) (s0:=(0,([]:List (Int×Int)))) h (wt Q6 ⟨⟨_,rfl,.refl _⟩,⟨_,rfl,.refl _⟩,Q0⟩ rfl) ?_);intro s1 y1 ζ aL;unfold H_ at ζ;refine sg (sq (ct ζ (fun hb ζ=>?_) fun hb ζ=>?_))
  ·refine sk (Ok.eC (fun v2=>⟨aq [(1,.s (mD d)),(2,.b 2 0),(5,.m 15),(17,.s (mI c.η)),(18,vi (c.η.length:Int)),(19,vi s1.1)],[(2,.box (b0 c)),(15,.mp false (aT (fun p=>(p.1,Go.Cat.encI p.2)) v2))]⟩) (fun v2=>AZ s1 v2=some y1) ?_ ?_)
   ·refine bl (sg ?_);have ⟨x1,Θ,ζ⟩:=ι ζ;refine ⟨_,bq Θ,_,br Θ,_,rfl,_,rfl,?_⟩;refine sq (sg ?_);refine ⟨_,rfl,_,ax _,fun _=>?_⟩;refine ct ζ (fun hb ζ=>?_) fun hb ζ=>?_
    ·refine xt ?_;exact ⟨_,ζ,wt Q6 ⟨⟨_,rfl,.refl _⟩,⟨_,rfl,.refl _⟩,Q0⟩ rfl⟩
    refine sk (sg ?_);have ⟨x2,ak,ζ⟩:=ι ζ;refine ⟨_,rfl,_,rfl,?_⟩;refine ae.call (ajj ak) lz ?_;refine sg ⟨_,rfl,_,ax _,fun _=>?_⟩;refine bl (Ok.loop (fun (s2:Int×(List (Int×Int)))=>⟨aq [(1,.s (mD d)),(2,.b 2 0),(5,.m 15),(8,vi x2),(17,.s (mI c.η)),(18,vi (c.η.length:Int)),(19,vi s1.1),(33,.s (mF x1.Ω)),(34,vi (x1.Ω.length:Int)),(35,vi s2.1)],[(2,.box (b0 c)),(15,.mp false (aT (fun p=>(p.1,Go.Cat.encI p.2)) s2.2))]⟩) (Ia x1 c x2 s1) (s0:=(0,s1.2)) ζ (wt ⟨lr,lr,Q8⟩ ⟨⟨_,rfl,.refl _⟩,⟨_,rfl,.refl _⟩,Q0⟩ rfl) ?_);intro s2 y2 aD hZ;unfold Ia at aD;refine sg (sq (ct aD (fun hb aD=>?_) fun hb aD=>?_))
    ·refine sk (sq (bl (sg ?_)));have ⟨x3,aK,aD⟩:=ι aD;refine ⟨_,bq aK,_,br aK,_,rfl,_,rfl,?_⟩;refine sg ?_;have ⟨x4,bn,aD⟩:=ι aD;refine ⟨_,rfl,_,rfl,?_⟩;refine ae.call (rW bn) lz ?_;refine ⟨_,rfl,?_⟩;refine sg ?_;have ⟨x5,dr,aD⟩:=ι aD;refine ⟨_,rfl,_,pN Go.Cat.encI (z:=(0:Int)) dr,_,tg Go.Cat.encI x3.κ s2.2,?_⟩;refine sq ?_;have ⟨v3,dy,aD⟩:=ι aD;refine Ok.bg ⟨aq [(1,.s (mD d)),(2,.b 2 0),(5,.m 15),(8,vi x2),(10,.b 10 0),(17,.s (mI c.η)),(18,vi (c.η.length:Int)),(19,vi s1.1),(33,.s (mF x1.Ω)),(34,vi (x1.Ω.length:Int)),(35,vi s2.1),(63,vb v3)],[(2,.box (b0 c)),(15,.mp false (aT (fun p=>(p.1,Go.Cat.encI p.2)) s2.2)),(10,.box (b6 x3))]⟩ ?_ ?_
     ·refine rg ⟨_,rfl,?_⟩;have ⟨c1,Δ,dy⟩:=ι dy;refine Br.ite Δ (fun hb Δ=>?_) fun hb Δ=>?_
      ·cases Δ;have ⟨c2,aF,dy⟩:=ι dy;refine Br.ite aF (fun hb aF=>?_) fun hb aF=>?_
       ·cases aF;cases dy;exact wt ⟨lr,lr,lr,lr,Q8⟩ J3 rfl
       cases aF;cases dy;exact wt ⟨lr,lr,lr,lr,Q8⟩ J3 rfl
      cases Δ;have ⟨c2,aM,dy⟩:=ι dy;replace aM:=cL aM;cases aM;cases dy;exact wt ⟨lr,lr,lr,lr,Q8⟩ J3 rfl
     refine ct aD (fun hb aD=>?_) fun hb aD=>?_
     ·refine sg (rt ?_);have aD:=bd aD hZ;have aD:=bd aD aL;cases aD;exact Fz.v
     refine sk (rg ?_);have ⟨ar,aD⟩:=aC aD;refine ⟨_,rfl,ar.1,gB (Nat.le_of_eq (ax _)) ar.2,_,iJ Go.Cat.encI x3.κ x2 s2.2,?_⟩;refine rg ?_;have ⟨bu,aD⟩:=aC aD;refine (ψ ⟨bu,?_⟩);exact ⟨_,sj aD,wt ⟨lr,lr,Q8⟩ J2 rfl⟩
    refine xt ?_;have aD:=bd aD hZ;exact ⟨_,aD,wt Q6 ⟨⟨_,rfl,.refl _⟩,⟨_,rfl,.refl _⟩,Q0⟩ rfl⟩
   intro v2 ζ;unfold AZ at ζ;refine rg ?_;have ⟨dU,ζ⟩:=aC ζ;refine (ψ ⟨dU,?_⟩);exact ⟨_,sj ζ,wt Q6 J2 rfl⟩
  refine xt ?_;have ζ:=bd ζ aL;exact ⟨_,ζ,wt Q0 Q0 rfl⟩
 intro v1 h;unfold Ib at h;refine sg (rt ?_);cases h;exact Fz.v
def aks {g d e f r} (h:JX g d e f=some r):ae prog 237 [vi g,.b 1000 0,.b 1001 0,.b 1002 0,.b 1004 0] ⟨aG,[(1000,.box (b0 d)),(1001,.box [vi e]),(1002,.box [.m 1003]),(1003,.mp false (aT (fun p=>(p.1,cB p.2)) f)),(1004,.box [.c (.func 237) [] [.b 1000 0,.b 1001 0,.b 1002 0,.b 1004 0]])]⟩ fun x s=>x=(.t [])∧s.H=[(1000,.box (k0 r.1 r.2.1 r.2.2.1)),(1001,.box [vi r.2.2.2.1]),(1002,.box [.m 1003]),(1003,.mp false (aT (fun p=>(p.1,cB p.2)) r.2.2.2.2)),(1004,.box [.c (.func 237) [] [.b 1000 0,.b 1001 0,.b 1002 0,.b 1004 0]])]:=by
 unfold JX at h;refine Tt (p:=fun (a:Int×θ×Int×(List (Int×Bool))) (r:pT)=>ae prog 237 [vi a.1,.b 1000 0,.b 1001 0,.b 1002 0,.b 1004 0] ⟨aG,[(1000,.box (b0 a.2.1)),(1001,.box [vi a.2.2.1]),(1002,.box [.m 1003]),(1003,.mp false (aT (fun p=>(p.1,cB p.2)) a.2.2.2)),(1004,.box [.c (.func 237) [] [.b 1000 0,.b 1001 0,.b 1002 0,.b 1004 0]])]⟩ fun x s=>x=(.t [])∧s.H=[(1000,.box (k0 r.1 r.2.1 r.2.2.1)),(1001,.box [vi r.2.2.2.1]),(1002,.box [.m 1003]),(1003,.mp false (aT (fun p=>(p.1,cB p.2)) r.2.2.2.2)),(1004,.box [.c (.func 237) [] [.b 1000 0,.b 1001 0,.b 1002 0,.b 1004 0]])]) (fun eW Dk a r h=>?_) h;have ⟨g,d,e,f⟩:=a;have IH:∀{g:Int} {d:θ} {e:Int} {f:List (Int×Bool)} {r:pT},eW (g,d,e,f)=some r→ae prog 237 [vi g,.b 1000 0,.b 1001 0,.b 1002 0,.b 1004 0] ⟨aG,[(1000,.box (b0 d)),(1001,.box [vi e]),(1002,.box [.m 1003]),(1003,.mp false (aT (fun p=>(p.1,cB p.2)) f)),(1004,.box [.c (.func 237) [] [.b 1000 0,.b 1001 0,.b 1002 0,.b 1004 0]])]⟩ fun x s=>x=(.t [])∧s.H=[(1000,.box (k0 r.1 r.2.1 r.2.2.1)),(1001,.box [vi r.2.2.2.1]),(1002,.box [.m 1003]),(1003,.mp false (aT (fun p=>(p.1,cB p.2)) r.2.2.2.2)),(1004,.box [.c (.func 237) [] [.b 1000 0,.b 1001 0,.b 1002 0,.b 1004 0]])]:=fun h=>Dk _ _ h;clear Dk;change tD eW g d e f=some r at h;show ae prog 237 [vi g,.b 1000 0,.b 1001 0,.b 1002 0,.b 1004 0] ⟨aG,[(1000,.box (b0 d)),(1001,.box [vi e]),(1002,.box [.m 1003]),(1003,.mp false (aT (fun p=>(p.1,cB p.2)) f)),(1004,.box [.c (.func 237) [] [.b 1000 0,.b 1001 0,.b 1002 0,.b 1004 0]])]⟩ fun x s=>x=(.t [])∧s.H=[(1000,.box (k0 r.1 r.2.1 r.2.2.1)),(1001,.box [vi r.2.2.2.1]),(1002,.box [.m 1003]),(1003,.mp false (aT (fun p=>(p.1,cB p.2)) r.2.2.2.2)),(1004,.box [.c (.func 237) [] [.b 1000 0,.b 1001 0,.b 1002 0,.b 1004 0]])];refine pg tok 41 func237 ?_;unfold tD at h;refine sg ?_;have ⟨x1,Θ,h⟩:=ι h;refine ⟨_,rfl,?_⟩;refine ae.call (rW Θ) lz ?_;refine ⟨_,rfl,?_⟩;refine sg ?_;have ⟨ar,h⟩:=aC h
 refine ⟨_,rfl,_,rfl,_,ax _,fun _=>(ψ ⟨ar,_,rfl,?_⟩)⟩;refine sg ⟨_,rfl,_,ax _,fun _=>?_⟩;refine bl (Ok.loop (fun (s1:Int×pT)=>⟨aq [(3,.b 1002 0),(4,.b 1004 0),(22,.s (mF x1.1.Ω)),(23,vi (x1.1.Ω.length:Int)),(24,vi s1.1)],[(1002,.box [.m 1003]),(1003,.mp false (aT (fun p=>(p.1,cB p.2)) s1.2.2.2.2.2)),(1004,.box [.c (.func 237) [] [.b 1000 0,.b 1001 0,.b 1002 0,.b 1004 0]]),(1000,.box (k0 s1.2.1 s1.2.2.1 s1.2.2.2.1)),(1001,.box [vi s1.2.2.2.2.1])]⟩) (zR x1 eW) (s0:=(0,d.η,d.Next,d.aj,e+(x1.1.az.length:Int),f)) h (wt Q5 ⟨hr,hr,hr,hr,hr,Q0⟩ rfl) ?_);intro s1 y1 ζ aL;unfold zR at ζ;refine sg (sq (ct ζ (fun hb ζ=>?_) fun hb ζ=>?_))
 ·refine sk ?_;have ⟨v1,ν,ζ⟩:=ι ζ;refine Ok.bg ⟨aq [(3,.b 1002 0),(4,.b 1004 0),(22,.s (mF x1.1.Ω)),(23,vi (x1.1.Ω.length:Int)),(24,vi s1.1)],[(1002,.box [.m 1003]),(1003,.mp false (aT (fun p=>(p.1,cB p.2)) v1.2.2.2.2)),(1004,.box [.c (.func 237) [] [.b 1000 0,.b 1001 0,.b 1002 0,.b 1004 0]]),(1000,.box (k0 v1.1 v1.2.1 v1.2.2.1)),(1001,.box [vi v1.2.2.2.1])]⟩ ?_ ?_
  ·refine bl (sg ?_);have ⟨x2,ak,ν⟩:=ι ν;refine ⟨_,bq ak,_,br ak,_,rfl,_,rfl,?_⟩;refine sg ?_;have ⟨x3,aK,ν⟩:=ι ν;refine ⟨_,rfl,_,rfl,_,pN cB (z:=(false:Bool)) aK,?_⟩;refine ct ν (fun hb ν=>?_) fun hb ν=>?_
   ·refine sg ?_;have ⟨bu,ν⟩:=aC ν;refine ⟨_,rfl,_,rfl,bu.1,gB (Nat.le_of_eq (ax _)) bu.2,_,iJ cB x2.κ true s1.2.2.2.2.2,?_⟩;refine rg ?_;have ⟨x4,bn,ν⟩:=ι ν;refine ⟨_,rfl,_,rfl,?_⟩;refine cg [(1000,1000),(1001,1001),(1002,1002),(1003,1003),(1004,1004)] [] (IH bn) (n1 (.cons (Ln.b rfl) (.cons (Ln.b rfl) (.cons (Ln.b rfl) (.cons (Ln.b rfl) .nil))))) ⟨⟨1000,_,rfl,rfl,.box nq⟩,⟨1001,_,rfl,rfl,.box nq⟩,⟨1002,_,rfl,rfl,.box (.cons (Ln.mm rfl) .nil)⟩,⟨1003,_,rfl,rfl,.refl rfl⟩,⟨1004,_,rfl,rfl,.box (.cons (Ln.c .nil (.cons (Ln.b rfl) (.cons (Ln.b rfl) (.cons (Ln.b rfl) (.cons (Ln.b rfl) .nil))))) .nil)⟩,Q0⟩ ?_;cases ν;exact wt Q5 ⟨hr,J4⟩ rfl
   refine sk ?_;cases ν;exact wt Q5 ⟨hr,J4⟩ rfl
  refine rg ?_;have ⟨dU,ζ⟩:=aC ζ;refine (ψ ⟨dU,?_⟩);exact ⟨_,sj ζ,wt Q5 ⟨hr,J4⟩ rfl⟩
 refine xt ?_;have ζ:=bd ζ aL;cases ζ;exact wt Q1 ⟨hr,J4⟩ rfl
end Go.Proofs
