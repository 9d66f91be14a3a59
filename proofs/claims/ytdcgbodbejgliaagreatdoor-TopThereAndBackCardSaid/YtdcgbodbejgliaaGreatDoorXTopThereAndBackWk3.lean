/- The walks of this seat beside the plain programs, part 3. No condition. -/
import Derived.Test.YtdcgbodbejgliaaGreatDoorXTopThereAndBackWk2
open Option renaming some->V
open List renaming length_map->au
open Or renaming inl->ah,inr->fJ
namespace Go.Proofs
set_option linter.all false
open Go Go.Cat Tryz
variable[M:cD][K:LK]
set_option maxRecDepth 100000
set_option maxHeartbeats 4000000
def ajG{a d e f g r}(h:J' a d e f g=V r):Ω prog 279 [.s (mI a),.c (.func 244) [] [.b 1000 0,.b 1002 0,.b 1003 0,.b 1004 0]] ⟨aR,[(1000,.box [.b 1001 0]),(1001,.box (b5 d)),(1002,.box [vi e]),(1003,.box [vi f]),(1004,.box [vi g])]⟩ λx s=>x=(vi r.1)/\s.H=[(1000,.box [.b 1001 0]),(1001,.box (k0 r.2.1 r.2.2.1 r.2.2.2)),(1002,.box [vi e]),(1003,.box [vi f]),(1004,.box [vi g])]:=by
 refine pg tok 19 func279 ?_;unfold J' at h;refine sg (Ok.dy (λv1=>⟨Ψ [],[(1000,.box [.b 1001 0]),(1001,.box (k0 v1.1 v1.2.1 v1.2.2)),(1002,.box [vi e]),(1003,.box [vi f]),(1004,.box [vi g])]⟩) (λv1=>Ka v1=V r) ?_ ?_)
 .refine sg ⟨_,au _,λ_=>bl (Ok.loop (λ(s1:Int×eK)=>⟨Ψ [(0,.s (mI a)),(1,.c (.func 244) [] [.b 1000 0,.b 1002 0,.b 1003 0,.b 1004 0]),(7,vi (a.length:Int)),(8,vi s1.1)],[(1000,.box [.b 1001 0]),(1001,.box (k0 s1.2.1 s1.2.2.1 s1.2.2.2)),(1002,.box [vi e]),(1003,.box [vi f]),(1004,.box [vi g])]⟩) (BX a e f g) (s0:=(0,d.Tree.η,d.Tree.Next,d.Tree.ai)) h (wt Q4 ⟨hr,hr,hr,hr,hr,Q0⟩ rfl) ?_)⟩;intro s1 y1 ζ aB;unfold BX at ζ;refine sg (sq (ct ζ (λhb ζ=>?_) λhb ζ=>?_))
  .have⟨x1,Θ,ζ⟩:=ι ζ;have⟨x2,ar,ζ⟩:=ι ζ;refine sk (sq (bl (sg (sg ⟨_,aO Θ,_,aP Θ,_,rfl,cg [(1000,1000),(1001,1001),(1002,1002),(1003,1003),(1004,1004)] [] (ajH ar) (n1 (.cons (Ln.b rfl) (.cons (Ln.b rfl) (.cons (Ln.b rfl) (.cons (Ln.b rfl) .nil))))) ⟨⟨1000,_,rfl,rfl,.box (.cons (Ln.b rfl) .nil)⟩,⟨1001,_,rfl,rfl,.box nq⟩,⟨1002,_,rfl,rfl,.box nq⟩,⟨1003,_,rfl,rfl,.box nq⟩,⟨1004,_,rfl,rfl,.box nq⟩,Q0⟩ (ct ζ (λhb ζ=>?_) λhb ζ=>?_)⟩))))
   .refine sg (rt ?_);have ζ:=aT ζ aB;cases ζ;exact wt Q1 ⟨hr,J4⟩ rfl
   have⟨aj,ζ⟩:=aq ζ;exact sk (rg (ah ⟨aj,_,sj ζ,wt Q4 ⟨hr,J4⟩ rfl⟩))
  refine xt ?_;have ζ:=aT ζ aB;exact⟨_,ζ,wt Q0 ⟨hr,hr,hr,hr,hr,Q0⟩ rfl⟩
 intro v1 h;unfold Ka at h;cases h;exact sg (rt (wt Q1 ⟨hr,J4⟩ rfl))
def ajD{g a d e f r}(h:J7 g a d e f=V r):Ω prog 243 [.s (mI g),.c (.func 244) [] [.b 1000 0,.b 1002 0,.b 1003 0,.b 1004 0]] ⟨aR,[(1000,.box [.b 1001 0]),(1001,.box (b5 a)),(1002,.box [vi d]),(1003,.box [vi e]),(1004,.box [vi f])]⟩ λx s=>x=(vb r.1)/\s.H=[(1000,.box [.b 1001 0]),(1001,.box (k0 r.2.1 r.2.2.1 r.2.2.2)),(1002,.box [vi d]),(1003,.box [vi e]),(1004,.box [vi f])]:=by
 refine pg tok 9 func243 ?_;unfold J7 at h;have⟨x1,Θ,h⟩:=ι h;cases h;exact sg (sg (cg [(1000,1000),(1001,1001),(1002,1002),(1003,1003),(1004,1004)] [] (ajG Θ) (n1 (.cons (Ln.c .nil (.cons (Ln.b rfl) (.cons (Ln.b rfl) (.cons (Ln.b rfl) (.cons (Ln.b rfl) .nil))))) .nil)) ⟨⟨1000,_,rfl,rfl,.box (.cons (Ln.b rfl) .nil)⟩,⟨1001,_,rfl,rfl,.box nq⟩,⟨1002,_,rfl,rfl,.box nq⟩,⟨1003,_,rfl,rfl,.box nq⟩,⟨1004,_,rfl,rfl,.box nq⟩,Q0⟩ (rt (wt Q1 ⟨hr,J4⟩ rfl))))
def ajo{self a d r}(h:Gb self a d=V r):mO prog 188 [.b 1000 0,vi a,vi d] (.box (b5 self)) (λx c=>x=(vb r.1)/\c=.box (b5 r.2)):=by
 refine qv (n:=18) (c:=f188.body.getD .skip) tok func188 (by kernel_rfl) rfl rfl nb ?_;unfold Gb at h;have⟨x1,Θ,h⟩:=ι h;refine sg (sg ⟨_,rfl,_,rfl,Ω.fj (id:=1000) (Zt Θ) rfl (.box lz) rfl (.cons (Lr.b) (.cons (Lr.cP rfl) .nil)) ?_⟩);rintro _ _ ⟨rfl,rfl⟩;have⟨x2,ar,h⟩:=ι h;cases h;exact⟨_,rfl,sg ⟨_,rfl,_,rfl,cg [(1000,3),(1001,1000),(1002,5),(1003,7),(1004,4)] [] (ajD ar) (n1 (.cons (Ln.c .nil (.cons (Ln.b rfl) (.cons (Ln.b rfl) (.cons (Ln.b rfl) (.cons (Ln.b rfl) .nil))))) .nil)) ⟨⟨3,_,rfl,rfl,.box (.cons (Ln.b rfl) .nil)⟩,⟨1000,_,rfl,rfl,.box nq⟩,⟨5,_,rfl,rfl,.box nq⟩,⟨7,_,rfl,rfl,.box nq⟩,⟨4,_,rfl,rfl,.box nq⟩,Q0⟩ (rt ⟨_,_,⟨rfl,rfl⟩,rfl,rfl,Fz.v⟩)⟩⟩
def Zx{f e d r}(h:Ch f e d=V r):Ω prog 180 [.b 1000 0,vi f,vs e] ⟨aR,[(1000,.box (b5 d))]⟩ λx s=>x=(.t [])/\s.H=[(1000,.box (k0 r.1 r.2.1 r.2.2))]:=by
 refine pg tok 34 func180 ?_;unfold Ch at h;have⟨x1,Θ,h⟩:=ι h;refine sg (Ω.fj (id:=1000) (uA Θ) rfl (.box lz) rfl (.cons (Lr.b) (.cons (Lr.cP rfl) .nil)) ?_);rintro _ _ ⟨rfl,rfl⟩;have⟨x2,ar,h⟩:=ι h;refine⟨_,rfl,sg ⟨_,rfl,Ω.call (Cr ar) lz (sg (ct h (λhb h=>?_) λhb h=>?_))⟩⟩
 .have⟨x3,aL,h⟩:=ι h;have⟨aj,h⟩:=aq h;have⟨aX,h⟩:=aq h;have⟨x4,aZ,h⟩:=ι h;cases h;exact sg ⟨_,rfl,Ω.own (D:=25) (KC aL) lz rfl (ah ⟨aj,cg [(1000,25)] [(900,25)] (adO x3 x2.1 (x2.1+1) aX) (.cons (Ln.o rfl) nq) ⟨⟨25,_,rfl,rfl,.refl rfl⟩,Q0⟩ ⟨_,rfl,rg ⟨_,rfl,cg [(1000,1000),(1001,25)] [(19,999)] (Re aZ) (.cons (Ln.b rfl) (.cons (Ln.a (n4 (.cons (Ln.o rfl) nq))) .nil)) ⟨⟨1000,_,rfl,rfl,.box nq⟩,⟨25,_,rfl,rfl,.refl rfl⟩,Q0⟩ ((Wk.freeze (id:=999) rfl).trans (wt Q1 ⟨hr,Q0⟩ rfl))⟩⟩⟩)⟩
 cases h;exact sk (wt Q1 J1 rfl)
def ajK{d e r}(h:Ge d e=V r):Ω prog 181 [.b 1000 0,.a (b4 d)] ⟨aR,[(1000,.box (b5 e))]⟩ λx s=>x=(.t [])/\s.H=[(1000,.box (k0 r.1 r.2.1 r.2.2))]:=by
 refine pg tok 18 func181 ?_;unfold Ge at h;refine sg (sq (sg ⟨_,rfl,ct h (λhb h=>?_) λhb h=>?_⟩))
 .have⟨x1,Θ,h⟩:=ι h;cases h;exact sg ⟨_,rfl,cg [(1000,1000)] [] (Zw Θ) (.cons (Ln.b rfl) nq) ⟨⟨1000,_,rfl,rfl,.box nq⟩,Q0⟩ (rt (wt Q1 J1 rfl))⟩
 have⟨aj,h⟩:=aq h;have⟨x2,ar,h⟩:=ι h;cases h;exact sk (sg ⟨_,rfl,ah ⟨aj,_,rfl,rg ⟨_,rfl,cg [(1000,1000)] [(19,999)] (Rc ar) (.cons (Ln.b rfl) nq) ⟨⟨1000,_,rfl,rfl,.box nq⟩,Q0⟩ ((Wk.freeze (id:=999) rfl).trans (wt Q1 ⟨hr,Q0⟩ rfl))⟩⟩⟩)
def ajJ{g d e f r}(h:Gc g d e f=V r):Ω prog 168 [.b 1000 0,vi g,vs d,vi e] ⟨aR,[(1000,.box (b5 f))]⟩ λx s=>x=(.t [])/\s.H=[(1000,.box [.o 999,vi r.1,vi r.2.1]),(999,.own 44 6 (mI r.2.2))]:=by
 refine pg tok 51 func168 ?_;unfold Gc at h;have⟨x1,Θ,h⟩:=ι h;refine sg (Ω.fj (id:=1000) (uA Θ) rfl (.box lz) rfl (.cons (Lr.b) (.cons (Lr.cP rfl) .nil)) ?_);rintro _ _ ⟨rfl,rfl⟩;have⟨x2,ar,h⟩:=ι h;have⟨x3,aL,h⟩:=ι h;have⟨aj,h⟩:=aq h;have⟨aX,h⟩:=aq h;have⟨x4,aZ,h⟩:=ι h;cases h;exact⟨_,rfl,sg ⟨_,rfl,Ω.call (Cr ar) lz (sq (Ok.xC (E:=eI) (chain:=[(2,[3,4,5,6,7,8,9,10,11,12,14]),(13,[14]),(15,[])]) tok mixed (by kernel_rfl) ⟨_,rfl,_,⟨_,rfl,rfl⟩,_,rfl,_,rfl,_,rfl,_,rfl,_,rfl,_,rfl,_,rfl,_,⟨_,rfl,rfl⟩,_,rfl,_,rfl,_,rfl,ah (Ω.own (D:=26) (KC aL) lz rfl ⟨⟨⟨_,rfl,rfl⟩,⟨_,rfl,rfl⟩,⟨_,rfl,rfl⟩,⟨_,rfl,rfl⟩,⟨_,rfl,rfl⟩,⟨_,rfl,rfl⟩,⟨_,rfl,rfl⟩,⟨_,rfl,_,rfl,rfl⟩,⟨_,rfl,rfl⟩,⟨_,rfl,rfl⟩,⟨_,rfl,rfl⟩,Q0⟩,ah (cg [(1000,26)] [(900,26)] (Vn x3 x2.1 ([(⟨d,e,x1.2.Tree.ai⟩:aH)]) aj) (.cons (Ln.o rfl) nq) ⟨⟨26,_,rfl,rfl,.refl rfl⟩,Q0⟩ ⟨⟨⟨_,rfl,rfl⟩,Q0⟩,ah (⟨_,rfl,Q0,sg ⟨_,rfl,ah ⟨aX,_,rfl,rg ⟨_,rfl,cg [(1000,1000),(1001,26)] [(19,999)] (Re aZ) (.cons (Ln.b rfl) (.cons (Ln.a (n4 (.cons (Ln.o rfl) nq))) .nil)) ⟨⟨1000,_,rfl,rfl,.box nq⟩,⟨26,_,rfl,rfl,.refl rfl⟩,Q0⟩ (wt Q1 J2 rfl)⟩⟩⟩⟩)⟩)⟩)⟩))⟩⟩
def ajk{c f g d e r}(h:Cb c f g d e=V r):Pure prog 120 [.a (b0 c),vi f,vs g,vi d,vs e] (.t [.a (b0 r.1),vi r.2.1,vi r.2.2]):=by
 refine pq tok 173 func120 ?_;unfold Cb at h;have⟨x1,Θ,h⟩:=ι h;refine sg (sg ⟨_,rfl,Ω.call (Q9 Θ) lz (sq (sg (ct h (λhb h=>?_) λhb h=>?_)))⟩)
 .cases h;exact sg ⟨_,rfl,_,rfl,rt ⟨_,rfl,Fz.t fq⟩⟩
 have⟨x2,ar,h⟩:=ι h;refine sk (sg ⟨_,rfl,sg (Ω.fj (id:=38) (KA ar) rfl (.box lz) rfl (.cons (Lr.b) (.cons (Lr.cP rfl) .nil)) ?_)⟩);rintro _ _ ⟨rfl,rfl⟩;refine⟨_,rfl,sq (sg (ct h (λhb h=>?_) λhb h=>?_))⟩
 .cases h;exact sg ⟨_,rfl,_,rfl,rt ⟨_,rfl,Fz.t fq⟩⟩
 have⟨x3,aL,h⟩:=ι h;refine sk (sq (sg (Ω.call (Ks aL) lz (ct h (λhb h=>?_) λhb h=>?_))))
 .cases h;exact sg ⟨_,rfl,_,rfl,rt ⟨_,rfl,Fz.t fq⟩⟩
 have⟨x4,aZ,h⟩:=ι h;refine sk (sg (Ω.fj (id:=38) (uA aZ) rfl (.box lz) rfl (.cons (Lr.b) (.cons (Lr.cP rfl) .nil)) ?_));rintro _ _ ⟨rfl,rfl⟩;have⟨x5,bT,h⟩:=ι h;have⟨v1,ν,h⟩:=ι h;refine⟨_,rfl,sg (sg ⟨_,rfl,Ω.call (Cr bT) lz (Ok.aD ⟨Ψ [(1,vi f),(2,vs g),(3,vi d),(4,vs e),(5,.b 5 0),(10,.b 10 0),(13,vi x1.1),(15,.b 38 0),(16,.b 16 0),(17,.b 17 0),(19,.b 19 0),(21,vb x5.2)],[(5,.box (b0 c)),(10,.box (k1 0 0)),(38,.box (k0 v1.1 v1.2.1 v1.2.2.1)),(16,.box (b4 x2.1.1)),(17,.box (b4 x4.1.1)),(19,.box (k8 v1.2.2.2.1 v1.2.2.2.2.1 v1.2.2.2.2.2.1 v1.2.2.2.2.2.2.1 v1.2.2.2.2.2.2.2.1 (t8 v1)))]⟩ ?_ ?_)⟩)⟩
 .refine sg (ct ν (λhb ν=>?_) λhb ν=>?_)
  .have⟨x6,dg,ν⟩:=ι ν;have⟨x7,du,ν⟩:=ι ν;refine rg ⟨_,rfl,_,aO dg,_,aP dg,_,rfl,Ω.fj (id:=38) (uA du) rfl (.box lz) rfl (.cons (Lr.b) (.cons (Lr.cP rfl) .nil)) ?_⟩;rintro _ _ ⟨rfl,rfl⟩;refine⟨_,rfl,?_⟩;cases ν;exact wt ⟨lr,lr,lr,lr,Q8⟩ ⟨hr,hr,J4⟩ rfl
  refine sk ?_;cases ν;exact wt ⟨lr,lr,lr,lr,Q8⟩ ⟨hr,hr,hr,hr,hr,⟨_,rfl,.box (l2 (l1 (.cons (Le.nil) (.cons (Le.nil) lz))))⟩,Q0⟩ rfl
 refine sq (sg ⟨_,rfl,ct h (λhb h=>?_) λhb h=>?_⟩)
 .cases h;exact sg ⟨_,rfl,_,rfl,rt ⟨_,rfl,Fz.t fq⟩⟩
 have⟨x8,eJ,h⟩:=ι h;refine sk (sg (Ω.fj (id:=38) (Q_ eJ) rfl (.box lz) rfl (.cons (Lr.b) (.cons (Lr.cP rfl) .nil)) ?_));rintro _ _ ⟨rfl,rfl⟩;have⟨v2,Φ,h⟩:=ι h;refine sq (Ok.aD ⟨Ψ [(1,vi f),(2,vs g),(3,vi d),(4,vs e),(5,.b 5 0),(10,.b 10 0),(13,vi x1.1),(15,.b 38 0),(16,.b 16 0),(17,.b 17 0),(19,.b 19 0),(21,vb x5.2),(22,.s (mB x8.1)),(92,vb v2)],[(5,.box (b0 c)),(10,.box (k1 0 0)),(38,.box (b5 x8.2)),(16,.box (b4 x2.1.1)),(17,.box (b4 x4.1.1)),(19,.box (k8 v1.2.2.2.1 v1.2.2.2.2.1 v1.2.2.2.2.2.1 v1.2.2.2.2.2.2.1 v1.2.2.2.2.2.2.2.1 (t8 v1)))]⟩ ?_ ?_)
 .have⟨c1,ξ,Φ⟩:=ι Φ;refine rg ⟨_,rfl,Br.ite ξ (λhb ξ=>?_) λhb ξ=>?_⟩
  .have⟨x9,ga,ξ⟩:=ι ξ;refine Ω.call (Zm ga) lz ?_;cases ξ;cases Φ;exact wt ⟨lr,lr,lr,lr,lr,lr,Q8⟩ ⟨hr,hr,J4⟩ rfl
  cases ξ;cases Φ;exact wt ⟨lr,lr,lr,lr,lr,lr,Q8⟩ ⟨hr,hr,J4⟩ rfl
 refine ct h (λhb h=>?_) λhb h=>?_
 .cases h;exact sg ⟨_,rfl,_,rfl,rt ⟨_,rfl,Fz.t fq⟩⟩
 refine sk (Ok.dy (λv3=>⟨Ψ [(1,vi f),(2,vs g),(3,vi d),(4,vs e),(5,.b 5 0),(10,.b 10 0),(13,vi x1.1),(15,.b 38 0),(16,.b 16 0),(17,.b 17 0),(19,.b 19 0),(21,vb x5.2),(22,.s (mB x8.1))],[(5,.box (b0 c)),(10,.box (k1 0 0)),(38,.box (b5 x8.2)),(16,.box (b4 x2.1.1)),(17,.box (b4 x4.1.1)),(19,.box (k8 v1.2.2.2.1 v1.2.2.2.2.1 v1.2.2.2.2.2.1 v1.2.2.2.2.2.2.1 v1.2.2.2.2.2.2.2.1 (t8 v1)))]⟩) (λv3=>Cc x5 d f x2 x8 x4 x1 c g e v1 v3=V r) ?_ ?_)
 .refine sg (ct h (λhb h=>?_) λhb h=>?_)
  .have⟨dI,gQ,h⟩:=ι h;refine sg ⟨_,rfl,_,rfl,Ω.call (ajq gQ) lz (sg (ct h (λhb h=>?_) λhb h=>?_))⟩
   .cases h;exact sg ⟨_,rfl,_,rfl,rt ⟨_,rfl,Fz.t fq⟩⟩
   exact sk ⟨_,h,wt ⟨lr,lr,lr,lr,lr,Q8⟩ ⟨hr,hr,hr,hr,hr,hr,Q0⟩ rfl⟩
  exact sk ⟨_,h,wt ⟨lr,lr,lr,lr,lr,Q8⟩ ⟨hr,hr,hr,hr,hr,hr,Q0⟩ rfl⟩
 intro v3 h;unfold Cc at h;have⟨v4,aU,h⟩:=ι h;refine Ok.aD ⟨Ψ [(1,vi f),(2,vs g),(3,vi d),(4,vs e),(5,.b 5 0),(10,.b 10 0),(13,vi x1.1),(15,.b 38 0),(17,.b 17 0),(19,.b 19 0),(21,vb x5.2),(22,.s (mB x8.1)),(24,vb v4)],[(5,.box (b0 c)),(10,.box (k1 0 0)),(38,.box (b5 x8.2)),(17,.box (b4 x4.1.1)),(19,.box (k8 v1.2.2.2.1 v1.2.2.2.2.1 v1.2.2.2.2.2.1 v1.2.2.2.2.2.2.1 v1.2.2.2.2.2.2.2.1 (t8 v1)))]⟩ ?_ ?_
 .have⟨c2,az,aU⟩:=ι aU;refine rg (Br.ite az (λhb az=>?_) λhb az=>?_)
  .cases az;have⟨c3,aQ,aU⟩:=ι aU;refine Br.ite aQ (λhb aQ=>?_) λhb aQ=>?_
   .refine⟨_,rfl,_,au _,λ_=>?_⟩;cases aQ;cases aU;exact wt ⟨lr,lr,lr,lr,lr,Q8⟩ ⟨hr,J4⟩ rfl
   cases aQ;cases aU;exact wt ⟨lr,lr,lr,lr,lr,Q8⟩ ⟨hr,J4⟩ rfl
  cases az;have⟨c3,bC,aU⟩:=ι aU;replace bC:=dE bC;cases bC;cases aU;exact wt ⟨lr,lr,lr,lr,lr,Q8⟩ ⟨hr,J4⟩ rfl
 have⟨v5,bh,h⟩:=ι h;refine sq (Ok.aD ⟨Ψ [(1,vi f),(2,vs g),(3,vi d),(4,vs e),(5,.b 5 0),(10,.b 10 0),(13,vi x1.1),(15,.b 38 0),(17,.b 17 0),(19,.b 19 0),(21,vb x5.2),(140,vb v5.1)],[(5,.box (b0 c)),(10,.box (k1 0 0)),(38,.box (k0 v5.2.1 v5.2.2.1 v5.2.2.2)),(17,.box (b4 x4.1.1)),(19,.box (k8 v1.2.2.2.1 v1.2.2.2.2.1 v1.2.2.2.2.2.1 v1.2.2.2.2.2.2.1 v1.2.2.2.2.2.2.2.1 (t8 v1)))]⟩ ?_ ?_)
 .have⟨c4,bX,bh⟩:=ι bh;refine rg (Br.cA bX (λhb bX=>?_) λhb bX=>?_)
  .cases bX;have⟨c6,cI,bh⟩:=ι bh;replace cI:=dS cI;cases cI;have⟨c7,cJ,bh⟩:=ι bh;replace cJ:=dS cJ;cases cJ;cases bh;exact wt ⟨lr,lr,lr,lr,Q8⟩ ⟨hr,J4⟩ rfl
  refine⟨_,au _,λ_=>?_⟩;cases bX;have⟨c6,c9,bh⟩:=ι bh;refine Br.cA c9 (λhb c9=>?_) λhb c9=>?_
  .cases c9;have⟨c7,dr,bh⟩:=ι bh;replace dr:=dS dr;cases dr;cases bh;exact wt ⟨lr,lr,lr,lr,Q8⟩ ⟨hr,J4⟩ rfl
  have⟨c5,dY,c9⟩:=ι c9;refine⟨_,rfl,Br.ite dY (λhb dY=>?_) λhb dY=>?_⟩
  .have⟨ez,jT,dY⟩:=ι dY;refine⟨_,au _,λ_=>Ω.fj (id:=38) (ajo jT) rfl (.box lz) rfl (.cons (Lr.b) (.cons (Lr.cP rfl) (.cons (Lr.cP rfl) .nil))) ?_⟩;rintro _ _ ⟨rfl,rfl⟩;cases dY;cases c9;have⟨c7,iU,bh⟩:=ι bh;refine Br.cA iU (λhb iU=>?_) λhb iU=>?_
   .cases iU;cases bh;exact wt ⟨lr,lr,lr,lr,Q8⟩ ⟨hr,J4⟩ rfl
   refine⟨_,rfl,?_⟩;cases iU;cases bh;exact wt ⟨lr,lr,lr,lr,Q8⟩ ⟨hr,J4⟩ rfl
  cases dY;cases c9;have⟨c7,iV,bh⟩:=ι bh;replace iV:=dE iV;refine⟨_,rfl,?_⟩;cases iV;cases bh;exact wt ⟨lr,lr,lr,lr,Q8⟩ ⟨hr,J4⟩ rfl
 refine ct h (λhb h=>?_) λhb h=>?_
 .cases h;exact sg ⟨_,rfl,_,rfl,rt ⟨_,rfl,Fz.t fq⟩⟩
 have⟨dU,kb,h⟩:=ι h;have⟨v6,de,h⟩:=ι h;refine sk (sg (cg [(1000,38)] [] (Zx kb) (.cons (Ln.b rfl) nq) ⟨⟨38,_,rfl,rfl,.box nq⟩,Q0⟩ (Ok.aD ⟨Ψ [(3,vi d),(4,vs e),(10,.b 10 0),(13,vi x1.1),(15,.b 38 0),(17,.b 17 0),(19,.b 19 0)],[(10,.box (k1 0 0)),(38,.box (k0 v6.1 v6.2.1 v6.2.2)),(17,.box (b4 x4.1.1)),(19,.box (k8 v1.2.2.2.1 v1.2.2.2.2.1 v1.2.2.2.2.2.1 v1.2.2.2.2.2.2.1 v1.2.2.2.2.2.2.2.1 (t8 v1)))]⟩ ?_ ?_)))
 .refine sg (ct de (λhb de=>?_) λhb de=>?_)
  .have⟨fy,nV,de⟩:=ι de;have⟨ly,vR,de⟩:=ι de;refine sg (cg [(1000,38)] [] (Zx nV) (.cons (Ln.b rfl) nq) ⟨⟨38,_,rfl,rfl,.box nq⟩,Q0⟩ (rg ⟨_,rfl,cg [(1000,38)] [] (ajK vR) (.cons (Ln.b rfl) nq) ⟨⟨38,_,rfl,rfl,.box nq⟩,Q0⟩ ?_⟩));cases de;exact wt Q7 J4 rfl
  refine sk ?_;cases de;exact wt Q7 J4 rfl
 have⟨v7,fM,h⟩:=ι h;refine Ok.aD ⟨Ψ [(3,vi d),(4,vs e),(10,.b 10 0),(13,vi x1.1),(15,.b 38 0),(19,.b 19 0)],[(10,.box (k1 0 0)),(38,.box (k0 v7.1 v7.2.1 v7.2.2)),(19,.box (k8 v1.2.2.2.1 v1.2.2.2.2.1 v1.2.2.2.2.2.1 v1.2.2.2.2.2.2.1 v1.2.2.2.2.2.2.2.1 (t8 v1)))]⟩ ?_ ?_
 .refine sg ⟨_,rfl,ct fM (λhb fM=>?_) λhb fM=>?_⟩
  .have⟨sZ,D5,fM⟩:=ι fM;refine sg ⟨_,rfl,rg ⟨_,rfl,cg [(1000,38)] [(19,999)] (Rc D5) (.cons (Ln.b rfl) nq) ⟨⟨38,_,rfl,rfl,.box nq⟩,Q0⟩ ?_⟩⟩;cases fM;exact(Wk.freeze (id:=999) rfl).trans (wt Q6 ⟨hr,hr,hr,Q0⟩ rfl)
  refine sk ?_;cases fM;exact wt Q6 J3 rfl
 have⟨wU,NR,h⟩:=ι h;cases h;exact sg (cg [(1000,38)] [(999,998)] (ajJ NR) (.cons (Ln.b rfl) nq) ⟨⟨38,_,rfl,rfl,.box nq⟩,Q0⟩ (sq (Ok.iG (m:=6) (late:=[4,5]) (MD:=⟨[]⟩) (CH:=⟨[]⟩) tok mixed (by kernel_rfl) ⟨_,rfl,_,rfl,_,rfl,_,⟨_,rfl,rfl⟩,_,rfl,_,⟨_,rfl,rfl⟩,Q0,_,rfl,⟨⟨_,rfl,rfl⟩,⟨_,rfl,_,rfl,rfl⟩,Q0⟩,rt ⟨_,rfl,Fz.t (.cons (Fz.a (.cons (Fz.o rfl) fq)) fq)⟩⟩)))
def ajv[oC]{C D F G I J K L a N d e f g i j k l u B w z A}{q:Int⊕(Cm)}(h:De C D F G I J K L a N d e f g i j k l u B w z A=V q):kQ prog eI 66 [.b 1000 0] ⟨aR,[(1000,.box (iK C D F G I J K L a N d e f g i j k l u B w z A))]⟩ (λx s=>∃y:Cm,q=.inr y/\x=(.t [])/\s.H=[(1000,.box [.s (mI y.1),vi y.2.1,vi y.2.2.1,vi y.2.2.2.1,.s (mB y.2.2.2.2.1),.s (mD y.2.2.2.2.2.1),.s (mE y.2.2.2.2.2.2.1),vi y.2.2.2.2.2.2.2.1,.s (mF a),.o 999,vi d,vi e,vs f,vs g,vi i,vi j,vi k,.s (mU l),vi u,vi (t8 y).1,vi w,vi z,vi A,zs,zs]),(999,.own 86 3 (mA (t8 y).2))]) λm s=>q=.inl m/\s.H=[]:=by
 refine px tok 74 func66 ?_;unfold De at h;have⟨x1,Θ,h⟩:=ι h;refine sq (Ok.jI eI tok (ah (ah (ah (ah (ah (ah (⟨_,rfl,fJ (cx [(1000,1000)] [] (Ra Θ) (.cons (Ln.b rfl) nq) ⟨⟨1000,_,rfl,rfl,.box nq⟩,Q0⟩ (λe1 cW=>?_) (λy1 gq=>?_))⟩))))))))
 .have h:=iy h cW;cases h;exact⟨_,rfl,rfl⟩
 have h:=iz h gq;have⟨x2,ar,h⟩:=ι h;refine ah (ah (ah (ah (ah (sq (Ok.jI eI tok (ah (ah (ah (ah (ah (ah (⟨_,rfl,fJ (cx [(1000,1000)] [] (Ra ar) (.cons (Ln.b rfl) nq) ⟨⟨1000,_,rfl,rfl,.box nq⟩,Q0⟩ (λe2 j7=>?_) (λy2 mj=>?_))⟩)))))))))))))
 .have h:=iy h j7;cases h;exact⟨_,rfl,rfl⟩
 have h:=iz h mj;have⟨x3,aL,h⟩:=ι h;have⟨x4,aZ,h⟩:=ι h;refine ah (ah (ah (ah (ah (sg ⟨_,rfl,Ω.call (Q9 aL) lz (sq (Ok.jI eI tok (ah (fJ (cx [] [] (wR aZ) nq Q0 (λe3 qZ=>?_) (λy3 qp=>?_))))))⟩)))))
 .have h:=iy h qZ;cases h;exact⟨_,rfl,rfl⟩
 have h:=iz h qp;have⟨x5,bT,h⟩:=ι h;have⟨x6,dg,h⟩:=ι h;refine sg ⟨_,rfl,Ω.call (ajk bT) lz ⟨_,rfl,sq (Ok.jI eI tok (ah (fJ (cx [] [] (wR dg) nq Q0 (λe4 oL=>?_) (λy4 Np=>?_)))))⟩⟩
 .have h:=iy h oL;cases h;exact⟨_,rfl,rfl⟩
 have h:=iz h Np;have⟨x7,du,h⟩:=ι h;refine sq (Ok.xC (E:=eI) (chain:=[(7,[])]) tok mixed (by kernel_rfl) ⟨_,rfl,_,⟨_,rfl,rfl⟩,_,rfl,_,rfl,_,rfl,_,rfl,_,⟨_,rfl,rfl⟩,fJ (cx [(1000,1000)] [(35,999)] (Zv du) (.cons (Ln.b rfl) nq) ⟨⟨1000,_,rfl,rfl,.box nq⟩,Q0⟩ (λe5 MM=>?_) (λy5 DT=>?_))⟩)
 .have h:=iy h MM;cases h;exact⟨_,rfl,rfl⟩
 have h:=iz h DT;cases h;exact⟨Q0,rg ⟨_,rfl,_,rfl,wt Q1 J2 rfl⟩⟩
def ajh{c d r}(h:QB c d=V r):Pure prog 191 [.a (b6 c),.p [vi d]] (vb r):=by
 refine pq tok 8 func191 ?_;unfold QB at h;cases h;exact sg (sg ⟨_,rfl,_,rfl,rt Fz.v⟩)
def ai6{a b r}(h:Qb a b=V r):Pure prog 134 [.s (mC a),.c (.func 191) [] [.p [vi b]]] (vi r):=by
 refine pq tok 19 func134 ?_;unfold Qb at h;refine sg (Ok.dy (λv1=>⟨Ψ [],[]⟩) (λv1=>Qd v1=V r) ?_ ?_)
 .refine sg ⟨_,au _,λ_=>bl (Ok.loop (λ(s1:Int)=>⟨Ψ [(0,.s (mC a)),(1,.c (.func 191) [] [.p [vi b]]),(7,vi (a.length:Int)),(8,vi s1)],[]⟩) (Qc a b) (s0:=0) h (wt Q4 Q0 rfl) ?_)⟩;intro s1 y1 ζ aB;unfold Qc at ζ;refine sg (sq (ct ζ (λhb ζ=>?_) λhb ζ=>?_))
  .have⟨x1,Θ,ζ⟩:=ι ζ;have⟨x2,ar,ζ⟩:=ι ζ;refine sk (sq (bl (sg (sg ⟨_,aO Θ,_,aP Θ,_,rfl,Ω.call (ajh ar) lz (ct ζ (λhb ζ=>?_) λhb ζ=>?_)⟩))))
   .refine sg (rt ?_);have ζ:=aT ζ aB;cases ζ;exact Fz.v
   have⟨aj,ζ⟩:=aq ζ;exact sk (rg (ah ⟨aj,_,sj ζ,wt Q4 Q0 rfl⟩))
  refine xt ?_;have ζ:=aT ζ aB;exact⟨_,ζ,wt Q0 Q0 rfl⟩
 intro v1 h;unfold Qd at h;cases h;exact sg (rt Fz.v)
def aji{c d r}(h:Km c d=V r):Pure prog 191 [.a (b6 c),.p [vi d]] (vb r):=by
 refine pq tok 8 func191 ?_;unfold Km at h;cases h;exact sg (sg ⟨_,rfl,_,rfl,rt Fz.v⟩)
def ajE{g e r}(h:J9 g e=V r):Ω prog 189 [.o 1000,.c (.func 191) [] [.b 1001 0]] ⟨aR,[(1000,.own 138 3 (mC g)),(1001,.box [vi e])]⟩ λx s=>x=(.o 999)/\s.H=[(999,.own 138 3 (mC r)),(1001,.box [vi e])]:=by
 refine pg tok 42 func189 ?_;unfold J9 at h;have⟨x1,Θ,h⟩:=ι h;refine sg (sg (Ω.borrow (ai6 Θ) (.cons (Fz.o rfl) (.cons (Fz.c .nil (.cons (Fz.b rfl rfl) .nil)) .nil)) rfl (sq (sg (ct h (λhb h=>?_) λhb h=>?_)))))
 .cases h;exact sg (rt ((Wk.mv (i:=1000) (d:=999) rfl rfl rfl).trans (wt Q1 ⟨hr,hr,Q0⟩ rfl)))
 have⟨v1,ν,h⟩:=ι h;refine sk (Ok.aD ⟨Ψ [(0,.o 1000),(5,vi v1.1)],[(1000,.own 138 3 (mC v1.2)),(1001,.box [vi e])]⟩ ?_ ?_)
 .have⟨aj,ν⟩:=aq ν;refine sg (ah ⟨aj,bl (Ok.loop (λ(s1:Int×Int×(List aH))=>⟨Ψ [(0,.o 1000),(1,.c (.func 191) [] [.b 1001 0]),(5,vi s1.1),(6,vi s1.2.1)],[(1000,.own 138 3 (mC s1.2.2)),(1001,.box [vi e])]⟩) (P9 e) (s0:=(x1,x1+1,g)) ν (wt Q4 ⟨hr,hr,Q0⟩ rfl) ?_)⟩);intro s1 y1 ζ aB;unfold P9 at ζ;refine sq (sg ⟨_,au _,λ_=>ct ζ (λhb ζ=>?_) λhb ζ=>?_⟩)
  .have⟨v2,Φ,ζ⟩:=ι ζ;refine sk (Ok.aD ⟨Ψ [(0,.o 1000),(1,.c (.func 191) [] [.b 1001 0]),(5,vi v2.1),(6,vi s1.2.1)],[(1000,.own 138 3 (mC v2.2)),(1001,.box [vi e])]⟩ ?_ ?_)
   .have⟨x2,ar,Φ⟩:=ι Φ;have⟨x3,aL,Φ⟩:=ι Φ;refine bl (sg ⟨_,aO ar,ll ar,_,aP ar,rfl,_,rfl,_,rfl,sg ⟨_,rfl,Ω.borrow (aji aL) (.cons (Fz.a fq) (.cons (Fz.b rfl rfl) .nil)) rfl (ct Φ (λhb Φ=>?_) λhb Φ=>?_)⟩⟩)
    .have⟨x4,aZ,Φ⟩:=ι Φ;have⟨aX,Φ⟩:=aq Φ;refine sg ⟨_,rfl,_,aO aZ,ll aZ,_,aP aZ,rfl,_,rfl,_,zq (f:=fB) (x:=x2),rg (ah ⟨aX,?_⟩)⟩;cases Φ;exact wt Q4 J2 rfl
    refine sk ?_;cases Φ;exact wt Q4 J2 rfl
   have⟨bY,ζ⟩:=aq ζ;exact rg (ah ⟨bY,_,sj ζ,wt Q4 J2 rfl⟩)
  refine xt ?_;have ζ:=aT ζ aB;cases ζ;exact wt Q2 J2 rfl
 have⟨dL,h⟩:=aq h;have⟨fL,h⟩:=aq h;cases h;exact sg ⟨_,gJ dL.1,JZ dL,_,SH (f:=fB) (z:=((⟨[],0,0⟩:aH):aH)) v1.2 (v1.1.toNat),sq (Ok.wk (Wk.mv (i:=1000) (d:=999) rfl rfl rfl) (rg ⟨_,gJ fL.1,JZ fL,_,(List.map_take (f:=fB)).symm,rt (wt Q1 J2 rfl)⟩))⟩
def ajj{c d r}(h:Ca c d=V r):Pure prog 193 [.a (b6 c),.a (b6 d)] (vi r):=by
 refine pq tok 10 func193 ?_;unfold Ca at h;have⟨x1,Θ,h⟩:=ι h;cases h;exact sg (sg ⟨_,rfl,_,rfl,Ω.call (Kr Θ) lz (rt Fz.v)⟩)
def ajg{d i g e r}(h:wL d i g e=V r):Pure prog 121 [.a (b0 d),vi i,vi g,vi e] (.t (VJ r.1 r.2.1 r.2.2)):=by
 refine pq tok 58 func121 ?_;unfold wL at h;have⟨v1,ν,h⟩:=ι h;refine sg (sq (Ok.aD ⟨Ψ [(1,vi i),(3,vi e),(4,.b 4 0),(6,.b 6 0),(23,vb v1)],[(4,.box (b0 d)),(6,.box [vi g])]⟩ ?_ ?_))
 .have⟨c1,ξ,ν⟩:=ι ν;refine rg ⟨_,rfl,Br.cA ξ (λhb ξ=>?_) λhb ξ=>?_⟩
  .cases ξ;have⟨c2,az,ν⟩:=ι ν;replace az:=dS az;cases az;cases ν;exact wt Q5 J2 rfl
  cases ξ;have⟨c2,aQ,ν⟩:=ι ν;refine Br.cA aQ (λhb aQ=>?_) λhb aQ=>?_
  .cases aQ;cases ν;exact wt Q5 J2 rfl
  cases aQ;cases ν;exact wt Q5 J2 rfl
 refine ct h (λhb h=>?_) λhb h=>?_
 .cases h;exact sg (rt (Fz.t (.cons Fz.nil fq)))
 have⟨x1,Θ,h⟩:=ι h;refine sk (sg ⟨_,rfl,Ω.fj (id:=27) (KA Θ) rfl (.box lz) rfl (.cons (Lr.b) (.cons (Lr.cP rfl) .nil)) ?_⟩);rintro _ _ ⟨rfl,rfl⟩;refine⟨_,rfl,sq (sg (ct h (λhb h=>?_) λhb h=>?_))⟩
 .cases h;exact sg (rt (Fz.t (.cons Fz.nil fq)))
 have⟨x2,ar,h⟩:=ι h;have⟨x3,aL,h⟩:=ι h;have⟨x4,aZ,h⟩:=ι h;refine sk (sg ⟨_,rfl,Ω.own (D:=37) (KC ar) lz rfl (cg [(1000,37),(1001,6)] [(999,37)] (ajE aL) (.cons (Ln.o rfl) (.cons (Ln.c .nil (.cons (Ln.b rfl) .nil)) .nil)) ⟨⟨37,_,rfl,rfl,.refl rfl⟩,⟨6,_,rfl,rfl,.box nq⟩,Q0⟩ (sg (Ω.fj (id:=37) (afJ (E:=138) (enc:=fB) agU ab1 (λ_=>rfl) (λ_ _ _ h=>ajj (M:=cD.yes) h) (enters_of func193 (by kernel_rfl) rfl) aZ) rfl (.refl _) rfl (.cons Lr.o (.cons (Lr.cP rfl) .nil)) ?_)))⟩);rintro _ _ ⟨rfl,rfl⟩;refine sq (sg ⟨_,au _,λ_=>ct h (λhb h=>?_) λhb h=>?_⟩)
 .cases h;exact sg (rt (Fz.t (.cons (Fz.o rfl) fq)))
 have⟨aj,h⟩:=aq h;have⟨aX,h⟩:=aq h;have⟨x5,bT,h⟩:=ι h;have⟨bY,h⟩:=aq h;cases h;exact sk (sq (Ok.wk (Wk.freeze (id:=37) rfl) (dw 14 tok mixed ⟨_,rfl,_,rfl,_,rfl,_,⟨_,_,gJ aj.1,gJ (zt aj),P1 aj,P2 aj,oc (f:=fB) (K:=3) (λ_=>rfl) x4,_,(List.map_take (f:=fB)).symm,rfl⟩,_,rfl,_,rfl,_,ah ⟨aX,rfl⟩,_,⟨_,aO bT,_,aP bT,rfl⟩,_,rfl,_,⟨_,rfl,rfl⟩,_,ah ⟨bY,rfl⟩,_,rfl,_,rfl,_,rfl,Q0,rt (Fz.t (.cons Fz.s fq))⟩)))
def ajL{a r}(h:As a=V r):j5 prog 122 [.s (mC a)] 9 1 (mG r):=by
 refine pv tok 19 func122 ?_;unfold As at h;have⟨v1,ν,h⟩:=ι h;refine sg (sg (Ok.aD ⟨Ψ [(3,.o 16)],[(16,.own 9 1 (mG v1))]⟩ ?_ ?_))
 .refine sg ⟨_,au _,λ_=>bl (Ok.loop (λ(s1:Int×(List (List UInt8)))=>⟨Ψ [(3,.o 16),(6,.s (mC a)),(7,vi (a.length:Int)),(8,vi s1.1)],[(16,.own 9 1 (mG s1.2))]⟩) (Hn a) (s0:=(0,[])) ν ((Wk.oW (t:=3) (id:=16) (E:=9) (K:=1) rfl rfl).trans (wt Q4 ⟨hr,Q0⟩ rfl)) ?_)⟩;intro s1 y1 ζ aB;unfold Hn at ζ;refine sg (sq (ct ζ (λhb ζ=>?_) λhb ζ=>?_))
  .have⟨x1,Θ,ζ⟩:=ι ζ;have⟨aj,ζ⟩:=aq ζ;have⟨aX,ζ⟩:=aq ζ;exact sk (sq (bl (sg ⟨_,aO Θ,_,aP Θ,_,rfl,_,rfl,rg ⟨_,rfl,ah ⟨c_ (f:=fg) (n:=1) (λ_=>rfl) ([x1.aC]),c8 (f:=fg) (l:=s1.2) (l':=[x1.aC]) aj,_,(List.map_append (f:=fg) (l₁:=s1.2) (l₂:=[x1.aC])).symm,rg (ah ⟨aX,_,sj ζ,wt Q4 J1 rfl⟩)⟩⟩⟩)))
  refine xt ?_;have ζ:=aT ζ aB;cases ζ;exact wt Q1 J1 rfl
 cases h;exact sg (rt (.inr ⟨_,rfl,rfl⟩))
def ahU{a r}(h:As a=V r):Pure prog 122 [.s (mC a)] (.s (mG r)):=(ajL h).pure
def ajr{a d e f g i j k l o u w z A B C D E F G I J K}{q:Int⊕(Int×(List (List UInt8)))}(h:Hs a d e f g i j k l o u w z A B C D E F G I J K=V q):kQ prog eI 67 [.b 1000 0] ⟨aR,[(1000,.box (iK a d e f g i j k l o u w z A B C D E F G I J K))]⟩ (λx s=>∃y:Int×(List (List UInt8)),q=.inr y/\x=(.t [])/\s.H=[(1000,.box (VK a d e f g i j k l o u w z A B C D E 0 0 0 y.1 0 y.2))]) λm s=>q=.inl m/\s.H=[]:=by
 refine px tok 45 func67 ?_;unfold Hs at h;have⟨x1,Θ,h⟩:=ι h;refine sq (Ok.jI eI tok (ah (ah (ah (ah (ah (ah (⟨_,rfl,fJ (cx [(1000,1000)] [] (Rb Θ) (.cons (Ln.b rfl) nq) ⟨⟨1000,_,rfl,rfl,.box nq⟩,Q0⟩ (λe1 cW=>?_) (λy1 gq=>?_))⟩))))))))
 .have h:=iy h cW;cases h;exact⟨_,rfl,rfl⟩
 have h:=iz h gq;have⟨x2,ar,h⟩:=ι h;have⟨x3,aL,h⟩:=ι h;refine ah (ah (⟨_,rfl,sq (dw 26 tok mixed ⟨_,rfl,_,rfl,_,rfl,_,rfl,_,rfl,_,⟨_,rfl,rfl⟩,_,rfl,_,⟨_,rfl,rfl⟩,_,rfl,_,rfl,_,rfl,_,rfl,_,⟨_,rfl,rfl⟩,_,rfl,_,rfl,_,rfl,_,rfl,_,⟨_,rfl,rfl⟩,_,⟨_,.dN (ajg ar) lz,rfl⟩,_,rfl,_,rfl,_,rfl,_,rfl,_,rfl,_,rfl,_,rfl,Q0,sq (Ok.jI eI tok (ah (fJ (cx [] [] (wR aL) nq Q0 (λe2 j7=>?_) (λy2 mj=>?_)))))⟩)⟩))
 .have h:=iy h j7;cases h;exact⟨_,rfl,rfl⟩
 have h:=iz h mj;have⟨x4,aZ,h⟩:=ι h;cases h;exact rg (Ω.call (ahU aZ) lz ⟨_,rfl,_,rfl,wt Q1 J1 rfl⟩)
def ahW{c r}(h:Me c=V r):Pure prog 123 [.a (b4 c)] (vi r):=by
 refine pq tok 10 func123 ?_;unfold Me at h;cases h;exact sg (sg ⟨_,rfl,_,au _,λ_=>⟨_,rfl,_,au _,λ_=>⟨(max (c.aK.length:Int) (c.ψ.length:Int)),rfl,rt Fz.v⟩⟩⟩)
def ajw{a d e f g i j k l o u w z A B C D E F G I J K}{q:Int⊕(Int×Int×Int×Int)}(h:Hy a d e f g i j k l o u w z A B C D E F G I J K=V q):kQ prog eI 68 [.b 1000 0] ⟨aR,[(1000,.box (iK a d e f g i j k l o u w z A B C D E F G I J K))]⟩ (λx s=>∃y:Int×Int×Int×Int,q=.inr y/\x=(.t [])/\s.H=[(1000,.box (iK a d e f g i j k l o u w z A B C D E 0 y.1 y.2.1 y.2.2.1 y.2.2.2))]) λm s=>q=.inl m/\s.H=[]:=by
 refine px tok 22 func68 ?_;unfold Hy at h;have⟨x1,Θ,h⟩:=ι h;refine sq (Ok.jI eI tok (ah (ah (ah (ah (ah (ah (⟨_,rfl,fJ (cx [(1000,1000)] [] (Rb Θ) (.cons (Ln.b rfl) nq) ⟨⟨1000,_,rfl,rfl,.box nq⟩,Q0⟩ (λe1 cW=>?_) (λy1 gq=>?_))⟩))))))))
 .have h:=iy h cW;cases h;exact⟨_,rfl,rfl⟩
 have h:=iz h gq;have⟨x2,ar,h⟩:=ι h;cases h;exact ah (ah (⟨_,rfl,dw 12 tok mixed ⟨_,rfl,_,rfl,_,⟨_,rfl,rfl⟩,_,rfl,_,⟨_,rfl,rfl⟩,_,rfl,_,⟨_,rfl,rfl⟩,_,⟨_,rfl,rfl⟩,_,⟨_,.dN (ahW ar) lz,rfl⟩,_,rfl,_,rfl,_,rfl,Q0,_,rfl,_,rfl,wt Q1 J1 rfl⟩⟩))
end Go.Proofs
