/- The walks of this seat beside the plain programs, part 3. No condition. -/
import Derived.Test.YtdcgbodbejgliaaGreatDoorXTopListedWk2
open List renaming length_map → au
open Or renaming inl → af, inr → fp
namespace Go.Proofs
set_option linter.all false
open Go Go.Cat Tryz
variable [M:bU] [K:LK]
set_option maxRecDepth 100000
set_option maxHeartbeats 4000000
def agd {a d e f g r} (h:MH a d e f g=some r):Θ prog 279 [.s (mI a),.c (.func 244) [] [.b 1000 0,.b 1002 0,.b 1003 0,.b 1004 0]] ⟨aM,[(1000,.box [.b 1001 0]),(1001,.box (b5 d)),(1002,.box [vi e]),(1003,.box [vi f]),(1004,.box [vi g])]⟩ fun x s=>x=(vi r.1)∧s.H=[(1000,.box [.b 1001 0]),(1001,.box (k0 r.2.1 r.2.2.1 r.2.2.2)),(1002,.box [vi e]),(1003,.box [vi f]),(1004,.box [vi g])]:=by
 refine pg tok 19 func279 ?_;unfold MH at h;refine sg (Ok.cU (fun v1=>⟨Γ [],[(1000,.box [.b 1001 0]),(1001,.box (k0 v1.1 v1.2.1 v1.2.2)),(1002,.box [vi e]),(1003,.box [vi f]),(1004,.box [vi g])]⟩) (fun v1=>MJ v1=some r) ?_ ?_)
 ·refine sg ⟨_,au _,fun _=>?_⟩;refine bl (Ok.loop (fun (s1:Int×eb)=>⟨Γ [(0,.s (mI a)),(1,.c (.func 244) [] [.b 1000 0,.b 1002 0,.b 1003 0,.b 1004 0]),(7,vi (a.length:Int)),(8,vi s1.1)],[(1000,.box [.b 1001 0]),(1001,.box (k0 s1.2.1 s1.2.2.1 s1.2.2.2)),(1002,.box [vi e]),(1003,.box [vi f]),(1004,.box [vi g])]⟩) (MI a e f g) (s0:=(0,d.Tree.ι,d.Tree.Next,d.Tree.ar)) h (wt Q4 ⟨hr,hr,hr,hr,hr,Q0⟩ rfl) ?_);intro s1 y1 ζ az;unfold MI at ζ;refine sg (sq (ct ζ (fun hb ζ=>?_) fun hb ζ=>?_))
  ·refine sk (sq (bl (sg ?_)));refine sg ?_;have ⟨x1,θ,ζ⟩:=η ζ;have ⟨x2,aq,ζ⟩:=η ζ;refine ⟨_,aI θ,_,aK θ,_,rfl,?_⟩;refine cg [(1000,1000),(1001,1001),(1002,1002),(1003,1003),(1004,1004)] [] (age aq) (n1 (.cons (Ln.b rfl) (.cons (Ln.b rfl) (.cons (Ln.b rfl) (.cons (Ln.b rfl) .nil))))) ⟨⟨1000,_,rfl,rfl,.box (.cons (Ln.b rfl) .nil)⟩,⟨1001,_,rfl,rfl,.box nq⟩,⟨1002,_,rfl,rfl,.box nq⟩,⟨1003,_,rfl,rfl,.box nq⟩,⟨1004,_,rfl,rfl,.box nq⟩,Q0⟩ ?_;refine ct ζ (fun hb ζ=>?_) fun hb ζ=>?_
   ·refine sg (rt ?_);have ζ:=aN ζ az;cases ζ;exact wt Q1 ⟨hr,J4⟩ rfl
   refine sk (rg ?_);have ⟨ah,ζ⟩:=ak ζ;refine (af ⟨ah,?_⟩);exact ⟨_,sj ζ,wt Q4 ⟨hr,J4⟩ rfl⟩
  refine xt ?_;have ζ:=aN ζ az;exact ⟨_,ζ,wt Q0 ⟨hr,hr,hr,hr,hr,Q0⟩ rfl⟩
 intro v1 h;unfold MJ at h;refine sg (rt ?_);cases h;exact wt Q1 ⟨hr,J4⟩ rfl
def aga {g a d e f r} (h:Mq g a d e f=some r):Θ prog 243 [.s (mI g),.c (.func 244) [] [.b 1000 0,.b 1002 0,.b 1003 0,.b 1004 0]] ⟨aM,[(1000,.box [.b 1001 0]),(1001,.box (b5 a)),(1002,.box [vi d]),(1003,.box [vi e]),(1004,.box [vi f])]⟩ fun x s=>x=(vb r.1)∧s.H=[(1000,.box [.b 1001 0]),(1001,.box (k0 r.2.1 r.2.2.1 r.2.2.2)),(1002,.box [vi d]),(1003,.box [vi e]),(1004,.box [vi f])]:=by
 refine pg tok 9 func243 ?_;unfold Mq at h;refine sg (sg ?_);have ⟨x1,θ,h⟩:=η h;refine cg [(1000,1000),(1001,1001),(1002,1002),(1003,1003),(1004,1004)] [] (agd θ) (n1 (.cons (Ln.c .nil (.cons (Ln.b rfl) (.cons (Ln.b rfl) (.cons (Ln.b rfl) (.cons (Ln.b rfl) .nil))))) .nil)) ⟨⟨1000,_,rfl,rfl,.box (.cons (Ln.b rfl) .nil)⟩,⟨1001,_,rfl,rfl,.box nq⟩,⟨1002,_,rfl,rfl,.box nq⟩,⟨1003,_,rfl,rfl,.box nq⟩,⟨1004,_,rfl,rfl,.box nq⟩,Q0⟩ ?_;refine rt ?_;cases h;exact wt Q1 ⟨hr,J4⟩ rfl
def afY {self a d r} (h:Nh self a d=some r):lg prog 188 [.b 1000 0,vi a,vi d] (.box (b5 self)) (fun x c=>x=(vb r.1)∧c=.box (b5 r.2)):=by
 refine oM (n:=18) (c:=f188.body.getD .skip) tok func188 (by kernel_rfl) rfl rfl nb ?_;unfold Nh at h;refine sg (sg ?_);have ⟨x1,θ,h⟩:=η h;refine ⟨_,rfl,_,rfl,?_⟩;refine Θ.eD (id:=1000) (Vv θ) rfl (.box lz) rfl (.cons (Lr.b) (.cons (Lr.cq rfl) .nil)) ?_;rintro _ _ ⟨rfl,rfl⟩;refine ⟨_,rfl,?_⟩;refine sg ?_;have ⟨x2,aq,h⟩:=η h;refine ⟨_,rfl,_,rfl,?_⟩;refine cg [(1000,3),(1001,1000),(1002,5),(1003,7),(1004,4)] [] (aga aq) (n1 (.cons (Ln.c .nil (.cons (Ln.b rfl) (.cons (Ln.b rfl) (.cons (Ln.b rfl) (.cons (Ln.b rfl) .nil))))) .nil)) ⟨⟨3,_,rfl,rfl,.box (.cons (Ln.b rfl) .nil)⟩,⟨1000,_,rfl,rfl,.box nq⟩,⟨5,_,rfl,rfl,.box nq⟩,⟨7,_,rfl,rfl,.box nq⟩,⟨4,_,rfl,rfl,.box nq⟩,Q0⟩ ?_;refine rt ?_;cases h;exact ⟨_,_,⟨rfl,rfl⟩,rfl,rfl,Fz.v⟩
def Vz {f e d r} (h:GC f e d=some r):Θ prog 180 [.b 1000 0,vi f,vs e] ⟨aM,[(1000,.box (b5 d))]⟩ fun x s=>x=(.t [])∧s.H=[(1000,.box (k0 r.1 r.2.1 r.2.2))]:=by
 refine pg tok 34 func180 ?_;unfold GC at h;refine sg ?_;have ⟨x1,θ,h⟩:=η h;refine Θ.eD (id:=1000) (rV θ) rfl (.box lz) rfl (.cons (Lr.b) (.cons (Lr.cq rfl) .nil)) ?_;rintro _ _ ⟨rfl,rfl⟩;refine ⟨_,rfl,?_⟩;refine sg ?_;have ⟨x2,aq,h⟩:=η h;refine ⟨_,rfl,?_⟩;refine Θ.call (zr aq) lz ?_;refine sg (ct h (fun hb h=>?_) fun hb h=>?_)
 ·refine sg ?_;have ⟨x3,aF,h⟩:=η h;refine ⟨_,rfl,?_⟩;refine Θ.own (D:=25) (GR aF) lz rfl ?_;have ⟨ah,h⟩:=ak h;have ⟨aQ,h⟩:=ak h;refine (af ⟨ah,?_⟩);refine cg [(1000,25)] [(900,25)] (aaN x3 x2.1 (x2.1+1) aQ) (.cons (Ln.o rfl) nq) ⟨⟨25,_,rfl,rfl,.refl rfl⟩,Q0⟩ ?_;refine ⟨_,rfl,?_⟩;refine rg ?_;have ⟨x4,aV,h⟩:=η h;refine ⟨_,rfl,?_⟩;refine cg [(1000,1000),(1001,25)] [(19,999)] (NR aV) (.cons (Ln.b rfl) (.cons (Ln.a (n4 (.cons (Ln.o rfl) nq))) .nil)) ⟨⟨1000,_,rfl,rfl,.box nq⟩,⟨25,_,rfl,rfl,.refl rfl⟩,Q0⟩ ?_;cases h;exact (Wk.freeze (id:=999) rfl).trans (wt Q1 ⟨hr,Q0⟩ rfl)
 refine sk ?_;cases h;exact wt Q1 J1 rfl
def agi {d e r} (h:Nn d e=some r):Θ prog 181 [.b 1000 0,.a (b4 d)] ⟨aM,[(1000,.box (b5 e))]⟩ fun x s=>x=(.t [])∧s.H=[(1000,.box (k0 r.1 r.2.1 r.2.2))]:=by
 refine pg tok 18 func181 ?_;unfold Nn at h;refine sg (sq (sg ?_));refine ⟨_,rfl,?_⟩;refine ct h (fun hb h=>?_) fun hb h=>?_
 ·refine sg ?_;have ⟨x1,θ,h⟩:=η h;refine ⟨_,rfl,?_⟩;refine cg [(1000,1000)] [] (Vy θ) (.cons (Ln.b rfl) nq) ⟨⟨1000,_,rfl,rfl,.box nq⟩,Q0⟩ ?_;refine rt ?_;cases h;exact wt Q1 J1 rfl
 refine sk (sg ?_);have ⟨ah,h⟩:=ak h;refine ⟨_,rfl,af ⟨ah,_,rfl,?_⟩⟩;refine rg ?_;have ⟨x2,aq,h⟩:=η h;refine ⟨_,rfl,?_⟩;refine cg [(1000,1000)] [(19,999)] (NQ aq) (.cons (Ln.b rfl) nq) ⟨⟨1000,_,rfl,rfl,.box nq⟩,Q0⟩ ?_;cases h;exact (Wk.freeze (id:=999) rfl).trans (wt Q1 ⟨hr,Q0⟩ rfl)
def agh {g d e f r} (h:Nk g d e f=some r):Θ prog 168 [.b 1000 0,vi g,vs d,vi e] ⟨aM,[(1000,.box (b5 f))]⟩ fun x s=>x=(.t [])∧s.H=[(1000,.box [.o 999,vi r.1,vi r.2.1]),(999,.own 44 6 (mI r.2.2))]:=by
 refine pg tok 51 func168 ?_;unfold Nk at h;refine sg ?_;have ⟨x1,θ,h⟩:=η h;refine Θ.eD (id:=1000) (rV θ) rfl (.box lz) rfl (.cons (Lr.b) (.cons (Lr.cq rfl) .nil)) ?_;rintro _ _ ⟨rfl,rfl⟩;refine ⟨_,rfl,?_⟩;refine sg ?_;have ⟨x2,aq,h⟩:=η h;refine ⟨_,rfl,?_⟩;refine Θ.call (zr aq) lz ?_;refine sq (Ok.uH (E:=eB) (chain:=[(2,[3,4,5,6,7,8,9,10,11,12,14]),(13,[14]),(15,[])]) tok mixed (by kernel_rfl) ?_);have ⟨x3,aF,h⟩:=η h;refine ⟨_,rfl,_,⟨_,rfl,rfl⟩,_,rfl,_,rfl,_,rfl,_,rfl,_,rfl,_,rfl,_,rfl,_,⟨_,rfl,rfl⟩,_,rfl,_,rfl,_,rfl,?_⟩;refine af (Θ.own (D:=26) (GR aF) lz rfl ?_);have ⟨ah,h⟩:=ak h;refine ⟨⟨⟨_,rfl,rfl⟩,⟨_,rfl,rfl⟩,⟨_,rfl,rfl⟩,⟨_,rfl,rfl⟩,⟨_,rfl,rfl⟩,⟨_,rfl,rfl⟩,⟨_,rfl,rfl⟩,⟨_,rfl,_,rfl,rfl⟩,⟨_,rfl,rfl⟩,⟨_,rfl,rfl⟩,⟨_,rfl,rfl⟩,Q0⟩,?_⟩;refine af (cg [(1000,26)] [(900,26)] (RB x3 x2.1 ([(⟨d,e,x1.2.Tree.ar⟩:aJ)]) ah) (.cons (Ln.o rfl) nq) ⟨⟨26,_,rfl,rfl,.refl rfl⟩,Q0⟩ ?_);refine ⟨⟨⟨_,rfl,rfl⟩,Q0⟩,af (⟨_,rfl,Q0,?_⟩)⟩;refine sg ?_;have ⟨aQ,h⟩:=ak h;refine ⟨_,rfl,af ⟨aQ,_,rfl,?_⟩⟩;refine rg ?_;have ⟨x4,aV,h⟩:=η h;refine ⟨_,rfl,?_⟩;refine cg [(1000,1000),(1001,26)] [(19,999)] (NR aV) (.cons (Ln.b rfl) (.cons (Ln.a (n4 (.cons (Ln.o rfl) nq))) .nil)) ⟨⟨1000,_,rfl,rfl,.box nq⟩,⟨26,_,rfl,rfl,.refl rfl⟩,Q0⟩ ?_;cases h;exact wt Q1 J2 rfl
def afU {c f g d e r} (h:Nc c f g d e=some r):Pure prog 120 [.a (b0 c),vi f,vs g,vi d,vs e] (.t [.a (b0 r.1),vi r.2.1,vi r.2.2]):=by
 refine pq tok 173 func120 ?_;unfold Nc at h;refine sg (sg ?_);have ⟨x1,θ,h⟩:=η h;refine ⟨_,rfl,?_⟩;refine Θ.call (NM θ) lz ?_;refine sq (sg ?_);refine ct h (fun hb h=>?_) fun hb h=>?_
 ·refine sg ⟨_,rfl,_,rfl,?_⟩;refine rt ?_;cases h;exact ⟨_,rfl,Fz.t fq⟩
 refine sk (sg ?_);refine ⟨_,rfl,?_⟩;refine sg ?_;have ⟨x2,aq,h⟩:=η h;refine Θ.eD (id:=38) (GQ aq) rfl (.box lz) rfl (.cons (Lr.b) (.cons (Lr.cq rfl) .nil)) ?_;rintro _ _ ⟨rfl,rfl⟩;refine ⟨_,rfl,?_⟩;refine sq (sg ?_);refine ct h (fun hb h=>?_) fun hb h=>?_
 ·refine sg ⟨_,rfl,_,rfl,?_⟩;refine rt ?_;cases h;exact ⟨_,rfl,Fz.t fq⟩
 refine sk (sq (sg ?_));have ⟨x3,aF,h⟩:=η h;refine Θ.call (GI aF) lz ?_;refine ct h (fun hb h=>?_) fun hb h=>?_
 ·refine sg ⟨_,rfl,_,rfl,?_⟩;refine rt ?_;cases h;exact ⟨_,rfl,Fz.t fq⟩
 refine sk (sg ?_);have ⟨x4,aV,h⟩:=η h;refine Θ.eD (id:=38) (rV aV) rfl (.box lz) rfl (.cons (Lr.b) (.cons (Lr.cq rfl) .nil)) ?_;rintro _ _ ⟨rfl,rfl⟩;refine ⟨_,rfl,?_⟩;refine sg (sg ?_);have ⟨x5,bJ,h⟩:=η h;refine ⟨_,rfl,?_⟩;refine Θ.call (zr bJ) lz ?_;have ⟨v1,ν,h⟩:=η h;refine Ok.aB ⟨Γ [(1,vi f),(2,vs g),(3,vi d),(4,vs e),(5,.b 5 0),(10,.b 10 0),(13,vi x1.1),(15,.b 38 0),(16,.b 16 0),(17,.b 17 0),(19,.b 19 0),(21,vb x5.2)],[(5,.box (b0 c)),(10,.box (k1 0 0)),(38,.box (k0 v1.1 v1.2.1 v1.2.2.1)),(16,.box (b4 x2.1.1)),(17,.box (b4 x4.1.1)),(19,.box (k8 v1.2.2.2.1 v1.2.2.2.2.1 v1.2.2.2.2.2.1 v1.2.2.2.2.2.2.1 v1.2.2.2.2.2.2.2.1 (t8 v1)))]⟩ ?_ ?_
 ·refine sg (ct ν (fun hb ν=>?_) fun hb ν=>?_)
  ·refine rg ?_;have ⟨x6,cK,ν⟩:=η ν;have ⟨x7,cP,ν⟩:=η ν;refine ⟨_,rfl,_,aI cK,_,aK cK,_,rfl,?_⟩;refine Θ.eD (id:=38) (rV cP) rfl (.box lz) rfl (.cons (Lr.b) (.cons (Lr.cq rfl) .nil)) ?_;rintro _ _ ⟨rfl,rfl⟩;refine ⟨_,rfl,?_⟩;cases ν;exact wt ⟨lr,lr,lr,lr,Q8⟩ ⟨hr,hr,J4⟩ rfl
  refine sk ?_;cases ν;exact wt ⟨lr,lr,lr,lr,Q8⟩ ⟨hr,hr,hr,hr,hr,⟨_,rfl,.box (l2 (l1 (.cons (Le.nil) (.cons (Le.nil) lz))))⟩,Q0⟩ rfl
 refine sq (sg ?_);refine ⟨_,rfl,?_⟩;refine ct h (fun hb h=>?_) fun hb h=>?_
 ·refine sg ⟨_,rfl,_,rfl,?_⟩;refine rt ?_;cases h;exact ⟨_,rfl,Fz.t fq⟩
 refine sk (sg ?_);have ⟨x8,ew,h⟩:=η h;refine Θ.eD (id:=38) (NN ew) rfl (.box lz) rfl (.cons (Lr.b) (.cons (Lr.cq rfl) .nil)) ?_;rintro _ _ ⟨rfl,rfl⟩;refine sq ?_;have ⟨v2,Δ,h⟩:=η h;refine Ok.aB ⟨Γ [(1,vi f),(2,vs g),(3,vi d),(4,vs e),(5,.b 5 0),(10,.b 10 0),(13,vi x1.1),(15,.b 38 0),(16,.b 16 0),(17,.b 17 0),(19,.b 19 0),(21,vb x5.2),(22,.s (mB x8.1)),(92,vb v2)],[(5,.box (b0 c)),(10,.box (k1 0 0)),(38,.box (b5 x8.2)),(16,.box (b4 x2.1.1)),(17,.box (b4 x4.1.1)),(19,.box (k8 v1.2.2.2.1 v1.2.2.2.2.1 v1.2.2.2.2.2.1 v1.2.2.2.2.2.2.1 v1.2.2.2.2.2.2.2.1 (t8 v1)))]⟩ ?_ ?_
 ·refine rg ⟨_,rfl,?_⟩;have ⟨c1,ξ,Δ⟩:=η Δ;refine Br.ite ξ (fun hb ξ=>?_) fun hb ξ=>?_
  ·have ⟨x9,fi,ξ⟩:=η ξ;refine Θ.call (Vp fi) lz ?_;cases ξ;cases Δ;exact wt ⟨lr,lr,lr,lr,lr,lr,Q8⟩ ⟨hr,hr,J4⟩ rfl
  cases ξ;cases Δ;exact wt ⟨lr,lr,lr,lr,lr,lr,Q8⟩ ⟨hr,hr,J4⟩ rfl
 refine ct h (fun hb h=>?_) fun hb h=>?_
 ·refine sg ⟨_,rfl,_,rfl,?_⟩;refine rt ?_;cases h;exact ⟨_,rfl,Fz.t fq⟩
 refine sk (Ok.cU (fun v3=>⟨Γ [(1,vi f),(2,vs g),(3,vi d),(4,vs e),(5,.b 5 0),(10,.b 10 0),(13,vi x1.1),(15,.b 38 0),(16,.b 16 0),(17,.b 17 0),(19,.b 19 0),(21,vb x5.2),(22,.s (mB x8.1))],[(5,.box (b0 c)),(10,.box (k1 0 0)),(38,.box (b5 x8.2)),(16,.box (b4 x2.1.1)),(17,.box (b4 x4.1.1)),(19,.box (k8 v1.2.2.2.1 v1.2.2.2.2.1 v1.2.2.2.2.2.1 v1.2.2.2.2.2.2.1 v1.2.2.2.2.2.2.2.1 (t8 v1)))]⟩) (fun v3=>Gv x5 d f x2 x8 x4 x1 c g e v1 v3=some r) ?_ ?_)
 ·refine sg (ct h (fun hb h=>?_) fun hb h=>?_)
  ·refine sg ?_;have ⟨cR,fR,h⟩:=η h;refine ⟨_,rfl,_,rfl,?_⟩;refine Θ.call (af0 fR) lz ?_;refine sg (ct h (fun hb h=>?_) fun hb h=>?_)
   ·refine sg ⟨_,rfl,_,rfl,?_⟩;refine rt ?_;cases h;exact ⟨_,rfl,Fz.t fq⟩
   refine sk ?_;exact ⟨_,h,wt ⟨lr,lr,lr,lr,lr,Q8⟩ ⟨hr,hr,hr,hr,hr,hr,Q0⟩ rfl⟩
  refine sk ?_;exact ⟨_,h,wt ⟨lr,lr,lr,lr,lr,Q8⟩ ⟨hr,hr,hr,hr,hr,hr,Q0⟩ rfl⟩
 intro v3 h;unfold Gv at h;have ⟨v4,aO,h⟩:=η h;refine Ok.aB ⟨Γ [(1,vi f),(2,vs g),(3,vi d),(4,vs e),(5,.b 5 0),(10,.b 10 0),(13,vi x1.1),(15,.b 38 0),(17,.b 17 0),(19,.b 19 0),(21,vb x5.2),(22,.s (mB x8.1)),(24,vb v4)],[(5,.box (b0 c)),(10,.box (k1 0 0)),(38,.box (b5 x8.2)),(17,.box (b4 x4.1.1)),(19,.box (k8 v1.2.2.2.1 v1.2.2.2.2.1 v1.2.2.2.2.2.1 v1.2.2.2.2.2.2.1 v1.2.2.2.2.2.2.2.1 (t8 v1)))]⟩ ?_ ?_
 ·refine rg ?_;have ⟨c2,ax,aO⟩:=η aO;refine Br.ite ax (fun hb ax=>?_) fun hb ax=>?_
  ·cases ax;have ⟨c3,aL,aO⟩:=η aO;refine Br.ite aL (fun hb aL=>?_) fun hb aL=>?_
   ·refine ⟨_,rfl,_,au _,fun _=>?_⟩;cases aL;cases aO;exact wt ⟨lr,lr,lr,lr,lr,Q8⟩ ⟨hr,J4⟩ rfl
   cases aL;cases aO;exact wt ⟨lr,lr,lr,lr,lr,Q8⟩ ⟨hr,J4⟩ rfl
  cases ax;have ⟨c3,bI,aO⟩:=η aO;replace bI:=c9 bI;cases bI;cases aO;exact wt ⟨lr,lr,lr,lr,lr,Q8⟩ ⟨hr,J4⟩ rfl
 refine sq ?_;have ⟨v5,bg,h⟩:=η h;refine Ok.aB ⟨Γ [(1,vi f),(2,vs g),(3,vi d),(4,vs e),(5,.b 5 0),(10,.b 10 0),(13,vi x1.1),(15,.b 38 0),(17,.b 17 0),(19,.b 19 0),(21,vb x5.2),(140,vb v5.1)],[(5,.box (b0 c)),(10,.box (k1 0 0)),(38,.box (k0 v5.2.1 v5.2.2.1 v5.2.2.2)),(17,.box (b4 x4.1.1)),(19,.box (k8 v1.2.2.2.1 v1.2.2.2.2.1 v1.2.2.2.2.2.1 v1.2.2.2.2.2.2.1 v1.2.2.2.2.2.2.2.1 (t8 v1)))]⟩ ?_ ?_
 ·refine rg ?_;have ⟨c4,bZ,bg⟩:=η bg;refine Br.cO bZ (fun hb bZ=>?_) fun hb bZ=>?_
  ·cases bZ;have ⟨c6,cI,bg⟩:=η bg;replace cI:=fu cI;cases cI;have ⟨c7,cQ,bg⟩:=η bg;replace cQ:=fu cQ;cases cQ;cases bg;exact wt ⟨lr,lr,lr,lr,Q8⟩ ⟨hr,J4⟩ rfl
  refine ⟨_,au _,fun _=>?_⟩;cases bZ;have ⟨c6,dq,bg⟩:=η bg;refine Br.cO dq (fun hb dq=>?_) fun hb dq=>?_
  ·cases dq;have ⟨c7,dE,bg⟩:=η bg;replace dE:=fu dE;cases dE;cases bg;exact wt ⟨lr,lr,lr,lr,Q8⟩ ⟨hr,J4⟩ rfl
  refine ⟨_,rfl,?_⟩;have ⟨c5,ep,dq⟩:=η dq;refine Br.ite ep (fun hb ep=>?_) fun hb ep=>?_
  ·have ⟨ei,jA,ep⟩:=η ep;refine ⟨_,au _,fun _=>?_⟩;refine Θ.eD (id:=38) (afY jA) rfl (.box lz) rfl (.cons (Lr.b) (.cons (Lr.cq rfl) (.cons (Lr.cq rfl) .nil))) ?_;rintro _ _ ⟨rfl,rfl⟩;cases ep;cases dq;have ⟨c7,jh,bg⟩:=η bg;refine Br.cO jh (fun hb jh=>?_) fun hb jh=>?_
   ·cases jh;cases bg;exact wt ⟨lr,lr,lr,lr,Q8⟩ ⟨hr,J4⟩ rfl
   refine ⟨_,rfl,?_⟩;cases jh;cases bg;exact wt ⟨lr,lr,lr,lr,Q8⟩ ⟨hr,J4⟩ rfl
  cases ep;cases dq;have ⟨c7,jS,bg⟩:=η bg;replace jS:=c9 jS;refine ⟨_,rfl,?_⟩;cases jS;cases bg;exact wt ⟨lr,lr,lr,lr,Q8⟩ ⟨hr,J4⟩ rfl
 refine ct h (fun hb h=>?_) fun hb h=>?_
 ·refine sg ⟨_,rfl,_,rfl,?_⟩;refine rt ?_;cases h;exact ⟨_,rfl,Fz.t fq⟩
 refine sk (sg ?_);have ⟨dG,jW,h⟩:=η h;refine cg [(1000,38)] [] (Vz jW) (.cons (Ln.b rfl) nq) ⟨⟨38,_,rfl,rfl,.box nq⟩,Q0⟩ ?_;have ⟨v6,bX,h⟩:=η h;refine Ok.aB ⟨Γ [(3,vi d),(4,vs e),(10,.b 10 0),(13,vi x1.1),(15,.b 38 0),(17,.b 17 0),(19,.b 19 0)],[(10,.box (k1 0 0)),(38,.box (k0 v6.1 v6.2.1 v6.2.2)),(17,.box (b4 x4.1.1)),(19,.box (k8 v1.2.2.2.1 v1.2.2.2.2.1 v1.2.2.2.2.2.1 v1.2.2.2.2.2.2.1 v1.2.2.2.2.2.2.2.1 (t8 v1)))]⟩ ?_ ?_
 ·refine sg (ct bX (fun hb bX=>?_) fun hb bX=>?_)
  ·refine sg ?_;have ⟨fx,nU,bX⟩:=η bX;refine cg [(1000,38)] [] (Vz nU) (.cons (Ln.b rfl) nq) ⟨⟨38,_,rfl,rfl,.box nq⟩,Q0⟩ ?_;refine rg ?_;have ⟨j2,th,bX⟩:=η bX;refine ⟨_,rfl,?_⟩;refine cg [(1000,38)] [] (agi th) (.cons (Ln.b rfl) nq) ⟨⟨38,_,rfl,rfl,.box nq⟩,Q0⟩ ?_;cases bX;exact wt Q7 J4 rfl
  refine sk ?_;cases bX;exact wt Q7 J4 rfl
 have ⟨v7,eV,h⟩:=η h;refine Ok.aB ⟨Γ [(3,vi d),(4,vs e),(10,.b 10 0),(13,vi x1.1),(15,.b 38 0),(19,.b 19 0)],[(10,.box (k1 0 0)),(38,.box (k0 v7.1 v7.2.1 v7.2.2)),(19,.box (k8 v1.2.2.2.1 v1.2.2.2.2.1 v1.2.2.2.2.2.1 v1.2.2.2.2.2.2.1 v1.2.2.2.2.2.2.2.1 (t8 v1)))]⟩ ?_ ?_
 ·refine sg ⟨_,rfl,?_⟩;refine ct eV (fun hb eV=>?_) fun hb eV=>?_
  ·refine sg ⟨_,rfl,?_⟩;refine rg ?_;have ⟨qQ,AW,eV⟩:=η eV;refine ⟨_,rfl,?_⟩;refine cg [(1000,38)] [(19,999)] (NQ AW) (.cons (Ln.b rfl) nq) ⟨⟨38,_,rfl,rfl,.box nq⟩,Q0⟩ ?_;cases eV;exact (Wk.freeze (id:=999) rfl).trans (wt Q6 ⟨hr,hr,hr,Q0⟩ rfl)
  refine sk ?_;cases eV;exact wt Q6 J3 rfl
 refine sg ?_;have ⟨uf,J8,h⟩:=η h;refine cg [(1000,38)] [(999,998)] (agh J8) (.cons (Ln.b rfl) nq) ⟨⟨38,_,rfl,rfl,.box nq⟩,Q0⟩ ?_;refine sq (Ok.gP (m:=6) (late:=[4,5]) (MD:=⟨[]⟩) (CH:=⟨[]⟩) tok mixed (by kernel_rfl) ?_);refine ⟨_,rfl,_,rfl,_,rfl,_,⟨_,rfl,rfl⟩,_,rfl,_,⟨_,rfl,rfl⟩,Q0,?_⟩;refine ⟨_,rfl,⟨⟨_,rfl,rfl⟩,⟨_,rfl,_,rfl,rfl⟩,Q0⟩,?_⟩;refine rt ?_;cases h;exact ⟨_,rfl,Fz.t (.cons (Fz.a (.cons (Fz.o rfl) fq)) fq)⟩
def af5 [mP] {C D F G I J K L a N d e f g i j k l u B w z A} {q:Int⊕(zn)} (h:Iz C D F G I J K L a N d e f g i j k l u B w z A=some q):j8 prog eB 66 [.b 1000 0] ⟨aM,[(1000,.box (iJ C D F G I J K L a N d e f g i j k l u B w z A))]⟩ (fun x s=>∃y:zn,q=.inr y∧x=(.t [])∧s.H=[(1000,.box [.s (mI y.1),vi y.2.1,vi y.2.2.1,vi y.2.2.2.1,.s (mB y.2.2.2.2.1),.s (mD y.2.2.2.2.2.1),.s (mE y.2.2.2.2.2.2.1),vi y.2.2.2.2.2.2.2.1,.s (mF a),.o 999,vi d,vi e,vs f,vs g,vi i,vi j,vi k,.s (mU l),vi u,vi (t8 y).1,vi w,vi z,vi A,zs,zs]),(999,.own 86 3 (mA (t8 y).2))]) fun m s=>q=.inl m∧s.H=[]:=by
 refine px tok 74 func66 ?_;unfold Iz at h;refine sq (Ok.jq eB tok ?_);have ⟨x1,θ,h⟩:=η h;refine af (af (af (af (af (af (⟨_,rfl,?_⟩))))));refine fp (cx [(1000,1000)] [] (NP θ) (.cons (Ln.b rfl) nq) ⟨⟨1000,_,rfl,rfl,.box nq⟩,Q0⟩ (fun e1 cH=>?_) (fun y1 fQ=>?_))
 ·have h:=gV h cH;cases h;exact ⟨_,rfl,rfl⟩
 have h:=gW h fQ;refine af (af (af (af (af ?_))));refine sq (Ok.jq eB tok ?_);have ⟨x2,aq,h⟩:=η h;refine af (af (af (af (af (af (⟨_,rfl,?_⟩))))));refine fp (cx [(1000,1000)] [] (NP aq) (.cons (Ln.b rfl) nq) ⟨⟨1000,_,rfl,rfl,.box nq⟩,Q0⟩ (fun e2 jg=>?_) (fun y2 kS=>?_))
 ·have h:=gV h jg;cases h;exact ⟨_,rfl,rfl⟩
 have h:=gW h kS;refine af (af (af (af (af ?_))));refine sg ?_;have ⟨x3,aF,h⟩:=η h;refine ⟨_,rfl,?_⟩;refine Θ.call (NM aF) lz ?_;refine sq (Ok.jq eB tok ?_);have ⟨x4,aV,h⟩:=η h;refine af (fp (cx [] [] (ud aV) nq Q0 (fun e3 pn=>?_) (fun y3 oH=>?_)))
 ·have h:=gV h pn;cases h;exact ⟨_,rfl,rfl⟩
 have h:=gW h oH;refine sg ?_;have ⟨x5,bJ,h⟩:=η h;refine ⟨_,rfl,?_⟩;refine Θ.call (afU bJ) lz ?_;refine ⟨_,rfl,?_⟩;refine sq (Ok.jq eB tok ?_);have ⟨x6,cK,h⟩:=η h;refine af (fp (cx [] [] (ud cK) nq Q0 (fun e4 mX=>?_) (fun y4 JJ=>?_)))
 ·have h:=gV h mX;cases h;exact ⟨_,rfl,rfl⟩
 have h:=gW h JJ;refine sq (Ok.uH (E:=eB) (chain:=[(7,[])]) tok mixed (by kernel_rfl) ?_);have ⟨x7,cP,h⟩:=η h;refine ⟨_,rfl,_,⟨_,rfl,rfl⟩,_,rfl,_,rfl,_,rfl,_,rfl,_,⟨_,rfl,rfl⟩,?_⟩;refine fp (cx [(1000,1000)] [(35,999)] (Vw cP) (.cons (Ln.b rfl) nq) ⟨⟨1000,_,rfl,rfl,.box nq⟩,Q0⟩ (fun e5 Jd=>?_) (fun y5 AK=>?_))
 ·have h:=gV h Jd;cases h;exact ⟨_,rfl,rfl⟩
 have h:=gW h AK;refine ⟨Q0,?_⟩;refine rg ⟨_,rfl,?_⟩;cases h;exact ⟨_,rfl,wt Q1 J2 rfl⟩
def afR {c d r} (h:Nb c d=some r):Pure prog 191 [.a (b6 c),.p [vi d]] (vb r):=by
 refine pq tok 8 func191 ?_;unfold Nb at h;refine sg (sg ⟨_,rfl,_,rfl,?_⟩);refine rt ?_;cases h;exact Fz.v
def afD {a b r} (h:MA a b=some r):Pure prog 134 [.s (mC a),.c (.func 191) [] [.p [vi b]]] (vi r):=by
 refine pq tok 19 func134 ?_;unfold MA at h;refine sg (Ok.cU (fun v1=>⟨Γ [],[]⟩) (fun v1=>MC v1=some r) ?_ ?_)
 ·refine sg ⟨_,au _,fun _=>?_⟩;refine bl (Ok.loop (fun (s1:Int)=>⟨Γ [(0,.s (mC a)),(1,.c (.func 191) [] [.p [vi b]]),(7,vi (a.length:Int)),(8,vi s1)],[]⟩) (MB a b) (s0:=0) h (wt Q4 Q0 rfl) ?_);intro s1 y1 ζ az;unfold MB at ζ;refine sg (sq (ct ζ (fun hb ζ=>?_) fun hb ζ=>?_))
  ·refine sk (sq (bl (sg ?_)));refine sg ?_;have ⟨x1,θ,ζ⟩:=η ζ;have ⟨x2,aq,ζ⟩:=η ζ;refine ⟨_,aI θ,_,aK θ,_,rfl,?_⟩;refine Θ.call (afR aq) lz ?_;refine ct ζ (fun hb ζ=>?_) fun hb ζ=>?_
   ·refine sg (rt ?_);have ζ:=aN ζ az;cases ζ;exact Fz.v
   refine sk (rg ?_);have ⟨ah,ζ⟩:=ak ζ;refine (af ⟨ah,?_⟩);exact ⟨_,sj ζ,wt Q4 Q0 rfl⟩
  refine xt ?_;have ζ:=aN ζ az;exact ⟨_,ζ,wt Q0 Q0 rfl⟩
 intro v1 h;unfold MC at h;refine sg (rt ?_);cases h;exact Fz.v
def afS {c d r} (h:Gu c d=some r):Pure prog 191 [.a (b6 c),.p [vi d]] (vb r):=by
 refine pq tok 8 func191 ?_;unfold Gu at h;refine sg (sg ⟨_,rfl,_,rfl,?_⟩);refine rt ?_;cases h;exact Fz.v
def agb {g e r} (h:Gf g e=some r):Θ prog 189 [.o 1000,.c (.func 191) [] [.b 1001 0]] ⟨aM,[(1000,.own 138 3 (mC g)),(1001,.box [vi e])]⟩ fun x s=>x=(.o 999)∧s.H=[(999,.own 138 3 (mC r)),(1001,.box [vi e])]:=by
 refine pg tok 42 func189 ?_;unfold Gf at h;refine sg (sg ?_);have ⟨x1,θ,h⟩:=η h;refine Θ.borrow (afD θ) (.cons (Fz.o rfl) (.cons (Fz.c .nil (.cons (Fz.b rfl rfl) .nil)) .nil)) rfl ?_;refine sq (sg ?_);refine ct h (fun hb h=>?_) fun hb h=>?_
 ·refine sg (rt ?_);cases h;exact (Wk.mv (i:=1000) (d:=999) rfl rfl rfl).trans (wt Q1 ⟨hr,hr,Q0⟩ rfl)
 refine sk ?_;have ⟨v1,ν,h⟩:=η h;refine Ok.aB ⟨Γ [(0,.o 1000),(5,vi v1.1)],[(1000,.own 138 3 (mC v1.2)),(1001,.box [vi e])]⟩ ?_ ?_
 ·refine sg ?_;have ⟨ah,ν⟩:=ak ν;refine (af ⟨ah,?_⟩);refine bl (Ok.loop (fun (s1:Int×Int×(List aJ))=>⟨Γ [(0,.o 1000),(1,.c (.func 191) [] [.b 1001 0]),(5,vi s1.1),(6,vi s1.2.1)],[(1000,.own 138 3 (mC s1.2.2)),(1001,.box [vi e])]⟩) (Ms e) (s0:=(x1,x1+1,g)) ν (wt Q4 ⟨hr,hr,Q0⟩ rfl) ?_);intro s1 y1 ζ az;unfold Ms at ζ;refine sq (sg ?_);refine ⟨_,au _,fun _=>?_⟩;refine ct ζ (fun hb ζ=>?_) fun hb ζ=>?_
  ·refine sk ?_;have ⟨v2,Δ,ζ⟩:=η ζ;refine Ok.aB ⟨Γ [(0,.o 1000),(1,.c (.func 191) [] [.b 1001 0]),(5,vi v2.1),(6,vi s1.2.1)],[(1000,.own 138 3 (mC v2.2)),(1001,.box [vi e])]⟩ ?_ ?_
   ·refine bl (sg ?_);have ⟨x2,aq,Δ⟩:=η Δ;refine ⟨_,aI aq,jY aq,_,aK aq,rfl,_,rfl,_,rfl,?_⟩;refine sg ?_;have ⟨x3,aF,Δ⟩:=η Δ;refine ⟨_,rfl,?_⟩;refine Θ.borrow (afS aF) (.cons (Fz.a fq) (.cons (Fz.b rfl rfl) .nil)) rfl ?_;refine ct Δ (fun hb Δ=>?_) fun hb Δ=>?_
    ·refine sg ?_;have ⟨x4,aV,Δ⟩:=η Δ;refine ⟨_,rfl,_,aI aV,jY aV,_,aK aV,rfl,_,rfl,_,wI (f:=eM) (x:=x2),?_⟩;refine rg ?_;have ⟨aQ,Δ⟩:=ak Δ;refine (af ⟨aQ,?_⟩);cases Δ;exact wt Q4 J2 rfl
    refine sk ?_;cases Δ;exact wt Q4 J2 rfl
   refine rg ?_;have ⟨bN,ζ⟩:=ak ζ;refine (af ⟨bN,?_⟩);exact ⟨_,sj ζ,wt Q4 J2 rfl⟩
  refine xt ?_;have ζ:=aN ζ az;cases ζ;exact wt Q2 J2 rfl
 refine sg ?_;have ⟨c8,h⟩:=ak h;refine ⟨_,fK c8.1,Gc c8,_,Pj (f:=eM) (z:=((⟨[],0,0⟩:aJ):aJ)) v1.2 (v1.1.toNat),?_⟩;refine sq (Ok.wk (Wk.mv (i:=1000) (d:=999) rfl rfl rfl) ?_);refine rg ?_;have ⟨eJ,h⟩:=ak h;refine ⟨_,fK eJ.1,Gc eJ,_,(List.map_take (f:=eM)).symm,?_⟩;refine rt ?_;cases h;exact wt Q1 J2 rfl
def afT {c d r} (h:zj c d=some r):Pure prog 193 [.a (b6 c),.a (b6 d)] (vi r):=by
 refine pq tok 10 func193 ?_;unfold zj at h;refine sg (sg ?_);have ⟨x1,θ,h⟩:=η h;refine ⟨_,rfl,_,rfl,?_⟩;refine Θ.call (GH θ) lz ?_;refine rt ?_;cases h;exact Fz.v
def afQ {d i g e r} (h:tX d i g e=some r):Pure prog 121 [.a (b0 d),vi i,vi g,vi e] (.t (R3 r.1 r.2.1 r.2.2)):=by
 refine pq tok 58 func121 ?_;unfold tX at h;refine sg (sq ?_);have ⟨v1,ν,h⟩:=η h;refine Ok.aB ⟨Γ [(1,vi i),(3,vi e),(4,.b 4 0),(6,.b 6 0),(23,vb v1)],[(4,.box (b0 d)),(6,.box [vi g])]⟩ ?_ ?_
 ·refine rg ⟨_,rfl,?_⟩;have ⟨c1,ξ,ν⟩:=η ν;refine Br.cO ξ (fun hb ξ=>?_) fun hb ξ=>?_
  ·cases ξ;have ⟨c2,ax,ν⟩:=η ν;replace ax:=fu ax;cases ax;cases ν;exact wt Q5 J2 rfl
  cases ξ;have ⟨c2,aL,ν⟩:=η ν;refine Br.cO aL (fun hb aL=>?_) fun hb aL=>?_
  ·cases aL;cases ν;exact wt Q5 J2 rfl
  cases aL;cases ν;exact wt Q5 J2 rfl
 refine ct h (fun hb h=>?_) fun hb h=>?_
 ·refine sg (rt ?_);cases h;exact (Fz.t (.cons Fz.nil fq))
 refine sk (sg ?_);have ⟨x1,θ,h⟩:=η h;refine ⟨_,rfl,?_⟩;refine Θ.eD (id:=27) (GQ θ) rfl (.box lz) rfl (.cons (Lr.b) (.cons (Lr.cq rfl) .nil)) ?_;rintro _ _ ⟨rfl,rfl⟩;refine ⟨_,rfl,?_⟩;refine sq (sg ?_);refine ct h (fun hb h=>?_) fun hb h=>?_
 ·refine sg (rt ?_);cases h;exact (Fz.t (.cons Fz.nil fq))
 refine sk (sg ?_);have ⟨x2,aq,h⟩:=η h;refine ⟨_,rfl,?_⟩;refine Θ.own (D:=37) (GR aq) lz rfl ?_;have ⟨x3,aF,h⟩:=η h;refine cg [(1000,37),(1001,6)] [(999,37)] (agb aF) (.cons (Ln.o rfl) (.cons (Ln.c .nil (.cons (Ln.b rfl) .nil)) .nil)) ⟨⟨37,_,rfl,rfl,.refl rfl⟩,⟨6,_,rfl,rfl,.box nq⟩,Q0⟩ ?_;refine sg ?_;have ⟨x4,aV,h⟩:=η h;refine Θ.eD (id:=37) (acn (E:=138) (enc:=eM) adt Yp (fun _=>rfl) (fun _ _ _ h=>afT (M:=bU.yes) h) (enters_of func193 (by kernel_rfl) rfl) aV) rfl (.refl _) rfl (.cons Lr.o (.cons (Lr.cq rfl) .nil)) ?_;rintro _ _ ⟨rfl,rfl⟩;refine sq (sg ?_);refine ⟨_,au _,fun _=>?_⟩;refine ct h (fun hb h=>?_) fun hb h=>?_
 ·refine sg (rt ?_);cases h;exact (Fz.t (.cons (Fz.o rfl) fq))
 refine sk (sq (Ok.wk (Wk.freeze (id:=37) rfl) ?_));refine dw 14 tok mixed ?_;have ⟨ah,h⟩:=ak h;have ⟨aQ,h⟩:=ak h;have ⟨x5,bJ,h⟩:=η h;have ⟨bN,h⟩:=ak h;refine ⟨_,rfl,_,rfl,_,rfl,_,⟨_,_,fK ah.1,fK (wK ah),Mf ah,Mg ah,mo (f:=eM) (K:=3) (fun _=>rfl) x4,_,(List.map_take (f:=eM)).symm,rfl⟩,_,rfl,_,rfl,_,af ⟨aQ,rfl⟩,_,⟨_,aI bJ,_,aK bJ,rfl⟩,_,rfl,_,⟨_,rfl,rfl⟩,_,af ⟨bN,rfl⟩,_,rfl,_,rfl,_,rfl,Q0,?_⟩;refine rt ?_;cases h;exact (Fz.t (.cons Fz.s fq))
def agj {a r} (h:xA a=some r):jb prog 122 [.s (mC a)] 9 1 (mG r):=by
 refine pv tok 19 func122 ?_;unfold xA at h;refine sg (sg ?_);have ⟨v1,ν,h⟩:=η h;refine Ok.aB ⟨Γ [(3,.o 16)],[(16,.own 9 1 (mG v1))]⟩ ?_ ?_
 ·refine sg ⟨_,au _,fun _=>?_⟩;refine bl (Ok.loop (fun (s1:Int×(List (List UInt8)))=>⟨Γ [(3,.o 16),(6,.s (mC a)),(7,vi (a.length:Int)),(8,vi s1.1)],[(16,.own 9 1 (mG s1.2))]⟩) (Dz a) (s0:=(0,[])) ν ((Wk.nn (t:=3) (id:=16) (E:=9) (K:=1) rfl rfl).trans (wt Q4 ⟨hr,Q0⟩ rfl)) ?_);intro s1 y1 ζ az;unfold Dz at ζ;refine sg (sq (ct ζ (fun hb ζ=>?_) fun hb ζ=>?_))
  ·refine sk (sq (bl (sg ?_)));have ⟨x1,θ,ζ⟩:=η ζ;refine ⟨_,aI θ,_,aK θ,_,rfl,_,rfl,?_⟩;refine rg ?_;have ⟨ah,ζ⟩:=ak ζ;refine ⟨_,rfl,af ⟨cL (f:=eA) (n:=1) (fun _=>rfl) ([x1.aR]),cJ (f:=eA) (l:=s1.2) (l':=[x1.aR]) ah,_,(List.map_append (f:=eA) (l₁:=s1.2) (l₂:=[x1.aR])).symm,?_⟩⟩;refine rg ?_;have ⟨aQ,ζ⟩:=ak ζ;refine (af ⟨aQ,?_⟩);exact ⟨_,sj ζ,wt Q4 J1 rfl⟩
  refine xt ?_;have ζ:=aN ζ az;cases ζ;exact wt Q1 J1 rfl
 refine sg (rt ?_);cases h;exact (.inr ⟨_,rfl,rfl⟩)
def aeu {a r} (h:xA a=some r):Pure prog 122 [.s (mC a)] (.s (mG r)):=(agj h).pure
def af1 {a d e f g i j k l o u w z A B C D E F G I J K} {q:Int⊕(Int×(List (List UInt8)))} (h:DB a d e f g i j k l o u w z A B C D E F G I J K=some q):j8 prog eB 67 [.b 1000 0] ⟨aM,[(1000,.box (iJ a d e f g i j k l o u w z A B C D E F G I J K))]⟩ (fun x s=>∃y:Int×(List (List UInt8)),q=.inr y∧x=(.t [])∧s.H=[(1000,.box (R4 a d e f g i j k l o u w z A B C D E 0 0 0 y.1 0 y.2))]) fun m s=>q=.inl m∧s.H=[]:=by
 refine px tok 45 func67 ?_;unfold DB at h;refine sq (Ok.jq eB tok ?_);have ⟨x1,θ,h⟩:=η h;refine af (af (af (af (af (af (⟨_,rfl,?_⟩))))));refine fp (cx [(1000,1000)] [] (Vx θ) (.cons (Ln.b rfl) nq) ⟨⟨1000,_,rfl,rfl,.box nq⟩,Q0⟩ (fun e1 cH=>?_) (fun y1 fQ=>?_))
 ·have h:=gV h cH;cases h;exact ⟨_,rfl,rfl⟩
 have h:=gW h fQ;refine af (af (⟨_,rfl,?_⟩));refine sq (dw 26 tok mixed ?_);have ⟨x2,aq,h⟩:=η h;refine ⟨_,rfl,_,rfl,_,rfl,_,rfl,_,rfl,_,⟨_,rfl,rfl⟩,_,rfl,_,⟨_,rfl,rfl⟩,_,rfl,_,rfl,_,rfl,_,rfl,_,⟨_,rfl,rfl⟩,_,rfl,_,rfl,_,rfl,_,rfl,_,⟨_,rfl,rfl⟩,_,⟨_,.dz (afQ aq) lz,rfl⟩,_,rfl,_,rfl,_,rfl,_,rfl,_,rfl,_,rfl,_,rfl,Q0,?_⟩;refine sq (Ok.jq eB tok ?_);have ⟨x3,aF,h⟩:=η h;refine af (fp (cx [] [] (ud aF) nq Q0 (fun e2 jg=>?_) (fun y2 kS=>?_)))
 ·have h:=gV h jg;cases h;exact ⟨_,rfl,rfl⟩
 have h:=gW h kS;refine rg ?_;have ⟨x4,aV,h⟩:=η h;refine Θ.call (aeu aV) lz ?_;refine ⟨_,rfl,?_⟩;cases h;exact ⟨_,rfl,wt Q1 J1 rfl⟩
end Go.Proofs
