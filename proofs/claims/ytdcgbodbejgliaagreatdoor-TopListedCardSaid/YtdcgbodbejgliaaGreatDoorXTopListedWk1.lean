/- The walks of this seat beside the plain programs, part 1. No condition. -/
import Derived.Test.YtdcgbodbejgliaaGreatDoorXTopListedWk0
open List renaming length_map → au, map_append → bP, map → bY, map_eq_nil_iff → Ov
open Nat renaming lt_of_le_of_lt → jI
open Or renaming inl → af
namespace Go.Proofs
set_option linter.all false
open Go Go.Cat Tryz
variable [M:bU] [K:LK]
set_option maxRecDepth 100000
set_option maxHeartbeats 4000000
def NS {a r} (h:Ch a=some r):jb prog 231 [.s (mI a)] 44 6 (mI r):=by
 refine pv tok 8 func231 ?_;unfold Ch at h;refine sg (sq (sg ?_));intro b1 cy;have h:=Dh h b1 (fun e=>Ov.1 (cy e));refine ct h (fun hb h=>?_) fun hb h=>?_
 ·refine sg (rt ?_);cases h;exact (.inl ⟨rfl,rfl⟩)
 refine sk (sg ?_);have ⟨ah,h⟩:=ak h;refine Or.inr ⟨cL (f:=ed) (n:=6) (fun _=>rfl) a,cJ (f:=ed) (l:=([]:List ψ)) (l':=a) ah,_,(bP (f:=ed) (l₁:=([]:List ψ)) (l₂:=a)).symm,?_⟩;refine rt ?_;cases h;exact (.inr ⟨_,rfl,rfl⟩)
def NQ {d e r} (h:Cx d e=some r):Θ prog 167 [.b 1000 0,.a (b4 d)] ⟨aM,[(1000,.box (b5 e))]⟩ fun x s=>x=(.t [])∧s.H=[(1000,.box [.o 19,vi r.1,vi r.2.1]),(19,.own 44 6 (mI r.2.2))]:=by
 refine pg tok 45 func167 ?_;unfold Cx at h;refine sg (sg ?_);have ⟨x1,θ,h⟩:=η h;refine ⟨_,rfl,?_⟩;refine Θ.eD (id:=1000) (GO θ) rfl (.box lz) rfl (.cons (Lr.b) (.cons (Lr.cq rfl) .nil)) ?_;rintro _ _ ⟨rfl,rfl⟩;refine sg ?_;have ⟨x2,aq,h⟩:=η h;refine ⟨_,rfl,?_⟩;refine Θ.own (D:=19) (NS aq) lz rfl ?_;refine ⟨_,rfl,?_⟩;refine sq (sg ?_);refine ct h (fun hb h=>?_) fun hb h=>?_
 ·refine sq (dw 8 tok mixed ?_);have ⟨x3,aF,h⟩:=η h;refine ⟨_,rfl,_,rfl,_,rfl,_,rfl,_,⟨_,rfl,rfl⟩,_,rfl,_,⟨_,rfl,rfl⟩,_,⟨_,aI aF,jY aF,rfl⟩,Q0,_,aK aF,rfl,_,rfl,_,wI (f:=ed) (x:=d),?_⟩;refine rt ?_;cases h;exact wt Q1 J2 rfl
 refine sk (Ok.uH (E:=eB) (chain:=[(9,[0,10,11,12]),(13,[])]) tok mixed (by kernel_rfl) ?_);have ⟨ah,h⟩:=ak h;refine ⟨_,rfl,_,rfl,_,rfl,_,rfl,_,rfl,_,⟨_,rfl,rfl⟩,_,rfl,_,⟨_,rfl,rfl⟩,_,rfl,_,rfl,_,rfl,_,rfl,?_⟩;refine af (cg [(1000,19)] [(900,19)] (RA x2 x1.1.1 ([d]) ah) (.cons (Ln.o rfl) nq) ⟨⟨19,_,rfl,rfl,.refl rfl⟩,Q0⟩ ?_);refine ⟨⟨⟨_,rfl,rfl⟩,⟨_,rfl,rfl⟩,⟨_,rfl,rfl⟩,⟨_,rfl,rfl⟩,Q0⟩,af (⟨_,rfl,Q0,?_⟩)⟩;cases h;exact wt Q1 J2 rfl
def GR {a r} (h:y7 a=some r):jb prog 190 [.s (mC a)] 138 3 (mC r):=by
 refine pv tok 8 func190 ?_;unfold y7 at h;refine sg (sq (sg ?_));intro b1 cy;have h:=Dh h b1 (fun e=>Ov.1 (cy e));refine ct h (fun hb h=>?_) fun hb h=>?_
 ·refine sg (rt ?_);cases h;exact (.inl ⟨rfl,rfl⟩)
 refine sk (sg ?_);have ⟨ah,h⟩:=ak h;refine Or.inr ⟨cL (f:=eM) (n:=3) (fun _=>rfl) a,cJ (f:=eM) (l:=([]:List aJ)) (l':=a) ah,_,(bP (f:=eM) (l₁:=([]:List aJ)) (l₂:=a)).symm,?_⟩;refine rt ?_;cases h;exact (.inr ⟨_,rfl,rfl⟩)
def NR {d e g i j k l r} (h:Cy d e g i j k l=some r):Θ prog 167 [.b 1000 0,.a [vi d,vi e,vi g,.s (mU i),.o 1001,vi j]] ⟨aM,[(1000,.box (b5 k)),(1001,.own 138 3 (mC l))]⟩ fun x s=>x=(.t [])∧s.H=[(1000,.box [.o 19,vi r.1,vi r.2.1]),(19,.own 44 6 (mI r.2.2))]:=by
 refine pg tok 45 func167 ?_;unfold Cy at h;refine sg (sg ?_);have ⟨x1,θ,h⟩:=η h;refine ⟨_,rfl,?_⟩;refine Θ.eD (id:=1000) (GO θ) rfl (.box lz) rfl (.cons (Lr.b) (.cons (Lr.cq rfl) .nil)) ?_;rintro _ _ ⟨rfl,rfl⟩;refine sg ?_;have ⟨x2,aq,h⟩:=η h;refine ⟨_,rfl,?_⟩;refine Θ.own (D:=19) (NS aq) lz rfl ?_;refine ⟨_,rfl,?_⟩;refine sq (sg ?_);refine ct h (fun hb h=>?_) fun hb h=>?_
 ·refine sq (Ok.wk (Wk.freeze (id:=1001) rfl) ?_);refine dw 8 tok mixed ?_;have ⟨x3,aF,h⟩:=η h;refine ⟨_,rfl,_,rfl,_,rfl,_,rfl,_,⟨_,rfl,rfl⟩,_,rfl,_,⟨_,rfl,rfl⟩,_,⟨_,aI aF,jY aF,rfl⟩,Q0,_,aK aF,rfl,_,rfl,_,wI (f:=ed) (x:=(⟨d,e,g,i,l,j⟩:ψ)),?_⟩;refine rt ?_;cases h;exact wt Q1 J2 rfl
 refine sk (Ok.wk (Wk.freeze (id:=1001) rfl) ?_);refine Ok.uH (E:=eB) (chain:=[(9,[0,10,11,12]),(13,[])]) tok mixed (by kernel_rfl) ?_;have ⟨ah,h⟩:=ak h;refine ⟨_,rfl,_,rfl,_,rfl,_,rfl,_,rfl,_,⟨_,rfl,rfl⟩,_,rfl,_,⟨_,rfl,rfl⟩,_,rfl,_,rfl,_,rfl,_,rfl,?_⟩;refine af (cg [(1000,19)] [(900,19)] (RA x2 x1.1.1 ([(⟨d,e,g,i,l,j⟩:ψ)]) ah) (.cons (Ln.o rfl) nq) ⟨⟨19,_,rfl,rfl,.refl rfl⟩,Q0⟩ ?_);refine ⟨⟨⟨_,rfl,rfl⟩,⟨_,rfl,rfl⟩,⟨_,rfl,rfl⟩,⟨_,rfl,rfl⟩,Q0⟩,af (⟨_,rfl,Q0,?_⟩)⟩;cases h;exact wt Q1 J2 rfl
def agf {f d e g i j r} (h:Nj f d e g i j=some r):Θ prog 168 [.b 1000 0,vi f,vs d,vi e] ⟨aM,[(1000,.box [.o 1001,vi g,vi i]),(1001,.own 44 6 (mI j))]⟩ fun x s=>x=(.t [])∧s.H=[(1000,.box [.o 999,vi r.1,vi r.2.1]),(999,.own 44 6 (mI r.2.2))]:=by
 refine pg tok 51 func168 ?_;unfold Nj at h;refine sq (Ok.wk (Wk.freeze (id:=1001) rfl) ?_);refine rg ?_;have ⟨x1,θ,h⟩:=η h;refine Θ.eD (id:=1000) (rV θ) rfl (.box lz) rfl (.cons (Lr.b) (.cons (Lr.cq rfl) .nil)) ?_;rintro _ _ ⟨rfl,rfl⟩;refine ⟨_,rfl,?_⟩;refine sg ?_;have ⟨x2,aq,h⟩:=η h;refine ⟨_,rfl,?_⟩;refine Θ.call (zr aq) lz ?_;refine sq (Ok.uH (E:=eB) (chain:=[(2,[3,4,5,6,7,8,9,10,11,12,14]),(13,[14]),(15,[])]) tok mixed (by kernel_rfl) ?_);have ⟨x3,aF,h⟩:=η h;refine ⟨_,rfl,_,⟨_,rfl,rfl⟩,_,rfl,_,rfl,_,rfl,_,rfl,_,rfl,_,rfl,_,rfl,_,⟨_,rfl,rfl⟩,_,rfl,_,rfl,_,rfl,?_⟩;refine af (Θ.own (D:=26) (GR aF) lz rfl ?_);have ⟨ah,h⟩:=ak h;refine ⟨⟨⟨_,rfl,rfl⟩,⟨_,rfl,rfl⟩,⟨_,rfl,rfl⟩,⟨_,rfl,rfl⟩,⟨_,rfl,rfl⟩,⟨_,rfl,rfl⟩,⟨_,rfl,rfl⟩,⟨_,rfl,_,rfl,rfl⟩,⟨_,rfl,rfl⟩,⟨_,rfl,rfl⟩,⟨_,rfl,rfl⟩,Q0⟩,?_⟩;refine af (cg [(1000,26)] [(900,26)] (RB x3 x2.1 ([(⟨d,e,x1.2.Tree.ar⟩:aJ)]) ah) (.cons (Ln.o rfl) nq) ⟨⟨26,_,rfl,rfl,.refl rfl⟩,Q0⟩ ?_);refine ⟨⟨⟨_,rfl,rfl⟩,Q0⟩,af (⟨_,rfl,Q0,?_⟩)⟩;refine sg ?_;have ⟨aQ,h⟩:=ak h;refine ⟨_,rfl,af ⟨aQ,_,rfl,?_⟩⟩;refine rg ?_;have ⟨x4,aV,h⟩:=η h;refine ⟨_,rfl,?_⟩;refine cg [(1000,1000),(1001,26)] [(19,999)] (NR aV) (.cons (Ln.b rfl) (.cons (Ln.a (n4 (.cons (Ln.o rfl) nq))) .nil)) ⟨⟨1000,_,rfl,rfl,.box nq⟩,⟨26,_,rfl,rfl,.refl rfl⟩,Q0⟩ ?_;cases h;exact wt Q1 J2 rfl
def Vr {c e f d r} (h:M' c e f d=some r):Pure prog 115 [.a (b0 c),vi e,vs f,vi d] (.t [.a (b0 r.1),vi r.2.1,vi r.2.2]):=by
 refine pq tok 83 func115 ?_;unfold M' at h;refine sg (sq ?_);have ⟨v1,ν,h⟩:=η h;refine Ok.aB ⟨Γ [(1,vi e),(2,vs f),(3,vi d),(4,.b 4 0),(8,.b 8 0),(19,vb v1)],[(4,.box (b0 c)),(8,.box (k1 0 0))]⟩ ?_ ?_
 ·refine rg ?_;have ⟨c1,ξ,ν⟩:=η ν;refine Br.ite ξ (fun hb ξ=>?_) fun hb ξ=>?_
  ·cases ξ;cases ν;exact wt Q6 J2 rfl
  cases ξ;cases ν;exact wt Q6 J2 rfl
 refine ct h (fun hb h=>?_) fun hb h=>?_
 ·refine sg ⟨_,rfl,_,rfl,?_⟩;refine rt ?_;cases h;exact ⟨_,rfl,Fz.t fq⟩
 refine sk (sg ?_);refine ⟨_,rfl,?_⟩;refine sq (sg ?_);have ⟨x1,θ,h⟩:=η h;refine Θ.eD (id:=23) (afZ θ) rfl (.box lz) rfl (.cons (Lr.b) (.cons (Lr.cq rfl) (.cons (Lr.cq rfl) .nil))) ?_;rintro _ _ ⟨rfl,rfl⟩;refine sg (ct h (fun hb h=>?_) fun hb h=>?_)
 ·refine sg ⟨_,rfl,_,rfl,?_⟩;refine rt ?_;cases h;exact ⟨_,rfl,Fz.t fq⟩
 refine sk (sq ?_);have ⟨v2,Δ,h⟩:=η h;refine Ok.aB ⟨Γ [(1,vi e),(2,vs f),(3,vi d),(4,.b 4 0),(8,.b 8 0),(11,.b 23 0),(46,vb v2)],[(4,.box (b0 c)),(8,.box (k1 0 0)),(23,.box (b5 x1.2))]⟩ ?_ ?_
 ·refine rg ⟨_,rfl,_,au _,fun _=>?_⟩;have ⟨c2,ax,Δ⟩:=η Δ;refine Br.cO ax (fun hb ax=>?_) fun hb ax=>?_
  ·cases ax;cases Δ;exact wt Q7 J3 rfl
  refine ⟨_,rfl,?_⟩;cases ax;cases Δ;exact wt Q7 J3 rfl
 refine ct h (fun hb h=>?_) fun hb h=>?_
 ·refine sg ⟨_,rfl,_,rfl,?_⟩;refine rt ?_;cases h;exact ⟨_,rfl,Fz.t fq⟩
 refine sk (sg ?_);refine ⟨_,rfl,_,rfl,?_⟩;have ⟨v3,aA,h⟩:=η h;refine Ok.aB ⟨Γ [(1,vi e),(2,vs f),(8,.b 8 0),(11,.b 23 0),(13,.b 13 0)],[(8,.box (k1 0 0)),(23,.box (b5 x1.2)),(13,.box (k9 x1.2.Tree.Next d 1 v3))]⟩ ?_ ?_
 ·refine sg (ct aA (fun hb aA=>?_) fun hb aA=>?_)
  ·refine rg ⟨_,rfl,?_⟩;cases aA;exact wt Q5 J3 rfl
  refine sk ?_;cases aA;exact wt Q5 J3 rfl
 refine sg ?_;have ⟨ah,h⟩:=ak h;refine ⟨_,rfl,af ⟨ah,_,rfl,?_⟩⟩;refine sg ?_;have ⟨x2,aq,h⟩:=η h;refine ⟨_,rfl,?_⟩;refine cg [(1000,23)] [(19,999)] (NQ aq) (.cons (Ln.b rfl) (.cons (Ln.a (n2 (n1 (.cons (Ln.nil) (.cons (Ln.nil) nq))))) .nil)) ⟨⟨23,_,rfl,rfl,.box nq⟩,Q0⟩ ?_;refine sg ?_;have ⟨x3,aF,h⟩:=η h;refine ⟨_,rfl,?_⟩;refine cg [(1000,23),(1001,999)] [(999,999)] (agf aF) (.cons (Ln.b rfl) nq) ⟨⟨23,_,rfl,rfl,.box (.cons (Ln.o rfl) nq)⟩,⟨999,_,rfl,rfl,.refl rfl⟩,Q0⟩ ?_;refine sq (Ok.gP (m:=6) (late:=[4,5]) (MD:=⟨[]⟩) (CH:=⟨[]⟩) tok mixed (by kernel_rfl) ?_);refine ⟨_,rfl,_,rfl,_,rfl,_,⟨_,rfl,rfl⟩,_,rfl,_,⟨_,rfl,rfl⟩,Q0,?_⟩;refine ⟨_,rfl,⟨⟨_,rfl,rfl⟩,⟨_,rfl,_,rfl,rfl⟩,Q0⟩,?_⟩;refine rt ?_;cases h;exact ⟨_,rfl,Fz.t (.cons (Fz.a (.cons (Fz.o rfl) fq)) fq)⟩
def aeA {c r} (h:JE c=some r):Pure prog 198 [.a (b4 c)] (vb r):=by
 refine pq tok 11 func198 ?_;unfold JE at h;refine sg ?_;have ⟨v1,ν,h⟩:=η h;refine Ok.aB ⟨Γ [(2,vb v1)],[]⟩ ?_ ?_
 ·refine rg ⟨_,rfl,?_⟩;have ⟨c1,ξ,ν⟩:=η ν;refine Br.ite ξ (fun hb ξ=>?_) fun hb ξ=>?_
  ·refine ⟨_,rfl,?_⟩;cases ξ;cases ν;exact wt Q1 Q0 rfl
  cases ξ;cases ν;exact wt Q1 Q0 rfl
 refine rt ?_;cases h;exact Fz.v
def agk {c r} (h:D6 c=some r):jb prog 169 [.a (b0 c)] 3 1 (mB r):=by
 refine pv tok 22 func169 ?_;unfold D6 at h;refine sg (sg ?_);have ⟨v1,ν,h⟩:=η h;refine Ok.aB ⟨Γ [(3,.o 19)],[(19,.own 3 1 (mB v1))]⟩ ?_ ?_
 ·refine sg ⟨_,rfl,_,au _,fun _=>?_⟩;refine bl (Ok.loop (fun (s1:Int×(List Int))=>⟨Γ [(3,.o 19),(7,.s (mI c.ι)),(8,vi (c.ι.length:Int)),(9,vi s1.1)],[(19,.own 3 1 (mB s1.2))]⟩) (JD c) (s0:=(0,[])) ν ((Wk.nn (t:=3) (id:=19) (E:=3) (K:=1) rfl rfl).trans (wt Q4 ⟨hr,Q0⟩ rfl)) ?_);intro s1 y1 ζ az;unfold JD at ζ;refine sg (sq (ct ζ (fun hb ζ=>?_) fun hb ζ=>?_))
  ·refine sk ?_;have ⟨v2,Δ,ζ⟩:=η ζ;refine Ok.aB ⟨Γ [(3,.o 19),(7,.s (mI c.ι)),(8,vi (c.ι.length:Int)),(9,vi s1.1)],[(19,.own 3 1 (mB v2))]⟩ ?_ ?_
   ·refine bl (sg ?_);have ⟨x1,θ,Δ⟩:=η Δ;refine ⟨_,aI θ,_,aK θ,_,rfl,_,rfl,?_⟩;refine sg ?_;have ⟨x2,aq,Δ⟩:=η Δ;refine ⟨_,rfl,?_⟩;refine Θ.call (aeA aq) lz ?_;refine ct Δ (fun hb Δ=>?_) fun hb Δ=>?_
    ·refine rg ?_;have ⟨ah,Δ⟩:=ak Δ;refine ⟨_,rfl,af ⟨cL (f:=Go.Cat.encI) (n:=1) (fun _=>rfl) ([x1.κ]),cJ (f:=Go.Cat.encI) (l:=s1.2) (l':=[x1.κ]) ah,_,(bP (f:=Go.Cat.encI) (l₁:=s1.2) (l₂:=[x1.κ])).symm,?_⟩⟩;cases Δ;exact wt Q4 J1 rfl
    refine sk ?_;cases Δ;exact wt Q4 J1 rfl
   refine rg ?_;have ⟨aQ,ζ⟩:=ak ζ;refine (af ⟨aQ,?_⟩);exact ⟨_,sj ζ,wt Q4 J1 rfl⟩
  refine xt ?_;have ζ:=aN ζ az;cases ζ;exact wt Q1 J1 rfl
 refine sg (rt ?_);cases h;exact (.inr ⟨_,rfl,rfl⟩)
def aez {b r} (h:D6 b=some r):Pure prog 169 [.a (b0 b)] (.s (mB r)):=(agk h).pure
def aew {c d r} (h:IA c d=some r):Pure prog 171 [.a (b7 c),.p [vi d]] (vb r):=by
 refine pq tok 8 func171 ?_;unfold IA at h;refine sg (sg ⟨_,rfl,_,rfl,?_⟩);refine rt ?_;cases h;exact Fz.v
def afE {a b r} (h:ME a b=some r):Pure prog 201 [.s (mF a),.c (.func 171) [] [.p [vi b]]] (vi r):=by
 refine pq tok 19 func201 ?_;unfold ME at h;refine sg (Ok.cU (fun v1=>⟨Γ [],[]⟩) (fun v1=>MG v1=some r) ?_ ?_)
 ·refine sg ⟨_,au _,fun _=>?_⟩;refine bl (Ok.loop (fun (s1:Int)=>⟨Γ [(0,.s (mF a)),(1,.c (.func 171) [] [.p [vi b]]),(7,vi (a.length:Int)),(8,vi s1)],[]⟩) (MF a b) (s0:=0) h (wt Q4 Q0 rfl) ?_);intro s1 y1 ζ az;unfold MF at ζ;refine sg (sq (ct ζ (fun hb ζ=>?_) fun hb ζ=>?_))
  ·refine sk (sq (bl (sg ?_)));refine sg ?_;have ⟨x1,θ,ζ⟩:=η ζ;have ⟨x2,aq,ζ⟩:=η ζ;refine ⟨_,aI θ,_,aK θ,_,rfl,?_⟩;refine Θ.call (aew aq) lz ?_;refine ct ζ (fun hb ζ=>?_) fun hb ζ=>?_
   ·refine sg (rt ?_);have ζ:=aN ζ az;cases ζ;exact Fz.v
   refine sk (rg ?_);have ⟨ah,ζ⟩:=ak ζ;refine (af ⟨ah,?_⟩);exact ⟨_,sj ζ,wt Q4 Q0 rfl⟩
  refine xt ?_;have ζ:=aN ζ az;exact ⟨_,ζ,wt Q0 Q0 rfl⟩
 intro v1 h;unfold MG at h;refine sg (rt ?_);cases h;exact Fz.v
def afA {a b r} (h:Mp a b=some r):Pure prog 170 [.s (mF a),.c (.func 171) [] [.p [vi b]]] (vb r):=by
 refine pq tok 9 func170 ?_;unfold Mp at h;refine sg (sg ?_);have ⟨x1,θ,h⟩:=η h;refine Θ.call (afE θ) lz ?_;refine rt ?_;cases h;exact Fz.v
def Vy {d a r} (h:Gz d a=some r):Θ prog 234 [.b 1000 0,vi d] ⟨aM,[(1000,.box (b5 a))]⟩ fun x s=>x=(.t [])∧s.H=[(1000,.box (k0 r.1 r.2.1 r.2.2))]:=by
 refine pg tok 27 func234 ?_;unfold Gz at h;refine sg ?_;have ⟨x1,θ,h⟩:=η h;refine Θ.eD (id:=1000) (GO θ) rfl (.box lz) rfl (.cons (Lr.b) (.cons (Lr.cq rfl) .nil)) ?_;rintro _ _ ⟨rfl,rfl⟩;refine sg (ct h (fun hb h=>?_) fun hb h=>?_)
 ·refine rg ?_;have ⟨x2,aq,h⟩:=η h;refine ⟨_,rfl,?_⟩;refine Θ.own (D:=19) (NS aq) lz rfl ?_;have ⟨ah,h⟩:=ak h;have ⟨aQ,h⟩:=ak h;refine (af ⟨ah,?_⟩);refine cg [(1000,19)] [(900,19)] (aaR x2 x1.1.1 (x1.1.1+1) aQ) (.cons (Ln.o rfl) nq) ⟨⟨19,_,rfl,rfl,.refl rfl⟩,Q0⟩ ?_;refine ⟨_,rfl,?_⟩;cases h;exact (Wk.freeze (id:=19) rfl).trans (wt Q1 ⟨hr,Q0⟩ rfl)
 refine sk ?_;cases h;exact wt Q1 J1 rfl
def afP {c d r} (h:Na c d=some r):Pure prog 172 [.a (b0 c),vi d] (.t [.a (b0 r.1),vi r.2]):=by
 refine pq tok 39 func172 ?_;unfold Na at h;refine sg (sg ⟨_,rfl,?_⟩);refine sg ?_;have ⟨x1,θ,h⟩:=η h;refine Θ.eD (id:=11) (rV θ) rfl (.box lz) rfl (.cons (Lr.b) (.cons (Lr.cq rfl) .nil)) ?_;rintro _ _ ⟨rfl,rfl⟩;refine ⟨_,rfl,?_⟩;refine sq (bl (sg ?_));refine ct h (fun hb h=>?_) fun hb h=>?_
 ·refine sg ⟨_,rfl,_,rfl,?_⟩;refine rt ?_;cases h;exact ⟨_,rfl,Fz.t fq⟩
 refine sg ⟨_,rfl,?_⟩;refine ct h (fun hb h=>?_) fun hb h=>?_
 ·refine sg ⟨_,rfl,_,rfl,?_⟩;refine rt ?_;cases h;exact ⟨_,rfl,Fz.t fq⟩
 refine sg ⟨_,rfl,?_⟩;refine ct h (fun hb h=>?_) fun hb h=>?_
 ·refine sg ⟨_,rfl,_,rfl,?_⟩;refine rt ?_;cases h;exact ⟨_,rfl,Fz.t fq⟩
 refine sk (sg ?_);have ⟨x2,aq,h⟩:=η h;refine cg [(1000,11)] [] (Vy aq) (.cons (Ln.b rfl) nq) ⟨⟨11,_,rfl,rfl,.box nq⟩,Q0⟩ ?_;refine sg ⟨_,rfl,_,rfl,?_⟩;refine rt ?_;cases h;exact ⟨_,rfl,Fz.t fq⟩
def agr {a r} (h:Mo a=some r):jb prog 174 [.s (mA a)] 86 3 (mA r):=by
 refine pv tok 8 func174 ?_;unfold Mo at h;refine sg (sq (sg ?_));intro b1 cy;have h:=Dh h b1 (fun e=>Ov.1 (cy e));refine ct h (fun hb h=>?_) fun hb h=>?_
 ·refine sg (rt ?_);cases h;exact (.inl ⟨rfl,rfl⟩)
 refine sk (sg ?_);have ⟨ah,h⟩:=ak h;refine Or.inr ⟨cL (f:=gr) (n:=3) (fun _=>rfl) a,cJ (f:=gr) (l:=([]:List aU)) (l':=a) ah,_,(bP (f:=gr) (l₁:=([]:List aU)) (l₂:=a)).symm,?_⟩;refine rt ?_;cases h;exact (.inr ⟨_,rfl,rfl⟩)
def aex {c d e f r} (h:IB c d e f=some r):Pure prog 175 [.a (b8 c),.p (k0 d e f)] (vb r):=by
 refine pq tok 15 func175 ?_;unfold IB at h;refine sg (sg ?_);have ⟨x1,θ,h⟩:=η h;refine ⟨_,rfl,_,rfl,?_⟩;refine Θ.call (wU θ) lz ?_;refine ⟨_,rfl,?_⟩;refine sg (rt ?_);cases h;exact Fz.v
def afF {b a r} (h:MK b a=some r):Pure prog 235 [.s (mA b),.c (.func 175) [] [.p (b0 a)]] (vi r):=by
 refine pq tok 19 func235 ?_;unfold MK at h;refine sg (Ok.cU (fun v1=>⟨Γ [],[]⟩) (fun v1=>MM v1=some r) ?_ ?_)
 ·refine sg ⟨_,au _,fun _=>?_⟩;refine bl (Ok.loop (fun (s1:Int)=>⟨Γ [(0,.s (mA b)),(1,.c (.func 175) [] [.p (b0 a)]),(7,vi (b.length:Int)),(8,vi s1)],[]⟩) (ML b a) (s0:=0) h (wt Q4 Q0 rfl) ?_);intro s1 y1 ζ az;unfold ML at ζ;refine sg (sq (ct ζ (fun hb ζ=>?_) fun hb ζ=>?_))
  ·refine sk (sq (bl (sg ?_)));refine sg ?_;have ⟨x1,θ,ζ⟩:=η ζ;have ⟨x2,aq,ζ⟩:=η ζ;refine ⟨_,aI θ,_,aK θ,_,rfl,?_⟩;refine Θ.call (aex aq) lz ?_;refine ct ζ (fun hb ζ=>?_) fun hb ζ=>?_
   ·refine sg (rt ?_);have ζ:=aN ζ az;cases ζ;exact Fz.v
   refine sk (rg ?_);have ⟨ah,ζ⟩:=ak ζ;refine (af ⟨ah,?_⟩);exact ⟨_,sj ζ,wt Q4 Q0 rfl⟩
  refine xt ?_;have ζ:=aN ζ az;exact ⟨_,ζ,wt Q0 Q0 rfl⟩
 intro v1 h;unfold MM at h;refine sg (rt ?_);cases h;exact Fz.v
def aey {c d r} (h:IC c d=some r):Pure prog 175 [.a (b8 c),.p (b0 d)] (vb r):=by
 refine pq tok 15 func175 ?_;unfold IC at h;refine sg (sg ?_);have ⟨x1,θ,h⟩:=η h;refine ⟨_,rfl,_,rfl,?_⟩;refine Θ.call (wU θ) lz ?_;refine ⟨_,rfl,?_⟩;refine sg (rt ?_);cases h;exact Fz.v
def agc {g e r} (h:Mt g e=some r):Θ prog 173 [.o 1000,.c (.func 175) [] [.b 1001 0]] ⟨aM,[(1000,.own 86 3 (mA g)),(1001,.box (b0 e))]⟩ fun x s=>x=(.o 999)∧s.H=[(999,.own 86 3 (mA r)),(1001,.box (b0 e))]:=by
 refine pg tok 42 func173 ?_;unfold Mt at h;refine sg (sg ?_);have ⟨x1,θ,h⟩:=η h;refine Θ.borrow (afF θ) (.cons (Fz.o rfl) (.cons (Fz.c .nil (.cons (Fz.b rfl rfl) .nil)) .nil)) rfl ?_;refine sq (sg ?_);refine ct h (fun hb h=>?_) fun hb h=>?_
 ·refine sg (rt ?_);cases h;exact (Wk.mv (i:=1000) (d:=999) rfl rfl rfl).trans (wt Q1 ⟨hr,hr,Q0⟩ rfl)
 refine sk ?_;have ⟨v1,ν,h⟩:=η h;refine Ok.aB ⟨Γ [(0,.o 1000),(5,vi v1.1)],[(1000,.own 86 3 (mA v1.2)),(1001,.box (b0 e))]⟩ ?_ ?_
 ·refine sg ?_;have ⟨ah,ν⟩:=ak ν;refine (af ⟨ah,?_⟩);refine bl (Ok.loop (fun (s1:Int×Int×(List aU))=>⟨Γ [(0,.o 1000),(1,.c (.func 175) [] [.b 1001 0]),(5,vi s1.1),(6,vi s1.2.1)],[(1000,.own 86 3 (mA s1.2.2)),(1001,.box (b0 e))]⟩) (Mu e) (s0:=(x1,x1+1,g)) ν (wt Q4 ⟨hr,hr,Q0⟩ rfl) ?_);intro s1 y1 ζ az;unfold Mu at ζ;refine sq (sg ?_);refine ⟨_,au _,fun _=>?_⟩;refine ct ζ (fun hb ζ=>?_) fun hb ζ=>?_
  ·refine sk ?_;have ⟨v2,Δ,ζ⟩:=η ζ;refine Ok.aB ⟨Γ [(0,.o 1000),(1,.c (.func 175) [] [.b 1001 0]),(5,vi v2.1),(6,vi s1.2.1)],[(1000,.own 86 3 (mA v2.2)),(1001,.box (b0 e))]⟩ ?_ ?_
   ·refine bl (sg ?_);have ⟨x2,aq,Δ⟩:=η Δ;refine ⟨_,aI aq,jY aq,_,aK aq,rfl,_,rfl,_,rfl,?_⟩;refine sg ?_;have ⟨x3,aF,Δ⟩:=η Δ;refine ⟨_,rfl,?_⟩;refine Θ.borrow (aey aF) (.cons (Fz.a fq) (.cons (Fz.b rfl rfl) .nil)) rfl ?_;refine ct Δ (fun hb Δ=>?_) fun hb Δ=>?_
    ·refine sg ?_;have ⟨x4,aV,Δ⟩:=η Δ;refine ⟨_,rfl,_,aI aV,jY aV,_,aK aV,rfl,_,rfl,_,wI (f:=gr) (x:=x2),?_⟩;refine rg ?_;have ⟨aQ,Δ⟩:=ak Δ;refine (af ⟨aQ,?_⟩);cases Δ;exact wt Q4 J2 rfl
    refine sk ?_;cases Δ;exact wt Q4 J2 rfl
   refine rg ?_;have ⟨bN,ζ⟩:=ak ζ;refine (af ⟨bN,?_⟩);exact ⟨_,sj ζ,wt Q4 J2 rfl⟩
  refine xt ?_;have ζ:=aN ζ az;cases ζ;exact wt Q2 J2 rfl
 refine sg ?_;have ⟨c8,h⟩:=ak h;refine ⟨_,fK c8.1,Gc c8,_,Pj (f:=gr) (z:=((⟨0,0,0⟩:aU):aU)) v1.2 (v1.1.toNat),?_⟩;refine sq (Ok.wk (Wk.mv (i:=1000) (d:=999) rfl rfl rfl) ?_);refine rg ?_;have ⟨eJ,h⟩:=ak h;refine ⟨_,fK eJ.1,Gc eJ,_,(List.map_take (f:=gr)).symm,?_⟩;refine rt ?_;cases h;exact wt Q1 J2 rfl
def U7 {c d r} (h:E1 c d=some r):Pure prog 258 [.a (b8 c),vi d] (vi r):=by
 refine pq tok 9 func258 ?_;unfold E1 at h;refine sg (sg ?_);have ⟨x1,θ,h⟩:=η h;refine ⟨_,rfl,?_⟩;refine Θ.call (GH θ) lz ?_;refine rt ?_;cases h;exact Fz.v
def afz {a b r} (h:Ml a b=some r):Pure prog 257 [.s (mA a),vi b,.c (.func 258) [] []] (.t [vi r.1,vb r.2]):=by
 refine pq tok 49 func257 ?_;unfold Ml at h;refine sg (sg ⟨_,au _,fun _=>?_⟩);refine sg ?_;have ⟨v1,ν,h⟩:=η h;refine Ok.aB ⟨Γ [(0,.s (mA a)),(1,vi b),(2,.c (.func 258) [] []),(8,vi (a.length:Int)),(9,vi v1)],[]⟩ ?_ ?_
 ·refine bl (Ok.loop (fun (s1:Int×Int)=>⟨Γ [(0,.s (mA a)),(1,vi b),(2,.c (.func 258) [] []),(8,vi (a.length:Int)),(9,vi s1.1),(10,vi s1.2)],[]⟩) (Mm a b) (s0:=(0,(a.length:Int))) ν (wt Q6 Q0 rfl) ?_);intro s1 y1 ζ az;unfold Mm at ζ;refine sq (sg ?_);refine ct ζ (fun hb ζ=>?_) fun hb ζ=>?_
  ·refine sk (bl (sg ?_));have ⟨ah,ζ⟩:=ak ζ;refine (af ⟨ah,_,rfl,(by decide),_,rfl,_,rfl,?_⟩);refine sg ?_;have ⟨x1,θ,ζ⟩:=η ζ;have ⟨x2,aq,ζ⟩:=η ζ;refine ⟨_,aI θ,_,aK θ,_,rfl,?_⟩;refine Θ.call (U7 aq) lz ?_;refine ct ζ (fun hb ζ=>?_) fun hb ζ=>?_
   ·refine rg ?_;have ⟨aQ,ζ⟩:=ak ζ;refine (af ⟨aQ,?_⟩);exact ⟨_,sj ζ,wt Q6 Q0 rfl⟩
   refine rg ?_;exact ⟨_,sj ζ,wt Q6 Q0 rfl⟩
  refine xt ?_;have ζ:=aN ζ az;cases ζ;exact wt Q5 Q0 rfl
 have ⟨v2,Δ,h⟩:=η h;refine Ok.aB ⟨Γ [(6,vi v1),(7,vb v2)],[]⟩ ?_ ?_
 ·refine rg ?_;have ⟨c1,ξ,Δ⟩:=η Δ;refine Br.ite ξ (fun hb ξ=>?_) fun hb ξ=>?_
  ·have ⟨x3,aF,ξ⟩:=η ξ;have ⟨x4,aV,ξ⟩:=η ξ;refine ⟨_,aI aF,_,aK aF,_,rfl,?_⟩;refine Θ.call (U7 aV) lz ?_;cases ξ;cases Δ;exact wt Q2 Q0 rfl
  cases ξ;cases Δ;exact wt Q2 Q0 rfl
 refine rt ?_;cases h;exact (Fz.t fq)
def aeS {a b r} (h:K8 a b=some r):Pure prog 211 [.s (mA a),vi b] (.t [vi r.1,vb r.2]):=by
 refine pq tok 11 func211 ?_;unfold K8 at h;refine sg (sg ?_);have ⟨x1,θ,h⟩:=η h;refine Θ.call (afz θ) lz ?_;refine rt ?_;cases h;exact (Fz.t fq)
def af9 {d a e r} (h:K0 d a e=some r):Θ prog 277 [vi d,.b 1000 0,.b 1001 0] ⟨aM,[(1000,.box [.s (mA a)]),(1001,.box [vi e])]⟩ fun x s=>x=(vb r.1)∧s.H=[(1000,.box [.s (mA a)]),(1001,.box [vi r.2])]:=by
 refine pg tok 17 func277 ?_;unfold K0 at h;refine sg ?_;have ⟨v1,ν,h⟩:=η h;refine Ok.aB ⟨Γ [(2,.b 1001 0)],[(1001,.box [vi v1]),(1000,.box [.s (mA a)])]⟩ ?_ ?_
 ·refine sg ?_;have ⟨x1,θ,ν⟩:=η ν;refine ⟨_,rfl,?_⟩;refine Θ.call (aeS θ) lz ?_;refine sg (ct ν (fun hb ν=>?_) fun hb ν=>?_)
  ·refine rg ⟨_,rfl,?_⟩;cases ν;exact wt Q1 J2 rfl
  refine sk ?_;cases ν;exact wt Q1 J2 rfl
 refine sg ⟨_,rfl,?_⟩;refine rt ?_;cases h;exact wt Q1 J2 rfl
def af' {d f e g r} (h:K9 d f e g=some r):Θ prog 276 [.a (b0 d),vi f,.c (.func 277) [] [.b 1000 0,.b 1001 0]] ⟨aM,[(1000,.box [.s (mA e)]),(1001,.box [vi g])]⟩ fun x s=>x=(.t [])∧s.H=[(1000,.box [.s (mA e)]),(1001,.box [vi r])]:=by
 refine pg tok 23 func276 ?_;unfold K9 at h;refine sg (bl (Ok.loop (fun (s1:Int×Int)=>⟨Γ [(1,vi s1.1),(2,.c (.func 277) [] [.b 1000 0,.b 1001 0]),(3,.b 3 0)],[(1000,.box [.s (mA e)]),(1001,.box [vi s1.2]),(3,.box (b0 d))]⟩) (K_ e d) (s0:=(f,g)) h (wt Q3 ⟨hr,hr,hr,Q0⟩ rfl) ?_));intro s1 y1 ζ az;unfold K_ at ζ;refine sq ?_;have ⟨v1,ν,ζ⟩:=η ζ;refine Ok.aB ⟨Γ [(1,vi s1.1),(2,.c (.func 277) [] [.b 1000 0,.b 1001 0]),(3,.b 3 0),(14,vb v1.1)],[(1000,.box [.s (mA e)]),(1001,.box [vi v1.2]),(3,.box (b0 d))]⟩ ?_ ?_
 ·refine rg ?_;have ⟨x1,θ,ν⟩:=η ν;refine cg [(1000,1000),(1001,1001)] [] (af9 θ) (n1 (.cons (Ln.b rfl) (.cons (Ln.b rfl) .nil))) ⟨⟨1000,_,rfl,rfl,.box nq⟩,⟨1001,_,rfl,rfl,.box nq⟩,Q0⟩ ?_;have ⟨c1,ξ,ν⟩:=η ν;refine Br.ite ξ (fun hb ξ=>?_) fun hb ξ=>?_
  ·cases ξ;cases ν;exact wt Q4 J3 rfl
  cases ξ;cases ν;exact wt Q4 J3 rfl
 refine ct ζ (fun hb ζ=>?_) fun hb ζ=>?_
 ·refine sk (bl (sg ?_));have ⟨x2,aq,ζ⟩:=η ζ;refine ⟨_,rfl,?_⟩;refine Θ.call (wU aq) lz ?_;refine ⟨_,rfl,?_⟩;refine rg ⟨_,rfl,?_⟩;exact ⟨_,sj ζ,wt Q3 J3 rfl⟩
 refine xt ?_;have ζ:=aN ζ az;cases ζ;exact wt Q1 J2 rfl
def aeQ {d e f r} (h:KZ d e f=some r):Pure prog 236 [.a (b0 d),.s (mA e),vi f] (vi r):=by
 refine pq tok 13 func236 ?_;unfold KZ at h;refine sg (sg ⟨_,rfl,?_⟩);refine sg ?_;have ⟨x1,θ,h⟩:=η h;refine ⟨_,rfl,?_⟩;refine cg [(1000,4),(1001,7)] [] (af' θ) (n2 (.cons (Ln.c .nil (.cons (Ln.b rfl) (.cons (Ln.b rfl) .nil))) .nil)) ⟨⟨4,_,rfl,rfl,.box nq⟩,⟨7,_,rfl,rfl,.box nq⟩,Q0⟩ ?_;refine sg ⟨_,rfl,?_⟩;refine rt ?_;cases h;exact Fz.v
def aev {c d r} (h:Iu c d=some r):Pure prog 177 [.a (b0 c),.s (mA d)] (vb r):=by
 refine pq tok 70 func177 ?_;unfold Iu at h;refine sg (sg (Ok.cU (fun v1=>⟨Γ [],[]⟩) (fun v1=>Ix v1=some r) ?_ ?_))
 ·refine sg ⟨_,rfl,_,au _,fun _=>?_⟩;refine bl (Ok.loop (fun (s1:Int×(List (Int×Int)))=>⟨Γ [(1,.s (mA d)),(2,.b 2 0),(5,.m 15),(17,.s (mI c.ι)),(18,vi (c.ι.length:Int)),(19,vi s1.1)],[(2,.box (b0 c)),(15,.mp false (bY (fun p=>(p.1,Go.Cat.encI p.2)) s1.2))]⟩) (Iv c d) (s0:=(0,([]:List (Int×Int)))) h (wt Q6 ⟨⟨_,rfl,.refl _⟩,⟨_,rfl,.refl _⟩,Q0⟩ rfl) ?_);intro s1 y1 ζ az;unfold Iv at ζ;refine sg (sq (ct ζ (fun hb ζ=>?_) fun hb ζ=>?_))
  ·refine sk (Ok.cU (fun v2=>⟨Γ [(1,.s (mA d)),(2,.b 2 0),(5,.m 15),(17,.s (mI c.ι)),(18,vi (c.ι.length:Int)),(19,vi s1.1)],[(2,.box (b0 c)),(15,.mp false (bY (fun p=>(p.1,Go.Cat.encI p.2)) v2))]⟩) (fun v2=>DA s1 v2=some y1) ?_ ?_)
   ·refine bl (sg ?_);have ⟨x1,θ,ζ⟩:=η ζ;refine ⟨_,aI θ,_,aK θ,_,rfl,_,rfl,?_⟩;refine sq (sg ?_);refine ⟨_,rfl,_,au _,fun _=>?_⟩;refine ct ζ (fun hb ζ=>?_) fun hb ζ=>?_
    ·refine xt ?_;exact ⟨_,ζ,wt Q6 ⟨⟨_,rfl,.refl _⟩,⟨_,rfl,.refl _⟩,Q0⟩ rfl⟩
    refine sk (sg ?_);have ⟨x2,aq,ζ⟩:=η ζ;refine ⟨_,rfl,_,rfl,?_⟩;refine Θ.call (aeQ aq) lz ?_;refine sg ⟨_,rfl,_,au _,fun _=>?_⟩;refine bl (Ok.loop (fun (s2:Int×(List (Int×Int)))=>⟨Γ [(1,.s (mA d)),(2,.b 2 0),(5,.m 15),(8,vi x2),(17,.s (mI c.ι)),(18,vi (c.ι.length:Int)),(19,vi s1.1),(33,.s (mC x1.ae)),(34,vi (x1.ae.length:Int)),(35,vi s2.1)],[(2,.box (b0 c)),(15,.mp false (bY (fun p=>(p.1,Go.Cat.encI p.2)) s2.2))]⟩) (Iw x1 c x2 s1) (s0:=(0,s1.2)) ζ (wt ⟨lr,lr,Q8⟩ ⟨⟨_,rfl,.refl _⟩,⟨_,rfl,.refl _⟩,Q0⟩ rfl) ?_);intro s2 y2 an dM;unfold Iw at an;refine sg (sq (ct an (fun hb an=>?_) fun hb an=>?_))
    ·refine sk (sq (bl (sg ?_)));have ⟨x3,aF,an⟩:=η an;refine ⟨_,aI aF,_,aK aF,_,rfl,_,rfl,?_⟩;refine sg ?_;have ⟨x4,aV,an⟩:=η an;refine ⟨_,rfl,_,rfl,?_⟩;refine Θ.call (wU aV) lz ?_;refine ⟨_,rfl,?_⟩;refine sg ?_;have ⟨x5,bJ,an⟩:=η an;refine ⟨_,rfl,_,vV Go.Cat.encI (z:=(0:Int)) bJ,_,yp Go.Cat.encI x3.κ s2.2,?_⟩;refine sq ?_;have ⟨v3,aA,an⟩:=η an;refine Ok.aB ⟨Γ [(1,.s (mA d)),(2,.b 2 0),(5,.m 15),(8,vi x2),(10,.b 10 0),(17,.s (mI c.ι)),(18,vi (c.ι.length:Int)),(19,vi s1.1),(33,.s (mC x1.ae)),(34,vi (x1.ae.length:Int)),(35,vi s2.1),(63,vb v3)],[(2,.box (b0 c)),(15,.mp false (bY (fun p=>(p.1,Go.Cat.encI p.2)) s2.2)),(10,.box (b6 x3))]⟩ ?_ ?_
     ·refine rg ⟨_,rfl,?_⟩;have ⟨c1,ξ,aA⟩:=η aA;refine Br.ite ξ (fun hb ξ=>?_) fun hb ξ=>?_
      ·cases ξ;have ⟨c2,ax,aA⟩:=η aA;refine Br.ite ax (fun hb ax=>?_) fun hb ax=>?_
       ·cases ax;cases aA;exact wt ⟨lr,lr,lr,lr,Q8⟩ J3 rfl
       cases ax;cases aA;exact wt ⟨lr,lr,lr,lr,Q8⟩ J3 rfl
      cases ξ;have ⟨c2,aL,aA⟩:=η aA;replace aL:=c9 aL;cases aL;cases aA;exact wt ⟨lr,lr,lr,lr,Q8⟩ J3 rfl
     refine ct an (fun hb an=>?_) fun hb an=>?_
     ·refine sg (rt ?_);have an:=aN an dM;have an:=aN an az;cases an;exact Fz.v
     refine sk (rg ?_);have ⟨ah,an⟩:=ak an;refine ⟨_,rfl,ah.1,jI (Nat.le_of_eq (au _)) ah.2,_,jD Go.Cat.encI x3.κ x2 s2.2,?_⟩;refine rg ?_;have ⟨aQ,an⟩:=ak an;refine (af ⟨aQ,?_⟩);exact ⟨_,sj an,wt ⟨lr,lr,Q8⟩ J2 rfl⟩
    refine xt ?_;have an:=aN an dM;exact ⟨_,an,wt Q6 ⟨⟨_,rfl,.refl _⟩,⟨_,rfl,.refl _⟩,Q0⟩ rfl⟩
   intro v2 ζ;unfold DA at ζ;refine rg ?_;have ⟨bN,ζ⟩:=ak ζ;refine (af ⟨bN,?_⟩);exact ⟨_,sj ζ,wt Q6 J2 rfl⟩
  refine xt ?_;have ζ:=aN ζ az;exact ⟨_,ζ,wt Q0 Q0 rfl⟩
 intro v1 h;unfold Ix at h;refine sg (rt ?_);cases h;exact Fz.v
def af_ {g d e f r} (h:K2 g d e f=some r):Θ prog 237 [vi g,.b 1000 0,.b 1001 0,.b 1002 0,.b 1004 0] ⟨aM,[(1000,.box (b0 d)),(1001,.box [vi e]),(1002,.box [.m 1003]),(1003,.mp false (bY (fun p=>(p.1,cB p.2)) f)),(1004,.box [.c (.func 237) [] [.b 1000 0,.b 1001 0,.b 1002 0,.b 1004 0]])]⟩ fun x s=>x=(.t [])∧s.H=[(1000,.box (k0 r.1 r.2.1 r.2.2.1)),(1001,.box [vi r.2.2.2.1]),(1002,.box [.m 1003]),(1003,.mp false (bY (fun p=>(p.1,cB p.2)) r.2.2.2.2)),(1004,.box [.c (.func 237) [] [.b 1000 0,.b 1001 0,.b 1002 0,.b 1004 0]])]:=by
 unfold K2 at h;refine YF (p:=fun (a:Int×Φ×Int×(List (Int×Bool))) (r:nY)=>Θ prog 237 [vi a.1,.b 1000 0,.b 1001 0,.b 1002 0,.b 1004 0] ⟨aM,[(1000,.box (b0 a.2.1)),(1001,.box [vi a.2.2.1]),(1002,.box [.m 1003]),(1003,.mp false (bY (fun p=>(p.1,cB p.2)) a.2.2.2)),(1004,.box [.c (.func 237) [] [.b 1000 0,.b 1001 0,.b 1002 0,.b 1004 0]])]⟩ fun x s=>x=(.t [])∧s.H=[(1000,.box (k0 r.1 r.2.1 r.2.2.1)),(1001,.box [vi r.2.2.2.1]),(1002,.box [.m 1003]),(1003,.mp false (bY (fun p=>(p.1,cB p.2)) r.2.2.2.2)),(1004,.box [.c (.func 237) [] [.b 1000 0,.b 1001 0,.b 1002 0,.b 1004 0]])]) (fun rQ OT a r h=>?_) h;have ⟨g,d,e,f⟩:=a;have IH:∀{g:Int} {d:Φ} {e:Int} {f:List (Int×Bool)} {r:nY},rQ (g,d,e,f)=some r→Θ prog 237 [vi g,.b 1000 0,.b 1001 0,.b 1002 0,.b 1004 0] ⟨aM,[(1000,.box (b0 d)),(1001,.box [vi e]),(1002,.box [.m 1003]),(1003,.mp false (bY (fun p=>(p.1,cB p.2)) f)),(1004,.box [.c (.func 237) [] [.b 1000 0,.b 1001 0,.b 1002 0,.b 1004 0]])]⟩ fun x s=>x=(.t [])∧s.H=[(1000,.box (k0 r.1 r.2.1 r.2.2.1)),(1001,.box [vi r.2.2.2.1]),(1002,.box [.m 1003]),(1003,.mp false (bY (fun p=>(p.1,cB p.2)) r.2.2.2.2)),(1004,.box [.c (.func 237) [] [.b 1000 0,.b 1001 0,.b 1002 0,.b 1004 0]])]:=fun h=>OT _ _ h;clear OT;change K4 rQ g d e f=some r at h;show Θ prog 237 [vi g,.b 1000 0,.b 1001 0,.b 1002 0,.b 1004 0] ⟨aM,[(1000,.box (b0 d)),(1001,.box [vi e]),(1002,.box [.m 1003]),(1003,.mp false (bY (fun p=>(p.1,cB p.2)) f)),(1004,.box [.c (.func 237) [] [.b 1000 0,.b 1001 0,.b 1002 0,.b 1004 0]])]⟩ fun x s=>x=(.t [])∧s.H=[(1000,.box (k0 r.1 r.2.1 r.2.2.1)),(1001,.box [vi r.2.2.2.1]),(1002,.box [.m 1003]),(1003,.mp false (bY (fun p=>(p.1,cB p.2)) r.2.2.2.2)),(1004,.box [.c (.func 237) [] [.b 1000 0,.b 1001 0,.b 1002 0,.b 1004 0]])];refine pg tok 41 func237 ?_;unfold K4 at h;refine sg ?_;have ⟨x1,θ,h⟩:=η h;refine ⟨_,rfl,?_⟩;refine Θ.call (wU θ) lz ?_;refine ⟨_,rfl,?_⟩;refine sg ?_;have ⟨ah,h⟩:=ak h
 refine ⟨_,rfl,_,rfl,_,au _,fun _=>(af ⟨ah,_,rfl,?_⟩)⟩;refine sg ⟨_,rfl,_,au _,fun _=>?_⟩;refine bl (Ok.loop (fun (s1:Int×nY)=>⟨Γ [(3,.b 1002 0),(4,.b 1004 0),(22,.s (mC x1.1.ae)),(23,vi (x1.1.ae.length:Int)),(24,vi s1.1)],[(1002,.box [.m 1003]),(1003,.mp false (bY (fun p=>(p.1,cB p.2)) s1.2.2.2.2.2)),(1004,.box [.c (.func 237) [] [.b 1000 0,.b 1001 0,.b 1002 0,.b 1004 0]]),(1000,.box (k0 s1.2.1 s1.2.2.1 s1.2.2.2.1)),(1001,.box [vi s1.2.2.2.2.1])]⟩) (K3 x1 rQ) (s0:=(0,d.ι,d.Next,d.ar,e+(x1.1.aP.length:Int),f)) h (wt Q5 ⟨hr,hr,hr,hr,hr,Q0⟩ rfl) ?_);intro s1 y1 ζ az;unfold K3 at ζ;refine sg (sq (ct ζ (fun hb ζ=>?_) fun hb ζ=>?_))
 ·refine sk ?_;have ⟨v1,ν,ζ⟩:=η ζ;refine Ok.aB ⟨Γ [(3,.b 1002 0),(4,.b 1004 0),(22,.s (mC x1.1.ae)),(23,vi (x1.1.ae.length:Int)),(24,vi s1.1)],[(1002,.box [.m 1003]),(1003,.mp false (bY (fun p=>(p.1,cB p.2)) v1.2.2.2.2)),(1004,.box [.c (.func 237) [] [.b 1000 0,.b 1001 0,.b 1002 0,.b 1004 0]]),(1000,.box (k0 v1.1 v1.2.1 v1.2.2.1)),(1001,.box [vi v1.2.2.2.1])]⟩ ?_ ?_
  ·refine bl (sg ?_);have ⟨x2,aq,ν⟩:=η ν;refine ⟨_,aI aq,_,aK aq,_,rfl,_,rfl,?_⟩;refine sg ?_;have ⟨x3,aF,ν⟩:=η ν;refine ⟨_,rfl,_,rfl,_,vV cB (z:=(false:Bool)) aF,?_⟩;refine ct ν (fun hb ν=>?_) fun hb ν=>?_
   ·refine sg ?_;have ⟨aQ,ν⟩:=ak ν;refine ⟨_,rfl,_,rfl,aQ.1,jI (Nat.le_of_eq (au _)) aQ.2,_,jD cB x2.κ true s1.2.2.2.2.2,?_⟩;refine rg ?_;have ⟨x4,aV,ν⟩:=η ν;refine ⟨_,rfl,_,rfl,?_⟩;refine cg [(1000,1000),(1001,1001),(1002,1002),(1003,1003),(1004,1004)] [] (IH aV) (n1 (.cons (Ln.b rfl) (.cons (Ln.b rfl) (.cons (Ln.b rfl) (.cons (Ln.b rfl) .nil))))) ⟨⟨1000,_,rfl,rfl,.box nq⟩,⟨1001,_,rfl,rfl,.box nq⟩,⟨1002,_,rfl,rfl,.box (.cons (Ln.mm rfl) .nil)⟩,⟨1003,_,rfl,rfl,.refl rfl⟩,⟨1004,_,rfl,rfl,.box (.cons (Ln.c .nil (.cons (Ln.b rfl) (.cons (Ln.b rfl) (.cons (Ln.b rfl) (.cons (Ln.b rfl) .nil))))) .nil)⟩,Q0⟩ ?_;cases ν;exact wt Q5 ⟨hr,J4⟩ rfl
   refine sk ?_;cases ν;exact wt Q5 ⟨hr,J4⟩ rfl
  refine rg ?_;have ⟨bN,ζ⟩:=ak ζ;refine (af ⟨bN,?_⟩);exact ⟨_,sj ζ,wt Q5 ⟨hr,J4⟩ rfl⟩
 refine xt ?_;have ζ:=aN ζ az;cases ζ;exact wt Q1 ⟨hr,J4⟩ rfl
end Go.Proofs
