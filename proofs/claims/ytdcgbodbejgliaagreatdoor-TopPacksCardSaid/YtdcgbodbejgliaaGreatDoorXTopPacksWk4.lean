/- The walks of this seat beside the plain programs, part 4. No condition. -/
import Derived.Test.YtdcgbodbejgliaaGreatDoorXTopPacksWk3
open List renaming length_map → ax, map_append → eI, map_eq_nil_iff → C_
open Or renaming inl → ψ, inr → bV
namespace Go.Proofs
set_option linter.all false
open Go Go.Cat Tryz
variable [M:cM]
set_option maxRecDepth 100000
set_option maxHeartbeats 4000000
def ajN {a b r} (h:Qd a b=some r):Pure prog 134 [.s (mF a),.c (.func 191) [] [.p [vi b]]] (vi r):=by
 refine pq tok 19 func134 ?_;unfold Qd at h;refine sg (Ok.eC (fun v1=>⟨aq [],[]⟩) (fun v1=>Qf v1=some r) ?_ ?_)
 ·refine sg ⟨_,ax _,fun _=>?_⟩;refine bl (Ok.loop (fun (s1:Int)=>⟨aq [(0,.s (mF a)),(1,.c (.func 191) [] [.p [vi b]]),(7,vi (a.length:Int)),(8,vi s1)],[]⟩) (Qe a b) (s0:=0) h (wt Q4 Q0 rfl) ?_);intro s1 y1 ζ aL;unfold Qe at ζ;refine sg (sq (ct ζ (fun hb ζ=>?_) fun hb ζ=>?_))
  ·refine sk (sq (bl (sg ?_)));refine sg ?_;have ⟨x1,Θ,ζ⟩:=ι ζ;have ⟨x2,ak,ζ⟩:=ι ζ;refine ⟨_,bq Θ,_,br Θ,_,rfl,?_⟩;refine ae.call (ajX ak) lz ?_;refine ct ζ (fun hb ζ=>?_) fun hb ζ=>?_
   ·refine sg (rt ?_);have ζ:=bd ζ aL;cases ζ;exact Fz.v
   refine sk (rg ?_);have ⟨ar,ζ⟩:=aC ζ;refine (ψ ⟨ar,?_⟩);exact ⟨_,sj ζ,wt Q4 Q0 rfl⟩
  refine xt ?_;have ζ:=bd ζ aL;exact ⟨_,ζ,wt Q0 Q0 rfl⟩
 intro v1 h;unfold Qf at h;refine sg (rt ?_);cases h;exact Fz.v
def ajY {c d r} (h:KV c d=some r):Pure prog 191 [.a (b6 c),.p [vi d]] (vb r):=by
 refine pq tok 8 func191 ?_;unfold KV at h;refine sg (sg ⟨_,rfl,_,rfl,?_⟩);refine rt ?_;cases h;exact Fz.v
def aky {g e r} (h:Kx g e=some r):ae prog 189 [.o 1000,.c (.func 191) [] [.b 1001 0]] ⟨aG,[(1000,.own 138 3 (mF g)),(1001,.box [vi e])]⟩ fun x s=>x=(.o 999)∧s.H=[(999,.own 138 3 (mF r)),(1001,.box [vi e])]:=by
 refine pg tok 42 func189 ?_;unfold Kx at h;refine sg (sg ?_);have ⟨x1,Θ,h⟩:=ι h;refine ae.borrow (ajN Θ) (.cons (Fz.o rfl) (.cons (Fz.c .nil (.cons (Fz.b rfl rfl) .nil)) .nil)) rfl ?_;refine sq (sg ?_);refine ct h (fun hb h=>?_) fun hb h=>?_
 ·refine sg (rt ?_);cases h;exact (Wk.mv (i:=1000) (d:=999) rfl rfl rfl).trans (wt Q1 ⟨hr,hr,Q0⟩ rfl)
 refine sk ?_;have ⟨v1,ν,h⟩:=ι h;refine Ok.bg ⟨aq [(0,.o 1000),(5,vi v1.1)],[(1000,.own 138 3 (mF v1.2)),(1001,.box [vi e])]⟩ ?_ ?_
 ·refine sg ?_;have ⟨ar,ν⟩:=aC ν;refine (ψ ⟨ar,?_⟩);refine bl (Ok.loop (fun (s1:Int×Int×(List aP))=>⟨aq [(0,.o 1000),(1,.c (.func 191) [] [.b 1001 0]),(5,vi s1.1),(6,vi s1.2.1)],[(1000,.own 138 3 (mF s1.2.2)),(1001,.box [vi e])]⟩) (P9 e) (s0:=(x1,x1+1,g)) ν (wt Q4 ⟨hr,hr,Q0⟩ rfl) ?_);intro s1 y1 ζ aL;unfold P9 at ζ;refine sq (sg ?_);refine ⟨_,ax _,fun _=>?_⟩;refine ct ζ (fun hb ζ=>?_) fun hb ζ=>?_
  ·refine sk ?_;have ⟨v2,aw,ζ⟩:=ι ζ;refine Ok.bg ⟨aq [(0,.o 1000),(1,.c (.func 191) [] [.b 1001 0]),(5,vi v2.1),(6,vi s1.2.1)],[(1000,.own 138 3 (mF v2.2)),(1001,.box [vi e])]⟩ ?_ ?_
   ·refine bl (sg ?_);have ⟨x2,ak,aw⟩:=ι aw;refine ⟨_,bq ak,wX ak,_,br ak,rfl,_,rfl,_,rfl,?_⟩;refine sg ?_;have ⟨x3,aK,aw⟩:=ι aw;refine ⟨_,rfl,?_⟩;refine ae.borrow (ajY aK) (.cons (Fz.a fq) (.cons (Fz.b rfl rfl) .nil)) rfl ?_;refine ct aw (fun hb aw=>?_) fun hb aw=>?_
    ·refine sg ?_;have ⟨x4,bn,aw⟩:=ι aw;refine ⟨_,rfl,_,bq bn,wX bn,_,br bn,rfl,_,rfl,_,FL (f:=j8) (x:=x2),?_⟩;refine rg ?_;have ⟨bu,aw⟩:=aC aw;refine (ψ ⟨bu,?_⟩);cases aw;exact wt Q4 J2 rfl
    refine sk ?_;cases aw;exact wt Q4 J2 rfl
   refine rg ?_;have ⟨dU,ζ⟩:=aC ζ;refine (ψ ⟨dU,?_⟩);exact ⟨_,sj ζ,wt Q4 J2 rfl⟩
  refine xt ?_;have ζ:=bd ζ aL;cases ζ;exact wt Q2 J2 rfl
 refine sg ?_;have ⟨kT,h⟩:=aC h;refine ⟨_,lq kT.1,FX kT,_,SG (f:=j8) (z:=((⟨[],0,0⟩:aP):aP)) v1.2 (v1.1.toNat),?_⟩;refine sq (Ok.wk (Wk.mv (i:=1000) (d:=999) rfl rfl rfl) ?_);refine rg ?_;have ⟨qh,h⟩:=aC h;refine ⟨_,lq qh.1,FX qh,_,(List.map_take (f:=j8)).symm,?_⟩;refine rt ?_;cases h;exact wt Q1 J2 rfl
def ajZ {c d r} (h:CC c d=some r):Pure prog 193 [.a (b6 c),.a (b6 d)] (vi r):=by
 refine pq tok 10 func193 ?_;unfold CC at h;refine sg (sg ?_);have ⟨x1,Θ,h⟩:=ι h;refine ⟨_,rfl,_,rfl,?_⟩;refine ae.call (Al Θ) lz ?_;refine rt ?_;cases h;exact Fz.v
def ajW {d i g e r} (h:xr d i g e=some r):Pure prog 121 [.a (b0 d),vi i,vi g,vi e] (.t (k15 r.1 r.2.1 r.2.2)):=by
 refine pq tok 58 func121 ?_;unfold xr at h;refine sg (sq ?_);have ⟨v1,ν,h⟩:=ι h;refine Ok.bg ⟨aq [(1,vi i),(3,vi e),(4,.b 4 0),(6,.b 6 0),(23,vb v1)],[(4,.box (b0 d)),(6,.box [vi g])]⟩ ?_ ?_
 ·refine rg ⟨_,rfl,?_⟩;have ⟨c1,Δ,ν⟩:=ι ν;refine Br.eh Δ (fun hb Δ=>?_) fun hb Δ=>?_
  ·cases Δ;have ⟨c2,aF,ν⟩:=ι ν;replace aF:=ee aF;cases aF;cases ν;exact wt Q5 J2 rfl
  cases Δ;have ⟨c2,aM,ν⟩:=ι ν;refine Br.eh aM (fun hb aM=>?_) fun hb aM=>?_
  ·cases aM;cases ν;exact wt Q5 J2 rfl
  cases aM;cases ν;exact wt Q5 J2 rfl
 refine ct h (fun hb h=>?_) fun hb h=>?_
 ·refine sg (rt ?_);cases h;exact (Fz.t (.cons Fz.nil fq))
 refine sk (sg ?_);have ⟨x1,Θ,h⟩:=ι h;refine ⟨_,rfl,?_⟩;refine ae.dE (id:=27) (Lb Θ) rfl (.box lz) rfl (.cons (Lr.b) (.cons (Lr.dL rfl) .nil)) ?_;rintro _ _ ⟨rfl,rfl⟩;refine ⟨_,rfl,?_⟩;refine sq (sg ?_);refine ct h (fun hb h=>?_) fun hb h=>?_
 ·refine sg (rt ?_);cases h;exact (Fz.t (.cons Fz.nil fq))
 refine sk (sg ?_);have ⟨x2,ak,h⟩:=ι h;refine ⟨_,rfl,?_⟩;refine ae.own (D:=37) (Lc ak) lz rfl ?_;have ⟨x3,aK,h⟩:=ι h;refine cg [(1000,37),(1001,6)] [(999,37)] (aky aK) (.cons (Ln.o rfl) (.cons (Ln.c .nil (.cons (Ln.b rfl) .nil)) .nil)) ⟨⟨37,_,rfl,rfl,.refl rfl⟩,⟨6,_,rfl,rfl,.box nq⟩,Q0⟩ ?_;refine sg ?_;have ⟨x4,bn,h⟩:=ι h;refine ae.dE (id:=37) (Xh (E:=138) (enc:=j8) ahv abK (fun _=>rfl) (fun _ _ _ h=>ajZ (M:=cM.yes) h) (enters_of func193 (by kernel_rfl) rfl) bn) rfl (.refl _) rfl (.cons Lr.o (.cons (Lr.dL rfl) .nil)) ?_;rintro _ _ ⟨rfl,rfl⟩;refine sq (sg ?_);refine ⟨_,ax _,fun _=>?_⟩;refine ct h (fun hb h=>?_) fun hb h=>?_
 ·refine sg (rt ?_);cases h;exact (Fz.t (.cons (Fz.o rfl) fq))
 refine sk (sq (Ok.wk (Wk.freeze (id:=37) rfl) ?_));refine dw 14 tok mixed ?_;have ⟨ar,h⟩:=aC h;have ⟨bu,h⟩:=aC h;have ⟨x5,dr,h⟩:=ι h;have ⟨dU,h⟩:=aC h;refine ⟨_,rfl,_,rfl,_,rfl,_,⟨_,_,lq ar.1,lq (P1 ar),ahJ ar,ahK ar,xg (f:=j8) (K:=3) (fun _=>rfl) x4,_,(List.map_take (f:=j8)).symm,rfl⟩,_,rfl,_,rfl,_,ψ ⟨bu,rfl⟩,_,⟨_,bq dr,_,br dr,rfl⟩,_,rfl,_,⟨_,rfl,rfl⟩,_,ψ ⟨dU,rfl⟩,_,rfl,_,rfl,_,rfl,Q0,?_⟩;refine rt ?_;cases h;exact (Fz.t (.cons Fz.s fq))
def akF {a r} (h:yv a=some r):iN prog 122 [.s (mF a)] 9 1 (mG r):=by
 refine pv tok 19 func122 ?_;unfold yv at h;refine sg (sg ?_);have ⟨v1,ν,h⟩:=ι h;refine Ok.bg ⟨aq [(3,.o 16)],[(16,.own 9 1 (mG v1))]⟩ ?_ ?_
 ·refine sg ⟨_,ax _,fun _=>?_⟩;refine bl (Ok.loop (fun (s1:Int×(List (List UInt8)))=>⟨aq [(3,.o 16),(6,.s (mF a)),(7,vi (a.length:Int)),(8,vi s1.1)],[(16,.own 9 1 (mG s1.2))]⟩) (H9 a) (s0:=(0,[])) ν ((Wk.BU (t:=3) (id:=16) (E:=9) (K:=1) rfl rfl).trans (wt Q4 ⟨hr,Q0⟩ rfl)) ?_);intro s1 y1 ζ aL;unfold H9 at ζ;refine sg (sq (ct ζ (fun hb ζ=>?_) fun hb ζ=>?_))
  ·refine sk (sq (bl (sg ?_)));have ⟨x1,Θ,ζ⟩:=ι ζ;refine ⟨_,bq Θ,_,br Θ,_,rfl,_,rfl,?_⟩;refine rg ?_;have ⟨ar,ζ⟩:=aC ζ;refine ⟨_,rfl,ψ ⟨gy (f:=kL) (n:=1) (fun _=>rfl) ([x1.aN]),gQ (f:=kL) (l:=s1.2) (l':=[x1.aN]) ar,_,(eI (f:=kL) (l₁:=s1.2) (l₂:=[x1.aN])).symm,?_⟩⟩;refine rg ?_;have ⟨bu,ζ⟩:=aC ζ;refine (ψ ⟨bu,?_⟩);exact ⟨_,sj ζ,wt Q4 J1 rfl⟩
  refine xt ?_;have ζ:=bd ζ aL;cases ζ;exact wt Q1 J1 rfl
 refine sg (rt ?_);cases h;exact (.inr ⟨_,rfl,rfl⟩)
def YV {a r} (h:yv a=some r):Pure prog 122 [.s (mF a)] (.s (mG r)):=(akF h).pure
def akd {a d e f g i j k l o u w z A B C D E F G I J K} {q:Int⊕(Int×(List (List UInt8)))} (h:DV a d e f g i j k l o u w z A B C D E F G I J K=some q):fM prog bf 67 [.b 1000 0] ⟨aG,[(1000,.box (cV a d e f g i j k l o u w z A B C D E F G I J K))]⟩ (fun x s=>∃y:Int×(List (List UInt8)),q=.inr y∧x=(.t [])∧s.H=[(1000,.box (k16 a d e f g i j k l o u w z A B C D E 0 0 0 y.1 0 y.2))]) fun m s=>q=.inl m∧s.H=[]:=by
 refine px tok 45 func67 ?_;unfold DV at h;refine sq (Ok.cY bf tok ?_);have ⟨x1,Θ,h⟩:=ι h;refine ψ (ψ (ψ (ψ (ψ (ψ (⟨_,rfl,?_⟩))))));refine bV (cx [(1000,1000)] [] (Ao Θ) (.cons (Ln.b rfl) nq) ⟨⟨1000,_,rfl,rfl,.box nq⟩,Q0⟩ (fun e1 bE=>?_) (fun y1 c_=>?_))
 ·have h:=cu h bE;cases h;exact ⟨_,rfl,rfl⟩
 have h:=cw h c_;refine ψ (ψ (⟨_,rfl,?_⟩));refine sq (dw 26 tok mixed ?_);have ⟨x2,ak,h⟩:=ι h;refine ⟨_,rfl,_,rfl,_,rfl,_,rfl,_,rfl,_,⟨_,rfl,rfl⟩,_,rfl,_,⟨_,rfl,rfl⟩,_,rfl,_,rfl,_,rfl,_,rfl,_,⟨_,rfl,rfl⟩,_,rfl,_,rfl,_,rfl,_,rfl,_,⟨_,rfl,rfl⟩,_,⟨_,.fC (ajW ak) lz,rfl⟩,_,rfl,_,rfl,_,rfl,_,rfl,_,rfl,_,rfl,_,rfl,Q0,?_⟩;refine sq (Ok.cY bf tok ?_);have ⟨x3,aK,h⟩:=ι h;refine ψ (bV (cx [] [] (kz aK) nq Q0 (fun e2 dV=>?_) (fun y2 ew=>?_)))
 ·have h:=cu h dV;cases h;exact ⟨_,rfl,rfl⟩
 have h:=cw h ew;refine rg ?_;have ⟨x4,bn,h⟩:=ι h;refine ae.call (YV bn) lz ?_;refine ⟨_,rfl,?_⟩;cases h;exact ⟨_,rfl,wt Q1 J1 rfl⟩
def YW {c r} (h:DO c=some r):Pure prog 123 [.a (b4 c)] (vi r):=by
 refine pq tok 10 func123 ?_;unfold DO at h;refine sg (sg ⟨_,rfl,_,ax _,fun _=>⟨_,rfl,_,ax _,fun _=>⟨(max (c.az.length:Int) (c.Ω.length:Int)),rfl,?_⟩⟩⟩);refine rt ?_;cases h;exact Fz.v
def akk {a d e f g i j k l o u w z A B C D E F G I J K} {q:Int⊕(Int×Int×Int×Int)} (h:D4 a d e f g i j k l o u w z A B C D E F G I J K=some q):fM prog bf 68 [.b 1000 0] ⟨aG,[(1000,.box (cV a d e f g i j k l o u w z A B C D E F G I J K))]⟩ (fun x s=>∃y:Int×Int×Int×Int,q=.inr y∧x=(.t [])∧s.H=[(1000,.box (cV a d e f g i j k l o u w z A B C D E 0 y.1 y.2.1 y.2.2.1 y.2.2.2))]) fun m s=>q=.inl m∧s.H=[]:=by
 refine px tok 22 func68 ?_;unfold D4 at h;refine sq (Ok.cY bf tok ?_);have ⟨x1,Θ,h⟩:=ι h;refine ψ (ψ (ψ (ψ (ψ (ψ (⟨_,rfl,?_⟩))))));refine bV (cx [(1000,1000)] [] (Ao Θ) (.cons (Ln.b rfl) nq) ⟨⟨1000,_,rfl,rfl,.box nq⟩,Q0⟩ (fun e1 bE=>?_) (fun y1 c_=>?_))
 ·have h:=cu h bE;cases h;exact ⟨_,rfl,rfl⟩
 have h:=cw h c_;refine ψ (ψ (⟨_,rfl,?_⟩));refine dw 12 tok mixed ?_;have ⟨x2,ak,h⟩:=ι h;refine ⟨_,rfl,_,rfl,_,⟨_,rfl,rfl⟩,_,rfl,_,⟨_,rfl,rfl⟩,_,rfl,_,⟨_,rfl,rfl⟩,_,⟨_,rfl,rfl⟩,_,⟨_,.fC (YW ak) lz,rfl⟩,_,rfl,_,rfl,_,rfl,Q0,_,rfl,?_⟩;cases h;exact ⟨_,rfl,wt Q1 J1 rfl⟩
def ai8 {c r} (h:IW c=some r):Pure prog 195 [.a [vi c.1,vi c.2]] (vb r):=by
 refine pq tok 21 func195 ?_;unfold IW at h;refine sg ?_;have ⟨v1,ν,h⟩:=ι h;refine Ok.bg ⟨aq [(2,vb v1)],[]⟩ ?_ ?_
 ·refine rg ⟨0,rfl,by decide,_,rfl,?_⟩;have ⟨c1,Δ,ν⟩:=ι ν;refine Br.ite Δ (fun hb Δ=>?_) fun hb Δ=>?_
  ·refine ⟨0,rfl,by decide,_,rfl,?_⟩;cases Δ;have ⟨c2,aF,ν⟩:=ι ν;refine Br.ite aF (fun hb aF=>?_) fun hb aF=>?_
   ·refine ⟨1,rfl,by decide,_,rfl,?_⟩;cases aF;have ⟨c3,aM,ν⟩:=ι ν;refine Br.ite aM (fun hb aM=>?_) fun hb aM=>?_
    ·refine ⟨1,rfl,by decide,_,rfl,?_⟩;cases aM;cases ν;exact wt Q1 Q0 rfl
    cases aM;cases ν;exact wt Q1 Q0 rfl
   cases aF;have ⟨c3,cC,ν⟩:=ι ν;replace cC:=cL cC;cases cC;cases ν;exact wt Q1 Q0 rfl
  cases Δ;have ⟨c2,cU,ν⟩:=ι ν;replace cU:=cL cU;cases cU;have ⟨c3,dA,ν⟩:=ι ν;replace dA:=cL dA;cases dA;cases ν;exact wt Q1 Q0 rfl
 refine rt ?_;cases h;exact Fz.v
def YY {c r} (h:Bx c=some r):Pure prog 248 [.a (b7 c)] (.a [vi r.1,vi r.2]):=by
 refine pq tok 8 func248 ?_;unfold Bx at h;refine sg (sg ⟨_,rfl,_,rfl,_,rfl,?_⟩);refine rt ?_;cases h;exact ⟨_,rfl,Fz.dL rfl⟩
def aiT {a r} (h:HK a=some r):Pure prog 249 [.s (mB a)] (vi r):=by
 refine pq tok 18 func249 ?_;unfold HK at h;refine sg (sg (Ok.eC (fun v1=>⟨aq [(3,vi (0))],[]⟩) (fun v1=>HL v1=some r) ?_ ?_))
 ·refine sg ⟨_,ax _,fun _=>?_⟩;refine bl (Ok.loop (fun (s1:Int)=>⟨aq [(3,vi (0)),(6,.s (mB a)),(7,vi (a.length:Int)),(8,vi s1)],[]⟩) (wa a) (s0:=0) h (wt Q4 Q0 rfl) ?_);intro s1 y1 ζ aL;unfold wa at ζ;refine sg (sq (ct ζ (fun hb ζ=>?_) fun hb ζ=>?_))
  ·refine sk (sq (bl (sg ?_)));have ⟨x1,Θ,ζ⟩:=ι ζ;refine ⟨_,bq Θ,_,br Θ,_,rfl,?_⟩;refine sg (ct ζ (fun hb ζ=>?_) fun hb ζ=>?_)
   ·refine sg (rt ?_);have ζ:=bd ζ aL;cases ζ;exact Fz.v
   refine sk (rg ?_);have ⟨ar,ζ⟩:=aC ζ;refine (ψ ⟨ar,?_⟩);exact ⟨_,sj ζ,wt Q4 Q0 rfl⟩
  refine xt ?_;have ζ:=bd ζ aL;exact ⟨_,ζ,wt Q1 Q0 rfl⟩
 intro v1 h;unfold HL at h;refine sg (rt ?_);cases h;exact Fz.v
def YX {d c e r} (h:zg d c e=some r):Pure prog 197 [.a [vi d.1,vi d.2],.a (b7 c),.a [vi e.1,vi e.2]] (vi r):=by
 refine pq tok 22 func197 ?_;unfold zg at h;refine sg (sg ?_);have ⟨x1,Θ,h⟩:=ι h;refine ⟨_,rfl,?_⟩;refine ae.call (YY Θ) lz ?_;refine ⟨_,rfl,?_⟩;refine sq (dw 13 tok mixed ?_);have ⟨x2,ak,h⟩:=ι h;have ⟨x3,aK,h⟩:=ι h;have ⟨x4,bn,h⟩:=ι h;refine ⟨_,⟨0,rfl,by decide,rfl⟩,_,⟨_,rfl,rfl⟩,_,⟨0,rfl,by decide,rfl⟩,_,⟨_,rfl,rfl⟩,_,⟨_,.fC (Al ak) lz,rfl⟩,_,⟨1,rfl,by decide,rfl⟩,_,⟨_,rfl,rfl⟩,_,⟨1,rfl,by decide,rfl⟩,_,⟨_,rfl,rfl⟩,_,⟨_,.fC (Al aK) lz,rfl⟩,_,rfl,_,⟨_,.fC (aiT bn) lz,rfl⟩,_,rfl,Q0,?_⟩;refine rt ?_;cases h;exact Fz.v
def ajz {f d e r} (h:Kr f d e=some r):Pure prog 196 [.s (mE f),.a [vi d.1,vi d.2],.c (.func 197) [.a [vi e.1,vi e.2]] []] (.t [vi r.1,vb r.2]):=by
 refine pq tok 49 func196 ?_;unfold Kr at h;refine sg (sg ⟨_,ax _,fun _=>?_⟩);refine sg ?_;have ⟨v1,ν,h⟩:=ι h;refine Ok.bg ⟨aq [(0,.s (mE f)),(2,.c (.func 197) [.a [vi e.1,vi e.2]] []),(4,.b 4 0),(8,vi (f.length:Int)),(9,vi v1)],[(4,.box [vi d.1,vi d.2])]⟩ ?_ ?_
 ·refine bl (Ok.loop (fun (s1:Int×Int)=>⟨aq [(0,.s (mE f)),(2,.c (.func 197) [.a [vi e.1,vi e.2]] []),(4,.b 4 0),(8,vi (f.length:Int)),(9,vi s1.1),(10,vi s1.2)],[(4,.box [vi d.1,vi d.2])]⟩) (P4 f e d) (s0:=(0,(f.length:Int))) ν (wt Q6 ⟨hr,Q0⟩ rfl) ?_);intro s1 y1 ζ aL;unfold P4 at ζ;refine sq (sg ?_);refine ct ζ (fun hb ζ=>?_) fun hb ζ=>?_
  ·refine sk (bl (sg ?_));have ⟨ar,ζ⟩:=aC ζ;refine (ψ ⟨ar,_,rfl,(by decide),_,rfl,_,rfl,?_⟩);refine sq (dw 8 tok mixed ?_);have ⟨x1,Θ,ζ⟩:=ι ζ;have ⟨x2,ak,ζ⟩:=ι ζ;refine ⟨_,rfl,_,rfl,_,rfl,_,⟨_,bq Θ,_,br Θ,rfl⟩,_,⟨_,rfl,rfl⟩,_,⟨_,rfl,rfl⟩,_,⟨_,.fC (YX ak) lz,rfl⟩,_,rfl,Q0,?_⟩;refine ct ζ (fun hb ζ=>?_) fun hb ζ=>?_
   ·refine rg ?_;have ⟨bu,ζ⟩:=aC ζ;refine (ψ ⟨bu,?_⟩);exact ⟨_,sj ζ,wt Q6 J1 rfl⟩
   refine rg ?_;exact ⟨_,sj ζ,wt Q6 J1 rfl⟩
  refine xt ?_;have ζ:=bd ζ aL;cases ζ;exact wt Q5 J1 rfl
 have ⟨v2,aw,h⟩:=ι h;refine Ok.bg ⟨aq [(6,vi v1),(7,vb v2)],[]⟩ ?_ ?_
 ·refine dw 16 tok mixed ⟨_,rfl,_,rfl,_,rfl,_,rfl,_,rfl,?_⟩;have ⟨c1,Δ,aw⟩:=ι aw;refine Br.ite Δ (fun hb Δ=>?_) fun hb Δ=>?_
  ·have ⟨x3,aK,Δ⟩:=ι Δ;have ⟨x4,bn,Δ⟩:=ι Δ;refine ⟨_,rfl,_,rfl,_,rfl,_,⟨_,bq aK,_,br aK,rfl⟩,_,⟨_,rfl,rfl⟩,_,⟨_,rfl,rfl⟩,_,⟨_,.fC (YX bn) lz,rfl⟩,_,rfl,?_⟩;cases Δ;refine ⟨_,rfl,?_⟩;refine ⟨_,rfl,_,rfl,Q0,?_⟩;cases aw;exact wt Q2 Q0 rfl
  cases Δ;refine ⟨_,rfl,?_⟩;refine ⟨_,rfl,_,rfl,Q0,?_⟩;cases aw;exact wt Q2 Q0 rfl
 refine rt ?_;cases h;exact (Fz.t fq)
def Zs {a r} (h:FY a=some r):iN prog 200 [.s (mE a)] 84 3 (mE r):=by
 refine pv tok 8 func200 ?_;unfold FY at h;refine sg (sq (sg ?_));intro b1 cT;have h:=yb h b1 (fun e=>C_.1 (cT e));refine ct h (fun hb h=>?_) fun hb h=>?_
 ·refine sg (rt ?_);cases h;exact (.inl ⟨rfl,rfl⟩)
 refine sk (sg ?_);have ⟨ar,h⟩:=aC h;refine bV ⟨gy (f:=p_) (n:=3) (fun _=>rfl) a,gQ (f:=p_) (l:=([]:List ay)) (l':=a) ar,_,(eI (f:=p_) (l₁:=([]:List ay)) (l₂:=a)).symm,?_⟩;refine rt ?_;cases h;exact (.inr ⟨_,rfl,rfl⟩)
def ai3 {f c d e g r} (h:Bu f c d e g=some r):Pure prog 124 [.a (b0 f),.s (mE c),vi d,vi e,vi g] (.t [.s (mE r.1),vi r.2]):=by
 refine pq tok 68 func124 ?_;unfold Bu at h;refine sg (sg ⟨_,rfl,?_⟩);refine sq (sg ?_);have ⟨x1,Θ,h⟩:=ι h;refine ⟨_,rfl,?_⟩;refine ae.call (ai8 Θ) lz ?_;refine ct h (fun hb h=>?_) fun hb h=>?_
 ·refine sg (rt ?_);cases h;exact (Fz.t (.cons Fz.s fq))
 refine sk (sg ?_);have ⟨x2,ak,h⟩:=ι h;refine ⟨_,rfl,?_⟩;refine ae.call (rW ak) lz ?_;refine ⟨_,rfl,?_⟩;refine sg ?_;have ⟨x3,aK,h⟩:=ι h;refine ⟨_,rfl,_,rfl,?_⟩;refine ae.call (ajz aK) lz ?_;refine sq (bl ?_);have ⟨v1,ν,h⟩:=ι h;refine Ok.bg ⟨aq [(1,.s (mE c)),(2,vi d),(3,vi e),(4,vi g),(13,.b 13 0),(15,vi x3.1),(16,vb x3.2),(38,vb v1)],[(13,.box (b4 x2.1))]⟩ ?_ ?_
 ·refine rg ?_;have ⟨c1,Δ,ν⟩:=ι ν;refine Br.eh Δ (fun hb Δ=>?_) fun hb Δ=>?_
  ·cases Δ;cases ν;exact wt Q8 J1 rfl
  have ⟨x4,bn,Δ⟩:=ι Δ;refine ⟨_,rfl,?_⟩;refine ae.call (QZ bn) lz ?_;cases Δ;cases ν;exact wt Q8 J1 rfl
 refine ct h (fun hb h=>?_) fun hb h=>?_
 ·refine sg (rt ?_);cases h;exact (Fz.t (.cons Fz.s fq))
 refine sg ⟨_,rfl,?_⟩;refine ct h (fun hb h=>?_) fun hb h=>?_
 ·refine sg (rt ?_);cases h;exact (Fz.t (.cons Fz.s fq))
 refine sg (ct h (fun hb h=>?_) fun hb h=>?_)
 ·refine sg (rt ?_);cases h;exact (Fz.t (.cons Fz.s fq))
 refine sg ⟨_,ax _,fun _=>?_⟩;refine ct h (fun hb h=>?_) fun hb h=>?_
 ·refine sg (rt ?_);cases h;exact (Fz.t (.cons Fz.s fq))
 refine sk (sg ?_);have ⟨x5,dr,h⟩:=ι h;refine ae.own (D:=60) (Zs dr) lz rfl ?_;have ⟨ar,h⟩:=aC h;refine ψ (cg [(1000,60)] [(900,60)] (adI x5 x3.1 ([(⟨d,e,g⟩:ay)]) ar) (.cons (Ln.o rfl) nq) ⟨⟨60,_,rfl,rfl,.refl rfl⟩,Q0⟩ ?_);refine rt ?_;cases h;exact (Fz.t (.cons (Fz.o rfl) fq))
def akg {a d e f g i j k J l o u w z A B C D E K F G I} {q:Int⊕((List ay)×Int)} (h:DY a d e f g i j k J l o u w z A B C D E K F G I=some q):fM prog bf 69 [.b 1000 0] ⟨aG,[(1000,.box (cV a d e f g i j k J l o u w z A B C D E K F G I))]⟩ (fun x s=>∃y:(List ay)×Int,q=.inr y∧x=(.t [])∧s.H=[(1000,.box (cV a d e f g i j k y.1 l o u w z A B C D E y.2 F G I))]) fun m s=>q=.inl m∧s.H=[]:=by
 refine px tok 52 func69 ?_;unfold DY at h;refine sq (Ok.cY bf tok ?_);have ⟨x1,Θ,h⟩:=ι h;refine ψ (ψ (ψ (ψ (ψ (ψ (⟨_,rfl,?_⟩))))));refine bV (cx [(1000,1000)] [] (Ao Θ) (.cons (Ln.b rfl) nq) ⟨⟨1000,_,rfl,rfl,.box nq⟩,Q0⟩ (fun e1 bE=>?_) (fun y1 c_=>?_))
 ·have h:=cu h bE;cases h;exact ⟨_,rfl,rfl⟩
 have h:=cw h c_;refine ψ (ψ (⟨_,rfl,?_⟩));refine sq (dw 29 tok mixed ?_);have ⟨x2,ak,h⟩:=ι h;refine ⟨_,rfl,_,rfl,_,rfl,_,rfl,_,rfl,_,⟨_,rfl,rfl⟩,_,rfl,_,rfl,_,rfl,_,rfl,_,⟨_,rfl,rfl⟩,_,rfl,_,rfl,_,rfl,_,rfl,_,⟨_,rfl,rfl⟩,_,rfl,_,rfl,_,rfl,_,rfl,_,⟨_,rfl,rfl⟩,_,rfl,_,⟨_,rfl,rfl⟩,_,⟨_,.fC (ai3 ak) lz,rfl⟩,_,rfl,_,rfl,_,rfl,_,rfl,_,rfl,Q0,?_⟩;refine sq (Ok.cY bf tok ?_);have ⟨x3,aK,h⟩:=ι h;refine ψ (bV (cx [] [] (kz aK) nq Q0 (fun e2 dV=>?_) (fun y2 ew=>?_)))
 ·have h:=cu h dV;cases h;exact ⟨_,rfl,rfl⟩
 have h:=cw h ew;refine Ok.qb (m:=8) (late:=[1,3,4]) (MD:=⟨[]⟩) (CH:=⟨[]⟩) tok mixed (by kernel_rfl) ?_;refine ⟨_,rfl,_,rfl,_,rfl,_,rfl,_,⟨_,rfl,rfl⟩,_,rfl,_,rfl,_,rfl,Q0,?_⟩;refine ⟨_,rfl,⟨⟨_,rfl,rfl⟩,⟨_,rfl,rfl⟩,⟨_,rfl,_,rfl,rfl⟩,Q0⟩,_,rfl,?_⟩;cases h;exact ⟨_,rfl,wt Q1 J1 rfl⟩
def ai7 {d c r} (h:ED d c=some r):Pure prog 202 [.a [vi d.1,vi d.2],.a (b7 c)] (vb r):=by
 refine pq tok 9 func202 ?_;unfold ED at h;refine sg (sq (dw 5 tok mixed ?_));have ⟨x1,Θ,h⟩:=ι h;refine ⟨_,⟨_,rfl,rfl⟩,_,⟨_,.fC (YY Θ) lz,rfl⟩,_,⟨_,rfl,rfl⟩,_,⟨[.one (.int .i64),.one (.int .i64)],by kernel_rfl,rfl⟩,_,rfl,Q0,?_⟩;refine rt ?_;cases h;exact Fz.v
def Zc {d b r} (h:Gk d b=some r):Pure prog 201 [.s (mE d),.c (.func 202) [.a [vi b.1,vi b.2]] []] (vi r):=by
 refine pq tok 19 func201 ?_;unfold Gk at h;refine sg (Ok.eC (fun v1=>⟨aq [],[]⟩) (fun v1=>Qn v1=some r) ?_ ?_)
 ·refine sg ⟨_,ax _,fun _=>?_⟩;refine bl (Ok.loop (fun (s1:Int)=>⟨aq [(0,.s (mE d)),(1,.c (.func 202) [.a [vi b.1,vi b.2]] []),(7,vi (d.length:Int)),(8,vi s1)],[]⟩) (Qm d b) (s0:=0) h (wt Q4 Q0 rfl) ?_);intro s1 y1 ζ aL;unfold Qm at ζ;refine sg (sq (ct ζ (fun hb ζ=>?_) fun hb ζ=>?_))
  ·refine sk (sq (bl (sg ?_)));refine sg ?_;have ⟨x1,Θ,ζ⟩:=ι ζ;have ⟨x2,ak,ζ⟩:=ι ζ;refine ⟨_,bq Θ,_,br Θ,_,rfl,?_⟩;refine ae.call (ai7 ak) lz ?_;refine ct ζ (fun hb ζ=>?_) fun hb ζ=>?_
   ·refine sg (rt ?_);have ζ:=bd ζ aL;cases ζ;exact Fz.v
   refine sk (rg ?_);have ⟨ar,ζ⟩:=aC ζ;refine (ψ ⟨ar,?_⟩);exact ⟨_,sj ζ,wt Q4 Q0 rfl⟩
  refine xt ?_;have ζ:=bd ζ aL;exact ⟨_,ζ,wt Q0 Q0 rfl⟩
 intro v1 h;unfold Qn at h;refine sg (rt ?_);cases h;exact Fz.v
def ai6 {c d r} (h:EC c d=some r):Pure prog 252 [.a (b7 c),.p [vi d]] (vb r):=by
 refine pq tok 8 func252 ?_;unfold EC at h;refine sg (sg ⟨_,rfl,_,rfl,?_⟩);refine rt ?_;cases h;exact Fz.v
def ajP {a b r} (h:Qj a b=some r):Pure prog 201 [.s (mE a),.c (.func 252) [] [.p [vi b]]] (vi r):=by
 refine pq tok 19 func201 ?_;unfold Qj at h;refine sg (Ok.eC (fun v1=>⟨aq [],[]⟩) (fun v1=>Ql v1=some r) ?_ ?_)
 ·refine sg ⟨_,ax _,fun _=>?_⟩;refine bl (Ok.loop (fun (s1:Int)=>⟨aq [(0,.s (mE a)),(1,.c (.func 252) [] [.p [vi b]]),(7,vi (a.length:Int)),(8,vi s1)],[]⟩) (Qk a b) (s0:=0) h (wt Q4 Q0 rfl) ?_);intro s1 y1 ζ aL;unfold Qk at ζ;refine sg (sq (ct ζ (fun hb ζ=>?_) fun hb ζ=>?_))
  ·refine sk (sq (bl (sg ?_)));refine sg ?_;have ⟨x1,Θ,ζ⟩:=ι ζ;have ⟨x2,ak,ζ⟩:=ι ζ;refine ⟨_,bq Θ,_,br Θ,_,rfl,?_⟩;refine ae.call (ai6 ak) lz ?_;refine ct ζ (fun hb ζ=>?_) fun hb ζ=>?_
   ·refine sg (rt ?_);have ζ:=bd ζ aL;cases ζ;exact Fz.v
   refine sk (rg ?_);have ⟨ar,ζ⟩:=aC ζ;refine (ψ ⟨ar,?_⟩);exact ⟨_,sj ζ,wt Q4 Q0 rfl⟩
  refine xt ?_;have ζ:=bd ζ aL;exact ⟨_,ζ,wt Q0 Q0 rfl⟩
 intro v1 h;unfold Ql at h;refine sg (rt ?_);cases h;exact Fz.v
def ajE {a b r} (h:Kt a b=some r):Pure prog 170 [.s (mE a),.c (.func 252) [] [.p [vi b]]] (vb r):=by
 refine pq tok 9 func170 ?_;unfold Kt at h;refine sg (sg ?_);have ⟨x1,Θ,h⟩:=ι h;refine ae.call (ajP Θ) lz ?_;refine rt ?_;cases h;exact Fz.v
def ai5 {a d r} (h:Bw a d=some r):Pure prog 204 [.s (mE a),vi d] (vb r):=by
 refine pq tok 8 func204 ?_;unfold Bw at h;refine sg (sg ?_);have ⟨x1,Θ,h⟩:=ι h;refine ae.borrow (ajE Θ) (.cons Fz.s (.cons (Fz.c .nil (.cons (Fz.b rfl rfl) .nil)) .nil)) rfl ?_;refine rt ?_;cases h;exact Fz.v
def QY {c d e f r} (h:zf c d e f=some r):Pure prog 125 [.a (b0 c),.s (mE d),vi e,vi f] (.t [.a (b0 r.1),.s (mE r.2.1),vi r.2.2]):=by
 refine pq tok 62 func125 ?_;unfold zf at h;refine sg (sg ?_);have ⟨x1,Θ,h⟩:=ι h;refine ae.call (Zc Θ) lz ?_;refine sq (sg ?_);refine ct h (fun hb h=>?_) fun hb h=>?_
 ·refine sg ⟨_,rfl,_,rfl,?_⟩;refine rt ?_;cases h;exact ⟨_,rfl,Fz.t (.cons (Fz.dL rfl) (.cons Fz.s fq))⟩
 refine sk (sg ?_);have ⟨x2,ak,h⟩:=ι h;refine ⟨_,bq ak,_,br ak,_,rfl,?_⟩;refine sg ?_;have ⟨x3,aK,h⟩:=ι h;refine ae.own (D:=32) (Zs aK) lz rfl ?_;have ⟨ar,h⟩:=aC h;have ⟨bu,h⟩:=aC h;refine (ψ ⟨ar,?_⟩);refine cg [(1000,32)] [(900,32)] (adJ x3 x1 (x1+1) bu) (.cons (Ln.o rfl) nq) ⟨⟨32,_,rfl,rfl,.refl rfl⟩,Q0⟩ ?_;have ⟨v1,ν,h⟩:=ι h;refine Ok.bg ⟨aq [(4,.b 4 0),(8,.b 8 0),(13,.o 32)],[(4,.box (k0 v1.1 v1.2.1 v1.2.2)),(8,.box (k1 0 0)),(32,.own 84 3 (mE (fY x3 x1 (x1+1))))]⟩ ?_ ?_
 ·refine sg ?_;have ⟨x4,bn,ν⟩:=ι ν;refine ⟨_,rfl,?_⟩;refine ae.call (rW bn) lz ?_;refine ⟨_,rfl,?_⟩;have ⟨v2,aw,ν⟩:=ι ν;refine Ok.bg ⟨aq [(4,.b 4 0),(8,.b 8 0),(12,vi x2.κ),(13,.o 32),(53,vb v2)],[(4,.box (b0 c)),(8,.box (k1 0 0)),(32,.own 84 3 (mE (fY x3 x1 (x1+1))))]⟩ ?_ ?_
  ·refine rg ?_;have ⟨c1,Δ,aw⟩:=ι aw;refine Br.ite Δ (fun hb Δ=>?_) fun hb Δ=>?_
   ·have ⟨x5,dr,Δ⟩:=ι Δ;refine ⟨_,rfl,?_⟩;refine ae.call (QZ dr) lz ?_;cases Δ;have ⟨c2,aF,aw⟩:=ι aw;refine Br.ite aF (fun hb aF=>?_) fun hb aF=>?_
    ·have ⟨x6,gw,aF⟩:=ι aF;refine ae.borrow (ai5 gw) (.cons (Fz.o rfl) fq) rfl ?_;cases aF;cases aw;exact wt Q5 J3 rfl
    cases aF;cases aw;exact wt Q5 J3 rfl
   cases Δ;have ⟨c2,aM,aw⟩:=ι aw;replace aM:=cL aM;cases aM;cases aw;exact wt Q5 J3 rfl
  refine ct ν (fun hb ν=>?_) fun hb ν=>?_
  ·refine rg ?_;have ⟨x7,gg,ν⟩:=ι ν;refine ⟨_,rfl,?_⟩;refine ae.call (Ze gg) lz ?_;refine ⟨_,rfl,?_⟩;cases ν;exact wt Q3 J3 rfl
  refine sk ?_;cases ν;exact wt Q3 J3 rfl
 refine sg ⟨_,rfl,_,rfl,?_⟩;refine rt ?_;cases h;exact ⟨_,rfl,Fz.t (.cons (Fz.dL rfl) (.cons (Fz.o rfl) fq))⟩
def aj7 {B C D F G I J K L a d e f g i j k l o u w z A} {q:Int⊕(K0)} (h:DP B C D F G I J K L a d e f g i j k l o u w z A=some q):fM prog bf 70 [.b 1000 0] ⟨aG,[(1000,.box (cV B C D F G I J K L a d e f g i j k l o u w z A))]⟩ (fun x s=>∃y:K0,q=.inr y∧x=(.t [])∧s.H=[(1000,.box (cV y.1 y.2.1 y.2.2.1 y.2.2.2.1 y.2.2.2.2.1 y.2.2.2.2.2.1 y.2.2.2.2.2.2.1 y.2.2.2.2.2.2.2.1 (t8 y) a d e f g i j k l o u w z A))]) fun m s=>q=.inl m∧s.H=[]:=by
 refine px tok 49 func70 ?_;unfold DP at h;refine sq (Ok.mO (E:=bf) (chain:=[(26,[0,1,2,3,4,5,6,7,8,9,10,11,12,13,14,15,16,17,18,19,20,21,22,23,24,25,28,29]),(27,[24,25,28,29])]) tok mixed (by kernel_rfl) ?_);have ⟨x1,Θ,h⟩:=ι h;refine ⟨_,rfl,_,rfl,_,rfl,_,rfl,_,rfl,_,⟨_,rfl,rfl⟩,_,rfl,_,rfl,_,rfl,_,rfl,_,⟨_,rfl,rfl⟩,_,rfl,_,rfl,_,rfl,_,rfl,_,⟨_,rfl,rfl⟩,_,rfl,_,rfl,_,rfl,_,rfl,_,⟨_,rfl,rfl⟩,_,⟨_,.fC (QY Θ) lz,rfl⟩,_,rfl,_,rfl,_,rfl,_,rfl,_,rfl,_,rfl,ψ ⟨⟨⟨_,rfl,rfl⟩,⟨_,rfl,rfl⟩,⟨_,rfl,rfl⟩,⟨_,rfl,rfl⟩,⟨_,rfl,rfl⟩,⟨_,rfl,_,rfl,rfl⟩,⟨_,rfl,rfl⟩,⟨_,rfl,rfl⟩,⟨_,rfl,rfl⟩,⟨_,rfl,rfl⟩,⟨_,rfl,_,rfl,rfl⟩,⟨_,rfl,rfl⟩,⟨_,rfl,rfl⟩,⟨_,rfl,rfl⟩,⟨_,rfl,rfl⟩,⟨_,rfl,_,rfl,rfl⟩,⟨_,rfl,rfl⟩,⟨_,rfl,rfl⟩,⟨_,rfl,rfl⟩,⟨_,rfl,rfl⟩,⟨_,rfl,_,rfl,rfl⟩,⟨_,rfl,_,.fC (QY Θ) lz,rfl⟩,⟨_,rfl,rfl⟩,⟨_,rfl,rfl⟩,⟨_,rfl,rfl⟩,⟨_,rfl,rfl⟩,⟨_,rfl,rfl⟩,⟨_,rfl,rfl⟩,Q0⟩,ψ (⟨_,rfl,⟨⟨_,rfl,rfl⟩,⟨_,rfl,rfl⟩,⟨_,rfl,rfl⟩,⟨_,rfl,rfl⟩,Q0⟩,?_⟩)⟩⟩;refine sq (Ok.cY bf tok ?_);have ⟨x2,ak,h⟩:=ι h;refine ψ (bV (cx [] [] (kz ak) nq Q0 (fun e1 bE=>?_) (fun y1 c_=>?_)))
 ·have h:=cu h bE;cases h;exact ⟨_,rfl,rfl⟩
 have h:=cw h c_;refine Ok.qb (m:=13) (late:=[1,9]) (MD:=⟨[]⟩) (CH:=⟨[]⟩) tok mixed (by kernel_rfl) ?_;have ⟨x3,aK,h⟩:=ι h;refine ⟨_,rfl,_,rfl,_,rfl,_,rfl,_,rfl,_,rfl,_,⟨_,rfl,rfl⟩,_,⟨_,rfl,rfl⟩,_,⟨_,.fC (Q_ aK) lz,rfl⟩,_,rfl,_,rfl,_,rfl,_,rfl,Q0,?_⟩;refine ⟨_,rfl,⟨⟨_,rfl,rfl⟩,⟨_,rfl,rfl⟩,Q0⟩,_,rfl,?_⟩;cases h;exact ⟨_,rfl,wt Q1 J1 rfl⟩
def ai2 {a b c r} (h:EB a b c=some r):Pure prog 209 (k17 a b c) (.t [vi r.1,vi r.2]):=by
 refine pq tok 22 func209 ?_;unfold EB at h;refine sg (sg ?_);have ⟨x1,Θ,h⟩:=ι h;refine ae.call (Zc Θ) lz ?_;refine sq (sg ?_);refine ct h (fun hb h=>?_) fun hb h=>?_
 ·refine sg (rt ?_);cases h;exact (Fz.t fq)
 refine sk (sg ?_);have ⟨x2,ak,h⟩:=ι h;refine ⟨_,bq ak,_,br ak,_,rfl,?_⟩;refine rt ?_;cases h;exact (Fz.t fq)
def Re {d e f g i j k l o t u w z A B C D E F G I J K} {q:Int⊕(oU)} (h:yy d e f g i j k l o t u w z A B C D E F G I J K=some q):fM prog bf 127 [.b 1000 0] ⟨aG,[(1000,.box (cV d e f g i j k l o t u w z A B C D E F G I J K))]⟩ (fun x s=>∃y:oU,q=.inr y∧x=(.a (k8 y.1 y.2.1 y.2.2.1 y.2.2.2.1 y.2.2.2.2.1 y.2.2.2.2.2))∧s.H=[(1000,.box (cV d e f g i j k l o t u w z A B C D E F G I J K))]) fun m s=>q=.inl m∧s.H=[]:=by
 refine px tok 36 func127 ?_;unfold yy at h;refine sg (sq (dw 21 tok mixed ?_));have ⟨x1,Θ,h⟩:=ι h;refine ⟨_,rfl,_,rfl,_,rfl,_,rfl,_,⟨_,rfl,rfl⟩,_,rfl,_,rfl,_,rfl,_,rfl,_,⟨_,rfl,rfl⟩,_,rfl,_,rfl,_,rfl,_,rfl,_,⟨_,rfl,rfl⟩,_,⟨_,.fC (ai2 Θ) lz,rfl⟩,_,rfl,_,rfl,_,rfl,_,rfl,_,rfl,Q0,?_⟩;refine sq (Ok.cY bf tok ?_);have ⟨x2,ak,h⟩:=ι h;refine ψ (bV (cx [] [] (kz ak) nq Q0 (fun e1 bE=>?_) (fun y1 c_=>?_)))
 ·have h:=cu h bE;cases h;exact ⟨_,rfl,rfl⟩
 have h:=cw h c_;refine sq (Ok.cY bf tok ?_);have ⟨x3,aK,h⟩:=ι h;refine ψ (ψ (ψ (ψ (ψ (⟨_,rfl,ψ ?_⟩)))));refine bV (cx [] [] (pV aK) nq Q0 (fun e2 dV=>?_) (fun y2 ew=>?_))
 ·have h:=cu h dV;cases h;exact ⟨_,rfl,rfl⟩
 have h:=cw h ew;refine sg ?_;have ⟨x4,bn,h⟩:=ι h;refine cg [(1000,1000)] [] (Zm bn) (.cons (Ln.b rfl) nq) ⟨⟨1000,_,rfl,rfl,.box nq⟩,Q0⟩ ?_;refine ⟨_,rfl,?_⟩;refine rt ?_;cases h;exact ⟨_,rfl,_,rfl,wt Q1 J1 rfl⟩
def Zq {a r} (h:yj a=some r):iN prog 128 [.s (mU a)] 5 1 (mU r):=by
 refine pv tok 8 func128 ?_;unfold yj at h;refine sg (sq (sg ?_));intro b1 cT;have h:=yb h b1 (fun e=>C_.1 (cT e));refine ct h (fun hb h=>?_) fun hb h=>?_
 ·refine sg (rt ?_);cases h;exact (.inl ⟨rfl,rfl⟩)
 refine sk (sg ?_);have ⟨ar,h⟩:=aC h;refine bV ⟨gy (f:=dD) (n:=1) (fun _=>rfl) a,gQ (f:=dD) (l:=([]:List UInt8)) (l':=a) ar,_,(eI (f:=dD) (l₁:=([]:List UInt8)) (l₂:=a)).symm,?_⟩;refine rt ?_;cases h;exact (.inr ⟨_,rfl,rfl⟩)
def YS {a r} (h:yj a=some r):Pure prog 128 [.s (mU a)] (.s (mU r)):=(Zq h).pure
def aki {e g i j k l o u w z A B C D a d E F G I J L N} {q:Int⊕(Int×(List UInt8))} (h:DZ e g i j k l o u w z A B C D a d E F G I J L N=some q):fM prog bf 71 [.b 1000 0] ⟨aG,[(1000,.box (cV e g i j k l o u w z A B C D a d E F G I J L N))]⟩ (fun x s=>∃y:Int×(List UInt8),q=.inr y∧x=(.t [])∧s.H=[(1000,.box (k18 e g i j k l o u w z A B C D a d E F 0 y.1 0 0 0 y.2))]) fun m s=>q=.inl m∧s.H=[]:=by
 refine px tok 50 func71 ?_;unfold DZ at h;refine sq (Ok.cY bf tok ?_);have ⟨x1,Θ,h⟩:=ι h;refine ψ (bV (cx [(1000,1000)] [] (Re Θ) (.cons (Ln.b rfl) .nil) ⟨⟨1000,_,rfl,rfl,.box nq⟩,Q0⟩ (fun e1 bE=>?_) (fun y1 c_=>?_)))
 ·have h:=cu h bE;cases h;exact ⟨_,rfl,rfl⟩
 have h:=cw h c_;refine ψ (ψ (⟨_,rfl,?_⟩));refine Ok.eC (fun v1=>⟨aq [(0,.b 1000 0),(2,.b 2 0)],[(1000,.box (cV e g i j k l o u w z A B C D a d E F G I J L N)),(2,.box (k8 y1.1 y1.2.1 y1.2.2.1 y1.2.2.2.1 y1.2.2.2.2.1 y1.2.2.2.2.2))]⟩) (fun v1=>Ii a y1 d v1=some q) ?_ ?_
 ·refine Ok.cY bf tok (ψ (ψ (ψ (ψ (ψ (⟨_,rfl,ψ (ψ ?_)⟩))))));have ⟨c1,Δ,h⟩:=ι h;refine Br.ite Δ (fun hb Δ=>?_) fun hb Δ=>?_
  ·refine ψ (ψ (ψ (ψ (ψ (⟨_,rfl,ψ ?_⟩)))));cases Δ;refine ψ ?_;have ⟨x2,ak,h⟩:=ι h;refine bV (cx [] [] (pV ak) nq Q0 (fun e2 dV=>?_) (fun y2 ew=>?_))
   ·have h:=cu h dV;cases h;exact ⟨_,rfl,rfl⟩
   have h:=cw h ew;exact ⟨_,h,wt Q2 ⟨hr,hr,Q0⟩ rfl⟩
  cases Δ;refine ψ ?_;have ⟨x2,ak,h⟩:=ι h;refine bV (cx [] [] (pV ak) nq Q0 (fun e2 dV=>?_) (fun y2 ew=>?_))
  ·have h:=cu h dV;cases h;exact ⟨_,rfl,rfl⟩
  have h:=cw h ew;exact ⟨_,h,wt Q2 ⟨hr,hr,Q0⟩ rfl⟩
 intro v1 h;unfold Ii at h;refine sq (dw 13 tok mixed ?_);have ⟨ar,h⟩:=aC h;refine ⟨_,rfl,_,⟨_,rfl,rfl⟩,_,rfl,_,rfl,_,rfl,_,rfl,_,⟨_,rfl,rfl⟩,_,rfl,_,⟨_,rfl,rfl⟩,_,⟨_,ax _,fun _=>rfl⟩,_,⟨(min a (y1.2.2.2.1.length:Int)),rfl,rfl⟩,_,⟨_,lq ar.1,xk ar,Nat.le_refl _,xg (f:=dD) (K:=1) (fun _=>rfl) y1.2.2.2.1,_,PZ _ _ _,rfl⟩,_,rfl,Q0,?_⟩;refine dw 17 tok mixed ?_;have ⟨bu,h⟩:=aC h;have ⟨x3,aK,h⟩:=ι h;refine ⟨_,rfl,_,rfl,_,⟨_,rfl,rfl⟩,_,rfl,_,rfl,_,rfl,_,rfl,_,rfl,_,⟨_,rfl,rfl⟩,_,rfl,_,⟨_,ax _,fun _=>rfl⟩,_,⟨(min d ((y1.2.2.2.1.drop (min a (y1.2.2.2.1.length:Int)).toNat).length:Int)),rfl,rfl⟩,_,⟨_,lq bu.1,Nat.zero_le _,xk bu,xg (f:=dD) (K:=1) (fun _=>rfl) (y1.2.2.2.1.drop (min a (y1.2.2.2.1.length:Int)).toNat),_,Kq _ _ _,rfl⟩,_,⟨_,.fC (YS aK) lz,rfl⟩,_,rfl,_,rfl,_,rfl,Q0,_,rfl,?_⟩;cases h;exact ⟨_,rfl,wt Q1 J1 rfl⟩
end Go.Proofs
