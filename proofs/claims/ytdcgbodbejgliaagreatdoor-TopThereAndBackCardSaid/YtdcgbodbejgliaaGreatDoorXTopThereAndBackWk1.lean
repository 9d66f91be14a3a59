/- The walks of this seat beside the plain programs, part 1. No condition. -/
import Derived.Test.YtdcgbodbejgliaaGreatDoorXTopThereAndBackWk0
open Option renaming some->V
open List renaming length_map->au,map_append->bO,map->cK,map_eq_nil_iff->RU
open Nat renaming lt_of_le_of_lt->kO
open Or renaming inl->ah
namespace Go.Proofs
set_option linter.all false
open Go Go.Cat Tryz
variable[M:cD][K:LK]
set_option maxRecDepth 100000
set_option maxHeartbeats 4000000
def Rf{a r}(h:zv a=V r):j5 prog 231 [.s (mI a)] 44 6 (mI r):=by
 refine pv tok 8 func231 ?_;unfold zv at h;refine sg (sq (sg ?_));intro b1 cR;have h:=G4 h b1 (λe=>RU.1 (cR e));refine ct h (λhb h=>?_) λhb h=>?_
 .cases h;exact sg (rt (.inl ⟨rfl,rfl⟩))
 have⟨aj,h⟩:=aq h;cases h;exact sk (sg (Or.inr ⟨c_ (f:=eM) (n:=6) (λ_=>rfl) a,c8 (f:=eM) (l:=([]:List τ)) (l':=a) aj,_,(bO (f:=eM) (l₁:=([]:List τ)) (l₂:=a)).symm,rt (.inr ⟨_,rfl,rfl⟩)⟩))
def Rc{d e r}(h:zB d e=V r):Ω prog 167 [.b 1000 0,.a (b4 d)] ⟨aR,[(1000,.box (b5 e))]⟩ λx s=>x=(.t [])/\s.H=[(1000,.box [.o 19,vi r.1,vi r.2.1]),(19,.own 44 6 (mI r.2.2))]:=by
 refine pg tok 45 func167 ?_;unfold zB at h;have⟨x1,Θ,h⟩:=ι h;refine sg (sg ⟨_,rfl,Ω.fj (id:=1000) (Kz Θ) rfl (.box lz) rfl (.cons (Lr.b) (.cons (Lr.cP rfl) .nil)) ?_⟩);rintro _ _ ⟨rfl,rfl⟩;have⟨x2,ar,h⟩:=ι h;refine sg ⟨_,rfl,Ω.own (D:=19) (Rf ar) lz rfl ⟨_,rfl,sq (sg (ct h (λhb h=>?_) λhb h=>?_))⟩⟩
 .have⟨x3,aL,h⟩:=ι h;cases h;exact sq (dw 8 tok mixed ⟨_,rfl,_,rfl,_,rfl,_,rfl,_,⟨_,rfl,rfl⟩,_,rfl,_,⟨_,rfl,rfl⟩,_,⟨_,aO aL,ll aL,rfl⟩,Q0,_,aP aL,rfl,_,rfl,_,zq (f:=eM) (x:=d),rt (wt Q1 J2 rfl)⟩)
 have⟨aj,h⟩:=aq h;cases h;exact sk (Ok.xC (E:=eI) (chain:=[(9,[0,10,11,12]),(13,[])]) tok mixed (by kernel_rfl) ⟨_,rfl,_,rfl,_,rfl,_,rfl,_,rfl,_,⟨_,rfl,rfl⟩,_,rfl,_,⟨_,rfl,rfl⟩,_,rfl,_,rfl,_,rfl,_,rfl,ah (cg [(1000,19)] [(900,19)] (Vm x2 x1.1.1 ([d]) aj) (.cons (Ln.o rfl) nq) ⟨⟨19,_,rfl,rfl,.refl rfl⟩,Q0⟩ ⟨⟨⟨_,rfl,rfl⟩,⟨_,rfl,rfl⟩,⟨_,rfl,rfl⟩,⟨_,rfl,rfl⟩,Q0⟩,ah (⟨_,rfl,Q0,wt Q1 J2 rfl⟩)⟩)⟩)
def KC{a r}(h:wH a=V r):j5 prog 190 [.s (mC a)] 138 3 (mC r):=by
 refine pv tok 8 func190 ?_;unfold wH at h;refine sg (sq (sg ?_));intro b1 cR;have h:=G4 h b1 (λe=>RU.1 (cR e));refine ct h (λhb h=>?_) λhb h=>?_
 .cases h;exact sg (rt (.inl ⟨rfl,rfl⟩))
 have⟨aj,h⟩:=aq h;cases h;exact sk (sg (Or.inr ⟨c_ (f:=fB) (n:=3) (λ_=>rfl) a,c8 (f:=fB) (l:=([]:List aH)) (l':=a) aj,_,(bO (f:=fB) (l₁:=([]:List aH)) (l₂:=a)).symm,rt (.inr ⟨_,rfl,rfl⟩)⟩))
def Re{d e g i j k l r}(h:Ci d e g i j k l=V r):Ω prog 167 [.b 1000 0,.a [vi d,vi e,vi g,.s (mU i),.o 1001,vi j]] ⟨aR,[(1000,.box (b5 k)),(1001,.own 138 3 (mC l))]⟩ λx s=>x=(.t [])/\s.H=[(1000,.box [.o 19,vi r.1,vi r.2.1]),(19,.own 44 6 (mI r.2.2))]:=by
 refine pg tok 45 func167 ?_;unfold Ci at h;have⟨x1,Θ,h⟩:=ι h;refine sg (sg ⟨_,rfl,Ω.fj (id:=1000) (Kz Θ) rfl (.box lz) rfl (.cons (Lr.b) (.cons (Lr.cP rfl) .nil)) ?_⟩);rintro _ _ ⟨rfl,rfl⟩;have⟨x2,ar,h⟩:=ι h;refine sg ⟨_,rfl,Ω.own (D:=19) (Rf ar) lz rfl ⟨_,rfl,sq (sg (ct h (λhb h=>?_) λhb h=>?_))⟩⟩
 .have⟨x3,aL,h⟩:=ι h;cases h;exact sq (Ok.wk (Wk.freeze (id:=1001) rfl) (dw 8 tok mixed ⟨_,rfl,_,rfl,_,rfl,_,rfl,_,⟨_,rfl,rfl⟩,_,rfl,_,⟨_,rfl,rfl⟩,_,⟨_,aO aL,ll aL,rfl⟩,Q0,_,aP aL,rfl,_,rfl,_,zq (f:=eM) (x:=(⟨d,e,g,i,l,j⟩:τ)),rt (wt Q1 J2 rfl)⟩))
 have⟨aj,h⟩:=aq h;cases h;exact sk (Ok.wk (Wk.freeze (id:=1001) rfl) (Ok.xC (E:=eI) (chain:=[(9,[0,10,11,12]),(13,[])]) tok mixed (by kernel_rfl) ⟨_,rfl,_,rfl,_,rfl,_,rfl,_,rfl,_,⟨_,rfl,rfl⟩,_,rfl,_,⟨_,rfl,rfl⟩,_,rfl,_,rfl,_,rfl,_,rfl,ah (cg [(1000,19)] [(900,19)] (Vm x2 x1.1.1 ([(⟨d,e,g,i,l,j⟩:τ)]) aj) (.cons (Ln.o rfl) nq) ⟨⟨19,_,rfl,rfl,.refl rfl⟩,Q0⟩ ⟨⟨⟨_,rfl,rfl⟩,⟨_,rfl,rfl⟩,⟨_,rfl,rfl⟩,⟨_,rfl,rfl⟩,Q0⟩,ah (⟨_,rfl,Q0,wt Q1 J2 rfl⟩)⟩)⟩))
def ajI{f d e g i j r}(h:QD f d e g i j=V r):Ω prog 168 [.b 1000 0,vi f,vs d,vi e] ⟨aR,[(1000,.box [.o 1001,vi g,vi i]),(1001,.own 44 6 (mI j))]⟩ λx s=>x=(.t [])/\s.H=[(1000,.box [.o 999,vi r.1,vi r.2.1]),(999,.own 44 6 (mI r.2.2))]:=by
 refine pg tok 51 func168 ?_;unfold QD at h;have⟨x1,Θ,h⟩:=ι h;refine sq (Ok.wk (Wk.freeze (id:=1001) rfl) (rg (Ω.fj (id:=1000) (uA Θ) rfl (.box lz) rfl (.cons (Lr.b) (.cons (Lr.cP rfl) .nil)) ?_)));rintro _ _ ⟨rfl,rfl⟩;have⟨x2,ar,h⟩:=ι h;have⟨x3,aL,h⟩:=ι h;have⟨aj,h⟩:=aq h;have⟨aX,h⟩:=aq h;have⟨x4,aZ,h⟩:=ι h;cases h;exact⟨_,rfl,sg ⟨_,rfl,Ω.call (Cr ar) lz (sq (Ok.xC (E:=eI) (chain:=[(2,[3,4,5,6,7,8,9,10,11,12,14]),(13,[14]),(15,[])]) tok mixed (by kernel_rfl) ⟨_,rfl,_,⟨_,rfl,rfl⟩,_,rfl,_,rfl,_,rfl,_,rfl,_,rfl,_,rfl,_,rfl,_,⟨_,rfl,rfl⟩,_,rfl,_,rfl,_,rfl,ah (Ω.own (D:=26) (KC aL) lz rfl ⟨⟨⟨_,rfl,rfl⟩,⟨_,rfl,rfl⟩,⟨_,rfl,rfl⟩,⟨_,rfl,rfl⟩,⟨_,rfl,rfl⟩,⟨_,rfl,rfl⟩,⟨_,rfl,rfl⟩,⟨_,rfl,_,rfl,rfl⟩,⟨_,rfl,rfl⟩,⟨_,rfl,rfl⟩,⟨_,rfl,rfl⟩,Q0⟩,ah (cg [(1000,26)] [(900,26)] (Vn x3 x2.1 ([(⟨d,e,x1.2.Tree.ai⟩:aH)]) aj) (.cons (Ln.o rfl) nq) ⟨⟨26,_,rfl,rfl,.refl rfl⟩,Q0⟩ ⟨⟨⟨_,rfl,rfl⟩,Q0⟩,ah (⟨_,rfl,Q0,sg ⟨_,rfl,ah ⟨aX,_,rfl,rg ⟨_,rfl,cg [(1000,1000),(1001,26)] [(19,999)] (Re aZ) (.cons (Ln.b rfl) (.cons (Ln.a (n4 (.cons (Ln.o rfl) nq))) .nil)) ⟨⟨1000,_,rfl,rfl,.box nq⟩,⟨26,_,rfl,rfl,.refl rfl⟩,Q0⟩ (wt Q1 J2 rfl)⟩⟩⟩⟩)⟩)⟩)⟩))⟩⟩
def Zp{c e f d r}(h:QA c e f d=V r):Pure prog 115 [.a (b0 c),vi e,vs f,vi d] (.t [.a (b0 r.1),vi r.2.1,vi r.2.2]):=by
 refine pq tok 83 func115 ?_;unfold QA at h;have⟨v1,ν,h⟩:=ι h;refine sg (sq (Ok.aD ⟨Ψ [(1,vi e),(2,vs f),(3,vi d),(4,.b 4 0),(8,.b 8 0),(19,vb v1)],[(4,.box (b0 c)),(8,.box (k1 0 0))]⟩ ?_ ?_))
 .have⟨c1,ξ,ν⟩:=ι ν;refine rg (Br.ite ξ (λhb ξ=>?_) λhb ξ=>?_)
  .cases ξ;cases ν;exact wt Q6 J2 rfl
  cases ξ;cases ν;exact wt Q6 J2 rfl
 refine ct h (λhb h=>?_) λhb h=>?_
 .cases h;exact sg ⟨_,rfl,_,rfl,rt ⟨_,rfl,Fz.t fq⟩⟩
 have⟨x1,Θ,h⟩:=ι h;refine sk (sg ⟨_,rfl,sq (sg (Ω.fj (id:=23) (ajp Θ) rfl (.box lz) rfl (.cons (Lr.b) (.cons (Lr.cP rfl) (.cons (Lr.cP rfl) .nil))) ?_))⟩);rintro _ _ ⟨rfl,rfl⟩;refine sg (ct h (λhb h=>?_) λhb h=>?_)
 .cases h;exact sg ⟨_,rfl,_,rfl,rt ⟨_,rfl,Fz.t fq⟩⟩
 have⟨v2,Φ,h⟩:=ι h;refine sk (sq (Ok.aD ⟨Ψ [(1,vi e),(2,vs f),(3,vi d),(4,.b 4 0),(8,.b 8 0),(11,.b 23 0),(46,vb v2)],[(4,.box (b0 c)),(8,.box (k1 0 0)),(23,.box (b5 x1.2))]⟩ ?_ ?_))
 .have⟨c2,az,Φ⟩:=ι Φ;refine rg ⟨_,rfl,_,au _,λ_=>Br.cA az (λhb az=>?_) λhb az=>?_⟩
  .cases az;cases Φ;exact wt Q7 J3 rfl
  refine⟨_,rfl,?_⟩;cases az;cases Φ;exact wt Q7 J3 rfl
 refine ct h (λhb h=>?_) λhb h=>?_
 .cases h;exact sg ⟨_,rfl,_,rfl,rt ⟨_,rfl,Fz.t fq⟩⟩
 have⟨v3,aA,h⟩:=ι h;refine sk (sg ⟨_,rfl,_,rfl,Ok.aD ⟨Ψ [(1,vi e),(2,vs f),(8,.b 8 0),(11,.b 23 0),(13,.b 13 0)],[(8,.box (k1 0 0)),(23,.box (b5 x1.2)),(13,.box (k9 x1.2.Tree.Next d 1 v3))]⟩ ?_ ?_⟩)
 .refine sg (ct aA (λhb aA=>?_) λhb aA=>?_)
  .refine rg ⟨_,rfl,?_⟩;cases aA;exact wt Q5 J3 rfl
  refine sk ?_;cases aA;exact wt Q5 J3 rfl
 have⟨aj,h⟩:=aq h;have⟨x2,ar,h⟩:=ι h;have⟨x3,aL,h⟩:=ι h;cases h;exact sg ⟨_,rfl,ah ⟨aj,_,rfl,sg ⟨_,rfl,cg [(1000,23)] [(19,999)] (Rc ar) (.cons (Ln.b rfl) (.cons (Ln.a (n2 (n1 (.cons (Ln.nil) (.cons (Ln.nil) nq))))) .nil)) ⟨⟨23,_,rfl,rfl,.box nq⟩,Q0⟩ (sg ⟨_,rfl,cg [(1000,23),(1001,999)] [(999,999)] (ajI aL) (.cons (Ln.b rfl) nq) ⟨⟨23,_,rfl,rfl,.box (.cons (Ln.o rfl) nq)⟩,⟨999,_,rfl,rfl,.refl rfl⟩,Q0⟩ (sq (Ok.iG (m:=6) (late:=[4,5]) (MD:=⟨[]⟩) (CH:=⟨[]⟩) tok mixed (by kernel_rfl) ⟨_,rfl,_,rfl,_,rfl,_,⟨_,rfl,rfl⟩,_,rfl,_,⟨_,rfl,rfl⟩,Q0,_,rfl,⟨⟨_,rfl,rfl⟩,⟨_,rfl,_,rfl,rfl⟩,Q0⟩,rt ⟨_,rfl,Fz.t (.cons (Fz.a (.cons (Fz.o rfl) fq)) fq)⟩⟩))⟩)⟩⟩⟩
def ah1{c r}(h:DO c=V r):Pure prog 198 [.a (b4 c)] (vb r):=by
 refine pq tok 11 func198 ?_;unfold DO at h;have⟨v1,ν,h⟩:=ι h;refine sg (Ok.aD ⟨Ψ [(2,vb v1)],[]⟩ ?_ ?_)
 .have⟨c1,ξ,ν⟩:=ι ν;refine rg ⟨_,rfl,Br.ite ξ (λhb ξ=>?_) λhb ξ=>?_⟩
  .refine⟨_,rfl,?_⟩;cases ξ;cases ν;exact wt Q1 Q0 rfl
  cases ξ;cases ν;exact wt Q1 Q0 rfl
 cases h;exact rt Fz.v
def ajM{c r}(h:AY c=V r):j5 prog 169 [.a (b0 c)] 3 1 (mB r):=by
 refine pv tok 22 func169 ?_;unfold AY at h;have⟨v1,ν,h⟩:=ι h;refine sg (sg (Ok.aD ⟨Ψ [(3,.o 19)],[(19,.own 3 1 (mB v1))]⟩ ?_ ?_))
 .refine sg ⟨_,rfl,_,au _,λ_=>bl (Ok.loop (λ(s1:Int×(List Int))=>⟨Ψ [(3,.o 19),(7,.s (mI c.η)),(8,vi (c.η.length:Int)),(9,vi s1.1)],[(19,.own 3 1 (mB s1.2))]⟩) (HX c) (s0:=(0,[])) ν ((Wk.oW (t:=3) (id:=19) (E:=3) (K:=1) rfl rfl).trans (wt Q4 ⟨hr,Q0⟩ rfl)) ?_)⟩;intro s1 y1 ζ aB;unfold HX at ζ;refine sg (sq (ct ζ (λhb ζ=>?_) λhb ζ=>?_))
  .have⟨v2,Φ,ζ⟩:=ι ζ;refine sk (Ok.aD ⟨Ψ [(3,.o 19),(7,.s (mI c.η)),(8,vi (c.η.length:Int)),(9,vi s1.1)],[(19,.own 3 1 (mB v2))]⟩ ?_ ?_)
   .have⟨x1,Θ,Φ⟩:=ι Φ;have⟨x2,ar,Φ⟩:=ι Φ;refine bl (sg ⟨_,aO Θ,_,aP Θ,_,rfl,_,rfl,sg ⟨_,rfl,Ω.call (ah1 ar) lz (ct Φ (λhb Φ=>?_) λhb Φ=>?_)⟩⟩)
    .have⟨aj,Φ⟩:=aq Φ;refine rg ⟨_,rfl,ah ⟨c_ (f:=Go.Cat.encI) (n:=1) (λ_=>rfl) ([x1.κ]),c8 (f:=Go.Cat.encI) (l:=s1.2) (l':=[x1.κ]) aj,_,(bO (f:=Go.Cat.encI) (l₁:=s1.2) (l₂:=[x1.κ])).symm,?_⟩⟩;cases Φ;exact wt Q4 J1 rfl
    refine sk ?_;cases Φ;exact wt Q4 J1 rfl
   have⟨aX,ζ⟩:=aq ζ;exact rg (ah ⟨aX,_,sj ζ,wt Q4 J1 rfl⟩)
  refine xt ?_;have ζ:=aT ζ aB;cases ζ;exact wt Q1 J1 rfl
 cases h;exact sg (rt (.inr ⟨_,rfl,rfl⟩))
def ah0{b r}(h:AY b=V r):Pure prog 169 [.a (b0 b)] (.s (mB r)):=(ajM h).pure
def ahX{c d r}(h:Df c d=V r):Pure prog 171 [.a (b7 c),.p [vi d]] (vb r):=by
 refine pq tok 8 func171 ?_;unfold Df at h;cases h;exact sg (sg ⟨_,rfl,_,rfl,rt Fz.v⟩)
def ai7{a b r}(h:Qe a b=V r):Pure prog 201 [.s (mF a),.c (.func 171) [] [.p [vi b]]] (vi r):=by
 refine pq tok 19 func201 ?_;unfold Qe at h;refine sg (Ok.dy (λv1=>⟨Ψ [],[]⟩) (λv1=>Qg v1=V r) ?_ ?_)
 .refine sg ⟨_,au _,λ_=>bl (Ok.loop (λ(s1:Int)=>⟨Ψ [(0,.s (mF a)),(1,.c (.func 171) [] [.p [vi b]]),(7,vi (a.length:Int)),(8,vi s1)],[]⟩) (Qf a b) (s0:=0) h (wt Q4 Q0 rfl) ?_)⟩;intro s1 y1 ζ aB;unfold Qf at ζ;refine sg (sq (ct ζ (λhb ζ=>?_) λhb ζ=>?_))
  .have⟨x1,Θ,ζ⟩:=ι ζ;have⟨x2,ar,ζ⟩:=ι ζ;refine sk (sq (bl (sg (sg ⟨_,aO Θ,_,aP Θ,_,rfl,Ω.call (ahX ar) lz (ct ζ (λhb ζ=>?_) λhb ζ=>?_)⟩))))
   .refine sg (rt ?_);have ζ:=aT ζ aB;cases ζ;exact Fz.v
   have⟨aj,ζ⟩:=aq ζ;exact sk (rg (ah ⟨aj,_,sj ζ,wt Q4 Q0 rfl⟩))
  refine xt ?_;have ζ:=aT ζ aB;exact⟨_,ζ,wt Q0 Q0 rfl⟩
 intro v1 h;unfold Qg at h;cases h;exact sg (rt Fz.v)
def ai3{a b r}(h:FL a b=V r):Pure prog 170 [.s (mF a),.c (.func 171) [] [.p [vi b]]] (vb r):=by
 refine pq tok 9 func170 ?_;unfold FL at h;have⟨x1,Θ,h⟩:=ι h;cases h;exact sg (sg (Ω.call (ai7 Θ) lz (rt Fz.v)))
def Zw{d a r}(h:Cg d a=V r):Ω prog 234 [.b 1000 0,vi d] ⟨aR,[(1000,.box (b5 a))]⟩ λx s=>x=(.t [])/\s.H=[(1000,.box (k0 r.1 r.2.1 r.2.2))]:=by
 refine pg tok 27 func234 ?_;unfold Cg at h;have⟨x1,Θ,h⟩:=ι h;refine sg (Ω.fj (id:=1000) (Kz Θ) rfl (.box lz) rfl (.cons (Lr.b) (.cons (Lr.cP rfl) .nil)) ?_);rintro _ _ ⟨rfl,rfl⟩;refine sg (ct h (λhb h=>?_) λhb h=>?_)
 .have⟨x2,ar,h⟩:=ι h;have⟨aj,h⟩:=aq h;have⟨aX,h⟩:=aq h;cases h;exact rg ⟨_,rfl,Ω.own (D:=19) (Rf ar) lz rfl (ah ⟨aj,cg [(1000,19)] [(900,19)] (adS x2 x1.1.1 (x1.1.1+1) aX) (.cons (Ln.o rfl) nq) ⟨⟨19,_,rfl,rfl,.refl rfl⟩,Q0⟩ ⟨_,rfl,(Wk.freeze (id:=19) rfl).trans (wt Q1 ⟨hr,Q0⟩ rfl)⟩⟩)⟩
 cases h;exact sk (wt Q1 J1 rfl)
def ajf{c d r}(h:F9 c d=V r):Pure prog 172 [.a (b0 c),vi d] (.t [.a (b0 r.1),vi r.2]):=by
 refine pq tok 39 func172 ?_;unfold F9 at h;have⟨x1,Θ,h⟩:=ι h;refine sg (sg ⟨_,rfl,sg (Ω.fj (id:=11) (uA Θ) rfl (.box lz) rfl (.cons (Lr.b) (.cons (Lr.cP rfl) .nil)) ?_)⟩);rintro _ _ ⟨rfl,rfl⟩;refine⟨_,rfl,sq (bl (sg (ct h (λhb h=>?_) λhb h=>?_)))⟩
 .cases h;exact sg ⟨_,rfl,_,rfl,rt ⟨_,rfl,Fz.t fq⟩⟩
 refine sg ⟨_,rfl,ct h (λhb h=>?_) λhb h=>?_⟩
 .cases h;exact sg ⟨_,rfl,_,rfl,rt ⟨_,rfl,Fz.t fq⟩⟩
 refine sg ⟨_,rfl,ct h (λhb h=>?_) λhb h=>?_⟩
 .cases h;exact sg ⟨_,rfl,_,rfl,rt ⟨_,rfl,Fz.t fq⟩⟩
 have⟨x2,ar,h⟩:=ι h;cases h;exact sk (sg (cg [(1000,11)] [] (Zw ar) (.cons (Ln.b rfl) nq) ⟨⟨11,_,rfl,rfl,.box nq⟩,Q0⟩ (sg ⟨_,rfl,_,rfl,rt ⟨_,rfl,Fz.t fq⟩⟩)))
def ajT{a r}(h:J6 a=V r):j5 prog 174 [.s (mA a)] 86 3 (mA r):=by
 refine pv tok 8 func174 ?_;unfold J6 at h;refine sg (sq (sg ?_));intro b1 cR;have h:=G4 h b1 (λe=>RU.1 (cR e));refine ct h (λhb h=>?_) λhb h=>?_
 .cases h;exact sg (rt (.inl ⟨rfl,rfl⟩))
 have⟨aj,h⟩:=aq h;cases h;exact sk (sg (Or.inr ⟨c_ (f:=il) (n:=3) (λ_=>rfl) a,c8 (f:=il) (l:=([]:List aJ)) (l':=a) aj,_,(bO (f:=il) (l₁:=([]:List aJ)) (l₂:=a)).symm,rt (.inr ⟨_,rfl,rfl⟩)⟩))
def ahY{c d e f r}(h:Mg c d e f=V r):Pure prog 175 [.a (b8 c),.p (k0 d e f)] (vb r):=by
 refine pq tok 15 func175 ?_;unfold Mg at h;have⟨x1,Θ,h⟩:=ι h;cases h;exact sg (sg ⟨_,rfl,_,rfl,Ω.call (zI Θ) lz ⟨_,rfl,sg (rt Fz.v)⟩⟩)
def ai8{b a r}(h:Qh b a=V r):Pure prog 235 [.s (mA b),.c (.func 175) [] [.p (b0 a)]] (vi r):=by
 refine pq tok 19 func235 ?_;unfold Qh at h;refine sg (Ok.dy (λv1=>⟨Ψ [],[]⟩) (λv1=>Qj v1=V r) ?_ ?_)
 .refine sg ⟨_,au _,λ_=>bl (Ok.loop (λ(s1:Int)=>⟨Ψ [(0,.s (mA b)),(1,.c (.func 175) [] [.p (b0 a)]),(7,vi (b.length:Int)),(8,vi s1)],[]⟩) (Qi b a) (s0:=0) h (wt Q4 Q0 rfl) ?_)⟩;intro s1 y1 ζ aB;unfold Qi at ζ;refine sg (sq (ct ζ (λhb ζ=>?_) λhb ζ=>?_))
  .have⟨x1,Θ,ζ⟩:=ι ζ;have⟨x2,ar,ζ⟩:=ι ζ;refine sk (sq (bl (sg (sg ⟨_,aO Θ,_,aP Θ,_,rfl,Ω.call (ahY ar) lz (ct ζ (λhb ζ=>?_) λhb ζ=>?_)⟩))))
   .refine sg (rt ?_);have ζ:=aT ζ aB;cases ζ;exact Fz.v
   have⟨aj,ζ⟩:=aq ζ;exact sk (rg (ah ⟨aj,_,sj ζ,wt Q4 Q0 rfl⟩))
  refine xt ?_;have ζ:=aT ζ aB;exact⟨_,ζ,wt Q0 Q0 rfl⟩
 intro v1 h;unfold Qj at h;cases h;exact sg (rt Fz.v)
def ahZ{c d r}(h:Dg c d=V r):Pure prog 175 [.a (b8 c),.p (b0 d)] (vb r):=by
 refine pq tok 15 func175 ?_;unfold Dg at h;have⟨x1,Θ,h⟩:=ι h;cases h;exact sg (sg ⟨_,rfl,_,rfl,Ω.call (zI Θ) lz ⟨_,rfl,sg (rt Fz.v)⟩⟩)
def ajF{g e r}(h:J_ g e=V r):Ω prog 173 [.o 1000,.c (.func 175) [] [.b 1001 0]] ⟨aR,[(1000,.own 86 3 (mA g)),(1001,.box (b0 e))]⟩ λx s=>x=(.o 999)/\s.H=[(999,.own 86 3 (mA r)),(1001,.box (b0 e))]:=by
 refine pg tok 42 func173 ?_;unfold J_ at h;have⟨x1,Θ,h⟩:=ι h;refine sg (sg (Ω.borrow (ai8 Θ) (.cons (Fz.o rfl) (.cons (Fz.c .nil (.cons (Fz.b rfl rfl) .nil)) .nil)) rfl (sq (sg (ct h (λhb h=>?_) λhb h=>?_)))))
 .cases h;exact sg (rt ((Wk.mv (i:=1000) (d:=999) rfl rfl rfl).trans (wt Q1 ⟨hr,hr,Q0⟩ rfl)))
 have⟨v1,ν,h⟩:=ι h;refine sk (Ok.aD ⟨Ψ [(0,.o 1000),(5,vi v1.1)],[(1000,.own 86 3 (mA v1.2)),(1001,.box (b0 e))]⟩ ?_ ?_)
 .have⟨aj,ν⟩:=aq ν;refine sg (ah ⟨aj,bl (Ok.loop (λ(s1:Int×Int×(List aJ))=>⟨Ψ [(0,.o 1000),(1,.c (.func 175) [] [.b 1001 0]),(5,vi s1.1),(6,vi s1.2.1)],[(1000,.own 86 3 (mA s1.2.2)),(1001,.box (b0 e))]⟩) (P_ e) (s0:=(x1,x1+1,g)) ν (wt Q4 ⟨hr,hr,Q0⟩ rfl) ?_)⟩);intro s1 y1 ζ aB;unfold P_ at ζ;refine sq (sg ⟨_,au _,λ_=>ct ζ (λhb ζ=>?_) λhb ζ=>?_⟩)
  .have⟨v2,Φ,ζ⟩:=ι ζ;refine sk (Ok.aD ⟨Ψ [(0,.o 1000),(1,.c (.func 175) [] [.b 1001 0]),(5,vi v2.1),(6,vi s1.2.1)],[(1000,.own 86 3 (mA v2.2)),(1001,.box (b0 e))]⟩ ?_ ?_)
   .have⟨x2,ar,Φ⟩:=ι Φ;have⟨x3,aL,Φ⟩:=ι Φ;refine bl (sg ⟨_,aO ar,ll ar,_,aP ar,rfl,_,rfl,_,rfl,sg ⟨_,rfl,Ω.borrow (ahZ aL) (.cons (Fz.a fq) (.cons (Fz.b rfl rfl) .nil)) rfl (ct Φ (λhb Φ=>?_) λhb Φ=>?_)⟩⟩)
    .have⟨x4,aZ,Φ⟩:=ι Φ;have⟨aX,Φ⟩:=aq Φ;refine sg ⟨_,rfl,_,aO aZ,ll aZ,_,aP aZ,rfl,_,rfl,_,zq (f:=il) (x:=x2),rg (ah ⟨aX,?_⟩)⟩;cases Φ;exact wt Q4 J2 rfl
    refine sk ?_;cases Φ;exact wt Q4 J2 rfl
   have⟨bY,ζ⟩:=aq ζ;exact rg (ah ⟨bY,_,sj ζ,wt Q4 J2 rfl⟩)
  refine xt ?_;have ζ:=aT ζ aB;cases ζ;exact wt Q2 J2 rfl
 have⟨dL,h⟩:=aq h;have⟨fL,h⟩:=aq h;cases h;exact sg ⟨_,gJ dL.1,JZ dL,_,SH (f:=il) (z:=((⟨0,0,0⟩:aJ):aJ)) v1.2 (v1.1.toNat),sq (Ok.wk (Wk.mv (i:=1000) (d:=999) rfl rfl rfl) (rg ⟨_,gJ fL.1,JZ fL,_,(List.map_take (f:=il)).symm,rt (wt Q1 J2 rfl)⟩))⟩
def Y4{c d r}(h:yT c d=V r):Pure prog 258 [.a (b8 c),vi d] (vi r):=by
 refine pq tok 9 func258 ?_;unfold yT at h;have⟨x1,Θ,h⟩:=ι h;cases h;exact sg (sg ⟨_,rfl,Ω.call (Kr Θ) lz (rt Fz.v)⟩)
def ai2{a b r}(h:P7 a b=V r):Pure prog 257 [.s (mA a),vi b,.c (.func 258) [] []] (.t [vi r.1,vb r.2]):=by
 refine pq tok 49 func257 ?_;unfold P7 at h;have⟨v1,ν,h⟩:=ι h;refine sg (sg ⟨_,au _,λ_=>sg (Ok.aD ⟨Ψ [(0,.s (mA a)),(1,vi b),(2,.c (.func 258) [] []),(8,vi (a.length:Int)),(9,vi v1)],[]⟩ ?_ ?_)⟩)
 .refine bl (Ok.loop (λ(s1:Int×Int)=>⟨Ψ [(0,.s (mA a)),(1,vi b),(2,.c (.func 258) [] []),(8,vi (a.length:Int)),(9,vi s1.1),(10,vi s1.2)],[]⟩) (P8 a b) (s0:=(0,(a.length:Int))) ν (wt Q6 Q0 rfl) ?_);intro s1 y1 ζ aB;unfold P8 at ζ;refine sq (sg (ct ζ (λhb ζ=>?_) λhb ζ=>?_))
  .have⟨aj,ζ⟩:=aq ζ;have⟨x1,Θ,ζ⟩:=ι ζ;have⟨x2,ar,ζ⟩:=ι ζ;refine sk (bl (sg (ah ⟨aj,_,rfl,by decide,_,rfl,_,rfl,sg ⟨_,aO Θ,_,aP Θ,_,rfl,Ω.call (Y4 ar) lz (ct ζ (λhb ζ=>?_) λhb ζ=>?_)⟩⟩)))
   .have⟨aX,ζ⟩:=aq ζ;exact rg (ah ⟨aX,_,sj ζ,wt Q6 Q0 rfl⟩)
   exact rg ⟨_,sj ζ,wt Q6 Q0 rfl⟩
  refine xt ?_;have ζ:=aT ζ aB;cases ζ;exact wt Q5 Q0 rfl
 have⟨v2,Φ,h⟩:=ι h;refine Ok.aD ⟨Ψ [(6,vi v1),(7,vb v2)],[]⟩ ?_ ?_
 .have⟨c1,ξ,Φ⟩:=ι Φ;refine rg (Br.ite ξ (λhb ξ=>?_) λhb ξ=>?_)
  .have⟨x3,aL,ξ⟩:=ι ξ;have⟨x4,aZ,ξ⟩:=ι ξ;refine⟨_,aO aL,_,aP aL,_,rfl,Ω.call (Y4 aZ) lz ?_⟩;cases ξ;cases Φ;exact wt Q2 Q0 rfl
  cases ξ;cases Φ;exact wt Q2 Q0 rfl
 cases h;exact rt (Fz.t fq)
def aii{a b r}(h:EF a b=V r):Pure prog 211 [.s (mA a),vi b] (.t [vi r.1,vb r.2]):=by
 refine pq tok 11 func211 ?_;unfold EF at h;have⟨x1,Θ,h⟩:=ι h;cases h;exact sg (sg (Ω.call (ai2 Θ) lz (rt (Fz.t fq))))
def ajA{d a e r}(h:Bt d a e=V r):Ω prog 277 [vi d,.b 1000 0,.b 1001 0] ⟨aR,[(1000,.box [.s (mA a)]),(1001,.box [vi e])]⟩ λx s=>x=(vb r.1)/\s.H=[(1000,.box [.s (mA a)]),(1001,.box [vi r.2])]:=by
 refine pg tok 17 func277 ?_;unfold Bt at h;have⟨v1,ν,h⟩:=ι h;refine sg (Ok.aD ⟨Ψ [(2,.b 1001 0)],[(1001,.box [vi v1]),(1000,.box [.s (mA a)])]⟩ ?_ ?_)
 .have⟨x1,Θ,ν⟩:=ι ν;refine sg ⟨_,rfl,Ω.call (aii Θ) lz (sg (ct ν (λhb ν=>?_) λhb ν=>?_))⟩
  .refine rg ⟨_,rfl,?_⟩;cases ν;exact wt Q1 J2 rfl
  refine sk ?_;cases ν;exact wt Q1 J2 rfl
 cases h;exact sg ⟨_,rfl,rt (wt Q1 J2 rfl)⟩
def ajC{d f e g r}(h:I5 d f e g=V r):Ω prog 276 [.a (b0 d),vi f,.c (.func 277) [] [.b 1000 0,.b 1001 0]] ⟨aR,[(1000,.box [.s (mA e)]),(1001,.box [vi g])]⟩ λx s=>x=(.t [])/\s.H=[(1000,.box [.s (mA e)]),(1001,.box [vi r])]:=by
 refine pg tok 23 func276 ?_;unfold I5 at h;refine sg (bl (Ok.loop (λ(s1:Int×Int)=>⟨Ψ [(1,vi s1.1),(2,.c (.func 277) [] [.b 1000 0,.b 1001 0]),(3,.b 3 0)],[(1000,.box [.s (mA e)]),(1001,.box [vi s1.2]),(3,.box (b0 d))]⟩) (yU e d) (s0:=(f,g)) h (wt Q3 ⟨hr,hr,hr,Q0⟩ rfl) ?_));intro s1 y1 ζ aB;unfold yU at ζ;have⟨v1,ν,ζ⟩:=ι ζ;refine sq (Ok.aD ⟨Ψ [(1,vi s1.1),(2,.c (.func 277) [] [.b 1000 0,.b 1001 0]),(3,.b 3 0),(14,vb v1.1)],[(1000,.box [.s (mA e)]),(1001,.box [vi v1.2]),(3,.box (b0 d))]⟩ ?_ ?_)
 .have⟨x1,Θ,ν⟩:=ι ν;have⟨c1,ξ,ν⟩:=ι ν;refine rg (cg [(1000,1000),(1001,1001)] [] (ajA Θ) (n1 (.cons (Ln.b rfl) (.cons (Ln.b rfl) .nil))) ⟨⟨1000,_,rfl,rfl,.box nq⟩,⟨1001,_,rfl,rfl,.box nq⟩,Q0⟩ (Br.ite ξ (λhb ξ=>?_) λhb ξ=>?_))
  .cases ξ;cases ν;exact wt Q4 J3 rfl
  cases ξ;cases ν;exact wt Q4 J3 rfl
 refine ct ζ (λhb ζ=>?_) λhb ζ=>?_
 .have⟨x2,ar,ζ⟩:=ι ζ;exact sk (bl (sg ⟨_,rfl,Ω.call (zI ar) lz ⟨_,rfl,rg ⟨_,rfl,_,sj ζ,wt Q3 J3 rfl⟩⟩⟩))
 refine xt ?_;have ζ:=aT ζ aB;cases ζ;exact wt Q1 J2 rfl
def aif{d e f r}(h:Bs d e f=V r):Pure prog 236 [.a (b0 d),.s (mA e),vi f] (vi r):=by
 refine pq tok 13 func236 ?_;unfold Bs at h;have⟨x1,Θ,h⟩:=ι h;cases h;exact sg (sg ⟨_,rfl,sg ⟨_,rfl,cg [(1000,4),(1001,7)] [] (ajC Θ) (n2 (.cons (Ln.c .nil (.cons (Ln.b rfl) (.cons (Ln.b rfl) .nil))) .nil)) ⟨⟨4,_,rfl,rfl,.box nq⟩,⟨7,_,rfl,rfl,.box nq⟩,Q0⟩ (sg ⟨_,rfl,rt Fz.v⟩)⟩⟩)
def ahV{c d r}(h:xJ c d=V r):Pure prog 177 [.a (b0 c),.s (mA d)] (vb r):=by
 refine pq tok 70 func177 ?_;unfold xJ at h;refine sg (sg (Ok.dy (λv1=>⟨Ψ [],[]⟩) (λv1=>Hr v1=V r) ?_ ?_))
 .refine sg ⟨_,rfl,_,au _,λ_=>bl (Ok.loop (λ(s1:Int×(List (Int×Int)))=>⟨Ψ [(1,.s (mA d)),(2,.b 2 0),(5,.m 15),(17,.s (mI c.η)),(18,vi (c.η.length:Int)),(19,vi s1.1)],[(2,.box (b0 c)),(15,.mp false (cK (λp=>(p.1,Go.Cat.encI p.2)) s1.2))]⟩) (Ho c d) (s0:=(0,([]:List (Int×Int)))) h (wt Q6 ⟨⟨_,rfl,.refl _⟩,⟨_,rfl,.refl _⟩,Q0⟩ rfl) ?_)⟩;intro s1 y1 ζ aB;unfold Ho at ζ;refine sg (sq (ct ζ (λhb ζ=>?_) λhb ζ=>?_))
  .refine sk (Ok.dy (λv2=>⟨Ψ [(1,.s (mA d)),(2,.b 2 0),(5,.m 15),(17,.s (mI c.η)),(18,vi (c.η.length:Int)),(19,vi s1.1)],[(2,.box (b0 c)),(15,.mp false (cK (λp=>(p.1,Go.Cat.encI p.2)) v2))]⟩) (λv2=>Au s1 v2=V y1) ?_ ?_)
   .have⟨x1,Θ,ζ⟩:=ι ζ;refine bl (sg ⟨_,aO Θ,_,aP Θ,_,rfl,_,rfl,sq (sg ⟨_,rfl,_,au _,λ_=>ct ζ (λhb ζ=>?_) λhb ζ=>?_⟩)⟩)
    .exact xt ⟨_,ζ,wt Q6 ⟨⟨_,rfl,.refl _⟩,⟨_,rfl,.refl _⟩,Q0⟩ rfl⟩
    have⟨x2,ar,ζ⟩:=ι ζ;refine sk (sg ⟨_,rfl,_,rfl,Ω.call (aif ar) lz (sg ⟨_,rfl,_,au _,λ_=>bl (Ok.loop (λ(s2:Int×(List (Int×Int)))=>⟨Ψ [(1,.s (mA d)),(2,.b 2 0),(5,.m 15),(8,vi x2),(17,.s (mI c.η)),(18,vi (c.η.length:Int)),(19,vi s1.1),(33,.s (mC x1.ψ)),(34,vi (x1.ψ.length:Int)),(35,vi s2.1)],[(2,.box (b0 c)),(15,.mp false (cK (λp=>(p.1,Go.Cat.encI p.2)) s2.2))]⟩) (Hq x1 c x2 s1) (s0:=(0,s1.2)) ζ (wt ⟨lr,lr,Q8⟩ ⟨⟨_,rfl,.refl _⟩,⟨_,rfl,.refl _⟩,Q0⟩ rfl) ?_)⟩)⟩);intro s2 y2 av eP;unfold Hq at av;refine sg (sq (ct av (λhb av=>?_) λhb av=>?_))
    .have⟨x3,aL,av⟩:=ι av;have⟨x4,aZ,av⟩:=ι av;have⟨x5,bT,av⟩:=ι av;have⟨v3,aA,av⟩:=ι av;refine sk (sq (bl (sg ⟨_,aO aL,_,aP aL,_,rfl,_,rfl,sg ⟨_,rfl,_,rfl,Ω.call (zI aZ) lz ⟨_,rfl,sg ⟨_,rfl,_,yI Go.Cat.encI (z:=(0:Int)) bT,_,Bf Go.Cat.encI x3.κ s2.2,sq (Ok.aD ⟨Ψ [(1,.s (mA d)),(2,.b 2 0),(5,.m 15),(8,vi x2),(10,.b 10 0),(17,.s (mI c.η)),(18,vi (c.η.length:Int)),(19,vi s1.1),(33,.s (mC x1.ψ)),(34,vi (x1.ψ.length:Int)),(35,vi s2.1),(63,vb v3)],[(2,.box (b0 c)),(15,.mp false (cK (λp=>(p.1,Go.Cat.encI p.2)) s2.2)),(10,.box (b6 x3))]⟩ ?_ ?_)⟩⟩⟩⟩)))
     .have⟨c1,ξ,aA⟩:=ι aA;refine rg ⟨_,rfl,Br.ite ξ (λhb ξ=>?_) λhb ξ=>?_⟩
      .cases ξ;have⟨c2,az,aA⟩:=ι aA;refine Br.ite az (λhb az=>?_) λhb az=>?_
       .cases az;cases aA;exact wt ⟨lr,lr,lr,lr,Q8⟩ J3 rfl
       cases az;cases aA;exact wt ⟨lr,lr,lr,lr,Q8⟩ J3 rfl
      cases ξ;have⟨c2,aQ,aA⟩:=ι aA;replace aQ:=dE aQ;cases aQ;cases aA;exact wt ⟨lr,lr,lr,lr,Q8⟩ J3 rfl
     refine ct av (λhb av=>?_) λhb av=>?_
     .refine sg (rt ?_);have av:=aT av eP;have av:=aT av aB;cases av;exact Fz.v
     have⟨aj,av⟩:=aq av;have⟨aX,av⟩:=aq av;exact sk (rg ⟨_,rfl,aj.1,kO (Nat.le_of_eq (au _)) aj.2,_,kK Go.Cat.encI x3.κ x2 s2.2,rg (ah ⟨aX,_,sj av,wt ⟨lr,lr,Q8⟩ J2 rfl⟩)⟩)
    refine xt ?_;have av:=aT av eP;exact⟨_,av,wt Q6 ⟨⟨_,rfl,.refl _⟩,⟨_,rfl,.refl _⟩,Q0⟩ rfl⟩
   intro v2 ζ;unfold Au at ζ;have⟨bY,ζ⟩:=aq ζ;exact rg (ah ⟨bY,_,sj ζ,wt Q6 J2 rfl⟩)
  refine xt ?_;have ζ:=aT ζ aB;exact⟨_,ζ,wt Q0 Q0 rfl⟩
 intro v1 h;unfold Hr at h;cases h;exact sg (rt Fz.v)
def ajB{g d e f r}(h:I4 g d e f=V r):Ω prog 237 [vi g,.b 1000 0,.b 1001 0,.b 1002 0,.b 1004 0] ⟨aR,[(1000,.box (b0 d)),(1001,.box [vi e]),(1002,.box [.m 1003]),(1003,.mp false (cK (λp=>(p.1,cB p.2)) f)),(1004,.box [.c (.func 237) [] [.b 1000 0,.b 1001 0,.b 1002 0,.b 1004 0]])]⟩ λx s=>x=(.t [])/\s.H=[(1000,.box (k0 r.1 r.2.1 r.2.2.1)),(1001,.box [vi r.2.2.2.1]),(1002,.box [.m 1003]),(1003,.mp false (cK (λp=>(p.1,cB p.2)) r.2.2.2.2)),(1004,.box [.c (.func 237) [] [.b 1000 0,.b 1001 0,.b 1002 0,.b 1004 0]])]:=by
 unfold I4 at h;refine acb (p:=λ(a:Int×Γ×Int×(List (Int×Bool)))(r:pW)=>Ω prog 237 [vi a.1,.b 1000 0,.b 1001 0,.b 1002 0,.b 1004 0] ⟨aR,[(1000,.box (b0 a.2.1)),(1001,.box [vi a.2.2.1]),(1002,.box [.m 1003]),(1003,.mp false (cK (λp=>(p.1,cB p.2)) a.2.2.2)),(1004,.box [.c (.func 237) [] [.b 1000 0,.b 1001 0,.b 1002 0,.b 1004 0]])]⟩ λx s=>x=(.t [])/\s.H=[(1000,.box (k0 r.1 r.2.1 r.2.2.1)),(1001,.box [vi r.2.2.2.1]),(1002,.box [.m 1003]),(1003,.mp false (cK (λp=>(p.1,cB p.2)) r.2.2.2.2)),(1004,.box [.c (.func 237) [] [.b 1000 0,.b 1001 0,.b 1002 0,.b 1004 0]])]) (λlx Si a r h=>?_) h;have⟨g,d,e,f⟩:=a;have IH:∀{g:Int}{d:Γ}{e:Int}{f:List (Int×Bool)}{r:pW},lx (g,d,e,f)=V r->Ω prog 237 [vi g,.b 1000 0,.b 1001 0,.b 1002 0,.b 1004 0] ⟨aR,[(1000,.box (b0 d)),(1001,.box [vi e]),(1002,.box [.m 1003]),(1003,.mp false (cK (λp=>(p.1,cB p.2)) f)),(1004,.box [.c (.func 237) [] [.b 1000 0,.b 1001 0,.b 1002 0,.b 1004 0]])]⟩ λx s=>x=(.t [])/\s.H=[(1000,.box (k0 r.1 r.2.1 r.2.2.1)),(1001,.box [vi r.2.2.2.1]),(1002,.box [.m 1003]),(1003,.mp false (cK (λp=>(p.1,cB p.2)) r.2.2.2.2)),(1004,.box [.c (.func 237) [] [.b 1000 0,.b 1001 0,.b 1002 0,.b 1004 0]])]:=λh=>Si _ _ h;clear Si;change sO lx g d e f=V r at h;show Ω prog 237 [vi g,.b 1000 0,.b 1001 0,.b 1002 0,.b 1004 0] ⟨aR,[(1000,.box (b0 d)),(1001,.box [vi e]),(1002,.box [.m 1003]),(1003,.mp false (cK (λp=>(p.1,cB p.2)) f)),(1004,.box [.c (.func 237) [] [.b 1000 0,.b 1001 0,.b 1002 0,.b 1004 0]])]⟩ λx s=>x=(.t [])/\s.H=[(1000,.box (k0 r.1 r.2.1 r.2.2.1)),(1001,.box [vi r.2.2.2.1]),(1002,.box [.m 1003]),(1003,.mp false (cK (λp=>(p.1,cB p.2)) r.2.2.2.2)),(1004,.box [.c (.func 237) [] [.b 1000 0,.b 1001 0,.b 1002 0,.b 1004 0]])];refine pg tok 41 func237 ?_;unfold sO at h;have⟨x1,Θ,h⟩:=ι h;refine sg ⟨_,rfl,Ω.call (zI Θ) lz ⟨_,rfl,sg ?_⟩⟩;have⟨aj,h⟩:=aq h
 refine⟨_,rfl,_,rfl,_,au _,λ_=>(ah ⟨aj,_,rfl,sg ⟨_,rfl,_,au _,λ_=>bl (Ok.loop (λ(s1:Int×pW)=>⟨Ψ [(3,.b 1002 0),(4,.b 1004 0),(22,.s (mC x1.1.ψ)),(23,vi (x1.1.ψ.length:Int)),(24,vi s1.1)],[(1002,.box [.m 1003]),(1003,.mp false (cK (λp=>(p.1,cB p.2)) s1.2.2.2.2.2)),(1004,.box [.c (.func 237) [] [.b 1000 0,.b 1001 0,.b 1002 0,.b 1004 0]]),(1000,.box (k0 s1.2.1 s1.2.2.1 s1.2.2.2.1)),(1001,.box [vi s1.2.2.2.2.1])]⟩) (yS x1 lx) (s0:=(0,d.η,d.Next,d.ai,e+(x1.1.aK.length:Int),f)) h (wt Q5 ⟨hr,hr,hr,hr,hr,Q0⟩ rfl) ?_)⟩⟩)⟩;intro s1 y1 ζ aB;unfold yS at ζ;refine sg (sq (ct ζ (λhb ζ=>?_) λhb ζ=>?_))
 .have⟨v1,ν,ζ⟩:=ι ζ;refine sk (Ok.aD ⟨Ψ [(3,.b 1002 0),(4,.b 1004 0),(22,.s (mC x1.1.ψ)),(23,vi (x1.1.ψ.length:Int)),(24,vi s1.1)],[(1002,.box [.m 1003]),(1003,.mp false (cK (λp=>(p.1,cB p.2)) v1.2.2.2.2)),(1004,.box [.c (.func 237) [] [.b 1000 0,.b 1001 0,.b 1002 0,.b 1004 0]]),(1000,.box (k0 v1.1 v1.2.1 v1.2.2.1)),(1001,.box [vi v1.2.2.2.1])]⟩ ?_ ?_)
  .have⟨x2,ar,ν⟩:=ι ν;have⟨x3,aL,ν⟩:=ι ν;refine bl (sg ⟨_,aO ar,_,aP ar,_,rfl,_,rfl,sg ⟨_,rfl,_,rfl,_,yI cB (z:=(false:Bool)) aL,ct ν (λhb ν=>?_) λhb ν=>?_⟩⟩)
   .have⟨aX,ν⟩:=aq ν;have⟨x4,aZ,ν⟩:=ι ν;refine sg ⟨_,rfl,_,rfl,aX.1,kO (Nat.le_of_eq (au _)) aX.2,_,kK cB x2.κ true s1.2.2.2.2.2,rg ⟨_,rfl,_,rfl,cg [(1000,1000),(1001,1001),(1002,1002),(1003,1003),(1004,1004)] [] (IH aZ) (n1 (.cons (Ln.b rfl) (.cons (Ln.b rfl) (.cons (Ln.b rfl) (.cons (Ln.b rfl) .nil))))) ⟨⟨1000,_,rfl,rfl,.box nq⟩,⟨1001,_,rfl,rfl,.box nq⟩,⟨1002,_,rfl,rfl,.box (.cons (Ln.mm rfl) .nil)⟩,⟨1003,_,rfl,rfl,.refl rfl⟩,⟨1004,_,rfl,rfl,.box (.cons (Ln.c .nil (.cons (Ln.b rfl) (.cons (Ln.b rfl) (.cons (Ln.b rfl) (.cons (Ln.b rfl) .nil))))) .nil)⟩,Q0⟩ ?_⟩⟩;cases ν;exact wt Q5 ⟨hr,J4⟩ rfl
   refine sk ?_;cases ν;exact wt Q5 ⟨hr,J4⟩ rfl
  have⟨bY,ζ⟩:=aq ζ;exact rg (ah ⟨bY,_,sj ζ,wt Q5 ⟨hr,J4⟩ rfl⟩)
 refine xt ?_;have ζ:=aT ζ aB;cases ζ;exact wt Q1 ⟨hr,J4⟩ rfl
end Go.Proofs
