/- The walks of this seat beside the plain programs, part 1. No condition. -/
import Derived.Test.YtdcgbodbejgliaaGreatDoorXTopUnseenHb
import Derived.Test.YtdcgbodbejgliaaGreatDoorXTopUnseenWk0
open List renaming length_map → ay, map → aU, map_append → fo, map_eq_nil_iff → C4
open Nat renaming lt_of_le_of_lt → gv
open Or renaming inl → θ
namespace Go.Proofs
set_option linter.all false
open Go Go.Cat Tryz
variable [M:bK]
set_option maxRecDepth 100000
set_option maxHeartbeats 4000000
def Qy {a r} (h:zU a=some r):i_ prog 231 [.s (mI a)] 44 6 (mI r):=by
 refine pv tok 8 func231 ?_;unfold zU at h;refine sg (sq (sg ?_));intro b1 cO;have h:=xO h b1 (fun e=>C4.1 (cO e));refine ct h (fun hb h=>?_) fun hb h=>?_
 ·refine sg (rt ?_);cases h;exact (.inl ⟨rfl,rfl⟩)
 refine sk (sg ?_);have ⟨aw,h⟩:=aG h;refine Or.inr ⟨g_ (f:=di) (n:=6) (fun _=>rfl) a,ix (f:=di) (l:=([]:List ξ)) (l':=a) aw,_,(fo (f:=di) (l₁:=([]:List ξ)) (l₂:=a)).symm,?_⟩;refine rt ?_;cases h;exact (.inr ⟨_,rfl,rfl⟩)
def Gq {d e r} (h:uW d e=some r):af prog 167 [.b 1000 0,.a (b4 d)] ⟨aF,[(1000,.box (b5 e))]⟩ fun x s=>x=(.t [])∧s.H=[(1000,.box [.o 19,vi r.1,vi r.2.1]),(19,.own 44 6 (mI r.2.2))]:=by
 refine pg tok 45 func167 ?_;unfold uW at h;refine sg (sg ?_);have ⟨x1,Ξ,h⟩:=κ h;refine ⟨_,rfl,?_⟩;refine af.ez (id:=1000) (KF Ξ) rfl (.box lz) rfl (.cons (Lr.b) (.cons (Lr.dG rfl) .nil)) ?_;rintro _ _ ⟨rfl,rfl⟩;refine sg ?_;have ⟨x2,au,h⟩:=κ h;refine ⟨_,rfl,?_⟩;refine af.own (D:=19) (Qy au) lz rfl ?_;refine ⟨_,rfl,?_⟩;refine sq (sg ?_);refine ct h (fun hb h=>?_) fun hb h=>?_
 ·refine sq (dw 8 tok mixed ?_);have ⟨x3,aL,h⟩:=κ h;refine ⟨_,rfl,_,rfl,_,rfl,_,rfl,_,⟨_,rfl,rfl⟩,_,rfl,_,⟨_,rfl,rfl⟩,_,⟨_,bz aL,wD aL,rfl⟩,Q0,_,bC aL,rfl,_,rfl,_,FB (f:=di) (x:=d),?_⟩;refine rt ?_;cases h;exact wt Q1 J2 rfl
 refine sk (Ok.nu (E:=bg) (chain:=[(9,[0,10,11,12]),(13,[])]) tok mixed (by kernel_rfl) ?_);have ⟨aw,h⟩:=aG h;refine ⟨_,rfl,_,rfl,_,rfl,_,rfl,_,rfl,_,⟨_,rfl,rfl⟩,_,rfl,_,⟨_,rfl,rfl⟩,_,rfl,_,rfl,_,rfl,_,rfl,?_⟩;refine θ (cg [(1000,19)] [(900,19)] (UX x2 x1.1.1 ([d]) aw) (.cons (Ln.o rfl) nq) ⟨⟨19,_,rfl,rfl,.refl rfl⟩,Q0⟩ ?_);refine ⟨⟨⟨_,rfl,rfl⟩,⟨_,rfl,rfl⟩,⟨_,rfl,rfl⟩,⟨_,rfl,rfl⟩,Q0⟩,θ (⟨_,rfl,Q0,?_⟩)⟩;cases h;exact wt Q1 J2 rfl
def KH {a r} (h:wW a=some r):i_ prog 190 [.s (mF a)] 138 3 (mF r):=by
 refine pv tok 8 func190 ?_;unfold wW at h;refine sg (sq (sg ?_));intro b1 cO;have h:=xO h b1 (fun e=>C4.1 (cO e));refine ct h (fun hb h=>?_) fun hb h=>?_
 ·refine sg (rt ?_);cases h;exact (.inl ⟨rfl,rfl⟩)
 refine sk (sg ?_);have ⟨aw,h⟩:=aG h;refine Or.inr ⟨g_ (f:=j5) (n:=3) (fun _=>rfl) a,ix (f:=j5) (l:=([]:List aN)) (l':=a) aw,_,(fo (f:=j5) (l₁:=([]:List aN)) (l₂:=a)).symm,?_⟩;refine rt ?_;cases h;exact (.inr ⟨_,rfl,rfl⟩)
def Qw {d e g i j k l r} (h:CI d e g i j k l=some r):af prog 167 [.b 1000 0,.a [vi d,vi e,vi g,.s (mU i),.o 1001,vi j]] ⟨aF,[(1000,.box (b5 k)),(1001,.own 138 3 (mF l))]⟩ fun x s=>x=(.t [])∧s.H=[(1000,.box [.o 19,vi r.1,vi r.2.1]),(19,.own 44 6 (mI r.2.2))]:=by
 refine pg tok 45 func167 ?_;unfold CI at h;refine sg (sg ?_);have ⟨x1,Ξ,h⟩:=κ h;refine ⟨_,rfl,?_⟩;refine af.ez (id:=1000) (KF Ξ) rfl (.box lz) rfl (.cons (Lr.b) (.cons (Lr.dG rfl) .nil)) ?_;rintro _ _ ⟨rfl,rfl⟩;refine sg ?_;have ⟨x2,au,h⟩:=κ h;refine ⟨_,rfl,?_⟩;refine af.own (D:=19) (Qy au) lz rfl ?_;refine ⟨_,rfl,?_⟩;refine sq (sg ?_);refine ct h (fun hb h=>?_) fun hb h=>?_
 ·refine sq (Ok.wk (Wk.freeze (id:=1001) rfl) ?_);refine dw 8 tok mixed ?_;have ⟨x3,aL,h⟩:=κ h;refine ⟨_,rfl,_,rfl,_,rfl,_,rfl,_,⟨_,rfl,rfl⟩,_,rfl,_,⟨_,rfl,rfl⟩,_,⟨_,bz aL,wD aL,rfl⟩,Q0,_,bC aL,rfl,_,rfl,_,FB (f:=di) (x:=(⟨d,e,g,i,l,j⟩:ξ)),?_⟩;refine rt ?_;cases h;exact wt Q1 J2 rfl
 refine sk (Ok.wk (Wk.freeze (id:=1001) rfl) ?_);refine Ok.nu (E:=bg) (chain:=[(9,[0,10,11,12]),(13,[])]) tok mixed (by kernel_rfl) ?_;have ⟨aw,h⟩:=aG h;refine ⟨_,rfl,_,rfl,_,rfl,_,rfl,_,rfl,_,⟨_,rfl,rfl⟩,_,rfl,_,⟨_,rfl,rfl⟩,_,rfl,_,rfl,_,rfl,_,rfl,?_⟩;refine θ (cg [(1000,19)] [(900,19)] (UX x2 x1.1.1 ([(⟨d,e,g,i,l,j⟩:ξ)]) aw) (.cons (Ln.o rfl) nq) ⟨⟨19,_,rfl,rfl,.refl rfl⟩,Q0⟩ ?_);refine ⟨⟨⟨_,rfl,rfl⟩,⟨_,rfl,rfl⟩,⟨_,rfl,rfl⟩,⟨_,rfl,rfl⟩,Q0⟩,θ (⟨_,rfl,Q0,?_⟩)⟩;cases h;exact wt Q1 J2 rfl
def YB {f d e g i j r} (h:Gi f d e g i j=some r):af prog 168 [.b 1000 0,vi f,vs d,vi e] ⟨aF,[(1000,.box [.o 1001,vi g,vi i]),(1001,.own 44 6 (mI j))]⟩ fun x s=>x=(.t [])∧s.H=[(1000,.box [.o 999,vi r.1,vi r.2.1]),(999,.own 44 6 (mI r.2.2))]:=by
 refine pg tok 51 func168 ?_;unfold Gi at h;refine sq (Ok.wk (Wk.freeze (id:=1001) rfl) ?_);refine rg ?_;have ⟨x1,Ξ,h⟩:=κ h;refine af.ez (id:=1000) (qt Ξ) rfl (.box lz) rfl (.cons (Lr.b) (.cons (Lr.dG rfl) .nil)) ?_;rintro _ _ ⟨rfl,rfl⟩;refine ⟨_,rfl,?_⟩;refine sg ?_;have ⟨x2,au,h⟩:=κ h;refine ⟨_,rfl,?_⟩;refine af.call (CR au) lz ?_;refine sq (Ok.nu (E:=bg) (chain:=[(2,[3,4,5,6,7,8,9,10,11,12,14]),(13,[14]),(15,[])]) tok mixed (by kernel_rfl) ?_);have ⟨x3,aL,h⟩:=κ h;refine ⟨_,rfl,_,⟨_,rfl,rfl⟩,_,rfl,_,rfl,_,rfl,_,rfl,_,rfl,_,rfl,_,rfl,_,⟨_,rfl,rfl⟩,_,rfl,_,rfl,_,rfl,?_⟩;refine θ (af.own (D:=26) (KH aL) lz rfl ?_);have ⟨aw,h⟩:=aG h;refine ⟨⟨⟨_,rfl,rfl⟩,⟨_,rfl,rfl⟩,⟨_,rfl,rfl⟩,⟨_,rfl,rfl⟩,⟨_,rfl,rfl⟩,⟨_,rfl,rfl⟩,⟨_,rfl,rfl⟩,⟨_,rfl,_,rfl,rfl⟩,⟨_,rfl,rfl⟩,⟨_,rfl,rfl⟩,⟨_,rfl,rfl⟩,Q0⟩,?_⟩;refine θ (cg [(1000,26)] [(900,26)] (UY x3 x2.1 ([(⟨d,e,x1.2.Tree.aj⟩:aN)]) aw) (.cons (Ln.o rfl) nq) ⟨⟨26,_,rfl,rfl,.refl rfl⟩,Q0⟩ ?_);refine ⟨⟨⟨_,rfl,rfl⟩,Q0⟩,θ (⟨_,rfl,Q0,?_⟩)⟩;refine sg ?_;have ⟨br,h⟩:=aG h;refine ⟨_,rfl,θ ⟨br,_,rfl,?_⟩⟩;refine rg ?_;have ⟨x4,bu,h⟩:=κ h;refine ⟨_,rfl,?_⟩;refine cg [(1000,1000),(1001,26)] [(19,999)] (Qw bu) (.cons (Ln.b rfl) (.cons (Ln.a (n4 (.cons (Ln.o rfl) nq))) .nil)) ⟨⟨1000,_,rfl,rfl,.box nq⟩,⟨26,_,rfl,rfl,.refl rfl⟩,Q0⟩ ?_;cases h;exact wt Q1 J2 rfl
def Yq {c e f d r} (h:Cw c e f d=some r):Pure prog 115 [.a (b0 c),vi e,vs f,vi d] (.t [.a (b0 r.1),vi r.2.1,vi r.2.2]):=by
 refine pq tok 83 func115 ?_;unfold Cw at h;refine sg (sq ?_);have ⟨v1,ν,h⟩:=κ h;refine Ok.bh ⟨ar [(1,vi e),(2,vs f),(3,vi d),(4,.b 4 0),(8,.b 8 0),(19,vb v1)],[(4,.box (b0 c)),(8,.box (k1 0 0))]⟩ ?_ ?_
 ·refine rg ?_;have ⟨c1,Δ,ν⟩:=κ ν;refine Br.ite Δ (fun hb Δ=>?_) fun hb Δ=>?_
  ·cases Δ;cases ν;exact wt Q6 J2 rfl
  cases Δ;cases ν;exact wt Q6 J2 rfl
 refine ct h (fun hb h=>?_) fun hb h=>?_
 ·refine sg ⟨_,rfl,_,rfl,?_⟩;refine rt ?_;cases h;exact ⟨_,rfl,Fz.t fq⟩
 refine sk (sg ?_);refine ⟨_,rfl,?_⟩;refine sq (sg ?_);have ⟨x1,Ξ,h⟩:=κ h;refine af.ez (id:=23) (Yx Ξ) rfl (.box lz) rfl (.cons (Lr.b) (.cons (Lr.dG rfl) (.cons (Lr.dG rfl) .nil))) ?_;rintro _ _ ⟨rfl,rfl⟩;refine sg (ct h (fun hb h=>?_) fun hb h=>?_)
 ·refine sg ⟨_,rfl,_,rfl,?_⟩;refine rt ?_;cases h;exact ⟨_,rfl,Fz.t fq⟩
 refine sk (sq ?_);have ⟨v2,ax,h⟩:=κ h;refine Ok.bh ⟨ar [(1,vi e),(2,vs f),(3,vi d),(4,.b 4 0),(8,.b 8 0),(11,.b 23 0),(46,vb v2)],[(4,.box (b0 c)),(8,.box (k1 0 0)),(23,.box (b5 x1.2))]⟩ ?_ ?_
 ·refine rg ⟨_,rfl,_,ay _,fun _=>?_⟩;have ⟨c2,aI,ax⟩:=κ ax;refine Br.dV aI (fun hb aI=>?_) fun hb aI=>?_
  ·cases aI;cases ax;exact wt Q7 J3 rfl
  refine ⟨_,rfl,?_⟩;cases aI;cases ax;exact wt Q7 J3 rfl
 refine ct h (fun hb h=>?_) fun hb h=>?_
 ·refine sg ⟨_,rfl,_,rfl,?_⟩;refine rt ?_;cases h;exact ⟨_,rfl,Fz.t fq⟩
 refine sk (sg ?_);refine ⟨_,rfl,_,rfl,?_⟩;have ⟨v3,eb,h⟩:=κ h;refine Ok.bh ⟨ar [(1,vi e),(2,vs f),(8,.b 8 0),(11,.b 23 0),(13,.b 13 0)],[(8,.box (k1 0 0)),(23,.box (b5 x1.2)),(13,.box (k9 x1.2.Tree.Next d 1 v3))]⟩ ?_ ?_
 ·refine sg (ct eb (fun hb eb=>?_) fun hb eb=>?_)
  ·refine rg ⟨_,rfl,?_⟩;cases eb;exact wt Q5 J3 rfl
  refine sk ?_;cases eb;exact wt Q5 J3 rfl
 refine sg ?_;have ⟨aw,h⟩:=aG h;refine ⟨_,rfl,θ ⟨aw,_,rfl,?_⟩⟩;refine sg ?_;have ⟨x2,au,h⟩:=κ h;refine ⟨_,rfl,?_⟩;refine cg [(1000,23)] [(19,999)] (Gq au) (.cons (Ln.b rfl) (.cons (Ln.a (n2 (n1 (.cons (Ln.nil) (.cons (Ln.nil) nq))))) .nil)) ⟨⟨23,_,rfl,rfl,.box nq⟩,Q0⟩ ?_;refine sg ?_;have ⟨x3,aL,h⟩:=κ h;refine ⟨_,rfl,?_⟩;refine cg [(1000,23),(1001,999)] [(999,999)] (YB aL) (.cons (Ln.b rfl) nq) ⟨⟨23,_,rfl,rfl,.box (.cons (Ln.o rfl) nq)⟩,⟨999,_,rfl,rfl,.refl rfl⟩,Q0⟩ ?_;refine sq (Ok.p4 (m:=6) (late:=[4,5]) (MD:=⟨[]⟩) (CH:=⟨[]⟩) tok mixed (by kernel_rfl) ?_);refine ⟨_,rfl,_,rfl,_,rfl,_,⟨_,rfl,rfl⟩,_,rfl,_,⟨_,rfl,rfl⟩,Q0,?_⟩;refine ⟨_,rfl,⟨⟨_,rfl,rfl⟩,⟨_,rfl,_,rfl,rfl⟩,Q0⟩,?_⟩;refine rt ?_;cases h;exact ⟨_,rfl,Fz.t (.cons (Fz.a (.cons (Fz.o rfl) fq)) fq)⟩
def Qn {c r} (h:wq c=some r):Pure prog 198 [.a (b4 c)] (vb r):=by
 refine pq tok 11 func198 ?_;unfold wq at h;refine sg ?_;have ⟨v1,ν,h⟩:=κ h;refine Ok.bh ⟨ar [(2,vb v1)],[]⟩ ?_ ?_
 ·refine rg ⟨_,rfl,?_⟩;have ⟨c1,Δ,ν⟩:=κ ν;refine Br.ite Δ (fun hb Δ=>?_) fun hb Δ=>?_
  ·refine ⟨_,rfl,?_⟩;cases Δ;cases ν;exact wt Q1 Q0 rfl
  cases Δ;cases ν;exact wt Q1 Q0 rfl
 refine rt ?_;cases h;exact Fz.v
def aj6 {c r} (h:Bn c=some r):i_ prog 169 [.a (b0 c)] 3 1 (mB r):=by
 refine pv tok 22 func169 ?_;unfold Bn at h;refine sg (sg ?_);have ⟨v1,ν,h⟩:=κ h;refine Ok.bh ⟨ar [(3,.o 19)],[(19,.own 3 1 (mB v1))]⟩ ?_ ?_
 ·refine sg ⟨_,rfl,_,ay _,fun _=>?_⟩;refine bl (Ok.loop (fun (s1:Int×(List Int))=>⟨ar [(3,.o 19),(7,.s (mI c.η)),(8,vi (c.η.length:Int)),(9,vi s1.1)],[(19,.own 3 1 (mB s1.2))]⟩) (Ix c) (s0:=(0,[])) ν ((Wk.BP (t:=3) (id:=19) (E:=3) (K:=1) rfl rfl).trans (wt Q4 ⟨⟨_,rfl,.refl _⟩,Q0⟩ rfl)) ?_);intro s1 y1 ζ aP;unfold Ix at ζ;refine sg (sq (ct ζ (fun hb ζ=>?_) fun hb ζ=>?_))
  ·refine sk ?_;have ⟨v2,ax,ζ⟩:=κ ζ;refine Ok.bh ⟨ar [(3,.o 19),(7,.s (mI c.η)),(8,vi (c.η.length:Int)),(9,vi s1.1)],[(19,.own 3 1 (mB v2))]⟩ ?_ ?_
   ·refine bl (sg ?_);have ⟨x1,Ξ,ax⟩:=κ ax;refine ⟨_,bz Ξ,_,bC Ξ,_,rfl,_,rfl,?_⟩;refine sg ?_;have ⟨x2,au,ax⟩:=κ ax;refine ⟨_,rfl,?_⟩;refine af.call (Qn au) lz ?_;refine ct ax (fun hb ax=>?_) fun hb ax=>?_
    ·refine rg ?_;have ⟨aw,ax⟩:=aG ax;refine ⟨_,rfl,θ ⟨g_ (f:=Go.Cat.encI) (n:=1) (fun _=>rfl) ([x1.ι]),ix (f:=Go.Cat.encI) (l:=s1.2) (l':=[x1.ι]) aw,_,(fo (f:=Go.Cat.encI) (l₁:=s1.2) (l₂:=[x1.ι])).symm,?_⟩⟩;cases ax;exact wt Q4 J1 rfl
    refine sk ?_;cases ax;exact wt Q4 J1 rfl
   refine rg ?_;have ⟨br,ζ⟩:=aG ζ;refine (θ ⟨br,?_⟩);exact ⟨_,sj ζ,wt Q4 J1 rfl⟩
  refine xt ?_;have ζ:=bx ζ aP;cases ζ;exact wt Q1 J1 rfl
 refine sg (rt ?_);cases h;exact (.inr ⟨_,rfl,rfl⟩)
def ait {b r} (h:Bn b=some r):Pure prog 169 [.a (b0 b)] (.s (mB r)):=(aj6 h).pure
def ain {c d r} (h:DT c d=some r):Pure prog 171 [.a (b7 c),.p [vi d]] (vb r):=by
 refine pq tok 8 func171 ?_;unfold DT at h;refine sg (sg ⟨_,rfl,_,rfl,?_⟩);refine rt ?_;cases h;exact Fz.v
def ajb {a b r} (h:PK a b=some r):Pure prog 201 [.s (mE a),.c (.func 171) [] [.p [vi b]]] (vi r):=by
 refine pq tok 19 func201 ?_;unfold PK at h;refine sg (Ok.eW (fun v1=>⟨ar [],[]⟩) (fun v1=>PM v1=some r) ?_ ?_)
 ·refine sg ⟨_,ay _,fun _=>?_⟩;refine bl (Ok.loop (fun (s1:Int)=>⟨ar [(0,.s (mE a)),(1,.c (.func 171) [] [.p [vi b]]),(7,vi (a.length:Int)),(8,vi s1)],[]⟩) (PL a b) (s0:=0) h (wt Q4 Q0 rfl) ?_);intro s1 y1 ζ aP;unfold PL at ζ;refine sg (sq (ct ζ (fun hb ζ=>?_) fun hb ζ=>?_))
  ·refine sk (sq (bl (sg ?_)));refine sg ?_;have ⟨x1,Ξ,ζ⟩:=κ ζ;have ⟨x2,au,ζ⟩:=κ ζ;refine ⟨_,bz Ξ,_,bC Ξ,_,rfl,?_⟩;refine af.call (ain au) lz ?_;refine ct ζ (fun hb ζ=>?_) fun hb ζ=>?_
   ·refine sg (rt ?_);have ζ:=bx ζ aP;cases ζ;exact Fz.v
   refine sk (rg ?_);have ⟨aw,ζ⟩:=aG ζ;refine (θ ⟨aw,?_⟩);exact ⟨_,sj ζ,wt Q4 Q0 rfl⟩
  refine xt ?_;have ζ:=bx ζ aP;exact ⟨_,ζ,wt Q0 Q0 rfl⟩
 intro v1 h;unfold PM at h;refine sg (rt ?_);cases h;exact Fz.v
def ai7 {a b r} (h:FT a b=some r):Pure prog 170 [.s (mE a),.c (.func 171) [] [.p [vi b]]] (vb r):=by
 refine pq tok 9 func170 ?_;unfold FT at h;refine sg (sg ?_);have ⟨x1,Ξ,h⟩:=κ h;refine af.call (ajb Ξ) lz ?_;refine rt ?_;cases h;exact Fz.v
def YA {d a r} (h:CF d a=some r):af prog 234 [.b 1000 0,vi d] ⟨aF,[(1000,.box (b5 a))]⟩ fun x s=>x=(.t [])∧s.H=[(1000,.box (k0 r.1 r.2.1 r.2.2))]:=by
 refine pg tok 27 func234 ?_;unfold CF at h;refine sg ?_;have ⟨x1,Ξ,h⟩:=κ h;refine af.ez (id:=1000) (KF Ξ) rfl (.box lz) rfl (.cons (Lr.b) (.cons (Lr.dG rfl) .nil)) ?_;rintro _ _ ⟨rfl,rfl⟩;refine sg (ct h (fun hb h=>?_) fun hb h=>?_)
 ·refine rg ?_;have ⟨x2,au,h⟩:=κ h;refine ⟨_,rfl,?_⟩;refine af.own (D:=19) (Qy au) lz rfl ?_;have ⟨aw,h⟩:=aG h;have ⟨br,h⟩:=aG h;refine (θ ⟨aw,?_⟩);refine cg [(1000,19)] [(900,19)] (ac5 x2 x1.1.1 (x1.1.1+1) br) (.cons (Ln.o rfl) nq) ⟨⟨19,_,rfl,rfl,.refl rfl⟩,Q0⟩ ?_;refine ⟨_,rfl,?_⟩;cases h;exact (Wk.freeze (id:=19) rfl).trans (wt Q1 ⟨⟨_,rfl,.refl _⟩,Q0⟩ rfl)
 refine sk ?_;cases h;exact wt Q1 J1 rfl
def Yr {c d r} (h:zX c d=some r):Pure prog 172 [.a (b0 c),vi d] (.t [.a (b0 r.1),vi r.2]):=by
 refine pq tok 39 func172 ?_;unfold zX at h;refine sg (sg ⟨_,rfl,?_⟩);refine sg ?_;have ⟨x1,Ξ,h⟩:=κ h;refine af.ez (id:=11) (qt Ξ) rfl (.box lz) rfl (.cons (Lr.b) (.cons (Lr.dG rfl) .nil)) ?_;rintro _ _ ⟨rfl,rfl⟩;refine ⟨_,rfl,?_⟩;refine sq (bl (sg ?_));refine ct h (fun hb h=>?_) fun hb h=>?_
 ·refine sg ⟨_,rfl,_,rfl,?_⟩;refine rt ?_;cases h;exact ⟨_,rfl,Fz.t fq⟩
 refine sg ⟨_,rfl,?_⟩;refine ct h (fun hb h=>?_) fun hb h=>?_
 ·refine sg ⟨_,rfl,_,rfl,?_⟩;refine rt ?_;cases h;exact ⟨_,rfl,Fz.t fq⟩
 refine sg ⟨_,rfl,?_⟩;refine ct h (fun hb h=>?_) fun hb h=>?_
 ·refine sg ⟨_,rfl,_,rfl,?_⟩;refine rt ?_;cases h;exact ⟨_,rfl,Fz.t fq⟩
 refine sk (sg ?_);have ⟨x2,au,h⟩:=κ h;refine cg [(1000,11)] [] (YA au) (.cons (Ln.b rfl) nq) ⟨⟨11,_,rfl,rfl,.box nq⟩,Q0⟩ ?_;refine sg ⟨_,rfl,_,rfl,?_⟩;refine rt ?_;cases h;exact ⟨_,rfl,Fz.t fq⟩
def KI {a r} (h:zV a=some r):i_ prog 174 [.s (mD a)] 86 3 (mD r):=by
 refine pv tok 8 func174 ?_;unfold zV at h;refine sg (sq (sg ?_));intro b1 cO;have h:=xO h b1 (fun e=>C4.1 (cO e));refine ct h (fun hb h=>?_) fun hb h=>?_
 ·refine sg (rt ?_);cases h;exact (.inl ⟨rfl,rfl⟩)
 refine sk (sg ?_);have ⟨aw,h⟩:=aG h;refine Or.inr ⟨g_ (f:=mL) (n:=3) (fun _=>rfl) a,ix (f:=mL) (l:=([]:List aA)) (l':=a) aw,_,(fo (f:=mL) (l₁:=([]:List aA)) (l₂:=a)).symm,?_⟩;refine rt ?_;cases h;exact (.inr ⟨_,rfl,rfl⟩)
def aio {c d e f r} (h:Mi c d e f=some r):Pure prog 175 [.a (b8 c),.p (k0 d e f)] (vb r):=by
 refine pq tok 15 func175 ?_;unfold Mi at h;refine sg (sg ?_);have ⟨x1,Ξ,h⟩:=κ h;refine ⟨_,rfl,_,rfl,?_⟩;refine af.call (rO Ξ) lz ?_;refine ⟨_,rfl,?_⟩;refine sg (rt ?_);cases h;exact Fz.v
def ajd {b a r} (h:PT b a=some r):Pure prog 235 [.s (mD b),.c (.func 175) [] [.p (b0 a)]] (vi r):=by
 refine pq tok 19 func235 ?_;unfold PT at h;refine sg (Ok.eW (fun v1=>⟨ar [],[]⟩) (fun v1=>PV v1=some r) ?_ ?_)
 ·refine sg ⟨_,ay _,fun _=>?_⟩;refine bl (Ok.loop (fun (s1:Int)=>⟨ar [(0,.s (mD b)),(1,.c (.func 175) [] [.p (b0 a)]),(7,vi (b.length:Int)),(8,vi s1)],[]⟩) (PU b a) (s0:=0) h (wt Q4 Q0 rfl) ?_);intro s1 y1 ζ aP;unfold PU at ζ;refine sg (sq (ct ζ (fun hb ζ=>?_) fun hb ζ=>?_))
  ·refine sk (sq (bl (sg ?_)));refine sg ?_;have ⟨x1,Ξ,ζ⟩:=κ ζ;have ⟨x2,au,ζ⟩:=κ ζ;refine ⟨_,bz Ξ,_,bC Ξ,_,rfl,?_⟩;refine af.call (aio au) lz ?_;refine ct ζ (fun hb ζ=>?_) fun hb ζ=>?_
   ·refine sg (rt ?_);have ζ:=bx ζ aP;cases ζ;exact Fz.v
   refine sk (rg ?_);have ⟨aw,ζ⟩:=aG ζ;refine (θ ⟨aw,?_⟩);exact ⟨_,sj ζ,wt Q4 Q0 rfl⟩
  refine xt ?_;have ζ:=bx ζ aP;exact ⟨_,ζ,wt Q0 Q0 rfl⟩
 intro v1 h;unfold PV at h;refine sg (rt ?_);cases h;exact Fz.v
def aip {c d r} (h:DU c d=some r):Pure prog 175 [.a (b8 c),.p (b0 d)] (vb r):=by
 refine pq tok 15 func175 ?_;unfold DU at h;refine sg (sg ?_);have ⟨x1,Ξ,h⟩:=κ h;refine ⟨_,rfl,_,rfl,?_⟩;refine af.call (rO Ξ) lz ?_;refine ⟨_,rfl,?_⟩;refine sg (rt ?_);cases h;exact Fz.v
def ajZ {g e r} (h:J' g e=some r):af prog 173 [.o 1000,.c (.func 175) [] [.b 1001 0]] ⟨aF,[(1000,.own 86 3 (mD g)),(1001,.box (b0 e))]⟩ fun x s=>x=(.o 999)∧s.H=[(999,.own 86 3 (mD r)),(1001,.box (b0 e))]:=by
 refine pg tok 42 func173 ?_;unfold J' at h;refine sg (sg ?_);have ⟨x1,Ξ,h⟩:=κ h;refine af.borrow (ajd Ξ) (.cons (Fz.o rfl) (.cons (Fz.c .nil (.cons (Fz.b rfl rfl) .nil)) .nil)) rfl ?_;refine sq (sg ?_);refine ct h (fun hb h=>?_) fun hb h=>?_
 ·refine sg (rt ?_);cases h;exact (Wk.mv (i:=1000) (d:=999) rfl rfl rfl).trans (wt Q1 ⟨⟨_,rfl,.refl _⟩,⟨_,rfl,.refl _⟩,Q0⟩ rfl)
 refine sk ?_;have ⟨v1,ν,h⟩:=κ h;refine Ok.bh ⟨ar [(0,.o 1000),(5,vi v1.1)],[(1000,.own 86 3 (mD v1.2)),(1001,.box (b0 e))]⟩ ?_ ?_
 ·refine sg ?_;have ⟨aw,ν⟩:=aG ν;refine (θ ⟨aw,?_⟩);refine bl (Ok.loop (fun (s1:Int×Int×(List aA))=>⟨ar [(0,.o 1000),(1,.c (.func 175) [] [.b 1001 0]),(5,vi s1.1),(6,vi s1.2.1)],[(1000,.own 86 3 (mD s1.2.2)),(1001,.box (b0 e))]⟩) (PB e) (s0:=(x1,x1+1,g)) ν (wt Q4 ⟨⟨_,rfl,.refl _⟩,⟨_,rfl,.refl _⟩,Q0⟩ rfl) ?_);intro s1 y1 ζ aP;unfold PB at ζ;refine sq (sg ?_);refine ⟨_,ay _,fun _=>?_⟩;refine ct ζ (fun hb ζ=>?_) fun hb ζ=>?_
  ·refine sk ?_;have ⟨v2,ax,ζ⟩:=κ ζ;refine Ok.bh ⟨ar [(0,.o 1000),(1,.c (.func 175) [] [.b 1001 0]),(5,vi v2.1),(6,vi s1.2.1)],[(1000,.own 86 3 (mD v2.2)),(1001,.box (b0 e))]⟩ ?_ ?_
   ·refine bl (sg ?_);have ⟨x2,au,ax⟩:=κ ax;refine ⟨_,bz au,wD au,_,bC au,rfl,_,rfl,_,rfl,?_⟩;refine sg ?_;have ⟨x3,aL,ax⟩:=κ ax;refine ⟨_,rfl,?_⟩;refine af.borrow (aip aL) (.cons (Fz.a fq) (.cons (Fz.b rfl rfl) .nil)) rfl ?_;refine ct ax (fun hb ax=>?_) fun hb ax=>?_
    ·refine sg ?_;have ⟨x4,bu,ax⟩:=κ ax;refine ⟨_,rfl,_,bz bu,wD bu,_,bC bu,rfl,_,rfl,_,FB (f:=mL) (x:=x2),?_⟩;refine rg ?_;have ⟨br,ax⟩:=aG ax;refine (θ ⟨br,?_⟩);cases ax;exact wt Q4 J2 rfl
    refine sk ?_;cases ax;exact wt Q4 J2 rfl
   refine rg ?_;have ⟨eo,ζ⟩:=aG ζ;refine (θ ⟨eo,?_⟩);exact ⟨_,sj ζ,wt Q4 J2 rfl⟩
  refine xt ?_;have ζ:=bx ζ aP;cases ζ;exact wt Q2 J2 rfl
 refine sg ?_;have ⟨kL,h⟩:=aG h;refine ⟨_,kZ kL.1,FO kL,_,R4 (f:=mL) (z:=((⟨0,0,0⟩:aA):aA)) v1.2 (v1.1.toNat),?_⟩;refine sq (Ok.wk (Wk.mv (i:=1000) (d:=999) rfl rfl rfl) ?_);refine rg ?_;have ⟨p_,h⟩:=aG h;refine ⟨_,kZ p_.1,FO p_,_,(List.map_take (f:=mL)).symm,?_⟩;refine rt ?_;cases h;exact wt Q1 J2 rfl
def Yh {c d r} (h:zH c d=some r):Pure prog 258 [.a (b8 c),vi d] (vi r):=by
 refine pq tok 9 func258 ?_;unfold zH at h;refine sg (sg ?_);have ⟨x1,Ξ,h⟩:=κ h;refine ⟨_,rfl,?_⟩;refine af.call (Ab Ξ) lz ?_;refine rt ?_;cases h;exact Fz.v
def ai6 {a b r} (h:Py a b=some r):Pure prog 257 [.s (mD a),vi b,.c (.func 258) [] []] (.t [vi r.1,vb r.2]):=by
 refine pq tok 49 func257 ?_;unfold Py at h;refine sg (sg ⟨_,ay _,fun _=>?_⟩);refine sg ?_;have ⟨v1,ν,h⟩:=κ h;refine Ok.bh ⟨ar [(0,.s (mD a)),(1,vi b),(2,.c (.func 258) [] []),(8,vi (a.length:Int)),(9,vi v1)],[]⟩ ?_ ?_
 ·refine bl (Ok.loop (fun (s1:Int×Int)=>⟨ar [(0,.s (mD a)),(1,vi b),(2,.c (.func 258) [] []),(8,vi (a.length:Int)),(9,vi s1.1),(10,vi s1.2)],[]⟩) (Pz a b) (s0:=(0,(a.length:Int))) ν (wt Q6 Q0 rfl) ?_);intro s1 y1 ζ aP;unfold Pz at ζ;refine sq (sg ?_);refine ct ζ (fun hb ζ=>?_) fun hb ζ=>?_
  ·refine sk (bl (sg ?_));have ⟨aw,ζ⟩:=aG ζ;refine (θ ⟨aw,_,rfl,(by decide),_,rfl,_,rfl,?_⟩);refine sg ?_;have ⟨x1,Ξ,ζ⟩:=κ ζ;have ⟨x2,au,ζ⟩:=κ ζ;refine ⟨_,bz Ξ,_,bC Ξ,_,rfl,?_⟩;refine af.call (Yh au) lz ?_;refine ct ζ (fun hb ζ=>?_) fun hb ζ=>?_
   ·refine rg ?_;have ⟨br,ζ⟩:=aG ζ;refine (θ ⟨br,?_⟩);exact ⟨_,sj ζ,wt Q6 Q0 rfl⟩
   refine rg ?_;exact ⟨_,sj ζ,wt Q6 Q0 rfl⟩
  refine xt ?_;have ζ:=bx ζ aP;cases ζ;exact wt Q5 Q0 rfl
 have ⟨v2,ax,h⟩:=κ h;refine Ok.bh ⟨ar [(6,vi v1),(7,vb v2)],[]⟩ ?_ ?_
 ·refine rg ?_;have ⟨c1,Δ,ax⟩:=κ ax;refine Br.ite Δ (fun hb Δ=>?_) fun hb Δ=>?_
  ·have ⟨x3,aL,Δ⟩:=κ Δ;have ⟨x4,bu,Δ⟩:=κ Δ;refine ⟨_,bz aL,_,bC aL,_,rfl,?_⟩;refine af.call (Yh bu) lz ?_;cases Δ;cases ax;exact wt Q2 Q0 rfl
  cases Δ;cases ax;exact wt Q2 Q0 rfl
 refine rt ?_;cases h;exact (Fz.t fq)
def Yg {a b r} (h:B2 a b=some r):Pure prog 211 [.s (mD a),vi b] (.t [vi r.1,vb r.2]):=by
 refine pq tok 11 func211 ?_;unfold B2 at h;refine sg (sg ?_);have ⟨x1,Ξ,h⟩:=κ h;refine af.call (ai6 Ξ) lz ?_;refine rt ?_;cases h;exact (Fz.t fq)
def ajR {d a e r} (h:B0 d a e=some r):af prog 277 [vi d,.b 1000 0,.b 1001 0] ⟨aF,[(1000,.box [.s (mD a)]),(1001,.box [vi e])]⟩ fun x s=>x=(vb r.1)∧s.H=[(1000,.box [.s (mD a)]),(1001,.box [vi r.2])]:=by
 refine pg tok 17 func277 ?_;unfold B0 at h;refine sg ?_;have ⟨v1,ν,h⟩:=κ h;refine Ok.bh ⟨ar [(2,.b 1001 0)],[(1001,.box [vi v1]),(1000,.box [.s (mD a)])]⟩ ?_ ?_
 ·refine sg ?_;have ⟨x1,Ξ,ν⟩:=κ ν;refine ⟨_,rfl,?_⟩;refine af.call (Yg Ξ) lz ?_;refine sg (ct ν (fun hb ν=>?_) fun hb ν=>?_)
  ·refine rg ⟨_,rfl,?_⟩;cases ν;exact wt Q1 J2 rfl
  refine sk ?_;cases ν;exact wt Q1 J2 rfl
 refine sg ⟨_,rfl,?_⟩;refine rt ?_;cases h;exact wt Q1 J2 rfl
def ajT {d f e g r} (h:JB d f e g=some r):af prog 276 [.a (b0 d),vi f,.c (.func 277) [] [.b 1000 0,.b 1001 0]] ⟨aF,[(1000,.box [.s (mD e)]),(1001,.box [vi g])]⟩ fun x s=>x=(.t [])∧s.H=[(1000,.box [.s (mD e)]),(1001,.box [vi r])]:=by
 refine pg tok 23 func276 ?_;unfold JB at h;refine sg (bl (Ok.loop (fun (s1:Int×Int)=>⟨ar [(1,vi s1.1),(2,.c (.func 277) [] [.b 1000 0,.b 1001 0]),(3,.b 3 0)],[(1000,.box [.s (mD e)]),(1001,.box [vi s1.2]),(3,.box (b0 d))]⟩) (zI e d) (s0:=(f,g)) h (wt Q3 ⟨⟨_,rfl,.refl _⟩,⟨_,rfl,.refl _⟩,⟨_,rfl,.refl _⟩,Q0⟩ rfl) ?_));intro s1 y1 ζ aP;unfold zI at ζ;refine sq ?_;have ⟨v1,ν,ζ⟩:=κ ζ;refine Ok.bh ⟨ar [(1,vi s1.1),(2,.c (.func 277) [] [.b 1000 0,.b 1001 0]),(3,.b 3 0),(14,vb v1.1)],[(1000,.box [.s (mD e)]),(1001,.box [vi v1.2]),(3,.box (b0 d))]⟩ ?_ ?_
 ·refine rg ?_;have ⟨x1,Ξ,ν⟩:=κ ν;refine cg [(1000,1000),(1001,1001)] [] (ajR Ξ) (n1 (.cons (Ln.b rfl) (.cons (Ln.b rfl) .nil))) ⟨⟨1000,_,rfl,rfl,.box nq⟩,⟨1001,_,rfl,rfl,.box nq⟩,Q0⟩ ?_;have ⟨c1,Δ,ν⟩:=κ ν;refine Br.ite Δ (fun hb Δ=>?_) fun hb Δ=>?_
  ·cases Δ;cases ν;exact wt Q4 J3 rfl
  cases Δ;cases ν;exact wt Q4 J3 rfl
 refine ct ζ (fun hb ζ=>?_) fun hb ζ=>?_
 ·refine sk (bl (sg ?_));have ⟨x2,au,ζ⟩:=κ ζ;refine ⟨_,rfl,?_⟩;refine af.call (rO au) lz ?_;refine ⟨_,rfl,?_⟩;refine rg ⟨_,rfl,?_⟩;exact ⟨_,sj ζ,wt Q3 J3 rfl⟩
 refine xt ?_;have ζ:=bx ζ aP;cases ζ;exact wt Q1 J2 rfl
def aiM {d e f r} (h:BZ d e f=some r):Pure prog 236 [.a (b0 d),.s (mD e),vi f] (vi r):=by
 refine pq tok 13 func236 ?_;unfold BZ at h;refine sg (sg ⟨_,rfl,?_⟩);refine sg ?_;have ⟨x1,Ξ,h⟩:=κ h;refine ⟨_,rfl,?_⟩;refine cg [(1000,4),(1001,7)] [] (ajT Ξ) (n2 (.cons (Ln.c .nil (.cons (Ln.b rfl) (.cons (Ln.b rfl) .nil))) .nil)) ⟨⟨4,_,rfl,rfl,.box nq⟩,⟨7,_,rfl,rfl,.box nq⟩,Q0⟩ ?_;refine sg ⟨_,rfl,?_⟩;refine rt ?_;cases h;exact Fz.v
def ail {c d r} (h:yh c d=some r):Pure prog 177 [.a (b0 c),.s (mD d)] (vb r):=by
 refine pq tok 70 func177 ?_;unfold yh at h;refine sg (sg (Ok.eW (fun v1=>⟨ar [],[]⟩) (fun v1=>HO v1=some r) ?_ ?_))
 ·refine sg ⟨_,rfl,_,ay _,fun _=>?_⟩;refine bl (Ok.loop (fun (s1:Int×(List (Int×Int)))=>⟨ar [(1,.s (mD d)),(2,.b 2 0),(5,.m 15),(17,.s (mI c.η)),(18,vi (c.η.length:Int)),(19,vi s1.1)],[(2,.box (b0 c)),(15,.mp false (aU (fun p=>(p.1,Go.Cat.encI p.2)) s1.2))]⟩) (HM c d) (s0:=(0,([]:List (Int×Int)))) h (wt Q6 ⟨⟨_,rfl,.refl _⟩,⟨_,rfl,.refl _⟩,Q0⟩ rfl) ?_);intro s1 y1 ζ aP;unfold HM at ζ;refine sg (sq (ct ζ (fun hb ζ=>?_) fun hb ζ=>?_))
  ·refine sk (Ok.eW (fun v2=>⟨ar [(1,.s (mD d)),(2,.b 2 0),(5,.m 15),(17,.s (mI c.η)),(18,vi (c.η.length:Int)),(19,vi s1.1)],[(2,.box (b0 c)),(15,.mp false (aU (fun p=>(p.1,Go.Cat.encI p.2)) v2))]⟩) (fun v2=>AS s1 v2=some y1) ?_ ?_)
   ·refine bl (sg ?_);have ⟨x1,Ξ,ζ⟩:=κ ζ;refine ⟨_,bz Ξ,_,bC Ξ,_,rfl,_,rfl,?_⟩;refine sq (sg ?_);refine ⟨_,rfl,_,ay _,fun _=>?_⟩;refine ct ζ (fun hb ζ=>?_) fun hb ζ=>?_
    ·refine xt ?_;exact ⟨_,ζ,wt Q6 ⟨⟨_,rfl,.refl _⟩,⟨_,rfl,.refl _⟩,Q0⟩ rfl⟩
    refine sk (sg ?_);have ⟨x2,au,ζ⟩:=κ ζ;refine ⟨_,rfl,_,rfl,?_⟩;refine af.call (aiM au) lz ?_;refine sg ⟨_,rfl,_,ay _,fun _=>?_⟩;refine bl (Ok.loop (fun (s2:Int×(List (Int×Int)))=>⟨ar [(1,.s (mD d)),(2,.b 2 0),(5,.m 15),(8,vi x2),(17,.s (mI c.η)),(18,vi (c.η.length:Int)),(19,vi s1.1),(33,.s (mF x1.Ψ)),(34,vi (x1.Ψ.length:Int)),(35,vi s2.1)],[(2,.box (b0 c)),(15,.mp false (aU (fun p=>(p.1,Go.Cat.encI p.2)) s2.2))]⟩) (HN x1 c x2 s1) (s0:=(0,s1.2)) ζ (wt ⟨lr,lr,Q8⟩ ⟨⟨_,rfl,.refl _⟩,⟨_,rfl,.refl _⟩,Q0⟩ rfl) ?_);intro s2 y2 aD gX;unfold HN at aD;refine sg (sq (ct aD (fun hb aD=>?_) fun hb aD=>?_))
    ·refine sk (sq (bl (sg ?_)));have ⟨x3,aL,aD⟩:=κ aD;refine ⟨_,bz aL,_,bC aL,_,rfl,_,rfl,?_⟩;refine sg ?_;have ⟨x4,bu,aD⟩:=κ aD;refine ⟨_,rfl,_,rfl,?_⟩;refine af.call (rO bu) lz ?_;refine ⟨_,rfl,?_⟩;refine sg ?_;have ⟨x5,dA,aD⟩:=κ aD;refine ⟨_,rfl,_,pF Go.Cat.encI (z:=(0:Int)) dA,_,sX Go.Cat.encI x3.ι s2.2,?_⟩;refine sq ?_;have ⟨v3,eb,aD⟩:=κ aD;refine Ok.bh ⟨ar [(1,.s (mD d)),(2,.b 2 0),(5,.m 15),(8,vi x2),(10,.b 10 0),(17,.s (mI c.η)),(18,vi (c.η.length:Int)),(19,vi s1.1),(33,.s (mF x1.Ψ)),(34,vi (x1.Ψ.length:Int)),(35,vi s2.1),(63,vb v3)],[(2,.box (b0 c)),(15,.mp false (aU (fun p=>(p.1,Go.Cat.encI p.2)) s2.2)),(10,.box (b6 x3))]⟩ ?_ ?_
     ·refine rg ⟨_,rfl,?_⟩;have ⟨c1,Δ,eb⟩:=κ eb;refine Br.ite Δ (fun hb Δ=>?_) fun hb Δ=>?_
      ·cases Δ;have ⟨c2,aI,eb⟩:=κ eb;refine Br.ite aI (fun hb aI=>?_) fun hb aI=>?_
       ·cases aI;cases eb;exact wt ⟨lr,lr,lr,lr,Q8⟩ J3 rfl
       cases aI;cases eb;exact wt ⟨lr,lr,lr,lr,Q8⟩ J3 rfl
      cases Δ;have ⟨c2,aX,eb⟩:=κ eb;replace aX:=ed aX;cases aX;cases eb;exact wt ⟨lr,lr,lr,lr,Q8⟩ J3 rfl
     refine ct aD (fun hb aD=>?_) fun hb aD=>?_
     ·refine sg (rt ?_);have aD:=bx aD gX;have aD:=bx aD aP;cases aD;exact Fz.v
     refine sk (rg ?_);have ⟨aw,aD⟩:=aG aD;refine ⟨_,rfl,aw.1,gv (Nat.le_of_eq (ay _)) aw.2,_,iG Go.Cat.encI x3.ι x2 s2.2,?_⟩;refine rg ?_;have ⟨br,aD⟩:=aG aD;refine (θ ⟨br,?_⟩);exact ⟨_,sj aD,wt ⟨lr,lr,Q8⟩ J2 rfl⟩
    refine xt ?_;have aD:=bx aD gX;exact ⟨_,aD,wt Q6 ⟨⟨_,rfl,.refl _⟩,⟨_,rfl,.refl _⟩,Q0⟩ rfl⟩
   intro v2 ζ;unfold AS at ζ;refine rg ?_;have ⟨eo,ζ⟩:=aG ζ;refine (θ ⟨eo,?_⟩);exact ⟨_,sj ζ,wt Q6 J2 rfl⟩
  refine xt ?_;have ζ:=bx ζ aP;exact ⟨_,ζ,wt Q0 Q0 rfl⟩
 intro v1 h;unfold HO at h;refine sg (rt ?_);cases h;exact Fz.v
def ajS {g d e f r} (h:JA g d e f=some r):af prog 237 [vi g,.b 1000 0,.b 1001 0,.b 1002 0,.b 1004 0] ⟨aF,[(1000,.box (b0 d)),(1001,.box [vi e]),(1002,.box [.m 1003]),(1003,.mp false (aU (fun p=>(p.1,cB p.2)) f)),(1004,.box [.c (.func 237) [] [.b 1000 0,.b 1001 0,.b 1002 0,.b 1004 0]])]⟩ fun x s=>x=(.t [])∧s.H=[(1000,.box (k0 r.1 r.2.1 r.2.2.1)),(1001,.box [vi r.2.2.2.1]),(1002,.box [.m 1003]),(1003,.mp false (aU (fun p=>(p.1,cB p.2)) r.2.2.2.2)),(1004,.box [.c (.func 237) [] [.b 1000 0,.b 1001 0,.b 1002 0,.b 1004 0]])]:=by
 unfold JA at h;refine SN (p:=fun (a:Int×ψ×Int×(List (Int×Bool))) (r:pL)=>af prog 237 [vi a.1,.b 1000 0,.b 1001 0,.b 1002 0,.b 1004 0] ⟨aF,[(1000,.box (b0 a.2.1)),(1001,.box [vi a.2.2.1]),(1002,.box [.m 1003]),(1003,.mp false (aU (fun p=>(p.1,cB p.2)) a.2.2.2)),(1004,.box [.c (.func 237) [] [.b 1000 0,.b 1001 0,.b 1002 0,.b 1004 0]])]⟩ fun x s=>x=(.t [])∧s.H=[(1000,.box (k0 r.1 r.2.1 r.2.2.1)),(1001,.box [vi r.2.2.2.1]),(1002,.box [.m 1003]),(1003,.mp false (aU (fun p=>(p.1,cB p.2)) r.2.2.2.2)),(1004,.box [.c (.func 237) [] [.b 1000 0,.b 1001 0,.b 1002 0,.b 1004 0]])]) (fun eS Dd a r h=>?_) h;have ⟨g,d,e,f⟩:=a;have IH:∀{g:Int} {d:ψ} {e:Int} {f:List (Int×Bool)} {r:pL},eS (g,d,e,f)=some r→af prog 237 [vi g,.b 1000 0,.b 1001 0,.b 1002 0,.b 1004 0] ⟨aF,[(1000,.box (b0 d)),(1001,.box [vi e]),(1002,.box [.m 1003]),(1003,.mp false (aU (fun p=>(p.1,cB p.2)) f)),(1004,.box [.c (.func 237) [] [.b 1000 0,.b 1001 0,.b 1002 0,.b 1004 0]])]⟩ fun x s=>x=(.t [])∧s.H=[(1000,.box (k0 r.1 r.2.1 r.2.2.1)),(1001,.box [vi r.2.2.2.1]),(1002,.box [.m 1003]),(1003,.mp false (aU (fun p=>(p.1,cB p.2)) r.2.2.2.2)),(1004,.box [.c (.func 237) [] [.b 1000 0,.b 1001 0,.b 1002 0,.b 1004 0]])]:=fun h=>Dd _ _ h;clear Dd;change th eS g d e f=some r at h;show af prog 237 [vi g,.b 1000 0,.b 1001 0,.b 1002 0,.b 1004 0] ⟨aF,[(1000,.box (b0 d)),(1001,.box [vi e]),(1002,.box [.m 1003]),(1003,.mp false (aU (fun p=>(p.1,cB p.2)) f)),(1004,.box [.c (.func 237) [] [.b 1000 0,.b 1001 0,.b 1002 0,.b 1004 0]])]⟩ fun x s=>x=(.t [])∧s.H=[(1000,.box (k0 r.1 r.2.1 r.2.2.1)),(1001,.box [vi r.2.2.2.1]),(1002,.box [.m 1003]),(1003,.mp false (aU (fun p=>(p.1,cB p.2)) r.2.2.2.2)),(1004,.box [.c (.func 237) [] [.b 1000 0,.b 1001 0,.b 1002 0,.b 1004 0]])];refine pg tok 41 func237 ?_;unfold th at h;refine sg ?_;have ⟨x1,Ξ,h⟩:=κ h;refine ⟨_,rfl,?_⟩;refine af.call (rO Ξ) lz ?_;refine ⟨_,rfl,?_⟩;refine sg ?_;have ⟨aw,h⟩:=aG h
 refine ⟨_,rfl,_,rfl,_,ay _,fun _=>(θ ⟨aw,_,rfl,?_⟩)⟩;refine sg ⟨_,rfl,_,ay _,fun _=>?_⟩;refine bl (Ok.loop (fun (s1:Int×pL)=>⟨ar [(3,.b 1002 0),(4,.b 1004 0),(22,.s (mF x1.1.Ψ)),(23,vi (x1.1.Ψ.length:Int)),(24,vi s1.1)],[(1002,.box [.m 1003]),(1003,.mp false (aU (fun p=>(p.1,cB p.2)) s1.2.2.2.2.2)),(1004,.box [.c (.func 237) [] [.b 1000 0,.b 1001 0,.b 1002 0,.b 1004 0]]),(1000,.box (k0 s1.2.1 s1.2.2.1 s1.2.2.2.1)),(1001,.box [vi s1.2.2.2.2.1])]⟩) (zG x1 eS) (s0:=(0,d.η,d.Next,d.aj,e+(x1.1.aC.length:Int),f)) h (wt Q5 ⟨⟨_,rfl,.refl _⟩,⟨_,rfl,.refl _⟩,⟨_,rfl,.refl _⟩,⟨_,rfl,.refl _⟩,⟨_,rfl,.refl _⟩,Q0⟩ rfl) ?_);intro s1 y1 ζ aP;unfold zG at ζ;refine sg (sq (ct ζ (fun hb ζ=>?_) fun hb ζ=>?_))
 ·refine sk ?_;have ⟨v1,ν,ζ⟩:=κ ζ;refine Ok.bh ⟨ar [(3,.b 1002 0),(4,.b 1004 0),(22,.s (mF x1.1.Ψ)),(23,vi (x1.1.Ψ.length:Int)),(24,vi s1.1)],[(1002,.box [.m 1003]),(1003,.mp false (aU (fun p=>(p.1,cB p.2)) v1.2.2.2.2)),(1004,.box [.c (.func 237) [] [.b 1000 0,.b 1001 0,.b 1002 0,.b 1004 0]]),(1000,.box (k0 v1.1 v1.2.1 v1.2.2.1)),(1001,.box [vi v1.2.2.2.1])]⟩ ?_ ?_
  ·refine bl (sg ?_);have ⟨x2,au,ν⟩:=κ ν;refine ⟨_,bz au,_,bC au,_,rfl,_,rfl,?_⟩;refine sg ?_;have ⟨x3,aL,ν⟩:=κ ν;refine ⟨_,rfl,_,rfl,_,pF cB (z:=(false:Bool)) aL,?_⟩;refine ct ν (fun hb ν=>?_) fun hb ν=>?_
   ·refine sg ?_;have ⟨br,ν⟩:=aG ν;refine ⟨_,rfl,_,rfl,br.1,gv (Nat.le_of_eq (ay _)) br.2,_,iG cB x2.ι true s1.2.2.2.2.2,?_⟩;refine rg ?_;have ⟨x4,bu,ν⟩:=κ ν;refine ⟨_,rfl,_,rfl,?_⟩;refine cg [(1000,1000),(1001,1001),(1002,1002),(1003,1003),(1004,1004)] [] (IH bu) (n1 (.cons (Ln.b rfl) (.cons (Ln.b rfl) (.cons (Ln.b rfl) (.cons (Ln.b rfl) .nil))))) ⟨⟨1000,_,rfl,rfl,.box nq⟩,⟨1001,_,rfl,rfl,.box nq⟩,⟨1002,_,rfl,rfl,.box (.cons (Ln.mm rfl) .nil)⟩,⟨1003,_,rfl,rfl,.refl rfl⟩,⟨1004,_,rfl,rfl,.box (.cons (Ln.c .nil (.cons (Ln.b rfl) (.cons (Ln.b rfl) (.cons (Ln.b rfl) (.cons (Ln.b rfl) .nil))))) .nil)⟩,Q0⟩ ?_;cases ν;exact wt Q5 ⟨hr,J4⟩ rfl
   refine sk ?_;cases ν;exact wt Q5 ⟨hr,J4⟩ rfl
  refine rg ?_;have ⟨eo,ζ⟩:=aG ζ;refine (θ ⟨eo,?_⟩);exact ⟨_,sj ζ,wt Q5 ⟨hr,J4⟩ rfl⟩
 refine xt ?_;have ζ:=bx ζ aP;cases ζ;exact wt Q1 ⟨hr,J4⟩ rfl
end Go.Proofs
