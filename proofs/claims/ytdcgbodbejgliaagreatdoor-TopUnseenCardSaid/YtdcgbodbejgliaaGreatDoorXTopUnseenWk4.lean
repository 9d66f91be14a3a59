/- The walks of this seat beside the plain programs, part 4. No condition. -/
import Derived.Test.YtdcgbodbejgliaaGreatDoorXTopUnseenHb
import Derived.Test.YtdcgbodbejgliaaGreatDoorXTopUnseenWk0
import Derived.Test.YtdcgbodbejgliaaGreatDoorXTopUnseenWk1
import Derived.Test.YtdcgbodbejgliaaGreatDoorXTopUnseenWk2
import Derived.Test.YtdcgbodbejgliaaGreatDoorXTopUnseenWk3
open List renaming length_map → ay, map_append → fo, map_eq_nil_iff → C4
open Or renaming inl → θ, inr → bX
namespace Go.Proofs
set_option linter.all false
open Go Go.Cat Tryz
variable [M:bK]
set_option maxRecDepth 100000
set_option maxHeartbeats 4000000
def aja {a b r} (h:PH a b=some r):Pure prog 134 [.s (mF a),.c (.func 191) [] [.p [vi b]]] (vi r):=by
 refine pq tok 19 func134 ?_;unfold PH at h;refine sg (Ok.eW (fun v1=>⟨ar [],[]⟩) (fun v1=>PJ v1=some r) ?_ ?_)
 ·refine sg ⟨_,ay _,fun _=>?_⟩;refine bl (Ok.loop (fun (s1:Int)=>⟨ar [(0,.s (mF a)),(1,.c (.func 191) [] [.p [vi b]]),(7,vi (a.length:Int)),(8,vi s1)],[]⟩) (PI a b) (s0:=0) h (wt Q4 Q0 rfl) ?_);intro s1 y1 ζ aP;unfold PI at ζ;refine sg (sq (ct ζ (fun hb ζ=>?_) fun hb ζ=>?_))
  ·refine sk (sq (bl (sg ?_)));refine sg ?_;have ⟨x1,Ξ,ζ⟩:=κ ζ;have ⟨x2,au,ζ⟩:=κ ζ;refine ⟨_,bz Ξ,_,bC Ξ,_,rfl,?_⟩;refine af.call (ajk au) lz ?_;refine ct ζ (fun hb ζ=>?_) fun hb ζ=>?_
   ·refine sg (rt ?_);have ζ:=bx ζ aP;cases ζ;exact Fz.v
   refine sk (rg ?_);have ⟨aw,ζ⟩:=aG ζ;refine (θ ⟨aw,?_⟩);exact ⟨_,sj ζ,wt Q4 Q0 rfl⟩
  refine xt ?_;have ζ:=bx ζ aP;exact ⟨_,ζ,wt Q0 Q0 rfl⟩
 intro v1 h;unfold PJ at h;refine sg (rt ?_);cases h;exact Fz.v
def ajl {c d r} (h:Ks c d=some r):Pure prog 191 [.a (b6 c),.p [vi d]] (vb r):=by
 refine pq tok 8 func191 ?_;unfold Ks at h;refine sg (sg ⟨_,rfl,_,rfl,?_⟩);refine rt ?_;cases h;exact Fz.v
def ajY {g e r} (h:J_ g e=some r):af prog 189 [.o 1000,.c (.func 191) [] [.b 1001 0]] ⟨aF,[(1000,.own 138 3 (mF g)),(1001,.box [vi e])]⟩ fun x s=>x=(.o 999)∧s.H=[(999,.own 138 3 (mF r)),(1001,.box [vi e])]:=by
 refine pg tok 42 func189 ?_;unfold J_ at h;refine sg (sg ?_);have ⟨x1,Ξ,h⟩:=κ h;refine af.borrow (aja Ξ) (.cons (Fz.o rfl) (.cons (Fz.c .nil (.cons (Fz.b rfl rfl) .nil)) .nil)) rfl ?_;refine sq (sg ?_);refine ct h (fun hb h=>?_) fun hb h=>?_
 ·refine sg (rt ?_);cases h;exact (Wk.mv (i:=1000) (d:=999) rfl rfl rfl).trans (wt Q1 ⟨⟨_,rfl,.refl _⟩,⟨_,rfl,.refl _⟩,Q0⟩ rfl)
 refine sk ?_;have ⟨v1,ν,h⟩:=κ h;refine Ok.bh ⟨ar [(0,.o 1000),(5,vi v1.1)],[(1000,.own 138 3 (mF v1.2)),(1001,.box [vi e])]⟩ ?_ ?_
 ·refine sg ?_;have ⟨aw,ν⟩:=aG ν;refine (θ ⟨aw,?_⟩);refine bl (Ok.loop (fun (s1:Int×Int×(List aN))=>⟨ar [(0,.o 1000),(1,.c (.func 191) [] [.b 1001 0]),(5,vi s1.1),(6,vi s1.2.1)],[(1000,.own 138 3 (mF s1.2.2)),(1001,.box [vi e])]⟩) (PA e) (s0:=(x1,x1+1,g)) ν (wt Q4 ⟨⟨_,rfl,.refl _⟩,⟨_,rfl,.refl _⟩,Q0⟩ rfl) ?_);intro s1 y1 ζ aP;unfold PA at ζ;refine sq (sg ?_);refine ⟨_,ay _,fun _=>?_⟩;refine ct ζ (fun hb ζ=>?_) fun hb ζ=>?_
  ·refine sk ?_;have ⟨v2,ax,ζ⟩:=κ ζ;refine Ok.bh ⟨ar [(0,.o 1000),(1,.c (.func 191) [] [.b 1001 0]),(5,vi v2.1),(6,vi s1.2.1)],[(1000,.own 138 3 (mF v2.2)),(1001,.box [vi e])]⟩ ?_ ?_
   ·refine bl (sg ?_);have ⟨x2,au,ax⟩:=κ ax;refine ⟨_,bz au,wD au,_,bC au,rfl,_,rfl,_,rfl,?_⟩;refine sg ?_;have ⟨x3,aL,ax⟩:=κ ax;refine ⟨_,rfl,?_⟩;refine af.borrow (ajl aL) (.cons (Fz.a fq) (.cons (Fz.b rfl rfl) .nil)) rfl ?_;refine ct ax (fun hb ax=>?_) fun hb ax=>?_
    ·refine sg ?_;have ⟨x4,bu,ax⟩:=κ ax;refine ⟨_,rfl,_,bz bu,wD bu,_,bC bu,rfl,_,rfl,_,FB (f:=j5) (x:=x2),?_⟩;refine rg ?_;have ⟨br,ax⟩:=aG ax;refine (θ ⟨br,?_⟩);cases ax;exact wt Q4 J2 rfl
    refine sk ?_;cases ax;exact wt Q4 J2 rfl
   refine rg ?_;have ⟨eo,ζ⟩:=aG ζ;refine (θ ⟨eo,?_⟩);exact ⟨_,sj ζ,wt Q4 J2 rfl⟩
  refine xt ?_;have ζ:=bx ζ aP;cases ζ;exact wt Q2 J2 rfl
 refine sg ?_;have ⟨kL,h⟩:=aG h;refine ⟨_,kZ kL.1,FO kL,_,R4 (f:=j5) (z:=((⟨[],0,0⟩:aN):aN)) v1.2 (v1.1.toNat),?_⟩;refine sq (Ok.wk (Wk.mv (i:=1000) (d:=999) rfl rfl rfl) ?_);refine rg ?_;have ⟨p_,h⟩:=aG h;refine ⟨_,kZ p_.1,FO p_,_,(List.map_take (f:=j5)).symm,?_⟩;refine rt ?_;cases h;exact wt Q1 J2 rfl
def ajm {c d r} (h:Cx c d=some r):Pure prog 193 [.a (b6 c),.a (b6 d)] (vi r):=by
 refine pq tok 10 func193 ?_;unfold Cx at h;refine sg (sg ?_);have ⟨x1,Ξ,h⟩:=κ h;refine ⟨_,rfl,_,rfl,?_⟩;refine af.call (Ab Ξ) lz ?_;refine rt ?_;cases h;exact Fz.v
def ajj {d i g e r} (h:w8 d i g e=some r):Pure prog 121 [.a (b0 d),vi i,vi g,vi e] (.t (k15 r.1 r.2.1 r.2.2)):=by
 refine pq tok 58 func121 ?_;unfold w8 at h;refine sg (sq ?_);have ⟨v1,ν,h⟩:=κ h;refine Ok.bh ⟨ar [(1,vi i),(3,vi e),(4,.b 4 0),(6,.b 6 0),(23,vb v1)],[(4,.box (b0 d)),(6,.box [vi g])]⟩ ?_ ?_
 ·refine rg ⟨_,rfl,?_⟩;have ⟨c1,Δ,ν⟩:=κ ν;refine Br.dV Δ (fun hb Δ=>?_) fun hb Δ=>?_
  ·cases Δ;have ⟨c2,aI,ν⟩:=κ ν;replace aI:=ee aI;cases aI;cases ν;exact wt Q5 J2 rfl
  cases Δ;have ⟨c2,aX,ν⟩:=κ ν;refine Br.dV aX (fun hb aX=>?_) fun hb aX=>?_
  ·cases aX;cases ν;exact wt Q5 J2 rfl
  cases aX;cases ν;exact wt Q5 J2 rfl
 refine ct h (fun hb h=>?_) fun hb h=>?_
 ·refine sg (rt ?_);cases h;exact (Fz.t (.cons Fz.nil fq))
 refine sk (sg ?_);have ⟨x1,Ξ,h⟩:=κ h;refine ⟨_,rfl,?_⟩;refine af.ez (id:=27) (KG Ξ) rfl (.box lz) rfl (.cons (Lr.b) (.cons (Lr.dG rfl) .nil)) ?_;rintro _ _ ⟨rfl,rfl⟩;refine ⟨_,rfl,?_⟩;refine sq (sg ?_);refine ct h (fun hb h=>?_) fun hb h=>?_
 ·refine sg (rt ?_);cases h;exact (Fz.t (.cons Fz.nil fq))
 refine sk (sg ?_);have ⟨x2,au,h⟩:=κ h;refine ⟨_,rfl,?_⟩;refine af.own (D:=37) (KH au) lz rfl ?_;have ⟨x3,aL,h⟩:=κ h;refine cg [(1000,37),(1001,6)] [(999,37)] (ajY aL) (.cons (Ln.o rfl) (.cons (Ln.c .nil (.cons (Ln.b rfl) .nil)) .nil)) ⟨⟨37,_,rfl,rfl,.refl rfl⟩,⟨6,_,rfl,rfl,.box nq⟩,Q0⟩ ?_;refine sg ?_;have ⟨x4,bu,h⟩:=κ h;refine af.ez (id:=37) (Wy (E:=138) (enc:=j5) agS aa0 (fun _=>rfl) (fun _ _ _ h=>ajm (M:=bK.yes) h) (enters_of func193 (by kernel_rfl) rfl) bu) rfl (.refl _) rfl (.cons Lr.o (.cons (Lr.dG rfl) .nil)) ?_;rintro _ _ ⟨rfl,rfl⟩;refine sq (sg ?_);refine ⟨_,ay _,fun _=>?_⟩;refine ct h (fun hb h=>?_) fun hb h=>?_
 ·refine sg (rt ?_);cases h;exact (Fz.t (.cons (Fz.o rfl) fq))
 refine sk (sq (Ok.wk (Wk.freeze (id:=37) rfl) ?_));refine dw 14 tok mixed ?_;have ⟨aw,h⟩:=aG h;have ⟨br,h⟩:=aG h;have ⟨x5,dA,h⟩:=κ h;have ⟨eo,h⟩:=aG h;refine ⟨_,rfl,_,rfl,_,rfl,_,⟨_,_,kZ aw.1,kZ (Ps aw),ag7 aw,ag8 aw,wQ (f:=j5) (K:=3) (fun _=>rfl) x4,_,(List.map_take (f:=j5)).symm,rfl⟩,_,rfl,_,rfl,_,θ ⟨br,rfl⟩,_,⟨_,bz dA,_,bC dA,rfl⟩,_,rfl,_,⟨_,rfl,rfl⟩,_,θ ⟨eo,rfl⟩,_,rfl,_,rfl,_,rfl,Q0,?_⟩;refine rt ?_;cases h;exact (Fz.t (.cons Fz.s fq))
def aj5 {a r} (h:yg a=some r):i_ prog 122 [.s (mF a)] 9 1 (mG r):=by
 refine pv tok 19 func122 ?_;unfold yg at h;refine sg (sg ?_);have ⟨v1,ν,h⟩:=κ h;refine Ok.bh ⟨ar [(3,.o 16)],[(16,.own 9 1 (mG v1))]⟩ ?_ ?_
 ·refine sg ⟨_,ay _,fun _=>?_⟩;refine bl (Ok.loop (fun (s1:Int×(List (List UInt8)))=>⟨ar [(3,.o 16),(6,.s (mF a)),(7,vi (a.length:Int)),(8,vi s1.1)],[(16,.own 9 1 (mG s1.2))]⟩) (HL a) (s0:=(0,[])) ν ((Wk.BP (t:=3) (id:=16) (E:=9) (K:=1) rfl rfl).trans (wt Q4 ⟨⟨_,rfl,.refl _⟩,Q0⟩ rfl)) ?_);intro s1 y1 ζ aP;unfold HL at ζ;refine sg (sq (ct ζ (fun hb ζ=>?_) fun hb ζ=>?_))
  ·refine sk (sq (bl (sg ?_)));have ⟨x1,Ξ,ζ⟩:=κ ζ;refine ⟨_,bz Ξ,_,bC Ξ,_,rfl,_,rfl,?_⟩;refine rg ?_;have ⟨aw,ζ⟩:=aG ζ;refine ⟨_,rfl,θ ⟨g_ (f:=mJ) (n:=1) (fun _=>rfl) ([x1.aM]),ix (f:=mJ) (l:=s1.2) (l':=[x1.aM]) aw,_,(fo (f:=mJ) (l₁:=s1.2) (l₂:=[x1.aM])).symm,?_⟩⟩;refine rg ?_;have ⟨br,ζ⟩:=aG ζ;refine (θ ⟨br,?_⟩);exact ⟨_,sj ζ,wt Q4 J1 rfl⟩
  refine xt ?_;have ζ:=bx ζ aP;cases ζ;exact wt Q1 J1 rfl
 refine sg (rt ?_);cases h;exact (.inr ⟨_,rfl,rfl⟩)
def Yb {a r} (h:yg a=some r):Pure prog 122 [.s (mF a)] (.s (mG r)):=(aj5 h).pure
def ajD {a d e f g i j k l o u w z A B C D E F G I J K} {q:Int⊕(Int×(List (List UInt8)))} (h:DN a d e f g i j k l o u w z A B C D E F G I J K=some q):fL prog bg 67 [.b 1000 0] ⟨aF,[(1000,.box (cP a d e f g i j k l o u w z A B C D E F G I J K))]⟩ (fun x s=>∃y:Int×(List (List UInt8)),q=.inr y∧x=(.t [])∧s.H=[(1000,.box (k16 a d e f g i j k l o u w z A B C D E 0 0 0 y.1 0 y.2))]) fun m s=>q=.inl m∧s.H=[]:=by
 refine px tok 45 func67 ?_;unfold DN at h;refine sq (Ok.cW bg tok ?_);have ⟨x1,Ξ,h⟩:=κ h;refine θ (θ (θ (θ (θ (θ (⟨_,rfl,?_⟩))))));refine bX (cx [(1000,1000)] [] (Ad Ξ) (.cons (Ln.b rfl) nq) ⟨⟨1000,_,rfl,rfl,.box nq⟩,Q0⟩ (fun e1 bE=>?_) (fun y1 cZ=>?_))
 ·have h:=cw h bE;cases h;exact ⟨_,rfl,rfl⟩
 have h:=cy h cZ;refine θ (θ (⟨_,rfl,?_⟩));refine sq (dw 26 tok mixed ?_);have ⟨x2,au,h⟩:=κ h;refine ⟨_,rfl,_,rfl,_,rfl,_,rfl,_,rfl,_,⟨_,rfl,rfl⟩,_,rfl,_,⟨_,rfl,rfl⟩,_,rfl,_,rfl,_,rfl,_,rfl,_,⟨_,rfl,rfl⟩,_,rfl,_,rfl,_,rfl,_,rfl,_,⟨_,rfl,rfl⟩,_,⟨_,.fk (ajj au) lz,rfl⟩,_,rfl,_,rfl,_,rfl,_,rfl,_,rfl,_,rfl,_,rfl,Q0,?_⟩;refine sq (Ok.cW bg tok ?_);have ⟨x3,aL,h⟩:=κ h;refine θ (bX (cx [] [] (ku aL) nq Q0 (fun e2 dR=>?_) (fun y2 et=>?_)))
 ·have h:=cw h dR;cases h;exact ⟨_,rfl,rfl⟩
 have h:=cy h et;refine rg ?_;have ⟨x4,bu,h⟩:=κ h;refine af.call (Yb bu) lz ?_;refine ⟨_,rfl,?_⟩;cases h;exact ⟨_,rfl,wt Q1 J1 rfl⟩
def Yc {c r} (h:DG c=some r):Pure prog 123 [.a (b4 c)] (vi r):=by
 refine pq tok 10 func123 ?_;unfold DG at h;refine sg (sg ⟨_,rfl,_,ay _,fun _=>⟨_,rfl,_,ay _,fun _=>⟨(max (c.aC.length:Int) (c.Ψ.length:Int)),rfl,?_⟩⟩⟩);refine rt ?_;cases h;exact Fz.v
def ajK {a d e f g i j k l o u w z A B C D E F G I J K} {q:Int⊕(Int×Int×Int×Int)} (h:DV a d e f g i j k l o u w z A B C D E F G I J K=some q):fL prog bg 68 [.b 1000 0] ⟨aF,[(1000,.box (cP a d e f g i j k l o u w z A B C D E F G I J K))]⟩ (fun x s=>∃y:Int×Int×Int×Int,q=.inr y∧x=(.t [])∧s.H=[(1000,.box (cP a d e f g i j k l o u w z A B C D E 0 y.1 y.2.1 y.2.2.1 y.2.2.2))]) fun m s=>q=.inl m∧s.H=[]:=by
 refine px tok 22 func68 ?_;unfold DV at h;refine sq (Ok.cW bg tok ?_);have ⟨x1,Ξ,h⟩:=κ h;refine θ (θ (θ (θ (θ (θ (⟨_,rfl,?_⟩))))));refine bX (cx [(1000,1000)] [] (Ad Ξ) (.cons (Ln.b rfl) nq) ⟨⟨1000,_,rfl,rfl,.box nq⟩,Q0⟩ (fun e1 bE=>?_) (fun y1 cZ=>?_))
 ·have h:=cw h bE;cases h;exact ⟨_,rfl,rfl⟩
 have h:=cy h cZ;refine θ (θ (⟨_,rfl,?_⟩));refine dw 12 tok mixed ?_;have ⟨x2,au,h⟩:=κ h;refine ⟨_,rfl,_,rfl,_,⟨_,rfl,rfl⟩,_,rfl,_,⟨_,rfl,rfl⟩,_,rfl,_,⟨_,rfl,rfl⟩,_,⟨_,rfl,rfl⟩,_,⟨_,.fk (Yc au) lz,rfl⟩,_,rfl,_,rfl,_,rfl,Q0,_,rfl,?_⟩;cases h;exact ⟨_,rfl,wt Q1 J1 rfl⟩
def aix {c r} (h:Iy c=some r):Pure prog 195 [.a [vi c.1,vi c.2]] (vb r):=by
 refine pq tok 21 func195 ?_;unfold Iy at h;refine sg ?_;have ⟨v1,ν,h⟩:=κ h;refine Ok.bh ⟨ar [(2,vb v1)],[]⟩ ?_ ?_
 ·refine rg ⟨0,rfl,by decide,_,rfl,?_⟩;have ⟨c1,Δ,ν⟩:=κ ν;refine Br.ite Δ (fun hb Δ=>?_) fun hb Δ=>?_
  ·refine ⟨0,rfl,by decide,_,rfl,?_⟩;cases Δ;have ⟨c2,aI,ν⟩:=κ ν;refine Br.ite aI (fun hb aI=>?_) fun hb aI=>?_
   ·refine ⟨1,rfl,by decide,_,rfl,?_⟩;cases aI;have ⟨c3,aX,ν⟩:=κ ν;refine Br.ite aX (fun hb aX=>?_) fun hb aX=>?_
    ·refine ⟨1,rfl,by decide,_,rfl,?_⟩;cases aX;cases ν;exact wt Q1 Q0 rfl
    cases aX;cases ν;exact wt Q1 Q0 rfl
   cases aI;have ⟨c3,cU,ν⟩:=κ ν;replace cU:=ed cU;cases cU;cases ν;exact wt Q1 Q0 rfl
  cases Δ;have ⟨c2,db,ν⟩:=κ ν;replace db:=ed db;cases db;have ⟨c3,eD,ν⟩:=κ ν;replace eD:=ed eD;cases eD;cases ν;exact wt Q1 Q0 rfl
 refine rt ?_;cases h;exact Fz.v
def Ye {c r} (h:Bp c=some r):Pure prog 248 [.a (b7 c)] (.a [vi r.1,vi r.2]):=by
 refine pq tok 8 func248 ?_;unfold Bp at h;refine sg (sg ⟨_,rfl,_,rfl,_,rfl,?_⟩);refine rt ?_;cases h;exact ⟨_,rfl,Fz.dG rfl⟩
def aik {a r} (h:Hn a=some r):Pure prog 249 [.s (mB a)] (vi r):=by
 refine pq tok 18 func249 ?_;unfold Hn at h;refine sg (sg (Ok.eW (fun v1=>⟨ar [(3,vi (0))],[]⟩) (fun v1=>Ho v1=some r) ?_ ?_))
 ·refine sg ⟨_,ay _,fun _=>?_⟩;refine bl (Ok.loop (fun (s1:Int)=>⟨ar [(3,vi (0)),(6,.s (mB a)),(7,vi (a.length:Int)),(8,vi s1)],[]⟩) (vL a) (s0:=0) h (wt Q4 Q0 rfl) ?_);intro s1 y1 ζ aP;unfold vL at ζ;refine sg (sq (ct ζ (fun hb ζ=>?_) fun hb ζ=>?_))
  ·refine sk (sq (bl (sg ?_)));have ⟨x1,Ξ,ζ⟩:=κ ζ;refine ⟨_,bz Ξ,_,bC Ξ,_,rfl,?_⟩;refine sg (ct ζ (fun hb ζ=>?_) fun hb ζ=>?_)
   ·refine sg (rt ?_);have ζ:=bx ζ aP;cases ζ;exact Fz.v
   refine sk (rg ?_);have ⟨aw,ζ⟩:=aG ζ;refine (θ ⟨aw,?_⟩);exact ⟨_,sj ζ,wt Q4 Q0 rfl⟩
  refine xt ?_;have ζ:=bx ζ aP;exact ⟨_,ζ,wt Q1 Q0 rfl⟩
 intro v1 h;unfold Ho at h;refine sg (rt ?_);cases h;exact Fz.v
def Yd {d c e r} (h:yT d c e=some r):Pure prog 197 [.a [vi d.1,vi d.2],.a (b7 c),.a [vi e.1,vi e.2]] (vi r):=by
 refine pq tok 22 func197 ?_;unfold yT at h;refine sg (sg ?_);have ⟨x1,Ξ,h⟩:=κ h;refine ⟨_,rfl,?_⟩;refine af.call (Ye Ξ) lz ?_;refine ⟨_,rfl,?_⟩;refine sq (dw 13 tok mixed ?_);have ⟨x2,au,h⟩:=κ h;have ⟨x3,aL,h⟩:=κ h;have ⟨x4,bu,h⟩:=κ h;refine ⟨_,⟨0,rfl,by decide,rfl⟩,_,⟨_,rfl,rfl⟩,_,⟨0,rfl,by decide,rfl⟩,_,⟨_,rfl,rfl⟩,_,⟨_,.fk (Ab au) lz,rfl⟩,_,⟨1,rfl,by decide,rfl⟩,_,⟨_,rfl,rfl⟩,_,⟨1,rfl,by decide,rfl⟩,_,⟨_,rfl,rfl⟩,_,⟨_,.fk (Ab aL) lz,rfl⟩,_,rfl,_,⟨_,.fk (aik bu) lz,rfl⟩,_,rfl,Q0,?_⟩;refine rt ?_;cases h;exact Fz.v
def ai3 {f d e r} (h:J5 f d e=some r):Pure prog 196 [.s (mE f),.a [vi d.1,vi d.2],.c (.func 197) [.a [vi e.1,vi e.2]] []] (.t [vi r.1,vb r.2]):=by
 refine pq tok 49 func196 ?_;unfold J5 at h;refine sg (sg ⟨_,ay _,fun _=>?_⟩);refine sg ?_;have ⟨v1,ν,h⟩:=κ h;refine Ok.bh ⟨ar [(0,.s (mE f)),(2,.c (.func 197) [.a [vi e.1,vi e.2]] []),(4,.b 4 0),(8,vi (f.length:Int)),(9,vi v1)],[(4,.box [vi d.1,vi d.2])]⟩ ?_ ?_
 ·refine bl (Ok.loop (fun (s1:Int×Int)=>⟨ar [(0,.s (mE f)),(2,.c (.func 197) [.a [vi e.1,vi e.2]] []),(4,.b 4 0),(8,vi (f.length:Int)),(9,vi s1.1),(10,vi s1.2)],[(4,.box [vi d.1,vi d.2])]⟩) (Pv f e d) (s0:=(0,(f.length:Int))) ν (wt Q6 ⟨⟨_,rfl,.refl _⟩,Q0⟩ rfl) ?_);intro s1 y1 ζ aP;unfold Pv at ζ;refine sq (sg ?_);refine ct ζ (fun hb ζ=>?_) fun hb ζ=>?_
  ·refine sk (bl (sg ?_));have ⟨aw,ζ⟩:=aG ζ;refine (θ ⟨aw,_,rfl,(by decide),_,rfl,_,rfl,?_⟩);refine sq (dw 8 tok mixed ?_);have ⟨x1,Ξ,ζ⟩:=κ ζ;have ⟨x2,au,ζ⟩:=κ ζ;refine ⟨_,rfl,_,rfl,_,rfl,_,⟨_,bz Ξ,_,bC Ξ,rfl⟩,_,⟨_,rfl,rfl⟩,_,⟨_,rfl,rfl⟩,_,⟨_,.fk (Yd au) lz,rfl⟩,_,rfl,Q0,?_⟩;refine ct ζ (fun hb ζ=>?_) fun hb ζ=>?_
   ·refine rg ?_;have ⟨br,ζ⟩:=aG ζ;refine (θ ⟨br,?_⟩);exact ⟨_,sj ζ,wt Q6 J1 rfl⟩
   refine rg ?_;exact ⟨_,sj ζ,wt Q6 J1 rfl⟩
  refine xt ?_;have ζ:=bx ζ aP;cases ζ;exact wt Q5 J1 rfl
 have ⟨v2,ax,h⟩:=κ h;refine Ok.bh ⟨ar [(6,vi v1),(7,vb v2)],[]⟩ ?_ ?_
 ·refine dw 16 tok mixed ⟨_,rfl,_,rfl,_,rfl,_,rfl,_,rfl,?_⟩;have ⟨c1,Δ,ax⟩:=κ ax;refine Br.ite Δ (fun hb Δ=>?_) fun hb Δ=>?_
  ·have ⟨x3,aL,Δ⟩:=κ Δ;have ⟨x4,bu,Δ⟩:=κ Δ;refine ⟨_,rfl,_,rfl,_,rfl,_,⟨_,bz aL,_,bC aL,rfl⟩,_,⟨_,rfl,rfl⟩,_,⟨_,rfl,rfl⟩,_,⟨_,.fk (Yd bu) lz,rfl⟩,_,rfl,?_⟩;cases Δ;refine ⟨_,rfl,?_⟩;refine ⟨_,rfl,_,rfl,Q0,?_⟩;cases ax;exact wt Q2 Q0 rfl
  cases Δ;refine ⟨_,rfl,?_⟩;refine ⟨_,rfl,_,rfl,Q0,?_⟩;cases ax;exact wt Q2 Q0 rfl
 refine rt ?_;cases h;exact (Fz.t fq)
def YG {a r} (h:FP a=some r):i_ prog 200 [.s (mE a)] 84 3 (mE r):=by
 refine pv tok 8 func200 ?_;unfold FP at h;refine sg (sq (sg ?_));intro b1 cO;have h:=xO h b1 (fun e=>C4.1 (cO e));refine ct h (fun hb h=>?_) fun hb h=>?_
 ·refine sg (rt ?_);cases h;exact (.inl ⟨rfl,rfl⟩)
 refine sk (sg ?_);have ⟨aw,h⟩:=aG h;refine bX ⟨g_ (f:=pZ) (n:=3) (fun _=>rfl) a,ix (f:=pZ) (l:=([]:List az)) (l':=a) aw,_,(fo (f:=pZ) (l₁:=([]:List az)) (l₂:=a)).symm,?_⟩;refine rt ?_;cases h;exact (.inr ⟨_,rfl,rfl⟩)
def ais {f c d e g r} (h:Bl f c d e g=some r):Pure prog 124 [.a (b0 f),.s (mE c),vi d,vi e,vi g] (.t [.s (mE r.1),vi r.2]):=by
 refine pq tok 68 func124 ?_;unfold Bl at h;refine sg (sg ⟨_,rfl,?_⟩);refine sq (sg ?_);have ⟨x1,Ξ,h⟩:=κ h;refine ⟨_,rfl,?_⟩;refine af.call (aix Ξ) lz ?_;refine ct h (fun hb h=>?_) fun hb h=>?_
 ·refine sg (rt ?_);cases h;exact (Fz.t (.cons Fz.s fq))
 refine sk (sg ?_);have ⟨x2,au,h⟩:=κ h;refine ⟨_,rfl,?_⟩;refine af.call (rO au) lz ?_;refine ⟨_,rfl,?_⟩;refine sg ?_;have ⟨x3,aL,h⟩:=κ h;refine ⟨_,rfl,_,rfl,?_⟩;refine af.call (ai3 aL) lz ?_;refine sq (bl ?_);have ⟨v1,ν,h⟩:=κ h;refine Ok.bh ⟨ar [(1,.s (mE c)),(2,vi d),(3,vi e),(4,vi g),(13,.b 13 0),(15,vi x3.1),(16,vb x3.2),(38,vb v1)],[(13,.box (b4 x2.1))]⟩ ?_ ?_
 ·refine rg ?_;have ⟨c1,Δ,ν⟩:=κ ν;refine Br.dV Δ (fun hb Δ=>?_) fun hb Δ=>?_
  ·cases Δ;cases ν;exact wt Q8 J1 rfl
  have ⟨x4,bu,Δ⟩:=κ Δ;refine ⟨_,rfl,?_⟩;refine af.call (Qn bu) lz ?_;cases Δ;cases ν;exact wt Q8 J1 rfl
 refine ct h (fun hb h=>?_) fun hb h=>?_
 ·refine sg (rt ?_);cases h;exact (Fz.t (.cons Fz.s fq))
 refine sg ⟨_,rfl,?_⟩;refine ct h (fun hb h=>?_) fun hb h=>?_
 ·refine sg (rt ?_);cases h;exact (Fz.t (.cons Fz.s fq))
 refine sg (ct h (fun hb h=>?_) fun hb h=>?_)
 ·refine sg (rt ?_);cases h;exact (Fz.t (.cons Fz.s fq))
 refine sg ⟨_,ay _,fun _=>?_⟩;refine ct h (fun hb h=>?_) fun hb h=>?_
 ·refine sg (rt ?_);cases h;exact (Fz.t (.cons Fz.s fq))
 refine sk (sg ?_);have ⟨x5,dA,h⟩:=κ h;refine af.own (D:=60) (YG dA) lz rfl ?_;have ⟨aw,h⟩:=aG h;refine θ (cg [(1000,60)] [(900,60)] (acX x5 x3.1 ([(⟨d,e,g⟩:az)]) aw) (.cons (Ln.o rfl) nq) ⟨⟨60,_,rfl,rfl,.refl rfl⟩,Q0⟩ ?_);refine rt ?_;cases h;exact (Fz.t (.cons (Fz.o rfl) fq))
def ajG {a d e f g i j k J l o u w z A B C D E K F G I} {q:Int⊕((List az)×Int)} (h:DQ a d e f g i j k J l o u w z A B C D E K F G I=some q):fL prog bg 69 [.b 1000 0] ⟨aF,[(1000,.box (cP a d e f g i j k J l o u w z A B C D E K F G I))]⟩ (fun x s=>∃y:(List az)×Int,q=.inr y∧x=(.t [])∧s.H=[(1000,.box (cP a d e f g i j k y.1 l o u w z A B C D E y.2 F G I))]) fun m s=>q=.inl m∧s.H=[]:=by
 refine px tok 52 func69 ?_;unfold DQ at h;refine sq (Ok.cW bg tok ?_);have ⟨x1,Ξ,h⟩:=κ h;refine θ (θ (θ (θ (θ (θ (⟨_,rfl,?_⟩))))));refine bX (cx [(1000,1000)] [] (Ad Ξ) (.cons (Ln.b rfl) nq) ⟨⟨1000,_,rfl,rfl,.box nq⟩,Q0⟩ (fun e1 bE=>?_) (fun y1 cZ=>?_))
 ·have h:=cw h bE;cases h;exact ⟨_,rfl,rfl⟩
 have h:=cy h cZ;refine θ (θ (⟨_,rfl,?_⟩));refine sq (dw 29 tok mixed ?_);have ⟨x2,au,h⟩:=κ h;refine ⟨_,rfl,_,rfl,_,rfl,_,rfl,_,rfl,_,⟨_,rfl,rfl⟩,_,rfl,_,rfl,_,rfl,_,rfl,_,⟨_,rfl,rfl⟩,_,rfl,_,rfl,_,rfl,_,rfl,_,⟨_,rfl,rfl⟩,_,rfl,_,rfl,_,rfl,_,rfl,_,⟨_,rfl,rfl⟩,_,rfl,_,⟨_,rfl,rfl⟩,_,⟨_,.fk (ais au) lz,rfl⟩,_,rfl,_,rfl,_,rfl,_,rfl,_,rfl,Q0,?_⟩;refine sq (Ok.cW bg tok ?_);have ⟨x3,aL,h⟩:=κ h;refine θ (bX (cx [] [] (ku aL) nq Q0 (fun e2 dR=>?_) (fun y2 et=>?_)))
 ·have h:=cw h dR;cases h;exact ⟨_,rfl,rfl⟩
 have h:=cy h et;refine Ok.p4 (m:=8) (late:=[1,3,4]) (MD:=⟨[]⟩) (CH:=⟨[]⟩) tok mixed (by kernel_rfl) ?_;refine ⟨_,rfl,_,rfl,_,rfl,_,rfl,_,⟨_,rfl,rfl⟩,_,rfl,_,rfl,_,rfl,Q0,?_⟩;refine ⟨_,rfl,⟨⟨_,rfl,rfl⟩,⟨_,rfl,rfl⟩,⟨_,rfl,_,rfl,rfl⟩,Q0⟩,_,rfl,?_⟩;cases h;exact ⟨_,rfl,wt Q1 J1 rfl⟩
def aiw {d c r} (h:Ex d c=some r):Pure prog 202 [.a [vi d.1,vi d.2],.a (b7 c)] (vb r):=by
 refine pq tok 9 func202 ?_;unfold Ex at h;refine sg (sq (dw 5 tok mixed ?_));have ⟨x1,Ξ,h⟩:=κ h;refine ⟨_,⟨_,rfl,rfl⟩,_,⟨_,.fk (Ye Ξ) lz,rfl⟩,_,⟨_,rfl,rfl⟩,_,⟨[.one (.int .i64),.one (.int .i64)],by kernel_rfl,rfl⟩,_,rfl,Q0,?_⟩;refine rt ?_;cases h;exact Fz.v
def Yp {d b r} (h:FX d b=some r):Pure prog 201 [.s (mE d),.c (.func 202) [.a [vi b.1,vi b.2]] []] (vi r):=by
 refine pq tok 19 func201 ?_;unfold FX at h;refine sg (Ok.eW (fun v1=>⟨ar [],[]⟩) (fun v1=>PS v1=some r) ?_ ?_)
 ·refine sg ⟨_,ay _,fun _=>?_⟩;refine bl (Ok.loop (fun (s1:Int)=>⟨ar [(0,.s (mE d)),(1,.c (.func 202) [.a [vi b.1,vi b.2]] []),(7,vi (d.length:Int)),(8,vi s1)],[]⟩) (PR d b) (s0:=0) h (wt Q4 Q0 rfl) ?_);intro s1 y1 ζ aP;unfold PR at ζ;refine sg (sq (ct ζ (fun hb ζ=>?_) fun hb ζ=>?_))
  ·refine sk (sq (bl (sg ?_)));refine sg ?_;have ⟨x1,Ξ,ζ⟩:=κ ζ;have ⟨x2,au,ζ⟩:=κ ζ;refine ⟨_,bz Ξ,_,bC Ξ,_,rfl,?_⟩;refine af.call (aiw au) lz ?_;refine ct ζ (fun hb ζ=>?_) fun hb ζ=>?_
   ·refine sg (rt ?_);have ζ:=bx ζ aP;cases ζ;exact Fz.v
   refine sk (rg ?_);have ⟨aw,ζ⟩:=aG ζ;refine (θ ⟨aw,?_⟩);exact ⟨_,sj ζ,wt Q4 Q0 rfl⟩
  refine xt ?_;have ζ:=bx ζ aP;exact ⟨_,ζ,wt Q0 Q0 rfl⟩
 intro v1 h;unfold PS at h;refine sg (rt ?_);cases h;exact Fz.v
def aiv {c d r} (h:Ew c d=some r):Pure prog 252 [.a (b7 c),.p [vi d]] (vb r):=by
 refine pq tok 8 func252 ?_;unfold Ew at h;refine sg (sg ⟨_,rfl,_,rfl,?_⟩);refine rt ?_;cases h;exact Fz.v
def ajc {a b r} (h:PN a b=some r):Pure prog 201 [.s (mE a),.c (.func 252) [] [.p [vi b]]] (vi r):=by
 refine pq tok 19 func201 ?_;unfold PN at h;refine sg (Ok.eW (fun v1=>⟨ar [],[]⟩) (fun v1=>PQ v1=some r) ?_ ?_)
 ·refine sg ⟨_,ay _,fun _=>?_⟩;refine bl (Ok.loop (fun (s1:Int)=>⟨ar [(0,.s (mE a)),(1,.c (.func 252) [] [.p [vi b]]),(7,vi (a.length:Int)),(8,vi s1)],[]⟩) (PO a b) (s0:=0) h (wt Q4 Q0 rfl) ?_);intro s1 y1 ζ aP;unfold PO at ζ;refine sg (sq (ct ζ (fun hb ζ=>?_) fun hb ζ=>?_))
  ·refine sk (sq (bl (sg ?_)));refine sg ?_;have ⟨x1,Ξ,ζ⟩:=κ ζ;have ⟨x2,au,ζ⟩:=κ ζ;refine ⟨_,bz Ξ,_,bC Ξ,_,rfl,?_⟩;refine af.call (aiv au) lz ?_;refine ct ζ (fun hb ζ=>?_) fun hb ζ=>?_
   ·refine sg (rt ?_);have ζ:=bx ζ aP;cases ζ;exact Fz.v
   refine sk (rg ?_);have ⟨aw,ζ⟩:=aG ζ;refine (θ ⟨aw,?_⟩);exact ⟨_,sj ζ,wt Q4 Q0 rfl⟩
  refine xt ?_;have ζ:=bx ζ aP;exact ⟨_,ζ,wt Q0 Q0 rfl⟩
 intro v1 h;unfold PQ at h;refine sg (rt ?_);cases h;exact Fz.v
def ai8 {a b r} (h:J7 a b=some r):Pure prog 170 [.s (mE a),.c (.func 252) [] [.p [vi b]]] (vb r):=by
 refine pq tok 9 func170 ?_;unfold J7 at h;refine sg (sg ?_);have ⟨x1,Ξ,h⟩:=κ h;refine af.call (ajc Ξ) lz ?_;refine rt ?_;cases h;exact Fz.v
def aiu {a d r} (h:Bo a d=some r):Pure prog 204 [.s (mE a),vi d] (vb r):=by
 refine pq tok 8 func204 ?_;unfold Bo at h;refine sg (sg ?_);have ⟨x1,Ξ,h⟩:=κ h;refine af.borrow (ai8 Ξ) (.cons Fz.s (.cons (Fz.c .nil (.cons (Fz.b rfl rfl) .nil)) .nil)) rfl ?_;refine rt ?_;cases h;exact Fz.v
def Qm {c d e f r} (h:yS c d e f=some r):Pure prog 125 [.a (b0 c),.s (mE d),vi e,vi f] (.t [.a (b0 r.1),.s (mE r.2.1),vi r.2.2]):=by
 refine pq tok 62 func125 ?_;unfold yS at h;refine sg (sg ?_);have ⟨x1,Ξ,h⟩:=κ h;refine af.call (Yp Ξ) lz ?_;refine sq (sg ?_);refine ct h (fun hb h=>?_) fun hb h=>?_
 ·refine sg ⟨_,rfl,_,rfl,?_⟩;refine rt ?_;cases h;exact ⟨_,rfl,Fz.t (.cons (Fz.dG rfl) (.cons Fz.s fq))⟩
 refine sk (sg ?_);have ⟨x2,au,h⟩:=κ h;refine ⟨_,bz au,_,bC au,_,rfl,?_⟩;refine sg ?_;have ⟨x3,aL,h⟩:=κ h;refine af.own (D:=32) (YG aL) lz rfl ?_;have ⟨aw,h⟩:=aG h;have ⟨br,h⟩:=aG h;refine (θ ⟨aw,?_⟩);refine cg [(1000,32)] [(900,32)] (acY x3 x1 (x1+1) br) (.cons (Ln.o rfl) nq) ⟨⟨32,_,rfl,rfl,.refl rfl⟩,Q0⟩ ?_;have ⟨v1,ν,h⟩:=κ h;refine Ok.bh ⟨ar [(4,.b 4 0),(8,.b 8 0),(13,.o 32)],[(4,.box (k0 v1.1 v1.2.1 v1.2.2)),(8,.box (k1 0 0)),(32,.own 84 3 (mE (fW x3 x1 (x1+1))))]⟩ ?_ ?_
 ·refine sg ?_;have ⟨x4,bu,ν⟩:=κ ν;refine ⟨_,rfl,?_⟩;refine af.call (rO bu) lz ?_;refine ⟨_,rfl,?_⟩;have ⟨v2,ax,ν⟩:=κ ν;refine Ok.bh ⟨ar [(4,.b 4 0),(8,.b 8 0),(12,vi x2.ι),(13,.o 32),(53,vb v2)],[(4,.box (b0 c)),(8,.box (k1 0 0)),(32,.own 84 3 (mE (fW x3 x1 (x1+1))))]⟩ ?_ ?_
  ·refine rg ?_;have ⟨c1,Δ,ax⟩:=κ ax;refine Br.ite Δ (fun hb Δ=>?_) fun hb Δ=>?_
   ·have ⟨x5,dA,Δ⟩:=κ Δ;refine ⟨_,rfl,?_⟩;refine af.call (Qn dA) lz ?_;cases Δ;have ⟨c2,aI,ax⟩:=κ ax;refine Br.ite aI (fun hb aI=>?_) fun hb aI=>?_
    ·have ⟨x6,gW,aI⟩:=κ aI;refine af.borrow (aiu gW) (.cons (Fz.o rfl) fq) rfl ?_;cases aI;cases ax;exact wt Q5 J3 rfl
    cases aI;cases ax;exact wt Q5 J3 rfl
   cases Δ;have ⟨c2,aX,ax⟩:=κ ax;replace aX:=ed aX;cases aX;cases ax;exact wt Q5 J3 rfl
  refine ct ν (fun hb ν=>?_) fun hb ν=>?_
  ·refine rg ?_;have ⟨x7,gn,ν⟩:=κ ν;refine ⟨_,rfl,?_⟩;refine af.call (Yr gn) lz ?_;refine ⟨_,rfl,?_⟩;cases ν;exact wt Q3 J3 rfl
  refine sk ?_;cases ν;exact wt Q3 J3 rfl
 refine sg ⟨_,rfl,_,rfl,?_⟩;refine rt ?_;cases h;exact ⟨_,rfl,Fz.t (.cons (Fz.dG rfl) (.cons (Fz.o rfl) fq))⟩
def ajv {B C D F G I J K L a d e f g i j k l o u w z A} {q:Int⊕(Kx)} (h:DH B C D F G I J K L a d e f g i j k l o u w z A=some q):fL prog bg 70 [.b 1000 0] ⟨aF,[(1000,.box (cP B C D F G I J K L a d e f g i j k l o u w z A))]⟩ (fun x s=>∃y:Kx,q=.inr y∧x=(.t [])∧s.H=[(1000,.box (cP y.1 y.2.1 y.2.2.1 y.2.2.2.1 y.2.2.2.2.1 y.2.2.2.2.2.1 y.2.2.2.2.2.2.1 y.2.2.2.2.2.2.2.1 y.2.2.2.2.2.2.2.2 a d e f g i j k l o u w z A))]) fun m s=>q=.inl m∧s.H=[]:=by
 refine px tok 49 func70 ?_;unfold DH at h;refine sq (Ok.nu (E:=bg) (chain:=[(26,[0,1,2,3,4,5,6,7,8,9,10,11,12,13,14,15,16,17,18,19,20,21,22,23,24,25,28,29]),(27,[24,25,28,29])]) tok mixed (by kernel_rfl) ?_);have ⟨x1,Ξ,h⟩:=κ h;refine ⟨_,rfl,_,rfl,_,rfl,_,rfl,_,rfl,_,⟨_,rfl,rfl⟩,_,rfl,_,rfl,_,rfl,_,rfl,_,⟨_,rfl,rfl⟩,_,rfl,_,rfl,_,rfl,_,rfl,_,⟨_,rfl,rfl⟩,_,rfl,_,rfl,_,rfl,_,rfl,_,⟨_,rfl,rfl⟩,_,⟨_,.fk (Qm Ξ) lz,rfl⟩,_,rfl,_,rfl,_,rfl,_,rfl,_,rfl,_,rfl,θ ⟨⟨⟨_,rfl,rfl⟩,⟨_,rfl,rfl⟩,⟨_,rfl,rfl⟩,⟨_,rfl,rfl⟩,⟨_,rfl,rfl⟩,⟨_,rfl,_,rfl,rfl⟩,⟨_,rfl,rfl⟩,⟨_,rfl,rfl⟩,⟨_,rfl,rfl⟩,⟨_,rfl,rfl⟩,⟨_,rfl,_,rfl,rfl⟩,⟨_,rfl,rfl⟩,⟨_,rfl,rfl⟩,⟨_,rfl,rfl⟩,⟨_,rfl,rfl⟩,⟨_,rfl,_,rfl,rfl⟩,⟨_,rfl,rfl⟩,⟨_,rfl,rfl⟩,⟨_,rfl,rfl⟩,⟨_,rfl,rfl⟩,⟨_,rfl,_,rfl,rfl⟩,⟨_,rfl,_,.fk (Qm Ξ) lz,rfl⟩,⟨_,rfl,rfl⟩,⟨_,rfl,rfl⟩,⟨_,rfl,rfl⟩,⟨_,rfl,rfl⟩,⟨_,rfl,rfl⟩,⟨_,rfl,rfl⟩,Q0⟩,θ (⟨_,rfl,⟨⟨_,rfl,rfl⟩,⟨_,rfl,rfl⟩,⟨_,rfl,rfl⟩,⟨_,rfl,rfl⟩,Q0⟩,?_⟩)⟩⟩;refine sq (Ok.cW bg tok ?_);have ⟨x2,au,h⟩:=κ h;refine θ (bX (cx [] [] (ku au) nq Q0 (fun e1 bE=>?_) (fun y1 cZ=>?_)))
 ·have h:=cw h bE;cases h;exact ⟨_,rfl,rfl⟩
 have h:=cy h cZ;refine Ok.p4 (m:=13) (late:=[1,9]) (MD:=⟨[]⟩) (CH:=⟨[]⟩) tok mixed (by kernel_rfl) ?_;have ⟨x3,aL,h⟩:=κ h;refine ⟨_,rfl,_,rfl,_,rfl,_,rfl,_,rfl,_,rfl,_,⟨_,rfl,rfl⟩,_,⟨_,rfl,rfl⟩,_,⟨_,.fk (Qr aL) lz,rfl⟩,_,rfl,_,rfl,_,rfl,_,rfl,Q0,?_⟩;refine ⟨_,rfl,⟨⟨_,rfl,rfl⟩,⟨_,rfl,rfl⟩,Q0⟩,_,rfl,?_⟩;cases h;exact ⟨_,rfl,wt Q1 J1 rfl⟩
def air {a b c r} (h:Ev a b c=some r):Pure prog 209 (k17 a b c) (.t [vi r.1,vi r.2]):=by
 refine pq tok 22 func209 ?_;unfold Ev at h;refine sg (sg ?_);have ⟨x1,Ξ,h⟩:=κ h;refine af.call (Yp Ξ) lz ?_;refine sq (sg ?_);refine ct h (fun hb h=>?_) fun hb h=>?_
 ·refine sg (rt ?_);cases h;exact (Fz.t fq)
 refine sk (sg ?_);have ⟨x2,au,h⟩:=κ h;refine ⟨_,bz au,_,bC au,_,rfl,?_⟩;refine rt ?_;cases h;exact (Fz.t fq)
def Qu {d e f g i j k l o t u w z A B C D E F G I J K} {q:Int⊕(oQ)} (h:yj d e f g i j k l o t u w z A B C D E F G I J K=some q):fL prog bg 127 [.b 1000 0] ⟨aF,[(1000,.box (cP d e f g i j k l o t u w z A B C D E F G I J K))]⟩ (fun x s=>∃y:oQ,q=.inr y∧x=(.a (k8 y.1 y.2.1 y.2.2.1 y.2.2.2.1 y.2.2.2.2.1 y.2.2.2.2.2))∧s.H=[(1000,.box (cP d e f g i j k l o t u w z A B C D E F G I J K))]) fun m s=>q=.inl m∧s.H=[]:=by
 refine px tok 36 func127 ?_;unfold yj at h;refine sg (sq (dw 21 tok mixed ?_));have ⟨x1,Ξ,h⟩:=κ h;refine ⟨_,rfl,_,rfl,_,rfl,_,rfl,_,⟨_,rfl,rfl⟩,_,rfl,_,rfl,_,rfl,_,rfl,_,⟨_,rfl,rfl⟩,_,rfl,_,rfl,_,rfl,_,rfl,_,⟨_,rfl,rfl⟩,_,⟨_,.fk (air Ξ) lz,rfl⟩,_,rfl,_,rfl,_,rfl,_,rfl,_,rfl,Q0,?_⟩;refine sq (Ok.cW bg tok ?_);have ⟨x2,au,h⟩:=κ h;refine θ (bX (cx [] [] (ku au) nq Q0 (fun e1 bE=>?_) (fun y1 cZ=>?_)))
 ·have h:=cw h bE;cases h;exact ⟨_,rfl,rfl⟩
 have h:=cy h cZ;refine sq (Ok.cW bg tok ?_);have ⟨x3,aL,h⟩:=κ h;refine θ (θ (θ (θ (θ (⟨_,rfl,θ ?_⟩)))));refine bX (cx [] [] (pN aL) nq Q0 (fun e2 dR=>?_) (fun y2 et=>?_))
 ·have h:=cw h dR;cases h;exact ⟨_,rfl,rfl⟩
 have h:=cy h et;refine sg ?_;have ⟨x4,bu,h⟩:=κ h;refine cg [(1000,1000)] [] (Yz bu) (.cons (Ln.b rfl) nq) ⟨⟨1000,_,rfl,rfl,.box nq⟩,Q0⟩ ?_;refine ⟨_,rfl,?_⟩;refine rt ?_;cases h;exact ⟨_,rfl,_,rfl,wt Q1 J1 rfl⟩
def YD {a r} (h:xV a=some r):i_ prog 128 [.s (mU a)] 5 1 (mU r):=by
 refine pv tok 8 func128 ?_;unfold xV at h;refine sg (sq (sg ?_));intro b1 cO;have h:=xO h b1 (fun e=>C4.1 (cO e));refine ct h (fun hb h=>?_) fun hb h=>?_
 ·refine sg (rt ?_);cases h;exact (.inl ⟨rfl,rfl⟩)
 refine sk (sg ?_);have ⟨aw,h⟩:=aG h;refine bX ⟨g_ (f:=dZ) (n:=1) (fun _=>rfl) a,ix (f:=dZ) (l:=([]:List UInt8)) (l':=a) aw,_,(fo (f:=dZ) (l₁:=([]:List UInt8)) (l₂:=a)).symm,?_⟩;refine rt ?_;cases h;exact (.inr ⟨_,rfl,rfl⟩)
def X9 {a r} (h:xV a=some r):Pure prog 128 [.s (mU a)] (.s (mU r)):=(YD h).pure
def ajI {e g i j k l o u w z A B C D a d E F G I J L N} {q:Int⊕(Int×(List UInt8))} (h:DR e g i j k l o u w z A B C D a d E F G I J L N=some q):fL prog bg 71 [.b 1000 0] ⟨aF,[(1000,.box (cP e g i j k l o u w z A B C D a d E F G I J L N))]⟩ (fun x s=>∃y:Int×(List UInt8),q=.inr y∧x=(.t [])∧s.H=[(1000,.box (k18 e g i j k l o u w z A B C D a d E F 0 y.1 0 0 0 y.2))]) fun m s=>q=.inl m∧s.H=[]:=by
 refine px tok 50 func71 ?_;unfold DR at h;refine sq (Ok.cW bg tok ?_);have ⟨x1,Ξ,h⟩:=κ h;refine θ (bX (cx [(1000,1000)] [] (Qu Ξ) (.cons (Ln.b rfl) .nil) ⟨⟨1000,_,rfl,rfl,.box nq⟩,Q0⟩ (fun e1 bE=>?_) (fun y1 cZ=>?_)))
 ·have h:=cw h bE;cases h;exact ⟨_,rfl,rfl⟩
 have h:=cy h cZ;refine θ (θ (⟨_,rfl,?_⟩));refine Ok.eW (fun v1=>⟨ar [(0,.b 1000 0),(2,.b 2 0)],[(1000,.box (cP e g i j k l o u w z A B C D a d E F G I J L N)),(2,.box (k8 y1.1 y1.2.1 y1.2.2.1 y1.2.2.2.1 y1.2.2.2.2.1 y1.2.2.2.2.2))]⟩) (fun v1=>HT a y1 d v1=some q) ?_ ?_
 ·refine Ok.cW bg tok (θ (θ (θ (θ (θ (⟨_,rfl,θ (θ ?_)⟩))))));have ⟨c1,Δ,h⟩:=κ h;refine Br.ite Δ (fun hb Δ=>?_) fun hb Δ=>?_
  ·refine θ (θ (θ (θ (θ (⟨_,rfl,θ ?_⟩)))));cases Δ;refine θ ?_;have ⟨x2,au,h⟩:=κ h;refine bX (cx [] [] (pN au) nq Q0 (fun e2 dR=>?_) (fun y2 et=>?_))
   ·have h:=cw h dR;cases h;exact ⟨_,rfl,rfl⟩
   have h:=cy h et;exact ⟨_,h,wt Q2 ⟨⟨_,rfl,.refl _⟩,⟨_,rfl,.refl _⟩,Q0⟩ rfl⟩
  cases Δ;refine θ ?_;have ⟨x2,au,h⟩:=κ h;refine bX (cx [] [] (pN au) nq Q0 (fun e2 dR=>?_) (fun y2 et=>?_))
  ·have h:=cw h dR;cases h;exact ⟨_,rfl,rfl⟩
  have h:=cy h et;exact ⟨_,h,wt Q2 ⟨⟨_,rfl,.refl _⟩,⟨_,rfl,.refl _⟩,Q0⟩ rfl⟩
 intro v1 h;unfold HT at h;refine sq (dw 13 tok mixed ?_);have ⟨aw,h⟩:=aG h;refine ⟨_,rfl,_,⟨_,rfl,rfl⟩,_,rfl,_,rfl,_,rfl,_,rfl,_,⟨_,rfl,rfl⟩,_,rfl,_,⟨_,rfl,rfl⟩,_,⟨_,ay _,fun _=>rfl⟩,_,⟨(min a (y1.2.2.2.1.length:Int)),rfl,rfl⟩,_,⟨_,kZ aw.1,wV aw,Nat.le_refl _,wQ (f:=dZ) (K:=1) (fun _=>rfl) y1.2.2.2.1,_,Pr _ _ _,rfl⟩,_,rfl,Q0,?_⟩;refine dw 17 tok mixed ?_;have ⟨br,h⟩:=aG h;have ⟨x3,aL,h⟩:=κ h;refine ⟨_,rfl,_,rfl,_,⟨_,rfl,rfl⟩,_,rfl,_,rfl,_,rfl,_,rfl,_,rfl,_,⟨_,rfl,rfl⟩,_,rfl,_,⟨_,ay _,fun _=>rfl⟩,_,⟨(min d ((y1.2.2.2.1.drop (min a (y1.2.2.2.1.length:Int)).toNat).length:Int)),rfl,rfl⟩,_,⟨_,kZ br.1,Nat.zero_le _,wV br,wQ (f:=dZ) (K:=1) (fun _=>rfl) (y1.2.2.2.1.drop (min a (y1.2.2.2.1.length:Int)).toNat),_,J0 _ _ _,rfl⟩,_,⟨_,.fk (X9 aL) lz,rfl⟩,_,rfl,_,rfl,_,rfl,Q0,_,rfl,?_⟩;cases h;exact ⟨_,rfl,wt Q1 J1 rfl⟩
end Go.Proofs
