/- The walks of this seat beside the plain programs, part 5. No condition. -/
import Derived.Test.YtdcgbodbejgliaaGreatDoorXTopClientsHb
import Derived.Test.YtdcgbodbejgliaaGreatDoorXTopClientsWk0
import Derived.Test.YtdcgbodbejgliaaGreatDoorXTopClientsWk1
import Derived.Test.YtdcgbodbejgliaaGreatDoorXTopClientsWk2
import Derived.Test.YtdcgbodbejgliaaGreatDoorXTopClientsWk3
import Derived.Test.YtdcgbodbejgliaaGreatDoorXTopClientsWk4
open List renaming length_map → az, map → aT, map_append → fu
open Nat renaming lt_of_le_of_lt → gx
open Or renaming inl → θ, inr → bY
namespace Go.Proofs
set_option linter.all false
open Go Go.Cat Tryz
variable [M:bM]
set_option maxRecDepth 100000
set_option maxHeartbeats 4000000
def YE {c e d r} (h:Ad c e d=some r):Pure prog 210 [.a (b0 c),vi e,.s (mU d)] (.t [.a (b0 r.1),vi r.2]):=by
 refine pq tok 44 func210 ?_;unfold Ad at h;refine sg (sg ⟨_,rfl,?_⟩);refine sg ?_;have ⟨x1,Ξ,h⟩:=κ h;refine af.eB (id:=13) (qF Ξ) rfl (.box lz) rfl (.cons (Lr.b) (.cons (Lr.dG rfl) .nil)) ?_;rintro _ _ ⟨rfl,rfl⟩;refine ⟨_,rfl,?_⟩;refine sq (bl (sg ?_));refine ct h (fun hb h=>?_) fun hb h=>?_
 ·refine sg ⟨_,rfl,_,rfl,?_⟩;refine rt ?_;cases h;exact ⟨_,rfl,Fz.t fq⟩
 refine sg ⟨_,rfl,?_⟩;refine ct h (fun hb h=>?_) fun hb h=>?_
 ·refine sg ⟨_,rfl,_,rfl,?_⟩;refine rt ?_;cases h;exact ⟨_,rfl,Fz.t fq⟩
 refine sg ⟨_,az _,fun _=>?_⟩;refine ct h (fun hb h=>?_) fun hb h=>?_
 ·refine sg ⟨_,rfl,_,rfl,?_⟩;refine rt ?_;cases h;exact ⟨_,rfl,Fz.t fq⟩
 refine sk (sg ?_);have ⟨x2,au,h⟩:=κ h;refine af.call (Yk au) lz ?_;refine ⟨_,rfl,?_⟩;refine sg ?_;have ⟨x3,aM,h⟩:=κ h;refine ⟨_,rfl,?_⟩;refine cg [(1000,13)] [(19,999)] (GN aM) (.cons (Ln.b rfl) nq) ⟨⟨13,_,rfl,rfl,.box nq⟩,Q0⟩ ?_;refine sg ⟨_,rfl,_,rfl,?_⟩;refine rt ?_;cases h;exact ⟨_,rfl,Fz.t (.cons (Fz.a (.cons (Fz.o rfl) fq)) fq)⟩
def ajI {a F G I J K L N O d P e f g i j k l u z A B C D w} {q:Int⊕(pO)} (h:yo a F G I J K L N O d P e f g i j k l u z A B C D w=some q):fP prog bh 129 [.b 1000 0,vi a,.o 1001] ⟨aF,[(1000,.box (cP F G I J K L N O d P e f g i j k l u z A B C D)),(1001,.own 5 1 (mU w))]⟩ (fun x s=>∃y:pO,q=.inr y∧x=(.t [])∧s.H=[(1000,.box [.s (mI y.1),vi y.2.1,vi y.2.2.1,vi y.2.2.2.1,.s (mB y.2.2.2.2.1),.s (mC y.2.2.2.2.2.1),.s (mA y.2.2.2.2.2.2.1),vi y.2.2.2.2.2.2.2.1,.s (mE d),.o 999,vi e,vi f,vs g,vs i,vi j,vi k,vi l,.s (mU u),vi (0),vi a,vi (0),vi (0),(vi (w.length:Int)),zs,zs]),(999,.own 86 3 (mD (t8 y)))]) fun m s=>q=.inl m∧s.H=[]:=by
 refine px tok 37 func129 ?_;unfold yo at h;refine sg ?_;have ⟨x1,Ξ,h⟩:=κ h;refine ⟨_,rfl,?_⟩;refine af.freeze (id:=1001) rfl (af.call (YE Ξ) lz ?_);refine ⟨_,rfl,?_⟩;refine sq (Ok.cV bh tok ?_);have ⟨x2,au,h⟩:=κ h;refine θ (bY (cx [] [] (ku au) nq Q0 (fun e1 bD=>?_) (fun y1 cY=>?_)))
 ·have h:=cw h bD;cases h;exact ⟨_,rfl,rfl⟩
 have h:=cy h cY;refine sq (Ok.nu (E:=bh) (chain:=[(7,[])]) tok mixed (by kernel_rfl) ?_);have ⟨x3,aM,h⟩:=κ h;refine ⟨_,rfl,_,⟨_,rfl,rfl⟩,_,rfl,_,rfl,_,rfl,_,rfl,_,⟨_,rfl,rfl⟩,?_⟩;refine bY (cx [(1000,1000)] [(35,999)] (Ao aM) (.cons (Ln.b rfl) nq) ⟨⟨1000,_,rfl,rfl,.box nq⟩,Q0⟩ (fun e2 dS=>?_) (fun y2 eu=>?_))
 ·have h:=cw h dS;cases h;exact ⟨_,rfl,rfl⟩
 have h:=cy h eu;refine ⟨Q0,?_⟩;refine rg ⟨_,az _,fun _=>⟨_,rfl,?_⟩⟩;cases h;exact ⟨_,rfl,wt Q1 J2 rfl⟩
def ajW {w A B C E F G I e J g i j k d l u a K L N O P} {q:Int⊕(CV)} (h:D_ w A B C E F G I e J g i j k d l u a K L N O P=some q):fP prog bh 72 [.b 1000 0] ⟨aF,[(1000,.box (cP w A B C E F G I e J g i j k d l u a K L N O P))]⟩ (fun x s=>∃y:CV,q=.inr y∧x=(.t [])∧s.H=[(1000,.box [.s (mI y.1),vi y.2.1,vi y.2.2.1,vi y.2.2.2.1,.s (mB y.2.2.2.2.1),.s (mC y.2.2.2.2.2.1),.s (mA y.2.2.2.2.2.2.1),vi y.2.2.2.2.2.2.2.1,.s (mE e),.o 999,vi g,vi i,vs j,vs k,vi d,vi l,vi u,.s (mU a),vi (0),vi (t8 y).1,vi (0),vi (0),vi (t8 y).2.1,zs,zs]),(999,.own 86 3 (mD (t8 y).2.2))]) fun m s=>q=.inl m∧s.H=[]:=by
 refine px tok 64 func72 ?_;unfold D_ at h;refine sq (Ok.cV bh tok ?_);have ⟨x1,Ξ,h⟩:=κ h;refine θ (bY (cx [(1000,1000)] [] (QF Ξ) (.cons (Ln.b rfl) .nil) ⟨⟨1000,_,rfl,rfl,.box nq⟩,Q0⟩ (fun e1 bD=>?_) (fun y1 cY=>?_)))
 ·have h:=cw h bD;cases h;exact ⟨_,rfl,rfl⟩
 have h:=cy h cY;refine θ (θ (⟨_,rfl,?_⟩));refine sq (Ok.cV bh tok ?_);have ⟨x2,au,h⟩:=κ h;refine θ (θ (θ (θ (θ (⟨_,rfl,θ ?_⟩)))));refine bY (cx [] [] (pR au) nq Q0 (fun e2 dS=>?_) (fun y2 eu=>?_))
 ·have h:=cw h dS;cases h;exact ⟨_,rfl,rfl⟩
 have h:=cy h eu;refine sq (dw 13 tok mixed ?_);have ⟨ax,h⟩:=aG h;refine ⟨_,rfl,_,rfl,_,rfl,_,rfl,_,⟨_,rfl,rfl⟩,_,rfl,_,rfl,_,rfl,_,rfl,_,⟨_,rfl,rfl⟩,_,⟨_,az _,fun _=>rfl⟩,_,θ ⟨ax,rfl⟩,_,rfl,Q0,?_⟩;refine sq (Ok.cV bh tok ?_);have ⟨x3,aM,h⟩:=κ h;refine θ (θ ?_);refine bY (cx [] [] (pR aM) nq Q0 (fun e3 jP=>?_) (fun y3 jD=>?_))
 ·have h:=cw h jP;cases h;exact ⟨_,rfl,rfl⟩
 have h:=cy h jD;refine sg ?_;have ⟨x4,bw,h⟩:=κ h;refine ⟨_,rfl,?_⟩;refine af.own (D:=31) (YP bw) lz rfl ?_;have ⟨v1,ν,h⟩:=κ h;refine Ok.bj ⟨ar [(0,.b 1000 0),(2,.b 2 0),(4,.o 31)],[(1000,.box (cP w A B C E F G I e J g i j k d l u a K L N O P)),(2,.box (k8 y1.1 y1.2.1 y1.2.2.1 y1.2.2.2.1 y1.2.2.2.2.1 y1.2.2.2.2.2)),(31,.own 5 1 (mU v1))]⟩ ?_ ?_
 ·refine sg ⟨_,rfl,_,az _,fun _=>?_⟩;refine ct ν (fun hb ν=>?_) fun hb ν=>?_
  ·refine sg ?_;have ⟨bt,ν⟩:=aG ν;have ⟨ep,ν⟩:=aG ν;refine ⟨_,az _,fun _=>(θ ⟨bt,max ((d+(a.length:Int))-(x4.length:Int)) (0),rfl,_,lf ep.1,Z8 (f:=dZ) ep,_,Z9 (f:=dZ) (z:=(0:UInt8)),?_⟩)⟩;refine dw 12 tok mixed ?_;have ⟨kN,ν⟩:=aG ν;refine ⟨_,rfl,_,rfl,_,rfl,_,rfl,_,rfl,_,⟨_,rfl,rfl⟩,_,⟨_,lf kN.1,FY kN,rfl⟩,_,rfl,_,rfl,_,rfl,_,rfl,_,⟨_,rfl,rfl⟩,Q0,hZ (f:=dZ) (n:=1) (fun _=>rfl) a,_,aat dZ (x4++List.replicate (max ((d+(a.length:Int))-(x4.length:Int)) (0)).toNat (0:UInt8)) (d.toNat) a,?_⟩;cases ν;exact wt Q3 J3 rfl
  refine sk ?_;cases ν;exact wt Q3 J3 rfl
 refine Ok.cV bh tok ?_;have ⟨x5,dv,h⟩:=κ h;refine θ (θ (θ (⟨_,rfl,θ ?_⟩)));refine bY (cx [(1000,1000),(1001,31)] [(999,999)] (ajI dv) (.cons (Ln.b rfl) (n1 (.cons (Ln.o rfl) .nil))) ⟨⟨1000,_,rfl,rfl,.box nq⟩,⟨31,_,rfl,rfl,.refl rfl⟩,Q0⟩ (fun e4 j_=>?_) (fun y4 uV=>?_))
 ·have h:=cw h j_;cases h;exact ⟨_,rfl,rfl⟩
 have h:=cy h uV;cases h;exact ⟨_,rfl,wt Q1 J2 rfl⟩
def ajJ {a d F G I J K L N O e P f g i j k l u w z A B C D} {q:Int⊕(pO)} (h:Mu a d F G I J K L N O e P f g i j k l u w z A B C D=some q):fP prog bh 129 [.b 1000 0,vi a,.s (mU d)] ⟨aF,[(1000,.box (cP F G I J K L N O e P f g i j k l u w z A B C D))]⟩ (fun x s=>∃y:pO,q=.inr y∧x=(.t [])∧s.H=[(1000,.box [.s (mI y.1),vi y.2.1,vi y.2.2.1,vi y.2.2.2.1,.s (mB y.2.2.2.2.1),.s (mC y.2.2.2.2.2.1),.s (mA y.2.2.2.2.2.2.1),vi y.2.2.2.2.2.2.2.1,.s (mE e),.o 999,vi f,vi g,vs i,vs j,vi k,vi l,vi u,.s (mU w),vi (0),vi a,vi (0),vi (0),(vi (d.length:Int)),zs,zs]),(999,.own 86 3 (mD (t8 y)))]) fun m s=>q=.inl m∧s.H=[]:=by
 refine px tok 37 func129 ?_;unfold Mu at h;refine sg ?_;have ⟨x1,Ξ,h⟩:=κ h;refine ⟨_,rfl,?_⟩;refine af.call (YE Ξ) lz ?_;refine ⟨_,rfl,?_⟩;refine sq (Ok.cV bh tok ?_);have ⟨x2,au,h⟩:=κ h;refine θ (bY (cx [] [] (ku au) nq Q0 (fun e1 bD=>?_) (fun y1 cY=>?_)))
 ·have h:=cw h bD;cases h;exact ⟨_,rfl,rfl⟩
 have h:=cy h cY;refine sq (Ok.nu (E:=bh) (chain:=[(7,[])]) tok mixed (by kernel_rfl) ?_);have ⟨x3,aM,h⟩:=κ h;refine ⟨_,rfl,_,⟨_,rfl,rfl⟩,_,rfl,_,rfl,_,rfl,_,rfl,_,⟨_,rfl,rfl⟩,?_⟩;refine bY (cx [(1000,1000)] [(35,999)] (Ao aM) (.cons (Ln.b rfl) nq) ⟨⟨1000,_,rfl,rfl,.box nq⟩,Q0⟩ (fun e2 dS=>?_) (fun y2 eu=>?_))
 ·have h:=cw h dS;cases h;exact ⟨_,rfl,rfl⟩
 have h:=cy h eu;refine ⟨Q0,?_⟩;refine rg ⟨_,az _,fun _=>⟨_,rfl,?_⟩⟩;cases h;exact ⟨_,rfl,wt Q1 J2 rfl⟩
def ajG {w z A B C D F G d I e g i j a k l u J L N O P} {q:Int⊕(CV)} (h:DU w z A B C D F G d I e g i j a k l u J L N O P=some q):fP prog bh 73 [.b 1000 0] ⟨aF,[(1000,.box (cP w z A B C D F G d I e g i j a k l u J L N O P))]⟩ (fun x s=>∃y:CV,q=.inr y∧x=(.t [])∧s.H=[(1000,.box [.s (mI y.1),vi y.2.1,vi y.2.2.1,vi y.2.2.2.1,.s (mB y.2.2.2.2.1),.s (mC y.2.2.2.2.2.1),.s (mA y.2.2.2.2.2.2.1),vi y.2.2.2.2.2.2.2.1,.s (mE d),.o 999,vi e,vi g,vs i,vs j,vi a,vi k,vi l,.s (mU u),vi (0),vi (t8 y).1,vi (0),vi (0),vi (t8 y).2.1,zs,zs]),(999,.own 86 3 (mD (t8 y).2.2))]) fun m s=>q=.inl m∧s.H=[]:=by
 refine px tok 21 func73 ?_;unfold DU at h;refine sq (Ok.cV bh tok ?_);have ⟨x1,Ξ,h⟩:=κ h;refine θ (bY (cx [(1000,1000)] [] (QF Ξ) (.cons (Ln.b rfl) .nil) ⟨⟨1000,_,rfl,rfl,.box nq⟩,Q0⟩ (fun e1 bD=>?_) (fun y1 cY=>?_)))
 ·have h:=cw h bD;cases h;exact ⟨_,rfl,rfl⟩
 have h:=cy h cY;refine θ (θ (⟨_,rfl,?_⟩));refine Ok.nu (E:=bh) (chain:=[(15,[])]) tok mixed (by kernel_rfl) ?_;have ⟨ax,h⟩:=aG h;have ⟨x2,au,h⟩:=κ h;refine ⟨_,rfl,_,rfl,_,⟨_,rfl,rfl⟩,_,rfl,_,⟨_,rfl,rfl⟩,_,rfl,_,rfl,_,rfl,_,rfl,_,⟨_,rfl,rfl⟩,_,rfl,_,⟨_,rfl,rfl⟩,_,⟨_,az _,fun _=>rfl⟩,_,⟨(min a (y1.2.2.2.1.length:Int)),rfl,rfl⟩,_,⟨_,lf ax.1,Nat.zero_le _,w_ ax,w7 (f:=dZ) (K:=1) (fun _=>rfl) y1.2.2.2.1,_,Km _ _ _,rfl⟩,?_⟩;refine bY (cx [(1000,1000)] [(999,999)] (ajJ au) (.cons (Ln.b rfl) nq) ⟨⟨1000,_,rfl,rfl,.box nq⟩,Q0⟩ (fun e2 dS=>?_) (fun y2 eu=>?_))
 ·have h:=cw h dS;cases h;exact ⟨_,rfl,rfl⟩
 have h:=cy h eu;refine ⟨Q0,?_⟩;cases h;exact ⟨_,rfl,wt Q1 J2 rfl⟩
def aiW {c g i d e r} (h:B9 c g i d e=some r):Pure prog 130 [.a (b0 c),.s (mD g),vi i,vi d,vi e] (.t [.s (mD r.1),vi r.2]):=by
 refine pq tok 88 func130 ?_;unfold B9 at h;refine sg (sg ?_);have ⟨x1,Ξ,h⟩:=κ h;refine ⟨_,rfl,?_⟩;refine af.call (se Ξ) lz ?_;refine ⟨_,rfl,?_⟩;refine sq (sg ?_);refine ct h (fun hb h=>?_) fun hb h=>?_
 ·refine sg (rt ?_);cases h;exact (Fz.t (.cons Fz.s fq))
 refine sk (sq (sg ?_));refine ⟨_,rfl,?_⟩;refine ct h (fun hb h=>?_) fun hb h=>?_
 ·refine sg (rt ?_);cases h;exact (Fz.t (.cons Fz.s fq))
 refine sk (sg ?_);have ⟨x2,au,h⟩:=κ h;refine af.call (Ys au) lz ?_;refine sq (sg ?_);refine ct h (fun hb h=>?_) fun hb h=>?_
 ·have ⟨v1,ν,h⟩:=κ h;refine Ok.bj ⟨ar [(1,.s (mD v1))],[]⟩ ?_ ?_
  ·refine sg (ct ν (fun hb ν=>?_) fun hb ν=>?_)
   ·refine rg ?_;have ⟨x3,aM,ν⟩:=κ ν;refine af.own (D:=42) (KZ aM) lz rfl ?_;have ⟨ax,ν⟩:=aG ν;have ⟨bt,ν⟩:=aG ν;refine (θ ⟨ax,?_⟩);refine cg [(1000,42)] [(900,42)] (ade x3 x2.1 (x2.1+1) bt) (.cons (Ln.o rfl) nq) ⟨⟨42,_,rfl,rfl,.refl rfl⟩,Q0⟩ ?_;cases ν;exact (Wk.freeze (id:=42) rfl).trans (wt Q1 Q0 rfl)
   refine sk ?_;cases ν;exact wt Q1 Q0 rfl
  refine sg (rt ?_);cases h;exact (Fz.t (.cons Fz.s fq))
 refine sk (sg ?_);refine ⟨_,rfl,?_⟩;refine sq (sg ?_);have ⟨x4,bw,h⟩:=κ h;refine ⟨_,rfl,?_⟩;refine af.call (Yr bw) lz ?_;refine bl ?_;have ⟨v2,aw,h⟩:=κ h;refine Ok.bj ⟨ar [(1,.s (mD g)),(14,vi x2.1),(15,vb x2.2),(16,.b 16 0),(58,vb v2)],[(16,.box (Jg i d e))]⟩ ?_ ?_
 ·refine rg ?_;have ⟨c1,Δ,aw⟩:=κ aw;refine Br.ei Δ (fun hb Δ=>?_) fun hb Δ=>?_
  ·cases Δ;cases aw;exact wt Q5 J1 rfl
  cases Δ;cases aw;exact wt Q5 J1 rfl
 refine ct h (fun hb h=>?_) fun hb h=>?_
 ·refine sg (rt ?_);cases h;exact (Fz.t (.cons Fz.s fq))
 refine sg (ct h (fun hb h=>?_) fun hb h=>?_)
 ·refine sg ?_;have ⟨x5,dv,h⟩:=κ h;refine af.own (D:=71) (KZ dv) lz rfl ?_;refine sg ?_;have ⟨x6,gY,h⟩:=κ h;refine ⟨_,rfl,_,bK gY,wN gY,_,bL gY,rfl,_,rfl,_,FM (f:=mL) (x:=(⟨i,d,e⟩:aA)),?_⟩;refine sg (rt ?_);cases h;exact (Fz.t (.cons (Fz.o rfl) fq))
 refine sg ⟨_,az _,fun _=>?_⟩;refine ct h (fun hb h=>?_) fun hb h=>?_
 ·refine sg (rt ?_);cases h;exact (Fz.t (.cons Fz.s fq))
 refine sk (sq (Ok.nu (E:=bh) (chain:=[(1,[2,3,4,7]),(5,[7]),(6,[7])]) tok mixed (by kernel_rfl) ?_));have ⟨x7,gF,h⟩:=κ h;refine ⟨_,rfl,_,rfl,_,⟨_,rfl,rfl⟩,_,rfl,_,rfl,?_⟩;refine θ (af.own (D:=83) (KZ gF) lz rfl ?_);have ⟨ep,h⟩:=aG h;refine ⟨⟨⟨_,rfl,rfl⟩,⟨_,rfl,_,rfl,rfl⟩,⟨_,rfl,rfl⟩,⟨_,rfl,rfl⟩,Q0⟩,?_⟩;refine θ (cg [(1000,83)] [(900,83)] (adf x7 x2.1 ([(⟨i,d,e⟩:aA)]) ep) (.cons (Ln.o rfl) nq) ⟨⟨83,_,rfl,rfl,.refl rfl⟩,Q0⟩ ?_);refine ⟨⟨⟨_,rfl,rfl⟩,Q0⟩,θ ⟨⟨⟨_,rfl,rfl⟩,Q0⟩,?_⟩⟩;refine rt ?_;cases h;exact (Fz.t (.cons (Fz.o rfl) fq))
def ajK {C D E F G I J K a L d e f g i j k l u B w z A} {q:Int⊕(n_)} (h:DW C D E F G I J K a L d e f g i j k l u B w z A=some q):fP prog bh 74 [.b 1000 0] ⟨aF,[(1000,.box (cP C D E F G I J K a L d e f g i j k l u B w z A))]⟩ (fun x s=>∃y:n_,q=.inr y∧x=(.t [])∧s.H=[(1000,.box [.s (mI y.1),vi y.2.1,vi y.2.2.1,vi y.2.2.2.1,.s (mB y.2.2.2.2.1),.s (mC y.2.2.2.2.2.1),.s (mA y.2.2.2.2.2.2.1),vi y.2.2.2.2.2.2.2.1,.s (mE a),.o 999,vi d,vi e,vs f,vs g,vi i,vi j,vi k,.s (mU l),vi u,vi (t8 y).1,vi w,vi z,vi A,zs,zs]),(999,.own 86 3 (mD (t8 y).2))]) fun m s=>q=.inl m∧s.H=[]:=by
 refine px tok 56 func74 ?_;unfold DW at h;refine sq (Ok.cV bh tok ?_);have ⟨x1,Ξ,h⟩:=κ h;refine θ (θ (θ (θ (θ (θ (⟨_,rfl,?_⟩))))));refine bY (cx [(1000,1000)] [] (Ap Ξ) (.cons (Ln.b rfl) nq) ⟨⟨1000,_,rfl,rfl,.box nq⟩,Q0⟩ (fun e1 bD=>?_) (fun y1 cY=>?_))
 ·have h:=cw h bD;cases h;exact ⟨_,rfl,rfl⟩
 have h:=cy h cY;refine θ (θ (⟨_,rfl,?_⟩));refine sq (dw 29 tok mixed ?_);have ⟨x2,au,h⟩:=κ h;refine ⟨_,rfl,_,rfl,_,rfl,_,rfl,_,rfl,_,⟨_,rfl,rfl⟩,_,rfl,_,rfl,_,rfl,_,rfl,_,⟨_,rfl,rfl⟩,_,rfl,_,⟨_,rfl,rfl⟩,_,rfl,_,rfl,_,rfl,_,rfl,_,⟨_,rfl,rfl⟩,_,rfl,_,rfl,_,rfl,_,rfl,_,⟨_,rfl,rfl⟩,_,⟨_,.fE (aiW au) lz,rfl⟩,_,rfl,_,rfl,_,rfl,_,rfl,_,rfl,Q0,?_⟩;refine sq (Ok.cV bh tok ?_);have ⟨x3,aM,h⟩:=κ h;refine θ (bY (cx [] [] (ku aM) nq Q0 (fun e2 dS=>?_) (fun y2 eu=>?_)))
 ·have h:=cw h dS;cases h;exact ⟨_,rfl,rfl⟩
 have h:=cy h eu;refine sq (Ok.cV bh tok ?_);have ⟨x4,bw,h⟩:=κ h;refine θ (θ (θ (θ (θ (θ (θ (⟨_,rfl,θ ?_⟩)))))));refine bY (cx [(1000,1000)] [(35,999)] (Ao bw) (.cons (Ln.b rfl) nq) ⟨⟨1000,_,rfl,rfl,.box nq⟩,Q0⟩ (fun e3 jP=>?_) (fun y3 jD=>?_))
 ·have h:=cw h jP;cases h;exact ⟨_,rfl,rfl⟩
 have h:=cy h jD;refine rg ⟨_,rfl,_,rfl,?_⟩;cases h;exact ⟨_,rfl,wt Q1 J2 rfl⟩
def aki {a r} (h:F7 a=some r):iZ prog 214 [.s (mA a)] 105 3 (mA r):=by
 refine pv tok 8 func214 ?_;unfold F7 at h;refine sg (sq (sg ?_));intro b1 cO;have h:=xS h b1 (fun e=>List.map_eq_nil_iff.1 (cO e));refine ct h (fun hb h=>?_) fun hb h=>?_
 ·refine sg (rt ?_);cases h;exact (.inl ⟨rfl,rfl⟩)
 refine sk (sg ?_);have ⟨ax,h⟩:=aG h;refine bY ⟨hZ (f:=q7) (n:=3) (fun _=>rfl) a,iy (f:=q7) (l:=([]:List bd)) (l':=a) ax,_,(fu (f:=q7) (l₁:=([]:List bd)) (l₂:=a)).symm,?_⟩;refine rt ?_;cases h;exact (.inr ⟨_,rfl,rfl⟩)
def Yv {c d r} (h:Cj c d=some r):Pure prog 131 [.a (b1 c),vi d] (.t [.a (b1 r.1),vi r.2.1,vi r.2.2]):=by
 refine pq tok 56 func131 ?_;unfold Cj at h;refine sg (sg ?_);have ⟨x1,Ξ,h⟩:=κ h;refine ⟨_,rfl,?_⟩;refine af.call (se Ξ) lz ?_;refine ⟨_,rfl,?_⟩;refine sq (bl (sg ?_));refine ct h (fun hb h=>?_) fun hb h=>?_
 ·refine sg ⟨_,rfl,_,rfl,?_⟩;refine rt ?_;cases h;exact ⟨_,rfl,Fz.t fq⟩
 refine sg ⟨_,rfl,?_⟩;refine ct h (fun hb h=>?_) fun hb h=>?_
 ·refine sg ⟨_,rfl,_,rfl,?_⟩;refine rt ?_;cases h;exact ⟨_,rfl,Fz.t fq⟩
 have ⟨v1,ν,h⟩:=κ h;refine Ok.bj ⟨ar [(1,vi d),(2,.b 2 0),(4,.b 4 0),(26,vb v1)],[(2,.box (b1 c)),(4,.box (k3 0 0 0 0))]⟩ ?_ ?_
 ·refine rg ⟨_,rfl,_,az _,fun _=>?_⟩;have ⟨c1,Δ,ν⟩:=κ ν;refine Br.ei Δ (fun hb Δ=>?_) fun hb Δ=>?_
  ·cases Δ;cases ν;exact wt Q4 J2 rfl
  refine ⟨_,rfl,?_⟩;cases Δ;cases ν;exact wt Q4 J2 rfl
 refine ct h (fun hb h=>?_) fun hb h=>?_
 ·refine sg ⟨_,rfl,_,rfl,?_⟩;refine rt ?_;cases h;exact ⟨_,rfl,Fz.t fq⟩
 refine sk (sg ?_);refine ⟨_,rfl,?_⟩;refine sq ?_;have ⟨x2,au,h⟩:=κ h;have ⟨ax,h⟩:=aG h;refine Ok.draw (m:=9) (MD:=⟨[41]⟩) (CH:=⟨[(41,.own 105 3 (mA x2))]⟩) tok mixed (by kernel_rfl) ?_;refine ⟨_,rfl,_,⟨_,rfl,rfl⟩,_,rfl,_,rfl,_,rfl,_,⟨_,rfl,rfl⟩,_,rfl,_,rfl,⟨⟨_,(aki au).makes,lz⟩,Q0⟩,hZ (f:=q7) (n:=3) (fun _=>rfl) ([(⟨c.Next,d,c.bc⟩:bd)]),iy (f:=q7) (l:=x2) (l':=[(⟨c.Next,d,c.bc⟩:bd)]) ax,_,(fu (f:=q7) (l₁:=x2) (l₂:=[(⟨c.Next,d,c.bc⟩:bd)])).symm,_,rfl,?_⟩;refine sg ?_;have ⟨bt,h⟩:=aG h;refine ⟨_,rfl,θ ⟨bt,_,rfl,?_⟩⟩;refine sg ⟨_,rfl,_,rfl,?_⟩;refine rt ?_;cases h;exact ⟨_,rfl,Fz.t (.cons (Fz.a (.cons Fz.s (.cons Fz.v (.cons Fz.v (.cons Fz.v (.cons Fz.s (.cons Fz.s (.cons (Fz.o rfl) fq)))))))) fq)⟩
def ajU {B C D F G I J K a d e f g i j k l o u w z L A} {q:Int⊕((List τ)×Int×Int×Int×(List Int)×(List br)×(List bd)×Int×Int)} (h:D8 B C D F G I J K a d e f g i j k l o u w z L A=some q):fP prog bh 75 [.b 1000 0] ⟨aF,[(1000,.box (cP B C D F G I J K a d e f g i j k l o u w z L A))]⟩ (fun x s=>∃y:(List τ)×Int×Int×Int×(List Int)×(List br)×(List bd)×Int×Int,q=.inr y∧x=(.t [])∧s.H=[(1000,.box (cP y.1 y.2.1 y.2.2.1 y.2.2.2.1 y.2.2.2.2.1 y.2.2.2.2.2.1 y.2.2.2.2.2.2.1 y.2.2.2.2.2.2.2.1 a d e f g i j k l o u w z (t8 y) A))]) fun m s=>q=.inl m∧s.H=[]:=by
 refine px tok 37 func75 ?_;unfold D8 at h;refine sq (Ok.cV bh tok ?_);have ⟨x1,Ξ,h⟩:=κ h;refine θ (θ (θ (θ (θ (θ (⟨_,rfl,?_⟩))))));refine bY (cx [(1000,1000)] [] (Ap Ξ) (.cons (Ln.b rfl) nq) ⟨⟨1000,_,rfl,rfl,.box nq⟩,Q0⟩ (fun e1 bD=>?_) (fun y1 cY=>?_))
 ·have h:=cw h bD;cases h;exact ⟨_,rfl,rfl⟩
 have h:=cy h cY;refine θ (θ (⟨_,rfl,?_⟩));refine sq (Ok.nu (E:=bh) (chain:=[(12,[0,1,2,3,4,5,6,7,8,9,10,11,14,15]),(13,[10,11,14,15])]) tok mixed (by kernel_rfl) ?_);have ⟨x2,au,h⟩:=κ h;refine ⟨_,rfl,_,rfl,_,rfl,_,rfl,_,⟨_,rfl,rfl⟩,_,rfl,_,⟨_,rfl,rfl⟩,_,⟨_,.fE (Yv au) lz,rfl⟩,_,rfl,_,rfl,_,rfl,_,rfl,_,rfl,_,rfl,θ ⟨⟨⟨_,rfl,rfl⟩,⟨_,rfl,rfl⟩,⟨_,rfl,rfl⟩,⟨_,rfl,rfl⟩,⟨_,rfl,_,rfl,rfl⟩,⟨_,rfl,rfl⟩,⟨_,rfl,_,rfl,rfl⟩,⟨_,rfl,_,.fE (Yv au) lz,rfl⟩,⟨_,rfl,rfl⟩,⟨_,rfl,rfl⟩,⟨_,rfl,rfl⟩,⟨_,rfl,rfl⟩,⟨_,rfl,rfl⟩,⟨_,rfl,rfl⟩,Q0⟩,θ (⟨_,rfl,⟨⟨_,rfl,rfl⟩,⟨_,rfl,rfl⟩,⟨_,rfl,rfl⟩,⟨_,rfl,rfl⟩,Q0⟩,?_⟩)⟩⟩;refine sq (Ok.cV bh tok ?_);have ⟨x3,aM,h⟩:=κ h;refine θ (bY (cx [] [] (ku aM) nq Q0 (fun e2 dS=>?_) (fun y2 eu=>?_)))
 ·have h:=cw h dS;cases h;exact ⟨_,rfl,rfl⟩
 have h:=cy h eu;refine rg ⟨_,rfl,_,rfl,_,rfl,?_⟩;cases h;exact ⟨_,rfl,wt Q1 J1 rfl⟩
def aj4 {e g j k r} (h:FQ e g j k=some r):af prog 261 [vi e,.b 1000 0,.b 1002 0,.b 1004 0,.b 1006 0] ⟨aF,[(1000,.box [.m 1001]),(1001,.mp true (aT (fun p=>(p.1,jv p.2)) g)),(1002,.box [.m 1003]),(1003,.mp true (aT (fun p=>(p.1,dh p.2)) j)),(1004,.box [.o 1005]),(1005,.own 44 6 (mI k)),(1006,.box [.c (.func 261) [] [.b 1000 0,.b 1002 0,.b 1004 0,.b 1006 0]])]⟩ fun x s=>x=(vb r.1)∧s.H=[(1000,.box [.m 1001]),(1001,.mp true (aT (fun p=>(p.1,jv p.2)) r.2.1)),(1002,.box [.m 1003]),(1003,.mp true (aT (fun p=>(p.1,dh p.2)) r.2.2.1)),(1004,.box [.o 999]),(1006,.box [.c (.func 261) [] [.b 1000 0,.b 1002 0,.b 1004 0,.b 1006 0]]),(999,.own 44 6 (mI r.2.2.2))]:=by
 unfold FQ at h;refine SX (p:=fun (a:Int×iK) (r:Bool×iK)=>af prog 261 [vi a.1,.b 1000 0,.b 1002 0,.b 1004 0,.b 1006 0] ⟨aF,[(1000,.box [.m 1001]),(1001,.mp true (aT (fun p=>(p.1,jv p.2)) a.2.1)),(1002,.box [.m 1003]),(1003,.mp true (aT (fun p=>(p.1,dh p.2)) a.2.2.1)),(1004,.box [.o 1005]),(1005,.own 44 6 (mI a.2.2.2)),(1006,.box [.c (.func 261) [] [.b 1000 0,.b 1002 0,.b 1004 0,.b 1006 0]])]⟩ fun x s=>x=(vb r.1)∧s.H=[(1000,.box [.m 1001]),(1001,.mp true (aT (fun p=>(p.1,jv p.2)) r.2.1)),(1002,.box [.m 1003]),(1003,.mp true (aT (fun p=>(p.1,dh p.2)) r.2.2.1)),(1004,.box [.o 999]),(1006,.box [.c (.func 261) [] [.b 1000 0,.b 1002 0,.b 1004 0,.b 1006 0]]),(999,.own 44 6 (mI r.2.2.2))]) (fun eU Dn a r h=>?_) h;have ⟨e,g,j,k⟩:=a;have IH:∀{e:Int} {g:List (Int×ee)} {j:List (Int×τ)} {k:List τ} {r:Bool×iK},eU (e,g,j,k)=some r→af prog 261 [vi e,.b 1000 0,.b 1002 0,.b 1004 0,.b 1006 0] ⟨aF,[(1000,.box [.m 1001]),(1001,.mp true (aT (fun p=>(p.1,jv p.2)) g)),(1002,.box [.m 1003]),(1003,.mp true (aT (fun p=>(p.1,dh p.2)) j)),(1004,.box [.o 1005]),(1005,.own 44 6 (mI k)),(1006,.box [.c (.func 261) [] [.b 1000 0,.b 1002 0,.b 1004 0,.b 1006 0]])]⟩ fun x s=>x=(vb r.1)∧s.H=[(1000,.box [.m 1001]),(1001,.mp true (aT (fun p=>(p.1,jv p.2)) r.2.1)),(1002,.box [.m 1003]),(1003,.mp true (aT (fun p=>(p.1,dh p.2)) r.2.2.1)),(1004,.box [.o 999]),(1006,.box [.c (.func 261) [] [.b 1000 0,.b 1002 0,.b 1004 0,.b 1006 0]]),(999,.own 44 6 (mI r.2.2.2))]:=fun h=>Dn _ _ h;clear Dn;change rY eU e g j k=some r at h;show af prog 261 [vi e,.b 1000 0,.b 1002 0,.b 1004 0,.b 1006 0] ⟨aF,[(1000,.box [.m 1001]),(1001,.mp true (aT (fun p=>(p.1,jv p.2)) g)),(1002,.box [.m 1003]),(1003,.mp true (aT (fun p=>(p.1,dh p.2)) j)),(1004,.box [.o 1005]),(1005,.own 44 6 (mI k)),(1006,.box [.c (.func 261) [] [.b 1000 0,.b 1002 0,.b 1004 0,.b 1006 0]])]⟩ fun x s=>x=(vb r.1)∧s.H=[(1000,.box [.m 1001]),(1001,.mp true (aT (fun p=>(p.1,jv p.2)) r.2.1)),(1002,.box [.m 1003]),(1003,.mp true (aT (fun p=>(p.1,dh p.2)) r.2.2.1)),(1004,.box [.o 999]),(1006,.box [.c (.func 261) [] [.b 1000 0,.b 1002 0,.b 1004 0,.b 1006 0]]),(999,.own 44 6 (mI r.2.2.2))];refine pg tok 52 func261 ?_;unfold rY at h
 refine sg (sq (sg ?_));have ⟨x1,Ξ,h⟩:=κ h;refine ⟨_,rfl,_,pJ jv (z:=((⟨⟩:ee):ee)) Ξ,_,tq jv e g,_,rfl,?_⟩;refine sg (ct h (fun hb h=>?_) fun hb h=>?_)
 ·refine sg (rt ?_);cases h;exact (Wk.mv (i:=1005) (d:=999) rfl rfl rfl).trans (wt Q1 ⟨hr,hr,hr,hr,hr,hr,hr,Q0⟩ rfl)
 refine sk (sg ?_);have ⟨ax,h⟩:=aG h;refine ⟨_,rfl,ax.1,gx (Nat.le_of_eq (az _)) ax.2,_,iH jv e (⟨⟩:ee) g,?_⟩;refine sg ?_;have ⟨x2,au,h⟩:=κ h;refine ⟨_,rfl,_,pJ dh (z:=((⟨0,0,0,[],[],0⟩:τ):τ)) au,_,tq dh e j,_,rfl,?_⟩;refine sq (sg ?_);refine ct h (fun hb h=>?_) fun hb h=>?_
 ·refine sg (rt ?_);cases h;exact (Wk.mv (i:=1005) (d:=999) rfl rfl rfl).trans (wt Q1 ⟨hr,hr,hr,hr,hr,hr,hr,Q0⟩ rfl)
 refine sk (sq (Ok.wk (Wk.mv (i:=1005) (d:=999) rfl rfl rfl) ?_));refine rg ?_;have ⟨bt,h⟩:=aG h;refine ⟨_,rfl,_,rfl,θ ⟨hZ (f:=dh) (n:=6) (fun _=>rfl) ([x2]),iy (f:=dh) (l:=k) (l':=[x2]) bt,_,(fu (f:=dh) (l₁:=k) (l₂:=[x2])).symm,_,rfl,?_⟩⟩;refine sg ?_;have ⟨v1,ν,h⟩:=κ h;refine Ok.bj ⟨ar [(11,vb v1.1)],[(1000,.box [.m 1001]),(1001,.mp true (aT (fun p=>(p.1,jv p.2)) v1.2.1)),(1002,.box [.m 1003]),(1003,.mp true (aT (fun p=>(p.1,dh p.2)) v1.2.2.1)),(1004,.box [.o 999]),(999,.own 44 6 (mI v1.2.2.2)),(1006,.box [.c (.func 261) [] [.b 1000 0,.b 1002 0,.b 1004 0,.b 1006 0]])]⟩ ?_ ?_
 ·refine sg ⟨_,rfl,_,az _,fun _=>?_⟩;refine bl (Ok.loop (fun (s1:Bool×Int×iK)=>⟨ar [(4,.b 1006 0),(11,vb s1.1),(37,.s (mF x2.Ψ)),(38,vi (x2.Ψ.length:Int)),(39,vi s1.2.1)],[(1006,.box [.c (.func 261) [] [.b 1000 0,.b 1002 0,.b 1004 0,.b 1006 0]]),(1000,.box [.m 1001]),(1001,.mp true (aT (fun p=>(p.1,jv p.2)) s1.2.2.1)),(1002,.box [.m 1003]),(1003,.mp true (aT (fun p=>(p.1,dh p.2)) s1.2.2.2.1)),(1004,.box [.o 999]),(999,.own 44 6 (mI s1.2.2.2.2))]⟩) (w9 x2 eU) (s0:=(true,0,ak e (⟨⟩:ee) g,j,k++[x2])) ν (wt Q5 ⟨hr,hr,hr,hr,hr,hr,hr,Q0⟩ rfl) ?_);intro s1 y1 ζ aQ;unfold w9 at ζ;refine sg (sq (ct ζ (fun hb ζ=>?_) fun hb ζ=>?_))
  ·refine sk ?_;have ⟨v2,aw,ζ⟩:=κ ζ;refine Ok.bj ⟨ar [(4,.b 1006 0),(11,vb v2.1),(37,.s (mF x2.Ψ)),(38,vi (x2.Ψ.length:Int)),(39,vi s1.2.1)],[(1006,.box [.c (.func 261) [] [.b 1000 0,.b 1002 0,.b 1004 0,.b 1006 0]]),(1000,.box [.m 1001]),(1001,.mp true (aT (fun p=>(p.1,jv p.2)) v2.2.1)),(1002,.box [.m 1003]),(1003,.mp true (aT (fun p=>(p.1,dh p.2)) v2.2.2.1)),(1004,.box [.o 999]),(999,.own 44 6 (mI v2.2.2.2))]⟩ ?_ ?_
   ·refine bl (sg ?_);have ⟨x3,aM,aw⟩:=κ aw;refine ⟨_,bK aM,_,bL aM,_,rfl,_,rfl,?_⟩;refine rg ?_;have ⟨x4,bw,aw⟩:=κ aw;refine ⟨_,rfl,_,rfl,?_⟩;refine cg [(1000,1000),(1001,1001),(1002,1002),(1003,1003),(1004,1004),(1005,999),(1006,1006)] [(999,999)] (IH bw) (n1 (.cons (Ln.b rfl) (.cons (Ln.b rfl) (.cons (Ln.b rfl) (.cons (Ln.b rfl) .nil))))) ⟨⟨1000,_,rfl,rfl,.box (.cons (Ln.mm rfl) .nil)⟩,⟨1001,_,rfl,rfl,.refl rfl⟩,⟨1002,_,rfl,rfl,.box (.cons (Ln.mm rfl) .nil)⟩,⟨1003,_,rfl,rfl,.refl rfl⟩,⟨1004,_,rfl,rfl,.box (.cons (Ln.o rfl) .nil)⟩,⟨999,_,rfl,rfl,.refl rfl⟩,⟨1006,_,rfl,rfl,.box (.cons (Ln.c .nil (.cons (Ln.b rfl) (.cons (Ln.b rfl) (.cons (Ln.b rfl) (.cons (Ln.b rfl) .nil))))) .nil)⟩,Q0⟩ ?_;have ⟨c1,Δ,aw⟩:=κ aw;refine Br.ite Δ (fun hb Δ=>?_) fun hb Δ=>?_
    ·cases Δ;cases aw;exact wt Q5 ⟨hr,hr,hr,J4⟩ rfl
    cases Δ;cases aw;exact wt Q5 ⟨hr,hr,hr,J4⟩ rfl
   refine rg ?_;have ⟨ep,ζ⟩:=aG ζ;refine (θ ⟨ep,?_⟩);exact ⟨_,sj ζ,wt Q5 ⟨hr,hr,hr,J4⟩ rfl⟩
  refine xt ?_;have ζ:=bz ζ aQ;cases ζ;exact wt Q1 ⟨hr,hr,hr,J4⟩ rfl
 refine sg (rt ?_);cases h;exact wt Q1 ⟨hr,hr,hr,J4⟩ rfl
def aj3 {a d e r} (h:Cm a d e=some r):af prog 261 [vi a,.b 1000 0,.b 1002 0,.b 1004 0,.b 1005 0] ⟨aF,[(1000,.box [.m 1001]),(1001,.mp true (aT (fun p=>(p.1,jv p.2)) d)),(1002,.box [.m 1003]),(1003,.mp true (aT (fun p=>(p.1,dh p.2)) e)),(1004,.box [zs]),(1005,.box [.c (.func 261) [] [.b 1000 0,.b 1002 0,.b 1004 0,.b 1005 0]])]⟩ fun x s=>x=(vb r.1)∧s.H=[(1000,.box [.m 1001]),(1001,.mp true (aT (fun p=>(p.1,jv p.2)) r.2.1)),(1002,.box [.m 1003]),(1003,.mp true (aT (fun p=>(p.1,dh p.2)) r.2.2.1)),(1004,.box [.o 35]),(1005,.box [.c (.func 261) [] [.b 1000 0,.b 1002 0,.b 1004 0,.b 1005 0]]),(35,.own 44 6 (mI r.2.2.2))]:=by
 refine pg tok 52 func261 ?_;unfold Cm at h;refine sg (sq (sg ?_));have ⟨x1,Ξ,h⟩:=κ h;refine ⟨_,rfl,_,pJ jv (z:=((⟨⟩:ee):ee)) Ξ,_,tq jv a d,_,rfl,?_⟩;refine sg (ct h (fun hb h=>?_) fun hb h=>?_)
 ·refine sg (rt ?_);cases h;exact (Wk.JD (b:=1004) (q:=0) (id:=35) (E:=44) (K:=6) rfl rfl rfl).trans (wt Q1 ⟨⟨_,rfl,.refl _⟩,⟨_,rfl,.refl _⟩,⟨_,rfl,.refl _⟩,⟨_,rfl,.refl _⟩,⟨_,rfl,.refl _⟩,⟨_,rfl,.refl _⟩,⟨_,rfl,.refl _⟩,Q0⟩ rfl)
 refine sk (sg ?_);have ⟨ax,h⟩:=aG h;refine ⟨_,rfl,ax.1,gx (Nat.le_of_eq (az _)) ax.2,_,iH jv a (⟨⟩:ee) d,?_⟩;refine sg ?_;have ⟨x2,au,h⟩:=κ h;refine ⟨_,rfl,_,pJ dh (z:=((⟨0,0,0,[],[],0⟩:τ):τ)) au,_,tq dh a e,_,rfl,?_⟩;refine sq (sg ?_);refine ct h (fun hb h=>?_) fun hb h=>?_
 ·refine sg (rt ?_);cases h;exact (Wk.JD (b:=1004) (q:=0) (id:=35) (E:=44) (K:=6) rfl rfl rfl).trans (wt Q1 ⟨⟨_,rfl,.refl _⟩,⟨_,rfl,.refl _⟩,⟨_,rfl,.refl _⟩,⟨_,rfl,.refl _⟩,⟨_,rfl,.refl _⟩,⟨_,rfl,.refl _⟩,⟨_,rfl,.refl _⟩,Q0⟩ rfl)
 refine sk (sg ?_);have ⟨bt,h⟩:=aG h;refine ⟨_,rfl,_,rfl,θ ⟨hZ (f:=dh) (n:=6) (fun _=>rfl) ([x2]),Z7 (f:=dh) (l':=[x2]) bt,_,rfl,_,rfl,?_⟩⟩;refine sg ?_;have ⟨v1,ν,h⟩:=κ h;refine Ok.bj ⟨ar [(11,vb v1.1)],[(1000,.box [.m 1001]),(1001,.mp true (aT (fun p=>(p.1,jv p.2)) v1.2.1)),(1002,.box [.m 1003]),(1003,.mp true (aT (fun p=>(p.1,dh p.2)) v1.2.2.1)),(1004,.box [.o 35]),(35,.own 44 6 (mI v1.2.2.2)),(1005,.box [.c (.func 261) [] [.b 1000 0,.b 1002 0,.b 1004 0,.b 1005 0]])]⟩ ?_ ?_
 ·refine sg ⟨_,rfl,_,az _,fun _=>?_⟩;refine bl (Ok.loop (fun (s1:Bool×Int×iK)=>⟨ar [(4,.b 1005 0),(11,vb s1.1),(37,.s (mF x2.Ψ)),(38,vi (x2.Ψ.length:Int)),(39,vi s1.2.1)],[(1005,.box [.c (.func 261) [] [.b 1000 0,.b 1002 0,.b 1004 0,.b 1005 0]]),(1000,.box [.m 1001]),(1001,.mp true (aT (fun p=>(p.1,jv p.2)) s1.2.2.1)),(1002,.box [.m 1003]),(1003,.mp true (aT (fun p=>(p.1,dh p.2)) s1.2.2.2.1)),(1004,.box [.o 35]),(35,.own 44 6 (mI s1.2.2.2.2))]⟩) (PI x2) (s0:=(true,0,ak a (⟨⟩:ee) d,e,[x2])) ν (wt Q5 ⟨⟨_,rfl,.refl _⟩,⟨_,rfl,.refl _⟩,⟨_,rfl,.refl _⟩,⟨_,rfl,.refl _⟩,⟨_,rfl,.refl _⟩,⟨_,rfl,.refl _⟩,⟨_,rfl,.refl _⟩,Q0⟩ rfl) ?_);intro s1 y1 ζ aQ;unfold PI at ζ;refine sg (sq (ct ζ (fun hb ζ=>?_) fun hb ζ=>?_))
  ·refine sk ?_;have ⟨v2,aw,ζ⟩:=κ ζ;refine Ok.bj ⟨ar [(4,.b 1005 0),(11,vb v2.1),(37,.s (mF x2.Ψ)),(38,vi (x2.Ψ.length:Int)),(39,vi s1.2.1)],[(1005,.box [.c (.func 261) [] [.b 1000 0,.b 1002 0,.b 1004 0,.b 1005 0]]),(1000,.box [.m 1001]),(1001,.mp true (aT (fun p=>(p.1,jv p.2)) v2.2.1)),(1002,.box [.m 1003]),(1003,.mp true (aT (fun p=>(p.1,dh p.2)) v2.2.2.1)),(1004,.box [.o 35]),(35,.own 44 6 (mI v2.2.2.2))]⟩ ?_ ?_
   ·refine bl (sg ?_);have ⟨x3,aM,aw⟩:=κ aw;refine ⟨_,bK aM,_,bL aM,_,rfl,_,rfl,?_⟩;refine rg ?_;have ⟨x4,bw,aw⟩:=κ aw;refine ⟨_,rfl,_,rfl,?_⟩;refine cg [(1000,1000),(1001,1001),(1002,1002),(1003,1003),(1004,1004),(1005,35),(1006,1005)] [(999,35)] (aj4 bw) (n1 (.cons (Ln.b rfl) (.cons (Ln.b rfl) (.cons (Ln.b rfl) (.cons (Ln.b rfl) .nil))))) ⟨⟨1000,_,rfl,rfl,.box (.cons (Ln.mm rfl) .nil)⟩,⟨1001,_,rfl,rfl,.refl rfl⟩,⟨1002,_,rfl,rfl,.box (.cons (Ln.mm rfl) .nil)⟩,⟨1003,_,rfl,rfl,.refl rfl⟩,⟨1004,_,rfl,rfl,.box (.cons (Ln.o rfl) .nil)⟩,⟨35,_,rfl,rfl,.refl rfl⟩,⟨1005,_,rfl,rfl,.box (.cons (Ln.c .nil (.cons (Ln.b rfl) (.cons (Ln.b rfl) (.cons (Ln.b rfl) (.cons (Ln.b rfl) .nil))))) .nil)⟩,Q0⟩ ?_;have ⟨c1,Δ,aw⟩:=κ aw;refine Br.ite Δ (fun hb Δ=>?_) fun hb Δ=>?_
    ·cases Δ;cases aw;exact wt Q5 ⟨hr,hr,hr,J4⟩ rfl
    cases Δ;cases aw;exact wt Q5 ⟨hr,hr,hr,J4⟩ rfl
   refine rg ?_;have ⟨ep,ζ⟩:=aG ζ;refine (θ ⟨ep,?_⟩);exact ⟨_,sj ζ,wt Q5 ⟨hr,hr,hr,J4⟩ rfl⟩
  refine xt ?_;have ζ:=bz ζ aQ;cases ζ;exact wt Q1 ⟨hr,hr,hr,J4⟩ rfl
 refine sg (rt ?_);cases h;exact wt Q1 ⟨hr,hr,hr,J4⟩ rfl
def ai9 {c d r} (h:z8 c d=some r):Pure prog 263 [.a (b4 c),.a (b4 d)] (vi r):=by
 refine pq tok 10 func263 ?_;unfold z8 at h;refine sg (sg ?_);have ⟨x1,Ξ,h⟩:=κ h;refine ⟨_,rfl,_,rfl,?_⟩;refine af.call (Am Ξ) lz ?_;refine rt ?_;cases h;exact Fz.v
end Go.Proofs
