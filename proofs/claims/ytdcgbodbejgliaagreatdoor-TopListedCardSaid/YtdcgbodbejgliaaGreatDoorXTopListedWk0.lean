/- The walks of this seat beside the plain programs, part 0. No condition. -/
import Derived.Test.YtdcgbodbejgliaaGreatDoorXTopListedHb
open List renaming length_map → au, map_append → bP, map → bY
open Nat renaming lt_of_le_of_lt → jI, le_of_eq → lQ
open Or renaming inl → af, inr → fp
namespace Go.Proofs
set_option linter.all false
open Go Go.Cat Tryz
variable [M:bU] [K:LK]
set_option maxRecDepth 100000
set_option maxHeartbeats 4000000
def sg [R:dW] {n:Nat} {st:ai} {Q:Exit→ai→Prop} {id:Nat} {ops:Array Oper} {y:Code} (h:ix prog (lk tl) n ops ops.toList st (nx prog n y Q .normal)):Ok prog n (.seq (.region id ops false) y) st Q:=Sg tok h
def rg [R:dW] {n:Nat} {st:ai} {Q:Exit→ai→Prop} {id:Nat} {ops:Array Oper} (h:ix prog (lk tl) n ops ops.toList st (Q .normal)):Ok prog n (.region id ops false) st Q:=Ok.region tok h
abbrev mI:=bY ed
abbrev mU:=bY du
abbrev mA:=bY gr
abbrev mB:=bY Go.Cat.encI
abbrev mC:=bY eM
abbrev mD:=bY ll
abbrev mE:=bY qd
abbrev mF:=bY ga
abbrev mG:=bY eA
abbrev mH:=bY cB
abbrev mK:=bY zR
abbrev zs:AV:=.v (.slice none 0 0)
abbrev k0 (a:List ψ) (b:Int) (c:Int):List AV:=[.s (mI a),vi b,vi c]
abbrev k1 (a:Int) (b:Int):List AV:=[zs,vi a,vi b]
abbrev k2 (a:List ψ) (b:Int) (c:Int) (d:Int) (e:List Int) (f:List bV) (g:List cw) (i:Int):List AV:=[.s (mI a),vi b,vi c,vi d,.s (mB e),.s (mD f),.s (mE g),vi i]
abbrev k3 (a:Int) (b:Int) (c:Int) (d:Int):List AV:=[zs,vi a,vi b,vi c,zs,zs,zs,vi d]
abbrev k4 (a:List ψ) (b:Int) (c:Int) (d:Int) (e:List Int) (f:Int):List AV:=[.s (mI a),vi b,vi c,vi d,.s (mB e),zs,zs,vi f]
abbrev k5 (a:List ψ) (b:Int) (c:Int) (d:Int) (e:List Int) (f:List bV) (g:List cw) (i:Int) (j:List bq) (k:List aU):List AV:=[.s (mI a),vi b,vi c,vi d,.s (mB e),.s (mD f),.s (mE g),vi i,.s (mF j),.s (mA k)]
abbrev k6 (a:Int) (b:Int) (c:Int) (d:Int):List AV:=[zs,vi a,vi b,vi c,zs,zs,zs,vi d,zs,zs]
abbrev k7 (a:List ψ) (b:Int) (c:Int) (d:Int) (e:List Int) (f:List bV) (g:List cw) (i:Int):List AV:=[.s (mI a),vi b,vi c,vi d,.s (mB e),.s (mD f),.s (mE g),vi i,zs,zs]
abbrev k8 (a:Int) (b:Int) (c:Int) (d:List UInt8) (e:List aJ) (f:Int):List AV:=[vi a,vi b,vi c,.s (mU d),.s (mC e),vi f]
abbrev k9 (a:Int) (b:Int) (c:Int) (d:Int):List AV:=[vi a,vi b,vi c,zs,zs,vi d]
abbrev A6 (a:List UInt8) (b:Int) (c:Int):List AV:=[vs a,vi b,vi c]
abbrev iJ (a:List ψ) (b:Int) (c:Int) (d:Int) (e:List Int) (f:List bV) (g:List cw) (i:Int) (j:List bq) (k:List aU) (l:Int) (o:Int) (s:List UInt8) (t:List UInt8) (u:Int) (w:Int) (z:Int) (y:List UInt8) (A:Int) (B:Int) (C:Int) (D:Int) (E:Int):List AV:=[.s (mI a),vi b,vi c,vi d,.s (mB e),.s (mD f),.s (mE g),vi i,.s (mF j),.s (mA k),vi l,vi o,vs s,vs t,vi u,vi w,vi z,.s (mU y),vi A,vi B,vi C,vi D,vi E,zs,zs]
abbrev RZ (a:List UInt8) (b:List UInt8) (c:Int):List AV:=[vs a,vs b,vi c]
abbrev Ki (a:Int) (b:Int) (c:Int):List AV:=[vi a,vi b,vi c]
abbrev R2 (a:List cw) (b:Int) (c:Int):List AV:=[.s (mE a),vi b,vi c]
abbrev R3 (a:List aJ) (b:Int) (c:Int):List AV:=[.s (mC a),vi b,vi c]
abbrev R4 (a:List ψ) (b:Int) (c:Int) (d:Int) (e:List Int) (f:List bV) (g:List cw) (i:Int) (j:List bq) (k:List aU) (l:Int) (o:Int) (s:List UInt8) (t:List UInt8) (u:Int) (w:Int) (z:Int) (y:List UInt8) (A:Int) (B:Int) (C:Int) (D:Int) (E:Int) (F:List (List UInt8)):List AV:=[.s (mI a),vi b,vi c,vi d,.s (mB e),.s (mD f),.s (mE g),vi i,.s (mF j),.s (mA k),vi l,vi o,vs s,vs t,vi u,vi w,vi z,.s (mU y),vi A,vi B,vi C,vi D,vi E,.s (mG F),zs]
abbrev k17 (a:Int) (b:Int) (c:List UInt8) (d:List UInt8) (e:Int) (f:Int) (g:Int) (i:List UInt8):List AV:=[vi a,vi b,vs c,vs d,vi e,vi f,vi g,.s (mU i)]
abbrev R5 (a:Int) (b:Int) (c:Int) (d:Int) (e:Int) (f:List (List UInt8)) (g:List UInt8):List AV:=[vi a,vi b,vi c,vi d,vi e,.s (mG f),.s (mU g)]
abbrev gU (a:Int) (b:Int) (c:Int) (d:Int) (e:Int):List AV:=[vi a,vi b,vi c,vi d,vi e,zs,zs]
abbrev k20 (a:Int) (b:Int) (c:Int) (d:Int) (e:Int) (f:List (List UInt8)):List AV:=[vi a,vi b,vi c,vi d,vi e,.s (mG f),zs]
abbrev k21 (a:Int) (b:List UInt8) (c:Int):List AV:=[vi a,.s (mU b),vi c]
abbrev R6 (a:Int) (b:Int) (c:List UInt8) (d:List UInt8) (e:Int) (f:Int) (g:Int):List AV:=[vi a,vi b,vs c,vs d,vi e,vi f,vi g,zs]
abbrev tp (a:Int) (b:List UInt8) (c:Int):List AV:=[vi a,vs b,vi c]
abbrev R7 (a:List bq) (b:Int) (c:Int):List AV:=[.s (mF a),vi b,vi c]
abbrev Kj (a:List UInt8) (b:Int) (c:List UInt8):List AV:=[.s (mU a),vi b,.s (mU c)]
abbrev k26 (a:Int) (b:Int) (c:Int) (d:Int) (e:Int) (f:List UInt8):List AV:=[vi a,vi b,vi c,vi d,vi e,zs,.s (mU f)]
abbrev R8 (a:Int) (b:List ψ) (c:Int):List AV:=[vi a,.s (mI b),vi c]
abbrev b0 (x:Φ):List AV:=k0 x.ι x.Next x.ar
abbrev b1 (x:bS):List AV:=k2 x.aC.ι x.aC.Next x.aC.ar x.bH x.dI x.cW x.cm x.Next
abbrev b2 (x:cF):List AV:=k5 x.S.aC.ι x.S.aC.Next x.S.aC.ar x.S.bH x.S.dI x.S.cW x.S.cm x.S.Next x.Holds x.f_
abbrev b3 (x:bS):List AV:=k7 x.aC.ι x.aC.Next x.aC.ar x.bH x.dI x.cW x.cm x.Next
abbrev b4 (x:ψ):List AV:=k8 x.κ x.Ω x.a_ x.aP x.ae x.Up
abbrev b5 (x:c_):List AV:=k0 x.Tree.ι x.Tree.Next x.Tree.ar
abbrev b6 (x:aJ):List AV:=A6 x.aR x.κ x.ar
abbrev b7 (x:bq):List AV:=Ki x.fZ x.iO x.κ
abbrev b8 (x:aU):List AV:=Ki x.κ x.ι x.C0
abbrev b9 (x:cw):List AV:=Ki x.Id x.κ x.At
abbrev j_ (x:dP):List AV:=k17 x.Ω x.fZ x.ia x.To x.N x.M x.iO x.aP
abbrev kb (x:dh):List AV:=R5 x.uz x.κ x.Ω x.N x.M x.lS x.aP
abbrev WH (x:cF):List AV:=k0 x.S.aC.ι x.S.aC.Next x.S.aC.ar
abbrev t8 {A B C D E F G H I:Type} (x:A×B×C×D×E×F×G×H×I):I:=x.2.2.2.2.2.2.2.2
abbrev t5 {A B C D E I:Type} (x:A×B×C×D×E×I):I:=x.2.2.2.2.2
def nb {a b:Nat} (h:Nat.ble a b=true:=by rfl):a≤b:=Nat.le_of_ble_eq_true h
def afV {r} (h:Nd=some r):Pure prog 31 [] (.a (b0 r)):=by
 refine pq tok 4 func31 ?_;unfold Nd at h;refine sg (sg (af ⟨_,rfl,?_⟩));refine rt ?_;cases h;exact ⟨_,rfl,Fz.cq rfl⟩
def aft {c r} (h:L9 c=some r):Pure prog 30 [.a (b0 c)] (.a (b1 r)):=by
 refine pq tok 9 func30 ?_;unfold L9 at h;refine sg (sq (dw 6 tok mixed ?_));have ⟨ah,h⟩:=ak h;refine ⟨_,⟨_,rfl,rfl⟩,_,rfl,_,⟨_,rfl,rfl⟩,_,⟨_,au _,fun _=>rfl⟩,_,⟨_,_,tz ah,tz ah,Nat.le_refl _,mk_le (by decide) ah,ah.2,_,(List.map_replicate (f:=Go.Cat.encI) (a:=(0:Int))).symm,rfl⟩,_,rfl,Q0,_,rfl,?_⟩;refine rt ?_;cases h;exact ⟨_,rfl,Fz.a (.cons Fz.s (.cons Fz.v (.cons Fz.v (.cons Fz.v (.cons Fz.s (.cons Fz.nil (.cons Fz.nil fq)))))))⟩
def aet {r} (h:Is=some r):Pure prog 13 [] (.a (b2 r)):=by
 refine pq tok 4 func13 ?_;unfold Is at h;refine sg (sg ?_);have ⟨x1,θ,h⟩:=η h;refine Θ.call (afV θ) lz ?_;have ⟨x2,aq,h⟩:=η h;refine Θ.call (aft aq) lz ?_;refine ⟨_,rfl,?_⟩;refine rt ?_;cases h;exact ⟨_,rfl,Fz.a (.cons Fz.s (.cons Fz.v (.cons Fz.v (.cons Fz.v (.cons Fz.s (.cons Fz.s (.cons Fz.s (.cons Fz.v (.cons Fz.nil (.cons Fz.nil .nil))))))))))⟩
def CA {r} (h:Ad=some r):Θ prog 28 [] ⟨aM,[]⟩ fun x s=>x=(.m 1)∧s.H=[(1,.mp false (bY (fun p=>(p.1,gb p.2)) rU))]:=by
 refine pg tok 3 func28 ?_;unfold Ad at h;refine sg (sg ?_);have ⟨ah,h⟩:=ak h;have ⟨aQ,h⟩:=ak h;have ⟨bN,h⟩:=ak h;have ⟨c8,h⟩:=ak h;have ⟨eJ,h⟩:=ak h;have ⟨nJ,h⟩:=ak h;have ⟨xL,h⟩:=ak h;have ⟨DP,h⟩:=ak h;have ⟨DQ,h⟩:=ak h;have ⟨DN,h⟩:=ak h;have ⟨DO,h⟩:=ak h;have ⟨Qn,h⟩:=ak h;have ⟨Qo,h⟩:=ak h;have ⟨Qp,h⟩:=ak h;have ⟨Qq,h⟩:=ak h;have ⟨Qr,h⟩:=ak h;have ⟨Qs,h⟩:=ak h;refine ⟨ah.1,jI (Nat.le_refl _) ah.2,_,jD gb (1) 62 ([]:List (Int×Int)),aQ.1,jI (lQ (au _)) aQ.2,_,jD gb (2) 63 u1,bN.1,jI (lQ (au _)) bN.2,_,jD gb (3) 64 u2,c8.1,jI (lQ (au _)) c8.2,_,jD gb (4) 65 u3,eJ.1,jI (lQ (au _)) eJ.2,_,jD gb (5) 66 u4,nJ.1,jI (lQ (au _)) nJ.2,_,jD gb (6) 67 u5,xL.1,jI (lQ (au _)) xL.2,_,jD gb (7) 68 u6,DP.1,jI (lQ (au _)) DP.2,_,jD gb (8) 69 u7,DQ.1,jI (lQ (au _)) DQ.2,_,jD gb (9) 70 u8,DN.1,jI (lQ (au _)) DN.2,_,jD gb (10) 71 u9,DO.1,jI (lQ (au _)) DO.2,_,jD gb (11) 72 Nr,Qn.1,jI (lQ (au _)) Qn.2,_,jD gb (12) 73 Ns,Qo.1,jI (lQ (au _)) Qo.2,_,jD gb (13) 74 Nt,Qp.1,jI (lQ (au _)) Qp.2,_,jD gb (14) 75 Nu,Qq.1,jI (lQ (au _)) Qq.2,_,jD gb (15) 76 Nv,Qr.1,jI (lQ (au _)) Qr.2,_,jD gb (16) 77 Nw,Qs.1,jI (lQ (au _)) Qs.2,_,jD gb (17) 78 u16,?_⟩
 refine rt ?_;cases h;exact wt Q1 J1 rfl
def ud {a} {q:Int⊕Unit} (h:nH a=some q):j8 prog eB 79 [vi a] ⟨aM,[]⟩ (fun x s=>∃y:Unit,q=.inr y∧x=(.t [])∧s.H=[]) fun m s=>q=.inl m∧s.H=[]:=by
 refine px tok 6 func79 ?_;unfold nH at h;refine sg (ct h (fun hb h=>?_) fun hb h=>?_)
 ·refine Ok.jq eB tok (af (fp (fp ⟨rfl,?_⟩)));cases h;exact ⟨_,rfl,rfl⟩
 refine sk ?_;cases h;exact ⟨_,rfl,wt Q1 Q0 rfl⟩
def zt {a b} {q:Int⊕Unit} (h:Aa a b=some q):j8 prog eB 29 [vb a,vi b] ⟨aM,[]⟩ (fun x s=>∃y:Unit,q=.inr y∧x=(.t [])∧s.H=[]) fun m s=>q=.inl m∧s.H=[]:=by
 refine px tok 8 func29 ?_;unfold Aa at h;refine sg (ct h (fun hb h=>?_) fun hb h=>?_)
 ·refine Ok.jq eB tok ?_;have ⟨x1,θ,h⟩:=η h;refine af (fp (cx [] [] (ud θ) nq Q0 (fun e1 cH=>?_) (fun y1 fQ=>?_)))
  ·have h:=gV h cH;cases h;exact ⟨_,rfl,rfl⟩
  have h:=gW h fQ;cases h;exact ⟨_,rfl,wt Q1 Q0 rfl⟩
 refine sk ?_;cases h;exact ⟨_,rfl,wt Q1 Q0 rfl⟩
def af7 {a r} (h:EK a=some r):Θ prog 216 [vs a] ⟨aM,[]⟩ fun x s=>x=(.c (.func 264) [] [.b 1 0])∧s.H=[(1,.box [vs a])]:=by
 refine pg tok 4 func216 ?_;unfold EK at h;refine sg (sg (rt ?_));cases h;exact wt Q1 J1 rfl
def aeC {a b r} (h:Ep a b=some r):Pure prog 317 [vs a,vs b] (vb r):=by
 refine pq tok 18 func317 ?_;unfold Ep at h;refine sg ?_;have ⟨v1,ν,h⟩:=η h;refine Ok.aB ⟨Γ [(4,vb v1)],[]⟩ ?_ ?_
 ·refine rg ⟨_,j1 _,_,j1 _,?_⟩;have ⟨c1,ξ,ν⟩:=η ν;refine Br.ite ξ (fun hb ξ=>?_) fun hb ξ=>?_
  ·have ⟨ah,ξ⟩:=ak ξ;refine ⟨_,j1 _,_,fK (wK ah),za ah,zb ah,_,zd ah,_,lL _ _,?_⟩;cases ξ;cases ν;exact wt Q1 Q0 rfl
  cases ξ;cases ν;exact wt Q1 Q0 rfl
 refine rt ?_;cases h;exact Fz.v
def aeB {a b r} (h:Eo a b=some r):Pure prog 294 [vs a,vs b] (.t [vs r.1,vb r.2]):=by
 refine pq tok 15 func294 ?_;unfold Eo at h;refine sg (sq (sg ?_));have ⟨x1,θ,h⟩:=η h;refine Θ.call (aeC θ) lz ?_;refine ct h (fun hb h=>?_) fun hb h=>?_
 ·refine sg (rt ?_);cases h;exact (Fz.t fq)
 refine sk (sg ?_);have ⟨ah,h⟩:=ak h;refine ⟨_,j1 _,_,fK ah.1,za ah,zb ah,_,zd ah,?_⟩;refine rt ?_;cases h;exact (Fz.t fq)
def afI {a b r} (h:Ck a b=some r):Pure prog 265 [vs a,vs b] (.t [vs r.1,vb r.2]):=by
 refine pq tok 11 func265 ?_;unfold Ck at h;refine sg (sg ?_);have ⟨x1,θ,h⟩:=η h;refine Θ.call (aeB θ) lz ?_;refine rt ?_;cases h;exact (Fz.t fq)
def GI {a r} (h:tD a=some r):Pure prog 183 [vs a] (vb r):=by
 refine pq tok 31 func183 ?_;unfold tD at h;refine sg (sq ?_);have ⟨v1,ν,h⟩:=η h;refine Ok.aB ⟨Γ [(0,vs a),(19,vb v1)],[]⟩ ?_ ?_
 ·refine rg ⟨_,lL _ _,?_⟩;have ⟨c1,ξ,ν⟩:=η ν;refine Br.cO ξ (fun hb ξ=>?_) fun hb ξ=>?_
  ·cases ξ;have ⟨c2,ax,ν⟩:=η ν;replace ax:=fu ax;cases ax;have ⟨c3,aL,ν⟩:=η ν;replace aL:=fu aL;cases aL;cases ν;exact wt Q2 Q0 rfl
  refine ⟨_,j1 _,?_⟩;cases ξ;have ⟨c2,bI,ν⟩:=η ν;refine Br.cO bI (fun hb bI=>?_) fun hb bI=>?_
  ·cases bI;have ⟨c3,bZ,ν⟩:=η ν;replace bZ:=fu bZ;cases bZ;cases ν;exact wt Q2 Q0 rfl
  refine ⟨_,lL _ _,?_⟩;cases bI;have ⟨c3,cI,ν⟩:=η ν;refine Br.cO cI (fun hb cI=>?_) fun hb cI=>?_
  ·cases cI;cases ν;exact wt Q2 Q0 rfl
  refine ⟨_,lL _ _,?_⟩;cases cI;cases ν;exact wt Q2 Q0 rfl
 refine ct h (fun hb h=>?_) fun hb h=>?_
 ·refine sg (rt ?_);cases h;exact Fz.v
 refine sk (Ok.cU (fun v2=>⟨Γ [],[]⟩) (fun v2=>EJ v2=some r) ?_ ?_)
 ·refine sg (bl (Ok.loop (fun (s1:Nat)=>⟨Γ [(21,.b 21 0)],[(21,.si ⟨a.toArray⟩ s1)]⟩) (EI a) (s0:=0) h (wt Q1 ⟨hr,Q0⟩ rfl) ?_));intro s1 y1 ζ az;unfold EI at ζ;refine sg (abP ζ (fun ζ=>?_) fun ζ=>?_)
  ·refine sq (Ok.Xa rfl ?_);refine sk (bl (sg ?_));have ⟨v3,aA,ζ⟩:=η ζ;refine Ok.aB ⟨Γ [(21,.b 21 0),(30,vb v3)],[(21,.si ⟨a.toArray⟩ (s1+(nE a s1).2))]⟩ ?_ ?_
   ·refine rg ?_;have ⟨c4,cQ,aA⟩:=η aA;refine Br.cO cQ (fun hb cQ=>?_) fun hb cQ=>?_
    ·cases cQ;cases aA;exact wt Q2 J1 rfl
    cases cQ;cases aA;exact wt Q2 J1 rfl
   refine ct ζ (fun hb ζ=>?_) fun hb ζ=>?_
   ·refine sg (rt ?_);have ζ:=aN ζ az;cases ζ;exact Fz.v
   refine sk ?_;exact ⟨_,sj ζ,wt Q1 J1 rfl⟩
  refine sq (Ok.W_ rfl ?_);refine xt ?_;have ζ:=aN ζ az;exact ⟨_,ζ,wt Q0 Q0 rfl⟩
 intro v2 h;unfold EJ at h;refine sg (rt ?_);cases h;exact Fz.v
def af6 {l:Nat} {a:List UInt8} {g:Bool} {e:Int} {c:List (List UInt8)} {r:LS×Int×(List (List UInt8))} (h:yt a g e c=some r):Θ prog (.y l) [vs a,vb g] ⟨aM,(1000,.lp l .gY wz [(2,(.b 1001 0)),(3,(.b 1002 0)),(4,(.b 1003 0))])::[(1001,.box [zs]),(1002,.box [vi e]),(1003,.box [.o 1004]),(1004,.own 9 1 (mG c))]⟩ fun x s=>x=.v (.bool (LS.tn r.1))∧s.H=(1000,.lp l r.1 wz [(2,(.b 1001 0)),(3,(.b 1002 0)),(4,(.b 1003 0))])::[(1001,.box [zs]),(1002,.box [vi r.2.1]),(1003,.box [.o 999]),(999,.own 9 1 (mG r.2.2))]:=by
 letI:dW:=dW.yes
 refine agy (e0:=r.1) (H1:=[(1001,.box [zs]),(1002,.box [vi r.2.1]),(1003,.box [.o 999]),(999,.own 9 1 (mG r.2.2))]) (by kernel_rfl) (by kernel_rfl) rfl rfl rfl ?_;unfold yt at h;refine sg (rg (bl (sq ?_)));have ⟨v1,ν,h⟩:=η h;refine Ok.aB ⟨Γ [(2,.b 1001 0),(3,.b 1002 0),(4,.b 1003 0),(5,vs a),(24,vb v1)],[(1001,.box [zs]),(1002,.box [vi e]),(1003,.box [.o 1004]),(1004,.own 9 1 (mG c))]⟩ ?_ ?_
 ·refine rg ?_;have ⟨c1,ξ,ν⟩:=η ν;refine Br.cO ξ (fun hb ξ=>?_) fun hb ξ=>?_
  ·cases ξ;have ⟨c2,ax,ν⟩:=η ν;replace ax:=fu ax;cases ax;cases ν;exact wt Q5 J4 rfl
  have ⟨x1,θ,ξ⟩:=η ξ;refine Θ.call (GI θ) lz ?_;cases ξ;have ⟨c2,aL,ν⟩:=η ν;refine Br.cO aL (fun hb aL=>?_) fun hb aL=>?_
  ·cases aL;cases ν;exact wt Q5 J4 rfl
  refine ⟨_,rfl,_,au _,fun _=>?_⟩;cases aL;cases ν;exact wt Q5 J4 rfl
 refine ct h (fun hb h=>?_) fun hb h=>?_
 ·refine sg ⟨_,rfl,_,rfl,?_⟩;refine rt ?_;cases h;exact ⟨rfl,(Wk.mv (i:=1004) (d:=999) rfl rfl rfl).trans (wt Q0 ⟨hr,hr,hr,hr,Q0⟩ rfl)⟩
 refine sk (Ok.wk (Wk.mv (i:=1004) (d:=999) rfl rfl rfl) ?_);refine rg ?_;have ⟨ah,h⟩:=ak h;refine ⟨_,rfl,af ⟨cL (f:=eA) (n:=1) (fun _=>rfl) ([a]),cJ (f:=eA) (l:=c) (l':=[a]) ah,_,(bP (f:=eA) (l₁:=c) (l₂:=[a])).symm,_,rfl,?_⟩⟩;cases h;exact ⟨rfl,wt Q0 ⟨hr,hr,hr,hr,Q0⟩ rfl⟩
def af8 {l:Nat} {a:Int} {d:List UInt8} {r:LS×Int×(List UInt8)×(List (List UInt8))} (h:EL a d=some r):Θ prog 264 [.c (.yield l) [] [],.b 1004 0] ⟨aM,[(1000,.lp l .gY wz [(2,(.b 1001 0)),(3,(.b 1002 0)),(4,(.b 1003 0))]),(1001,.box [zs]),(1002,.box [vi a]),(1003,.box [zs]),(1004,.box [vs d])]⟩ fun x s=>x=(.t [])∧s.H=[(1000,.lp l r.1 wz [(2,(.b 1001 0)),(3,(.b 1002 0)),(4,(.b 1003 0))]),(1001,.box [zs]),(1002,.box [vi r.2.1]),(1003,.box [.o 999]),(1004,.box [vs r.2.2.1]),(999,.own 9 1 (mG r.2.2.2))]:=by
 refine pg tok 29 func264 ?_;unfold EL at h;refine bl (Ok.loop (fun (s1:LS×(List UInt8)×Int×(List (List UInt8)))=>⟨Γ [(0,.c (.yield l) [] []),(1,.b 1004 0)],[(1000,.lp l s1.1 wz [(2,.b 1001 0),(3,.b 1002 0),(4,.b 1003 0)]),(1001,.box [zs]),(1002,.box [vi s1.2.2.1]),(1003,.box [.o 999]),(999,.own 9 1 (mG s1.2.2.2)),(1004,.box [vs s1.2.1])]⟩) (EM) (s0:=(.gY,d,a,[])) h ((Wk.SO (b:=1003) (q:=0) (id:=999) (E:=9) (K:=1) rfl rfl rfl).trans (wt Q2 ⟨⟨_,rfl,.refl _⟩,⟨_,rfl,.refl _⟩,⟨_,rfl,.refl _⟩,⟨_,rfl,.refl _⟩,⟨_,rfl,.refl _⟩,⟨_,rfl,.refl _⟩,Q0⟩ rfl)) ?_);intro s1 y1 ζ az;unfold EM at ζ;refine sq (sg ?_);refine ⟨_,rfl,_,M0 _ _,?_⟩;refine ct ζ (fun hb ζ=>?_) fun hb ζ=>?_
 ·refine sk (bl (sg ?_));have ⟨x1,θ,ζ⟩:=η ζ;refine ⟨_,rfl,?_⟩;refine Θ.call (afI θ) lz ?_;refine sg (Θ.call (aaP x1.1 (47)) lz ?_);have ⟨v1,ν,ζ⟩:=η ζ;refine Ok.aB ⟨Γ [(0,.c (.yield l) [] []),(1,.b 1004 0),(3,vs x1.1),(4,vb x1.2),(5,vi v1)],[(1000,.lp l s1.1 wz [(2,.b 1001 0),(3,.b 1002 0),(4,.b 1003 0)]),(1001,.box [zs]),(1002,.box [vi s1.2.2.1]),(1003,.box [.o 999]),(999,.own 9 1 (mG s1.2.2.2)),(1004,.box [vs s1.2.1])]⟩ ?_ ?_
  ·refine sg (ct ν (fun hb ν=>?_) fun hb ν=>?_)
   ·refine rg ⟨_,j1 _,?_⟩;cases ν;exact wt Q5 ⟨hr,hr,J4⟩ rfl
   refine sk ?_;cases ν;exact wt Q5 ⟨hr,hr,J4⟩ rfl
  refine sq (sg ?_);have ⟨ah,ζ⟩:=ak ζ;have ⟨aQ,ζ⟩:=ak ζ;have ⟨x2,aq,ζ⟩:=η ζ;refine ⟨_,fK (wK ah),za ah,zb ah,_,zd ah,?_⟩;refine cg [(1000,1000),(1001,1001),(1002,1002),(1003,1003),(1004,999)] [(999,999)] (af6 aq) nq ⟨⟨1000,_,rfl,rfl,.lp aQ ⟨rfl,Ln.b rfl,rfl,Ln.b rfl,rfl,Ln.b rfl,Q0⟩⟩,⟨1001,_,rfl,rfl,.box nq⟩,⟨1002,_,rfl,rfl,.box nq⟩,⟨1003,_,rfl,rfl,.box (.cons (Ln.o rfl) .nil)⟩,⟨999,_,rfl,rfl,.refl rfl⟩,Q0⟩ ?_;refine ct ζ (fun hb ζ=>?_) fun hb ζ=>?_
  ·refine rt ?_;have ζ:=aN ζ az;cases ζ;exact wt Q1 ⟨hr,hr,J4⟩ rfl
  refine sk (rg ?_);have ⟨bN,ζ⟩:=ak ζ;refine ⟨_,fK bN.1,za bN,zb bN,_,zd bN,_,rfl,?_⟩;exact ⟨_,sj ζ,wt Q2 ⟨hr,hr,J4⟩ rfl⟩
 refine xt ?_;have ζ:=aN ζ az;cases ζ;exact wt Q1 ⟨hr,hr,J4⟩ rfl
def U6 {a r} (h:yr a=some r):Pure prog 133 [vs a] (.t [.s (mG r.1),vi r.2]):=by
 refine pq tok 33 func133 ?_;unfold yr at h;refine sg (sq (sg ?_));refine ⟨_,lL _ _,?_⟩;refine ct h (fun hb h=>?_) fun hb h=>?_
 ·refine sg ⟨_,rfl,_,rfl,?_⟩;refine rt ?_;cases h;exact ⟨_,rfl,_,rfl,Fz.t (.cons Fz.nil fq)⟩
 refine sk (sg ?_);refine sq (sg ?_);have ⟨x1,θ,h⟩:=η h;refine cg [] [(1,999)] (af7 θ) nq Q0 ?_;refine bl ?_;have ⟨x2,aq,h⟩:=η h;refine Ok.rangeFunc (lid:=998) (R0:=wz) (L:=[(2,.b 2 0),(3,.b 3 0),(4,.b 4 0)]) (by kernel_rfl) rfl rfl Q3 (fun l=>cg [(1000,998),(1001,2),(1002,3),(1003,4),(1004,999)] [(999,997)] (af8 aq) (.cons (Ln.c .nil .nil) (.cons (Ln.b rfl) .nil)) ⟨⟨998,_,rfl,rfl,.lp rfl ⟨rfl,Ln.b rfl,rfl,Ln.b rfl,rfl,Ln.b rfl,Q0⟩⟩,⟨2,_,rfl,rfl,.box nq⟩,⟨3,_,rfl,rfl,.box nq⟩,⟨4,_,rfl,rfl,.box nq⟩,⟨999,_,rfl,rfl,.box nq⟩,Q0⟩ ⟨_,_,_,rfl,?_⟩);refine acU h (fun h=>?_) (fun h=>?_)
 ·refine sq (sg ?_);refine ⟨_,rfl,_,au _,fun _=>?_⟩;refine ct h (fun hb h=>?_) fun hb h=>?_
  ·refine sg ⟨_,rfl,_,rfl,?_⟩;refine rt ?_;cases h;exact ⟨_,rfl,_,rfl,Fz.t (.cons Fz.nil fq)⟩
  refine sk (sg ?_);refine ⟨_,rfl,_,rfl,_,rfl,?_⟩;refine rt ?_;cases h;exact ⟨_,rfl,_,rfl,Fz.t (.cons (Fz.o rfl) fq)⟩
 refine acV h (fun h=>?_) (fun h=>?_)
 ·cases h;exact ⟨_,rfl,_,rfl,Fz.t (.cons Fz.nil fq)⟩
 cases h
def U5 {a r} (h:cmp_isNaN_int a=some r):Pure prog 247 [vi a] (vb r):=by
 refine pq tok 6 func247 ?_;unfold cmp_isNaN_int at h;refine sg (sg (rt ?_));cases h;exact Fz.v
def GH {a b r} (h:sG a b=some r):Pure prog 194 [vi a,vi b] (vi r):=by
 refine pq tok 20 func194 ?_;unfold sG at h;refine sg (sg ?_);have ⟨x1,θ,h⟩:=η h;refine Θ.call (U5 θ) lz ?_;refine sg ?_;have ⟨x2,aq,h⟩:=η h;refine Θ.call (U5 aq) lz ?_;refine sq (sg ?_);refine ct h (fun hb h=>?_) fun hb h=>?_
 ·refine sq (sg ?_);refine ct h (fun hb h=>?_) fun hb h=>?_
  ·refine sg (rt ?_);cases h;exact Fz.v
  refine sk (sg ?_);refine rt ?_;cases h;exact Fz.v
 refine sk (sq (sg ?_));refine ct h (fun hb h=>?_) fun hb h=>?_
 ·refine sg (rt ?_);cases h;exact Fz.v
 refine sk (sq (sg ?_));refine ct h (fun hb h=>?_) fun hb h=>?_
 ·refine sg (rt ?_);cases h;exact Fz.v
 refine sk (sq (sg ?_));refine ct h (fun hb h=>?_) fun hb h=>?_
 ·refine sg (rt ?_);cases h;exact Fz.v
 refine sk (sg ?_);refine rt ?_;cases h;exact Fz.v
def Vu {c d r} (h:Gx c d=some r):Pure prog 270 [.a (b4 c),vi d] (vi r):=by
 refine pq tok 9 func270 ?_;unfold Gx at h;refine sg (sg ?_);have ⟨x1,θ,h⟩:=η h;refine ⟨_,rfl,?_⟩;refine Θ.call (GH θ) lz ?_;refine rt ?_;cases h;exact Fz.v
def afy {a b r} (h:Mj a b=some r):Pure prog 253 [.s (mI a),vi b,.c (.func 270) [] []] (.t [vi r.1,vb r.2]):=by
 refine pq tok 49 func253 ?_;unfold Mj at h;refine sg (sg ⟨_,au _,fun _=>?_⟩);refine sg ?_;have ⟨v1,ν,h⟩:=η h;refine Ok.aB ⟨Γ [(0,.s (mI a)),(1,vi b),(2,.c (.func 270) [] []),(8,vi (a.length:Int)),(9,vi v1)],[]⟩ ?_ ?_
 ·refine bl (Ok.loop (fun (s1:Int×Int)=>⟨Γ [(0,.s (mI a)),(1,vi b),(2,.c (.func 270) [] []),(8,vi (a.length:Int)),(9,vi s1.1),(10,vi s1.2)],[]⟩) (Mk a b) (s0:=(0,(a.length:Int))) ν (wt Q6 Q0 rfl) ?_);intro s1 y1 ζ az;unfold Mk at ζ;refine sq (sg ?_);refine ct ζ (fun hb ζ=>?_) fun hb ζ=>?_
  ·refine sk (bl (sg ?_));have ⟨ah,ζ⟩:=ak ζ;refine (af ⟨ah,_,rfl,(by decide),_,rfl,_,rfl,?_⟩);refine sg ?_;have ⟨x1,θ,ζ⟩:=η ζ;have ⟨x2,aq,ζ⟩:=η ζ;refine ⟨_,aI θ,_,aK θ,_,rfl,?_⟩;refine Θ.call (Vu aq) lz ?_;refine ct ζ (fun hb ζ=>?_) fun hb ζ=>?_
   ·refine rg ?_;have ⟨aQ,ζ⟩:=ak ζ;refine (af ⟨aQ,?_⟩);exact ⟨_,sj ζ,wt Q6 Q0 rfl⟩
   refine rg ?_;exact ⟨_,sj ζ,wt Q6 Q0 rfl⟩
  refine xt ?_;have ζ:=aN ζ az;cases ζ;exact wt Q5 Q0 rfl
 have ⟨v2,Δ,h⟩:=η h;refine Ok.aB ⟨Γ [(6,vi v1),(7,vb v2)],[]⟩ ?_ ?_
 ·refine rg ?_;have ⟨c1,ξ,Δ⟩:=η Δ;refine Br.ite ξ (fun hb ξ=>?_) fun hb ξ=>?_
  ·have ⟨x3,aF,ξ⟩:=η ξ;have ⟨x4,aV,ξ⟩:=η ξ;refine ⟨_,aI aF,_,aK aF,_,rfl,?_⟩;refine Θ.call (Vu aV) lz ?_;cases ξ;cases Δ;exact wt Q2 Q0 rfl
  cases ξ;cases Δ;exact wt Q2 Q0 rfl
 refine rt ?_;cases h;exact (Fz.t fq)
def GO {self a r} (h:tY self a=some r):lg prog 230 [.b 1000 0,vi a] (.box (b5 self)) (fun x c=>x=(.t [vi r.1.1,vb r.1.2])∧c=.box (b5 r.2)):=by
 refine oM (n:=15) (c:=f230.body.getD .skip) tok func230 (by kernel_rfl) rfl rfl nb ?_;unfold tY at h;refine sg (sg ?_);have ⟨x1,θ,h⟩:=η h;refine ⟨_,rfl,?_⟩;refine Θ.call (afy θ) lz ?_;refine rt ?_;cases h;exact ⟨_,_,⟨rfl,rfl⟩,rfl,rfl,Fz.t fq⟩
def rV {self d r} (h:nX self d=some r):lg prog 179 [.b 1000 0,vi d] (.box (b5 self)) (fun x c=>x=(.t [.a (b4 r.1.1),vb r.1.2])∧c=.box (b5 r.2)):=by
 refine oM (n:=25) (c:=f179.body.getD .skip) tok func179 (by kernel_rfl) rfl rfl nb ?_;unfold nX at h;refine sg (sg ?_);have ⟨x1,θ,h⟩:=η h;refine Θ.eD (id:=1000) (GO θ) rfl (.box lz) rfl (.cons (Lr.b) (.cons (Lr.cq rfl) .nil)) ?_;rintro _ _ ⟨rfl,rfl⟩;refine sq (sg ?_);refine ct h (fun hb h=>?_) fun hb h=>?_
 ·refine sg ⟨_,rfl,?_⟩;refine rt ?_;cases h;exact ⟨_,rfl,_,_,⟨rfl,rfl⟩,rfl,rfl,Fz.t (.cons (Fz.a (.cons Fz.v (.cons Fz.v (.cons Fz.v (.cons Fz.nil (.cons Fz.nil fq)))))) fq)⟩
 refine sk (sg ?_);have ⟨x2,aq,h⟩:=η h;refine ⟨_,rfl,_,aI aq,_,aK aq,_,rfl,_,rfl,?_⟩;refine rt ?_;cases h;exact ⟨_,rfl,_,_,⟨rfl,rfl⟩,rfl,rfl,Fz.t fq⟩
def GQ {self d r} (h:tZ self d=some r):lg prog 182 [.b 1000 0,vi d] (.box (b5 self)) (fun x c=>x=(.t [.a (b4 r.1.1),vi r.1.2])∧c=.box (b5 r.2)):=by
 refine oM (n:=24) (c:=f182.body.getD .skip) tok func182 (by kernel_rfl) rfl rfl nb ?_;unfold tZ at h;refine sg (sg ?_);have ⟨x1,θ,h⟩:=η h;refine Θ.eD (id:=1000) (rV θ) rfl (.box lz) rfl (.cons (Lr.b) (.cons (Lr.cq rfl) .nil)) ?_;rintro _ _ ⟨rfl,rfl⟩;refine ⟨_,rfl,?_⟩;refine bl (sg ?_);refine ct h (fun hb h=>?_) fun hb h=>?_
 ·refine sg ⟨_,rfl,?_⟩;refine rt ?_;cases h;exact ⟨_,rfl,_,_,⟨rfl,rfl⟩,rfl,rfl,Fz.t (.cons (Fz.a (.cons Fz.v (.cons Fz.v (.cons Fz.v (.cons Fz.nil (.cons Fz.nil fq)))))) fq)⟩
 refine sg ⟨_,rfl,?_⟩;refine ct h (fun hb h=>?_) fun hb h=>?_
 ·refine sg ⟨_,rfl,?_⟩;refine rt ?_;cases h;exact ⟨_,rfl,_,_,⟨rfl,rfl⟩,rfl,rfl,Fz.t (.cons (Fz.a (.cons Fz.v (.cons Fz.v (.cons Fz.v (.cons Fz.nil (.cons Fz.nil fq)))))) fq)⟩
 refine sg ⟨_,rfl,_,rfl,?_⟩;refine rt ?_;cases h;exact ⟨_,rfl,_,_,⟨rfl,rfl⟩,rfl,rfl,Fz.t fq⟩
def Vt {c d r} (h:zk c d=some r):Pure prog 240 [.a (b6 c),vs d] (vi r):=by
 refine pq tok 9 func240 ?_;unfold zk at h;refine sg (sg ⟨_,rfl,?_⟩);refine Θ.call (aaO c.aR d) lz ?_;refine rt ?_;cases h;exact Fz.v
def afw {a b r} (h:Mh a b=some r):Pure prog 239 [.s (mC a),vs b,.c (.func 240) [] []] (.t [vi r.1,vb r.2]):=by
 refine pq tok 49 func239 ?_;unfold Mh at h;refine sg (sg ⟨_,au _,fun _=>?_⟩);refine sg ?_;have ⟨v1,ν,h⟩:=η h;refine Ok.aB ⟨Γ [(0,.s (mC a)),(1,vs b),(2,.c (.func 240) [] []),(8,vi (a.length:Int)),(9,vi v1)],[]⟩ ?_ ?_
 ·refine bl (Ok.loop (fun (s1:Int×Int)=>⟨Γ [(0,.s (mC a)),(1,vs b),(2,.c (.func 240) [] []),(8,vi (a.length:Int)),(9,vi s1.1),(10,vi s1.2)],[]⟩) (Mi a b) (s0:=(0,(a.length:Int))) ν (wt Q6 Q0 rfl) ?_);intro s1 y1 ζ az;unfold Mi at ζ;refine sq (sg ?_);refine ct ζ (fun hb ζ=>?_) fun hb ζ=>?_
  ·refine sk (bl (sg ?_));have ⟨ah,ζ⟩:=ak ζ;refine (af ⟨ah,_,rfl,(by decide),_,rfl,_,rfl,?_⟩);refine sg ?_;have ⟨x1,θ,ζ⟩:=η ζ;have ⟨x2,aq,ζ⟩:=η ζ;refine ⟨_,aI θ,_,aK θ,_,rfl,?_⟩;refine Θ.call (Vt aq) lz ?_;refine ct ζ (fun hb ζ=>?_) fun hb ζ=>?_
   ·refine rg ?_;have ⟨aQ,ζ⟩:=ak ζ;refine (af ⟨aQ,?_⟩);exact ⟨_,sj ζ,wt Q6 Q0 rfl⟩
   refine rg ?_;exact ⟨_,sj ζ,wt Q6 Q0 rfl⟩
  refine xt ?_;have ζ:=aN ζ az;cases ζ;exact wt Q5 Q0 rfl
 have ⟨v2,Δ,h⟩:=η h;refine Ok.aB ⟨Γ [(6,vi v1),(7,vb v2)],[]⟩ ?_ ?_
 ·refine rg ?_;have ⟨c1,ξ,Δ⟩:=η Δ;refine Br.ite ξ (fun hb ξ=>?_) fun hb ξ=>?_
  ·have ⟨x3,aF,ξ⟩:=η ξ;have ⟨x4,aV,ξ⟩:=η ξ;refine ⟨_,aI aF,_,aK aF,_,rfl,?_⟩;refine Θ.call (Vt aV) lz ?_;cases ξ;cases Δ;exact wt Q2 Q0 rfl
  cases ξ;cases Δ;exact wt Q2 Q0 rfl
 refine rt ?_;cases h;exact (Fz.t fq)
def zr {c d r} (h:qO c d=some r):Pure prog 184 [.a (b4 c),vs d] (.t [vi r.1,vb r.2]):=by
 refine pq tok 12 func184 ?_;unfold qO at h;refine sg (sg ?_);have ⟨x1,θ,h⟩:=η h;refine ⟨_,rfl,?_⟩;refine Θ.call (afw θ) lz ?_;refine rt ?_;cases h;exact (Fz.t fq)
def NM {c e d r} (h:wN c e d=some r):Pure prog 119 [.a (b0 c),vi e,vs d] (.t [vi r.1,vi r.2]):=by
 refine pq tok 40 func119 ?_;unfold wN at h;refine sg (sg ?_);have ⟨x1,θ,h⟩:=η h;refine ⟨_,rfl,?_⟩;refine Θ.eD (id:=15) (GQ θ) rfl (.box lz) rfl (.cons (Lr.b) (.cons (Lr.cq rfl) .nil)) ?_;rintro _ _ ⟨rfl,rfl⟩;refine ⟨_,rfl,?_⟩;refine sq (sg ?_);refine ct h (fun hb h=>?_) fun hb h=>?_
 ·refine sg (rt ?_);cases h;exact (Fz.t fq)
 refine sk (sq (sg ?_));have ⟨x2,aq,h⟩:=η h;refine Θ.call (GI aq) lz ?_;refine ct h (fun hb h=>?_) fun hb h=>?_
 ·refine sg (rt ?_);cases h;exact (Fz.t fq)
 refine sk (sg ?_);have ⟨x3,aF,h⟩:=η h;refine ⟨_,rfl,?_⟩;refine Θ.call (zr aF) lz ?_;refine sq (sg ?_);refine ct h (fun hb h=>?_) fun hb h=>?_
 ·refine sg (rt ?_);cases h;exact (Fz.t fq)
 refine sk (sg ?_);have ⟨x4,aV,h⟩:=η h;refine ⟨_,rfl,_,aI aV,_,aK aV,_,rfl,?_⟩;refine rt ?_;cases h;exact (Fz.t fq)
def Vs {c d r} (h:wO c d=some r):Pure prog 163 [.a (b0 c),vs d] (.t [vi r.1,vi r.2]):=by
 refine pq tok 37 func163 ?_;unfold wO at h;refine sg (sg ?_);have ⟨x1,θ,h⟩:=η h;refine Θ.call (U6 θ) lz ?_;refine sq (sg ?_);refine ct h (fun hb h=>?_) fun hb h=>?_
 ·refine sg (rt ?_);cases h;exact (Fz.t fq)
 refine sk (sg ?_);refine Ok.cU (fun v1=>⟨Γ [(8,vi v1)],[]⟩) (fun v1=>Gw v1=some r) ?_ ?_
 ·refine sg ⟨_,au _,fun _=>?_⟩;refine bl (Ok.loop (fun (s1:Int×Int)=>⟨Γ [(2,.b 2 0),(8,vi s1.1),(19,.s (mG x1.1)),(20,vi (x1.1.length:Int)),(21,vi s1.2)],[(2,.box (b0 c))]⟩) (wP x1 c) (s0:=(1,0)) h (wt Q5 ⟨hr,Q0⟩ rfl) ?_);intro s1 y1 ζ az;unfold wP at ζ;refine sg (sq (ct ζ (fun hb ζ=>?_) fun hb ζ=>?_))
  ·refine sk (sq (bl (sg ?_)));have ⟨x2,aq,ζ⟩:=η ζ;refine ⟨_,aI aq,_,aK aq,_,rfl,?_⟩;refine sg ?_;have ⟨x3,aF,ζ⟩:=η ζ;refine ⟨_,rfl,?_⟩;refine Θ.call (NM aF) lz ?_;refine sg (ct ζ (fun hb ζ=>?_) fun hb ζ=>?_)
   ·refine sg (rt ?_);have ζ:=aN ζ az;cases ζ;exact (Fz.t fq)
   refine sk (rg ?_);have ⟨ah,ζ⟩:=ak ζ;refine (af ⟨ah,?_⟩);exact ⟨_,sj ζ,wt Q5 J1 rfl⟩
  refine xt ?_;have ζ:=aN ζ az;exact ⟨_,ζ,wt Q1 Q0 rfl⟩
 intro v1 h;unfold Gw at h;refine sg (rt ?_);cases h;exact (Fz.t fq)
def wU {c d r} (h:oR c d=some r):Pure prog 176 [.a (b0 c),vi d] (.t [.a (b4 r.1),vb r.2]):=by
 refine pq tok 13 func176 ?_;unfold oR at h;refine sg (sg ?_);have ⟨x1,θ,h⟩:=η h;refine ⟨_,rfl,?_⟩;refine Θ.eD (id:=8) (rV θ) rfl (.box lz) rfl (.cons (Lr.b) (.cons (Lr.cq rfl) .nil)) ?_;rintro _ _ ⟨rfl,rfl⟩;refine ⟨_,rfl,?_⟩;refine rt ?_;cases h;exact ⟨_,rfl,Fz.t fq⟩
def af4 {K d e f g i j k l o t u w z y A B C D E F G I J r} (h:Ab K d e f g i j k l o t u w z y A B C D E F G I J=some r):Θ prog 164 [.b 1000 0,vi K] ⟨aM,[(1000,.box (iJ d e f g i j k l o t u w z y A B C D E F G I J))]⟩ fun x s=>x=(.a (k8 r.1 r.2.1 r.2.2.1 r.2.2.2.1 r.2.2.2.2.1 r.2.2.2.2.2))∧s.H=[(1000,.box (iJ d e f g i j k l o t u w z y A B C D E F G I J))]:=by
 refine pg tok 19 func164 ?_;unfold Ab at h;refine sg (sg ?_);have ⟨x1,θ,h⟩:=η h;refine ⟨_,rfl,?_⟩;refine Θ.call (wU θ) lz ?_;refine ⟨_,rfl,?_⟩;refine sg ⟨_,rfl,_,rfl,?_⟩;refine rt ?_;cases h;exact ⟨_,rfl,wt Q1 J1 rfl⟩
def Vx {L d e f g i j k l o t u w z A B C D E F G I J K} {q:Int⊕(kV)} (h:xB L d e f g i j k l o t u w z A B C D E F G I J K=some q):j8 prog eB 113 [.b 1000 0,vs L] ⟨aM,[(1000,.box (iJ d e f g i j k l o t u w z A B C D E F G I J K))]⟩ (fun x s=>∃y:kV,q=.inr y∧x=(.a (k8 y.1 y.2.1 y.2.2.1 y.2.2.2.1 y.2.2.2.2.1 y.2.2.2.2.2))∧s.H=[(1000,.box (iJ d e f g i j k l o t u w z A B C D E F G I J K))]) fun m s=>q=.inl m∧s.H=[]:=by
 refine px tok 23 func113 ?_;unfold xB at h;refine sg (sg ?_);have ⟨x1,θ,h⟩:=η h;refine ⟨_,rfl,?_⟩;refine Θ.call (Vs θ) lz ?_;refine sq (Ok.jq eB tok ?_);have ⟨x2,aq,h⟩:=η h;refine af (fp (cx [] [] (ud aq) nq Q0 (fun e1 cH=>?_) (fun y1 fQ=>?_)))
 ·have h:=gV h cH;cases h;exact ⟨_,rfl,rfl⟩
 have h:=gW h fQ;refine sg ?_;have ⟨x3,aF,h⟩:=η h;refine cg [(1000,1000)] [] (af4 aF) (.cons (Ln.b rfl) nq) ⟨⟨1000,_,rfl,rfl,.box nq⟩,Q0⟩ ?_;refine ⟨_,rfl,?_⟩;refine rt ?_;cases h;exact ⟨_,rfl,_,rfl,wt Q1 J1 rfl⟩
def af2 {a d e f g i j k l o u w z A B C D E F G I J K} {q:Int⊕(Int×Int)} (h:DC a d e f g i j k l o u w z A B C D E F G I J K=some q):j8 prog eB 62 [.b 1000 0] ⟨aM,[(1000,.box (iJ a d e f g i j k l o u w z A B C D E F G I J K))]⟩ (fun x s=>∃y:Int×Int,q=.inr y∧x=(.t [])∧s.H=[(1000,.box (iJ a d e f g i j k l o u w z A B C D E 0 y.1 y.2 0 0))]) fun m s=>q=.inl m∧s.H=[]:=by
 refine px tok 18 func62 ?_;unfold DC at h;refine sq (Ok.jq eB tok ?_);have ⟨x1,θ,h⟩:=η h;refine af (af (af (af (af (af (⟨_,rfl,?_⟩))))));refine fp (cx [(1000,1000)] [] (Vx θ) (.cons (Ln.b rfl) nq) ⟨⟨1000,_,rfl,rfl,.box nq⟩,Q0⟩ (fun e1 cH=>?_) (fun y1 fQ=>?_))
 ·have h:=gV h cH;cases h;exact ⟨_,rfl,rfl⟩
 have h:=gW h fQ;refine af (af (⟨_,rfl,?_⟩));refine rg ⟨_,rfl,_,rfl,_,rfl,?_⟩;cases h;exact ⟨_,rfl,wt Q1 J1 rfl⟩
def aeG [mP] {a r} (h:Kz a=some r):Pure prog 228 [.s (mG a)] (vs r):=by
 refine pq tok 9 func228 ?_;unfold Kz at h;refine sg (sq (sg ?_));refine ⟨_,au _,fun _=>?_⟩;refine ct h (fun hb h=>?_) fun hb h=>?_
 ·refine sg (rt ?_);cases h;exact Fz.v
 refine sk (sg ?_);have ⟨ah,h⟩:=ak h;refine Θ.call (aaQ a ([47]) ah) lz ?_;have ⟨aQ,h⟩:=ak h;refine ⟨MY aQ,_,MZ _ _,?_⟩;refine rt ?_;cases h;exact Fz.v
def aeH [mP] {a r} (h:KA a=some r):Pure prog 165 [vs a] (.t (RZ r.1 r.2.1 r.2.2)):=by
 refine pq tok 31 func165 ?_;unfold KA at h;refine sg (sg ?_);have ⟨x1,θ,h⟩:=η h;refine Θ.call (U6 θ) lz ?_;refine sq ?_;have ⟨v1,ν,h⟩:=η h;refine Ok.aB ⟨Γ [(5,.s (mG x1.1)),(19,vb v1)],[]⟩ ?_ ?_
 ·refine rg ?_;have ⟨c1,ξ,ν⟩:=η ν;refine Br.cO ξ (fun hb ξ=>?_) fun hb ξ=>?_
  ·cases ξ;cases ν;exact wt Q2 Q0 rfl
  refine ⟨_,au _,fun _=>?_⟩;cases ξ;cases ν;exact wt Q2 Q0 rfl
 refine ct h (fun hb h=>?_) fun hb h=>?_
 ·refine sg (rt ?_);cases h;exact (Fz.t fq)
 refine sk (sg ?_);have ⟨ah,h⟩:=ak h;refine ⟨_,au _,fun _=>(af ⟨ah,?_⟩)⟩;refine sq (dw 11 tok mixed ?_);have ⟨x2,aq,h⟩:=η h;have ⟨aQ,h⟩:=ak h;have ⟨x3,aF,h⟩:=η h;refine ⟨_,rfl,_,rfl,_,⟨_,aI aq,_,aK aq,rfl⟩,_,⟨_,rfl,rfl⟩,_,rfl,_,rfl,_,⟨_,fK aQ.1,Nat.zero_le _,nW aQ,mo (f:=eA) (K:=1) (fun _=>rfl) x1.1,_,wL _ _ _,rfl⟩,_,⟨_,.dz (aeG aF) lz,rfl⟩,_,rfl,_,rfl,_,rfl,Q0,?_⟩;refine rt ?_;cases h;exact (Fz.t fq)
def NP [mP] {L a d e f g i j k l o u w z A B C D E F G I J K} {q:Int⊕(Int×(List UInt8))} (h:Ac L a d e f g i j k l o u w z A B C D E F G I J K=some q):j8 prog eB 114 [.b 1000 0,vs L] ⟨aM,[(1000,.box (iJ a d e f g i j k l o u w z A B C D E F G I J K))]⟩ (fun x s=>∃y:Int×(List UInt8),q=.inr y∧x=(.t [vi y.1,vs y.2])∧s.H=[(1000,.box (iJ a d e f g i j k l o u w z A B C D E F G I J K))]) fun m s=>q=.inl m∧s.H=[]:=by
 refine px tok 33 func114 ?_;unfold Ac at h;refine sg (sg ?_);have ⟨x1,θ,h⟩:=η h;refine Θ.call (aeH θ) lz ?_;refine sq (Ok.jq eB tok ?_);have ⟨x2,aq,h⟩:=η h;refine af (fp (cx [] [] (ud aq) nq Q0 (fun e1 cH=>?_) (fun y1 fQ=>?_)))
 ·have h:=gV h cH;cases h;exact ⟨_,rfl,rfl⟩
 have h:=gW h fQ;refine sg ?_;have ⟨x3,aF,h⟩:=η h;refine ⟨_,rfl,?_⟩;refine Θ.call (Vs aF) lz ?_;refine sq (Ok.jq eB tok ?_);have ⟨x4,aV,h⟩:=η h;refine af (fp (cx [] [] (ud aV) nq Q0 (fun e2 jg=>?_) (fun y2 kS=>?_)))
 ·have h:=gV h jg;cases h;exact ⟨_,rfl,rfl⟩
 have h:=gW h kS;refine sg (rt ?_);cases h;exact ⟨_,rfl,wt Q1 J1 rfl⟩
def NN {self a r} (h:Cz self a=some r):lg prog 185 [.b 1000 0,vi a] (.box (b5 self)) (fun x c=>x=(.s (mB r.1))∧c=.box (b5 r.2)):=by
 refine oM (n:=44) (c:=f185.body.getD .skip) tok func185 (by kernel_rfl) rfl rfl nb ?_;unfold Cz at h;refine sg (sg (fp ?_));refine Ok.cU (fun v1=>⟨Γ [(5,.o 9)],[(9,.own 3 1 (mB v1.1)),(1000,.box (k0 v1.2.1 v1.2.2.1 v1.2.2.2))]⟩) (fun v1=>Np v1=some r) ?_ ?_
 ·refine bl (Ok.loop (fun (s1:Int×(List ψ)×Int×Int×(List Int))=>⟨Γ [(0,.b 1000 0),(1,vi s1.1),(5,.o 9)],[(1000,.box (k0 s1.2.1 s1.2.2.1 s1.2.2.2.1)),(9,.own 3 1 (mB s1.2.2.2.2))]⟩) (No) (s0:=(a,self.Tree.ι,self.Tree.Next,self.Tree.ar,[a])) h (wt Q3 ⟨hr,hr,Q0⟩ rfl) ?_);intro s1 y1 ζ az;unfold No at ζ;refine sq ?_;have ⟨v2,Δ,ζ⟩:=η ζ;refine Ok.aB ⟨Γ [(0,.b 1000 0),(1,vi s1.1),(5,.o 9),(22,vb v2)],[(1000,.box (k0 s1.2.1 s1.2.2.1 s1.2.2.2.1)),(9,.own 3 1 (mB s1.2.2.2.2))]⟩ ?_ ?_
  ·refine rg ?_;have ⟨c1,ξ,Δ⟩:=η Δ;refine Br.ite ξ (fun hb ξ=>?_) fun hb ξ=>?_
   ·refine ⟨_,au _,fun _=>⟨_,rfl,_,au _,fun _=>?_⟩⟩;cases ξ;cases Δ;exact wt Q4 J2 rfl
   cases ξ;cases Δ;exact wt Q4 J2 rfl
  refine ct ζ (fun hb ζ=>?_) fun hb ζ=>?_
  ·refine sk (bl (sg ?_));have ⟨x1,θ,ζ⟩:=η ζ;refine Θ.eD (id:=1000) (rV θ) rfl (.box lz) rfl (.cons (Lr.b) (.cons (Lr.cq rfl) .nil)) ?_;rintro _ _ ⟨rfl,rfl⟩;refine ⟨_,rfl,?_⟩;refine sq ?_;have ⟨v3,aA,ζ⟩:=η ζ;refine Ok.aB ⟨Γ [(0,.b 1000 0),(5,.o 9),(6,.b 6 0),(35,vb v3)],[(1000,.box (b5 x1.2)),(9,.own 3 1 (mB s1.2.2.2.2)),(6,.box (b4 x1.1.1))]⟩ ?_ ?_
   ·refine rg ?_;have ⟨c2,ax,aA⟩:=η aA;refine Br.cO ax (fun hb ax=>?_) fun hb ax=>?_
    ·cases ax;cases aA;exact wt Q4 J3 rfl
    refine ⟨_,rfl,?_⟩;cases ax;cases aA;exact wt Q4 J3 rfl
   refine ct ζ (fun hb ζ=>?_) fun hb ζ=>?_
   ·refine sg (rt ?_);have ζ:=aN ζ az;cases ζ;exact ⟨_,_,⟨rfl,rfl⟩,rfl,rfl,Fz.o rfl⟩
   refine sk (sg ?_);refine ⟨_,rfl,?_⟩;refine rg ?_;have ⟨ah,ζ⟩:=ak ζ;refine af ⟨cL (f:=Go.Cat.encI) (n:=1) (fun _=>rfl) ([x1.1.1.Up]),cJ (f:=Go.Cat.encI) (l:=s1.2.2.2.2) (l':=[x1.1.1.Up]) ah,_,(bP (f:=Go.Cat.encI) (l₁:=s1.2.2.2.2) (l₂:=[x1.1.1.Up])).symm,?_⟩;exact ⟨_,sj ζ,wt Q3 J2 rfl⟩
  refine xt ?_;have ζ:=aN ζ az;exact ⟨_,ζ,wt Q1 ⟨hr,hr,Q0⟩ rfl⟩
 intro v1 h;unfold Np at h;refine sg (rt ?_);cases h;exact ⟨_,_,⟨rfl,rfl⟩,rfl,rfl,Fz.o rfl⟩
def Vv {self a r} (h:Gy self a=some r):lg prog 229 [.b 1000 0,vi a] (.box (b5 self)) (fun x c=>x=(vi r.1)∧c=.box (b5 r.2)):=by
 refine oM (n:=10) (c:=f229.body.getD .skip) tok func229 (by kernel_rfl) rfl rfl nb ?_;unfold Gy at h;refine sg (sg ?_);have ⟨x1,θ,h⟩:=η h;refine Θ.eD (id:=1000) (NN θ) rfl (.box lz) rfl (.cons (Lr.b) (.cons (Lr.cq rfl) .nil)) ?_;rintro _ _ ⟨rfl,rfl⟩;have ⟨ah,h⟩:=ak h;refine ⟨_,au _,fun _=>(af ⟨ah,?_⟩)⟩;refine rt ?_;cases h;exact ⟨_,_,⟨rfl,rfl⟩,rfl,rfl,Fz.v⟩
def afZ {self a d r} (h:Nl self a d=some r):lg prog 166 [.b 1000 0,vi a,vs d] (.box (b5 self)) (fun x c=>x=(vi r.1)∧c=.box (b5 r.2)):=by
 refine oM (n:=48) (c:=f166.body.getD .skip) tok func166 (by kernel_rfl) rfl rfl nb ?_;unfold Nl at h;refine sg (sg ?_);have ⟨x1,θ,h⟩:=η h;refine Θ.eD (id:=1000) (GQ θ) rfl (.box lz) rfl (.cons (Lr.b) (.cons (Lr.cq rfl) .nil)) ?_;rintro _ _ ⟨rfl,rfl⟩;refine ⟨_,rfl,?_⟩;refine sq (sg ?_);refine ct h (fun hb h=>?_) fun hb h=>?_
 ·refine sg (rt ?_);cases h;exact ⟨_,_,⟨rfl,rfl⟩,rfl,rfl,Fz.v⟩
 refine sk (sq (sg ?_));have ⟨x2,aq,h⟩:=η h;refine Θ.call (GI aq) lz ?_;refine ct h (fun hb h=>?_) fun hb h=>?_
 ·refine sg (rt ?_);cases h;exact ⟨_,_,⟨rfl,rfl⟩,rfl,rfl,Fz.v⟩
 refine sk (sq (sg ?_));have ⟨x3,aF,h⟩:=η h;refine ⟨_,rfl,?_⟩;refine Θ.call (zr aF) lz ?_;refine sg (ct h (fun hb h=>?_) fun hb h=>?_)
 ·refine sg (rt ?_);cases h;exact ⟨_,_,⟨rfl,rfl⟩,rfl,rfl,Fz.v⟩
 refine sk (sq ?_);have ⟨v1,ν,h⟩:=η h;refine Ok.aB ⟨Γ [(47,vb v1.1)],[(1000,.box (k0 v1.2.1 v1.2.2.1 v1.2.2.2))]⟩ ?_ ?_
 ·refine rg ⟨_,rfl,_,au _,fun _=>?_⟩;have ⟨c1,ξ,ν⟩:=η ν;refine Br.cO ξ (fun hb ξ=>?_) fun hb ξ=>?_
  ·cases ξ;have ⟨c2,ax,ν⟩:=η ν;replace ax:=fu ax;cases ax;cases ν;exact wt Q1 J1 rfl
  have ⟨x4,aV,ξ⟩:=η ξ;refine Θ.eD (id:=1000) (Vv aV) rfl (.box lz) rfl (.cons (Lr.b) (.cons (Lr.cq rfl) .nil)) ?_;rintro _ _ ⟨rfl,rfl⟩;cases ξ;have ⟨c2,aL,ν⟩:=η ν;refine Br.cO aL (fun hb aL=>?_) fun hb aL=>?_
  ·cases aL;cases ν;exact wt Q1 J1 rfl
  refine ⟨_,rfl,?_⟩;cases aL;cases ν;exact wt Q1 J1 rfl
 refine ct h (fun hb h=>?_) fun hb h=>?_
 ·refine sg (rt ?_);cases h;exact ⟨_,_,⟨rfl,rfl⟩,rfl,rfl,Fz.v⟩
 refine sk (sg ?_);refine rt ?_;cases h;exact ⟨_,_,⟨rfl,rfl⟩,rfl,rfl,Fz.v⟩
end Go.Proofs
