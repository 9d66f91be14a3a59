/- The walks of this seat beside the plain programs, part 0. No condition. -/
import Derived.Test.YtdcgbodbejgliaaGreatDoorXTopClientsHb
open List renaming length_map → az, map → aT, map_append → fu
open Nat renaming lt_of_le_of_lt → gx, le_of_eq → kz
open Or renaming inl → θ, inr → bY
namespace Go.Proofs
set_option linter.all false
open Go Go.Cat Tryz
variable [M:bM]
set_option maxRecDepth 100000
set_option maxHeartbeats 4000000
def sg [R:dK] {n:Nat} {st:ae} {Q:Exit→ae→Prop} {id:Nat} {ops:Array Oper} {y:Code} (h:iV prog (lk tl) n ops ops.toList st (nx prog n y Q .normal)):Ok prog n (.seq (.region id ops false) y) st Q:=Sg tok h
def rg [R:dK] {n:Nat} {st:ae} {Q:Exit→ae→Prop} {id:Nat} {ops:Array Oper} (h:iV prog (lk tl) n ops ops.toList st (Q .normal)):Ok prog n (.region id ops false) st Q:=Ok.region tok h
abbrev mI:=aT dh
abbrev mU:=aT dZ
abbrev mA:=aT q7
abbrev mB:=aT Go.Cat.encI
abbrev mC:=aT sD
abbrev mD:=aT mL
abbrev mE:=aT p9
abbrev mF:=aT j7
abbrev mG:=aT mJ
abbrev mH:=aT Dw
abbrev zs:AV:=.v (.slice none 0 0)
abbrev k0 (a:List τ) (b:Int) (c:Int):List AV:=[.s (mI a),vi b,vi c]
abbrev k1 (a:Int) (b:Int):List AV:=[zs,vi a,vi b]
abbrev k2 (a:List τ) (b:Int) (c:Int) (d:Int) (e:List Int) (f:List br) (g:List bd) (i:Int):List AV:=[.s (mI a),vi b,vi c,vi d,.s (mB e),.s (mC f),.s (mA g),vi i]
abbrev k3 (a:Int) (b:Int) (c:Int) (d:Int):List AV:=[zs,vi a,vi b,vi c,zs,zs,zs,vi d]
abbrev k4 (a:List τ) (b:Int) (c:Int) (d:Int) (e:List Int) (f:Int):List AV:=[.s (mI a),vi b,vi c,vi d,.s (mB e),zs,zs,vi f]
abbrev k5 (a:List τ) (b:Int) (c:Int) (d:Int) (e:List Int) (f:List br) (g:List bd) (i:Int) (j:List ay) (k:List aA):List AV:=[.s (mI a),vi b,vi c,vi d,.s (mB e),.s (mC f),.s (mA g),vi i,.s (mE j),.s (mD k)]
abbrev k6 (a:Int) (b:Int) (c:Int) (d:Int):List AV:=[zs,vi a,vi b,vi c,zs,zs,zs,vi d,zs,zs]
abbrev k7 (a:List τ) (b:Int) (c:Int) (d:Int) (e:List Int) (f:List br) (g:List bd) (i:Int):List AV:=[.s (mI a),vi b,vi c,vi d,.s (mB e),.s (mC f),.s (mA g),vi i,zs,zs]
abbrev k8 (a:Int) (b:Int) (c:Int) (d:List UInt8) (e:List aO) (f:Int):List AV:=[vi a,vi b,vi c,.s (mU d),.s (mF e),vi f]
abbrev k9 (a:Int) (b:Int) (c:Int) (d:Int):List AV:=[vi a,vi b,vi c,zs,zs,vi d]
abbrev k10 (a:List UInt8) (b:Int) (c:Int):List AV:=[vs a,vi b,vi c]
abbrev cP (a:List τ) (b:Int) (c:Int) (d:Int) (e:List Int) (f:List br) (g:List bd) (i:Int) (j:List ay) (k:List aA) (l:Int) (o:Int) (s:List UInt8) (t:List UInt8) (u:Int) (w:Int) (z:Int) (y:List UInt8) (A:Int) (B:Int) (C:Int) (D:Int) (E:Int):List AV:=[.s (mI a),vi b,vi c,vi d,.s (mB e),.s (mC f),.s (mA g),vi i,.s (mE j),.s (mD k),vi l,vi o,vs s,vs t,vi u,vi w,vi z,.s (mU y),vi A,vi B,vi C,vi D,vi E,zs,zs]
abbrev k12 (a:List UInt8) (b:List UInt8) (c:Int):List AV:=[vs a,vs b,vi c]
abbrev Jg (a:Int) (b:Int) (c:Int):List AV:=[vi a,vi b,vi c]
abbrev k14 (a:List bd) (b:Int) (c:Int):List AV:=[.s (mA a),vi b,vi c]
abbrev k15 (a:List aO) (b:Int) (c:Int):List AV:=[.s (mF a),vi b,vi c]
abbrev k16 (a:List τ) (b:Int) (c:Int) (d:Int) (e:List Int) (f:List br) (g:List bd) (i:Int) (j:List ay) (k:List aA) (l:Int) (o:Int) (s:List UInt8) (t:List UInt8) (u:Int) (w:Int) (z:Int) (y:List UInt8) (A:Int) (B:Int) (C:Int) (D:Int) (E:Int) (F:List (List UInt8)):List AV:=[.s (mI a),vi b,vi c,vi d,.s (mB e),.s (mC f),.s (mA g),vi i,.s (mE j),.s (mD k),vi l,vi o,vs s,vs t,vi u,vi w,vi z,.s (mU y),vi A,vi B,vi C,vi D,vi E,.s (mG F),zs]
abbrev k17 (a:List ay) (b:Int) (c:Int):List AV:=[.s (mE a),vi b,vi c]
abbrev k18 (a:List τ) (b:Int) (c:Int) (d:Int) (e:List Int) (f:List br) (g:List bd) (i:Int) (j:List ay) (k:List aA) (l:Int) (o:Int) (s:List UInt8) (t:List UInt8) (u:Int) (w:Int) (z:Int) (y:List UInt8) (A:Int) (B:Int) (C:Int) (D:Int) (E:Int) (F:List UInt8):List AV:=[.s (mI a),vi b,vi c,vi d,.s (mB e),.s (mC f),.s (mA g),vi i,.s (mE j),.s (mD k),vi l,vi o,vs s,vs t,vi u,vi w,vi z,.s (mU y),vi A,vi B,vi C,vi D,vi E,zs,.s (mU F)]
abbrev k19 (a:Int) (b:Int) (c:Int) (d:Int) (e:Int) (f:List UInt8) (g:List aO) (i:Int):List AV:=[vi a,vi b,vi c,vi d,vi e,.s (mU f),.s (mF g),vi i]
abbrev k20 (a:Int) (b:List τ) (c:Int):List AV:=[vi a,.s (mI b),vi c]
abbrev Vq (a:List τ) (b:Int) (c:Int) (d:Int) (e:List Int) (f:List br) (g:List bd) (i:Int) (j:List ay) (k:List aA) (l:Int) (o:Int) (s:List UInt8) (t:List UInt8) (u:Int) (w:Int) (z:Int) (y:List UInt8) (A:Int) (B:Int) (C:Int) (D:Int) (E:Int) (F:List (List UInt8)) (G:List UInt8):List AV:=[.s (mI a),vi b,vi c,vi d,.s (mB e),.s (mC f),.s (mA g),vi i,.s (mE j),.s (mD k),vi l,vi o,vs s,vs t,vi u,vi w,vi z,.s (mU y),vi A,vi B,vi C,vi D,vi E,.s (mG F),.s (mU G)]
abbrev Vr (a:Int) (b:Int) (c:List UInt8) (d:List UInt8) (e:Int) (f:Int) (g:Int) (i:List UInt8):List AV:=[vi a,vi b,vs c,vs d,vi e,vi f,vi g,.s (mU i)]
abbrev tn (a:Int) (b:Int) (c:Int) (d:Int) (e:Int) (f:List (List UInt8)) (g:List UInt8):List AV:=[vi a,vi b,vi c,vi d,vi e,.s (mG f),.s (mU g)]
abbrev jG (a:Int) (b:Int) (c:Int) (d:Int) (e:Int):List AV:=[vi a,vi b,vi c,vi d,vi e,zs,zs]
abbrev Vs (a:Int) (b:List UInt8) (c:Int):List AV:=[vi a,.s (mU b),vi c]
abbrev Vt (a:Int) (b:Int) (c:List UInt8) (d:List UInt8) (e:Int) (f:Int) (g:Int):List AV:=[vi a,vi b,vs c,vs d,vi e,vi f,vi g,zs]
abbrev b0 (x:ψ):List AV:=k0 x.η x.Next x.aj
abbrev b1 (x:bx):List AV:=k2 x.Γ.η x.Γ.Next x.Γ.aj x.bc x.a_ x.aU x.aW x.Next
abbrev b2 (x:db):List AV:=k5 x.S.Γ.η x.S.Γ.Next x.S.Γ.aj x.S.bc x.S.a_ x.S.aU x.S.aW x.S.Next x.Holds x.bb
abbrev b3 (x:bx):List AV:=k7 x.Γ.η x.Γ.Next x.Γ.aj x.bc x.a_ x.aU x.aW x.Next
abbrev b4 (x:τ):List AV:=k8 x.ι x.ξ x.aZ x.aC x.Ψ x.Up
abbrev b5 (x:da):List AV:=k0 x.Tree.η x.Tree.Next x.Tree.aj
abbrev b6 (x:aO):List AV:=k10 x.aN x.ι x.aj
abbrev b7 (x:ay):List AV:=Jg x.aL x.bq x.ι
abbrev b8 (x:aA):List AV:=Jg x.ι x.η x.AI
abbrev b9 (x:bd):List AV:=Jg x.Id x.ι x.At
abbrev RY (x:br):List AV:=k19 x.lS x.i_ x.fj.ι x.fj.ξ x.fj.aZ x.fj.aC x.fj.Ψ x.fj.Up
abbrev uw (x:bF):List AV:=Vr x.ξ x.aL x.cm x.To x.N x.M x.bq x.aC
abbrev np (x:dL):List AV:=tn x.xD x.ι x.ξ x.N x.M x.mj x.aC
abbrev u1:=ak 1 62 ([]:List (Int×Int))
abbrev u2:=ak 2 63 u1
abbrev u3:=ak 3 64 u2
abbrev u4:=ak 4 65 u3
abbrev u5:=ak 5 66 u4
abbrev u6:=ak 6 67 u5
abbrev u7:=ak 7 68 u6
abbrev u8:=ak 8 69 u7
abbrev u9:=ak 9 70 u8
abbrev X8:=ak 10 71 u9
abbrev X9:=ak 11 72 X8
abbrev X_:=ak 12 73 X9
abbrev Ya:=ak 13 74 X_
abbrev Yb:=ak 14 75 Ya
abbrev Yc:=ak 15 76 Yb
abbrev u16:=ak 16 77 Yc
abbrev Aj:=ak 17 78 u16
abbrev t8 {A B C D E F G H I:Type} (x:A×B×C×D×E×F×G×H×I):I:=x.2.2.2.2.2.2.2.2
abbrev t5 {A B C D E I:Type} (x:A×B×C×D×E×I):I:=x.2.2.2.2.2
def nb {a b:Nat} (h:Nat.ble a b=true:=by rfl):a≤b:=Nat.le_of_ble_eq_true h
def ajy {r} (h:KN=some r):Pure prog 31 [] (.a (b0 r)):=by
 refine pq tok 4 func31 ?_;unfold KN at h;refine sg (sg (θ ⟨_,rfl,?_⟩));refine rt ?_;cases h;exact ⟨_,rfl,Fz.dG rfl⟩
def ai7 {c r} (h:Kh c=some r):Pure prog 30 [.a (b0 c)] (.a (b1 r)):=by
 refine pq tok 9 func30 ?_;unfold Kh at h;refine sg (sq (dw 6 tok mixed ?_));have ⟨ax,h⟩:=aG h;refine ⟨_,⟨_,rfl,rfl⟩,_,rfl,_,⟨_,rfl,rfl⟩,_,⟨_,az _,fun _=>rfl⟩,_,⟨_,_,VR ax,VR ax,Nat.le_refl _,mk_le (by decide) ax,ax.2,_,(List.map_replicate (f:=Go.Cat.encI) (a:=(0:Int))).symm,rfl⟩,_,rfl,Q0,_,rfl,?_⟩;refine rt ?_;cases h;exact ⟨_,rfl,Fz.a (.cons Fz.s (.cons Fz.v (.cons Fz.v (.cons Fz.v (.cons Fz.s (.cons Fz.nil (.cons Fz.nil fq)))))))⟩
def Qw {r} (h:yl=some r):Pure prog 13 [] (.a (b2 r)):=by
 refine pq tok 4 func13 ?_;unfold yl at h;refine sg (sg ?_);have ⟨x1,Ξ,h⟩:=κ h;refine af.call (ajy Ξ) lz ?_;have ⟨x2,au,h⟩:=κ h;refine af.call (ai7 au) lz ?_;refine ⟨_,rfl,?_⟩;refine rt ?_;cases h;exact ⟨_,rfl,Fz.a (.cons Fz.s (.cons Fz.v (.cons Fz.v (.cons Fz.v (.cons Fz.s (.cons Fz.s (.cons Fz.s (.cons Fz.v (.cons Fz.nil (.cons Fz.nil .nil))))))))))⟩
def GM {r} (h:Ea=some r):af prog 28 [] ⟨aF,[]⟩ fun x s=>x=(.m 1)∧s.H=[(1,.mp false (aT (fun p=>(p.1,gM p.2)) Aj))]:=by
 refine pg tok 3 func28 ?_;unfold Ea at h;refine sg (sg ?_);have ⟨ax,h⟩:=aG h;have ⟨bt,h⟩:=aG h;have ⟨ep,h⟩:=aG h;have ⟨kN,h⟩:=aG h;have ⟨qg,h⟩:=aG h;have ⟨Ep,h⟩:=aG h;have ⟨TU,h⟩:=aG h;have ⟨TV,h⟩:=aG h;have ⟨TW,h⟩:=aG h;have ⟨TH,h⟩:=aG h;have ⟨TJ,h⟩:=aG h;have ⟨TL,h⟩:=aG h;have ⟨TM,h⟩:=aG h;have ⟨TN,h⟩:=aG h;have ⟨TO,h⟩:=aG h;have ⟨TP,h⟩:=aG h;have ⟨TQ,h⟩:=aG h;refine ⟨ax.1,gx (Nat.le_refl _) ax.2,_,iH gM (1) 62 ([]:List (Int×Int)),bt.1,gx (kz (az _)) bt.2,_,iH gM (2) 63 u1,ep.1,gx (kz (az _)) ep.2,_,iH gM (3) 64 u2,kN.1,gx (kz (az _)) kN.2,_,iH gM (4) 65 u3,qg.1,gx (kz (az _)) qg.2,_,iH gM (5) 66 u4,Ep.1,gx (kz (az _)) Ep.2,_,iH gM (6) 67 u5,TU.1,gx (kz (az _)) TU.2,_,iH gM (7) 68 u6,TV.1,gx (kz (az _)) TV.2,_,iH gM (8) 69 u7,TW.1,gx (kz (az _)) TW.2,_,iH gM (9) 70 u8,TH.1,gx (kz (az _)) TH.2,_,iH gM (10) 71 u9,TJ.1,gx (kz (az _)) TJ.2,_,iH gM (11) 72 X8,TL.1,gx (kz (az _)) TL.2,_,iH gM (12) 73 X9,TM.1,gx (kz (az _)) TM.2,_,iH gM (13) 74 X_,TN.1,gx (kz (az _)) TN.2,_,iH gM (14) 75 Ya,TO.1,gx (kz (az _)) TO.2,_,iH gM (15) 76 Yb,TP.1,gx (kz (az _)) TP.2,_,iH gM (16) 77 Yc,TQ.1,gx (kz (az _)) TQ.2,_,iH gM (17) 78 u16,?_⟩
 refine rt ?_;cases h;exact wt Q1 J1 rfl
def ku {a} {q:Int⊕Unit} (h:iu a=some q):fP prog bh 79 [vi a] ⟨aF,[]⟩ (fun x s=>∃y:Unit,q=.inr y∧x=(.t [])∧s.H=[]) fun m s=>q=.inl m∧s.H=[]:=by
 refine px tok 6 func79 ?_;unfold iu at h;refine sg (ct h (fun hb h=>?_) fun hb h=>?_)
 ·refine Ok.cV bh tok (θ (bY (bY ⟨rfl,?_⟩)));cases h;exact ⟨_,rfl,rfl⟩
 refine sk ?_;cases h;exact ⟨_,rfl,wt Q1 Q0 rfl⟩
def pR {a b} {q:Int⊕Unit} (h:ph a b=some q):fP prog bh 29 [vb a,vi b] ⟨aF,[]⟩ (fun x s=>∃y:Unit,q=.inr y∧x=(.t [])∧s.H=[]) fun m s=>q=.inl m∧s.H=[]:=by
 refine px tok 8 func29 ?_;unfold ph at h;refine sg (ct h (fun hb h=>?_) fun hb h=>?_)
 ·refine Ok.cV bh tok ?_;have ⟨x1,Ξ,h⟩:=κ h;refine θ (bY (cx [] [] (ku Ξ) nq Q0 (fun e1 bD=>?_) (fun y1 cY=>?_)))
  ·have h:=cw h bD;cases h;exact ⟨_,rfl,rfl⟩
  have h:=cy h cY;cases h;exact ⟨_,rfl,wt Q1 Q0 rfl⟩
 refine sk ?_;cases h;exact ⟨_,rfl,wt Q1 Q0 rfl⟩
def ajY {a r} (h:Js a=some r):af prog 216 [vs a] ⟨aF,[]⟩ fun x s=>x=(.c (.func 264) [] [.b 1 0])∧s.H=[(1,.box [vs a])]:=by
 refine pg tok 4 func216 ?_;unfold Js at h;refine sg (sg (rt ?_));cases h;exact wt Q1 J1 rfl
def aiI {a b r} (h:Jd a b=some r):Pure prog 317 [vs a,vs b] (vb r):=by
 refine pq tok 18 func317 ?_;unfold Jd at h;refine sg ?_;have ⟨v1,ν,h⟩:=κ h;refine Ok.bj ⟨ar [(4,vb v1)],[]⟩ ?_ ?_
 ·refine rg ⟨_,oS _,_,oS _,?_⟩;have ⟨c1,Δ,ν⟩:=κ ν;refine Br.ite Δ (fun hb Δ=>?_) fun hb Δ=>?_
  ·have ⟨ax,Δ⟩:=aG Δ;refine ⟨_,oS _,_,lf (PN ax),KH ax,KI ax,_,KJ ax,_,tY _ _,?_⟩;cases Δ;cases ν;exact wt Q1 Q0 rfl
  cases Δ;cases ν;exact wt Q1 Q0 rfl
 refine rt ?_;cases h;exact Fz.v
def aiH {a b r} (h:Jc a b=some r):Pure prog 294 [vs a,vs b] (.t [vs r.1,vb r.2]):=by
 refine pq tok 15 func294 ?_;unfold Jc at h;refine sg (sq (sg ?_));have ⟨x1,Ξ,h⟩:=κ h;refine af.call (aiI Ξ) lz ?_;refine ct h (fun hb h=>?_) fun hb h=>?_
 ·refine sg (rt ?_);cases h;exact (Fz.t fq)
 refine sk (sg ?_);have ⟨ax,h⟩:=aG h;refine ⟨_,oS _,_,lf ax.1,KH ax,KI ax,_,KJ ax,?_⟩;refine rt ?_;cases h;exact (Fz.t fq)
def ajp {a b r} (h:Gk a b=some r):Pure prog 265 [vs a,vs b] (.t [vs r.1,vb r.2]):=by
 refine pq tok 11 func265 ?_;unfold Gk at h;refine sg (sg ?_);have ⟨x1,Ξ,h⟩:=κ h;refine af.call (aiH Ξ) lz ?_;refine rt ?_;cases h;exact (Fz.t fq)
def KT {a r} (h:wU a=some r):Pure prog 183 [vs a] (vb r):=by
 refine pq tok 31 func183 ?_;unfold wU at h;refine sg (sq ?_);have ⟨v1,ν,h⟩:=κ h;refine Ok.bj ⟨ar [(0,vs a),(19,vb v1)],[]⟩ ?_ ?_
 ·refine rg ⟨_,tY _ _,?_⟩;have ⟨c1,Δ,ν⟩:=κ ν;refine Br.ei Δ (fun hb Δ=>?_) fun hb Δ=>?_
  ·cases Δ;have ⟨c2,aI,ν⟩:=κ ν;replace aI:=eh aI;cases aI;have ⟨c3,aS,ν⟩:=κ ν;replace aS:=eh aS;cases aS;cases ν;exact wt Q2 Q0 rfl
  refine ⟨_,oS _,?_⟩;cases Δ;have ⟨c2,di,ν⟩:=κ ν;refine Br.ei di (fun hb di=>?_) fun hb di=>?_
  ·cases di;have ⟨c3,dI,ν⟩:=κ ν;replace dI:=eh dI;cases dI;cases ν;exact wt Q2 Q0 rfl
  refine ⟨_,tY _ _,?_⟩;cases di;have ⟨c3,eF,ν⟩:=κ ν;refine Br.ei eF (fun hb eF=>?_) fun hb eF=>?_
  ·cases eF;cases ν;exact wt Q2 Q0 rfl
  refine ⟨_,tY _ _,?_⟩;cases eF;cases ν;exact wt Q2 Q0 rfl
 refine ct h (fun hb h=>?_) fun hb h=>?_
 ·refine sg (rt ?_);cases h;exact Fz.v
 refine sk (Ok.fg (fun v2=>⟨ar [],[]⟩) (fun v2=>Jr v2=some r) ?_ ?_)
 ·refine sg (bl (Ok.loop (fun (s1:Nat)=>⟨ar [(21,.b 21 0)],[(21,.si ⟨a.toArray⟩ s1)]⟩) (Jq a) (s0:=0) h (wt Q1 ⟨hr,Q0⟩ rfl) ?_));intro s1 y1 ζ aQ;unfold Jq at ζ;refine sg (aew ζ (fun ζ=>?_) fun ζ=>?_)
  ·refine sq (Ok.aas rfl ?_);refine sk (bl (sg ?_));have ⟨v3,dF,ζ⟩:=κ ζ;refine Ok.bj ⟨ar [(21,.b 21 0),(30,vb v3)],[(21,.si ⟨a.toArray⟩ (s1+(o_ a s1).2))]⟩ ?_ ?_
   ·refine rg ?_;have ⟨c4,fy,dF⟩:=κ dF;refine Br.ei fy (fun hb fy=>?_) fun hb fy=>?_
    ·cases fy;cases dF;exact wt Q2 J1 rfl
    cases fy;cases dF;exact wt Q2 J1 rfl
   refine ct ζ (fun hb ζ=>?_) fun hb ζ=>?_
   ·refine sg (rt ?_);have ζ:=bz ζ aQ;cases ζ;exact Fz.v
   refine sk ?_;exact ⟨_,sj ζ,wt Q1 J1 rfl⟩
  refine sq (Ok.aar rfl ?_);refine xt ?_;have ζ:=bz ζ aQ;exact ⟨_,ζ,wt Q0 Q0 rfl⟩
 intro v2 h;unfold Jr at h;refine sg (rt ?_);cases h;exact Fz.v
def ajX {l:Nat} {a:List UInt8} {g:Bool} {e:Int} {c:List (List UInt8)} {r:LS×Int×(List (List UInt8))} (h:BS a g e c=some r):af prog (.y l) [vs a,vb g] ⟨aF,(1000,.lp l .iI zT [(2,(.b 1001 0)),(3,(.b 1002 0)),(4,(.b 1003 0))])::[(1001,.box [zs]),(1002,.box [vi e]),(1003,.box [.o 1004]),(1004,.own 9 1 (mG c))]⟩ fun x s=>x=.v (.bool (LS.wP r.1))∧s.H=(1000,.lp l r.1 zT [(2,(.b 1001 0)),(3,(.b 1002 0)),(4,(.b 1003 0))])::[(1001,.box [zs]),(1002,.box [vi r.2.1]),(1003,.box [.o 999]),(999,.own 9 1 (mG r.2.2))]:=by
 letI:dK:=dK.yes
 refine akt (e0:=r.1) (H1:=[(1001,.box [zs]),(1002,.box [vi r.2.1]),(1003,.box [.o 999]),(999,.own 9 1 (mG r.2.2))]) (by kernel_rfl) (by kernel_rfl) rfl rfl rfl ?_;unfold BS at h;refine sg (rg (bl (sq ?_)));have ⟨v1,ν,h⟩:=κ h;refine Ok.bj ⟨ar [(2,.b 1001 0),(3,.b 1002 0),(4,.b 1003 0),(5,vs a),(24,vb v1)],[(1001,.box [zs]),(1002,.box [vi e]),(1003,.box [.o 1004]),(1004,.own 9 1 (mG c))]⟩ ?_ ?_
 ·refine rg ?_;have ⟨c1,Δ,ν⟩:=κ ν;refine Br.ei Δ (fun hb Δ=>?_) fun hb Δ=>?_
  ·cases Δ;have ⟨c2,aI,ν⟩:=κ ν;replace aI:=eh aI;cases aI;cases ν;exact wt Q5 J4 rfl
  have ⟨x1,Ξ,Δ⟩:=κ Δ;refine af.call (KT Ξ) lz ?_;cases Δ;have ⟨c2,aS,ν⟩:=κ ν;refine Br.ei aS (fun hb aS=>?_) fun hb aS=>?_
  ·cases aS;cases ν;exact wt Q5 J4 rfl
  refine ⟨_,rfl,_,az _,fun _=>?_⟩;cases aS;cases ν;exact wt Q5 J4 rfl
 refine ct h (fun hb h=>?_) fun hb h=>?_
 ·refine sg ⟨_,rfl,_,rfl,?_⟩;refine rt ?_;cases h;exact ⟨rfl,(Wk.mv (i:=1004) (d:=999) rfl rfl rfl).trans (wt Q0 ⟨hr,hr,hr,hr,Q0⟩ rfl)⟩
 refine sk (Ok.wk (Wk.mv (i:=1004) (d:=999) rfl rfl rfl) ?_);refine rg ?_;have ⟨ax,h⟩:=aG h;refine ⟨_,rfl,θ ⟨hZ (f:=mJ) (n:=1) (fun _=>rfl) ([a]),iy (f:=mJ) (l:=c) (l':=[a]) ax,_,(fu (f:=mJ) (l₁:=c) (l₂:=[a])).symm,_,rfl,?_⟩⟩;cases h;exact ⟨rfl,wt Q0 ⟨hr,hr,hr,hr,Q0⟩ rfl⟩
def ajZ {l:Nat} {a:Int} {d:List UInt8} {r:LS×Int×(List UInt8)×(List (List UInt8))} (h:Jt a d=some r):af prog 264 [.c (.yield l) [] [],.b 1004 0] ⟨aF,[(1000,.lp l .iI zT [(2,(.b 1001 0)),(3,(.b 1002 0)),(4,(.b 1003 0))]),(1001,.box [zs]),(1002,.box [vi a]),(1003,.box [zs]),(1004,.box [vs d])]⟩ fun x s=>x=(.t [])∧s.H=[(1000,.lp l r.1 zT [(2,(.b 1001 0)),(3,(.b 1002 0)),(4,(.b 1003 0))]),(1001,.box [zs]),(1002,.box [vi r.2.1]),(1003,.box [.o 999]),(1004,.box [vs r.2.2.1]),(999,.own 9 1 (mG r.2.2.2))]:=by
 refine pg tok 29 func264 ?_;unfold Jt at h;refine bl (Ok.loop (fun (s1:LS×(List UInt8)×Int×(List (List UInt8)))=>⟨ar [(0,.c (.yield l) [] []),(1,.b 1004 0)],[(1000,.lp l s1.1 zT [(2,.b 1001 0),(3,.b 1002 0),(4,.b 1003 0)]),(1001,.box [zs]),(1002,.box [vi s1.2.2.1]),(1003,.box [.o 999]),(999,.own 9 1 (mG s1.2.2.2)),(1004,.box [vs s1.2.1])]⟩) (Ju) (s0:=(.iI,d,a,[])) h ((Wk.JD (b:=1003) (q:=0) (id:=999) (E:=9) (K:=1) rfl rfl rfl).trans (wt Q2 ⟨⟨_,rfl,.refl _⟩,⟨_,rfl,.refl _⟩,⟨_,rfl,.refl _⟩,⟨_,rfl,.refl _⟩,⟨_,rfl,.refl _⟩,⟨_,rfl,.refl _⟩,Q0⟩ rfl)) ?_);intro s1 y1 ζ aQ;unfold Ju at ζ;refine sq (sg ?_);refine ⟨_,rfl,_,KG _ _,?_⟩;refine ct ζ (fun hb ζ=>?_) fun hb ζ=>?_
 ·refine sk (bl (sg ?_));have ⟨x1,Ξ,ζ⟩:=κ ζ;refine ⟨_,rfl,?_⟩;refine af.call (ajp Ξ) lz ?_;refine sg (af.call (adi x1.1 (47)) lz ?_);have ⟨v1,ν,ζ⟩:=κ ζ;refine Ok.bj ⟨ar [(0,.c (.yield l) [] []),(1,.b 1004 0),(3,vs x1.1),(4,vb x1.2),(5,vi v1)],[(1000,.lp l s1.1 zT [(2,.b 1001 0),(3,.b 1002 0),(4,.b 1003 0)]),(1001,.box [zs]),(1002,.box [vi s1.2.2.1]),(1003,.box [.o 999]),(999,.own 9 1 (mG s1.2.2.2)),(1004,.box [vs s1.2.1])]⟩ ?_ ?_
  ·refine sg (ct ν (fun hb ν=>?_) fun hb ν=>?_)
   ·refine rg ⟨_,oS _,?_⟩;cases ν;exact wt Q5 ⟨hr,hr,J4⟩ rfl
   refine sk ?_;cases ν;exact wt Q5 ⟨hr,hr,J4⟩ rfl
  refine sq (sg ?_);have ⟨ax,ζ⟩:=aG ζ;have ⟨bt,ζ⟩:=aG ζ;have ⟨x2,au,ζ⟩:=κ ζ;refine ⟨_,lf (PN ax),KH ax,KI ax,_,KJ ax,?_⟩;refine cg [(1000,1000),(1001,1001),(1002,1002),(1003,1003),(1004,999)] [(999,999)] (ajX au) nq ⟨⟨1000,_,rfl,rfl,.lp bt ⟨rfl,Ln.b rfl,rfl,Ln.b rfl,rfl,Ln.b rfl,Q0⟩⟩,⟨1001,_,rfl,rfl,.box nq⟩,⟨1002,_,rfl,rfl,.box nq⟩,⟨1003,_,rfl,rfl,.box (.cons (Ln.o rfl) .nil)⟩,⟨999,_,rfl,rfl,.refl rfl⟩,Q0⟩ ?_;refine ct ζ (fun hb ζ=>?_) fun hb ζ=>?_
  ·refine rt ?_;have ζ:=bz ζ aQ;cases ζ;exact wt Q1 ⟨hr,hr,J4⟩ rfl
  refine sk (rg ?_);have ⟨ep,ζ⟩:=aG ζ;refine ⟨_,lf ep.1,KH ep,KI ep,_,KJ ep,_,rfl,?_⟩;exact ⟨_,sj ζ,wt Q2 ⟨hr,hr,J4⟩ rfl⟩
 refine xt ?_;have ζ:=bz ζ aQ;cases ζ;exact wt Q1 ⟨hr,hr,J4⟩ rfl
def Qz {a r} (h:zC a=some r):Pure prog 133 [vs a] (.t [.s (mG r.1),vi r.2]):=by
 refine pq tok 33 func133 ?_;unfold zC at h;refine sg (sq (sg ?_));refine ⟨_,tY _ _,?_⟩;refine ct h (fun hb h=>?_) fun hb h=>?_
 ·refine sg ⟨_,rfl,_,rfl,?_⟩;refine rt ?_;cases h;exact ⟨_,rfl,_,rfl,Fz.t (.cons Fz.nil fq)⟩
 refine sk (sg ?_);refine sq (sg ?_);have ⟨x1,Ξ,h⟩:=κ h;refine cg [] [(1,999)] (ajY Ξ) nq Q0 ?_;refine bl ?_;have ⟨x2,au,h⟩:=κ h;refine Ok.rangeFunc (lid:=998) (R0:=zT) (L:=[(2,.b 2 0),(3,.b 3 0),(4,.b 4 0)]) (by kernel_rfl) rfl rfl Q3 (fun l=>cg [(1000,998),(1001,2),(1002,3),(1003,4),(1004,999)] [(999,997)] (ajZ au) (.cons (Ln.c .nil .nil) (.cons (Ln.b rfl) .nil)) ⟨⟨998,_,rfl,rfl,.lp rfl ⟨rfl,Ln.b rfl,rfl,Ln.b rfl,rfl,Ln.b rfl,Q0⟩⟩,⟨2,_,rfl,rfl,.box nq⟩,⟨3,_,rfl,rfl,.box nq⟩,⟨4,_,rfl,rfl,.box nq⟩,⟨999,_,rfl,rfl,.box nq⟩,Q0⟩ ⟨_,_,_,rfl,?_⟩);refine agw h (fun h=>?_) (fun h=>?_)
 ·refine sq (sg ?_);refine ⟨_,rfl,_,az _,fun _=>?_⟩;refine ct h (fun hb h=>?_) fun hb h=>?_
  ·refine sg ⟨_,rfl,_,rfl,?_⟩;refine rt ?_;cases h;exact ⟨_,rfl,_,rfl,Fz.t (.cons Fz.nil fq)⟩
  refine sk (sg ?_);refine ⟨_,rfl,_,rfl,_,rfl,?_⟩;refine rt ?_;cases h;exact ⟨_,rfl,_,rfl,Fz.t (.cons (Fz.o rfl) fq)⟩
 refine agx h (fun h=>?_) (fun h=>?_)
 ·cases h;exact ⟨_,rfl,_,rfl,Fz.t (.cons Fz.nil fq)⟩
 cases h
def Ym {a r} (h:cmp_isNaN_int a=some r):Pure prog 247 [vi a] (vb r):=by
 refine pq tok 6 func247 ?_;unfold cmp_isNaN_int at h;refine sg (sg (rt ?_));cases h;exact Fz.v
def Am {a b r} (h:q8 a b=some r):Pure prog 194 [vi a,vi b] (vi r):=by
 refine pq tok 20 func194 ?_;unfold q8 at h;refine sg (sg ?_);have ⟨x1,Ξ,h⟩:=κ h;refine af.call (Ym Ξ) lz ?_;refine sg ?_;have ⟨x2,au,h⟩:=κ h;refine af.call (Ym au) lz ?_;refine sq (sg ?_);refine ct h (fun hb h=>?_) fun hb h=>?_
 ·refine sq (sg ?_);refine ct h (fun hb h=>?_) fun hb h=>?_
  ·refine sg (rt ?_);cases h;exact Fz.v
  refine sk (sg ?_);refine rt ?_;cases h;exact Fz.v
 refine sk (sq (sg ?_));refine ct h (fun hb h=>?_) fun hb h=>?_
 ·refine sg (rt ?_);cases h;exact Fz.v
 refine sk (sq (sg ?_));refine ct h (fun hb h=>?_) fun hb h=>?_
 ·refine sg (rt ?_);cases h;exact Fz.v
 refine sk (sq (sg ?_));refine ct h (fun hb h=>?_) fun hb h=>?_
 ·refine sg (rt ?_);cases h;exact Fz.v
 refine sk (sg ?_);refine rt ?_;cases h;exact Fz.v
def YH {c d r} (h:Af c d=some r):Pure prog 270 [.a (b4 c),vi d] (vi r):=by
 refine pq tok 9 func270 ?_;unfold Af at h;refine sg (sg ?_);have ⟨x1,Ξ,h⟩:=κ h;refine ⟨_,rfl,?_⟩;refine af.call (Am Ξ) lz ?_;refine rt ?_;cases h;exact Fz.v
def ajc {a b r} (h:PS a b=some r):Pure prog 253 [.s (mI a),vi b,.c (.func 270) [] []] (.t [vi r.1,vb r.2]):=by
 refine pq tok 49 func253 ?_;unfold PS at h;refine sg (sg ⟨_,az _,fun _=>?_⟩);refine sg ?_;have ⟨v1,ν,h⟩:=κ h;refine Ok.bj ⟨ar [(0,.s (mI a)),(1,vi b),(2,.c (.func 270) [] []),(8,vi (a.length:Int)),(9,vi v1)],[]⟩ ?_ ?_
 ·refine bl (Ok.loop (fun (s1:Int×Int)=>⟨ar [(0,.s (mI a)),(1,vi b),(2,.c (.func 270) [] []),(8,vi (a.length:Int)),(9,vi s1.1),(10,vi s1.2)],[]⟩) (PT a b) (s0:=(0,(a.length:Int))) ν (wt Q6 Q0 rfl) ?_);intro s1 y1 ζ aQ;unfold PT at ζ;refine sq (sg ?_);refine ct ζ (fun hb ζ=>?_) fun hb ζ=>?_
  ·refine sk (bl (sg ?_));have ⟨ax,ζ⟩:=aG ζ;refine (θ ⟨ax,_,rfl,(by decide),_,rfl,_,rfl,?_⟩);refine sg ?_;have ⟨x1,Ξ,ζ⟩:=κ ζ;have ⟨x2,au,ζ⟩:=κ ζ;refine ⟨_,bK Ξ,_,bL Ξ,_,rfl,?_⟩;refine af.call (YH au) lz ?_;refine ct ζ (fun hb ζ=>?_) fun hb ζ=>?_
   ·refine rg ?_;have ⟨bt,ζ⟩:=aG ζ;refine (θ ⟨bt,?_⟩);exact ⟨_,sj ζ,wt Q6 Q0 rfl⟩
   refine rg ?_;exact ⟨_,sj ζ,wt Q6 Q0 rfl⟩
  refine xt ?_;have ζ:=bz ζ aQ;cases ζ;exact wt Q5 Q0 rfl
 have ⟨v2,aw,h⟩:=κ h;refine Ok.bj ⟨ar [(6,vi v1),(7,vb v2)],[]⟩ ?_ ?_
 ·refine rg ?_;have ⟨c1,Δ,aw⟩:=κ aw;refine Br.ite Δ (fun hb Δ=>?_) fun hb Δ=>?_
  ·have ⟨x3,aM,Δ⟩:=κ Δ;have ⟨x4,bw,Δ⟩:=κ Δ;refine ⟨_,bK aM,_,bL aM,_,rfl,?_⟩;refine af.call (YH bw) lz ?_;cases Δ;cases aw;exact wt Q2 Q0 rfl
  cases Δ;cases aw;exact wt Q2 Q0 rfl
 refine rt ?_;cases h;exact (Fz.t fq)
def KV {self a r} (h:t_ self a=some r):mq prog 230 [.b 1000 0,vi a] (.box (b5 self)) (fun x c=>x=(.t [vi r.1.1,vb r.1.2])∧c=.box (b5 r.2)):=by
 refine qx (n:=15) (c:=f230.body.getD .skip) tok func230 (by kernel_rfl) rfl rfl nb ?_;unfold t_ at h;refine sg (sg ?_);have ⟨x1,Ξ,h⟩:=κ h;refine ⟨_,rfl,?_⟩;refine af.call (ajc Ξ) lz ?_;refine rt ?_;cases h;exact ⟨_,_,⟨rfl,rfl⟩,rfl,rfl,Fz.t fq⟩
def qF {self d r} (h:m_ self d=some r):mq prog 179 [.b 1000 0,vi d] (.box (b5 self)) (fun x c=>x=(.t [.a (b4 r.1.1),vb r.1.2])∧c=.box (b5 r.2)):=by
 refine qx (n:=25) (c:=f179.body.getD .skip) tok func179 (by kernel_rfl) rfl rfl nb ?_;unfold m_ at h;refine sg (sg ?_);have ⟨x1,Ξ,h⟩:=κ h;refine af.eB (id:=1000) (KV Ξ) rfl (.box lz) rfl (.cons (Lr.b) (.cons (Lr.dG rfl) .nil)) ?_;rintro _ _ ⟨rfl,rfl⟩;refine sq (sg ?_);refine ct h (fun hb h=>?_) fun hb h=>?_
 ·refine sg ⟨_,rfl,?_⟩;refine rt ?_;cases h;exact ⟨_,rfl,_,_,⟨rfl,rfl⟩,rfl,rfl,Fz.t (.cons (Fz.a (.cons Fz.v (.cons Fz.v (.cons Fz.v (.cons Fz.nil (.cons Fz.nil fq)))))) fq)⟩
 refine sk (sg ?_);have ⟨x2,au,h⟩:=κ h;refine ⟨_,rfl,_,bK au,_,bL au,_,rfl,_,rfl,?_⟩;refine rt ?_;cases h;exact ⟨_,rfl,_,_,⟨rfl,rfl⟩,rfl,rfl,Fz.t fq⟩
def KW {self d r} (h:xh self d=some r):mq prog 182 [.b 1000 0,vi d] (.box (b5 self)) (fun x c=>x=(.t [.a (b4 r.1.1),vi r.1.2])∧c=.box (b5 r.2)):=by
 refine qx (n:=24) (c:=f182.body.getD .skip) tok func182 (by kernel_rfl) rfl rfl nb ?_;unfold xh at h;refine sg (sg ?_);have ⟨x1,Ξ,h⟩:=κ h;refine af.eB (id:=1000) (qF Ξ) rfl (.box lz) rfl (.cons (Lr.b) (.cons (Lr.dG rfl) .nil)) ?_;rintro _ _ ⟨rfl,rfl⟩;refine ⟨_,rfl,?_⟩;refine bl (sg ?_);refine ct h (fun hb h=>?_) fun hb h=>?_
 ·refine sg ⟨_,rfl,?_⟩;refine rt ?_;cases h;exact ⟨_,rfl,_,_,⟨rfl,rfl⟩,rfl,rfl,Fz.t (.cons (Fz.a (.cons Fz.v (.cons Fz.v (.cons Fz.v (.cons Fz.nil (.cons Fz.nil fq)))))) fq)⟩
 refine sg ⟨_,rfl,?_⟩;refine ct h (fun hb h=>?_) fun hb h=>?_
 ·refine sg ⟨_,rfl,?_⟩;refine rt ?_;cases h;exact ⟨_,rfl,_,_,⟨rfl,rfl⟩,rfl,rfl,Fz.t (.cons (Fz.a (.cons Fz.v (.cons Fz.v (.cons Fz.v (.cons Fz.nil (.cons Fz.nil fq)))))) fq)⟩
 refine sg ⟨_,rfl,_,rfl,?_⟩;refine rt ?_;cases h;exact ⟨_,rfl,_,_,⟨rfl,rfl⟩,rfl,rfl,Fz.t fq⟩
def YG {c d r} (h:CM c d=some r):Pure prog 240 [.a (b6 c),vs d] (vi r):=by
 refine pq tok 9 func240 ?_;unfold CM at h;refine sg (sg ⟨_,rfl,?_⟩);refine af.call (adh c.aN d) lz ?_;refine rt ?_;cases h;exact Fz.v
def ai' {a b r} (h:PO a b=some r):Pure prog 239 [.s (mF a),vs b,.c (.func 240) [] []] (.t [vi r.1,vb r.2]):=by
 refine pq tok 49 func239 ?_;unfold PO at h;refine sg (sg ⟨_,az _,fun _=>?_⟩);refine sg ?_;have ⟨v1,ν,h⟩:=κ h;refine Ok.bj ⟨ar [(0,.s (mF a)),(1,vs b),(2,.c (.func 240) [] []),(8,vi (a.length:Int)),(9,vi v1)],[]⟩ ?_ ?_
 ·refine bl (Ok.loop (fun (s1:Int×Int)=>⟨ar [(0,.s (mF a)),(1,vs b),(2,.c (.func 240) [] []),(8,vi (a.length:Int)),(9,vi s1.1),(10,vi s1.2)],[]⟩) (PQ a b) (s0:=(0,(a.length:Int))) ν (wt Q6 Q0 rfl) ?_);intro s1 y1 ζ aQ;unfold PQ at ζ;refine sq (sg ?_);refine ct ζ (fun hb ζ=>?_) fun hb ζ=>?_
  ·refine sk (bl (sg ?_));have ⟨ax,ζ⟩:=aG ζ;refine (θ ⟨ax,_,rfl,(by decide),_,rfl,_,rfl,?_⟩);refine sg ?_;have ⟨x1,Ξ,ζ⟩:=κ ζ;have ⟨x2,au,ζ⟩:=κ ζ;refine ⟨_,bK Ξ,_,bL Ξ,_,rfl,?_⟩;refine af.call (YG au) lz ?_;refine ct ζ (fun hb ζ=>?_) fun hb ζ=>?_
   ·refine rg ?_;have ⟨bt,ζ⟩:=aG ζ;refine (θ ⟨bt,?_⟩);exact ⟨_,sj ζ,wt Q6 Q0 rfl⟩
   refine rg ?_;exact ⟨_,sj ζ,wt Q6 Q0 rfl⟩
  refine xt ?_;have ζ:=bz ζ aQ;cases ζ;exact wt Q5 Q0 rfl
 have ⟨v2,aw,h⟩:=κ h;refine Ok.bj ⟨ar [(6,vi v1),(7,vb v2)],[]⟩ ?_ ?_
 ·refine rg ?_;have ⟨c1,Δ,aw⟩:=κ aw;refine Br.ite Δ (fun hb Δ=>?_) fun hb Δ=>?_
  ·have ⟨x3,aM,Δ⟩:=κ Δ;have ⟨x4,bw,Δ⟩:=κ Δ;refine ⟨_,bK aM,_,bL aM,_,rfl,?_⟩;refine af.call (YG bw) lz ?_;cases Δ;cases aw;exact wt Q2 Q0 rfl
  cases Δ;cases aw;exact wt Q2 Q0 rfl
 refine rt ?_;cases h;exact (Fz.t fq)
def C4 {c d r} (h:tZ c d=some r):Pure prog 184 [.a (b4 c),vs d] (.t [vi r.1,vb r.2]):=by
 refine pq tok 12 func184 ?_;unfold tZ at h;refine sg (sg ?_);have ⟨x1,Ξ,h⟩:=κ h;refine ⟨_,rfl,?_⟩;refine af.call (ai' Ξ) lz ?_;refine rt ?_;cases h;exact (Fz.t fq)
def KU {c e d r} (h:vq c e d=some r):Pure prog 119 [.a (b0 c),vi e,vs d] (.t [vi r.1,vi r.2]):=by
 refine pq tok 40 func119 ?_;unfold vq at h;refine sg (sg ?_);have ⟨x1,Ξ,h⟩:=κ h;refine ⟨_,rfl,?_⟩;refine af.eB (id:=15) (KW Ξ) rfl (.box lz) rfl (.cons (Lr.b) (.cons (Lr.dG rfl) .nil)) ?_;rintro _ _ ⟨rfl,rfl⟩;refine ⟨_,rfl,?_⟩;refine sq (sg ?_);refine ct h (fun hb h=>?_) fun hb h=>?_
 ·refine sg (rt ?_);cases h;exact (Fz.t fq)
 refine sk (sq (sg ?_));have ⟨x2,au,h⟩:=κ h;refine af.call (KT au) lz ?_;refine ct h (fun hb h=>?_) fun hb h=>?_
 ·refine sg (rt ?_);cases h;exact (Fz.t fq)
 refine sk (sg ?_);have ⟨x3,aM,h⟩:=κ h;refine ⟨_,rfl,?_⟩;refine af.call (C4 aM) lz ?_;refine sq (sg ?_);refine ct h (fun hb h=>?_) fun hb h=>?_
 ·refine sg (rt ?_);cases h;exact (Fz.t fq)
 refine sk (sg ?_);have ⟨x4,bw,h⟩:=κ h;refine ⟨_,rfl,_,bK bw,_,bL bw,_,rfl,?_⟩;refine rt ?_;cases h;exact (Fz.t fq)
def YF {c d r} (h:xg c d=some r):Pure prog 163 [.a (b0 c),vs d] (.t [vi r.1,vi r.2]):=by
 refine pq tok 37 func163 ?_;unfold xg at h;refine sg (sg ?_);have ⟨x1,Ξ,h⟩:=κ h;refine af.call (Qz Ξ) lz ?_;refine sq (sg ?_);refine ct h (fun hb h=>?_) fun hb h=>?_
 ·refine sg (rt ?_);cases h;exact (Fz.t fq)
 refine sk (sg ?_);refine Ok.fg (fun v1=>⟨ar [(8,vi v1)],[]⟩) (fun v1=>KO v1=some r) ?_ ?_
 ·refine sg ⟨_,az _,fun _=>?_⟩;refine bl (Ok.loop (fun (s1:Int×Int)=>⟨ar [(2,.b 2 0),(8,vi s1.1),(19,.s (mG x1.1)),(20,vi (x1.1.length:Int)),(21,vi s1.2)],[(2,.box (b0 c))]⟩) (Ae x1 c) (s0:=(1,0)) h (wt Q5 ⟨hr,Q0⟩ rfl) ?_);intro s1 y1 ζ aQ;unfold Ae at ζ;refine sg (sq (ct ζ (fun hb ζ=>?_) fun hb ζ=>?_))
  ·refine sk (sq (bl (sg ?_)));have ⟨x2,au,ζ⟩:=κ ζ;refine ⟨_,bK au,_,bL au,_,rfl,?_⟩;refine sg ?_;have ⟨x3,aM,ζ⟩:=κ ζ;refine ⟨_,rfl,?_⟩;refine af.call (KU aM) lz ?_;refine sg (ct ζ (fun hb ζ=>?_) fun hb ζ=>?_)
   ·refine sg (rt ?_);have ζ:=bz ζ aQ;cases ζ;exact (Fz.t fq)
   refine sk (rg ?_);have ⟨ax,ζ⟩:=aG ζ;refine (θ ⟨ax,?_⟩);exact ⟨_,sj ζ,wt Q5 J1 rfl⟩
  refine xt ?_;have ζ:=bz ζ aQ;exact ⟨_,ζ,wt Q1 Q0 rfl⟩
 intro v1 h;unfold KO at h;refine sg (rt ?_);cases h;exact (Fz.t fq)
def se {c d r} (h:l7 c d=some r):Pure prog 176 [.a (b0 c),vi d] (.t [.a (b4 r.1),vb r.2]):=by
 refine pq tok 13 func176 ?_;unfold l7 at h;refine sg (sg ?_);have ⟨x1,Ξ,h⟩:=κ h;refine ⟨_,rfl,?_⟩;refine af.eB (id:=8) (qF Ξ) rfl (.box lz) rfl (.cons (Lr.b) (.cons (Lr.dG rfl) .nil)) ?_;rintro _ _ ⟨rfl,rfl⟩;refine ⟨_,rfl,?_⟩;refine rt ?_;cases h;exact ⟨_,rfl,Fz.t fq⟩
def YL {K d e f g i j k l o t u w z y A B C D E F G I J r} (h:A5 K d e f g i j k l o t u w z y A B C D E F G I J=some r):af prog 164 [.b 1000 0,vi K] ⟨aF,[(1000,.box (cP d e f g i j k l o t u w z y A B C D E F G I J))]⟩ fun x s=>x=(.a (k8 r.1 r.2.1 r.2.2.1 r.2.2.2.1 r.2.2.2.2.1 r.2.2.2.2.2))∧s.H=[(1000,.box (cP d e f g i j k l o t u w z y A B C D E F G I J))]:=by
 refine pg tok 19 func164 ?_;unfold A5 at h;refine sg (sg ?_);have ⟨x1,Ξ,h⟩:=κ h;refine ⟨_,rfl,?_⟩;refine af.call (se Ξ) lz ?_;refine ⟨_,rfl,?_⟩;refine sg ⟨_,rfl,_,rfl,?_⟩;refine rt ?_;cases h;exact ⟨_,rfl,wt Q1 J1 rfl⟩
def Ap {L d e f g i j k l o t u w z A B C D E F G I J K} {q:Int⊕(oT)} (h:re L d e f g i j k l o t u w z A B C D E F G I J K=some q):fP prog bh 113 [.b 1000 0,vs L] ⟨aF,[(1000,.box (cP d e f g i j k l o t u w z A B C D E F G I J K))]⟩ (fun x s=>∃y:oT,q=.inr y∧x=(.a (k8 y.1 y.2.1 y.2.2.1 y.2.2.2.1 y.2.2.2.2.1 y.2.2.2.2.2))∧s.H=[(1000,.box (cP d e f g i j k l o t u w z A B C D E F G I J K))]) fun m s=>q=.inl m∧s.H=[]:=by
 refine px tok 23 func113 ?_;unfold re at h;refine sg (sg ?_);have ⟨x1,Ξ,h⟩:=κ h;refine ⟨_,rfl,?_⟩;refine af.call (YF Ξ) lz ?_;refine sq (Ok.cV bh tok ?_);have ⟨x2,au,h⟩:=κ h;refine θ (bY (cx [] [] (ku au) nq Q0 (fun e1 bD=>?_) (fun y1 cY=>?_)))
 ·have h:=cw h bD;cases h;exact ⟨_,rfl,rfl⟩
 have h:=cy h cY;refine sg ?_;have ⟨x3,aM,h⟩:=κ h;refine cg [(1000,1000)] [] (YL aM) (.cons (Ln.b rfl) nq) ⟨⟨1000,_,rfl,rfl,.box nq⟩,Q0⟩ ?_;refine ⟨_,rfl,?_⟩;refine rt ?_;cases h;exact ⟨_,rfl,_,rfl,wt Q1 J1 rfl⟩
def ajN {a d e f g i j k l o u w z A B C D E F G I J K} {q:Int⊕(Int×Int)} (h:DZ a d e f g i j k l o u w z A B C D E F G I J K=some q):fP prog bh 62 [.b 1000 0] ⟨aF,[(1000,.box (cP a d e f g i j k l o u w z A B C D E F G I J K))]⟩ (fun x s=>∃y:Int×Int,q=.inr y∧x=(.t [])∧s.H=[(1000,.box (cP a d e f g i j k l o u w z A B C D E 0 y.1 y.2 0 0))]) fun m s=>q=.inl m∧s.H=[]:=by
 refine px tok 18 func62 ?_;unfold DZ at h;refine sq (Ok.cV bh tok ?_);have ⟨x1,Ξ,h⟩:=κ h;refine θ (θ (θ (θ (θ (θ (⟨_,rfl,?_⟩))))));refine bY (cx [(1000,1000)] [] (Ap Ξ) (.cons (Ln.b rfl) nq) ⟨⟨1000,_,rfl,rfl,.box nq⟩,Q0⟩ (fun e1 bD=>?_) (fun y1 cY=>?_))
 ·have h:=cw h bD;cases h;exact ⟨_,rfl,rfl⟩
 have h:=cy h cY;refine θ (θ (⟨_,rfl,?_⟩));refine rg ⟨_,rfl,_,rfl,_,rfl,?_⟩;cases h;exact ⟨_,rfl,wt Q1 J1 rfl⟩
def aiL [oY] {a r} (h:Fa a=some r):Pure prog 228 [.s (mG a)] (vs r):=by
 refine pq tok 9 func228 ?_;unfold Fa at h;refine sg (sq (sg ?_));refine ⟨_,az _,fun _=>?_⟩;refine ct h (fun hb h=>?_) fun hb h=>?_
 ·refine sg (rt ?_);cases h;exact Fz.v
 refine sk (sg ?_);have ⟨ax,h⟩:=aG h;refine af.call (adj a ([47]) ax) lz ?_;have ⟨bt,h⟩:=aG h;refine ⟨ah1 bt,_,ah2 _ _,?_⟩;refine rt ?_;cases h;exact Fz.v
def aiM [oY] {a r} (h:Fb a=some r):Pure prog 165 [vs a] (.t (k12 r.1 r.2.1 r.2.2)):=by
 refine pq tok 31 func165 ?_;unfold Fb at h;refine sg (sg ?_);have ⟨x1,Ξ,h⟩:=κ h;refine af.call (Qz Ξ) lz ?_;refine sq ?_;have ⟨v1,ν,h⟩:=κ h;refine Ok.bj ⟨ar [(5,.s (mG x1.1)),(19,vb v1)],[]⟩ ?_ ?_
 ·refine rg ?_;have ⟨c1,Δ,ν⟩:=κ ν;refine Br.ei Δ (fun hb Δ=>?_) fun hb Δ=>?_
  ·cases Δ;cases ν;exact wt Q2 Q0 rfl
  refine ⟨_,az _,fun _=>?_⟩;cases Δ;cases ν;exact wt Q2 Q0 rfl
 refine ct h (fun hb h=>?_) fun hb h=>?_
 ·refine sg (rt ?_);cases h;exact (Fz.t fq)
 refine sk (sg ?_);have ⟨ax,h⟩:=aG h;refine ⟨_,az _,fun _=>(θ ⟨ax,?_⟩)⟩;refine sq (dw 11 tok mixed ?_);have ⟨x2,au,h⟩:=κ h;have ⟨bt,h⟩:=aG h;have ⟨x3,aM,h⟩:=κ h;refine ⟨_,rfl,_,rfl,_,⟨_,bK au,_,bL au,rfl⟩,_,⟨_,rfl,rfl⟩,_,rfl,_,rfl,_,⟨_,lf bt.1,Nat.zero_le _,w_ bt,w7 (f:=mJ) (K:=1) (fun _=>rfl) x1.1,_,Km _ _ _,rfl⟩,_,⟨_,.fE (aiL aM) lz,rfl⟩,_,rfl,_,rfl,_,rfl,Q0,?_⟩;refine rt ?_;cases h;exact (Fz.t fq)
def GL [oY] {L a d e f g i j k l o u w z A B C D E F G I J K} {q:Int⊕(Int×(List UInt8))} (h:uD L a d e f g i j k l o u w z A B C D E F G I J K=some q):fP prog bh 114 [.b 1000 0,vs L] ⟨aF,[(1000,.box (cP a d e f g i j k l o u w z A B C D E F G I J K))]⟩ (fun x s=>∃y:Int×(List UInt8),q=.inr y∧x=(.t [vi y.1,vs y.2])∧s.H=[(1000,.box (cP a d e f g i j k l o u w z A B C D E F G I J K))]) fun m s=>q=.inl m∧s.H=[]:=by
 refine px tok 33 func114 ?_;unfold uD at h;refine sg (sg ?_);have ⟨x1,Ξ,h⟩:=κ h;refine af.call (aiM Ξ) lz ?_;refine sq (Ok.cV bh tok ?_);have ⟨x2,au,h⟩:=κ h;refine θ (bY (cx [] [] (ku au) nq Q0 (fun e1 bD=>?_) (fun y1 cY=>?_)))
 ·have h:=cw h bD;cases h;exact ⟨_,rfl,rfl⟩
 have h:=cy h cY;refine sg ?_;have ⟨x3,aM,h⟩:=κ h;refine ⟨_,rfl,?_⟩;refine af.call (YF aM) lz ?_;refine sq (Ok.cV bh tok ?_);have ⟨x4,bw,h⟩:=κ h;refine θ (bY (cx [] [] (ku bw) nq Q0 (fun e2 dS=>?_) (fun y2 eu=>?_)))
 ·have h:=cw h dS;cases h;exact ⟨_,rfl,rfl⟩
 have h:=cy h eu;refine sg (rt ?_);cases h;exact ⟨_,rfl,wt Q1 J1 rfl⟩
def QE {self a r} (h:CU self a=some r):mq prog 185 [.b 1000 0,vi a] (.box (b5 self)) (fun x c=>x=(.s (mB r.1))∧c=.box (b5 r.2)):=by
 refine qx (n:=44) (c:=f185.body.getD .skip) tok func185 (by kernel_rfl) rfl rfl nb ?_;unfold CU at h;refine sg (sg (bY ?_));refine Ok.fg (fun v1=>⟨ar [(5,.o 9)],[(9,.own 3 1 (mB v1.1)),(1000,.box (k0 v1.2.1 v1.2.2.1 v1.2.2.2))]⟩) (fun v1=>KP v1=some r) ?_ ?_
 ·refine bl (Ok.loop (fun (s1:Int×(List τ)×Int×Int×(List Int))=>⟨ar [(0,.b 1000 0),(1,vi s1.1),(5,.o 9)],[(1000,.box (k0 s1.2.1 s1.2.2.1 s1.2.2.2.1)),(9,.own 3 1 (mB s1.2.2.2.2))]⟩) (Ah) (s0:=(a,self.Tree.η,self.Tree.Next,self.Tree.aj,[a])) h (wt Q3 ⟨hr,hr,Q0⟩ rfl) ?_);intro s1 y1 ζ aQ;unfold Ah at ζ;refine sq ?_;have ⟨v2,aw,ζ⟩:=κ ζ;refine Ok.bj ⟨ar [(0,.b 1000 0),(1,vi s1.1),(5,.o 9),(22,vb v2)],[(1000,.box (k0 s1.2.1 s1.2.2.1 s1.2.2.2.1)),(9,.own 3 1 (mB s1.2.2.2.2))]⟩ ?_ ?_
  ·refine rg ?_;have ⟨c1,Δ,aw⟩:=κ aw;refine Br.ite Δ (fun hb Δ=>?_) fun hb Δ=>?_
   ·refine ⟨_,az _,fun _=>⟨_,rfl,_,az _,fun _=>?_⟩⟩;cases Δ;cases aw;exact wt Q4 J2 rfl
   cases Δ;cases aw;exact wt Q4 J2 rfl
  refine ct ζ (fun hb ζ=>?_) fun hb ζ=>?_
  ·refine sk (bl (sg ?_));have ⟨x1,Ξ,ζ⟩:=κ ζ;refine af.eB (id:=1000) (qF Ξ) rfl (.box lz) rfl (.cons (Lr.b) (.cons (Lr.dG rfl) .nil)) ?_;rintro _ _ ⟨rfl,rfl⟩;refine ⟨_,rfl,?_⟩;refine sq ?_;have ⟨v3,dF,ζ⟩:=κ ζ;refine Ok.bj ⟨ar [(0,.b 1000 0),(5,.o 9),(6,.b 6 0),(35,vb v3)],[(1000,.box (b5 x1.2)),(9,.own 3 1 (mB s1.2.2.2.2)),(6,.box (b4 x1.1.1))]⟩ ?_ ?_
   ·refine rg ?_;have ⟨c2,aI,dF⟩:=κ dF;refine Br.ei aI (fun hb aI=>?_) fun hb aI=>?_
    ·cases aI;cases dF;exact wt Q4 J3 rfl
    refine ⟨_,rfl,?_⟩;cases aI;cases dF;exact wt Q4 J3 rfl
   refine ct ζ (fun hb ζ=>?_) fun hb ζ=>?_
   ·refine sg (rt ?_);have ζ:=bz ζ aQ;cases ζ;exact ⟨_,_,⟨rfl,rfl⟩,rfl,rfl,Fz.o rfl⟩
   refine sk (sg ?_);refine ⟨_,rfl,?_⟩;refine rg ?_;have ⟨ax,ζ⟩:=aG ζ;refine θ ⟨hZ (f:=Go.Cat.encI) (n:=1) (fun _=>rfl) ([x1.1.1.Up]),iy (f:=Go.Cat.encI) (l:=s1.2.2.2.2) (l':=[x1.1.1.Up]) ax,_,(fu (f:=Go.Cat.encI) (l₁:=s1.2.2.2.2) (l₂:=[x1.1.1.Up])).symm,?_⟩;exact ⟨_,sj ζ,wt Q3 J2 rfl⟩
  refine xt ?_;have ζ:=bz ζ aQ;exact ⟨_,ζ,wt Q1 ⟨hr,hr,Q0⟩ rfl⟩
 intro v1 h;unfold KP at h;refine sg (rt ?_);cases h;exact ⟨_,_,⟨rfl,rfl⟩,rfl,rfl,Fz.o rfl⟩
def YI {self a r} (h:CP self a=some r):mq prog 229 [.b 1000 0,vi a] (.box (b5 self)) (fun x c=>x=(vi r.1)∧c=.box (b5 r.2)):=by
 refine qx (n:=10) (c:=f229.body.getD .skip) tok func229 (by kernel_rfl) rfl rfl nb ?_;unfold CP at h;refine sg (sg ?_);have ⟨x1,Ξ,h⟩:=κ h;refine af.eB (id:=1000) (QE Ξ) rfl (.box lz) rfl (.cons (Lr.b) (.cons (Lr.dG rfl) .nil)) ?_;rintro _ _ ⟨rfl,rfl⟩;have ⟨ax,h⟩:=aG h;refine ⟨_,az _,fun _=>(θ ⟨ax,?_⟩)⟩;refine rt ?_;cases h;exact ⟨_,_,⟨rfl,rfl⟩,rfl,rfl,Fz.v⟩
def YJ {self a d r} (h:CR self a d=some r):mq prog 166 [.b 1000 0,vi a,vs d] (.box (b5 self)) (fun x c=>x=(vi r.1)∧c=.box (b5 r.2)):=by
 refine qx (n:=48) (c:=f166.body.getD .skip) tok func166 (by kernel_rfl) rfl rfl nb ?_;unfold CR at h;refine sg (sg ?_);have ⟨x1,Ξ,h⟩:=κ h;refine af.eB (id:=1000) (KW Ξ) rfl (.box lz) rfl (.cons (Lr.b) (.cons (Lr.dG rfl) .nil)) ?_;rintro _ _ ⟨rfl,rfl⟩;refine ⟨_,rfl,?_⟩;refine sq (sg ?_);refine ct h (fun hb h=>?_) fun hb h=>?_
 ·refine sg (rt ?_);cases h;exact ⟨_,_,⟨rfl,rfl⟩,rfl,rfl,Fz.v⟩
 refine sk (sq (sg ?_));have ⟨x2,au,h⟩:=κ h;refine af.call (KT au) lz ?_;refine ct h (fun hb h=>?_) fun hb h=>?_
 ·refine sg (rt ?_);cases h;exact ⟨_,_,⟨rfl,rfl⟩,rfl,rfl,Fz.v⟩
 refine sk (sq (sg ?_));have ⟨x3,aM,h⟩:=κ h;refine ⟨_,rfl,?_⟩;refine af.call (C4 aM) lz ?_;refine sg (ct h (fun hb h=>?_) fun hb h=>?_)
 ·refine sg (rt ?_);cases h;exact ⟨_,_,⟨rfl,rfl⟩,rfl,rfl,Fz.v⟩
 refine sk (sq ?_);have ⟨v1,ν,h⟩:=κ h;refine Ok.bj ⟨ar [(47,vb v1.1)],[(1000,.box (k0 v1.2.1 v1.2.2.1 v1.2.2.2))]⟩ ?_ ?_
 ·refine rg ⟨_,rfl,_,az _,fun _=>?_⟩;have ⟨c1,Δ,ν⟩:=κ ν;refine Br.ei Δ (fun hb Δ=>?_) fun hb Δ=>?_
  ·cases Δ;have ⟨c2,aI,ν⟩:=κ ν;replace aI:=eh aI;cases aI;cases ν;exact wt Q1 J1 rfl
  have ⟨x4,bw,Δ⟩:=κ Δ;refine af.eB (id:=1000) (YI bw) rfl (.box lz) rfl (.cons (Lr.b) (.cons (Lr.dG rfl) .nil)) ?_;rintro _ _ ⟨rfl,rfl⟩;cases Δ;have ⟨c2,aS,ν⟩:=κ ν;refine Br.ei aS (fun hb aS=>?_) fun hb aS=>?_
  ·cases aS;cases ν;exact wt Q1 J1 rfl
  refine ⟨_,rfl,?_⟩;cases aS;cases ν;exact wt Q1 J1 rfl
 refine ct h (fun hb h=>?_) fun hb h=>?_
 ·refine sg (rt ?_);cases h;exact ⟨_,_,⟨rfl,rfl⟩,rfl,rfl,Fz.v⟩
 refine sk (sg ?_);refine rt ?_;cases h;exact ⟨_,_,⟨rfl,rfl⟩,rfl,rfl,Fz.v⟩
end Go.Proofs
