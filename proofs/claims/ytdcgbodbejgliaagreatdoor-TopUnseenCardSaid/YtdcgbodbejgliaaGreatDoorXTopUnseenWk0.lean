/- The walks of this seat beside the plain programs, part 0. No condition. -/
import Derived.Test.YtdcgbodbejgliaaGreatDoorXTopUnseenHb
open List renaming length_map → ay, map → aU, map_append → fo
open Nat renaming lt_of_le_of_lt → gv, le_of_eq → kv
open Or renaming inl → θ, inr → bX
namespace Go.Proofs
set_option linter.all false
open Go Go.Cat Tryz
variable [M:bK]
set_option maxRecDepth 100000
set_option maxHeartbeats 4000000
def sg [R:dK] {n:Nat} {st:ae} {Q:Exit→ae→Prop} {id:Nat} {ops:Array Oper} {y:Code} (h:iV prog (lk tl) n ops ops.toList st (nx prog n y Q .normal)):Ok prog n (.seq (.region id ops false) y) st Q:=Sg tok h
def rg [R:dK] {n:Nat} {st:ae} {Q:Exit→ae→Prop} {id:Nat} {ops:Array Oper} (h:iV prog (lk tl) n ops ops.toList st (Q .normal)):Ok prog n (.region id ops false) st Q:=Ok.region tok h
abbrev mI:=aU di
abbrev mU:=aU dZ
abbrev mA:=aU qP
abbrev mB:=aU Go.Cat.encI
abbrev mC:=aU sa
abbrev mD:=aU mL
abbrev mE:=aU pZ
abbrev mF:=aU j5
abbrev mG:=aU mJ
abbrev mH:=aU Dm
abbrev zs:AV:=.v (.slice none 0 0)
abbrev k0 (a:List ξ) (b:Int) (c:Int):List AV:=[.s (mI a),vi b,vi c]
abbrev k1 (a:Int) (b:Int):List AV:=[zs,vi a,vi b]
abbrev k2 (a:List ξ) (b:Int) (c:Int) (d:Int) (e:List Int) (f:List bp) (g:List bd) (i:Int):List AV:=[.s (mI a),vi b,vi c,vi d,.s (mB e),.s (mC f),.s (mA g),vi i]
abbrev k3 (a:Int) (b:Int) (c:Int) (d:Int):List AV:=[zs,vi a,vi b,vi c,zs,zs,zs,vi d]
abbrev k4 (a:List ξ) (b:Int) (c:Int) (d:Int) (e:List Int) (f:Int):List AV:=[.s (mI a),vi b,vi c,vi d,.s (mB e),zs,zs,vi f]
abbrev k5 (a:List ξ) (b:Int) (c:Int) (d:Int) (e:List Int) (f:List bp) (g:List bd) (i:Int) (j:List az) (k:List aA):List AV:=[.s (mI a),vi b,vi c,vi d,.s (mB e),.s (mC f),.s (mA g),vi i,.s (mE j),.s (mD k)]
abbrev k6 (a:Int) (b:Int) (c:Int) (d:Int):List AV:=[zs,vi a,vi b,vi c,zs,zs,zs,vi d,zs,zs]
abbrev k7 (a:List ξ) (b:Int) (c:Int) (d:Int) (e:List Int) (f:List bp) (g:List bd) (i:Int):List AV:=[.s (mI a),vi b,vi c,vi d,.s (mB e),.s (mC f),.s (mA g),vi i,zs,zs]
abbrev k8 (a:Int) (b:Int) (c:Int) (d:List UInt8) (e:List aN) (f:Int):List AV:=[vi a,vi b,vi c,.s (mU d),.s (mF e),vi f]
abbrev k9 (a:Int) (b:Int) (c:Int) (d:Int):List AV:=[vi a,vi b,vi c,zs,zs,vi d]
abbrev k10 (a:List UInt8) (b:Int) (c:Int):List AV:=[vs a,vi b,vi c]
abbrev cP (a:List ξ) (b:Int) (c:Int) (d:Int) (e:List Int) (f:List bp) (g:List bd) (i:Int) (j:List az) (k:List aA) (l:Int) (o:Int) (s:List UInt8) (t:List UInt8) (u:Int) (w:Int) (z:Int) (y:List UInt8) (A:Int) (B:Int) (C:Int) (D:Int) (E:Int):List AV:=[.s (mI a),vi b,vi c,vi d,.s (mB e),.s (mC f),.s (mA g),vi i,.s (mE j),.s (mD k),vi l,vi o,vs s,vs t,vi u,vi w,vi z,.s (mU y),vi A,vi B,vi C,vi D,vi E,zs,zs]
abbrev k12 (a:List UInt8) (b:List UInt8) (c:Int):List AV:=[vs a,vs b,vi c]
abbrev IV (a:Int) (b:Int) (c:Int):List AV:=[vi a,vi b,vi c]
abbrev k14 (a:List bd) (b:Int) (c:Int):List AV:=[.s (mA a),vi b,vi c]
abbrev k15 (a:List aN) (b:Int) (c:Int):List AV:=[.s (mF a),vi b,vi c]
abbrev k16 (a:List ξ) (b:Int) (c:Int) (d:Int) (e:List Int) (f:List bp) (g:List bd) (i:Int) (j:List az) (k:List aA) (l:Int) (o:Int) (s:List UInt8) (t:List UInt8) (u:Int) (w:Int) (z:Int) (y:List UInt8) (A:Int) (B:Int) (C:Int) (D:Int) (E:Int) (F:List (List UInt8)):List AV:=[.s (mI a),vi b,vi c,vi d,.s (mB e),.s (mC f),.s (mA g),vi i,.s (mE j),.s (mD k),vi l,vi o,vs s,vs t,vi u,vi w,vi z,.s (mU y),vi A,vi B,vi C,vi D,vi E,.s (mG F),zs]
abbrev k17 (a:List az) (b:Int) (c:Int):List AV:=[.s (mE a),vi b,vi c]
abbrev k18 (a:List ξ) (b:Int) (c:Int) (d:Int) (e:List Int) (f:List bp) (g:List bd) (i:Int) (j:List az) (k:List aA) (l:Int) (o:Int) (s:List UInt8) (t:List UInt8) (u:Int) (w:Int) (z:Int) (y:List UInt8) (A:Int) (B:Int) (C:Int) (D:Int) (E:Int) (F:List UInt8):List AV:=[.s (mI a),vi b,vi c,vi d,.s (mB e),.s (mC f),.s (mA g),vi i,.s (mE j),.s (mD k),vi l,vi o,vs s,vs t,vi u,vi w,vi z,.s (mU y),vi A,vi B,vi C,vi D,vi E,zs,.s (mU F)]
abbrev k19 (a:Int) (b:Int) (c:Int) (d:Int) (e:Int) (f:List UInt8) (g:List aN) (i:Int):List AV:=[vi a,vi b,vi c,vi d,vi e,.s (mU f),.s (mF g),vi i]
abbrev k20 (a:Int) (b:List ξ) (c:Int):List AV:=[vi a,.s (mI b),vi c]
abbrev Vg (a:List ξ) (b:Int) (c:Int) (d:Int) (e:List Int) (f:List bp) (g:List bd) (i:Int) (j:List az) (k:List aA) (l:Int) (o:Int) (s:List UInt8) (t:List UInt8) (u:Int) (w:Int) (z:Int) (y:List UInt8) (A:Int) (B:Int) (C:Int) (D:Int) (E:Int) (F:List (List UInt8)) (G:List UInt8):List AV:=[.s (mI a),vi b,vi c,vi d,.s (mB e),.s (mC f),.s (mA g),vi i,.s (mE j),.s (mD k),vi l,vi o,vs s,vs t,vi u,vi w,vi z,.s (mU y),vi A,vi B,vi C,vi D,vi E,.s (mG F),.s (mU G)]
abbrev k22 (a:Int) (b:Int) (c:List UInt8) (d:List UInt8) (e:Int) (f:Int) (g:Int) (i:List UInt8):List AV:=[vi a,vi b,vs c,vs d,vi e,vi f,vi g,.s (mU i)]
abbrev sV (a:Int) (b:Int) (c:Int) (d:Int) (e:Int) (f:List (List UInt8)) (g:List UInt8):List AV:=[vi a,vi b,vi c,vi d,vi e,.s (mG f),.s (mU g)]
abbrev jA (a:Int) (b:Int) (c:Int) (d:Int) (e:Int):List AV:=[vi a,vi b,vi c,vi d,vi e,zs,zs]
abbrev Vh (a:Int) (b:List UInt8) (c:Int):List AV:=[vi a,.s (mU b),vi c]
abbrev Vi (a:Int) (b:Int) (c:List UInt8) (d:List UInt8) (e:Int) (f:Int) (g:Int):List AV:=[vi a,vi b,vs c,vs d,vi e,vi f,vi g,zs]
abbrev k27 (a:List ξ) (b:Int) (c:Int) (d:Int) (e:List Int) (f:List bp) (g:Int) (i:List az) (j:List aA):List AV:=[.s (mI a),vi b,vi c,vi d,.s (mB e),.s (mC f),zs,vi g,.s (mE i),.s (mD j)]
abbrev k28 (a:List ξ) (b:Int) (c:Int) (d:Int) (e:List Int) (f:Int) (g:List az) (i:List aA):List AV:=[.s (mI a),vi b,vi c,vi d,.s (mB e),zs,zs,vi f,.s (mE g),.s (mD i)]
abbrev b0 (x:ψ):List AV:=k0 x.η x.Next x.aj
abbrev b1 (x:bq):List AV:=k2 x.Γ.η x.Γ.Next x.Γ.aj x.aT x.aQ x.aS x.aW x.Next
abbrev b2 (x:c9):List AV:=k5 x.S.Γ.η x.S.Γ.Next x.S.Γ.aj x.S.aT x.S.aQ x.S.aS x.S.aW x.S.Next x.Holds x.bc
abbrev b3 (x:bq):List AV:=k7 x.Γ.η x.Γ.Next x.Γ.aj x.aT x.aQ x.aS x.aW x.Next
abbrev b4 (x:ξ):List AV:=k8 x.ι x.τ x.bb x.aC x.Ψ x.Up
abbrev b5 (x:de):List AV:=k0 x.Tree.η x.Tree.Next x.Tree.aj
abbrev b6 (x:aN):List AV:=k10 x.aM x.ι x.aj
abbrev b7 (x:az):List AV:=IV x.aV x.cd x.ι
abbrev b8 (x:aA):List AV:=IV x.ι x.η x.As
abbrev b9 (x:bd):List AV:=IV x.Id x.ι x.At
abbrev RL (x:bp):List AV:=k19 x.lS x.jb x.fg.ι x.fg.τ x.fg.bb x.fg.aC x.fg.Ψ x.fg.Up
abbrev vC (x:bN):List AV:=k22 x.τ x.aV x.cA x.To x.N x.M x.cd x.aC
abbrev np (x:dL):List AV:=sV x.xz x.ι x.τ x.N x.M x.mq x.aC
abbrev u1:=ak 1 62 ([]:List (Int×Int))
abbrev u2:=ak 2 63 u1
abbrev u3:=ak 3 64 u2
abbrev u4:=ak 4 65 u3
abbrev u5:=ak 5 66 u4
abbrev u6:=ak 6 67 u5
abbrev u7:=ak 7 68 u6
abbrev u8:=ak 8 69 u7
abbrev u9:=ak 9 70 u8
abbrev XV:=ak 10 71 u9
abbrev XW:=ak 11 72 XV
abbrev XX:=ak 12 73 XW
abbrev XY:=ak 13 74 XX
abbrev XZ:=ak 14 75 XY
abbrev X0:=ak 15 76 XZ
abbrev u16:=ak 16 77 X0
abbrev Aa:=ak 17 78 u16
def nb {a b:Nat} (h:Nat.ble a b=true:=by rfl):a≤b:=Nat.le_of_ble_eq_true h
def ajp {r} (h:Kt=some r):Pure prog 31 [] (.a (b0 r)):=by
 refine pq tok 4 func31 ?_;unfold Kt at h;refine sg (sg (θ ⟨_,rfl,?_⟩));refine rt ?_;cases h;exact ⟨_,rfl,Fz.dG rfl⟩
def aiY {c r} (h:JW c=some r):Pure prog 30 [.a (b0 c)] (.a (b1 r)):=by
 refine pq tok 9 func30 ?_;unfold JW at h;refine sg (sq (dw 6 tok mixed ?_));have ⟨aw,h⟩:=aG h;refine ⟨_,⟨_,rfl,rfl⟩,_,rfl,_,⟨_,rfl,rfl⟩,_,⟨_,ay _,fun _=>rfl⟩,_,⟨_,_,VB aw,VB aw,Nat.le_refl _,mk_le (by decide) aw,aw.2,_,(List.map_replicate (f:=Go.Cat.encI) (a:=(0:Int))).symm,rfl⟩,_,rfl,Q0,_,rfl,?_⟩;refine rt ?_;cases h;exact ⟨_,rfl,Fz.a (.cons Fz.s (.cons Fz.v (.cons Fz.v (.cons Fz.v (.cons Fz.s (.cons Fz.nil (.cons Fz.nil fq)))))))⟩
def Ql {r} (h:yf=some r):Pure prog 13 [] (.a (b2 r)):=by
 refine pq tok 4 func13 ?_;unfold yf at h;refine sg (sg ?_);have ⟨x1,Ξ,h⟩:=κ h;refine af.call (ajp Ξ) lz ?_;have ⟨x2,au,h⟩:=κ h;refine af.call (aiY au) lz ?_;refine ⟨_,rfl,?_⟩;refine rt ?_;cases h;exact ⟨_,rfl,Fz.a (.cons Fz.s (.cons Fz.v (.cons Fz.v (.cons Fz.v (.cons Fz.s (.cons Fz.s (.cons Fz.s (.cons Fz.v (.cons Fz.nil (.cons Fz.nil .nil))))))))))⟩
def Gp {r} (h:DZ=some r):af prog 28 [] ⟨aF,[]⟩ fun x s=>x=(.m 1)∧s.H=[(1,.mp false (aU (fun p=>(p.1,gI p.2)) Aa))]:=by
 refine pg tok 3 func28 ?_;unfold DZ at h;refine sg (sg ?_);have ⟨aw,h⟩:=aG h;have ⟨br,h⟩:=aG h;have ⟨eo,h⟩:=aG h;have ⟨kL,h⟩:=aG h;have ⟨p_,h⟩:=aG h;have ⟨Ef,h⟩:=aG h;have ⟨TH,h⟩:=aG h;have ⟨TJ,h⟩:=aG h;have ⟨TL,h⟩:=aG h;have ⟨Tx,h⟩:=aG h;have ⟨Ty,h⟩:=aG h;have ⟨Tz,h⟩:=aG h;have ⟨TA,h⟩:=aG h;have ⟨TB,h⟩:=aG h;have ⟨TC,h⟩:=aG h;have ⟨TD,h⟩:=aG h;have ⟨TE,h⟩:=aG h;refine ⟨aw.1,gv (Nat.le_refl _) aw.2,_,iG gI (1) 62 ([]:List (Int×Int)),br.1,gv (kv (ay _)) br.2,_,iG gI (2) 63 u1,eo.1,gv (kv (ay _)) eo.2,_,iG gI (3) 64 u2,kL.1,gv (kv (ay _)) kL.2,_,iG gI (4) 65 u3,p_.1,gv (kv (ay _)) p_.2,_,iG gI (5) 66 u4,Ef.1,gv (kv (ay _)) Ef.2,_,iG gI (6) 67 u5,TH.1,gv (kv (ay _)) TH.2,_,iG gI (7) 68 u6,TJ.1,gv (kv (ay _)) TJ.2,_,iG gI (8) 69 u7,TL.1,gv (kv (ay _)) TL.2,_,iG gI (9) 70 u8,Tx.1,gv (kv (ay _)) Tx.2,_,iG gI (10) 71 u9,Ty.1,gv (kv (ay _)) Ty.2,_,iG gI (11) 72 XV,Tz.1,gv (kv (ay _)) Tz.2,_,iG gI (12) 73 XW,TA.1,gv (kv (ay _)) TA.2,_,iG gI (13) 74 XX,TB.1,gv (kv (ay _)) TB.2,_,iG gI (14) 75 XY,TC.1,gv (kv (ay _)) TC.2,_,iG gI (15) 76 XZ,TD.1,gv (kv (ay _)) TD.2,_,iG gI (16) 77 X0,TE.1,gv (kv (ay _)) TE.2,_,iG gI (17) 78 u16,?_⟩
 refine rt ?_;cases h;exact wt Q1 J1 rfl
def ku {a} {q:Int⊕Unit} (h:ir a=some q):fL prog bg 79 [vi a] ⟨aF,[]⟩ (fun x s=>∃y:Unit,q=.inr y∧x=(.t [])∧s.H=[]) fun m s=>q=.inl m∧s.H=[]:=by
 refine px tok 6 func79 ?_;unfold ir at h;refine sg (ct h (fun hb h=>?_) fun hb h=>?_)
 ·refine Ok.cW bg tok (θ (bX (bX ⟨rfl,?_⟩)));cases h;exact ⟨_,rfl,rfl⟩
 refine sk ?_;cases h;exact ⟨_,rfl,wt Q1 Q0 rfl⟩
def pN {a b} {q:Int⊕Unit} (h:pb a b=some q):fL prog bg 29 [vb a,vi b] ⟨aF,[]⟩ (fun x s=>∃y:Unit,q=.inr y∧x=(.t [])∧s.H=[]) fun m s=>q=.inl m∧s.H=[]:=by
 refine px tok 8 func29 ?_;unfold pb at h;refine sg (ct h (fun hb h=>?_) fun hb h=>?_)
 ·refine Ok.cW bg tok ?_;have ⟨x1,Ξ,h⟩:=κ h;refine θ (bX (cx [] [] (ku Ξ) nq Q0 (fun e1 bE=>?_) (fun y1 cZ=>?_)))
  ·have h:=cw h bE;cases h;exact ⟨_,rfl,rfl⟩
  have h:=cy h cZ;cases h;exact ⟨_,rfl,wt Q1 Q0 rfl⟩
 refine sk ?_;cases h;exact ⟨_,rfl,wt Q1 Q0 rfl⟩
def ajP {a r} (h:I' a=some r):af prog 216 [vs a] ⟨aF,[]⟩ fun x s=>x=(.c (.func 264) [] [.b 1 0])∧s.H=[(1,.box [vs a])]:=by
 refine pg tok 4 func216 ?_;unfold I' at h;refine sg (sg (rt ?_));cases h;exact wt Q1 J1 rfl
def aiz {a b r} (h:IS a b=some r):Pure prog 317 [vs a,vs b] (vb r):=by
 refine pq tok 18 func317 ?_;unfold IS at h;refine sg ?_;have ⟨v1,ν,h⟩:=κ h;refine Ok.bh ⟨ar [(4,vb v1)],[]⟩ ?_ ?_
 ·refine rg ⟨_,nZ _,_,nZ _,?_⟩;have ⟨c1,Δ,ν⟩:=κ ν;refine Br.ite Δ (fun hb Δ=>?_) fun hb Δ=>?_
  ·have ⟨aw,Δ⟩:=aG Δ;refine ⟨_,nZ _,_,kZ (Ps aw),Kn aw,Ko aw,_,Kp aw,_,tD _ _,?_⟩;cases Δ;cases ν;exact wt Q1 Q0 rfl
  cases Δ;cases ν;exact wt Q1 Q0 rfl
 refine rt ?_;cases h;exact Fz.v
def aiy {a b r} (h:IQ a b=some r):Pure prog 294 [vs a,vs b] (.t [vs r.1,vb r.2]):=by
 refine pq tok 15 func294 ?_;unfold IQ at h;refine sg (sq (sg ?_));have ⟨x1,Ξ,h⟩:=κ h;refine af.call (aiz Ξ) lz ?_;refine ct h (fun hb h=>?_) fun hb h=>?_
 ·refine sg (rt ?_);cases h;exact (Fz.t fq)
 refine sk (sg ?_);have ⟨aw,h⟩:=aG h;refine ⟨_,nZ _,_,kZ aw.1,Kn aw,Ko aw,_,Kp aw,?_⟩;refine rt ?_;cases h;exact (Fz.t fq)
def ajg {a b r} (h:Gb a b=some r):Pure prog 265 [vs a,vs b] (.t [vs r.1,vb r.2]):=by
 refine pq tok 11 func265 ?_;unfold Gb at h;refine sg (sg ?_);have ⟨x1,Ξ,h⟩:=κ h;refine af.call (aiy Ξ) lz ?_;refine rt ?_;cases h;exact (Fz.t fq)
def KD {a r} (h:wI a=some r):Pure prog 183 [vs a] (vb r):=by
 refine pq tok 31 func183 ?_;unfold wI at h;refine sg (sq ?_);have ⟨v1,ν,h⟩:=κ h;refine Ok.bh ⟨ar [(0,vs a),(19,vb v1)],[]⟩ ?_ ?_
 ·refine rg ⟨_,tD _ _,?_⟩;have ⟨c1,Δ,ν⟩:=κ ν;refine Br.dV Δ (fun hb Δ=>?_) fun hb Δ=>?_
  ·cases Δ;have ⟨c2,aI,ν⟩:=κ ν;replace aI:=ee aI;cases aI;have ⟨c3,aX,ν⟩:=κ ν;replace aX:=ee aX;cases aX;cases ν;exact wt Q2 Q0 rfl
  refine ⟨_,nZ _,?_⟩;cases Δ;have ⟨c2,cU,ν⟩:=κ ν;refine Br.dV cU (fun hb cU=>?_) fun hb cU=>?_
  ·cases cU;have ⟨c3,db,ν⟩:=κ ν;replace db:=ee db;cases db;cases ν;exact wt Q2 Q0 rfl
  refine ⟨_,tD _ _,?_⟩;cases cU;have ⟨c3,eD,ν⟩:=κ ν;refine Br.dV eD (fun hb eD=>?_) fun hb eD=>?_
  ·cases eD;cases ν;exact wt Q2 Q0 rfl
  refine ⟨_,tD _ _,?_⟩;cases eD;cases ν;exact wt Q2 Q0 rfl
 refine ct h (fun hb h=>?_) fun hb h=>?_
 ·refine sg (rt ?_);cases h;exact Fz.v
 refine sk (Ok.eW (fun v2=>⟨ar [],[]⟩) (fun v2=>I_ v2=some r) ?_ ?_)
 ·refine sg (bl (Ok.loop (fun (s1:Nat)=>⟨ar [(21,.b 21 0)],[(21,.si ⟨a.toArray⟩ s1)]⟩) (I9 a) (s0:=0) h (wt Q1 ⟨⟨_,rfl,.refl _⟩,Q0⟩ rfl) ?_));intro s1 y1 ζ aP;unfold I9 at ζ;refine sg (aeg ζ (fun ζ=>?_) fun ζ=>?_)
  ·refine sq (Ok.aag rfl ?_);refine sk (bl (sg ?_));have ⟨v3,eb,ζ⟩:=κ ζ;refine Ok.bh ⟨ar [(21,.b 21 0),(30,vb v3)],[(21,.si ⟨a.toArray⟩ (s1+(o8 a s1).2))]⟩ ?_ ?_
   ·refine rg ?_;have ⟨c4,fw,eb⟩:=κ eb;refine Br.dV fw (fun hb fw=>?_) fun hb fw=>?_
    ·cases fw;cases eb;exact wt Q2 J1 rfl
    cases fw;cases eb;exact wt Q2 J1 rfl
   refine ct ζ (fun hb ζ=>?_) fun hb ζ=>?_
   ·refine sg (rt ?_);have ζ:=bx ζ aP;cases ζ;exact Fz.v
   refine sk ?_;exact ⟨_,sj ζ,wt Q1 J1 rfl⟩
  refine sq (Ok.aaf rfl ?_);refine xt ?_;have ζ:=bx ζ aP;exact ⟨_,ζ,wt Q0 Q0 rfl⟩
 intro v2 h;unfold I_ at h;refine sg (rt ?_);cases h;exact Fz.v
def ajO {l:Nat} {a:List UInt8} {g:Bool} {e:Int} {c:List (List UInt8)} {r:LS×Int×(List (List UInt8))} (h:BI a g e c=some r):af prog (.y l) [vs a,vb g] ⟨aF,(1000,.lp l .iH zK [(2,(.b 1001 0)),(3,(.b 1002 0)),(4,(.b 1003 0))])::[(1001,.box [zs]),(1002,.box [vi e]),(1003,.box [.o 1004]),(1004,.own 9 1 (mG c))]⟩ fun x s=>x=.v (.bool (LS.wF r.1))∧s.H=(1000,.lp l r.1 zK [(2,(.b 1001 0)),(3,(.b 1002 0)),(4,(.b 1003 0))])::[(1001,.box [zs]),(1002,.box [vi r.2.1]),(1003,.box [.o 999]),(999,.own 9 1 (mG r.2.2))]:=by
 letI:dK:=dK.yes
 refine akj (e0:=r.1) (H1:=[(1001,.box [zs]),(1002,.box [vi r.2.1]),(1003,.box [.o 999]),(999,.own 9 1 (mG r.2.2))]) (by kernel_rfl) (by kernel_rfl) rfl rfl rfl ?_;unfold BI at h;refine sg (rg (bl (sq ?_)));have ⟨v1,ν,h⟩:=κ h;refine Ok.bh ⟨ar [(2,.b 1001 0),(3,.b 1002 0),(4,.b 1003 0),(5,vs a),(24,vb v1)],[(1001,.box [zs]),(1002,.box [vi e]),(1003,.box [.o 1004]),(1004,.own 9 1 (mG c))]⟩ ?_ ?_
 ·refine rg ?_;have ⟨c1,Δ,ν⟩:=κ ν;refine Br.dV Δ (fun hb Δ=>?_) fun hb Δ=>?_
  ·cases Δ;have ⟨c2,aI,ν⟩:=κ ν;replace aI:=ee aI;cases aI;cases ν;exact wt Q5 J4 rfl
  have ⟨x1,Ξ,Δ⟩:=κ Δ;refine af.call (KD Ξ) lz ?_;cases Δ;have ⟨c2,aX,ν⟩:=κ ν;refine Br.dV aX (fun hb aX=>?_) fun hb aX=>?_
  ·cases aX;cases ν;exact wt Q5 J4 rfl
  refine ⟨_,rfl,_,ay _,fun _=>?_⟩;cases aX;cases ν;exact wt Q5 J4 rfl
 refine ct h (fun hb h=>?_) fun hb h=>?_
 ·refine sg ⟨_,rfl,_,rfl,?_⟩;refine rt ?_;cases h;exact ⟨rfl,(Wk.mv (i:=1004) (d:=999) rfl rfl rfl).trans (wt Q0 ⟨⟨_,rfl,.refl _⟩,⟨_,rfl,.refl _⟩,⟨_,rfl,.refl _⟩,⟨_,rfl,.refl _⟩,Q0⟩ rfl)⟩
 refine sk (Ok.wk (Wk.mv (i:=1004) (d:=999) rfl rfl rfl) ?_);refine rg ?_;have ⟨aw,h⟩:=aG h;refine ⟨_,rfl,θ ⟨g_ (f:=mJ) (n:=1) (fun _=>rfl) ([a]),ix (f:=mJ) (l:=c) (l':=[a]) aw,_,(fo (f:=mJ) (l₁:=c) (l₂:=[a])).symm,_,rfl,?_⟩⟩;cases h;exact ⟨rfl,wt Q0 ⟨⟨_,rfl,.refl _⟩,⟨_,rfl,.refl _⟩,⟨_,rfl,.refl _⟩,⟨_,rfl,.refl _⟩,Q0⟩ rfl⟩
def ajQ {l:Nat} {a:Int} {d:List UInt8} {r:LS×Int×(List UInt8)×(List (List UInt8))} (h:Ja a d=some r):af prog 264 [.c (.yield l) [] [],.b 1004 0] ⟨aF,[(1000,.lp l .iH zK [(2,(.b 1001 0)),(3,(.b 1002 0)),(4,(.b 1003 0))]),(1001,.box [zs]),(1002,.box [vi a]),(1003,.box [zs]),(1004,.box [vs d])]⟩ fun x s=>x=(.t [])∧s.H=[(1000,.lp l r.1 zK [(2,(.b 1001 0)),(3,(.b 1002 0)),(4,(.b 1003 0))]),(1001,.box [zs]),(1002,.box [vi r.2.1]),(1003,.box [.o 999]),(1004,.box [vs r.2.2.1]),(999,.own 9 1 (mG r.2.2.2))]:=by
 refine pg tok 29 func264 ?_;unfold Ja at h;refine bl (Ok.loop (fun (s1:LS×(List UInt8)×Int×(List (List UInt8)))=>⟨ar [(0,.c (.yield l) [] []),(1,.b 1004 0)],[(1000,.lp l s1.1 zK [(2,.b 1001 0),(3,.b 1002 0),(4,.b 1003 0)]),(1001,.box [zs]),(1002,.box [vi s1.2.2.1]),(1003,.box [.o 999]),(999,.own 9 1 (mG s1.2.2.2)),(1004,.box [vs s1.2.1])]⟩) (Jb) (s0:=(.iH,d,a,[])) h ((Wk.Jl (b:=1003) (q:=0) (id:=999) (E:=9) (K:=1) rfl rfl rfl).trans (wt Q2 ⟨⟨_,rfl,.refl _⟩,⟨_,rfl,.refl _⟩,⟨_,rfl,.refl _⟩,⟨_,rfl,.refl _⟩,⟨_,rfl,.refl _⟩,⟨_,rfl,.refl _⟩,Q0⟩ rfl)) ?_);intro s1 y1 ζ aP;unfold Jb at ζ;refine sq (sg ?_);refine ⟨_,rfl,_,Km _ _,?_⟩;refine ct ζ (fun hb ζ=>?_) fun hb ζ=>?_
 ·refine sk (bl (sg ?_));have ⟨x1,Ξ,ζ⟩:=κ ζ;refine ⟨_,rfl,?_⟩;refine af.call (ajg Ξ) lz ?_;refine sg (af.call (ac3 x1.1 (47)) lz ?_);have ⟨v1,ν,ζ⟩:=κ ζ;refine Ok.bh ⟨ar [(0,.c (.yield l) [] []),(1,.b 1004 0),(3,vs x1.1),(4,vb x1.2),(5,vi v1)],[(1000,.lp l s1.1 zK [(2,.b 1001 0),(3,.b 1002 0),(4,.b 1003 0)]),(1001,.box [zs]),(1002,.box [vi s1.2.2.1]),(1003,.box [.o 999]),(999,.own 9 1 (mG s1.2.2.2)),(1004,.box [vs s1.2.1])]⟩ ?_ ?_
  ·refine sg (ct ν (fun hb ν=>?_) fun hb ν=>?_)
   ·refine rg ⟨_,nZ _,?_⟩;cases ν;exact wt Q5 ⟨hr,hr,J4⟩ rfl
   refine sk ?_;cases ν;exact wt Q5 ⟨hr,hr,J4⟩ rfl
  refine sq (sg ?_);have ⟨aw,ζ⟩:=aG ζ;have ⟨br,ζ⟩:=aG ζ;have ⟨x2,au,ζ⟩:=κ ζ;refine ⟨_,kZ (Ps aw),Kn aw,Ko aw,_,Kp aw,?_⟩;refine cg [(1000,1000),(1001,1001),(1002,1002),(1003,1003),(1004,999)] [(999,999)] (ajO au) nq ⟨⟨1000,_,rfl,rfl,.lp br ⟨rfl,Ln.b rfl,rfl,Ln.b rfl,rfl,Ln.b rfl,Q0⟩⟩,⟨1001,_,rfl,rfl,.box nq⟩,⟨1002,_,rfl,rfl,.box nq⟩,⟨1003,_,rfl,rfl,.box (.cons (Ln.o rfl) .nil)⟩,⟨999,_,rfl,rfl,.refl rfl⟩,Q0⟩ ?_;refine ct ζ (fun hb ζ=>?_) fun hb ζ=>?_
  ·refine rt ?_;have ζ:=bx ζ aP;cases ζ;exact wt Q1 ⟨hr,hr,J4⟩ rfl
  refine sk (rg ?_);have ⟨eo,ζ⟩:=aG ζ;refine ⟨_,kZ eo.1,Kn eo,Ko eo,_,Kp eo,_,rfl,?_⟩;exact ⟨_,sj ζ,wt Q2 ⟨hr,hr,J4⟩ rfl⟩
 refine xt ?_;have ζ:=bx ζ aP;cases ζ;exact wt Q1 ⟨hr,hr,J4⟩ rfl
def Qo {a r} (h:zv a=some r):Pure prog 133 [vs a] (.t [.s (mG r.1),vi r.2]):=by
 refine pq tok 33 func133 ?_;unfold zv at h;refine sg (sq (sg ?_));refine ⟨_,tD _ _,?_⟩;refine ct h (fun hb h=>?_) fun hb h=>?_
 ·refine sg ⟨_,rfl,_,rfl,?_⟩;refine rt ?_;cases h;exact ⟨_,rfl,_,rfl,Fz.t (.cons Fz.nil fq)⟩
 refine sk (sg ?_);refine sq (sg ?_);have ⟨x1,Ξ,h⟩:=κ h;refine cg [] [(1,999)] (ajP Ξ) nq Q0 ?_;refine bl ?_;have ⟨x2,au,h⟩:=κ h;refine Ok.rangeFunc (lid:=998) (R0:=zK) (L:=[(2,.b 2 0),(3,.b 3 0),(4,.b 4 0)]) (by kernel_rfl) rfl rfl Q3 (fun l=>cg [(1000,998),(1001,2),(1002,3),(1003,4),(1004,999)] [(999,997)] (ajQ au) (.cons (Ln.c .nil .nil) (.cons (Ln.b rfl) .nil)) ⟨⟨998,_,rfl,rfl,.lp rfl ⟨rfl,Ln.b rfl,rfl,Ln.b rfl,rfl,Ln.b rfl,Q0⟩⟩,⟨2,_,rfl,rfl,.box nq⟩,⟨3,_,rfl,rfl,.box nq⟩,⟨4,_,rfl,rfl,.box nq⟩,⟨999,_,rfl,rfl,.box nq⟩,Q0⟩ ⟨_,_,_,rfl,?_⟩);refine agi h (fun h=>?_) (fun h=>?_)
 ·refine sq (sg ?_);refine ⟨_,rfl,_,ay _,fun _=>?_⟩;refine ct h (fun hb h=>?_) fun hb h=>?_
  ·refine sg ⟨_,rfl,_,rfl,?_⟩;refine rt ?_;cases h;exact ⟨_,rfl,_,rfl,Fz.t (.cons Fz.nil fq)⟩
  refine sk (sg ?_);refine ⟨_,rfl,_,rfl,_,rfl,?_⟩;refine rt ?_;cases h;exact ⟨_,rfl,_,rfl,Fz.t (.cons (Fz.o rfl) fq)⟩
 refine agj h (fun h=>?_) (fun h=>?_)
 ·cases h;exact ⟨_,rfl,_,rfl,Fz.t (.cons Fz.nil fq)⟩
 cases h
def Ya {a r} (h:cmp_isNaN_int a=some r):Pure prog 247 [vi a] (vb r):=by
 refine pq tok 6 func247 ?_;unfold cmp_isNaN_int at h;refine sg (sg (rt ?_));cases h;exact Fz.v
def Ab {a b r} (h:qQ a b=some r):Pure prog 194 [vi a,vi b] (vi r):=by
 refine pq tok 20 func194 ?_;unfold qQ at h;refine sg (sg ?_);have ⟨x1,Ξ,h⟩:=κ h;refine af.call (Ya Ξ) lz ?_;refine sg ?_;have ⟨x2,au,h⟩:=κ h;refine af.call (Ya au) lz ?_;refine sq (sg ?_);refine ct h (fun hb h=>?_) fun hb h=>?_
 ·refine sq (sg ?_);refine ct h (fun hb h=>?_) fun hb h=>?_
  ·refine sg (rt ?_);cases h;exact Fz.v
  refine sk (sg ?_);refine rt ?_;cases h;exact Fz.v
 refine sk (sq (sg ?_));refine ct h (fun hb h=>?_) fun hb h=>?_
 ·refine sg (rt ?_);cases h;exact Fz.v
 refine sk (sq (sg ?_));refine ct h (fun hb h=>?_) fun hb h=>?_
 ·refine sg (rt ?_);cases h;exact Fz.v
 refine sk (sq (sg ?_));refine ct h (fun hb h=>?_) fun hb h=>?_
 ·refine sg (rt ?_);cases h;exact Fz.v
 refine sk (sg ?_);refine rt ?_;cases h;exact Fz.v
def Yv {c d r} (h:z6 c d=some r):Pure prog 270 [.a (b4 c),vi d] (vi r):=by
 refine pq tok 9 func270 ?_;unfold z6 at h;refine sg (sg ?_);have ⟨x1,Ξ,h⟩:=κ h;refine ⟨_,rfl,?_⟩;refine af.call (Ab Ξ) lz ?_;refine rt ?_;cases h;exact Fz.v
def ai5 {a b r} (h:Pw a b=some r):Pure prog 253 [.s (mI a),vi b,.c (.func 270) [] []] (.t [vi r.1,vb r.2]):=by
 refine pq tok 49 func253 ?_;unfold Pw at h;refine sg (sg ⟨_,ay _,fun _=>?_⟩);refine sg ?_;have ⟨v1,ν,h⟩:=κ h;refine Ok.bh ⟨ar [(0,.s (mI a)),(1,vi b),(2,.c (.func 270) [] []),(8,vi (a.length:Int)),(9,vi v1)],[]⟩ ?_ ?_
 ·refine bl (Ok.loop (fun (s1:Int×Int)=>⟨ar [(0,.s (mI a)),(1,vi b),(2,.c (.func 270) [] []),(8,vi (a.length:Int)),(9,vi s1.1),(10,vi s1.2)],[]⟩) (Px a b) (s0:=(0,(a.length:Int))) ν (wt Q6 Q0 rfl) ?_);intro s1 y1 ζ aP;unfold Px at ζ;refine sq (sg ?_);refine ct ζ (fun hb ζ=>?_) fun hb ζ=>?_
  ·refine sk (bl (sg ?_));have ⟨aw,ζ⟩:=aG ζ;refine (θ ⟨aw,_,rfl,(by decide),_,rfl,_,rfl,?_⟩);refine sg ?_;have ⟨x1,Ξ,ζ⟩:=κ ζ;have ⟨x2,au,ζ⟩:=κ ζ;refine ⟨_,bz Ξ,_,bC Ξ,_,rfl,?_⟩;refine af.call (Yv au) lz ?_;refine ct ζ (fun hb ζ=>?_) fun hb ζ=>?_
   ·refine rg ?_;have ⟨br,ζ⟩:=aG ζ;refine (θ ⟨br,?_⟩);exact ⟨_,sj ζ,wt Q6 Q0 rfl⟩
   refine rg ?_;exact ⟨_,sj ζ,wt Q6 Q0 rfl⟩
  refine xt ?_;have ζ:=bx ζ aP;cases ζ;exact wt Q5 Q0 rfl
 have ⟨v2,ax,h⟩:=κ h;refine Ok.bh ⟨ar [(6,vi v1),(7,vb v2)],[]⟩ ?_ ?_
 ·refine rg ?_;have ⟨c1,Δ,ax⟩:=κ ax;refine Br.ite Δ (fun hb Δ=>?_) fun hb Δ=>?_
  ·have ⟨x3,aL,Δ⟩:=κ Δ;have ⟨x4,bu,Δ⟩:=κ Δ;refine ⟨_,bz aL,_,bC aL,_,rfl,?_⟩;refine af.call (Yv bu) lz ?_;cases Δ;cases ax;exact wt Q2 Q0 rfl
  cases Δ;cases ax;exact wt Q2 Q0 rfl
 refine rt ?_;cases h;exact (Fz.t fq)
def KF {self a r} (h:tG self a=some r):mr prog 230 [.b 1000 0,vi a] (.box (b5 self)) (fun x c=>x=(.t [vi r.1.1,vb r.1.2])∧c=.box (b5 r.2)):=by
 refine qk (n:=15) (c:=f230.body.getD .skip) tok func230 (by kernel_rfl) rfl rfl nb ?_;unfold tG at h;refine sg (sg ?_);have ⟨x1,Ξ,h⟩:=κ h;refine ⟨_,rfl,?_⟩;refine af.call (ai5 Ξ) lz ?_;refine rt ?_;cases h;exact ⟨_,_,⟨rfl,rfl⟩,rfl,rfl,Fz.t fq⟩
def qt {self d r} (h:m_ self d=some r):mr prog 179 [.b 1000 0,vi d] (.box (b5 self)) (fun x c=>x=(.t [.a (b4 r.1.1),vb r.1.2])∧c=.box (b5 r.2)):=by
 refine qk (n:=25) (c:=f179.body.getD .skip) tok func179 (by kernel_rfl) rfl rfl nb ?_;unfold m_ at h;refine sg (sg ?_);have ⟨x1,Ξ,h⟩:=κ h;refine af.ez (id:=1000) (KF Ξ) rfl (.box lz) rfl (.cons (Lr.b) (.cons (Lr.dG rfl) .nil)) ?_;rintro _ _ ⟨rfl,rfl⟩;refine sq (sg ?_);refine ct h (fun hb h=>?_) fun hb h=>?_
 ·refine sg ⟨_,rfl,?_⟩;refine rt ?_;cases h;exact ⟨_,rfl,_,_,⟨rfl,rfl⟩,rfl,rfl,Fz.t (.cons (Fz.a (.cons Fz.v (.cons Fz.v (.cons Fz.v (.cons Fz.nil (.cons Fz.nil fq)))))) fq)⟩
 refine sk (sg ?_);have ⟨x2,au,h⟩:=κ h;refine ⟨_,rfl,_,bz au,_,bC au,_,rfl,_,rfl,?_⟩;refine rt ?_;cases h;exact ⟨_,rfl,_,_,⟨rfl,rfl⟩,rfl,rfl,Fz.t fq⟩
def KG {self d r} (h:w_ self d=some r):mr prog 182 [.b 1000 0,vi d] (.box (b5 self)) (fun x c=>x=(.t [.a (b4 r.1.1),vi r.1.2])∧c=.box (b5 r.2)):=by
 refine qk (n:=24) (c:=f182.body.getD .skip) tok func182 (by kernel_rfl) rfl rfl nb ?_;unfold w_ at h;refine sg (sg ?_);have ⟨x1,Ξ,h⟩:=κ h;refine af.ez (id:=1000) (qt Ξ) rfl (.box lz) rfl (.cons (Lr.b) (.cons (Lr.dG rfl) .nil)) ?_;rintro _ _ ⟨rfl,rfl⟩;refine ⟨_,rfl,?_⟩;refine bl (sg ?_);refine ct h (fun hb h=>?_) fun hb h=>?_
 ·refine sg ⟨_,rfl,?_⟩;refine rt ?_;cases h;exact ⟨_,rfl,_,_,⟨rfl,rfl⟩,rfl,rfl,Fz.t (.cons (Fz.a (.cons Fz.v (.cons Fz.v (.cons Fz.v (.cons Fz.nil (.cons Fz.nil fq)))))) fq)⟩
 refine sg ⟨_,rfl,?_⟩;refine ct h (fun hb h=>?_) fun hb h=>?_
 ·refine sg ⟨_,rfl,?_⟩;refine rt ?_;cases h;exact ⟨_,rfl,_,_,⟨rfl,rfl⟩,rfl,rfl,Fz.t (.cons (Fz.a (.cons Fz.v (.cons Fz.v (.cons Fz.v (.cons Fz.nil (.cons Fz.nil fq)))))) fq)⟩
 refine sg ⟨_,rfl,_,rfl,?_⟩;refine rt ?_;cases h;exact ⟨_,rfl,_,_,⟨rfl,rfl⟩,rfl,rfl,Fz.t fq⟩
def Yu {c d r} (h:CC c d=some r):Pure prog 240 [.a (b6 c),vs d] (vi r):=by
 refine pq tok 9 func240 ?_;unfold CC at h;refine sg (sg ⟨_,rfl,?_⟩);refine af.call (ac2 c.aM d) lz ?_;refine rt ?_;cases h;exact Fz.v
def ai2 {a b r} (h:Pt a b=some r):Pure prog 239 [.s (mF a),vs b,.c (.func 240) [] []] (.t [vi r.1,vb r.2]):=by
 refine pq tok 49 func239 ?_;unfold Pt at h;refine sg (sg ⟨_,ay _,fun _=>?_⟩);refine sg ?_;have ⟨v1,ν,h⟩:=κ h;refine Ok.bh ⟨ar [(0,.s (mF a)),(1,vs b),(2,.c (.func 240) [] []),(8,vi (a.length:Int)),(9,vi v1)],[]⟩ ?_ ?_
 ·refine bl (Ok.loop (fun (s1:Int×Int)=>⟨ar [(0,.s (mF a)),(1,vs b),(2,.c (.func 240) [] []),(8,vi (a.length:Int)),(9,vi s1.1),(10,vi s1.2)],[]⟩) (Pu a b) (s0:=(0,(a.length:Int))) ν (wt Q6 Q0 rfl) ?_);intro s1 y1 ζ aP;unfold Pu at ζ;refine sq (sg ?_);refine ct ζ (fun hb ζ=>?_) fun hb ζ=>?_
  ·refine sk (bl (sg ?_));have ⟨aw,ζ⟩:=aG ζ;refine (θ ⟨aw,_,rfl,(by decide),_,rfl,_,rfl,?_⟩);refine sg ?_;have ⟨x1,Ξ,ζ⟩:=κ ζ;have ⟨x2,au,ζ⟩:=κ ζ;refine ⟨_,bz Ξ,_,bC Ξ,_,rfl,?_⟩;refine af.call (Yu au) lz ?_;refine ct ζ (fun hb ζ=>?_) fun hb ζ=>?_
   ·refine rg ?_;have ⟨br,ζ⟩:=aG ζ;refine (θ ⟨br,?_⟩);exact ⟨_,sj ζ,wt Q6 Q0 rfl⟩
   refine rg ?_;exact ⟨_,sj ζ,wt Q6 Q0 rfl⟩
  refine xt ?_;have ζ:=bx ζ aP;cases ζ;exact wt Q5 Q0 rfl
 have ⟨v2,ax,h⟩:=κ h;refine Ok.bh ⟨ar [(6,vi v1),(7,vb v2)],[]⟩ ?_ ?_
 ·refine rg ?_;have ⟨c1,Δ,ax⟩:=κ ax;refine Br.ite Δ (fun hb Δ=>?_) fun hb Δ=>?_
  ·have ⟨x3,aL,Δ⟩:=κ Δ;have ⟨x4,bu,Δ⟩:=κ Δ;refine ⟨_,bz aL,_,bC aL,_,rfl,?_⟩;refine af.call (Yu bu) lz ?_;cases Δ;cases ax;exact wt Q2 Q0 rfl
  cases Δ;cases ax;exact wt Q2 Q0 rfl
 refine rt ?_;cases h;exact (Fz.t fq)
def CR {c d r} (h:tE c d=some r):Pure prog 184 [.a (b4 c),vs d] (.t [vi r.1,vb r.2]):=by
 refine pq tok 12 func184 ?_;unfold tE at h;refine sg (sg ?_);have ⟨x1,Ξ,h⟩:=κ h;refine ⟨_,rfl,?_⟩;refine af.call (ai2 Ξ) lz ?_;refine rt ?_;cases h;exact (Fz.t fq)
def KE {c e d r} (h:uV c e d=some r):Pure prog 119 [.a (b0 c),vi e,vs d] (.t [vi r.1,vi r.2]):=by
 refine pq tok 40 func119 ?_;unfold uV at h;refine sg (sg ?_);have ⟨x1,Ξ,h⟩:=κ h;refine ⟨_,rfl,?_⟩;refine af.ez (id:=15) (KG Ξ) rfl (.box lz) rfl (.cons (Lr.b) (.cons (Lr.dG rfl) .nil)) ?_;rintro _ _ ⟨rfl,rfl⟩;refine ⟨_,rfl,?_⟩;refine sq (sg ?_);refine ct h (fun hb h=>?_) fun hb h=>?_
 ·refine sg (rt ?_);cases h;exact (Fz.t fq)
 refine sk (sq (sg ?_));have ⟨x2,au,h⟩:=κ h;refine af.call (KD au) lz ?_;refine ct h (fun hb h=>?_) fun hb h=>?_
 ·refine sg (rt ?_);cases h;exact (Fz.t fq)
 refine sk (sg ?_);have ⟨x3,aL,h⟩:=κ h;refine ⟨_,rfl,?_⟩;refine af.call (CR aL) lz ?_;refine sq (sg ?_);refine ct h (fun hb h=>?_) fun hb h=>?_
 ·refine sg (rt ?_);cases h;exact (Fz.t fq)
 refine sk (sg ?_);have ⟨x4,bu,h⟩:=κ h;refine ⟨_,rfl,_,bz bu,_,bC bu,_,rfl,?_⟩;refine rt ?_;cases h;exact (Fz.t fq)
def Yt {c d r} (h:w9 c d=some r):Pure prog 163 [.a (b0 c),vs d] (.t [vi r.1,vi r.2]):=by
 refine pq tok 37 func163 ?_;unfold w9 at h;refine sg (sg ?_);have ⟨x1,Ξ,h⟩:=κ h;refine af.call (Qo Ξ) lz ?_;refine sq (sg ?_);refine ct h (fun hb h=>?_) fun hb h=>?_
 ·refine sg (rt ?_);cases h;exact (Fz.t fq)
 refine sk (sg ?_);refine Ok.eW (fun v1=>⟨ar [(8,vi v1)],[]⟩) (fun v1=>Ku v1=some r) ?_ ?_
 ·refine sg ⟨_,ay _,fun _=>?_⟩;refine bl (Ok.loop (fun (s1:Int×Int)=>⟨ar [(2,.b 2 0),(8,vi s1.1),(19,.s (mG x1.1)),(20,vi (x1.1.length:Int)),(21,vi s1.2)],[(2,.box (b0 c))]⟩) (zZ x1 c) (s0:=(1,0)) h (wt Q5 ⟨⟨_,rfl,.refl _⟩,Q0⟩ rfl) ?_);intro s1 y1 ζ aP;unfold zZ at ζ;refine sg (sq (ct ζ (fun hb ζ=>?_) fun hb ζ=>?_))
  ·refine sk (sq (bl (sg ?_)));have ⟨x2,au,ζ⟩:=κ ζ;refine ⟨_,bz au,_,bC au,_,rfl,?_⟩;refine sg ?_;have ⟨x3,aL,ζ⟩:=κ ζ;refine ⟨_,rfl,?_⟩;refine af.call (KE aL) lz ?_;refine sg (ct ζ (fun hb ζ=>?_) fun hb ζ=>?_)
   ·refine sg (rt ?_);have ζ:=bx ζ aP;cases ζ;exact (Fz.t fq)
   refine sk (rg ?_);have ⟨aw,ζ⟩:=aG ζ;refine (θ ⟨aw,?_⟩);exact ⟨_,sj ζ,wt Q5 J1 rfl⟩
  refine xt ?_;have ζ:=bx ζ aP;exact ⟨_,ζ,wt Q1 Q0 rfl⟩
 intro v1 h;unfold Ku at h;refine sg (rt ?_);cases h;exact (Fz.t fq)
def rO {c d r} (h:l7 c d=some r):Pure prog 176 [.a (b0 c),vi d] (.t [.a (b4 r.1),vb r.2]):=by
 refine pq tok 13 func176 ?_;unfold l7 at h;refine sg (sg ?_);have ⟨x1,Ξ,h⟩:=κ h;refine ⟨_,rfl,?_⟩;refine af.ez (id:=8) (qt Ξ) rfl (.box lz) rfl (.cons (Lr.b) (.cons (Lr.dG rfl) .nil)) ?_;rintro _ _ ⟨rfl,rfl⟩;refine ⟨_,rfl,?_⟩;refine rt ?_;cases h;exact ⟨_,rfl,Fz.t fq⟩
def Yz {K d e f g i j k l o t u w z y A B C D E F G I J r} (h:AT K d e f g i j k l o t u w z y A B C D E F G I J=some r):af prog 164 [.b 1000 0,vi K] ⟨aF,[(1000,.box (cP d e f g i j k l o t u w z y A B C D E F G I J))]⟩ fun x s=>x=(.a (k8 r.1 r.2.1 r.2.2.1 r.2.2.2.1 r.2.2.2.2.1 r.2.2.2.2.2))∧s.H=[(1000,.box (cP d e f g i j k l o t u w z y A B C D E F G I J))]:=by
 refine pg tok 19 func164 ?_;unfold AT at h;refine sg (sg ?_);have ⟨x1,Ξ,h⟩:=κ h;refine ⟨_,rfl,?_⟩;refine af.call (rO Ξ) lz ?_;refine ⟨_,rfl,?_⟩;refine sg ⟨_,rfl,_,rfl,?_⟩;refine rt ?_;cases h;exact ⟨_,rfl,wt Q1 J1 rfl⟩
def Ad {L d e f g i j k l o t u w z A B C D E F G I J K} {q:Int⊕(oQ)} (h:qU L d e f g i j k l o t u w z A B C D E F G I J K=some q):fL prog bg 113 [.b 1000 0,vs L] ⟨aF,[(1000,.box (cP d e f g i j k l o t u w z A B C D E F G I J K))]⟩ (fun x s=>∃y:oQ,q=.inr y∧x=(.a (k8 y.1 y.2.1 y.2.2.1 y.2.2.2.1 y.2.2.2.2.1 y.2.2.2.2.2))∧s.H=[(1000,.box (cP d e f g i j k l o t u w z A B C D E F G I J K))]) fun m s=>q=.inl m∧s.H=[]:=by
 refine px tok 23 func113 ?_;unfold qU at h;refine sg (sg ?_);have ⟨x1,Ξ,h⟩:=κ h;refine ⟨_,rfl,?_⟩;refine af.call (Yt Ξ) lz ?_;refine sq (Ok.cW bg tok ?_);have ⟨x2,au,h⟩:=κ h;refine θ (bX (cx [] [] (ku au) nq Q0 (fun e1 bE=>?_) (fun y1 cZ=>?_)))
 ·have h:=cw h bE;cases h;exact ⟨_,rfl,rfl⟩
 have h:=cy h cZ;refine sg ?_;have ⟨x3,aL,h⟩:=κ h;refine cg [(1000,1000)] [] (Yz aL) (.cons (Ln.b rfl) nq) ⟨⟨1000,_,rfl,rfl,.box nq⟩,Q0⟩ ?_;refine ⟨_,rfl,?_⟩;refine rt ?_;cases h;exact ⟨_,rfl,_,rfl,wt Q1 J1 rfl⟩
def ajE {a d e f g i j k l o u w z A B C D E F G I J K} {q:Int⊕(Int×Int)} (h:DO a d e f g i j k l o u w z A B C D E F G I J K=some q):fL prog bg 62 [.b 1000 0] ⟨aF,[(1000,.box (cP a d e f g i j k l o u w z A B C D E F G I J K))]⟩ (fun x s=>∃y:Int×Int,q=.inr y∧x=(.t [])∧s.H=[(1000,.box (cP a d e f g i j k l o u w z A B C D E 0 y.1 y.2 0 0))]) fun m s=>q=.inl m∧s.H=[]:=by
 refine px tok 18 func62 ?_;unfold DO at h;refine sq (Ok.cW bg tok ?_);have ⟨x1,Ξ,h⟩:=κ h;refine θ (θ (θ (θ (θ (θ (⟨_,rfl,?_⟩))))));refine bX (cx [(1000,1000)] [] (Ad Ξ) (.cons (Ln.b rfl) nq) ⟨⟨1000,_,rfl,rfl,.box nq⟩,Q0⟩ (fun e1 bE=>?_) (fun y1 cZ=>?_))
 ·have h:=cw h bE;cases h;exact ⟨_,rfl,rfl⟩
 have h:=cy h cZ;refine θ (θ (⟨_,rfl,?_⟩));refine rg ⟨_,rfl,_,rfl,_,rfl,?_⟩;cases h;exact ⟨_,rfl,wt Q1 J1 rfl⟩
def aiC [oV] {a r} (h:E2 a=some r):Pure prog 228 [.s (mG a)] (vs r):=by
 refine pq tok 9 func228 ?_;unfold E2 at h;refine sg (sq (sg ?_));refine ⟨_,ay _,fun _=>?_⟩;refine ct h (fun hb h=>?_) fun hb h=>?_
 ·refine sg (rt ?_);cases h;exact Fz.v
 refine sk (sg ?_);have ⟨aw,h⟩:=aG h;refine af.call (ac4 a ([47]) aw) lz ?_;have ⟨br,h⟩:=aG h;refine ⟨ahO br,_,ahP _ _,?_⟩;refine rt ?_;cases h;exact Fz.v
def aiD [oV] {a r} (h:E3 a=some r):Pure prog 165 [vs a] (.t (k12 r.1 r.2.1 r.2.2)):=by
 refine pq tok 31 func165 ?_;unfold E3 at h;refine sg (sg ?_);have ⟨x1,Ξ,h⟩:=κ h;refine af.call (Qo Ξ) lz ?_;refine sq ?_;have ⟨v1,ν,h⟩:=κ h;refine Ok.bh ⟨ar [(5,.s (mG x1.1)),(19,vb v1)],[]⟩ ?_ ?_
 ·refine rg ?_;have ⟨c1,Δ,ν⟩:=κ ν;refine Br.dV Δ (fun hb Δ=>?_) fun hb Δ=>?_
  ·cases Δ;cases ν;exact wt Q2 Q0 rfl
  refine ⟨_,ay _,fun _=>?_⟩;cases Δ;cases ν;exact wt Q2 Q0 rfl
 refine ct h (fun hb h=>?_) fun hb h=>?_
 ·refine sg (rt ?_);cases h;exact (Fz.t fq)
 refine sk (sg ?_);have ⟨aw,h⟩:=aG h;refine ⟨_,ay _,fun _=>(θ ⟨aw,?_⟩)⟩;refine sq (dw 11 tok mixed ?_);have ⟨x2,au,h⟩:=κ h;have ⟨br,h⟩:=aG h;have ⟨x3,aL,h⟩:=κ h;refine ⟨_,rfl,_,rfl,_,⟨_,bz au,_,bC au,rfl⟩,_,⟨_,rfl,rfl⟩,_,rfl,_,rfl,_,⟨_,kZ br.1,Nat.zero_le _,wV br,wQ (f:=mJ) (K:=1) (fun _=>rfl) x1.1,_,J0 _ _ _,rfl⟩,_,⟨_,.fk (aiC aL) lz,rfl⟩,_,rfl,_,rfl,_,rfl,Q0,?_⟩;refine rt ?_;cases h;exact (Fz.t fq)
def Gn [oV] {L a d e f g i j k l o u w z A B C D E F G I J K} {q:Int⊕(Int×(List UInt8))} (h:uk L a d e f g i j k l o u w z A B C D E F G I J K=some q):fL prog bg 114 [.b 1000 0,vs L] ⟨aF,[(1000,.box (cP a d e f g i j k l o u w z A B C D E F G I J K))]⟩ (fun x s=>∃y:Int×(List UInt8),q=.inr y∧x=(.t [vi y.1,vs y.2])∧s.H=[(1000,.box (cP a d e f g i j k l o u w z A B C D E F G I J K))]) fun m s=>q=.inl m∧s.H=[]:=by
 refine px tok 33 func114 ?_;unfold uk at h;refine sg (sg ?_);have ⟨x1,Ξ,h⟩:=κ h;refine af.call (aiD Ξ) lz ?_;refine sq (Ok.cW bg tok ?_);have ⟨x2,au,h⟩:=κ h;refine θ (bX (cx [] [] (ku au) nq Q0 (fun e1 bE=>?_) (fun y1 cZ=>?_)))
 ·have h:=cw h bE;cases h;exact ⟨_,rfl,rfl⟩
 have h:=cy h cZ;refine sg ?_;have ⟨x3,aL,h⟩:=κ h;refine ⟨_,rfl,?_⟩;refine af.call (Yt aL) lz ?_;refine sq (Ok.cW bg tok ?_);have ⟨x4,bu,h⟩:=κ h;refine θ (bX (cx [] [] (ku bu) nq Q0 (fun e2 dR=>?_) (fun y2 et=>?_)))
 ·have h:=cw h dR;cases h;exact ⟨_,rfl,rfl⟩
 have h:=cy h et;refine sg (rt ?_);cases h;exact ⟨_,rfl,wt Q1 J1 rfl⟩
def Qt {self a r} (h:CL self a=some r):mr prog 185 [.b 1000 0,vi a] (.box (b5 self)) (fun x c=>x=(.s (mB r.1))∧c=.box (b5 r.2)):=by
 refine qk (n:=44) (c:=f185.body.getD .skip) tok func185 (by kernel_rfl) rfl rfl nb ?_;unfold CL at h;refine sg (sg (bX ?_));refine Ok.eW (fun v1=>⟨ar [(5,.o 9)],[(9,.own 3 1 (mB v1.1)),(1000,.box (k0 v1.2.1 v1.2.2.1 v1.2.2.2))]⟩) (fun v1=>Kv v1=some r) ?_ ?_
 ·refine bl (Ok.loop (fun (s1:Int×(List ξ)×Int×Int×(List Int))=>⟨ar [(0,.b 1000 0),(1,vi s1.1),(5,.o 9)],[(1000,.box (k0 s1.2.1 s1.2.2.1 s1.2.2.2.1)),(9,.own 3 1 (mB s1.2.2.2.2))]⟩) (z8) (s0:=(a,self.Tree.η,self.Tree.Next,self.Tree.aj,[a])) h (wt Q3 ⟨⟨_,rfl,.refl _⟩,⟨_,rfl,.refl _⟩,Q0⟩ rfl) ?_);intro s1 y1 ζ aP;unfold z8 at ζ;refine sq ?_;have ⟨v2,ax,ζ⟩:=κ ζ;refine Ok.bh ⟨ar [(0,.b 1000 0),(1,vi s1.1),(5,.o 9),(22,vb v2)],[(1000,.box (k0 s1.2.1 s1.2.2.1 s1.2.2.2.1)),(9,.own 3 1 (mB s1.2.2.2.2))]⟩ ?_ ?_
  ·refine rg ?_;have ⟨c1,Δ,ax⟩:=κ ax;refine Br.ite Δ (fun hb Δ=>?_) fun hb Δ=>?_
   ·refine ⟨_,ay _,fun _=>⟨_,rfl,_,ay _,fun _=>?_⟩⟩;cases Δ;cases ax;exact wt Q4 J2 rfl
   cases Δ;cases ax;exact wt Q4 J2 rfl
  refine ct ζ (fun hb ζ=>?_) fun hb ζ=>?_
  ·refine sk (bl (sg ?_));have ⟨x1,Ξ,ζ⟩:=κ ζ;refine af.ez (id:=1000) (qt Ξ) rfl (.box lz) rfl (.cons (Lr.b) (.cons (Lr.dG rfl) .nil)) ?_;rintro _ _ ⟨rfl,rfl⟩;refine ⟨_,rfl,?_⟩;refine sq ?_;have ⟨v3,eb,ζ⟩:=κ ζ;refine Ok.bh ⟨ar [(0,.b 1000 0),(5,.o 9),(6,.b 6 0),(35,vb v3)],[(1000,.box (b5 x1.2)),(9,.own 3 1 (mB s1.2.2.2.2)),(6,.box (b4 x1.1.1))]⟩ ?_ ?_
   ·refine rg ?_;have ⟨c2,aI,eb⟩:=κ eb;refine Br.dV aI (fun hb aI=>?_) fun hb aI=>?_
    ·cases aI;cases eb;exact wt Q4 J3 rfl
    refine ⟨_,rfl,?_⟩;cases aI;cases eb;exact wt Q4 J3 rfl
   refine ct ζ (fun hb ζ=>?_) fun hb ζ=>?_
   ·refine sg (rt ?_);have ζ:=bx ζ aP;cases ζ;exact ⟨_,_,⟨rfl,rfl⟩,rfl,rfl,Fz.o rfl⟩
   refine sk (sg ?_);refine ⟨_,rfl,?_⟩;refine rg ?_;have ⟨aw,ζ⟩:=aG ζ;refine θ ⟨g_ (f:=Go.Cat.encI) (n:=1) (fun _=>rfl) ([x1.1.1.Up]),ix (f:=Go.Cat.encI) (l:=s1.2.2.2.2) (l':=[x1.1.1.Up]) aw,_,(fo (f:=Go.Cat.encI) (l₁:=s1.2.2.2.2) (l₂:=[x1.1.1.Up])).symm,?_⟩;exact ⟨_,sj ζ,wt Q3 J2 rfl⟩
  refine xt ?_;have ζ:=bx ζ aP;exact ⟨_,ζ,wt Q1 ⟨⟨_,rfl,.refl _⟩,⟨_,rfl,.refl _⟩,Q0⟩ rfl⟩
 intro v1 h;unfold Kv at h;refine sg (rt ?_);cases h;exact ⟨_,_,⟨rfl,rfl⟩,rfl,rfl,Fz.o rfl⟩
def Yw {self a r} (h:CE self a=some r):mr prog 229 [.b 1000 0,vi a] (.box (b5 self)) (fun x c=>x=(vi r.1)∧c=.box (b5 r.2)):=by
 refine qk (n:=10) (c:=f229.body.getD .skip) tok func229 (by kernel_rfl) rfl rfl nb ?_;unfold CE at h;refine sg (sg ?_);have ⟨x1,Ξ,h⟩:=κ h;refine af.ez (id:=1000) (Qt Ξ) rfl (.box lz) rfl (.cons (Lr.b) (.cons (Lr.dG rfl) .nil)) ?_;rintro _ _ ⟨rfl,rfl⟩;have ⟨aw,h⟩:=aG h;refine ⟨_,ay _,fun _=>(θ ⟨aw,?_⟩)⟩;refine rt ?_;cases h;exact ⟨_,_,⟨rfl,rfl⟩,rfl,rfl,Fz.v⟩
def Yx {self a d r} (h:CG self a d=some r):mr prog 166 [.b 1000 0,vi a,vs d] (.box (b5 self)) (fun x c=>x=(vi r.1)∧c=.box (b5 r.2)):=by
 refine qk (n:=48) (c:=f166.body.getD .skip) tok func166 (by kernel_rfl) rfl rfl nb ?_;unfold CG at h;refine sg (sg ?_);have ⟨x1,Ξ,h⟩:=κ h;refine af.ez (id:=1000) (KG Ξ) rfl (.box lz) rfl (.cons (Lr.b) (.cons (Lr.dG rfl) .nil)) ?_;rintro _ _ ⟨rfl,rfl⟩;refine ⟨_,rfl,?_⟩;refine sq (sg ?_);refine ct h (fun hb h=>?_) fun hb h=>?_
 ·refine sg (rt ?_);cases h;exact ⟨_,_,⟨rfl,rfl⟩,rfl,rfl,Fz.v⟩
 refine sk (sq (sg ?_));have ⟨x2,au,h⟩:=κ h;refine af.call (KD au) lz ?_;refine ct h (fun hb h=>?_) fun hb h=>?_
 ·refine sg (rt ?_);cases h;exact ⟨_,_,⟨rfl,rfl⟩,rfl,rfl,Fz.v⟩
 refine sk (sq (sg ?_));have ⟨x3,aL,h⟩:=κ h;refine ⟨_,rfl,?_⟩;refine af.call (CR aL) lz ?_;refine sg (ct h (fun hb h=>?_) fun hb h=>?_)
 ·refine sg (rt ?_);cases h;exact ⟨_,_,⟨rfl,rfl⟩,rfl,rfl,Fz.v⟩
 refine sk (sq ?_);have ⟨v1,ν,h⟩:=κ h;refine Ok.bh ⟨ar [(47,vb v1.1)],[(1000,.box (k0 v1.2.1 v1.2.2.1 v1.2.2.2))]⟩ ?_ ?_
 ·refine rg ⟨_,rfl,_,ay _,fun _=>?_⟩;have ⟨c1,Δ,ν⟩:=κ ν;refine Br.dV Δ (fun hb Δ=>?_) fun hb Δ=>?_
  ·cases Δ;have ⟨c2,aI,ν⟩:=κ ν;replace aI:=ee aI;cases aI;cases ν;exact wt Q1 J1 rfl
  have ⟨x4,bu,Δ⟩:=κ Δ;refine af.ez (id:=1000) (Yw bu) rfl (.box lz) rfl (.cons (Lr.b) (.cons (Lr.dG rfl) .nil)) ?_;rintro _ _ ⟨rfl,rfl⟩;cases Δ;have ⟨c2,aX,ν⟩:=κ ν;refine Br.dV aX (fun hb aX=>?_) fun hb aX=>?_
  ·cases aX;cases ν;exact wt Q1 J1 rfl
  refine ⟨_,rfl,?_⟩;cases aX;cases ν;exact wt Q1 J1 rfl
 refine ct h (fun hb h=>?_) fun hb h=>?_
 ·refine sg (rt ?_);cases h;exact ⟨_,_,⟨rfl,rfl⟩,rfl,rfl,Fz.v⟩
 refine sk (sg ?_);refine rt ?_;cases h;exact ⟨_,_,⟨rfl,rfl⟩,rfl,rfl,Fz.v⟩
end Go.Proofs
