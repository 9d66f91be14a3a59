/- The walks of this seat beside the plain programs, part 0. No condition. -/
import Derived.Test.YtdcgbodbejgliaaGreatDoorXTopPacksHb
open List renaming length_map → ax, map → aT, map_append → eI
open Nat renaming lt_of_le_of_lt → gB, le_of_eq → kE
open Or renaming inl → ψ, inr → bV
namespace Go.Proofs
set_option linter.all false
open Go Go.Cat Tryz
variable [M:cM]
set_option maxRecDepth 100000
set_option maxHeartbeats 4000000
def sg [R:eE] {n:Nat} {st:ah} {Q:Exit→ah→Prop} {id:Nat} {ops:Array Oper} {y:Code} (h:iW prog (lk tl) n ops ops.toList st (nx prog n y Q .normal)):Ok prog n (.seq (.region id ops false) y) st Q:=Sg tok h
def rg [R:eE] {n:Nat} {st:ah} {Q:Exit→ah→Prop} {id:Nat} {ops:Array Oper} (h:iW prog (lk tl) n ops ops.toList st (Q .normal)):Ok prog n (.region id ops false) st Q:=Ok.region tok h
abbrev mI:=aT dv
abbrev mU:=aT dD
abbrev mA:=aT qV
abbrev mB:=aT Go.Cat.encI
abbrev mC:=aT sx
abbrev mD:=aT mN
abbrev mE:=aT p_
abbrev mF:=aT j8
abbrev mG:=aT kL
abbrev mH:=aT Du
abbrev zs:AV:=.v (.slice none 0 0)
abbrev k0 (a:List ξ) (b:Int) (c:Int):List AV:=[.s (mI a),vi b,vi c]
abbrev k1 (a:Int) (b:Int):List AV:=[zs,vi a,vi b]
abbrev k2 (a:List ξ) (b:Int) (c:Int) (d:Int) (e:List Int) (f:List bp) (g:List bb) (i:Int):List AV:=[.s (mI a),vi b,vi c,vi d,.s (mB e),.s (mC f),.s (mA g),vi i]
abbrev k3 (a:Int) (b:Int) (c:Int) (d:Int):List AV:=[zs,vi a,vi b,vi c,zs,zs,zs,vi d]
abbrev k4 (a:List ξ) (b:Int) (c:Int) (d:Int) (e:List Int) (f:Int):List AV:=[.s (mI a),vi b,vi c,vi d,.s (mB e),zs,zs,vi f]
abbrev k5 (a:List ξ) (b:Int) (c:Int) (d:Int) (e:List Int) (f:List bp) (g:List bb) (i:Int) (j:List ay) (k:List aA):List AV:=[.s (mI a),vi b,vi c,vi d,.s (mB e),.s (mC f),.s (mA g),vi i,.s (mE j),.s (mD k)]
abbrev k6 (a:Int) (b:Int) (c:Int) (d:Int):List AV:=[zs,vi a,vi b,vi c,zs,zs,zs,vi d,zs,zs]
abbrev k7 (a:List ξ) (b:Int) (c:Int) (d:Int) (e:List Int) (f:List bp) (g:List bb) (i:Int):List AV:=[.s (mI a),vi b,vi c,vi d,.s (mB e),.s (mC f),.s (mA g),vi i,zs,zs]
abbrev k8 (a:Int) (b:Int) (c:Int) (d:List UInt8) (e:List aP) (f:Int):List AV:=[vi a,vi b,vi c,.s (mU d),.s (mF e),vi f]
abbrev k9 (a:Int) (b:Int) (c:Int) (d:Int):List AV:=[vi a,vi b,vi c,zs,zs,vi d]
abbrev k10 (a:List UInt8) (b:Int) (c:Int):List AV:=[vs a,vi b,vi c]
abbrev cV (a:List ξ) (b:Int) (c:Int) (d:Int) (e:List Int) (f:List bp) (g:List bb) (i:Int) (j:List ay) (k:List aA) (l:Int) (o:Int) (s:List UInt8) (t:List UInt8) (u:Int) (w:Int) (z:Int) (y:List UInt8) (A:Int) (B:Int) (C:Int) (D:Int) (E:Int):List AV:=[.s (mI a),vi b,vi c,vi d,.s (mB e),.s (mC f),.s (mA g),vi i,.s (mE j),.s (mD k),vi l,vi o,vs s,vs t,vi u,vi w,vi z,.s (mU y),vi A,vi B,vi C,vi D,vi E,zs,zs]
abbrev k12 (a:List UInt8) (b:List UInt8) (c:Int):List AV:=[vs a,vs b,vi c]
abbrev Jg (a:Int) (b:Int) (c:Int):List AV:=[vi a,vi b,vi c]
abbrev k14 (a:List bb) (b:Int) (c:Int):List AV:=[.s (mA a),vi b,vi c]
abbrev k15 (a:List aP) (b:Int) (c:Int):List AV:=[.s (mF a),vi b,vi c]
abbrev k16 (a:List ξ) (b:Int) (c:Int) (d:Int) (e:List Int) (f:List bp) (g:List bb) (i:Int) (j:List ay) (k:List aA) (l:Int) (o:Int) (s:List UInt8) (t:List UInt8) (u:Int) (w:Int) (z:Int) (y:List UInt8) (A:Int) (B:Int) (C:Int) (D:Int) (E:Int) (F:List (List UInt8)):List AV:=[.s (mI a),vi b,vi c,vi d,.s (mB e),.s (mC f),.s (mA g),vi i,.s (mE j),.s (mD k),vi l,vi o,vs s,vs t,vi u,vi w,vi z,.s (mU y),vi A,vi B,vi C,vi D,vi E,.s (mG F),zs]
abbrev k17 (a:List ay) (b:Int) (c:Int):List AV:=[.s (mE a),vi b,vi c]
abbrev k18 (a:List ξ) (b:Int) (c:Int) (d:Int) (e:List Int) (f:List bp) (g:List bb) (i:Int) (j:List ay) (k:List aA) (l:Int) (o:Int) (s:List UInt8) (t:List UInt8) (u:Int) (w:Int) (z:Int) (y:List UInt8) (A:Int) (B:Int) (C:Int) (D:Int) (E:Int) (F:List UInt8):List AV:=[.s (mI a),vi b,vi c,vi d,.s (mB e),.s (mC f),.s (mA g),vi i,.s (mE j),.s (mD k),vi l,vi o,vs s,vs t,vi u,vi w,vi z,.s (mU y),vi A,vi B,vi C,vi D,vi E,zs,.s (mU F)]
abbrev k19 (a:Int) (b:Int) (c:Int) (d:Int) (e:Int) (f:List UInt8) (g:List aP) (i:Int):List AV:=[vi a,vi b,vi c,vi d,vi e,.s (mU f),.s (mF g),vi i]
abbrev k20 (a:Int) (b:List ξ) (c:Int):List AV:=[vi a,.s (mI b),vi c]
abbrev VR (a:List ξ) (b:Int) (c:Int) (d:Int) (e:List Int) (f:List bp) (g:List bb) (i:Int) (j:List ay) (k:List aA) (l:Int) (o:Int) (s:List UInt8) (t:List UInt8) (u:Int) (w:Int) (z:Int) (y:List UInt8) (A:Int) (B:Int) (C:Int) (D:Int) (E:Int) (F:List (List UInt8)) (G:List UInt8):List AV:=[.s (mI a),vi b,vi c,vi d,.s (mB e),.s (mC f),.s (mA g),vi i,.s (mE j),.s (mD k),vi l,vi o,vs s,vs t,vi u,vi w,vi z,.s (mU y),vi A,vi B,vi C,vi D,vi E,.s (mG F),.s (mU G)]
abbrev k22 (a:Int) (b:Int) (c:List UInt8) (d:List UInt8) (e:Int) (f:Int) (g:Int) (i:List UInt8):List AV:=[vi a,vi b,vs c,vs d,vi e,vi f,vi g,.s (mU i)]
abbrev s_ (a:Int) (b:Int) (c:Int) (d:Int) (e:Int) (f:List (List UInt8)) (g:List UInt8):List AV:=[vi a,vi b,vi c,vi d,vi e,.s (mG f),.s (mU g)]
abbrev iw (a:Int) (b:Int) (c:Int) (d:Int) (e:Int):List AV:=[vi a,vi b,vi c,vi d,vi e,zs,zs]
abbrev VS (a:Int) (b:List UInt8) (c:Int):List AV:=[vi a,.s (mU b),vi c]
abbrev VT (a:Int) (b:Int) (c:List UInt8) (d:List UInt8) (e:Int) (f:Int) (g:Int):List AV:=[vi a,vi b,vs c,vs d,vi e,vi f,vi g,zs]
abbrev b0 (x:θ):List AV:=k0 x.η x.Next x.aj
abbrev b1 (x:bx):List AV:=k2 x.Γ.η x.Γ.Next x.Γ.aj x.aY x.aU x.aO x.aR x.Next
abbrev b2 (x:dh):List AV:=k5 x.S.Γ.η x.S.Γ.Next x.S.Γ.aj x.S.aY x.S.aU x.S.aO x.S.aR x.S.Next x.Holds x.bc
abbrev b3 (x:bx):List AV:=k7 x.Γ.η x.Γ.Next x.Γ.aj x.aY x.aU x.aO x.aR x.Next
abbrev b4 (x:ξ):List AV:=k8 x.κ x.τ x.a_ x.az x.Ω x.Up
abbrev b5 (x:dj):List AV:=k0 x.Tree.η x.Tree.Next x.Tree.aj
abbrev b6 (x:aP):List AV:=k10 x.aN x.κ x.aj
abbrev b7 (x:ay):List AV:=Jg x.aW x.bY x.κ
abbrev b8 (x:aA):List AV:=Jg x.κ x.η x.vN
abbrev b9 (x:bb):List AV:=Jg x.Id x.κ x.At
abbrev Hv (x:bp):List AV:=k19 x.kG x.iA x.eL.κ x.eL.τ x.eL.a_ x.eL.az x.eL.Ω x.eL.Up
abbrev vT (x:bN):List AV:=k22 x.τ x.aW x.cF x.To x.N x.M x.bY x.az
abbrev ju (x:dg):List AV:=s_ x.sf x.κ x.τ x.N x.M x.da x.az
abbrev AH (x:dh):List AV:=k2 x.S.Γ.η x.S.Γ.Next x.S.Γ.aj x.S.aY x.S.aU x.S.aO x.S.aR x.S.Next
abbrev Ss (x:dh):List AV:=k0 x.S.Γ.η x.S.Γ.Next x.S.Γ.aj
abbrev t8 {A B C D E F G H I:Type} (x:A×B×C×D×E×F×G×H×I):I:=x.2.2.2.2.2.2.2.2
abbrev t5 {A B C D E I:Type} (x:A×B×C×D×E×I):I:=x.2.2.2.2.2
def nb {a b:Nat} (h:Nat.ble a b=true:=by rfl):a≤b:=Nat.le_of_ble_eq_true h
def aj2 {r} (h:KW=some r):Pure prog 31 [] (.a (b0 r)):=by
 refine pq tok 4 func31 ?_;unfold KW at h;refine sg (sg (ψ ⟨_,rfl,?_⟩));refine rt ?_;cases h;exact ⟨_,rfl,Fz.dL rfl⟩
def aju {c r} (h:Km c=some r):Pure prog 30 [.a (b0 c)] (.a (b1 r)):=by
 refine pq tok 9 func30 ?_;unfold Km at h;refine sg (sq (dw 6 tok mixed ?_));have ⟨ar,h⟩:=aC h;refine ⟨_,⟨_,rfl,rfl⟩,_,rfl,_,⟨_,rfl,rfl⟩,_,⟨_,ax _,fun _=>rfl⟩,_,⟨_,_,Wa ar,Wa ar,Nat.le_refl _,mk_le (by decide) ar,ar.2,_,(List.map_replicate (f:=Go.Cat.encI) (a:=(0:Int))).symm,rfl⟩,_,rfl,Q0,_,rfl,?_⟩;refine rt ?_;cases h;exact ⟨_,rfl,Fz.a (.cons Fz.s (.cons Fz.v (.cons Fz.v (.cons Fz.v (.cons Fz.s (.cons Fz.nil (.cons Fz.nil fq)))))))⟩
def QX {r} (h:yu=some r):Pure prog 13 [] (.a (b2 r)):=by
 refine pq tok 4 func13 ?_;unfold yu at h;refine sg (sg ?_);have ⟨x1,Θ,h⟩:=ι h;refine ae.call (aj2 Θ) lz ?_;have ⟨x2,ak,h⟩:=ι h;refine ae.call (aju ak) lz ?_;refine ⟨_,rfl,?_⟩;refine rt ?_;cases h;exact ⟨_,rfl,Fz.a (.cons Fz.s (.cons Fz.v (.cons Fz.v (.cons Fz.v (.cons Fz.s (.cons Fz.s (.cons Fz.s (.cons Fz.v (.cons Fz.nil (.cons Fz.nil .nil))))))))))⟩
def GN {r} (h:D8=some r):ae prog 28 [] ⟨aG,[]⟩ fun x s=>x=(.m 1)∧s.H=[(1,.mp false (aT (fun p=>(p.1,gS p.2)) tX))]:=by
 refine pg tok 3 func28 ?_;unfold D8 at h;refine sg (sg ?_);have ⟨ar,h⟩:=aC h;have ⟨bu,h⟩:=aC h;have ⟨dU,h⟩:=aC h;have ⟨kT,h⟩:=aC h;have ⟨qh,h⟩:=aC h;have ⟨Em,h⟩:=aC h;have ⟨Ul,h⟩:=aC h;have ⟨Um,h⟩:=aC h;have ⟨Un,h⟩:=aC h;have ⟨Uc,h⟩:=aC h;have ⟨Ud,h⟩:=aC h;have ⟨Ue,h⟩:=aC h;have ⟨Uf,h⟩:=aC h;have ⟨Ug,h⟩:=aC h;have ⟨Uh,h⟩:=aC h;have ⟨Ui,h⟩:=aC h;have ⟨Uj,h⟩:=aC h;refine ⟨ar.1,gB (Nat.le_refl _) ar.2,_,iJ gS (1) 62 ([]:List (Int×Int)),bu.1,gB (kE (ax _)) bu.2,_,iJ gS (2) 63 u1,dU.1,gB (kE (ax _)) dU.2,_,iJ gS (3) 64 u2,kT.1,gB (kE (ax _)) kT.2,_,iJ gS (4) 65 u3,qh.1,gB (kE (ax _)) qh.2,_,iJ gS (5) 66 u4,Em.1,gB (kE (ax _)) Em.2,_,iJ gS (6) 67 u5,Ul.1,gB (kE (ax _)) Ul.2,_,iJ gS (7) 68 u6,Um.1,gB (kE (ax _)) Um.2,_,iJ gS (8) 69 u7,Un.1,gB (kE (ax _)) Un.2,_,iJ gS (9) 70 u8,Uc.1,gB (kE (ax _)) Uc.2,_,iJ gS (10) 71 u9,Ud.1,gB (kE (ax _)) Ud.2,_,iJ gS (11) 72 QE,Ue.1,gB (kE (ax _)) Ue.2,_,iJ gS (12) 73 QF,Uf.1,gB (kE (ax _)) Uf.2,_,iJ gS (13) 74 QG,Ug.1,gB (kE (ax _)) Ug.2,_,iJ gS (14) 75 QH,Uh.1,gB (kE (ax _)) Uh.2,_,iJ gS (15) 76 QI,Ui.1,gB (kE (ax _)) Ui.2,_,iJ gS (16) 77 QJ,Uj.1,gB (kE (ax _)) Uj.2,_,iJ gS (17) 78 u16,?_⟩
 refine rt ?_;cases h;exact wt Q1 J1 rfl
def kz {a} {q:Int⊕Unit} (h:iu a=some q):fM prog bf 79 [vi a] ⟨aG,[]⟩ (fun x s=>∃y:Unit,q=.inr y∧x=(.t [])∧s.H=[]) fun m s=>q=.inl m∧s.H=[]:=by
 refine px tok 6 func79 ?_;unfold iu at h;refine sg (ct h (fun hb h=>?_) fun hb h=>?_)
 ·refine Ok.cY bf tok (ψ (bV (bV ⟨rfl,?_⟩)));cases h;exact ⟨_,rfl,rfl⟩
 refine sk ?_;cases h;exact ⟨_,rfl,wt Q1 Q0 rfl⟩
def pV {a b} {q:Int⊕Unit} (h:pr a b=some q):fM prog bf 29 [vb a,vi b] ⟨aG,[]⟩ (fun x s=>∃y:Unit,q=.inr y∧x=(.t [])∧s.H=[]) fun m s=>q=.inl m∧s.H=[]:=by
 refine px tok 8 func29 ?_;unfold pr at h;refine sg (ct h (fun hb h=>?_) fun hb h=>?_)
 ·refine Ok.cY bf tok ?_;have ⟨x1,Θ,h⟩:=ι h;refine ψ (bV (cx [] [] (kz Θ) nq Q0 (fun e1 bE=>?_) (fun y1 c_=>?_)))
  ·have h:=cu h bE;cases h;exact ⟨_,rfl,rfl⟩
  have h:=cw h c_;cases h;exact ⟨_,rfl,wt Q1 Q0 rfl⟩
 refine sk ?_;cases h;exact ⟨_,rfl,wt Q1 Q0 rfl⟩
def akp {a r} (h:Ju a=some r):ae prog 216 [vs a] ⟨aG,[]⟩ fun x s=>x=(.c (.func 264) [] [.b 1 0])∧s.H=[(1,.box [vs a])]:=by
 refine pg tok 4 func216 ?_;unfold Ju at h;refine sg (sg (rt ?_));cases h;exact wt Q1 J1 rfl
def ai_ {a b r} (h:Jd a b=some r):Pure prog 317 [vs a,vs b] (vb r):=by
 refine pq tok 18 func317 ?_;unfold Jd at h;refine sg ?_;have ⟨v1,ν,h⟩:=ι h;refine Ok.bg ⟨aq [(4,vb v1)],[]⟩ ?_ ?_
 ·refine rg ⟨_,oT _,_,oT _,?_⟩;have ⟨c1,Δ,ν⟩:=ι ν;refine Br.ite Δ (fun hb Δ=>?_) fun hb Δ=>?_
  ·have ⟨ar,Δ⟩:=aC Δ;refine ⟨_,oT _,_,lq (P1 ar),KQ ar,KR ar,_,KS ar,_,tT _ _,?_⟩;cases Δ;cases ν;exact wt Q1 Q0 rfl
  cases Δ;cases ν;exact wt Q1 Q0 rfl
 refine rt ?_;cases h;exact Fz.v
def ai9 {a b r} (h:Jc a b=some r):Pure prog 294 [vs a,vs b] (.t [vs r.1,vb r.2]):=by
 refine pq tok 15 func294 ?_;unfold Jc at h;refine sg (sq (sg ?_));have ⟨x1,Θ,h⟩:=ι h;refine ae.call (ai_ Θ) lz ?_;refine ct h (fun hb h=>?_) fun hb h=>?_
 ·refine sg (rt ?_);cases h;exact (Fz.t fq)
 refine sk (sg ?_);have ⟨ar,h⟩:=aC h;refine ⟨_,oT _,_,lq ar.1,KQ ar,KR ar,_,KS ar,?_⟩;refine rt ?_;cases h;exact (Fz.t fq)
def ajT {a b r} (h:Gu a b=some r):Pure prog 265 [vs a,vs b] (.t [vs r.1,vb r.2]):=by
 refine pq tok 11 func265 ?_;unfold Gu at h;refine sg (sg ?_);have ⟨x1,Θ,h⟩:=ι h;refine ae.call (ai9 Θ) lz ?_;refine rt ?_;cases h;exact (Fz.t fq)
def K9 {a r} (h:w_ a=some r):Pure prog 183 [vs a] (vb r):=by
 refine pq tok 31 func183 ?_;unfold w_ at h;refine sg (sq ?_);have ⟨v1,ν,h⟩:=ι h;refine Ok.bg ⟨aq [(0,vs a),(19,vb v1)],[]⟩ ?_ ?_
 ·refine rg ⟨_,tT _ _,?_⟩;have ⟨c1,Δ,ν⟩:=ι ν;refine Br.eh Δ (fun hb Δ=>?_) fun hb Δ=>?_
  ·cases Δ;have ⟨c2,aF,ν⟩:=ι ν;replace aF:=ee aF;cases aF;have ⟨c3,aM,ν⟩:=ι ν;replace aM:=ee aM;cases aM;cases ν;exact wt Q2 Q0 rfl
  refine ⟨_,oT _,?_⟩;cases Δ;have ⟨c2,cC,ν⟩:=ι ν;refine Br.eh cC (fun hb cC=>?_) fun hb cC=>?_
  ·cases cC;have ⟨c3,cU,ν⟩:=ι ν;replace cU:=ee cU;cases cU;cases ν;exact wt Q2 Q0 rfl
  refine ⟨_,tT _ _,?_⟩;cases cC;have ⟨c3,dA,ν⟩:=ι ν;refine Br.eh dA (fun hb dA=>?_) fun hb dA=>?_
  ·cases dA;cases ν;exact wt Q2 Q0 rfl
  refine ⟨_,tT _ _,?_⟩;cases dA;cases ν;exact wt Q2 Q0 rfl
 refine ct h (fun hb h=>?_) fun hb h=>?_
 ·refine sg (rt ?_);cases h;exact Fz.v
 refine sk (Ok.eC (fun v2=>⟨aq [],[]⟩) (fun v2=>Jt v2=some r) ?_ ?_)
 ·refine sg (bl (Ok.loop (fun (s1:Nat)=>⟨aq [(21,.b 21 0)],[(21,.si ⟨a.toArray⟩ s1)]⟩) (Js a) (s0:=0) h (wt Q1 ⟨hr,Q0⟩ rfl) ?_));intro s1 y1 ζ aL;unfold Js at ζ;refine sg (aeY ζ (fun ζ=>?_) fun ζ=>?_)
  ·refine sq (Ok.aa0 rfl ?_);refine sk (bl (sg ?_));have ⟨v3,dy,ζ⟩:=ι ζ;refine Ok.bg ⟨aq [(21,.b 21 0),(30,vb v3)],[(21,.si ⟨a.toArray⟩ (s1+(pc a s1).2))]⟩ ?_ ?_
   ·refine rg ?_;have ⟨c4,et,dy⟩:=ι dy;refine Br.eh et (fun hb et=>?_) fun hb et=>?_
    ·cases et;cases dy;exact wt Q2 J1 rfl
    cases et;cases dy;exact wt Q2 J1 rfl
   refine ct ζ (fun hb ζ=>?_) fun hb ζ=>?_
   ·refine sg (rt ?_);have ζ:=bd ζ aL;cases ζ;exact Fz.v
   refine sk ?_;exact ⟨_,sj ζ,wt Q1 J1 rfl⟩
  refine sq (Ok.aaZ rfl ?_);refine xt ?_;have ζ:=bd ζ aL;exact ⟨_,ζ,wt Q0 Q0 rfl⟩
 intro v2 h;unfold Jt at h;refine sg (rt ?_);cases h;exact Fz.v
def ako {l:Nat} {a:List UInt8} {g:Bool} {e:Int} {c:List (List UInt8)} {r:LS×Int×(List (List UInt8))} (h:BN a g e c=some r):ae prog (.y l) [vs a,vb g] ⟨aG,(1000,.lp l .iK zV [(2,(.b 1001 0)),(3,(.b 1002 0)),(4,(.b 1003 0))])::[(1001,.box [zs]),(1002,.box [vi e]),(1003,.box [.o 1004]),(1004,.own 9 1 (mG c))]⟩ fun x s=>x=.v (.bool (LS.wZ r.1))∧s.H=(1000,.lp l r.1 zV [(2,(.b 1001 0)),(3,(.b 1002 0)),(4,(.b 1003 0))])::[(1001,.box [zs]),(1002,.box [vi r.2.1]),(1003,.box [.o 999]),(999,.own 9 1 (mG r.2.2))]:=by
 letI:eE:=eE.yes
 refine akX (e0:=r.1) (H1:=[(1001,.box [zs]),(1002,.box [vi r.2.1]),(1003,.box [.o 999]),(999,.own 9 1 (mG r.2.2))]) (by kernel_rfl) (by kernel_rfl) rfl rfl rfl ?_;unfold BN at h;refine sg (rg (bl (sq ?_)));have ⟨v1,ν,h⟩:=ι h;refine Ok.bg ⟨aq [(2,.b 1001 0),(3,.b 1002 0),(4,.b 1003 0),(5,vs a),(24,vb v1)],[(1001,.box [zs]),(1002,.box [vi e]),(1003,.box [.o 1004]),(1004,.own 9 1 (mG c))]⟩ ?_ ?_
 ·refine rg ?_;have ⟨c1,Δ,ν⟩:=ι ν;refine Br.eh Δ (fun hb Δ=>?_) fun hb Δ=>?_
  ·cases Δ;have ⟨c2,aF,ν⟩:=ι ν;replace aF:=ee aF;cases aF;cases ν;exact wt Q5 J4 rfl
  have ⟨x1,Θ,Δ⟩:=ι Δ;refine ae.call (K9 Θ) lz ?_;cases Δ;have ⟨c2,aM,ν⟩:=ι ν;refine Br.eh aM (fun hb aM=>?_) fun hb aM=>?_
  ·cases aM;cases ν;exact wt Q5 J4 rfl
  refine ⟨_,rfl,_,ax _,fun _=>?_⟩;cases aM;cases ν;exact wt Q5 J4 rfl
 refine ct h (fun hb h=>?_) fun hb h=>?_
 ·refine sg ⟨_,rfl,_,rfl,?_⟩;refine rt ?_;cases h;exact ⟨rfl,(Wk.mv (i:=1004) (d:=999) rfl rfl rfl).trans (wt Q0 ⟨hr,hr,hr,hr,Q0⟩ rfl)⟩
 refine sk (Ok.wk (Wk.mv (i:=1004) (d:=999) rfl rfl rfl) ?_);refine rg ?_;have ⟨ar,h⟩:=aC h;refine ⟨_,rfl,ψ ⟨gy (f:=kL) (n:=1) (fun _=>rfl) ([a]),gQ (f:=kL) (l:=c) (l':=[a]) ar,_,(eI (f:=kL) (l₁:=c) (l₂:=[a])).symm,_,rfl,?_⟩⟩;cases h;exact ⟨rfl,wt Q0 ⟨hr,hr,hr,hr,Q0⟩ rfl⟩
def akq {l:Nat} {a:Int} {d:List UInt8} {r:LS×Int×(List UInt8)×(List (List UInt8))} (h:Jv a d=some r):ae prog 264 [.c (.yield l) [] [],.b 1004 0] ⟨aG,[(1000,.lp l .iK zV [(2,(.b 1001 0)),(3,(.b 1002 0)),(4,(.b 1003 0))]),(1001,.box [zs]),(1002,.box [vi a]),(1003,.box [zs]),(1004,.box [vs d])]⟩ fun x s=>x=(.t [])∧s.H=[(1000,.lp l r.1 zV [(2,(.b 1001 0)),(3,(.b 1002 0)),(4,(.b 1003 0))]),(1001,.box [zs]),(1002,.box [vi r.2.1]),(1003,.box [.o 999]),(1004,.box [vs r.2.2.1]),(999,.own 9 1 (mG r.2.2.2))]:=by
 refine pg tok 29 func264 ?_;unfold Jv at h;refine bl (Ok.loop (fun (s1:LS×tW)=>⟨aq [(0,.c (.yield l) [] []),(1,.b 1004 0)],[(1000,.lp l s1.1 zV [(2,.b 1001 0),(3,.b 1002 0),(4,.b 1003 0)]),(1001,.box [zs]),(1002,.box [vi s1.2.2.1]),(1003,.box [.o 999]),(999,.own 9 1 (mG s1.2.2.2)),(1004,.box [vs s1.2.1])]⟩) (Jw) (s0:=(.iK,d,a,[])) h ((Wk.Fh (b:=1003) (q:=0) (id:=999) (E:=9) (K:=1) rfl rfl rfl).trans (wt Q2 ⟨⟨_,rfl,.refl _⟩,⟨_,rfl,.refl _⟩,⟨_,rfl,.refl _⟩,⟨_,rfl,.refl _⟩,⟨_,rfl,.refl _⟩,⟨_,rfl,.refl _⟩,Q0⟩ rfl)) ?_);intro s1 y1 ζ aL;unfold Jw at ζ;refine sq (sg ?_);refine ⟨_,rfl,_,KP _ _,?_⟩;refine ct ζ (fun hb ζ=>?_) fun hb ζ=>?_
 ·refine sk (bl (sg ?_));have ⟨x1,Θ,ζ⟩:=ι ζ;refine ⟨_,rfl,?_⟩;refine ae.call (ajT Θ) lz ?_;refine sg (ae.call (adO x1.1 (47)) lz ?_);have ⟨v1,ν,ζ⟩:=ι ζ;refine Ok.bg ⟨aq [(0,.c (.yield l) [] []),(1,.b 1004 0),(3,vs x1.1),(4,vb x1.2),(5,vi v1)],[(1000,.lp l s1.1 zV [(2,.b 1001 0),(3,.b 1002 0),(4,.b 1003 0)]),(1001,.box [zs]),(1002,.box [vi s1.2.2.1]),(1003,.box [.o 999]),(999,.own 9 1 (mG s1.2.2.2)),(1004,.box [vs s1.2.1])]⟩ ?_ ?_
  ·refine sg (ct ν (fun hb ν=>?_) fun hb ν=>?_)
   ·refine rg ⟨_,oT _,?_⟩;cases ν;exact wt Q5 ⟨hr,hr,J4⟩ rfl
   refine sk ?_;cases ν;exact wt Q5 ⟨hr,hr,J4⟩ rfl
  refine sq (sg ?_);have ⟨ar,ζ⟩:=aC ζ;have ⟨bu,ζ⟩:=aC ζ;have ⟨x2,ak,ζ⟩:=ι ζ;refine ⟨_,lq (P1 ar),KQ ar,KR ar,_,KS ar,?_⟩;refine cg [(1000,1000),(1001,1001),(1002,1002),(1003,1003),(1004,999)] [(999,999)] (ako ak) nq ⟨⟨1000,_,rfl,rfl,.lp bu ⟨rfl,Ln.b rfl,rfl,Ln.b rfl,rfl,Ln.b rfl,Q0⟩⟩,⟨1001,_,rfl,rfl,.box nq⟩,⟨1002,_,rfl,rfl,.box nq⟩,⟨1003,_,rfl,rfl,.box (.cons (Ln.o rfl) .nil)⟩,⟨999,_,rfl,rfl,.refl rfl⟩,Q0⟩ ?_;refine ct ζ (fun hb ζ=>?_) fun hb ζ=>?_
  ·refine rt ?_;have ζ:=bd ζ aL;cases ζ;exact wt Q1 ⟨hr,hr,J4⟩ rfl
  refine sk (rg ?_);have ⟨dU,ζ⟩:=aC ζ;refine ⟨_,lq dU.1,KQ dU,KR dU,_,KS dU,_,rfl,?_⟩;exact ⟨_,sj ζ,wt Q2 ⟨hr,hr,J4⟩ rfl⟩
 refine xt ?_;have ζ:=bd ζ aL;cases ζ;exact wt Q1 ⟨hr,hr,J4⟩ rfl
def Q9 {a r} (h:zH a=some r):Pure prog 133 [vs a] (.t [.s (mG r.1),vi r.2]):=by
 refine pq tok 33 func133 ?_;unfold zH at h;refine sg (sq (sg ?_));refine ⟨_,tT _ _,?_⟩;refine ct h (fun hb h=>?_) fun hb h=>?_
 ·refine sg ⟨_,rfl,_,rfl,?_⟩;refine rt ?_;cases h;exact ⟨_,rfl,_,rfl,Fz.t (.cons Fz.nil fq)⟩
 refine sk (sg ?_);refine sq (sg ?_);have ⟨x1,Θ,h⟩:=ι h;refine cg [] [(1,999)] (akp Θ) nq Q0 ?_;refine bl ?_;have ⟨x2,ak,h⟩:=ι h;refine Ok.rangeFunc (lid:=998) (R0:=zV) (L:=[(2,.b 2 0),(3,.b 3 0),(4,.b 4 0)]) (by kernel_rfl) rfl rfl Q3 (fun l=>cg [(1000,998),(1001,2),(1002,3),(1003,4),(1004,999)] [(999,997)] (akq ak) (.cons (Ln.c .nil .nil) (.cons (Ln.b rfl) .nil)) ⟨⟨998,_,rfl,rfl,.lp rfl ⟨rfl,Ln.b rfl,rfl,Ln.b rfl,rfl,Ln.b rfl,Q0⟩⟩,⟨2,_,rfl,rfl,.box nq⟩,⟨3,_,rfl,rfl,.box nq⟩,⟨4,_,rfl,rfl,.box nq⟩,⟨999,_,rfl,rfl,.box nq⟩,Q0⟩ ⟨_,_,_,rfl,?_⟩);refine agX h (fun h=>?_) (fun h=>?_)
 ·refine sq (sg ?_);refine ⟨_,rfl,_,ax _,fun _=>?_⟩;refine ct h (fun hb h=>?_) fun hb h=>?_
  ·refine sg ⟨_,rfl,_,rfl,?_⟩;refine rt ?_;cases h;exact ⟨_,rfl,_,rfl,Fz.t (.cons Fz.nil fq)⟩
  refine sk (sg ?_);refine ⟨_,rfl,_,rfl,_,rfl,?_⟩;refine rt ?_;cases h;exact ⟨_,rfl,_,rfl,Fz.t (.cons (Fz.o rfl) fq)⟩
 refine agY h (fun h=>?_) (fun h=>?_)
 ·cases h;exact ⟨_,rfl,_,rfl,Fz.t (.cons Fz.nil fq)⟩
 cases h
def YU {a r} (h:cmp_isNaN_int a=some r):Pure prog 247 [vi a] (vb r):=by
 refine pq tok 6 func247 ?_;unfold cmp_isNaN_int at h;refine sg (sg (rt ?_));cases h;exact Fz.v
def Al {a b r} (h:qW a b=some r):Pure prog 194 [vi a,vi b] (vi r):=by
 refine pq tok 20 func194 ?_;unfold qW at h;refine sg (sg ?_);have ⟨x1,Θ,h⟩:=ι h;refine ae.call (YU Θ) lz ?_;refine sg ?_;have ⟨x2,ak,h⟩:=ι h;refine ae.call (YU ak) lz ?_;refine sq (sg ?_);refine ct h (fun hb h=>?_) fun hb h=>?_
 ·refine sq (sg ?_);refine ct h (fun hb h=>?_) fun hb h=>?_
  ·refine sg (rt ?_);cases h;exact Fz.v
  refine sk (sg ?_);refine rt ?_;cases h;exact Fz.v
 refine sk (sq (sg ?_));refine ct h (fun hb h=>?_) fun hb h=>?_
 ·refine sg (rt ?_);cases h;exact Fz.v
 refine sk (sq (sg ?_));refine ct h (fun hb h=>?_) fun hb h=>?_
 ·refine sg (rt ?_);cases h;exact Fz.v
 refine sk (sq (sg ?_));refine ct h (fun hb h=>?_) fun hb h=>?_
 ·refine sg (rt ?_);cases h;exact Fz.v
 refine sk (sg ?_);refine rt ?_;cases h;exact Fz.v
def Zi {c d r} (h:Ah c d=some r):Pure prog 270 [.a (b4 c),vi d] (vi r):=by
 refine pq tok 9 func270 ?_;unfold Ah at h;refine sg (sg ?_);have ⟨x1,Θ,h⟩:=ι h;refine ⟨_,rfl,?_⟩;refine ae.call (Al Θ) lz ?_;refine rt ?_;cases h;exact Fz.v
def ajB {a b r} (h:P5 a b=some r):Pure prog 253 [.s (mI a),vi b,.c (.func 270) [] []] (.t [vi r.1,vb r.2]):=by
 refine pq tok 49 func253 ?_;unfold P5 at h;refine sg (sg ⟨_,ax _,fun _=>?_⟩);refine sg ?_;have ⟨v1,ν,h⟩:=ι h;refine Ok.bg ⟨aq [(0,.s (mI a)),(1,vi b),(2,.c (.func 270) [] []),(8,vi (a.length:Int)),(9,vi v1)],[]⟩ ?_ ?_
 ·refine bl (Ok.loop (fun (s1:Int×Int)=>⟨aq [(0,.s (mI a)),(1,vi b),(2,.c (.func 270) [] []),(8,vi (a.length:Int)),(9,vi s1.1),(10,vi s1.2)],[]⟩) (P6 a b) (s0:=(0,(a.length:Int))) ν (wt Q6 Q0 rfl) ?_);intro s1 y1 ζ aL;unfold P6 at ζ;refine sq (sg ?_);refine ct ζ (fun hb ζ=>?_) fun hb ζ=>?_
  ·refine sk (bl (sg ?_));have ⟨ar,ζ⟩:=aC ζ;refine (ψ ⟨ar,_,rfl,(by decide),_,rfl,_,rfl,?_⟩);refine sg ?_;have ⟨x1,Θ,ζ⟩:=ι ζ;have ⟨x2,ak,ζ⟩:=ι ζ;refine ⟨_,bq Θ,_,br Θ,_,rfl,?_⟩;refine ae.call (Zi ak) lz ?_;refine ct ζ (fun hb ζ=>?_) fun hb ζ=>?_
   ·refine rg ?_;have ⟨bu,ζ⟩:=aC ζ;refine (ψ ⟨bu,?_⟩);exact ⟨_,sj ζ,wt Q6 Q0 rfl⟩
   refine rg ?_;exact ⟨_,sj ζ,wt Q6 Q0 rfl⟩
  refine xt ?_;have ζ:=bd ζ aL;cases ζ;exact wt Q5 Q0 rfl
 have ⟨v2,aw,h⟩:=ι h;refine Ok.bg ⟨aq [(6,vi v1),(7,vb v2)],[]⟩ ?_ ?_
 ·refine rg ?_;have ⟨c1,Δ,aw⟩:=ι aw;refine Br.ite Δ (fun hb Δ=>?_) fun hb Δ=>?_
  ·have ⟨x3,aK,Δ⟩:=ι Δ;have ⟨x4,bn,Δ⟩:=ι Δ;refine ⟨_,bq aK,_,br aK,_,rfl,?_⟩;refine ae.call (Zi bn) lz ?_;cases Δ;cases aw;exact wt Q2 Q0 rfl
  cases Δ;cases aw;exact wt Q2 Q0 rfl
 refine rt ?_;cases h;exact (Fz.t fq)
def La {self a r} (h:tV self a=some r):mz prog 230 [.b 1000 0,vi a] (.box (b5 self)) (fun x c=>x=(.t [vi r.1.1,vb r.1.2])∧c=.box (b5 r.2)):=by
 refine qv (n:=15) (c:=f230.body.getD .skip) tok func230 (by kernel_rfl) rfl rfl nb ?_;unfold tV at h;refine sg (sg ?_);have ⟨x1,Θ,h⟩:=ι h;refine ⟨_,rfl,?_⟩;refine ae.call (ajB Θ) lz ?_;refine rt ?_;cases h;exact ⟨_,_,⟨rfl,rfl⟩,rfl,rfl,Fz.t fq⟩
def qA {self d r} (h:nj self d=some r):mz prog 179 [.b 1000 0,vi d] (.box (b5 self)) (fun x c=>x=(.t [.a (b4 r.1.1),vb r.1.2])∧c=.box (b5 r.2)):=by
 refine qv (n:=25) (c:=f179.body.getD .skip) tok func179 (by kernel_rfl) rfl rfl nb ?_;unfold nj at h;refine sg (sg ?_);have ⟨x1,Θ,h⟩:=ι h;refine ae.dE (id:=1000) (La Θ) rfl (.box lz) rfl (.cons (Lr.b) (.cons (Lr.dL rfl) .nil)) ?_;rintro _ _ ⟨rfl,rfl⟩;refine sq (sg ?_);refine ct h (fun hb h=>?_) fun hb h=>?_
 ·refine sg ⟨_,rfl,?_⟩;refine rt ?_;cases h;exact ⟨_,rfl,_,_,⟨rfl,rfl⟩,rfl,rfl,Fz.t (.cons (Fz.a (.cons Fz.v (.cons Fz.v (.cons Fz.v (.cons Fz.nil (.cons Fz.nil fq)))))) fq)⟩
 refine sk (sg ?_);have ⟨x2,ak,h⟩:=ι h;refine ⟨_,rfl,_,bq ak,_,br ak,_,rfl,_,rfl,?_⟩;refine rt ?_;cases h;exact ⟨_,rfl,_,_,⟨rfl,rfl⟩,rfl,rfl,Fz.t fq⟩
def Lb {self d r} (h:xv self d=some r):mz prog 182 [.b 1000 0,vi d] (.box (b5 self)) (fun x c=>x=(.t [.a (b4 r.1.1),vi r.1.2])∧c=.box (b5 r.2)):=by
 refine qv (n:=24) (c:=f182.body.getD .skip) tok func182 (by kernel_rfl) rfl rfl nb ?_;unfold xv at h;refine sg (sg ?_);have ⟨x1,Θ,h⟩:=ι h;refine ae.dE (id:=1000) (qA Θ) rfl (.box lz) rfl (.cons (Lr.b) (.cons (Lr.dL rfl) .nil)) ?_;rintro _ _ ⟨rfl,rfl⟩;refine ⟨_,rfl,?_⟩;refine bl (sg ?_);refine ct h (fun hb h=>?_) fun hb h=>?_
 ·refine sg ⟨_,rfl,?_⟩;refine rt ?_;cases h;exact ⟨_,rfl,_,_,⟨rfl,rfl⟩,rfl,rfl,Fz.t (.cons (Fz.a (.cons Fz.v (.cons Fz.v (.cons Fz.v (.cons Fz.nil (.cons Fz.nil fq)))))) fq)⟩
 refine sg ⟨_,rfl,?_⟩;refine ct h (fun hb h=>?_) fun hb h=>?_
 ·refine sg ⟨_,rfl,?_⟩;refine rt ?_;cases h;exact ⟨_,rfl,_,_,⟨rfl,rfl⟩,rfl,rfl,Fz.t (.cons (Fz.a (.cons Fz.v (.cons Fz.v (.cons Fz.v (.cons Fz.nil (.cons Fz.nil fq)))))) fq)⟩
 refine sg ⟨_,rfl,_,rfl,?_⟩;refine rt ?_;cases h;exact ⟨_,rfl,_,_,⟨rfl,rfl⟩,rfl,rfl,Fz.t fq⟩
def Zh {c d r} (h:CI c d=some r):Pure prog 240 [.a (b6 c),vs d] (vi r):=by
 refine pq tok 9 func240 ?_;unfold CI at h;refine sg (sg ⟨_,rfl,?_⟩);refine ae.call (adN c.aN d) lz ?_;refine rt ?_;cases h;exact Fz.v
def ajy {a b r} (h:P2 a b=some r):Pure prog 239 [.s (mF a),vs b,.c (.func 240) [] []] (.t [vi r.1,vb r.2]):=by
 refine pq tok 49 func239 ?_;unfold P2 at h;refine sg (sg ⟨_,ax _,fun _=>?_⟩);refine sg ?_;have ⟨v1,ν,h⟩:=ι h;refine Ok.bg ⟨aq [(0,.s (mF a)),(1,vs b),(2,.c (.func 240) [] []),(8,vi (a.length:Int)),(9,vi v1)],[]⟩ ?_ ?_
 ·refine bl (Ok.loop (fun (s1:Int×Int)=>⟨aq [(0,.s (mF a)),(1,vs b),(2,.c (.func 240) [] []),(8,vi (a.length:Int)),(9,vi s1.1),(10,vi s1.2)],[]⟩) (P3 a b) (s0:=(0,(a.length:Int))) ν (wt Q6 Q0 rfl) ?_);intro s1 y1 ζ aL;unfold P3 at ζ;refine sq (sg ?_);refine ct ζ (fun hb ζ=>?_) fun hb ζ=>?_
  ·refine sk (bl (sg ?_));have ⟨ar,ζ⟩:=aC ζ;refine (ψ ⟨ar,_,rfl,(by decide),_,rfl,_,rfl,?_⟩);refine sg ?_;have ⟨x1,Θ,ζ⟩:=ι ζ;have ⟨x2,ak,ζ⟩:=ι ζ;refine ⟨_,bq Θ,_,br Θ,_,rfl,?_⟩;refine ae.call (Zh ak) lz ?_;refine ct ζ (fun hb ζ=>?_) fun hb ζ=>?_
   ·refine rg ?_;have ⟨bu,ζ⟩:=aC ζ;refine (ψ ⟨bu,?_⟩);exact ⟨_,sj ζ,wt Q6 Q0 rfl⟩
   refine rg ?_;exact ⟨_,sj ζ,wt Q6 Q0 rfl⟩
  refine xt ?_;have ζ:=bd ζ aL;cases ζ;exact wt Q5 Q0 rfl
 have ⟨v2,aw,h⟩:=ι h;refine Ok.bg ⟨aq [(6,vi v1),(7,vb v2)],[]⟩ ?_ ?_
 ·refine rg ?_;have ⟨c1,Δ,aw⟩:=ι aw;refine Br.ite Δ (fun hb Δ=>?_) fun hb Δ=>?_
  ·have ⟨x3,aK,Δ⟩:=ι Δ;have ⟨x4,bn,Δ⟩:=ι Δ;refine ⟨_,bq aK,_,br aK,_,rfl,?_⟩;refine ae.call (Zh bn) lz ?_;cases Δ;cases aw;exact wt Q2 Q0 rfl
  cases Δ;cases aw;exact wt Q2 Q0 rfl
 refine rt ?_;cases h;exact (Fz.t fq)
def CV {c d r} (h:tU c d=some r):Pure prog 184 [.a (b4 c),vs d] (.t [vi r.1,vb r.2]):=by
 refine pq tok 12 func184 ?_;unfold tU at h;refine sg (sg ?_);have ⟨x1,Θ,h⟩:=ι h;refine ⟨_,rfl,?_⟩;refine ae.call (ajy Θ) lz ?_;refine rt ?_;cases h;exact (Fz.t fq)
def K_ {c e d r} (h:vr c e d=some r):Pure prog 119 [.a (b0 c),vi e,vs d] (.t [vi r.1,vi r.2]):=by
 refine pq tok 40 func119 ?_;unfold vr at h;refine sg (sg ?_);have ⟨x1,Θ,h⟩:=ι h;refine ⟨_,rfl,?_⟩;refine ae.dE (id:=15) (Lb Θ) rfl (.box lz) rfl (.cons (Lr.b) (.cons (Lr.dL rfl) .nil)) ?_;rintro _ _ ⟨rfl,rfl⟩;refine ⟨_,rfl,?_⟩;refine sq (sg ?_);refine ct h (fun hb h=>?_) fun hb h=>?_
 ·refine sg (rt ?_);cases h;exact (Fz.t fq)
 refine sk (sq (sg ?_));have ⟨x2,ak,h⟩:=ι h;refine ae.call (K9 ak) lz ?_;refine ct h (fun hb h=>?_) fun hb h=>?_
 ·refine sg (rt ?_);cases h;exact (Fz.t fq)
 refine sk (sg ?_);have ⟨x3,aK,h⟩:=ι h;refine ⟨_,rfl,?_⟩;refine ae.call (CV aK) lz ?_;refine sq (sg ?_);refine ct h (fun hb h=>?_) fun hb h=>?_
 ·refine sg (rt ?_);cases h;exact (Fz.t fq)
 refine sk (sg ?_);have ⟨x4,bn,h⟩:=ι h;refine ⟨_,rfl,_,bq bn,_,br bn,_,rfl,?_⟩;refine rt ?_;cases h;exact (Fz.t fq)
def Zg {c d r} (h:xu c d=some r):Pure prog 163 [.a (b0 c),vs d] (.t [vi r.1,vi r.2]):=by
 refine pq tok 37 func163 ?_;unfold xu at h;refine sg (sg ?_);have ⟨x1,Θ,h⟩:=ι h;refine ae.call (Q9 Θ) lz ?_;refine sq (sg ?_);refine ct h (fun hb h=>?_) fun hb h=>?_
 ·refine sg (rt ?_);cases h;exact (Fz.t fq)
 refine sk (sg ?_);refine Ok.eC (fun v1=>⟨aq [(8,vi v1)],[]⟩) (fun v1=>KY v1=some r) ?_ ?_
 ·refine sg ⟨_,ax _,fun _=>?_⟩;refine bl (Ok.loop (fun (s1:Int×Int)=>⟨aq [(2,.b 2 0),(8,vi s1.1),(19,.s (mG x1.1)),(20,vi (x1.1.length:Int)),(21,vi s1.2)],[(2,.box (b0 c))]⟩) (Ag x1 c) (s0:=(1,0)) h (wt Q5 ⟨hr,Q0⟩ rfl) ?_);intro s1 y1 ζ aL;unfold Ag at ζ;refine sg (sq (ct ζ (fun hb ζ=>?_) fun hb ζ=>?_))
  ·refine sk (sq (bl (sg ?_)));have ⟨x2,ak,ζ⟩:=ι ζ;refine ⟨_,bq ak,_,br ak,_,rfl,?_⟩;refine sg ?_;have ⟨x3,aK,ζ⟩:=ι ζ;refine ⟨_,rfl,?_⟩;refine ae.call (K_ aK) lz ?_;refine sg (ct ζ (fun hb ζ=>?_) fun hb ζ=>?_)
   ·refine sg (rt ?_);have ζ:=bd ζ aL;cases ζ;exact (Fz.t fq)
   refine sk (rg ?_);have ⟨ar,ζ⟩:=aC ζ;refine (ψ ⟨ar,?_⟩);exact ⟨_,sj ζ,wt Q5 J1 rfl⟩
  refine xt ?_;have ζ:=bd ζ aL;exact ⟨_,ζ,wt Q1 Q0 rfl⟩
 intro v1 h;unfold KY at h;refine sg (rt ?_);cases h;exact (Fz.t fq)
def rW {c d r} (h:mc c d=some r):Pure prog 176 [.a (b0 c),vi d] (.t [.a (b4 r.1),vb r.2]):=by
 refine pq tok 13 func176 ?_;unfold mc at h;refine sg (sg ?_);have ⟨x1,Θ,h⟩:=ι h;refine ⟨_,rfl,?_⟩;refine ae.dE (id:=8) (qA Θ) rfl (.box lz) rfl (.cons (Lr.b) (.cons (Lr.dL rfl) .nil)) ?_;rintro _ _ ⟨rfl,rfl⟩;refine ⟨_,rfl,?_⟩;refine rt ?_;cases h;exact ⟨_,rfl,Fz.t fq⟩
def Zm {K d e f g i j k l o t u w z y A B C D E F G I J r} (h:A0 K d e f g i j k l o t u w z y A B C D E F G I J=some r):ae prog 164 [.b 1000 0,vi K] ⟨aG,[(1000,.box (cV d e f g i j k l o t u w z y A B C D E F G I J))]⟩ fun x s=>x=(.a (k8 r.1 r.2.1 r.2.2.1 r.2.2.2.1 r.2.2.2.2.1 r.2.2.2.2.2))∧s.H=[(1000,.box (cV d e f g i j k l o t u w z y A B C D E F G I J))]:=by
 refine pg tok 19 func164 ?_;unfold A0 at h;refine sg (sg ?_);have ⟨x1,Θ,h⟩:=ι h;refine ⟨_,rfl,?_⟩;refine ae.call (rW Θ) lz ?_;refine ⟨_,rfl,?_⟩;refine sg ⟨_,rfl,_,rfl,?_⟩;refine rt ?_;cases h;exact ⟨_,rfl,wt Q1 J1 rfl⟩
def Ao {L d e f g i j k l o t u w z A B C D E F G I J K} {q:Int⊕(oU)} (h:qZ L d e f g i j k l o t u w z A B C D E F G I J K=some q):fM prog bf 113 [.b 1000 0,vs L] ⟨aG,[(1000,.box (cV d e f g i j k l o t u w z A B C D E F G I J K))]⟩ (fun x s=>∃y:oU,q=.inr y∧x=(.a (k8 y.1 y.2.1 y.2.2.1 y.2.2.2.1 y.2.2.2.2.1 y.2.2.2.2.2))∧s.H=[(1000,.box (cV d e f g i j k l o t u w z A B C D E F G I J K))]) fun m s=>q=.inl m∧s.H=[]:=by
 refine px tok 23 func113 ?_;unfold qZ at h;refine sg (sg ?_);have ⟨x1,Θ,h⟩:=ι h;refine ⟨_,rfl,?_⟩;refine ae.call (Zg Θ) lz ?_;refine sq (Ok.cY bf tok ?_);have ⟨x2,ak,h⟩:=ι h;refine ψ (bV (cx [] [] (kz ak) nq Q0 (fun e1 bE=>?_) (fun y1 c_=>?_)))
 ·have h:=cu h bE;cases h;exact ⟨_,rfl,rfl⟩
 have h:=cw h c_;refine sg ?_;have ⟨x3,aK,h⟩:=ι h;refine cg [(1000,1000)] [] (Zm aK) (.cons (Ln.b rfl) nq) ⟨⟨1000,_,rfl,rfl,.box nq⟩,Q0⟩ ?_;refine ⟨_,rfl,?_⟩;refine rt ?_;cases h;exact ⟨_,rfl,_,rfl,wt Q1 J1 rfl⟩
def ake {a d e f g i j k l o u w z A B C D E F G I J K} {q:Int⊕(Int×Int)} (h:DW a d e f g i j k l o u w z A B C D E F G I J K=some q):fM prog bf 62 [.b 1000 0] ⟨aG,[(1000,.box (cV a d e f g i j k l o u w z A B C D E F G I J K))]⟩ (fun x s=>∃y:Int×Int,q=.inr y∧x=(.t [])∧s.H=[(1000,.box (cV a d e f g i j k l o u w z A B C D E 0 y.1 y.2 0 0))]) fun m s=>q=.inl m∧s.H=[]:=by
 refine px tok 18 func62 ?_;unfold DW at h;refine sq (Ok.cY bf tok ?_);have ⟨x1,Θ,h⟩:=ι h;refine ψ (ψ (ψ (ψ (ψ (ψ (⟨_,rfl,?_⟩))))));refine bV (cx [(1000,1000)] [] (Ao Θ) (.cons (Ln.b rfl) nq) ⟨⟨1000,_,rfl,rfl,.box nq⟩,Q0⟩ (fun e1 bE=>?_) (fun y1 c_=>?_))
 ·have h:=cu h bE;cases h;exact ⟨_,rfl,rfl⟩
 have h:=cw h c_;refine ψ (ψ (⟨_,rfl,?_⟩));refine rg ⟨_,rfl,_,rfl,_,rfl,?_⟩;cases h;exact ⟨_,rfl,wt Q1 J1 rfl⟩
def ajb [o8] {a r} (h:E_ a=some r):Pure prog 228 [.s (mG a)] (vs r):=by
 refine pq tok 9 func228 ?_;unfold E_ at h;refine sg (sq (sg ?_));refine ⟨_,ax _,fun _=>?_⟩;refine ct h (fun hb h=>?_) fun hb h=>?_
 ·refine sg (rt ?_);cases h;exact Fz.v
 refine sk (sg ?_);have ⟨ar,h⟩:=aC h;refine ae.call (adP a ([47]) ar) lz ?_;have ⟨bu,h⟩:=aC h;refine ⟨air bu,_,ais _ _,?_⟩;refine rt ?_;cases h;exact Fz.v
def ajc [o8] {a r} (h:Fa a=some r):Pure prog 165 [vs a] (.t (k12 r.1 r.2.1 r.2.2)):=by
 refine pq tok 31 func165 ?_;unfold Fa at h;refine sg (sg ?_);have ⟨x1,Θ,h⟩:=ι h;refine ae.call (Q9 Θ) lz ?_;refine sq ?_;have ⟨v1,ν,h⟩:=ι h;refine Ok.bg ⟨aq [(5,.s (mG x1.1)),(19,vb v1)],[]⟩ ?_ ?_
 ·refine rg ?_;have ⟨c1,Δ,ν⟩:=ι ν;refine Br.eh Δ (fun hb Δ=>?_) fun hb Δ=>?_
  ·cases Δ;cases ν;exact wt Q2 Q0 rfl
  refine ⟨_,ax _,fun _=>?_⟩;cases Δ;cases ν;exact wt Q2 Q0 rfl
 refine ct h (fun hb h=>?_) fun hb h=>?_
 ·refine sg (rt ?_);cases h;exact (Fz.t fq)
 refine sk (sg ?_);have ⟨ar,h⟩:=aC h;refine ⟨_,ax _,fun _=>(ψ ⟨ar,?_⟩)⟩;refine sq (dw 11 tok mixed ?_);have ⟨x2,ak,h⟩:=ι h;have ⟨bu,h⟩:=aC h;have ⟨x3,aK,h⟩:=ι h;refine ⟨_,rfl,_,rfl,_,⟨_,bq ak,_,br ak,rfl⟩,_,⟨_,rfl,rfl⟩,_,rfl,_,rfl,_,⟨_,lq bu.1,Nat.zero_le _,xk bu,xg (f:=kL) (K:=1) (fun _=>rfl) x1.1,_,Kq _ _ _,rfl⟩,_,⟨_,.fC (ajb aK) lz,rfl⟩,_,rfl,_,rfl,_,rfl,Q0,?_⟩;refine rt ?_;cases h;exact (Fz.t fq)
def GM [o8] {L a d e f g i j k l o u w z A B C D E F G I J K} {q:Int⊕(Int×(List UInt8))} (h:uD L a d e f g i j k l o u w z A B C D E F G I J K=some q):fM prog bf 114 [.b 1000 0,vs L] ⟨aG,[(1000,.box (cV a d e f g i j k l o u w z A B C D E F G I J K))]⟩ (fun x s=>∃y:Int×(List UInt8),q=.inr y∧x=(.t [vi y.1,vs y.2])∧s.H=[(1000,.box (cV a d e f g i j k l o u w z A B C D E F G I J K))]) fun m s=>q=.inl m∧s.H=[]:=by
 refine px tok 33 func114 ?_;unfold uD at h;refine sg (sg ?_);have ⟨x1,Θ,h⟩:=ι h;refine ae.call (ajc Θ) lz ?_;refine sq (Ok.cY bf tok ?_);have ⟨x2,ak,h⟩:=ι h;refine ψ (bV (cx [] [] (kz ak) nq Q0 (fun e1 bE=>?_) (fun y1 c_=>?_)))
 ·have h:=cu h bE;cases h;exact ⟨_,rfl,rfl⟩
 have h:=cw h c_;refine sg ?_;have ⟨x3,aK,h⟩:=ι h;refine ⟨_,rfl,?_⟩;refine ae.call (Zg aK) lz ?_;refine sq (Ok.cY bf tok ?_);have ⟨x4,bn,h⟩:=ι h;refine ψ (bV (cx [] [] (kz bn) nq Q0 (fun e2 dV=>?_) (fun y2 ew=>?_)))
 ·have h:=cu h dV;cases h;exact ⟨_,rfl,rfl⟩
 have h:=cw h ew;refine sg (rt ?_);cases h;exact ⟨_,rfl,wt Q1 J1 rfl⟩
def Rc {self a r} (h:CR self a=some r):mz prog 185 [.b 1000 0,vi a] (.box (b5 self)) (fun x c=>x=(.s (mB r.1))∧c=.box (b5 r.2)):=by
 refine qv (n:=44) (c:=f185.body.getD .skip) tok func185 (by kernel_rfl) rfl rfl nb ?_;unfold CR at h;refine sg (sg (bV ?_));refine Ok.eC (fun v1=>⟨aq [(5,.o 9)],[(9,.own 3 1 (mB v1.1)),(1000,.box (k0 v1.2.1 v1.2.2.1 v1.2.2.2))]⟩) (fun v1=>KZ v1=some r) ?_ ?_
 ·refine bl (Ok.loop (fun (s1:Int×(List ξ)×Int×Int×(List Int))=>⟨aq [(0,.b 1000 0),(1,vi s1.1),(5,.o 9)],[(1000,.box (k0 s1.2.1 s1.2.2.1 s1.2.2.2.1)),(9,.own 3 1 (mB s1.2.2.2.2))]⟩) (Aj) (s0:=(a,self.Tree.η,self.Tree.Next,self.Tree.aj,[a])) h (wt Q3 ⟨hr,hr,Q0⟩ rfl) ?_);intro s1 y1 ζ aL;unfold Aj at ζ;refine sq ?_;have ⟨v2,aw,ζ⟩:=ι ζ;refine Ok.bg ⟨aq [(0,.b 1000 0),(1,vi s1.1),(5,.o 9),(22,vb v2)],[(1000,.box (k0 s1.2.1 s1.2.2.1 s1.2.2.2.1)),(9,.own 3 1 (mB s1.2.2.2.2))]⟩ ?_ ?_
  ·refine rg ?_;have ⟨c1,Δ,aw⟩:=ι aw;refine Br.ite Δ (fun hb Δ=>?_) fun hb Δ=>?_
   ·refine ⟨_,ax _,fun _=>⟨_,rfl,_,ax _,fun _=>?_⟩⟩;cases Δ;cases aw;exact wt Q4 J2 rfl
   cases Δ;cases aw;exact wt Q4 J2 rfl
  refine ct ζ (fun hb ζ=>?_) fun hb ζ=>?_
  ·refine sk (bl (sg ?_));have ⟨x1,Θ,ζ⟩:=ι ζ;refine ae.dE (id:=1000) (qA Θ) rfl (.box lz) rfl (.cons (Lr.b) (.cons (Lr.dL rfl) .nil)) ?_;rintro _ _ ⟨rfl,rfl⟩;refine ⟨_,rfl,?_⟩;refine sq ?_;have ⟨v3,dy,ζ⟩:=ι ζ;refine Ok.bg ⟨aq [(0,.b 1000 0),(5,.o 9),(6,.b 6 0),(35,vb v3)],[(1000,.box (b5 x1.2)),(9,.own 3 1 (mB s1.2.2.2.2)),(6,.box (b4 x1.1.1))]⟩ ?_ ?_
   ·refine rg ?_;have ⟨c2,aF,dy⟩:=ι dy;refine Br.eh aF (fun hb aF=>?_) fun hb aF=>?_
    ·cases aF;cases dy;exact wt Q4 J3 rfl
    refine ⟨_,rfl,?_⟩;cases aF;cases dy;exact wt Q4 J3 rfl
   refine ct ζ (fun hb ζ=>?_) fun hb ζ=>?_
   ·refine sg (rt ?_);have ζ:=bd ζ aL;cases ζ;exact ⟨_,_,⟨rfl,rfl⟩,rfl,rfl,Fz.o rfl⟩
   refine sk (sg ?_);refine ⟨_,rfl,?_⟩;refine rg ?_;have ⟨ar,ζ⟩:=aC ζ;refine ψ ⟨gy (f:=Go.Cat.encI) (n:=1) (fun _=>rfl) ([x1.1.1.Up]),gQ (f:=Go.Cat.encI) (l:=s1.2.2.2.2) (l':=[x1.1.1.Up]) ar,_,(eI (f:=Go.Cat.encI) (l₁:=s1.2.2.2.2) (l₂:=[x1.1.1.Up])).symm,?_⟩;exact ⟨_,sj ζ,wt Q3 J2 rfl⟩
  refine xt ?_;have ζ:=bd ζ aL;exact ⟨_,ζ,wt Q1 ⟨hr,hr,Q0⟩ rfl⟩
 intro v1 h;unfold KZ at h;refine sg (rt ?_);cases h;exact ⟨_,_,⟨rfl,rfl⟩,rfl,rfl,Fz.o rfl⟩
def Zj {self a r} (h:CL self a=some r):mz prog 229 [.b 1000 0,vi a] (.box (b5 self)) (fun x c=>x=(vi r.1)∧c=.box (b5 r.2)):=by
 refine qv (n:=10) (c:=f229.body.getD .skip) tok func229 (by kernel_rfl) rfl rfl nb ?_;unfold CL at h;refine sg (sg ?_);have ⟨x1,Θ,h⟩:=ι h;refine ae.dE (id:=1000) (Rc Θ) rfl (.box lz) rfl (.cons (Lr.b) (.cons (Lr.dL rfl) .nil)) ?_;rintro _ _ ⟨rfl,rfl⟩;have ⟨ar,h⟩:=aC h;refine ⟨_,ax _,fun _=>(ψ ⟨ar,?_⟩)⟩;refine rt ?_;cases h;exact ⟨_,_,⟨rfl,rfl⟩,rfl,rfl,Fz.v⟩
def Zk {self a d r} (h:CN self a d=some r):mz prog 166 [.b 1000 0,vi a,vs d] (.box (b5 self)) (fun x c=>x=(vi r.1)∧c=.box (b5 r.2)):=by
 refine qv (n:=48) (c:=f166.body.getD .skip) tok func166 (by kernel_rfl) rfl rfl nb ?_;unfold CN at h;refine sg (sg ?_);have ⟨x1,Θ,h⟩:=ι h;refine ae.dE (id:=1000) (Lb Θ) rfl (.box lz) rfl (.cons (Lr.b) (.cons (Lr.dL rfl) .nil)) ?_;rintro _ _ ⟨rfl,rfl⟩;refine ⟨_,rfl,?_⟩;refine sq (sg ?_);refine ct h (fun hb h=>?_) fun hb h=>?_
 ·refine sg (rt ?_);cases h;exact ⟨_,_,⟨rfl,rfl⟩,rfl,rfl,Fz.v⟩
 refine sk (sq (sg ?_));have ⟨x2,ak,h⟩:=ι h;refine ae.call (K9 ak) lz ?_;refine ct h (fun hb h=>?_) fun hb h=>?_
 ·refine sg (rt ?_);cases h;exact ⟨_,_,⟨rfl,rfl⟩,rfl,rfl,Fz.v⟩
 refine sk (sq (sg ?_));have ⟨x3,aK,h⟩:=ι h;refine ⟨_,rfl,?_⟩;refine ae.call (CV aK) lz ?_;refine sg (ct h (fun hb h=>?_) fun hb h=>?_)
 ·refine sg (rt ?_);cases h;exact ⟨_,_,⟨rfl,rfl⟩,rfl,rfl,Fz.v⟩
 refine sk (sq ?_);have ⟨v1,ν,h⟩:=ι h;refine Ok.bg ⟨aq [(47,vb v1.1)],[(1000,.box (k0 v1.2.1 v1.2.2.1 v1.2.2.2))]⟩ ?_ ?_
 ·refine rg ⟨_,rfl,_,ax _,fun _=>?_⟩;have ⟨c1,Δ,ν⟩:=ι ν;refine Br.eh Δ (fun hb Δ=>?_) fun hb Δ=>?_
  ·cases Δ;have ⟨c2,aF,ν⟩:=ι ν;replace aF:=ee aF;cases aF;cases ν;exact wt Q1 J1 rfl
  have ⟨x4,bn,Δ⟩:=ι Δ;refine ae.dE (id:=1000) (Zj bn) rfl (.box lz) rfl (.cons (Lr.b) (.cons (Lr.dL rfl) .nil)) ?_;rintro _ _ ⟨rfl,rfl⟩;cases Δ;have ⟨c2,aM,ν⟩:=ι ν;refine Br.eh aM (fun hb aM=>?_) fun hb aM=>?_
  ·cases aM;cases ν;exact wt Q1 J1 rfl
  refine ⟨_,rfl,?_⟩;cases aM;cases ν;exact wt Q1 J1 rfl
 refine ct h (fun hb h=>?_) fun hb h=>?_
 ·refine sg (rt ?_);cases h;exact ⟨_,_,⟨rfl,rfl⟩,rfl,rfl,Fz.v⟩
 refine sk (sg ?_);refine rt ?_;cases h;exact ⟨_,_,⟨rfl,rfl⟩,rfl,rfl,Fz.v⟩
end Go.Proofs
