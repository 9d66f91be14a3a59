/- The walks of this seat beside the plain programs, part 0. No condition. -/
import Derived.Test.YtdcgbodbejgliaaGreatDoorXTopThereAndBackHb
open Option renaming some->V
open List renaming length_map->au,map_append->bO,map->cK
open Nat renaming lt_of_le_of_lt->kO,le_of_eq->nD
open Or renaming inl->ah,inr->fJ
namespace Go.Proofs
set_option linter.all false
open Go Go.Cat Tryz
variable[M:cD][K:LK]
set_option maxRecDepth 100000
set_option maxHeartbeats 4000000
def sg[R:eF]{n:Nat}{st:ak}{Q:Exit->ak->Prop}{id:Nat}{ops:Array Oper}{y:Code}(h:ju prog (lk tl) n ops ops.toList st (nx prog n y Q .normal)):Ok prog n (.seq (.region id ops false) y) st Q:=Sg tok h
def rg[R:eF]{n:Nat}{st:ak}{Q:Exit->ak->Prop}{id:Nat}{ops:Array Oper}(h:ju prog (lk tl) n ops ops.toList st (Q .normal)):Ok prog n (.region id ops false) st Q:=Ok.region tok h
abbrev mI:=cK eM
abbrev mU:=cK dV
abbrev mA:=cK il
abbrev mB:=cK Go.Cat.encI
abbrev mC:=cK fB
abbrev mD:=cK mQ
abbrev mE:=cK rX
abbrev mF:=cK gX
abbrev mG:=cK fg
abbrev mH:=cK cB
abbrev mK:=cK CS
abbrev zs:AV:=.v (.slice none 0 0)
abbrev k0(a:List τ)(b:Int)(c:Int):List AV:=[.s (mI a),vi b,vi c]
abbrev k1(a:Int)(b:Int):List AV:=[zs,vi a,vi b]
abbrev k2(a:List τ)(b:Int)(c:Int)(d:Int)(e:List Int)(f:List cq)(g:List cG)(i:Int):List AV:=[.s (mI a),vi b,vi c,vi d,.s (mB e),.s (mD f),.s (mE g),vi i]
abbrev k3(a:Int)(b:Int)(c:Int)(d:Int):List AV:=[zs,vi a,vi b,vi c,zs,zs,zs,vi d]
abbrev k4(a:List τ)(b:Int)(c:Int)(d:Int)(e:List Int)(f:Int):List AV:=[.s (mI a),vi b,vi c,vi d,.s (mB e),zs,zs,vi f]
abbrev k5(a:List τ)(b:Int)(c:Int)(d:Int)(e:List Int)(f:List cq)(g:List cG)(i:Int)(j:List bg)(k:List aJ):List AV:=[.s (mI a),vi b,vi c,vi d,.s (mB e),.s (mD f),.s (mE g),vi i,.s (mF j),.s (mA k)]
abbrev k6(a:Int)(b:Int)(c:Int)(d:Int):List AV:=[zs,vi a,vi b,vi c,zs,zs,zs,vi d,zs,zs]
abbrev k7(a:List τ)(b:Int)(c:Int)(d:Int)(e:List Int)(f:List cq)(g:List cG)(i:Int):List AV:=[.s (mI a),vi b,vi c,vi d,.s (mB e),.s (mD f),.s (mE g),vi i,zs,zs]
abbrev k8(a:Int)(b:Int)(c:Int)(d:List UInt8)(e:List aH)(f:Int):List AV:=[vi a,vi b,vi c,.s (mU d),.s (mC e),vi f]
abbrev k9(a:Int)(b:Int)(c:Int)(d:Int):List AV:=[vi a,vi b,vi c,zs,zs,vi d]
abbrev Eh(a:List UInt8)(b:Int)(c:Int):List AV:=[vs a,vi b,vi c]
abbrev iK(a:List τ)(b:Int)(c:Int)(d:Int)(e:List Int)(f:List cq)(g:List cG)(i:Int)(j:List bg)(k:List aJ)(l:Int)(o:Int)(s:List UInt8)(t:List UInt8)(u:Int)(w:Int)(z:Int)(y:List UInt8)(A:Int)(B:Int)(C:Int)(D:Int)(E:Int):List AV:=[.s (mI a),vi b,vi c,vi d,.s (mB e),.s (mD f),.s (mE g),vi i,.s (mF j),.s (mA k),vi l,vi o,vs s,vs t,vi u,vi w,vi z,.s (mU y),vi A,vi B,vi C,vi D,vi E,zs,zs]
abbrev VH(a:List UInt8)(b:List UInt8)(c:Int):List AV:=[vs a,vs b,vi c]
abbrev N8(a:Int)(b:Int)(c:Int):List AV:=[vi a,vi b,vi c]
abbrev VI(a:List cG)(b:Int)(c:Int):List AV:=[.s (mE a),vi b,vi c]
abbrev VJ(a:List aH)(b:Int)(c:Int):List AV:=[.s (mC a),vi b,vi c]
abbrev VK(a:List τ)(b:Int)(c:Int)(d:Int)(e:List Int)(f:List cq)(g:List cG)(i:Int)(j:List bg)(k:List aJ)(l:Int)(o:Int)(s:List UInt8)(t:List UInt8)(u:Int)(w:Int)(z:Int)(y:List UInt8)(A:Int)(B:Int)(C:Int)(D:Int)(E:Int)(F:List (List UInt8)):List AV:=[.s (mI a),vi b,vi c,vi d,.s (mB e),.s (mD f),.s (mE g),vi i,.s (mF j),.s (mA k),vi l,vi o,vs s,vs t,vi u,vi w,vi z,.s (mU y),vi A,vi B,vi C,vi D,vi E,.s (mG F),zs]
abbrev k17(a:Int)(b:Int)(c:List UInt8)(d:List UInt8)(e:Int)(f:Int)(g:Int)(i:List UInt8):List AV:=[vi a,vi b,vs c,vs d,vi e,vi f,vi g,.s (mU i)]
abbrev VL(a:Int)(b:Int)(c:Int)(d:Int)(e:Int)(f:List (List UInt8))(g:List UInt8):List AV:=[vi a,vi b,vi c,vi d,vi e,.s (mG f),.s (mU g)]
abbrev iL(a:Int)(b:Int)(c:Int)(d:Int)(e:Int):List AV:=[vi a,vi b,vi c,vi d,vi e,zs,zs]
abbrev k20(a:Int)(b:Int)(c:Int)(d:Int)(e:Int)(f:List (List UInt8)):List AV:=[vi a,vi b,vi c,vi d,vi e,.s (mG f),zs]
abbrev k21(a:Int)(b:List UInt8)(c:Int):List AV:=[vi a,.s (mU b),vi c]
abbrev VM(a:Int)(b:Int)(c:List UInt8)(d:List UInt8)(e:Int)(f:Int)(g:Int):List AV:=[vi a,vi b,vs c,vs d,vi e,vi f,vi g,zs]
abbrev vW(a:Int)(b:List UInt8)(c:Int):List AV:=[vi a,vs b,vi c]
abbrev VN(a:List bg)(b:Int)(c:Int):List AV:=[.s (mF a),vi b,vi c]
abbrev N9(a:List UInt8)(b:Int)(c:List UInt8):List AV:=[.s (mU a),vi b,.s (mU c)]
abbrev k26(a:Int)(b:Int)(c:Int)(d:Int)(e:Int)(f:List UInt8):List AV:=[vi a,vi b,vi c,vi d,vi e,zs,.s (mU f)]
abbrev VO(a:Int)(b:List τ)(c:Int):List AV:=[vi a,.s (mI b),vi c]
abbrev k28(a:List dO)(b:List UInt8)(c:List UInt8):List AV:=[.s (mK a),vs b,vs c]
abbrev b0(x:Γ):List AV:=k0 x.η x.Next x.ai
abbrev b1(x:cd):List AV:=k2 x.aw.η x.aw.Next x.aw.ai x.bE x.dh x.cM x.cm x.Next
abbrev b2(x:cy):List AV:=k5 x.S.aw.η x.S.aw.Next x.S.aw.ai x.S.bE x.S.dh x.S.cM x.S.cm x.S.Next x.Holds x.et
abbrev b3(x:cd):List AV:=k7 x.aw.η x.aw.Next x.aw.ai x.bE x.dh x.cM x.cm x.Next
abbrev b4(x:τ):List AV:=k8 x.κ x.θ x.a_ x.aK x.ψ x.Up
abbrev b5(x:dC):List AV:=k0 x.Tree.η x.Tree.Next x.Tree.ai
abbrev b6(x:aH):List AV:=Eh x.aC x.κ x.ai
abbrev b7(x:bg):List AV:=N8 x.gp x.iR x.κ
abbrev b8(x:aJ):List AV:=N8 x.κ x.η x.uO
abbrev b9(x:cG):List AV:=N8 x.Id x.κ x.At
abbrev lJ(x:dO):List AV:=k17 x.θ x.gp x.ib x.To x.N x.M x.iR x.aK
abbrev iS(x:da):List AV:=VL x.mN x.κ x.θ x.N x.M x.jy x.aK
abbrev b12(x:cy):List AV:=k0 x.S.aw.η x.S.aw.Next x.S.aw.ai
abbrev t8{A B C D E F G H I:Type}(x:A×B×C×D×E×F×G×H×I):I:=x.2.2.2.2.2.2.2.2
abbrev t5{A B C D E I:Type}(x:A×B×C×D×E×I):I:=x.2.2.2.2.2
def nb{a b:Nat}(h:Nat.ble a b=true:=by rfl):a<=b:=Nat.le_of_ble_eq_true h
def ajl{r}(h:QC=V r):Pure prog 31 [] (.a (b0 r)):=by
 refine pq tok 4 func31 ?_;unfold QC at h;cases h;exact sg (sg (ah ⟨_,rfl,rt ⟨_,rfl,Fz.cP rfl⟩⟩))
def aiW{c r}(h:PV c=V r):Pure prog 30 [.a (b0 c)] (.a (b1 r)):=by
 refine pq tok 9 func30 ?_;unfold PV at h;have⟨aj,h⟩:=aq h;cases h;exact sg (sq (dw 6 tok mixed ⟨_,⟨_,rfl,rfl⟩,_,rfl,_,⟨_,rfl,rfl⟩,_,⟨_,au _,λ_=>rfl⟩,_,⟨_,_,v_ aj,v_ aj,Nat.le_refl _,mk_le (by decide) aj,aj.2,_,(List.map_replicate (f:=Go.Cat.encI) (a:=(0:Int))).symm,rfl⟩,_,rfl,Q0,_,rfl,rt ⟨_,rfl,Fz.a (.cons Fz.s (.cons Fz.v (.cons Fz.v (.cons Fz.v (.cons Fz.s (.cons Fz.nil (.cons Fz.nil fq)))))))⟩⟩))
def ahT{r}(h:Mc=V r):Pure prog 13 [] (.a (b2 r)):=by
 refine pq tok 4 func13 ?_;unfold Mc at h;have⟨x1,Θ,h⟩:=ι h;have⟨x2,ar,h⟩:=ι h;cases h;exact sg (sg (Ω.call (ajl Θ) lz (Ω.call (aiW ar) lz ⟨_,rfl,rt ⟨_,rfl,Fz.a (.cons Fz.s (.cons Fz.v (.cons Fz.v (.cons Fz.v (.cons Fz.s (.cons Fz.s (.cons Fz.s (.cons Fz.v (.cons Fz.nil (.cons Fz.nil .nil))))))))))⟩⟩)))
def Gh{r}(h:Dh=V r):Ω prog 28 [] ⟨aR,[]⟩ λx s=>x=(.m 1)/\s.H=[(1,.mp false (cK (λp=>(p.1,gZ p.2)) uz))]:=by
 refine pg tok 3 func28 ?_;unfold Dh at h;have⟨aj,h⟩:=aq h;have⟨aX,h⟩:=aq h;have⟨bY,h⟩:=aq h;have⟨dL,h⟩:=aq h;have⟨fL,h⟩:=aq h;have⟨qY,h⟩:=aq h;have⟨HI,h⟩:=aq h;have⟨Uf,h⟩:=aq h;have⟨Ug,h⟩:=aq h;have⟨T8,h⟩:=aq h;have⟨T9,h⟩:=aq h;have⟨T_,h⟩:=aq h;have⟨T',h⟩:=aq h;have⟨Ua,h⟩:=aq h;have⟨Ub,h⟩:=aq h;have⟨Uc,h⟩:=aq h;have⟨Ud,h⟩:=aq h;refine sg (sg ⟨aj.1,kO (Nat.le_refl _) aj.2,_,kK gZ (1) 62 ([]:List (Int×Int)),aX.1,kO (nD (au _)) aX.2,_,kK gZ (2) 63 u1,bY.1,kO (nD (au _)) bY.2,_,kK gZ (3) 64 u2,dL.1,kO (nD (au _)) dL.2,_,kK gZ (4) 65 u3,fL.1,kO (nD (au _)) fL.2,_,kK gZ (5) 66 u4,qY.1,kO (nD (au _)) qY.2,_,kK gZ (6) 67 u5,HI.1,kO (nD (au _)) HI.2,_,kK gZ (7) 68 u6,Uf.1,kO (nD (au _)) Uf.2,_,kK gZ (8) 69 u7,Ug.1,kO (nD (au _)) Ug.2,_,kK gZ (9) 70 u8,T8.1,kO (nD (au _)) T8.2,_,kK gZ (10) 71 u9,T9.1,kO (nD (au _)) T9.2,_,kK gZ (11) 72 QF,T_.1,kO (nD (au _)) T_.2,_,kK gZ (12) 73 QG,T'.1,kO (nD (au _)) T'.2,_,kK gZ (13) 74 QH,Ua.1,kO (nD (au _)) Ua.2,_,kK gZ (14) 75 QI,Ub.1,kO (nD (au _)) Ub.2,_,kK gZ (15) 76 QJ,Uc.1,kO (nD (au _)) Uc.2,_,kK gZ (16) 77 QK,Ud.1,kO (nD (au _)) Ud.2,_,kK gZ (17) 78 u16,?_⟩)
 cases h;exact rt (wt Q1 J1 rfl)
def wR{a}{q:Int⊕Unit}(h:oH a=V q):kQ prog eI 79 [vi a] ⟨aR,[]⟩ (λx s=>∃y:Unit,q=.inr y/\x=(.t [])/\s.H=[]) λm s=>q=.inl m/\s.H=[]:=by
 refine px tok 6 func79 ?_;unfold oH at h;refine sg (ct h (λhb h=>?_) λhb h=>?_)
 .cases h;exact Ok.jI eI tok (ah (fJ (fJ ⟨rfl,_,rfl,rfl⟩)))
 cases h;exact sk ⟨_,rfl,wt Q1 Q0 rfl⟩
def Cs{a b}{q:Int⊕Unit}(h:xI a b=V q):kQ prog eI 29 [vb a,vi b] ⟨aR,[]⟩ (λx s=>∃y:Unit,q=.inr y/\x=(.t [])/\s.H=[]) λm s=>q=.inl m/\s.H=[]:=by
 refine px tok 8 func29 ?_;unfold xI at h;refine sg (ct h (λhb h=>?_) λhb h=>?_)
 .have⟨x1,Θ,h⟩:=ι h;refine Ok.jI eI tok (ah (fJ (cx [] [] (wR Θ) nq Q0 (λe1 cW=>?_) (λy1 gq=>?_))))
  .have h:=iy h cW;cases h;exact⟨_,rfl,rfl⟩
  have h:=iz h gq;cases h;exact⟨_,rfl,wt Q1 Q0 rfl⟩
 cases h;exact sk ⟨_,rfl,wt Q1 Q0 rfl⟩
def ajy{a r}(h:IF a=V r):Ω prog 216 [vs a] ⟨aR,[]⟩ λx s=>x=(.c (.func 264) [] [.b 1 0])/\s.H=[(1,.box [vs a])]:=by
 refine pg tok 4 func216 ?_;unfold IF at h;cases h;exact sg (sg (rt (wt Q1 J1 rfl)))
def ah3{a b r}(h:Ik a b=V r):Pure prog 317 [vs a,vs b] (vb r):=by
 refine pq tok 18 func317 ?_;unfold Ik at h;have⟨v1,ν,h⟩:=ι h;refine sg (Ok.aD ⟨Ψ [(4,vb v1)],[]⟩ ?_ ?_)
 .have⟨c1,ξ,ν⟩:=ι ν;refine rg ⟨_,kp _,_,kp _,Br.ite ξ (λhb ξ=>?_) λhb ξ=>?_⟩
  .have⟨aj,ξ⟩:=aq ξ;refine⟨_,kp _,_,gJ (zt aj),B3 aj,B4 aj,_,B5 aj,_,oh _ _,?_⟩;cases ξ;cases ν;exact wt Q1 Q0 rfl
  cases ξ;cases ν;exact wt Q1 Q0 rfl
 cases h;exact rt Fz.v
def ah2{a b r}(h:Ij a b=V r):Pure prog 294 [vs a,vs b] (.t [vs r.1,vb r.2]):=by
 refine pq tok 15 func294 ?_;unfold Ij at h;have⟨x1,Θ,h⟩:=ι h;refine sg (sq (sg (Ω.call (ah3 Θ) lz (ct h (λhb h=>?_) λhb h=>?_))))
 .cases h;exact sg (rt (Fz.t fq))
 have⟨aj,h⟩:=aq h;cases h;exact sk (sg ⟨_,kp _,_,gJ aj.1,B3 aj,B4 aj,_,B5 aj,rt (Fz.t fq)⟩)
def ai'{a b r}(h:FV a b=V r):Pure prog 265 [vs a,vs b] (.t [vs r.1,vb r.2]):=by
 refine pq tok 11 func265 ?_;unfold FV at h;have⟨x1,Θ,h⟩:=ι h;cases h;exact sg (sg (Ω.call (ah2 Θ) lz (rt (Fz.t fq))))
def Ks{a r}(h:wb a=V r):Pure prog 183 [vs a] (vb r):=by
 refine pq tok 31 func183 ?_;unfold wb at h;have⟨v1,ν,h⟩:=ι h;refine sg (sq (Ok.aD ⟨Ψ [(0,vs a),(19,vb v1)],[]⟩ ?_ ?_))
 .have⟨c1,ξ,ν⟩:=ι ν;refine rg ⟨_,oh _ _,Br.cA ξ (λhb ξ=>?_) λhb ξ=>?_⟩
  .cases ξ;have⟨c2,az,ν⟩:=ι ν;replace az:=dS az;cases az;have⟨c3,aQ,ν⟩:=ι ν;replace aQ:=dS aQ;cases aQ;cases ν;exact wt Q2 Q0 rfl
  refine⟨_,kp _,?_⟩;cases ξ;have⟨c2,bC,ν⟩:=ι ν;refine Br.cA bC (λhb bC=>?_) λhb bC=>?_
  .cases bC;have⟨c3,bX,ν⟩:=ι ν;replace bX:=dS bX;cases bX;cases ν;exact wt Q2 Q0 rfl
  refine⟨_,oh _ _,?_⟩;cases bC;have⟨c3,cI,ν⟩:=ι ν;refine Br.cA cI (λhb cI=>?_) λhb cI=>?_
  .cases cI;cases ν;exact wt Q2 Q0 rfl
  refine⟨_,oh _ _,?_⟩;cases cI;cases ν;exact wt Q2 Q0 rfl
 refine ct h (λhb h=>?_) λhb h=>?_
 .cases h;exact sg (rt Fz.v)
 refine sk (Ok.dy (λv2=>⟨Ψ [],[]⟩) (λv2=>IE v2=V r) ?_ ?_)
 .refine sg (bl (Ok.loop (λ(s1:Nat)=>⟨Ψ [(21,.b 21 0)],[(21,.si ⟨a.toArray⟩ s1)]⟩) (ID a) (s0:=0) h (wt Q1 ⟨hr,Q0⟩ rfl) ?_));intro s1 y1 ζ aB;unfold ID at ζ;refine sg (aeX ζ (λζ=>?_) λζ=>?_)
  .have⟨v3,aA,ζ⟩:=ι ζ;refine sq (Ok.aaV rfl (sk (bl (sg (Ok.aD ⟨Ψ [(21,.b 21 0),(30,vb v3)],[(21,.si ⟨a.toArray⟩ (s1+(pA a s1).2))]⟩ ?_ ?_)))))
   .have⟨c4,cJ,aA⟩:=ι aA;refine rg (Br.cA cJ (λhb cJ=>?_) λhb cJ=>?_)
    .cases cJ;cases aA;exact wt Q2 J1 rfl
    cases cJ;cases aA;exact wt Q2 J1 rfl
   refine ct ζ (λhb ζ=>?_) λhb ζ=>?_
   .refine sg (rt ?_);have ζ:=aT ζ aB;cases ζ;exact Fz.v
   exact sk ⟨_,sj ζ,wt Q1 J1 rfl⟩
  refine sq (Ok.aaU rfl (xt ?_));have ζ:=aT ζ aB;exact⟨_,ζ,wt Q0 Q0 rfl⟩
 intro v2 h;unfold IE at h;cases h;exact sg (rt Fz.v)
def ajx{l:Nat}{a:List UInt8}{g:Bool}{e:Int}{c:List (List UInt8)}{r:LS×Int×(List (List UInt8))}(h:Bi a g e c=V r):Ω prog (.y l) [vs a,vb g] ⟨aR,(1000,.lp l .jb zg [(2,(.b 1001 0)),(3,(.b 1002 0)),(4,(.b 1003 0))])::[(1001,.box [zs]),(1002,.box [vi e]),(1003,.box [.o 1004]),(1004,.own 9 1 (mG c))]⟩ λx s=>x=.v (.bool (LS.vV r.1))/\s.H=(1000,.lp l r.1 zg [(2,(.b 1001 0)),(3,(.b 1002 0)),(4,(.b 1003 0))])::[(1001,.box [zs]),(1002,.box [vi r.2.1]),(1003,.box [.o 999]),(999,.own 9 1 (mG r.2.2))]:=by
 letI:eF:=eF.yes
 refine akc (e0:=r.1) (H1:=[(1001,.box [zs]),(1002,.box [vi r.2.1]),(1003,.box [.o 999]),(999,.own 9 1 (mG r.2.2))]) (by kernel_rfl) (by kernel_rfl) rfl rfl rfl ?_;unfold Bi at h;have⟨v1,ν,h⟩:=ι h;refine sg (rg (bl (sq (Ok.aD ⟨Ψ [(2,.b 1001 0),(3,.b 1002 0),(4,.b 1003 0),(5,vs a),(24,vb v1)],[(1001,.box [zs]),(1002,.box [vi e]),(1003,.box [.o 1004]),(1004,.own 9 1 (mG c))]⟩ ?_ ?_))))
 .have⟨c1,ξ,ν⟩:=ι ν;refine rg (Br.cA ξ (λhb ξ=>?_) λhb ξ=>?_)
  .cases ξ;have⟨c2,az,ν⟩:=ι ν;replace az:=dS az;cases az;cases ν;exact wt Q5 J4 rfl
  have⟨x1,Θ,ξ⟩:=ι ξ;refine Ω.call (Ks Θ) lz ?_;cases ξ;have⟨c2,aQ,ν⟩:=ι ν;refine Br.cA aQ (λhb aQ=>?_) λhb aQ=>?_
  .cases aQ;cases ν;exact wt Q5 J4 rfl
  refine⟨_,rfl,_,au _,λ_=>?_⟩;cases aQ;cases ν;exact wt Q5 J4 rfl
 refine ct h (λhb h=>?_) λhb h=>?_
 .cases h;exact sg ⟨_,rfl,_,rfl,rt ⟨rfl,(Wk.mv (i:=1004) (d:=999) rfl rfl rfl).trans (wt Q0 ⟨hr,hr,hr,hr,Q0⟩ rfl)⟩⟩
 have⟨aj,h⟩:=aq h;cases h;exact sk (Ok.wk (Wk.mv (i:=1004) (d:=999) rfl rfl rfl) (rg ⟨_,rfl,ah ⟨c_ (f:=fg) (n:=1) (λ_=>rfl) ([a]),c8 (f:=fg) (l:=c) (l':=[a]) aj,_,(bO (f:=fg) (l₁:=c) (l₂:=[a])).symm,_,rfl,rfl,wt Q0 ⟨hr,hr,hr,hr,Q0⟩ rfl⟩⟩))
def ajz{l:Nat}{a:Int}{d:List UInt8}{r:LS×Int×(List UInt8)×(List (List UInt8))}(h:IG a d=V r):Ω prog 264 [.c (.yield l) [] [],.b 1004 0] ⟨aR,[(1000,.lp l .jb zg [(2,(.b 1001 0)),(3,(.b 1002 0)),(4,(.b 1003 0))]),(1001,.box [zs]),(1002,.box [vi a]),(1003,.box [zs]),(1004,.box [vs d])]⟩ λx s=>x=(.t [])/\s.H=[(1000,.lp l r.1 zg [(2,(.b 1001 0)),(3,(.b 1002 0)),(4,(.b 1003 0))]),(1001,.box [zs]),(1002,.box [vi r.2.1]),(1003,.box [.o 999]),(1004,.box [vs r.2.2.1]),(999,.own 9 1 (mG r.2.2.2))]:=by
 refine pg tok 29 func264 ?_;unfold IG at h;refine bl (Ok.loop (λ(s1:LS×(List UInt8)×Int×(List (List UInt8)))=>⟨Ψ [(0,.c (.yield l) [] []),(1,.b 1004 0)],[(1000,.lp l s1.1 zg [(2,.b 1001 0),(3,.b 1002 0),(4,.b 1003 0)]),(1001,.box [zs]),(1002,.box [vi s1.2.2.1]),(1003,.box [.o 999]),(999,.own 9 1 (mG s1.2.2.2)),(1004,.box [vs s1.2.1])]⟩) (II) (s0:=(.jb,d,a,[])) h ((Wk.Wt (b:=1003) (q:=0) (id:=999) (E:=9) (K:=1) rfl rfl rfl).trans (wt Q2 ⟨⟨_,rfl,.refl _⟩,⟨_,rfl,.refl _⟩,⟨_,rfl,.refl _⟩,⟨_,rfl,.refl _⟩,⟨_,rfl,.refl _⟩,⟨_,rfl,.refl _⟩,Q0⟩ rfl)) ?_);intro s1 y1 ζ aB;unfold II at ζ;refine sq (sg ⟨_,rfl,_,FU _ _,ct ζ (λhb ζ=>?_) λhb ζ=>?_⟩)
 .have⟨x1,Θ,ζ⟩:=ι ζ;have⟨v1,ν,ζ⟩:=ι ζ;refine sk (bl (sg ⟨_,rfl,Ω.call (ai' Θ) lz (sg (Ω.call (adQ x1.1 (47)) lz (Ok.aD ⟨Ψ [(0,.c (.yield l) [] []),(1,.b 1004 0),(3,vs x1.1),(4,vb x1.2),(5,vi v1)],[(1000,.lp l s1.1 zg [(2,.b 1001 0),(3,.b 1002 0),(4,.b 1003 0)]),(1001,.box [zs]),(1002,.box [vi s1.2.2.1]),(1003,.box [.o 999]),(999,.own 9 1 (mG s1.2.2.2)),(1004,.box [vs s1.2.1])]⟩ ?_ ?_)))⟩))
  .refine sg (ct ν (λhb ν=>?_) λhb ν=>?_)
   .refine rg ⟨_,kp _,?_⟩;cases ν;exact wt Q5 ⟨hr,hr,J4⟩ rfl
   refine sk ?_;cases ν;exact wt Q5 ⟨hr,hr,J4⟩ rfl
  have⟨aj,ζ⟩:=aq ζ;have⟨aX,ζ⟩:=aq ζ;have⟨x2,ar,ζ⟩:=ι ζ;refine sq (sg ⟨_,gJ (zt aj),B3 aj,B4 aj,_,B5 aj,cg [(1000,1000),(1001,1001),(1002,1002),(1003,1003),(1004,999)] [(999,999)] (ajx ar) nq ⟨⟨1000,_,rfl,rfl,.lp aX ⟨rfl,Ln.b rfl,rfl,Ln.b rfl,rfl,Ln.b rfl,Q0⟩⟩,⟨1001,_,rfl,rfl,.box nq⟩,⟨1002,_,rfl,rfl,.box nq⟩,⟨1003,_,rfl,rfl,.box (.cons (Ln.o rfl) .nil)⟩,⟨999,_,rfl,rfl,.refl rfl⟩,Q0⟩ (ct ζ (λhb ζ=>?_) λhb ζ=>?_)⟩)
  .refine rt ?_;have ζ:=aT ζ aB;cases ζ;exact wt Q1 ⟨hr,hr,J4⟩ rfl
  have⟨bY,ζ⟩:=aq ζ;exact sk (rg ⟨_,gJ bY.1,B3 bY,B4 bY,_,B5 bY,_,rfl,_,sj ζ,wt Q2 ⟨hr,hr,J4⟩ rfl⟩)
 refine xt ?_;have ζ:=aT ζ aB;cases ζ;exact wt Q1 ⟨hr,hr,J4⟩ rfl
def Y3{a r}(h:Bh a=V r):Pure prog 133 [vs a] (.t [.s (mG r.1),vi r.2]):=by
 refine pq tok 33 func133 ?_;unfold Bh at h;refine sg (sq (sg ⟨_,oh _ _,ct h (λhb h=>?_) λhb h=>?_⟩))
 .cases h;exact sg ⟨_,rfl,_,rfl,rt ⟨_,rfl,_,rfl,Fz.t (.cons Fz.nil fq)⟩⟩
 have⟨x1,Θ,h⟩:=ι h;have⟨x2,ar,h⟩:=ι h;refine sk (sg (sq (sg (cg [] [(1,999)] (ajy Θ) nq Q0 (bl (Ok.rangeFunc (lid:=998) (R0:=zg) (L:=[(2,.b 2 0),(3,.b 3 0),(4,.b 4 0)]) (by kernel_rfl) rfl rfl Q3 (λl=>cg [(1000,998),(1001,2),(1002,3),(1003,4),(1004,999)] [(999,997)] (ajz ar) (.cons (Ln.c .nil .nil) (.cons (Ln.b rfl) .nil)) ⟨⟨998,_,rfl,rfl,.lp rfl ⟨rfl,Ln.b rfl,rfl,Ln.b rfl,rfl,Ln.b rfl,Q0⟩⟩,⟨2,_,rfl,rfl,.box nq⟩,⟨3,_,rfl,rfl,.box nq⟩,⟨4,_,rfl,rfl,.box nq⟩,⟨999,_,rfl,rfl,.box nq⟩,Q0⟩ ⟨_,_,_,rfl,agh h (λh=>?_) (λh=>?_)⟩)))))))
 .refine sq (sg ⟨_,rfl,_,au _,λ_=>ct h (λhb h=>?_) λhb h=>?_⟩)
  .cases h;exact sg ⟨_,rfl,_,rfl,rt ⟨_,rfl,_,rfl,Fz.t (.cons Fz.nil fq)⟩⟩
  cases h;exact sk (sg ⟨_,rfl,_,rfl,_,rfl,rt ⟨_,rfl,_,rfl,Fz.t (.cons (Fz.o rfl) fq)⟩⟩)
 refine agi h (λh=>?_) (λh=>?_)
 .cases h;exact⟨_,rfl,_,rfl,Fz.t (.cons Fz.nil fq)⟩
 cases h
def Y2{a r}(h:cmp_isNaN_int a=V r):Pure prog 247 [vi a] (vb r):=by
 refine pq tok 6 func247 ?_;unfold cmp_isNaN_int at h;cases h;exact sg (sg (rt Fz.v))
def Kr{a b r}(h:vg a b=V r):Pure prog 194 [vi a,vi b] (vi r):=by
 refine pq tok 20 func194 ?_;unfold vg at h;have⟨x1,Θ,h⟩:=ι h;have⟨x2,ar,h⟩:=ι h;refine sg (sg (Ω.call (Y2 Θ) lz (sg (Ω.call (Y2 ar) lz (sq (sg (ct h (λhb h=>?_) λhb h=>?_)))))))
 .refine sq (sg (ct h (λhb h=>?_) λhb h=>?_))
  .cases h;exact sg (rt Fz.v)
  cases h;exact sk (sg (rt Fz.v))
 refine sk (sq (sg (ct h (λhb h=>?_) λhb h=>?_)))
 .cases h;exact sg (rt Fz.v)
 refine sk (sq (sg (ct h (λhb h=>?_) λhb h=>?_)))
 .cases h;exact sg (rt Fz.v)
 refine sk (sq (sg (ct h (λhb h=>?_) λhb h=>?_)))
 .cases h;exact sg (rt Fz.v)
 cases h;exact sk (sg (rt Fz.v))
def Zs{c d r}(h:zA c d=V r):Pure prog 270 [.a (b4 c),vi d] (vi r):=by
 refine pq tok 9 func270 ?_;unfold zA at h;have⟨x1,Θ,h⟩:=ι h;cases h;exact sg (sg ⟨_,rfl,Ω.call (Kr Θ) lz (rt Fz.v)⟩)
def ai1{a b r}(h:P5 a b=V r):Pure prog 253 [.s (mI a),vi b,.c (.func 270) [] []] (.t [vi r.1,vb r.2]):=by
 refine pq tok 49 func253 ?_;unfold P5 at h;have⟨v1,ν,h⟩:=ι h;refine sg (sg ⟨_,au _,λ_=>sg (Ok.aD ⟨Ψ [(0,.s (mI a)),(1,vi b),(2,.c (.func 270) [] []),(8,vi (a.length:Int)),(9,vi v1)],[]⟩ ?_ ?_)⟩)
 .refine bl (Ok.loop (λ(s1:Int×Int)=>⟨Ψ [(0,.s (mI a)),(1,vi b),(2,.c (.func 270) [] []),(8,vi (a.length:Int)),(9,vi s1.1),(10,vi s1.2)],[]⟩) (P6 a b) (s0:=(0,(a.length:Int))) ν (wt Q6 Q0 rfl) ?_);intro s1 y1 ζ aB;unfold P6 at ζ;refine sq (sg (ct ζ (λhb ζ=>?_) λhb ζ=>?_))
  .have⟨aj,ζ⟩:=aq ζ;have⟨x1,Θ,ζ⟩:=ι ζ;have⟨x2,ar,ζ⟩:=ι ζ;refine sk (bl (sg (ah ⟨aj,_,rfl,by decide,_,rfl,_,rfl,sg ⟨_,aO Θ,_,aP Θ,_,rfl,Ω.call (Zs ar) lz (ct ζ (λhb ζ=>?_) λhb ζ=>?_)⟩⟩)))
   .have⟨aX,ζ⟩:=aq ζ;exact rg (ah ⟨aX,_,sj ζ,wt Q6 Q0 rfl⟩)
   exact rg ⟨_,sj ζ,wt Q6 Q0 rfl⟩
  refine xt ?_;have ζ:=aT ζ aB;cases ζ;exact wt Q5 Q0 rfl
 have⟨v2,Φ,h⟩:=ι h;refine Ok.aD ⟨Ψ [(6,vi v1),(7,vb v2)],[]⟩ ?_ ?_
 .have⟨c1,ξ,Φ⟩:=ι Φ;refine rg (Br.ite ξ (λhb ξ=>?_) λhb ξ=>?_)
  .have⟨x3,aL,ξ⟩:=ι ξ;have⟨x4,aZ,ξ⟩:=ι ξ;refine⟨_,aO aL,_,aP aL,_,rfl,Ω.call (Zs aZ) lz ?_⟩;cases ξ;cases Φ;exact wt Q2 Q0 rfl
  cases ξ;cases Φ;exact wt Q2 Q0 rfl
 cases h;exact rt (Fz.t fq)
def Kz{self a r}(h:sX self a=V r):mO prog 230 [.b 1000 0,vi a] (.box (b5 self)) (λx c=>x=(.t [vi r.1.1,vb r.1.2])/\c=.box (b5 r.2)):=by
 refine qv (n:=15) (c:=f230.body.getD .skip) tok func230 (by kernel_rfl) rfl rfl nb ?_;unfold sX at h;have⟨x1,Θ,h⟩:=ι h;cases h;exact sg (sg ⟨_,rfl,Ω.call (ai1 Θ) lz (rt ⟨_,_,⟨rfl,rfl⟩,rfl,rfl,Fz.t fq⟩)⟩)
def uA{self d r}(h:pV self d=V r):mO prog 179 [.b 1000 0,vi d] (.box (b5 self)) (λx c=>x=(.t [.a (b4 r.1.1),vb r.1.2])/\c=.box (b5 r.2)):=by
 refine qv (n:=25) (c:=f179.body.getD .skip) tok func179 (by kernel_rfl) rfl rfl nb ?_;unfold pV at h;have⟨x1,Θ,h⟩:=ι h;refine sg (sg (Ω.fj (id:=1000) (Kz Θ) rfl (.box lz) rfl (.cons (Lr.b) (.cons (Lr.cP rfl) .nil)) ?_));rintro _ _ ⟨rfl,rfl⟩;refine sq (sg (ct h (λhb h=>?_) λhb h=>?_))
 .cases h;exact sg ⟨_,rfl,rt ⟨_,rfl,_,_,⟨rfl,rfl⟩,rfl,rfl,Fz.t (.cons (Fz.a (.cons Fz.v (.cons Fz.v (.cons Fz.v (.cons Fz.nil (.cons Fz.nil fq)))))) fq)⟩⟩
 have⟨x2,ar,h⟩:=ι h;cases h;exact sk (sg ⟨_,rfl,_,aO ar,_,aP ar,_,rfl,_,rfl,rt ⟨_,rfl,_,_,⟨rfl,rfl⟩,rfl,rfl,Fz.t fq⟩⟩)
def KA{self d r}(h:wO self d=V r):mO prog 182 [.b 1000 0,vi d] (.box (b5 self)) (λx c=>x=(.t [.a (b4 r.1.1),vi r.1.2])/\c=.box (b5 r.2)):=by
 refine qv (n:=24) (c:=f182.body.getD .skip) tok func182 (by kernel_rfl) rfl rfl nb ?_;unfold wO at h;have⟨x1,Θ,h⟩:=ι h;refine sg (sg (Ω.fj (id:=1000) (uA Θ) rfl (.box lz) rfl (.cons (Lr.b) (.cons (Lr.cP rfl) .nil)) ?_));rintro _ _ ⟨rfl,rfl⟩;refine⟨_,rfl,bl (sg (ct h (λhb h=>?_) λhb h=>?_))⟩
 .cases h;exact sg ⟨_,rfl,rt ⟨_,rfl,_,_,⟨rfl,rfl⟩,rfl,rfl,Fz.t (.cons (Fz.a (.cons Fz.v (.cons Fz.v (.cons Fz.v (.cons Fz.nil (.cons Fz.nil fq)))))) fq)⟩⟩
 refine sg ⟨_,rfl,ct h (λhb h=>?_) λhb h=>?_⟩
 .cases h;exact sg ⟨_,rfl,rt ⟨_,rfl,_,_,⟨rfl,rfl⟩,rfl,rfl,Fz.t (.cons (Fz.a (.cons Fz.v (.cons Fz.v (.cons Fz.v (.cons Fz.nil (.cons Fz.nil fq)))))) fq)⟩⟩
 cases h;exact sg ⟨_,rfl,_,rfl,rt ⟨_,rfl,_,_,⟨rfl,rfl⟩,rfl,rfl,Fz.t fq⟩⟩
def Zr{c d r}(h:Cd c d=V r):Pure prog 240 [.a (b6 c),vs d] (vi r):=by
 refine pq tok 9 func240 ?_;unfold Cd at h;cases h;exact sg (sg ⟨_,rfl,Ω.call (adP c.aC d) lz (rt Fz.v)⟩)
def aiZ{a b r}(h:P3 a b=V r):Pure prog 239 [.s (mC a),vs b,.c (.func 240) [] []] (.t [vi r.1,vb r.2]):=by
 refine pq tok 49 func239 ?_;unfold P3 at h;have⟨v1,ν,h⟩:=ι h;refine sg (sg ⟨_,au _,λ_=>sg (Ok.aD ⟨Ψ [(0,.s (mC a)),(1,vs b),(2,.c (.func 240) [] []),(8,vi (a.length:Int)),(9,vi v1)],[]⟩ ?_ ?_)⟩)
 .refine bl (Ok.loop (λ(s1:Int×Int)=>⟨Ψ [(0,.s (mC a)),(1,vs b),(2,.c (.func 240) [] []),(8,vi (a.length:Int)),(9,vi s1.1),(10,vi s1.2)],[]⟩) (P4 a b) (s0:=(0,(a.length:Int))) ν (wt Q6 Q0 rfl) ?_);intro s1 y1 ζ aB;unfold P4 at ζ;refine sq (sg (ct ζ (λhb ζ=>?_) λhb ζ=>?_))
  .have⟨aj,ζ⟩:=aq ζ;have⟨x1,Θ,ζ⟩:=ι ζ;have⟨x2,ar,ζ⟩:=ι ζ;refine sk (bl (sg (ah ⟨aj,_,rfl,by decide,_,rfl,_,rfl,sg ⟨_,aO Θ,_,aP Θ,_,rfl,Ω.call (Zr ar) lz (ct ζ (λhb ζ=>?_) λhb ζ=>?_)⟩⟩)))
   .have⟨aX,ζ⟩:=aq ζ;exact rg (ah ⟨aX,_,sj ζ,wt Q6 Q0 rfl⟩)
   exact rg ⟨_,sj ζ,wt Q6 Q0 rfl⟩
  refine xt ?_;have ζ:=aT ζ aB;cases ζ;exact wt Q5 Q0 rfl
 have⟨v2,Φ,h⟩:=ι h;refine Ok.aD ⟨Ψ [(6,vi v1),(7,vb v2)],[]⟩ ?_ ?_
 .have⟨c1,ξ,Φ⟩:=ι Φ;refine rg (Br.ite ξ (λhb ξ=>?_) λhb ξ=>?_)
  .have⟨x3,aL,ξ⟩:=ι ξ;have⟨x4,aZ,ξ⟩:=ι ξ;refine⟨_,aO aL,_,aP aL,_,rfl,Ω.call (Zr aZ) lz ?_⟩;cases ξ;cases Φ;exact wt Q2 Q0 rfl
  cases ξ;cases Φ;exact wt Q2 Q0 rfl
 cases h;exact rt (Fz.t fq)
def Cr{c d r}(h:sW c d=V r):Pure prog 184 [.a (b4 c),vs d] (.t [vi r.1,vb r.2]):=by
 refine pq tok 12 func184 ?_;unfold sW at h;have⟨x1,Θ,h⟩:=ι h;cases h;exact sg (sg ⟨_,rfl,Ω.call (aiZ Θ) lz (rt (Fz.t fq))⟩)
def Q9{c e d r}(h:wM c e d=V r):Pure prog 119 [.a (b0 c),vi e,vs d] (.t [vi r.1,vi r.2]):=by
 refine pq tok 40 func119 ?_;unfold wM at h;have⟨x1,Θ,h⟩:=ι h;refine sg (sg ⟨_,rfl,Ω.fj (id:=15) (KA Θ) rfl (.box lz) rfl (.cons (Lr.b) (.cons (Lr.cP rfl) .nil)) ?_⟩);rintro _ _ ⟨rfl,rfl⟩;refine⟨_,rfl,sq (sg (ct h (λhb h=>?_) λhb h=>?_))⟩
 .cases h;exact sg (rt (Fz.t fq))
 have⟨x2,ar,h⟩:=ι h;refine sk (sq (sg (Ω.call (Ks ar) lz (ct h (λhb h=>?_) λhb h=>?_))))
 .cases h;exact sg (rt (Fz.t fq))
 have⟨x3,aL,h⟩:=ι h;refine sk (sg ⟨_,rfl,Ω.call (Cr aL) lz (sq (sg (ct h (λhb h=>?_) λhb h=>?_)))⟩)
 .cases h;exact sg (rt (Fz.t fq))
 have⟨x4,aZ,h⟩:=ι h;cases h;exact sk (sg ⟨_,rfl,_,aO aZ,_,aP aZ,_,rfl,rt (Fz.t fq)⟩)
def Zq{c d r}(h:wN c d=V r):Pure prog 163 [.a (b0 c),vs d] (.t [vi r.1,vi r.2]):=by
 refine pq tok 37 func163 ?_;unfold wN at h;have⟨x1,Θ,h⟩:=ι h;refine sg (sg (Ω.call (Y3 Θ) lz (sq (sg (ct h (λhb h=>?_) λhb h=>?_)))))
 .cases h;exact sg (rt (Fz.t fq))
 refine sk (sg (Ok.dy (λv1=>⟨Ψ [(8,vi v1)],[]⟩) (λv1=>Kn v1=V r) ?_ ?_))
 .refine sg ⟨_,au _,λ_=>bl (Ok.loop (λ(s1:Int×Int)=>⟨Ψ [(2,.b 2 0),(8,vi s1.1),(19,.s (mG x1.1)),(20,vi (x1.1.length:Int)),(21,vi s1.2)],[(2,.box (b0 c))]⟩) (zz x1 c) (s0:=(1,0)) h (wt Q5 ⟨hr,Q0⟩ rfl) ?_)⟩;intro s1 y1 ζ aB;unfold zz at ζ;refine sg (sq (ct ζ (λhb ζ=>?_) λhb ζ=>?_))
  .have⟨x2,ar,ζ⟩:=ι ζ;have⟨x3,aL,ζ⟩:=ι ζ;refine sk (sq (bl (sg ⟨_,aO ar,_,aP ar,_,rfl,sg ⟨_,rfl,Ω.call (Q9 aL) lz (sg (ct ζ (λhb ζ=>?_) λhb ζ=>?_))⟩⟩)))
   .refine sg (rt ?_);have ζ:=aT ζ aB;cases ζ;exact(Fz.t fq)
   have⟨aj,ζ⟩:=aq ζ;exact sk (rg (ah ⟨aj,_,sj ζ,wt Q5 J1 rfl⟩))
  refine xt ?_;have ζ:=aT ζ aB;exact⟨_,ζ,wt Q1 Q0 rfl⟩
 intro v1 h;unfold Kn at h;cases h;exact sg (rt (Fz.t fq))
def zI{c d r}(h:qB c d=V r):Pure prog 176 [.a (b0 c),vi d] (.t [.a (b4 r.1),vb r.2]):=by
 refine pq tok 13 func176 ?_;unfold qB at h;have⟨x1,Θ,h⟩:=ι h;refine sg (sg ⟨_,rfl,Ω.fj (id:=8) (uA Θ) rfl (.box lz) rfl (.cons (Lr.b) (.cons (Lr.cP rfl) .nil)) ?_⟩);rintro _ _ ⟨rfl,rfl⟩;cases h;exact⟨_,rfl,rt ⟨_,rfl,Fz.t fq⟩⟩
def aju{K d e f g i j k l o t u w z y A B C D E F G I J r}(h:Dd K d e f g i j k l o t u w z y A B C D E F G I J=V r):Ω prog 164 [.b 1000 0,vi K] ⟨aR,[(1000,.box (iK d e f g i j k l o t u w z y A B C D E F G I J))]⟩ λx s=>x=(.a (k8 r.1 r.2.1 r.2.2.1 r.2.2.2.1 r.2.2.2.2.1 r.2.2.2.2.2))/\s.H=[(1000,.box (iK d e f g i j k l o t u w z y A B C D E F G I J))]:=by
 refine pg tok 19 func164 ?_;unfold Dd at h;have⟨x1,Θ,h⟩:=ι h;cases h;exact sg (sg ⟨_,rfl,Ω.call (zI Θ) lz ⟨_,rfl,sg ⟨_,rfl,_,rfl,rt ⟨_,rfl,wt Q1 J1 rfl⟩⟩⟩⟩)
def Rb{L d e f g i j k l o t u w z A B C D E F G I J K}{q:Int⊕(mr)}(h:xL L d e f g i j k l o t u w z A B C D E F G I J K=V q):kQ prog eI 113 [.b 1000 0,vs L] ⟨aR,[(1000,.box (iK d e f g i j k l o t u w z A B C D E F G I J K))]⟩ (λx s=>∃y:mr,q=.inr y/\x=(.a (k8 y.1 y.2.1 y.2.2.1 y.2.2.2.1 y.2.2.2.2.1 y.2.2.2.2.2))/\s.H=[(1000,.box (iK d e f g i j k l o t u w z A B C D E F G I J K))]) λm s=>q=.inl m/\s.H=[]:=by
 refine px tok 23 func113 ?_;unfold xL at h;have⟨x1,Θ,h⟩:=ι h;have⟨x2,ar,h⟩:=ι h;refine sg (sg ⟨_,rfl,Ω.call (Zq Θ) lz (sq (Ok.jI eI tok (ah (fJ (cx [] [] (wR ar) nq Q0 (λe1 cW=>?_) (λy1 gq=>?_))))))⟩)
 .have h:=iy h cW;cases h;exact⟨_,rfl,rfl⟩
 have h:=iz h gq;have⟨x3,aL,h⟩:=ι h;cases h;exact sg (cg [(1000,1000)] [] (aju aL) (.cons (Ln.b rfl) nq) ⟨⟨1000,_,rfl,rfl,.box nq⟩,Q0⟩ ⟨_,rfl,rt ⟨_,rfl,_,rfl,wt Q1 J1 rfl⟩⟩)
def ajs{a d e f g i j k l o u w z A B C D E F G I J K}{q:Int⊕(Int×Int)}(h:Dc a d e f g i j k l o u w z A B C D E F G I J K=V q):kQ prog eI 62 [.b 1000 0] ⟨aR,[(1000,.box (iK a d e f g i j k l o u w z A B C D E F G I J K))]⟩ (λx s=>∃y:Int×Int,q=.inr y/\x=(.t [])/\s.H=[(1000,.box (iK a d e f g i j k l o u w z A B C D E 0 y.1 y.2 0 0))]) λm s=>q=.inl m/\s.H=[]:=by
 refine px tok 18 func62 ?_;unfold Dc at h;have⟨x1,Θ,h⟩:=ι h;refine sq (Ok.jI eI tok (ah (ah (ah (ah (ah (ah (⟨_,rfl,fJ (cx [(1000,1000)] [] (Rb Θ) (.cons (Ln.b rfl) nq) ⟨⟨1000,_,rfl,rfl,.box nq⟩,Q0⟩ (λe1 cW=>?_) (λy1 gq=>?_))⟩))))))))
 .have h:=iy h cW;cases h;exact⟨_,rfl,rfl⟩
 have h:=iz h gq;cases h;exact ah (ah (⟨_,rfl,rg ⟨_,rfl,_,rfl,_,rfl,_,rfl,wt Q1 J1 rfl⟩⟩))
def ah7[oC]{a r}(h:Er a=V r):Pure prog 228 [.s (mG a)] (vs r):=by
 refine pq tok 9 func228 ?_;unfold Er at h;refine sg (sq (sg ⟨_,au _,λ_=>ct h (λhb h=>?_) λhb h=>?_⟩))
 .cases h;exact sg (rt Fz.v)
 have⟨aj,h⟩:=aq h;have⟨aX,h⟩:=aq h;cases h;exact sk (sg (Ω.call (adR a ([47]) aj) lz ⟨Qq aX,_,Qr _ _,rt Fz.v⟩))
def ah8[oC]{a r}(h:Es a=V r):Pure prog 165 [vs a] (.t (VH r.1 r.2.1 r.2.2)):=by
 refine pq tok 31 func165 ?_;unfold Es at h;have⟨x1,Θ,h⟩:=ι h;have⟨v1,ν,h⟩:=ι h;refine sg (sg (Ω.call (Y3 Θ) lz (sq (Ok.aD ⟨Ψ [(5,.s (mG x1.1)),(19,vb v1)],[]⟩ ?_ ?_))))
 .have⟨c1,ξ,ν⟩:=ι ν;refine rg (Br.cA ξ (λhb ξ=>?_) λhb ξ=>?_)
  .cases ξ;cases ν;exact wt Q2 Q0 rfl
  refine⟨_,au _,λ_=>?_⟩;cases ξ;cases ν;exact wt Q2 Q0 rfl
 refine ct h (λhb h=>?_) λhb h=>?_
 .cases h;exact sg (rt (Fz.t fq))
 have⟨aj,h⟩:=aq h;have⟨x2,ar,h⟩:=ι h;have⟨aX,h⟩:=aq h;have⟨x3,aL,h⟩:=ι h;cases h;exact sk (sg ⟨_,au _,λ_=>(ah ⟨aj,sq (dw 11 tok mixed ⟨_,rfl,_,rfl,_,⟨_,aO ar,_,aP ar,rfl⟩,_,⟨_,rfl,rfl⟩,_,rfl,_,rfl,_,⟨_,gJ aX.1,Nat.zero_le _,pU aX,oc (f:=fg) (K:=1) (λ_=>rfl) x1.1,_,zu _ _ _,rfl⟩,_,⟨_,.dN (ah7 aL) lz,rfl⟩,_,rfl,_,rfl,_,rfl,Q0,rt (Fz.t fq)⟩)⟩)⟩)
def Ra[oC]{L a d e f g i j k l o u w z A B C D E F G I J K}{q:Int⊕(Int×(List UInt8))}(h:xK L a d e f g i j k l o u w z A B C D E F G I J K=V q):kQ prog eI 114 [.b 1000 0,vs L] ⟨aR,[(1000,.box (iK a d e f g i j k l o u w z A B C D E F G I J K))]⟩ (λx s=>∃y:Int×(List UInt8),q=.inr y/\x=(.t [vi y.1,vs y.2])/\s.H=[(1000,.box (iK a d e f g i j k l o u w z A B C D E F G I J K))]) λm s=>q=.inl m/\s.H=[]:=by
 refine px tok 33 func114 ?_;unfold xK at h;have⟨x1,Θ,h⟩:=ι h;have⟨x2,ar,h⟩:=ι h;refine sg (sg (Ω.call (ah8 Θ) lz (sq (Ok.jI eI tok (ah (fJ (cx [] [] (wR ar) nq Q0 (λe1 cW=>?_) (λy1 gq=>?_))))))))
 .have h:=iy h cW;cases h;exact⟨_,rfl,rfl⟩
 have h:=iz h gq;have⟨x3,aL,h⟩:=ι h;have⟨x4,aZ,h⟩:=ι h;refine sg ⟨_,rfl,Ω.call (Zq aL) lz (sq (Ok.jI eI tok (ah (fJ (cx [] [] (wR aZ) nq Q0 (λe2 j7=>?_) (λy2 mj=>?_))))))⟩
 .have h:=iy h j7;cases h;exact⟨_,rfl,rfl⟩
 have h:=iz h mj;cases h;exact sg (rt ⟨_,rfl,wt Q1 J1 rfl⟩)
def Q_{self a r}(h:Cj self a=V r):mO prog 185 [.b 1000 0,vi a] (.box (b5 self)) (λx c=>x=(.s (mB r.1))/\c=.box (b5 r.2)):=by
 refine qv (n:=44) (c:=f185.body.getD .skip) tok func185 (by kernel_rfl) rfl rfl nb ?_;unfold Cj at h;refine sg (sg (fJ (Ok.dy (λv1=>⟨Ψ [(5,.o 9)],[(9,.own 3 1 (mB v1.1)),(1000,.box (k0 v1.2.1 v1.2.2.1 v1.2.2.2))]⟩) (λv1=>Ko v1=V r) ?_ ?_)))
 .refine bl (Ok.loop (λ(s1:Int×(List τ)×Int×Int×(List Int))=>⟨Ψ [(0,.b 1000 0),(1,vi s1.1),(5,.o 9)],[(1000,.box (k0 s1.2.1 s1.2.2.1 s1.2.2.2.1)),(9,.own 3 1 (mB s1.2.2.2.2))]⟩) (zC) (s0:=(a,self.Tree.η,self.Tree.Next,self.Tree.ai,[a])) h (wt Q3 ⟨hr,hr,Q0⟩ rfl) ?_);intro s1 y1 ζ aB;unfold zC at ζ;have⟨v2,Φ,ζ⟩:=ι ζ;refine sq (Ok.aD ⟨Ψ [(0,.b 1000 0),(1,vi s1.1),(5,.o 9),(22,vb v2)],[(1000,.box (k0 s1.2.1 s1.2.2.1 s1.2.2.2.1)),(9,.own 3 1 (mB s1.2.2.2.2))]⟩ ?_ ?_)
  .have⟨c1,ξ,Φ⟩:=ι Φ;refine rg (Br.ite ξ (λhb ξ=>?_) λhb ξ=>?_)
   .refine⟨_,au _,λ_=>⟨_,rfl,_,au _,λ_=>?_⟩⟩;cases ξ;cases Φ;exact wt Q4 J2 rfl
   cases ξ;cases Φ;exact wt Q4 J2 rfl
  refine ct ζ (λhb ζ=>?_) λhb ζ=>?_
  .have⟨x1,Θ,ζ⟩:=ι ζ;refine sk (bl (sg (Ω.fj (id:=1000) (uA Θ) rfl (.box lz) rfl (.cons (Lr.b) (.cons (Lr.cP rfl) .nil)) ?_)));rintro _ _ ⟨rfl,rfl⟩;have⟨v3,aA,ζ⟩:=ι ζ;refine⟨_,rfl,sq (Ok.aD ⟨Ψ [(0,.b 1000 0),(5,.o 9),(6,.b 6 0),(35,vb v3)],[(1000,.box (b5 x1.2)),(9,.own 3 1 (mB s1.2.2.2.2)),(6,.box (b4 x1.1.1))]⟩ ?_ ?_)⟩
   .have⟨c2,az,aA⟩:=ι aA;refine rg (Br.cA az (λhb az=>?_) λhb az=>?_)
    .cases az;cases aA;exact wt Q4 J3 rfl
    refine⟨_,rfl,?_⟩;cases az;cases aA;exact wt Q4 J3 rfl
   refine ct ζ (λhb ζ=>?_) λhb ζ=>?_
   .refine sg (rt ?_);have ζ:=aT ζ aB;cases ζ;exact⟨_,_,⟨rfl,rfl⟩,rfl,rfl,Fz.o rfl⟩
   have⟨aj,ζ⟩:=aq ζ;exact sk (sg ⟨_,rfl,rg (ah ⟨c_ (f:=Go.Cat.encI) (n:=1) (λ_=>rfl) ([x1.1.1.Up]),c8 (f:=Go.Cat.encI) (l:=s1.2.2.2.2) (l':=[x1.1.1.Up]) aj,_,(bO (f:=Go.Cat.encI) (l₁:=s1.2.2.2.2) (l₂:=[x1.1.1.Up])).symm,_,sj ζ,wt Q3 J2 rfl⟩)⟩)
  refine xt ?_;have ζ:=aT ζ aB;exact⟨_,ζ,wt Q1 ⟨hr,hr,Q0⟩ rfl⟩
 intro v1 h;unfold Ko at h;cases h;exact sg (rt ⟨_,_,⟨rfl,rfl⟩,rfl,rfl,Fz.o rfl⟩)
def Zt{self a r}(h:Cf self a=V r):mO prog 229 [.b 1000 0,vi a] (.box (b5 self)) (λx c=>x=(vi r.1)/\c=.box (b5 r.2)):=by
 refine qv (n:=10) (c:=f229.body.getD .skip) tok func229 (by kernel_rfl) rfl rfl nb ?_;unfold Cf at h;have⟨x1,Θ,h⟩:=ι h;refine sg (sg (Ω.fj (id:=1000) (Q_ Θ) rfl (.box lz) rfl (.cons (Lr.b) (.cons (Lr.cP rfl) .nil)) ?_));rintro _ _ ⟨rfl,rfl⟩;have⟨aj,h⟩:=aq h;cases h;exact⟨_,au _,λ_=>(ah ⟨aj,rt ⟨_,_,⟨rfl,rfl⟩,rfl,rfl,Fz.v⟩⟩)⟩
def ajp{self a d r}(h:QE self a d=V r):mO prog 166 [.b 1000 0,vi a,vs d] (.box (b5 self)) (λx c=>x=(vi r.1)/\c=.box (b5 r.2)):=by
 refine qv (n:=48) (c:=f166.body.getD .skip) tok func166 (by kernel_rfl) rfl rfl nb ?_;unfold QE at h;have⟨x1,Θ,h⟩:=ι h;refine sg (sg (Ω.fj (id:=1000) (KA Θ) rfl (.box lz) rfl (.cons (Lr.b) (.cons (Lr.cP rfl) .nil)) ?_));rintro _ _ ⟨rfl,rfl⟩;refine⟨_,rfl,sq (sg (ct h (λhb h=>?_) λhb h=>?_))⟩
 .cases h;exact sg (rt ⟨_,_,⟨rfl,rfl⟩,rfl,rfl,Fz.v⟩)
 have⟨x2,ar,h⟩:=ι h;refine sk (sq (sg (Ω.call (Ks ar) lz (ct h (λhb h=>?_) λhb h=>?_))))
 .cases h;exact sg (rt ⟨_,_,⟨rfl,rfl⟩,rfl,rfl,Fz.v⟩)
 have⟨x3,aL,h⟩:=ι h;refine sk (sq (sg ⟨_,rfl,Ω.call (Cr aL) lz (sg (ct h (λhb h=>?_) λhb h=>?_))⟩))
 .cases h;exact sg (rt ⟨_,_,⟨rfl,rfl⟩,rfl,rfl,Fz.v⟩)
 have⟨v1,ν,h⟩:=ι h;refine sk (sq (Ok.aD ⟨Ψ [(47,vb v1.1)],[(1000,.box (k0 v1.2.1 v1.2.2.1 v1.2.2.2))]⟩ ?_ ?_))
 .have⟨c1,ξ,ν⟩:=ι ν;refine rg ⟨_,rfl,_,au _,λ_=>Br.cA ξ (λhb ξ=>?_) λhb ξ=>?_⟩
  .cases ξ;have⟨c2,az,ν⟩:=ι ν;replace az:=dS az;cases az;cases ν;exact wt Q1 J1 rfl
  have⟨x4,aZ,ξ⟩:=ι ξ;refine Ω.fj (id:=1000) (Zt aZ) rfl (.box lz) rfl (.cons (Lr.b) (.cons (Lr.cP rfl) .nil)) ?_;rintro _ _ ⟨rfl,rfl⟩;cases ξ;have⟨c2,aQ,ν⟩:=ι ν;refine Br.cA aQ (λhb aQ=>?_) λhb aQ=>?_
  .cases aQ;cases ν;exact wt Q1 J1 rfl
  refine⟨_,rfl,?_⟩;cases aQ;cases ν;exact wt Q1 J1 rfl
 refine ct h (λhb h=>?_) λhb h=>?_
 .cases h;exact sg (rt ⟨_,_,⟨rfl,rfl⟩,rfl,rfl,Fz.v⟩)
 cases h;exact sk (sg (rt ⟨_,_,⟨rfl,rfl⟩,rfl,rfl,Fz.v⟩))
end Go.Proofs
