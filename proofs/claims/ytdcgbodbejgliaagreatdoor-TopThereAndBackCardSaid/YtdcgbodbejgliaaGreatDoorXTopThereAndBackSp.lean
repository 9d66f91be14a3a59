/- The plain programs of this seat. No condition. -/
import Derived.Test.YtdcgbodbejgliaaGreatDoorXTopThereAndBackCatP6
open Option renaming some->V
open List renaming replicate->ia
namespace Go.Proofs
noncomputable section
set_option linter.all false
open Go Go.Cat
abbrev u1:=fh 1 62 ([]:List (Int×Int))
abbrev u2:=fh 2 63 u1
abbrev u3:=fh 3 64 u2
abbrev u4:=fh 4 65 u3
abbrev u5:=fh 5 66 u4
abbrev u6:=fh 6 67 u5
abbrev u7:=fh 7 68 u6
abbrev u8:=fh 8 69 u7
abbrev u9:=fh 9 70 u8
abbrev QF:=fh 10 71 u9
abbrev QG:=fh 11 72 QF
abbrev QH:=fh 12 73 QG
abbrev QI:=fh 13 74 QH
abbrev QJ:=fh 14 75 QI
abbrev QK:=fh 15 76 QJ
abbrev u16:=fh 16 77 QK
abbrev uz:=fh 17 78 u16
variable[K:LK]
structure dO where
 θ:Int
 gp:Int
 ib:List UInt8
 To:List UInt8
 N:Int
 M:Int
 iR:Int
 aK:List UInt8
structure aH where
 aC:List UInt8
 κ:Int
 ai:Int
structure τ where
 κ:Int
 θ:Int
 a_:Int
 aK:List UInt8
 ψ:List aH
 Up:Int
structure Γ where
 η:List τ
 Next:Int
 ai:Int
structure cq where
 th:Int
 tp:Int
 rS:τ
structure cG where
 Id:Int
 κ:Int
 At:Int
structure cd where
 aw:Γ
 bE:Int
 dh:List Int
 cM:List cq
 cm:List cG
 Next:Int
structure bg where
 gp:Int
 iR:Int
 κ:Int
structure aJ where
 κ:Int
 η:Int
 uO:Int
structure cy where
 S:cd
 Holds:List bg
 et:List aJ
structure da where
 mN:Int
 κ:Int
 θ:Int
 N:Int
 M:Int
 jy:List (List UInt8)
 aK:List UInt8
structure dC where
 Tree:Γ
structure IY where
 b_:List UInt8
structure mq where
 jc:IY
 e_:Int
abbrev eK:=(List τ)×Int×Int
abbrev mr:=Int×Int×Int×(List UInt8)×(List aH)×Int
abbrev zD:=(List τ)×Int×Int×Int×(List Int)×(List cq)×(List cG)×Int×(List aJ)
abbrev Ck:=(List τ)×Int×Int×Int×(List Int)×(List cq)×(List cG)×Int×(List bg)×(List aJ)
abbrev pW:=(List τ)×Int×Int×Int×(List (Int×Bool))
abbrev Cm:=(List τ)×Int×Int×Int×(List Int)×(List cq)×(List cG)×Int×Int×(List aJ)
abbrev rE:=Int×Int×(List (List UInt8))
abbrev sY:=Int×(List Bool)×(List Int)
def QC:Option Γ:=V (⟨[(⟨1,2,0,[],[],1⟩:τ)],2,1⟩:Γ)
def PV(a:Γ):Option cd:=χ ((0:Int)<=(a.η.length:Int)/\(a.η.length:Int).toNat*8<=140737488355328) (V (⟨a,0,(ia (a.η.length:Int).toNat (0:Int)),[],[],1⟩:cd))
def Mc:Option cy:=(QC).bind λx1=>(PV x1).bind λx2=>V (⟨x2,[],[]⟩:cy)
def Dh:Option Unit:=χ (ae 1/\([]:List (Int×Int)).length<140737488355328) (χ (ae 2/\u1.length<140737488355328) (χ (ae 3/\u2.length<140737488355328) (χ (ae 4/\u3.length<140737488355328) (χ (ae 5/\u4.length<140737488355328) (χ (ae 6/\u5.length<140737488355328) (χ (ae 7/\u6.length<140737488355328) (χ (ae 8/\u7.length<140737488355328) (χ (ae 9/\u8.length<140737488355328) (χ (ae 10/\u9.length<140737488355328) (χ (ae 11/\QF.length<140737488355328) (χ (ae 12/\QG.length<140737488355328) (χ (ae 13/\QH.length<140737488355328) (χ (ae 14/\QI.length<140737488355328) (χ (ae 15/\QJ.length<140737488355328) (χ (ae 16/\QK.length<140737488355328) (χ (ae 17/\u16.length<140737488355328) (V ())))))))))))))))))
def oH(a:Int):Option (Int⊕Unit):=if(a != 0)then V (.inl a)else V (.inr ())
def xI(a:Bool)(b:Int):Option (Int⊕Unit):=if(!a)then(oH b).bind λx1=>fH x1 (λe1=>V (.inl e1)) λ_=>V (.inr ())else V (.inr ())
def IF(a:List UInt8):Option Unit:=V ()
def Ik(b a:List UInt8):Option Bool:=((if(decide ((b.length:Int)>=(a.length:Int)))then χ ((0:Int)<=0/\0<=(a.length:Int)/\(a.length:Int)<=(b.length:Int)) (V ((sub b 0 (a.length:Int))==a))else V false).bind λc1=>V c1).bind λv1=>V v1
def Ij(a b:List UInt8):Option ((List UInt8)×Bool):=(Ik a b).bind λx1=>if(!x1)then V (a,false)else χ ((0:Int)<=(b.length:Int)/\(b.length:Int)<=(a.length:Int)/\(a.length:Int)<=(a.length:Int)) (V ((sub a (b.length:Int) (a.length:Int)),true))
def FV(a b:List UInt8):Option ((List UInt8)×Bool):=(Ij a b).bind λx1=>V (x1.1,x1.2)
def IE(_v2:Unit):Option Bool:=V true
def ID(a:List UInt8)(s1:Nat):Option ((Nat)⊕Bool):=if(decide (s1<a.length))then((if(decide ((((pA a s1).1:Nat):Int)<32))then V true else V ((((pA a s1).1:Nat):Int)==47)).bind λc4=>V c4).bind λv3=>if v3 then out (V false)else V (.inl (s1+(pA a s1).2))else out (IE ())
def On(a:List UInt8)(s1:Nat):Option Bool:=loop (ID a) s1
def wb(a:List UInt8):Option Bool:=((if(a==([]))then V true else V (decide ((a.length:Int)>32))).bind λc1=>(if c1 then V true else V (a==([46]))).bind λc2=>(if c2 then V true else V (a==([46,46]))).bind λc3=>V c3).bind λv1=>if v1 then V false else On a 0
def Bi(b:List UInt8)(c:Bool)(d:Int)(a:List (List UInt8)):Option (LS×Int×(List (List UInt8))):=((if(!c)then V true else(wb b).bind λx1=>V (!x1)).bind λc1=>(if c1 then V true else V ((a.length:Int)==12)).bind λc2=>V c2).bind λv1=>if v1 then V (.ret,60,a)else χ ((a.length+([b]).length)*16<=140737488355328) (V (.jb,d,(a++[b])))
def II(s1:LS×(List UInt8)×Int×(List (List UInt8))):Option ((LS×(List UInt8)×Int×(List (List UInt8)))⊕(LS×Int×(List UInt8)×(List (List UInt8)))):=if(!(s1.2.1==([])))then(FV s1.2.1 ([47])).bind λx1=>(if(decide ((ni x1.1 47)<0))then V (x1.1.length:Int)else V (ni x1.1 47)).bind λv1=>χ ((0:Int)<=0/\0<=v1/\v1<=(x1.1.length:Int)) (χ (s1.1=.jb) ((Bi (sub x1.1 0 v1) x1.2 s1.2.2.1 s1.2.2.2).bind λx2=>if(!(LS.vV x2.1))then out (V (x2.1,x2.2.1,s1.2.1,x2.2.2))else χ ((0:Int)<=v1/\v1<=(x1.1.length:Int)/\(x1.1.length:Int)<=(x1.1.length:Int)) (V (.inl (x2.1,(sub x1.1 v1 (x1.1.length:Int)),x2.2.1,x2.2.2)))))else out (V (s1.1,s1.2.2.1,s1.2.1,s1.2.2.2))
def Wb(s1:LS×(List UInt8)×Int×(List (List UInt8))):Option (LS×Int×(List UInt8)×(List (List UInt8))):=loop II s1
def IG(a:Int)(b:List UInt8):Option (LS×Int×(List UInt8)×(List (List UInt8))):=Wb (.jb,b,a,[])
def Bh(a:List UInt8):Option ((List (List UInt8))×Int):=if(a==([47]))then V ([],0)else(IF a).bind λ_=>(IG 0 a).bind λx2=>if x2.1=.jb then if((x2.2.2.2.length:Int)==0)then V ([],60)else V (x2.2.2.2,0)else if x2.1=.ret then V ([],x2.2.1)else none
def cmp_isNaN_int(a:Int):Option Bool:=V (a != a)
def vg(a b:Int):Option Int:=(cmp_isNaN_int a).bind λx1=>(cmp_isNaN_int b).bind λx2=>if x1 then if x2 then V 0 else V (-1)else if x2 then V 1 else if(decide (a<b))then V (-1)else if(decide (a>b))then V 1 else V 0
def zA(a:τ)(b:Int):Option Int:=(vg a.κ b).bind λx1=>V x1
def P6(a:List τ)(b:Int)(s1:Int×Int):Option ((Int×Int)⊕Int):=if(decide (s1.1<s1.2))then χ (ae (s1.1+s1.2)) ((idx a (IntKind.i64.wrap (gS .u64 (IntKind.u64.wrap (s1.1+s1.2)) 1))).bind λx1=>(zA x1 b).bind λx2=>if(decide (x2<0))then χ (ae ((IntKind.i64.wrap (gS .u64 (IntKind.u64.wrap (s1.1+s1.2)) 1))+1)) (V (.inl (((IntKind.i64.wrap (gS .u64 (IntKind.u64.wrap (s1.1+s1.2)) 1))+1),s1.2)))else V (.inl (s1.1,(IntKind.i64.wrap (gS .u64 (IntKind.u64.wrap (s1.1+s1.2)) 1)))))else out (V s1.1)
def ag3(a:List τ)(b:Int)(s1:Int×Int):Option Int:=loop (P6 a b) s1
def P5(a:List τ)(b:Int):Option (Int×Bool):=(ag3 a b (0,(a.length:Int))).bind λv1=>((if(decide (v1<(a.length:Int)))then(idx a v1).bind λx3=>(zA x3 b).bind λx4=>V (x4==0)else V false).bind λc1=>V c1).bind λv2=>V (v1,v2)
def sX(self:dC)(a:Int):Option ((Int×Bool)×dC):=(P5 self.Tree.η a).bind λx1=>V ((x1.1,x1.2),self)
def pV(self:dC)(a:Int):Option ((τ×Bool)×dC):=(sX self a).bind λx1=>if(!x1.1.2)then V (((⟨0,0,0,[],[],0⟩:τ),false),x1.2)else(idx x1.2.Tree.η x1.1.1).bind λx2=>V ((x2,true),x1.2)
def wO(self:dC)(a:Int):Option ((τ×Int)×dC):=(pV self a).bind λx1=>if(!x1.1.2)then V (((⟨0,0,0,[],[],0⟩:τ),70),x1.2)else if(x1.1.1.θ != 2)then V (((⟨0,0,0,[],[],0⟩:τ),73),x1.2)else V ((x1.1.1,0),x1.2)
def Cd(a:aH)(b:List UInt8):Option Int:=V (mR a.aC b)
def P4(a:List aH)(b:List UInt8)(s1:Int×Int):Option ((Int×Int)⊕Int):=if(decide (s1.1<s1.2))then χ (ae (s1.1+s1.2)) ((idx a (IntKind.i64.wrap (gS .u64 (IntKind.u64.wrap (s1.1+s1.2)) 1))).bind λx1=>(Cd x1 b).bind λx2=>if(decide (x2<0))then χ (ae ((IntKind.i64.wrap (gS .u64 (IntKind.u64.wrap (s1.1+s1.2)) 1))+1)) (V (.inl (((IntKind.i64.wrap (gS .u64 (IntKind.u64.wrap (s1.1+s1.2)) 1))+1),s1.2)))else V (.inl (s1.1,(IntKind.i64.wrap (gS .u64 (IntKind.u64.wrap (s1.1+s1.2)) 1)))))else out (V s1.1)
def ag2(a:List aH)(b:List UInt8)(s1:Int×Int):Option Int:=loop (P4 a b) s1
def P3(a:List aH)(b:List UInt8):Option (Int×Bool):=(ag2 a b (0,(a.length:Int))).bind λv1=>((if(decide (v1<(a.length:Int)))then(idx a v1).bind λx3=>(Cd x3 b).bind λx4=>V (x4==0)else V false).bind λc1=>V c1).bind λv2=>V (v1,v2)
def sW(a:τ)(b:List UInt8):Option (Int×Bool):=(P3 a.ψ b).bind λx1=>V (x1.1,x1.2)
def wM(b:Γ)(c:Int)(a:List UInt8):Option (Int×Int):=(wO (⟨b⟩:dC) c).bind λx1=>if(x1.1.2 != 0)then V (0,x1.1.2)else(wb a).bind λx2=>if(!x2)then V (0,60)else(sW x1.1.1 a).bind λx3=>if(!x3.2)then V (0,70)else(idx x1.1.1.ψ x3.1).bind λx4=>V (x4.κ,0)
def Kn(v1:Int):Option (Int×Int):=V (v1,0)
def zz(x1:(List (List UInt8))×Int)(a:Γ)(s1:Int×Int):Option ((Int×Int)⊕(Int×Int)):=if(decide (s1.2<(x1.1.length:Int)))then(idx x1.1 s1.2).bind λx2=>(wM a s1.1 x2).bind λx3=>if(x3.2 != 0)then out (V (0,x3.2))else χ (ae (s1.2+1)) (V (.inl (x3.1,(s1.2+1))))else out (Kn s1.1)
def YQ(x1:(List (List UInt8))×Int)(a:Γ)(s1:Int×Int):Option (Int×Int):=loop (zz x1 a) s1
def wN(a:Γ)(b:List UInt8):Option (Int×Int):=(Bh b).bind λx1=>if(x1.2 != 0)then V (0,x1.2)else YQ x1 a (1,0)
def qB(a:Γ)(b:Int):Option (τ×Bool):=(pV (⟨a⟩:dC) b).bind λx1=>V (x1.1.1,x1.1.2)
def Dd(a:Int)(b:List τ)(c d e:Int)(f:List Int)(g:List cq)(i:List cG)(j:Int)(k:List bg)(l:List aJ)(o s:Int)(t u:List UInt8)(w z y:Int)(A:List UInt8)(B C D E F:Int):Option (mr):=(qB (⟨b,c,d⟩:Γ) a).bind λx1=>V (x1.1.κ,x1.1.θ,x1.1.a_,x1.1.aK,x1.1.ψ,x1.1.Up)
def xL(d:List UInt8)(a:List τ)(b c e:Int)(f:List Int)(g:List cq)(i:List cG)(j:Int)(k:List bg)(l:List aJ)(o s:Int)(t u:List UInt8)(w z y:Int)(A:List UInt8)(B C D E F:Int):Option (Int⊕(mr)):=(wN (⟨a,b,c⟩:Γ) d).bind λx1=>(oH x1.2).bind λx2=>fH x2 (λe1=>V (.inl e1)) λ_=>(Dd x1.1 a b c e f g i j k l o s t u w z y A B C D E F).bind λx3=>V (.inr (x3.1,x3.2.1,x3.2.2.1,x3.2.2.2.1,x3.2.2.2.2.1,x3.2.2.2.2.2))
def Dc(b:List τ)(c d e:Int)(f:List Int)(g:List cq)(i:List cG)(j:Int)(k:List bg)(l:List aJ)(o s:Int)(a t:List UInt8)(u w z:Int)(y:List UInt8)(A B C D E:Int):Option (Int⊕(Int×Int)):=(xL a b c d e f g i j k l o s a t u w z y A B C D E).bind λx1=>fH x1 (λe1=>V (.inl e1)) λy1=>V (.inr (y1.1,y1.2.1))
def Er(a:List (List UInt8)):Option (List UInt8):=if((a.length:Int)==0)then V ([47])else χ (a.length<=140737488355328/\(ke a ([47])).length<=140737488355328) (χ (([47]).length+(ke a ([47])).length<=9223372036854775807) (V ([47]++(ke a ([47])))))
def Es(a:List UInt8):Option ((List UInt8)×(List UInt8)×Int):=(Bh a).bind λx1=>((if(x1.2 != 0)then V true else V ((x1.1.length:Int)==0)).bind λc1=>V c1).bind λv1=>if v1 then V ([],[],60)else χ (ae ((x1.1.length:Int)-1)) ((idx x1.1 ((x1.1.length:Int)-1)).bind λx2=>χ ((0:Int)<=((x1.1.length:Int)-1)/\((x1.1.length:Int)-1)<=(x1.1.length:Int)) ((Er (x1.1.take ((x1.1.length:Int)-1).toNat)).bind λx3=>V (x2,x3,0)))
def xK(a:List UInt8)(b:List τ)(c d e:Int)(f:List Int)(g:List cq)(i:List cG)(j:Int)(k:List bg)(l:List aJ)(o s:Int)(t u:List UInt8)(w z y:Int)(A:List UInt8)(B C D E F:Int):Option (Int⊕(Int×(List UInt8))):=(Es a).bind λx1=>(oH x1.2.2).bind λx2=>fH x2 (λe1=>V (.inl e1)) λ_=>(wN (⟨b,c,d⟩:Γ) x1.2.1).bind λx3=>(oH x3.2).bind λx4=>fH x4 (λe2=>V (.inl e2)) λ_=>V (.inr (x3.1,x1.1))
def Ko(v1:(List Int)×eK):Option ((List Int)×dC):=V (v1.1,(⟨(⟨v1.2.1,v1.2.2.1,v1.2.2.2⟩:Γ)⟩:dC))
def zC(s1:Int×(List τ)×Int×Int×(List Int)):Option ((Int×(List τ)×Int×Int×(List Int))⊕((List Int)×dC)):=((if(s1.1 != 1)then V (decide ((s1.2.2.2.2.length:Int)<=(s1.2.1.length:Int)))else V false).bind λc1=>V c1).bind λv2=>if v2 then(pV (⟨(⟨s1.2.1,s1.2.2.1,s1.2.2.2.1⟩:Γ)⟩:dC) s1.1).bind λx1=>((if(!x1.1.2)then V true else V (x1.1.1.θ != 2)).bind λc2=>V c2).bind λv3=>if v3 then out (V (s1.2.2.2.2,x1.2))else χ ((s1.2.2.2.2.length+([x1.1.1.Up]).length)*8<=140737488355328) (V (.inl (x1.1.1.Up,x1.2.Tree.η,x1.2.Tree.Next,x1.2.Tree.ai,(s1.2.2.2.2++[x1.1.1.Up]))))else out (Ko (s1.2.2.2.2,s1.2.1,s1.2.2.1,s1.2.2.2.1))
def ahE(s1:Int×(List τ)×Int×Int×(List Int)):Option ((List Int)×dC):=loop zC s1
def Cj(self:dC)(a:Int):Option ((List Int)×dC):=ahE (a,self.Tree.η,self.Tree.Next,self.Tree.ai,[a])
def Cf(self:dC)(a:Int):Option (Int×dC):=(Cj self a).bind λx1=>χ (ae ((x1.1.length:Int)-1)) (V (((x1.1.length:Int)-1),x1.2))
def QE(self:dC)(a:Int)(b:List UInt8):Option (Int×dC):=(wO self a).bind λx1=>if(x1.1.2 != 0)then V (x1.1.2,x1.2)else(wb b).bind λx2=>if(!x2)then V (60,x1.2)else(sW x1.1.1 b).bind λx3=>if x3.2 then V (71,x1.2)else((if(decide ((x1.1.1.ψ.length:Int)>=64))then V (true,x1.2.Tree.η,x1.2.Tree.Next,x1.2.Tree.ai)else(Cf x1.2 a).bind λx4=>V ((decide (x4.1>=12)),x4.2.Tree.η,x4.2.Tree.Next,x4.2.Tree.ai)).bind λ(c1:Bool×eK)=>(if c1.1 then V true else V (decide (c1.2.2.2>=1099511627776))).bind λc2=>V (c2,c1.2.1,c1.2.2.1,c1.2.2.2)).bind λv1=>if v1.1 then V (76,(⟨(⟨v1.2.1,v1.2.2.1,v1.2.2.2⟩:Γ)⟩:dC))else V (0,(⟨(⟨v1.2.1,v1.2.2.1,v1.2.2.2⟩:Γ)⟩:dC))
def zv(a:List τ):Option (List τ):=ve a 80
def zB(a:τ)(b:dC):Option (Int×Int×(List τ)):=(sX b a.κ).bind λx1=>(zv x1.2.Tree.η).bind λx2=>if x1.1.2 then(idx x2 x1.1.1).bind λ_=>V (x1.2.Tree.Next,x1.2.Tree.ai,(x2.set x1.1.1.toNat a))else χ ((0:Int)<=x1.1.1/\x1.1.1<=(x2.length:Int)/\0<([a]).length/\(x2.length+([a]).length)*80<=140737488355328) (V (x1.2.Tree.Next,x1.2.Tree.ai,(eQ x2 x1.1.1 ([a]))))
def wH(a:List aH):Option (List aH):=ve a 32
def Ci(a b c:Int)(d:List UInt8)(e:Int)(g:dC)(f:List aH):Option (Int×Int×(List τ)):=(sX g a).bind λx1=>(zv x1.2.Tree.η).bind λx2=>if x1.1.2 then(idx x2 x1.1.1).bind λ_=>V (x1.2.Tree.Next,x1.2.Tree.ai,(x2.set x1.1.1.toNat (⟨a,b,c,d,f,e⟩:τ)))else χ ((0:Int)<=x1.1.1/\x1.1.1<=(x2.length:Int)/\0<([(⟨a,b,c,d,f,e⟩:τ)]).length/\(x2.length+([(⟨a,b,c,d,f,e⟩:τ)]).length)*80<=140737488355328) (V (x1.2.Tree.Next,x1.2.Tree.ai,(eQ x2 x1.1.1 ([(⟨a,b,c,d,f,e⟩:τ)]))))
def QD(c:Int)(a:List UInt8)(b d e:Int)(f:List τ):Option (Int×Int×(List τ)):=(pV (⟨(⟨f,d,e⟩:Γ)⟩:dC) c).bind λx1=>(sW x1.1.1 a).bind λx2=>(wH x1.1.1.ψ).bind λx3=>χ ((0:Int)<=x2.1/\x2.1<=(x3.length:Int)/\0<([(⟨a,b,x1.2.Tree.ai⟩:aH)]).length/\(x3.length+([(⟨a,b,x1.2.Tree.ai⟩:aH)]).length)*32<=140737488355328) (χ (ae (x1.2.Tree.ai+1)) ((Ci x1.1.1.κ x1.1.1.θ x1.1.1.a_ x1.1.1.aK x1.1.1.Up (⟨(⟨x1.2.Tree.η,x1.2.Tree.Next,x1.2.Tree.ai+1⟩:Γ)⟩:dC) (eQ x3 x2.1 ([(⟨a,b,x1.2.Tree.ai⟩:aH)]))).bind λx4=>V (x4.1,x4.2.1,x4.2.2)))
def QA(a:Γ)(c:Int)(d:List UInt8)(b:Int):Option (Γ×Int×Int):=((if(b != 1)then V (b != 2)else V false).bind λc1=>V c1).bind λv1=>if v1 then V (a,0,1)else(QE (⟨a⟩:dC) c d).bind λx1=>if(x1.1 != 0)then V (a,0,x1.1)else((if(decide ((x1.2.Tree.η.length:Int)>=200))then V true else V (decide (x1.2.Tree.Next>=1099511627776))).bind λc2=>V c2).bind λv2=>if v2 then V (a,0,76)else(if(b==2)then V c else V 0).bind λv3=>χ (ae (x1.2.Tree.Next+1)) ((zB (⟨x1.2.Tree.Next,b,1,[],[],v3⟩:τ) (⟨(⟨x1.2.Tree.η,x1.2.Tree.Next+1,x1.2.Tree.ai⟩:Γ)⟩:dC)).bind λx2=>(QD c d x1.2.Tree.Next x2.1 x2.2.1 x2.2.2).bind λx3=>V ((⟨x3.2.2,x3.1,x3.2.1⟩:Γ),x1.2.Tree.Next,0))
def DO(a:τ):Option Bool:=((if(a.θ==1)then V (a.a_==0)else V false).bind λc1=>V c1).bind λv1=>V v1
def HX(a:Γ)(s1:Int×(List Int)):Option ((Int×(List Int))⊕(List Int)):=if(decide (s1.1<(a.η.length:Int)))then((idx a.η s1.1).bind λx1=>(DO x1).bind λx2=>if x2 then χ ((s1.2.length+([x1.κ]).length)*8<=140737488355328) (V (s1.2++[x1.κ]))else V s1.2).bind λv2=>χ (ae (s1.1+1)) (V (.inl ((s1.1+1),v2)))else out (V s1.2)
def Nj(a:Γ)(s1:Int×(List Int)):Option (List Int):=loop (HX a) s1
def AY(a:Γ):Option (List Int):=(Nj a (0,[])).bind λv1=>V v1
def Df(a:bg)(b:Int):Option Bool:=V (a.κ==b)
def Qg(_v1:Unit):Option Int:=V (-1)
def Qf(a:List bg)(b s1:Int):Option ((Int)⊕Int):=if(decide (s1<(a.length:Int)))then(idx a s1).bind λx1=>(Df x1 b).bind λx2=>if x2 then out (V s1)else χ (ae (s1+1)) (V (.inl (s1+1)))else out (Qg ())
def ag8(a:List bg)(b s1:Int):Option Int:=loop (Qf a b) s1
def Qe(a:List bg)(b:Int):Option Int:=ag8 a b 0
def FL(a:List bg)(b:Int):Option Bool:=(Qe a b).bind λx1=>V (decide (x1>=0))
def Cg(a:Int)(b:dC):Option (eK):=(sX b a).bind λx1=>if x1.1.2 then(zv x1.2.Tree.η).bind λx2=>χ (ae (x1.1.1+1)) (χ ((0:Int)<=x1.1.1/\x1.1.1<(x1.1.1+1)/\(x1.1.1+1)<=(x2.length:Int)) (V ((kU x2 x1.1.1 (x1.1.1+1)),x1.2.Tree.Next,x1.2.Tree.ai)))else V (x1.2.Tree.η,x1.2.Tree.Next,x1.2.Tree.ai)
def F9(a:Γ)(b:Int):Option (Γ×Int):=(pV (⟨a⟩:dC) b).bind λx1=>if(!x1.1.2)then V (a,70)else if(x1.1.1.θ==2)then V (a,72)else if(decide (x1.1.1.a_>0))then V (a,71)else(Cg b x1.2).bind λx2=>V ((⟨x2.1,x2.2.1,x2.2.2⟩:Γ),0)
def J6(a:List aJ):Option (List aJ):=ve a 24
def Mg(a:aJ)(b:List τ)(c d:Int):Option Bool:=(qB (⟨b,c,d⟩:Γ) a.κ).bind λx1=>V (!x1.2)
def Qj(_v1:Unit):Option Int:=V (-1)
def Qi(b:List aJ)(a:Γ)(s1:Int):Option ((Int)⊕Int):=if(decide (s1<(b.length:Int)))then(idx b s1).bind λx1=>(Mg x1 a.η a.Next a.ai).bind λx2=>if x2 then out (V s1)else χ (ae (s1+1)) (V (.inl (s1+1)))else out (Qj ())
def ag9(a:List aJ)(b:Γ)(s1:Int):Option Int:=loop (Qi a b) s1
def Qh(a:List aJ)(b:Γ):Option Int:=ag9 a b 0
def Dg(a:aJ)(b:Γ):Option Bool:=(qB b a.κ).bind λx1=>V (!x1.2)
def P_(a:Γ)(s1:Int×Int×(List aJ)):Option ((Int×Int×(List aJ))⊕(Int×(List aJ))):=if(decide (s1.2.1<(s1.2.2.length:Int)))then((idx s1.2.2 s1.2.1).bind λx2=>(Dg x2 a).bind λx3=>if(!x3)then(idx s1.2.2 s1.1).bind λ_=>χ (ae (s1.1+1)) (V ((s1.1+1),(s1.2.2.set s1.1.toNat x2)))else V (s1.1,s1.2.2)).bind λv2=>χ (ae (s1.2.1+1)) (V (.inl (v2.1,s1.2.1+1,v2.2)))else out (V (s1.1,s1.2.2))
def ag6(a:Γ)(s1:Int×Int×(List aJ)):Option (Int×(List aJ)):=loop (P_ a) s1
def J_(a:List aJ)(b:Γ):Option (List aJ):=(Qh a b).bind λx1=>if(x1==(-1))then V a else(χ (ae (x1+1)) (ag6 b (x1,x1+1,a))).bind λv1=>χ ((0:Int)<=v1.1/\v1.1<=(v1.2.length:Int)) (χ ((0:Int)<=v1.1/\v1.1<=((v1.2.take v1.1.toNat++ia (v1.2.length-v1.1.toNat) ((⟨0,0,0⟩:aJ):aJ)).length:Int)) (V ((v1.2.take v1.1.toNat++ia (v1.2.length-v1.1.toNat) ((⟨0,0,0⟩:aJ):aJ)).take v1.1.toNat)))
def yT(a:aJ)(b:Int):Option Int:=(vg a.κ b).bind λx1=>V x1
def P8(a:List aJ)(b:Int)(s1:Int×Int):Option ((Int×Int)⊕Int):=if(decide (s1.1<s1.2))then χ (ae (s1.1+s1.2)) ((idx a (IntKind.i64.wrap (gS .u64 (IntKind.u64.wrap (s1.1+s1.2)) 1))).bind λx1=>(yT x1 b).bind λx2=>if(decide (x2<0))then χ (ae ((IntKind.i64.wrap (gS .u64 (IntKind.u64.wrap (s1.1+s1.2)) 1))+1)) (V (.inl (((IntKind.i64.wrap (gS .u64 (IntKind.u64.wrap (s1.1+s1.2)) 1))+1),s1.2)))else V (.inl (s1.1,(IntKind.i64.wrap (gS .u64 (IntKind.u64.wrap (s1.1+s1.2)) 1)))))else out (V s1.1)
def ag4(a:List aJ)(b:Int)(s1:Int×Int):Option Int:=loop (P8 a b) s1
def P7(a:List aJ)(b:Int):Option (Int×Bool):=(ag4 a b (0,(a.length:Int))).bind λv1=>((if(decide (v1<(a.length:Int)))then(idx a v1).bind λx3=>(yT x3 b).bind λx4=>V (x4==0)else V false).bind λc1=>V c1).bind λv2=>V (v1,v2)
def EF(a:List aJ)(b:Int):Option (Int×Bool):=(P7 a b).bind λx1=>V (x1.1,x1.2)
def Bt(a:Int)(b:List aJ)(c:Int):Option (Bool×Int):=((EF b a).bind λx1=>if x1.2 then V a else V c).bind λv1=>V ((v1==0),v1)
def yU(a:List aJ)(b:Γ)(s1:Int×Int):Option ((Int×Int)⊕Int):=((Bt s1.1 a s1.2).bind λx1=>(if x1.1 then V (s1.1 != 1)else V false).bind λc1=>V (c1,x1.2)).bind λv1=>if v1.1 then(qB b s1.1).bind λx2=>V (.inl (x2.1.Up,v1.2))else out (V v1.2)
def WY(a:List aJ)(b:Γ)(s1:Int×Int):Option Int:=loop (yU a b) s1
def I5(a:Γ)(b:Int)(c:List aJ)(d:Int):Option Int:=WY c a (b,d)
def Bs(a:Γ)(b:List aJ)(c:Int):Option Int:=(I5 a c b 0).bind λx1=>V x1
def Hr(_v1:Unit):Option Bool:=V true
def Au(s1:Int×(List (Int×Int)))(v2:(List (Int×Int))):Option ((Int×(List (Int×Int)))⊕Bool):=χ (ae (s1.1+1)) (V (.inl ((s1.1+1),v2)))
def Hq(x1:τ)(a:Γ)(x2:Int)(s1:Int×(List (Int×Int)))(s2:Int×(List (Int×Int))):Option ((Int×(List (Int×Int)))⊕((Int×(List (Int×Int)))⊕Bool)):=if(decide (s2.1<(x1.ψ.length:Int)))then(idx x1.ψ s2.1).bind λx3=>(qB a x3.κ).bind λx4=>(V ((ei x3.κ s2.2).getD (0:Int))).bind λx5=>((if(x4.1.θ==1)then V ((ei x3.κ s2.2).isSome)else V false).bind λc1=>(if c1 then V (x5 != x2)else V false).bind λc2=>V c2).bind λv3=>if v3 then out (out (V false))else χ (ae x3.κ/\s2.2.length<140737488355328) (χ (ae (s2.1+1)) (V (.inl ((s2.1+1),(fh x3.κ x2 s2.2)))))else out (Au s1 s2.2)
def TC(x1:τ)(a:Γ)(x2:Int)(s1:Int×(List (Int×Int)))(s2:Int×(List (Int×Int))):Option ((Int×(List (Int×Int)))⊕Bool):=loop (Hq x1 a x2 s1) s2
def Ho(a:Γ)(b:List aJ)(s1:Int×(List (Int×Int))):Option ((Int×(List (Int×Int)))⊕Bool):=if(decide (s1.1<(a.η.length:Int)))then(idx a.η s1.1).bind λx1=>if((x1.ψ.length:Int)==0)then Au s1 s1.2 else(Bs a b x1.κ).bind λx2=>TC x1 a x2 s1 (0,s1.2)else out (Hr ())
def TB(a:Γ)(b:List aJ)(s1:Int×(List (Int×Int))):Option Bool:=loop (Ho a b) s1
def xJ(a:Γ)(b:List aJ):Option Bool:=TB a b (0,([]:List (Int×Int)))
def yS(x1:τ×Bool)(lx:(Int×Γ×Int×(List (Int×Bool)))->Option (pW))(s1:Int×pW):Option ((Int×pW)⊕(pW)):=if(decide (s1.1<(x1.1.ψ.length:Int)))then((idx x1.1.ψ s1.1).bind λx2=>(V ((ei x2.κ s1.2.2.2.2.2).getD (false:Bool))).bind λx3=>if(!x3)then χ (ae x2.κ/\s1.2.2.2.2.2.length<140737488355328) ((lx (x2.κ,(⟨s1.2.1,s1.2.2.1,s1.2.2.2.1⟩:Γ),s1.2.2.2.2.1,(fh x2.κ true s1.2.2.2.2.2))).bind λx4=>V (x4.1,x4.2.1,x4.2.2.1,x4.2.2.2.1,x4.2.2.2.2))else V (s1.2.1,s1.2.2.1,s1.2.2.2.1,s1.2.2.2.2.1,s1.2.2.2.2.2)).bind λv1=>χ (ae (s1.1+1)) (V (.inl ((s1.1+1),v1.1,v1.2.1,v1.2.2.1,v1.2.2.2.1,v1.2.2.2.2)))else out (V (s1.2.1,s1.2.2.1,s1.2.2.2.1,s1.2.2.2.2.1,s1.2.2.2.2.2))
def EE(x1:τ×Bool)(lx:(Int×Γ×Int×(List (Int×Bool)))->Option (pW))(s1:Int×pW):Option (pW):=loop (yS x1 lx) s1
def sO(lx:(Int×Γ×Int×(List (Int×Bool)))->Option (pW))(c:Int)(a:Γ)(b:Int)(d:List (Int×Bool)):Option (pW):=(qB a c).bind λx1=>χ (ae (b+(x1.1.aK.length:Int))) (EE x1 lx (0,a.η,a.Next,a.ai,(b+(x1.1.aK.length:Int)),d))
def I4(b:Int)(c:Γ)(d:Int)(e:List (Int×Bool)):Option (pW):=Aq (λf(a:Int×Γ×Int×(List (Int×Bool)))=>sO f a.1 a.2.1 a.2.2.1 a.2.2.2) (b,c,d,e)
def yR(a:Γ)(b:Int):Option (Int×Int):=((qB a b).bind λx1=>((if x1.2 then V (x1.1.θ==2)else V false).bind λc1=>V c1).bind λv2=>if v2 then(I4 b a 0 ([]:List (Int×Bool))).bind λx2=>V (x2.2.2.2.1,x2.2.2.2.2)else V (0,([]:List (Int×Bool)))).bind λv1=>V ((v1.2.length:Int),v1.1)
def GZ(a b:List UInt8):Option Bool:=V (a==b)
def Qa(_v1:Unit):Option Bool:=V true
def FO(a b:List aH)(s1:Int):Option ((Int)⊕Bool):=if(decide (s1<(a.length:Int)))then(idx a s1).bind λx1=>(idx b s1).bind λx2=>if(!(x1.aC==x2.aC&&(x1.κ==x2.κ&&(x1.ai==x2.ai&&true))))then out (V false)else χ (ae (s1+1)) (V (.inl (s1+1)))else out (Qa ())
def Yl(a b:List aH)(s1:Int):Option Bool:=loop (FO a b) s1
def BW(a b:List aH):Option Bool:=if((a.length:Int) != (b.length:Int))then V false else Yl a b 0
def Ga(a b:τ):Option Bool:=((if(a.κ==b.κ)then V (a.θ==b.θ)else V false).bind λc1=>(if c1 then V (a.a_==b.a_)else V false).bind λc2=>(if c2 then V (a.Up==b.Up)else V false).bind λc3=>(if c3 then(GZ a.aK b.aK).bind λx1=>V x1 else V false).bind λc4=>(if c4 then(BW a.ψ b.ψ).bind λx2=>V x2 else V false).bind λc5=>V c5).bind λv1=>V v1
def P'(_v1:Unit):Option Bool:=V true
def FN(a b:List τ)(s1:Int):Option ((Int)⊕Bool):=if(decide (s1<(a.length:Int)))then(idx a s1).bind λx1=>(idx b s1).bind λx2=>(Ga x1 x2).bind λx3=>if(!x3)then out (V false)else χ (ae (s1+1)) (V (.inl (s1+1)))else out (P' ())
def Yk(a b:List τ)(s1:Int):Option Bool:=loop (FN a b) s1
def FM(a b:List τ):Option Bool:=if((a.length:Int) != (b.length:Int))then V false else Yk a b 0
def F_(a b:Γ):Option Bool:=((if(a.Next==b.Next)then V (a.ai==b.ai)else V false).bind λc1=>(if c1 then(FM a.η b.η).bind λx1=>V x1 else V false).bind λc2=>V c2).bind λv1=>V v1
def J5(a:List cq):Option (List cq):=ve a 96
def BS(a:τ)(b:Int):Option Int:=(vg a.κ b).bind λx1=>V x1
def J0(a:List τ)(b:Int)(s1:Int×Int):Option ((Int×Int)⊕Int):=if(decide (s1.1<s1.2))then χ (ae (s1.1+s1.2)) ((idx a (IntKind.i64.wrap (gS .u64 (IntKind.u64.wrap (s1.1+s1.2)) 1))).bind λx1=>(BS x1 b).bind λx2=>if(decide (x2<0))then χ (ae ((IntKind.i64.wrap (gS .u64 (IntKind.u64.wrap (s1.1+s1.2)) 1))+1)) (V (.inl (((IntKind.i64.wrap (gS .u64 (IntKind.u64.wrap (s1.1+s1.2)) 1))+1),s1.2)))else V (.inl (s1.1,(IntKind.i64.wrap (gS .u64 (IntKind.u64.wrap (s1.1+s1.2)) 1)))))else out (V s1.1)
def Yj(a:List τ)(b:Int)(s1:Int×Int):Option Int:=loop (J0 a b) s1
def BU(a:List τ)(b:Int):Option (Int×Bool):=(Yj a b (0,(a.length:Int))).bind λv1=>((if(decide (v1<(a.length:Int)))then(idx a v1).bind λx3=>(BS x3 b).bind λx4=>V (x4==0)else V false).bind λc1=>V c1).bind λv2=>V (v1,v2)
def BR(a:List τ)(b:Int):Option Int:=(BU a b).bind λx1=>if(!x1.2)then V (-1)else V x1.1
def BT(a b:τ):Option Bool:=((if(a.κ==b.κ)then V (a.θ==b.θ)else V false).bind λc1=>(if c1 then V (a.a_==b.a_)else V false).bind λc2=>(if c2 then V (a.Up==b.Up)else V false).bind λc3=>(if c3 then V (a.aK==b.aK)else V false).bind λc4=>(if c4 then(BW a.ψ b.ψ).bind λx1=>V x1 else V false).bind λc5=>V c5).bind λv1=>V v1
def JX(a:cG)(b c:Int):Option Bool:=((if(decide (a.At>=b))then V (decide (a.At<c))else V false).bind λc1=>V c1).bind λv1=>V v1
def Qk(_v1:Unit):Option Int:=V (-1)
def FP(a:List cG)(b c s1:Int):Option ((Int)⊕Int):=if(decide (s1<(a.length:Int)))then(idx a s1).bind λx1=>(JX x1 b c).bind λx2=>if x2 then out (V s1)else χ (ae (s1+1)) (V (.inl (s1+1)))else out (Qk ())
def Yn(a:List cG)(b c s1:Int):Option Int:=loop (FP a b c) s1
def Kb(a:List cG)(b c:Int):Option Int:=Yn a b c 0
def J8(a:List cG)(b c:Int):Option Bool:=(Kb a b c).bind λx1=>V (decide (x1>=0))
def FI(a:List cG)(b c:Int):Option Bool:=(J8 a b c).bind λx1=>V x1
def FF(a:cd)(b:Γ)(s1:Int×(List cq)):Option ((Int×(List cq))⊕(List cq)):=if(decide (s1.1<(a.aw.η.length:Int)))then((idx a.aw.η s1.1).bind λx3=>(BR b.η x3.κ).bind λx4=>((if(decide (x4<0))then V true else(idx b.η x4).bind λx5=>(BT x3 x5).bind λx6=>V (!x6)).bind λc1=>(if c1 then(idx a.dh s1.1).bind λx7=>(FI a.cm x7 (a.bE+1)).bind λx8=>V x8 else V false).bind λc2=>V c2).bind λv3=>if v3 then(idx a.dh s1.1).bind λx9=>χ ((s1.2.length+([(⟨x9,a.bE+1,x3⟩:cq)]).length)*96<=140737488355328) (V (s1.2++[(⟨x9,a.bE+1,x3⟩:cq)]))else V s1.2).bind λv2=>χ (ae (s1.1+1)) (V (.inl ((s1.1+1),v2)))else out (V s1.2)
def PW(a:cd)(b:Γ)(s1:Int×(List cq)):Option (List cq):=loop (FF a b) s1
def FH(b:Γ)(a:cd)(s2:Int×(List Int)):Option ((Int×(List Int))⊕(List Int)):=if(decide (s2.1<(b.η.length:Int)))then(idx b.η s2.1).bind λdI=>((BR a.aw.η dI.κ).bind λez=>((if(decide (ez>=0))then(idx a.aw.η ez).bind λdU=>(BT dI dU).bind λfy=>V fy else V false).bind λc3=>V c3).bind λv6=>if v6 then(idx a.dh ez).bind λly=>V ly else V (a.bE+1)).bind λv5=>χ ((s2.2.length+([v5]).length)*8<=140737488355328) (χ (ae (s2.1+1)) (V (.inl ((s2.1+1),(s2.2++[v5])))))else out (V s2.2)
def PX(a:Γ)(b:cd)(s2:Int×(List Int)):Option (List Int):=loop (FH a b) s2
def BQ(a:cd)(b:Γ):Option cd:=(F_ a.aw b).bind λx1=>if x1 then V a else χ (ae (a.bE+1)) ((J5 a.cM).bind λx2=>(PW a b (0,x2)).bind λv1=>(PX b a (0,[])).bind λv4=>V (⟨b,a.bE+1,v4,v1,a.cm,a.Next⟩:cd))
def Ht(x1:(List Int))(a:List bg)(s1:Int×eK):Option ((Int×eK)⊕(eK)):=if(decide (s1.1<(x1.length:Int)))then((idx x1 s1.1).bind λx2=>(FL a x2).bind λx3=>if(!x3)then(F9 (⟨s1.2.1,s1.2.2.1,s1.2.2.2⟩:Γ) x2).bind λx4=>V (x4.1.η,x4.1.Next,x4.1.ai)else V (s1.2.1,s1.2.2.1,s1.2.2.2)).bind λv2=>χ (ae (s1.1+1)) (V (.inl ((s1.1+1),v2.1,v2.2.1,v2.2.2)))else out (V (s1.2.1,s1.2.2.1,s1.2.2.2))
def TD(x1:(List Int))(a:List bg)(s1:Int×eK):Option (eK):=loop (Ht x1 a) s1
def Hv(a:List τ)(b c d:Int)(e:List Int)(f:List cq)(g:List cG)(i:Int)(v1:eK)(x6:(List aJ))(_v3:Unit):Option (Int⊕(zD)):=(BQ (⟨(⟨a,b,c⟩:Γ),d,e,f,g,i⟩:cd) (⟨v1.1,v1.2.1,v1.2.2⟩:Γ)).bind λdU=>V (.inr (dU.aw.η,dU.aw.Next,dU.aw.ai,dU.bE,dU.dh,dU.cM,dU.cm,dU.Next,x6))
def Hw(s2:Int)(_v4:Unit):Option ((Int)⊕(Int⊕(zD))):=χ (ae (s2+1)) (V (.inl (s2+1)))
def Hu(x6:(List aJ))(v1:eK)(a:List τ)(b c d:Int)(e:List Int)(f:List cq)(g:List cG)(i s2:Int):Option ((Int)⊕(Int⊕(zD))):=if(decide (s2<(x6.length:Int)))then(idx x6 s2).bind λx9=>(yR (⟨v1.1,v1.2.1,v1.2.2⟩:Γ) x9.κ).bind λdI=>(if(decide (dI.1<=x9.η))then V (decide (dI.2<=x9.uO))else V false).bind λc1=>(xI c1 90).bind λez=>fH ez (λe2=>out (V (.inl e2))) λ_=>Hw s2 ()else out (Hv a b c d e f g i v1 x6 ())
def TE(x6:(List aJ))(v1:eK)(a:List τ)(b c d:Int)(e:List Int)(f:List cq)(g:List cG)(i s2:Int):Option (Int⊕(zD)):=loop (Hu x6 v1 a b c d e f g i) s2
def Av(a:Γ)(b:List aJ)(c:List τ)(d e f:Int)(g:List Int)(i:List cq)(j:List cG)(k:Int)(l:List bg)(o:List aJ)(s t:Int)(u w:List UInt8)(z y A:Int)(B:List UInt8)(C D E F G:Int):Option (Int⊕(zD)):=((AY a).bind λx1=>TD x1 l (0,a.η,a.Next,a.ai)).bind λv1=>(J6 b).bind λx5=>(J_ x5 (⟨v1.1,v1.2.1,v1.2.2⟩:Γ)).bind λx6=>(xJ (⟨v1.1,v1.2.1,v1.2.2⟩:Γ) x6).bind λx7=>(xI x7 91).bind λx8=>fH x8 (λe1=>V (.inl e1)) λ_=>TE x6 v1 c d e f g i j k 0
def Mf(a:List τ)(b c g:Int)(i:List Int)(j:List cq)(k:List cG)(l:Int)(o:List bg)(d:List aJ)(s t:Int)(e u:List UInt8)(f w z:Int)(y:List UInt8)(A B C D E:Int):Option (Int⊕(Cm)):=(xK e a b c g i j k l o d s t e u f w z y A B C D E).bind λx1=>fH x1 (λe1=>V (.inl e1)) λy1=>(QA (⟨a,b,c⟩:Γ) y1.1 y1.2 f).bind λx2=>(oH x2.2.2).bind λx3=>fH x3 (λe2=>V (.inl e2)) λ_=>(Av x2.1 d a b c g i j k l o d s t e u f w z y A B C D E).bind λx4=>fH x4 (λe3=>V (.inl e3)) λy3=>V (.inr (y3.1,y3.2.1,y3.2.2.1,y3.2.2.2.1,y3.2.2.2.2.1,y3.2.2.2.2.2.1,y3.2.2.2.2.2.2.1,y3.2.2.2.2.2.2.2.1,x2.2.1,y3.2.2.2.2.2.2.2.2))
def Kc(_v1:Unit):Option Int:=V (-1)
def FR(a:List Int)(b s1:Int):Option ((Int)⊕Int):=if(decide (s1<(a.length:Int)))then(idx a s1).bind λx1=>if(b==x1)then out (V s1)else χ (ae (s1+1)) (V (.inl (s1+1)))else out (Kc ())
def Yo(a:List Int)(b s1:Int):Option Int:=loop (FR a b) s1
def FQ(a:List Int)(b:Int):Option Int:=Yo a b 0
def BV(a:List Int)(b:Int):Option Bool:=(FQ a b).bind λx1=>V (decide (x1>=0))
def Gf(b a:τ):Option Int:=((if(b.θ==2)then V (a.θ != 2)else V false).bind λc1=>V c1).bind λv1=>if v1 then V 73 else((if(b.θ != 2)then V (a.θ==2)else V false).bind λc2=>V c2).bind λv2=>if v2 then V 72 else if(decide ((a.ψ.length:Int)>0))then V 74 else V 0
def Ce(c:τ)(b:dC)(a d e:Int):Option (Bool×eK):=if(c.θ != 2)then V (false,b.Tree.η,b.Tree.Next,b.Tree.ai)else(Cj b c.κ).bind λx1=>χ (ae (a+(x1.1.length:Int))) (χ (ae ((a+(x1.1.length:Int))-1)) (χ (ae (((a+(x1.1.length:Int))-1)-d)) (((BV x1.1 e).bind λx2=>(if x2 then(if(decide ((((a+(x1.1.length:Int))-1)-d)>12))then V true else(if((((a+(x1.1.length:Int))-1)-d)==12)then V (decide ((c.ψ.length:Int)>0))else V false).bind λc1=>V c1).bind λc2=>V c2 else V false).bind λc3=>V c3).bind λv1=>V (v1,x1.2.Tree.η,x1.2.Tree.Next,x1.2.Tree.ai))))
def Ka(v1:eK):Option (Int×eK):=V ((-1),v1.1,v1.2.1,v1.2.2)
def BX(a:List τ)(b c d:Int)(s1:Int×eK):Option ((Int×eK)⊕(Int×eK)):=if(decide (s1.1<(a.length:Int)))then(idx a s1.1).bind λx1=>(Ce x1 (⟨(⟨s1.2.1,s1.2.2.1,s1.2.2.2⟩:Γ)⟩:dC) b c d).bind λx2=>if x2.1 then out (V (s1.1,x2.2.1,x2.2.2.1,x2.2.2.2))else χ (ae (s1.1+1)) (V (.inl ((s1.1+1),x2.2.1,x2.2.2.1,x2.2.2.2)))else out (Ka (s1.2.1,s1.2.2.1,s1.2.2.2))
def Ym(a:List τ)(b c d:Int)(s1:Int×eK):Option (Int×eK):=loop (BX a b c d) s1
def J'(b:List τ)(a:dC)(c d e:Int):Option (Int×eK):=Ym b c d e (0,a.Tree.η,a.Tree.Next,a.Tree.ai)
def J7(a:List τ)(b:dC)(c d e:Int):Option (Bool×eK):=(J' a b c d e).bind λx1=>V ((decide (x1.1>=0)),x1.2.1,x1.2.2.1,x1.2.2.2)
def Gb(self:dC)(a b:Int):Option (Bool×dC):=(Cf self a).bind λx1=>(J7 x1.2.Tree.η x1.2 b x1.1 a).bind λx2=>V (x2.1,(⟨(⟨x2.2.1,x2.2.2.1,x2.2.2.2⟩:Γ)⟩:dC))
def Ch(a:Int)(b:List UInt8)(c:dC):Option (eK):=(pV c a).bind λx1=>(sW x1.1.1 b).bind λx2=>if x2.2 then(wH x1.1.1.ψ).bind λx3=>χ (ae (x2.1+1)) (χ ((0:Int)<=x2.1/\x2.1<(x2.1+1)/\(x2.1+1)<=(x3.length:Int)) ((Ci x1.1.1.κ x1.1.1.θ x1.1.1.a_ x1.1.1.aK x1.1.1.Up x1.2 (kU x3 x2.1 (x2.1+1))).bind λx4=>V (x4.2.2,x4.1,x4.2.1)))else V (x1.2.Tree.η,x1.2.Tree.Next,x1.2.Tree.ai)
def Ge(a:τ)(b:dC):Option (eK):=if(a.θ==2)then(Cg a.κ b).bind λx1=>V (x1.1,x1.2.1,x1.2.2)else χ (ae (a.a_-1)) ((zB (⟨a.κ,a.θ,a.a_-1,a.aK,a.ψ,a.Up⟩:τ) b).bind λx2=>V (x2.2.2,x2.1,x2.2.1))
def Gc(c:Int)(a:List UInt8)(b:Int)(d:dC):Option (Int×Int×(List τ)):=(pV d c).bind λx1=>(sW x1.1.1 a).bind λx2=>(wH x1.1.1.ψ).bind λx3=>χ ((0:Int)<=x2.1/\x2.1<=(x3.length:Int)/\0<([(⟨a,b,x1.2.Tree.ai⟩:aH)]).length/\(x3.length+([(⟨a,b,x1.2.Tree.ai⟩:aH)]).length)*32<=140737488355328) (χ (ae (x1.2.Tree.ai+1)) ((Ci x1.1.1.κ x1.1.1.θ x1.1.1.a_ x1.1.1.aK x1.1.1.Up (⟨(⟨x1.2.Tree.η,x1.2.Tree.Next,x1.2.Tree.ai+1⟩:Γ)⟩:dC) (eQ x3 x2.1 ([(⟨a,b,x1.2.Tree.ai⟩:aH)]))).bind λx4=>V (x4.1,x4.2.1,x4.2.2)))
def Cc(x5:Int×Bool)(a b:Int)(x2:(τ×Int)×dC)(x8:(List Int)×dC)(x4:(τ×Bool)×dC)(x1:Int×Int)(d:Γ)(e c:List UInt8)(v1:(List τ)×Int×Int×mr)(_v3:Unit):Option (Γ×Int×Int):=((if(!x5.2)then V (a != b)else V false).bind λc2=>(if c2 then V (decide ((x2.1.1.ψ.length:Int)>=64))else V false).bind λc3=>V c3).bind λv4=>((if v4 then V true else V (decide ((x8.1.length:Int)>12))).bind λc4=>(if c4 then V (true,x8.2.Tree.η,x8.2.Tree.Next,x8.2.Tree.ai)else(if(x4.1.1.θ==2)then(Gb x8.2 x1.1 (x8.1.length:Int)).bind λez=>V (ez.1,ez.2.Tree.η,ez.2.Tree.Next,ez.2.Tree.ai)else V (false,x8.2.Tree.η,x8.2.Tree.Next,x8.2.Tree.ai)).bind λ(c5:Bool×eK)=>V (c5.1,c5.2.1,c5.2.2.1,c5.2.2.2)).bind λ(c6:Bool×eK)=>(if c6.1 then V true else V (decide (c6.2.2.2>=1099511627776))).bind λc7=>V (c7,c6.2.1,c6.2.2.1,c6.2.2.2)).bind λv5=>if v5.1 then V (d,0,76)else(Ch b e (⟨(⟨v5.2.1,v5.2.2.1,v5.2.2.2⟩:Γ)⟩:dC)).bind λdU=>(if x5.2 then(Ch a c (⟨(⟨dU.1,dU.2.1,dU.2.2⟩:Γ)⟩:dC)).bind λfy=>(Ge (⟨v1.2.2.2.1,v1.2.2.2.2.1,v1.2.2.2.2.2.1,v1.2.2.2.2.2.2.1,v1.2.2.2.2.2.2.2.1,v1.2.2.2.2.2.2.2.2⟩:τ) (⟨(⟨fy.1,fy.2.1,fy.2.2⟩:Γ)⟩:dC)).bind λly=>V (ly.1,ly.2.1,ly.2.2)else V (dU.1,dU.2.1,dU.2.2)).bind λv6=>(if(x4.1.1.θ==2)then(zB (⟨x4.1.1.κ,x4.1.1.θ,x4.1.1.a_,x4.1.1.aK,x4.1.1.ψ,a⟩:τ) (⟨(⟨v6.1,v6.2.1,v6.2.2⟩:Γ)⟩:dC)).bind λsZ=>V (sZ.2.2,sZ.1,sZ.2.1)else V (v6.1,v6.2.1,v6.2.2)).bind λv7=>(Gc a c x1.1 (⟨(⟨v7.1,v7.2.1,v7.2.2⟩:Γ)⟩:dC)).bind λwU=>V ((⟨wU.2.2,wU.1,wU.2.1⟩:Γ),v1.2.2.2.1,0)
def Cb(a:Γ)(d:Int)(e:List UInt8)(b:Int)(c:List UInt8):Option (Γ×Int×Int):=(wM a d e).bind λx1=>if(x1.2 != 0)then V (a,0,x1.2)else(wO (⟨a⟩:dC) b).bind λx2=>if(x2.1.2 != 0)then V (a,0,x2.1.2)else(wb c).bind λx3=>if(!x3)then V (a,0,60)else(pV x2.2 x1.1).bind λx4=>(sW x2.1.1 c).bind λx5=>(if x5.2 then(idx x2.1.1.ψ x5.1).bind λx6=>(pV x4.2 x6.κ).bind λx7=>V (x7.2.Tree.η,x7.2.Tree.Next,x7.2.Tree.ai,x7.1.1.κ,x7.1.1.θ,x7.1.1.a_,x7.1.1.aK,x7.1.1.ψ,x7.1.1.Up)else V (x4.2.Tree.η,x4.2.Tree.Next,x4.2.Tree.ai,0,0,0,[],[],0)).bind λv1=>if(v1.2.2.2.1==x1.1)then V (a,0,0)else(Cj (⟨(⟨v1.1,v1.2.1,v1.2.2.1⟩:Γ)⟩:dC) b).bind λx8=>((if(x4.1.1.θ==2)then(BV x8.1 x1.1).bind λx9=>V x9 else V false).bind λc1=>V c1).bind λv2=>if v2 then V (a,0,75)else if x5.2 then(Gf x4.1.1 (⟨v1.2.2.2.1,v1.2.2.2.2.1,v1.2.2.2.2.2.1,v1.2.2.2.2.2.2.1,v1.2.2.2.2.2.2.2.1,v1.2.2.2.2.2.2.2.2⟩:τ)).bind λdI=>if(dI != 0)then V (a,0,dI)else Cc x5 b d x2 x8 x4 x1 a e c v1 ()else Cc x5 b d x2 x8 x4 x1 a e c v1 ()
def De(a:List τ)(b c g:Int)(i:List Int)(j:List cq)(k:List cG)(l:Int)(o:List bg)(d:List aJ)(s t:Int)(e f:List UInt8)(u w z:Int)(y:List UInt8)(A B C D E:Int):Option (Int⊕(Cm)):=(xK e a b c g i j k l o d s t e f u w z y A B C D E).bind λx1=>fH x1 (λe1=>V (.inl e1)) λy1=>(xK f a b c g i j k l o d s t e f u w z y A B C D E).bind λx2=>fH x2 (λe2=>V (.inl e2)) λy2=>(wM (⟨a,b,c⟩:Γ) y1.1 y1.2).bind λx3=>(oH x3.2).bind λx4=>fH x4 (λe3=>V (.inl e3)) λ_=>(Cb (⟨a,b,c⟩:Γ) y1.1 y1.2 y2.1 y2.2).bind λx5=>(oH x5.2.2).bind λx6=>fH x6 (λe4=>V (.inl e4)) λ_=>(Av x5.1 d a b c g i j k l o d s t e f u w z y A B C D E).bind λx7=>fH x7 (λe5=>V (.inl e5)) λy5=>V (.inr (y5.1,y5.2.1,y5.2.2.1,y5.2.2.2.1,y5.2.2.2.2.1,y5.2.2.2.2.2.1,y5.2.2.2.2.2.2.1,y5.2.2.2.2.2.2.2.1,x3.1,y5.2.2.2.2.2.2.2.2))
def QB(a:aH)(b:Int):Option Bool:=V (decide (a.ai<b))
def Qd(_v1:Unit):Option Int:=V (-1)
def Qc(a:List aH)(b s1:Int):Option ((Int)⊕Int):=if(decide (s1<(a.length:Int)))then(idx a s1).bind λx1=>(QB x1 b).bind λx2=>if x2 then out (V s1)else χ (ae (s1+1)) (V (.inl (s1+1)))else out (Qd ())
def ag7(a:List aH)(b s1:Int):Option Int:=loop (Qc a b) s1
def Qb(a:List aH)(b:Int):Option Int:=ag7 a b 0
def Km(a:aH)(b:Int):Option Bool:=V (decide (a.ai<b))
def P9(a:Int)(s1:Int×Int×(List aH)):Option ((Int×Int×(List aH))⊕(Int×(List aH))):=if(decide (s1.2.1<(s1.2.2.length:Int)))then((idx s1.2.2 s1.2.1).bind λx2=>(Km x2 a).bind λx3=>if(!x3)then(idx s1.2.2 s1.1).bind λ_=>χ (ae (s1.1+1)) (V ((s1.1+1),(s1.2.2.set s1.1.toNat x2)))else V (s1.1,s1.2.2)).bind λv2=>χ (ae (s1.2.1+1)) (V (.inl (v2.1,s1.2.1+1,v2.2)))else out (V (s1.1,s1.2.2))
def ag5(a:Int)(s1:Int×Int×(List aH)):Option (Int×(List aH)):=loop (P9 a) s1
def J9(a:List aH)(b:Int):Option (List aH):=(Qb a b).bind λx1=>if(x1==(-1))then V a else(χ (ae (x1+1)) (ag5 b (x1,x1+1,a))).bind λv1=>χ ((0:Int)<=v1.1/\v1.1<=(v1.2.length:Int)) (χ ((0:Int)<=v1.1/\v1.1<=((v1.2.take v1.1.toNat++ia (v1.2.length-v1.1.toNat) ((⟨[],0,0⟩:aH):aH)).length:Int)) (V ((v1.2.take v1.1.toNat++ia (v1.2.length-v1.1.toNat) ((⟨[],0,0⟩:aH):aH)).take v1.1.toNat)))
def Ca(a b:aH):Option Int:=(vg a.ai b.ai).bind λx1=>V x1
def lL(x y:Int):Int:=if x<y then -1 else if x>y then 1 else 0
theorem FX(x y:Int):vg x y=V (lL x y):=by
 unfold vg cmp_isNaN_int lL
 simp only[Option.bind_some]
 by_cases h1:x<y<;>by_cases h2:x>y<;>simp[h1,h2]
theorem oD{x y:Int}:lL x y<0↔x<y:=by unfold lL;split<;>(try split)<;>omega
theorem Of:rQ Ca (λa b=>lL a.ai b.ai):=by
 refine⟨λx y=>by unfold Ca;rw[FX];rfl,⟨λx=>?_,λx y z h1 h2=>?_,λx y z h1 h2=>?_⟩⟩
 .simp[oD]
 .simp only[decide_eq_true_eq,oD]at *;omega
 .simp only[decide_eq_false_iff_not,oD]at *;omega
instance:CL Ca:=⟨_,Of⟩
def wL(c:Γ)(d b a:Int):Option ((List aH)×Int×Int):=((if(decide (b<0))then V true else V (decide (a<1))).bind λc1=>(if c1 then V true else V (decide (a>64))).bind λc2=>V c2).bind λv1=>if v1 then V ([],0,1)else(wO (⟨c⟩:dC) d).bind λx1=>if(x1.1.2 != 0)then V ([],0,x1.1.2)else(wH x1.1.1.ψ).bind λx2=>(J9 x2 b).bind λx3=>(FT Ca x3).bind λx4=>if(decide ((x4.length:Int)<=a))then V (x4,0,0)else χ ((0:Int)<=a/\a<=a/\a<=(x4.length:Int)) (χ (ae (a-1)) ((idx x4 (a-1)).bind λx5=>χ (ae (x5.ai+1)) (V ((x4.take a.toNat),x5.ai+1,0))))
def Hn(a:List aH)(s1:Int×(List (List UInt8))):Option ((Int×(List (List UInt8)))⊕(List (List UInt8))):=if(decide (s1.1<(a.length:Int)))then(idx a s1.1).bind λx1=>χ ((s1.2.length+([x1.aC]).length)*16<=140737488355328) (χ (ae (s1.1+1)) (V (.inl ((s1.1+1),(s1.2++[x1.aC])))))else out (V s1.2)
def Md(a:List aH)(s1:Int×(List (List UInt8))):Option (List (List UInt8)):=loop (Hn a) s1
def As(a:List aH):Option (List (List UInt8)):=(Md a (0,[])).bind λv1=>V v1
def Hs(a:List τ)(b c g:Int)(i:List Int)(j:List cq)(k:List cG)(l:Int)(o:List bg)(s:List aJ)(t u:Int)(d w:List UInt8)(e f z:Int)(y:List UInt8)(A B C D E:Int):Option (Int⊕(Int×(List (List UInt8)))):=(xL d a b c g i j k l o s t u d w e f z y A B C D E).bind λx1=>fH x1 (λe1=>V (.inl e1)) λy1=>(wL (⟨a,b,c⟩:Γ) y1.1 e f).bind λx2=>(oH x2.2.2).bind λx3=>fH x3 (λe2=>V (.inl e2)) λ_=>(As x2.1).bind λx4=>V (.inr (x2.2.1,x4))
def Me(a:τ):Option Int:=V (max (a.aK.length:Int) (a.ψ.length:Int))
def Hy(b:List τ)(c d e:Int)(f:List Int)(g:List cq)(i:List cG)(j:Int)(k:List bg)(l:List aJ)(o s:Int)(a t:List UInt8)(u w z:Int)(y:List UInt8)(A B C D E:Int):Option (Int⊕(Int×Int×Int×Int)):=(xL a b c d e f g i j k l o s a t u w z y A B C D E).bind λx1=>fH x1 (λe1=>V (.inl e1)) λy1=>(Me (⟨y1.1,y1.2.1,y1.2.2.1,y1.2.2.2.1,y1.2.2.2.2.1,y1.2.2.2.2.2⟩:τ)).bind λx2=>V (.inr (y1.1,y1.2.1,y1.2.2.1,x2))
def xH(a:cy)(v3:(List τ)×Int×Int×Int×(List Int)×(List cq)×(List cG)×Int×(List aJ)×Int×Int×Int×rE):Option (cy×da):=V ((⟨(⟨(⟨v3.1,v3.2.1,v3.2.2.1⟩:Γ),v3.2.2.2.1,v3.2.2.2.2.1,v3.2.2.2.2.2.1,v3.2.2.2.2.2.2.1,v3.2.2.2.2.2.2.2.1⟩:cd),a.Holds,v3.2.2.2.2.2.2.2.2.1⟩:cy),(⟨v3.2.2.2.2.2.2.2.2.2.1,v3.2.2.2.2.2.2.2.2.2.2.1,v3.2.2.2.2.2.2.2.2.2.2.2.1,v3.2.2.2.2.2.2.2.2.2.2.2.2.1,v3.2.2.2.2.2.2.2.2.2.2.2.2.2.1,v3.2.2.2.2.2.2.2.2.2.2.2.2.2.2,[]⟩:da))
def qh(v1:Int)(a:cy)(b:dO)(_v2:Unit):Option (cy×da):=if(v1==62)then(Dc a.S.aw.η a.S.aw.Next a.S.aw.ai a.S.bE a.S.dh a.S.cM a.S.cm a.S.Next a.Holds a.et b.θ b.gp b.ib b.To b.N b.M b.iR b.aK 0 0 0 0 0).bind λx4=>fH x4 (λe2=>V (a,(⟨e2,0,0,0,0,[],[]⟩:da))) λy2=>xH a (a.S.aw.η,a.S.aw.Next,a.S.aw.ai,a.S.bE,a.S.dh,a.S.cM,a.S.cm,a.S.Next,a.et,0,y2.1,y2.2,0,0,[])else if(v1==63)then(Mf a.S.aw.η a.S.aw.Next a.S.aw.ai a.S.bE a.S.dh a.S.cM a.S.cm a.S.Next a.Holds a.et b.θ b.gp b.ib b.To b.N b.M b.iR b.aK 0 0 0 0 0).bind λx5=>fH x5 (λe3=>V (a,(⟨e3,0,0,0,0,[],[]⟩:da))) λy3=>xH a (y3.1,y3.2.1,y3.2.2.1,y3.2.2.2.1,y3.2.2.2.2.1,y3.2.2.2.2.2.1,y3.2.2.2.2.2.2.1,y3.2.2.2.2.2.2.2.1,y3.2.2.2.2.2.2.2.2.2,0,y3.2.2.2.2.2.2.2.2.1,b.N,0,0,[])else if(v1==66)then(De a.S.aw.η a.S.aw.Next a.S.aw.ai a.S.bE a.S.dh a.S.cM a.S.cm a.S.Next a.Holds a.et b.θ b.gp b.ib b.To b.N b.M b.iR b.aK 0 0 0 0 0).bind λx6=>fH x6 (λe4=>V (a,(⟨e4,0,0,0,0,[],[]⟩:da))) λy4=>xH a (y4.1,y4.2.1,y4.2.2.1,y4.2.2.2.1,y4.2.2.2.2.1,y4.2.2.2.2.2.1,y4.2.2.2.2.2.2.1,y4.2.2.2.2.2.2.2.1,y4.2.2.2.2.2.2.2.2.2,0,y4.2.2.2.2.2.2.2.2.1,0,0,0,[])else if(v1==67)then(Hs a.S.aw.η a.S.aw.Next a.S.aw.ai a.S.bE a.S.dh a.S.cM a.S.cm a.S.Next a.Holds a.et b.θ b.gp b.ib b.To b.N b.M b.iR b.aK 0 0 0 0 0).bind λx7=>fH x7 (λe5=>V (a,(⟨e5,0,0,0,0,[],[]⟩:da))) λy5=>xH a (a.S.aw.η,a.S.aw.Next,a.S.aw.ai,a.S.bE,a.S.dh,a.S.cM,a.S.cm,a.S.Next,a.et,0,0,0,y5.1,0,y5.2)else if(v1==68)then(Hy a.S.aw.η a.S.aw.Next a.S.aw.ai a.S.bE a.S.dh a.S.cM a.S.cm a.S.Next a.Holds a.et b.θ b.gp b.ib b.To b.N b.M b.iR b.aK 0 0 0 0 0).bind λx8=>fH x8 (λe6=>V (a,(⟨e6,0,0,0,0,[],[]⟩:da))) λy6=>xH a (a.S.aw.η,a.S.aw.Next,a.S.aw.ai,a.S.bE,a.S.dh,a.S.cM,a.S.cm,a.S.Next,a.et,0,y6.1,y6.2.1,y6.2.2.1,y6.2.2.2,[])else none
def ir(b:cy)(a:dO):Option (cy×da):=((Dh).bind λ_=>(V ((ei a.θ uz).getD (0:Int))).bind λx2=>V x2).bind λv1=>(if(ei a.θ uz).isSome then V (decide (a.gp>=0))else V false).bind λc1=>(if c1 then V (decide (a.gp<16))else V false).bind λc2=>(xI c2 1).bind λx3=>fH x3 (λe1=>V (b,(⟨e1,0,0,0,0,[],[]⟩:da))) λ_=>qh v1 b a ()
def OJ(s1:Int×(List UInt8)):Option ((Int×(List UInt8))⊕(Int×(List UInt8))):=if(decide (s1.1>=128))then χ ((s1.2.length+([((nt s1.1) ||| (128:UInt8))]).length)*1<=140737488355328) (V (.inl ((gS .u64 s1.1 7),(s1.2++[((nt s1.1) ||| (128:UInt8))]))))else out (V (s1.1,s1.2))
def afD(s1:Int×(List UInt8)):Option (Int×(List UInt8)):=loop OJ s1
def Ew(a:Int):Option (List UInt8):=(afD ((Rj .u64 (zr .u64 (IntKind.u64.wrap a) 1) (IntKind.u64.wrap (gS .i64 a 63))),[])).bind λv1=>χ ((v1.2.length+([nt v1.1]).length)*1<=140737488355328) (V (v1.2++[nt v1.1]))
def OO(a:List Int)(s1:Int×(List UInt8)):Option ((Int×(List UInt8))⊕(List UInt8)):=if(decide (s1.1<(a.length:Int)))then(idx a s1.1).bind λx1=>(Ew x1).bind λx2=>χ ((s1.2.length+x2.length)*1<=140737488355328) (χ (ae (s1.1+1)) (V (.inl ((s1.1+1),(s1.2++x2)))))else out (V s1.2)
def afF(a:List Int)(s1:Int×(List UInt8)):Option (List UInt8):=loop (OO a) s1
def Ex(a:List Int):Option (List UInt8):=(afF a (0,[])).bind λv1=>V v1
def Bq(a:List UInt8):Option (List UInt8):=(Ew (a.length:Int)).bind λx1=>χ ((x1.length+a.length)*1<=140737488355328) (V (x1++a))
def IW(a:dO):Option (List UInt8):=(Ex ([a.θ,a.gp])).bind λx1=>(Bq a.ib).bind λx2=>χ ((x1.length+x2.length)*1<=140737488355328) ((Bq a.To).bind λx3=>χ (((x1++x2).length+x3.length)*1<=140737488355328) ((Ex ([a.N,a.M,a.iR])).bind λx4=>χ ((((x1++x2)++x3).length+x4.length)*1<=140737488355328) ((Bq a.aK).bind λx5=>χ (((((x1++x2)++x3)++x4).length+x5.length)*1<=140737488355328) (V ((((x1++x2)++x3)++x4)++x5)))))
def OM(_v1:Unit):Option (Int×(List UInt8)×Int):=V (0,[],10)
def OL(a:List UInt8)(s1:Int×Int):Option ((Int×Int)⊕(Int×(List UInt8)×Int)):=if(decide (s1.2<(a.length:Int)))then(idx a s1.2).bind λx1=>((if(s1.2==9)then V (decide ((x1.toNat:Int)>1))else V false).bind λc1=>V c1).bind λv2=>if v2 then out (V (0,[],11))else χ (ae (7*s1.2)) (χ ((0:Int)<=(7*s1.2)) (if(decide ((x1.toNat:Int)>=128))then χ (ae (s1.2+1)) (V (.inl ((Eu .u64 s1.1 (zr .u64 ((x1 &&& (127:UInt8)).toNat:Int) (7*s1.2))),(s1.2+1))))else((if((x1.toNat:Int)==0)then V (decide (s1.2>0))else V false).bind λc2=>V c2).bind λv3=>if v3 then out (V (0,[],11))else χ (ae (0-(IntKind.i64.wrap (Sp .u64 (Eu .u64 s1.1 (zr .u64 ((x1 &&& (127:UInt8)).toNat:Int) (7*s1.2))) 1)))) (χ (ae (s1.2+1)) (χ ((0:Int)<=(s1.2+1)/\(s1.2+1)<=(a.length:Int)) (out (V ((Rj .i64 (IntKind.i64.wrap (gS .u64 (Eu .u64 s1.1 (zr .u64 ((x1 &&& (127:UInt8)).toNat:Int) (7*s1.2))) 1)) (0-(IntKind.i64.wrap (Sp .u64 (Eu .u64 s1.1 (zr .u64 ((x1 &&& (127:UInt8)).toNat:Int) (7*s1.2))) 1)))),a.drop (s1.2+1).toNat,0)))))))else out (OM ())
def afE(a:List UInt8)(s1:Int×Int):Option (Int×(List UInt8)×Int):=loop (OL a) s1
def OK(a:List UInt8):Option (Int×(List UInt8)×Int):=afE a (0,0)
def wh(self:mq):Option (Int×mq):=if(self.e_ != 0)then V (0,self)else(OK self.jc.b_).bind λx1=>V (x1.1,(⟨(⟨x1.2.1⟩:IY),x1.2.2⟩:mq))
def IX(x1:Int×mq)(v1:Int):Option (Int×mq):=V (0,(⟨x1.2.jc,v1⟩:mq))
def OP(self:mq):Option (Int×mq):=(wh self).bind λx1=>if(x1.2.e_ != 0)then V (0,x1.2)else if(decide (x1.1<0))then IX x1 11 else if(decide (x1.1>(x1.2.jc.b_.length:Int)))then IX x1 10 else V (x1.1,x1.2)
def OR(self:mq)(a:Int):Option ((List UInt8)×mq):=χ ((0:Int)<=a/\a<=(self.jc.b_.length:Int)) (χ ((0:Int)<=a/\a<=(self.jc.b_.length:Int)) (V ((self.jc.b_.take a.toNat),(⟨(⟨self.jc.b_.drop a.toNat⟩:IY),self.e_⟩:mq))))
def Ey(self:mq):Option ((List UInt8)×mq):=(OP self).bind λx1=>if(x1.2.e_ != 0)then V ([],x1.2)else(OR x1.2 x1.1).bind λx2=>V (x2.1,x2.2)
def OQ(self:mq):Option (Int×mq):=(((if(self.e_==0)then V (decide ((self.jc.b_.length:Int)>0))else V false).bind λc1=>V c1).bind λv2=>if v2 then V 11 else V self.e_).bind λv1=>V (v1,(⟨self.jc,v1⟩:mq))
def ON(a:List UInt8):Option (dO×Int):=(wh (⟨(⟨a⟩:IY),0⟩:mq)).bind λx1=>(wh x1.2).bind λx2=>(Ey x2.2).bind λx3=>(Ey x3.2).bind λx4=>(wh x4.2).bind λx5=>(wh x5.2).bind λx6=>(wh x6.2).bind λx7=>(Ey x7.2).bind λx8=>χ (x8.1.length<=140737488355328) ((OQ x8.2).bind λx9=>if(x9.1 != 0)then V ((⟨0,0,[],[],0,0,0,[]⟩:dO),x9.1)else V ((⟨x1.1,x2.1,x3.1,x4.1,x5.1,x6.1,x7.1,x8.1⟩:dO),0))
def Qv:Option Bool:=(Mc).bind λx1=>(ir x1 (⟨2,0,[47,97],[],2,0,0,[]⟩:dO)).bind λx2=>(ir x2.1 (⟨2,0,[47,97,47,98],[],1,0,0,[]⟩:dO)).bind λx3=>(ir x3.1 (⟨5,0,[47,97],[47,99],0,0,0,[]⟩:dO)).bind λx4=>(ir x4.1 (⟨6,0,[47,99],[],0,9,0,[]⟩:dO)).bind λx5=>(ir x4.1 (⟨1,0,[47,97,47,98],[],0,0,0,[]⟩:dO)).bind λx6=>(IW (⟨1,0,[47,99],[],0,0,0,[]⟩:dO)).bind λx7=>(ON x7).bind λx8=>if((x5.2.jy.length:Int) != 1)then V false else((if(x2.2.κ==2)then V (x3.2.κ==3)else V false).bind λc1=>(if c1 then V (x4.2.κ==2)else V false).bind λc2=>(if c2 then(idx x5.2.jy 0).bind λx9=>V (x9==([98]))else V false).bind λc3=>(if c3 then V (x6.2.mN==70)else V false).bind λc4=>(if c4 then V (x8.1.ib==([47,99]))else V false).bind λc5=>(if c5 then V (x8.2==0)else V false).bind λc6=>V c6).bind λv1=>V v1
def Qw:Option Bool:=Qv (K:=VZ)
def Iq(a:dO):Option Bool:=((if(decide ((a.aK.length:Int)>5000))then V true else V (decide ((a.ib.length:Int)>1000))).bind λc1=>(if c1 then V true else V (decide ((a.To.length:Int)>1000))).bind λc2=>V c2).bind λv1=>V v1
def Ob(_v1:Unit):Option Bool:=V false
def Ip(a:List dO)(s1:Int):Option ((Int)⊕Bool):=if(decide (s1<(a.length:Int)))then(idx a s1).bind λx1=>(Iq x1).bind λx2=>if x2 then out (V true)else χ (ae (s1+1)) (V (.inl (s1+1)))else out (Ob ())
def VS(a:List dO)(s1:Int):Option Bool:=loop (Ip a) s1
def Ej(a:List dO):Option Bool:=if(decide ((a.length:Int)>50))then V true else VS a 0
def Jd:Option Γ:=V (⟨[(⟨1,2,0,[],[],1⟩:τ)],2,1⟩:Γ)
def Jp(a:Γ):Option cd:=χ ((0:Int)<=(a.η.length:Int)/\(a.η.length:Int).toNat*8<=140737488355328) (V (⟨a,0,(ia (a.η.length:Int).toNat (0:Int)),[],[],1⟩:cd))
def Fq:Option cy:=(Jd).bind λx1=>(Jp x1).bind λx2=>V (⟨x2,[],[]⟩:cy)
def gI(a:Int):Option da:=V (⟨a,0,0,0,0,[],[]⟩:da)
def O7(_v2:Unit):Option Bool:=V true
def Bv(a:List UInt8)(s1:Int):Option ((Int)⊕Bool):=if(decide (s1<(a.length:Int)))then((idx a s1).bind λx1=>(if(decide ((x1.toNat:Int)<32))then V true else(idx a s1).bind λx2=>V ((x2.toNat:Int)==47)).bind λc4=>V c4).bind λv3=>if v3 then out (V false)else χ (ae (s1+1)) (V (.inl (s1+1)))else out (O7 ())
def Xc(a:List UInt8)(s1:Int):Option Bool:=loop (Bv a) s1
def wq(a:List UInt8):Option Bool:=((if(decide ((a.length:Int)<1))then V true else V (decide ((a.length:Int)>32))).bind λc1=>(if c1 then V true else V (a==([46]))).bind λc2=>(if c2 then V true else V (a==([46,46]))).bind λc3=>V c3).bind λv1=>if v1 then V false else Xc a 0
def O8(v2:(List (List UInt8))):Option ((List (List UInt8))×Int):=V (v2,0)
def Bw(s1:rE)(v3:Int×(List (List UInt8))):Option ((rE)⊕((List (List UInt8))×Int)):=χ (ae (s1.2.1+1)) (V (.inl (v3.1,s1.2.1+1,v3.2)))
def Ja(a:List UInt8)(s1:rE):Option ((rE)⊕((List (List UInt8))×Int)):=if(decide (s1.2.1<=(a.length:Int)))then((if(decide (s1.2.1<(a.length:Int)))then(idx a s1.2.1).bind λx2=>V ((x2.toNat:Int) != 47)else V false).bind λc2=>V c2).bind λv4=>if v4 then Bw s1 (s1.1,s1.2.2)else(χ ((0:Int)<=s1.1/\s1.1<=s1.2.1/\s1.2.1<=(a.length:Int)) ((wq (sub a s1.1 s1.2.1)).bind λx3=>(if(!x3)then V true else V ((s1.2.2.length:Int)==12)).bind λc3=>V c3)).bind λv5=>if v5 then out (V ([],60))else χ ((0:Int)<=s1.1/\s1.1<=s1.2.1/\s1.2.1<=(a.length:Int)) (χ ((s1.2.2.length+([sub a s1.1 s1.2.1]).length)*16<=140737488355328) (χ (ae (s1.2.1+1)) (Bw s1 ((s1.2.1+1),(s1.2.2++[sub a s1.1 s1.2.1])))))else out (O8 s1.2.2)
def Xd(a:List UInt8)(s1:rE):Option ((List (List UInt8))×Int):=loop (Ja a) s1
def wv(a:List UInt8):Option ((List (List UInt8))×Int):=if(a==([47]))then V (([]:List (List UInt8)),0)else((if(a==([]))then V true else(idx a 0).bind λx1=>V ((x1.toNat:Int) != 47)).bind λc1=>V c1).bind λv1=>if v1 then V ([],60)else Xd a (1,1,([]:List (List UInt8)))
def Pc(_v1:Unit):Option Int:=V (-1)
def BC(a:Γ)(b s1:Int):Option ((Int)⊕Int):=if(decide (s1<(a.η.length:Int)))then(idx a.η s1).bind λx1=>if(x1.κ==b)then out (V s1)else χ (ae (s1+1)) (V (.inl (s1+1)))else out (Pc ())
def Xp(a:Γ)(b s1:Int):Option Int:=loop (BC a b) s1
def EY(a:Γ)(b:Int):Option Int:=Xp a b 0
def gR(a:Γ)(b:Int):Option (τ×Bool):=(EY a b).bind λx1=>if(decide (x1<0))then V ((⟨0,0,0,[],[],0⟩:τ),false)else(idx a.η x1).bind λx2=>V (x2,true)
def wA(a:Γ)(b:Int):Option (τ×Int):=(gR a b).bind λx1=>if(!x1.2)then V ((⟨0,0,0,[],[],0⟩:τ),70)else if(x1.1.θ != 2)then V ((⟨0,0,0,[],[],0⟩:τ),73)else V (x1.1,0)
def Pb(_v1:Unit):Option Int:=V (-1)
def BB(a:τ)(b:List UInt8)(s1:Int):Option ((Int)⊕Int):=if(decide (s1<(a.ψ.length:Int)))then(idx a.ψ s1).bind λx1=>if(x1.aC==b)then out (V s1)else χ (ae (s1+1)) (V (.inl (s1+1)))else out (Pb ())
def Xo(a:τ)(b:List UInt8)(s1:Int):Option Int:=loop (BB a b) s1
def y7(a:τ)(b:List UInt8):Option Int:=Xo a b 0
def wz(b:Γ)(c:Int)(a:List UInt8):Option (Int×Int):=(wA b c).bind λx1=>if(x1.2 != 0)then V (0,x1.2)else(wq a).bind λx2=>if(!x2)then V (0,60)else(y7 x1.1 a).bind λx3=>if(decide (x3<0))then V (0,70)else(idx x1.1.ψ x3).bind λx4=>V (x4.κ,0)
def Je(v1:Int):Option (Int×Int):=V (v1,0)
def yY(x1:(List (List UInt8))×Int)(a:Γ)(s1:Int×Int):Option ((Int×Int)⊕(Int×Int)):=if(decide (s1.2<(x1.1.length:Int)))then(idx x1.1 s1.2).bind λx2=>(wz a s1.1 x2).bind λx3=>if(x3.2 != 0)then out (V (0,x3.2))else χ (ae (s1.2+1)) (V (.inl (x3.1,(s1.2+1))))else out (Je s1.1)
def Xj(x1:(List (List UInt8))×Int)(a:Γ)(s1:Int×Int):Option (Int×Int):=loop (yY x1 a) s1
def yX(a:Γ)(b:List UInt8):Option (Int×Int):=(wv b).bind λx1=>if(x1.2 != 0)then V (0,x1.2)else Xj x1 a (1,0)
def EG(a:List (List UInt8))(s1:(List UInt8)×Int):Option (((List UInt8)×Int)⊕(List UInt8)):=if(decide (s1.2<(a.length:Int)))then χ (s1.1.length+([47]).length<=9223372036854775807) ((idx a s1.2).bind λx1=>χ ((s1.1++[47]).length+x1.length<=9223372036854775807) (χ (ae (s1.2+1)) (V (.inl (((s1.1++[47])++x1),(s1.2+1))))))else out (V s1.1)
def Xb(a:List (List UInt8))(s1:(List UInt8)×Int):Option (List UInt8):=loop (EG a) s1
def Bu(a:List (List UInt8)):Option (List UInt8):=if((a.length:Int)==0)then V ([47])else(Xb a ([],0)).bind λv1=>V v1
def EH(a:List UInt8):Option ((List UInt8)×(List UInt8)×Int):=(wv a).bind λx1=>((if(x1.2 != 0)then V true else V ((x1.1.length:Int)==0)).bind λc1=>V c1).bind λv1=>if v1 then V ([],[],60)else χ (ae ((x1.1.length:Int)-1)) ((idx x1.1 ((x1.1.length:Int)-1)).bind λx2=>χ (ae ((x1.1.length:Int)-1)) (χ ((0:Int)<=((x1.1.length:Int)-1)/\((x1.1.length:Int)-1)<=(x1.1.length:Int)) ((Bu (x1.1.take ((x1.1.length:Int)-1).toNat)).bind λx3=>V (x2,x3,0))))
def zf(a:Γ)(b:List UInt8):Option (Int×(List UInt8)×Int):=(EH b).bind λx1=>if(x1.2.2 != 0)then V (0,[],x1.2.2)else(yX a x1.2.1).bind λx2=>V (x2.1,x1.1,x2.2)
def yZ(a:Γ)(s1:Int×Int):Option ((Int×Int)⊕Int):=((if(s1.1 != 1)then V (decide (s1.2<=200))else V false).bind λc1=>V c1).bind λv2=>if v2 then(gR a s1.1).bind λx1=>χ (ae (s1.2+1)) (V (.inl (x1.1.Up,(s1.2+1))))else out (V s1.2)
def Xk(a:Γ)(s1:Int×Int):Option Int:=loop (yZ a) s1
def uu(a:Γ)(b:Int):Option Int:=(Xk a (b,0)).bind λv1=>V v1
def EV(a:Γ)(b:τ):Option Bool:=((if(decide ((b.ψ.length:Int)>=64))then V true else(uu a b.κ).bind λx1=>V (decide (x1>=12))).bind λc1=>(if c1 then V true else V (decide (a.ai>=1099511627776))).bind λc2=>V c2).bind λv1=>V v1
def BA(a:Γ)(c:Int)(b:List UInt8):Option Int:=(wA a c).bind λx1=>if(x1.2 != 0)then V x1.2 else(wq b).bind λx2=>if(!x2)then V 60 else(y7 x1.1 b).bind λx3=>if(decide (x3>=0))then V 71 else(EV a x1.1).bind λx4=>if x4 then V 76 else V 0
def EZ(a:Γ)(b:τ)(s1:Bool×Int×(List τ)):Option ((Bool×Int×(List τ))⊕(Bool×(List τ))):=if(decide (s1.2.1<(a.η.length:Int)))then((((if(!s1.1)then(idx a.η s1.2.1).bind λx1=>V (decide (x1.κ>=b.κ))else V false).bind λc1=>V c1).bind λv4=>if v4 then χ ((s1.2.2.length+([b]).length)*80<=140737488355328) (V (true,(s1.2.2++[b])))else V (s1.1,s1.2.2)).bind λv3=>(idx a.η s1.2.1).bind λx2=>if(x2.κ != b.κ)then(idx a.η s1.2.1).bind λx3=>χ ((v3.2.length+([x3]).length)*80<=140737488355328) (V (v3.1,(v3.2++[x3])))else V (v3.1,v3.2)).bind λv2=>χ (ae (s1.2.1+1)) (V (.inl (v2.1,s1.2.1+1,v2.2)))else out (V (s1.1,s1.2.2))
def Xq(a:Γ)(b:τ)(s1:Bool×Int×(List τ)):Option (Bool×(List τ)):=loop (EZ a b) s1
def qx(a:Γ)(b:τ):Option Γ:=(Xq a b (false,0,[])).bind λv1=>(if(!v1.1)then χ ((v1.2.length+([b]).length)*80<=140737488355328) (V (v1.2++[b]))else V v1.2).bind λv5=>V (⟨v5,a.Next,a.ai⟩:Γ)
def EU(x1:τ×Bool)(a:List UInt8)(b:Int)(c:Γ)(s1:Bool×Int×(List aH)):Option ((Bool×Int×(List aH))⊕(Bool×(List aH))):=if(decide (s1.2.1<(x1.1.ψ.length:Int)))then(((if(!s1.1)then(idx x1.1.ψ s1.2.1).bind λx2=>V (!(Op.bytesLess x2.aC a||x2.aC==a))else V false).bind λc1=>V c1).bind λv3=>if v3 then χ ((s1.2.2.length+([(⟨a,b,c.ai⟩:aH)]).length)*32<=140737488355328) (V (true,(s1.2.2++[(⟨a,b,c.ai⟩:aH)])))else V (s1.1,s1.2.2)).bind λv2=>(idx x1.1.ψ s1.2.1).bind λx3=>χ ((v2.2.length+([x3]).length)*32<=140737488355328) (χ (ae (s1.2.1+1)) (V (.inl (v2.1,s1.2.1+1,(v2.2++[x3])))))else out (V (s1.1,s1.2.2))
def Xl(x1:τ×Bool)(a:List UInt8)(b:Int)(c:Γ)(s1:Bool×Int×(List aH)):Option (Bool×(List aH)):=loop (EU x1 a b c) s1
def wB(a:Γ)(d:Int)(b:List UInt8)(c:Int):Option Γ:=(gR a d).bind λx1=>(Xl x1 b c a (false,0,[])).bind λv1=>(if(!v1.1)then χ ((v1.2.length+([(⟨b,c,a.ai⟩:aH)]).length)*32<=140737488355328) (V (v1.2++[(⟨b,c,a.ai⟩:aH)]))else V v1.2).bind λv4=>χ (ae (a.ai+1)) ((qx (⟨a.η,a.Next,a.ai+1⟩:Γ) (⟨x1.1.κ,x1.1.θ,x1.1.a_,x1.1.aK,v4,x1.1.Up⟩:τ)).bind λx4=>V x4)
def EK(a:Γ)(b c:Int)(d:List UInt8):Option (Γ×Int):=(gR a b).bind λx1=>((if(!x1.2)then V true else(if(x1.1.θ==1)then V (x1.1.a_==0)else V false).bind λc1=>V c1).bind λc2=>V c2).bind λv1=>if v1 then V (a,70)else if(x1.1.θ==2)then V (a,72)else(BA a c d).bind λx2=>if(x2 != 0)then V (a,x2)else χ (ae (x1.1.a_+1)) ((qx a (⟨x1.1.κ,x1.1.θ,x1.1.a_+1,x1.1.aK,x1.1.ψ,x1.1.Up⟩:τ)).bind λx3=>(wB x3 c d b).bind λx4=>V (x4,0))
def Pt(_v1:Unit):Option Bool:=V false
def JE(a:List bg)(b s1:Int):Option ((Int)⊕Bool):=if(decide (s1<(a.length:Int)))then(idx a s1).bind λx1=>if(x1.κ==b)then out (V true)else χ (ae (s1+1)) (V (.inl (s1+1)))else out (Pt ())
def XS(a:List bg)(b s1:Int):Option Bool:=loop (JE a b) s1
def Fx(a:List bg)(b:Int):Option Bool:=XS a b 0
def E0(a:Γ)(b:Int)(s1:Int×(List τ)):Option ((Int×(List τ))⊕(List τ)):=if(decide (s1.1<(a.η.length:Int)))then((idx a.η s1.1).bind λx1=>if(x1.κ != b)then(idx a.η s1.1).bind λx2=>χ ((s1.2.length+([x2]).length)*80<=140737488355328) (V (s1.2++[x2]))else V s1.2).bind λv2=>χ (ae (s1.1+1)) (V (.inl ((s1.1+1),v2)))else out (V s1.2)
def Xr(a:Γ)(b:Int)(s1:Int×(List τ)):Option (List τ):=loop (E0 a b) s1
def BD(a:Γ)(b:Int):Option Γ:=(Xr a b (0,[])).bind λv1=>V (⟨v1,a.Next,a.ai⟩:Γ)
def By(a:Γ)(b:Int):Option (Γ×Int):=(gR a b).bind λx1=>if(!x1.2)then V (a,70)else if(x1.1.θ==2)then V (a,72)else if(decide (x1.1.a_>0))then V (a,71)else(BD a b).bind λx2=>V (x2,0)
def Pg(_v1:Unit):Option Int:=V (-1)
def E8(a:List aJ)(b s1:Int):Option ((Int)⊕Int):=if(decide (s1<(a.length:Int)))then(idx a s1).bind λx1=>if(x1.κ==b)then out (V s1)else χ (ae (s1+1)) (V (.inl (s1+1)))else out (Pg ())
def Ph(a:List aJ)(b s1:Int):Option Int:=loop (E8 a b) s1
def wF(a:List aJ)(b:Int):Option Int:=Ph a b 0
def Pe(_v1:Unit):Option Int:=V 0
def wD(a:Γ)(b:List aJ)(s1:Int×Int):Option ((Int×Int)⊕Int):=if(decide (s1.2<=(a.η.length:Int)))then(wF b s1.1).bind λx1=>if(decide (x1>=0))then out (V s1.1)else if(s1.1==1)then out (V 0)else(gR a s1.1).bind λx2=>χ (ae (s1.2+1)) (V (.inl (x2.1.Up,(s1.2+1))))else out (Pe ())
def Xw(a:Γ)(b:List aJ)(s1:Int×Int):Option Int:=loop (wD a b) s1
def E5(a:Γ)(b:List aJ)(c:Int):Option Int:=Xw a b (c,0)
def JA(_v1:Unit):Option Bool:=V true
def BL(s1:Int)(_v2:Unit):Option ((Int)⊕Bool):=χ (ae (s1+1)) (V (.inl (s1+1)))
def JB(s2:Int×Int)(v3:Int):Option ((Int×Int)⊕((Int)⊕Bool)):=χ (ae (s2.2+1)) (V (.inl (v3,(s2.2+1))))
def BM(s3:Int×Int)(v4:Int):Option ((Int×Int)⊕((Int×Int)⊕((Int)⊕Bool))):=χ (ae (s3.2+1)) (V (.inl (v4,(s3.2+1))))
def Jz(x2:τ)(a:Γ)(s1:Int)(b:List aJ)(s2 s3:Int×Int):Option ((Int×Int)⊕((Int×Int)⊕((Int)⊕Bool))):=if(decide (s3.2<(x2.ψ.length:Int)))then(idx x2.ψ s3.2).bind λx3=>(idx a.η s1).bind λx4=>if(x3.κ != x4.κ)then BM s3 s3.1 else(E5 a b x2.κ).bind λx5=>((if(decide (s3.1>=0))then V (x5 != s3.1)else V false).bind λc1=>V c1).bind λv5=>if v5 then out (out (out (V false)))else BM s3 x5 else out (JB s2 s3.1)
def XP(x2:τ)(a:Γ)(s1:Int)(b:List aJ)(s2 s3:Int×Int):Option ((Int×Int)⊕((Int)⊕Bool)):=loop (Jz x2 a s1 b s2) s3
def Jy(a:Γ)(s1:Int)(b:List aJ)(s2:Int×Int):Option ((Int×Int)⊕((Int)⊕Bool)):=if(decide (s2.2<(a.η.length:Int)))then(idx a.η s2.2).bind λx2=>XP x2 a s1 b s2 (s2.1,0)else out (BL s1 ())
def XO(a:Γ)(s1:Int)(b:List aJ)(s2:Int×Int):Option ((Int)⊕Bool):=loop (Jy a s1 b) s2
def Jx(a:Γ)(b:List aJ)(s1:Int):Option ((Int)⊕Bool):=if(decide (s1<(a.η.length:Int)))then(idx a.η s1).bind λx1=>if(x1.θ != 1)then BL s1 ()else XO a s1 b ((-1),0)else out (JA ())
def XN(a:Γ)(b:List aJ)(s1:Int):Option Bool:=loop (Jx a b) s1
def Fs(a:Γ)(b:List aJ):Option Bool:=XN a b 0
def y_(a:Γ)(b:Int):Option Bool:=(gR a b).bind λx1=>((if x1.2 then V (x1.1.θ==2)else V false).bind λc1=>V c1).bind λv1=>V v1
def Pj(_v1:Unit):Option Int:=V (-1)
def zb(a:Γ)(b s1:Int):Option ((Int)⊕Int):=if(decide (s1<(a.η.length:Int)))then(idx a.η s1).bind λx1=>if(x1.κ==b)then out (V s1)else χ (ae (s1+1)) (V (.inl (s1+1)))else out (Pj ())
def Pk(a:Γ)(b s1:Int):Option Int:=loop (zb a b) s1
def za(a:Γ)(b:Int):Option Int:=Pk a b 0
def Jk(v1:(List Bool)):Option (List Bool):=V v1
def Fa(s1:Int×(List Bool))(v2:(List Bool)):Option ((Int×(List Bool))⊕(List Bool)):=χ (ae (s1.1+1)) (V (.inl ((s1.1+1),v2)))
def BH(a:Γ)(s2 s3:Bool×Int×(List Bool)):Option ((Bool×Int×(List Bool))⊕(Bool×(List Bool))):=(idx a.η s2.2.1).bind λx3=>if(decide (s3.2.1<(x3.ψ.length:Int)))then((idx a.η s2.2.1).bind λx4=>(idx x4.ψ s3.2.1).bind λx5=>(za a x5.κ).bind λx6=>((if(decide (x6>=0))then(idx s3.2.2 x6).bind λx7=>V (!x7)else V false).bind λc2=>V c2).bind λv7=>if v7 then(idx s3.2.2 x6).bind λ_=>V (true,(s3.2.2.set x6.toNat true))else V (s3.1,s3.2.2)).bind λv6=>χ (ae (s3.2.1+1)) (V (.inl (v6.1,s3.2.1+1,v6.2)))else out (V (s3.1,s3.2.2))
def Pn(a:Γ)(s2 s3:Bool×Int×(List Bool)):Option (Bool×(List Bool)):=loop (BH a s2) s3
def E_(a:Γ)(b:Int)(s2:Bool×Int×(List Bool)):Option ((Bool×Int×(List Bool))⊕(Bool×(List Bool))):=if(decide (s2.2.1<(a.η.length:Int)))then(((idx s2.2.2 s2.2.1).bind λx1=>(if(!x1)then(idx a.η s2.2.1).bind λx2=>V (x2.κ != b)else V false).bind λc1=>V c1).bind λv5=>if v5 then V (s2.1,s2.2.2)else Pn a s2 (s2.1,0,s2.2.2)).bind λv4=>χ (ae (s2.2.1+1)) (V (.inl (v4.1,s2.2.1+1,v4.2)))else out (V (s2.1,s2.2.2))
def Pm(a:Γ)(b:Int)(s2:Bool×Int×(List Bool)):Option (Bool×(List Bool)):=loop (E_ a b) s2
def E9(a:Γ)(b:Int)(s1:Int×(List Bool)):Option ((Int×(List Bool))⊕(List Bool)):=if(decide (s1.1<(a.η.length:Int)))then(Pm a b (false,0,s1.2)).bind λv3=>if(!v3.1)then out (V v3.2)else Fa s1 v3.2 else out (Jk s1.2)
def Pl(a:Γ)(b:Int)(s1:Int×(List Bool)):Option (List Bool):=loop (E9 a b) s1
def wG(a:Γ)(b:Int):Option (List Bool):=χ ((0:Int)<=(a.η.length:Int)/\(a.η.length:Int).toNat*1<=140737488355328) (Pl a b (0,(ia (a.η.length:Int).toNat (false:Bool))))
def E7(x2:(List Bool))(a:Γ)(s1:Int×Int×Int):Option ((Int×Int×Int)⊕(Int×Int)):=if(decide (s1.2.2<(x2.length:Int)))then((idx x2 s1.2.2).bind λx3=>if x3 then χ (ae (s1.1+1)) ((idx a.η s1.2.2).bind λx4=>χ (ae (s1.2.1+(x4.aK.length:Int))) (V ((s1.1+1),(s1.2.1+(x4.aK.length:Int)))))else V (s1.1,s1.2.1)).bind λv2=>χ (ae (s1.2.2+1)) (V (.inl (v2.1,v2.2,(s1.2.2+1))))else out (V (s1.1,s1.2.1))
def Pf(x2:(List Bool))(a:Γ)(s1:Int×Int×Int):Option (Int×Int):=loop (E7 x2 a) s1
def wE(a:Γ)(b:Int):Option (Int×Int):=(y_ a b).bind λx1=>if(!x1)then V (0,0)else(wG a b).bind λx2=>(Pf x2 a (0,0,0)).bind λv1=>V (v1.1,v1.2)
def Ps(_v1:Unit):Option Bool:=V false
def JC(a:List aJ)(b:Γ)(s1:Int):Option ((Int)⊕Bool):=if(decide (s1<(a.length:Int)))then(idx a s1).bind λx1=>(wE b x1.κ).bind λx2=>((idx a s1).bind λx3=>(if(decide (x2.1>x3.η))then V true else(idx a s1).bind λx4=>V (decide (x2.2>x4.uO))).bind λc1=>V c1).bind λv2=>if v2 then out (V true)else χ (ae (s1+1)) (V (.inl (s1+1)))else out (Ps ())
def XQ(a:List aJ)(b:Γ)(s1:Int):Option Bool:=loop (JC a b) s1
def Ft(a:Γ)(b:List aJ):Option Bool:=XQ b a 0
def O_(_v1:Unit):Option Bool:=V true
def EO(a b:List aH)(s1:Int):Option ((Int)⊕Bool):=if(decide (s1<(a.length:Int)))then(idx a s1).bind λx1=>(idx b s1).bind λx2=>if(!(x1.aC==x2.aC&&(x1.κ==x2.κ&&(x1.ai==x2.ai&&true))))then out (V false)else χ (ae (s1+1)) (V (.inl (s1+1)))else out (O_ ())
def Xh(a b:List aH)(s1:Int):Option Bool:=loop (EO a b) s1
def EN(a b:List aH):Option Bool:=if((a.length:Int) != (b.length:Int))then V false else Xh a b 0
def yW(a b:τ):Option Bool:=((if(a.κ != b.κ)then V true else V (a.θ != b.θ)).bind λc1=>(if c1 then V true else V (a.a_ != b.a_)).bind λc2=>(if c2 then V true else V (a.Up != b.Up)).bind λc3=>(if c3 then V true else V (!(a.aK==b.aK))).bind λc4=>V c4).bind λv1=>if v1 then V false else(EN a.ψ b.ψ).bind λx1=>V x1
def O'(_v1:Unit):Option Bool:=V true
def ER(a b:List τ)(s1:Int):Option ((Int)⊕Bool):=if(decide (s1<(a.length:Int)))then(idx a s1).bind λx1=>(idx b s1).bind λx2=>(yW x1 x2).bind λx3=>if(!x3)then out (V false)else χ (ae (s1+1)) (V (.inl (s1+1)))else out (O' ())
def Xi(a b:List τ)(s1:Int):Option Bool:=loop (ER a b) s1
def EP(a b:List τ):Option Bool:=if((a.length:Int) != (b.length:Int))then V false else Xi a b 0
def EM(a b:Γ):Option Bool:=((if(a.Next==b.Next)then V (a.ai==b.ai)else V false).bind λc1=>(if c1 then(EP a.η b.η).bind λx1=>V x1 else V false).bind λc2=>V c2).bind λv1=>V v1
def Pr(_v1:Unit):Option Bool:=V false
def Fo(a:List cG)(b c s1:Int):Option ((Int)⊕Bool):=if(decide (s1<(a.length:Int)))then((idx a s1).bind λx1=>(if(decide (x1.At>=b))then(idx a s1).bind λx2=>V (decide (x2.At<c))else V false).bind λc1=>V c1).bind λv2=>if v2 then out (V true)else χ (ae (s1+1)) (V (.inl (s1+1)))else out (Pr ())
def XJ(a:List cG)(b c s1:Int):Option Bool:=loop (Fo a b c) s1
def BJ(a:List cG)(b c:Int):Option Bool:=XJ a b c 0
def Fg(a:cd)(b:Γ)(s1:Int×(List cq)):Option ((Int×(List cq))⊕(List cq)):=if(decide (s1.1<(a.aw.η.length:Int)))then((idx a.aw.η s1.1).bind λx2=>(gR b x2.κ).bind λx3=>((if x3.2 then(yW x2 x3.1).bind λx4=>V x4 else V false).bind λc1=>V c1).bind λv3=>if v3 then V s1.2 else(idx a.dh s1.1).bind λx5=>(BJ a.cm x5 (a.bE+1)).bind λx6=>if x6 then(idx a.dh s1.1).bind λx7=>χ ((s1.2.length+([(⟨x7,a.bE+1,x2⟩:cq)]).length)*96<=140737488355328) (V (s1.2++[(⟨x7,a.bE+1,x2⟩:cq)]))else V s1.2).bind λv2=>χ (ae (s1.1+1)) (V (.inl ((s1.1+1),v2)))else out (V s1.2)
def Po(a:cd)(b:Γ)(s1:Int×(List cq)):Option (List cq):=loop (Fg a b) s1
def Fi(a:cd)(b:Γ)(s2:Int×(List Int))(s3:Int×Int):Option ((Int×Int)⊕Int):=if(decide (s3.2<(a.aw.η.length:Int)))then((idx a.aw.η s3.2).bind λx8=>(idx b.η s2.1).bind λx9=>(yW x8 x9).bind λdI=>if dI then(idx a.dh s3.2).bind λez=>V ez else V s3.1).bind λv7=>χ (ae (s3.2+1)) (V (.inl (v7,(s3.2+1))))else out (V s3.1)
def XC(a:cd)(b:Γ)(s2:Int×(List Int))(s3:Int×Int):Option Int:=loop (Fi a b s2) s3
def Fh(a:Γ)(b:cd)(s2:Int×(List Int)):Option ((Int×(List Int))⊕(List Int)):=if(decide (s2.1<(a.η.length:Int)))then((XC b a s2 ((b.bE+1),0)).bind λv6=>χ ((s2.2.length+([v6]).length)*8<=140737488355328) (V (s2.2++[v6]))).bind λv5=>χ (ae (s2.1+1)) (V (.inl ((s2.1+1),v5)))else out (V s2.2)
def Pp(a:Γ)(b:cd)(s2:Int×(List Int)):Option (List Int):=loop (Fh a b) s2
def zd(a:cd)(b:Γ):Option cd:=(EM a.aw b).bind λx1=>if x1 then V a else χ (ae (a.bE+1)) (χ ((([]:List cq).length+a.cM.length)*96<=140737488355328) ((Po a b (0,(([]:List cq)++a.cM))).bind λv1=>(Pp b a (0,([]:List Int))).bind λv4=>V (⟨b,a.bE+1,v4,v1,a.cm,a.Next⟩:cd)))
def JK(a:Γ)(b:cy)(s1:Int×(List Int)):Option ((Int×(List Int))⊕(List Int)):=if(decide (s1.1<(a.η.length:Int)))then((idx a.η s1.1).bind λx1=>((if(x1.θ==1)then V (x1.a_==0)else V false).bind λc1=>(if c1 then(Fx b.Holds x1.κ).bind λx2=>V (!x2)else V false).bind λc2=>V c2).bind λv3=>if v3 then χ ((s1.2.length+([x1.κ]).length)*8<=140737488355328) (V (s1.2++[x1.κ]))else V s1.2).bind λv2=>χ (ae (s1.1+1)) (V (.inl ((s1.1+1),v2)))else out (V s1.2)
def XW(a:Γ)(b:cy)(s1:Int×(List Int)):Option (List Int):=loop (JK a b) s1
def JL(v1:(List Int))(s2:Int×eK):Option ((Int×eK)⊕(eK)):=if(decide (s2.1<(v1.length:Int)))then(idx v1 s2.1).bind λx3=>(By (⟨s2.2.1,s2.2.2.1,s2.2.2.2⟩:Γ) x3).bind λx4=>χ (ae (s2.1+1)) (V (.inl ((s2.1+1),x4.1.η,x4.1.Next,x4.1.ai)))else out (V (s2.2.1,s2.2.2.1,s2.2.2.2))
def XX(v1:(List Int))(s2:Int×eK):Option (eK):=loop (JL v1) s2
def JM(a:List aJ)(v4:eK)(s3:Int×(List aJ)):Option ((Int×(List aJ))⊕(List aJ)):=if(decide (s3.1<(a.length:Int)))then((idx a s3.1).bind λx5=>(gR (⟨v4.1,v4.2.1,v4.2.2⟩:Γ) x5.κ).bind λx6=>if x6.2 then(idx a s3.1).bind λx7=>χ ((s3.2.length+([x7]).length)*24<=140737488355328) (V (s3.2++[x7]))else V s3.2).bind λv6=>χ (ae (s3.1+1)) (V (.inl ((s3.1+1),v6)))else out (V s3.2)
def XY(a:List aJ)(v4:eK)(s3:Int×(List aJ)):Option (List aJ):=loop (JM a v4) s3
def FB(a:cy)(b:Γ)(c:List aJ):Option (cy×Int):=(XW b a (0,[])).bind λv1=>(XX v1 (0,b.η,b.Next,b.ai)).bind λv4=>(XY c v4 (0,[])).bind λv5=>(Fs (⟨v4.1,v4.2.1,v4.2.2⟩:Γ) v5).bind λx8=>if(!x8)then V (a,91)else(Ft (⟨v4.1,v4.2.1,v4.2.2⟩:Γ) v5).bind λx9=>if x9 then V (a,90)else(zd a.S (⟨v4.1,v4.2.1,v4.2.2⟩:Γ)).bind λdI=>V ((⟨dI,a.Holds,v5⟩:cy),0)
def rB(a:cy)(c:Γ)(d:List aJ)(b:Int)(e:da):Option (cy×da):=if(b != 0)then(gI b).bind λx1=>V (a,x1)else(FB a c d).bind λx2=>if(x2.2 != 0)then(gI x2.2).bind λx3=>V (a,x3)else V (x2.1,e)
def EI(a:Γ)(c:Int)(d:List UInt8)(b:Int):Option (Γ×Int×Int):=((if(b != 1)then V (b != 2)else V false).bind λc1=>V c1).bind λv1=>if v1 then V (a,0,1)else(BA a c d).bind λx1=>if(x1 != 0)then V (a,0,x1)else((if(decide ((a.η.length:Int)>=200))then V true else V (decide (a.Next>=1099511627776))).bind λc2=>V c2).bind λv2=>if v2 then V (a,0,76)else(if(b==2)then V c else V 0).bind λv3=>χ (ae (a.Next+1)) ((qx (⟨a.η,a.Next+1,a.ai⟩:Γ) (⟨a.Next,b,1,[],[],v3⟩:τ)).bind λx2=>(wB x2 c d a.Next).bind λx3=>V (x3,a.Next,0))
def EX(x1:τ×Bool)(a:List UInt8)(s1:Int×(List aH)):Option ((Int×(List aH))⊕(List aH)):=if(decide (s1.1<(x1.1.ψ.length:Int)))then((idx x1.1.ψ s1.1).bind λx2=>if(!(x2.aC==a))then(idx x1.1.ψ s1.1).bind λx3=>χ ((s1.2.length+([x3]).length)*32<=140737488355328) (V (s1.2++[x3]))else V s1.2).bind λv2=>χ (ae (s1.1+1)) (V (.inl ((s1.1+1),v2)))else out (V s1.2)
def Xn(x1:τ×Bool)(a:List UInt8)(s1:Int×(List aH)):Option (List aH):=loop (EX x1 a) s1
def wC(a:Γ)(b:Int)(c:List UInt8):Option Γ:=(gR a b).bind λx1=>(Xn x1 c (0,[])).bind λv1=>(qx a (⟨x1.1.κ,x1.1.θ,x1.1.a_,x1.1.aK,v1,x1.1.Up⟩:τ)).bind λx4=>V x4
def y8(a:Γ)(b:Int):Option Γ:=(gR a b).bind λx1=>if(x1.1.θ==2)then(BD a b).bind λx2=>V x2 else χ (ae (x1.1.a_-1)) ((qx a (⟨x1.1.κ,x1.1.θ,x1.1.a_-1,x1.1.aK,x1.1.ψ,x1.1.Up⟩:τ)).bind λx3=>V x3)
def ES(a:Γ)(b:Int)(c:List UInt8):Option (Γ×Int×Int):=(wz a b c).bind λx1=>if(x1.2 != 0)then V (a,0,x1.2)else(gR a x1.1).bind λx2=>if(decide ((x2.1.ψ.length:Int)>0))then V (a,0,74)else(wC a b c).bind λx3=>(y8 x3 x1.1).bind λx4=>V (x4,x1.1,0)
def O9(_v1:Unit):Option Bool:=V false
def wy(a:Γ)(b:Int)(s1:Int×Int):Option ((Int×Int)⊕Bool):=if(decide (s1.2<=(a.η.length:Int)))then if(s1.1==b)then out (V true)else if(s1.1==1)then out (V false)else(gR a s1.1).bind λx1=>χ (ae (s1.2+1)) (V (.inl (x1.1.Up,(s1.2+1))))else out (O9 ())
def Xe(a:Γ)(b:Int)(s1:Int×Int):Option Bool:=loop (wy a b) s1
def Bx(a:Γ)(b c:Int):Option Bool:=Xe a c (b,0)
def ET(b:Γ)(a:τ)(c:Int):Option Int:=(gR b c).bind λx1=>if(!x1.2)then V 0 else((if(a.θ==2)then V (x1.1.θ != 2)else V false).bind λc1=>V c1).bind λv1=>if v1 then V 73 else((if(a.θ != 2)then V (x1.1.θ==2)else V false).bind λc2=>V c2).bind λv2=>if v2 then V 72 else if(decide ((x1.1.ψ.length:Int)>0))then V 74 else V 0
def EW(b:Γ)(c a x1:Int)(s1:Int×Int):Option ((Int×Int)⊕Int):=if(decide (s1.2<(b.η.length:Int)))then((idx b.η s1.2).bind λx2=>((if(x2.θ==2)then(Bx b x2.κ c).bind λx3=>V x3 else V false).bind λc1=>V c1).bind λv3=>if v3 then(uu b x2.κ).bind λx4=>χ (ae (a+x4)) (χ (ae ((a+x4)-x1)) ((if(decide ((x2.ψ.length:Int)>0))then χ (ae (((a+x4)-x1)+1)) (V (((a+x4)-x1)+1))else V ((a+x4)-x1)).bind λv4=>V (max s1.1 v4)))else V s1.1).bind λv2=>χ (ae (s1.2+1)) (V (.inl (v2,(s1.2+1))))else out (V s1.1)
def Xm(a:Γ)(b c x1:Int)(s1:Int×Int):Option Int:=loop (EW a b c x1) s1
def y0(a:Γ)(b c:Int):Option Int:=(uu a b).bind λx1=>(Xm a b c x1 (0,0)).bind λv1=>V v1
def EL(a:Γ)(d:Int)(e:List UInt8)(b:Int)(c:List UInt8):Option (Γ×Int×Int):=(wz a d e).bind λx1=>if(x1.2 != 0)then V (a,0,x1.2)else(wA a b).bind λx2=>if(x2.2 != 0)then V (a,0,x2.2)else(wq c).bind λx3=>if(!x3)then V (a,0,60)else(y7 x2.1 c).bind λx4=>(if(decide (x4>=0))then(idx x2.1.ψ x4).bind λx5=>V x5.κ else V 0).bind λv1=>if(v1==x1.1)then V (a,0,0)else(gR a x1.1).bind λx6=>((if(x6.1.θ==2)then(Bx a b x1.1).bind λx7=>V x7 else V false).bind λc1=>V c1).bind λv2=>if v2 then V (a,0,75)else(ET a x6.1 v1).bind λx8=>if(x8 != 0)then V (a,0,x8)else(uu a b).bind λx9=>((if(v1==0)then V (b != d)else V false).bind λc2=>(if c2 then V (decide ((x2.1.ψ.length:Int)>=64))else V false).bind λc3=>(if c3 then V true else V (decide (x9>=12))).bind λc4=>(if c4 then V true else(if(x6.1.θ==2)then χ (ae (x9+1)) ((y0 a x1.1 (x9+1)).bind λdI=>V (decide (dI>12)))else V false).bind λc5=>V c5).bind λc6=>(if c6 then V true else V (decide (a.ai>=1099511627776))).bind λc7=>V c7).bind λv3=>if v3 then V (a,0,76)else(wC a d e).bind λez=>(if(v1 != 0)then(wC ez b c).bind λdU=>(y8 dU v1).bind λfy=>V (fy.η,fy.Next,fy.ai)else V (ez.η,ez.Next,ez.ai)).bind λv4=>(if(x6.1.θ==2)then(qx (⟨v4.1,v4.2.1,v4.2.2⟩:Γ) (⟨x6.1.κ,x6.1.θ,x6.1.a_,x6.1.aK,x6.1.ψ,b⟩:τ)).bind λly=>V (ly.η,ly.Next,ly.ai)else V (v4.1,v4.2.1,v4.2.2)).bind λv5=>(wB (⟨v5.1,v5.2.1,v5.2.2⟩:Γ) b c x1.1).bind λsZ=>V (sZ,v1,0)
def Fy(a:cy)(b:dO):Option (cy×da):=if(b.θ==3)then(yX a.S.aw b.ib).bind λx1=>if(x1.2 != 0)then(gI x1.2).bind λx2=>V (a,x2)else(zf a.S.aw b.To).bind λx3=>if(x3.2.2 != 0)then(gI x3.2.2).bind λx4=>V (a,x4)else(EK a.S.aw x1.1 x3.1 x3.2.1).bind λx5=>(rB a x5.1 a.et x5.2 (⟨0,x1.1,0,0,0,[],[]⟩:da)).bind λx6=>V (x6.1,x6.2)else(zf a.S.aw b.ib).bind λx7=>if(x7.2.2 != 0)then(gI x7.2.2).bind λx8=>V (a,x8)else if(b.θ==2)then(EI a.S.aw x7.1 x7.2.1 b.N).bind λx9=>(rB a x9.1 a.et x9.2.2 (⟨0,x9.2.1,b.N,0,0,[],[]⟩:da)).bind λdI=>V (dI.1,dI.2)else if(b.θ==4)then(ES a.S.aw x7.1 x7.2.1).bind λez=>(rB a ez.1 a.et ez.2.2 (⟨0,ez.2.1,0,0,0,[],[]⟩:da)).bind λdU=>V (dU.1,dU.2)else(zf a.S.aw b.To).bind λfy=>if(fy.2.2 != 0)then(gI fy.2.2).bind λly=>V (a,ly)else(wz a.S.aw x7.1 x7.2.1).bind λsZ=>(EL a.S.aw x7.1 x7.2.1 fy.1 fy.2.1).bind λwU=>(rB a wU.1 a.et wU.2.2 (⟨0,sZ.1,0,0,0,[],[]⟩:da)).bind λRi=>V (Ri.1,Ri.2)
def BN(a:τ):Option Int:=if(a.θ==2)then V (a.ψ.length:Int)else V (a.aK.length:Int)
def Jc(x1:τ×Int)(s1:Int×(List aH))(s2:Int×Int):Option ((Int×Int)⊕Int):=if(decide (s2.2<(x1.1.ψ.length:Int)))then(((idx x1.1.ψ s2.2).bind λx2=>(if(decide (x2.ai>=s1.1))then(if(decide (s2.1<0))then V true else(idx x1.1.ψ s2.2).bind λx3=>(idx x1.1.ψ s2.1).bind λx4=>V (decide (x3.ai<x4.ai))).bind λc3=>V c3 else V false).bind λc4=>V c4).bind λv4=>if v4 then V s2.2 else V s2.1).bind λv3=>χ (ae (s2.2+1)) (V (.inl (v3,(s2.2+1))))else out (V s2.1)
def Xg(x1:τ×Int)(s1:Int×(List aH))(s2:Int×Int):Option Int:=loop (Jc x1 s1) s2
def Jb(x1:τ×Int)(a:Int)(s1:Int×(List aH)):Option ((Int×(List aH))⊕((List aH)×Int×Int)):=(Xg x1 s1 ((-1),0)).bind λv2=>if(decide (v2<0))then out (V (s1.2,0,0))else if((s1.2.length:Int)==a)then χ (ae (a-1)) ((idx s1.2 (a-1)).bind λx5=>χ (ae (x5.ai+1)) (out (V (s1.2,x5.ai+1,0))))else(idx x1.1.ψ v2).bind λx6=>χ ((s1.2.length+([x6]).length)*32<=140737488355328) ((idx x1.1.ψ v2).bind λx7=>χ (ae (x7.ai+1)) (V (.inl ((x7.ai+1),(s1.2++[x6])))))
def Xf(x1:τ×Int)(a:Int)(s1:Int×(List aH)):Option ((List aH)×Int×Int):=loop (Jb x1 a) s1
def EJ(c:Γ)(d b a:Int):Option ((List aH)×Int×Int):=((if(decide (b<0))then V true else V (decide (a<1))).bind λc1=>(if c1 then V true else V (decide (a>64))).bind λc2=>V c2).bind λv1=>if v1 then V ([],0,1)else(wA c d).bind λx1=>if(x1.2 != 0)then V ([],0,x1.2)else Xf x1 a (b,[])
def BG(a:Γ)(b:Int):Option Bool:=(gR a b).bind λx1=>((if x1.2 then V (x1.1.θ==1)else V false).bind λc1=>(if c1 then V (x1.1.a_==0)else V false).bind λc2=>V c2).bind λv1=>V v1
def Pd(_v1:Unit):Option Int:=V (-1)
def Ji(a:List bg)(b c s1:Int):Option ((Int)⊕Int):=if(decide (s1<(a.length:Int)))then((idx a s1).bind λx1=>(if(x1.gp==b)then(idx a s1).bind λx2=>V (x2.iR==c)else V false).bind λc1=>V c1).bind λv2=>if v2 then out (V s1)else χ (ae (s1+1)) (V (.inl (s1+1)))else out (Pd ())
def Xv(a:List bg)(b c s1:Int):Option Int:=loop (Ji a b c) s1
def y9(a:List bg)(b c:Int):Option Int:=Xv a b c 0
def Jh(a:List bg)(b c s1:Int):Option ((Int)⊕Int):=((if(decide (s1<(a.length:Int)))then(idx a s1).bind λx4=>(if(decide (x4.gp<b))then V true else(idx a s1).bind λx5=>(if(x5.gp==b)then(idx a s1).bind λx6=>V (decide (x6.iR<c))else V false).bind λc5=>V c5).bind λc6=>V c6 else V false).bind λc7=>V c7).bind λv4=>if v4 then χ (ae (s1+1)) (V (.inl (s1+1)))else out (V s1)
def Xu(a:List bg)(b c s1:Int):Option Int:=loop (Jh a b c) s1
def E4(e:Γ)(a:List bg)(b c d:Int):Option ((List bg)×Int):=(gR e d).bind λx1=>((if(decide (b<0))then V true else V (decide (b>=16))).bind λc1=>(if c1 then V true else V (decide (c<0))).bind λc2=>(if c2 then V true else V (decide (c>99))).bind λc3=>V c3).bind λv1=>if v1 then V (a,1)else((if(!x1.2)then V true else(BG e d).bind λx2=>V x2).bind λc4=>V c4).bind λv2=>if v2 then V (a,70)else if(x1.1.θ==2)then V (a,72)else(y9 a b c).bind λx3=>if(decide (x3>=0))then V (a,71)else if(decide ((a.length:Int)>=64))then V (a,76)else(Xu a b c 0).bind λv3=>χ ((0:Int)<=v3/\v3<=(a.length:Int)) (χ ((([]:List bg).length+(a.take v3.toNat).length)*24<=140737488355328) (χ (((([]:List bg)++(a.take v3.toNat)).length+([(⟨b,c,d⟩:bg)]).length)*24<=140737488355328) (χ ((0:Int)<=v3/\v3<=(a.length:Int)) (χ ((((([]:List bg)++(a.take v3.toNat))++[(⟨b,c,d⟩:bg)]).length+(a.drop v3.toNat).length)*24<=140737488355328) (V ((((([]:List bg)++(a.take v3.toNat))++[(⟨b,c,d⟩:bg)])++(a.drop v3.toNat)),0))))))
def Jj(a:List aJ)(b c d:Int)(s1:Bool×Int×(List aJ)):Option ((Bool×Int×(List aJ))⊕(Bool×(List aJ))):=if(decide (s1.2.1<(a.length:Int)))then((((if(!s1.1)then(idx a s1.2.1).bind λx5=>V (decide (x5.κ>=b))else V false).bind λc5=>V c5).bind λv6=>if v6 then χ ((s1.2.2.length+([(⟨b,c,d⟩:aJ)]).length)*24<=140737488355328) (V (true,(s1.2.2++[(⟨b,c,d⟩:aJ)])))else V (s1.1,s1.2.2)).bind λv5=>(idx a s1.2.1).bind λx6=>if(x6.κ != b)then(idx a s1.2.1).bind λx7=>χ ((v5.2.length+([x7]).length)*24<=140737488355328) (V (v5.1,(v5.2++[x7])))else V (v5.1,v5.2)).bind λv4=>χ (ae (s1.2.1+1)) (V (.inl (v4.1,s1.2.1+1,v4.2)))else out (V (s1.1,s1.2.2))
def Xx(a:List aJ)(b c d:Int)(s1:Bool×Int×(List aJ)):Option (Bool×(List aJ)):=loop (Jj a b c d) s1
def E6(e:Γ)(a:List aJ)(b c d:Int):Option ((List aJ)×Int):=(gR e b).bind λx1=>if(!x1.2)then V (a,70)else(y_ e b).bind λx2=>if(!x2)then V (a,73)else(wE e b).bind λx3=>((if(decide (c>=0))then(if(decide (x3.1>c))then V true else V (decide (x3.2>d))).bind λc1=>V c1 else V false).bind λc2=>V c2).bind λv1=>if v1 then V (a,90)else((if(decide (c>=0))then(wF a b).bind λx4=>V (decide (x4<0))else V false).bind λc3=>(if c3 then V (decide ((a.length:Int)>=16))else V false).bind λc4=>V c4).bind λv2=>if v2 then V (a,76)else(Xx a b c d ((decide (c<0)),0,[])).bind λv3=>(if(!v3.1)then χ ((v3.2.length+([(⟨b,c,d⟩:aJ)]).length)*24<=140737488355328) (V (v3.2++[(⟨b,c,d⟩:aJ)]))else V v3.2).bind λv7=>V (v7,0)
def Fk(a:cd)(b:Int):Option (cd×Int×Int):=(gR a.aw b).bind λx1=>if(!x1.2)then V (a,0,70)else if(x1.1.θ != 2)then V (a,0,73)else((if(decide ((a.cm.length:Int)>=16))then V true else V (decide (a.Next>=1099511627776))).bind λc1=>V c1).bind λv1=>if v1 then V (a,0,76)else χ ((([]:List cG).length+a.cm.length)*24<=140737488355328) (χ (((([]:List cG)++a.cm).length+([(⟨a.Next,b,a.bE⟩:cG)]).length)*24<=140737488355328) (χ (ae (a.Next+1)) (V ((⟨a.aw,a.bE,a.dh,a.cM,((([]:List cG)++a.cm)++[(⟨a.Next,b,a.bE⟩:cG)]),a.Next+1⟩:cd),a.Next,0))))
def JO(a:cy)(x1:Int×Int)(_v1:Unit):Option (cy×da):=(Fk a.S x1.1).bind λdU=>if(dU.2.2 != 0)then(gI dU.2.2).bind λfy=>V (a,fy)else V ((⟨dU.1,a.Holds,a.et⟩:cy),(⟨0,0,0,dU.2.1,0,[],[]⟩:da))
def JN(x5:(List aH)×Int×Int)(s1:Int×(List (List UInt8))):Option ((Int×(List (List UInt8)))⊕(List (List UInt8))):=if(decide (s1.1<(x5.1.length:Int)))then(idx x5.1 s1.1).bind λx7=>χ ((s1.2.length+([x7.aC]).length)*16<=140737488355328) (χ (ae (s1.1+1)) (V (.inl ((s1.1+1),(s1.2++[x7.aC])))))else out (V s1.2)
def XZ(x5:(List aH)×Int×Int)(s1:Int×(List (List UInt8))):Option (List (List UInt8)):=loop (JN x5) s1
def FC(a:cy)(b:dO):Option (cy×da):=(yX a.S.aw b.ib).bind λx1=>if(x1.2 != 0)then(gI x1.2).bind λx2=>V (a,x2)else(gR a.S.aw x1.1).bind λx3=>if(b.θ==1)then V (a,(⟨0,x1.1,x3.1.θ,0,0,[],[]⟩:da))else if(b.θ==7)then(BN x3.1).bind λx4=>V (a,(⟨0,x1.1,x3.1.θ,x3.1.a_,x4,[],[]⟩:da))else if(b.θ==6)then(EJ a.S.aw x1.1 b.N b.M).bind λx5=>if(x5.2.2 != 0)then(gI x5.2.2).bind λx6=>V (a,x6)else(XZ x5 (0,[])).bind λv2=>V (a,(⟨0,0,0,x5.2.1,0,v2,[]⟩:da))else if(b.θ==8)then(E4 a.S.aw a.Holds b.gp b.iR x1.1).bind λx8=>if(x8.2 != 0)then(gI x8.2).bind λx9=>V (a,x9)else V ((⟨a.S,x8.1,a.et⟩:cy),(⟨0,x1.1,0,0,0,[],[]⟩:da))else if(b.θ==13)then(E6 a.S.aw a.et x1.1 b.N b.M).bind λdI=>(rB a a.S.aw dI.1 dI.2 (⟨0,x1.1,0,0,0,[],[]⟩:da)).bind λez=>V (ez.1,ez.2)else JO a x1 ()
def Jg(a:List bg)(b:Int)(s1:Int×Int):Option ((Int×Int)⊕Int):=if(decide (s1.2<(a.length:Int)))then((idx a s1.2).bind λx1=>if(x1.κ==b)then χ (ae (s1.1+1)) (V (s1.1+1))else V s1.1).bind λv2=>χ (ae (s1.2+1)) (V (.inl (v2,(s1.2+1))))else out (V s1.1)
def Xt(a:List bg)(b:Int)(s1:Int×Int):Option Int:=loop (Jg a b) s1
def E2(a:List bg)(b:Int):Option Int:=(Xt a b (0,0)).bind λv1=>V v1
def BE(b:Γ)(a:List bg)(c d:Int):Option (Γ×(List bg)×Int):=(y9 a c d).bind λx1=>if(decide (x1<0))then V (b,a,80)else(idx a x1).bind λx2=>χ ((0:Int)<=x1/\x1<=(a.length:Int)) (χ ((([]:List bg).length+(a.take x1.toNat).length)*24<=140737488355328) (χ (ae (x1+1)) (χ ((0:Int)<=(x1+1)/\(x1+1)<=(a.length:Int)) (χ (((([]:List bg)++(a.take x1.toNat)).length+(a.drop (x1+1).toNat).length)*24<=140737488355328) (((BG b x2.κ).bind λx3=>(if x3 then(E2 ((([]:List bg)++(a.take x1.toNat))++(a.drop (x1+1).toNat)) x2.κ).bind λx4=>V (x4==0)else V false).bind λc1=>V c1).bind λv1=>if v1 then(By b x2.κ).bind λx5=>V (x5.1,((([]:List bg)++(a.take x1.toNat))++(a.drop (x1+1).toNat)),0)else V (b,((([]:List bg)++(a.take x1.toNat))++(a.drop (x1+1).toNat)),0))))))
def E3(a:List bg)(b c:Int):Option (Int×Int):=(y9 a b c).bind λx1=>if(decide (x1<0))then V (0,80)else(idx a x1).bind λx2=>V (x2.κ,0)
def Jv(a:Int)(b:List UInt8)(s1:(List UInt8)):Option ((List UInt8)⊕(List UInt8)):=χ (ae (a+(b.length:Int))) (if(decide ((s1.length:Int)<(a+(b.length:Int))))then χ ((s1.length+([0]).length)*1<=140737488355328) (V (.inl (s1++[0])))else out (V s1))
def XK(a:Int)(b:List UInt8)(s1:(List UInt8)):Option (List UInt8):=loop (Jv a b) s1
def Jw(b:List UInt8)(a:Int)(s2:Int×(List UInt8)):Option ((Int×(List UInt8))⊕(List UInt8)):=if(decide (s2.1<(b.length:Int)))then χ (ae (a+s2.1)) ((idx b s2.1).bind λx1=>(idx s2.2 (a+s2.1)).bind λ_=>χ (ae (s2.1+1)) (V (.inl ((s2.1+1),(s2.2.set (a+s2.1).toNat x1)))))else out (V s2.2)
def XL(a:List UInt8)(b:Int)(s2:Int×(List UInt8)):Option (List UInt8):=loop (Jw a b) s2
def BK(a:List UInt8)(c:Int)(b:List UInt8):Option (List UInt8):=χ ((([]:List UInt8).length+a.length)*1<=140737488355328) (if((b.length:Int)==0)then V (([]:List UInt8)++a)else(XK c b (([]:List UInt8)++a)).bind λv1=>(XL b c (0,v1)).bind λv2=>V v2)
def Bz(a:Γ)(c:Int)(b:List UInt8):Option (Γ×Int):=(gR a c).bind λx1=>if(!x1.2)then V (a,70)else if(x1.1.θ==2)then V (a,72)else if(decide ((b.length:Int)>4096))then V (a,2)else χ ((([]:List UInt8).length+b.length)*1<=140737488355328) ((qx a (⟨x1.1.κ,x1.1.θ,x1.1.a_,(([]:List UInt8)++b),x1.1.ψ,x1.1.Up⟩:τ)).bind λx2=>V (x2,0))
def Fw(b:cy)(a:dO):Option (cy×da):=if(a.θ==9)then(BE b.S.aw b.Holds a.gp a.iR).bind λx1=>if(x1.2.2 != 0)then(gI x1.2.2).bind λx2=>V (b,x2)else(zd b.S x1.1).bind λx3=>V ((⟨x3,x1.2.1,b.et⟩:cy),(⟨0,0,0,0,0,[],[]⟩:da))else(E3 b.Holds a.gp a.iR).bind λx4=>if(x4.2 != 0)then(gI x4.2).bind λx5=>V (b,x5)else(gR b.S.aw x4.1).bind λx6=>((if(decide (a.N<0))then V true else(if(a.θ==10)then(if(decide (a.M<0))then V true else V (decide (a.M>4096))).bind λc1=>V c1 else V false).bind λc2=>V c2).bind λc3=>(if c3 then V true else(if(a.θ==11)then V (decide (a.N>4096))else V false).bind λc4=>V c4).bind λc5=>V c5).bind λv1=>if v1 then(gI 1).bind λx7=>V (b,x7)else if(a.θ==10)then χ (ae ((min a.N (x6.1.aK.length:Int))+a.M)) (χ ((0:Int)<=(min a.N (x6.1.aK.length:Int))/\(min a.N (x6.1.aK.length:Int))<=(min ((min a.N (x6.1.aK.length:Int))+a.M) (x6.1.aK.length:Int))/\(min ((min a.N (x6.1.aK.length:Int))+a.M) (x6.1.aK.length:Int))<=(x6.1.aK.length:Int)) (V (b,(⟨0,x4.1,0,0,0,[],(sub x6.1.aK (min a.N (x6.1.aK.length:Int)) (min ((min a.N (x6.1.aK.length:Int))+a.M) (x6.1.aK.length:Int)))⟩:da))))else if(a.θ==11)then χ (ae (a.N+(a.aK.length:Int))) (if(decide ((a.N+(a.aK.length:Int))>4096))then(gI 2).bind λx8=>V (b,x8)else(BK x6.1.aK a.N a.aK).bind λx9=>(Bz b.S.aw x4.1 x9).bind λdI=>(rB b dI.1 b.et dI.2 (⟨0,x4.1,0,0,(x9.length:Int),[],[]⟩:da)).bind λez=>V (ez.1,ez.2))else χ ((0:Int)<=(min a.N (x6.1.aK.length:Int))/\(min a.N (x6.1.aK.length:Int))<=(x6.1.aK.length:Int)) ((Bz b.S.aw x4.1 (x6.1.aK.take (min a.N (x6.1.aK.length:Int)).toNat)).bind λdU=>(rB b dU.1 b.et dU.2 (⟨0,x4.1,0,0,((x6.1.aK.take (min a.N (x6.1.aK.length:Int)).toNat).length:Int),[],[]⟩:da)).bind λfy=>V (fy.1,fy.2))
def Js(a:List τ)(b:τ)(s1:Int):Option ((Int)⊕Int):=((if(decide (s1<(a.length:Int)))then(idx a s1).bind λx1=>V (decide (x1.κ<=b.κ))else V false).bind λc1=>V c1).bind λv2=>if v2 then χ (ae (s1+1)) (V (.inl (s1+1)))else out (V s1)
def XF(a:List τ)(b:τ)(s1:Int):Option Int:=loop (Js a b) s1
def ze(a:List τ)(b:τ):Option (List τ):=(XF a b 0).bind λv1=>χ ((0:Int)<=v1/\v1<=(a.length:Int)) (χ ((([]:List τ).length+(a.take v1.toNat).length)*80<=140737488355328) (χ (((([]:List τ)++(a.take v1.toNat)).length+([b]).length)*80<=140737488355328) (χ ((0:Int)<=v1/\v1<=(a.length:Int)) (χ ((((([]:List τ)++(a.take v1.toNat))++[b]).length+(a.drop v1.toNat).length)*80<=140737488355328) (V (((([]:List τ)++(a.take v1.toNat))++[b])++(a.drop v1.toNat)))))))
def Jq(a:cd)(b:Int)(s1:(List τ)×Int):Option (((List τ)×Int)⊕(List τ)):=if(decide (s1.2<(a.aw.η.length:Int)))then(((if(decide (s1.2<(a.dh.length:Int)))then(idx a.dh s1.2).bind λx1=>V (decide (x1<=b))else V false).bind λc1=>V c1).bind λv3=>if v3 then(idx a.aw.η s1.2).bind λx2=>(ze s1.1 x2).bind λx3=>V x3 else V s1.1).bind λv2=>χ (ae (s1.2+1)) (V (.inl (v2,(s1.2+1))))else out (V s1.1)
def XD(a:cd)(b:Int)(s1:(List τ)×Int):Option (List τ):=loop (Jq a b) s1
def Jr(a:cd)(b:Int)(s2:(List τ)×Int):Option (((List τ)×Int)⊕(List τ)):=if(decide (s2.2<(a.cM.length:Int)))then(((idx a.cM s2.2).bind λx4=>(if(decide (x4.th<=b))then(idx a.cM s2.2).bind λx5=>V (decide (x5.tp>b))else V false).bind λc2=>V c2).bind λv6=>if v6 then(idx a.cM s2.2).bind λx6=>(ze s2.1 x6.rS).bind λx7=>V x7 else V s2.1).bind λv5=>χ (ae (s2.2+1)) (V (.inl (v5,(s2.2+1))))else out (V s2.1)
def XE(a:cd)(b:Int)(s2:(List τ)×Int):Option (List τ):=loop (Jr a b) s2
def Fj(a:cd)(b:Int):Option (List τ):=(XD a b (([]:List τ),0)).bind λv1=>(XE a b (v1,0)).bind λv4=>V v4
def Pq(v1:(List Bool)):Option ((List Bool)×Bool):=V (v1,true)
def BI(s1:sY)(v2:(List Bool)×(List Int)):Option ((sY)⊕((List Bool)×Bool)):=χ (ae (s1.1+1)) (V (.inl ((s1.1+1),v2.1,v2.2)))
def Ju(a:List τ)(x2:τ×Bool)(s2:Int):Option ((Int)⊕Int):=(idx a s2).bind λx3=>if(x3.κ != x2.1.κ)then χ (ae (s2+1)) (V (.inl (s2+1)))else out (V s2)
def XH(a:List τ)(x2:τ×Bool)(s2:Int):Option Int:=loop (Ju a x2) s2
def Fm(x2:τ×Bool)(s1:sY)(v3:Int)(s3:Int×(List Int)):Option ((Int×(List Int))⊕((sY)⊕((List Bool)×Bool))):=if(decide (s3.1<(x2.1.ψ.length:Int)))then(idx x2.1.ψ s3.1).bind λx6=>χ ((s3.2.length+([x6.κ]).length)*8<=140737488355328) (χ (ae (s3.1+1)) (V (.inl ((s3.1+1),(s3.2++[x6.κ])))))else out (BI s1 ((s1.2.1.set v3.toNat true),s3.2))
def XI(x2:τ×Bool)(s1:sY)(v3:Int)(s3:Int×(List Int)):Option ((sY)⊕((List Bool)×Bool)):=loop (Fm x2 s1 v3) s3
def Jt(a:List τ)(s1:sY):Option ((sY)⊕((List Bool)×Bool)):=if(decide (s1.1<(s1.2.2.length:Int)))then(idx s1.2.2 s1.1).bind λx1=>(gR (⟨a,0,0⟩:Γ) x1).bind λx2=>if(!x2.2)then out (V (s1.2.1,false))else(XH a x2 0).bind λv3=>(idx s1.2.1 v3).bind λx4=>if x4 then BI s1 (s1.2.1,s1.2.2)else(idx s1.2.1 v3).bind λ_=>XI x2 s1 v3 (0,s1.2.2)else out (Pq s1.2.1)
def XG(a:List τ)(s1:sY):Option ((List Bool)×Bool):=loop (Jt a) s1
def Fl(a:List τ)(b:Int):Option ((List Bool)×Bool):=χ ((0:Int)<=(a.length:Int)/\(a.length:Int).toNat*1<=140737488355328) (XG a (0,(ia (a.length:Int).toNat (false:Bool)),[b]))
def Jn(_v1:Unit):Option (Int×(List τ)×Int):=V (0,[],100)
def Jo(s1:Int)(_v2:Unit):Option ((Int)⊕(Int×(List τ)×Int)):=χ (ae (s1+1)) (V (.inl (s1+1)))
def Jm(x3:(List τ))(x5:(List Bool)×Bool)(s2:Int×(List τ)):Option ((Int×(List τ))⊕(List τ)):=if(decide (s2.1<(x3.length:Int)))then((idx x5.1 s2.1).bind λx6=>if x6 then(idx x3 s2.1).bind λx7=>χ ((s2.2.length+([x7]).length)*80<=140737488355328) (V (s2.2++[x7]))else V s2.2).bind λv4=>χ (ae (s2.1+1)) (V (.inl ((s2.1+1),v4)))else out (V s2.2)
def Xz(x3:(List τ))(x5:(List Bool)×Bool)(s2:Int×(List τ)):Option (List τ):=loop (Jm x3 x5) s2
def Jl(a:cd)(b s1:Int):Option ((Int)⊕(Int×(List τ)×Int)):=if(decide (s1<(a.cm.length:Int)))then(idx a.cm s1).bind λx1=>if(x1.Id != b)then Jo s1 ()else(idx a.cm s1).bind λx2=>(Fj a x2.At).bind λx3=>(idx a.cm s1).bind λx4=>(Fl x3 x4.κ).bind λx5=>(Xz x3 x5 (0,([]:List τ))).bind λv3=>(idx a.cm s1).bind λx8=>out (V (x8.κ,v3,0))else out (Jn ())
def Xy(a:cd)(b s1:Int):Option (Int×(List τ)×Int):=loop (Jl a b) s1
def Fb(a:cd)(b:Int):Option (Int×(List τ)×Int):=Xy a b 0
def JH(v1:mr)(s3:Int×(List (List UInt8))):Option ((Int×(List (List UInt8)))⊕(List (List UInt8))):=if(decide (s3.1<(v1.2.2.2.2.1.length:Int)))then(idx v1.2.2.2.2.1 s3.1).bind λdU=>χ ((s3.2.length+([dU.aC]).length)*16<=140737488355328) (χ (ae (s3.1+1)) (V (.inl ((s3.1+1),(s3.2++[dU.aC])))))else out (V s3.2)
def XV(v1:mr)(s3:Int×(List (List UInt8))):Option (List (List UInt8)):=loop (JH v1) s3
def JI(v1:mr):Option da:=(XV v1 (0,[])).bind λv5=>(BN (⟨v1.1,v1.2.1,v1.2.2.1,v1.2.2.2.1,v1.2.2.2.2.1,v1.2.2.2.2.2⟩:τ)).bind λfy=>V (⟨0,v1.1,v1.2.1,v1.2.2.1,fy,v5,v1.2.2.2.1⟩:da)
def JJ(s1:Int×mr)(v2:mr):Option ((Int×mr)⊕da):=χ (ae (s1.1+1)) (V (.inl ((s1.1+1),v2.1,v2.2.1,v2.2.2.1,v2.2.2.2.1,v2.2.2.2.2.1,v2.2.2.2.2.2)))
def JG(s1:Int×mr)(x3:(List (List UInt8))×Int)(s2:Int×Int):Option ((Int×Int)⊕Int):=if(decide (s2.2<(s1.2.2.2.2.2.1.length:Int)))then((idx s1.2.2.2.2.2.1 s2.2).bind λx7=>(idx x3.1 s1.1).bind λx8=>if(x7.aC==x8)then(idx s1.2.2.2.2.2.1 s2.2).bind λx9=>V x9.κ else V s2.1).bind λv4=>χ (ae (s2.2+1)) (V (.inl (v4,(s2.2+1))))else out (V s2.1)
def XU(s1:Int×mr)(x3:(List (List UInt8))×Int)(s2:Int×Int):Option Int:=loop (JG s1 x3) s2
def JF(x3:(List (List UInt8))×Int)(x1:Int×(List τ)×Int)(s1:Int×mr):Option ((Int×mr)⊕da):=if(decide (s1.1<(x3.1.length:Int)))then if(s1.2.2.1 != 2)then(gI 73).bind λx6=>out (V x6)else(XU s1 x3 (0,0)).bind λv3=>(gR (⟨x1.2.1,0,0⟩:Γ) v3).bind λdI=>if(!dI.2)then(gI 70).bind λez=>out (V ez)else JJ s1 (dI.1.κ,dI.1.θ,dI.1.a_,dI.1.aK,dI.1.ψ,dI.1.Up)else out (JI (s1.2.1,s1.2.2.1,s1.2.2.2.1,s1.2.2.2.2.1,s1.2.2.2.2.2.1,s1.2.2.2.2.2.2))
def XT(x3:(List (List UInt8))×Int)(x1:Int×(List τ)×Int)(s1:Int×mr):Option da:=loop (JF x3 x1) s1
def FA(b:cy)(a:dO):Option da:=(Fb b.S a.N).bind λx1=>if(x1.2.2 != 0)then(gI x1.2.2).bind λx2=>V x2 else(wv a.ib).bind λx3=>if(x3.2 != 0)then(gI x3.2).bind λx4=>V x4 else(gR (⟨x1.2.1,0,0⟩:Γ) x1.1).bind λx5=>XT x3 x1 (0,x5.1.κ,x5.1.θ,x5.1.a_,x5.1.aK,x5.1.ψ,x5.1.Up)
def Fe(a:cd)(b:Int)(s1:Int×(List cG)):Option ((Int×(List cG))⊕(List cG)):=if(decide (s1.1<(a.cm.length:Int)))then((idx a.cm s1.1).bind λx1=>if(x1.Id != b)then(idx a.cm s1.1).bind λx2=>χ ((s1.2.length+([x2]).length)*24<=140737488355328) (V (s1.2++[x2]))else V s1.2).bind λv2=>χ (ae (s1.1+1)) (V (.inl ((s1.1+1),v2)))else out (V s1.2)
def XA(a:cd)(b:Int)(s1:Int×(List cG)):Option (List cG):=loop (Fe a b) s1
def Ff(a:cd)(v1:(List cG))(s2:Int×(List cq)):Option ((Int×(List cq))⊕(List cq)):=if(decide (s2.1<(a.cM.length:Int)))then((idx a.cM s2.1).bind λx3=>(idx a.cM s2.1).bind λx4=>(BJ v1 x3.th x4.tp).bind λx5=>if x5 then(idx a.cM s2.1).bind λx6=>χ ((s2.2.length+([x6]).length)*96<=140737488355328) (V (s2.2++[x6]))else V s2.2).bind λv4=>χ (ae (s2.1+1)) (V (.inl ((s2.1+1),v4)))else out (V s2.2)
def XB(a:cd)(v1:(List cG))(s2:Int×(List cq)):Option (List cq):=loop (Ff a v1) s2
def Fc(a:cd)(b:Int):Option (cd×Int):=(XA a b (0,([]:List cG))).bind λv1=>if((v1.length:Int)==(a.cm.length:Int))then V (a,100)else(XB a v1 (0,([]:List cq))).bind λv3=>V ((⟨a.aw,a.bE,a.dh,v3,v1,a.Next⟩:cd),0)
def Jf(a:Int)(s1:(List bg)×Int×eK):Option (((List bg)×Int×eK)⊕((List bg)×eK)):=if(decide (s1.2.1<=99))then(BE (⟨s1.2.2.1,s1.2.2.2.1,s1.2.2.2.2⟩:Γ) s1.1 a s1.2.1).bind λx1=>χ (ae (s1.2.1+1)) (V (.inl (x1.2.1,s1.2.1+1,x1.1.η,x1.1.Next,x1.1.ai)))else out (V (s1.1,s1.2.2.1,s1.2.2.2.1,s1.2.2.2.2))
def Xs(a:Int)(s1:(List bg)×Int×eK):Option ((List bg)×eK):=loop (Jf a) s1
def E1(a:Γ)(b:List bg)(c:Int):Option (Γ×(List bg)):=(Xs c (b,0,a.η,a.Next,a.ai)).bind λv1=>V ((⟨v1.2.1,v1.2.2.1,v1.2.2.2⟩:Γ),v1.1)
def Fp(b:cy)(a:dO):Option (cy×da):=((if(decide (a.gp<0))then V true else V (decide (a.gp>=16))).bind λc1=>V c1).bind λv1=>if v1 then(gI 1).bind λx1=>V (b,x1)else(if(a.θ==2)then V (a.θ==2)else if(a.θ==3)then V (a.θ==3)else if(a.θ==4)then V (a.θ==4)else V (a.θ==5)).bind λv2=>if v2 then(Fy b a).bind λx2=>V (x2.1,x2.2)else(if(a.θ==1)then V (a.θ==1)else if(a.θ==6)then V (a.θ==6)else if(a.θ==7)then V (a.θ==7)else if(a.θ==8)then V (a.θ==8)else if(a.θ==13)then V (a.θ==13)else V (a.θ==14)).bind λv3=>if v3 then(FC b a).bind λx3=>V (x3.1,x3.2)else(if(a.θ==9)then V (a.θ==9)else if(a.θ==10)then V (a.θ==10)else if(a.θ==11)then V (a.θ==11)else V (a.θ==12)).bind λv4=>if v4 then(Fw b a).bind λx4=>V (x4.1,x4.2)else if(a.θ==15)then(FA b a).bind λx5=>V (b,x5)else if(a.θ==16)then(Fc b.S a.N).bind λx6=>if(x6.2 != 0)then(gI x6.2).bind λx7=>V (b,x7)else V ((⟨x6.1,b.Holds,b.et⟩:cy),(⟨0,0,0,0,0,[],[]⟩:da))else if(a.θ==17)then(E1 b.S.aw b.Holds a.gp).bind λx8=>(zd b.S x8.1).bind λx9=>V ((⟨x9,x8.2,b.et⟩:cy),(⟨0,0,0,0,0,[],[]⟩:da))else(gI 1).bind λdI=>V (b,dI)
def Ir(a:List dO)(s1:Int×Ck):Option ((Int×Ck)⊕(Ck)):=if(decide (s1.1<(a.length:Int)))then(idx a s1.1).bind λx2=>(Fp (⟨(⟨(⟨s1.2.1,s1.2.2.1,s1.2.2.2.1⟩:Γ),s1.2.2.2.2.1,s1.2.2.2.2.2.1,s1.2.2.2.2.2.2.1,s1.2.2.2.2.2.2.2.1,s1.2.2.2.2.2.2.2.2.1⟩:cd),s1.2.2.2.2.2.2.2.2.2.1,s1.2.2.2.2.2.2.2.2.2.2⟩:cy) x2).bind λx3=>χ (ae (s1.1+1)) (V (.inl ((s1.1+1),x3.1.S.aw.η,x3.1.S.aw.Next,x3.1.S.aw.ai,x3.1.S.bE,x3.1.S.dh,x3.1.S.cM,x3.1.S.cm,x3.1.S.Next,x3.1.Holds,x3.1.et)))else out (V (s1.2.1,s1.2.2.1,s1.2.2.2.1,s1.2.2.2.2.1,s1.2.2.2.2.2.1,s1.2.2.2.2.2.2.1,s1.2.2.2.2.2.2.2.1,s1.2.2.2.2.2.2.2.2.1,s1.2.2.2.2.2.2.2.2.2.1,s1.2.2.2.2.2.2.2.2.2.2))
def VT(a:List dO)(s1:Int×Ck):Option (Ck):=loop (Ir a) s1
def Ek(a:List dO):Option cy:=(Fq).bind λx1=>(VT a (0,x1.S.aw.η,x1.S.aw.Next,x1.S.aw.ai,x1.S.bE,x1.S.dh,x1.S.cM,x1.S.cm,x1.S.Next,x1.Holds,x1.et)).bind λv1=>V (⟨(⟨(⟨v1.1,v1.2.1,v1.2.2.1⟩:Γ),v1.2.2.2.1,v1.2.2.2.2.1,v1.2.2.2.2.2.1,v1.2.2.2.2.2.2.1,v1.2.2.2.2.2.2.2.1⟩:cd),v1.2.2.2.2.2.2.2.2.1,v1.2.2.2.2.2.2.2.2.2⟩:cy)
def Qx(_v1:Unit):Option ((List (List UInt8))×Bool):=V ([],false)
def Kj(b:cy)(c:List UInt8)(a:Int)(s1:rE):Option ((rE)⊕((List (List UInt8))×Bool)):=if(decide (s1.2.1<66))then(ir b (⟨6,0,c,[],s1.1,a,0,[]⟩:dO)).bind λx1=>((if(x1.2.mN != 0)then V true else V (decide ((x1.2.jy.length:Int)>a))).bind λc1=>V c1).bind λv2=>if v2 then out (V ([],false))else χ ((s1.2.2.length+x1.2.jy.length)*16<=140737488355328) (if(x1.2.N==0)then out (V ((s1.2.2++x1.2.jy),true))else χ (ae (s1.2.1+1)) (V (.inl (x1.2.N,s1.2.1+1,(s1.2.2++x1.2.jy)))))else out (Qx ())
def YN(a:cy)(b:List UInt8)(c:Int)(s1:rE):Option ((List (List UInt8))×Bool):=loop (Kj a b c) s1
def F7(a:cy)(b:List UInt8)(c:Int):Option ((List (List UInt8))×Bool):=YN a b c (0,0,([]:List (List UInt8)))
def F6(b a:List UInt8):Option (List UInt8):=(wv b).bind λx1=>χ ((([]:List (List UInt8)).length+x1.1.length)*16<=140737488355328) (χ (((([]:List (List UInt8))++x1.1).length+([a]).length)*16<=140737488355328) ((Bu ((([]:List (List UInt8))++x1.1)++[a])).bind λx2=>V x2))
def Qy(v1:(List (List UInt8))):Option ((List (List UInt8))×Bool):=V (v1,true)
def B_(s1:Int×(List (List UInt8)))(v3:(List (List UInt8))):Option ((Int×(List (List UInt8)))⊕((List (List UInt8))×Bool)):=χ (ae (s1.1+1)) (V (.inl ((s1.1+1),v3)))
def F8(x4:(List (List UInt8))×Bool)(s1:Int×(List (List UInt8)))(s2:Int×(List (List UInt8))):Option ((Int×(List (List UInt8)))⊕((Int×(List (List UInt8)))⊕((List (List UInt8))×Bool))):=if(decide (s2.1<(x4.1.length:Int)))then(idx s2.2 s1.1).bind λx5=>(idx x4.1 s2.1).bind λx6=>(F6 x5 x6).bind λx7=>χ ((s2.2.length+([x7]).length)*16<=140737488355328) (χ (ae (s2.1+1)) (V (.inl ((s2.1+1),(s2.2++[x7])))))else out (B_ s1 s2.2)
def YP(x4:(List (List UInt8))×Bool)(s1:Int×(List (List UInt8)))(s2:Int×(List (List UInt8))):Option ((Int×(List (List UInt8)))⊕((List (List UInt8))×Bool)):=loop (F8 x4 s1) s2
def Kl(a:cy)(b:Int)(s1:Int×(List (List UInt8))):Option ((Int×(List (List UInt8)))⊕((List (List UInt8))×Bool)):=((if(decide (s1.1<(s1.2.length:Int)))then V (decide ((s1.2.length:Int)<=4000))else V false).bind λc1=>V c1).bind λv2=>if v2 then(idx s1.2 s1.1).bind λx1=>(ir a (⟨1,0,x1,[],0,0,0,[]⟩:dO)).bind λx2=>if(x2.2.mN != 0)then out (V ([],false))else if(x2.2.θ != 2)then B_ s1 s1.2 else(idx s1.2 s1.1).bind λx3=>(F7 a x3 b).bind λx4=>if(!x4.2)then out (V ([],false))else YP x4 s1 (0,s1.2)else out (Qy s1.2)
def YO(a:cy)(b:Int)(s1:Int×(List (List UInt8))):Option ((List (List UInt8))×Bool):=loop (Kl a b) s1
def zy(a:cy)(b:Int):Option ((List (List UInt8))×Bool):=YO a b (0,[[47]])
def JD(_v2:Unit):Option Bool:=V true
def Fv(a b:da)(s1:Int):Option ((Int)⊕Bool):=if(decide (s1<(a.jy.length:Int)))then(idx a.jy s1).bind λx1=>(idx b.jy s1).bind λx2=>if(!(x1==x2))then out (V false)else χ (ae (s1+1)) (V (.inl (s1+1)))else out (JD ())
def XR(a b:da)(s1:Int):Option Bool:=loop (Fv a b) s1
def Fu(a b:da):Option Bool:=((if(a.mN != b.mN)then V true else V (a.κ != b.κ)).bind λc1=>(if c1 then V true else V (a.θ != b.θ)).bind λc2=>(if c2 then V true else V (a.N != b.N)).bind λc3=>(if c3 then V true else V (a.M != b.M)).bind λc4=>(if c4 then V true else V ((a.jy.length:Int) != (b.jy.length:Int))).bind λc5=>(if c5 then V true else V (!(a.aK==b.aK))).bind λc6=>V c6).bind λv1=>if v1 then V false else XR a b 0
def Ki(x6:cy×da)(x1:Bool)(x7:(List (List UInt8))×Bool)(_v4:Unit):Option Bool:=(zy x6.1 64).bind λfy=>((if x1 then V fy.2 else V false).bind λc6=>(if c6 then V ((fy.1.length:Int)==(x7.1.length:Int))else V false).bind λc7=>V c7).bind λv5=>V v5
def Kh(x7:(List (List UInt8))×Bool)(x3:cy)(x6:cy×da)(x1:Bool)(s1:Int):Option ((Int)⊕Bool):=if(decide (s1<(x7.1.length:Int)))then(idx x7.1 s1).bind λx8=>(ir x3 (⟨7,0,x8,[],0,0,0,[]⟩:dO)).bind λx9=>(idx x7.1 s1).bind λdI=>(ir x6.1 (⟨7,0,dI,[],0,0,0,[]⟩:dO)).bind λez=>(Fu x9.2 ez.2).bind λdU=>if(!dU)then out (V false)else χ (ae (s1+1)) (V (.inl (s1+1)))else out (Ki x6 x1 x7 ())
def Qu(x7:(List (List UInt8))×Bool)(x3:cy)(x6:cy×da)(x1:Bool)(s1:Int):Option Bool:=loop (Kh x7 x3 x6 x1) s1
def FZ(c:List dO)(b a:List UInt8):Option Bool:=(Qw).bind λx1=>((Ej c).bind λx2=>(if x2 then V true else V (decide ((b.length:Int)>1000))).bind λc1=>(if c1 then V true else V (decide ((a.length:Int)>1000))).bind λc2=>V c2).bind λv1=>if v1 then V x1 else(Ek c).bind λx3=>(ir x3 (⟨1,0,a,[],0,0,0,[]⟩:dO)).bind λx4=>(ir x3 (⟨5,0,b,a,0,0,0,[]⟩:dO)).bind λx5=>((if(x5.2.mN != 0)then V true else V (x4.2.mN != 70)).bind λc3=>V c3).bind λv2=>if v2 then V x1 else(ir x5.1 (⟨5,0,a,b,0,0,0,[]⟩:dO)).bind λx6=>(zy x3 64).bind λx7=>((if(x6.2.mN != 0)then V true else V (x6.2.κ != x5.2.κ)).bind λc4=>(if c4 then V true else V (!x7.2)).bind λc5=>V c5).bind λv3=>if v3 then V false else Qu x7 x3 x6 x1 0
end
end Go.Proofs
