/- The plain programs of this seat. No condition. -/
import Derived.Test.YtdcgbodbejgliaaGreatDoorXTopListedCatP6
open List renaming replicate → gl
namespace Go.Proofs
noncomputable section
set_option linter.all false
open Go Go.Cat
abbrev u1:=fB 1 62 ([]:List (Int×Int))
abbrev u2:=fB 2 63 u1
abbrev u3:=fB 3 64 u2
abbrev u4:=fB 4 65 u3
abbrev u5:=fB 5 66 u4
abbrev u6:=fB 6 67 u5
abbrev u7:=fB 7 68 u6
abbrev u8:=fB 8 69 u7
abbrev u9:=fB 9 70 u8
abbrev Nr:=fB 10 71 u9
abbrev Ns:=fB 11 72 Nr
abbrev Nt:=fB 12 73 Ns
abbrev Nu:=fB 13 74 Nt
abbrev Nv:=fB 14 75 Nu
abbrev Nw:=fB 15 76 Nv
abbrev u16:=fB 16 77 Nw
abbrev rU:=fB 17 78 u16
variable [K:LK]
structure dP where
 Ω:Int
 fZ:Int
 ia:List UInt8
 To:List UInt8
 N:Int
 M:Int
 iO:Int
 aP:List UInt8
structure aJ where
 aR:List UInt8
 κ:Int
 ar:Int
structure ψ where
 κ:Int
 Ω:Int
 a_:Int
 aP:List UInt8
 ae:List aJ
 Up:Int
structure Φ where
 ι:List ψ
 Next:Int
 ar:Int
structure bV where
 qY:Int
 q7:Int
 p9:ψ
structure cw where
 Id:Int
 κ:Int
 At:Int
structure bS where
 aC:Φ
 bH:Int
 dI:List Int
 cW:List bV
 cm:List cw
 Next:Int
structure bq where
 fZ:Int
 iO:Int
 κ:Int
structure aU where
 κ:Int
 ι:Int
 C0:Int
structure cF where
 S:bS
 Holds:List bq
 f_:List aU
structure dh where
 uz:Int
 κ:Int
 Ω:Int
 N:Int
 M:Int
 lS:List (List UInt8)
 aP:List UInt8
structure c_ where
 Tree:Φ
structure EV where
 b_:List UInt8
structure kU where
 gZ:EV
 e_:Int
abbrev eb:=(List ψ)×Int×Int
abbrev kV:=Int×Int×Int×(List UInt8)×(List aJ)×Int
abbrev wQ:=(List ψ)×Int×Int×Int×(List Int)×(List bV)×(List cw)×Int×(List aU)
abbrev zm:=(List ψ)×Int×Int×Int×(List Int)×(List bV)×(List cw)×Int×(List bq)×(List aU)
abbrev nY:=(List ψ)×Int×Int×Int×(List (Int×Bool))
abbrev zn:=(List ψ)×Int×Int×Int×(List Int)×(List bV)×(List cw)×Int×Int×(List aU)
abbrev pQ:=Int×Int×(List (List UInt8))
abbrev qP:=Int×(List Bool)×(List Int)
def Nd:Option Φ:=some (⟨[(⟨1,2,0,[],[],1⟩:ψ)],2,1⟩:Φ)
def L9 (a:Φ):Option bS:=τ ((0:Int)≤(a.ι.length:Int)∧(a.ι.length:Int).toNat*8≤140737488355328) (some (⟨a,0,(gl (a.ι.length:Int).toNat (0:Int)),[],[],1⟩:bS))
def Is:Option cF:=(Nd).bind fun x1=>(L9 x1).bind fun x2=>some (⟨x2,[],[]⟩:cF)
def Ad:Option Unit:=τ (Ψ 1∧([]:List (Int×Int)).length<140737488355328) (τ (Ψ 2∧u1.length<140737488355328) (τ (Ψ 3∧u2.length<140737488355328) (τ (Ψ 4∧u3.length<140737488355328) (τ (Ψ 5∧u4.length<140737488355328) (τ (Ψ 6∧u5.length<140737488355328) (τ (Ψ 7∧u6.length<140737488355328) (τ (Ψ 8∧u7.length<140737488355328) (τ (Ψ 9∧u8.length<140737488355328) (τ (Ψ 10∧u9.length<140737488355328) (τ (Ψ 11∧Nr.length<140737488355328) (τ (Ψ 12∧Ns.length<140737488355328) (τ (Ψ 13∧Nt.length<140737488355328) (τ (Ψ 14∧Nu.length<140737488355328) (τ (Ψ 15∧Nv.length<140737488355328) (τ (Ψ 16∧Nw.length<140737488355328) (τ (Ψ 17∧u16.length<140737488355328) (some ())))))))))))))))))
def nH (a:Int):Option (Int⊕Unit):=if (a != 0) then some (.inl a) else some (.inr ())
def Aa (a:Bool) (b:Int):Option (Int⊕Unit):=if (!a) then (nH b).bind fun x1=>fT x1 (fun e1=>some (.inl e1)) fun _=>some (.inr ()) else some (.inr ())
def EK (a:List UInt8):Option Unit:=some ()
def Ep (b a:List UInt8):Option Bool:=((if (decide ((b.length:Int)≥(a.length:Int))) then τ ((0:Int)≤0∧0≤(a.length:Int)∧(a.length:Int)≤(b.length:Int)) (some ((sub b 0 (a.length:Int))==a)) else some false).bind fun c1=>some c1).bind fun v1=>some v1
def Eo (a b:List UInt8):Option ((List UInt8)×Bool):=(Ep a b).bind fun x1=>if (!x1) then some (a,false) else τ ((0:Int)≤(b.length:Int)∧(b.length:Int)≤(a.length:Int)∧(a.length:Int)≤(a.length:Int)) (some ((sub a (b.length:Int) (a.length:Int)),true))
def Ck (a b:List UInt8):Option ((List UInt8)×Bool):=(Eo a b).bind fun x1=>some (x1.1,x1.2)
def EJ (_v2:Unit):Option Bool:=some true
def EI (a:List UInt8) (s1:Nat):Option ((Nat)⊕Bool):=if (decide (s1<a.length)) then ((if (decide ((((nE a s1).1:Nat):Int)<32)) then some true else some ((((nE a s1).1:Nat):Int)==47)).bind fun c4=>some c4).bind fun v3=>if v3 then out (some false) else some (.inl (s1+(nE a s1).2)) else out (EJ ())
def KB (a:List UInt8) (s1:Nat):Option Bool:=loop (EI a) s1
def tD (a:List UInt8):Option Bool:=((if (a==([])) then some true else some (decide ((a.length:Int)>32))).bind fun c1=>(if c1 then some true else some (a==([46]))).bind fun c2=>(if c2 then some true else some (a==([46,46]))).bind fun c3=>some c3).bind fun v1=>if v1 then some false else KB a 0
def yt (b:List UInt8) (c:Bool) (d:Int) (a:List (List UInt8)):Option (LS×Int×(List (List UInt8))):=((if (!c) then some true else (tD b).bind fun x1=>some (!x1)).bind fun c1=>(if c1 then some true else some ((a.length:Int)==12)).bind fun c2=>some c2).bind fun v1=>if v1 then some (.ret,60,a) else τ ((a.length+([b]).length)*16≤140737488355328) (some (.gY,d,(a++[b])))
def EM (s1:LS×(List UInt8)×Int×(List (List UInt8))):Option ((LS×(List UInt8)×Int×(List (List UInt8)))⊕(LS×Int×(List UInt8)×(List (List UInt8)))):=if (!(s1.2.1==([]))) then (Ck s1.2.1 ([47])).bind fun x1=>(if (decide ((lG x1.1 47)<0)) then some (x1.1.length:Int) else some (lG x1.1 47)).bind fun v1=>τ ((0:Int)≤0∧0≤v1∧v1≤(x1.1.length:Int)) (τ (s1.1=.gY) ((yt (sub x1.1 0 v1) x1.2 s1.2.2.1 s1.2.2.2).bind fun x2=>if (!(LS.tn x2.1)) then out (some (x2.1,x2.2.1,s1.2.1,x2.2.2)) else τ ((0:Int)≤v1∧v1≤(x1.1.length:Int)∧(x1.1.length:Int)≤(x1.1.length:Int)) (some (.inl (x2.1,(sub x1.1 v1 (x1.1.length:Int)),x2.2.1,x2.2.2))))) else out (some (s1.1,s1.2.2.1,s1.2.1,s1.2.2.2))
def Su (s1:LS×(List UInt8)×Int×(List (List UInt8))):Option (LS×Int×(List UInt8)×(List (List UInt8))):=loop EM s1
def EL (a:Int) (b:List UInt8):Option (LS×Int×(List UInt8)×(List (List UInt8))):=Su (.gY,b,a,[])
def yr (a:List UInt8):Option ((List (List UInt8))×Int):=if (a==([47])) then some ([],0) else (EK a).bind fun _=>(EL 0 a).bind fun x2=>if x2.1=.gY then if ((x2.2.2.2.length:Int)==0) then some ([],60) else some (x2.2.2.2,0) else if x2.1=.ret then some ([],x2.2.1) else none
def cmp_isNaN_int (a:Int):Option Bool:=some (a != a)
def sG (a b:Int):Option Int:=(cmp_isNaN_int a).bind fun x1=>(cmp_isNaN_int b).bind fun x2=>if x1 then if x2 then some 0 else some (-1) else if x2 then some 1 else if (decide (a<b)) then some (-1) else if (decide (a>b)) then some 1 else some 0
def Gx (a:ψ) (b:Int):Option Int:=(sG a.κ b).bind fun x1=>some x1
def Mk (a:List ψ) (b:Int) (s1:Int×Int):Option ((Int×Int)⊕Int):=if (decide (s1.1<s1.2)) then τ (Ψ (s1.1+s1.2)) ((idx a (IntKind.i64.wrap (fV .u64 (IntKind.u64.wrap (s1.1+s1.2)) 1))).bind fun x1=>(Gx x1 b).bind fun x2=>if (decide (x2<0)) then τ (Ψ ((IntKind.i64.wrap (fV .u64 (IntKind.u64.wrap (s1.1+s1.2)) 1))+1)) (some (.inl (((IntKind.i64.wrap (fV .u64 (IntKind.u64.wrap (s1.1+s1.2)) 1))+1),s1.2))) else some (.inl (s1.1,(IntKind.i64.wrap (fV .u64 (IntKind.u64.wrap (s1.1+s1.2)) 1))))) else out (some s1.1)
def adF (a:List ψ) (b:Int) (s1:Int×Int):Option Int:=loop (Mk a b) s1
def Mj (a:List ψ) (b:Int):Option (Int×Bool):=(adF a b (0,(a.length:Int))).bind fun v1=>((if (decide (v1<(a.length:Int))) then (idx a v1).bind fun x3=>(Gx x3 b).bind fun x4=>some (x4==0) else some false).bind fun c1=>some c1).bind fun v2=>some (v1,v2)
def tY (self:c_) (a:Int):Option ((Int×Bool)×c_):=(Mj self.Tree.ι a).bind fun x1=>some ((x1.1,x1.2),self)
def nX (self:c_) (a:Int):Option ((ψ×Bool)×c_):=(tY self a).bind fun x1=>if (!x1.1.2) then some (((⟨0,0,0,[],[],0⟩:ψ),false),x1.2) else (idx x1.2.Tree.ι x1.1.1).bind fun x2=>some ((x2,true),x1.2)
def tZ (self:c_) (a:Int):Option ((ψ×Int)×c_):=(nX self a).bind fun x1=>if (!x1.1.2) then some (((⟨0,0,0,[],[],0⟩:ψ),70),x1.2) else if (x1.1.1.Ω != 2) then some (((⟨0,0,0,[],[],0⟩:ψ),73),x1.2) else some ((x1.1.1,0),x1.2)
def zk (a:aJ) (b:List UInt8):Option Int:=some (lu a.aR b)
def Mi (a:List aJ) (b:List UInt8) (s1:Int×Int):Option ((Int×Int)⊕Int):=if (decide (s1.1<s1.2)) then τ (Ψ (s1.1+s1.2)) ((idx a (IntKind.i64.wrap (fV .u64 (IntKind.u64.wrap (s1.1+s1.2)) 1))).bind fun x1=>(zk x1 b).bind fun x2=>if (decide (x2<0)) then τ (Ψ ((IntKind.i64.wrap (fV .u64 (IntKind.u64.wrap (s1.1+s1.2)) 1))+1)) (some (.inl (((IntKind.i64.wrap (fV .u64 (IntKind.u64.wrap (s1.1+s1.2)) 1))+1),s1.2))) else some (.inl (s1.1,(IntKind.i64.wrap (fV .u64 (IntKind.u64.wrap (s1.1+s1.2)) 1))))) else out (some s1.1)
def adE (a:List aJ) (b:List UInt8) (s1:Int×Int):Option Int:=loop (Mi a b) s1
def Mh (a:List aJ) (b:List UInt8):Option (Int×Bool):=(adE a b (0,(a.length:Int))).bind fun v1=>((if (decide (v1<(a.length:Int))) then (idx a v1).bind fun x3=>(zk x3 b).bind fun x4=>some (x4==0) else some false).bind fun c1=>some c1).bind fun v2=>some (v1,v2)
def qO (a:ψ) (b:List UInt8):Option (Int×Bool):=(Mh a.ae b).bind fun x1=>some (x1.1,x1.2)
def wN (b:Φ) (c:Int) (a:List UInt8):Option (Int×Int):=(tZ (⟨b⟩:c_) c).bind fun x1=>if (x1.1.2 != 0) then some (0,x1.1.2) else (tD a).bind fun x2=>if (!x2) then some (0,60) else (qO x1.1.1 a).bind fun x3=>if (!x3.2) then some (0,70) else (idx x1.1.1.ae x3.1).bind fun x4=>some (x4.κ,0)
def Gw (v1:Int):Option (Int×Int):=some (v1,0)
def wP (x1:(List (List UInt8))×Int) (a:Φ) (s1:Int×Int):Option ((Int×Int)⊕(Int×Int)):=if (decide (s1.2<(x1.1.length:Int))) then (idx x1.1 s1.2).bind fun x2=>(wN a s1.1 x2).bind fun x3=>if (x3.2 != 0) then out (some (0,x3.2)) else τ (Ψ (s1.2+1)) (some (.inl (x3.1,(s1.2+1)))) else out (Gw s1.1)
def UY (x1:(List (List UInt8))×Int) (a:Φ) (s1:Int×Int):Option (Int×Int):=loop (wP x1 a) s1
def wO (a:Φ) (b:List UInt8):Option (Int×Int):=(yr b).bind fun x1=>if (x1.2 != 0) then some (0,x1.2) else UY x1 a (1,0)
def oR (a:Φ) (b:Int):Option (ψ×Bool):=(nX (⟨a⟩:c_) b).bind fun x1=>some (x1.1.1,x1.1.2)
def Ab (a:Int) (b:List ψ) (c d e:Int) (f:List Int) (g:List bV) (i:List cw) (j:Int) (k:List bq) (l:List aU) (o s:Int) (t u:List UInt8) (w z y:Int) (A:List UInt8) (B C D E F:Int):Option (kV):=(oR (⟨b,c,d⟩:Φ) a).bind fun x1=>some (x1.1.κ,x1.1.Ω,x1.1.a_,x1.1.aP,x1.1.ae,x1.1.Up)
def xB (d:List UInt8) (a:List ψ) (b c e:Int) (f:List Int) (g:List bV) (i:List cw) (j:Int) (k:List bq) (l:List aU) (o s:Int) (t u:List UInt8) (w z y:Int) (A:List UInt8) (B C D E F:Int):Option (Int⊕(kV)):=(wO (⟨a,b,c⟩:Φ) d).bind fun x1=>(nH x1.2).bind fun x2=>fT x2 (fun e1=>some (.inl e1)) fun _=>(Ab x1.1 a b c e f g i j k l o s t u w z y A B C D E F).bind fun x3=>some (.inr (x3.1,x3.2.1,x3.2.2.1,x3.2.2.2.1,x3.2.2.2.2.1,x3.2.2.2.2.2))
def DC (b:List ψ) (c d e:Int) (f:List Int) (g:List bV) (i:List cw) (j:Int) (k:List bq) (l:List aU) (o s:Int) (a t:List UInt8) (u w z:Int) (y:List UInt8) (A B C D E:Int):Option (Int⊕(Int×Int)):=(xB a b c d e f g i j k l o s a t u w z y A B C D E).bind fun x1=>fT x1 (fun e1=>some (.inl e1)) fun y1=>some (.inr (y1.1,y1.2.1))
def Kz (a:List (List UInt8)):Option (List UInt8):=if ((a.length:Int)==0) then some ([47]) else τ (a.length≤140737488355328∧(jl a ([47])).length≤140737488355328) (τ (([47]).length+(jl a ([47])).length≤9223372036854775807) (some ([47]++(jl a ([47])))))
def KA (a:List UInt8):Option ((List UInt8)×(List UInt8)×Int):=(yr a).bind fun x1=>((if (x1.2 != 0) then some true else some ((x1.1.length:Int)==0)).bind fun c1=>some c1).bind fun v1=>if v1 then some ([],[],60) else τ (Ψ ((x1.1.length:Int)-1)) ((idx x1.1 ((x1.1.length:Int)-1)).bind fun x2=>τ ((0:Int)≤((x1.1.length:Int)-1)∧((x1.1.length:Int)-1)≤(x1.1.length:Int)) ((Kz (x1.1.take ((x1.1.length:Int)-1).toNat)).bind fun x3=>some (x2,x3,0)))
def Ac (a:List UInt8) (b:List ψ) (c d e:Int) (f:List Int) (g:List bV) (i:List cw) (j:Int) (k:List bq) (l:List aU) (o s:Int) (t u:List UInt8) (w z y:Int) (A:List UInt8) (B C D E F:Int):Option (Int⊕(Int×(List UInt8))):=(KA a).bind fun x1=>(nH x1.2.2).bind fun x2=>fT x2 (fun e1=>some (.inl e1)) fun _=>(wO (⟨b,c,d⟩:Φ) x1.2.1).bind fun x3=>(nH x3.2).bind fun x4=>fT x4 (fun e2=>some (.inl e2)) fun _=>some (.inr (x3.1,x1.1))
def Np (v1:(List Int)×eb):Option ((List Int)×c_):=some (v1.1,(⟨(⟨v1.2.1,v1.2.2.1,v1.2.2.2⟩:Φ)⟩:c_))
def No (s1:Int×(List ψ)×Int×Int×(List Int)):Option ((Int×(List ψ)×Int×Int×(List Int))⊕((List Int)×c_)):=((if (s1.1 != 1) then some (decide ((s1.2.2.2.2.length:Int)≤(s1.2.1.length:Int))) else some false).bind fun c1=>some c1).bind fun v2=>if v2 then (nX (⟨(⟨s1.2.1,s1.2.2.1,s1.2.2.2.1⟩:Φ)⟩:c_) s1.1).bind fun x1=>((if (!x1.1.2) then some true else some (x1.1.1.Ω != 2)).bind fun c2=>some c2).bind fun v3=>if v3 then out (some (s1.2.2.2.2,x1.2)) else τ ((s1.2.2.2.2.length+([x1.1.1.Up]).length)*8≤140737488355328) (some (.inl (x1.1.1.Up,x1.2.Tree.ι,x1.2.Tree.Next,x1.2.Tree.ar,(s1.2.2.2.2++[x1.1.1.Up])))) else out (Np (s1.2.2.2.2,s1.2.1,s1.2.2.1,s1.2.2.2.1))
def aeh (s1:Int×(List ψ)×Int×Int×(List Int)):Option ((List Int)×c_):=loop No s1
def Cz (self:c_) (a:Int):Option ((List Int)×c_):=aeh (a,self.Tree.ι,self.Tree.Next,self.Tree.ar,[a])
def Gy (self:c_) (a:Int):Option (Int×c_):=(Cz self a).bind fun x1=>τ (Ψ ((x1.1.length:Int)-1)) (some (((x1.1.length:Int)-1),x1.2))
def Nl (self:c_) (a:Int) (b:List UInt8):Option (Int×c_):=(tZ self a).bind fun x1=>if (x1.1.2 != 0) then some (x1.1.2,x1.2) else (tD b).bind fun x2=>if (!x2) then some (60,x1.2) else (qO x1.1.1 b).bind fun x3=>if x3.2 then some (71,x1.2) else ((if (decide ((x1.1.1.ae.length:Int)≥64)) then some (true,x1.2.Tree.ι,x1.2.Tree.Next,x1.2.Tree.ar) else (Gy x1.2 a).bind fun x4=>some ((decide (x4.1≥12)),x4.2.Tree.ι,x4.2.Tree.Next,x4.2.Tree.ar)).bind fun (c1:Bool×eb)=>(if c1.1 then some true else some (decide (c1.2.2.2≥1099511627776))).bind fun c2=>some (c2,c1.2.1,c1.2.2.1,c1.2.2.2)).bind fun v1=>if v1.1 then some (76,(⟨(⟨v1.2.1,v1.2.2.1,v1.2.2.2⟩:Φ)⟩:c_)) else some (0,(⟨(⟨v1.2.1,v1.2.2.1,v1.2.2.2⟩:Φ)⟩:c_))
def Ch (a:List ψ):Option (List ψ):=sF a 80
def Cx (a:ψ) (b:c_):Option (Int×Int×(List ψ)):=(tY b a.κ).bind fun x1=>(Ch x1.2.Tree.ι).bind fun x2=>if x1.1.2 then (idx x2 x1.1.1).bind fun _=>some (x1.2.Tree.Next,x1.2.Tree.ar,(x2.set x1.1.1.toNat a)) else τ ((0:Int)≤x1.1.1∧x1.1.1≤(x2.length:Int)∧0<([a]).length∧(x2.length+([a]).length)*80≤140737488355328) (some (x1.2.Tree.Next,x1.2.Tree.ar,(eW x2 x1.1.1 ([a]))))
def y7 (a:List aJ):Option (List aJ):=sF a 32
def Cy (a b c:Int) (d:List UInt8) (e:Int) (g:c_) (f:List aJ):Option (Int×Int×(List ψ)):=(tY g a).bind fun x1=>(Ch x1.2.Tree.ι).bind fun x2=>if x1.1.2 then (idx x2 x1.1.1).bind fun _=>some (x1.2.Tree.Next,x1.2.Tree.ar,(x2.set x1.1.1.toNat (⟨a,b,c,d,f,e⟩:ψ))) else τ ((0:Int)≤x1.1.1∧x1.1.1≤(x2.length:Int)∧0<([(⟨a,b,c,d,f,e⟩:ψ)]).length∧(x2.length+([(⟨a,b,c,d,f,e⟩:ψ)]).length)*80≤140737488355328) (some (x1.2.Tree.Next,x1.2.Tree.ar,(eW x2 x1.1.1 ([(⟨a,b,c,d,f,e⟩:ψ)]))))
def Nj (c:Int) (a:List UInt8) (b d e:Int) (f:List ψ):Option (Int×Int×(List ψ)):=(nX (⟨(⟨f,d,e⟩:Φ)⟩:c_) c).bind fun x1=>(qO x1.1.1 a).bind fun x2=>(y7 x1.1.1.ae).bind fun x3=>τ ((0:Int)≤x2.1∧x2.1≤(x3.length:Int)∧0<([(⟨a,b,x1.2.Tree.ar⟩:aJ)]).length∧(x3.length+([(⟨a,b,x1.2.Tree.ar⟩:aJ)]).length)*32≤140737488355328) (τ (Ψ (x1.2.Tree.ar+1)) ((Cy x1.1.1.κ x1.1.1.Ω x1.1.1.a_ x1.1.1.aP x1.1.1.Up (⟨(⟨x1.2.Tree.ι,x1.2.Tree.Next,x1.2.Tree.ar+1⟩:Φ)⟩:c_) (eW x3 x2.1 ([(⟨a,b,x1.2.Tree.ar⟩:aJ)]))).bind fun x4=>some (x4.1,x4.2.1,x4.2.2)))
def M' (a:Φ) (c:Int) (d:List UInt8) (b:Int):Option (Φ×Int×Int):=((if (b != 1) then some (b != 2) else some false).bind fun c1=>some c1).bind fun v1=>if v1 then some (a,0,1) else (Nl (⟨a⟩:c_) c d).bind fun x1=>if (x1.1 != 0) then some (a,0,x1.1) else ((if (decide ((x1.2.Tree.ι.length:Int)≥200)) then some true else some (decide (x1.2.Tree.Next≥1099511627776))).bind fun c2=>some c2).bind fun v2=>if v2 then some (a,0,76) else (if (b==2) then some c else some 0).bind fun v3=>τ (Ψ (x1.2.Tree.Next+1)) ((Cx (⟨x1.2.Tree.Next,b,1,[],[],v3⟩:ψ) (⟨(⟨x1.2.Tree.ι,x1.2.Tree.Next+1,x1.2.Tree.ar⟩:Φ)⟩:c_)).bind fun x2=>(Nj c d x1.2.Tree.Next x2.1 x2.2.1 x2.2.2).bind fun x3=>some ((⟨x3.2.2,x3.1,x3.2.1⟩:Φ),x1.2.Tree.Next,0))
def JE (a:ψ):Option Bool:=((if (a.Ω==1) then some (a.a_==0) else some false).bind fun c1=>some c1).bind fun v1=>some v1
def JD (a:Φ) (s1:Int×(List Int)):Option ((Int×(List Int))⊕(List Int)):=if (decide (s1.1<(a.ι.length:Int))) then ((idx a.ι s1.1).bind fun x1=>(JE x1).bind fun x2=>if x2 then τ ((s1.2.length+([x1.κ]).length)*8≤140737488355328) (some (s1.2++[x1.κ])) else some s1.2).bind fun v2=>τ (Ψ (s1.1+1)) (some (.inl ((s1.1+1),v2))) else out (some s1.2)
def aar (a:Φ) (s1:Int×(List Int)):Option (List Int):=loop (JD a) s1
def D6 (a:Φ):Option (List Int):=(aar a (0,[])).bind fun v1=>some v1
def IA (a:bq) (b:Int):Option Bool:=some (a.κ==b)
def MG (_v1:Unit):Option Int:=some (-1)
def MF (a:List bq) (b s1:Int):Option ((Int)⊕Int):=if (decide (s1<(a.length:Int))) then (idx a s1).bind fun x1=>(IA x1 b).bind fun x2=>if x2 then out (some s1) else τ (Ψ (s1+1)) (some (.inl (s1+1))) else out (MG ())
def adM (a:List bq) (b s1:Int):Option Int:=loop (MF a b) s1
def ME (a:List bq) (b:Int):Option Int:=adM a b 0
def Mp (a:List bq) (b:Int):Option Bool:=(ME a b).bind fun x1=>some (decide (x1≥0))
def Gz (a:Int) (b:c_):Option (eb):=(tY b a).bind fun x1=>if x1.1.2 then (Ch x1.2.Tree.ι).bind fun x2=>τ (Ψ (x1.1.1+1)) (τ ((0:Int)≤x1.1.1∧x1.1.1<(x1.1.1+1)∧(x1.1.1+1)≤(x2.length:Int)) (some ((lU x2 x1.1.1 (x1.1.1+1)),x1.2.Tree.Next,x1.2.Tree.ar))) else some (x1.2.Tree.ι,x1.2.Tree.Next,x1.2.Tree.ar)
def Na (a:Φ) (b:Int):Option (Φ×Int):=(nX (⟨a⟩:c_) b).bind fun x1=>if (!x1.1.2) then some (a,70) else if (x1.1.1.Ω==2) then some (a,72) else if (decide (x1.1.1.a_>0)) then some (a,71) else (Gz b x1.2).bind fun x2=>some ((⟨x2.1,x2.2.1,x2.2.2⟩:Φ),0)
def Mo (a:List aU):Option (List aU):=sF a 24
def IB (a:aU) (b:List ψ) (c d:Int):Option Bool:=(oR (⟨b,c,d⟩:Φ) a.κ).bind fun x1=>some (!x1.2)
def MM (_v1:Unit):Option Int:=some (-1)
def ML (b:List aU) (a:Φ) (s1:Int):Option ((Int)⊕Int):=if (decide (s1<(b.length:Int))) then (idx b s1).bind fun x1=>(IB x1 a.ι a.Next a.ar).bind fun x2=>if x2 then out (some s1) else τ (Ψ (s1+1)) (some (.inl (s1+1))) else out (MM ())
def adO (a:List aU) (b:Φ) (s1:Int):Option Int:=loop (ML a b) s1
def MK (a:List aU) (b:Φ):Option Int:=adO a b 0
def IC (a:aU) (b:Φ):Option Bool:=(oR b a.κ).bind fun x1=>some (!x1.2)
def Mu (a:Φ) (s1:Int×Int×(List aU)):Option ((Int×Int×(List aU))⊕(Int×(List aU))):=if (decide (s1.2.1<(s1.2.2.length:Int))) then ((idx s1.2.2 s1.2.1).bind fun x2=>(IC x2 a).bind fun x3=>if (!x3) then (idx s1.2.2 s1.1).bind fun _=>τ (Ψ (s1.1+1)) (some ((s1.1+1),(s1.2.2.set s1.1.toNat x2))) else some (s1.1,s1.2.2)).bind fun v2=>τ (Ψ (s1.2.1+1)) (some (.inl (v2.1,s1.2.1+1,v2.2))) else out (some (s1.1,s1.2.2))
def adI (a:Φ) (s1:Int×Int×(List aU)):Option (Int×(List aU)):=loop (Mu a) s1
def Mt (a:List aU) (b:Φ):Option (List aU):=(MK a b).bind fun x1=>if (x1==(-1)) then some a else (τ (Ψ (x1+1)) (adI b (x1,x1+1,a))).bind fun v1=>τ ((0:Int)≤v1.1∧v1.1≤(v1.2.length:Int)) (τ ((0:Int)≤v1.1∧v1.1≤((v1.2.take v1.1.toNat++gl (v1.2.length-v1.1.toNat) ((⟨0,0,0⟩:aU):aU)).length:Int)) (some ((v1.2.take v1.1.toNat++gl (v1.2.length-v1.1.toNat) ((⟨0,0,0⟩:aU):aU)).take v1.1.toNat)))
def E1 (a:aU) (b:Int):Option Int:=(sG a.κ b).bind fun x1=>some x1
def Mm (a:List aU) (b:Int) (s1:Int×Int):Option ((Int×Int)⊕Int):=if (decide (s1.1<s1.2)) then τ (Ψ (s1.1+s1.2)) ((idx a (IntKind.i64.wrap (fV .u64 (IntKind.u64.wrap (s1.1+s1.2)) 1))).bind fun x1=>(E1 x1 b).bind fun x2=>if (decide (x2<0)) then τ (Ψ ((IntKind.i64.wrap (fV .u64 (IntKind.u64.wrap (s1.1+s1.2)) 1))+1)) (some (.inl (((IntKind.i64.wrap (fV .u64 (IntKind.u64.wrap (s1.1+s1.2)) 1))+1),s1.2))) else some (.inl (s1.1,(IntKind.i64.wrap (fV .u64 (IntKind.u64.wrap (s1.1+s1.2)) 1))))) else out (some s1.1)
def adG (a:List aU) (b:Int) (s1:Int×Int):Option Int:=loop (Mm a b) s1
def Ml (a:List aU) (b:Int):Option (Int×Bool):=(adG a b (0,(a.length:Int))).bind fun v1=>((if (decide (v1<(a.length:Int))) then (idx a v1).bind fun x3=>(E1 x3 b).bind fun x4=>some (x4==0) else some false).bind fun c1=>some c1).bind fun v2=>some (v1,v2)
def K8 (a:List aU) (b:Int):Option (Int×Bool):=(Ml a b).bind fun x1=>some (x1.1,x1.2)
def K0 (a:Int) (b:List aU) (c:Int):Option (Bool×Int):=((K8 b a).bind fun x1=>if x1.2 then some a else some c).bind fun v1=>some ((v1==0),v1)
def K_ (a:List aU) (b:Φ) (s1:Int×Int):Option ((Int×Int)⊕Int):=((K0 s1.1 a s1.2).bind fun x1=>(if x1.1 then some (s1.1 != 1) else some false).bind fun c1=>some (c1,x1.2)).bind fun v1=>if v1.1 then (oR b s1.1).bind fun x2=>some (.inl (x2.1.Up,v1.2)) else out (some v1.2)
def acz (a:List aU) (b:Φ) (s1:Int×Int):Option Int:=loop (K_ a b) s1
def K9 (a:Φ) (b:Int) (c:List aU) (d:Int):Option Int:=acz c a (b,d)
def KZ (a:Φ) (b:List aU) (c:Int):Option Int:=(K9 a c b 0).bind fun x1=>some x1
def Ix (_v1:Unit):Option Bool:=some true
def DA (s1:Int×(List (Int×Int))) (v2:(List (Int×Int))):Option ((Int×(List (Int×Int)))⊕Bool):=τ (Ψ (s1.1+1)) (some (.inl ((s1.1+1),v2)))
def Iw (x1:ψ) (a:Φ) (x2:Int) (s1:Int×(List (Int×Int))) (s2:Int×(List (Int×Int))):Option ((Int×(List (Int×Int)))⊕((Int×(List (Int×Int)))⊕Bool)):=if (decide (s2.1<(x1.ae.length:Int))) then (idx x1.ae s2.1).bind fun x3=>(oR a x3.κ).bind fun x4=>(some ((iu x3.κ s2.2).getD (0:Int))).bind fun x5=>((if (x4.1.Ω==1) then some ((iu x3.κ s2.2).isSome) else some false).bind fun c1=>(if c1 then some (x5 != x2) else some false).bind fun c2=>some c2).bind fun v3=>if v3 then out (out (some false)) else τ (Ψ x3.κ∧s2.2.length<140737488355328) (τ (Ψ (s2.1+1)) (some (.inl ((s2.1+1),(fB x3.κ x2 s2.2))))) else out (DA s1 s2.2)
def YR (x1:ψ) (a:Φ) (x2:Int) (s1:Int×(List (Int×Int))) (s2:Int×(List (Int×Int))):Option ((Int×(List (Int×Int)))⊕Bool):=loop (Iw x1 a x2 s1) s2
def Iv (a:Φ) (b:List aU) (s1:Int×(List (Int×Int))):Option ((Int×(List (Int×Int)))⊕Bool):=if (decide (s1.1<(a.ι.length:Int))) then (idx a.ι s1.1).bind fun x1=>if ((x1.ae.length:Int)==0) then DA s1 s1.2 else (KZ a b x1.κ).bind fun x2=>YR x1 a x2 s1 (0,s1.2) else out (Ix ())
def YQ (a:Φ) (b:List aU) (s1:Int×(List (Int×Int))):Option Bool:=loop (Iv a b) s1
def Iu (a:Φ) (b:List aU):Option Bool:=YQ a b (0,([]:List (Int×Int)))
def K3 (x1:ψ×Bool) (rQ:(Int×Φ×Int×(List (Int×Bool)))→Option (nY)) (s1:Int×nY):Option ((Int×nY)⊕(nY)):=if (decide (s1.1<(x1.1.ae.length:Int))) then ((idx x1.1.ae s1.1).bind fun x2=>(some ((iu x2.κ s1.2.2.2.2.2).getD (false:Bool))).bind fun x3=>if (!x3) then τ (Ψ x2.κ∧s1.2.2.2.2.2.length<140737488355328) ((rQ (x2.κ,(⟨s1.2.1,s1.2.2.1,s1.2.2.2.1⟩:Φ),s1.2.2.2.2.1,(fB x2.κ true s1.2.2.2.2.2))).bind fun x4=>some (x4.1,x4.2.1,x4.2.2.1,x4.2.2.2.1,x4.2.2.2.2)) else some (s1.2.1,s1.2.2.1,s1.2.2.2.1,s1.2.2.2.2.1,s1.2.2.2.2.2)).bind fun v1=>τ (Ψ (s1.1+1)) (some (.inl ((s1.1+1),v1.1,v1.2.1,v1.2.2.1,v1.2.2.2.1,v1.2.2.2.2))) else out (some (s1.2.1,s1.2.2.1,s1.2.2.2.1,s1.2.2.2.2.1,s1.2.2.2.2.2))
def acy (x1:ψ×Bool) (rQ:(Int×Φ×Int×(List (Int×Bool)))→Option (nY)) (s1:Int×nY):Option (nY):=loop (K3 x1 rQ) s1
def K4 (rQ:(Int×Φ×Int×(List (Int×Bool)))→Option (nY)) (c:Int) (a:Φ) (b:Int) (d:List (Int×Bool)):Option (nY):=(oR a c).bind fun x1=>τ (Ψ (b+(x1.1.aP.length:Int))) (acy x1 rQ (0,a.ι,a.Next,a.ar,(b+(x1.1.aP.length:Int)),d))
def K2 (b:Int) (c:Φ) (d:Int) (e:List (Int×Bool)):Option (nY):=Dw (fun f (a:Int×Φ×Int×(List (Int×Bool)))=>K4 f a.1 a.2.1 a.2.2.1 a.2.2.2) (b,c,d,e)
def K1 (a:Φ) (b:Int):Option (Int×Int):=((oR a b).bind fun x1=>((if x1.2 then some (x1.1.Ω==2) else some false).bind fun c1=>some c1).bind fun v2=>if v2 then (K2 b a 0 ([]:List (Int×Bool))).bind fun x2=>some (x2.2.2.2.1,x2.2.2.2.2) else some (0,([]:List (Int×Bool)))).bind fun v1=>some ((v1.2.length:Int),v1.1)
def HJ (a b:List UInt8):Option Bool:=some (a==b)
def Mz (_v1:Unit):Option Bool:=some true
def My (a b:List aJ) (s1:Int):Option ((Int)⊕Bool):=if (decide (s1<(a.length:Int))) then (idx a s1).bind fun x1=>(idx b s1).bind fun x2=>if (!(x1.aR==x2.aR&&(x1.κ==x2.κ&&(x1.ar==x2.ar&&true)))) then out (some false) else τ (Ψ (s1+1)) (some (.inl (s1+1))) else out (Mz ())
def adK (a b:List aJ) (s1:Int):Option Bool:=loop (My a b) s1
def Gg (a b:List aJ):Option Bool:=if ((a.length:Int) != (b.length:Int)) then some false else adK a b 0
def Ng (a b:ψ):Option Bool:=((if (a.κ==b.κ) then some (a.Ω==b.Ω) else some false).bind fun c1=>(if c1 then some (a.a_==b.a_) else some false).bind fun c2=>(if c2 then some (a.Up==b.Up) else some false).bind fun c3=>(if c3 then (HJ a.aP b.aP).bind fun x1=>some x1 else some false).bind fun c4=>(if c4 then (Gg a.ae b.ae).bind fun x2=>some x2 else some false).bind fun c5=>some c5).bind fun v1=>some v1
def Mx (_v1:Unit):Option Bool:=some true
def Mw (a b:List ψ) (s1:Int):Option ((Int)⊕Bool):=if (decide (s1<(a.length:Int))) then (idx a s1).bind fun x1=>(idx b s1).bind fun x2=>(Ng x1 x2).bind fun x3=>if (!x3) then out (some false) else τ (Ψ (s1+1)) (some (.inl (s1+1))) else out (Mx ())
def adJ (a b:List ψ) (s1:Int):Option Bool:=loop (Mw a b) s1
def Mv (a b:List ψ):Option Bool:=if ((a.length:Int) != (b.length:Int)) then some false else adJ a b 0
def Nf (a b:Φ):Option Bool:=((if (a.Next==b.Next) then some (a.ar==b.ar) else some false).bind fun c1=>(if c1 then (Mv a.ι b.ι).bind fun x1=>some x1 else some false).bind fun c2=>some c2).bind fun v1=>some v1
def Mn (a:List bV):Option (List bV):=sF a 96
def y0 (a:ψ) (b:Int):Option Int:=(sG a.κ b).bind fun x1=>some x1
def Gd (a:List ψ) (b:Int) (s1:Int×Int):Option ((Int×Int)⊕Int):=if (decide (s1.1<s1.2)) then τ (Ψ (s1.1+s1.2)) ((idx a (IntKind.i64.wrap (fV .u64 (IntKind.u64.wrap (s1.1+s1.2)) 1))).bind fun x1=>(y0 x1 b).bind fun x2=>if (decide (x2<0)) then τ (Ψ ((IntKind.i64.wrap (fV .u64 (IntKind.u64.wrap (s1.1+s1.2)) 1))+1)) (some (.inl (((IntKind.i64.wrap (fV .u64 (IntKind.u64.wrap (s1.1+s1.2)) 1))+1),s1.2))) else some (.inl (s1.1,(IntKind.i64.wrap (fV .u64 (IntKind.u64.wrap (s1.1+s1.2)) 1))))) else out (some s1.1)
def Ur (a:List ψ) (b:Int) (s1:Int×Int):Option Int:=loop (Gd a b) s1
def y6 (a:List ψ) (b:Int):Option (Int×Bool):=(Ur a b (0,(a.length:Int))).bind fun v1=>((if (decide (v1<(a.length:Int))) then (idx a v1).bind fun x3=>(y0 x3 b).bind fun x4=>some (x4==0) else some false).bind fun c1=>some c1).bind fun v2=>some (v1,v2)
def Ga (a:List ψ) (b:Int):Option Int:=(y6 a b).bind fun x1=>if (!x1.2) then some (-1) else some x1.1
def Gb (a b:ψ):Option Bool:=((if (a.κ==b.κ) then some (a.Ω==b.Ω) else some false).bind fun c1=>(if c1 then some (a.a_==b.a_) else some false).bind fun c2=>(if c2 then some (a.Up==b.Up) else some false).bind fun c3=>(if c3 then some (a.aP==b.aP) else some false).bind fun c4=>(if c4 then (Gg a.ae b.ae).bind fun x1=>some x1 else some false).bind fun c5=>some c5).bind fun v1=>some v1
def Md (a:cw) (b c:Int):Option Bool:=((if (decide (a.At≥b)) then some (decide (a.At<c)) else some false).bind fun c1=>some c1).bind fun v1=>some v1
def MP (_v1:Unit):Option Int:=some (-1)
def MO (a:List cw) (b c s1:Int):Option ((Int)⊕Int):=if (decide (s1<(a.length:Int))) then (idx a s1).bind fun x1=>(Md x1 b c).bind fun x2=>if x2 then out (some s1) else τ (Ψ (s1+1)) (some (.inl (s1+1))) else out (MP ())
def adP (a:List cw) (b c s1:Int):Option Int:=loop (MO a b c) s1
def MN (a:List cw) (b c:Int):Option Int:=adP a b c 0
def Mr (a:List cw) (b c:Int):Option Bool:=(MN a b c).bind fun x1=>some (decide (x1≥0))
def Mc (a:List cw) (b c:Int):Option Bool:=(Mr a b c).bind fun x1=>some x1
def Ma (a:bS) (b:Φ) (s1:Int×(List bV)):Option ((Int×(List bV))⊕(List bV)):=if (decide (s1.1<(a.aC.ι.length:Int))) then ((idx a.aC.ι s1.1).bind fun x3=>(Ga b.ι x3.κ).bind fun x4=>((if (decide (x4<0)) then some true else (idx b.ι x4).bind fun x5=>(Gb x3 x5).bind fun x6=>some (!x6)).bind fun c1=>(if c1 then (idx a.dI s1.1).bind fun x7=>(Mc a.cm x7 (a.bH+1)).bind fun x8=>some x8 else some false).bind fun c2=>some c2).bind fun v3=>if v3 then (idx a.dI s1.1).bind fun x9=>τ ((s1.2.length+([(⟨x9,a.bH+1,x3⟩:bV)]).length)*96≤140737488355328) (some (s1.2++[(⟨x9,a.bH+1,x3⟩:bV)])) else some s1.2).bind fun v2=>τ (Ψ (s1.1+1)) (some (.inl ((s1.1+1),v2))) else out (some s1.2)
def ady (a:bS) (b:Φ) (s1:Int×(List bV)):Option (List bV):=loop (Ma a b) s1
def Mb (b:Φ) (a:bS) (s2:Int×(List Int)):Option ((Int×(List Int))⊕(List Int)):=if (decide (s2.1<(b.ι.length:Int))) then (idx b.ι s2.1).bind fun cR=>((Ga a.aC.ι cR.κ).bind fun ei=>((if (decide (ei≥0)) then (idx a.aC.ι ei).bind fun dG=>(Gb cR dG).bind fun fx=>some fx else some false).bind fun c3=>some c3).bind fun v6=>if v6 then (idx a.dI ei).bind fun j2=>some j2 else some (a.bH+1)).bind fun v5=>τ ((s2.2.length+([v5]).length)*8≤140737488355328) (τ (Ψ (s2.1+1)) (some (.inl ((s2.1+1),(s2.2++[v5]))))) else out (some s2.2)
def adz (a:Φ) (b:bS) (s2:Int×(List Int)):Option (List Int):=loop (Mb a b) s2
def L_ (a:bS) (b:Φ):Option bS:=(Nf a.aC b).bind fun x1=>if x1 then some a else τ (Ψ (a.bH+1)) ((Mn a.cW).bind fun x2=>(ady a b (0,x2)).bind fun v1=>(adz b a (0,[])).bind fun v4=>some (⟨b,a.bH+1,v4,v1,a.cm,a.Next⟩:bS))
def ID (x1:(List Int)) (a:List bq) (s1:Int×eb):Option ((Int×eb)⊕(eb)):=if (decide (s1.1<(x1.length:Int))) then ((idx x1 s1.1).bind fun x2=>(Mp a x2).bind fun x3=>if (!x3) then (Na (⟨s1.2.1,s1.2.2.1,s1.2.2.2⟩:Φ) x2).bind fun x4=>some (x4.1.ι,x4.1.Next,x4.1.ar) else some (s1.2.1,s1.2.2.1,s1.2.2.2)).bind fun v2=>τ (Ψ (s1.1+1)) (some (.inl ((s1.1+1),v2.1,v2.2.1,v2.2.2))) else out (some (s1.2.1,s1.2.2.1,s1.2.2.2))
def YS (x1:(List Int)) (a:List bq) (s1:Int×eb):Option (eb):=loop (ID x1 a) s1
def IF (a:List ψ) (b c d:Int) (e:List Int) (f:List bV) (g:List cw) (i:Int) (v1:eb) (x6:(List aU)) (_v3:Unit):Option (Int⊕(wQ)):=(L_ (⟨(⟨a,b,c⟩:Φ),d,e,f,g,i⟩:bS) (⟨v1.1,v1.2.1,v1.2.2⟩:Φ)).bind fun dG=>some (.inr (dG.aC.ι,dG.aC.Next,dG.aC.ar,dG.bH,dG.dI,dG.cW,dG.cm,dG.Next,x6))
def IG (s2:Int) (_v4:Unit):Option ((Int)⊕(Int⊕(wQ))):=τ (Ψ (s2+1)) (some (.inl (s2+1)))
def IE (x6:(List aU)) (v1:eb) (a:List ψ) (b c d:Int) (e:List Int) (f:List bV) (g:List cw) (i s2:Int):Option ((Int)⊕(Int⊕(wQ))):=if (decide (s2<(x6.length:Int))) then (idx x6 s2).bind fun x9=>(K1 (⟨v1.1,v1.2.1,v1.2.2⟩:Φ) x9.κ).bind fun cR=>(if (decide (cR.1≤x9.ι)) then some (decide (cR.2≤x9.C0)) else some false).bind fun c1=>(Aa c1 90).bind fun ei=>fT ei (fun e2=>out (some (.inl e2))) fun _=>IG s2 () else out (IF a b c d e f g i v1 x6 ())
def YT (x6:(List aU)) (v1:eb) (a:List ψ) (b c d:Int) (e:List Int) (f:List bV) (g:List cw) (i s2:Int):Option (Int⊕(wQ)):=loop (IE x6 v1 a b c d e f g i) s2
def DD (a:Φ) (b:List aU) (c:List ψ) (d e f:Int) (g:List Int) (i:List bV) (j:List cw) (k:Int) (l:List bq) (o:List aU) (s t:Int) (u w:List UInt8) (z y A:Int) (B:List UInt8) (C D E F G:Int):Option (Int⊕(wQ)):=((D6 a).bind fun x1=>YS x1 l (0,a.ι,a.Next,a.ar)).bind fun v1=>(Mo b).bind fun x5=>(Mt x5 (⟨v1.1,v1.2.1,v1.2.2⟩:Φ)).bind fun x6=>(Iu (⟨v1.1,v1.2.1,v1.2.2⟩:Φ) x6).bind fun x7=>(Aa x7 91).bind fun x8=>fT x8 (fun e1=>some (.inl e1)) fun _=>YT x6 v1 c d e f g i j k 0
def Iy (a:List ψ) (b c g:Int) (i:List Int) (j:List bV) (k:List cw) (l:Int) (o:List bq) (d:List aU) (s t:Int) (e u:List UInt8) (f w z:Int) (y:List UInt8) (A B C D E:Int):Option (Int⊕(zn)):=(Ac e a b c g i j k l o d s t e u f w z y A B C D E).bind fun x1=>fT x1 (fun e1=>some (.inl e1)) fun y1=>(M' (⟨a,b,c⟩:Φ) y1.1 y1.2 f).bind fun x2=>(nH x2.2.2).bind fun x3=>fT x3 (fun e2=>some (.inl e2)) fun _=>(DD x2.1 d a b c g i j k l o d s t e u f w z y A B C D E).bind fun x4=>fT x4 (fun e3=>some (.inl e3)) fun y3=>some (.inr (y3.1,y3.2.1,y3.2.2.1,y3.2.2.2.1,y3.2.2.2.2.1,y3.2.2.2.2.2.1,y3.2.2.2.2.2.2.1,y3.2.2.2.2.2.2.2.1,x2.2.1,y3.2.2.2.2.2.2.2.2))
def MS (_v1:Unit):Option Int:=some (-1)
def MR (a:List Int) (b s1:Int):Option ((Int)⊕Int):=if (decide (s1<(a.length:Int))) then (idx a s1).bind fun x1=>if (b==x1) then out (some s1) else τ (Ψ (s1+1)) (some (.inl (s1+1))) else out (MS ())
def adQ (a:List Int) (b s1:Int):Option Int:=loop (MR a b) s1
def MQ (a:List Int) (b:Int):Option Int:=adQ a b 0
def Ge (a:List Int) (b:Int):Option Bool:=(MQ a b).bind fun x1=>some (decide (x1≥0))
def Nq (b a:ψ):Option Int:=((if (b.Ω==2) then some (a.Ω != 2) else some false).bind fun c1=>some c1).bind fun v1=>if v1 then some 73 else ((if (b.Ω != 2) then some (a.Ω==2) else some false).bind fun c2=>some c2).bind fun v2=>if v2 then some 72 else if (decide ((a.ae.length:Int)>0)) then some 74 else some 0
def Ni (c:ψ) (b:c_) (a d e:Int):Option (Bool×eb):=if (c.Ω != 2) then some (false,b.Tree.ι,b.Tree.Next,b.Tree.ar) else (Cz b c.κ).bind fun x1=>τ (Ψ (a+(x1.1.length:Int))) (τ (Ψ ((a+(x1.1.length:Int))-1)) (τ (Ψ (((a+(x1.1.length:Int))-1)-d)) (((Ge x1.1 e).bind fun x2=>(if x2 then (if (decide ((((a+(x1.1.length:Int))-1)-d)>12)) then some true else (if ((((a+(x1.1.length:Int))-1)-d)==12) then some (decide ((c.ae.length:Int)>0)) else some false).bind fun c1=>some c1).bind fun c2=>some c2 else some false).bind fun c3=>some c3).bind fun v1=>some (v1,x1.2.Tree.ι,x1.2.Tree.Next,x1.2.Tree.ar))))
def MJ (v1:eb):Option (Int×eb):=some ((-1),v1.1,v1.2.1,v1.2.2)
def MI (a:List ψ) (b c d:Int) (s1:Int×eb):Option ((Int×eb)⊕(Int×eb)):=if (decide (s1.1<(a.length:Int))) then (idx a s1.1).bind fun x1=>(Ni x1 (⟨(⟨s1.2.1,s1.2.2.1,s1.2.2.2⟩:Φ)⟩:c_) b c d).bind fun x2=>if x2.1 then out (some (s1.1,x2.2.1,x2.2.2.1,x2.2.2.2)) else τ (Ψ (s1.1+1)) (some (.inl ((s1.1+1),x2.2.1,x2.2.2.1,x2.2.2.2))) else out (MJ (s1.2.1,s1.2.2.1,s1.2.2.2))
def adN (a:List ψ) (b c d:Int) (s1:Int×eb):Option (Int×eb):=loop (MI a b c d) s1
def MH (b:List ψ) (a:c_) (c d e:Int):Option (Int×eb):=adN b c d e (0,a.Tree.ι,a.Tree.Next,a.Tree.ar)
def Mq (a:List ψ) (b:c_) (c d e:Int):Option (Bool×eb):=(MH a b c d e).bind fun x1=>some ((decide (x1.1≥0)),x1.2.1,x1.2.2.1,x1.2.2.2)
def Nh (self:c_) (a b:Int):Option (Bool×c_):=(Gy self a).bind fun x1=>(Mq x1.2.Tree.ι x1.2 b x1.1 a).bind fun x2=>some (x2.1,(⟨(⟨x2.2.1,x2.2.2.1,x2.2.2.2⟩:Φ)⟩:c_))
def GC (a:Int) (b:List UInt8) (c:c_):Option (eb):=(nX c a).bind fun x1=>(qO x1.1.1 b).bind fun x2=>if x2.2 then (y7 x1.1.1.ae).bind fun x3=>τ (Ψ (x2.1+1)) (τ ((0:Int)≤x2.1∧x2.1<(x2.1+1)∧(x2.1+1)≤(x3.length:Int)) ((Cy x1.1.1.κ x1.1.1.Ω x1.1.1.a_ x1.1.1.aP x1.1.1.Up x1.2 (lU x3 x2.1 (x2.1+1))).bind fun x4=>some (x4.2.2,x4.1,x4.2.1))) else some (x1.2.Tree.ι,x1.2.Tree.Next,x1.2.Tree.ar)
def Nn (a:ψ) (b:c_):Option (eb):=if (a.Ω==2) then (Gz a.κ b).bind fun x1=>some (x1.1,x1.2.1,x1.2.2) else τ (Ψ (a.a_-1)) ((Cx (⟨a.κ,a.Ω,a.a_-1,a.aP,a.ae,a.Up⟩:ψ) b).bind fun x2=>some (x2.2.2,x2.1,x2.2.1))
def Nk (c:Int) (a:List UInt8) (b:Int) (d:c_):Option (Int×Int×(List ψ)):=(nX d c).bind fun x1=>(qO x1.1.1 a).bind fun x2=>(y7 x1.1.1.ae).bind fun x3=>τ ((0:Int)≤x2.1∧x2.1≤(x3.length:Int)∧0<([(⟨a,b,x1.2.Tree.ar⟩:aJ)]).length∧(x3.length+([(⟨a,b,x1.2.Tree.ar⟩:aJ)]).length)*32≤140737488355328) (τ (Ψ (x1.2.Tree.ar+1)) ((Cy x1.1.1.κ x1.1.1.Ω x1.1.1.a_ x1.1.1.aP x1.1.1.Up (⟨(⟨x1.2.Tree.ι,x1.2.Tree.Next,x1.2.Tree.ar+1⟩:Φ)⟩:c_) (eW x3 x2.1 ([(⟨a,b,x1.2.Tree.ar⟩:aJ)]))).bind fun x4=>some (x4.1,x4.2.1,x4.2.2)))
def Gv (x5:Int×Bool) (a b:Int) (x2:(ψ×Int)×c_) (x8:(List Int)×c_) (x4:(ψ×Bool)×c_) (x1:Int×Int) (d:Φ) (e c:List UInt8) (v1:(List ψ)×Int×Int×kV) (_v3:Unit):Option (Φ×Int×Int):=((if (!x5.2) then some (a != b) else some false).bind fun c2=>(if c2 then some (decide ((x2.1.1.ae.length:Int)≥64)) else some false).bind fun c3=>some c3).bind fun v4=>((if v4 then some true else some (decide ((x8.1.length:Int)>12))).bind fun c4=>(if c4 then some (true,x8.2.Tree.ι,x8.2.Tree.Next,x8.2.Tree.ar) else (if (x4.1.1.Ω==2) then (Nh x8.2 x1.1 (x8.1.length:Int)).bind fun ei=>some (ei.1,ei.2.Tree.ι,ei.2.Tree.Next,ei.2.Tree.ar) else some (false,x8.2.Tree.ι,x8.2.Tree.Next,x8.2.Tree.ar)).bind fun (c5:Bool×eb)=>some (c5.1,c5.2.1,c5.2.2.1,c5.2.2.2)).bind fun (c6:Bool×eb)=>(if c6.1 then some true else some (decide (c6.2.2.2≥1099511627776))).bind fun c7=>some (c7,c6.2.1,c6.2.2.1,c6.2.2.2)).bind fun v5=>if v5.1 then some (d,0,76) else (GC b e (⟨(⟨v5.2.1,v5.2.2.1,v5.2.2.2⟩:Φ)⟩:c_)).bind fun dG=>(if x5.2 then (GC a c (⟨(⟨dG.1,dG.2.1,dG.2.2⟩:Φ)⟩:c_)).bind fun fx=>(Nn (⟨v1.2.2.2.1,v1.2.2.2.2.1,v1.2.2.2.2.2.1,v1.2.2.2.2.2.2.1,v1.2.2.2.2.2.2.2.1,v1.2.2.2.2.2.2.2.2⟩:ψ) (⟨(⟨fx.1,fx.2.1,fx.2.2⟩:Φ)⟩:c_)).bind fun j2=>some (j2.1,j2.2.1,j2.2.2) else some (dG.1,dG.2.1,dG.2.2)).bind fun v6=>(if (x4.1.1.Ω==2) then (Cx (⟨x4.1.1.κ,x4.1.1.Ω,x4.1.1.a_,x4.1.1.aP,x4.1.1.ae,a⟩:ψ) (⟨(⟨v6.1,v6.2.1,v6.2.2⟩:Φ)⟩:c_)).bind fun qQ=>some (qQ.2.2,qQ.1,qQ.2.1) else some (v6.1,v6.2.1,v6.2.2)).bind fun v7=>(Nk a c x1.1 (⟨(⟨v7.1,v7.2.1,v7.2.2⟩:Φ)⟩:c_)).bind fun uf=>some ((⟨uf.2.2,uf.1,uf.2.1⟩:Φ),v1.2.2.2.1,0)
def Nc (a:Φ) (d:Int) (e:List UInt8) (b:Int) (c:List UInt8):Option (Φ×Int×Int):=(wN a d e).bind fun x1=>if (x1.2 != 0) then some (a,0,x1.2) else (tZ (⟨a⟩:c_) b).bind fun x2=>if (x2.1.2 != 0) then some (a,0,x2.1.2) else (tD c).bind fun x3=>if (!x3) then some (a,0,60) else (nX x2.2 x1.1).bind fun x4=>(qO x2.1.1 c).bind fun x5=>(if x5.2 then (idx x2.1.1.ae x5.1).bind fun x6=>(nX x4.2 x6.κ).bind fun x7=>some (x7.2.Tree.ι,x7.2.Tree.Next,x7.2.Tree.ar,x7.1.1.κ,x7.1.1.Ω,x7.1.1.a_,x7.1.1.aP,x7.1.1.ae,x7.1.1.Up) else some (x4.2.Tree.ι,x4.2.Tree.Next,x4.2.Tree.ar,0,0,0,[],[],0)).bind fun v1=>if (v1.2.2.2.1==x1.1) then some (a,0,0) else (Cz (⟨(⟨v1.1,v1.2.1,v1.2.2.1⟩:Φ)⟩:c_) b).bind fun x8=>((if (x4.1.1.Ω==2) then (Ge x8.1 x1.1).bind fun x9=>some x9 else some false).bind fun c1=>some c1).bind fun v2=>if v2 then some (a,0,75) else if x5.2 then (Nq x4.1.1 (⟨v1.2.2.2.1,v1.2.2.2.2.1,v1.2.2.2.2.2.1,v1.2.2.2.2.2.2.1,v1.2.2.2.2.2.2.2.1,v1.2.2.2.2.2.2.2.2⟩:ψ)).bind fun cR=>if (cR != 0) then some (a,0,cR) else Gv x5 b d x2 x8 x4 x1 a e c v1 () else Gv x5 b d x2 x8 x4 x1 a e c v1 ()
def Iz (a:List ψ) (b c g:Int) (i:List Int) (j:List bV) (k:List cw) (l:Int) (o:List bq) (d:List aU) (s t:Int) (e f:List UInt8) (u w z:Int) (y:List UInt8) (A B C D E:Int):Option (Int⊕(zn)):=(Ac e a b c g i j k l o d s t e f u w z y A B C D E).bind fun x1=>fT x1 (fun e1=>some (.inl e1)) fun y1=>(Ac f a b c g i j k l o d s t e f u w z y A B C D E).bind fun x2=>fT x2 (fun e2=>some (.inl e2)) fun y2=>(wN (⟨a,b,c⟩:Φ) y1.1 y1.2).bind fun x3=>(nH x3.2).bind fun x4=>fT x4 (fun e3=>some (.inl e3)) fun _=>(Nc (⟨a,b,c⟩:Φ) y1.1 y1.2 y2.1 y2.2).bind fun x5=>(nH x5.2.2).bind fun x6=>fT x6 (fun e4=>some (.inl e4)) fun _=>(DD x5.1 d a b c g i j k l o d s t e f u w z y A B C D E).bind fun x7=>fT x7 (fun e5=>some (.inl e5)) fun y5=>some (.inr (y5.1,y5.2.1,y5.2.2.1,y5.2.2.2.1,y5.2.2.2.2.1,y5.2.2.2.2.2.1,y5.2.2.2.2.2.2.1,y5.2.2.2.2.2.2.2.1,x3.1,y5.2.2.2.2.2.2.2.2))
def Nb (a:aJ) (b:Int):Option Bool:=some (decide (a.ar<b))
def MC (_v1:Unit):Option Int:=some (-1)
def MB (a:List aJ) (b s1:Int):Option ((Int)⊕Int):=if (decide (s1<(a.length:Int))) then (idx a s1).bind fun x1=>(Nb x1 b).bind fun x2=>if x2 then out (some s1) else τ (Ψ (s1+1)) (some (.inl (s1+1))) else out (MC ())
def adL (a:List aJ) (b s1:Int):Option Int:=loop (MB a b) s1
def MA (a:List aJ) (b:Int):Option Int:=adL a b 0
def Gu (a:aJ) (b:Int):Option Bool:=some (decide (a.ar<b))
def Ms (a:Int) (s1:Int×Int×(List aJ)):Option ((Int×Int×(List aJ))⊕(Int×(List aJ))):=if (decide (s1.2.1<(s1.2.2.length:Int))) then ((idx s1.2.2 s1.2.1).bind fun x2=>(Gu x2 a).bind fun x3=>if (!x3) then (idx s1.2.2 s1.1).bind fun _=>τ (Ψ (s1.1+1)) (some ((s1.1+1),(s1.2.2.set s1.1.toNat x2))) else some (s1.1,s1.2.2)).bind fun v2=>τ (Ψ (s1.2.1+1)) (some (.inl (v2.1,s1.2.1+1,v2.2))) else out (some (s1.1,s1.2.2))
def adH (a:Int) (s1:Int×Int×(List aJ)):Option (Int×(List aJ)):=loop (Ms a) s1
def Gf (a:List aJ) (b:Int):Option (List aJ):=(MA a b).bind fun x1=>if (x1==(-1)) then some a else (τ (Ψ (x1+1)) (adH b (x1,x1+1,a))).bind fun v1=>τ ((0:Int)≤v1.1∧v1.1≤(v1.2.length:Int)) (τ ((0:Int)≤v1.1∧v1.1≤((v1.2.take v1.1.toNat++gl (v1.2.length-v1.1.toNat) ((⟨[],0,0⟩:aJ):aJ)).length:Int)) (some ((v1.2.take v1.1.toNat++gl (v1.2.length-v1.1.toNat) ((⟨[],0,0⟩:aJ):aJ)).take v1.1.toNat)))
def zj (a b:aJ):Option Int:=(sG a.ar b.ar).bind fun x1=>some x1
def lq (x y:Int):Int:=if x<y then -1 else if x>y then 1 else 0
theorem M1 (x y:Int):sG x y=some (lq x y):=by
 unfold sG cmp_isNaN_int lq
 simp only [Option.bind_some]
 by_cases h1:x<y<;>by_cases h2:x>y<;>simp [h1,h2]
theorem qf {x y:Int}:lq x y<0↔x<y:=by unfold lq;split<;>(try split)<;>omega
theorem Kq:p7 zj (fun a b=>lq a.ar b.ar):=by
 refine ⟨fun x y=>by unfold zj;rw [M1];rfl,⟨fun x=>?_,fun x y z h1 h2=>?_,fun x y z h1 h2=>?_⟩⟩
 ·simp [qf]
 ·simp only [decide_eq_true_eq,qf] at *;omega
 ·simp only [decide_eq_false_iff_not,qf] at *;omega
instance:zM zj:=⟨_, Kq⟩
def tX (c:Φ) (d b a:Int):Option ((List aJ)×Int×Int):=((if (decide (b<0)) then some true else some (decide (a<1))).bind fun c1=>(if c1 then some true else some (decide (a>64))).bind fun c2=>some c2).bind fun v1=>if v1 then some ([],0,1) else (tZ (⟨c⟩:c_) d).bind fun x1=>if (x1.1.2 != 0) then some ([],0,x1.1.2) else (y7 x1.1.1.ae).bind fun x2=>(Gf x2 b).bind fun x3=>(Ci zj x3).bind fun x4=>if (decide ((x4.length:Int)≤a)) then some (x4,0,0) else τ ((0:Int)≤a∧a≤a∧a≤(x4.length:Int)) (τ (Ψ (a-1)) ((idx x4 (a-1)).bind fun x5=>τ (Ψ (x5.ar+1)) (some ((x4.take a.toNat),x5.ar+1,0))))
def Dz (a:List aJ) (s1:Int×(List (List UInt8))):Option ((Int×(List (List UInt8)))⊕(List (List UInt8))):=if (decide (s1.1<(a.length:Int))) then (idx a s1.1).bind fun x1=>τ ((s1.2.length+([x1.aR]).length)*16≤140737488355328) (τ (Ψ (s1.1+1)) (some (.inl ((s1.1+1),(s1.2++[x1.aR]))))) else out (some s1.2)
def It (a:List aJ) (s1:Int×(List (List UInt8))):Option (List (List UInt8)):=loop (Dz a) s1
def xA (a:List aJ):Option (List (List UInt8)):=(It a (0,[])).bind fun v1=>some v1
def DB (a:List ψ) (b c g:Int) (i:List Int) (j:List bV) (k:List cw) (l:Int) (o:List bq) (s:List aU) (t u:Int) (d w:List UInt8) (e f z:Int) (y:List UInt8) (A B C D E:Int):Option (Int⊕(Int×(List (List UInt8)))):=(xB d a b c g i j k l o s t u d w e f z y A B C D E).bind fun x1=>fT x1 (fun e1=>some (.inl e1)) fun y1=>(tX (⟨a,b,c⟩:Φ) y1.1 e f).bind fun x2=>(nH x2.2.2).bind fun x3=>fT x3 (fun e2=>some (.inl e2)) fun _=>(xA x2.1).bind fun x4=>some (.inr (x2.2.1,x4))
def xz (a:cF) (v3:(List ψ)×Int×Int×Int×(List Int)×(List bV)×(List cw)×Int×(List aU)×Int×Int×Int×pQ):Option (cF×dh):=some ((⟨(⟨(⟨v3.1,v3.2.1,v3.2.2.1⟩:Φ),v3.2.2.2.1,v3.2.2.2.2.1,v3.2.2.2.2.2.1,v3.2.2.2.2.2.2.1,v3.2.2.2.2.2.2.2.1⟩:bS),a.Holds,v3.2.2.2.2.2.2.2.2.1⟩:cF),(⟨v3.2.2.2.2.2.2.2.2.2.1,v3.2.2.2.2.2.2.2.2.2.2.1,v3.2.2.2.2.2.2.2.2.2.2.2.1,v3.2.2.2.2.2.2.2.2.2.2.2.2.1,v3.2.2.2.2.2.2.2.2.2.2.2.2.2.1,v3.2.2.2.2.2.2.2.2.2.2.2.2.2.2,[]⟩:dh))
def uN (v1:Int) (a:cF) (b:dP) (_v2:Unit):Option (cF×dh):=if (v1==62) then (DC a.S.aC.ι a.S.aC.Next a.S.aC.ar a.S.bH a.S.dI a.S.cW a.S.cm a.S.Next a.Holds a.f_ b.Ω b.fZ b.ia b.To b.N b.M b.iO b.aP 0 0 0 0 0).bind fun x4=>fT x4 (fun e2=>some (a,(⟨e2,0,0,0,0,[],[]⟩:dh))) fun y2=>xz a (a.S.aC.ι,a.S.aC.Next,a.S.aC.ar,a.S.bH,a.S.dI,a.S.cW,a.S.cm,a.S.Next,a.f_,0,y2.1,y2.2,0,0,[]) else if (v1==63) then (Iy a.S.aC.ι a.S.aC.Next a.S.aC.ar a.S.bH a.S.dI a.S.cW a.S.cm a.S.Next a.Holds a.f_ b.Ω b.fZ b.ia b.To b.N b.M b.iO b.aP 0 0 0 0 0).bind fun x5=>fT x5 (fun e3=>some (a,(⟨e3,0,0,0,0,[],[]⟩:dh))) fun y3=>xz a (y3.1,y3.2.1,y3.2.2.1,y3.2.2.2.1,y3.2.2.2.2.1,y3.2.2.2.2.2.1,y3.2.2.2.2.2.2.1,y3.2.2.2.2.2.2.2.1,y3.2.2.2.2.2.2.2.2.2,0,y3.2.2.2.2.2.2.2.2.1,b.N,0,0,[]) else if (v1==66) then (Iz a.S.aC.ι a.S.aC.Next a.S.aC.ar a.S.bH a.S.dI a.S.cW a.S.cm a.S.Next a.Holds a.f_ b.Ω b.fZ b.ia b.To b.N b.M b.iO b.aP 0 0 0 0 0).bind fun x6=>fT x6 (fun e4=>some (a,(⟨e4,0,0,0,0,[],[]⟩:dh))) fun y4=>xz a (y4.1,y4.2.1,y4.2.2.1,y4.2.2.2.1,y4.2.2.2.2.1,y4.2.2.2.2.2.1,y4.2.2.2.2.2.2.1,y4.2.2.2.2.2.2.2.1,y4.2.2.2.2.2.2.2.2.2,0,y4.2.2.2.2.2.2.2.2.1,0,0,0,[]) else if (v1==67) then (DB a.S.aC.ι a.S.aC.Next a.S.aC.ar a.S.bH a.S.dI a.S.cW a.S.cm a.S.Next a.Holds a.f_ b.Ω b.fZ b.ia b.To b.N b.M b.iO b.aP 0 0 0 0 0).bind fun x7=>fT x7 (fun e5=>some (a,(⟨e5,0,0,0,0,[],[]⟩:dh))) fun y5=>xz a (a.S.aC.ι,a.S.aC.Next,a.S.aC.ar,a.S.bH,a.S.dI,a.S.cW,a.S.cm,a.S.Next,a.f_,0,0,0,y5.1,0,y5.2) else none
def lv (b:cF) (a:dP):Option (cF×dh):=((Ad).bind fun _=>(some ((iu a.Ω rU).getD (0:Int))).bind fun x2=>some x2).bind fun v1=>(if (iu a.Ω rU).isSome then some (decide (a.fZ≥0)) else some false).bind fun c1=>(if c1 then some (decide (a.fZ<16)) else some false).bind fun c2=>(Aa c2 1).bind fun x3=>fT x3 (fun e1=>some (b,(⟨e1,0,0,0,0,[],[]⟩:dh))) fun _=>uN v1 b a ()
def KJ (s1:Int×(List UInt8)):Option ((Int×(List UInt8))⊕(Int×(List UInt8))):=if (decide (s1.1≥128)) then τ ((s1.2.length+([((lM s1.1) ||| (128:UInt8))]).length)*1≤140737488355328) (some (.inl ((fV .u64 s1.1 7),(s1.2++[((lM s1.1) ||| (128:UInt8))])))) else out (some (s1.1,s1.2))
def acg (s1:Int×(List UInt8)):Option (Int×(List UInt8)):=loop KJ s1
def Bi (a:Int):Option (List UInt8):=(acg ((NW .u64 (wJ .u64 (IntKind.u64.wrap a) 1) (IntKind.u64.wrap (fV .i64 a 63))),[])).bind fun v1=>τ ((v1.2.length+([lM v1.1]).length)*1≤140737488355328) (some (v1.2++[lM v1.1]))
def KO (a:List Int) (s1:Int×(List UInt8)):Option ((Int×(List UInt8))⊕(List UInt8)):=if (decide (s1.1<(a.length:Int))) then (idx a s1.1).bind fun x1=>(Bi x1).bind fun x2=>τ ((s1.2.length+x2.length)*1≤140737488355328) (τ (Ψ (s1.1+1)) (some (.inl ((s1.1+1),(s1.2++x2))))) else out (some s1.2)
def aci (a:List Int) (s1:Int×(List UInt8)):Option (List UInt8):=loop (KO a) s1
def Bj (a:List Int):Option (List UInt8):=(aci a (0,[])).bind fun v1=>some v1
def yy (a:List UInt8):Option (List UInt8):=(Bi (a.length:Int)).bind fun x1=>τ ((x1.length+a.length)*1≤140737488355328) (some (x1++a))
def ET (a:dP):Option (List UInt8):=(Bj ([a.Ω,a.fZ])).bind fun x1=>(yy a.ia).bind fun x2=>τ ((x1.length+x2.length)*1≤140737488355328) ((yy a.To).bind fun x3=>τ (((x1++x2).length+x3.length)*1≤140737488355328) ((Bj ([a.N,a.M,a.iO])).bind fun x4=>τ ((((x1++x2)++x3).length+x4.length)*1≤140737488355328) ((yy a.aP).bind fun x5=>τ (((((x1++x2)++x3)++x4).length+x5.length)*1≤140737488355328) (some ((((x1++x2)++x3)++x4)++x5)))))
def KM (_v1:Unit):Option (Int×(List UInt8)×Int):=some (0,[],10)
def KL (a:List UInt8) (s1:Int×Int):Option ((Int×Int)⊕(Int×(List UInt8)×Int)):=if (decide (s1.2<(a.length:Int))) then (idx a s1.2).bind fun x1=>((if (s1.2==9) then some (decide ((x1.toNat:Int)>1)) else some false).bind fun c1=>some c1).bind fun v2=>if v2 then out (some (0,[],11)) else τ (Ψ (7*s1.2)) (τ ((0:Int)≤(7*s1.2)) (if (decide ((x1.toNat:Int)≥128)) then τ (Ψ (s1.2+1)) (some (.inl ((Bg .u64 s1.1 (wJ .u64 ((x1 &&& (127:UInt8)).toNat:Int) (7*s1.2))),(s1.2+1)))) else ((if ((x1.toNat:Int)==0) then some (decide (s1.2>0)) else some false).bind fun c2=>some c2).bind fun v3=>if v3 then out (some (0,[],11)) else τ (Ψ (0-(IntKind.i64.wrap (O0 .u64 (Bg .u64 s1.1 (wJ .u64 ((x1 &&& (127:UInt8)).toNat:Int) (7*s1.2))) 1)))) (τ (Ψ (s1.2+1)) (τ ((0:Int)≤(s1.2+1)∧(s1.2+1)≤(a.length:Int)) (out (some ((NW .i64 (IntKind.i64.wrap (fV .u64 (Bg .u64 s1.1 (wJ .u64 ((x1 &&& (127:UInt8)).toNat:Int) (7*s1.2))) 1)) (0-(IntKind.i64.wrap (O0 .u64 (Bg .u64 s1.1 (wJ .u64 ((x1 &&& (127:UInt8)).toNat:Int) (7*s1.2))) 1)))),a.drop (s1.2+1).toNat,0))))))) else out (KM ())
def ach (a:List UInt8) (s1:Int×Int):Option (Int×(List UInt8)×Int):=loop (KL a) s1
def KK (a:List UInt8):Option (Int×(List UInt8)×Int):=ach a (0,0)
def tE (self:kU):Option (Int×kU):=if (self.e_ != 0) then some (0,self) else (KK self.gZ.b_).bind fun x1=>some (x1.1,(⟨(⟨x1.2.1⟩:EV),x1.2.2⟩:kU))
def EU (x1:Int×kU) (v1:Int):Option (Int×kU):=some (0,(⟨x1.2.gZ,v1⟩:kU))
def KP (self:kU):Option (Int×kU):=(tE self).bind fun x1=>if (x1.2.e_ != 0) then some (0,x1.2) else if (decide (x1.1<0)) then EU x1 11 else if (decide (x1.1>(x1.2.gZ.b_.length:Int))) then EU x1 10 else some (x1.1,x1.2)
def KR (self:kU) (a:Int):Option ((List UInt8)×kU):=τ ((0:Int)≤a∧a≤(self.gZ.b_.length:Int)) (τ ((0:Int)≤a∧a≤(self.gZ.b_.length:Int)) (some ((self.gZ.b_.take a.toNat),(⟨(⟨self.gZ.b_.drop a.toNat⟩:EV),self.e_⟩:kU))))
def Bk (self:kU):Option ((List UInt8)×kU):=(KP self).bind fun x1=>if (x1.2.e_ != 0) then some ([],x1.2) else (KR x1.2 x1.1).bind fun x2=>some (x2.1,x2.2)
def KQ (self:kU):Option (Int×kU):=(((if (self.e_==0) then some (decide ((self.gZ.b_.length:Int)>0)) else some false).bind fun c1=>some c1).bind fun v2=>if v2 then some 11 else some self.e_).bind fun v1=>some (v1,(⟨self.gZ,v1⟩:kU))
def KN (a:List UInt8):Option (dP×Int):=(tE (⟨(⟨a⟩:EV),0⟩:kU)).bind fun x1=>(tE x1.2).bind fun x2=>(Bk x2.2).bind fun x3=>(Bk x3.2).bind fun x4=>(tE x4.2).bind fun x5=>(tE x5.2).bind fun x6=>(tE x6.2).bind fun x7=>(Bk x7.2).bind fun x8=>τ (x8.1.length≤140737488355328) ((KQ x8.2).bind fun x9=>if (x9.1 != 0) then some ((⟨0,0,[],[],0,0,0,[]⟩:dP),x9.1) else some ((⟨x1.1,x2.1,x3.1,x4.1,x5.1,x6.1,x7.1,x8.1⟩:dP),0))
def M6:Option Bool:=(Is).bind fun x1=>(lv x1 (⟨2,0,[47,97],[],2,0,0,[]⟩:dP)).bind fun x2=>(lv x2.1 (⟨2,0,[47,97,47,98],[],1,0,0,[]⟩:dP)).bind fun x3=>(lv x3.1 (⟨5,0,[47,97],[47,99],0,0,0,[]⟩:dP)).bind fun x4=>(lv x4.1 (⟨6,0,[47,99],[],0,9,0,[]⟩:dP)).bind fun x5=>(lv x4.1 (⟨1,0,[47,97,47,98],[],0,0,0,[]⟩:dP)).bind fun x6=>(ET (⟨1,0,[47,99],[],0,0,0,[]⟩:dP)).bind fun x7=>(KN x7).bind fun x8=>if ((x5.2.lS.length:Int) != 1) then some false else ((if (x2.2.κ==2) then some (x3.2.κ==3) else some false).bind fun c1=>(if c1 then some (x4.2.κ==2) else some false).bind fun c2=>(if c2 then (idx x5.2.lS 0).bind fun x9=>some (x9==([98])) else some false).bind fun c3=>(if c3 then some (x6.2.uz==70) else some false).bind fun c4=>(if c4 then some (x8.1.ia==([47,99])) else some false).bind fun c5=>(if c5 then some (x8.2==0) else some false).bind fun c6=>some c6).bind fun v1=>some v1
def M7:Option Bool:=M6 (K:=Sk)
def Ey (a:dP):Option Bool:=((if (decide ((a.aP.length:Int)>5000)) then some true else some (decide ((a.ia.length:Int)>1000))).bind fun c1=>(if c1 then some true else some (decide ((a.To.length:Int)>1000))).bind fun c2=>some c2).bind fun v1=>some v1
def Kn (_v1:Unit):Option Bool:=some false
def Ex (a:List dP) (s1:Int):Option ((Int)⊕Bool):=if (decide (s1<(a.length:Int))) then (idx a s1).bind fun x1=>(Ey x1).bind fun x2=>if x2 then out (some true) else τ (Ψ (s1+1)) (some (.inl (s1+1))) else out (Kn ())
def Sb (a:List dP) (s1:Int):Option Bool:=loop (Ex a) s1
def A9 (a:List dP):Option Bool:=if (decide ((a.length:Int)>50)) then some true else Sb a 0
def Fa:Option Φ:=some (⟨[(⟨1,2,0,[],[],1⟩:ψ)],2,1⟩:Φ)
def Fw (a:Φ):Option bS:=τ ((0:Int)≤(a.ι.length:Int)∧(a.ι.length:Int).toNat*8≤140737488355328) (some (⟨a,0,(gl (a.ι.length:Int).toNat (0:Int)),[],[],1⟩:bS))
def B6:Option cF:=(Fa).bind fun x1=>(Fw x1).bind fun x2=>some (⟨x2,[],[]⟩:cF)
def fJ (a:Int):Option dh:=some (⟨a,0,0,0,0,[],[]⟩:dh)
def Lk (_v2:Unit):Option Bool:=some true
def yD (a:List UInt8) (s1:Int):Option ((Int)⊕Bool):=if (decide (s1<(a.length:Int))) then ((idx a s1).bind fun x1=>(if (decide ((x1.toNat:Int)<32)) then some true else (idx a s1).bind fun x2=>some ((x2.toNat:Int)==47)).bind fun c4=>some c4).bind fun v3=>if v3 then out (some false) else τ (Ψ (s1+1)) (some (.inl (s1+1))) else out (Lk ())
def Tc (a:List UInt8) (s1:Int):Option Bool:=loop (yD a) s1
def tJ (a:List UInt8):Option Bool:=((if (decide ((a.length:Int)<1)) then some true else some (decide ((a.length:Int)>32))).bind fun c1=>(if c1 then some true else some (a==([46]))).bind fun c2=>(if c2 then some true else some (a==([46,46]))).bind fun c3=>some c3).bind fun v1=>if v1 then some false else Tc a 0
def Ll (v2:(List (List UInt8))):Option ((List (List UInt8))×Int):=some (v2,0)
def yE (s1:pQ) (v3:Int×(List (List UInt8))):Option ((pQ)⊕((List (List UInt8))×Int)):=τ (Ψ (s1.2.1+1)) (some (.inl (v3.1,s1.2.1+1,v3.2)))
def E8 (a:List UInt8) (s1:pQ):Option ((pQ)⊕((List (List UInt8))×Int)):=if (decide (s1.2.1≤(a.length:Int))) then ((if (decide (s1.2.1<(a.length:Int))) then (idx a s1.2.1).bind fun x2=>some ((x2.toNat:Int) != 47) else some false).bind fun c2=>some c2).bind fun v4=>if v4 then yE s1 (s1.1,s1.2.2) else (τ ((0:Int)≤s1.1∧s1.1≤s1.2.1∧s1.2.1≤(a.length:Int)) ((tJ (sub a s1.1 s1.2.1)).bind fun x3=>(if (!x3) then some true else some ((s1.2.2.length:Int)==12)).bind fun c3=>some c3)).bind fun v5=>if v5 then out (some ([],60)) else τ ((0:Int)≤s1.1∧s1.1≤s1.2.1∧s1.2.1≤(a.length:Int)) (τ ((s1.2.2.length+([sub a s1.1 s1.2.1]).length)*16≤140737488355328) (τ (Ψ (s1.2.1+1)) (yE s1 ((s1.2.1+1),(s1.2.2++[sub a s1.1 s1.2.1]))))) else out (Ll s1.2.2)
def Td (a:List UInt8) (s1:pQ):Option ((List (List UInt8))×Int):=loop (E8 a) s1
def tK (a:List UInt8):Option ((List (List UInt8))×Int):=if (a==([47])) then some (([]:List (List UInt8)),0) else ((if (a==([])) then some true else (idx a 0).bind fun x1=>some ((x1.toNat:Int) != 47)).bind fun c1=>some c1).bind fun v1=>if v1 then some ([],60) else Td a (1,1,([]:List (List UInt8)))
def Lt (_v1:Unit):Option Int:=some (-1)
def yK (a:Φ) (b s1:Int):Option ((Int)⊕Int):=if (decide (s1<(a.ι.length:Int))) then (idx a.ι s1).bind fun x1=>if (x1.κ==b) then out (some s1) else τ (Ψ (s1+1)) (some (.inl (s1+1))) else out (Lt ())
def Tr (a:Φ) (b s1:Int):Option Int:=loop (yK a b) s1
def BJ (a:Φ) (b:Int):Option Int:=Tr a b 0
def fU (a:Φ) (b:Int):Option (ψ×Bool):=(BJ a b).bind fun x1=>if (decide (x1<0)) then some ((⟨0,0,0,[],[],0⟩:ψ),false) else (idx a.ι x1).bind fun x2=>some (x2,true)
def tQ (a:Φ) (b:Int):Option (ψ×Int):=(fU a b).bind fun x1=>if (!x1.2) then some ((⟨0,0,0,[],[],0⟩:ψ),70) else if (x1.1.Ω != 2) then some ((⟨0,0,0,[],[],0⟩:ψ),73) else some (x1.1,0)
def Lq (_v1:Unit):Option Int:=some (-1)
def yJ (a:ψ) (b:List UInt8) (s1:Int):Option ((Int)⊕Int):=if (decide (s1<(a.ae.length:Int))) then (idx a.ae s1).bind fun x1=>if (x1.aR==b) then out (some s1) else τ (Ψ (s1+1)) (some (.inl (s1+1))) else out (Lq ())
def Tq (a:ψ) (b:List UInt8) (s1:Int):Option Int:=loop (yJ a b) s1
def wj (a:ψ) (b:List UInt8):Option Int:=Tq a b 0
def tM (b:Φ) (c:Int) (a:List UInt8):Option (Int×Int):=(tQ b c).bind fun x1=>if (x1.2 != 0) then some (0,x1.2) else (tJ a).bind fun x2=>if (!x2) then some (0,60) else (wj x1.1 a).bind fun x3=>if (decide (x3<0)) then some (0,70) else (idx x1.1.ae x3).bind fun x4=>some (x4.κ,0)
def Fb (v1:Int):Option (Int×Int):=some (v1,0)
def wg (x1:(List (List UInt8))×Int) (a:Φ) (s1:Int×Int):Option ((Int×Int)⊕(Int×Int)):=if (decide (s1.2<(x1.1.length:Int))) then (idx x1.1 s1.2).bind fun x2=>(tM a s1.1 x2).bind fun x3=>if (x3.2 != 0) then out (some (0,x3.2)) else τ (Ψ (s1.2+1)) (some (.inl (x3.1,(s1.2+1)))) else out (Fb s1.1)
def Tk (x1:(List (List UInt8))×Int) (a:Φ) (s1:Int×Int):Option (Int×Int):=loop (wg x1 a) s1
def we (a:Φ) (b:List UInt8):Option (Int×Int):=(tK b).bind fun x1=>if (x1.2 != 0) then some (0,x1.2) else Tk x1 a (1,0)
def Bq (a:List (List UInt8)) (s1:(List UInt8)×Int):Option (((List UInt8)×Int)⊕(List UInt8)):=if (decide (s1.2<(a.length:Int))) then τ (s1.1.length+([47]).length≤9223372036854775807) ((idx a s1.2).bind fun x1=>τ ((s1.1++[47]).length+x1.length≤9223372036854775807) (τ (Ψ (s1.2+1)) (some (.inl (((s1.1++[47])++x1),(s1.2+1)))))) else out (some s1.1)
def Tb (a:List (List UInt8)) (s1:(List UInt8)×Int):Option (List UInt8):=loop (Bq a) s1
def yC (a:List (List UInt8)):Option (List UInt8):=if ((a.length:Int)==0) then some ([47]) else (Tb a ([],0)).bind fun v1=>some v1
def Bs (a:List UInt8):Option ((List UInt8)×(List UInt8)×Int):=(tK a).bind fun x1=>((if (x1.2 != 0) then some true else some ((x1.1.length:Int)==0)).bind fun c1=>some c1).bind fun v1=>if v1 then some ([],[],60) else τ (Ψ ((x1.1.length:Int)-1)) ((idx x1.1 ((x1.1.length:Int)-1)).bind fun x2=>τ (Ψ ((x1.1.length:Int)-1)) (τ ((0:Int)≤((x1.1.length:Int)-1)∧((x1.1.length:Int)-1)≤(x1.1.length:Int)) ((yC (x1.1.take ((x1.1.length:Int)-1).toNat)).bind fun x3=>some (x2,x3,0))))
def wy (a:Φ) (b:List UInt8):Option (Int×(List UInt8)×Int):=(Bs b).bind fun x1=>if (x1.2.2 != 0) then some (0,[],x1.2.2) else (we a x1.2.1).bind fun x2=>some (x2.1,x1.1,x2.2)
def wh (a:Φ) (s1:Int×Int):Option ((Int×Int)⊕Int):=((if (s1.1 != 1) then some (decide (s1.2≤200)) else some false).bind fun c1=>some c1).bind fun v2=>if v2 then (fU a s1.1).bind fun x1=>τ (Ψ (s1.2+1)) (some (.inl (x1.1.Up,(s1.2+1)))) else out (some s1.2)
def Tl (a:Φ) (s1:Int×Int):Option Int:=loop (wh a) s1
def rP (a:Φ) (b:Int):Option Int:=(Tl a (b,0)).bind fun v1=>some v1
def BG (a:Φ) (b:ψ):Option Bool:=((if (decide ((b.ae.length:Int)≥64)) then some true else (rP a b.κ).bind fun x1=>some (decide (x1≥12))).bind fun c1=>(if c1 then some true else some (decide (a.ar≥1099511627776))).bind fun c2=>some c2).bind fun v1=>some v1
def yI (a:Φ) (c:Int) (b:List UInt8):Option Int:=(tQ a c).bind fun x1=>if (x1.2 != 0) then some x1.2 else (tJ b).bind fun x2=>if (!x2) then some 60 else (wj x1.1 b).bind fun x3=>if (decide (x3≥0)) then some 71 else (BG a x1.1).bind fun x4=>if x4 then some 76 else some 0
def BK (a:Φ) (b:ψ) (s1:Bool×Int×(List ψ)):Option ((Bool×Int×(List ψ))⊕(Bool×(List ψ))):=if (decide (s1.2.1<(a.ι.length:Int))) then ((((if (!s1.1) then (idx a.ι s1.2.1).bind fun x1=>some (decide (x1.κ≥b.κ)) else some false).bind fun c1=>some c1).bind fun v4=>if v4 then τ ((s1.2.2.length+([b]).length)*80≤140737488355328) (some (true,(s1.2.2++[b]))) else some (s1.1,s1.2.2)).bind fun v3=>(idx a.ι s1.2.1).bind fun x2=>if (x2.κ != b.κ) then (idx a.ι s1.2.1).bind fun x3=>τ ((v3.2.length+([x3]).length)*80≤140737488355328) (some (v3.1,(v3.2++[x3]))) else some (v3.1,v3.2)).bind fun v2=>τ (Ψ (s1.2.1+1)) (some (.inl (v2.1,s1.2.1+1,v2.2))) else out (some (s1.1,s1.2.2))
def Ts (a:Φ) (b:ψ) (s1:Bool×Int×(List ψ)):Option (Bool×(List ψ)):=loop (BK a b) s1
def oO (a:Φ) (b:ψ):Option Φ:=(Ts a b (false,0,[])).bind fun v1=>(if (!v1.1) then τ ((v1.2.length+([b]).length)*80≤140737488355328) (some (v1.2++[b])) else some v1.2).bind fun v5=>some (⟨v5,a.Next,a.ar⟩:Φ)
def BE (x1:ψ×Bool) (a:List UInt8) (b:Int) (c:Φ) (s1:Bool×Int×(List aJ)):Option ((Bool×Int×(List aJ))⊕(Bool×(List aJ))):=if (decide (s1.2.1<(x1.1.ae.length:Int))) then (((if (!s1.1) then (idx x1.1.ae s1.2.1).bind fun x2=>some (!(Op.bytesLess x2.aR a||x2.aR==a)) else some false).bind fun c1=>some c1).bind fun v3=>if v3 then τ ((s1.2.2.length+([(⟨a,b,c.ar⟩:aJ)]).length)*32≤140737488355328) (some (true,(s1.2.2++[(⟨a,b,c.ar⟩:aJ)]))) else some (s1.1,s1.2.2)).bind fun v2=>(idx x1.1.ae s1.2.1).bind fun x3=>τ ((v2.2.length+([x3]).length)*32≤140737488355328) (τ (Ψ (s1.2.1+1)) (some (.inl (v2.1,s1.2.1+1,(v2.2++[x3]))))) else out (some (s1.1,s1.2.2))
def Tm (x1:ψ×Bool) (a:List UInt8) (b:Int) (c:Φ) (s1:Bool×Int×(List aJ)):Option (Bool×(List aJ)):=loop (BE x1 a b c) s1
def tT (a:Φ) (d:Int) (b:List UInt8) (c:Int):Option Φ:=(fU a d).bind fun x1=>(Tm x1 b c a (false,0,[])).bind fun v1=>(if (!v1.1) then τ ((v1.2.length+([(⟨b,c,a.ar⟩:aJ)]).length)*32≤140737488355328) (some (v1.2++[(⟨b,c,a.ar⟩:aJ)])) else some v1.2).bind fun v4=>τ (Ψ (a.ar+1)) ((oO (⟨a.ι,a.Next,a.ar+1⟩:Φ) (⟨x1.1.κ,x1.1.Ω,x1.1.a_,x1.1.aP,v4,x1.1.Up⟩:ψ)).bind fun x4=>some x4)
def Bv (a:Φ) (b c:Int) (d:List UInt8):Option (Φ×Int):=(fU a b).bind fun x1=>((if (!x1.2) then some true else (if (x1.1.Ω==1) then some (x1.1.a_==0) else some false).bind fun c1=>some c1).bind fun c2=>some c2).bind fun v1=>if v1 then some (a,70) else if (x1.1.Ω==2) then some (a,72) else (yI a c d).bind fun x2=>if (x2 != 0) then some (a,x2) else τ (Ψ (x1.1.a_+1)) ((oO a (⟨x1.1.κ,x1.1.Ω,x1.1.a_+1,x1.1.aP,x1.1.ae,x1.1.Up⟩:ψ)).bind fun x3=>(tT x3 c d b).bind fun x4=>some (x4,0))
def LH (_v1:Unit):Option Bool:=some false
def FL (a:List bq) (b s1:Int):Option ((Int)⊕Bool):=if (decide (s1<(a.length:Int))) then (idx a s1).bind fun x1=>if (x1.κ==b) then out (some true) else τ (Ψ (s1+1)) (some (.inl (s1+1))) else out (LH ())
def T4 (a:List bq) (b s1:Int):Option Bool:=loop (FL a b) s1
def B_ (a:List bq) (b:Int):Option Bool:=T4 a b 0
def BL (a:Φ) (b:Int) (s1:Int×(List ψ)):Option ((Int×(List ψ))⊕(List ψ)):=if (decide (s1.1<(a.ι.length:Int))) then ((idx a.ι s1.1).bind fun x1=>if (x1.κ != b) then (idx a.ι s1.1).bind fun x2=>τ ((s1.2.length+([x2]).length)*80≤140737488355328) (some (s1.2++[x2])) else some s1.2).bind fun v2=>τ (Ψ (s1.1+1)) (some (.inl ((s1.1+1),v2))) else out (some s1.2)
def Tt (a:Φ) (b:Int) (s1:Int×(List ψ)):Option (List ψ):=loop (BL a b) s1
def yL (a:Φ) (b:Int):Option Φ:=(Tt a b (0,[])).bind fun v1=>some (⟨v1,a.Next,a.ar⟩:Φ)
def yG (a:Φ) (b:Int):Option (Φ×Int):=(fU a b).bind fun x1=>if (!x1.2) then some (a,70) else if (x1.1.Ω==2) then some (a,72) else if (decide (x1.1.a_>0)) then some (a,71) else (yL a b).bind fun x2=>some (x2,0)
def Lw (_v1:Unit):Option Int:=some (-1)
def Fk (a:List aU) (b s1:Int):Option ((Int)⊕Int):=if (decide (s1<(a.length:Int))) then (idx a s1).bind fun x1=>if (x1.κ==b) then out (some s1) else τ (Ψ (s1+1)) (some (.inl (s1+1))) else out (Lw ())
def TB (a:List aU) (b s1:Int):Option Int:=loop (Fk a b) s1
def yQ (a:List aU) (b:Int):Option Int:=TB a b 0
def Lv (_v1:Unit):Option Int:=some 0
def Fh (a:Φ) (b:List aU) (s1:Int×Int):Option ((Int×Int)⊕Int):=if (decide (s1.2≤(a.ι.length:Int))) then (yQ b s1.1).bind fun x1=>if (decide (x1≥0)) then out (some s1.1) else if (s1.1==1) then out (some 0) else (fU a s1.1).bind fun x2=>τ (Ψ (s1.2+1)) (some (.inl (x2.1.Up,(s1.2+1)))) else out (Lv ())
def Ty (a:Φ) (b:List aU) (s1:Int×Int):Option Int:=loop (Fh a b) s1
def BQ (a:Φ) (b:List aU) (c:Int):Option Int:=Ty a b (c,0)
def LF (_v1:Unit):Option Bool:=some true
def yV (s1:Int) (_v2:Unit):Option ((Int)⊕Bool):=τ (Ψ (s1+1)) (some (.inl (s1+1)))
def FJ (s2:Int×Int) (v3:Int):Option ((Int×Int)⊕((Int)⊕Bool)):=τ (Ψ (s2.2+1)) (some (.inl (v3,(s2.2+1))))
def yW (s3:Int×Int) (v4:Int):Option ((Int×Int)⊕((Int×Int)⊕((Int)⊕Bool))):=τ (Ψ (s3.2+1)) (some (.inl (v4,(s3.2+1))))
def FI (x2:ψ) (a:Φ) (s1:Int) (b:List aU) (s2 s3:Int×Int):Option ((Int×Int)⊕((Int×Int)⊕((Int)⊕Bool))):=if (decide (s3.2<(x2.ae.length:Int))) then (idx x2.ae s3.2).bind fun x3=>(idx a.ι s1).bind fun x4=>if (x3.κ != x4.κ) then yW s3 s3.1 else (BQ a b x2.κ).bind fun x5=>((if (decide (s3.1≥0)) then some (x5 != s3.1) else some false).bind fun c1=>some c1).bind fun v5=>if v5 then out (out (out (some false))) else yW s3 x5 else out (FJ s2 s3.1)
def T2 (x2:ψ) (a:Φ) (s1:Int) (b:List aU) (s2 s3:Int×Int):Option ((Int×Int)⊕((Int)⊕Bool)):=loop (FI x2 a s1 b s2) s3
def FH (a:Φ) (s1:Int) (b:List aU) (s2:Int×Int):Option ((Int×Int)⊕((Int)⊕Bool)):=if (decide (s2.2<(a.ι.length:Int))) then (idx a.ι s2.2).bind fun x2=>T2 x2 a s1 b s2 (s2.1,0) else out (yV s1 ())
def T1 (a:Φ) (s1:Int) (b:List aU) (s2:Int×Int):Option ((Int)⊕Bool):=loop (FH a s1 b) s2
def FF (a:Φ) (b:List aU) (s1:Int):Option ((Int)⊕Bool):=if (decide (s1<(a.ι.length:Int))) then (idx a.ι s1).bind fun x1=>if (x1.Ω != 1) then yV s1 () else T1 a s1 b ((-1),0) else out (LF ())
def TZ (a:Φ) (b:List aU) (s1:Int):Option Bool:=loop (FF a b) s1
def B7 (a:Φ) (b:List aU):Option Bool:=TZ a b 0
def yP (a:Φ) (b:Int):Option Bool:=(fU a b).bind fun x1=>((if x1.2 then some (x1.1.Ω==2) else some false).bind fun c1=>some c1).bind fun v1=>some v1
def Lx (_v1:Unit):Option Int:=some (-1)
def Fl (a:Φ) (b s1:Int):Option ((Int)⊕Int):=if (decide (s1<(a.ι.length:Int))) then (idx a.ι s1).bind fun x1=>if (x1.κ==b) then out (some s1) else τ (Ψ (s1+1)) (some (.inl (s1+1))) else out (Lx ())
def TC (a:Φ) (b s1:Int):Option Int:=loop (Fl a b) s1
def BS (a:Φ) (b:Int):Option Int:=TC a b 0
def Ly (v1:(List Bool)):Option (List Bool):=some v1
def Fq (s1:Int×(List Bool)) (v2:(List Bool)):Option ((Int×(List Bool))⊕(List Bool)):=τ (Ψ (s1.1+1)) (some (.inl ((s1.1+1),v2)))
def Fp (a:Φ) (s2 s3:Bool×Int×(List Bool)):Option ((Bool×Int×(List Bool))⊕(Bool×(List Bool))):=(idx a.ι s2.2.1).bind fun x3=>if (decide (s3.2.1<(x3.ae.length:Int))) then ((idx a.ι s2.2.1).bind fun x4=>(idx x4.ae s3.2.1).bind fun x5=>(BS a x5.κ).bind fun x6=>((if (decide (x6≥0)) then (idx s3.2.2 x6).bind fun x7=>some (!x7) else some false).bind fun c2=>some c2).bind fun v7=>if v7 then (idx s3.2.2 x6).bind fun _=>some (true,(s3.2.2.set x6.toNat true)) else some (s3.1,s3.2.2)).bind fun v6=>τ (Ψ (s3.2.1+1)) (some (.inl (v6.1,s3.2.1+1,v6.2))) else out (some (s3.1,s3.2.2))
def TG (a:Φ) (s2 s3:Bool×Int×(List Bool)):Option (Bool×(List Bool)):=loop (Fp a s2) s3
def Fo (a:Φ) (b:Int) (s2:Bool×Int×(List Bool)):Option ((Bool×Int×(List Bool))⊕(Bool×(List Bool))):=if (decide (s2.2.1<(a.ι.length:Int))) then (((idx s2.2.2 s2.2.1).bind fun x1=>(if (!x1) then (idx a.ι s2.2.1).bind fun x2=>some (x2.κ != b) else some false).bind fun c1=>some c1).bind fun v5=>if v5 then some (s2.1,s2.2.2) else TG a s2 (s2.1,0,s2.2.2)).bind fun v4=>τ (Ψ (s2.2.1+1)) (some (.inl (v4.1,s2.2.1+1,v4.2))) else out (some (s2.1,s2.2.2))
def TE (a:Φ) (b:Int) (s2:Bool×Int×(List Bool)):Option (Bool×(List Bool)):=loop (Fo a b) s2
def Fm (a:Φ) (b:Int) (s1:Int×(List Bool)):Option ((Int×(List Bool))⊕(List Bool)):=if (decide (s1.1<(a.ι.length:Int))) then (TE a b (false,0,s1.2)).bind fun v3=>if (!v3.1) then out (some v3.2) else Fq s1 v3.2 else out (Ly s1.2)
def TD (a:Φ) (b:Int) (s1:Int×(List Bool)):Option (List Bool):=loop (Fm a b) s1
def yR (a:Φ) (b:Int):Option (List Bool):=τ ((0:Int)≤(a.ι.length:Int)∧(a.ι.length:Int).toNat*1≤140737488355328) (TD a b (0,(gl (a.ι.length:Int).toNat (false:Bool))))
def Fj (x2:(List Bool)) (a:Φ) (s1:Int×Int×Int):Option ((Int×Int×Int)⊕(Int×Int)):=if (decide (s1.2.2<(x2.length:Int))) then ((idx x2 s1.2.2).bind fun x3=>if x3 then τ (Ψ (s1.1+1)) ((idx a.ι s1.2.2).bind fun x4=>τ (Ψ (s1.2.1+(x4.aP.length:Int))) (some ((s1.1+1),(s1.2.1+(x4.aP.length:Int))))) else some (s1.1,s1.2.1)).bind fun v2=>τ (Ψ (s1.2.2+1)) (some (.inl (v2.1,v2.2,(s1.2.2+1)))) else out (some (s1.1,s1.2.1))
def TA (x2:(List Bool)) (a:Φ) (s1:Int×Int×Int):Option (Int×Int):=loop (Fj x2 a) s1
def yO (a:Φ) (b:Int):Option (Int×Int):=(yP a b).bind fun x1=>if (!x1) then some (0,0) else (yR a b).bind fun x2=>(TA x2 a (0,0,0)).bind fun v1=>some (v1.1,v1.2)
def LG (_v1:Unit):Option Bool:=some false
def FK (a:List aU) (b:Φ) (s1:Int):Option ((Int)⊕Bool):=if (decide (s1<(a.length:Int))) then (idx a s1).bind fun x1=>(yO b x1.κ).bind fun x2=>((idx a s1).bind fun x3=>(if (decide (x2.1>x3.ι)) then some true else (idx a s1).bind fun x4=>some (decide (x2.2>x4.C0))).bind fun c1=>some c1).bind fun v2=>if v2 then out (some true) else τ (Ψ (s1+1)) (some (.inl (s1+1))) else out (LG ())
def T3 (a:List aU) (b:Φ) (s1:Int):Option Bool:=loop (FK a b) s1
def B8 (a:Φ) (b:List aU):Option Bool:=T3 b a 0
def Lo (_v1:Unit):Option Bool:=some true
def Bz (a b:List aJ) (s1:Int):Option ((Int)⊕Bool):=if (decide (s1<(a.length:Int))) then (idx a s1).bind fun x1=>(idx b s1).bind fun x2=>if (!(x1.aR==x2.aR&&(x1.κ==x2.κ&&(x1.ar==x2.ar&&true)))) then out (some false) else τ (Ψ (s1+1)) (some (.inl (s1+1))) else out (Lo ())
def Ti (a b:List aJ) (s1:Int):Option Bool:=loop (Bz a b) s1
def By (a b:List aJ):Option Bool:=if ((a.length:Int) != (b.length:Int)) then some false else Ti a b 0
def wc (a b:ψ):Option Bool:=((if (a.κ != b.κ) then some true else some (a.Ω != b.Ω)).bind fun c1=>(if c1 then some true else some (a.a_ != b.a_)).bind fun c2=>(if c2 then some true else some (a.Up != b.Up)).bind fun c3=>(if c3 then some true else some (!(a.aP==b.aP))).bind fun c4=>some c4).bind fun v1=>if v1 then some false else (By a.ae b.ae).bind fun x1=>some x1
def Lp (_v1:Unit):Option Bool:=some true
def BB (a b:List ψ) (s1:Int):Option ((Int)⊕Bool):=if (decide (s1<(a.length:Int))) then (idx a s1).bind fun x1=>(idx b s1).bind fun x2=>(wc x1 x2).bind fun x3=>if (!x3) then out (some false) else τ (Ψ (s1+1)) (some (.inl (s1+1))) else out (Lp ())
def Tj (a b:List ψ) (s1:Int):Option Bool:=loop (BB a b) s1
def BA (a b:List ψ):Option Bool:=if ((a.length:Int) != (b.length:Int)) then some false else Tj a b 0
def Bx (a b:Φ):Option Bool:=((if (a.Next==b.Next) then some (a.ar==b.ar) else some false).bind fun c1=>(if c1 then (BA a.ι b.ι).bind fun x1=>some x1 else some false).bind fun c2=>some c2).bind fun v1=>some v1
def LD (_v1:Unit):Option Bool:=some false
def B4 (a:List cw) (b c s1:Int):Option ((Int)⊕Bool):=if (decide (s1<(a.length:Int))) then ((idx a s1).bind fun x1=>(if (decide (x1.At≥b)) then (idx a s1).bind fun x2=>some (decide (x2.At<c)) else some false).bind fun c1=>some c1).bind fun v2=>if v2 then out (some true) else τ (Ψ (s1+1)) (some (.inl (s1+1))) else out (LD ())
def TW (a:List cw) (b c s1:Int):Option Bool:=loop (B4 a b c) s1
def yT (a:List cw) (b c:Int):Option Bool:=TW a b c 0
def BX (a:bS) (b:Φ) (s1:Int×(List bV)):Option ((Int×(List bV))⊕(List bV)):=if (decide (s1.1<(a.aC.ι.length:Int))) then ((idx a.aC.ι s1.1).bind fun x2=>(fU b x2.κ).bind fun x3=>((if x3.2 then (wc x2 x3.1).bind fun x4=>some x4 else some false).bind fun c1=>some c1).bind fun v3=>if v3 then some s1.2 else (idx a.dI s1.1).bind fun x5=>(yT a.cm x5 (a.bH+1)).bind fun x6=>if x6 then (idx a.dI s1.1).bind fun x7=>τ ((s1.2.length+([(⟨x7,a.bH+1,x2⟩:bV)]).length)*96≤140737488355328) (some (s1.2++[(⟨x7,a.bH+1,x2⟩:bV)])) else some s1.2).bind fun v2=>τ (Ψ (s1.1+1)) (some (.inl ((s1.1+1),v2))) else out (some s1.2)
def LA (a:bS) (b:Φ) (s1:Int×(List bV)):Option (List bV):=loop (BX a b) s1
def BZ (a:bS) (b:Φ) (s2:Int×(List Int)) (s3:Int×Int):Option ((Int×Int)⊕Int):=if (decide (s3.2<(a.aC.ι.length:Int))) then ((idx a.aC.ι s3.2).bind fun x8=>(idx b.ι s2.1).bind fun x9=>(wc x8 x9).bind fun cR=>if cR then (idx a.dI s3.2).bind fun ei=>some ei else some s3.1).bind fun v7=>τ (Ψ (s3.2+1)) (some (.inl (v7,(s3.2+1)))) else out (some s3.1)
def TN (a:bS) (b:Φ) (s2:Int×(List Int)) (s3:Int×Int):Option Int:=loop (BZ a b s2) s3
def BY (a:Φ) (b:bS) (s2:Int×(List Int)):Option ((Int×(List Int))⊕(List Int)):=if (decide (s2.1<(a.ι.length:Int))) then ((TN b a s2 ((b.bH+1),0)).bind fun v6=>τ ((s2.2.length+([v6]).length)*8≤140737488355328) (some (s2.2++[v6]))).bind fun v5=>τ (Ψ (s2.1+1)) (some (.inl ((s2.1+1),v5))) else out (some s2.2)
def LB (a:Φ) (b:bS) (s2:Int×(List Int)):Option (List Int):=loop (BY a b) s2
def wv (a:bS) (b:Φ):Option bS:=(Bx a.aC b).bind fun x1=>if x1 then some a else τ (Ψ (a.bH+1)) (τ ((([]:List bV).length+a.cW.length)*96≤140737488355328) ((LA a b (0,(([]:List bV)++a.cW))).bind fun v1=>(LB b a (0,([]:List Int))).bind fun v4=>some (⟨b,a.bH+1,v4,v1,a.cm,a.Next⟩:bS)))
def FR (a:Φ) (b:cF) (s1:Int×(List Int)):Option ((Int×(List Int))⊕(List Int)):=if (decide (s1.1<(a.ι.length:Int))) then ((idx a.ι s1.1).bind fun x1=>((if (x1.Ω==1) then some (x1.a_==0) else some false).bind fun c1=>(if c1 then (B_ b.Holds x1.κ).bind fun x2=>some (!x2) else some false).bind fun c2=>some c2).bind fun v3=>if v3 then τ ((s1.2.length+([x1.κ]).length)*8≤140737488355328) (some (s1.2++[x1.κ])) else some s1.2).bind fun v2=>τ (Ψ (s1.1+1)) (some (.inl ((s1.1+1),v2))) else out (some s1.2)
def T8 (a:Φ) (b:cF) (s1:Int×(List Int)):Option (List Int):=loop (FR a b) s1
def FT (v1:(List Int)) (s2:Int×eb):Option ((Int×eb)⊕(eb)):=if (decide (s2.1<(v1.length:Int))) then (idx v1 s2.1).bind fun x3=>(yG (⟨s2.2.1,s2.2.2.1,s2.2.2.2⟩:Φ) x3).bind fun x4=>τ (Ψ (s2.1+1)) (some (.inl ((s2.1+1),x4.1.ι,x4.1.Next,x4.1.ar))) else out (some (s2.2.1,s2.2.2.1,s2.2.2.2))
def T9 (v1:(List Int)) (s2:Int×eb):Option (eb):=loop (FT v1) s2
def FU (a:List aU) (v4:eb) (s3:Int×(List aU)):Option ((Int×(List aU))⊕(List aU)):=if (decide (s3.1<(a.length:Int))) then ((idx a s3.1).bind fun x5=>(fU (⟨v4.1,v4.2.1,v4.2.2⟩:Φ) x5.κ).bind fun x6=>if x6.2 then (idx a s3.1).bind fun x7=>τ ((s3.2.length+([x7]).length)*24≤140737488355328) (some (s3.2++[x7])) else some s3.2).bind fun v6=>τ (Ψ (s3.1+1)) (some (.inl ((s3.1+1),v6))) else out (some s3.2)
def T_ (a:List aU) (v4:eb) (s3:Int×(List aU)):Option (List aU):=loop (FU a v4) s3
def Cc (a:cF) (b:Φ) (c:List aU):Option (cF×Int):=(T8 b a (0,[])).bind fun v1=>(T9 v1 (0,b.ι,b.Next,b.ar)).bind fun v4=>(T_ c v4 (0,[])).bind fun v5=>(B7 (⟨v4.1,v4.2.1,v4.2.2⟩:Φ) v5).bind fun x8=>if (!x8) then some (a,91) else (B8 (⟨v4.1,v4.2.1,v4.2.2⟩:Φ) v5).bind fun x9=>if x9 then some (a,90) else (wv a.S (⟨v4.1,v4.2.1,v4.2.2⟩:Φ)).bind fun cR=>some ((⟨cR,a.Holds,v5⟩:cF),0)
def pO (a:cF) (c:Φ) (d:List aU) (b:Int) (e:dh):Option (cF×dh):=if (b != 0) then (fJ b).bind fun x1=>some (a,x1) else (Cc a c d).bind fun x2=>if (x2.2 != 0) then (fJ x2.2).bind fun x3=>some (a,x3) else some (x2.1,e)
def Bt (a:Φ) (c:Int) (d:List UInt8) (b:Int):Option (Φ×Int×Int):=((if (b != 1) then some (b != 2) else some false).bind fun c1=>some c1).bind fun v1=>if v1 then some (a,0,1) else (yI a c d).bind fun x1=>if (x1 != 0) then some (a,0,x1) else ((if (decide ((a.ι.length:Int)≥200)) then some true else some (decide (a.Next≥1099511627776))).bind fun c2=>some c2).bind fun v2=>if v2 then some (a,0,76) else (if (b==2) then some c else some 0).bind fun v3=>τ (Ψ (a.Next+1)) ((oO (⟨a.ι,a.Next+1,a.ar⟩:Φ) (⟨a.Next,b,1,[],[],v3⟩:ψ)).bind fun x2=>(tT x2 c d a.Next).bind fun x3=>some (x3,a.Next,0))
def BI (x1:ψ×Bool) (a:List UInt8) (s1:Int×(List aJ)):Option ((Int×(List aJ))⊕(List aJ)):=if (decide (s1.1<(x1.1.ae.length:Int))) then ((idx x1.1.ae s1.1).bind fun x2=>if (!(x2.aR==a)) then (idx x1.1.ae s1.1).bind fun x3=>τ ((s1.2.length+([x3]).length)*32≤140737488355328) (some (s1.2++[x3])) else some s1.2).bind fun v2=>τ (Ψ (s1.1+1)) (some (.inl ((s1.1+1),v2))) else out (some s1.2)
def Tp (x1:ψ×Bool) (a:List UInt8) (s1:Int×(List aJ)):Option (List aJ):=loop (BI x1 a) s1
def tU (a:Φ) (b:Int) (c:List UInt8):Option Φ:=(fU a b).bind fun x1=>(Tp x1 c (0,[])).bind fun v1=>(oO a (⟨x1.1.κ,x1.1.Ω,x1.1.a_,x1.1.aP,v1,x1.1.Up⟩:ψ)).bind fun x4=>some x4
def wo (a:Φ) (b:Int):Option Φ:=(fU a b).bind fun x1=>if (x1.1.Ω==2) then (yL a b).bind fun x2=>some x2 else τ (Ψ (x1.1.a_-1)) ((oO a (⟨x1.1.κ,x1.1.Ω,x1.1.a_-1,x1.1.aP,x1.1.ae,x1.1.Up⟩:ψ)).bind fun x3=>some x3)
def BC (a:Φ) (b:Int) (c:List UInt8):Option (Φ×Int×Int):=(tM a b c).bind fun x1=>if (x1.2 != 0) then some (a,0,x1.2) else (fU a x1.1).bind fun x2=>if (decide ((x2.1.ae.length:Int)>0)) then some (a,0,74) else (tU a b c).bind fun x3=>(wo x3 x1.1).bind fun x4=>some (x4,x1.1,0)
def Lm (_v1:Unit):Option Bool:=some false
def tL (a:Φ) (b:Int) (s1:Int×Int):Option ((Int×Int)⊕Bool):=if (decide (s1.2≤(a.ι.length:Int))) then if (s1.1==b) then out (some true) else if (s1.1==1) then out (some false) else (fU a s1.1).bind fun x1=>τ (Ψ (s1.2+1)) (some (.inl (x1.1.Up,(s1.2+1)))) else out (Lm ())
def Te (a:Φ) (b:Int) (s1:Int×Int):Option Bool:=loop (tL a b) s1
def yF (a:Φ) (b c:Int):Option Bool:=Te a c (b,0)
def BD (b:Φ) (a:ψ) (c:Int):Option Int:=(fU b c).bind fun x1=>if (!x1.2) then some 0 else ((if (a.Ω==2) then some (x1.1.Ω != 2) else some false).bind fun c1=>some c1).bind fun v1=>if v1 then some 73 else ((if (a.Ω != 2) then some (x1.1.Ω==2) else some false).bind fun c2=>some c2).bind fun v2=>if v2 then some 72 else if (decide ((x1.1.ae.length:Int)>0)) then some 74 else some 0
def BH (b:Φ) (c a x1:Int) (s1:Int×Int):Option ((Int×Int)⊕Int):=if (decide (s1.2<(b.ι.length:Int))) then ((idx b.ι s1.2).bind fun x2=>((if (x2.Ω==2) then (yF b x2.κ c).bind fun x3=>some x3 else some false).bind fun c1=>some c1).bind fun v3=>if v3 then (rP b x2.κ).bind fun x4=>τ (Ψ (a+x4)) (τ (Ψ ((a+x4)-x1)) ((if (decide ((x2.ae.length:Int)>0)) then τ (Ψ (((a+x4)-x1)+1)) (some (((a+x4)-x1)+1)) else some ((a+x4)-x1)).bind fun v4=>some (max s1.1 v4))) else some s1.1).bind fun v2=>τ (Ψ (s1.2+1)) (some (.inl (v2,(s1.2+1)))) else out (some s1.1)
def Tn (a:Φ) (b c x1:Int) (s1:Int×Int):Option Int:=loop (BH a b c x1) s1
def wi (a:Φ) (b c:Int):Option Int:=(rP a b).bind fun x1=>(Tn a b c x1 (0,0)).bind fun v1=>some v1
def Bw (a:Φ) (d:Int) (e:List UInt8) (b:Int) (c:List UInt8):Option (Φ×Int×Int):=(tM a d e).bind fun x1=>if (x1.2 != 0) then some (a,0,x1.2) else (tQ a b).bind fun x2=>if (x2.2 != 0) then some (a,0,x2.2) else (tJ c).bind fun x3=>if (!x3) then some (a,0,60) else (wj x2.1 c).bind fun x4=>(if (decide (x4≥0)) then (idx x2.1.ae x4).bind fun x5=>some x5.κ else some 0).bind fun v1=>if (v1==x1.1) then some (a,0,0) else (fU a x1.1).bind fun x6=>((if (x6.1.Ω==2) then (yF a b x1.1).bind fun x7=>some x7 else some false).bind fun c1=>some c1).bind fun v2=>if v2 then some (a,0,75) else (BD a x6.1 v1).bind fun x8=>if (x8 != 0) then some (a,0,x8) else (rP a b).bind fun x9=>((if (v1==0) then some (b != d) else some false).bind fun c2=>(if c2 then some (decide ((x2.1.ae.length:Int)≥64)) else some false).bind fun c3=>(if c3 then some true else some (decide (x9≥12))).bind fun c4=>(if c4 then some true else (if (x6.1.Ω==2) then τ (Ψ (x9+1)) ((wi a x1.1 (x9+1)).bind fun cR=>some (decide (cR>12))) else some false).bind fun c5=>some c5).bind fun c6=>(if c6 then some true else some (decide (a.ar≥1099511627776))).bind fun c7=>some c7).bind fun v3=>if v3 then some (a,0,76) else (tU a d e).bind fun ei=>(if (v1 != 0) then (tU ei b c).bind fun dG=>(wo dG v1).bind fun fx=>some (fx.ι,fx.Next,fx.ar) else some (ei.ι,ei.Next,ei.ar)).bind fun v4=>(if (x6.1.Ω==2) then (oO (⟨v4.1,v4.2.1,v4.2.2⟩:Φ) (⟨x6.1.κ,x6.1.Ω,x6.1.a_,x6.1.aP,x6.1.ae,b⟩:ψ)).bind fun j2=>some (j2.ι,j2.Next,j2.ar) else some (v4.1,v4.2.1,v4.2.2)).bind fun v5=>(tT (⟨v5.1,v5.2.1,v5.2.2⟩:Φ) b c x1.1).bind fun qQ=>some (qQ,v1,0)
def Ca (a:cF) (b:dP):Option (cF×dh):=if (b.Ω==3) then (we a.S.aC b.ia).bind fun x1=>if (x1.2 != 0) then (fJ x1.2).bind fun x2=>some (a,x2) else (wy a.S.aC b.To).bind fun x3=>if (x3.2.2 != 0) then (fJ x3.2.2).bind fun x4=>some (a,x4) else (Bv a.S.aC x1.1 x3.1 x3.2.1).bind fun x5=>(pO a x5.1 a.f_ x5.2 (⟨0,x1.1,0,0,0,[],[]⟩:dh)).bind fun x6=>some (x6.1,x6.2) else (wy a.S.aC b.ia).bind fun x7=>if (x7.2.2 != 0) then (fJ x7.2.2).bind fun x8=>some (a,x8) else if (b.Ω==2) then (Bt a.S.aC x7.1 x7.2.1 b.N).bind fun x9=>(pO a x9.1 a.f_ x9.2.2 (⟨0,x9.2.1,b.N,0,0,[],[]⟩:dh)).bind fun cR=>some (cR.1,cR.2) else if (b.Ω==4) then (BC a.S.aC x7.1 x7.2.1).bind fun ei=>(pO a ei.1 a.f_ ei.2.2 (⟨0,ei.2.1,0,0,0,[],[]⟩:dh)).bind fun dG=>some (dG.1,dG.2) else (wy a.S.aC b.To).bind fun fx=>if (fx.2.2 != 0) then (fJ fx.2.2).bind fun j2=>some (a,j2) else (tM a.S.aC x7.1 x7.2.1).bind fun qQ=>(Bw a.S.aC x7.1 x7.2.1 fx.1 fx.2.1).bind fun uf=>(pO a uf.1 a.f_ uf.2.2 (⟨0,qQ.1,0,0,0,[],[]⟩:dh)).bind fun NV=>some (NV.1,NV.2)
def yX (a:ψ):Option Int:=if (a.Ω==2) then some (a.ae.length:Int) else some (a.aP.length:Int)
def E_ (x1:ψ×Int) (s1:Int×(List aJ)) (s2:Int×Int):Option ((Int×Int)⊕Int):=if (decide (s2.2<(x1.1.ae.length:Int))) then (((idx x1.1.ae s2.2).bind fun x2=>(if (decide (x2.ar≥s1.1)) then (if (decide (s2.1<0)) then some true else (idx x1.1.ae s2.2).bind fun x3=>(idx x1.1.ae s2.1).bind fun x4=>some (decide (x3.ar<x4.ar))).bind fun c3=>some c3 else some false).bind fun c4=>some c4).bind fun v4=>if v4 then some s2.2 else some s2.1).bind fun v3=>τ (Ψ (s2.2+1)) (some (.inl (v3,(s2.2+1)))) else out (some s2.1)
def Th (x1:ψ×Int) (s1:Int×(List aJ)) (s2:Int×Int):Option Int:=loop (E_ x1 s1) s2
def E9 (x1:ψ×Int) (a:Int) (s1:Int×(List aJ)):Option ((Int×(List aJ))⊕((List aJ)×Int×Int)):=(Th x1 s1 ((-1),0)).bind fun v2=>if (decide (v2<0)) then out (some (s1.2,0,0)) else if ((s1.2.length:Int)==a) then τ (Ψ (a-1)) ((idx s1.2 (a-1)).bind fun x5=>τ (Ψ (x5.ar+1)) (out (some (s1.2,x5.ar+1,0)))) else (idx x1.1.ae v2).bind fun x6=>τ ((s1.2.length+([x6]).length)*32≤140737488355328) ((idx x1.1.ae v2).bind fun x7=>τ (Ψ (x7.ar+1)) (some (.inl ((x7.ar+1),(s1.2++[x6])))))
def Tf (x1:ψ×Int) (a:Int) (s1:Int×(List aJ)):Option ((List aJ)×Int×Int):=loop (E9 x1 a) s1
def Bu (c:Φ) (d b a:Int):Option ((List aJ)×Int×Int):=((if (decide (b<0)) then some true else some (decide (a<1))).bind fun c1=>(if c1 then some true else some (decide (a>64))).bind fun c2=>some c2).bind fun v1=>if v1 then some ([],0,1) else (tQ c d).bind fun x1=>if (x1.2 != 0) then some ([],0,x1.2) else Tf x1 a (b,[])
def yN (a:Φ) (b:Int):Option Bool:=(fU a b).bind fun x1=>((if x1.2 then some (x1.1.Ω==1) else some false).bind fun c1=>(if c1 then some (x1.1.a_==0) else some false).bind fun c2=>some c2).bind fun v1=>some v1
def Lu (_v1:Unit):Option Int:=some (-1)
def Fg (a:List bq) (b c s1:Int):Option ((Int)⊕Int):=if (decide (s1<(a.length:Int))) then ((idx a s1).bind fun x1=>(if (x1.fZ==b) then (idx a s1).bind fun x2=>some (x2.iO==c) else some false).bind fun c1=>some c1).bind fun v2=>if v2 then out (some s1) else τ (Ψ (s1+1)) (some (.inl (s1+1))) else out (Lu ())
def Tx (a:List bq) (b c s1:Int):Option Int:=loop (Fg a b c) s1
def wq (a:List bq) (b c:Int):Option Int:=Tx a b c 0
def Ff (a:List bq) (b c s1:Int):Option ((Int)⊕Int):=((if (decide (s1<(a.length:Int))) then (idx a s1).bind fun x4=>(if (decide (x4.fZ<b)) then some true else (idx a s1).bind fun x5=>(if (x5.fZ==b) then (idx a s1).bind fun x6=>some (decide (x6.iO<c)) else some false).bind fun c5=>some c5).bind fun c6=>some c6 else some false).bind fun c7=>some c7).bind fun v4=>if v4 then τ (Ψ (s1+1)) (some (.inl (s1+1))) else out (some s1)
def Tw (a:List bq) (b c s1:Int):Option Int:=loop (Ff a b c) s1
def BP (e:Φ) (a:List bq) (b c d:Int):Option ((List bq)×Int):=(fU e d).bind fun x1=>((if (decide (b<0)) then some true else some (decide (b≥16))).bind fun c1=>(if c1 then some true else some (decide (c<0))).bind fun c2=>(if c2 then some true else some (decide (c>99))).bind fun c3=>some c3).bind fun v1=>if v1 then some (a,1) else ((if (!x1.2) then some true else (yN e d).bind fun x2=>some x2).bind fun c4=>some c4).bind fun v2=>if v2 then some (a,70) else if (x1.1.Ω==2) then some (a,72) else (wq a b c).bind fun x3=>if (decide (x3≥0)) then some (a,71) else if (decide ((a.length:Int)≥64)) then some (a,76) else (Tw a b c 0).bind fun v3=>τ ((0:Int)≤v3∧v3≤(a.length:Int)) (τ ((([]:List bq).length+(a.take v3.toNat).length)*24≤140737488355328) (τ (((([]:List bq)++(a.take v3.toNat)).length+([(⟨b,c,d⟩:bq)]).length)*24≤140737488355328) (τ ((0:Int)≤v3∧v3≤(a.length:Int)) (τ ((((([]:List bq)++(a.take v3.toNat))++[(⟨b,c,d⟩:bq)]).length+(a.drop v3.toNat).length)*24≤140737488355328) (some ((((([]:List bq)++(a.take v3.toNat))++[(⟨b,c,d⟩:bq)])++(a.drop v3.toNat)),0))))))
def Fi (a:List aU) (b c d:Int) (s1:Bool×Int×(List aU)):Option ((Bool×Int×(List aU))⊕(Bool×(List aU))):=if (decide (s1.2.1<(a.length:Int))) then ((((if (!s1.1) then (idx a s1.2.1).bind fun x5=>some (decide (x5.κ≥b)) else some false).bind fun c5=>some c5).bind fun v6=>if v6 then τ ((s1.2.2.length+([(⟨b,c,d⟩:aU)]).length)*24≤140737488355328) (some (true,(s1.2.2++[(⟨b,c,d⟩:aU)]))) else some (s1.1,s1.2.2)).bind fun v5=>(idx a s1.2.1).bind fun x6=>if (x6.κ != b) then (idx a s1.2.1).bind fun x7=>τ ((v5.2.length+([x7]).length)*24≤140737488355328) (some (v5.1,(v5.2++[x7]))) else some (v5.1,v5.2)).bind fun v4=>τ (Ψ (s1.2.1+1)) (some (.inl (v4.1,s1.2.1+1,v4.2))) else out (some (s1.1,s1.2.2))
def Tz (a:List aU) (b c d:Int) (s1:Bool×Int×(List aU)):Option (Bool×(List aU)):=loop (Fi a b c d) s1
def BR (e:Φ) (a:List aU) (b c d:Int):Option ((List aU)×Int):=(fU e b).bind fun x1=>if (!x1.2) then some (a,70) else (yP e b).bind fun x2=>if (!x2) then some (a,73) else (yO e b).bind fun x3=>((if (decide (c≥0)) then (if (decide (x3.1>c)) then some true else some (decide (x3.2>d))).bind fun c1=>some c1 else some false).bind fun c2=>some c2).bind fun v1=>if v1 then some (a,90) else ((if (decide (c≥0)) then (yQ a b).bind fun x4=>some (decide (x4<0)) else some false).bind fun c3=>(if c3 then some (decide ((a.length:Int)≥16)) else some false).bind fun c4=>some c4).bind fun v2=>if v2 then some (a,76) else (Tz a b c d ((decide (c<0)),0,[])).bind fun v3=>(if (!v3.1) then τ ((v3.2.length+([(⟨b,c,d⟩:aU)]).length)*24≤140737488355328) (some (v3.2++[(⟨b,c,d⟩:aU)])) else some v3.2).bind fun v7=>some (v7,0)
def B1 (a:bS) (b:Int):Option (bS×Int×Int):=(fU a.aC b).bind fun x1=>if (!x1.2) then some (a,0,70) else if (x1.1.Ω != 2) then some (a,0,73) else ((if (decide ((a.cm.length:Int)≥16)) then some true else some (decide (a.Next≥1099511627776))).bind fun c1=>some c1).bind fun v1=>if v1 then some (a,0,76) else τ ((([]:List cw).length+a.cm.length)*24≤140737488355328) (τ (((([]:List cw)++a.cm).length+([(⟨a.Next,b,a.bH⟩:cw)]).length)*24≤140737488355328) (τ (Ψ (a.Next+1)) (some ((⟨a.aC,a.bH,a.dI,a.cW,((([]:List cw)++a.cm)++[(⟨a.Next,b,a.bH⟩:cw)]),a.Next+1⟩:bS),a.Next,0))))
def FW (a:cF) (x1:Int×Int) (_v1:Unit):Option (cF×dh):=(B1 a.S x1.1).bind fun dG=>if (dG.2.2 != 0) then (fJ dG.2.2).bind fun fx=>some (a,fx) else some ((⟨dG.1,a.Holds,a.f_⟩:cF),(⟨0,0,0,dG.2.1,0,[],[]⟩:dh))
def FV (x5:(List aJ)×Int×Int) (s1:Int×(List (List UInt8))):Option ((Int×(List (List UInt8)))⊕(List (List UInt8))):=if (decide (s1.1<(x5.1.length:Int))) then (idx x5.1 s1.1).bind fun x7=>τ ((s1.2.length+([x7.aR]).length)*16≤140737488355328) (τ (Ψ (s1.1+1)) (some (.inl ((s1.1+1),(s1.2++[x7.aR]))))) else out (some s1.2)
def T' (x5:(List aJ)×Int×Int) (s1:Int×(List (List UInt8))):Option (List (List UInt8)):=loop (FV x5) s1
def Cd (a:cF) (b:dP):Option (cF×dh):=(we a.S.aC b.ia).bind fun x1=>if (x1.2 != 0) then (fJ x1.2).bind fun x2=>some (a,x2) else (fU a.S.aC x1.1).bind fun x3=>if (b.Ω==1) then some (a,(⟨0,x1.1,x3.1.Ω,0,0,[],[]⟩:dh)) else if (b.Ω==7) then (yX x3.1).bind fun x4=>some (a,(⟨0,x1.1,x3.1.Ω,x3.1.a_,x4,[],[]⟩:dh)) else if (b.Ω==6) then (Bu a.S.aC x1.1 b.N b.M).bind fun x5=>if (x5.2.2 != 0) then (fJ x5.2.2).bind fun x6=>some (a,x6) else (T' x5 (0,[])).bind fun v2=>some (a,(⟨0,0,0,x5.2.1,0,v2,[]⟩:dh)) else if (b.Ω==8) then (BP a.S.aC a.Holds b.fZ b.iO x1.1).bind fun x8=>if (x8.2 != 0) then (fJ x8.2).bind fun x9=>some (a,x9) else some ((⟨a.S,x8.1,a.f_⟩:cF),(⟨0,x1.1,0,0,0,[],[]⟩:dh)) else if (b.Ω==13) then (BR a.S.aC a.f_ x1.1 b.N b.M).bind fun cR=>(pO a a.S.aC cR.1 cR.2 (⟨0,x1.1,0,0,0,[],[]⟩:dh)).bind fun ei=>some (ei.1,ei.2) else FW a x1 ()
def Fe (a:List bq) (b:Int) (s1:Int×Int):Option ((Int×Int)⊕Int):=if (decide (s1.2<(a.length:Int))) then ((idx a s1.2).bind fun x1=>if (x1.κ==b) then τ (Ψ (s1.1+1)) (some (s1.1+1)) else some s1.1).bind fun v2=>τ (Ψ (s1.2+1)) (some (.inl (v2,(s1.2+1)))) else out (some s1.1)
def Tv (a:List bq) (b:Int) (s1:Int×Int):Option Int:=loop (Fe a b) s1
def BN (a:List bq) (b:Int):Option Int:=(Tv a b (0,0)).bind fun v1=>some v1
def yM (b:Φ) (a:List bq) (c d:Int):Option (Φ×(List bq)×Int):=(wq a c d).bind fun x1=>if (decide (x1<0)) then some (b,a,80) else (idx a x1).bind fun x2=>τ ((0:Int)≤x1∧x1≤(a.length:Int)) (τ ((([]:List bq).length+(a.take x1.toNat).length)*24≤140737488355328) (τ (Ψ (x1+1)) (τ ((0:Int)≤(x1+1)∧(x1+1)≤(a.length:Int)) (τ (((([]:List bq)++(a.take x1.toNat)).length+(a.drop (x1+1).toNat).length)*24≤140737488355328) (((yN b x2.κ).bind fun x3=>(if x3 then (BN ((([]:List bq)++(a.take x1.toNat))++(a.drop (x1+1).toNat)) x2.κ).bind fun x4=>some (x4==0) else some false).bind fun c1=>some c1).bind fun v1=>if v1 then (yG b x2.κ).bind fun x5=>some (x5.1,((([]:List bq)++(a.take x1.toNat))++(a.drop (x1+1).toNat)),0) else some (b,((([]:List bq)++(a.take x1.toNat))++(a.drop (x1+1).toNat)),0))))))
def BO (a:List bq) (b c:Int):Option (Int×Int):=(wq a b c).bind fun x1=>if (decide (x1<0)) then some (0,80) else (idx a x1).bind fun x2=>some (x2.κ,0)
def FD (a:Int) (b:List UInt8) (s1:(List UInt8)):Option ((List UInt8)⊕(List UInt8)):=τ (Ψ (a+(b.length:Int))) (if (decide ((s1.length:Int)<(a+(b.length:Int)))) then τ ((s1.length+([0]).length)*1≤140737488355328) (some (.inl (s1++[0]))) else out (some s1))
def TX (a:Int) (b:List UInt8) (s1:(List UInt8)):Option (List UInt8):=loop (FD a b) s1
def FE (b:List UInt8) (a:Int) (s2:Int×(List UInt8)):Option ((Int×(List UInt8))⊕(List UInt8)):=if (decide (s2.1<(b.length:Int))) then τ (Ψ (a+s2.1)) ((idx b s2.1).bind fun x1=>(idx s2.2 (a+s2.1)).bind fun _=>τ (Ψ (s2.1+1)) (some (.inl ((s2.1+1),(s2.2.set (a+s2.1).toNat x1))))) else out (some s2.2)
def TY (a:List UInt8) (b:Int) (s2:Int×(List UInt8)):Option (List UInt8):=loop (FE a b) s2
def yU (a:List UInt8) (c:Int) (b:List UInt8):Option (List UInt8):=τ ((([]:List UInt8).length+a.length)*1≤140737488355328) (if ((b.length:Int)==0) then some (([]:List UInt8)++a) else (TX c b (([]:List UInt8)++a)).bind fun v1=>(TY b c (0,v1)).bind fun v2=>some v2)
def yH (a:Φ) (c:Int) (b:List UInt8):Option (Φ×Int):=(fU a c).bind fun x1=>if (!x1.2) then some (a,70) else if (x1.1.Ω==2) then some (a,72) else if (decide ((b.length:Int)>4096)) then some (a,2) else τ ((([]:List UInt8).length+b.length)*1≤140737488355328) ((oO a (⟨x1.1.κ,x1.1.Ω,x1.1.a_,(([]:List UInt8)++b),x1.1.ae,x1.1.Up⟩:ψ)).bind fun x2=>some (x2,0))
def B9 (b:cF) (a:dP):Option (cF×dh):=if (a.Ω==9) then (yM b.S.aC b.Holds a.fZ a.iO).bind fun x1=>if (x1.2.2 != 0) then (fJ x1.2.2).bind fun x2=>some (b,x2) else (wv b.S x1.1).bind fun x3=>some ((⟨x3,x1.2.1,b.f_⟩:cF),(⟨0,0,0,0,0,[],[]⟩:dh)) else (BO b.Holds a.fZ a.iO).bind fun x4=>if (x4.2 != 0) then (fJ x4.2).bind fun x5=>some (b,x5) else (fU b.S.aC x4.1).bind fun x6=>((if (decide (a.N<0)) then some true else (if (a.Ω==10) then (if (decide (a.M<0)) then some true else some (decide (a.M>4096))).bind fun c1=>some c1 else some false).bind fun c2=>some c2).bind fun c3=>(if c3 then some true else (if (a.Ω==11) then some (decide (a.N>4096)) else some false).bind fun c4=>some c4).bind fun c5=>some c5).bind fun v1=>if v1 then (fJ 1).bind fun x7=>some (b,x7) else if (a.Ω==10) then τ (Ψ ((min a.N (x6.1.aP.length:Int))+a.M)) (τ ((0:Int)≤(min a.N (x6.1.aP.length:Int))∧(min a.N (x6.1.aP.length:Int))≤(min ((min a.N (x6.1.aP.length:Int))+a.M) (x6.1.aP.length:Int))∧(min ((min a.N (x6.1.aP.length:Int))+a.M) (x6.1.aP.length:Int))≤(x6.1.aP.length:Int)) (some (b,(⟨0,x4.1,0,0,0,[],(sub x6.1.aP (min a.N (x6.1.aP.length:Int)) (min ((min a.N (x6.1.aP.length:Int))+a.M) (x6.1.aP.length:Int)))⟩:dh)))) else if (a.Ω==11) then τ (Ψ (a.N+(a.aP.length:Int))) (if (decide ((a.N+(a.aP.length:Int))>4096)) then (fJ 2).bind fun x8=>some (b,x8) else (yU x6.1.aP a.N a.aP).bind fun x9=>(yH b.S.aC x4.1 x9).bind fun cR=>(pO b cR.1 b.f_ cR.2 (⟨0,x4.1,0,0,(x9.length:Int),[],[]⟩:dh)).bind fun ei=>some (ei.1,ei.2)) else τ ((0:Int)≤(min a.N (x6.1.aP.length:Int))∧(min a.N (x6.1.aP.length:Int))≤(x6.1.aP.length:Int)) ((yH b.S.aC x4.1 (x6.1.aP.take (min a.N (x6.1.aP.length:Int)).toNat)).bind fun dG=>(pO b dG.1 b.f_ dG.2 (⟨0,x4.1,0,0,((x6.1.aP.take (min a.N (x6.1.aP.length:Int)).toNat).length:Int),[],[]⟩:dh)).bind fun fx=>some (fx.1,fx.2))
def FA (a:List ψ) (b:ψ) (s1:Int):Option ((Int)⊕Int):=((if (decide (s1<(a.length:Int))) then (idx a s1).bind fun x1=>some (decide (x1.κ≤b.κ)) else some false).bind fun c1=>some c1).bind fun v2=>if v2 then τ (Ψ (s1+1)) (some (.inl (s1+1))) else out (some s1)
def TQ (a:List ψ) (b:ψ) (s1:Int):Option Int:=loop (FA a b) s1
def wx (a:List ψ) (b:ψ):Option (List ψ):=(TQ a b 0).bind fun v1=>τ ((0:Int)≤v1∧v1≤(a.length:Int)) (τ ((([]:List ψ).length+(a.take v1.toNat).length)*80≤140737488355328) (τ (((([]:List ψ)++(a.take v1.toNat)).length+([b]).length)*80≤140737488355328) (τ ((0:Int)≤v1∧v1≤(a.length:Int)) (τ ((((([]:List ψ)++(a.take v1.toNat))++[b]).length+(a.drop v1.toNat).length)*80≤140737488355328) (some (((([]:List ψ)++(a.take v1.toNat))++[b])++(a.drop v1.toNat)))))))
def Fx (a:bS) (b:Int) (s1:(List ψ)×Int):Option (((List ψ)×Int)⊕(List ψ)):=if (decide (s1.2<(a.aC.ι.length:Int))) then (((if (decide (s1.2<(a.dI.length:Int))) then (idx a.dI s1.2).bind fun x1=>some (decide (x1≤b)) else some false).bind fun c1=>some c1).bind fun v3=>if v3 then (idx a.aC.ι s1.2).bind fun x2=>(wx s1.1 x2).bind fun x3=>some x3 else some s1.1).bind fun v2=>τ (Ψ (s1.2+1)) (some (.inl (v2,(s1.2+1)))) else out (some s1.1)
def TO (a:bS) (b:Int) (s1:(List ψ)×Int):Option (List ψ):=loop (Fx a b) s1
def Fy (a:bS) (b:Int) (s2:(List ψ)×Int):Option (((List ψ)×Int)⊕(List ψ)):=if (decide (s2.2<(a.cW.length:Int))) then (((idx a.cW s2.2).bind fun x4=>(if (decide (x4.qY≤b)) then (idx a.cW s2.2).bind fun x5=>some (decide (x5.q7>b)) else some false).bind fun c2=>some c2).bind fun v6=>if v6 then (idx a.cW s2.2).bind fun x6=>(wx s2.1 x6.p9).bind fun x7=>some x7 else some s2.1).bind fun v5=>τ (Ψ (s2.2+1)) (some (.inl (v5,(s2.2+1)))) else out (some s2.1)
def TP (a:bS) (b:Int) (s2:(List ψ)×Int):Option (List ψ):=loop (Fy a b) s2
def B0 (a:bS) (b:Int):Option (List ψ):=(TO a b (([]:List ψ),0)).bind fun v1=>(TP a b (v1,0)).bind fun v4=>some v4
def LC (v1:(List Bool)):Option ((List Bool)×Bool):=some (v1,true)
def yS (s1:qP) (v2:(List Bool)×(List Int)):Option ((qP)⊕((List Bool)×Bool)):=τ (Ψ (s1.1+1)) (some (.inl ((s1.1+1),v2.1,v2.2)))
def FC (a:List ψ) (x2:ψ×Bool) (s2:Int):Option ((Int)⊕Int):=(idx a s2).bind fun x3=>if (x3.κ != x2.1.κ) then τ (Ψ (s2+1)) (some (.inl (s2+1))) else out (some s2)
def TU (a:List ψ) (x2:ψ×Bool) (s2:Int):Option Int:=loop (FC a x2) s2
def B3 (x2:ψ×Bool) (s1:qP) (v3:Int) (s3:Int×(List Int)):Option ((Int×(List Int))⊕((qP)⊕((List Bool)×Bool))):=if (decide (s3.1<(x2.1.ae.length:Int))) then (idx x2.1.ae s3.1).bind fun x6=>τ ((s3.2.length+([x6.κ]).length)*8≤140737488355328) (τ (Ψ (s3.1+1)) (some (.inl ((s3.1+1),(s3.2++[x6.κ]))))) else out (yS s1 ((s1.2.1.set v3.toNat true),s3.2))
def TV (x2:ψ×Bool) (s1:qP) (v3:Int) (s3:Int×(List Int)):Option ((qP)⊕((List Bool)×Bool)):=loop (B3 x2 s1 v3) s3
def FB (a:List ψ) (s1:qP):Option ((qP)⊕((List Bool)×Bool)):=if (decide (s1.1<(s1.2.2.length:Int))) then (idx s1.2.2 s1.1).bind fun x1=>(fU (⟨a,0,0⟩:Φ) x1).bind fun x2=>if (!x2.2) then out (some (s1.2.1,false)) else (TU a x2 0).bind fun v3=>(idx s1.2.1 v3).bind fun x4=>if x4 then yS s1 (s1.2.1,s1.2.2) else (idx s1.2.1 v3).bind fun _=>TV x2 s1 v3 (0,s1.2.2) else out (LC s1.2.1)
def TR (a:List ψ) (s1:qP):Option ((List Bool)×Bool):=loop (FB a) s1
def B2 (a:List ψ) (b:Int):Option ((List Bool)×Bool):=τ ((0:Int)≤(a.length:Int)∧(a.length:Int).toNat*1≤140737488355328) (TR a (0,(gl (a.length:Int).toNat (false:Bool)),[b]))
def Fu (_v1:Unit):Option (Int×(List ψ)×Int):=some (0,[],100)
def Fv (s1:Int) (_v2:Unit):Option ((Int)⊕(Int×(List ψ)×Int)):=τ (Ψ (s1+1)) (some (.inl (s1+1)))
def Ft (x3:(List ψ)) (x5:(List Bool)×Bool) (s2:Int×(List ψ)):Option ((Int×(List ψ))⊕(List ψ)):=if (decide (s2.1<(x3.length:Int))) then ((idx x5.1 s2.1).bind fun x6=>if x6 then (idx x3 s2.1).bind fun x7=>τ ((s2.2.length+([x7]).length)*80≤140737488355328) (some (s2.2++[x7])) else some s2.2).bind fun v4=>τ (Ψ (s2.1+1)) (some (.inl ((s2.1+1),v4))) else out (some s2.2)
def TJ (x3:(List ψ)) (x5:(List Bool)×Bool) (s2:Int×(List ψ)):Option (List ψ):=loop (Ft x3 x5) s2
def Fs (a:bS) (b s1:Int):Option ((Int)⊕(Int×(List ψ)×Int)):=if (decide (s1<(a.cm.length:Int))) then (idx a.cm s1).bind fun x1=>if (x1.Id != b) then Fv s1 () else (idx a.cm s1).bind fun x2=>(B0 a x2.At).bind fun x3=>(idx a.cm s1).bind fun x4=>(B2 x3 x4.κ).bind fun x5=>(TJ x3 x5 (0,([]:List ψ))).bind fun v3=>(idx a.cm s1).bind fun x8=>out (some (x8.κ,v3,0)) else out (Fu ())
def TH (a:bS) (b s1:Int):Option (Int×(List ψ)×Int):=loop (Fs a b) s1
def BT (a:bS) (b:Int):Option (Int×(List ψ)×Int):=TH a b 0
def FO (v1:kV) (s3:Int×(List (List UInt8))):Option ((Int×(List (List UInt8)))⊕(List (List UInt8))):=if (decide (s3.1<(v1.2.2.2.2.1.length:Int))) then (idx v1.2.2.2.2.1 s3.1).bind fun dG=>τ ((s3.2.length+([dG.aR]).length)*16≤140737488355328) (τ (Ψ (s3.1+1)) (some (.inl ((s3.1+1),(s3.2++[dG.aR]))))) else out (some s3.2)
def T7 (v1:kV) (s3:Int×(List (List UInt8))):Option (List (List UInt8)):=loop (FO v1) s3
def FP (v1:kV):Option dh:=(T7 v1 (0,[])).bind fun v5=>(yX (⟨v1.1,v1.2.1,v1.2.2.1,v1.2.2.2.1,v1.2.2.2.2.1,v1.2.2.2.2.2⟩:ψ)).bind fun fx=>some (⟨0,v1.1,v1.2.1,v1.2.2.1,fx,v5,v1.2.2.2.1⟩:dh)
def FQ (s1:Int×kV) (v2:kV):Option ((Int×kV)⊕dh):=τ (Ψ (s1.1+1)) (some (.inl ((s1.1+1),v2.1,v2.2.1,v2.2.2.1,v2.2.2.2.1,v2.2.2.2.2.1,v2.2.2.2.2.2)))
def FN (s1:Int×kV) (x3:(List (List UInt8))×Int) (s2:Int×Int):Option ((Int×Int)⊕Int):=if (decide (s2.2<(s1.2.2.2.2.2.1.length:Int))) then ((idx s1.2.2.2.2.2.1 s2.2).bind fun x7=>(idx x3.1 s1.1).bind fun x8=>if (x7.aR==x8) then (idx s1.2.2.2.2.2.1 s2.2).bind fun x9=>some x9.κ else some s2.1).bind fun v4=>τ (Ψ (s2.2+1)) (some (.inl (v4,(s2.2+1)))) else out (some s2.1)
def T6 (s1:Int×kV) (x3:(List (List UInt8))×Int) (s2:Int×Int):Option Int:=loop (FN s1 x3) s2
def FM (x3:(List (List UInt8))×Int) (x1:Int×(List ψ)×Int) (s1:Int×kV):Option ((Int×kV)⊕dh):=if (decide (s1.1<(x3.1.length:Int))) then if (s1.2.2.1 != 2) then (fJ 73).bind fun x6=>out (some x6) else (T6 s1 x3 (0,0)).bind fun v3=>(fU (⟨x1.2.1,0,0⟩:Φ) v3).bind fun cR=>if (!cR.2) then (fJ 70).bind fun ei=>out (some ei) else FQ s1 (cR.1.κ,cR.1.Ω,cR.1.a_,cR.1.aP,cR.1.ae,cR.1.Up) else out (FP (s1.2.1,s1.2.2.1,s1.2.2.2.1,s1.2.2.2.2.1,s1.2.2.2.2.2.1,s1.2.2.2.2.2.2))
def T5 (x3:(List (List UInt8))×Int) (x1:Int×(List ψ)×Int) (s1:Int×kV):Option dh:=loop (FM x3 x1) s1
def Cb (b:cF) (a:dP):Option dh:=(BT b.S a.N).bind fun x1=>if (x1.2.2 != 0) then (fJ x1.2.2).bind fun x2=>some x2 else (tK a.ia).bind fun x3=>if (x3.2 != 0) then (fJ x3.2).bind fun x4=>some x4 else (fU (⟨x1.2.1,0,0⟩:Φ) x1.1).bind fun x5=>T5 x3 x1 (0,x5.1.κ,x5.1.Ω,x5.1.a_,x5.1.aP,x5.1.ae,x5.1.Up)
def BV (a:bS) (b:Int) (s1:Int×(List cw)):Option ((Int×(List cw))⊕(List cw)):=if (decide (s1.1<(a.cm.length:Int))) then ((idx a.cm s1.1).bind fun x1=>if (x1.Id != b) then (idx a.cm s1.1).bind fun x2=>τ ((s1.2.length+([x2]).length)*24≤140737488355328) (some (s1.2++[x2])) else some s1.2).bind fun v2=>τ (Ψ (s1.1+1)) (some (.inl ((s1.1+1),v2))) else out (some s1.2)
def TL (a:bS) (b:Int) (s1:Int×(List cw)):Option (List cw):=loop (BV a b) s1
def BW (a:bS) (v1:(List cw)) (s2:Int×(List bV)):Option ((Int×(List bV))⊕(List bV)):=if (decide (s2.1<(a.cW.length:Int))) then ((idx a.cW s2.1).bind fun x3=>(idx a.cW s2.1).bind fun x4=>(yT v1 x3.qY x4.q7).bind fun x5=>if x5 then (idx a.cW s2.1).bind fun x6=>τ ((s2.2.length+([x6]).length)*96≤140737488355328) (some (s2.2++[x6])) else some s2.2).bind fun v4=>τ (Ψ (s2.1+1)) (some (.inl ((s2.1+1),v4))) else out (some s2.2)
def TM (a:bS) (v1:(List cw)) (s2:Int×(List bV)):Option (List bV):=loop (BW a v1) s2
def BU (a:bS) (b:Int):Option (bS×Int):=(TL a b (0,([]:List cw))).bind fun v1=>if ((v1.length:Int)==(a.cm.length:Int)) then some (a,100) else (TM a v1 (0,([]:List bV))).bind fun v3=>some ((⟨a.aC,a.bH,a.dI,v3,v1,a.Next⟩:bS),0)
def Fc (a:Int) (s1:(List bq)×Int×eb):Option (((List bq)×Int×eb)⊕((List bq)×eb)):=if (decide (s1.2.1≤99)) then (yM (⟨s1.2.2.1,s1.2.2.2.1,s1.2.2.2.2⟩:Φ) s1.1 a s1.2.1).bind fun x1=>τ (Ψ (s1.2.1+1)) (some (.inl (x1.2.1,s1.2.1+1,x1.1.ι,x1.1.Next,x1.1.ar))) else out (some (s1.1,s1.2.2.1,s1.2.2.2.1,s1.2.2.2.2))
def Tu (a:Int) (s1:(List bq)×Int×eb):Option ((List bq)×eb):=loop (Fc a) s1
def BM (a:Φ) (b:List bq) (c:Int):Option (Φ×(List bq)):=(Tu c (b,0,a.ι,a.Next,a.ar)).bind fun v1=>some ((⟨v1.2.1,v1.2.2.1,v1.2.2.2⟩:Φ),v1.1)
def B5 (b:cF) (a:dP):Option (cF×dh):=((if (decide (a.fZ<0)) then some true else some (decide (a.fZ≥16))).bind fun c1=>some c1).bind fun v1=>if v1 then (fJ 1).bind fun x1=>some (b,x1) else (if (a.Ω==2) then some (a.Ω==2) else if (a.Ω==3) then some (a.Ω==3) else if (a.Ω==4) then some (a.Ω==4) else some (a.Ω==5)).bind fun v2=>if v2 then (Ca b a).bind fun x2=>some (x2.1,x2.2) else (if (a.Ω==1) then some (a.Ω==1) else if (a.Ω==6) then some (a.Ω==6) else if (a.Ω==7) then some (a.Ω==7) else if (a.Ω==8) then some (a.Ω==8) else if (a.Ω==13) then some (a.Ω==13) else some (a.Ω==14)).bind fun v3=>if v3 then (Cd b a).bind fun x3=>some (x3.1,x3.2) else (if (a.Ω==9) then some (a.Ω==9) else if (a.Ω==10) then some (a.Ω==10) else if (a.Ω==11) then some (a.Ω==11) else some (a.Ω==12)).bind fun v4=>if v4 then (B9 b a).bind fun x4=>some (x4.1,x4.2) else if (a.Ω==15) then (Cb b a).bind fun x5=>some (b,x5) else if (a.Ω==16) then (BU b.S a.N).bind fun x6=>if (x6.2 != 0) then (fJ x6.2).bind fun x7=>some (b,x7) else some ((⟨x6.1,b.Holds,b.f_⟩:cF),(⟨0,0,0,0,0,[],[]⟩:dh)) else if (a.Ω==17) then (BM b.S.aC b.Holds a.fZ).bind fun x8=>(wv b.S x8.1).bind fun x9=>some ((⟨x9,x8.2,b.f_⟩:cF),(⟨0,0,0,0,0,[],[]⟩:dh)) else (fJ 1).bind fun cR=>some (b,cR)
def Ez (a:List dP) (s1:Int×zm):Option ((Int×zm)⊕(zm)):=if (decide (s1.1<(a.length:Int))) then (idx a s1.1).bind fun x2=>(B5 (⟨(⟨(⟨s1.2.1,s1.2.2.1,s1.2.2.2.1⟩:Φ),s1.2.2.2.2.1,s1.2.2.2.2.2.1,s1.2.2.2.2.2.2.1,s1.2.2.2.2.2.2.2.1,s1.2.2.2.2.2.2.2.2.1⟩:bS),s1.2.2.2.2.2.2.2.2.2.1,s1.2.2.2.2.2.2.2.2.2.2⟩:cF) x2).bind fun x3=>τ (Ψ (s1.1+1)) (some (.inl ((s1.1+1),x3.1.S.aC.ι,x3.1.S.aC.Next,x3.1.S.aC.ar,x3.1.S.bH,x3.1.S.dI,x3.1.S.cW,x3.1.S.cm,x3.1.S.Next,x3.1.Holds,x3.1.f_))) else out (some (s1.2.1,s1.2.2.1,s1.2.2.2.1,s1.2.2.2.2.1,s1.2.2.2.2.2.1,s1.2.2.2.2.2.2.1,s1.2.2.2.2.2.2.2.1,s1.2.2.2.2.2.2.2.2.1,s1.2.2.2.2.2.2.2.2.2.1,s1.2.2.2.2.2.2.2.2.2.2))
def Sc (a:List dP) (s1:Int×zm):Option (zm):=loop (Ez a) s1
def A_ (a:List dP):Option cF:=(B6).bind fun x1=>(Sc a (0,x1.S.aC.ι,x1.S.aC.Next,x1.S.aC.ar,x1.S.bH,x1.S.dI,x1.S.cW,x1.S.cm,x1.S.Next,x1.Holds,x1.f_)).bind fun v1=>some (⟨(⟨(⟨v1.1,v1.2.1,v1.2.2.1⟩:Φ),v1.2.2.2.1,v1.2.2.2.2.1,v1.2.2.2.2.2.1,v1.2.2.2.2.2.2.1,v1.2.2.2.2.2.2.2.1⟩:bS),v1.2.2.2.2.2.2.2.2.1,v1.2.2.2.2.2.2.2.2.2⟩:cF)
def M8 (_v1:Unit):Option ((List (List UInt8))×Bool):=some ([],false)
def Gs (b:cF) (c:List UInt8) (a:Int) (s1:pQ):Option ((pQ)⊕((List (List UInt8))×Bool)):=if (decide (s1.2.1<66)) then (lv b (⟨6,0,c,[],s1.1,a,0,[]⟩:dP)).bind fun x1=>((if (x1.2.uz != 0) then some true else some (decide ((x1.2.lS.length:Int)>a))).bind fun c1=>some c1).bind fun v2=>if v2 then out (some ([],false)) else τ ((s1.2.2.length+x1.2.lS.length)*16≤140737488355328) (if (x1.2.N==0) then out (some ((s1.2.2++x1.2.lS),true)) else τ (Ψ (s1.2.1+1)) (some (.inl (x1.2.N,s1.2.1+1,(s1.2.2++x1.2.lS))))) else out (M8 ())
def UU (a:cF) (b:List UInt8) (c:Int) (s1:pQ):Option ((List (List UInt8))×Bool):=loop (Gs a b c) s1
def Cv (a:cF) (b:List UInt8) (c:Int):Option ((List (List UInt8))×Bool):=UU a b c (0,0,([]:List (List UInt8)))
def Cu (b a:List UInt8):Option (List UInt8):=(tK b).bind fun x1=>τ ((([]:List (List UInt8)).length+x1.1.length)*16≤140737488355328) (τ (((([]:List (List UInt8))++x1.1).length+([a]).length)*16≤140737488355328) ((yC ((([]:List (List UInt8))++x1.1)++[a])).bind fun x2=>some x2))
def M9 (v1:(List (List UInt8))):Option ((List (List UInt8))×Bool):=some (v1,true)
def zi (s1:Int×(List (List UInt8))) (v3:(List (List UInt8))):Option ((Int×(List (List UInt8)))⊕((List (List UInt8))×Bool)):=τ (Ψ (s1.1+1)) (some (.inl ((s1.1+1),v3)))
def Cw (x4:(List (List UInt8))×Bool) (s1:Int×(List (List UInt8))) (s2:Int×(List (List UInt8))):Option ((Int×(List (List UInt8)))⊕((Int×(List (List UInt8)))⊕((List (List UInt8))×Bool))):=if (decide (s2.1<(x4.1.length:Int))) then (idx s2.2 s1.1).bind fun x5=>(idx x4.1 s2.1).bind fun x6=>(Cu x5 x6).bind fun x7=>τ ((s2.2.length+([x7]).length)*16≤140737488355328) (τ (Ψ (s2.1+1)) (some (.inl ((s2.1+1),(s2.2++[x7]))))) else out (zi s1 s2.2)
def UX (x4:(List (List UInt8))×Bool) (s1:Int×(List (List UInt8))) (s2:Int×(List (List UInt8))):Option ((Int×(List (List UInt8)))⊕((List (List UInt8))×Bool)):=loop (Cw x4 s1) s2
def Gt (a:cF) (b:Int) (s1:Int×(List (List UInt8))):Option ((Int×(List (List UInt8)))⊕((List (List UInt8))×Bool)):=((if (decide (s1.1<(s1.2.length:Int))) then some (decide ((s1.2.length:Int)≤4000)) else some false).bind fun c1=>some c1).bind fun v2=>if v2 then (idx s1.2 s1.1).bind fun x1=>(lv a (⟨1,0,x1,[],0,0,0,[]⟩:dP)).bind fun x2=>if (x2.2.uz != 0) then out (some ([],false)) else if (x2.2.Ω != 2) then zi s1 s1.2 else (idx s1.2 s1.1).bind fun x3=>(Cv a x3 b).bind fun x4=>if (!x4.2) then out (some ([],false)) else UX x4 s1 (0,s1.2) else out (M9 s1.2)
def UW (a:cF) (b:Int) (s1:Int×(List (List UInt8))):Option ((List (List UInt8))×Bool):=loop (Gt a b) s1
def zh (a:cF) (b:Int):Option ((List (List UInt8))×Bool):=UW a b (0,[[47]])
def Cq (x3:cF) (s1:Int×Int):Option ((Int×Int)⊕Int):=if (decide (s1.2<(x3.S.aC.ι.length:Int))) then (idx x3.S.aC.ι s1.2).bind fun x5=>τ (Ψ (s1.1+(x5.ae.length:Int))) (τ (Ψ (s1.2+1)) (some (.inl ((s1.1+(x5.ae.length:Int)),(s1.2+1))))) else out (some s1.1)
def M4 (x3:cF) (s1:Int×Int):Option Int:=loop (Cq x3) s1
def Cs (x4:(List (List UInt8))×Bool) (x3:cF) (s4:Int×Int):Option ((Int×Int)⊕Int):=if (decide (s4.2<(x4.1.length:Int))) then (idx x4.1 s4.2).bind fun x8=>(lv x3 (⟨1,0,x8,[],0,0,0,[]⟩:dP)).bind fun x9=>τ (Ψ (s4.1+x9.2.κ)) (τ (Ψ (s4.2+1)) (some (.inl ((s4.1+x9.2.κ),(s4.2+1))))) else out (some s4.1)
def US (x4:(List (List UInt8))×Bool) (x3:cF) (s4:Int×Int):Option Int:=loop (Cs x4 x3) s4
def Ct (x3:cF) (s5:Int×Int):Option ((Int×Int)⊕Int):=if (decide (s5.2<(x3.S.aC.ι.length:Int))) then (idx x3.S.aC.ι s5.2).bind fun cR=>τ (Ψ (cR.κ*cR.a_)) (τ (Ψ (s5.1+(cR.κ*cR.a_))) (τ (Ψ (s5.2+1)) (some (.inl ((s5.1+(cR.κ*cR.a_)),(s5.2+1)))))) else out (some s5.1)
def UT (x3:cF) (s5:Int×Int):Option Int:=loop (Ct x3) s5
def Gq (x4:(List (List UInt8))×Bool) (x3:cF) (x1:Bool) (v1:Int) (_v2:Unit):Option Bool:=(US x4 x3 (0,0)).bind fun v4=>(UT x3 (0,0)).bind fun v5=>((if x1 then some ((x4.1.length:Int)==v1) else some false).bind fun c1=>(if c1 then τ (Ψ (v5+1)) (some (v4==(v5+1))) else some false).bind fun c2=>some c2).bind fun v6=>some v6
def Gr (s2:Int) (_v3:Unit):Option ((Int)⊕Bool):=τ (Ψ (s2+1)) (some (.inl (s2+1)))
def Gp (s2:Int) (x4:(List (List UInt8))×Bool) (s3:Int):Option ((Int)⊕((Int)⊕Bool)):=if (decide (s3<s2)) then (idx x4.1 s3).bind fun x6=>(idx x4.1 s2).bind fun x7=>if (x6==x7) then out (out (some false)) else τ (Ψ (s3+1)) (some (.inl (s3+1))) else out (Gr s2 ())
def UR (s2:Int) (x4:(List (List UInt8))×Bool) (s3:Int):Option ((Int)⊕Bool):=loop (Gp s2 x4) s3
def Cr (x4:(List (List UInt8))×Bool) (x3:cF) (x1:Bool) (v1 s2:Int):Option ((Int)⊕Bool):=if (decide (s2<(x4.1.length:Int))) then UR s2 x4 0 else out (Gq x4 x3 x1 v1 ())
def M5 (x4:(List (List UInt8))×Bool) (x3:cF) (x1:Bool) (v1 s2:Int):Option Bool:=loop (Cr x4 x3 x1 v1) s2
def Cp (a:List dP) (b:UInt8):Option Bool:=(M7).bind fun x1=>(A9 a).bind fun x2=>if x2 then some x1 else (A_ a).bind fun x3=>τ (Ψ (1+(Int.tmod (b.toNat:Int) 5))) ((zh x3 (1+(Int.tmod (b.toNat:Int) 5))).bind fun x4=>if (!x4.2) then some false else (M4 x3 (1,0)).bind fun v1=>M5 x4 x3 x1 v1 0)
end
end Go.Proofs
