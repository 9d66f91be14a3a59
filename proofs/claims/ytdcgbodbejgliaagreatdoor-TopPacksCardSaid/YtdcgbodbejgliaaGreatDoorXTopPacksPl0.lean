/- The plain law, piece 0. No condition. -/
import Derived.Test.YtdcgbodbejgliaaGreatDoorXTopPacksSp
import Derived.IntWalk
open Bool renaming and_eq_true → bJ, eq_false_iff → ic, false_eq_true → kC, or_eq_true → ug, not_eq_true' → oW, eq_iff_iff → vB, not_eq_true → C0, true_and → Lh, not_false → amc
open Go.Op renaming bytesLess → fX
open Int renaming toNat_natCast → gU, le_refl → xD, natCast_nonneg → ZX
open List renaming length_map → ax, getElem?_eq_getElem → bF, mem_cons_of_mem → cj, mem_cons → bj, length_append → cP, length_cons → cZ, getElem?_eq_some_iff → fk, mem_singleton → dB, length_take → dN, pairwise_cons → eK, mem_map → dq, mem_filter → eD, getElem_mem → ek, map_append → eI, getElem?_take → gn, replicate → il, mem_append → gp, length_nil → gM, filter_cons → ij, take_length → jr, mem_of_getElem? → mj, length_filter_le → mh, mem_of_find?_eq_some → qN, append_assoc → kD, length_eq_zero_iff → sd, pairwise_iff_getElem → vJ, drop_eq_nil_of_le → qK, pairwise_singleton → vK, drop_eq_getElem_cons → sa, take_add_one → oX, findIdx?_eq_none_iff → xE, mem_append_left → qM, any_eq_false → p0, append_nil → qJ, filter_eq_self → ui, filter_append → uh, findIdx?_eq_some_iff_getElem → Lq, pairwise_append → vI, takeWhile_cons → xG, foldl_cons → xF, cons_append → C8, countP_cons → C9, find?_eq_none → G5, any_eq_true → C7, length_filter_lt_length_iff_exists → Z_, foldl_append → G6, getElem?_eq_none → RN, getElem!_eq_getElem?_getD → Z5, getElem?_zip_eq_some → Z8, intercalate → RP, find?_cons → RM, takeWhile_prefix → aaa, find?_filter → Z3, find?_some → amd, length_zip → ame, take_take → amf
open List.Pairwise renaming nil → j1, filter → Z0
open Nat renaming le_refl → bG, le_trans → fo, lt_or_ge → gP, eq_zero_or_pos → oY, zero_le → lX, lt_trichotomy → Lx
open Ne renaming symm → j4
open Option renaming bind_some → cm, isSome_iff_exists → nt
open Option.some renaming inj → nu
open UInt8 renaming not_lt → LG, lt_iff_toNat_lt → aan, le_antisymm → aam, lt_irrefl → aao
namespace Go.Proofs
set_option linter.all false
open Go Go.Cat
section
def gX (x y:Int):Int:=if x<y then -1 else if x>y then 1 else 0
def xp (x y:Int):qW x y=some (gX x y):=by
 unfold qW cmp_isNaN_int gX;simp only [cm];by_cases h1:x<y<;>by_cases h2:x>y<;>simp [h1,h2]
def jx {x y:Int}:gX x y<0↔x<y:=by unfold gX;split<;>(try split)<;>omega
def M4:oZ Aa (fun a b=>gX a.κ b.κ):=by
 refine ⟨fun x y=>by unfold Aa;rw [xp];rfl,⟨fun x=>?_,fun x y z h1 h2=>?_,fun x y z h1 h2=>?_⟩⟩
 ·simp [jx]
 ·simp only [decide_eq_true_eq,jx] at *;omega
 ·simp only [decide_eq_false_iff_not,jx] at *;omega
instance:LL Aa:=⟨_, M4⟩
def OS:oZ CC (fun a b=>gX a.aj b.aj):=by
 refine ⟨fun x y=>by unfold CC;rw [xp];rfl,⟨fun x=>?_,fun x y z h1 h2=>?_,fun x y z h1 h2=>?_⟩⟩
 ·simp [jx]
 ·simp only [decide_eq_true_eq,jx] at *;omega
 ·simp only [decide_eq_false_iff_not,jx] at *;omega
instance:LL CC:=⟨_, OS⟩
def abO (zJ:List bp) (h:zJ.length*96≤140737488355328):FZ zJ=some zJ:=by
 unfold FZ;refine bZ.clone fun b hb=>?_;cases b with
 |true=>rw [hb rfl];rfl
 |false =>
  rw [if_neg (by decide)];show Ψ _ _=_;unfold Ψ;rw [if_pos (by simpa using h)];rfl
def abP (zJ:List bb) (h:zJ.length*24≤140737488355328):F6 zJ=some zJ:=by
 unfold F6;refine bZ.clone fun b hb=>?_;cases b with
 |true=>rw [hb rfl];rfl
 |false =>
  rw [if_neg (by decide)];show Ψ _ _=_;unfold Ψ;rw [if_pos (by simpa using h)];rfl
def aeG (x2:ξ) (eW:(Int×(List (Int×ei))×(List (Int×ξ))×(List ξ))→Option (Bool×(List (Int×ei))×(List (Int×ξ))×(List ξ))) (ll:(Int×(List (Int×ei))×(List (Int×ξ))×(List ξ))→Option (Bool×(List (Int×ei))×(List (Int×ξ))×(List ξ))) (hs:∀a,bZ (eW a) (ll a)) (s1:Bool×Int×(List (Int×ei))×(List (Int×ξ))×(List ξ)):bZ (xj x2 eW s1) (xj x2 ll s1):=by
 unfold xj
 repeat' (first|with_reducible exact hs|with_reducible exact hs _|with_reducible refine bZ.bind ?_ (fun _=>?_)|with_reducible refine bZ.ite ?_ ?_|with_reducible refine bZ.Ψ ?_|with_reducible refine bZ.bO (fun _=>?_) (fun _=>?_)|with_reducible refine bZ.out ?_|with_reducible exact bZ.refl _)
def aeI (x2:ξ) (eW:(Int×(List (Int×ei))×(List (Int×ξ))×(List ξ))→Option (Bool×(List (Int×ei))×(List (Int×ξ))×(List ξ))) (ll:(Int×(List (Int×ei))×(List (Int×ξ))×(List ξ))→Option (Bool×(List (Int×ei))×(List (Int×ξ))×(List ξ))) (hs:∀a,bZ (eW a) (ll a)) (s1:Bool×Int×(List (Int×ei))×(List (Int×ξ))×(List ξ)):bZ (FQ x2 eW s1) (FQ x2 ll s1):=bZ.V6 (fun s=>aeG x2 eW ll hs s) s1
def aeH (eW:(Int×(List (Int×ei))×(List (Int×ξ))×(List ξ))→Option (Bool×(List (Int×ei))×(List (Int×ξ))×(List ξ))) (ll:(Int×(List (Int×ei))×(List (Int×ξ))×(List ξ))→Option (Bool×(List (Int×ei))×(List (Int×ξ))×(List ξ))) (hs:∀a,bZ (eW a) (ll a)) (Fl:Int) (WQ:List (Int×ei)) (Fk:List (Int×ξ)) (WR:List ξ):bZ (rP eW Fl WQ Fk WR) (rP ll Fl WQ Fk WR):=by
 unfold rP
 repeat' (first|with_reducible apply aeI|with_reducible exact hs|with_reducible exact hs _|with_reducible refine bZ.bind ?_ (fun _=>?_)|with_reducible refine bZ.ite ?_ ?_|with_reducible refine bZ.Ψ ?_|with_reducible refine bZ.bO (fun _=>?_) (fun _=>?_)|with_reducible refine bZ.out ?_|with_reducible exact bZ.refl _)
def aeD (x1:ξ×Bool) (eW:(Int×θ×Int×(List (Int×Bool)))→Option ((List ξ)×Int×Int×Int×(List (Int×Bool)))) (ll:(Int×θ×Int×(List (Int×Bool)))→Option ((List ξ)×Int×Int×Int×(List (Int×Bool)))) (hs:∀a,bZ (eW a) (ll a)) (s1:Int×(List ξ)×Int×Int×Int×(List (Int×Bool))):bZ (zR x1 eW s1) (zR x1 ll s1):=by
 unfold zR
 repeat' (first|with_reducible exact hs|with_reducible exact hs _|with_reducible refine bZ.bind ?_ (fun _=>?_)|with_reducible refine bZ.ite ?_ ?_|with_reducible refine bZ.Ψ ?_|with_reducible refine bZ.bO (fun _=>?_) (fun _=>?_)|with_reducible refine bZ.out ?_|with_reducible exact bZ.refl _)
def aeF (x1:ξ×Bool) (eW:(Int×θ×Int×(List (Int×Bool)))→Option ((List ξ)×Int×Int×Int×(List (Int×Bool)))) (ll:(Int×θ×Int×(List (Int×Bool)))→Option ((List ξ)×Int×Int×Int×(List (Int×Bool)))) (hs:∀a,bZ (eW a) (ll a)) (s1:Int×(List ξ)×Int×Int×Int×(List (Int×Bool))):bZ (Fx x1 eW s1) (Fx x1 ll s1):=bZ.V6 (fun s=>aeD x1 eW ll hs s) s1
def aeE (eW:(Int×θ×Int×(List (Int×Bool)))→Option ((List ξ)×Int×Int×Int×(List (Int×Bool)))) (ll:(Int×θ×Int×(List (Int×Bool)))→Option ((List ξ)×Int×Int×Int×(List (Int×Bool)))) (hs:∀a,bZ (eW a) (ll a)) (Fl:Int) (WE:θ) (WG:Int) (Fk:List (Int×Bool)):bZ (tD eW Fl WE WG Fk) (tD ll Fl WE WG Fk):=by
 unfold tD
 repeat' (first|with_reducible apply aeF|with_reducible exact hs|with_reducible exact hs _|with_reducible refine bZ.bind ?_ (fun _=>?_)|with_reducible refine bZ.ite ?_ ?_|with_reducible refine bZ.Ψ ?_|with_reducible refine bZ.bO (fun _=>?_) (fun _=>?_)|with_reducible refine bZ.out ?_|with_reducible exact bZ.refl _)
end
section
def ε.abG {β σ ρ:Type} {l:List β} {B:σ→Option (σ⊕ρ)} (dJ:σ→Int) (I:Nat→σ→Prop) {Q:ρ→Prop}
  (h1:∀(n:Nat) (x:β) (a:σ),n<l.length→l[n]?=some x→dJ a=n→I n a→ε (B a) (uu (fun s=>dJ s=(n:Int)+1∧I (n+1) s) Q))
  (h2:∀a,dJ a=l.length→I l.length a→ε (B a) (uu (fun _=>False) Q)) (a:σ) (hc:dJ a=0) (h0:I 0 a):ε (Cat.loop B a) Q:=by
 refine ε.loop (fun s:σ=>∃n:Nat,dJ s=n∧n≤l.length∧I n s) (fun s=>l.length+1-(dJ s).toNat) ?_ a ⟨0,hc,lX _,h0⟩;rintro a ⟨n,Bq,hn,hi⟩
 rcases gP n l.length with Φ|gI
 ·refine (h1 n _ a Φ (bF Φ) Bq hi).mono fun y hy=>?_;cases y with
  |inl s=>exact ⟨⟨n+1,hy.1,Φ,hy.2⟩,by show l.length+1-(dJ s).toNat<_;rw [hy.1];omega⟩
  |inr r=>exact hy
 ·obtain rfl:n=l.length:=by omega
  refine (h2 a Bq hi).mono fun y hy=>?_;cases y with
  |inl s=>exact hy.elim
  |inr r=>exact hy
def drop_cons {α:Type} {l:List α} {n:Nat} {x:α} (hx:l[n]?=some x):l.drop n=x::l.drop (n+1):=by
 obtain ⟨h3,rfl⟩:=fk.1 hx;exact sa h3
def sI {α:Type} {l:List α} {p:α→Bool} {n:Nat} (h:l.findIdx? p=some n):∃x,l[n]?=some x∧l.find? p=some x∧p x=true:=by
 obtain ⟨hn,hp,hb⟩:=Lq.1 h;refine ⟨l[n],bF hn,?_,hp⟩;rw [List.find?_eq_some_iff_getElem];exact ⟨hp,n,hn,rfl,fun j hj=>by simpa using hb j hj⟩
def DJ {α:Type} {l:List α} {p:α→Bool} (h:l.findIdx? p=none):l.find? p=none:=by
 rw [xE] at h;rw [G5];intro x hx;simp [h x hx]
def oI:Option Nat→Int
 |some k=>k
 |none=>-1
def Wm (o:Option Nat):decide (oI o≥0)=o.isSome:=by cases o<;>simp [oI]
def ae0 (o:Option Nat):decide (oI o<0)=!o.isSome:=by
 cases o with
 |none=>rfl
 |some n=>show decide ((n:Int)<0)=false;rw [decide_eq_false_iff_not];omega
def jX:ξ:=⟨0,0,0,[],[],0⟩
def gN (l:List ξ) (i:Int):Option ξ:=l.find? (fun n=>n.κ==i)
def gD (l:List ξ) (i:Int):ξ:=(gN l i).getD jX
def dQ {l:List ξ} {i:Int} {n:ξ} (h:gN l i=some n):n∈l∧n.κ=i:=⟨qN h,by simpa using amd h⟩
def yC {l:List ξ} {i:Int}:gN l i=none↔∀n,n∈l→n.κ≠i:=by
 unfold gN;rw [G5];simp
def dF (l:List ξ) (i:Int):ξ×Int:=if (gN l i).isSome then (if (gD l i).τ != 2 then (jX,73) else (gD l i,0)) else (jX,70)
def f_ (s:List UInt8):Bool:=decide (1≤s.length)&&decide (s.length≤32)&&!(s == [46])&&!(s == [46,46])&&!(s.any fun x=>decide ((x.toNat:Int)<32)||(x.toNat:Int)==47)
def BQ (l:List aP) (s:List UInt8):Option Nat:=l.findIdx? (fun e=>e.aN==s)
def iq (l:List ξ):Nat→Int→Nat
 |0,_=>0
 |f+1,i=>if i=1 then 0 else iq l f (gD l i).Up+1
def SX (l:List ξ) (f:Nat) (i:Int):iq l (f+1) i=if i=1 then 0 else iq l f (gD l i).Up+1:=rfl
def ye (l:List ξ) (o:Int):Nat→Int→Bool
 |0,_=>false
 |f+1,i=>if i==o then true else if i==1 then false else ye l o f (gD l i).Up
def j7 (l:List ξ) (i o:Int):Bool:=ye l o (l.length+1) i
def cG (n:ξ):List ξ→List ξ
 |[]=>[n]
 |x::r=>if x.κ≥n.κ then n::(x::r).filter (fun y=>y.κ != n.κ) else x::cG n r
def B4 (n x:ξ) (r:List ξ):cG n (x::r)=if x.κ≥n.κ then n::(x::r).filter (fun y=>y.κ != n.κ) else x::cG n r:=rfl
def Pn (n:ξ):∀l,(cG n l).length≤l.length+1
 |[]=>bG _
 |x::r=>by
  unfold cG;split
  ·have:=mh (fun y:ξ=>y.κ != n.κ) (x::r);simp only [cZ] at *;omega
  ·have:=Pn n r;simp only [cZ];omega
def nS (e:aP):List aP→List aP
 |[]=>[e]
 |x::r=>if (!(fX x.aN e.aN||x.aN==e.aN))=true then e::x::r else x::nS e r
def EY (e x:aP) (r:List aP):nS e (x::r)=if (!(fX x.aN e.aN||x.aN==e.aN))=true then e::x::r else x::nS e r:=rfl
def OE (e:aP):∀l,(nS e l).length=l.length+1
 |[]=>rfl
 |x::r=>by unfold nS;split;rfl;simp only [cZ,OE e r]
def j9 (t:θ) (i:Int) (s:List UInt8) (o:Int):θ:=⟨cG ⟨(gD t.η i).κ,(gD t.η i).τ,(gD t.η i).a_,(gD t.η i).az,nS ⟨s,o,t.aj⟩ (gD t.η i).Ω,(gD t.η i).Up⟩ t.η,t.Next,t.aj+1⟩
def eN (t:θ) (i:Int) (s:List UInt8):θ:=⟨cG ⟨(gD t.η i).κ,(gD t.η i).τ,(gD t.η i).a_,(gD t.η i).az,(gD t.η i).Ω.filter (fun e=>!(e.aN==s)),(gD t.η i).Up⟩ t.η,t.Next,t.aj⟩
end
section
def bo {a b:Bool} {x:Option Bool} (h:a=false→x=some b):(if a=true then some true else x)=some (a||b):=by
 cases a with
 |true=>rfl
 |false=>rw [if_neg (by simp),h rfl];rfl
def ba {a b:Bool} {x:Option Bool} (h:a=true→x=some b):(if a=true then x else some false)=some (a&&b):=by
 cases a with
 |true=>rw [if_pos rfl,h rfl];rfl
 |false=>rfl
structure TF (B:Nat) (t:θ):Prop where
 n:t.η.length≤B
 e:∀n,n∈t.η→n.Ω.length≤B
 l:∀n,n∈t.η→-(B:Int)≤n.a_∧n.a_≤B
 c:0≤t.aj∧t.aj≤B
 x:0≤t.Next∧t.Next≤B
def TF.up {B C:Nat} {t:θ} (h:TF B t) (hC:B≤C):TF C t :=
 ⟨fo h.n hC,fun n hn=>fo (h.e n hn) hC,fun n hn=>by have:=h.l n hn;omega,by have:=h.c;omega,by have:=h.x;omega⟩
def Iq (l:List ξ) (i:Int):gD l i∈l∨gD l i=jX:=by
 unfold gD;cases h:gN l i with
 |none=>exact .inr rfl
 |some n=>exact .inl (dQ h).1
def TF.gE {B:Nat} {t:θ} (h:TF B t) (i:Int):(gD t.η i).Ω.length≤B:=by
 rcases Iq t.η i with h1|h1
 ·exact h.e _ h1
 ·rw [h1];exact lX _
def TF.gL {B:Nat} {t:θ} (h:TF B t) (i:Int):-(B:Int)≤(gD t.η i).a_∧(gD t.η i).a_≤B:=by
 rcases Iq t.η i with h1|h1
 ·exact h.l _ h1
 ·rw [h1];show -(B:Int)≤0∧(0:Int)≤B;omega
def Xn {n x:ξ}:∀{l:List ξ},x∈cG n l→x=n∨(x∈l∧x.κ≠n.κ)∨(x∈l∧x.κ<n.κ)
 |[],h=>by simp [cG] at h;exact .inl h
 |y::r,h=>by
  rw [B4] at h;split at h
  ·rcases bj.1 h with h|h
   ·exact .inl h
   ·obtain ⟨h1,h2⟩:=eD.1 h;exact .inr (.inl ⟨h1,by simpa using h2⟩)
  ·next Φ =>
   rcases bj.1 h with h|h
   ·exact .inr (.inr ⟨by rw [h];simp,by rw [h];omega⟩)
   ·rcases Xn h with h|h|h
    ·exact .inl h
    ·exact .inr (.inl ⟨cj _ h.1,h.2⟩)
    ·exact .inr (.inr ⟨cj _ h.1,h.2⟩)
def tC {n x:ξ} {l:List ξ} (h:x∈cG n l):x=n∨(x∈l∧x.κ≠n.κ):=by
 rcases Xn h with h|h|h
 ·exact .inl h
 ·exact .inr h
 ·exact .inr ⟨h.1,by have:=h.2;omega⟩
def TF.put {B:Nat} {t:θ} (h:TF B t) {n:ξ} (h1:n.Ω.length≤B+1) (h2:-(B+1:Int)≤n.a_∧n.a_≤B+1) {x c:Int} (hx:0≤x∧x≤B+1) (hc:0≤c∧c≤B+1):TF (B+1) ⟨cG n t.η,x,c⟩:=by
 refine ⟨fo (Pn n t.η) (Nat.succ_le_succ h.n),fun y hy=>?_,fun y hy=>?_,hc,hx⟩
 ·rcases tC hy with rfl|⟨hy,-⟩
  ·exact h1
  ·have:=h.e _ hy;omega
 ·rcases tC hy with rfl|⟨hy,-⟩
  ·exact h2
  ·have:=h.l _ hy;omega
def TF.drop {B:Nat} {t:θ} (h:TF B t) (i:Int):TF B ⟨t.η.filter (fun x=>x.κ != i),t.Next,t.aj⟩ :=
 ⟨fo (mh _ _) h.n,fun y hy=>h.e _ (eD.1 hy).1,fun y hy=>h.l _ (eD.1 hy).1,h.c,h.x⟩
def TF.uz {B:Nat} {t:θ} (h:TF B t) (i:Int) (s:List UInt8) (o:Int):TF (B+1) (j9 t i s o):=by
 have h1:=h.gE i;have h2:=h.gL i;have h3:=h.c;have h4:=h.x;exact h.put (by rw [OE];omega) (by dsimp only;omega) (by omega) (by omega)
def TF.qt {B:Nat} {t:θ} (h:TF B t) (i:Int) (s:List UInt8):TF (B+1) (eN t i s):=by
 have h1:=h.gE i;have h2:=h.gL i;have h3:=h.c;have h4:=h.x;exact h.put (fo (mh _ _) (by omega)) (by dsimp only;omega) (by omega) (by omega)
def kv (t:θ) (i:Int):θ:=if ((gD t.η i).τ==2)=true then ⟨t.η.filter (fun x=>x.κ != i),t.Next,t.aj⟩ else ⟨cG ⟨(gD t.η i).κ,(gD t.η i).τ,(gD t.η i).a_-1,(gD t.η i).az,(gD t.η i).Ω,(gD t.η i).Up⟩ t.η,t.Next,t.aj⟩
def TF.un {B:Nat} {t:θ} (h:TF B t) (i:Int):TF (B+1) (kv t i):=by
 have h1:=h.gE i;have h2:=h.gL i;have h3:=h.c;have h4:=h.x;unfold kv;split
 ·exact (h.drop i).up (by omega)
 ·exact h.put (by dsimp only;omega) (by dsimp only;omega) (by omega) (by omega)
section
variable {B:Nat} {t:θ}
def Io (t:θ) (n:ξ):Bool:=decide ((n.Ω.length:Int)≥64)||decide ((iq t.η 201 n.κ:Int)≥12)||decide (t.aj≥1099511627776)
def sG (t:θ) (i:Int) (s:List UInt8):Int:=if ((dF t.η i).2 != 0)=true then (dF t.η i).2 else if (!f_ s)=true then 60 else if (BQ (dF t.η i).1.Ω s).isSome=true then 71 else if Io t (dF t.η i).1=true then 76 else 0
def Mh (h:TF B t) (i:Int):(dF t.η i).1.Ω.length≤B:=by
 unfold dF;split
 ·split
  ·exact lX _
  ·exact h.gE i
 ·exact lX _
def mJ (t:θ) (i:Int) (s:List UInt8) (k:Int):θ×Int×Int:=if ((k != 1)&&(k != 2))=true then (t,0,1) else if (sG t i s != 0)=true then (t,0,sG t i s) else if (decide ((t.η.length:Int)≥200)||decide (t.Next≥1099511627776))=true then (t,0,76) else (j9 ⟨cG ⟨t.Next,k,1,[],[],if (k==2)=true then i else 0⟩ t.η,t.Next+1,t.aj⟩ i s t.Next,t.Next,0)
def TF.Sj (h:TF B t) (k:Int) (u:Int):TF (B+1) ⟨cG ⟨t.Next,k,1,[],[],u⟩ t.η,t.Next+1,t.aj⟩:=by
 have h3:=h.c;have h4:=h.x;exact h.put (by simp) (by dsimp only;omega) (by omega) (by omega)
def th (t:θ) (i to:Int) (s:List UInt8):θ×Int:=if (!(gN t.η i).isSome||((gD t.η i).τ==1&&(gD t.η i).a_==0))=true then (t,70) else if ((gD t.η i).τ==2)=true then (t,72) else if (sG t to s != 0)=true then (t,sG t to s) else (j9 ⟨cG ⟨(gD t.η i).κ,(gD t.η i).τ,(gD t.η i).a_+1,(gD t.η i).az,(gD t.η i).Ω,(gD t.η i).Up⟩ t.η,t.Next,t.aj⟩ to s i,0)
def TF.V3 (h:TF B t) (i:Int):TF (B+1) ⟨cG ⟨(gD t.η i).κ,(gD t.η i).τ,(gD t.η i).a_+1,(gD t.η i).az,(gD t.η i).Ω,(gD t.η i).Up⟩ t.η,t.Next,t.aj⟩:=by
 have h1:=h.gE i;have h2:=h.gL i;have h3:=h.c;have h4:=h.x;exact h.put (by dsimp only;omega) (by dsimp only;omega) (by omega) (by omega)
def eV (t:θ) (i:Int) (s:List UInt8):Int×Int:=if ((dF t.η i).2 != 0)=true then (0,(dF t.η i).2) else if (!f_ s)=true then (0,60) else match (dF t.η i).1.Ω.find? (fun e=>e.aN==s) with|some e=>(e.κ,0)|none=>(0,70)
def qz (t:θ) (i:Int) (s:List UInt8):θ×Int×Int:=if ((eV t i s).2 != 0)=true then (t,0,(eV t i s).2) else if decide (((gD t.η (eV t i s).1).Ω.length:Int)>0)=true then (t,0,74) else (kv (eN t i s) (eV t i s).1,(eV t i s).1,0)
def sy (t:θ) (x:ξ) (y:Int):Int:=if (!(gN t.η y).isSome)=true then 0 else if (x.τ==2&&(gD t.η y).τ != 2)=true then 73 else if (x.τ != 2&&(gD t.η y).τ==2)=true then 72 else if decide (((gD t.η y).Ω.length:Int)>0)=true then 74 else 0
def sW (l:List ξ) (i a:Int):Int:=l.foldl (fun m n=>if (n.τ==2&&j7 l n.κ i)=true then max m (a+(iq l 201 n.κ:Int)-(iq l 201 i:Int)+if decide ((n.Ω.length:Int)>0)=true then 1 else 0) else m) 0
end
end
section
section
variable {B:Nat} {t:θ}
def bW (t:θ) (to:Int) (aI:List UInt8):Int:=match (dF t.η to).1.Ω.find? (fun e=>e.aN==aI) with|some e=>e.κ|none=>0
def Jr (t:θ) (i from_ to y:Int):Bool:=(((y==0)&&(to != from_))&&decide (((dF t.η to).1.Ω.length:Int)≥64))||decide ((iq t.η 201 to:Int)≥12)||((gD t.η i).τ==2&&decide (sW t.η i ((iq t.η 201 to:Int)+1)>12))||decide (t.aj≥1099511627776)
def iV (t:θ) (i from_:Int) (s:List UInt8) (to:Int) (aI:List UInt8) (y:Int):θ:=if (y != 0)=true then kv (eN (eN t from_ s) to aI) y else eN t from_ s
def kp (t u:θ) (i to:Int):θ:=if ((gD t.η i).τ==2)=true then ⟨cG ⟨(gD t.η i).κ,(gD t.η i).τ,(gD t.η i).a_,(gD t.η i).az,(gD t.η i).Ω,to⟩ u.η,u.Next,u.aj⟩ else u
def qu (t:θ) (from_:Int) (s:List UInt8) (to:Int) (aI:List UInt8):θ×Int×Int :=
 if ((eV t from_ s).2 != 0)=true then (t,0,(eV t from_ s).2) else if ((dF t.η to).2 != 0)=true then (t,0,(dF t.η to).2) else if (!f_ aI)=true then (t,0,60)
 else if (bW t to aI==(eV t from_ s).1)=true then (t,0,0)
 else if ((gD t.η (eV t from_ s).1).τ==2&&j7 t.η to (eV t from_ s).1)=true then (t,0,75)
 else if (sy t (gD t.η (eV t from_ s).1) (bW t to aI) != 0)=true then (t,0,sy t (gD t.η (eV t from_ s).1) (bW t to aI))
 else if Jr t (eV t from_ s).1 from_ to (bW t to aI)=true then (t,0,76)
 else (j9 (kp t (iV t (eV t from_ s).1 from_ s to aI (bW t to aI)) (eV t from_ s).1 to) to aI (eV t from_ s).1,bW t to aI,0)
def TF.iV (h:TF B t) (i from_:Int) (s:List UInt8) (to:Int) (aI:List UInt8) (y:Int):TF (B+3) (iV t i from_ s to aI y):=by
 unfold Go.Proofs.iV;split
 ·exact ((h.qt from_ s).qt to aI).un y
 ·exact (h.qt from_ s).up (by omega)
def TF.kp {C:Nat} {u:θ} (h:TF B t) (hu:TF C u) (hC:B≤C) (i to:Int):TF (C+1) (kp t u i to):=by
 have h1:=h.gE i;have h2:=h.gL i;have h3:=hu.c;have h4:=hu.x;unfold Go.Proofs.kp;split
 ·exact hu.put (by dsimp only;omega) (by dsimp only;omega) (by omega) (by omega)
 ·exact hu.up (by omega)
def nY (t:θ) (i:Int) (x:List UInt8):θ×Int:=if (!(gN t.η i).isSome)=true then (t,70) else if ((gD t.η i).τ==2)=true then (t,72) else if decide ((x.length:Int)>4096)=true then (t,2) else (⟨cG ⟨(gD t.η i).κ,(gD t.η i).τ,(gD t.η i).a_,x,(gD t.η i).Ω,(gD t.η i).Up⟩ t.η,t.Next,t.aj⟩,0)
def wq (t:θ) (i:Int):θ×Int:=if (!(gN t.η i).isSome)=true then (t,70) else if ((gD t.η i).τ==2)=true then (t,72) else if decide ((gD t.η i).a_>0)=true then (t,71) else (⟨t.η.filter (fun x=>x.κ != i),t.Next,t.aj⟩,0)
def alE (t:θ) (n:UInt8):Int:=match t.η[n.toNat % (t.η.length+1)]? with|some x=>x.κ|none=>t.Next
def aeR:List (List UInt8):=[[97],[98],[99],[100],[101],[46,46]]
def nmP (n:UInt8):List UInt8:=(aeR[n.toNat % 6]?).getD []
end
end
section
def d_ (l:List ξ):Prop:=l.Pairwise (fun a b=>a.κ<b.κ)
def zP {n:ξ}:∀{l:List ξ},d_ l→d_ (cG n l)
 |[],_=>vK _ _
 |x::r,h=>by
  obtain ⟨h1,h2⟩:=eK.1 h;rw [B4];split
  ·next gI =>
   refine eK.2 ⟨fun y hy=>?_,h.filter _⟩;obtain ⟨hy,aQ⟩:=eD.1 hy
   have aQ:y.κ≠n.κ:=by simpa using aQ
   rcases bj.1 hy with rfl|hy
   ·omega
   ·have:=h1 y hy;omega
  ·next Φ =>
   refine eK.2 ⟨fun y hy=>?_,zP h2⟩
   rcases tC hy with rfl|⟨hy,-⟩
   ·omega
   ·exact h1 y hy
def Tp {l:List ξ} (h:d_ l) (p:ξ→Bool):d_ (l.filter p):=Z0 p h
def q6 (x:ξ) (l:List ξ) (i:Int):gN (x::l) i=if x.κ=i then some x else gN l i:=by
 unfold gN;rw [RM];by_cases h:x.κ=i
 ·rw [if_pos h];simp [h]
 ·rw [if_neg h]
  have:(x.κ==i)=false:=by simpa using h
  rw [this]
def A1 (l:List ξ) (j i:Int):gN (l.filter (fun x=>x.κ != j)) i=if i=j then none else gN l i:=by
 induction l with
 |nil=>simp [gN]
 |cons x l ih =>
  rw [ij,q6];by_cases h:x.κ=j
  ·have e:(x.κ != j)=false:=by simpa using h
   rw [e,if_neg (by simp),ih];by_cases hi:i=j
   ·rw [if_pos hi,if_pos hi]
   ·rw [if_neg hi,if_neg hi,if_neg (by omega)]
  ·have e:(x.κ != j)=true:=by simpa using h
   rw [e,if_pos rfl,q6,ih];by_cases hi:i=j
   ·rw [if_pos hi,if_pos hi,if_neg (by omega)]
   ·rw [if_neg hi,if_neg hi]
def lH (n:ξ) (i:Int):∀l,gN (cG n l) i=if i=n.κ then some n else gN l i
 |[]=>by
  unfold cG;rw [q6];by_cases h:i=n.κ
  ·rw [if_pos h,if_pos h.symm]
  ·rw [if_neg h,if_neg (j4 h)]
 |x::r=>by
  rw [B4];by_cases h:i=n.κ
  ·rw [if_pos h];split
   ·rw [q6,if_pos h.symm]
   ·rw [q6,if_neg (by omega),lH n i r,if_pos h]
  ·rw [if_neg h];split
   ·rw [q6,if_neg (j4 h),A1,if_neg h]
   ·rw [q6,lH n i r,if_neg h,q6]
def Cu {l:List ξ} (h:d_ l) {a b:ξ} (ha:a∈l) (hb:b∈l) (e:a.κ=b.κ):a=b:=by
 induction l with
 |nil=>cases ha
 |cons x l ih =>
  obtain ⟨h1,h2⟩:=eK.1 h
  rcases bj.1 ha with ha|ha<;>rcases bj.1 hb with hb|hb
  ·rw [ha,hb]
  ·have:=h1 b hb;rw [←ha] at this;omega
  ·have:=h1 a ha;rw [←hb] at this;omega
  ·exact ih h2 ha hb
def yB {l:List ξ} (h:d_ l) {n:ξ} (hn:n∈l):gN l n.κ=some n:=by
 cases e:gN l n.κ with
 |none=>exact absurd rfl (yC.1 e n hn)
 |some m=>have:=dQ e;rw [Cu h this.1 hn this.2]
structure TS (t:θ):Prop where
 s:d_ t.η
 lo:∀n,n∈t.η→0≤n.κ∧n.κ<t.Next
 rt:∃n,gN t.η 1=some n∧n.τ=2
 en:∀n,n∈t.η→∀e,e∈n.Ω→e.κ≠1
section
variable {t:θ}
def TS.nx (h:TS t):1<t.Next:=by
 obtain ⟨n,hn,-⟩:=h.rt;have:=dQ hn;have h1:=h.lo n this.1;omega
def TS.g (h:TS t) (i:Int):(0≤(gD t.η i).κ∧(gD t.η i).κ<t.Next)∧((gD t.η i).κ=1→(gD t.η i).τ=2)∧∀e,e∈(gD t.η i).Ω→e.κ≠1:=by
 have hx:=h.nx
 rcases Iq t.η i with h1|h1
 ·refine ⟨h.lo _ h1,fun e=>?_,h.en _ h1⟩;obtain ⟨n,hn,hk⟩:=h.rt;have:=dQ hn;rw [←Cu h.s this.1 h1 (by rw [this.2,e])];exact hk
 ·rw [h1];exact ⟨⟨xD _,by show (0:Int)<_;omega⟩,fun e=>absurd e (by show (0:Int)≠1;omega),fun e he=>by cases he⟩
def TS.put (h:TS t) {n:ξ} {x c:Int} (hn:0≤n.κ∧n.κ<x) (hx:t.Next≤x) (hk:n.κ=1→n.τ=2) (he:∀e,e∈n.Ω→e.κ≠1):TS ⟨cG n t.η,x,c⟩:=by
 refine ⟨zP h.s,fun y hy=>?_,?_,fun y hy=>?_⟩
 ·rcases tC hy with rfl|⟨hy,-⟩
  ·exact hn
  ·have:=h.lo y hy;dsimp only;omega
 ·obtain ⟨r,hr,kZ⟩:=h.rt;dsimp only;rw [lH];by_cases e:1=n.κ
  ·exact ⟨n,if_pos e,hk e.symm⟩
  ·exact ⟨r,by rw [if_neg e,hr],kZ⟩
 ·rcases tC hy with rfl|⟨hy,-⟩
  ·exact he
  ·exact h.en y hy
def TS.drop (h:TS t) {i:Int} (hi:i≠1):TS ⟨t.η.filter (fun x=>x.κ != i),t.Next,t.aj⟩:=by
 refine ⟨Tp h.s _,fun y hy=>h.lo _ (eD.1 hy).1,?_,fun y hy=>h.en _ (eD.1 hy).1⟩;obtain ⟨r,hr,kZ⟩:=h.rt;exact ⟨r,by dsimp only;rw [A1,if_neg (j4 hi),hr],kZ⟩
def BH {e x:aP}:∀{l:List aP},x∈nS e l↔x=e∨x∈l
 |[]=>by simp [nS]
 |y::r=>by
  rw [EY];split
  ·simp
  ·rw [bj,BH,bj];constructor
   ·rintro (h|h|h)
    ·exact .inr (.inl h)
    ·exact .inl h
    ·exact .inr (.inr h)
   ·rintro (h|h|h)
    ·exact .inr (.inl h)
    ·exact .inl h
    ·exact .inr (.inr h)
def TS.uz (h:TS t) (i:Int) (s:List UInt8) {o:Int} (ho:o≠1):TS (j9 t i s o):=by
 obtain ⟨h1,h2,h3⟩:=h.g i;refine h.put h1 (xD _) h2 fun e he=>?_
 rcases BH.1 he with rfl|he
 ·exact ho
 ·exact h3 e he
def TS.qt (h:TS t) (i:Int) (s:List UInt8):TS (eN t i s):=by
 obtain ⟨h1,h2,h3⟩:=h.g i;exact h.put h1 (xD _) h2 fun e he=>h3 e (eD.1 he).1
def TS.un (h:TS t) {i:Int} (hi:i≠1):TS (kv t i):=by
 obtain ⟨h1,h2,h3⟩:=h.g i;unfold kv;split
 ·exact h.drop hi
 ·exact h.put h1 (xD _) h2 h3
def TS.iV (h:TS t) (i from_:Int) (s:List UInt8) (to:Int) (aI:List UInt8) {y:Int} (hy:y≠1):TS (iV t i from_ s to aI y)∧(iV t i from_ s to aI y).Next=t.Next:=by
 unfold Go.Proofs.iV;split
 ·refine ⟨((h.qt from_ s).qt to aI).un hy,?_⟩;unfold kv;split<;>rfl
 ·exact ⟨h.qt from_ s,rfl⟩
def TS.kp {u:θ} (h:TS t) (hu:TS u) (hx:u.Next=t.Next) (i to:Int):TS (kp t u i to):=by
 obtain ⟨h1,h2,h3⟩:=h.g i;unfold Go.Proofs.kp;split
 ·exact hu.put (by dsimp only;omega) (xD _) h2 h3
 ·exact hu
def nw {x:Int} (h:¬(x != 0)=true):x=0:=by simpa using h
end
end
section
def ε.same {α ρ:Type} {a b:List α} {B:Int→Option (Int⊕ρ)} {Q:ρ→Prop} (jN:a.length=b.length)
  (h1:∀(n:Nat) (x y:α),n<a.length→a[n]?=some x→b[n]?=some y→ε (B (n:Int)) (fun r=>(x=y∧r=.inl ((n:Int)+1))∨(x≠y∧∃q,r=.inr q∧(a≠b→Q q))))
  (h2:a=b→ε (B (a.length:Int)) (fun r=>∃q,r=.inr q∧Q q)):ε (Cat.loop B 0) Q:=by
 refine ε.abF (l:=a) (fun n=>a.take n=b.take n) (fun n x Φ hx hi=>?_) (fun hi=>?_) (by simp)
 ·have hy:=bF (show n<b.length by omega);refine (h1 n x _ Φ hx hy).mono ?_;rintro r (⟨he,rfl⟩|⟨he,q,rfl,hq⟩)
  ·exact ⟨rfl,by rw [rQ hx,rQ hy,hi,he]⟩
  ·exact hq fun e=>he (by subst e;rw [hx] at hy;exact nu hy)
 ·rw [jr,jN,jr] at hi;refine (h2 hi).mono ?_;rintro r ⟨q,rfl,hq⟩;exact hq
def H2 {x y:aP}:(x.aN==y.aN&&(x.κ==y.κ&&(x.aj==y.aj&&true)))=true↔x=y:=by
 cases x;cases y;simp
def agL (a b:List aP) (hl:a.length≤1000000):ε (Fy a b) (cR (a=b)):=by
 unfold Fy;refine ε.ite (fun e=>ε.ret (cR.no fun h=>?_)) fun e=>?_
 ·simp [h] at e
 have jN:a.length=b.length:=by simp at e;omega
 unfold Xv;refine ε.same jN (fun n x y hn hx hy=>?_) fun he=>?_
 ·unfold FA;refine ε.cond (by simpa using hn) (ε.af (cq hx) (ε.af (cq hy) ?_));by_cases h:x=y
  ·rw [if_neg (by rw [H2.2 h];simp),gq (by unfold Ξ;omega)];exact ε.ret (.inl ⟨h,rfl⟩)
  ·rw [if_pos (by rw [oW,←C0,H2];exact h)];exact ⟨_,rfl,.inr ⟨h,_,rfl,fun aQ=>cR.no aQ⟩⟩
 ·unfold FA;exact ε.cD (by simp) ⟨_,rfl,_,rfl,cR.yes he⟩
def Xr (a b:List aP) (hl:a.length≤1000000):ε (Cr a b) (cR (a=b)):=by
 unfold Cr;refine ε.ite (fun e=>ε.ret (cR.no fun h=>?_)) fun e=>?_
 ·simp [h] at e
 have jN:a.length=b.length:=by simp at e;omega
 unfold X3;refine ε.same jN (fun n x y hn hx hy=>?_) fun he=>?_
 ·unfold Gb;refine ε.cond (by simpa using hn) (ε.af (cq hx) (ε.af (cq hy) ?_));by_cases h:x=y
  ·rw [if_neg (by rw [H2.2 h];simp),gq (by unfold Ξ;omega)];exact ε.ret (.inl ⟨h,rfl⟩)
  ·rw [if_pos (by rw [oW,←C0,H2];exact h)];exact ⟨_,rfl,.inr ⟨h,_,rfl,fun aQ=>cR.no aQ⟩⟩
 ·unfold Gb;exact ε.cD (by simp) ⟨_,rfl,_,rfl,cR.yes he⟩
def aeX {a b:ξ}:a=b↔a.κ=b.κ∧a.τ=b.τ∧a.a_=b.a_∧a.Up=b.Up∧a.az=b.az∧a.Ω=b.Ω:=by
 constructor
 ·rintro rfl;exact ⟨rfl,rfl,rfl,rfl,rfl,rfl⟩
 ·obtain ⟨a1,a2,a3,a4,a5,a6⟩:=a;obtain ⟨b1,b2,b3,b4,b5,b6⟩:=b;rintro ⟨h1,h2,h3,h6,h4,h5⟩;dsimp only at *;subst h1 h2 h3 h4 h5 h6;rfl
def yK (a b:ξ):Bool:=a.κ==b.κ&&a.τ==b.τ&&a.a_==b.a_&&a.Up==b.Up&&a.az==b.az
def A_ {a b:ξ}:(yK a b=true∧a.Ω=b.Ω)↔a=b:=by
 rw [aeX];unfold yK;simp [and_assoc]
def Xs (a b:ξ) (hl:a.Ω.length≤1000000):ε (zU a b) (cR (a=b)):=by
 unfold zU;rw [bo (b:=a.τ != b.τ) (fun _=>rfl),cm,bo (b:=a.a_ != b.a_) (fun _=>rfl),cm,bo (b:=a.Up != b.Up) (fun _=>rfl),cm,bo (b:=!(a.az==b.az)) (fun _=>rfl),cm,cm]
 have e:(a.κ != b.κ||a.τ != b.τ||a.a_ != b.a_||a.Up != b.Up||!(a.az==b.az))=!yK a b:=by unfold yK;simp [bne,Bool.not_and]
 rw [e];refine ε.ite (fun h=>ε.ret (cR.no fun jN=>?_)) fun h=>?_
 ·rw [oW,←C0] at h;exact h (A_.2 jN).1
 ·have h:yK a b=true:=by simpa using h
  refine ε.bind (agL a.Ω b.Ω hl) fun r hr=>ε.ret (hr.trans ?_);rw [←A_];simp [h]
def Xt (a b:ξ) (hl:a.Ω.length≤1000000):ε (Cl a b) (cR (a=b)):=by
 unfold Cl;rw [ba (b:=a.τ==b.τ) (fun _=>rfl),cm,ba (b:=a.a_==b.a_) (fun _=>rfl),cm,ba (b:=a.Up==b.Up) (fun _=>rfl),cm,ba (b:=a.az==b.az) (fun _=>rfl),cm];show ε (((if yK a b=true then _ else _:Option Bool).bind _).bind _) _;refine ε.bind (R:=cR (a=b)) (ε.bind (R:=cR (a=b)) ?_ fun r hr=>ε.ret hr) fun r hr=>ε.ret hr;refine ε.ite (fun h=>?_) fun h=>ε.ret (cR.no fun jN=>h (A_.2 jN).1);refine ε.bind (Xr a.Ω b.Ω hl) fun r hr=>ε.ret (hr.trans ?_);rw [←A_];simp [h]
def agS (a b:ξ) (hl:a.Ω.length≤1000000):ε (Gy a b) (cR (a=b)):=by
 unfold Gy HC;simp only [cm];rw [ba (b:=a.τ==b.τ) (fun _=>rfl),cm,ba (b:=a.a_==b.a_) (fun _=>rfl),cm,ba (b:=a.Up==b.Up) (fun _=>rfl),cm,ba (b:=a.az==b.az) (fun _=>rfl),cm];show ε (((if yK a b=true then _ else _:Option Bool).bind _).bind _) _;refine ε.bind (R:=cR (a=b)) (ε.bind (R:=cR (a=b)) ?_ fun r hr=>ε.ret hr) fun r hr=>ε.ret hr;refine ε.ite (fun h=>?_) fun h=>ε.ret (cR.no fun jN=>h (A_.2 jN).1);refine ε.bind (Xr a.Ω b.Ω hl) fun r hr=>ε.ret (hr.trans ?_);rw [←A_];simp [h]
def agO (a b:List ξ) (hl:a.length≤1000000) (he:∀n,n∈a→n.Ω.length≤1000000):ε (FB a b) (cR (a=b)):=by
 unfold FB;refine ε.ite (fun e=>ε.ret (cR.no fun h=>?_)) fun e=>?_
 ·simp [h] at e
 have jN:a.length=b.length:=by simp at e;omega
 unfold Xw;refine ε.same jN (fun n x y hn hx hy=>?_) fun he=>?_
 ·unfold FC;refine ε.cond (by simpa using hn) (ε.af (cq hx) (ε.af (cq hy) (ε.bind (Xs x y (he x (mj hx))) fun r hr=>?_)));by_cases h:x=y
  ·rw [if_neg (by rw [hr.2 h];simp),gq (by unfold Ξ;omega)];exact ε.ret (.inl ⟨h,rfl⟩)
  ·rw [if_pos (by rw [oW,←C0];exact fun e=>h (hr.1 e))];exact ⟨_,rfl,.inr ⟨h,_,rfl,fun aQ=>cR.no aQ⟩⟩
 ·unfold FC;exact ε.cD (by simp) ⟨_,rfl,_,rfl,cR.yes he⟩
def agT (a b:List ξ) (hl:a.length≤1000000) (he:∀n,n∈a→n.Ω.length≤1000000):ε (F8 a b) (cR (a=b)):=by
 unfold F8;refine ε.ite (fun e=>ε.ret (cR.no fun h=>?_)) fun e=>?_
 ·simp [h] at e
 have jN:a.length=b.length:=by simp at e;omega
 unfold X1;refine ε.same jN (fun n x y hn hx hy=>?_) fun he=>?_
 ·unfold F9;refine ε.cond (by simpa using hn) (ε.af (cq hx) (ε.af (cq hy) (ε.bind (agS x y (he x (mj hx))) fun r hr=>?_)));by_cases h:x=y
  ·rw [if_neg (by rw [hr.2 h];simp),gq (by unfold Ξ;omega)];exact ε.ret (.inl ⟨h,rfl⟩)
  ·rw [if_pos (by rw [oW,←C0];exact fun e=>h (hr.1 e))];exact ⟨_,rfl,.inr ⟨h,_,rfl,fun aQ=>cR.no aQ⟩⟩
 ·unfold F9;exact ε.cD (by simp) ⟨_,rfl,_,rfl,cR.yes he⟩
def YG {a b:θ}:a=b↔(a.Next=b.Next∧a.aj=b.aj)∧a.η=b.η:=by
 cases a;cases b;simp;constructor
 ·rintro ⟨h1,h2,h3⟩;exact ⟨⟨h2,h3⟩,h1⟩
 ·rintro ⟨⟨h2,h3⟩,h1⟩;exact ⟨h1,h2,h3⟩
section
variable {B:Nat} {a b:θ}
def agQ (h:TF B a) (hB:B≤100000):ε (B9 a b) (cR (a=b)):=by
 have h1:=h.n;unfold B9;refine ε.bind (R:=cR (a=b)) (ε.bind (R:=cR (a.Next=b.Next∧a.aj=b.aj)) (ε.Hr (by simp) fun _=>ε.is (by simp)) fun c hc=>ε.bind (R:=cR ((a.Next=b.Next∧a.aj=b.aj)∧a.η=b.η)) (ε.Hr hc fun _=>ε.bind (agO a.η b.η (by omega) fun n hn=>fo (h.e n hn) (by omega)) fun r hr=>ε.ret hr) fun r hr=>ε.ret (hr.trans YG.symm)) fun r hr=>ε.ret hr
def WA (h:TF B a) (hB:B≤100000):ε (vv a b) (cR (a=b)):=by
 have h1:=h.n;unfold vv;refine ε.bind (R:=cR (a=b)) (ε.bind (R:=cR (a.Next=b.Next∧a.aj=b.aj)) (ε.Hr (by simp) fun _=>ε.is (by simp)) fun c hc=>ε.bind (R:=cR ((a.Next=b.Next∧a.aj=b.aj)∧a.η=b.η)) (ε.Hr hc fun _=>ε.bind (agT a.η b.η (by omega) fun n hn=>fo (h.e n hn) (by omega)) fun r hr=>ε.ret hr) fun r hr=>ε.ret (hr.trans YG.symm)) fun r hr=>ε.ret hr
end
end
section
def ym {x y:Int}:(gX x y==0)=true↔x=y:=by unfold gX;split<;>(try split)<;>simp<;>omega
def V' (a b:Nat) (h:a+b≤1000000000000):IntKind.i64.wrap (eX .u64 (IntKind.u64.wrap ((a:Int)+(b:Int))) 1)=(((a+b)/2:Nat):Int):=by
 have e1:(a:Int)+(b:Int)=((a+b:Nat):Int):=by omega
 rw [e1,GR rfl (by show a+b<2 ^ 64;omega)];have e2:eX .u64 ((a+b:Nat):Int) 1=(((a+b)>>>1:Nat):Int):=PY (b:=1) (by decide);rw [e2,Nat.shiftRight_eq_div_pow];exact IntWalk.i64_in _ ⟨by omega,by omega⟩
def Gt {l:List ξ} (h:d_ l) {j k:Nat} {x y:ξ} (hx:l[j]?=some x) (hy:l[k]?=some y) (pC:j<k):x.κ<y.κ:=by
 obtain ⟨h1,rfl⟩:=fk.1 hx;obtain ⟨h2,rfl⟩:=fk.1 hy;exact vJ.1 h j k h1 h2 pC
def WH {l:List ξ} (hs:d_ l) (hl:l.length≤1000000) (i:Int):ε (Cp l i) (fun r=>0≤r.1∧(if r.2=true then r.1 else -1)=oI (l.findIdx? (fun n=>n.κ==i))):=by
 unfold Cp X0;refine ε.bind (R:=fun v:Int=>∃k:Nat,v=k∧k≤l.length∧(∀j x,j<k→l[j]?=some x→x.κ<i)∧(∀j x,k≤j→l[j]?=some x→i≤x.κ)) ?_ fun v hv=>?_
 ·refine ε.loop (fun s:Int×Int=>∃a b:Nat,s=((a:Int),(b:Int))∧a≤b∧b≤l.length∧(∀j x,j<a→l[j]?=some x→x.κ<i)∧(∀j x,b≤j→l[j]?=some x→i≤x.κ)) (fun s=>(s.2-s.1).toNat) ?_ _ ⟨0,l.length,rfl,by omega,by omega,fun j x h=>by omega,fun j x h hx=>by rw [RN (by omega)] at hx;cases hx⟩;rintro s ⟨a,b,rfl,jN,hb,k_,kW⟩;unfold Ks;dsimp only;by_cases Φ:a<b
  ·refine ε.cond (by simpa using Φ) (ε.Ψ (by unfold Ξ;omega) ?_);rw [V' a b (by omega)]
   have hm:(a+b)/2<l.length:=by omega
   have hx:=bF hm;refine ε.af (cq hx) (ε.af (a:=gX l[(a+b)/2].κ i) (by unfold Cj;rw [xp];rfl) ?_);refine ε.ite (fun e=>ε.Ψ (by unfold Ξ;omega) (ε.inl ⟨⟨(a+b)/2+1,b,rfl,by omega,hb,fun j x hj yW=>?_,kW⟩,by dsimp only;omega⟩)) fun e=>ε.inl ⟨⟨a,(a+b)/2,rfl,by omega,by omega,k_,fun j x hj yW=>?_⟩,by dsimp only;omega⟩
   ·have hc:l[(a+b)/2].κ<i:=jx.1 (by simpa using e)
    rcases gP j ((a+b)/2) with h|h
    ·have:=Gt hs yW hx h;omega
    ·have:j=(a+b)/2:=by omega
     subst this;rw [hx] at yW;cases yW;exact hc
   ·have hc:¬l[(a+b)/2].κ<i:=fun h=>e (by simpa using jx.2 h)
    rcases gP ((a+b)/2) j with h|h
    ·have:=Gt hs hx yW h;omega
    ·have:j=(a+b)/2:=by omega
     subst this;rw [hx] at yW;cases yW;omega
  ·have:a=b:=by omega
   subst this;exact ε.cD (by simp) (ε.out (ε.ret ⟨a,rfl,hb,k_,kW⟩))
 ·obtain ⟨k,rfl,hk,k_,kW⟩:=hv;by_cases II:k<l.length
  ·have hx:=bF II;refine ε.bind (R:=(·=(gX l[k].κ i==0))) (ε.bind (R:=(·=(gX l[k].κ i==0))) (ε.cond (by simpa using II) (ε.af (cq hx) (ε.af (a:=gX l[k].κ i) (by unfold Cj;rw [xp];rfl) (ε.ret rfl)))) fun r hr=>ε.ret hr) fun r hr=>ε.ret ?_;subst hr;dsimp only;refine ⟨ZX k,?_⟩;by_cases he:l[k].κ=i
   ·rw [if_pos (ym.2 he)]
    have:l.findIdx? (fun n=>n.κ==i)=some k:=by
     rw [Lq];refine ⟨II,by simpa using he,fun j hj=>?_⟩;have:=k_ j _ hj (bF (by omega));simp;omega
    rw [this];rfl
   ·rw [if_neg (fun h=>he (ym.1 h))]
    have:l.findIdx? (fun n=>n.κ==i)=none:=by
     rw [xE];intro x gv;obtain ⟨j,hj⟩:=tn gv
     rcases Lx j k with h|h|h
     ·have:=k_ j x h hj;simp;omega
     ·subst h;rw [hx] at hj;cases hj;simpa using he
     ·have:=Gt hs hx hj h;have:=kW k _ (bG _) hx;simp;omega
    rw [this];rfl
  ·refine ε.bind (R:=(·=false)) (ε.bind (R:=(·=false)) (ε.cD (by simpa using II) (ε.ret rfl)) fun r hr=>ε.ret hr) fun r hr=>ε.ret ?_;subst hr;dsimp only;refine ⟨ZX k,?_⟩
   have:l.findIdx? (fun n=>n.κ==i)=none:=by
    rw [xE];intro x gv;obtain ⟨j,hj⟩:=tn gv;have:=k_ j x (by have:=(MM hj).1;omega) hj;simp;omega
   rw [this];rfl
def WO {l:List ξ} (hs:d_ l) (hl:l.length≤1000000) (i:Int):Ci l i=some (oI (l.findIdx? (fun n=>n.κ==i))):=by
 refine ε.eq ?_;unfold Ci;refine ε.bind (WH hs hl i) fun r hr=>?_;obtain ⟨k,b⟩:=r;cases b with
 |true=>exact ε.cD (by simp) (ε.ret hr.2)
 |false=>exact ε.cond rfl (ε.ret hr.2)
def afY {t:θ} (hs:d_ t.η) (hl:t.η.length≤1000000) (i:Int):ε (tV ⟨t⟩ i) (fun r=>r.2=⟨t⟩∧0≤r.1.1∧(if r.1.2=true then r.1.1 else -1)=oI (t.η.findIdx? (fun n=>n.κ==i))):=by
 unfold tV;show ε ((Cp t.η i).bind _) _;exact ε.bind (WH hs hl i) fun r hr=>ε.ret ⟨rfl,hr⟩
def rK {t:θ} (hs:d_ t.η) (hl:t.η.length≤1000000) (i:Int):nj ⟨t⟩ i=some ((gD t.η i,(gN t.η i).isSome),⟨t⟩):=by
 refine ε.eq ?_;unfold nj;refine ε.bind (afY hs hl i) fun r hr=>?_;obtain ⟨⟨k,b⟩,g⟩:=r;obtain ⟨rfl,hk,hr⟩:=hr;dsimp only at hk hr ⊢;unfold gD gN;cases h:t.η.findIdx? (fun n=>n.κ==i) with
 |none =>
  rw [h] at hr;rw [DJ h];cases b with
  |false=>exact ε.cond rfl (ε.ret rfl)
  |true=>rw [if_pos rfl] at hr;have:k=-1:=hr;omega
 |some n =>
  obtain ⟨x,hx,hf,-⟩:=sI h;rw [h] at hr;rw [hf];cases b with
  |false=>rw [if_neg (by simp)] at hr;have:(-1:Int)=(n:Int):=hr;omega
  |true =>
   rw [if_pos rfl] at hr;have:k=(n:Int):=hr;subst this;exact ε.cD (by simp) (ε.af (cq hx) (ε.ret rfl))
def tu {t:θ} (hs:d_ t.η) (hl:t.η.length≤1000000) (i:Int):mc t i=some (gD t.η i,(gN t.η i).isSome):=by
 unfold mc;rw [rK hs hl];rfl
def rO (l:List bb) (f u:Int):Bool:=l.any fun x=>decide (x.At≥f)&&decide (x.At<u)
def W5 (l:List bb) (f u:Int) (hl:l.length≤1000000):Cm l f u=some (rO l f u):=by
 unfold Cm Kv KH X9;rw [OU (b:=l) (fun x=>decide (x.At≥f)&&decide (x.At<u)) (fun n _=>(n:Int)) (-1)]
 ·rw [cm,cm];refine congrArg some ?_;unfold rO;cases h:l.findIdx? (fun x=>decide (x.At≥f)&&decide (x.At<u)) with
  |none =>
   rw [xE] at h;symm;show _=false;rw [p0];intro x hx;simpa using h x hx
  |some n =>
   obtain ⟨x,hx,-,hp⟩:=sI h;rw [C7.2 ⟨x,mj hx,hp⟩];simp only [hx];simp
 ·intro n x hx hn;unfold Gl Kn;rw [if_pos (by simpa using hn),cq hx,cm];rw [ba (b:=decide (x.At<u)) (fun _=>rfl),cm,cm,cm,gq (by unfold Ξ;omega)];rfl
 ·unfold Gl;rw [if_neg (by simp)];rfl
end
section
open Classical in
noncomputable def vg (s:bx) (t:θ) (p:ξ×Int):Bool:=decide (gN t.η p.1.κ≠some p.1)&&rO s.aR p.2 (s.aY+1)
noncomputable def Fu (s:bx) (t:θ):List bp:=((s.Γ.η.zip s.aU).filter (vg s t)).map fun p=>⟨p.2,s.aY+1,p.1⟩
open Classical in
noncomputable def vn (s:bx) (n:ξ):Int:=match s.Γ.η.findIdx? (fun m=>decide (m=n)) with|some k=>(s.aU[k]?).getD 0|none=>s.aY+1
open Classical in
noncomputable def fb (s:bx) (t:θ):bx:=if s.Γ=t then s else ⟨t,s.aY+1,t.η.map (vn s),s.aO++Fu s t,s.aR,s.Next⟩
open Classical in
def ahH {s:bx} (hs:d_ s.Γ.η) {k:Nat} {n:ξ} (hn:s.Γ.η[k]?=some n):vn s n=(s.aU[k]?).getD 0:=by
 unfold vn
 have:s.Γ.η.findIdx? (fun m=>decide (m=n))=some k:=by
  rw [Lq];obtain ⟨h1,h2⟩:=fk.1 hn;refine ⟨h1,by simpa using h2,fun j hj=>?_⟩;have:=Gt hs (bF (show j<s.Γ.η.length by omega)) hn hj;simp only [decide_eq_true_eq];intro e;rw [e] at this;omega
 rw [this]
open Classical in
def XX {s:bx} {n:ξ} (hn:n∉s.Γ.η):vn s n=s.aY+1:=by
 unfold vn
 have:s.Γ.η.findIdx? (fun m=>decide (m=n))=none:=by
  rw [xE];intro x hx;simp only [decide_eq_false_iff_not];intro e;exact hn (e▸hx)
 rw [this]
def Rn {l:List ξ} {m:List Int} {k:Nat} {p:ξ×Int} (h:(l.zip m)[k]?=some p):l[k]?=some p.1∧m[k]?=some p.2:=by
 rw [Z8] at h;exact h
structure PF (B:Nat) (s:bx) (t:θ):Prop where
 f:TF B s.Γ
 ft:TF B t
 b:B≤90000
 so:d_ s.Γ.η
 st:d_ t.η
 si:s.aU.length=s.Γ.η.length
 tk:0≤s.aY∧s.aY≤1000000
 ps:s.aO.length≤1000000
 ta:s.aR.length≤1000000
section
variable {B:Nat} {s:bx} {t:θ}
def PF.zl (h:PF B s t):(s.Γ.η.zip s.aU).length=s.Γ.η.length:=by rw [ame,h.si];omega
open Classical in
open Classical in
def age (h:PF B s t):PT s t (0,s.aO)=some (s.aO++Fu s t):=by
 have h1:=h.f.n;have h2:=h.ft.n;have h3:=h.b;have h4:=h.tk;have h5:=h.ps;have h6:=h.ta;have hz:=h.zl;refine ε.eq ?_;unfold PT Fu;rw [←hz] at h1;refine ε.each (l:=s.Γ.η.zip s.aU) (fun k a=>a=s.aO++(((s.Γ.η.zip s.aU).take k).filter (vg s t)).map fun p=>⟨p.2,s.aY+1,p.1⟩) (fun k p a Φ hp ha=>?_) (fun a ha=>?_) _ (by simp)
 ·obtain ⟨hx,hq⟩:=Rn hp
  have aS:a.length≤1000000+k:=by
   rw [ha,cP,ax];have:=mh (vg s t) ((s.Γ.η.zip s.aU).take k);rw [dN] at this;omega
  unfold FM;refine ε.cond (by simp;omega) ?_;dsimp only;refine ε.bind (R:=(·=s.aO++(((s.Γ.η.zip s.aU).take (k+1)).filter (vg s t)).map fun p=>⟨p.2,s.aY+1,p.1⟩)) ?_ fun v hv=>ε.Ψ (by unfold Ξ;omega) (ε.inl ⟨rfl,hv⟩);rw [rQ hp,uh,eI,←kD,←ha];refine ε.af (cq hx) (ε.af (WO h.st (by omega) _) ?_);refine ε.bind (R:=(·=vg s t p)) (ε.bind (R:=cR (gN t.η p.1.κ≠some p.1)) ?_ fun r hr=>ε.bind (R:=(·=vg s t p)) ?_ fun r hr=>ε.ret hr) fun r hr=>?_
  ·rw [ae0];cases hg:t.η.findIdx? (fun n=>n.κ==p.1.κ) with
   |none=>exact ε.cond rfl (ε.ret (cR.yes (by unfold gN;rw [DJ hg];simp)))
   |some j =>
    obtain ⟨m,hm,hf,-⟩:=sI hg;refine ε.cD (by simp) ?_;show ε ((idx t.η (j:Int)).bind _) _;refine ε.af (cq hm) (ε.bind (Xt p.1 m (fo (h.f.e _ (mj hx)) (by omega))) fun r hr=>ε.ret ((cR.not hr).trans ?_));unfold gN;rw [hf];simp [eq_comm]
  ·unfold vg;refine ε.ite (fun e=>ε.af (cq hq) (ε.af (W5 _ _ _ (by omega)) (ε.ret ?_))) fun e=>ε.ret ?_
   ·rw [decide_eq_true (hr.1 e)];rfl
   ·rw [decide_eq_false (fun h=>e (hr.2 h))];rfl
  ·subst hr;refine ε.ite (fun e=>ε.af (cq hq) (ε.Ψ (by simp only [cZ,gM];omega) (ε.ret ?_))) fun e=>ε.ret ?_
   ·rw [ij,e];simp
   ·rw [C0] at e;rw [ij,e];simp
 ·unfold FM;rw [jr] at ha;exact ε.cD (by rw [hz];simp) (ε.out (ε.ret ha))
open Classical in
def agl (h:PF B s t):PU t s (0,[])=some (t.η.map (vn s)):=by
 have h1:=h.f.n;have h2:=h.ft.n;have h3:=h.b;have h4:=h.tk;refine ε.eq ?_;unfold PU;refine ε.each (l:=t.η) (fun k a=>a=(t.η.take k).map (vn s)) (fun k n a Φ hn ha=>?_) (fun a ha=>?_) _ rfl
 ·have aS:a.length≤k:=by rw [ha,ax,dN];omega
  unfold FN;refine ε.cond (by simp;omega) ?_;dsimp only;refine ε.af (cq hn) ?_;refine ε.bind (R:=(·=vn s n)) ?_ fun v hv=>ε.Ψ (by simp only [cZ,gM];omega) (ε.Ψ (by unfold Ξ;omega) (ε.inl ⟨rfl,by rw [hv,rQ hn,eI,←ha];rfl⟩));refine ε.af (WO h.so (by omega) _) ?_;rw [Wm];cases hg:s.Γ.η.findIdx? (fun m=>m.κ==n.κ) with
  |none =>
   refine ε.bind (R:=(·=false)) (ε.bind (R:=(·=false)) (ε.cD (by simp) (ε.ret rfl)) fun r hr=>ε.ret hr) fun r hr=>ε.cD (by rw [hr];simp) (ε.ret ?_);rw [xE] at hg;exact (XX fun hm=>by simpa using hg n hm).symm
  |some j =>
   obtain ⟨m,hm,-,hp⟩:=sI hg;have hj:=(MM hm).1;have hq:=bF (show j<s.aU.length by rw [h.si];omega);refine ε.bind (R:=cR (n=m)) (ε.bind (R:=cR (n=m)) (ε.cond (by simp) ?_) fun r hr=>ε.ret hr) fun r hr=>?_
   ·show ε ((idx s.Γ.η (j:Int)).bind _) _;exact ε.af (cq hm) (ε.bind (Xt n m (fo (h.ft.e _ (mj hn)) (by omega))) fun r hr=>ε.ret hr)
   ·refine ε.ite (fun e=>?_) fun e=>ε.ret ?_
    ·show ε ((idx s.aU (j:Int)).bind _) _;refine ε.af (cq hq) (ε.ret ?_);rw [ahH h.so (by rw [hr.1 e];exact hm),hq];rfl
    ·refine (XX fun bC=>e (hr.2 ?_)).symm;exact Cu h.so bC (mj hm) (by simp only [beq_iff_eq] at hp;exact hp.symm)
 ·unfold FN;rw [jr] at ha;exact ε.cD (by simp) (ε.out (ε.ret ha))
def O' (h:PF B s t):tK s t=some (fb s t):=by
 have h3:=h.b;have h4:=h.tk;have h5:=h.ps;refine ε.eq ?_;unfold tK fb;refine ε.bind (WA h.f (by omega)) fun r hr=>ε.ite (fun e=>ε.ret (by rw [if_pos (hr.1 e)])) fun e=>?_;rw [if_neg (fun h=>e (hr.2 h))];exact ε.Ψ (by unfold Ξ;omega) (ε.af (abO _ (by omega)) (ε.af (age h) (ε.af (agl h) (ε.ret rfl))))
end
end
section
def oa (s:bx) (i:Int):bx×Int×Int:=if (!(gN s.Γ.η i).isSome)=true then (s,0,70) else if ((gD s.Γ.η i).τ != 2)=true then (s,0,73) else if (decide ((s.aR.length:Int)≥16)||decide (s.Next≥1099511627776))=true then (s,0,76) else (⟨s.Γ,s.aY,s.aU,s.aO,s.aR++[⟨s.Next,i,s.aY⟩],s.Next+1⟩,s.Next,0)
def afN (s:bx) (i:Int) (hs:d_ s.Γ.η) (hl:s.Γ.η.length≤1000000) (ht:s.aR.length≤1000000) (hn:0≤s.Next∧s.Next≤1000000):Ch s i=some (oa s i):=by
 unfold Ch oa;rw [tu hs hl,cm];dsimp only;split
 ·rfl
 split
 ·rfl
 rw [bo (b:=decide (s.Next≥1099511627776)) (fun _=>rfl),cm,cm];split
 ·rfl
 rw [abP _ (by omega),cm,gq (by simp only [cZ,gM];omega),gq (by unfold Ξ;omega)]
def oB (s:bx) (i:Int):List bb:=s.aR.filter fun x=>x.Id != i
def zA (l:List bp) (T:List bb):List bp:=l.filter fun p=>rO T p.kG p.iA
def pf (s:bx) (i:Int):bx×Int:=if (((oB s i).length:Int)==(s.aR.length:Int))=true then (s,100) else (⟨s.Γ,s.aY,s.aU,zA s.aO (oB s i),oB s i,s.Next⟩,0)
def S8 (s:bx) (i:Int):(oB s i).length≤s.aR.length:=mh _ _
def afg (s:bx) (i:Int) (ht:s.aR.length≤1000000) (hp:s.aO.length≤1000000):Cg s i=some (pf s i):=by
 refine ε.eq ?_;have hd:=S8 s i;unfold Cg pf Kp XW;refine ε.bind (R:=(·=oB s i)) (ε.bind (R:=(·=oB s i)) (ε.each (l:=s.aR) (fun k a=>a=(s.aR.take k).filter fun x=>x.Id != i) (fun k x a Φ hx ha=>?_) (fun a ha=>?_) _ rfl) fun v hv=>ε.ret hv) fun v hv=>?_
 ·unfold FV Kj
  have aS:a.length≤k:=by rw [ha];exact fo (mh _ _) (by rw [dN];omega)
  refine ε.cond (by simpa using Φ) ?_;dsimp only;rw [cq hx,cm,cm];by_cases aQ:(x.Id != i)=true
  ·rw [if_pos aQ];exact ε.af (gq (by simp only [cZ,gM];omega)) (ε.Ψ (by unfold Ξ;omega) (ε.inl ⟨rfl,by rw [rQ hx,uh,←ha,ij,if_pos aQ];rfl⟩))
  ·rw [if_neg aQ];exact ε.af rfl (ε.Ψ (by unfold Ξ;omega) (ε.inl ⟨rfl,by rw [rQ hx,uh,←ha,ij,if_neg aQ];simp⟩))
 ·unfold FV;rw [jr] at ha;exact ε.cD (by simp) (ε.out (ε.ret ha))
 subst hv;refine ε.ite (fun e=>ε.ret (by rw [if_pos e])) fun e=>?_;rw [if_neg e];unfold Ko XV;refine ε.bind (R:=(·=zA s.aO (oB s i))) (ε.bind (R:=(·=zA s.aO (oB s i))) (ε.each (l:=s.aO) (fun k a=>a=zA (s.aO.take k) (oB s i)) (fun k x a Φ hx ha=>?_) (fun a ha=>?_) _ rfl) fun v hv=>ε.ret hv) fun v hv=>ε.ret (by rw [hv])
 ·unfold FU Kl
  have aS:a.length≤k:=by rw [ha];exact fo (mh _ _) (by rw [dN];omega)
  refine ε.cond (by simpa using Φ) ?_;dsimp only;rw [cq hx,cm,W5 _ _ _ (by omega),cm,cm];unfold zA at *;by_cases aQ:rO (oB s i) x.kG x.iA=true
  ·rw [if_pos aQ];exact ε.af (gq (by simp only [cZ,gM];omega)) (ε.Ψ (by unfold Ξ;omega) (ε.inl ⟨rfl,by rw [rQ hx,uh,←ha,ij,if_pos aQ];rfl⟩))
  ·rw [if_neg aQ];exact ε.af rfl (ε.Ψ (by unfold Ξ;omega) (ε.inl ⟨rfl,by rw [rQ hx,uh,←ha,ij,if_neg aQ];simp⟩))
 ·unfold FU;rw [jr] at ha;exact ε.cD (by simp) (ε.out (ε.ret ha))
def alF (s:bx) (n:UInt8):Int:=match s.aR[n.toNat % (s.aR.length+1)]? with|some x=>x.Id|none=>agJ .i64 (n.toNat:Int) 8
structure SI (k:Nat) (s:bx):Prop where
 f:TF (2+5*k) s.Γ
 t:TS s.Γ
 si:s.aU.length=s.Γ.η.length
 tk:0≤s.aY∧s.aY≤k
 nx:1≤s.Next∧s.Next≤(k:Int)+1
 sn:∀q,q∈s.aU→0≤q∧q≤s.aY
 ta:s.aR.length≤k
 ps:s.aO.length≤2000*k
 pe:∀p,p∈s.aO→p.eL.Ω.length≤2+5*k
 id:s.aR.Pairwise (fun x y=>x.Id<y.Id)
 ti:∀x,x∈s.aR→(1≤x.Id∧x.Id<s.Next)∧0≤x.At∧x.At≤s.aY
 pt:∀p,p∈s.aO→(0≤p.kG∧p.kG<p.iA∧p.iA≤s.aY)∧rO s.aR p.kG p.iA=true
section
variable {k:Nat} {s:bx}
def SI.up (h:SI k s) {j:Nat} (hj:k≤j):SI j s :=
 ⟨h.f.up (by omega),h.t,h.si,by have:=h.tk;omega,by have:=h.nx;omega,h.sn,by have:=h.ta;omega,by have:=h.ps;omega,fun p hp=>by have:=h.pe p hp;omega,h.id,h.ti,h.pt⟩
def ahB {l m:List bb} {f u:Int} (h:rO l f u=true) (hs:∀x,x∈l→x∈m):rO m f u=true:=by
 unfold rO at *;rw [C7] at *;obtain ⟨x,hx,hp⟩:=h;exact ⟨x,hs x hx,hp⟩
def SI.take (h:SI k s) (i:Int):SI (k+1) (oa s i).1:=by
 have h0:=h.up (j:=k+1) (by omega);have fT:=h.tk;have hnx:=h.nx;unfold oa;split
 ·exact h0
 split
 ·exact h0
 split
 ·exact h0
 refine ⟨h0.f,h.t,h.si,h0.tk,by dsimp only;omega,h.sn,by have:=h.ta;simp;omega,h0.ps,h0.pe,?_,fun x hx=>?_,fun p hp=>⟨(h.pt p hp).1,ahB (h.pt p hp).2 fun x hx=>qM _ hx⟩⟩
 ·refine vI.2 ⟨h.id,vK _ _,fun x hx y hy=>?_⟩;obtain rfl:=dB.1 hy;have:=h.ti x hx;dsimp only;omega
 ·rcases gp.1 hx with hx|hx
  ·have:=h.ti x hx;dsimp only;omega
  ·obtain rfl:=dB.1 hx;dsimp only;omega
def SI.drop (h:SI k s) (i:Int):SI k (pf s i).1:=by
 unfold pf;split
 ·exact h
 refine ⟨h.f,h.t,h.si,h.tk,h.nx,h.sn,by have:=h.ta;have:=S8 s i;dsimp only;omega,?_,fun p hp=>h.pe p (eD.1 hp).1,h.id.filter _,fun x hx=>h.ti x (eD.1 hx).1,fun p hp=>⟨(h.pt p (eD.1 hp).1).1,(eD.1 hp).2⟩⟩;have:=h.ps;have:=mh (fun p=>rO (oB s i) p.kG p.iA) s.aO;unfold zA;dsimp only;omega
end
def QB:θ:=⟨[⟨1,2,0,[],[],1⟩],2,1⟩
def Co:bx:=⟨QB,0,[0],[],[],1⟩
def Sh:SI 0 Co:=by
 refine ⟨⟨by decide,fun n hn=>?_,fun n hn=>?_,by decide,by decide⟩,⟨vK _ _,fun n hn=>?_,⟨_,rfl,rfl⟩,fun n hn e he=>?_⟩,rfl,by decide,by decide,fun q hq=>?_,by decide,by decide,fun p hp=>(by cases hp),j1,fun x hx=>(by cases hx),fun p hp=>(by cases hp)⟩;iterate 3 (obtain rfl:=dB.1 hn;decide)
 ·obtain rfl:=dB.1 hn;cases he
 ·obtain rfl:=dB.1 hq;decide
def flat (s:bx):List ξ×Int×Int×Int×List Int×List bp×List bb×Int:=(s.Γ.η,s.Γ.Next,s.Γ.aj,s.aY,s.aU,s.aO,s.aR,s.Next)
end
section
def Hy:∀x:List UInt8,fX x x=false
 |[]=>rfl
 |a::x=>by
  have:=Hy x;simp only [fX,this,Bool.and_false,Bool.or_false];simp
def L5:∀{x y z:List UInt8},fX x y=true→fX y z=true→fX x z=true
 |[],_,[],_,h=>by cases ‹List UInt8›<;>simp [fX] at h
 |[],_,_::_,_,_=>rfl
 |_::_,[],_,h,_=>by simp [fX] at h
 |_::_,_::_,[],_,h=>by simp [fX] at h
 |a::x,b::y,c::z,h1,h2=>by
  simp only [fX,ug,bJ,decide_eq_true_eq,beq_iff_eq] at *
  rcases h1 with h1|⟨rfl,h1⟩<;>rcases h2 with h2|⟨rfl,h2⟩
  ·exact .inl (UInt8.lt_trans h1 h2)
  ·exact .inl h1
  ·exact .inl h2
  ·exact .inr ⟨rfl,L5 h1 h2⟩
def Sv:∀x y:List UInt8,fX x y=true∨x=y∨fX y x=true
 |[],[]=>.inr (.inl rfl)
 |[],_::_=>.inl rfl
 |_::_,[]=>.inr (.inr rfl)
 |a::x,b::y=>by
  simp only [fX,ug,bJ,decide_eq_true_eq,beq_iff_eq]
  rcases Lx a.toNat b.toNat with h|h|h
  ·exact .inl (.inl (aan.2 h))
  ·have:a=b:=UInt8.toNat_inj.1 h;subst this
   rcases Sv x y with h|h|h
   ·exact .inl (.inr ⟨rfl,h⟩)
   ·exact .inr (.inl (by rw [h]))
   ·exact .inr (.inr (.inr ⟨rfl,h⟩))
  ·exact .inr (.inr (.inl (aan.2 h)))
def cE (l:List aP) (i:Int):Nat:=l.countP fun e=>e.κ==i
def dJ (l:List ξ) (i:Int):Nat:=(l.map fun n=>cE n.Ω i).sum
def vX {l:List aP} {i:Int}:0<cE l i↔∃e,e∈l∧e.κ=i:=by
 unfold cE;rw [List.countP_pos_iff];simp
def Dx {l:List ξ} {i:Int}:0<dJ l i↔∃n,n∈l∧∃e,e∈n.Ω∧e.κ=i:=by
 induction l with
 |nil=>simp [dJ]
 |cons x l ih =>
  have:dJ (x::l) i=cE x.Ω i+dJ l i:=by simp [dJ]
  rw [this];constructor
  ·intro h
   rcases oY (cE x.Ω i) with h0|h0
   ·obtain ⟨n,hn,h⟩:=ih.1 (by omega);exact ⟨n,cj _ hn,h⟩
   ·exact ⟨x,by simp,vX.1 h0⟩
  ·rintro ⟨n,hn,h⟩
   rcases bj.1 hn with rfl|hn
   ·have:=vX.2 h;omega
   ·have:=ih.2 ⟨n,hn,h⟩;omega
def yn (x:ξ) (l:List ξ) (i:Int):dJ (x::l) i=cE x.Ω i+dJ l i:=by simp [dJ]
def TM (x:ξ) (l:List ξ) (i:Int):gD (x::l) i=if x.κ=i then x else gD l i:=by
 unfold gD;rw [q6];split<;>rfl
def SO {l:List ξ} (h:d_ l) (j i:Int):dJ (l.filter (fun x=>x.κ != j)) i+cE (gD l j).Ω i=dJ l i:=by
 induction l with
 |nil=>rfl
 |cons x l ih =>
  obtain ⟨h1,h2⟩:=eK.1 h;rw [ij,yn,TM];by_cases e:x.κ=j
  ·have:l.filter (fun x=>x.κ != j)=l:=by
    rw [ui];intro y hy;have:=h1 y hy;simp;omega
   rw [if_neg (by simp [e]),if_pos e,this];omega
  ·rw [if_pos (by simpa using e),if_neg e,yn,←ih h2];omega
def Dy {n:ξ} (i:Int):∀{l:List ξ},d_ l→dJ (cG n l) i+cE (gD l n.κ).Ω i=dJ l i+cE n.Ω i
 |[],_=>by
  show dJ [n] i+cE jX.Ω i=dJ [] i+cE n.Ω i;rw [yn];simp [dJ,jX,cE]
 |x::r,h=>by
  obtain ⟨h1,h2⟩:=eK.1 h;rw [B4];by_cases e:x.κ≥n.κ
  ·rw [if_pos e,yn];have:=SO h n.κ i;omega
  ·rw [if_neg e,yn,yn,TM,if_neg (by omega)];have:=Dy (n:=n) i h2;omega
def JV {n:ξ}:∀{l:List ξ},d_ l→(gN l n.κ).isSome=true→(cG n l).length=l.length
 |[],_,hp=>by simp [gN] at hp
 |x::r,h,hp=>by
  obtain ⟨h1,h2⟩:=eK.1 h;rw [B4];rw [q6] at hp;by_cases e:x.κ≥n.κ
  ·rw [if_pos e];by_cases e2:x.κ=n.κ
   ·have:r.filter (fun y=>y.κ != n.κ)=r:=by
     rw [ui];intro y hy;have:=h1 y hy;simp;omega
    rw [ij,if_neg (by simp [e2]),this];rfl
   ·rw [if_neg e2] at hp;obtain ⟨m,hm⟩:=nt.1 hp;have:=dQ hm;have:=h1 m this.1;omega
  ·rw [if_neg e];rw [if_neg (by omega)] at hp;simp only [cZ,JV h2 hp]
inductive Deep (l:List ξ):Int→Nat→Prop
 |root:Deep l 1 0
 |step {i:Int} {n:ξ} {d:Nat}:i≠1→gN l i=some n→n.τ=2→Deep l n.Up d→Deep l i (d+1)
def Deep.uniq {l:List ξ} {i:Int} {a:Nat} (h:Deep l i a):∀{b:Nat},Deep l i b→a=b:=by
 induction h with
 |root=>intro b hb;cases hb with|root=>rfl|step h1=>exact absurd rfl h1
 |step h1 h2 h3 h4 ih =>
  intro b hb;cases hb with
  |root=>exact absurd rfl h1
  |step g1 g2 g3 g4=>rw [h2] at g2;cases g2;rw [ih g4]
def Deep.congr {l l':List ξ} (H:∀j n,gN l j=some n→n.τ=2→∃n',gN l' j=some n'∧n'.τ=n.τ∧n'.Up=n.Up) {i:Int} {d:Nat} (h:Deep l i d):Deep l' i d:=by
 induction h with
 |root=>exact .root
 |step h1 h2 h3 h4 ih =>
  obtain ⟨n',e1,e2,e3⟩:=H _ _ h2 h3;exact .step h1 e1 (by rw [e2,h3]) (by rw [e3];exact ih)
structure xO (c:Int) (l:List aP):Prop where
 n:l.length≤64
 s:l.Pairwise fun a b=>fX a.aN b.aN=true
 r:∀e,e∈l→f_ e.aN=true∧1≤e.aj∧e.aj<c
 k:l.Pairwise fun a b=>a.aj≠b.aj
def R_ (l:List ξ) (δ:Int→Nat) (n:ξ):Prop:=n.τ=1∧n.Ω=[]∧n.Up=0∧n.az.length≤4096∧n.a_=(dJ l n.κ:Int)+δ n.κ
def Sf (l:List ξ) (δ:Int→Nat) (n:ξ):Prop:=n.κ=1∧n.Up=1∧n.a_=0∧dJ l 1=0∧δ 1=0
def LM (l:List ξ) (δ:Int→Nat) (n:ξ):Prop:=n.κ≠1∧dJ l n.κ+δ n.κ=1∧n.a_=1∧(δ n.κ=0→∃p,gN l n.Up=some p∧∃e,e∈p.Ω∧e.κ=n.κ)
def xS (l:List ξ) (δ:Int→Nat) (n:ξ):Prop:=R_ l δ n∨(n.τ=2∧n.az=[]∧(Sf l δ n∨LM l δ n))
structure W (t:θ) (δ:Int→Nat):Prop where
 s:d_ t.η
 lo:∀n,n∈t.η→1≤n.κ∧n.κ<t.Next
 rt:∃n,gN t.η 1=some n∧n.τ=2
 len:t.η.length≤200
 ck:1≤t.aj
 en:∀n,n∈t.η→xO t.aj n.Ω
 cl:∀n,n∈t.η→∀e,e∈n.Ω→(gN t.η e.κ).isSome=true
 nd:∀n,n∈t.η→xS t.η δ n
 dp:∀n,n∈t.η→n.τ=2→∃d,Deep t.η n.κ d∧d≤12∧(d=12→n.Ω=[])
def xS.kind {l:List ξ} {δ:Int→Nat} {n:ξ} (h:xS l δ n):n.τ=1∨n.τ=2:=by
 rcases h with h|h
 ·exact .inl h.1
 ·exact .inr h.1
section
variable {t:θ} {δ:Int→Nat}
def W.nx (h:W t δ):1<t.Next:=by
 obtain ⟨n,hn,-⟩:=h.rt;have:=dQ hn;have h1:=h.lo n this.1;omega
def W.get (h:W t δ) {i:Int} {n:ξ} (hn:gN t.η i=some n):n∈t.η∧n.κ=i∧gD t.η i=n:=⟨(dQ hn).1,(dQ hn).2,by unfold gD;rw [hn];rfl⟩
def W.dir (h:W t δ) {n:ξ} (hn:n∈t.η) (hk:n.τ=2):Sf t.η δ n∨LM t.η δ n:=by
 rcases h.nd n hn with h|h
 ·exact absurd h.1 (by omega)
 ·exact h.2.2
def W.file (h:W t δ) {n:ξ} (hn:n∈t.η) (hk:n.τ≠2):R_ t.η δ n:=by
 rcases h.nd n hn with h|h
 ·exact h
 ·exact absurd h.1 hk
def W.one (h:W t δ) {n:ξ} (hn:n∈t.η) (h1:n.κ=1):n.τ=2:=by
 obtain ⟨r,hr,hk⟩:=h.rt;have:=dQ hr;rw [Cu h.s hn this.1 (by rw [h1,this.2])];exact hk
def W.Jx (h:W t δ):dJ t.η 1=0∧δ 1=0:=by
 obtain ⟨r,hr,hk⟩:=h.rt;have:=dQ hr
 rcases h.dir this.1 hk with h2|h2
 ·exact h2.2.2.2
 ·exact absurd this.2 h2.1
def W.O1 (h:W t δ) {n:ξ} (hn:n∈t.η) {e:aP} (he:e∈n.Ω):e.κ≠1:=by
 intro h1;have:0<dJ t.η 1:=Dx.2 ⟨n,hn,e,he,h1⟩;have:=h.Jx.1;omega
def W.Tf (h:W t δ) {m:ξ} (hm:m∈t.η) (hk:m.τ=2) {E:List aP} {c:Int} {ib:Int→Nat} (hc:t.aj≤c) (hE:xO c E)
  (di:∀e,e∈E→(gN t.η e.κ).isSome=true) (wD:∀i,cE E i+ib i=cE m.Ω i+δ i)
  (Om:∀q,q∈t.η→q.τ=2→0<δ q.κ→ib q.κ=0→q.Up=m.κ)
  (yN:E=[]∨m.Ω≠[]∨∃d,Deep t.η m.κ d∧d<12):W ⟨cG ⟨m.κ,m.τ,m.a_,m.az,E,m.Up⟩ t.η,t.Next,c⟩ ib:=by
 have hg:gN t.η m.κ=some m:=yB h.s hm;have eu:gD t.η m.κ=m:=(h.get hg).2.2;have eQ:=h.ck
 have jP:∀i,dJ (cG ⟨m.κ,m.τ,m.a_,m.az,E,m.Up⟩ t.η) i+ib i=dJ t.η i+δ i:=fun i=>by
  have h1:=Dy (n:=⟨m.κ,m.τ,m.a_,m.az,E,m.Up⟩) i h.s;have h2:=wD i;dsimp only at h1;rw [eu] at h1;omega
 have iE:∀i,gN (cG ⟨m.κ,m.τ,m.a_,m.az,E,m.Up⟩ t.η) i=if i=m.κ then some ⟨m.κ,m.τ,m.a_,m.az,E,m.Up⟩ else gN t.η i:=fun i=>lH _ i _
 have wV:∀i,(gN t.η i).isSome=true→(gN (cG ⟨m.κ,m.τ,m.a_,m.az,E,m.Up⟩ t.η) i).isSome=true:=fun i hi=>by
  rw [iE];split;rfl;exact hi
 have bC:∀{y},y∈cG ⟨m.κ,m.τ,m.a_,m.az,E,m.Up⟩ t.η→y=⟨m.κ,m.τ,m.a_,m.az,E,m.Up⟩∨(y∈t.η∧y.κ≠m.κ):=tC;have bw:=h.Jx
 have uH:∀{i d},Deep t.η i d→Deep (cG ⟨m.κ,m.τ,m.a_,m.az,E,m.Up⟩ t.η) i d:=fun hd=>hd.congr fun j n hj _=>by
  rw [iE];by_cases e:j=m.κ
  ·rw [if_pos e];rw [e,hg] at hj;cases hj;exact ⟨_,rfl,rfl,rfl⟩
  ·rw [if_neg e];exact ⟨n,hj,rfl,rfl⟩
 have UX:∀q,q∈t.η→∀q':ξ,q'.κ=q.κ→q'.τ=q.τ→q'.Up=q.Up→q'.a_=q.a_→q'.az=q.az→(q.τ=1→q'.Ω=[])→xS (cG ⟨m.κ,m.τ,m.a_,m.az,E,m.Up⟩ t.η) ib q':=by
  intro q hq q' e1 e2 e3 e4 e5 e6
  rcases h.nd q hq with hf|⟨fx,yO,hr|hd⟩
  ·refine .inl ⟨by rw [e2,hf.1],e6 hf.1,by rw [e3,hf.2.2.1],by rw [e5];exact hf.2.2.2.1,?_⟩;have:=hf.2.2.2.2;have:=jP q.κ;rw [e4,e1];omega
  ·refine .inr ⟨by rw [e2,fx],by rw [e5,yO],.inl ⟨by rw [e1,hr.1],by rw [e3,hr.2.1],by rw [e4,hr.2.2.1],?_,?_⟩⟩<;>(have:=jP 1;omega)
  ·refine .inr ⟨by rw [e2,fx],by rw [e5,yO],.inr ⟨by rw [e1];exact hd.1,by rw [e1,jP];exact hd.2.1,by rw [e4];exact hd.2.2.1,fun h0=>?_⟩⟩;rw [e1] at h0;rw [e3,e1];have Vb:=wD q.κ
   rcases oY (δ q.κ) with hz|hz
   ·obtain ⟨p,hp,e,he,yP⟩:=hd.2.2.2 hz;by_cases Bz:q.Up=m.κ
    ·refine ⟨_,by rw [iE,if_pos Bz],?_⟩;rw [Bz,hg] at hp;cases hp;have:0<cE m.Ω q.κ:=vX.2 ⟨e,he,yP⟩;exact vX.1 (by dsimp only;omega)
    ·exact ⟨p,by rw [iE,if_neg Bz,hp],e,he,yP⟩
   ·have hu:=Om q hq fx hz h0;refine ⟨_,by rw [iE,if_pos hu],?_⟩;exact vX.1 (by dsimp only;omega)
 refine ⟨zP h.s,fun n hn=>?_,?_,?_,by dsimp only;omega,fun n hn=>?_,fun n hn e he=>?_,fun n hn=>?_,fun n hn cJ=>?_⟩
 ·rcases bC hn with rfl|⟨hn,-⟩
  ·exact h.lo m hm
  ·exact h.lo n hn
 ·obtain ⟨r,hr,kZ⟩:=h.rt;dsimp only;rw [iE];by_cases e:1=m.κ
  ·exact ⟨⟨m.κ,m.τ,m.a_,m.az,E,m.Up⟩,by rw [if_pos e],hk⟩
  ·exact ⟨r,by rw [if_neg e,hr],kZ⟩
 ·dsimp only;rw [JV h.s (by dsimp only;rw [hg];rfl)];exact h.len
 ·rcases bC hn with rfl|⟨hn,-⟩
  ·exact hE
  ·have:=h.en n hn;exact ⟨this.n,this.s,fun e he=>⟨(this.r e he).1,by have:=(this.r e he).2;dsimp only;omega⟩,this.k⟩
 ·rcases bC hn with rfl|⟨hn,-⟩
  ·exact wV _ (di e he)
  ·exact wV _ (h.cl n hn e he)
 ·rcases bC hn with rfl|⟨hn,-⟩
  ·exact UX m hm _ rfl rfl rfl rfl rfl (fun e=>by omega)
  ·exact UX n hn n rfl rfl rfl rfl rfl (fun e=>by
    rcases h.nd n hn with hf|hf
    ·exact hf.2.1
    ·have:=hf.1;omega)
 ·rcases bC hn with rfl|⟨hn,-⟩
  ·obtain ⟨d,h1,h2,h3⟩:=h.dp m hm hk;refine ⟨d,uH h1,h2,fun e=>?_⟩
   rcases yN with h4|h4|⟨d',h4,h5⟩
   ·exact h4
   ·exact absurd (h3 e) h4
   ·have:=h1.uniq h4;omega
  ·obtain ⟨d,h1,h2,h3⟩:=h.dp n hn cJ;exact ⟨d,uH h1,h2,h3⟩
end
end
section
section
variable {t:θ} {δ ib:Int→Nat}
def xS.congr {l l':List ξ} {n:ξ} (h:xS l δ n) (hc:dJ l' n.κ=dJ l n.κ) (h1:dJ l' 1=dJ l 1) (hd:ib n.κ=δ n.κ) (Ng:ib 1=δ 1) (hp:∀p,gN l n.Up=some p→n.κ≠1→n.τ=2→∃p',gN l' n.Up=some p'∧p'.Ω=p.Ω):xS l' ib n:=by
 rcases h with h|⟨hk,yO,h|h⟩
 ·exact .inl ⟨h.1,h.2.1,h.2.2.1,h.2.2.2.1,by rw [hc,hd];exact h.2.2.2.2⟩
 ·exact .inr ⟨hk,yO,.inl ⟨h.1,h.2.1,h.2.2.1,by rw [h1];exact h.2.2.2.1,by rw [Ng];exact h.2.2.2.2⟩⟩
 ·refine .inr ⟨hk,yO,.inr ⟨h.1,by rw [hc,hd];exact h.2.1,h.2.2.1,fun h0=>?_⟩⟩;rw [hd] at h0;obtain ⟨p,h2,h3⟩:=h.2.2.2 h0;obtain ⟨p',h4,h5⟩:=hp p h2 h.1 hk;exact ⟨p',h4,by rw [h5];exact h3⟩
def W.of_eq (h:W t δ) (he:∀i,ib i=δ i):W t ib:=by
 have:ib=δ:=funext he;rw [this];exact h
def W.Mz (h:W t δ) {m:ξ} (hm:m∈t.η) (hk:m.τ≠2) {L:Int} {D:List UInt8} (hD:D.length≤4096) (hd:∀i,i≠m.κ→ib i=δ i) (hL:L=(dJ t.η m.κ:Int)+ib m.κ):W ⟨cG ⟨m.κ,m.τ,L,D,m.Ω,m.Up⟩ t.η,t.Next,t.aj⟩ ib:=by
 have hg:gN t.η m.κ=some m:=yB h.s hm;have eu:gD t.η m.κ=m:=(h.get hg).2.2;have hf:=h.file hm hk;have iQ:m.κ≠1:=fun e=>hk (h.one hm e)
 have jP:∀i,dJ (cG ⟨m.κ,m.τ,L,D,m.Ω,m.Up⟩ t.η) i=dJ t.η i:=fun i=>by
  have h1:=Dy (n:=⟨m.κ,m.τ,L,D,m.Ω,m.Up⟩) i h.s;dsimp only at h1;rw [eu] at h1;omega
 have iE:∀i,gN (cG ⟨m.κ,m.τ,L,D,m.Ω,m.Up⟩ t.η) i=if i=m.κ then some ⟨m.κ,m.τ,L,D,m.Ω,m.Up⟩ else gN t.η i:=fun i=>lH _ i _
 have UB:∀i p,gN t.η i=some p→∃p',gN (cG ⟨m.κ,m.τ,L,D,m.Ω,m.Up⟩ t.η) i=some p'∧p'.Ω=p.Ω∧p'.τ=p.τ∧p'.Up=p.Up:=fun i p hp=>by
  by_cases e:i=m.κ
  ·rw [e,hg] at hp;cases hp;exact ⟨⟨m.κ,m.τ,L,D,m.Ω,m.Up⟩,by rw [iE,if_pos e],rfl,rfl,rfl⟩
  ·exact ⟨p,by rw [iE,if_neg e,hp],rfl,rfl,rfl⟩
 have wV:∀i,(gN t.η i).isSome=true→(gN (cG ⟨m.κ,m.τ,L,D,m.Ω,m.Up⟩ t.η) i).isSome=true:=fun i hi=>by
  rw [iE];split;rfl;exact hi
 have bC:∀{y},y∈cG ⟨m.κ,m.τ,L,D,m.Ω,m.Up⟩ t.η→y=⟨m.κ,m.τ,L,D,m.Ω,m.Up⟩∨(y∈t.η∧y.κ≠m.κ):=tC
 have uH:∀{i d},Deep t.η i d→Deep (cG ⟨m.κ,m.τ,L,D,m.Ω,m.Up⟩ t.η) i d:=fun hd=>hd.congr fun j n hj _=>by
  obtain ⟨p',h1,-,h2,h3⟩:=UB j n hj;exact ⟨p',h1,h2,h3⟩
 refine ⟨zP h.s,fun n hn=>?_,?_,?_,h.ck,fun n hn=>?_,fun n hn e he=>?_,fun n hn=>?_,fun n hn cJ=>?_⟩
 ·rcases bC hn with rfl|⟨hn,-⟩
  ·exact h.lo m hm
  ·exact h.lo n hn
 ·obtain ⟨r,hr,kZ⟩:=h.rt;exact ⟨r,by dsimp only;rw [iE,if_neg (j4 iQ),hr],kZ⟩
 ·dsimp only;rw [JV h.s (by dsimp only;rw [hg];rfl)];exact h.len
 ·rcases bC hn with rfl|⟨hn,-⟩
  ·exact h.en m hm
  ·exact h.en n hn
 ·rcases bC hn with rfl|⟨hn,-⟩
  ·exact wV _ (h.cl m hm e he)
  ·exact wV _ (h.cl n hn e he)
 ·rcases bC hn with rfl|⟨hn,aQ⟩
  ·exact .inl ⟨hf.1,hf.2.1,hf.2.2.1,hD,by dsimp only;rw [jP];exact hL⟩
  ·refine (h.nd n hn).congr (jP _) (jP _) (hd _ aQ) (hd _ (j4 iQ)) fun p hp _ _=>?_;obtain ⟨p',h1,h2,-⟩:=UB _ p hp;exact ⟨p',h1,h2⟩
 ·rcases bC hn with rfl|⟨hn,-⟩
  ·exact absurd cJ hk
  ·obtain ⟨d,h1,h2,h3⟩:=h.dp n hn cJ;exact ⟨d,uH h1,h2,h3⟩
def W.gone (h:W t δ) {m:ξ} (hm:m∈t.η) (iQ:m.κ≠1) (hE:m.Ω=[]) (hc:dJ t.η m.κ=0) (hu:∀q,q∈t.η→q.τ=2→q.κ≠1→q.κ≠m.κ→q.Up≠m.κ) (hd:∀i,i≠m.κ→ib i=δ i):W ⟨t.η.filter (fun x=>x.κ != m.κ),t.Next,t.aj⟩ ib:=by
 have hg:gN t.η m.κ=some m:=yB h.s hm;have eu:gD t.η m.κ=m:=(h.get hg).2.2
 have jP:∀i,dJ (t.η.filter (fun x=>x.κ != m.κ)) i=dJ t.η i:=fun i=>by
  have h1:=SO h.s m.κ i;rw [eu,hE] at h1;simp [cE] at h1;exact h1
 have iE:∀i,gN (t.η.filter (fun x=>x.κ != m.κ)) i=if i=m.κ then none else gN t.η i:=fun i=>A1 _ _ _
 have bC:∀{y},y∈t.η.filter (fun x=>x.κ != m.κ)→y∈t.η∧y.κ≠m.κ:=fun hy=>by
  have:=eD.1 hy;exact ⟨this.1,by simpa using this.2⟩
 have uH:∀{i d},Deep t.η i d→i≠m.κ→Deep (t.η.filter (fun x=>x.κ != m.κ)) i d:=by
  intro i d hd;induction hd with
  |root=>intro _;exact .root
  |@step i n d h1 h2 h3 h4 ih =>
   intro aQ;have:=dQ h2;exact .step h1 (by rw [iE,if_neg aQ,h2]) h3 (ih (hu n this.1 h3 (by rw [this.2];exact h1) (by rw [this.2];exact aQ)))
 refine ⟨Tp h.s _,fun n hn=>h.lo n (bC hn).1,?_,?_,h.ck,fun n hn=>h.en n (bC hn).1,fun n hn e he=>?_,fun n hn=>?_,fun n hn cJ=>?_⟩
 ·obtain ⟨r,hr,kZ⟩:=h.rt;exact ⟨r,by dsimp only;rw [iE,if_neg (j4 iQ),hr],kZ⟩
 ·exact fo (mh _ _) h.len
 ·have hn:=(bC hn).1;dsimp only;rw [iE,if_neg ?_]
  ·exact h.cl n hn e he
  ·intro h1;have:0<dJ t.η m.κ:=Dx.2 ⟨n,hn,e,he,h1⟩;omega
 ·obtain ⟨hn,aQ⟩:=bC hn;refine (h.nd n hn).congr (jP _) (jP _) (hd _ aQ) (hd _ (j4 iQ)) fun p hp h1 hk=>⟨p,?_,rfl⟩;rw [iE,if_neg (hu n hn hk h1 aQ),hp]
 ·obtain ⟨hn,aQ⟩:=bC hn;obtain ⟨d,h1,h2,h3⟩:=h.dp n hn cJ;exact ⟨d,uH h1 aQ,h2,h3⟩
def W.new (h:W t δ) (hl:t.η.length<200) {k u:Int} (hk:k=1∧u=0∨k=2∧∃d,Deep t.η u d∧d<12) (h0:δ t.Next=0) (hd:∀i,ib i=δ i+if i=t.Next then 1 else 0):W ⟨cG ⟨t.Next,k,1,[],[],u⟩ t.η,t.Next+1,t.aj⟩ ib:=by
 have hx:=h.nx
 have bw:gN t.η t.Next=none:=yC.2 fun n hn e=>by have:=h.lo n hn;omega
 have eu:gD t.η t.Next=jX:=by unfold gD;rw [bw];rfl
 have jP:∀i,dJ (cG ⟨t.Next,k,1,[],[],u⟩ t.η) i=dJ t.η i:=fun i=>by
  have h1:=Dy (n:=⟨t.Next,k,1,[],[],u⟩) i h.s;dsimp only at h1;rw [eu] at h1;simp [cE,jX] at h1;exact h1
 have Ur:dJ t.η t.Next=0:=by
  rcases oY (dJ t.η t.Next) with h1|h1
  ·exact h1
  ·obtain ⟨n,hn,e,he,yP⟩:=Dx.1 h1;have:=h.cl n hn e he;rw [yP,bw] at this;cases this
 have iE:∀i,gN (cG ⟨t.Next,k,1,[],[],u⟩ t.η) i=if i=t.Next then some ⟨t.Next,k,1,[],[],u⟩ else gN t.η i:=fun i=>lH _ i _
 have wJ:∀i p,gN t.η i=some p→gN (cG ⟨t.Next,k,1,[],[],u⟩ t.η) i=some p:=fun i p hp=>by
  rw [iE,if_neg,hp];intro e;rw [e,bw] at hp;cases hp
 have bC:∀{y},y∈cG ⟨t.Next,k,1,[],[],u⟩ t.η→y=⟨t.Next,k,1,[],[],u⟩∨(y∈t.η∧y.κ≠t.Next):=tC;have uH:∀{i d},Deep t.η i d→Deep (cG ⟨t.Next,k,1,[],[],u⟩ t.η) i d:=fun hd=>hd.congr fun j n hj _=>⟨n,wJ j n hj,rfl,rfl⟩;refine ⟨zP h.s,fun n hn=>?_,?_,?_,h.ck,fun n hn=>?_,fun n hn e he=>?_,fun n hn=>?_,fun n hn cJ=>?_⟩
 ·rcases bC hn with rfl|⟨hn,-⟩
  ·dsimp only;omega
  ·have:=h.lo n hn;dsimp only;omega
 ·obtain ⟨r,hr,kZ⟩:=h.rt;exact ⟨r,wJ _ _ hr,kZ⟩
 ·have:=Pn ⟨t.Next,k,1,[],[],u⟩ t.η;dsimp only;omega
 ·rcases bC hn with rfl|⟨hn,-⟩
  ·exact ⟨by simp,j1,fun e he=>(by cases he),j1⟩
  ·exact h.en n hn
 ·rcases bC hn with rfl|⟨hn,-⟩
  ·cases he
  ·obtain ⟨p,hp⟩:=nt.1 (h.cl n hn e he);dsimp only;rw [wJ _ _ hp];rfl
 ·rcases bC hn with rfl|⟨hn,aQ⟩
  ·have e1:ib t.Next=1:=by rw [hd,h0,if_pos rfl]
   rcases hk with ⟨h1,h2⟩|⟨h1,h2⟩
   ·exact .inl ⟨h1,rfl,h2,by simp,by dsimp only;rw [jP,Ur,e1];rfl⟩
   ·exact .inr ⟨h1,rfl,.inr ⟨by dsimp only;omega,by dsimp only;rw [jP,Ur,e1],rfl,fun h=>by dsimp only at h;omega⟩⟩
  ·exact (h.nd n hn).congr (jP _) (jP _) (by rw [hd,if_neg aQ];rfl) (by rw [hd,if_neg (by omega)];rfl) fun p hp _ _=>⟨p,wJ _ _ hp,rfl⟩
 ·rcases bC hn with rfl|⟨hn,-⟩
  ·rcases hk with ⟨h1,h2⟩|⟨h1,d,h2,h3⟩
   ·dsimp only at cJ;omega
   ·exact ⟨d+1,.step (by dsimp only;omega) (by rw [iE,if_pos rfl]) h1 (uH h2),by omega,fun _=>rfl⟩
  ·obtain ⟨d,h1,h2,h3⟩:=h.dp n hn cJ;exact ⟨d,uH h1,h2,h3⟩
inductive jt (l:List ξ) (x:Int):Int→Prop
 |refl:jt l x x
 |step {i:Int} {n:ξ}:i≠1→gN l i=some n→n.τ=2→jt l x n.Up→jt l x i
def Deep.Jz {l l':List ξ} {x:Int} (hg:∀i,i≠x→gN l' i=gN l i) {i:Int} {d:Nat} (h:Deep l i d):¬jt l x i→Deep l' i d:=by
 induction h with
 |root=>intro _;exact .root
 |@step i n d h1 h2 h3 h4 ih =>
  intro hu;have aQ:i≠x:=fun e=>hu (e▸.refl);exact .step h1 (by rw [hg i aQ,h2]) h3 (ih fun h=>hu (.step h1 h2 h3 h))
def jt.deep {l:List ξ} {x:Int} {dx:Nat} (hx:Deep l x dx) {i:Int} (h:jt l x i):∀{d:Nat},Deep l i d→dx≤d:=by
 induction h with
 |refl=>intro d hd;rw [hx.uniq hd];exact bG _
 |step h1 h2 h3 h4 ih =>
  intro d hd;cases hd with
  |root=>exact absurd rfl h1
  |step g1 g2 g3 g4=>rw [h2] at g2;cases g2;have:=ih g4;omega
def jt.aeL {l l':List ξ} {x:Int} {x':ξ} (hg:∀i,i≠x→gN l' i=gN l i) (Θ:x≠1) (gv:gN l' x=some x') (hk:x'.τ=2) {dt dx:Nat} (ht:Deep l' x'.Up dt) (hx:Deep l x dx) {i:Int} (h:jt l x i):∀{d:Nat},Deep l i d→Deep l' i (dt+1+(d-dx)):=by
 induction h with
 |refl=>intro d hd;rw [hx.uniq hd,Nat.sub_self];exact .step Θ gv hk ht
 |@step i n h1 h2 h3 h4 ih =>
  intro d hd;by_cases e:i=x
  ·subst e;rw [hx.uniq hd,Nat.sub_self];exact .step Θ gv hk ht
  ·cases hd with
   |root=>exact absurd rfl h1
   |@step _ n' d' g1 g2 g3 g4 =>
    rw [h2] at g2;cases g2;have h5:=ih g4;have h6:=h4.deep hx g4
    have:dt+1+(d'+1-dx)=dt+1+(d'-dx)+1:=by omega
    rw [this];exact .step h1 (by rw [hg i e,h2]) h3 h5
def W.aeM (h:W t δ) {m:ξ} (hm:m∈t.η) (hk:m.τ=2) (iQ:m.κ≠1) (hw:0<δ m.κ) {to:Int} {dt dx:Nat} (ht:Deep t.η to dt) (hx:Deep t.η m.κ dx) (wM:¬jt t.η m.κ to)
  (yN:∀n,n∈t.η→n.τ=2→jt t.η m.κ n.κ→∀d,Deep t.η n.κ d→dt+1+(d-dx)≤12∧(dt+1+(d-dx)=12→n.Ω=[])):W ⟨cG ⟨m.κ,m.τ,m.a_,m.az,m.Ω,to⟩ t.η,t.Next,t.aj⟩ δ:=by
 have hg:gN t.η m.κ=some m:=yB h.s hm;have eu:gD t.η m.κ=m:=(h.get hg).2.2
 have jP:∀i,dJ (cG ⟨m.κ,m.τ,m.a_,m.az,m.Ω,to⟩ t.η) i=dJ t.η i:=fun i=>by
  have h1:=Dy (n:=⟨m.κ,m.τ,m.a_,m.az,m.Ω,to⟩) i h.s;dsimp only at h1;rw [eu] at h1;omega
 have iE:∀i,gN (cG ⟨m.κ,m.τ,m.a_,m.az,m.Ω,to⟩ t.η) i=if i=m.κ then some ⟨m.κ,m.τ,m.a_,m.az,m.Ω,to⟩ else gN t.η i:=fun i=>lH _ i _
 have UD:gN (cG ⟨m.κ,m.τ,m.a_,m.az,m.Ω,to⟩ t.η) m.κ=some ⟨m.κ,m.τ,m.a_,m.az,m.Ω,to⟩:=by rw [iE,if_pos rfl]
 have wI:∀i,i≠m.κ→gN (cG ⟨m.κ,m.τ,m.a_,m.az,m.Ω,to⟩ t.η) i=gN t.η i:=fun i hi=>by rw [iE,if_neg hi]
 have wV:∀i,(gN t.η i).isSome=true→(gN (cG ⟨m.κ,m.τ,m.a_,m.az,m.Ω,to⟩ t.η) i).isSome=true:=fun i hi=>by
  rw [iE];split;rfl;exact hi
 have bC:∀{y},y∈cG ⟨m.κ,m.τ,m.a_,m.az,m.Ω,to⟩ t.η→y=⟨m.κ,m.τ,m.a_,m.az,m.Ω,to⟩∨(y∈t.η∧y.κ≠m.κ):=tC;have htt:Deep (cG ⟨m.κ,m.τ,m.a_,m.az,m.Ω,to⟩ t.η) to dt:=ht.Jz wI wM
 have ed:∀n,n∈t.η→n.τ=2→∃d,Deep (cG ⟨m.κ,m.τ,m.a_,m.az,m.Ω,to⟩ t.η) n.κ d∧d≤12∧(d=12→n.Ω=[]):=fun n hn yX=>by
  obtain ⟨d,h1,h2,h3⟩:=h.dp n hn yX;by_cases hu:jt t.η m.κ n.κ
  ·exact ⟨_,hu.aeL wI iQ UD hk htt hx h1,yN n hn yX hu d h1⟩
  ·exact ⟨d,h1.Jz wI hu,h2,h3⟩
 refine ⟨zP h.s,fun n hn=>?_,?_,?_,h.ck,fun n hn=>?_,fun n hn e he=>?_,fun n hn=>?_,fun n hn cJ=>?_⟩
 ·rcases bC hn with rfl|⟨hn,-⟩
  ·exact h.lo m hm
  ·exact h.lo n hn
 ·obtain ⟨r,hr,kZ⟩:=h.rt;exact ⟨r,by dsimp only;rw [wI _ (j4 iQ),hr],kZ⟩
 ·dsimp only;rw [JV h.s (by dsimp only;rw [hg];rfl)];exact h.len
 ·rcases bC hn with rfl|⟨hn,-⟩
  ·exact h.en m hm
  ·exact h.en n hn
 ·rcases bC hn with rfl|⟨hn,-⟩
  ·exact wV _ (h.cl m hm e he)
  ·exact wV _ (h.cl n hn e he)
 ·rcases bC hn with rfl|⟨hn,aQ⟩
  ·rcases h.dir hm hk with hr|hd
   ·exact absurd hr.1 iQ
   ·refine .inr ⟨hk,?_,.inr ⟨iQ,by dsimp only;rw [jP];exact hd.2.1,hd.2.2.1,fun h0=>by dsimp only at h0;omega⟩⟩
    rcases h.nd m hm with h5|h5
    ·exact absurd h5.1 (by omega)
    ·exact h5.2.1
  ·refine (h.nd n hn).congr (jP _) (jP _) rfl rfl fun p hp _ _=>?_;by_cases e:n.Up=m.κ
   ·rw [e,hg] at hp;cases hp;exact ⟨⟨m.κ,m.τ,m.a_,m.az,m.Ω,to⟩,by rw [e];exact UD,rfl⟩
   ·exact ⟨p,by rw [wI _ e,hp],rfl⟩
 ·rcases bC hn with rfl|⟨hn,-⟩
  ·exact ed m hm hk
  ·exact ed n hn cJ
end
end
section
def SB (e:aP) (i:Int):∀l,cE (nS e l) i=cE l i+if i=e.κ then 1 else 0
 |[]=>by
  unfold nS cE;by_cases h:i=e.κ
  ·simp [h]
  ·have:¬e.κ=i:=fun h'=>h h'.symm;simp [h,this]
 |x::r=>by
  have ih:=SB e i r;rw [EY];unfold cE at *;split
  ·rw [C9];by_cases h:i=e.κ
   ·simp [h]
   ·have:¬e.κ=i:=fun h'=>h h'.symm;simp [h,this]
  ·rw [C9,C9,ih];omega
def ad5 {c:Int} {l:List aP} (h:xO c l) {s:List UInt8} {o:Int} (hs:f_ s=true) (hc:1≤c) (hl:l.length<64) (bw:∀e,e∈l→e.aN≠s):xO (c+1) (nS ⟨s,o,c⟩ l):=by
 refine ⟨by rw [OE];omega,?_,fun e he=>?_,?_⟩
 ·have key:∀l:List aP,l.Pairwise (fun a b=>fX a.aN b.aN=true)→(∀e,e∈l→e.aN≠s)→(nS ⟨s,o,c⟩ l).Pairwise fun a b=>fX a.aN b.aN=true:=by
   intro l;induction l with
   |nil=>intro _ _;exact vK _ _
   |cons x r ih =>
    intro hp hn;obtain ⟨h1,h2⟩:=eK.1 hp;have nQ:=hn x (by simp);rw [EY];split
    ·next Bf =>
     have Bf:fX s x.aN=true:=by
      rcases Sv s x.aN with h|h|h
      ·exact h
      ·exact absurd h.symm nQ
      ·simp [h] at Bf
     refine eK.2 ⟨fun y hy=>?_,hp⟩
     rcases bj.1 hy with rfl|hy
     ·exact Bf
     ·exact L5 Bf (h1 y hy)
    ·next Bf =>
     have Φ:fX x.aN s=true:=by
      cases hb:fX x.aN s with
      |true=>rfl
      |false=>exact absurd (by simp [hb,nQ]) Bf
     refine eK.2 ⟨fun y hy=>?_,ih h2 fun e he=>hn e (cj _ he)⟩
     rcases BH.1 hy with rfl|hy
     ·exact Φ
     ·exact h1 y hy
  exact key l h.s bw
 ·rcases BH.1 he with rfl|he
  ·exact ⟨hs,by dsimp only;omega,by dsimp only;omega⟩
  ·exact ⟨(h.r e he).1,by have:=(h.r e he).2;omega⟩
 ·have key:∀l:List aP,l.Pairwise (fun a b=>a.aj≠b.aj)→(∀e,e∈l→e.aj≠c)→(nS ⟨s,o,c⟩ l).Pairwise fun a b=>a.aj≠b.aj:=by
   intro l;induction l with
   |nil=>intro _ _;exact vK _ _
   |cons x r ih =>
    intro hp hn;obtain ⟨h1,h2⟩:=eK.1 hp;rw [EY];split
    ·exact eK.2 ⟨fun y hy=>fun e=>hn y hy e.symm,hp⟩
    ·refine eK.2 ⟨fun y hy=>?_,ih h2 fun e he=>hn e (cj _ he)⟩
     rcases BH.1 hy with rfl|hy
     ·exact hn x (by simp)
     ·exact h1 y hy
  exact key l h.k fun e he=>by have:=(h.r e he).2;omega
def abW {c:Int} {l:List aP} (h:xO c l) (p:aP→Bool):xO c (l.filter p) :=
 ⟨fo (mh _ _) h.n,h.s.filter _,fun e he=>h.r e (eD.1 he).1,h.k.filter _⟩
def aaR {c:Int} {l:List aP} (h:xO c l) {s:List UInt8} {e:aP} (hf:l.find? (fun e=>e.aN==s)=some e) (i:Int):cE (l.filter fun e=>!(e.aN==s)) i+(if i=e.κ then 1 else 0)=cE l i:=by
 have key:∀l:List aP,l.Pairwise (fun a b=>fX a.aN b.aN=true)→l.find? (fun e=>e.aN==s)=some e→cE (l.filter fun e=>!(e.aN==s)) i+(if i=e.κ then 1 else 0)=cE l i:=by
  intro l;induction l with
  |nil=>intro _ h;cases h
  |cons x r ih =>
   intro hp hf;obtain ⟨h1,h2⟩:=eK.1 hp;rw [RM] at hf;rw [ij];cases hx:(x.aN==s) with
   |true =>
    rw [hx] at hf;cases hf
    have nQ:e.aN=s:=by simpa using hx
    have:r.filter (fun e=>!(e.aN==s))=r:=by
     rw [ui];intro y hy;have h3:=h1 y hy;cases s9:(y.aN==s) with
     |false=>rfl
     |true =>
      have uW:y.aN=s:=by simpa using s9
      rw [nQ,uW,Hy] at h3;cases h3
    rw [if_neg (by simp),this];unfold cE;rw [C9];by_cases hi:i=e.κ
    ·simp [hi]
    ·have:¬e.κ=i:=fun h'=>hi h'.symm;simp [hi,this]
   |false =>
    rw [hx] at hf;have:=ih h2 hf;rw [if_pos (show (!false)=true from rfl)];unfold cE at *;rw [C9,C9];omega
 exact key l h.s hf
def DC {l:List ξ} {i:Int} (h:(dF l i).2=0):∃m,gN l i=some m∧m.τ=2∧(dF l i).1=m∧gD l i=m:=by
 unfold dF at *;cases hg:gN l i with
 |none=>rw [hg] at h;cases h
 |some m =>
  have hd:gD l i=m:=by unfold gD;rw [hg];rfl
  rw [hg,hd] at h;by_cases hk:(m.τ != 2)=true
  ·simp [hk] at h
  ·rw [hd];refine ⟨m,rfl,by simpa using hk,?_,rfl⟩;simp [hk]
def look_ok {t:θ} {i:Int} {s:List UInt8} (h:(eV t i s).2=0):∃m e,gN t.η i=some m∧m.τ=2∧gD t.η i=m∧f_ s=true∧m.Ω.find? (fun e=>e.aN==s)=some e∧(eV t i s).1=e.κ:=by
 unfold eV at *;by_cases h1:((dF t.η i).2 != 0)=true
 ·rw [if_pos h1] at h;exact absurd h (by simpa using h1)
 rw [if_neg h1] at h ⊢;obtain ⟨m,h2,h3,h4,h5⟩:=DC (nw h1);by_cases h6:(!f_ s)=true
 ·rw [if_pos h6] at h;cases h
 rw [if_neg h6] at h ⊢;rw [h4] at h ⊢;cases hf:m.Ω.find? (fun e=>e.aN==s) with
 |none=>rw [hf] at h;cases h
 |some e=>exact ⟨m,e,h2,h3,h5,by simpa using h6,hf,rfl⟩
def aeT {l:List aP} {s:List UInt8} (h:(BQ l s).isSome=false):∀e,e∈l→e.aN≠s:=by
 unfold BQ at h;intro e he
 have:l.findIdx? (fun e=>e.aN==s)=none:=by cases hx:l.findIdx? (fun e=>e.aN==s)<;>simp_all
 rw [xE] at this;simpa using this e he
def Mg {l:List ξ} {i:Int} {d:Nat} (h:Deep l i d):∀{f:Nat},d≤f→iq l f i=d:=by
 induction h with
 |root =>
  intro f _;cases f with
  |zero=>rfl
  |succ f=>rw [SX,if_pos rfl]
 |@step i n d h1 h2 h3 h4 ih =>
  intro f hf;cases f with
  |zero=>omega
  |succ f =>
   have:gD l i=n:=by unfold gD;rw [h2];rfl
   rw [SX,if_neg h1,this,ih (by omega)]
def L0 {l:List ξ} {x i:Int} (h:jt l x i):∀{d f:Nat},Deep l i d→d<f→ye l x f i=true:=by
 induction h with
 |refl =>
  intro d f _ hf;cases f with
  |zero=>omega
  |succ f=>unfold ye;rw [if_pos (by simp)]
 |@step i n h1 h2 h3 h4 ih =>
  intro d f hd hf;cases f with
  |zero=>omega
  |succ f =>
   unfold ye;by_cases e:(i==x)=true
   ·rw [if_pos e]
   ·rw [if_neg e,if_neg (by simpa using h1)]
    have:gD l i=n:=by unfold gD;rw [h2];rfl
    rw [this];cases hd with
    |root=>exact absurd rfl h1
    |step g1 g2 g3 g4=>rw [h2] at g2;cases g2;exact ih g4 (by omega)
def YM {l:List ξ} {x:Int}:∀{f d:Nat} {i:Int},Deep l i d→ye l x f i=true→jt l x i
 |0,_,_,_,h=>by cases h
 |f+1,d,i,hd,h=>by
  unfold ye at h;by_cases e:(i==x)=true
  ·have:i=x:=by simpa using e
   rw [this];exact .refl
  ·rw [if_neg e] at h;by_cases e1:(i==1)=true
   ·rw [if_pos e1] at h;cases h
   ·rw [if_neg e1] at h;cases hd with
    |root=>simp at e1
    |step g1 g2 g3 g4 =>
     rename_i n _
     have:gD l i=n:=by unfold gD;rw [g2];rfl
     rw [this] at h;exact .step g1 g2 g3 (YM g4 h)
def yp:∀{d:Nat} {l:List ξ} {i:Int},Deep l i d→d≤l.length
 |0,_,_,_=>lX _
 |d+1,l,i,h=>by
  cases h with
  |step h1 h2 h3 h4 =>
   have hi:Deep l i (d+1):=.step h1 h2 h3 h4
   have wM:¬jt l i _:=fun hu=>by have:=hu.deep hi h4;omega
   have h5:=h4.Jz (l':=l.filter (fun x=>x.κ != i)) (fun j hj=>by rw [A1,if_neg hj]) wM;have h6:=yp h5
   have h7:(l.filter (fun x=>x.κ != i)).length<l.length:=by
    rw [Z_];exact ⟨_,(dQ h2).1,by simp [(dQ h2).2]⟩
   omega
def acV {l:List ξ} {i a:Int} {n:ξ} (hn:n∈l) (hk:n.τ=2) (hb:j7 l n.κ i=true):a+(iq l 201 n.κ:Int)-(iq l 201 i:Int)+(if decide ((n.Ω.length:Int)>0)=true then 1 else 0)≤sW l i a:=by
 unfold sW;generalize iq l 201=dd
 have key:∀(m:List ξ) (z:Int),z≤m.foldl (fun m n=>if (n.τ==2&&j7 l n.κ i)=true then max m (a+(dd n.κ:Int)-(dd i:Int)+if decide ((n.Ω.length:Int)>0)=true then 1 else 0) else m) z∧(n∈m→a+(dd n.κ:Int)-(dd i:Int)+(if decide ((n.Ω.length:Int)>0)=true then 1 else 0)≤m.foldl (fun m n=>if (n.τ==2&&j7 l n.κ i)=true then max m (a+(dd n.κ:Int)-(dd i:Int)+if decide ((n.Ω.length:Int)>0)=true then 1 else 0) else m) z):=by
  intro m;induction m with
  |nil=>intro z;exact ⟨xD _,fun h=>by cases h⟩
  |cons x r ih =>
   intro z;rw [xF];have h1:=ih (if (x.τ==2&&j7 l x.κ i)=true then max z (a+(dd x.κ:Int)-(dd i:Int)+if decide ((x.Ω.length:Int)>0)=true then 1 else 0) else z);refine ⟨Int.le_trans ?_ h1.1,fun hm=>?_⟩
   ·split
    ·exact Int.le_max_left _ _
    ·exact xD _
   ·rcases bj.1 hm with rfl|hm
    ·refine Int.le_trans ?_ h1.1;rw [if_pos (show (n.τ==2&&j7 l n.κ i)=true by simp [hk,hb])];exact Int.le_max_right _ _
    ·exact h1.2 hm
 exact (key l 0).2 hn
def GH (m:ξ) (E:List aP):ξ:=⟨m.κ,m.τ,m.a_,m.az,E,m.Up⟩
section
variable {t:θ} {δ ib:Int→Nat}
def yA {i:Int} {m:ξ} (hm:gN t.η i=some m) (s:List UInt8) (j:Int):gN (eN t i s).η j=if j=i then some (GH m (m.Ω.filter fun e=>!(e.aN==s))) else gN t.η j:=by
 have hd:gD t.η i=m:=by unfold gD;rw [hm];rfl
 unfold eN;dsimp only;rw [lH,hd];show (if j=m.κ then some (GH m _) else _)=_;rw [(dQ hm).2]
def W.eN (h:W t δ) {i:Int} {m:ξ} (hm:gN t.η i=some m) (hk:m.τ=2) {s:List UInt8} {e:aP} (hf:m.Ω.find? (fun e=>e.aN==s)=some e) (hd:∀k,ib k=δ k+if k=e.κ then 1 else 0):W (eN t i s) ib:=by
 obtain ⟨h1,h2,h3⟩:=h.get hm;unfold Go.Proofs.eN;rw [h3];refine h.Tf h1 hk (xD _) (abW (h.en m h1) _) (fun e he=>h.cl m h1 e (eD.1 he).1) (fun k=>?_) (fun q hq _ h4 h5=>?_) (.inr (.inl fun e0=>by rw [e0] at hf;cases hf))
 ·rw [hd,←aaR (h.en m h1) hf k];omega
 ·rw [hd] at h5;omega
def W.j9 (h:W t δ) {i:Int} {m:ξ} (hm:gN t.η i=some m) (hk:m.τ=2) {s:List UInt8} (hs:f_ s=true) (bw:∀e,e∈m.Ω→e.aN≠s) (hl:m.Ω.length<64) {d:Nat} (yN:Deep t.η i d) (Nh:d<12) {o:Int} {q:ξ} (ho:gN t.η o=some q) (OA:0<δ o) (Om:q.τ=2→q.Up=i) (hd:∀k,ib k=δ k-if k=o then 1 else 0):W (j9 t i s o) ib:=by
 obtain ⟨h1,h2,h3⟩:=h.get hm;obtain ⟨g1,g2,g3⟩:=h.get ho;unfold Go.Proofs.j9;rw [h3];refine h.Tf h1 hk (by omega) (ad5 (h.en m h1) hs h.ck hl bw) (fun e he=>?_) (fun k=>?_) (fun p hp EE h4 h5=>?_) (.inr (.inr ⟨d,by rw [h2];exact yN,Nh⟩))
 ·rcases BH.1 he with rfl|he
  ·dsimp only;rw [ho];rfl
  ·exact h.cl m h1 e he
 ·rw [hd,SB];dsimp only;by_cases e:k=o
  ·rw [if_pos e];rw [←e] at OA;omega
  ·rw [if_neg e];omega
 ·rw [hd] at h5
  have e:p.κ=o:=by
   by_cases e:p.κ=o
   ·exact e
   ·rw [if_neg e] at h5;omega
  have:p=q:=Cu h.s hp g1 (by rw [e,g2]);rw [h2,this];exact Om (this▸EE)
def W.kv (h:W t δ) {j:Int} {m:ξ} (hm:gN t.η j=some m) (OA:0<δ j) (hE:m.Ω=[]) (bw:∀q,q∈t.η→q.τ=2→0<δ q.κ→q.κ≠j→q.Up≠j) (hd:∀k,ib k=δ k-if k=j then 1 else 0):W (kv t j) ib:=by
 obtain ⟨h1,h2,h3⟩:=h.get hm;unfold Go.Proofs.kv;rw [h3]
 have Bg:m.κ≠1:=fun e=>by have:=h.Jx.2;rw [←h2,e] at OA;omega
 split
 ·next hk =>
  have hk:m.τ=2:=by simpa using hk
  rw [←h2]
  rcases h.dir h1 hk with hr|hr
  ·exact absurd hr.1 Bg
  ·have h4:=hr.2.1;rw [h2] at h4;refine h.gone h1 Bg hE (by rw [h2];omega) (fun q hq BA c_ mW=>?_) (fun k hk=>by rw [hd,if_neg (by omega)];rfl);rw [h2] at mW ⊢
   rcases oY (δ q.κ) with hz|hz
   ·intro hu
    rcases h.dir hq BA with oJ|oJ
    ·exact absurd oJ.1 c_
    ·obtain ⟨p,hp,e,he,-⟩:=oJ.2.2.2 hz;rw [hu,hm] at hp;cases hp;rw [hE] at he;cases he
   ·exact bw q hq BA hz mW
 ·next hk =>
  have hk:m.τ≠2:=by simpa using hk
  have hf:=h.file h1 hk;refine h.Mz h1 hk hf.2.2.2.1 (fun k hk=>by rw [hd,if_neg (by omega)];rfl) ?_;have:=hf.2.2.2.2;rw [h2] at this ⊢;rw [hd,if_pos rfl];omega
end
end
section
def RT (t:θ):Prop:=W t fun _=>0
def gW (j:Int):Int→Nat:=fun i=>if i=j then 1 else 0
def jc {l:List ξ} {i:Int} {m:ξ} (h:gN l i=some m):gD l i=m:=by unfold gD;rw [h];rfl
section
variable {t:θ} {δ:Int→Nat}
def W.deep (h:W t δ) {i:Int} {m:ξ} (hm:gN t.η i=some m) (hk:m.τ=2):∃d,Deep t.η i d∧d≤12∧(d=12→m.Ω=[])∧iq t.η 201 i=d:=by
 obtain ⟨h1,h2,h3⟩:=h.get hm;obtain ⟨d,h4,h5,h6⟩:=h.dp m h1 hk;rw [h2] at h4;exact ⟨d,h4,h5,h6,Mg h4 (by omega)⟩
def H3 {i:Int} {s:List UInt8} (h:sG t i s=0):∃m,gN t.η i=some m∧m.τ=2∧f_ s=true∧(∀e,e∈m.Ω→e.aN≠s)∧m.Ω.length<64∧iq t.η 201 i<12:=by
 unfold sG at h;by_cases h1:((dF t.η i).2 != 0)=true
 ·rw [if_pos h1] at h;exact absurd h (by simpa using h1)
 rw [if_neg h1] at h;obtain ⟨m,h2,h3,h4,h5⟩:=DC (nw h1);by_cases h6:(!f_ s)=true
 ·rw [if_pos h6] at h;cases h
 rw [if_neg h6,h4] at h;by_cases h7:(BQ m.Ω s).isSome=true
 ·rw [if_pos h7] at h;cases h
 rw [if_neg h7] at h;by_cases h8:Io t m=true
 ·rw [if_pos h8] at h;cases h
 unfold Io at h8;simp only [ug,decide_eq_true_eq,not_or] at h8;have hi:=(dQ h2).2;rw [hi] at h8;refine ⟨m,h2,h3,by simpa using h6,aeT (by simpa using h7),by omega,?_⟩;have:=h8.1.2;generalize iq t.η 201 i=q at *;omega
def RT.add (h:RT t) (i:Int) (s:List UInt8) (k:Int):RT (mJ t i s k).1:=by
 unfold mJ;split
 ·exact h
 next hk =>
 split
 ·exact h
 next he =>
 split
 ·exact h
 next hf =>
 obtain ⟨m,h1,h2,h3,h4,h5,h6⟩:=H3 (nw he);obtain ⟨d,g1,g2,g3,g4⟩:=W.deep h h1 h2;rw [g4] at h6
 have hl:t.η.length<200:=by simp at hf;omega
 have rm:k=1∨k=2:=by
  by_cases e:k=1
  ·exact .inl e
  ·refine .inr (Classical.byContradiction fun e2=>hk (by simp [e,e2]))
 have bw:gN t.η t.Next=none:=yC.2 fun n hn e=>by have:=h.lo n hn;omega
 have kX:i≠t.Next:=fun e=>by rw [e,bw] at h1;cases h1
 have w1:W ⟨cG ⟨t.Next,k,1,[],[],if (k==2)=true then i else 0⟩ t.η,t.Next+1,t.aj⟩ (gW t.Next):=by
  refine W.new h hl ?_ rfl fun j=>?_
  ·rcases rm with e|e
   ·subst e;exact .inl ⟨rfl,rfl⟩
   ·subst e;exact .inr ⟨rfl,d,g1,h6⟩
  ·unfold gW;omega
 have Δ:∀j,j≠t.Next→gN (cG ⟨t.Next,k,1,[],[],if (k==2)=true then i else 0⟩ t.η) j=gN t.η j:=fun j hj=>by rw [lH];exact if_neg hj
 refine W.j9 (q:=⟨t.Next,k,1,[],[],if (k==2)=true then i else 0⟩) w1 (by dsimp only;rw [Δ i kX];exact h1) h2 h3 h4 h5 (g1.congr fun j n hj _=>⟨n,by dsimp only;rw [Δ j fun e=>by rw [e,bw] at hj;cases hj];exact hj,rfl,rfl⟩) h6 (by dsimp only;rw [lH];exact if_pos rfl) (by unfold gW;rw [if_pos rfl];omega) (fun e=>by dsimp only at e ⊢;rw [if_pos (by simp [e])]) fun j=>?_;unfold gW;split<;>rfl
def RT.ln (h:RT t) (i to:Int) (s:List UInt8):RT (th t i to s).1:=by
 unfold th;split
 ·exact h
 next hp =>
 split
 ·exact h
 next hk =>
 split
 ·exact h
 next he =>
 obtain ⟨m,h1,h2,h3,h4,h5,h6⟩:=H3 (nw he);obtain ⟨d,g1,g2,g3,g4⟩:=W.deep h h1 h2;rw [g4] at h6
 obtain ⟨n,hn⟩:∃n,gN t.η i=some n:=by
  cases hg:gN t.η i with
  |none=>rw [hg] at hp;simp at hp
  |some n=>exact ⟨n,rfl⟩
 rw [jc hn] at hk ⊢
 have fx:n.τ≠2:=by simpa using hk
 obtain ⟨k1,k2,k3⟩:=W.get h hn;have hf:=W.file h k1 fx
 have jF:to≠i:=fun e=>by rw [e,hn] at h1;cases h1;exact fx h2
 have w1:W ⟨cG ⟨n.κ,n.τ,n.a_+1,n.az,n.Ω,n.Up⟩ t.η,t.Next,t.aj⟩ (gW i):=by
  refine W.Mz h k1 fx hf.2.2.2.1 (fun j hj=>by unfold gW;rw [if_neg (by rw [←k2];exact hj)]) ?_;have:=hf.2.2.2.2;dsimp only at this;unfold gW;rw [k2,if_pos rfl];rw [k2] at this;omega
 have Δ:∀j,gN (cG ⟨n.κ,n.τ,n.a_+1,n.az,n.Ω,n.Up⟩ t.η) j=if j=i then some ⟨n.κ,n.τ,n.a_+1,n.az,n.Ω,n.Up⟩ else gN t.η j:=fun j=>by
  rw [lH];show (if j=n.κ then _ else _)=_;rw [k2]
 refine W.j9 (q:=⟨n.κ,n.τ,n.a_+1,n.az,n.Ω,n.Up⟩) w1 (by dsimp only;rw [Δ,if_neg jF];exact h1) h2 h3 h4 h5 (g1.congr fun j p hj EE=>⟨p,by dsimp only;rw [Δ,if_neg fun e=>by rw [e,hn] at hj;cases hj;exact fx EE];exact hj,rfl,rfl⟩) h6 (by dsimp only;rw [Δ];exact if_pos rfl) (by unfold gW;rw [if_pos rfl];omega) (fun e=>absurd e fx) fun j=>?_;unfold gW;split<;>rfl
def RT.un (h:RT t) (i:Int) (s:List UInt8):RT (qz t i s).1:=by
 unfold qz;split
 ·exact h
 next he =>
 split
 ·exact h
 next hE =>
 obtain ⟨m,e,h1,h2,h3,h4,h5,h6⟩:=look_ok (nw he);rw [h6] at hE ⊢;obtain ⟨k1,k2,k3⟩:=W.get h h1;have jR:=qN h5;obtain ⟨x,hx⟩:=nt.1 (h.cl m k1 e jR);rw [jc hx] at hE;have Vx:x.Ω=[]:=sd.1 (by have:¬((x.Ω.length:Int)>0):=fun h=>hE (decide_eq_true h);omega)
 have Ox:e.κ≠i:=fun h'=>by rw [h',h1] at hx;cases hx;rw [Vx] at jR;cases jR
 have w1:W (eN t i s) (gW e.κ):=W.eN h h1 h2 h5 fun k=>by unfold gW;omega
 refine W.kv w1 (j:=e.κ) (m:=x) (by rw [yA h1,if_neg Ox];exact hx) (by unfold gW;rw [if_pos rfl];omega) Vx (fun q _ _ h7 h8=>by unfold gW at h7;rw [if_neg h8] at h7;omega) fun k=>?_;unfold gW;split<;>rfl
def RT.Xl (h:RT t) (i:Int) (x:List UInt8):RT (nY t i x).1:=by
 unfold nY;split
 ·exact h
 next hp =>
 split
 ·exact h
 next hk =>
 split
 ·exact h
 next hx =>
 obtain ⟨n,hn⟩:∃n,gN t.η i=some n:=by
  cases hg:gN t.η i with
  |none=>rw [hg] at hp;simp at hp
  |some n=>exact ⟨n,rfl⟩
 rw [jc hn] at hk ⊢
 have fx:n.τ≠2:=by simpa using hk
 obtain ⟨k1,k2,k3⟩:=W.get h hn;have hf:=W.file h k1 fx;exact W.Mz h k1 fx (by simp at hx;omega) (fun _ _=>rfl) hf.2.2.2.2
def RT.free (h:RT t) (i:Int):RT (wq t i).1:=by
 unfold wq;split
 ·exact h
 next hp =>
 split
 ·exact h
 next hk =>
 split
 ·exact h
 next hx =>
 obtain ⟨n,hn⟩:∃n,gN t.η i=some n:=by
  cases hg:gN t.η i with
  |none=>rw [hg] at hp;simp at hp
  |some n=>exact ⟨n,rfl⟩
 rw [jc hn] at hk hx
 have fx:n.τ≠2:=by simpa using hk
 obtain ⟨k1,k2,k3⟩:=W.get h hn;have hf:=W.file h k1 fx;rw [←k2];refine W.gone h k1 (fun e=>fx (W.one h k1 e)) hf.2.1 (by have:=hf.2.2.2.2;simp at hx;omega) (fun q hq BA c_ _ hu=>?_) fun _ _=>rfl
 rcases W.dir h hq BA with hr|hr
 ·exact c_ hr.1
 ·obtain ⟨p,hp,e,he,-⟩:=hr.2.2.2 rfl;rw [hu,k2,hn] at hp;cases hp;rw [hf.2.1] at he;cases he
def l6 (u t:List ξ):Prop:=∀j n,gN u j=some n→∃n',gN t j=some n'∧n'.τ=n.τ∧n'.Up=n.Up∧(n'.Ω=[]→n.Ω=[])
def l6.deep {u t:List ξ} (h:l6 u t) {i:Int} {d:Nat} (hd:Deep u i d):Deep t i d:=hd.congr fun j n hj _=>by
 obtain ⟨n',h1,h2,h3,-⟩:=h j n hj;exact ⟨n',h1,h2,h3⟩
def l6.oe {u t:List ξ} (h:l6 u t) {x i:Int} (hu:jt u x i):jt t x i:=by
 induction hu with
 |refl=>exact .refl
 |step h1 h2 h3 h4 ih =>
  obtain ⟨n',g1,g2,g3,-⟩:=h _ _ h2;exact .step h1 g1 (by rw [g2,h3]) (by rw [g3];exact ih)
def l6.trans {u v t:List ξ} (h:l6 u v) (h':l6 v t):l6 u t:=fun j n hn=>by
 obtain ⟨n',h1,h2,h3,h4⟩:=h j n hn;obtain ⟨n'',g1,g2,g3,g4⟩:=h' j n' h1;exact ⟨n'',g1,by rw [g2,h2],by rw [g3,h3],fun e=>h4 (g4 e)⟩
def l6.qt {i:Int} {m:ξ} (hm:gN t.η i=some m) (s:List UInt8):l6 (eN t i s).η t.η:=fun j n hn=>by
 rw [yA hm] at hn;by_cases e:j=i
 ·rw [if_pos e] at hn;cases hn;exact ⟨m,by rw [e,hm],rfl,rfl,fun e0=>by show List.filter _ _=_;rw [e0];rfl⟩
 ·rw [if_neg e] at hn;exact ⟨n,hn,rfl,rfl,id⟩
def ML {j:Int} {m:ξ} (hm:gN t.η j=some m) {i:Int} (hi:i≠j):gN (kv t j).η i=gN t.η i:=by
 unfold kv;rw [jc hm];split
 ·dsimp only;rw [A1,if_neg hi]
 ·dsimp only;rw [lH];exact if_neg (by rw [(dQ hm).2];exact hi)
def l6.un {j:Int} {m:ξ} (hm:gN t.η j=some m):l6 (kv t j).η t.η:=fun i n hn=>by
 by_cases e:i=j
 ·subst e;unfold kv at hn;rw [jc hm] at hn;split at hn
  ·dsimp only at hn;rw [A1,if_pos rfl] at hn;cases hn
  ·dsimp only at hn;rw [lH,if_pos (dQ hm).2.symm] at hn;cases hn;exact ⟨m,hm,rfl,rfl,id⟩
 ·rw [ML hm e] at hn;exact ⟨n,hn,rfl,rfl,id⟩
end
end
section
section
variable {t:θ} {δ:Int→Nat}
def aaY {l:List ξ} {i:Int} {p q:ξ} (hp:p∈l) (hq:q∈l) (aQ:p≠q) (h1:0<cE p.Ω i) (h2:0<cE q.Ω i):2≤dJ l i:=by
 induction l with
 |nil=>cases hp
 |cons x l ih =>
  rw [yn];have hc:∀{y:ξ},y∈l→0<cE y.Ω i→0<dJ l i:=fun hy h=>Dx.2 ⟨_,hy,vX.1 h⟩
  rcases bj.1 hp with e1|hp<;>rcases bj.1 hq with e2|hq
  ·exact absurd (e1.trans e2.symm) aQ
  ·rw [←e1];have:=hc hq h2;omega
  ·rw [←e2];have:=hc hp h1;omega
  ·have:=ih hp hq;omega
def W.parent (h:W t δ) {p q:ξ} (hp:p∈t.η) {e:aP} (he:e∈p.Ω) (hq:gN t.η e.κ=some q) (hk:q.τ=2):q.Up=p.κ:=by
 obtain ⟨k1,k2,k3⟩:=h.get hq;have hc:0<cE p.Ω e.κ:=vX.2 ⟨e,he,rfl⟩;have bu:0<dJ t.η e.κ:=Dx.2 ⟨p,hp,e,he,rfl⟩
 rcases h.dir k1 hk with hr|hr
 ·exact absurd (k2.symm.trans hr.1) (h.O1 hp he)
 ·rw [LM,k2] at hr;obtain ⟨p',gJ,e',fw,acJ⟩:=hr.2.2.2 (by omega);have Bz:=dQ gJ;by_cases U9:p=p'
  ·rw [U9,Bz.2]
  ·have:=aaY hp Bz.1 U9 hc (vX.2 ⟨e',fw,acJ⟩);omega
def W.Jy (h:W t δ) {i:Int} {m:ξ} (hm:gN t.η i=some m) (hk:m.τ=2) {e:aP} (he:e∈m.Ω):e.κ≠i:=by
 intro yP;obtain ⟨k1,k2,k3⟩:=h.get hm;have hu:=h.parent k1 he (by rw [yP];exact hm) hk;obtain ⟨d,h1,-⟩:=h.deep hm hk
 have ri:i≠1:=by rw [←yP];exact h.O1 k1 he
 cases h1 with
 |root=>exact ri rfl
 |step g1 g2 g3 g4 =>
  rw [hm] at g2;cases g2;rw [hu,k2] at g4;have:=g4.uniq (.step g1 hm g3 (by rw [hu,k2];exact g4));omega
def Tn {l:List aP} {s:List UInt8} {e:aP} (hf:l.find? (fun e=>e.aN==s)=some e):(l.filter fun e=>!(e.aN==s)).length<l.length:=by
 rw [Z_];exact ⟨e,qN hf,by have:=amd hf;simpa using this⟩
def We (h:RT t) {from_ to:Int} {s aI:List UInt8} {mf md x:ξ} {ef:aP} (a1:gN t.η from_=some mf) (a2:mf.τ=2) (a5:mf.Ω.find? (fun e=>e.aN==s)=some ef)
  (b1:gN t.η to=some md) (b2:md.τ=2) (hx:gN t.η ef.κ=some x) (EP:ef.κ≠from_) (zu:ef.κ≠to) (hy:bW t to aI≠ef.κ)
  (hY:(∀e,e∈md.Ω→e.aN≠aI)∧bW t to aI=0∧(to≠from_→md.Ω.length<64)∨∃ey ny,md.Ω.find? (fun e=>e.aN==aI)=some ey∧bW t to aI=ey.κ∧gN t.η ey.κ=some ny∧ny.Ω=[]) :
  W (iV t ef.κ from_ s to aI (bW t to aI)) (gW ef.κ)∧l6 (iV t ef.κ from_ s to aI (bW t to aI)).η t.η∧gN (iV t ef.κ from_ s to aI (bW t to aI)).η ef.κ=some x∧∃mu,gN (iV t ef.κ from_ s to aI (bW t to aI)).η to=some mu∧mu.τ=2∧(∀e,e∈mu.Ω→e.aN≠aI)∧mu.Ω.length<64:=by
 obtain ⟨k1,k2,k3⟩:=W.get h a1;have jR:=qN a5
 have w1:W (eN t from_ s) (gW ef.κ):=W.eN h a1 a2 a5 fun k=>by unfold gW;omega
 have s1:l6 (eN t from_ s).η t.η:=l6.qt a1 s;have g1:=yA a1 s;have hl:=Tn a5;have hlf:=(W.en h mf k1).n
 obtain ⟨m1,c1,c2,c3⟩:∃m1,gN (eN t from_ s).η to=some m1∧m1.τ=2∧((to=from_∧m1=GH mf (mf.Ω.filter fun e=>!(e.aN==s))∧mf=md)∨(to≠from_∧m1=md)):=by
  rw [g1];by_cases e:to=from_
  ·rw [if_pos e];rw [e,a1] at b1;cases b1;exact ⟨_,rfl,a2,.inl ⟨e,rfl,rfl⟩⟩
  ·rw [if_neg e];exact ⟨md,b1,b2,.inr ⟨e,rfl⟩⟩
 have TJ:gN (eN t from_ s).η ef.κ=some x:=by rw [g1,if_neg EP,hx]
 rcases hY with ⟨bw,Oy,hlen⟩|⟨ey,ny,fI,hye,lf,NR⟩
 ·rw [Oy];unfold iV;rw [if_neg (by simp)];refine ⟨w1,s1,TJ,m1,c1,c2,?_,?_⟩
  ·rcases c3 with ⟨e,rfl,rfl⟩|⟨e,rfl⟩
   ·exact fun e he=>bw e (eD.1 he).1
   ·exact bw
  ·rcases c3 with ⟨e,rfl,rfl⟩|⟨e,rfl⟩
   ·show (mf.Ω.filter _).length<64;omega
   ·exact hlen e
 ·rw [hye] at hy ⊢;have VA:=dQ lf;have Ux:=qN fI
  have I7:ey.κ≠from_:=fun e=>by rw [e,a1] at lf;cases lf;rw [NR] at jR;cases jR
  have I9:ey.κ≠to:=fun e=>by rw [e,b1] at lf;cases lf;rw [NR] at Ux;cases Ux
  have Oy:ey.κ≠0:=by have:=(W.lo h ny VA.1).1;rw [VA.2] at this;omega
  have sS:m1.Ω.find? (fun e=>e.aN==aI)=some ey:=by
   rcases c3 with ⟨e,rfl,rfl⟩|⟨e,rfl⟩
   ·show (mf.Ω.filter _).find? _=_
    have aQ:aI≠s:=fun e=>by rw [e,a5] at fI;cases fI;exact hy rfl
    rw [Z3]
    have:(fun a:aP=>decide ((!(a.aN==s))=true∧(a.aN==aI)=true))=fun a=>a.aN==aI:=by
     funext a;by_cases h1:a.aN=aI
     ·simp [h1,aQ]
     ·simp [h1]
    rw [this];exact fI
   ·exact fI
  have Bj:m1.Ω.length≤64:=(w1.en m1 (dQ c1).1).n;have w2:W (eN (eN t from_ s) to aI) (fun k=>gW ef.κ k+if k=ey.κ then 1 else 0):=W.eN w1 c1 c2 sS fun _=>rfl;have g2:=yA c1 aI
  have Ip:gN (eN (eN t from_ s) to aI).η ey.κ=some ny:=by rw [g2,if_neg I9,g1,if_neg I7,lf]
  have TL:gN (eN (eN t from_ s) to aI).η ef.κ=some x:=by rw [g2,if_neg zu,TJ]
  unfold iV;rw [if_pos (by simpa using Oy)];refine ⟨W.kv w2 Ip (by rw [if_pos rfl];omega) NR (fun q hq BA rB hqy=>?_) (fun k=>?_),(l6.un Ip).trans ((l6.qt c1 aI).trans s1),by rw [ML Ip (j4 hy),TL],GH m1 (m1.Ω.filter fun e=>!(e.aN==aI)),by rw [ML Ip (j4 I9),g2,if_pos rfl],c2,fun e he=>?_,?_⟩
  ·have hqi:q.κ=ef.κ:=by
    rw [if_neg hqy] at rB;unfold gW at rB;by_cases e:q.κ=ef.κ
    ·exact e
    ·rw [if_neg e] at rB;omega
   have hqx:q=x:=by
    have:=yB w2.s hq;rw [hqi,TL] at this;cases this;rfl
   subst hqx;rw [W.parent h k1 jR hx BA,k2];exact j4 I7
  ·unfold gW;by_cases e:k=ey.κ
   ·rw [if_pos e,if_neg (by rw [e];exact hy)]
   ·rw [if_neg e];omega
  ·have:=(eD.1 he).2;simpa using this
  ·have:=Tn sS;show (m1.Ω.filter _).length<64;omega
def RT.mv (h:RT t) (from_:Int) (s:List UInt8) (to:Int) (aI:List UInt8):RT (qu t from_ s to aI).1:=by
 unfold qu;split
 ·exact h
 next hL =>
 split
 ·exact h
 next hD =>
 split
 ·exact h
 next hR =>
 split
 ·exact h
 next hy =>
 split
 ·exact h
 next za =>
 split
 ·exact h
 next di =>
 split
 ·exact h
 next Bd =>
 obtain ⟨mf,ef,a1,a2,a3,a4,a5,a6⟩:=look_ok (nw hL);obtain ⟨md,b1,b2,b3,b4⟩:=DC (nw hD);rw [a6] at hy za di Bd ⊢;obtain ⟨k1,k2,k3⟩:=W.get h a1;have jR:=qN a5;obtain ⟨x,hx⟩:=nt.1 (h.cl mf k1 ef jR);obtain ⟨x1,x2,x3⟩:=W.get h hx;rw [x3] at za di
 have hR:f_ aI=true:=by simpa using hR
 have hy:bW t to aI≠ef.κ:=by simpa using hy
 have EP:ef.κ≠from_:=W.Jy h a1 a2 jR;obtain ⟨dt,t1,t2,t3,t4⟩:=W.deep h b1 b2;unfold Jr at Bd;rw [b3,x3] at Bd;simp only [ug,bJ,decide_eq_true_eq,not_or,not_and,beq_iff_eq,bne_iff_ne] at Bd;obtain ⟨⟨⟨f1,f2⟩,f3⟩,f4⟩:=Bd
 have f2:dt<12:=by rw [t4] at f2;omega
 rw [t4] at f3
 have wM:x.τ=2→¬jt t.η ef.κ to:=fun hk hu=>za (by
  have:j7 t.η to ef.κ=true:=L0 hu t1 (by have:=yp t1;omega)
  simp [hk,this])
 have zu:ef.κ≠to:=fun e=>by
  rw [e,b1] at hx;cases hx;exact wM b2 (e▸.refl)
 have hY:(∀e,e∈md.Ω→e.aN≠aI)∧bW t to aI=0∧(to≠from_→md.Ω.length<64)∨∃ey ny,md.Ω.find? (fun e=>e.aN==aI)=some ey∧bW t to aI=ey.κ∧gN t.η ey.κ=some ny∧ny.Ω=[]:=by
  have jT:bW t to aI=match md.Ω.find? (fun e=>e.aN==aI) with|some e=>e.κ|none=>0:=by unfold bW;rw [b3]<;>rfl
  cases fI:md.Ω.find? (fun e=>e.aN==aI) with
  |none =>
   rw [fI] at jT;refine .inl ⟨fun e he=>?_,jT,fun aQ=>?_⟩
   ·rw [G5] at fI;simpa using fI e he
   ·have:=f1 ⟨jT,aQ⟩;omega
  |some ey =>
   rw [fI] at jT;obtain ⟨ny,lf⟩:=nt.1 (h.cl md (dQ b1).1 ey (qN fI));refine .inr ⟨ey,ny,rfl,jT,lf,?_⟩;have hc:=nw di;unfold sy at hc;rw [jT] at hc;dsimp only at hc;rw [jc lf,lf] at hc;rw [if_neg (by simp)] at hc;split at hc
   ·cases hc
   split at hc
   ·cases hc
   split at hc
   ·cases hc
   ·next hz=>exact sd.1 (by have:¬((ny.Ω.length:Int)>0):=fun h=>hz (decide_eq_true h);omega)
 obtain ⟨wu,su,MQ,mu,MP,u2,u3,u4⟩:=We h a1 a2 a5 b1 b2 hx EP zu hy hY;generalize iV t ef.κ from_ s to aI (bW t to aI)=u at *;obtain ⟨d,v1,v2,v3,v4⟩:=W.deep wu MP u2;have yO:d=dt:=(su.deep v1).uniq t1;subst yO;unfold kp;rw [x3];by_cases hk:(x.τ==2)=true
 ·rw [if_pos hk]
  have hk:x.τ=2:=by simpa using hk
  obtain ⟨dx,y1,y2,y3,y4⟩:=W.deep wu MQ hk
  have Θ:x.κ≠1:=fun e=>by have:=W.Jx wu;rw [x2] at e;unfold gW at this;rw [if_pos e.symm] at this;omega
  have UY:¬jt u.η ef.κ to:=fun hu=>wM hk (su.oe hu)
  have wI:∀i,i≠ef.κ→gN (cG ⟨x.κ,x.τ,x.a_,x.az,x.Ω,to⟩ u.η) i=gN u.η i:=fun i hi=>by rw [lH];exact if_neg (by dsimp only;rw [x2];exact hi)
  have wm:W ⟨cG ⟨x.κ,x.τ,x.a_,x.az,x.Ω,to⟩ u.η,u.Next,u.aj⟩ (gW ef.κ):=by
   refine W.aeM wu (dQ MQ).1 hk Θ (by unfold gW;rw [if_pos x2];omega) v1 (by rw [x2];exact y1) (by rw [x2];exact UY) fun n hn yX dS d' bH=>?_;rw [x2] at dS;obtain ⟨n',q1,q2,q3,q4⟩:=su n.κ n (yB wu.s hn);have wL:=dQ q1;have p1:Deep t.η n.κ d':=su.deep bH;have p2:Deep t.η ef.κ dx:=su.deep y1;have p3:=(su.oe dS).deep p2 p1
   have hb:j7 t.η n'.κ ef.κ=true:=by rw [wL.2];exact L0 (su.oe dS) p1 (by have:=yp p1;omega)
   have hh:=acV (a:=(d:Int)+1) wL.1 (by rw [q2,yX]) hb
   have Nh:d'≤201:=by
    obtain ⟨d3,e1,e2,-⟩:=h.dp n' wL.1 (by rw [q2,yX]);rw [wL.2] at e1;have:=p1.uniq e1;omega
   have oO:dx≤201:=by omega
   rw [wL.2,Mg p1 Nh,Mg p2 oO] at hh;have f3:=f3 hk;refine ⟨?_,fun qY=>q4 ?_⟩
   ·split at hh<;>omega
   ·split at hh
    ·omega
    ·next hz=>exact sd.1 (by have:¬((n'.Ω.length:Int)>0):=fun h=>hz (decide_eq_true h);omega)
  refine W.j9 (q:=⟨x.κ,x.τ,x.a_,x.az,x.Ω,to⟩) wm (by dsimp only;rw [wI to (j4 zu)];exact MP) u2 hR u3 u4 (v1.Jz wI UY) f2 (by dsimp only;rw [lH];exact if_pos x2.symm) (by unfold gW;rw [if_pos rfl];omega) (fun _=>rfl) fun j=>?_;unfold gW;split<;>rfl
 ·rw [if_neg hk];refine W.j9 wu MP u2 hR u3 u4 v1 f2 MQ (by unfold gW;rw [if_pos rfl];omega) (fun e=>absurd (by simpa using e) hk) fun j=>?_;unfold gW;split<;>rfl
def Se:RT QB:=by
 refine ⟨vK _ _,fun n hn=>?_,⟨_,rfl,rfl⟩,by decide,by decide,fun n hn=>?_,fun n hn e he=>?_,fun n hn=>?_,fun n hn _=>?_⟩<;>obtain rfl:=dB.1 hn
 ·decide
 ·exact ⟨by simp,j1,fun e he=>(by cases he),j1⟩
 ·cases he
 ·exact .inr ⟨rfl,rfl,.inl ⟨rfl,rfl,rfl,rfl,rfl⟩⟩
 ·exact ⟨0,.root,by omega,fun h=>by cases h⟩
end
end
section
def rI {α:Type} (i n:Int) (v:α):∀l:List (Int×α),bt i (cO n v l)=if i=n then some v else bt i l
 |[]=>by
  unfold cO bt;by_cases h:n=i
  ·rw [if_pos h,if_pos h.symm]
  ·rw [if_neg h,if_neg (j4 h)];rfl
 |(k,c)::r=>by
  simp only [cO];by_cases hk:k=n
  ·rw [if_pos hk];simp only [bt];by_cases h:k=i
   ·rw [if_pos h,if_pos (by omega)]
   ·rw [if_neg h,if_neg (by omega),if_neg h]
  ·rw [if_neg hk];simp only [bt];by_cases h:k=i
   ·rw [if_pos h,if_neg (by omega),if_pos h]
   ·rw [if_neg h,rI i n v r,if_neg h]
def E8 {α:Type} (n:Int) (v:α):∀l:List (Int×α),(cO n v l).length≤l.length+1
 |[]=>bG _
 |(k,c)::r=>by
  simp only [cO];split
  ·simp
  ·have:=E8 n v r;simp only [cZ];omega
def Jp {α:Type} {i:Int}:∀{l:List (Int×α)},(bt i l).isSome=true↔∃p,p∈l∧p.1=i
 |[]=>by simp [bt]
 |(k,c)::r=>by
  simp only [bt];by_cases h:k=i
  ·rw [if_pos h];simp [h]
  ·rw [if_neg h,Jp];constructor
   ·rintro ⟨p,hp,e⟩;exact ⟨p,cj _ hp,e⟩
   ·rintro ⟨p,hp,e⟩
    rcases bj.1 hp with rfl|hp
    ·exact absurd e h
    ·exact ⟨p,hp,e⟩
def E2:∀(n:Nat) (l:List Int),l.Pairwise (·≠·)→(∀x,x∈l→0≤x∧x<n)→l.length≤n
 |0,l,_,h=>by
  cases l with
  |nil=>exact bG _
  |cons x r=>have:=h x (by simp);omega
 |n+1,l,hp,h=>by
  have h1:=E2 n (l.filter fun x=>x != (n:Int)) (hp.filter _) fun x hx=>by
   obtain ⟨a,b⟩:=eD.1 hx;have:=h x a;simp at b;omega
  have h2:∀l:List Int,l.Pairwise (·≠·)→l.length≤(l.filter fun x=>x != (n:Int)).length+1:=by
   intro l;induction l with
   |nil=>intro _;exact lX _
   |cons x r ih =>
    intro hp;obtain ⟨a,b⟩:=eK.1 hp;rw [ij];by_cases e:x=(n:Int)
    ·have:r.filter (fun x=>x != (n:Int))=r:=by
      rw [ui];intro y hy;have:=a y hy;simp;omega
     rw [if_neg (by simp [e]),this];exact bG _
    ·have:=ih b;rw [if_pos (by simpa using e)];simp only [cZ];omega
  have:=h2 l hp;omega
inductive l5 (g:Int→Option ξ) (i:Int):Int→Prop
 |refl:l5 g i i
 |step {j:Int} {n:ξ} {e:aP}:l5 g i j→g j=some n→e∈n.Ω→l5 g i e.κ
def l5.trans {g:Int→Option ξ} {i j k:Int} (h:l5 g i j) (h':l5 g j k):l5 g i k:=by
 induction h' with
 |refl=>exact h
 |step _ h2 h3 ih=>exact .step ih h2 h3
abbrev Met:=List (Int×ei)
abbrev gC:=List (Int×ξ)
def dG (m:Met) (j:Int):Prop:=(bt j m).isSome=true
def pM (m:Met) (n j:Int) (v:ei):dG (cO n v m) j↔j=n∨dG m j:=by
 unfold dG;rw [rI];by_cases h:j=n;iterate 2 simp [h]
structure Tr (g:Int→Option ξ) (A:Int→Prop) (m:Met) (o:List ξ) (m':Met) (o':List ξ) (w:Bool):Prop where
 mo:∀j,dG m j→dG m' j
 new:∃N:List ξ,o'=o++N∧(∀n,n∈N→g n.κ=some n∧¬dG m n.κ∧dG m' n.κ)∧N.Pairwise (fun a b=>a.κ≠b.κ)∧∀j,dG m' j→¬dG m j→∀n,g j=some n→n∈N
 rc:∀j,dG m' j→¬dG m j→∃r,A r∧l5 g r j
 cl:∀j,dG m' j→¬dG m j→∀n,g j=some n→∀e,e∈n.Ω→dG m' e.κ
 wh:w=true↔∀j,dG m' j→¬dG m j→(g j).isSome=true
section
variable {g:Int→Option ξ} {A:Int→Prop} {m m1 m2:Met} {o o1 o2:List ξ} {w w1 w2:Bool}
def Tr.refl:Tr g A m o m o true :=
 ⟨fun _ h=>h,⟨[],by simp,fun n hn=>(by cases hn),j1,fun j h h'=>absurd h h'⟩,fun j h h'=>absurd h h',fun j h h'=>absurd h h',⟨fun _ j h h'=>absurd h h',fun _=>rfl⟩⟩
def Tr.trans (hg:∀j n,g j=some n→n.κ=j) (h:Tr g A m o m1 o1 w1) (h':Tr g A m1 o1 m2 o2 w2):Tr g A m o m2 o2 (w2&&w1):=by
 obtain ⟨N,hN,yF,Ei,Ej⟩:=h.new;obtain ⟨M,hM,T3,hM2,hM3⟩:=h'.new;refine ⟨fun j hj=>h'.mo j (h.mo j hj),⟨N++M,by rw [hM,hN,kD],fun n hn=>?_,?_,fun j hj dz n hn=>?_⟩,fun j hj dz=>?_,fun j hj dz n hn e he=>?_,?_⟩
 ·rcases gp.1 hn with hn|hn
  ·obtain ⟨a,b,c⟩:=yF n hn;exact ⟨a,b,h'.mo _ c⟩
  ·obtain ⟨a,b,c⟩:=T3 n hn;exact ⟨a,fun hm=>b (h.mo _ hm),c⟩
 ·refine vI.2 ⟨Ei,hM2,fun a ha b hb=>fun e=>?_⟩;exact (T3 b hb).2.1 (e▸(yF a ha).2.2)
 ·by_cases h1:dG m1 j
  ·exact qM _ (Ej j h1 dz n hn)
  ·exact List.mem_append_right _ (hM3 j hj h1 n hn)
 ·by_cases h1:dG m1 j
  ·exact h.rc j h1 dz
  ·exact h'.rc j hj h1
 ·by_cases h1:dG m1 j
  ·exact h'.mo _ (h.cl j h1 dz n hn e he)
  ·exact h'.cl j hj h1 n hn e he
 ·rw [bJ,h'.wh,h.wh];constructor
  ·rintro ⟨a,b⟩ j hj dz;by_cases h1:dG m1 j
   ·exact b j h1 dz
   ·exact a j hj h1
  ·intro a;exact ⟨fun j hj dz=>a j hj fun h1=>dz (h.mo j h1),fun j hj dz=>a j (h'.mo j hj) dz⟩
def Tr.sub {A':Int→Prop} (h:Tr g A m o m1 o1 w) (hA:∀r,A r→∃r',A' r'∧l5 g r' r):Tr g A' m o m1 o1 w :=
 ⟨h.mo,h.new,fun j hj dz=>by
  obtain ⟨r,hr,h1⟩:=h.rc j hj dz;obtain ⟨r',cK,h2⟩:=hA r hr
  exact ⟨r',cK,h2.trans h1⟩,h.cl,h.wh⟩
def Tr.none {i:Int} {v:ei} (hi:¬dG m i) (hg:g i=none):Tr g (·=i) m o (cO i v m) o false:=by
 have hn:∀j,dG (cO i v m) j→¬dG m j→j=i:=fun j hj dz=>((pM _ _ _ _).1 hj).resolve_right dz;refine ⟨fun j hj=>(pM _ _ _ _).2 (.inr hj),⟨[],by simp,fun n hn=>(by cases hn),j1,fun j hj dz n NC=>?_⟩,fun j hj dz=>⟨i,rfl,by rw [hn j hj dz];exact .refl⟩,fun j hj dz n NC=>?_,⟨fun h=>(by cases h),fun h=>?_⟩⟩;iterate 2 (rw [hn j hj dz,hg] at NC;cases NC)
 ·have:=h i ((pM _ _ _ _).2 (.inl rfl)) hi;rw [hg] at this;cases this
def Tr.one (hgi:∀j n,g j=some n→n.κ=j) {i:Int} {v:ei} {n:ξ} (hi:¬dG m i) (hn:g i=some n) (h:Tr g (fun r=>∃e,e∈n.Ω∧e.κ=r) (cO i v m) (o++[n]) m1 o1 w) (En:∀e,e∈n.Ω→dG m1 e.κ):Tr g (·=i) m o m1 o1 w:=by
 obtain ⟨N,hN,yF,Ei,Ej⟩:=h.new;have ru:=hgi i n hn;have ri:dG (cO i v m) i:=(pM _ _ _ _).2 (.inl rfl);have hm:∀{j},¬dG m j→j≠i→¬dG (cO i v m) j:=fun hj uM hm=>((pM _ _ _ _).1 hm).elim uM hj;refine ⟨fun j hj=>h.mo j ((pM _ _ _ _).2 (.inr hj)),⟨n::N,by rw [hN,kD];rfl,fun x hx=>?_,?_,fun j hj dz x hx=>?_⟩,fun j hj dz=>?_,fun j hj dz x hx e he=>?_,?_⟩
 ·rcases bj.1 hx with rfl|hx
  ·rw [ru];exact ⟨hn,hi,h.mo _ ri⟩
  ·obtain ⟨a,b,c⟩:=yF x hx;exact ⟨a,fun hm=>b ((pM _ _ _ _).2 (.inr hm)),c⟩
 ·refine eK.2 ⟨fun x hx e=>?_,Ei⟩;exact (yF x hx).2.1 (by rw [←e,ru];exact ri)
 ·by_cases e:j=i
  ·rw [e,hn] at hx;cases hx;simp
  ·exact cj _ (Ej j hj (hm dz e) x hx)
 ·by_cases e:j=i
  ·exact ⟨i,rfl,by rw [e];exact .refl⟩
  ·obtain ⟨r,⟨e',fw,rfl⟩,h2⟩:=h.rc j hj (hm dz e);exact ⟨i,rfl,(l5.step .refl hn fw).trans h2⟩
 ·by_cases e1:j=i
  ·rw [e1,hn] at hx;cases hx;exact En e he
  ·exact h.cl j hj (hm dz e1) x hx e he
 ·rw [h.wh];constructor
  ·intro a j hj dz;by_cases e:j=i
   ·rw [e,hn];rfl
   ·exact a j hj (hm dz e)
  ·intro a j hj dz;exact a j hj fun h1=>dz ((pM _ _ _ _).2 (.inr h1))
end
end
section
structure MO (m:Met) (o:List ξ):Prop where
 k:(m.map (·.1)).Pairwise (·≠·)
 r:∀p,p∈m→0≤p.1∧p.1<5000
 ok:(o.map (·.κ)).Pairwise (·≠·)
 om:∀n,n∈o→dG m n.κ
def MO.ml {m:Met} {o:List ξ} (h:MO m o):m.length≤5000:=by
 have:=E2 5000 (m.map (·.1)) h.k fun x hx=>by
  obtain ⟨p,hp,rfl⟩:=dq.1 hx;exact h.r p hp
 rw [ax] at this;exact this
def MO.ol {m:Met} {o:List ξ} (h:MO m o):o.length≤5000:=by
 have:=E2 5000 (o.map (·.κ)) h.ok fun x hx=>by
  obtain ⟨n,hn,rfl⟩:=dq.1 hx;obtain ⟨p,hp,e⟩:=Jp.1 (h.om n hn);rw [←e];exact h.r p hp
 rw [ax] at this;exact this
def MO.set {m:Met} {o:List ξ} (h:MO m o) {i:Int} (hi:¬dG m i) (hr:0≤i∧i<5000) (v:ei):MO (cO i v m) o:=by
 rcases BL i v m with ⟨h1,h2,h3⟩|⟨j,c,h1,h2,_⟩
 ·rw [h2];refine ⟨?_,fun p hp=>?_,h.ok,fun n hn=>?_⟩
  ·rw [eI];refine vI.2 ⟨h.k,vK _ _,fun a ha b hb=>?_⟩;obtain ⟨p,hp,rfl⟩:=dq.1 ha;simp at hb;rw [hb];exact h3 p hp
  ·rcases gp.1 hp with hp|hp
   ·exact h.r p hp
   ·obtain rfl:=dB.1 hp;exact hr
  ·rw [←h2];exact (pM _ _ _ _).2 (.inr (h.om n hn))
 ·exact absurd (by unfold dG;rw [h2];rfl) hi
def MO.out {m:Met} {o:List ξ} (h:MO m o) {n:ξ} (hn:dG m n.κ) (ho:∀x,x∈o→x.κ≠n.κ):MO m (o++[n]):=by
 refine ⟨h.k,h.r,?_,fun x hx=>?_⟩
 ·rw [eI];refine vI.2 ⟨h.ok,vK _ _,fun a ha b hb=>?_⟩;obtain ⟨p,hp,rfl⟩:=dq.1 ha;simp at hb;rw [hb];exact ho p hp
 ·rcases gp.1 hx with hx|hx
  ·exact h.om x hx
  ·obtain rfl:=dB.1 hx;exact hn
structure xP (all:gC):Prop where
 i:∀j n,bt j all=some n→n.κ=j
 e:∀j n,bt j all=some n→∀e,e∈n.Ω→0≤e.κ∧e.κ<5000
 l:∀j n,bt j all=some n→n.Ω.length≤100000
abbrev VF:=(Int×Met×gC×List ξ)→Option (Bool×Met×gC×List ξ)
def Dl (all:gC) (i:Int) (m:Met) (o:List ξ) (r:Bool×Met×gC×List ξ):Prop :=
 r.2.2.1=all∧Tr (fun j=>bt j all) (·=i) m o r.2.1 r.2.2.2 r.1∧dG r.2.1 i∧MO r.2.1 r.2.2.2
def YN {f:VF} {all:gC} (hG:xP all) (P:Met→Prop) (hP:∀m m',(∀j,dG m j→dG m' j)→P m→P m')
  (hf:∀i m o,0≤i∧i<5000→MO m o→P m→ε (f (i,m,all,o)) (Dl all i m o)) {i:Int} {m:Met} {o:List ξ} (hr:0≤i∧i<5000) (hm:MO m o)
  (hs:¬dG m i→(bt i all).isSome=true→P (cO i ⟨⟩ m)):ε (rP f i m all o) (Dl all i m o):=by
 have jC:=hm.ml;have hol:=hm.ol;unfold rP;refine ε.af rfl (ε.ite (fun e=>ε.ret ⟨rfl,Tr.refl,e,hm⟩) fun e=>?_);have hi:¬dG m i:=e;refine ε.Ψ ⟨by unfold Ξ;omega,by omega⟩ (ε.af rfl ?_);cases hg:bt i all with
 |none=>exact ε.cond rfl (ε.ret ⟨rfl,Tr.none hi hg,(pM _ _ _ _).2 (.inl rfl),hm.set hi hr _⟩)
 |some n =>
  have ru:=hG.i i n hg;have zd:=hG.l i n hg;have ri:dG (cO i (⟨⟩:ei) m) i:=(pM _ _ _ _).2 (.inl rfl);have iQ:MO (cO i ⟨⟩ m) (o++[n]):=(hm.set hi hr _).out (by rw [ru];exact ri) fun x hx ex=>hi (by rw [←ru,←ex];exact hm.om x hx);have zj:P (cO i ⟨⟩ m):=hs hi (by rw [hg];rfl);refine ε.cD (by simp) (ε.Ψ (by simp only [cZ,gM];omega) ?_);show ε ((FQ n f (true,0,cO i ⟨⟩ m,all,o++[n])).bind _) _;refine ε.bind (R:=fun v:Bool×Met×gC×List ξ=>v.2.2.1=all∧Tr (fun j=>bt j all) (fun r=>∃e,e∈n.Ω∧e.κ=r) (cO i ⟨⟩ m) (o++[n]) v.2.1 v.2.2.2 v.1∧(∀e,e∈n.Ω→dG v.2.1 e.κ)∧MO v.2.1 v.2.2.2) ?_ fun v hv=>ε.ret ⟨hv.1,Tr.one hG.i hi hg hv.2.1 hv.2.2.1,hv.2.1.mo _ ri,hv.2.2.2⟩;unfold FQ;refine ε.abG (l:=n.Ω) (fun s:Bool×Int×Met×gC×List ξ=>s.2.1) (fun k s=>s.2.2.2.1=all∧Tr (fun j=>bt j all) (fun r=>∃e,e∈n.Ω∧e.κ=r) (cO i ⟨⟩ m) (o++[n]) s.2.2.1 s.2.2.2.2 s.1∧(∀e,e∈n.Ω.take k→dG s.2.2.1 e.κ)∧MO s.2.2.1 s.2.2.2.2) (fun k e s Φ he hc hi=>?_) (fun s hc hi=>?_) _ rfl ⟨rfl,Tr.refl,fun e he=>by simp at he,iQ⟩
  ·obtain ⟨w,c,mk,al,ok⟩:=s;dsimp only at hc hi;subst hc;obtain ⟨rfl,ht,En,rq⟩:=hi;have jR:=mj he;unfold xj;refine ε.cond (by simpa using Φ) ?_;dsimp only;refine ε.bind (R:=fun v:Bool×Met×gC×List ξ=>v.2.2.1=al∧Tr (fun j=>bt j al) (fun r=>∃e,e∈n.Ω∧e.κ=r) (cO i ⟨⟩ m) (o++[n]) v.2.1 v.2.2.2 v.1∧(∀e,e∈n.Ω.take (k+1)→dG v.2.1 e.κ)∧MO v.2.1 v.2.2.2) (ε.af (cq he) (ε.bind (hf e.κ mk ok (hG.e i n hg e jR) rq (hP _ _ ht.mo zj)) fun r hr=>?_)) fun v hv=>ε.Ψ (by unfold Ξ;omega) (ε.inl ⟨rfl,hv⟩);obtain ⟨h1,h2,h3,h4⟩:=hr;refine ε.af (a:=r.1&&w) (by cases r.1<;>rfl) (ε.ret ⟨h1,ht.trans hG.i (h2.sub fun j hj=>⟨j,⟨e,jR,hj.symm⟩,.refl⟩),fun e' fw=>?_,h4⟩);rw [rQ he] at fw
   rcases gp.1 fw with fw|fw
   ·exact h2.mo _ (En e' fw)
   ·obtain rfl:=dB.1 fw;exact h3
  ·obtain ⟨w,c,mk,al,ok⟩:=s;dsimp only at hc hi;subst hc;rw [jr] at hi;unfold xj;exact ε.cD (by simp) (ε.out (ε.ret hi))
def zF (all:gC) (m:Met):Nat:=(all.filter fun p=>!(bt p.1 m).isSome).length
def filter_le {α:Type} {p q:α→Bool}:∀{l:List α},(∀x,x∈l→p x=true→q x=true)→(l.filter p).length≤(l.filter q).length
 |[],_=>bG _
 |x::r,h=>by
  have ih:=filter_le (l:=r) fun y hy=>h y (cj _ hy);have hx:=h x (by simp);rw [ij,ij];cases hp:p x with
  |true=>rw [hx hp];simp only [if_true,cZ];omega
  |false=>cases q x<;>simp only [if_true,kC,if_false,cZ]<;>omega
def filter_lt {α:Type} {p q:α→Bool}:∀{l:List α},(∀x,x∈l→p x=true→q x=true)→(∃x,x∈l∧p x=false∧q x=true)→(l.filter p).length<(l.filter q).length
 |[],_,h=>by obtain ⟨x,hx,_⟩:=h;cases hx
 |x::r,h,hex=>by
  have hr:∀y,y∈r→p y=true→q y=true:=fun y hy=>h y (cj _ hy);have hle:=filter_le hr;have hx:=h x (by simp);rw [ij,ij];obtain ⟨y,hy,h1,h2⟩:=hex
  rcases bj.1 hy with rfl|hy
  ·rw [h1,h2];simp only [if_true,kC,if_false,cZ];omega
  ·have ih:=filter_lt hr ⟨y,hy,h1,h2⟩;cases hp:p x with
   |true=>rw [hx hp];simp only [if_true,cZ];omega
   |false=>cases q x<;>simp only [if_true,kC,if_false,cZ]<;>omega
def aeP {all:gC} {m m':Met} (h:∀j,dG m j→dG m' j):zF all m'≤zF all m :=
 filter_le fun p _ hp=>by
  cases e:(bt p.1 m).isSome with
  |false=>rfl
  |true=>have:=h p.1 e;unfold dG at this;rw [this] at hp;cases hp
def aeQ {all:gC} {m:Met} {i:Int} (hi:¬dG m i) (hg:(bt i all).isSome=true) (v:ei):zF all (cO i v m)<zF all m:=by
 refine filter_lt (fun p _ hp=>?_) ?_
 ·cases e:(bt p.1 m).isSome with
  |false=>rfl
  |true=>have:dG (cO i v m) p.1:=(pM _ _ _ _).2 (.inr e);unfold dG at this;rw [this] at hp;cases hp
 ·obtain ⟨p,hp,e⟩:=Jp.1 hg;have h1:dG (cO i v m) p.1:=(pM _ _ _ _).2 (.inl e);unfold dG at h1 hi;refine ⟨p,hp,by rw [h1];rfl,?_⟩;rw [e];cases h2:(bt i m).isSome with
  |false=>rfl
  |true=>exact absurd h2 hi
noncomputable def LV:VF→VF:=fun f a=>rP f a.1 a.2.1 a.2.2.1 a.2.2.2
def aaw:Hj LV:=fun f g h a r hr=>aeH f g (fun a r=>h a r) a.1 a.2.1 a.2.2.1 a.2.2.2 r hr
def YP {all:gC} (hG:xP all):∀(n:Nat) (i:Int) (m:Met) (o:List ξ),0≤i∧i<5000→MO m o→zF all m<n→ε (qx LV n (i,m,all,o)) (Dl all i m o)
 |0,_,_,_,_,_,h=>by omega
 |n+1,i,m,o,hr,hm,hn=>by
  show ε (rP (qx LV n) i m all o) _
  exact YN hG (fun m=>zF all m<n) (fun m m' h1 h2=>Nat.lt_of_le_of_lt (aeP h1) h2) (fun i m o=>YP hG n i m o) hr hm fun hi hg=>by have:=aeQ hi hg ⟨⟩;omega
def aiN {all:gC} (hG:xP all) (i:Int) (m:Met) (o:List ξ) (hr:0≤i∧i<5000) (hm:MO m o):ε (FP i m all o) (Dl all i m o):=by
 obtain ⟨r,h1,h2⟩:=YP hG (zF all m+1) i m o hr hm (Nat.lt_succ_self _);exact ⟨r,Tu aaw h1,h2⟩
def aca (i:Int) (m:Met) (all:gC):Ck i m all=rP (fun a=>FP a.1 a.2.1 a.2.2.1 a.2.2.2) i m all []:=rfl
def aiM {all:gC} (hG:xP all) (i:Int) (hr:0≤i∧i<5000):ε (Ck i [] all) (Dl all i [] []):=by
 rw [aca];exact YN hG (fun _=>True) (fun _ _ _ _=>trivial) (fun i m o hr hm _=>aiN hG i m o hr hm) hr ⟨j1,fun p hp=>(by cases hp),j1,fun n hn=>(by cases hn)⟩ fun _ _=>trivial
end
section
def VM {α:Type} {c:α→α→Option Int} {k:α→Int} (hc:oZ c fun a b=>gX (k a) (k b)) {x:α}:∀{l:List α},(∀y,y∈l→k y≠k x)→∃r,zy c x l=some r
 |[],_=>⟨_,rfl⟩
 |y::r,h=>by
  have hy:=h y (by simp);obtain ⟨t,ht⟩:=VM hc (x:=x) fun z hz=>h z (cj _ hz);simp only [zy,hc.1];by_cases h1:gX (k x) (k y)<0
  ·have:¬gX (k y) (k x)<0:=fun h2=>by have:=jx.1 h1;have:=jx.1 h2;omega
   rw [if_pos h1,if_neg this];exact ⟨_,rfl⟩
  ·have:gX (k y) (k x)<0:=jx.2 (by have:¬k x<k y:=fun h2=>h1 (jx.2 h2);omega);rw [if_neg h1,if_pos this,ht];exact ⟨_,rfl⟩
def Qu {α:Type} {c:α→α→Option Int} {k:α→Int} (hc:oZ c fun a b=>gX (k a) (k b)):∀{l:List α},l.Pairwise (fun a b=>k a≠k b)→∃r,tL c l=some r
 |[],_=>⟨_,rfl⟩
 |x::r,h=>by
  obtain ⟨h1,h2⟩:=eK.1 h;obtain ⟨t,ht⟩:=Qu hc h2;have hp:=(Gq hc ht).1;obtain ⟨u,hu⟩:=VM hc (x:=x) (l:=t) fun y hy=>j4 (h1 y (hp.mem_iff.1 hy));exact ⟨u,by simp only [tL];rw [ht];exact hu⟩
def aii {l:List ξ} (h:l.Pairwise (fun a b=>a.κ≠b.κ)) (hl:l.length≤100000):ε (xn Aa l) (fun r=>d_ r∧∀n,n∈r↔n∈l):=by
 obtain ⟨r,hr⟩:=Qu M4 (k:=fun n:ξ=>n.κ) h;obtain ⟨h1,h2⟩:=Gq M4 hr;exact ⟨r,Ye (by omega) hr,h2.imp fun h=>jx.1 h,fun n=>h1.mem_iff⟩
def ail {a b:List ξ} (ha:d_ a) (hb:d_ b) (h:∀n,n∈a↔n∈b):a=b:=by
 induction a generalizing b with
 |nil =>
  cases b with
  |nil=>rfl
  |cons y r=>exact absurd ((h y).2 (by simp)) (by simp)
 |cons x l ih =>
  cases b with
  |nil=>exact absurd ((h x).1 (by simp)) (by simp)
  |cons y r =>
   obtain ⟨a1,a2⟩:=eK.1 ha;obtain ⟨b1,b2⟩:=eK.1 hb
   have hxy:x=y:=by
    rcases bj.1 ((h x).1 (by simp)) with e|e
    ·exact e
    ·rcases bj.1 ((h y).2 (by simp)) with e2|e2
     ·exact e2.symm
     ·have:=b1 x e;have:=a1 y e2;omega
   subst hxy;rw [ih a2 b2 fun n=>?_];constructor
   ·intro hn
    rcases bj.1 ((h n).1 (cj _ hn)) with e|e
    ·have:=a1 n hn;rw [e] at this;omega
    ·exact e
   ·intro hn
    rcases bj.1 ((h n).2 (cj _ hn)) with e|e
    ·have:=b1 n hn;rw [e] at this;omega
    ·exact e
def nX (a:Int) (m:gC) (p:bp):gC:=if (decide (p.kG≤a)&&decide (a<p.iA))=true then cO p.eL.κ p.eL m else m
def nU (a:Int) (m:gC) (q:ξ×Int):gC:=if decide (q.2≤a)=true then cO q.1.κ q.1 m else m
def allM (s:bx) (a:Int):gC:=(s.Γ.η.zip s.aU).foldl (nU a) (s.aO.foldl (nX a) [])
def Seen (s:bx) (a:Int) (n:ξ):Prop:=(∃q,q∈s.Γ.η.zip s.aU∧q.1=n∧q.2≤a)∨∃p,p∈s.aO∧p.eL=n∧p.kG≤a∧a<p.iA
def Pl (a:Int):∀(l:List bp) (m:gC),(l.foldl (nX a) m).length≤m.length+l.length
 |[],_=>bG _
 |p::l,m=>by
  rw [xF];have h1:=Pl a l (nX a m p)
  have h2:(nX a m p).length≤m.length+1:=by
   unfold nX;split
   ·exact E8 _ _ _
   ·omega
  simp only [cZ];omega
def Wh (a:Int):∀(l:List (ξ×Int)) (m:gC),(l.foldl (nU a) m).length≤m.length+l.length
 |[],_=>bG _
 |p::l,m=>by
  rw [xF];have h1:=Wh a l (nU a m p)
  have h2:(nU a m p).length≤m.length+1:=by
   unfold nU;split
   ·exact E8 _ _ _
   ·omega
  simp only [cZ];omega
def Pk (a j:Int) (n:ξ):∀(l:List bp) (m:gC),bt j (l.foldl (nX a) m)=some n→(∃p,p∈l∧p.eL=n∧n.κ=j∧p.kG≤a∧a<p.iA)∨bt j m=some n
 |[],_,h=>.inr h
 |p::l,m,h=>by
  rw [xF] at h
  rcases Pk a j n l _ h with ⟨q,hq,h1⟩|h1
  ·exact .inl ⟨q,cj _ hq,h1⟩
  ·unfold nX at h1;split at h1
   ·next hc =>
    rw [rI] at h1;split at h1
    ·next e=>cases h1;simp at hc;exact .inl ⟨p,by simp,rfl,e.symm,hc.1,hc.2⟩
    ·exact .inr h1
   ·exact .inr h1
def O4 (a j:Int) (n:ξ):∀(l:List (ξ×Int)) (m:gC),bt j (l.foldl (nU a) m)=some n→(∃q,q∈l∧q.1=n∧n.κ=j∧q.2≤a)∨bt j m=some n
 |[],_,h=>.inr h
 |p::l,m,h=>by
  rw [xF] at h
  rcases O4 a j n l _ h with ⟨q,hq,h1⟩|h1
  ·exact .inl ⟨q,cj _ hq,h1⟩
  ·unfold nU at h1;split at h1
   ·next hc =>
    rw [rI] at h1;split at h1
    ·next e=>cases h1;simp at hc;exact .inl ⟨p,by simp,rfl,e.symm,hc⟩
    ·exact .inr h1
   ·exact .inr h1
def Xg (a j:Int):∀(l:List bp) (m:gC),((bt j m).isSome=true∨∃p,p∈l∧p.eL.κ=j∧p.kG≤a∧a<p.iA)→(bt j (l.foldl (nX a) m)).isSome=true
 |[],_,h=>h.elim id fun ⟨p,hp,_⟩=>by cases hp
 |p::l,m,h=>by
  rw [xF];refine Xg a j l _ ?_
  have key:∀i,(bt i m).isSome=true→(bt i (nX a m p)).isSome=true:=fun i hi=>by
   unfold nX;split
   ·rw [rI];split;rfl;exact hi
   ·exact hi
  rcases h with h|⟨q,hq,h1,h2,h3⟩
  ·exact .inl (key j h)
  ·rcases bj.1 hq with rfl|hq
   ·left
    unfold nX;rw [if_pos (by simp [h2,h3]),rI,if_pos h1.symm];rfl
   ·exact .inr ⟨q,hq,h1,h2,h3⟩
def O5 (a j:Int):∀(l:List (ξ×Int)) (m:gC),((bt j m).isSome=true∨∃q,q∈l∧q.1.κ=j∧q.2≤a)→(bt j (l.foldl (nU a) m)).isSome=true
 |[],_,h=>h.elim id fun ⟨p,hp,_⟩=>by cases hp
 |p::l,m,h=>by
  rw [xF];refine O5 a j l _ ?_
  have key:∀i,(bt i m).isSome=true→(bt i (nU a m p)).isSome=true:=fun i hi=>by
   unfold nU;split
   ·rw [rI];split;rfl;exact hi
   ·exact hi
  rcases h with h|⟨q,hq,h1,h2⟩
  ·exact .inl (key j h)
  ·rcases bj.1 hq with rfl|hq
   ·left
    unfold nU;rw [if_pos (by simp [h2]),rI,if_pos h1.symm];rfl
   ·exact .inr ⟨q,hq,h1,h2⟩
def aay {s:bx} {a:Int} (hu:∀m n,Seen s a m→Seen s a n→m.κ=n.κ→m=n) (j:Int) (n:ξ):bt j (allM s a)=some n↔Seen s a n∧n.κ=j:=by
 have Vp:∀n,bt j (allM s a)=some n→Seen s a n∧n.κ=j:=fun n h=>by
  rcases O4 a j n _ _ h with ⟨q,hq,h1,h2,h3⟩|h
  ·exact ⟨.inl ⟨q,hq,h1,h3⟩,h2⟩
  ·rcases Pk a j n _ _ h with ⟨p,hp,h1,h2,h3⟩|h
   ·exact ⟨.inr ⟨p,hp,h1,h3⟩,h2⟩
   ·cases h
 refine ⟨Vp n,fun ⟨h,hj⟩=>?_⟩
 have:(bt j (allM s a)).isSome=true:=by
  rcases h with ⟨q,hq,h1,h2⟩|⟨p,hp,h1,h2,h3⟩
  ·exact O5 a j _ _ (.inr ⟨q,hq,by rw [h1,hj],h2⟩)
  ·exact O5 a j _ _ (.inl (Xg a j _ _ (.inr ⟨p,hp,by rw [h1,hj],h2,h3⟩)))
 obtain ⟨m,hm⟩:=nt.1 this;obtain ⟨h1,h2⟩:=Vp m hm;rw [hm,hu m n h1 h (by rw [h2,hj])]
def af0 (s:bx) (x:bb) (hp:s.aO.length≤1000000) (hi:∀p,p∈s.aO→Ξ p.eL.κ):PW s x (0,[])=some (s.aO.foldl (nX x.At) []):=by
 refine ε.eq ?_;unfold PW;refine ε.each (l:=s.aO) (fun k m=>m=(s.aO.take k).foldl (nX x.At) []) (fun k p m Φ hx hm=>?_) (fun m hm=>?_) _ rfl
 ·have hl:=Pl x.At (s.aO.take k) [];rw [←hm,dN] at hl;simp only [gM] at hl;unfold FR;refine ε.cond (by simpa using Φ) ?_;dsimp only;rw [cq hx,cm,ba (b:=decide (x.At<p.iA)) (fun _=>rfl),cm,cm];refine ε.bind (R:=(·=nX x.At m p)) ?_ fun v hv=>ε.Ψ (by unfold Ξ;omega) (ε.inl ⟨rfl,by rw [rQ hx,G6,←hm];exact hv⟩);unfold nX;refine ε.ite (fun e=>ε.Ψ ⟨hi p (mj hx),by omega⟩ (ε.ret (by rw [if_pos e]))) fun e=>ε.ret (by rw [if_neg e])
 ·rw [jr] at hm;unfold FR;exact ε.cD (by simp) (ε.out (ε.ret hm))
def af1 (s:bx) (x:bb) (m0:gC) (h0:m0.length≤1000000) (hn:s.Γ.η.length≤1000000) (hs:s.aU.length=s.Γ.η.length) (hi:∀n,n∈s.Γ.η→Ξ n.κ):PX s x (0,m0)=some ((s.Γ.η.zip s.aU).foldl (nU x.At) m0):=by
 refine ε.eq ?_
 have hz:(s.Γ.η.zip s.aU).length=s.Γ.η.length:=by rw [ame,hs];omega
 unfold PX;refine ε.each (l:=s.Γ.η.zip s.aU) (fun k m=>m=((s.Γ.η.zip s.aU).take k).foldl (nU x.At) m0) (fun k q m Φ hx hm=>?_) (fun m hm=>?_) _ rfl
 ·obtain ⟨h1,h2⟩:=Rn hx;have hl:=Wh x.At ((s.Γ.η.zip s.aU).take k) m0;rw [←hm,dN] at hl;unfold FT;refine ε.cond (by simp;omega) ?_;dsimp only;rw [cq h1,cm,cq h2,cm];refine ε.bind (R:=(·=nU x.At m q)) ?_ fun v hv=>ε.Ψ (by unfold Ξ;omega) (ε.inl ⟨rfl,by rw [rQ hx,G6,←hm];exact hv⟩);unfold nU;refine ε.ite (fun e=>ε.Ψ ⟨hi q.1 (mj h1),by omega⟩ (ε.ret (by rw [if_pos e]))) fun e=>ε.ret (by rw [if_neg e])
 ·rw [jr] at hm;unfold FT;exact ε.cD (by rw [hz];simp) (ε.out (ε.ret hm))
def Hf (g:Int→Option ξ) (i:Int) (r:List ξ×Bool):Prop:=d_ r.1∧(∀n,n∈r.1↔l5 g i n.κ∧g n.κ=some n)∧(r.2=true↔∀j,l5 g i j→(g j).isSome=true)
def Hf.eq {g g':Int→Option ξ} {i:Int} {r r':List ξ×Bool} (h:Hf g i r) (h':Hf g' i r') (hg:∀j,g j=g' j):r=r':=by
 obtain rfl:g=g':=funext hg;refine Prod.ext (ail h.1 h'.1 fun n=>(h.2.1 n).trans (h'.2.1 n).symm) ?_;have:=h.2.2.trans h'.2.2.symm;cases h1:r.2<;>cases h2:r'.2<;>simp_all
def afZ (s:bx) (x:bb) (hp:s.aO.length≤400000) (hi:∀p,p∈s.aO→Ξ p.eL.κ) (hn:s.Γ.η.length≤400000) (hs:s.aU.length=s.Γ.η.length) (kX:∀n,n∈s.Γ.η→Ξ n.κ) (hG:xP (allM s x.At)) (hx:0≤x.κ∧x.κ<5000):ε (FO s x) (Hf (fun j=>bt j (allM s x.At)) x.κ):=by
 unfold FO;refine ε.af (af0 s x (by omega) hi) (ε.af (af1 s x _ (by have:=Pl x.At s.aO [];simp only [gM] at this;omega) (by omega) hs kX) ?_);show ε ((Ck x.κ [] (allM s x.At)).bind _) _;refine ε.bind (aiM hG x.κ hx) fun r hr=>?_;obtain ⟨h1,h2,h3,h4⟩:=hr;obtain ⟨N,hN,yF,Ei,Ej⟩:=h2.new
 have h0:∀j,¬dG [] j:=fun j h=>by cases h
 have Bp:∀j,l5 (fun j=>bt j (allM s x.At)) x.κ j↔dG r.2.1 j:=fun j=>by
  constructor
  ·intro h;induction h with
   |refl=>exact h3
   |@step j n e h5 h6 h7 ih=>exact h2.cl j ih (h0 j) n h6 e h7
  ·intro h;obtain ⟨i,rfl,h5⟩:=h2.rc j h (h0 j);exact h5
 rw [List.nil_append] at hN;refine ε.bind (aii (l:=r.2.2.2) (by rw [hN];exact Ei) (by have:=h4.ol;omega)) fun l hl=>ε.ret ⟨hl.1,fun n=>?_,?_⟩
 ·rw [hl.2,hN,Bp];constructor
  ·intro hn;obtain ⟨a,b,c⟩:=yF n hn;exact ⟨c,a⟩
  ·rintro ⟨a,b⟩;exact Ej _ a (h0 _) n b
 ·show r.1=true↔_;rw [h2.wh];exact ⟨fun a j hj=>a j ((Bp j).1 hj) (h0 j),fun a j hj _=>a j ((Bp j).2 hj)⟩
end
section
structure SJ (s:bx):Prop where
 rt:RT s.Γ
 pn:∀p,p∈s.aO→0≤p.eL.κ∧p.eL.κ<5000
 ap:s.aO.Pairwise fun p q=>(p.iA<q.iA∨p.iA=q.iA∧p.eL.κ<q.eL.κ)∧(p.eL.κ=q.eL.κ→p.iA≤q.kG)
 an:∀q,q∈s.Γ.η.zip s.aU→∀p,p∈s.aO→p.eL.κ=q.1.κ→p.iA≤q.2
 at_:s.aR.Pairwise fun x y=>x.At≤y.At
 vi:∀x,x∈s.aR→∃t,RT t∧t.Next≤5000∧(∀n,Seen s x.At n↔n∈t.η)∧∃r,gN t.η x.κ=some r∧r.τ=2
def agv {α:Type} {R:α→α→Prop} {l:List α} (h:l.Pairwise R) {a b:α} (ha:a∈l) (hb:b∈l):a=b∨R a b∨R b a:=by
 obtain ⟨i,hi⟩:=tn ha;obtain ⟨j,hj⟩:=tn hb;obtain ⟨h1,rfl⟩:=fk.1 hi;obtain ⟨h2,rfl⟩:=fk.1 hj
 rcases Lx i j with e|e|e
 ·exact .inr (.inl (vJ.1 h i j h1 h2 e))
 ·subst e;exact .inl rfl
 ·exact .inr (.inr (vJ.1 h j i h2 h1 e))
section
variable {k:Nat} {s:bx}
def Ro {q:ξ×Int} (h:q∈s.Γ.η.zip s.aU):q.1∈s.Γ.η∧∃j:Nat,s.Γ.η[j]?=some q.1∧s.aU[j]?=some q.2:=by
 obtain ⟨j,hj⟩:=tn h;obtain ⟨h1,h2⟩:=Rn hj;exact ⟨mj h1,j,h1,h2⟩
def ak1 (hs:s.aU.length=s.Γ.η.length) {n:ξ} (hn:n∈s.Γ.η):∃q,(n,q)∈s.Γ.η.zip s.aU:=by
 obtain ⟨j,hj⟩:=tn hn
 have Φ:j<s.aU.length:=by rw [hs];exact (MM hj).1
 exact ⟨s.aU[j],mj (Z8.2 ⟨hj,bF Φ⟩)⟩
def ahA (h:SJ s) {a:Int} {m n:ξ} (hm:Seen s a m) (hn:Seen s a n) (e:m.κ=n.κ):m=n:=by
 rcases hm with ⟨q,hq,rfl,h1⟩|⟨p,hp,rfl,h1,h2⟩<;>rcases hn with ⟨q',wP,rfl,g1⟩|⟨p',gJ,rfl,g1,g2⟩
 ·exact Cu h.rt.s (Ro hq).1 (Ro wP).1 e
 ·have:=h.an q hq p' gJ e.symm;omega
 ·have:=h.an q' wP p hp e;omega
 ·rcases agv h.ap hp gJ with h3|h3|h3
  ·rw [h3]
  ·have:=h3.2 e;omega
  ·have:=h3.2 e.symm;omega
def SJ.get (h:SJ s) {x:bb} (hx:x∈s.aR):∃t,RT t∧t.Next≤5000∧(∀j,bt j (allM s x.At)=gN t.η j)∧∃r,gN t.η x.κ=some r∧r.τ=2:=by
 obtain ⟨t,h1,h2,h3,h4⟩:=h.vi x hx;refine ⟨t,h1,h2,fun j=>?_,h4⟩;have hg:=aay (s:=s) (a:=x.At) (fun m n=>ahA h) j;cases e:gN t.η j with
 |none =>
  cases e2:bt j (allM s x.At) with
  |none=>rfl
  |some n =>
   have:=(hg n).1 e2;exact absurd this.2 (yC.1 e n ((h3 n).1 this.1))
 |some n =>
  have:=dQ e;exact (hg n).2 ⟨(h3 n).2 this.1,this.2⟩
def TP {all:gC} {t:θ} (h:RT t) (hx:t.Next≤5000) (hg:∀j,bt j all=gN t.η j):xP all:=by
 refine ⟨fun j n hn=>?_,fun j n hn e he=>?_,fun j n hn=>?_⟩<;>rw [hg] at hn<;>have hm:=dQ hn
 ·exact hm.2
 ·obtain ⟨q,hq⟩:=nt.1 (h.cl n hm.1 e he);have h1:=dQ hq;have:=h.lo q h1.1;rw [h1.2] at this;omega
 ·have:=(h.en n hm.1).n;omega
open Classical in
def ahz (h:SI k s) (n:ξ):Seen s s.aY n↔n∈s.Γ.η:=by
 constructor
 ·rintro (⟨q,hq,rfl,_⟩|⟨p,hp,rfl,h1,h2⟩)
  ·exact (Ro hq).1
  ·have:=(h.pt p hp).1;omega
 ·intro hn;obtain ⟨w,hw⟩:=ak1 h.si hn;exact .inl ⟨_,hw,rfl,(h.sn w (List.of_mem_zip hw).2).2⟩
def SJ.take (h:SI k s) (hk:k≤200) (hj:SJ s) (i:Int):SJ (oa s i).1:=by
 unfold oa;split
 ·exact hj
 next h1 =>
 split
 ·exact hj
 next h2 =>
 split
 ·exact hj
 refine ⟨hj.rt,hj.pn,hj.ap,hj.an,?_,fun x hx=>?_⟩
 ·refine vI.2 ⟨hj.at_,vK _ _,fun x hx y hy=>?_⟩;obtain rfl:=dB.1 hy;exact (h.ti x hx).2.2
 ·rcases gp.1 hx with hx|hx
  ·exact hj.vi x hx
  ·obtain rfl:=dB.1 hx
   obtain ⟨n,hn⟩:∃n,gN s.Γ.η i=some n:=by
    cases hg:gN s.Γ.η i with
    |none=>rw [hg] at h1;simp at h1
    |some n=>exact ⟨n,rfl⟩
   rw [jc hn] at h2;exact ⟨s.Γ,hj.rt,by have:=h.f.x;omega,fun n=>ahz h n,n,hn,by simpa using h2⟩
def ahy {i:Int} {x:bb} (hx:x∈oB s i) (n:ξ):Seen ⟨s.Γ,s.aY,s.aU,zA s.aO (oB s i),oB s i,s.Next⟩ x.At n↔Seen s x.At n:=by
 constructor
 ·rintro (⟨q,hq,rfl,h1⟩|⟨p,hp,rfl,h1,h2⟩)
  ·exact .inl ⟨q,hq,rfl,h1⟩
  ·exact .inr ⟨p,(eD.1 hp).1,rfl,h1,h2⟩
 ·rintro (⟨q,hq,rfl,h1⟩|⟨p,hp,rfl,h1,h2⟩)
  ·exact .inl ⟨q,hq,rfl,h1⟩
  ·refine .inr ⟨p,eD.2 ⟨hp,?_⟩,rfl,h1,h2⟩;unfold rO;exact C7.2 ⟨x,hx,by simp;omega⟩
def SJ.drop (hj:SJ s) (i:Int):SJ (pf s i).1:=by
 unfold pf;split
 ·exact hj
 refine ⟨hj.rt,fun p hp=>hj.pn p (eD.1 hp).1,hj.ap.filter _,fun q hq p hp he=>hj.an q hq p (eD.1 hp).1 he,hj.at_.filter _,fun x hx=>?_⟩;obtain ⟨t,h1,h2,h3,h4⟩:=hj.vi x (eD.1 hx).1;exact ⟨t,h1,h2,fun n=>(ahy hx n).trans (h3 n),h4⟩
end
end
section
section
variable {α:Type}
def c9 (c:α→Int) (l:List α):Nat:=(l.takeWhile fun x=>decide (c x<0)).length
def fH (c:α→Int) (l:List α):Bool:=match l[c9 c l]? with|some x=>c x==0|none=>false
def Mon (c:α→Int) (l:List α):Prop:=∀(j k:Nat) x y,j<k→l[j]?=some x→l[k]?=some y→c y<0→c x<0
def L6 (C:α→Option Int) (l:List α) (s1:Int×Int):Option ((Int×Int)⊕Int):=if (decide (s1.1<s1.2)) then Ψ (Ξ (s1.1+s1.2)) ((idx l ((IntKind.i64.wrap ((eX .u64 ((IntKind.u64.wrap ((s1.1+s1.2)))) (1)))))).bind fun x1=>(C x1).bind fun x2=>if (decide (x2<0)) then Ψ (Ξ ((IntKind.i64.wrap ((eX .u64 ((IntKind.u64.wrap ((s1.1+s1.2)))) (1))))+1)) (some (.inl ((((IntKind.i64.wrap ((eX .u64 ((IntKind.u64.wrap ((s1.1+s1.2)))) (1))))+1),s1.2)))) else some (.inl ((s1.1,(IntKind.i64.wrap ((eX .u64 ((IntKind.u64.wrap ((s1.1+s1.2)))) (1)))))))) else out (some s1.1)
noncomputable def Dt (C:α→Option Int) (l:List α):Option (Int×Bool):=(loop (L6 C l) (0,(l.length:Int))).bind fun v1=>((if (decide (v1<(l.length:Int))) then (idx l v1).bind fun x3=>(C x3).bind fun x4=>some ((x4==0)) else some false).bind fun c1=>some c1).bind fun v2=>some ((v1,v2))
def Ds (c:α→Int) (l:List α):c9 c l≤l.length:=by
 unfold c9;exact (aaa _).length_le
def SA {c:α→Int}:∀{l:List α} {k:Nat},k≤l.length→(∀(j:Nat) x,j<k→l[j]?=some x→c x<0)→(∀x,l[k]?=some x→¬c x<0)→c9 c l=k
 |[],k,hk,_,_=>by simp at hk;subst hk;rfl
 |x::l,0,_,_,h2=>by
  have:=h2 x rfl;unfold c9;rw [xG,if_neg (by simpa using this)];rfl
 |x::l,k+1,hk,h1,h2=>by
  have:=h1 0 x (by omega) rfl;have ih:=SA (c:=c) (l:=l) (k:=k) (by simpa using hk) (fun j y hj hy=>h1 (j+1) y (by omega) (by simpa using hy)) (fun y hy=>h2 y (by simpa using hy));unfold c9 at ih ⊢;rw [xG,if_pos (by simpa using this),cZ,ih]
def Sz {c:α→Int}:∀{l:List α} {j:Nat} {x:α},j<c9 c l→l[j]?=some x→c x<0
 |[],j,x,h,_=>by simp [c9] at h
 |y::l,j,x,h,hx=>by
  unfold c9 at h;rw [xG] at h;by_cases hy:c y<0
  ·rw [if_pos (by simpa using hy)] at h;cases j with
   |zero=>cases hx;exact hy
   |succ j=>exact Sz (l:=l) (j:=j) (by unfold c9;simpa using h) (by simpa using hx)
  ·rw [if_neg (by simpa using hy)] at h;simp at h
def L9 {c:α→Int}:∀{l:List α} {x:α},l[c9 c l]?=some x→¬c x<0
 |[],x,h=>by simp at h
 |y::l,x,h=>by
  unfold c9 at h;rw [xG] at h;by_cases hy:c y<0
  ·rw [if_pos (by simpa using hy),cZ,List.getElem?_cons_succ] at h;exact L9 (l:=l) (by unfold c9;exact h)
  ·rw [if_neg (by simpa using hy)] at h;cases h;exact hy
def yh {c:α→Int} {x:α} {l:List α} (h:c x<0):c9 c (x::l)=c9 c l+1:=by
 unfold c9;rw [xG,if_pos (by simpa using h)];rfl
def yi {c:α→Int} {x:α} {l:List α} (h:¬c x<0):c9 c (x::l)=0:=by
 unfold c9;rw [xG,if_neg (by simpa using h)];rfl
def yf {c:α→Int} {x:α} {l:List α} (h:c x<0):fH c (x::l)=fH c l:=by
 unfold fH;rw [yh h];rfl
def yg {c:α→Int} {x:α} {l:List α} (h:¬c x<0):fH c (x::l)=(c x==0):=by
 unfold fH;rw [yi h];rfl
def aaO {C:α→Option Int} {c:α→Int} {l:List α} (P:Nat→Nat→Prop) (hC:∀x,x∈l→C x=some (c x)) (hl:l.length≤1000000) (h0:P 0 l.length)
  (zj:∀a b x,P a b→a<b→b≤l.length→l[(a+b)/2]?=some x→c x<0→P ((a+b)/2+1) b)
  (IZ:∀a b x,P a b→a<b→b≤l.length→l[(a+b)/2]?=some x→¬c x<0→P a ((a+b)/2)) :
  ε (loop (L6 C l) (0,(l.length:Int))) (fun v=>∃k:Nat,v=k∧k≤l.length∧P k k):=by
 refine ε.loop (fun s:Int×Int=>∃a b:Nat,s=((a:Int),(b:Int))∧a≤b∧b≤l.length∧P a b) (fun s=>(s.2-s.1).toNat) ?_ _ ⟨0,l.length,rfl,by omega,by omega,h0⟩;rintro s ⟨a,b,rfl,jN,hb,hP⟩;unfold L6;dsimp only;by_cases Φ:a<b
 ·refine ε.cond (by simpa using Φ) (ε.Ψ (by unfold Ξ;omega) ?_);rw [V' a b (by omega)]
  have hm:(a+b)/2<l.length:=by omega
  have hx:=bF hm;refine ε.af (cq hx) (ε.af (hC _ (ek hm)) ?_);exact ε.ite (fun e=>ε.Ψ (by unfold Ξ;omega) (ε.inl ⟨⟨(a+b)/2+1,b,rfl,by omega,hb,zj a b _ hP Φ hb hx (by simpa using e)⟩,by dsimp only;omega⟩)) fun e=>ε.inl ⟨⟨a,(a+b)/2,rfl,by omega,by omega,IZ a b _ hP Φ hb hx (by simpa using e)⟩,by dsimp only;omega⟩
 ·have:a=b:=by omega
  subst this;exact ε.cD (by simp) (ε.out (ε.ret ⟨a,rfl,hb,hP⟩))
def aaN {C:α→Option Int} {c:α→Int} {l:List α} (hC:∀x,x∈l→C x=some (c x)) {k:Nat} {v:Int} (hv:v=k) :
  (((if (decide (v<(l.length:Int))) then (idx l v).bind fun x3=>(C x3).bind fun x4=>some ((x4==0)) else some false).bind fun c1=>some c1).bind fun v2=>some ((v,v2)))=some ((k:Int),match l[k]? with|some x=>c x==0|none=>false):=by
 subst hv;refine ε.eq ?_;by_cases hk:k<l.length
 ·have hx:=bF hk;rw [hx];exact ε.bind (R:=(·=(c l[k]==0))) (ε.bind (R:=(·=(c l[k]==0))) (ε.cond (by simpa using hk) (ε.af (cq hx) (ε.af (hC _ (ek hk)) (ε.ret rfl)))) fun r hr=>ε.ret hr) fun r hr=>ε.ret (by subst hr;rfl)
 ·rw [RN (by omega)];exact ε.bind (R:=(·=false)) (ε.bind (R:=(·=false)) (ε.cD (by simpa using hk) (ε.ret rfl)) fun r hr=>ε.ret hr) fun r hr=>ε.ret (by subst hr;rfl)
def HB {C:α→Option Int} {c:α→Int} {l:List α} (hC:∀x,x∈l→C x=some (c x)) (hm:Mon c l) (hl:l.length≤1000000):Dt C l=some ((c9 c l:Int),fH c l):=by
 refine ε.eq ?_;unfold Dt;refine ε.bind (aaO (fun a b=>(∀(j:Nat) x,j<a→l[j]?=some x→c x<0)∧(∀(j:Nat) x,b≤j→l[j]?=some x→¬c x<0)) hC hl ⟨fun j x h=>by omega,fun j x h hx=>by rw [RN (by omega)] at hx;cases hx⟩ ?_ ?_) ?_
 ·rintro a b x ⟨h1,h2⟩ jN hb hx hc;refine ⟨fun j y hj hy=>?_,h2⟩
  rcases gP j ((a+b)/2) with h|h
  ·exact hm j _ y x h hy hx hc
  ·have:j=(a+b)/2:=by omega
   subst this;rw [hx] at hy;cases hy;exact hc
 ·rintro a b x ⟨h1,h2⟩ jN hb hx hc;refine ⟨h1,fun j y hj hy=>?_⟩
  rcases gP ((a+b)/2) j with h|h
  ·exact fun s9=>hc (hm _ j x y h hx hy s9)
  ·have:j=(a+b)/2:=by omega
   subst this;rw [hx] at hy;cases hy;exact hc
 ·rintro v ⟨k,hv,hk,h1,h2⟩;have e:=SA hk h1 (fun x hx=>h2 k x (bG _) hx);rw [aaN hC hv];exact ε.ret (by unfold fH;rw [e])
end
end
section
def SL:∀{a b:List UInt8},mP a b<0↔fX a b=true
 |[],[]=>by simp [mP,fX]
 |[],_::_=>by simp [mP,fX]
 |_::_,[]=>by simp [mP,fX]
 |a::x,b::y=>by
  have ih:=SL (a:=x) (b:=y);simp only [mP,fX,ug,bJ,decide_eq_true_eq,beq_iff_eq];by_cases h1:a<b
  ·rw [if_pos h1];simp [h1]
  ·rw [if_neg h1];by_cases h2:b<a
   ·rw [if_pos h2];refine ⟨fun h=>by omega,fun h=>?_⟩
    rcases h with h|⟨rfl,-⟩
    ·exact absurd h h1
    ·exact absurd h2 h1
   ·rw [if_neg h2,ih];have:a=b:=aam (LG.1 h2) (LG.1 h1);simp [h1,this]
def SH:∀{a b:List UInt8},mP a b=0↔a=b
 |[],[]=>by simp [mP]
 |[],_::_=>by simp [mP]
 |_::_,[]=>by simp [mP]
 |a::x,b::y=>by
  have ih:=SH (a:=x) (b:=y);simp only [mP];by_cases h1:a<b
  ·rw [if_pos h1];refine ⟨fun h=>by omega,fun h=>?_⟩;injection h with h _;subst h;exact absurd h1 (aao _)
  ·rw [if_neg h1];by_cases h2:b<a
   ·rw [if_pos h2];refine ⟨fun h=>by omega,fun h=>?_⟩;injection h with h _;subst h;exact absurd h2 (aao _)
   ·rw [if_neg h2,ih];have:a=b:=aam (LG.1 h2) (LG.1 h1);subst this;simp
def cN (i:Int) (x:ξ):Int:=gX x.κ i
def vY {i:Int} {x:ξ}:cN i x<0↔x.κ<i:=jx
def AK {i:Int} {x:ξ}:(cN i x==0)=true↔x.κ=i:=ym
def aeK {l:List ξ} (h:d_ l) (i:Int):Mon (cN i) l:=fun j k x y pC hx hy hc=>by
 have:=Gt h hx hy pC;rw [vY] at *;omega
def MK {i:Int}:∀{l:List ξ},d_ l→gN l i=if fH (cN i) l=true then l[c9 (cN i) l]? else none
 |[],_=>by simp [gN,fH]
 |x::l,h=>by
  have h2:=(eK.1 h).2;have h1:=(eK.1 h).1;rw [q6];by_cases hx:cN i x<0
  ·rw [yf hx,yh hx,if_neg (by have:=vY.1 hx;omega),MK h2];rfl
  ·rw [yg hx,yi hx];rw [vY] at hx;by_cases he:x.κ=i
   ·rw [if_pos he,if_pos (AK.2 he)];rfl
   ·rw [if_neg he,if_neg (fun h=>he (AK.1 h))]
    exact yC.2 fun n hn=>by have:=h1 n hn;omega
def L8 {i:Int} {l:List ξ} (h:d_ l):fH (cN i) l=(gN l i).isSome:=by
 rw [MK h];cases hb:fH (cN i) l with
 |false=>rfl
 |true =>
  rw [if_pos rfl];unfold fH at hb;cases hx:l[c9 (cN i) l]? with
  |none=>rw [hx] at hb;cases hb
  |some x=>rfl
def Sy {i:Int} {l:List ξ} (h:d_ l) {n:ξ} (hn:gN l i=some n):l[c9 (cN i) l]?=some n:=by
 have:=L8 (i:=i) h;rw [hn] at this;rw [MK h,if_pos (show fH (cN i) l=true from this)] at hn;exact hn
def Xm {n:ξ}:∀{l:List ξ},d_ l→cG n l=if fH (cN n.κ) l=true then l.set (c9 (cN n.κ) l) n else dM l (c9 (cN n.κ) l:Int) [n]
 |[],_=>by simp [cG,fH,dM]
 |x::l,h=>by
  have h2:=(eK.1 h).2;have h1:=(eK.1 h).1;rw [B4];by_cases hx:cN n.κ x<0
  ·rw [if_neg (by have:=vY.1 hx;omega),yf hx,yh hx,Xm h2];split
   ·rfl
   ·unfold dM;rw [gU,gU];rfl
  ·rw [yg hx,yi hx,if_pos (by rw [vY] at hx;omega)];rw [vY] at hx;by_cases he:x.κ=n.κ
   ·rw [if_pos (AK.2 he),List.set_cons_zero,ij,if_neg (by simpa using he),ui.2];intro y hy;have:=h1 y hy;simp;omega
   ·rw [if_neg (fun h=>he (AK.1 h)),ui.2]
    ·rfl
    ·intro y hy
     rcases bj.1 hy with rfl|hy
     ·simpa using he
     ·have:=h1 y hy;simp;omega
def S9 {i:Int}:∀{l:List ξ},d_ l→l.filter (fun x=>x.κ != i)=if fH (cN i) l=true then fY l (c9 (cN i) l:Int) ((c9 (cN i) l:Int)+1) else l
 |[],_=>by simp [fH]
 |x::l,h=>by
  have h2:=(eK.1 h).2;have h1:=(eK.1 h).1;by_cases hx:cN i x<0
  ·rw [ij,if_pos (by have:=vY.1 hx;simp;omega),yf hx,yh hx,S9 h2];split
   ·unfold fY;rw [gU,gU,show ((c9 (cN i) l:Int)+1).toNat=c9 (cN i) l+1 by omega,show (((c9 (cN i) l+1:Nat):Int)+1).toNat=c9 (cN i) l+1+1 by omega];rfl
   ·rfl
  ·rw [yg hx,yi hx];rw [vY] at hx
   have hf:l.filter (fun x=>x.κ != i)=l:=ui.2 fun y hy=>by have:=h1 y hy;simp;omega
   by_cases he:x.κ=i
   ·rw [ij,if_neg (by simpa using he),if_pos (AK.2 he),hf];rfl
   ·rw [ij,if_pos (by simpa using he),if_neg (fun h=>he (AK.1 h)),hf]
def WD {t:θ} (hs:d_ t.η) (hl:t.η.length≤1000000) (i:Int):tV ⟨t⟩ i=some (((c9 (cN i) t.η:Int),fH (cN i) t.η),⟨t⟩):=by
 have h:=HB (C:=fun x=>Ah x i) (c:=cN i) (l:=t.η) (fun x _=>by unfold Ah;rw [xp];rfl) (aeK hs i) hl;unfold tV;show ((Dt (fun x=>Ah x i) t.η).bind _)=_;rw [h];rfl
def sz {α:Type} {l:List α} {K:Nat} (h:l.length*K≤140737488355328):o_ (fun b1:Bool=>b1=true→l=[]) (fun b1=>if b1 then some ([]:List α) else Ψ ((([]:List α).length+l.length)*K≤140737488355328) (some (([]:List α)++l)))=some l :=
 Sl ⟨false,fun h=>by cases h⟩ fun b hb=>by
  cases b with
  |false=>rw [if_neg (by simp),gq (by simpa using h)];rfl
  |true=>rw [hb rfl];rfl
def BX {t:θ} (hs:d_ t.η) (hl:t.η.length≤1000000) (n:ξ):vw n ⟨t⟩=some (t.Next,t.aj,cG n t.η):=by
 refine ε.eq ?_;unfold vw Ab;refine ε.af (WD hs hl n.κ) ?_;dsimp only;refine ε.af (sz (by omega)) ?_;rw [Xm hs];have hk:=Ds (cN n.κ) t.η;refine ε.ite (fun hb=>?_) fun hb=>?_
 ·rw [if_pos hb];have hg:=L8 (i:=n.κ) hs;rw [hb] at hg;obtain ⟨m,hm⟩:=nt.1 hg.symm;exact ε.af (cq (Sy hs hm)) (ε.ret (by rw [gU]))
 ·rw [if_neg hb];exact ε.Ψ ⟨by omega,by omega,by simp,by simp only [cZ,gM];omega⟩ (ε.ret rfl)
def W3 {t:θ} (hs:d_ t.η) (hl:t.η.length≤1000000) (n0 n1 n2:Int) (n3:List UInt8) (n5:Int) (E:List aP):CP n0 n1 n2 n3 n5 ⟨t⟩ E=some (t.Next,t.aj,cG ⟨n0,n1,n2,n3,E,n5⟩ t.η):=BX hs hl ⟨n0,n1,n2,n3,E,n5⟩
def WK {t:θ} (hs:d_ t.η) (hl:t.η.length≤1000000) (i:Int):CM i ⟨t⟩=some (t.η.filter (fun x=>x.κ != i),t.Next,t.aj):=by
 refine ε.eq ?_;unfold CM Ab;refine ε.af (WD hs hl i) ?_;dsimp only;rw [S9 hs];have hk:=Ds (cN i) t.η;refine ε.ite (fun hb=>?_) fun hb=>?_
 ·rw [if_pos hb];have hg:=L8 (i:=i) hs;rw [hb] at hg;obtain ⟨m,hm⟩:=nt.1 hg.symm;have:=(fk.1 (Sy hs hm)).1;exact ε.af (sz (by omega)) (ε.Ψ (by unfold Ξ;omega) (ε.Ψ (by omega) (ε.ret rfl)))
 ·rw [if_neg hb];exact ε.ret rfl
def ou (l:List aP):Prop:=l.Pairwise fun a b=>fX a.aN b.aN=true
def cS (s:List UInt8) (x:aP):Int:=mP x.aN s
def AL {s:List UInt8} {x:aP}:cS s x<0↔fX x.aN s=true:=SL
def HE {s:List UInt8} {x:aP}:(cS s x==0)=true↔x.aN=s:=by rw [beq_iff_eq];exact SH
def aeJ {l:List aP} (h:ou l) (s:List UInt8):Mon (cS s) l:=fun j k x y pC hx hy hc=>by
 obtain ⟨h1,rfl⟩:=fk.1 hx;obtain ⟨h2,rfl⟩:=fk.1 hy;rw [AL] at *;exact L5 (vJ.1 h j k h1 h2 pC) hc
def Te {s:List UInt8} {x y:aP} (hx:¬cS s x<0) (hl:fX x.aN y.aN=true):y.aN≠s:=by
 intro e;rw [e] at hl;exact hx (AL.2 hl)
def MA {s:List UInt8}:∀{l:List aP},ou l→l.find? (fun e=>e.aN==s)=if fH (cS s) l=true then l[c9 (cS s) l]? else none
 |[],_=>by simp [fH]
 |x::l,h=>by
  have h2:=(eK.1 h).2;have h1:=(eK.1 h).1;rw [RM];by_cases hx:cS s x<0
  ·have aQ:(x.aN==s)=false:=by
    rw [beq_eq_false_iff_ne];intro e;rw [AL,e,Hy] at hx;cases hx
   rw [aQ,yf hx,yh hx,MA h2];rfl
  ·rw [yg hx,yi hx];by_cases he:x.aN=s
   ·rw [if_pos (HE.2 he),show (x.aN==s)=true by simpa using he];rfl
   ·rw [if_neg (fun h=>he (HE.1 h)),show (x.aN==s)=false by simpa using he]
    exact G5.2 fun y hy=>by simpa using Te hx (h1 y hy)
def Dr {s:List UInt8} {l:List aP} (h:ou l):fH (cS s) l=(l.find? (fun e=>e.aN==s)).isSome:=by
 rw [MA h];cases hb:fH (cS s) l with
 |false=>rfl
 |true =>
  rw [if_pos rfl];unfold fH at hb;cases hx:l[c9 (cS s) l]? with
  |none=>rw [hx] at hb;cases hb
  |some x=>rfl
def L_ {s:List UInt8} {l:List aP} (h:ou l) {e:aP} (he:l.find? (fun e=>e.aN==s)=some e):l[c9 (cS s) l]?=some e:=by
 have:=Dr (s:=s) h;rw [he] at this;rw [MA h,if_pos (show fH (cS s) l=true from this)] at he;exact he
def VI {e:aP}:∀{l:List aP},ou l→(∀x,x∈l→x.aN≠e.aN)→nS e l=dM l (c9 (cS e.aN) l:Int) [e]
 |[],_,_=>by simp [nS,dM]
 |x::l,h,hn=>by
  have h2:=(eK.1 h).2;have hx:=hn x (by simp);rw [EY];by_cases hc:cS e.aN x<0
  ·rw [yh hc,if_neg (by rw [AL] at hc;simp [hc]),VI h2 fun y hy=>hn y (cj _ hy)];unfold dM;rw [gU,gU];rfl
  ·rw [yi hc,if_pos (by rw [AL] at hc;simp [hc,hx])];rfl
def Tm {s:List UInt8}:∀{l:List aP},ou l→l.filter (fun e=>!(e.aN==s))=if fH (cS s) l=true then fY l (c9 (cS s) l:Int) ((c9 (cS s) l:Int)+1) else l
 |[],_=>by simp [fH]
 |x::l,h=>by
  have h2:=(eK.1 h).2;have h1:=(eK.1 h).1;by_cases hx:cS s x<0
  ·have aQ:(x.aN==s)=false:=by
    rw [beq_eq_false_iff_ne];intro e;rw [AL,e,Hy] at hx;cases hx
   rw [ij,if_pos (by rw [aQ];rfl),yf hx,yh hx,Tm h2];split
   ·unfold fY;rw [gU,gU,show ((c9 (cS s) l:Int)+1).toNat=c9 (cS s) l+1 by omega,show (((c9 (cS s) l+1:Nat):Int)+1).toNat=c9 (cS s) l+1+1 by omega];rfl
   ·rfl
  ·rw [yg hx,yi hx]
   have hf:l.filter (fun e=>!(e.aN==s))=l:=ui.2 fun y hy=>by simpa using Te hx (h1 y hy)
   by_cases he:x.aN=s
   ·rw [ij,if_neg (by simpa using he),if_pos (HE.2 he),hf];rfl
   ·rw [ij,if_pos (by simpa using he),if_neg (fun h=>he (HE.1 h)),hf]
def Fj {n:ξ} (hs:ou n.Ω) (hl:n.Ω.length≤1000000) (s:List UInt8):tU n s=some ((c9 (cS s) n.Ω:Int),fH (cS s) n.Ω):=by
 have h:=HB (C:=fun x=>CI x s) (c:=cS s) (l:=n.Ω) (fun x _=>rfl) (aeJ hs s) hl;unfold tU;show ((Dt (fun x=>CI x s) n.Ω).bind _)=_;rw [h];rfl
def aa7 (l:List UInt8) (i:Nat) (h:i<l.length):1≤(pc l i).2∧i+(pc l i).2≤l.length∧(((pc l i).1=(l[i]!).toNat∧(l[i]!).toNat<128)∨(128≤(pc l i).1∧128≤(l[i]!).toNat))∧∀j,1≤j→j<(pc l i).2→128≤(l[i+j]!).toNat:=by
 have hg:∀k,((⟨l.toArray⟩:ByteArray).get! k)=l[k]! := fun k=>by
  show l.toArray[k]! = _;simp
 have hz:(⟨l.toArray⟩:ByteArray).size=l.length:=by show l.toArray.size=_;simp
 have hc:∀k,(decide (i+k<l.length)&&(l[i+k]!).toNat/64==2)=true→i+k<l.length∧128≤(l[i+k]!).toNat:=fun k h=>by
  rw [bJ,decide_eq_true_eq,beq_iff_eq] at h;omega
 have e1:∀b:Nat,¬b<128→1≤((65533,1):Nat×Nat).2∧i+((65533,1):Nat×Nat).2≤l.length∧((((65533,1):Nat×Nat).1=b∧b<128)∨(128≤((65533,1):Nat×Nat).1∧128≤b))∧∀j,1≤j→j<((65533,1):Nat×Nat).2→128≤(l[i+j]!).toNat:=fun b hb=>⟨by simp,by simp;omega,.inr ⟨by simp,by omega⟩,fun j h1 h2=>by simp at h2;omega⟩;unfold pc Utf8.decode;simp only [hg,hz,Nat.add_zero,Utf8.runeError];generalize ep:(l[i]!).toNat=b0 at *;split
 ·exact ⟨by simp,by simp;omega,.inl ⟨rfl,by omega⟩,fun j h1 h2=>by simp at h2;omega⟩
 rename_i hb;split
 ·rename_i h2;rw [bJ] at h2;have c1:=hc 1 h2.2;split
  ·exact ⟨by simp,by dsimp only;omega,.inr ⟨by dsimp only;omega,by omega⟩,fun j h3 h4=>by
    dsimp only at h4
    have:j=1:=by omega
    subst this;exact c1.2⟩
  ·exact e1 b0 hb
 split
 ·rename_i h2;rw [bJ,bJ] at h2;have c1:=hc 1 h2.1.2;have c2:=hc 2 h2.2;split
  ·rename_i h5;rw [bJ,decide_eq_true_eq] at h5
   exact ⟨by simp,by dsimp only;omega,.inr ⟨by dsimp only;omega,by omega⟩,fun j h3 h4=>by
    dsimp only at h4
    rcases (by omega:j=1∨j=2) with rfl|rfl
    ·exact c1.2
    ·exact c2.2⟩
  ·exact e1 b0 hb
 split
 ·rename_i h2;rw [bJ,bJ,bJ] at h2;have c1:=hc 1 h2.1.1.2;have c2:=hc 2 h2.1.2;have c3:=hc 3 h2.2;split
  ·rename_i h5;rw [bJ,decide_eq_true_eq] at h5
   exact ⟨by simp,by dsimp only;omega,.inr ⟨by dsimp only;omega,by omega⟩,fun j h3 h4=>by
    dsimp only at h4
    rcases (by omega:j=1∨j=2∨j=3) with rfl|rfl|rfl
    ·exact c1.2
    ·exact c2.2
    ·exact c3.2⟩
  ·exact e1 b0 hb
 ·exact e1 b0 hb
def qT (x:UInt8):Bool:=decide ((x.toNat:Int)<32)||(x.toNat:Int)==47
def af' (s:List UInt8):O0 s 0=some (!s.any qT):=by
 refine ε.eq ?_;unfold O0;refine ε.loop (fun n:Nat=>n≤s.length∧(s.take n).any qT=false) (fun n=>s.length-n) ?_ 0 ⟨by omega,by simp⟩;rintro n ⟨hn,hp⟩;unfold Js Jt
 have ady:s.any qT=((s.take n).any qT||(s.drop n).any qT):=by rw [←List.any_append,List.take_append_drop]
 by_cases Φ:n<s.length
 ·obtain ⟨h1,h2,h3,h4⟩:=aa7 s n Φ
  have hx:s[n]! = s[n]:=by rw [Z5,bF Φ];rfl
  refine ε.cond (by simpa using Φ) ?_
  have ach:qT s[n]=(decide ((((pc s n).1:Nat):Int)<32)||(((pc s n).1:Nat):Int)==47):=by
   rw [←hx];unfold qT
   rcases h3 with ⟨e,-⟩|⟨e1,e2⟩
   ·rw [e]
   ·rw [decide_eq_false (by omega),decide_eq_false (by omega),beq_eq_false_iff_ne.2 (by omega),beq_eq_false_iff_ne.2 (by omega)]
  refine ε.bind (R:=(·=qT s[n])) (ε.bind (R:=(·=qT s[n])) ?_ fun r hr=>ε.ret hr) fun r hr=>?_
  ·rw [ach];refine ε.ite (fun h=>ε.ret ?_) fun h=>ε.ret ?_
   ·rw [h];rfl
   ·rw [ic.2 h];rfl
  ·subst hr;have hd:s.drop n=s[n]::s.drop (n+1):=sa Φ;refine ε.ite (fun hb=>ε.out (ε.ret ?_)) fun hb=>ε.inl ⟨⟨h2,?_⟩,by omega⟩
   ·rw [ady,hd,List.any_cons,hb];simp
   ·have hb:qT s[n]=false:=by simpa using hb
    rw [p0];intro x gv;obtain ⟨k,hk⟩:=tn gv;rw [gn] at hk;by_cases UP:k<n+(pc s n).2
    ·rw [if_pos UP] at hk
     rcases Lx k n with h|h|h
     ·rw [p0] at hp;exact hp x (mj (by rw [gn,if_pos h];exact hk))
     ·subst h;rw [bF Φ] at hk;cases hk;simpa using hb
     ·have:=h4 (k-n) (by omega) (by omega);rw [show n+(k-n)=k by omega,Z5,hk] at this;have:128≤x.toNat:=this;unfold qT;simp;omega
    ·rw [if_neg UP] at hk;cases hk
 ·have:n=s.length:=by omega
  subst this;rw [jr] at hp;exact ε.cD (by simp) (ε.out (ε.ret (by rw [hp];rfl)))
def Fm (s:List UInt8):w_ s=some (f_ s):=by
 refine ε.eq ?_;unfold w_ f_;refine ε.bind (R:=(·=(s == []||decide ((s.length:Int)>32)||s == [46]||s == [46,46]))) (ε.bind (R:=(·=(s == []||decide ((s.length:Int)>32)))) ?_ fun c hc=>ε.bind (R:=(·=(s == []||decide ((s.length:Int)>32)||s == [46]))) ?_ fun c2 bu=>ε.bind (R:=(·=(s == []||decide ((s.length:Int)>32)||s == [46]||s == [46,46]))) ?_ fun c3 dU=>ε.ret dU) fun r hr=>?_
 ·cases s == []<;>exact ε.ret rfl
 ·subst hc;cases (s == []||decide ((s.length:Int)>32))<;>exact ε.ret rfl
 ·subst bu;cases (s == []||decide ((s.length:Int)>32)||s == [46])<;>exact ε.ret rfl
 ·have e:(decide (1≤s.length)&&decide (s.length≤32)&&!(s == [46])&&!(s == [46,46]))=!r:=by
   subst hr;cases s with
   |nil=>rfl
   |cons a l =>
    simp only [cZ,Bool.not_or];congr 1;congr 1;rw [show ((a::l)==([]:List UInt8))=false by rfl,decide_eq_true (by omega:1≤l.length+1),amc];congr 1;rw [←decide_not];congr 1;apply propext;omega
  refine ε.ite (fun h=>ε.ret ?_) fun h=>?_
  ·rw [e,h];rfl
  ·rw [af',e];refine ε.ret ?_;rw [ic.2 h,amc,Lh];rfl
end
section
def ε.eG {α:Type} {p:Prop} [Decidable p] {x y:Option α} {a b:α} (h:p→ε x (·=a)) (h':¬p→ε y (·=b)):ε (if p then x else y) (·=if p then a else b):=by
 split
 ·exact h ‹_›
 ·exact h' ‹_›
structure ST (B:Nat) (t:θ):Prop where
 f:TF B t
 s:d_ t.η
 e:∀n,n∈t.η→ou n.Ω
section
variable {B:Nat} {t:θ} {δ:Int→Nat}
def W.st (h:W t δ) (hf:TF B t):ST B t:=⟨hf,h.s,fun n hn=>(h.en n hn).s⟩
def ST.g (h:ST B t) (i:Int):ou (gD t.η i).Ω:=by
 rcases Iq t.η i with hm|hm
 ·exact h.e _ hm
 ·rw [hm];exact j1
def ST.n (h:ST B t) (hB:B≤100000):t.η.length≤1000000:=by have:=h.f.n;omega
def ST.JU (h:ST B t) {n:ξ} {x c:Int} (hf:TF (B+1) ⟨cG n t.η,x,c⟩) (he:ou n.Ω):ST (B+1) ⟨cG n t.η,x,c⟩:=by
 refine ⟨hf,zP h.s,fun y hy=>?_⟩
 rcases tC hy with rfl|⟨hy,-⟩
 ·exact he
 ·exact h.e _ hy
def aik {l:List aP} (h:ou l) (p:aP→Bool):ou (l.filter p):=Z0 p h
def ST.OR (h:ST B t) (i:Int) (s:List UInt8):ST (B+1) (eN t i s):=h.JU (h.f.qt i s) (aik (h.g i) _)
def ST.up (h:ST B t) {C:Nat} (hC:B≤C):ST C t:=⟨h.f.up hC,h.s,h.e⟩
def JI (h:ST B t) (hB:B≤100000) (i:Int):xv ⟨t⟩ i=some (dF t.η i,⟨t⟩):=by
 refine ε.eq ?_;unfold xv;refine ε.af (rK h.s (h.n hB) i) ?_;unfold dF;dsimp only;by_cases hg:(gN t.η i).isSome=true
 ·rw [if_pos hg];refine ε.cD (by rw [hg];simp) ?_;by_cases hk:((gD t.η i).τ != 2)=true
  ·rw [if_pos hk,if_pos hk];exact ε.ret rfl
  ·rw [if_neg hk,if_neg hk];exact ε.ret rfl
 ·rw [if_neg hg];exact ε.cond (by simpa using hg) (ε.ret rfl)
def DB (h:ST B t) (i:Int):ou (dF t.η i).1.Ω:=by
 unfold dF;split
 ·split
  ·exact j1
  ·exact h.g i
 ·exact j1
def JH (h:ST B t) (hB:B≤100000) (i:Int) (s:List UInt8):vr t i s=some (eV t i s):=by
 refine ε.eq ?_;unfold vr eV;refine ε.af (JI h hB i) ?_;dsimp only;refine ε.eG (fun _=>ε.ret rfl) fun _=>ε.af (Fm s) (ε.eG (fun _=>ε.ret rfl) fun _=>?_);refine ε.af (Fj (DB h i) (by have:=Mh h.f i;omega) s) ?_;dsimp only;have hf:=Dr (s:=s) (DB h i);cases hx:(dF t.η i).1.Ω.find? (fun e=>e.aN==s) with
 |none=>rw [hx] at hf;exact ε.cond (by rw [hf];rfl) (ε.ret rfl)
 |some e=>rw [hx] at hf;exact ε.cD (by rw [hf];simp) (ε.af (cq (L_ (DB h i) hx)) (ε.ret rfl))
def W7 {l:List ξ} {x c:Int} (hs:d_ l) (hl:l.length≤1000000):∀{d:Nat} {i:Int},Deep l i d→∀out:List Int,out.length+d≤l.length+1→∃r,loop Aj (i,l,x,c,out)=some (out++r,⟨⟨l,x,c⟩⟩)∧r.length=d∧∀y,(y=i∨y∈r)↔jt l y i
 |_,_,.root,out,ho=>by
  refine ⟨[],?_,rfl,fun y=>?_⟩
  ·refine nT ?_;unfold Aj;simp [KZ,Cat.out]
  ·refine ⟨fun h=>?_,fun h=>?_⟩
   ·rcases h with rfl|h
    ·exact .refl
    ·cases h
   ·cases h with
    |refl=>exact .inl rfl
    |step h1=>exact absurd rfl h1
 |_,i,.step (n:=n) (d:=d) h1 h2 h3 h4,out,ho=>by
  obtain ⟨r,e1,e2,e3⟩:=W7 (x:=x) (c:=c) hs hl h4 (out++[n.Up]) (by simp only [cP,cZ,gM];omega);refine ⟨n.Up::r,?_,by simp [e2],fun y=>?_⟩
  ·have hb:Aj (i,l,x,c,out)=some (.inl (n.Up,l,x,c,out++[n.Up])):=by
    unfold Aj
    have hd:decide ((out.length:Int)≤(l.length:Int))=true:=by simp;omega
    have hg:=rK (t:=⟨l,x,c⟩) hs hl i
    have aQ:(i != 1)=true:=by simpa using h1
    have hk:(n.τ != 2)=false:=by simp [h3]
    have eu:gD l i=n:=by unfold gD;rw [h2];rfl
    simp only [aQ,if_true,hd,cm,hg,h2,Option.isSome_some,eu,hk,Bool.not_true,kC,if_false];rw [gq (by simp only [cZ,gM];omega)]
   rw [tj hb,e1,kD];rfl
  ·refine ⟨fun h=>?_,fun h=>?_⟩
   ·rcases h with rfl|h
    ·exact .refl
    ·exact .step h1 h2 h3 ((e3 y).1 (bj.1 h))
   ·cases h with
    |refl=>exact .inl rfl
    |step g1 g2 g3 g4=>rw [h2] at g2;cases g2;exact .inr (bj.2 ((e3 y).2 g4))
def Ph (h:ST B t) (hB:B≤100000) {i:Int} {d:Nat} (hd:Deep t.η i d):∃r,CR ⟨t⟩ i=some (r,⟨t⟩)∧r.length=d+1∧∀y,y∈r↔jt t.η y i:=by
 obtain ⟨r,e1,e2,e3⟩:=W7 (x:=t.Next) (c:=t.aj) h.s (h.n hB) hd [i] (by have:=yp hd;simp;omega);exact ⟨i::r,e1,by simp [e2],fun y=>by rw [bj];exact e3 y⟩
def WJ (h:ST B t) (hB:B≤100000) {i:Int} {d:Nat} (hd:Deep t.η i d):CL ⟨t⟩ i=some ((d:Int),⟨t⟩):=by
 obtain ⟨r,e1,e2,-⟩:=Ph h hB hd;refine ε.eq ?_;unfold CL;have:=yp hd;have:=h.n hB;refine ε.af e1 (ε.Ψ (by unfold Ξ;dsimp only;omega) (ε.ret ?_));dsimp only;rw [e2,show (((d+1:Nat):Int)-1)=(d:Int) by omega]
def aeS {l:List aP} (h:ou l) (s:List UInt8):(BQ l s).isSome=fH (cS s) l:=by
 rw [Dr h];unfold BQ;cases hx:l.findIdx? (fun e=>e.aN==s) with
 |none=>rw [DJ hx];rfl
 |some k=>obtain ⟨x,-,hf,-⟩:=sI hx;rw [hf];rfl
def WV (h:W t δ) (hf:TF B t) (hB:B≤100000) (i:Int) (s:List UInt8):CN ⟨t⟩ i s=some (sG t i s,⟨t⟩):=by
 have bT:=h.st hf;refine ε.eq ?_;unfold CN;refine ε.af (JI bT hB i) ?_;unfold sG;dsimp only;by_cases h0:((dF t.η i).2 != 0)=true
 ·rw [if_pos h0,if_pos h0];exact ε.ret rfl
 rw [if_neg h0,if_neg h0];refine ε.af (Fm s) ?_;by_cases h1:(!f_ s)=true
 ·rw [if_pos h1,if_pos h1];exact ε.ret rfl
 rw [if_neg h1,if_neg h1];refine ε.af (Fj (DB bT i) (by have:=Mh hf i;omega) s) ?_;dsimp only;rw [aeS (DB bT i)];by_cases h2:fH (cS s) (dF t.η i).1.Ω=true
 ·rw [if_pos h2,if_pos h2];exact ε.ret rfl
 rw [if_neg h2,if_neg h2];obtain ⟨m,g1,g2,g3,g4⟩:=DC (nw h0);obtain ⟨d,d1,d2,d3,d4⟩:=W.deep h g1 g2;rw [g3];unfold Io;rw [(dQ g1).2,d4];refine ε.bind (R:=(·=((decide ((m.Ω.length:Int)≥64)||decide ((d:Int)≥12)||decide (t.aj≥1099511627776)),t.η,t.Next,t.aj))) (ε.bind (R:=(·=((decide ((m.Ω.length:Int)≥64)||decide ((d:Int)≥12)),t.η,t.Next,t.aj))) ?_ fun r hr=>?_) fun r hr=>?_
 ·refine ε.ite (fun e=>ε.ret (by rw [e];rfl)) fun e=>?_;rw [ic.2 e];exact ε.af (WJ bT hB d1) (ε.ret rfl)
 ·subst hr;dsimp only;refine ε.bind (R:=(·=(decide ((m.Ω.length:Int)≥64)||decide ((d:Int)≥12)||decide (t.aj≥1099511627776)))) (ε.ite (fun e=>ε.ret (by rw [e];rfl)) fun e=>ε.ret (by rw [ic.2 e];rfl)) fun r hr=>ε.ret (by rw [hr])
 ·subst hr;dsimp only;by_cases h3:(decide ((m.Ω.length:Int)≥64)||decide ((d:Int)≥12)||decide (t.aj≥1099511627776))=true
  ·rw [if_pos h3,if_pos h3];exact ε.ret rfl
  ·rw [if_neg h3,if_neg h3];exact ε.ret rfl
def WN (h:ST B t) (hB:B≤100000) (i:Int) (s:List UInt8) (o:Int) (bw:∀e,e∈(gD t.η i).Ω→e.aN≠s):GD i s o ⟨t⟩=some ((j9 t i s o).Next,(j9 t i s o).aj,(j9 t i s o).η):=by
 refine ε.eq ?_;unfold GD xl;refine ε.af (rK h.s (h.n hB) i) ?_;have hE:=h.f.gE i;have hk:=Ds (cS s) (gD t.η i).Ω;have hc:=h.f.c;refine ε.af (Fj (h.g i) (by omega) s) ?_;dsimp only;refine ε.af (sz (by omega)) (ε.Ψ ⟨by omega,by omega,by simp,by simp only [cZ,gM];omega⟩ (ε.Ψ (by unfold Ξ;omega) ?_));refine ε.af (W3 (t:=⟨t.η,t.Next,t.aj+1⟩) h.s (h.n hB) _ _ _ _ _ _) (ε.ret ?_);unfold j9;dsimp only;rw [VI (e:=⟨s,o,t.aj⟩) (h.g i) bw]
def WM (h:ST B t) (hB:B≤100000) (i:Int) (s:List UInt8) (o:Int) (bw:∀e,e∈(gD t.η i).Ω→e.aN≠s):GC i s o t.Next t.aj t.η=some ((j9 t i s o).Next,(j9 t i s o).aj,(j9 t i s o).η):=WN h hB i s o bw
def Pd (h:ST B t) (hB:B≤100000) (i:Int) (s:List UInt8) {e:aP} (he:(gD t.η i).Ω.find? (fun e=>e.aN==s)=some e):Ai i s ⟨t⟩=some ((eN t i s).η,(eN t i s).Next,(eN t i s).aj):=by
 refine ε.eq ?_;unfold Ai xl;refine ε.af (rK h.s (h.n hB) i) ?_;have hE:=h.f.gE i;have hk:=L_ (h.g i) he;have hl:=(fk.1 hk).1;have hF:=Dr (s:=s) (h.g i);rw [he] at hF;have hF:fH (cS s) (gD t.η i).Ω=true:=hF;refine ε.af (Fj (h.g i) (by omega) s) ?_;dsimp only;refine ε.cond hF (ε.af (sz (by omega)) (ε.Ψ (by unfold Ξ;omega) (ε.Ψ ⟨by omega,by omega,by omega⟩ ?_)));refine ε.af (W3 h.s (h.n hB) _ _ _ _ _ _) (ε.ret ?_);unfold eN;dsimp only;rw [Tm (h.g i),if_pos hF]
def W6 (h:ST B t) (hB:B≤100000) {n:ξ} (hn:gN t.η n.κ=some n):CQ n ⟨t⟩=some ((kv t n.κ).η,(kv t n.κ).Next,(kv t n.κ).aj):=by
 refine ε.eq ?_;unfold CQ kv;rw [jc hn];have hL:=h.f.gL n.κ;rw [jc hn] at hL;by_cases hk:(n.τ==2)=true
 ·simp only [if_pos hk];exact ε.af (WK h.s (h.n hB) _) (ε.ret rfl)
 ·simp only [if_neg hk];exact ε.Ψ (by unfold Ξ;omega) (ε.af (BX h.s (h.n hB) _) (ε.ret rfl))
end
section
variable {B:Nat} {t:θ}
def afd (h:RT t) (hf:TF B t) (hB:B≤90000) (i:Int) (s:List UInt8) (k:Int):CB t i s k=some (mJ t i s k):=by
 have bT:=h.st hf;refine ε.eq ?_;unfold CB mJ;refine ε.bind (R:=(·=((k != 1)&&(k != 2)))) (ε.bind (R:=(·=((k != 1)&&(k != 2)))) (by cases k != 1<;>exact ε.ret rfl) fun r hr=>ε.ret hr) fun r hr=>?_;subst hr;refine ε.eG (fun _=>ε.ret rfl) fun _=>ε.af (WV h hf (by omega) i s) ?_;dsimp only;refine ε.eG (fun _=>ε.ret rfl) fun he=>?_;refine ε.bind (R:=(·=(decide ((t.η.length:Int)≥200)||decide (t.Next≥1099511627776)))) (ε.bind (R:=(·=(decide ((t.η.length:Int)≥200)||decide (t.Next≥1099511627776)))) (ε.ite (fun e=>ε.ret (by rw [e];rfl)) fun e=>ε.ret (by rw [ic.2 e];rfl)) fun r hr=>ε.ret hr) fun r hr=>?_;subst hr;refine ε.eG (fun _=>ε.ret rfl) fun _=>?_;refine ε.bind (R:=(·=if (k==2)=true then i else 0)) (ε.eG (fun _=>ε.ret rfl) fun _=>ε.ret rfl) fun u hu=>?_;subst hu;have hx:=hf.x;refine ε.Ψ (by unfold Ξ;omega) ?_;refine ε.af (BX (t:=⟨t.η,t.Next+1,t.aj⟩) h.s (bT.n (by omega)) _) ?_;dsimp only;obtain ⟨m,g1,g2,g3,g4,g5,g6⟩:=H3 (nw he)
 have aQ:i≠t.Next:=fun e=>by have:=(h.lo m (dQ g1).1).2;have:=(dQ g1).2;omega
 have h2:ST (B+1) ⟨cG ⟨t.Next,k,1,[],[],if (k==2)=true then i else 0⟩ t.η,t.Next+1,t.aj⟩:=bT.JU (hf.Sj k _) j1
 have hg:gD (cG ⟨t.Next,k,1,[],[],if (k==2)=true then i else 0⟩ t.η) i=m:=by
  unfold gD;rw [lH,if_neg aQ,g1];rfl
 refine ε.af (WM h2 (by omega) i s t.Next (by dsimp only;rw [hg];exact g4)) (ε.ret rfl)
def afE (h:RT t) (hf:TF B t) (hB:B≤90000) (i to:Int) (s:List UInt8):CD t i to s=some (th t i to s):=by
 have bT:=h.st hf;refine ε.eq ?_;unfold CD th;refine ε.af (rK h.s (bT.n (by omega)) i) ?_;dsimp only;refine ε.bind (R:=(·=(!(gN t.η i).isSome||((gD t.η i).τ==1&&(gD t.η i).a_==0)))) (ε.bind (R:=(·=(!(gN t.η i).isSome||((gD t.η i).τ==1&&(gD t.η i).a_==0)))) ?_ fun r hr=>ε.ret hr) fun r hr=>?_
 ·refine ε.ite (fun e=>ε.ret (by rw [e];rfl)) fun e=>?_;rw [ic.2 e];exact ε.bind (R:=(·=((gD t.η i).τ==1&&(gD t.η i).a_==0))) (by cases (gD t.η i).τ==1<;>exact ε.ret rfl) fun r hr=>ε.ret (by rw [hr];rfl)
 subst hr;refine ε.eG (fun _=>ε.ret rfl) fun hi=>ε.eG (fun _=>ε.ret rfl) fun hk=>ε.af (WV h hf (by omega) to s) ?_;dsimp only;refine ε.eG (fun _=>ε.ret rfl) fun he=>?_;have hL:=hf.gL i;refine ε.Ψ (by unfold Ξ;omega) (ε.af (BX h.s (bT.n (by omega)) _) ?_);dsimp only;obtain ⟨m,g1,g2,g3,g4,g5,g6⟩:=H3 (nw he)
 obtain ⟨n,hn⟩:∃n,gN t.η i=some n:=by
  cases hg:gN t.η i with
  |none=>rw [hg] at hi;simp at hi
  |some n=>exact ⟨n,rfl⟩
 rw [jc hn] at hk ⊢;have ru:=(dQ hn).2
 have aQ:to≠n.κ:=fun e=>by
  rw [e,ru,hn] at g1;cases g1;simp [g2] at hk
 have Bb:=hf.V3 i;rw [jc hn] at Bb;have MV:=bT.g i;rw [jc hn] at MV;have h2:ST (B+1) ⟨cG ⟨n.κ,n.τ,n.a_+1,n.az,n.Ω,n.Up⟩ t.η,t.Next,t.aj⟩:=bT.JU Bb MV
 have hg:gD (cG ⟨n.κ,n.τ,n.a_+1,n.az,n.Ω,n.Up⟩ t.η) to=m:=by
  unfold gD;rw [lH,if_neg aQ,g1];rfl
 exact ε.af (WM h2 (by omega) to s i (by dsimp only;rw [hg];exact g4)) (ε.ret rfl)
def afO (h:RT t) (hf:TF B t) (hB:B≤90000) (i:Int) (s:List UInt8):CG t i s=some (qz t i s):=by
 have bT:=h.st hf;refine ε.eq ?_;unfold CG qz;refine ε.af (JH bT (by omega) i s) ?_;refine ε.eG (fun _=>ε.ret rfl) fun hl=>ε.af (rK h.s (bT.n (by omega)) _) ?_;dsimp only;refine ε.eG (fun _=>ε.ret rfl) fun hE=>?_;obtain ⟨m,e,g1,g2,g3,g4,g5,g6⟩:=look_ok (nw hl);refine ε.af (Pd bT (by omega) i s (by rw [g3];exact g5)) ?_;dsimp only;rw [g6];obtain ⟨k1,k2,k3⟩:=W.get h g1;have jR:=qN g5;obtain ⟨x,hx⟩:=nt.1 (h.cl m k1 e jR);have Ox:e.κ≠i:=W.Jy h g1 g2 jR;rw [jc hx];have Vy:=(dQ hx).2
 have gv:gN (eN t i s).η x.κ=some x:=by rw [Vy,yA g1,if_neg Ox];exact hx
 refine ε.af (W6 (t:=eN t i s) (bT.OR i s) (by omega) gv) (ε.ret ?_);rw [Vy]
def afJ (h:RT t) (hf:TF B t) (hB:B≤90000) (i:Int) (x:List UInt8):Af t i x=some (nY t i x):=by
 have bT:=h.st hf;refine ε.eq ?_;unfold Af nY yj;refine ε.af (rK h.s (bT.n (by omega)) i) ?_;dsimp only;refine ε.eG (fun _=>ε.ret rfl) fun _=>ε.eG (fun _=>ε.ret rfl) fun _=>ε.eG (fun _=>ε.ret rfl) fun hx=>?_;simp only [decide_eq_true_eq] at hx;refine ε.af (sz (l:=x) (K:=1) (by omega)) ?_;exact ε.af (BX h.s (bT.n (by omega)) _) (ε.ret rfl)
def Ww (h:d_ t.η) (hf:TF B t) (hB:B≤90000) (i:Int):Ae t i=some (wq t i):=by
 have hn:=hf.n;refine ε.eq ?_;unfold Ae wq;refine ε.af (rK h (by omega) i) ?_;dsimp only;refine ε.eG (fun _=>ε.ret rfl) fun _=>ε.eG (fun _=>ε.ret rfl) fun _=>ε.eG (fun _=>ε.ret rfl) fun hx=>?_;exact ε.af (WK h (by omega) _) (ε.ret rfl)
end
end
section
def aev {β σ ρ:Type} {b:List β} {B:Int×σ→Option ((Int×σ)⊕ρ)} (x:σ) (p:β→Bool) (yes:Nat→ρ) (no:ρ)
  (h1:∀(n:Nat) (a:β),b[n]?=some a→n<b.length→B ((n:Int),x)=if p a then some (.inr (yes n)) else some (.inl ((n:Int)+1,x)))
  (h2:B ((b.length:Int),x)=some (.inr no)) :
  loop B (0,x)=some (match b.findIdx? p with|some n=>yes n|none=>no):=by
 have key:∀(l:List β) (n:Nat),b.drop n=l→n≤b.length→loop B ((n:Int),x)=some (match l.findIdx? p with|some k=>yes (n+k)|none=>no):=by
  intro l;induction l with
  |nil =>
   intro n hd hn
   have:n=b.length:=by have:=congrArg List.length hd;simp at this;omega
   subst this;exact nT h2
  |cons a l ih =>
   intro n hd hn
   have Φ:n<b.length:=by
    rcases gP n b.length with h|h
    ·exact h
    ·rw [qK h] at hd;cases hd
   rw [sa Φ] at hd;injection hd with hx hl;have h:=h1 n a (by rw [bF Φ,hx]) Φ;rw [List.findIdx?_cons];cases hp:p a with
   |true =>
    rw [hp] at h;rw [nT h];simp
   |false =>
    rw [hp] at h;rw [tj h,show ((n:Int)+1)=((n+1:Nat):Int) from rfl,ih (n+1) hl Φ];cases hf:l.findIdx? p with
    |none=>simp
    |some k=>simp [Nat.add_comm,Nat.add_left_comm]
 have:=key b 0 rfl (lX _);simpa using this
def Fe {α:Type} (l:List α) (p:α→Bool):decide (oI (l.findIdx? p)≥0)=l.any p:=by
 rw [Wm,List.findIdx?_isSome]
def Wv (l:List Int) (y:Int) (hl:l.length≤1000000):Cq l y=some (l.any fun x=>y==x):=by
 have:Gm l y=some (oI (l.findIdx? fun x=>y==x)):=by
  unfold Gm X_;rw [OU (b:=l) (fun x=>y==x) (fun n _=>(n:Int)) (-1)]
  ·cases h:l.findIdx? fun x=>y==x with
   |none=>rfl
   |some n=>obtain ⟨x,hx,-⟩:=sI h;simp only [hx];rfl
  ·intro n x hx Φ;unfold Gn
   have hd:decide ((n:Int)<(l.length:Int))=true:=by simpa using Φ
   simp only [hd,if_true,cq hx,cm];split
   ·rfl
   ·rw [gq (by unfold Ξ;omega)]
  ·unfold Gn;simp [KI,Cat.out]
 unfold Cq;rw [this,cm,Fe]
section
variable {B:Nat} {t:θ}
def L1 {i x:Int} {d:Nat} (h:Deep t.η i d):j7 t.η i x=true↔jt t.η x i :=
 ⟨fun hb=>YM h hb,fun hu=>L0 hu h (by have:=yp h;omega)⟩
noncomputable def sB (l:List ξ) (i a:Int) (n:ξ):Bool:=(n.τ==2&&j7 l n.κ i)&&decide (a+(iq l 201 n.κ:Int)-(iq l 201 i:Int)+(if decide ((n.Ω.length:Int)>0)=true then 1 else 0)>12)
def acU (l:List ξ) (i a:Int):decide (sW l i a>12)=l.any (sB l i a):=by
 have key:∀(r:List ξ) (m:Int),(r.foldl (fun m n=>if (n.τ==2&&j7 l n.κ i)=true then max m (a+(iq l 201 n.κ:Int)-(iq l 201 i:Int)+if decide ((n.Ω.length:Int)>0)=true then 1 else 0) else m) m>12)↔(m>12∨r.any (sB l i a)=true):=by
  intro r;induction r with
  |nil=>intro m;simp
  |cons x r ih =>
   intro m;rw [xF,ih,List.any_cons,ug]
   have:(sB l i a x=true)↔(x.τ==2&&j7 l x.κ i)=true∧(a+(iq l 201 x.κ:Int)-(iq l 201 i:Int)+(if decide ((x.Ω.length:Int)>0)=true then 1 else 0)>12):=by
    unfold sB;rw [bJ,decide_eq_true_eq]
   rw [this];by_cases hc:(x.τ==2&&j7 l x.κ i)=true
   ·rw [if_pos hc];generalize (a+(iq l 201 x.κ:Int)-(iq l 201 i:Int)+(if decide ((x.Ω.length:Int)>0)=true then 1 else 0))=v;constructor
    ·rintro (h|h)
     ·rcases (by omega:m>12∨v>12) with h|h
      ·exact .inl h
      ·exact .inr (.inl ⟨hc,h⟩)
     ·exact .inr (.inr h)
    ·rintro (h|⟨-,h⟩|h)
     ·exact .inl (by omega)
     ·exact .inl (by omega)
     ·exact .inr h
   ·rw [if_neg hc];constructor
    ·rintro (h|h)
     ·exact .inl h
     ·exact .inr (.inr h)
    ·rintro (h|⟨h,-⟩|h)
     ·exact .inl h
     ·exact absurd h hc
     ·exact .inr h
 have h:=key l 0;unfold sW;rw [vB,decide_eq_true_eq,h];simp
def afV (h:RT t) (hf:TF B t) (hB:B≤90000) {i a:Int} {m:ξ} (hi:gN t.η i=some m) (hm:m.τ=2) (ha:0≤a∧a≤1000) {n:ξ} (hn:n∈t.η):CJ n ⟨t⟩ a (iq t.η 201 i:Int) i=some (sB t.η i a n,t.η,t.Next,t.aj):=by
 have bT:=h.st hf;refine ε.eq ?_;unfold CJ sB;by_cases hk:(n.τ != 2)=true
 ·rw [if_pos hk,show (n.τ==2)=false by simpa using hk];exact ε.ret rfl
 rw [if_neg hk]
 have fx:n.τ=2:=by simpa using hk
 obtain ⟨d,d1,d2,d3,d4⟩:=W.deep h (yB h.s hn) fx;obtain ⟨d',e1,e2,e3,e4⟩:=W.deep h hi hm;obtain ⟨r,r1,r2,r3⟩:=Ph bT (by omega) d1;refine ε.af r1 ?_;dsimp only;rw [e4,d4,r2];refine ε.Ψ (by unfold Ξ;omega) (ε.Ψ (by unfold Ξ;omega) (ε.Ψ (by unfold Ξ;omega) ?_))
 have hc:(r.any fun x=>i==x)=j7 t.η n.κ i:=by
  rw [vB,L1 d1,←r3 i];simp
 have cJ:(n.τ==2)=true:=by simpa using fx
 refine ε.bind (R:=(·=(j7 t.η n.κ i&&decide (a+(d:Int)-(d':Int)+(if decide ((n.Ω.length:Int)>0)=true then 1 else 0)>12)))) (ε.af (Wv r i (by omega)) (ε.bind (R:=(·=(j7 t.η n.κ i&&decide (a+(d:Int)-(d':Int)+(if decide ((n.Ω.length:Int)>0)=true then 1 else 0)>12)))) ?_ fun v hv=>ε.ret hv)) fun v hv=>ε.ret (by rw [hv,cJ,Lh]);rw [hc];refine ε.ite (fun hb=>?_) fun hb=>ε.ret (by rw [ic.2 hb];rfl);rw [hb,Lh];refine ε.bind (R:=(·=decide (a+(d:Int)-(d':Int)+(if decide ((n.Ω.length:Int)>0)=true then 1 else 0)>12))) ?_ fun v hv=>ε.ret hv;refine ε.ite (fun h1=>ε.ret ?_) fun h1=>?_
 ·rw [decide_eq_true_eq] at h1;symm;rw [decide_eq_true_eq];split<;>omega
 ·rw [decide_eq_true_eq] at h1;refine ε.bind (R:=(·=decide (a+(d:Int)-(d':Int)+(if decide ((n.Ω.length:Int)>0)=true then 1 else 0)>12))) ?_ fun v hv=>ε.ret hv;refine ε.ite (fun h2=>ε.ret ?_) fun h2=>ε.ret ?_
  ·rw [beq_iff_eq] at h2;by_cases h3:(n.Ω.length:Int)>0
   ·rw [decide_eq_true h3,if_pos rfl];symm;rw [decide_eq_true_eq];omega
   ·rw [decide_eq_false h3,if_neg (by simp)];symm;rw [decide_eq_false_iff_not];omega
  ·rw [beq_iff_eq] at h2;symm;rw [decide_eq_false_iff_not];split<;>omega
def afW (h:RT t) (hf:TF B t) (hB:B≤90000) {i a:Int} {m:ξ} (hi:gN t.η i=some m) (hm:m.τ=2) (ha:0≤a∧a≤1000):Gz ⟨t⟩ i a=some (decide (sW t.η i a>12),⟨t⟩):=by
 have bT:=h.st hf;obtain ⟨d',e1,e2,e3,e4⟩:=W.deep h hi hm;have hl:=hf.n;refine ε.eq ?_;unfold Gz;refine ε.af (WJ bT (by omega) e1) ?_;rw [acU];dsimp only;unfold Ku KF X8;rw [←e4];have za:=aev (b:=t.η) (B:=Cs t.η a (iq t.η 201 i:Int) i) (t.η,t.Next,t.aj) (sB t.η i a) (fun n=>((n:Int),t.η,t.Next,t.aj)) (-1,t.η,t.Next,t.aj) ?_ ?_
 ·refine ε.af (a:=(t.η.any (sB t.η i a),t.η,t.Next,t.aj)) ?_ (ε.ret rfl);show ((loop _ _).bind _)=_;rw [za];have:=Fe t.η (sB t.η i a);cases hx:t.η.findIdx? (sB t.η i a) with
  |none=>rw [hx] at this;rw [←this];rfl
  |some k=>rw [hx] at this;rw [←this];rfl
 ·intro n x hx Φ;unfold Cs
  have hd:decide ((n:Int)<(t.η.length:Int))=true:=by simpa using Φ
  simp only [hd,if_true,cq hx,cm];have hp:CJ x (⟨(⟨t.η,t.Next,t.aj⟩:θ)⟩:dj) a (iq t.η 201 i:Int) i=_:=afV h hf hB hi hm ha (mj hx);rw [hp,cm];dsimp only;split
  ·rfl
  ·rw [gq (by unfold Ξ;omega)]
 ·unfold Cs;simp [KG,Cat.out]
end
end
section
section
variable {B:Nat} {t:θ}
def BT (x y:ξ):Int:=if (x.τ==2&&y.τ != 2)=true then 73 else if (x.τ != 2&&y.τ==2)=true then 72 else if decide ((y.Ω.length:Int)>0)=true then 74 else 0
def agb (x y:ξ):GF x y=some (BT x y):=by
 refine ε.eq ?_;unfold GF BT;refine ε.bind (R:=(·=(x.τ==2&&y.τ != 2))) (ε.bind (R:=(·=(x.τ==2&&y.τ != 2))) (by cases x.τ==2<;>exact ε.ret rfl) fun r hr=>ε.ret hr) fun r hr=>?_;subst hr;refine ε.eG (fun _=>ε.ret rfl) fun _=>?_;refine ε.bind (R:=(·=(x.τ != 2&&y.τ==2))) (ε.bind (R:=(·=(x.τ != 2&&y.τ==2))) (by cases x.τ != 2<;>exact ε.ret rfl) fun r hr=>ε.ret hr) fun r hr=>?_;subst hr;exact ε.eG (fun _=>ε.ret rfl) fun _=>ε.eG (fun _=>ε.ret rfl) fun _=>ε.ret rfl
def afG (h:RT t) (hf:TF B t) (hB:B≤90000) (from_:Int) (s:List UInt8) (to:Int) (aI:List UInt8):CE t from_ s to aI=some (qu t from_ s to aI):=by
 have bT:=h.st hf;have hn:=bT.n (by omega);refine ε.eq ?_;unfold CE qu;refine ε.af (JH bT (by omega) from_ s) (ε.eG (fun _=>ε.ret rfl) fun hL=>ε.af (JI bT (by omega) to) ?_);dsimp only;refine ε.eG (fun _=>ε.ret rfl) fun hD=>ε.af (Fm aI) (ε.eG (fun _=>ε.ret rfl) fun hR=>?_);obtain ⟨mf,ef,a1,a2,a3,a4,a5,a6⟩:=look_ok (nw hL);obtain ⟨md,b1,b2,b3,b4⟩:=DC (nw hD);rw [a6,b3];obtain ⟨k1,k2,k3⟩:=W.get h a1;obtain ⟨q1,q2,q3⟩:=W.get h b1;have jR:=qN a5;obtain ⟨x,hx⟩:=nt.1 (h.cl mf k1 ef jR);obtain ⟨x1,x2,x3⟩:=W.get h hx;have EP:ef.κ≠from_:=W.Jy h a1 a2 jR;obtain ⟨dt,t1,t2,t3,t4⟩:=W.deep h b1 b2;have Oc:=bT.e _ q1;have hEl:=hf.e _ q1
 have jT:bW t to aI=match md.Ω.find? (fun e=>e.aN==aI) with|some e=>e.κ|none=>0:=by unfold bW;rw [b3]<;>rfl
 have hYf:fH (cS aI) md.Ω=(bW t to aI != 0)∧(gD t.η (bW t to aI)).κ=bW t to aI∧(gN t.η (bW t to aI)).isSome=(bW t to aI != 0):=by
  have hF:=Dr (s:=aI) Oc;rw [jT];cases fI:md.Ω.find? (fun e=>e.aN==aI) with
  |none =>
   rw [fI] at hF
   have h0:gN t.η 0=none:=yC.2 fun n hn=>by have:=(h.lo n hn).1;omega
   refine ⟨hF,?_,?_⟩
   ·dsimp only;unfold gD;rw [h0];rfl
   ·dsimp only;rw [h0];rfl
  |some ey =>
   rw [fI] at hF;have Ep:=qN fI;obtain ⟨ny,lf⟩:=nt.1 (h.cl md q1 ey Ep);have hyi:=(dQ lf).2
   have aQ:(ey.κ != 0)=true:=by have:=(h.lo ny (dQ lf).1).1;simp;omega
   refine ⟨by dsimp only;rw [aQ];exact hF,by dsimp only;rw [jc lf];exact hyi,by dsimp only;rw [lf,aQ];rfl⟩
 obtain ⟨y1,y2,y3⟩:=hYf;refine ε.af (rK h.s hn ef.κ) ?_;dsimp only;rw [x3];refine ε.af (Fj Oc (by omega) aI) ?_;dsimp only;rw [y1];refine ε.af (a:=(t.η,t.Next,t.aj,(gD t.η (bW t to aI)).κ,(gD t.η (bW t to aI)).τ,(gD t.η (bW t to aI)).a_,(gD t.η (bW t to aI)).az,(gD t.η (bW t to aI)).Ω,(gD t.η (bW t to aI)).Up)) ?_ ?_
 ·refine ε.eq (ε.ite (fun e=>?_) fun e=>?_)
  ·cases fI:md.Ω.find? (fun e=>e.aN==aI) with
   |none=>rw [fI] at jT;rw [jT] at e;simp at e
   |some ey =>
    rw [fI] at jT;refine ε.af (cq (L_ Oc fI)) (ε.af (rK h.s hn ey.κ) (ε.ret ?_));dsimp only;rw [jT]
  ·have e0:bW t to aI=0:=by simpa using e
   refine ε.ret ?_
   have h0:gD t.η 0=jX:=by unfold gD;rw [yC.2 fun n hn=>by have:=(h.lo n hn).1;omega];rfl
   rw [e0,h0];rfl
 dsimp only;rw [y2];refine ε.eG (fun _=>ε.ret rfl) fun hy=>?_
 have hy:bW t to aI≠ef.κ:=by simpa using hy
 obtain ⟨r,r1,r2,r3⟩:=Ph bT (by omega) t1;refine ε.af r1 ?_;dsimp only
 have hc:(r.any fun x=>ef.κ==x)=j7 t.η to ef.κ:=by
  rw [vB,L1 t1,←r3 ef.κ];simp
 refine ε.bind (R:=(·=(x.τ==2&&j7 t.η to ef.κ))) (ε.bind (R:=(·=(x.τ==2&&j7 t.η to ef.κ))) (ε.ite (fun e=>ε.af (Wv r ef.κ (by omega)) (ε.ret (by rw [hc,e];rfl))) fun e=>ε.ret (by rw [ic.2 e];rfl)) fun v hv=>ε.ret hv) fun v hv=>?_;subst hv;refine ε.eG (fun _=>ε.ret rfl) fun za=>?_
 have Nb:sy t x (bW t to aI)=if (bW t to aI != 0)=true then BT x (gD t.η (bW t to aI)) else 0:=by
  unfold sy BT;rw [y3];by_cases e:(bW t to aI != 0)=true
  ·rw [if_pos e,if_neg (by rw [e];simp)]
  ·rw [if_neg e,if_pos (by simpa using e)]
 have hJ:sy t x (bW t to aI)=0→ε (CF (↑(c9 (cS aI) md.Ω),bW t to aI != 0) to from_ (dF t.η to,⟨t⟩) (r,⟨t⟩) ((x,(gN t.η ef.κ).isSome),⟨t⟩) (eV t from_ s) t s aI (t.η,t.Next,t.aj,bW t to aI,(gD t.η (bW t to aI)).τ,(gD t.η (bW t to aI)).a_,(gD t.η (bW t to aI)).az,(gD t.η (bW t to aI)).Ω,(gD t.η (bW t to aI)).Up) ())
   (·=if Jr t ef.κ from_ to (bW t to aI)=true then (t,0,76) else (j9 (kp t (iV t ef.κ from_ s to aI (bW t to aI)) ef.κ to) to aI ef.κ,bW t to aI,0)):=by
  intro di;unfold CF Jr;rw [b3,x3,t4,a6];refine ε.bind (R:=(·=(((bW t to aI==0)&&(to != from_))&&decide ((md.Ω.length:Int)≥64)))) ?_ fun v hv=>?_
  ·refine ε.bind (R:=(·=((bW t to aI==0)&&(to != from_)))) (ε.ite (fun e=>ε.ret ?_) fun e=>ε.ret ?_) fun v hv=>ε.bind (R:=(·=(((bW t to aI==0)&&(to != from_))&&decide ((md.Ω.length:Int)≥64)))) ?_ fun v hv=>ε.ret hv
   ·have e:bW t to aI=0:=by simpa using e
    rw [e];simp
   ·have e:¬bW t to aI=0:=by simpa using e
    rw [beq_eq_false_iff_ne.2 e];rfl
   ·subst hv;exact ε.ite (fun e=>ε.ret (by rw [e];rfl)) fun e=>ε.ret (by rw [ic.2 e];rfl)
  subst hv;generalize q_:(((bW t to aI==0)&&(to != from_))&&decide ((md.Ω.length:Int)≥64))=bA
  have hlen:decide ((r.length:Int)>12)=decide ((dt:Int)≥12):=by rw [r2,decide_eq_decide];omega
  have rb:=yp t1
  have aS:(r.length:Int)=(dt:Int)+1:=by rw [r2];omega
  dsimp only;rw [hlen,aS];generalize hbB:decide ((dt:Int)≥12)=bB;refine ε.bind (R:=(·=((bA||bB||((x.τ==2)&&decide (sW t.η ef.κ ((dt:Int)+1)>12))||decide (t.aj≥1099511627776)),t.η,t.Next,t.aj))) ?_ fun v hv=>?_
  ·refine ε.bind (R:=(·=(bA||bB))) (by cases bA<;>exact ε.ret rfl) fun v hv=>?_;subst hv;refine ε.bind (R:=(·=((bA||bB||((x.τ==2)&&decide (sW t.η ef.κ ((dt:Int)+1)>12))),t.η,t.Next,t.aj))) ?_ fun v hv=>?_
   ·refine ε.ite (fun e=>ε.ret (by rw [e];rfl)) fun e=>?_;rw [ic.2 e,Bool.false_or];refine ε.bind (R:=(·=(((x.τ==2)&&decide (sW t.η ef.κ ((dt:Int)+1)>12)),t.η,t.Next,t.aj))) (ε.ite (fun e=>?_) fun e=>ε.ret (by rw [ic.2 e];rfl)) fun v hv=>ε.ret (by rw [hv]);rw [e,Lh];exact ε.af (afW h hf hB hx (by simpa using e) (by omega)) (ε.ret rfl)
   ·subst hv;dsimp only;refine ε.bind (R:=(·=(bA||bB||((x.τ==2)&&decide (sW t.η ef.κ ((dt:Int)+1)>12))||decide (t.aj≥1099511627776)))) (ε.ite (fun e=>ε.ret (by rw [e];rfl)) fun e=>ε.ret (by rw [ic.2 e];rfl)) fun v hv=>ε.ret (by rw [hv])
  subst hv;dsimp only;refine ε.eG (fun _=>ε.ret rfl) fun Bd=>?_
  have acg:bA=false:=by cases bA<;>simp_all
  rw [acg] at q_;have wM:x.τ=2→¬jt t.η ef.κ to:=fun hk hu=>za (by rw [(L1 t1).2 hu];simp [hk])
  have zu:ef.κ≠to:=fun e=>by
   rw [e,b1] at hx;cases hx;exact wM b2 (e▸.refl)
  have Uz:∀ey,md.Ω.find? (fun e=>e.aN==aI)=some ey→∃ny,bW t to aI=ey.κ∧gN t.η ey.κ=some ny∧ny.Ω=[]:=fun ey fI=>by
   rw [fI] at jT;have Ep:=qN fI;obtain ⟨ny,lf⟩:=nt.1 (h.cl md q1 ey Ep);refine ⟨ny,jT,lf,?_⟩
   have e1:(bW t to aI != 0)=true:=by rw [←y3,jT];dsimp only;rw [lf];rfl
   rw [Nb,if_pos e1] at di;rw [jT] at di;dsimp only at di;rw [jc lf] at di;unfold BT at di;split at di
   ·cases di
   split at di
   ·cases di
   split at di
   ·cases di
   rename_i h0;rw [decide_eq_true_eq] at h0;exact sd.1 (by omega)
  have hY:(∀e,e∈md.Ω→e.aN≠aI)∧bW t to aI=0∧(to≠from_→md.Ω.length<64)∨∃ey ny,md.Ω.find? (fun e=>e.aN==aI)=some ey∧bW t to aI=ey.κ∧gN t.η ey.κ=some ny∧ny.Ω=[]:=by
   cases fI:md.Ω.find? (fun e=>e.aN==aI) with
   |none =>
    rw [fI] at jT;refine .inl ⟨fun e he=>by have:=G5.1 fI e he;simpa using this,jT,fun aQ=>?_⟩;rw [jT] at q_
    have:(to != from_)=true:=by simpa using aQ
    rw [this] at q_;simp at q_;omega
   |some ey=>obtain ⟨ny,n1,n2,n3⟩:=Uz ey fI;exact .inr ⟨ey,ny,rfl,n1,n2,n3⟩
  obtain ⟨w,-,wx,mu,u1,u2,u3,u4⟩:=We h a1 a2 a5 b1 b2 hx EP zu hy hY;refine ε.af (Pd bT (by omega) from_ s (by rw [a3];exact a5)) ?_;dsimp only;refine ε.af (a:=((iV t ef.κ from_ s to aI (bW t to aI)).η,(iV t ef.κ from_ s to aI (bW t to aI)).Next,(iV t ef.κ from_ s to aI (bW t to aI)).aj)) ?_ ?_
  ·refine ε.eq ?_;unfold iV;by_cases e:(bW t to aI != 0)=true
   ·rw [if_pos e,if_pos e];cases fI:md.Ω.find? (fun e=>e.aN==aI) with
    |none=>rw [fI] at jT;rw [jT] at e;simp at e
    |some ey =>
     obtain ⟨ny,n1,n2,n3⟩:=Uz ey fI;have Ep:=qN fI;have I9:ey.κ≠to:=W.Jy h b1 b2 Ep
     have I7:ey.κ≠from_:=fun e=>by
      rw [e,a1] at n2;cases n2;rw [n3] at jR;cases jR
     have g1:=yA a1 s;have s1:ST (B+1) (eN t from_ s):=bT.OR from_ s
     obtain ⟨m1,c1,c2⟩:∃m1,gN (eN t from_ s).η to=some m1∧m1.Ω.find? (fun e=>e.aN==aI)=some ey:=by
      rw [g1];by_cases e:to=from_
      ·rw [if_pos e];rw [e,a1] at b1;cases b1;refine ⟨_,rfl,?_⟩;unfold GH;dsimp only
       have aQ:aI≠s:=fun e=>by
        rw [e,a5] at fI;cases fI;exact hy n1
       rw [Z3]
       have:(fun a:aP=>decide ((!(a.aN==s))=true∧(a.aN==aI)=true))=fun a=>a.aN==aI:=by
        funext a;by_cases ha:a.aN=aI
        ·rw [ha];simp [aQ]
        ·simp [ha]
       rw [this];exact fI
      ·rw [if_neg e];exact ⟨md,b1,fI⟩
     refine ε.af (Pd (t:=eN t from_ s) s1 (by omega) to aI (by rw [jc c1];exact c2)) ?_;dsimp only;rw [n1,jc n2];have ru:=(dQ n2).2
     have aF:gN (eN (eN t from_ s) to aI).η ny.κ=some ny:=by rw [ru,yA c1,if_neg I9,g1,if_neg I7,n2]
     have U':=W6 (t:=eN (eN t from_ s) to aI) (s1.OR to aI) (by omega) aF;rw [ru] at U'
     have acL:(⟨ey.κ,ny.τ,ny.a_,ny.az,ny.Ω,ny.Up⟩:ξ)=ny:=by rw [←ru]
     rw [acL];exact ε.af U' (ε.ret rfl)
   ·rw [if_neg e,if_neg e];exact ε.ret rfl
  dsimp only;have sT:ST (B+3) (iV t ef.κ from_ s to aI (bW t to aI)):=w.st (hf.iV _ _ _ _ _ _);generalize iV t ef.κ from_ s to aI (bW t to aI)=T at *
  have sU:ST (B+4) (kp t T ef.κ to):=by
   have hu:=hf.kp (C:=B+3) sT.f (by omega) ef.κ to;unfold kp at hu ⊢;split
   ·rename_i hk;rw [if_pos hk] at hu;exact sT.JU hu (bT.g _)
   ·exact sT.up (by omega)
  refine ε.af (a:=((kp t T ef.κ to).η,(kp t T ef.κ to).Next,(kp t T ef.κ to).aj)) ?_ ?_
  ·refine ε.eq ?_;unfold kp;rw [x3];by_cases e:(x.τ==2)=true
   ·simp only [if_pos e];exact ε.af (BX sT.s (sT.n (by omega)) _) (ε.ret rfl)
   ·simp only [if_neg e];exact ε.ret rfl
  dsimp only
  have hgU:gD (kp t T ef.κ to).η to=mu:=by
   unfold kp;rw [x3];split
   ·unfold gD;dsimp only;rw [lH];dsimp only;rw [x2,if_neg (j4 zu),u1];rfl
   ·exact jc u1
  exact ε.af (WN (t:=kp t T ef.κ to) sU (by omega) to aI ef.κ (by rw [hgU];exact u3)) (ε.ret rfl)
 by_cases e:(bW t to aI != 0)=true
 ·rw [if_pos e];refine ε.af (agb _ _) ?_
  have e1:sy t x (bW t to aI)=BT x (gD t.η (bW t to aI)):=by rw [Nb,if_pos e]
  have e2:(⟨bW t to aI,(gD t.η (bW t to aI)).τ,(gD t.η (bW t to aI)).a_,(gD t.η (bW t to aI)).az,(gD t.η (bW t to aI)).Ω,(gD t.η (bW t to aI)).Up⟩:ξ)=gD t.η (bW t to aI):=by
   have:∀n:ξ,n.κ=bW t to aI→(⟨bW t to aI,n.τ,n.a_,n.az,n.Ω,n.Up⟩:ξ)=n:=fun n hn=>by rw [←hn]
   exact this _ y2
  rw [e2,←e1];refine ε.eG (fun _=>ε.ret rfl) fun hc=>?_;exact hJ (nw hc)
 ·rw [if_neg e]
  have e1:sy t x (bW t to aI)=0:=by rw [Nb,if_neg e]
  have e3:=hJ e1;rw [e1,if_neg (by simp)];exact e3
end
end
section
def tw (l:List UInt8):List UInt8:=l.takeWhile (· != 47)
def dw (l:List UInt8):List UInt8:=l.dropWhile (· != 47)
def Mj (l:List UInt8):(dw l).length≤l.length:=(List.dropWhile_suffix _).length_le
def mb (p:List UInt8):Option (List (List UInt8)) :=
 match p with
 |[]=>some []
 |a::r=>if a=47∧f_ (tw r)=true then (mb (dw r)).map (tw r::·) else none
termination_by p.length
decreasing_by have:=Mj r;simp only [cZ];omega
def KL:mb []=some []:=by rw [mb]
def Gr (a:UInt8) (r:List UInt8):mb (a::r)=if a=47∧f_ (tw r)=true then (mb (dw r)).map (tw r::·) else none:=by rw [mb]
def j0 (p:List UInt8):List (List UInt8)×Int:=if p=[47] then ([],0) else match mb p with|some l=>if l.length=0∨12<l.length then ([],60) else (l,0)|none=>([],60)
def OH:∀l:List UInt8,(if decide (mY l 47<0)=true then (l.length:Int) else mY l 47)=((tw l).length:Int)∧-1≤mY l 47
 |[]=>⟨rfl,by decide⟩
 |a::l=>by
  obtain ⟨ih,ih2⟩:=OH l;have hx:mY (a::l) 47=if (a==47)=true then 0 else if (mY l 47 == -1)=true then -1 else mY l 47+1:=rfl;have ht:tw (a::l)=if (a != 47)=true then a::tw l else []:=xG ..;by_cases ha:a=47
  ·rw [if_pos (by simpa using ha)] at hx;rw [if_neg (by simpa using ha)] at ht;rw [hx,ht];simp
  ·rw [if_neg (by simpa using ha)] at hx;rw [if_pos (by simpa using ha)] at ht;by_cases h1:mY l 47=-1
   ·rw [if_pos (by simpa using h1)] at hx;rw [h1] at ih;rw [hx,ht];simp at ih ⊢;omega
   ·rw [if_neg (by simpa using h1)] at hx;rw [if_neg (by simp;omega)] at ih;rw [hx,ht,if_neg (by simp;omega),cZ];omega
def YI (l:List UInt8):tw l++dw l=l:=List.takeWhile_append_dropWhile
def aiE (l:List UInt8):l.take (tw l).length=tw l:=by
 have:(tw l++dw l).take (tw l).length=tw l:=List.take_left;rwa [YI] at this
def aiD (l:List UInt8):l.drop (tw l).length=dw l:=by
 have:(tw l++dw l).drop (tw l).length=dw l:=List.drop_left;rwa [YI] at this
def YJ (l:List UInt8):(tw l).length≤l.length:=(aaa _).length_le
def afT (p:List UInt8) (h:p.length≤1000000):Gu p [47]=some (match p with|[]=>([],false)|a::r=>if a=47 then (r,true) else (a::r,false)):=by
 refine ε.eq ?_;unfold Gu Jc Jd;refine ε.af (a:=match p with|[]=>([],false)|a::r=>if a=47 then (r,true) else (a::r,false)) (ε.eq ?_) (ε.ret rfl);cases p with
 |nil =>
  refine ε.af (a:=false) rfl (ε.ret rfl)
 |cons a r =>
  dsimp only
  have hh:((sub (a::r) 0 (([47]:List UInt8).length:Int)) == [47])=decide (a=47):=by
   unfold sub;rw [vB];simp
  refine ε.bind (R:=(·=decide (a=47))) (ε.bind (R:=(·=decide (a=47))) (ε.bind (R:=(·=decide (a=47))) (ε.cond (by simp;omega) (ε.Ψ ⟨by decide,by simp,by simp;omega⟩ (ε.ret hh))) fun v hv=>ε.ret hv) fun v hv=>ε.ret hv) fun v hv=>?_;subst hv;by_cases ha:a=47
  ·rw [if_pos ha];refine ε.cD (by simpa using ha) (ε.Ψ ⟨by simp,by simp;omega,by omega⟩ (ε.ret ?_));unfold sub;simp
  ·rw [if_neg ha];exact ε.cond (by simpa using ha) (ε.ret rfl)
def pQ (out:List (List UInt8)) (p:List UInt8):Option (List (List UInt8)):=match mb p with|some l=>if 12<(out++l).length then none else some (out++l)|none=>none
def Pb (p:List UInt8) (hp:p.length≤100000):zH p=some (j0 p):=by
 refine ε.eq ?_;unfold zH j0;by_cases h0:p=[47]
 ·rw [if_pos (by simpa using h0),if_pos h0];exact ε.ret rfl
 rw [if_neg (by simpa using h0),if_neg h0];unfold Ju Jv Wg;refine ε.af rfl ?_;refine ε.bind (R:=fun r=>(∀l,pQ [] p=some l→r.1=.iK∧r.2.2.2=l)∧(pQ [] p=none→r.1=.ret∧r.2.1=60)) ?_ fun r hr=>?_
 ·refine ε.loop (fun s:LS×List UInt8×Int×List (List UInt8)=>s.1=.iK∧s.2.1.length≤100000∧s.2.2.2.length≤12∧pQ s.2.2.2 s.2.1=pQ [] p) (fun s=>s.2.1.length) ?_ _ ⟨rfl,hp,by simp,rfl⟩;rintro ⟨c,q,b,out⟩ ⟨h1,h2,h3,h4⟩;dsimp only at h1 h2 h3 h4;subst h1;unfold Jw;cases q with
  |nil =>
   refine ε.cD (by simp) (ε.out (ε.ret ⟨fun l hl=>⟨rfl,?_⟩,fun hn=>?_⟩))
   ·rw [←h4] at hl;unfold pQ at hl;rw [KL] at hl;simp only [qJ] at hl;rw [if_neg (by omega)] at hl;exact nu hl
   ·rw [←h4] at hn;unfold pQ at hn;rw [KL] at hn;simp only [qJ] at hn;rw [if_neg (by omega)] at hn;cases hn
  |cons a r =>
   refine ε.cond (by simp) (ε.af (afT (a::r) (by omega)) ?_);dsimp only
   have IP:r.length+1≤100000:=by simpa using h2
   by_cases ha:a=47
   ·rw [if_pos ha];dsimp only;have wW:=YJ r;have rb:=Mj r;refine ε.bind (R:=(·=((tw r).length:Int))) ?_ fun v hv=>?_
    ·have rk:=(OH r).1;by_cases hc:decide (mY r 47<0)=true
     ·rw [if_pos hc] at rk ⊢;exact ε.ret rk
     ·rw [if_neg hc] at rk ⊢;exact ε.ret rk
    subst hv
    have e1:sub r 0 ((tw r).length:Int)=tw r:=by unfold sub;rw [gU];exact aiE r
    have e2:sub r ((tw r).length:Int) (r.length:Int)=dw r:=by unfold sub;rw [gU,gU,jr];exact aiD r
    refine ε.Ψ ⟨by decide,by omega,by omega⟩ (ε.Ψ rfl ?_);rw [e1]
    have BC:pQ out (a::r)=if f_ (tw r)=true∧out.length≠12 then pQ (out++[tw r]) (dw r) else none:=by
     unfold pQ;rw [Gr];by_cases hn:f_ (tw r)=true
     ·rw [if_pos ⟨ha,hn⟩];cases hs:mb (dw r) with
      |none=>simp
      |some l =>
       simp only [Option.map_some,cP,cZ,kD,C8,List.nil_append];by_cases ho:out.length=12
       ·rw [if_pos (by omega),if_neg (by simp [ho])]
       ·rw [if_pos (show f_ (tw r)=true∧out.length≠12 from ⟨hn,ho⟩)]
     ·rw [if_neg (fun h=>hn h.2),if_neg (fun h=>hn h.1)]
    by_cases hg:f_ (tw r)=true∧out.length≠12
    ·rw [if_pos hg] at BC;refine ε.af (a:=(.iK,b,out++[tw r])) ?_ ?_
     ·refine ε.eq ?_;unfold BN;refine ε.bind (R:=(·=false)) (ε.bind (R:=(·=false)) (ε.cD (by simp) (ε.af (Fm _) (ε.ret (by rw [hg.1];rfl)))) fun v hv=>ε.bind (R:=(·=false)) (by rw [hv];exact ε.cD (by simp) (ε.ret (by rw [beq_eq_false_iff_ne];have:=hg.2;omega))) fun v hv=>ε.ret hv) fun v hv=>?_;rw [hv];exact ε.cD (by simp) (ε.Ψ (by simp only [cZ,gM];omega) (ε.ret rfl))
     ·refine ε.cD (by simp [LS.wZ]) (ε.Ψ ⟨by omega,by omega,by omega⟩ (ε.inl ⟨⟨rfl,?_,?_,?_⟩,?_⟩))
      ·dsimp only;rw [e2];omega
      ·simp only [cP,cZ,gM];have:=hg.2;omega
      ·dsimp only;rw [e2,←BC,h4]
      ·dsimp only;rw [e2,cZ];omega
    ·rw [if_neg hg] at BC;refine ε.af (a:=(.ret,60,out)) ?_ ?_
     ·refine ε.eq ?_;unfold BN
      refine ε.bind (R:=(·=true)) (ε.bind (R:=(·=!f_ (tw r))) (ε.cD (by simp) (ε.af (Fm _) (ε.ret rfl))) fun v hv=>ε.bind (R:=(·=true)) (by
       rw [hv];refine ε.ite (fun _=>ε.ret rfl) fun hn=>ε.ret ?_
       have hn:f_ (tw r)=true:=by simpa using hn
       have:out.length=12:=Decidable.byContradiction fun hc=>hg ⟨hn,hc⟩
       rw [this];rfl) fun v hv=>ε.ret hv) fun v hv=>?_
      rw [hv];exact ε.cond rfl (ε.ret rfl)
     ·refine ε.cond (by simp [LS.wZ]) (ε.out (ε.ret ⟨fun l hl=>?_,fun _=>⟨rfl,rfl⟩⟩));rw [←h4,BC] at hl;cases hl
   ·rw [if_neg ha];dsimp only
    have BC:pQ out (a::r)=none:=by unfold pQ;rw [Gr,if_neg (fun h=>ha h.1)]
    have wW:=YJ (a::r);refine ε.bind (R:=(·=((tw (a::r)).length:Int))) ?_ fun v hv=>?_
    ·have rk:=(OH (a::r)).1;by_cases hc:decide (mY (a::r) 47<0)=true
     ·rw [if_pos hc] at rk ⊢;exact ε.ret rk
     ·rw [if_neg hc] at rk ⊢;exact ε.ret rk
    subst hv;refine ε.Ψ ⟨by decide,by omega,by omega⟩ (ε.Ψ rfl ?_);refine ε.af (a:=(.ret,60,out)) ?_ ?_
    ·refine ε.eq ?_;unfold BN
     exact ε.bind (R:=(·=true)) (ε.bind (R:=(·=true)) (ε.cond rfl (ε.ret rfl)) fun v hv=>ε.bind (R:=(·=true)) (by rw [hv];exact ε.cond rfl (ε.ret rfl)) fun v hv=>ε.ret hv) fun v hv=>by rw [hv];exact ε.cond rfl (ε.ret rfl)
    ·refine ε.cond (by simp [LS.wZ]) (ε.out (ε.ret ⟨fun l hl=>?_,fun _=>⟨rfl,rfl⟩⟩));rw [←h4,BC] at hl;cases hl
 ·obtain ⟨r1,r2,r3,r4⟩:=r;obtain ⟨g1,g2⟩:=hr
  have hA:pQ [] p=match mb p with|some l=>if 12<l.length then none else some l|none=>none:=by unfold pQ;simp
  rw [hA] at g1 g2;cases hs:mb p with
  |none =>
   rw [hs] at g2;obtain ⟨e1,e2⟩:=g2 rfl;subst e1;subst e2;exact ε.cD (by simp) (ε.cond rfl (ε.ret rfl))
  |some l =>
   rw [hs] at g1 g2;dsimp only at g1 g2 ⊢;by_cases hl:12<l.length
   ·rw [if_pos (show l.length=0∨12<l.length from .inr hl)];rw [if_pos hl] at g2;obtain ⟨e1,e2⟩:=g2 rfl;subst e1;subst e2;exact ε.cD (by simp) (ε.cond rfl (ε.ret rfl))
   ·rw [if_neg hl] at g1;obtain ⟨e1,e2⟩:=g1 l rfl;subst e1;subst e2;refine ε.cond rfl ?_;by_cases MR:r4.length=0
    ·rw [if_pos (show r4.length=0∨12<r4.length from .inl MR)];exact ε.cond (by simp [MR]) (ε.ret rfl)
    ·rw [if_neg (show ¬(r4.length=0∨12<r4.length) by omega)];exact ε.cD (by simpa using MR) (ε.ret rfl)
def rF (l:List (List UInt8)):List UInt8:=if l.length=0 then [47] else [47]++lh l [47]
def OJ (a b:List UInt8) (l:List (List UInt8)):lh (a::b::l) [47]=a++[47]++lh (b::l) [47]:=by
 unfold lh;simp [RP]
def OL (a:List UInt8):lh [a] [47]=a:=by unfold lh;simp [RP]
def BO {s:List UInt8} (h:f_ s=true):(∀x,x∈s→x≠47)∧1≤s.length∧s.length≤32:=by
 unfold f_ at h;simp only [bJ,decide_eq_true_eq,oW,p0] at h;refine ⟨fun x hx e=>?_,h.1.1.1.1,h.1.1.1.2⟩;have:=h.2 x hx;rw [e] at this;exact this (by decide)
def QD:∀{s r:List UInt8},(∀x,x∈s→x≠47)→(r=[]∨∃r',r=47::r')→tw (s++r)=s∧dw (s++r)=r
 |[],r,_,hr=>by rcases hr with rfl|⟨r',rfl⟩<;>exact ⟨rfl,rfl⟩
 |a::s,r,hs,hr=>by
  have ha:(a != 47)=true:=by simpa using hs a (by simp)
  obtain ⟨h1,h2⟩:=QD (s:=s) (fun x hx=>hs x (cj _ hx)) hr;unfold tw dw at *;rw [C8,xG,if_pos ha,List.dropWhile_cons,if_pos ha,h1,h2];exact ⟨rfl,rfl⟩
def Yg:∀{l:List (List UInt8)},(∀s,s∈l→f_ s=true)→l≠[]→mb (47::lh l [47])=some l
 |[],_,h=>absurd rfl h
 |[a],h,_=>by
  have ha:=h a (by simp);rw [OL,Gr];have:=QD (r:=[]) (BO ha).1 (.inl rfl);rw [qJ] at this;rw [this.1,this.2,if_pos ⟨rfl,ha⟩,KL];rfl
 |a::b::l,h,_=>by
  have ha:=h a (by simp);have ih:=Yg (l:=b::l) (fun s hs=>h s (cj _ hs)) (by simp);rw [OJ,Gr,kD];have:=QD (r:=[47]++lh (b::l) [47]) (BO ha).1 (.inr ⟨_,rfl⟩);rw [this.1,this.2,if_pos ⟨rfl,ha⟩];show (mb (47::lh (b::l) [47])).map (a::·)=_;rw [ih];rfl
def Qv {l:List (List UInt8)} (h:∀s,s∈l→f_ s=true) (hl:l.length≤12):j0 (rF l)=(l,0):=by
 unfold rF j0;cases l with
 |nil=>rfl
 |cons a r =>
  have aQ:¬(47::lh (a::r) [47]:List UInt8)=[47]:=by
   intro e;injection e with _ e;have ha:=(BO (h a (by simp))).2.1;cases r with
   |nil=>rw [OL] at e;rw [e] at ha;simp at ha
   |cons b r=>rw [OJ] at e;simp at e
  have e:(if (a::r).length=0 then [47] else [47]++lh (a::r) [47]:List UInt8)=47::lh (a::r) [47]:=if_neg (by simp);rw [e,if_neg aQ,Yg h (by simp)];dsimp only;rw [if_neg (by simp only [cZ] at *;omega)]
def Yh:∀(n:Nat) (p:List UInt8),p.length≤n→∀l,mb p=some l→∀s,s∈l→f_ s=true
 |_,[],_,l,h,s,hs=>by rw [KL] at h;cases h;cases hs
 |0,_::_,hn,_,_,_,_=>by simp at hn
 |n+1,a::r,hn,l,h,s,hs=>by
  rw [Gr] at h;split at h
  ·rename_i hc;cases hx:mb (dw r) with
   |none=>rw [hx] at h;cases h
   |some k =>
    rw [hx] at h;cases h
    rcases bj.1 hs with rfl|hs
    ·exact hc.2
    ·exact Yh n (dw r) (by have:=Mj r;simp at hn;omega) k hx s hs
  ·cases h
def Gs {p:List UInt8}:(∀s,s∈(j0 p).1→f_ s=true)∧(j0 p).1.length≤12∧((j0 p).2=0∨(j0 p).2=60∧(j0 p).1=[]):=by
 have:j0 p=([],0)∨j0 p=([],60)∨∃l,mb p=some l∧j0 p=(l,0)∧l.length≤12:=by
  unfold j0;by_cases h0:p=[47]
  ·rw [if_pos h0];exact .inl rfl
  ·rw [if_neg h0];cases hs:mb p with
   |none=>exact .inr (.inl rfl)
   |some l =>
    dsimp only;by_cases hl:l.length=0∨12<l.length
    ·rw [if_pos hl];exact .inr (.inl rfl)
    ·rw [if_neg hl];exact .inr (.inr ⟨l,rfl,rfl,by omega⟩)
 rcases this with h|h|⟨l,h1,h2,h3⟩
 ·rw [h];exact ⟨fun s hs=>(by cases hs),by simp,.inl rfl⟩
 ·rw [h];exact ⟨fun s hs=>(by cases hs),by simp,.inr ⟨rfl,rfl⟩⟩
 ·rw [h2];exact ⟨fun s hs=>Yh _ _ (bG _) l h1 s hs,h3,.inl rfl⟩
def OK:∀{l:List (List UInt8)},(∀s,s∈l→s.length≤32)→(lh l [47]).length≤33*l.length
 |[],_=>by simp [lh,RP]
 |[a],h=>by rw [OL];have:=h a (by simp);simp;omega
 |a::b::l,h=>by
  have h1:=h a (by simp);have ih:=OK (l:=b::l) fun s hs=>h s (cj _ hs);rw [OJ];simp only [cP,cZ,gM] at *;omega
def afB {l:List (List UInt8)} (h:∀s,s∈l→s.length≤32) (hl:l.length≤100000):E_ l=some (rF l):=by
 refine ε.eq ?_;unfold E_ rF;have:=OK h;by_cases h0:l.length=0
 ·rw [if_pos (show l.length=0 from h0)];exact ε.cond (by simp [h0]) (ε.ret rfl)
 ·rw [if_neg (show ¬l.length=0 from h0)];exact ε.cD (by simpa using h0) (ε.Ψ ⟨by omega,by omega⟩ (ε.Ψ (by simp only [cZ,gM];omega) (ε.ret rfl)))
def oP (p:List UInt8):List UInt8×List UInt8×Int:=match (j0 p).1.getLast? with|some s=>(s,rF (j0 p).1.dropLast,0)|none=>([],[],60)
def afC (p:List UInt8) (hp:p.length≤100000):Fa p=some (oP p):=by
 refine ε.eq ?_;unfold Fa oP;refine ε.af (Pb p hp) ?_;obtain ⟨h1,h2,h3⟩:=Gs (p:=p);generalize hx:j0 p=x at *;obtain ⟨l,e⟩:=x;dsimp only at h1 h2 h3 ⊢;cases l with
 |nil =>
  refine ε.bind (R:=(·=true)) (ε.bind (R:=(·=true)) (ε.ite (fun _=>ε.ret rfl) fun _=>ε.ret rfl) fun v hv=>ε.ret hv) fun v hv=>?_;rw [hv];exact ε.cond rfl (ε.ret rfl)
 |cons a r =>
  have he:e=0:=by
   rcases h3 with h|h
   ·exact h
   ·cases h.2
  subst he;refine ε.bind (R:=(·=false)) (ε.bind (R:=(·=false)) (ε.cD (by simp) (ε.ret (by rw [beq_eq_false_iff_ne];simp only [cZ];omega))) fun v hv=>ε.ret hv) fun v hv=>?_;rw [hv]
  have ac0:(a::r)[r.length]?=(a::r).getLast?:=by rw [List.getLast?_eq_getElem?];rfl
  have hs:(a::r).getLast?=some ((a::r).getLast (by simp)):=List.getLast?_eq_some_getLast (by simp)
  have hi:(((a::r).length:Int)-1)=((r.length:Nat):Int):=by simp only [cZ];omega
  rw [hi,hs];refine ε.cD (by simp) (ε.Ψ (by unfold Ξ;simp only [cZ] at h2;omega) (ε.af (cq (ac0.trans hs)) (ε.Ψ (by simp only [cZ];omega) ?_)))
  have ht:(a::r).take ((r.length:Nat):Int).toNat=(a::r).dropLast:=by rw [gU,List.dropLast_eq_take];rfl
  rw [ht];exact ε.af (afB (fun s hs=>(BO (h1 s (List.dropLast_subset _ hs))).2.2) (by simp at h2 ⊢;omega)) (ε.ret rfl)
def aee {l:List (List UInt8)} (h:∀s,s∈l→f_ s=true) (hl:l.length≤12):(rF l).length≤400:=by
 unfold rF;have:=OK (l:=l) fun s hs=>(BO (h s hs)).2.2;split
 ·simp
 ·simp only [cP,cZ,gM];omega
def tY (t:θ):Int→List (List UInt8)→Int×Int
 |i,[]=>(i,0)
 |i,s::r=>if ((eV t i s).2 != 0)=true then (0,(eV t i s).2) else tY t (eV t i s).1 r
def qB (t:θ) (p:List UInt8):Int×Int:=if ((j0 p).2 != 0)=true then (0,(j0 p).2) else tY t 1 (j0 p).1
def WC {B:Nat} {t:θ} (h:ST B t) (hB:B≤90000) (p:List UInt8) (hp:p.length≤100000):xu t p=some (qB t p):=by
 refine ε.eq ?_;unfold xu qB;refine ε.af (Pb p hp) (ε.eG (fun _=>ε.ret rfl) fun _=>?_);have hl:=(Gs (p:=p)).2.1;generalize j0 p=x at *;obtain ⟨l,e⟩:=x;dsimp only at hl ⊢;unfold YF
 have key:∀(r:List (List UInt8)) (n:Nat) (i:Int),l.drop n=r→n≤l.length→loop (Ag (l,e) t) (i,(n:Int))=some (tY t i r):=by
  intro r;induction r with
  |nil =>
   intro n i hd hn
   have:n=l.length:=by have:=congrArg List.length hd;simp at this;omega
   subst this;refine nT ?_;unfold Ag;simp [KY,Cat.out,tY]
  |cons s r ih =>
   intro n i hd hn
   have Φ:n<l.length:=by
    rcases gP n l.length with h|h
    ·exact h
    ·rw [qK h] at hd;cases hd
   rw [sa Φ] at hd;injection hd with hx rb
   have hb:Ag (l,e) t (i,(n:Int))=if ((eV t i s).2 != 0)=true then some (.inr (0,(eV t i s).2)) else some (.inl ((eV t i s).1,((n+1:Nat):Int))):=by
    unfold Ag
    have hd:decide ((n:Int)<(l.length:Int))=true:=by simpa using Φ
    simp only [hd,if_true,cq (bF Φ),hx,cm,JH h (by omega)];split
    ·rfl
    ·rw [gq (by unfold Ξ;omega)];rfl
   unfold tY;by_cases hc:((eV t i s).2 != 0)=true
   ·rw [if_pos hc] at hb ⊢;exact nT hb
   ·rw [if_neg hc] at hb ⊢;rw [tj hb];exact ih (n+1) _ rb Φ
 exact ⟨_,key l 0 1 rfl (lX _),rfl⟩
end
section
section
variable {α:Type}
def BI (C:α→Option Bool) (l:List α) (s1:Int):Option (Int⊕Int):=if (decide (s1<(l.length:Int))) then (idx l s1).bind fun x1=>(C x1).bind fun x2=>if x2 then out (some s1) else Ψ (Ξ (s1+1)) (some (.inl ((s1+1)))) else out (some (-1))
def EZ {C:α→Option Bool} {p:α→Bool} {l:List α} (hC:∀x,x∈l→C x=some (p x)) (hl:l.length≤1000000):loop (BI C l) 0=some (oI (l.findIdx? p)):=by
 rw [OU (b:=l) p (fun n _=>(n:Int)) (-1)]
 ·cases h:l.findIdx? p with
  |none=>rfl
  |some n=>obtain ⟨x,hx,-⟩:=sI h;simp only [hx];rfl
 ·intro n x hx Φ;unfold BI
  have hd:decide ((n:Int)<(l.length:Int))=true:=by simpa using Φ
  simp only [hd,if_true,cq hx,cm,hC x (mj hx)];split
  ·rfl
  ·rw [gq (by unfold Ξ;omega)]
 ·unfold BI;simp [Cat.out]
def Mi (C:α→Option Bool) (s1:Int×Int×List α):Option ((Int×Int×List α)⊕(Int×List α)):=if (decide (s1.2.1<(s1.2.2.length:Int))) then ((idx s1.2.2 s1.2.1).bind fun x2=>(C x2).bind fun x3=>if (!x3) then (idx s1.2.2 s1.1).bind fun _=>Ψ (Ξ (s1.1+1)) (some (((s1.1+1),(s1.2.2.set s1.1.toNat x2)))) else some ((s1.1,s1.2.2))).bind fun v2=>Ψ (Ξ (s1.2.1+1)) (some (.inl ((v2.1,(s1.2.1+1),v2.2)))) else out (some ((s1.1,s1.2.2)))
def ahD {l:List α} {i:Nat} {x:α} (h:i<l.length):(l.set i x).take (i+1)=l.take i++[x]:=by
 rw [List.take_set,List.set_eq_take_append_cons_drop,if_pos (by simp;omega)];rw [amf,Nat.min_eq_left (by omega)];congr 1;rw [qK (by simp;omega)]
def abd {C:α→Option Bool} {p:α→Bool} {l:List α} (hC:∀x,x∈l→C x=some (p x)) (hl:l.length≤1000000) {k:Nat} (hk:k<l.length) (hb:l.take k=(l.take (k+1)).filter fun x=>!p x) :
  ε (loop (Mi C) ((k:Int),(k:Int)+1,l)) (fun r=>∃i:Nat,r.1=i∧i≤r.2.length∧r.2.take i=l.filter fun x=>!p x):=by
 refine ε.loop (fun s:Int×Int×List α=>∃i j:Nat,s.1=i∧s.2.1=j∧i<j∧j≤l.length∧s.2.2.length=l.length∧s.2.2.take i=(l.take j).filter (fun x=>!p x)∧s.2.2.drop j=l.drop j) (fun s=>l.length-s.2.1.toNat) ?_ _ ⟨k,k+1,rfl,rfl,by omega,by omega,rfl,hb,rfl⟩;rintro ⟨s0,s1,s⟩ ⟨i,j,e1,e2,eT,hj,hlen,ht,hd⟩;dsimp only at e1 e2 hlen ht hd;subst e1;subst e2;unfold Mi;dsimp only;by_cases Φ:j<l.length
 ·have hx:s[j]?=l[j]?:=by
   have:=congrArg (fun r=>r[0]?) hd;simpa using this
  have US:l[j]?=some l[j]:=bF Φ;rw [US] at hx
  have yL:s.drop (j+1)=l.drop (j+1):=by
   have:=congrArg (List.drop 1) hd;simpa using this
  have I4:l.take (j+1)=l.take j++[l[j]]:=by rw [oX,US];rfl
  refine ε.cond (by simp;omega) (ε.bind (R:=fun v:Int×List α=>∃i':Nat,v.1=(i':Int)∧i'≤j+1∧i'<j+1∧v.2.length=l.length∧v.2.take i'=(l.take (j+1)).filter (fun x=>!p x)∧v.2.drop (j+1)=l.drop (j+1)) (ε.af (cq hx) (ε.af (hC _ (ek Φ)) ?_)) fun v hv=>?_)
  ·refine ε.ite (fun hp=>?_) fun hp=>ε.ret ⟨i,rfl,by omega,by omega,hlen,?_,yL⟩
   ·have hi:i<s.length:=by omega
    refine ε.af (cq (bF hi)) (ε.Ψ (by unfold Ξ;omega) (ε.ret ⟨i+1,by dsimp only;omega,by omega,by omega,by simp [hlen],?_,?_⟩))
    ·dsimp only;rw [gU,ahD hi,ht,I4,uh,ij,if_pos hp];rfl
    ·dsimp only;rw [gU,List.drop_set_of_lt (by omega)];exact yL
   ·rw [ht,I4,uh,ij,if_neg hp];simp
  ·obtain ⟨i',h1,h2,h3,h4,h5,h6⟩:=hv;exact ε.Ψ (by unfold Ξ;omega) (ε.inl ⟨⟨i',j+1,h1,by dsimp only;omega,h3,Φ,h4,h5,h6⟩,by dsimp only;omega⟩)
 ·have:j=l.length:=by omega
  subst this;refine ε.cD (by simp [hlen]) (ε.out (ε.ret ⟨i,rfl,by dsimp only;omega,?_⟩));dsimp only;rw [ht,jr]
def SY {C:α→Option Bool} {p:α→Bool} {l:List α} {z:α} (hC:∀x,x∈l→C x=some (p x)) (hl:l.length≤1000000) :
  ((loop (BI C l) 0).bind fun x1=>if (x1==(-1)) then some l else (Ψ (Ξ (x1+1)) (loop (Mi C) ((x1,(x1+1),l)))).bind fun v1=>Ψ ((0:Int)≤v1.1∧v1.1≤(v1.2.length:Int)) (Ψ ((0:Int)≤v1.1∧v1.1≤(((v1.2.take (v1.1.toNat)++il (v1.2.length-(v1.1.toNat)) z)).length:Int)) (some ((((v1.2.take (v1.1.toNat)++il (v1.2.length-(v1.1.toNat)) z)).take v1.1.toNat)))))=some (l.filter fun x=>!p x):=by
 refine ε.eq ?_;refine ε.af (EZ hC hl) ?_;cases h:l.findIdx? p with
 |none =>
  refine ε.cond (by rfl) (ε.ret ?_);rw [xE] at h;symm;rw [ui];intro x hx;simp [h x hx]
 |some k =>
  rw [Lq] at h;obtain ⟨hk,EE,k_⟩:=h;show ε (if ((k:Int) == -1)=true then _ else _) _;refine ε.cD (by simp) (ε.bind (ε.Ψ (by show Ξ ((k:Int)+1);unfold Ξ;omega) (abd hC hl hk ?_)) fun v hv=>?_)
  ·have fT:l.take (k+1)=l.take k++[l[k]]:=by rw [oX,bF hk];rfl
   rw [fT,uh,ij,if_neg (by simp [EE])];simp only [List.filter_nil,qJ];symm;rw [ui];intro x hx;obtain ⟨j,hj⟩:=tn hx;rw [gn] at hj;by_cases pC:j<k
   ·rw [if_pos pC] at hj;obtain ⟨h1,rfl⟩:=fk.1 hj;have:=k_ j pC;simpa using this
   ·rw [if_neg pC] at hj;cases hj
  ·obtain ⟨i,h1,h2,h3⟩:=hv;rw [h1,gU];refine ε.Ψ ⟨by omega,by omega⟩ (ε.Ψ ⟨by omega,by simp;omega⟩ (ε.ret ?_));rw [←h3,List.take_append_of_le_length (by simp;omega),amf,Nat.min_self]
end
def wE (l:List ay) (i:Int):Bool:=l.any fun h=>h.κ==i
def iI (c h:Int) (x:ay):Bool:=x.aW==c&&x.bY==h
def af4 (l:List ay) (i:Int) (hl:l.length≤1000000):F7 l i=some (wE l i):=by
 have h:=EZ (C:=fun x=>D1 x i) (p:=fun h=>h.κ==i) (l:=l) (fun x _=>rfl) hl;unfold F7;show ((loop (BI (fun x=>D1 x i) l) 0).bind _)=_;rw [h,cm,Fe];rfl
def af3 (l:List ay) (i:Int) (hl:l.length≤1000000):Bw l i=some (wE l i):=by
 have h:=EZ (C:=fun x=>EC x i) (p:=fun h=>h.κ==i) (l:=l) (fun x _=>rfl) hl;unfold Bw Kt;show (((loop (BI (fun x=>EC x i) l) 0).bind _).bind _)=_;rw [h,cm,Fe];rfl
def WT (l:List ay) (c h:Int) (hl:l.length≤1000000):Gk l (c,h)=some (oI (l.findIdx? (iI c h))):=by
 have h:=EZ (C:=fun x=>ED (c,h) x) (p:=iI c h) (l:=l) (fun x _=>by unfold ED Bx iI;simp) hl;exact h
def l_ (n:ξ):Bool:=n.τ==1&&n.a_==0
def Pf (n:ξ):wO n=some (l_ n):=by
 unfold wO l_;cases n.τ==1<;>rfl
def afI {t:θ} (hl:t.η.length≤1000000):Bv t=some ((t.η.filter l_).map (·.κ)):=by
 have:NW t (0,[])=some ((t.η.filter l_).map (·.κ)):=by
  unfold NW;refine ε.eq ?_;refine ε.loop (fun s:Int×List Int=>∃n:Nat,s.1=n∧n≤t.η.length∧s.2=((t.η.take n).filter l_).map (·.κ)) (fun s=>t.η.length-s.1.toNat) ?_ _ ⟨0,rfl,by omega,rfl⟩;rintro ⟨s0,o⟩ ⟨n,e1,hn,e2⟩;dsimp only at e1 e2;subst e1;subst e2;unfold IV;dsimp only;by_cases Φ:n<t.η.length
  ·have hx:=bF Φ
   have fT:t.η.take (n+1)=t.η.take n++[t.η[n]]:=by rw [oX,hx];rfl
   have hle:(((t.η.take n).filter l_).map (·.κ)).length≤n:=by
    rw [ax];exact fo (mh _ _) (by simp;omega)
   refine ε.cond (by simpa using Φ) (ε.bind (R:=(·=((t.η.take (n+1)).filter l_).map (·.κ))) (ε.af (cq hx) (ε.af (Pf _) (ε.ite (fun h=>ε.Ψ (by simp only [cZ,gM];omega) (ε.ret ?_)) fun h=>ε.ret ?_))) fun v hv=>ε.Ψ (by unfold Ξ;omega) (ε.inl ⟨⟨n+1,by dsimp only;omega,Φ,hv⟩,by dsimp only;omega⟩))
   ·rw [fT,uh,eI,ij,if_pos h];rfl
   ·rw [fT,uh,eI,ij,if_neg h];simp
  ·have:n=t.η.length:=by omega
   subst this;exact ε.cD (by simp) (ε.out (ε.ret (by rw [jr])))
 unfold Bv;rw [this];rfl
def SF {l:List ay} (hl:l.length≤1000000):FY l=some l:=sz (by omega)
def HI {l:List aA} (hl:l.length≤1000000):Ac l=some l:=sz (by omega)
def cH (c h:Int) (x:ay):Int:=if gX x.aW c≠0 then gX x.aW c else gX x.bY h
def afQ (c h:Int) (x:ay) (k:Int×Int):zg (c,h) x k=some (cH c h x):=by
 refine ε.eq ?_;unfold zg Bx;refine ε.af rfl (ε.af (xp _ _) (ε.af (xp _ _) (ε.af (a:=cH c h x) ?_ (ε.ret rfl))));dsimp only;unfold HK SN cH;generalize gX x.aW c=a;generalize gX x.bY h=b;by_cases ha:a≠0
 ·rw [if_pos ha];refine nT ?_;unfold wa;simp [idx,ha,Cat.out]
 ·have ha:a=0:=Decidable.of_not_not ha;subst ha;rw [if_neg (by simp)];refine (tj (s':=1) ?_).trans ?_
  ·unfold wa;simp [idx];rw [gq (by unfold Ξ;omega)]
  ·by_cases hb:b=0
   ·subst hb;refine (tj (s':=2) ?_).trans (nT ?_)
    ·unfold wa;simp [idx];rw [gq (by unfold Ξ;omega)]
    ·unfold wa;simp [HL,Cat.out]
   ·refine nT ?_;unfold wa;simp [idx,hb,Cat.out]
end
end Go.Proofs
