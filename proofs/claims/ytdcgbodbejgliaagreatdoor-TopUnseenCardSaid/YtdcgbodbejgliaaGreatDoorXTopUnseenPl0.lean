/- The plain law, piece 0. No condition. -/
import Derived.Test.YtdcgbodbejgliaaGreatDoorXTopUnseenSp
import Derived.Test.YtdcgbodbejgliaaGreatDoorXTopUnseenCatP6
import Derived.Test.YtdcgbodbejgliaaGreatDoorXTopUnseenCatP1
import Derived.Test.YtdcgbodbejgliaaGreatDoorXTopUnseenCatP5
import Derived.IntWalk
open Bool renaming and_eq_true → bJ, eq_false_iff → gK, false_eq_true → nk, or_eq_true → tT, not_eq_true' → oS, eq_iff_iff → uZ, not_eq_true → CV, true_and → KL, not_false → alA
open Go.Op renaming bytesLess → fV
open Int renaming toNat_natCast → gM, le_refl → xj, natCast_nonneg → Za
open List renaming length_map → ay, getElem?_eq_getElem → bT, mem_cons_of_mem → cr, mem_cons → bj, length_cons → c8, length_append → dq, getElem?_eq_some_iff → fb, mem_singleton → dD, pairwise_cons → eI, length_take → dQ, mem_map → dg, mem_filter → eB, getElem_mem → eG, map_append → fo, getElem?_take → gb, replicate → ic, mem_append → gg, filter_cons → ia, length_nil → ib, mem_of_getElem? → mc, take_length → jE, length_filter_le → ma, mem_of_find?_eq_some → qF, length_eq_zero_iff → rV, pairwise_iff_getElem → vn, drop_eq_nil_of_le → qC, pairwise_singleton → vp, append_assoc → l9, drop_eq_getElem_cons → xl, findIdx?_eq_none_iff → xm, mem_append_left → qE, take_add_one → qH, any_eq_false → pS, filter_eq_self → tV, append_nil → xk, filter_append → tU, findIdx?_eq_some_iff_getElem → KT, pairwise_append → vk, takeWhile_cons → xo, foldl_cons → xn, cons_append → C0, countP_cons → C3, find?_eq_none → GG, any_eq_true → CZ, length_filter_lt_length_iff_exists → Zn, foldl_append → GH, getElem?_eq_none → Ra, getElem!_eq_getElem?_getD → Zi, getElem?_zip_eq_some → Zl, intercalate → Rc, find?_cons → Q_, takeWhile_prefix → Zq, find?_filter → Zg, find?_some → alB, length_zip → alC, take_take → alD
open List.Pairwise renaming nil → jY, filter → Zd
open Nat renaming le_refl → bF, le_trans → fc, lt_or_ge → gG, eq_zero_or_pos → oT, zero_le → lO, lt_trichotomy → KZ
open Ne renaming symm → j1
open Option renaming bind_some → cD, isSome_iff_exists → nn
open Option.some renaming inj → lP
open UInt8 renaming not_lt → K9, lt_iff_toNat_lt → ZD, le_antisymm → ZC, lt_irrefl → ZE
namespace Go.Proofs
set_option linter.all false
open Go Go.Cat
section
def gQ (x y:Int):Int:=if x<y then -1 else if x>y then 1 else 0
def w7 (x y:Int):qQ x y=some (gQ x y):=by
 unfold qQ cmp_isNaN_int gQ;simp only [cD];by_cases h1:x<y <;> by_cases h2:x>y <;> simp [h1,h2]
def jr {x y:Int}:gQ x y<0↔x<y:=by unfold gQ; split <;> (try split) <;> omega
def MB:oU zT (fun a b=>gQ a.ι b.ι):=by
 refine ⟨fun x y=>by unfold zT; rw [w7]; rfl,⟨fun x=>?_,fun x y z h1 h2=>?_,fun x y z h1 h2=>?_⟩⟩
 ·simp [jr]
 ·simp only [decide_eq_true_eq,jr] at *; omega
 ·simp only [decide_eq_false_iff_not,jr] at *; omega
instance:Ld zT:=⟨_, MB⟩
def Og:oU Cx (fun a b=>gQ a.aj b.aj):=by
 refine ⟨fun x y=>by unfold Cx; rw [w7]; rfl,⟨fun x=>?_,fun x y z h1 h2=>?_,fun x y z h1 h2=>?_⟩⟩
 ·simp [jr]
 ·simp only [decide_eq_true_eq,jr] at *; omega
 ·simp only [decide_eq_false_iff_not,jr] at *; omega
instance:Ld Cx:=⟨_, Og⟩
def aa4 (zx:List bp) (h:zx.length*96≤140737488355328):FQ zx=some zx:=by
 unfold FQ;refine cm.clone fun b hb=>?_;cases b with
 | true=>rw [hb rfl]; rfl
 | false =>
  rw [if_neg (by decide)];show Ω _ _=_;unfold Ω;rw [if_pos (by simpa using h)]; rfl
def aa5 (zx:List bd) (h:zx.length*24≤140737488355328):FR zx=some zx:=by
 unfold FR;refine cm.clone fun b hb=>?_;cases b with
 | true=>rw [hb rfl]; rfl
 | false =>
  rw [if_neg (by decide)];show Ω _ _=_;unfold Ω;rw [if_pos (by simpa using h)]; rfl
def adX (x2:ξ) (eS:(Int×(List (Int×eh))×(List (Int×ξ))×(List ξ))→Option (Bool×(List (Int×eh))×(List (Int×ξ))×(List ξ))) (kY:(Int×(List (Int×eh))×(List (Int×ξ))×(List ξ))→Option (Bool×(List (Int×eh))×(List (Int×ξ))×(List ξ))) (hs:∀a,cm (eS a) (kY a)) (s1:Bool×Int×(List (Int×eh))×(List (Int×ξ))×(List ξ)):cm (wU x2 eS s1) (wU x2 kY s1):=by
 unfold wU
 repeat' (first | with_reducible exact hs | with_reducible exact hs _ | with_reducible refine cm.bind ?_ (fun _=>?_) | with_reducible refine cm.ite ?_ ?_ | with_reducible refine cm.Ω ?_ | with_reducible refine cm.bP (fun _=>?_) (fun _=>?_) | with_reducible refine cm.out ?_ | with_reducible exact cm.refl _)
def adZ (x2:ξ) (eS:(Int×(List (Int×eh))×(List (Int×ξ))×(List ξ))→Option (Bool×(List (Int×eh))×(List (Int×ξ))×(List ξ))) (kY:(Int×(List (Int×eh))×(List (Int×ξ))×(List ξ))→Option (Bool×(List (Int×eh))×(List (Int×ξ))×(List ξ))) (hs:∀a,cm (eS a) (kY a)) (s1:Bool×Int×(List (Int×eh))×(List (Int×ξ))×(List ξ)):cm (FH x2 eS s1) (FH x2 kY s1):=cm.Vv (fun s=>adX x2 eS kY hs s) s1
def adY (eS:(Int×(List (Int×eh))×(List (Int×ξ))×(List ξ))→Option (Bool×(List (Int×eh))×(List (Int×ξ))×(List ξ))) (kY:(Int×(List (Int×eh))×(List (Int×ξ))×(List ξ))→Option (Bool×(List (Int×eh))×(List (Int×ξ))×(List ξ))) (hs:∀a,cm (eS a) (kY a)) (Fc:Int) (V_:List (Int×eh)) (Fb:List (Int×ξ)) (V':List ξ):cm (rI eS Fc V_ Fb V') (rI kY Fc V_ Fb V'):=by
 unfold rI
 repeat' (first | with_reducible apply adZ | with_reducible exact hs | with_reducible exact hs _ | with_reducible refine cm.bind ?_ (fun _=>?_) | with_reducible refine cm.ite ?_ ?_ | with_reducible refine cm.Ω ?_ | with_reducible refine cm.bP (fun _=>?_) (fun _=>?_) | with_reducible refine cm.out ?_ | with_reducible exact cm.refl _)
def adU (x1:ξ×Bool) (eS:(Int×ψ×Int×(List (Int×Bool)))→Option ((List ξ)×Int×Int×Int×(List (Int×Bool)))) (kY:(Int×ψ×Int×(List (Int×Bool)))→Option ((List ξ)×Int×Int×Int×(List (Int×Bool)))) (hs:∀a,cm (eS a) (kY a)) (s1:Int×(List ξ)×Int×Int×Int×(List (Int×Bool))):cm (zG x1 eS s1) (zG x1 kY s1):=by
 unfold zG
 repeat' (first | with_reducible exact hs | with_reducible exact hs _ | with_reducible refine cm.bind ?_ (fun _=>?_) | with_reducible refine cm.ite ?_ ?_ | with_reducible refine cm.Ω ?_ | with_reducible refine cm.bP (fun _=>?_) (fun _=>?_) | with_reducible refine cm.out ?_ | with_reducible exact cm.refl _)
def adW (x1:ξ×Bool) (eS:(Int×ψ×Int×(List (Int×Bool)))→Option ((List ξ)×Int×Int×Int×(List (Int×Bool)))) (kY:(Int×ψ×Int×(List (Int×Bool)))→Option ((List ξ)×Int×Int×Int×(List (Int×Bool)))) (hs:∀a,cm (eS a) (kY a)) (s1:Int×(List ξ)×Int×Int×Int×(List (Int×Bool))):cm (Fo x1 eS s1) (Fo x1 kY s1):=cm.Vv (fun s=>adU x1 eS kY hs s) s1
def adV (eS:(Int×ψ×Int×(List (Int×Bool)))→Option ((List ξ)×Int×Int×Int×(List (Int×Bool)))) (kY:(Int×ψ×Int×(List (Int×Bool)))→Option ((List ξ)×Int×Int×Int×(List (Int×Bool)))) (hs:∀a,cm (eS a) (kY a)) (Fc:Int) (V2:ψ) (V3:Int) (Fb:List (Int×Bool)):cm (th eS Fc V2 V3 Fb) (th kY Fc V2 V3 Fb):=by
 unfold th
 repeat' (first | with_reducible apply adW | with_reducible exact hs | with_reducible exact hs _ | with_reducible refine cm.bind ?_ (fun _=>?_) | with_reducible refine cm.ite ?_ ?_ | with_reducible refine cm.Ω ?_ | with_reducible refine cm.bP (fun _=>?_) (fun _=>?_) | with_reducible refine cm.out ?_ | with_reducible exact cm.refl _)
end
section
def ε.aaW {β σ ρ:Type} {l:List β} {B:σ→Option (σ⊕ρ)} (dE:σ→Int) (I:Nat→σ→Prop) {Q:ρ→Prop}
  (h1:∀(n:Nat) (x:β) (a:σ),n<l.length→l[n]?=some x→dE a=n→I n a→ε (B a) (ub (fun s=>dE s=(n:Int)+1∧I (n+1) s) Q))
  (h2:∀a,dE a=l.length→I l.length a→ε (B a) (ub (fun _=>False) Q)) (a:σ) (hc:dE a=0) (h0:I 0 a):ε (Cat.loop B a) Q:=by
 refine ε.loop (fun s:σ=>∃n:Nat,dE s=n∧n≤l.length∧I n s) (fun s=>l.length+1-(dE s).toNat) ?_ a ⟨0,hc,lO _,h0⟩;rintro a ⟨n,Bj,hn,hi⟩
 rcases gG n l.length with Φ | gz
 ·refine (h1 n _ a Φ (bT Φ) Bj hi).mono fun y hy=>?_;cases y with
  | inl s=>exact ⟨⟨n+1,hy.1,Φ,hy.2⟩,by show l.length+1-(dE s).toNat<_; rw [hy.1]; omega⟩
  | inr r=>exact hy
 ·obtain rfl:n=l.length:=by omega
  refine (h2 a Bj hi).mono fun y hy=>?_;cases y with
  | inl s=>exact hy.elim
  | inr r=>exact hy
def drop_cons {α:Type} {l:List α} {n:Nat} {x:α} (hx:l[n]?=some x):l.drop n=x::l.drop (n+1):=by
 obtain ⟨h3,rfl⟩:=fb.1 hx;exact xl h3
def sy {α:Type} {l:List α} {p:α→Bool} {n:Nat} (h:l.findIdx? p=some n):∃x,l[n]?=some x∧l.find? p=some x∧p x=true:=by
 obtain ⟨hn,hp,hb⟩:=KT.1 h;refine ⟨l[n],bT hn,?_,hp⟩;rw [List.find?_eq_some_iff_getElem];exact ⟨hp,n,hn,rfl,fun j hj=>by simpa using hb j hj⟩
def DC {α:Type} {l:List α} {p:α→Bool} (h:l.findIdx? p=none):l.find? p=none:=by
 rw [xm] at h;rw [GG];intro x hx; simp [h x hx]
def oI:Option Nat→Int
 | some k=>k
 | none=>-1
def VL (o:Option Nat):decide (oI o≥0)=o.isSome:=by cases o <;> simp [oI]
def aei (o:Option Nat):decide (oI o<0)=!o.isSome:=by
 cases o with
 | none=>rfl
 | some n=>show decide ((n:Int)<0)=false; rw [decide_eq_false_iff_not]; omega
def jV:ξ:=⟨0,0,0,[],[],0⟩
def gN (l:List ξ) (i:Int):Option ξ:=l.find? (fun n=>n.ι==i)
def gD (l:List ξ) (i:Int):ξ:=(gN l i).getD jV
def dM {l:List ξ} {i:Int} {n:ξ} (h:gN l i=some n):n∈l∧n.ι=i:=⟨qF h,by simpa using alB h⟩
def yn {l:List ξ} {i:Int}:gN l i=none↔∀n,n∈l→n.ι≠i:=by
 unfold gN; rw [GG]; simp
def dz (l:List ξ) (i:Int):ξ×Int:=if (gN l i).isSome then (if (gD l i).τ != 2 then (jV,73) else (gD l i,0)) else (jV,70)
def fY (s:List UInt8):Bool:=decide (1≤s.length)&&decide (s.length≤32)&&!(s == [46])&&!(s == [46,46])&&!(s.any fun x=>decide ((x.toNat:Int)<32)||(x.toNat:Int)==47)
def BL (l:List aN) (s:List UInt8):Option Nat:=l.findIdx? (fun e=>e.aM==s)
def il (l:List ξ):Nat→Int→Nat
 | 0,_=>0
 | f+1,i=>if i=1 then 0 else il l f (gD l i).Up+1
def Se (l:List ξ) (f:Nat) (i:Int):il l (f+1) i=if i=1 then 0 else il l f (gD l i).Up+1:=rfl
def xQ (l:List ξ) (o:Int):Nat→Int→Bool
 | 0,_=>false
 | f+1,i=>if i==o then true else if i==1 then false else xQ l o f (gD l i).Up
def j4 (l:List ξ) (i o:Int):Bool:=xQ l o (l.length+1) i
def cG (n:ξ):List ξ→List ξ
 | []=>[n]
 | x::r=>if x.ι≥n.ι then n::(x::r).filter (fun y=>y.ι != n.ι) else x::cG n r
def BX (n x:ξ) (r:List ξ):cG n (x::r)=if x.ι≥n.ι then n::(x::r).filter (fun y=>y.ι != n.ι) else x::cG n r:=rfl
def OR (n:ξ):∀l,(cG n l).length≤l.length+1
 | []=>bF _
 | x::r=>by
  unfold cG;split
  ·have:=ma (fun y:ξ=>y.ι != n.ι) (x::r); simp only [c8] at *; omega
  ·have:=OR n r; simp only [c8]; omega
def nR (e:aN):List aN→List aN
 | []=>[e]
 | x::r=>if (!(fV x.aM e.aM||x.aM==e.aM))=true then e::x::r else x::nR e r
def EP (e x:aN) (r:List aN):nR e (x::r)=if (!(fV x.aM e.aM||x.aM==e.aM))=true then e::x::r else x::nR e r:=rfl
def N4 (e:aN):∀l,(nR e l).length=l.length+1
 | []=>rfl
 | x::r=>by unfold nR; split; rfl; simp only [c8,N4 e r]
def j6 (t:ψ) (i:Int) (s:List UInt8) (o:Int):ψ:=⟨cG ⟨(gD t.η i).ι,(gD t.η i).τ,(gD t.η i).bb,(gD t.η i).aC,nR ⟨s,o,t.aj⟩ (gD t.η i).Ψ,(gD t.η i).Up⟩ t.η,t.Next,t.aj+1⟩
def eK (t:ψ) (i:Int) (s:List UInt8):ψ:=⟨cG ⟨(gD t.η i).ι,(gD t.η i).τ,(gD t.η i).bb,(gD t.η i).aC,(gD t.η i).Ψ.filter (fun e=>!(e.aM==s)),(gD t.η i).Up⟩ t.η,t.Next,t.aj⟩
end
section
def bo {a b:Bool} {x:Option Bool} (h:a=false→x=some b):(if a=true then some true else x)=some (a||b):=by
 cases a with
 | true=>rfl
 | false=>rw [if_neg (by simp),h rfl]; rfl
def ba {a b:Bool} {x:Option Bool} (h:a=true→x=some b):(if a=true then x else some false)=some (a&&b):=by
 cases a with
 | true=>rw [if_pos rfl,h rfl]; rfl
 | false=>rfl
structure TF (B:Nat) (t:ψ):Prop where
 n:t.η.length≤B
 e:∀n,n∈t.η→n.Ψ.length≤B
 l:∀n,n∈t.η→-(B:Int)≤n.bb∧n.bb≤B
 c:0≤t.aj∧t.aj≤B
 x:0≤t.Next∧t.Next≤B
def TF.up {B C:Nat} {t:ψ} (h:TF B t) (hC:B≤C):TF C t :=
 ⟨fc h.n hC,fun n hn=>fc (h.e n hn) hC,fun n hn=>by have:=h.l n hn; omega,by have:=h.c; omega,by have:=h.x; omega⟩
def H2 (l:List ξ) (i:Int):gD l i∈l∨gD l i=jV:=by
 unfold gD;cases h:gN l i with
 | none=>exact .inr rfl
 | some n=>exact .inl (dM h).1
def TF.gE {B:Nat} {t:ψ} (h:TF B t) (i:Int):(gD t.η i).Ψ.length≤B:=by
 rcases H2 t.η i with h1 | h1
 ·exact h.e _ h1
 ·rw [h1]; exact lO _
def TF.gL {B:Nat} {t:ψ} (h:TF B t) (i:Int):-(B:Int)≤(gD t.η i).bb∧(gD t.η i).bb≤B:=by
 rcases H2 t.η i with h1 | h1
 ·exact h.l _ h1
 ·rw [h1]; show -(B:Int)≤0∧(0:Int)≤B; omega
def WE {n x:ξ}:∀{l:List ξ},x∈cG n l→x=n∨(x∈l∧x.ι≠n.ι)∨(x∈l∧x.ι<n.ι)
 | [],h=>by simp [cG] at h; exact .inl h
 | y::r,h=>by
  rw [BX] at h;split at h
  ·rcases bj.1 h with h | h
   ·exact .inl h
   ·obtain ⟨h1,h2⟩:=eB.1 h;exact .inr (.inl ⟨h1,by simpa using h2⟩)
  ·next Φ =>
   rcases bj.1 h with h | h
   ·exact .inr (.inr ⟨by rw [h]; simp,by rw [h]; omega⟩)
   ·rcases WE h with h | h | h
    ·exact .inl h
    ·exact .inr (.inl ⟨cr _ h.1,h.2⟩)
    ·exact .inr (.inr ⟨cr _ h.1,h.2⟩)
def tg {n x:ξ} {l:List ξ} (h:x∈cG n l):x=n∨(x∈l∧x.ι≠n.ι):=by
 rcases WE h with h | h | h
 ·exact .inl h
 ·exact .inr h
 ·exact .inr ⟨h.1,by have:=h.2; omega⟩
def TF.put {B:Nat} {t:ψ} (h:TF B t) {n:ξ} (h1:n.Ψ.length≤B+1) (h2:-(B+1:Int)≤n.bb∧n.bb≤B+1) {x c:Int} (hx:0≤x∧x≤B+1) (hc:0≤c∧c≤B+1):TF (B+1) ⟨cG n t.η,x,c⟩:=by
 refine ⟨fc (OR n t.η) (Nat.succ_le_succ h.n),fun y hy=>?_,fun y hy=>?_,hc,hx⟩
 ·rcases tg hy with rfl | ⟨hy,-⟩
  ·exact h1
  ·have:=h.e _ hy; omega
 ·rcases tg hy with rfl | ⟨hy,-⟩
  ·exact h2
  ·have:=h.l _ hy; omega
def TF.drop {B:Nat} {t:ψ} (h:TF B t) (i:Int):TF B ⟨t.η.filter (fun x=>x.ι != i),t.Next,t.aj⟩ :=
 ⟨fc (ma _ _) h.n,fun y hy=>h.e _ (eB.1 hy).1,fun y hy=>h.l _ (eB.1 hy).1,h.c,h.x⟩
def TF.uf {B:Nat} {t:ψ} (h:TF B t) (i:Int) (s:List UInt8) (o:Int):TF (B+1) (j6 t i s o):=by
 have h1:=h.gE i; have h2:=h.gL i; have h3:=h.c; have h4:=h.x;exact h.put (by rw [N4]; omega) (by dsimp only; omega) (by omega) (by omega)
def TF.qi {B:Nat} {t:ψ} (h:TF B t) (i:Int) (s:List UInt8):TF (B+1) (eK t i s):=by
 have h1:=h.gE i; have h2:=h.gL i; have h3:=h.c; have h4:=h.x;exact h.put (fc (ma _ _) (by omega)) (by dsimp only; omega) (by omega) (by omega)
def kr (t:ψ) (i:Int):ψ:=if ((gD t.η i).τ==2)=true then ⟨t.η.filter (fun x=>x.ι != i),t.Next,t.aj⟩ else ⟨cG ⟨(gD t.η i).ι,(gD t.η i).τ,(gD t.η i).bb-1,(gD t.η i).aC,(gD t.η i).Ψ,(gD t.η i).Up⟩ t.η,t.Next,t.aj⟩
def TF.un {B:Nat} {t:ψ} (h:TF B t) (i:Int):TF (B+1) (kr t i):=by
 have h1:=h.gE i; have h2:=h.gL i; have h3:=h.c; have h4:=h.x;unfold kr;split
 ·exact (h.drop i).up (by omega)
 ·exact h.put (by dsimp only; omega) (by dsimp only; omega) (by omega) (by omega)
section
variable {B:Nat} {t:ψ}
def HY (t:ψ) (n:ξ):Bool:=decide ((n.Ψ.length:Int)≥64)||decide ((il t.η 201 n.ι:Int)≥12)||decide (t.aj≥1099511627776)
def sw (t:ψ) (i:Int) (s:List UInt8):Int:=if ((dz t.η i).2 != 0)=true then (dz t.η i).2 else if (!fY s)=true then 60 else if (BL (dz t.η i).1.Ψ s).isSome=true then 71 else if HY t (dz t.η i).1=true then 76 else 0
def LO (h:TF B t) (i:Int):(dz t.η i).1.Ψ.length≤B:=by
 unfold dz; split
 ·split
  ·exact lO _
  ·exact h.gE i
 ·exact lO _
def mw (t:ψ) (i:Int) (s:List UInt8) (k:Int):ψ×Int×Int:=if ((k != 1)&&(k != 2))=true then (t,0,1) else if (sw t i s != 0)=true then (t,0,sw t i s) else if (decide ((t.η.length:Int)≥200)||decide (t.Next≥1099511627776))=true then (t,0,76) else (j6 ⟨cG ⟨t.Next,k,1,[],[],if (k==2)=true then i else 0⟩ t.η,t.Next+1,t.aj⟩ i s t.Next,t.Next,0)
def TF.RC (h:TF B t) (k:Int) (u:Int):TF (B+1) ⟨cG ⟨t.Next,k,1,[],[],u⟩ t.η,t.Next+1,t.aj⟩:=by
 have h3:=h.c; have h4:=h.x;exact h.put (by simp) (by dsimp only; omega) (by omega) (by omega)
def sY (t:ψ) (i to:Int) (s:List UInt8):ψ×Int:=if (!(gN t.η i).isSome||((gD t.η i).τ==1&&(gD t.η i).bb==0))=true then (t,70) else if ((gD t.η i).τ==2)=true then (t,72) else if (sw t to s != 0)=true then (t,sw t to s) else (j6 ⟨cG ⟨(gD t.η i).ι,(gD t.η i).τ,(gD t.η i).bb+1,(gD t.η i).aC,(gD t.η i).Ψ,(gD t.η i).Up⟩ t.η,t.Next,t.aj⟩ to s i,0)
def TF.Vs (h:TF B t) (i:Int):TF (B+1) ⟨cG ⟨(gD t.η i).ι,(gD t.η i).τ,(gD t.η i).bb+1,(gD t.η i).aC,(gD t.η i).Ψ,(gD t.η i).Up⟩ t.η,t.Next,t.aj⟩:=by
 have h1:=h.gE i; have h2:=h.gL i; have h3:=h.c; have h4:=h.x;exact h.put (by dsimp only; omega) (by dsimp only; omega) (by omega) (by omega)
def eQ (t:ψ) (i:Int) (s:List UInt8):Int×Int:=if ((dz t.η i).2 != 0)=true then (0,(dz t.η i).2) else if (!fY s)=true then (0,60) else match (dz t.η i).1.Ψ.find? (fun e=>e.aM==s) with | some e=>(e.ι,0) | none=>(0,70)
def qs (t:ψ) (i:Int) (s:List UInt8):ψ×Int×Int:=if ((eQ t i s).2 != 0)=true then (t,0,(eQ t i s).2) else if decide (((gD t.η (eQ t i s).1).Ψ.length:Int)>0)=true then (t,0,74) else (kr (eK t i s) (eQ t i s).1,(eQ t i s).1,0)
def sd (t:ψ) (x:ξ) (y:Int):Int:=if (!(gN t.η y).isSome)=true then 0 else if (x.τ==2&&(gD t.η y).τ != 2)=true then 73 else if (x.τ != 2&&(gD t.η y).τ==2)=true then 72 else if decide (((gD t.η y).Ψ.length:Int)>0)=true then 74 else 0
def sK (l:List ξ) (i a:Int):Int:=l.foldl (fun m n=>if (n.τ==2&&j4 l n.ι i)=true then max m (a+(il l 201 n.ι:Int)-(il l 201 i:Int)+if decide ((n.Ψ.length:Int)>0)=true then 1 else 0) else m) 0
end
end
section
section
variable {B:Nat} {t:ψ}
def bY (t:ψ) (to:Int) (aJ:List UInt8):Int:=match (dz t.η to).1.Ψ.find? (fun e=>e.aM==aJ) with | some e=>e.ι | none=>0
def I7 (t:ψ) (i from_ to y:Int):Bool:=(((y==0)&&(to != from_))&&decide (((dz t.η to).1.Ψ.length:Int)≥64))||decide ((il t.η 201 to:Int)≥12)||((gD t.η i).τ==2&&decide (sK t.η i ((il t.η 201 to:Int)+1)>12))||decide (t.aj≥1099511627776)
def iU (t:ψ) (i from_:Int) (s:List UInt8) (to:Int) (aJ:List UInt8) (y:Int):ψ:=if (y != 0)=true then kr (eK (eK t from_ s) to aJ) y else eK t from_ s
def kg (t u:ψ) (i to:Int):ψ:=if ((gD t.η i).τ==2)=true then ⟨cG ⟨(gD t.η i).ι,(gD t.η i).τ,(gD t.η i).bb,(gD t.η i).aC,(gD t.η i).Ψ,to⟩ u.η,u.Next,u.aj⟩ else u
def qj (t:ψ) (from_:Int) (s:List UInt8) (to:Int) (aJ:List UInt8):ψ×Int×Int :=
 if ((eQ t from_ s).2 != 0)=true then (t,0,(eQ t from_ s).2) else if ((dz t.η to).2 != 0)=true then (t,0,(dz t.η to).2) else if (!fY aJ)=true then (t,0,60)
 else if (bY t to aJ==(eQ t from_ s).1)=true then (t,0,0)
 else if ((gD t.η (eQ t from_ s).1).τ==2&&j4 t.η to (eQ t from_ s).1)=true then (t,0,75)
 else if (sd t (gD t.η (eQ t from_ s).1) (bY t to aJ) != 0)=true then (t,0,sd t (gD t.η (eQ t from_ s).1) (bY t to aJ))
 else if I7 t (eQ t from_ s).1 from_ to (bY t to aJ)=true then (t,0,76)
 else (j6 (kg t (iU t (eQ t from_ s).1 from_ s to aJ (bY t to aJ)) (eQ t from_ s).1 to) to aJ (eQ t from_ s).1,bY t to aJ,0)
def TF.iU (h:TF B t) (i from_:Int) (s:List UInt8) (to:Int) (aJ:List UInt8) (y:Int):TF (B+3) (iU t i from_ s to aJ y):=by
 unfold Go.Proofs.iU;split
 ·exact ((h.qi from_ s).qi to aJ).un y
 ·exact (h.qi from_ s).up (by omega)
def TF.kg {C:Nat} {u:ψ} (h:TF B t) (hu:TF C u) (hC:B≤C) (i to:Int):TF (C+1) (kg t u i to):=by
 have h1:=h.gE i; have h2:=h.gL i; have h3:=hu.c; have h4:=hu.x;unfold Go.Proofs.kg;split
 ·exact hu.put (by dsimp only; omega) (by dsimp only; omega) (by omega) (by omega)
 ·exact hu.up (by omega)
def nX (t:ψ) (i:Int) (x:List UInt8):ψ×Int:=if (!(gN t.η i).isSome)=true then (t,70) else if ((gD t.η i).τ==2)=true then (t,72) else if decide ((x.length:Int)>4096)=true then (t,2) else (⟨cG ⟨(gD t.η i).ι,(gD t.η i).τ,(gD t.η i).bb,x,(gD t.η i).Ψ,(gD t.η i).Up⟩ t.η,t.Next,t.aj⟩,0)
def vS (t:ψ) (i:Int):ψ×Int:=if (!(gN t.η i).isSome)=true then (t,70) else if ((gD t.η i).τ==2)=true then (t,72) else if decide ((gD t.η i).bb>0)=true then (t,71) else (⟨t.η.filter (fun x=>x.ι != i),t.Next,t.aj⟩,0)
def ak1 (t:ψ) (n:UInt8):Int:=match t.η[n.toNat % (t.η.length+1)]? with | some x=>x.ι | none=>t.Next
def ad8:List (List UInt8):=[[97],[98],[99],[100],[101],[46,46]]
def nmP (n:UInt8):List UInt8:=(ad8[n.toNat % 6]?).getD []
end
end
section
def dX (l:List ξ):Prop:=l.Pairwise (fun a b=>a.ι<b.ι)
def zD {n:ξ}:∀{l:List ξ},dX l→dX (cG n l)
 | [],_=>vp _ _
 | x::r,h=>by
  obtain ⟨h1,h2⟩:=eI.1 h;rw [BX];split
  ·next gz =>
   refine eI.2 ⟨fun y hy=>?_,h.filter _⟩;obtain ⟨hy,aO⟩:=eB.1 hy
   have aO:y.ι≠n.ι:=by simpa using aO
   rcases bj.1 hy with rfl | hy
   ·omega
   ·have:=h1 y hy; omega
  ·next Φ =>
   refine eI.2 ⟨fun y hy=>?_,zD h2⟩
   rcases tg hy with rfl | ⟨hy,-⟩
   ·omega
   ·exact h1 y hy
def SG {l:List ξ} (h:dX l) (p:ξ→Bool):dX (l.filter p):=Zd p h
def qV (x:ξ) (l:List ξ) (i:Int):gN (x::l) i=if x.ι=i then some x else gN l i:=by
 unfold gN;rw [Q_];by_cases h:x.ι=i
 ·rw [if_pos h]; simp [h]
 ·rw [if_neg h]
  have:(x.ι==i)=false:=by simpa using h
  rw [this]
def AU (l:List ξ) (j i:Int):gN (l.filter (fun x=>x.ι != j)) i=if i=j then none else gN l i:=by
 induction l with
 | nil=>simp [gN]
 | cons x l ih =>
  rw [ia,qV];by_cases h:x.ι=j
  ·have e:(x.ι != j)=false:=by simpa using h
   rw [e,if_neg (by simp),ih];by_cases hi:i=j
   ·rw [if_pos hi,if_pos hi]
   ·rw [if_neg hi,if_neg hi,if_neg (by omega)]
  ·have e:(x.ι != j)=true:=by simpa using h
   rw [e,if_pos rfl,qV,ih];by_cases hi:i=j
   ·rw [if_pos hi,if_pos hi,if_neg (by omega)]
   ·rw [if_neg hi,if_neg hi]
def lv (n:ξ) (i:Int):∀l,gN (cG n l) i=if i=n.ι then some n else gN l i
 | []=>by
  unfold cG; rw [qV];by_cases h:i=n.ι
  ·rw [if_pos h,if_pos h.symm]
  ·rw [if_neg h,if_neg (j1 h)]
 | x::r=>by
  rw [BX];by_cases h:i=n.ι
  ·rw [if_pos h];split
   ·rw [qV,if_pos h.symm]
   ·rw [qV,if_neg (by omega),lv n i r,if_pos h]
  ·rw [if_neg h];split
   ·rw [qV,if_neg (j1 h),AU,if_neg h]
   ·rw [qV,lv n i r,if_neg h,qV]
def Co {l:List ξ} (h:dX l) {a b:ξ} (ha:a∈l) (hb:b∈l) (e:a.ι=b.ι):a=b:=by
 induction l with
 | nil=>cases ha
 | cons x l ih =>
  obtain ⟨h1,h2⟩:=eI.1 h
  rcases bj.1 ha with ha | ha <;> rcases bj.1 hb with hb | hb
  ·rw [ha,hb]
  ·have:=h1 b hb; rw [←ha] at this; omega
  ·have:=h1 a ha; rw [←hb] at this; omega
  ·exact ih h2 ha hb
def ym {l:List ξ} (h:dX l) {n:ξ} (hn:n∈l):gN l n.ι=some n:=by
 cases e:gN l n.ι with
 | none=>exact absurd rfl (yn.1 e n hn)
 | some m=>have:=dM e; rw [Co h this.1 hn this.2]
structure TS (t:ψ):Prop where
 s:dX t.η
 lo:∀n,n∈t.η→0≤n.ι∧n.ι<t.Next
 rt:∃n,gN t.η 1=some n∧n.τ=2
 en:∀n,n∈t.η→∀e,e∈n.Ψ→e.ι≠1
section
variable {t:ψ}
def TS.nx (h:TS t):1<t.Next:=by
 obtain ⟨n,hn,-⟩:=h.rt;have:=dM hn;have h1:=h.lo n this.1;omega
def TS.g (h:TS t) (i:Int):(0≤(gD t.η i).ι∧(gD t.η i).ι<t.Next)∧((gD t.η i).ι=1→(gD t.η i).τ=2)∧∀e,e∈(gD t.η i).Ψ→e.ι≠1:=by
 have hx:=h.nx
 rcases H2 t.η i with h1 | h1
 ·refine ⟨h.lo _ h1,fun e=>?_,h.en _ h1⟩;obtain ⟨n,hn,hk⟩:=h.rt;have:=dM hn;rw [←Co h.s this.1 h1 (by rw [this.2,e])]; exact hk
 ·rw [h1]; exact ⟨⟨xj _,by show (0:Int)<_; omega⟩,fun e=>absurd e (by show (0:Int)≠1; omega),fun e he=>by cases he⟩
def TS.put (h:TS t) {n:ξ} {x c:Int} (hn:0≤n.ι∧n.ι<x) (hx:t.Next≤x) (hk:n.ι=1→n.τ=2) (he:∀e,e∈n.Ψ→e.ι≠1):TS ⟨cG n t.η,x,c⟩:=by
 refine ⟨zD h.s,fun y hy=>?_,?_,fun y hy=>?_⟩
 ·rcases tg hy with rfl | ⟨hy,-⟩
  ·exact hn
  ·have:=h.lo y hy; dsimp only; omega
 ·obtain ⟨r,hr,kQ⟩:=h.rt;dsimp only;rw [lv];by_cases e:1=n.ι
  ·exact ⟨n,if_pos e,hk e.symm⟩
  ·exact ⟨r,by rw [if_neg e,hr],kQ⟩
 ·rcases tg hy with rfl | ⟨hy,-⟩
  ·exact he
  ·exact h.en y hy
def TS.drop (h:TS t) {i:Int} (hi:i≠1):TS ⟨t.η.filter (fun x=>x.ι != i),t.Next,t.aj⟩:=by
 refine ⟨SG h.s _,fun y hy=>h.lo _ (eB.1 hy).1,?_,fun y hy=>h.en _ (eB.1 hy).1⟩;obtain ⟨r,hr,kQ⟩:=h.rt;exact ⟨r,by dsimp only; rw [AU,if_neg (j1 hi),hr],kQ⟩
def BB {e x:aN}:∀{l:List aN},x∈nR e l↔x=e∨x∈l
 | []=>by simp [nR]
 | y::r=>by
  rw [EP];split
  ·simp
  ·rw [bj,BB,bj];constructor
   ·rintro (h | h | h)
    ·exact .inr (.inl h)
    ·exact .inl h
    ·exact .inr (.inr h)
   ·rintro (h | h | h)
    ·exact .inr (.inl h)
    ·exact .inl h
    ·exact .inr (.inr h)
def TS.uf (h:TS t) (i:Int) (s:List UInt8) {o:Int} (ho:o≠1):TS (j6 t i s o):=by
 obtain ⟨h1,h2,h3⟩:=h.g i;refine h.put h1 (xj _) h2 fun e he=>?_
 rcases BB.1 he with rfl | he
 ·exact ho
 ·exact h3 e he
def TS.qi (h:TS t) (i:Int) (s:List UInt8):TS (eK t i s):=by
 obtain ⟨h1,h2,h3⟩:=h.g i;exact h.put h1 (xj _) h2 fun e he=>h3 e (eB.1 he).1
def TS.un (h:TS t) {i:Int} (hi:i≠1):TS (kr t i):=by
 obtain ⟨h1,h2,h3⟩:=h.g i;unfold kr;split
 ·exact h.drop hi
 ·exact h.put h1 (xj _) h2 h3
def TS.iU (h:TS t) (i from_:Int) (s:List UInt8) (to:Int) (aJ:List UInt8) {y:Int} (hy:y≠1):TS (iU t i from_ s to aJ y)∧(iU t i from_ s to aJ y).Next=t.Next:=by
 unfold Go.Proofs.iU;split
 ·refine ⟨((h.qi from_ s).qi to aJ).un hy,?_⟩;unfold kr; split <;> rfl
 ·exact ⟨h.qi from_ s,rfl⟩
def TS.kg {u:ψ} (h:TS t) (hu:TS u) (hx:u.Next=t.Next) (i to:Int):TS (kg t u i to):=by
 obtain ⟨h1,h2,h3⟩:=h.g i;unfold Go.Proofs.kg;split
 ·exact hu.put (by dsimp only; omega) (xj _) h2 h3
 ·exact hu
def nr {x:Int} (h:¬(x != 0)=true):x=0:=by simpa using h
end
end
section
def ε.same {α ρ:Type} {a b:List α} {B:Int→Option (Int⊕ρ)} {Q:ρ→Prop} (jI:a.length=b.length)
  (h1:∀(n:Nat) (x y:α),n<a.length→a[n]?=some x→b[n]?=some y→ε (B (n:Int)) (fun r=>(x=y∧r=.inl ((n:Int)+1))∨(x≠y∧∃q,r=.inr q∧(a≠b→Q q))))
  (h2:a=b→ε (B (a.length:Int)) (fun r=>∃q,r=.inr q∧Q q)):ε (Cat.loop B 0) Q:=by
 refine ε.aaV (l:=a) (fun n=>a.take n=b.take n) (fun n x Φ hx hi=>?_) (fun hi=>?_) (by simp)
 ·have hy:=bT (show n<b.length by omega);refine (h1 n x _ Φ hx hy).mono ?_;rintro r (⟨he,rfl⟩ | ⟨he,q,rfl,hq⟩)
  ·exact ⟨rfl,by rw [rJ hx,rJ hy,hi,he]⟩
  ·exact hq fun e=>he (by subst e; rw [hx] at hy; exact lP hy)
 ·rw [jE,jI,jE] at hi;refine (h2 hi).mono ?_;rintro r ⟨q,rfl,hq⟩;exact hq
def HF {x y:aN}:(x.aM==y.aM&&(x.ι==y.ι&&(x.aj==y.aj&&true)))=true↔x=y:=by
 cases x; cases y; simp
def af7 (a b:List aN) (hl:a.length≤1000000):ε (Fp a b) (cM (a=b)):=by
 unfold Fp;refine ε.ite (fun e=>ε.ret (cM.no fun h=>?_)) fun e=>?_
 ·simp [h] at e
 have jI:a.length=b.length:=by simp at e; omega
 unfold WN;refine ε.same jI (fun n x y hn hx hy=>?_) fun he=>?_
 ·unfold Fq;refine ε.cond (by simpa using hn) (ε.ai (cF hx) (ε.ai (cF hy) ?_));by_cases h:x=y
  ·rw [if_neg (by rw [HF.2 h]; simp),ij (by unfold Θ; omega)];exact ε.ret (.inl ⟨h,rfl⟩)
  ·rw [if_pos (by rw [oS,←CV,HF]; exact h)];exact ⟨_,rfl,.inr ⟨h,_,rfl,fun aO=>cM.no aO⟩⟩
 ·unfold Fq;exact ε.cV (by simp) ⟨_,rfl,_,rfl,cM.yes he⟩
def WJ (a b:List aN) (hl:a.length≤1000000):ε (Ck a b) (cM (a=b)):=by
 unfold Ck;refine ε.ite (fun e=>ε.ret (cM.no fun h=>?_)) fun e=>?_
 ·simp [h] at e
 have jI:a.length=b.length:=by simp at e; omega
 unfold Xk;refine ε.same jI (fun n x y hn hx hy=>?_) fun he=>?_
 ·unfold FW;refine ε.cond (by simpa using hn) (ε.ai (cF hx) (ε.ai (cF hy) ?_));by_cases h:x=y
  ·rw [if_neg (by rw [HF.2 h]; simp),ij (by unfold Θ; omega)];exact ε.ret (.inl ⟨h,rfl⟩)
  ·rw [if_pos (by rw [oS,←CV,HF]; exact h)];exact ⟨_,rfl,.inr ⟨h,_,rfl,fun aO=>cM.no aO⟩⟩
 ·unfold FW;exact ε.cV (by simp) ⟨_,rfl,_,rfl,cM.yes he⟩
def aec {a b:ξ}:a=b↔a.ι=b.ι∧a.τ=b.τ∧a.bb=b.bb∧a.Up=b.Up∧a.aC=b.aC∧a.Ψ=b.Ψ:=by
 constructor
 ·rintro rfl; exact ⟨rfl,rfl,rfl,rfl,rfl,rfl⟩
 ·obtain ⟨a1,a2,a3,a4,a5,a6⟩:=a; obtain ⟨b1,b2,b3,b4,b5,b6⟩:=b;rintro ⟨h1,h2,h3,h6,h4,h5⟩; dsimp only at *; subst h1 h2 h3 h4 h5 h6; rfl
def yw (a b:ξ):Bool:=a.ι==b.ι&&a.τ==b.τ&&a.bb==b.bb&&a.Up==b.Up&&a.aC==b.aC
def A4 {a b:ξ}:(yw a b=true∧a.Ψ=b.Ψ)↔a=b:=by
 rw [aec]; unfold yw; simp [and_assoc]
def WK (a b:ξ) (hl:a.Ψ.length≤1000000):ε (zJ a b) (cM (a=b)):=by
 unfold zJ;rw [bo (b:=a.τ != b.τ) (fun _=>rfl),cD,bo (b:=a.bb != b.bb) (fun _=>rfl),cD,bo (b:=a.Up != b.Up) (fun _=>rfl),cD,bo (b:=!(a.aC==b.aC)) (fun _=>rfl),cD,cD]
 have e:(a.ι != b.ι||a.τ != b.τ||a.bb != b.bb||a.Up != b.Up||!(a.aC==b.aC))=!yw a b:=by unfold yw; simp [bne,Bool.not_and]
 rw [e];refine ε.ite (fun h=>ε.ret (cM.no fun jI=>?_)) fun h=>?_
 ·rw [oS,←CV] at h; exact h (A4.2 jI).1
 ·have h:yw a b=true:=by simpa using h
  refine ε.bind (af7 a.Ψ b.Ψ hl) fun r hr=>ε.ret (hr.trans ?_);rw [←A4]; simp [h]
def WL (a b:ξ) (hl:a.Ψ.length≤1000000):ε (Cf a b) (cM (a=b)):=by
 unfold Cf;rw [ba (b:=a.τ==b.τ) (fun _=>rfl),cD,ba (b:=a.bb==b.bb) (fun _=>rfl),cD,ba (b:=a.Up==b.Up) (fun _=>rfl),cD,ba (b:=a.aC==b.aC) (fun _=>rfl),cD];show ε (((if yw a b=true then _ else _:Option Bool).bind _).bind _) _;refine ε.bind (R:=cM (a=b)) (ε.bind (R:=cM (a=b)) ?_ fun r hr=>ε.ret hr) fun r hr=>ε.ret hr;refine ε.ite (fun h=>?_) fun h=>ε.ret (cM.no fun jI=>h (A4.2 jI).1);refine ε.bind (WJ a.Ψ b.Ψ hl) fun r hr=>ε.ret (hr.trans ?_);rw [←A4]; simp [h]
def agc (a b:ξ) (hl:a.Ψ.length≤1000000):ε (Gg a b) (cM (a=b)):=by
 unfold Gg He;simp only [cD];rw [ba (b:=a.τ==b.τ) (fun _=>rfl),cD,ba (b:=a.bb==b.bb) (fun _=>rfl),cD,ba (b:=a.Up==b.Up) (fun _=>rfl),cD,ba (b:=a.aC==b.aC) (fun _=>rfl),cD];show ε (((if yw a b=true then _ else _:Option Bool).bind _).bind _) _;refine ε.bind (R:=cM (a=b)) (ε.bind (R:=cM (a=b)) ?_ fun r hr=>ε.ret hr) fun r hr=>ε.ret hr;refine ε.ite (fun h=>?_) fun h=>ε.ret (cM.no fun jI=>h (A4.2 jI).1);refine ε.bind (WJ a.Ψ b.Ψ hl) fun r hr=>ε.ret (hr.trans ?_);rw [←A4]; simp [h]
def af_ (a b:List ξ) (hl:a.length≤1000000) (he:∀n,n∈a→n.Ψ.length≤1000000):ε (Fs a b) (cM (a=b)):=by
 unfold Fs;refine ε.ite (fun e=>ε.ret (cM.no fun h=>?_)) fun e=>?_
 ·simp [h] at e
 have jI:a.length=b.length:=by simp at e; omega
 unfold WO;refine ε.same jI (fun n x y hn hx hy=>?_) fun he=>?_
 ·unfold Ft;refine ε.cond (by simpa using hn) (ε.ai (cF hx) (ε.ai (cF hy) (ε.bind (WK x y (he x (mc hx))) fun r hr=>?_)));by_cases h:x=y
  ·rw [if_neg (by rw [hr.2 h]; simp),ij (by unfold Θ; omega)];exact ε.ret (.inl ⟨h,rfl⟩)
  ·rw [if_pos (by rw [oS,←CV]; exact fun e=>h (hr.1 e))];exact ⟨_,rfl,.inr ⟨h,_,rfl,fun aO=>cM.no aO⟩⟩
 ·unfold Ft;exact ε.cV (by simp) ⟨_,rfl,_,rfl,cM.yes he⟩
def agd (a b:List ξ) (hl:a.length≤1000000) (he:∀n,n∈a→n.Ψ.length≤1000000):ε (FU a b) (cM (a=b)):=by
 unfold FU;refine ε.ite (fun e=>ε.ret (cM.no fun h=>?_)) fun e=>?_
 ·simp [h] at e
 have jI:a.length=b.length:=by simp at e; omega
 unfold Xj;refine ε.same jI (fun n x y hn hx hy=>?_) fun he=>?_
 ·unfold FV;refine ε.cond (by simpa using hn) (ε.ai (cF hx) (ε.ai (cF hy) (ε.bind (agc x y (he x (mc hx))) fun r hr=>?_)));by_cases h:x=y
  ·rw [if_neg (by rw [hr.2 h]; simp),ij (by unfold Θ; omega)];exact ε.ret (.inl ⟨h,rfl⟩)
  ·rw [if_pos (by rw [oS,←CV]; exact fun e=>h (hr.1 e))];exact ⟨_,rfl,.inr ⟨h,_,rfl,fun aO=>cM.no aO⟩⟩
 ·unfold FV;exact ε.cV (by simp) ⟨_,rfl,_,rfl,cM.yes he⟩
def XR {a b:ψ}:a=b↔(a.Next=b.Next∧a.aj=b.aj)∧a.η=b.η:=by
 cases a; cases b; simp; constructor
 ·rintro ⟨h1,h2,h3⟩; exact ⟨⟨h2,h3⟩,h1⟩
 ·rintro ⟨⟨h2,h3⟩,h1⟩; exact ⟨h1,h2,h3⟩
section
variable {B:Nat} {a b:ψ}
def aga (h:TF B a) (hB:B≤100000):ε (B3 a b) (cM (a=b)):=by
 have h1:=h.n;unfold B3;refine ε.bind (R:=cM (a=b)) (ε.bind (R:=cM (a.Next=b.Next∧a.aj=b.aj)) (ε.G9 (by simp) fun _=>ε.is (by simp)) fun c hc=>ε.bind (R:=cM ((a.Next=b.Next∧a.aj=b.aj)∧a.η=b.η)) (ε.G9 hc fun _=>ε.bind (af_ a.η b.η (by omega) fun n hn=>fc (h.e n hn) (by omega)) fun r hr=>ε.ret hr) fun r hr=>ε.ret (hr.trans XR.symm)) fun r hr=>ε.ret hr
def ae5 (h:TF B a) (hB:B≤100000):ε (Gf a b) (cM (a=b)):=by
 have h1:=h.n;unfold Gf;refine ε.bind (R:=cM (a=b)) (ε.bind (R:=cM (a.Next=b.Next∧a.aj=b.aj)) (ε.G9 (by simp) fun _=>ε.is (by simp)) fun c hc=>ε.bind (R:=cM ((a.Next=b.Next∧a.aj=b.aj)∧a.η=b.η)) (ε.G9 hc fun _=>ε.bind (agd a.η b.η (by omega) fun n hn=>fc (h.e n hn) (by omega)) fun r hr=>ε.ret hr) fun r hr=>ε.ret (hr.trans XR.symm)) fun r hr=>ε.ret hr
end
end
section
def xY {x y:Int}:(gQ x y==0)=true↔x=y:=by unfold gQ; split <;> (try split) <;> simp <;> omega
def VA (a b:Nat) (h:a+b≤1000000000000):IntKind.i64.wrap (eT .u64 (IntKind.u64.wrap ((a:Int)+(b:Int))) 1)=(((a+b)/2:Nat):Int):=by
 have e1:(a:Int)+(b:Int)=((a+b:Nat):Int):=by omega
 rw [e1,Gs rfl (by show a+b<2 ^ 64; omega)];have e2:eT .u64 ((a+b:Nat):Int) 1=(((a+b)>>>1:Nat):Int):=Pq (b:=1) (by decide);rw [e2,Nat.shiftRight_eq_div_pow];exact IntWalk.i64_in _ ⟨by omega,by omega⟩
def Ga {l:List ξ} (h:dX l) {j k:Nat} {x y:ξ} (hx:l[j]?=some x) (hy:l[k]?=some y) (ph:j<k):x.ι<y.ι:=by
 obtain ⟨h1,rfl⟩:=fb.1 hx;obtain ⟨h2,rfl⟩:=fb.1 hy;exact vn.1 h j k h1 h2 ph
def V4 {l:List ξ} (hs:dX l) (hl:l.length≤1000000) (i:Int):ε (Ci l i) (fun r=>0≤r.1∧(if r.2=true then r.1 else -1)=oI (l.findIdx? (fun n=>n.ι==i))):=by
 unfold Ci Xi;refine ε.bind (R:=fun v:Int=>∃k:Nat,v=k∧k≤l.length∧(∀j x,j<k→l[j]?=some x→x.ι<i)∧(∀j x,k≤j→l[j]?=some x→i≤x.ι)) ?_ fun v hv=>?_
 ·refine ε.loop (fun s:Int×Int=>∃a b:Nat,s=((a:Int),(b:Int))∧a≤b∧b≤l.length∧(∀j x,j<a→l[j]?=some x→x.ι<i)∧(∀j x,b≤j→l[j]?=some x→i≤x.ι)) (fun s=>(s.2-s.1).toNat) ?_ _ ⟨0,l.length,rfl,by omega,by omega,fun j x h=>by omega,fun j x h hx=>by rw [Ra (by omega)] at hx; cases hx⟩;rintro s ⟨a,b,rfl,jI,hb,kR,kN⟩;unfold J6;dsimp only;by_cases Φ:a<b
  ·refine ε.cond (by simpa using Φ) (ε.Ω (by unfold Θ; omega) ?_);rw [VA a b (by omega)]
   have hm:(a+b)/2<l.length:=by omega
   have hx:=bT hm;refine ε.ai (cF hx) (ε.ai (a:=gQ l[(a+b)/2].ι i) (by unfold Cd; rw [w7]; rfl) ?_);refine ε.ite (fun e=>ε.Ω (by unfold Θ; omega) (ε.inl ⟨⟨(a+b)/2+1,b,rfl,by omega,hb,fun j x hj yJ=>?_,kN⟩,by dsimp only; omega⟩)) fun e=>ε.inl ⟨⟨a,(a+b)/2,rfl,by omega,by omega,kR,fun j x hj yJ=>?_⟩,by dsimp only; omega⟩
   ·have hc:l[(a+b)/2].ι<i:=jr.1 (by simpa using e)
    rcases gG j ((a+b)/2) with h | h
    ·have:=Ga hs yJ hx h; omega
    ·have:j=(a+b)/2:=by omega
     subst this; rw [hx] at yJ; cases yJ; exact hc
   ·have hc:¬l[(a+b)/2].ι<i:=fun h=>e (by simpa using jr.2 h)
    rcases gG ((a+b)/2) j with h | h
    ·have:=Ga hs hx yJ h; omega
    ·have:j=(a+b)/2:=by omega
     subst this; rw [hx] at yJ; cases yJ; omega
  ·have:a=b:=by omega
   subst this;exact ε.cV (by simp) (ε.out (ε.ret ⟨a,rfl,hb,kR,kN⟩))
 ·obtain ⟨k,rfl,hk,kR,kN⟩:=hv;by_cases Il:k<l.length
  ·have hx:=bT Il;refine ε.bind (R:=(·=(gQ l[k].ι i==0))) (ε.bind (R:=(·=(gQ l[k].ι i==0))) (ε.cond (by simpa using Il) (ε.ai (cF hx) (ε.ai (a:=gQ l[k].ι i) (by unfold Cd; rw [w7]; rfl) (ε.ret rfl)))) fun r hr=>ε.ret hr) fun r hr=>ε.ret ?_;subst hr;dsimp only;refine ⟨Za k,?_⟩;by_cases he:l[k].ι=i
   ·rw [if_pos (xY.2 he)]
    have:l.findIdx? (fun n=>n.ι==i)=some k:=by
     rw [KT];refine ⟨Il,by simpa using he,fun j hj=>?_⟩;have:=kR j _ hj (bT (by omega));simp; omega
    rw [this]; rfl
   ·rw [if_neg (fun h=>he (xY.1 h))]
    have:l.findIdx? (fun n=>n.ι==i)=none:=by
     rw [xm];intro x gl;obtain ⟨j,hj⟩:=s4 gl
     rcases KZ j k with h | h | h
     ·have:=kR j x h hj; simp; omega
     ·subst h; rw [hx] at hj; cases hj; simpa using he
     ·have:=Ga hs hx hj h; have:=kN k _ (bF _) hx; simp; omega
    rw [this]; rfl
  ·refine ε.bind (R:=(·=false)) (ε.bind (R:=(·=false)) (ε.cV (by simpa using Il) (ε.ret rfl)) fun r hr=>ε.ret hr) fun r hr=>ε.ret ?_;subst hr;dsimp only;refine ⟨Za k,?_⟩
   have:l.findIdx? (fun n=>n.ι==i)=none:=by
    rw [xm];intro x gl;obtain ⟨j,hj⟩:=s4 gl;have:=kR j x (by have:=(Ml hj).1; omega) hj; simp; omega
   rw [this]; rfl
def V9 {l:List ξ} (hs:dX l) (hl:l.length≤1000000) (i:Int):Cc l i=some (oI (l.findIdx? (fun n=>n.ι==i))):=by
 refine ε.eq ?_;unfold Cc;refine ε.bind (V4 hs hl i) fun r hr=>?_;obtain ⟨k,b⟩:=r;cases b with
 | true=>exact ε.cV (by simp) (ε.ret hr.2)
 | false=>exact ε.cond rfl (ε.ret hr.2)
def afi {t:ψ} (hs:dX t.η) (hl:t.η.length≤1000000) (i:Int):ε (tG ⟨t⟩ i) (fun r=>r.2=⟨t⟩∧0≤r.1.1∧(if r.1.2=true then r.1.1 else -1)=oI (t.η.findIdx? (fun n=>n.ι==i))):=by
 unfold tG;show ε ((Ci t.η i).bind _) _;exact ε.bind (V4 hs hl i) fun r hr=>ε.ret ⟨rfl,hr⟩
def rE {t:ψ} (hs:dX t.η) (hl:t.η.length≤1000000) (i:Int):m_ ⟨t⟩ i=some ((gD t.η i,(gN t.η i).isSome),⟨t⟩):=by
 refine ε.eq ?_;unfold m_;refine ε.bind (afi hs hl i) fun r hr=>?_;obtain ⟨⟨k,b⟩,g⟩:=r;obtain ⟨rfl,hk,hr⟩:=hr;dsimp only at hk hr ⊢;unfold gD gN;cases h:t.η.findIdx? (fun n=>n.ι==i) with
 | none =>
  rw [h] at hr; rw [DC h];cases b with
  | false=>exact ε.cond rfl (ε.ret rfl)
  | true=>rw [if_pos rfl] at hr; have:k=-1:=hr; omega
 | some n =>
  obtain ⟨x,hx,hf,-⟩:=sy h;rw [h] at hr; rw [hf];cases b with
  | false=>rw [if_neg (by simp)] at hr; have:(-1:Int)=(n:Int):=hr; omega
  | true =>
   rw [if_pos rfl] at hr;have:k=(n:Int):=hr;subst this;exact ε.cV (by simp) (ε.ai (cF hx) (ε.ret rfl))
def s9 {t:ψ} (hs:dX t.η) (hl:t.η.length≤1000000) (i:Int):l7 t i=some (gD t.η i,(gN t.η i).isSome):=by
 unfold l7;rw [rE hs hl]; rfl
def qp (l:List bd) (f u:Int):Bool:=l.any fun x=>decide (x.At≥f)&&decide (x.At<u)
def Wn (l:List bd) (f u:Int) (hl:l.length≤1000000):Cg l f u=some (qp l f u):=by
 unfold Cg J9 Kd Xm;rw [Oi (b:=l) (fun x=>decide (x.At≥f)&&decide (x.At<u)) (fun n _=>(n:Int)) (-1)]
 ·rw [cD,cD];refine congrArg some ?_;unfold qp;cases h:l.findIdx? (fun x=>decide (x.At≥f)&&decide (x.At<u)) with
  | none =>
   rw [xm] at h;symm;show _=false;rw [pS]; intro x hx; simpa using h x hx
  | some n =>
   obtain ⟨x,hx,-,hp⟩:=sy h;rw [CZ.2 ⟨x,mc hx,hp⟩];simp only [hx];simp
 ·intro n x hx hn;unfold FY JX;rw [if_pos (by simpa using hn),cF hx,cD];rw [ba (b:=decide (x.At<u)) (fun _=>rfl),cD,cD,cD,ij (by unfold Θ; omega)];rfl
 ·unfold FY; rw [if_neg (by simp)]; rfl
end
section
open Classical in
noncomputable def te (s:bq) (t:ψ) (p:ξ×Int):Bool:=decide (gN t.η p.1.ι≠some p.1)&&qp s.aW p.2 (s.aT+1)
noncomputable def BW (s:bq) (t:ψ):List bp:=((s.Γ.η.zip s.aQ).filter (te s t)).map fun p=>⟨p.2,s.aT+1,p.1⟩
open Classical in
noncomputable def qq (s:bq) (n:ξ):Int:=match s.Γ.η.findIdx? (fun m=>decide (m=n)) with | some k=>(s.aQ[k]?).getD 0 | none=>s.aT+1
open Classical in
noncomputable def dP (s:bq) (t:ψ):bq:=if s.Γ=t then s else ⟨t,s.aT+1,t.η.map (qq s),s.aS++BW s t,s.aW,s.Next⟩
open Classical in
def ag4 {s:bq} (hs:dX s.Γ.η) {k:Nat} {n:ξ} (hn:s.Γ.η[k]?=some n):qq s n=(s.aQ[k]?).getD 0:=by
 unfold qq
 have:s.Γ.η.findIdx? (fun m=>decide (m=n))=some k:=by
  rw [KT];obtain ⟨h1,h2⟩:=fb.1 hn;refine ⟨h1,by simpa using h2,fun j hj=>?_⟩;have:=Ga hs (bT (show j<s.Γ.η.length by omega)) hn hj;simp only [decide_eq_true_eq];intro e; rw [e] at this; omega
 rw [this]
open Classical in
def Xf {s:bq} {n:ξ} (hn:n∉s.Γ.η):qq s n=s.aT+1:=by
 unfold qq
 have:s.Γ.η.findIdx? (fun m=>decide (m=n))=none:=by
  rw [xm];intro x hx;simp only [decide_eq_false_iff_not];intro e; exact hn (e▸hx)
 rw [this]
def QC {l:List ξ} {m:List Int} {k:Nat} {p:ξ×Int} (h:(l.zip m)[k]?=some p):l[k]?=some p.1∧m[k]?=some p.2:=by
 rw [Zl] at h; exact h
structure PF (B:Nat) (s:bq) (t:ψ):Prop where
 f:TF B s.Γ
 ft:TF B t
 b:B≤90000
 so:dX s.Γ.η
 st:dX t.η
 si:s.aQ.length=s.Γ.η.length
 tk:0≤s.aT∧s.aT≤1000000
 ps:s.aS.length≤1000000
 ta:s.aW.length≤1000000
section
variable {B:Nat} {s:bq} {t:ψ}
def PF.zl (h:PF B s t):(s.Γ.η.zip s.aQ).length=s.Γ.η.length:=by rw [alC,h.si]; omega
open Classical in
open Classical in
def afA (h:PF B s t):Pl s t (0,s.aS)=some (s.aS++BW s t):=by
 have h1:=h.f.n; have h2:=h.ft.n; have h3:=h.b; have h4:=h.tk; have h5:=h.ps; have h6:=h.ta; have hz:=h.zl;refine ε.eq ?_;unfold Pl BW;rw [←hz] at h1;refine ε.each (l:=s.Γ.η.zip s.aQ) (fun k a=>a=s.aS++(((s.Γ.η.zip s.aQ).take k).filter (te s t)).map fun p=>⟨p.2,s.aT+1,p.1⟩) (fun k p a Φ hp ha=>?_) (fun a ha=>?_) _ (by simp)
 ·obtain ⟨hx,hq⟩:=QC hp
  have aR:a.length≤1000000+k:=by
   rw [ha,dq,ay];have:=ma (te s t) ((s.Γ.η.zip s.aQ).take k);rw [dQ] at this; omega
  unfold FC;refine ε.cond (by simp; omega) ?_;dsimp only;refine ε.bind (R:=(·=s.aS++(((s.Γ.η.zip s.aQ).take (k+1)).filter (te s t)).map fun p=>⟨p.2,s.aT+1,p.1⟩)) ?_ fun v hv=>ε.Ω (by unfold Θ; omega) (ε.inl ⟨rfl,hv⟩);rw [rJ hp,tU,fo,←l9,←ha];refine ε.ai (cF hx) (ε.ai (V9 h.st (by omega) _) ?_);refine ε.bind (R:=(·=te s t p)) (ε.bind (R:=cM (gN t.η p.1.ι≠some p.1)) ?_ fun r hr=>ε.bind (R:=(·=te s t p)) ?_ fun r hr=>ε.ret hr) fun r hr=>?_
  ·rw [aei];cases hg:t.η.findIdx? (fun n=>n.ι==p.1.ι) with
   | none=>exact ε.cond rfl (ε.ret (cM.yes (by unfold gN; rw [DC hg]; simp)))
   | some j =>
    obtain ⟨m,hm,hf,-⟩:=sy hg;refine ε.cV (by simp) ?_;show ε ((idx t.η (j:Int)).bind _) _;refine ε.ai (cF hm) (ε.bind (WL p.1 m (fc (h.f.e _ (mc hx)) (by omega))) fun r hr=>ε.ret ((cM.not hr).trans ?_));unfold gN; rw [hf]; simp [eq_comm]
  ·unfold te;refine ε.ite (fun e=>ε.ai (cF hq) (ε.ai (Wn _ _ _ (by omega)) (ε.ret ?_))) fun e=>ε.ret ?_
   ·rw [decide_eq_true (hr.1 e)]; rfl
   ·rw [decide_eq_false (fun h=>e (hr.2 h))]; rfl
  ·subst hr;refine ε.ite (fun e=>ε.ai (cF hq) (ε.Ω (by simp only [c8,ib]; omega) (ε.ret ?_))) fun e=>ε.ret ?_
   ·rw [ia,e]; simp
   ·rw [CV] at e; rw [ia,e]; simp
 ·unfold FC;rw [jE] at ha;exact ε.cV (by rw [hz]; simp) (ε.out (ε.ret ha))
open Classical in
def afG (h:PF B s t):Pm t s (0,[])=some (t.η.map (qq s)):=by
 have h1:=h.f.n; have h2:=h.ft.n; have h3:=h.b; have h4:=h.tk;refine ε.eq ?_;unfold Pm;refine ε.each (l:=t.η) (fun k a=>a=(t.η.take k).map (qq s)) (fun k n a Φ hn ha=>?_) (fun a ha=>?_) _ rfl
 ·have aR:a.length≤k:=by rw [ha,ay,dQ]; omega
  unfold FD;refine ε.cond (by simp; omega) ?_;dsimp only;refine ε.ai (cF hn) ?_;refine ε.bind (R:=(·=qq s n)) ?_ fun v hv=>ε.Ω (by simp only [c8,ib]; omega) (ε.Ω (by unfold Θ; omega) (ε.inl ⟨rfl,by rw [hv,rJ hn,fo,←ha]; rfl⟩));refine ε.ai (V9 h.so (by omega) _) ?_;rw [VL];cases hg:s.Γ.η.findIdx? (fun m=>m.ι==n.ι) with
  | none =>
   refine ε.bind (R:=(·=false)) (ε.bind (R:=(·=false)) (ε.cV (by simp) (ε.ret rfl)) fun r hr=>ε.ret hr) fun r hr=>ε.cV (by rw [hr]; simp) (ε.ret ?_);rw [xm] at hg;exact (Xf fun hm=>by simpa using hg n hm).symm
  | some j =>
   obtain ⟨m,hm,-,hp⟩:=sy hg;have hj:=(Ml hm).1;have hq:=bT (show j<s.aQ.length by rw [h.si]; omega);refine ε.bind (R:=cM (n=m)) (ε.bind (R:=cM (n=m)) (ε.cond (by simp) ?_) fun r hr=>ε.ret hr) fun r hr=>?_
   ·show ε ((idx s.Γ.η (j:Int)).bind _) _;exact ε.ai (cF hm) (ε.bind (WL n m (fc (h.ft.e _ (mc hn)) (by omega))) fun r hr=>ε.ret hr)
   ·refine ε.ite (fun e=>?_) fun e=>ε.ret ?_
    ·show ε ((idx s.aQ (j:Int)).bind _) _;refine ε.ai (cF hq) (ε.ret ?_);rw [ag4 h.so (by rw [hr.1 e]; exact hm),hq]; rfl
    ·refine (Xf fun bH=>e (hr.2 ?_)).symm;exact Co h.so bH (mc hm) (by simp only [beq_iff_eq] at hp; exact hp.symm)
 ·unfold FD;rw [jE] at ha;exact ε.cV (by simp) (ε.out (ε.ret ha))
def OD (h:PF B s t):tr s t=some (dP s t):=by
 have h3:=h.b; have h4:=h.tk; have h5:=h.ps;refine ε.eq ?_;unfold tr dP;refine ε.bind (ae5 h.f (by omega)) fun r hr=>ε.ite (fun e=>ε.ret (by rw [if_pos (hr.1 e)])) fun e=>?_;rw [if_neg (fun h=>e (hr.2 h))];exact ε.Ω (by unfold Θ; omega) (ε.ai (aa4 _ (by omega)) (ε.ai (afA h) (ε.ai (afG h) (ε.ret rfl))))
end
end
section
def kq (s:bq) (i:Int):bq×Int×Int:=if (!(gN s.Γ.η i).isSome)=true then (s,0,70) else if ((gD s.Γ.η i).τ != 2)=true then (s,0,73) else if (decide ((s.aW.length:Int)≥16)||decide (s.Next≥1099511627776))=true then (s,0,76) else (⟨s.Γ,s.aT,s.aQ,s.aS,s.aW++[⟨s.Next,i,s.aT⟩],s.Next+1⟩,s.Next,0)
def ae7 (s:bq) (i:Int) (hs:dX s.Γ.η) (hl:s.Γ.η.length≤1000000) (ht:s.aW.length≤1000000) (hn:0≤s.Next∧s.Next≤1000000):Cb s i=some (kq s i):=by
 unfold Cb kq;rw [s9 hs hl,cD];dsimp only;split
 ·rfl
 split
 ·rfl
 rw [bo (b:=decide (s.Next≥1099511627776)) (fun _=>rfl),cD,cD];split
 ·rfl
 rw [aa5 _ (by omega),cD,ij (by simp only [c8,ib]; omega),ij (by unfold Θ; omega)]
def oz (s:bq) (i:Int):List bd:=s.aW.filter fun x=>x.Id != i
def zn (l:List bp) (T:List bd):List bp:=l.filter fun p=>qp T p.lS p.jb
def o9 (s:bq) (i:Int):bq×Int:=if (((oz s i).length:Int)==(s.aW.length:Int))=true then (s,100) else (⟨s.Γ,s.aT,s.aQ,zn s.aS (oz s i),oz s i,s.Next⟩,0)
def Sp (s:bq) (i:Int):(oz s i).length≤s.aW.length:=ma _ _
def aeA (s:bq) (i:Int) (ht:s.aW.length≤1000000) (hp:s.aS.length≤1000000):Ca s i=some (o9 s i):=by
 refine ε.eq ?_;have hd:=Sp s i;unfold Ca o9 JZ Xe;refine ε.bind (R:=(·=oz s i)) (ε.bind (R:=(·=oz s i)) (ε.each (l:=s.aW) (fun k a=>a=(s.aW.take k).filter fun x=>x.Id != i) (fun k x a Φ hx ha=>?_) (fun a ha=>?_) _ rfl) fun v hv=>ε.ret hv) fun v hv=>?_
 ·unfold FM JU
  have aR:a.length≤k:=by rw [ha]; exact fc (ma _ _) (by rw [dQ]; omega)
  refine ε.cond (by simpa using Φ) ?_;dsimp only;rw [cF hx,cD,cD];by_cases aO:(x.Id != i)=true
  ·rw [if_pos aO];exact ε.ai (ij (by simp only [c8,ib]; omega)) (ε.Ω (by unfold Θ; omega) (ε.inl ⟨rfl,by rw [rJ hx,tU,←ha,ia,if_pos aO]; rfl⟩))
  ·rw [if_neg aO];exact ε.ai rfl (ε.Ω (by unfold Θ; omega) (ε.inl ⟨rfl,by rw [rJ hx,tU,←ha,ia,if_neg aO]; simp⟩))
 ·unfold FM;rw [jE] at ha;exact ε.cV (by simp) (ε.out (ε.ret ha))
 subst hv;refine ε.ite (fun e=>ε.ret (by rw [if_pos e])) fun e=>?_;rw [if_neg e];unfold JY Xd;refine ε.bind (R:=(·=zn s.aS (oz s i))) (ε.bind (R:=(·=zn s.aS (oz s i))) (ε.each (l:=s.aS) (fun k a=>a=zn (s.aS.take k) (oz s i)) (fun k x a Φ hx ha=>?_) (fun a ha=>?_) _ rfl) fun v hv=>ε.ret hv) fun v hv=>ε.ret (by rw [hv])
 ·unfold FL JV
  have aR:a.length≤k:=by rw [ha]; exact fc (ma _ _) (by rw [dQ]; omega)
  refine ε.cond (by simpa using Φ) ?_;dsimp only;rw [cF hx,cD,Wn _ _ _ (by omega),cD,cD];unfold zn at *;by_cases aO:qp (oz s i) x.lS x.jb=true
  ·rw [if_pos aO];exact ε.ai (ij (by simp only [c8,ib]; omega)) (ε.Ω (by unfold Θ; omega) (ε.inl ⟨rfl,by rw [rJ hx,tU,←ha,ia,if_pos aO]; rfl⟩))
  ·rw [if_neg aO];exact ε.ai rfl (ε.Ω (by unfold Θ; omega) (ε.inl ⟨rfl,by rw [rJ hx,tU,←ha,ia,if_neg aO]; simp⟩))
 ·unfold FL;rw [jE] at ha;exact ε.cV (by simp) (ε.out (ε.ret ha))
def ak2 (s:bq) (n:UInt8):Int:=match s.aW[n.toNat % (s.aW.length+1)]? with | some x=>x.Id | none=>af5 .i64 (n.toNat:Int) 8
structure SI (k:Nat) (s:bq):Prop where
 f:TF (2+5*k) s.Γ
 t:TS s.Γ
 si:s.aQ.length=s.Γ.η.length
 tk:0≤s.aT∧s.aT≤k
 nx:1≤s.Next∧s.Next≤(k:Int)+1
 sn:∀q,q∈s.aQ→0≤q∧q≤s.aT
 ta:s.aW.length≤k
 ps:s.aS.length≤2000*k
 pe:∀p,p∈s.aS→p.fg.Ψ.length≤2+5*k
 id:s.aW.Pairwise (fun x y=>x.Id<y.Id)
 ti:∀x,x∈s.aW→(1≤x.Id∧x.Id<s.Next)∧0≤x.At∧x.At≤s.aT
 pt:∀p,p∈s.aS→(0≤p.lS∧p.lS<p.jb∧p.jb≤s.aT)∧qp s.aW p.lS p.jb=true
section
variable {k:Nat} {s:bq}
def SI.up (h:SI k s) {j:Nat} (hj:k≤j):SI j s :=
 ⟨h.f.up (by omega),h.t,h.si,by have:=h.tk; omega,by have:=h.nx; omega,h.sn,by have:=h.ta; omega,by have:=h.ps; omega,fun p hp=>by have:=h.pe p hp; omega,h.id,h.ti,h.pt⟩
def agY {l m:List bd} {f u:Int} (h:qp l f u=true) (hs:∀x,x∈l→x∈m):qp m f u=true:=by
 unfold qp at *;rw [CZ] at *;obtain ⟨x,hx,hp⟩:=h;exact ⟨x,hs x hx,hp⟩
def SI.take (h:SI k s) (i:Int):SI (k+1) (kq s i).1:=by
 have h0:=h.up (j:=k+1) (by omega);have gB:=h.tk; have hnx:=h.nx;unfold kq;split
 ·exact h0
 split
 ·exact h0
 split
 ·exact h0
 refine ⟨h0.f,h.t,h.si,h0.tk,by dsimp only; omega,h.sn,by have:=h.ta; simp; omega,h0.ps,h0.pe,?_,fun x hx=>?_,fun p hp=>⟨(h.pt p hp).1,agY (h.pt p hp).2 fun x hx=>qE _ hx⟩⟩
 ·refine vk.2 ⟨h.id,vp _ _,fun x hx y hy=>?_⟩;obtain rfl:=dD.1 hy;have:=h.ti x hx; dsimp only; omega
 ·rcases gg.1 hx with hx | hx
  ·have:=h.ti x hx; dsimp only; omega
  ·obtain rfl:=dD.1 hx;dsimp only; omega
def SI.drop (h:SI k s) (i:Int):SI k (o9 s i).1:=by
 unfold o9;split
 ·exact h
 refine ⟨h.f,h.t,h.si,h.tk,h.nx,h.sn,by have:=h.ta; have:=Sp s i; dsimp only; omega,?_,fun p hp=>h.pe p (eB.1 hp).1,h.id.filter _,fun x hx=>h.ti x (eB.1 hx).1,fun p hp=>⟨(h.pt p (eB.1 hp).1).1,(eB.1 hp).2⟩⟩;have:=h.ps; have:=ma (fun p=>qp (oz s i) p.lS p.jb) s.aS;unfold zn; dsimp only; omega
end
def P7:ψ:=⟨[⟨1,2,0,[],[],1⟩],2,1⟩
def Ch:bq:=⟨P7,0,[0],[],[],1⟩
def RB:SI 0 Ch:=by
 refine ⟨⟨by decide,fun n hn=>?_,fun n hn=>?_,by decide,by decide⟩,⟨vp _ _,fun n hn=>?_,⟨_,rfl,rfl⟩,fun n hn e he=>?_⟩,rfl,by decide,by decide,fun q hq=>?_,by decide,by decide,fun p hp=>(by cases hp),jY,fun x hx=>(by cases hx),fun p hp=>(by cases hp)⟩;iterate 3 (obtain rfl:=dD.1 hn; decide)
 ·obtain rfl:=dD.1 hn; cases he
 ·obtain rfl:=dD.1 hq; decide
def flat (s:bq):List ξ×Int×Int×Int×List Int×List bp×List bd×Int:=(s.Γ.η,s.Γ.Next,s.Γ.aj,s.aT,s.aQ,s.aS,s.aW,s.Next)
end
section
def Hb:∀x:List UInt8,fV x x=false
 | []=>rfl
 | a::x=>by
  have:=Hb x;simp only [fV,this,Bool.and_false,Bool.or_false];simp
def Ly:∀{x y z:List UInt8},fV x y=true→fV y z=true→fV x z=true
 | [],_,[],_,h=>by cases ‹List UInt8› <;> simp [fV] at h
 | [],_,_::_,_,_=>rfl
 | _::_,[],_,h,_=>by simp [fV] at h
 | _::_,_::_,[],_,h=>by simp [fV] at h
 | a::x,b::y,c::z,h1,h2=>by
  simp only [fV,tT,bJ,decide_eq_true_eq,beq_iff_eq] at *
  rcases h1 with h1 | ⟨rfl,h1⟩ <;> rcases h2 with h2 | ⟨rfl,h2⟩
  ·exact .inl (UInt8.lt_trans h1 h2)
  ·exact .inl h1
  ·exact .inl h2
  ·exact .inr ⟨rfl,Ly h1 h2⟩
def RO:∀x y:List UInt8,fV x y=true∨x=y∨fV y x=true
 | [],[]=>.inr (.inl rfl)
 | [],_::_=>.inl rfl
 | _::_,[]=>.inr (.inr rfl)
 | a::x,b::y=>by
  simp only [fV,tT,bJ,decide_eq_true_eq,beq_iff_eq]
  rcases KZ a.toNat b.toNat with h | h | h
  ·exact .inl (.inl (ZD.2 h))
  ·have:a=b:=UInt8.toNat_inj.1 h;subst this
   rcases RO x y with h | h | h
   ·exact .inl (.inr ⟨rfl,h⟩)
   ·exact .inr (.inl (by rw [h]))
   ·exact .inr (.inr (.inr ⟨rfl,h⟩))
  ·exact .inr (.inr (.inl (ZD.2 h)))
def cE (l:List aN) (i:Int):Nat:=l.countP fun e=>e.ι==i
def dE (l:List ξ) (i:Int):Nat:=(l.map fun n=>cE n.Ψ i).sum
def vG {l:List aN} {i:Int}:0<cE l i↔∃e,e∈l∧e.ι=i:=by
 unfold cE; rw [List.countP_pos_iff]; simp
def Dq {l:List ξ} {i:Int}:0<dE l i↔∃n,n∈l∧∃e,e∈n.Ψ∧e.ι=i:=by
 induction l with
 | nil=>simp [dE]
 | cons x l ih =>
  have:dE (x::l) i=cE x.Ψ i+dE l i:=by simp [dE]
  rw [this];constructor
  ·intro h
   rcases oT (cE x.Ψ i) with h0 | h0
   ·obtain ⟨n,hn,h⟩:=ih.1 (by omega);exact ⟨n,cr _ hn,h⟩
   ·exact ⟨x,by simp,vG.1 h0⟩
  ·rintro ⟨n,hn,h⟩
   rcases bj.1 hn with rfl | hn
   ·have:=vG.2 h; omega
   ·have:=ih.2 ⟨n,hn,h⟩; omega
def xZ (x:ξ) (l:List ξ) (i:Int):dE (x::l) i=cE x.Ψ i+dE l i:=by simp [dE]
def S7 (x:ξ) (l:List ξ) (i:Int):gD (x::l) i=if x.ι=i then x else gD l i:=by
 unfold gD; rw [qV]; split <;> rfl
def R8 {l:List ξ} (h:dX l) (j i:Int):dE (l.filter (fun x=>x.ι != j)) i+cE (gD l j).Ψ i=dE l i:=by
 induction l with
 | nil=>rfl
 | cons x l ih =>
  obtain ⟨h1,h2⟩:=eI.1 h;rw [ia,xZ,S7];by_cases e:x.ι=j
  ·have:l.filter (fun x=>x.ι != j)=l:=by
    rw [tV]; intro y hy; have:=h1 y hy; simp; omega
   rw [if_neg (by simp [e]),if_pos e,this]; omega
  ·rw [if_pos (by simpa using e),if_neg e,xZ,←ih h2]; omega
def Dr {n:ξ} (i:Int):∀{l:List ξ},dX l→dE (cG n l) i+cE (gD l n.ι).Ψ i=dE l i+cE n.Ψ i
 | [],_=>by
  show dE [n] i+cE jV.Ψ i=dE [] i+cE n.Ψ i;rw [xZ]; simp [dE,jV,cE]
 | x::r,h=>by
  obtain ⟨h1,h2⟩:=eI.1 h;rw [BX];by_cases e:x.ι≥n.ι
  ·rw [if_pos e,xZ];have:=R8 h n.ι i;omega
  ·rw [if_neg e,xZ,xZ,S7,if_neg (by omega)];have:=Dr (n:=n) i h2;omega
def Jz {n:ξ}:∀{l:List ξ},dX l→(gN l n.ι).isSome=true→(cG n l).length=l.length
 | [],_,hp=>by simp [gN] at hp
 | x::r,h,hp=>by
  obtain ⟨h1,h2⟩:=eI.1 h;rw [BX];rw [qV] at hp;by_cases e:x.ι≥n.ι
  ·rw [if_pos e];by_cases e2:x.ι=n.ι
   ·have:r.filter (fun y=>y.ι != n.ι)=r:=by
     rw [tV]; intro y hy; have:=h1 y hy; simp; omega
    rw [ia,if_neg (by simp [e2]),this]; rfl
   ·rw [if_neg e2] at hp;obtain ⟨m,hm⟩:=nn.1 hp;have:=dM hm;have:=h1 m this.1; omega
  ·rw [if_neg e];rw [if_neg (by omega)] at hp;simp only [c8,Jz h2 hp]
inductive Deep (l:List ξ):Int→Nat→Prop
 | root:Deep l 1 0
 | step {i:Int} {n:ξ} {d:Nat}:i≠1→gN l i=some n→n.τ=2→Deep l n.Up d→Deep l i (d+1)
def Deep.uniq {l:List ξ} {i:Int} {a:Nat} (h:Deep l i a):∀{b:Nat},Deep l i b→a=b:=by
 induction h with
 | root=>intro b hb; cases hb with | root=>rfl | step h1=>exact absurd rfl h1
 | step h1 h2 h3 h4 ih =>
  intro b hb;cases hb with
  | root=>exact absurd rfl h1
  | step g1 g2 g3 g4=>rw [h2] at g2; cases g2; rw [ih g4]
def Deep.congr {l l':List ξ} (H:∀j n,gN l j=some n→n.τ=2→∃n',gN l' j=some n'∧n'.τ=n.τ∧n'.Up=n.Up) {i:Int} {d:Nat} (h:Deep l i d):Deep l' i d:=by
 induction h with
 | root=>exact .root
 | step h1 h2 h3 h4 ih =>
  obtain ⟨n',e1,e2,e3⟩:=H _ _ h2 h3;exact .step h1 e1 (by rw [e2,h3]) (by rw [e3]; exact ih)
structure xy (c:Int) (l:List aN):Prop where
 n:l.length≤64
 s:l.Pairwise fun a b=>fV a.aM b.aM=true
 r:∀e,e∈l→fY e.aM=true∧1≤e.aj∧e.aj<c
 k:l.Pairwise fun a b=>a.aj≠b.aj
def Rs (l:List ξ) (δ:Int→Nat) (n:ξ):Prop:=n.τ=1∧n.Ψ=[]∧n.Up=0∧n.aC.length≤4096∧n.bb=(dE l n.ι:Int)+δ n.ι
def RA (l:List ξ) (δ:Int→Nat) (n:ξ):Prop:=n.ι=1∧n.Up=1∧n.bb=0∧dE l 1=0∧δ 1=0
def Lf (l:List ξ) (δ:Int→Nat) (n:ξ):Prop:=n.ι≠1∧dE l n.ι+δ n.ι=1∧n.bb=1∧(δ n.ι=0→∃p,gN l n.Up=some p∧∃e,e∈p.Ψ∧e.ι=n.ι)
def xE (l:List ξ) (δ:Int→Nat) (n:ξ):Prop:=Rs l δ n∨(n.τ=2∧n.aC=[]∧(RA l δ n∨Lf l δ n))
structure W (t:ψ) (δ:Int→Nat):Prop where
 s:dX t.η
 lo:∀n,n∈t.η→1≤n.ι∧n.ι<t.Next
 rt:∃n,gN t.η 1=some n∧n.τ=2
 len:t.η.length≤200
 ck:1≤t.aj
 en:∀n,n∈t.η→xy t.aj n.Ψ
 cl:∀n,n∈t.η→∀e,e∈n.Ψ→(gN t.η e.ι).isSome=true
 nd:∀n,n∈t.η→xE t.η δ n
 dp:∀n,n∈t.η→n.τ=2→∃d,Deep t.η n.ι d∧d≤12∧(d=12→n.Ψ=[])
def xE.kind {l:List ξ} {δ:Int→Nat} {n:ξ} (h:xE l δ n):n.τ=1∨n.τ=2:=by
 rcases h with h | h
 ·exact .inl h.1
 ·exact .inr h.1
section
variable {t:ψ} {δ:Int→Nat}
def W.nx (h:W t δ):1<t.Next:=by
 obtain ⟨n,hn,-⟩:=h.rt;have:=dM hn;have h1:=h.lo n this.1;omega
def W.get (h:W t δ) {i:Int} {n:ξ} (hn:gN t.η i=some n):n∈t.η∧n.ι=i∧gD t.η i=n:=⟨(dM hn).1,(dM hn).2,by unfold gD; rw [hn]; rfl⟩
def W.dir (h:W t δ) {n:ξ} (hn:n∈t.η) (hk:n.τ=2):RA t.η δ n∨Lf t.η δ n:=by
 rcases h.nd n hn with h | h
 ·exact absurd h.1 (by omega)
 ·exact h.2.2
def W.file (h:W t δ) {n:ξ} (hn:n∈t.η) (hk:n.τ≠2):Rs t.η δ n:=by
 rcases h.nd n hn with h | h
 ·exact h
 ·exact absurd h.1 hk
def W.one (h:W t δ) {n:ξ} (hn:n∈t.η) (h1:n.ι=1):n.τ=2:=by
 obtain ⟨r,hr,hk⟩:=h.rt;have:=dM hr;rw [Co h.s hn this.1 (by rw [h1,this.2])]; exact hk
def W.Jc (h:W t δ):dE t.η 1=0∧δ 1=0:=by
 obtain ⟨r,hr,hk⟩:=h.rt;have:=dM hr
 rcases h.dir this.1 hk with h2 | h2
 ·exact h2.2.2.2
 ·exact absurd this.2 h2.1
def W.Ot (h:W t δ) {n:ξ} (hn:n∈t.η) {e:aN} (he:e∈n.Ψ):e.ι≠1:=by
 intro h1;have:0<dE t.η 1:=Dq.2 ⟨n,hn,e,he,h1⟩;have:=h.Jc.1; omega
def W.Sy (h:W t δ) {m:ξ} (hm:m∈t.η) (hk:m.τ=2) {E:List aN} {c:Int} {hZ:Int→Nat} (hc:t.aj≤c) (hE:xy c E)
  (da:∀e,e∈E→(gN t.η e.ι).isSome=true) (vZ:∀i,cE E i+hZ i=cE m.Ψ i+δ i)
  (NL:∀q,q∈t.η→q.τ=2→0<δ q.ι→hZ q.ι=0→q.Up=m.ι)
  (yz:E=[]∨m.Ψ≠[]∨∃d,Deep t.η m.ι d∧d<12):W ⟨cG ⟨m.ι,m.τ,m.bb,m.aC,E,m.Up⟩ t.η,t.Next,c⟩ hZ:=by
 have hg:gN t.η m.ι=some m:=ym h.s hm;have ep:gD t.η m.ι=m:=(h.get hg).2.2;have eN:=h.ck
 have jK:∀i,dE (cG ⟨m.ι,m.τ,m.bb,m.aC,E,m.Up⟩ t.η) i+hZ i=dE t.η i+δ i:=fun i=>by
  have h1:=Dr (n:=⟨m.ι,m.τ,m.bb,m.aC,E,m.Up⟩) i h.s;have h2:=vZ i;dsimp only at h1;rw [ep] at h1; omega
 have iB:∀i,gN (cG ⟨m.ι,m.τ,m.bb,m.aC,E,m.Up⟩ t.η) i=if i=m.ι then some ⟨m.ι,m.τ,m.bb,m.aC,E,m.Up⟩ else gN t.η i:=fun i=>lv _ i _
 have wB:∀i,(gN t.η i).isSome=true→(gN (cG ⟨m.ι,m.τ,m.bb,m.aC,E,m.Up⟩ t.η) i).isSome=true:=fun i hi=>by
  rw [iB]; split; rfl; exact hi
 have bH:∀{y},y∈cG ⟨m.ι,m.τ,m.bb,m.aC,E,m.Up⟩ t.η→y=⟨m.ι,m.τ,m.bb,m.aC,E,m.Up⟩∨(y∈t.η∧y.ι≠m.ι):=tg;have bw:=h.Jc
 have ur:∀{i d},Deep t.η i d→Deep (cG ⟨m.ι,m.τ,m.bb,m.aC,E,m.Up⟩ t.η) i d:=fun hd=>hd.congr fun j n hj _=>by
  rw [iB];by_cases e:j=m.ι
  ·rw [if_pos e]; rw [e,hg] at hj; cases hj; exact ⟨_,rfl,rfl,rfl⟩
  ·rw [if_neg e]; exact ⟨n,hj,rfl,rfl⟩
 have Uj:∀q,q∈t.η→∀q':ξ,q'.ι=q.ι→q'.τ=q.τ→q'.Up=q.Up→q'.bb=q.bb→q'.aC=q.aC→(q.τ=1→q'.Ψ=[])→xE (cG ⟨m.ι,m.τ,m.bb,m.aC,E,m.Up⟩ t.η) hZ q':=by
  intro q hq q' e1 e2 e3 e4 e5 e6
  rcases h.nd q hq with hf | ⟨fx,yA,hr | hd⟩
  ·refine .inl ⟨by rw [e2,hf.1],e6 hf.1,by rw [e3,hf.2.2.1],by rw [e5]; exact hf.2.2.2.1,?_⟩;have:=hf.2.2.2.2; have:=jK q.ι;rw [e4,e1]; omega
  ·refine .inr ⟨by rw [e2,fx],by rw [e5,yA],.inl ⟨by rw [e1,hr.1],by rw [e3,hr.2.1],by rw [e4,hr.2.2.1],?_,?_⟩⟩ <;> (have:=jK 1; omega)
  ·refine .inr ⟨by rw [e2,fx],by rw [e5,yA],.inr ⟨by rw [e1]; exact hd.1,by rw [e1,jK]; exact hd.2.1,by rw [e4]; exact hd.2.2.1,fun h0=>?_⟩⟩;rw [e1] at h0;rw [e3,e1];have UA:=vZ q.ι
   rcases oT (δ q.ι) with hz | hz
   ·obtain ⟨p,hp,e,he,yB⟩:=hd.2.2.2 hz;by_cases Bt:q.Up=m.ι
    ·refine ⟨_,by rw [iB,if_pos Bt],?_⟩;rw [Bt,hg] at hp; cases hp;have:0<cE m.Ψ q.ι:=vG.2 ⟨e,he,yB⟩;exact vG.1 (by dsimp only; omega)
    ·exact ⟨p,by rw [iB,if_neg Bt,hp],e,he,yB⟩
   ·have hu:=NL q hq fx hz h0;refine ⟨_,by rw [iB,if_pos hu],?_⟩;exact vG.1 (by dsimp only; omega)
 refine ⟨zD h.s,fun n hn=>?_,?_,?_,by dsimp only; omega,fun n hn=>?_,fun n hn e he=>?_,fun n hn=>?_,fun n hn cJ=>?_⟩
 ·rcases bH hn with rfl | ⟨hn,-⟩
  ·exact h.lo m hm
  ·exact h.lo n hn
 ·obtain ⟨r,hr,kQ⟩:=h.rt;dsimp only; rw [iB];by_cases e:1=m.ι
  ·exact ⟨⟨m.ι,m.τ,m.bb,m.aC,E,m.Up⟩,by rw [if_pos e],hk⟩
  ·exact ⟨r,by rw [if_neg e,hr],kQ⟩
 ·dsimp only; rw [Jz h.s (by dsimp only; rw [hg]; rfl)]; exact h.len
 ·rcases bH hn with rfl | ⟨hn,-⟩
  ·exact hE
  ·have:=h.en n hn;exact ⟨this.n,this.s,fun e he=>⟨(this.r e he).1,by have:=(this.r e he).2; dsimp only; omega⟩,this.k⟩
 ·rcases bH hn with rfl | ⟨hn,-⟩
  ·exact wB _ (da e he)
  ·exact wB _ (h.cl n hn e he)
 ·rcases bH hn with rfl | ⟨hn,-⟩
  ·exact Uj m hm _ rfl rfl rfl rfl rfl (fun e=>by omega)
  ·exact Uj n hn n rfl rfl rfl rfl rfl (fun e=>by
    rcases h.nd n hn with hf | hf
    ·exact hf.2.1
    ·have:=hf.1; omega)
 ·rcases bH hn with rfl | ⟨hn,-⟩
  ·obtain ⟨d,h1,h2,h3⟩:=h.dp m hm hk;refine ⟨d,ur h1,h2,fun e=>?_⟩
   rcases yz with h4 | h4 | ⟨d',h4,h5⟩
   ·exact h4
   ·exact absurd (h3 e) h4
   ·have:=h1.uniq h4; omega
  ·obtain ⟨d,h1,h2,h3⟩:=h.dp n hn cJ;exact ⟨d,ur h1,h2,h3⟩
end
end
section
section
variable {t:ψ} {δ hZ:Int→Nat}
def xE.congr {l l':List ξ} {n:ξ} (h:xE l δ n) (hc:dE l' n.ι=dE l n.ι) (h1:dE l' 1=dE l 1) (hd:hZ n.ι=δ n.ι) (MP:hZ 1=δ 1) (hp:∀p,gN l n.Up=some p→n.ι≠1→n.τ=2→∃p',gN l' n.Up=some p'∧p'.Ψ=p.Ψ):xE l' hZ n:=by
 rcases h with h | ⟨hk,yA,h | h⟩
 ·exact .inl ⟨h.1,h.2.1,h.2.2.1,h.2.2.2.1,by rw [hc,hd]; exact h.2.2.2.2⟩
 ·exact .inr ⟨hk,yA,.inl ⟨h.1,h.2.1,h.2.2.1,by rw [h1]; exact h.2.2.2.1,by rw [MP]; exact h.2.2.2.2⟩⟩
 ·refine .inr ⟨hk,yA,.inr ⟨h.1,by rw [hc,hd]; exact h.2.1,h.2.2.1,fun h0=>?_⟩⟩;rw [hd] at h0;obtain ⟨p,h2,h3⟩:=h.2.2.2 h0;obtain ⟨p',h4,h5⟩:=hp p h2 h.1 hk;exact ⟨p',h4,by rw [h5]; exact h3⟩
def W.of_eq (h:W t δ) (he:∀i,hZ i=δ i):W t hZ:=by
 have:hZ=δ:=funext he;rw [this]; exact h
def W.L9 (h:W t δ) {m:ξ} (hm:m∈t.η) (hk:m.τ≠2) {L:Int} {D:List UInt8} (hD:D.length≤4096) (hd:∀i,i≠m.ι→hZ i=δ i) (hL:L=(dE t.η m.ι:Int)+hZ m.ι):W ⟨cG ⟨m.ι,m.τ,L,D,m.Ψ,m.Up⟩ t.η,t.Next,t.aj⟩ hZ:=by
 have hg:gN t.η m.ι=some m:=ym h.s hm;have ep:gD t.η m.ι=m:=(h.get hg).2.2;have hf:=h.file hm hk;have iP:m.ι≠1:=fun e=>hk (h.one hm e)
 have jK:∀i,dE (cG ⟨m.ι,m.τ,L,D,m.Ψ,m.Up⟩ t.η) i=dE t.η i:=fun i=>by
  have h1:=Dr (n:=⟨m.ι,m.τ,L,D,m.Ψ,m.Up⟩) i h.s;dsimp only at h1;rw [ep] at h1; omega
 have iB:∀i,gN (cG ⟨m.ι,m.τ,L,D,m.Ψ,m.Up⟩ t.η) i=if i=m.ι then some ⟨m.ι,m.τ,L,D,m.Ψ,m.Up⟩ else gN t.η i:=fun i=>lv _ i _
 have T1:∀i p,gN t.η i=some p→∃p',gN (cG ⟨m.ι,m.τ,L,D,m.Ψ,m.Up⟩ t.η) i=some p'∧p'.Ψ=p.Ψ∧p'.τ=p.τ∧p'.Up=p.Up:=fun i p hp=>by
  by_cases e:i=m.ι
  ·rw [e,hg] at hp; cases hp;exact ⟨⟨m.ι,m.τ,L,D,m.Ψ,m.Up⟩,by rw [iB,if_pos e],rfl,rfl,rfl⟩
  ·exact ⟨p,by rw [iB,if_neg e,hp],rfl,rfl,rfl⟩
 have wB:∀i,(gN t.η i).isSome=true→(gN (cG ⟨m.ι,m.τ,L,D,m.Ψ,m.Up⟩ t.η) i).isSome=true:=fun i hi=>by
  rw [iB]; split; rfl; exact hi
 have bH:∀{y},y∈cG ⟨m.ι,m.τ,L,D,m.Ψ,m.Up⟩ t.η→y=⟨m.ι,m.τ,L,D,m.Ψ,m.Up⟩∨(y∈t.η∧y.ι≠m.ι):=tg
 have ur:∀{i d},Deep t.η i d→Deep (cG ⟨m.ι,m.τ,L,D,m.Ψ,m.Up⟩ t.η) i d:=fun hd=>hd.congr fun j n hj _=>by
  obtain ⟨p',h1,-,h2,h3⟩:=T1 j n hj;exact ⟨p',h1,h2,h3⟩
 refine ⟨zD h.s,fun n hn=>?_,?_,?_,h.ck,fun n hn=>?_,fun n hn e he=>?_,fun n hn=>?_,fun n hn cJ=>?_⟩
 ·rcases bH hn with rfl | ⟨hn,-⟩
  ·exact h.lo m hm
  ·exact h.lo n hn
 ·obtain ⟨r,hr,kQ⟩:=h.rt;exact ⟨r,by dsimp only; rw [iB,if_neg (j1 iP),hr],kQ⟩
 ·dsimp only; rw [Jz h.s (by dsimp only; rw [hg]; rfl)]; exact h.len
 ·rcases bH hn with rfl | ⟨hn,-⟩
  ·exact h.en m hm
  ·exact h.en n hn
 ·rcases bH hn with rfl | ⟨hn,-⟩
  ·exact wB _ (h.cl m hm e he)
  ·exact wB _ (h.cl n hn e he)
 ·rcases bH hn with rfl | ⟨hn,aO⟩
  ·exact .inl ⟨hf.1,hf.2.1,hf.2.2.1,hD,by dsimp only; rw [jK]; exact hL⟩
  ·refine (h.nd n hn).congr (jK _) (jK _) (hd _ aO) (hd _ (j1 iP)) fun p hp _ _=>?_;obtain ⟨p',h1,h2,-⟩:=T1 _ p hp;exact ⟨p',h1,h2⟩
 ·rcases bH hn with rfl | ⟨hn,-⟩
  ·exact absurd cJ hk
  ·obtain ⟨d,h1,h2,h3⟩:=h.dp n hn cJ;exact ⟨d,ur h1,h2,h3⟩
def W.gone (h:W t δ) {m:ξ} (hm:m∈t.η) (iP:m.ι≠1) (hE:m.Ψ=[]) (hc:dE t.η m.ι=0) (hu:∀q,q∈t.η→q.τ=2→q.ι≠1→q.ι≠m.ι→q.Up≠m.ι) (hd:∀i,i≠m.ι→hZ i=δ i):W ⟨t.η.filter (fun x=>x.ι != m.ι),t.Next,t.aj⟩ hZ:=by
 have hg:gN t.η m.ι=some m:=ym h.s hm;have ep:gD t.η m.ι=m:=(h.get hg).2.2
 have jK:∀i,dE (t.η.filter (fun x=>x.ι != m.ι)) i=dE t.η i:=fun i=>by
  have h1:=R8 h.s m.ι i;rw [ep,hE] at h1; simp [cE] at h1; exact h1
 have iB:∀i,gN (t.η.filter (fun x=>x.ι != m.ι)) i=if i=m.ι then none else gN t.η i:=fun i=>AU _ _ _
 have bH:∀{y},y∈t.η.filter (fun x=>x.ι != m.ι)→y∈t.η∧y.ι≠m.ι:=fun hy=>by
  have:=eB.1 hy;exact ⟨this.1,by simpa using this.2⟩
 have ur:∀{i d},Deep t.η i d→i≠m.ι→Deep (t.η.filter (fun x=>x.ι != m.ι)) i d:=by
  intro i d hd;induction hd with
  | root=>intro _; exact .root
  | @step i n d h1 h2 h3 h4 ih =>
   intro aO;have:=dM h2;exact .step h1 (by rw [iB,if_neg aO,h2]) h3 (ih (hu n this.1 h3 (by rw [this.2]; exact h1) (by rw [this.2]; exact aO)))
 refine ⟨SG h.s _,fun n hn=>h.lo n (bH hn).1,?_,?_,h.ck,fun n hn=>h.en n (bH hn).1,fun n hn e he=>?_,fun n hn=>?_,fun n hn cJ=>?_⟩
 ·obtain ⟨r,hr,kQ⟩:=h.rt;exact ⟨r,by dsimp only; rw [iB,if_neg (j1 iP),hr],kQ⟩
 ·exact fc (ma _ _) h.len
 ·have hn:=(bH hn).1;dsimp only;rw [iB,if_neg ?_]
  ·exact h.cl n hn e he
  ·intro h1;have:0<dE t.η m.ι:=Dq.2 ⟨n,hn,e,he,h1⟩;omega
 ·obtain ⟨hn,aO⟩:=bH hn;refine (h.nd n hn).congr (jK _) (jK _) (hd _ aO) (hd _ (j1 iP)) fun p hp h1 hk=>⟨p,?_,rfl⟩;rw [iB,if_neg (hu n hn hk h1 aO),hp]
 ·obtain ⟨hn,aO⟩:=bH hn;obtain ⟨d,h1,h2,h3⟩:=h.dp n hn cJ;exact ⟨d,ur h1 aO,h2,h3⟩
def W.new (h:W t δ) (hl:t.η.length<200) {k u:Int} (hk:k=1∧u=0∨k=2∧∃d,Deep t.η u d∧d<12) (h0:δ t.Next=0) (hd:∀i,hZ i=δ i+if i=t.Next then 1 else 0):W ⟨cG ⟨t.Next,k,1,[],[],u⟩ t.η,t.Next+1,t.aj⟩ hZ:=by
 have hx:=h.nx
 have bw:gN t.η t.Next=none:=yn.2 fun n hn e=>by have:=h.lo n hn; omega
 have ep:gD t.η t.Next=jV:=by unfold gD; rw [bw]; rfl
 have jK:∀i,dE (cG ⟨t.Next,k,1,[],[],u⟩ t.η) i=dE t.η i:=fun i=>by
  have h1:=Dr (n:=⟨t.Next,k,1,[],[],u⟩) i h.s;dsimp only at h1;rw [ep] at h1; simp [cE,jV] at h1; exact h1
 have TO:dE t.η t.Next=0:=by
  rcases oT (dE t.η t.Next) with h1 | h1
  ·exact h1
  ·obtain ⟨n,hn,e,he,yB⟩:=Dq.1 h1;have:=h.cl n hn e he;rw [yB,bw] at this; cases this
 have iB:∀i,gN (cG ⟨t.Next,k,1,[],[],u⟩ t.η) i=if i=t.Next then some ⟨t.Next,k,1,[],[],u⟩ else gN t.η i:=fun i=>lv _ i _
 have we:∀i p,gN t.η i=some p→gN (cG ⟨t.Next,k,1,[],[],u⟩ t.η) i=some p:=fun i p hp=>by
  rw [iB,if_neg,hp];intro e; rw [e,bw] at hp; cases hp
 have bH:∀{y},y∈cG ⟨t.Next,k,1,[],[],u⟩ t.η→y=⟨t.Next,k,1,[],[],u⟩∨(y∈t.η∧y.ι≠t.Next):=tg;have ur:∀{i d},Deep t.η i d→Deep (cG ⟨t.Next,k,1,[],[],u⟩ t.η) i d:=fun hd=>hd.congr fun j n hj _=>⟨n,we j n hj,rfl,rfl⟩;refine ⟨zD h.s,fun n hn=>?_,?_,?_,h.ck,fun n hn=>?_,fun n hn e he=>?_,fun n hn=>?_,fun n hn cJ=>?_⟩
 ·rcases bH hn with rfl | ⟨hn,-⟩
  ·dsimp only; omega
  ·have:=h.lo n hn; dsimp only; omega
 ·obtain ⟨r,hr,kQ⟩:=h.rt;exact ⟨r,we _ _ hr,kQ⟩
 ·have:=OR ⟨t.Next,k,1,[],[],u⟩ t.η; dsimp only; omega
 ·rcases bH hn with rfl | ⟨hn,-⟩
  ·exact ⟨by simp,jY,fun e he=>(by cases he),jY⟩
  ·exact h.en n hn
 ·rcases bH hn with rfl | ⟨hn,-⟩
  ·cases he
  ·obtain ⟨p,hp⟩:=nn.1 (h.cl n hn e he);dsimp only; rw [we _ _ hp]; rfl
 ·rcases bH hn with rfl | ⟨hn,aO⟩
  ·have e1:hZ t.Next=1:=by rw [hd,h0,if_pos rfl]
   rcases hk with ⟨h1,h2⟩ | ⟨h1,h2⟩
   ·exact .inl ⟨h1,rfl,h2,by simp,by dsimp only; rw [jK,TO,e1]; rfl⟩
   ·exact .inr ⟨h1,rfl,.inr ⟨by dsimp only; omega,by dsimp only; rw [jK,TO,e1],rfl,fun h=>by dsimp only at h; omega⟩⟩
  ·exact (h.nd n hn).congr (jK _) (jK _) (by rw [hd,if_neg aO]; rfl) (by rw [hd,if_neg (by omega)]; rfl) fun p hp _ _=>⟨p,we _ _ hp,rfl⟩
 ·rcases bH hn with rfl | ⟨hn,-⟩
  ·rcases hk with ⟨h1,h2⟩ | ⟨h1,d,h2,h3⟩
   ·dsimp only at cJ; omega
   ·exact ⟨d+1,.step (by dsimp only; omega) (by rw [iB,if_pos rfl]) h1 (ur h2),by omega,fun _=>rfl⟩
  ·obtain ⟨d,h1,h2,h3⟩:=h.dp n hn cJ;exact ⟨d,ur h1,h2,h3⟩
inductive jo (l:List ξ) (x:Int):Int→Prop
 | refl:jo l x x
 | step {i:Int} {n:ξ}:i≠1→gN l i=some n→n.τ=2→jo l x n.Up→jo l x i
def Deep.Je {l l':List ξ} {x:Int} (hg:∀i,i≠x→gN l' i=gN l i) {i:Int} {d:Nat} (h:Deep l i d):¬jo l x i→Deep l' i d:=by
 induction h with
 | root=>intro _; exact .root
 | @step i n d h1 h2 h3 h4 ih =>
  intro hu;have aO:i≠x:=fun e=>hu (e▸.refl);exact .step h1 (by rw [hg i aO,h2]) h3 (ih fun h=>hu (.step h1 h2 h3 h))
def jo.deep {l:List ξ} {x:Int} {dx:Nat} (hx:Deep l x dx) {i:Int} (h:jo l x i):∀{d:Nat},Deep l i d→dx≤d:=by
 induction h with
 | refl=>intro d hd; rw [hx.uniq hd]; exact bF _
 | step h1 h2 h3 h4 ih =>
  intro d hd;cases hd with
  | root=>exact absurd rfl h1
  | step g1 g2 g3 g4=>rw [h2] at g2; cases g2; have:=ih g4; omega
def jo.ad2 {l l':List ξ} {x:Int} {x':ξ} (hg:∀i,i≠x→gN l' i=gN l i) (Ξ:x≠1) (gl:gN l' x=some x') (hk:x'.τ=2) {dt dx:Nat} (ht:Deep l' x'.Up dt) (hx:Deep l x dx) {i:Int} (h:jo l x i):∀{d:Nat},Deep l i d→Deep l' i (dt+1+(d-dx)):=by
 induction h with
 | refl=>intro d hd; rw [hx.uniq hd,Nat.sub_self]; exact .step Ξ gl hk ht
 | @step i n h1 h2 h3 h4 ih =>
  intro d hd;by_cases e:i=x
  ·subst e; rw [hx.uniq hd,Nat.sub_self]; exact .step Ξ gl hk ht
  ·cases hd with
   | root=>exact absurd rfl h1
   | @step _ n' d' g1 g2 g3 g4 =>
    rw [h2] at g2; cases g2;have h5:=ih g4;have h6:=h4.deep hx g4
    have:dt+1+(d'+1-dx)=dt+1+(d'-dx)+1:=by omega
    rw [this];exact .step h1 (by rw [hg i e,h2]) h3 h5
def W.ad3 (h:W t δ) {m:ξ} (hm:m∈t.η) (hk:m.τ=2) (iP:m.ι≠1) (hw:0<δ m.ι) {to:Int} {dt dx:Nat} (ht:Deep t.η to dt) (hx:Deep t.η m.ι dx) (wj:¬jo t.η m.ι to)
  (yz:∀n,n∈t.η→n.τ=2→jo t.η m.ι n.ι→∀d,Deep t.η n.ι d→dt+1+(d-dx)≤12∧(dt+1+(d-dx)=12→n.Ψ=[])):W ⟨cG ⟨m.ι,m.τ,m.bb,m.aC,m.Ψ,to⟩ t.η,t.Next,t.aj⟩ δ:=by
 have hg:gN t.η m.ι=some m:=ym h.s hm;have ep:gD t.η m.ι=m:=(h.get hg).2.2
 have jK:∀i,dE (cG ⟨m.ι,m.τ,m.bb,m.aC,m.Ψ,to⟩ t.η) i=dE t.η i:=fun i=>by
  have h1:=Dr (n:=⟨m.ι,m.τ,m.bb,m.aC,m.Ψ,to⟩) i h.s;dsimp only at h1;rw [ep] at h1; omega
 have iB:∀i,gN (cG ⟨m.ι,m.τ,m.bb,m.aC,m.Ψ,to⟩ t.η) i=if i=m.ι then some ⟨m.ι,m.τ,m.bb,m.aC,m.Ψ,to⟩ else gN t.η i:=fun i=>lv _ i _
 have T3:gN (cG ⟨m.ι,m.τ,m.bb,m.aC,m.Ψ,to⟩ t.η) m.ι=some ⟨m.ι,m.τ,m.bb,m.aC,m.Ψ,to⟩:=by rw [iB,if_pos rfl]
 have wc:∀i,i≠m.ι→gN (cG ⟨m.ι,m.τ,m.bb,m.aC,m.Ψ,to⟩ t.η) i=gN t.η i:=fun i hi=>by rw [iB,if_neg hi]
 have wB:∀i,(gN t.η i).isSome=true→(gN (cG ⟨m.ι,m.τ,m.bb,m.aC,m.Ψ,to⟩ t.η) i).isSome=true:=fun i hi=>by
  rw [iB]; split; rfl; exact hi
 have bH:∀{y},y∈cG ⟨m.ι,m.τ,m.bb,m.aC,m.Ψ,to⟩ t.η→y=⟨m.ι,m.τ,m.bb,m.aC,m.Ψ,to⟩∨(y∈t.η∧y.ι≠m.ι):=tg;have htt:Deep (cG ⟨m.ι,m.τ,m.bb,m.aC,m.Ψ,to⟩ t.η) to dt:=ht.Je wc wj
 have d_:∀n,n∈t.η→n.τ=2→∃d,Deep (cG ⟨m.ι,m.τ,m.bb,m.aC,m.Ψ,to⟩ t.η) n.ι d∧d≤12∧(d=12→n.Ψ=[]):=fun n hn yK=>by
  obtain ⟨d,h1,h2,h3⟩:=h.dp n hn yK;by_cases hu:jo t.η m.ι n.ι
  ·exact ⟨_,hu.ad2 wc iP T3 hk htt hx h1,yz n hn yK hu d h1⟩
  ·exact ⟨d,h1.Je wc hu,h2,h3⟩
 refine ⟨zD h.s,fun n hn=>?_,?_,?_,h.ck,fun n hn=>?_,fun n hn e he=>?_,fun n hn=>?_,fun n hn cJ=>?_⟩
 ·rcases bH hn with rfl | ⟨hn,-⟩
  ·exact h.lo m hm
  ·exact h.lo n hn
 ·obtain ⟨r,hr,kQ⟩:=h.rt;exact ⟨r,by dsimp only; rw [wc _ (j1 iP),hr],kQ⟩
 ·dsimp only; rw [Jz h.s (by dsimp only; rw [hg]; rfl)]; exact h.len
 ·rcases bH hn with rfl | ⟨hn,-⟩
  ·exact h.en m hm
  ·exact h.en n hn
 ·rcases bH hn with rfl | ⟨hn,-⟩
  ·exact wB _ (h.cl m hm e he)
  ·exact wB _ (h.cl n hn e he)
 ·rcases bH hn with rfl | ⟨hn,aO⟩
  ·rcases h.dir hm hk with hr | hd
   ·exact absurd hr.1 iP
   ·refine .inr ⟨hk,?_,.inr ⟨iP,by dsimp only; rw [jK]; exact hd.2.1,hd.2.2.1,fun h0=>by dsimp only at h0; omega⟩⟩
    rcases h.nd m hm with h5 | h5
    ·exact absurd h5.1 (by omega)
    ·exact h5.2.1
  ·refine (h.nd n hn).congr (jK _) (jK _) rfl rfl fun p hp _ _=>?_;by_cases e:n.Up=m.ι
   ·rw [e,hg] at hp; cases hp;exact ⟨⟨m.ι,m.τ,m.bb,m.aC,m.Ψ,to⟩,by rw [e]; exact T3,rfl⟩
   ·exact ⟨p,by rw [wc _ e,hp],rfl⟩
 ·rcases bH hn with rfl | ⟨hn,-⟩
  ·exact d_ m hm hk
  ·exact d_ n hn cJ
end
end
section
def RW (e:aN) (i:Int):∀l,cE (nR e l) i=cE l i+if i=e.ι then 1 else 0
 | []=>by
  unfold nR cE;by_cases h:i=e.ι
  ·simp [h]
  ·have:¬e.ι=i:=fun h'=>h h'.symm;simp [h,this]
 | x::r=>by
  have ih:=RW e i r;rw [EP];unfold cE at *;split
  ·rw [C3];by_cases h:i=e.ι
   ·simp [h]
   ·have:¬e.ι=i:=fun h'=>h h'.symm;simp [h,this]
  ·rw [C3,C3,ih]; omega
def adk {c:Int} {l:List aN} (h:xy c l) {s:List UInt8} {o:Int} (hs:fY s=true) (hc:1≤c) (hl:l.length<64) (bw:∀e,e∈l→e.aM≠s):xy (c+1) (nR ⟨s,o,c⟩ l):=by
 refine ⟨by rw [N4]; omega,?_,fun e he=>?_,?_⟩
 ·have key:∀l:List aN,l.Pairwise (fun a b=>fV a.aM b.aM=true)→(∀e,e∈l→e.aM≠s)→(nR ⟨s,o,c⟩ l).Pairwise fun a b=>fV a.aM b.aM=true:=by
   intro l;induction l with
   | nil=>intro _ _; exact vp _ _
   | cons x r ih =>
    intro hp hn;obtain ⟨h1,h2⟩:=eI.1 hp;have nP:=hn x (by simp);rw [EP];split
    ·next A_ =>
     have A_:fV s x.aM=true:=by
      rcases RO s x.aM with h | h | h
      ·exact h
      ·exact absurd h.symm nP
      ·simp [h] at A_
     refine eI.2 ⟨fun y hy=>?_,hp⟩
     rcases bj.1 hy with rfl | hy
     ·exact A_
     ·exact Ly A_ (h1 y hy)
    ·next A_ =>
     have Φ:fV x.aM s=true:=by
      cases hb:fV x.aM s with
      | true=>rfl
      | false=>exact absurd (by simp [hb,nP]) A_
     refine eI.2 ⟨fun y hy=>?_,ih h2 fun e he=>hn e (cr _ he)⟩
     rcases BB.1 hy with rfl | hy
     ·exact Φ
     ·exact h1 y hy
  exact key l h.s bw
 ·rcases BB.1 he with rfl | he
  ·exact ⟨hs,by dsimp only; omega,by dsimp only; omega⟩
  ·exact ⟨(h.r e he).1,by have:=(h.r e he).2; omega⟩
 ·have key:∀l:List aN,l.Pairwise (fun a b=>a.aj≠b.aj)→(∀e,e∈l→e.aj≠c)→(nR ⟨s,o,c⟩ l).Pairwise fun a b=>a.aj≠b.aj:=by
   intro l;induction l with
   | nil=>intro _ _; exact vp _ _
   | cons x r ih =>
    intro hp hn;obtain ⟨h1,h2⟩:=eI.1 hp;rw [EP];split
    ·exact eI.2 ⟨fun y hy=>fun e=>hn y hy e.symm,hp⟩
    ·refine eI.2 ⟨fun y hy=>?_,ih h2 fun e he=>hn e (cr _ he)⟩
     rcases BB.1 hy with rfl | hy
     ·exact hn x (by simp)
     ·exact h1 y hy
  exact key l h.k fun e he=>by have:=(h.r e he).2; omega
def aba {c:Int} {l:List aN} (h:xy c l) (p:aN→Bool):xy c (l.filter p) :=
 ⟨fc (ma _ _) h.n,h.s.filter _,fun e he=>h.r e (eB.1 he).1,h.k.filter _⟩
def Z9 {c:Int} {l:List aN} (h:xy c l) {s:List UInt8} {e:aN} (hf:l.find? (fun e=>e.aM==s)=some e) (i:Int):cE (l.filter fun e=>!(e.aM==s)) i+(if i=e.ι then 1 else 0)=cE l i:=by
 have key:∀l:List aN,l.Pairwise (fun a b=>fV a.aM b.aM=true)→l.find? (fun e=>e.aM==s)=some e→cE (l.filter fun e=>!(e.aM==s)) i+(if i=e.ι then 1 else 0)=cE l i:=by
  intro l;induction l with
  | nil=>intro _ h; cases h
  | cons x r ih =>
   intro hp hf;obtain ⟨h1,h2⟩:=eI.1 hp;rw [Q_] at hf;rw [ia];cases hx:(x.aM==s) with
   | true =>
    rw [hx] at hf; cases hf
    have nP:e.aM=s:=by simpa using hx
    have:r.filter (fun e=>!(e.aM==s))=r:=by
     rw [tV];intro y hy;have h3:=h1 y hy;cases sS:(y.aM==s) with
     | false=>rfl
     | true =>
      have uJ:y.aM=s:=by simpa using sS
      rw [nP,uJ,Hb] at h3; cases h3
    rw [if_neg (by simp),this];unfold cE; rw [C3];by_cases hi:i=e.ι
    ·simp [hi]
    ·have:¬e.ι=i:=fun h'=>hi h'.symm;simp [hi,this]
   | false =>
    rw [hx] at hf;have:=ih h2 hf;rw [if_pos (show (!false)=true from rfl)];unfold cE at *;rw [C3,C3]; omega
 exact key l h.s hf
def Dv {l:List ξ} {i:Int} (h:(dz l i).2=0):∃m,gN l i=some m∧m.τ=2∧(dz l i).1=m∧gD l i=m:=by
 unfold dz at *;cases hg:gN l i with
 | none=>rw [hg] at h; cases h
 | some m =>
  have hd:gD l i=m:=by unfold gD; rw [hg]; rfl
  rw [hg,hd] at h;by_cases hk:(m.τ != 2)=true
  ·simp [hk] at h
  ·rw [hd];refine ⟨m,rfl,by simpa using hk,?_,rfl⟩;simp [hk]
def look_ok {t:ψ} {i:Int} {s:List UInt8} (h:(eQ t i s).2=0):∃m e,gN t.η i=some m∧m.τ=2∧gD t.η i=m∧fY s=true∧m.Ψ.find? (fun e=>e.aM==s)=some e∧(eQ t i s).1=e.ι:=by
 unfold eQ at *;by_cases h1:((dz t.η i).2 != 0)=true
 ·rw [if_pos h1] at h; exact absurd h (by simpa using h1)
 rw [if_neg h1] at h ⊢;obtain ⟨m,h2,h3,h4,h5⟩:=Dv (nr h1);by_cases h6:(!fY s)=true
 ·rw [if_pos h6] at h; cases h
 rw [if_neg h6] at h ⊢;rw [h4] at h ⊢;cases hf:m.Ψ.find? (fun e=>e.aM==s) with
 | none=>rw [hf] at h; cases h
 | some e=>exact ⟨m,e,h2,h3,h5,by simpa using h6,hf,rfl⟩
def ad_ {l:List aN} {s:List UInt8} (h:(BL l s).isSome=false):∀e,e∈l→e.aM≠s:=by
 unfold BL at h;intro e he
 have:l.findIdx? (fun e=>e.aM==s)=none:=by cases hx:l.findIdx? (fun e=>e.aM==s) <;> simp_all
 rw [xm] at this;simpa using this e he
def LN {l:List ξ} {i:Int} {d:Nat} (h:Deep l i d):∀{f:Nat},d≤f→il l f i=d:=by
 induction h with
 | root =>
  intro f _;cases f with
  | zero=>rfl
  | succ f=>rw [Se,if_pos rfl]
 | @step i n d h1 h2 h3 h4 ih =>
  intro f hf;cases f with
  | zero=>omega
  | succ f =>
   have:gD l i=n:=by unfold gD; rw [h2]; rfl
   rw [Se,if_neg h1,this,ih (by omega)]
def Lt {l:List ξ} {x i:Int} (h:jo l x i):∀{d f:Nat},Deep l i d→d<f→xQ l x f i=true:=by
 induction h with
 | refl =>
  intro d f _ hf;cases f with
  | zero=>omega
  | succ f=>unfold xQ; rw [if_pos (by simp)]
 | @step i n h1 h2 h3 h4 ih =>
  intro d f hd hf;cases f with
  | zero=>omega
  | succ f =>
   unfold xQ;by_cases e:(i==x)=true
   ·rw [if_pos e]
   ·rw [if_neg e,if_neg (by simpa using h1)]
    have:gD l i=n:=by unfold gD; rw [h2]; rfl
    rw [this];cases hd with
    | root=>exact absurd rfl h1
    | step g1 g2 g3 g4=>rw [h2] at g2; cases g2; exact ih g4 (by omega)
def X3 {l:List ξ} {x:Int}:∀{f d:Nat} {i:Int},Deep l i d→xQ l x f i=true→jo l x i
 | 0,_,_,_,h=>by cases h
 | f+1,d,i,hd,h=>by
  unfold xQ at h;by_cases e:(i==x)=true
  ·have:i=x:=by simpa using e
   rw [this]; exact .refl
  ·rw [if_neg e] at h;by_cases e1:(i==1)=true
   ·rw [if_pos e1] at h; cases h
   ·rw [if_neg e1] at h;cases hd with
    | root=>simp at e1
    | step g1 g2 g3 g4 =>
     rename_i n _
     have:gD l i=n:=by unfold gD; rw [g2]; rfl
     rw [this] at h;exact .step g1 g2 g3 (X3 g4 h)
def ya:∀{d:Nat} {l:List ξ} {i:Int},Deep l i d→d≤l.length
 | 0,_,_,_=>lO _
 | d+1,l,i,h=>by
  cases h with
  | step h1 h2 h3 h4 =>
   have hi:Deep l i (d+1):=.step h1 h2 h3 h4
   have wj:¬jo l i _:=fun hu=>by have:=hu.deep hi h4; omega
   have h5:=h4.Je (l':=l.filter (fun x=>x.ι != i)) (fun j hj=>by rw [AU,if_neg hj]) wj;have h6:=ya h5
   have h7:(l.filter (fun x=>x.ι != i)).length<l.length:=by
    rw [Zn];exact ⟨_,(dM h2).1,by simp [(dM h2).2]⟩
   omega
def ab9 {l:List ξ} {i a:Int} {n:ξ} (hn:n∈l) (hk:n.τ=2) (hb:j4 l n.ι i=true):a+(il l 201 n.ι:Int)-(il l 201 i:Int)+(if decide ((n.Ψ.length:Int)>0)=true then 1 else 0)≤sK l i a:=by
 unfold sK;generalize il l 201=dd
 have key:∀(m:List ξ) (z:Int),z≤m.foldl (fun m n=>if (n.τ==2&&j4 l n.ι i)=true then max m (a+(dd n.ι:Int)-(dd i:Int)+if decide ((n.Ψ.length:Int)>0)=true then 1 else 0) else m) z∧(n∈m→a+(dd n.ι:Int)-(dd i:Int)+(if decide ((n.Ψ.length:Int)>0)=true then 1 else 0)≤m.foldl (fun m n=>if (n.τ==2&&j4 l n.ι i)=true then max m (a+(dd n.ι:Int)-(dd i:Int)+if decide ((n.Ψ.length:Int)>0)=true then 1 else 0) else m) z):=by
  intro m;induction m with
  | nil=>intro z; exact ⟨xj _,fun h=>by cases h⟩
  | cons x r ih =>
   intro z;rw [xn];have h1:=ih (if (x.τ==2&&j4 l x.ι i)=true then max z (a+(dd x.ι:Int)-(dd i:Int)+if decide ((x.Ψ.length:Int)>0)=true then 1 else 0) else z);refine ⟨Int.le_trans ?_ h1.1,fun hm=>?_⟩
   ·split
    ·exact Int.le_max_left _ _
    ·exact xj _
   ·rcases bj.1 hm with rfl | hm
    ·refine Int.le_trans ?_ h1.1;rw [if_pos (show (n.τ==2&&j4 l n.ι i)=true by simp [hk,hb])];exact Int.le_max_right _ _
    ·exact h1.2 hm
 exact (key l 0).2 hn
def Gl (m:ξ) (E:List aN):ξ:=⟨m.ι,m.τ,m.bb,m.aC,E,m.Up⟩
section
variable {t:ψ} {δ hZ:Int→Nat}
def yl {i:Int} {m:ξ} (hm:gN t.η i=some m) (s:List UInt8) (j:Int):gN (eK t i s).η j=if j=i then some (Gl m (m.Ψ.filter fun e=>!(e.aM==s))) else gN t.η j:=by
 have hd:gD t.η i=m:=by unfold gD; rw [hm]; rfl
 unfold eK;dsimp only;rw [lv,hd];show (if j=m.ι then some (Gl m _) else _)=_;rw [(dM hm).2]
def W.eK (h:W t δ) {i:Int} {m:ξ} (hm:gN t.η i=some m) (hk:m.τ=2) {s:List UInt8} {e:aN} (hf:m.Ψ.find? (fun e=>e.aM==s)=some e) (hd:∀k,hZ k=δ k+if k=e.ι then 1 else 0):W (eK t i s) hZ:=by
 obtain ⟨h1,h2,h3⟩:=h.get hm;unfold Go.Proofs.eK;rw [h3];refine h.Sy h1 hk (xj _) (aba (h.en m h1) _) (fun e he=>h.cl m h1 e (eB.1 he).1) (fun k=>?_) (fun q hq _ h4 h5=>?_) (.inr (.inl fun e0=>by rw [e0] at hf; cases hf))
 ·rw [hd,←Z9 (h.en m h1) hf k]; omega
 ·rw [hd] at h5; omega
def W.j6 (h:W t δ) {i:Int} {m:ξ} (hm:gN t.η i=some m) (hk:m.τ=2) {s:List UInt8} (hs:fY s=true) (bw:∀e,e∈m.Ψ→e.aM≠s) (hl:m.Ψ.length<64) {d:Nat} (yz:Deep t.η i d) (MQ:d<12) {o:Int} {q:ξ} (ho:gN t.η o=some q) (N1:0<δ o) (NL:q.τ=2→q.Up=i) (hd:∀k,hZ k=δ k-if k=o then 1 else 0):W (j6 t i s o) hZ:=by
 obtain ⟨h1,h2,h3⟩:=h.get hm;obtain ⟨g1,g2,g3⟩:=h.get ho;unfold Go.Proofs.j6;rw [h3];refine h.Sy h1 hk (by omega) (adk (h.en m h1) hs h.ck hl bw) (fun e he=>?_) (fun k=>?_) (fun p hp Ey h4 h5=>?_) (.inr (.inr ⟨d,by rw [h2]; exact yz,MQ⟩))
 ·rcases BB.1 he with rfl | he
  ·dsimp only; rw [ho]; rfl
  ·exact h.cl m h1 e he
 ·rw [hd,RW];dsimp only;by_cases e:k=o
  ·rw [if_pos e]; rw [←e] at N1; omega
  ·rw [if_neg e]; omega
 ·rw [hd] at h5
  have e:p.ι=o:=by
   by_cases e:p.ι=o
   ·exact e
   ·rw [if_neg e] at h5; omega
  have:p=q:=Co h.s hp g1 (by rw [e,g2]);rw [h2,this];exact NL (this▸Ey)
def W.kr (h:W t δ) {j:Int} {m:ξ} (hm:gN t.η j=some m) (N1:0<δ j) (hE:m.Ψ=[]) (bw:∀q,q∈t.η→q.τ=2→0<δ q.ι→q.ι≠j→q.Up≠j) (hd:∀k,hZ k=δ k-if k=j then 1 else 0):W (kr t j) hZ:=by
 obtain ⟨h1,h2,h3⟩:=h.get hm;unfold Go.Proofs.kr;rw [h3]
 have Ba:m.ι≠1:=fun e=>by have:=h.Jc.2; rw [←h2,e] at N1; omega
 split
 ·next hk =>
  have hk:m.τ=2:=by simpa using hk
  rw [←h2]
  rcases h.dir h1 hk with hr | hr
  ·exact absurd hr.1 Ba
  ·have h4:=hr.2.1;rw [h2] at h4;refine h.gone h1 Ba hE (by rw [h2]; omega) (fun q hq Bu cZ mR=>?_) (fun k hk=>by rw [hd,if_neg (by omega)]; rfl);rw [h2] at mR ⊢
   rcases oT (δ q.ι) with hz | hz
   ·intro hu
    rcases h.dir hq Bu with oG | oG
    ·exact absurd oG.1 cZ
    ·obtain ⟨p,hp,e,he,-⟩:=oG.2.2.2 hz;rw [hu,hm] at hp; cases hp;rw [hE] at he; cases he
   ·exact bw q hq Bu hz mR
 ·next hk =>
  have hk:m.τ≠2:=by simpa using hk
  have hf:=h.file h1 hk;refine h.L9 h1 hk hf.2.2.2.1 (fun k hk=>by rw [hd,if_neg (by omega)]; rfl) ?_;have:=hf.2.2.2.2;rw [h2] at this ⊢;rw [hd,if_pos rfl]; omega
end
end
section
def RT (t:ψ):Prop:=W t fun _=>0
def gP (j:Int):Int→Nat:=fun i=>if i=j then 1 else 0
def jd {l:List ξ} {i:Int} {m:ξ} (h:gN l i=some m):gD l i=m:=by unfold gD; rw [h]; rfl
section
variable {t:ψ} {δ:Int→Nat}
def W.deep (h:W t δ) {i:Int} {m:ξ} (hm:gN t.η i=some m) (hk:m.τ=2):∃d,Deep t.η i d∧d≤12∧(d=12→m.Ψ=[])∧il t.η 201 i=d:=by
 obtain ⟨h1,h2,h3⟩:=h.get hm;obtain ⟨d,h4,h5,h6⟩:=h.dp m h1 hk;rw [h2] at h4;exact ⟨d,h4,h5,h6,LN h4 (by omega)⟩
def HG {i:Int} {s:List UInt8} (h:sw t i s=0):∃m,gN t.η i=some m∧m.τ=2∧fY s=true∧(∀e,e∈m.Ψ→e.aM≠s)∧m.Ψ.length<64∧il t.η 201 i<12:=by
 unfold sw at h;by_cases h1:((dz t.η i).2 != 0)=true
 ·rw [if_pos h1] at h; exact absurd h (by simpa using h1)
 rw [if_neg h1] at h;obtain ⟨m,h2,h3,h4,h5⟩:=Dv (nr h1);by_cases h6:(!fY s)=true
 ·rw [if_pos h6] at h; cases h
 rw [if_neg h6,h4] at h;by_cases h7:(BL m.Ψ s).isSome=true
 ·rw [if_pos h7] at h; cases h
 rw [if_neg h7] at h;by_cases h8:HY t m=true
 ·rw [if_pos h8] at h; cases h
 unfold HY at h8;simp only [tT,decide_eq_true_eq,not_or] at h8;have hi:=(dM h2).2;rw [hi] at h8;refine ⟨m,h2,h3,by simpa using h6,ad_ (by simpa using h7),by omega,?_⟩;have:=h8.1.2;generalize il t.η 201 i=q at *;omega
def RT.add (h:RT t) (i:Int) (s:List UInt8) (k:Int):RT (mw t i s k).1:=by
 unfold mw;split
 ·exact h
 next hk =>
 split
 ·exact h
 next he =>
 split
 ·exact h
 next hf =>
 obtain ⟨m,h1,h2,h3,h4,h5,h6⟩:=HG (nr he);obtain ⟨d,g1,g2,g3,g4⟩:=W.deep h h1 h2;rw [g4] at h6
 have hl:t.η.length<200:=by simp at hf; omega
 have re:k=1∨k=2:=by
  by_cases e:k=1
  ·exact .inl e
  ·refine .inr (Classical.byContradiction fun e2=>hk (by simp [e,e2]))
 have bw:gN t.η t.Next=none:=yn.2 fun n hn e=>by have:=h.lo n hn; omega
 have kO:i≠t.Next:=fun e=>by rw [e,bw] at h1; cases h1
 have w1:W ⟨cG ⟨t.Next,k,1,[],[],if (k==2)=true then i else 0⟩ t.η,t.Next+1,t.aj⟩ (gP t.Next):=by
  refine W.new h hl ?_ rfl fun j=>?_
  ·rcases re with e | e
   ·subst e; exact .inl ⟨rfl,rfl⟩
   ·subst e; exact .inr ⟨rfl,d,g1,h6⟩
  ·unfold gP; omega
 have Δ:∀j,j≠t.Next→gN (cG ⟨t.Next,k,1,[],[],if (k==2)=true then i else 0⟩ t.η) j=gN t.η j:=fun j hj=>by rw [lv]; exact if_neg hj
 refine W.j6 (q:=⟨t.Next,k,1,[],[],if (k==2)=true then i else 0⟩) w1 (by dsimp only; rw [Δ i kO]; exact h1) h2 h3 h4 h5 (g1.congr fun j n hj _=>⟨n,by dsimp only; rw [Δ j fun e=>by rw [e,bw] at hj; cases hj]; exact hj,rfl,rfl⟩) h6 (by dsimp only; rw [lv]; exact if_pos rfl) (by unfold gP; rw [if_pos rfl]; omega) (fun e=>by dsimp only at e ⊢; rw [if_pos (by simp [e])]) fun j=>?_;unfold gP; split <;> rfl
def RT.ln (h:RT t) (i to:Int) (s:List UInt8):RT (sY t i to s).1:=by
 unfold sY;split
 ·exact h
 next hp =>
 split
 ·exact h
 next hk =>
 split
 ·exact h
 next he =>
 obtain ⟨m,h1,h2,h3,h4,h5,h6⟩:=HG (nr he);obtain ⟨d,g1,g2,g3,g4⟩:=W.deep h h1 h2;rw [g4] at h6
 obtain ⟨n,hn⟩:∃n,gN t.η i=some n:=by
  cases hg:gN t.η i with
  | none=>rw [hg] at hp; simp at hp
  | some n=>exact ⟨n,rfl⟩
 rw [jd hn] at hk ⊢
 have fx:n.τ≠2:=by simpa using hk
 obtain ⟨k1,k2,k3⟩:=W.get h hn;have hf:=W.file h k1 fx
 have jz:to≠i:=fun e=>by rw [e,hn] at h1; cases h1; exact fx h2
 have w1:W ⟨cG ⟨n.ι,n.τ,n.bb+1,n.aC,n.Ψ,n.Up⟩ t.η,t.Next,t.aj⟩ (gP i):=by
  refine W.L9 h k1 fx hf.2.2.2.1 (fun j hj=>by unfold gP; rw [if_neg (by rw [←k2]; exact hj)]) ?_;have:=hf.2.2.2.2;dsimp only at this;unfold gP; rw [k2,if_pos rfl]; rw [k2] at this; omega
 have Δ:∀j,gN (cG ⟨n.ι,n.τ,n.bb+1,n.aC,n.Ψ,n.Up⟩ t.η) j=if j=i then some ⟨n.ι,n.τ,n.bb+1,n.aC,n.Ψ,n.Up⟩ else gN t.η j:=fun j=>by
  rw [lv]; show (if j=n.ι then _ else _)=_; rw [k2]
 refine W.j6 (q:=⟨n.ι,n.τ,n.bb+1,n.aC,n.Ψ,n.Up⟩) w1 (by dsimp only; rw [Δ,if_neg jz]; exact h1) h2 h3 h4 h5 (g1.congr fun j p hj Ey=>⟨p,by dsimp only; rw [Δ,if_neg fun e=>by rw [e,hn] at hj; cases hj; exact fx Ey]; exact hj,rfl,rfl⟩) h6 (by dsimp only; rw [Δ]; exact if_pos rfl) (by unfold gP; rw [if_pos rfl]; omega) (fun e=>absurd e fx) fun j=>?_;unfold gP; split <;> rfl
def RT.un (h:RT t) (i:Int) (s:List UInt8):RT (qs t i s).1:=by
 unfold qs;split
 ·exact h
 next he =>
 split
 ·exact h
 next hE =>
 obtain ⟨m,e,h1,h2,h3,h4,h5,h6⟩:=look_ok (nr he);rw [h6] at hE ⊢;obtain ⟨k1,k2,k3⟩:=W.get h h1;have jM:=qF h5;obtain ⟨x,hx⟩:=nn.1 (h.cl m k1 e jM);rw [jd hx] at hE;have UZ:x.Ψ=[]:=rV.1 (by have:¬((x.Ψ.length:Int)>0):=fun h=>hE (decide_eq_true h); omega)
 have NV:e.ι≠i:=fun h'=>by rw [h',h1] at hx; cases hx; rw [UZ] at jM; cases jM
 have w1:W (eK t i s) (gP e.ι):=W.eK h h1 h2 h5 fun k=>by unfold gP; omega
 refine W.kr w1 (j:=e.ι) (m:=x) (by rw [yl h1,if_neg NV]; exact hx) (by unfold gP; rw [if_pos rfl]; omega) UZ (fun q _ _ h7 h8=>by unfold gP at h7; rw [if_neg h8] at h7; omega) fun k=>?_;unfold gP; split <;> rfl
def RT.WC (h:RT t) (i:Int) (x:List UInt8):RT (nX t i x).1:=by
 unfold nX;split
 ·exact h
 next hp =>
 split
 ·exact h
 next hk =>
 split
 ·exact h
 next hx =>
 obtain ⟨n,hn⟩:∃n,gN t.η i=some n:=by
  cases hg:gN t.η i with
  | none=>rw [hg] at hp; simp at hp
  | some n=>exact ⟨n,rfl⟩
 rw [jd hn] at hk ⊢
 have fx:n.τ≠2:=by simpa using hk
 obtain ⟨k1,k2,k3⟩:=W.get h hn;have hf:=W.file h k1 fx;exact W.L9 h k1 fx (by simp at hx; omega) (fun _ _=>rfl) hf.2.2.2.2
def RT.free (h:RT t) (i:Int):RT (vS t i).1:=by
 unfold vS;split
 ·exact h
 next hp =>
 split
 ·exact h
 next hk =>
 split
 ·exact h
 next hx =>
 obtain ⟨n,hn⟩:∃n,gN t.η i=some n:=by
  cases hg:gN t.η i with
  | none=>rw [hg] at hp; simp at hp
  | some n=>exact ⟨n,rfl⟩
 rw [jd hn] at hk hx
 have fx:n.τ≠2:=by simpa using hk
 obtain ⟨k1,k2,k3⟩:=W.get h hn;have hf:=W.file h k1 fx;rw [←k2];refine W.gone h k1 (fun e=>fx (W.one h k1 e)) hf.2.1 (by have:=hf.2.2.2.2; simp at hx; omega) (fun q hq Bu cZ _ hu=>?_) fun _ _=>rfl
 rcases W.dir h hq Bu with hr | hr
 ·exact cZ hr.1
 ·obtain ⟨p,hp,e,he,-⟩:=hr.2.2.2 rfl;rw [hu,k2,hn] at hp; cases hp;rw [hf.2.1] at he; cases he
def lU (u t:List ξ):Prop:=∀j n,gN u j=some n→∃n',gN t j=some n'∧n'.τ=n.τ∧n'.Up=n.Up∧(n'.Ψ=[]→n.Ψ=[])
def lU.deep {u t:List ξ} (h:lU u t) {i:Int} {d:Nat} (hd:Deep u i d):Deep t i d:=hd.congr fun j n hj _=>by
 obtain ⟨n',h1,h2,h3,-⟩:=h j n hj;exact ⟨n',h1,h2,h3⟩
def lU.oa {u t:List ξ} (h:lU u t) {x i:Int} (hu:jo u x i):jo t x i:=by
 induction hu with
 | refl=>exact .refl
 | step h1 h2 h3 h4 ih =>
  obtain ⟨n',g1,g2,g3,-⟩:=h _ _ h2;exact .step h1 g1 (by rw [g2,h3]) (by rw [g3]; exact ih)
def lU.trans {u v t:List ξ} (h:lU u v) (h':lU v t):lU u t:=fun j n hn=>by
 obtain ⟨n',h1,h2,h3,h4⟩:=h j n hn;obtain ⟨n'',g1,g2,g3,g4⟩:=h' j n' h1;exact ⟨n'',g1,by rw [g2,h2],by rw [g3,h3],fun e=>h4 (g4 e)⟩
def lU.qi {i:Int} {m:ξ} (hm:gN t.η i=some m) (s:List UInt8):lU (eK t i s).η t.η:=fun j n hn=>by
 rw [yl hm] at hn;by_cases e:j=i
 ·rw [if_pos e] at hn; cases hn;exact ⟨m,by rw [e,hm],rfl,rfl,fun e0=>by show List.filter _ _=_; rw [e0]; rfl⟩
 ·rw [if_neg e] at hn;exact ⟨n,hn,rfl,rfl,id⟩
def Mk {j:Int} {m:ξ} (hm:gN t.η j=some m) {i:Int} (hi:i≠j):gN (kr t j).η i=gN t.η i:=by
 unfold kr;rw [jd hm];split
 ·dsimp only; rw [AU,if_neg hi]
 ·dsimp only; rw [lv]; exact if_neg (by rw [(dM hm).2]; exact hi)
def lU.un {j:Int} {m:ξ} (hm:gN t.η j=some m):lU (kr t j).η t.η:=fun i n hn=>by
 by_cases e:i=j
 ·subst e;unfold kr at hn;rw [jd hm] at hn;split at hn
  ·dsimp only at hn; rw [AU,if_pos rfl] at hn; cases hn
  ·dsimp only at hn; rw [lv,if_pos (dM hm).2.symm] at hn; cases hn;exact ⟨m,hm,rfl,rfl,id⟩
 ·rw [Mk hm e] at hn;exact ⟨n,hn,rfl,rfl,id⟩
end
end
section
section
variable {t:ψ} {δ:Int→Nat}
def aae {l:List ξ} {i:Int} {p q:ξ} (hp:p∈l) (hq:q∈l) (aO:p≠q) (h1:0<cE p.Ψ i) (h2:0<cE q.Ψ i):2≤dE l i:=by
 induction l with
 | nil=>cases hp
 | cons x l ih =>
  rw [xZ];have hc:∀{y:ξ},y∈l→0<cE y.Ψ i→0<dE l i:=fun hy h=>Dq.2 ⟨_,hy,vG.1 h⟩
  rcases bj.1 hp with e1 | hp <;> rcases bj.1 hq with e2 | hq
  ·exact absurd (e1.trans e2.symm) aO
  ·rw [←e1]; have:=hc hq h2; omega
  ·rw [←e2]; have:=hc hp h1; omega
  ·have:=ih hp hq; omega
def W.parent (h:W t δ) {p q:ξ} (hp:p∈t.η) {e:aN} (he:e∈p.Ψ) (hq:gN t.η e.ι=some q) (hk:q.τ=2):q.Up=p.ι:=by
 obtain ⟨k1,k2,k3⟩:=h.get hq;have hc:0<cE p.Ψ e.ι:=vG.2 ⟨e,he,rfl⟩;have br:0<dE t.η e.ι:=Dq.2 ⟨p,hp,e,he,rfl⟩
 rcases h.dir k1 hk with hr | hr
 ·exact absurd (k2.symm.trans hr.1) (h.Ot hp he)
 ·rw [Lf,k2] at hr;obtain ⟨p',gA,e',fp,abX⟩:=hr.2.2.2 (by omega);have Bt:=dM gA;by_cases Uw:p=p'
  ·rw [Uw,Bt.2]
  ·have:=aae hp Bt.1 Uw hc (vG.2 ⟨e',fp,abX⟩);omega
def W.Jd (h:W t δ) {i:Int} {m:ξ} (hm:gN t.η i=some m) (hk:m.τ=2) {e:aN} (he:e∈m.Ψ):e.ι≠i:=by
 intro yB;obtain ⟨k1,k2,k3⟩:=h.get hm;have hu:=h.parent k1 he (by rw [yB]; exact hm) hk;obtain ⟨d,h1,-⟩:=h.deep hm hk
 have q_:i≠1:=by rw [←yB]; exact h.Ot k1 he
 cases h1 with
 | root=>exact q_ rfl
 | step g1 g2 g3 g4 =>
  rw [hm] at g2; cases g2;rw [hu,k2] at g4;have:=g4.uniq (.step g1 hm g3 (by rw [hu,k2]; exact g4));omega
def SF {l:List aN} {s:List UInt8} {e:aN} (hf:l.find? (fun e=>e.aM==s)=some e):(l.filter fun e=>!(e.aM==s)).length<l.length:=by
 rw [Zn];exact ⟨e,qF hf,by have:=alB hf; simpa using this⟩
def VG (h:RT t) {from_ to:Int} {s aJ:List UInt8} {mf md x:ξ} {ef:aN} (a1:gN t.η from_=some mf) (a2:mf.τ=2) (a5:mf.Ψ.find? (fun e=>e.aM==s)=some ef)
  (b1:gN t.η to=some md) (b2:md.τ=2) (hx:gN t.η ef.ι=some x) (EH:ef.ι≠from_) (zg:ef.ι≠to) (hy:bY t to aJ≠ef.ι)
  (hY:(∀e,e∈md.Ψ→e.aM≠aJ)∧bY t to aJ=0∧(to≠from_→md.Ψ.length<64)∨∃ey ny,md.Ψ.find? (fun e=>e.aM==aJ)=some ey∧bY t to aJ=ey.ι∧gN t.η ey.ι=some ny∧ny.Ψ=[]) :
  W (iU t ef.ι from_ s to aJ (bY t to aJ)) (gP ef.ι)∧lU (iU t ef.ι from_ s to aJ (bY t to aJ)).η t.η∧gN (iU t ef.ι from_ s to aJ (bY t to aJ)).η ef.ι=some x∧∃mu,gN (iU t ef.ι from_ s to aJ (bY t to aJ)).η to=some mu∧mu.τ=2∧(∀e,e∈mu.Ψ→e.aM≠aJ)∧mu.Ψ.length<64:=by
 obtain ⟨k1,k2,k3⟩:=W.get h a1;have jM:=qF a5
 have w1:W (eK t from_ s) (gP ef.ι):=W.eK h a1 a2 a5 fun k=>by unfold gP; omega
 have s1:lU (eK t from_ s).η t.η:=lU.qi a1 s;have g1:=yl a1 s;have hl:=SF a5;have hlf:=(W.en h mf k1).n
 obtain ⟨m1,c1,c2,c3⟩:∃m1,gN (eK t from_ s).η to=some m1∧m1.τ=2∧((to=from_∧m1=Gl mf (mf.Ψ.filter fun e=>!(e.aM==s))∧mf=md)∨(to≠from_∧m1=md)):=by
  rw [g1];by_cases e:to=from_
  ·rw [if_pos e];rw [e,a1] at b1; cases b1;exact ⟨_,rfl,a2,.inl ⟨e,rfl,rfl⟩⟩
  ·rw [if_neg e];exact ⟨md,b1,b2,.inr ⟨e,rfl⟩⟩
 have S5:gN (eK t from_ s).η ef.ι=some x:=by rw [g1,if_neg EH,hx]
 rcases hY with ⟨bw,NW,hlen⟩ | ⟨ey,ny,fG,hye,kS,Nh⟩
 ·rw [NW];unfold iU;rw [if_neg (by simp)];refine ⟨w1,s1,S5,m1,c1,c2,?_,?_⟩
  ·rcases c3 with ⟨e,rfl,rfl⟩ | ⟨e,rfl⟩
   ·exact fun e he=>bw e (eB.1 he).1
   ·exact bw
  ·rcases c3 with ⟨e,rfl,rfl⟩ | ⟨e,rfl⟩
   ·show (mf.Ψ.filter _).length<64; omega
   ·exact hlen e
 ·rw [hye] at hy ⊢;have U2:=dM kS;have TW:=qF fG
  have IJ:ey.ι≠from_:=fun e=>by rw [e,a1] at kS; cases kS; rw [Nh] at jM; cases jM
  have IK:ey.ι≠to:=fun e=>by rw [e,b1] at kS; cases kS; rw [Nh] at TW; cases TW
  have NW:ey.ι≠0:=by have:=(W.lo h ny U2.1).1; rw [U2.2] at this; omega
  have sI:m1.Ψ.find? (fun e=>e.aM==aJ)=some ey:=by
   rcases c3 with ⟨e,rfl,rfl⟩ | ⟨e,rfl⟩
   ·show (mf.Ψ.filter _).find? _=_
    have aO:aJ≠s:=fun e=>by rw [e,a5] at fG; cases fG; exact hy rfl
    rw [Zg]
    have:(fun a:aN=>decide ((!(a.aM==s))=true∧(a.aM==aJ)=true))=fun a=>a.aM==aJ:=by
     funext a;by_cases h1:a.aM=aJ
     ·simp [h1,aO]
     ·simp [h1]
    rw [this]; exact fG
   ·exact fG
  have Bd:m1.Ψ.length≤64:=(w1.en m1 (dM c1).1).n;have w2:W (eK (eK t from_ s) to aJ) (fun k=>gP ef.ι k+if k=ey.ι then 1 else 0):=W.eK w1 c1 c2 sI fun _=>rfl;have g2:=yl c1 aJ
  have HZ:gN (eK (eK t from_ s) to aJ).η ey.ι=some ny:=by rw [g2,if_neg IK,g1,if_neg IJ,kS]
  have S6:gN (eK (eK t from_ s) to aJ).η ef.ι=some x:=by rw [g2,if_neg zg,S5]
  unfold iU;rw [if_pos (by simpa using NW)];refine ⟨W.kr w2 HZ (by rw [if_pos rfl]; omega) Nh (fun q hq Bu ru hqy=>?_) (fun k=>?_),(lU.un HZ).trans ((lU.qi c1 aJ).trans s1),by rw [Mk HZ (j1 hy),S6],Gl m1 (m1.Ψ.filter fun e=>!(e.aM==aJ)),by rw [Mk HZ (j1 IK),g2,if_pos rfl],c2,fun e he=>?_,?_⟩
  ·have hqi:q.ι=ef.ι:=by
    rw [if_neg hqy] at ru;unfold gP at ru;by_cases e:q.ι=ef.ι
    ·exact e
    ·rw [if_neg e] at ru; omega
   have hqx:q=x:=by
    have:=ym w2.s hq;rw [hqi,S6] at this; cases this; rfl
   subst hqx;rw [W.parent h k1 jM hx Bu,k2];exact j1 IJ
  ·unfold gP;by_cases e:k=ey.ι
   ·rw [if_pos e,if_neg (by rw [e]; exact hy)]
   ·rw [if_neg e]; omega
  ·have:=(eB.1 he).2; simpa using this
  ·have:=SF sI;show (m1.Ψ.filter _).length<64; omega
def RT.mv (h:RT t) (from_:Int) (s:List UInt8) (to:Int) (aJ:List UInt8):RT (qj t from_ s to aJ).1:=by
 unfold qj;split
 ·exact h
 next hL =>
 split
 ·exact h
 next hD =>
 split
 ·exact h
 next hR =>
 split
 ·exact h
 next hy =>
 split
 ·exact h
 next yP =>
 split
 ·exact h
 next da =>
 split
 ·exact h
 next A8 =>
 obtain ⟨mf,ef,a1,a2,a3,a4,a5,a6⟩:=look_ok (nr hL);obtain ⟨md,b1,b2,b3,b4⟩:=Dv (nr hD);rw [a6] at hy yP da A8 ⊢;obtain ⟨k1,k2,k3⟩:=W.get h a1;have jM:=qF a5;obtain ⟨x,hx⟩:=nn.1 (h.cl mf k1 ef jM);obtain ⟨x1,x2,x3⟩:=W.get h hx;rw [x3] at yP da
 have hR:fY aJ=true:=by simpa using hR
 have hy:bY t to aJ≠ef.ι:=by simpa using hy
 have EH:ef.ι≠from_:=W.Jd h a1 a2 jM;obtain ⟨dt,t1,t2,t3,t4⟩:=W.deep h b1 b2;unfold I7 at A8;rw [b3,x3] at A8;simp only [tT,bJ,decide_eq_true_eq,not_or,not_and,beq_iff_eq,bne_iff_ne] at A8;obtain ⟨⟨⟨f1,f2⟩,f3⟩,f4⟩:=A8
 have f2:dt<12:=by rw [t4] at f2; omega
 rw [t4] at f3
 have wj:x.τ=2→¬jo t.η ef.ι to:=fun hk hu=>yP (by
  have:j4 t.η to ef.ι=true:=Lt hu t1 (by have:=ya t1; omega)
  simp [hk,this])
 have zg:ef.ι≠to:=fun e=>by
  rw [e,b1] at hx; cases hx;exact wj b2 (e▸.refl)
 have hY:(∀e,e∈md.Ψ→e.aM≠aJ)∧bY t to aJ=0∧(to≠from_→md.Ψ.length<64)∨∃ey ny,md.Ψ.find? (fun e=>e.aM==aJ)=some ey∧bY t to aJ=ey.ι∧gN t.η ey.ι=some ny∧ny.Ψ=[]:=by
  have jQ:bY t to aJ=match md.Ψ.find? (fun e=>e.aM==aJ) with | some e=>e.ι | none=>0:=by unfold bY; rw [b3] <;> rfl
  cases fG:md.Ψ.find? (fun e=>e.aM==aJ) with
  | none =>
   rw [fG] at jQ;refine .inl ⟨fun e he=>?_,jQ,fun aO=>?_⟩
   ·rw [GG] at fG; simpa using fG e he
   ·have:=f1 ⟨jQ,aO⟩; omega
  | some ey =>
   rw [fG] at jQ;obtain ⟨ny,kS⟩:=nn.1 (h.cl md (dM b1).1 ey (qF fG));refine .inr ⟨ey,ny,rfl,jQ,kS,?_⟩;have hc:=nr da;unfold sd at hc;rw [jQ] at hc;dsimp only at hc;rw [jd kS,kS] at hc;rw [if_neg (by simp)] at hc;split at hc
   ·cases hc
   split at hc
   ·cases hc
   split at hc
   ·cases hc
   ·next hz=>exact rV.1 (by have:¬((ny.Ψ.length:Int)>0):=fun h=>hz (decide_eq_true h); omega)
 obtain ⟨wu,su,Mo,mu,Mn,u2,u3,u4⟩:=VG h a1 a2 a5 b1 b2 hx EH zg hy hY;generalize iU t ef.ι from_ s to aJ (bY t to aJ)=u at *;obtain ⟨d,v1,v2,v3,v4⟩:=W.deep wu Mn u2;have yA:d=dt:=(su.deep v1).uniq t1;subst yA;unfold kg;rw [x3];by_cases hk:(x.τ==2)=true
 ·rw [if_pos hk]
  have hk:x.τ=2:=by simpa using hk
  obtain ⟨dx,y1,y2,y3,y4⟩:=W.deep wu Mo hk
  have Ξ:x.ι≠1:=fun e=>by have:=W.Jc wu; rw [x2] at e; unfold gP at this; rw [if_pos e.symm] at this; omega
  have Uk:¬jo u.η ef.ι to:=fun hu=>wj hk (su.oa hu)
  have wc:∀i,i≠ef.ι→gN (cG ⟨x.ι,x.τ,x.bb,x.aC,x.Ψ,to⟩ u.η) i=gN u.η i:=fun i hi=>by rw [lv]; exact if_neg (by dsimp only; rw [x2]; exact hi)
  have wm:W ⟨cG ⟨x.ι,x.τ,x.bb,x.aC,x.Ψ,to⟩ u.η,u.Next,u.aj⟩ (gP ef.ι):=by
   refine W.ad3 wu (dM Mo).1 hk Ξ (by unfold gP; rw [if_pos x2]; omega) v1 (by rw [x2]; exact y1) (by rw [x2]; exact Uk) fun n hn yK dO d' bG=>?_;rw [x2] at dO;obtain ⟨n',q1,q2,q3,q4⟩:=su n.ι n (ym wu.s hn);have wi:=dM q1;have p1:Deep t.η n.ι d':=su.deep bG;have p2:Deep t.η ef.ι dx:=su.deep y1;have p3:=(su.oa dO).deep p2 p1
   have hb:j4 t.η n'.ι ef.ι=true:=by rw [wi.2]; exact Lt (su.oa dO) p1 (by have:=ya p1; omega)
   have hh:=ab9 (a:=(d:Int)+1) wi.1 (by rw [q2,yK]) hb
   have MQ:d'≤201:=by
    obtain ⟨d3,e1,e2,-⟩:=h.dp n' wi.1 (by rw [q2,yK]);rw [wi.2] at e1; have:=p1.uniq e1; omega
   have oK:dx≤201:=by omega
   rw [wi.2,LN p1 MQ,LN p2 oK] at hh;have f3:=f3 hk;refine ⟨?_,fun qS=>q4 ?_⟩
   ·split at hh <;> omega
   ·split at hh
    ·omega
    ·next hz=>exact rV.1 (by have:¬((n'.Ψ.length:Int)>0):=fun h=>hz (decide_eq_true h); omega)
  refine W.j6 (q:=⟨x.ι,x.τ,x.bb,x.aC,x.Ψ,to⟩) wm (by dsimp only; rw [wc to (j1 zg)]; exact Mn) u2 hR u3 u4 (v1.Je wc Uk) f2 (by dsimp only; rw [lv]; exact if_pos x2.symm) (by unfold gP; rw [if_pos rfl]; omega) (fun _=>rfl) fun j=>?_;unfold gP; split <;> rfl
 ·rw [if_neg hk];refine W.j6 wu Mn u2 hR u3 u4 v1 f2 Mo (by unfold gP; rw [if_pos rfl]; omega) (fun e=>absurd (by simpa using e) hk) fun j=>?_;unfold gP; split <;> rfl
def Rz:RT P7:=by
 refine ⟨vp _ _,fun n hn=>?_,⟨_,rfl,rfl⟩,by decide,by decide,fun n hn=>?_,fun n hn e he=>?_,fun n hn=>?_,fun n hn _=>?_⟩ <;> obtain rfl:=dD.1 hn
 ·decide
 ·exact ⟨by simp,jY,fun e he=>(by cases he),jY⟩
 ·cases he
 ·exact .inr ⟨rfl,rfl,.inl ⟨rfl,rfl,rfl,rfl,rfl⟩⟩
 ·exact ⟨0,.root,by omega,fun h=>by cases h⟩
end
end
section
def rC {α:Type} (i n:Int) (v:α):∀l:List (Int×α),bn i (ak n v l)=if i=n then some v else bn i l
 | []=>by
  unfold ak bn;by_cases h:n=i
  ·rw [if_pos h,if_pos h.symm]
  ·rw [if_neg h,if_neg (j1 h)]; rfl
 | (k,c)::r=>by
  simp only [ak];by_cases hk:k=n
  ·rw [if_pos hk];simp only [bn];by_cases h:k=i
   ·rw [if_pos h,if_pos (by omega)]
   ·rw [if_neg h,if_neg (by omega),if_neg h]
  ·rw [if_neg hk];simp only [bn];by_cases h:k=i
   ·rw [if_pos h,if_neg (by omega),if_pos h]
   ·rw [if_neg h,rC i n v r,if_neg h]
def E0 {α:Type} (n:Int) (v:α):∀l:List (Int×α),(ak n v l).length≤l.length+1
 | []=>bF _
 | (k,c)::r=>by
  simp only [ak];split
  ·simp
  ·have:=E0 n v r; simp only [c8]; omega
def I5 {α:Type} {i:Int}:∀{l:List (Int×α)},(bn i l).isSome=true↔∃p,p∈l∧p.1=i
 | []=>by simp [bn]
 | (k,c)::r=>by
  simp only [bn];by_cases h:k=i
  ·rw [if_pos h]; simp [h]
  ·rw [if_neg h,I5];constructor
   ·rintro ⟨p,hp,e⟩; exact ⟨p,cr _ hp,e⟩
   ·rintro ⟨p,hp,e⟩
    rcases bj.1 hp with rfl | hp
    ·exact absurd e h
    ·exact ⟨p,hp,e⟩
def EU:∀(n:Nat) (l:List Int),l.Pairwise (·≠·)→(∀x,x∈l→0≤x∧x<n)→l.length≤n
 | 0,l,_,h=>by
  cases l with
  | nil=>exact bF _
  | cons x r=>have:=h x (by simp); omega
 | n+1,l,hp,h=>by
  have h1:=EU n (l.filter fun x=>x != (n:Int)) (hp.filter _) fun x hx=>by
   obtain ⟨a,b⟩:=eB.1 hx;have:=h x a; simp at b; omega
  have h2:∀l:List Int,l.Pairwise (·≠·)→l.length≤(l.filter fun x=>x != (n:Int)).length+1:=by
   intro l;induction l with
   | nil=>intro _; exact lO _
   | cons x r ih =>
    intro hp;obtain ⟨a,b⟩:=eI.1 hp;rw [ia];by_cases e:x=(n:Int)
    ·have:r.filter (fun x=>x != (n:Int))=r:=by
      rw [tV]; intro y hy; have:=a y hy; simp; omega
     rw [if_neg (by simp [e]),this]; exact bF _
    ·have:=ih b;rw [if_pos (by simpa using e)];simp only [c8]; omega
  have:=h2 l hp; omega
inductive lT (g:Int→Option ξ) (i:Int):Int→Prop
 | refl:lT g i i
 | step {j:Int} {n:ξ} {e:aN}:lT g i j→g j=some n→e∈n.Ψ→lT g i e.ι
def lT.trans {g:Int→Option ξ} {i j k:Int} (h:lT g i j) (h':lT g j k):lT g i k:=by
 induction h' with
 | refl=>exact h
 | step _ h2 h3 ih=>exact .step ih h2 h3
abbrev Met:=List (Int×eh)
abbrev gw:=List (Int×ξ)
def dB (m:Met) (j:Int):Prop:=(bn j m).isSome=true
def pE (m:Met) (n j:Int) (v:eh):dB (ak n v m) j↔j=n∨dB m j:=by
 unfold dB; rw [rC];by_cases h:j=n;iterate 2 simp [h]
structure Tr (g:Int→Option ξ) (A:Int→Prop) (m:Met) (o:List ξ) (m':Met) (o':List ξ) (w:Bool):Prop where
 mo:∀j,dB m j→dB m' j
 new:∃N:List ξ,o'=o++N∧(∀n,n∈N→g n.ι=some n∧¬dB m n.ι∧dB m' n.ι)∧N.Pairwise (fun a b=>a.ι≠b.ι)∧∀j,dB m' j→¬dB m j→∀n,g j=some n→n∈N
 rc:∀j,dB m' j→¬dB m j→∃r,A r∧lT g r j
 cl:∀j,dB m' j→¬dB m j→∀n,g j=some n→∀e,e∈n.Ψ→dB m' e.ι
 wh:w=true↔∀j,dB m' j→¬dB m j→(g j).isSome=true
section
variable {g:Int→Option ξ} {A:Int→Prop} {m m1 m2:Met} {o o1 o2:List ξ} {w w1 w2:Bool}
def Tr.refl:Tr g A m o m o true :=
 ⟨fun _ h=>h,⟨[],by simp,fun n hn=>(by cases hn),jY,fun j h h'=>absurd h h'⟩,fun j h h'=>absurd h h',fun j h h'=>absurd h h',⟨fun _ j h h'=>absurd h h',fun _=>rfl⟩⟩
def Tr.trans (hg:∀j n,g j=some n→n.ι=j) (h:Tr g A m o m1 o1 w1) (h':Tr g A m1 o1 m2 o2 w2):Tr g A m o m2 o2 (w2&&w1):=by
 obtain ⟨N,hN,yq,Eb,Ec⟩:=h.new;obtain ⟨M,hM,Tk,hM2,hM3⟩:=h'.new;refine ⟨fun j hj=>h'.mo j (h.mo j hj),⟨N++M,by rw [hM,hN,l9],fun n hn=>?_,?_,fun j hj dr n hn=>?_⟩,fun j hj dr=>?_,fun j hj dr n hn e he=>?_,?_⟩
 ·rcases gg.1 hn with hn | hn
  ·obtain ⟨a,b,c⟩:=yq n hn; exact ⟨a,b,h'.mo _ c⟩
  ·obtain ⟨a,b,c⟩:=Tk n hn; exact ⟨a,fun hm=>b (h.mo _ hm),c⟩
 ·refine vk.2 ⟨Eb,hM2,fun a ha b hb=>fun e=>?_⟩;exact (Tk b hb).2.1 (e▸(yq a ha).2.2)
 ·by_cases h1:dB m1 j
  ·exact qE _ (Ec j h1 dr n hn)
  ·exact List.mem_append_right _ (hM3 j hj h1 n hn)
 ·by_cases h1:dB m1 j
  ·exact h.rc j h1 dr
  ·exact h'.rc j hj h1
 ·by_cases h1:dB m1 j
  ·exact h'.mo _ (h.cl j h1 dr n hn e he)
  ·exact h'.cl j hj h1 n hn e he
 ·rw [bJ,h'.wh,h.wh];constructor
  ·rintro ⟨a,b⟩ j hj dr;by_cases h1:dB m1 j
   ·exact b j h1 dr
   ·exact a j hj h1
  ·intro a;exact ⟨fun j hj dr=>a j hj fun h1=>dr (h.mo j h1),fun j hj dr=>a j (h'.mo j hj) dr⟩
def Tr.sub {A':Int→Prop} (h:Tr g A m o m1 o1 w) (hA:∀r,A r→∃r',A' r'∧lT g r' r):Tr g A' m o m1 o1 w :=
 ⟨h.mo,h.new,fun j hj dr=>by
  obtain ⟨r,hr,h1⟩:=h.rc j hj dr;obtain ⟨r',cK,h2⟩:=hA r hr
  exact ⟨r',cK,h2.trans h1⟩,h.cl,h.wh⟩
def Tr.none {i:Int} {v:eh} (hi:¬dB m i) (hg:g i=none):Tr g (·=i) m o (ak i v m) o false:=by
 have hn:∀j,dB (ak i v m) j→¬dB m j→j=i:=fun j hj dr=>((pE _ _ _ _).1 hj).resolve_right dr;refine ⟨fun j hj=>(pE _ _ _ _).2 (.inr hj),⟨[],by simp,fun n hn=>(by cases hn),jY,fun j hj dr n M3=>?_⟩,fun j hj dr=>⟨i,rfl,by rw [hn j hj dr]; exact .refl⟩,fun j hj dr n M3=>?_,⟨fun h=>(by cases h),fun h=>?_⟩⟩;iterate 2 (rw [hn j hj dr,hg] at M3; cases M3)
 ·have:=h i ((pE _ _ _ _).2 (.inl rfl)) hi;rw [hg] at this; cases this
def Tr.one (hgi:∀j n,g j=some n→n.ι=j) {i:Int} {v:eh} {n:ξ} (hi:¬dB m i) (hn:g i=some n) (h:Tr g (fun r=>∃e,e∈n.Ψ∧e.ι=r) (ak i v m) (o++[n]) m1 o1 w) (Eg:∀e,e∈n.Ψ→dB m1 e.ι):Tr g (·=i) m o m1 o1 w:=by
 obtain ⟨N,hN,yq,Eb,Ec⟩:=h.new;have rj:=hgi i n hn;have q_:dB (ak i v m) i:=(pE _ _ _ _).2 (.inl rfl);have hm:∀{j},¬dB m j→j≠i→¬dB (ak i v m) j:=fun hj uA hm=>((pE _ _ _ _).1 hm).elim uA hj;refine ⟨fun j hj=>h.mo j ((pE _ _ _ _).2 (.inr hj)),⟨n::N,by rw [hN,l9]; rfl,fun x hx=>?_,?_,fun j hj dr x hx=>?_⟩,fun j hj dr=>?_,fun j hj dr x hx e he=>?_,?_⟩
 ·rcases bj.1 hx with rfl | hx
  ·rw [rj]; exact ⟨hn,hi,h.mo _ q_⟩
  ·obtain ⟨a,b,c⟩:=yq x hx;exact ⟨a,fun hm=>b ((pE _ _ _ _).2 (.inr hm)),c⟩
 ·refine eI.2 ⟨fun x hx e=>?_,Eb⟩;exact (yq x hx).2.1 (by rw [←e,rj]; exact q_)
 ·by_cases e:j=i
  ·rw [e,hn] at hx; cases hx; simp
  ·exact cr _ (Ec j hj (hm dr e) x hx)
 ·by_cases e:j=i
  ·exact ⟨i,rfl,by rw [e]; exact .refl⟩
  ·obtain ⟨r,⟨e',fp,rfl⟩,h2⟩:=h.rc j hj (hm dr e);exact ⟨i,rfl,(lT.step .refl hn fp).trans h2⟩
 ·by_cases e1:j=i
  ·rw [e1,hn] at hx; cases hx; exact Eg e he
  ·exact h.cl j hj (hm dr e1) x hx e he
 ·rw [h.wh];constructor
  ·intro a j hj dr;by_cases e:j=i
   ·rw [e,hn]; rfl
   ·exact a j hj (hm dr e)
  ·intro a j hj dr;exact a j hj fun h1=>dr ((pE _ _ _ _).2 (.inr h1))
end
end
section
structure MO (m:Met) (o:List ξ):Prop where
 k:(m.map (·.1)).Pairwise (·≠·)
 r:∀p,p∈m→0≤p.1∧p.1<5000
 ok:(o.map (·.ι)).Pairwise (·≠·)
 om:∀n,n∈o→dB m n.ι
def MO.ml {m:Met} {o:List ξ} (h:MO m o):m.length≤5000:=by
 have:=EU 5000 (m.map (·.1)) h.k fun x hx=>by
  obtain ⟨p,hp,rfl⟩:=dg.1 hx;exact h.r p hp
 rw [ay] at this; exact this
def MO.ol {m:Met} {o:List ξ} (h:MO m o):o.length≤5000:=by
 have:=EU 5000 (o.map (·.ι)) h.ok fun x hx=>by
  obtain ⟨n,hn,rfl⟩:=dg.1 hx;obtain ⟨p,hp,e⟩:=I5.1 (h.om n hn);rw [←e]; exact h.r p hp
 rw [ay] at this; exact this
def MO.set {m:Met} {o:List ξ} (h:MO m o) {i:Int} (hi:¬dB m i) (hr:0≤i∧i<5000) (v:eh):MO (ak i v m) o:=by
 rcases BG i v m with ⟨h1,h2,h3⟩ | ⟨j,c,h1,h2,_⟩
 ·rw [h2];refine ⟨?_,fun p hp=>?_,h.ok,fun n hn=>?_⟩
  ·rw [fo];refine vk.2 ⟨h.k,vp _ _,fun a ha b hb=>?_⟩;obtain ⟨p,hp,rfl⟩:=dg.1 ha;simp at hb; rw [hb]; exact h3 p hp
  ·rcases gg.1 hp with hp | hp
   ·exact h.r p hp
   ·obtain rfl:=dD.1 hp; exact hr
  ·rw [←h2]; exact (pE _ _ _ _).2 (.inr (h.om n hn))
 ·exact absurd (by unfold dB; rw [h2]; rfl) hi
def MO.out {m:Met} {o:List ξ} (h:MO m o) {n:ξ} (hn:dB m n.ι) (ho:∀x,x∈o→x.ι≠n.ι):MO m (o++[n]):=by
 refine ⟨h.k,h.r,?_,fun x hx=>?_⟩
 ·rw [fo];refine vk.2 ⟨h.ok,vp _ _,fun a ha b hb=>?_⟩;obtain ⟨p,hp,rfl⟩:=dg.1 ha;simp at hb; rw [hb]; exact ho p hp
 ·rcases gg.1 hx with hx | hx
  ·exact h.om x hx
  ·obtain rfl:=dD.1 hx; exact hn
structure xA (all:gw):Prop where
 i:∀j n,bn j all=some n→n.ι=j
 e:∀j n,bn j all=some n→∀e,e∈n.Ψ→0≤e.ι∧e.ι<5000
 l:∀j n,bn j all=some n→n.Ψ.length≤100000
abbrev VF:=(Int×Met×gw×List ξ)→Option (Bool×Met×gw×List ξ)
def De (all:gw) (i:Int) (m:Met) (o:List ξ) (r:Bool×Met×gw×List ξ):Prop :=
 r.2.2.1=all∧Tr (fun j=>bn j all) (·=i) m o r.2.1 r.2.2.2 r.1∧dB r.2.1 i∧MO r.2.1 r.2.2.2
def X4 {f:VF} {all:gw} (hG:xA all) (P:Met→Prop) (hP:∀m m',(∀j,dB m j→dB m' j)→P m→P m')
  (hf:∀i m o,0≤i∧i<5000→MO m o→P m→ε (f (i,m,all,o)) (De all i m o)) {i:Int} {m:Met} {o:List ξ} (hr:0≤i∧i<5000) (hm:MO m o)
  (hs:¬dB m i→(bn i all).isSome=true→P (ak i ⟨⟩ m)):ε (rI f i m all o) (De all i m o):=by
 have jv:=hm.ml; have hol:=hm.ol;unfold rI;refine ε.ai rfl (ε.ite (fun e=>ε.ret ⟨rfl,Tr.refl,e,hm⟩) fun e=>?_);have hi:¬dB m i:=e;refine ε.Ω ⟨by unfold Θ; omega,by omega⟩ (ε.ai rfl ?_);cases hg:bn i all with
 | none=>exact ε.cond rfl (ε.ret ⟨rfl,Tr.none hi hg,(pE _ _ _ _).2 (.inl rfl),hm.set hi hr _⟩)
 | some n =>
  have rj:=hG.i i n hg;have Er:=hG.l i n hg;have q_:dB (ak i (⟨⟩:eh) m) i:=(pE _ _ _ _).2 (.inl rfl);have iP:MO (ak i ⟨⟩ m) (o++[n]):=(hm.set hi hr _).out (by rw [rj]; exact q_) fun x hx ex=>hi (by rw [←rj,←ex]; exact hm.om x hx);have yW:P (ak i ⟨⟩ m):=hs hi (by rw [hg]; rfl);refine ε.cV (by simp) (ε.Ω (by simp only [c8,ib]; omega) ?_);show ε ((FH n f (true,0,ak i ⟨⟩ m,all,o++[n])).bind _) _;refine ε.bind (R:=fun v:Bool×Met×gw×List ξ=>v.2.2.1=all∧Tr (fun j=>bn j all) (fun r=>∃e,e∈n.Ψ∧e.ι=r) (ak i ⟨⟩ m) (o++[n]) v.2.1 v.2.2.2 v.1∧(∀e,e∈n.Ψ→dB v.2.1 e.ι)∧MO v.2.1 v.2.2.2) ?_ fun v hv=>ε.ret ⟨hv.1,Tr.one hG.i hi hg hv.2.1 hv.2.2.1,hv.2.1.mo _ q_,hv.2.2.2⟩;unfold FH;refine ε.aaW (l:=n.Ψ) (fun s:Bool×Int×Met×gw×List ξ=>s.2.1) (fun k s=>s.2.2.2.1=all∧Tr (fun j=>bn j all) (fun r=>∃e,e∈n.Ψ∧e.ι=r) (ak i ⟨⟩ m) (o++[n]) s.2.2.1 s.2.2.2.2 s.1∧(∀e,e∈n.Ψ.take k→dB s.2.2.1 e.ι)∧MO s.2.2.1 s.2.2.2.2) (fun k e s Φ he hc hi=>?_) (fun s hc hi=>?_) _ rfl ⟨rfl,Tr.refl,fun e he=>by simp at he,iP⟩
  ·obtain ⟨w,c,mk,al,ok⟩:=s;dsimp only at hc hi;subst hc;obtain ⟨rfl,ht,Eg,ri⟩:=hi;have jM:=mc he;unfold wU;refine ε.cond (by simpa using Φ) ?_;dsimp only;refine ε.bind (R:=fun v:Bool×Met×gw×List ξ=>v.2.2.1=al∧Tr (fun j=>bn j al) (fun r=>∃e,e∈n.Ψ∧e.ι=r) (ak i ⟨⟩ m) (o++[n]) v.2.1 v.2.2.2 v.1∧(∀e,e∈n.Ψ.take (k+1)→dB v.2.1 e.ι)∧MO v.2.1 v.2.2.2) (ε.ai (cF he) (ε.bind (hf e.ι mk ok (hG.e i n hg e jM) ri (hP _ _ ht.mo yW)) fun r hr=>?_)) fun v hv=>ε.Ω (by unfold Θ; omega) (ε.inl ⟨rfl,hv⟩);obtain ⟨h1,h2,h3,h4⟩:=hr;refine ε.ai (a:=r.1&&w) (by cases r.1 <;> rfl) (ε.ret ⟨h1,ht.trans hG.i (h2.sub fun j hj=>⟨j,⟨e,jM,hj.symm⟩,.refl⟩),fun e' fp=>?_,h4⟩);rw [rJ he] at fp
   rcases gg.1 fp with fp | fp
   ·exact h2.mo _ (Eg e' fp)
   ·obtain rfl:=dD.1 fp; exact h3
  ·obtain ⟨w,c,mk,al,ok⟩:=s;dsimp only at hc hi;subst hc;rw [jE] at hi;unfold wU;exact ε.cV (by simp) (ε.out (ε.ret hi))
def zt (all:gw) (m:Met):Nat:=(all.filter fun p=>!(bn p.1 m).isSome).length
def filter_le {α:Type} {p q:α→Bool}:∀{l:List α},(∀x,x∈l→p x=true→q x=true)→(l.filter p).length≤(l.filter q).length
 | [],_=>bF _
 | x::r,h=>by
  have ih:=filter_le (l:=r) fun y hy=>h y (cr _ hy);have hx:=h x (by simp);rw [ia,ia];cases hp:p x with
  | true=>rw [hx hp]; simp only [if_true,c8]; omega
  | false=>cases q x <;> simp only [if_true,nk,if_false,c8] <;> omega
def filter_lt {α:Type} {p q:α→Bool}:∀{l:List α},(∀x,x∈l→p x=true→q x=true)→(∃x,x∈l∧p x=false∧q x=true)→(l.filter p).length<(l.filter q).length
 | [],_,h=>by obtain ⟨x,hx,_⟩:=h; cases hx
 | x::r,h,hex=>by
  have hr:∀y,y∈r→p y=true→q y=true:=fun y hy=>h y (cr _ hy);have hle:=filter_le hr;have hx:=h x (by simp);rw [ia,ia];obtain ⟨y,hy,h1,h2⟩:=hex
  rcases bj.1 hy with rfl | hy
  ·rw [h1,h2]; simp only [if_true,nk,if_false,c8]; omega
  ·have ih:=filter_lt hr ⟨y,hy,h1,h2⟩;cases hp:p x with
   | true=>rw [hx hp]; simp only [if_true,c8]; omega
   | false=>cases q x <;> simp only [if_true,nk,if_false,c8] <;> omega
def ad6 {all:gw} {m m':Met} (h:∀j,dB m j→dB m' j):zt all m'≤zt all m :=
 filter_le fun p _ hp=>by
  cases e:(bn p.1 m).isSome with
  | false=>rfl
  | true=>have:=h p.1 e; unfold dB at this; rw [this] at hp; cases hp
def ad7 {all:gw} {m:Met} {i:Int} (hi:¬dB m i) (hg:(bn i all).isSome=true) (v:eh):zt all (ak i v m)<zt all m:=by
 refine filter_lt (fun p _ hp=>?_) ?_
 ·cases e:(bn p.1 m).isSome with
  | false=>rfl
  | true=>have:dB (ak i v m) p.1:=(pE _ _ _ _).2 (.inr e); unfold dB at this; rw [this] at hp; cases hp
 ·obtain ⟨p,hp,e⟩:=I5.1 hg;have h1:dB (ak i v m) p.1:=(pE _ _ _ _).2 (.inl e);unfold dB at h1 hi;refine ⟨p,hp,by rw [h1]; rfl,?_⟩;rw [e];cases h2:(bn i m).isSome with
  | false=>rfl
  | true=>exact absurd h2 hi
noncomputable def Ll:VF→VF:=fun f a=>rI f a.1 a.2.1 a.2.2.1 a.2.2.2
def ZM:G3 Ll:=fun f g h a r hr=>adY f g (fun a r=>h a r) a.1 a.2.1 a.2.2.1 a.2.2.2 r hr
def X6 {all:gw} (hG:xA all):∀(n:Nat) (i:Int) (m:Met) (o:List ξ),0≤i∧i<5000→MO m o→zt all m<n→ε (qn Ll n (i,m,all,o)) (De all i m o)
 | 0,_,_,_,_,_,h=>by omega
 | n+1,i,m,o,hr,hm,hn=>by
  show ε (rI (qn Ll n) i m all o) _
  exact X4 hG (fun m=>zt all m<n) (fun m m' h1 h2=>Nat.lt_of_le_of_lt (ad6 h1) h2) (fun i m o=>X6 hG n i m o) hr hm fun hi hg=>by have:=ad7 hi hg ⟨⟩; omega
def aid {all:gw} (hG:xA all) (i:Int) (m:Met) (o:List ξ) (hr:0≤i∧i<5000) (hm:MO m o):ε (FF i m all o) (De all i m o):=by
 obtain ⟨r,h1,h2⟩:=X6 hG (zt all m+1) i m o hr hm (Nat.lt_succ_self _);exact ⟨r,SO ZM h1,h2⟩
def abq (i:Int) (m:Met) (all:gw):Ce i m all=rI (fun a=>FF a.1 a.2.1 a.2.2.1 a.2.2.2) i m all []:=rfl
def aic {all:gw} (hG:xA all) (i:Int) (hr:0≤i∧i<5000):ε (Ce i [] all) (De all i [] []):=by
 rw [abq];exact X4 hG (fun _=>True) (fun _ _ _ _=>trivial) (fun i m o hr hm _=>aid hG i m o hr hm) hr ⟨jY,fun p hp=>(by cases hp),jY,fun n hn=>(by cases hn)⟩ fun _ _=>trivial
end
section
def Vb {α:Type} {c:α→α→Option Int} {k:α→Int} (hc:oU c fun a b=>gQ (k a) (k b)) {x:α}:∀{l:List α},(∀y,y∈l→k y≠k x)→∃r,zk c x l=some r
 | [],_=>⟨_,rfl⟩
 | y::r,h=>by
  have hy:=h y (by simp);obtain ⟨t,ht⟩:=Vb hc (x:=x) fun z hz=>h z (cr _ hz);simp only [zk,hc.1];by_cases h1:gQ (k x) (k y)<0
  ·have:¬gQ (k y) (k x)<0:=fun h2=>by have:=jr.1 h1; have:=jr.1 h2; omega
   rw [if_pos h1,if_neg this]; exact ⟨_,rfl⟩
  ·have:gQ (k y) (k x)<0:=jr.2 (by have:¬k x<k y:=fun h2=>h1 (jr.2 h2); omega);rw [if_neg h1,if_pos this,ht]; exact ⟨_,rfl⟩
def PZ {α:Type} {c:α→α→Option Int} {k:α→Int} (hc:oU c fun a b=>gQ (k a) (k b)):∀{l:List α},l.Pairwise (fun a b=>k a≠k b)→∃r,tu c l=some r
 | [],_=>⟨_,rfl⟩
 | x::r,h=>by
  obtain ⟨h1,h2⟩:=eI.1 h;obtain ⟨t,ht⟩:=PZ hc h2;have hp:=(F8 hc ht).1;obtain ⟨u,hu⟩:=Vb hc (x:=x) (l:=t) fun y hy=>j1 (h1 y (hp.mem_iff.1 hy));exact ⟨u,by simp only [tu]; rw [ht]; exact hu⟩
def ahF {l:List ξ} (h:l.Pairwise (fun a b=>a.ι≠b.ι)) (hl:l.length≤100000):ε (wY zT l) (fun r=>dX r∧∀n,n∈r↔n∈l):=by
 obtain ⟨r,hr⟩:=PZ MB (k:=fun n:ξ=>n.ι) h;obtain ⟨h1,h2⟩:=F8 MB hr;exact ⟨r,Xs (by omega) hr,h2.imp fun h=>jr.1 h,fun n=>h1.mem_iff⟩
def ahI {a b:List ξ} (ha:dX a) (hb:dX b) (h:∀n,n∈a↔n∈b):a=b:=by
 induction a generalizing b with
 | nil =>
  cases b with
  | nil=>rfl
  | cons y r=>exact absurd ((h y).2 (by simp)) (by simp)
 | cons x l ih =>
  cases b with
  | nil=>exact absurd ((h x).1 (by simp)) (by simp)
  | cons y r =>
   obtain ⟨a1,a2⟩:=eI.1 ha;obtain ⟨b1,b2⟩:=eI.1 hb
   have hxy:x=y:=by
    rcases bj.1 ((h x).1 (by simp)) with e | e
    ·exact e
    ·rcases bj.1 ((h y).2 (by simp)) with e2 | e2
     ·exact e2.symm
     ·have:=b1 x e; have:=a1 y e2; omega
   subst hxy;rw [ih a2 b2 fun n=>?_];constructor
   ·intro hn
    rcases bj.1 ((h n).1 (cr _ hn)) with e | e
    ·have:=a1 n hn; rw [e] at this; omega
    ·exact e
   ·intro hn
    rcases bj.1 ((h n).2 (cr _ hn)) with e | e
    ·have:=b1 n hn; rw [e] at this; omega
    ·exact e
def nW (a:Int) (m:gw) (p:bp):gw:=if (decide (p.lS≤a)&&decide (a<p.jb))=true then ak p.fg.ι p.fg m else m
def nT (a:Int) (m:gw) (q:ξ×Int):gw:=if decide (q.2≤a)=true then ak q.1.ι q.1 m else m
def allM (s:bq) (a:Int):gw:=(s.Γ.η.zip s.aQ).foldl (nT a) (s.aS.foldl (nW a) [])
def Seen (s:bq) (a:Int) (n:ξ):Prop:=(∃q,q∈s.Γ.η.zip s.aQ∧q.1=n∧q.2≤a)∨∃p,p∈s.aS∧p.fg=n∧p.lS≤a∧a<p.jb
def OP (a:Int):∀(l:List bp) (m:gw),(l.foldl (nW a) m).length≤m.length+l.length
 | [],_=>bF _
 | p::l,m=>by
  rw [xn];have h1:=OP a l (nW a m p)
  have h2:(nW a m p).length≤m.length+1:=by
   unfold nW; split
   ·exact E0 _ _ _
   ·omega
  simp only [c8]; omega
def VJ (a:Int):∀(l:List (ξ×Int)) (m:gw),(l.foldl (nT a) m).length≤m.length+l.length
 | [],_=>bF _
 | p::l,m=>by
  rw [xn];have h1:=VJ a l (nT a m p)
  have h2:(nT a m p).length≤m.length+1:=by
   unfold nT; split
   ·exact E0 _ _ _
   ·omega
  simp only [c8]; omega
def OO (a j:Int) (n:ξ):∀(l:List bp) (m:gw),bn j (l.foldl (nW a) m)=some n→(∃p,p∈l∧p.fg=n∧n.ι=j∧p.lS≤a∧a<p.jb)∨bn j m=some n
 | [],_,h=>.inr h
 | p::l,m,h=>by
  rw [xn] at h
  rcases OO a j n l _ h with ⟨q,hq,h1⟩ | h1
  ·exact .inl ⟨q,cr _ hq,h1⟩
  ·unfold nW at h1;split at h1
   ·next hc =>
    rw [rC] at h1;split at h1
    ·next e=>cases h1; simp at hc; exact .inl ⟨p,by simp,rfl,e.symm,hc.1,hc.2⟩
    ·exact .inr h1
   ·exact .inr h1
def Ow (a j:Int) (n:ξ):∀(l:List (ξ×Int)) (m:gw),bn j (l.foldl (nT a) m)=some n→(∃q,q∈l∧q.1=n∧n.ι=j∧q.2≤a)∨bn j m=some n
 | [],_,h=>.inr h
 | p::l,m,h=>by
  rw [xn] at h
  rcases Ow a j n l _ h with ⟨q,hq,h1⟩ | h1
  ·exact .inl ⟨q,cr _ hq,h1⟩
  ·unfold nT at h1;split at h1
   ·next hc =>
    rw [rC] at h1;split at h1
    ·next e=>cases h1; simp at hc; exact .inl ⟨p,by simp,rfl,e.symm,hc⟩
    ·exact .inr h1
   ·exact .inr h1
def Wx (a j:Int):∀(l:List bp) (m:gw),((bn j m).isSome=true∨∃p,p∈l∧p.fg.ι=j∧p.lS≤a∧a<p.jb)→(bn j (l.foldl (nW a) m)).isSome=true
 | [],_,h=>h.elim id fun ⟨p,hp,_⟩=>by cases hp
 | p::l,m,h=>by
  rw [xn];refine Wx a j l _ ?_
  have key:∀i,(bn i m).isSome=true→(bn i (nW a m p)).isSome=true:=fun i hi=>by
   unfold nW; split
   ·rw [rC]; split; rfl; exact hi
   ·exact hi
  rcases h with h | ⟨q,hq,h1,h2,h3⟩
  ·exact .inl (key j h)
  ·rcases bj.1 hq with rfl | hq
   ·left
    unfold nW;rw [if_pos (by simp [h2,h3]),rC,if_pos h1.symm]; rfl
   ·exact .inr ⟨q,hq,h1,h2,h3⟩
def Ox (a j:Int):∀(l:List (ξ×Int)) (m:gw),((bn j m).isSome=true∨∃q,q∈l∧q.1.ι=j∧q.2≤a)→(bn j (l.foldl (nT a) m)).isSome=true
 | [],_,h=>h.elim id fun ⟨p,hp,_⟩=>by cases hp
 | p::l,m,h=>by
  rw [xn];refine Ox a j l _ ?_
  have key:∀i,(bn i m).isSome=true→(bn i (nT a m p)).isSome=true:=fun i hi=>by
   unfold nT; split
   ·rw [rC]; split; rfl; exact hi
   ·exact hi
  rcases h with h | ⟨q,hq,h1,h2⟩
  ·exact .inl (key j h)
  ·rcases bj.1 hq with rfl | hq
   ·left
    unfold nT;rw [if_pos (by simp [h2]),rC,if_pos h1.symm]; rfl
   ·exact .inr ⟨q,hq,h1,h2⟩
def ZO {s:bq} {a:Int} (hu:∀m n,Seen s a m→Seen s a n→m.ι=n.ι→m=n) (j:Int) (n:ξ):bn j (allM s a)=some n↔Seen s a n∧n.ι=j:=by
 have UP:∀n,bn j (allM s a)=some n→Seen s a n∧n.ι=j:=fun n h=>by
  rcases Ow a j n _ _ h with ⟨q,hq,h1,h2,h3⟩ | h
  ·exact ⟨.inl ⟨q,hq,h1,h3⟩,h2⟩
  ·rcases OO a j n _ _ h with ⟨p,hp,h1,h2,h3⟩ | h
   ·exact ⟨.inr ⟨p,hp,h1,h3⟩,h2⟩
   ·cases h
 refine ⟨UP n,fun ⟨h,hj⟩=>?_⟩
 have:(bn j (allM s a)).isSome=true:=by
  rcases h with ⟨q,hq,h1,h2⟩ | ⟨p,hp,h1,h2,h3⟩
  ·exact Ox a j _ _ (.inr ⟨q,hq,by rw [h1,hj],h2⟩)
  ·exact Ox a j _ _ (.inl (Wx a j _ _ (.inr ⟨p,hp,by rw [h1,hj],h2,h3⟩)))
 obtain ⟨m,hm⟩:=nn.1 this;obtain ⟨h1,h2⟩:=UP m hm;rw [hm,hu m n h1 h (by rw [h2,hj])]
def afk (s:bq) (x:bd) (hp:s.aS.length≤1000000) (hi:∀p,p∈s.aS→Θ p.fg.ι):Po s x (0,[])=some (s.aS.foldl (nW x.At) []):=by
 refine ε.eq ?_;unfold Po;refine ε.each (l:=s.aS) (fun k m=>m=(s.aS.take k).foldl (nW x.At) []) (fun k p m Φ hx hm=>?_) (fun m hm=>?_) _ rfl
 ·have hl:=OP x.At (s.aS.take k) [];rw [←hm,dQ] at hl;simp only [ib] at hl;unfold FJ;refine ε.cond (by simpa using Φ) ?_;dsimp only;rw [cF hx,cD,ba (b:=decide (x.At<p.jb)) (fun _=>rfl),cD,cD];refine ε.bind (R:=(·=nW x.At m p)) ?_ fun v hv=>ε.Ω (by unfold Θ; omega) (ε.inl ⟨rfl,by rw [rJ hx,GH,←hm]; exact hv⟩);unfold nW;refine ε.ite (fun e=>ε.Ω ⟨hi p (mc hx),by omega⟩ (ε.ret (by rw [if_pos e]))) fun e=>ε.ret (by rw [if_neg e])
 ·rw [jE] at hm;unfold FJ;exact ε.cV (by simp) (ε.out (ε.ret hm))
def afl (s:bq) (x:bd) (m0:gw) (h0:m0.length≤1000000) (hn:s.Γ.η.length≤1000000) (hs:s.aQ.length=s.Γ.η.length) (hi:∀n,n∈s.Γ.η→Θ n.ι):Pp s x (0,m0)=some ((s.Γ.η.zip s.aQ).foldl (nT x.At) m0):=by
 refine ε.eq ?_
 have hz:(s.Γ.η.zip s.aQ).length=s.Γ.η.length:=by rw [alC,hs]; omega
 unfold Pp;refine ε.each (l:=s.Γ.η.zip s.aQ) (fun k m=>m=((s.Γ.η.zip s.aQ).take k).foldl (nT x.At) m0) (fun k q m Φ hx hm=>?_) (fun m hm=>?_) _ rfl
 ·obtain ⟨h1,h2⟩:=QC hx;have hl:=VJ x.At ((s.Γ.η.zip s.aQ).take k) m0;rw [←hm,dQ] at hl;unfold FK;refine ε.cond (by simp; omega) ?_;dsimp only;rw [cF h1,cD,cF h2,cD];refine ε.bind (R:=(·=nT x.At m q)) ?_ fun v hv=>ε.Ω (by unfold Θ; omega) (ε.inl ⟨rfl,by rw [rJ hx,GH,←hm]; exact hv⟩);unfold nT;refine ε.ite (fun e=>ε.Ω ⟨hi q.1 (mc h1),by omega⟩ (ε.ret (by rw [if_pos e]))) fun e=>ε.ret (by rw [if_neg e])
 ·rw [jE] at hm;unfold FK;exact ε.cV (by rw [hz]; simp) (ε.out (ε.ret hm))
def GY (g:Int→Option ξ) (i:Int) (r:List ξ×Bool):Prop:=dX r.1∧(∀n,n∈r.1↔lT g i n.ι∧g n.ι=some n)∧(r.2=true↔∀j,lT g i j→(g j).isSome=true)
def GY.eq {g g':Int→Option ξ} {i:Int} {r r':List ξ×Bool} (h:GY g i r) (h':GY g' i r') (hg:∀j,g j=g' j):r=r':=by
 obtain rfl:g=g':=funext hg;refine Prod.ext (ahI h.1 h'.1 fun n=>(h.2.1 n).trans (h'.2.1 n).symm) ?_;have:=h.2.2.trans h'.2.2.symm;cases h1:r.2 <;> cases h2:r'.2 <;> simp_all
def afj (s:bq) (x:bd) (hp:s.aS.length≤400000) (hi:∀p,p∈s.aS→Θ p.fg.ι) (hn:s.Γ.η.length≤400000) (hs:s.aQ.length=s.Γ.η.length) (kO:∀n,n∈s.Γ.η→Θ n.ι) (hG:xA (allM s x.At)) (hx:0≤x.ι∧x.ι<5000):ε (FE s x) (GY (fun j=>bn j (allM s x.At)) x.ι):=by
 unfold FE;refine ε.ai (afk s x (by omega) hi) (ε.ai (afl s x _ (by have:=OP x.At s.aS []; simp only [ib] at this; omega) (by omega) hs kO) ?_);show ε ((Ce x.ι [] (allM s x.At)).bind _) _;refine ε.bind (aic hG x.ι hx) fun r hr=>?_;obtain ⟨h1,h2,h3,h4⟩:=hr;obtain ⟨N,hN,yq,Eb,Ec⟩:=h2.new
 have h0:∀j,¬dB [] j:=fun j h=>by cases h
 have Bi:∀j,lT (fun j=>bn j (allM s x.At)) x.ι j↔dB r.2.1 j:=fun j=>by
  constructor
  ·intro h;induction h with
   | refl=>exact h3
   | @step j n e h5 h6 h7 ih=>exact h2.cl j ih (h0 j) n h6 e h7
  ·intro h;obtain ⟨i,rfl,h5⟩:=h2.rc j h (h0 j);exact h5
 rw [List.nil_append] at hN;refine ε.bind (ahF (l:=r.2.2.2) (by rw [hN]; exact Eb) (by have:=h4.ol; omega)) fun l hl=>ε.ret ⟨hl.1,fun n=>?_,?_⟩
 ·rw [hl.2,hN,Bi];constructor
  ·intro hn; obtain ⟨a,b,c⟩:=yq n hn; exact ⟨c,a⟩
  ·rintro ⟨a,b⟩; exact Ec _ a (h0 _) n b
 ·show r.1=true↔_;rw [h2.wh];exact ⟨fun a j hj=>a j ((Bi j).1 hj) (h0 j),fun a j hj _=>a j ((Bi j).2 hj)⟩
end
section
structure SJ (s:bq):Prop where
 rt:RT s.Γ
 pn:∀p,p∈s.aS→0≤p.fg.ι∧p.fg.ι<5000
 ap:s.aS.Pairwise fun p q=>(p.jb<q.jb∨p.jb=q.jb∧p.fg.ι<q.fg.ι)∧(p.fg.ι=q.fg.ι→p.jb≤q.lS)
 an:∀q,q∈s.Γ.η.zip s.aQ→∀p,p∈s.aS→p.fg.ι=q.1.ι→p.jb≤q.2
 at_:s.aW.Pairwise fun x y=>x.At≤y.At
 vi:∀x,x∈s.aW→∃t,RT t∧t.Next≤5000∧(∀n,Seen s x.At n↔n∈t.η)∧∃r,gN t.η x.ι=some r∧r.τ=2
def afP {α:Type} {R:α→α→Prop} {l:List α} (h:l.Pairwise R) {a b:α} (ha:a∈l) (hb:b∈l):a=b∨R a b∨R b a:=by
 obtain ⟨i,hi⟩:=s4 ha;obtain ⟨j,hj⟩:=s4 hb;obtain ⟨h1,rfl⟩:=fb.1 hi;obtain ⟨h2,rfl⟩:=fb.1 hj
 rcases KZ i j with e | e | e
 ·exact .inr (.inl (vn.1 h i j h1 h2 e))
 ·subst e; exact .inl rfl
 ·exact .inr (.inr (vn.1 h j i h2 h1 e))
section
variable {k:Nat} {s:bq}
def QD {q:ξ×Int} (h:q∈s.Γ.η.zip s.aQ):q.1∈s.Γ.η∧∃j:Nat,s.Γ.η[j]?=some q.1∧s.aQ[j]?=some q.2:=by
 obtain ⟨j,hj⟩:=s4 h;obtain ⟨h1,h2⟩:=QC hj;exact ⟨mc h1,j,h1,h2⟩
def akn (hs:s.aQ.length=s.Γ.η.length) {n:ξ} (hn:n∈s.Γ.η):∃q,(n,q)∈s.Γ.η.zip s.aQ:=by
 obtain ⟨j,hj⟩:=s4 hn
 have Φ:j<s.aQ.length:=by rw [hs]; exact (Ml hj).1
 exact ⟨s.aQ[j],mc (Zl.2 ⟨hj,bT Φ⟩)⟩
def agX (h:SJ s) {a:Int} {m n:ξ} (hm:Seen s a m) (hn:Seen s a n) (e:m.ι=n.ι):m=n:=by
 rcases hm with ⟨q,hq,rfl,h1⟩ | ⟨p,hp,rfl,h1,h2⟩ <;> rcases hn with ⟨q',wv,rfl,g1⟩ | ⟨p',gA,rfl,g1,g2⟩
 ·exact Co h.rt.s (QD hq).1 (QD wv).1 e
 ·have:=h.an q hq p' gA e.symm; omega
 ·have:=h.an q' wv p hp e; omega
 ·rcases afP h.ap hp gA with h3 | h3 | h3
  ·rw [h3]
  ·have:=h3.2 e; omega
  ·have:=h3.2 e.symm; omega
def SJ.get (h:SJ s) {x:bd} (hx:x∈s.aW):∃t,RT t∧t.Next≤5000∧(∀j,bn j (allM s x.At)=gN t.η j)∧∃r,gN t.η x.ι=some r∧r.τ=2:=by
 obtain ⟨t,h1,h2,h3,h4⟩:=h.vi x hx;refine ⟨t,h1,h2,fun j=>?_,h4⟩;have hg:=ZO (s:=s) (a:=x.At) (fun m n=>agX h) j;cases e:gN t.η j with
 | none =>
  cases e2:bn j (allM s x.At) with
  | none=>rfl
  | some n =>
   have:=(hg n).1 e2;exact absurd this.2 (yn.1 e n ((h3 n).1 this.1))
 | some n =>
  have:=dM e;exact (hg n).2 ⟨(h3 n).2 this.1,this.2⟩
def S_ {all:gw} {t:ψ} (h:RT t) (hx:t.Next≤5000) (hg:∀j,bn j all=gN t.η j):xA all:=by
 refine ⟨fun j n hn=>?_,fun j n hn e he=>?_,fun j n hn=>?_⟩ <;> rw [hg] at hn <;> have hm:=dM hn
 ·exact hm.2
 ·obtain ⟨q,hq⟩:=nn.1 (h.cl n hm.1 e he);have h1:=dM hq;have:=h.lo q h1.1;rw [h1.2] at this; omega
 ·have:=(h.en n hm.1).n; omega
open Classical in
def agW (h:SI k s) (n:ξ):Seen s s.aT n↔n∈s.Γ.η:=by
 constructor
 ·rintro (⟨q,hq,rfl,_⟩ | ⟨p,hp,rfl,h1,h2⟩)
  ·exact (QD hq).1
  ·have:=(h.pt p hp).1; omega
 ·intro hn;obtain ⟨w,hw⟩:=akn h.si hn;exact .inl ⟨_,hw,rfl,(h.sn w (List.of_mem_zip hw).2).2⟩
def SJ.take (h:SI k s) (hk:k≤200) (hj:SJ s) (i:Int):SJ (kq s i).1:=by
 unfold kq;split
 ·exact hj
 next h1 =>
 split
 ·exact hj
 next h2 =>
 split
 ·exact hj
 refine ⟨hj.rt,hj.pn,hj.ap,hj.an,?_,fun x hx=>?_⟩
 ·refine vk.2 ⟨hj.at_,vp _ _,fun x hx y hy=>?_⟩;obtain rfl:=dD.1 hy;exact (h.ti x hx).2.2
 ·rcases gg.1 hx with hx | hx
  ·exact hj.vi x hx
  ·obtain rfl:=dD.1 hx
   obtain ⟨n,hn⟩:∃n,gN s.Γ.η i=some n:=by
    cases hg:gN s.Γ.η i with
    | none=>rw [hg] at h1; simp at h1
    | some n=>exact ⟨n,rfl⟩
   rw [jd hn] at h2;exact ⟨s.Γ,hj.rt,by have:=h.f.x; omega,fun n=>agW h n,n,hn,by simpa using h2⟩
def agV {i:Int} {x:bd} (hx:x∈oz s i) (n:ξ):Seen ⟨s.Γ,s.aT,s.aQ,zn s.aS (oz s i),oz s i,s.Next⟩ x.At n↔Seen s x.At n:=by
 constructor
 ·rintro (⟨q,hq,rfl,h1⟩ | ⟨p,hp,rfl,h1,h2⟩)
  ·exact .inl ⟨q,hq,rfl,h1⟩
  ·exact .inr ⟨p,(eB.1 hp).1,rfl,h1,h2⟩
 ·rintro (⟨q,hq,rfl,h1⟩ | ⟨p,hp,rfl,h1,h2⟩)
  ·exact .inl ⟨q,hq,rfl,h1⟩
  ·refine .inr ⟨p,eB.2 ⟨hp,?_⟩,rfl,h1,h2⟩;unfold qp;exact CZ.2 ⟨x,hx,by simp; omega⟩
def SJ.drop (hj:SJ s) (i:Int):SJ (o9 s i).1:=by
 unfold o9;split
 ·exact hj
 refine ⟨hj.rt,fun p hp=>hj.pn p (eB.1 hp).1,hj.ap.filter _,fun q hq p hp he=>hj.an q hq p (eB.1 hp).1 he,hj.at_.filter _,fun x hx=>?_⟩;obtain ⟨t,h1,h2,h3,h4⟩:=hj.vi x (eB.1 hx).1;exact ⟨t,h1,h2,fun n=>(agV hx n).trans (h3 n),h4⟩
end
end
section
section
variable {α:Type}
def cY (c:α→Int) (l:List α):Nat:=(l.takeWhile fun x=>decide (c x<0)).length
def fF (c:α→Int) (l:List α):Bool:=match l[cY c l]? with | some x=>c x==0 | none=>false
def Mon (c:α→Int) (l:List α):Prop:=∀(j k:Nat) x y,j<k→l[j]?=some x→l[k]?=some y→c y<0→c x<0
def LA (C:α→Option Int) (l:List α) (s1:Int×Int):Option ((Int×Int)⊕Int):=if (decide (s1.1<s1.2)) then Ω (Θ (s1.1+s1.2)) ((idx l ((IntKind.i64.wrap ((eT .u64 ((IntKind.u64.wrap ((s1.1+s1.2)))) (1)))))).bind fun x1=>(C x1).bind fun x2=>if (decide (x2<0)) then Ω (Θ ((IntKind.i64.wrap ((eT .u64 ((IntKind.u64.wrap ((s1.1+s1.2)))) (1))))+1)) (some (.inl ((((IntKind.i64.wrap ((eT .u64 ((IntKind.u64.wrap ((s1.1+s1.2)))) (1))))+1),s1.2)))) else some (.inl ((s1.1,(IntKind.i64.wrap ((eT .u64 ((IntKind.u64.wrap ((s1.1+s1.2)))) (1)))))))) else out (some s1.1)
noncomputable def Dl (C:α→Option Int) (l:List α):Option (Int×Bool):=(loop (LA C l) (0,(l.length:Int))).bind fun v1=>((if (decide (v1<(l.length:Int))) then (idx l v1).bind fun x3=>(C x3).bind fun x4=>some ((x4==0)) else some false).bind fun c1=>some c1).bind fun v2=>some ((v1,v2))
def Dk (c:α→Int) (l:List α):cY c l≤l.length:=by
 unfold cY; exact (Zq _).length_le
def RV {c:α→Int}:∀{l:List α} {k:Nat},k≤l.length→(∀(j:Nat) x,j<k→l[j]?=some x→c x<0)→(∀x,l[k]?=some x→¬c x<0)→cY c l=k
 | [],k,hk,_,_=>by simp at hk; subst hk; rfl
 | x::l,0,_,_,h2=>by
  have:=h2 x rfl;unfold cY; rw [xo,if_neg (by simpa using this)]; rfl
 | x::l,k+1,hk,h1,h2=>by
  have:=h1 0 x (by omega) rfl;have ih:=RV (c:=c) (l:=l) (k:=k) (by simpa using hk) (fun j y hj hy=>h1 (j+1) y (by omega) (by simpa using hy)) (fun y hy=>h2 y (by simpa using hy));unfold cY at ih ⊢; rw [xo,if_pos (by simpa using this),c8,ih]
def RU {c:α→Int}:∀{l:List α} {j:Nat} {x:α},j<cY c l→l[j]?=some x→c x<0
 | [],j,x,h,_=>by simp [cY] at h
 | y::l,j,x,h,hx=>by
  unfold cY at h; rw [xo] at h;by_cases hy:c y<0
  ·rw [if_pos (by simpa using hy)] at h;cases j with
   | zero=>cases hx; exact hy
   | succ j=>exact RU (l:=l) (j:=j) (by unfold cY; simpa using h) (by simpa using hx)
  ·rw [if_neg (by simpa using hy)] at h; simp at h
def LD {c:α→Int}:∀{l:List α} {x:α},l[cY c l]?=some x→¬c x<0
 | [],x,h=>by simp at h
 | y::l,x,h=>by
  unfold cY at h; rw [xo] at h;by_cases hy:c y<0
  ·rw [if_pos (by simpa using hy),c8,List.getElem?_cons_succ] at h;exact LD (l:=l) (by unfold cY; exact h)
  ·rw [if_neg (by simpa using hy)] at h;cases h; exact hy
def xT {c:α→Int} {x:α} {l:List α} (h:c x<0):cY c (x::l)=cY c l+1:=by
 unfold cY; rw [xo,if_pos (by simpa using h)]; rfl
def xU {c:α→Int} {x:α} {l:List α} (h:¬c x<0):cY c (x::l)=0:=by
 unfold cY; rw [xo,if_neg (by simpa using h)]; rfl
def xR {c:α→Int} {x:α} {l:List α} (h:c x<0):fF c (x::l)=fF c l:=by
 unfold fF; rw [xT h]; rfl
def xS {c:α→Int} {x:α} {l:List α} (h:¬c x<0):fF c (x::l)=(c x==0):=by
 unfold fF; rw [xU h]; rfl
def Z5 {C:α→Option Int} {c:α→Int} {l:List α} (P:Nat→Nat→Prop) (hC:∀x,x∈l→C x=some (c x)) (hl:l.length≤1000000) (h0:P 0 l.length)
  (yW:∀a b x,P a b→a<b→b≤l.length→l[(a+b)/2]?=some x→c x<0→P ((a+b)/2+1) b)
  (IB:∀a b x,P a b→a<b→b≤l.length→l[(a+b)/2]?=some x→¬c x<0→P a ((a+b)/2)) :
  ε (loop (LA C l) (0,(l.length:Int))) (fun v=>∃k:Nat,v=k∧k≤l.length∧P k k):=by
 refine ε.loop (fun s:Int×Int=>∃a b:Nat,s=((a:Int),(b:Int))∧a≤b∧b≤l.length∧P a b) (fun s=>(s.2-s.1).toNat) ?_ _ ⟨0,l.length,rfl,by omega,by omega,h0⟩;rintro s ⟨a,b,rfl,jI,hb,hP⟩;unfold LA;dsimp only;by_cases Φ:a<b
 ·refine ε.cond (by simpa using Φ) (ε.Ω (by unfold Θ; omega) ?_);rw [VA a b (by omega)]
  have hm:(a+b)/2<l.length:=by omega
  have hx:=bT hm;refine ε.ai (cF hx) (ε.ai (hC _ (eG hm)) ?_);exact ε.ite (fun e=>ε.Ω (by unfold Θ; omega) (ε.inl ⟨⟨(a+b)/2+1,b,rfl,by omega,hb,yW a b _ hP Φ hb hx (by simpa using e)⟩,by dsimp only; omega⟩)) fun e=>ε.inl ⟨⟨a,(a+b)/2,rfl,by omega,by omega,IB a b _ hP Φ hb hx (by simpa using e)⟩,by dsimp only; omega⟩
 ·have:a=b:=by omega
  subst this;exact ε.cV (by simp) (ε.out (ε.ret ⟨a,rfl,hb,hP⟩))
def Z4 {C:α→Option Int} {c:α→Int} {l:List α} (hC:∀x,x∈l→C x=some (c x)) {k:Nat} {v:Int} (hv:v=k) :
  (((if (decide (v<(l.length:Int))) then (idx l v).bind fun x3=>(C x3).bind fun x4=>some ((x4==0)) else some false).bind fun c1=>some c1).bind fun v2=>some ((v,v2)))=some ((k:Int),match l[k]? with | some x=>c x==0 | none=>false):=by
 subst hv;refine ε.eq ?_;by_cases hk:k<l.length
 ·have hx:=bT hk;rw [hx];exact ε.bind (R:=(·=(c l[k]==0))) (ε.bind (R:=(·=(c l[k]==0))) (ε.cond (by simpa using hk) (ε.ai (cF hx) (ε.ai (hC _ (eG hk)) (ε.ret rfl)))) fun r hr=>ε.ret hr) fun r hr=>ε.ret (by subst hr; rfl)
 ·rw [Ra (by omega)];exact ε.bind (R:=(·=false)) (ε.bind (R:=(·=false)) (ε.cV (by simpa using hk) (ε.ret rfl)) fun r hr=>ε.ret hr) fun r hr=>ε.ret (by subst hr; rfl)
def Hd {C:α→Option Int} {c:α→Int} {l:List α} (hC:∀x,x∈l→C x=some (c x)) (hm:Mon c l) (hl:l.length≤1000000):Dl C l=some ((cY c l:Int),fF c l):=by
 refine ε.eq ?_;unfold Dl;refine ε.bind (Z5 (fun a b=>(∀(j:Nat) x,j<a→l[j]?=some x→c x<0)∧(∀(j:Nat) x,b≤j→l[j]?=some x→¬c x<0)) hC hl ⟨fun j x h=>by omega,fun j x h hx=>by rw [Ra (by omega)] at hx; cases hx⟩ ?_ ?_) ?_
 ·rintro a b x ⟨h1,h2⟩ jI hb hx hc;refine ⟨fun j y hj hy=>?_,h2⟩
  rcases gG j ((a+b)/2) with h | h
  ·exact hm j _ y x h hy hx hc
  ·have:j=(a+b)/2:=by omega
   subst this; rw [hx] at hy; cases hy; exact hc
 ·rintro a b x ⟨h1,h2⟩ jI hb hx hc;refine ⟨h1,fun j y hj hy=>?_⟩
  rcases gG ((a+b)/2) j with h | h
  ·exact fun sS=>hc (hm _ j x y h hx hy sS)
  ·have:j=(a+b)/2:=by omega
   subst this; rw [hx] at hy; cases hy; exact hc
 ·rintro v ⟨k,hv,hk,h1,h2⟩;have e:=RV hk h1 (fun x hx=>h2 k x (bF _) hx);rw [Z4 hC hv];exact ε.ret (by unfold fF; rw [e])
end
end
section
def R6:∀{a b:List UInt8},mM a b<0↔fV a b=true
 | [],[]=>by simp [mM,fV]
 | [],_::_=>by simp [mM,fV]
 | _::_,[]=>by simp [mM,fV]
 | a::x,b::y=>by
  have ih:=R6 (a:=x) (b:=y);simp only [mM,fV,tT,bJ,decide_eq_true_eq,beq_iff_eq];by_cases h1:a<b
  ·rw [if_pos h1]; simp [h1]
  ·rw [if_neg h1];by_cases h2:b<a
   ·rw [if_pos h2];refine ⟨fun h=>by omega,fun h=>?_⟩
    rcases h with h | ⟨rfl,-⟩
    ·exact absurd h h1
    ·exact absurd h2 h1
   ·rw [if_neg h2,ih];have:a=b:=ZC (K9.1 h2) (K9.1 h1);simp [h1,this]
def R5:∀{a b:List UInt8},mM a b=0↔a=b
 | [],[]=>by simp [mM]
 | [],_::_=>by simp [mM]
 | _::_,[]=>by simp [mM]
 | a::x,b::y=>by
  have ih:=R5 (a:=x) (b:=y);simp only [mM];by_cases h1:a<b
  ·rw [if_pos h1];refine ⟨fun h=>by omega,fun h=>?_⟩;injection h with h _; subst h; exact absurd h1 (ZE _)
  ·rw [if_neg h1];by_cases h2:b<a
   ·rw [if_pos h2];refine ⟨fun h=>by omega,fun h=>?_⟩;injection h with h _; subst h; exact absurd h2 (ZE _)
   ·rw [if_neg h2,ih];have:a=b:=ZC (K9.1 h2) (K9.1 h1);subst this; simp
def cN (i:Int) (x:ξ):Int:=gQ x.ι i
def vH {i:Int} {x:ξ}:cN i x<0↔x.ι<i:=jr
def AD {i:Int} {x:ξ}:(cN i x==0)=true↔x.ι=i:=xY
def ad1 {l:List ξ} (h:dX l) (i:Int):Mon (cN i) l:=fun j k x y ph hx hy hc=>by
 have:=Ga h hx hy ph;rw [vH] at *; omega
def Mj {i:Int}:∀{l:List ξ},dX l→gN l i=if fF (cN i) l=true then l[cY (cN i) l]? else none
 | [],_=>by simp [gN,fF]
 | x::l,h=>by
  have h2:=(eI.1 h).2;have h1:=(eI.1 h).1;rw [qV];by_cases hx:cN i x<0
  ·rw [xR hx,xT hx,if_neg (by have:=vH.1 hx; omega),Mj h2]; rfl
  ·rw [xS hx,xU hx];rw [vH] at hx;by_cases he:x.ι=i
   ·rw [if_pos he,if_pos (AD.2 he)]; rfl
   ·rw [if_neg he,if_neg (fun h=>he (AD.1 h))]
    exact yn.2 fun n hn=>by have:=h1 n hn; omega
def LC {i:Int} {l:List ξ} (h:dX l):fF (cN i) l=(gN l i).isSome:=by
 rw [Mj h];cases hb:fF (cN i) l with
 | false=>rfl
 | true =>
  rw [if_pos rfl];unfold fF at hb;cases hx:l[cY (cN i) l]? with
  | none=>rw [hx] at hb; cases hb
  | some x=>rfl
def RS {i:Int} {l:List ξ} (h:dX l) {n:ξ} (hn:gN l i=some n):l[cY (cN i) l]?=some n:=by
 have:=LC (i:=i) h;rw [hn] at this;rw [Mj h,if_pos (show fF (cN i) l=true from this)] at hn; exact hn
def WD {n:ξ}:∀{l:List ξ},dX l→cG n l=if fF (cN n.ι) l=true then l.set (cY (cN n.ι) l) n else dH l (cY (cN n.ι) l:Int) [n]
 | [],_=>by simp [cG,fF,dH]
 | x::l,h=>by
  have h2:=(eI.1 h).2;have h1:=(eI.1 h).1;rw [BX];by_cases hx:cN n.ι x<0
  ·rw [if_neg (by have:=vH.1 hx; omega),xR hx,xT hx,WD h2];split
   ·rfl
   ·unfold dH;rw [gM,gM]; rfl
  ·rw [xS hx,xU hx,if_pos (by rw [vH] at hx; omega)];rw [vH] at hx;by_cases he:x.ι=n.ι
   ·rw [if_pos (AD.2 he),List.set_cons_zero,ia,if_neg (by simpa using he),tV.2];intro y hy;have:=h1 y hy;simp; omega
   ·rw [if_neg (fun h=>he (AD.1 h)),tV.2]
    ·rfl
    ·intro y hy
     rcases bj.1 hy with rfl | hy
     ·simpa using he
     ·have:=h1 y hy;simp; omega
def Sq {i:Int}:∀{l:List ξ},dX l→l.filter (fun x=>x.ι != i)=if fF (cN i) l=true then fW l (cY (cN i) l:Int) ((cY (cN i) l:Int)+1) else l
 | [],_=>by simp [fF]
 | x::l,h=>by
  have h2:=(eI.1 h).2;have h1:=(eI.1 h).1;by_cases hx:cN i x<0
  ·rw [ia,if_pos (by have:=vH.1 hx; simp; omega),xR hx,xT hx,Sq h2];split
   ·unfold fW;rw [gM,gM,show ((cY (cN i) l:Int)+1).toNat=cY (cN i) l+1 by omega,show (((cY (cN i) l+1:Nat):Int)+1).toNat=cY (cN i) l+1+1 by omega]; rfl
   ·rfl
  ·rw [xS hx,xU hx];rw [vH] at hx
   have hf:l.filter (fun x=>x.ι != i)=l:=tV.2 fun y hy=>by have:=h1 y hy; simp; omega
   by_cases he:x.ι=i
   ·rw [ia,if_neg (by simpa using he),if_pos (AD.2 he),hf]; rfl
   ·rw [ia,if_pos (by simpa using he),if_neg (fun h=>he (AD.1 h)),hf]
def V1 {t:ψ} (hs:dX t.η) (hl:t.η.length≤1000000) (i:Int):tG ⟨t⟩ i=some (((cY (cN i) t.η:Int),fF (cN i) t.η),⟨t⟩):=by
 have h:=Hd (C:=fun x=>z6 x i) (c:=cN i) (l:=t.η) (fun x _=>by unfold z6; rw [w7]; rfl) (ad1 hs i) hl;unfold tG;show ((Dl (fun x=>z6 x i) t.η).bind _)=_;rw [h]; rfl
def se {α:Type} {l:List α} {K:Nat} (h:l.length*K≤140737488355328):oX (fun b1:Bool=>b1=true→l=[]) (fun b1=>if b1 then some ([]:List α) else Ω ((([]:List α).length+l.length)*K≤140737488355328) (some (([]:List α)++l)))=some l :=
 RE ⟨false,fun h=>by cases h⟩ fun b hb=>by
  cases b with
  | false=>rw [if_neg (by simp),ij (by simpa using h)]; rfl
  | true=>rw [hb rfl]; rfl
def BS {t:ψ} (hs:dX t.η) (hl:t.η.length≤1000000) (n:ξ):uW n ⟨t⟩=some (t.Next,t.aj,cG n t.η):=by
 refine ε.eq ?_;unfold uW zU;refine ε.ai (V1 hs hl n.ι) ?_;dsimp only;refine ε.ai (se (by omega)) ?_;rw [WD hs];have hk:=Dk (cN n.ι) t.η;refine ε.ite (fun hb=>?_) fun hb=>?_
 ·rw [if_pos hb];have hg:=LC (i:=n.ι) hs;rw [hb] at hg;obtain ⟨m,hm⟩:=nn.1 hg.symm;exact ε.ai (cF (RS hs hm)) (ε.ret (by rw [gM]))
 ·rw [if_neg hb];exact ε.Ω ⟨by omega,by omega,by simp,by simp only [c8,ib]; omega⟩ (ε.ret rfl)
def Wm {t:ψ} (hs:dX t.η) (hl:t.η.length≤1000000) (n0 n1 n2:Int) (n3:List UInt8) (n5:Int) (E:List aN):CI n0 n1 n2 n3 n5 ⟨t⟩ E=some (t.Next,t.aj,cG ⟨n0,n1,n2,n3,E,n5⟩ t.η):=BS hs hl ⟨n0,n1,n2,n3,E,n5⟩
def V6 {t:ψ} (hs:dX t.η) (hl:t.η.length≤1000000) (i:Int):CF i ⟨t⟩=some (t.η.filter (fun x=>x.ι != i),t.Next,t.aj):=by
 refine ε.eq ?_;unfold CF zU;refine ε.ai (V1 hs hl i) ?_;dsimp only;rw [Sq hs];have hk:=Dk (cN i) t.η;refine ε.ite (fun hb=>?_) fun hb=>?_
 ·rw [if_pos hb];have hg:=LC (i:=i) hs;rw [hb] at hg;obtain ⟨m,hm⟩:=nn.1 hg.symm;have:=(fb.1 (RS hs hm)).1;exact ε.ai (se (by omega)) (ε.Ω (by unfold Θ; omega) (ε.Ω (by omega) (ε.ret rfl)))
 ·rw [if_neg hb]; exact ε.ret rfl
def oq (l:List aN):Prop:=l.Pairwise fun a b=>fV a.aM b.aM=true
def cS (s:List UInt8) (x:aN):Int:=mM x.aM s
def AE {s:List UInt8} {x:aN}:cS s x<0↔fV x.aM s=true:=R6
def Hg {s:List UInt8} {x:aN}:(cS s x==0)=true↔x.aM=s:=by rw [beq_iff_eq]; exact R5
def ad0 {l:List aN} (h:oq l) (s:List UInt8):Mon (cS s) l:=fun j k x y ph hx hy hc=>by
 obtain ⟨h1,rfl⟩:=fb.1 hx;obtain ⟨h2,rfl⟩:=fb.1 hy;rw [AE] at *;exact Ly (vn.1 h j k h1 h2 ph) hc
def Sx {s:List UInt8} {x y:aN} (hx:¬cS s x<0) (hl:fV x.aM y.aM=true):y.aM≠s:=by
 intro e;rw [e] at hl;exact hx (AE.2 hl)
def L_ {s:List UInt8}:∀{l:List aN},oq l→l.find? (fun e=>e.aM==s)=if fF (cS s) l=true then l[cY (cS s) l]? else none
 | [],_=>by simp [fF]
 | x::l,h=>by
  have h2:=(eI.1 h).2;have h1:=(eI.1 h).1;rw [Q_];by_cases hx:cS s x<0
  ·have aO:(x.aM==s)=false:=by
    rw [beq_eq_false_iff_ne]; intro e;rw [AE,e,Hb] at hx; cases hx
   rw [aO,xR hx,xT hx,L_ h2]; rfl
  ·rw [xS hx,xU hx];by_cases he:x.aM=s
   ·rw [if_pos (Hg.2 he),show (x.aM==s)=true by simpa using he]; rfl
   ·rw [if_neg (fun h=>he (Hg.1 h)),show (x.aM==s)=false by simpa using he]
    exact GG.2 fun y hy=>by simpa using Sx hx (h1 y hy)
def Dj {s:List UInt8} {l:List aN} (h:oq l):fF (cS s) l=(l.find? (fun e=>e.aM==s)).isSome:=by
 rw [L_ h];cases hb:fF (cS s) l with
 | false=>rfl
 | true =>
  rw [if_pos rfl];unfold fF at hb;cases hx:l[cY (cS s) l]? with
  | none=>rw [hx] at hb; cases hb
  | some x=>rfl
def LF {s:List UInt8} {l:List aN} (h:oq l) {e:aN} (he:l.find? (fun e=>e.aM==s)=some e):l[cY (cS s) l]?=some e:=by
 have:=Dj (s:=s) h;rw [he] at this;rw [L_ h,if_pos (show fF (cS s) l=true from this)] at he; exact he
def U9 {e:aN}:∀{l:List aN},oq l→(∀x,x∈l→x.aM≠e.aM)→nR e l=dH l (cY (cS e.aM) l:Int) [e]
 | [],_,_=>by simp [nR,dH]
 | x::l,h,hn=>by
  have h2:=(eI.1 h).2;have hx:=hn x (by simp);rw [EP];by_cases hc:cS e.aM x<0
  ·rw [xT hc,if_neg (by rw [AE] at hc; simp [hc]),U9 h2 fun y hy=>hn y (cr _ hy)];unfold dH;rw [gM,gM]; rfl
  ·rw [xU hc,if_pos (by rw [AE] at hc; simp [hc,hx])]; rfl
def SE {s:List UInt8}:∀{l:List aN},oq l→l.filter (fun e=>!(e.aM==s))=if fF (cS s) l=true then fW l (cY (cS s) l:Int) ((cY (cS s) l:Int)+1) else l
 | [],_=>by simp [fF]
 | x::l,h=>by
  have h2:=(eI.1 h).2;have h1:=(eI.1 h).1;by_cases hx:cS s x<0
  ·have aO:(x.aM==s)=false:=by
    rw [beq_eq_false_iff_ne]; intro e;rw [AE,e,Hb] at hx; cases hx
   rw [ia,if_pos (by rw [aO]; rfl),xR hx,xT hx,SE h2];split
   ·unfold fW;rw [gM,gM,show ((cY (cS s) l:Int)+1).toNat=cY (cS s) l+1 by omega,show (((cY (cS s) l+1:Nat):Int)+1).toNat=cY (cS s) l+1+1 by omega]; rfl
   ·rfl
  ·rw [xS hx,xU hx]
   have hf:l.filter (fun e=>!(e.aM==s))=l:=tV.2 fun y hy=>by simpa using Sx hx (h1 y hy)
   by_cases he:x.aM=s
   ·rw [ia,if_neg (by simpa using he),if_pos (Hg.2 he),hf]; rfl
   ·rw [ia,if_pos (by simpa using he),if_neg (fun h=>he (Hg.1 h)),hf]
def Fa {n:ξ} (hs:oq n.Ψ) (hl:n.Ψ.length≤1000000) (s:List UInt8):tE n s=some ((cY (cS s) n.Ψ:Int),fF (cS s) n.Ψ):=by
 have h:=Hd (C:=fun x=>CC x s) (c:=cS s) (l:=n.Ψ) (fun x _=>rfl) (ad0 hs s) hl;unfold tE;show ((Dl (fun x=>CC x s) n.Ψ).bind _)=_;rw [h]; rfl
def aam (l:List UInt8) (i:Nat) (h:i<l.length):1≤(o8 l i).2∧i+(o8 l i).2≤l.length∧(((o8 l i).1=(l[i]!).toNat∧(l[i]!).toNat<128)∨(128≤(o8 l i).1∧128≤(l[i]!).toNat))∧∀j,1≤j→j<(o8 l i).2→128≤(l[i+j]!).toNat:=by
 have hg:∀k,((⟨l.toArray⟩:ByteArray).get! k)=l[k]! := fun k=>by
  show l.toArray[k]! = _;simp
 have hz:(⟨l.toArray⟩:ByteArray).size=l.length:=by show l.toArray.size=_; simp
 have hc:∀k,(decide (i+k<l.length)&&(l[i+k]!).toNat/64==2)=true→i+k<l.length∧128≤(l[i+k]!).toNat:=fun k h=>by
  rw [bJ,decide_eq_true_eq,beq_iff_eq] at h; omega
 have e1:∀b:Nat,¬b<128→1≤((65533,1):Nat×Nat).2∧i+((65533,1):Nat×Nat).2≤l.length∧((((65533,1):Nat×Nat).1=b∧b<128)∨(128≤((65533,1):Nat×Nat).1∧128≤b))∧∀j,1≤j→j<((65533,1):Nat×Nat).2→128≤(l[i+j]!).toNat:=fun b hb=>⟨by simp,by simp; omega,.inr ⟨by simp,by omega⟩,fun j h1 h2=>by simp at h2; omega⟩;unfold o8 Utf8.decode;simp only [hg,hz,Nat.add_zero,Utf8.runeError];generalize ek:(l[i]!).toNat=b0 at *;split
 ·exact ⟨by simp,by simp; omega,.inl ⟨rfl,by omega⟩,fun j h1 h2=>by simp at h2; omega⟩
 rename_i hb;split
 ·rename_i h2;rw [bJ] at h2;have c1:=hc 1 h2.2;split
  ·exact ⟨by simp,by dsimp only; omega,.inr ⟨by dsimp only; omega,by omega⟩,fun j h3 h4=>by
    dsimp only at h4
    have:j=1:=by omega
    subst this; exact c1.2⟩
  ·exact e1 b0 hb
 split
 ·rename_i h2;rw [bJ,bJ] at h2;have c1:=hc 1 h2.1.2;have c2:=hc 2 h2.2;split
  ·rename_i h5;rw [bJ,decide_eq_true_eq] at h5
   exact ⟨by simp,by dsimp only; omega,.inr ⟨by dsimp only; omega,by omega⟩,fun j h3 h4=>by
    dsimp only at h4
    rcases (by omega:j=1∨j=2) with rfl | rfl
    ·exact c1.2
    ·exact c2.2⟩
  ·exact e1 b0 hb
 split
 ·rename_i h2;rw [bJ,bJ,bJ] at h2;have c1:=hc 1 h2.1.1.2;have c2:=hc 2 h2.1.2;have c3:=hc 3 h2.2;split
  ·rename_i h5;rw [bJ,decide_eq_true_eq] at h5
   exact ⟨by simp,by dsimp only; omega,.inr ⟨by dsimp only; omega,by omega⟩,fun j h3 h4=>by
    dsimp only at h4
    rcases (by omega:j=1∨j=2∨j=3) with rfl | rfl | rfl
    ·exact c1.2
    ·exact c2.2
    ·exact c3.2⟩
  ·exact e1 b0 hb
 ·exact e1 b0 hb
def qN (x:UInt8):Bool:=decide ((x.toNat:Int)<32)||(x.toNat:Int)==47
def afv (s:List UInt8):Oq s 0=some (!s.any qN):=by
 refine ε.eq ?_;unfold Oq;refine ε.loop (fun n:Nat=>n≤s.length∧(s.take n).any qN=false) (fun n=>s.length-n) ?_ 0 ⟨by omega,by simp⟩;rintro n ⟨hn,hp⟩;unfold I9 I_
 have acN:s.any qN=((s.take n).any qN||(s.drop n).any qN):=by rw [←List.any_append,List.take_append_drop]
 by_cases Φ:n<s.length
 ·obtain ⟨h1,h2,h3,h4⟩:=aam s n Φ
  have hx:s[n]! = s[n]:=by rw [Zi,bT Φ]; rfl
  refine ε.cond (by simpa using Φ) ?_
  have abx:qN s[n]=(decide ((((o8 s n).1:Nat):Int)<32)||(((o8 s n).1:Nat):Int)==47):=by
   rw [←hx];unfold qN
   rcases h3 with ⟨e,-⟩ | ⟨e1,e2⟩
   ·rw [e]
   ·rw [decide_eq_false (by omega),decide_eq_false (by omega),beq_eq_false_iff_ne.2 (by omega),beq_eq_false_iff_ne.2 (by omega)]
  refine ε.bind (R:=(·=qN s[n])) (ε.bind (R:=(·=qN s[n])) ?_ fun r hr=>ε.ret hr) fun r hr=>?_
  ·rw [abx];refine ε.ite (fun h=>ε.ret ?_) fun h=>ε.ret ?_
   ·rw [h]; rfl
   ·rw [gK.2 h]; rfl
  ·subst hr;have hd:s.drop n=s[n]::s.drop (n+1):=xl Φ;refine ε.ite (fun hb=>ε.out (ε.ret ?_)) fun hb=>ε.inl ⟨⟨h2,?_⟩,by omega⟩
   ·rw [acN,hd,List.any_cons,hb]; simp
   ·have hb:qN s[n]=false:=by simpa using hb
    rw [pS];intro x gl;obtain ⟨k,hk⟩:=s4 gl;rw [gb] at hk;by_cases Ud:k<n+(o8 s n).2
    ·rw [if_pos Ud] at hk
     rcases KZ k n with h | h | h
     ·rw [pS] at hp;exact hp x (mc (by rw [gb,if_pos h]; exact hk))
     ·subst h;rw [bT Φ] at hk; cases hk; simpa using hb
     ·have:=h4 (k-n) (by omega) (by omega);rw [show n+(k-n)=k by omega,Zi,hk] at this;have:128≤x.toNat:=this;unfold qN; simp; omega
    ·rw [if_neg Ud] at hk; cases hk
 ·have:n=s.length:=by omega
  subst this;rw [jE] at hp;exact ε.cV (by simp) (ε.out (ε.ret (by rw [hp]; rfl)))
def Fe (s:List UInt8):wI s=some (fY s):=by
 refine ε.eq ?_;unfold wI fY;refine ε.bind (R:=(·=(s == []||decide ((s.length:Int)>32)||s == [46]||s == [46,46]))) (ε.bind (R:=(·=(s == []||decide ((s.length:Int)>32)))) ?_ fun c hc=>ε.bind (R:=(·=(s == []||decide ((s.length:Int)>32)||s == [46]))) ?_ fun c2 br=>ε.bind (R:=(·=(s == []||decide ((s.length:Int)>32)||s == [46]||s == [46,46]))) ?_ fun c3 eo=>ε.ret eo) fun r hr=>?_
 ·cases s == [] <;> exact ε.ret rfl
 ·subst hc; cases (s == []||decide ((s.length:Int)>32)) <;> exact ε.ret rfl
 ·subst br; cases (s == []||decide ((s.length:Int)>32)||s == [46]) <;> exact ε.ret rfl
 ·have e:(decide (1≤s.length)&&decide (s.length≤32)&&!(s == [46])&&!(s == [46,46]))=!r:=by
   subst hr;cases s with
   | nil=>rfl
   | cons a l =>
    simp only [c8,Bool.not_or];congr 1; congr 1;rw [show ((a::l)==([]:List UInt8))=false by rfl,decide_eq_true (by omega:1≤l.length+1),alA];congr 1;rw [←decide_not];congr 1;apply propext; omega
  refine ε.ite (fun h=>ε.ret ?_) fun h=>?_
  ·rw [e,h]; rfl
  ·rw [afv,e];refine ε.ret ?_;rw [gK.2 h,alA,KL]; rfl
end
section
def ε.eE {α:Type} {p:Prop} [Decidable p] {x y:Option α} {a b:α} (h:p→ε x (·=a)) (h':¬p→ε y (·=b)):ε (if p then x else y) (·=if p then a else b):=by
 split
 ·exact h ‹_›
 ·exact h' ‹_›
structure ST (B:Nat) (t:ψ):Prop where
 f:TF B t
 s:dX t.η
 e:∀n,n∈t.η→oq n.Ψ
section
variable {B:Nat} {t:ψ} {δ:Int→Nat}
def W.st (h:W t δ) (hf:TF B t):ST B t:=⟨hf,h.s,fun n hn=>(h.en n hn).s⟩
def ST.g (h:ST B t) (i:Int):oq (gD t.η i).Ψ:=by
 rcases H2 t.η i with hm | hm
 ·exact h.e _ hm
 ·rw [hm]; exact jY
def ST.n (h:ST B t) (hB:B≤100000):t.η.length≤1000000:=by have:=h.f.n; omega
def ST.Jy (h:ST B t) {n:ξ} {x c:Int} (hf:TF (B+1) ⟨cG n t.η,x,c⟩) (he:oq n.Ψ):ST (B+1) ⟨cG n t.η,x,c⟩:=by
 refine ⟨hf,zD h.s,fun y hy=>?_⟩
 rcases tg hy with rfl | ⟨hy,-⟩
 ·exact he
 ·exact h.e _ hy
def ahH {l:List aN} (h:oq l) (p:aN→Bool):oq (l.filter p):=Zd p h
def ST.Of (h:ST B t) (i:Int) (s:List UInt8):ST (B+1) (eK t i s):=h.Jy (h.f.qi i s) (ahH (h.g i) _)
def ST.up (h:ST B t) {C:Nat} (hC:B≤C):ST C t:=⟨h.f.up hC,h.s,h.e⟩
def Jn (h:ST B t) (hB:B≤100000) (i:Int):w_ ⟨t⟩ i=some (dz t.η i,⟨t⟩):=by
 refine ε.eq ?_;unfold w_;refine ε.ai (rE h.s (h.n hB) i) ?_;unfold dz;dsimp only;by_cases hg:(gN t.η i).isSome=true
 ·rw [if_pos hg];refine ε.cV (by rw [hg]; simp) ?_;by_cases hk:((gD t.η i).τ != 2)=true
  ·rw [if_pos hk,if_pos hk]; exact ε.ret rfl
  ·rw [if_neg hk,if_neg hk]; exact ε.ret rfl
 ·rw [if_neg hg]; exact ε.cond (by simpa using hg) (ε.ret rfl)
def Du (h:ST B t) (i:Int):oq (dz t.η i).1.Ψ:=by
 unfold dz;split
 ·split
  ·exact jY
  ·exact h.g i
 ·exact jY
def Jm (h:ST B t) (hB:B≤100000) (i:Int) (s:List UInt8):uV t i s=some (eQ t i s):=by
 refine ε.eq ?_;unfold uV eQ;refine ε.ai (Jn h hB i) ?_;dsimp only;refine ε.eE (fun _=>ε.ret rfl) fun _=>ε.ai (Fe s) (ε.eE (fun _=>ε.ret rfl) fun _=>?_);refine ε.ai (Fa (Du h i) (by have:=LO h.f i; omega) s) ?_;dsimp only;have hf:=Dj (s:=s) (Du h i);cases hx:(dz t.η i).1.Ψ.find? (fun e=>e.aM==s) with
 | none=>rw [hx] at hf; exact ε.cond (by rw [hf]; rfl) (ε.ret rfl)
 | some e=>rw [hx] at hf; exact ε.cV (by rw [hf]; simp) (ε.ai (cF (LF (Du h i) hx)) (ε.ret rfl))
def Wp {l:List ξ} {x c:Int} (hs:dX l) (hl:l.length≤1000000):∀{d:Nat} {i:Int},Deep l i d→∀out:List Int,out.length+d≤l.length+1→∃r,loop z8 (i,l,x,c,out)=some (out++r,⟨⟨l,x,c⟩⟩)∧r.length=d∧∀y,(y=i∨y∈r)↔jo l y i
 | _,_,.root,out,ho=>by
  refine ⟨[],?_,rfl,fun y=>?_⟩
  ·refine nS ?_;unfold z8;simp [Kv,Cat.out]
  ·refine ⟨fun h=>?_,fun h=>?_⟩
   ·rcases h with rfl | h
    ·exact .refl
    ·cases h
   ·cases h with
    | refl=>exact .inl rfl
    | step h1=>exact absurd rfl h1
 | _,i,.step (n:=n) (d:=d) h1 h2 h3 h4,out,ho=>by
  obtain ⟨r,e1,e2,e3⟩:=Wp (x:=x) (c:=c) hs hl h4 (out++[n.Up]) (by simp only [dq,c8,ib]; omega);refine ⟨n.Up::r,?_,by simp [e2],fun y=>?_⟩
  ·have hb:z8 (i,l,x,c,out)=some (.inl (n.Up,l,x,c,out++[n.Up])):=by
    unfold z8
    have hd:decide ((out.length:Int)≤(l.length:Int))=true:=by simp; omega
    have hg:=rE (t:=⟨l,x,c⟩) hs hl i
    have aO:(i != 1)=true:=by simpa using h1
    have hk:(n.τ != 2)=false:=by simp [h3]
    have ep:gD l i=n:=by unfold gD; rw [h2]; rfl
    simp only [aO,if_true,hd,cD,hg,h2,Option.isSome_some,ep,hk,Bool.not_true,nk,if_false];rw [ij (by simp only [c8,ib]; omega)]
   rw [sZ hb,e1,l9]; rfl
  ·refine ⟨fun h=>?_,fun h=>?_⟩
   ·rcases h with rfl | h
    ·exact .refl
    ·exact .step h1 h2 h3 ((e3 y).1 (bj.1 h))
   ·cases h with
    | refl=>exact .inl rfl
    | step g1 g2 g3 g4=>rw [h2] at g2; cases g2; exact .inr (bj.2 ((e3 y).2 g4))
def OM (h:ST B t) (hB:B≤100000) {i:Int} {d:Nat} (hd:Deep t.η i d):∃r,CL ⟨t⟩ i=some (r,⟨t⟩)∧r.length=d+1∧∀y,y∈r↔jo t.η y i:=by
 obtain ⟨r,e1,e2,e3⟩:=Wp (x:=t.Next) (c:=t.aj) h.s (h.n hB) hd [i] (by have:=ya hd; simp; omega);exact ⟨i::r,e1,by simp [e2],fun y=>by rw [bj]; exact e3 y⟩
def V5 (h:ST B t) (hB:B≤100000) {i:Int} {d:Nat} (hd:Deep t.η i d):CE ⟨t⟩ i=some ((d:Int),⟨t⟩):=by
 obtain ⟨r,e1,e2,-⟩:=OM h hB hd;refine ε.eq ?_;unfold CE;have:=ya hd;have:=h.n hB;refine ε.ai e1 (ε.Ω (by unfold Θ; dsimp only; omega) (ε.ret ?_));dsimp only;rw [e2,show (((d+1:Nat):Int)-1)=(d:Int) by omega]
def ad9 {l:List aN} (h:oq l) (s:List UInt8):(BL l s).isSome=fF (cS s) l:=by
 rw [Dj h];unfold BL;cases hx:l.findIdx? (fun e=>e.aM==s) with
 | none=>rw [DC hx]; rfl
 | some k=>obtain ⟨x,-,hf,-⟩:=sy hx; rw [hf]; rfl
def Wd (h:W t δ) (hf:TF B t) (hB:B≤100000) (i:Int) (s:List UInt8):CG ⟨t⟩ i s=some (sw t i s,⟨t⟩):=by
 have bU:=h.st hf;refine ε.eq ?_;unfold CG;refine ε.ai (Jn bU hB i) ?_;unfold sw;dsimp only;by_cases h0:((dz t.η i).2 != 0)=true
 ·rw [if_pos h0,if_pos h0]; exact ε.ret rfl
 rw [if_neg h0,if_neg h0];refine ε.ai (Fe s) ?_;by_cases h1:(!fY s)=true
 ·rw [if_pos h1,if_pos h1]; exact ε.ret rfl
 rw [if_neg h1,if_neg h1];refine ε.ai (Fa (Du bU i) (by have:=LO hf i; omega) s) ?_;dsimp only;rw [ad9 (Du bU i)];by_cases h2:fF (cS s) (dz t.η i).1.Ψ=true
 ·rw [if_pos h2,if_pos h2]; exact ε.ret rfl
 rw [if_neg h2,if_neg h2];obtain ⟨m,g1,g2,g3,g4⟩:=Dv (nr h0);obtain ⟨d,d1,d2,d3,d4⟩:=W.deep h g1 g2;rw [g3];unfold HY;rw [(dM g1).2,d4];refine ε.bind (R:=(·=((decide ((m.Ψ.length:Int)≥64)||decide ((d:Int)≥12)||decide (t.aj≥1099511627776)),t.η,t.Next,t.aj))) (ε.bind (R:=(·=((decide ((m.Ψ.length:Int)≥64)||decide ((d:Int)≥12)),t.η,t.Next,t.aj))) ?_ fun r hr=>?_) fun r hr=>?_
 ·refine ε.ite (fun e=>ε.ret (by rw [e]; rfl)) fun e=>?_;rw [gK.2 e];exact ε.ai (V5 bU hB d1) (ε.ret rfl)
 ·subst hr;dsimp only;refine ε.bind (R:=(·=(decide ((m.Ψ.length:Int)≥64)||decide ((d:Int)≥12)||decide (t.aj≥1099511627776)))) (ε.ite (fun e=>ε.ret (by rw [e]; rfl)) fun e=>ε.ret (by rw [gK.2 e]; rfl)) fun r hr=>ε.ret (by rw [hr])
 ·subst hr;dsimp only;by_cases h3:(decide ((m.Ψ.length:Int)≥64)||decide ((d:Int)≥12)||decide (t.aj≥1099511627776))=true
  ·rw [if_pos h3,if_pos h3]; exact ε.ret rfl
  ·rw [if_neg h3,if_neg h3]; exact ε.ret rfl
def V8 (h:ST B t) (hB:B≤100000) (i:Int) (s:List UInt8) (o:Int) (bw:∀e,e∈(gD t.η i).Ψ→e.aM≠s):Gj i s o ⟨t⟩=some ((j6 t i s o).Next,(j6 t i s o).aj,(j6 t i s o).η):=by
 refine ε.eq ?_;unfold Gj wW;refine ε.ai (rE h.s (h.n hB) i) ?_;have hE:=h.f.gE i;have hk:=Dk (cS s) (gD t.η i).Ψ;have hc:=h.f.c;refine ε.ai (Fa (h.g i) (by omega) s) ?_;dsimp only;refine ε.ai (se (by omega)) (ε.Ω ⟨by omega,by omega,by simp,by simp only [c8,ib]; omega⟩ (ε.Ω (by unfold Θ; omega) ?_));refine ε.ai (Wm (t:=⟨t.η,t.Next,t.aj+1⟩) h.s (h.n hB) _ _ _ _ _ _) (ε.ret ?_);unfold j6;dsimp only;rw [U9 (e:=⟨s,o,t.aj⟩) (h.g i) bw]
def V7 (h:ST B t) (hB:B≤100000) (i:Int) (s:List UInt8) (o:Int) (bw:∀e,e∈(gD t.η i).Ψ→e.aM≠s):Gi i s o t.Next t.aj t.η=some ((j6 t i s o).Next,(j6 t i s o).aj,(j6 t i s o).η):=V8 h hB i s o bw
def OH (h:ST B t) (hB:B≤100000) (i:Int) (s:List UInt8) {e:aN} (he:(gD t.η i).Ψ.find? (fun e=>e.aM==s)=some e):z7 i s ⟨t⟩=some ((eK t i s).η,(eK t i s).Next,(eK t i s).aj):=by
 refine ε.eq ?_;unfold z7 wW;refine ε.ai (rE h.s (h.n hB) i) ?_;have hE:=h.f.gE i;have hk:=LF (h.g i) he;have hl:=(fb.1 hk).1;have hF:=Dj (s:=s) (h.g i);rw [he] at hF;have hF:fF (cS s) (gD t.η i).Ψ=true:=hF;refine ε.ai (Fa (h.g i) (by omega) s) ?_;dsimp only;refine ε.cond hF (ε.ai (se (by omega)) (ε.Ω (by unfold Θ; omega) (ε.Ω ⟨by omega,by omega,by omega⟩ ?_)));refine ε.ai (Wm h.s (h.n hB) _ _ _ _ _ _) (ε.ret ?_);unfold eK;dsimp only;rw [SE (h.g i),if_pos hF]
def Wo (h:ST B t) (hB:B≤100000) {n:ξ} (hn:gN t.η n.ι=some n):CJ n ⟨t⟩=some ((kr t n.ι).η,(kr t n.ι).Next,(kr t n.ι).aj):=by
 refine ε.eq ?_;unfold CJ kr;rw [jd hn];have hL:=h.f.gL n.ι;rw [jd hn] at hL;by_cases hk:(n.τ==2)=true
 ·simp only [if_pos hk];exact ε.ai (V6 h.s (h.n hB) _) (ε.ret rfl)
 ·simp only [if_neg hk];exact ε.Ω (by unfold Θ; omega) (ε.ai (BS h.s (h.n hB) _) (ε.ret rfl))
end
section
variable {B:Nat} {t:ψ}
def aex (h:RT t) (hf:TF B t) (hB:B≤90000) (i:Int) (s:List UInt8) (k:Int):Cw t i s k=some (mw t i s k):=by
 have bU:=h.st hf;refine ε.eq ?_;unfold Cw mw;refine ε.bind (R:=(·=((k != 1)&&(k != 2)))) (ε.bind (R:=(·=((k != 1)&&(k != 2)))) (by cases k != 1 <;> exact ε.ret rfl) fun r hr=>ε.ret hr) fun r hr=>?_;subst hr;refine ε.eE (fun _=>ε.ret rfl) fun _=>ε.ai (Wd h hf (by omega) i s) ?_;dsimp only;refine ε.eE (fun _=>ε.ret rfl) fun he=>?_;refine ε.bind (R:=(·=(decide ((t.η.length:Int)≥200)||decide (t.Next≥1099511627776)))) (ε.bind (R:=(·=(decide ((t.η.length:Int)≥200)||decide (t.Next≥1099511627776)))) (ε.ite (fun e=>ε.ret (by rw [e]; rfl)) fun e=>ε.ret (by rw [gK.2 e]; rfl)) fun r hr=>ε.ret hr) fun r hr=>?_;subst hr;refine ε.eE (fun _=>ε.ret rfl) fun _=>?_;refine ε.bind (R:=(·=if (k==2)=true then i else 0)) (ε.eE (fun _=>ε.ret rfl) fun _=>ε.ret rfl) fun u hu=>?_;subst hu;have hx:=hf.x;refine ε.Ω (by unfold Θ; omega) ?_;refine ε.ai (BS (t:=⟨t.η,t.Next+1,t.aj⟩) h.s (bU.n (by omega)) _) ?_;dsimp only;obtain ⟨m,g1,g2,g3,g4,g5,g6⟩:=HG (nr he)
 have aO:i≠t.Next:=fun e=>by have:=(h.lo m (dM g1).1).2; have:=(dM g1).2; omega
 have h2:ST (B+1) ⟨cG ⟨t.Next,k,1,[],[],if (k==2)=true then i else 0⟩ t.η,t.Next+1,t.aj⟩:=bU.Jy (hf.RC k _) jY
 have hg:gD (cG ⟨t.Next,k,1,[],[],if (k==2)=true then i else 0⟩ t.η) i=m:=by
  unfold gD; rw [lv,if_neg aO,g1]; rfl
 refine ε.ai (V7 h2 (by omega) i s t.Next (by dsimp only; rw [hg]; exact g4)) (ε.ret rfl)
def aeY (h:RT t) (hf:TF B t) (hB:B≤90000) (i to:Int) (s:List UInt8):Cy t i to s=some (sY t i to s):=by
 have bU:=h.st hf;refine ε.eq ?_;unfold Cy sY;refine ε.ai (rE h.s (bU.n (by omega)) i) ?_;dsimp only;refine ε.bind (R:=(·=(!(gN t.η i).isSome||((gD t.η i).τ==1&&(gD t.η i).bb==0)))) (ε.bind (R:=(·=(!(gN t.η i).isSome||((gD t.η i).τ==1&&(gD t.η i).bb==0)))) ?_ fun r hr=>ε.ret hr) fun r hr=>?_
 ·refine ε.ite (fun e=>ε.ret (by rw [e]; rfl)) fun e=>?_;rw [gK.2 e];exact ε.bind (R:=(·=((gD t.η i).τ==1&&(gD t.η i).bb==0))) (by cases (gD t.η i).τ==1 <;> exact ε.ret rfl) fun r hr=>ε.ret (by rw [hr]; rfl)
 subst hr;refine ε.eE (fun _=>ε.ret rfl) fun hi=>ε.eE (fun _=>ε.ret rfl) fun hk=>ε.ai (Wd h hf (by omega) to s) ?_;dsimp only;refine ε.eE (fun _=>ε.ret rfl) fun he=>?_;have hL:=hf.gL i;refine ε.Ω (by unfold Θ; omega) (ε.ai (BS h.s (bU.n (by omega)) _) ?_);dsimp only;obtain ⟨m,g1,g2,g3,g4,g5,g6⟩:=HG (nr he)
 obtain ⟨n,hn⟩:∃n,gN t.η i=some n:=by
  cases hg:gN t.η i with
  | none=>rw [hg] at hi; simp at hi
  | some n=>exact ⟨n,rfl⟩
 rw [jd hn] at hk ⊢;have rj:=(dM hn).2
 have aO:to≠n.ι:=fun e=>by
  rw [e,rj,hn] at g1; cases g1; simp [g2] at hk
 have A6:=hf.Vs i;rw [jd hn] at A6;have Mt:=bU.g i;rw [jd hn] at Mt;have h2:ST (B+1) ⟨cG ⟨n.ι,n.τ,n.bb+1,n.aC,n.Ψ,n.Up⟩ t.η,t.Next,t.aj⟩:=bU.Jy A6 Mt
 have hg:gD (cG ⟨n.ι,n.τ,n.bb+1,n.aC,n.Ψ,n.Up⟩ t.η) to=m:=by
  unfold gD; rw [lv,if_neg aO,g1]; rfl
 exact ε.ai (V7 h2 (by omega) to s i (by dsimp only; rw [hg]; exact g4)) (ε.ret rfl)
def ae8 (h:RT t) (hf:TF B t) (hB:B≤90000) (i:Int) (s:List UInt8):CB t i s=some (qs t i s):=by
 have bU:=h.st hf;refine ε.eq ?_;unfold CB qs;refine ε.ai (Jm bU (by omega) i s) ?_;refine ε.eE (fun _=>ε.ret rfl) fun hl=>ε.ai (rE h.s (bU.n (by omega)) _) ?_;dsimp only;refine ε.eE (fun _=>ε.ret rfl) fun hE=>?_;obtain ⟨m,e,g1,g2,g3,g4,g5,g6⟩:=look_ok (nr hl);refine ε.ai (OH bU (by omega) i s (by rw [g3]; exact g5)) ?_;dsimp only;rw [g6];obtain ⟨k1,k2,k3⟩:=W.get h g1;have jM:=qF g5;obtain ⟨x,hx⟩:=nn.1 (h.cl m k1 e jM);have NV:e.ι≠i:=W.Jd h g1 g2 jM;rw [jd hx];have U0:=(dM hx).2
 have gl:gN (eK t i s).η x.ι=some x:=by rw [U0,yl g1,if_neg NV]; exact hx
 refine ε.ai (Wo (t:=eK t i s) (bU.Of i s) (by omega) gl) (ε.ret ?_);rw [U0]
def ae3 (h:RT t) (hf:TF B t) (hB:B≤90000) (i:Int) (x:List UInt8):zY t i x=some (nX t i x):=by
 have bU:=h.st hf;refine ε.eq ?_;unfold zY nX xV;refine ε.ai (rE h.s (bU.n (by omega)) i) ?_;dsimp only;refine ε.eE (fun _=>ε.ret rfl) fun _=>ε.eE (fun _=>ε.ret rfl) fun _=>ε.eE (fun _=>ε.ret rfl) fun hx=>?_;simp only [decide_eq_true_eq] at hx;refine ε.ai (se (l:=x) (K:=1) (by omega)) ?_;exact ε.ai (BS h.s (bU.n (by omega)) _) (ε.ret rfl)
def VV (h:dX t.η) (hf:TF B t) (hB:B≤90000) (i:Int):zX t i=some (vS t i):=by
 have hn:=hf.n;refine ε.eq ?_;unfold zX vS;refine ε.ai (rE h (by omega) i) ?_;dsimp only;refine ε.eE (fun _=>ε.ret rfl) fun _=>ε.eE (fun _=>ε.ret rfl) fun _=>ε.eE (fun _=>ε.ret rfl) fun hx=>?_;exact ε.ai (V6 h (by omega) _) (ε.ret rfl)
end
end
section
def adM {β σ ρ:Type} {b:List β} {B:Int×σ→Option ((Int×σ)⊕ρ)} (x:σ) (p:β→Bool) (yes:Nat→ρ) (no:ρ)
  (h1:∀(n:Nat) (a:β),b[n]?=some a→n<b.length→B ((n:Int),x)=if p a then some (.inr (yes n)) else some (.inl ((n:Int)+1,x)))
  (h2:B ((b.length:Int),x)=some (.inr no)) :
  loop B (0,x)=some (match b.findIdx? p with | some n=>yes n | none=>no):=by
 have key:∀(l:List β) (n:Nat),b.drop n=l→n≤b.length→loop B ((n:Int),x)=some (match l.findIdx? p with | some k=>yes (n+k) | none=>no):=by
  intro l;induction l with
  | nil =>
   intro n hd hn
   have:n=b.length:=by have:=congrArg List.length hd; simp at this; omega
   subst this;exact nS h2
  | cons a l ih =>
   intro n hd hn
   have Φ:n<b.length:=by
    rcases gG n b.length with h | h
    ·exact h
    ·rw [qC h] at hd; cases hd
   rw [xl Φ] at hd;injection hd with hx hl;have h:=h1 n a (by rw [bT Φ,hx]) Φ;rw [List.findIdx?_cons];cases hp:p a with
   | true =>
    rw [hp] at h;rw [nS h];simp
   | false =>
    rw [hp] at h;rw [sZ h,show ((n:Int)+1)=((n+1:Nat):Int) from rfl,ih (n+1) hl Φ];cases hf:l.findIdx? p with
    | none=>simp
    | some k=>simp [Nat.add_comm,Nat.add_left_comm]
 have:=key b 0 rfl (lO _);simpa using this
def E6 {α:Type} (l:List α) (p:α→Bool):decide (oI (l.findIdx? p)≥0)=l.any p:=by
 rw [VL,List.findIdx?_isSome]
def VU (l:List Int) (y:Int) (hl:l.length≤1000000):Cj l y=some (l.any fun x=>y==x):=by
 have:FZ l y=some (oI (l.findIdx? fun x=>y==x)):=by
  unfold FZ Xn;rw [Oi (b:=l) (fun x=>y==x) (fun n _=>(n:Int)) (-1)]
  ·cases h:l.findIdx? fun x=>y==x with
   | none=>rfl
   | some n=>obtain ⟨x,hx,-⟩:=sy h; simp only [hx]; rfl
  ·intro n x hx Φ;unfold F6
   have hd:decide ((n:Int)<(l.length:Int))=true:=by simpa using Φ
   simp only [hd,if_true,cF hx,cD];split
   ·rfl
   ·rw [ij (by unfold Θ; omega)]
  ·unfold F6;simp [Ke,Cat.out]
 unfold Cj;rw [this,cD,E6]
section
variable {B:Nat} {t:ψ}
def Lu {i x:Int} {d:Nat} (h:Deep t.η i d):j4 t.η i x=true↔jo t.η x i :=
 ⟨fun hb=>X3 h hb,fun hu=>Lt hu h (by have:=ya h; omega)⟩
noncomputable def sh (l:List ξ) (i a:Int) (n:ξ):Bool:=(n.τ==2&&j4 l n.ι i)&&decide (a+(il l 201 n.ι:Int)-(il l 201 i:Int)+(if decide ((n.Ψ.length:Int)>0)=true then 1 else 0)>12)
def ab8 (l:List ξ) (i a:Int):decide (sK l i a>12)=l.any (sh l i a):=by
 have key:∀(r:List ξ) (m:Int),(r.foldl (fun m n=>if (n.τ==2&&j4 l n.ι i)=true then max m (a+(il l 201 n.ι:Int)-(il l 201 i:Int)+if decide ((n.Ψ.length:Int)>0)=true then 1 else 0) else m) m>12)↔(m>12∨r.any (sh l i a)=true):=by
  intro r;induction r with
  | nil=>intro m; simp
  | cons x r ih =>
   intro m;rw [xn,ih,List.any_cons,tT]
   have:(sh l i a x=true)↔(x.τ==2&&j4 l x.ι i)=true∧(a+(il l 201 x.ι:Int)-(il l 201 i:Int)+(if decide ((x.Ψ.length:Int)>0)=true then 1 else 0)>12):=by
    unfold sh; rw [bJ,decide_eq_true_eq]
   rw [this];by_cases hc:(x.τ==2&&j4 l x.ι i)=true
   ·rw [if_pos hc];generalize (a+(il l 201 x.ι:Int)-(il l 201 i:Int)+(if decide ((x.Ψ.length:Int)>0)=true then 1 else 0))=v;constructor
    ·rintro (h | h)
     ·rcases (by omega:m>12∨v>12) with h | h
      ·exact .inl h
      ·exact .inr (.inl ⟨hc,h⟩)
     ·exact .inr (.inr h)
    ·rintro (h | ⟨-,h⟩ | h)
     ·exact .inl (by omega)
     ·exact .inl (by omega)
     ·exact .inr h
   ·rw [if_neg hc];constructor
    ·rintro (h | h)
     ·exact .inl h
     ·exact .inr (.inr h)
    ·rintro (h | ⟨h,-⟩ | h)
     ·exact .inl h
     ·exact absurd h hc
     ·exact .inr h
 have h:=key l 0;unfold sK;rw [uZ,decide_eq_true_eq,h];simp
def afe (h:RT t) (hf:TF B t) (hB:B≤90000) {i a:Int} {m:ξ} (hi:gN t.η i=some m) (hm:m.τ=2) (ha:0≤a∧a≤1000) {n:ξ} (hn:n∈t.η):CD n ⟨t⟩ a (il t.η 201 i:Int) i=some (sh t.η i a n,t.η,t.Next,t.aj):=by
 have bU:=h.st hf;refine ε.eq ?_;unfold CD sh;by_cases hk:(n.τ != 2)=true
 ·rw [if_pos hk,show (n.τ==2)=false by simpa using hk]; exact ε.ret rfl
 rw [if_neg hk]
 have fx:n.τ=2:=by simpa using hk
 obtain ⟨d,d1,d2,d3,d4⟩:=W.deep h (ym h.s hn) fx;obtain ⟨d',e1,e2,e3,e4⟩:=W.deep h hi hm;obtain ⟨r,r1,r2,r3⟩:=OM bU (by omega) d1;refine ε.ai r1 ?_;dsimp only;rw [e4,d4,r2];refine ε.Ω (by unfold Θ; omega) (ε.Ω (by unfold Θ; omega) (ε.Ω (by unfold Θ; omega) ?_))
 have hc:(r.any fun x=>i==x)=j4 t.η n.ι i:=by
  rw [uZ,Lu d1,←r3 i]; simp
 have cJ:(n.τ==2)=true:=by simpa using fx
 refine ε.bind (R:=(·=(j4 t.η n.ι i&&decide (a+(d:Int)-(d':Int)+(if decide ((n.Ψ.length:Int)>0)=true then 1 else 0)>12)))) (ε.ai (VU r i (by omega)) (ε.bind (R:=(·=(j4 t.η n.ι i&&decide (a+(d:Int)-(d':Int)+(if decide ((n.Ψ.length:Int)>0)=true then 1 else 0)>12)))) ?_ fun v hv=>ε.ret hv)) fun v hv=>ε.ret (by rw [hv,cJ,KL]);rw [hc];refine ε.ite (fun hb=>?_) fun hb=>ε.ret (by rw [gK.2 hb]; rfl);rw [hb,KL];refine ε.bind (R:=(·=decide (a+(d:Int)-(d':Int)+(if decide ((n.Ψ.length:Int)>0)=true then 1 else 0)>12))) ?_ fun v hv=>ε.ret hv;refine ε.ite (fun h1=>ε.ret ?_) fun h1=>?_
 ·rw [decide_eq_true_eq] at h1;symm; rw [decide_eq_true_eq]; split <;> omega
 ·rw [decide_eq_true_eq] at h1;refine ε.bind (R:=(·=decide (a+(d:Int)-(d':Int)+(if decide ((n.Ψ.length:Int)>0)=true then 1 else 0)>12))) ?_ fun v hv=>ε.ret hv;refine ε.ite (fun h2=>ε.ret ?_) fun h2=>ε.ret ?_
  ·rw [beq_iff_eq] at h2;by_cases h3:(n.Ψ.length:Int)>0
   ·rw [decide_eq_true h3,if_pos rfl]; symm; rw [decide_eq_true_eq]; omega
   ·rw [decide_eq_false h3,if_neg (by simp)]; symm; rw [decide_eq_false_iff_not]; omega
  ·rw [beq_iff_eq] at h2;symm; rw [decide_eq_false_iff_not]; split <;> omega
def aff (h:RT t) (hf:TF B t) (hB:B≤90000) {i a:Int} {m:ξ} (hi:gN t.η i=some m) (hm:m.τ=2) (ha:0≤a∧a≤1000):Gh ⟨t⟩ i a=some (decide (sK t.η i a>12),⟨t⟩):=by
 have bU:=h.st hf;obtain ⟨d',e1,e2,e3,e4⟩:=W.deep h hi hm;have hl:=hf.n;refine ε.eq ?_;unfold Gh;refine ε.ai (V5 bU (by omega) e1) ?_;rw [ab8];dsimp only;unfold J8 Kb Xl;rw [←e4];have yP:=adM (b:=t.η) (B:=Cl t.η a (il t.η 201 i:Int) i) (t.η,t.Next,t.aj) (sh t.η i a) (fun n=>((n:Int),t.η,t.Next,t.aj)) (-1,t.η,t.Next,t.aj) ?_ ?_
 ·refine ε.ai (a:=(t.η.any (sh t.η i a),t.η,t.Next,t.aj)) ?_ (ε.ret rfl);show ((loop _ _).bind _)=_;rw [yP];have:=E6 t.η (sh t.η i a);cases hx:t.η.findIdx? (sh t.η i a) with
  | none=>rw [hx] at this; rw [←this]; rfl
  | some k=>rw [hx] at this; rw [←this]; rfl
 ·intro n x hx Φ;unfold Cl
  have hd:decide ((n:Int)<(t.η.length:Int))=true:=by simpa using Φ
  simp only [hd,if_true,cF hx,cD];have hp:CD x (⟨(⟨t.η,t.Next,t.aj⟩:ψ)⟩:de) a (il t.η 201 i:Int) i=_:=afe h hf hB hi hm ha (mc hx);rw [hp,cD];dsimp only;split
  ·rfl
  ·rw [ij (by unfold Θ; omega)]
 ·unfold Cl;simp [Kc,Cat.out]
end
end
section
section
variable {B:Nat} {t:ψ}
def BO (x y:ξ):Int:=if (x.τ==2&&y.τ != 2)=true then 73 else if (x.τ != 2&&y.τ==2)=true then 72 else if decide ((y.Ψ.length:Int)>0)=true then 74 else 0
def afx (x y:ξ):Gk x y=some (BO x y):=by
 refine ε.eq ?_;unfold Gk BO;refine ε.bind (R:=(·=(x.τ==2&&y.τ != 2))) (ε.bind (R:=(·=(x.τ==2&&y.τ != 2))) (by cases x.τ==2 <;> exact ε.ret rfl) fun r hr=>ε.ret hr) fun r hr=>?_;subst hr;refine ε.eE (fun _=>ε.ret rfl) fun _=>?_;refine ε.bind (R:=(·=(x.τ != 2&&y.τ==2))) (ε.bind (R:=(·=(x.τ != 2&&y.τ==2))) (by cases x.τ != 2 <;> exact ε.ret rfl) fun r hr=>ε.ret hr) fun r hr=>?_;subst hr;exact ε.eE (fun _=>ε.ret rfl) fun _=>ε.eE (fun _=>ε.ret rfl) fun _=>ε.ret rfl
def ae0 (h:RT t) (hf:TF B t) (hB:B≤90000) (from_:Int) (s:List UInt8) (to:Int) (aJ:List UInt8):Cz t from_ s to aJ=some (qj t from_ s to aJ):=by
 have bU:=h.st hf;have hn:=bU.n (by omega);refine ε.eq ?_;unfold Cz qj;refine ε.ai (Jm bU (by omega) from_ s) (ε.eE (fun _=>ε.ret rfl) fun hL=>ε.ai (Jn bU (by omega) to) ?_);dsimp only;refine ε.eE (fun _=>ε.ret rfl) fun hD=>ε.ai (Fe aJ) (ε.eE (fun _=>ε.ret rfl) fun hR=>?_);obtain ⟨mf,ef,a1,a2,a3,a4,a5,a6⟩:=look_ok (nr hL);obtain ⟨md,b1,b2,b3,b4⟩:=Dv (nr hD);rw [a6,b3];obtain ⟨k1,k2,k3⟩:=W.get h a1;obtain ⟨q1,q2,q3⟩:=W.get h b1;have jM:=qF a5;obtain ⟨x,hx⟩:=nn.1 (h.cl mf k1 ef jM);obtain ⟨x1,x2,x3⟩:=W.get h hx;have EH:ef.ι≠from_:=W.Jd h a1 a2 jM;obtain ⟨dt,t1,t2,t3,t4⟩:=W.deep h b1 b2;have NA:=bU.e _ q1;have hEl:=hf.e _ q1
 have jQ:bY t to aJ=match md.Ψ.find? (fun e=>e.aM==aJ) with | some e=>e.ι | none=>0:=by unfold bY; rw [b3] <;> rfl
 have hYf:fF (cS aJ) md.Ψ=(bY t to aJ != 0)∧(gD t.η (bY t to aJ)).ι=bY t to aJ∧(gN t.η (bY t to aJ)).isSome=(bY t to aJ != 0):=by
  have hF:=Dj (s:=aJ) NA;rw [jQ];cases fG:md.Ψ.find? (fun e=>e.aM==aJ) with
  | none =>
   rw [fG] at hF
   have h0:gN t.η 0=none:=yn.2 fun n hn=>by have:=(h.lo n hn).1; omega
   refine ⟨hF,?_,?_⟩
   ·dsimp only; unfold gD; rw [h0]; rfl
   ·dsimp only; rw [h0]; rfl
  | some ey =>
   rw [fG] at hF;have Ei:=qF fG;obtain ⟨ny,kS⟩:=nn.1 (h.cl md q1 ey Ei);have hyi:=(dM kS).2
   have aO:(ey.ι != 0)=true:=by have:=(h.lo ny (dM kS).1).1; simp; omega
   refine ⟨by dsimp only; rw [aO]; exact hF,by dsimp only; rw [jd kS]; exact hyi,by dsimp only; rw [kS,aO]; rfl⟩
 obtain ⟨y1,y2,y3⟩:=hYf;refine ε.ai (rE h.s hn ef.ι) ?_;dsimp only;rw [x3];refine ε.ai (Fa NA (by omega) aJ) ?_;dsimp only;rw [y1];refine ε.ai (a:=(t.η,t.Next,t.aj,(gD t.η (bY t to aJ)).ι,(gD t.η (bY t to aJ)).τ,(gD t.η (bY t to aJ)).bb,(gD t.η (bY t to aJ)).aC,(gD t.η (bY t to aJ)).Ψ,(gD t.η (bY t to aJ)).Up)) ?_ ?_
 ·refine ε.eq (ε.ite (fun e=>?_) fun e=>?_)
  ·cases fG:md.Ψ.find? (fun e=>e.aM==aJ) with
   | none=>rw [fG] at jQ; rw [jQ] at e; simp at e
   | some ey =>
    rw [fG] at jQ;refine ε.ai (cF (LF NA fG)) (ε.ai (rE h.s hn ey.ι) (ε.ret ?_));dsimp only;rw [jQ]
  ·have e0:bY t to aJ=0:=by simpa using e
   refine ε.ret ?_
   have h0:gD t.η 0=jV:=by unfold gD; rw [yn.2 fun n hn=>by have:=(h.lo n hn).1; omega]; rfl
   rw [e0,h0]; rfl
 dsimp only;rw [y2];refine ε.eE (fun _=>ε.ret rfl) fun hy=>?_
 have hy:bY t to aJ≠ef.ι:=by simpa using hy
 obtain ⟨r,r1,r2,r3⟩:=OM bU (by omega) t1;refine ε.ai r1 ?_;dsimp only
 have hc:(r.any fun x=>ef.ι==x)=j4 t.η to ef.ι:=by
  rw [uZ,Lu t1,←r3 ef.ι]; simp
 refine ε.bind (R:=(·=(x.τ==2&&j4 t.η to ef.ι))) (ε.bind (R:=(·=(x.τ==2&&j4 t.η to ef.ι))) (ε.ite (fun e=>ε.ai (VU r ef.ι (by omega)) (ε.ret (by rw [hc,e]; rfl))) fun e=>ε.ret (by rw [gK.2 e]; rfl)) fun v hv=>ε.ret hv) fun v hv=>?_;subst hv;refine ε.eE (fun _=>ε.ret rfl) fun yP=>?_
 have MK:sd t x (bY t to aJ)=if (bY t to aJ != 0)=true then BO x (gD t.η (bY t to aJ)) else 0:=by
  unfold sd BO;rw [y3];by_cases e:(bY t to aJ != 0)=true
  ·rw [if_pos e,if_neg (by rw [e]; simp)]
  ·rw [if_neg e,if_pos (by simpa using e)]
 have hJ:sd t x (bY t to aJ)=0→ε (CA (↑(cY (cS aJ) md.Ψ),bY t to aJ != 0) to from_ (dz t.η to,⟨t⟩) (r,⟨t⟩) ((x,(gN t.η ef.ι).isSome),⟨t⟩) (eQ t from_ s) t s aJ (t.η,t.Next,t.aj,bY t to aJ,(gD t.η (bY t to aJ)).τ,(gD t.η (bY t to aJ)).bb,(gD t.η (bY t to aJ)).aC,(gD t.η (bY t to aJ)).Ψ,(gD t.η (bY t to aJ)).Up) ())
   (·=if I7 t ef.ι from_ to (bY t to aJ)=true then (t,0,76) else (j6 (kg t (iU t ef.ι from_ s to aJ (bY t to aJ)) ef.ι to) to aJ ef.ι,bY t to aJ,0)):=by
  intro da;unfold CA I7;rw [b3,x3,t4,a6];refine ε.bind (R:=(·=(((bY t to aJ==0)&&(to != from_))&&decide ((md.Ψ.length:Int)≥64)))) ?_ fun v hv=>?_
  ·refine ε.bind (R:=(·=((bY t to aJ==0)&&(to != from_)))) (ε.ite (fun e=>ε.ret ?_) fun e=>ε.ret ?_) fun v hv=>ε.bind (R:=(·=(((bY t to aJ==0)&&(to != from_))&&decide ((md.Ψ.length:Int)≥64)))) ?_ fun v hv=>ε.ret hv
   ·have e:bY t to aJ=0:=by simpa using e
    rw [e]; simp
   ·have e:¬bY t to aJ=0:=by simpa using e
    rw [beq_eq_false_iff_ne.2 e]; rfl
   ·subst hv;exact ε.ite (fun e=>ε.ret (by rw [e]; rfl)) fun e=>ε.ret (by rw [gK.2 e]; rfl)
  subst hv;generalize qZ:(((bY t to aJ==0)&&(to != from_))&&decide ((md.Ψ.length:Int)≥64))=bA
  have hlen:decide ((r.length:Int)>12)=decide ((dt:Int)≥12):=by rw [r2,decide_eq_decide]; omega
  have q7:=ya t1
  have aR:(r.length:Int)=(dt:Int)+1:=by rw [r2]; omega
  dsimp only;rw [hlen,aR];generalize hbB:decide ((dt:Int)≥12)=bB;refine ε.bind (R:=(·=((bA||bB||((x.τ==2)&&decide (sK t.η ef.ι ((dt:Int)+1)>12))||decide (t.aj≥1099511627776)),t.η,t.Next,t.aj))) ?_ fun v hv=>?_
  ·refine ε.bind (R:=(·=(bA||bB))) (by cases bA <;> exact ε.ret rfl) fun v hv=>?_;subst hv;refine ε.bind (R:=(·=((bA||bB||((x.τ==2)&&decide (sK t.η ef.ι ((dt:Int)+1)>12))),t.η,t.Next,t.aj))) ?_ fun v hv=>?_
   ·refine ε.ite (fun e=>ε.ret (by rw [e]; rfl)) fun e=>?_;rw [gK.2 e,Bool.false_or];refine ε.bind (R:=(·=(((x.τ==2)&&decide (sK t.η ef.ι ((dt:Int)+1)>12)),t.η,t.Next,t.aj))) (ε.ite (fun e=>?_) fun e=>ε.ret (by rw [gK.2 e]; rfl)) fun v hv=>ε.ret (by rw [hv]);rw [e,KL];exact ε.ai (aff h hf hB hx (by simpa using e) (by omega)) (ε.ret rfl)
   ·subst hv;dsimp only;refine ε.bind (R:=(·=(bA||bB||((x.τ==2)&&decide (sK t.η ef.ι ((dt:Int)+1)>12))||decide (t.aj≥1099511627776)))) (ε.ite (fun e=>ε.ret (by rw [e]; rfl)) fun e=>ε.ret (by rw [gK.2 e]; rfl)) fun v hv=>ε.ret (by rw [hv])
  subst hv;dsimp only;refine ε.eE (fun _=>ε.ret rfl) fun A8=>?_
  have abw:bA=false:=by cases bA <;> simp_all
  rw [abw] at qZ;have wj:x.τ=2→¬jo t.η ef.ι to:=fun hk hu=>yP (by rw [(Lu t1).2 hu]; simp [hk])
  have zg:ef.ι≠to:=fun e=>by
   rw [e,b1] at hx; cases hx;exact wj b2 (e▸.refl)
  have TY:∀ey,md.Ψ.find? (fun e=>e.aM==aJ)=some ey→∃ny,bY t to aJ=ey.ι∧gN t.η ey.ι=some ny∧ny.Ψ=[]:=fun ey fG=>by
   rw [fG] at jQ;have Ei:=qF fG;obtain ⟨ny,kS⟩:=nn.1 (h.cl md q1 ey Ei);refine ⟨ny,jQ,kS,?_⟩
   have e1:(bY t to aJ != 0)=true:=by rw [←y3,jQ]; dsimp only; rw [kS]; rfl
   rw [MK,if_pos e1] at da;rw [jQ] at da;dsimp only at da;rw [jd kS] at da;unfold BO at da;split at da
   ·cases da
   split at da
   ·cases da
   split at da
   ·cases da
   rename_i h0;rw [decide_eq_true_eq] at h0;exact rV.1 (by omega)
  have hY:(∀e,e∈md.Ψ→e.aM≠aJ)∧bY t to aJ=0∧(to≠from_→md.Ψ.length<64)∨∃ey ny,md.Ψ.find? (fun e=>e.aM==aJ)=some ey∧bY t to aJ=ey.ι∧gN t.η ey.ι=some ny∧ny.Ψ=[]:=by
   cases fG:md.Ψ.find? (fun e=>e.aM==aJ) with
   | none =>
    rw [fG] at jQ;refine .inl ⟨fun e he=>by have:=GG.1 fG e he; simpa using this,jQ,fun aO=>?_⟩;rw [jQ] at qZ
    have:(to != from_)=true:=by simpa using aO
    rw [this] at qZ;simp at qZ; omega
   | some ey=>obtain ⟨ny,n1,n2,n3⟩:=TY ey fG; exact .inr ⟨ey,ny,rfl,n1,n2,n3⟩
  obtain ⟨w,-,wx,mu,u1,u2,u3,u4⟩:=VG h a1 a2 a5 b1 b2 hx EH zg hy hY;refine ε.ai (OH bU (by omega) from_ s (by rw [a3]; exact a5)) ?_;dsimp only;refine ε.ai (a:=((iU t ef.ι from_ s to aJ (bY t to aJ)).η,(iU t ef.ι from_ s to aJ (bY t to aJ)).Next,(iU t ef.ι from_ s to aJ (bY t to aJ)).aj)) ?_ ?_
  ·refine ε.eq ?_;unfold iU;by_cases e:(bY t to aJ != 0)=true
   ·rw [if_pos e,if_pos e];cases fG:md.Ψ.find? (fun e=>e.aM==aJ) with
    | none=>rw [fG] at jQ; rw [jQ] at e; simp at e
    | some ey =>
     obtain ⟨ny,n1,n2,n3⟩:=TY ey fG;have Ei:=qF fG;have IK:ey.ι≠to:=W.Jd h b1 b2 Ei
     have IJ:ey.ι≠from_:=fun e=>by
      rw [e,a1] at n2; cases n2; rw [n3] at jM; cases jM
     have g1:=yl a1 s;have s1:ST (B+1) (eK t from_ s):=bU.Of from_ s
     obtain ⟨m1,c1,c2⟩:∃m1,gN (eK t from_ s).η to=some m1∧m1.Ψ.find? (fun e=>e.aM==aJ)=some ey:=by
      rw [g1];by_cases e:to=from_
      ·rw [if_pos e];rw [e,a1] at b1; cases b1;refine ⟨_,rfl,?_⟩;unfold Gl;dsimp only
       have aO:aJ≠s:=fun e=>by
        rw [e,a5] at fG; cases fG;exact hy n1
       rw [Zg]
       have:(fun a:aN=>decide ((!(a.aM==s))=true∧(a.aM==aJ)=true))=fun a=>a.aM==aJ:=by
        funext a;by_cases ha:a.aM=aJ
        ·rw [ha]; simp [aO]
        ·simp [ha]
       rw [this]; exact fG
      ·rw [if_neg e]; exact ⟨md,b1,fG⟩
     refine ε.ai (OH (t:=eK t from_ s) s1 (by omega) to aJ (by rw [jd c1]; exact c2)) ?_;dsimp only;rw [n1,jd n2];have rj:=(dM n2).2
     have aI:gN (eK (eK t from_ s) to aJ).η ny.ι=some ny:=by rw [rj,yl c1,if_neg IK,g1,if_neg IJ,n2]
     have Uy:=Wo (t:=eK (eK t from_ s) to aJ) (s1.Of to aJ) (by omega) aI;rw [rj] at Uy
     have abZ:(⟨ey.ι,ny.τ,ny.bb,ny.aC,ny.Ψ,ny.Up⟩:ξ)=ny:=by rw [←rj]
     rw [abZ];exact ε.ai Uy (ε.ret rfl)
   ·rw [if_neg e,if_neg e]; exact ε.ret rfl
  dsimp only;have sT:ST (B+3) (iU t ef.ι from_ s to aJ (bY t to aJ)):=w.st (hf.iU _ _ _ _ _ _);generalize iU t ef.ι from_ s to aJ (bY t to aJ)=T at *
  have sU:ST (B+4) (kg t T ef.ι to):=by
   have hu:=hf.kg (C:=B+3) sT.f (by omega) ef.ι to;unfold kg at hu ⊢;split
   ·rename_i hk; rw [if_pos hk] at hu; exact sT.Jy hu (bU.g _)
   ·exact sT.up (by omega)
  refine ε.ai (a:=((kg t T ef.ι to).η,(kg t T ef.ι to).Next,(kg t T ef.ι to).aj)) ?_ ?_
  ·refine ε.eq ?_;unfold kg;rw [x3];by_cases e:(x.τ==2)=true
   ·simp only [if_pos e];exact ε.ai (BS sT.s (sT.n (by omega)) _) (ε.ret rfl)
   ·simp only [if_neg e]; exact ε.ret rfl
  dsimp only
  have hgU:gD (kg t T ef.ι to).η to=mu:=by
   unfold kg;rw [x3];split
   ·unfold gD; dsimp only; rw [lv]; dsimp only; rw [x2,if_neg (j1 zg),u1]; rfl
   ·exact jd u1
  exact ε.ai (V8 (t:=kg t T ef.ι to) sU (by omega) to aJ ef.ι (by rw [hgU]; exact u3)) (ε.ret rfl)
 by_cases e:(bY t to aJ != 0)=true
 ·rw [if_pos e];refine ε.ai (afx _ _) ?_
  have e1:sd t x (bY t to aJ)=BO x (gD t.η (bY t to aJ)):=by rw [MK,if_pos e]
  have e2:(⟨bY t to aJ,(gD t.η (bY t to aJ)).τ,(gD t.η (bY t to aJ)).bb,(gD t.η (bY t to aJ)).aC,(gD t.η (bY t to aJ)).Ψ,(gD t.η (bY t to aJ)).Up⟩:ξ)=gD t.η (bY t to aJ):=by
   have:∀n:ξ,n.ι=bY t to aJ→(⟨bY t to aJ,n.τ,n.bb,n.aC,n.Ψ,n.Up⟩:ξ)=n:=fun n hn=>by rw [←hn]
   exact this _ y2
  rw [e2,←e1];refine ε.eE (fun _=>ε.ret rfl) fun hc=>?_;exact hJ (nr hc)
 ·rw [if_neg e]
  have e1:sd t x (bY t to aJ)=0:=by rw [MK,if_neg e]
  have e3:=hJ e1;rw [e1,if_neg (by simp)];exact e3
end
end
section
def tw (l:List UInt8):List UInt8:=l.takeWhile (· != 47)
def dw (l:List UInt8):List UInt8:=l.dropWhile (· != 47)
def LR (l:List UInt8):(dw l).length≤l.length:=(List.dropWhile_suffix _).length_le
def l6 (p:List UInt8):Option (List (List UInt8)) :=
 match p with
 | []=>some []
 | a::r=>if a=47∧fY (tw r)=true then (l6 (dw r)).map (tw r::·) else none
termination_by p.length
decreasing_by have:=LR r; simp only [c8]; omega
def Kh:l6 []=some []:=by rw [l6]
def F9 (a:UInt8) (r:List UInt8):l6 (a::r)=if a=47∧fY (tw r)=true then (l6 (dw r)).map (tw r::·) else none:=by rw [l6]
def jX (p:List UInt8):List (List UInt8)×Int:=if p=[47] then ([],0) else match l6 p with | some l=>if l.length=0∨12<l.length then ([],60) else (l,0) | none=>([],60)
def N7:∀l:List UInt8,(if decide (mV l 47<0)=true then (l.length:Int) else mV l 47)=((tw l).length:Int)∧-1≤mV l 47
 | []=>⟨rfl,by decide⟩
 | a::l=>by
  obtain ⟨ih,ih2⟩:=N7 l;have hx:mV (a::l) 47=if (a==47)=true then 0 else if (mV l 47 == -1)=true then -1 else mV l 47+1:=rfl;have ht:tw (a::l)=if (a != 47)=true then a::tw l else []:=xo ..;by_cases ha:a=47
  ·rw [if_pos (by simpa using ha)] at hx;rw [if_neg (by simpa using ha)] at ht;rw [hx,ht]; simp
  ·rw [if_neg (by simpa using ha)] at hx;rw [if_pos (by simpa using ha)] at ht;by_cases h1:mV l 47=-1
   ·rw [if_pos (by simpa using h1)] at hx;rw [h1] at ih;rw [hx,ht];simp at ih ⊢;omega
   ·rw [if_neg (by simpa using h1)] at hx;rw [if_neg (by simp; omega)] at ih;rw [hx,ht,if_neg (by simp; omega),c8];omega
def XT (l:List UInt8):tw l++dw l=l:=List.takeWhile_append_dropWhile
def ah2 (l:List UInt8):l.take (tw l).length=tw l:=by
 have:(tw l++dw l).take (tw l).length=tw l:=List.take_left;rwa [XT] at this
def ah1 (l:List UInt8):l.drop (tw l).length=dw l:=by
 have:(tw l++dw l).drop (tw l).length=dw l:=List.drop_left;rwa [XT] at this
def XU (l:List UInt8):(tw l).length≤l.length:=(Zq _).length_le
def afc (p:List UInt8) (h:p.length≤1000000):Gb p [47]=some (match p with | []=>([],false) | a::r=>if a=47 then (r,true) else (a::r,false)):=by
 refine ε.eq ?_;unfold Gb IQ IS;refine ε.ai (a:=match p with | []=>([],false) | a::r=>if a=47 then (r,true) else (a::r,false)) (ε.eq ?_) (ε.ret rfl);cases p with
 | nil =>
  refine ε.ai (a:=false) rfl (ε.ret rfl)
 | cons a r =>
  dsimp only
  have hh:((sub (a::r) 0 (([47]:List UInt8).length:Int)) == [47])=decide (a=47):=by
   unfold sub; rw [uZ]; simp
  refine ε.bind (R:=(·=decide (a=47))) (ε.bind (R:=(·=decide (a=47))) (ε.bind (R:=(·=decide (a=47))) (ε.cond (by simp; omega) (ε.Ω ⟨by decide,by simp,by simp; omega⟩ (ε.ret hh))) fun v hv=>ε.ret hv) fun v hv=>ε.ret hv) fun v hv=>?_;subst hv;by_cases ha:a=47
  ·rw [if_pos ha];refine ε.cV (by simpa using ha) (ε.Ω ⟨by simp,by simp; omega,by omega⟩ (ε.ret ?_));unfold sub;simp
  ·rw [if_neg ha];exact ε.cond (by simpa using ha) (ε.ret rfl)
def pI (out:List (List UInt8)) (p:List UInt8):Option (List (List UInt8)):=match l6 p with | some l=>if 12<(out++l).length then none else some (out++l) | none=>none
def OE (p:List UInt8) (hp:p.length≤100000):zv p=some (jX p):=by
 refine ε.eq ?_;unfold zv jX;by_cases h0:p=[47]
 ·rw [if_pos (by simpa using h0),if_pos h0]; exact ε.ret rfl
 rw [if_neg (by simpa using h0),if_neg h0];unfold I' Ja VI;refine ε.ai rfl ?_;refine ε.bind (R:=fun r=>(∀l,pI [] p=some l→r.1=.iH∧r.2.2.2=l)∧(pI [] p=none→r.1=.ret∧r.2.1=60)) ?_ fun r hr=>?_
 ·refine ε.loop (fun s:LS×List UInt8×Int×List (List UInt8)=>s.1=.iH∧s.2.1.length≤100000∧s.2.2.2.length≤12∧pI s.2.2.2 s.2.1=pI [] p) (fun s=>s.2.1.length) ?_ _ ⟨rfl,hp,by simp,rfl⟩;rintro ⟨c,q,b,out⟩ ⟨h1,h2,h3,h4⟩;dsimp only at h1 h2 h3 h4;subst h1;unfold Jb;cases q with
  | nil =>
   refine ε.cV (by simp) (ε.out (ε.ret ⟨fun l hl=>⟨rfl,?_⟩,fun hn=>?_⟩))
   ·rw [←h4] at hl;unfold pI at hl;rw [Kh] at hl;simp only [xk] at hl;rw [if_neg (by omega)] at hl;exact lP hl
   ·rw [←h4] at hn;unfold pI at hn;rw [Kh] at hn;simp only [xk] at hn;rw [if_neg (by omega)] at hn; cases hn
  | cons a r =>
   refine ε.cond (by simp) (ε.ai (afc (a::r) (by omega)) ?_);dsimp only
   have Is:r.length+1≤100000:=by simpa using h2
   by_cases ha:a=47
   ·rw [if_pos ha];dsimp only;have wC:=XU r;have q7:=LR r;refine ε.bind (R:=(·=((tw r).length:Int))) ?_ fun v hv=>?_
    ·have rb:=(N7 r).1;by_cases hc:decide (mV r 47<0)=true
     ·rw [if_pos hc] at rb ⊢; exact ε.ret rb
     ·rw [if_neg hc] at rb ⊢; exact ε.ret rb
    subst hv
    have e1:sub r 0 ((tw r).length:Int)=tw r:=by unfold sub; rw [gM]; exact ah2 r
    have e2:sub r ((tw r).length:Int) (r.length:Int)=dw r:=by unfold sub; rw [gM,gM,jE]; exact ah1 r
    refine ε.Ω ⟨by decide,by omega,by omega⟩ (ε.Ω rfl ?_);rw [e1]
    have Bw:pI out (a::r)=if fY (tw r)=true∧out.length≠12 then pI (out++[tw r]) (dw r) else none:=by
     unfold pI;rw [F9];by_cases hn:fY (tw r)=true
     ·rw [if_pos ⟨ha,hn⟩];cases hs:l6 (dw r) with
      | none=>simp
      | some l =>
       simp only [Option.map_some,dq,c8,l9,C0,List.nil_append];by_cases ho:out.length=12
       ·rw [if_pos (by omega),if_neg (by simp [ho])]
       ·rw [if_pos (show fY (tw r)=true∧out.length≠12 from ⟨hn,ho⟩)]
     ·rw [if_neg (fun h=>hn h.2),if_neg (fun h=>hn h.1)]
    by_cases hg:fY (tw r)=true∧out.length≠12
    ·rw [if_pos hg] at Bw;refine ε.ai (a:=(.iH,b,out++[tw r])) ?_ ?_
     ·refine ε.eq ?_;unfold BI;refine ε.bind (R:=(·=false)) (ε.bind (R:=(·=false)) (ε.cV (by simp) (ε.ai (Fe _) (ε.ret (by rw [hg.1]; rfl)))) fun v hv=>ε.bind (R:=(·=false)) (by rw [hv]; exact ε.cV (by simp) (ε.ret (by rw [beq_eq_false_iff_ne]; have:=hg.2; omega))) fun v hv=>ε.ret hv) fun v hv=>?_;rw [hv];exact ε.cV (by simp) (ε.Ω (by simp only [c8,ib]; omega) (ε.ret rfl))
     ·refine ε.cV (by simp [LS.wF]) (ε.Ω ⟨by omega,by omega,by omega⟩ (ε.inl ⟨⟨rfl,?_,?_,?_⟩,?_⟩))
      ·dsimp only; rw [e2]; omega
      ·simp only [dq,c8,ib]; have:=hg.2; omega
      ·dsimp only; rw [e2,←Bw,h4]
      ·dsimp only; rw [e2,c8]; omega
    ·rw [if_neg hg] at Bw;refine ε.ai (a:=(.ret,60,out)) ?_ ?_
     ·refine ε.eq ?_;unfold BI
      refine ε.bind (R:=(·=true)) (ε.bind (R:=(·=!fY (tw r))) (ε.cV (by simp) (ε.ai (Fe _) (ε.ret rfl))) fun v hv=>ε.bind (R:=(·=true)) (by
       rw [hv];refine ε.ite (fun _=>ε.ret rfl) fun hn=>ε.ret ?_
       have hn:fY (tw r)=true:=by simpa using hn
       have:out.length=12:=Decidable.byContradiction fun hc=>hg ⟨hn,hc⟩
       rw [this]; rfl) fun v hv=>ε.ret hv) fun v hv=>?_
      rw [hv];exact ε.cond rfl (ε.ret rfl)
     ·refine ε.cond (by simp [LS.wF]) (ε.out (ε.ret ⟨fun l hl=>?_,fun _=>⟨rfl,rfl⟩⟩));rw [←h4,Bw] at hl; cases hl
   ·rw [if_neg ha];dsimp only
    have Bw:pI out (a::r)=none:=by unfold pI; rw [F9,if_neg (fun h=>ha h.1)]
    have wC:=XU (a::r);refine ε.bind (R:=(·=((tw (a::r)).length:Int))) ?_ fun v hv=>?_
    ·have rb:=(N7 (a::r)).1;by_cases hc:decide (mV (a::r) 47<0)=true
     ·rw [if_pos hc] at rb ⊢; exact ε.ret rb
     ·rw [if_neg hc] at rb ⊢; exact ε.ret rb
    subst hv;refine ε.Ω ⟨by decide,by omega,by omega⟩ (ε.Ω rfl ?_);refine ε.ai (a:=(.ret,60,out)) ?_ ?_
    ·refine ε.eq ?_;unfold BI
     exact ε.bind (R:=(·=true)) (ε.bind (R:=(·=true)) (ε.cond rfl (ε.ret rfl)) fun v hv=>ε.bind (R:=(·=true)) (by rw [hv]; exact ε.cond rfl (ε.ret rfl)) fun v hv=>ε.ret hv) fun v hv=>by rw [hv]; exact ε.cond rfl (ε.ret rfl)
    ·refine ε.cond (by simp [LS.wF]) (ε.out (ε.ret ⟨fun l hl=>?_,fun _=>⟨rfl,rfl⟩⟩));rw [←h4,Bw] at hl; cases hl
 ·obtain ⟨r1,r2,r3,r4⟩:=r;obtain ⟨g1,g2⟩:=hr
  have hA:pI [] p=match l6 p with | some l=>if 12<l.length then none else some l | none=>none:=by unfold pI; simp
  rw [hA] at g1 g2;cases hs:l6 p with
  | none =>
   rw [hs] at g2;obtain ⟨e1,e2⟩:=g2 rfl;subst e1; subst e2;exact ε.cV (by simp) (ε.cond rfl (ε.ret rfl))
  | some l =>
   rw [hs] at g1 g2;dsimp only at g1 g2 ⊢;by_cases hl:12<l.length
   ·rw [if_pos (show l.length=0∨12<l.length from .inr hl)];rw [if_pos hl] at g2;obtain ⟨e1,e2⟩:=g2 rfl;subst e1; subst e2;exact ε.cV (by simp) (ε.cond rfl (ε.ret rfl))
   ·rw [if_neg hl] at g1;obtain ⟨e1,e2⟩:=g1 l rfl;subst e1; subst e2;refine ε.cond rfl ?_;by_cases Mp:r4.length=0
    ·rw [if_pos (show r4.length=0∨12<r4.length from .inl Mp)]; exact ε.cond (by simp [Mp]) (ε.ret rfl)
    ·rw [if_neg (show ¬(r4.length=0∨12<r4.length) by omega)]; exact ε.cV (by simpa using Mp) (ε.ret rfl)
def rA (l:List (List UInt8)):List UInt8:=if l.length=0 then [47] else [47]++kV l [47]
def N8 (a b:List UInt8) (l:List (List UInt8)):kV (a::b::l) [47]=a++[47]++kV (b::l) [47]:=by
 unfold kV;simp [Rc]
def N_ (a:List UInt8):kV [a] [47]=a:=by unfold kV; simp [Rc]
def BJ {s:List UInt8} (h:fY s=true):(∀x,x∈s→x≠47)∧1≤s.length∧s.length≤32:=by
 unfold fY at h;simp only [bJ,decide_eq_true_eq,oS,pS] at h;refine ⟨fun x hx e=>?_,h.1.1.1.1,h.1.1.1.2⟩;have:=h.2 x hx;rw [e] at this;exact this (by decide)
def P9:∀{s r:List UInt8},(∀x,x∈s→x≠47)→(r=[]∨∃r',r=47::r')→tw (s++r)=s∧dw (s++r)=r
 | [],r,_,hr=>by rcases hr with rfl | ⟨r',rfl⟩ <;> exact ⟨rfl,rfl⟩
 | a::s,r,hs,hr=>by
  have ha:(a != 47)=true:=by simpa using hs a (by simp)
  obtain ⟨h1,h2⟩:=P9 (s:=s) (fun x hx=>hs x (cr _ hx)) hr;unfold tw dw at *;rw [C0,xo,if_pos ha,List.dropWhile_cons,if_pos ha,h1,h2];exact ⟨rfl,rfl⟩
def Xu:∀{l:List (List UInt8)},(∀s,s∈l→fY s=true)→l≠[]→l6 (47::kV l [47])=some l
 | [],_,h=>absurd rfl h
 | [a],h,_=>by
  have ha:=h a (by simp);rw [N_,F9];have:=P9 (r:=[]) (BJ ha).1 (.inl rfl);rw [xk] at this;rw [this.1,this.2,if_pos ⟨rfl,ha⟩,Kh]; rfl
 | a::b::l,h,_=>by
  have ha:=h a (by simp);have ih:=Xu (l:=b::l) (fun s hs=>h s (cr _ hs)) (by simp);rw [N8,F9,l9];have:=P9 (r:=[47]++kV (b::l) [47]) (BJ ha).1 (.inr ⟨_,rfl⟩);rw [this.1,this.2,if_pos ⟨rfl,ha⟩];show (l6 (47::kV (b::l) [47])).map (a::·)=_;rw [ih]; rfl
def P1 {l:List (List UInt8)} (h:∀s,s∈l→fY s=true) (hl:l.length≤12):jX (rA l)=(l,0):=by
 unfold rA jX;cases l with
 | nil=>rfl
 | cons a r =>
  have aO:¬(47::kV (a::r) [47]:List UInt8)=[47]:=by
   intro e;injection e with _ e;have ha:=(BJ (h a (by simp))).2.1;cases r with
   | nil=>rw [N_] at e; rw [e] at ha; simp at ha
   | cons b r=>rw [N8] at e; simp at e
  have e:(if (a::r).length=0 then [47] else [47]++kV (a::r) [47]:List UInt8)=47::kV (a::r) [47]:=if_neg (by simp);rw [e,if_neg aO,Xu h (by simp)];dsimp only;rw [if_neg (by simp only [c8] at *; omega)]
def Xv:∀(n:Nat) (p:List UInt8),p.length≤n→∀l,l6 p=some l→∀s,s∈l→fY s=true
 | _,[],_,l,h,s,hs=>by rw [Kh] at h; cases h; cases hs
 | 0,_::_,hn,_,_,_,_=>by simp at hn
 | n+1,a::r,hn,l,h,s,hs=>by
  rw [F9] at h;split at h
  ·rename_i hc;cases hx:l6 (dw r) with
   | none=>rw [hx] at h; cases h
   | some k =>
    rw [hx] at h;cases h
    rcases bj.1 hs with rfl | hs
    ·exact hc.2
    ·exact Xv n (dw r) (by have:=LR r; simp at hn; omega) k hx s hs
  ·cases h
def F_ {p:List UInt8}:(∀s,s∈(jX p).1→fY s=true)∧(jX p).1.length≤12∧((jX p).2=0∨(jX p).2=60∧(jX p).1=[]):=by
 have:jX p=([],0)∨jX p=([],60)∨∃l,l6 p=some l∧jX p=(l,0)∧l.length≤12:=by
  unfold jX;by_cases h0:p=[47]
  ·rw [if_pos h0]; exact .inl rfl
  ·rw [if_neg h0];cases hs:l6 p with
   | none=>exact .inr (.inl rfl)
   | some l =>
    dsimp only;by_cases hl:l.length=0∨12<l.length
    ·rw [if_pos hl]; exact .inr (.inl rfl)
    ·rw [if_neg hl]; exact .inr (.inr ⟨l,rfl,rfl,by omega⟩)
 rcases this with h | h | ⟨l,h1,h2,h3⟩
 ·rw [h]; exact ⟨fun s hs=>(by cases hs),by simp,.inl rfl⟩
 ·rw [h]; exact ⟨fun s hs=>(by cases hs),by simp,.inr ⟨rfl,rfl⟩⟩
 ·rw [h2]; exact ⟨fun s hs=>Xv _ _ (bF _) l h1 s hs,h3,.inl rfl⟩
def N9:∀{l:List (List UInt8)},(∀s,s∈l→s.length≤32)→(kV l [47]).length≤33*l.length
 | [],_=>by simp [kV,Rc]
 | [a],h=>by rw [N_]; have:=h a (by simp); simp; omega
 | a::b::l,h=>by
  have h1:=h a (by simp);have ih:=N9 (l:=b::l) fun s hs=>h s (cr _ hs);rw [N8];simp only [dq,c8,ib] at *;omega
def aeV {l:List (List UInt8)} (h:∀s,s∈l→s.length≤32) (hl:l.length≤100000):E2 l=some (rA l):=by
 refine ε.eq ?_;unfold E2 rA;have:=N9 h;by_cases h0:l.length=0
 ·rw [if_pos (show l.length=0 from h0)]; exact ε.cond (by simp [h0]) (ε.ret rfl)
 ·rw [if_neg (show ¬l.length=0 from h0)];exact ε.cV (by simpa using h0) (ε.Ω ⟨by omega,by omega⟩ (ε.Ω (by simp only [c8,ib]; omega) (ε.ret rfl)))
def oL (p:List UInt8):List UInt8×List UInt8×Int:=match (jX p).1.getLast? with | some s=>(s,rA (jX p).1.dropLast,0) | none=>([],[],60)
def aeW (p:List UInt8) (hp:p.length≤100000):E3 p=some (oL p):=by
 refine ε.eq ?_;unfold E3 oL;refine ε.ai (OE p hp) ?_;obtain ⟨h1,h2,h3⟩:=F_ (p:=p);generalize hx:jX p=x at *;obtain ⟨l,e⟩:=x;dsimp only at h1 h2 h3 ⊢;cases l with
 | nil =>
  refine ε.bind (R:=(·=true)) (ε.bind (R:=(·=true)) (ε.ite (fun _=>ε.ret rfl) fun _=>ε.ret rfl) fun v hv=>ε.ret hv) fun v hv=>?_;rw [hv]; exact ε.cond rfl (ε.ret rfl)
 | cons a r =>
  have he:e=0:=by
   rcases h3 with h | h
   ·exact h
   ·cases h.2
  subst he;refine ε.bind (R:=(·=false)) (ε.bind (R:=(·=false)) (ε.cV (by simp) (ε.ret (by rw [beq_eq_false_iff_ne]; simp only [c8]; omega))) fun v hv=>ε.ret hv) fun v hv=>?_;rw [hv]
  have acd:(a::r)[r.length]?=(a::r).getLast?:=by rw [List.getLast?_eq_getElem?]; rfl
  have hs:(a::r).getLast?=some ((a::r).getLast (by simp)):=List.getLast?_eq_some_getLast (by simp)
  have hi:(((a::r).length:Int)-1)=((r.length:Nat):Int):=by simp only [c8]; omega
  rw [hi,hs];refine ε.cV (by simp) (ε.Ω (by unfold Θ; simp only [c8] at h2; omega) (ε.ai (cF (acd.trans hs)) (ε.Ω (by simp only [c8]; omega) ?_)))
  have ht:(a::r).take ((r.length:Nat):Int).toNat=(a::r).dropLast:=by rw [gM,List.dropLast_eq_take]; rfl
  rw [ht];exact ε.ai (aeV (fun s hs=>(BJ (h1 s (List.dropLast_subset _ hs))).2.2) (by simp at h2 ⊢; omega)) (ε.ret rfl)
def adv {l:List (List UInt8)} (h:∀s,s∈l→fY s=true) (hl:l.length≤12):(rA l).length≤400:=by
 unfold rA;have:=N9 (l:=l) fun s hs=>(BJ (h s hs)).2.2;split
 ·simp
 ·simp only [dq,c8,ib]; omega
def tH (t:ψ):Int→List (List UInt8)→Int×Int
 | i,[]=>(i,0)
 | i,s::r=>if ((eQ t i s).2 != 0)=true then (0,(eQ t i s).2) else tH t (eQ t i s).1 r
def qu (t:ψ) (p:List UInt8):Int×Int:=if ((jX p).2 != 0)=true then (0,(jX p).2) else tH t 1 (jX p).1
def VZ {B:Nat} {t:ψ} (h:ST B t) (hB:B≤90000) (p:List UInt8) (hp:p.length≤100000):w9 t p=some (qu t p):=by
 refine ε.eq ?_;unfold w9 qu;refine ε.ai (OE p hp) (ε.eE (fun _=>ε.ret rfl) fun _=>?_);have hl:=(F_ (p:=p)).2.1;generalize jX p=x at *;obtain ⟨l,e⟩:=x;dsimp only at hl ⊢;unfold XQ
 have key:∀(r:List (List UInt8)) (n:Nat) (i:Int),l.drop n=r→n≤l.length→loop (zZ (l,e) t) (i,(n:Int))=some (tH t i r):=by
  intro r;induction r with
  | nil =>
   intro n i hd hn
   have:n=l.length:=by have:=congrArg List.length hd; simp at this; omega
   subst this;refine nS ?_;unfold zZ;simp [Ku,Cat.out,tH]
  | cons s r ih =>
   intro n i hd hn
   have Φ:n<l.length:=by
    rcases gG n l.length with h | h
    ·exact h
    ·rw [qC h] at hd; cases hd
   rw [xl Φ] at hd;injection hd with hx q7
   have hb:zZ (l,e) t (i,(n:Int))=if ((eQ t i s).2 != 0)=true then some (.inr (0,(eQ t i s).2)) else some (.inl ((eQ t i s).1,((n+1:Nat):Int))):=by
    unfold zZ
    have hd:decide ((n:Int)<(l.length:Int))=true:=by simpa using Φ
    simp only [hd,if_true,cF (bT Φ),hx,cD,Jm h (by omega)];split
    ·rfl
    ·rw [ij (by unfold Θ; omega)]; rfl
   unfold tH;by_cases hc:((eQ t i s).2 != 0)=true
   ·rw [if_pos hc] at hb ⊢; exact nS hb
   ·rw [if_neg hc] at hb ⊢;rw [sZ hb];exact ih (n+1) _ q7 Φ
 exact ⟨_,key l 0 1 rfl (lO _),rfl⟩
end
section
section
variable {α:Type}
def BC (C:α→Option Bool) (l:List α) (s1:Int):Option (Int⊕Int):=if (decide (s1<(l.length:Int))) then (idx l s1).bind fun x1=>(C x1).bind fun x2=>if x2 then out (some s1) else Ω (Θ (s1+1)) (some (.inl ((s1+1)))) else out (some (-1))
def ER {C:α→Option Bool} {p:α→Bool} {l:List α} (hC:∀x,x∈l→C x=some (p x)) (hl:l.length≤1000000):loop (BC C l) 0=some (oI (l.findIdx? p)):=by
 rw [Oi (b:=l) p (fun n _=>(n:Int)) (-1)]
 ·cases h:l.findIdx? p with
  | none=>rfl
  | some n=>obtain ⟨x,hx,-⟩:=sy h; simp only [hx]; rfl
 ·intro n x hx Φ;unfold BC
  have hd:decide ((n:Int)<(l.length:Int))=true:=by simpa using Φ
  simp only [hd,if_true,cF hx,cD,hC x (mc hx)];split
  ·rfl
  ·rw [ij (by unfold Θ; omega)]
 ·unfold BC;simp [Cat.out]
def LP (C:α→Option Bool) (s1:Int×Int×List α):Option ((Int×Int×List α)⊕(Int×List α)):=if (decide (s1.2.1<(s1.2.2.length:Int))) then ((idx s1.2.2 s1.2.1).bind fun x2=>(C x2).bind fun x3=>if (!x3) then (idx s1.2.2 s1.1).bind fun _=>Ω (Θ (s1.1+1)) (some (((s1.1+1),(s1.2.2.set s1.1.toNat x2)))) else some ((s1.1,s1.2.2))).bind fun v2=>Ω (Θ (s1.2.1+1)) (some (.inl ((v2.1,(s1.2.1+1),v2.2)))) else out (some ((s1.1,s1.2.2)))
def ag0 {l:List α} {i:Nat} {x:α} (h:i<l.length):(l.set i x).take (i+1)=l.take i++[x]:=by
 rw [List.take_set,List.set_eq_take_append_cons_drop,if_pos (by simp; omega)];rw [alD,Nat.min_eq_left (by omega)];congr 1;rw [qC (by simp; omega)]
def aau {C:α→Option Bool} {p:α→Bool} {l:List α} (hC:∀x,x∈l→C x=some (p x)) (hl:l.length≤1000000) {k:Nat} (hk:k<l.length) (hb:l.take k=(l.take (k+1)).filter fun x=>!p x) :
  ε (loop (LP C) ((k:Int),(k:Int)+1,l)) (fun r=>∃i:Nat,r.1=i∧i≤r.2.length∧r.2.take i=l.filter fun x=>!p x):=by
 refine ε.loop (fun s:Int×Int×List α=>∃i j:Nat,s.1=i∧s.2.1=j∧i<j∧j≤l.length∧s.2.2.length=l.length∧s.2.2.take i=(l.take j).filter (fun x=>!p x)∧s.2.2.drop j=l.drop j) (fun s=>l.length-s.2.1.toNat) ?_ _ ⟨k,k+1,rfl,rfl,by omega,by omega,rfl,hb,rfl⟩;rintro ⟨s0,s1,s⟩ ⟨i,j,e1,e2,eO,hj,hlen,ht,hd⟩;dsimp only at e1 e2 hlen ht hd;subst e1; subst e2;unfold LP;dsimp only;by_cases Φ:j<l.length
 ·have hx:s[j]?=l[j]?:=by
   have:=congrArg (fun r=>r[0]?) hd;simpa using this
  have Ug:l[j]?=some l[j]:=bT Φ;rw [Ug] at hx
  have yx:s.drop (j+1)=l.drop (j+1):=by
   have:=congrArg (List.drop 1) hd;simpa using this
  have IF:l.take (j+1)=l.take j++[l[j]]:=by rw [qH,Ug]; rfl
  refine ε.cond (by simp; omega) (ε.bind (R:=fun v:Int×List α=>∃i':Nat,v.1=(i':Int)∧i'≤j+1∧i'<j+1∧v.2.length=l.length∧v.2.take i'=(l.take (j+1)).filter (fun x=>!p x)∧v.2.drop (j+1)=l.drop (j+1)) (ε.ai (cF hx) (ε.ai (hC _ (eG Φ)) ?_)) fun v hv=>?_)
  ·refine ε.ite (fun hp=>?_) fun hp=>ε.ret ⟨i,rfl,by omega,by omega,hlen,?_,yx⟩
   ·have hi:i<s.length:=by omega
    refine ε.ai (cF (bT hi)) (ε.Ω (by unfold Θ; omega) (ε.ret ⟨i+1,by dsimp only; omega,by omega,by omega,by simp [hlen],?_,?_⟩))
    ·dsimp only;rw [gM,ag0 hi,ht,IF,tU,ia,if_pos hp]; rfl
    ·dsimp only;rw [gM,List.drop_set_of_lt (by omega)]; exact yx
   ·rw [ht,IF,tU,ia,if_neg hp]; simp
  ·obtain ⟨i',h1,h2,h3,h4,h5,h6⟩:=hv;exact ε.Ω (by unfold Θ; omega) (ε.inl ⟨⟨i',j+1,h1,by dsimp only; omega,h3,Φ,h4,h5,h6⟩,by dsimp only; omega⟩)
 ·have:j=l.length:=by omega
  subst this;refine ε.cV (by simp [hlen]) (ε.out (ε.ret ⟨i,rfl,by dsimp only; omega,?_⟩));dsimp only;rw [ht,jE]
def Sf {C:α→Option Bool} {p:α→Bool} {l:List α} {z:α} (hC:∀x,x∈l→C x=some (p x)) (hl:l.length≤1000000) :
  ((loop (BC C l) 0).bind fun x1=>if (x1==(-1)) then some l else (Ω (Θ (x1+1)) (loop (LP C) ((x1,(x1+1),l)))).bind fun v1=>Ω ((0:Int)≤v1.1∧v1.1≤(v1.2.length:Int)) (Ω ((0:Int)≤v1.1∧v1.1≤(((v1.2.take (v1.1.toNat)++ic (v1.2.length-(v1.1.toNat)) z)).length:Int)) (some ((((v1.2.take (v1.1.toNat)++ic (v1.2.length-(v1.1.toNat)) z)).take v1.1.toNat)))))=some (l.filter fun x=>!p x):=by
 refine ε.eq ?_;refine ε.ai (ER hC hl) ?_;cases h:l.findIdx? p with
 | none =>
  refine ε.cond (by rfl) (ε.ret ?_);rw [xm] at h;symm;rw [tV];intro x hx; simp [h x hx]
 | some k =>
  rw [KT] at h;obtain ⟨hk,Ey,kR⟩:=h;show ε (if ((k:Int) == -1)=true then _ else _) _;refine ε.cV (by simp) (ε.bind (ε.Ω (by show Θ ((k:Int)+1); unfold Θ; omega) (aau hC hl hk ?_)) fun v hv=>?_)
  ·have gB:l.take (k+1)=l.take k++[l[k]]:=by rw [qH,bT hk]; rfl
   rw [gB,tU,ia,if_neg (by simp [Ey])];simp only [List.filter_nil,xk];symm;rw [tV];intro x hx;obtain ⟨j,hj⟩:=s4 hx;rw [gb] at hj;by_cases ph:j<k
   ·rw [if_pos ph] at hj;obtain ⟨h1,rfl⟩:=fb.1 hj;have:=kR j ph;simpa using this
   ·rw [if_neg ph] at hj; cases hj
  ·obtain ⟨i,h1,h2,h3⟩:=hv;rw [h1,gM];refine ε.Ω ⟨by omega,by omega⟩ (ε.Ω ⟨by omega,by simp; omega⟩ (ε.ret ?_));rw [←h3,List.take_append_of_le_length (by simp; omega),alD,Nat.min_self]
end
def v8 (l:List az) (i:Int):Bool:=l.any fun h=>h.ι==i
def iF (c h:Int) (x:az):Bool:=x.aV==c&&x.cd==h
def afo (l:List az) (i:Int) (hl:l.length≤1000000):FT l i=some (v8 l i):=by
 have h:=ER (C:=fun x=>DT x i) (p:=fun h=>h.ι==i) (l:=l) (fun x _=>rfl) hl;unfold FT;show ((loop (BC (fun x=>DT x i) l) 0).bind _)=_;rw [h,cD,E6]; rfl
def afn (l:List az) (i:Int) (hl:l.length≤1000000):Bo l i=some (v8 l i):=by
 have h:=ER (C:=fun x=>Ew x i) (p:=fun h=>h.ι==i) (l:=l) (fun x _=>rfl) hl;unfold Bo J7;show (((loop (BC (fun x=>Ew x i) l) 0).bind _).bind _)=_;rw [h,cD,E6]; rfl
def Wb (l:List az) (c h:Int) (hl:l.length≤1000000):FX l (c,h)=some (oI (l.findIdx? (iF c h))):=by
 have h:=ER (C:=fun x=>Ex (c,h) x) (p:=iF c h) (l:=l) (fun x _=>by unfold Ex Bp iF; simp) hl;exact h
def lZ (n:ξ):Bool:=n.τ==1&&n.bb==0
def OJ (n:ξ):wq n=some (lZ n):=by
 unfold wq lZ;cases n.τ==1 <;> rfl
def ae2 {t:ψ} (hl:t.η.length≤1000000):Bn t=some ((t.η.filter lZ).map (·.ι)):=by
 have:Nn t (0,[])=some ((t.η.filter lZ).map (·.ι)):=by
  unfold Nn;refine ε.eq ?_;refine ε.loop (fun s:Int×List Int=>∃n:Nat,s.1=n∧n≤t.η.length∧s.2=((t.η.take n).filter lZ).map (·.ι)) (fun s=>t.η.length-s.1.toNat) ?_ _ ⟨0,rfl,by omega,rfl⟩;rintro ⟨s0,o⟩ ⟨n,e1,hn,e2⟩;dsimp only at e1 e2;subst e1; subst e2;unfold Ix;dsimp only;by_cases Φ:n<t.η.length
  ·have hx:=bT Φ
   have gB:t.η.take (n+1)=t.η.take n++[t.η[n]]:=by rw [qH,hx]; rfl
   have hle:(((t.η.take n).filter lZ).map (·.ι)).length≤n:=by
    rw [ay]; exact fc (ma _ _) (by simp; omega)
   refine ε.cond (by simpa using Φ) (ε.bind (R:=(·=((t.η.take (n+1)).filter lZ).map (·.ι))) (ε.ai (cF hx) (ε.ai (OJ _) (ε.ite (fun h=>ε.Ω (by simp only [c8,ib]; omega) (ε.ret ?_)) fun h=>ε.ret ?_))) fun v hv=>ε.Ω (by unfold Θ; omega) (ε.inl ⟨⟨n+1,by dsimp only; omega,Φ,hv⟩,by dsimp only; omega⟩))
   ·rw [gB,tU,fo,ia,if_pos h]; rfl
   ·rw [gB,tU,fo,ia,if_neg h]; simp
  ·have:n=t.η.length:=by omega
   subst this;exact ε.cV (by simp) (ε.out (ε.ret (by rw [jE])))
 unfold Bn;rw [this]; rfl
def R3 {l:List az} (hl:l.length≤1000000):FP l=some l:=se (by omega)
def Hk {l:List aA} (hl:l.length≤1000000):zV l=some l:=se (by omega)
def cH (c h:Int) (x:az):Int:=if gQ x.aV c≠0 then gQ x.aV c else gQ x.cd h
def ae_ (c h:Int) (x:az) (k:Int×Int):yT (c,h) x k=some (cH c h x):=by
 refine ε.eq ?_;unfold yT Bp;refine ε.ai rfl (ε.ai (w7 _ _) (ε.ai (w7 _ _) (ε.ai (a:=cH c h x) ?_ (ε.ret rfl))));dsimp only;unfold Hn R7 cH;generalize gQ x.aV c=a;generalize gQ x.cd h=b;by_cases ha:a≠0
 ·rw [if_pos ha];refine nS ?_;unfold vL;simp [idx,ha,Cat.out]
 ·have ha:a=0:=Decidable.of_not_not ha;subst ha;rw [if_neg (by simp)];refine (sZ (s':=1) ?_).trans ?_
  ·unfold vL;simp [idx];rw [ij (by unfold Θ; omega)]
  ·by_cases hb:b=0
   ·subst hb;refine (sZ (s':=2) ?_).trans (nS ?_)
    ·unfold vL;simp [idx];rw [ij (by unfold Θ; omega)]
    ·unfold vL;simp [Ho,Cat.out]
   ·refine nS ?_;unfold vL;simp [idx,hb,Cat.out]
end
end Go.Proofs
