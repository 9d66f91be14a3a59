/- The plain law, piece 0. No condition. -/
import Derived.Test.YtdcgbodbejgliaaGreatDoorXTopClientsSp
import Derived.Test.YtdcgbodbejgliaaGreatDoorXTopClientsCatP6
import Derived.Test.YtdcgbodbejgliaaGreatDoorXTopClientsCatP1
import Derived.Test.YtdcgbodbejgliaaGreatDoorXTopClientsCatP5
import Derived.IntWalk
open Bool renaming and_eq_true → bE, eq_false_iff → ia, false_eq_true → ni, or_eq_true → ug, not_eq_true' → oV, eq_iff_iff → qL, not_eq_true → C9, true_and → K1, not_false → alL
open Go.Op renaming bytesLess → fX
open Int renaming toNat_natCast → gP, le_refl → xp, natCast_nonneg → Zl
open List renaming length_map → az, getElem?_eq_getElem → bU, mem_cons_of_mem → cu, mem_cons → bf, length_cons → cZ, length_append → dj, getElem?_eq_some_iff → fh, mem_singleton → dC, pairwise_cons → eD, length_take → dR, mem_filter → ek, mem_map → c9, getElem_mem → eI, map_append → fu, getElem?_take → gk, replicate → ij, mem_append → gl, filter_cons → ic, length_nil → ig, mem_of_getElem? → mb, mem_of_find?_eq_some → nj, take_length → jK, length_filter_le → l_, length_eq_zero_iff → sx, pairwise_iff_getElem → vG, drop_eq_nil_of_le → qP, append_assoc → lN, pairwise_singleton → vH, drop_eq_getElem_cons → xr, findIdx?_eq_none_iff → xu, mem_append_left → qR, take_add_one → qT, any_eq_false → pY, foldl_cons → pZ, filter_eq_self → ui, append_nil → xq, find?_eq_none → sw, filter_append → uh, findIdx?_eq_some_iff_getElem → Lb, pairwise_append → vF, takeWhile_cons → xv, cons_append → Dd, countP_cons → De, any_eq_true → Dc, length_filter_lt_length_iff_exists → ZA, foldl_append → G4, getElem?_eq_none → Rm, find?_some → alK, find?_cons → Rl, getElem!_eq_getElem?_getD → Zv, getElem?_zip_eq_some → Zy, intercalate → Ro, takeWhile_prefix → ZE, find?_filter → Zt, length_zip → alM, take_take → alN
open List.Pairwise renaming nil → jr, filter → Zo
open Nat renaming le_refl → bG, le_trans → fi, lt_or_ge → gI, eq_zero_or_pos → oW, zero_le → lP, lt_trichotomy → Lh
open Ne renaming symm → j3
open Option renaming bind_some → cD, isSome_iff_exists → nk
open Option.some renaming inj → nn
open UInt8 renaming not_lt → Lp, lt_iff_toNat_lt → ZR, le_antisymm → ZQ, lt_irrefl → ZS
namespace Go.Proofs
set_option linter.all false
open Go Go.Cat
section
def gS (x y:Int):Int:=if x<y then -1 else if x>y then 1 else 0
def xe (x y:Int):q8 x y=some (gS x y):=by
 unfold q8 cmp_isNaN_int gS;simp only [cD];by_cases h1:x<y<;>by_cases h2:x>y<;>simp [h1,h2]
def jx {x y:Int}:gS x y<0↔x<y:=by unfold gS;split<;>(try split)<;>omega
def MS:oX z8 (fun a b=>gS a.ι b.ι):=by
 refine ⟨fun x y=>by unfold z8;rw [xe];rfl,⟨fun x=>?_,fun x y z h1 h2=>?_,fun x y z h1 h2=>?_⟩⟩
 ·simp [jx]
 ·simp only [decide_eq_true_eq,jx] at *;omega
 ·simp only [decide_eq_false_iff_not,jx] at *;omega
instance:Lw z8:=⟨_, MS⟩
def OC:oX CF (fun a b=>gS a.aj b.aj):=by
 refine ⟨fun x y=>by unfold CF;rw [xe];rfl,⟨fun x=>?_,fun x y z h1 h2=>?_,fun x y z h1 h2=>?_⟩⟩
 ·simp [jx]
 ·simp only [decide_eq_true_eq,jx] at *;omega
 ·simp only [decide_eq_false_iff_not,jx] at *;omega
instance:Lw CF:=⟨_, OC⟩
def abf (zG:List br) (h:zG.length*96≤140737488355328):F6 zG=some zG:=by
 unfold F6;refine cq.clone fun b hb=>?_;cases b with
 |true=>rw [hb rfl];rfl
 |false =>
  rw [if_neg (by decide)];show Ω _ _=_;unfold Ω;rw [if_pos (by simpa using h)];rfl
def abg (zG:List bd) (h:zG.length*24≤140737488355328):F7 zG=some zG:=by
 unfold F7;refine cq.clone fun b hb=>?_;cases b with
 |true=>rw [hb rfl];rfl
 |false =>
  rw [if_neg (by decide)];show Ω _ _=_;unfold Ω;rw [if_pos (by simpa using h)];rfl
def aec (x2:τ) (eU:(Int×(List (Int×ee))×(List (Int×τ))×(List τ))→Option (Bool×(List (Int×ee))×(List (Int×τ))×(List τ))) (k_:(Int×(List (Int×ee))×(List (Int×τ))×(List τ))→Option (Bool×(List (Int×ee))×(List (Int×τ))×(List τ))) (hs:∀a,cq (eU a) (k_ a)) (s1:Bool×Int×(List (Int×ee))×(List (Int×τ))×(List τ)):cq (w9 x2 eU s1) (w9 x2 k_ s1):=by
 unfold w9
 repeat' (first|with_reducible exact hs|with_reducible exact hs _|with_reducible refine cq.bind ?_ (fun _=>?_)|with_reducible refine cq.ite ?_ ?_|with_reducible refine cq.Ω ?_|with_reducible refine cq.bQ (fun _=>?_) (fun _=>?_)|with_reducible refine cq.out ?_|with_reducible exact cq.refl _)
def aee (x2:τ) (eU:(Int×(List (Int×ee))×(List (Int×τ))×(List τ))→Option (Bool×(List (Int×ee))×(List (Int×τ))×(List τ))) (k_:(Int×(List (Int×ee))×(List (Int×τ))×(List τ))→Option (Bool×(List (Int×ee))×(List (Int×τ))×(List τ))) (hs:∀a,cq (eU a) (k_ a)) (s1:Bool×Int×(List (Int×ee))×(List (Int×τ))×(List τ)):cq (FR x2 eU s1) (FR x2 k_ s1):=cq.VH (fun s=>aec x2 eU k_ hs s) s1
def aed (eU:(Int×(List (Int×ee))×(List (Int×τ))×(List τ))→Option (Bool×(List (Int×ee))×(List (Int×τ))×(List τ))) (k_:(Int×(List (Int×ee))×(List (Int×τ))×(List τ))→Option (Bool×(List (Int×ee))×(List (Int×τ))×(List τ))) (hs:∀a,cq (eU a) (k_ a)) (Fl:Int) (Wn:List (Int×ee)) (Fk:List (Int×τ)) (Wo:List τ):cq (rY eU Fl Wn Fk Wo) (rY k_ Fl Wn Fk Wo):=by
 unfold rY
 repeat' (first|with_reducible apply aee|with_reducible exact hs|with_reducible exact hs _|with_reducible refine cq.bind ?_ (fun _=>?_)|with_reducible refine cq.ite ?_ ?_|with_reducible refine cq.Ω ?_|with_reducible refine cq.bQ (fun _=>?_) (fun _=>?_)|with_reducible refine cq.out ?_|with_reducible exact cq.refl _)
def ad' (x1:τ×Bool) (eU:(Int×ψ×Int×(List (Int×Bool)))→Option ((List τ)×Int×Int×Int×(List (Int×Bool)))) (k_:(Int×ψ×Int×(List (Int×Bool)))→Option ((List τ)×Int×Int×Int×(List (Int×Bool)))) (hs:∀a,cq (eU a) (k_ a)) (s1:Int×(List τ)×Int×Int×Int×(List (Int×Bool))):cq (zO x1 eU s1) (zO x1 k_ s1):=by
 unfold zO
 repeat' (first|with_reducible exact hs|with_reducible exact hs _|with_reducible refine cq.bind ?_ (fun _=>?_)|with_reducible refine cq.ite ?_ ?_|with_reducible refine cq.Ω ?_|with_reducible refine cq.bQ (fun _=>?_) (fun _=>?_)|with_reducible refine cq.out ?_|with_reducible exact cq.refl _)
def aeb (x1:τ×Bool) (eU:(Int×ψ×Int×(List (Int×Bool)))→Option ((List τ)×Int×Int×Int×(List (Int×Bool)))) (k_:(Int×ψ×Int×(List (Int×Bool)))→Option ((List τ)×Int×Int×Int×(List (Int×Bool)))) (hs:∀a,cq (eU a) (k_ a)) (s1:Int×(List τ)×Int×Int×Int×(List (Int×Bool))):cq (Fy x1 eU s1) (Fy x1 k_ s1):=cq.VH (fun s=>ad' x1 eU k_ hs s) s1
def aea (eU:(Int×ψ×Int×(List (Int×Bool)))→Option ((List τ)×Int×Int×Int×(List (Int×Bool)))) (k_:(Int×ψ×Int×(List (Int×Bool)))→Option ((List τ)×Int×Int×Int×(List (Int×Bool)))) (hs:∀a,cq (eU a) (k_ a)) (Fl:Int) (We:ψ) (Wf:Int) (Fk:List (Int×Bool)):cq (tK eU Fl We Wf Fk) (tK k_ Fl We Wf Fk):=by
 unfold tK
 repeat' (first|with_reducible apply aeb|with_reducible exact hs|with_reducible exact hs _|with_reducible refine cq.bind ?_ (fun _=>?_)|with_reducible refine cq.ite ?_ ?_|with_reducible refine cq.Ω ?_|with_reducible refine cq.bQ (fun _=>?_) (fun _=>?_)|with_reducible refine cq.out ?_|with_reducible exact cq.refl _)
end
section
def ε.aa9 {β σ ρ:Type} {l:List β} {B:σ→Option (σ⊕ρ)} (dD:σ→Int) (I:Nat→σ→Prop) {Q:ρ→Prop}
  (h1:∀(n:Nat) (x:β) (a:σ),n<l.length→l[n]?=some x→dD a=n→I n a→ε (B a) (uv (fun s=>dD s=(n:Int)+1∧I (n+1) s) Q))
  (h2:∀a,dD a=l.length→I l.length a→ε (B a) (uv (fun _=>False) Q)) (a:σ) (hc:dD a=0) (h0:I 0 a):ε (Cat.loop B a) Q:=by
 refine ε.loop (fun s:σ=>∃n:Nat,dD s=n∧n≤l.length∧I n s) (fun s=>l.length+1-(dD s).toNat) ?_ a ⟨0,hc,lP _,h0⟩;rintro a ⟨n,Bx,hn,hi⟩
 rcases gI n l.length with Φ|gA
 ·refine (h1 n _ a Φ (bU Φ) Bx hi).mono fun y hy=>?_;cases y with
  |inl s=>exact ⟨⟨n+1,hy.1,Φ,hy.2⟩,by show l.length+1-(dD s).toNat<_;rw [hy.1];omega⟩
  |inr r=>exact hy
 ·obtain rfl:n=l.length:=by omega
  refine (h2 a Bx hi).mono fun y hy=>?_;cases y with
  |inl s=>exact hy.elim
  |inr r=>exact hy
def drop_cons {α:Type} {l:List α} {n:Nat} {x:α} (hx:l[n]?=some x):l.drop n=x::l.drop (n+1):=by
 obtain ⟨h3,rfl⟩:=fh.1 hx;exact xr h3
def sO {α:Type} {l:List α} {p:α→Bool} {n:Nat} (h:l.findIdx? p=some n):∃x,l[n]?=some x∧l.find? p=some x∧p x=true:=by
 obtain ⟨hn,hp,hb⟩:=Lb.1 h;refine ⟨l[n],bU hn,?_,hp⟩;rw [List.find?_eq_some_iff_getElem];exact ⟨hp,n,hn,rfl,fun j hj=>by simpa using hb j hj⟩
def DN {α:Type} {l:List α} {p:α→Bool} (h:l.findIdx? p=none):l.find? p=none:=by
 rw [xu] at h;rw [sw];intro x hx;simp [h x hx]
def oI:Option Nat→Int
 |some k=>k
 |none=>-1
def V0 (o:Option Nat):decide (oI o≥0)=o.isSome:=by cases o<;>simp [oI]
def aey (o:Option Nat):decide (oI o<0)=!o.isSome:=by
 cases o with
 |none=>rfl
 |some n=>show decide ((n:Int)<0)=false;rw [decide_eq_false_iff_not];omega
def jX:τ:=⟨0,0,0,[],[],0⟩
def gN (l:List τ) (i:Int):Option τ:=l.find? (fun n=>n.ι==i)
def gD (l:List τ) (i:Int):τ:=(gN l i).getD jX
def dM {l:List τ} {i:Int} {n:τ} (h:gN l i=some n):n∈l∧n.ι=i:=⟨nj h,by simpa using alK h⟩
def yt {l:List τ} {i:Int}:gN l i=none↔∀n,n∈l→n.ι≠i:=by
 unfold gN;rw [sw];simp
def dz (l:List τ) (i:Int):τ×Int:=if (gN l i).isSome then (if (gD l i).ξ != 2 then (jX,73) else (gD l i,0)) else (jX,70)
def f_ (s:List UInt8):Bool:=decide (1≤s.length)&&decide (s.length≤32)&&!(s == [46])&&!(s == [46,46])&&!(s.any fun x=>decide ((x.toNat:Int)<32)||(x.toNat:Int)==47)
def BV (l:List aO) (s:List UInt8):Option Nat:=l.findIdx? (fun e=>e.aN==s)
def iq (l:List τ):Nat→Int→Nat
 |0,_=>0
 |f+1,i=>if i=1 then 0 else iq l f (gD l i).Up+1
def Sr (l:List τ) (f:Nat) (i:Int):iq l (f+1) i=if i=1 then 0 else iq l f (gD l i).Up+1:=rfl
def xU (l:List τ) (o:Int):Nat→Int→Bool
 |0,_=>false
 |f+1,i=>if i==o then true else if i==1 then false else xU l o f (gD l i).Up
def j6 (l:List τ) (i o:Int):Bool:=xU l o (l.length+1) i
def cF (n:τ):List τ→List τ
 |[]=>[n]
 |x::r=>if x.ι≥n.ι then n::(x::r).filter (fun y=>y.ι != n.ι) else x::cF n r
def B6 (n x:τ) (r:List τ):cF n (x::r)=if x.ι≥n.ι then n::(x::r).filter (fun y=>y.ι != n.ι) else x::cF n r:=rfl
def O' (n:τ):∀l,(cF n l).length≤l.length+1
 |[]=>bG _
 |x::r=>by
  unfold cF;split
  ·have:=l_ (fun y:τ=>y.ι != n.ι) (x::r);simp only [cZ] at *;omega
  ·have:=O' n r;simp only [cZ];omega
def nR (e:aO):List aO→List aO
 |[]=>[e]
 |x::r=>if (!(fX x.aN e.aN||x.aN==e.aN))=true then e::x::r else x::nR e r
def E0 (e x:aO) (r:List aO):nR e (x::r)=if (!(fX x.aN e.aN||x.aN==e.aN))=true then e::x::r else x::nR e r:=rfl
def Oi (e:aO):∀l,(nR e l).length=l.length+1
 |[]=>rfl
 |x::r=>by unfold nR;split;rfl;simp only [cZ,Oi e r]
def j8 (t:ψ) (i:Int) (s:List UInt8) (o:Int):ψ:=⟨cF ⟨(gD t.η i).ι,(gD t.η i).ξ,(gD t.η i).aZ,(gD t.η i).aC,nR ⟨s,o,t.aj⟩ (gD t.η i).Ψ,(gD t.η i).Up⟩ t.η,t.Next,t.aj+1⟩
def eM (t:ψ) (i:Int) (s:List UInt8):ψ:=⟨cF ⟨(gD t.η i).ι,(gD t.η i).ξ,(gD t.η i).aZ,(gD t.η i).aC,(gD t.η i).Ψ.filter (fun e=>!(e.aN==s)),(gD t.η i).Up⟩ t.η,t.Next,t.aj⟩
end
section
def bo {a b:Bool} {x:Option Bool} (h:a=false→x=some b):(if a=true then some true else x)=some (a||b):=by
 cases a with
 |true=>rfl
 |false=>rw [if_neg (by simp),h rfl];rfl
def ba {a b:Bool} {x:Option Bool} (h:a=true→x=some b):(if a=true then x else some false)=some (a&&b):=by
 cases a with
 |true=>rw [if_pos rfl,h rfl];rfl
 |false=>rfl
structure TF (B:Nat) (t:ψ):Prop where
 n:t.η.length≤B
 e:∀n,n∈t.η→n.Ψ.length≤B
 l:∀n,n∈t.η→-(B:Int)≤n.aZ∧n.aZ≤B
 c:0≤t.aj∧t.aj≤B
 x:0≤t.Next∧t.Next≤B
def TF.up {B C:Nat} {t:ψ} (h:TF B t) (hC:B≤C):TF C t :=
 ⟨fi h.n hC,fun n hn=>fi (h.e n hn) hC,fun n hn=>by have:=h.l n hn;omega,by have:=h.c;omega,by have:=h.x;omega⟩
def Ip (l:List τ) (i:Int):gD l i∈l∨gD l i=jX:=by
 unfold gD;cases h:gN l i with
 |none=>exact .inr rfl
 |some n=>exact .inl (dM h).1
def TF.gE {B:Nat} {t:ψ} (h:TF B t) (i:Int):(gD t.η i).Ψ.length≤B:=by
 rcases Ip t.η i with h1|h1
 ·exact h.e _ h1
 ·rw [h1];exact lP _
def TF.gL {B:Nat} {t:ψ} (h:TF B t) (i:Int):-(B:Int)≤(gD t.η i).aZ∧(gD t.η i).aZ≤B:=by
 rcases Ip t.η i with h1|h1
 ·exact h.l _ h1
 ·rw [h1];show -(B:Int)≤0∧(0:Int)≤B;omega
def WT {n x:τ}:∀{l:List τ},x∈cF n l→x=n∨(x∈l∧x.ι≠n.ι)∨(x∈l∧x.ι<n.ι)
 |[],h=>by simp [cF] at h;exact .inl h
 |y::r,h=>by
  rw [B6] at h;split at h
  ·rcases bf.1 h with h|h
   ·exact .inl h
   ·obtain ⟨h1,h2⟩:=ek.1 h;exact .inr (.inl ⟨h1,by simpa using h2⟩)
  ·next Φ =>
   rcases bf.1 h with h|h
   ·exact .inr (.inr ⟨by rw [h];simp,by rw [h];omega⟩)
   ·rcases WT h with h|h|h
    ·exact .inl h
    ·exact .inr (.inl ⟨cu _ h.1,h.2⟩)
    ·exact .inr (.inr ⟨cu _ h.1,h.2⟩)
def tJ {n x:τ} {l:List τ} (h:x∈cF n l):x=n∨(x∈l∧x.ι≠n.ι):=by
 rcases WT h with h|h|h
 ·exact .inl h
 ·exact .inr h
 ·exact .inr ⟨h.1,by have:=h.2;omega⟩
def TF.put {B:Nat} {t:ψ} (h:TF B t) {n:τ} (h1:n.Ψ.length≤B+1) (h2:-(B+1:Int)≤n.aZ∧n.aZ≤B+1) {x c:Int} (hx:0≤x∧x≤B+1) (hc:0≤c∧c≤B+1):TF (B+1) ⟨cF n t.η,x,c⟩:=by
 refine ⟨fi (O' n t.η) (Nat.succ_le_succ h.n),fun y hy=>?_,fun y hy=>?_,hc,hx⟩
 ·rcases tJ hy with rfl|⟨hy,-⟩
  ·exact h1
  ·have:=h.e _ hy;omega
 ·rcases tJ hy with rfl|⟨hy,-⟩
  ·exact h2
  ·have:=h.l _ hy;omega
def TF.drop {B:Nat} {t:ψ} (h:TF B t) (i:Int):TF B ⟨t.η.filter (fun x=>x.ι != i),t.Next,t.aj⟩ :=
 ⟨fi (l_ _ _) h.n,fun y hy=>h.e _ (ek.1 hy).1,fun y hy=>h.l _ (ek.1 hy).1,h.c,h.x⟩
def TF.uA {B:Nat} {t:ψ} (h:TF B t) (i:Int) (s:List UInt8) (o:Int):TF (B+1) (j8 t i s o):=by
 have h1:=h.gE i;have h2:=h.gL i;have h3:=h.c;have h4:=h.x;exact h.put (by rw [Oi];omega) (by dsimp only;omega) (by omega) (by omega)
def TF.qv {B:Nat} {t:ψ} (h:TF B t) (i:Int) (s:List UInt8):TF (B+1) (eM t i s):=by
 have h1:=h.gE i;have h2:=h.gL i;have h3:=h.c;have h4:=h.x;exact h.put (fi (l_ _ _) (by omega)) (by dsimp only;omega) (by omega) (by omega)
def kr (t:ψ) (i:Int):ψ:=if ((gD t.η i).ξ==2)=true then ⟨t.η.filter (fun x=>x.ι != i),t.Next,t.aj⟩ else ⟨cF ⟨(gD t.η i).ι,(gD t.η i).ξ,(gD t.η i).aZ-1,(gD t.η i).aC,(gD t.η i).Ψ,(gD t.η i).Up⟩ t.η,t.Next,t.aj⟩
def TF.un {B:Nat} {t:ψ} (h:TF B t) (i:Int):TF (B+1) (kr t i):=by
 have h1:=h.gE i;have h2:=h.gL i;have h3:=h.c;have h4:=h.x;unfold kr;split
 ·exact (h.drop i).up (by omega)
 ·exact h.put (by dsimp only;omega) (by dsimp only;omega) (by omega) (by omega)
section
variable {B:Nat} {t:ψ}
def Im (t:ψ) (n:τ):Bool:=decide ((n.Ψ.length:Int)≥64)||decide ((iq t.η 201 n.ι:Int)≥12)||decide (t.aj≥1099511627776)
def sM (t:ψ) (i:Int) (s:List UInt8):Int:=if ((dz t.η i).2 != 0)=true then (dz t.η i).2 else if (!f_ s)=true then 60 else if (BV (dz t.η i).1.Ψ s).isSome=true then 71 else if Im t (dz t.η i).1=true then 76 else 0
def L4 (h:TF B t) (i:Int):(dz t.η i).1.Ψ.length≤B:=by
 unfold dz;split
 ·split
  ·exact lP _
  ·exact h.gE i
 ·exact lP _
def mw (t:ψ) (i:Int) (s:List UInt8) (k:Int):ψ×Int×Int:=if ((k != 1)&&(k != 2))=true then (t,0,1) else if (sM t i s != 0)=true then (t,0,sM t i s) else if (decide ((t.η.length:Int)≥200)||decide (t.Next≥1099511627776))=true then (t,0,76) else (j8 ⟨cF ⟨t.Next,k,1,[],[],if (k==2)=true then i else 0⟩ t.η,t.Next+1,t.aj⟩ i s t.Next,t.Next,0)
def TF.RO (h:TF B t) (k:Int) (u:Int):TF (B+1) ⟨cF ⟨t.Next,k,1,[],[],u⟩ t.η,t.Next+1,t.aj⟩:=by
 have h3:=h.c;have h4:=h.x;exact h.put (by simp) (by dsimp only;omega) (by omega) (by omega)
def tr (t:ψ) (i to:Int) (s:List UInt8):ψ×Int:=if (!(gN t.η i).isSome||((gD t.η i).ξ==1&&(gD t.η i).aZ==0))=true then (t,70) else if ((gD t.η i).ξ==2)=true then (t,72) else if (sM t to s != 0)=true then (t,sM t to s) else (j8 ⟨cF ⟨(gD t.η i).ι,(gD t.η i).ξ,(gD t.η i).aZ+1,(gD t.η i).aC,(gD t.η i).Ψ,(gD t.η i).Up⟩ t.η,t.Next,t.aj⟩ to s i,0)
def TF.VD (h:TF B t) (i:Int):TF (B+1) ⟨cF ⟨(gD t.η i).ι,(gD t.η i).ξ,(gD t.η i).aZ+1,(gD t.η i).aC,(gD t.η i).Ψ,(gD t.η i).Up⟩ t.η,t.Next,t.aj⟩:=by
 have h1:=h.gE i;have h2:=h.gL i;have h3:=h.c;have h4:=h.x;exact h.put (by dsimp only;omega) (by dsimp only;omega) (by omega) (by omega)
def eT (t:ψ) (i:Int) (s:List UInt8):Int×Int:=if ((dz t.η i).2 != 0)=true then (0,(dz t.η i).2) else if (!f_ s)=true then (0,60) else match (dz t.η i).1.Ψ.find? (fun e=>e.aN==s) with|some e=>(e.ι,0)|none=>(0,70)
def qE (t:ψ) (i:Int) (s:List UInt8):ψ×Int×Int:=if ((eT t i s).2 != 0)=true then (t,0,(eT t i s).2) else if decide (((gD t.η (eT t i s).1).Ψ.length:Int)>0)=true then (t,0,74) else (kr (eM t i s) (eT t i s).1,(eT t i s).1,0)
def sE (t:ψ) (x:τ) (y:Int):Int:=if (!(gN t.η y).isSome)=true then 0 else if (x.ξ==2&&(gD t.η y).ξ != 2)=true then 73 else if (x.ξ != 2&&(gD t.η y).ξ==2)=true then 72 else if decide (((gD t.η y).Ψ.length:Int)>0)=true then 74 else 0
def s6 (l:List τ) (i a:Int):Int:=l.foldl (fun m n=>if (n.ξ==2&&j6 l n.ι i)=true then max m (a+(iq l 201 n.ι:Int)-(iq l 201 i:Int)+if decide ((n.Ψ.length:Int)>0)=true then 1 else 0) else m) 0
end
end
section
section
variable {B:Nat} {t:ψ}
def cd (t:ψ) (to:Int) (aJ:List UInt8):Int:=match (dz t.η to).1.Ψ.find? (fun e=>e.aN==aJ) with|some e=>e.ι|none=>0
def Jp (t:ψ) (i from_ to y:Int):Bool:=(((y==0)&&(to != from_))&&decide (((dz t.η to).1.Ψ.length:Int)≥64))||decide ((iq t.η 201 to:Int)≥12)||((gD t.η i).ξ==2&&decide (s6 t.η i ((iq t.η 201 to:Int)+1)>12))||decide (t.aj≥1099511627776)
def iU (t:ψ) (i from_:Int) (s:List UInt8) (to:Int) (aJ:List UInt8) (y:Int):ψ:=if (y != 0)=true then kr (eM (eM t from_ s) to aJ) y else eM t from_ s
def ko (t u:ψ) (i to:Int):ψ:=if ((gD t.η i).ξ==2)=true then ⟨cF ⟨(gD t.η i).ι,(gD t.η i).ξ,(gD t.η i).aZ,(gD t.η i).aC,(gD t.η i).Ψ,to⟩ u.η,u.Next,u.aj⟩ else u
def qw (t:ψ) (from_:Int) (s:List UInt8) (to:Int) (aJ:List UInt8):ψ×Int×Int :=
 if ((eT t from_ s).2 != 0)=true then (t,0,(eT t from_ s).2) else if ((dz t.η to).2 != 0)=true then (t,0,(dz t.η to).2) else if (!f_ aJ)=true then (t,0,60)
 else if (cd t to aJ==(eT t from_ s).1)=true then (t,0,0)
 else if ((gD t.η (eT t from_ s).1).ξ==2&&j6 t.η to (eT t from_ s).1)=true then (t,0,75)
 else if (sE t (gD t.η (eT t from_ s).1) (cd t to aJ) != 0)=true then (t,0,sE t (gD t.η (eT t from_ s).1) (cd t to aJ))
 else if Jp t (eT t from_ s).1 from_ to (cd t to aJ)=true then (t,0,76)
 else (j8 (ko t (iU t (eT t from_ s).1 from_ s to aJ (cd t to aJ)) (eT t from_ s).1 to) to aJ (eT t from_ s).1,cd t to aJ,0)
def TF.iU (h:TF B t) (i from_:Int) (s:List UInt8) (to:Int) (aJ:List UInt8) (y:Int):TF (B+3) (iU t i from_ s to aJ y):=by
 unfold Go.Proofs.iU;split
 ·exact ((h.qv from_ s).qv to aJ).un y
 ·exact (h.qv from_ s).up (by omega)
def TF.ko {C:Nat} {u:ψ} (h:TF B t) (hu:TF C u) (hC:B≤C) (i to:Int):TF (C+1) (ko t u i to):=by
 have h1:=h.gE i;have h2:=h.gL i;have h3:=hu.c;have h4:=hu.x;unfold Go.Proofs.ko;split
 ·exact hu.put (by dsimp only;omega) (by dsimp only;omega) (by omega) (by omega)
 ·exact hu.up (by omega)
def nX (t:ψ) (i:Int) (x:List UInt8):ψ×Int:=if (!(gN t.η i).isSome)=true then (t,70) else if ((gD t.η i).ξ==2)=true then (t,72) else if decide ((x.length:Int)>4096)=true then (t,2) else (⟨cF ⟨(gD t.η i).ι,(gD t.η i).ξ,(gD t.η i).aZ,x,(gD t.η i).Ψ,(gD t.η i).Up⟩ t.η,t.Next,t.aj⟩,0)
def we (t:ψ) (i:Int):ψ×Int:=if (!(gN t.η i).isSome)=true then (t,70) else if ((gD t.η i).ξ==2)=true then (t,72) else if decide ((gD t.η i).aZ>0)=true then (t,71) else (⟨t.η.filter (fun x=>x.ι != i),t.Next,t.aj⟩,0)
def ak' (t:ψ) (n:UInt8):Int:=match t.η[n.toNat % (t.η.length+1)]? with|some x=>x.ι|none=>t.Next
def aen:List (List UInt8):=[[97],[98],[99],[100],[101],[46,46]]
def nmP (n:UInt8):List UInt8:=(aen[n.toNat % 6]?).getD []
end
end
section
def dY (l:List τ):Prop:=l.Pairwise (fun a b=>a.ι<b.ι)
def zM {n:τ}:∀{l:List τ},dY l→dY (cF n l)
 |[],_=>vH _ _
 |x::r,h=>by
  obtain ⟨h1,h2⟩:=eD.1 h;rw [B6];split
  ·next gA =>
   refine eD.2 ⟨fun y hy=>?_,h.filter _⟩;obtain ⟨hy,aP⟩:=ek.1 hy
   have aP:y.ι≠n.ι:=by simpa using aP
   rcases bf.1 hy with rfl|hy
   ·omega
   ·have:=h1 y hy;omega
  ·next Φ =>
   refine eD.2 ⟨fun y hy=>?_,zM h2⟩
   rcases tJ hy with rfl|⟨hy,-⟩
   ·omega
   ·exact h1 y hy
def SS {l:List τ} (h:dY l) (p:τ→Bool):dY (l.filter p):=Zo p h
def rh (x:τ) (l:List τ) (i:Int):gN (x::l) i=if x.ι=i then some x else gN l i:=by
 unfold gN;rw [Rl];by_cases h:x.ι=i
 ·rw [if_pos h];simp [h]
 ·rw [if_neg h]
  have:(x.ι==i)=false:=by simpa using h
  rw [this]
def A6 (l:List τ) (j i:Int):gN (l.filter (fun x=>x.ι != j)) i=if i=j then none else gN l i:=by
 induction l with
 |nil=>simp [gN]
 |cons x l ih =>
  rw [ic,rh];by_cases h:x.ι=j
  ·have e:(x.ι != j)=false:=by simpa using h
   rw [e,if_neg (by simp),ih];by_cases hi:i=j
   ·rw [if_pos hi,if_pos hi]
   ·rw [if_neg hi,if_neg hi,if_neg (by omega)]
  ·have e:(x.ι != j)=true:=by simpa using h
   rw [e,if_pos rfl,rh,ih];by_cases hi:i=j
   ·rw [if_pos hi,if_pos hi,if_neg (by omega)]
   ·rw [if_neg hi,if_neg hi]
def ly (n:τ) (i:Int):∀l,gN (cF n l) i=if i=n.ι then some n else gN l i
 |[]=>by
  unfold cF;rw [rh];by_cases h:i=n.ι
  ·rw [if_pos h,if_pos h.symm]
  ·rw [if_neg h,if_neg (j3 h)]
 |x::r=>by
  rw [B6];by_cases h:i=n.ι
  ·rw [if_pos h];split
   ·rw [rh,if_pos h.symm]
   ·rw [rh,if_neg (by omega),ly n i r,if_pos h]
  ·rw [if_neg h];split
   ·rw [rh,if_neg (j3 h),A6,if_neg h]
   ·rw [rh,ly n i r,if_neg h,rh]
def Cw {l:List τ} (h:dY l) {a b:τ} (ha:a∈l) (hb:b∈l) (e:a.ι=b.ι):a=b:=by
 induction l with
 |nil=>cases ha
 |cons x l ih =>
  obtain ⟨h1,h2⟩:=eD.1 h
  rcases bf.1 ha with ha|ha<;>rcases bf.1 hb with hb|hb
  ·rw [ha,hb]
  ·have:=h1 b hb;rw [←ha] at this;omega
  ·have:=h1 a ha;rw [←hb] at this;omega
  ·exact ih h2 ha hb
def yr {l:List τ} (h:dY l) {n:τ} (hn:n∈l):gN l n.ι=some n:=by
 cases e:gN l n.ι with
 |none=>exact absurd rfl (yt.1 e n hn)
 |some m=>have:=dM e;rw [Cw h this.1 hn this.2]
structure TS (t:ψ):Prop where
 s:dY t.η
 lo:∀n,n∈t.η→0≤n.ι∧n.ι<t.Next
 rt:∃n,gN t.η 1=some n∧n.ξ=2
 en:∀n,n∈t.η→∀e,e∈n.Ψ→e.ι≠1
section
variable {t:ψ}
def TS.nx (h:TS t):1<t.Next:=by
 obtain ⟨n,hn,-⟩:=h.rt;have:=dM hn;have h1:=h.lo n this.1;omega
def TS.g (h:TS t) (i:Int):(0≤(gD t.η i).ι∧(gD t.η i).ι<t.Next)∧((gD t.η i).ι=1→(gD t.η i).ξ=2)∧∀e,e∈(gD t.η i).Ψ→e.ι≠1:=by
 have hx:=h.nx
 rcases Ip t.η i with h1|h1
 ·refine ⟨h.lo _ h1,fun e=>?_,h.en _ h1⟩;obtain ⟨n,hn,hk⟩:=h.rt;have:=dM hn;rw [←Cw h.s this.1 h1 (by rw [this.2,e])];exact hk
 ·rw [h1];exact ⟨⟨xp _,by show (0:Int)<_;omega⟩,fun e=>absurd e (by show (0:Int)≠1;omega),fun e he=>by cases he⟩
def TS.put (h:TS t) {n:τ} {x c:Int} (hn:0≤n.ι∧n.ι<x) (hx:t.Next≤x) (hk:n.ι=1→n.ξ=2) (he:∀e,e∈n.Ψ→e.ι≠1):TS ⟨cF n t.η,x,c⟩:=by
 refine ⟨zM h.s,fun y hy=>?_,?_,fun y hy=>?_⟩
 ·rcases tJ hy with rfl|⟨hy,-⟩
  ·exact hn
  ·have:=h.lo y hy;dsimp only;omega
 ·obtain ⟨r,hr,kS⟩:=h.rt;dsimp only;rw [ly];by_cases e:1=n.ι
  ·exact ⟨n,if_pos e,hk e.symm⟩
  ·exact ⟨r,by rw [if_neg e,hr],kS⟩
 ·rcases tJ hy with rfl|⟨hy,-⟩
  ·exact he
  ·exact h.en y hy
def TS.drop (h:TS t) {i:Int} (hi:i≠1):TS ⟨t.η.filter (fun x=>x.ι != i),t.Next,t.aj⟩:=by
 refine ⟨SS h.s _,fun y hy=>h.lo _ (ek.1 hy).1,?_,fun y hy=>h.en _ (ek.1 hy).1⟩;obtain ⟨r,hr,kS⟩:=h.rt;exact ⟨r,by dsimp only;rw [A6,if_neg (j3 hi),hr],kS⟩
def BM {e x:aO}:∀{l:List aO},x∈nR e l↔x=e∨x∈l
 |[]=>by simp [nR]
 |y::r=>by
  rw [E0];split
  ·simp
  ·rw [bf,BM,bf];constructor
   ·rintro (h|h|h)
    ·exact .inr (.inl h)
    ·exact .inl h
    ·exact .inr (.inr h)
   ·rintro (h|h|h)
    ·exact .inr (.inl h)
    ·exact .inl h
    ·exact .inr (.inr h)
def TS.uA (h:TS t) (i:Int) (s:List UInt8) {o:Int} (ho:o≠1):TS (j8 t i s o):=by
 obtain ⟨h1,h2,h3⟩:=h.g i;refine h.put h1 (xp _) h2 fun e he=>?_
 rcases BM.1 he with rfl|he
 ·exact ho
 ·exact h3 e he
def TS.qv (h:TS t) (i:Int) (s:List UInt8):TS (eM t i s):=by
 obtain ⟨h1,h2,h3⟩:=h.g i;exact h.put h1 (xp _) h2 fun e he=>h3 e (ek.1 he).1
def TS.un (h:TS t) {i:Int} (hi:i≠1):TS (kr t i):=by
 obtain ⟨h1,h2,h3⟩:=h.g i;unfold kr;split
 ·exact h.drop hi
 ·exact h.put h1 (xp _) h2 h3
def TS.iU (h:TS t) (i from_:Int) (s:List UInt8) (to:Int) (aJ:List UInt8) {y:Int} (hy:y≠1):TS (iU t i from_ s to aJ y)∧(iU t i from_ s to aJ y).Next=t.Next:=by
 unfold Go.Proofs.iU;split
 ·refine ⟨((h.qv from_ s).qv to aJ).un hy,?_⟩;unfold kr;split<;>rfl
 ·exact ⟨h.qv from_ s,rfl⟩
def TS.ko {u:ψ} (h:TS t) (hu:TS u) (hx:u.Next=t.Next) (i to:Int):TS (ko t u i to):=by
 obtain ⟨h1,h2,h3⟩:=h.g i;unfold Go.Proofs.ko;split
 ·exact hu.put (by dsimp only;omega) (xp _) h2 h3
 ·exact hu
def nr {x:Int} (h:¬(x != 0)=true):x=0:=by simpa using h
end
end
section
def ε.same {α ρ:Type} {a b:List α} {B:Int→Option (Int⊕ρ)} {Q:ρ→Prop} (jh:a.length=b.length)
  (h1:∀(n:Nat) (x y:α),n<a.length→a[n]?=some x→b[n]?=some y→ε (B (n:Int)) (fun r=>(x=y∧r=.inl ((n:Int)+1))∨(x≠y∧∃q,r=.inr q∧(a≠b→Q q))))
  (h2:a=b→ε (B (a.length:Int)) (fun r=>∃q,r=.inr q∧Q q)):ε (Cat.loop B 0) Q:=by
 refine ε.aa8 (l:=a) (fun n=>a.take n=b.take n) (fun n x Φ hx hi=>?_) (fun hi=>?_) (by simp)
 ·have hy:=bU (show n<b.length by omega);refine (h1 n x _ Φ hx hy).mono ?_;rintro r (⟨he,rfl⟩|⟨he,q,rfl,hq⟩)
  ·exact ⟨rfl,by rw [rZ hx,rZ hy,hi,he]⟩
  ·exact hq fun e=>he (by subst e;rw [hx] at hy;exact nn hy)
 ·rw [jK,jh,jK] at hi;refine (h2 hi).mono ?_;rintro r ⟨q,rfl,hq⟩;exact hq
def HZ {x y:aO}:(x.aN==y.aN&&(x.ι==y.ι&&(x.aj==y.aj&&true)))=true↔x=y:=by
 cases x;cases y;simp
def agk (a b:List aO) (hl:a.length≤1000000):ε (FA a b) (cM (a=b)):=by
 unfold FA;refine ε.ite (fun e=>ε.ret (cM.no fun h=>?_)) fun e=>?_
 ·simp [h] at e
 have jh:a.length=b.length:=by simp at e;omega
 unfold W0;refine ε.same jh (fun n x y hn hx hy=>?_) fun he=>?_
 ·unfold FB;refine ε.cond (by simpa using hn) (ε.ai (cL hx) (ε.ai (cL hy) ?_));by_cases h:x=y
  ·rw [if_neg (by rw [HZ.2 h];simp),im (by unfold Θ;omega)];exact ε.ret (.inl ⟨h,rfl⟩)
  ·rw [if_pos (by rw [oV,←C9,HZ];exact h)];exact ⟨_,rfl,.inr ⟨h,_,rfl,fun aP=>cM.no aP⟩⟩
 ·unfold FB;exact ε.cR (by simp) ⟨_,rfl,_,rfl,cM.yes he⟩
def WW (a b:List aO) (hl:a.length≤1000000):ε (Ct a b) (cM (a=b)):=by
 unfold Ct;refine ε.ite (fun e=>ε.ret (cM.no fun h=>?_)) fun e=>?_
 ·simp [h] at e
 have jh:a.length=b.length:=by simp at e;omega
 unfold Xw;refine ε.same jh (fun n x y hn hx hy=>?_) fun he=>?_
 ·unfold Ga;refine ε.cond (by simpa using hn) (ε.ai (cL hx) (ε.ai (cL hy) ?_));by_cases h:x=y
  ·rw [if_neg (by rw [HZ.2 h];simp),im (by unfold Θ;omega)];exact ε.ret (.inl ⟨h,rfl⟩)
  ·rw [if_pos (by rw [oV,←C9,HZ];exact h)];exact ⟨_,rfl,.inr ⟨h,_,rfl,fun aP=>cM.no aP⟩⟩
 ·unfold Ga;exact ε.cR (by simp) ⟨_,rfl,_,rfl,cM.yes he⟩
def aet {a b:τ}:a=b↔a.ι=b.ι∧a.ξ=b.ξ∧a.aZ=b.aZ∧a.Up=b.Up∧a.aC=b.aC∧a.Ψ=b.Ψ:=by
 constructor
 ·rintro rfl;exact ⟨rfl,rfl,rfl,rfl,rfl,rfl⟩
 ·obtain ⟨a1,a2,a3,a4,a5,a6⟩:=a;obtain ⟨b1,b2,b3,b4,b5,b6⟩:=b;rintro ⟨h1,h2,h3,h6,h4,h5⟩;dsimp only at *;subst h1 h2 h3 h4 h5 h6;rfl
def yB (a b:τ):Bool:=a.ι==b.ι&&a.ξ==b.ξ&&a.aZ==b.aZ&&a.Up==b.Up&&a.aC==b.aC
def Be {a b:τ}:(yB a b=true∧a.Ψ=b.Ψ)↔a=b:=by
 rw [aet];unfold yB;simp [and_assoc]
def WX (a b:τ) (hl:a.Ψ.length≤1000000):ε (zS a b) (cM (a=b)):=by
 unfold zS;rw [bo (b:=a.ξ != b.ξ) (fun _=>rfl),cD,bo (b:=a.aZ != b.aZ) (fun _=>rfl),cD,bo (b:=a.Up != b.Up) (fun _=>rfl),cD,bo (b:=!(a.aC==b.aC)) (fun _=>rfl),cD,cD]
 have e:(a.ι != b.ι||a.ξ != b.ξ||a.aZ != b.aZ||a.Up != b.Up||!(a.aC==b.aC))=!yB a b:=by unfold yB;simp [bne,Bool.not_and]
 rw [e];refine ε.ite (fun h=>ε.ret (cM.no fun jh=>?_)) fun h=>?_
 ·rw [oV,←C9] at h;exact h (Be.2 jh).1
 ·have h:yB a b=true:=by simpa using h
  refine ε.bind (agk a.Ψ b.Ψ hl) fun r hr=>ε.ret (hr.trans ?_);rw [←Be];simp [h]
def WY (a b:τ) (hl:a.Ψ.length≤1000000):ε (Co a b) (cM (a=b)):=by
 unfold Co;rw [ba (b:=a.ξ==b.ξ) (fun _=>rfl),cD,ba (b:=a.aZ==b.aZ) (fun _=>rfl),cD,ba (b:=a.Up==b.Up) (fun _=>rfl),cD,ba (b:=a.aC==b.aC) (fun _=>rfl),cD];show ε (((if yB a b=true then _ else _:Option Bool).bind _).bind _) _;refine ε.bind (R:=cM (a=b)) (ε.bind (R:=cM (a=b)) ?_ fun r hr=>ε.ret hr) fun r hr=>ε.ret hr;refine ε.ite (fun h=>?_) fun h=>ε.ret (cM.no fun jh=>h (Be.2 jh).1);refine ε.bind (WW a.Ψ b.Ψ hl) fun r hr=>ε.ret (hr.trans ?_);rw [←Be];simp [h]
def agr (a b:τ) (hl:a.Ψ.length≤1000000):ε (Gq a b) (cM (a=b)):=by
 unfold Gq Hz;simp only [cD];rw [ba (b:=a.ξ==b.ξ) (fun _=>rfl),cD,ba (b:=a.aZ==b.aZ) (fun _=>rfl),cD,ba (b:=a.Up==b.Up) (fun _=>rfl),cD,ba (b:=a.aC==b.aC) (fun _=>rfl),cD];show ε (((if yB a b=true then _ else _:Option Bool).bind _).bind _) _;refine ε.bind (R:=cM (a=b)) (ε.bind (R:=cM (a=b)) ?_ fun r hr=>ε.ret hr) fun r hr=>ε.ret hr;refine ε.ite (fun h=>?_) fun h=>ε.ret (cM.no fun jh=>h (Be.2 jh).1);refine ε.bind (WW a.Ψ b.Ψ hl) fun r hr=>ε.ret (hr.trans ?_);rw [←Be];simp [h]
def agn (a b:List τ) (hl:a.length≤1000000) (he:∀n,n∈a→n.Ψ.length≤1000000):ε (FC a b) (cM (a=b)):=by
 unfold FC;refine ε.ite (fun e=>ε.ret (cM.no fun h=>?_)) fun e=>?_
 ·simp [h] at e
 have jh:a.length=b.length:=by simp at e;omega
 unfold W2;refine ε.same jh (fun n x y hn hx hy=>?_) fun he=>?_
 ·unfold FD;refine ε.cond (by simpa using hn) (ε.ai (cL hx) (ε.ai (cL hy) (ε.bind (WX x y (he x (mb hx))) fun r hr=>?_)));by_cases h:x=y
  ·rw [if_neg (by rw [hr.2 h];simp),im (by unfold Θ;omega)];exact ε.ret (.inl ⟨h,rfl⟩)
  ·rw [if_pos (by rw [oV,←C9];exact fun e=>h (hr.1 e))];exact ⟨_,rfl,.inr ⟨h,_,rfl,fun aP=>cM.no aP⟩⟩
 ·unfold FD;exact ε.cR (by simp) ⟨_,rfl,_,rfl,cM.yes he⟩
def ags (a b:List τ) (hl:a.length≤1000000) (he:∀n,n∈a→n.Ψ.length≤1000000):ε (F9 a b) (cM (a=b)):=by
 unfold F9;refine ε.ite (fun e=>ε.ret (cM.no fun h=>?_)) fun e=>?_
 ·simp [h] at e
 have jh:a.length=b.length:=by simp at e;omega
 unfold Xv;refine ε.same jh (fun n x y hn hx hy=>?_) fun he=>?_
 ·unfold F_;refine ε.cond (by simpa using hn) (ε.ai (cL hx) (ε.ai (cL hy) (ε.bind (agr x y (he x (mb hx))) fun r hr=>?_)));by_cases h:x=y
  ·rw [if_neg (by rw [hr.2 h];simp),im (by unfold Θ;omega)];exact ε.ret (.inl ⟨h,rfl⟩)
  ·rw [if_pos (by rw [oV,←C9];exact fun e=>h (hr.1 e))];exact ⟨_,rfl,.inr ⟨h,_,rfl,fun aP=>cM.no aP⟩⟩
 ·unfold F_;exact ε.cR (by simp) ⟨_,rfl,_,rfl,cM.yes he⟩
def X4 {a b:ψ}:a=b↔(a.Next=b.Next∧a.aj=b.aj)∧a.η=b.η:=by
 cases a;cases b;simp;constructor
 ·rintro ⟨h1,h2,h3⟩;exact ⟨⟨h2,h3⟩,h1⟩
 ·rintro ⟨⟨h2,h3⟩,h1⟩;exact ⟨h1,h2,h3⟩
section
variable {B:Nat} {a b:ψ}
def agp (h:TF B a) (hB:B≤100000):ε (Ca a b) (cM (a=b)):=by
 have h1:=h.n;unfold Ca;refine ε.bind (R:=cM (a=b)) (ε.bind (R:=cM (a.Next=b.Next∧a.aj=b.aj)) (ε.Hr (by simp) fun _=>ε.is (by simp)) fun c hc=>ε.bind (R:=cM ((a.Next=b.Next∧a.aj=b.aj)∧a.η=b.η)) (ε.Hr hc fun _=>ε.bind (agn a.η b.η (by omega) fun n hn=>fi (h.e n hn) (by omega)) fun r hr=>ε.ret hr) fun r hr=>ε.ret (hr.trans X4.symm)) fun r hr=>ε.ret hr
def afj (h:TF B a) (hB:B≤100000):ε (Gp a b) (cM (a=b)):=by
 have h1:=h.n;unfold Gp;refine ε.bind (R:=cM (a=b)) (ε.bind (R:=cM (a.Next=b.Next∧a.aj=b.aj)) (ε.Hr (by simp) fun _=>ε.is (by simp)) fun c hc=>ε.bind (R:=cM ((a.Next=b.Next∧a.aj=b.aj)∧a.η=b.η)) (ε.Hr hc fun _=>ε.bind (ags a.η b.η (by omega) fun n hn=>fi (h.e n hn) (by omega)) fun r hr=>ε.ret hr) fun r hr=>ε.ret (hr.trans X4.symm)) fun r hr=>ε.ret hr
end
end
section
def yd {x y:Int}:(gS x y==0)=true↔x=y:=by unfold gS;split<;>(try split)<;>simp<;>omega
def VN (a b:Nat) (h:a+b≤1000000000000):IntKind.i64.wrap (eV .u64 (IntKind.u64.wrap ((a:Int)+(b:Int))) 1)=(((a+b)/2:Nat):Int):=by
 have e1:(a:Int)+(b:Int)=((a+b:Nat):Int):=by omega
 rw [e1,GQ rfl (by show a+b<2 ^ 64;omega)];have e2:eV .u64 ((a+b:Nat):Int) 1=(((a+b)>>>1:Nat):Int):=PL (b:=1) (by decide);rw [e2,Nat.shiftRight_eq_div_pow];exact IntWalk.i64_in _ ⟨by omega,by omega⟩
def Gj {l:List τ} (h:dY l) {j k:Nat} {x y:τ} (hx:l[j]?=some x) (hy:l[k]?=some y) (py:j<k):x.ι<y.ι:=by
 obtain ⟨h1,rfl⟩:=fh.1 hx;obtain ⟨h2,rfl⟩:=fh.1 hy;exact vG.1 h j k h1 h2 py
def Wg {l:List τ} (hs:dY l) (hl:l.length≤1000000) (i:Int):ε (Cr l i) (fun r=>0≤r.1∧(if r.2=true then r.1 else -1)=oI (l.findIdx? (fun n=>n.ι==i))):=by
 unfold Cr Xu;refine ε.bind (R:=fun v:Int=>∃k:Nat,v=k∧k≤l.length∧(∀j x,j<k→l[j]?=some x→x.ι<i)∧(∀j x,k≤j→l[j]?=some x→i≤x.ι)) ?_ fun v hv=>?_
 ·refine ε.loop (fun s:Int×Int=>∃a b:Nat,s=((a:Int),(b:Int))∧a≤b∧b≤l.length∧(∀j x,j<a→l[j]?=some x→x.ι<i)∧(∀j x,b≤j→l[j]?=some x→i≤x.ι)) (fun s=>(s.2-s.1).toNat) ?_ _ ⟨0,l.length,rfl,by omega,by omega,fun j x h=>by omega,fun j x h hx=>by rw [Rm (by omega)] at hx;cases hx⟩;rintro s ⟨a,b,rfl,jh,hb,kT,kP⟩;unfold Ko;dsimp only;by_cases Φ:a<b
  ·refine ε.cond (by simpa using Φ) (ε.Ω (by unfold Θ;omega) ?_);rw [VN a b (by omega)]
   have hm:(a+b)/2<l.length:=by omega
   have hx:=bU hm;refine ε.ai (cL hx) (ε.ai (a:=gS l[(a+b)/2].ι i) (by unfold Cl;rw [xe];rfl) ?_);refine ε.ite (fun e=>ε.Ω (by unfold Θ;omega) (ε.inl ⟨⟨(a+b)/2+1,b,rfl,by omega,hb,fun j x hj yO=>?_,kP⟩,by dsimp only;omega⟩)) fun e=>ε.inl ⟨⟨a,(a+b)/2,rfl,by omega,by omega,kT,fun j x hj yO=>?_⟩,by dsimp only;omega⟩
   ·have hc:l[(a+b)/2].ι<i:=jx.1 (by simpa using e)
    rcases gI j ((a+b)/2) with h|h
    ·have:=Gj hs yO hx h;omega
    ·have:j=(a+b)/2:=by omega
     subst this;rw [hx] at yO;cases yO;exact hc
   ·have hc:¬l[(a+b)/2].ι<i:=fun h=>e (by simpa using jx.2 h)
    rcases gI ((a+b)/2) j with h|h
    ·have:=Gj hs hx yO h;omega
    ·have:j=(a+b)/2:=by omega
     subst this;rw [hx] at yO;cases yO;omega
  ·have:a=b:=by omega
   subst this;exact ε.cR (by simp) (ε.out (ε.ret ⟨a,rfl,hb,kT,kP⟩))
 ·obtain ⟨k,rfl,hk,kT,kP⟩:=hv;by_cases II:k<l.length
  ·have hx:=bU II;refine ε.bind (R:=(·=(gS l[k].ι i==0))) (ε.bind (R:=(·=(gS l[k].ι i==0))) (ε.cond (by simpa using II) (ε.ai (cL hx) (ε.ai (a:=gS l[k].ι i) (by unfold Cl;rw [xe];rfl) (ε.ret rfl)))) fun r hr=>ε.ret hr) fun r hr=>ε.ret ?_;subst hr;dsimp only;refine ⟨Zl k,?_⟩;by_cases he:l[k].ι=i
   ·rw [if_pos (yd.2 he)]
    have:l.findIdx? (fun n=>n.ι==i)=some k:=by
     rw [Lb];refine ⟨II,by simpa using he,fun j hj=>?_⟩;have:=kT j _ hj (bU (by omega));simp;omega
    rw [this];rfl
   ·rw [if_neg (fun h=>he (yd.1 h))]
    have:l.findIdx? (fun n=>n.ι==i)=none:=by
     rw [xu];intro x gr;obtain ⟨j,hj⟩:=tz gr
     rcases Lh j k with h|h|h
     ·have:=kT j x h hj;simp;omega
     ·subst h;rw [hx] at hj;cases hj;simpa using he
     ·have:=Gj hs hx hj h;have:=kP k _ (bG _) hx;simp;omega
    rw [this];rfl
  ·refine ε.bind (R:=(·=false)) (ε.bind (R:=(·=false)) (ε.cR (by simpa using II) (ε.ret rfl)) fun r hr=>ε.ret hr) fun r hr=>ε.ret ?_;subst hr;dsimp only;refine ⟨Zl k,?_⟩
   have:l.findIdx? (fun n=>n.ι==i)=none:=by
    rw [xu];intro x gr;obtain ⟨j,hj⟩:=tz gr;have:=kT j x (by have:=(My hj).1;omega) hj;simp;omega
   rw [this];rfl
def Wm {l:List τ} (hs:dY l) (hl:l.length≤1000000) (i:Int):Ck l i=some (oI (l.findIdx? (fun n=>n.ι==i))):=by
 refine ε.eq ?_;unfold Ck;refine ε.bind (Wg hs hl i) fun r hr=>?_;obtain ⟨k,b⟩:=r;cases b with
 |true=>exact ε.cR (by simp) (ε.ret hr.2)
 |false=>exact ε.cond rfl (ε.ret hr.2)
def afy {t:ψ} (hs:dY t.η) (hl:t.η.length≤1000000) (i:Int):ε (t_ ⟨t⟩ i) (fun r=>r.2=⟨t⟩∧0≤r.1.1∧(if r.1.2=true then r.1.1 else -1)=oI (t.η.findIdx? (fun n=>n.ι==i))):=by
 unfold t_;show ε ((Cr t.η i).bind _) _;exact ε.bind (Wg hs hl i) fun r hr=>ε.ret ⟨rfl,hr⟩
def rS {t:ψ} (hs:dY t.η) (hl:t.η.length≤1000000) (i:Int):m_ ⟨t⟩ i=some ((gD t.η i,(gN t.η i).isSome),⟨t⟩):=by
 refine ε.eq ?_;unfold m_;refine ε.bind (afy hs hl i) fun r hr=>?_;obtain ⟨⟨k,b⟩,g⟩:=r;obtain ⟨rfl,hk,hr⟩:=hr;dsimp only at hk hr ⊢;unfold gD gN;cases h:t.η.findIdx? (fun n=>n.ι==i) with
 |none =>
  rw [h] at hr;rw [DN h];cases b with
  |false=>exact ε.cond rfl (ε.ret rfl)
  |true=>rw [if_pos rfl] at hr;have:k=-1:=hr;omega
 |some n =>
  obtain ⟨x,hx,hf,-⟩:=sO h;rw [h] at hr;rw [hf];cases b with
  |false=>rw [if_neg (by simp)] at hr;have:(-1:Int)=(n:Int):=hr;omega
  |true =>
   rw [if_pos rfl] at hr;have:k=(n:Int):=hr;subst this;exact ε.cR (by simp) (ε.ai (cL hx) (ε.ret rfl))
def tG {t:ψ} (hs:dY t.η) (hl:t.η.length≤1000000) (i:Int):l7 t i=some (gD t.η i,(gN t.η i).isSome):=by
 unfold l7;rw [rS hs hl];rfl
def rW (l:List bd) (f u:Int):Bool:=l.any fun x=>decide (x.At≥f)&&decide (x.At<u)
def WA (l:List bd) (f u:Int) (hl:l.length≤1000000):Cp l f u=some (rW l f u):=by
 unfold Cp Kr Ky Xy;rw [OE (b:=l) (fun x=>decide (x.At≥f)&&decide (x.At<u)) (fun n _=>(n:Int)) (-1)]
 ·rw [cD,cD];refine congrArg some ?_;unfold rW;cases h:l.findIdx? (fun x=>decide (x.At≥f)&&decide (x.At<u)) with
  |none =>
   rw [xu] at h;symm;show _=false;rw [pY];intro x hx;simpa using h x hx
  |some n =>
   obtain ⟨x,hx,-,hp⟩:=sO h;rw [Dc.2 ⟨x,mb hx,hp⟩];simp only [hx];simp
 ·intro n x hx hn;unfold Gc Ki;rw [if_pos (by simpa using hn),cL hx,cD];rw [ba (b:=decide (x.At<u)) (fun _=>rfl),cD,cD,cD,im (by unfold Θ;omega)];rfl
 ·unfold Gc;rw [if_neg (by simp)];rfl
end
section
open Classical in
noncomputable def vg (s:bx) (t:ψ) (p:τ×Int):Bool:=decide (gN t.η p.1.ι≠some p.1)&&rW s.aW p.2 (s.bc+1)
noncomputable def Fv (s:bx) (t:ψ):List br:=((s.Γ.η.zip s.a_).filter (vg s t)).map fun p=>⟨p.2,s.bc+1,p.1⟩
open Classical in
noncomputable def vk (s:bx) (n:τ):Int:=match s.Γ.η.findIdx? (fun m=>decide (m=n)) with|some k=>(s.a_[k]?).getD 0|none=>s.bc+1
open Classical in
noncomputable def eY (s:bx) (t:ψ):bx:=if s.Γ=t then s else ⟨t,s.bc+1,t.η.map (vk s),s.aU++Fv s t,s.aW,s.Next⟩
open Classical in
def ahg {s:bx} (hs:dY s.Γ.η) {k:Nat} {n:τ} (hn:s.Γ.η[k]?=some n):vk s n=(s.a_[k]?).getD 0:=by
 unfold vk
 have:s.Γ.η.findIdx? (fun m=>decide (m=n))=some k:=by
  rw [Lb];obtain ⟨h1,h2⟩:=fh.1 hn;refine ⟨h1,by simpa using h2,fun j hj=>?_⟩;have:=Gj hs (bU (show j<s.Γ.η.length by omega)) hn hj;simp only [decide_eq_true_eq];intro e;rw [e] at this;omega
 rw [this]
open Classical in
def Xr {s:bx} {n:τ} (hn:n∉s.Γ.η):vk s n=s.bc+1:=by
 unfold vk
 have:s.Γ.η.findIdx? (fun m=>decide (m=n))=none:=by
  rw [xu];intro x hx;simp only [decide_eq_false_iff_not];intro e;exact hn (e▸hx)
 rw [this]
def QN {l:List τ} {m:List Int} {k:Nat} {p:τ×Int} (h:(l.zip m)[k]?=some p):l[k]?=some p.1∧m[k]?=some p.2:=by
 rw [Zy] at h;exact h
structure PF (B:Nat) (s:bx) (t:ψ):Prop where
 f:TF B s.Γ
 ft:TF B t
 b:B≤90000
 so:dY s.Γ.η
 st:dY t.η
 si:s.a_.length=s.Γ.η.length
 tk:0≤s.bc∧s.bc≤1000000
 ps:s.aU.length≤1000000
 ta:s.aW.length≤1000000
section
variable {B:Nat} {s:bx} {t:ψ}
def PF.zl (h:PF B s t):(s.Γ.η.zip s.a_).length=s.Γ.η.length:=by rw [alM,h.si];omega
open Classical in
open Classical in
def afQ (h:PF B s t):PG s t (0,s.aU)=some (s.aU++Fv s t):=by
 have h1:=h.f.n;have h2:=h.ft.n;have h3:=h.b;have h4:=h.tk;have h5:=h.ps;have h6:=h.ta;have hz:=h.zl;refine ε.eq ?_;unfold PG Fv;rw [←hz] at h1;refine ε.each (l:=s.Γ.η.zip s.a_) (fun k a=>a=s.aU++(((s.Γ.η.zip s.a_).take k).filter (vg s t)).map fun p=>⟨p.2,s.bc+1,p.1⟩) (fun k p a Φ hp ha=>?_) (fun a ha=>?_) _ (by simp)
 ·obtain ⟨hx,hq⟩:=QN hp
  have aR:a.length≤1000000+k:=by
   rw [ha,dj,az];have:=l_ (vg s t) ((s.Γ.η.zip s.a_).take k);rw [dR] at this;omega
  unfold FN;refine ε.cond (by simp;omega) ?_;dsimp only;refine ε.bind (R:=(·=s.aU++(((s.Γ.η.zip s.a_).take (k+1)).filter (vg s t)).map fun p=>⟨p.2,s.bc+1,p.1⟩)) ?_ fun v hv=>ε.Ω (by unfold Θ;omega) (ε.inl ⟨rfl,hv⟩);rw [rZ hp,uh,fu,←lN,←ha];refine ε.ai (cL hx) (ε.ai (Wm h.st (by omega) _) ?_);refine ε.bind (R:=(·=vg s t p)) (ε.bind (R:=cM (gN t.η p.1.ι≠some p.1)) ?_ fun r hr=>ε.bind (R:=(·=vg s t p)) ?_ fun r hr=>ε.ret hr) fun r hr=>?_
  ·rw [aey];cases hg:t.η.findIdx? (fun n=>n.ι==p.1.ι) with
   |none=>exact ε.cond rfl (ε.ret (cM.yes (by unfold gN;rw [DN hg];simp)))
   |some j =>
    obtain ⟨m,hm,hf,-⟩:=sO hg;refine ε.cR (by simp) ?_;show ε ((idx t.η (j:Int)).bind _) _;refine ε.ai (cL hm) (ε.bind (WY p.1 m (fi (h.f.e _ (mb hx)) (by omega))) fun r hr=>ε.ret ((cM.not hr).trans ?_));unfold gN;rw [hf];simp [eq_comm]
  ·unfold vg;refine ε.ite (fun e=>ε.ai (cL hq) (ε.ai (WA _ _ _ (by omega)) (ε.ret ?_))) fun e=>ε.ret ?_
   ·rw [decide_eq_true (hr.1 e)];rfl
   ·rw [decide_eq_false (fun h=>e (hr.2 h))];rfl
  ·subst hr;refine ε.ite (fun e=>ε.ai (cL hq) (ε.Ω (by simp only [cZ,ig];omega) (ε.ret ?_))) fun e=>ε.ret ?_
   ·rw [ic,e];simp
   ·rw [C9] at e;rw [ic,e];simp
 ·unfold FN;rw [jK] at ha;exact ε.cR (by rw [hz];simp) (ε.out (ε.ret ha))
open Classical in
def afW (h:PF B s t):PH t s (0,[])=some (t.η.map (vk s)):=by
 have h1:=h.f.n;have h2:=h.ft.n;have h3:=h.b;have h4:=h.tk;refine ε.eq ?_;unfold PH;refine ε.each (l:=t.η) (fun k a=>a=(t.η.take k).map (vk s)) (fun k n a Φ hn ha=>?_) (fun a ha=>?_) _ rfl
 ·have aR:a.length≤k:=by rw [ha,az,dR];omega
  unfold FO;refine ε.cond (by simp;omega) ?_;dsimp only;refine ε.ai (cL hn) ?_;refine ε.bind (R:=(·=vk s n)) ?_ fun v hv=>ε.Ω (by simp only [cZ,ig];omega) (ε.Ω (by unfold Θ;omega) (ε.inl ⟨rfl,by rw [hv,rZ hn,fu,←ha];rfl⟩));refine ε.ai (Wm h.so (by omega) _) ?_;rw [V0];cases hg:s.Γ.η.findIdx? (fun m=>m.ι==n.ι) with
  |none =>
   refine ε.bind (R:=(·=false)) (ε.bind (R:=(·=false)) (ε.cR (by simp) (ε.ret rfl)) fun r hr=>ε.ret hr) fun r hr=>ε.cR (by rw [hr];simp) (ε.ret ?_);rw [xu] at hg;exact (Xr fun hm=>by simpa using hg n hm).symm
  |some j =>
   obtain ⟨m,hm,-,hp⟩:=sO hg;have hj:=(My hm).1;have hq:=bU (show j<s.a_.length by rw [h.si];omega);refine ε.bind (R:=cM (n=m)) (ε.bind (R:=cM (n=m)) (ε.cond (by simp) ?_) fun r hr=>ε.ret hr) fun r hr=>?_
   ·show ε ((idx s.Γ.η (j:Int)).bind _) _;exact ε.ai (cL hm) (ε.bind (WY n m (fi (h.ft.e _ (mb hn)) (by omega))) fun r hr=>ε.ret hr)
   ·refine ε.ite (fun e=>?_) fun e=>ε.ret ?_
    ·show ε ((idx s.a_ (j:Int)).bind _) _;refine ε.ai (cL hq) (ε.ret ?_);rw [ahg h.so (by rw [hr.1 e];exact hm),hq];rfl
    ·refine (Xr fun bI=>e (hr.2 ?_)).symm;exact Cw h.so bI (mb hm) (by simp only [beq_iff_eq] at hp;exact hp.symm)
 ·unfold FO;rw [jK] at ha;exact ε.cR (by simp) (ε.out (ε.ret ha))
def OY (h:PF B s t):tU s t=some (eY s t):=by
 have h3:=h.b;have h4:=h.tk;have h5:=h.ps;refine ε.eq ?_;unfold tU eY;refine ε.bind (afj h.f (by omega)) fun r hr=>ε.ite (fun e=>ε.ret (by rw [if_pos (hr.1 e)])) fun e=>?_;rw [if_neg (fun h=>e (hr.2 h))];exact ε.Ω (by unfold Θ;omega) (ε.ai (abf _ (by omega)) (ε.ai (afQ h) (ε.ai (afW h) (ε.ret rfl))))
end
end
section
def nZ (s:bx) (i:Int):bx×Int×Int:=if (!(gN s.Γ.η i).isSome)=true then (s,0,70) else if ((gD s.Γ.η i).ξ != 2)=true then (s,0,73) else if (decide ((s.aW.length:Int)≥16)||decide (s.Next≥1099511627776))=true then (s,0,76) else (⟨s.Γ,s.bc,s.a_,s.aU,s.aW++[⟨s.Next,i,s.bc⟩],s.Next+1⟩,s.Next,0)
def afl (s:bx) (i:Int) (hs:dY s.Γ.η) (hl:s.Γ.η.length≤1000000) (ht:s.aW.length≤1000000) (hn:0≤s.Next∧s.Next≤1000000):Cj s i=some (nZ s i):=by
 unfold Cj nZ;rw [tG hs hl,cD];dsimp only;split
 ·rfl
 split
 ·rfl
 rw [bo (b:=decide (s.Next≥1099511627776)) (fun _=>rfl),cD,cD];split
 ·rfl
 rw [abg _ (by omega),cD,im (by simp only [cZ,ig];omega),im (by unfold Θ;omega)]
def oz (s:bx) (i:Int):List bd:=s.aW.filter fun x=>x.Id != i
def zt (l:List br) (T:List bd):List br:=l.filter fun p=>rW T p.lS p.i_
def pa (s:bx) (i:Int):bx×Int:=if (((oz s i).length:Int)==(s.aW.length:Int))=true then (s,100) else (⟨s.Γ,s.bc,s.a_,zt s.aU (oz s i),oz s i,s.Next⟩,0)
def Sx (s:bx) (i:Int):(oz s i).length≤s.aW.length:=l_ _ _
def aeQ (s:bx) (i:Int) (ht:s.aW.length≤1000000) (hp:s.aU.length≤1000000):Ci s i=some (pa s i):=by
 refine ε.eq ?_;have hd:=Sx s i;unfold Ci pa Kl Xq;refine ε.bind (R:=(·=oz s i)) (ε.bind (R:=(·=oz s i)) (ε.each (l:=s.aW) (fun k a=>a=(s.aW.take k).filter fun x=>x.Id != i) (fun k x a Φ hx ha=>?_) (fun a ha=>?_) _ rfl) fun v hv=>ε.ret hv) fun v hv=>?_
 ·unfold FW Kf
  have aR:a.length≤k:=by rw [ha];exact fi (l_ _ _) (by rw [dR];omega)
  refine ε.cond (by simpa using Φ) ?_;dsimp only;rw [cL hx,cD,cD];by_cases aP:(x.Id != i)=true
  ·rw [if_pos aP];exact ε.ai (im (by simp only [cZ,ig];omega)) (ε.Ω (by unfold Θ;omega) (ε.inl ⟨rfl,by rw [rZ hx,uh,←ha,ic,if_pos aP];rfl⟩))
  ·rw [if_neg aP];exact ε.ai rfl (ε.Ω (by unfold Θ;omega) (ε.inl ⟨rfl,by rw [rZ hx,uh,←ha,ic,if_neg aP];simp⟩))
 ·unfold FW;rw [jK] at ha;exact ε.cR (by simp) (ε.out (ε.ret ha))
 subst hv;refine ε.ite (fun e=>ε.ret (by rw [if_pos e])) fun e=>?_;rw [if_neg e];unfold Kj Xp;refine ε.bind (R:=(·=zt s.aU (oz s i))) (ε.bind (R:=(·=zt s.aU (oz s i))) (ε.each (l:=s.aU) (fun k a=>a=zt (s.aU.take k) (oz s i)) (fun k x a Φ hx ha=>?_) (fun a ha=>?_) _ rfl) fun v hv=>ε.ret hv) fun v hv=>ε.ret (by rw [hv])
 ·unfold FV Kg
  have aR:a.length≤k:=by rw [ha];exact fi (l_ _ _) (by rw [dR];omega)
  refine ε.cond (by simpa using Φ) ?_;dsimp only;rw [cL hx,cD,WA _ _ _ (by omega),cD,cD];unfold zt at *;by_cases aP:rW (oz s i) x.lS x.i_=true
  ·rw [if_pos aP];exact ε.ai (im (by simp only [cZ,ig];omega)) (ε.Ω (by unfold Θ;omega) (ε.inl ⟨rfl,by rw [rZ hx,uh,←ha,ic,if_pos aP];rfl⟩))
  ·rw [if_neg aP];exact ε.ai rfl (ε.Ω (by unfold Θ;omega) (ε.inl ⟨rfl,by rw [rZ hx,uh,←ha,ic,if_neg aP];simp⟩))
 ·unfold FV;rw [jK] at ha;exact ε.cR (by simp) (ε.out (ε.ret ha))
def ala (s:bx) (n:UInt8):Int:=match s.aW[n.toNat % (s.aW.length+1)]? with|some x=>x.Id|none=>agi .i64 (n.toNat:Int) 8
structure SI (k:Nat) (s:bx):Prop where
 f:TF (2+5*k) s.Γ
 t:TS s.Γ
 si:s.a_.length=s.Γ.η.length
 tk:0≤s.bc∧s.bc≤k
 nx:1≤s.Next∧s.Next≤(k:Int)+1
 sn:∀q,q∈s.a_→0≤q∧q≤s.bc
 ta:s.aW.length≤k
 ps:s.aU.length≤2000*k
 pe:∀p,p∈s.aU→p.fj.Ψ.length≤2+5*k
 id:s.aW.Pairwise (fun x y=>x.Id<y.Id)
 ti:∀x,x∈s.aW→(1≤x.Id∧x.Id<s.Next)∧0≤x.At∧x.At≤s.bc
 pt:∀p,p∈s.aU→(0≤p.lS∧p.lS<p.i_∧p.i_≤s.bc)∧rW s.aW p.lS p.i_=true
section
variable {k:Nat} {s:bx}
def SI.up (h:SI k s) {j:Nat} (hj:k≤j):SI j s :=
 ⟨h.f.up (by omega),h.t,h.si,by have:=h.tk;omega,by have:=h.nx;omega,h.sn,by have:=h.ta;omega,by have:=h.ps;omega,fun p hp=>by have:=h.pe p hp;omega,h.id,h.ti,h.pt⟩
def aha {l m:List bd} {f u:Int} (h:rW l f u=true) (hs:∀x,x∈l→x∈m):rW m f u=true:=by
 unfold rW at *;rw [Dc] at *;obtain ⟨x,hx,hp⟩:=h;exact ⟨x,hs x hx,hp⟩
def SI.take (h:SI k s) (i:Int):SI (k+1) (nZ s i).1:=by
 have h0:=h.up (j:=k+1) (by omega);have gC:=h.tk;have hnx:=h.nx;unfold nZ;split
 ·exact h0
 split
 ·exact h0
 split
 ·exact h0
 refine ⟨h0.f,h.t,h.si,h0.tk,by dsimp only;omega,h.sn,by have:=h.ta;simp;omega,h0.ps,h0.pe,?_,fun x hx=>?_,fun p hp=>⟨(h.pt p hp).1,aha (h.pt p hp).2 fun x hx=>qR _ hx⟩⟩
 ·refine vF.2 ⟨h.id,vH _ _,fun x hx y hy=>?_⟩;obtain rfl:=dC.1 hy;have:=h.ti x hx;dsimp only;omega
 ·rcases gl.1 hx with hx|hx
  ·have:=h.ti x hx;dsimp only;omega
  ·obtain rfl:=dC.1 hx;dsimp only;omega
def SI.drop (h:SI k s) (i:Int):SI k (pa s i).1:=by
 unfold pa;split
 ·exact h
 refine ⟨h.f,h.t,h.si,h.tk,h.nx,h.sn,by have:=h.ta;have:=Sx s i;dsimp only;omega,?_,fun p hp=>h.pe p (ek.1 hp).1,h.id.filter _,fun x hx=>h.ti x (ek.1 hx).1,fun p hp=>⟨(h.pt p (ek.1 hp).1).1,(ek.1 hp).2⟩⟩;have:=h.ps;have:=l_ (fun p=>rW (oz s i) p.lS p.i_) s.aU;unfold zt;dsimp only;omega
end
def Qp:ψ:=⟨[⟨1,2,0,[],[],1⟩],2,1⟩
def Cq:bx:=⟨Qp,0,[0],[],[],1⟩
def RN:SI 0 Cq:=by
 refine ⟨⟨by decide,fun n hn=>?_,fun n hn=>?_,by decide,by decide⟩,⟨vH _ _,fun n hn=>?_,⟨_,rfl,rfl⟩,fun n hn e he=>?_⟩,rfl,by decide,by decide,fun q hq=>?_,by decide,by decide,fun p hp=>(by cases hp),jr,fun x hx=>(by cases hx),fun p hp=>(by cases hp)⟩;iterate 3 (obtain rfl:=dC.1 hn;decide)
 ·obtain rfl:=dC.1 hn;cases he
 ·obtain rfl:=dC.1 hq;decide
def flat (s:bx):List τ×Int×Int×Int×List Int×List br×List bd×Int:=(s.Γ.η,s.Γ.Next,s.Γ.aj,s.bc,s.a_,s.aU,s.aW,s.Next)
end
section
def Hv:∀x:List UInt8,fX x x=false
 |[]=>rfl
 |a::x=>by
  have:=Hv x;simp only [fX,this,Bool.and_false,Bool.or_false];simp
def LP:∀{x y z:List UInt8},fX x y=true→fX y z=true→fX x z=true
 |[],_,[],_,h=>by cases ‹List UInt8›<;>simp [fX] at h
 |[],_,_::_,_,_=>rfl
 |_::_,[],_,h,_=>by simp [fX] at h
 |_::_,_::_,[],_,h=>by simp [fX] at h
 |a::x,b::y,c::z,h1,h2=>by
  simp only [fX,ug,bE,decide_eq_true_eq,beq_iff_eq] at *
  rcases h1 with h1|⟨rfl,h1⟩<;>rcases h2 with h2|⟨rfl,h2⟩
  ·exact .inl (UInt8.lt_trans h1 h2)
  ·exact .inl h1
  ·exact .inl h2
  ·exact .inr ⟨rfl,LP h1 h2⟩
def R3:∀x y:List UInt8,fX x y=true∨x=y∨fX y x=true
 |[],[]=>.inr (.inl rfl)
 |[],_::_=>.inl rfl
 |_::_,[]=>.inr (.inr rfl)
 |a::x,b::y=>by
  simp only [fX,ug,bE,decide_eq_true_eq,beq_iff_eq]
  rcases Lh a.toNat b.toNat with h|h|h
  ·exact .inl (.inl (ZR.2 h))
  ·have:a=b:=UInt8.toNat_inj.1 h;subst this
   rcases R3 x y with h|h|h
   ·exact .inl (.inr ⟨rfl,h⟩)
   ·exact .inr (.inl (by rw [h]))
   ·exact .inr (.inr (.inr ⟨rfl,h⟩))
  ·exact .inr (.inr (.inl (ZR.2 h)))
def cE (l:List aO) (i:Int):Nat:=l.countP fun e=>e.ι==i
def dD (l:List τ) (i:Int):Nat:=(l.map fun n=>cE n.Ψ i).sum
def vT {l:List aO} {i:Int}:0<cE l i↔∃e,e∈l∧e.ι=i:=by
 unfold cE;rw [List.countP_pos_iff];simp
def DA {l:List τ} {i:Int}:0<dD l i↔∃n,n∈l∧∃e,e∈n.Ψ∧e.ι=i:=by
 induction l with
 |nil=>simp [dD]
 |cons x l ih =>
  have:dD (x::l) i=cE x.Ψ i+dD l i:=by simp [dD]
  rw [this];constructor
  ·intro h
   rcases oW (cE x.Ψ i) with h0|h0
   ·obtain ⟨n,hn,h⟩:=ih.1 (by omega);exact ⟨n,cu _ hn,h⟩
   ·exact ⟨x,by simp,vT.1 h0⟩
  ·rintro ⟨n,hn,h⟩
   rcases bf.1 hn with rfl|hn
   ·have:=vT.2 h;omega
   ·have:=ih.2 ⟨n,hn,h⟩;omega
def ye (x:τ) (l:List τ) (i:Int):dD (x::l) i=cE x.Ψ i+dD l i:=by simp [dD]
def Td (x:τ) (l:List τ) (i:Int):gD (x::l) i=if x.ι=i then x else gD l i:=by
 unfold gD;rw [rh];split<;>rfl
def Si {l:List τ} (h:dY l) (j i:Int):dD (l.filter (fun x=>x.ι != j)) i+cE (gD l j).Ψ i=dD l i:=by
 induction l with
 |nil=>rfl
 |cons x l ih =>
  obtain ⟨h1,h2⟩:=eD.1 h;rw [ic,ye,Td];by_cases e:x.ι=j
  ·have:l.filter (fun x=>x.ι != j)=l:=by
    rw [ui];intro y hy;have:=h1 y hy;simp;omega
   rw [if_neg (by simp [e]),if_pos e,this];omega
  ·rw [if_pos (by simpa using e),if_neg e,ye,←ih h2];omega
def DB {n:τ} (i:Int):∀{l:List τ},dY l→dD (cF n l) i+cE (gD l n.ι).Ψ i=dD l i+cE n.Ψ i
 |[],_=>by
  show dD [n] i+cE jX.Ψ i=dD [] i+cE n.Ψ i;rw [ye];simp [dD,jX,cE]
 |x::r,h=>by
  obtain ⟨h1,h2⟩:=eD.1 h;rw [B6];by_cases e:x.ι≥n.ι
  ·rw [if_pos e,ye];have:=Si h n.ι i;omega
  ·rw [if_neg e,ye,ye,Td,if_neg (by omega)];have:=DB (n:=n) i h2;omega
def JR {n:τ}:∀{l:List τ},dY l→(gN l n.ι).isSome=true→(cF n l).length=l.length
 |[],_,hp=>by simp [gN] at hp
 |x::r,h,hp=>by
  obtain ⟨h1,h2⟩:=eD.1 h;rw [B6];rw [rh] at hp;by_cases e:x.ι≥n.ι
  ·rw [if_pos e];by_cases e2:x.ι=n.ι
   ·have:r.filter (fun y=>y.ι != n.ι)=r:=by
     rw [ui];intro y hy;have:=h1 y hy;simp;omega
    rw [ic,if_neg (by simp [e2]),this];rfl
   ·rw [if_neg e2] at hp;obtain ⟨m,hm⟩:=nk.1 hp;have:=dM hm;have:=h1 m this.1;omega
  ·rw [if_neg e];rw [if_neg (by omega)] at hp;simp only [cZ,JR h2 hp]
inductive Deep (l:List τ):Int→Nat→Prop
 |root:Deep l 1 0
 |step {i:Int} {n:τ} {d:Nat}:i≠1→gN l i=some n→n.ξ=2→Deep l n.Up d→Deep l i (d+1)
def Deep.uniq {l:List τ} {i:Int} {a:Nat} (h:Deep l i a):∀{b:Nat},Deep l i b→a=b:=by
 induction h with
 |root=>intro b hb;cases hb with|root=>rfl|step h1=>exact absurd rfl h1
 |step h1 h2 h3 h4 ih =>
  intro b hb;cases hb with
  |root=>exact absurd rfl h1
  |step g1 g2 g3 g4=>rw [h2] at g2;cases g2;rw [ih g4]
def Deep.congr {l l':List τ} (H:∀j n,gN l j=some n→n.ξ=2→∃n',gN l' j=some n'∧n'.ξ=n.ξ∧n'.Up=n.Up) {i:Int} {d:Nat} (h:Deep l i d):Deep l' i d:=by
 induction h with
 |root=>exact .root
 |step h1 h2 h3 h4 ih =>
  obtain ⟨n',e1,e2,e3⟩:=H _ _ h2 h3;exact .step h1 e1 (by rw [e2,h3]) (by rw [e3];exact ih)
structure xC (c:Int) (l:List aO):Prop where
 n:l.length≤64
 s:l.Pairwise fun a b=>fX a.aN b.aN=true
 r:∀e,e∈l→f_ e.aN=true∧1≤e.aj∧e.aj<c
 k:l.Pairwise fun a b=>a.aj≠b.aj
def RD (l:List τ) (δ:Int→Nat) (n:τ):Prop:=n.ξ=1∧n.Ψ=[]∧n.Up=0∧n.aC.length≤4096∧n.aZ=(dD l n.ι:Int)+δ n.ι
def RM (l:List τ) (δ:Int→Nat) (n:τ):Prop:=n.ι=1∧n.Up=1∧n.aZ=0∧dD l 1=0∧δ 1=0
def Lx (l:List τ) (δ:Int→Nat) (n:τ):Prop:=n.ι≠1∧dD l n.ι+δ n.ι=1∧n.aZ=1∧(δ n.ι=0→∃p,gN l n.Up=some p∧∃e,e∈p.Ψ∧e.ι=n.ι)
def xI (l:List τ) (δ:Int→Nat) (n:τ):Prop:=RD l δ n∨(n.ξ=2∧n.aC=[]∧(RM l δ n∨Lx l δ n))
structure W (t:ψ) (δ:Int→Nat):Prop where
 s:dY t.η
 lo:∀n,n∈t.η→1≤n.ι∧n.ι<t.Next
 rt:∃n,gN t.η 1=some n∧n.ξ=2
 len:t.η.length≤200
 ck:1≤t.aj
 en:∀n,n∈t.η→xC t.aj n.Ψ
 cl:∀n,n∈t.η→∀e,e∈n.Ψ→(gN t.η e.ι).isSome=true
 nd:∀n,n∈t.η→xI t.η δ n
 dp:∀n,n∈t.η→n.ξ=2→∃d,Deep t.η n.ι d∧d≤12∧(d=12→n.Ψ=[])
def xI.kind {l:List τ} {δ:Int→Nat} {n:τ} (h:xI l δ n):n.ξ=1∨n.ξ=2:=by
 rcases h with h|h
 ·exact .inl h.1
 ·exact .inr h.1
section
variable {t:ψ} {δ:Int→Nat}
def W.nx (h:W t δ):1<t.Next:=by
 obtain ⟨n,hn,-⟩:=h.rt;have:=dM hn;have h1:=h.lo n this.1;omega
def W.get (h:W t δ) {i:Int} {n:τ} (hn:gN t.η i=some n):n∈t.η∧n.ι=i∧gD t.η i=n:=⟨(dM hn).1,(dM hn).2,by unfold gD;rw [hn];rfl⟩
def W.dir (h:W t δ) {n:τ} (hn:n∈t.η) (hk:n.ξ=2):RM t.η δ n∨Lx t.η δ n:=by
 rcases h.nd n hn with h|h
 ·exact absurd h.1 (by omega)
 ·exact h.2.2
def W.file (h:W t δ) {n:τ} (hn:n∈t.η) (hk:n.ξ≠2):RD t.η δ n:=by
 rcases h.nd n hn with h|h
 ·exact h
 ·exact absurd h.1 hk
def W.one (h:W t δ) {n:τ} (hn:n∈t.η) (h1:n.ι=1):n.ξ=2:=by
 obtain ⟨r,hr,hk⟩:=h.rt;have:=dM hr;rw [Cw h.s hn this.1 (by rw [h1,this.2])];exact hk
def W.Jv (h:W t δ):dD t.η 1=0∧δ 1=0:=by
 obtain ⟨r,hr,hk⟩:=h.rt;have:=dM hr
 rcases h.dir this.1 hk with h2|h2
 ·exact h2.2.2.2
 ·exact absurd this.2 h2.1
def W.ON (h:W t δ) {n:τ} (hn:n∈t.η) {e:aO} (he:e∈n.Ψ):e.ι≠1:=by
 intro h1;have:0<dD t.η 1:=DA.2 ⟨n,hn,e,he,h1⟩;have:=h.Jv.1;omega
def W.SG (h:W t δ) {m:τ} (hm:m∈t.η) (hk:m.ξ=2) {E:List aO} {c:Int} {h_:Int→Nat} (hc:t.aj≤c) (hE:xC c E)
  (c_:∀e,e∈E→(gN t.η e.ι).isSome=true) (wv:∀i,cE E i+h_ i=cE m.Ψ i+δ i)
  (N3:∀q,q∈t.η→q.ξ=2→0<δ q.ι→h_ q.ι=0→q.Up=m.ι)
  (yE:E=[]∨m.Ψ≠[]∨∃d,Deep t.η m.ι d∧d<12):W ⟨cF ⟨m.ι,m.ξ,m.aZ,m.aC,E,m.Up⟩ t.η,t.Next,c⟩ h_:=by
 have hg:gN t.η m.ι=some m:=yr h.s hm;have et:gD t.η m.ι=m:=(h.get hg).2.2;have eP:=h.ck
 have jO:∀i,dD (cF ⟨m.ι,m.ξ,m.aZ,m.aC,E,m.Up⟩ t.η) i+h_ i=dD t.η i+δ i:=fun i=>by
  have h1:=DB (n:=⟨m.ι,m.ξ,m.aZ,m.aC,E,m.Up⟩) i h.s;have h2:=wv i;dsimp only at h1;rw [et] at h1;omega
 have iD:∀i,gN (cF ⟨m.ι,m.ξ,m.aZ,m.aC,E,m.Up⟩ t.η) i=if i=m.ι then some ⟨m.ι,m.ξ,m.aZ,m.aC,E,m.Up⟩ else gN t.η i:=fun i=>ly _ i _
 have wK:∀i,(gN t.η i).isSome=true→(gN (cF ⟨m.ι,m.ξ,m.aZ,m.aC,E,m.Up⟩ t.η) i).isSome=true:=fun i hi=>by
  rw [iD];split;rfl;exact hi
 have bI:∀{y},y∈cF ⟨m.ι,m.ξ,m.aZ,m.aC,E,m.Up⟩ t.η→y=⟨m.ι,m.ξ,m.aZ,m.aC,E,m.Up⟩∨(y∈t.η∧y.ι≠m.ι):=tJ;have bp:=h.Jv
 have uH:∀{i d},Deep t.η i d→Deep (cF ⟨m.ι,m.ξ,m.aZ,m.aC,E,m.Up⟩ t.η) i d:=fun hd=>hd.congr fun j n hj _=>by
  rw [iD];by_cases e:j=m.ι
  ·rw [if_pos e];rw [e,hg] at hj;cases hj;exact ⟨_,rfl,rfl,rfl⟩
  ·rw [if_neg e];exact ⟨n,hj,rfl,rfl⟩
 have Ut:∀q,q∈t.η→∀q':τ,q'.ι=q.ι→q'.ξ=q.ξ→q'.Up=q.Up→q'.aZ=q.aZ→q'.aC=q.aC→(q.ξ=1→q'.Ψ=[])→xI (cF ⟨m.ι,m.ξ,m.aZ,m.aC,E,m.Up⟩ t.η) h_ q':=by
  intro q hq q' e1 e2 e3 e4 e5 e6
  rcases h.nd q hq with hf|⟨fz,yF,hr|hd⟩
  ·refine .inl ⟨by rw [e2,hf.1],e6 hf.1,by rw [e3,hf.2.2.1],by rw [e5];exact hf.2.2.2.1,?_⟩;have:=hf.2.2.2.2;have:=jO q.ι;rw [e4,e1];omega
  ·refine .inr ⟨by rw [e2,fz],by rw [e5,yF],.inl ⟨by rw [e1,hr.1],by rw [e3,hr.2.1],by rw [e4,hr.2.2.1],?_,?_⟩⟩<;>(have:=jO 1;omega)
  ·refine .inr ⟨by rw [e2,fz],by rw [e5,yF],.inr ⟨by rw [e1];exact hd.1,by rw [e1,jO];exact hd.2.1,by rw [e4];exact hd.2.2.1,fun h0=>?_⟩⟩;rw [e1] at h0;rw [e3,e1];have UK:=wv q.ι
   rcases oW (δ q.ι) with hz|hz
   ·obtain ⟨p,hp,e,he,yG⟩:=hd.2.2.2 hz;by_cases BE:q.Up=m.ι
    ·refine ⟨_,by rw [iD,if_pos BE],?_⟩;rw [BE,hg] at hp;cases hp;have:0<cE m.Ψ q.ι:=vT.2 ⟨e,he,yG⟩;exact vT.1 (by dsimp only;omega)
    ·exact ⟨p,by rw [iD,if_neg BE,hp],e,he,yG⟩
   ·have hu:=N3 q hq fz hz h0;refine ⟨_,by rw [iD,if_pos hu],?_⟩;exact vT.1 (by dsimp only;omega)
 refine ⟨zM h.s,fun n hn=>?_,?_,?_,by dsimp only;omega,fun n hn=>?_,fun n hn e he=>?_,fun n hn=>?_,fun n hn cI=>?_⟩
 ·rcases bI hn with rfl|⟨hn,-⟩
  ·exact h.lo m hm
  ·exact h.lo n hn
 ·obtain ⟨r,hr,kS⟩:=h.rt;dsimp only;rw [iD];by_cases e:1=m.ι
  ·exact ⟨⟨m.ι,m.ξ,m.aZ,m.aC,E,m.Up⟩,by rw [if_pos e],hk⟩
  ·exact ⟨r,by rw [if_neg e,hr],kS⟩
 ·dsimp only;rw [JR h.s (by dsimp only;rw [hg];rfl)];exact h.len
 ·rcases bI hn with rfl|⟨hn,-⟩
  ·exact hE
  ·have:=h.en n hn;exact ⟨this.n,this.s,fun e he=>⟨(this.r e he).1,by have:=(this.r e he).2;dsimp only;omega⟩,this.k⟩
 ·rcases bI hn with rfl|⟨hn,-⟩
  ·exact wK _ (c_ e he)
  ·exact wK _ (h.cl n hn e he)
 ·rcases bI hn with rfl|⟨hn,-⟩
  ·exact Ut m hm _ rfl rfl rfl rfl rfl (fun e=>by omega)
  ·exact Ut n hn n rfl rfl rfl rfl rfl (fun e=>by
    rcases h.nd n hn with hf|hf
    ·exact hf.2.1
    ·have:=hf.1;omega)
 ·rcases bI hn with rfl|⟨hn,-⟩
  ·obtain ⟨d,h1,h2,h3⟩:=h.dp m hm hk;refine ⟨d,uH h1,h2,fun e=>?_⟩
   rcases yE with h4|h4|⟨d',h4,h5⟩
   ·exact h4
   ·exact absurd (h3 e) h4
   ·have:=h1.uniq h4;omega
  ·obtain ⟨d,h1,h2,h3⟩:=h.dp n hn cI;exact ⟨d,uH h1,h2,h3⟩
end
end
section
section
variable {t:ψ} {δ h_:Int→Nat}
def xI.congr {l l':List τ} {n:τ} (h:xI l δ n) (hc:dD l' n.ι=dD l n.ι) (h1:dD l' 1=dD l 1) (hd:h_ n.ι=δ n.ι) (M5:h_ 1=δ 1) (hp:∀p,gN l n.Up=some p→n.ι≠1→n.ξ=2→∃p',gN l' n.Up=some p'∧p'.Ψ=p.Ψ):xI l' h_ n:=by
 rcases h with h|⟨hk,yF,h|h⟩
 ·exact .inl ⟨h.1,h.2.1,h.2.2.1,h.2.2.2.1,by rw [hc,hd];exact h.2.2.2.2⟩
 ·exact .inr ⟨hk,yF,.inl ⟨h.1,h.2.1,h.2.2.1,by rw [h1];exact h.2.2.2.1,by rw [M5];exact h.2.2.2.2⟩⟩
 ·refine .inr ⟨hk,yF,.inr ⟨h.1,by rw [hc,hd];exact h.2.1,h.2.2.1,fun h0=>?_⟩⟩;rw [hd] at h0;obtain ⟨p,h2,h3⟩:=h.2.2.2 h0;obtain ⟨p',h4,h5⟩:=hp p h2 h.1 hk;exact ⟨p',h4,by rw [h5];exact h3⟩
def W.of_eq (h:W t δ) (he:∀i,h_ i=δ i):W t h_:=by
 have:h_=δ:=funext he;rw [this];exact h
def W.Mm (h:W t δ) {m:τ} (hm:m∈t.η) (hk:m.ξ≠2) {L:Int} {D:List UInt8} (hD:D.length≤4096) (hd:∀i,i≠m.ι→h_ i=δ i) (hL:L=(dD t.η m.ι:Int)+h_ m.ι):W ⟨cF ⟨m.ι,m.ξ,L,D,m.Ψ,m.Up⟩ t.η,t.Next,t.aj⟩ h_:=by
 have hg:gN t.η m.ι=some m:=yr h.s hm;have et:gD t.η m.ι=m:=(h.get hg).2.2;have hf:=h.file hm hk;have iP:m.ι≠1:=fun e=>hk (h.one hm e)
 have jO:∀i,dD (cF ⟨m.ι,m.ξ,L,D,m.Ψ,m.Up⟩ t.η) i=dD t.η i:=fun i=>by
  have h1:=DB (n:=⟨m.ι,m.ξ,L,D,m.Ψ,m.Up⟩) i h.s;dsimp only at h1;rw [et] at h1;omega
 have iD:∀i,gN (cF ⟨m.ι,m.ξ,L,D,m.Ψ,m.Up⟩ t.η) i=if i=m.ι then some ⟨m.ι,m.ξ,L,D,m.Ψ,m.Up⟩ else gN t.η i:=fun i=>ly _ i _
 have T_:∀i p,gN t.η i=some p→∃p',gN (cF ⟨m.ι,m.ξ,L,D,m.Ψ,m.Up⟩ t.η) i=some p'∧p'.Ψ=p.Ψ∧p'.ξ=p.ξ∧p'.Up=p.Up:=fun i p hp=>by
  by_cases e:i=m.ι
  ·rw [e,hg] at hp;cases hp;exact ⟨⟨m.ι,m.ξ,L,D,m.Ψ,m.Up⟩,by rw [iD,if_pos e],rfl,rfl,rfl⟩
  ·exact ⟨p,by rw [iD,if_neg e,hp],rfl,rfl,rfl⟩
 have wK:∀i,(gN t.η i).isSome=true→(gN (cF ⟨m.ι,m.ξ,L,D,m.Ψ,m.Up⟩ t.η) i).isSome=true:=fun i hi=>by
  rw [iD];split;rfl;exact hi
 have bI:∀{y},y∈cF ⟨m.ι,m.ξ,L,D,m.Ψ,m.Up⟩ t.η→y=⟨m.ι,m.ξ,L,D,m.Ψ,m.Up⟩∨(y∈t.η∧y.ι≠m.ι):=tJ
 have uH:∀{i d},Deep t.η i d→Deep (cF ⟨m.ι,m.ξ,L,D,m.Ψ,m.Up⟩ t.η) i d:=fun hd=>hd.congr fun j n hj _=>by
  obtain ⟨p',h1,-,h2,h3⟩:=T_ j n hj;exact ⟨p',h1,h2,h3⟩
 refine ⟨zM h.s,fun n hn=>?_,?_,?_,h.ck,fun n hn=>?_,fun n hn e he=>?_,fun n hn=>?_,fun n hn cI=>?_⟩
 ·rcases bI hn with rfl|⟨hn,-⟩
  ·exact h.lo m hm
  ·exact h.lo n hn
 ·obtain ⟨r,hr,kS⟩:=h.rt;exact ⟨r,by dsimp only;rw [iD,if_neg (j3 iP),hr],kS⟩
 ·dsimp only;rw [JR h.s (by dsimp only;rw [hg];rfl)];exact h.len
 ·rcases bI hn with rfl|⟨hn,-⟩
  ·exact h.en m hm
  ·exact h.en n hn
 ·rcases bI hn with rfl|⟨hn,-⟩
  ·exact wK _ (h.cl m hm e he)
  ·exact wK _ (h.cl n hn e he)
 ·rcases bI hn with rfl|⟨hn,aP⟩
  ·exact .inl ⟨hf.1,hf.2.1,hf.2.2.1,hD,by dsimp only;rw [jO];exact hL⟩
  ·refine (h.nd n hn).congr (jO _) (jO _) (hd _ aP) (hd _ (j3 iP)) fun p hp _ _=>?_;obtain ⟨p',h1,h2,-⟩:=T_ _ p hp;exact ⟨p',h1,h2⟩
 ·rcases bI hn with rfl|⟨hn,-⟩
  ·exact absurd cI hk
  ·obtain ⟨d,h1,h2,h3⟩:=h.dp n hn cI;exact ⟨d,uH h1,h2,h3⟩
def W.gone (h:W t δ) {m:τ} (hm:m∈t.η) (iP:m.ι≠1) (hE:m.Ψ=[]) (hc:dD t.η m.ι=0) (hu:∀q,q∈t.η→q.ξ=2→q.ι≠1→q.ι≠m.ι→q.Up≠m.ι) (hd:∀i,i≠m.ι→h_ i=δ i):W ⟨t.η.filter (fun x=>x.ι != m.ι),t.Next,t.aj⟩ h_:=by
 have hg:gN t.η m.ι=some m:=yr h.s hm;have et:gD t.η m.ι=m:=(h.get hg).2.2
 have jO:∀i,dD (t.η.filter (fun x=>x.ι != m.ι)) i=dD t.η i:=fun i=>by
  have h1:=Si h.s m.ι i;rw [et,hE] at h1;simp [cE] at h1;exact h1
 have iD:∀i,gN (t.η.filter (fun x=>x.ι != m.ι)) i=if i=m.ι then none else gN t.η i:=fun i=>A6 _ _ _
 have bI:∀{y},y∈t.η.filter (fun x=>x.ι != m.ι)→y∈t.η∧y.ι≠m.ι:=fun hy=>by
  have:=ek.1 hy;exact ⟨this.1,by simpa using this.2⟩
 have uH:∀{i d},Deep t.η i d→i≠m.ι→Deep (t.η.filter (fun x=>x.ι != m.ι)) i d:=by
  intro i d hd;induction hd with
  |root=>intro _;exact .root
  |@step i n d h1 h2 h3 h4 ih =>
   intro aP;have:=dM h2;exact .step h1 (by rw [iD,if_neg aP,h2]) h3 (ih (hu n this.1 h3 (by rw [this.2];exact h1) (by rw [this.2];exact aP)))
 refine ⟨SS h.s _,fun n hn=>h.lo n (bI hn).1,?_,?_,h.ck,fun n hn=>h.en n (bI hn).1,fun n hn e he=>?_,fun n hn=>?_,fun n hn cI=>?_⟩
 ·obtain ⟨r,hr,kS⟩:=h.rt;exact ⟨r,by dsimp only;rw [iD,if_neg (j3 iP),hr],kS⟩
 ·exact fi (l_ _ _) h.len
 ·have hn:=(bI hn).1;dsimp only;rw [iD,if_neg ?_]
  ·exact h.cl n hn e he
  ·intro h1;have:0<dD t.η m.ι:=DA.2 ⟨n,hn,e,he,h1⟩;omega
 ·obtain ⟨hn,aP⟩:=bI hn;refine (h.nd n hn).congr (jO _) (jO _) (hd _ aP) (hd _ (j3 iP)) fun p hp h1 hk=>⟨p,?_,rfl⟩;rw [iD,if_neg (hu n hn hk h1 aP),hp]
 ·obtain ⟨hn,aP⟩:=bI hn;obtain ⟨d,h1,h2,h3⟩:=h.dp n hn cI;exact ⟨d,uH h1 aP,h2,h3⟩
def W.new (h:W t δ) (hl:t.η.length<200) {k u:Int} (hk:k=1∧u=0∨k=2∧∃d,Deep t.η u d∧d<12) (h0:δ t.Next=0) (hd:∀i,h_ i=δ i+if i=t.Next then 1 else 0):W ⟨cF ⟨t.Next,k,1,[],[],u⟩ t.η,t.Next+1,t.aj⟩ h_:=by
 have hx:=h.nx
 have bp:gN t.η t.Next=none:=yt.2 fun n hn e=>by have:=h.lo n hn;omega
 have et:gD t.η t.Next=jX:=by unfold gD;rw [bp];rfl
 have jO:∀i,dD (cF ⟨t.Next,k,1,[],[],u⟩ t.η) i=dD t.η i:=fun i=>by
  have h1:=DB (n:=⟨t.Next,k,1,[],[],u⟩) i h.s;dsimp only at h1;rw [et] at h1;simp [cE,jX] at h1;exact h1
 have TZ:dD t.η t.Next=0:=by
  rcases oW (dD t.η t.Next) with h1|h1
  ·exact h1
  ·obtain ⟨n,hn,e,he,yG⟩:=DA.1 h1;have:=h.cl n hn e he;rw [yG,bp] at this;cases this
 have iD:∀i,gN (cF ⟨t.Next,k,1,[],[],u⟩ t.η) i=if i=t.Next then some ⟨t.Next,k,1,[],[],u⟩ else gN t.η i:=fun i=>ly _ i _
 have wB:∀i p,gN t.η i=some p→gN (cF ⟨t.Next,k,1,[],[],u⟩ t.η) i=some p:=fun i p hp=>by
  rw [iD,if_neg,hp];intro e;rw [e,bp] at hp;cases hp
 have bI:∀{y},y∈cF ⟨t.Next,k,1,[],[],u⟩ t.η→y=⟨t.Next,k,1,[],[],u⟩∨(y∈t.η∧y.ι≠t.Next):=tJ;have uH:∀{i d},Deep t.η i d→Deep (cF ⟨t.Next,k,1,[],[],u⟩ t.η) i d:=fun hd=>hd.congr fun j n hj _=>⟨n,wB j n hj,rfl,rfl⟩;refine ⟨zM h.s,fun n hn=>?_,?_,?_,h.ck,fun n hn=>?_,fun n hn e he=>?_,fun n hn=>?_,fun n hn cI=>?_⟩
 ·rcases bI hn with rfl|⟨hn,-⟩
  ·dsimp only;omega
  ·have:=h.lo n hn;dsimp only;omega
 ·obtain ⟨r,hr,kS⟩:=h.rt;exact ⟨r,wB _ _ hr,kS⟩
 ·have:=O' ⟨t.Next,k,1,[],[],u⟩ t.η;dsimp only;omega
 ·rcases bI hn with rfl|⟨hn,-⟩
  ·exact ⟨by simp,jr,fun e he=>(by cases he),jr⟩
  ·exact h.en n hn
 ·rcases bI hn with rfl|⟨hn,-⟩
  ·cases he
  ·obtain ⟨p,hp⟩:=nk.1 (h.cl n hn e he);dsimp only;rw [wB _ _ hp];rfl
 ·rcases bI hn with rfl|⟨hn,aP⟩
  ·have e1:h_ t.Next=1:=by rw [hd,h0,if_pos rfl]
   rcases hk with ⟨h1,h2⟩|⟨h1,h2⟩
   ·exact .inl ⟨h1,rfl,h2,by simp,by dsimp only;rw [jO,TZ,e1];rfl⟩
   ·exact .inr ⟨h1,rfl,.inr ⟨by dsimp only;omega,by dsimp only;rw [jO,TZ,e1],rfl,fun h=>by dsimp only at h;omega⟩⟩
  ·exact (h.nd n hn).congr (jO _) (jO _) (by rw [hd,if_neg aP];rfl) (by rw [hd,if_neg (by omega)];rfl) fun p hp _ _=>⟨p,wB _ _ hp,rfl⟩
 ·rcases bI hn with rfl|⟨hn,-⟩
  ·rcases hk with ⟨h1,h2⟩|⟨h1,d,h2,h3⟩
   ·dsimp only at cI;omega
   ·exact ⟨d+1,.step (by dsimp only;omega) (by rw [iD,if_pos rfl]) h1 (uH h2),by omega,fun _=>rfl⟩
  ·obtain ⟨d,h1,h2,h3⟩:=h.dp n hn cI;exact ⟨d,uH h1,h2,h3⟩
inductive ju (l:List τ) (x:Int):Int→Prop
 |refl:ju l x x
 |step {i:Int} {n:τ}:i≠1→gN l i=some n→n.ξ=2→ju l x n.Up→ju l x i
def Deep.Jx {l l':List τ} {x:Int} (hg:∀i,i≠x→gN l' i=gN l i) {i:Int} {d:Nat} (h:Deep l i d):¬ju l x i→Deep l' i d:=by
 induction h with
 |root=>intro _;exact .root
 |@step i n d h1 h2 h3 h4 ih =>
  intro hu;have aP:i≠x:=fun e=>hu (e▸.refl);exact .step h1 (by rw [hg i aP,h2]) h3 (ih fun h=>hu (.step h1 h2 h3 h))
def ju.deep {l:List τ} {x:Int} {dx:Nat} (hx:Deep l x dx) {i:Int} (h:ju l x i):∀{d:Nat},Deep l i d→dx≤d:=by
 induction h with
 |refl=>intro d hd;rw [hx.uniq hd];exact bG _
 |step h1 h2 h3 h4 ih =>
  intro d hd;cases hd with
  |root=>exact absurd rfl h1
  |step g1 g2 g3 g4=>rw [h2] at g2;cases g2;have:=ih g4;omega
def ju.aeh {l l':List τ} {x:Int} {x':τ} (hg:∀i,i≠x→gN l' i=gN l i) (Ξ:x≠1) (gr:gN l' x=some x') (hk:x'.ξ=2) {dt dx:Nat} (ht:Deep l' x'.Up dt) (hx:Deep l x dx) {i:Int} (h:ju l x i):∀{d:Nat},Deep l i d→Deep l' i (dt+1+(d-dx)):=by
 induction h with
 |refl=>intro d hd;rw [hx.uniq hd,Nat.sub_self];exact .step Ξ gr hk ht
 |@step i n h1 h2 h3 h4 ih =>
  intro d hd;by_cases e:i=x
  ·subst e;rw [hx.uniq hd,Nat.sub_self];exact .step Ξ gr hk ht
  ·cases hd with
   |root=>exact absurd rfl h1
   |@step _ n' d' g1 g2 g3 g4 =>
    rw [h2] at g2;cases g2;have h5:=ih g4;have h6:=h4.deep hx g4
    have:dt+1+(d'+1-dx)=dt+1+(d'-dx)+1:=by omega
    rw [this];exact .step h1 (by rw [hg i e,h2]) h3 h5
def W.aei (h:W t δ) {m:τ} (hm:m∈t.η) (hk:m.ξ=2) (iP:m.ι≠1) (hw:0<δ m.ι) {to:Int} {dt dx:Nat} (ht:Deep t.η to dt) (hx:Deep t.η m.ι dx) (wD:¬ju t.η m.ι to)
  (yE:∀n,n∈t.η→n.ξ=2→ju t.η m.ι n.ι→∀d,Deep t.η n.ι d→dt+1+(d-dx)≤12∧(dt+1+(d-dx)=12→n.Ψ=[])):W ⟨cF ⟨m.ι,m.ξ,m.aZ,m.aC,m.Ψ,to⟩ t.η,t.Next,t.aj⟩ δ:=by
 have hg:gN t.η m.ι=some m:=yr h.s hm;have et:gD t.η m.ι=m:=(h.get hg).2.2
 have jO:∀i,dD (cF ⟨m.ι,m.ξ,m.aZ,m.aC,m.Ψ,to⟩ t.η) i=dD t.η i:=fun i=>by
  have h1:=DB (n:=⟨m.ι,m.ξ,m.aZ,m.aC,m.Ψ,to⟩) i h.s;dsimp only at h1;rw [et] at h1;omega
 have iD:∀i,gN (cF ⟨m.ι,m.ξ,m.aZ,m.aC,m.Ψ,to⟩ t.η) i=if i=m.ι then some ⟨m.ι,m.ξ,m.aZ,m.aC,m.Ψ,to⟩ else gN t.η i:=fun i=>ly _ i _
 have Ub:gN (cF ⟨m.ι,m.ξ,m.aZ,m.aC,m.Ψ,to⟩ t.η) m.ι=some ⟨m.ι,m.ξ,m.aZ,m.aC,m.Ψ,to⟩:=by rw [iD,if_pos rfl]
 have wA:∀i,i≠m.ι→gN (cF ⟨m.ι,m.ξ,m.aZ,m.aC,m.Ψ,to⟩ t.η) i=gN t.η i:=fun i hi=>by rw [iD,if_neg hi]
 have wK:∀i,(gN t.η i).isSome=true→(gN (cF ⟨m.ι,m.ξ,m.aZ,m.aC,m.Ψ,to⟩ t.η) i).isSome=true:=fun i hi=>by
  rw [iD];split;rfl;exact hi
 have bI:∀{y},y∈cF ⟨m.ι,m.ξ,m.aZ,m.aC,m.Ψ,to⟩ t.η→y=⟨m.ι,m.ξ,m.aZ,m.aC,m.Ψ,to⟩∨(y∈t.η∧y.ι≠m.ι):=tJ;have htt:Deep (cF ⟨m.ι,m.ξ,m.aZ,m.aC,m.Ψ,to⟩ t.η) to dt:=ht.Jx wA wD
 have d_:∀n,n∈t.η→n.ξ=2→∃d,Deep (cF ⟨m.ι,m.ξ,m.aZ,m.aC,m.Ψ,to⟩ t.η) n.ι d∧d≤12∧(d=12→n.Ψ=[]):=fun n hn yP=>by
  obtain ⟨d,h1,h2,h3⟩:=h.dp n hn yP;by_cases hu:ju t.η m.ι n.ι
  ·exact ⟨_,hu.aeh wA iP Ub hk htt hx h1,yE n hn yP hu d h1⟩
  ·exact ⟨d,h1.Jx wA hu,h2,h3⟩
 refine ⟨zM h.s,fun n hn=>?_,?_,?_,h.ck,fun n hn=>?_,fun n hn e he=>?_,fun n hn=>?_,fun n hn cI=>?_⟩
 ·rcases bI hn with rfl|⟨hn,-⟩
  ·exact h.lo m hm
  ·exact h.lo n hn
 ·obtain ⟨r,hr,kS⟩:=h.rt;exact ⟨r,by dsimp only;rw [wA _ (j3 iP),hr],kS⟩
 ·dsimp only;rw [JR h.s (by dsimp only;rw [hg];rfl)];exact h.len
 ·rcases bI hn with rfl|⟨hn,-⟩
  ·exact h.en m hm
  ·exact h.en n hn
 ·rcases bI hn with rfl|⟨hn,-⟩
  ·exact wK _ (h.cl m hm e he)
  ·exact wK _ (h.cl n hn e he)
 ·rcases bI hn with rfl|⟨hn,aP⟩
  ·rcases h.dir hm hk with hr|hd
   ·exact absurd hr.1 iP
   ·refine .inr ⟨hk,?_,.inr ⟨iP,by dsimp only;rw [jO];exact hd.2.1,hd.2.2.1,fun h0=>by dsimp only at h0;omega⟩⟩
    rcases h.nd m hm with h5|h5
    ·exact absurd h5.1 (by omega)
    ·exact h5.2.1
  ·refine (h.nd n hn).congr (jO _) (jO _) rfl rfl fun p hp _ _=>?_;by_cases e:n.Up=m.ι
   ·rw [e,hg] at hp;cases hp;exact ⟨⟨m.ι,m.ξ,m.aZ,m.aC,m.Ψ,to⟩,by rw [e];exact Ub,rfl⟩
   ·exact ⟨p,by rw [wA _ e,hp],rfl⟩
 ·rcases bI hn with rfl|⟨hn,-⟩
  ·exact d_ m hm hk
  ·exact d_ n hn cI
end
end
section
def R9 (e:aO) (i:Int):∀l,cE (nR e l) i=cE l i+if i=e.ι then 1 else 0
 |[]=>by
  unfold nR cE;by_cases h:i=e.ι
  ·simp [h]
  ·have:¬e.ι=i:=fun h'=>h h'.symm;simp [h,this]
 |x::r=>by
  have ih:=R9 e i r;rw [E0];unfold cE at *;split
  ·rw [De];by_cases h:i=e.ι
   ·simp [h]
   ·have:¬e.ι=i:=fun h'=>h h'.symm;simp [h,this]
  ·rw [De,De,ih];omega
def ady {c:Int} {l:List aO} (h:xC c l) {s:List UInt8} {o:Int} (hs:f_ s=true) (hc:1≤c) (hl:l.length<64) (bp:∀e,e∈l→e.aN≠s):xC (c+1) (nR ⟨s,o,c⟩ l):=by
 refine ⟨by rw [Oi];omega,?_,fun e he=>?_,?_⟩
 ·have key:∀l:List aO,l.Pairwise (fun a b=>fX a.aN b.aN=true)→(∀e,e∈l→e.aN≠s)→(nR ⟨s,o,c⟩ l).Pairwise fun a b=>fX a.aN b.aN=true:=by
   intro l;induction l with
   |nil=>intro _ _;exact vH _ _
   |cons x r ih =>
    intro hp hn;obtain ⟨h1,h2⟩:=eD.1 hp;have nP:=hn x (by simp);rw [E0];split
    ·next Bk =>
     have Bk:fX s x.aN=true:=by
      rcases R3 s x.aN with h|h|h
      ·exact h
      ·exact absurd h.symm nP
      ·simp [h] at Bk
     refine eD.2 ⟨fun y hy=>?_,hp⟩
     rcases bf.1 hy with rfl|hy
     ·exact Bk
     ·exact LP Bk (h1 y hy)
    ·next Bk =>
     have Φ:fX x.aN s=true:=by
      cases hb:fX x.aN s with
      |true=>rfl
      |false=>exact absurd (by simp [hb,nP]) Bk
     refine eD.2 ⟨fun y hy=>?_,ih h2 fun e he=>hn e (cu _ he)⟩
     rcases BM.1 hy with rfl|hy
     ·exact Φ
     ·exact h1 y hy
  exact key l h.s bp
 ·rcases BM.1 he with rfl|he
  ·exact ⟨hs,by dsimp only;omega,by dsimp only;omega⟩
  ·exact ⟨(h.r e he).1,by have:=(h.r e he).2;omega⟩
 ·have key:∀l:List aO,l.Pairwise (fun a b=>a.aj≠b.aj)→(∀e,e∈l→e.aj≠c)→(nR ⟨s,o,c⟩ l).Pairwise fun a b=>a.aj≠b.aj:=by
   intro l;induction l with
   |nil=>intro _ _;exact vH _ _
   |cons x r ih =>
    intro hp hn;obtain ⟨h1,h2⟩:=eD.1 hp;rw [E0];split
    ·exact eD.2 ⟨fun y hy=>fun e=>hn y hy e.symm,hp⟩
    ·refine eD.2 ⟨fun y hy=>?_,ih h2 fun e he=>hn e (cu _ he)⟩
     rcases BM.1 hy with rfl|hy
     ·exact hn x (by simp)
     ·exact h1 y hy
  exact key l h.k fun e he=>by have:=(h.r e he).2;omega
def abn {c:Int} {l:List aO} (h:xC c l) (p:aO→Bool):xC c (l.filter p) :=
 ⟨fi (l_ _ _) h.n,h.s.filter _,fun e he=>h.r e (ek.1 he).1,h.k.filter _⟩
def aaj {c:Int} {l:List aO} (h:xC c l) {s:List UInt8} {e:aO} (hf:l.find? (fun e=>e.aN==s)=some e) (i:Int):cE (l.filter fun e=>!(e.aN==s)) i+(if i=e.ι then 1 else 0)=cE l i:=by
 have key:∀l:List aO,l.Pairwise (fun a b=>fX a.aN b.aN=true)→l.find? (fun e=>e.aN==s)=some e→cE (l.filter fun e=>!(e.aN==s)) i+(if i=e.ι then 1 else 0)=cE l i:=by
  intro l;induction l with
  |nil=>intro _ h;cases h
  |cons x r ih =>
   intro hp hf;obtain ⟨h1,h2⟩:=eD.1 hp;rw [Rl] at hf;rw [ic];cases hx:(x.aN==s) with
   |true =>
    rw [hx] at hf;cases hf
    have nP:e.aN=s:=by simpa using hx
    have:r.filter (fun e=>!(e.aN==s))=r:=by
     rw [ui];intro y hy;have h3:=h1 y hy;cases tj:(y.aN==s) with
     |false=>rfl
     |true =>
      have uW:y.aN=s:=by simpa using tj
      rw [nP,uW,Hv] at h3;cases h3
    rw [if_neg (by simp),this];unfold cE;rw [De];by_cases hi:i=e.ι
    ·simp [hi]
    ·have:¬e.ι=i:=fun h'=>hi h'.symm;simp [hi,this]
   |false =>
    rw [hx] at hf;have:=ih h2 hf;rw [if_pos (show (!false)=true from rfl)];unfold cE at *;rw [De,De];omega
 exact key l h.s hf
def DF {l:List τ} {i:Int} (h:(dz l i).2=0):∃m,gN l i=some m∧m.ξ=2∧(dz l i).1=m∧gD l i=m:=by
 unfold dz at *;cases hg:gN l i with
 |none=>rw [hg] at h;cases h
 |some m =>
  have hd:gD l i=m:=by unfold gD;rw [hg];rfl
  rw [hg,hd] at h;by_cases hk:(m.ξ != 2)=true
  ·simp [hk] at h
  ·rw [hd];refine ⟨m,rfl,by simpa using hk,?_,rfl⟩;simp [hk]
def look_ok {t:ψ} {i:Int} {s:List UInt8} (h:(eT t i s).2=0):∃m e,gN t.η i=some m∧m.ξ=2∧gD t.η i=m∧f_ s=true∧m.Ψ.find? (fun e=>e.aN==s)=some e∧(eT t i s).1=e.ι:=by
 unfold eT at *;by_cases h1:((dz t.η i).2 != 0)=true
 ·rw [if_pos h1] at h;exact absurd h (by simpa using h1)
 rw [if_neg h1] at h ⊢;obtain ⟨m,h2,h3,h4,h5⟩:=DF (nr h1);by_cases h6:(!f_ s)=true
 ·rw [if_pos h6] at h;cases h
 rw [if_neg h6] at h ⊢;rw [h4] at h ⊢;cases hf:m.Ψ.find? (fun e=>e.aN==s) with
 |none=>rw [hf] at h;cases h
 |some e=>exact ⟨m,e,h2,h3,h5,by simpa using h6,hf,rfl⟩
def aep {l:List aO} {s:List UInt8} (h:(BV l s).isSome=false):∀e,e∈l→e.aN≠s:=by
 unfold BV at h;intro e he
 have:l.findIdx? (fun e=>e.aN==s)=none:=by cases hx:l.findIdx? (fun e=>e.aN==s)<;>simp_all
 rw [xu] at this;simpa using this e he
def L3 {l:List τ} {i:Int} {d:Nat} (h:Deep l i d):∀{f:Nat},d≤f→iq l f i=d:=by
 induction h with
 |root =>
  intro f _;cases f with
  |zero=>rfl
  |succ f=>rw [Sr,if_pos rfl]
 |@step i n d h1 h2 h3 h4 ih =>
  intro f hf;cases f with
  |zero=>omega
  |succ f =>
   have:gD l i=n:=by unfold gD;rw [h2];rfl
   rw [Sr,if_neg h1,this,ih (by omega)]
def LK {l:List τ} {x i:Int} (h:ju l x i):∀{d f:Nat},Deep l i d→d<f→xU l x f i=true:=by
 induction h with
 |refl =>
  intro d f _ hf;cases f with
  |zero=>omega
  |succ f=>unfold xU;rw [if_pos (by simp)]
 |@step i n h1 h2 h3 h4 ih =>
  intro d f hd hf;cases f with
  |zero=>omega
  |succ f =>
   unfold xU;by_cases e:(i==x)=true
   ·rw [if_pos e]
   ·rw [if_neg e,if_neg (by simpa using h1)]
    have:gD l i=n:=by unfold gD;rw [h2];rfl
    rw [this];cases hd with
    |root=>exact absurd rfl h1
    |step g1 g2 g3 g4=>rw [h2] at g2;cases g2;exact ih g4 (by omega)
def Yf {l:List τ} {x:Int}:∀{f d:Nat} {i:Int},Deep l i d→xU l x f i=true→ju l x i
 |0,_,_,_,h=>by cases h
 |f+1,d,i,hd,h=>by
  unfold xU at h;by_cases e:(i==x)=true
  ·have:i=x:=by simpa using e
   rw [this];exact .refl
  ·rw [if_neg e] at h;by_cases e1:(i==1)=true
   ·rw [if_pos e1] at h;cases h
   ·rw [if_neg e1] at h;cases hd with
    |root=>simp at e1
    |step g1 g2 g3 g4 =>
     rename_i n _
     have:gD l i=n:=by unfold gD;rw [g2];rfl
     rw [this] at h;exact .step g1 g2 g3 (Yf g4 h)
def yh:∀{d:Nat} {l:List τ} {i:Int},Deep l i d→d≤l.length
 |0,_,_,_=>lP _
 |d+1,l,i,h=>by
  cases h with
  |step h1 h2 h3 h4 =>
   have hi:Deep l i (d+1):=.step h1 h2 h3 h4
   have wD:¬ju l i _:=fun hu=>by have:=hu.deep hi h4;omega
   have h5:=h4.Jx (l':=l.filter (fun x=>x.ι != i)) (fun j hj=>by rw [A6,if_neg hj]) wD;have h6:=yh h5
   have h7:(l.filter (fun x=>x.ι != i)).length<l.length:=by
    rw [ZA];exact ⟨_,(dM h2).1,by simp [(dM h2).2]⟩
   omega
def aco {l:List τ} {i a:Int} {n:τ} (hn:n∈l) (hk:n.ξ=2) (hb:j6 l n.ι i=true):a+(iq l 201 n.ι:Int)-(iq l 201 i:Int)+(if decide ((n.Ψ.length:Int)>0)=true then 1 else 0)≤s6 l i a:=by
 unfold s6;generalize iq l 201=dd
 have key:∀(m:List τ) (z:Int),z≤m.foldl (fun m n=>if (n.ξ==2&&j6 l n.ι i)=true then max m (a+(dd n.ι:Int)-(dd i:Int)+if decide ((n.Ψ.length:Int)>0)=true then 1 else 0) else m) z∧(n∈m→a+(dd n.ι:Int)-(dd i:Int)+(if decide ((n.Ψ.length:Int)>0)=true then 1 else 0)≤m.foldl (fun m n=>if (n.ξ==2&&j6 l n.ι i)=true then max m (a+(dd n.ι:Int)-(dd i:Int)+if decide ((n.Ψ.length:Int)>0)=true then 1 else 0) else m) z):=by
  intro m;induction m with
  |nil=>intro z;exact ⟨xp _,fun h=>by cases h⟩
  |cons x r ih =>
   intro z;rw [pZ];have h1:=ih (if (x.ξ==2&&j6 l x.ι i)=true then max z (a+(dd x.ι:Int)-(dd i:Int)+if decide ((x.Ψ.length:Int)>0)=true then 1 else 0) else z);refine ⟨Int.le_trans ?_ h1.1,fun hm=>?_⟩
   ·split
    ·exact Int.le_max_left _ _
    ·exact xp _
   ·rcases bf.1 hm with rfl|hm
    ·refine Int.le_trans ?_ h1.1;rw [if_pos (show (n.ξ==2&&j6 l n.ι i)=true by simp [hk,hb])];exact Int.le_max_right _ _
    ·exact h1.2 hm
 exact (key l 0).2 hn
def Gw (m:τ) (E:List aO):τ:=⟨m.ι,m.ξ,m.aZ,m.aC,E,m.Up⟩
section
variable {t:ψ} {δ h_:Int→Nat}
def yq {i:Int} {m:τ} (hm:gN t.η i=some m) (s:List UInt8) (j:Int):gN (eM t i s).η j=if j=i then some (Gw m (m.Ψ.filter fun e=>!(e.aN==s))) else gN t.η j:=by
 have hd:gD t.η i=m:=by unfold gD;rw [hm];rfl
 unfold eM;dsimp only;rw [ly,hd];show (if j=m.ι then some (Gw m _) else _)=_;rw [(dM hm).2]
def W.eM (h:W t δ) {i:Int} {m:τ} (hm:gN t.η i=some m) (hk:m.ξ=2) {s:List UInt8} {e:aO} (hf:m.Ψ.find? (fun e=>e.aN==s)=some e) (hd:∀k,h_ k=δ k+if k=e.ι then 1 else 0):W (eM t i s) h_:=by
 obtain ⟨h1,h2,h3⟩:=h.get hm;unfold Go.Proofs.eM;rw [h3];refine h.SG h1 hk (xp _) (abn (h.en m h1) _) (fun e he=>h.cl m h1 e (ek.1 he).1) (fun k=>?_) (fun q hq _ h4 h5=>?_) (.inr (.inl fun e0=>by rw [e0] at hf;cases hf))
 ·rw [hd,←aaj (h.en m h1) hf k];omega
 ·rw [hd] at h5;omega
def W.j8 (h:W t δ) {i:Int} {m:τ} (hm:gN t.η i=some m) (hk:m.ξ=2) {s:List UInt8} (hs:f_ s=true) (bp:∀e,e∈m.Ψ→e.aN≠s) (hl:m.Ψ.length<64) {d:Nat} (yE:Deep t.η i d) (M6:d<12) {o:Int} {q:τ} (ho:gN t.η o=some q) (Of:0<δ o) (N3:q.ξ=2→q.Up=i) (hd:∀k,h_ k=δ k-if k=o then 1 else 0):W (j8 t i s o) h_:=by
 obtain ⟨h1,h2,h3⟩:=h.get hm;obtain ⟨g1,g2,g3⟩:=h.get ho;unfold Go.Proofs.j8;rw [h3];refine h.SG h1 hk (by omega) (ady (h.en m h1) hs h.ck hl bp) (fun e he=>?_) (fun k=>?_) (fun p hp EI h4 h5=>?_) (.inr (.inr ⟨d,by rw [h2];exact yE,M6⟩))
 ·rcases BM.1 he with rfl|he
  ·dsimp only;rw [ho];rfl
  ·exact h.cl m h1 e he
 ·rw [hd,R9];dsimp only;by_cases e:k=o
  ·rw [if_pos e];rw [←e] at Of;omega
  ·rw [if_neg e];omega
 ·rw [hd] at h5
  have e:p.ι=o:=by
   by_cases e:p.ι=o
   ·exact e
   ·rw [if_neg e] at h5;omega
  have:p=q:=Cw h.s hp g1 (by rw [e,g2]);rw [h2,this];exact N3 (this▸EI)
def W.kr (h:W t δ) {j:Int} {m:τ} (hm:gN t.η j=some m) (Of:0<δ j) (hE:m.Ψ=[]) (bp:∀q,q∈t.η→q.ξ=2→0<δ q.ι→q.ι≠j→q.Up≠j) (hd:∀k,h_ k=δ k-if k=j then 1 else 0):W (kr t j) h_:=by
 obtain ⟨h1,h2,h3⟩:=h.get hm;unfold Go.Proofs.kr;rw [h3]
 have Bl:m.ι≠1:=fun e=>by have:=h.Jv.2;rw [←h2,e] at Of;omega
 split
 ·next hk =>
  have hk:m.ξ=2:=by simpa using hk
  rw [←h2]
  rcases h.dir h1 hk with hr|hr
  ·exact absurd hr.1 Bl
  ·have h4:=hr.2.1;rw [h2] at h4;refine h.gone h1 Bl hE (by rw [h2];omega) (fun q hq BF cY mQ=>?_) (fun k hk=>by rw [hd,if_neg (by omega)];rfl);rw [h2] at mQ ⊢
   rcases oW (δ q.ι) with hz|hz
   ·intro hu
    rcases h.dir hq BF with oJ|oJ
    ·exact absurd oJ.1 cY
    ·obtain ⟨p,hp,e,he,-⟩:=oJ.2.2.2 hz;rw [hu,hm] at hp;cases hp;rw [hE] at he;cases he
   ·exact bp q hq BF hz mQ
 ·next hk =>
  have hk:m.ξ≠2:=by simpa using hk
  have hf:=h.file h1 hk;refine h.Mm h1 hk hf.2.2.2.1 (fun k hk=>by rw [hd,if_neg (by omega)];rfl) ?_;have:=hf.2.2.2.2;rw [h2] at this ⊢;rw [hd,if_pos rfl];omega
end
end
section
def RT (t:ψ):Prop:=W t fun _=>0
def gR (j:Int):Int→Nat:=fun i=>if i=j then 1 else 0
def jd {l:List τ} {i:Int} {m:τ} (h:gN l i=some m):gD l i=m:=by unfold gD;rw [h];rfl
section
variable {t:ψ} {δ:Int→Nat}
def W.deep (h:W t δ) {i:Int} {m:τ} (hm:gN t.η i=some m) (hk:m.ξ=2):∃d,Deep t.η i d∧d≤12∧(d=12→m.Ψ=[])∧iq t.η 201 i=d:=by
 obtain ⟨h1,h2,h3⟩:=h.get hm;obtain ⟨d,h4,h5,h6⟩:=h.dp m h1 hk;rw [h2] at h4;exact ⟨d,h4,h5,h6,L3 h4 (by omega)⟩
def H2 {i:Int} {s:List UInt8} (h:sM t i s=0):∃m,gN t.η i=some m∧m.ξ=2∧f_ s=true∧(∀e,e∈m.Ψ→e.aN≠s)∧m.Ψ.length<64∧iq t.η 201 i<12:=by
 unfold sM at h;by_cases h1:((dz t.η i).2 != 0)=true
 ·rw [if_pos h1] at h;exact absurd h (by simpa using h1)
 rw [if_neg h1] at h;obtain ⟨m,h2,h3,h4,h5⟩:=DF (nr h1);by_cases h6:(!f_ s)=true
 ·rw [if_pos h6] at h;cases h
 rw [if_neg h6,h4] at h;by_cases h7:(BV m.Ψ s).isSome=true
 ·rw [if_pos h7] at h;cases h
 rw [if_neg h7] at h;by_cases h8:Im t m=true
 ·rw [if_pos h8] at h;cases h
 unfold Im at h8;simp only [ug,decide_eq_true_eq,not_or] at h8;have hi:=(dM h2).2;rw [hi] at h8;refine ⟨m,h2,h3,by simpa using h6,aep (by simpa using h7),by omega,?_⟩;have:=h8.1.2;generalize iq t.η 201 i=q at *;omega
def RT.add (h:RT t) (i:Int) (s:List UInt8) (k:Int):RT (mw t i s k).1:=by
 unfold mw;split
 ·exact h
 next hk =>
 split
 ·exact h
 next he =>
 split
 ·exact h
 next hf =>
 obtain ⟨m,h1,h2,h3,h4,h5,h6⟩:=H2 (nr he);obtain ⟨d,g1,g2,g3,g4⟩:=W.deep h h1 h2;rw [g4] at h6
 have hl:t.η.length<200:=by simp at hf;omega
 have rC:k=1∨k=2:=by
  by_cases e:k=1
  ·exact .inl e
  ·refine .inr (Classical.byContradiction fun e2=>hk (by simp [e,e2]))
 have bp:gN t.η t.Next=none:=yt.2 fun n hn e=>by have:=h.lo n hn;omega
 have kQ:i≠t.Next:=fun e=>by rw [e,bp] at h1;cases h1
 have w1:W ⟨cF ⟨t.Next,k,1,[],[],if (k==2)=true then i else 0⟩ t.η,t.Next+1,t.aj⟩ (gR t.Next):=by
  refine W.new h hl ?_ rfl fun j=>?_
  ·rcases rC with e|e
   ·subst e;exact .inl ⟨rfl,rfl⟩
   ·subst e;exact .inr ⟨rfl,d,g1,h6⟩
  ·unfold gR;omega
 have Δ:∀j,j≠t.Next→gN (cF ⟨t.Next,k,1,[],[],if (k==2)=true then i else 0⟩ t.η) j=gN t.η j:=fun j hj=>by rw [ly];exact if_neg hj
 refine W.j8 (q:=⟨t.Next,k,1,[],[],if (k==2)=true then i else 0⟩) w1 (by dsimp only;rw [Δ i kQ];exact h1) h2 h3 h4 h5 (g1.congr fun j n hj _=>⟨n,by dsimp only;rw [Δ j fun e=>by rw [e,bp] at hj;cases hj];exact hj,rfl,rfl⟩) h6 (by dsimp only;rw [ly];exact if_pos rfl) (by unfold gR;rw [if_pos rfl];omega) (fun e=>by dsimp only at e ⊢;rw [if_pos (by simp [e])]) fun j=>?_;unfold gR;split<;>rfl
def RT.ln (h:RT t) (i to:Int) (s:List UInt8):RT (tr t i to s).1:=by
 unfold tr;split
 ·exact h
 next hp =>
 split
 ·exact h
 next hk =>
 split
 ·exact h
 next he =>
 obtain ⟨m,h1,h2,h3,h4,h5,h6⟩:=H2 (nr he);obtain ⟨d,g1,g2,g3,g4⟩:=W.deep h h1 h2;rw [g4] at h6
 obtain ⟨n,hn⟩:∃n,gN t.η i=some n:=by
  cases hg:gN t.η i with
  |none=>rw [hg] at hp;simp at hp
  |some n=>exact ⟨n,rfl⟩
 rw [jd hn] at hk ⊢
 have fz:n.ξ≠2:=by simpa using hk
 obtain ⟨k1,k2,k3⟩:=W.get h hn;have hf:=W.file h k1 fz
 have jF:to≠i:=fun e=>by rw [e,hn] at h1;cases h1;exact fz h2
 have w1:W ⟨cF ⟨n.ι,n.ξ,n.aZ+1,n.aC,n.Ψ,n.Up⟩ t.η,t.Next,t.aj⟩ (gR i):=by
  refine W.Mm h k1 fz hf.2.2.2.1 (fun j hj=>by unfold gR;rw [if_neg (by rw [←k2];exact hj)]) ?_;have:=hf.2.2.2.2;dsimp only at this;unfold gR;rw [k2,if_pos rfl];rw [k2] at this;omega
 have Δ:∀j,gN (cF ⟨n.ι,n.ξ,n.aZ+1,n.aC,n.Ψ,n.Up⟩ t.η) j=if j=i then some ⟨n.ι,n.ξ,n.aZ+1,n.aC,n.Ψ,n.Up⟩ else gN t.η j:=fun j=>by
  rw [ly];show (if j=n.ι then _ else _)=_;rw [k2]
 refine W.j8 (q:=⟨n.ι,n.ξ,n.aZ+1,n.aC,n.Ψ,n.Up⟩) w1 (by dsimp only;rw [Δ,if_neg jF];exact h1) h2 h3 h4 h5 (g1.congr fun j p hj EI=>⟨p,by dsimp only;rw [Δ,if_neg fun e=>by rw [e,hn] at hj;cases hj;exact fz EI];exact hj,rfl,rfl⟩) h6 (by dsimp only;rw [Δ];exact if_pos rfl) (by unfold gR;rw [if_pos rfl];omega) (fun e=>absurd e fz) fun j=>?_;unfold gR;split<;>rfl
def RT.un (h:RT t) (i:Int) (s:List UInt8):RT (qE t i s).1:=by
 unfold qE;split
 ·exact h
 next he =>
 split
 ·exact h
 next hE =>
 obtain ⟨m,e,h1,h2,h3,h4,h5,h6⟩:=look_ok (nr he);rw [h6] at hE ⊢;obtain ⟨k1,k2,k3⟩:=W.get h h1;have jQ:=nj h5;obtain ⟨x,hx⟩:=nk.1 (h.cl m k1 e jQ);rw [jd hx] at hE;have U8:x.Ψ=[]:=sx.1 (by have:¬((x.Ψ.length:Int)>0):=fun h=>hE (decide_eq_true h);omega)
 have Oc:e.ι≠i:=fun h'=>by rw [h',h1] at hx;cases hx;rw [U8] at jQ;cases jQ
 have w1:W (eM t i s) (gR e.ι):=W.eM h h1 h2 h5 fun k=>by unfold gR;omega
 refine W.kr w1 (j:=e.ι) (m:=x) (by rw [yq h1,if_neg Oc];exact hx) (by unfold gR;rw [if_pos rfl];omega) U8 (fun q _ _ h7 h8=>by unfold gR at h7;rw [if_neg h8] at h7;omega) fun k=>?_;unfold gR;split<;>rfl
def RT.WR (h:RT t) (i:Int) (x:List UInt8):RT (nX t i x).1:=by
 unfold nX;split
 ·exact h
 next hp =>
 split
 ·exact h
 next hk =>
 split
 ·exact h
 next hx =>
 obtain ⟨n,hn⟩:∃n,gN t.η i=some n:=by
  cases hg:gN t.η i with
  |none=>rw [hg] at hp;simp at hp
  |some n=>exact ⟨n,rfl⟩
 rw [jd hn] at hk ⊢
 have fz:n.ξ≠2:=by simpa using hk
 obtain ⟨k1,k2,k3⟩:=W.get h hn;have hf:=W.file h k1 fz;exact W.Mm h k1 fz (by simp at hx;omega) (fun _ _=>rfl) hf.2.2.2.2
def RT.free (h:RT t) (i:Int):RT (we t i).1:=by
 unfold we;split
 ·exact h
 next hp =>
 split
 ·exact h
 next hk =>
 split
 ·exact h
 next hx =>
 obtain ⟨n,hn⟩:∃n,gN t.η i=some n:=by
  cases hg:gN t.η i with
  |none=>rw [hg] at hp;simp at hp
  |some n=>exact ⟨n,rfl⟩
 rw [jd hn] at hk hx
 have fz:n.ξ≠2:=by simpa using hk
 obtain ⟨k1,k2,k3⟩:=W.get h hn;have hf:=W.file h k1 fz;rw [←k2];refine W.gone h k1 (fun e=>fz (W.one h k1 e)) hf.2.1 (by have:=hf.2.2.2.2;simp at hx;omega) (fun q hq BF cY _ hu=>?_) fun _ _=>rfl
 rcases W.dir h hq BF with hr|hr
 ·exact cY hr.1
 ·obtain ⟨p,hp,e,he,-⟩:=hr.2.2.2 rfl;rw [hu,k2,hn] at hp;cases hp;rw [hf.2.1] at he;cases he
def lU (u t:List τ):Prop:=∀j n,gN u j=some n→∃n',gN t j=some n'∧n'.ξ=n.ξ∧n'.Up=n.Up∧(n'.Ψ=[]→n.Ψ=[])
def lU.deep {u t:List τ} (h:lU u t) {i:Int} {d:Nat} (hd:Deep u i d):Deep t i d:=hd.congr fun j n hj _=>by
 obtain ⟨n',h1,h2,h3,-⟩:=h j n hj;exact ⟨n',h1,h2,h3⟩
def lU.oa {u t:List τ} (h:lU u t) {x i:Int} (hu:ju u x i):ju t x i:=by
 induction hu with
 |refl=>exact .refl
 |step h1 h2 h3 h4 ih =>
  obtain ⟨n',g1,g2,g3,-⟩:=h _ _ h2;exact .step h1 g1 (by rw [g2,h3]) (by rw [g3];exact ih)
def lU.trans {u v t:List τ} (h:lU u v) (h':lU v t):lU u t:=fun j n hn=>by
 obtain ⟨n',h1,h2,h3,h4⟩:=h j n hn;obtain ⟨n'',g1,g2,g3,g4⟩:=h' j n' h1;exact ⟨n'',g1,by rw [g2,h2],by rw [g3,h3],fun e=>h4 (g4 e)⟩
def lU.qv {i:Int} {m:τ} (hm:gN t.η i=some m) (s:List UInt8):lU (eM t i s).η t.η:=fun j n hn=>by
 rw [yq hm] at hn;by_cases e:j=i
 ·rw [if_pos e] at hn;cases hn;exact ⟨m,by rw [e,hm],rfl,rfl,fun e0=>by show List.filter _ _=_;rw [e0];rfl⟩
 ·rw [if_neg e] at hn;exact ⟨n,hn,rfl,rfl,id⟩
def Mx {j:Int} {m:τ} (hm:gN t.η j=some m) {i:Int} (hi:i≠j):gN (kr t j).η i=gN t.η i:=by
 unfold kr;rw [jd hm];split
 ·dsimp only;rw [A6,if_neg hi]
 ·dsimp only;rw [ly];exact if_neg (by rw [(dM hm).2];exact hi)
def lU.un {j:Int} {m:τ} (hm:gN t.η j=some m):lU (kr t j).η t.η:=fun i n hn=>by
 by_cases e:i=j
 ·subst e;unfold kr at hn;rw [jd hm] at hn;split at hn
  ·dsimp only at hn;rw [A6,if_pos rfl] at hn;cases hn
  ·dsimp only at hn;rw [ly,if_pos (dM hm).2.symm] at hn;cases hn;exact ⟨m,hm,rfl,rfl,id⟩
 ·rw [Mx hm e] at hn;exact ⟨n,hn,rfl,rfl,id⟩
end
end
section
section
variable {t:ψ} {δ:Int→Nat}
def aaq {l:List τ} {i:Int} {p q:τ} (hp:p∈l) (hq:q∈l) (aP:p≠q) (h1:0<cE p.Ψ i) (h2:0<cE q.Ψ i):2≤dD l i:=by
 induction l with
 |nil=>cases hp
 |cons x l ih =>
  rw [ye];have hc:∀{y:τ},y∈l→0<cE y.Ψ i→0<dD l i:=fun hy h=>DA.2 ⟨_,hy,vT.1 h⟩
  rcases bf.1 hp with e1|hp<;>rcases bf.1 hq with e2|hq
  ·exact absurd (e1.trans e2.symm) aP
  ·rw [←e1];have:=hc hq h2;omega
  ·rw [←e2];have:=hc hp h1;omega
  ·have:=ih hp hq;omega
def W.parent (h:W t δ) {p q:τ} (hp:p∈t.η) {e:aO} (he:e∈p.Ψ) (hq:gN t.η e.ι=some q) (hk:q.ξ=2):q.Up=p.ι:=by
 obtain ⟨k1,k2,k3⟩:=h.get hq;have hc:0<cE p.Ψ e.ι:=vT.2 ⟨e,he,rfl⟩;have bt:0<dD t.η e.ι:=DA.2 ⟨p,hp,e,he,rfl⟩
 rcases h.dir k1 hk with hr|hr
 ·exact absurd (k2.symm.trans hr.1) (h.ON hp he)
 ·rw [Lx,k2] at hr;obtain ⟨p',gB,e',fw,aca⟩:=hr.2.2.2 (by omega);have BE:=dM gB;by_cases UG:p=p'
  ·rw [UG,BE.2]
  ·have:=aaq hp BE.1 UG hc (vT.2 ⟨e',fw,aca⟩);omega
def W.Jw (h:W t δ) {i:Int} {m:τ} (hm:gN t.η i=some m) (hk:m.ξ=2) {e:aO} (he:e∈m.Ψ):e.ι≠i:=by
 intro yG;obtain ⟨k1,k2,k3⟩:=h.get hm;have hu:=h.parent k1 he (by rw [yG];exact hm) hk;obtain ⟨d,h1,-⟩:=h.deep hm hk
 have rz:i≠1:=by rw [←yG];exact h.ON k1 he
 cases h1 with
 |root=>exact rz rfl
 |step g1 g2 g3 g4 =>
  rw [hm] at g2;cases g2;rw [hu,k2] at g4;have:=g4.uniq (.step g1 hm g3 (by rw [hu,k2];exact g4));omega
def SR {l:List aO} {s:List UInt8} {e:aO} (hf:l.find? (fun e=>e.aN==s)=some e):(l.filter fun e=>!(e.aN==s)).length<l.length:=by
 rw [ZA];exact ⟨e,nj hf,by have:=alK hf;simpa using this⟩
def VV (h:RT t) {from_ to:Int} {s aJ:List UInt8} {mf md x:τ} {ef:aO} (a1:gN t.η from_=some mf) (a2:mf.ξ=2) (a5:mf.Ψ.find? (fun e=>e.aN==s)=some ef)
  (b1:gN t.η to=some md) (b2:md.ξ=2) (hx:gN t.η ef.ι=some x) (ES:ef.ι≠from_) (zn:ef.ι≠to) (hy:cd t to aJ≠ef.ι)
  (hY:(∀e,e∈md.Ψ→e.aN≠aJ)∧cd t to aJ=0∧(to≠from_→md.Ψ.length<64)∨∃ey ny,md.Ψ.find? (fun e=>e.aN==aJ)=some ey∧cd t to aJ=ey.ι∧gN t.η ey.ι=some ny∧ny.Ψ=[]) :
  W (iU t ef.ι from_ s to aJ (cd t to aJ)) (gR ef.ι)∧lU (iU t ef.ι from_ s to aJ (cd t to aJ)).η t.η∧gN (iU t ef.ι from_ s to aJ (cd t to aJ)).η ef.ι=some x∧∃mu,gN (iU t ef.ι from_ s to aJ (cd t to aJ)).η to=some mu∧mu.ξ=2∧(∀e,e∈mu.Ψ→e.aN≠aJ)∧mu.Ψ.length<64:=by
 obtain ⟨k1,k2,k3⟩:=W.get h a1;have jQ:=nj a5
 have w1:W (eM t from_ s) (gR ef.ι):=W.eM h a1 a2 a5 fun k=>by unfold gR;omega
 have s1:lU (eM t from_ s).η t.η:=lU.qv a1 s;have g1:=yq a1 s;have hl:=SR a5;have hlf:=(W.en h mf k1).n
 obtain ⟨m1,c1,c2,c3⟩:∃m1,gN (eM t from_ s).η to=some m1∧m1.ξ=2∧((to=from_∧m1=Gw mf (mf.Ψ.filter fun e=>!(e.aN==s))∧mf=md)∨(to≠from_∧m1=md)):=by
  rw [g1];by_cases e:to=from_
  ·rw [if_pos e];rw [e,a1] at b1;cases b1;exact ⟨_,rfl,a2,.inl ⟨e,rfl,rfl⟩⟩
  ·rw [if_neg e];exact ⟨md,b1,b2,.inr ⟨e,rfl⟩⟩
 have Tb:gN (eM t from_ s).η ef.ι=some x:=by rw [g1,if_neg ES,hx]
 rcases hY with ⟨bp,Od,hlen⟩|⟨ey,ny,fK,hye,kU,Nx⟩
 ·rw [Od];unfold iU;rw [if_neg (by simp)];refine ⟨w1,s1,Tb,m1,c1,c2,?_,?_⟩
  ·rcases c3 with ⟨e,rfl,rfl⟩|⟨e,rfl⟩
   ·exact fun e he=>bp e (ek.1 he).1
   ·exact bp
  ·rcases c3 with ⟨e,rfl,rfl⟩|⟨e,rfl⟩
   ·show (mf.Ψ.filter _).length<64;omega
   ·exact hlen e
 ·rw [hye] at hy ⊢;have U':=dM kU;have T6:=nj fK
  have I7:ey.ι≠from_:=fun e=>by rw [e,a1] at kU;cases kU;rw [Nx] at jQ;cases jQ
  have I9:ey.ι≠to:=fun e=>by rw [e,b1] at kU;cases kU;rw [Nx] at T6;cases T6
  have Od:ey.ι≠0:=by have:=(W.lo h ny U'.1).1;rw [U'.2] at this;omega
  have s4:m1.Ψ.find? (fun e=>e.aN==aJ)=some ey:=by
   rcases c3 with ⟨e,rfl,rfl⟩|⟨e,rfl⟩
   ·show (mf.Ψ.filter _).find? _=_
    have aP:aJ≠s:=fun e=>by rw [e,a5] at fK;cases fK;exact hy rfl
    rw [Zt]
    have:(fun a:aO=>decide ((!(a.aN==s))=true∧(a.aN==aJ)=true))=fun a=>a.aN==aJ:=by
     funext a;by_cases h1:a.aN=aJ
     ·simp [h1,aP]
     ·simp [h1]
    rw [this];exact fK
   ·exact fK
  have Bp:m1.Ψ.length≤64:=(w1.en m1 (dM c1).1).n;have w2:W (eM (eM t from_ s) to aJ) (fun k=>gR ef.ι k+if k=ey.ι then 1 else 0):=W.eM w1 c1 c2 s4 fun _=>rfl;have g2:=yq c1 aJ
  have Io:gN (eM (eM t from_ s) to aJ).η ey.ι=some ny:=by rw [g2,if_neg I9,g1,if_neg I7,kU]
  have Tc:gN (eM (eM t from_ s) to aJ).η ef.ι=some x:=by rw [g2,if_neg zn,Tb]
  unfold iU;rw [if_pos (by simpa using Od)];refine ⟨W.kr w2 Io (by rw [if_pos rfl];omega) Nx (fun q hq BF rK hqy=>?_) (fun k=>?_),(lU.un Io).trans ((lU.qv c1 aJ).trans s1),by rw [Mx Io (j3 hy),Tc],Gw m1 (m1.Ψ.filter fun e=>!(e.aN==aJ)),by rw [Mx Io (j3 I9),g2,if_pos rfl],c2,fun e he=>?_,?_⟩
  ·have hqi:q.ι=ef.ι:=by
    rw [if_neg hqy] at rK;unfold gR at rK;by_cases e:q.ι=ef.ι
    ·exact e
    ·rw [if_neg e] at rK;omega
   have hqx:q=x:=by
    have:=yr w2.s hq;rw [hqi,Tc] at this;cases this;rfl
   subst hqx;rw [W.parent h k1 jQ hx BF,k2];exact j3 I7
  ·unfold gR;by_cases e:k=ey.ι
   ·rw [if_pos e,if_neg (by rw [e];exact hy)]
   ·rw [if_neg e];omega
  ·have:=(ek.1 he).2;simpa using this
  ·have:=SR s4;show (m1.Ψ.filter _).length<64;omega
def RT.mv (h:RT t) (from_:Int) (s:List UInt8) (to:Int) (aJ:List UInt8):RT (qw t from_ s to aJ).1:=by
 unfold qw;split
 ·exact h
 next hL =>
 split
 ·exact h
 next hD =>
 split
 ·exact h
 next hR =>
 split
 ·exact h
 next hy =>
 split
 ·exact h
 next yU =>
 split
 ·exact h
 next c_ =>
 split
 ·exact h
 next Bi =>
 obtain ⟨mf,ef,a1,a2,a3,a4,a5,a6⟩:=look_ok (nr hL);obtain ⟨md,b1,b2,b3,b4⟩:=DF (nr hD);rw [a6] at hy yU c_ Bi ⊢;obtain ⟨k1,k2,k3⟩:=W.get h a1;have jQ:=nj a5;obtain ⟨x,hx⟩:=nk.1 (h.cl mf k1 ef jQ);obtain ⟨x1,x2,x3⟩:=W.get h hx;rw [x3] at yU c_
 have hR:f_ aJ=true:=by simpa using hR
 have hy:cd t to aJ≠ef.ι:=by simpa using hy
 have ES:ef.ι≠from_:=W.Jw h a1 a2 jQ;obtain ⟨dt,t1,t2,t3,t4⟩:=W.deep h b1 b2;unfold Jp at Bi;rw [b3,x3] at Bi;simp only [ug,bE,decide_eq_true_eq,not_or,not_and,beq_iff_eq,bne_iff_ne] at Bi;obtain ⟨⟨⟨f1,f2⟩,f3⟩,f4⟩:=Bi
 have f2:dt<12:=by rw [t4] at f2;omega
 rw [t4] at f3
 have wD:x.ξ=2→¬ju t.η ef.ι to:=fun hk hu=>yU (by
  have:j6 t.η to ef.ι=true:=LK hu t1 (by have:=yh t1;omega)
  simp [hk,this])
 have zn:ef.ι≠to:=fun e=>by
  rw [e,b1] at hx;cases hx;exact wD b2 (e▸.refl)
 have hY:(∀e,e∈md.Ψ→e.aN≠aJ)∧cd t to aJ=0∧(to≠from_→md.Ψ.length<64)∨∃ey ny,md.Ψ.find? (fun e=>e.aN==aJ)=some ey∧cd t to aJ=ey.ι∧gN t.η ey.ι=some ny∧ny.Ψ=[]:=by
  have jU:cd t to aJ=match md.Ψ.find? (fun e=>e.aN==aJ) with|some e=>e.ι|none=>0:=by unfold cd;rw [b3]<;>rfl
  cases fK:md.Ψ.find? (fun e=>e.aN==aJ) with
  |none =>
   rw [fK] at jU;refine .inl ⟨fun e he=>?_,jU,fun aP=>?_⟩
   ·rw [sw] at fK;simpa using fK e he
   ·have:=f1 ⟨jU,aP⟩;omega
  |some ey =>
   rw [fK] at jU;obtain ⟨ny,kU⟩:=nk.1 (h.cl md (dM b1).1 ey (nj fK));refine .inr ⟨ey,ny,rfl,jU,kU,?_⟩;have hc:=nr c_;unfold sE at hc;rw [jU] at hc;dsimp only at hc;rw [jd kU,kU] at hc;rw [if_neg (by simp)] at hc;split at hc
   ·cases hc
   split at hc
   ·cases hc
   split at hc
   ·cases hc
   ·next hz=>exact sx.1 (by have:¬((ny.Ψ.length:Int)>0):=fun h=>hz (decide_eq_true h);omega)
 obtain ⟨wu,su,MB,mu,MA,u2,u3,u4⟩:=VV h a1 a2 a5 b1 b2 hx ES zn hy hY;generalize iU t ef.ι from_ s to aJ (cd t to aJ)=u at *;obtain ⟨d,v1,v2,v3,v4⟩:=W.deep wu MA u2;have yF:d=dt:=(su.deep v1).uniq t1;subst yF;unfold ko;rw [x3];by_cases hk:(x.ξ==2)=true
 ·rw [if_pos hk]
  have hk:x.ξ=2:=by simpa using hk
  obtain ⟨dx,y1,y2,y3,y4⟩:=W.deep wu MB hk
  have Ξ:x.ι≠1:=fun e=>by have:=W.Jv wu;rw [x2] at e;unfold gR at this;rw [if_pos e.symm] at this;omega
  have Uu:¬ju u.η ef.ι to:=fun hu=>wD hk (su.oa hu)
  have wA:∀i,i≠ef.ι→gN (cF ⟨x.ι,x.ξ,x.aZ,x.aC,x.Ψ,to⟩ u.η) i=gN u.η i:=fun i hi=>by rw [ly];exact if_neg (by dsimp only;rw [x2];exact hi)
  have wm:W ⟨cF ⟨x.ι,x.ξ,x.aZ,x.aC,x.Ψ,to⟩ u.η,u.Next,u.aj⟩ (gR ef.ι):=by
   refine W.aei wu (dM MB).1 hk Ξ (by unfold gR;rw [if_pos x2];omega) v1 (by rw [x2];exact y1) (by rw [x2];exact Uu) fun n hn yP dO d' bH=>?_;rw [x2] at dO;obtain ⟨n',q1,q2,q3,q4⟩:=su n.ι n (yr wu.s hn);have wC:=dM q1;have p1:Deep t.η n.ι d':=su.deep bH;have p2:Deep t.η ef.ι dx:=su.deep y1;have p3:=(su.oa dO).deep p2 p1
   have hb:j6 t.η n'.ι ef.ι=true:=by rw [wC.2];exact LK (su.oa dO) p1 (by have:=yh p1;omega)
   have hh:=aco (a:=(d:Int)+1) wC.1 (by rw [q2,yP]) hb
   have M6:d'≤201:=by
    obtain ⟨d3,e1,e2,-⟩:=h.dp n' wC.1 (by rw [q2,yP]);rw [wC.2] at e1;have:=p1.uniq e1;omega
   have qs:dx≤201:=by omega
   rw [wC.2,L3 p1 M6,L3 p2 qs] at hh;have f3:=f3 hk;refine ⟨?_,fun ra=>q4 ?_⟩
   ·split at hh<;>omega
   ·split at hh
    ·omega
    ·next hz=>exact sx.1 (by have:¬((n'.Ψ.length:Int)>0):=fun h=>hz (decide_eq_true h);omega)
  refine W.j8 (q:=⟨x.ι,x.ξ,x.aZ,x.aC,x.Ψ,to⟩) wm (by dsimp only;rw [wA to (j3 zn)];exact MA) u2 hR u3 u4 (v1.Jx wA Uu) f2 (by dsimp only;rw [ly];exact if_pos x2.symm) (by unfold gR;rw [if_pos rfl];omega) (fun _=>rfl) fun j=>?_;unfold gR;split<;>rfl
 ·rw [if_neg hk];refine W.j8 wu MA u2 hR u3 u4 v1 f2 MB (by unfold gR;rw [if_pos rfl];omega) (fun e=>absurd (by simpa using e) hk) fun j=>?_;unfold gR;split<;>rfl
def RL:RT Qp:=by
 refine ⟨vH _ _,fun n hn=>?_,⟨_,rfl,rfl⟩,by decide,by decide,fun n hn=>?_,fun n hn e he=>?_,fun n hn=>?_,fun n hn _=>?_⟩<;>obtain rfl:=dC.1 hn
 ·decide
 ·exact ⟨by simp,jr,fun e he=>(by cases he),jr⟩
 ·cases he
 ·exact .inr ⟨rfl,rfl,.inl ⟨rfl,rfl,rfl,rfl,rfl⟩⟩
 ·exact ⟨0,.root,by omega,fun h=>by cases h⟩
end
end
section
def rQ {α:Type} (i n:Int) (v:α):∀l:List (Int×α),bn i (ak n v l)=if i=n then some v else bn i l
 |[]=>by
  unfold ak bn;by_cases h:n=i
  ·rw [if_pos h,if_pos h.symm]
  ·rw [if_neg h,if_neg (j3 h)];rfl
 |(k,c)::r=>by
  simp only [ak];by_cases hk:k=n
  ·rw [if_pos hk];simp only [bn];by_cases h:k=i
   ·rw [if_pos h,if_pos (by omega)]
   ·rw [if_neg h,if_neg (by omega),if_neg h]
  ·rw [if_neg hk];simp only [bn];by_cases h:k=i
   ·rw [if_pos h,if_neg (by omega),if_pos h]
   ·rw [if_neg h,rQ i n v r,if_neg h]
def E_ {α:Type} (n:Int) (v:α):∀l:List (Int×α),(ak n v l).length≤l.length+1
 |[]=>bG _
 |(k,c)::r=>by
  simp only [ak];split
  ·simp
  ·have:=E_ n v r;simp only [cZ];omega
def Jn {α:Type} {i:Int}:∀{l:List (Int×α)},(bn i l).isSome=true↔∃p,p∈l∧p.1=i
 |[]=>by simp [bn]
 |(k,c)::r=>by
  simp only [bn];by_cases h:k=i
  ·rw [if_pos h];simp [h]
  ·rw [if_neg h,Jn];constructor
   ·rintro ⟨p,hp,e⟩;exact ⟨p,cu _ hp,e⟩
   ·rintro ⟨p,hp,e⟩
    rcases bf.1 hp with rfl|hp
    ·exact absurd e h
    ·exact ⟨p,hp,e⟩
def E4:∀(n:Nat) (l:List Int),l.Pairwise (·≠·)→(∀x,x∈l→0≤x∧x<n)→l.length≤n
 |0,l,_,h=>by
  cases l with
  |nil=>exact bG _
  |cons x r=>have:=h x (by simp);omega
 |n+1,l,hp,h=>by
  have h1:=E4 n (l.filter fun x=>x != (n:Int)) (hp.filter _) fun x hx=>by
   obtain ⟨a,b⟩:=ek.1 hx;have:=h x a;simp at b;omega
  have h2:∀l:List Int,l.Pairwise (·≠·)→l.length≤(l.filter fun x=>x != (n:Int)).length+1:=by
   intro l;induction l with
   |nil=>intro _;exact lP _
   |cons x r ih =>
    intro hp;obtain ⟨a,b⟩:=eD.1 hp;rw [ic];by_cases e:x=(n:Int)
    ·have:r.filter (fun x=>x != (n:Int))=r:=by
      rw [ui];intro y hy;have:=a y hy;simp;omega
     rw [if_neg (by simp [e]),this];exact bG _
    ·have:=ih b;rw [if_pos (by simpa using e)];simp only [cZ];omega
  have:=h2 l hp;omega
inductive lT (g:Int→Option τ) (i:Int):Int→Prop
 |refl:lT g i i
 |step {j:Int} {n:τ} {e:aO}:lT g i j→g j=some n→e∈n.Ψ→lT g i e.ι
def lT.trans {g:Int→Option τ} {i j k:Int} (h:lT g i j) (h':lT g j k):lT g i k:=by
 induction h' with
 |refl=>exact h
 |step _ h2 h3 ih=>exact .step ih h2 h3
abbrev Met:=List (Int×ee)
abbrev gy:=List (Int×τ)
def dA (m:Met) (j:Int):Prop:=(bn j m).isSome=true
def pI (m:Met) (n j:Int) (v:ee):dA (ak n v m) j↔j=n∨dA m j:=by
 unfold dA;rw [rQ];by_cases h:j=n;iterate 2 simp [h]
structure Tr (g:Int→Option τ) (A:Int→Prop) (m:Met) (o:List τ) (m':Met) (o':List τ) (w:Bool):Prop where
 mo:∀j,dA m j→dA m' j
 new:∃N:List τ,o'=o++N∧(∀n,n∈N→g n.ι=some n∧¬dA m n.ι∧dA m' n.ι)∧N.Pairwise (fun a b=>a.ι≠b.ι)∧∀j,dA m' j→¬dA m j→∀n,g j=some n→n∈N
 rc:∀j,dA m' j→¬dA m j→∃r,A r∧lT g r j
 cl:∀j,dA m' j→¬dA m j→∀n,g j=some n→∀e,e∈n.Ψ→dA m' e.ι
 wh:w=true↔∀j,dA m' j→¬dA m j→(g j).isSome=true
section
variable {g:Int→Option τ} {A:Int→Prop} {m m1 m2:Met} {o o1 o2:List τ} {w w1 w2:Bool}
def Tr.refl:Tr g A m o m o true :=
 ⟨fun _ h=>h,⟨[],by simp,fun n hn=>(by cases hn),jr,fun j h h'=>absurd h h'⟩,fun j h h'=>absurd h h',fun j h h'=>absurd h h',⟨fun _ j h h'=>absurd h h',fun _=>rfl⟩⟩
def Tr.trans (hg:∀j n,g j=some n→n.ι=j) (h:Tr g A m o m1 o1 w1) (h':Tr g A m1 o1 m2 o2 w2):Tr g A m o m2 o2 (w2&&w1):=by
 obtain ⟨N,hN,yw,El,Em⟩:=h.new;obtain ⟨M,hM,Tv,hM2,hM3⟩:=h'.new;refine ⟨fun j hj=>h'.mo j (h.mo j hj),⟨N++M,by rw [hM,hN,lN],fun n hn=>?_,?_,fun j hj dq n hn=>?_⟩,fun j hj dq=>?_,fun j hj dq n hn e he=>?_,?_⟩
 ·rcases gl.1 hn with hn|hn
  ·obtain ⟨a,b,c⟩:=yw n hn;exact ⟨a,b,h'.mo _ c⟩
  ·obtain ⟨a,b,c⟩:=Tv n hn;exact ⟨a,fun hm=>b (h.mo _ hm),c⟩
 ·refine vF.2 ⟨El,hM2,fun a ha b hb=>fun e=>?_⟩;exact (Tv b hb).2.1 (e▸(yw a ha).2.2)
 ·by_cases h1:dA m1 j
  ·exact qR _ (Em j h1 dq n hn)
  ·exact List.mem_append_right _ (hM3 j hj h1 n hn)
 ·by_cases h1:dA m1 j
  ·exact h.rc j h1 dq
  ·exact h'.rc j hj h1
 ·by_cases h1:dA m1 j
  ·exact h'.mo _ (h.cl j h1 dq n hn e he)
  ·exact h'.cl j hj h1 n hn e he
 ·rw [bE,h'.wh,h.wh];constructor
  ·rintro ⟨a,b⟩ j hj dq;by_cases h1:dA m1 j
   ·exact b j h1 dq
   ·exact a j hj h1
  ·intro a;exact ⟨fun j hj dq=>a j hj fun h1=>dq (h.mo j h1),fun j hj dq=>a j (h'.mo j hj) dq⟩
def Tr.sub {A':Int→Prop} (h:Tr g A m o m1 o1 w) (hA:∀r,A r→∃r',A' r'∧lT g r' r):Tr g A' m o m1 o1 w :=
 ⟨h.mo,h.new,fun j hj dq=>by
  obtain ⟨r,hr,h1⟩:=h.rc j hj dq;obtain ⟨r',cJ,h2⟩:=hA r hr
  exact ⟨r',cJ,h2.trans h1⟩,h.cl,h.wh⟩
def Tr.none {i:Int} {v:ee} (hi:¬dA m i) (hg:g i=none):Tr g (·=i) m o (ak i v m) o false:=by
 have hn:∀j,dA (ak i v m) j→¬dA m j→j=i:=fun j hj dq=>((pI _ _ _ _).1 hj).resolve_right dq;refine ⟨fun j hj=>(pI _ _ _ _).2 (.inr hj),⟨[],by simp,fun n hn=>(by cases hn),jr,fun j hj dq n Ni=>?_⟩,fun j hj dq=>⟨i,rfl,by rw [hn j hj dq];exact .refl⟩,fun j hj dq n Ni=>?_,⟨fun h=>(by cases h),fun h=>?_⟩⟩;iterate 2 (rw [hn j hj dq,hg] at Ni;cases Ni)
 ·have:=h i ((pI _ _ _ _).2 (.inl rfl)) hi;rw [hg] at this;cases this
def Tr.one (hgi:∀j n,g j=some n→n.ι=j) {i:Int} {v:ee} {n:τ} (hi:¬dA m i) (hn:g i=some n) (h:Tr g (fun r=>∃e,e∈n.Ψ∧e.ι=r) (ak i v m) (o++[n]) m1 o1 w) (Er:∀e,e∈n.Ψ→dA m1 e.ι):Tr g (·=i) m o m1 o1 w:=by
 obtain ⟨N,hN,yw,El,Em⟩:=h.new;have rF:=hgi i n hn;have rz:dA (ak i v m) i:=(pI _ _ _ _).2 (.inl rfl);have hm:∀{j},¬dA m j→j≠i→¬dA (ak i v m) j:=fun hj uO hm=>((pI _ _ _ _).1 hm).elim uO hj;refine ⟨fun j hj=>h.mo j ((pI _ _ _ _).2 (.inr hj)),⟨n::N,by rw [hN,lN];rfl,fun x hx=>?_,?_,fun j hj dq x hx=>?_⟩,fun j hj dq=>?_,fun j hj dq x hx e he=>?_,?_⟩
 ·rcases bf.1 hx with rfl|hx
  ·rw [rF];exact ⟨hn,hi,h.mo _ rz⟩
  ·obtain ⟨a,b,c⟩:=yw x hx;exact ⟨a,fun hm=>b ((pI _ _ _ _).2 (.inr hm)),c⟩
 ·refine eD.2 ⟨fun x hx e=>?_,El⟩;exact (yw x hx).2.1 (by rw [←e,rF];exact rz)
 ·by_cases e:j=i
  ·rw [e,hn] at hx;cases hx;simp
  ·exact cu _ (Em j hj (hm dq e) x hx)
 ·by_cases e:j=i
  ·exact ⟨i,rfl,by rw [e];exact .refl⟩
  ·obtain ⟨r,⟨e',fw,rfl⟩,h2⟩:=h.rc j hj (hm dq e);exact ⟨i,rfl,(lT.step .refl hn fw).trans h2⟩
 ·by_cases e1:j=i
  ·rw [e1,hn] at hx;cases hx;exact Er e he
  ·exact h.cl j hj (hm dq e1) x hx e he
 ·rw [h.wh];constructor
  ·intro a j hj dq;by_cases e:j=i
   ·rw [e,hn];rfl
   ·exact a j hj (hm dq e)
  ·intro a j hj dq;exact a j hj fun h1=>dq ((pI _ _ _ _).2 (.inr h1))
end
end
section
structure MO (m:Met) (o:List τ):Prop where
 k:(m.map (·.1)).Pairwise (·≠·)
 r:∀p,p∈m→0≤p.1∧p.1<5000
 ok:(o.map (·.ι)).Pairwise (·≠·)
 om:∀n,n∈o→dA m n.ι
def MO.ml {m:Met} {o:List τ} (h:MO m o):m.length≤5000:=by
 have:=E4 5000 (m.map (·.1)) h.k fun x hx=>by
  obtain ⟨p,hp,rfl⟩:=c9.1 hx;exact h.r p hp
 rw [az] at this;exact this
def MO.ol {m:Met} {o:List τ} (h:MO m o):o.length≤5000:=by
 have:=E4 5000 (o.map (·.ι)) h.ok fun x hx=>by
  obtain ⟨n,hn,rfl⟩:=c9.1 hx;obtain ⟨p,hp,e⟩:=Jn.1 (h.om n hn);rw [←e];exact h.r p hp
 rw [az] at this;exact this
def MO.set {m:Met} {o:List τ} (h:MO m o) {i:Int} (hi:¬dA m i) (hr:0≤i∧i<5000) (v:ee):MO (ak i v m) o:=by
 rcases BR i v m with ⟨h1,h2,h3⟩|⟨j,c,h1,h2,_⟩
 ·rw [h2];refine ⟨?_,fun p hp=>?_,h.ok,fun n hn=>?_⟩
  ·rw [fu];refine vF.2 ⟨h.k,vH _ _,fun a ha b hb=>?_⟩;obtain ⟨p,hp,rfl⟩:=c9.1 ha;simp at hb;rw [hb];exact h3 p hp
  ·rcases gl.1 hp with hp|hp
   ·exact h.r p hp
   ·obtain rfl:=dC.1 hp;exact hr
  ·rw [←h2];exact (pI _ _ _ _).2 (.inr (h.om n hn))
 ·exact absurd (by unfold dA;rw [h2];rfl) hi
def MO.out {m:Met} {o:List τ} (h:MO m o) {n:τ} (hn:dA m n.ι) (ho:∀x,x∈o→x.ι≠n.ι):MO m (o++[n]):=by
 refine ⟨h.k,h.r,?_,fun x hx=>?_⟩
 ·rw [fu];refine vF.2 ⟨h.ok,vH _ _,fun a ha b hb=>?_⟩;obtain ⟨p,hp,rfl⟩:=c9.1 ha;simp at hb;rw [hb];exact ho p hp
 ·rcases gl.1 hx with hx|hx
  ·exact h.om x hx
  ·obtain rfl:=dC.1 hx;exact hn
structure xE (all:gy):Prop where
 i:∀j n,bn j all=some n→n.ι=j
 e:∀j n,bn j all=some n→∀e,e∈n.Ψ→0≤e.ι∧e.ι<5000
 l:∀j n,bn j all=some n→n.Ψ.length≤100000
abbrev VF:=(Int×Met×gy×List τ)→Option (Bool×Met×gy×List τ)
def Dp (all:gy) (i:Int) (m:Met) (o:List τ) (r:Bool×Met×gy×List τ):Prop :=
 r.2.2.1=all∧Tr (fun j=>bn j all) (·=i) m o r.2.1 r.2.2.2 r.1∧dA r.2.1 i∧MO r.2.1 r.2.2.2
def Yg {f:VF} {all:gy} (hG:xE all) (P:Met→Prop) (hP:∀m m',(∀j,dA m j→dA m' j)→P m→P m')
  (hf:∀i m o,0≤i∧i<5000→MO m o→P m→ε (f (i,m,all,o)) (Dp all i m o)) {i:Int} {m:Met} {o:List τ} (hr:0≤i∧i<5000) (hm:MO m o)
  (hs:¬dA m i→(bn i all).isSome=true→P (ak i ⟨⟩ m)):ε (rY f i m all o) (Dp all i m o):=by
 have jC:=hm.ml;have hol:=hm.ol;unfold rY;refine ε.ai rfl (ε.ite (fun e=>ε.ret ⟨rfl,Tr.refl,e,hm⟩) fun e=>?_);have hi:¬dA m i:=e;refine ε.Ω ⟨by unfold Θ;omega,by omega⟩ (ε.ai rfl ?_);cases hg:bn i all with
 |none=>exact ε.cond rfl (ε.ret ⟨rfl,Tr.none hi hg,(pI _ _ _ _).2 (.inl rfl),hm.set hi hr _⟩)
 |some n =>
  have rF:=hG.i i n hg;have EB:=hG.l i n hg;have rz:dA (ak i (⟨⟩:ee) m) i:=(pI _ _ _ _).2 (.inl rfl);have iP:MO (ak i ⟨⟩ m) (o++[n]):=(hm.set hi hr _).out (by rw [rF];exact rz) fun x hx ex=>hi (by rw [←rF,←ex];exact hm.om x hx);have y_:P (ak i ⟨⟩ m):=hs hi (by rw [hg];rfl);refine ε.cR (by simp) (ε.Ω (by simp only [cZ,ig];omega) ?_);show ε ((FR n f (true,0,ak i ⟨⟩ m,all,o++[n])).bind _) _;refine ε.bind (R:=fun v:Bool×Met×gy×List τ=>v.2.2.1=all∧Tr (fun j=>bn j all) (fun r=>∃e,e∈n.Ψ∧e.ι=r) (ak i ⟨⟩ m) (o++[n]) v.2.1 v.2.2.2 v.1∧(∀e,e∈n.Ψ→dA v.2.1 e.ι)∧MO v.2.1 v.2.2.2) ?_ fun v hv=>ε.ret ⟨hv.1,Tr.one hG.i hi hg hv.2.1 hv.2.2.1,hv.2.1.mo _ rz,hv.2.2.2⟩;unfold FR;refine ε.aa9 (l:=n.Ψ) (fun s:Bool×Int×Met×gy×List τ=>s.2.1) (fun k s=>s.2.2.2.1=all∧Tr (fun j=>bn j all) (fun r=>∃e,e∈n.Ψ∧e.ι=r) (ak i ⟨⟩ m) (o++[n]) s.2.2.1 s.2.2.2.2 s.1∧(∀e,e∈n.Ψ.take k→dA s.2.2.1 e.ι)∧MO s.2.2.1 s.2.2.2.2) (fun k e s Φ he hc hi=>?_) (fun s hc hi=>?_) _ rfl ⟨rfl,Tr.refl,fun e he=>by simp at he,iP⟩
  ·obtain ⟨w,c,mk,al,ok⟩:=s;dsimp only at hc hi;subst hc;obtain ⟨rfl,ht,Er,rE⟩:=hi;have jQ:=mb he;unfold w9;refine ε.cond (by simpa using Φ) ?_;dsimp only;refine ε.bind (R:=fun v:Bool×Met×gy×List τ=>v.2.2.1=al∧Tr (fun j=>bn j al) (fun r=>∃e,e∈n.Ψ∧e.ι=r) (ak i ⟨⟩ m) (o++[n]) v.2.1 v.2.2.2 v.1∧(∀e,e∈n.Ψ.take (k+1)→dA v.2.1 e.ι)∧MO v.2.1 v.2.2.2) (ε.ai (cL he) (ε.bind (hf e.ι mk ok (hG.e i n hg e jQ) rE (hP _ _ ht.mo y_)) fun r hr=>?_)) fun v hv=>ε.Ω (by unfold Θ;omega) (ε.inl ⟨rfl,hv⟩);obtain ⟨h1,h2,h3,h4⟩:=hr;refine ε.ai (a:=r.1&&w) (by cases r.1<;>rfl) (ε.ret ⟨h1,ht.trans hG.i (h2.sub fun j hj=>⟨j,⟨e,jQ,hj.symm⟩,.refl⟩),fun e' fw=>?_,h4⟩);rw [rZ he] at fw
   rcases gl.1 fw with fw|fw
   ·exact h2.mo _ (Er e' fw)
   ·obtain rfl:=dC.1 fw;exact h3
  ·obtain ⟨w,c,mk,al,ok⟩:=s;dsimp only at hc hi;subst hc;rw [jK] at hi;unfold w9;exact ε.cR (by simp) (ε.out (ε.ret hi))
def zA (all:gy) (m:Met):Nat:=(all.filter fun p=>!(bn p.1 m).isSome).length
def filter_le {α:Type} {p q:α→Bool}:∀{l:List α},(∀x,x∈l→p x=true→q x=true)→(l.filter p).length≤(l.filter q).length
 |[],_=>bG _
 |x::r,h=>by
  have ih:=filter_le (l:=r) fun y hy=>h y (cu _ hy);have hx:=h x (by simp);rw [ic,ic];cases hp:p x with
  |true=>rw [hx hp];simp only [if_true,cZ];omega
  |false=>cases q x<;>simp only [if_true,ni,if_false,cZ]<;>omega
def filter_lt {α:Type} {p q:α→Bool}:∀{l:List α},(∀x,x∈l→p x=true→q x=true)→(∃x,x∈l∧p x=false∧q x=true)→(l.filter p).length<(l.filter q).length
 |[],_,h=>by obtain ⟨x,hx,_⟩:=h;cases hx
 |x::r,h,hex=>by
  have hr:∀y,y∈r→p y=true→q y=true:=fun y hy=>h y (cu _ hy);have hle:=filter_le hr;have hx:=h x (by simp);rw [ic,ic];obtain ⟨y,hy,h1,h2⟩:=hex
  rcases bf.1 hy with rfl|hy
  ·rw [h1,h2];simp only [if_true,ni,if_false,cZ];omega
  ·have ih:=filter_lt hr ⟨y,hy,h1,h2⟩;cases hp:p x with
   |true=>rw [hx hp];simp only [if_true,cZ];omega
   |false=>cases q x<;>simp only [if_true,ni,if_false,cZ]<;>omega
def ael {all:gy} {m m':Met} (h:∀j,dA m j→dA m' j):zA all m'≤zA all m :=
 filter_le fun p _ hp=>by
  cases e:(bn p.1 m).isSome with
  |false=>rfl
  |true=>have:=h p.1 e;unfold dA at this;rw [this] at hp;cases hp
def aem {all:gy} {m:Met} {i:Int} (hi:¬dA m i) (hg:(bn i all).isSome=true) (v:ee):zA all (ak i v m)<zA all m:=by
 refine filter_lt (fun p _ hp=>?_) ?_
 ·cases e:(bn p.1 m).isSome with
  |false=>rfl
  |true=>have:dA (ak i v m) p.1:=(pI _ _ _ _).2 (.inr e);unfold dA at this;rw [this] at hp;cases hp
 ·obtain ⟨p,hp,e⟩:=Jn.1 hg;have h1:dA (ak i v m) p.1:=(pI _ _ _ _).2 (.inl e);unfold dA at h1 hi;refine ⟨p,hp,by rw [h1];rfl,?_⟩;rw [e];cases h2:(bn i m).isSome with
  |false=>rfl
  |true=>exact absurd h2 hi
noncomputable def LF:VF→VF:=fun f a=>rY f a.1 a.2.1 a.2.2.1 a.2.2.2
def Z0:Hj LF:=fun f g h a r hr=>aed f g (fun a r=>h a r) a.1 a.2.1 a.2.2.1 a.2.2.2 r hr
def Yi {all:gy} (hG:xE all):∀(n:Nat) (i:Int) (m:Met) (o:List τ),0≤i∧i<5000→MO m o→zA all m<n→ε (qA LF n (i,m,all,o)) (Dp all i m o)
 |0,_,_,_,_,_,h=>by omega
 |n+1,i,m,o,hr,hm,hn=>by
  show ε (rY (qA LF n) i m all o) _
  exact Yg hG (fun m=>zA all m<n) (fun m m' h1 h2=>Nat.lt_of_le_of_lt (ael h1) h2) (fun i m o=>Yi hG n i m o) hr hm fun hi hg=>by have:=aem hi hg ⟨⟩;omega
def ain {all:gy} (hG:xE all) (i:Int) (m:Met) (o:List τ) (hr:0≤i∧i<5000) (hm:MO m o):ε (FQ i m all o) (Dp all i m o):=by
 obtain ⟨r,h1,h2⟩:=Yi hG (zA all m+1) i m o hr hm (Nat.lt_succ_self _);exact ⟨r,SY Z0 h1,h2⟩
def abF (i:Int) (m:Met) (all:gy):Cm i m all=rY (fun a=>FQ a.1 a.2.1 a.2.2.1 a.2.2.2) i m all []:=rfl
def aim {all:gy} (hG:xE all) (i:Int) (hr:0≤i∧i<5000):ε (Cm i [] all) (Dp all i [] []):=by
 rw [abF];exact Yg hG (fun _=>True) (fun _ _ _ _=>trivial) (fun i m o hr hm _=>ain hG i m o hr hm) hr ⟨jr,fun p hp=>(by cases hp),jr,fun n hn=>(by cases hn)⟩ fun _ _=>trivial
end
section
def Vk {α:Type} {c:α→α→Option Int} {k:α→Int} (hc:oX c fun a b=>gS (k a) (k b)) {x:α}:∀{l:List α},(∀y,y∈l→k y≠k x)→∃r,zq c x l=some r
 |[],_=>⟨_,rfl⟩
 |y::r,h=>by
  have hy:=h y (by simp);obtain ⟨t,ht⟩:=Vk hc (x:=x) fun z hz=>h z (cu _ hz);simp only [zq,hc.1];by_cases h1:gS (k x) (k y)<0
  ·have:¬gS (k y) (k x)<0:=fun h2=>by have:=jx.1 h1;have:=jx.1 h2;omega
   rw [if_pos h1,if_neg this];exact ⟨_,rfl⟩
  ·have:gS (k y) (k x)<0:=jx.2 (by have:¬k x<k y:=fun h2=>h1 (jx.2 h2);omega);rw [if_neg h1,if_pos this,ht];exact ⟨_,rfl⟩
def Qi {α:Type} {c:α→α→Option Int} {k:α→Int} (hc:oX c fun a b=>gS (k a) (k b)):∀{l:List α},l.Pairwise (fun a b=>k a≠k b)→∃r,tV c l=some r
 |[],_=>⟨_,rfl⟩
 |x::r,h=>by
  obtain ⟨h1,h2⟩:=eD.1 h;obtain ⟨t,ht⟩:=Qi hc h2;have hp:=(Gg hc ht).1;obtain ⟨u,hu⟩:=Vk hc (x:=x) (l:=t) fun y hy=>j3 (h1 y (hp.mem_iff.1 hy));exact ⟨u,by simp only [tV];rw [ht];exact hu⟩
def ahS {l:List τ} (h:l.Pairwise (fun a b=>a.ι≠b.ι)) (hl:l.length≤100000):ε (xc z8 l) (fun r=>dY r∧∀n,n∈r↔n∈l):=by
 obtain ⟨r,hr⟩:=Qi MS (k:=fun n:τ=>n.ι) h;obtain ⟨h1,h2⟩:=Gg MS hr;exact ⟨r,XE (by omega) hr,h2.imp fun h=>jx.1 h,fun n=>h1.mem_iff⟩
def ahV {a b:List τ} (ha:dY a) (hb:dY b) (h:∀n,n∈a↔n∈b):a=b:=by
 induction a generalizing b with
 |nil =>
  cases b with
  |nil=>rfl
  |cons y r=>exact absurd ((h y).2 (by simp)) (by simp)
 |cons x l ih =>
  cases b with
  |nil=>exact absurd ((h x).1 (by simp)) (by simp)
  |cons y r =>
   obtain ⟨a1,a2⟩:=eD.1 ha;obtain ⟨b1,b2⟩:=eD.1 hb
   have hxy:x=y:=by
    rcases bf.1 ((h x).1 (by simp)) with e|e
    ·exact e
    ·rcases bf.1 ((h y).2 (by simp)) with e2|e2
     ·exact e2.symm
     ·have:=b1 x e;have:=a1 y e2;omega
   subst hxy;rw [ih a2 b2 fun n=>?_];constructor
   ·intro hn
    rcases bf.1 ((h n).1 (cu _ hn)) with e|e
    ·have:=a1 n hn;rw [e] at this;omega
    ·exact e
   ·intro hn
    rcases bf.1 ((h n).2 (cu _ hn)) with e|e
    ·have:=b1 n hn;rw [e] at this;omega
    ·exact e
def nW (a:Int) (m:gy) (p:br):gy:=if (decide (p.lS≤a)&&decide (a<p.i_))=true then ak p.fj.ι p.fj m else m
def nT (a:Int) (m:gy) (q:τ×Int):gy:=if decide (q.2≤a)=true then ak q.1.ι q.1 m else m
def allM (s:bx) (a:Int):gy:=(s.Γ.η.zip s.a_).foldl (nT a) (s.aU.foldl (nW a) [])
def Seen (s:bx) (a:Int) (n:τ):Prop:=(∃q,q∈s.Γ.η.zip s.a_∧q.1=n∧q.2≤a)∨∃p,p∈s.aU∧p.fj=n∧p.lS≤a∧a<p.i_
def O9 (a:Int):∀(l:List br) (m:gy),(l.foldl (nW a) m).length≤m.length+l.length
 |[],_=>bG _
 |p::l,m=>by
  rw [pZ];have h1:=O9 a l (nW a m p)
  have h2:(nW a m p).length≤m.length+1:=by
   unfold nW;split
   ·exact E_ _ _ _
   ·omega
  simp only [cZ];omega
def VY (a:Int):∀(l:List (τ×Int)) (m:gy),(l.foldl (nT a) m).length≤m.length+l.length
 |[],_=>bG _
 |p::l,m=>by
  rw [pZ];have h1:=VY a l (nT a m p)
  have h2:(nT a m p).length≤m.length+1:=by
   unfold nT;split
   ·exact E_ _ _ _
   ·omega
  simp only [cZ];omega
def O8 (a j:Int) (n:τ):∀(l:List br) (m:gy),bn j (l.foldl (nW a) m)=some n→(∃p,p∈l∧p.fj=n∧n.ι=j∧p.lS≤a∧a<p.i_)∨bn j m=some n
 |[],_,h=>.inr h
 |p::l,m,h=>by
  rw [pZ] at h
  rcases O8 a j n l _ h with ⟨q,hq,h1⟩|h1
  ·exact .inl ⟨q,cu _ hq,h1⟩
  ·unfold nW at h1;split at h1
   ·next hc =>
    rw [rQ] at h1;split at h1
    ·next e=>cases h1;simp at hc;exact .inl ⟨p,by simp,rfl,e.symm,hc.1,hc.2⟩
    ·exact .inr h1
   ·exact .inr h1
def OQ (a j:Int) (n:τ):∀(l:List (τ×Int)) (m:gy),bn j (l.foldl (nT a) m)=some n→(∃q,q∈l∧q.1=n∧n.ι=j∧q.2≤a)∨bn j m=some n
 |[],_,h=>.inr h
 |p::l,m,h=>by
  rw [pZ] at h
  rcases OQ a j n l _ h with ⟨q,hq,h1⟩|h1
  ·exact .inl ⟨q,cu _ hq,h1⟩
  ·unfold nT at h1;split at h1
   ·next hc =>
    rw [rQ] at h1;split at h1
    ·next e=>cases h1;simp at hc;exact .inl ⟨p,by simp,rfl,e.symm,hc⟩
    ·exact .inr h1
   ·exact .inr h1
def WL (a j:Int):∀(l:List br) (m:gy),((bn j m).isSome=true∨∃p,p∈l∧p.fj.ι=j∧p.lS≤a∧a<p.i_)→(bn j (l.foldl (nW a) m)).isSome=true
 |[],_,h=>h.elim id fun ⟨p,hp,_⟩=>by cases hp
 |p::l,m,h=>by
  rw [pZ];refine WL a j l _ ?_
  have key:∀i,(bn i m).isSome=true→(bn i (nW a m p)).isSome=true:=fun i hi=>by
   unfold nW;split
   ·rw [rQ];split;rfl;exact hi
   ·exact hi
  rcases h with h|⟨q,hq,h1,h2,h3⟩
  ·exact .inl (key j h)
  ·rcases bf.1 hq with rfl|hq
   ·left
    unfold nW;rw [if_pos (by simp [h2,h3]),rQ,if_pos h1.symm];rfl
   ·exact .inr ⟨q,hq,h1,h2,h3⟩
def OR (a j:Int):∀(l:List (τ×Int)) (m:gy),((bn j m).isSome=true∨∃q,q∈l∧q.1.ι=j∧q.2≤a)→(bn j (l.foldl (nT a) m)).isSome=true
 |[],_,h=>h.elim id fun ⟨p,hp,_⟩=>by cases hp
 |p::l,m,h=>by
  rw [pZ];refine OR a j l _ ?_
  have key:∀i,(bn i m).isSome=true→(bn i (nT a m p)).isSome=true:=fun i hi=>by
   unfold nT;split
   ·rw [rQ];split;rfl;exact hi
   ·exact hi
  rcases h with h|⟨q,hq,h1,h2⟩
  ·exact .inl (key j h)
  ·rcases bf.1 hq with rfl|hq
   ·left
    unfold nT;rw [if_pos (by simp [h2]),rQ,if_pos h1.symm];rfl
   ·exact .inr ⟨q,hq,h1,h2⟩
def Z2 {s:bx} {a:Int} (hu:∀m n,Seen s a m→Seen s a n→m.ι=n.ι→m=n) (j:Int) (n:τ):bn j (allM s a)=some n↔Seen s a n∧n.ι=j:=by
 have U0:∀n,bn j (allM s a)=some n→Seen s a n∧n.ι=j:=fun n h=>by
  rcases OQ a j n _ _ h with ⟨q,hq,h1,h2,h3⟩|h
  ·exact ⟨.inl ⟨q,hq,h1,h3⟩,h2⟩
  ·rcases O8 a j n _ _ h with ⟨p,hp,h1,h2,h3⟩|h
   ·exact ⟨.inr ⟨p,hp,h1,h3⟩,h2⟩
   ·cases h
 refine ⟨U0 n,fun ⟨h,hj⟩=>?_⟩
 have:(bn j (allM s a)).isSome=true:=by
  rcases h with ⟨q,hq,h1,h2⟩|⟨p,hp,h1,h2,h3⟩
  ·exact OR a j _ _ (.inr ⟨q,hq,by rw [h1,hj],h2⟩)
  ·exact OR a j _ _ (.inl (WL a j _ _ (.inr ⟨p,hp,by rw [h1,hj],h2,h3⟩)))
 obtain ⟨m,hm⟩:=nk.1 this;obtain ⟨h1,h2⟩:=U0 m hm;rw [hm,hu m n h1 h (by rw [h2,hj])]
def afA (s:bx) (x:bd) (hp:s.aU.length≤1000000) (hi:∀p,p∈s.aU→Θ p.fj.ι):PJ s x (0,[])=some (s.aU.foldl (nW x.At) []):=by
 refine ε.eq ?_;unfold PJ;refine ε.each (l:=s.aU) (fun k m=>m=(s.aU.take k).foldl (nW x.At) []) (fun k p m Φ hx hm=>?_) (fun m hm=>?_) _ rfl
 ·have hl:=O9 x.At (s.aU.take k) [];rw [←hm,dR] at hl;simp only [ig] at hl;unfold FT;refine ε.cond (by simpa using Φ) ?_;dsimp only;rw [cL hx,cD,ba (b:=decide (x.At<p.i_)) (fun _=>rfl),cD,cD];refine ε.bind (R:=(·=nW x.At m p)) ?_ fun v hv=>ε.Ω (by unfold Θ;omega) (ε.inl ⟨rfl,by rw [rZ hx,G4,←hm];exact hv⟩);unfold nW;refine ε.ite (fun e=>ε.Ω ⟨hi p (mb hx),by omega⟩ (ε.ret (by rw [if_pos e]))) fun e=>ε.ret (by rw [if_neg e])
 ·rw [jK] at hm;unfold FT;exact ε.cR (by simp) (ε.out (ε.ret hm))
def afB (s:bx) (x:bd) (m0:gy) (h0:m0.length≤1000000) (hn:s.Γ.η.length≤1000000) (hs:s.a_.length=s.Γ.η.length) (hi:∀n,n∈s.Γ.η→Θ n.ι):PK s x (0,m0)=some ((s.Γ.η.zip s.a_).foldl (nT x.At) m0):=by
 refine ε.eq ?_
 have hz:(s.Γ.η.zip s.a_).length=s.Γ.η.length:=by rw [alM,hs];omega
 unfold PK;refine ε.each (l:=s.Γ.η.zip s.a_) (fun k m=>m=((s.Γ.η.zip s.a_).take k).foldl (nT x.At) m0) (fun k q m Φ hx hm=>?_) (fun m hm=>?_) _ rfl
 ·obtain ⟨h1,h2⟩:=QN hx;have hl:=VY x.At ((s.Γ.η.zip s.a_).take k) m0;rw [←hm,dR] at hl;unfold FU;refine ε.cond (by simp;omega) ?_;dsimp only;rw [cL h1,cD,cL h2,cD];refine ε.bind (R:=(·=nT x.At m q)) ?_ fun v hv=>ε.Ω (by unfold Θ;omega) (ε.inl ⟨rfl,by rw [rZ hx,G4,←hm];exact hv⟩);unfold nT;refine ε.ite (fun e=>ε.Ω ⟨hi q.1 (mb h1),by omega⟩ (ε.ret (by rw [if_pos e]))) fun e=>ε.ret (by rw [if_neg e])
 ·rw [jK] at hm;unfold FU;exact ε.cR (by rw [hz];simp) (ε.out (ε.ret hm))
def Hf (g:Int→Option τ) (i:Int) (r:List τ×Bool):Prop:=dY r.1∧(∀n,n∈r.1↔lT g i n.ι∧g n.ι=some n)∧(r.2=true↔∀j,lT g i j→(g j).isSome=true)
def Hf.eq {g g':Int→Option τ} {i:Int} {r r':List τ×Bool} (h:Hf g i r) (h':Hf g' i r') (hg:∀j,g j=g' j):r=r':=by
 obtain rfl:g=g':=funext hg;refine Prod.ext (ahV h.1 h'.1 fun n=>(h.2.1 n).trans (h'.2.1 n).symm) ?_;have:=h.2.2.trans h'.2.2.symm;cases h1:r.2<;>cases h2:r'.2<;>simp_all
def afz (s:bx) (x:bd) (hp:s.aU.length≤400000) (hi:∀p,p∈s.aU→Θ p.fj.ι) (hn:s.Γ.η.length≤400000) (hs:s.a_.length=s.Γ.η.length) (kQ:∀n,n∈s.Γ.η→Θ n.ι) (hG:xE (allM s x.At)) (hx:0≤x.ι∧x.ι<5000):ε (FP s x) (Hf (fun j=>bn j (allM s x.At)) x.ι):=by
 unfold FP;refine ε.ai (afA s x (by omega) hi) (ε.ai (afB s x _ (by have:=O9 x.At s.aU [];simp only [ig] at this;omega) (by omega) hs kQ) ?_);show ε ((Cm x.ι [] (allM s x.At)).bind _) _;refine ε.bind (aim hG x.ι hx) fun r hr=>?_;obtain ⟨h1,h2,h3,h4⟩:=hr;obtain ⟨N,hN,yw,El,Em⟩:=h2.new
 have h0:∀j,¬dA [] j:=fun j h=>by cases h
 have Bw:∀j,lT (fun j=>bn j (allM s x.At)) x.ι j↔dA r.2.1 j:=fun j=>by
  constructor
  ·intro h;induction h with
   |refl=>exact h3
   |@step j n e h5 h6 h7 ih=>exact h2.cl j ih (h0 j) n h6 e h7
  ·intro h;obtain ⟨i,rfl,h5⟩:=h2.rc j h (h0 j);exact h5
 rw [List.nil_append] at hN;refine ε.bind (ahS (l:=r.2.2.2) (by rw [hN];exact El) (by have:=h4.ol;omega)) fun l hl=>ε.ret ⟨hl.1,fun n=>?_,?_⟩
 ·rw [hl.2,hN,Bw];constructor
  ·intro hn;obtain ⟨a,b,c⟩:=yw n hn;exact ⟨c,a⟩
  ·rintro ⟨a,b⟩;exact Em _ a (h0 _) n b
 ·show r.1=true↔_;rw [h2.wh];exact ⟨fun a j hj=>a j ((Bw j).1 hj) (h0 j),fun a j hj _=>a j ((Bw j).2 hj)⟩
end
section
structure SJ (s:bx):Prop where
 rt:RT s.Γ
 pn:∀p,p∈s.aU→0≤p.fj.ι∧p.fj.ι<5000
 ap:s.aU.Pairwise fun p q=>(p.i_<q.i_∨p.i_=q.i_∧p.fj.ι<q.fj.ι)∧(p.fj.ι=q.fj.ι→p.i_≤q.lS)
 an:∀q,q∈s.Γ.η.zip s.a_→∀p,p∈s.aU→p.fj.ι=q.1.ι→p.i_≤q.2
 at_:s.aW.Pairwise fun x y=>x.At≤y.At
 vi:∀x,x∈s.aW→∃t,RT t∧t.Next≤5000∧(∀n,Seen s x.At n↔n∈t.η)∧∃r,gN t.η x.ι=some r∧r.ξ=2
def af5 {α:Type} {R:α→α→Prop} {l:List α} (h:l.Pairwise R) {a b:α} (ha:a∈l) (hb:b∈l):a=b∨R a b∨R b a:=by
 obtain ⟨i,hi⟩:=tz ha;obtain ⟨j,hj⟩:=tz hb;obtain ⟨h1,rfl⟩:=fh.1 hi;obtain ⟨h2,rfl⟩:=fh.1 hj
 rcases Lh i j with e|e|e
 ·exact .inr (.inl (vG.1 h i j h1 h2 e))
 ·subst e;exact .inl rfl
 ·exact .inr (.inr (vG.1 h j i h2 h1 e))
section
variable {k:Nat} {s:bx}
def QO {q:τ×Int} (h:q∈s.Γ.η.zip s.a_):q.1∈s.Γ.η∧∃j:Nat,s.Γ.η[j]?=some q.1∧s.a_[j]?=some q.2:=by
 obtain ⟨j,hj⟩:=tz h;obtain ⟨h1,h2⟩:=QN hj;exact ⟨mb h1,j,h1,h2⟩
def akx (hs:s.a_.length=s.Γ.η.length) {n:τ} (hn:n∈s.Γ.η):∃q,(n,q)∈s.Γ.η.zip s.a_:=by
 obtain ⟨j,hj⟩:=tz hn
 have Φ:j<s.a_.length:=by rw [hs];exact (My hj).1
 exact ⟨s.a_[j],mb (Zy.2 ⟨hj,bU Φ⟩)⟩
def ag' (h:SJ s) {a:Int} {m n:τ} (hm:Seen s a m) (hn:Seen s a n) (e:m.ι=n.ι):m=n:=by
 rcases hm with ⟨q,hq,rfl,h1⟩|⟨p,hp,rfl,h1,h2⟩<;>rcases hn with ⟨q',wG,rfl,g1⟩|⟨p',gB,rfl,g1,g2⟩
 ·exact Cw h.rt.s (QO hq).1 (QO wG).1 e
 ·have:=h.an q hq p' gB e.symm;omega
 ·have:=h.an q' wG p hp e;omega
 ·rcases af5 h.ap hp gB with h3|h3|h3
  ·rw [h3]
  ·have:=h3.2 e;omega
  ·have:=h3.2 e.symm;omega
def SJ.get (h:SJ s) {x:bd} (hx:x∈s.aW):∃t,RT t∧t.Next≤5000∧(∀j,bn j (allM s x.At)=gN t.η j)∧∃r,gN t.η x.ι=some r∧r.ξ=2:=by
 obtain ⟨t,h1,h2,h3,h4⟩:=h.vi x hx;refine ⟨t,h1,h2,fun j=>?_,h4⟩;have hg:=Z2 (s:=s) (a:=x.At) (fun m n=>ag' h) j;cases e:gN t.η j with
 |none =>
  cases e2:bn j (allM s x.At) with
  |none=>rfl
  |some n =>
   have:=(hg n).1 e2;exact absurd this.2 (yt.1 e n ((h3 n).1 this.1))
 |some n =>
  have:=dM e;exact (hg n).2 ⟨(h3 n).2 this.1,this.2⟩
def Th {all:gy} {t:ψ} (h:RT t) (hx:t.Next≤5000) (hg:∀j,bn j all=gN t.η j):xE all:=by
 refine ⟨fun j n hn=>?_,fun j n hn e he=>?_,fun j n hn=>?_⟩<;>rw [hg] at hn<;>have hm:=dM hn
 ·exact hm.2
 ·obtain ⟨q,hq⟩:=nk.1 (h.cl n hm.1 e he);have h1:=dM hq;have:=h.lo q h1.1;rw [h1.2] at this;omega
 ·have:=(h.en n hm.1).n;omega
open Classical in
def ag_ (h:SI k s) (n:τ):Seen s s.bc n↔n∈s.Γ.η:=by
 constructor
 ·rintro (⟨q,hq,rfl,_⟩|⟨p,hp,rfl,h1,h2⟩)
  ·exact (QO hq).1
  ·have:=(h.pt p hp).1;omega
 ·intro hn;obtain ⟨w,hw⟩:=akx h.si hn;exact .inl ⟨_,hw,rfl,(h.sn w (List.of_mem_zip hw).2).2⟩
def SJ.take (h:SI k s) (hk:k≤200) (hj:SJ s) (i:Int):SJ (nZ s i).1:=by
 unfold nZ;split
 ·exact hj
 next h1 =>
 split
 ·exact hj
 next h2 =>
 split
 ·exact hj
 refine ⟨hj.rt,hj.pn,hj.ap,hj.an,?_,fun x hx=>?_⟩
 ·refine vF.2 ⟨hj.at_,vH _ _,fun x hx y hy=>?_⟩;obtain rfl:=dC.1 hy;exact (h.ti x hx).2.2
 ·rcases gl.1 hx with hx|hx
  ·exact hj.vi x hx
  ·obtain rfl:=dC.1 hx
   obtain ⟨n,hn⟩:∃n,gN s.Γ.η i=some n:=by
    cases hg:gN s.Γ.η i with
    |none=>rw [hg] at h1;simp at h1
    |some n=>exact ⟨n,rfl⟩
   rw [jd hn] at h2;exact ⟨s.Γ,hj.rt,by have:=h.f.x;omega,fun n=>ag_ h n,n,hn,by simpa using h2⟩
def ag9 {i:Int} {x:bd} (hx:x∈oz s i) (n:τ):Seen ⟨s.Γ,s.bc,s.a_,zt s.aU (oz s i),oz s i,s.Next⟩ x.At n↔Seen s x.At n:=by
 constructor
 ·rintro (⟨q,hq,rfl,h1⟩|⟨p,hp,rfl,h1,h2⟩)
  ·exact .inl ⟨q,hq,rfl,h1⟩
  ·exact .inr ⟨p,(ek.1 hp).1,rfl,h1,h2⟩
 ·rintro (⟨q,hq,rfl,h1⟩|⟨p,hp,rfl,h1,h2⟩)
  ·exact .inl ⟨q,hq,rfl,h1⟩
  ·refine .inr ⟨p,ek.2 ⟨hp,?_⟩,rfl,h1,h2⟩;unfold rW;exact Dc.2 ⟨x,hx,by simp;omega⟩
def SJ.drop (hj:SJ s) (i:Int):SJ (pa s i).1:=by
 unfold pa;split
 ·exact hj
 refine ⟨hj.rt,fun p hp=>hj.pn p (ek.1 hp).1,hj.ap.filter _,fun q hq p hp he=>hj.an q hq p (ek.1 hp).1 he,hj.at_.filter _,fun x hx=>?_⟩;obtain ⟨t,h1,h2,h3,h4⟩:=hj.vi x (ek.1 hx).1;exact ⟨t,h1,h2,fun n=>(ag9 hx n).trans (h3 n),h4⟩
end
end
section
section
variable {α:Type}
def cX (c:α→Int) (l:List α):Nat:=(l.takeWhile fun x=>decide (c x<0)).length
def fI (c:α→Int) (l:List α):Bool:=match l[cX c l]? with|some x=>c x==0|none=>false
def Mon (c:α→Int) (l:List α):Prop:=∀(j k:Nat) x y,j<k→l[j]?=some x→l[k]?=some y→c y<0→c x<0
def LQ (C:α→Option Int) (l:List α) (s1:Int×Int):Option ((Int×Int)⊕Int):=if (decide (s1.1<s1.2)) then Ω (Θ (s1.1+s1.2)) ((idx l ((IntKind.i64.wrap ((eV .u64 ((IntKind.u64.wrap ((s1.1+s1.2)))) (1)))))).bind fun x1=>(C x1).bind fun x2=>if (decide (x2<0)) then Ω (Θ ((IntKind.i64.wrap ((eV .u64 ((IntKind.u64.wrap ((s1.1+s1.2)))) (1))))+1)) (some (.inl ((((IntKind.i64.wrap ((eV .u64 ((IntKind.u64.wrap ((s1.1+s1.2)))) (1))))+1),s1.2)))) else some (.inl ((s1.1,(IntKind.i64.wrap ((eV .u64 ((IntKind.u64.wrap ((s1.1+s1.2)))) (1)))))))) else out (some s1.1)
noncomputable def Dv (C:α→Option Int) (l:List α):Option (Int×Bool):=(loop (LQ C l) (0,(l.length:Int))).bind fun v1=>((if (decide (v1<(l.length:Int))) then (idx l v1).bind fun x3=>(C x3).bind fun x4=>some ((x4==0)) else some false).bind fun c1=>some c1).bind fun v2=>some ((v1,v2))
def xY (c:α→Int) (l:List α):cX c l≤l.length:=by
 unfold cX;exact (ZE _).length_le
def R8 {c:α→Int}:∀{l:List α} {k:Nat},k≤l.length→(∀(j:Nat) x,j<k→l[j]?=some x→c x<0)→(∀x,l[k]?=some x→¬c x<0)→cX c l=k
 |[],k,hk,_,_=>by simp at hk;subst hk;rfl
 |x::l,0,_,_,h2=>by
  have:=h2 x rfl;unfold cX;rw [xv,if_neg (by simpa using this)];rfl
 |x::l,k+1,hk,h1,h2=>by
  have:=h1 0 x (by omega) rfl;have ih:=R8 (c:=c) (l:=l) (k:=k) (by simpa using hk) (fun j y hj hy=>h1 (j+1) y (by omega) (by simpa using hy)) (fun y hy=>h2 y (by simpa using hy));unfold cX at ih ⊢;rw [xv,if_pos (by simpa using this),cZ,ih]
def R7 {c:α→Int}:∀{l:List α} {j:Nat} {x:α},j<cX c l→l[j]?=some x→c x<0
 |[],j,x,h,_=>by simp [cX] at h
 |y::l,j,x,h,hx=>by
  unfold cX at h;rw [xv] at h;by_cases hy:c y<0
  ·rw [if_pos (by simpa using hy)] at h;cases j with
   |zero=>cases hx;exact hy
   |succ j=>exact R7 (l:=l) (j:=j) (by unfold cX;simpa using h) (by simpa using hx)
  ·rw [if_neg (by simpa using hy)] at h;simp at h
def LV {c:α→Int}:∀{l:List α} {x:α},l[cX c l]?=some x→¬c x<0
 |[],x,h=>by simp at h
 |y::l,x,h=>by
  unfold cX at h;rw [xv] at h;by_cases hy:c y<0
  ·rw [if_pos (by simpa using hy),cZ,List.getElem?_cons_succ] at h;exact LV (l:=l) (by unfold cX;exact h)
  ·rw [if_neg (by simpa using hy)] at h;cases h;exact hy
def xX {c:α→Int} {x:α} {l:List α} (h:c x<0):cX c (x::l)=cX c l+1:=by
 unfold cX;rw [xv,if_pos (by simpa using h)];rfl
def xZ {c:α→Int} {x:α} {l:List α} (h:¬c x<0):cX c (x::l)=0:=by
 unfold cX;rw [xv,if_neg (by simpa using h)];rfl
def xV {c:α→Int} {x:α} {l:List α} (h:c x<0):fI c (x::l)=fI c l:=by
 unfold fI;rw [xX h];rfl
def xW {c:α→Int} {x:α} {l:List α} (h:¬c x<0):fI c (x::l)=(c x==0):=by
 unfold fI;rw [xZ h];rfl
def aag {C:α→Option Int} {c:α→Int} {l:List α} (P:Nat→Nat→Prop) (hC:∀x,x∈l→C x=some (c x)) (hl:l.length≤1000000) (h0:P 0 l.length)
  (y_:∀a b x,P a b→a<b→b≤l.length→l[(a+b)/2]?=some x→c x<0→P ((a+b)/2+1) b)
  (IZ:∀a b x,P a b→a<b→b≤l.length→l[(a+b)/2]?=some x→¬c x<0→P a ((a+b)/2)) :
  ε (loop (LQ C l) (0,(l.length:Int))) (fun v=>∃k:Nat,v=k∧k≤l.length∧P k k):=by
 refine ε.loop (fun s:Int×Int=>∃a b:Nat,s=((a:Int),(b:Int))∧a≤b∧b≤l.length∧P a b) (fun s=>(s.2-s.1).toNat) ?_ _ ⟨0,l.length,rfl,by omega,by omega,h0⟩;rintro s ⟨a,b,rfl,jh,hb,hP⟩;unfold LQ;dsimp only;by_cases Φ:a<b
 ·refine ε.cond (by simpa using Φ) (ε.Ω (by unfold Θ;omega) ?_);rw [VN a b (by omega)]
  have hm:(a+b)/2<l.length:=by omega
  have hx:=bU hm;refine ε.ai (cL hx) (ε.ai (hC _ (eI hm)) ?_);exact ε.ite (fun e=>ε.Ω (by unfold Θ;omega) (ε.inl ⟨⟨(a+b)/2+1,b,rfl,by omega,hb,y_ a b _ hP Φ hb hx (by simpa using e)⟩,by dsimp only;omega⟩)) fun e=>ε.inl ⟨⟨a,(a+b)/2,rfl,by omega,by omega,IZ a b _ hP Φ hb hx (by simpa using e)⟩,by dsimp only;omega⟩
 ·have:a=b:=by omega
  subst this;exact ε.cR (by simp) (ε.out (ε.ret ⟨a,rfl,hb,hP⟩))
def aaf {C:α→Option Int} {c:α→Int} {l:List α} (hC:∀x,x∈l→C x=some (c x)) {k:Nat} {v:Int} (hv:v=k) :
  (((if (decide (v<(l.length:Int))) then (idx l v).bind fun x3=>(C x3).bind fun x4=>some ((x4==0)) else some false).bind fun c1=>some c1).bind fun v2=>some ((v,v2)))=some ((k:Int),match l[k]? with|some x=>c x==0|none=>false):=by
 subst hv;refine ε.eq ?_;by_cases hk:k<l.length
 ·have hx:=bU hk;rw [hx];exact ε.bind (R:=(·=(c l[k]==0))) (ε.bind (R:=(·=(c l[k]==0))) (ε.cond (by simpa using hk) (ε.ai (cL hx) (ε.ai (hC _ (eI hk)) (ε.ret rfl)))) fun r hr=>ε.ret hr) fun r hr=>ε.ret (by subst hr;rfl)
 ·rw [Rm (by omega)];exact ε.bind (R:=(·=false)) (ε.bind (R:=(·=false)) (ε.cR (by simpa using hk) (ε.ret rfl)) fun r hr=>ε.ret hr) fun r hr=>ε.ret (by subst hr;rfl)
def Hy {C:α→Option Int} {c:α→Int} {l:List α} (hC:∀x,x∈l→C x=some (c x)) (hm:Mon c l) (hl:l.length≤1000000):Dv C l=some ((cX c l:Int),fI c l):=by
 refine ε.eq ?_;unfold Dv;refine ε.bind (aag (fun a b=>(∀(j:Nat) x,j<a→l[j]?=some x→c x<0)∧(∀(j:Nat) x,b≤j→l[j]?=some x→¬c x<0)) hC hl ⟨fun j x h=>by omega,fun j x h hx=>by rw [Rm (by omega)] at hx;cases hx⟩ ?_ ?_) ?_
 ·rintro a b x ⟨h1,h2⟩ jh hb hx hc;refine ⟨fun j y hj hy=>?_,h2⟩
  rcases gI j ((a+b)/2) with h|h
  ·exact hm j _ y x h hy hx hc
  ·have:j=(a+b)/2:=by omega
   subst this;rw [hx] at hy;cases hy;exact hc
 ·rintro a b x ⟨h1,h2⟩ jh hb hx hc;refine ⟨h1,fun j y hj hy=>?_⟩
  rcases gI ((a+b)/2) j with h|h
  ·exact fun tj=>hc (hm _ j x y h hx hy tj)
  ·have:j=(a+b)/2:=by omega
   subst this;rw [hx] at hy;cases hy;exact hc
 ·rintro v ⟨k,hv,hk,h1,h2⟩;have e:=R8 hk h1 (fun x hx=>h2 k x (bG _) hx);rw [aaf hC hv];exact ε.ret (by unfold fI;rw [e])
end
end
section
def Sf:∀{a b:List UInt8},mM a b<0↔fX a b=true
 |[],[]=>by simp [mM,fX]
 |[],_::_=>by simp [mM,fX]
 |_::_,[]=>by simp [mM,fX]
 |a::x,b::y=>by
  have ih:=Sf (a:=x) (b:=y);simp only [mM,fX,ug,bE,decide_eq_true_eq,beq_iff_eq];by_cases h1:a<b
  ·rw [if_pos h1];simp [h1]
  ·rw [if_neg h1];by_cases h2:b<a
   ·rw [if_pos h2];refine ⟨fun h=>by omega,fun h=>?_⟩
    rcases h with h|⟨rfl,-⟩
    ·exact absurd h h1
    ·exact absurd h2 h1
   ·rw [if_neg h2,ih];have:a=b:=ZQ (Lp.1 h2) (Lp.1 h1);simp [h1,this]
def Se:∀{a b:List UInt8},mM a b=0↔a=b
 |[],[]=>by simp [mM]
 |[],_::_=>by simp [mM]
 |_::_,[]=>by simp [mM]
 |a::x,b::y=>by
  have ih:=Se (a:=x) (b:=y);simp only [mM];by_cases h1:a<b
  ·rw [if_pos h1];refine ⟨fun h=>by omega,fun h=>?_⟩;injection h with h _;subst h;exact absurd h1 (ZS _)
  ·rw [if_neg h1];by_cases h2:b<a
   ·rw [if_pos h2];refine ⟨fun h=>by omega,fun h=>?_⟩;injection h with h _;subst h;exact absurd h2 (ZS _)
   ·rw [if_neg h2,ih];have:a=b:=ZQ (Lp.1 h2) (Lp.1 h1);subst this;simp
def cN (i:Int) (x:τ):Int:=gS x.ι i
def vU {i:Int} {x:τ}:cN i x<0↔x.ι<i:=jx
def AQ {i:Int} {x:τ}:(cN i x==0)=true↔x.ι=i:=yd
def aeg {l:List τ} (h:dY l) (i:Int):Mon (cN i) l:=fun j k x y py hx hy hc=>by
 have:=Gj h hx hy py;rw [vU] at *;omega
def Mw {i:Int}:∀{l:List τ},dY l→gN l i=if fI (cN i) l=true then l[cX (cN i) l]? else none
 |[],_=>by simp [gN,fI]
 |x::l,h=>by
  have h2:=(eD.1 h).2;have h1:=(eD.1 h).1;rw [rh];by_cases hx:cN i x<0
  ·rw [xV hx,xX hx,if_neg (by have:=vU.1 hx;omega),Mw h2];rfl
  ·rw [xW hx,xZ hx];rw [vU] at hx;by_cases he:x.ι=i
   ·rw [if_pos he,if_pos (AQ.2 he)];rfl
   ·rw [if_neg he,if_neg (fun h=>he (AQ.1 h))]
    exact yt.2 fun n hn=>by have:=h1 n hn;omega
def LU {i:Int} {l:List τ} (h:dY l):fI (cN i) l=(gN l i).isSome:=by
 rw [Mw h];cases hb:fI (cN i) l with
 |false=>rfl
 |true =>
  rw [if_pos rfl];unfold fI at hb;cases hx:l[cX (cN i) l]? with
  |none=>rw [hx] at hb;cases hb
  |some x=>rfl
def R6 {i:Int} {l:List τ} (h:dY l) {n:τ} (hn:gN l i=some n):l[cX (cN i) l]?=some n:=by
 have:=LU (i:=i) h;rw [hn] at this;rw [Mw h,if_pos (show fI (cN i) l=true from this)] at hn;exact hn
def WS {n:τ}:∀{l:List τ},dY l→cF n l=if fI (cN n.ι) l=true then l.set (cX (cN n.ι) l) n else dy l (cX (cN n.ι) l:Int) [n]
 |[],_=>by simp [cF,fI,dy]
 |x::l,h=>by
  have h2:=(eD.1 h).2;have h1:=(eD.1 h).1;rw [B6];by_cases hx:cN n.ι x<0
  ·rw [if_neg (by have:=vU.1 hx;omega),xV hx,xX hx,WS h2];split
   ·rfl
   ·unfold dy;rw [gP,gP];rfl
  ·rw [xW hx,xZ hx,if_pos (by rw [vU] at hx;omega)];rw [vU] at hx;by_cases he:x.ι=n.ι
   ·rw [if_pos (AQ.2 he),List.set_cons_zero,ic,if_neg (by simpa using he),ui.2];intro y hy;have:=h1 y hy;simp;omega
   ·rw [if_neg (fun h=>he (AQ.1 h)),ui.2]
    ·rfl
    ·intro y hy
     rcases bf.1 hy with rfl|hy
     ·simpa using he
     ·have:=h1 y hy;simp;omega
def Sy {i:Int}:∀{l:List τ},dY l→l.filter (fun x=>x.ι != i)=if fI (cN i) l=true then fY l (cX (cN i) l:Int) ((cX (cN i) l:Int)+1) else l
 |[],_=>by simp [fI]
 |x::l,h=>by
  have h2:=(eD.1 h).2;have h1:=(eD.1 h).1;by_cases hx:cN i x<0
  ·rw [ic,if_pos (by have:=vU.1 hx;simp;omega),xV hx,xX hx,Sy h2];split
   ·unfold fY;rw [gP,gP,show ((cX (cN i) l:Int)+1).toNat=cX (cN i) l+1 by omega,show (((cX (cN i) l+1:Nat):Int)+1).toNat=cX (cN i) l+1+1 by omega];rfl
   ·rfl
  ·rw [xW hx,xZ hx];rw [vU] at hx
   have hf:l.filter (fun x=>x.ι != i)=l:=ui.2 fun y hy=>by have:=h1 y hy;simp;omega
   by_cases he:x.ι=i
   ·rw [ic,if_neg (by simpa using he),if_pos (AQ.2 he),hf];rfl
   ·rw [ic,if_pos (by simpa using he),if_neg (fun h=>he (AQ.1 h)),hf]
def Wd {t:ψ} (hs:dY t.η) (hl:t.η.length≤1000000) (i:Int):t_ ⟨t⟩ i=some (((cX (cN i) t.η:Int),fI (cN i) t.η),⟨t⟩):=by
 have h:=Hy (C:=fun x=>Af x i) (c:=cN i) (l:=t.η) (fun x _=>by unfold Af;rw [xe];rfl) (aeg hs i) hl;unfold t_;show ((Dv (fun x=>Af x i) t.η).bind _)=_;rw [h];rfl
def sF {α:Type} {l:List α} {K:Nat} (h:l.length*K≤140737488355328):o8 (fun b1:Bool=>b1=true→l=[]) (fun b1=>if b1 then some ([]:List α) else Ω ((([]:List α).length+l.length)*K≤140737488355328) (some (([]:List α)++l)))=some l :=
 RQ ⟨false,fun h=>by cases h⟩ fun b hb=>by
  cases b with
  |false=>rw [if_neg (by simp),im (by simpa using h)];rfl
  |true=>rw [hb rfl];rfl
def B2 {t:ψ} (hs:dY t.η) (hl:t.η.length≤1000000) (n:τ):vr n ⟨t⟩=some (t.Next,t.aj,cF n t.η):=by
 refine ε.eq ?_;unfold vr z_;refine ε.ai (Wd hs hl n.ι) ?_;dsimp only;refine ε.ai (sF (by omega)) ?_;rw [WS hs];have hk:=xY (cN n.ι) t.η;refine ε.ite (fun hb=>?_) fun hb=>?_
 ·rw [if_pos hb];have hg:=LU (i:=n.ι) hs;rw [hb] at hg;obtain ⟨m,hm⟩:=nk.1 hg.symm;exact ε.ai (cL (R6 hs hm)) (ε.ret (by rw [gP]))
 ·rw [if_neg hb];exact ε.Ω ⟨by omega,by omega,by simp,by simp only [cZ,ig];omega⟩ (ε.ret rfl)
def Wz {t:ψ} (hs:dY t.η) (hl:t.η.length≤1000000) (n0 n1 n2:Int) (n3:List UInt8) (n5:Int) (E:List aO):CS n0 n1 n2 n3 n5 ⟨t⟩ E=some (t.Next,t.aj,cF ⟨n0,n1,n2,n3,E,n5⟩ t.η):=B2 hs hl ⟨n0,n1,n2,n3,E,n5⟩
def Wi {t:ψ} (hs:dY t.η) (hl:t.η.length≤1000000) (i:Int):CQ i ⟨t⟩=some (t.η.filter (fun x=>x.ι != i),t.Next,t.aj):=by
 refine ε.eq ?_;unfold CQ z_;refine ε.ai (Wd hs hl i) ?_;dsimp only;rw [Sy hs];have hk:=xY (cN i) t.η;refine ε.ite (fun hb=>?_) fun hb=>?_
 ·rw [if_pos hb];have hg:=LU (i:=i) hs;rw [hb] at hg;obtain ⟨m,hm⟩:=nk.1 hg.symm;have:=(fh.1 (R6 hs hm)).1;exact ε.ai (sF (by omega)) (ε.Ω (by unfold Θ;omega) (ε.Ω (by omega) (ε.ret rfl)))
 ·rw [if_neg hb];exact ε.ret rfl
def oq (l:List aO):Prop:=l.Pairwise fun a b=>fX a.aN b.aN=true
def cS (s:List UInt8) (x:aO):Int:=mM x.aN s
def AR {s:List UInt8} {x:aO}:cS s x<0↔fX x.aN s=true:=Sf
def HC {s:List UInt8} {x:aO}:(cS s x==0)=true↔x.aN=s:=by rw [beq_iff_eq];exact Se
def aef {l:List aO} (h:oq l) (s:List UInt8):Mon (cS s) l:=fun j k x y py hx hy hc=>by
 obtain ⟨h1,rfl⟩:=fh.1 hx;obtain ⟨h2,rfl⟩:=fh.1 hy;rw [AR] at *;exact LP (vG.1 h j k h1 h2 py) hc
def SF {s:List UInt8} {x y:aO} (hx:¬cS s x<0) (hl:fX x.aN y.aN=true):y.aN≠s:=by
 intro e;rw [e] at hl;exact hx (AR.2 hl)
def Mn {s:List UInt8}:∀{l:List aO},oq l→l.find? (fun e=>e.aN==s)=if fI (cS s) l=true then l[cX (cS s) l]? else none
 |[],_=>by simp [fI]
 |x::l,h=>by
  have h2:=(eD.1 h).2;have h1:=(eD.1 h).1;rw [Rl];by_cases hx:cS s x<0
  ·have aP:(x.aN==s)=false:=by
    rw [beq_eq_false_iff_ne];intro e;rw [AR,e,Hv] at hx;cases hx
   rw [aP,xV hx,xX hx,Mn h2];rfl
  ·rw [xW hx,xZ hx];by_cases he:x.aN=s
   ·rw [if_pos (HC.2 he),show (x.aN==s)=true by simpa using he];rfl
   ·rw [if_neg (fun h=>he (HC.1 h)),show (x.aN==s)=false by simpa using he]
    exact sw.2 fun y hy=>by simpa using SF hx (h1 y hy)
def Du {s:List UInt8} {l:List aO} (h:oq l):fI (cS s) l=(l.find? (fun e=>e.aN==s)).isSome:=by
 rw [Mn h];cases hb:fI (cS s) l with
 |false=>rfl
 |true =>
  rw [if_pos rfl];unfold fI at hb;cases hx:l[cX (cS s) l]? with
  |none=>rw [hx] at hb;cases hb
  |some x=>rfl
def LW {s:List UInt8} {l:List aO} (h:oq l) {e:aO} (he:l.find? (fun e=>e.aN==s)=some e):l[cX (cS s) l]?=some e:=by
 have:=Du (s:=s) h;rw [he] at this;rw [Mn h,if_pos (show fI (cS s) l=true from this)] at he;exact he
def Vg {e:aO}:∀{l:List aO},oq l→(∀x,x∈l→x.aN≠e.aN)→nR e l=dy l (cX (cS e.aN) l:Int) [e]
 |[],_,_=>by simp [nR,dy]
 |x::l,h,hn=>by
  have h2:=(eD.1 h).2;have hx:=hn x (by simp);rw [E0];by_cases hc:cS e.aN x<0
  ·rw [xX hc,if_neg (by rw [AR] at hc;simp [hc]),Vg h2 fun y hy=>hn y (cu _ hy)];unfold dy;rw [gP,gP];rfl
  ·rw [xZ hc,if_pos (by rw [AR] at hc;simp [hc,hx])];rfl
def SQ {s:List UInt8}:∀{l:List aO},oq l→l.filter (fun e=>!(e.aN==s))=if fI (cS s) l=true then fY l (cX (cS s) l:Int) ((cX (cS s) l:Int)+1) else l
 |[],_=>by simp [fI]
 |x::l,h=>by
  have h2:=(eD.1 h).2;have h1:=(eD.1 h).1;by_cases hx:cS s x<0
  ·have aP:(x.aN==s)=false:=by
    rw [beq_eq_false_iff_ne];intro e;rw [AR,e,Hv] at hx;cases hx
   rw [ic,if_pos (by rw [aP];rfl),xV hx,xX hx,SQ h2];split
   ·unfold fY;rw [gP,gP,show ((cX (cS s) l:Int)+1).toNat=cX (cS s) l+1 by omega,show (((cX (cS s) l+1:Nat):Int)+1).toNat=cX (cS s) l+1+1 by omega];rfl
   ·rfl
  ·rw [xW hx,xZ hx]
   have hf:l.filter (fun e=>!(e.aN==s))=l:=ui.2 fun y hy=>by simpa using SF hx (h1 y hy)
   by_cases he:x.aN=s
   ·rw [ic,if_neg (by simpa using he),if_pos (HC.2 he),hf];rfl
   ·rw [ic,if_pos (by simpa using he),if_neg (fun h=>he (HC.1 h)),hf]
def Fj {n:τ} (hs:oq n.Ψ) (hl:n.Ψ.length≤1000000) (s:List UInt8):tZ n s=some ((cX (cS s) n.Ψ:Int),fI (cS s) n.Ψ):=by
 have h:=Hy (C:=fun x=>CM x s) (c:=cS s) (l:=n.Ψ) (fun x _=>rfl) (aef hs s) hl;unfold tZ;show ((Dv (fun x=>CM x s) n.Ψ).bind _)=_;rw [h];rfl
def aaz (l:List UInt8) (i:Nat) (h:i<l.length):1≤(o_ l i).2∧i+(o_ l i).2≤l.length∧(((o_ l i).1=(l[i]!).toNat∧(l[i]!).toNat<128)∨(128≤(o_ l i).1∧128≤(l[i]!).toNat))∧∀j,1≤j→j<(o_ l i).2→128≤(l[i+j]!).toNat:=by
 have hg:∀k,((⟨l.toArray⟩:ByteArray).get! k)=l[k]! := fun k=>by
  show l.toArray[k]! = _;simp
 have hz:(⟨l.toArray⟩:ByteArray).size=l.length:=by show l.toArray.size=_;simp
 have hc:∀k,(decide (i+k<l.length)&&(l[i+k]!).toNat/64==2)=true→i+k<l.length∧128≤(l[i+k]!).toNat:=fun k h=>by
  rw [bE,decide_eq_true_eq,beq_iff_eq] at h;omega
 have e1:∀b:Nat,¬b<128→1≤((65533,1):Nat×Nat).2∧i+((65533,1):Nat×Nat).2≤l.length∧((((65533,1):Nat×Nat).1=b∧b<128)∨(128≤((65533,1):Nat×Nat).1∧128≤b))∧∀j,1≤j→j<((65533,1):Nat×Nat).2→128≤(l[i+j]!).toNat:=fun b hb=>⟨by simp,by simp;omega,.inr ⟨by simp,by omega⟩,fun j h1 h2=>by simp at h2;omega⟩;unfold o_ Utf8.decode;simp only [hg,hz,Nat.add_zero,Utf8.runeError];generalize eo:(l[i]!).toNat=b0 at *;split
 ·exact ⟨by simp,by simp;omega,.inl ⟨rfl,by omega⟩,fun j h1 h2=>by simp at h2;omega⟩
 rename_i hb;split
 ·rename_i h2;rw [bE] at h2;have c1:=hc 1 h2.2;split
  ·exact ⟨by simp,by dsimp only;omega,.inr ⟨by dsimp only;omega,by omega⟩,fun j h3 h4=>by
    dsimp only at h4
    have:j=1:=by omega
    subst this;exact c1.2⟩
  ·exact e1 b0 hb
 split
 ·rename_i h2;rw [bE,bE] at h2;have c1:=hc 1 h2.1.2;have c2:=hc 2 h2.2;split
  ·rename_i h5;rw [bE,decide_eq_true_eq] at h5
   exact ⟨by simp,by dsimp only;omega,.inr ⟨by dsimp only;omega,by omega⟩,fun j h3 h4=>by
    dsimp only at h4
    rcases (by omega:j=1∨j=2) with rfl|rfl
    ·exact c1.2
    ·exact c2.2⟩
  ·exact e1 b0 hb
 split
 ·rename_i h2;rw [bE,bE,bE] at h2;have c1:=hc 1 h2.1.1.2;have c2:=hc 2 h2.1.2;have c3:=hc 3 h2.2;split
  ·rename_i h5;rw [bE,decide_eq_true_eq] at h5
   exact ⟨by simp,by dsimp only;omega,.inr ⟨by dsimp only;omega,by omega⟩,fun j h3 h4=>by
    dsimp only at h4
    rcases (by omega:j=1∨j=2∨j=3) with rfl|rfl|rfl
    ·exact c1.2
    ·exact c2.2
    ·exact c3.2⟩
  ·exact e1 b0 hb
 ·exact e1 b0 hb
def qZ (x:UInt8):Bool:=decide ((x.toNat:Int)<32)||(x.toNat:Int)==47
def afL (s:List UInt8):OM s 0=some (!s.any qZ):=by
 refine ε.eq ?_;unfold OM;refine ε.loop (fun n:Nat=>n≤s.length∧(s.take n).any qZ=false) (fun n=>s.length-n) ?_ 0 ⟨by omega,by simp⟩;rintro n ⟨hn,hp⟩;unfold Jq Jr
 have ac2:s.any qZ=((s.take n).any qZ||(s.drop n).any qZ):=by rw [←List.any_append,List.take_append_drop]
 by_cases Φ:n<s.length
 ·obtain ⟨h1,h2,h3,h4⟩:=aaz s n Φ
  have hx:s[n]! = s[n]:=by rw [Zv,bU Φ];rfl
  refine ε.cond (by simpa using Φ) ?_
  have abM:qZ s[n]=(decide ((((o_ s n).1:Nat):Int)<32)||(((o_ s n).1:Nat):Int)==47):=by
   rw [←hx];unfold qZ
   rcases h3 with ⟨e,-⟩|⟨e1,e2⟩
   ·rw [e]
   ·rw [decide_eq_false (by omega),decide_eq_false (by omega),beq_eq_false_iff_ne.2 (by omega),beq_eq_false_iff_ne.2 (by omega)]
  refine ε.bind (R:=(·=qZ s[n])) (ε.bind (R:=(·=qZ s[n])) ?_ fun r hr=>ε.ret hr) fun r hr=>?_
  ·rw [abM];refine ε.ite (fun h=>ε.ret ?_) fun h=>ε.ret ?_
   ·rw [h];rfl
   ·rw [ia.2 h];rfl
  ·subst hr;have hd:s.drop n=s[n]::s.drop (n+1):=xr Φ;refine ε.ite (fun hb=>ε.out (ε.ret ?_)) fun hb=>ε.inl ⟨⟨h2,?_⟩,by omega⟩
   ·rw [ac2,hd,List.any_cons,hb];simp
   ·have hb:qZ s[n]=false:=by simpa using hb
    rw [pY];intro x gr;obtain ⟨k,hk⟩:=tz gr;rw [gk] at hk;by_cases Um:k<n+(o_ s n).2
    ·rw [if_pos Um] at hk
     rcases Lh k n with h|h|h
     ·rw [pY] at hp;exact hp x (mb (by rw [gk,if_pos h];exact hk))
     ·subst h;rw [bU Φ] at hk;cases hk;simpa using hb
     ·have:=h4 (k-n) (by omega) (by omega);rw [show n+(k-n)=k by omega,Zv,hk] at this;have:128≤x.toNat:=this;unfold qZ;simp;omega
    ·rw [if_neg Um] at hk;cases hk
 ·have:n=s.length:=by omega
  subst this;rw [jK] at hp;exact ε.cR (by simp) (ε.out (ε.ret (by rw [hp];rfl)))
def Fm (s:List UInt8):wU s=some (f_ s):=by
 refine ε.eq ?_;unfold wU f_;refine ε.bind (R:=(·=(s == []||decide ((s.length:Int)>32)||s == [46]||s == [46,46]))) (ε.bind (R:=(·=(s == []||decide ((s.length:Int)>32)))) ?_ fun c hc=>ε.bind (R:=(·=(s == []||decide ((s.length:Int)>32)||s == [46]))) ?_ fun c2 bt=>ε.bind (R:=(·=(s == []||decide ((s.length:Int)>32)||s == [46]||s == [46,46]))) ?_ fun c3 ep=>ε.ret ep) fun r hr=>?_
 ·cases s == []<;>exact ε.ret rfl
 ·subst hc;cases (s == []||decide ((s.length:Int)>32))<;>exact ε.ret rfl
 ·subst bt;cases (s == []||decide ((s.length:Int)>32)||s == [46])<;>exact ε.ret rfl
 ·have e:(decide (1≤s.length)&&decide (s.length≤32)&&!(s == [46])&&!(s == [46,46]))=!r:=by
   subst hr;cases s with
   |nil=>rfl
   |cons a l =>
    simp only [cZ,Bool.not_or];congr 1;congr 1;rw [show ((a::l)==([]:List UInt8))=false by rfl,decide_eq_true (by omega:1≤l.length+1),alL];congr 1;rw [←decide_not];congr 1;apply propext;omega
  refine ε.ite (fun h=>ε.ret ?_) fun h=>?_
  ·rw [e,h];rfl
  ·rw [afL,e];refine ε.ret ?_;rw [ia.2 h,alL,K1];rfl
end
section
def ε.eG {α:Type} {p:Prop} [Decidable p] {x y:Option α} {a b:α} (h:p→ε x (·=a)) (h':¬p→ε y (·=b)):ε (if p then x else y) (·=if p then a else b):=by
 split
 ·exact h ‹_›
 ·exact h' ‹_›
structure ST (B:Nat) (t:ψ):Prop where
 f:TF B t
 s:dY t.η
 e:∀n,n∈t.η→oq n.Ψ
section
variable {B:Nat} {t:ψ} {δ:Int→Nat}
def W.st (h:W t δ) (hf:TF B t):ST B t:=⟨hf,h.s,fun n hn=>(h.en n hn).s⟩
def ST.g (h:ST B t) (i:Int):oq (gD t.η i).Ψ:=by
 rcases Ip t.η i with hm|hm
 ·exact h.e _ hm
 ·rw [hm];exact jr
def ST.n (h:ST B t) (hB:B≤100000):t.η.length≤1000000:=by have:=h.f.n;omega
def ST.JQ (h:ST B t) {n:τ} {x c:Int} (hf:TF (B+1) ⟨cF n t.η,x,c⟩) (he:oq n.Ψ):ST (B+1) ⟨cF n t.η,x,c⟩:=by
 refine ⟨hf,zM h.s,fun y hy=>?_⟩
 rcases tJ hy with rfl|⟨hy,-⟩
 ·exact he
 ·exact h.e _ hy
def ahU {l:List aO} (h:oq l) (p:aO→Bool):oq (l.filter p):=Zo p h
def ST.OA (h:ST B t) (i:Int) (s:List UInt8):ST (B+1) (eM t i s):=h.JQ (h.f.qv i s) (ahU (h.g i) _)
def ST.up (h:ST B t) {C:Nat} (hC:B≤C):ST C t:=⟨h.f.up hC,h.s,h.e⟩
def JF (h:ST B t) (hB:B≤100000) (i:Int):xh ⟨t⟩ i=some (dz t.η i,⟨t⟩):=by
 refine ε.eq ?_;unfold xh;refine ε.ai (rS h.s (h.n hB) i) ?_;unfold dz;dsimp only;by_cases hg:(gN t.η i).isSome=true
 ·rw [if_pos hg];refine ε.cR (by rw [hg];simp) ?_;by_cases hk:((gD t.η i).ξ != 2)=true
  ·rw [if_pos hk,if_pos hk];exact ε.ret rfl
  ·rw [if_neg hk,if_neg hk];exact ε.ret rfl
 ·rw [if_neg hg];exact ε.cond (by simpa using hg) (ε.ret rfl)
def DE (h:ST B t) (i:Int):oq (dz t.η i).1.Ψ:=by
 unfold dz;split
 ·split
  ·exact jr
  ·exact h.g i
 ·exact jr
def JE (h:ST B t) (hB:B≤100000) (i:Int) (s:List UInt8):vq t i s=some (eT t i s):=by
 refine ε.eq ?_;unfold vq eT;refine ε.ai (JF h hB i) ?_;dsimp only;refine ε.eG (fun _=>ε.ret rfl) fun _=>ε.ai (Fm s) (ε.eG (fun _=>ε.ret rfl) fun _=>?_);refine ε.ai (Fj (DE h i) (by have:=L4 h.f i;omega) s) ?_;dsimp only;have hf:=Du (s:=s) (DE h i);cases hx:(dz t.η i).1.Ψ.find? (fun e=>e.aN==s) with
 |none=>rw [hx] at hf;exact ε.cond (by rw [hf];rfl) (ε.ret rfl)
 |some e=>rw [hx] at hf;exact ε.cR (by rw [hf];simp) (ε.ai (cL (LW (DE h i) hx)) (ε.ret rfl))
def WC {l:List τ} {x c:Int} (hs:dY l) (hl:l.length≤1000000):∀{d:Nat} {i:Int},Deep l i d→∀out:List Int,out.length+d≤l.length+1→∃r,loop Ah (i,l,x,c,out)=some (out++r,⟨⟨l,x,c⟩⟩)∧r.length=d∧∀y,(y=i∨y∈r)↔ju l y i
 |_,_,.root,out,ho=>by
  refine ⟨[],?_,rfl,fun y=>?_⟩
  ·refine nS ?_;unfold Ah;simp [KP,Cat.out]
  ·refine ⟨fun h=>?_,fun h=>?_⟩
   ·rcases h with rfl|h
    ·exact .refl
    ·cases h
   ·cases h with
    |refl=>exact .inl rfl
    |step h1=>exact absurd rfl h1
 |_,i,.step (n:=n) (d:=d) h1 h2 h3 h4,out,ho=>by
  obtain ⟨r,e1,e2,e3⟩:=WC (x:=x) (c:=c) hs hl h4 (out++[n.Up]) (by simp only [dj,cZ,ig];omega);refine ⟨n.Up::r,?_,by simp [e2],fun y=>?_⟩
  ·have hb:Ah (i,l,x,c,out)=some (.inl (n.Up,l,x,c,out++[n.Up])):=by
    unfold Ah
    have hd:decide ((out.length:Int)≤(l.length:Int))=true:=by simp;omega
    have hg:=rS (t:=⟨l,x,c⟩) hs hl i
    have aP:(i != 1)=true:=by simpa using h1
    have hk:(n.ξ != 2)=false:=by simp [h3]
    have et:gD l i=n:=by unfold gD;rw [h2];rfl
    simp only [aP,if_true,hd,cD,hg,h2,Option.isSome_some,et,hk,Bool.not_true,ni,if_false];rw [im (by simp only [cZ,ig];omega)]
   rw [tu hb,e1,lN];rfl
  ·refine ⟨fun h=>?_,fun h=>?_⟩
   ·rcases h with rfl|h
    ·exact .refl
    ·exact .step h1 h2 h3 ((e3 y).1 (bf.1 h))
   ·cases h with
    |refl=>exact .inl rfl
    |step g1 g2 g3 g4=>rw [h2] at g2;cases g2;exact .inr (bf.2 ((e3 y).2 g4))
def O6 (h:ST B t) (hB:B≤100000) {i:Int} {d:Nat} (hd:Deep t.η i d):∃r,CU ⟨t⟩ i=some (r,⟨t⟩)∧r.length=d+1∧∀y,y∈r↔ju t.η y i:=by
 obtain ⟨r,e1,e2,e3⟩:=WC (x:=t.Next) (c:=t.aj) h.s (h.n hB) hd [i] (by have:=yh hd;simp;omega);exact ⟨i::r,e1,by simp [e2],fun y=>by rw [bf];exact e3 y⟩
def Wh (h:ST B t) (hB:B≤100000) {i:Int} {d:Nat} (hd:Deep t.η i d):CP ⟨t⟩ i=some ((d:Int),⟨t⟩):=by
 obtain ⟨r,e1,e2,-⟩:=O6 h hB hd;refine ε.eq ?_;unfold CP;have:=yh hd;have:=h.n hB;refine ε.ai e1 (ε.Ω (by unfold Θ;dsimp only;omega) (ε.ret ?_));dsimp only;rw [e2,show (((d+1:Nat):Int)-1)=(d:Int) by omega]
def aeo {l:List aO} (h:oq l) (s:List UInt8):(BV l s).isSome=fI (cS s) l:=by
 rw [Du h];unfold BV;cases hx:l.findIdx? (fun e=>e.aN==s) with
 |none=>rw [DN hx];rfl
 |some k=>obtain ⟨x,-,hf,-⟩:=sO hx;rw [hf];rfl
def Ws (h:W t δ) (hf:TF B t) (hB:B≤100000) (i:Int) (s:List UInt8):CR ⟨t⟩ i s=some (sM t i s,⟨t⟩):=by
 have bV:=h.st hf;refine ε.eq ?_;unfold CR;refine ε.ai (JF bV hB i) ?_;unfold sM;dsimp only;by_cases h0:((dz t.η i).2 != 0)=true
 ·rw [if_pos h0,if_pos h0];exact ε.ret rfl
 rw [if_neg h0,if_neg h0];refine ε.ai (Fm s) ?_;by_cases h1:(!f_ s)=true
 ·rw [if_pos h1,if_pos h1];exact ε.ret rfl
 rw [if_neg h1,if_neg h1];refine ε.ai (Fj (DE bV i) (by have:=L4 hf i;omega) s) ?_;dsimp only;rw [aeo (DE bV i)];by_cases h2:fI (cS s) (dz t.η i).1.Ψ=true
 ·rw [if_pos h2,if_pos h2];exact ε.ret rfl
 rw [if_neg h2,if_neg h2];obtain ⟨m,g1,g2,g3,g4⟩:=DF (nr h0);obtain ⟨d,d1,d2,d3,d4⟩:=W.deep h g1 g2;rw [g3];unfold Im;rw [(dM g1).2,d4];refine ε.bind (R:=(·=((decide ((m.Ψ.length:Int)≥64)||decide ((d:Int)≥12)||decide (t.aj≥1099511627776)),t.η,t.Next,t.aj))) (ε.bind (R:=(·=((decide ((m.Ψ.length:Int)≥64)||decide ((d:Int)≥12)),t.η,t.Next,t.aj))) ?_ fun r hr=>?_) fun r hr=>?_
 ·refine ε.ite (fun e=>ε.ret (by rw [e];rfl)) fun e=>?_;rw [ia.2 e];exact ε.ai (Wh bV hB d1) (ε.ret rfl)
 ·subst hr;dsimp only;refine ε.bind (R:=(·=(decide ((m.Ψ.length:Int)≥64)||decide ((d:Int)≥12)||decide (t.aj≥1099511627776)))) (ε.ite (fun e=>ε.ret (by rw [e];rfl)) fun e=>ε.ret (by rw [ia.2 e];rfl)) fun r hr=>ε.ret (by rw [hr])
 ·subst hr;dsimp only;by_cases h3:(decide ((m.Ψ.length:Int)≥64)||decide ((d:Int)≥12)||decide (t.aj≥1099511627776))=true
  ·rw [if_pos h3,if_pos h3];exact ε.ret rfl
  ·rw [if_neg h3,if_neg h3];exact ε.ret rfl
def Wl (h:ST B t) (hB:B≤100000) (i:Int) (s:List UInt8) (o:Int) (bp:∀e,e∈(gD t.η i).Ψ→e.aN≠s):Gt i s o ⟨t⟩=some ((j8 t i s o).Next,(j8 t i s o).aj,(j8 t i s o).η):=by
 refine ε.eq ?_;unfold Gt xa;refine ε.ai (rS h.s (h.n hB) i) ?_;have hE:=h.f.gE i;have hk:=xY (cS s) (gD t.η i).Ψ;have hc:=h.f.c;refine ε.ai (Fj (h.g i) (by omega) s) ?_;dsimp only;refine ε.ai (sF (by omega)) (ε.Ω ⟨by omega,by omega,by simp,by simp only [cZ,ig];omega⟩ (ε.Ω (by unfold Θ;omega) ?_));refine ε.ai (Wz (t:=⟨t.η,t.Next,t.aj+1⟩) h.s (h.n hB) _ _ _ _ _ _) (ε.ret ?_);unfold j8;dsimp only;rw [Vg (e:=⟨s,o,t.aj⟩) (h.g i) bp]
def Wj (h:ST B t) (hB:B≤100000) (i:Int) (s:List UInt8) (o:Int) (bp:∀e,e∈(gD t.η i).Ψ→e.aN≠s):Gs i s o t.Next t.aj t.η=some ((j8 t i s o).Next,(j8 t i s o).aj,(j8 t i s o).η):=Wl h hB i s o bp
def O2 (h:ST B t) (hB:B≤100000) (i:Int) (s:List UInt8) {e:aO} (he:(gD t.η i).Ψ.find? (fun e=>e.aN==s)=some e):Ag i s ⟨t⟩=some ((eM t i s).η,(eM t i s).Next,(eM t i s).aj):=by
 refine ε.eq ?_;unfold Ag xa;refine ε.ai (rS h.s (h.n hB) i) ?_;have hE:=h.f.gE i;have hk:=LW (h.g i) he;have hl:=(fh.1 hk).1;have hF:=Du (s:=s) (h.g i);rw [he] at hF;have hF:fI (cS s) (gD t.η i).Ψ=true:=hF;refine ε.ai (Fj (h.g i) (by omega) s) ?_;dsimp only;refine ε.cond hF (ε.ai (sF (by omega)) (ε.Ω (by unfold Θ;omega) (ε.Ω ⟨by omega,by omega,by omega⟩ ?_)));refine ε.ai (Wz h.s (h.n hB) _ _ _ _ _ _) (ε.ret ?_);unfold eM;dsimp only;rw [SQ (h.g i),if_pos hF]
def WB (h:ST B t) (hB:B≤100000) {n:τ} (hn:gN t.η n.ι=some n):CT n ⟨t⟩=some ((kr t n.ι).η,(kr t n.ι).Next,(kr t n.ι).aj):=by
 refine ε.eq ?_;unfold CT kr;rw [jd hn];have hL:=h.f.gL n.ι;rw [jd hn] at hL;by_cases hk:(n.ξ==2)=true
 ·simp only [if_pos hk];exact ε.ai (Wi h.s (h.n hB) _) (ε.ret rfl)
 ·simp only [if_neg hk];exact ε.Ω (by unfold Θ;omega) (ε.ai (B2 h.s (h.n hB) _) (ε.ret rfl))
end
section
variable {B:Nat} {t:ψ}
def aeN (h:RT t) (hf:TF B t) (hB:B≤90000) (i:Int) (s:List UInt8) (k:Int):CE t i s k=some (mw t i s k):=by
 have bV:=h.st hf;refine ε.eq ?_;unfold CE mw;refine ε.bind (R:=(·=((k != 1)&&(k != 2)))) (ε.bind (R:=(·=((k != 1)&&(k != 2)))) (by cases k != 1<;>exact ε.ret rfl) fun r hr=>ε.ret hr) fun r hr=>?_;subst hr;refine ε.eG (fun _=>ε.ret rfl) fun _=>ε.ai (Ws h hf (by omega) i s) ?_;dsimp only;refine ε.eG (fun _=>ε.ret rfl) fun he=>?_;refine ε.bind (R:=(·=(decide ((t.η.length:Int)≥200)||decide (t.Next≥1099511627776)))) (ε.bind (R:=(·=(decide ((t.η.length:Int)≥200)||decide (t.Next≥1099511627776)))) (ε.ite (fun e=>ε.ret (by rw [e];rfl)) fun e=>ε.ret (by rw [ia.2 e];rfl)) fun r hr=>ε.ret hr) fun r hr=>?_;subst hr;refine ε.eG (fun _=>ε.ret rfl) fun _=>?_;refine ε.bind (R:=(·=if (k==2)=true then i else 0)) (ε.eG (fun _=>ε.ret rfl) fun _=>ε.ret rfl) fun u hu=>?_;subst hu;have hx:=hf.x;refine ε.Ω (by unfold Θ;omega) ?_;refine ε.ai (B2 (t:=⟨t.η,t.Next+1,t.aj⟩) h.s (bV.n (by omega)) _) ?_;dsimp only;obtain ⟨m,g1,g2,g3,g4,g5,g6⟩:=H2 (nr he)
 have aP:i≠t.Next:=fun e=>by have:=(h.lo m (dM g1).1).2;have:=(dM g1).2;omega
 have h2:ST (B+1) ⟨cF ⟨t.Next,k,1,[],[],if (k==2)=true then i else 0⟩ t.η,t.Next+1,t.aj⟩:=bV.JQ (hf.RO k _) jr
 have hg:gD (cF ⟨t.Next,k,1,[],[],if (k==2)=true then i else 0⟩ t.η) i=m:=by
  unfold gD;rw [ly,if_neg aP,g1];rfl
 refine ε.ai (Wj h2 (by omega) i s t.Next (by dsimp only;rw [hg];exact g4)) (ε.ret rfl)
def afc (h:RT t) (hf:TF B t) (hB:B≤90000) (i to:Int) (s:List UInt8):CG t i to s=some (tr t i to s):=by
 have bV:=h.st hf;refine ε.eq ?_;unfold CG tr;refine ε.ai (rS h.s (bV.n (by omega)) i) ?_;dsimp only;refine ε.bind (R:=(·=(!(gN t.η i).isSome||((gD t.η i).ξ==1&&(gD t.η i).aZ==0)))) (ε.bind (R:=(·=(!(gN t.η i).isSome||((gD t.η i).ξ==1&&(gD t.η i).aZ==0)))) ?_ fun r hr=>ε.ret hr) fun r hr=>?_
 ·refine ε.ite (fun e=>ε.ret (by rw [e];rfl)) fun e=>?_;rw [ia.2 e];exact ε.bind (R:=(·=((gD t.η i).ξ==1&&(gD t.η i).aZ==0))) (by cases (gD t.η i).ξ==1<;>exact ε.ret rfl) fun r hr=>ε.ret (by rw [hr];rfl)
 subst hr;refine ε.eG (fun _=>ε.ret rfl) fun hi=>ε.eG (fun _=>ε.ret rfl) fun hk=>ε.ai (Ws h hf (by omega) to s) ?_;dsimp only;refine ε.eG (fun _=>ε.ret rfl) fun he=>?_;have hL:=hf.gL i;refine ε.Ω (by unfold Θ;omega) (ε.ai (B2 h.s (bV.n (by omega)) _) ?_);dsimp only;obtain ⟨m,g1,g2,g3,g4,g5,g6⟩:=H2 (nr he)
 obtain ⟨n,hn⟩:∃n,gN t.η i=some n:=by
  cases hg:gN t.η i with
  |none=>rw [hg] at hi;simp at hi
  |some n=>exact ⟨n,rfl⟩
 rw [jd hn] at hk ⊢;have rF:=(dM hn).2
 have aP:to≠n.ι:=fun e=>by
  rw [e,rF,hn] at g1;cases g1;simp [g2] at hk
 have Bg:=hf.VD i;rw [jd hn] at Bg;have MJ:=bV.g i;rw [jd hn] at MJ;have h2:ST (B+1) ⟨cF ⟨n.ι,n.ξ,n.aZ+1,n.aC,n.Ψ,n.Up⟩ t.η,t.Next,t.aj⟩:=bV.JQ Bg MJ
 have hg:gD (cF ⟨n.ι,n.ξ,n.aZ+1,n.aC,n.Ψ,n.Up⟩ t.η) to=m:=by
  unfold gD;rw [ly,if_neg aP,g1];rfl
 exact ε.ai (Wj h2 (by omega) to s i (by dsimp only;rw [hg];exact g4)) (ε.ret rfl)
def afm (h:RT t) (hf:TF B t) (hB:B≤90000) (i:Int) (s:List UInt8):CL t i s=some (qE t i s):=by
 have bV:=h.st hf;refine ε.eq ?_;unfold CL qE;refine ε.ai (JE bV (by omega) i s) ?_;refine ε.eG (fun _=>ε.ret rfl) fun hl=>ε.ai (rS h.s (bV.n (by omega)) _) ?_;dsimp only;refine ε.eG (fun _=>ε.ret rfl) fun hE=>?_;obtain ⟨m,e,g1,g2,g3,g4,g5,g6⟩:=look_ok (nr hl);refine ε.ai (O2 bV (by omega) i s (by rw [g3];exact g5)) ?_;dsimp only;rw [g6];obtain ⟨k1,k2,k3⟩:=W.get h g1;have jQ:=nj g5;obtain ⟨x,hx⟩:=nk.1 (h.cl m k1 e jQ);have Oc:e.ι≠i:=W.Jw h g1 g2 jQ;rw [jd hx];have U9:=(dM hx).2
 have gr:gN (eM t i s).η x.ι=some x:=by rw [U9,yq g1,if_neg Oc];exact hx
 refine ε.ai (WB (t:=eM t i s) (bV.OA i s) (by omega) gr) (ε.ret ?_);rw [U9]
def afh (h:RT t) (hf:TF B t) (hB:B≤90000) (i:Int) (x:List UInt8):Ad t i x=some (nX t i x):=by
 have bV:=h.st hf;refine ε.eq ?_;unfold Ad nX x_;refine ε.ai (rS h.s (bV.n (by omega)) i) ?_;dsimp only;refine ε.eG (fun _=>ε.ret rfl) fun _=>ε.eG (fun _=>ε.ret rfl) fun _=>ε.eG (fun _=>ε.ret rfl) fun hx=>?_;simp only [decide_eq_true_eq] at hx;refine ε.ai (sF (l:=x) (K:=1) (by omega)) ?_;exact ε.ai (B2 h.s (bV.n (by omega)) _) (ε.ret rfl)
def V_ (h:dY t.η) (hf:TF B t) (hB:B≤90000) (i:Int):Ac t i=some (we t i):=by
 have hn:=hf.n;refine ε.eq ?_;unfold Ac we;refine ε.ai (rS h (by omega) i) ?_;dsimp only;refine ε.eG (fun _=>ε.ret rfl) fun _=>ε.eG (fun _=>ε.ret rfl) fun _=>ε.eG (fun _=>ε.ret rfl) fun hx=>?_;exact ε.ai (Wi h (by omega) _) (ε.ret rfl)
end
end
section
def ad1 {β σ ρ:Type} {b:List β} {B:Int×σ→Option ((Int×σ)⊕ρ)} (x:σ) (p:β→Bool) (yes:Nat→ρ) (no:ρ)
  (h1:∀(n:Nat) (a:β),b[n]?=some a→n<b.length→B ((n:Int),x)=if p a then some (.inr (yes n)) else some (.inl ((n:Int)+1,x)))
  (h2:B ((b.length:Int),x)=some (.inr no)) :
  loop B (0,x)=some (match b.findIdx? p with|some n=>yes n|none=>no):=by
 have key:∀(l:List β) (n:Nat),b.drop n=l→n≤b.length→loop B ((n:Int),x)=some (match l.findIdx? p with|some k=>yes (n+k)|none=>no):=by
  intro l;induction l with
  |nil =>
   intro n hd hn
   have:n=b.length:=by have:=congrArg List.length hd;simp at this;omega
   subst this;exact nS h2
  |cons a l ih =>
   intro n hd hn
   have Φ:n<b.length:=by
    rcases gI n b.length with h|h
    ·exact h
    ·rw [qP h] at hd;cases hd
   rw [xr Φ] at hd;injection hd with hx hl;have h:=h1 n a (by rw [bU Φ,hx]) Φ;rw [List.findIdx?_cons];cases hp:p a with
   |true =>
    rw [hp] at h;rw [nS h];simp
   |false =>
    rw [hp] at h;rw [tu h,show ((n:Int)+1)=((n+1:Nat):Int) from rfl,ih (n+1) hl Φ];cases hf:l.findIdx? p with
    |none=>simp
    |some k=>simp [Nat.add_comm,Nat.add_left_comm]
 have:=key b 0 rfl (lP _);simpa using this
def Ff {α:Type} (l:List α) (p:α→Bool):decide (oI (l.findIdx? p)≥0)=l.any p:=by
 rw [V0,List.findIdx?_isSome]
def V9 (l:List Int) (y:Int) (hl:l.length≤1000000):Cs l y=some (l.any fun x=>y==x):=by
 have:Gd l y=some (oI (l.findIdx? fun x=>y==x)):=by
  unfold Gd Xz;rw [OE (b:=l) (fun x=>y==x) (fun n _=>(n:Int)) (-1)]
  ·cases h:l.findIdx? fun x=>y==x with
   |none=>rfl
   |some n=>obtain ⟨x,hx,-⟩:=sO h;simp only [hx];rfl
  ·intro n x hx Φ;unfold Ge
   have hd:decide ((n:Int)<(l.length:Int))=true:=by simpa using Φ
   simp only [hd,if_true,cL hx,cD];split
   ·rfl
   ·rw [im (by unfold Θ;omega)]
  ·unfold Ge;simp [Kz,Cat.out]
 unfold Cs;rw [this,cD,Ff]
section
variable {B:Nat} {t:ψ}
def LL {i x:Int} {d:Nat} (h:Deep t.η i d):j6 t.η i x=true↔ju t.η x i :=
 ⟨fun hb=>Yf h hb,fun hu=>LK hu h (by have:=yh h;omega)⟩
noncomputable def sH (l:List τ) (i a:Int) (n:τ):Bool:=(n.ξ==2&&j6 l n.ι i)&&decide (a+(iq l 201 n.ι:Int)-(iq l 201 i:Int)+(if decide ((n.Ψ.length:Int)>0)=true then 1 else 0)>12)
def acn (l:List τ) (i a:Int):decide (s6 l i a>12)=l.any (sH l i a):=by
 have key:∀(r:List τ) (m:Int),(r.foldl (fun m n=>if (n.ξ==2&&j6 l n.ι i)=true then max m (a+(iq l 201 n.ι:Int)-(iq l 201 i:Int)+if decide ((n.Ψ.length:Int)>0)=true then 1 else 0) else m) m>12)↔(m>12∨r.any (sH l i a)=true):=by
  intro r;induction r with
  |nil=>intro m;simp
  |cons x r ih =>
   intro m;rw [pZ,ih,List.any_cons,ug]
   have:(sH l i a x=true)↔(x.ξ==2&&j6 l x.ι i)=true∧(a+(iq l 201 x.ι:Int)-(iq l 201 i:Int)+(if decide ((x.Ψ.length:Int)>0)=true then 1 else 0)>12):=by
    unfold sH;rw [bE,decide_eq_true_eq]
   rw [this];by_cases hc:(x.ξ==2&&j6 l x.ι i)=true
   ·rw [if_pos hc];generalize (a+(iq l 201 x.ι:Int)-(iq l 201 i:Int)+(if decide ((x.Ψ.length:Int)>0)=true then 1 else 0))=v;constructor
    ·rintro (h|h)
     ·rcases (by omega:m>12∨v>12) with h|h
      ·exact .inl h
      ·exact .inr (.inl ⟨hc,h⟩)
     ·exact .inr (.inr h)
    ·rintro (h|⟨-,h⟩|h)
     ·exact .inl (by omega)
     ·exact .inl (by omega)
     ·exact .inr h
   ·rw [if_neg hc];constructor
    ·rintro (h|h)
     ·exact .inl h
     ·exact .inr (.inr h)
    ·rintro (h|⟨h,-⟩|h)
     ·exact .inl h
     ·exact absurd h hc
     ·exact .inr h
 have h:=key l 0;unfold s6;rw [qL,decide_eq_true_eq,h];simp
def afu (h:RT t) (hf:TF B t) (hB:B≤90000) {i a:Int} {m:τ} (hi:gN t.η i=some m) (hm:m.ξ=2) (ha:0≤a∧a≤1000) {n:τ} (hn:n∈t.η):CN n ⟨t⟩ a (iq t.η 201 i:Int) i=some (sH t.η i a n,t.η,t.Next,t.aj):=by
 have bV:=h.st hf;refine ε.eq ?_;unfold CN sH;by_cases hk:(n.ξ != 2)=true
 ·rw [if_pos hk,show (n.ξ==2)=false by simpa using hk];exact ε.ret rfl
 rw [if_neg hk]
 have fz:n.ξ=2:=by simpa using hk
 obtain ⟨d,d1,d2,d3,d4⟩:=W.deep h (yr h.s hn) fz;obtain ⟨d',e1,e2,e3,e4⟩:=W.deep h hi hm;obtain ⟨r,r1,r2,r3⟩:=O6 bV (by omega) d1;refine ε.ai r1 ?_;dsimp only;rw [e4,d4,r2];refine ε.Ω (by unfold Θ;omega) (ε.Ω (by unfold Θ;omega) (ε.Ω (by unfold Θ;omega) ?_))
 have hc:(r.any fun x=>i==x)=j6 t.η n.ι i:=by
  rw [qL,LL d1,←r3 i];simp
 have cI:(n.ξ==2)=true:=by simpa using fz
 refine ε.bind (R:=(·=(j6 t.η n.ι i&&decide (a+(d:Int)-(d':Int)+(if decide ((n.Ψ.length:Int)>0)=true then 1 else 0)>12)))) (ε.ai (V9 r i (by omega)) (ε.bind (R:=(·=(j6 t.η n.ι i&&decide (a+(d:Int)-(d':Int)+(if decide ((n.Ψ.length:Int)>0)=true then 1 else 0)>12)))) ?_ fun v hv=>ε.ret hv)) fun v hv=>ε.ret (by rw [hv,cI,K1]);rw [hc];refine ε.ite (fun hb=>?_) fun hb=>ε.ret (by rw [ia.2 hb];rfl);rw [hb,K1];refine ε.bind (R:=(·=decide (a+(d:Int)-(d':Int)+(if decide ((n.Ψ.length:Int)>0)=true then 1 else 0)>12))) ?_ fun v hv=>ε.ret hv;refine ε.ite (fun h1=>ε.ret ?_) fun h1=>?_
 ·rw [decide_eq_true_eq] at h1;symm;rw [decide_eq_true_eq];split<;>omega
 ·rw [decide_eq_true_eq] at h1;refine ε.bind (R:=(·=decide (a+(d:Int)-(d':Int)+(if decide ((n.Ψ.length:Int)>0)=true then 1 else 0)>12))) ?_ fun v hv=>ε.ret hv;refine ε.ite (fun h2=>ε.ret ?_) fun h2=>ε.ret ?_
  ·rw [beq_iff_eq] at h2;by_cases h3:(n.Ψ.length:Int)>0
   ·rw [decide_eq_true h3,if_pos rfl];symm;rw [decide_eq_true_eq];omega
   ·rw [decide_eq_false h3,if_neg (by simp)];symm;rw [decide_eq_false_iff_not];omega
  ·rw [beq_iff_eq] at h2;symm;rw [decide_eq_false_iff_not];split<;>omega
def afv (h:RT t) (hf:TF B t) (hB:B≤90000) {i a:Int} {m:τ} (hi:gN t.η i=some m) (hm:m.ξ=2) (ha:0≤a∧a≤1000):Gr ⟨t⟩ i a=some (decide (s6 t.η i a>12),⟨t⟩):=by
 have bV:=h.st hf;obtain ⟨d',e1,e2,e3,e4⟩:=W.deep h hi hm;have hl:=hf.n;refine ε.eq ?_;unfold Gr;refine ε.ai (Wh bV (by omega) e1) ?_;rw [acn];dsimp only;unfold Kq Kv Xx;rw [←e4];have yU:=ad1 (b:=t.η) (B:=Cu t.η a (iq t.η 201 i:Int) i) (t.η,t.Next,t.aj) (sH t.η i a) (fun n=>((n:Int),t.η,t.Next,t.aj)) (-1,t.η,t.Next,t.aj) ?_ ?_
 ·refine ε.ai (a:=(t.η.any (sH t.η i a),t.η,t.Next,t.aj)) ?_ (ε.ret rfl);show ((loop _ _).bind _)=_;rw [yU];have:=Ff t.η (sH t.η i a);cases hx:t.η.findIdx? (sH t.η i a) with
  |none=>rw [hx] at this;rw [←this];rfl
  |some k=>rw [hx] at this;rw [←this];rfl
 ·intro n x hx Φ;unfold Cu
  have hd:decide ((n:Int)<(t.η.length:Int))=true:=by simpa using Φ
  simp only [hd,if_true,cL hx,cD];have hp:CN x (⟨(⟨t.η,t.Next,t.aj⟩:ψ)⟩:da) a (iq t.η 201 i:Int) i=_:=afu h hf hB hi hm ha (mb hx);rw [hp,cD];dsimp only;split
  ·rfl
  ·rw [im (by unfold Θ;omega)]
 ·unfold Cu;simp [Kx,Cat.out]
end
end
section
section
variable {B:Nat} {t:ψ}
def BY (x y:τ):Int:=if (x.ξ==2&&y.ξ != 2)=true then 73 else if (x.ξ != 2&&y.ξ==2)=true then 72 else if decide ((y.Ψ.length:Int)>0)=true then 74 else 0
def afN (x y:τ):Gu x y=some (BY x y):=by
 refine ε.eq ?_;unfold Gu BY;refine ε.bind (R:=(·=(x.ξ==2&&y.ξ != 2))) (ε.bind (R:=(·=(x.ξ==2&&y.ξ != 2))) (by cases x.ξ==2<;>exact ε.ret rfl) fun r hr=>ε.ret hr) fun r hr=>?_;subst hr;refine ε.eG (fun _=>ε.ret rfl) fun _=>?_;refine ε.bind (R:=(·=(x.ξ != 2&&y.ξ==2))) (ε.bind (R:=(·=(x.ξ != 2&&y.ξ==2))) (by cases x.ξ != 2<;>exact ε.ret rfl) fun r hr=>ε.ret hr) fun r hr=>?_;subst hr;exact ε.eG (fun _=>ε.ret rfl) fun _=>ε.eG (fun _=>ε.ret rfl) fun _=>ε.ret rfl
def afe (h:RT t) (hf:TF B t) (hB:B≤90000) (from_:Int) (s:List UInt8) (to:Int) (aJ:List UInt8):CI t from_ s to aJ=some (qw t from_ s to aJ):=by
 have bV:=h.st hf;have hn:=bV.n (by omega);refine ε.eq ?_;unfold CI qw;refine ε.ai (JE bV (by omega) from_ s) (ε.eG (fun _=>ε.ret rfl) fun hL=>ε.ai (JF bV (by omega) to) ?_);dsimp only;refine ε.eG (fun _=>ε.ret rfl) fun hD=>ε.ai (Fm aJ) (ε.eG (fun _=>ε.ret rfl) fun hR=>?_);obtain ⟨mf,ef,a1,a2,a3,a4,a5,a6⟩:=look_ok (nr hL);obtain ⟨md,b1,b2,b3,b4⟩:=DF (nr hD);rw [a6,b3];obtain ⟨k1,k2,k3⟩:=W.get h a1;obtain ⟨q1,q2,q3⟩:=W.get h b1;have jQ:=nj a5;obtain ⟨x,hx⟩:=nk.1 (h.cl mf k1 ef jQ);obtain ⟨x1,x2,x3⟩:=W.get h hx;have ES:ef.ι≠from_:=W.Jw h a1 a2 jQ;obtain ⟨dt,t1,t2,t3,t4⟩:=W.deep h b1 b2;have NR:=bV.e _ q1;have hEl:=hf.e _ q1
 have jU:cd t to aJ=match md.Ψ.find? (fun e=>e.aN==aJ) with|some e=>e.ι|none=>0:=by unfold cd;rw [b3]<;>rfl
 have hYf:fI (cS aJ) md.Ψ=(cd t to aJ != 0)∧(gD t.η (cd t to aJ)).ι=cd t to aJ∧(gN t.η (cd t to aJ)).isSome=(cd t to aJ != 0):=by
  have hF:=Du (s:=aJ) NR;rw [jU];cases fK:md.Ψ.find? (fun e=>e.aN==aJ) with
  |none =>
   rw [fK] at hF
   have h0:gN t.η 0=none:=yt.2 fun n hn=>by have:=(h.lo n hn).1;omega
   refine ⟨hF,?_,?_⟩
   ·dsimp only;unfold gD;rw [h0];rfl
   ·dsimp only;rw [h0];rfl
  |some ey =>
   rw [fK] at hF;have Et:=nj fK;obtain ⟨ny,kU⟩:=nk.1 (h.cl md q1 ey Et);have hyi:=(dM kU).2
   have aP:(ey.ι != 0)=true:=by have:=(h.lo ny (dM kU).1).1;simp;omega
   refine ⟨by dsimp only;rw [aP];exact hF,by dsimp only;rw [jd kU];exact hyi,by dsimp only;rw [kU,aP];rfl⟩
 obtain ⟨y1,y2,y3⟩:=hYf;refine ε.ai (rS h.s hn ef.ι) ?_;dsimp only;rw [x3];refine ε.ai (Fj NR (by omega) aJ) ?_;dsimp only;rw [y1];refine ε.ai (a:=(t.η,t.Next,t.aj,(gD t.η (cd t to aJ)).ι,(gD t.η (cd t to aJ)).ξ,(gD t.η (cd t to aJ)).aZ,(gD t.η (cd t to aJ)).aC,(gD t.η (cd t to aJ)).Ψ,(gD t.η (cd t to aJ)).Up)) ?_ ?_
 ·refine ε.eq (ε.ite (fun e=>?_) fun e=>?_)
  ·cases fK:md.Ψ.find? (fun e=>e.aN==aJ) with
   |none=>rw [fK] at jU;rw [jU] at e;simp at e
   |some ey =>
    rw [fK] at jU;refine ε.ai (cL (LW NR fK)) (ε.ai (rS h.s hn ey.ι) (ε.ret ?_));dsimp only;rw [jU]
  ·have e0:cd t to aJ=0:=by simpa using e
   refine ε.ret ?_
   have h0:gD t.η 0=jX:=by unfold gD;rw [yt.2 fun n hn=>by have:=(h.lo n hn).1;omega];rfl
   rw [e0,h0];rfl
 dsimp only;rw [y2];refine ε.eG (fun _=>ε.ret rfl) fun hy=>?_
 have hy:cd t to aJ≠ef.ι:=by simpa using hy
 obtain ⟨r,r1,r2,r3⟩:=O6 bV (by omega) t1;refine ε.ai r1 ?_;dsimp only
 have hc:(r.any fun x=>ef.ι==x)=j6 t.η to ef.ι:=by
  rw [qL,LL t1,←r3 ef.ι];simp
 refine ε.bind (R:=(·=(x.ξ==2&&j6 t.η to ef.ι))) (ε.bind (R:=(·=(x.ξ==2&&j6 t.η to ef.ι))) (ε.ite (fun e=>ε.ai (V9 r ef.ι (by omega)) (ε.ret (by rw [hc,e];rfl))) fun e=>ε.ret (by rw [ia.2 e];rfl)) fun v hv=>ε.ret hv) fun v hv=>?_;subst hv;refine ε.eG (fun _=>ε.ret rfl) fun yU=>?_
 have M0:sE t x (cd t to aJ)=if (cd t to aJ != 0)=true then BY x (gD t.η (cd t to aJ)) else 0:=by
  unfold sE BY;rw [y3];by_cases e:(cd t to aJ != 0)=true
  ·rw [if_pos e,if_neg (by rw [e];simp)]
  ·rw [if_neg e,if_pos (by simpa using e)]
 have hJ:sE t x (cd t to aJ)=0→ε (CJ (↑(cX (cS aJ) md.Ψ),cd t to aJ != 0) to from_ (dz t.η to,⟨t⟩) (r,⟨t⟩) ((x,(gN t.η ef.ι).isSome),⟨t⟩) (eT t from_ s) t s aJ (t.η,t.Next,t.aj,cd t to aJ,(gD t.η (cd t to aJ)).ξ,(gD t.η (cd t to aJ)).aZ,(gD t.η (cd t to aJ)).aC,(gD t.η (cd t to aJ)).Ψ,(gD t.η (cd t to aJ)).Up) ())
   (·=if Jp t ef.ι from_ to (cd t to aJ)=true then (t,0,76) else (j8 (ko t (iU t ef.ι from_ s to aJ (cd t to aJ)) ef.ι to) to aJ ef.ι,cd t to aJ,0)):=by
  intro c_;unfold CJ Jp;rw [b3,x3,t4,a6];refine ε.bind (R:=(·=(((cd t to aJ==0)&&(to != from_))&&decide ((md.Ψ.length:Int)≥64)))) ?_ fun v hv=>?_
  ·refine ε.bind (R:=(·=((cd t to aJ==0)&&(to != from_)))) (ε.ite (fun e=>ε.ret ?_) fun e=>ε.ret ?_) fun v hv=>ε.bind (R:=(·=(((cd t to aJ==0)&&(to != from_))&&decide ((md.Ψ.length:Int)≥64)))) ?_ fun v hv=>ε.ret hv
   ·have e:cd t to aJ=0:=by simpa using e
    rw [e];simp
   ·have e:¬cd t to aJ=0:=by simpa using e
    rw [beq_eq_false_iff_ne.2 e];rfl
   ·subst hv;exact ε.ite (fun e=>ε.ret (by rw [e];rfl)) fun e=>ε.ret (by rw [ia.2 e];rfl)
  subst hv;generalize rm:(((cd t to aJ==0)&&(to != from_))&&decide ((md.Ψ.length:Int)≥64))=bA
  have hlen:decide ((r.length:Int)>12)=decide ((dt:Int)≥12):=by rw [r2,decide_eq_decide];omega
  have rq:=yh t1
  have aR:(r.length:Int)=(dt:Int)+1:=by rw [r2];omega
  dsimp only;rw [hlen,aR];generalize hbB:decide ((dt:Int)≥12)=bB;refine ε.bind (R:=(·=((bA||bB||((x.ξ==2)&&decide (s6 t.η ef.ι ((dt:Int)+1)>12))||decide (t.aj≥1099511627776)),t.η,t.Next,t.aj))) ?_ fun v hv=>?_
  ·refine ε.bind (R:=(·=(bA||bB))) (by cases bA<;>exact ε.ret rfl) fun v hv=>?_;subst hv;refine ε.bind (R:=(·=((bA||bB||((x.ξ==2)&&decide (s6 t.η ef.ι ((dt:Int)+1)>12))),t.η,t.Next,t.aj))) ?_ fun v hv=>?_
   ·refine ε.ite (fun e=>ε.ret (by rw [e];rfl)) fun e=>?_;rw [ia.2 e,Bool.false_or];refine ε.bind (R:=(·=(((x.ξ==2)&&decide (s6 t.η ef.ι ((dt:Int)+1)>12)),t.η,t.Next,t.aj))) (ε.ite (fun e=>?_) fun e=>ε.ret (by rw [ia.2 e];rfl)) fun v hv=>ε.ret (by rw [hv]);rw [e,K1];exact ε.ai (afv h hf hB hx (by simpa using e) (by omega)) (ε.ret rfl)
   ·subst hv;dsimp only;refine ε.bind (R:=(·=(bA||bB||((x.ξ==2)&&decide (s6 t.η ef.ι ((dt:Int)+1)>12))||decide (t.aj≥1099511627776)))) (ε.ite (fun e=>ε.ret (by rw [e];rfl)) fun e=>ε.ret (by rw [ia.2 e];rfl)) fun v hv=>ε.ret (by rw [hv])
  subst hv;dsimp only;refine ε.eG (fun _=>ε.ret rfl) fun Bi=>?_
  have abL:bA=false:=by cases bA<;>simp_all
  rw [abL] at rm;have wD:x.ξ=2→¬ju t.η ef.ι to:=fun hk hu=>yU (by rw [(LL t1).2 hu];simp [hk])
  have zn:ef.ι≠to:=fun e=>by
   rw [e,b1] at hx;cases hx;exact wD b2 (e▸.refl)
  have T8:∀ey,md.Ψ.find? (fun e=>e.aN==aJ)=some ey→∃ny,cd t to aJ=ey.ι∧gN t.η ey.ι=some ny∧ny.Ψ=[]:=fun ey fK=>by
   rw [fK] at jU;have Et:=nj fK;obtain ⟨ny,kU⟩:=nk.1 (h.cl md q1 ey Et);refine ⟨ny,jU,kU,?_⟩
   have e1:(cd t to aJ != 0)=true:=by rw [←y3,jU];dsimp only;rw [kU];rfl
   rw [M0,if_pos e1] at c_;rw [jU] at c_;dsimp only at c_;rw [jd kU] at c_;unfold BY at c_;split at c_
   ·cases c_
   split at c_
   ·cases c_
   split at c_
   ·cases c_
   rename_i h0;rw [decide_eq_true_eq] at h0;exact sx.1 (by omega)
  have hY:(∀e,e∈md.Ψ→e.aN≠aJ)∧cd t to aJ=0∧(to≠from_→md.Ψ.length<64)∨∃ey ny,md.Ψ.find? (fun e=>e.aN==aJ)=some ey∧cd t to aJ=ey.ι∧gN t.η ey.ι=some ny∧ny.Ψ=[]:=by
   cases fK:md.Ψ.find? (fun e=>e.aN==aJ) with
   |none =>
    rw [fK] at jU;refine .inl ⟨fun e he=>by have:=sw.1 fK e he;simpa using this,jU,fun aP=>?_⟩;rw [jU] at rm
    have:(to != from_)=true:=by simpa using aP
    rw [this] at rm;simp at rm;omega
   |some ey=>obtain ⟨ny,n1,n2,n3⟩:=T8 ey fK;exact .inr ⟨ey,ny,rfl,n1,n2,n3⟩
  obtain ⟨w,-,wx,mu,u1,u2,u3,u4⟩:=VV h a1 a2 a5 b1 b2 hx ES zn hy hY;refine ε.ai (O2 bV (by omega) from_ s (by rw [a3];exact a5)) ?_;dsimp only;refine ε.ai (a:=((iU t ef.ι from_ s to aJ (cd t to aJ)).η,(iU t ef.ι from_ s to aJ (cd t to aJ)).Next,(iU t ef.ι from_ s to aJ (cd t to aJ)).aj)) ?_ ?_
  ·refine ε.eq ?_;unfold iU;by_cases e:(cd t to aJ != 0)=true
   ·rw [if_pos e,if_pos e];cases fK:md.Ψ.find? (fun e=>e.aN==aJ) with
    |none=>rw [fK] at jU;rw [jU] at e;simp at e
    |some ey =>
     obtain ⟨ny,n1,n2,n3⟩:=T8 ey fK;have Et:=nj fK;have I9:ey.ι≠to:=W.Jw h b1 b2 Et
     have I7:ey.ι≠from_:=fun e=>by
      rw [e,a1] at n2;cases n2;rw [n3] at jQ;cases jQ
     have g1:=yq a1 s;have s1:ST (B+1) (eM t from_ s):=bV.OA from_ s
     obtain ⟨m1,c1,c2⟩:∃m1,gN (eM t from_ s).η to=some m1∧m1.Ψ.find? (fun e=>e.aN==aJ)=some ey:=by
      rw [g1];by_cases e:to=from_
      ·rw [if_pos e];rw [e,a1] at b1;cases b1;refine ⟨_,rfl,?_⟩;unfold Gw;dsimp only
       have aP:aJ≠s:=fun e=>by
        rw [e,a5] at fK;cases fK;exact hy n1
       rw [Zt]
       have:(fun a:aO=>decide ((!(a.aN==s))=true∧(a.aN==aJ)=true))=fun a=>a.aN==aJ:=by
        funext a;by_cases ha:a.aN=aJ
        ·rw [ha];simp [aP]
        ·simp [ha]
       rw [this];exact fK
      ·rw [if_neg e];exact ⟨md,b1,fK⟩
     refine ε.ai (O2 (t:=eM t from_ s) s1 (by omega) to aJ (by rw [jd c1];exact c2)) ?_;dsimp only;rw [n1,jd n2];have rF:=(dM n2).2
     have aI:gN (eM (eM t from_ s) to aJ).η ny.ι=some ny:=by rw [rF,yq c1,if_neg I9,g1,if_neg I7,n2]
     have UI:=WB (t:=eM (eM t from_ s) to aJ) (s1.OA to aJ) (by omega) aI;rw [rF] at UI
     have acd:(⟨ey.ι,ny.ξ,ny.aZ,ny.aC,ny.Ψ,ny.Up⟩:τ)=ny:=by rw [←rF]
     rw [acd];exact ε.ai UI (ε.ret rfl)
   ·rw [if_neg e,if_neg e];exact ε.ret rfl
  dsimp only;have sT:ST (B+3) (iU t ef.ι from_ s to aJ (cd t to aJ)):=w.st (hf.iU _ _ _ _ _ _);generalize iU t ef.ι from_ s to aJ (cd t to aJ)=T at *
  have sU:ST (B+4) (ko t T ef.ι to):=by
   have hu:=hf.ko (C:=B+3) sT.f (by omega) ef.ι to;unfold ko at hu ⊢;split
   ·rename_i hk;rw [if_pos hk] at hu;exact sT.JQ hu (bV.g _)
   ·exact sT.up (by omega)
  refine ε.ai (a:=((ko t T ef.ι to).η,(ko t T ef.ι to).Next,(ko t T ef.ι to).aj)) ?_ ?_
  ·refine ε.eq ?_;unfold ko;rw [x3];by_cases e:(x.ξ==2)=true
   ·simp only [if_pos e];exact ε.ai (B2 sT.s (sT.n (by omega)) _) (ε.ret rfl)
   ·simp only [if_neg e];exact ε.ret rfl
  dsimp only
  have hgU:gD (ko t T ef.ι to).η to=mu:=by
   unfold ko;rw [x3];split
   ·unfold gD;dsimp only;rw [ly];dsimp only;rw [x2,if_neg (j3 zn),u1];rfl
   ·exact jd u1
  exact ε.ai (Wl (t:=ko t T ef.ι to) sU (by omega) to aJ ef.ι (by rw [hgU];exact u3)) (ε.ret rfl)
 by_cases e:(cd t to aJ != 0)=true
 ·rw [if_pos e];refine ε.ai (afN _ _) ?_
  have e1:sE t x (cd t to aJ)=BY x (gD t.η (cd t to aJ)):=by rw [M0,if_pos e]
  have e2:(⟨cd t to aJ,(gD t.η (cd t to aJ)).ξ,(gD t.η (cd t to aJ)).aZ,(gD t.η (cd t to aJ)).aC,(gD t.η (cd t to aJ)).Ψ,(gD t.η (cd t to aJ)).Up⟩:τ)=gD t.η (cd t to aJ):=by
   have:∀n:τ,n.ι=cd t to aJ→(⟨cd t to aJ,n.ξ,n.aZ,n.aC,n.Ψ,n.Up⟩:τ)=n:=fun n hn=>by rw [←hn]
   exact this _ y2
  rw [e2,←e1];refine ε.eG (fun _=>ε.ret rfl) fun hc=>?_;exact hJ (nr hc)
 ·rw [if_neg e]
  have e1:sE t x (cd t to aJ)=0:=by rw [M0,if_neg e]
  have e3:=hJ e1;rw [e1,if_neg (by simp)];exact e3
end
end
section
def tw (l:List UInt8):List UInt8:=l.takeWhile (· != 47)
def dw (l:List UInt8):List UInt8:=l.dropWhile (· != 47)
def L6 (l:List UInt8):(dw l).length≤l.length:=(List.dropWhile_suffix _).length_le
def l6 (p:List UInt8):Option (List (List UInt8)) :=
 match p with
 |[]=>some []
 |a::r=>if a=47∧f_ (tw r)=true then (l6 (dw r)).map (tw r::·) else none
termination_by p.length
decreasing_by have:=L6 r;simp only [cZ];omega
def KC:l6 []=some []:=by rw [l6]
def Gh (a:UInt8) (r:List UInt8):l6 (a::r)=if a=47∧f_ (tw r)=true then (l6 (dw r)).map (tw r::·) else none:=by rw [l6]
def jZ (p:List UInt8):List (List UInt8)×Int:=if p=[47] then ([],0) else match l6 p with|some l=>if l.length=0∨12<l.length then ([],60) else (l,0)|none=>([],60)
def On:∀l:List UInt8,(if decide (mT l 47<0)=true then (l.length:Int) else mT l 47)=((tw l).length:Int)∧-1≤mT l 47
 |[]=>⟨rfl,by decide⟩
 |a::l=>by
  obtain ⟨ih,ih2⟩:=On l;have hx:mT (a::l) 47=if (a==47)=true then 0 else if (mT l 47 == -1)=true then -1 else mT l 47+1:=rfl;have ht:tw (a::l)=if (a != 47)=true then a::tw l else []:=xv ..;by_cases ha:a=47
  ·rw [if_pos (by simpa using ha)] at hx;rw [if_neg (by simpa using ha)] at ht;rw [hx,ht];simp
  ·rw [if_neg (by simpa using ha)] at hx;rw [if_pos (by simpa using ha)] at ht;by_cases h1:mT l 47=-1
   ·rw [if_pos (by simpa using h1)] at hx;rw [h1] at ih;rw [hx,ht];simp at ih ⊢;omega
   ·rw [if_neg (by simpa using h1)] at hx;rw [if_neg (by simp;omega)] at ih;rw [hx,ht,if_neg (by simp;omega),cZ];omega
def X6 (l:List UInt8):tw l++dw l=l:=List.takeWhile_append_dropWhile
def aid (l:List UInt8):l.take (tw l).length=tw l:=by
 have:(tw l++dw l).take (tw l).length=tw l:=List.take_left;rwa [X6] at this
def aic (l:List UInt8):l.drop (tw l).length=dw l:=by
 have:(tw l++dw l).drop (tw l).length=dw l:=List.drop_left;rwa [X6] at this
def X7 (l:List UInt8):(tw l).length≤l.length:=(ZE _).length_le
def afs (p:List UInt8) (h:p.length≤1000000):Gk p [47]=some (match p with|[]=>([],false)|a::r=>if a=47 then (r,true) else (a::r,false)):=by
 refine ε.eq ?_;unfold Gk Jc Jd;refine ε.ai (a:=match p with|[]=>([],false)|a::r=>if a=47 then (r,true) else (a::r,false)) (ε.eq ?_) (ε.ret rfl);cases p with
 |nil =>
  refine ε.ai (a:=false) rfl (ε.ret rfl)
 |cons a r =>
  dsimp only
  have hh:((sub (a::r) 0 (([47]:List UInt8).length:Int)) == [47])=decide (a=47):=by
   unfold sub;rw [qL];simp
  refine ε.bind (R:=(·=decide (a=47))) (ε.bind (R:=(·=decide (a=47))) (ε.bind (R:=(·=decide (a=47))) (ε.cond (by simp;omega) (ε.Ω ⟨by decide,by simp,by simp;omega⟩ (ε.ret hh))) fun v hv=>ε.ret hv) fun v hv=>ε.ret hv) fun v hv=>?_;subst hv;by_cases ha:a=47
  ·rw [if_pos ha];refine ε.cR (by simpa using ha) (ε.Ω ⟨by simp,by simp;omega,by omega⟩ (ε.ret ?_));unfold sub;simp
  ·rw [if_neg ha];exact ε.cond (by simpa using ha) (ε.ret rfl)
def pM (out:List (List UInt8)) (p:List UInt8):Option (List (List UInt8)):=match l6 p with|some l=>if 12<(out++l).length then none else some (out++l)|none=>none
def OZ (p:List UInt8) (hp:p.length≤100000):zC p=some (jZ p):=by
 refine ε.eq ?_;unfold zC jZ;by_cases h0:p=[47]
 ·rw [if_pos (by simpa using h0),if_pos h0];exact ε.ret rfl
 rw [if_neg (by simpa using h0),if_neg h0];unfold Js Jt VX;refine ε.ai rfl ?_;refine ε.bind (R:=fun r=>(∀l,pM [] p=some l→r.1=.iI∧r.2.2.2=l)∧(pM [] p=none→r.1=.ret∧r.2.1=60)) ?_ fun r hr=>?_
 ·refine ε.loop (fun s:LS×List UInt8×Int×List (List UInt8)=>s.1=.iI∧s.2.1.length≤100000∧s.2.2.2.length≤12∧pM s.2.2.2 s.2.1=pM [] p) (fun s=>s.2.1.length) ?_ _ ⟨rfl,hp,by simp,rfl⟩;rintro ⟨c,q,b,out⟩ ⟨h1,h2,h3,h4⟩;dsimp only at h1 h2 h3 h4;subst h1;unfold Ju;cases q with
  |nil =>
   refine ε.cR (by simp) (ε.out (ε.ret ⟨fun l hl=>⟨rfl,?_⟩,fun hn=>?_⟩))
   ·rw [←h4] at hl;unfold pM at hl;rw [KC] at hl;simp only [xq] at hl;rw [if_neg (by omega)] at hl;exact nn hl
   ·rw [←h4] at hn;unfold pM at hn;rw [KC] at hn;simp only [xq] at hn;rw [if_neg (by omega)] at hn;cases hn
  |cons a r =>
   refine ε.cond (by simp) (ε.ai (afs (a::r) (by omega)) ?_);dsimp only
   have IP:r.length+1≤100000:=by simpa using h2
   by_cases ha:a=47
   ·rw [if_pos ha];dsimp only;have wL:=X7 r;have rq:=L6 r;refine ε.bind (R:=(·=((tw r).length:Int))) ?_ fun v hv=>?_
    ·have rB:=(On r).1;by_cases hc:decide (mT r 47<0)=true
     ·rw [if_pos hc] at rB ⊢;exact ε.ret rB
     ·rw [if_neg hc] at rB ⊢;exact ε.ret rB
    subst hv
    have e1:sub r 0 ((tw r).length:Int)=tw r:=by unfold sub;rw [gP];exact aid r
    have e2:sub r ((tw r).length:Int) (r.length:Int)=dw r:=by unfold sub;rw [gP,gP,jK];exact aic r
    refine ε.Ω ⟨by decide,by omega,by omega⟩ (ε.Ω rfl ?_);rw [e1]
    have BH:pM out (a::r)=if f_ (tw r)=true∧out.length≠12 then pM (out++[tw r]) (dw r) else none:=by
     unfold pM;rw [Gh];by_cases hn:f_ (tw r)=true
     ·rw [if_pos ⟨ha,hn⟩];cases hs:l6 (dw r) with
      |none=>simp
      |some l =>
       simp only [Option.map_some,dj,cZ,lN,Dd,List.nil_append];by_cases ho:out.length=12
       ·rw [if_pos (by omega),if_neg (by simp [ho])]
       ·rw [if_pos (show f_ (tw r)=true∧out.length≠12 from ⟨hn,ho⟩)]
     ·rw [if_neg (fun h=>hn h.2),if_neg (fun h=>hn h.1)]
    by_cases hg:f_ (tw r)=true∧out.length≠12
    ·rw [if_pos hg] at BH;refine ε.ai (a:=(.iI,b,out++[tw r])) ?_ ?_
     ·refine ε.eq ?_;unfold BS;refine ε.bind (R:=(·=false)) (ε.bind (R:=(·=false)) (ε.cR (by simp) (ε.ai (Fm _) (ε.ret (by rw [hg.1];rfl)))) fun v hv=>ε.bind (R:=(·=false)) (by rw [hv];exact ε.cR (by simp) (ε.ret (by rw [beq_eq_false_iff_ne];have:=hg.2;omega))) fun v hv=>ε.ret hv) fun v hv=>?_;rw [hv];exact ε.cR (by simp) (ε.Ω (by simp only [cZ,ig];omega) (ε.ret rfl))
     ·refine ε.cR (by simp [LS.wP]) (ε.Ω ⟨by omega,by omega,by omega⟩ (ε.inl ⟨⟨rfl,?_,?_,?_⟩,?_⟩))
      ·dsimp only;rw [e2];omega
      ·simp only [dj,cZ,ig];have:=hg.2;omega
      ·dsimp only;rw [e2,←BH,h4]
      ·dsimp only;rw [e2,cZ];omega
    ·rw [if_neg hg] at BH;refine ε.ai (a:=(.ret,60,out)) ?_ ?_
     ·refine ε.eq ?_;unfold BS
      refine ε.bind (R:=(·=true)) (ε.bind (R:=(·=!f_ (tw r))) (ε.cR (by simp) (ε.ai (Fm _) (ε.ret rfl))) fun v hv=>ε.bind (R:=(·=true)) (by
       rw [hv];refine ε.ite (fun _=>ε.ret rfl) fun hn=>ε.ret ?_
       have hn:f_ (tw r)=true:=by simpa using hn
       have:out.length=12:=Decidable.byContradiction fun hc=>hg ⟨hn,hc⟩
       rw [this];rfl) fun v hv=>ε.ret hv) fun v hv=>?_
      rw [hv];exact ε.cond rfl (ε.ret rfl)
     ·refine ε.cond (by simp [LS.wP]) (ε.out (ε.ret ⟨fun l hl=>?_,fun _=>⟨rfl,rfl⟩⟩));rw [←h4,BH] at hl;cases hl
   ·rw [if_neg ha];dsimp only
    have BH:pM out (a::r)=none:=by unfold pM;rw [Gh,if_neg (fun h=>ha h.1)]
    have wL:=X7 (a::r);refine ε.bind (R:=(·=((tw (a::r)).length:Int))) ?_ fun v hv=>?_
    ·have rB:=(On (a::r)).1;by_cases hc:decide (mT (a::r) 47<0)=true
     ·rw [if_pos hc] at rB ⊢;exact ε.ret rB
     ·rw [if_neg hc] at rB ⊢;exact ε.ret rB
    subst hv;refine ε.Ω ⟨by decide,by omega,by omega⟩ (ε.Ω rfl ?_);refine ε.ai (a:=(.ret,60,out)) ?_ ?_
    ·refine ε.eq ?_;unfold BS
     exact ε.bind (R:=(·=true)) (ε.bind (R:=(·=true)) (ε.cond rfl (ε.ret rfl)) fun v hv=>ε.bind (R:=(·=true)) (by rw [hv];exact ε.cond rfl (ε.ret rfl)) fun v hv=>ε.ret hv) fun v hv=>by rw [hv];exact ε.cond rfl (ε.ret rfl)
    ·refine ε.cond (by simp [LS.wP]) (ε.out (ε.ret ⟨fun l hl=>?_,fun _=>⟨rfl,rfl⟩⟩));rw [←h4,BH] at hl;cases hl
 ·obtain ⟨r1,r2,r3,r4⟩:=r;obtain ⟨g1,g2⟩:=hr
  have hA:pM [] p=match l6 p with|some l=>if 12<l.length then none else some l|none=>none:=by unfold pM;simp
  rw [hA] at g1 g2;cases hs:l6 p with
  |none =>
   rw [hs] at g2;obtain ⟨e1,e2⟩:=g2 rfl;subst e1;subst e2;exact ε.cR (by simp) (ε.cond rfl (ε.ret rfl))
  |some l =>
   rw [hs] at g1 g2;dsimp only at g1 g2 ⊢;by_cases hl:12<l.length
   ·rw [if_pos (show l.length=0∨12<l.length from .inr hl)];rw [if_pos hl] at g2;obtain ⟨e1,e2⟩:=g2 rfl;subst e1;subst e2;exact ε.cR (by simp) (ε.cond rfl (ε.ret rfl))
   ·rw [if_neg hl] at g1;obtain ⟨e1,e2⟩:=g1 l rfl;subst e1;subst e2;refine ε.cond rfl ?_;by_cases MC:r4.length=0
    ·rw [if_pos (show r4.length=0∨12<r4.length from .inl MC)];exact ε.cond (by simp [MC]) (ε.ret rfl)
    ·rw [if_neg (show ¬(r4.length=0∨12<r4.length) by omega)];exact ε.cR (by simpa using MC) (ε.ret rfl)
def rO (l:List (List UInt8)):List UInt8:=if l.length=0 then [47] else [47]++kX l [47]
def Oo (a b:List UInt8) (l:List (List UInt8)):kX (a::b::l) [47]=a++[47]++kX (b::l) [47]:=by
 unfold kX;simp [Ro]
def Ot (a:List UInt8):kX [a] [47]=a:=by unfold kX;simp [Ro]
def BT {s:List UInt8} (h:f_ s=true):(∀x,x∈s→x≠47)∧1≤s.length∧s.length≤32:=by
 unfold f_ at h;simp only [bE,decide_eq_true_eq,oV,pY] at h;refine ⟨fun x hx e=>?_,h.1.1.1.1,h.1.1.1.2⟩;have:=h.2 x hx;rw [e] at this;exact this (by decide)
def Qr:∀{s r:List UInt8},(∀x,x∈s→x≠47)→(r=[]∨∃r',r=47::r')→tw (s++r)=s∧dw (s++r)=r
 |[],r,_,hr=>by rcases hr with rfl|⟨r',rfl⟩<;>exact ⟨rfl,rfl⟩
 |a::s,r,hs,hr=>by
  have ha:(a != 47)=true:=by simpa using hs a (by simp)
  obtain ⟨h1,h2⟩:=Qr (s:=s) (fun x hx=>hs x (cu _ hx)) hr;unfold tw dw at *;rw [Dd,xv,if_pos ha,List.dropWhile_cons,if_pos ha,h1,h2];exact ⟨rfl,rfl⟩
def XG:∀{l:List (List UInt8)},(∀s,s∈l→f_ s=true)→l≠[]→l6 (47::kX l [47])=some l
 |[],_,h=>absurd rfl h
 |[a],h,_=>by
  have ha:=h a (by simp);rw [Ot,Gh];have:=Qr (r:=[]) (BT ha).1 (.inl rfl);rw [xq] at this;rw [this.1,this.2,if_pos ⟨rfl,ha⟩,KC];rfl
 |a::b::l,h,_=>by
  have ha:=h a (by simp);have ih:=XG (l:=b::l) (fun s hs=>h s (cu _ hs)) (by simp);rw [Oo,Gh,lN];have:=Qr (r:=[47]++kX (b::l) [47]) (BT ha).1 (.inr ⟨_,rfl⟩);rw [this.1,this.2,if_pos ⟨rfl,ha⟩];show (l6 (47::kX (b::l) [47])).map (a::·)=_;rw [ih];rfl
def Qj {l:List (List UInt8)} (h:∀s,s∈l→f_ s=true) (hl:l.length≤12):jZ (rO l)=(l,0):=by
 unfold rO jZ;cases l with
 |nil=>rfl
 |cons a r =>
  have aP:¬(47::kX (a::r) [47]:List UInt8)=[47]:=by
   intro e;injection e with _ e;have ha:=(BT (h a (by simp))).2.1;cases r with
   |nil=>rw [Ot] at e;rw [e] at ha;simp at ha
   |cons b r=>rw [Oo] at e;simp at e
  have e:(if (a::r).length=0 then [47] else [47]++kX (a::r) [47]:List UInt8)=47::kX (a::r) [47]:=if_neg (by simp);rw [e,if_neg aP,XG h (by simp)];dsimp only;rw [if_neg (by simp only [cZ] at *;omega)]
def XH:∀(n:Nat) (p:List UInt8),p.length≤n→∀l,l6 p=some l→∀s,s∈l→f_ s=true
 |_,[],_,l,h,s,hs=>by rw [KC] at h;cases h;cases hs
 |0,_::_,hn,_,_,_,_=>by simp at hn
 |n+1,a::r,hn,l,h,s,hs=>by
  rw [Gh] at h;split at h
  ·rename_i hc;cases hx:l6 (dw r) with
   |none=>rw [hx] at h;cases h
   |some k =>
    rw [hx] at h;cases h
    rcases bf.1 hs with rfl|hs
    ·exact hc.2
    ·exact XH n (dw r) (by have:=L6 r;simp at hn;omega) k hx s hs
  ·cases h
def Gi {p:List UInt8}:(∀s,s∈(jZ p).1→f_ s=true)∧(jZ p).1.length≤12∧((jZ p).2=0∨(jZ p).2=60∧(jZ p).1=[]):=by
 have:jZ p=([],0)∨jZ p=([],60)∨∃l,l6 p=some l∧jZ p=(l,0)∧l.length≤12:=by
  unfold jZ;by_cases h0:p=[47]
  ·rw [if_pos h0];exact .inl rfl
  ·rw [if_neg h0];cases hs:l6 p with
   |none=>exact .inr (.inl rfl)
   |some l =>
    dsimp only;by_cases hl:l.length=0∨12<l.length
    ·rw [if_pos hl];exact .inr (.inl rfl)
    ·rw [if_neg hl];exact .inr (.inr ⟨l,rfl,rfl,by omega⟩)
 rcases this with h|h|⟨l,h1,h2,h3⟩
 ·rw [h];exact ⟨fun s hs=>(by cases hs),by simp,.inl rfl⟩
 ·rw [h];exact ⟨fun s hs=>(by cases hs),by simp,.inr ⟨rfl,rfl⟩⟩
 ·rw [h2];exact ⟨fun s hs=>XH _ _ (bG _) l h1 s hs,h3,.inl rfl⟩
def Oq:∀{l:List (List UInt8)},(∀s,s∈l→s.length≤32)→(kX l [47]).length≤33*l.length
 |[],_=>by simp [kX,Ro]
 |[a],h=>by rw [Ot];have:=h a (by simp);simp;omega
 |a::b::l,h=>by
  have h1:=h a (by simp);have ih:=Oq (l:=b::l) fun s hs=>h s (cu _ hs);rw [Oo];simp only [dj,cZ,ig] at *;omega
def ae' {l:List (List UInt8)} (h:∀s,s∈l→s.length≤32) (hl:l.length≤100000):Fa l=some (rO l):=by
 refine ε.eq ?_;unfold Fa rO;have:=Oq h;by_cases h0:l.length=0
 ·rw [if_pos (show l.length=0 from h0)];exact ε.cond (by simp [h0]) (ε.ret rfl)
 ·rw [if_neg (show ¬l.length=0 from h0)];exact ε.cR (by simpa using h0) (ε.Ω ⟨by omega,by omega⟩ (ε.Ω (by simp only [cZ,ig];omega) (ε.ret rfl)))
def oN (p:List UInt8):List UInt8×List UInt8×Int:=match (jZ p).1.getLast? with|some s=>(s,rO (jZ p).1.dropLast,0)|none=>([],[],60)
def afa (p:List UInt8) (hp:p.length≤100000):Fb p=some (oN p):=by
 refine ε.eq ?_;unfold Fb oN;refine ε.ai (OZ p hp) ?_;obtain ⟨h1,h2,h3⟩:=Gi (p:=p);generalize hx:jZ p=x at *;obtain ⟨l,e⟩:=x;dsimp only at h1 h2 h3 ⊢;cases l with
 |nil =>
  refine ε.bind (R:=(·=true)) (ε.bind (R:=(·=true)) (ε.ite (fun _=>ε.ret rfl) fun _=>ε.ret rfl) fun v hv=>ε.ret hv) fun v hv=>?_;rw [hv];exact ε.cond rfl (ε.ret rfl)
 |cons a r =>
  have he:e=0:=by
   rcases h3 with h|h
   ·exact h
   ·cases h.2
  subst he;refine ε.bind (R:=(·=false)) (ε.bind (R:=(·=false)) (ε.cR (by simp) (ε.ret (by rw [beq_eq_false_iff_ne];simp only [cZ];omega))) fun v hv=>ε.ret hv) fun v hv=>?_;rw [hv]
  have acu:(a::r)[r.length]?=(a::r).getLast?:=by rw [List.getLast?_eq_getElem?];rfl
  have hs:(a::r).getLast?=some ((a::r).getLast (by simp)):=List.getLast?_eq_some_getLast (by simp)
  have hi:(((a::r).length:Int)-1)=((r.length:Nat):Int):=by simp only [cZ];omega
  rw [hi,hs];refine ε.cR (by simp) (ε.Ω (by unfold Θ;simp only [cZ] at h2;omega) (ε.ai (cL (acu.trans hs)) (ε.Ω (by simp only [cZ];omega) ?_)))
  have ht:(a::r).take ((r.length:Nat):Int).toNat=(a::r).dropLast:=by rw [gP,List.dropLast_eq_take];rfl
  rw [ht];exact ε.ai (ae' (fun s hs=>(BT (h1 s (List.dropLast_subset _ hs))).2.2) (by simp at h2 ⊢;omega)) (ε.ret rfl)
def adJ {l:List (List UInt8)} (h:∀s,s∈l→f_ s=true) (hl:l.length≤12):(rO l).length≤400:=by
 unfold rO;have:=Oq (l:=l) fun s hs=>(BT (h s hs)).2.2;split
 ·simp
 ·simp only [dj,cZ,ig];omega
def ua (t:ψ):Int→List (List UInt8)→Int×Int
 |i,[]=>(i,0)
 |i,s::r=>if ((eT t i s).2 != 0)=true then (0,(eT t i s).2) else ua t (eT t i s).1 r
def qG (t:ψ) (p:List UInt8):Int×Int:=if ((jZ p).2 != 0)=true then (0,(jZ p).2) else ua t 1 (jZ p).1
def Wc {B:Nat} {t:ψ} (h:ST B t) (hB:B≤90000) (p:List UInt8) (hp:p.length≤100000):xg t p=some (qG t p):=by
 refine ε.eq ?_;unfold xg qG;refine ε.ai (OZ p hp) (ε.eG (fun _=>ε.ret rfl) fun _=>?_);have hl:=(Gi (p:=p)).2.1;generalize jZ p=x at *;obtain ⟨l,e⟩:=x;dsimp only at hl ⊢;unfold X3
 have key:∀(r:List (List UInt8)) (n:Nat) (i:Int),l.drop n=r→n≤l.length→loop (Ae (l,e) t) (i,(n:Int))=some (ua t i r):=by
  intro r;induction r with
  |nil =>
   intro n i hd hn
   have:n=l.length:=by have:=congrArg List.length hd;simp at this;omega
   subst this;refine nS ?_;unfold Ae;simp [KO,Cat.out,ua]
  |cons s r ih =>
   intro n i hd hn
   have Φ:n<l.length:=by
    rcases gI n l.length with h|h
    ·exact h
    ·rw [qP h] at hd;cases hd
   rw [xr Φ] at hd;injection hd with hx rq
   have hb:Ae (l,e) t (i,(n:Int))=if ((eT t i s).2 != 0)=true then some (.inr (0,(eT t i s).2)) else some (.inl ((eT t i s).1,((n+1:Nat):Int))):=by
    unfold Ae
    have hd:decide ((n:Int)<(l.length:Int))=true:=by simpa using Φ
    simp only [hd,if_true,cL (bU Φ),hx,cD,JE h (by omega)];split
    ·rfl
    ·rw [im (by unfold Θ;omega)];rfl
   unfold ua;by_cases hc:((eT t i s).2 != 0)=true
   ·rw [if_pos hc] at hb ⊢;exact nS hb
   ·rw [if_neg hc] at hb ⊢;rw [tu hb];exact ih (n+1) _ rq Φ
 exact ⟨_,key l 0 1 rfl (lP _),rfl⟩
end
section
section
variable {α:Type}
def BN (C:α→Option Bool) (l:List α) (s1:Int):Option (Int⊕Int):=if (decide (s1<(l.length:Int))) then (idx l s1).bind fun x1=>(C x1).bind fun x2=>if x2 then out (some s1) else Ω (Θ (s1+1)) (some (.inl ((s1+1)))) else out (some (-1))
def E1 {C:α→Option Bool} {p:α→Bool} {l:List α} (hC:∀x,x∈l→C x=some (p x)) (hl:l.length≤1000000):loop (BN C l) 0=some (oI (l.findIdx? p)):=by
 rw [OE (b:=l) p (fun n _=>(n:Int)) (-1)]
 ·cases h:l.findIdx? p with
  |none=>rfl
  |some n=>obtain ⟨x,hx,-⟩:=sO h;simp only [hx];rfl
 ·intro n x hx Φ;unfold BN
  have hd:decide ((n:Int)<(l.length:Int))=true:=by simpa using Φ
  simp only [hd,if_true,cL hx,cD,hC x (mb hx)];split
  ·rfl
  ·rw [im (by unfold Θ;omega)]
 ·unfold BN;simp [Cat.out]
def L5 (C:α→Option Bool) (s1:Int×Int×List α):Option ((Int×Int×List α)⊕(Int×List α)):=if (decide (s1.2.1<(s1.2.2.length:Int))) then ((idx s1.2.2 s1.2.1).bind fun x2=>(C x2).bind fun x3=>if (!x3) then (idx s1.2.2 s1.1).bind fun _=>Ω (Θ (s1.1+1)) (some (((s1.1+1),(s1.2.2.set s1.1.toNat x2)))) else some ((s1.1,s1.2.2))).bind fun v2=>Ω (Θ (s1.2.1+1)) (some (.inl ((v2.1,(s1.2.1+1),v2.2)))) else out (some ((s1.1,s1.2.2)))
def ahc {l:List α} {i:Nat} {x:α} (h:i<l.length):(l.set i x).take (i+1)=l.take i++[x]:=by
 rw [List.take_set,List.set_eq_take_append_cons_drop,if_pos (by simp;omega)];rw [alN,Nat.min_eq_left (by omega)];congr 1;rw [qP (by simp;omega)]
def aaH {C:α→Option Bool} {p:α→Bool} {l:List α} (hC:∀x,x∈l→C x=some (p x)) (hl:l.length≤1000000) {k:Nat} (hk:k<l.length) (hb:l.take k=(l.take (k+1)).filter fun x=>!p x) :
  ε (loop (L5 C) ((k:Int),(k:Int)+1,l)) (fun r=>∃i:Nat,r.1=i∧i≤r.2.length∧r.2.take i=l.filter fun x=>!p x):=by
 refine ε.loop (fun s:Int×Int×List α=>∃i j:Nat,s.1=i∧s.2.1=j∧i<j∧j≤l.length∧s.2.2.length=l.length∧s.2.2.take i=(l.take j).filter (fun x=>!p x)∧s.2.2.drop j=l.drop j) (fun s=>l.length-s.2.1.toNat) ?_ _ ⟨k,k+1,rfl,rfl,by omega,by omega,rfl,hb,rfl⟩;rintro ⟨s0,s1,s⟩ ⟨i,j,e1,e2,eQ,hj,hlen,ht,hd⟩;dsimp only at e1 e2 hlen ht hd;subst e1;subst e2;unfold L5;dsimp only;by_cases Φ:j<l.length
 ·have hx:s[j]?=l[j]?:=by
   have:=congrArg (fun r=>r[0]?) hd;simpa using this
  have Uq:l[j]?=some l[j]:=bU Φ;rw [Uq] at hx
  have yC:s.drop (j+1)=l.drop (j+1):=by
   have:=congrArg (List.drop 1) hd;simpa using this
  have I4:l.take (j+1)=l.take j++[l[j]]:=by rw [qT,Uq];rfl
  refine ε.cond (by simp;omega) (ε.bind (R:=fun v:Int×List α=>∃i':Nat,v.1=(i':Int)∧i'≤j+1∧i'<j+1∧v.2.length=l.length∧v.2.take i'=(l.take (j+1)).filter (fun x=>!p x)∧v.2.drop (j+1)=l.drop (j+1)) (ε.ai (cL hx) (ε.ai (hC _ (eI Φ)) ?_)) fun v hv=>?_)
  ·refine ε.ite (fun hp=>?_) fun hp=>ε.ret ⟨i,rfl,by omega,by omega,hlen,?_,yC⟩
   ·have hi:i<s.length:=by omega
    refine ε.ai (cL (bU hi)) (ε.Ω (by unfold Θ;omega) (ε.ret ⟨i+1,by dsimp only;omega,by omega,by omega,by simp [hlen],?_,?_⟩))
    ·dsimp only;rw [gP,ahc hi,ht,I4,uh,ic,if_pos hp];rfl
    ·dsimp only;rw [gP,List.drop_set_of_lt (by omega)];exact yC
   ·rw [ht,I4,uh,ic,if_neg hp];simp
  ·obtain ⟨i',h1,h2,h3,h4,h5,h6⟩:=hv;exact ε.Ω (by unfold Θ;omega) (ε.inl ⟨⟨i',j+1,h1,by dsimp only;omega,h3,Φ,h4,h5,h6⟩,by dsimp only;omega⟩)
 ·have:j=l.length:=by omega
  subst this;refine ε.cR (by simp [hlen]) (ε.out (ε.ret ⟨i,rfl,by dsimp only;omega,?_⟩));dsimp only;rw [ht,jK]
def Ss {C:α→Option Bool} {p:α→Bool} {l:List α} {z:α} (hC:∀x,x∈l→C x=some (p x)) (hl:l.length≤1000000) :
  ((loop (BN C l) 0).bind fun x1=>if (x1==(-1)) then some l else (Ω (Θ (x1+1)) (loop (L5 C) ((x1,(x1+1),l)))).bind fun v1=>Ω ((0:Int)≤v1.1∧v1.1≤(v1.2.length:Int)) (Ω ((0:Int)≤v1.1∧v1.1≤(((v1.2.take (v1.1.toNat)++ij (v1.2.length-(v1.1.toNat)) z)).length:Int)) (some ((((v1.2.take (v1.1.toNat)++ij (v1.2.length-(v1.1.toNat)) z)).take v1.1.toNat)))))=some (l.filter fun x=>!p x):=by
 refine ε.eq ?_;refine ε.ai (E1 hC hl) ?_;cases h:l.findIdx? p with
 |none =>
  refine ε.cond (by rfl) (ε.ret ?_);rw [xu] at h;symm;rw [ui];intro x hx;simp [h x hx]
 |some k =>
  rw [Lb] at h;obtain ⟨hk,EI,kT⟩:=h;show ε (if ((k:Int) == -1)=true then _ else _) _;refine ε.cR (by simp) (ε.bind (ε.Ω (by show Θ ((k:Int)+1);unfold Θ;omega) (aaH hC hl hk ?_)) fun v hv=>?_)
  ·have gC:l.take (k+1)=l.take k++[l[k]]:=by rw [qT,bU hk];rfl
   rw [gC,uh,ic,if_neg (by simp [EI])];simp only [List.filter_nil,xq];symm;rw [ui];intro x hx;obtain ⟨j,hj⟩:=tz hx;rw [gk] at hj;by_cases py:j<k
   ·rw [if_pos py] at hj;obtain ⟨h1,rfl⟩:=fh.1 hj;have:=kT j py;simpa using this
   ·rw [if_neg py] at hj;cases hj
  ·obtain ⟨i,h1,h2,h3⟩:=hv;rw [h1,gP];refine ε.Ω ⟨by omega,by omega⟩ (ε.Ω ⟨by omega,by simp;omega⟩ (ε.ret ?_));rw [←h3,List.take_append_of_le_length (by simp;omega),alN,Nat.min_self]
end
def ru (l:List ay) (i:Int):Bool:=l.any fun h=>h.ι==i
def ez (c h:Int) (x:ay):Bool:=x.aL==c&&x.bq==h
def afE (l:List ay) (i:Int) (hl:l.length≤1000000):F8 l i=some (ru l i):=by
 have h:=E1 (C:=fun x=>D5 x i) (p:=fun h=>h.ι==i) (l:=l) (fun x _=>rfl) hl;unfold F8;show ((loop (BN (fun x=>D5 x i) l) 0).bind _)=_;rw [h,cD,Ff];rfl
def afD (l:List ay) (i:Int) (hl:l.length≤1000000):BB l i=some (ru l i):=by
 have h:=E1 (C:=fun x=>EG x i) (p:=fun h=>h.ι==i) (l:=l) (fun x _=>rfl) hl;unfold BB Kp;show (((loop (BN (fun x=>EG x i) l) 0).bind _).bind _)=_;rw [h,cD,Ff];rfl
def Wq (l:List ay) (c h:Int) (hl:l.length≤1000000):Gb l (c,h)=some (oI (l.findIdx? (ez c h))):=by
 have h:=E1 (C:=fun x=>EH (c,h) x) (p:=ez c h) (l:=l) (fun x _=>by unfold EH BC ez;simp) hl;exact h
def lZ (n:τ):Bool:=n.ξ==1&&n.aZ==0
def O3 (n:τ):wF n=some (lZ n):=by
 unfold wF lZ;cases n.ξ==1<;>rfl
def afg {t:ψ} (hl:t.η.length≤1000000):BA t=some ((t.η.filter lZ).map (·.ι)):=by
 have:ND t (0,[])=some ((t.η.filter lZ).map (·.ι)):=by
  unfold ND;refine ε.eq ?_;refine ε.loop (fun s:Int×List Int=>∃n:Nat,s.1=n∧n≤t.η.length∧s.2=((t.η.take n).filter lZ).map (·.ι)) (fun s=>t.η.length-s.1.toNat) ?_ _ ⟨0,rfl,by omega,rfl⟩;rintro ⟨s0,o⟩ ⟨n,e1,hn,e2⟩;dsimp only at e1 e2;subst e1;subst e2;unfold IV;dsimp only;by_cases Φ:n<t.η.length
  ·have hx:=bU Φ
   have gC:t.η.take (n+1)=t.η.take n++[t.η[n]]:=by rw [qT,hx];rfl
   have hle:(((t.η.take n).filter lZ).map (·.ι)).length≤n:=by
    rw [az];exact fi (l_ _ _) (by simp;omega)
   refine ε.cond (by simpa using Φ) (ε.bind (R:=(·=((t.η.take (n+1)).filter lZ).map (·.ι))) (ε.ai (cL hx) (ε.ai (O3 _) (ε.ite (fun h=>ε.Ω (by simp only [cZ,ig];omega) (ε.ret ?_)) fun h=>ε.ret ?_))) fun v hv=>ε.Ω (by unfold Θ;omega) (ε.inl ⟨⟨n+1,by dsimp only;omega,Φ,hv⟩,by dsimp only;omega⟩))
   ·rw [gC,uh,fu,ic,if_pos h];rfl
   ·rw [gC,uh,fu,ic,if_neg h];simp
  ·have:n=t.η.length:=by omega
   subst this;exact ε.cR (by simp) (ε.out (ε.ret (by rw [jK])))
 unfold BA;rw [this];rfl
def Sc {l:List ay} (hl:l.length≤1000000):FZ l=some l:=sF (by omega)
def HG {l:List aA} (hl:l.length≤1000000):Aa l=some l:=sF (by omega)
def cH (c h:Int) (x:ay):Int:=if gS x.aL c≠0 then gS x.aL c else gS x.bq h
def afo (c h:Int) (x:ay) (k:Int×Int):yY (c,h) x k=some (cH c h x):=by
 refine ε.eq ?_;unfold yY BC;refine ε.ai rfl (ε.ai (xe _ _) (ε.ai (xe _ _) (ε.ai (a:=cH c h x) ?_ (ε.ret rfl))));dsimp only;unfold HH Sh cH;generalize gS x.aL c=a;generalize gS x.bq h=b;by_cases ha:a≠0
 ·rw [if_pos ha];refine nS ?_;unfold vY;simp [idx,ha,Cat.out]
 ·have ha:a=0:=Decidable.of_not_not ha;subst ha;rw [if_neg (by simp)];refine (tu (s':=1) ?_).trans ?_
  ·unfold vY;simp [idx];rw [im (by unfold Θ;omega)]
  ·by_cases hb:b=0
   ·subst hb;refine (tu (s':=2) ?_).trans (nS ?_)
    ·unfold vY;simp [idx];rw [im (by unfold Θ;omega)]
    ·unfold vY;simp [HI,Cat.out]
   ·refine nS ?_;unfold vY;simp [idx,hb,Cat.out]
end
end Go.Proofs
