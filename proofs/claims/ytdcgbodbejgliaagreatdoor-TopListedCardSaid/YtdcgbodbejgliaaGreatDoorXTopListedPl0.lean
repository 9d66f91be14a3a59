/- The plain law, piece 0. No condition. -/
import Derived.Test.YtdcgbodbejgliaaGreatDoorXTopListedSp
import Derived.IntWalk
open Bool renaming and_eq_true → bM, not_eq_true' → my, or_eq_true → qT, false_eq_true → rX, not_false → zw, eq_false_iff → GV, not_eq_true → CE, and_false → ahB
open Decidable renaming byContradiction → GZ
open Go.Op renaming bytesLess → eZ
open Int renaming toNat_natCast → jH, le_refl → qU, tmod → CM, natCast_nonneg → VY, mul_le_mul → Of, mul_add → Oe
open List renaming length_map → au, getElem?_eq_getElem → bO, mem_cons_of_mem → cu, mem_cons → bp, map_append → bP, length_cons → cr, length_append → cZ, length_take → da, getElem?_eq_some_iff → fX, length_nil → dK, mem_singleton → dV, mem_filter → dU, mem_map → cV, getElem?_take → fo, getElem_mem → eH, replicate → gl, mem_of_getElem? → iN, pairwise_cons → iy, getElem?_drop → gJ, map_cons → eT, filter_cons → j5, take_length → kI, drop_eq_nil_of_le → kH, mem_append → iY, length_filter_le → nv, length_eq_zero_iff → p0, filter_append → oe, map_congr_left → oX, drop_eq_getElem_cons → pZ, pairwise_iff_getElem → zC, getElem?_map → nu, mem_append_left → p4, findIdx?_eq_none_iff → w9, mem_of_find?_eq_some → uq, findIdx?_eq_some_iff_getElem → G7, nil_append → w_, sum_cons → mz, take_append_drop → p5, append_assoc → oV, append_nil → sd, pairwise_singleton → zD, any_eq_false → um, filter_eq_self → w8, countP_cons → uo, mem_iff_getElem? → Oy, takeWhile_cons → zF, cons_append → wZ, pairwise_map → G9, map_map → G8, dropLast_concat_getLast → Om, length_filter_lt_length_iff_exists → V_, sum_append → CR, find?_eq_none → G6, take_add_one → OC, nodup_append → Oz, getElem?_eq_none → Oq, map_nil → Ow, find?_cons → G5, getElem!_eq_getElem?_getD → V6, mem_of_mem_take → Wa, take_append_of_le_length → Wc, countP_pos_iff → Ol, perm_ext_iff_of_nodup → Wb, any_eq_true → V1, intercalate → Ou, foldl_cons → ahA, find?_some → Oo, length_dropLast → V9, dropLast_subset → V4, sum_nil → OA, drop_length → V5, take_take → ahC
open List.Pairwise renaming nil → pY, filter → Oi
open List.Perm renaming append_left → Oj, of_eq → V0
open Nat renaming le_refl → bm, le_trans → dN, lt_or_ge → eY, zero_le → hZ, eq_zero_or_pos → nw, min_eq_left → ur, lt_trichotomy → OG
open Ne renaming symm → jJ
open Option renaming bind_some → aX, isSome_iff_exists → xd, map_some → CT
open Option.some renaming inj → j7
open UInt8 renaming not_lt → He, toNat_inj → OK, lt_iff_toNat_lt → Wo, le_antisymm → Wn, lt_irrefl → Wp
namespace Go.Proofs
set_option linter.all false
open Go Go.Cat
section
set_option linter.all false
end
section
def ε.xr {β σ ρ:Type} {l:List β} {B:σ→Option (σ⊕ρ)} (cM:σ→Int) (I:Nat→σ→Prop) {Q:ρ→Prop}
  (h1:∀(n:Nat) (x:β) (a:σ),n<l.length→l[n]?=some x→cM a=n→I n a→ε (B a) (kM (fun s=>cM s=(n:Int)+1∧I (n+1) s) Q))
  (h2:∀a,cM a=l.length→I l.length a→ε (B a) (kM (fun _=>False) Q)) (a:σ) (hc:cM a=0) (h0:I 0 a):ε (Cat.loop B a) Q:=by
 refine ε.loop (fun s:σ=>∃n:Nat,cM s=n∧n≤l.length∧I n s) (fun s=>l.length+1-(cM s).toNat) ?_ a ⟨0,hc,hZ _,h0⟩;rintro a ⟨n,ya,hn,hi⟩
 rcases eY n l.length with Ξ|eC
 ·refine (h1 n _ a Ξ (bO Ξ) ya hi).mono fun y hy=>?_;cases y with
  |inl s=>exact ⟨⟨n+1,hy.1,Ξ,hy.2⟩,by show l.length+1-(cM s).toNat<_;rw [hy.1];omega⟩
  |inr r=>exact hy
 ·obtain rfl:n=l.length:=by omega
  refine (h2 a ya hi).mono fun y hy=>?_;cases y with
  |inl s=>exact hy.elim
  |inr r=>exact hy
def drop_cons {α:Type} {l:List α} {n:Nat} {x:α} (hx:l[n]?=some x):l.drop n=x::l.drop (n+1):=by
 obtain ⟨h3,rfl⟩:=fX.1 hx;exact pZ h3
def sN {α:Type} {l:List α} {p:α→Bool} {n:Nat} (h:l.findIdx? p=some n):∃x,l[n]?=some x∧l.find? p=some x∧p x=true:=by
 obtain ⟨hn,hp,hb⟩:=G7.1 h;refine ⟨l[n],bO hn,?_,hp⟩;rw [List.find?_eq_some_iff_getElem];exact ⟨hp,n,hn,rfl,fun j hj=>by simpa using hb j hj⟩
def Dv {α:Type} {l:List α} {p:α→Bool} (h:l.findIdx? p=none):l.find? p=none:=by
 rw [w9] at h;rw [G6];intro x hx;simp [h x hx]
def oI:Option Nat→Int
 |some k=>k
 |none=>-1
def SE (o:Option Nat):decide (oI o≥0)=o.isSome:=by cases o<;>simp [oI]
def SD (o:Option Nat):decide (oI o<0)=!o.isSome:=by
 cases o with
 |none=>rfl
 |some n=>show decide ((n:Int)<0)=false;rw [decide_eq_false_iff_not];omega
def oK:ψ:=⟨0,0,0,[],[],0⟩
def gN (l:List ψ) (i:Int):Option ψ:=l.find? (fun n=>n.κ==i)
def gD (l:List ψ) (i:Int):ψ:=(gN l i).getD oK
def dS {l:List ψ} {i:Int} {n:ψ} (h:gN l i=some n):n∈l∧n.κ=i:=⟨uq h,by simpa using Oo h⟩
def II {l:List ψ} {i:Int}:gN l i=none↔∀n,n∈l→n.κ≠i:=by
 unfold gN;rw [G6];simp
def acR (t:Φ) (i:Int) (hl:t.ι.length≤1000000):BJ t i=some (oI (t.ι.findIdx? (fun n=>n.κ==i))):=by
 unfold BJ Tr;have:=A' (b:=t.ι) (B:=yK t i) (fun n=>n.κ==i) (fun n _=>(n:Int)) (-1) ?_ ?_
 ·rw [this];refine congrArg some ?_;cases h:t.ι.findIdx? (fun n=>n.κ==i) with
  |none=>rfl
  |some n =>
   obtain ⟨x,hx,-⟩:=sN h;dsimp only;rw [hx];rfl
 ·intro n x hx hn;unfold yK;rw [if_pos (by simpa using hn),bd hx,aX,ee (by unfold Ψ;omega)];rfl
 ·unfold yK;rw [if_neg (by simp)];rfl
def gX (t:Φ) (i:Int) (hl:t.ι.length≤1000000):fU t i=some (gD t.ι i,(gN t.ι i).isSome):=by
 unfold fU;rw [acR t i hl,aX];unfold gD gN;cases h:t.ι.findIdx? (fun n=>n.κ==i) with
 |none=>rw [Dv h];rfl
 |some n =>
  obtain ⟨x,hx,hf,-⟩:=sN h;rw [hf];rw [SD,if_neg (by simp)];show (idx _ (n:Int)).bind _=_;rw [bd hx];rfl
def db (l:List ψ) (i:Int):ψ×Int:=if (gN l i).isSome then (if (gD l i).Ω != 2 then (oK,73) else (gD l i,0)) else (oK,70)
def E5 (t:Φ) (i:Int) (hl:t.ι.length≤1000000):tQ t i=some (db t.ι i):=by
 unfold tQ db;rw [gX t i hl,aX];dsimp only;cases (gN t.ι i).isSome with
 |false=>rfl
 |true=>rw [if_neg (by simp),if_pos rfl];split<;>rfl
def d_ (s:List UInt8):Bool:=decide (1≤s.length)&&decide (s.length≤32)&&!(s == [46])&&!(s == [46,46])&&!(s.any fun x=>decide ((x.toNat:Int)<32)||(x.toNat:Int)==47)
def E6 (s:List UInt8):tJ s=some (d_ s):=by
 unfold tJ d_ Tc;by_cases h1:s.length<1
 ·rw [if_pos (by simp;omega)];simp;omega
 by_cases h2:s.length>32
 ·rw [if_neg (by simp;omega),aX,if_pos (by simp;omega)];simp;omega
 rw [if_neg (by simp;omega),aX,if_neg (by simp;omega),aX];by_cases h3:(s == [46,46])=true
 ·have:s=[46,46]:=by simpa using h3
  subst this;simp
 by_cases h4:(s == [46])=true
 ·have:s=[46]:=by simpa using h4
  subst this;simp
 rw [CE] at h3 h4;simp only [h3,h4,rX,if_false,aX];have:=A' (b:=s) (B:=yD s) (fun x=>decide ((x.toNat:Int)<32)||(x.toNat:Int)==47) (fun _ _=>false) true ?_ ?_
 ·rw [this];refine congrArg some ?_
  have e1:decide (1≤s.length)=true:=by simp;omega
  have e2:decide (s.length≤32)=true:=by simp;omega
  rw [e1,e2];cases h:s.findIdx? (fun x=>decide ((x.toNat:Int)<32)||(x.toNat:Int)==47) with
  |none =>
   have:(s.any fun x=>decide ((x.toNat:Int)<32)||(x.toNat:Int)==47)=false:=by
    rw [um];rw [w9] at h;intro x hx;simp [h x hx]
   rw [this];rfl
  |some n =>
   obtain ⟨x,hx,-,hp⟩:=sN h;dsimp only;rw [hx,V1.2 ⟨x,iN hx,hp⟩];rfl
 ·intro n x hx hn;unfold yD;rw [if_pos (by simpa using hn),bd hx];simp only [aX];by_cases h5:(x.toNat:Int)<32
  ·simp [h5];rfl
  ·simp only [decide_eq_false h5,rX,if_false,aX,Bool.false_or];rw [ee (by unfold Ψ;omega)];rfl
 ·unfold yD;rw [if_neg (by simp)];rfl
def qH (l:List aJ) (s:List UInt8):Option Nat:=l.findIdx? (fun e=>e.aR==s)
def Li (n:ψ) (s:List UInt8) (hl:n.ae.length≤1000000):wj n s=some (oI (qH n.ae s)):=by
 unfold wj Tq qH;have:=A' (b:=n.ae) (B:=yJ n s) (fun e=>e.aR==s) (fun n _=>(n:Int)) (-1) ?_ ?_
 ·rw [this];refine congrArg some ?_;cases h:n.ae.findIdx? (fun e=>e.aR==s) with
  |none=>rfl
  |some n =>
   obtain ⟨x,hx,-⟩:=sN h;dsimp only;rw [hx];rfl
 ·intro k x hx hn;unfold yJ;rw [if_pos (by simpa using hn),bd hx,aX,ee (by unfold Ψ;omega)];rfl
 ·unfold yJ;rw [if_neg (by simp)];rfl
def fO (l:List ψ):Nat→Int→Nat
 |0,_=>0
 |f+1,i=>if i=1 then 0 else fO l f (gD l i).Up+1
def HS (l:List ψ) (f:Nat) (i:Int):fO l (f+1) i=if i=1 then 0 else fO l f (gD l i).Up+1:=rfl
def HR (l:List ψ):∀f i,fO l f i≤f
 |0,_=>bm _
 |f+1,i=>by unfold fO;split;omega;have:=HR l f (gD l i).Up;omega
def Lf (t:Φ) (i:Int) (hl:t.ι.length≤1000000):rP t i=some (fO t.ι 201 i:Int):=by
 unfold rP Tl
 have key:∀(f:Nat) (i d:Int),0≤d→d+f=201→loop (wh t) (i,d)=some (d+fO t.ι f i):=by
  intro f;induction f with
  |zero =>
   intro i d h0 h1;refine nV ?_;unfold wh
   have:¬d≤200:=by omega
   have e:(fO t.ι 0 i:Int)=0:=rfl;rw [e,Int.add_zero];by_cases hi:i=1<;>simp [hi,this]<;>rfl
  |succ f ih =>
   intro i d h0 h1;by_cases hi:i=1
   ·subst hi;rw [nV (r:=d)]
    ·simp [fO]
    ·unfold wh;simp;rfl
   ·rw [vX (s':=((gD t.ι i).Up,d+1)),ih _ _ (by omega) (by omega)]
    ·rw [HS,if_neg hi];refine congrArg some ?_;omega
    ·unfold wh
     have:d≤200:=by omega
     have bj:(i != 1)=true:=by simpa using hi
     simp only [bj,this,decide_true,if_true,aX];rw [gX t i hl,aX,ee (by unfold Ψ;omega)]
 rw [key 201 i 0 (by omega) (by omega),aX];simp
def uF (l:List ψ) (o:Int):Nat→Int→Bool
 |0,_=>false
 |f+1,i=>if i==o then true else if i==1 then false else uF l o f (gD l i).Up
def lj (l:List ψ) (i o:Int):Bool:=uF l o (l.length+1) i
def S4 (t:Φ) (i o:Int) (hl:t.ι.length≤1000000):yF t i o=some (lj t.ι i o):=by
 unfold yF Te lj
 have key:∀(f:Nat) (i d:Int),0≤d→d+f=t.ι.length+1→loop (tL t o) (i,d)=some (uF t.ι o f i):=by
  intro f;induction f with
  |zero =>
   intro i d h0 h1;refine nV ?_;unfold tL;rw [if_neg (by simp;omega)];rfl
  |succ f ih =>
   intro i d h0 h1;unfold uF;by_cases h2:(i==o)=true
   ·rw [if_pos h2];refine nV ?_;unfold tL;rw [if_pos (by simp;omega),if_pos h2];rfl
   by_cases h3:(i==1)=true
   ·rw [if_neg h2,if_pos h3];refine nV ?_;unfold tL;rw [if_pos (by simp;omega),if_neg h2,if_pos h3];rfl
   rw [if_neg h2,if_neg h3,vX (s':=((gD t.ι i).Up,d+1)),ih _ _ (by omega) (by omega)];unfold tL;rw [if_pos (by simp;omega),if_neg h2,if_neg h3,gX t i hl,aX,ee (by unfold Ψ;omega)]
 exact key _ i 0 (by omega) (by omega)
def cz (n:ψ):List ψ→List ψ
 |[]=>[n]
 |x::r=>if x.κ≥n.κ then n::(x::r).filter (fun y=>y.κ != n.κ) else x::cz n r
def yz (n x:ψ) (r:List ψ):cz n (x::r)=if x.κ≥n.κ then n::(x::r).filter (fun y=>y.κ != n.κ) else x::cz n r:=rfl
def KV (n:ψ):∀l,(cz n l).length≤l.length+1
 |[]=>bm _
 |x::r=>by
  unfold cz;split
  ·have:=nv (fun y:ψ=>y.κ != n.κ) (x::r);simp only [cr] at *;omega
  ·have:=KV n r;simp only [cr];omega
def wb (t:Φ) (n:ψ) (hl:t.ι.length≤1000000):oO t n=some ⟨cz n t.ι,t.Next,t.ar⟩:=by
 refine ε.eq ?_;unfold oO Ts;refine ε.bind (R:=fun v:Bool×List ψ=>(if v.1 then v.2 else v.2++[n])=cz n t.ι∧v.2.length≤1000001) ?_ fun v hv=>?_
 ·refine ε.xr (l:=t.ι) (fun s:Bool×Int×List ψ=>s.2.1) (fun k s=>(if s.1 then s.2.2++(t.ι.drop k).filter (fun y=>y.κ != n.κ) else s.2.2++cz n (t.ι.drop k))=cz n t.ι∧s.2.2.length≤k+(if s.1 then 1 else 0)) (fun k x s Ξ hx hc hi=>?_) (fun s hc hi=>?_) _ rfl ⟨by simp,by simp⟩
  ·obtain ⟨d,c,o⟩:=s;dsimp only at hc hi ⊢;subst hc;obtain ⟨he,hlen⟩:=hi;rw [drop_cons hx] at he;unfold BK;refine ε.cond (by simpa using Ξ) ?_;dsimp only;rw [bd hx];simp only [aX];cases d with
   |true =>
    simp only [Bool.not_true,rX,if_false,aX,if_true] at *;rw [j5] at he;by_cases aS:(x.κ != n.κ)=true
    ·rw [if_pos aS] at he ⊢;exact ε.ay (ee (by simp only [cr,dK];omega)) (ε.τ (by unfold Ψ;omega) (ε.inl ⟨rfl,by simpa using he,by simp;omega⟩))
    ·rw [if_neg aS] at he ⊢;exact ε.ay rfl (ε.τ (by unfold Ψ;omega) (ε.inl ⟨rfl,by simpa using he,by simp;omega⟩))
   |false =>
    simp only [zw,rX,if_true,if_false,aX] at *;rw [yz] at he;by_cases eC:x.κ≥n.κ
    ·rw [if_pos eC,j5] at he;simp only [eC,decide_true,if_true];rw [ee (by simp only [cr,dK];omega),aX];by_cases aS:(x.κ != n.κ)=true
     ·rw [if_pos aS] at he ⊢;exact ε.ay (ee (by simp only [cZ,cr,dK];omega)) (ε.τ (by unfold Ψ;omega) (ε.inl ⟨rfl,by simpa using he,by simp;omega⟩))
     ·rw [if_neg aS] at he ⊢;exact ε.ay rfl (ε.τ (by unfold Ψ;omega) (ε.inl ⟨rfl,by simpa using he,by simp;omega⟩))
    ·rw [if_neg eC] at he
     have aS:(x.κ != n.κ)=true:=by simp;omega
     simp only [eC,decide_false,rX,if_false,aX];rw [if_pos aS];exact ε.ay (ee (by simp only [cr,dK];omega)) (ε.τ (by unfold Ψ;omega) (ε.inl ⟨rfl,by simpa using he,by simp;omega⟩))
  ·obtain ⟨d,c,o⟩:=s;dsimp only at hc hi ⊢;subst hc;obtain ⟨he,hlen⟩:=hi;rw [V5] at he;unfold BK;refine ε.bf (by simp) (ε.out (ε.ret ⟨?_,?_⟩))
   ·cases d<;>simpa [cz] using he
   ·dsimp only;split at hlen<;>omega
 ·obtain ⟨d,o⟩:=v;obtain ⟨he,hlen⟩:=hv;dsimp only at he hlen ⊢;cases d with
  |true=>exact ε.ret (by simp only [if_true] at he;rw [←he])
  |false =>
   simp only [rX,if_false] at he;simp only [zw,if_true];exact ε.ay (ee (by simp only [cr,dK];omega)) (ε.ret (by rw [←he]))
def S' (t:Φ) (i:Int) (hl:t.ι.length≤1000000):yL t i=some ⟨t.ι.filter (fun x=>x.κ != i),t.Next,t.ar⟩:=by
 refine ε.eq ?_;unfold yL Tt;refine ε.bind (R:=(·=t.ι.filter (fun x=>x.κ != i))) ?_ fun v hv=>ε.ret (by rw [hv]);refine ε.each (l:=t.ι) (fun k a=>a=(t.ι.take k).filter (fun x=>x.κ != i)) (fun k x a Ξ hx ha=>?_) (fun a ha=>?_) _ rfl
 ·unfold BL
  have aW:a.length≤k:=by rw [ha];exact dN (nv _ _) (by rw [da];omega)
  refine ε.cond (by simpa using Ξ) ?_;dsimp only;rw [bd hx,aX];by_cases aS:(x.κ != i)=true
  ·rw [if_pos aS];exact ε.ay (ee (by simp only [cr,dK];omega)) (ε.τ (by unfold Ψ;omega) (ε.inl ⟨rfl,by rw [kC hx,oe,←ha];simp [aS]⟩))
  ·rw [if_neg aS];exact ε.ay rfl (ε.τ (by unfold Ψ;omega) (ε.inl ⟨rfl,by rw [kC hx,oe,←ha];simp [aS]⟩))
 ·unfold BL;rw [kI] at ha;exact ε.bf (by simp) (ε.out (ε.ret ha))
def ku (e:aJ):List aJ→List aJ
 |[]=>[e]
 |x::r=>if (!(eZ x.aR e.aR||x.aR==e.aR))=true then e::x::r else x::ku e r
def A5 (e x:aJ) (r:List aJ):ku e (x::r)=if (!(eZ x.aR e.aR||x.aR==e.aR))=true then e::x::r else x::ku e r:=rfl
def Kd (e:aJ):∀l,(ku e l).length=l.length+1
 |[]=>rfl
 |x::r=>by unfold ku;split;rfl;simp only [cr,Kd e r]
def nF (t:Φ) (i:Int) (s:List UInt8) (o:Int):Φ:=⟨cz ⟨(gD t.ι i).κ,(gD t.ι i).Ω,(gD t.ι i).a_,(gD t.ι i).aP,ku ⟨s,o,t.ar⟩ (gD t.ι i).ae,(gD t.ι i).Up⟩ t.ι,t.Next,t.ar+1⟩
def Lg (t:Φ) (i:Int) (s:List UInt8) (o:Int) (hl:t.ι.length≤1000000) (he:(gD t.ι i).ae.length≤1000000) (hc:0≤t.ar∧t.ar≤10000000000000):tT t i s o=some (nF t i s o):=by
 refine ε.eq ?_;unfold tT Tm;refine ε.ay (gX t i hl) ?_;refine ε.bind (R:=fun v:Bool×List aJ=>(if v.1 then v.2 else v.2++[⟨s,o,t.ar⟩])=ku ⟨s,o,t.ar⟩ (gD t.ι i).ae∧v.2.length≤1000001) ?_ fun v hv=>?_
 ·refine ε.xr (l:=(gD t.ι i).ae) (fun s:Bool×Int×List aJ=>s.2.1) (fun k a=>(if a.1 then a.2.2++((gD t.ι i).ae.drop k) else a.2.2++ku ⟨s,o,t.ar⟩ ((gD t.ι i).ae.drop k))=ku ⟨s,o,t.ar⟩ (gD t.ι i).ae∧a.2.2.length≤k+(if a.1 then 1 else 0)) (fun k x a Ξ hx hc hi=>?_) (fun a hc hi=>?_) _ rfl ⟨by simp,by simp⟩
  ·obtain ⟨d,c,u⟩:=a;dsimp only at hc hi ⊢;subst hc;obtain ⟨he,hlen⟩:=hi;rw [drop_cons hx] at he;unfold BE;refine ε.cond (by simpa using Ξ) ?_;dsimp only;rw [bd hx];simp only [aX];cases d with
   |true =>
    simp only [Bool.not_true,rX,if_false,aX,if_true] at *;exact ε.τ (by simp only [cr,dK];omega) (ε.τ (by unfold Ψ;omega) (ε.inl ⟨rfl,by simpa using he,by simp;omega⟩))
   |false =>
    simp only [zw,rX,if_true,if_false,aX] at *;rw [A5] at he;by_cases eC:(!(eZ x.aR s||x.aR==s))=true
    ·rw [if_pos eC] at he ⊢;rw [ee (by simp only [cr,dK];omega),aX];exact ε.τ (by simp only [cZ,cr,dK];omega) (ε.τ (by unfold Ψ;omega) (ε.inl ⟨rfl,by simpa using he,by simp;omega⟩))
    ·rw [if_neg eC] at he ⊢;rw [aX];exact ε.τ (by simp only [cr,dK];omega) (ε.τ (by unfold Ψ;omega) (ε.inl ⟨rfl,by simpa using he,by simp;omega⟩))
  ·obtain ⟨d,c,u⟩:=a;dsimp only at hc hi ⊢;subst hc;obtain ⟨he,hlen⟩:=hi;rw [V5] at he;unfold BE;refine ε.bf (by simp) (ε.out (ε.ret ⟨?_,?_⟩))
   ·cases d<;>simpa [ku] using he
   ·dsimp only;split at hlen<;>omega
 ·obtain ⟨d,u⟩:=v;obtain ⟨he,hlen⟩:=hv;dsimp only at he hlen ⊢
  have e2:(if (!d)=true then τ ((u.length+[(⟨s,o,t.ar⟩:aJ)].length)*32≤140737488355328) (some (u++[(⟨s,o,t.ar⟩:aJ)])) else some u)=some (ku ⟨s,o,t.ar⟩ (gD t.ι i).ae):=by
   cases d with
   |true=>simp only [if_true] at he;rw [←he];rfl
   |false=>simp only [rX,if_false] at he;simp only [zw,if_true];rw [ee (by simp only [cr,dK];omega),he]
  exact ε.ay e2 (ε.τ (by unfold Ψ;omega) (ε.ay (wb _ _ hl) (ε.ret rfl)))
def fz (t:Φ) (i:Int) (s:List UInt8):Φ:=⟨cz ⟨(gD t.ι i).κ,(gD t.ι i).Ω,(gD t.ι i).a_,(gD t.ι i).aP,(gD t.ι i).ae.filter (fun e=>!(e.aR==s)),(gD t.ι i).Up⟩ t.ι,t.Next,t.ar⟩
def Lh (t:Φ) (i:Int) (s:List UInt8) (hl:t.ι.length≤1000000) (he:(gD t.ι i).ae.length≤1000000):tU t i s=some (fz t i s):=by
 refine ε.eq ?_;unfold tU Tp;refine ε.ay (gX t i hl) ?_;refine ε.bind (R:=(·=(gD t.ι i).ae.filter (fun e=>!(e.aR==s)))) ?_ fun v hv=>ε.ay (wb _ _ hl) (ε.ret (by rw [hv];rfl));refine ε.each (l:=(gD t.ι i).ae) (fun k a=>a=((gD t.ι i).ae.take k).filter (fun e=>!(e.aR==s))) (fun k x a Ξ hx ha=>?_) (fun a ha=>?_) _ rfl
 ·unfold BI
  have aW:a.length≤k:=by rw [ha];exact dN (nv _ _) (by rw [da];omega)
  refine ε.cond (by simpa using Ξ) ?_;dsimp only;rw [bd hx,aX];by_cases aS:(!(x.aR==s))=true
  ·rw [if_pos aS];exact ε.ay (ee (by simp only [cr,dK];omega)) (ε.τ (by unfold Ψ;omega) (ε.inl ⟨rfl,by rw [kC hx,oe,←ha,j5,if_pos aS];rfl⟩))
  ·rw [if_neg aS];exact ε.ay rfl (ε.τ (by unfold Ψ;omega) (ε.inl ⟨rfl,by rw [kC hx,oe,←ha,j5,if_neg aS];simp⟩))
 ·unfold BI;rw [kI] at ha;exact ε.bf (by simp) (ε.out (ε.ret ha))
end
section
def bo {a b:Bool} {x:Option Bool} (h:a=false→x=some b):(if a=true then some true else x)=some (a||b):=by
 cases a with
 |true=>rfl
 |false=>rw [if_neg (by simp),h rfl];rfl
def ba {a b:Bool} {x:Option Bool} (h:a=true→x=some b):(if a=true then x else some false)=some (a&&b):=by
 cases a with
 |true=>rw [if_pos rfl,h rfl];rfl
 |false=>rfl
structure TF (B:Nat) (t:Φ):Prop where
 n:t.ι.length≤B
 e:∀n,n∈t.ι→n.ae.length≤B
 l:∀n,n∈t.ι→-(B:Int)≤n.a_∧n.a_≤B
 c:0≤t.ar∧t.ar≤B
 x:0≤t.Next∧t.Next≤B
def TF.up {B C:Nat} {t:Φ} (h:TF B t) (hC:B≤C):TF C t :=
 ⟨dN h.n hC,fun n hn=>dN (h.e n hn) hC,fun n hn=>by have:=h.l n hn;omega,by have:=h.c;omega,by have:=h.x;omega⟩
def xC (l:List ψ) (i:Int):gD l i∈l∨gD l i=oK:=by
 unfold gD;cases h:gN l i with
 |none=>exact .inr rfl
 |some n=>exact .inl (dS h).1
def TF.gE {B:Nat} {t:Φ} (h:TF B t) (i:Int):(gD t.ι i).ae.length≤B:=by
 rcases xC t.ι i with h1|h1
 ·exact h.e _ h1
 ·rw [h1];exact hZ _
def TF.gL {B:Nat} {t:Φ} (h:TF B t) (i:Int):-(B:Int)≤(gD t.ι i).a_∧(gD t.ι i).a_≤B:=by
 rcases xC t.ι i with h1|h1
 ·exact h.l _ h1
 ·rw [h1];show -(B:Int)≤0∧(0:Int)≤B;omega
def S2 {n x:ψ}:∀{l:List ψ},x∈cz n l→x=n∨(x∈l∧x.κ≠n.κ)∨(x∈l∧x.κ<n.κ)
 |[],h=>by simp [cz] at h;exact .inl h
 |y::r,h=>by
  rw [yz] at h;split at h
  ·rcases bp.1 h with h|h
   ·exact .inl h
   ·obtain ⟨h1,h2⟩:=dU.1 h;exact .inr (.inl ⟨h1,by simpa using h2⟩)
  ·next Ξ =>
   rcases bp.1 h with h|h
   ·exact .inr (.inr ⟨by rw [h];simp,by rw [h];omega⟩)
   ·rcases S2 h with h|h|h
    ·exact .inl h
    ·exact .inr (.inl ⟨cu _ h.1,h.2⟩)
    ·exact .inr (.inr ⟨cu _ h.1,h.2⟩)
def rO {n x:ψ} {l:List ψ} (h:x∈cz n l):x=n∨(x∈l∧x.κ≠n.κ):=by
 rcases S2 h with h|h|h
 ·exact .inl h
 ·exact .inr h
 ·exact .inr ⟨h.1,by have:=h.2;omega⟩
def TF.put {B:Nat} {t:Φ} (h:TF B t) {n:ψ} (h1:n.ae.length≤B+1) (h2:-(B+1:Int)≤n.a_∧n.a_≤B+1) {x c:Int} (hx:0≤x∧x≤B+1) (hc:0≤c∧c≤B+1):TF (B+1) ⟨cz n t.ι,x,c⟩:=by
 refine ⟨dN (KV n t.ι) (Nat.succ_le_succ h.n),fun y hy=>?_,fun y hy=>?_,hc,hx⟩
 ·rcases rO hy with rfl|⟨hy,-⟩
  ·exact h1
  ·have:=h.e _ hy;omega
 ·rcases rO hy with rfl|⟨hy,-⟩
  ·exact h2
  ·have:=h.l _ hy;omega
def TF.drop {B:Nat} {t:Φ} (h:TF B t) (i:Int):TF B ⟨t.ι.filter (fun x=>x.κ != i),t.Next,t.ar⟩ :=
 ⟨dN (nv _ _) h.n,fun y hy=>h.e _ (dU.1 hy).1,fun y hy=>h.l _ (dU.1 hy).1,h.c,h.x⟩
def TF.re {B:Nat} {t:Φ} (h:TF B t) (i:Int) (s:List UInt8) (o:Int):TF (B+1) (nF t i s o):=by
 have h1:=h.gE i;have h2:=h.gL i;have h3:=h.c;have h4:=h.x;exact h.put (by rw [Kd];omega) (by dsimp only;omega) (by omega) (by omega)
def TF.nj {B:Nat} {t:Φ} (h:TF B t) (i:Int) (s:List UInt8):TF (B+1) (fz t i s):=by
 have h1:=h.gE i;have h2:=h.gL i;have h3:=h.c;have h4:=h.x;exact h.put (dN (nv _ _) (by omega)) (by dsimp only;omega) (by omega) (by omega)
def jG (t:Φ) (i:Int):Φ:=if ((gD t.ι i).Ω==2)=true then ⟨t.ι.filter (fun x=>x.κ != i),t.Next,t.ar⟩ else ⟨cz ⟨(gD t.ι i).κ,(gD t.ι i).Ω,(gD t.ι i).a_-1,(gD t.ι i).aP,(gD t.ι i).ae,(gD t.ι i).Up⟩ t.ι,t.Next,t.ar⟩
def TF.un {B:Nat} {t:Φ} (h:TF B t) (i:Int):TF (B+1) (jG t i):=by
 have h1:=h.gE i;have h2:=h.gL i;have h3:=h.c;have h4:=h.x;unfold jG;split
 ·exact (h.drop i).up (by omega)
 ·exact h.put (by dsimp only;omega) (by dsimp only;omega) (by omega) (by omega)
section
variable {B:Nat} {t:Φ}
def S9 (h:TF B t) (hB:B≤100000) (i:Int):wo t i=some (jG t i):=by
 have h1:=h.n;have h2:=h.gL i;unfold wo jG;rw [gX t i (by omega),aX];dsimp only;split
 ·rw [S' t i (by omega)];rfl
 ·rw [ee (by unfold Ψ;omega),wb _ _ (by omega)];rfl
def Ae (t:Φ) (n:ψ):Bool:=decide ((n.ae.length:Int)≥64)||decide ((fO t.ι 201 n.κ:Int)≥12)||decide (t.ar≥1099511627776)
def acM (h:TF B t) (hB:B≤100000) (n:ψ):BG t n=some (Ae t n):=by
 have h1:=h.n;unfold BG Ae;rw [bo (b:=decide ((fO t.ι 201 n.κ:Int)≥12)) (fun _=>by rw [Lf t _ (by omega)];rfl),aX,bo (b:=decide (t.ar≥1099511627776)) (fun _=>rfl)];rfl
def sK (t:Φ) (i:Int) (s:List UInt8):Int:=if ((db t.ι i).2 != 0)=true then (db t.ι i).2 else if (!d_ s)=true then 60 else if (qH (db t.ι i).1.ae s).isSome=true then 71 else if Ae t (db t.ι i).1=true then 76 else 0
def xn (h:TF B t) (i:Int):(db t.ι i).1.ae.length≤B:=by
 unfold db;split
 ·split
  ·exact hZ _
  ·exact h.gE i
 ·exact hZ _
def S8 (h:TF B t) (hB:B≤100000) (i:Int) (s:List UInt8):yI t i s=some (sK t i s):=by
 have h1:=h.n;have h2:=xn h i;unfold yI sK;rw [E5 t i (by omega),aX];split
 ·rfl
 rw [E6,aX];split
 ·rfl
 rw [Li _ _ (by omega),aX,SE];split
 ·rfl
 rw [acM h hB,aX];split<;>rfl
def sx (t:Φ) (i:Int) (s:List UInt8) (k:Int):Φ×Int×Int:=if ((k != 1)&&(k != 2))=true then (t,0,1) else if (sK t i s != 0)=true then (t,0,sK t i s) else if (decide ((t.ι.length:Int)≥200)||decide (t.Next≥1099511627776))=true then (t,0,76) else (nF ⟨cz ⟨t.Next,k,1,[],[],if (k==2)=true then i else 0⟩ t.ι,t.Next+1,t.ar⟩ i s t.Next,t.Next,0)
def TF.OX (h:TF B t) (k:Int) (u:Int):TF (B+1) ⟨cz ⟨t.Next,k,1,[],[],u⟩ t.ι,t.Next+1,t.ar⟩:=by
 have h3:=h.c;have h4:=h.x;exact h.put (by simp) (by dsimp only;omega) (by omega) (by omega)
def acA (h:TF B t) (hB:B≤90000) (i:Int) (s:List UInt8) (k:Int):Bt t i s k=some (sx t i s k):=by
 have h1:=h.n;have h3:=h.c;have h4:=h.x;unfold Bt sx;rw [ba (b:=k != 2) (fun _=>rfl),aX,aX];split
 ·rfl
 rw [S8 h (by omega),aX];split
 ·rfl
 rw [bo (b:=decide (t.Next≥1099511627776)) (fun _=>rfl),aX,aX];split
 ·rfl
 have e:(if (k==2)=true then some i else some 0)=some (if (k==2)=true then i else 0):=by split<;>rfl
 rw [e,aX,ee (by unfold Ψ;omega),wb _ _ (by dsimp only;omega),aX];have hf:=h.OX k (if (k==2)=true then i else 0);rw [Lg _ _ _ _ (dN hf.n (by omega)) (dN (hf.gE i) (by omega)) (by have:=hf.c;omega)];rfl
def tu (t:Φ) (i to:Int) (s:List UInt8):Φ×Int:=if (!(gN t.ι i).isSome||((gD t.ι i).Ω==1&&(gD t.ι i).a_==0))=true then (t,70) else if ((gD t.ι i).Ω==2)=true then (t,72) else if (sK t to s != 0)=true then (t,sK t to s) else (nF ⟨cz ⟨(gD t.ι i).κ,(gD t.ι i).Ω,(gD t.ι i).a_+1,(gD t.ι i).aP,(gD t.ι i).ae,(gD t.ι i).Up⟩ t.ι,t.Next,t.ar⟩ to s i,0)
def TF.Sl (h:TF B t) (i:Int):TF (B+1) ⟨cz ⟨(gD t.ι i).κ,(gD t.ι i).Ω,(gD t.ι i).a_+1,(gD t.ι i).aP,(gD t.ι i).ae,(gD t.ι i).Up⟩ t.ι,t.Next,t.ar⟩:=by
 have h1:=h.gE i;have h2:=h.gL i;have h3:=h.c;have h4:=h.x;exact h.put (by dsimp only;omega) (by dsimp only;omega) (by omega) (by omega)
def acD (h:TF B t) (hB:B≤90000) (i to:Int) (s:List UInt8):Bv t i to s=some (tu t i to s):=by
 have h1:=h.n;have h2:=h.gL i;have h3:=h.c;have h4:=h.x;unfold Bv tu;rw [gX t i (by omega),aX];dsimp only;rw [ba (b:=(gD t.ι i).a_==0) (fun _=>rfl),aX,bo (b:=(gD t.ι i).Ω==1&&(gD t.ι i).a_==0) (fun _=>rfl),aX,aX];split
 ·rfl
 split
 ·rfl
 rw [S8 h (by omega),aX];split
 ·rfl
 have hf:=h.Sl i;rw [ee (by unfold Ψ;omega),wb _ _ (by omega),aX,Lg _ _ _ _ (dN hf.n (by omega)) (dN (hf.gE to) (by omega)) (by have:=hf.c;omega)];rfl
def cD (t:Φ) (i:Int) (s:List UInt8):Int×Int:=if ((db t.ι i).2 != 0)=true then (0,(db t.ι i).2) else if (!d_ s)=true then (0,60) else match (db t.ι i).1.ae.find? (fun e=>e.aR==s) with|some e=>(e.κ,0)|none=>(0,70)
def E3 (h:TF B t) (hB:B≤100000) (i:Int) (s:List UInt8):tM t i s=some (cD t i s):=by
 have h1:=h.n;have h2:=xn h i;unfold tM cD;rw [E5 t i (by omega),aX];split
 ·rfl
 rw [E6,aX];split
 ·rfl
 rw [Li _ _ (by omega),aX];unfold qH;cases hk:(db t.ι i).1.ae.findIdx? (fun e=>e.aR==s) with
 |none=>rw [Dv hk];rfl
 |some k =>
  obtain ⟨x,hx,hf,-⟩:=sN hk;rw [hf,SD,if_neg (by simp)];show (idx _ (k:Int)).bind _=_;rw [bd hx];rfl
def t_ (t:Φ) (i:Int) (s:List UInt8):Φ×Int×Int:=if ((cD t i s).2 != 0)=true then (t,0,(cD t i s).2) else if decide (((gD t.ι (cD t i s).1).ae.length:Int)>0)=true then (t,0,74) else (jG (fz t i s) (cD t i s).1,(cD t i s).1,0)
def acK (h:TF B t) (hB:B≤90000) (i:Int) (s:List UInt8):BC t i s=some (t_ t i s):=by
 have h1:=h.n;unfold BC t_;rw [E3 h (by omega),aX];split
 ·rfl
 rw [gX t _ (by omega),aX];dsimp only;split
 ·rfl
 rw [Lh t i s (by omega) (by have:=h.gE i;omega),aX,S9 (h.nj i s) (by omega)];rfl
def zT (t:Φ) (x:ψ) (y:Int):Int:=if (!(gN t.ι y).isSome)=true then 0 else if (x.Ω==2&&(gD t.ι y).Ω != 2)=true then 73 else if (x.Ω != 2&&(gD t.ι y).Ω==2)=true then 72 else if decide (((gD t.ι y).ae.length:Int)>0)=true then 74 else 0
def acL (h:TF B t) (hB:B≤100000) (x:ψ) (y:Int):BD t x y=some (zT t x y):=by
 have h1:=h.n;unfold BD zT;rw [gX t y (by omega),aX];dsimp only;split
 ·rfl
 rw [ba (b:=(gD t.ι y).Ω != 2) (fun _=>rfl),aX,aX];split
 ·rfl
 rw [ba (b:=(gD t.ι y).Ω==2) (fun _=>rfl),aX,aX];split
 ·rfl
 split<;>rfl
def xR (l:List ψ) (i a:Int):Int:=l.foldl (fun m n=>if (n.Ω==2&&lj l n.κ i)=true then max m (a+(fO l 201 n.κ:Int)-(fO l 201 i:Int)+if decide ((n.ae.length:Int)>0)=true then 1 else 0) else m) 0
def acO (dd:Int→Nat) (hD:∀j,rP t j=some (dd j:Int)) (hle:∀j,dd j≤201) (h:TF B t) (hB:B≤100000) (i a:Int) (ha:0≤a∧a≤1000):wi t i a=some (t.ι.foldl (fun m n=>if (n.Ω==2&&lj t.ι n.κ i)=true then max m (a+(dd n.κ:Int)-(dd i:Int)+if decide ((n.ae.length:Int)>0)=true then 1 else 0) else m) 0):=by
 have h1:=h.n;unfold wi;rw [hD,aX];unfold Tn;have hd:=hle i;rw [abu (b:=t.ι) (fun m n=>if (n.Ω==2&&lj t.ι n.κ i)=true then max m (a+(dd n.κ:Int)-(dd i:Int)+if decide ((n.ae.length:Int)>0)=true then 1 else 0) else m) (fun _=>True) (fun a=>a) (fun m k n _ hn hk=>?_) (fun _ _ _ _=>trivial) (fun m _=>?_) 0 trivial,aX]
 ·unfold BH;rw [if_pos (by simpa using hk),bd hn,aX];rw [ba (b:=lj t.ι n.κ i) (fun _=>by rw [S4 t _ _ (by omega)];rfl),aX,aX];have hd2:=hle n.κ;by_cases hc:(n.Ω==2&&lj t.ι n.κ i)=true
  ·rw [if_pos hc,if_pos hc,hD,aX,ee (by unfold Ψ;omega),ee (by unfold Ψ;omega)];by_cases he:decide ((n.ae.length:Int)>0)=true
   ·rw [if_pos he,if_pos he,ee (by unfold Ψ;omega),aX,aX,ee (by unfold Ψ;omega)]
   ·rw [if_neg he,if_neg he,aX,aX,ee (by unfold Ψ;omega),Int.add_zero]
  ·rw [if_neg hc,if_neg hc,aX,ee (by unfold Ψ;omega)]
 ·unfold BH;rw [if_neg (by simp)];rfl
def acN (h:TF B t) (hB:B≤100000) (i a:Int) (ha:0≤a∧a≤1000):wi t i a=some (xR t.ι i a) :=
 acO (fun j=>fO t.ι 201 j) (fun j=>Lf t j (by have:=h.n;omega)) (fun j=>HR t.ι 201 j) h hB i a ha
end
end
section
section
variable {B:Nat} {t:Φ}
def fS (t:Φ) (to:Int) (bC:List UInt8):Int:=match (db t.ι to).1.ae.find? (fun e=>e.aR==bC) with|some e=>e.κ|none=>0
def EH (t:Φ) (i from_ to y:Int):Bool:=(((y==0)&&(to != from_))&&decide (((db t.ι to).1.ae.length:Int)≥64))||decide ((fO t.ι 201 to:Int)≥12)||((gD t.ι i).Ω==2&&decide (xR t.ι i ((fO t.ι 201 to:Int)+1)>12))||decide (t.ar≥1099511627776)
def iv (t:Φ) (i from_:Int) (s:List UInt8) (to:Int) (bC:List UInt8) (y:Int):Φ:=if (y != 0)=true then jG (fz (fz t from_ s) to bC) y else fz t from_ s
def kT (t u:Φ) (i to:Int):Φ:=if ((gD t.ι i).Ω==2)=true then ⟨cz ⟨(gD t.ι i).κ,(gD t.ι i).Ω,(gD t.ι i).a_,(gD t.ι i).aP,(gD t.ι i).ae,to⟩ u.ι,u.Next,u.ar⟩ else u
def tC (t:Φ) (from_:Int) (s:List UInt8) (to:Int) (bC:List UInt8):Φ×Int×Int :=
 if ((cD t from_ s).2 != 0)=true then (t,0,(cD t from_ s).2) else if ((db t.ι to).2 != 0)=true then (t,0,(db t.ι to).2) else if (!d_ bC)=true then (t,0,60)
 else if (fS t to bC==(cD t from_ s).1)=true then (t,0,0)
 else if ((gD t.ι (cD t from_ s).1).Ω==2&&lj t.ι to (cD t from_ s).1)=true then (t,0,75)
 else if (zT t (gD t.ι (cD t from_ s).1) (fS t to bC) != 0)=true then (t,0,zT t (gD t.ι (cD t from_ s).1) (fS t to bC))
 else if EH t (cD t from_ s).1 from_ to (fS t to bC)=true then (t,0,76)
 else (nF (kT t (iv t (cD t from_ s).1 from_ s to bC (fS t to bC)) (cD t from_ s).1 to) to bC (cD t from_ s).1,fS t to bC,0)
def TF.iv (h:TF B t) (i from_:Int) (s:List UInt8) (to:Int) (bC:List UInt8) (y:Int):TF (B+3) (iv t i from_ s to bC y):=by
 unfold Go.Proofs.iv;split
 ·exact ((h.nj from_ s).nj to bC).un y
 ·exact (h.nj from_ s).up (by omega)
def TF.kT {C:Nat} {u:Φ} (h:TF B t) (hu:TF C u) (hC:B≤C) (i to:Int):TF (C+1) (kT t u i to):=by
 have h1:=h.gE i;have h2:=h.gL i;have h3:=hu.c;have h4:=hu.x;unfold Go.Proofs.kT;split
 ·exact hu.put (by dsimp only;omega) (by dsimp only;omega) (by omega) (by omega)
 ·exact hu.up (by omega)
def acP (h:TF B t) (hB:B≤90000) (i from_ to y:Int):((if (y==0)=true then some (to != from_) else some false).bind fun c2=>(if c2=true then some (decide (((db t.ι to).1.ae.length:Int)≥64)) else some false).bind fun c3=>(if c3=true then some true else some (decide ((fO t.ι 201 to:Int)≥12))).bind fun c4=>(if c4=true then some true else (if ((gD t.ι i).Ω==2)=true then τ (Ψ ((fO t.ι 201 to:Int)+1)) ((wi t i ((fO t.ι 201 to:Int)+1)).bind fun cR=>some (decide (cR>12))) else some false).bind fun c5=>some c5).bind fun c6=>(if c6=true then some true else some (decide (t.ar≥1099511627776))).bind fun c7=>some c7)=some (EH t i from_ to y):=by
 have hd:=HR t.ι 201 to;unfold EH;rw [ba (b:=to != from_) (fun _=>rfl),aX,ba (b:=decide (((db t.ι to).1.ae.length:Int)≥64)) (fun _=>rfl),aX,bo (b:=decide ((fO t.ι 201 to:Int)≥12)) (fun _=>rfl),aX];rw [bo (b:=(gD t.ι i).Ω==2&&decide (xR t.ι i ((fO t.ι 201 to:Int)+1)>12)) (fun _=>?_),aX,bo (b:=decide (t.ar≥1099511627776)) (fun _=>rfl),aX];rw [ba (b:=decide (xR t.ι i ((fO t.ι 201 to:Int)+1)>12)) (fun _=>?_),aX];rw [ee (by unfold Ψ;omega),acN h (by omega) _ _ (by omega),aX]
def acE (h:TF B t) (hB:B≤90000) (from_:Int) (s:List UInt8) (to:Int) (bC:List UInt8):Bw t from_ s to bC=some (tC t from_ s to bC):=by
 have h1:=h.n;have h2:=xn h to;unfold Bw tC;rw [E3 h (by omega),aX];split
 ·rfl
 rw [E5 t to (by omega),aX];split
 ·rfl
 rw [E6,aX];split
 ·rfl
 rw [Li _ _ (by omega),aX]
 have e1:(if decide (oI (qH (db t.ι to).1.ae bC)≥0)=true then (idx (db t.ι to).1.ae (oI (qH (db t.ι to).1.ae bC))).bind fun x5=>some x5.κ else some 0)=some (fS t to bC):=by
  rw [SE];unfold qH fS;cases hk:(db t.ι to).1.ae.findIdx? (fun e=>e.aR==bC) with
  |none=>rw [Dv hk];rfl
  |some k =>
   obtain ⟨x,hx,hf,-⟩:=sN hk;rw [hf,if_pos (show (some k).isSome=true from rfl)];show (idx _ (k:Int)).bind _=_;rw [bd hx];rfl
 rw [e1,aX];split
 ·rfl
 rw [gX t _ (by omega),aX];dsimp only;rw [ba (b:=lj t.ι to (cD t from_ s).1) (fun _=>by rw [S4 t _ _ (by omega)];rfl),aX,aX];split
 ·rfl
 rw [acL h (by omega),aX];split
 ·rfl
 rw [Lf t to (by omega),aX,acP h hB,aX];split
 ·rfl
 have hL:=h.nj from_ s;have hT:=h.iv (cD t from_ s).1 from_ s to bC (fS t to bC);have hU:=TF.kT h hT (by omega) (cD t from_ s).1 to;rw [Lh t from_ s (by omega) (by have:=h.gE from_;omega),aX]
 have e2:(if (fS t to bC != 0)=true then (tU (fz t from_ s) to bC).bind fun dG=>(wo dG (fS t to bC)).bind fun fx=>some (fx.ι,fx.Next,fx.ar) else some ((fz t from_ s).ι,(fz t from_ s).Next,(fz t from_ s).ar))=some ((iv t (cD t from_ s).1 from_ s to bC (fS t to bC)).ι,(iv t (cD t from_ s).1 from_ s to bC (fS t to bC)).Next,(iv t (cD t from_ s).1 from_ s to bC (fS t to bC)).ar):=by
  unfold iv;by_cases hc:(fS t to bC != 0)=true
  ·rw [if_pos hc,if_pos hc,Lh _ to bC (dN hL.n (by omega)) (dN (hL.gE to) (by omega)),aX,S9 (hL.nj to bC) (by omega),aX]
  ·rw [if_neg hc,if_neg hc]
 rw [e2,aX];generalize iv t (cD t from_ s).1 from_ s to bC (fS t to bC)=u at *
 have e3:(if ((gD t.ι (cD t from_ s).1).Ω==2)=true then (oO (⟨u.ι,u.Next,u.ar⟩:Φ) ⟨(gD t.ι (cD t from_ s).1).κ,(gD t.ι (cD t from_ s).1).Ω,(gD t.ι (cD t from_ s).1).a_,(gD t.ι (cD t from_ s).1).aP,(gD t.ι (cD t from_ s).1).ae,to⟩).bind fun j2=>some (j2.ι,j2.Next,j2.ar) else some (u.ι,u.Next,u.ar))=some ((kT t u (cD t from_ s).1 to).ι,(kT t u (cD t from_ s).1 to).Next,(kT t u (cD t from_ s).1 to).ar):=by
  unfold kT;by_cases hc:((gD t.ι (cD t from_ s).1).Ω==2)=true
  ·rw [if_pos hc,if_pos hc,wb _ _ (dN hT.n (by omega)),aX]
  ·rw [if_neg hc,if_neg hc]
 rw [e3,aX];generalize kT t u (cD t from_ s).1 to=w at *;show (tT w to bC _).bind _=_;rw [Lg _ _ _ _ (dN hU.n (by omega)) (dN (hU.gE to) (by omega)) (by have:=hU.c;omega)];rfl
def tH (t:Φ) (i:Int) (x:List UInt8):Φ×Int:=if (!(gN t.ι i).isSome)=true then (t,70) else if ((gD t.ι i).Ω==2)=true then (t,72) else if decide ((x.length:Int)>4096)=true then (t,2) else (⟨cz ⟨(gD t.ι i).κ,(gD t.ι i).Ω,(gD t.ι i).a_,x,(gD t.ι i).ae,(gD t.ι i).Up⟩ t.ι,t.Next,t.ar⟩,0)
def S7 (h:TF B t) (hB:B≤90000) (i:Int) (x:List UInt8) (hx:x.length≤10000):yH t i x=some (tH t i x):=by
 have h1:=h.n;unfold yH tH;rw [gX t i (by omega),aX];dsimp only;split
 ·rfl
 split
 ·rfl
 split
 ·rfl
 rw [ee (by simp;omega),wb _ _ (by omega)];rfl
def qk (t:Φ) (i:Int):Φ×Int:=if (!(gN t.ι i).isSome)=true then (t,70) else if ((gD t.ι i).Ω==2)=true then (t,72) else if decide ((gD t.ι i).a_>0)=true then (t,71) else (⟨t.ι.filter (fun x=>x.κ != i),t.Next,t.ar⟩,0)
def S5 (h:TF B t) (hB:B≤90000) (i:Int):yG t i=some (qk t i):=by
 have h1:=h.n;unfold yG qk;rw [gX t i (by omega),aX];dsimp only;split
 ·rfl
 split
 ·rfl
 split
 ·rfl
 rw [S' _ _ (by omega)];rfl
end
end
section
def gO (l:List ψ):Prop:=l.Pairwise (fun a b=>a.κ<b.κ)
def yA {n:ψ}:∀{l:List ψ},gO l→gO (cz n l)
 |[],_=>zD _ _
 |x::r,h=>by
  obtain ⟨h1,h2⟩:=iy.1 h;rw [yz];split
  ·next eC =>
   refine iy.2 ⟨fun y hy=>?_,h.filter _⟩;obtain ⟨hy,aS⟩:=dU.1 hy
   have aS:y.κ≠n.κ:=by simpa using aS
   rcases bp.1 hy with rfl|hy
   ·omega
   ·have:=h1 y hy;omega
  ·next Ξ =>
   refine iy.2 ⟨fun y hy=>?_,yA h2⟩
   rcases rO hy with rfl|⟨hy,-⟩
   ·omega
   ·exact h1 y hy
def PX {l:List ψ} (h:gO l) (p:ψ→Bool):gO (l.filter p):=Oi p h
def ql (x:ψ) (l:List ψ) (i:Int):gN (x::l) i=if x.κ=i then some x else gN l i:=by
 unfold gN;rw [G5];by_cases h:x.κ=i
 ·rw [if_pos h];simp [h]
 ·rw [if_neg h]
  have:(x.κ==i)=false:=by simpa using h
  rw [this]
def xD (l:List ψ) (j i:Int):gN (l.filter (fun x=>x.κ != j)) i=if i=j then none else gN l i:=by
 induction l with
 |nil=>simp [gN]
 |cons x l ih =>
  rw [j5,ql];by_cases h:x.κ=j
  ·have e:(x.κ != j)=false:=by simpa using h
   rw [e,if_neg (by simp),ih];by_cases hi:i=j
   ·rw [if_pos hi,if_pos hi]
   ·rw [if_neg hi,if_neg hi,if_neg (by omega)]
  ·have e:(x.κ != j)=true:=by simpa using h
   rw [e,if_pos rfl,ql,ih];by_cases hi:i=j
   ·rw [if_pos hi,if_pos hi,if_neg (by omega)]
   ·rw [if_neg hi,if_neg hi]
def lW (n:ψ) (i:Int):∀l,gN (cz n l) i=if i=n.κ then some n else gN l i
 |[]=>by
  unfold cz;rw [ql];by_cases h:i=n.κ
  ·rw [if_pos h,if_pos h.symm]
  ·rw [if_neg h,if_neg (jJ h)]
 |x::r=>by
  rw [yz];by_cases h:i=n.κ
  ·rw [if_pos h];split
   ·rw [ql,if_pos h.symm]
   ·rw [ql,if_neg (by omega),lW n i r,if_pos h]
  ·rw [if_neg h];split
   ·rw [ql,if_neg (jJ h),xD,if_neg h]
   ·rw [ql,lW n i r,if_neg h,ql]
def Gj {l:List ψ} (h:gO l) {a b:ψ} (ha:a∈l) (hb:b∈l) (e:a.κ=b.κ):a=b:=by
 induction l with
 |nil=>cases ha
 |cons x l ih =>
  obtain ⟨h1,h2⟩:=iy.1 h
  rcases bp.1 ha with ha|ha<;>rcases bp.1 hb with hb|hb
  ·rw [ha,hb]
  ·have:=h1 b hb;rw [←ha] at this;omega
  ·have:=h1 a ha;rw [←hb] at this;omega
  ·exact ih h2 ha hb
def uO {l:List ψ} (h:gO l) {n:ψ} (hn:n∈l):gN l n.κ=some n:=by
 cases e:gN l n.κ with
 |none=>exact absurd rfl (II.1 e n hn)
 |some m=>have:=dS e;rw [Gj h this.1 hn this.2]
structure TS (t:Φ):Prop where
 s:gO t.ι
 lo:∀n,n∈t.ι→0≤n.κ∧n.κ<t.Next
 rt:∃n,gN t.ι 1=some n∧n.Ω=2
 en:∀n,n∈t.ι→∀e,e∈n.ae→e.κ≠1
section
variable {t:Φ}
def TS.nx (h:TS t):1<t.Next:=by
 obtain ⟨n,hn,-⟩:=h.rt;have:=dS hn;have h1:=h.lo n this.1;omega
def TS.g (h:TS t) (i:Int):(0≤(gD t.ι i).κ∧(gD t.ι i).κ<t.Next)∧((gD t.ι i).κ=1→(gD t.ι i).Ω=2)∧∀e,e∈(gD t.ι i).ae→e.κ≠1:=by
 have hx:=h.nx
 rcases xC t.ι i with h1|h1
 ·refine ⟨h.lo _ h1,fun e=>?_,h.en _ h1⟩;obtain ⟨n,hn,hk⟩:=h.rt;have:=dS hn;rw [←Gj h.s this.1 h1 (by rw [this.2,e])];exact hk
 ·rw [h1];exact ⟨⟨qU _,by show (0:Int)<_;omega⟩,fun e=>absurd e (by show (0:Int)≠1;omega),fun e he=>by cases he⟩
def TS.put (h:TS t) {n:ψ} {x c:Int} (hn:0≤n.κ∧n.κ<x) (hx:t.Next≤x) (hk:n.κ=1→n.Ω=2) (he:∀e,e∈n.ae→e.κ≠1):TS ⟨cz n t.ι,x,c⟩:=by
 refine ⟨yA h.s,fun y hy=>?_,?_,fun y hy=>?_⟩
 ·rcases rO hy with rfl|⟨hy,-⟩
  ·exact hn
  ·have:=h.lo y hy;dsimp only;omega
 ·obtain ⟨r,hr,jT⟩:=h.rt;dsimp only;rw [lW];by_cases e:1=n.κ
  ·exact ⟨n,if_pos e,hk e.symm⟩
  ·exact ⟨r,by rw [if_neg e,hr],jT⟩
 ·rcases rO hy with rfl|⟨hy,-⟩
  ·exact he
  ·exact h.en y hy
def TS.drop (h:TS t) {i:Int} (hi:i≠1):TS ⟨t.ι.filter (fun x=>x.κ != i),t.Next,t.ar⟩:=by
 refine ⟨PX h.s _,fun y hy=>h.lo _ (dU.1 hy).1,?_,fun y hy=>h.en _ (dU.1 hy).1⟩;obtain ⟨r,hr,jT⟩:=h.rt;exact ⟨r,by dsimp only;rw [xD,if_neg (jJ hi),hr],jT⟩
def yn {e x:aJ}:∀{l:List aJ},x∈ku e l↔x=e∨x∈l
 |[]=>by simp [ku]
 |y::r=>by
  rw [A5];split
  ·simp
  ·rw [bp,yn,bp];constructor
   ·rintro (h|h|h)
    ·exact .inr (.inl h)
    ·exact .inl h
    ·exact .inr (.inr h)
   ·rintro (h|h|h)
    ·exact .inr (.inl h)
    ·exact .inl h
    ·exact .inr (.inr h)
def TS.re (h:TS t) (i:Int) (s:List UInt8) {o:Int} (ho:o≠1):TS (nF t i s o):=by
 obtain ⟨h1,h2,h3⟩:=h.g i;refine h.put h1 (qU _) h2 fun e he=>?_
 rcases yn.1 he with rfl|he
 ·exact ho
 ·exact h3 e he
def TS.nj (h:TS t) (i:Int) (s:List UInt8):TS (fz t i s):=by
 obtain ⟨h1,h2,h3⟩:=h.g i;exact h.put h1 (qU _) h2 fun e he=>h3 e (dU.1 he).1
def TS.un (h:TS t) {i:Int} (hi:i≠1):TS (jG t i):=by
 obtain ⟨h1,h2,h3⟩:=h.g i;unfold jG;split
 ·exact h.drop hi
 ·exact h.put h1 (qU _) h2 h3
def TS.iv (h:TS t) (i from_:Int) (s:List UInt8) (to:Int) (bC:List UInt8) {y:Int} (hy:y≠1):TS (iv t i from_ s to bC y)∧(iv t i from_ s to bC y).Next=t.Next:=by
 unfold Go.Proofs.iv;split
 ·refine ⟨((h.nj from_ s).nj to bC).un hy,?_⟩;unfold jG;split<;>rfl
 ·exact ⟨h.nj from_ s,rfl⟩
def TS.kT {u:Φ} (h:TS t) (hu:TS u) (hx:u.Next=t.Next) (i to:Int):TS (kT t u i to):=by
 obtain ⟨h1,h2,h3⟩:=h.g i;unfold Go.Proofs.kT;split
 ·exact hu.put (by dsimp only;omega) (qU _) h2 h3
 ·exact hu
def qb {x:Int} (h:¬(x != 0)=true):x=0:=by simpa using h
end
end
section
def ε.same {α ρ:Type} {a b:List α} {B:Int→Option (Int⊕ρ)} {Q:ρ→Prop} (ic:a.length=b.length)
  (h1:∀(n:Nat) (x y:α),n<a.length→a[n]?=some x→b[n]?=some y→ε (B (n:Int)) (fun r=>(x=y∧r=.inl ((n:Int)+1))∨(x≠y∧∃q,r=.inr q∧(a≠b→Q q))))
  (h2:a=b→ε (B (a.length:Int)) (fun r=>∃q,r=.inr q∧Q q)):ε (Cat.loop B 0) Q:=by
 refine ε.ou (l:=a) (fun n=>a.take n=b.take n) (fun n x Ξ hx hi=>?_) (fun hi=>?_) (by simp)
 ·have hy:=bO (show n<b.length by omega);refine (h1 n x _ Ξ hx hy).mono ?_;rintro r (⟨he,rfl⟩|⟨he,q,rfl,hq⟩)
  ·exact ⟨rfl,by rw [kC hx,kC hy,hi,he]⟩
  ·exact hq fun e=>he (by subst e;rw [hx] at hy;exact j7 hy)
 ·rw [kI,ic,kI] at hi;refine (h2 hi).mono ?_;rintro r ⟨q,rfl,hq⟩;exact hq
def PM {x y:aJ}:(x.aR==y.aR&&(x.κ==y.κ&&(x.ar==y.ar&&true)))=true↔x=y:=by
 cases x;cases y;simp
def acG (a b:List aJ) (hl:a.length≤1000000):ε (By a b) (dO (a=b)):=by
 unfold By;refine ε.ite (fun e=>ε.ret (dO.no fun h=>?_)) fun e=>?_
 ·simp [h] at e
 have ic:a.length=b.length:=by simp at e;omega
 unfold Ti;refine ε.same ic (fun n x y hn hx hy=>?_) fun he=>?_
 ·unfold Bz;refine ε.cond (by simpa using hn) (ε.ay (bd hx) (ε.ay (bd hy) ?_));by_cases h:x=y
  ·rw [if_neg (by rw [PM.2 h];simp),ee (by unfold Ψ;omega)];exact ε.ret (.inl ⟨h,rfl⟩)
  ·rw [if_pos (by rw [my,←CE,PM];exact h)];exact ⟨_,rfl,.inr ⟨h,_,rfl,fun aS=>dO.no aS⟩⟩
 ·unfold Bz;exact ε.bf (by simp) ⟨_,rfl,_,rfl,dO.yes he⟩
def abN {a b:ψ}:a=b↔a.κ=b.κ∧a.Ω=b.Ω∧a.a_=b.a_∧a.Up=b.Up∧a.aP=b.aP∧a.ae=b.ae:=by
 constructor
 ·rintro rfl;exact ⟨rfl,rfl,rfl,rfl,rfl,rfl⟩
 ·obtain ⟨a1,a2,a3,a4,a5,a6⟩:=a;obtain ⟨b1,b2,b3,b4,b5,b6⟩:=b;rintro ⟨h1,h2,h3,h6,h4,h5⟩;dsimp only at *;subst h1 h2 h3 h4 h5 h6;rfl
def Aq (a b:ψ):Bool:=a.κ==b.κ&&a.Ω==b.Ω&&a.a_==b.a_&&a.Up==b.Up&&a.aP==b.aP
def Qy {a b:ψ}:(Aq a b=true∧a.ae=b.ae)↔a=b:=by
 rw [abN];unfold Aq;simp [and_assoc]
def Lc (a b:ψ) (hl:a.ae.length≤1000000):ε (wc a b) (dO (a=b)):=by
 unfold wc;rw [bo (b:=a.Ω != b.Ω) (fun _=>rfl),aX,bo (b:=a.a_ != b.a_) (fun _=>rfl),aX,bo (b:=a.Up != b.Up) (fun _=>rfl),aX,bo (b:=!(a.aP==b.aP)) (fun _=>rfl),aX,aX]
 have e:(a.κ != b.κ||a.Ω != b.Ω||a.a_ != b.a_||a.Up != b.Up||!(a.aP==b.aP))=!Aq a b:=by unfold Aq;simp [bne,Bool.not_and]
 rw [e];refine ε.ite (fun h=>ε.ret (dO.no fun ic=>?_)) fun h=>?_
 ·rw [my,←CE] at h;exact h (Qy.2 ic).1
 ·have h:Aq a b=true:=by simpa using h
  refine ε.bind (acG a.ae b.ae hl) fun r hr=>ε.ret (hr.trans ?_);rw [←Qy];simp [h]
def acH (a b:List ψ) (hl:a.length≤1000000) (he:∀n,n∈a→n.ae.length≤1000000):ε (BA a b) (dO (a=b)):=by
 unfold BA;refine ε.ite (fun e=>ε.ret (dO.no fun h=>?_)) fun e=>?_
 ·simp [h] at e
 have ic:a.length=b.length:=by simp at e;omega
 unfold Tj;refine ε.same ic (fun n x y hn hx hy=>?_) fun he=>?_
 ·unfold BB;refine ε.cond (by simpa using hn) (ε.ay (bd hx) (ε.ay (bd hy) (ε.bind (Lc x y (he x (iN hx))) fun r hr=>?_)));by_cases h:x=y
  ·rw [if_neg (by rw [hr.2 h];simp),ee (by unfold Ψ;omega)];exact ε.ret (.inl ⟨h,rfl⟩)
  ·rw [if_pos (by rw [my,←CE];exact fun e=>h (hr.1 e))];exact ⟨_,rfl,.inr ⟨h,_,rfl,fun aS=>dO.no aS⟩⟩
 ·unfold BB;exact ε.bf (by simp) ⟨_,rfl,_,rfl,dO.yes he⟩
def aeg {a b:Φ}:a=b↔(a.Next=b.Next∧a.ar=b.ar)∧a.ι=b.ι:=by
 cases a;cases b;simp;constructor
 ·rintro ⟨h1,h2,h3⟩;exact ⟨⟨h2,h3⟩,h1⟩
 ·rintro ⟨⟨h2,h3⟩,h1⟩;exact ⟨h1,h2,h3⟩
section
variable {B:Nat} {a b:Φ}
def acI (h:TF B a) (hB:B≤100000):ε (Bx a b) (dO (a=b)):=by
 have h1:=h.n;unfold Bx;refine ε.bind (R:=dO (a=b)) (ε.bind (R:=dO (a.Next=b.Next∧a.ar=b.ar)) (ε.OZ (by simp) fun _=>ε.is (by simp)) fun c hc=>ε.bind (R:=dO ((a.Next=b.Next∧a.ar=b.ar)∧a.ι=b.ι)) (ε.OZ hc fun _=>ε.bind (acH a.ι b.ι (by omega) fun n hn=>dN (h.e n hn) (by omega)) fun r hr=>ε.ret hr) fun r hr=>ε.ret (hr.trans aeg.symm)) fun r hr=>ε.ret hr
end
end
section
def Pk {x y:Int}:(lq x y==0)=true↔x=y:=by unfold lq;split<;>(try split)<;>simp<;>omega
def Sq (a b:Nat) (h:a+b≤1000000000000):IntKind.i64.wrap (fV .u64 (IntKind.u64.wrap ((a:Int)+(b:Int))) 1)=(((a+b)/2:Nat):Int):=by
 have e1:(a:Int)+(b:Int)=((a+b:Nat):Int):=by omega
 rw [e1,agw rfl (by show a+b<2 ^ 64;omega)];have e2:fV .u64 ((a+b:Nat):Int) 1=(((a+b)>>>1:Nat):Int):=adA (b:=1) (by decide);rw [e2,Nat.shiftRight_eq_div_pow];exact IntWalk.i64_in _ ⟨by omega,by omega⟩
def Gi {l:List ψ} (h:gO l) {j k:Nat} {x y:ψ} (hx:l[j]?=some x) (hy:l[k]?=some y) (vp:j<k):x.κ<y.κ:=by
 obtain ⟨h1,rfl⟩:=fX.1 hx;obtain ⟨h2,rfl⟩:=fX.1 hy;exact zC.1 h j k h1 h2 vp
def ab8 {l:List ψ} (hs:gO l) (hl:l.length≤1000000) (i:Int):ε (y6 l i) (fun r=>0≤r.1∧(if r.2=true then r.1 else -1)=oI (l.findIdx? (fun n=>n.κ==i))):=by
 unfold y6 Ur;refine ε.bind (R:=fun v:Int=>∃k:Nat,v=k∧k≤l.length∧(∀j x,j<k→l[j]?=some x→x.κ<i)∧(∀j x,k≤j→l[j]?=some x→i≤x.κ)) ?_ fun v hv=>?_
 ·refine ε.loop (fun s:Int×Int=>∃a b:Nat,s=((a:Int),(b:Int))∧a≤b∧b≤l.length∧(∀j x,j<a→l[j]?=some x→x.κ<i)∧(∀j x,b≤j→l[j]?=some x→i≤x.κ)) (fun s=>(s.2-s.1).toNat) ?_ _ ⟨0,l.length,rfl,by omega,by omega,fun j x h=>by omega,fun j x h hx=>by rw [Oq (by omega)] at hx;cases hx⟩;rintro s ⟨a,b,rfl,ic,hb,jU,kp⟩;unfold Gd;dsimp only;by_cases Ξ:a<b
  ·refine ε.cond (by simpa using Ξ) (ε.τ (by unfold Ψ;omega) ?_);rw [Sq a b (by omega)]
   have hm:(a+b)/2<l.length:=by omega
   have hx:=bO hm;refine ε.ay (bd hx) (ε.ay (a:=lq l[(a+b)/2].κ i) (by unfold y0;rw [M1];rfl) ?_);refine ε.ite (fun e=>ε.τ (by unfold Ψ;omega) (ε.inl ⟨⟨(a+b)/2+1,b,rfl,by omega,hb,fun j x hj vr=>?_,kp⟩,by dsimp only;omega⟩)) fun e=>ε.inl ⟨⟨a,(a+b)/2,rfl,by omega,by omega,jU,fun j x hj vr=>?_⟩,by dsimp only;omega⟩
   ·have hc:l[(a+b)/2].κ<i:=qf.1 (by simpa using e)
    rcases eY j ((a+b)/2) with h|h
    ·have:=Gi hs vr hx h;omega
    ·have:j=(a+b)/2:=by omega
     subst this;rw [hx] at vr;cases vr;exact hc
   ·have hc:¬l[(a+b)/2].κ<i:=fun h=>e (by simpa using qf.2 h)
    rcases eY ((a+b)/2) j with h|h
    ·have:=Gi hs hx vr h;omega
    ·have:j=(a+b)/2:=by omega
     subst this;rw [hx] at vr;cases vr;omega
  ·have:a=b:=by omega
   subst this;exact ε.bf (by simp) (ε.out (ε.ret ⟨a,rfl,hb,jU,kp⟩))
 ·obtain ⟨k,rfl,hk,jU,kp⟩:=hv;by_cases xU:k<l.length
  ·have hx:=bO xU;refine ε.bind (R:=(·=(lq l[k].κ i==0))) (ε.bind (R:=(·=(lq l[k].κ i==0))) (ε.cond (by simpa using xU) (ε.ay (bd hx) (ε.ay (a:=lq l[k].κ i) (by unfold y0;rw [M1];rfl) (ε.ret rfl)))) fun r hr=>ε.ret hr) fun r hr=>ε.ret ?_;subst hr;dsimp only;refine ⟨VY k,?_⟩;by_cases he:l[k].κ=i
   ·rw [if_pos (Pk.2 he)]
    have:l.findIdx? (fun n=>n.κ==i)=some k:=by
     rw [G7];refine ⟨xU,by simpa using he,fun j hj=>?_⟩;have:=jU j _ hj (bO (by omega));simp;omega
    rw [this];rfl
   ·rw [if_neg (fun h=>he (Pk.1 h))]
    have:l.findIdx? (fun n=>n.κ==i)=none:=by
     rw [w9];intro x gI;obtain ⟨j,hj⟩:=ED gI
     rcases OG j k with h|h|h
     ·have:=jU j x h hj;simp;omega
     ·subst h;rw [hx] at hj;cases hj;simpa using he
     ·have:=Gi hs hx hj h;have:=kp k _ (bm _) hx;simp;omega
    rw [this];rfl
  ·refine ε.bind (R:=(·=false)) (ε.bind (R:=(·=false)) (ε.bf (by simpa using xU) (ε.ret rfl)) fun r hr=>ε.ret hr) fun r hr=>ε.ret ?_;subst hr;dsimp only;refine ⟨VY k,?_⟩
   have:l.findIdx? (fun n=>n.κ==i)=none:=by
    rw [w9];intro x gI;obtain ⟨j,hj⟩:=ED gI;have:=jU j x (by have:=(YV hj).1;omega) hj;simp;omega
   rw [this];rfl
def ab' {t:Φ} (hs:gO t.ι) (hl:t.ι.length≤1000000) (i:Int):ε (tY ⟨t⟩ i) (fun r=>r.2=⟨t⟩∧0≤r.1.1∧(if r.1.2=true then r.1.1 else -1)=oI (t.ι.findIdx? (fun n=>n.κ==i))):=by
 unfold tY;show ε ((y6 t.ι i).bind _) _;exact ε.bind (ab8 hs hl i) fun r hr=>ε.ret ⟨rfl,hr⟩
def SQ {t:Φ} (hs:gO t.ι) (hl:t.ι.length≤1000000) (i:Int):nX ⟨t⟩ i=some ((gD t.ι i,(gN t.ι i).isSome),⟨t⟩):=by
 refine ε.eq ?_;unfold nX;refine ε.bind (ab' hs hl i) fun r hr=>?_;obtain ⟨⟨k,b⟩,g⟩:=r;obtain ⟨rfl,hk,hr⟩:=hr;dsimp only at hk hr ⊢;unfold gD gN;cases h:t.ι.findIdx? (fun n=>n.κ==i) with
 |none =>
  rw [h] at hr;rw [Dv h];cases b with
  |false=>exact ε.cond rfl (ε.ret rfl)
  |true=>rw [if_pos rfl] at hr;have:k=-1:=hr;omega
 |some n =>
  obtain ⟨x,hx,hf,-⟩:=sN h;rw [h] at hr;rw [hf];cases b with
  |false=>rw [if_neg (by simp)] at hr;have:(-1:Int)=(n:Int):=hr;omega
  |true =>
   rw [if_pos rfl] at hr;have:k=(n:Int):=hr;subst this;exact ε.bf (by simp) (ε.ay (bd hx) (ε.ret rfl))
def ab2 {t:Φ} (hs:gO t.ι) (hl:t.ι.length≤1000000) (i:Int):oR t i=some (gD t.ι i,(gN t.ι i).isSome):=by
 unfold oR;rw [SQ hs hl];rfl
def qN (l:List cw) (f u:Int):Bool:=l.any fun x=>decide (x.At≥f)&&decide (x.At<u)
def S_ (l:List cw) (f u:Int) (hl:l.length≤1000000):yT l f u=some (qN l f u):=by
 unfold yT TW qN;refine abv (l:=l) _ (fun n x hx hn=>?_) ?_
 ·unfold B4;rw [if_pos (by simpa using hn),bd hx,aX];rw [ba (b:=decide (x.At<u)) (fun _=>by rw [aX]),aX,aX,ee (by unfold Ψ;omega)];rfl
 ·unfold B4;rw [if_neg (by simp)];rfl
end
section
open Classical in
noncomputable def oL (s:bS) (t:Φ) (p:ψ×Int):Bool:=decide (gN t.ι p.1.κ≠some p.1)&&qN s.cm p.2 (s.bH+1)
noncomputable def Bm (s:bS) (t:Φ):List bV:=((s.aC.ι.zip s.dI).filter (oL s t)).map fun p=>⟨p.2,s.bH+1,p.1⟩
open Classical in
noncomputable def oQ (s:bS) (n:ψ):Int:=match s.aC.ι.findIdx? (fun m=>decide (m=n)) with|some k=>(s.dI[k]?).getD 0|none=>s.bH+1
open Classical in
noncomputable def yB (s:bS) (t:Φ):bS:=if s.aC=t then s else ⟨t,s.bH+1,t.ι.map (oQ s),s.cW++Bm s t,s.cm,s.Next⟩
open Classical in
def adC {s:bS} (hs:gO s.aC.ι) {k:Nat} {n:ψ} (hn:s.aC.ι[k]?=some n):oQ s n=(s.dI[k]?).getD 0:=by
 unfold oQ
 have:s.aC.ι.findIdx? (fun m=>decide (m=n))=some k:=by
  rw [G7];obtain ⟨h1,h2⟩:=fX.1 hn;refine ⟨h1,by simpa using h2,fun j hj=>?_⟩;have:=Gi hs (bO (show j<s.aC.ι.length by omega)) hn hj;simp only [decide_eq_true_eq];intro e;rw [e] at this;omega
 rw [this]
open Classical in
def adD {s:bS} {n:ψ} (hn:n∉s.aC.ι):oQ s n=s.bH+1:=by
 unfold oQ
 have:s.aC.ι.findIdx? (fun m=>decide (m=n))=none:=by
  rw [w9];intro x hx;simp only [decide_eq_false_iff_not];intro e;exact hn (e▸hx)
 rw [this]
def agB {l:List ψ} {m:List Int} {k:Nat} {p:ψ×Int} (h:(l.zip m)[k]?=some p):l[k]?=some p.1∧m[k]?=some p.2:=by
 rw [List.getElem?_zip_eq_some] at h;exact h
structure PF (B:Nat) (s:bS) (t:Φ):Prop where
 f:TF B s.aC
 ft:TF B t
 b:B≤90000
 so:gO s.aC.ι
 st:gO t.ι
 si:s.dI.length=s.aC.ι.length
 tk:0≤s.bH∧s.bH≤1000000
 ps:s.cW.length≤1000000
 ta:s.cm.length≤1000000
section
variable {B:Nat} {s:bS} {t:Φ}
def PF.zl (h:PF B s t):(s.aC.ι.zip s.dI).length=s.aC.ι.length:=by rw [List.length_zip,h.si];omega
open Classical in
def acQ (h:PF B s t):LA s t (0,[]++s.cW)=some (s.cW++Bm s t):=by
 have h1:=h.f.n;have h2:=h.ft.n;have h3:=h.b;have h4:=h.tk;have h5:=h.ps;have h6:=h.ta;have hz:=h.zl;refine ε.eq ?_;unfold LA Bm;rw [←hz] at h1;refine ε.each (l:=s.aC.ι.zip s.dI) (fun k a=>a=s.cW++(((s.aC.ι.zip s.dI).take k).filter (oL s t)).map fun p=>⟨p.2,s.bH+1,p.1⟩) (fun k p a Ξ hp ha=>?_) (fun a ha=>?_) _ (by simp)
 ·obtain ⟨hx,hq⟩:=agB hp
  have aW:a.length≤1000000+k:=by
   rw [ha,cZ,au];have:=nv (oL s t) ((s.aC.ι.zip s.dI).take k);rw [da] at this;omega
  unfold BX;refine ε.cond (by simp;omega) ?_;dsimp only;refine ε.bind (R:=(·=s.cW++(((s.aC.ι.zip s.dI).take (k+1)).filter (oL s t)).map fun p=>⟨p.2,s.bH+1,p.1⟩)) ?_ fun v hv=>ε.τ (by unfold Ψ;omega) (ε.inl ⟨rfl,hv⟩);rw [kC hp,oe,bP,←oV,←ha];refine ε.ay (bd hx) (ε.ay (gX t _ (by omega)) ?_);refine ε.bind (R:=dO (gN t.ι p.1.κ=some p.1)) (ε.bind (R:=dO (gN t.ι p.1.κ=some p.1)) ?_ fun r hr=>ε.ret hr) fun r hr=>?_
  ·dsimp only;unfold gD;cases hg:gN t.ι p.1.κ with
   |none=>exact ε.bf (by simp) (ε.ret (dO.no (by simp)))
   |some m =>
    refine ε.cond rfl (ε.bind (Lc p.1 m (dN (h.f.e _ (iN hx)) (by omega))) fun r hr=>ε.ret (hr.trans ?_));simp [eq_comm]
  ·refine ε.ite (fun e=>ε.ret ?_) fun e=>ε.ay (bd hq) (ε.ay (S_ _ _ _ (by omega)) (ε.ite (fun e2=>ε.ay (bd hq) (ε.τ (by simp only [cr,dK];omega) (ε.ret ?_))) fun e2=>ε.ret ?_))
   ·have hk:oL s t p=false:=by unfold oL;rw [decide_eq_false (by rw [hr.1 e];simp)];rfl
    rw [j5,hk];simp
   ·have hk:oL s t p=true:=by unfold oL;rw [decide_eq_true (show gN t.ι p.1.κ≠some p.1 from fun h=>e (hr.2 h)),e2];rfl
    rw [j5,hk];simp
   ·have hk:oL s t p=false:=by unfold oL;rw [CE] at e2;rw [e2,ahB]
    rw [j5,hk];simp
 ·unfold BX;rw [kI] at ha;exact ε.bf (by rw [hz];simp) (ε.out (ε.ret ha))
open Classical in
open Classical in
def acS (h:PF B s t):LB t s (0,[])=some (t.ι.map (oQ s)):=by
 have h1:=h.f.n;have h2:=h.ft.n;have h3:=h.b;have h4:=h.tk;refine ε.eq ?_;unfold LB;refine ε.each (l:=t.ι) (fun k a=>a=(t.ι.take k).map (oQ s)) (fun k n a Ξ hn ha=>?_) (fun a ha=>?_) _ rfl
 ·have aW:a.length≤k:=by rw [ha,au,da];omega
  unfold BY;refine ε.cond (by simp;omega) ?_;dsimp only;refine ε.bind (R:=(·=a++[oQ s n])) (ε.bind (R:=(·=oQ s n)) ?_ fun v hv=>ε.τ (by simp only [cr,dK];omega) (ε.ret (by rw [hv]))) fun v hv=>ε.τ (by unfold Ψ;omega) (ε.inl ⟨rfl,by rw [hv,kC hn,bP,←ha];rfl⟩);unfold TN;refine ε.qg (l:=s.aC.ι) (fun j x=>x=if n∈s.aC.ι.take j then oQ s n else s.bH+1) (fun j m x agR hm hx=>?_) (fun x hx=>?_) _ (by simp)
  ·unfold BZ;refine ε.cond (by simp;omega) ?_;dsimp only;have hq:=bO (show j<s.dI.length by rw [h.si];omega);refine ε.bind (R:=(·=if n∈s.aC.ι.take (j+1) then oQ s n else s.bH+1)) (ε.ay (bd hm) (ε.ay (bd hn) (ε.bind (Lc m n (dN (h.f.e _ (iN hm)) (by omega))) fun r hr=>?_))) fun v hv=>ε.τ (by unfold Ψ;omega) (ε.inl ⟨rfl,hv⟩);rw [kC hm];refine ε.ite (fun e=>ε.ay (bd hq) (ε.ret ?_)) fun e=>ε.ret ?_
   ·have e:=hr.1 e;rw [if_pos (by rw [e];simp),adC h.so (by rw [←e];exact hm),hq];rfl
   ·have e:m≠n:=fun h=>e (hr.2 h);rw [hx];by_cases bu:n∈s.aC.ι.take j
    ·rw [if_pos bu,if_pos (by simp [bu])]
    ·rw [if_neg bu,if_neg (by simp [bu,e.symm])]
  ·unfold BZ;rw [kI] at hx;refine ε.bf (by simp) (ε.out (ε.ret ?_));dsimp only;rw [hx];split
   ·rfl
   ·next bw=>rw [adD bw]
 ·unfold BY;rw [kI] at ha;exact ε.bf (by simp) (ε.out (ε.ret ha))
def Lb (h:PF B s t):wv s t=some (yB s t):=by
 have h3:=h.b;have h4:=h.tk;have h5:=h.ps;refine ε.eq ?_;unfold wv yB;refine ε.bind (acI h.f (by omega)) fun r hr=>ε.ite (fun e=>ε.ret (by rw [if_pos (hr.1 e)])) fun e=>?_;rw [if_neg (fun h=>e (hr.2 h))];exact ε.τ (by unfold Ψ;omega) (ε.τ (by simp;omega) (ε.ay (acQ h) (ε.ay (acS h) (ε.ret rfl))))
end
end
section
def zg (s:bS) (i:Int):bS×Int×Int:=if (!(gN s.aC.ι i).isSome)=true then (s,0,70) else if ((gD s.aC.ι i).Ω != 2)=true then (s,0,73) else if (decide ((s.cm.length:Int)≥16)||decide (s.Next≥1099511627776))=true then (s,0,76) else (⟨s.aC,s.bH,s.dI,s.cW,s.cm++[⟨s.Next,i,s.bH⟩],s.Next+1⟩,s.Next,0)
def acJ (s:bS) (i:Int) (hl:s.aC.ι.length≤1000000) (ht:s.cm.length≤1000000) (hn:0≤s.Next∧s.Next≤1000000):B1 s i=some (zg s i):=by
 unfold B1 zg;rw [gX _ _ hl,aX];dsimp only;split
 ·rfl
 split
 ·rfl
 rw [bo (b:=decide (s.Next≥1099511627776)) (fun _=>rfl),aX,aX];split
 ·rfl
 rw [ee (by simp;omega),ee (by simp;omega),ee (by unfold Ψ;omega)];rfl
def rb (s:bS) (i:Int):List cw:=s.cm.filter fun x=>x.Id != i
def A7 (l:List bV) (T:List cw):List bV:=l.filter fun p=>qN T p.qY p.q7
def xo (s:bS) (i:Int):bS×Int:=if (((rb s i).length:Int)==(s.cm.length:Int))=true then (s,100) else (⟨s.aC,s.bH,s.dI,A7 s.cW (rb s i),rb s i,s.Next⟩,0)
def Py (s:bS) (i:Int):(rb s i).length≤s.cm.length:=nv _ _
def acB (s:bS) (i:Int) (ht:s.cm.length≤1000000) (hp:s.cW.length≤1000000):BU s i=some (xo s i):=by
 refine ε.eq ?_;have hd:=Py s i;unfold BU xo TL;refine ε.bind (R:=(·=rb s i)) (ε.each (l:=s.cm) (fun k a=>a=(s.cm.take k).filter fun x=>x.Id != i) (fun k x a Ξ hx ha=>?_) (fun a ha=>?_) _ rfl) fun v hv=>?_
 ·unfold BV
  have aW:a.length≤k:=by rw [ha];exact dN (nv _ _) (by rw [da];omega)
  refine ε.cond (by simpa using Ξ) ?_;dsimp only;rw [bd hx,aX];by_cases aS:(x.Id != i)=true
  ·rw [if_pos aS];exact ε.ay (ee (by simp only [cr,dK];omega)) (ε.τ (by unfold Ψ;omega) (ε.inl ⟨rfl,by rw [kC hx,oe,←ha,j5,if_pos aS];rfl⟩))
  ·rw [if_neg aS];exact ε.ay rfl (ε.τ (by unfold Ψ;omega) (ε.inl ⟨rfl,by rw [kC hx,oe,←ha,j5,if_neg aS];simp⟩))
 ·unfold BV;rw [kI] at ha;exact ε.bf (by simp) (ε.out (ε.ret ha))
 subst hv;refine ε.ite (fun e=>ε.ret (by rw [if_pos e])) fun e=>?_;rw [if_neg e];unfold TM;refine ε.bind (R:=(·=A7 s.cW (rb s i))) (ε.each (l:=s.cW) (fun k a=>a=A7 (s.cW.take k) (rb s i)) (fun k x a Ξ hx ha=>?_) (fun a ha=>?_) _ rfl) fun v hv=>ε.ret (by rw [hv])
 ·unfold BW
  have aW:a.length≤k:=by rw [ha];exact dN (nv _ _) (by rw [da];omega)
  refine ε.cond (by simpa using Ξ) ?_;dsimp only;rw [bd hx,aX,aX,S_ _ _ _ (by omega),aX];unfold A7 at *;by_cases aS:qN (rb s i) x.qY x.q7=true
  ·rw [if_pos aS];exact ε.ay (ee (by simp only [cr,dK];omega)) (ε.τ (by unfold Ψ;omega) (ε.inl ⟨rfl,by rw [kC hx,oe,←ha,j5,if_pos aS];rfl⟩))
  ·rw [if_neg aS];exact ε.ay rfl (ε.τ (by unfold Ψ;omega) (ε.inl ⟨rfl,by rw [kC hx,oe,←ha,j5,if_neg aS];simp⟩))
 ·unfold BW;rw [kI] at ha;exact ε.bf (by simp) (ε.out (ε.ret ha))
structure SI (k:Nat) (s:bS):Prop where
 f:TF (2+5*k) s.aC
 t:TS s.aC
 si:s.dI.length=s.aC.ι.length
 tk:0≤s.bH∧s.bH≤k
 nx:1≤s.Next∧s.Next≤(k:Int)+1
 sn:∀q,q∈s.dI→0≤q∧q≤s.bH
 ta:s.cm.length≤k
 ps:s.cW.length≤2000*k
 pe:∀p,p∈s.cW→p.p9.ae.length≤2+5*k
 id:s.cm.Pairwise (fun x y=>x.Id<y.Id)
 ti:∀x,x∈s.cm→(1≤x.Id∧x.Id<s.Next)∧0≤x.At∧x.At≤s.bH
 pt:∀p,p∈s.cW→(0≤p.qY∧p.qY<p.q7∧p.q7≤s.bH)∧qN s.cm p.qY p.q7=true
section
variable {k:Nat} {s:bS}
def SI.up (h:SI k s) {j:Nat} (hj:k≤j):SI j s :=
 ⟨h.f.up (by omega),h.t,h.si,by have:=h.tk;omega,by have:=h.nx;omega,h.sn,by have:=h.ta;omega,by have:=h.ps;omega,fun p hp=>by have:=h.pe p hp;omega,h.id,h.ti,h.pt⟩
def adv {l m:List cw} {f u:Int} (h:qN l f u=true) (hs:∀x,x∈l→x∈m):qN m f u=true:=by
 unfold qN at *;rw [V1] at *;obtain ⟨x,hx,hp⟩:=h;exact ⟨x,hs x hx,hp⟩
def SI.take (h:SI k s) (i:Int):SI (k+1) (zg s i).1:=by
 have h0:=h.up (j:=k+1) (by omega);have nT:=h.tk;have hnx:=h.nx;unfold zg;split
 ·exact h0
 split
 ·exact h0
 split
 ·exact h0
 refine ⟨h0.f,h.t,h.si,h0.tk,by dsimp only;omega,h.sn,by have:=h.ta;simp;omega,h0.ps,h0.pe,?_,fun x hx=>?_,fun p hp=>⟨(h.pt p hp).1,adv (h.pt p hp).2 fun x hx=>p4 _ hx⟩⟩
 ·refine List.pairwise_append.2 ⟨h.id,zD _ _,fun x hx y hy=>?_⟩;obtain rfl:=dV.1 hy;have:=h.ti x hx;dsimp only;omega
 ·rcases iY.1 hx with hx|hx
  ·have:=h.ti x hx;dsimp only;omega
  ·obtain rfl:=dV.1 hx;dsimp only;omega
def SI.drop (h:SI k s) (i:Int):SI k (xo s i).1:=by
 unfold xo;split
 ·exact h
 refine ⟨h.f,h.t,h.si,h.tk,h.nx,h.sn,by have:=h.ta;have:=Py s i;dsimp only;omega,?_,fun p hp=>h.pe p (dU.1 hp).1,h.id.filter _,fun x hx=>h.ti x (dU.1 hx).1,fun p hp=>⟨(h.pt p (dU.1 hp).1).1,(dU.1 hp).2⟩⟩;have:=h.ps;have:=nv (fun p=>qN (rb s i) p.qY p.q7) s.cW;unfold A7;dsimp only;omega
end
def M_:Φ:=⟨[⟨1,2,0,[],[],1⟩],2,1⟩
def Me:bS:=⟨M_,0,[0],[],[],1⟩
def Wz:SI 0 Me:=by
 refine ⟨⟨by decide,fun n hn=>?_,fun n hn=>?_,by decide,by decide⟩,⟨zD _ _,fun n hn=>?_,⟨_,rfl,rfl⟩,fun n hn e he=>?_⟩,rfl,by decide,by decide,fun q hq=>?_,by decide,by decide,fun p hp=>(by cases hp),pY,fun x hx=>(by cases hx),fun p hp=>(by cases hp)⟩;iterate 3 (obtain rfl:=dV.1 hn;decide)
 ·obtain rfl:=dV.1 hn;cases he
 ·obtain rfl:=dV.1 hq;decide
end
section
def zQ:∀x:List UInt8,eZ x x=false
 |[]=>rfl
 |a::x=>by
  have:=zQ x;simp only [eZ,this,ahB,Bool.or_false];simp
def HF:∀{x y z:List UInt8},eZ x y=true→eZ y z=true→eZ x z=true
 |[],_,[],_,h=>by cases ‹List UInt8›<;>simp [eZ] at h
 |[],_,_::_,_,_=>rfl
 |_::_,[],_,h,_=>by simp [eZ] at h
 |_::_,_::_,[],_,h=>by simp [eZ] at h
 |a::x,b::y,c::z,h1,h2=>by
  simp only [eZ,qT,bM,decide_eq_true_eq,beq_iff_eq] at *
  rcases h1 with h1|⟨rfl,h1⟩<;>rcases h2 with h2|⟨rfl,h2⟩
  ·exact .inl (UInt8.lt_trans h1 h2)
  ·exact .inl h1
  ·exact .inl h2
  ·exact .inr ⟨rfl,HF h1 h2⟩
def O8:∀x y:List UInt8,eZ x y=true∨x=y∨eZ y x=true
 |[],[]=>.inr (.inl rfl)
 |[],_::_=>.inl rfl
 |_::_,[]=>.inr (.inr rfl)
 |a::x,b::y=>by
  simp only [eZ,qT,bM,decide_eq_true_eq,beq_iff_eq]
  rcases OG a.toNat b.toNat with h|h|h
  ·exact .inl (.inl (Wo.2 h))
  ·have:a=b:=OK.1 h;subst this
   rcases O8 x y with h|h|h
   ·exact .inl (.inr ⟨rfl,h⟩)
   ·exact .inr (.inl (by rw [h]))
   ·exact .inr (.inr (.inr ⟨rfl,h⟩))
  ·exact .inr (.inr (.inl (Wo.2 h)))
def cE (l:List aJ) (i:Int):Nat:=l.countP fun e=>e.κ==i
def cM (l:List ψ) (i:Int):Nat:=(l.map fun n=>cE n.ae i).sum
def sB {l:List aJ} {i:Int}:0<cE l i↔∃e,e∈l∧e.κ=i:=by
 unfold cE;rw [Ol];simp
def zU {l:List ψ} {i:Int}:0<cM l i↔∃n,n∈l∧∃e,e∈n.ae∧e.κ=i:=by
 induction l with
 |nil=>simp [cM]
 |cons x l ih =>
  have:cM (x::l) i=cE x.ae i+cM l i:=by simp [cM]
  rw [this];constructor
  ·intro h
   rcases nw (cE x.ae i) with h0|h0
   ·obtain ⟨n,hn,h⟩:=ih.1 (by omega);exact ⟨n,cu _ hn,h⟩
   ·exact ⟨x,by simp,sB.1 h0⟩
  ·rintro ⟨n,hn,h⟩
   rcases bp.1 hn with rfl|hn
   ·have:=sB.2 h;omega
   ·have:=ih.2 ⟨n,hn,h⟩;omega
def ra (x:ψ) (l:List ψ) (i:Int):cM (x::l) i=cE x.ae i+cM l i:=by simp [cM]
def P9 (x:ψ) (l:List ψ) (i:Int):gD (x::l) i=if x.κ=i then x else gD l i:=by
 unfold gD;rw [ql];split<;>rfl
def Pn {l:List ψ} (h:gO l) (j i:Int):cM (l.filter (fun x=>x.κ != j)) i+cE (gD l j).ae i=cM l i:=by
 induction l with
 |nil=>rfl
 |cons x l ih =>
  obtain ⟨h1,h2⟩:=iy.1 h;rw [j5,ra,P9];by_cases e:x.κ=j
  ·have:l.filter (fun x=>x.κ != j)=l:=by
    rw [w8];intro y hy;have:=h1 y hy;simp;omega
   rw [if_neg (by simp [e]),if_pos e,this];omega
  ·rw [if_pos (by simpa using e),if_neg e,ra,←ih h2];omega
def zV {n:ψ} (i:Int):∀{l:List ψ},gO l→cM (cz n l) i+cE (gD l n.κ).ae i=cM l i+cE n.ae i
 |[],_=>by
  show cM [n] i+cE oK.ae i=cM [] i+cE n.ae i;rw [ra];simp [cM,oK,cE]
 |x::r,h=>by
  obtain ⟨h1,h2⟩:=iy.1 h;rw [yz];by_cases e:x.κ≥n.κ
  ·rw [if_pos e,ra];have:=Pn h n.κ i;omega
  ·rw [if_neg e,ra,ra,P9,if_neg (by omega)];have:=zV (n:=n) i h2;omega
def E0 {n:ψ}:∀{l:List ψ},gO l→(gN l n.κ).isSome=true→(cz n l).length=l.length
 |[],_,hp=>by simp [gN] at hp
 |x::r,h,hp=>by
  obtain ⟨h1,h2⟩:=iy.1 h;rw [yz];rw [ql] at hp;by_cases e:x.κ≥n.κ
  ·rw [if_pos e];by_cases e2:x.κ=n.κ
   ·have:r.filter (fun y=>y.κ != n.κ)=r:=by
     rw [w8];intro y hy;have:=h1 y hy;simp;omega
    rw [j5,if_neg (by simp [e2]),this];rfl
   ·rw [if_neg e2] at hp;obtain ⟨m,hm⟩:=xd.1 hp;have:=dS hm;have:=h1 m this.1;omega
  ·rw [if_neg e];rw [if_neg (by omega)] at hp;simp only [cr,E0 h2 hp]
inductive Deep (l:List ψ):Int→Nat→Prop
 |root:Deep l 1 0
 |step {i:Int} {n:ψ} {d:Nat}:i≠1→gN l i=some n→n.Ω=2→Deep l n.Up d→Deep l i (d+1)
def Deep.uniq {l:List ψ} {i:Int} {a:Nat} (h:Deep l i a):∀{b:Nat},Deep l i b→a=b:=by
 induction h with
 |root=>intro b hb;cases hb with|root=>rfl|step h1=>exact absurd rfl h1
 |step h1 h2 h3 h4 ih =>
  intro b hb;cases hb with
  |root=>exact absurd rfl h1
  |step g1 g2 g3 g4=>rw [h2] at g2;cases g2;rw [ih g4]
def Deep.congr {l l':List ψ} (H:∀j n,gN l j=some n→n.Ω=2→∃n',gN l' j=some n'∧n'.Ω=n.Ω∧n'.Up=n.Up) {i:Int} {d:Nat} (h:Deep l i d):Deep l' i d:=by
 induction h with
 |root=>exact .root
 |step h1 h2 h3 h4 ih =>
  obtain ⟨n',e1,e2,e3⟩:=H _ _ h2 h3;exact .step h1 e1 (by rw [e2,h3]) (by rw [e3];exact ih)
structure sh (c:Int) (l:List aJ):Prop where
 n:l.length≤64
 s:l.Pairwise fun a b=>eZ a.aR b.aR=true
 r:∀e,e∈l→d_ e.aR=true∧1≤e.ar∧e.ar<c
 k:l.Pairwise fun a b=>a.ar≠b.ar
def OS (l:List ψ) (δ:Int→Nat) (n:ψ):Prop:=n.Ω=1∧n.ae=[]∧n.Up=0∧n.aP.length≤4096∧n.a_=(cM l n.κ:Int)+δ n.κ
def OW (l:List ψ) (δ:Int→Nat) (n:ψ):Prop:=n.κ=1∧n.Up=1∧n.a_=0∧cM l 1=0∧δ 1=0
def Hj (l:List ψ) (δ:Int→Nat) (n:ψ):Prop:=n.κ≠1∧cM l n.κ+δ n.κ=1∧n.a_=1∧(δ n.κ=0→∃p,gN l n.Up=some p∧∃e,e∈p.ae∧e.κ=n.κ)
def uD (l:List ψ) (δ:Int→Nat) (n:ψ):Prop:=OS l δ n∨(n.Ω=2∧n.aP=[]∧(OW l δ n∨Hj l δ n))
structure W (t:Φ) (δ:Int→Nat):Prop where
 s:gO t.ι
 lo:∀n,n∈t.ι→1≤n.κ∧n.κ<t.Next
 rt:∃n,gN t.ι 1=some n∧n.Ω=2
 len:t.ι.length≤200
 ck:1≤t.ar
 en:∀n,n∈t.ι→sh t.ar n.ae
 cl:∀n,n∈t.ι→∀e,e∈n.ae→(gN t.ι e.κ).isSome=true
 nd:∀n,n∈t.ι→uD t.ι δ n
 dp:∀n,n∈t.ι→n.Ω=2→∃d,Deep t.ι n.κ d∧d≤12∧(d=12→n.ae=[])
def uD.kind {l:List ψ} {δ:Int→Nat} {n:ψ} (h:uD l δ n):n.Ω=1∨n.Ω=2:=by
 rcases h with h|h
 ·exact .inl h.1
 ·exact .inr h.1
section
variable {t:Φ} {δ:Int→Nat}
def W.nx (h:W t δ):1<t.Next:=by
 obtain ⟨n,hn,-⟩:=h.rt;have:=dS hn;have h1:=h.lo n this.1;omega
def W.get (h:W t δ) {i:Int} {n:ψ} (hn:gN t.ι i=some n):n∈t.ι∧n.κ=i∧gD t.ι i=n:=⟨(dS hn).1,(dS hn).2,by unfold gD;rw [hn];rfl⟩
def W.dir (h:W t δ) {n:ψ} (hn:n∈t.ι) (hk:n.Ω=2):OW t.ι δ n∨Hj t.ι δ n:=by
 rcases h.nd n hn with h|h
 ·exact absurd h.1 (by omega)
 ·exact h.2.2
def W.file (h:W t δ) {n:ψ} (hn:n∈t.ι) (hk:n.Ω≠2):OS t.ι δ n:=by
 rcases h.nd n hn with h|h
 ·exact h
 ·exact absurd h.1 hk
def W.one (h:W t δ) {n:ψ} (hn:n∈t.ι) (h1:n.κ=1):n.Ω=2:=by
 obtain ⟨r,hr,hk⟩:=h.rt;have:=dS hr;rw [Gj h.s hn this.1 (by rw [h1,this.2])];exact hk
def W.EN (h:W t δ):cM t.ι 1=0∧δ 1=0:=by
 obtain ⟨r,hr,hk⟩:=h.rt;have:=dS hr
 rcases h.dir this.1 hk with h2|h2
 ·exact h2.2.2.2
 ·exact absurd this.2 h2.1
def W.Be (h:W t δ) {n:ψ} (hn:n∈t.ι) {e:aJ} (he:e∈n.ae):e.κ≠1:=by
 intro h1;have:0<cM t.ι 1:=zU.2 ⟨n,hn,e,he,h1⟩;have:=h.EN.1;omega
def W.PQ (h:W t δ) {m:ψ} (hm:m∈t.ι) (hk:m.Ω=2) {E:List aJ} {c:Int} {gA:Int→Nat} (hc:t.ar≤c) (hE:sh c E)
  (dH:∀e,e∈E→(gN t.ι e.κ).isSome=true) (sR:∀i,cE E i+gA i=cE m.ae i+δ i)
  (AS:∀q,q∈t.ι→q.Ω=2→0<δ q.κ→gA q.κ=0→q.Up=m.κ)
  (uW:E=[]∨m.ae≠[]∨∃d,Deep t.ι m.κ d∧d<12):W ⟨cz ⟨m.κ,m.Ω,m.a_,m.aP,E,m.Up⟩ t.ι,t.Next,c⟩ gA:=by
 have hg:gN t.ι m.κ=some m:=uO h.s hm;have dZ:gD t.ι m.κ=m:=(h.get hg).2.2;have eo:=h.ck
 have jd:∀i,cM (cz ⟨m.κ,m.Ω,m.a_,m.aP,E,m.Up⟩ t.ι) i+gA i=cM t.ι i+δ i:=fun i=>by
  have h1:=zV (n:=⟨m.κ,m.Ω,m.a_,m.aP,E,m.Up⟩) i h.s;have h2:=sR i;dsimp only at h1;rw [dZ] at h1;omega
 have iG:∀i,gN (cz ⟨m.κ,m.Ω,m.a_,m.aP,E,m.Up⟩ t.ι) i=if i=m.κ then some ⟨m.κ,m.Ω,m.a_,m.aP,E,m.Up⟩ else gN t.ι i:=fun i=>lW _ i _
 have tg:∀i,(gN t.ι i).isSome=true→(gN (cz ⟨m.κ,m.Ω,m.a_,m.aP,E,m.Up⟩ t.ι) i).isSome=true:=fun i hi=>by
  rw [iG];split;rfl;exact hi
 have bu:∀{y},y∈cz ⟨m.κ,m.Ω,m.a_,m.aP,E,m.Up⟩ t.ι→y=⟨m.κ,m.Ω,m.a_,m.aP,E,m.Up⟩∨(y∈t.ι∧y.κ≠m.κ):=rO;have bw:=h.EN
 have rm:∀{i d},Deep t.ι i d→Deep (cz ⟨m.κ,m.Ω,m.a_,m.aP,E,m.Up⟩ t.ι) i d:=fun hd=>hd.congr fun j n hj _=>by
  rw [iG];by_cases e:j=m.κ
  ·rw [if_pos e];rw [e,hg] at hj;cases hj;exact ⟨_,rfl,rfl,rfl⟩
  ·rw [if_neg e];exact ⟨n,hj,rfl,rfl⟩
 have Q9:∀q,q∈t.ι→∀q':ψ,q'.κ=q.κ→q'.Ω=q.Ω→q'.Up=q.Up→q'.a_=q.a_→q'.aP=q.aP→(q.Ω=1→q'.ae=[])→uD (cz ⟨m.κ,m.Ω,m.a_,m.aP,E,m.Up⟩ t.ι) gA q':=by
  intro q hq q' e1 e2 e3 e4 e5 e6
  rcases h.nd q hq with hf|⟨gg,uX,hr|hd⟩
  ·refine .inl ⟨by rw [e2,hf.1],e6 hf.1,by rw [e3,hf.2.2.1],by rw [e5];exact hf.2.2.2.1,?_⟩;have:=hf.2.2.2.2;have:=jd q.κ;rw [e4,e1];omega
  ·refine .inr ⟨by rw [e2,gg],by rw [e5,uX],.inl ⟨by rw [e1,hr.1],by rw [e3,hr.2.1],by rw [e4,hr.2.2.1],?_,?_⟩⟩<;>(have:=jd 1;omega)
  ·refine .inr ⟨by rw [e2,gg],by rw [e5,uX],.inr ⟨by rw [e1];exact hd.1,by rw [e1,jd];exact hd.2.1,by rw [e4];exact hd.2.2.1,fun h0=>?_⟩⟩;rw [e1] at h0;rw [e3,e1];have Rh:=sR q.κ
   rcases nw (δ q.κ) with hz|hz
   ·obtain ⟨p,hp,e,he,rp⟩:=hd.2.2.2 hz;by_cases ye:q.Up=m.κ
    ·refine ⟨_,by rw [iG,if_pos ye],?_⟩;rw [ye,hg] at hp;cases hp;have:0<cE m.ae q.κ:=sB.2 ⟨e,he,rp⟩;exact sB.1 (by dsimp only;omega)
    ·exact ⟨p,by rw [iG,if_neg ye,hp],e,he,rp⟩
   ·have hu:=AS q hq gg hz h0;refine ⟨_,by rw [iG,if_pos hu],?_⟩;exact sB.1 (by dsimp only;omega)
 refine ⟨yA h.s,fun n hn=>?_,?_,?_,by dsimp only;omega,fun n hn=>?_,fun n hn e he=>?_,fun n hn=>?_,fun n hn cd=>?_⟩
 ·rcases bu hn with rfl|⟨hn,-⟩
  ·exact h.lo m hm
  ·exact h.lo n hn
 ·obtain ⟨r,hr,jT⟩:=h.rt;dsimp only;rw [iG];by_cases e:1=m.κ
  ·exact ⟨⟨m.κ,m.Ω,m.a_,m.aP,E,m.Up⟩,by rw [if_pos e],hk⟩
  ·exact ⟨r,by rw [if_neg e,hr],jT⟩
 ·dsimp only;rw [E0 h.s (by dsimp only;rw [hg];rfl)];exact h.len
 ·rcases bu hn with rfl|⟨hn,-⟩
  ·exact hE
  ·have:=h.en n hn;exact ⟨this.n,this.s,fun e he=>⟨(this.r e he).1,by have:=(this.r e he).2;dsimp only;omega⟩,this.k⟩
 ·rcases bu hn with rfl|⟨hn,-⟩
  ·exact tg _ (dH e he)
  ·exact tg _ (h.cl n hn e he)
 ·rcases bu hn with rfl|⟨hn,-⟩
  ·exact Q9 m hm _ rfl rfl rfl rfl rfl (fun e=>by omega)
  ·exact Q9 n hn n rfl rfl rfl rfl rfl (fun e=>by
    rcases h.nd n hn with hf|hf
    ·exact hf.2.1
    ·have:=hf.1;omega)
 ·rcases bu hn with rfl|⟨hn,-⟩
  ·obtain ⟨d,h1,h2,h3⟩:=h.dp m hm hk;refine ⟨d,rm h1,h2,fun e=>?_⟩
   rcases uW with h4|h4|⟨d',h4,h5⟩
   ·exact h4
   ·exact absurd (h3 e) h4
   ·have:=h1.uniq h4;omega
  ·obtain ⟨d,h1,h2,h3⟩:=h.dp n hn cd;exact ⟨d,rm h1,h2,h3⟩
end
end
section
section
variable {t:Φ} {δ gA:Int→Nat}
def uD.congr {l l':List ψ} {n:ψ} (h:uD l δ n) (hc:cM l' n.κ=cM l n.κ) (h1:cM l' 1=cM l 1) (hd:gA n.κ=δ n.κ) (I9:gA 1=δ 1) (hp:∀p,gN l n.Up=some p→n.κ≠1→n.Ω=2→∃p',gN l' n.Up=some p'∧p'.ae=p.ae):uD l' gA n:=by
 rcases h with h|⟨hk,uX,h|h⟩
 ·exact .inl ⟨h.1,h.2.1,h.2.2.1,h.2.2.2.1,by rw [hc,hd];exact h.2.2.2.2⟩
 ·exact .inr ⟨hk,uX,.inl ⟨h.1,h.2.1,h.2.2.1,by rw [h1];exact h.2.2.2.1,by rw [I9];exact h.2.2.2.2⟩⟩
 ·refine .inr ⟨hk,uX,.inr ⟨h.1,by rw [hc,hd];exact h.2.1,h.2.2.1,fun h0=>?_⟩⟩;rw [hd] at h0;obtain ⟨p,h2,h3⟩:=h.2.2.2 h0;obtain ⟨p',h4,h5⟩:=hp p h2 h.1 hk;exact ⟨p',h4,by rw [h5];exact h3⟩
def W.of_eq (h:W t δ) (he:∀i,gA i=δ i):W t gA:=by
 have:gA=δ:=funext he;rw [this];exact h
def W.Ij (h:W t δ) {m:ψ} (hm:m∈t.ι) (hk:m.Ω≠2) {L:Int} {D:List UInt8} (hD:D.length≤4096) (hd:∀i,i≠m.κ→gA i=δ i) (hL:L=(cM t.ι m.κ:Int)+gA m.κ):W ⟨cz ⟨m.κ,m.Ω,L,D,m.ae,m.Up⟩ t.ι,t.Next,t.ar⟩ gA:=by
 have hg:gN t.ι m.κ=some m:=uO h.s hm;have dZ:gD t.ι m.κ=m:=(h.get hg).2.2;have hf:=h.file hm hk;have ij:m.κ≠1:=fun e=>hk (h.one hm e)
 have jd:∀i,cM (cz ⟨m.κ,m.Ω,L,D,m.ae,m.Up⟩ t.ι) i=cM t.ι i:=fun i=>by
  have h1:=zV (n:=⟨m.κ,m.Ω,L,D,m.ae,m.Up⟩) i h.s;dsimp only at h1;rw [dZ] at h1;omega
 have iG:∀i,gN (cz ⟨m.κ,m.Ω,L,D,m.ae,m.Up⟩ t.ι) i=if i=m.κ then some ⟨m.κ,m.Ω,L,D,m.ae,m.Up⟩ else gN t.ι i:=fun i=>lW _ i _
 have QH:∀i p,gN t.ι i=some p→∃p',gN (cz ⟨m.κ,m.Ω,L,D,m.ae,m.Up⟩ t.ι) i=some p'∧p'.ae=p.ae∧p'.Ω=p.Ω∧p'.Up=p.Up:=fun i p hp=>by
  by_cases e:i=m.κ
  ·rw [e,hg] at hp;cases hp;exact ⟨⟨m.κ,m.Ω,L,D,m.ae,m.Up⟩,by rw [iG,if_pos e],rfl,rfl,rfl⟩
  ·exact ⟨p,by rw [iG,if_neg e,hp],rfl,rfl,rfl⟩
 have tg:∀i,(gN t.ι i).isSome=true→(gN (cz ⟨m.κ,m.Ω,L,D,m.ae,m.Up⟩ t.ι) i).isSome=true:=fun i hi=>by
  rw [iG];split;rfl;exact hi
 have bu:∀{y},y∈cz ⟨m.κ,m.Ω,L,D,m.ae,m.Up⟩ t.ι→y=⟨m.κ,m.Ω,L,D,m.ae,m.Up⟩∨(y∈t.ι∧y.κ≠m.κ):=rO
 have rm:∀{i d},Deep t.ι i d→Deep (cz ⟨m.κ,m.Ω,L,D,m.ae,m.Up⟩ t.ι) i d:=fun hd=>hd.congr fun j n hj _=>by
  obtain ⟨p',h1,-,h2,h3⟩:=QH j n hj;exact ⟨p',h1,h2,h3⟩
 refine ⟨yA h.s,fun n hn=>?_,?_,?_,h.ck,fun n hn=>?_,fun n hn e he=>?_,fun n hn=>?_,fun n hn cd=>?_⟩
 ·rcases bu hn with rfl|⟨hn,-⟩
  ·exact h.lo m hm
  ·exact h.lo n hn
 ·obtain ⟨r,hr,jT⟩:=h.rt;exact ⟨r,by dsimp only;rw [iG,if_neg (jJ ij),hr],jT⟩
 ·dsimp only;rw [E0 h.s (by dsimp only;rw [hg];rfl)];exact h.len
 ·rcases bu hn with rfl|⟨hn,-⟩
  ·exact h.en m hm
  ·exact h.en n hn
 ·rcases bu hn with rfl|⟨hn,-⟩
  ·exact tg _ (h.cl m hm e he)
  ·exact tg _ (h.cl n hn e he)
 ·rcases bu hn with rfl|⟨hn,aS⟩
  ·exact .inl ⟨hf.1,hf.2.1,hf.2.2.1,hD,by dsimp only;rw [jd];exact hL⟩
  ·refine (h.nd n hn).congr (jd _) (jd _) (hd _ aS) (hd _ (jJ ij)) fun p hp _ _=>?_;obtain ⟨p',h1,h2,-⟩:=QH _ p hp;exact ⟨p',h1,h2⟩
 ·rcases bu hn with rfl|⟨hn,-⟩
  ·exact absurd cd hk
  ·obtain ⟨d,h1,h2,h3⟩:=h.dp n hn cd;exact ⟨d,rm h1,h2,h3⟩
def W.gone (h:W t δ) {m:ψ} (hm:m∈t.ι) (ij:m.κ≠1) (hE:m.ae=[]) (hc:cM t.ι m.κ=0) (hu:∀q,q∈t.ι→q.Ω=2→q.κ≠1→q.κ≠m.κ→q.Up≠m.κ) (hd:∀i,i≠m.κ→gA i=δ i):W ⟨t.ι.filter (fun x=>x.κ != m.κ),t.Next,t.ar⟩ gA:=by
 have hg:gN t.ι m.κ=some m:=uO h.s hm;have dZ:gD t.ι m.κ=m:=(h.get hg).2.2
 have jd:∀i,cM (t.ι.filter (fun x=>x.κ != m.κ)) i=cM t.ι i:=fun i=>by
  have h1:=Pn h.s m.κ i;rw [dZ,hE] at h1;simp [cE] at h1;exact h1
 have iG:∀i,gN (t.ι.filter (fun x=>x.κ != m.κ)) i=if i=m.κ then none else gN t.ι i:=fun i=>xD _ _ _
 have bu:∀{y},y∈t.ι.filter (fun x=>x.κ != m.κ)→y∈t.ι∧y.κ≠m.κ:=fun hy=>by
  have:=dU.1 hy;exact ⟨this.1,by simpa using this.2⟩
 have rm:∀{i d},Deep t.ι i d→i≠m.κ→Deep (t.ι.filter (fun x=>x.κ != m.κ)) i d:=by
  intro i d hd;induction hd with
  |root=>intro _;exact .root
  |@step i n d h1 h2 h3 h4 ih =>
   intro aS;have:=dS h2;exact .step h1 (by rw [iG,if_neg aS,h2]) h3 (ih (hu n this.1 h3 (by rw [this.2];exact h1) (by rw [this.2];exact aS)))
 refine ⟨PX h.s _,fun n hn=>h.lo n (bu hn).1,?_,?_,h.ck,fun n hn=>h.en n (bu hn).1,fun n hn e he=>?_,fun n hn=>?_,fun n hn cd=>?_⟩
 ·obtain ⟨r,hr,jT⟩:=h.rt;exact ⟨r,by dsimp only;rw [iG,if_neg (jJ ij),hr],jT⟩
 ·exact dN (nv _ _) h.len
 ·have hn:=(bu hn).1;dsimp only;rw [iG,if_neg ?_]
  ·exact h.cl n hn e he
  ·intro h1;have:0<cM t.ι m.κ:=zU.2 ⟨n,hn,e,he,h1⟩;omega
 ·obtain ⟨hn,aS⟩:=bu hn;refine (h.nd n hn).congr (jd _) (jd _) (hd _ aS) (hd _ (jJ ij)) fun p hp h1 hk=>⟨p,?_,rfl⟩;rw [iG,if_neg (hu n hn hk h1 aS),hp]
 ·obtain ⟨hn,aS⟩:=bu hn;obtain ⟨d,h1,h2,h3⟩:=h.dp n hn cd;exact ⟨d,rm h1 aS,h2,h3⟩
def W.new (h:W t δ) (hl:t.ι.length<200) {k u:Int} (hk:k=1∧u=0∨k=2∧∃d,Deep t.ι u d∧d<12) (h0:δ t.Next=0) (hd:∀i,gA i=δ i+if i=t.Next then 1 else 0):W ⟨cz ⟨t.Next,k,1,[],[],u⟩ t.ι,t.Next+1,t.ar⟩ gA:=by
 have hx:=h.nx
 have bw:gN t.ι t.Next=none:=II.2 fun n hn e=>by have:=h.lo n hn;omega
 have dZ:gD t.ι t.Next=oK:=by unfold gD;rw [bw];rfl
 have jd:∀i,cM (cz ⟨t.Next,k,1,[],[],u⟩ t.ι) i=cM t.ι i:=fun i=>by
  have h1:=zV (n:=⟨t.Next,k,1,[],[],u⟩) i h.s;dsimp only at h1;rw [dZ] at h1;simp [cE,oK] at h1;exact h1
 have Qx:cM t.ι t.Next=0:=by
  rcases nw (cM t.ι t.Next) with h1|h1
  ·exact h1
  ·obtain ⟨n,hn,e,he,rp⟩:=zU.1 h1;have:=h.cl n hn e he;rw [rp,bw] at this;cases this
 have iG:∀i,gN (cz ⟨t.Next,k,1,[],[],u⟩ t.ι) i=if i=t.Next then some ⟨t.Next,k,1,[],[],u⟩ else gN t.ι i:=fun i=>lW _ i _
 have sW:∀i p,gN t.ι i=some p→gN (cz ⟨t.Next,k,1,[],[],u⟩ t.ι) i=some p:=fun i p hp=>by
  rw [iG,if_neg,hp];intro e;rw [e,bw] at hp;cases hp
 have bu:∀{y},y∈cz ⟨t.Next,k,1,[],[],u⟩ t.ι→y=⟨t.Next,k,1,[],[],u⟩∨(y∈t.ι∧y.κ≠t.Next):=rO;have rm:∀{i d},Deep t.ι i d→Deep (cz ⟨t.Next,k,1,[],[],u⟩ t.ι) i d:=fun hd=>hd.congr fun j n hj _=>⟨n,sW j n hj,rfl,rfl⟩;refine ⟨yA h.s,fun n hn=>?_,?_,?_,h.ck,fun n hn=>?_,fun n hn e he=>?_,fun n hn=>?_,fun n hn cd=>?_⟩
 ·rcases bu hn with rfl|⟨hn,-⟩
  ·dsimp only;omega
  ·have:=h.lo n hn;dsimp only;omega
 ·obtain ⟨r,hr,jT⟩:=h.rt;exact ⟨r,sW _ _ hr,jT⟩
 ·have:=KV ⟨t.Next,k,1,[],[],u⟩ t.ι;dsimp only;omega
 ·rcases bu hn with rfl|⟨hn,-⟩
  ·exact ⟨by simp,pY,fun e he=>(by cases he),pY⟩
  ·exact h.en n hn
 ·rcases bu hn with rfl|⟨hn,-⟩
  ·cases he
  ·obtain ⟨p,hp⟩:=xd.1 (h.cl n hn e he);dsimp only;rw [sW _ _ hp];rfl
 ·rcases bu hn with rfl|⟨hn,aS⟩
  ·have e1:gA t.Next=1:=by rw [hd,h0,if_pos rfl]
   rcases hk with ⟨h1,h2⟩|⟨h1,h2⟩
   ·exact .inl ⟨h1,rfl,h2,by simp,by dsimp only;rw [jd,Qx,e1];rfl⟩
   ·exact .inr ⟨h1,rfl,.inr ⟨by dsimp only;omega,by dsimp only;rw [jd,Qx,e1],rfl,fun h=>by dsimp only at h;omega⟩⟩
  ·exact (h.nd n hn).congr (jd _) (jd _) (by rw [hd,if_neg aS];rfl) (by rw [hd,if_neg (by omega)];rfl) fun p hp _ _=>⟨p,sW _ _ hp,rfl⟩
 ·rcases bu hn with rfl|⟨hn,-⟩
  ·rcases hk with ⟨h1,h2⟩|⟨h1,d,h2,h3⟩
   ·dsimp only at cd;omega
   ·exact ⟨d+1,.step (by dsimp only;omega) (by rw [iG,if_pos rfl]) h1 (rm h2),by omega,fun _=>rfl⟩
  ·obtain ⟨d,h1,h2,h3⟩:=h.dp n hn cd;exact ⟨d,rm h1,h2,h3⟩
inductive kO (l:List ψ) (x:Int):Int→Prop
 |refl:kO l x x
 |step {i:Int} {n:ψ}:i≠1→gN l i=some n→n.Ω=2→kO l x n.Up→kO l x i
def Deep.EO {l l':List ψ} {x:Int} (hg:∀i,i≠x→gN l' i=gN l i) {i:Int} {d:Nat} (h:Deep l i d):¬kO l x i→Deep l' i d:=by
 induction h with
 |root=>intro _;exact .root
 |@step i n d h1 h2 h3 h4 ih =>
  intro hu;have aS:i≠x:=fun e=>hu (e▸.refl);exact .step h1 (by rw [hg i aS,h2]) h3 (ih fun h=>hu (.step h1 h2 h3 h))
def kO.deep {l:List ψ} {x:Int} {dx:Nat} (hx:Deep l x dx) {i:Int} (h:kO l x i):∀{d:Nat},Deep l i d→dx≤d:=by
 induction h with
 |refl=>intro d hd;rw [hx.uniq hd];exact bm _
 |step h1 h2 h3 h4 ih =>
  intro d hd;cases hd with
  |root=>exact absurd rfl h1
  |step g1 g2 g3 g4=>rw [h2] at g2;cases g2;have:=ih g4;omega
def kO.abD {l l':List ψ} {x:Int} {x':ψ} (hg:∀i,i≠x→gN l' i=gN l i) (θ:x≠1) (gI:gN l' x=some x') (hk:x'.Ω=2) {dt dx:Nat} (ht:Deep l' x'.Up dt) (hx:Deep l x dx) {i:Int} (h:kO l x i):∀{d:Nat},Deep l i d→Deep l' i (dt+1+(d-dx)):=by
 induction h with
 |refl=>intro d hd;rw [hx.uniq hd,Nat.sub_self];exact .step θ gI hk ht
 |@step i n h1 h2 h3 h4 ih =>
  intro d hd;by_cases e:i=x
  ·subst e;rw [hx.uniq hd,Nat.sub_self];exact .step θ gI hk ht
  ·cases hd with
   |root=>exact absurd rfl h1
   |@step _ n' d' g1 g2 g3 g4 =>
    rw [h2] at g2;cases g2;have h5:=ih g4;have h6:=h4.deep hx g4
    have:dt+1+(d'+1-dx)=dt+1+(d'-dx)+1:=by omega
    rw [this];exact .step h1 (by rw [hg i e,h2]) h3 h5
def W.abE (h:W t δ) {m:ψ} (hm:m∈t.ι) (hk:m.Ω=2) (ij:m.κ≠1) (hw:0<δ m.κ) {to:Int} {dt dx:Nat} (ht:Deep t.ι to dt) (hx:Deep t.ι m.κ dx) (yb:¬kO t.ι m.κ to)
  (uW:∀n,n∈t.ι→n.Ω=2→kO t.ι m.κ n.κ→∀d,Deep t.ι n.κ d→dt+1+(d-dx)≤12∧(dt+1+(d-dx)=12→n.ae=[])):W ⟨cz ⟨m.κ,m.Ω,m.a_,m.aP,m.ae,to⟩ t.ι,t.Next,t.ar⟩ δ:=by
 have hg:gN t.ι m.κ=some m:=uO h.s hm;have dZ:gD t.ι m.κ=m:=(h.get hg).2.2
 have jd:∀i,cM (cz ⟨m.κ,m.Ω,m.a_,m.aP,m.ae,to⟩ t.ι) i=cM t.ι i:=fun i=>by
  have h1:=zV (n:=⟨m.κ,m.Ω,m.a_,m.aP,m.ae,to⟩) i h.s;dsimp only at h1;rw [dZ] at h1;omega
 have iG:∀i,gN (cz ⟨m.κ,m.Ω,m.a_,m.aP,m.ae,to⟩ t.ι) i=if i=m.κ then some ⟨m.κ,m.Ω,m.a_,m.aP,m.ae,to⟩ else gN t.ι i:=fun i=>lW _ i _
 have QJ:gN (cz ⟨m.κ,m.Ω,m.a_,m.aP,m.ae,to⟩ t.ι) m.κ=some ⟨m.κ,m.Ω,m.a_,m.aP,m.ae,to⟩:=by rw [iG,if_pos rfl]
 have sV:∀i,i≠m.κ→gN (cz ⟨m.κ,m.Ω,m.a_,m.aP,m.ae,to⟩ t.ι) i=gN t.ι i:=fun i hi=>by rw [iG,if_neg hi]
 have tg:∀i,(gN t.ι i).isSome=true→(gN (cz ⟨m.κ,m.Ω,m.a_,m.aP,m.ae,to⟩ t.ι) i).isSome=true:=fun i hi=>by
  rw [iG];split;rfl;exact hi
 have bu:∀{y},y∈cz ⟨m.κ,m.Ω,m.a_,m.aP,m.ae,to⟩ t.ι→y=⟨m.κ,m.Ω,m.a_,m.aP,m.ae,to⟩∨(y∈t.ι∧y.κ≠m.κ):=rO;have htt:Deep (cz ⟨m.κ,m.Ω,m.a_,m.aP,m.ae,to⟩ t.ι) to dt:=ht.EO sV yb
 have dv:∀n,n∈t.ι→n.Ω=2→∃d,Deep (cz ⟨m.κ,m.Ω,m.a_,m.aP,m.ae,to⟩ t.ι) n.κ d∧d≤12∧(d=12→n.ae=[]):=fun n hn pE=>by
  obtain ⟨d,h1,h2,h3⟩:=h.dp n hn pE;by_cases hu:kO t.ι m.κ n.κ
  ·exact ⟨_,hu.abD sV ij QJ hk htt hx h1,uW n hn pE hu d h1⟩
  ·exact ⟨d,h1.EO sV hu,h2,h3⟩
 refine ⟨yA h.s,fun n hn=>?_,?_,?_,h.ck,fun n hn=>?_,fun n hn e he=>?_,fun n hn=>?_,fun n hn cd=>?_⟩
 ·rcases bu hn with rfl|⟨hn,-⟩
  ·exact h.lo m hm
  ·exact h.lo n hn
 ·obtain ⟨r,hr,jT⟩:=h.rt;exact ⟨r,by dsimp only;rw [sV _ (jJ ij),hr],jT⟩
 ·dsimp only;rw [E0 h.s (by dsimp only;rw [hg];rfl)];exact h.len
 ·rcases bu hn with rfl|⟨hn,-⟩
  ·exact h.en m hm
  ·exact h.en n hn
 ·rcases bu hn with rfl|⟨hn,-⟩
  ·exact tg _ (h.cl m hm e he)
  ·exact tg _ (h.cl n hn e he)
 ·rcases bu hn with rfl|⟨hn,aS⟩
  ·rcases h.dir hm hk with hr|hd
   ·exact absurd hr.1 ij
   ·refine .inr ⟨hk,?_,.inr ⟨ij,by dsimp only;rw [jd];exact hd.2.1,hd.2.2.1,fun h0=>by dsimp only at h0;omega⟩⟩
    rcases h.nd m hm with h5|h5
    ·exact absurd h5.1 (by omega)
    ·exact h5.2.1
  ·refine (h.nd n hn).congr (jd _) (jd _) rfl rfl fun p hp _ _=>?_;by_cases e:n.Up=m.κ
   ·rw [e,hg] at hp;cases hp;exact ⟨⟨m.κ,m.Ω,m.a_,m.aP,m.ae,to⟩,by rw [e];exact QJ,rfl⟩
   ·exact ⟨p,by rw [sV _ e,hp],rfl⟩
 ·rcases bu hn with rfl|⟨hn,-⟩
  ·exact dv m hm hk
  ·exact dv n hn cd
end
end
section
def Pe (e:aJ) (i:Int):∀l,cE (ku e l) i=cE l i+if i=e.κ then 1 else 0
 |[]=>by
  unfold ku cE;by_cases h:i=e.κ
  ·simp [h]
  ·have:¬e.κ=i:=fun h'=>h h'.symm;simp [h,this]
 |x::r=>by
  have ih:=Pe e i r;rw [A5];unfold cE at *;split
  ·rw [uo];by_cases h:i=e.κ
   ·simp [h]
   ·have:¬e.κ=i:=fun h'=>h h'.symm;simp [h,this]
  ·rw [uo,uo,ih];omega
def aa2 {c:Int} {l:List aJ} (h:sh c l) {s:List UInt8} {o:Int} (hs:d_ s=true) (hc:1≤c) (hl:l.length<64) (bw:∀e,e∈l→e.aR≠s):sh (c+1) (ku ⟨s,o,c⟩ l):=by
 refine ⟨by rw [Kd];omega,?_,fun e he=>?_,?_⟩
 ·have key:∀l:List aJ,l.Pairwise (fun a b=>eZ a.aR b.aR=true)→(∀e,e∈l→e.aR≠s)→(ku ⟨s,o,c⟩ l).Pairwise fun a b=>eZ a.aR b.aR=true:=by
   intro l;induction l with
   |nil=>intro _ _;exact zD _ _
   |cons x r ih =>
    intro hp hn;obtain ⟨h1,h2⟩:=iy.1 hp;have mh:=hn x (by simp);rw [A5];split
    ·next xQ =>
     have xQ:eZ s x.aR=true:=by
      rcases O8 s x.aR with h|h|h
      ·exact h
      ·exact absurd h.symm mh
      ·simp [h] at xQ
     refine iy.2 ⟨fun y hy=>?_,hp⟩
     rcases bp.1 hy with rfl|hy
     ·exact xQ
     ·exact HF xQ (h1 y hy)
    ·next xQ =>
     have Ξ:eZ x.aR s=true:=by
      cases hb:eZ x.aR s with
      |true=>rfl
      |false=>exact absurd (by simp [hb,mh]) xQ
     refine iy.2 ⟨fun y hy=>?_,ih h2 fun e he=>hn e (cu _ he)⟩
     rcases yn.1 hy with rfl|hy
     ·exact Ξ
     ·exact h1 y hy
  exact key l h.s bw
 ·rcases yn.1 he with rfl|he
  ·exact ⟨hs,by dsimp only;omega,by dsimp only;omega⟩
  ·exact ⟨(h.r e he).1,by have:=(h.r e he).2;omega⟩
 ·have key:∀l:List aJ,l.Pairwise (fun a b=>a.ar≠b.ar)→(∀e,e∈l→e.ar≠c)→(ku ⟨s,o,c⟩ l).Pairwise fun a b=>a.ar≠b.ar:=by
   intro l;induction l with
   |nil=>intro _ _;exact zD _ _
   |cons x r ih =>
    intro hp hn;obtain ⟨h1,h2⟩:=iy.1 hp;rw [A5];split
    ·exact iy.2 ⟨fun y hy=>fun e=>hn y hy e.symm,hp⟩
    ·refine iy.2 ⟨fun y hy=>?_,ih h2 fun e he=>hn e (cu _ he)⟩
     rcases yn.1 hy with rfl|hy
     ·exact hn x (by simp)
     ·exact h1 y hy
  exact key l h.k fun e he=>by have:=(h.r e he).2;omega
def YD {c:Int} {l:List aJ} (h:sh c l) (p:aJ→Bool):sh c (l.filter p) :=
 ⟨dN (nv _ _) h.n,h.s.filter _,fun e he=>h.r e (dU.1 he).1,h.k.filter _⟩
def WX {c:Int} {l:List aJ} (h:sh c l) {s:List UInt8} {e:aJ} (hf:l.find? (fun e=>e.aR==s)=some e) (i:Int):cE (l.filter fun e=>!(e.aR==s)) i+(if i=e.κ then 1 else 0)=cE l i:=by
 have key:∀l:List aJ,l.Pairwise (fun a b=>eZ a.aR b.aR=true)→l.find? (fun e=>e.aR==s)=some e→cE (l.filter fun e=>!(e.aR==s)) i+(if i=e.κ then 1 else 0)=cE l i:=by
  intro l;induction l with
  |nil=>intro _ h;cases h
  |cons x r ih =>
   intro hp hf;obtain ⟨h1,h2⟩:=iy.1 hp;rw [G5] at hf;rw [j5];cases hx:(x.aR==s) with
   |true =>
    rw [hx] at hf;cases hf
    have mh:e.aR=s:=by simpa using hx
    have:r.filter (fun e=>!(e.aR==s))=r:=by
     rw [w8];intro y hy;have h3:=h1 y hy;cases qD:(y.aR==s) with
     |false=>rfl
     |true =>
      have rL:y.aR=s:=by simpa using qD
      rw [mh,rL,zQ] at h3;cases h3
    rw [if_neg (by simp),this];unfold cE;rw [uo];by_cases hi:i=e.κ
    ·simp [hi]
    ·have:¬e.κ=i:=fun h'=>hi h'.symm;simp [hi,this]
   |false =>
    rw [hx] at hf;have:=ih h2 hf;rw [if_pos (show (!false)=true from rfl)];unfold cE at *;rw [uo,uo];omega
 exact key l h.s hf
def HU {l:List ψ} {i:Int} (h:(db l i).2=0):∃m,gN l i=some m∧m.Ω=2∧(db l i).1=m∧gD l i=m:=by
 unfold db at *;cases hg:gN l i with
 |none=>rw [hg] at h;cases h
 |some m =>
  have hd:gD l i=m:=by unfold gD;rw [hg];rfl
  rw [hg,hd] at h;by_cases hk:(m.Ω != 2)=true
  ·simp [hk] at h
  ·rw [hd];refine ⟨m,rfl,by simpa using hk,?_,rfl⟩;simp [hk]
def look_ok {t:Φ} {i:Int} {s:List UInt8} (h:(cD t i s).2=0):∃m e,gN t.ι i=some m∧m.Ω=2∧gD t.ι i=m∧d_ s=true∧m.ae.find? (fun e=>e.aR==s)=some e∧(cD t i s).1=e.κ:=by
 unfold cD at *;by_cases h1:((db t.ι i).2 != 0)=true
 ·rw [if_pos h1] at h;exact absurd h (by simpa using h1)
 rw [if_neg h1] at h ⊢;obtain ⟨m,h2,h3,h4,h5⟩:=HU (qb h1);by_cases h6:(!d_ s)=true
 ·rw [if_pos h6] at h;cases h
 rw [if_neg h6] at h ⊢;rw [h4] at h ⊢;cases hf:m.ae.find? (fun e=>e.aR==s) with
 |none=>rw [hf] at h;cases h
 |some e=>exact ⟨m,e,h2,h3,h5,by simpa using h6,hf,rfl⟩
def abI {l:List aJ} {s:List UInt8} (h:(qH l s).isSome=false):∀e,e∈l→e.aR≠s:=by
 unfold qH at h;intro e he
 have:l.findIdx? (fun e=>e.aR==s)=none:=by cases hx:l.findIdx? (fun e=>e.aR==s)<;>simp_all
 rw [w9] at this;simpa using this e he
def HQ {l:List ψ} {i:Int} {d:Nat} (h:Deep l i d):∀{f:Nat},d≤f→fO l f i=d:=by
 induction h with
 |root =>
  intro f _;cases f with
  |zero=>rfl
  |succ f=>rw [HS,if_pos rfl]
 |@step i n d h1 h2 h3 h4 ih =>
  intro f hf;cases f with
  |zero=>omega
  |succ f =>
   have:gD l i=n:=by unfold gD;rw [h2];rfl
   rw [HS,if_neg h1,this,ih (by omega)]
def O6 {l:List ψ} {x i:Int} (h:kO l x i):∀{d f:Nat},Deep l i d→d<f→uF l x f i=true:=by
 induction h with
 |refl =>
  intro d f _ hf;cases f with
  |zero=>omega
  |succ f=>unfold uF;rw [if_pos (by simp)]
 |@step i n h1 h2 h3 h4 ih =>
  intro d f hd hf;cases f with
  |zero=>omega
  |succ f =>
   unfold uF;by_cases e:(i==x)=true
   ·rw [if_pos e]
   ·rw [if_neg e,if_neg (by simpa using h1)]
    have:gD l i=n:=by unfold gD;rw [h2];rfl
    rw [this];cases hd with
    |root=>exact absurd rfl h1
    |step g1 g2 g3 g4=>rw [h2] at g2;cases g2;exact ih g4 (by omega)
def HO:∀{d:Nat} {l:List ψ} {i:Int},Deep l i d→d≤l.length
 |0,_,_,_=>hZ _
 |d+1,l,i,h=>by
  cases h with
  |step h1 h2 h3 h4 =>
   have hi:Deep l i (d+1):=.step h1 h2 h3 h4
   have yb:¬kO l i _:=fun hu=>by have:=hu.deep hi h4;omega
   have h5:=h4.EO (l':=l.filter (fun x=>x.κ != i)) (fun j hj=>by rw [xD,if_neg hj]) yb;have h6:=HO h5
   have h7:(l.filter (fun x=>x.κ != i)).length<l.length:=by
    rw [V_];exact ⟨_,(dS h2).1,by simp [(dS h2).2]⟩
   omega
def Z_ {l:List ψ} {i a:Int} {n:ψ} (hn:n∈l) (hk:n.Ω=2) (hb:lj l n.κ i=true):a+(fO l 201 n.κ:Int)-(fO l 201 i:Int)+(if decide ((n.ae.length:Int)>0)=true then 1 else 0)≤xR l i a:=by
 unfold xR;generalize fO l 201=dd
 have key:∀(m:List ψ) (z:Int),z≤m.foldl (fun m n=>if (n.Ω==2&&lj l n.κ i)=true then max m (a+(dd n.κ:Int)-(dd i:Int)+if decide ((n.ae.length:Int)>0)=true then 1 else 0) else m) z∧(n∈m→a+(dd n.κ:Int)-(dd i:Int)+(if decide ((n.ae.length:Int)>0)=true then 1 else 0)≤m.foldl (fun m n=>if (n.Ω==2&&lj l n.κ i)=true then max m (a+(dd n.κ:Int)-(dd i:Int)+if decide ((n.ae.length:Int)>0)=true then 1 else 0) else m) z):=by
  intro m;induction m with
  |nil=>intro z;exact ⟨qU _,fun h=>by cases h⟩
  |cons x r ih =>
   intro z;rw [ahA];have h1:=ih (if (x.Ω==2&&lj l x.κ i)=true then max z (a+(dd x.κ:Int)-(dd i:Int)+if decide ((x.ae.length:Int)>0)=true then 1 else 0) else z);refine ⟨Int.le_trans ?_ h1.1,fun hm=>?_⟩
   ·split
    ·exact Int.le_max_left _ _
    ·exact qU _
   ·rcases bp.1 hm with rfl|hm
    ·refine Int.le_trans ?_ h1.1;rw [if_pos (show (n.Ω==2&&lj l n.κ i)=true by simp [hk,hb])];exact Int.le_max_right _ _
    ·exact h1.2 hm
 exact (key l 0).2 hn
def GF (m:ψ) (E:List aJ):ψ:=⟨m.κ,m.Ω,m.a_,m.aP,E,m.Up⟩
section
variable {t:Φ} {δ gA:Int→Nat}
def DF {i:Int} {m:ψ} (hm:gN t.ι i=some m) (s:List UInt8) (j:Int):gN (fz t i s).ι j=if j=i then some (GF m (m.ae.filter fun e=>!(e.aR==s))) else gN t.ι j:=by
 have hd:gD t.ι i=m:=by unfold gD;rw [hm];rfl
 unfold fz;dsimp only;rw [lW,hd];show (if j=m.κ then some (GF m _) else _)=_;rw [(dS hm).2]
def W.fz (h:W t δ) {i:Int} {m:ψ} (hm:gN t.ι i=some m) (hk:m.Ω=2) {s:List UInt8} {e:aJ} (hf:m.ae.find? (fun e=>e.aR==s)=some e) (hd:∀k,gA k=δ k+if k=e.κ then 1 else 0):W (fz t i s) gA:=by
 obtain ⟨h1,h2,h3⟩:=h.get hm;unfold Go.Proofs.fz;rw [h3];refine h.PQ h1 hk (qU _) (YD (h.en m h1) _) (fun e he=>h.cl m h1 e (dU.1 he).1) (fun k=>?_) (fun q hq _ h4 h5=>?_) (.inr (.inl fun e0=>by rw [e0] at hf;cases hf))
 ·rw [hd,←WX (h.en m h1) hf k];omega
 ·rw [hd] at h5;omega
def W.nF (h:W t δ) {i:Int} {m:ψ} (hm:gN t.ι i=some m) (hk:m.Ω=2) {s:List UInt8} (hs:d_ s=true) (bw:∀e,e∈m.ae→e.aR≠s) (hl:m.ae.length<64) {d:Nat} (uW:Deep t.ι i d) (I_:d<12) {o:Int} {q:ψ} (ho:gN t.ι o=some q) (Ka:0<δ o) (AS:q.Ω=2→q.Up=i) (hd:∀k,gA k=δ k-if k=o then 1 else 0):W (nF t i s o) gA:=by
 obtain ⟨h1,h2,h3⟩:=h.get hm;obtain ⟨g1,g2,g3⟩:=h.get ho;unfold Go.Proofs.nF;rw [h3];refine h.PQ h1 hk (by omega) (aa2 (h.en m h1) hs h.ck hl bw) (fun e he=>?_) (fun k=>?_) (fun p hp AI h4 h5=>?_) (.inr (.inr ⟨d,by rw [h2];exact uW,I_⟩))
 ·rcases yn.1 he with rfl|he
  ·dsimp only;rw [ho];rfl
  ·exact h.cl m h1 e he
 ·rw [hd,Pe];dsimp only;by_cases e:k=o
  ·rw [if_pos e];rw [←e] at Ka;omega
  ·rw [if_neg e];omega
 ·rw [hd] at h5
  have e:p.κ=o:=by
   by_cases e:p.κ=o
   ·exact e
   ·rw [if_neg e] at h5;omega
  have:p=q:=Gj h.s hp g1 (by rw [e,g2]);rw [h2,this];exact AS (this▸AI)
def W.jG (h:W t δ) {j:Int} {m:ψ} (hm:gN t.ι j=some m) (Ka:0<δ j) (hE:m.ae=[]) (bw:∀q,q∈t.ι→q.Ω=2→0<δ q.κ→q.κ≠j→q.Up≠j) (hd:∀k,gA k=δ k-if k=j then 1 else 0):W (jG t j) gA:=by
 obtain ⟨h1,h2,h3⟩:=h.get hm;unfold Go.Proofs.jG;rw [h3]
 have xS:m.κ≠1:=fun e=>by have:=h.EN.2;rw [←h2,e] at Ka;omega
 split
 ·next hk =>
  have hk:m.Ω=2:=by simpa using hk
  rw [←h2]
  rcases h.dir h1 hk with hr|hr
  ·exact absurd hr.1 xS
  ·have h4:=hr.2.1;rw [h2] at h4;refine h.gone h1 xS hE (by rw [h2];omega) (fun q hq yf fQ m_=>?_) (fun k hk=>by rw [hd,if_neg (by omega)];rfl);rw [h2] at m_ ⊢
   rcases nw (δ q.κ) with hz|hz
   ·intro hu
    rcases h.dir hq yf with na|na
    ·exact absurd na.1 fQ
    ·obtain ⟨p,hp,e,he,-⟩:=na.2.2.2 hz;rw [hu,hm] at hp;cases hp;rw [hE] at he;cases he
   ·exact bw q hq yf hz m_
 ·next hk =>
  have hk:m.Ω≠2:=by simpa using hk
  have hf:=h.file h1 hk;refine h.Ij h1 hk hf.2.2.2.1 (fun k hk=>by rw [hd,if_neg (by omega)];rfl) ?_;have:=hf.2.2.2.2;rw [h2] at this ⊢;rw [hd,if_pos rfl];omega
end
end
section
def RT (t:Φ):Prop:=W t fun _=>0
def gp (j:Int):Int→Nat:=fun i=>if i=j then 1 else 0
def oz {l:List ψ} {i:Int} {m:ψ} (h:gN l i=some m):gD l i=m:=by unfold gD;rw [h];rfl
section
variable {t:Φ} {δ:Int→Nat}
def W.deep (h:W t δ) {i:Int} {m:ψ} (hm:gN t.ι i=some m) (hk:m.Ω=2):∃d,Deep t.ι i d∧d≤12∧(d=12→m.ae=[])∧fO t.ι 201 i=d:=by
 obtain ⟨h1,h2,h3⟩:=h.get hm;obtain ⟨d,h4,h5,h6⟩:=h.dp m h1 hk;rw [h2] at h4;exact ⟨d,h4,h5,h6,HQ h4 (by omega)⟩
def PN {i:Int} {s:List UInt8} (h:sK t i s=0):∃m,gN t.ι i=some m∧m.Ω=2∧d_ s=true∧(∀e,e∈m.ae→e.aR≠s)∧m.ae.length<64∧fO t.ι 201 i<12:=by
 unfold sK at h;by_cases h1:((db t.ι i).2 != 0)=true
 ·rw [if_pos h1] at h;exact absurd h (by simpa using h1)
 rw [if_neg h1] at h;obtain ⟨m,h2,h3,h4,h5⟩:=HU (qb h1);by_cases h6:(!d_ s)=true
 ·rw [if_pos h6] at h;cases h
 rw [if_neg h6,h4] at h;by_cases h7:(qH m.ae s).isSome=true
 ·rw [if_pos h7] at h;cases h
 rw [if_neg h7] at h;by_cases h8:Ae t m=true
 ·rw [if_pos h8] at h;cases h
 unfold Ae at h8;simp only [qT,decide_eq_true_eq,not_or] at h8;have hi:=(dS h2).2;rw [hi] at h8;refine ⟨m,h2,h3,by simpa using h6,abI (by simpa using h7),by omega,?_⟩;have:=h8.1.2;generalize fO t.ι 201 i=q at *;omega
def RT.add (h:RT t) (i:Int) (s:List UInt8) (k:Int):RT (sx t i s k).1:=by
 unfold sx;split
 ·exact h
 next hk =>
 split
 ·exact h
 next he =>
 split
 ·exact h
 next hf =>
 obtain ⟨m,h1,h2,h3,h4,h5,h6⟩:=PN (qb he);obtain ⟨d,g1,g2,g3,g4⟩:=W.deep h h1 h2;rw [g4] at h6
 have hl:t.ι.length<200:=by simp at hf;omega
 have pD:k=1∨k=2:=by
  by_cases e:k=1
  ·exact .inl e
  ·refine .inr (Classical.byContradiction fun e2=>hk (by simp [e,e2]))
 have bw:gN t.ι t.Next=none:=II.2 fun n hn e=>by have:=h.lo n hn;omega
 have sY:i≠t.Next:=fun e=>by rw [e,bw] at h1;cases h1
 have w1:W ⟨cz ⟨t.Next,k,1,[],[],if (k==2)=true then i else 0⟩ t.ι,t.Next+1,t.ar⟩ (gp t.Next):=by
  refine W.new h hl ?_ rfl fun j=>?_
  ·rcases pD with e|e
   ·subst e;exact .inl ⟨rfl,rfl⟩
   ·subst e;exact .inr ⟨rfl,d,g1,h6⟩
  ·unfold gp;omega
 have ξ:∀j,j≠t.Next→gN (cz ⟨t.Next,k,1,[],[],if (k==2)=true then i else 0⟩ t.ι) j=gN t.ι j:=fun j hj=>by rw [lW];exact if_neg hj
 refine W.nF (q:=⟨t.Next,k,1,[],[],if (k==2)=true then i else 0⟩) w1 (by dsimp only;rw [ξ i sY];exact h1) h2 h3 h4 h5 (g1.congr fun j n hj _=>⟨n,by dsimp only;rw [ξ j fun e=>by rw [e,bw] at hj;cases hj];exact hj,rfl,rfl⟩) h6 (by dsimp only;rw [lW];exact if_pos rfl) (by unfold gp;rw [if_pos rfl];omega) (fun e=>by dsimp only at e ⊢;rw [if_pos (by simp [e])]) fun j=>?_;unfold gp;split<;>rfl
def RT.ln (h:RT t) (i to:Int) (s:List UInt8):RT (tu t i to s).1:=by
 unfold tu;split
 ·exact h
 next hp =>
 split
 ·exact h
 next hk =>
 split
 ·exact h
 next he =>
 obtain ⟨m,h1,h2,h3,h4,h5,h6⟩:=PN (qb he);obtain ⟨d,g1,g2,g3,g4⟩:=W.deep h h1 h2;rw [g4] at h6
 obtain ⟨n,hn⟩:∃n,gN t.ι i=some n:=by
  cases hg:gN t.ι i with
  |none=>rw [hg] at hp;simp at hp
  |some n=>exact ⟨n,rfl⟩
 rw [oz hn] at hk ⊢
 have gg:n.Ω≠2:=by simpa using hk
 obtain ⟨k1,k2,k3⟩:=W.get h hn;have hf:=W.file h k1 gg
 have jz:to≠i:=fun e=>by rw [e,hn] at h1;cases h1;exact gg h2
 have w1:W ⟨cz ⟨n.κ,n.Ω,n.a_+1,n.aP,n.ae,n.Up⟩ t.ι,t.Next,t.ar⟩ (gp i):=by
  refine W.Ij h k1 gg hf.2.2.2.1 (fun j hj=>by unfold gp;rw [if_neg (by rw [←k2];exact hj)]) ?_;have:=hf.2.2.2.2;dsimp only at this;unfold gp;rw [k2,if_pos rfl];rw [k2] at this;omega
 have ξ:∀j,gN (cz ⟨n.κ,n.Ω,n.a_+1,n.aP,n.ae,n.Up⟩ t.ι) j=if j=i then some ⟨n.κ,n.Ω,n.a_+1,n.aP,n.ae,n.Up⟩ else gN t.ι j:=fun j=>by
  rw [lW];show (if j=n.κ then _ else _)=_;rw [k2]
 refine W.nF (q:=⟨n.κ,n.Ω,n.a_+1,n.aP,n.ae,n.Up⟩) w1 (by dsimp only;rw [ξ,if_neg jz];exact h1) h2 h3 h4 h5 (g1.congr fun j p hj AI=>⟨p,by dsimp only;rw [ξ,if_neg fun e=>by rw [e,hn] at hj;cases hj;exact gg AI];exact hj,rfl,rfl⟩) h6 (by dsimp only;rw [ξ];exact if_pos rfl) (by unfold gp;rw [if_pos rfl];omega) (fun e=>absurd e gg) fun j=>?_;unfold gp;split<;>rfl
def RT.un (h:RT t) (i:Int) (s:List UInt8):RT (t_ t i s).1:=by
 unfold t_;split
 ·exact h
 next he =>
 split
 ·exact h
 next hE =>
 obtain ⟨m,e,h1,h2,h3,h4,h5,h6⟩:=look_ok (qb he);rw [h6] at hE ⊢;obtain ⟨k1,k2,k3⟩:=W.get h h1;have qs:=uq h5;obtain ⟨x,hx⟩:=xd.1 (h.cl m k1 e qs);rw [oz hx] at hE;have AX:x.ae=[]:=p0.1 (by have:¬((x.ae.length:Int)>0):=fun h=>hE (decide_eq_true h);omega)
 have hxi:e.κ≠i:=fun h'=>by rw [h',h1] at hx;cases hx;rw [AX] at qs;cases qs
 have w1:W (fz t i s) (gp e.κ):=W.fz h h1 h2 h5 fun k=>by unfold gp;omega
 refine W.jG w1 (j:=e.κ) (m:=x) (by rw [DF h1,if_neg hxi];exact hx) (by unfold gp;rw [if_pos rfl];omega) AX (fun q _ _ h7 h8=>by unfold gp at h7;rw [if_neg h8] at h7;omega) fun k=>?_;unfold gp;split<;>rfl
def RT.S1 (h:RT t) (i:Int) (x:List UInt8):RT (tH t i x).1:=by
 unfold tH;split
 ·exact h
 next hp =>
 split
 ·exact h
 next hk =>
 split
 ·exact h
 next hx =>
 obtain ⟨n,hn⟩:∃n,gN t.ι i=some n:=by
  cases hg:gN t.ι i with
  |none=>rw [hg] at hp;simp at hp
  |some n=>exact ⟨n,rfl⟩
 rw [oz hn] at hk ⊢
 have gg:n.Ω≠2:=by simpa using hk
 obtain ⟨k1,k2,k3⟩:=W.get h hn;have hf:=W.file h k1 gg;exact W.Ij h k1 gg (by simp at hx;omega) (fun _ _=>rfl) hf.2.2.2.2
def RT.free (h:RT t) (i:Int):RT (qk t i).1:=by
 unfold qk;split
 ·exact h
 next hp =>
 split
 ·exact h
 next hk =>
 split
 ·exact h
 next hx =>
 obtain ⟨n,hn⟩:∃n,gN t.ι i=some n:=by
  cases hg:gN t.ι i with
  |none=>rw [hg] at hp;simp at hp
  |some n=>exact ⟨n,rfl⟩
 rw [oz hn] at hk hx
 have gg:n.Ω≠2:=by simpa using hk
 obtain ⟨k1,k2,k3⟩:=W.get h hn;have hf:=W.file h k1 gg;rw [←k2];refine W.gone h k1 (fun e=>gg (W.one h k1 e)) hf.2.1 (by have:=hf.2.2.2.2;simp at hx;omega) (fun q hq yf fQ _ hu=>?_) fun _ _=>rfl
 rcases W.dir h hq yf with hr|hr
 ·exact fQ hr.1
 ·obtain ⟨p,hp,e,he,-⟩:=hr.2.2.2 rfl;rw [hu,k2,hn] at hp;cases hp;rw [hf.2.1] at he;cases he
def kN (u t:List ψ):Prop:=∀j n,gN u j=some n→∃n',gN t j=some n'∧n'.Ω=n.Ω∧n'.Up=n.Up∧(n'.ae=[]→n.ae=[])
def kN.deep {u t:List ψ} (h:kN u t) {i:Int} {d:Nat} (hd:Deep u i d):Deep t i d:=hd.congr fun j n hj _=>by
 obtain ⟨n',h1,h2,h3,-⟩:=h j n hj;exact ⟨n',h1,h2,h3⟩
def kN.mr {u t:List ψ} (h:kN u t) {x i:Int} (hu:kO u x i):kO t x i:=by
 induction hu with
 |refl=>exact .refl
 |step h1 h2 h3 h4 ih =>
  obtain ⟨n',g1,g2,g3,-⟩:=h _ _ h2;exact .step h1 g1 (by rw [g2,h3]) (by rw [g3];exact ih)
def kN.trans {u v t:List ψ} (h:kN u v) (h':kN v t):kN u t:=fun j n hn=>by
 obtain ⟨n',h1,h2,h3,h4⟩:=h j n hn;obtain ⟨n'',g1,g2,g3,g4⟩:=h' j n' h1;exact ⟨n'',g1,by rw [g2,h2],by rw [g3,h3],fun e=>h4 (g4 e)⟩
def kN.nj {i:Int} {m:ψ} (hm:gN t.ι i=some m) (s:List UInt8):kN (fz t i s).ι t.ι:=fun j n hn=>by
 rw [DF hm] at hn;by_cases e:j=i
 ·rw [if_pos e] at hn;cases hn;exact ⟨m,by rw [e,hm],rfl,rfl,fun e0=>by show List.filter _ _=_;rw [e0];rfl⟩
 ·rw [if_neg e] at hn;exact ⟨n,hn,rfl,rfl,id⟩
def IJ {j:Int} {m:ψ} (hm:gN t.ι j=some m) {i:Int} (hi:i≠j):gN (jG t j).ι i=gN t.ι i:=by
 unfold jG;rw [oz hm];split
 ·dsimp only;rw [xD,if_neg hi]
 ·dsimp only;rw [lW];exact if_neg (by rw [(dS hm).2];exact hi)
def kN.un {j:Int} {m:ψ} (hm:gN t.ι j=some m):kN (jG t j).ι t.ι:=fun i n hn=>by
 by_cases e:i=j
 ·subst e;unfold jG at hn;rw [oz hm] at hn;split at hn
  ·dsimp only at hn;rw [xD,if_pos rfl] at hn;cases hn
  ·dsimp only at hn;rw [lW,if_pos (dS hm).2.symm] at hn;cases hn;exact ⟨m,hm,rfl,rfl,id⟩
 ·rw [IJ hm e] at hn;exact ⟨n,hn,rfl,rfl,id⟩
end
end
section
section
variable {t:Φ} {δ:Int→Nat}
def W9 {l:List ψ} {i:Int} {p q:ψ} (hp:p∈l) (hq:q∈l) (aS:p≠q) (h1:0<cE p.ae i) (h2:0<cE q.ae i):2≤cM l i:=by
 induction l with
 |nil=>cases hp
 |cons x l ih =>
  rw [ra];have hc:∀{y:ψ},y∈l→0<cE y.ae i→0<cM l i:=fun hy h=>zU.2 ⟨_,hy,sB.1 h⟩
  rcases bp.1 hp with e1|hp<;>rcases bp.1 hq with e2|hq
  ·exact absurd (e1.trans e2.symm) aS
  ·rw [←e1];have:=hc hq h2;omega
  ·rw [←e2];have:=hc hp h1;omega
  ·have:=ih hp hq;omega
def W.parent (h:W t δ) {p q:ψ} (hp:p∈t.ι) {e:aJ} (he:e∈p.ae) (hq:gN t.ι e.κ=some q) (hk:q.Ω=2):q.Up=p.κ:=by
 obtain ⟨k1,k2,k3⟩:=h.get hq;have hc:0<cE p.ae e.κ:=sB.2 ⟨e,he,rfl⟩;have aQ:0<cM t.ι e.κ:=zU.2 ⟨p,hp,e,he,rfl⟩
 rcases h.dir k1 hk with hr|hr
 ·exact absurd (k2.symm.trans hr.1) (h.Be hp he)
 ·rw [Hj,k2] at hr;obtain ⟨p',gH,e',fP,ZR⟩:=hr.2.2.2 (by omega);have ye:=dS gH;by_cases Ea:p=p'
  ·rw [Ea,ye.2]
  ·have:=W9 hp ye.1 Ea hc (sB.2 ⟨e',fP,ZR⟩);omega
def W.abM (h:W t δ) {i:Int} {m:ψ} (hm:gN t.ι i=some m) (hk:m.Ω=2) {e:aJ} (he:e∈m.ae):e.κ≠i:=by
 intro rp;obtain ⟨k1,k2,k3⟩:=h.get hm;have hu:=h.parent k1 he (by rw [rp];exact hm) hk;obtain ⟨d,h1,-⟩:=h.deep hm hk
 have Az:i≠1:=by rw [←rp];exact h.Be k1 he
 cases h1 with
 |root=>exact Az rfl
 |step g1 g2 g3 g4 =>
  rw [hm] at g2;cases g2;rw [hu,k2] at g4;have:=g4.uniq (.step g1 hm g3 (by rw [hu,k2];exact g4));omega
def PW {l:List aJ} {s:List UInt8} {e:aJ} (hf:l.find? (fun e=>e.aR==s)=some e):(l.filter fun e=>!(e.aR==s)).length<l.length:=by
 rw [V_];exact ⟨e,uq hf,by have:=Oo hf;simpa using this⟩
def abH (h:RT t) {from_ to:Int} {s bC:List UInt8} {mf md x:ψ} {ef:aJ} (a1:gN t.ι from_=some mf) (a2:mf.Ω=2) (a5:mf.ae.find? (fun e=>e.aR==s)=some ef)
  (b1:gN t.ι to=some md) (b2:md.Ω=2) (hx:gN t.ι ef.κ=some x) (J9:ef.κ≠from_) (Ei:ef.κ≠to) (hy:fS t to bC≠ef.κ)
  (hY:(∀e,e∈md.ae→e.aR≠bC)∧fS t to bC=0∧(to≠from_→md.ae.length<64)∨∃ey ny,md.ae.find? (fun e=>e.aR==bC)=some ey∧fS t to bC=ey.κ∧gN t.ι ey.κ=some ny∧ny.ae=[]) :
  W (iv t ef.κ from_ s to bC (fS t to bC)) (gp ef.κ)∧kN (iv t ef.κ from_ s to bC (fS t to bC)).ι t.ι∧gN (iv t ef.κ from_ s to bC (fS t to bC)).ι ef.κ=some x∧∃mu,gN (iv t ef.κ from_ s to bC (fS t to bC)).ι to=some mu∧mu.Ω=2∧(∀e,e∈mu.ae→e.aR≠bC)∧mu.ae.length<64:=by
 obtain ⟨k1,k2,k3⟩:=W.get h a1;have qs:=uq a5
 have w1:W (fz t from_ s) (gp ef.κ):=W.fz h a1 a2 a5 fun k=>by unfold gp;omega
 have s1:kN (fz t from_ s).ι t.ι:=kN.nj a1 s;have g1:=DF a1 s;have hl:=PW a5;have hlf:=(W.en h mf k1).n
 obtain ⟨m1,c1,c2,c3⟩:∃m1,gN (fz t from_ s).ι to=some m1∧m1.Ω=2∧((to=from_∧m1=GF mf (mf.ae.filter fun e=>!(e.aR==s))∧mf=md)∨(to≠from_∧m1=md)):=by
  rw [g1];by_cases e:to=from_
  ·rw [if_pos e];rw [e,a1] at b1;cases b1;exact ⟨_,rfl,a2,.inl ⟨e,rfl,rfl⟩⟩
  ·rw [if_neg e];exact ⟨md,b1,b2,.inr ⟨e,rfl⟩⟩
 have P6:gN (fz t from_ s).ι ef.κ=some x:=by rw [g1,if_neg J9,hx]
 rcases hY with ⟨bw,J_,hlen⟩|⟨ey,ny,pz,hye,qA,AE⟩
 ·rw [J_];unfold iv;rw [if_neg (by simp)];refine ⟨w1,s1,P6,m1,c1,c2,?_,?_⟩
  ·rcases c3 with ⟨e,rfl,rfl⟩|⟨e,rfl⟩
   ·exact fun e he=>bw e (dU.1 he).1
   ·exact bw
  ·rcases c3 with ⟨e,rfl,rfl⟩|⟨e,rfl⟩
   ·show (mf.ae.filter _).length<64;omega
   ·exact hlen e
 ·rw [hye] at hy ⊢;have RG:=dS qA;have QD:=uq pz
  have RE:ey.κ≠from_:=fun e=>by rw [e,a1] at qA;cases qA;rw [AE] at qs;cases qs
  have RI:ey.κ≠to:=fun e=>by rw [e,b1] at qA;cases qA;rw [AE] at QD;cases QD
  have J_:ey.κ≠0:=by have:=(W.lo h ny RG.1).1;rw [RG.2] at this;omega
  have qu:m1.ae.find? (fun e=>e.aR==bC)=some ey:=by
   rcases c3 with ⟨e,rfl,rfl⟩|⟨e,rfl⟩
   ·show (mf.ae.filter _).find? _=_
    have aS:bC≠s:=fun e=>by rw [e,a5] at pz;cases pz;exact hy rfl
    rw [List.find?_filter]
    have:(fun a:aJ=>decide ((!(a.aR==s))=true∧(a.aR==bC)=true))=fun a=>a.aR==bC:=by
     funext a;by_cases h1:a.aR=bC
     ·simp [h1,aS]
     ·simp [h1]
    rw [this];exact pz
   ·exact pz
  have vw:m1.ae.length≤64:=(w1.en m1 (dS c1).1).n;have w2:W (fz (fz t from_ s) to bC) (fun k=>gp ef.κ k+if k=ey.κ then 1 else 0):=W.fz w1 c1 c2 qu fun _=>rfl;have g2:=DF c1 bC
  have DE:gN (fz (fz t from_ s) to bC).ι ey.κ=some ny:=by rw [g2,if_neg RI,g1,if_neg RE,qA]
  have P7:gN (fz (fz t from_ s) to bC).ι ef.κ=some x:=by rw [g2,if_neg Ei,P6]
  unfold iv;rw [if_pos (by simpa using J_)];refine ⟨W.jG w2 DE (by rw [if_pos rfl];omega) AE (fun q hq yf pJ hqy=>?_) (fun k=>?_),(kN.un DE).trans ((kN.nj c1 bC).trans s1),by rw [IJ DE (jJ hy),P7],GF m1 (m1.ae.filter fun e=>!(e.aR==bC)),by rw [IJ DE (jJ RI),g2,if_pos rfl],c2,fun e he=>?_,?_⟩
  ·have hqi:q.κ=ef.κ:=by
    rw [if_neg hqy] at pJ;unfold gp at pJ;by_cases e:q.κ=ef.κ
    ·exact e
    ·rw [if_neg e] at pJ;omega
   have hqx:q=x:=by
    have:=uO w2.s hq;rw [hqi,P7] at this;cases this;rfl
   subst hqx;rw [W.parent h k1 qs hx yf,k2];exact jJ RE
  ·unfold gp;by_cases e:k=ey.κ
   ·rw [if_pos e,if_neg (by rw [e];exact hy)]
   ·rw [if_neg e];omega
  ·have:=(dU.1 he).2;simpa using this
  ·have:=PW qu;show (m1.ae.filter _).length<64;omega
def RT.mv (h:RT t) (from_:Int) (s:List UInt8) (to:Int) (bC:List UInt8):RT (tC t from_ s to bC).1:=by
 unfold tC;split
 ·exact h
 next hL =>
 split
 ·exact h
 next hD =>
 split
 ·exact h
 next hR =>
 split
 ·exact h
 next hy =>
 split
 ·exact h
 next Ju =>
 split
 ·exact h
 next dH =>
 split
 ·exact h
 next Av =>
 obtain ⟨mf,ef,a1,a2,a3,a4,a5,a6⟩:=look_ok (qb hL);obtain ⟨md,b1,b2,b3,b4⟩:=HU (qb hD);rw [a6] at hy Ju dH Av ⊢;obtain ⟨k1,k2,k3⟩:=W.get h a1;have qs:=uq a5;obtain ⟨x,hx⟩:=xd.1 (h.cl mf k1 ef qs);obtain ⟨x1,x2,x3⟩:=W.get h hx;rw [x3] at Ju dH
 have hR:d_ bC=true:=by simpa using hR
 have hy:fS t to bC≠ef.κ:=by simpa using hy
 have J9:ef.κ≠from_:=W.abM h a1 a2 qs;obtain ⟨dt,t1,t2,t3,t4⟩:=W.deep h b1 b2;unfold EH at Av;rw [b3,x3] at Av;simp only [qT,bM,decide_eq_true_eq,not_or,not_and,beq_iff_eq,bne_iff_ne] at Av;obtain ⟨⟨⟨f1,f2⟩,f3⟩,f4⟩:=Av
 have f2:dt<12:=by rw [t4] at f2;omega
 rw [t4] at f3
 have yb:x.Ω=2→¬kO t.ι ef.κ to:=fun hk hu=>Ju (by
  have:lj t.ι to ef.κ=true:=O6 hu t1 (by have:=HO t1;omega)
  simp [hk,this])
 have Ei:ef.κ≠to:=fun e=>by
  rw [e,b1] at hx;cases hx;exact yb b2 (e▸.refl)
 have hY:(∀e,e∈md.ae→e.aR≠bC)∧fS t to bC=0∧(to≠from_→md.ae.length<64)∨∃ey ny,md.ae.find? (fun e=>e.aR==bC)=some ey∧fS t to bC=ey.κ∧gN t.ι ey.κ=some ny∧ny.ae=[]:=by
  have x_:fS t to bC=match md.ae.find? (fun e=>e.aR==bC) with|some e=>e.κ|none=>0:=by unfold fS;rw [b3]<;>rfl
  cases pz:md.ae.find? (fun e=>e.aR==bC) with
  |none =>
   rw [pz] at x_;refine .inl ⟨fun e he=>?_,x_,fun aS=>?_⟩
   ·rw [G6] at pz;simpa using pz e he
   ·have:=f1 ⟨x_,aS⟩;omega
  |some ey =>
   rw [pz] at x_;obtain ⟨ny,qA⟩:=xd.1 (h.cl md (dS b1).1 ey (uq pz));refine .inr ⟨ey,ny,rfl,x_,qA,?_⟩;have hc:=qb dH;unfold zT at hc;rw [x_] at hc;dsimp only at hc;rw [oz qA,qA] at hc;rw [if_neg (by simp)] at hc;split at hc
   ·cases hc
   split at hc
   ·cases hc
   split at hc
   ·cases hc
   ·next hz=>exact p0.1 (by have:¬((ny.ae.length:Int)>0):=fun h=>hz (decide_eq_true h);omega)
 obtain ⟨wu,su,IL,mu,IK,u2,u3,u4⟩:=abH h a1 a2 a5 b1 b2 hx J9 Ei hy hY;generalize iv t ef.κ from_ s to bC (fS t to bC)=u at *;obtain ⟨d,v1,v2,v3,v4⟩:=W.deep wu IK u2;have uX:d=dt:=(su.deep v1).uniq t1;subst uX;unfold kT;rw [x3];by_cases hk:(x.Ω==2)=true
 ·rw [if_pos hk]
  have hk:x.Ω=2:=by simpa using hk
  obtain ⟨dx,y1,y2,y3,y4⟩:=W.deep wu IL hk
  have θ:x.κ≠1:=fun e=>by have:=W.EN wu;rw [x2] at e;unfold gp at this;rw [if_pos e.symm] at this;omega
  have Q_:¬kO u.ι ef.κ to:=fun hu=>yb hk (su.mr hu)
  have sV:∀i,i≠ef.κ→gN (cz ⟨x.κ,x.Ω,x.a_,x.aP,x.ae,to⟩ u.ι) i=gN u.ι i:=fun i hi=>by rw [lW];exact if_neg (by dsimp only;rw [x2];exact hi)
  have wm:W ⟨cz ⟨x.κ,x.Ω,x.a_,x.aP,x.ae,to⟩ u.ι,u.Next,u.ar⟩ (gp ef.κ):=by
   refine W.abE wu (dS IL).1 hk θ (by unfold gp;rw [if_pos x2];omega) v1 (by rw [x2];exact y1) (by rw [x2];exact Q_) fun n hn pE dr d' bz=>?_;rw [x2] at dr;obtain ⟨n',q1,q2,q3,q4⟩:=su n.κ n (uO wu.s hn);have s6:=dS q1;have p1:Deep t.ι n.κ d':=su.deep bz;have p2:Deep t.ι ef.κ dx:=su.deep y1;have p3:=(su.mr dr).deep p2 p1
   have hb:lj t.ι n'.κ ef.κ=true:=by rw [s6.2];exact O6 (su.mr dr) p1 (by have:=HO p1;omega)
   have hh:=Z_ (a:=(d:Int)+1) s6.1 (by rw [q2,pE]) hb
   have I_:d'≤201:=by
    obtain ⟨d3,e1,e2,-⟩:=h.dp n' s6.1 (by rw [q2,pE]);rw [s6.2] at e1;have:=p1.uniq e1;omega
   have jW:dx≤201:=by omega
   rw [s6.2,HQ p1 I_,HQ p2 jW] at hh;have f3:=f3 hk;refine ⟨?_,fun PA=>q4 ?_⟩
   ·split at hh<;>omega
   ·split at hh
    ·omega
    ·next hz=>exact p0.1 (by have:¬((n'.ae.length:Int)>0):=fun h=>hz (decide_eq_true h);omega)
  refine W.nF (q:=⟨x.κ,x.Ω,x.a_,x.aP,x.ae,to⟩) wm (by dsimp only;rw [sV to (jJ Ei)];exact IK) u2 hR u3 u4 (v1.EO sV Q_) f2 (by dsimp only;rw [lW];exact if_pos x2.symm) (by unfold gp;rw [if_pos rfl];omega) (fun _=>rfl) fun j=>?_;unfold gp;split<;>rfl
 ·rw [if_neg hk];refine W.nF wu IK u2 hR u3 u4 v1 f2 IL (by unfold gp;rw [if_pos rfl];omega) (fun e=>absurd (by simpa using e) hk) fun j=>?_;unfold gp;split<;>rfl
def Wy:RT M_:=by
 refine ⟨zD _ _,fun n hn=>?_,⟨_,rfl,rfl⟩,by decide,by decide,fun n hn=>?_,fun n hn e he=>?_,fun n hn=>?_,fun n hn _=>?_⟩<;>obtain rfl:=dV.1 hn
 ·decide
 ·exact ⟨by simp,pY,fun e he=>(by cases he),pY⟩
 ·cases he
 ·exact .inr ⟨rfl,rfl,.inl ⟨rfl,rfl,rfl,rfl,rfl⟩⟩
 ·exact ⟨0,.root,by omega,fun h=>by cases h⟩
end
end
section
section
variable {α:Type}
def mR (c:α→Int) (l:List α):Nat:=(l.takeWhile fun x=>decide (c x<0)).length
def mQ (c:α→Int) (l:List α):Bool:=match l[mR c l]? with|some x=>c x==0|none=>false
def Mon (c:α→Int) (l:List α):Prop:=∀(j k:Nat) x y,j<k→l[j]?=some x→l[k]?=some y→c y<0→c x<0
def HG (C:α→Option Int) (l:List α) (s1:Int×Int):Option ((Int×Int)⊕Int):=if (decide (s1.1<s1.2)) then τ (Ψ (s1.1+s1.2)) ((idx l ((IntKind.i64.wrap ((fV .u64 ((IntKind.u64.wrap ((s1.1+s1.2)))) (1)))))).bind fun x1=>(C x1).bind fun x2=>if (decide (x2<0)) then τ (Ψ ((IntKind.i64.wrap ((fV .u64 ((IntKind.u64.wrap ((s1.1+s1.2)))) (1))))+1)) (some (.inl ((((IntKind.i64.wrap ((fV .u64 ((IntKind.u64.wrap ((s1.1+s1.2)))) (1))))+1),s1.2)))) else some (.inl ((s1.1,(IntKind.i64.wrap ((fV .u64 ((IntKind.u64.wrap ((s1.1+s1.2)))) (1)))))))) else out (some s1.1)
noncomputable def HH (C:α→Option Int) (l:List α):Option (Int×Bool):=(loop (HG C l) (0,(l.length:Int))).bind fun v1=>((if (decide (v1<(l.length:Int))) then (idx l v1).bind fun x3=>(C x3).bind fun x4=>some ((x4==0)) else some false).bind fun c1=>some c1).bind fun v2=>some ((v1,v2))
def Pc {c:α→Int}:∀{l:List α} {k:Nat},k≤l.length→(∀(j:Nat) x,j<k→l[j]?=some x→c x<0)→(∀x,l[k]?=some x→¬c x<0)→mR c l=k
 |[],k,hk,_,_=>by simp at hk;subst hk;rfl
 |x::l,0,_,_,h2=>by
  have:=h2 x rfl;unfold mR;rw [zF,if_neg (by simpa using this)];rfl
 |x::l,k+1,hk,h1,h2=>by
  have:=h1 0 x (by omega) rfl;have ih:=Pc (c:=c) (l:=l) (k:=k) (by simpa using hk) (fun j y hj hy=>h1 (j+1) y (by omega) (by simpa using hy)) (fun y hy=>h2 y (by simpa using hy));unfold mR at ih ⊢;rw [zF,if_pos (by simpa using this),cr,ih]
def Pb {c:α→Int} {x:α} {l:List α} (h:c x<0):mR c (x::l)=mR c l+1:=by
 unfold mR;rw [zF,if_pos (by simpa using h)];rfl
def Pd {c:α→Int} {x:α} {l:List α} (h:¬c x<0):mR c (x::l)=0:=by
 unfold mR;rw [zF,if_neg (by simpa using h)];rfl
def WL {c:α→Int} {x:α} {l:List α} (h:c x<0):mQ c (x::l)=mQ c l:=by
 unfold mQ;rw [Pb h];rfl
def WM {c:α→Int} {x:α} {l:List α} (h:¬c x<0):mQ c (x::l)=(c x==0):=by
 unfold mQ;rw [Pd h];rfl
def WQ {C:α→Option Int} {c:α→Int} {l:List α} (P:Nat→Nat→Prop) (hC:∀x,x∈l→C x=some (c x)) (hl:l.length≤1000000) (h0:P 0 l.length)
  (AH:∀a b x,P a b→a<b→b≤l.length→l[(a+b)/2]?=some x→c x<0→P ((a+b)/2+1) b)
  (D_:∀a b x,P a b→a<b→b≤l.length→l[(a+b)/2]?=some x→¬c x<0→P a ((a+b)/2)) :
  ε (loop (HG C l) (0,(l.length:Int))) (fun v=>∃k:Nat,v=k∧k≤l.length∧P k k):=by
 refine ε.loop (fun s:Int×Int=>∃a b:Nat,s=((a:Int),(b:Int))∧a≤b∧b≤l.length∧P a b) (fun s=>(s.2-s.1).toNat) ?_ _ ⟨0,l.length,rfl,by omega,by omega,h0⟩;rintro s ⟨a,b,rfl,ic,hb,hP⟩;unfold HG;dsimp only;by_cases Ξ:a<b
 ·refine ε.cond (by simpa using Ξ) (ε.τ (by unfold Ψ;omega) ?_);rw [Sq a b (by omega)]
  have hm:(a+b)/2<l.length:=by omega
  have hx:=bO hm;refine ε.ay (bd hx) (ε.ay (hC _ (eH hm)) ?_);exact ε.ite (fun e=>ε.τ (by unfold Ψ;omega) (ε.inl ⟨⟨(a+b)/2+1,b,rfl,by omega,hb,AH a b _ hP Ξ hb hx (by simpa using e)⟩,by dsimp only;omega⟩)) fun e=>ε.inl ⟨⟨a,(a+b)/2,rfl,by omega,by omega,D_ a b _ hP Ξ hb hx (by simpa using e)⟩,by dsimp only;omega⟩
 ·have:a=b:=by omega
  subst this;exact ε.bf (by simp) (ε.out (ε.ret ⟨a,rfl,hb,hP⟩))
def WO {C:α→Option Int} {c:α→Int} {l:List α} (hC:∀x,x∈l→C x=some (c x)) {k:Nat} {v:Int} (hv:v=k) :
  (((if (decide (v<(l.length:Int))) then (idx l v).bind fun x3=>(C x3).bind fun x4=>some ((x4==0)) else some false).bind fun c1=>some c1).bind fun v2=>some ((v,v2)))=some ((k:Int),match l[k]? with|some x=>c x==0|none=>false):=by
 subst hv;refine ε.eq ?_;by_cases hk:k<l.length
 ·have hx:=bO hk;rw [hx];exact ε.bind (R:=(·=(c l[k]==0))) (ε.bind (R:=(·=(c l[k]==0))) (ε.cond (by simpa using hk) (ε.ay (bd hx) (ε.ay (hC _ (eH hk)) (ε.ret rfl)))) fun r hr=>ε.ret hr) fun r hr=>ε.ret (by subst hr;rfl)
 ·rw [Oq (by omega)];exact ε.bind (R:=(·=false)) (ε.bind (R:=(·=false)) (ε.bf (by simpa using hk) (ε.ret rfl)) fun r hr=>ε.ret hr) fun r hr=>ε.ret (by subst hr;rfl)
def WR {C:α→Option Int} {c:α→Int} {l:List α} (hC:∀x,x∈l→C x=some (c x)) (hm:Mon c l) (hl:l.length≤1000000):HH C l=some ((mR c l:Int),mQ c l):=by
 refine ε.eq ?_;unfold HH;refine ε.bind (WQ (fun a b=>(∀(j:Nat) x,j<a→l[j]?=some x→c x<0)∧(∀(j:Nat) x,b≤j→l[j]?=some x→¬c x<0)) hC hl ⟨fun j x h=>by omega,fun j x h hx=>by rw [Oq (by omega)] at hx;cases hx⟩ ?_ ?_) ?_
 ·rintro a b x ⟨h1,h2⟩ ic hb hx hc;refine ⟨fun j y hj hy=>?_,h2⟩
  rcases eY j ((a+b)/2) with h|h
  ·exact hm j _ y x h hy hx hc
  ·have:j=(a+b)/2:=by omega
   subst this;rw [hx] at hy;cases hy;exact hc
 ·rintro a b x ⟨h1,h2⟩ ic hb hx hc;refine ⟨h1,fun j y hj hy=>?_⟩
  rcases eY ((a+b)/2) j with h|h
  ·exact fun qD=>hc (hm _ j x y h hx hy qD)
  ·have:j=(a+b)/2:=by omega
   subst this;rw [hx] at hy;cases hy;exact hc
 ·rintro v ⟨k,hv,hk,h1,h2⟩;have e:=Pc hk h1 (fun x hx=>h2 k x (bm _) hx);rw [WO hC hv];exact ε.ret (by unfold mQ;rw [e])
end
end
section
def Pm:∀{a b:List UInt8},lu a b<0↔eZ a b=true
 |[],[]=>by simp [lu,eZ]
 |[],_::_=>by simp [lu,eZ]
 |_::_,[]=>by simp [lu,eZ]
 |a::x,b::y=>by
  have ih:=Pm (a:=x) (b:=y);simp only [lu,eZ,qT,bM,decide_eq_true_eq,beq_iff_eq];by_cases h1:a<b
  ·rw [if_pos h1];simp [h1]
  ·rw [if_neg h1];by_cases h2:b<a
   ·rw [if_pos h2];refine ⟨fun h=>by omega,fun h=>?_⟩
    rcases h with h|⟨rfl,-⟩
    ·exact absurd h h1
    ·exact absurd h2 h1
   ·rw [if_neg h2,ih];have:a=b:=Wn (He.1 h2) (He.1 h1);simp [h1,this]
def Pl:∀{a b:List UInt8},lu a b=0↔a=b
 |[],[]=>by simp [lu]
 |[],_::_=>by simp [lu]
 |_::_,[]=>by simp [lu]
 |a::x,b::y=>by
  have ih:=Pl (a:=x) (b:=y);simp only [lu];by_cases h1:a<b
  ·rw [if_pos h1];refine ⟨fun h=>by omega,fun h=>?_⟩;injection h with h _;subst h;exact absurd h1 (Wp _)
  ·rw [if_neg h1];by_cases h2:b<a
   ·rw [if_pos h2];refine ⟨fun h=>by omega,fun h=>?_⟩;injection h with h _;subst h;exact absurd h2 (Wp _)
   ·rw [if_neg h2,ih];have:a=b:=Wn (He.1 h2) (He.1 h1);subst this;simp
def W7 {α:Type} {l:List α} {K:Nat} (h:l.length*K≤140737488355328):sF l K=some l:=W6 h
def sw (l:List aJ):Prop:=l.Pairwise fun a b=>eZ a.aR b.aR=true
def cS (s:List UInt8) (x:aJ):Int:=lu x.aR s
def HL {s:List UInt8} {x:aJ}:cS s x<0↔eZ x.aR s=true:=Pm
def Pf {s:List UInt8} {x:aJ}:(cS s x==0)=true↔x.aR=s:=by rw [beq_iff_eq];exact Pl
def abC {l:List aJ} (h:sw l) (s:List UInt8):Mon (cS s) l:=fun j k x y vp hx hy hc=>by
 obtain ⟨h1,rfl⟩:=fX.1 hx;obtain ⟨h2,rfl⟩:=fX.1 hy;rw [HL] at *;exact HF (zC.1 h j k h1 h2 vp) hc
def Yo {s:List UInt8} {x y:aJ} (hx:¬cS s x<0) (hl:eZ x.aR y.aR=true):y.aR≠s:=by
 intro e;rw [e] at hl;exact hx (HL.2 hl)
def Ik {s:List UInt8}:∀{l:List aJ},sw l→l.find? (fun e=>e.aR==s)=if mQ (cS s) l=true then l[mR (cS s) l]? else none
 |[],_=>by simp [mQ]
 |x::l,h=>by
  have h2:=(iy.1 h).2;have h1:=(iy.1 h).1;rw [G5];by_cases hx:cS s x<0
  ·have aS:(x.aR==s)=false:=by
    rw [beq_eq_false_iff_ne];intro e;rw [HL,e,zQ] at hx;cases hx
   rw [aS,WL hx,Pb hx,Ik h2];rfl
  ·rw [WM hx,Pd hx];by_cases he:x.aR=s
   ·rw [if_pos (Pf.2 he),show (x.aR==s)=true by simpa using he];rfl
   ·rw [if_neg (fun h=>he (Pf.1 h)),show (x.aR==s)=false by simpa using he]
    exact G6.2 fun y hy=>by simpa using Yo hx (h1 y hy)
def O' {s:List UInt8} {l:List aJ} (h:sw l):mQ (cS s) l=(l.find? (fun e=>e.aR==s)).isSome:=by
 rw [Ik h];cases hb:mQ (cS s) l with
 |false=>rfl
 |true =>
  rw [if_pos rfl];unfold mQ at hb;cases hx:l[mR (cS s) l]? with
  |none=>rw [hx] at hb;cases hb
  |some x=>rfl
def WN {s:List UInt8} {l:List aJ} (h:sw l) {e:aJ} (he:l.find? (fun e=>e.aR==s)=some e):l[mR (cS s) l]?=some e:=by
 have:=O' (s:=s) h;rw [he] at this;rw [Ik h,if_pos (show mQ (cS s) l=true from this)] at he;exact he
def ab_ {n:ψ} (hs:sw n.ae) (hl:n.ae.length≤1000000) (s:List UInt8):qO n s=some ((mR (cS s) n.ae:Int),mQ (cS s) n.ae):=by
 have h:=WR (C:=fun x=>zk x s) (c:=cS s) (l:=n.ae) (fun x _=>rfl) (abC hs s) hl;unfold qO;show ((HH (fun x=>zk x s) n.ae).bind _)=_;rw [h];rfl
def Xm (l:List UInt8) (i:Nat) (h:i<l.length):1≤(nE l i).2∧i+(nE l i).2≤l.length∧(((nE l i).1=(l[i]!).toNat∧(l[i]!).toNat<128)∨(128≤(nE l i).1∧128≤(l[i]!).toNat))∧∀j,1≤j→j<(nE l i).2→128≤(l[i+j]!).toNat:=by
 have hg:∀k,((⟨l.toArray⟩:ByteArray).get! k)=l[k]! := fun k=>by
  show l.toArray[k]! = _;simp
 have hz:(⟨l.toArray⟩:ByteArray).size=l.length:=by show l.toArray.size=_;simp
 have hc:∀k,(decide (i+k<l.length)&&(l[i+k]!).toNat/64==2)=true→i+k<l.length∧128≤(l[i+k]!).toNat:=fun k h=>by
  rw [bM,decide_eq_true_eq,beq_iff_eq] at h;omega
 have e1:∀b:Nat,¬b<128→1≤((65533,1):Nat×Nat).2∧i+((65533,1):Nat×Nat).2≤l.length∧((((65533,1):Nat×Nat).1=b∧b<128)∨(128≤((65533,1):Nat×Nat).1∧128≤b))∧∀j,1≤j→j<((65533,1):Nat×Nat).2→128≤(l[i+j]!).toNat:=fun b hb=>⟨by simp,by simp;omega,.inr ⟨by simp,by omega⟩,fun j h1 h2=>by simp at h2;omega⟩;unfold nE Utf8.decode;simp only [hg,hz,Nat.add_zero,Utf8.runeError];generalize dY:(l[i]!).toNat=b0 at *;split
 ·exact ⟨by simp,by simp;omega,.inl ⟨rfl,by omega⟩,fun j h1 h2=>by simp at h2;omega⟩
 rename_i hb;split
 ·rename_i h2;rw [bM] at h2;have c1:=hc 1 h2.2;split
  ·exact ⟨by simp,by dsimp only;omega,.inr ⟨by dsimp only;omega,by omega⟩,fun j h3 h4=>by
    dsimp only at h4
    have:j=1:=by omega
    subst this;exact c1.2⟩
  ·exact e1 b0 hb
 split
 ·rename_i h2;rw [bM,bM] at h2;have c1:=hc 1 h2.1.2;have c2:=hc 2 h2.2;split
  ·rename_i h5;rw [bM,decide_eq_true_eq] at h5
   exact ⟨by simp,by dsimp only;omega,.inr ⟨by dsimp only;omega,by omega⟩,fun j h3 h4=>by
    dsimp only at h4
    rcases (by omega:j=1∨j=2) with rfl|rfl
    ·exact c1.2
    ·exact c2.2⟩
  ·exact e1 b0 hb
 split
 ·rename_i h2;rw [bM,bM,bM] at h2;have c1:=hc 1 h2.1.1.2;have c2:=hc 2 h2.1.2;have c3:=hc 3 h2.2;split
  ·rename_i h5;rw [bM,decide_eq_true_eq] at h5
   exact ⟨by simp,by dsimp only;omega,.inr ⟨by dsimp only;omega,by omega⟩,fun j h3 h4=>by
    dsimp only at h4
    rcases (by omega:j=1∨j=2∨j=3) with rfl|rfl|rfl
    ·exact c1.2
    ·exact c2.2
    ·exact c3.2⟩
  ·exact e1 b0 hb
 ·exact e1 b0 hb
def o9 (x:UInt8):Bool:=decide ((x.toNat:Int)<32)||(x.toNat:Int)==47
def acd (s:List UInt8):KB s 0=some (!s.any o9):=by
 refine ε.eq ?_;unfold KB;refine ε.loop (fun n:Nat=>n≤s.length∧(s.take n).any o9=false) (fun n=>s.length-n) ?_ 0 ⟨by omega,by simp⟩;rintro n ⟨hn,hp⟩;unfold EI EJ
 have aaE:s.any o9=((s.take n).any o9||(s.drop n).any o9):=by rw [←List.any_append,p5]
 by_cases Ξ:n<s.length
 ·obtain ⟨h1,h2,h3,h4⟩:=Xm s n Ξ
  have hx:s[n]! = s[n]:=by rw [V6,bO Ξ];rfl
  refine ε.cond (by simpa using Ξ) ?_
  have Zr:o9 s[n]=(decide ((((nE s n).1:Nat):Int)<32)||(((nE s n).1:Nat):Int)==47):=by
   rw [←hx];unfold o9
   rcases h3 with ⟨e,-⟩|⟨e1,e2⟩
   ·rw [e]
   ·rw [decide_eq_false (by omega),decide_eq_false (by omega),beq_eq_false_iff_ne.2 (by omega),beq_eq_false_iff_ne.2 (by omega)]
  refine ε.bind (R:=(·=o9 s[n])) (ε.bind (R:=(·=o9 s[n])) ?_ fun r hr=>ε.ret hr) fun r hr=>?_
  ·rw [Zr];refine ε.ite (fun h=>ε.ret ?_) fun h=>ε.ret ?_
   ·rw [h];rfl
   ·rw [GV.2 h];rfl
  ·subst hr;have hd:s.drop n=s[n]::s.drop (n+1):=pZ Ξ;refine ε.ite (fun hb=>ε.out (ε.ret ?_)) fun hb=>ε.inl ⟨⟨h2,?_⟩,by omega⟩
   ·rw [aaE,hd,List.any_cons,hb];simp
   ·have hb:o9 s[n]=false:=by simpa using hb
    rw [um];intro x gI;obtain ⟨k,hk⟩:=ED gI;rw [fo] at hk;by_cases QU:k<n+(nE s n).2
    ·rw [if_pos QU] at hk
     rcases OG k n with h|h|h
     ·rw [um] at hp;exact hp x (iN (by rw [fo,if_pos h];exact hk))
     ·subst h;rw [bO Ξ] at hk;cases hk;simpa using hb
     ·have:=h4 (k-n) (by omega) (by omega);rw [show n+(k-n)=k by omega,V6,hk] at this;have:128≤x.toNat:=this;unfold o9;simp;omega
    ·rw [if_neg QU] at hk;cases hk
 ·have:n=s.length:=by omega
  subst this;rw [kI] at hp;exact ε.bf (by simp) (ε.out (ε.ret (by rw [hp];rfl)))
def KI (s:List UInt8):tD s=some (d_ s):=by
 refine ε.eq ?_;unfold tD d_;refine ε.bind (R:=(·=(s == []||decide ((s.length:Int)>32)||s == [46]||s == [46,46]))) (ε.bind (R:=(·=(s == []||decide ((s.length:Int)>32)))) ?_ fun c hc=>ε.bind (R:=(·=(s == []||decide ((s.length:Int)>32)||s == [46]))) ?_ fun c2 aQ=>ε.bind (R:=(·=(s == []||decide ((s.length:Int)>32)||s == [46]||s == [46,46]))) ?_ fun c3 bN=>ε.ret bN) fun r hr=>?_
 ·cases s == []<;>exact ε.ret rfl
 ·subst hc;cases (s == []||decide ((s.length:Int)>32))<;>exact ε.ret rfl
 ·subst aQ;cases (s == []||decide ((s.length:Int)>32)||s == [46])<;>exact ε.ret rfl
 ·have e:(decide (1≤s.length)&&decide (s.length≤32)&&!(s == [46])&&!(s == [46,46]))=!r:=by
   subst hr;cases s with
   |nil=>rfl
   |cons a l =>
    simp only [cr,Bool.not_or];congr 1;congr 1;rw [show ((a::l)==([]:List UInt8))=false by rfl,decide_eq_true (by omega:1≤l.length+1),zw];congr 1;rw [←decide_not];congr 1;apply propext;omega
  refine ε.ite (fun h=>ε.ret ?_) fun h=>?_
  ·rw [e,h];rfl
  ·rw [acd,e];refine ε.ret ?_;rw [GV.2 h,zw,Bool.true_and];rfl
end
section
def ε.Es {α:Type} {p:Prop} [Decidable p] {x y:Option α} {a b:α} (h:p→ε x (·=a)) (h':¬p→ε y (·=b)):ε (if p then x else y) (·=if p then a else b):=by
 split
 ·exact h ‹_›
 ·exact h' ‹_›
structure ST (B:Nat) (t:Φ):Prop where
 f:TF B t
 s:gO t.ι
 e:∀n,n∈t.ι→sw n.ae
section
variable {B:Nat} {t:Φ} {δ:Int→Nat}
def W.st (h:W t δ) (hf:TF B t):ST B t:=⟨hf,h.s,fun n hn=>(h.en n hn).s⟩
def ST.g (h:ST B t) (i:Int):sw (gD t.ι i).ae:=by
 rcases xC t.ι i with hm|hm
 ·exact h.e _ hm
 ·rw [hm];exact pY
def ST.n (h:ST B t) (hB:B≤100000):t.ι.length≤1000000:=by have:=h.f.n;omega
def ST.up (h:ST B t) {C:Nat} (hC:B≤C):ST C t:=⟨h.f.up hC,h.s,h.e⟩
def SP (h:ST B t) (hB:B≤100000) (i:Int):tZ ⟨t⟩ i=some (db t.ι i,⟨t⟩):=by
 refine ε.eq ?_;unfold tZ;refine ε.ay (SQ h.s (h.n hB) i) ?_;unfold db;dsimp only;by_cases hg:(gN t.ι i).isSome=true
 ·rw [if_pos hg];refine ε.bf (by rw [hg];simp) ?_;by_cases hk:((gD t.ι i).Ω != 2)=true
  ·rw [if_pos hk,if_pos hk];exact ε.ret rfl
  ·rw [if_neg hk,if_neg hk];exact ε.ret rfl
 ·rw [if_neg hg];exact ε.cond (by simpa using hg) (ε.ret rfl)
def HT (h:ST B t) (i:Int):sw (db t.ι i).1.ae:=by
 unfold db;split
 ·split
  ·exact pY
  ·exact h.g i
 ·exact pY
def ab5 (h:ST B t) (hB:B≤100000) (i:Int) (s:List UInt8):wN t i s=some (cD t i s):=by
 refine ε.eq ?_;unfold wN cD;refine ε.ay (SP h hB i) ?_;dsimp only;refine ε.Es (fun _=>ε.ret rfl) fun _=>ε.ay (KI s) (ε.Es (fun _=>ε.ret rfl) fun _=>?_);refine ε.ay (ab_ (HT h i) (by have:=xn h.f i;omega) s) ?_;dsimp only;have hf:=O' (s:=s) (HT h i);cases hx:(db t.ι i).1.ae.find? (fun e=>e.aR==s) with
 |none=>rw [hx] at hf;exact ε.cond (by rw [hf];rfl) (ε.ret rfl)
 |some e=>rw [hx] at hf;exact ε.bf (by rw [hf];simp) (ε.ay (bd (WN (HT h i) hx)) (ε.ret rfl))
end
section
variable {B:Nat} {t:Φ}
end
end
section
section
variable {B:Nat} {t:Φ}
end
end
section
section
variable {B:Nat} {t:Φ}
end
end
section
def tw (l:List UInt8):List UInt8:=l.takeWhile (· != 47)
def dw (l:List UInt8):List UInt8:=l.dropWhile (· != 47)
def HW (l:List UInt8):(dw l).length≤l.length:=(List.dropWhile_suffix _).length_le
def iM (p:List UInt8):Option (List (List UInt8)) :=
 match p with
 |[]=>some []
 |a::r=>if a=47∧d_ (tw r)=true then (iM (dw r)).map (tw r::·) else none
termination_by p.length
decreasing_by have:=HW r;simp only [cr];omega
def y8:iM []=some []:=by rw [iM]
def tV (a:UInt8) (r:List UInt8):iM (a::r)=if a=47∧d_ (tw r)=true then (iM (dw r)).map (tw r::·) else none:=by rw [iM]
def gh (p:List UInt8):List (List UInt8)×Int:=if p=[47] then ([],0) else match iM p with|some l=>if l.length=0∨12<l.length then ([],60) else (l,0)|none=>([],60)
def Kg:∀l:List UInt8,(if decide (lG l 47<0)=true then (l.length:Int) else lG l 47)=((tw l).length:Int)∧-1≤lG l 47
 |[]=>⟨rfl,by decide⟩
 |a::l=>by
  obtain ⟨ih,ih2⟩:=Kg l;have hx:lG (a::l) 47=if (a==47)=true then 0 else if (lG l 47 == -1)=true then -1 else lG l 47+1:=rfl;have ht:tw (a::l)=if (a != 47)=true then a::tw l else []:=zF ..;by_cases ha:a=47
  ·rw [if_pos (by simpa using ha)] at hx;rw [if_neg (by simpa using ha)] at ht;rw [hx,ht];simp
  ·rw [if_neg (by simpa using ha)] at hx;rw [if_pos (by simpa using ha)] at ht;by_cases h1:lG l 47=-1
   ·rw [if_pos (by simpa using h1)] at hx;rw [h1] at ih;rw [hx,ht];simp at ih ⊢;omega
   ·rw [if_neg (by simpa using h1)] at hx;rw [if_neg (by simp;omega)] at ih;rw [hx,ht,if_neg (by simp;omega),cr];omega
def U0 (l:List UInt8):tw l++dw l=l:=List.takeWhile_append_dropWhile
def aej (l:List UInt8):l.take (tw l).length=tw l:=by
 have:(tw l++dw l).take (tw l).length=tw l:=List.take_left;rwa [U0] at this
def aei (l:List UInt8):l.drop (tw l).length=dw l:=by
 have:(tw l++dw l).drop (tw l).length=dw l:=List.drop_left;rwa [U0] at this
def U1 (l:List UInt8):(tw l).length≤l.length:=(List.takeWhile_prefix _).length_le
def ab9 (p:List UInt8) (h:p.length≤1000000):Ck p [47]=some (match p with|[]=>([],false)|a::r=>if a=47 then (r,true) else (a::r,false)):=by
 refine ε.eq ?_;unfold Ck Eo Ep;refine ε.ay (a:=match p with|[]=>([],false)|a::r=>if a=47 then (r,true) else (a::r,false)) (ε.eq ?_) (ε.ret rfl);cases p with
 |nil =>
  refine ε.ay (a:=false) rfl (ε.ret rfl)
 |cons a r =>
  dsimp only
  have hh:((sub (a::r) 0 (([47]:List UInt8).length:Int)) == [47])=decide (a=47):=by
   unfold sub;rw [Bool.eq_iff_iff];simp
  refine ε.bind (R:=(·=decide (a=47))) (ε.bind (R:=(·=decide (a=47))) (ε.bind (R:=(·=decide (a=47))) (ε.cond (by simp;omega) (ε.τ ⟨by decide,by simp,by simp;omega⟩ (ε.ret hh))) fun v hv=>ε.ret hv) fun v hv=>ε.ret hv) fun v hv=>?_;subst hv;by_cases ha:a=47
  ·rw [if_pos ha];refine ε.bf (by simpa using ha) (ε.τ ⟨by simp,by simp;omega,by omega⟩ (ε.ret ?_));unfold sub;simp
  ·rw [if_neg ha];exact ε.cond (by simpa using ha) (ε.ret rfl)
def iV (out:List (List UInt8)) (p:List UInt8):Option (List (List UInt8)):=match iM p with|some l=>if 12<(out++l).length then none else some (out++l)|none=>none
def ab6 (p:List UInt8) (hp:p.length≤100000):yr p=some (gh p):=by
 refine ε.eq ?_;unfold yr gh;by_cases h0:p=[47]
 ·rw [if_pos (by simpa using h0),if_pos h0];exact ε.ret rfl
 rw [if_neg (by simpa using h0),if_neg h0];unfold EK EL Su;refine ε.ay rfl ?_;refine ε.bind (R:=fun r=>(∀l,iV [] p=some l→r.1=.gY∧r.2.2.2=l)∧(iV [] p=none→r.1=.ret∧r.2.1=60)) ?_ fun r hr=>?_
 ·refine ε.loop (fun s:LS×List UInt8×Int×List (List UInt8)=>s.1=.gY∧s.2.1.length≤100000∧s.2.2.2.length≤12∧iV s.2.2.2 s.2.1=iV [] p) (fun s=>s.2.1.length) ?_ _ ⟨rfl,hp,by simp,rfl⟩;rintro ⟨c,q,b,out⟩ ⟨h1,h2,h3,h4⟩;dsimp only at h1 h2 h3 h4;subst h1;unfold EM;cases q with
  |nil =>
   refine ε.bf (by simp) (ε.out (ε.ret ⟨fun l hl=>⟨rfl,?_⟩,fun hn=>?_⟩))
   ·rw [←h4] at hl;unfold iV at hl;rw [y8] at hl;simp only [sd] at hl;rw [if_neg (by omega)] at hl;exact j7 hl
   ·rw [←h4] at hn;unfold iV at hn;rw [y8] at hn;simp only [sd] at hn;rw [if_neg (by omega)] at hn;cases hn
  |cons a r =>
   refine ε.cond (by simp) (ε.ay (ab9 (a::r) (by omega)) ?_);dsimp only
   have D0:r.length+1≤100000:=by simpa using h2
   by_cases ha:a=47
   ·rw [if_pos ha];dsimp only;have vH:=U1 r;have nK:=HW r;refine ε.bind (R:=(·=((tw r).length:Int))) ?_ fun v hv=>?_
    ·have rA:=(Kg r).1;by_cases hc:decide (lG r 47<0)=true
     ·rw [if_pos hc] at rA ⊢;exact ε.ret rA
     ·rw [if_neg hc] at rA ⊢;exact ε.ret rA
    subst hv
    have e1:sub r 0 ((tw r).length:Int)=tw r:=by unfold sub;rw [jH];exact aej r
    have e2:sub r ((tw r).length:Int) (r.length:Int)=dw r:=by unfold sub;rw [jH,jH,kI];exact aei r
    refine ε.τ ⟨by decide,by omega,by omega⟩ (ε.τ rfl ?_);rw [e1]
    have yh:iV out (a::r)=if d_ (tw r)=true∧out.length≠12 then iV (out++[tw r]) (dw r) else none:=by
     unfold iV;rw [tV];by_cases hn:d_ (tw r)=true
     ·rw [if_pos ⟨ha,hn⟩];cases hs:iM (dw r) with
      |none=>simp
      |some l =>
       simp only [CT,cZ,cr,oV,wZ,w_];by_cases ho:out.length=12
       ·rw [if_pos (by omega),if_neg (by simp [ho])]
       ·rw [if_pos (show d_ (tw r)=true∧out.length≠12 from ⟨hn,ho⟩)]
     ·rw [if_neg (fun h=>hn h.2),if_neg (fun h=>hn h.1)]
    by_cases hg:d_ (tw r)=true∧out.length≠12
    ·rw [if_pos hg] at yh;refine ε.ay (a:=(.gY,b,out++[tw r])) ?_ ?_
     ·refine ε.eq ?_;unfold yt;refine ε.bind (R:=(·=false)) (ε.bind (R:=(·=false)) (ε.bf (by simp) (ε.ay (KI _) (ε.ret (by rw [hg.1];rfl)))) fun v hv=>ε.bind (R:=(·=false)) (by rw [hv];exact ε.bf (by simp) (ε.ret (by rw [beq_eq_false_iff_ne];have:=hg.2;omega))) fun v hv=>ε.ret hv) fun v hv=>?_;rw [hv];exact ε.bf (by simp) (ε.τ (by simp only [cr,dK];omega) (ε.ret rfl))
     ·refine ε.bf (by simp [LS.tn]) (ε.τ ⟨by omega,by omega,by omega⟩ (ε.inl ⟨⟨rfl,?_,?_,?_⟩,?_⟩))
      ·dsimp only;rw [e2];omega
      ·simp only [cZ,cr,dK];have:=hg.2;omega
      ·dsimp only;rw [e2,←yh,h4]
      ·dsimp only;rw [e2,cr];omega
    ·rw [if_neg hg] at yh;refine ε.ay (a:=(.ret,60,out)) ?_ ?_
     ·refine ε.eq ?_;unfold yt
      refine ε.bind (R:=(·=true)) (ε.bind (R:=(·=!d_ (tw r))) (ε.bf (by simp) (ε.ay (KI _) (ε.ret rfl))) fun v hv=>ε.bind (R:=(·=true)) (by
       rw [hv];refine ε.ite (fun _=>ε.ret rfl) fun hn=>ε.ret ?_
       have hn:d_ (tw r)=true:=by simpa using hn
       have:out.length=12:=GZ fun hc=>hg ⟨hn,hc⟩
       rw [this];rfl) fun v hv=>ε.ret hv) fun v hv=>?_
      rw [hv];exact ε.cond rfl (ε.ret rfl)
     ·refine ε.cond (by simp [LS.tn]) (ε.out (ε.ret ⟨fun l hl=>?_,fun _=>⟨rfl,rfl⟩⟩));rw [←h4,yh] at hl;cases hl
   ·rw [if_neg ha];dsimp only
    have yh:iV out (a::r)=none:=by unfold iV;rw [tV,if_neg (fun h=>ha h.1)]
    have vH:=U1 (a::r);refine ε.bind (R:=(·=((tw (a::r)).length:Int))) ?_ fun v hv=>?_
    ·have rA:=(Kg (a::r)).1;by_cases hc:decide (lG (a::r) 47<0)=true
     ·rw [if_pos hc] at rA ⊢;exact ε.ret rA
     ·rw [if_neg hc] at rA ⊢;exact ε.ret rA
    subst hv;refine ε.τ ⟨by decide,by omega,by omega⟩ (ε.τ rfl ?_);refine ε.ay (a:=(.ret,60,out)) ?_ ?_
    ·refine ε.eq ?_;unfold yt
     exact ε.bind (R:=(·=true)) (ε.bind (R:=(·=true)) (ε.cond rfl (ε.ret rfl)) fun v hv=>ε.bind (R:=(·=true)) (by rw [hv];exact ε.cond rfl (ε.ret rfl)) fun v hv=>ε.ret hv) fun v hv=>by rw [hv];exact ε.cond rfl (ε.ret rfl)
    ·refine ε.cond (by simp [LS.tn]) (ε.out (ε.ret ⟨fun l hl=>?_,fun _=>⟨rfl,rfl⟩⟩));rw [←h4,yh] at hl;cases hl
 ·obtain ⟨r1,r2,r3,r4⟩:=r;obtain ⟨g1,g2⟩:=hr
  have hA:iV [] p=match iM p with|some l=>if 12<l.length then none else some l|none=>none:=by unfold iV;simp
  rw [hA] at g1 g2;cases hs:iM p with
  |none =>
   rw [hs] at g2;obtain ⟨e1,e2⟩:=g2 rfl;subst e1;subst e2;exact ε.bf (by simp) (ε.cond rfl (ε.ret rfl))
  |some l =>
   rw [hs] at g1 g2;dsimp only at g1 g2 ⊢;by_cases hl:12<l.length
   ·rw [if_pos (show l.length=0∨12<l.length from .inr hl)];rw [if_pos hl] at g2;obtain ⟨e1,e2⟩:=g2 rfl;subst e1;subst e2;exact ε.bf (by simp) (ε.cond rfl (ε.ret rfl))
   ·rw [if_neg hl] at g1;obtain ⟨e1,e2⟩:=g1 l rfl;subst e1;subst e2;refine ε.cond rfl ?_;by_cases IM:r4.length=0
    ·rw [if_pos (show r4.length=0∨12<r4.length from .inl IM)];exact ε.cond (by simp [IM]) (ε.ret rfl)
    ·rw [if_neg (show ¬(r4.length=0∨12<r4.length) by omega)];exact ε.bf (by simpa using IM) (ε.ret rfl)
def fw (l:List (List UInt8)):List UInt8:=if l.length=0 then [47] else [47]++jl l [47]
def Ev (a b:List UInt8) (l:List (List UInt8)):jl (a::b::l) [47]=a++[47]++jl (b::l) [47]:=by
 unfold jl;simp [Ou]
def Ew (a:List UInt8):jl [a] [47]=a:=by unfold jl;simp [Ou]
def v8 {s:List UInt8} (h:d_ s=true):(∀x,x∈s→x≠47)∧1≤s.length∧s.length≤32:=by
 unfold d_ at h;simp only [bM,decide_eq_true_eq,my,um] at h;refine ⟨fun x hx e=>?_,h.1.1.1.1,h.1.1.1.2⟩;have:=h.2 x hx;rw [e] at this;exact this (by decide)
def GD:∀{s r:List UInt8},(∀x,x∈s→x≠47)→(r=[]∨∃r',r=47::r')→tw (s++r)=s∧dw (s++r)=r
 |[],r,_,hr=>by rcases hr with rfl|⟨r',rfl⟩<;>exact ⟨rfl,rfl⟩
 |a::s,r,hs,hr=>by
  have ha:(a != 47)=true:=by simpa using hs a (by simp)
  obtain ⟨h1,h2⟩:=GD (s:=s) (fun x hx=>hs x (cu _ hx)) hr;unfold tw dw at *;rw [wZ,zF,if_pos ha,List.dropWhile_cons,if_pos ha,h1,h2];exact ⟨rfl,rfl⟩
def Uu:∀{l:List (List UInt8)},(∀s,s∈l→d_ s=true)→l≠[]→iM (47::jl l [47])=some l
 |[],_,h=>absurd rfl h
 |[a],h,_=>by
  have ha:=h a (by simp);rw [Ew,tV];have:=GD (r:=[]) (v8 ha).1 (.inl rfl);rw [sd] at this;rw [this.1,this.2,if_pos ⟨rfl,ha⟩,y8];rfl
 |a::b::l,h,_=>by
  have ha:=h a (by simp);have ih:=Uu (l:=b::l) (fun s hs=>h s (cu _ hs)) (by simp);rw [Ev,tV,oV];have:=GD (r:=[47]++jl (b::l) [47]) (v8 ha).1 (.inr ⟨_,rfl⟩);rw [this.1,this.2,if_pos ⟨rfl,ha⟩];show (iM (47::jl (b::l) [47])).map (a::·)=_;rw [ih];rfl
def Uw {l:List (List UInt8)} (h:∀s,s∈l→d_ s=true) (hl:l.length≤12):gh (fw l)=(l,0):=by
 unfold fw gh;cases l with
 |nil=>rfl
 |cons a r =>
  have aS:¬(47::jl (a::r) [47]:List UInt8)=[47]:=by
   intro e;injection e with _ e;have ha:=(v8 (h a (by simp))).2.1;cases r with
   |nil=>rw [Ew] at e;rw [e] at ha;simp at ha
   |cons b r=>rw [Ev] at e;simp at e
  have e:(if (a::r).length=0 then [47] else [47]++jl (a::r) [47]:List UInt8)=47::jl (a::r) [47]:=if_neg (by simp);rw [e,if_neg aS,Uu h (by simp)];dsimp only;rw [if_neg (by simp only [cr] at *;omega)]
def Uv:∀(n:Nat) (p:List UInt8),p.length≤n→∀l,iM p=some l→∀s,s∈l→d_ s=true
 |_,[],_,l,h,s,hs=>by rw [y8] at h;cases h;cases hs
 |0,_::_,hn,_,_,_,_=>by simp at hn
 |n+1,a::r,hn,l,h,s,hs=>by
  rw [tV] at h;split at h
  ·rename_i hc;cases hx:iM (dw r) with
   |none=>rw [hx] at h;cases h
   |some k =>
    rw [hx] at h;cases h
    rcases bp.1 hs with rfl|hs
    ·exact hc.2
    ·exact Uv n (dw r) (by have:=HW r;simp at hn;omega) k hx s hs
  ·cases h
def Cj {p:List UInt8}:(∀s,s∈(gh p).1→d_ s=true)∧(gh p).1.length≤12∧((gh p).2=0∨(gh p).2=60∧(gh p).1=[]):=by
 have:gh p=([],0)∨gh p=([],60)∨∃l,iM p=some l∧gh p=(l,0)∧l.length≤12:=by
  unfold gh;by_cases h0:p=[47]
  ·rw [if_pos h0];exact .inl rfl
  ·rw [if_neg h0];cases hs:iM p with
   |none=>exact .inr (.inl rfl)
   |some l =>
    dsimp only;by_cases hl:l.length=0∨12<l.length
    ·rw [if_pos hl];exact .inr (.inl rfl)
    ·rw [if_neg hl];exact .inr (.inr ⟨l,rfl,rfl,by omega⟩)
 rcases this with h|h|⟨l,h1,h2,h3⟩
 ·rw [h];exact ⟨fun s hs=>(by cases hs),by simp,.inl rfl⟩
 ·rw [h];exact ⟨fun s hs=>(by cases hs),by simp,.inr ⟨rfl,rfl⟩⟩
 ·rw [h2];exact ⟨fun s hs=>Uv _ _ (bm _) l h1 s hs,h3,.inl rfl⟩
def RY:∀{l:List (List UInt8)},(∀s,s∈l→s.length≤32)→(jl l [47]).length≤33*l.length
 |[],_=>by simp [jl,Ou]
 |[a],h=>by rw [Ew];have:=h a (by simp);simp;omega
 |a::b::l,h=>by
  have h1:=h a (by simp);have ih:=RY (l:=b::l) fun s hs=>h s (cu _ hs);rw [Ev];simp only [cZ,cr,dK] at *;omega
def A8 (p:List UInt8):List UInt8×List UInt8×Int:=match (gh p).1.getLast? with|some s=>(s,fw (gh p).1.dropLast,0)|none=>([],[],60)
def Kh {l:List (List UInt8)} (h:∀s,s∈l→d_ s=true) (hl:l.length≤12):(fw l).length≤400:=by
 unfold fw;have:=RY (l:=l) fun s hs=>(v8 (h s hs)).2.2;split
 ·simp
 ·simp only [cZ,cr,dK];omega
def iw (t:Φ):Int→List (List UInt8)→Int×Int
 |i,[]=>(i,0)
 |i,s::r=>if ((cD t i s).2 != 0)=true then (0,(cD t i s).2) else iw t (cD t i s).1 r
def uc (t:Φ) (p:List UInt8):Int×Int:=if ((gh p).2 != 0)=true then (0,(gh p).2) else iw t 1 (gh p).1
def ab7 {B:Nat} {t:Φ} (h:ST B t) (hB:B≤90000) (p:List UInt8) (hp:p.length≤100000):wO t p=some (uc t p):=by
 refine ε.eq ?_;unfold wO uc;refine ε.ay (ab6 p hp) (ε.Es (fun _=>ε.ret rfl) fun _=>?_);have hl:=(Cj (p:=p)).2.1;generalize gh p=x at *;obtain ⟨l,e⟩:=x;dsimp only at hl ⊢;unfold UY
 have key:∀(r:List (List UInt8)) (n:Nat) (i:Int),l.drop n=r→n≤l.length→loop (wP (l,e) t) (i,(n:Int))=some (iw t i r):=by
  intro r;induction r with
  |nil =>
   intro n i hd hn
   have:n=l.length:=by have:=congrArg List.length hd;simp at this;omega
   subst this;refine nV ?_;unfold wP;simp [Gw,Cat.out,iw]
  |cons s r ih =>
   intro n i hd hn
   have Ξ:n<l.length:=by
    rcases eY n l.length with h|h
    ·exact h
    ·rw [kH h] at hd;cases hd
   rw [pZ Ξ] at hd;injection hd with hx nK
   have hb:wP (l,e) t (i,(n:Int))=if ((cD t i s).2 != 0)=true then some (.inr (0,(cD t i s).2)) else some (.inl ((cD t i s).1,((n+1:Nat):Int))):=by
    unfold wP
    have hd:decide ((n:Int)<(l.length:Int))=true:=by simpa using Ξ
    simp only [hd,if_true,bd (bO Ξ),hx,aX,ab5 h (by omega)];split
    ·rfl
    ·rw [ee (by unfold Ψ;omega)];rfl
   unfold iw;by_cases hc:((cD t i s).2 != 0)=true
   ·rw [if_pos hc] at hb ⊢;exact nV hb
   ·rw [if_neg hc] at hb ⊢;rw [vX hb];exact ih (n+1) _ nK Ξ
 exact ⟨_,key l 0 1 rfl (hZ _),rfl⟩
end
section
section
variable {α:Type}
def Eu (C:α→Option Bool) (l:List α) (s1:Int):Option (Int⊕Int):=if (decide (s1<(l.length:Int))) then (idx l s1).bind fun x1=>(C x1).bind fun x2=>if x2 then out (some s1) else τ (Ψ (s1+1)) (some (.inl ((s1+1)))) else out (some (-1))
def abb {C:α→Option Bool} {p:α→Bool} {l:List α} (hC:∀x,x∈l→C x=some (p x)) (hl:l.length≤1000000):loop (Eu C l) 0=some (oI (l.findIdx? p)):=by
 rw [A' (b:=l) p (fun n _=>(n:Int)) (-1)]
 ·cases h:l.findIdx? p with
  |none=>rfl
  |some n=>obtain ⟨x,hx,-⟩:=sN h;simp only [hx];rfl
 ·intro n x hx Ξ;unfold Eu
  have hd:decide ((n:Int)<(l.length:Int))=true:=by simpa using Ξ
  simp only [hd,if_true,bd hx,aX,hC x (iN hx)];split
  ·rfl
  ·rw [ee (by unfold Ψ;omega)]
 ·unfold Eu;simp [Cat.out]
def HV (C:α→Option Bool) (s1:Int×Int×List α):Option ((Int×Int×List α)⊕(Int×List α)):=if (decide (s1.2.1<(s1.2.2.length:Int))) then ((idx s1.2.2 s1.2.1).bind fun x2=>(C x2).bind fun x3=>if (!x3) then (idx s1.2.2 s1.1).bind fun _=>τ (Ψ (s1.1+1)) (some (((s1.1+1),(s1.2.2.set s1.1.toNat x2)))) else some ((s1.1,s1.2.2))).bind fun v2=>τ (Ψ (s1.2.1+1)) (some (.inl ((v2.1,(s1.2.1+1),v2.2)))) else out (some ((s1.1,s1.2.2)))
def adx {l:List α} {i:Nat} {x:α} (h:i<l.length):(l.set i x).take (i+1)=l.take i++[x]:=by
 rw [List.take_set,List.set_eq_take_append_cons_drop,if_pos (by simp;omega)];rw [ahC,ur (by omega)];congr 1;rw [kH (by simp;omega)]
def Xu {C:α→Option Bool} {p:α→Bool} {l:List α} (hC:∀x,x∈l→C x=some (p x)) (hl:l.length≤1000000) {k:Nat} (hk:k<l.length) (hb:l.take k=(l.take (k+1)).filter fun x=>!p x) :
  ε (loop (HV C) ((k:Int),(k:Int)+1,l)) (fun r=>∃i:Nat,r.1=i∧i≤r.2.length∧r.2.take i=l.filter fun x=>!p x):=by
 refine ε.loop (fun s:Int×Int×List α=>∃i j:Nat,s.1=i∧s.2.1=j∧i<j∧j≤l.length∧s.2.2.length=l.length∧s.2.2.take i=(l.take j).filter (fun x=>!p x)∧s.2.2.drop j=l.drop j) (fun s=>l.length-s.2.1.toNat) ?_ _ ⟨k,k+1,rfl,rfl,by omega,by omega,rfl,hb,rfl⟩;rintro ⟨s0,s1,s⟩ ⟨i,j,e1,e2,et,hj,hlen,ht,hd⟩;dsimp only at e1 e2 hlen ht hd;subst e1;subst e2;unfold HV;dsimp only;by_cases Ξ:j<l.length
 ·have hx:s[j]?=l[j]?:=by
   have:=congrArg (fun r=>r[0]?) hd;simpa using this
  have QX:l[j]?=some l[j]:=bO Ξ;rw [QX] at hx
  have uU:s.drop (j+1)=l.drop (j+1):=by
   have:=congrArg (List.drop 1) hd;simpa using this
  have Rv:l.take (j+1)=l.take j++[l[j]]:=by rw [OC,QX];rfl
  refine ε.cond (by simp;omega) (ε.bind (R:=fun v:Int×List α=>∃i':Nat,v.1=(i':Int)∧i'≤j+1∧i'<j+1∧v.2.length=l.length∧v.2.take i'=(l.take (j+1)).filter (fun x=>!p x)∧v.2.drop (j+1)=l.drop (j+1)) (ε.ay (bd hx) (ε.ay (hC _ (eH Ξ)) ?_)) fun v hv=>?_)
  ·refine ε.ite (fun hp=>?_) fun hp=>ε.ret ⟨i,rfl,by omega,by omega,hlen,?_,uU⟩
   ·have hi:i<s.length:=by omega
    refine ε.ay (bd (bO hi)) (ε.τ (by unfold Ψ;omega) (ε.ret ⟨i+1,by dsimp only;omega,by omega,by omega,by simp [hlen],?_,?_⟩))
    ·dsimp only;rw [jH,adx hi,ht,Rv,oe,j5,if_pos hp];rfl
    ·dsimp only;rw [jH,List.drop_set_of_lt (by omega)];exact uU
   ·rw [ht,Rv,oe,j5,if_neg hp];simp
  ·obtain ⟨i',h1,h2,h3,h4,h5,h6⟩:=hv;exact ε.τ (by unfold Ψ;omega) (ε.inl ⟨⟨i',j+1,h1,by dsimp only;omega,h3,Ξ,h4,h5,h6⟩,by dsimp only;omega⟩)
 ·have:j=l.length:=by omega
  subst this;refine ε.bf (by simp [hlen]) (ε.out (ε.ret ⟨i,rfl,by dsimp only;omega,?_⟩));dsimp only;rw [ht,kI]
def Xt {C:α→Option Bool} {p:α→Bool} {l:List α} {z:α} (hC:∀x,x∈l→C x=some (p x)) (hl:l.length≤1000000) :
  ((loop (Eu C l) 0).bind fun x1=>if (x1==(-1)) then some l else (τ (Ψ (x1+1)) (loop (HV C) ((x1,(x1+1),l)))).bind fun v1=>τ ((0:Int)≤v1.1∧v1.1≤(v1.2.length:Int)) (τ ((0:Int)≤v1.1∧v1.1≤(((v1.2.take (v1.1.toNat)++gl (v1.2.length-(v1.1.toNat)) z)).length:Int)) (some ((((v1.2.take (v1.1.toNat)++gl (v1.2.length-(v1.1.toNat)) z)).take v1.1.toNat)))))=some (l.filter fun x=>!p x):=by
 refine ε.eq ?_;refine ε.ay (abb hC hl) ?_;cases h:l.findIdx? p with
 |none =>
  refine ε.cond (by rfl) (ε.ret ?_);rw [w9] at h;symm;rw [w8];intro x hx;simp [h x hx]
 |some k =>
  rw [G7] at h;obtain ⟨hk,AI,jU⟩:=h;show ε (if ((k:Int) == -1)=true then _ else _) _;refine ε.bf (by simp) (ε.bind (ε.τ (by show Ψ ((k:Int)+1);unfold Ψ;omega) (Xu hC hl hk ?_)) fun v hv=>?_)
  ·have nT:l.take (k+1)=l.take k++[l[k]]:=by rw [OC,bO hk];rfl
   rw [nT,oe,j5,if_neg (by simp [AI])];simp only [List.filter_nil,sd];symm;rw [w8];intro x hx;obtain ⟨j,hj⟩:=ED hx;rw [fo] at hj;by_cases vp:j<k
   ·rw [if_pos vp] at hj;obtain ⟨h1,rfl⟩:=fX.1 hj;have:=jU j vp;simpa using this
   ·rw [if_neg vp] at hj;cases hj
  ·obtain ⟨i,h1,h2,h3⟩:=hv;rw [h1,jH];refine ε.τ ⟨by omega,by omega⟩ (ε.τ ⟨by omega,by simp;omega⟩ (ε.ret ?_));rw [←h3,Wc (by simp;omega),ahC,Nat.min_self]
end
end
section
section
variable {t:Φ}
def PO (t:Φ) (q:List (List UInt8)) (n:ψ):Prop:=(∀s,s∈q→d_ s=true)∧iw t 1 q=(n.κ,0)∧gN t.ι n.κ=some n
def NO (s:List UInt8):∀(q:List (List UInt8)) (i:Int),iw t i (q++[s])=if ((iw t i q).2 != 0)=true then iw t i q else if ((cD t (iw t i q).1 s).2 != 0)=true then (0,(cD t (iw t i q).1 s).2) else ((cD t (iw t i q).1 s).1,0)
 |[],i=>by
  show iw t i [s]=_;unfold iw iw;rw [if_neg (show ¬(((i,(0:Int)):Int×Int).2 != 0)=true by simp)]
 |a::q,i=>by
  have ih:=NO s q (cD t i a).1;show iw t i (a::(q++[s]))=_;have e:∀r,iw t i (a::r)=if ((cD t i a).2 != 0)=true then (0,(cD t i a).2) else iw t (cD t i a).1 r:=fun r=>rfl;rw [e,e];by_cases h:((cD t i a).2 != 0)=true
  ·simp only [if_pos h]
  ·simp only [if_neg h];exact ih
def Yn {c:Int} {l:List aJ} (h:sh c l) {e:aJ} (he:e∈l):l.find? (fun x=>x.aR==e.aR)=some e:=by
 have hs:=h.s;clear h;induction l with
 |nil=>cases he
 |cons x l ih =>
  obtain ⟨h1,h2⟩:=iy.1 hs;rw [G5]
  rcases bp.1 he with rfl|fP
  ·simp
  ·have:(x.aR==e.aR)=false:=by
    rw [beq_eq_false_iff_ne];intro hx;have:=h1 e fP;rw [hx,zQ] at this;cases this
   rw [this];exact ih fP h2
def RT.look (h:RT t) {n:ψ} (hn:gN t.ι n.κ=some n) (hk:n.Ω=2) {e:aJ} (he:e∈n.ae):cD t n.κ e.aR=(e.κ,0):=by
 have hd:db t.ι n.κ=(n,0):=by
  unfold db;rw [oz hn,hn];simp [hk]
 have ho:=h.en n (dS hn).1;unfold cD;rw [hd];dsimp only;rw [if_neg (by simp),if_neg (by rw [(ho.r e he).1];simp),Yn ho he]
def RT.R9 (h:RT t) {n:ψ} (hn:n∈t.ι) {e:aJ} (he:e∈n.ae):n.Ω=2:=by
 rcases h.nd n hn with g|g
 ·rw [g.2.1] at he;cases he
 ·exact g.1
def PO.step (h:RT t) {q:List (List UInt8)} {n:ψ} (hp:PO t q n) {e:aJ} (he:e∈n.ae):∃m,PO t (q++[e.aR]) m∧m.κ=e.κ:=by
 obtain ⟨h1,h2,h3⟩:=hp;have hk:=h.R9 (dS h3).1 he;obtain ⟨m,hm⟩:=xd.1 (h.cl n (dS h3).1 e he);have jV:=(dS hm).2;refine ⟨m,⟨fun s hs=>?_,?_,by rw [jV];exact hm⟩,jV⟩
 ·rcases iY.1 hs with hs|hs
  ·exact h1 s hs
  ·rw [dV.1 hs];exact ((h.en n (dS h3).1).r e he).1
 ·rw [NO,h2,if_neg (by simp)];dsimp only;rw [h.look h3 hk he,if_neg (by simp),jV]
def PO.inv {q:List (List UInt8)} {s:List UInt8} {m:ψ} (hp:PO t (q++[s]) m):∃n e,PO t q n∧n.Ω=2∧e∈n.ae∧e.aR=s∧e.κ=m.κ:=by
 obtain ⟨h1,h2,h3⟩:=hp;rw [NO] at h2;by_cases c1:((iw t 1 q).2 != 0)=true
 ·rw [if_pos c1] at h2;rw [h2] at c1;exact absurd c1 (by simp)
 rw [if_neg c1] at h2;by_cases c2:((cD t (iw t 1 q).1 s).2 != 0)=true
 ·rw [if_pos c2] at h2;injection h2 with _ h2;rw [h2] at c2;exact absurd c2 (by simp)
 rw [if_neg c2] at h2;injection h2 with h2 _;obtain ⟨n,e,g1,g2,g3,g4,g5,g6⟩:=look_ok (qb c2);have hi:=(dS g1).2;refine ⟨n,e,⟨fun x hx=>h1 x (p4 _ hx),?_,by rw [hi];exact g1⟩,g2,uq g5,by simpa using Oo g5,by rw [←g6,h2]⟩;have:=qb c1;exact Prod.ext hi.symm this
def PO.mem {q:List (List UInt8)} {n:ψ} (h:PO t q n):n∈t.ι:=(dS h.2.2).1
def MU {α:Type} {P:List α→Prop} (h0:P []) (h1:∀q s,P q→P (q++[s])) (q:List α):P q:=by
 have:∀n (q:List α),q.length=n→P q:=by
  intro n;induction n with
  |zero=>intro q hq;rw [p0.1 hq];exact h0
  |succ n ih =>
   intro q hq
   have aS:q≠[]:=by intro e;rw [e] at hq;cases hq
   rw [←Om aS];exact h1 _ _ (ih _ (by rw [V9];omega))
 exact this _ q rfl
def WV {l:List ψ} {n:ψ} (hn:n∈l) (i:Int):cE n.ae i≤cM l i:=by
 induction l with
 |nil=>cases hn
 |cons x l ih =>
  rw [ra]
  rcases bp.1 hn with rfl|hn
  ·omega
  ·have:=ih hn;omega
def SJ {α:Type} {p:α→Bool} {a b:α}:∀{l:List α},l.countP p≤1→a∈l→b∈l→p a=true→p b=true→a=b
 |[],_,h,_,_,_=>by cases h
 |x::l,h,ha,hb,pa,pb=>by
  rw [uo] at h
  rcases bp.1 ha with rfl|nI<;>rcases bp.1 hb with rfl|aH
  ·rfl
  ·rw [if_pos pa] at h;have:=Ol.2 ⟨b,aH,pb⟩;omega
  ·rw [if_pos pb] at h;have:=Ol.2 ⟨a,nI,pa⟩;omega
  ·exact SJ (by omega) nI aH pa pb
def RT.W8 (h:RT t) {n:ψ} (hn:n∈t.ι) (hk:n.Ω=2):cM t.ι n.κ≤1:=by
 rcases h.dir hn hk with g|g
 ·rw [g.1,g.2.2.2.1];omega
 ·have:=g.2.1;omega
def PO.uniq (h:RT t) (q:List (List UInt8)):∀{q':List (List UInt8)} {n:ψ},n.Ω=2→PO t q n→PO t q' n→q=q':=by
 have Sv:∀{n:ψ},PO t [] n→∀r s,¬PO t (r++[s]) n:=fun {n} hn r s hr=>by
  obtain ⟨p,e,g1,g2,g3,g4,g5⟩:=hr.inv
  have e1:n.κ=1:=by have:=hn.2.1;injection this with this _;exact this.symm
  exact W.Be h g1.mem g3 (g5.trans e1)
 have iM:∀q':List (List UInt8),q'=[]∨∃r s,q'=r++[s]:=fun q'=>by
  by_cases aS:q'=[]
  ·exact .inl aS
  ·exact .inr ⟨_,_,(Om aS).symm⟩
 induction q using MU with
 |h0 =>
  intro q' n hk h1 h2
  rcases iM q' with rfl|⟨r,s,rfl⟩
  ·rfl
  ·exact absurd h2 (Sv h1 r s)
 |h1 r s ih =>
  intro q' n hk h1 h2
  rcases iM q' with rfl|⟨r',s',rfl⟩
  ·exact absurd h1 (Sv h2 r s)
  ·obtain ⟨p,e,g1,g2,g3,g4,g5⟩:=h1.inv;obtain ⟨p',e',k1,k2,k3,k4,k5⟩:=h2.inv;have u1:=W.parent h g1.mem g3 (q:=n) (by rw [g5];exact h1.2.2) hk;have u2:=W.parent h k1.mem k3 (q:=n) (by rw [k5];exact h1.2.2) hk
   have Ea:p=p':=by
    have:=g1.2.2;rw [←u1,u2,k1.2.2] at this;exact (j7 this).symm
   subst Ea;have hc:=h.W8 h1.mem hk;have he:e=e':=SJ (p:=fun e:aJ=>e.κ==n.κ) (dN (WV g1.mem n.κ) hc) g3 k3 (by simpa using g5) (by simpa using k5);subst he;rw [ih g2 g1 k1,←g4,←k4]
def PO.ex (h:RT t):∀{i:Int} {d:Nat},Deep t.ι i d→∀{n:ψ},gN t.ι i=some n→n.Ω=2→∃q,PO t q n:=by
 intro i d hd;induction hd with
 |root=>intro n hn hk;exact ⟨[],fun s hs=>(by cases hs),by rw [(dS hn).2];rfl,by rw [(dS hn).2];exact hn⟩
 |step h1 h2 h3 h4 ih =>
  intro n hn hk;rw [hn] at h2;cases h2;have hm:=dS hn
  rcases h.dir hm.1 hk with g|g
  ·exact absurd (g.1.symm.trans hm.2).symm h1
  ·obtain ⟨p,hp,e,he,rp⟩:=g.2.2.2 rfl;obtain ⟨q,hq⟩:=ih hp (h.R9 (dS hp).1 he);obtain ⟨m,k1,k2⟩:=hq.step h he;refine ⟨q++[e.aR],?_⟩;have e:=k1.2.2;rw [k2,rp,hm.2,hn] at e;rw [j7 e];exact k1
def PO.deep (h:RT t) (q:List (List UInt8)):∀{n:ψ},n.Ω=2→PO t q n→Deep t.ι n.κ q.length:=by
 induction q using MU with
 |h0 =>
  intro n hk hn
  have e1:n.κ=1:=by have:=hn.2.1;injection this with this _;exact this.symm
  rw [e1];exact .root
 |h1 r s ih =>
  intro n hk hn;obtain ⟨p,e,g1,g2,g3,g4,g5⟩:=hn.inv;have u1:=W.parent h g1.mem g3 (q:=n) (by rw [g5];exact hn.2.2) hk;rw [cZ];exact .step (fun e1=>W.Be h g1.mem g3 (g5.trans e1)) hn.2.2 hk (by rw [u1];exact ih g2 g1)
def PO.len (h:RT t) {q:List (List UInt8)} {n:ψ} (hn:PO t q n):q.length≤12:=by
 by_cases aS:q=[]
 ·rw [aS];exact hZ _
 ·rw [←Om aS] at hn;obtain ⟨p,e,g1,g2,g3,g4,g5⟩:=hn.inv;obtain ⟨d,d1,d2,d3⟩:=h.dp p g1.mem g2;have:=d1.uniq (PO.deep h _ g2 g1)
  have:d≠12:=fun PA=>by rw [d3 PA] at g3;cases g3
  rw [V9] at *;omega
def KS {l r:List Int} (h:l.Perm r):l.sum=r.sum:=by
 induction h with
 |nil=>rfl
 |cons x _ ih=>rw [mz,mz,ih]
 |swap x y l=>simp only [mz];omega
 |trans _ _ h1 h2=>rw [h1,h2]
def iK (t:Φ) (q:List (List UInt8)):ψ:=gD t.ι (iw t 1 q).1
def PO.kv {q:List (List UInt8)} {n:ψ} (h:PO t q n):iK t q=n:=by unfold iK;rw [h.2.1];exact oz h.2.2
def iB (n:ψ):Int:=(n.ae.length:Int)
def xu (n:ψ):Int:=(n.ae.map (·.κ)).sum
structure BF (t:Φ) (i:Nat) (A:List (List (List UInt8))):Prop where
 le:i≤A.length
 nd:A.Nodup
 rt:[]∈A
 po:∀q,q∈A→∃n,PO t q n
 pr:∀q s,q++[s]∈A→q∈A.take i
 cl:∀q,q∈A.take i→∀e,e∈(iK t q).ae→q++[e.aR]∈A
 ct:(A.length:Int)=1+((A.take i).map fun q=>iB (iK t q)).sum
 sm:(A.map fun q=>(iK t q).κ).sum=1+((A.take i).map fun q=>xu (iK t q)).sum
def Wr (h:RT t):BF t 0 [[]]:=by
 obtain ⟨r,h1,h2⟩:=h.rt;have hp:PO t [] r:=⟨fun s hs=>(by cases hs),by rw [(dS h1).2];rfl,by rw [(dS h1).2];exact h1⟩;refine ⟨hZ _,by simp,by simp,fun q hq=>⟨r,by rw [dV.1 hq];exact hp⟩,fun q s hq=>?_,fun q hq=>(by cases hq),by simp,?_⟩
 ·simp at hq
 ·simp only [eT,Ow,mz,OA,List.take_zero];rw [hp.kv,(dS h1).2]
def BF.step (h:RT t) {i:Nat} {A:List (List (List UInt8))} (hb:BF t i A) {q:List (List UInt8)} (hq:A[i]?=some q) {L:List (List UInt8)} (hL:L.Perm ((iK t q).ae.map (·.aR))):BF t (i+1) (A++L.map fun s=>q++[s]):=by
 have Ξ:=(fX.1 hq).1
 have nT:(A++L.map fun s=>q++[s]).take (i+1)=A.take i++[q]:=by
  rw [Wc (by omega),kC hq]
 obtain ⟨n,hn⟩:=hb.po q (iN hq);rw [hn.kv] at hL
 have bu:∀s,s∈L↔∃e,e∈n.ae∧e.aR=s:=fun s=>by rw [hL.mem_iff,cV]
 have ZO:A=A.take i++q::A.drop (i+1):=by rw [←drop_cons hq,p5]
 have hnq:q∉A.take i:=by
  have:=hb.nd;rw [ZO,Oz] at this;intro hc;exact this.2.2 q hc q (by simp) rfl
 have inj:∀{a b:List UInt8},q++[a]=q++[b]→a=b:=fun {a b} e=>by
  have:=List.append_cancel_left e;injection this
 refine ⟨by simp;omega,?_,p4 _ hb.rt,fun r hr=>?_,fun r s hr=>?_,fun r hr e he=>?_,?_,?_⟩
 ·rw [Oz];refine ⟨hb.nd,?_,fun a ha b aH e=>?_⟩
  ·refine G9.2 ?_;have hnn:(n.ae.map (·.aR)).Nodup:=G9.2 ((h.en n hn.mem).s.imp fun {a b} ic e=>by rw [e,zQ] at ic;cases ic);exact ((hL.nodup_iff).2 hnn).imp fun ic e=>ic (inj e)
  ·obtain ⟨s,hs,rfl⟩:=cV.1 aH;exact hnq (hb.pr q s (e▸ha))
 ·rcases iY.1 hr with hr|hr
  ·exact hb.po r hr
  ·obtain ⟨s,hs,rfl⟩:=cV.1 hr;obtain ⟨e,he,rfl⟩:=(bu s).1 hs;obtain ⟨m,hm,-⟩:=hn.step h he;exact ⟨m,hm⟩
 ·rw [nT]
  rcases iY.1 hr with hr|hr
  ·exact p4 _ (hb.pr r s hr)
  ·obtain ⟨s',hs,e⟩:=cV.1 hr;have:q=r:=(List.append_inj_left' e rfl);rw [this];simp
 ·rw [nT] at hr
  rcases iY.1 hr with hr|hr
  ·exact p4 _ (hb.cl r hr e he)
  ·obtain rfl:=dV.1 hr;rw [hn.kv] at he;exact List.mem_append_right _ (cV.2 ⟨_,(bu _).2 ⟨e,he,rfl⟩,rfl⟩)
 ·rw [nT,bP,CR,cZ,au,hL.length_eq,au];have:=hb.ct;simp only [eT,Ow,mz,OA,hn.kv];have e1:iB n=(n.ae.length:Int):=rfl;omega
 ·rw [nT,bP,bP,CR,CR,hb.sm];simp only [eT,Ow,mz,OA,hn.kv,G8]
  have:(L.map ((fun q=>(iK t q).κ) ∘ fun s=>q++[s])).Perm (n.ae.map (·.κ)):=by
   refine (hL.map _).trans ?_;rw [G8];refine V0 (oX fun e he=>?_);obtain ⟨m,hm,jV⟩:=hn.step h he;show (iK t (q++[e.aR])).κ=e.κ;rw [hm.kv,jV]
  rw [KS this];unfold xu;omega
def BF.all (h:RT t) {A:List (List (List UInt8))} (hb:BF t A.length A) (q:List (List UInt8)):∀{n:ψ},PO t q n→q∈A:=by
 induction q using MU with
 |h0=>intro n _;exact hb.rt
 |h1 r s ih =>
  intro n hn;obtain ⟨p,e,g1,g2,g3,g4,g5⟩:=hn.inv;rw [←g4];exact hb.cl r (by rw [kI];exact ih g1) e (by rw [g1.kv];exact g3)
def Cl {α:Type} (f:α→Int) (p:α→Bool):∀l:List α,(∀x,x∈l→p x=false→f x=0)→((l.filter p).map f).sum=(l.map f).sum
 |[],_=>rfl
 |x::l,h=>by
  have ih:=Cl f p l fun y hy=>h y (cu _ hy);rw [j5,eT,mz];cases hx:p x with
  |true=>rw [if_pos rfl,eT,mz,ih]
  |false=>rw [if_neg (by simp),ih,h x (by simp) hx];omega
def QN (h:RT t) {Q:List (List (List UInt8))} (cX:Q.Nodup) (hp:∀q,q∈Q→∃n,PO t q n):((Q.map (iK t)).filter fun n=>n.Ω==2).Nodup∧∀q,q∈Q→iK t q∈t.ι:=by
 refine ⟨?_,fun q hq=>by
  obtain ⟨n,hn⟩:=hp q hq
  rw [hn.kv];exact hn.mem⟩
 rw [List.filter_map];refine G9.2 ((cX.filter _).imp_of_mem fun {a b} ha aH ic e=>ic ?_);obtain ⟨Ao,Zf⟩:=dU.1 ha;obtain ⟨cy,kP⟩:=dU.1 aH;obtain ⟨m,hm⟩:=hp a Ao;obtain ⟨m',bE⟩:=hp b cy
 have k2:(iK t a).Ω=2:=by simpa using Zf
 rw [hm.kv,bE.kv] at e;rw [hm.kv] at k2;subst e;exact PO.uniq h a k2 hm bE
def RT.Sx (h:RT t):(t.ι.filter fun n=>n.Ω==2).Nodup:=Oi _ (h.s.imp fun {a b} ic e=>by rw [e] at ic;omega)
def RT.zero (h:RT t) {f:ψ→Int} (hf:∀n,n.ae=[]→f n=0):∀n,n∈t.ι→(n.Ω==2)=false→f n=0:=fun n hn hk=>hf n (by
 rcases h.nd n hn with g|g
 ·exact g.2.1
 ·rw [g.1] at hk;cases hk)
def BF.sum (h:RT t) {A:List (List (List UInt8))} (hb:BF t A.length A) (f:ψ→Int) (hf:∀n,n.ae=[]→f n=0):(A.map fun q=>f (iK t q)).sum=(t.ι.map f).sum:=by
 have hz:=h.zero hf;obtain ⟨hD,hN⟩:=QN h hb.nd hb.po
 have e1:(A.map fun q=>f (iK t q))=(A.map (iK t)).map f:=by rw [G8];rfl
 rw [e1,←Cl f (fun n=>n.Ω==2) (A.map (iK t)) (fun n hn hk=>by obtain ⟨q,hq,rfl⟩:=cV.1 hn;exact hz _ (hN q hq) hk),←Cl f (fun n=>n.Ω==2) t.ι hz];refine KS (List.Perm.map _ ((Wb hD h.Sx).2 fun n=>?_));rw [dU,dU,cV];constructor
 ·rintro ⟨⟨q,hq,rfl⟩,hk⟩;exact ⟨hN q hq,hk⟩
 ·rintro ⟨hn,hk⟩
  have k2:n.Ω=2:=by simpa using hk
  obtain ⟨d,hd,-⟩:=h.dp n hn k2;obtain ⟨q,hq⟩:=PO.ex h hd (uO h.s hn) k2;exact ⟨⟨q,hb.all h q hq,hq.kv⟩,hk⟩
def UJ {α:Type} {f:α→Int} (hf:∀x,0≤f x):∀l:List α,0≤(l.map f).sum
 |[]=>qU _
 |x::l=>by have:=hf x;have:=UJ hf l;simp only [eT,mz];omega
open Classical in
def aeb {α:Type} {f:α→Int} (hf:∀x,0≤f x) {D N:List α} (hD:D.Nodup) (hN:N.Nodup) (hs:∀n,n∈D→n∈N):(D.map f).sum≤(N.map f).sum:=by
 have:(D++N.filter fun n=>decide (n∉D)).Perm N:=by
  refine (Wb ?_ hN).2 fun n=>?_
  ·rw [Oz];refine ⟨hD,Oi _ hN,fun a ha b hb e=>?_⟩;have:=(dU.1 hb).2;simp only [decide_eq_true_eq] at this;exact this (e▸ha)
  ·rw [iY,dU,decide_eq_true_eq];constructor
   ·rintro (h|h)
    ·exact hs n h
    ·exact h.1
   ·intro h;by_cases hd:n∈D
    ·exact .inl hd
    ·exact .inr ⟨h,hd⟩
 rw [←KS (this.map f),bP,CR];have:=UJ hf (N.filter fun n=>decide (n∉D));omega
def BF.up (h:RT t) {i:Nat} {A:List (List (List UInt8))} (hb:BF t i A):(A.length:Int)≤1+(t.ι.map iB).sum:=by
 have hf:∀n:ψ,n.ae=[]→iB n=0:=fun n hn=>by unfold iB;rw [hn];rfl
 have hz:=h.zero hf;obtain ⟨hD,hN⟩:=QN h (Q:=A.take i) (hb.nd.sublist (List.take_sublist _ _)) fun q hq=>hb.po q (Wa hq)
 have e1:((A.take i).map fun q=>iB (iK t q))=((A.take i).map (iK t)).map iB:=by rw [G8];rfl
 have:=hb.ct;rw [e1,←Cl iB (fun n=>n.Ω==2) ((A.take i).map (iK t)) (fun n hn hk=>by obtain ⟨q,hq,rfl⟩:=cV.1 hn;exact hz _ (hN q hq) hk)] at this;have h2:=Cl iB (fun n=>n.Ω==2) t.ι hz
 have h3:=aeb (f:=iB) (fun n=>by unfold iB;omega) hD h.Sx fun n hn=>by
  obtain ⟨h1,h2⟩:=dU.1 hn;obtain ⟨q,hq,rfl⟩:=cV.1 h1;exact dU.2 ⟨hN q hq,h2⟩
 omega
def sum_add {α:Type} (f g:α→Int):∀l:List α,(l.map fun x=>f x+g x).sum=(l.map f).sum+(l.map g).sum
 |[]=>rfl
 |x::l=>by simp only [eT,mz,sum_add f g l];omega
def Gn {α:Type}:∀l:List α,(l.map fun _=>(0:Int)).sum=0
 |[]=>rfl
 |x::l=>by simp only [eT,mz,Gn l];omega
def UK:∀{l:List ψ},gO l→∀{m:ψ},m∈l→(l.map fun n=>if m.κ=n.κ then n.κ else 0).sum=m.κ
 |[],_,_,h=>by cases h
 |x::l,hs,m,hm=>by
  obtain ⟨h1,h2⟩:=iy.1 hs;simp only [eT,mz]
  rcases bp.1 hm with rfl|hm
  ·have:(l.map fun n=>if m.κ=n.κ then n.κ else 0)=l.map fun _=>(0:Int):=oX fun y hy=>by
    have:=h1 y hy;rw [if_neg (by omega)]
   rw [this,Gn,if_pos rfl];omega
  ·have:=h1 m hm;rw [if_neg (by omega),UK h2 hm];omega
def WW (e:aJ) (E:List aJ) (i:Int):(cE (e::E) i:Int)=cE E i+if e.κ=i then 1 else 0:=by
 unfold cE;rw [uo];by_cases h:e.κ=i
 ·rw [if_pos (by simpa using h),if_pos h];omega
 ·rw [if_neg (by simpa using h),if_neg h];omega
def UI {l:List ψ} (hs:gO l):∀{E:List aJ},(∀e,e∈E→(gN l e.κ).isSome=true)→(E.map (·.κ)).sum=(l.map fun n=>n.κ*(cE E n.κ:Int)).sum
 |[],_=>by
  have:(l.map fun n=>n.κ*(cE [] n.κ:Int))=l.map fun _=>(0:Int):=oX fun n _=>by simp [cE]
  rw [this,Gn];rfl
 |e::E,h=>by
  have ih:=UI hs (E:=E) fun x hx=>h x (cu _ hx)
  have:(l.map fun n=>n.κ*(cE (e::E) n.κ:Int))=l.map fun n=>n.κ*(cE E n.κ:Int)+if e.κ=n.κ then n.κ else 0:=oX fun n _=>by
   rw [WW,Oe];split<;>omega
  obtain ⟨m,hm⟩:=xd.1 (h e (by simp));have hg:=dS hm;have h1:=UK hs hg.1;rw [hg.2] at h1;rw [this,sum_add,←ih,h1,eT,mz];omega
def UH {l:List ψ} (hs:gO l):∀{r:List ψ},(∀n,n∈r→∀e,e∈n.ae→(gN l e.κ).isSome=true)→(r.map xu).sum=(l.map fun n=>n.κ*(cM r n.κ:Int)).sum
 |[],_=>by
  have:(l.map fun n=>n.κ*(cM [] n.κ:Int))=l.map fun _=>(0:Int):=oX fun n _=>by simp [cM]
  rw [this,Gn];rfl
 |x::r,h=>by
  have ih:=UH hs (r:=r) fun n hn=>h n (cu _ hn)
  have:(l.map fun n=>n.κ*(cM (x::r) n.κ:Int))=l.map fun n=>n.κ*(cE x.ae n.κ:Int)+n.κ*(cM r n.κ:Int):=oX fun n _=>by
   rw [ra,←Oe];simp
  rw [this,sum_add,←ih,eT,mz];unfold xu;rw [UI hs fun e he=>h x (by simp) e he]
def RT.Sj (h:RT t) {n:ψ} (hn:n∈t.ι):n.a_=(cM t.ι n.κ:Int):=by
 rcases h.nd n hn with g|⟨-,-,g|g⟩
 ·have:=g.2.2.2.2;dsimp only at this;omega
 ·rw [g.1,g.2.2.2.1];exact g.2.2.1
 ·have:=g.2.1;have:=g.2.2.1;dsimp only at *;omega
def BF.Cm (h:RT t) {A:List (List (List UInt8))} (hb:BF t A.length A):(A.length:Int)=1+(t.ι.map iB).sum∧(A.map fun q=>(iK t q).κ).sum=1+(t.ι.map fun n=>n.κ*n.a_).sum:=by
 have h1:=hb.ct;have h2:=hb.sm;rw [kI] at h1 h2;rw [hb.sum h iB fun n hn=>by unfold iB;rw [hn];rfl] at h1;rw [hb.sum h xu fun n hn=>by unfold xu;rw [hn];rfl,UH h.s h.cl] at h2;refine ⟨h1,h2.trans (congrArg (1+·) (congrArg List.sum (oX fun n hn=>?_)))⟩;rw [h.Sj hn]
end
end
section
def RQ {α:Type} {c:α→α→Option Int} {k:α→Int} (hc:p7 c fun a b=>lq (k a) (k b)) {x:α}:∀{l:List α},(∀y,y∈l→k y≠k x)→∃r,vQ c x l=some r
 |[],_=>⟨_,rfl⟩
 |y::r,h=>by
  have hy:=h y (by simp);obtain ⟨t,ht⟩:=RQ hc (x:=x) fun z hz=>h z (cu _ hz);simp only [vQ,hc.1];by_cases h1:lq (k x) (k y)<0
  ·have:¬lq (k y) (k x)<0:=fun h2=>by have:=qf.1 h1;have:=qf.1 h2;omega
   rw [if_pos h1,if_neg this];exact ⟨_,rfl⟩
  ·have:lq (k y) (k x)<0:=qf.2 (by have:¬k x<k y:=fun h2=>h1 (qf.2 h2);omega);rw [if_neg h1,if_pos this,ht];exact ⟨_,rfl⟩
def Ut {α:Type} {c:α→α→Option Int} {k:α→Int} (hc:p7 c fun a b=>lq (k a) (k b)):∀{l:List α},l.Pairwise (fun a b=>k a≠k b)→∃r,rS c l=some r
 |[],_=>⟨_,rfl⟩
 |x::r,h=>by
  obtain ⟨h1,h2⟩:=iy.1 h;obtain ⟨t,ht⟩:=Ut hc h2;have hp:=(Gh hc ht).1;obtain ⟨u,hu⟩:=RQ hc (x:=x) (l:=t) fun y hy=>jJ (h1 y (hp.mem_iff.1 hy));exact ⟨u,by simp only [rS];rw [ht];exact hu⟩
def P8 (l:List ψ) (i:Int):(∃n,gN l i=some n∧gD l i=n)∨(gN l i=none∧gD l i=oK):=by
 unfold gD;cases gN l i with
 |none=>exact .inr ⟨rfl,rfl⟩
 |some n=>exact .inl ⟨n,rfl,rfl⟩
def ε.Ss {ρ:Type} {e:Int} {p:Int→Option ρ} {k:Unit→Option ρ} {Q:ρ→Prop} (h0:e=0→ε (k ()) Q) (h1:e≠0→ε (p e) Q):ε ((nH e).bind fun x=>fT x p k) Q:=by
 unfold nH;by_cases he:e=0
 ·rw [if_neg (by simp [he])];exact h0 he
 ·rw [if_pos (by simpa using he)];exact h1 he
def mS {β:Type} (e:Int) (v:Int⊕β):Int⊕β:=if (e != 0)=true then .inl e else v
def Ky {α β:Type} (g:α→β) (v:Int⊕α):Int⊕β:=match v with|.inl e=>.inl e|.inr a=>.inr (g a)
def ε.mS {γ δ:Type} {e:Int} {k:Unit→Option (Int⊕γ)} {v:Int⊕δ} {g2:δ→γ} (hk:e=0→ε (k ()) (·=Ky g2 v)) :
  ε ((nH e).bind fun r=>fT r (fun e=>some (.inl e)) k) (·=Ky g2 (Go.Proofs.mS e v)):=by
 refine ε.Ss (fun h=>?_) fun h=>?_
 ·unfold Go.Proofs.mS;rw [if_neg (by simp [h])];exact hk h
 ·unfold Go.Proofs.mS;rw [if_pos (by simpa using h)];exact ε.ret rfl
def vW (t:Φ) (p:List UInt8):Int⊕ψ:=mS (uc t p).2 (.inr (gD t.ι (uc t p).1))
def Sw (n:ψ):Int×Int×Int×List UInt8×List aJ×Int:=(n.κ,n.Ω,n.a_,n.aP,n.ae,n.Up)
def abj {p:List UInt8}:(A8 p).2.1.length≤400∧Ψ (A8 p).2.2:=by
 unfold A8;obtain ⟨h1,h2,h3⟩:=Cj (p:=p);split
 ·refine ⟨Kh (fun s hs=>h1 s (V4 _ hs)) (by simp;omega),by unfold Ψ;dsimp only;omega⟩
 ·exact ⟨by simp,by unfold Ψ;dsimp only;omega⟩
section
variable {B:Nat} {t:Φ}
def acf (hs:gO t.ι) (hn:t.ι.length≤1000000) (i:Int) {a3:Int} {a4:List Int} {a5:List bV} {a6:List cw} {a7:Int} {a8:List bq} {a9:List aU} {Hn Ho:Int} {a12 Hq:List UInt8} {Hr Hs Ht:Int} {a17:List UInt8} {Hu Hv a20 a21 a22:Int}:Ab i t.ι t.Next t.ar a3 a4 a5 a6 a7 a8 a9 Hn Ho a12 Hq Hr Hs Ht a17 Hu Hv a20 a21 a22=some (Sw (gD t.ι i)):=by
 unfold Ab;show ((oR t i).bind _)=_;rw [ab2 hs hn];rfl
def SU (h:ST B t) (hB:B≤90000) (p:List UInt8) (hp:p.length≤100000) {a3:Int} {a4:List Int} {a5:List bV} {a6:List cw} {a7:Int} {a8:List bq} {a9:List aU} {Hn Ho:Int} {a12 Hq:List UInt8} {Hr Hs Ht:Int} {a17:List UInt8} {Hu Hv a20 a21 a22:Int}:xB p t.ι t.Next t.ar a3 a4 a5 a6 a7 a8 a9 Hn Ho a12 Hq Hr Hs Ht a17 Hu Hv a20 a21 a22=some (Ky Sw (vW t p)):=by
 refine ε.eq ?_;unfold xB vW;refine ε.ay (x:=wO t p) (ab7 h hB p hp) (ε.mS fun _=>?_);exact ε.ay (acf h.s (h.n (by omega)) _) (ε.ret rfl)
end
def SV:Ad=some ():=by unfold Ad;kernel_rfl
section
variable {B:Nat} {t:Φ}
def C6 (t:Φ) (i a b:Int) (r:List aJ×Int×Int):Prop :=
 if (decide (a<0)||decide (b<1)||decide (b>64))=true then r=([],0,1)
 else if ((db t.ι i).2 != 0)=true then r=([],0,(db t.ι i).2)
 else ∃L:List aJ,L.Perm ((db t.ι i).1.ae.filter fun e=>!decide (e.ar<a))∧L.Pairwise (fun x y=>¬y.ar<x.ar) ∧
  (if (L.length:Int)≤b then r=(L,0,0) else ∃x,L[(b-1).toNat]?=some x∧r=(L.take b.toNat,x.ar+1,0))
def ab4 (h:ST B t) (hB:B≤90000) {i:Int} (hk:(db t.ι i).1.ae.Pairwise fun a b=>a.ar≠b.ar) (hc:∀e,e∈(db t.ι i).1.ae→0≤e.ar∧e.ar≤1000000000000000) (a b:Int):ε (tX t i a b) (C6 t i a b):=by
 have hE:=xn h.f i;unfold tX C6
 refine ε.bind (R:=(·=(decide (a<0)||decide (b<1)||decide (b>64)))) (ε.bind (R:=(·=(decide (a<0)||decide (b<1)))) (ε.ite (fun e=>ε.ret (by rw [e];rfl)) fun e=>ε.ret (by rw [GV.2 e];rfl)) fun v hv=>ε.bind (R:=(·=(decide (a<0)||decide (b<1)||decide (b>64)))) (by
  subst hv
  exact ε.ite (fun e=>ε.ret (by rw [e];rfl)) fun e=>ε.ret (by rw [GV.2 e];rfl)) fun v hv=>ε.ret hv) fun v hv=>?_
 subst hv;by_cases h0:(decide (a<0)||decide (b<1)||decide (b>64))=true
 ·simp only [if_pos h0];exact ε.ret rfl
 simp only [if_neg h0];simp only [qT,decide_eq_true_eq,not_or] at h0;refine ε.ay (SP h (by omega) i) ?_;dsimp only;by_cases h1:((db t.ι i).2 != 0)=true
 ·simp only [if_pos h1];exact ε.ret rfl
 simp only [if_neg h1];generalize (db t.ι i).1.ae=E at *;have hd:=Xt (C:=fun x=>Gu x a) (p:=fun x=>decide (x.ar<a)) (l:=E) (z:=⟨[],0,0⟩) (fun x _=>rfl) (by omega);refine ε.ay (W7 (l:=E) (K:=32) (by omega)) (ε.ay (x:=Gf E a) hd ?_);have Y6:(E.filter fun e=>!decide (e.ar<a)).length≤E.length:=nv _ _;obtain ⟨L,l1⟩:=Ut Kq (k:=fun e:aJ=>e.ar) (l:=E.filter fun e=>!decide (e.ar<a)) (hk.filter _);obtain ⟨l2,l3⟩:=Gh Kq l1;refine ε.ay (adW (by omega) l1) ?_;have DK:=l2.length_eq
 have R_:L.Pairwise (fun x y=>¬y.ar<x.ar):=l3.imp fun h hc=>by have:=qf.1 h;omega
 by_cases hle:(L.length:Int)≤b
 ·refine ε.cond (by simpa using hle) (ε.ret ⟨L,l2,R_,?_⟩);rw [if_pos hle]
 ·have hb:(b-1).toNat<L.length:=by omega
  have hx:=bO hb;have hm:L[(b-1).toNat]∈E:=(dU.1 (l2.mem_iff.1 (eH hb))).1;have eo:=hc _ hm
  have e1:b-1=(((b-1).toNat:Nat):Int):=by omega
  refine ε.bf (by simpa using hle) (ε.τ ⟨by omega,by omega,by omega⟩ (ε.τ (by unfold Ψ;omega) ?_));refine ε.ay (by rw [e1];exact bd hx) (ε.τ (by unfold Ψ;omega) (ε.ret ⟨L,l2,R_,?_⟩));rw [if_neg hle];exact ⟨_,hx,rfl⟩
noncomputable def EB (t:Φ) (i a b:Int):List aJ×Int×Int:=(tX t i a b).getD ([],0,0)
def RT.Ph (h:RT t) (hf:TF B t) (hB:B≤90000) (i:Int):∀e,e∈(db t.ι i).1.ae→0≤e.ar∧e.ar≤1000000000000000:=by
 intro e he
 have:(db t.ι i).1=gD t.ι i∨(db t.ι i).1=oK:=by
  unfold db;split
  ·split
   ·exact .inr rfl
   ·exact .inl rfl
  ·exact .inr rfl
 rcases this with h1|h1
 ·rw [h1] at he
  rcases P8 t.ι i with ⟨n,g1,g2⟩|⟨g1,g2⟩
  ·rw [g2] at he;have:=(h.en n (dS g1).1).r e he;have:=hf.c;omega
  ·rw [g2] at he;cases he
 ·rw [h1] at he;cases he
def acb (h:RT t) (hf:TF B t) (hB:B≤90000) (i a b:Int):tX t i a b=some (EB t i a b)∧C6 t i a b (EB t i a b):=by
 have hk:(db t.ι i).1.ae.Pairwise fun a b=>a.ar≠b.ar:=by
  unfold db;split
  ·split
   ·exact pY
   ·rcases P8 t.ι i with ⟨n,g1,g2⟩|⟨g1,g2⟩
    ·rw [g2];exact (h.en n (dS g1).1).k
    ·rw [g2];exact pY
  ·exact pY
 obtain ⟨r,h1,h2⟩:=ab4 (h.st hf) hB hk (h.Ph hf hB i) a b;unfold EB;rw [h1];exact ⟨rfl,h2⟩
def ace {l:List aJ} (hl:l.length≤1000000):xA l=some (l.map (·.aR)):=by
 have:It l (0,[])=some (l.map (·.aR)):=by
  unfold It;refine ε.eq ?_;refine ε.loop (fun s:Int×List (List UInt8)=>∃n:Nat,s.1=n∧n≤l.length∧s.2=(l.take n).map (·.aR)) (fun s=>l.length-s.1.toNat) ?_ _ ⟨0,rfl,by omega,rfl⟩;rintro ⟨s0,o⟩ ⟨n,e1,hn,e2⟩;dsimp only at e1 e2;subst e1;subst e2;unfold Dz;dsimp only;by_cases Ξ:n<l.length
  ·have hx:=bO Ξ
   have nT:l.take (n+1)=l.take n++[l[n]]:=by rw [OC,hx];rfl
   refine ε.cond (by simpa using Ξ) (ε.ay (bd hx) (ε.τ (by simp only [au,da,cr,dK];omega) (ε.τ (by unfold Ψ;omega) (ε.inl ⟨⟨n+1,by dsimp only;omega,Ξ,?_⟩,by dsimp only;omega⟩))));dsimp only;rw [nT,bP];rfl
  ·have:n=l.length:=by omega
   subst this;exact ε.bf (by simp) (ε.out (ε.ret (by rw [kI])))
 unfold xA;rw [this];rfl
end
end
section
section
variable {B:Nat} {f:cF}
def PO.walk {t:Φ} (h:RT t) {q:List (List UInt8)} {n:ψ} (hq:PO t q n):uc t (fw q)=(n.κ,0)∧(fw q).length≤400∧gh (fw q)=(q,0):=by
 have hl:=hq.len h;have e:=Uw hq.1 hl;refine ⟨?_,Kh hq.1 hl,e⟩;unfold uc;rw [e,if_neg (by simp)];exact hq.2.1
def PO.vW {t:Φ} (h:RT t) {q:List (List UInt8)} {n:ψ} (hq:PO t q n):vW t (fw q)=.inr n:=by
 unfold Go.Proofs.vW;rw [(hq.walk h).1];unfold mS;rw [if_neg (by simp)];exact congrArg Sum.inr (oz hq.2.2)
def Xv (p:List UInt8):lv f ⟨1,0,p,[],0,0,0,[]⟩=uN 62 f ⟨1,0,p,[],0,0,0,[]⟩ ():=by
 unfold lv;rw [SV];rfl
def Xw (p:List UInt8) (a b:Int):lv f ⟨6,0,p,[],a,b,0,[]⟩=uN 67 f ⟨6,0,p,[],a,b,0,[]⟩ ():=by
 unfold lv;rw [SV];rfl
def Pq (h:RT f.S.aC) (hf:TF B f.S.aC) (hB:B≤4000) {q:List (List UInt8)} {n:ψ} (hq:PO f.S.aC q n):ε (lv f ⟨1,0,fw q,[],0,0,0,[]⟩) fun r=>r.2.uz=0∧r.2.κ=n.κ∧r.2.Ω=n.Ω:=by
 rw [Xv];unfold uN;refine ε.cond (by decide) ?_;have hw:=(hq.walk h).2.1;unfold DC;refine ε.ay (a:=.inr (n.κ,n.Ω)) ?_ ?_
 ·refine ε.eq (ε.ay (SU (h.st hf) (by omega) (fw q) (by omega)) ?_);rw [hq.vW h];exact ε.ret rfl
 ·exact ⟨_,rfl,rfl,rfl,rfl⟩
def Xd (h:RT f.S.aC) (hf:TF B f.S.aC) (hB:B≤4000) {q:List (List UInt8)} {n:ψ} (hq:PO f.S.aC q n) (hk:n.Ω=2) {a b:Int} (ha:0≤a) (hb:1≤b∧b≤64) :
  ε (lv f ⟨6,0,fw q,[],a,b,0,[]⟩) fun r=>r.2.uz=0∧∃L:List aJ,L.Perm (n.ae.filter fun e=>!decide (e.ar<a))∧L.Pairwise (fun x y=>¬y.ar<x.ar) ∧
   (if (L.length:Int)≤b then r.2.lS=L.map (·.aR)∧r.2.N=0 else ∃x,L[(b-1).toNat]?=some x∧r.2.lS=(L.take b.toNat).map (·.aR)∧r.2.N=x.ar+1):=by
 rw [Xw];unfold uN;refine ε.bf (by decide) (ε.bf (by decide) (ε.bf (by decide) (ε.cond (by decide) ?_)));have hw:=(hq.walk h).2.1
 have hd:db f.S.aC.ι n.κ=(n,0):=by
  unfold db;rw [oz hq.2.2,hq.2.2];simp [hk]
 obtain ⟨l1,l2⟩:=acb h hf (by omega) n.κ a b;unfold C6 at l2;rw [if_neg (by simp;omega),hd,if_neg (by simp)] at l2;obtain ⟨L,g1,g2,g3⟩:=l2;have DK:=g1.length_eq;have Y6:=nv (fun e:aJ=>!decide (e.ar<a)) n.ae;have hE:=(h.en n hq.mem).n;generalize EB f.S.aC n.κ a b=r at *
 have hr:r.1.length≤64∧r.2.2=0:=by
  split at g3
  ·rw [g3];exact ⟨by dsimp only at *;omega,rfl⟩
  ·obtain ⟨x,-,g3⟩:=g3;rw [g3];exact ⟨by have:=List.length_take_le b.toNat L;dsimp only at *;omega,rfl⟩
 refine ε.ay (a:=.inr (r.2.1,r.1.map (·.aR))) ?_ ?_
 ·unfold DB;refine ε.eq (ε.ay (SU (h.st hf) (by omega) (fw q) (by omega)) ?_);rw [hq.vW h];refine ε.ay (x:=tX f.S.aC n.κ a b) l1 (ε.Ss (fun _=>?_) fun he=>absurd hr.2 he);exact ε.ay (ace (by omega)) (ε.ret rfl)
 ·refine ⟨_,rfl,rfl,L,g1,g2,?_⟩;split at g3
  ·next hle =>
   rw [if_pos hle,g3];exact ⟨rfl,rfl⟩
  ·next hle =>
   rw [if_neg hle];obtain ⟨x,k1,k2⟩:=g3;exact ⟨x,k1,by rw [k2],by rw [k2]⟩
end
end
section
def adY {out:List (List UInt8)} {r:List UInt8} (h3:out.length≤12):iV out (47::r)=if d_ (tw r)=true∧out.length≠12 then iV (out++[tw r]) (dw r) else none:=by
 unfold iV;rw [tV];by_cases hn:d_ (tw r)=true
 ·rw [if_pos ⟨rfl,hn⟩];cases hs:iM (dw r) with
  |none=>simp
  |some l =>
   simp only [CT,cZ,cr,oV,wZ,w_];by_cases ho:out.length=12
   ·rw [if_pos (by omega),if_neg (by simp [ho])]
   ·rw [if_pos (show d_ (tw r)=true∧out.length≠12 from ⟨hn,ho⟩)]
 ·rw [if_neg (fun h=>hn h.2),if_neg (fun h=>hn h.1)]
def adZ {out:List (List UInt8)} (h:out.length≤12):iV out []=some out:=by
 unfold iV;rw [y8];dsimp only;rw [sd,if_neg (by omega)]
def ad0 {p:List UInt8} (h0:p≠[47]) (hp:p≠[]):gh p=match iV [] p with|some l=>(l,0)|none=>([],60):=by
 unfold gh iV;rw [if_neg h0];cases hs:iM p with
 |none=>rfl
 |some l =>
  dsimp only;rw [w_]
  have hl:l.length≠0:=fun h=>by
   cases p with
   |nil=>exact hp rfl
   |cons a r =>
    rw [tV] at hs;split at hs
    ·cases hx:iM (dw r) with
     |none=>rw [hx] at hs;cases hs
     |some k=>rw [hx] at hs;cases hs;simp at h
    ·cases hs
  by_cases pf:12<l.length
  ·rw [if_pos (.inr pf),if_pos pf]
  ·rw [if_neg (by omega),if_neg pf]
def XB {p:List UInt8} {a b:Nat} (h:a≤b):p.drop a=sub p (a:Int) (b:Int)++p.drop b:=by
 unfold sub;rw [jH,jH]
 conv=>lhs;rw [←p5 b p]
 rw [List.drop_append]
 rcases eY b p.length with hb|hb
 ·rw [da,ur (by omega),show a-b=0 by omega,List.drop_zero]
 ·have e:p.drop b=[]:=kH hb;rw [e];simp
def aea {p:List UInt8} {a b:Nat} {x:UInt8} (h:x∈sub p (a:Int) (b:Int)):∃k,a≤k∧k<b∧p[k]?=some x:=by
 unfold sub at h;rw [jH,jH] at h;obtain ⟨j,hj⟩:=Oy.1 h;rw [gJ,fo] at hj;split at hj
 ·exact ⟨a+j,by omega,by omega,hj⟩
 ·cases hj
def E4 (p:List UInt8) (hp:p.length≤100000):tK p=some (gh p):=by
 refine ε.eq ?_;unfold tK;by_cases h0:p=[47]
 ·rw [if_pos (by simpa using h0),h0];exact ε.ret rfl
 rw [if_neg (by simpa using h0)];cases p with
 |nil=>exact ⟨_,rfl,by unfold gh;rw [y8];rfl⟩
 |cons a r =>
  by_cases ha:a=47
  ·subst ha;rw [ad0 h0 (by simp)];refine ε.ay (a:=false) rfl (ε.bf (by simp) ?_);unfold Td;generalize hP:(47::r:List UInt8)=P at *
   have rC:1≤P.length:=by rw [←hP];simp
   refine ε.loop (fun s:Int×Int×List (List UInt8)=>∃m i:Nat,s.1=(m:Int)∧s.2.1=(i:Int)∧m≤i∧i≤P.length+1∧s.2.2.length≤12∧(∀k x,m≤k→k<i→P[k]?=some x→x≠47)∧iV [] P=(if i≤P.length then iV s.2.2 (47::P.drop m) else some s.2.2)) (fun s=>P.length+2-s.2.1.toNat) ?_ _ ⟨1,1,rfl,rfl,bm _,by omega,by simp,fun k x h1 h2=>by omega,?_⟩
   ·rintro ⟨s1,s2,out⟩ ⟨m,i,e1,e2,jV,hi,ho,bw,hs⟩;dsimp only at e1 e2 ho hs;subst e1;subst e2;unfold E8;dsimp only;by_cases hle:i≤P.length
    ·rw [if_pos hle] at hs;refine ε.cond (by simpa using hle) ?_;by_cases hc:i<P.length∧P[i]?≠some 47
     ·have hx:=bO hc.1;refine ε.ay (a:=true) ?_ ?_
      ·refine ε.eq (ε.ay (a:=true) ?_ (ε.ret rfl));refine ε.eq (ε.cond (by simpa using hc.1) (ε.ay (bd hx) (ε.ret ?_)));have:P[i]≠47:=fun e=>hc.2 (by rw [hx,e]);have aS:P[i].toNat≠47:=fun e=>this (OK.1 e);rw [bne_iff_ne];omega
      ·unfold yE;refine ε.cond rfl (ε.τ (by unfold Ψ;dsimp only;omega) (ε.inl ⟨⟨m,i+1,rfl,by dsimp only;omega,by omega,by omega,ho,fun k x h1 h2 hk=>?_,?_⟩,by dsimp only;omega⟩))
       ·rcases eY k i with h|h
        ·exact bw k x h1 h hk
        ·have:k=i:=by omega
         subst this;intro e;exact hc.2 (by rw [hk,e])
       ·rw [if_pos (by omega)];exact hs
     ·refine ε.ay (a:=false) ?_ (ε.bf (by simp) ?_)
      ·refine ε.eq (ε.ay (a:=false) ?_ (ε.ret rfl));by_cases Ξ:i<P.length
       ·have qo:P[i]?=some 47:=GZ fun h=>hc ⟨Ξ,h⟩;exact ε.eq (ε.cond (by simpa using Ξ) (ε.ay (bd qo) (ε.ret rfl)))
       ·exact ε.eq (ε.bf (by simpa using Ξ) (ε.ret rfl))
      have rK:(∀x,x∈sub P (m:Int) (i:Int)→x≠47):=fun x hx=>by
       obtain ⟨k,k1,k2,k3⟩:=aea hx;exact bw k x k1 k2 k3
      have oC:P.drop i=[]∨∃r',P.drop i=47::r':=by
       by_cases Ξ:i<P.length
       ·have qo:P[i]?=some 47:=GZ fun h=>hc ⟨Ξ,h⟩;exact .inr ⟨_,drop_cons qo⟩
       ·exact .inl (kH (by omega))
      obtain ⟨t1,t2⟩:=GD rK oC;rw [←XB jV] at t1 t2;rw [adY ho,t1,t2] at hs;refine ε.bind (R:=(·=decide (¬(d_ (sub P (m:Int) (i:Int))=true∧out.length≠12)))) (ε.τ ⟨by omega,by omega,by omega⟩ (ε.ay (E6 _) (ε.bind (R:=(·=decide (¬(d_ (sub P (m:Int) (i:Int))=true∧out.length≠12)))) ?_ fun v hv=>ε.ret hv))) fun v hv=>?_
      ·cases d_ (sub P (m:Int) (i:Int)) with
       |false=>exact ⟨_,rfl,by simp⟩
       |true =>
        refine ε.bf (by simp) (ε.ret ?_);by_cases pf:out.length=12
        ·simp [pf]
        ·simp [pf];omega
      subst hv;by_cases hg:d_ (sub P (m:Int) (i:Int))=true∧out.length≠12
      ·rw [if_pos hg] at hs;refine ε.bf (by simpa using hg) (ε.τ ⟨by omega,by omega,by omega⟩ (ε.τ (by simp only [cr,dK];omega) (ε.τ (by unfold Ψ;omega) ?_)));unfold yE;refine ε.τ (by unfold Ψ;dsimp only;omega) (ε.inl ⟨⟨i+1,i+1,by dsimp only;omega,by dsimp only;omega,bm _,by omega,by simp only [cZ,cr,dK];have:=hg.2;omega,fun k x h1 h2=>by omega,?_⟩,by dsimp only;omega⟩);dsimp only;rw [hs];by_cases Ξ:i<P.length
       ·have qo:P[i]?=some 47:=GZ fun h=>hc ⟨Ξ,h⟩;rw [if_pos (by omega),drop_cons qo]
       ·rw [if_neg (by omega),kH (by omega)];exact adZ (by simp only [cZ,cr,dK];have:=hg.2;omega)
      ·rw [if_neg hg] at hs;exact ε.cond (decide_eq_true hg) (ε.out (ε.ret (by rw [hs])))
    ·rw [if_neg hle] at hs;exact ε.bf (by simpa using hle) (ε.out ⟨_,rfl,by dsimp only;rw [hs]⟩)
   ·rw [if_pos rC,←hP];rfl
  ·refine ε.ay (a:=true) ?_ (ε.cond rfl (ε.ret ?_))
   ·have aS:a.toNat≠47:=fun e=>ha (OK.1 e);refine ε.eq (ε.ay (a:=true) (ε.eq (ε.bf (by simp) (ε.ay (a:=a) rfl (ε.ret ?_)))) (ε.ret rfl));rw [bne_iff_ne];omega
   ·unfold gh;rw [if_neg h0,tV,if_neg (fun h=>ha h.1)]
def S6 {l:List (List UInt8)} (h:∀s,s∈l→s.length≤32) (hl:l.length≤100000):yC l=some (fw l):=by
 refine ε.eq ?_;unfold yC fw;by_cases h0:l.length=0
 ·rw [if_pos (show l.length=0 from h0)];exact ε.cond (by simp [h0]) (ε.ret rfl)
 ·rw [if_neg (show ¬l.length=0 from h0)];refine ε.bf (by simpa using h0) (ε.ay (a:=[47]++jl l [47]) (ε.eq ?_) (ε.ret rfl));unfold Tb
  have key:∀(l:List (List UInt8)) (s:List UInt8),l≠[]→l.foldl (fun s x=>s++[47]++x) s=s++([47]++jl l [47]):=by
   intro l;induction l with
   |nil=>intro s h;exact absurd rfl h
   |cons a l ih =>
    intro s _;cases l with
    |nil=>rw [Ew];simp
    |cons b l =>
     rw [ahA,ih _ (by simp),Ev];simp
  refine ε.qg (l:=l) (fun n s=>s=(l.take n).foldl (fun s x=>s++[47]++x) []∧s.length≤33*n) (fun n x s Ξ hx hs=>?_) (fun s hs=>?_) _ ⟨rfl,by simp⟩
  ·unfold Bq;have RD:=h x (iN hx);have h2:=hs.2;refine ε.cond (by simpa using Ξ) (ε.τ (by dsimp only;simp only [cr,dK];omega) (ε.ay (bd hx) (ε.τ (by simp only [cZ,cr,dK];omega) (ε.τ (by unfold Ψ;dsimp only;omega) (ε.inl ⟨rfl,?_,?_⟩)))))
   ·rw [kC hx,List.foldl_append,←hs.1];rfl
   ·simp only [cZ,cr,dK];omega
  ·unfold Bq;refine ε.bf (by simp) (ε.out (ε.ret ?_));have aS:l≠[]:=fun e=>h0 (by rw [e];rfl);rw [hs.1,kI,key l [] aS];rfl
def acC (p:List UInt8) (hp:p.length≤100000):Bs p=some (A8 p):=by
 refine ε.eq ?_;unfold Bs A8;refine ε.ay (E4 p hp) ?_;obtain ⟨h1,h2,h3⟩:=Cj (p:=p);generalize hx:gh p=x at *;obtain ⟨l,e⟩:=x;dsimp only at h1 h2 h3 ⊢;cases l with
 |nil =>
  refine ε.bind (R:=(·=true)) (ε.bind (R:=(·=true)) (ε.ite (fun _=>ε.ret rfl) fun _=>ε.ret rfl) fun v hv=>ε.ret hv) fun v hv=>?_;rw [hv];exact ε.cond rfl (ε.ret rfl)
 |cons a r =>
  have he:e=0:=by
   rcases h3 with h|h
   ·exact h
   ·cases h.2
  subst he;refine ε.bind (R:=(·=false)) (ε.bind (R:=(·=false)) (ε.bf (by simp) (ε.ret (by rw [beq_eq_false_iff_ne];simp only [cr];omega))) fun v hv=>ε.ret hv) fun v hv=>?_;rw [hv]
  have aae:(a::r)[r.length]?=(a::r).getLast?:=by rw [List.getLast?_eq_getElem?];rfl
  have hs:(a::r).getLast?=some ((a::r).getLast (by simp)):=List.getLast?_eq_some_getLast (by simp)
  have hi:(((a::r).length:Int)-1)=((r.length:Nat):Int):=by simp only [cr];omega
  rw [hi,hs];refine ε.bf (by simp) (ε.τ (by unfold Ψ;simp only [cr] at h2;omega) (ε.ay (bd (aae.trans hs)) (ε.τ (by unfold Ψ;simp only [cr] at h2;omega) (ε.τ (by simp only [cr];omega) ?_))))
  have ht:(a::r).take ((r.length:Nat):Int).toNat=(a::r).dropLast:=by rw [jH,List.dropLast_eq_take];rfl
  rw [ht];exact ε.ay (S6 (fun s hs=>(v8 (h1 s (V4 _ hs))).2.2) (by simp at h2 ⊢;omega)) (ε.ret rfl)
def Ld {B:Nat} {t:Φ} (h:TF B t) (hB:B≤90000) (p:List UInt8) (hp:p.length≤100000):we t p=some (uc t p):=by
 refine ε.eq ?_;unfold we uc;refine ε.ay (E4 p hp) (ε.Es (fun _=>ε.ret rfl) fun _=>?_);have hl:=(Cj (p:=p)).2.1;generalize gh p=x at *;obtain ⟨l,e⟩:=x;dsimp only at hl ⊢;unfold Tk
 have key:∀(r:List (List UInt8)) (n:Nat) (i:Int),l.drop n=r→n≤l.length→loop (wg (l,e) t) (i,(n:Int))=some (iw t i r):=by
  intro r;induction r with
  |nil =>
   intro n i hd hn
   have:n=l.length:=by have:=congrArg List.length hd;simp at this;omega
   subst this;refine nV ?_;unfold wg;simp [Fb,Cat.out,iw]
  |cons s r ih =>
   intro n i hd hn
   have Ξ:n<l.length:=by
    rcases eY n l.length with h|h
    ·exact h
    ·rw [kH h] at hd;cases hd
   rw [pZ Ξ] at hd;injection hd with hx nK
   have hb:wg (l,e) t (i,(n:Int))=if ((cD t i s).2 != 0)=true then some (.inr (0,(cD t i s).2)) else some (.inl ((cD t i s).1,((n+1:Nat):Int))):=by
    unfold wg
    have hd:decide ((n:Int)<(l.length:Int))=true:=by simpa using Ξ
    simp only [hd,if_true,bd (bO Ξ),hx,aX,E3 h (by omega:B≤100000)];split
    ·rfl
    ·rw [ee (by unfold Ψ;omega)];rfl
   unfold iw;by_cases hc:((cD t i s).2 != 0)=true
   ·rw [if_pos hc] at hb ⊢;exact nV hb
   ·rw [if_neg hc] at hb ⊢;rw [vX hb];exact ih (n+1) _ nK Ξ
 exact ⟨_,key l 0 1 rfl (hZ _),rfl⟩
end
section
section
variable {B:Nat} {f:cF}
def Xb {L:List aJ} (h1:L.Pairwise fun x y=>¬y.ar<x.ar) (h2:L.Pairwise fun x y=>x.ar≠y.ar) {k:Nat} {x:aJ} (hx:L[k]?=some x) :
  L.filter (fun e=>!decide (e.ar<x.ar+1))=L.drop (k+1):=by
 obtain ⟨hk,jX⟩:=fX.1 hx
 conv=>lhs;rw [←p5 (k+1) L]
 have e1:(L.take (k+1)).filter (fun e=>!decide (e.ar<x.ar+1))=[]:=by
  rw [List.filter_eq_nil_iff];intro y hy;obtain ⟨j,hj⟩:=Oy.1 hy;rw [fo] at hj;split at hj
  ·obtain ⟨pC,rfl⟩:=fX.1 hj
   rcases eY j k with h|h
   ·have:=zC.1 h1 j k pC hk h;rw [jX] at this;simp only [my,decide_eq_false_iff_not];omega
   ·have:j=k:=by omega
    subst this;rw [jX];simp only [my,decide_eq_false_iff_not];omega
  ·cases hj
 have e2:(L.drop (k+1)).filter (fun e=>!decide (e.ar<x.ar+1))=L.drop (k+1):=by
  rw [w8];intro y hy;obtain ⟨j,hj⟩:=Oy.1 hy;rw [gJ] at hj;obtain ⟨pC,rfl⟩:=fX.1 hj;have g1:=zC.1 h1 k (k+1+j) hk pC (by omega);have g2:=zC.1 h2 k (k+1+j) hk pC (by omega);rw [jX] at g1 g2;simp only [my,decide_eq_false_iff_not];omega
 rw [oe,e1,e2,w_]
def Xg (h:RT f.S.aC) (hf:TF B f.S.aC) (hB:B≤4000) {q:List (List UInt8)} {n:ψ} (hq:PO f.S.aC q n) (hk:n.Ω=2) {b:Int} (hb:1≤b∧b≤64) :
  ε (Cv f (fw q) b) fun r=>r.2=true∧r.1.Perm (n.ae.map (·.aR)):=by
 unfold Cv UU;have hE:=h.en n hq.mem;refine ε.loop (fun s:Int×Int×List (List UInt8)=>∃(i:Nat) (O:List aJ),s.2.1=(i:Int)∧i≤O.length∧s.2.2=O.map (·.aR)∧0≤s.1∧(O++n.ae.filter fun e=>!decide (e.ar<s.1)).Perm n.ae) (fun s=>66-s.2.1.toNat) ?_ _ ⟨0,[],rfl,bm _,rfl,qU _,?_⟩
 ·rintro ⟨a,i0,out⟩ ⟨i,O,e1,hi,e2,ha,hp⟩;dsimp only at e1 e2 ha hp;subst e1;subst e2;have hlen:=hp.length_eq;rw [cZ] at hlen;have hn:=hE.n;unfold Gs;refine ε.cond (by simp;omega) (ε.bind (Xd h hf hB hq hk ha hb) ?_);rintro ⟨g,r⟩ ⟨r1,L,l1,l2,l3⟩;dsimp only at r1 l3 ⊢;have DK:=l1.length_eq
  have hNl:(r.lS.length:Int)≤b∧r.lS.length≤64:=by
   split at l3
   ·rw [l3.1,au];omega
   ·obtain ⟨x,k1,k2,k3⟩:=l3;rw [k2,au,da];omega
  refine ε.ay (a:=false) ?_ (ε.bf (by simp) ?_)
  ·rw [r1];refine ε.eq (ε.ay (a:=false) (ε.eq (ε.bf (by simp) (ε.ret ?_))) (ε.ret rfl));rw [decide_eq_false_iff_not];omega
  refine ε.τ (by rw [au];omega) ?_;split at l3
  ·rw [l3.1,l3.2];refine ε.cond (by simp) (ε.out (ε.ret ⟨rfl,?_⟩));dsimp only;rw [←bP];exact ((Oj O l1).trans hp).map _
  ·next hle =>
   obtain ⟨x,k1,k2,k3⟩:=l3;have hxL:=iN k1;have AX:=dU.1 (l1.mem_iff.1 hxL);have hc:=(hE.r x AX.1).2
   have hca:a≤x.ar:=by have:=AX.2;simp at this;exact this
   rw [k3];refine ε.bf (by simp;omega) (ε.τ (by unfold Ψ;omega) (ε.inl ⟨⟨i+1,O++L.take b.toNat,by dsimp only;omega,?_,?_,by dsimp only;omega,?_⟩,by dsimp only;omega⟩))
   ·rw [cZ,da];omega
   ·dsimp only;rw [k2,bP]
   ·dsimp only;have hd:L.Pairwise fun x y=>x.ar≠y.ar:=(List.Perm.pairwise_iff (fun h=>jJ h) l1).2 (hE.k.filter _);have Qw:=Xb l2 hd k1;rw [show (b-1).toNat+1=b.toNat by omega] at Qw
    have e3:(n.ae.filter fun e=>!decide (e.ar<x.ar+1))=(n.ae.filter fun e=>!decide (e.ar<a)).filter fun e=>!decide (e.ar<x.ar+1):=by
     rw [List.filter_filter];refine List.filter_congr fun e he=>?_;by_cases h1:e.ar<x.ar+1
     ·simp [h1]
     ·have:¬e.ar<a:=by omega
      simp [h1,this]
    have e4:(n.ae.filter fun e=>!decide (e.ar<x.ar+1)).Perm (L.drop b.toNat):=by
     rw [e3,←Qw];exact (l1.filter _).symm
    rw [oV];refine (Oj O ((Oj _ e4).trans ?_)).trans hp;rw [p5];exact l1
 ·refine V0 ?_;rw [w_,w8];intro e he;have:=(hE.r e he).2;simp;omega
def Xf {q:List (List UInt8)} {s:List UInt8} (hq:∀x,x∈q→d_ x=true) (hl:q.length≤12) (hs:d_ s=true):Cu (fw q) s=some (fw (q++[s])):=by
 have hj:=Kh hq hl;unfold Cu;rw [E4 _ (by omega),Uw hq hl];refine ε.eq (ε.τ (by simp;omega) (ε.τ (by simp;omega) ?_));refine ε.ay (S6 (l:=[]++q++[s]) (fun x hx=>?_) (by simp;omega)) (ε.ret (by rw [w_]));rw [w_] at hx
 rcases iY.1 hx with hx|hx
 ·exact (v8 (hq x hx)).2.2
 ·rw [dV.1 hx];exact (v8 hs).2.2
def Xh (h:RT f.S.aC) (hf:TF B f.S.aC) (hB:B≤4000) (hS:(f.S.aC.ι.map iB).sum≤3900) {b:Int} (hb:1≤b∧b≤64) :
  ε (zh f b) fun r=>r.2=true∧∃A,BF f.S.aC A.length A∧r.1=A.map fw:=by
 unfold zh UW;refine ε.loop (fun s:Int×List (List UInt8)=>∃(i:Nat) (A:List (List (List UInt8))),s.1=(i:Int)∧s.2=A.map fw∧BF f.S.aC i A) (fun s=>4001-s.1.toNat) ?_ _ ⟨0,[[]],rfl,rfl,Wr h⟩;rintro ⟨i0,all⟩ ⟨i,A,e1,e2,aH⟩;dsimp only at e1 e2;subst e1;subst e2;have AS:=aH.up h;have hle:=aH.le;unfold Gt;dsimp only;by_cases Ξ:i<A.length
 ·refine ε.ay (a:=true) (ε.eq (ε.ay (a:=true) (ε.eq (ε.cond (by simpa using Ξ) (ε.ret (by simp;omega)))) (ε.ret rfl))) (ε.cond rfl ?_);have hx:=bO Ξ
  have Eh:(A.map fw)[i]?=some (fw A[i]):=by rw [nu,hx];rfl
  obtain ⟨n,hn⟩:=aH.po A[i] (eH Ξ);refine ε.ay (bd Eh) (ε.bind (Pq h hf hB hn) ?_);rintro ⟨g,r⟩ ⟨r1,r2,r3⟩;dsimp only at r1 r2 r3 ⊢;rw [r1,r3];refine ε.bf (by simp) ?_;by_cases hk:n.Ω=2
  ·refine ε.bf (by simpa using hk) (ε.ay (bd Eh) (ε.bind (Xg h hf hB hn hk hb) ?_));rintro ⟨L,ok⟩ ⟨rfl,hL⟩;dsimp only at hL;refine ε.bf (by simp) ?_
   have dg:∀s,s∈L→d_ s=true:=fun s hs=>by
    obtain ⟨e,he,rfl⟩:=cV.1 (hL.mem_iff.1 hs);exact ((h.en n hn.mem).r e he).1
   have DK:=hL.length_eq;rw [au] at DK;have hEn:=(h.en n hn.mem).n;unfold UX;refine ε.each (l:=L) (fun k a=>a=(A++(L.take k).map fun s=>A[i]++[s]).map fw) (fun k x a xU vM ha=>?_) (fun a ha=>?_) _ (by simp)
   ·subst ha;unfold Cw;dsimp only
    have aaV:((A++(L.take k).map fun s=>A[i]++[s]).map fw)[i]?=some (fw A[i]):=by
     rw [nu,List.getElem?_append_left Ξ,hx];rfl
    refine ε.cond (by simpa using xU) (ε.ay (bd aaV) (ε.ay (bd vM) (ε.ay (Xf hn.1 (hn.len h) (dg x (iN vM))) (ε.τ ?_ (ε.τ (by unfold Ψ;omega) (ε.inl ⟨rfl,?_⟩))))))
    ·simp only [au,cZ,da,cr,dK];omega
    ·dsimp only;rw [kC vM,bP (l₁:=L.take k),←oV,bP (l₁:=A++_)];rfl
   ·subst ha;unfold Cw zi;rw [kI];refine ε.bf (by simp) (ε.out (ε.τ (by unfold Ψ;dsimp only;omega) ⟨_,rfl,⟨i+1,_,by dsimp only;omega,rfl,aH.step h hx (by rw [hn.kv];exact hL)⟩,by dsimp only;omega⟩))
  ·refine ε.cond (by simpa using hk) ?_;unfold zi;have AE:n.ae=[]:=(W.file h hn.mem hk).2.1;refine ε.τ (by unfold Ψ;dsimp only;omega) (ε.inl ⟨⟨i+1,A++([]:List (List UInt8)).map fun s=>A[i]++[s],by dsimp only;omega,by simp,aH.step h hx (by rw [hn.kv,AE];exact .nil)⟩,by dsimp only;omega⟩)
 ·have:i=A.length:=by omega
  subst this;refine ε.ay (a:=false) (ε.eq (ε.ay (a:=false) (ε.eq (ε.bf (by simp) (ε.ret rfl))) (ε.ret rfl))) (ε.bf (by simp) (ε.out ⟨_,rfl,rfl,A,aH,rfl⟩))
def abc {t:Φ} (h:RT t) {a b:List (List UInt8)} {m n:ψ} (ha:PO t a m) (hb:PO t b n) (e:fw a=fw b):a=b:=by
 have h1:=(ha.walk h).2.2;rw [e,(hb.walk h).2.2] at h1;injection h1 with h1 _;exact h1.symm
def Gm {α:Type} {g:α→Int} {c:Int}:∀{l:List α},(∀x,x∈l→0≤g x∧g x≤c)→0≤(l.map g).sum∧(l.map g).sum≤c*(l.length:Int)
 |[],_=>by simp
 |x::l,h=>by
  have h1:=h x (by simp);have h2:=Gm (l:=l) fun y hy=>h y (cu _ hy)
  have:c*((x::l).length:Int)=c*(l.length:Int)+c:=by rw [cr,Int.natCast_add,Oe];simp
  simp only [eT,mz];omega
def ε.Cm {α:Type} {l:List α} {g:α→Int} {Bd:Int×Int→Option ((Int×Int)⊕Int)} {c:Int} (hc:0≤c∧c≤30000000) (hl:l.length≤5000) (hg:∀x,x∈l→0≤g x∧g x≤c) (s0:Int) (h0:0≤s0∧s0≤1)
  (h1:∀(n:Nat) (x:α) (s:Int),n<l.length→l[n]?=some x→0≤s+g x→s+g x≤1000000000000→ε (Bd (s,(n:Int))) (kM (fun r=>r=(s+g x,(n:Int)+1)) fun _=>False))
  (h2:∀s,ε (Bd (s,(l.length:Int))) (kM (fun _=>False) (·=s))):ε (Cat.loop Bd (s0,0)) (·=s0+(l.map g).sum):=by
 refine ε.qg (l:=l) (fun n s=>s=s0+((l.take n).map g).sum) (fun n x s Ξ hx hs=>?_) (fun s hs=>?_) _ (by simp)
 ·have e1:((l.take (n+1)).map g).sum=((l.take n).map g).sum+g x:=by rw [kC hx,bP,CR];simp
  have h3:=Gm (l:=l.take (n+1)) fun y hy=>hg y (Wa hy);have h4:c*((l.take (n+1)).length:Int)≤30000000*5000:=Of hc.2 (by rw [da];omega) (by omega) (by omega);refine (h1 n x s Ξ hx (by omega) (by omega)).mono fun r hr=>?_;cases r with
  |inl r=>rw [hr];exact ⟨rfl,by dsimp only;omega⟩
  |inr r=>exact hr.elim
 ·rw [kI] at hs;rw [←hs];exact h2 s
end
end
section
section
variable {B:Nat} {f:cF}
def abB (m:UInt8):0≤CM (m.toNat:Int) 5∧CM (m.toNat:Int) 5<5:=by
 rw [Int.tmod_eq_emod_of_nonneg (by omega)];omega
def Xe (h:RT f.S.aC) (hf:TF B f.S.aC) (hB:B≤4000) (hS:(f.S.aC.ι.map iB).sum≤3900) (m:UInt8) :
  ε (τ (Ψ (1+(CM ((m.toNat:Int)) (5)))) ((zh f ((1+(CM ((m.toNat:Int)) (5))))).bind fun x4=>if (!x4.2) then some false else (M4 f ((1,0))).bind fun v1=>M5 x4 f true v1 (0))) (·=true):=by
 have hm:=abB m;refine ε.τ (by unfold Ψ;omega) (ε.bind (Xh h hf hB hS (b:=1+CM (m.toNat:Int) 5) (by omega)) ?_);rintro ⟨all,ok⟩ ⟨rfl,A,hA,dv⟩;dsimp only at dv;subst dv;refine ε.bf (by simp) ?_;have hN:=hf.n;have AS:=hA.up h;obtain ⟨AO,Ee⟩:=hA.Cm h
 have hI:∀n,n∈f.S.aC.ι→1≤n.κ∧n.κ≤5000∧0≤n.a_∧n.a_≤4000:=fun n hn=>by
  have h1:=h.lo n hn;have h2:=hf.x;have h3:=h.Sj hn;have h4:=hf.l n hn;omega
 refine ε.bind (R:=(·=1+(f.S.aC.ι.map iB).sum)) ?_ fun v1 ν=>?_
 ·unfold M4;refine ε.Cm (l:=f.S.aC.ι) (g:=iB) (c:=64) (by omega) (by omega) (fun n hn=>by have:=(h.en n hn).n;unfold iB;omega) 1 (by omega) (fun n x s Ξ hx b1 b2=>?_) fun s=>?_
  ·unfold Cq;refine ε.cond (by simpa using Ξ) (ε.ay (bd hx) (ε.τ ?_ (ε.τ (by unfold Ψ;dsimp only;omega) (ε.inl rfl))));have:s+iB x=s+(x.ae.length:Int):=rfl;unfold Ψ;dsimp only;omega
  ·unfold Cq;exact ε.bf (by simp) (ε.out (ε.ret rfl))
 subst ν;unfold M5
 have cX:(A.map fw).Pairwise (·≠·):=by
  refine G9.2 (hA.nd.imp_of_mem fun {a b} ha hb ic e=>ic ?_);obtain ⟨m1,ij⟩:=hA.po a ha;obtain ⟨m2,rG⟩:=hA.po b hb;exact abc h ij rG e
 refine ε.ou (l:=A.map fw) (fun _=>True) (fun n x Ξ hx _=>?_) (fun _=>?_) trivial
 ·unfold Cr UR
  have hlA:n<A.length:=by rw [au] at Ξ;exact Ξ
  refine ε.cond (by simpa using hlA) (ε.loop (fun s:Int=>∃k:Nat,s=(k:Int)∧k≤n) (fun s=>n-s.toNat) ?_ _ ⟨0,rfl,hZ _⟩);rintro s ⟨k,rfl,hk⟩;unfold Gp;by_cases pE:k<n
  ·have vM:=bO (show k<(A.map fw).length by omega);refine ε.cond (by simpa using pE) (ε.ay (bd vM) (ε.ay (bd hx) (ε.bf ?_ (ε.τ (by unfold Ψ;omega) (ε.inl ⟨⟨k+1,by omega,pE⟩,by omega⟩)))));obtain ⟨h1,rfl⟩:=fX.1 hx;rw [beq_iff_eq];exact zC.1 cX k n (by omega) h1 pE
  ·have:k=n:=by omega
   subst this;unfold Gr;exact ε.bf (by simp) (ε.out (ε.τ (by unfold Ψ;omega) ⟨_,rfl,rfl,trivial⟩))
 ·unfold Cr;refine ε.bf (by simp) (ε.out ?_);unfold Gq;refine ε.bind (R:=(·=0+(A.map fun q=>(iK f.S.aC q).κ).sum)) ?_ fun v4 aO=>?_
  ·unfold US;refine ε.Cm (l:=A) (g:=fun q=>(iK f.S.aC q).κ) (c:=5000) (by omega) (by omega) (fun q hq=>?_) 0 (by omega) (fun n q s Ξ hx b1 b2=>?_) fun s=>?_
   ·obtain ⟨n,hn⟩:=hA.po q hq;rw [hn.kv];have:=hI n hn.mem;omega
   ·unfold Cs;obtain ⟨nd,hn⟩:=hA.po q (iN hx);rw [hn.kv] at b1 b2
    have Eh:(A.map fw)[n]?=some (fw q):=by rw [nu,hx];rfl
    refine ε.cond (by simpa using Ξ) (ε.ay (bd Eh) (ε.bind (Pq h hf hB hn) ?_));rintro ⟨g,r⟩ ⟨r1,r2,r3⟩;dsimp only at r2 ⊢;rw [r2,hn.kv];exact ε.τ (by unfold Ψ;omega) (ε.τ (by unfold Ψ;omega) (ε.inl rfl))
   ·unfold Cs;exact ε.bf (by simp) (ε.out (ε.ret rfl))
  subst aO;refine ε.bind (R:=(·=0+(f.S.aC.ι.map fun n=>n.κ*n.a_).sum)) ?_ fun v5 bg=>?_
  ·unfold UT;refine ε.Cm (l:=f.S.aC.ι) (g:=fun n=>n.κ*n.a_) (c:=20000000) (by omega) (by omega) (fun n hn=>?_) 0 (by omega) (fun n x s Ξ hx b1 b2=>?_) fun s=>?_
   ·obtain ⟨g1,g2,g3,g4⟩:=hI n hn;have a1:0≤n.κ*n.a_:=Int.mul_nonneg (by omega) g3;have a2:n.κ*n.a_≤5000*4000:=Of g2 g4 g3 (by omega);exact ⟨a1,by omega⟩
   ·unfold Ct;obtain ⟨g1,g2,g3,g4⟩:=hI x (iN hx);have a1:0≤x.κ*x.a_:=Int.mul_nonneg (by omega) g3;have a2:x.κ*x.a_≤5000*4000:=Of g2 g4 g3 (by omega);exact ε.cond (by simpa using Ξ) (ε.ay (bd hx) (ε.τ (by unfold Ψ;omega) (ε.τ (by unfold Ψ;dsimp only;omega) (ε.τ (by unfold Ψ;dsimp only;omega) (ε.inl rfl)))))
   ·unfold Ct;exact ε.bf (by simp) (ε.out (ε.ret rfl))
  subst bg
  have agQ:=Gm (l:=A) (g:=fun q=>(iK f.S.aC q).κ) (c:=5000) fun q hq=>by
   obtain ⟨n,hn⟩:=hA.po q hq;rw [hn.kv];have:=hI n hn.mem;omega
  have hl4:5000*(A.length:Int)≤5000*4000:=Int.mul_le_mul_of_nonneg_left (by omega) (by omega);refine ε.ay (a:=true) ?_ (ε.ret rfl);refine ε.eq (ε.ay (a:=true) (ε.eq (ε.cond rfl (ε.ret ?_))) (ε.ay (a:=true) (ε.eq (ε.cond rfl (ε.τ ?_ (ε.ret ?_)))) (ε.ret rfl)))
  ·rw [beq_iff_eq,au];exact AO
  ·unfold Ψ;omega
  ·rw [beq_iff_eq];omega
end
end
end Go.Proofs
