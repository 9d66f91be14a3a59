/- The logic that the walks are in, piece P1. No condition. -/
import GoSem.Core.View
import GoSem.Core.Utf8
import Derived.Sort.AssemblyPlain
import Derived.Lib.BitFns
open BitVec renaming ofInt → eH
open Go.Lib renaming bitLen → RJ
open Int renaming toNat_natCast → gU
open List renaming getElem?_eq_getElem → bF
open Nat renaming lt_or_ge → gP, zero_le → lX, mod_eq_of_lt → Dc, min_eq_left → xI, le_max_right → alQ, le_max_left → alR
open Option.some renaming inj → nu
namespace Go.Cat
set_option linter.all false
section
inductive LS where
 |iK|Ma|ret|ex (i:Nat)
deriving DecidableEq
def LS.wZ:LS→Bool
 |.iK=>true
 |_=>false
def Ξ (n:Int):Prop:=-9223372036854775808≤n∧n≤9223372036854775807
instance (n:Int):Decidable (Ξ n):=inferInstanceAs (Decidable (_∧_))
def Ψ (p:Prop) [Decidable p] {ρ:Type} (x:Option ρ):Option ρ:=if p then x else none
def aC {p:Prop} [Decidable p] {ρ:Type} {x:Option ρ} {r:ρ} (h:Ψ p x=some r):p∧x=some r:=by
 unfold Ψ at h;split at h
 ·exact ⟨‹_›,h⟩
 ·cases h
def gq {p:Prop} [Decidable p] {ρ:Type} {x:Option ρ} (h:p):Ψ p x=x:=if_pos h
def idx {α:Type} (l:List α) (i:Int):Option α:=if 0≤i then l[i.toNat]? else none
def bq {α:Type} {l:List α} {i:Int} {x:α} (h:idx l i=some x):i=(i.toNat:Int):=by
 unfold idx at h;split at h
 ·omega
 ·cases h
def VG {α:Type} {l:List α} {i:Int} {x:α} (h:idx l i=some x):l[i.toNat]?=some x:=by
 unfold idx at h;split at h
 ·exact h
 ·cases h
def adX {α:Type} {l:List α} {i:Int} {x:α} (h:idx l i=some x):i.toNat<l.length:=(List.getElem?_eq_some_iff.1 (VG h)).1
def adY {α:Type} {l:List α} {n:Nat}:idx l (n:Int)=l[n]?:=by simp [idx]
def ι {α β:Type} {o:Option α} {f:α→Option β} {r:β} (h:o.bind f=some r):∃x,o=some x∧f x=some r:=Option.bind_eq_some_iff.1 h
def gT {σ ρ:Type} (B:σ→Option (σ⊕ρ)):Nat→σ→Option ρ
 |0,_=>none
 |n+1,s=>match B s with
  |none=>none
  |some (.inl s')=>gT B n s'
  |some (.inr r)=>some r
def OT {σ ρ:Type} {B:σ→Option (σ⊕ρ)} {r:ρ}:∀{n m:Nat} {s:σ},gT B n s=some r→n≤m→gT B m s=some r
 |0,_,_,h,_=>by cases h
 |n+1,0,_,_,hm=>by omega
 |n+1,m+1,s,h,hm=>by
  simp only [gT] at h ⊢;cases hB:B s with
  |none=>rw [hB] at h;cases h
  |some x =>
   rw [hB] at h;cases x with
   |inl s'=>exact OT h (by omega)
   |inr r'=>exact h
open Classical in
noncomputable def loop {σ ρ:Type} (B:σ→Option (σ⊕ρ)) (s:σ):Option ρ:=if h:∃r n,gT B n s=some r then some h.choose else none
def OV {σ ρ:Type} {B:σ→Option (σ⊕ρ)} {s:σ} {r:ρ} {n:Nat} (h:gT B n s=some r):loop B s=some r:=by
 have hex:∃r n,gT B n s=some r:=⟨r,n,h⟩;unfold loop;rw [dif_pos hex];obtain ⟨m,hm⟩:=hex.choose_spec;have h1:=OT h (alR n m);have h2:=OT hm (alQ n m);rw [h1] at h2;exact h2.symm
def Jm {σ ρ:Type} {B:σ→Option (σ⊕ρ)} {s:σ} {r:ρ} (h:loop B s=some r):∃n,gT B n s=some r:=by
 unfold loop at h;split at h
 ·rename_i hex;cases h;exact hex.choose_spec
 ·cases h
def V7 {σ ρ:Type} {B:σ→Option (σ⊕ρ)} {s:σ} (h:∀n r,gT B n s≠some r):loop B s=none:=by
 cases hl:loop B s with
 |none=>rfl
 |some r=>obtain ⟨n,hn⟩:=Jm hl;exact (h n r hn).elim
def Jl {σ ρ:Type} (B:σ→Option (σ⊕ρ)) (s:σ):loop B s=(B s).bind fun x=>match x with|.inl s'=>loop B s'|.inr r=>some r:=by
 cases hB:B s with
 |none =>
  refine V7 fun n r h=>?_;cases n with
  |zero=>cases h
  |succ n=>simp [gT,hB] at h
 |some x =>
  cases x with
  |inr r=>exact OV (n:=1) (by simp [gT,hB])
  |inl s' =>
   simp only [Option.bind_some];cases hl:loop B s' with
   |some r =>
    obtain ⟨n,hn⟩:=Jm hl;exact OV (n:=n+1) (by simp [gT,hB,hn])
   |none =>
    refine V7 fun n r h=>?_;cases n with
    |zero=>cases h
    |succ n =>
     simp only [gT,hB] at h;rw [OV h] at hl;cases hl
def tj {σ ρ:Type} {B:σ→Option (σ⊕ρ)} {s s':σ} (h:B s=some (.inl s')):loop B s=loop B s':=by rw [Jl,h];rfl
def nT {σ ρ:Type} {B:σ→Option (σ⊕ρ)} {s:σ} {r:ρ} (h:B s=some (.inr r)):loop B s=some r:=by rw [Jl,h];rfl
def out {σ ρ:Type} (x:Option ρ):Option (σ⊕ρ):=x.map .inr
def Wq {σ ρ:Type} {x:Option ρ} {y:σ⊕ρ} (h:out x=some y):∃r,x=some r∧y=.inr r:=by
 unfold out at h;cases x with
 |none=>cases h
 |some r=>cases h;exact ⟨r,rfl,rfl⟩
noncomputable def o_ {α ρ:Type} (S:α→Prop) (f:α→Option ρ):Option ρ:=by
 classical exact if h:∃r,∀x,S x→f x=some r then some h.choose else none
def yb {α ρ:Type} {S:α→Prop} {f:α→Option ρ} {r:ρ} (h:o_ S f=some r):∀x,S x→f x=some r:=by
 unfold o_ at h;split at h
 ·rename_i hex;cases h;exact hex.choose_spec
 ·cases h
def Sl {α ρ:Type} {S:α→Prop} {f:α→Option ρ} {r:ρ} (aQ:∃x,S x) (h:∀x,S x→f x=some r):o_ S f=some r:=by
 unfold o_;have hex:∃r,∀x,S x→f x=some r:=⟨r,h⟩;rw [dif_pos hex];obtain ⟨x,hx⟩:=aQ;rw [←hex.choose_spec x hx,h x hx]
def bZ {α:Type} (x y:Option α):Prop:=∀r,x=some r→y=some r
def bZ.refl {α:Type} (x:Option α):bZ x x:=fun _ h=>h
def bZ.bind {α β:Type} {x y:Option α} {f g:α→Option β} (h:bZ x y) (hf:∀a,bZ (f a) (g a)):bZ (x.bind f) (y.bind g):=fun r hr=>by
 obtain ⟨a,ha,hb⟩:=ι hr;rw [h a ha];exact hf a r hb
def bZ.Ψ {α:Type} {p:Prop} [Decidable p] {x y:Option α} (h:bZ x y):bZ (Cat.Ψ p x) (Cat.Ψ p y):=fun r hr=>by
 obtain ⟨hp,hx⟩:=aC hr;rw [gq hp];exact h r hx
def bZ.ite {α:Type} {p:Prop} [Decidable p] {x y x' y':Option α} (h:bZ x y) (h':bZ x' y'):bZ (if p then x else x') (if p then y else y'):=by
 split
 ·exact h
 ·exact h'
def bZ.out {σ ρ:Type} {x y:Option ρ} (h:bZ x y):bZ (Cat.out (σ:=σ) x) (Cat.out y):=fun r hr=>by
 obtain ⟨a,ha,rfl⟩:=Wq hr;rw [h a ha];rfl
def bZ.loop {σ ρ:Type} {B B':σ→Option (σ⊕ρ)} (h:∀s,bZ (B s) (B' s)):∀(n:Nat) (s:σ),bZ (gT B n s) (Cat.loop B' s)
 |0,_=>fun _ hr=>by cases hr
 |n+1,s=>fun r hr=>by
  simp only [gT] at hr;rw [Jl];cases hB:B s with
  |none=>rw [hB] at hr;cases hr
  |some x =>
   rw [hB] at hr;rw [h s x hB];cases x with
   |inl s'=>exact bZ.loop h n s' r hr
   |inr r'=>exact hr
def bZ.clone {α:Type} {l:List α} {f:Bool→Option (List α)} (h:∀b,(b=true→l=[])→f b=some l):o_ (fun b=>b=true→l=[]) f=some l :=
 Sl ⟨false,fun h=>by cases h⟩ h
def bt {α:Type} (n:Int):List (Int×α)→Option α
 |[]=>none
 |(k,c)::r=>if k=n then some c else bt n r
def cO {α:Type} (n:Int) (v:α):List (Int×α)→List (Int×α)
 |[]=>[(n,v)]
 |(k,c)::r=>if k=n then (k,v)::r else (k,c)::cO n v r
def OX {α β:Type} (f:α→β) (n:Int):∀l:List (Int×α),bt n (l.map fun p=>(p.1,f p.2))=(bt n l).map f
 |[]=>rfl
 |(k,c)::r=>by
  simp only [List.map_cons,bt];split
  ·rfl
  ·exact OX f n r
def iJ {α β:Type} (f:α→β) (n:Int) (v:α):∀l:List (Int×α),cO n (f v) (l.map fun p=>(p.1,f p.2))=(cO n v l).map fun p=>(p.1,f p.2)
 |[]=>rfl
 |(k,c)::r=>by
  simp only [List.map_cons,cO];split
  ·rfl
  ·rw [iJ f n v r];rfl
def BL {α:Type} (n:Int) (v:α):∀l:List (Int×α),(bt n l=none∧cO n v l=l++[(n,v)]∧∀p,p∈l→p.1≠n) ∨
  ∃(j:Nat) (c:α),l[j]?=some (n,c)∧bt n l=some c∧cO n v l=l.set j (n,v)∧∀(i:Nat) p,i<j→l[i]?=some p→p.1≠n
 |[]=>.inl ⟨rfl,rfl,fun _ h=>by cases h⟩
 |(k,c)::r=>by
  simp only [bt,cO];split
  ·rename_i h;subst h;exact .inr ⟨0,c,rfl,rfl,rfl,fun i p hi=>by omega⟩
  ·rename_i h
   rcases BL n v r with ⟨h1,h2,h3⟩|⟨j,c',h1,h2,h3,h4⟩
   ·refine .inl ⟨h1,by rw [h2];rfl,fun p hp=>?_⟩
    rcases List.mem_cons.1 hp with rfl|hp
    ·exact h
    ·exact h3 p hp
   ·refine .inr ⟨j+1,c',h1,h2,by rw [h3];rfl,fun i p hi hp=>?_⟩;cases i with
    |zero=>simp at hp;rw [←hp];exact h
    |succ i=>exact h4 i p (by omega) (by simpa using hp)
def agJ (k:IntKind) (a b:Int):Int:=k.wrap (a.tdiv b)
def pP (k:IntKind) (a b:Int):Int:=k.wrap (a*2 ^ (min b.toNat k.bits))
def eX (k:IntKind) (a b:Int):Int:=a.fdiv (2 ^ (min b.toNat k.bits))
def ss (k:IntKind) (a b:Int):Int:=k.wrap (eH k.bits a &&& eH k.bits b).toNat
def vd (k:IntKind) (a b:Int):Int:=k.wrap (eH k.bits a ||| eH k.bits b).toNat
def qC (k:IntKind) (a b:Int):Int:=k.wrap (eH k.bits a ^^^ eH k.bits b).toNat
def ala (k:IntKind) (a b:Int):Int:=k.wrap (eH k.bits a &&& ~~~eH k.bits b).toNat
def lx (n:Int):UInt8:=UInt8.ofNat (n % 256).toNat
def YC (n:Int):((lx n).toNat:Int)=n % 256:=by
 unfold lx;rw [UInt8.toNat_ofNat'];have:=Int.emod_nonneg n (by decide:(256:Int)≠0);have:=Int.emod_lt_of_pos n (by decide:(0:Int)<256);omega
def sub {α:Type} (l:List α) (a b:Int):List α:=(l.take b.toNat).drop a.toNat
abbrev pc (l:List UInt8) (i:Nat):Nat×Nat:=Utf8.decode ⟨l.toArray⟩ i
def bO {α ρ:Type} (x:Int⊕α) (p:Int→Option ρ) (k:α→Option ρ):Option ρ :=
 match x with
 |.inl e=>p e
 |.inr y=>k y
def cu {α ρ:Type} {x:Int⊕α} {p:Int→Option ρ} {k:α→Option ρ} {r:ρ} {e:Int} (h:bO x p k=some r) (he:x=.inl e):p e=some r:=by subst he;exact h
def cw {α ρ:Type} {x:Int⊕α} {p:Int→Option ρ} {k:α→Option ρ} {r:ρ} {y:α} (h:bO x p k=some r) (he:x=.inr y):k y=some r:=by subst he;exact h
def bZ.bO {α ρ:Type} {x:Int⊕α} {p p':Int→Option ρ} {k k':α→Option ρ} (hp:∀e,bZ (p e) (p' e)) (hk:∀y,bZ (k y) (k' y)):bZ (Cat.bO x p k) (Cat.bO x p' k'):=by
 cases x with
 |inl e=>exact hp e
 |inr y=>exact hk y
def mP:List UInt8→List UInt8→Int
 |[],[]=>0
 |[],_::_=>-1
 |_::_,[]=>1
 |a::as,b::bs=>if a<b then -1 else if b<a then 1 else mP as bs
def mY:List UInt8→UInt8→Int
 |[],_=>-1
 |b::l,c=>if b==c then 0 else if mY l c == -1 then -1 else mY l c+1
def lh (l:List (List UInt8)) (sep:List UInt8):List UInt8:=sep.intercalate l
def dM {α:Type} (l:List α) (i:Int) (x:List α):List α:=l.take i.toNat++x++l.drop i.toNat
def fY {α:Type} (l:List α) (i j:Int):List α:=l.take i.toNat++l.drop j.toNat
def HM {α:Type} (l:List α) (d:Nat) (x:List α):List α:=l.take d++x.take (l.length-d)++l.drop (d+x.length)
def Ja {α β:Type} (f:α→β) (l:List α) (i:Int) (x:List α):dM (l.map f) i (x.map f)=(dM l i x).map f:=by simp [dM,List.map_take,List.map_drop]
def HO {α β:Type} (f:α→β) (l:List α) (i j:Int):fY (l.map f) i j=(fY l i j).map f:=by simp [fY,List.map_take,List.map_drop]
end
section
def ε {α:Type} (x:Option α) (Q:α→Prop):Prop:=∃r,x=some r∧Q r
def ε.ret {α:Type} {a:α} {Q:α→Prop} (h:Q a):ε (some a) Q:=⟨a,rfl,h⟩
def ε.mono {α:Type} {x:Option α} {Q R:α→Prop} (h:ε x Q) (hm:∀a,Q a→R a):ε x R:=let ⟨r,e,q⟩:=h;⟨r,e,hm r q⟩
def ε.bind {α β:Type} {x:Option α} {f:α→Option β} {R:α→Prop} {Q:β→Prop} (h:ε x R) (hf:∀a,R a→ε (f a) Q):ε (x.bind f) Q:=by
 obtain ⟨a,rfl,ha⟩:=h;exact hf a ha
def ε.af {α β:Type} {x:Option α} {f:α→Option β} {a:α} {Q:β→Prop} (h:x=some a) (hf:ε (f a) Q):ε (x.bind f) Q:=by
 subst h;exact hf
def ε.Ψ {α:Type} {p:Prop} [Decidable p] {x:Option α} {Q:α→Prop} (hp:p) (h:ε x Q):ε (Cat.Ψ p x) Q:=by rw [gq hp];exact h
def ε.ite {α:Type} {p:Prop} [Decidable p] {x y:Option α} {Q:α→Prop} (h:p→ε x Q) (h':¬p→ε y Q):ε (if p then x else y) Q:=by
 split
 ·exact h ‹_›
 ·exact h' ‹_›
def uu {σ ρ:Type} (P:σ→Prop) (Q:ρ→Prop):σ⊕ρ→Prop
 |.inl s=>P s
 |.inr r=>Q r
def ε.out {σ ρ:Type} {x:Option ρ} {P:σ→Prop} {Q:ρ→Prop} (h:ε x Q):ε (Cat.out x) (uu P Q):=by
 obtain ⟨a,rfl,ha⟩:=h;exact ⟨.inr a,rfl,ha⟩
def ε.inl {σ ρ:Type} {s:σ} {P:σ→Prop} {Q:ρ→Prop} (h:P s):ε (some (.inl s)) (uu P Q):=⟨_,rfl,h⟩
def ε.loop {σ ρ:Type} {B:σ→Option (σ⊕ρ)} {Q:ρ→Prop} (P:σ→Prop) (m:σ→Nat)
  (hB:∀s,P s→ε (B s) (uu (fun s'=>P s'∧m s'<m s) Q)):∀s,P s→ε (Cat.loop B s) Q:=by
 have:∀n s,m s<n→P s→ε (Cat.loop B s) Q:=by
  intro n;induction n with
  |zero=>intro s h;omega
  |succ n ih =>
   intro s hn hs;obtain ⟨y,hy,hq⟩:=hB s hs;cases y with
   |inl s'=>rw [tj hy];exact ih s' (by have:=hq.2;omega) hq.1
   |inr r=>rw [nT hy];exact ⟨r,rfl,hq⟩
 exact fun s hs=>this _ s (Nat.lt_succ_self _) hs
def ε.idx {α:Type} {l:List α} {i:Int} {Q:α→Prop} (h0:0≤i) (h1:i<l.length) (h:∀x,l[i.toNat]?=some x→Q x):ε (Cat.idx l i) Q:=by
 have hl:i.toNat<l.length:=by omega
 refine ⟨l[i.toNat],?_,h _ (bF hl)⟩;unfold Cat.idx;rw [if_pos h0,bF hl]
def ε.eq {α:Type} {x:Option α} {a:α} (h:ε x (·=a)):x=some a:=by
 obtain ⟨r,e,q⟩:=h;rw [e,q]
def ε.of {α:Type} {x:Option α} {a:α} (h:x=some a):ε x (·=a):=⟨a,h,rfl⟩
def cR (P:Prop) (b:Bool):Prop:=b=true↔P
def ε.Hr {a:Bool} {P Q:Prop} {y:Option Bool} (h:a=true↔P) (hy:P→ε y (cR Q)):ε (if a=true then y else some false) (cR (P∧Q)) :=
 ε.ite (fun ha=>(hy (h.1 ha)).mono fun _ hb=>⟨fun e=>⟨h.1 ha,hb.1 e⟩,fun e=>hb.2 e.2⟩) (fun ha=>ε.ret ⟨fun e=>(by cases e),fun e=>(ha (h.2 e.1)).elim⟩)
def ε.dec {p:Prop} [Decidable p] {P:Prop} (h:p↔P):ε (some (decide p)) (cR P):=ε.ret (decide_eq_true_iff.trans h)
def ε.is {b:Bool} {P:Prop} (h:b=true↔P):ε (some b) (cR P):=ε.ret h
def OU {β ρ:Type} {b:List β} {B:Int→Option (Int⊕ρ)} (p:β→Bool) (yes:Nat→β→ρ) (no:ρ)
  (h1:∀(n:Nat) (x:β),b[n]?=some x→n<b.length→B (n:Int)=if p x then some (.inr (yes n x)) else some (.inl ((n:Int)+1)))
  (h2:B (b.length:Int)=some (.inr no)) :
  loop B 0=some (match b.findIdx? p with|some n=>(match b[n]? with|some x=>yes n x|none=>no)|none=>no):=by
 have key:∀(l:List β) (n:Nat),b.drop n=l→n≤b.length→loop B (n:Int)=some (match l.findIdx? p with|some k=>(match b[n+k]? with|some x=>yes (n+k) x|none=>no)|none=>no):=by
  intro l;induction l with
  |nil =>
   intro n hd hn
   have:n=b.length:=by have:=congrArg List.length hd;simp at this;omega
   subst this;exact nT h2
  |cons x l ih =>
   intro n hd hn
   have Φ:n<b.length:=by
    rcases gP n b.length with h|h
    ·exact h
    ·rw [List.drop_eq_nil_of_le h] at hd;cases hd
   rw [List.drop_eq_getElem_cons Φ] at hd;injection hd with hx hl
   have hg:b[n]?=some x:=by rw [bF Φ,hx]
   have h:=h1 n x hg Φ;rw [List.findIdx?_cons];cases hp:p x with
   |true =>
    rw [hp] at h;rw [nT h];simp [hg]
   |false =>
    rw [hp] at h;rw [tj h,show ((n:Int)+1)=((n+1:Nat):Int) from rfl,ih (n+1) hl Φ];cases hf:l.findIdx? p with
    |none=>simp
    |some k=>simp [Nat.add_comm,Nat.add_left_comm]
 have:=key b 0 rfl (lX _);simpa using this
def cq {β:Type} {b:List β} {n:Nat} {x:β} (h:b[n]?=some x):idx b (n:Int)=some x:=by rw [adY,h]
def akS {k:IntKind} (hk:k.signed=false) (n:Int):k.wrap n=n % 2 ^ k.bits:=by simp [IntKind.wrap,hk]
def GR {k:IntKind} (hk:k.signed=false) {n:Nat} (h:n<2 ^ k.bits):k.wrap (n:Int)=n:=by
 rw [akS hk]
 have:((n:Int) % ((2 ^ k.bits:Nat):Int))=((n % 2 ^ k.bits:Nat):Int):=by simp
 rw [Dc h] at this;simpa using this
def xa {w n:Nat} (h:n<2 ^ w):(eH w (n:Int)).toNat=n:=by
 rw [BitVec.ofInt_natCast,BitVec.toNat_ofNat,Dc h]
def aaB {k:IntKind} (hk:k.signed=false) {a b:Nat} (ha:a<2 ^ k.bits) (hb:b<2 ^ k.bits):ss k (a:Int) (b:Int)=((a &&& b:Nat):Int):=by
 unfold ss;rw [BitVec.toNat_and,xa ha,xa hb];exact GR hk (Nat.and_lt_two_pow _ hb)
def afa {k:IntKind} (hk:k.signed=false) {a b:Nat} (ha:a<2 ^ k.bits) (hb:b<2 ^ k.bits):vd k (a:Int) (b:Int)=((a ||| b:Nat):Int):=by
 unfold vd;rw [BitVec.toNat_or,xa ha,xa hb];exact GR hk (Nat.or_lt_two_pow ha hb)
def akT {k:IntKind} (hk:k.signed=false) {a b:Nat} (ha:a<2 ^ k.bits) (hb:b<2 ^ k.bits):qC k (a:Int) (b:Int)=((a ^^^ b:Nat):Int):=by
 unfold qC;rw [BitVec.toNat_xor,xa ha,xa hb];exact GR hk (Nat.xor_lt_two_pow ha hb)
def ahG {k:IntKind} {a b:Nat} (hb:b≤k.bits):eX k (a:Int) (b:Int)=((a>>>b:Nat):Int):=by
 unfold eX;rw [gU,xI hb,Nat.shiftRight_eq_div_pow]
 have:(2 ^ b:Int)=((2 ^ b:Nat):Int):=by simp
 rw [this,Int.fdiv_eq_ediv_of_nonneg _ (Int.natCast_nonneg _)];rfl
def ahE {k:IntKind} (hk:k.signed=false) {a b:Nat} (hb:b≤k.bits) (h:a*2 ^ b<2 ^ k.bits):pP k (a:Int) (b:Int)=((a*2 ^ b:Nat):Int):=by
 unfold pP;rw [gU,xI hb]
 have:(2 ^ b:Int)=((2 ^ b:Nat):Int):=by simp
 rw [this];exact GR hk h
def vU:IntKind.u64.bits=64:=rfl
def aaA {a b:Nat} (ha:a<18446744073709551616) (hb:b<18446744073709551616):ss .u64 (a:Int) (b:Int)=((a &&& b:Nat):Int):=aaB rfl (by rw [vU];simpa using ha) (by rw [vU];simpa using hb)
def ae' {a b:Nat} (ha:a<18446744073709551616) (hb:b<18446744073709551616):vd .u64 (a:Int) (b:Int)=((a ||| b:Nat):Int):=afa rfl (by rw [vU];simpa using ha) (by rw [vU];simpa using hb)
def Zz {a b:Nat} (ha:a<18446744073709551616) (hb:b<18446744073709551616):qC .u64 (a:Int) (b:Int)=((a ^^^ b:Nat):Int):=akT rfl (by rw [vU];simpa using ha) (by rw [vU];simpa using hb)
def PY {a b:Nat} (hb:b≤64):eX .u64 (a:Int) (b:Int)=((a>>>b:Nat):Int):=ahG hb
end
section
def alv {α:Type} (l:List (Int×α)):List Int:=(l.map (·.1)).mergeSort fun x y=>decide (x≤y)
def alL (l:List Int):List Int:=l.mergeSort fun x y=>decide (x≤y)
def pN {α β:Type} (f:α→β) {n:Int} {l:List (Int×α)} {z x:α} (h:some ((bt n l).getD z)=some x):(bt n (l.map fun p=>(p.1,f p.2))).getD (f z)=f x:=by
 rw [OX,←nu h];cases bt n l<;>rfl
def tg {α β:Type} (f:α→β) (n:Int) (l:List (Int×α)):(bt n (l.map fun p=>(p.1,f p.2))).isSome=(bt n l).isSome:=by
 rw [OX];cases bt n l<;>rfl
end
section
open Go.Sort
def oZ {α:Type} (c:α→α→Option Int) (cf:α→α→Int):Prop:=(∀x y,c x y=some (cf x y))∧SWO (fun x y=>decide (cf x y<0))
def oZ.uniq {α:Type} {c:α→α→Option Int} {cf uw:α→α→Int} (h:oZ c cf) (h':oZ c uw):cf=uw :=
 funext fun x=>funext fun y=>nu ((h.1 x y).symm.trans (h'.1 x y))
def xm {α:Type} [Inhabited α] (cf:α→α→Int) (l:List α):List α:=(pdq (fun x y=>decide (cf x y<0)) l.toArray 0 l.length (RJ l.length) true true).toList
open Classical in
noncomputable def alK {α:Type} [Inhabited α] (c:α→α→Option Int) (l:List α):Option (List α):=Ψ (l.length≤140737488355328) (if h:∃cf,oZ c cf then some (xm h.choose l) else none)
def aie {α:Type} [Inhabited α] {cf:α→α→Int} (h:SWO (fun x y=>decide (cf x y<0))) (l:List α):(xm cf l).Perm l∧(xm cf l).Pairwise (fun x y=>¬cf y x<0):=by
 have hs:=pdq_sorts (fun x y=>decide (cf x y<0)) h l.toArray 0 l.length (RJ l.length) true true (lX _) (by simp) (Or.inl rfl);obtain ⟨⟨aX,_,hp⟩,ho⟩:=hs;unfold xm;generalize pdq (fun x y=>decide (cf x y<0)) l.toArray 0 l.length (RJ l.length) true true=d at *
 have hd:d.size=l.length:=by simpa using aX
 refine ⟨?_,?_⟩
 ·have e1:d.extract 0 l.length=d:=by rw [←hd];simp
  have e2:l.toArray.extract 0 l.length=l.toArray:=by simp
  rw [e1,e2] at hp;simpa using hp
 ·rw [List.pairwise_iff_getElem];intro i j hi hj eT
  have dz:j<l.length:=by simpa [hd] using hj
  have:=ho i j (lX _) eT dz
  have gi:d[i]! = d.toList[i]:=by rw [getElem!_pos d i (by omega)];simp
  have gj:d[j]! = d.toList[j]:=by rw [getElem!_pos d j (by omega)];simp
  rw [gi,gj] at this;simpa using this
end
section
def ε.each {β σ ρ:Type} {l:List β} {B:Int×σ→Option ((Int×σ)⊕ρ)} (I:Nat→σ→Prop) {Q:ρ→Prop}
  (h1:∀(n:Nat) (x:β) (a:σ),n<l.length→l[n]?=some x→I n a→ε (B ((n:Int),a)) (uu (fun s=>s.1=(n:Int)+1∧I (n+1) s.2) Q))
  (h2:∀a,I l.length a→ε (B ((l.length:Int),a)) (uu (fun _=>False) Q)) (a:σ) (h0:I 0 a):ε (Cat.loop B (0,a)) Q:=by
 refine ε.loop (fun s:Int×σ=>∃n:Nat,s.1=n∧n≤l.length∧I n s.2) (fun s=>l.length+1-s.1.toNat) ?_ (0,a) ⟨0,rfl,lX _,h0⟩;rintro ⟨i,a⟩ ⟨n,rfl,hn,hi⟩
 rcases gP n l.length with Φ|gI
 ·refine (h1 n _ a Φ (bF Φ) hi).mono fun y hy=>?_;cases y with
  |inl s=>exact ⟨⟨n+1,hy.1,Φ,hy.2⟩,by show l.length+1-s.1.toNat<_;rw [hy.1];simp only;omega⟩
  |inr r=>exact hy
 ·obtain rfl:n=l.length:=by omega
  refine (h2 a hi).mono fun y hy=>?_;cases y with
  |inl s=>exact hy.elim
  |inr r=>exact hy
def ε.abF {β ρ:Type} {l:List β} {B:Int→Option (Int⊕ρ)} (I:Nat→Prop) {Q:ρ→Prop}
  (h1:∀(n:Nat) (x:β),n<l.length→l[n]?=some x→I n→ε (B (n:Int)) (uu (fun s=>s=(n:Int)+1∧I (n+1)) Q))
  (h2:I l.length→ε (B (l.length:Int)) (uu (fun _=>False) Q)) (h0:I 0):ε (Cat.loop B 0) Q:=by
 refine ε.loop (fun s:Int=>∃n:Nat,s=n∧n≤l.length∧I n) (fun s=>l.length+1-s.toNat) ?_ 0 ⟨0,rfl,lX _,h0⟩;rintro i ⟨n,rfl,hn,hi⟩
 rcases gP n l.length with Φ|gI
 ·refine (h1 n _ Φ (bF Φ) hi).mono fun y hy=>?_;cases y with
  |inl s=>exact ⟨⟨n+1,hy.1,Φ,hy.2⟩,by obtain ⟨rfl,_⟩:=hy;omega⟩
  |inr r=>exact hy
 ·obtain rfl:n=l.length:=by omega
  refine (h2 hi).mono fun y hy=>?_;cases y with
  |inl s=>exact hy.elim
  |inr r=>exact hy
def rQ {α:Type} {l:List α} {n:Nat} {x:α} (h:l[n]?=some x):l.take (n+1)=l.take n++[x]:=by
 rw [List.take_add_one,h];rfl
end
section
def qx {α β:Type} (F:(α→Option β)→α→Option β):Nat→α→Option β
 |0,_=>none
 |n+1,a=>F (qx F n) a
def Hj {α β:Type} (F:(α→Option β)→α→Option β):Prop:=∀f g:α→Option β,(∀a r,f a=some r→g a=some r)→∀a r,F f a=some r→F g a=some r
def Pq {α β:Type} {F:(α→Option β)→α→Option β} (hF:Hj F):∀{n m:Nat},n≤m→∀a r,qx F n a=some r→qx F m a=some r
 |0,_,_,_,_,h=>by cases h
 |n+1,0,hm,_,_,_=>by omega
 |n+1,m+1,hm,a,r,h=>hF _ _ (Pq hF (Nat.le_of_succ_le_succ hm)) a r h
open Classical in
noncomputable def yt {α β:Type} (F:(α→Option β)→α→Option β) (a:α):Option β:=if h:∃r n,qx F n a=some r then some h.choose else none
def abY {α β:Type} {F:(α→Option β)→α→Option β} {a:α} {r:β} (h:yt F a=some r):∃n,qx F n a=some r:=by
 unfold yt at h;split at h
 ·next hex=>cases h;exact hex.choose_spec
 ·cases h
def Tu {α β:Type} {F:(α→Option β)→α→Option β} (hF:Hj F) {a:α} {r:β} {n:Nat} (h:qx F n a=some r):yt F a=some r:=by
 have hex:∃r n,qx F n a=some r:=⟨r,n,h⟩;unfold yt;rw [dif_pos hex];obtain ⟨m,hm⟩:=hex.choose_spec;have h1:=Pq hF (alR n m) a _ h;have h2:=Pq hF (alQ n m) a _ hm;rw [h1] at h2;exact h2.symm
def Tt {α β:Type} {F:(α→Option β)→α→Option β} {p:α→β→Prop} (step:∀f:α→Option β,(∀a r,f a=some r→p a r)→∀a r,F f a=some r→p a r) {a:α} {r:β} (h:yt F a=some r):p a r:=by
 obtain ⟨n,h⟩:=abY h
 have:∀n a r,qx F n a=some r→p a r:=by
  intro n;induction n with
  |zero=>intro a r h;cases h
  |succ n ih=>intro a r h;exact step _ ih a r h
 exact this n a r h
def bZ.V6 {σ ρ:Type} {B B':σ→Option (σ⊕ρ)} (h:∀s,bZ (B s) (B' s)) (s:σ):bZ (Cat.loop B s) (Cat.loop B' s):=fun r hr=>by
 obtain ⟨n,hn⟩:=Jm hr;exact bZ.loop h n s r hn
end
end Go.Cat
