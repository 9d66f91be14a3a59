/- The logic that the walks are in, piece P1. No condition. -/
import GoSem.Core.View
import GoSem.Core.Utf8
import Derived.Sort.AssemblyPlain
import Derived.Lib.BitFns
open BitVec renaming ofInt → eH
open Go.Lib renaming bitLen → Ri
open Int renaming toNat_natCast → gP
open List renaming getElem?_eq_getElem → bU
open Nat renaming lt_or_ge → gI, zero_le → lP, mod_eq_of_lt → Dh, min_eq_left → xw, le_max_right → alm, le_max_left → aln
open Option.some renaming inj → nn
namespace Go.Cat
set_option linter.all false
section
inductive LS where
 |iI|LX|ret|ex (i:Nat)
deriving DecidableEq
def LS.wP:LS→Bool
 |.iI=>true
 |_=>false
def Θ (n:Int):Prop:=-9223372036854775808≤n∧n≤9223372036854775807
instance (n:Int):Decidable (Θ n):=inferInstanceAs (Decidable (_∧_))
def Ω (p:Prop) [Decidable p] {ρ:Type} (x:Option ρ):Option ρ:=if p then x else none
def aG {p:Prop} [Decidable p] {ρ:Type} {x:Option ρ} {r:ρ} (h:Ω p x=some r):p∧x=some r:=by
 unfold Ω at h;split at h
 ·exact ⟨‹_›,h⟩
 ·cases h
def im {p:Prop} [Decidable p] {ρ:Type} {x:Option ρ} (h:p):Ω p x=x:=if_pos h
def idx {α:Type} (l:List α) (i:Int):Option α:=if 0≤i then l[i.toNat]? else none
def bK {α:Type} {l:List α} {i:Int} {x:α} (h:idx l i=some x):i=(i.toNat:Int):=by
 unfold idx at h;split at h
 ·omega
 ·cases h
def Ve {α:Type} {l:List α} {i:Int} {x:α} (h:idx l i=some x):l[i.toNat]?=some x:=by
 unfold idx at h;split at h
 ·exact h
 ·cases h
def adr {α:Type} {l:List α} {i:Int} {x:α} (h:idx l i=some x):i.toNat<l.length:=(List.getElem?_eq_some_iff.1 (Ve h)).1
def ads {α:Type} {l:List α} {n:Nat}:idx l (n:Int)=l[n]?:=by simp [idx]
def κ {α β:Type} {o:Option α} {f:α→Option β} {r:β} (h:o.bind f=some r):∃x,o=some x∧f x=some r:=Option.bind_eq_some_iff.1 h
def gO {σ ρ:Type} (B:σ→Option (σ⊕ρ)):Nat→σ→Option ρ
 |0,_=>none
 |n+1,s=>match B s with
  |none=>none
  |some (.inl s')=>gO B n s'
  |some (.inr r)=>some r
def OD {σ ρ:Type} {B:σ→Option (σ⊕ρ)} {r:ρ}:∀{n m:Nat} {s:σ},gO B n s=some r→n≤m→gO B m s=some r
 |0,_,_,h,_=>by cases h
 |n+1,0,_,_,hm=>by omega
 |n+1,m+1,s,h,hm=>by
  simp only [gO] at h ⊢;cases hB:B s with
  |none=>rw [hB] at h;cases h
  |some x =>
   rw [hB] at h;cases x with
   |inl s'=>exact OD h (by omega)
   |inr r'=>exact h
open Classical in
noncomputable def loop {σ ρ:Type} (B:σ→Option (σ⊕ρ)) (s:σ):Option ρ:=if h:∃r n,gO B n s=some r then some h.choose else none
def OF {σ ρ:Type} {B:σ→Option (σ⊕ρ)} {s:σ} {r:ρ} {n:Nat} (h:gO B n s=some r):loop B s=some r:=by
 have hex:∃r n,gO B n s=some r:=⟨r,n,h⟩;unfold loop;rw [dif_pos hex];obtain ⟨m,hm⟩:=hex.choose_spec;have h1:=OD h (aln n m);have h2:=OD hm (alm n m);rw [h1] at h2;exact h2.symm
def Jk {σ ρ:Type} {B:σ→Option (σ⊕ρ)} {s:σ} {r:ρ} (h:loop B s=some r):∃n,gO B n s=some r:=by
 unfold loop at h;split at h
 ·rename_i hex;cases h;exact hex.choose_spec
 ·cases h
def VI {σ ρ:Type} {B:σ→Option (σ⊕ρ)} {s:σ} (h:∀n r,gO B n s≠some r):loop B s=none:=by
 cases hl:loop B s with
 |none=>rfl
 |some r=>obtain ⟨n,hn⟩:=Jk hl;exact (h n r hn).elim
def Jj {σ ρ:Type} (B:σ→Option (σ⊕ρ)) (s:σ):loop B s=(B s).bind fun x=>match x with|.inl s'=>loop B s'|.inr r=>some r:=by
 cases hB:B s with
 |none =>
  refine VI fun n r h=>?_;cases n with
  |zero=>cases h
  |succ n=>simp [gO,hB] at h
 |some x =>
  cases x with
  |inr r=>exact OF (n:=1) (by simp [gO,hB])
  |inl s' =>
   simp only [Option.bind_some];cases hl:loop B s' with
   |some r =>
    obtain ⟨n,hn⟩:=Jk hl;exact OF (n:=n+1) (by simp [gO,hB,hn])
   |none =>
    refine VI fun n r h=>?_;cases n with
    |zero=>cases h
    |succ n =>
     simp only [gO,hB] at h;rw [OF h] at hl;cases hl
def tu {σ ρ:Type} {B:σ→Option (σ⊕ρ)} {s s':σ} (h:B s=some (.inl s')):loop B s=loop B s':=by rw [Jj,h];rfl
def nS {σ ρ:Type} {B:σ→Option (σ⊕ρ)} {s:σ} {r:ρ} (h:B s=some (.inr r)):loop B s=some r:=by rw [Jj,h];rfl
def out {σ ρ:Type} (x:Option ρ):Option (σ⊕ρ):=x.map .inr
def V4 {σ ρ:Type} {x:Option ρ} {y:σ⊕ρ} (h:out x=some y):∃r,x=some r∧y=.inr r:=by
 unfold out at h;cases x with
 |none=>cases h
 |some r=>cases h;exact ⟨r,rfl,rfl⟩
noncomputable def o8 {α ρ:Type} (S:α→Prop) (f:α→Option ρ):Option ρ:=by
 classical exact if h:∃r,∀x,S x→f x=some r then some h.choose else none
def xS {α ρ:Type} {S:α→Prop} {f:α→Option ρ} {r:ρ} (h:o8 S f=some r):∀x,S x→f x=some r:=by
 unfold o8 at h;split at h
 ·rename_i hex;cases h;exact hex.choose_spec
 ·cases h
def RQ {α ρ:Type} {S:α→Prop} {f:α→Option ρ} {r:ρ} (aP:∃x,S x) (h:∀x,S x→f x=some r):o8 S f=some r:=by
 unfold o8;have hex:∃r,∀x,S x→f x=some r:=⟨r,h⟩;rw [dif_pos hex];obtain ⟨x,hx⟩:=aP;rw [←hex.choose_spec x hx,h x hx]
def cq {α:Type} (x y:Option α):Prop:=∀r,x=some r→y=some r
def cq.refl {α:Type} (x:Option α):cq x x:=fun _ h=>h
def cq.bind {α β:Type} {x y:Option α} {f g:α→Option β} (h:cq x y) (hf:∀a,cq (f a) (g a)):cq (x.bind f) (y.bind g):=fun r hr=>by
 obtain ⟨a,ha,hb⟩:=κ hr;rw [h a ha];exact hf a r hb
def cq.Ω {α:Type} {p:Prop} [Decidable p] {x y:Option α} (h:cq x y):cq (Cat.Ω p x) (Cat.Ω p y):=fun r hr=>by
 obtain ⟨hp,hx⟩:=aG hr;rw [im hp];exact h r hx
def cq.ite {α:Type} {p:Prop} [Decidable p] {x y x' y':Option α} (h:cq x y) (h':cq x' y'):cq (if p then x else x') (if p then y else y'):=by
 split
 ·exact h
 ·exact h'
def cq.out {σ ρ:Type} {x y:Option ρ} (h:cq x y):cq (Cat.out (σ:=σ) x) (Cat.out y):=fun r hr=>by
 obtain ⟨a,ha,rfl⟩:=V4 hr;rw [h a ha];rfl
def cq.loop {σ ρ:Type} {B B':σ→Option (σ⊕ρ)} (h:∀s,cq (B s) (B' s)):∀(n:Nat) (s:σ),cq (gO B n s) (Cat.loop B' s)
 |0,_=>fun _ hr=>by cases hr
 |n+1,s=>fun r hr=>by
  simp only [gO] at hr;rw [Jj];cases hB:B s with
  |none=>rw [hB] at hr;cases hr
  |some x =>
   rw [hB] at hr;rw [h s x hB];cases x with
   |inl s'=>exact cq.loop h n s' r hr
   |inr r'=>exact hr
def cq.clone {α:Type} {l:List α} {f:Bool→Option (List α)} (h:∀b,(b=true→l=[])→f b=some l):o8 (fun b=>b=true→l=[]) f=some l :=
 RQ ⟨false,fun h=>by cases h⟩ h
def bn {α:Type} (n:Int):List (Int×α)→Option α
 |[]=>none
 |(k,c)::r=>if k=n then some c else bn n r
def ak {α:Type} (n:Int) (v:α):List (Int×α)→List (Int×α)
 |[]=>[(n,v)]
 |(k,c)::r=>if k=n then (k,v)::r else (k,c)::ak n v r
def OH {α β:Type} (f:α→β) (n:Int):∀l:List (Int×α),bn n (l.map fun p=>(p.1,f p.2))=(bn n l).map f
 |[]=>rfl
 |(k,c)::r=>by
  simp only [List.map_cons,bn];split
  ·rfl
  ·exact OH f n r
def iH {α β:Type} (f:α→β) (n:Int) (v:α):∀l:List (Int×α),ak n (f v) (l.map fun p=>(p.1,f p.2))=(ak n v l).map fun p=>(p.1,f p.2)
 |[]=>rfl
 |(k,c)::r=>by
  simp only [List.map_cons,ak];split
  ·rfl
  ·rw [iH f n v r];rfl
def BR {α:Type} (n:Int) (v:α):∀l:List (Int×α),(bn n l=none∧ak n v l=l++[(n,v)]∧∀p,p∈l→p.1≠n) ∨
  ∃(j:Nat) (c:α),l[j]?=some (n,c)∧bn n l=some c∧ak n v l=l.set j (n,v)∧∀(i:Nat) p,i<j→l[i]?=some p→p.1≠n
 |[]=>.inl ⟨rfl,rfl,fun _ h=>by cases h⟩
 |(k,c)::r=>by
  simp only [bn,ak];split
  ·rename_i h;subst h;exact .inr ⟨0,c,rfl,rfl,rfl,fun i p hi=>by omega⟩
  ·rename_i h
   rcases BR n v r with ⟨h1,h2,h3⟩|⟨j,c',h1,h2,h3,h4⟩
   ·refine .inl ⟨h1,by rw [h2];rfl,fun p hp=>?_⟩
    rcases List.mem_cons.1 hp with rfl|hp
    ·exact h
    ·exact h3 p hp
   ·refine .inr ⟨j+1,c',h1,h2,by rw [h3];rfl,fun i p hi hp=>?_⟩;cases i with
    |zero=>simp at hp;rw [←hp];exact h
    |succ i=>exact h4 i p (by omega) (by simpa using hp)
def agi (k:IntKind) (a b:Int):Int:=k.wrap (a.tdiv b)
def pL (k:IntKind) (a b:Int):Int:=k.wrap (a*2 ^ (min b.toNat k.bits))
def eV (k:IntKind) (a b:Int):Int:=a.fdiv (2 ^ (min b.toNat k.bits))
def sB (k:IntKind) (a b:Int):Int:=k.wrap (eH k.bits a &&& eH k.bits b).toNat
def ve (k:IntKind) (a b:Int):Int:=k.wrap (eH k.bits a ||| eH k.bits b).toNat
def qH (k:IntKind) (a b:Int):Int:=k.wrap (eH k.bits a ^^^ eH k.bits b).toNat
def akI (k:IntKind) (a b:Int):Int:=k.wrap (eH k.bits a &&& ~~~eH k.bits b).toNat
def lg (n:Int):UInt8:=UInt8.ofNat (n % 256).toNat
def X0 (n:Int):((lg n).toNat:Int)=n % 256:=by
 unfold lg;rw [UInt8.toNat_ofNat'];have:=Int.emod_nonneg n (by decide:(256:Int)≠0);have:=Int.emod_lt_of_pos n (by decide:(0:Int)<256);omega
def sub {α:Type} (l:List α) (a b:Int):List α:=(l.take b.toNat).drop a.toNat
abbrev o_ (l:List UInt8) (i:Nat):Nat×Nat:=Utf8.decode ⟨l.toArray⟩ i
def bQ {α ρ:Type} (x:Int⊕α) (p:Int→Option ρ) (k:α→Option ρ):Option ρ :=
 match x with
 |.inl e=>p e
 |.inr y=>k y
def cw {α ρ:Type} {x:Int⊕α} {p:Int→Option ρ} {k:α→Option ρ} {r:ρ} {e:Int} (h:bQ x p k=some r) (he:x=.inl e):p e=some r:=by subst he;exact h
def cy {α ρ:Type} {x:Int⊕α} {p:Int→Option ρ} {k:α→Option ρ} {r:ρ} {y:α} (h:bQ x p k=some r) (he:x=.inr y):k y=some r:=by subst he;exact h
def cq.bQ {α ρ:Type} {x:Int⊕α} {p p':Int→Option ρ} {k k':α→Option ρ} (hp:∀e,cq (p e) (p' e)) (hk:∀y,cq (k y) (k' y)):cq (Cat.bQ x p k) (Cat.bQ x p' k'):=by
 cases x with
 |inl e=>exact hp e
 |inr y=>exact hk y
def mM:List UInt8→List UInt8→Int
 |[],[]=>0
 |[],_::_=>-1
 |_::_,[]=>1
 |a::as,b::bs=>if a<b then -1 else if b<a then 1 else mM as bs
def mT:List UInt8→UInt8→Int
 |[],_=>-1
 |b::l,c=>if b==c then 0 else if mT l c == -1 then -1 else mT l c+1
def kX (l:List (List UInt8)) (sep:List UInt8):List UInt8:=sep.intercalate l
def dy {α:Type} (l:List α) (i:Int) (x:List α):List α:=l.take i.toNat++x++l.drop i.toNat
def fY {α:Type} (l:List α) (i j:Int):List α:=l.take i.toNat++l.drop j.toNat
def HJ {α:Type} (l:List α) (d:Nat) (x:List α):List α:=l.take d++x.take (l.length-d)++l.drop (d+x.length)
def Ja {α β:Type} (f:α→β) (l:List α) (i:Int) (x:List α):dy (l.map f) i (x.map f)=(dy l i x).map f:=by simp [dy,List.map_take,List.map_drop]
def HK {α β:Type} (f:α→β) (l:List α) (i j:Int):fY (l.map f) i j=(fY l i j).map f:=by simp [fY,List.map_take,List.map_drop]
end
section
def ε {α:Type} (x:Option α) (Q:α→Prop):Prop:=∃r,x=some r∧Q r
def ε.ret {α:Type} {a:α} {Q:α→Prop} (h:Q a):ε (some a) Q:=⟨a,rfl,h⟩
def ε.mono {α:Type} {x:Option α} {Q R:α→Prop} (h:ε x Q) (hm:∀a,Q a→R a):ε x R:=let ⟨r,e,q⟩:=h;⟨r,e,hm r q⟩
def ε.bind {α β:Type} {x:Option α} {f:α→Option β} {R:α→Prop} {Q:β→Prop} (h:ε x R) (hf:∀a,R a→ε (f a) Q):ε (x.bind f) Q:=by
 obtain ⟨a,rfl,ha⟩:=h;exact hf a ha
def ε.ai {α β:Type} {x:Option α} {f:α→Option β} {a:α} {Q:β→Prop} (h:x=some a) (hf:ε (f a) Q):ε (x.bind f) Q:=by
 subst h;exact hf
def ε.Ω {α:Type} {p:Prop} [Decidable p] {x:Option α} {Q:α→Prop} (hp:p) (h:ε x Q):ε (Cat.Ω p x) Q:=by rw [im hp];exact h
def ε.ite {α:Type} {p:Prop} [Decidable p] {x y:Option α} {Q:α→Prop} (h:p→ε x Q) (h':¬p→ε y Q):ε (if p then x else y) Q:=by
 split
 ·exact h ‹_›
 ·exact h' ‹_›
def uv {σ ρ:Type} (P:σ→Prop) (Q:ρ→Prop):σ⊕ρ→Prop
 |.inl s=>P s
 |.inr r=>Q r
def ε.out {σ ρ:Type} {x:Option ρ} {P:σ→Prop} {Q:ρ→Prop} (h:ε x Q):ε (Cat.out x) (uv P Q):=by
 obtain ⟨a,rfl,ha⟩:=h;exact ⟨.inr a,rfl,ha⟩
def ε.inl {σ ρ:Type} {s:σ} {P:σ→Prop} {Q:ρ→Prop} (h:P s):ε (some (.inl s)) (uv P Q):=⟨_,rfl,h⟩
def ε.loop {σ ρ:Type} {B:σ→Option (σ⊕ρ)} {Q:ρ→Prop} (P:σ→Prop) (m:σ→Nat)
  (hB:∀s,P s→ε (B s) (uv (fun s'=>P s'∧m s'<m s) Q)):∀s,P s→ε (Cat.loop B s) Q:=by
 have:∀n s,m s<n→P s→ε (Cat.loop B s) Q:=by
  intro n;induction n with
  |zero=>intro s h;omega
  |succ n ih =>
   intro s hn hs;obtain ⟨y,hy,hq⟩:=hB s hs;cases y with
   |inl s'=>rw [tu hy];exact ih s' (by have:=hq.2;omega) hq.1
   |inr r=>rw [nS hy];exact ⟨r,rfl,hq⟩
 exact fun s hs=>this _ s (Nat.lt_succ_self _) hs
def ε.idx {α:Type} {l:List α} {i:Int} {Q:α→Prop} (h0:0≤i) (h1:i<l.length) (h:∀x,l[i.toNat]?=some x→Q x):ε (Cat.idx l i) Q:=by
 have hl:i.toNat<l.length:=by omega
 refine ⟨l[i.toNat],?_,h _ (bU hl)⟩;unfold Cat.idx;rw [if_pos h0,bU hl]
def ε.eq {α:Type} {x:Option α} {a:α} (h:ε x (·=a)):x=some a:=by
 obtain ⟨r,e,q⟩:=h;rw [e,q]
def ε.of {α:Type} {x:Option α} {a:α} (h:x=some a):ε x (·=a):=⟨a,h,rfl⟩
def cM (P:Prop) (b:Bool):Prop:=b=true↔P
def ε.Hr {a:Bool} {P Q:Prop} {y:Option Bool} (h:a=true↔P) (hy:P→ε y (cM Q)):ε (if a=true then y else some false) (cM (P∧Q)) :=
 ε.ite (fun ha=>(hy (h.1 ha)).mono fun _ hb=>⟨fun e=>⟨h.1 ha,hb.1 e⟩,fun e=>hb.2 e.2⟩) (fun ha=>ε.ret ⟨fun e=>(by cases e),fun e=>(ha (h.2 e.1)).elim⟩)
def ε.dec {p:Prop} [Decidable p] {P:Prop} (h:p↔P):ε (some (decide p)) (cM P):=ε.ret (decide_eq_true_iff.trans h)
def ε.is {b:Bool} {P:Prop} (h:b=true↔P):ε (some b) (cM P):=ε.ret h
def OE {β ρ:Type} {b:List β} {B:Int→Option (Int⊕ρ)} (p:β→Bool) (yes:Nat→β→ρ) (no:ρ)
  (h1:∀(n:Nat) (x:β),b[n]?=some x→n<b.length→B (n:Int)=if p x then some (.inr (yes n x)) else some (.inl ((n:Int)+1)))
  (h2:B (b.length:Int)=some (.inr no)) :
  loop B 0=some (match b.findIdx? p with|some n=>(match b[n]? with|some x=>yes n x|none=>no)|none=>no):=by
 have key:∀(l:List β) (n:Nat),b.drop n=l→n≤b.length→loop B (n:Int)=some (match l.findIdx? p with|some k=>(match b[n+k]? with|some x=>yes (n+k) x|none=>no)|none=>no):=by
  intro l;induction l with
  |nil =>
   intro n hd hn
   have:n=b.length:=by have:=congrArg List.length hd;simp at this;omega
   subst this;exact nS h2
  |cons x l ih =>
   intro n hd hn
   have Φ:n<b.length:=by
    rcases gI n b.length with h|h
    ·exact h
    ·rw [List.drop_eq_nil_of_le h] at hd;cases hd
   rw [List.drop_eq_getElem_cons Φ] at hd;injection hd with hx hl
   have hg:b[n]?=some x:=by rw [bU Φ,hx]
   have h:=h1 n x hg Φ;rw [List.findIdx?_cons];cases hp:p x with
   |true =>
    rw [hp] at h;rw [nS h];simp [hg]
   |false =>
    rw [hp] at h;rw [tu h,show ((n:Int)+1)=((n+1:Nat):Int) from rfl,ih (n+1) hl Φ];cases hf:l.findIdx? p with
    |none=>simp
    |some k=>simp [Nat.add_comm,Nat.add_left_comm]
 have:=key b 0 rfl (lP _);simpa using this
def cL {β:Type} {b:List β} {n:Nat} {x:β} (h:b[n]?=some x):idx b (n:Int)=some x:=by rw [ads,h]
def ako {k:IntKind} (hk:k.signed=false) (n:Int):k.wrap n=n % 2 ^ k.bits:=by simp [IntKind.wrap,hk]
def GQ {k:IntKind} (hk:k.signed=false) {n:Nat} (h:n<2 ^ k.bits):k.wrap (n:Int)=n:=by
 rw [ako hk]
 have:((n:Int) % ((2 ^ k.bits:Nat):Int))=((n % 2 ^ k.bits:Nat):Int):=by simp
 rw [Dh h] at this;simpa using this
def wV {w n:Nat} (h:n<2 ^ w):(eH w (n:Int)).toNat=n:=by
 rw [BitVec.ofInt_natCast,BitVec.toNat_ofNat,Dh h]
def Z5 {k:IntKind} (hk:k.signed=false) {a b:Nat} (ha:a<2 ^ k.bits) (hb:b<2 ^ k.bits):sB k (a:Int) (b:Int)=((a &&& b:Nat):Int):=by
 unfold sB;rw [BitVec.toNat_and,wV ha,wV hb];exact GQ hk (Nat.and_lt_two_pow _ hb)
def aeK {k:IntKind} (hk:k.signed=false) {a b:Nat} (ha:a<2 ^ k.bits) (hb:b<2 ^ k.bits):ve k (a:Int) (b:Int)=((a ||| b:Nat):Int):=by
 unfold ve;rw [BitVec.toNat_or,wV ha,wV hb];exact GQ hk (Nat.or_lt_two_pow ha hb)
def akp {k:IntKind} (hk:k.signed=false) {a b:Nat} (ha:a<2 ^ k.bits) (hb:b<2 ^ k.bits):qH k (a:Int) (b:Int)=((a ^^^ b:Nat):Int):=by
 unfold qH;rw [BitVec.toNat_xor,wV ha,wV hb];exact GQ hk (Nat.xor_lt_two_pow ha hb)
def ahf {k:IntKind} {a b:Nat} (hb:b≤k.bits):eV k (a:Int) (b:Int)=((a>>>b:Nat):Int):=by
 unfold eV;rw [gP,xw hb,Nat.shiftRight_eq_div_pow]
 have:(2 ^ b:Int)=((2 ^ b:Nat):Int):=by simp
 rw [this,Int.fdiv_eq_ediv_of_nonneg _ (Int.natCast_nonneg _)];rfl
def ahd {k:IntKind} (hk:k.signed=false) {a b:Nat} (hb:b≤k.bits) (h:a*2 ^ b<2 ^ k.bits):pL k (a:Int) (b:Int)=((a*2 ^ b:Nat):Int):=by
 unfold pL;rw [gP,xw hb]
 have:(2 ^ b:Int)=((2 ^ b:Nat):Int):=by simp
 rw [this];exact GQ hk h
def vQ:IntKind.u64.bits=64:=rfl
def Z4 {a b:Nat} (ha:a<18446744073709551616) (hb:b<18446744073709551616):sB .u64 (a:Int) (b:Int)=((a &&& b:Nat):Int):=Z5 rfl (by rw [vQ];simpa using ha) (by rw [vQ];simpa using hb)
def aeJ {a b:Nat} (ha:a<18446744073709551616) (hb:b<18446744073709551616):ve .u64 (a:Int) (b:Int)=((a ||| b:Nat):Int):=aeK rfl (by rw [vQ];simpa using ha) (by rw [vQ];simpa using hb)
def YZ {a b:Nat} (ha:a<18446744073709551616) (hb:b<18446744073709551616):qH .u64 (a:Int) (b:Int)=((a ^^^ b:Nat):Int):=akp rfl (by rw [vQ];simpa using ha) (by rw [vQ];simpa using hb)
def PL {a b:Nat} (hb:b≤64):eV .u64 (a:Int) (b:Int)=((a>>>b:Nat):Int):=ahf hb
end
section
def ak2 {α:Type} (l:List (Int×α)):List Int:=(l.map (·.1)).mergeSort fun x y=>decide (x≤y)
def alg (l:List Int):List Int:=l.mergeSort fun x y=>decide (x≤y)
def pJ {α β:Type} (f:α→β) {n:Int} {l:List (Int×α)} {z x:α} (h:some ((bn n l).getD z)=some x):(bn n (l.map fun p=>(p.1,f p.2))).getD (f z)=f x:=by
 rw [OH,←nn h];cases bn n l<;>rfl
def tq {α β:Type} (f:α→β) (n:Int) (l:List (Int×α)):(bn n (l.map fun p=>(p.1,f p.2))).isSome=(bn n l).isSome:=by
 rw [OH];cases bn n l<;>rfl
end
section
open Go.Sort
def oX {α:Type} (c:α→α→Option Int) (cf:α→α→Int):Prop:=(∀x y,c x y=some (cf x y))∧SWO (fun x y=>decide (cf x y<0))
def oX.uniq {α:Type} {c:α→α→Option Int} {cf ux:α→α→Int} (h:oX c cf) (h':oX c ux):cf=ux :=
 funext fun x=>funext fun y=>nn ((h.1 x y).symm.trans (h'.1 x y))
def xb {α:Type} [Inhabited α] (cf:α→α→Int) (l:List α):List α:=(pdq (fun x y=>decide (cf x y<0)) l.toArray 0 l.length (Ri l.length) true true).toList
open Classical in
noncomputable def alf {α:Type} [Inhabited α] (c:α→α→Option Int) (l:List α):Option (List α):=Ω (l.length≤140737488355328) (if h:∃cf,oX c cf then some (xb h.choose l) else none)
def ahP {α:Type} [Inhabited α] {cf:α→α→Int} (h:SWO (fun x y=>decide (cf x y<0))) (l:List α):(xb cf l).Perm l∧(xb cf l).Pairwise (fun x y=>¬cf y x<0):=by
 have hs:=pdq_sorts (fun x y=>decide (cf x y<0)) h l.toArray 0 l.length (Ri l.length) true true (lP _) (by simp) (Or.inl rfl);obtain ⟨⟨aX,_,hp⟩,ho⟩:=hs;unfold xb;generalize pdq (fun x y=>decide (cf x y<0)) l.toArray 0 l.length (Ri l.length) true true=d at *
 have hd:d.size=l.length:=by simpa using aX
 refine ⟨?_,?_⟩
 ·have e1:d.extract 0 l.length=d:=by rw [←hd];simp
  have e2:l.toArray.extract 0 l.length=l.toArray:=by simp
  rw [e1,e2] at hp;simpa using hp
 ·rw [List.pairwise_iff_getElem];intro i j hi hj eQ
  have dq:j<l.length:=by simpa [hd] using hj
  have:=ho i j (lP _) eQ dq
  have gi:d[i]! = d.toList[i]:=by rw [getElem!_pos d i (by omega)];simp
  have gj:d[j]! = d.toList[j]:=by rw [getElem!_pos d j (by omega)];simp
  rw [gi,gj] at this;simpa using this
end
section
def ε.each {β σ ρ:Type} {l:List β} {B:Int×σ→Option ((Int×σ)⊕ρ)} (I:Nat→σ→Prop) {Q:ρ→Prop}
  (h1:∀(n:Nat) (x:β) (a:σ),n<l.length→l[n]?=some x→I n a→ε (B ((n:Int),a)) (uv (fun s=>s.1=(n:Int)+1∧I (n+1) s.2) Q))
  (h2:∀a,I l.length a→ε (B ((l.length:Int),a)) (uv (fun _=>False) Q)) (a:σ) (h0:I 0 a):ε (Cat.loop B (0,a)) Q:=by
 refine ε.loop (fun s:Int×σ=>∃n:Nat,s.1=n∧n≤l.length∧I n s.2) (fun s=>l.length+1-s.1.toNat) ?_ (0,a) ⟨0,rfl,lP _,h0⟩;rintro ⟨i,a⟩ ⟨n,rfl,hn,hi⟩
 rcases gI n l.length with Φ|gA
 ·refine (h1 n _ a Φ (bU Φ) hi).mono fun y hy=>?_;cases y with
  |inl s=>exact ⟨⟨n+1,hy.1,Φ,hy.2⟩,by show l.length+1-s.1.toNat<_;rw [hy.1];simp only;omega⟩
  |inr r=>exact hy
 ·obtain rfl:n=l.length:=by omega
  refine (h2 a hi).mono fun y hy=>?_;cases y with
  |inl s=>exact hy.elim
  |inr r=>exact hy
def ε.aa8 {β ρ:Type} {l:List β} {B:Int→Option (Int⊕ρ)} (I:Nat→Prop) {Q:ρ→Prop}
  (h1:∀(n:Nat) (x:β),n<l.length→l[n]?=some x→I n→ε (B (n:Int)) (uv (fun s=>s=(n:Int)+1∧I (n+1)) Q))
  (h2:I l.length→ε (B (l.length:Int)) (uv (fun _=>False) Q)) (h0:I 0):ε (Cat.loop B 0) Q:=by
 refine ε.loop (fun s:Int=>∃n:Nat,s=n∧n≤l.length∧I n) (fun s=>l.length+1-s.toNat) ?_ 0 ⟨0,rfl,lP _,h0⟩;rintro i ⟨n,rfl,hn,hi⟩
 rcases gI n l.length with Φ|gA
 ·refine (h1 n _ Φ (bU Φ) hi).mono fun y hy=>?_;cases y with
  |inl s=>exact ⟨⟨n+1,hy.1,Φ,hy.2⟩,by obtain ⟨rfl,_⟩:=hy;omega⟩
  |inr r=>exact hy
 ·obtain rfl:n=l.length:=by omega
  refine (h2 hi).mono fun y hy=>?_;cases y with
  |inl s=>exact hy.elim
  |inr r=>exact hy
def rZ {α:Type} {l:List α} {n:Nat} {x:α} (h:l[n]?=some x):l.take (n+1)=l.take n++[x]:=by
 rw [List.take_add_one,h];rfl
end
section
def qA {α β:Type} (F:(α→Option β)→α→Option β):Nat→α→Option β
 |0,_=>none
 |n+1,a=>F (qA F n) a
def Hj {α β:Type} (F:(α→Option β)→α→Option β):Prop:=∀f g:α→Option β,(∀a r,f a=some r→g a=some r)→∀a r,F f a=some r→F g a=some r
def Pd {α β:Type} {F:(α→Option β)→α→Option β} (hF:Hj F):∀{n m:Nat},n≤m→∀a r,qA F n a=some r→qA F m a=some r
 |0,_,_,_,_,h=>by cases h
 |n+1,0,hm,_,_,_=>by omega
 |n+1,m+1,hm,a,r,h=>hF _ _ (Pd hF (Nat.le_of_succ_le_succ hm)) a r h
open Classical in
noncomputable def yk {α β:Type} (F:(α→Option β)→α→Option β) (a:α):Option β:=if h:∃r n,qA F n a=some r then some h.choose else none
def abp {α β:Type} {F:(α→Option β)→α→Option β} {a:α} {r:β} (h:yk F a=some r):∃n,qA F n a=some r:=by
 unfold yk at h;split at h
 ·next hex=>cases h;exact hex.choose_spec
 ·cases h
def SY {α β:Type} {F:(α→Option β)→α→Option β} (hF:Hj F) {a:α} {r:β} {n:Nat} (h:qA F n a=some r):yk F a=some r:=by
 have hex:∃r n,qA F n a=some r:=⟨r,n,h⟩;unfold yk;rw [dif_pos hex];obtain ⟨m,hm⟩:=hex.choose_spec;have h1:=Pd hF (aln n m) a _ h;have h2:=Pd hF (alm n m) a _ hm;rw [h1] at h2;exact h2.symm
def SX {α β:Type} {F:(α→Option β)→α→Option β} {p:α→β→Prop} (step:∀f:α→Option β,(∀a r,f a=some r→p a r)→∀a r,F f a=some r→p a r) {a:α} {r:β} (h:yk F a=some r):p a r:=by
 obtain ⟨n,h⟩:=abp h
 have:∀n a r,qA F n a=some r→p a r:=by
  intro n;induction n with
  |zero=>intro a r h;cases h
  |succ n ih=>intro a r h;exact step _ ih a r h
 exact this n a r h
def cq.VH {σ ρ:Type} {B B':σ→Option (σ⊕ρ)} (h:∀s,cq (B s) (B' s)) (s:σ):cq (Cat.loop B s) (Cat.loop B' s):=fun r hr=>by
 obtain ⟨n,hn⟩:=Jk hr;exact cq.loop h n s r hn
end
end Go.Cat
