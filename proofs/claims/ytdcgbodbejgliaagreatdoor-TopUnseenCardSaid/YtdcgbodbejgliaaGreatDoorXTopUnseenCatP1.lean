/- The logic that the walks are in, piece P1. No condition. -/
import GoSem.Core.View
import GoSem.Core.Utf8
import Derived.Sort.AssemblyPlain
import Derived.Lib.BitFns
open BitVec renaming ofInt → eF
open Go.Lib renaming bitLen → QY
open Int renaming toNat_natCast → gM
open List renaming getElem?_eq_getElem → bT
open Nat renaming lt_or_ge → gG, zero_le → lO, mod_eq_of_lt → C7, min_eq_left → xq, le_max_right → alb, le_max_left → alc
open Option.some renaming inj → lP
namespace Go.Cat
set_option linter.all false
section
inductive LS where
 | iH | LG | ret | ex (i:Nat)
deriving DecidableEq
def LS.wF:LS→Bool
 | .iH=>true
 | _=>false
def Θ (n:Int):Prop:=-9223372036854775808≤n∧n≤9223372036854775807
instance (n:Int):Decidable (Θ n):=inferInstanceAs (Decidable (_∧_))
def Ω (p:Prop) [Decidable p] {ρ:Type} (x:Option ρ):Option ρ:=if p then x else none
def aG {p:Prop} [Decidable p] {ρ:Type} {x:Option ρ} {r:ρ} (h:Ω p x=some r):p∧x=some r:=by
 unfold Ω at h; split at h
 ·exact ⟨‹_›,h⟩
 ·cases h
def ij {p:Prop} [Decidable p] {ρ:Type} {x:Option ρ} (h:p):Ω p x=x:=if_pos h
def idx {α:Type} (l:List α) (i:Int):Option α:=if 0≤i then l[i.toNat]? else none
def bz {α:Type} {l:List α} {i:Int} {x:α} (h:idx l i=some x):i=(i.toNat:Int):=by
 unfold idx at h; split at h
 ·omega
 ·cases h
def U7 {α:Type} {l:List α} {i:Int} {x:α} (h:idx l i=some x):l[i.toNat]?=some x:=by
 unfold idx at h; split at h
 ·exact h
 ·cases h
def ada {α:Type} {l:List α} {i:Int} {x:α} (h:idx l i=some x):i.toNat<l.length:=(List.getElem?_eq_some_iff.1 (U7 h)).1
def adb {α:Type} {l:List α} {n:Nat}:idx l (n:Int)=l[n]?:=by simp [idx]
def κ {α β:Type} {o:Option α} {f:α→Option β} {r:β} (h:o.bind f=some r):∃x,o=some x∧f x=some r:=Option.bind_eq_some_iff.1 h
def gJ {σ ρ:Type} (B:σ→Option (σ⊕ρ)):Nat→σ→Option ρ
 | 0,_=>none
 | n+1,s=>match B s with
  | none=>none
  | some (.inl s')=>gJ B n s'
  | some (.inr r)=>some r
def Oh {σ ρ:Type} {B:σ→Option (σ⊕ρ)} {r:ρ}:∀{n m:Nat} {s:σ},gJ B n s=some r→n≤m→gJ B m s=some r
 | 0,_,_,h,_=>by cases h
 | n+1,0,_,_,hm=>by omega
 | n+1,m+1,s,h,hm=>by
  simp only [gJ] at h ⊢;cases hB:B s with
  | none=>rw [hB] at h; cases h
  | some x =>
   rw [hB] at h;cases x with
   | inl s'=>exact Oh h (by omega)
   | inr r'=>exact h
open Classical in
noncomputable def loop {σ ρ:Type} (B:σ→Option (σ⊕ρ)) (s:σ):Option ρ:=if h:∃r n,gJ B n s=some r then some h.choose else none
def Oj {σ ρ:Type} {B:σ→Option (σ⊕ρ)} {s:σ} {r:ρ} {n:Nat} (h:gJ B n s=some r):loop B s=some r:=by
 have hex:∃r n,gJ B n s=some r:=⟨r,n,h⟩;unfold loop;rw [dif_pos hex];obtain ⟨m,hm⟩:=hex.choose_spec;have h1:=Oh h (alc n m);have h2:=Oh hm (alb n m);rw [h1] at h2;exact h2.symm
def I2 {σ ρ:Type} {B:σ→Option (σ⊕ρ)} {s:σ} {r:ρ} (h:loop B s=some r):∃n,gJ B n s=some r:=by
 unfold loop at h;split at h
 ·rename_i hex;cases h;exact hex.choose_spec
 ·cases h
def Vw {σ ρ:Type} {B:σ→Option (σ⊕ρ)} {s:σ} (h:∀n r,gJ B n s≠some r):loop B s=none:=by
 cases hl:loop B s with
 | none=>rfl
 | some r=>obtain ⟨n,hn⟩:=I2 hl; exact (h n r hn).elim
def I1 {σ ρ:Type} (B:σ→Option (σ⊕ρ)) (s:σ):loop B s=(B s).bind fun x=>match x with | .inl s'=>loop B s' | .inr r=>some r:=by
 cases hB:B s with
 | none =>
  refine Vw fun n r h=>?_;cases n with
  | zero=>cases h
  | succ n=>simp [gJ,hB] at h
 | some x =>
  cases x with
  | inr r=>exact Oj (n:=1) (by simp [gJ,hB])
  | inl s' =>
   simp only [Option.bind_some];cases hl:loop B s' with
   | some r =>
    obtain ⟨n,hn⟩:=I2 hl;exact Oj (n:=n+1) (by simp [gJ,hB,hn])
   | none =>
    refine Vw fun n r h=>?_;cases n with
    | zero=>cases h
    | succ n =>
     simp only [gJ,hB] at h;rw [Oj h] at hl; cases hl
def sZ {σ ρ:Type} {B:σ→Option (σ⊕ρ)} {s s':σ} (h:B s=some (.inl s')):loop B s=loop B s':=by rw [I1,h]; rfl
def nS {σ ρ:Type} {B:σ→Option (σ⊕ρ)} {s:σ} {r:ρ} (h:B s=some (.inr r)):loop B s=some r:=by rw [I1,h]; rfl
def out {σ ρ:Type} (x:Option ρ):Option (σ⊕ρ):=x.map .inr
def VP {σ ρ:Type} {x:Option ρ} {y:σ⊕ρ} (h:out x=some y):∃r,x=some r∧y=.inr r:=by
 unfold out at h;cases x with
 | none=>cases h
 | some r=>cases h; exact ⟨r,rfl,rfl⟩
noncomputable def oX {α ρ:Type} (S:α→Prop) (f:α→Option ρ):Option ρ:=by
 classical exact if h:∃r,∀x,S x→f x=some r then some h.choose else none
def xO {α ρ:Type} {S:α→Prop} {f:α→Option ρ} {r:ρ} (h:oX S f=some r):∀x,S x→f x=some r:=by
 unfold oX at h;split at h
 ·rename_i hex; cases h; exact hex.choose_spec
 ·cases h
def RE {α ρ:Type} {S:α→Prop} {f:α→Option ρ} {r:ρ} (aO:∃x,S x) (h:∀x,S x→f x=some r):oX S f=some r:=by
 unfold oX;have hex:∃r,∀x,S x→f x=some r:=⟨r,h⟩;rw [dif_pos hex];obtain ⟨x,hx⟩:=aO;rw [←hex.choose_spec x hx,h x hx]
def cm {α:Type} (x y:Option α):Prop:=∀r,x=some r→y=some r
def cm.refl {α:Type} (x:Option α):cm x x:=fun _ h=>h
def cm.bind {α β:Type} {x y:Option α} {f g:α→Option β} (h:cm x y) (hf:∀a,cm (f a) (g a)):cm (x.bind f) (y.bind g):=fun r hr=>by
 obtain ⟨a,ha,hb⟩:=κ hr;rw [h a ha]; exact hf a r hb
def cm.Ω {α:Type} {p:Prop} [Decidable p] {x y:Option α} (h:cm x y):cm (Cat.Ω p x) (Cat.Ω p y):=fun r hr=>by
 obtain ⟨hp,hx⟩:=aG hr;rw [ij hp]; exact h r hx
def cm.ite {α:Type} {p:Prop} [Decidable p] {x y x' y':Option α} (h:cm x y) (h':cm x' y'):cm (if p then x else x') (if p then y else y'):=by
 split
 ·exact h
 ·exact h'
def cm.out {σ ρ:Type} {x y:Option ρ} (h:cm x y):cm (Cat.out (σ:=σ) x) (Cat.out y):=fun r hr=>by
 obtain ⟨a,ha,rfl⟩:=VP hr;rw [h a ha]; rfl
def cm.loop {σ ρ:Type} {B B':σ→Option (σ⊕ρ)} (h:∀s,cm (B s) (B' s)):∀(n:Nat) (s:σ),cm (gJ B n s) (Cat.loop B' s)
 | 0,_=>fun _ hr=>by cases hr
 | n+1,s=>fun r hr=>by
  simp only [gJ] at hr;rw [I1];cases hB:B s with
  | none=>rw [hB] at hr; cases hr
  | some x =>
   rw [hB] at hr;rw [h s x hB];cases x with
   | inl s'=>exact cm.loop h n s' r hr
   | inr r'=>exact hr
def cm.clone {α:Type} {l:List α} {f:Bool→Option (List α)} (h:∀b,(b=true→l=[])→f b=some l):oX (fun b=>b=true→l=[]) f=some l :=
 RE ⟨false,fun h=>by cases h⟩ h
def bn {α:Type} (n:Int):List (Int×α)→Option α
 | []=>none
 | (k,c)::r=>if k=n then some c else bn n r
def ak {α:Type} (n:Int) (v:α):List (Int×α)→List (Int×α)
 | []=>[(n,v)]
 | (k,c)::r=>if k=n then (k,v)::r else (k,c)::ak n v r
def Om {α β:Type} (f:α→β) (n:Int):∀l:List (Int×α),bn n (l.map fun p=>(p.1,f p.2))=(bn n l).map f
 | []=>rfl
 | (k,c)::r=>by
  simp only [List.map_cons,bn];split
  ·rfl
  ·exact Om f n r
def iG {α β:Type} (f:α→β) (n:Int) (v:α):∀l:List (Int×α),ak n (f v) (l.map fun p=>(p.1,f p.2))=(ak n v l).map fun p=>(p.1,f p.2)
 | []=>rfl
 | (k,c)::r=>by
  simp only [List.map_cons,ak];split
  ·rfl
  ·rw [iG f n v r]; rfl
def BG {α:Type} (n:Int) (v:α):∀l:List (Int×α),(bn n l=none∧ak n v l=l++[(n,v)]∧∀p,p∈l→p.1≠n) ∨
  ∃(j:Nat) (c:α),l[j]?=some (n,c)∧bn n l=some c∧ak n v l=l.set j (n,v)∧∀(i:Nat) p,i<j→l[i]?=some p→p.1≠n
 | []=>.inl ⟨rfl,rfl,fun _ h=>by cases h⟩
 | (k,c)::r=>by
  simp only [bn,ak];split
  ·rename_i h; subst h;exact .inr ⟨0,c,rfl,rfl,rfl,fun i p hi=>by omega⟩
  ·rename_i h
   rcases BG n v r with ⟨h1,h2,h3⟩ | ⟨j,c',h1,h2,h3,h4⟩
   ·refine .inl ⟨h1,by rw [h2]; rfl,fun p hp=>?_⟩
    rcases List.mem_cons.1 hp with rfl | hp
    ·exact h
    ·exact h3 p hp
   ·refine .inr ⟨j+1,c',h1,h2,by rw [h3]; rfl,fun i p hi hp=>?_⟩;cases i with
    | zero=>simp at hp; rw [←hp]; exact h
    | succ i=>exact h4 i p (by omega) (by simpa using hp)
def af5 (k:IntKind) (a b:Int):Int:=k.wrap (a.tdiv b)
def pH (k:IntKind) (a b:Int):Int:=k.wrap (a*2 ^ (min b.toNat k.bits))
def eT (k:IntKind) (a b:Int):Int:=a.fdiv (2 ^ (min b.toNat k.bits))
def r7 (k:IntKind) (a b:Int):Int:=k.wrap (eF k.bits a &&& eF k.bits b).toNat
def uO (k:IntKind) (a b:Int):Int:=k.wrap (eF k.bits a ||| eF k.bits b).toNat
def qv (k:IntKind) (a b:Int):Int:=k.wrap (eF k.bits a ^^^ eF k.bits b).toNat
def aky (k:IntKind) (a b:Int):Int:=k.wrap (eF k.bits a &&& ~~~eF k.bits b).toNat
def k_ (n:Int):UInt8:=UInt8.ofNat (n % 256).toNat
def XN (n:Int):((k_ n).toNat:Int)=n % 256:=by
 unfold k_;rw [UInt8.toNat_ofNat'];have:=Int.emod_nonneg n (by decide:(256:Int)≠0);have:=Int.emod_lt_of_pos n (by decide:(0:Int)<256);omega
def sub {α:Type} (l:List α) (a b:Int):List α:=(l.take b.toNat).drop a.toNat
abbrev o8 (l:List UInt8) (i:Nat):Nat×Nat:=Utf8.decode ⟨l.toArray⟩ i
def bP {α ρ:Type} (x:Int⊕α) (p:Int→Option ρ) (k:α→Option ρ):Option ρ :=
 match x with
 | .inl e=>p e
 | .inr y=>k y
def cw {α ρ:Type} {x:Int⊕α} {p:Int→Option ρ} {k:α→Option ρ} {r:ρ} {e:Int} (h:bP x p k=some r) (he:x=.inl e):p e=some r:=by subst he; exact h
def cy {α ρ:Type} {x:Int⊕α} {p:Int→Option ρ} {k:α→Option ρ} {r:ρ} {y:α} (h:bP x p k=some r) (he:x=.inr y):k y=some r:=by subst he; exact h
def cm.bP {α ρ:Type} {x:Int⊕α} {p p':Int→Option ρ} {k k':α→Option ρ} (hp:∀e,cm (p e) (p' e)) (hk:∀y,cm (k y) (k' y)):cm (Cat.bP x p k) (Cat.bP x p' k'):=by
 cases x with
 | inl e=>exact hp e
 | inr y=>exact hk y
def mM:List UInt8→List UInt8→Int
 | [],[]=>0
 | [],_::_=>-1
 | _::_,[]=>1
 | a::as,b::bs=>if a<b then -1 else if b<a then 1 else mM as bs
def mV:List UInt8→UInt8→Int
 | [],_=>-1
 | b::l,c=>if b==c then 0 else if mV l c == -1 then -1 else mV l c+1
def kV (l:List (List UInt8)) (sep:List UInt8):List UInt8:=sep.intercalate l
def dH {α:Type} (l:List α) (i:Int) (x:List α):List α:=l.take i.toNat++x++l.drop i.toNat
def fW {α:Type} (l:List α) (i j:Int):List α:=l.take i.toNat++l.drop j.toNat
def Hq {α:Type} (l:List α) (d:Nat) (x:List α):List α:=l.take d++x.take (l.length-d)++l.drop (d+x.length)
def IN {α β:Type} (f:α→β) (l:List α) (i:Int) (x:List α):dH (l.map f) i (x.map f)=(dH l i x).map f:=by simp [dH,List.map_take,List.map_drop]
def Hs {α β:Type} (f:α→β) (l:List α) (i j:Int):fW (l.map f) i j=(fW l i j).map f:=by simp [fW,List.map_take,List.map_drop]
end
section
def ε {α:Type} (x:Option α) (Q:α→Prop):Prop:=∃r,x=some r∧Q r
def ε.ret {α:Type} {a:α} {Q:α→Prop} (h:Q a):ε (some a) Q:=⟨a,rfl,h⟩
def ε.mono {α:Type} {x:Option α} {Q R:α→Prop} (h:ε x Q) (hm:∀a,Q a→R a):ε x R:=let ⟨r,e,q⟩:=h; ⟨r,e,hm r q⟩
def ε.bind {α β:Type} {x:Option α} {f:α→Option β} {R:α→Prop} {Q:β→Prop} (h:ε x R) (hf:∀a,R a→ε (f a) Q):ε (x.bind f) Q:=by
 obtain ⟨a,rfl,ha⟩:=h;exact hf a ha
def ε.ai {α β:Type} {x:Option α} {f:α→Option β} {a:α} {Q:β→Prop} (h:x=some a) (hf:ε (f a) Q):ε (x.bind f) Q:=by
 subst h; exact hf
def ε.Ω {α:Type} {p:Prop} [Decidable p] {x:Option α} {Q:α→Prop} (hp:p) (h:ε x Q):ε (Cat.Ω p x) Q:=by rw [ij hp]; exact h
def ε.ite {α:Type} {p:Prop} [Decidable p] {x y:Option α} {Q:α→Prop} (h:p→ε x Q) (h':¬p→ε y Q):ε (if p then x else y) Q:=by
 split
 ·exact h ‹_›
 ·exact h' ‹_›
def ub {σ ρ:Type} (P:σ→Prop) (Q:ρ→Prop):σ⊕ρ→Prop
 | .inl s=>P s
 | .inr r=>Q r
def ε.out {σ ρ:Type} {x:Option ρ} {P:σ→Prop} {Q:ρ→Prop} (h:ε x Q):ε (Cat.out x) (ub P Q):=by
 obtain ⟨a,rfl,ha⟩:=h;exact ⟨.inr a,rfl,ha⟩
def ε.inl {σ ρ:Type} {s:σ} {P:σ→Prop} {Q:ρ→Prop} (h:P s):ε (some (.inl s)) (ub P Q):=⟨_,rfl,h⟩
def ε.loop {σ ρ:Type} {B:σ→Option (σ⊕ρ)} {Q:ρ→Prop} (P:σ→Prop) (m:σ→Nat)
  (hB:∀s,P s→ε (B s) (ub (fun s'=>P s'∧m s'<m s) Q)):∀s,P s→ε (Cat.loop B s) Q:=by
 have:∀n s,m s<n→P s→ε (Cat.loop B s) Q:=by
  intro n;induction n with
  | zero=>intro s h; omega
  | succ n ih =>
   intro s hn hs;obtain ⟨y,hy,hq⟩:=hB s hs;cases y with
   | inl s'=>rw [sZ hy]; exact ih s' (by have:=hq.2; omega) hq.1
   | inr r=>rw [nS hy]; exact ⟨r,rfl,hq⟩
 exact fun s hs=>this _ s (Nat.lt_succ_self _) hs
def ε.idx {α:Type} {l:List α} {i:Int} {Q:α→Prop} (h0:0≤i) (h1:i<l.length) (h:∀x,l[i.toNat]?=some x→Q x):ε (Cat.idx l i) Q:=by
 have hl:i.toNat<l.length:=by omega
 refine ⟨l[i.toNat],?_,h _ (bT hl)⟩;unfold Cat.idx;rw [if_pos h0,bT hl]
def ε.eq {α:Type} {x:Option α} {a:α} (h:ε x (·=a)):x=some a:=by
 obtain ⟨r,e,q⟩:=h;rw [e,q]
def ε.of {α:Type} {x:Option α} {a:α} (h:x=some a):ε x (·=a):=⟨a,h,rfl⟩
def cM (P:Prop) (b:Bool):Prop:=b=true↔P
def ε.G9 {a:Bool} {P Q:Prop} {y:Option Bool} (h:a=true↔P) (hy:P→ε y (cM Q)):ε (if a=true then y else some false) (cM (P∧Q)) :=
 ε.ite (fun ha=>(hy (h.1 ha)).mono fun _ hb=>⟨fun e=>⟨h.1 ha,hb.1 e⟩,fun e=>hb.2 e.2⟩) (fun ha=>ε.ret ⟨fun e=>(by cases e),fun e=>(ha (h.2 e.1)).elim⟩)
def ε.dec {p:Prop} [Decidable p] {P:Prop} (h:p↔P):ε (some (decide p)) (cM P):=ε.ret (decide_eq_true_iff.trans h)
def ε.is {b:Bool} {P:Prop} (h:b=true↔P):ε (some b) (cM P):=ε.ret h
def Oi {β ρ:Type} {b:List β} {B:Int→Option (Int⊕ρ)} (p:β→Bool) (yes:Nat→β→ρ) (no:ρ)
  (h1:∀(n:Nat) (x:β),b[n]?=some x→n<b.length→B (n:Int)=if p x then some (.inr (yes n x)) else some (.inl ((n:Int)+1)))
  (h2:B (b.length:Int)=some (.inr no)) :
  loop B 0=some (match b.findIdx? p with | some n=>(match b[n]? with | some x=>yes n x | none=>no) | none=>no):=by
 have key:∀(l:List β) (n:Nat),b.drop n=l→n≤b.length→loop B (n:Int)=some (match l.findIdx? p with | some k=>(match b[n+k]? with | some x=>yes (n+k) x | none=>no) | none=>no):=by
  intro l;induction l with
  | nil =>
   intro n hd hn
   have:n=b.length:=by have:=congrArg List.length hd; simp at this; omega
   subst this;exact nS h2
  | cons x l ih =>
   intro n hd hn
   have Φ:n<b.length:=by
    rcases gG n b.length with h | h
    ·exact h
    ·rw [List.drop_eq_nil_of_le h] at hd; cases hd
   rw [List.drop_eq_getElem_cons Φ] at hd;injection hd with hx hl
   have hg:b[n]?=some x:=by rw [bT Φ,hx]
   have h:=h1 n x hg Φ;rw [List.findIdx?_cons];cases hp:p x with
   | true =>
    rw [hp] at h;rw [nS h];simp [hg]
   | false =>
    rw [hp] at h;rw [sZ h,show ((n:Int)+1)=((n+1:Nat):Int) from rfl,ih (n+1) hl Φ];cases hf:l.findIdx? p with
    | none=>simp
    | some k=>simp [Nat.add_comm,Nat.add_left_comm]
 have:=key b 0 rfl (lO _);simpa using this
def cF {β:Type} {b:List β} {n:Nat} {x:β} (h:b[n]?=some x):idx b (n:Int)=some x:=by rw [adb,h]
def ake {k:IntKind} (hk:k.signed=false) (n:Int):k.wrap n=n % 2 ^ k.bits:=by simp [IntKind.wrap,hk]
def Gs {k:IntKind} (hk:k.signed=false) {n:Nat} (h:n<2 ^ k.bits):k.wrap (n:Int)=n:=by
 rw [ake hk]
 have:((n:Int) % ((2 ^ k.bits:Nat):Int))=((n % 2 ^ k.bits:Nat):Int):=by simp
 rw [C7 h] at this;simpa using this
def wJ {w n:Nat} (h:n<2 ^ w):(eF w (n:Int)).toNat=n:=by
 rw [BitVec.ofInt_natCast,BitVec.toNat_ofNat,C7 h]
def ZR {k:IntKind} (hk:k.signed=false) {a b:Nat} (ha:a<2 ^ k.bits) (hb:b<2 ^ k.bits):r7 k (a:Int) (b:Int)=((a &&& b:Nat):Int):=by
 unfold r7;rw [BitVec.toNat_and,wJ ha,wJ hb];exact Gs hk (Nat.and_lt_two_pow _ hb)
def aeu {k:IntKind} (hk:k.signed=false) {a b:Nat} (ha:a<2 ^ k.bits) (hb:b<2 ^ k.bits):uO k (a:Int) (b:Int)=((a ||| b:Nat):Int):=by
 unfold uO;rw [BitVec.toNat_or,wJ ha,wJ hb];exact Gs hk (Nat.or_lt_two_pow ha hb)
def akf {k:IntKind} (hk:k.signed=false) {a b:Nat} (ha:a<2 ^ k.bits) (hb:b<2 ^ k.bits):qv k (a:Int) (b:Int)=((a ^^^ b:Nat):Int):=by
 unfold qv;rw [BitVec.toNat_xor,wJ ha,wJ hb];exact Gs hk (Nat.xor_lt_two_pow ha hb)
def ag3 {k:IntKind} {a b:Nat} (hb:b≤k.bits):eT k (a:Int) (b:Int)=((a>>>b:Nat):Int):=by
 unfold eT;rw [gM,xq hb,Nat.shiftRight_eq_div_pow]
 have:(2 ^ b:Int)=((2 ^ b:Nat):Int):=by simp
 rw [this,Int.fdiv_eq_ediv_of_nonneg _ (Int.natCast_nonneg _)];rfl
def ag1 {k:IntKind} (hk:k.signed=false) {a b:Nat} (hb:b≤k.bits) (h:a*2 ^ b<2 ^ k.bits):pH k (a:Int) (b:Int)=((a*2 ^ b:Nat):Int):=by
 unfold pH;rw [gM,xq hb]
 have:(2 ^ b:Int)=((2 ^ b:Nat):Int):=by simp
 rw [this];exact Gs hk h
def vD:IntKind.u64.bits=64:=rfl
def ZQ {a b:Nat} (ha:a<18446744073709551616) (hb:b<18446744073709551616):r7 .u64 (a:Int) (b:Int)=((a &&& b:Nat):Int):=ZR rfl (by rw [vD]; simpa using ha) (by rw [vD]; simpa using hb)
def aet {a b:Nat} (ha:a<18446744073709551616) (hb:b<18446744073709551616):uO .u64 (a:Int) (b:Int)=((a ||| b:Nat):Int):=aeu rfl (by rw [vD]; simpa using ha) (by rw [vD]; simpa using hb)
def YO {a b:Nat} (ha:a<18446744073709551616) (hb:b<18446744073709551616):qv .u64 (a:Int) (b:Int)=((a ^^^ b:Nat):Int):=akf rfl (by rw [vD]; simpa using ha) (by rw [vD]; simpa using hb)
def Pq {a b:Nat} (hb:b≤64):eT .u64 (a:Int) (b:Int)=((a>>>b:Nat):Int):=ag3 hb
end
section
def akS {α:Type} (l:List (Int×α)):List Int:=(l.map (·.1)).mergeSort fun x y=>decide (x≤y)
def ak8 (l:List Int):List Int:=l.mergeSort fun x y=>decide (x≤y)
def pF {α β:Type} (f:α→β) {n:Int} {l:List (Int×α)} {z x:α} (h:some ((bn n l).getD z)=some x):(bn n (l.map fun p=>(p.1,f p.2))).getD (f z)=f x:=by
 rw [Om,←lP h];cases bn n l <;> rfl
def sX {α β:Type} (f:α→β) (n:Int) (l:List (Int×α)):(bn n (l.map fun p=>(p.1,f p.2))).isSome=(bn n l).isSome:=by
 rw [Om];cases bn n l <;> rfl
end
section
open Go.Sort
def oU {α:Type} (c:α→α→Option Int) (cf:α→α→Int):Prop:=(∀x y,c x y=some (cf x y))∧SWO (fun x y=>decide (cf x y<0))
def oU.uniq {α:Type} {c:α→α→Option Int} {cf uc:α→α→Int} (h:oU c cf) (h':oU c uc):cf=uc :=
 funext fun x=>funext fun y=>lP ((h.1 x y).symm.trans (h'.1 x y))
def wX {α:Type} [Inhabited α] (cf:α→α→Int) (l:List α):List α:=(pdq (fun x y=>decide (cf x y<0)) l.toArray 0 l.length (QY l.length) true true).toList
open Classical in
noncomputable def ak7 {α:Type} [Inhabited α] (c:α→α→Option Int) (l:List α):Option (List α):=Ω (l.length≤140737488355328) (if h:∃cf,oU c cf then some (wX h.choose l) else none)
def ahC {α:Type} [Inhabited α] {cf:α→α→Int} (h:SWO (fun x y=>decide (cf x y<0))) (l:List α):(wX cf l).Perm l∧(wX cf l).Pairwise (fun x y=>¬cf y x<0):=by
 have hs:=pdq_sorts (fun x y=>decide (cf x y<0)) h l.toArray 0 l.length (QY l.length) true true (lO _) (by simp) (Or.inl rfl);obtain ⟨⟨aZ,_,hp⟩,ho⟩:=hs;unfold wX;generalize pdq (fun x y=>decide (cf x y<0)) l.toArray 0 l.length (QY l.length) true true=d at *
 have hd:d.size=l.length:=by simpa using aZ
 refine ⟨?_,?_⟩
 ·have e1:d.extract 0 l.length=d:=by rw [←hd]; simp
  have e2:l.toArray.extract 0 l.length=l.toArray:=by simp
  rw [e1,e2] at hp;simpa using hp
 ·rw [List.pairwise_iff_getElem];intro i j hi hj eO
  have dr:j<l.length:=by simpa [hd] using hj
  have:=ho i j (lO _) eO dr
  have gi:d[i]! = d.toList[i]:=by rw [getElem!_pos d i (by omega)]; simp
  have gj:d[j]! = d.toList[j]:=by rw [getElem!_pos d j (by omega)]; simp
  rw [gi,gj] at this;simpa using this
end
section
def ε.each {β σ ρ:Type} {l:List β} {B:Int×σ→Option ((Int×σ)⊕ρ)} (I:Nat→σ→Prop) {Q:ρ→Prop}
  (h1:∀(n:Nat) (x:β) (a:σ),n<l.length→l[n]?=some x→I n a→ε (B ((n:Int),a)) (ub (fun s=>s.1=(n:Int)+1∧I (n+1) s.2) Q))
  (h2:∀a,I l.length a→ε (B ((l.length:Int),a)) (ub (fun _=>False) Q)) (a:σ) (h0:I 0 a):ε (Cat.loop B (0,a)) Q:=by
 refine ε.loop (fun s:Int×σ=>∃n:Nat,s.1=n∧n≤l.length∧I n s.2) (fun s=>l.length+1-s.1.toNat) ?_ (0,a) ⟨0,rfl,lO _,h0⟩;rintro ⟨i,a⟩ ⟨n,rfl,hn,hi⟩
 rcases gG n l.length with Φ | gz
 ·refine (h1 n _ a Φ (bT Φ) hi).mono fun y hy=>?_;cases y with
  | inl s=>exact ⟨⟨n+1,hy.1,Φ,hy.2⟩,by show l.length+1-s.1.toNat<_; rw [hy.1]; simp only; omega⟩
  | inr r=>exact hy
 ·obtain rfl:n=l.length:=by omega
  refine (h2 a hi).mono fun y hy=>?_;cases y with
  | inl s=>exact hy.elim
  | inr r=>exact hy
def ε.aaV {β ρ:Type} {l:List β} {B:Int→Option (Int⊕ρ)} (I:Nat→Prop) {Q:ρ→Prop}
  (h1:∀(n:Nat) (x:β),n<l.length→l[n]?=some x→I n→ε (B (n:Int)) (ub (fun s=>s=(n:Int)+1∧I (n+1)) Q))
  (h2:I l.length→ε (B (l.length:Int)) (ub (fun _=>False) Q)) (h0:I 0):ε (Cat.loop B 0) Q:=by
 refine ε.loop (fun s:Int=>∃n:Nat,s=n∧n≤l.length∧I n) (fun s=>l.length+1-s.toNat) ?_ 0 ⟨0,rfl,lO _,h0⟩;rintro i ⟨n,rfl,hn,hi⟩
 rcases gG n l.length with Φ | gz
 ·refine (h1 n _ Φ (bT Φ) hi).mono fun y hy=>?_;cases y with
  | inl s=>exact ⟨⟨n+1,hy.1,Φ,hy.2⟩,by obtain ⟨rfl,_⟩:=hy; omega⟩
  | inr r=>exact hy
 ·obtain rfl:n=l.length:=by omega
  refine (h2 hi).mono fun y hy=>?_;cases y with
  | inl s=>exact hy.elim
  | inr r=>exact hy
def rJ {α:Type} {l:List α} {n:Nat} {x:α} (h:l[n]?=some x):l.take (n+1)=l.take n++[x]:=by
 rw [List.take_add_one,h]; rfl
end
section
def qn {α β:Type} (F:(α→Option β)→α→Option β):Nat→α→Option β
 | 0,_=>none
 | n+1,a=>F (qn F n) a
def G3 {α β:Type} (F:(α→Option β)→α→Option β):Prop:=∀f g:α→Option β,(∀a r,f a=some r→g a=some r)→∀a r,F f a=some r→F g a=some r
def OU {α β:Type} {F:(α→Option β)→α→Option β} (hF:G3 F):∀{n m:Nat},n≤m→∀a r,qn F n a=some r→qn F m a=some r
 | 0,_,_,_,_,h=>by cases h
 | n+1,0,hm,_,_,_=>by omega
 | n+1,m+1,hm,a,r,h=>hF _ _ (OU hF (Nat.le_of_succ_le_succ hm)) a r h
open Classical in
noncomputable def ye {α β:Type} (F:(α→Option β)→α→Option β) (a:α):Option β:=if h:∃r n,qn F n a=some r then some h.choose else none
def abc {α β:Type} {F:(α→Option β)→α→Option β} {a:α} {r:β} (h:ye F a=some r):∃n,qn F n a=some r:=by
 unfold ye at h;split at h
 ·next hex=>cases h; exact hex.choose_spec
 ·cases h
def SO {α β:Type} {F:(α→Option β)→α→Option β} (hF:G3 F) {a:α} {r:β} {n:Nat} (h:qn F n a=some r):ye F a=some r:=by
 have hex:∃r n,qn F n a=some r:=⟨r,n,h⟩;unfold ye;rw [dif_pos hex];obtain ⟨m,hm⟩:=hex.choose_spec;have h1:=OU hF (alc n m) a _ h;have h2:=OU hF (alb n m) a _ hm;rw [h1] at h2;exact h2.symm
def SN {α β:Type} {F:(α→Option β)→α→Option β} {p:α→β→Prop} (step:∀f:α→Option β,(∀a r,f a=some r→p a r)→∀a r,F f a=some r→p a r) {a:α} {r:β} (h:ye F a=some r):p a r:=by
 obtain ⟨n,h⟩:=abc h
 have:∀n a r,qn F n a=some r→p a r:=by
  intro n;induction n with
  | zero=>intro a r h; cases h
  | succ n ih=>intro a r h; exact step _ ih a r h
 exact this n a r h
def cm.Vv {σ ρ:Type} {B B':σ→Option (σ⊕ρ)} (h:∀s,cm (B s) (B' s)) (s:σ):cm (Cat.loop B s) (Cat.loop B' s):=fun r hr=>by
 obtain ⟨n,hn⟩:=I2 hr;exact cm.loop h n s r hn
end
end Go.Cat
