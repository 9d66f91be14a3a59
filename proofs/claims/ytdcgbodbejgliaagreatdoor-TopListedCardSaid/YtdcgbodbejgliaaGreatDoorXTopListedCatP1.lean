/- The logic that the walks are in, piece P1. No condition. -/
import GoSem.Core.View
import GoSem.Core.Utf8
import Derived.Sort.AssemblyPlain
import Derived.Lib.BitFns
open BitVec renaming ofInt → iW
open Go.Lib renaming bitLen → Oh
open List renaming getElem?_eq_getElem → bO, getElem_mem → eH, drop_eq_nil_of_le → kH, drop_eq_getElem_cons → pZ
open Nat renaming lt_or_ge → eY, zero_le → hZ
open Option.some renaming inj → j7
namespace Go.Cat
set_option linter.all false
section
inductive LS where
 |gY|HI|ret|ex (i:Nat)
deriving DecidableEq
def LS.tn:LS→Bool
 |.gY=>true
 |_=>false
def Ψ (n:Int):Prop:=-9223372036854775808≤n∧n≤9223372036854775807
instance (n:Int):Decidable (Ψ n):=inferInstanceAs (Decidable (_∧_))
def τ (p:Prop) [Decidable p] {ρ:Type} (x:Option ρ):Option ρ:=if p then x else none
def ak {p:Prop} [Decidable p] {ρ:Type} {x:Option ρ} {r:ρ} (h:τ p x=some r):p∧x=some r:=by
 unfold τ at h;split at h
 ·exact ⟨‹_›,h⟩
 ·cases h
def ee {p:Prop} [Decidable p] {ρ:Type} {x:Option ρ} (h:p):τ p x=x:=if_pos h
def idx {α:Type} (l:List α) (i:Int):Option α:=if 0≤i then l[i.toNat]? else none
def aI {α:Type} {l:List α} {i:Int} {x:α} (h:idx l i=some x):i=(i.toNat:Int):=by
 unfold idx at h;split at h
 ·omega
 ·cases h
def ym {α:Type} {l:List α} {i:Int} {x:α} (h:idx l i=some x):l[i.toNat]?=some x:=by
 unfold idx at h;split at h
 ·exact h
 ·cases h
def aaW {α:Type} {l:List α} {i:Int} {x:α} (h:idx l i=some x):i.toNat<l.length:=(List.getElem?_eq_some_iff.1 (ym h)).1
def aaX {α:Type} {l:List α} {n:Nat}:idx l (n:Int)=l[n]?:=by simp [idx]
def η {α β:Type} {o:Option α} {f:α→Option β} {r:β} (h:o.bind f=some r):∃x,o=some x∧f x=some r:=Option.bind_eq_some_iff.1 h
def fI {σ ρ:Type} (B:σ→Option (σ⊕ρ)):Nat→σ→Option ρ
 |0,_=>none
 |n+1,s=>match B s with
  |none=>none
  |some (.inl s')=>fI B n s'
  |some (.inr r)=>some r
def Kr {σ ρ:Type} {B:σ→Option (σ⊕ρ)} {r:ρ}:∀{n m:Nat} {s:σ},fI B n s=some r→n≤m→fI B m s=some r
 |0,_,_,h,_=>by cases h
 |n+1,0,_,_,hm=>by omega
 |n+1,m+1,s,h,hm=>by
  simp only [fI] at h ⊢;cases hB:B s with
  |none=>rw [hB] at h;cases h
  |some x =>
   rw [hB] at h;cases x with
   |inl s'=>exact Kr h (by omega)
   |inr r'=>exact h
class LK where
 n:Option Nat
open Classical in
noncomputable def loop [K:LK] {σ ρ:Type} (B:σ→Option (σ⊕ρ)) (s:σ):Option ρ:=match K.n with
 |some n=>fI B n s
 |none=>if h:∃r n,fI B n s=some r then some h.choose else none
def Ku [K:LK] {σ ρ:Type} {B:σ→Option (σ⊕ρ)} {s:σ} {r:ρ} (h:loop B s=some r):∃n,fI B n s=some r:=by
 unfold loop at h;split at h
 ·exact ⟨_,h⟩
 split at h
 ·rename_i hex;cases h;exact hex.choose_spec
 ·cases h
instance ag4:LK:=⟨none⟩
abbrev Sk:LK:=⟨some 300⟩
open Classical in
def Kt {σ ρ:Type} {B:σ→Option (σ⊕ρ)} {s:σ} {r:ρ} {n:Nat} (h:fI B n s=some r):loop B s=some r:=by
 have hex:∃r n,fI B n s=some r:=⟨r,n,h⟩;show (if h:∃r n,fI B n s=some r then some h.choose else none)=_;rw [dif_pos hex];obtain ⟨m,hm⟩:=hex.choose_spec;have h1:=Kr h (Nat.le_max_left n m);have h2:=Kr hm (Nat.le_max_right n m);rw [h1] at h2;exact h2.symm
def Sm {σ ρ:Type} {B:σ→Option (σ⊕ρ)} {s:σ} (h:∀n r,fI B n s≠some r):loop B s=none:=by
 cases hl:loop B s with
 |none=>rfl
 |some r=>obtain ⟨n,hn⟩:=Ku hl;exact (h n r hn).elim
def Ks {σ ρ:Type} (B:σ→Option (σ⊕ρ)) (s:σ):loop B s=(B s).bind fun x=>match x with|.inl s'=>loop B s'|.inr r=>some r:=by
 cases hB:B s with
 |none =>
  refine Sm fun n r h=>?_;cases n with
  |zero=>cases h
  |succ n=>simp [fI,hB] at h
 |some x =>
  cases x with
  |inr r=>exact Kt (n:=1) (by simp [fI,hB])
  |inl s' =>
   simp only [Option.bind_some];cases hl:loop B s' with
   |some r =>
    obtain ⟨n,hn⟩:=Ku hl;exact Kt (n:=n+1) (by simp [fI,hB,hn])
   |none =>
    refine Sm fun n r h=>?_;cases n with
    |zero=>cases h
    |succ n =>
     simp only [fI,hB] at h;rw [Kt h] at hl;cases hl
def vX {σ ρ:Type} {B:σ→Option (σ⊕ρ)} {s s':σ} (h:B s=some (.inl s')):loop B s=loop B s':=by rw [Ks,h];rfl
def nV {σ ρ:Type} {B:σ→Option (σ⊕ρ)} {s:σ} {r:ρ} (h:B s=some (.inr r)):loop B s=some r:=by rw [Ks,h];rfl
def out {σ ρ:Type} (x:Option ρ):Option (σ⊕ρ):=x.map .inr
def SK {σ ρ:Type} {x:Option ρ} {y:σ⊕ρ} (h:out x=some y):∃r,x=some r∧y=.inr r:=by
 unfold out at h;cases x with
 |none=>cases h
 |some r=>cases h;exact ⟨r,rfl,rfl⟩
def sF {α:Type} (l:List α) (n:Nat):Option (List α):=τ ((([]:List α).length+l.length)*n≤140737488355328) (some (([]:List α)++l))
def Dh {α:Type} {l r:List α} {n:Nat} (h:sF l n=some r):∀b:Bool,(b=true→l=[])→(if b then some ([]:List α) else τ ((([]:List α).length+l.length)*n≤140737488355328) (some (([]:List α)++l)))=some r
 |false,_=>h
 |true,hl=>by
  obtain ⟨-,h⟩:=ak h;rw [hl rfl] at h;exact h
def W6 {α:Type} {l:List α} {n:Nat} (h:l.length*n≤140737488355328):sF l n=some l:=by
 unfold sF;rw [ee (by simpa using h)];rfl
def fE {α:Type} (x y:Option α):Prop:=∀r,x=some r→y=some r
def fE.refl {α:Type} (x:Option α):fE x x:=fun _ h=>h
def fE.bind {α β:Type} {x y:Option α} {f g:α→Option β} (h:fE x y) (hf:∀a,fE (f a) (g a)):fE (x.bind f) (y.bind g):=fun r hr=>by
 obtain ⟨a,ha,hb⟩:=η hr;rw [h a ha];exact hf a r hb
def fE.τ {α:Type} {p:Prop} [Decidable p] {x y:Option α} (h:fE x y):fE (Cat.τ p x) (Cat.τ p y):=fun r hr=>by
 obtain ⟨hp,hx⟩:=ak hr;rw [ee hp];exact h r hx
def fE.ite {α:Type} {p:Prop} [Decidable p] {x y x' y':Option α} (h:fE x y) (h':fE x' y'):fE (if p then x else x') (if p then y else y'):=by
 split
 ·exact h
 ·exact h'
def fE.out {σ ρ:Type} {x y:Option ρ} (h:fE x y):fE (Cat.out (σ:=σ) x) (Cat.out y):=fun r hr=>by
 obtain ⟨a,ha,rfl⟩:=SK hr;rw [h a ha];rfl
def fE.loop {σ ρ:Type} {B B':σ→Option (σ⊕ρ)} (h:∀s,fE (B s) (B' s)):∀(n:Nat) (s:σ),fE (fI B n s) (Cat.loop B' s)
 |0,_=>fun _ hr=>by cases hr
 |n+1,s=>fun r hr=>by
  simp only [fI] at hr;rw [Ks];cases hB:B s with
  |none=>rw [hB] at hr;cases hr
  |some x =>
   rw [hB] at hr;rw [h s x hB];cases x with
   |inl s'=>exact fE.loop h n s' r hr
   |inr r'=>exact hr
def iu {α:Type} (n:Int):List (Int×α)→Option α
 |[]=>none
 |(k,c)::r=>if k=n then some c else iu n r
def fB {α:Type} (n:Int) (v:α):List (Int×α)→List (Int×α)
 |[]=>[(n,v)]
 |(k,c)::r=>if k=n then (k,v)::r else (k,c)::fB n v r
def Kx {α β:Type} (f:α→β) (n:Int):∀l:List (Int×α),iu n (l.map fun p=>(p.1,f p.2))=(iu n l).map f
 |[]=>rfl
 |(k,c)::r=>by
  simp only [List.map_cons,iu];split
  ·rfl
  ·exact Kx f n r
def jD {α β:Type} (f:α→β) (n:Int) (v:α):∀l:List (Int×α),fB n (f v) (l.map fun p=>(p.1,f p.2))=(fB n v l).map fun p=>(p.1,f p.2)
 |[]=>rfl
 |(k,c)::r=>by
  simp only [List.map_cons,fB];split
  ·rfl
  ·rw [jD f n v r];rfl
def EF {α:Type} (n:Int) (v:α):∀l:List (Int×α),(iu n l=none∧fB n v l=l++[(n,v)]∧∀p,p∈l→p.1≠n) ∨
  ∃(j:Nat) (c:α),l[j]?=some (n,c)∧iu n l=some c∧fB n v l=l.set j (n,v)∧∀(i:Nat) p,i<j→l[i]?=some p→p.1≠n
 |[]=>.inl ⟨rfl,rfl,fun _ h=>by cases h⟩
 |(k,c)::r=>by
  simp only [iu,fB];split
  ·rename_i h;subst h;exact .inr ⟨0,c,rfl,rfl,rfl,fun i p hi=>by omega⟩
  ·rename_i h
   rcases EF n v r with ⟨h1,h2,h3⟩|⟨j,c',h1,h2,h3,h4⟩
   ·refine .inl ⟨h1,by rw [h2];rfl,fun p hp=>?_⟩
    rcases List.mem_cons.1 hp with rfl|hp
    ·exact h
    ·exact h3 p hp
   ·refine .inr ⟨j+1,c',h1,h2,by rw [h3];rfl,fun i p hi hp=>?_⟩;cases i with
    |zero=>simp at hp;rw [←hp];exact h
    |succ i=>exact h4 i p (by omega) (by simpa using hp)
def wJ (k:IntKind) (a b:Int):Int:=k.wrap (a*2 ^ (min b.toNat k.bits))
def fV (k:IntKind) (a b:Int):Int:=a.fdiv (2 ^ (min b.toNat k.bits))
def O0 (k:IntKind) (a b:Int):Int:=k.wrap (iW k.bits a &&& iW k.bits b).toNat
def Bg (k:IntKind) (a b:Int):Int:=k.wrap (iW k.bits a ||| iW k.bits b).toNat
def NW (k:IntKind) (a b:Int):Int:=k.wrap (iW k.bits a ^^^ iW k.bits b).toNat
def lM (n:Int):UInt8:=UInt8.ofNat (n % 256).toNat
def UP (n:Int):((lM n).toNat:Int)=n % 256:=by
 unfold lM;rw [UInt8.toNat_ofNat'];have:=Int.emod_nonneg n (by decide:(256:Int)≠0);have:=Int.emod_lt_of_pos n (by decide:(0:Int)<256);omega
def sub {α:Type} (l:List α) (a b:Int):List α:=(l.take b.toNat).drop a.toNat
abbrev nE (l:List UInt8) (i:Nat):Nat×Nat:=Utf8.decode ⟨l.toArray⟩ i
def fT {α ρ:Type} (x:Int⊕α) (p:Int→Option ρ) (k:α→Option ρ):Option ρ :=
 match x with
 |.inl e=>p e
 |.inr y=>k y
def gV {α ρ:Type} {x:Int⊕α} {p:Int→Option ρ} {k:α→Option ρ} {r:ρ} {e:Int} (h:fT x p k=some r) (he:x=.inl e):p e=some r:=by subst he;exact h
def gW {α ρ:Type} {x:Int⊕α} {p:Int→Option ρ} {k:α→Option ρ} {r:ρ} {y:α} (h:fT x p k=some r) (he:x=.inr y):k y=some r:=by subst he;exact h
def fE.fT {α ρ:Type} {x:Int⊕α} {p p':Int→Option ρ} {k k':α→Option ρ} (hp:∀e,fE (p e) (p' e)) (hk:∀y,fE (k y) (k' y)):fE (Cat.fT x p k) (Cat.fT x p' k'):=by
 cases x with
 |inl e=>exact hp e
 |inr y=>exact hk y
def lu:List UInt8→List UInt8→Int
 |[],[]=>0
 |[],_::_=>-1
 |_::_,[]=>1
 |a::as,b::bs=>if a<b then -1 else if b<a then 1 else lu as bs
def lG:List UInt8→UInt8→Int
 |[],_=>-1
 |b::l,c=>if b==c then 0 else if lG l c == -1 then -1 else lG l c+1
def jl (l:List (List UInt8)) (sep:List UInt8):List UInt8:=sep.intercalate l
def eW {α:Type} (l:List α) (i:Int) (x:List α):List α:=l.take i.toNat++x++l.drop i.toNat
def lU {α:Type} (l:List α) (i j:Int):List α:=l.take i.toNat++l.drop j.toNat
def El {α β:Type} (f:α→β) (l:List α) (i:Int) (x:List α):eW (l.map f) i (x.map f)=(eW l i x).map f:=by simp [eW,List.map_take,List.map_drop]
def Di {α β:Type} (f:α→β) (l:List α) (i j:Int):lU (l.map f) i j=(lU l i j).map f:=by simp [lU,List.map_take,List.map_drop]
end
section
def ε {α:Type} (x:Option α) (Q:α→Prop):Prop:=∃r,x=some r∧Q r
def ε.ret {α:Type} {a:α} {Q:α→Prop} (h:Q a):ε (some a) Q:=⟨a,rfl,h⟩
def ε.mono {α:Type} {x:Option α} {Q R:α→Prop} (h:ε x Q) (hm:∀a,Q a→R a):ε x R:=let ⟨r,e,q⟩:=h;⟨r,e,hm r q⟩
def ε.bind {α β:Type} {x:Option α} {f:α→Option β} {R:α→Prop} {Q:β→Prop} (h:ε x R) (hf:∀a,R a→ε (f a) Q):ε (x.bind f) Q:=by
 obtain ⟨a,rfl,ha⟩:=h;exact hf a ha
def ε.ay {α β:Type} {x:Option α} {f:α→Option β} {a:α} {Q:β→Prop} (h:x=some a) (hf:ε (f a) Q):ε (x.bind f) Q:=by
 subst h;exact hf
def ε.τ {α:Type} {p:Prop} [Decidable p] {x:Option α} {Q:α→Prop} (hp:p) (h:ε x Q):ε (Cat.τ p x) Q:=by rw [ee hp];exact h
def ε.ite {α:Type} {p:Prop} [Decidable p] {x y:Option α} {Q:α→Prop} (h:p→ε x Q) (h':¬p→ε y Q):ε (if p then x else y) Q:=by
 split
 ·exact h ‹_›
 ·exact h' ‹_›
def kM {σ ρ:Type} (P:σ→Prop) (Q:ρ→Prop):σ⊕ρ→Prop
 |.inl s=>P s
 |.inr r=>Q r
def ε.out {σ ρ:Type} {x:Option ρ} {P:σ→Prop} {Q:ρ→Prop} (h:ε x Q):ε (Cat.out x) (kM P Q):=by
 obtain ⟨a,rfl,ha⟩:=h;exact ⟨.inr a,rfl,ha⟩
def ε.inl {σ ρ:Type} {s:σ} {P:σ→Prop} {Q:ρ→Prop} (h:P s):ε (some (.inl s)) (kM P Q):=⟨_,rfl,h⟩
def ε.loop {σ ρ:Type} {B:σ→Option (σ⊕ρ)} {Q:ρ→Prop} (P:σ→Prop) (m:σ→Nat)
  (hB:∀s,P s→ε (B s) (kM (fun s'=>P s'∧m s'<m s) Q)):∀s,P s→ε (Cat.loop B s) Q:=by
 have:∀n s,m s<n→P s→ε (Cat.loop B s) Q:=by
  intro n;induction n with
  |zero=>intro s h;omega
  |succ n ih =>
   intro s hn hs;obtain ⟨y,hy,hq⟩:=hB s hs;cases y with
   |inl s'=>rw [vX hy];exact ih s' (by have:=hq.2;omega) hq.1
   |inr r=>rw [nV hy];exact ⟨r,rfl,hq⟩
 exact fun s hs=>this _ s (Nat.lt_succ_self _) hs
def ε.idx {α:Type} {l:List α} {i:Int} {Q:α→Prop} (h0:0≤i) (h1:i<l.length) (h:∀x,l[i.toNat]?=some x→Q x):ε (Cat.idx l i) Q:=by
 have hl:i.toNat<l.length:=by omega
 refine ⟨l[i.toNat],?_,h _ (bO hl)⟩;unfold Cat.idx;rw [if_pos h0,bO hl]
def ε.eq {α:Type} {x:Option α} {a:α} (h:ε x (·=a)):x=some a:=by
 obtain ⟨r,e,q⟩:=h;rw [e,q]
def ε.of {α:Type} {x:Option α} {a:α} (h:x=some a):ε x (·=a):=⟨a,h,rfl⟩
def dO (P:Prop) (b:Bool):Prop:=b=true↔P
def ε.OZ {a:Bool} {P Q:Prop} {y:Option Bool} (h:a=true↔P) (hy:P→ε y (dO Q)):ε (if a=true then y else some false) (dO (P∧Q)) :=
 ε.ite (fun ha=>(hy (h.1 ha)).mono fun _ hb=>⟨fun e=>⟨h.1 ha,hb.1 e⟩,fun e=>hb.2 e.2⟩) (fun ha=>ε.ret ⟨fun e=>(by cases e),fun e=>(ha (h.2 e.1)).elim⟩)
def ε.dec {p:Prop} [Decidable p] {P:Prop} (h:p↔P):ε (some (decide p)) (dO P):=ε.ret (decide_eq_true_iff.trans h)
def ε.is {b:Bool} {P:Prop} (h:b=true↔P):ε (some b) (dO P):=ε.ret h
def abu {α β ρ:Type} {b:List β} {B:α×Int→Option ((α×Int)⊕ρ)} (g:α→β→α) (I:α→Prop) (fin:α→ρ)
  (h1:∀(a:α) (n:Nat) (x:β),I a→b[n]?=some x→n<b.length→B (a,(n:Int))=some (.inl (g a x,(n:Int)+1)))
  (hI:∀a x,x∈b→I a→I (g a x))
  (h2:∀a,I a→B (a,(b.length:Int))=some (.inr (fin a))):∀a,I a→loop B (a,0)=some (fin (b.foldl g a)):=by
 have key:∀(l:List β) (n:Nat) (a:α),b.drop n=l→n≤b.length→I a→loop B (a,(n:Int))=some (fin (l.foldl g a)):=by
  intro l;induction l with
  |nil =>
   intro n a hd hn ha
   have:n=b.length:=by have:=congrArg List.length hd;simp at this;omega
   subst this;exact nV (h2 a ha)
  |cons x l ih =>
   intro n a hd hn ha
   have Ξ:n<b.length:=by
    rcases eY n b.length with h|h
    ·exact h
    ·rw [kH h] at hd;cases hd
   rw [pZ Ξ] at hd;injection hd with hx hl;rw [vX (h1 a n x ha (by rw [bO Ξ,hx]) Ξ)];exact ih (n+1) (g a x) hl Ξ (hI a x (hx▸eH Ξ) ha)
 exact fun a ha=>key b 0 a rfl (hZ _) ha
def A' {β ρ:Type} {b:List β} {B:Int→Option (Int⊕ρ)} (p:β→Bool) (yes:Nat→β→ρ) (no:ρ)
  (h1:∀(n:Nat) (x:β),b[n]?=some x→n<b.length→B (n:Int)=if p x then some (.inr (yes n x)) else some (.inl ((n:Int)+1)))
  (h2:B (b.length:Int)=some (.inr no)) :
  loop B 0=some (match b.findIdx? p with|some n=>(match b[n]? with|some x=>yes n x|none=>no)|none=>no):=by
 have key:∀(l:List β) (n:Nat),b.drop n=l→n≤b.length→loop B (n:Int)=some (match l.findIdx? p with|some k=>(match b[n+k]? with|some x=>yes (n+k) x|none=>no)|none=>no):=by
  intro l;induction l with
  |nil =>
   intro n hd hn
   have:n=b.length:=by have:=congrArg List.length hd;simp at this;omega
   subst this;exact nV h2
  |cons x l ih =>
   intro n hd hn
   have Ξ:n<b.length:=by
    rcases eY n b.length with h|h
    ·exact h
    ·rw [kH h] at hd;cases hd
   rw [pZ Ξ] at hd;injection hd with hx hl
   have hg:b[n]?=some x:=by rw [bO Ξ,hx]
   have h:=h1 n x hg Ξ;rw [List.findIdx?_cons];cases hp:p x with
   |true =>
    rw [hp] at h;rw [nV h];simp [hg]
   |false =>
    rw [hp] at h;rw [vX h,show ((n:Int)+1)=((n+1:Nat):Int) from rfl,ih (n+1) hl Ξ];cases hf:l.findIdx? p with
    |none=>simp
    |some k=>simp [Nat.add_comm,Nat.add_left_comm]
 have:=key b 0 rfl (hZ _);simpa using this
def bd {β:Type} {b:List β} {n:Nat} {x:β} (h:b[n]?=some x):idx b (n:Int)=some x:=by rw [aaX,h]
def agx {k:IntKind} (hk:k.signed=false) (n:Int):k.wrap n=n % 2 ^ k.bits:=by simp [IntKind.wrap,hk]
def agw {k:IntKind} (hk:k.signed=false) {n:Nat} (h:n<2 ^ k.bits):k.wrap (n:Int)=n:=by
 rw [agx hk]
 have:((n:Int) % ((2 ^ k.bits:Nat):Int))=((n % 2 ^ k.bits:Nat):Int):=by simp
 rw [Nat.mod_eq_of_lt h] at this;simpa using this
def adB {k:IntKind} {a b:Nat} (hb:b≤k.bits):fV k (a:Int) (b:Int)=((a>>>b:Nat):Int):=by
 unfold fV;rw [Int.toNat_natCast,Nat.min_eq_left hb,Nat.shiftRight_eq_div_pow]
 have:(2 ^ b:Int)=((2 ^ b:Nat):Int):=by simp
 rw [this,Int.fdiv_eq_ediv_of_nonneg _ (Int.natCast_nonneg _)];rfl
def adA {a b:Nat} (hb:b≤64):fV .u64 (a:Int) (b:Int)=((a>>>b:Nat):Int):=adB hb
end
section
def vV {α β:Type} (f:α→β) {n:Int} {l:List (Int×α)} {z x:α} (h:some ((iu n l).getD z)=some x):(iu n (l.map fun p=>(p.1,f p.2))).getD (f z)=f x:=by
 rw [Kx,←j7 h];cases iu n l<;>rfl
def yp {α β:Type} (f:α→β) (n:Int) (l:List (Int×α)):(iu n (l.map fun p=>(p.1,f p.2))).isSome=(iu n l).isSome:=by
 rw [Kx];cases iu n l<;>rfl
end
section
open Go.Sort
def p7 {α:Type} (c:α→α→Option Int) (cf:α→α→Int):Prop:=(∀x y,c x y=some (cf x y))∧SWO (fun x y=>decide (cf x y<0))
def p7.uniq {α:Type} {c:α→α→Option Int} {cf q8:α→α→Int} (h:p7 c cf) (h':p7 c q8):cf=q8 :=
 funext fun x=>funext fun y=>j7 ((h.1 x y).symm.trans (h'.1 x y))
def wM {α:Type} [Inhabited α] (cf:α→α→Int) (l:List α):List α:=(pdq (fun x y=>decide (cf x y<0)) l.toArray 0 l.length (Oh l.length) true true).toList
open Classical in
def adV {α:Type} [Inhabited α] {cf:α→α→Int} (h:SWO (fun x y=>decide (cf x y<0))) (l:List α):(wM cf l).Perm l∧(wM cf l).Pairwise (fun x y=>¬cf y x<0):=by
 have hs:=pdq_sorts (fun x y=>decide (cf x y<0)) h l.toArray 0 l.length (Oh l.length) true true (hZ _) (by simp) (Or.inl rfl);obtain ⟨⟨aZ,_,hp⟩,ho⟩:=hs;unfold wM;generalize pdq (fun x y=>decide (cf x y<0)) l.toArray 0 l.length (Oh l.length) true true=d at *
 have hd:d.size=l.length:=by simpa using aZ
 refine ⟨?_,?_⟩
 ·have e1:d.extract 0 l.length=d:=by rw [←hd];simp
  have e2:l.toArray.extract 0 l.length=l.toArray:=by simp
  rw [e1,e2] at hp;simpa using hp
 ·rw [List.pairwise_iff_getElem];intro i j hi hj et
  have iH:j<l.length:=by simpa [hd] using hj
  have:=ho i j (hZ _) et iH
  have gi:d[i]! = d.toList[i]:=by rw [getElem!_pos d i (by omega)];simp
  have gj:d[j]! = d.toList[j]:=by rw [getElem!_pos d j (by omega)];simp
  rw [gi,gj] at this;simpa using this
end
section
def ε.each {β σ ρ:Type} {l:List β} {B:Int×σ→Option ((Int×σ)⊕ρ)} (I:Nat→σ→Prop) {Q:ρ→Prop}
  (h1:∀(n:Nat) (x:β) (a:σ),n<l.length→l[n]?=some x→I n a→ε (B ((n:Int),a)) (kM (fun s=>s.1=(n:Int)+1∧I (n+1) s.2) Q))
  (h2:∀a,I l.length a→ε (B ((l.length:Int),a)) (kM (fun _=>False) Q)) (a:σ) (h0:I 0 a):ε (Cat.loop B (0,a)) Q:=by
 refine ε.loop (fun s:Int×σ=>∃n:Nat,s.1=n∧n≤l.length∧I n s.2) (fun s=>l.length+1-s.1.toNat) ?_ (0,a) ⟨0,rfl,hZ _,h0⟩;rintro ⟨i,a⟩ ⟨n,rfl,hn,hi⟩
 rcases eY n l.length with Ξ|eC
 ·refine (h1 n _ a Ξ (bO Ξ) hi).mono fun y hy=>?_;cases y with
  |inl s=>exact ⟨⟨n+1,hy.1,Ξ,hy.2⟩,by show l.length+1-s.1.toNat<_;rw [hy.1];simp only;omega⟩
  |inr r=>exact hy
 ·obtain rfl:n=l.length:=by omega
  refine (h2 a hi).mono fun y hy=>?_;cases y with
  |inl s=>exact hy.elim
  |inr r=>exact hy
def ε.qg {β σ ρ:Type} {l:List β} {B:σ×Int→Option ((σ×Int)⊕ρ)} (I:Nat→σ→Prop) {Q:ρ→Prop}
  (h1:∀(n:Nat) (x:β) (a:σ),n<l.length→l[n]?=some x→I n a→ε (B (a,(n:Int))) (kM (fun s=>s.2=(n:Int)+1∧I (n+1) s.1) Q))
  (h2:∀a,I l.length a→ε (B (a,(l.length:Int))) (kM (fun _=>False) Q)) (a:σ) (h0:I 0 a):ε (Cat.loop B (a,0)) Q:=by
 refine ε.loop (fun s:σ×Int=>∃n:Nat,s.2=n∧n≤l.length∧I n s.1) (fun s=>l.length+1-s.2.toNat) ?_ (a,0) ⟨0,rfl,hZ _,h0⟩;rintro ⟨a,i⟩ ⟨n,rfl,hn,hi⟩
 rcases eY n l.length with Ξ|eC
 ·refine (h1 n _ a Ξ (bO Ξ) hi).mono fun y hy=>?_;cases y with
  |inl s=>exact ⟨⟨n+1,hy.1,Ξ,hy.2⟩,by show l.length+1-s.2.toNat<_;rw [hy.1];simp only;omega⟩
  |inr r=>exact hy
 ·obtain rfl:n=l.length:=by omega
  refine (h2 a hi).mono fun y hy=>?_;cases y with
  |inl s=>exact hy.elim
  |inr r=>exact hy
def ε.ou {β ρ:Type} {l:List β} {B:Int→Option (Int⊕ρ)} (I:Nat→Prop) {Q:ρ→Prop}
  (h1:∀(n:Nat) (x:β),n<l.length→l[n]?=some x→I n→ε (B (n:Int)) (kM (fun s=>s=(n:Int)+1∧I (n+1)) Q))
  (h2:I l.length→ε (B (l.length:Int)) (kM (fun _=>False) Q)) (h0:I 0):ε (Cat.loop B 0) Q:=by
 refine ε.loop (fun s:Int=>∃n:Nat,s=n∧n≤l.length∧I n) (fun s=>l.length+1-s.toNat) ?_ 0 ⟨0,rfl,hZ _,h0⟩;rintro i ⟨n,rfl,hn,hi⟩
 rcases eY n l.length with Ξ|eC
 ·refine (h1 n _ Ξ (bO Ξ) hi).mono fun y hy=>?_;cases y with
  |inl s=>exact ⟨⟨n+1,hy.1,Ξ,hy.2⟩,by obtain ⟨rfl,_⟩:=hy;omega⟩
  |inr r=>exact hy
 ·obtain rfl:n=l.length:=by omega
  refine (h2 hi).mono fun y hy=>?_;cases y with
  |inl s=>exact hy.elim
  |inr r=>exact hy
def kC {α:Type} {l:List α} {n:Nat} {x:α} (h:l[n]?=some x):l.take (n+1)=l.take n++[x]:=by
 rw [List.take_add_one,h];rfl
def ε.bb {b:Option Bool} {c:Bool} {α:Type} {f:Bool→Option α} {Q:α→Prop} (hb:b=some c) (h:ε (f c) Q):ε ((b.bind fun c1=>some c1).bind f) Q:=by
 rw [hb];exact h
def abv {β:Type} {l:List β} {B:Int→Option (Int⊕Bool)} (p:β→Bool)
  (h1:∀(n:Nat) (x:β),l[n]?=some x→n<l.length→B (n:Int)=if p x then some (.inr true) else some (.inl ((n:Int)+1)))
  (h2:B (l.length:Int)=some (.inr false)):loop B 0=some (l.any p):=by
 rw [A' p (fun _ _=>true) false h1 h2];refine congrArg some ?_;cases h:l.findIdx? p with
 |none =>
  rw [List.findIdx?_eq_none_iff] at h;symm;rw [List.any_eq_false];intro x hx;simp [h x hx]
 |some n =>
  obtain ⟨hn,hp,_⟩:=List.findIdx?_eq_some_iff_getElem.1 h;simp only [bO hn];symm;exact List.any_eq_true.2 ⟨_,eH hn,hp⟩
end
section
def E7 {α β:Type} (F:(α→Option β)→α→Option β):Nat→α→Option β
 |0,_=>none
 |n+1,a=>F (E7 F n) a
open Classical in
noncomputable def Dw {α β:Type} (F:(α→Option β)→α→Option β) (a:α):Option β:=if h:∃r n,E7 F n a=some r then some h.choose else none
def YG {α β:Type} {F:(α→Option β)→α→Option β} {a:α} {r:β} (h:Dw F a=some r):∃n,E7 F n a=some r:=by
 unfold Dw at h;split at h
 ·next hex=>cases h;exact hex.choose_spec
 ·cases h
def YF {α β:Type} {F:(α→Option β)→α→Option β} {p:α→β→Prop} (step:∀f:α→Option β,(∀a r,f a=some r→p a r)→∀a r,F f a=some r→p a r) {a:α} {r:β} (h:Dw F a=some r):p a r:=by
 obtain ⟨n,h⟩:=YG h
 have:∀n a r,E7 F n a=some r→p a r:=by
  intro n;induction n with
  |zero=>intro a r h;cases h
  |succ n ih=>intro a r h;exact step _ ih a r h
 exact this n a r h
end
end Go.Cat
