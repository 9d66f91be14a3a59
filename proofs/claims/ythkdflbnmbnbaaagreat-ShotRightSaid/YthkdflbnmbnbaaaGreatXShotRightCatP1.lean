/- The logic that the walks are in, piece P1. No condition. -/
import GoSem.Core.View
import GoSem.Core.Utf8
import Derived.Sort.AssemblyPlain
import Derived.Lib.BitFns
set_option linter.all false
namespace Go.Cat
inductive LS where
 | rdy | bsy | ret | ex (i:Nat)
deriving DecidableEq
def LS.isR:LS→Bool
 | .rdy=>true
 | _=>false
def InI64 (n:Int):Prop:=-9223372036854775808≤n∧n≤9223372036854775807
instance (n : Int) : Decidable (InI64 n) := inferInstanceAs (Decidable (_ ∧ _))
def chk (p:Prop) [Decidable p] {ρ:Type} (x:Option ρ):Option ρ:=if p then x else none
theorem chk_some {p:Prop} [Decidable p] {ρ:Type} {x:Option ρ} {r:ρ} (h:chk p x=some r):p∧x=some r:=by
 unfold chk at h; split at h
 ·exact ⟨‹_›,h⟩
 ·cases h
theorem chk_pos {p:Prop} [Decidable p] {ρ:Type} {x:Option ρ} (h:p):chk p x=x:=if_pos h
def idx {α:Type} (l:List α) (i:Int):Option α:=if 0≤i then l[i.toNat]? else none
theorem idx_nat {α:Type} {l:List α} {i:Int} {x:α} (h:idx l i=some x):i=(i.toNat:Int):=by
 unfold idx at h; split at h
 ·omega
 ·cases h
theorem idx_get {α:Type} {l:List α} {i:Int} {x:α} (h:idx l i=some x):l[i.toNat]?=some x:=by
 unfold idx at h; split at h
 ·exact h
 ·cases h
theorem idx_of_nat {α:Type} {l:List α} {n:Nat}:idx l (n:Int)=l[n]?:=by simp [idx]
theorem bindS {α β:Type} {o:Option α} {f:α→Option β} {r:β} (h:o.bind f=some r):∃x,o=some x∧f x=some r:=Option.bind_eq_some_iff.1 h
def loopN {σ ρ:Type} (B:σ→Option (σ⊕ρ)):Nat→σ→Option ρ
 | 0,_=>none
 | n+1,s=>match B s with
  | none=>none
  | some (.inl s')=>loopN B n s'
  | some (.inr r)=>some r
theorem loopN_mono {σ ρ:Type} {B:σ→Option (σ⊕ρ)} {r:ρ}:∀{n m:Nat} {s:σ},loopN B n s=some r→n≤m→loopN B m s=some r
 | 0,_,_,h,_=>by cases h
 | n+1,0,_,_,hm=>by omega
 | n+1,m+1,s,h,hm=>by
  simp only [loopN] at h ⊢
  cases hB:B s with
  | none=>rw [hB] at h; cases h
  | some x =>
   rw [hB] at h
   cases x with
   | inl s'=>exact loopN_mono h (by omega)
   | inr r'=>exact h
open Classical in
noncomputable def loop {σ ρ:Type} (B:σ→Option (σ⊕ρ)) (s:σ):Option ρ:=if h:∃r n,loopN B n s=some r then some h.choose else none
theorem loop_of {σ ρ:Type} {B:σ→Option (σ⊕ρ)} {s:σ} {r:ρ} {n:Nat} (h:loopN B n s=some r):loop B s=some r:=by
 have hex:∃r n,loopN B n s=some r:=⟨r,n,h⟩
 unfold loop
 rw [dif_pos hex]
 obtain ⟨m,hm⟩:=hex.choose_spec
 have h1:=loopN_mono h (Nat.le_max_left n m)
 have h2:=loopN_mono hm (Nat.le_max_right n m)
 rw [h1] at h2
 exact h2.symm
theorem loop_some {σ ρ:Type} {B:σ→Option (σ⊕ρ)} {s:σ} {r:ρ} (h:loop B s=some r):∃n,loopN B n s=some r:=by
 unfold loop at h
 split at h
 ·rename_i hex
  cases h
  exact hex.choose_spec
 ·cases h
theorem loop_none {σ ρ:Type} {B:σ→Option (σ⊕ρ)} {s:σ} (h:∀n r,loopN B n s≠some r):loop B s=none:=by
 cases hl:loop B s with
 | none=>rfl
 | some r=>obtain ⟨n,hn⟩:=loop_some hl; exact (h n r hn).elim
theorem loop_eq {σ ρ:Type} (B:σ→Option (σ⊕ρ)) (s:σ):loop B s=(B s).bind fun x=>match x with | .inl s'=>loop B s' | .inr r=>some r:=by
 cases hB:B s with
 | none =>
  refine loop_none fun n r h=>?_
  cases n with
  | zero=>cases h
  | succ n=>simp [loopN,hB] at h
 | some x =>
  cases x with
  | inr r=>exact loop_of (n:=1) (by simp [loopN,hB])
  | inl s' =>
   simp only [Option.bind_some]
   cases hl:loop B s' with
   | some r =>
    obtain ⟨n,hn⟩:=loop_some hl
    exact loop_of (n:=n+1) (by simp [loopN,hB,hn])
   | none =>
    refine loop_none fun n r h=>?_
    cases n with
    | zero=>cases h
    | succ n =>
     simp only [loopN,hB] at h
     rw [loop_of h] at hl; cases hl
theorem loop_inl {σ ρ:Type} {B:σ→Option (σ⊕ρ)} {s s':σ} (h:B s=some (.inl s')):loop B s=loop B s':=by rw [loop_eq,h]; rfl
theorem loop_inr {σ ρ:Type} {B:σ→Option (σ⊕ρ)} {s:σ} {r:ρ} (h:B s=some (.inr r)):loop B s=some r:=by rw [loop_eq,h]; rfl
def out {σ ρ:Type} (x:Option ρ):Option (σ⊕ρ):=x.map .inr
theorem out_some {σ ρ:Type} {x:Option ρ} {y:σ⊕ρ} (h:out x=some y):∃r,x=some r∧y=.inr r:=by
 unfold out at h
 cases x with
 | none=>cases h
 | some r=>cases h; exact ⟨r,rfl,rfl⟩
noncomputable def anyOf {α ρ:Type} (S:α→Prop) (f:α→Option ρ):Option ρ:=by
 classical exact if h:∃r,∀x,S x→f x=some r then some h.choose else none
theorem anyOf_some {α ρ:Type} {S:α→Prop} {f:α→Option ρ} {r:ρ} (h:anyOf S f=some r):∀x,S x→f x=some r:=by
 unfold anyOf at h
 split at h
 ·rename_i hex; cases h; exact hex.choose_spec
 ·cases h
theorem anyOf_eq {α ρ:Type} {S:α→Prop} {f:α→Option ρ} {r:ρ} (hne:∃x,S x) (h:∀x,S x→f x=some r):anyOf S f=some r:=by
 unfold anyOf
 have hex:∃r,∀x,S x→f x=some r:=⟨r,h⟩
 rw [dif_pos hex]
 obtain ⟨x,hx⟩:=hne
 rw [←hex.choose_spec x hx,h x hx]
def Le0 {α:Type} (x y:Option α):Prop:=∀r,x=some r→y=some r
theorem Le0.refl {α:Type} (x:Option α):Le0 x x:=fun _ h=>h
theorem Le0.bind {α β:Type} {x y:Option α} {f g:α→Option β} (h:Le0 x y) (hf:∀a,Le0 (f a) (g a)):Le0 (x.bind f) (y.bind g):=fun r hr=>by
 obtain ⟨a,ha,hb⟩:=bindS hr
 rw [h a ha]; exact hf a r hb
theorem Le0.chk {α:Type} {p:Prop} [Decidable p] {x y:Option α} (h:Le0 x y):Le0 (Cat.chk p x) (Cat.chk p y):=fun r hr=>by
 obtain ⟨hp,hx⟩:=chk_some hr
 rw [chk_pos hp]; exact h r hx
theorem Le0.ite {α:Type} {p:Prop} [Decidable p] {x y x' y':Option α} (h:Le0 x y) (h':Le0 x' y'):Le0 (if p then x else x') (if p then y else y'):=by
 split
 ·exact h
 ·exact h'
theorem Le0.out {σ ρ:Type} {x y:Option ρ} (h:Le0 x y):Le0 (Cat.out (σ:=σ) x) (Cat.out y):=fun r hr=>by
 obtain ⟨a,ha,rfl⟩:=out_some hr
 rw [h a ha]; rfl
theorem Le0.loop {σ ρ:Type} {B B':σ→Option (σ⊕ρ)} (h:∀s,Le0 (B s) (B' s)):∀(n:Nat) (s:σ),Le0 (loopN B n s) (Cat.loop B' s)
 | 0,_=>fun _ hr=>by cases hr
 | n+1,s=>fun r hr=>by
  simp only [loopN] at hr
  rw [loop_eq]
  cases hB:B s with
  | none=>rw [hB] at hr; cases hr
  | some x =>
   rw [hB] at hr
   rw [h s x hB]
   cases x with
   | inl s'=>exact Le0.loop h n s' r hr
   | inr r'=>exact hr
theorem Le0.clone {α:Type} {l:List α} {f:Bool→Option (List α)} (h:∀b,(b=true→l=[])→f b=some l):anyOf (fun b=>b=true→l=[]) f=some l :=
 anyOf_eq ⟨false,fun h=>by cases h⟩ h
def mget {α:Type} (n:Int):List (Int×α)→Option α
 | []=>none
 | (k,c)::r=>if k=n then some c else mget n r
def mset {α:Type} (n:Int) (v:α):List (Int×α)→List (Int×α)
 | []=>[(n,v)]
 | (k,c)::r=>if k=n then (k,v)::r else (k,c)::mset n v r
theorem mget_map {α β:Type} (f:α→β) (n:Int):∀l:List (Int×α),mget n (l.map fun p=>(p.1,f p.2))=(mget n l).map f
 | []=>rfl
 | (k,c)::r=>by
  simp only [List.map_cons,mget]
  split
  ·rfl
  ·exact mget_map f n r
theorem mset_map {α β:Type} (f:α→β) (n:Int) (v:α):∀l:List (Int×α),mset n (f v) (l.map fun p=>(p.1,f p.2))=(mset n v l).map fun p=>(p.1,f p.2)
 | []=>rfl
 | (k,c)::r=>by
  simp only [List.map_cons,mset]
  split
  ·rfl
  ·rw [mset_map f n v r]; rfl
theorem mget_at {α:Type} (n:Int) (v:α):∀l:List (Int×α),(mget n l=none∧mset n v l=l++[(n,v)]∧∀p,p∈l→p.1≠n) ∨
  ∃(j:Nat) (c:α),l[j]?=some (n,c)∧mget n l=some c∧mset n v l=l.set j (n,v)∧∀(i:Nat) p,i < j→l[i]?=some p→p.1≠n
 | []=>.inl ⟨rfl,rfl,fun _ h=>by cases h⟩
 | (k,c)::r=>by
  simp only [mget,mset]
  split
  ·rename_i h; subst h
   exact .inr ⟨0,c,rfl,rfl,rfl,fun i p hi=>by omega⟩
  ·rename_i h
   rcases mget_at n v r with ⟨h1,h2,h3⟩ | ⟨j,c',h1,h2,h3,h4⟩
   ·refine .inl ⟨h1,by rw [h2]; rfl,fun p hp=>?_⟩
    rcases List.mem_cons.1 hp with rfl | hp
    ·exact h
    ·exact h3 p hp
   ·refine .inr ⟨j+1,c',h1,h2,by rw [h3]; rfl,fun i p hi hp=>?_⟩
    cases i with
    | zero=>simp at hp; rw [←hp]; exact h
    | succ i=>exact h4 i p (by omega) (by simpa using hp)
def quoK (k:IntKind) (a b:Int):Int:=k.wrap (a.tdiv b)
def shlK (k:IntKind) (a b:Int):Int:=k.wrap (a * 2 ^ (min b.toNat k.bits))
def shrK (k:IntKind) (a b:Int):Int:=a.fdiv (2 ^ (min b.toNat k.bits))
def andK (k:IntKind) (a b:Int):Int:=k.wrap (BitVec.ofInt k.bits a &&& BitVec.ofInt k.bits b).toNat
def orK (k:IntKind) (a b:Int):Int:=k.wrap (BitVec.ofInt k.bits a ||| BitVec.ofInt k.bits b).toNat
def xorK (k:IntKind) (a b:Int):Int:=k.wrap (BitVec.ofInt k.bits a ^^^ BitVec.ofInt k.bits b).toNat
def andNotK (k:IntKind) (a b:Int):Int:=k.wrap (BitVec.ofInt k.bits a &&& ~~~BitVec.ofInt k.bits b).toNat
def toU8 (n:Int):UInt8:=UInt8.ofNat (n % 256).toNat
theorem toU8_toNat (n:Int):((toU8 n).toNat:Int)=n % 256:=by
 unfold toU8
 rw [UInt8.toNat_ofNat']
 have:=Int.emod_nonneg n (by decide:(256:Int)≠0)
 have:=Int.emod_lt_of_pos n (by decide:(0:Int) < 256)
 omega
def sub {α:Type} (l:List α) (a b:Int):List α:=(l.take b.toNat).drop a.toNat
abbrev decR (l:List UInt8) (i:Nat):Nat×Nat:=Utf8.decode ⟨l.toArray⟩ i
end Go.Cat
set_option linter.all false
namespace Go.Cat
def Tot {α:Type} (x:Option α) (Q:α→Prop):Prop:=∃r,x=some r∧Q r
theorem Tot.ret {α:Type} {a:α} {Q:α→Prop} (h:Q a):Tot (some a) Q:=⟨a,rfl,h⟩
theorem Tot.mono {α:Type} {x:Option α} {Q R:α→Prop} (h:Tot x Q) (hm:∀a,Q a→R a):Tot x R:=let ⟨r,e,q⟩:=h; ⟨r,e,hm r q⟩
theorem Tot.bind {α β:Type} {x:Option α} {f:α→Option β} {R:α→Prop} {Q:β→Prop} (h:Tot x R) (hf:∀a,R a→Tot (f a) Q):Tot (x.bind f) Q:=by
 obtain ⟨a,rfl,ha⟩:=h
 exact hf a ha
theorem Tot.bindeq {α β:Type} {x:Option α} {f:α→Option β} {a:α} {Q:β→Prop} (h:x=some a) (hf:Tot (f a) Q):Tot (x.bind f) Q:=by
 subst h; exact hf
theorem Tot.chk {α:Type} {p:Prop} [Decidable p] {x:Option α} {Q:α→Prop} (hp:p) (h:Tot x Q):Tot (Cat.chk p x) Q:=by rw [chk_pos hp]; exact h
theorem Tot.ite {α:Type} {p:Prop} [Decidable p] {x y:Option α} {Q:α→Prop} (h:p→Tot x Q) (h':¬p→Tot y Q):Tot (if p then x else y) Q:=by
 split
 ·exact h ‹_›
 ·exact h' ‹_›
def RdP {σ ρ:Type} (P:σ→Prop) (Q:ρ→Prop):σ⊕ρ→Prop
 | .inl s=>P s
 | .inr r=>Q r
theorem Tot.out {σ ρ:Type} {x:Option ρ} {P:σ→Prop} {Q:ρ→Prop} (h:Tot x Q):Tot (Cat.out x) (RdP P Q):=by
 obtain ⟨a,rfl,ha⟩:=h
 exact ⟨.inr a,rfl,ha⟩
theorem Tot.inl {σ ρ:Type} {s:σ} {P:σ→Prop} {Q:ρ→Prop} (h:P s):Tot (some (.inl s)) (RdP P Q):=⟨_,rfl,h⟩
theorem Tot.loop {σ ρ:Type} {B:σ→Option (σ⊕ρ)} {Q:ρ→Prop} (P:σ→Prop) (m:σ→Nat)
  (hB:∀s,P s→Tot (B s) (RdP (fun s'=>P s'∧m s' < m s) Q)):∀s,P s→Tot (Cat.loop B s) Q:=by
 have:∀n s,m s < n→P s→Tot (Cat.loop B s) Q:=by
  intro n
  induction n with
  | zero=>intro s h; omega
  | succ n ih =>
   intro s hn hs
   obtain ⟨y,hy,hq⟩:=hB s hs
   cases y with
   | inl s'=>rw [loop_inl hy]; exact ih s' (by have:=hq.2; omega) hq.1
   | inr r=>rw [loop_inr hy]; exact ⟨r,rfl,hq⟩
 exact fun s hs=>this _ s (Nat.lt_succ_self _) hs
theorem Tot.idx {α:Type} {l:List α} {i:Int} {Q:α→Prop} (h0:0≤i) (h1:i < l.length) (h:∀x,l[i.toNat]?=some x→Q x):Tot (Cat.idx l i) Q:=by
 have hl:i.toNat < l.length:=by omega
 refine ⟨l[i.toNat],?_,h _ (List.getElem?_eq_getElem hl)⟩
 unfold Cat.idx
 rw [if_pos h0,List.getElem?_eq_getElem hl]
theorem Tot.eq {α:Type} {x:Option α} {a:α} (h:Tot x (·=a)):x=some a:=by
 obtain ⟨r,e,q⟩:=h
 rw [e,q]
theorem Tot.of {α:Type} {x:Option α} {a:α} (h:x=some a):Tot x (·=a):=⟨a,h,rfl⟩
def Tells (P:Prop) (b:Bool):Prop:=b=true↔P
theorem Tot.andI {a:Bool} {P Q:Prop} {y:Option Bool} (h:a=true↔P) (hy:P→Tot y (Tells Q)):Tot (if a=true then y else some false) (Tells (P∧Q)) :=
 Tot.ite (fun ha=>(hy (h.1 ha)).mono fun _ hb=>⟨fun e=>⟨h.1 ha,hb.1 e⟩,fun e=>hb.2 e.2⟩) (fun ha=>Tot.ret ⟨fun e=>(by cases e),fun e=>(ha (h.2 e.1)).elim⟩)
theorem Tot.dec {p:Prop} [Decidable p] {P:Prop} (h:p↔P):Tot (some (decide p)) (Tells P):=Tot.ret (decide_eq_true_iff.trans h)
theorem Tot.is {b:Bool} {P:Prop} (h:b=true↔P):Tot (some b) (Tells P):=Tot.ret h
theorem loop_each {α β ρ:Type} {b:List β} {B:α×Int→Option ((α×Int)⊕ρ)} (g:α→β→α) (I:α→Prop) (fin:α→ρ)
  (h1:∀(a:α) (n:Nat) (x:β),I a→b[n]?=some x→n < b.length→B (a,(n:Int))=some (.inl (g a x,(n:Int)+1)))
  (hI:∀a x,x∈b→I a→I (g a x))
  (h2:∀a,I a→B (a,(b.length:Int))=some (.inr (fin a))):∀a,I a→loop B (a,0)=some (fin (b.foldl g a)):=by
 have key:∀(l:List β) (n:Nat) (a:α),b.drop n=l→n≤b.length→I a→loop B (a,(n:Int))=some (fin (l.foldl g a)):=by
  intro l
  induction l with
  | nil =>
   intro n a hd hn ha
   have:n=b.length:=by have:=congrArg List.length hd; simp at this; omega
   subst this
   exact loop_inr (h2 a ha)
  | cons x l ih =>
   intro n a hd hn ha
   have hlt:n < b.length:=by
    rcases Nat.lt_or_ge n b.length with h | h
    ·exact h
    ·rw [List.drop_eq_nil_of_le h] at hd; cases hd
   rw [List.drop_eq_getElem_cons hlt] at hd
   injection hd with hx hl
   rw [loop_inl (h1 a n x ha (by rw [List.getElem?_eq_getElem hlt,hx]) hlt)]
   exact ih (n+1) (g a x) hl hlt (hI a x (hx▸List.getElem_mem hlt) ha)
 exact fun a ha=>key b 0 a rfl (Nat.zero_le _) ha
theorem loop_find {β ρ:Type} {b:List β} {B:Int→Option (Int⊕ρ)} (p:β→Bool) (yes:Nat→β→ρ) (no:ρ)
  (h1:∀(n:Nat) (x:β),b[n]?=some x→n < b.length→B (n:Int)=if p x then some (.inr (yes n x)) else some (.inl ((n:Int)+1)))
  (h2:B (b.length:Int)=some (.inr no)) :
  loop B 0=some (match b.findIdx? p with | some n=>(match b[n]? with | some x=>yes n x | none=>no) | none=>no):=by
 have key:∀(l:List β) (n:Nat),b.drop n=l→n≤b.length→loop B (n:Int)=some (match l.findIdx? p with | some k=>(match b[n+k]? with | some x=>yes (n+k) x | none=>no) | none=>no):=by
  intro l
  induction l with
  | nil =>
   intro n hd hn
   have:n=b.length:=by have:=congrArg List.length hd; simp at this; omega
   subst this
   exact loop_inr h2
  | cons x l ih =>
   intro n hd hn
   have hlt:n < b.length:=by
    rcases Nat.lt_or_ge n b.length with h | h
    ·exact h
    ·rw [List.drop_eq_nil_of_le h] at hd; cases hd
   rw [List.drop_eq_getElem_cons hlt] at hd
   injection hd with hx hl
   have hg:b[n]?=some x:=by rw [List.getElem?_eq_getElem hlt,hx]
   have h:=h1 n x hg hlt
   rw [List.findIdx?_cons]
   cases hp:p x with
   | true =>
    rw [hp] at h
    rw [loop_inr h]
    simp [hg]
   | false =>
    rw [hp] at h
    rw [loop_inl h,show ((n:Int)+1)=((n+1:Nat):Int) from rfl,ih (n+1) hl hlt]
    cases hf:l.findIdx? p with
    | none=>simp
    | some k=>simp [Nat.add_comm,Nat.add_left_comm]
 have:=key b 0 rfl (Nat.zero_le _)
 simpa using this
theorem idx_some {β:Type} {b:List β} {n:Nat} {x:β} (h:b[n]?=some x):idx b (n:Int)=some x:=by rw [idx_of_nat,h]
theorem wrap_u {k:IntKind} (hk:k.signed=false) (n:Int):k.wrap n=n % 2 ^ k.bits:=by simp [IntKind.wrap,hk]
theorem wrap_nat {k:IntKind} (hk:k.signed=false) {n:Nat} (h:n < 2 ^ k.bits):k.wrap (n:Int)=n:=by
 rw [wrap_u hk]
 have:((n:Int) % ((2 ^ k.bits:Nat):Int))=((n % 2 ^ k.bits:Nat):Int):=by simp
 rw [Nat.mod_eq_of_lt h] at this
 simpa using this
theorem shrK_nat {k:IntKind} {a b:Nat} (hb:b≤k.bits):shrK k (a:Int) (b:Int)=((a >>> b:Nat):Int):=by
 unfold shrK
 rw [Int.toNat_natCast,Nat.min_eq_left hb,Nat.shiftRight_eq_div_pow]
 have:(2 ^ b:Int)=((2 ^ b:Nat):Int):=by simp
 rw [this,Int.fdiv_eq_ediv_of_nonneg _ (Int.natCast_nonneg _)]
 rfl
theorem shr64 {a b:Nat} (hb:b≤64):shrK .u64 (a:Int) (b:Int)=((a >>> b:Nat):Int):=shrK_nat hb
end Go.Cat
set_option linter.all false
namespace Go.Cat
def keysI {α:Type} (l:List (Int×α)):List Int:=(l.map (·.1)).mergeSort fun x y=>decide (x≤y)
def sortI (l:List Int):List Int:=l.mergeSort fun x y=>decide (x≤y)
theorem lk_val {α β:Type} (f:α→β) {n:Int} {l:List (Int×α)} {z x:α} (h:some ((mget n l).getD z)=some x):(mget n (l.map fun p=>(p.1,f p.2))).getD (f z)=f x:=by
 rw [mget_map,←Option.some.inj h]
 cases mget n l <;> rfl
theorem lk_some {α β:Type} (f:α→β) (n:Int) (l:List (Int×α)):(mget n (l.map fun p=>(p.1,f p.2))).isSome=(mget n l).isSome:=by
 rw [mget_map]
 cases mget n l <;> rfl
end Go.Cat
set_option linter.all false
namespace Go.Cat
open Go.Sort
def CmpIs {α:Type} (c:α→α→Option Int) (cf:α→α→Int):Prop:=(∀x y,c x y=some (cf x y))∧SWO (fun x y=>decide (cf x y < 0))
theorem CmpIs.uniq {α:Type} {c:α→α→Option Int} {cf cf':α→α→Int} (h:CmpIs c cf) (h':CmpIs c cf'):cf=cf' :=
 funext fun x=>funext fun y=>Option.some.inj ((h.1 x y).symm.trans (h'.1 x y))
def sortBy {α:Type} [Inhabited α] (cf:α→α→Int) (l:List α):List α:=(pdq (fun x y=>decide (cf x y < 0)) l.toArray 0 l.length (Lib.bitLen l.length) true true).toList
open Classical in
noncomputable def sortF {α:Type} [Inhabited α] (c:α→α→Option Int) (l:List α):Option (List α):=chk (l.length≤140737488355328) (if h:∃cf,CmpIs c cf then some (sortBy h.choose l) else none)
theorem sortF_eq {α:Type} [Inhabited α] {c:α→α→Option Int} {cf:α→α→Int} (h:CmpIs c cf) {l:List α} (hl:l.length≤140737488355328):sortF c l=some (sortBy cf l):=by
 unfold sortF
 rw [chk_pos hl]
 have hex:∃cf,CmpIs c cf:=⟨cf,h⟩
 rw [dif_pos hex,hex.choose_spec.uniq h]
theorem sortBy_spec {α:Type} [Inhabited α] {cf:α→α→Int} (h:SWO (fun x y=>decide (cf x y < 0))) (l:List α):(sortBy cf l).Perm l∧(sortBy cf l).Pairwise (fun x y=>¬cf y x < 0):=by
 have hs:=pdq_sorts (fun x y=>decide (cf x y < 0)) h l.toArray 0 l.length (Lib.bitLen l.length) true true (Nat.zero_le _) (by simp) (Or.inl rfl)
 obtain ⟨⟨hsz,_,hp⟩,ho⟩:=hs
 unfold sortBy
 generalize pdq (fun x y=>decide (cf x y < 0)) l.toArray 0 l.length (Lib.bitLen l.length) true true=d at *
 have hd:d.size=l.length:=by simpa using hsz
 refine ⟨?_,?_⟩
 ·have e1:d.extract 0 l.length=d:=by rw [←hd]; simp
  have e2:l.toArray.extract 0 l.length=l.toArray:=by simp
  rw [e1,e2] at hp
  simpa using hp
 ·rw [List.pairwise_iff_getElem]
  intro i j hi hj hij
  have hj':j < l.length:=by simpa [hd] using hj
  have:=ho i j (Nat.zero_le _) hij hj'
  have gi:d[i]! = d.toList[i]:=by rw [getElem!_pos d i (by omega)]; simp
  have gj:d[j]! = d.toList[j]:=by rw [getElem!_pos d j (by omega)]; simp
  rw [gi,gj] at this
  simpa using this
theorem sortF_ok {α:Type} [Inhabited α] {c:α→α→Option Int} {cf:α→α→Int} (h:CmpIs c cf) {l:List α} (hl:l.length≤140737488355328):∃r,sortF c l=some r∧r.Perm l∧r.Pairwise (fun x y=>¬cf y x < 0) :=
 ⟨_,sortF_eq h hl,sortBy_spec h.2 l⟩
end Go.Cat
set_option linter.all false
namespace Go.Cat
theorem Tot.each {β σ ρ:Type} {l:List β} {B:Int×σ→Option ((Int×σ)⊕ρ)} (I:Nat→σ→Prop) {Q:ρ→Prop}
  (h1:∀(n:Nat) (x:β) (a:σ),n < l.length→l[n]?=some x→I n a→Tot (B ((n:Int),a)) (RdP (fun s=>s.1=(n:Int)+1∧I (n+1) s.2) Q))
  (h2:∀a,I l.length a→Tot (B ((l.length:Int),a)) (RdP (fun _=>False) Q)) (a:σ) (h0:I 0 a):Tot (Cat.loop B (0,a)) Q:=by
 refine Tot.loop (fun s:Int×σ=>∃n:Nat,s.1=n∧n≤l.length∧I n s.2) (fun s=>l.length+1 - s.1.toNat) ?_ (0,a) ⟨0,rfl,Nat.zero_le _,h0⟩
 rintro ⟨i,a⟩ ⟨n,rfl,hn,hi⟩
 rcases Nat.lt_or_ge n l.length with hlt | hge
 ·refine (h1 n _ a hlt (List.getElem?_eq_getElem hlt) hi).mono fun y hy=>?_
  cases y with
  | inl s=>exact ⟨⟨n+1,hy.1,hlt,hy.2⟩,by show l.length+1 - s.1.toNat < _; rw [hy.1]; simp only; omega⟩
  | inr r=>exact hy
 ·obtain rfl:n=l.length:=by omega
  refine (h2 a hi).mono fun y hy=>?_
  cases y with
  | inl s=>exact hy.elim
  | inr r=>exact hy
theorem Tot.each' {β σ ρ:Type} {l:List β} {B:σ×Int→Option ((σ×Int)⊕ρ)} (I:Nat→σ→Prop) {Q:ρ→Prop}
  (h1:∀(n:Nat) (x:β) (a:σ),n < l.length→l[n]?=some x→I n a→Tot (B (a,(n:Int))) (RdP (fun s=>s.2=(n:Int)+1∧I (n+1) s.1) Q))
  (h2:∀a,I l.length a→Tot (B (a,(l.length:Int))) (RdP (fun _=>False) Q)) (a:σ) (h0:I 0 a):Tot (Cat.loop B (a,0)) Q:=by
 refine Tot.loop (fun s:σ×Int=>∃n:Nat,s.2=n∧n≤l.length∧I n s.1) (fun s=>l.length+1 - s.2.toNat) ?_ (a,0) ⟨0,rfl,Nat.zero_le _,h0⟩
 rintro ⟨a,i⟩ ⟨n,rfl,hn,hi⟩
 rcases Nat.lt_or_ge n l.length with hlt | hge
 ·refine (h1 n _ a hlt (List.getElem?_eq_getElem hlt) hi).mono fun y hy=>?_
  cases y with
  | inl s=>exact ⟨⟨n+1,hy.1,hlt,hy.2⟩,by show l.length+1 - s.2.toNat < _; rw [hy.1]; simp only; omega⟩
  | inr r=>exact hy
 ·obtain rfl:n=l.length:=by omega
  refine (h2 a hi).mono fun y hy=>?_
  cases y with
  | inl s=>exact hy.elim
  | inr r=>exact hy
theorem Tot.each0 {β ρ:Type} {l:List β} {B:Int→Option (Int⊕ρ)} (I:Nat→Prop) {Q:ρ→Prop}
  (h1:∀(n:Nat) (x:β),n < l.length→l[n]?=some x→I n→Tot (B (n:Int)) (RdP (fun s=>s=(n:Int)+1∧I (n+1)) Q))
  (h2:I l.length→Tot (B (l.length:Int)) (RdP (fun _=>False) Q)) (h0:I 0):Tot (Cat.loop B 0) Q:=by
 refine Tot.loop (fun s:Int=>∃n:Nat,s=n∧n≤l.length∧I n) (fun s=>l.length+1 - s.toNat) ?_ 0 ⟨0,rfl,Nat.zero_le _,h0⟩
 rintro i ⟨n,rfl,hn,hi⟩
 rcases Nat.lt_or_ge n l.length with hlt | hge
 ·refine (h1 n _ hlt (List.getElem?_eq_getElem hlt) hi).mono fun y hy=>?_
  cases y with
  | inl s=>exact ⟨⟨n+1,hy.1,hlt,hy.2⟩,by obtain ⟨rfl,_⟩:=hy; omega⟩
  | inr r=>exact hy
 ·obtain rfl:n=l.length:=by omega
  refine (h2 hi).mono fun y hy=>?_
  cases y with
  | inl s=>exact hy.elim
  | inr r=>exact hy
theorem take_snoc {α:Type} {l:List α} {n:Nat} {x:α} (h:l[n]?=some x):l.take (n+1)=l.take n++[x]:=by
 rw [List.take_add_one,h]; rfl
theorem loop_has {β:Type} {l:List β} {B:Int→Option (Int⊕Bool)} (p:β→Bool)
  (h1:∀(n:Nat) (x:β),l[n]?=some x→n < l.length→B (n:Int)=if p x then some (.inr true) else some (.inl ((n:Int)+1)))
  (h2:B (l.length:Int)=some (.inr false)):loop B 0=some (l.any p):=by
 rw [loop_find p (fun _ _=>true) false h1 h2]
 refine congrArg some ?_
 cases h:l.findIdx? p with
 | none =>
  rw [List.findIdx?_eq_none_iff] at h
  symm
  rw [List.any_eq_false]
  intro x hx; simp [h x hx]
 | some n =>
  obtain ⟨hn,hp,_⟩:=List.findIdx?_eq_some_iff_getElem.1 h
  simp only [List.getElem?_eq_getElem hn]
  symm
  exact List.any_eq_true.2 ⟨_,List.getElem_mem hn,hp⟩
end Go.Cat
set_option linter.all false
namespace Go.Cat
def recN {α β:Type} (F:(α→Option β)→α→Option β):Nat→α→Option β
 | 0,_=>none
 | n+1,a=>F (recN F n) a
def RMono {α β:Type} (F:(α→Option β)→α→Option β):Prop:=∀f g:α→Option β,(∀a r,f a=some r→g a=some r)→∀a r,F f a=some r→F g a=some r
theorem recN_mono {α β:Type} {F:(α→Option β)→α→Option β} (hF:RMono F):∀{n m:Nat},n≤m→∀a r,recN F n a=some r→recN F m a=some r
 | 0,_,_,_,_,h=>by cases h
 | n+1,0,hm,_,_,_=>by omega
 | n+1,m+1,hm,a,r,h=>hF _ _ (recN_mono hF (Nat.le_of_succ_le_succ hm)) a r h
open Classical in
noncomputable def fixO {α β:Type} (F:(α→Option β)→α→Option β) (a:α):Option β:=if h:∃r n,recN F n a=some r then some h.choose else none
theorem fixO_some {α β:Type} {F:(α→Option β)→α→Option β} {a:α} {r:β} (h:fixO F a=some r):∃n,recN F n a=some r:=by
 unfold fixO at h
 split at h
 ·next hex=>cases h; exact hex.choose_spec
 ·cases h
theorem fixO_of {α β:Type} {F:(α→Option β)→α→Option β} (hF:RMono F) {a:α} {r:β} {n:Nat} (h:recN F n a=some r):fixO F a=some r:=by
 have hex:∃r n,recN F n a=some r:=⟨r,n,h⟩
 unfold fixO
 rw [dif_pos hex]
 obtain ⟨m,hm⟩:=hex.choose_spec
 have h1:=recN_mono hF (Nat.le_max_left n m) a _ h
 have h2:=recN_mono hF (Nat.le_max_right n m) a _ hm
 rw [h1] at h2
 exact h2.symm
theorem fixO_ind {α β:Type} {F:(α→Option β)→α→Option β} {p:α→β→Prop} (step:∀f:α→Option β,(∀a r,f a=some r→p a r)→∀a r,F f a=some r→p a r) {a:α} {r:β} (h:fixO F a=some r):p a r:=by
 obtain ⟨n,h⟩:=fixO_some h
 have:∀n a r,recN F n a=some r→p a r:=by
  intro n
  induction n with
  | zero=>intro a r h; cases h
  | succ n ih=>intro a r h; exact step _ ih a r h
 exact this n a r h
theorem Le0.loop2 {σ ρ:Type} {B B':σ→Option (σ⊕ρ)} (h:∀s,Le0 (B s) (B' s)) (s:σ):Le0 (Cat.loop B s) (Cat.loop B' s):=fun r hr=>by
 obtain ⟨n,hn⟩:=loop_some hr
 exact Le0.loop h n s r hn
theorem Le0.fix {α β:Type} {F F':(α→Option β)→α→Option β} (hm:RMono F) (h:∀f g:α→Option β,(∀a,Le0 (f a) (g a))→∀a,Le0 (F' f a) (F g a)) (n:Nat) (a:α):Le0 (recN F' n a) (fixO F a):=fun r hr=>by
 have:∀n a,Le0 (recN F' n a) (recN F n a):=by
  intro n
  induction n with
  | zero=>intro a; exact Le0.refl _
  | succ n ih=>intro a; exact h _ _ ih a
 exact fixO_of hm (this n a r hr)
end Go.Cat
