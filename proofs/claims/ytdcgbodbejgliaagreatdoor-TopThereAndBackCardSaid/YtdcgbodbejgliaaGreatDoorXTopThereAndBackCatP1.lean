/- The logic that the walks are in, piece P1. No condition. -/
import GoSem.Core.View
import GoSem.Core.Utf8
import Derived.Sort.AssemblyPlain
import Derived.Lib.BitFns
open Option renaming some->V
open BitVec renaming ofInt->j0
open Go.Lib renaming bitLen->RE
open List renaming getElem?_eq_getElem->bD,getElem_mem->eA,drop_eq_nil_of_le->kN,drop_eq_getElem_cons->rO
open Nat renaming lt_or_ge->fa,zero_le->iE,le_max_right->ak4,le_max_left->ak5
open Option.some renaming inj->iP
namespace Go.Cat
set_option linter.all false
section
inductive LS where
 |jb|Lw|ret|ex (i:Nat)
deriving DecidableEq
def LS.vV:LS->Bool
 |.jb=>true
 |_=>false
def ae(n:Int):Prop:=-9223372036854775808<=n/\n<=9223372036854775807
instance(n:Int):Decidable (ae n):=inferInstanceAs (Decidable (_/\_))
def χ(p:Prop)[Decidable p]{ρ:Type}(x:Option ρ):Option ρ:=if p then x else none
def aq{p:Prop}[Decidable p]{ρ:Type}{x:Option ρ}{r:ρ}(h:χ p x=V r):p/\x=V r:=by
 unfold χ at h;split at h
 .exact⟨‹_›,h⟩
 .cases h
def dW{p:Prop}[Decidable p]{ρ:Type}{x:Option ρ}(h:p):χ p x=x:=if_pos h
def idx{α:Type}(l:List α)(i:Int):Option α:=if 0<=i then l[i.toNat]? else none
def aO{α:Type}{l:List α}{i:Int}{x:α}(h:idx l i=V x):i=(i.toNat:Int):=by
 unfold idx at h;split at h
 .omega
 .cases h
def Ba{α:Type}{l:List α}{i:Int}{x:α}(h:idx l i=V x):l[i.toNat]?=V x:=by
 unfold idx at h;split at h
 .exact h
 .cases h
def adX{α:Type}{l:List α}{i:Int}{x:α}(h:idx l i=V x):i.toNat<l.length:=(List.getElem?_eq_some_iff.1 (Ba h)).1
def adY{α:Type}{l:List α}{n:Nat}:idx l (n:Int)=l[n]?:=by simp[idx]
def ι{α β:Type}{o:Option α}{f:α->Option β}{r:β}(h:o.bind f=V r):∃x,o=V x/\f x=V r:=Option.bind_eq_some_iff.1 h
def gF{σ ρ:Type}(B:σ->Option (σ⊕ρ)):Nat->σ->Option ρ
 |0,_=>none
 |n+1,s=>match B s with
  |none=>none
  |some (.inl s')=>gF B n s'
  |some (.inr r)=>V r
def Og{σ ρ:Type}{B:σ->Option (σ⊕ρ)}{r:ρ}:∀{n m:Nat}{s:σ},gF B n s=V r->n<=m->gF B m s=V r
 |0,_,_,h,_=>by cases h
 |n+1,0,_,_,hm=>by omega
 |n+1,m+1,s,h,hm=>by
  simp only[gF]at h ⊢;cases hB:B s with
  |none=>rw[hB]at h;cases h
  |some x =>
   rw[hB]at h;cases x with
   |inl s'=>exact Og h (by omega)
   |inr r'=>exact h
class LK where
 n:Option Nat
open Classical in
noncomputable def loop [K:LK] {σ ρ:Type} (B:σ->Option (σ⊕ρ)) (s:σ):Option ρ:=match K.n with
 |some n=>gF B n s
 |none=>if h:∃r n,gF B n s=V r then V h.choose else none
def Iv[K:LK]{σ ρ:Type}{B:σ->Option (σ⊕ρ)}{s:σ}{r:ρ}(h:loop B s=V r):∃n,gF B n s=V r:=by
 unfold loop at h;split at h
 .exact⟨_,h⟩
 split at h
 .rename_i hex;cases h;exact hex.choose_spec
 .cases h
instance akQ:LK:=⟨none⟩
abbrev VZ:LK:=⟨V 300⟩
open Classical in
def Oi{σ ρ:Type}{B:σ->Option (σ⊕ρ)}{s:σ}{r:ρ}{n:Nat}(h:gF B n s=V r):loop B s=V r:=by
 have hex:∃r n,gF B n s=V r:=⟨r,n,h⟩;show(if h:∃r n,gF B n s=V r then V h.choose else none)=_;rw[dif_pos hex];obtain⟨m,hm⟩:=hex.choose_spec;have h1:=Og h (ak5 n m);have h2:=Og hm (ak4 n m);rw[h1]at h2;exact h2.symm
def V1{σ ρ:Type}{B:σ->Option (σ⊕ρ)}{s:σ}(h:∀n r,gF B n s≠V r):loop B s=none:=by
 cases hl:loop B s with
 |none=>rfl
 |some r=>obtain⟨n,hn⟩:=Iv hl;exact(h n r hn).elim
def Oh{σ ρ:Type}(B:σ->Option (σ⊕ρ))(s:σ):loop B s=(B s).bind λx=>match x with|.inl s'=>loop B s'|.inr r=>V r:=by
 cases hB:B s with
 |none =>
  refine V1 λn r h=>?_;cases n with
  |zero=>cases h
  |succ n=>simp[gF,hB]at h
 |some x =>
  cases x with
  |inr r=>exact Oi (n:=1) (by simp[gF,hB])
  |inl s' =>
   simp only[Option.bind_some];cases hl:loop B s' with
   |some r =>
    obtain⟨n,hn⟩:=Iv hl;exact Oi (n:=n+1) (by simp[gF,hB,hn])
   |none =>
    refine V1 λn r h=>?_;cases n with
    |zero=>cases h
    |succ n =>
     simp only[gF,hB]at h;rw[Oi h]at hl;cases hl
def ry{σ ρ:Type}{B:σ->Option (σ⊕ρ)}{s s':σ}(h:B s=V (.inl s')):loop B s=loop B s':=by rw[Oh,h];rfl
def kJ{σ ρ:Type}{B:σ->Option (σ⊕ρ)}{s:σ}{r:ρ}(h:B s=V (.inr r)):loop B s=V r:=by rw[Oh,h];rfl
def out{σ ρ:Type}(x:Option ρ):Option (σ⊕ρ):=x.map .inr
def Wp{σ ρ:Type}{x:Option ρ}{y:σ⊕ρ}(h:out x=V y):∃r,x=V r/\y=.inr r:=by
 unfold out at h;cases x with
 |none=>cases h
 |some r=>cases h;exact⟨r,rfl,rfl⟩
def ve{α:Type}(l:List α)(n:Nat):Option (List α):=χ ((([]:List α).length+l.length)*n<=140737488355328) (V (([]:List α)++l))
def G4{α:Type}{l r:List α}{n:Nat}(h:ve l n=V r):∀b:Bool,(b=true->l=[])->(if b then V ([]:List α)else χ ((([]:List α).length+l.length)*n<=140737488355328) (V (([]:List α)++l)))=V r
 |false,_=>h
 |true,hl=>by
  obtain⟨-,h⟩:=aq h;rw[hl rfl]at h;exact h
def SG{α:Type}{l:List α}{n:Nat}(h:l.length*n<=140737488355328):ve l n=V l:=by
 unfold ve;rw[dW (by simpa using h)];rfl
def dA{α:Type}(x y:Option α):Prop:=∀r,x=V r->y=V r
def dA.refl{α:Type}(x:Option α):dA x x:=λ_ h=>h
def dA.bind{α β:Type}{x y:Option α}{f g:α->Option β}(h:dA x y)(hf:∀a,dA (f a) (g a)):dA (x.bind f) (y.bind g):=λr hr=>by
 obtain⟨a,ha,hb⟩:=ι hr;rw[h a ha];exact hf a r hb
def dA.χ{α:Type}{p:Prop}[Decidable p]{x y:Option α}(h:dA x y):dA (Cat.χ p x) (Cat.χ p y):=λr hr=>by
 obtain⟨hp,hx⟩:=aq hr;rw[dW hp];exact h r hx
def dA.ite{α:Type}{p:Prop}[Decidable p]{x y x' y':Option α}(h:dA x y)(h':dA x' y'):dA (if p then x else x') (if p then y else y'):=by
 split
 .exact h
 .exact h'
def dA.out{σ ρ:Type}{x y:Option ρ}(h:dA x y):dA (Cat.out (σ:=σ) x) (Cat.out y):=λr hr=>by
 obtain⟨a,ha,rfl⟩:=Wp hr;rw[h a ha];rfl
def dA.loop{σ ρ:Type}{B B':σ->Option (σ⊕ρ)}(h:∀s,dA (B s) (B' s)):∀(n:Nat)(s:σ),dA (gF B n s) (Cat.loop B' s)
 |0,_=>λ_ hr=>by cases hr
 |n+1,s=>λr hr=>by
  simp only[gF]at hr;rw[Oh];cases hB:B s with
  |none=>rw[hB]at hr;cases hr
  |some x =>
   rw[hB]at hr;rw[h s x hB];cases x with
   |inl s'=>exact dA.loop h n s' r hr
   |inr r'=>exact hr
def ei{α:Type}(n:Int):List (Int×α)->Option α
 |[]=>none
 |(k,c)::r=>if k=n then V c else ei n r
def fh{α:Type}(n:Int)(v:α):List (Int×α)->List (Int×α)
 |[]=>[(n,v)]
 |(k,c)::r=>if k=n then(k,v)::r else(k,c)::fh n v r
def Ol{α β:Type}(f:α->β)(n:Int):∀l:List (Int×α),ei n (l.map λp=>(p.1,f p.2))=(ei n l).map f
 |[]=>rfl
 |(k,c)::r=>by
  simp only[List.map_cons,ei];split
  .rfl
  .exact Ol f n r
def kK{α β:Type}(f:α->β)(n:Int)(v:α):∀l:List (Int×α),fh n (f v) (l.map λp=>(p.1,f p.2))=(fh n v l).map λp=>(p.1,f p.2)
 |[]=>rfl
 |(k,c)::r=>by
  simp only[List.map_cons,fh];split
  .rfl
  .rw[kK f n v r];rfl
def Eo{α:Type}(n:Int)(v:α):∀l:List (Int×α),(ei n l=none/\fh n v l=l++[(n,v)]/\∀p,p∈l->p.1≠n) \/
  ∃(j:Nat) (c:α),l[j]?=V (n,c)/\ei n l=V c/\fh n v l=l.set j (n,v)/\∀(i:Nat)p,i<j->l[i]?=V p->p.1≠n
 |[]=>.inl ⟨rfl,rfl,λ_ h=>by cases h⟩
 |(k,c)::r=>by
  simp only[ei,fh];split
  .rename_i h;subst h;exact .inr ⟨0,c,rfl,rfl,rfl,λi p hi=>by omega⟩
  .rename_i h
   rcases Eo n v r with⟨h1,h2,h3⟩|⟨j,c',h1,h2,h3,h4⟩
   .refine .inl ⟨h1,by rw[h2];rfl,λp hp=>?_⟩
    rcases List.mem_cons.1 hp with rfl|hp
    .exact h
    .exact h3 p hp
   .refine .inr ⟨j+1,c',h1,h2,by rw[h3];rfl,λi p hi hp=>?_⟩;cases i with
    |zero=>simp at hp;rw[<-hp];exact h
    |succ i=>exact h4 i p (by omega) (by simpa using hp)
def zr(k:IntKind)(a b:Int):Int:=k.wrap (a*2 ^ (min b.toNat k.bits))
def gS(k:IntKind)(a b:Int):Int:=a.fdiv (2 ^ (min b.toNat k.bits))
def Sp(k:IntKind)(a b:Int):Int:=k.wrap (j0 k.bits a &&& j0 k.bits b).toNat
def Eu(k:IntKind)(a b:Int):Int:=k.wrap (j0 k.bits a ||| j0 k.bits b).toNat
def Rj(k:IntKind)(a b:Int):Int:=k.wrap (j0 k.bits a ^^^ j0 k.bits b).toNat
def nt(n:Int):UInt8:=UInt8.ofNat (n % 256).toNat
def YL(n:Int):((nt n).toNat:Int)=n % 256:=by
 unfold nt;rw[UInt8.toNat_ofNat'];have:=Int.emod_nonneg n (by decide:(256:Int)≠0);have:=Int.emod_lt_of_pos n (by decide:(0:Int)<256);omega
def sub{α:Type}(l:List α)(a b:Int):List α:=(l.take b.toNat).drop a.toNat
abbrev pA(l:List UInt8)(i:Nat):Nat×Nat:=Utf8.decode ⟨l.toArray⟩ i
def fH{α ρ:Type}(x:Int⊕α)(p:Int->Option ρ)(k:α->Option ρ):Option ρ:=
 match x with
 |.inl e=>p e
 |.inr y=>k y
def iy{α ρ:Type}{x:Int⊕α}{p:Int->Option ρ}{k:α->Option ρ}{r:ρ}{e:Int}(h:fH x p k=V r)(he:x=.inl e):p e=V r:=by subst he;exact h
def iz{α ρ:Type}{x:Int⊕α}{p:Int->Option ρ}{k:α->Option ρ}{r:ρ}{y:α}(h:fH x p k=V r)(he:x=.inr y):k y=V r:=by subst he;exact h
def dA.fH{α ρ:Type}{x:Int⊕α}{p p':Int->Option ρ}{k k':α->Option ρ}(hp:∀e,dA (p e) (p' e))(hk:∀y,dA (k y) (k' y)):dA (Cat.fH x p k) (Cat.fH x p' k'):=by
 cases x with
 |inl e=>exact hp e
 |inr y=>exact hk y
def mR:List UInt8->List UInt8->Int
 |[],[]=>0
 |[],_::_=>-1
 |_::_,[]=>1
 |a::as,b::bs=>if a<b then -1 else if b<a then 1 else mR as bs
def ni:List UInt8->UInt8->Int
 |[],_=>-1
 |b::l,c=>if b==c then 0 else if ni l c == -1 then -1 else ni l c+1
def ke(l:List (List UInt8))(sep:List UInt8):List UInt8:=sep.intercalate l
def eQ{α:Type}(l:List α)(i:Int)(x:List α):List α:=l.take i.toNat++x++l.drop i.toNat
def kU{α:Type}(l:List α)(i j:Int):List α:=l.take i.toNat++l.drop j.toNat
def Ih{α β:Type}(f:α->β)(l:List α)(i:Int)(x:List α):eQ (l.map f) i (x.map f)=(eQ l i x).map f:=by simp[eQ,List.map_take,List.map_drop]
def G6{α β:Type}(f:α->β)(l:List α)(i j:Int):kU (l.map f) i j=(kU l i j).map f:=by simp[kU,List.map_take,List.map_drop]
end
section
def ε{α:Type}(x:Option α)(Q:α->Prop):Prop:=∃r,x=V r/\Q r
def ε.ret{α:Type}{a:α}{Q:α->Prop}(h:Q a):ε (V a) Q:=⟨a,rfl,h⟩
def ε.mono{α:Type}{x:Option α}{Q R:α->Prop}(h:ε x Q)(hm:∀a,Q a->R a):ε x R:=let⟨r,e,q⟩:=h;⟨r,e,hm r q⟩
def ε.bind{α β:Type}{x:Option α}{f:α->Option β}{R:α->Prop}{Q:β->Prop}(h:ε x R)(hf:∀a,R a->ε (f a) Q):ε (x.bind f) Q:=by
 obtain⟨a,rfl,ha⟩:=h;exact hf a ha
def ε.af{α β:Type}{x:Option α}{f:α->Option β}{a:α}{Q:β->Prop}(h:x=V a)(hf:ε (f a) Q):ε (x.bind f) Q:=by
 subst h;exact hf
def ε.χ{α:Type}{p:Prop}[Decidable p]{x:Option α}{Q:α->Prop}(hp:p)(h:ε x Q):ε (Cat.χ p x) Q:=by rw[dW hp];exact h
def ε.ite{α:Type}{p:Prop}[Decidable p]{x y:Option α}{Q:α->Prop}(h:p->ε x Q)(h':¬p->ε y Q):ε (if p then x else y) Q:=by
 split
 .exact h ‹_›
 .exact h' ‹_›
def qc{σ ρ:Type}(P:σ->Prop)(Q:ρ->Prop):σ⊕ρ->Prop
 |.inl s=>P s
 |.inr r=>Q r
def ε.out{σ ρ:Type}{x:Option ρ}{P:σ->Prop}{Q:ρ->Prop}(h:ε x Q):ε (Cat.out x) (qc P Q):=by
 obtain⟨a,rfl,ha⟩:=h;exact⟨.inr a,rfl,ha⟩
def ε.inl{σ ρ:Type}{s:σ}{P:σ->Prop}{Q:ρ->Prop}(h:P s):ε (V (.inl s)) (qc P Q):=⟨_,rfl,h⟩
def ε.loop{σ ρ:Type}{B:σ->Option (σ⊕ρ)}{Q:ρ->Prop}(P:σ->Prop)(m:σ->Nat)
  (hB:∀s,P s->ε (B s) (qc (λs'=>P s'/\m s'<m s) Q)):∀s,P s->ε (Cat.loop B s) Q:=by
 have:∀n s,m s<n->P s->ε (Cat.loop B s) Q:=by
  intro n;induction n with
  |zero=>intro s h;omega
  |succ n ih =>
   intro s hn hs;obtain⟨y,hy,hq⟩:=hB s hs;cases y with
   |inl s'=>rw[ry hy];exact ih s' (by have:=hq.2;omega) hq.1
   |inr r=>rw[kJ hy];exact⟨r,rfl,hq⟩
 exactλs hs=>this _ s (Nat.lt_succ_self _) hs
def ε.idx{α:Type}{l:List α}{i:Int}{Q:α->Prop}(h0:0<=i)(h1:i<l.length)(h:∀x,l[i.toNat]?=V x->Q x):ε (Cat.idx l i) Q:=by
 have hl:i.toNat<l.length:=by omega
 refine⟨l[i.toNat],?_,h _ (bD hl)⟩;unfold Cat.idx;rw[if_pos h0,bD hl]
def ε.eq{α:Type}{x:Option α}{a:α}(h:ε x (·=a)):x=V a:=by
 obtain⟨r,e,q⟩:=h;rw[e,q]
def ε.of{α:Type}{x:Option α}{a:α}(h:x=V a):ε x (·=a):=⟨a,h,rfl⟩
def cF(P:Prop)(b:Bool):Prop:=b=true↔P
def ε.GO{a:Bool}{P Q:Prop}{y:Option Bool}(h:a=true↔P)(hy:P->ε y (cF Q)):ε (if a=true then y else V false) (cF (P/\Q)):=
 ε.ite (λha=>(hy (h.1 ha)).mono λ_ hb=>⟨λe=>⟨h.1 ha,hb.1 e⟩,λe=>hb.2 e.2⟩) (λha=>ε.ret ⟨λe=>(by cases e),λe=>(ha (h.2 e.1)).elim⟩)
def ε.dec{p:Prop}[Decidable p]{P:Prop}(h:p↔P):ε (V (decide p)) (cF P):=ε.ret (decide_eq_true_iff.trans h)
def ε.is{b:Bool}{P:Prop}(h:b=true↔P):ε (V b) (cF P):=ε.ret h
def aew{α β ρ:Type}{b:List β}{B:α×Int->Option ((α×Int)⊕ρ)}(g:α->β->α)(I:α->Prop)(fin:α->ρ)
  (h1:∀(a:α)(n:Nat)(x:β),I a->b[n]?=V x->n<b.length->B (a,(n:Int))=V (.inl (g a x,(n:Int)+1)))
  (hI:∀a x,x∈b->I a->I (g a x))
  (h2:∀a,I a->B (a,(b.length:Int))=V (.inr (fin a))):∀a,I a->loop B (a,0)=V (fin (b.foldl g a)):=by
 have key:∀(l:List β)(n:Nat)(a:α),b.drop n=l->n<=b.length->I a->loop B (a,(n:Int))=V (fin (l.foldl g a)):=by
  intro l;induction l with
  |nil =>
   intro n a hd hn ha
   have:n=b.length:=by have:=congrArg List.length hd;simp at this;omega
   subst this;exact kJ (h2 a ha)
  |cons x l ih =>
   intro n a hd hn ha
   have Ξ:n<b.length:=by
    rcases fa n b.length with h|h
    .exact h
    .rw[kN h]at hd;cases hd
   rw[rO Ξ]at hd;injection hd with hx hl;rw[ry (h1 a n x ha (by rw[bD Ξ,hx]) Ξ)];exact ih (n+1) (g a x) hl Ξ (hI a x (hx▸eA Ξ) ha)
 exactλa ha=>key b 0 a rfl (iE _) ha
def v8{β ρ:Type}{b:List β}{B:Int->Option (Int⊕ρ)}(p:β->Bool)(yes:Nat->β->ρ)(no:ρ)
  (h1:∀(n:Nat)(x:β),b[n]?=V x->n<b.length->B (n:Int)=if p x then V (.inr (yes n x))else V (.inl ((n:Int)+1)))
  (h2:B (b.length:Int)=V (.inr no)) :
  loop B 0=V (match b.findIdx? p with|some n=>(match b[n]? with|some x=>yes n x|none=>no)|none=>no):=by
 have key:∀(l:List β)(n:Nat),b.drop n=l->n<=b.length->loop B (n:Int)=V (match l.findIdx? p with|some k=>(match b[n+k]? with|some x=>yes (n+k) x|none=>no)|none=>no):=by
  intro l;induction l with
  |nil =>
   intro n hd hn
   have:n=b.length:=by have:=congrArg List.length hd;simp at this;omega
   subst this;exact kJ h2
  |cons x l ih =>
   intro n hd hn
   have Ξ:n<b.length:=by
    rcases fa n b.length with h|h
    .exact h
    .rw[kN h]at hd;cases hd
   rw[rO Ξ]at hd;injection hd with hx hl
   have hg:b[n]?=V x:=by rw[bD Ξ,hx]
   have h:=h1 n x hg Ξ;rw[List.findIdx?_cons];cases hp:p x with
   |true =>
    rw[hp]at h;rw[kJ h];simp[hg]
   |false =>
    rw[hp]at h;rw[ry h,show((n:Int)+1)=((n+1:Nat):Int)from rfl,ih (n+1) hl Ξ];cases hf:l.findIdx? p with
    |none=>simp
    |some k=>simp[Nat.add_comm,Nat.add_left_comm]
 have:=key b 0 rfl (iE _);simpa using this
def aW{β:Type}{b:List β}{n:Nat}{x:β}(h:b[n]?=V x):idx b (n:Int)=V x:=by rw[adY,h]
def aj0{k:IntKind}(hk:k.signed=false)(n:Int):k.wrap n=n % 2 ^ k.bits:=by simp[IntKind.wrap,hk]
def ajY{k:IntKind}(hk:k.signed=false){n:Nat}(h:n<2 ^ k.bits):k.wrap (n:Int)=n:=by
 rw[aj0 hk]
 have:((n:Int) % ((2 ^ k.bits:Nat):Int))=((n % 2 ^ k.bits:Nat):Int):=by simp
 rw[Nat.mod_eq_of_lt h]at this;simpa using this
def ag1{k:IntKind}{a b:Nat}(hb:b<=k.bits):gS k (a:Int) (b:Int)=((a>>>b:Nat):Int):=by
 unfold gS;rw[Int.toNat_natCast,Nat.min_eq_left hb,Nat.shiftRight_eq_div_pow]
 have:(2 ^ b:Int)=((2 ^ b:Nat):Int):=by simp
 rw[this,Int.fdiv_eq_ediv_of_nonneg _ (Int.natCast_nonneg _)];rfl
def ag0{a b:Nat}(hb:b<=64):gS .u64 (a:Int) (b:Int)=((a>>>b:Nat):Int):=ag1 hb
end
section
def yI{α β:Type}(f:α->β){n:Int}{l:List (Int×α)}{z x:α}(h:V ((ei n l).getD z)=V x):(ei n (l.map λp=>(p.1,f p.2))).getD (f z)=f x:=by
 rw[Ol,<-iP h];cases ei n l<;>rfl
def Bf{α β:Type}(f:α->β)(n:Int)(l:List (Int×α)):(ei n (l.map λp=>(p.1,f p.2))).isSome=(ei n l).isSome:=by
 rw[Ol];cases ei n l<;>rfl
end
section
open Go.Sort
def rQ{α:Type}(c:α->α->Option Int)(cf:α->α->Int):Prop:=(∀x y,c x y=V (cf x y))/\SWO (λx y=>decide (cf x y<0))
def rQ.uniq{α:Type}{c:α->α->Option Int}{cf tr:α->α->Int}(h:rQ c cf)(h':rQ c tr):cf=tr:=
 funext λx=>funext λy=>iP ((h.1 x y).symm.trans (h'.1 x y))
def zw{α:Type}[Inhabited α](cf:α->α->Int)(l:List α):List α:=(pdq (λx y=>decide (cf x y<0)) l.toArray 0 l.length (RE l.length) true true).toList
open Classical in
def ahc{α:Type}[Inhabited α]{cf:α->α->Int}(h:SWO (λx y=>decide (cf x y<0)))(l:List α):(zw cf l).Perm l/\(zw cf l).Pairwise (λx y=>¬cf y x<0):=by
 have hs:=pdq_sorts (λx y=>decide (cf x y<0)) h l.toArray 0 l.length (RE l.length) true true (iE _) (by simp) (Or.inl rfl);obtain⟨⟨bd,_,hp⟩,ho⟩:=hs;unfold zw;generalize pdq (λx y=>decide (cf x y<0)) l.toArray 0 l.length (RE l.length) true true=d at *
 have hd:d.size=l.length:=by simpa using bd
 refine⟨?_,?_⟩
 .have e1:d.extract 0 l.length=d:=by rw[<-hd];simp
  have e2:l.toArray.extract 0 l.length=l.toArray:=by simp
  rw[e1,e2]at hp;simpa using hp
 .rw[List.pairwise_iff_getElem];intro i j hi hj eX
  have jF:j<l.length:=by simpa [hd]using hj
  have:=ho i j (iE _) eX jF
  have gi:d[i]! = d.toList[i]:=by rw[getElem!_pos d i (by omega)];simp
  have gj:d[j]! = d.toList[j]:=by rw[getElem!_pos d j (by omega)];simp
  rw[gi,gj]at this;simpa using this
end
section
def ε.each{β σ ρ:Type}{l:List β}{B:Int×σ->Option ((Int×σ)⊕ρ)}(I:Nat->σ->Prop){Q:ρ->Prop}
  (h1:∀(n:Nat)(x:β)(a:σ),n<l.length->l[n]?=V x->I n a->ε (B ((n:Int),a)) (qc (λs=>s.1=(n:Int)+1/\I (n+1) s.2) Q))
  (h2:∀a,I l.length a->ε (B ((l.length:Int),a)) (qc (λ_=>False) Q)) (a:σ) (h0:I 0 a):ε (Cat.loop B (0,a)) Q:=by
 refine ε.loop (λs:Int×σ=>∃n:Nat,s.1=n/\n<=l.length/\I n s.2) (λs=>l.length+1-s.1.toNat) ?_ (0,a) ⟨0,rfl,iE _,h0⟩;rintro⟨i,a⟩ ⟨n,rfl,hn,hi⟩
 rcases fa n l.length with Ξ|eW
 .refine(h1 n _ a Ξ (bD Ξ) hi).mono λy hy=>?_;cases y with
  |inl s=>exact⟨⟨n+1,hy.1,Ξ,hy.2⟩,by show l.length+1-s.1.toNat<_;rw[hy.1];simp only;omega⟩
  |inr r=>exact hy
 .obtain rfl:n=l.length:=by omega
  refine(h2 a hi).mono λy hy=>?_;cases y with
  |inl s=>exact hy.elim
  |inr r=>exact hy
def ε.tE{β σ ρ:Type}{l:List β}{B:σ×Int->Option ((σ×Int)⊕ρ)}(I:Nat->σ->Prop){Q:ρ->Prop}
  (h1:∀(n:Nat)(x:β)(a:σ),n<l.length->l[n]?=V x->I n a->ε (B (a,(n:Int))) (qc (λs=>s.2=(n:Int)+1/\I (n+1) s.1) Q))
  (h2:∀a,I l.length a->ε (B (a,(l.length:Int))) (qc (λ_=>False) Q)) (a:σ) (h0:I 0 a):ε (Cat.loop B (a,0)) Q:=by
 refine ε.loop (λs:σ×Int=>∃n:Nat,s.2=n/\n<=l.length/\I n s.1) (λs=>l.length+1-s.2.toNat) ?_ (a,0) ⟨0,rfl,iE _,h0⟩;rintro⟨a,i⟩ ⟨n,rfl,hn,hi⟩
 rcases fa n l.length with Ξ|eW
 .refine(h1 n _ a Ξ (bD Ξ) hi).mono λy hy=>?_;cases y with
  |inl s=>exact⟨⟨n+1,hy.1,Ξ,hy.2⟩,by show l.length+1-s.2.toNat<_;rw[hy.1];simp only;omega⟩
  |inr r=>exact hy
 .obtain rfl:n=l.length:=by omega
  refine(h2 a hi).mono λy hy=>?_;cases y with
  |inl s=>exact hy.elim
  |inr r=>exact hy
def ε.pB{β ρ:Type}{l:List β}{B:Int->Option (Int⊕ρ)}(I:Nat->Prop){Q:ρ->Prop}
  (h1:∀(n:Nat)(x:β),n<l.length->l[n]?=V x->I n->ε (B (n:Int)) (qc (λs=>s=(n:Int)+1/\I (n+1)) Q))
  (h2:I l.length->ε (B (l.length:Int)) (qc (λ_=>False) Q)) (h0:I 0):ε (Cat.loop B 0) Q:=by
 refine ε.loop (λs:Int=>∃n:Nat,s=n/\n<=l.length/\I n) (λs=>l.length+1-s.toNat) ?_ 0 ⟨0,rfl,iE _,h0⟩;rintro i ⟨n,rfl,hn,hi⟩
 rcases fa n l.length with Ξ|eW
 .refine(h1 n _ Ξ (bD Ξ) hi).mono λy hy=>?_;cases y with
  |inl s=>exact⟨⟨n+1,hy.1,Ξ,hy.2⟩,by obtain⟨rfl,_⟩:=hy;omega⟩
  |inr r=>exact hy
 .obtain rfl:n=l.length:=by omega
  refine(h2 hi).mono λy hy=>?_;cases y with
  |inl s=>exact hy.elim
  |inr r=>exact hy
def h_{α:Type}{l:List α}{n:Nat}{x:α}(h:l[n]?=V x):l.take (n+1)=l.take n++[x]:=by
 rw[List.take_add_one,h];rfl
def ε.bb{b:Option Bool}{c:Bool}{α:Type}{f:Bool->Option α}{Q:α->Prop}(hb:b=V c)(h:ε (f c) Q):ε ((b.bind λc1=>V c1).bind f) Q:=by
 rw[hb];exact h
def aey{β:Type}{l:List β}{B:Int->Option (Int⊕Bool)}(p:β->Bool)
  (h1:∀(n:Nat)(x:β),l[n]?=V x->n<l.length->B (n:Int)=if p x then V (.inr true)else V (.inl ((n:Int)+1)))
  (h2:B (l.length:Int)=V (.inr false)):loop B 0=V (l.any p):=by
 rw[v8 p (λ_ _=>true) false h1 h2];refine congrArg V ?_;cases h:l.findIdx? p with
 |none =>
  rw[List.findIdx?_eq_none_iff]at h;symm;rw[List.any_eq_false];intro x hx;simp[h x hx]
 |some n =>
  obtain⟨hn,hp,_⟩:=List.findIdx?_eq_some_iff_getElem.1 h;simp only[bD hn];symm;exact List.any_eq_true.2 ⟨_,eA hn,hp⟩
end
section
def sP{α β:Type}(F:(α->Option β)->α->Option β):Nat->α->Option β
 |0,_=>none
 |n+1,a=>F (sP F n) a
def La{α β:Type}(F:(α->Option β)->α->Option β):Prop:=∀f g:α->Option β,(∀a r,f a=V r->g a=V r)->∀a r,F f a=V r->F g a=V r
def O6{α β:Type}{F:(α->Option β)->α->Option β}(hF:La F):∀{n m:Nat},n<=m->∀a r,sP F n a=V r->sP F m a=V r
 |0,_,_,_,_,h=>by cases h
 |n+1,0,hm,_,_,_=>by omega
 |n+1,m+1,hm,a,r,h=>hF _ _ (O6 hF (Nat.le_of_succ_le_succ hm)) a r h
open Classical in
noncomputable def Aq {α β:Type} (F:(α->Option β)->α->Option β) (a:α):Option β:=if h:∃r n,sP F n a=V r then V h.choose else none
def ace{α β:Type}{F:(α->Option β)->α->Option β}{a:α}{r:β}(h:Aq F a=V r):∃n,sP F n a=V r:=by
 unfold Aq at h;split at h
 .next hex=>cases h;exact hex.choose_spec
 .cases h
def acd{α β:Type}{F:(α->Option β)->α->Option β}(hF:La F){a:α}{r:β}{n:Nat}(h:sP F n a=V r):Aq F a=V r:=by
 have hex:∃r n,sP F n a=V r:=⟨r,n,h⟩;unfold Aq;rw[dif_pos hex];obtain⟨m,hm⟩:=hex.choose_spec;have h1:=O6 hF (ak5 n m) a _ h;have h2:=O6 hF (ak4 n m) a _ hm;rw[h1]at h2;exact h2.symm
def acb{α β:Type}{F:(α->Option β)->α->Option β}{p:α->β->Prop}(step:∀f:α->Option β,(∀a r,f a=V r->p a r)->∀a r,F f a=V r->p a r){a:α}{r:β}(h:Aq F a=V r):p a r:=by
 obtain⟨n,h⟩:=ace h
 have:∀n a r,sP F n a=V r->p a r:=by
  intro n;induction n with
  |zero=>intro a r h;cases h
  |succ n ih=>intro a r h;exact step _ ih a r h
 exact this n a r h
def dA.aeu{σ ρ:Type}{B B':σ->Option (σ⊕ρ)}(h:∀s,dA (B s) (B' s))(s:σ):dA (Cat.loop B s) (Cat.loop B' s):=λr hr=>by
 obtain⟨n,hn⟩:=Iv hr;exact dA.loop h n s r hn
end
end Go.Cat
