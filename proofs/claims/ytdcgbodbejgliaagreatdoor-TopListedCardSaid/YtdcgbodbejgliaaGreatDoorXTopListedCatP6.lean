/- The logic that the walks are in, piece P6. No condition. -/
import Derived.Test.YtdcgbodbejgliaaGreatDoorXTopListedCatP5
import Derived.Laws.AppendOwn
import Derived.Shelf.SlIterI.Nil
import Derived.Shelf.SortM.Plain
import Derived.Shelf.SortM.SortNone
import Derived.RangeFuncBox
import Derived.RangeFuncWrites
import Derived.RangeFuncLeaves
open Array renaming eq_empty_of_size_eq_zero → qR, getElem?_append → n_, getD → ug
open Bool renaming and_eq_true → bM, not_eq_true' → my
open Go.RowKit.Below renaming heap_alloc → N6
open Go.Target.collected renaming injEq → ahx
open Go.World renaming putObj_size → ju, putObj_heap_other → oi, putObj_heap_same → Hh, alloc_heap_new → Wq
open List renaming length_map → au, mem_cons_of_mem → cu, mem_cons → bp, getD → aY, mem_singleton → dV, all_eq_true → dJ, mem_map → cV, not_mem_nil → eI, getElem_mem → eH, pairwise_cons → iy, map_cons → eT, mem_cons_self → js, nodup_cons → gK, mem_append → iY, range → fM, eq_nil_of_length_eq_zero → oW, nodup_nil → oY, any_eq_false → um, mem_iff_getElem → zB, perm_cons → ahw
open Nat renaming mul_le_mul_right → bT, eq_of_beq_eq_true → cA, beq → aG, le_refl → bm, eq_zero_or_pos → nw, blt → ej, blt_eq → fY, beq_refl → iz, lt_of_lt_of_le → mJ, mul_comm → mL, not_lt → kZ, le_of_ble_eq_true → xb, ble → og, not_lt_zero → ahv
open Option.some renaming inj → j7, injEq → CU
namespace Go.Cat
set_option linter.all false
section
open Go.RowKit
variable [M:bU] [G:dC] [R:dW]
section
variable {P:Program}
def Fz.w {H:Hp} {id E K d:Nat} {rows:List (List AV)} (h:di id H=some (.own E K rows)):Fz H (.w id K d) (.s (rows.drop d)):=fun w F β u hI hr=>by
 obtain ⟨a,a',n,c,aj,hd,ha,rfl⟩:=hr.ub;have hm:=eE h
 rcases hI.holds _ _ hm with ⟨rfl,a2,hv⟩|⟨g,cap,cur,hv,hc,hg,hn,fG,hs,hK,hr⟩
 ·rw [aj] at hv;cases hv
  have:d=0:=by omega
  subst this;exact .s0
 ·rw [aj] at hv;cases hv
  have h0:aG c 0=false:=by cases c<;>first|rfl|omega
  have ek:=(ES (hI.holds _ _ hm) aj).2.2.2;obtain ⟨u,hu⟩:=ek
  have hlen:(rows.drop d).length=rows.length-d:=by simp
  by_cases ZN:d<c
  ·have ha:=ha ZN;subst ha
   have e:(Option.map (·.add (d*K)) (some (⟨g,0,none⟩:Addr)))=some ⟨g,d*K,none⟩:=by simp [Addr.add_lit]
   rw [e,←hlen]
   have jy:∀i,i<(rows.drop d).length→(rows.drop d).getD i []=rows.getD (d+i) []:=fun i hi=>by simp [aY,List.getElem?_drop]
   refine .s (off:=d*K) (k:=K) (u:=fun i j=>u (d+i) j) (.inr ⟨id,_,hm,by rw [aj];simp [bF,h0]⟩) (by omega) (by omega) (fun i hi=>?_) (fun i j hi hj=>?_) (fun i j hi hj=>?_) fun i j hi hj=>?_
   ·rw [jy i hi];exact hK _ (by omega)
   ·have:=(hu (d+i) j (by omega) hj).1;rw [←this];congr 2;rw [Nat.add_mul];omega
   ·exact (hu (d+i) j (by omega) hj).2.1
   ·rw [jy i hi];exact (hu (d+i) j (by omega) hj).2.2.frame (fun _ _=>rfl) fun _ h=>.inl h
  ·have I9:rows.length-d=0:=by omega
   have ah:c-d=0:=by omega
   have:rows.drop d=[]:=oW (by omega);rw [I9,ah,this];exact .s0
def Fz.wm {α:Type} {f:α→List AV} {l:List α} {H:Hp} {id E K d:Nat} (h:di id H=some (.own E K (l.map f))):Fz H (.w id K d) (.s ((l.drop d).map f)):=by
 rw [List.map_drop];exact Fz.w h
end
section
variable {P:Program}
def Wu (P:Program) (g k1:Nat):Prop:=∀(b:Nat) (w:World),
 Calls P g #[.map (some b)] w fun e w'=>e=.returned (.func (.func k1) #[] #[.pointer (some ⟨w.heap.size,0,none⟩)])∧∃T,w'=w.alloc (.cells #[.map (some b)] T)
def Θ.keys {g k1 id D:Nat} {ag:Bool} {rows:List (Int×List AV)} {st:ai} {k:AV→ai→Prop} (hS:Wu P g k1) (hE:oj P g) (hc:di id st.H=some (.mp ag rows)) (hD:ej D 1000=true) (aS:aG id D=false)
  (hk:k (.c (.func k1) [] [.b D 0]) (gq st D (.box [.m id]))):Θ P g [.m id] st k:=by
 refine ⟨hE,fun w F β vs hI hs hv=>?_⟩
 have Z9:id≠D:=fun e=>by rw [e,iz] at aS;cases aS
 obtain ⟨b,aj,hv0⟩:=(hv 0 (by simp)).vY
 have iI:vs=#[.map (some b)]:=by
  apply Array.ext
  ·simpa using hs
  ·intro i h1 h2;have h2:i<1:=h2
   have:i=0:=by omega
   subst this;simpa [ug,h1] using hv0
 subst iI;refine (hS b w).mono ?_;rintro e w' ⟨rfl,T,rfl⟩;have hb:=sz w (.cells #[.map (some b)] T);have eu:(w.alloc (.cells #[.map (some b)] T)).heap[w.heap.size]?=some (.cells #[.map (some b)] T):=(Go.MapKept.heap_alloc w _).1
 refine ⟨_,rfl,_,_,F,fun q=>if q=D then .pointer (some ⟨w.heap.size,0,none⟩) else β q,hk,.c rfl rfl (fun i hi=>by simp at hi) (fun i hi=>?_),ow (v:=.pointer (some ⟨w.heap.size,0,none⟩)) (by simpa using hD) hI hb.os hb.tape hb.output hb.size (fun b aH _=>hb.block b aH)
  (fun i c' b _ hm aH=>hb.block b (hI.fj ⟨i,c',hm,aH⟩)) (fun b aH=>.inl ?_) ?_⟩
 ·have hi:i<1:=by simpa using hi
  have:i=0:=by omega
  subst this;exact .b (by simp)
 ·simp [bF] at aH;omega
 ·refine ⟨w.heap.size,#[.map (some b)],T,by simp,eu,rfl,fun i hi=>?_,fun i hi=>?_⟩
  ·have hi:i<1:=by simpa using hi
   have:i=0:=by omega
   subst this;rfl
  ·have hi:i<1:=by simpa using hi
   have:i=0:=by omega
   subst this;exact .m (by simp [Z9,aj])
end
end
section
open Go.RowKit Go.Proofs Go.Shelf Go.Maps Go.Sort
open Go.WideElems (Fit rg)
end
section
variable [M:bU] [G:dC] [R:dW]
end
section
open Go.RowKit
variable [M:bU] [G:dC] [R:dW]
def cC:List (Nat×Nat)→Nat→Option Nat
 |[],_=>none
 |(i,j)::r,x=>bif aG x i then some j else cC r x
def at_mem {i j:Nat}:∀{m:List (Nat×Nat)},cC m i=some j→(i,j)∈m
 |[],h=>by cases h
 |(a,b)::r,h=>by
  simp only [cC] at h;cases hb:aG i a with
  |true=>rw [hb] at h;cases h;rw [cA hb];simp
  |false=>rw [hb] at h;exact cu _ (at_mem h)
def Dc {i j:Nat}:∀{m:List (Nat×Nat)},(m.map (·.1)).Nodup→(i,j)∈m→cC m i=some j
 |[],_,h=>by cases h
 |(a,b)::r,hn,h=>by
  simp only [eT,gK] at hn;simp only [cC]
  rcases bp.1 h with h|h
  ·cases h;rw [iz];rfl
  ·have:aG i a=false:=by
    cases hb:aG i a with
    |false=>rfl
    |true=>exact absurd (cV.2 ⟨_,h,cA hb⟩) hn.1
   rw [this];exact Dc hn.2 h
def rl (φ:Nat→Option Nat):Nat→AV→AV
 |n,x=>match x with
  |.b i o=>match φ i with
   |some j=>.b j o
   |none=>.χ
  |.o i=>match φ i with
   |some j=>.o j
   |none=>.χ
  |.e i K m o=>match φ i with
   |some j=>.e j K m o
   |none=>.χ
  |.w i K d=>match φ i with
   |some j=>.w j K d
   |none=>.χ
  |.m i=>match φ i with
   |some j=>.m j
   |none=>.χ
  |.a cs=>match n with
   |0=>.χ
   |n+1=>.a (cs.map (rl φ n))
  |.t cs=>match n with
   |0=>.χ
   |n+1=>.t (cs.map (rl φ n))
  |.c fn fs cs=>match n with
   |0=>.χ
   |n+1=>.c fn (fs.map (rl φ n)) (cs.map (rl φ n))
  |.v x=>.v x
  |.s r=>.s r
  |.p c=>.p c
  |.z=>.z
  |.χ=>.χ
def LN (φ:Nat→Option Nat):Chunk→Chunk
 |.box cells=>.box (cells.map (rl φ 2))
 |.own E k rows=>.own E k rows
 |.mp ag rows=>.mp ag rows
 |.lp l e R L=>.lp l e R (L.map fun p=>(p.1,rl φ 2 p.2))
 |.si s pos=>.si s pos
def gz (φ:Nat→Option Nat):Hp→Hp
 |[]=>[]
 |(i,c)::r=>match φ i with
  |some j=>(j,LN φ c)::gz φ r
  |none=>gz φ r
section
variable {P:Program} {T:TT} {w:World} {F:Nat→Prop} {β aw:Nat→Value}
def wA {φ:Nat→Option Nat} (aj:∀i j,φ i=some j→aw j=β i):∀(n:Nat) {x:AV} {u:Value},Rd w F β x u→Rd w F aw (rl φ n x) u:=by
 have one:∀{i:Nat} {f:Nat→AV} {u:Value},(∀j,φ i=some j→Rd w F aw (f j) u)→Rd w F aw (match φ i with|some j=>f j|none=>.χ) u:=fun h=>by
  split
  ·exact h _ (by assumption)
  ·exact .χ
 have leaf:∀{n:Nat} {x:AV} {u:Value},Rd w F β x u→(∀cs,x≠.a cs)→(∀cs,x≠.t cs)→(∀g fs cs,x≠.c g fs cs)→Rd w F aw (rl φ n x) u:=by
  intro n x u h h1 h2 h3;cases x with
  |v x=>cases h with|i h=>cases h;cases n<;>exact .i (.v (by assumption))
  |s r=>cases n<;>exact .i h.np
  |p c=>cases n<;>exact .i h.yx
  |z=>obtain ⟨a,rfl⟩:=h.wV;cases n<;>exact .i .z
  |χ=>cases n<;>exact .χ
  |a cs=>exact absurd rfl (h1 cs)
  |t cs=>exact absurd rfl (h2 cs)
  |c g fs cs=>exact absurd rfl (h3 g fs cs)
  |b i o =>
   obtain ⟨e9,hb,rfl⟩:=h.lh;cases n<;>exact one fun j hj=>.b ((aj i j hj).trans hb)
  |o i =>
   obtain ⟨a,k,c,hb,rfl⟩:=h.jo;cases n<;>exact one fun j hj=>.o ((aj i j hj).trans hb)
  |e i K m o =>
   obtain ⟨g,k,c,hb,rfl⟩:=h.xq;cases n<;>exact one fun j hj=>.e ((aj i j hj).trans hb)
  |w i K d =>
   obtain ⟨a,a',k,c,hb,hd,ha,rfl⟩:=h.ub;cases n<;>exact one fun j hj=>.w ((aj i j hj).trans hb) hd ha
  |m i =>
   obtain ⟨b,hb,rfl⟩:=h.vY;cases n<;>exact one fun j hj=>.m ((aj i j hj).trans hb)
 intro n;induction n with
 |zero =>
  intro x u h;cases x with
  |a cs=>exact .χ
  |t cs=>exact .χ
  |c g fs cs=>exact .χ
  |_=>exact leaf h (by simp) (by simp) (by simp)
 |succ n ih =>
  have get:∀(l:List AV) (i:Nat),i<l.length→(l.map (rl φ n)).getD i .χ=rl φ n (l.getD i .χ):=fun l i hi=>by simp [aY,hi]
  intro x u h;cases x with
  |a cs =>
   show Rd w F aw (.a (cs.map (rl φ n))) u;obtain ⟨us,rfl,hs,h1,hr⟩:=h.o8;refine .a (by simpa using hs) (fun i hi=>h1 i (by simpa using hi)) fun i hi=>?_
   have hi:i<cs.length:=by simpa using hi
   rw [get cs i hi];exact ih (hr i hi)
  |t cs =>
   show Rd w F aw (.t (cs.map (rl φ n))) u;obtain ⟨us,rfl,hs,hr⟩:=h.ze;refine .t (by simpa using hs) fun i hi=>?_
   have hi:i<cs.length:=by simpa using hi
   rw [get cs i hi];exact ih (hr i hi)
  |c g fs cs =>
   show Rd w F aw (.c g (fs.map (rl φ n)) (cs.map (rl φ n))) u;obtain ⟨us,vs,rfl,hs,dL,hr,cj⟩:=h.lT;refine .c (by simpa using hs) (by simpa using dL) (fun i hi=>?_) fun i hi=>?_
   ·have hi:i<fs.length:=by simpa using hi
    rw [get fs i hi];exact ih (hr i hi)
   ·have hi:i<cs.length:=by simpa using hi
    rw [get cs i hi];exact ih (cj i hi)
  |_=>exact leaf h (by simp) (by simp) (by simp)
def rlC_holds {φ:Nat→Option Nat} (aj:∀i j,φ i=some j→aw j=β i) {i j:Nat} (et:φ i=some j) {c:Chunk} (h:c.holds w F β i):(LN φ c).holds w F aw j:=by
 cases c with
 |box cells =>
  obtain ⟨b,cs,e,hb,hh,hs,h1,hr⟩:=h;refine ⟨b,cs,e,(aj i j et).trans hb,hh,by simpa using hs,fun q hq=>h1 q (by simpa using hq),fun q hq=>?_⟩
  have hq:q<cells.length:=by simpa using hq
  have:(cells.map (rl φ 2)).getD q .χ=rl φ 2 (cells.getD q .χ):=by simp [aY,hq]
  rw [this];exact wA aj 2 (hr q hq)
 |own E k rows=>exact nR (c:=.own E k rows) rfl (fun _ h=>h) (aj i j et) h
 |mp ag rows=>exact nR (c:=.mp ag rows) rfl (fun _ h=>h) (aj i j et) h
 |si s pos=>exact nR (c:=.si s pos) rfl (fun _ h=>h) (aj i j et) h
 |lp l e R L =>
  obtain ⟨fn,tmps,D,hb,hh,hn,hr⟩:=h;refine ⟨fn,tmps,D,(aj i j et).trans hb,hh,hn,fun p hp=>?_⟩;obtain ⟨q,hq,rfl⟩:=cV.1 hp;exact wA aj 2 (hr q hq)
def lI {φ:Nat→Option Nat} {j:Nat} {c:Chunk}:∀{H:Hp},(j,c)∈gz φ H→∃i c0,(i,c0)∈H∧φ i=some j∧c=LN φ c0
 |[],h=>by cases h
 |(i,c0)::r,h=>by
  simp only [gz] at h;split at h
  ·rename_i j' hj
   rcases bp.1 h with h|h
   ·cases h;exact ⟨i,c0,by simp,hj,rfl⟩
   ·obtain ⟨i',c',h1,h2⟩:=lI h;exact ⟨i',c',cu _ h1,h2⟩
  ·obtain ⟨i',c',h1,h2⟩:=lI h;exact ⟨i',c',cu _ h1,h2⟩
def Ln (m:List (Nat×Nat)) (x y:AV):Prop:=∀(w:World) (F:Nat→Prop) (β cT:Nat→Value) (u:Value),(∀i j,cC m i=some j→cT i=β j)→Rd w F β x u→Rd w F cT y u
inductive iA (m:List (Nat×Nat)):List AV→List AV→Prop where
 |nil:iA m [] []
 |cons {x y:AV} {xs ys:List AV} (h:Ln m x y) (t:iA m xs ys):iA m (x::xs) (y::ys)
def iA.spec {m:List (Nat×Nat)} {xs ys:List AV} (h:iA m xs ys):xs.length=ys.length∧∀i,i<xs.length→Ln m (xs.getD i .χ) (ys.getD i .χ):=by
 induction h with
 |nil=>exact ⟨rfl,fun i hi=>by simp at hi⟩
 |cons h t ih =>
  refine ⟨by simp [ih.1],fun i hi=>?_⟩;cases i with
  |zero=>simpa using h
  |succ i=>simpa using ih.2 i (by simpa using hi)
section
variable {m:List (Nat×Nat)}
def Ln.cq {x:AV} (h:jB x=true):Ln m x x:=fun _ _ _ _ _ _ hr=>.i (Ek h hr)
def Ln.χ {x:AV}:Ln m x .χ:=fun _ _ _ _ _ _ _=>.χ
def Ln.nil:Ln m (.v (.slice none 0 0)) (.s []):=fun _ _ _ _ _ _ hr=>by rw [hr.bA];exact .i .s0
def Ln.z:Ln m .z (.s []):=fun _ _ _ _ _ _ hr=>by obtain ⟨a,rfl⟩:=hr.wV;exact .i .s0
def Ln.b {i j off:Nat} (h:cC m i=some j):Ln m (.b j off) (.b i off):=fun _ _ _ _ _ aj hr=>by
 obtain ⟨e9,h1,rfl⟩:=hr.lh;exact .b ((aj i j h).trans h1)
def Ln.o {i j:Nat} (h:cC m i=some j):Ln m (.o j) (.o i):=fun _ _ _ _ _ aj hr=>by
 obtain ⟨a,n,c,h1,rfl⟩:=hr.jo;exact .o ((aj i j h).trans h1)
def Ln.mm {i j:Nat} (h:cC m i=some j):Ln m (.m j) (.m i):=fun _ _ _ _ _ aj hr=>by
 obtain ⟨b,h1,rfl⟩:=hr.vY;exact .m ((aj i j h).trans h1)
def Ln.a {xs ys:List AV} (h:iA m xs ys):Ln m (.a xs) (.a ys):=fun _ _ _ _ _ aj hr=>by
 obtain ⟨us,rfl,hs,h1,hu⟩:=hr.o8;obtain ⟨hl,hz⟩:=h.spec;exact .a (by omega) (fun i hi=>h1 i (by omega)) fun i hi=>hz i (by omega) _ _ _ _ _ aj (hu i (by omega))
def Ln.t {xs ys:List AV} (h:iA m xs ys):Ln m (.t xs) (.t ys):=fun _ _ _ _ _ aj hr=>by
 obtain ⟨us,rfl,hs,hu⟩:=hr.ze;obtain ⟨hl,hz⟩:=h.spec;exact .t (by omega) fun i hi=>hz i (by omega) _ _ _ _ _ aj (hu i (by omega))
def Ln.c {fn:Fn} {fs z_ cs zW:List AV} (h:iA m fs z_) (h':iA m cs zW):Ln m (.c fn fs cs) (.c fn z_ zW):=fun _ _ _ _ _ aj hr=>by
 obtain ⟨us,vs,rfl,hs,dL,hu,hv⟩:=hr.lT;obtain ⟨hl,hz⟩:=h.spec;obtain ⟨rB,iq⟩:=h'.spec;exact .c (by omega) (by omega) (fun i hi=>hz i (by omega) _ _ _ _ _ aj (hu i (by omega))) fun i hi=>iq i (by omega) _ _ _ _ _ aj (hv i (by omega))
end
def C7 (m:List (Nat×Nat)):List (Nat×AV)→List (Nat×AV)→Prop
 |[],[]=>True
 |(t,x)::a,(t',y)::b=>t=t'∧Ln m x y∧C7 m a b
 |_,_=>False
def C7.mem {m:List (Nat×Nat)}:∀{a b:List (Nat×AV)},C7 m a b→∀p,p∈b→∃x,(p.1,x)∈a∧Ln m x p.2
 |[],[],_,_,h=>by cases h
 |(t,x)::a,(t',y)::b,hh,p,h=>by
  obtain ⟨rfl,h1,h2⟩:=hh
  rcases bp.1 h with h|h
  ·subst h;exact ⟨x,js ..,h1⟩
  ·obtain ⟨x',h3,h4⟩:=h2.mem p h;exact ⟨x',cu _ h3,h4⟩
 |[],_::_,hh,_,_=>hh.elim
 |_::_,[],hh,_,_=>hh.elim
inductive Cn (m:List (Nat×Nat)):Chunk→Chunk→Prop where
 |refl {c:Chunk} (h:xl c=true):Cn m c c
 |box {a b:List AV} (h:iA m a b):Cn m (.box a) (.box b)
 |lp {l:Nat} {e e':LS} {R:RF} {a b:List (Nat×AV)} (he:e=e') (h:C7 m a b):Cn m (.lp l e R a) (.lp l e' R b)
def Cn.holds {m:List (Nat×Nat)} {c c0:Chunk} {i j:Nat} (h:Cn m c c0) (aj:∀i j,cC m i=some j→aw i=β j) (et:cC m i=some j) (hc:c.holds w F β j):c0.holds w F aw i:=by
 cases h with
 |refl h=>exact nR h (fun _ h=>h) (aj i j et) hc
 |box h =>
  obtain ⟨b,cs,e,hb,hh,hs,h1,hr⟩:=hc;obtain ⟨hl,hz⟩:=h.spec;exact ⟨b,cs,e,(aj i j et).trans hb,hh,by omega,fun q hq=>h1 q (by omega),fun q hq=>hz q (by omega) _ _ _ _ _ aj (hr q (by omega))⟩
 |lp he h =>
  subst he;obtain ⟨fn,tmps,D,hb,hh,hn,hr⟩:=hc;refine ⟨fn,tmps,D,(aj i j et).trans hb,hh,hn,fun p hp=>?_⟩;obtain ⟨x,hx,hz⟩:=h.mem p hp;exact hz _ _ _ _ _ aj (hr _ hx)
def ss (m:List (Nat×Nat)) (H:Hp):Hp→Prop
 |[]=>True
 |(i,c0)::r=>(∃j c,cC m i=some j∧di j H=some c∧Cn m c c0)∧ss m H r
def ss.mem {m:List (Nat×Nat)} {H:Hp}:∀{H0:Hp},ss m H H0→∀i c0,(i,c0)∈H0→∃j c,cC m i=some j∧(j,c)∈H∧Cn m c c0
 |[],_,_,_,h=>by cases h
 |(i,c0)::r,hh,i',c',h=>by
  rcases bp.1 h with h|h
  ·cases h;obtain ⟨j,c,h1,h2,h3⟩:=hh.1;exact ⟨j,c,h1,eE h2,h3⟩
  ·exact hh.2.mem i' c' h
def rf:List (Nat×Nat)→AV→AV
 |[],x=>x
 |p::r,x=>rf r (er 2 p.2 x)
def zZ:List (Nat×Nat)→Chunk→Chunk
 |[],c=>c
 |p::r,c=>zZ r (nG p.2 c)
def jF (m n:List (Nat×Nat)):Hp→Hp
 |[]=>[]
 |(i,c)::r=>bif (m.any fun p=>aG p.2 i)||(n.any fun p=>aG p.2 i) then jF m n r else (i,zZ n c)::jF m n r
def PS:∀{n:List (Nat×Nat)} {β:Nat→Value},(∀j,(∀p,p∈n→p.2≠j)→aw j=β j)→∀{x:AV} {u:Value},Rd w F β x u→Rd w F aw (rf n x) u
 |[],β,aj,x,u,h=>by
  have:aw=β:=funext fun j=>aj j fun p hp=>by cases hp
  rw [this];exact h
 |p::r,β,aj,x,u,h=>by
  refine PS (n:=r) (x:=er 2 p.2 x) (β:=fun j=>if j=p.2 then aw j else β j) (fun j hj=>?_) (qh (id:=p.2) (fun i hi=>if_neg hi) 2 h);show _=if j=p.2 then aw j else β j;by_cases vq:j=p.2
  ·rw [if_pos vq]
  ·rw [if_neg vq];exact aj j fun q hq=>by
    rcases bp.1 hq with rfl|hq
    ·exact fun e=>vq e.symm
    ·exact hj q hq
def erCL_holds {i:Nat}:∀{n:List (Nat×Nat)} {β:Nat→Value},(∀j,(∀p,p∈n→p.2≠j)→aw j=β j)→(∀p,p∈n→p.2≠i)→∀{c:Chunk},c.holds w F β i→(zZ n c).holds w F aw i
 |[],β,aj,_,c,h=>by
  have:aw=β:=funext fun j=>aj j fun p hp=>by cases hp
  rw [this];exact h
 |p::r,β,aj,hi,c,h=>by
  refine erCL_holds (n:=r) (c:=nG p.2 c) (β:=fun j=>if j=p.2 then aw j else β j) (fun j hj=>?_) (fun q hq=>hi q (cu _ hq)) (D7 (id:=p.2) (fun e=>hi p (by simp) e.symm) (fun i hi=>if_neg hi) h);show _=if j=p.2 then aw j else β j;by_cases vq:j=p.2
  ·rw [if_pos vq]
  ·rw [if_neg vq];exact aj j fun q hq=>by
    rcases bp.1 hq with rfl|hq
    ·exact fun e=>vq e.symm
    ·exact hj q hq
def LM {m n:List (Nat×Nat)} {i:Nat} {c:Chunk}:∀{H:Hp},(i,c)∈jF m n H→∃c0,(i,c0)∈H∧c=zZ n c0∧(∀p,p∈m→p.2≠i)∧∀p,p∈n→p.2≠i
 |[],h=>by cases h
 |(k,c0)::r,h=>by
  simp only [jF] at h;cases hb:((m.any fun p=>aG p.2 k)||(n.any fun p=>aG p.2 k)) with
  |true =>
   rw [hb] at h;obtain ⟨c1,h1,h2⟩:=LM (H:=r) h;exact ⟨c1,cu _ h1,h2⟩
  |false =>
   rw [hb] at h
   rcases bp.1 h with h|h
   ·cases h;simp only [Bool.or_eq_false_iff,um] at hb;refine ⟨c0,by simp,rfl,fun p hp e=>?_,fun p hp e=>?_⟩
    ·exact hb.1 p hp (by rw [e];exact iz _)
    ·exact hb.2 p hp (by rw [e];exact iz _)
   ·obtain ⟨c1,h1,h2⟩:=LM (H:=r) h;exact ⟨c1,cu _ h1,h2⟩
def qG:List Nat→Bool
 |[]=>true
 |x::r=>!(r.any fun y=>aG y x)&&qG r
def yu:∀{l:List Nat},qG l=true→l.Nodup
 |[],_=>oY
 |x::r,h=>by
  simp only [qG,bM,my,um] at h;rw [gK];exact ⟨fun hm=>h.1 x hm (iz _),yu h.2⟩
def zf (m n:List (Nat×Nat)):Bool :=
 (m.all fun p=>og 1000 p.1)&&(qG (m.map (·.1))&&(qG (m.map (·.2))&&((n.all fun p=>ej p.2 1000)&&qG (n.map (·.2)))))
def jE (m n:List (Nat×Nat)):List (Nat×Nat):=(m.filter fun p=>!(n.any fun q=>aG q.2 p.2))++n
def MT {i i' j:Nat}:∀{m:List (Nat×Nat)},(m.map (·.2)).Nodup→(i,j)∈m→(i',j)∈m→i=i'
 |[],_,h,_=>by cases h
 |p::r,hm,h1,h2=>by
  simp only [eT,gK] at hm
  rcases bp.1 h1 with h1|h1<;>rcases bp.1 h2 with h2|h2
  ·rw [←h2] at h1;cases h1;rfl
  ·exact absurd (cV.2 ⟨_,h2,by rw [←h1]⟩) hm.1
  ·exact absurd (cV.2 ⟨_,h1,by rw [←h2]⟩) hm.1
  ·exact MT hm.2 h1 h2
def P_ {xs ys:List AV} {st:ai} {H0:Hp} {m n:List (Nat×Nat)}
  (hx:iA m xs ys) (hH:ss m st.H H0) (lC:iT H0=true) (ht:zf m n=true) {vs:Array Value} (hI:Inv w F β st.H) (hv:∀i,i<xs.length→Rd w F β (xs.getD i .χ) (vs.getD i undef)) :
  xs.length=ys.length∧∃cT,Inv w F cT H0∧(∀i,i<ys.length→Rd w F cT (ys.getD i .χ) (vs.getD i undef)) ∧
   ∀(w':World) (F':Nat→Prop) (aw:Nat→Value) (f':Nat→AV) (H1:Hp),iT (gz (cC (jE m n)) H1++jF m n st.H)=true→Ext w F cT ⟨aM,H0⟩ w' F' aw ⟨f',H1⟩ →
    ∃bL,(∀i j,cC (jE m n) i=some j→bL j=aw i)∧Ext w F β st w' F' bL ⟨fun t=>rf n (st.f t),gz (cC (jE m n)) H1++jF m n st.H⟩:=by
 obtain ⟨hl,hz⟩:=hx.spec;simp only [zf,bM,dJ] at ht;obtain ⟨mY,ij,rG,ya,kq⟩:=ht;have ij:=yu ij;have rG:=yu rG;have kq:=yu kq
 obtain ⟨cT,yl⟩:∃cT:Nat→Value,∀i j,cC m i=some j→cT i=β j:=by
  refine ⟨fun i=>match cC m i with|some j=>β j|none=>undef,fun i j et=>?_⟩;simp only [et]
 have bu:=fun i c0 hm=>hH.mem i c0 hm
 have cY:∀b,br cT H0 b→∃i c0 j c,(i,c0)∈H0∧cC m i=some j∧(j,c)∈st.H∧bF (β j)=some b:=by
  rintro b ⟨i,c0,h1,hb⟩;obtain ⟨j,c,h2,h3,_⟩:=bu i c0 h1;exact ⟨i,c0,j,c,h1,h2,h3,by rw [←yl i j h2];exact hb⟩
 have D8:∀b,br cT H0 b→br β st.H b:=fun b hb=>by
  obtain ⟨_,_,j,c,_,_,h3,h4⟩:=cY b hb;exact ⟨j,c,h3,h4⟩
 have Jn:∀i i' j,cC m i=some j→cC m i'=some j→i=i':=fun i i' j h1 h2=>MT rG (at_mem h1) (at_mem h2)
 have rj:Inv w F cT H0:=by
  refine ⟨hI.bW,fun i c0 h1=>?_,vT lC,fun b hb=>hI.apart b (D8 b hb),fun i c i' c' b h1 h2 hb aH=>?_,hI.eN⟩
  ·obtain ⟨j,c,h2,h3,h4⟩:=bu i c0 h1;exact h4.holds yl h2 (hI.holds j c h3)
  ·obtain ⟨j,c,h3,h4,_⟩:=bu i c h1;obtain ⟨j',c',h5,h6,_⟩:=bu i' c' h2;rw [yl i j h3] at hb;rw [yl i' j' h5] at aH;have:=hI.dR j _ j' _ b h4 h6 hb aH;subst this;exact Jn i i' j h3 h5
 refine ⟨hl,cT,rj,fun i hi=>hz i (by omega) w F β cT _ yl (hv i (by omega)),?_⟩;intro w' F' aw f' H1 fh he
 obtain ⟨bL,aap,AG⟩:∃bL:Nat→Value,(∀i j,(i,j)∈n→bL j=aw i)∧∀j,(∀p,p∈n→p.2≠j)→bL j=β j:=by
  refine ⟨fun j=>match cC (n.map fun p=>(p.2,p.1)) j with|some i=>aw i|none=>β j,fun i j et=>?_,fun j hj=>?_⟩
  ·have:cC (n.map fun p=>(p.2,p.1)) j=some i:=Dc (by rw [List.map_map];exact kq) (cV.2 ⟨_,et,rfl⟩);simp only [this]
  ·cases ha:cC (n.map fun p=>(p.2,p.1)) j with
   |none=>simp only [ha]
   |some i =>
    obtain ⟨p,hp,e⟩:=cV.1 (at_mem ha);cases e;exact absurd rfl (hj p hp)
 have hq:∀i j,cC (jE m n) i=some j→bL j=aw i:=fun i j et=>by
  have et:=at_mem et;simp only [jE,iY,List.mem_filter,my,um] at et
  rcases et with ⟨h1,h2⟩|h1
  ·have h3:1000≤i:=by simpa using mY _ h1
   rw [he.fH i h3,yl i j (Dc ij h1)];exact AG j fun p hp e=>h2 p hp (by rw [e];exact iz _)
  ·exact aap i j h1
 have hblk:∀b,b<w.heap.size→(∀i c0 j c,(i,c0)∈H0→cC m i=some j→(j,c)∈st.H→bF (β j)≠some b)→w'.heap[b]?=w.heap[b]?:=fun b hb bw=>he.block b hb fun ho=>by
  obtain ⟨i,c0,j,c,h1,h2,h3,h4⟩:=cY b ho;exact bw i c0 j c h1 h2 h3 h4
 have hF:fy F w w':=fun b hb=>hblk b (hI.bW b hb) fun i c0 j c _ _ h3 h4=>hI.apart b ⟨j,c,h3,h4⟩ hb
 have mc:∀j c,(j,c)∈jF m n st.H→∃c0,(j,c0)∈st.H∧c=zZ n c0∧(∀i,cC m i≠some j)∧bL j=β j∧∀p,p∈n→p.2≠j:=fun j c hc=>by
  obtain ⟨c0,h1,h2,h3,h4⟩:=LM hc;exact ⟨c0,h1,h2,fun i hi=>h3 _ (at_mem hi) rfl,AG j h4,h4⟩
 have Rb:∀b,br aw H1 b→w.heap.size≤b∨br cT H0 b:=fun b hb=>he.owned b hb
 have rJ:∀b,br bL (gz (cC (jE m n)) H1++jF m n st.H) b→br aw H1 b∨∃j c0,(j,c0)∈st.H∧(∀i,cC m i≠some j)∧bF (β j)=some b:=by
  rintro b ⟨j,c,hc,hb⟩
  rcases iY.1 hc with hc|hc
  ·obtain ⟨i,c0,h1,h2,_⟩:=lI hc;exact .inl ⟨i,c0,h1,by rw [←hq i j h2];exact hb⟩
  ·obtain ⟨c0,h1,_,h2,h3,_⟩:=mc j c hc;exact .inr ⟨j,c0,h1,h2,by rw [←h3];exact hb⟩
 refine ⟨bL,hq,?_⟩;refine ⟨he.os,he.tape,he.output,he.size,fun b hb bw=>he.block b hb fun ho=>bw (D8 b ho),he.mono,fun b hb=>(he.new b hb).imp id fun h=>h.imp id (D8 b),fun b hb=>?_,fun t u hu=>?_,?_,fun i hi=>AG i fun p hp e=>?_⟩
 ·rcases rJ b hb with h1|⟨j,c0,h1,_,h2⟩
  ·exact (Rb b h1).imp id (D8 b)
  ·exact .inr ⟨j,c0,h1,h2⟩
 ·exact PS AG (hu.frame hF he.mono)
 ·refine ⟨he.inv.bW,fun j c hc=>?_,vT fh,fun b hb uP=>?_,fun j c j' c' b hc fc hb aH=>?_,he.inv.eN⟩
  ·rcases iY.1 hc with hc|hc
   ·obtain ⟨i,c0,h1,h2,rfl⟩:=lI hc;exact rlC_holds hq h2 (he.inv.holds i c0 h1)
   ·obtain ⟨c0,h1,rfl,h2,h3,h4⟩:=mc j c hc
    exact erCL_holds AG h4 (nQ hF he.mono (fun b hb=>hblk b (hI.fj ⟨j,c0,h1,hb⟩) fun i HK j' c' h5 h6 h7 h8=>by
     have:=hI.dR j _ j' _ b h1 h7 hb h8;subst this
     exact h2 i h6) (hI.holds j c0 h1))
  ·rcases rJ b hb with h1|⟨j,c0,h1,h2,h3⟩
   ·exact he.inv.apart b h1 uP
   ·rcases he.new b uP with h4|h4|h4
    ·exact hI.apart b ⟨j,c0,h1,h3⟩ h4
    ·exact absurd (hI.fj ⟨j,c0,h1,h3⟩) (kZ.2 h4)
    ·obtain ⟨i,_,j',c',_,h6,h7,h8⟩:=cY b h4;have:=hI.dR j _ j' _ b h1 h7 h3 h8;subst this;exact h2 i h6
  ·have Po:∀i c0 j c1,(i,c0)∈H1→bF (aw i)=some b→(j,c1)∈st.H→(∀i,cC m i≠some j)→bF (β j)=some b→False:=fun i c0 j c1 h1 h2 h3 h4 h5=>by
    rcases Rb b ⟨i,c0,h1,h2⟩ with h6|h6
    ·exact absurd (hI.fj ⟨j,c1,h3,h5⟩) (kZ.2 h6)
    ·obtain ⟨i',_,j',c',_,h7,h8,h9⟩:=cY b h6;have:=hI.dR j _ j' _ b h3 h8 h5 h9;subst this;exact h4 i' h7
   rcases iY.1 hc with hc|hc<;>rcases iY.1 fc with fc|fc
   ·obtain ⟨i,c0,h1,h2,_⟩:=lI hc;obtain ⟨i',HK,lX,gQ,_⟩:=lI fc;rw [hq i j h2] at hb;rw [hq i' j' gQ] at aH;have:=he.inv.dR i _ i' _ b h1 lX hb aH;subst this;rw [h2] at gQ;exact j7 gQ
   ·obtain ⟨i,c0,h1,h2,_⟩:=lI hc;obtain ⟨c1,h3,_,h4,h5,_⟩:=mc j' c' fc;rw [hq i j h2] at hb;rw [h5] at aH;exact (Po i c0 j' c1 h1 hb h3 h4 aH).elim
   ·obtain ⟨i,c0,h1,h2,_⟩:=lI fc;obtain ⟨c1,h3,_,h4,h5,_⟩:=mc j c hc;rw [hq i j' h2] at aH;rw [h5] at hb;exact (Po i c0 j c1 h1 aH h3 h4 hb).elim
   ·obtain ⟨c1,h3,_,h4,h5,_⟩:=mc j c hc;obtain ⟨oq,Y2,_,h4',Y3,_⟩:=mc j' c' fc;rw [h5] at hb;rw [Y3] at aH;exact hI.dR j _ j' _ b h3 Y2 hb aH
 ·have:p.2<1000:=by simpa [fY] using ya p hp
  omega
def Θ.gen {g:Tg} {xs ys:List AV} {st:ai} {H0 H1:Hp} {r:AV} {k:AV→ai→Prop} {m n:List (Nat×Nat)} (h:Θ P g ys ⟨aM,H0⟩ fun x s=>x=r∧s.H=H1)
  (hx:iA m xs ys) (hH:ss m st.H H0) (lC:iT H0=true) (ht:zf m n=true) (fh:iT (gz (cC (jE m n)) H1++jF m n st.H)=true)
  (hk:k (rl (cC (jE m n)) 3 r) ⟨fun t=>rf n (st.f t),gz (cC (jE m n)) H1++jF m n st.H⟩):Θ P g xs st k:=by
 refine ⟨h.1,fun w F β vs hI hs hv=>?_⟩;obtain ⟨hl,cT,rj,ν,qt⟩:=P_ hx hH lC ht hI hv;refine (h.2 w F cT vs rj (by omega) ν).mono ?_;rintro e w' ⟨v,rfl,x,s,F',aw,⟨rfl,AP⟩,hr,he⟩;obtain ⟨bL,hq,jg⟩:=qt w' F' aw s.f H1 fh (by rw [←AP];exact he);exact ⟨v,rfl,rl (cC (jE m n)) 3 x,_,F',bL,hk,wA hq 3 hr,jg⟩
def acp {g n : Nat} {fn : Func} {c : Code} {args : List AV} {H0 H1 : Hp} {r : AV} (hT : bB P T) (dj : P.funcs[g]? = some fn) (dg : (fn.name == "runtime.NumGoroutine") = false) (hb : fn.body = some c) (hn : fn.ntmps = n) (hle : args.length ≤ n)
  (h:Ok P n c ⟨jZ args,H0⟩ (qj T fn.results.toList fun x s=>Wk ⟨dF aM 0 x,s.H⟩ ⟨Γ [(0,r)],H1⟩)):Θ P g args ⟨aM,H0⟩ fun x s=>x=r∧s.H=H1:=by
 refine ⟨⟨fn,c,dj,dg,hb⟩,fun w F β vs hI hs hv=>?_⟩;refine (De hT dj hb hn hle h hI hs hv).mono ?_;rintro e w' ⟨v,rfl,x,st,F',aw,hW,hx,he⟩
 obtain ⟨F2,bL,_,_,hf,h2⟩:=hW ⟨w,F,β,H0,1,none,.inl rfl,[]⟩ { tmps:=#[v],defers:=[] } w' ⟨F',aw,rfl,trivial,fun t=>by
  show Rd w' F' aw (bif aG t 0 then x else aM t) _;cases t with
  |zero=>exact hx
  |succ t=>exact .χ,⟨he,fun d hd=>(eI hd).elim,oY,⟨[],rfl⟩⟩⟩
 exact ⟨v,rfl,r,⟨aM,H1⟩,F2,bL,⟨rfl,rfl⟩,hf 0,h2.x⟩
def Ext.chunks {w0:World} {F0:Nat→Prop} {nt:Nat→Value} {nr:ai} {H H':Hp} (h:Ext w0 F0 nt nr w F β ⟨aM,H⟩) (bu:∀i c,(i,c)∈H'→(∃c0,(i,c0)∈H)∧c.holds w F β i) (hk:(H'.map (·.1)).Nodup):Ext w0 F0 nt nr w F β ⟨aM,H'⟩ where
 os:=h.os
 tape:=h.tape
 output:=h.output
 size:=h.size
 block:=h.block
 mono:=h.mono
 new:=h.new
 owned b hb:=h.owned b (by obtain ⟨i,c,hm,hb⟩:=hb;obtain ⟨⟨c0,h0⟩,_⟩:=bu i c hm;exact ⟨i,c0,h0,hb⟩)
 keep _ _ _:=.χ
 inv:=⟨h.inv.bW,fun i c hm=>(bu i c hm).2,hk,
  fun b ⟨i,c,hm,hb⟩=>by obtain ⟨⟨c0,h0⟩,_⟩:=bu i c hm;exact h.inv.apart b ⟨i,c0,h0,hb⟩,
  fun i c i' c' b hm bE hb aH=>by
   obtain ⟨⟨c0,h0⟩,_⟩:=bu i c hm;obtain ⟨⟨c1,h1⟩,_⟩:=bu i' c' bE
   exact h.inv.dR i c0 i' c1 b h0 h1 hb aH,h.inv.eN⟩
 fH:=h.fH
def XM.chunks {C:Ctx} {ds:List Deferred} {H H':Hp} (h:XM C ds w F β H) (bu:∀i c,(i,c)∈H'→(∃c0,(i,c0)∈H)∧c.holds w F β i) (hk:(H'.map (·.1)).Nodup):XM C ds w F β H' :=
 h.trans ((Ext.refl (st:=⟨aM,H⟩) h.inv).chunks bu hk)
def rN (i d:Nat):Nat→Option Nat:=fun x=>bif aG x i then some d else bif aG x d then none else some x
def Wk.mv {st:ai} {i d:Nat} (hd:ej d 1000=true) (aS:aG d i=false) (hk:iT (gz (rN i d) st.H)=true):Wk st ⟨fun t=>rl (rN i d) 2 (st.f t),gz (rN i d) st.H⟩:=fun C a w hr=>by
 obtain ⟨F,β,hs,Jb,hf,he⟩:=hr
 have hd:d<1000:=by simpa [fY] using hd
 have aS:d≠i:=fun e=>by rw [e,iz] at aS;cases aS
 let aw:Nat→Value:=fun x=>if x=d then β i else β x
 have aj:∀x y,rN i d x=some y→aw y=β x:=fun x y h=>by
  unfold rN at h;cases h1:aG x i with
  |true=>rw [h1] at h;cases h;rw [cA h1];exact if_pos rfl
  |false =>
   rw [h1] at h;cases h2:aG x d with
   |true=>rw [h2] at h;cases h
   |false =>
    rw [h2] at h;cases h
    exact if_neg fun e=>by rw [e,iz] at h2;cases h2
 have Jn:∀x x' y,rN i d x=some y→rN i d x'=some y→x=x':=fun x x' y h h'=>by
  unfold rN at h h';cases h1:aG x i<;>cases lX:aG x' i<;>rw [h1] at h<;>rw [lX] at h'<;>simp only [cond_true,cond_false] at h h'
  ·cases h2:aG x d<;>cases gQ:aG x' d<;>rw [h2] at h<;>rw [gQ] at h'<;>simp_all
  ·cases h2:aG x d<;>rw [h2] at h<;>simp_all
  ·cases gQ:aG x' d<;>rw [gQ] at h'<;>simp_all
  ·rw [cA h1,cA lX]
 have cY:∀b,br aw (gz (rN i d) st.H) b→br β st.H b:=by
  rintro b ⟨j,c,hc,hb⟩;obtain ⟨x,c0,h1,h2,_⟩:=lI hc;exact ⟨x,c0,h1,by rw [←aj x j h2];exact hb⟩
 refine ⟨F,aw,hs,Jb,fun t=>wA aj 2 (hf t),he.trans (f:=aM) (f':=aM) ⟨rfl,iP.refl _,rfl,bm _,fun _ _ _=>rfl,fun _ h=>h,fun _ h=>.inl h,fun b hb=>.inr (cY b hb),fun _ _ _=>.χ,?_,fun x hx=>if_neg (by omega)⟩⟩
 ·refine ⟨he.inv.bW,fun j c hc=>?_,vT hk,fun b hb=>he.inv.apart b (cY b hb),fun j c j' c' b hc fc hb aH=>?_,he.inv.eN⟩
  ·obtain ⟨x,c0,h1,h2,rfl⟩:=lI hc;exact rlC_holds aj h2 (he.inv.holds x c0 h1)
  ·obtain ⟨x,c0,h1,h2,_⟩:=lI hc;obtain ⟨x',HK,lX,gQ,_⟩:=lI fc;rw [aj x j h2] at hb;rw [aj x' j' gQ] at aH;have:=he.inv.dR x _ x' _ b h1 lX hb aH;subst this;rw [h2] at gQ;exact j7 gQ
def Wk.SO {st:ai} {b q id E K:Nat} {cells:List AV} (Ξ:ej id 1000=true) (hb:di b (gu id st.H)=some (.box cells)) (hq:cells[q]?=some (.v (.slice none 0 0))) :
  Wk st ⟨fun t=>er 2 id (st.f t),(id,.own E K [])::eX b (.box (cells.set q (.o id))) (gu id st.H)⟩:=fun C a w hr=>by
 obtain ⟨F,β,hs,hd,hf,he⟩:=hr
 have nN:id<1000:=by simpa using Ξ
 have pk:Below w.heap.size w w:=Below.refl _ _;have hx:=Ii (st:=⟨aM,st.H⟩) (w':=w) (F':=F) (c:=.own E K []) (v:=.slice none 0 0) nN he.inv pk (fun _ h=>h) (fun _ h=>.inl h) (fun b hb=>by cases hb) (.inl ⟨rfl,none,by simp⟩);have aj:∀i,i≠id→(fun i=>if i=id then Value.slice none 0 0 else β i) i=β i:=fun i hi=>if_neg hi;have h2:=(he.trans hx).KD;have hmb:(b,Chunk.box cells)∈gu id st.H:=eE hb;refine ⟨F,_,hs,hd,fun t=>qh aj 2 (hf t),h2.chunks (fun i c hm=>?_) ?_⟩
 ·rcases bp.1 hm with hm|hm
  ·cases hm;exact ⟨⟨_,js⟩,h2.inv.holds _ _ js⟩
  ·rcases lJ hm with ⟨rfl,rfl,c0,h0⟩|⟨_,h0⟩
   ·refine ⟨⟨c0,cu _ h0⟩,?_⟩;obtain ⟨e9,cs,e,h1,hh,aZ,eF,eP⟩:=h2.inv.holds i _ (cu _ hmb);refine ⟨e9,cs,e,h1,hh,by simpa using aZ,fun j hj=>eF j (by simpa using hj),fun j hj=>?_⟩
    have iH:j<cells.length:=by simpa using hj
    by_cases QP:j=q
    ·subst QP
     have e1:(cells.set j (.o id)).getD j .χ=.o id:=by simp [aY,iH]
     have e2:=eP j iH;rw [List.getD_eq_getElem?_getD,hq,Option.getD_some] at e2;rw [e1,e2.bA];exact .o (by simp)
    ·have e1:(cells.set q (.o id)).getD j .χ=cells.getD j .χ:=by simp [aY,List.getElem?_set_ne (Ne.symm QP)]
     rw [e1];exact eP j iH
   ·exact ⟨⟨c,cu _ h0⟩,h2.inv.holds _ _ (cu _ h0)⟩
 ·have:=h2.inv.keys;simp only [gq,eT] at this ⊢;rw [wH];exact this
end
end
section
open Go.RowKit Go.Sort Go.Proofs Go.Shelf
section
variable {P:Program}
end
variable [M:bU] [G:dC] [R:dW]
section
variable {P:Program}
def O2 {vs:Array Value} (h:vs.size=1):vs=#[vs.getD 0 undef]:=by
 apply Array.ext
 ·simp [h]
 ·intro i h1 h2
  have:i=0:=by simp at h2;omega
  subst this;simp [h]
end
end
section
end
end Go.Cat
set_option linter.all false
namespace Go.CatSeq
open Go Go.RowKit Go.Proofs Go.Shelf Go.Maps Go.Sort
end Go.CatSeq
namespace Go.Cat
open Go.RowKit Go.Proofs Go.Shelf Go.Maps Go.Sort
variable [M:bU] [G:dC] [R:dW] {P:Program}
end Go.Cat
namespace Go.Cat
set_option linter.all false
section
open Go.Sort
class zM {α:Type} (c:α→α→Option Int):Prop where
 ex:∃cf,p7 c cf
def vQ {α:Type} (c:α→α→Option Int) (x:α):List α→Option (List α)
 |[]=>some [x]
 |y::r=>match c x y,c y x with
  |some a,some b=>if a<0 then (if b<0 then none else some (x::y::r)) else if b<0 then (match vQ c x r with|some t=>some (y::t)|none=>none) else none
  |_,_=>none
def rS {α:Type} (c:α→α→Option Int):List α→Option (List α)
 |[]=>some []
 |x::r=>match rS c r with
  |some t=>vQ c x t
  |none=>none
section
variable {α:Type} {c:α→α→Option Int} {cf:α→α→Int}
def RP (h:p7 c cf) (x:α):∀{l r:List α},vQ c x l=some r→r.Perm (x::l)∧(l.Pairwise (fun x y=>cf x y<0)→r.Pairwise (fun x y=>cf x y<0))
 |[],r,e=>by cases e;exact ⟨.refl _,fun _=>List.pairwise_singleton _ _⟩
 |y::l,r,e=>by
  simp only [vQ,h.1] at e;by_cases h1:cf x y<0
  ·rw [if_pos h1] at e;by_cases h2:cf y x<0
   ·rw [if_pos h2] at e;cases e
   ·rw [if_neg h2] at e;cases e;refine ⟨.refl _,fun hp=>iy.2 ⟨fun z hz=>?_,hp⟩⟩
    rcases bp.1 hz with rfl|hz
    ·exact h1
    ·have h3:=(iy.1 hp).1 z hz;have:=h.2.trans x y z (decide_eq_true h1) (decide_eq_true h3);simpa using this
  ·rw [if_neg h1] at e;by_cases h2:cf y x<0
   ·rw [if_pos h2] at e;cases ht:vQ c x l with
    |none=>rw [ht] at e;cases e
    |some t =>
     rw [ht] at e;cases e;obtain ⟨h3,h4⟩:=RP h x ht;refine ⟨((ahw y).2 h3).trans (.swap x y l),fun hp=>?_⟩;have gH:=iy.1 hp;refine iy.2 ⟨fun z hz=>?_,h4 gH.2⟩
     rcases bp.1 (h3.mem_iff.1 hz) with rfl|hz
     ·exact h2
     ·exact gH.1 z hz
   ·rw [if_neg h2] at e;cases e
def Gh (h:p7 c cf):∀{l r:List α},rS c l=some r→r.Perm l∧r.Pairwise (fun x y=>cf x y<0)
 |[],r,e=>by cases e;exact ⟨.refl _,.nil⟩
 |x::l,r,e=>by
  simp only [rS] at e;cases ht:rS c l with
  |none=>rw [ht] at e;cases e
  |some t =>
   rw [ht] at e;obtain ⟨h1,h2⟩:=Gh h ht;obtain ⟨h3,h4⟩:=RP h x e;exact ⟨h3.trans ((ahw x).2 h1),h4 h2⟩
end
def Ci {α:Type} (c:α→α→Option Int) [zM c] (l:List α):Option (List α):=τ (l.length≤140737488355328) (rS c l)
def adX {α:Type} {c:α→α→Option Int} [hc:zM c] {l r:List α} (h:Ci c l=some r):l.length≤140737488355328∧∃cf,p7 c cf∧rS c l=some r:=by
 obtain ⟨hl,h⟩:=ak h;exact ⟨hl,hc.ex.choose,hc.ex.choose_spec,h⟩
def adW {α:Type} {c:α→α→Option Int} [hc:zM c] {l r:List α} (hl:l.length≤140737488355328) (h:rS c l=some r):Ci c l=some r:=by
 unfold Ci;rw [ee hl,h]
end
section
open Go.RowKit
variable [M:bU] [G:dC]
def F_:List (Nat×AV)→(Nat→AV)→Nat→AV
 |[],f=>f
 |(t,x)::r,f=>F_ r (dF f t x)
section
variable [R:dW] {P:Program} {w:World} {F:Nat→Prop} {β aw:Nat→Value}
def Ul:∀(ps:List Nat) (xs:List AV) (vs:List Value) (f:Nat→AV) (tmps:Array Value),ps.length=xs.length→vs.length=xs.length→(∀t,t∈ps→t<tmps.size) →
  (∀i,i<xs.length→Rd w F β (xs.getD i .χ) (vs.getD i undef))→(∀t,Rd w F β (f t) (tmps.getD t undef)) →
  ((ps.zip vs).foldl (fun T p=>T.setIfInBounds p.1 p.2) tmps).size=tmps.size∧∀t,Rd w F β (F_ (ps.zip xs) f t) (((ps.zip vs).foldl (fun T p=>T.setIfInBounds p.1 p.2) tmps).getD t undef)
 |[],[],[],f,tmps,_,_,_,_,hf=>⟨rfl,hf⟩
 |p::ps,x::xs,v::vs,f,tmps,h1,h2,h3,h4,hf=>by
  have:=Ul ps xs vs (dF f p x) (tmps.setIfInBounds p v) (by simpa using h1) (by simpa using h2) (fun t ht=>by simpa using h3 t (by simp [ht])) (fun i hi=>h4 (i+1) (by simpa using hi)) fun t=>by
   unfold dF;cases hb:aG t p with
   |true =>
    obtain rfl:=cA hb;have:=h3 t (by simp);simpa [this] using h4 0 (by simp)
   |false =>
    have aS:p≠t:=fun e=>by rw [e,iz] at hb;cases hb
    simpa [Array.getElem?_setIfInBounds_ne aS] using hf t
  refine ⟨by simpa using this.1,fun t=>?_⟩;have:=this.2 t;exact this
 |[],_::_,_,_,_,h1,_,_,_,_=>by cases h1
 |_::_,[],_,_,_,h1,_,_,_,_=>by cases h1
 |_,[],_::_,_,_,_,h2,_,_,_=>by cases h2
 |_,_::_,[],_,_,_,h2,_,_,_=>by cases h2
def xE (i:Nat):Option Nat:=bif og 1000 i then some i else none
def YU (aj:∀i,1000≤i→aw i=β i) {x:AV} {u:Value} (hx:rl xE 2 x=x) (h:Rd w F β x u):Rd w F aw x u:=by
 rw [←hx];refine wA (fun i j et=>?_) 2 h;unfold xE at et;cases hb:og 1000 i with
 |true=>rw [hb] at et;cases et;exact aj i (xb hb)
 |false=>rw [hb] at et;cases et
def Ub (k:LS→ai→Prop):Exit→ai→Prop
 |.normal,s=>k .gY s
 |.ret,s=>k .ret s
 |.exit i,s=>k (.ex i) s
 |_,_=>False
def WE (P:Program) (R0:RF) (k:LS→ai→Prop):Exit→ai→Prop:=fun e s=>match e with
 |.normal=>Ok P R0.n R0.body s (Ub k)
 |_=>False
def aa9 {i:Nat} {c:Chunk} {H:Hp} (h:Inv w F β ((i,c)::H)):Inv w F β H :=
 h.sub (fun x hx=>cu _ hx) (gK.1 h.keys).2
def Ke {H:Hp} {l:Nat} {o:Obj} (hI:Inv w F β H) (hF:¬F l) (ho:¬br β H l):Inv (w.putObj l o) F β H :=
 have ha:fy F w (w.putObj l o):=fun b hb=>oi fun e=>hF (e▸hb)
 ⟨fun b hb=>by rw [ju];exact hI.bW b hb,fun i c hm=>nQ ha (fun _ h=>h) (fun b hb=>oi fun e=>ho (e▸⟨i,c,hm,hb⟩)) (hI.holds i c hm),hI.keys,hI.apart,hI.dR,hI.eN.at ha⟩
end
section
variable {P:Program}
def agy {l lid:Nat} {R0:RF} {L:List (Nat×AV)} {H H1:Hp} {xs:List AV} {e0:LS} (JI:R0.ps.toList.length=xs.length) (hpn:(R0.ps.toList.all fun t=>ej t R0.n)=true)
  (hL:(L.map fun p=>(p.1,rl xE 2 p.2))=L) (DY:og 1000 lid=true) (fh:iT ((lid,.lp l e0 R0 L)::H1)=true)
  (h:Ok (R:=dW.yes) P R0.n R0.assign ⟨F_ (R0.ps.toList.zip xs) (Γ L),H⟩ (WE (R:=dW.yes) P R0 fun e s=>e=e0∧Wk (R:=dW.yes) ⟨aM,s.H⟩ ⟨Γ [],H1⟩)) :
  Θ P (.y l) xs ⟨aM,(lid,.lp l .gY R0 L)::H⟩ fun x s=>x=.v (.bool e0.tn)∧s.H=(lid,.lp l e0 R0 L)::H1:=by
 letI:dW:=dW.yes
 have DY:1000≤lid:=xb DY;refine ⟨trivial,fun w F β vs hI hs hv=>?_⟩;obtain ⟨fn,tmps,D,aj,hh,hn,hr⟩:=hI.holds lid _ (js ..);have Ξ:=jM hh;have IV:=aa9 hI;have xW:¬F l:=hI.apart l ⟨lid,_,js ..,by rw [aj];rfl⟩
 have rE:¬br β H l:=fun ⟨i,c,hm,hb⟩=>by
  have:=hI.dR i c lid _ l (cu _ hm) (js ..) hb (by rw [aj];rfl);subst this;exact (gK.1 hI.keys).1 (cV.2 ⟨_,hm,rfl⟩)
 have hz:(R0.ps.zip vs).foldl (fun tmps (x:Nat×Value)=>tmps.setIfInBounds x.1 x.2) tmps=(R0.ps.toList.zip vs.toList).foldl (fun T p=>T.setIfInBounds p.1 p.2) tmps:=by
  rw [←Array.foldl_toList,Array.toList_zip]
 have aaK:∀t,Rd w F β (Γ L t) (tmps.getD t undef):=by
  have key:∀L':List (Nat×AV),(∀p,p∈L'→p∈L)→∀t,Rd w F β (Γ L' t) (tmps.getD t undef):=by
   intro L';induction L' with
   |nil=>intro _ t;exact .χ
   |cons p r ih =>
    intro hp t;obtain ⟨d,x⟩:=p;simp only [Γ];cases hb:aG t d with
    |true =>
     obtain rfl:=cA hb;exact hr (t,x) (hp _ (by simp))
    |false=>exact ih (fun p gH=>hp p (by simp [gH])) t
  exact key L fun _ h=>h
 obtain ⟨aZ,eP⟩:=Ul R0.ps.toList xs vs.toList (Γ L) tmps JI (by simpa using hs) (fun t ht=>by
  have:=dJ.1 hpn t ht
  rw [hn];simpa [fY] using this) (fun i hi=>by simpa using hv i hi) aaK
 have hy:=run_yield (P:=P) (args:=vs) hh (by simpa [hs] using JI.symm);refine ⟨fn,_,R0.assign,R0.body,hy,roundIn_of_wpIn (F:=Fence.wide) trivial ?_⟩;let C1:Ctx:=⟨w,F,β,H,R0.n,some l,.inr trivial,[]⟩;have il:Rel C1 ⟨F_ (R0.ps.toList.zip xs) (Γ L),H⟩ { tmps:=(R0.ps.zip vs).foldl (fun tmps (x:Nat×Value)=>tmps.setIfInBounds x.1 x.2) tmps,defers:=[] } w :=
  ⟨F,β,by rw [hz,aZ,hn],trivial,fun t=>by rw [hz];exact eP t,⟨Ext.refl IV,fun d hd=>(eI hd).elim,oY,⟨[],rfl⟩⟩⟩
 refine wpIn_mono (h.h C1 rfl _ w il) ?_;rintro e a1 w1 ⟨s1,⟨F1,cT,g1,g2,g3,g4⟩,hq⟩;cases e with
 |normal =>
  have hq:Ok (R:=dW.yes) P R0.n R0.body s1 (Ub _):=hq;have vw:w1.heap[l]?=some (.loop { state:=LS.gY.st,pending:=LS.gY.v_,fn,tmps,params:=R0.ps,assign:=R0.assign,body:=R0.body,defers:=D }):=(g4.x.block l Ξ rE).trans hh
  have QV:¬F1 l:=fun hF=>by
   rcases g4.x.new l hF with h|h|h
   ·exact xW h
   ·exact absurd Ξ (kZ.2 h)
   ·exact rE h
  have aac:¬br cT s1.H l:=fun ho=>by
   rcases g4.x.owned l ho with h|h
   ·exact absurd Ξ (kZ.2 h)
   ·exact rE h
  obtain ⟨ob,Jz⟩:∃ob:Obj,ob=.loop { state:=.busy,pending:=none,fn,tmps,params:=R0.ps,assign:=R0.assign,body:=R0.body,defers:=D }:=⟨_,rfl⟩;refine ⟨w1.putObj l ob,by rw [Jz];exact run_beginRound vw rfl,?_⟩;let C2:Ctx:=⟨w.putObj l ob,F,β,H,R0.n,some l,.inr trivial,[]⟩;have IT:Inv (w1.putObj l ob) F1 cT s1.H:=Ke g4.inv QV aac
  have aq:Ext C2.w C2.F C2.β ⟨aM,C2.H⟩ (w1.putObj l ob) F1 cT ⟨aM,s1.H⟩:=by
   refine ⟨g4.x.os,g4.x.tape,g4.x.output,by show (w.putObj l ob).heap.size≤_;rw [ju,ju];exact g4.x.size,fun b hb ho=>?_,g4.x.mono,fun b hb=>(g4.x.new b hb).imp id fun h=>h.imp (fun h=>by show (w.putObj l ob).heap.size≤b;rw [ju];exact h) id,fun b hb=>(g4.x.owned b hb).imp (fun h=>by show (w.putObj l ob).heap.size≤b;rw [ju];exact h) id,fun _ _ _=>.χ,IT,g4.x.fH⟩
   have hb:b<w.heap.size:=by have hb:b<(w.putObj l ob).heap.size:=hb;rwa [ju] at hb
   show _=(w.putObj l ob).heap[b]?;by_cases e:b=l
   ·subst e;rw [Hh Ξ,Hh (mJ Ξ g4.x.size)]
   ·rw [oi e,oi e];exact g4.x.block b hb ho
  have Ao:fy F1 w1 (w1.putObj l ob):=fun b hb=>oi fun e=>QV (e▸hb)
  have JN:Rel C2 s1 a1 (w1.putObj l ob):=⟨F1,cT,g1,trivial,fun t=>(g3 t).frame Ao fun _ h=>h,⟨aq,fun d hd=>by
   obtain ⟨D',q1,q2,q3,q4,q5⟩:=g4.m d hd;refine ⟨D',q1,by show (w.putObj l ob).heap.size≤D';rw [ju];exact q2,(oi fun e=>?_).trans q3,q4,q5⟩;have q2:w.heap.size≤D':=q2
   omega,g4.nd,g4.sp⟩⟩
  refine wpIn_mono (hq.h C2 rfl a1 _ JN) ?_;rintro e a3 w3 ⟨s3,aax,oH⟩;have fin:∀(jump:Option Code) (e:LS),e.st=(if jump.isNone then .ready else .done)→e.v_=jump→jump.isNone=e.tn→(e=e0∧Wk (R:=dW.yes) ⟨aM,s3.H⟩ ⟨Γ [],H1⟩) →
    ∃v w',(Instr.endRound l jump).run P w3=.ok v w'∧∃v',Ending.returned v=.returned v'∧∃r av F' aw,(r=.v (.bool e0.tn)∧av.H=(lid,Chunk.lp l e0 R0 L)::H1)∧Rd w' F' aw r v'∧Ext w F β ⟨aM,(lid,Chunk.lp l .gY R0 L)::H⟩ w' F' aw av:=by
   rintro jump e cH jg pn ⟨rfl,hW⟩;obtain ⟨F3,oS,k1,k2,k3,k4⟩:=aax;obtain ⟨F4,zv,_,_,_,k5⟩:=hW C2 a3 w3 ⟨F3,oS,k1,k2,fun _=>.χ,k4⟩;have hx:=k5.x
   have aaI:w.heap.size≤w3.heap.size:=by have:=hx.size;have h2:(w.putObj l ob).heap.size≤w3.heap.size:=this;rwa [ju] at h2
   have JQ:∀b,b<w.heap.size→¬br β H b→w3.heap[b]?=(w.putObj l ob).heap[b]?:=fun b hb ho=>hx.block b (by show b<(w.putObj l ob).heap.size;rw [ju];exact hb) ho;have QZ:∀b,F4 b→F b∨w.heap.size≤b∨br β H b:=fun b hb=>(hx.new b hb).imp id fun h=>h.imp (fun h=>by have h2:(w.putObj l ob).heap.size≤b:=h;rwa [ju] at h2) id;have Rc:∀b,br zv H1 b→w.heap.size≤b∨br β H b:=fun b hb=>(hx.owned b hb).imp (fun h=>by have h2:(w.putObj l ob).heap.size≤b:=h;rwa [ju] at h2) id
   have qx:w3.heap[l]?=some ob:=by rw [JQ l Ξ rE];exact Hh Ξ
   rw [Jz] at qx;have qt:=run_endRound (P:=P) jump qx;have aad:=jM qx
   have QW:¬F4 l:=fun hF=>by
    rcases QZ l hF with h|h|h
    ·exact xW h
    ·exact absurd Ξ (kZ.2 h)
    ·exact rE h
   have Jr:¬br zv H1 l:=fun ho=>by
    rcases Rc l ho with h|h
    ·exact absurd Ξ (kZ.2 h)
    ·exact rE h
   refine ⟨_,_,qt,_,rfl,_,⟨aM,(lid,Chunk.lp l e R0 L)::H1⟩,F4,zv,⟨rfl,rfl⟩,by rw [pn];exact .i (.v (.inl rfl)),?_⟩;have IU:=k5.inv;generalize mg:w3.putObj l _=w4
   have gx:∀b,b≠l→w4.heap[b]?=w3.heap[b]?:=fun b hb=>by rw [←mg];exact oi hb
   have Al:Inv w4 F4 zv H1:=by rw [←mg];exact Ke IU QW Jr
   have Ej:zv lid=.pointer (some ⟨l,0,none⟩):=(hx.fH lid DY).trans aj
   have Zh:fy F w w4:=fun b hb=>by
    have aS:b≠l:=fun e=>xW (e▸hb);rw [gx b aS,JQ b (IV.bW b hb) (fun ho=>IV.apart b ho hb),oi aS]
   have rI:w4.os=w.os:=by rw [←mg];exact hx.os
   have JW:iP w w4:=by rw [←mg];exact hx.tape
   have hou:w4.output=w.output:=by rw [←mg];exact hx.output
   have aaJ:w.heap.size≤w4.heap.size:=by rw [←mg,ju];exact aaI
   refine ⟨rI,JW,hou,aaJ,fun b hb ho=>?_,hx.mono,fun b hb=>(QZ b hb).imp id fun h=>h.imp id fun ⟨i,c,hm,hb⟩=>⟨i,c,cu _ hm,hb⟩,fun b ⟨i,c,hm,hb⟩=>?_,fun _ _ _=>.χ,⟨Al.bW,fun i c hm=>?_,vT fh,fun b ⟨i,c,hm,hb⟩ uP=>?_,fun i c i' c' b hm bE hb aH=>?_,Al.eN⟩,hx.fH⟩
   ·have aS:b≠l:=fun e=>ho ⟨lid,_,js ..,by rw [aj,e];rfl⟩;rw [gx b aS,JQ b hb (fun ⟨i,c,hm,hb⟩=>ho ⟨i,c,cu _ hm,hb⟩),oi aS]
   ·rcases bp.1 hm with hm|hm
    ·cases hm;exact .inr ⟨lid,_,js ..,by have h9:zv lid=β lid:=hx.fH lid DY;rw [←h9];exact hb⟩
    ·exact (Rc b ⟨i,c,hm,hb⟩).imp id fun ⟨i,c,hm,hb⟩=>⟨i,c,cu _ hm,hb⟩
   ·rcases bp.1 hm with hm|hm
    ·cases hm;refine ⟨fn,tmps,D,Ej,?_,hn,fun p hp=>?_⟩
     ·rw [←mg,Hh aad,cH,jg]
     ·have hpe:rl xE 2 p.2=p.2:=by
       have key:∀L':List (Nat×AV),(L'.map fun p=>(p.1,rl xE 2 p.2))=L'→∀p,p∈L'→rl xE 2 p.2=p.2:=by
        intro L';induction L' with
        |nil=>intro _ p hp;cases hp
        |cons q r ih =>
         intro he p hp;rw [eT,List.cons.injEq] at he
         rcases bp.1 hp with rfl|hp
         ·exact congrArg Prod.snd he.1
         ·exact ih he.2 p hp
       exact key L hL p hp
      exact YU (fun i hi=>hx.fH i hi) hpe ((hr p hp).frame Zh hx.mono)
    ·exact Al.holds i c hm
   ·rcases bp.1 hm with hm|hm
    ·cases hm;rw [Ej] at hb;cases hb;exact QW uP
    ·exact Al.apart b ⟨i,c,hm,hb⟩ uP
   ·rcases bp.1 hm with hm|hm<;>rcases bp.1 bE with bE|bE
    ·cases hm;cases bE;rfl
    ·cases hm;rw [Ej] at hb;cases hb;exact (Jr ⟨i',c',bE,aH⟩).elim
    ·cases bE;rw [Ej] at aH;cases aH;exact (Jr ⟨i,c,hm,hb⟩).elim
    ·exact Al.dR i c i' c' b hm bE hb aH
  cases e with
  |normal=>exact fin none .gY rfl rfl rfl oH
  |ret=>exact fin (some .ret) .ret rfl rfl rfl oH
  |exit i=>exact fin (some (.exit i)) (.ex i) rfl rfl rfl oH
  |goto t=>exact oH.elim
  |panic ch=>exact oH.elim
  |outgrown=>exact oH.elim
 |exit id=>exact hq.elim
 |goto t=>exact hq.elim
 |ret=>exact hq.elim
 |panic ch=>exact hq.elim
 |outgrown=>exact hq.elim
def qJ (n:Nat):Code→List RF
 |.seq a b=>qJ n a++qJ n b
 |.cond _ a b=>qJ n a++qJ n b
 |.block _ c=>qJ n c
 |.loop c=>qJ n c
 |.scope c=>qJ n c
 |.rangeFunc _ ps a b=>⟨ps,a,b,n⟩::(qJ n a++qJ n b)
 |_=>[]
def Ce (e:LS) (s:ai) (Q:Exit→ai→Prop):Prop:=match e with
 |.gY=>Q .normal s
 |.ret=>Q .ret s
 |.ex i=>Q (.exit i) s
 |.HI=>False
section
variable {ρ:Type} {X Y:Option ρ} {r:ρ} {e:LS} {s:ai} {Q:Exit→ai→Prop}
def acU (h:(if e=.gY then X else Y)=some r) (y:X=some r→Q .normal s) (n:Y=some r→Ce e s Q):Ce e s Q:=by
 by_cases he:e=.gY
 ·rw [if_pos he] at h;subst he;exact y h
 ·rw [if_neg he] at h;exact n h
def acV (h:(if e=.ret then X else Y)=some r) (y:X=some r→Q .ret s) (n:Y=some r→Ce e s Q):Ce e s Q:=by
 by_cases he:e=.ret
 ·rw [if_pos he] at h;subst he;exact y h
 ·rw [if_neg he] at h;exact n h
end
def sr.mem {f:Nat→AV}:∀{L:List (Nat×AV)},sr f L→∀p,p∈L→Le (f p.1) p.2
 |[],_,_,h=>by cases h
 |(t,x)::r,hh,p,h=>by
  rcases bp.1 h with h|h
  ·subst h;exact hh.1
  ·exact hh.2.mem p h
def Ok.rangeFunc {n lid gf:Nat} {g:Operand} {ps:Array Tmp} {assign body:Code} {R0:RF} {cs:List AV} {L:List (Nat×AV)} {st:ai} {Q:Exit→ai→Prop} (Zc:R0=⟨ps,assign,body,n⟩)
  (nN:ej lid 1000=true) (hg:ev (fun t=>er 2 lid (st.f t)) g=.c (.func gf) [] cs) (hL:sr (fun t=>er 2 lid (st.f t)) L)
  (h:∀l,Θ P (.f gf) (.c (.yield l) [] []::cs) ⟨fun t=>er 2 lid (st.f t),(lid,.lp l .gY R0 L)::gu lid st.H⟩ fun _ s=>∃e R' L',di lid s.H=some (.lp l e R' L')∧Ce e ⟨s.f,mT lid s.H⟩ Q) :
  Ok (R:=dW.no) P n (.rangeFunc g ps assign body) st Q:=by
 letI:dW:=dW.no
 refine ⟨fun C hn a w il=>?_⟩
 have nN:lid<1000:=by simpa using nN
 have AN:C.ro=none:=C.AN.resolve_right fun h=>h;obtain ⟨F,β,hs,_,hf,he⟩:=il;refine wpIn_rangeFunc fun fn _=>?_;have aay:(fa C.ro).round=none:=AN;rw [aay];obtain ⟨W1,iD⟩:∃W1,(w.alloc (.deferred (some []))).alloc (.loop { state:=.ready,pending:=none,fn,tmps:=a.tmps,params:=ps,assign,body,defers:=w.heap.size })=W1:=⟨_,rfl⟩
 have Za:W1.heap[w.heap.size+1]?=some (.loop { state:=.ready,pending:=none,fn,tmps:=a.tmps,params:=ps,assign,body,defers:=w.heap.size }):=by
  rw [←iD];have:=Wq (w.alloc (.deferred (some []))) (.loop { state:=.ready,pending:=none,fn,tmps:=a.tmps,params:=ps,assign,body,defers:=w.heap.size });rwa [World.size_alloc] at this
 have pj:W1.heap[w.heap.size]?=some (.deferred (some [])):=by
  rw [←iD];exact (N6 _ _ _ (by simp)).trans (Wq w _)
 have hold:∀b,b<w.heap.size→W1.heap[b]?=w.heap[b]?:=fun b hb=>by
  rw [←iD];exact (N6 _ _ _ (by simp;omega)).trans (N6 _ _ _ hb)
 have agV:W1.heap.size=w.heap.size+2:=by rw [←iD];simp
 let bL:Nat→Value:=fun i=>if i=lid then .pointer (some ⟨w.heap.size+1,0,none⟩) else β i;have hI:=he.inv;have Ao:fy F w W1:=fun b hb=>hold b (hI.bW b hb);have vP:∀i,i≠lid→bL i=β i:=fun i hi=>if_neg hi;have JL:∀t,Rd W1 F bL (er 2 lid (st.f t)) (a.tmps.getD t undef):=fun t=>qh vP 2 ((hf t).frame Ao fun _ h=>h)
 have kP:Ext w F β ⟨st.f,st.H⟩ W1 F bL ⟨fun t=>er 2 lid (st.f t),(lid,.lp (w.heap.size+1) .gY R0 L)::gu lid st.H⟩:=by
  refine ow nN hI (by rw [←iD];rfl) (by rw [←iD];exact ⟨rfl,fun _=>bm _⟩) (by rw [←iD];rfl) (by omega) (fun b hb _=>hold b hb) (fun i c' b _ hm hb=>hold b (hI.fj ⟨i,c',hm,hb⟩)) (fun b hb=>.inl ?_) ?_
  ·simp only [bF,CU] at hb;omega
  ·rw [Zc];exact ⟨fn,a.tmps,w.heap.size,if_pos rfl,Za,by show a.tmps.size=n;rw [hs,hn],fun p hp=>hL.mem p hp _ _ _ _ (JL p.1)⟩
 have Y_:=kP.inv
 have Z3:Rd W1 F bL (.c (.func gf) [] cs) (a.eval g):=by rw [←hg];exact xx JL g
 obtain ⟨us,ws,eC,eR,J6,_,hwr⟩:=Z3.lT;have e1:us=#[]:=qR (by simpa using eR);subst e1;have hc:=h (w.heap.size+1);obtain ⟨⟨YH,c0,dj,dg,uR⟩,ZA⟩:=hc
 have pF : ¬ YH.name = "runtime.NumGoroutine" := by simpa using dg
 refine ⟨w.heap.size+1,[{ target:=.collected w.heap.size,args:=#[] }],W1,{ target:=.fn (.func gf) ws,args:=#[.func (.yield (w.heap.size+1)) #[] #[]] },W1,gf,#[.func (.yield (w.heap.size+1)) #[] #[]]++ws,W1,?_,?_,fun _ _=>trivial,?_,fun h=>(by cases h),?_⟩
 ·rw [←iD];exact run_enterLoop_outer _ _ _ _ _
 ·simp only [resolve,eC];simp [go_sem]
 ·simp [invoke,callFunc,dj,pF,uR]
 refine sC (Calls.mono (ZA W1 F bL _ Y_ (by simp [J6];omega) fun i hi=>?_) ?_)
 ·cases i with
  |zero =>
   have h0:(#[Value.func (Fn.yield (w.heap.size+1)) #[] #[]]++ws).getD 0 undef=.func (.yield (w.heap.size+1)) #[] #[]:=by simp [n_]
   rw [h0];exact .i (.c rfl rfl (fun i hi=>absurd hi (ahv _)) (fun i hi=>absurd hi (ahv _)))
  |succ i =>
   have hi:i<cs.length:=by simpa using hi
   have h2:i<ws.size:=by omega
   have:=hwr i hi;simpa [n_,h2,aY] using this
 rintro e w' ⟨v,rfl,r,s,F',aw,⟨e,R',L',ZZ,hq⟩,hr,hx⟩;have hm:=eE ZZ;obtain ⟨P1,UO,D',ir,oE,_,_⟩:=hx.inv.holds lid _ hm
 have aS:e.st≠.busy:=by cases e<;>first|(intro h;cases h;done)|exact hq.elim
 have qt:=run_endLoop (P:=P) oE aS;obtain ⟨ob,Jz⟩:∃ob:Obj,w'.putObj (w.heap.size+1) ob=w'.putObj (w.heap.size+1) (.loop { state:=.exhausted,pending:=e.v_,fn:=P1,tmps:=UO,params:=R'.ps,assign:=R'.assign,body:=R'.body,defers:=D' }):=⟨_,rfl⟩;have qy:=jM oE;have rE:br aw s.H (w.heap.size+1):=⟨lid,_,hm,by rw [ir];rfl⟩;have xW:¬F' (w.heap.size+1):=hx.inv.apart _ rE
 have I':∀b,br aw (mT lid s.H) b→br aw s.H b∧b≠w.heap.size+1:=fun b ⟨i,c,jV,hb⟩=>by
  obtain ⟨h1,h2⟩:=sI.1 jV;exact ⟨⟨i,c,h1,hb⟩,fun e=>h2 (hx.inv.dR i c lid _ b h1 hm hb (by rw [ir,e];rfl))⟩
 generalize mg:w'.putObj (w.heap.size+1) (.loop { state:=.exhausted,pending:=e.v_,fn:=P1,tmps:=UO,params:=R'.ps,assign:=R'.assign,body:=R'.body,defers:=D' })=w4
 have ZS:(Instr.endLoop (w.heap.size+1)).run P w'=.ok e.v_ w4:=by rw [qt,←mg]
 have gx:∀b,b≠w.heap.size+1→w4.heap[b]?=w'.heap[b]?:=fun b hb=>by rw [←mg];exact oi hb
 have IU:Inv w4 F' aw (mT lid s.H):=by rw [←mg];exact Ke (hx.inv.mT lid) xW fun ho=>(I' _ ho).2 rfl
 have Zg:fy F' w' w4:=fun b hb=>gx b fun e=>xW (e▸hb);have ZL:Ext w' F' aw ⟨aM,s.H⟩ w4 F' aw ⟨aM,mT lid s.H⟩ :=
  ⟨by rw [←mg];rfl,by rw [←mg];exact ⟨rfl,fun _=>bm _⟩,by rw [←mg];rfl,by rw [←mg,ju];exact bm _,fun b _ ho=>gx b fun e=>ho (e▸rE),fun _ h=>h,fun _ h=>.inl h,fun b ho=>.inr (I' b ho).1,fun _ _ _=>.χ,IU,fun _ _=>rfl⟩
 have mX:=((he.trans kP).trans hx.no).trans ZL
 have IQ:¬br bL ((lid,Chunk.lp (w.heap.size+1) .gY R0 L)::gu lid st.H) w.heap.size:=fun ⟨i,c,jV,hb⟩=>by
  rcases bp.1 jV with jV|jV
  ·cases jV;rw [show bL lid=.pointer (some ⟨w.heap.size+1,0,none⟩) from if_pos rfl] at hb;simp only [bF,CU] at hb;omega
  ·obtain ⟨h1,c1,h2,_⟩:=gF jV;rw [vP i h1] at hb;exact absurd (hI.fj ⟨i,c1,h2,hb⟩) (Nat.lt_irrefl _)
 have JO:Rel C ⟨s.f,mT lid s.H⟩ { a with defers:=[{ target:=.collected w.heap.size,args:=#[] }]++a.defers } w4:=by
  have jj:C.ms ([{ target:=.collected w.heap.size,args:=#[] }]++a.defers)=[{ target:=.collected w.heap.size,args:=#[] }]++C.ms a.defers:=Ctx.abF he.sp;refine ⟨F',aw,hs,trivial,fun t=>((hx.keep t _ (JL t)).frame Zg fun _ h=>h),mX.x,fun d hd=>?_,?_,?_⟩
  ·rw [jj] at hd
   rcases iY.1 hd with hd|hd
   ·obtain rfl:=dV.1 hd;refine ⟨w.heap.size,rfl,he.x.size,?_,fun hF=>?_,fun ho=>?_⟩
    ·rw [gx _ (by omega),hx.block _ (by omega) IQ,pj]
    ·rcases hx.new _ hF with h|h|h
     ·exact absurd (hI.bW _ h) (Nat.lt_irrefl _)
     ·omega
     ·exact IQ h
    ·rcases hx.owned _ (I' _ ho).1 with h|h
     ·omega
     ·exact IQ h
   ·exact mX.m d hd
  ·rw [jj];refine List.nodup_append.2 ⟨by simp,he.nd,fun x θ y hy e=>?_⟩;obtain rfl:=dV.1 θ;subst e;obtain ⟨D2,q1,_,q3,_⟩:=he.m _ hy;have:=jM q3;simp only [Deferred.mk.injEq,ahx] at q1;omega
  ·obtain ⟨l,hl⟩:=he.sp;exact ⟨_::l,by rw [hl];rfl⟩
 refine ⟨e.v_,w4,ZS,?_⟩;cases e with
 |gY=>exact ⟨_,JO,hq⟩
 |ret=>exact wpIn_ret ⟨_,JO,hq⟩
 |ex i=>exact wpIn_exit ⟨_,JO,hq⟩
 |HI=>exact hq.elim
end
end
section
open Go.RowKit
def R0 {α:Type} {x:Option α}:fE x x:=fE.refl x
def I0 {α:Type} {p:Prop} [Decidable p] {x y x' y':Option α} (h:fE x y) (h':fE x' y'):fE (if p then x else x') (if p then y else y'):=fE.ite h h'
def lr {a:AV}:Le a a:=fun _ _ _ _ h=>h
def Q0:True:=True.intro
def Q1 {a:AV}:Le a a∧True:=⟨lr,Q0⟩
def Q2 {a b:AV}:Le a a∧Le b b∧True:=⟨lr,Q1⟩
def Q3 {a b c:AV}:Le a a∧Le b b∧Le c c∧True:=⟨lr,Q2⟩
def Q4 {a b c d:AV}:Le a a∧Le b b∧Le c c∧Le d d∧True:=⟨lr,Q3⟩
def Q5 {a b c d e:AV}:Le a a∧Le b b∧Le c c∧Le d d∧Le e e∧True:=⟨lr,Q4⟩
def Q6 {a b c d e f:AV}:Le a a∧Le b b∧Le c c∧Le d d∧Le e e∧Le f f∧True:=⟨lr,Q5⟩
def Q7 {a b c d e f g:AV}:Le a a∧Le b b∧Le c c∧Le d d∧Le e e∧Le f f∧Le g g∧True:=⟨lr,Q6⟩
def Q8 {a b c d e f g h:AV}:Le a a∧Le b b∧Le c c∧Le d d∧Le e e∧Le f f∧Le g g∧Le h h∧True:=⟨lr,Q7⟩
def hr {c:Chunk}:∃c0,some c=some c0∧gM c0 c:=⟨_,rfl,.refl _⟩
def J1 {a:Chunk}:(∃c0,some a=some c0∧gM c0 a)∧True:=⟨⟨_,rfl,.refl _⟩,Q0⟩
def J2 {a b:Chunk}:(∃c0,some a=some c0∧gM c0 a)∧(∃c0,some b=some c0∧gM c0 b)∧True:=⟨⟨_,rfl,.refl _⟩,J1⟩
def J3 {a b c:Chunk}:(∃c0,some a=some c0∧gM c0 a)∧(∃c0,some b=some c0∧gM c0 b)∧(∃c0,some c=some c0∧gM c0 c)∧True:=⟨⟨_,rfl,.refl _⟩,J2⟩
def J4 {a b c d:Chunk}:(∃c0,some a=some c0∧gM c0 a)∧(∃c0,some b=some c0∧gM c0 b)∧(∃c0,some c=some c0∧gM c0 c)∧(∃c0,some d=some c0∧gM c0 d)∧True:=⟨⟨_,rfl,.refl _⟩,J3⟩
def sj {α:Type} {a b:α} (h:some a=some b):b=a:=(j7 h).symm
section
variable [M:bU] [G:dC] [R:dW]
variable {P:Program} {n:Nat} {st:ai} {Q:Exit→ai→Prop} {T:TT}
def wT {c:Code} (L:List (Nat×AV)) (H':Hp) (a:sr st.f L) (b:uA st.H H') (k:iT H'=true) (h:Ok P n c ⟨Γ L,H'⟩ Q):Ok P n c st Q:=Ok.wk (Wk.tab a b k) h
def Sg {id:Nat} {ops:Array Oper} {y:Code} (hT:bB P T) (h:ix P T n ops ops.toList st (nx P n y Q .normal)):Ok P n (.seq (.region id ops false) y) st Q:=Ok.seq (Ok.region hT h)
def cn {x y:Code} {ρ:Type} {X Y:Option ρ} {r:ρ} (d:Nat) (b:Bool) (hb:st.f d=.v (.bool b)) (h:(if b=true then X else Y)=some r) (yes:b=true→X=some r→Ok P n x st Q) (no:b=false→Y=some r→Ok P n y st Q):Ok P n (.cond (.tmp d) x y) st Q:=Ok.cond hb h yes no
def sq {x y:Code} (h:Ok P n x st (nx P n y Q)):Ok P n (.seq x y) st Q:=Ok.seq h
def bl {id:Nat} {c:Code} (h:Ok P n c st (bk id Q)):Ok P n (.block id c) st Q:=Ok.block h
def sk (h:Q .normal st):Ok P n .skip st Q:=Ok.skip h
def rt (h:Q .ret st):Ok P n .ret st Q:=Ok.ret h
def xt {id:Nat} (h:Q (.exit id) st):Ok P n (.exit id) st Q:=Ok.exit h
def wt {L:List (Nat×AV)} {H':Hp} (hL:sr st.f L) (hH:uA st.H H') (hk:iT H'=true):Wk st ⟨Γ L,H'⟩:=Wk.tab hL hH hk
def po {g : Nat} {fn : Func} {args : List AV} {r : AV} (hT : bB P T) (n : Nat) (dj : P.funcs[g]? = some fn) (dg : (fn.name == "runtime.NumGoroutine") = false) (hb : fn.body = some (fn.body.getD .skip)) (hn : fn.ntmps = n) (hle : og args.length n = true)
  (h:Ok P n (fn.body.getD .skip) ⟨jZ args,[]⟩ (qj T fn.results.toList fun x st=>Fz st.H x r)):Pure P g args r:=acw hT dj dg hb hn (xb hle) h
def pw {g E K : Nat} {fn : Func} {args : List AV} {rows : List (List AV)} (hT : bB P T) (n : Nat) (dj : P.funcs[g]? = some fn) (dg : (fn.name == "runtime.NumGoroutine") = false) (hb : fn.body = some (fn.body.getD .skip)) (hn : fn.ntmps = n) (hle : og args.length n = true)
  (h:Ok P n (fn.body.getD .skip) ⟨jZ args,[]⟩ (qj T fn.results.toList (Hk E K rows))):jb P g args E K rows:=acv hT dj dg hb hn (xb hle) h
end
section
variable [M:bU] [G:dC]
variable {m:List (Nat×Nat)} {x x2 x3 x4:AV} {xs ys:List AV}
def n1 (t:iA m xs ys) (h:jB x=true:=by rfl):iA m (x::xs) (x::ys):=.cons (Ln.cq h) t
def n2 (t:iA m xs ys) (h:jB x=true:=by rfl) (h2:jB x2=true:=by rfl):iA m (x::x2::xs) (x::x2::ys):=n1 (n1 t h2) h
def n4 (t:iA m xs ys) (h:jB x=true:=by rfl) (h2:jB x2=true:=by rfl) (h3:jB x3=true:=by rfl) (h4:jB x4=true:=by rfl):iA m (x::x2::x3::x4::xs) (x::x2::x3::x4::ys):=n2 (n2 t h3 h4) h h2
def Sy:∀{xs:List AV},xs.all jB=true→iA m xs xs
 |[],_=>.nil
 |x::xs,h=>by
  rw [List.all_cons,bM] at h;exact .cons (Ln.cq h.1) (Sy h.2)
def nq (h:xs.all jB=true:=by rfl):iA m xs xs:=Sy h
def l1 (t:h_ xs ys):h_ (x::xs) (x::ys):=.cons (Le.refl _) t
def l2 (t:h_ xs ys):h_ (x::x2::xs) (x::x2::ys):=l1 (l1 t)
def l4 (t:h_ xs ys):h_ (x::x2::x3::x4::xs) (x::x2::x3::x4::ys):=l2 (l2 t)
def lz:h_ xs xs:=h_.refl xs
end
end
section
open Go.RowKit Go.Sort Go.Proofs
variable [M:bU] [G:dC] [R:dW]
def aen {α:Type} {cf:α→α→Int} (hw:SWO (fun x y=>decide (cf x y<0))) {l r s:List α} (h1:r.Perm l) (h2:r.Pairwise (fun x y=>cf x y<0)) (h3:s.Perm l) (h4:s.Pairwise (fun x y=>¬cf y x<0)):s=r:=by
 have Zo:∀{x y:α},cf x y<0→¬cf y x<0:=fun {x y} h1 h2=>by
  have:=hw.trans x y x (decide_eq_true h1) (decide_eq_true h2);have hi:=hw.irrefl x;rw [hi] at this;cases this
 have I6:∀a,a∈r→∀b,b∈r→a=b∨cf a b<0∨cf b a<0:=fun a ha b hb=>by
  obtain ⟨i,hi,rfl⟩:=zB.1 ha;obtain ⟨j,hj,rfl⟩:=zB.1 hb;have hp:=List.pairwise_iff_getElem.1 h2
  rcases Nat.lt_trichotomy i j with h|h|h
  ·exact .inr (.inl (hp i j hi hj h))
  ·subst h;exact .inl rfl
  ·exact .inr (.inr (hp j i hj hi h))
 refine List.Perm.eq_of_pairwise (le:=fun x y=>¬cf y x<0) (fun a b ha hb ic Zq=>?_) h4 (h2.imp fun h=>Zo h) (h3.trans h1.symm)
 rcases I6 a ((h3.trans h1.symm).mem_iff.1 ha) b hb with h|h|h
 ·exact h
 ·exact absurd h Zq
 ·exact absurd h ic
section
variable {P:Program}
def acn {f k E g:Nat} {α:Type} {enc:α→List AV} {c:α→α→Option Int} [zM c] {l r:List α} (hS:C9 P f k) (hf:oj P f)
  (hk:∀x,(enc x).length=k) (dH:∀x y n,c x y=some n→@Pure bU.yes G P g [.a (enc x),.a (enc y)] (.v (.int .i64 n)))
  (eg:∀args w,(callFunc g args).run P w=.ok (.enter g args) w) (h:Ci c l=some r) :
  lg P f [.o 1000,.c (.func g) [] []] (.own E k (l.map enc)) (fun x c=>x=.t []∧c=.own E k (r.map enc)):=by
 obtain ⟨fG,cf,hc,dy⟩:=adX h;obtain ⟨Rn,kr⟩:=Gh hc dy;refine ⟨hf,fun w F β vs hI hs iI=>?_⟩;have h0:=iI 0 (Nat.zero_lt_succ _);have h1:=iI 1 (Nat.lt_succ_self _);obtain ⟨a,n,cap,aj,e0⟩:=Rd.jo (id:=1000) h0;obtain ⟨us,ws,e1,eR,J6,_⟩:=Rd.lT (fn:=.func g) (fs:=[]) (cs:=[]) h1;have JZ:us=#[]:=qR (by simpa using eR);have aaT:ws=#[]:=qR (by simpa using J6);subst JZ;subst aaT
 have aaL:vs=#[.slice a n cap,.func (.func g) #[] #[]]:=by have:=O3 (vs:=vs) (by simpa using hs);rw [e0,e1] at this;exact this
 subst aaL;have hlen:=Rn.length_eq;have JM:∀W:World,∀F:Nat→Prop,bh W F (.t []) (.tuple #[]):=fun W F=>.t rfl fun i hi=>absurd hi (by simp);have hh:=hI.holds 1000 (.own E k (l.map enc)) (by simp)
 rcases hh with ⟨hr,a',ir⟩|⟨b,cp,cur,ir,Qu,hb,mb,l5,eO,AM,ek⟩
 ·have hl:l=[]:=by simpa using hr
  subst hl;rw [ir] at aj;cases aj;have cN:r=[]:=oW (by simpa using hlen);refine (hS.1 _ _ _ w).mono ?_;rintro e w' ⟨rfl,rfl⟩;exact ⟨_,rfl,_,_,F,⟨rfl,rfl⟩,JM _ _,rfl,iP.refl _,rfl,bm _,fun _ _ _=>rfl,fun _ h=>h,fun _ h=>.inl h,rfl,.inl ⟨by rw [cN];rfl,_,ir⟩⟩
 ·have hll:(l.map enc).length=l.length:=au _;rw [hll] at ir mb;rw [ir] at aj
  obtain ⟨ea,en,ec⟩:some (⟨b,0,none⟩:Addr)=a∧l.length=n∧cp=cap:=by simpa using aj
  subst ea;subst en;subst ec;have blt:b<w.heap.size:=jM hb
  have jQ:bF (β 1000)=some b:=by
   rw [ir]
   have h0:aG cp 0=false:=by cases cp<;>first|rfl|omega
   simp [bF,h0]
  have hnF:¬F b:=hI.apart b ⟨1000,.own E k (l.map enc),by simp,jQ⟩;let A:Type:={ p:List Value×α // p.1.length=k∧(∀v,v∈p.1→v.oneCell'=true)∧∀j,j<k→bh w F ((enc p.2).getD j .χ) (p.1.getD j undef) };let ev:A→List Value:=fun p=>p.1.1;have jy:∀i,(hi:i<l.length)→(((fM k).map fun j=>cur.getD (i*k+j) undef),l[i]).1.length=k∧(∀v,v∈(((fM k).map fun j=>cur.getD (i*k+j) undef),l[i]).1→v.oneCell'=true) ∧
    ∀j,j<k→bh w F ((enc (((fM k).map fun j=>cur.getD (i*k+j) undef),l[i]).2).getD j .χ) ((((fM k).map fun j=>cur.getD (i*k+j) undef),l[i]).1.getD j undef):=fun i hi=>by
   have e2:(l.map enc).getD i []=enc l[i]:=by simp [aY,hi]
   refine ⟨by simp,fun v hv=>?_,fun j hj=>?_⟩
   ·obtain ⟨j,hj,rfl⟩:=cV.1 hv;exact (ek i j (by simpa using hi) (List.mem_range.1 hj)).1
   ·have:=(ek i j (by simpa using hi) hj).2;rw [e2] at this
    have e3:((fM k).map fun j=>cur.getD (i*k+j) undef).getD j undef=cur.getD (i*k+j) undef:=by simp [aY,hj]
    dsimp only;rw [e3];exact this
  let l':List A:=List.ofFn fun i:Fin l.length=>(⟨(((fM k).map fun j=>cur.getD (i.1*k+j) undef),l[i.1]),jy i.1 i.2⟩:A)
  have rB:l'.length=l.length:=by simp [l']
  have aaj:l'.map (fun p=>p.1.2)=l:=by
   apply List.ext_getElem (by simp [l']);intro i h1 h2;simp [l']
  rcases nw l.length with hz|pH
  ·-- nothing to be sorted
   have AD:l=[]:=oW hz;subst AD;have cN:r=[]:=oW (by simpa using hlen);refine (hS.1 _ _ _ w).mono ?_;rintro e w' ⟨rfl,rfl⟩;exact ⟨_,rfl,_,_,F,⟨rfl,rfl⟩,JM _ _,rfl,iP.refl _,rfl,bm _,fun _ _ _=>rfl,fun _ h=>h,fun _ h=>.inl h,rfl,.inr ⟨b,cp,cur,by rw [cN];exact ir,Qu,hb,by rw [cN];exact Nat.zero_le _,l5,eO,by rw [cN];intro i hi;exact absurd hi (by simp),by rw [cN];intro i j hi;exact absurd hi (by simp)⟩⟩
  haveI:Inhabited A:=⟨l'[0]'(by omega)⟩
  let q8:A→A→Int:=fun x y=>cf x.1.2 y.1.2;have Rt:SWO (fun x y=>decide (q8 x y<0)):=⟨fun x=>hc.2.irrefl x.1.2,fun x y z=>hc.2.trans x.1.2 y.1.2 z.1.2,fun x y z=>hc.2.ntrans x.1.2 y.1.2 z.1.2⟩;have AB:∀x,(ev x).length=k:=fun x=>x.2.1;have ph:∀x,∀v∈ev x,v.oneCell'=true:=fun x=>x.2.2.1
  have l8:∀i (hi:i<l.length),l'[i]'(by omega)=(⟨(((fM k).map fun j=>cur.getD (i*k+j) undef),l[i]),jy i hi⟩:A):=fun i hi=>by simp [l']
  have hH:HoldsK ev k w b 0 l'.toArray:=fun j hj=>by
   rw [size_flatK] at hj
   have iH:j<l.length*k:=by simpa [rB] using hj
   have lC:0<k:=(nw k).elim (fun h=>by subst h;simp at iH) fun h=>h;have hq:j/k<l.length:=(Nat.div_lt_iff_lt_mul lC).2 iH;have hm:j % k<k:=Nat.mod_lt _ lC
   have hjj:j/k*k+j % k=j:=by rw [mL];exact Nat.div_add_mod j k
   have QO:j<cur.size:=by rw [eO];exact mJ iH (bT k mb)
   refine ⟨?_,?_⟩
   ·rw [get_flatK _ _ _ _ (by simpa [rB] using iH),cell_of_row w b _ cur E (0,0) hb]
    have e2:l'.toArray[j/k]! = l'[j/k]'(by omega):=by rw [getElem!_pos _ _ (by simpa [rB] using hq)];simp
    rw [e2,l8 _ hq];show cur[0+j]?=some (((fM k).map fun q=>cur.getD (j/k*k+q) undef)[j % k]!);rw [getElem!_pos _ _ (by simpa using hm)];simp [hjj,QO]
   ·simp [World.frozen?,hb]
  have agree:∀(m:Nat) (os:Array Obj) (dk:Array A),fy F w (sortWorldK ev k w b 0 m dk os):=fun m os dk b' aH=>QC (fun e=>hnF (e▸aH)) (hI.bW b' aH)
  have Rs:=hS.2 A ev AB ph q8 Rt g #[] b 0 cp l'.toArray w eg (fun m os dk _ x y=>by
    let W:=sortWorldK ev k w b 0 m dk os;have Y9:Inv W F (fun _=>undef) []:=⟨fun b' aH=>mJ (hI.bW b' aH) Un,fun _ _ h=>by simp at h,by simp,fun _ ⟨_,_,h,_⟩=>by simp at h,fun _ _ _ _ _ h=>by simp at h,hI.eN.at (agree m os dk)⟩
    have rd:∀z:A,Rd W F (fun _=>undef) (.a (enc z.1.2)) (.agg (ev z).toArray):=fun z=>by
     have lF:(ev z).length=k:=AB z;refine .i (.a (by simp [lF,hk]) (fun i hi=>?_) fun i hi=>?_)
     ·have bj:i<(ev z).length:=by rw [lF,←hk z.1.2];exact hi
      have:(ev z).toArray.getD i undef=(ev z)[i]:=by simp [ug,bj]
      rw [this];exact ph z _ (eH bj)
     ·have bj:i<(ev z).length:=by rw [lF,←hk z.1.2];exact hi
      have e:(ev z).toArray.getD i undef=(ev z).getD i undef:=by simp [ug,aY,bj]
      rw [e];exact (z.2.2.2 i (by rw [←hk z.1.2];exact hi)).frame (agree m os dk) fun _ h=>h
    have hp:=(dH x.1.2 y.1.2 (cf x.1.2 y.1.2) (hc.1 _ _)).2 W F (fun _=>undef) #[.agg (ev x).toArray,.agg (ev y).toArray] Y9 rfl (fun i hi=>by
     match i,hi with
     |0,_=>exact rd x
     |1,_=>exact rd y
     |n+2,hi=>exact absurd hi (by simp))
    refine (show Calls P g (#[.agg (ev x).toArray,.agg (ev y).toArray]++#[]) W _ from hp).mono ?_;rintro e w' ⟨v,rfl,hb,hr⟩;refine ⟨?_,hb.YZ⟩
    cases hr with|v h=>rfl) hH blt (by simp [rB];omega)
  have aZ:l'.toArray.size=l.length:=by simp [rB]
  rw [aZ] at Rs;refine (show Calls P f #[.slice (some ⟨b,0,none⟩) l.length cp,.func (.func g) #[] #[]] w _ from Rs).mono ?_;rintro e w' ⟨rfl,n,os,rfl⟩
  have cj:pdq (fun x y=>decide (q8 x y<0)) l'.toArray 0 l.length (Lib.bitLen l.length) true true=(wM q8 l').toArray:=by simp [wM,rB]
  simp only [cj];obtain ⟨AH,D_⟩:=adV Rt l';have te:(wM q8 l').map (fun p=>p.1.2)=r:=aen hc.2 Rn kr (by have:=AH.map (fun p:A=>p.1.2);rw [aaj] at this;exact this) (by rw [List.pairwise_map];exact D_);generalize dL:wM q8 l'=s at te AH D_
  have AQ:s.length=l.length:=by rw [AH.length_eq,rB]
  have Zp:=ZQ (enc:=ev) (k:=k) (off:=0) (n:=n) (d:=s.toArray) (os:=os) hb;subst te;have jx:(s.map fun p=>p.1.2).length=s.length:=au _;refine ⟨_,rfl,_,_,F,⟨rfl,rfl⟩,JM _ _,rfl,⟨rfl,fun _=>Nat.le_add_right _ _⟩,rfl,Un,fun c hc aS=>QC (fun h=>aS (by rw [jQ,h])) hc,fun _ h=>h,fun _ h=>.inl h,?_,.inr ⟨b,cp,_,?_,Qu,Zp,?_,l5,?_,?_,?_⟩⟩
  ·rfl
  ·rw [ir,au,jx,AQ]
  ·rw [au,jx,AQ];exact mb
  ·simp [putCells,eO]
  ·intro i hi;rw [au,jx] at hi;simp [aY,hi,hk]
  ·intro i j hi hj;rw [au,jx] at hi
   have sX:i<l.length:=by omega
   have l9:i*k+j<l.length*k:=by
    have:=bT k (show i+1≤l.length from sX);rw [Nat.add_mul,Nat.one_mul] at this;omega
   have QK:i*k+j<cur.size:=by rw [eO];exact mJ l9 (bT k mb)
   have lC:0<k:=by omega
   have e4:(i*k+j)/k=i:=by rw [mL,Nat.mul_add_div lC,Nat.div_eq_of_lt hj];rfl
   have e5:(i*k+j) % k=j:=by rw [mL,Nat.mul_add_mod,Nat.mod_eq_of_lt hj]
   have xX:i*k+j<s.length*k:=by rw [AQ];exact l9
   have e6:(putCells id 0 (flatK ev k s.toArray) cur).getD (i*k+j) undef=(ev s[i]).getD j undef:=by
    have:(putCells id 0 (flatK ev k s.toArray) cur)[i*k+j]?=some ((ev s[i]).getD j undef):=by
     unfold putCells;rw [Array.getElem?_mapIdx,Array.getElem?_eq_getElem QK];have hc:0≤i*k+j∧i*k+j<0+(flatK ev k s.toArray).size:=⟨Nat.zero_le _,by rw [size_flatK];simpa using xX⟩;rw [Option.map_some,if_pos hc,Nat.sub_zero,get_flatK _ _ _ _ (by simpa using xX),e4,e5]
     have e2:s.toArray[i]! = s[i]:=by rw [getElem!_pos _ _ (by simpa using hi)];simp
     rw [e2];show some ((ev s[i])[j]!)=_;rw [getElem!_pos _ _ (by rw [AB];exact hj)];simp [aY,AB,hj]
    rw [Array.getD_eq_getD_getElem?,this];rfl
   have e7:((s.map fun p=>p.1.2).map enc).getD i []=enc s[i].1.2:=by simp [aY,hi]
   rw [e6,e7]
   have QM:j<(ev s[i]).length:=by rw [AB];exact hj
   have e8:(ev s[i]).getD j undef=(ev s[i])[j]:=by simp [aY,QM]
   refine ⟨by rw [e8];exact ph s[i] _ (eH QM),?_⟩;exact (s[i].2.2.2 j hj).frame (agree n os s.toArray) fun _ h=>h
end
end
end Go.Cat
