/- The logic that the walks are in, piece P6. No condition. -/
import Derived.Test.YtdcgbodbejgliaaGreatDoorXTopPacksCatP5
import Derived.Laws.AppendOwn
import Derived.Shelf.SlIterI.Nil
import Derived.Shelf.SortM.Plain
import Derived.Shelf.SortM.SortNone
import Derived.RangeFuncBox
import Derived.RangeFuncWrites
import Derived.RangeFuncLeaves
open Array renaming eq_empty_of_size_eq_zero → ud, getElem?_append → pX, getD → xz
open Bool renaming and_eq_true → bJ, not_eq_true' → oW
open Go.RowKit renaming Below → Rx
open Go.RowKit.Below renaming heap_alloc → Ry
open Go.Target.collected renaming injEq → al9
open Go.Value renaming int → dC
open Go.World renaming putObj_size → j5, putObj_heap_other → p6, putObj_heap_same → LJ, alloc_heap_new → aap
open List renaming length_map → ax, mem_cons_of_mem → cj, mem_cons → bj, getD → aV, mem_singleton → dB, pairwise_cons → eK, mem_map → dq, all_eq_true → ej, getElem_mem → ek, not_mem_nil → eJ, mem_append → gp, mem_cons_self → j2, nodup_cons → ix, range → gA, map_cons → jI, eq_nil_of_length_eq_zero → qL, any_eq_false → p0, nodup_nil → qO, mem_iff_getElem → Da, perm_cons → al8
open Nat renaming mul_le_mul_right → cI, eq_of_beq_eq_true → cW, beq → aH, le_refl → bG, eq_zero_or_pos → oY, blt → eO, blt_eq → gO, beq_refl → iY, lt_of_lt_of_le → oh, mul_comm → oi, not_lt → mr, le_of_ble_eq_true → Aw, ble → p4, not_lt_zero → al7
open Option.some renaming inj → nu, injEq → G_
namespace Go.Cat
set_option linter.all false
section
open Go.RowKit
variable [M:cM] [G:dX] [R:eE]
section
variable {P:Program}
def Fz.w {H:Hp} {id E K d:Nat} {rows:List (List AV)} (h:dO id H=some (.own E K rows)):Fz H (.w id K d) (.s (rows.drop d)):=fun w F β u hI hr=>by
 obtain ⟨a,a',n,c,ai,hd,ha,rfl⟩:=hr.xw;have hm:=fc h
 rcases hI.holds _ _ hm with ⟨rfl,a2,hv⟩|⟨g,cap,cur,hv,hc,hg,hn,gu,hs,hK,hr⟩
 ·rw [ai] at hv;cases hv
  have:d=0:=by omega
  subst this;exact .s0
 ·rw [ai] at hv;cases hv
  have h0:aH c 0=false:=by cases c<;>first|rfl|omega
  have eP:=(JG (hI.holds _ _ hm) ai).2.2.2;obtain ⟨u,hu⟩:=eP
  have hlen:(rows.drop d).length=rows.length-d:=by simp
  by_cases hdc:d<c
  ·have ha:=ha hdc;subst ha
   have e:(Option.map (·.add (d*K)) (some (⟨g,0,none⟩:Addr)))=some ⟨g,d*K,none⟩:=by simp [Addr.add_lit]
   rw [e,←hlen]
   have jE:∀i,i<(rows.drop d).length→(rows.drop d).getD i []=rows.getD (d+i) []:=fun i hi=>by simp [aV,List.getElem?_drop]
   refine .s (off:=d*K) (k:=K) (u:=fun i j=>u (d+i) j) (.inr ⟨id,_,hm,by rw [ai];simp [bP,h0]⟩) (by omega) (by omega) (fun i hi=>?_) (fun i j hi hj=>?_) (fun i j hi hj=>?_) fun i j hi hj=>?_
   ·rw [jE i hi];exact hK _ (by omega)
   ·have:=(hu (d+i) j (by omega) hj).1;rw [←this];congr 2;rw [Nat.add_mul];omega
   ·exact (hu (d+i) j (by omega) hj).2.1
   ·rw [jE i hi];exact (hu (d+i) j (by omega) hj).2.2.frame (fun _ _=>rfl) fun _ h=>.inl h
  ·have Ng:rows.length-d=0:=by omega
   have ar:c-d=0:=by omega
   have:rows.drop d=[]:=qL (by omega);rw [Ng,ar,this];exact .s0
def Fz.wm {α:Type} {f:α→List AV} {l:List α} {H:Hp} {id E K d:Nat} (h:dO id H=some (.own E K (l.map f))):Fz H (.w id K d) (.s ((l.drop d).map f)):=by
 rw [List.map_drop];exact Fz.w h
end
section
variable {P:Program}
def aas (P:Program) (g k1:Nat):Prop:=∀(b:Nat) (w:World),
 Calls P g #[.map (some b)] w fun e w'=>e=.returned (.func (.func k1) #[] #[.pointer (some ⟨w.heap.size,0,none⟩)])∧∃T,w'=w.alloc (.cells #[.map (some b)] T)
def ak3 (P:Program) (g k1 E:Nat):Prop:=∀(w:World) (Bm b:Nat) (es:Array MapEntry) (ck:Nat) (ks:List Int),w.cell? ⟨Bm,0,none⟩=some (.map (some b))→Bm<w.heap.size →
 w.heap[b]?=some (.map es ck)→Go.MapKept.Stamped es ck→es.toList.map (·.key)=ks.map (dC .i64)→(∀n,n∈ks→Ξ n)→ks.length*8≤140737488355328 →
 Calls P g #[.func (.func k1) #[] #[.pointer (some ⟨Bm,0,none⟩)]] w fun e w'=>∃v,e=.returned v ∧
  w'.ownsRow w.heap.size E 1 v ks.length ((ks.mergeSort fun x y=>decide (x≤y)).map (dC .i64))∧Rx w.heap.size w w'
def ae.keys {g k1 id D:Nat} {ag:Bool} {rows:List (Int×List AV)} {st:ah} {k:AV→ah→Prop} (hS:aas P g k1) (hE:p7 P g) (hc:dO id st.H=some (.mp ag rows)) (hD:eO D 1000=true) (aQ:aH id D=false)
  (hk:k (.c (.func k1) [] [.b D 0]) (gR st D (.box [.m id]))):ae P g [.m id] st k:=by
 refine ⟨hE,fun w F β vs hI hs hv=>?_⟩
 have acT:id≠D:=fun e=>by rw [e,iY] at aQ;cases aQ
 obtain ⟨b,ai,Oo⟩:=(hv 0 (by simp)).zD
 have jk:vs=#[.map (some b)]:=by
  apply Array.ext
  ·simpa using hs
  ·intro i h1 h2;have h2:i<1:=h2
   have:i=0:=by omega
   subst this;simpa [xz,h1] using Oo
 subst jk;refine (hS b w).mono ?_;rintro e w' ⟨rfl,T,rfl⟩;have hb:=vV w (.cells #[.map (some b)] T);have eU:(w.alloc (.cells #[.map (some b)] T)).heap[w.heap.size]?=some (.cells #[.map (some b)] T):=(Go.MapKept.heap_alloc w _).1
 refine ⟨_,rfl,_,_,F,fun q=>if q=D then .pointer (some ⟨w.heap.size,0,none⟩) else β q,hk,.c rfl rfl (fun i hi=>by simp at hi) (fun i hi=>?_),qd (v:=.pointer (some ⟨w.heap.size,0,none⟩)) (by simpa using hD) hI hb.os hb.tape hb.output hb.size (fun b aJ _=>hb.block b aJ)
  (fun i c' b _ hm aJ=>hb.block b (hI.fJ ⟨i,c',hm,aJ⟩)) (fun b aJ=>.inl ?_) ?_⟩
 ·have hi:i<1:=by simpa using hi
  have:i=0:=by omega
  subst this;exact .b (by simp)
 ·simp [bP] at aJ;omega
 ·refine ⟨w.heap.size,#[.map (some b)],T,by simp,eU,rfl,fun i hi=>?_,fun i hi=>?_⟩
  ·have hi:i<1:=by simpa using hi
   have:i=0:=by omega
   subst this;rfl
  ·have hi:i<1:=by simpa using hi
   have:i=0:=by omega
   subst this;exact .m (by simp [acT,ai])
end
end
section
open Go.RowKit Go.Proofs Go.Shelf Go.Maps Go.Sort
open Go.WideElems (Fit rg)
def alx (_:Value):Option (DataW Unit×List MemPlace):=some (.lit (.bool false),[])
end
section
variable [M:cM] [G:dX] [R:eE]
end
section
open Go.RowKit
variable [M:cM] [G:dX] [R:eE]
def cX:List (Nat×Nat)→Nat→Option Nat
 |[],_=>none
 |(i,j)::r,x=>bif aH x i then some j else cX r x
def at_mem {i j:Nat}:∀{m:List (Nat×Nat)},cX m i=some j→(i,j)∈m
 |[],h=>by cases h
 |(a,b)::r,h=>by
  simp only [cX] at h;cases hb:aH i a with
  |true=>rw [hb] at h;cases h;rw [cW hb];simp
  |false=>rw [hb] at h;exact cj _ (at_mem h)
def Hu {i j:Nat}:∀{m:List (Nat×Nat)},(m.map (·.1)).Nodup→(i,j)∈m→cX m i=some j
 |[],_,h=>by cases h
 |(a,b)::r,hn,h=>by
  simp only [jI,ix] at hn;simp only [cX]
  rcases bj.1 h with h|h
  ·cases h;rw [iY];rfl
  ·have:aH i a=false:=by
    cases hb:aH i a with
    |false=>rfl
    |true=>exact absurd (dq.2 ⟨_,h,cW hb⟩) hn.1
   rw [this];exact Hu hn.2 h
def rl (φ:Nat→Option Nat):Nat→AV→AV
 |n,x=>match x with
  |.b i o=>match φ i with
   |some j=>.b j o
   |none=>.χ
  |.o i=>match φ i with
   |some j=>.o j
   |none=>.χ
  |.e i K m o=>match φ i with
   |some j=>.e j K m o
   |none=>.χ
  |.w i K d=>match φ i with
   |some j=>.w j K d
   |none=>.χ
  |.m i=>match φ i with
   |some j=>.m j
   |none=>.χ
  |.a cs=>match n with
   |0=>.χ
   |n+1=>.a (cs.map (rl φ n))
  |.t cs=>match n with
   |0=>.χ
   |n+1=>.t (cs.map (rl φ n))
  |.c fn fs cs=>match n with
   |0=>.χ
   |n+1=>.c fn (fs.map (rl φ n)) (cs.map (rl φ n))
  |.v x=>.v x
  |.s r=>.s r
  |.p c=>.p c
  |.z=>.z
  |.χ=>.χ
def Pw (φ:Nat→Option Nat):Chunk→Chunk
 |.box cells=>.box (cells.map (rl φ 2))
 |.own E k rows=>.own E k rows
 |.mp ag rows=>.mp ag rows
 |.lp l e R L=>.lp l e R (L.map fun p=>(p.1,rl φ 2 p.2))
 |.si s pos=>.si s pos
def ia (φ:Nat→Option Nat):Hp→Hp
 |[]=>[]
 |(i,c)::r=>match φ i with
  |some j=>(j,Pw φ c)::ia φ r
  |none=>ia φ r
section
variable {P:Program} {T:TT} {w:World} {F:Nat→Prop} {β av:Nat→Value}
def zW {φ:Nat→Option Nat} (ai:∀i j,φ i=some j→av j=β i):∀(n:Nat) {x:AV} {u:Value},Rd w F β x u→Rd w F av (rl φ n x) u:=by
 have one:∀{i:Nat} {f:Nat→AV} {u:Value},(∀j,φ i=some j→Rd w F av (f j) u)→Rd w F av (match φ i with|some j=>f j|none=>.χ) u:=fun h=>by
  split
  ·exact h _ (by assumption)
  ·exact .χ
 have leaf:∀{n:Nat} {x:AV} {u:Value},Rd w F β x u→(∀cs,x≠.a cs)→(∀cs,x≠.t cs)→(∀g fs cs,x≠.c g fs cs)→Rd w F av (rl φ n x) u:=by
  intro n x u h h1 h2 h3;cases x with
  |v x=>cases h with|i h=>cases h;cases n<;>exact .i (.v (by assumption))
  |s r=>cases n<;>exact .i h.oR
  |p c=>cases n<;>exact .i h.BW
  |z=>obtain ⟨a,rfl⟩:=h.Aq;cases n<;>exact .i .z
  |χ=>cases n<;>exact .χ
  |a cs=>exact absurd rfl (h1 cs)
  |t cs=>exact absurd rfl (h2 cs)
  |c g fs cs=>exact absurd rfl (h3 g fs cs)
  |b i o =>
   obtain ⟨eZ,hb,rfl⟩:=h.mM;cases n<;>exact one fun j hj=>.b ((ai i j hj).trans hb)
  |o i =>
   obtain ⟨a,k,c,hb,rfl⟩:=h.jY;cases n<;>exact one fun j hj=>.o ((ai i j hj).trans hb)
  |e i K m o =>
   obtain ⟨g,k,c,hb,rfl⟩:=h.AR;cases n<;>exact one fun j hj=>.e ((ai i j hj).trans hb)
  |w i K d =>
   obtain ⟨a,a',k,c,hb,hd,ha,rfl⟩:=h.xw;cases n<;>exact one fun j hj=>.w ((ai i j hj).trans hb) hd ha
  |m i =>
   obtain ⟨b,hb,rfl⟩:=h.zD;cases n<;>exact one fun j hj=>.m ((ai i j hj).trans hb)
 intro n;induction n with
 |zero =>
  intro x u h;cases x with
  |a cs=>exact .χ
  |t cs=>exact .χ
  |c g fs cs=>exact .χ
  |_=>exact leaf h (by simp) (by simp) (by simp)
 |succ n ih =>
  have get:∀(l:List AV) (i:Nat),i<l.length→(l.map (rl φ n)).getD i .χ=rl φ n (l.getD i .χ):=fun l i hi=>by simp [aV,hi]
  intro x u h;cases x with
  |a cs =>
   show Rd w F av (.a (cs.map (rl φ n))) u;obtain ⟨us,rfl,hs,h1,hr⟩:=h.qS;refine .a (by simpa using hs) (fun i hi=>h1 i (by simpa using hi)) fun i hi=>?_
   have hi:i<cs.length:=by simpa using hi
   rw [get cs i hi];exact ih (hr i hi)
  |t cs =>
   show Rd w F av (.t (cs.map (rl φ n))) u;obtain ⟨us,rfl,hs,hr⟩:=h.Cy;refine .t (by simpa using hs) fun i hi=>?_
   have hi:i<cs.length:=by simpa using hi
   rw [get cs i hi];exact ih (hr i hi)
  |c g fs cs =>
   show Rd w F av (.c g (fs.map (rl φ n)) (cs.map (rl φ n))) u;obtain ⟨us,vs,rfl,hs,ez,hr,cK⟩:=h.nB;refine .c (by simpa using hs) (by simpa using ez) (fun i hi=>?_) fun i hi=>?_
   ·have hi:i<fs.length:=by simpa using hi
    rw [get fs i hi];exact ih (hr i hi)
   ·have hi:i<cs.length:=by simpa using hi
    rw [get cs i hi];exact ih (cK i hi)
  |_=>exact leaf h (by simp) (by simp) (by simp)
def rlC_holds {φ:Nat→Option Nat} (ai:∀i j,φ i=some j→av j=β i) {i j:Nat} (eT:φ i=some j) {c:Chunk} (h:c.holds w F β i):(Pw φ c).holds w F av j:=by
 cases c with
 |box cells =>
  obtain ⟨b,cs,e,hb,hh,hs,h1,hr⟩:=h;refine ⟨b,cs,e,(ai i j eT).trans hb,hh,by simpa using hs,fun q hq=>h1 q (by simpa using hq),fun q hq=>?_⟩
  have hq:q<cells.length:=by simpa using hq
  have:(cells.map (rl φ 2)).getD q .χ=rl φ 2 (cells.getD q .χ):=by simp [aV,hq]
  rw [this];exact zW ai 2 (hr q hq)
 |own E k rows=>exact pI (c:=.own E k rows) rfl (fun _ h=>h) (ai i j eT) h
 |mp ag rows=>exact pI (c:=.mp ag rows) rfl (fun _ h=>h) (ai i j eT) h
 |si s pos=>exact pI (c:=.si s pos) rfl (fun _ h=>h) (ai i j eT) h
 |lp l e R L =>
  obtain ⟨fn,tmps,D,hb,hh,hn,hr⟩:=h;refine ⟨fn,tmps,D,(ai i j eT).trans hb,hh,hn,fun p hp=>?_⟩;obtain ⟨q,hq,rfl⟩:=dq.1 hp;exact zW ai 2 (hr q hq)
def na {φ:Nat→Option Nat} {j:Nat} {c:Chunk}:∀{H:Hp},(j,c)∈ia φ H→∃i c0,(i,c0)∈H∧φ i=some j∧c=Pw φ c0
 |[],h=>by cases h
 |(i,c0)::r,h=>by
  simp only [ia] at h;split at h
  ·rename_i j' hj
   rcases bj.1 h with h|h
   ·cases h;exact ⟨i,c0,by simp,hj,rfl⟩
   ·obtain ⟨i',c',h1,h2⟩:=na h;exact ⟨i',c',cj _ h1,h2⟩
  ·obtain ⟨i',c',h1,h2⟩:=na h;exact ⟨i',c',cj _ h1,h2⟩
def Ln (m:List (Nat×Nat)) (x y:AV):Prop:=∀(w:World) (F:Nat→Prop) (β du:Nat→Value) (u:Value),(∀i j,cX m i=some j→du i=β j)→Rd w F β x u→Rd w F du y u
inductive i_ (m:List (Nat×Nat)):List AV→List AV→Prop where
 |nil:i_ m [] []
 |cons {x y:AV} {xs ys:List AV} (h:Ln m x y) (t:i_ m xs ys):i_ m (x::xs) (y::ys)
def i_.spec {m:List (Nat×Nat)} {xs ys:List AV} (h:i_ m xs ys):xs.length=ys.length∧∀i,i<xs.length→Ln m (xs.getD i .χ) (ys.getD i .χ):=by
 induction h with
 |nil=>exact ⟨rfl,fun i hi=>by simp at hi⟩
 |cons h t ih =>
  refine ⟨by simp [ih.1],fun i hi=>?_⟩;cases i with
  |zero=>simpa using h
  |succ i=>simpa using ih.2 i (by simpa using hi)
section
variable {m:List (Nat×Nat)}
def Ln.dL {x:AV} (h:kg x=true):Ln m x x:=fun _ _ _ _ _ _ hr=>.i (I' h hr)
def Ln.χ {x:AV}:Ln m x .χ:=fun _ _ _ _ _ _ _=>.χ
def Ln.nil:Ln m (.v (.slice none 0 0)) (.s []):=fun _ _ _ _ _ _ hr=>by rw [hr.bK];exact .i .s0
def Ln.z:Ln m .z (.s []):=fun _ _ _ _ _ _ hr=>by obtain ⟨a,rfl⟩:=hr.Aq;exact .i .s0
def Ln.b {i j off:Nat} (h:cX m i=some j):Ln m (.b j off) (.b i off):=fun _ _ _ _ _ ai hr=>by
 obtain ⟨eZ,h1,rfl⟩:=hr.mM;exact .b ((ai i j h).trans h1)
def Ln.o {i j:Nat} (h:cX m i=some j):Ln m (.o j) (.o i):=fun _ _ _ _ _ ai hr=>by
 obtain ⟨a,n,c,h1,rfl⟩:=hr.jY;exact .o ((ai i j h).trans h1)
def Ln.mm {i j:Nat} (h:cX m i=some j):Ln m (.m j) (.m i):=fun _ _ _ _ _ ai hr=>by
 obtain ⟨b,h1,rfl⟩:=hr.zD;exact .m ((ai i j h).trans h1)
def Ln.a {xs ys:List AV} (h:i_ m xs ys):Ln m (.a xs) (.a ys):=fun _ _ _ _ _ ai hr=>by
 obtain ⟨us,rfl,hs,h1,hu⟩:=hr.qS;obtain ⟨hl,hz⟩:=h.spec;exact .a (by omega) (fun i hi=>h1 i (by omega)) fun i hi=>hz i (by omega) _ _ _ _ _ ai (hu i (by omega))
def Ln.t {xs ys:List AV} (h:i_ m xs ys):Ln m (.t xs) (.t ys):=fun _ _ _ _ _ ai hr=>by
 obtain ⟨us,rfl,hs,hu⟩:=hr.Cy;obtain ⟨hl,hz⟩:=h.spec;exact .t (by omega) fun i hi=>hz i (by omega) _ _ _ _ _ ai (hu i (by omega))
def Ln.c {fn:Fn} {fs DM cs Dz:List AV} (h:i_ m fs DM) (h':i_ m cs Dz):Ln m (.c fn fs cs) (.c fn DM Dz):=fun _ _ _ _ _ ai hr=>by
 obtain ⟨us,vs,rfl,hs,ez,hu,hv⟩:=hr.nB;obtain ⟨hl,hz⟩:=h.spec;obtain ⟨uN,iT⟩:=h'.spec;exact .c (by omega) (by omega) (fun i hi=>hz i (by omega) _ _ _ _ _ ai (hu i (by omega))) fun i hi=>iT i (by omega) _ _ _ _ _ ai (hv i (by omega))
end
def Hh (m:List (Nat×Nat)):List (Nat×AV)→List (Nat×AV)→Prop
 |[],[]=>True
 |(t,x)::a,(t',y)::b=>t=t'∧Ln m x y∧Hh m a b
 |_,_=>False
def Hh.mem {m:List (Nat×Nat)}:∀{a b:List (Nat×AV)},Hh m a b→∀p,p∈b→∃x,(p.1,x)∈a∧Ln m x p.2
 |[],[],_,_,h=>by cases h
 |(t,x)::a,(t',y)::b,hh,p,h=>by
  obtain ⟨rfl,h1,h2⟩:=hh
  rcases bj.1 h with h|h
  ·subst h;exact ⟨x,j2 ..,h1⟩
  ·obtain ⟨x',h3,h4⟩:=h2.mem p h;exact ⟨x',cj _ h3,h4⟩
 |[],_::_,hh,_,_=>hh.elim
 |_::_,[],hh,_,_=>hh.elim
inductive Cn (m:List (Nat×Nat)):Chunk→Chunk→Prop where
 |refl {c:Chunk} (h:AO c=true):Cn m c c
 |box {a b:List AV} (h:i_ m a b):Cn m (.box a) (.box b)
 |lp {l:Nat} {e e':LS} {R:RF} {a b:List (Nat×AV)} (he:e=e') (h:Hh m a b):Cn m (.lp l e R a) (.lp l e' R b)
def Cn.holds {m:List (Nat×Nat)} {c c0:Chunk} {i j:Nat} (h:Cn m c c0) (ai:∀i j,cX m i=some j→av i=β j) (eT:cX m i=some j) (hc:c.holds w F β j):c0.holds w F av i:=by
 cases h with
 |refl h=>exact pI h (fun _ h=>h) (ai i j eT) hc
 |box h =>
  obtain ⟨b,cs,e,hb,hh,hs,h1,hr⟩:=hc;obtain ⟨hl,hz⟩:=h.spec;exact ⟨b,cs,e,(ai i j eT).trans hb,hh,by omega,fun q hq=>h1 q (by omega),fun q hq=>hz q (by omega) _ _ _ _ _ ai (hr q (by omega))⟩
 |lp he h =>
  subst he;obtain ⟨fn,tmps,D,hb,hh,hn,hr⟩:=hc;refine ⟨fn,tmps,D,(ai i j eT).trans hb,hh,hn,fun p hp=>?_⟩;obtain ⟨x,hx,hz⟩:=h.mem p hp;exact hz _ _ _ _ _ ai (hr _ hx)
def vQ (m:List (Nat×Nat)) (H:Hp):Hp→Prop
 |[]=>True
 |(i,c0)::r=>(∃j c,cX m i=some j∧dO j H=some c∧Cn m c c0)∧vQ m H r
def vQ.mem {m:List (Nat×Nat)} {H:Hp}:∀{H0:Hp},vQ m H H0→∀i c0,(i,c0)∈H0→∃j c,cX m i=some j∧(j,c)∈H∧Cn m c c0
 |[],_,_,_,h=>by cases h
 |(i,c0)::r,hh,i',c',h=>by
  rcases bj.1 h with h|h
  ·cases h;obtain ⟨j,c,h1,h2,h3⟩:=hh.1;exact ⟨j,c,h1,fc h2,h3⟩
  ·exact hh.2.mem i' c' h
def uA:List (Nat×Nat)→AV→AV
 |[],x=>x
 |p::r,x=>uA r (er 2 p.2 x)
def DH:List (Nat×Nat)→Chunk→Chunk
 |[],c=>c
 |p::r,c=>DH r (ph p.2 c)
def kr (m n:List (Nat×Nat)):Hp→Hp
 |[]=>[]
 |(i,c)::r=>bif (m.any fun p=>aH p.2 i)||(n.any fun p=>aH p.2 i) then kr m n r else (i,DH n c)::kr m n r
def Ti:∀{n:List (Nat×Nat)} {β:Nat→Value},(∀j,(∀p,p∈n→p.2≠j)→av j=β j)→∀{x:AV} {u:Value},Rd w F β x u→Rd w F av (uA n x) u
 |[],β,ai,x,u,h=>by
  have:av=β:=funext fun j=>ai j fun p hp=>by cases hp
  rw [this];exact h
 |p::r,β,ai,x,u,h=>by
  refine Ti (n:=r) (x:=er 2 p.2 x) (β:=fun j=>if j=p.2 then av j else β j) (fun j hj=>?_) (sH (id:=p.2) (fun i hi=>if_neg hi) 2 h);show _=if j=p.2 then av j else β j;by_cases yV:j=p.2
  ·rw [if_pos yV]
  ·rw [if_neg yV];exact ai j fun q hq=>by
    rcases bj.1 hq with rfl|hq
    ·exact fun e=>yV e.symm
    ·exact hj q hq
def erCL_holds {i:Nat}:∀{n:List (Nat×Nat)} {β:Nat→Value},(∀j,(∀p,p∈n→p.2≠j)→av j=β j)→(∀p,p∈n→p.2≠i)→∀{c:Chunk},c.holds w F β i→(DH n c).holds w F av i
 |[],β,ai,_,c,h=>by
  have:av=β:=funext fun j=>ai j fun p hp=>by cases hp
  rw [this];exact h
 |p::r,β,ai,hi,c,h=>by
  refine erCL_holds (n:=r) (c:=ph p.2 c) (β:=fun j=>if j=p.2 then av j else β j) (fun j hj=>?_) (fun q hq=>hi q (cj _ hq)) (IX (id:=p.2) (fun e=>hi p (by simp) e.symm) (fun i hi=>if_neg hi) h);show _=if j=p.2 then av j else β j;by_cases yV:j=p.2
  ·rw [if_pos yV]
  ·rw [if_neg yV];exact ai j fun q hq=>by
    rcases bj.1 hq with rfl|hq
    ·exact fun e=>yV e.symm
    ·exact hj q hq
def Pv {m n:List (Nat×Nat)} {i:Nat} {c:Chunk}:∀{H:Hp},(i,c)∈kr m n H→∃c0,(i,c0)∈H∧c=DH n c0∧(∀p,p∈m→p.2≠i)∧∀p,p∈n→p.2≠i
 |[],h=>by cases h
 |(k,c0)::r,h=>by
  simp only [kr] at h;cases hb:((m.any fun p=>aH p.2 k)||(n.any fun p=>aH p.2 k)) with
  |true =>
   rw [hb] at h;obtain ⟨c1,h1,h2⟩:=Pv (H:=r) h;exact ⟨c1,cj _ h1,h2⟩
  |false =>
   rw [hb] at h
   rcases bj.1 h with h|h
   ·cases h;simp only [Bool.or_eq_false_iff,p0] at hb;refine ⟨c0,by simp,rfl,fun p hp e=>?_,fun p hp e=>?_⟩
    ·exact hb.1 p hp (by rw [e];exact iY _)
    ·exact hb.2 p hp (by rw [e];exact iY _)
   ·obtain ⟨c1,h1,h2⟩:=Pv (H:=r) h;exact ⟨c1,cj _ h1,h2⟩
def tq:List Nat→Bool
 |[]=>true
 |x::r=>!(r.any fun y=>aH y x)&&tq r
def BP:∀{l:List Nat},tq l=true→l.Nodup
 |[],_=>qO
 |x::r,h=>by
  simp only [tq,bJ,oW,p0] at h;rw [ix];exact ⟨fun hm=>h.1 x hm (iY _),BP h.2⟩
def Cz (m n:List (Nat×Nat)):Bool :=
 (m.all fun p=>p4 1000 p.1)&&(tq (m.map (·.1))&&(tq (m.map (·.2))&&((n.all fun p=>eO p.2 1000)&&tq (n.map (·.2)))))
def kq (m n:List (Nat×Nat)):List (Nat×Nat):=(m.filter fun p=>!(n.any fun q=>aH q.2 p.2))++n
def Qt {i i' j:Nat}:∀{m:List (Nat×Nat)},(m.map (·.2)).Nodup→(i,j)∈m→(i',j)∈m→i=i'
 |[],_,h,_=>by cases h
 |p::r,hm,h1,h2=>by
  simp only [jI,ix] at hm
  rcases bj.1 h1 with h1|h1<;>rcases bj.1 h2 with h2|h2
  ·rw [←h2] at h1;cases h1;rfl
  ·exact absurd (dq.2 ⟨_,h2,by rw [←h1]⟩) hm.1
  ·exact absurd (dq.2 ⟨_,h1,by rw [←h2]⟩) hm.1
  ·exact Qt hm.2 h1 h2
def TO {xs ys:List AV} {st:ah} {H0:Hp} {m n:List (Nat×Nat)}
  (hx:i_ m xs ys) (hH:vQ m st.H H0) (kY:jm H0=true) (ht:Cz m n=true) {vs:Array Value} (hI:Inv w F β st.H) (hv:∀i,i<xs.length→Rd w F β (xs.getD i .χ) (vs.getD i undef)) :
  xs.length=ys.length∧∃du,Inv w F du H0∧(∀i,i<ys.length→Rd w F du (ys.getD i .χ) (vs.getD i undef)) ∧
   ∀(w':World) (F':Nat→Prop) (av:Nat→Value) (f':Nat→AV) (H1:Hp),jm (ia (cX (kq m n)) H1++kr m n st.H)=true→Ext w F du ⟨aG,H0⟩ w' F' av ⟨f',H1⟩ →
    ∃bX,(∀i j,cX (kq m n) i=some j→bX j=av i)∧Ext w F β st w' F' bX ⟨fun t=>uA n (st.f t),ia (cX (kq m n)) H1++kr m n st.H⟩:=by
 obtain ⟨hl,hz⟩:=hx.spec;simp only [Cz,bJ,ej] at ht;obtain ⟨oF,iQ,zb,Bq,lK⟩:=ht;have iQ:=BP iQ;have zb:=BP zb;have lK:=BP lK
 obtain ⟨du,BG⟩:∃du:Nat→Value,∀i j,cX m i=some j→du i=β j:=by
  refine ⟨fun i=>match cX m i with|some j=>β j|none=>undef,fun i j eT=>?_⟩;simp only [eT]
 have bC:=fun i c0 hm=>hH.mem i c0 hm
 have db:∀b,bD du H0 b→∃i c0 j c,(i,c0)∈H0∧cX m i=some j∧(j,c)∈st.H∧bP (β j)=some b:=by
  rintro b ⟨i,c0,h1,hb⟩;obtain ⟨j,c,h2,h3,_⟩:=bC i c0 h1;exact ⟨i,c0,j,c,h1,h2,h3,by rw [←BG i j h2];exact hb⟩
 have IY:∀b,bD du H0 b→bD β st.H b:=fun b hb=>by
  obtain ⟨_,_,j,c,_,_,h3,h4⟩:=db b hb;exact ⟨j,c,h3,h4⟩
 have NG:∀i i' j,cX m i=some j→cX m i'=some j→i=i':=fun i i' j h1 h2=>Qt zb (at_mem h1) (at_mem h2)
 have uF:Inv w F du H0:=by
  refine ⟨hI.cA,fun i c0 h1=>?_,w7 kY,fun b hb=>hI.apart b (IY b hb),fun i c i' c' b h1 h2 hb aJ=>?_,hI.fh⟩
  ·obtain ⟨j,c,h2,h3,h4⟩:=bC i c0 h1;exact h4.holds BG h2 (hI.holds j c h3)
  ·obtain ⟨j,c,h3,h4,_⟩:=bC i c h1;obtain ⟨j',c',h5,h6,_⟩:=bC i' c' h2;rw [BG i j h3] at hb;rw [BG i' j' h5] at aJ;have:=hI.eo j _ j' _ b h4 h6 hb aJ;subst this;exact NG i i' j h3 h5
 refine ⟨hl,du,uF,fun i hi=>hz i (by omega) w F β du _ BG (hv i (by omega)),?_⟩;intro w' F' av f' H1 fR he
 obtain ⟨bX,ac',Ez⟩:∃bX:Nat→Value,(∀i j,(i,j)∈n→bX j=av i)∧∀j,(∀p,p∈n→p.2≠j)→bX j=β j:=by
  refine ⟨fun j=>match cX (n.map fun p=>(p.2,p.1)) j with|some i=>av i|none=>β j,fun i j eT=>?_,fun j hj=>?_⟩
  ·have:cX (n.map fun p=>(p.2,p.1)) j=some i:=Hu (by rw [List.map_map];exact lK) (dq.2 ⟨_,eT,rfl⟩);simp only [this]
  ·cases ha:cX (n.map fun p=>(p.2,p.1)) j with
   |none=>simp only [ha]
   |some i =>
    obtain ⟨p,hp,e⟩:=dq.1 (at_mem ha);cases e;exact absurd rfl (hj p hp)
 have hq:∀i j,cX (kq m n) i=some j→bX j=av i:=fun i j eT=>by
  have eT:=at_mem eT;simp only [kq,gp,List.mem_filter,oW,p0] at eT
  rcases eT with ⟨h1,h2⟩|h1
  ·have h3:1000≤i:=by simpa using oF _ h1
   rw [he.gh i h3,BG i j (Hu iQ h1)];exact Ez j fun p hp e=>h2 p hp (by rw [e];exact iY _)
  ·exact ac' i j h1
 have hblk:∀b,b<w.heap.size→(∀i c0 j c,(i,c0)∈H0→cX m i=some j→(j,c)∈st.H→bP (β j)≠some b)→w'.heap[b]?=w.heap[b]?:=fun b hb bw=>he.block b hb fun ho=>by
  obtain ⟨i,c0,j,c,h1,h2,h3,h4⟩:=db b ho;exact bw i c0 j c h1 h2 h3 h4
 have hF:ga F w w':=fun b hb=>hblk b (hI.cA b hb) fun i c0 j c _ _ h3 h4=>hI.apart b ⟨j,c,h3,h4⟩ hb
 have nM:∀j c,(j,c)∈kr m n st.H→∃c0,(j,c0)∈st.H∧c=DH n c0∧(∀i,cX m i≠some j)∧bX j=β j∧∀p,p∈n→p.2≠j:=fun j c hc=>by
  obtain ⟨c0,h1,h2,h3,h4⟩:=Pv hc;exact ⟨c0,h1,h2,fun i hi=>h3 _ (at_mem hi) rfl,Ez j h4,h4⟩
 have U5:∀b,bD av H1 b→w.heap.size≤b∨bD du H0 b:=fun b hb=>he.owned b hb
 have uS:∀b,bD bX (ia (cX (kq m n)) H1++kr m n st.H) b→bD av H1 b∨∃j c0,(j,c0)∈st.H∧(∀i,cX m i≠some j)∧bP (β j)=some b:=by
  rintro b ⟨j,c,hc,hb⟩
  rcases gp.1 hc with hc|hc
  ·obtain ⟨i,c0,h1,h2,_⟩:=na hc;exact .inl ⟨i,c0,h1,by rw [←hq i j h2];exact hb⟩
  ·obtain ⟨c0,h1,_,h2,h3,_⟩:=nM j c hc;exact .inr ⟨j,c0,h1,h2,by rw [←h3];exact hb⟩
 refine ⟨bX,hq,?_⟩;refine ⟨he.os,he.tape,he.output,he.size,fun b hb bw=>he.block b hb fun ho=>bw (IY b ho),he.mono,fun b hb=>(he.new b hb).imp id fun h=>h.imp id (IY b),fun b hb=>?_,fun t u hu=>?_,?_,fun i hi=>Ez i fun p hp e=>?_⟩
 ·rcases uS b hb with h1|⟨j,c0,h1,_,h2⟩
  ·exact (U5 b h1).imp id (IY b)
  ·exact .inr ⟨j,c0,h1,h2⟩
 ·exact Ti Ez (hu.frame hF he.mono)
 ·refine ⟨he.inv.cA,fun j c hc=>?_,w7 fR,fun b hb yD=>?_,fun j c j' c' b hc fP hb aJ=>?_,he.inv.fh⟩
  ·rcases gp.1 hc with hc|hc
   ·obtain ⟨i,c0,h1,h2,rfl⟩:=na hc;exact rlC_holds hq h2 (he.inv.holds i c0 h1)
   ·obtain ⟨c0,h1,rfl,h2,h3,h4⟩:=nM j c hc
    exact erCL_holds Ez h4 (pH hF he.mono (fun b hb=>hblk b (hI.fJ ⟨j,c0,h1,hb⟩) fun i Mb j' c' h5 h6 h7 h8=>by
     have:=hI.eo j _ j' _ b h1 h7 hb h8;subst this
     exact h2 i h6) (hI.holds j c0 h1))
  ·rcases uS b hb with h1|⟨j,c0,h1,h2,h3⟩
   ·exact he.inv.apart b h1 yD
   ·rcases he.new b yD with h4|h4|h4
    ·exact hI.apart b ⟨j,c0,h1,h3⟩ h4
    ·exact absurd (hI.fJ ⟨j,c0,h1,h3⟩) (mr.2 h4)
    ·obtain ⟨i,_,j',c',_,h6,h7,h8⟩:=db b h4;have:=hI.eo j _ j' _ b h1 h7 h3 h8;subst this;exact h2 i h6
  ·have SP:∀i c0 j c1,(i,c0)∈H1→bP (av i)=some b→(j,c1)∈st.H→(∀i,cX m i≠some j)→bP (β j)=some b→False:=fun i c0 j c1 h1 h2 h3 h4 h5=>by
    rcases U5 b ⟨i,c0,h1,h2⟩ with h6|h6
    ·exact absurd (hI.fJ ⟨j,c1,h3,h5⟩) (mr.2 h6)
    ·obtain ⟨i',_,j',c',_,h7,h8,h9⟩:=db b h6;have:=hI.eo j _ j' _ b h3 h8 h5 h9;subst this;exact h4 i' h7
   rcases gp.1 hc with hc|hc<;>rcases gp.1 fP with fP|fP
   ·obtain ⟨i,c0,h1,h2,_⟩:=na hc;obtain ⟨i',Mb,nE,iB,_⟩:=na fP;rw [hq i j h2] at hb;rw [hq i' j' iB] at aJ;have:=he.inv.eo i _ i' _ b h1 nE hb aJ;subst this;rw [h2] at iB;exact nu iB
   ·obtain ⟨i,c0,h1,h2,_⟩:=na hc;obtain ⟨c1,h3,_,h4,h5,_⟩:=nM j' c' fP;rw [hq i j h2] at hb;rw [h5] at aJ;exact (SP i c0 j' c1 h1 hb h3 h4 aJ).elim
   ·obtain ⟨i,c0,h1,h2,_⟩:=na fP;obtain ⟨c1,h3,_,h4,h5,_⟩:=nM j c hc;rw [hq i j' h2] at aJ;rw [h5] at hb;exact (SP i c0 j c1 h1 aJ h3 h4 hb).elim
   ·obtain ⟨c1,h3,_,h4,h5,_⟩:=nM j c hc;obtain ⟨p9,h3',_,h4',h5',_⟩:=nM j' c' fP;rw [h5] at hb;rw [h5'] at aJ;exact hI.eo j _ j' _ b h3 h3' hb aJ
 ·have:p.2<1000:=by simpa [gO] using Bq p hp
  omega
def ae.gen {g:Tg} {xs ys:List AV} {st:ah} {H0 H1:Hp} {r:AV} {k:AV→ah→Prop} {m n:List (Nat×Nat)} (h:ae P g ys ⟨aG,H0⟩ fun x s=>x=r∧s.H=H1)
  (hx:i_ m xs ys) (hH:vQ m st.H H0) (kY:jm H0=true) (ht:Cz m n=true) (fR:jm (ia (cX (kq m n)) H1++kr m n st.H)=true)
  (hk:k (rl (cX (kq m n)) 3 r) ⟨fun t=>uA n (st.f t),ia (cX (kq m n)) H1++kr m n st.H⟩):ae P g xs st k:=by
 refine ⟨h.1,fun w F β vs hI hs hv=>?_⟩;obtain ⟨hl,du,uF,ν,sR⟩:=TO hx hH kY ht hI hv;refine (h.2 w F du vs uF (by omega) ν).mono ?_;rintro e w' ⟨v,rfl,x,s,F',av,⟨rfl,EJ⟩,hr,he⟩;obtain ⟨bX,hq,dV⟩:=sR w' F' av s.f H1 fR (by rw [←EJ];exact he);exact ⟨v,rfl,rl (cX (kq m n)) 3 x,_,F',bX,hk,zW hq 3 hr,dV⟩
def agA {g n : Nat} {fn : Func} {c : Code} {args : List AV} {H0 H1 : Hp} {r : AV} (hT : bL P T) (dK : P.funcs[g]? = some fn) (dR : (fn.name == "runtime.NumGoroutine") = false) (hb : fn.body = some c) (hn : fn.ntmps = n) (hle : args.length ≤ n)
  (h:Ok P n c ⟨lg args,H0⟩ (sK T fn.results.toList fun x s=>Wk ⟨dZ aG 0 x,s.H⟩ ⟨aq [(0,r)],H1⟩)):ae P g args ⟨aG,H0⟩ fun x s=>x=r∧s.H=H1:=by
 refine ⟨⟨fn,c,dK,dR,hb⟩,fun w F β vs hI hs hv=>?_⟩;refine (HF hT dK hb hn hle h hI hs hv).mono ?_;rintro e w' ⟨v,rfl,x,st,F',av,hW,hx,he⟩
 obtain ⟨F2,bX,_,_,hf,h2⟩:=hW ⟨w,F,β,H0,1,none,.inl rfl,[]⟩ { tmps:=#[v],defers:=[] } w' ⟨F',av,rfl,trivial,fun t=>by
  show Rd w' F' av (bif aH t 0 then x else aG t) _;cases t with
  |zero=>exact hx
  |succ t=>exact .χ,⟨he,fun d hd=>(eJ hd).elim,qO,⟨[],rfl⟩⟩⟩
 exact ⟨v,rfl,r,⟨aG,H1⟩,F2,bX,⟨rfl,rfl⟩,hf 0,h2.x⟩
def Ext.chunks {w0:World} {F0:Nat→Prop} {oV:Nat→Value} {oS:ah} {H H':Hp} (h:Ext w0 F0 oV oS w F β ⟨aG,H⟩) (bC:∀i c,(i,c)∈H'→(∃c0,(i,c0)∈H)∧c.holds w F β i) (hk:(H'.map (·.1)).Nodup):Ext w0 F0 oV oS w F β ⟨aG,H'⟩ where
 os:=h.os
 tape:=h.tape
 output:=h.output
 size:=h.size
 block:=h.block
 mono:=h.mono
 new:=h.new
 owned b hb:=h.owned b (by obtain ⟨i,c,hm,hb⟩:=hb;obtain ⟨⟨c0,h0⟩,_⟩:=bC i c hm;exact ⟨i,c0,h0,hb⟩)
 keep _ _ _:=.χ
 inv:=⟨h.inv.cA,fun i c hm=>(bC i c hm).2,hk,
  fun b ⟨i,c,hm,hb⟩=>by obtain ⟨⟨c0,h0⟩,_⟩:=bC i c hm;exact h.inv.apart b ⟨i,c0,h0,hb⟩,
  fun i c i' c' b hm bQ hb aJ=>by
   obtain ⟨⟨c0,h0⟩,_⟩:=bC i c hm;obtain ⟨⟨c1,h1⟩,_⟩:=bC i' c' bQ
   exact h.inv.eo i c0 i' c1 b h0 h1 hb aJ,h.inv.fh⟩
 gh:=h.gh
def XM.chunks {C:Ctx} {ds:List Deferred} {H H':Hp} (h:XM C ds w F β H) (bC:∀i c,(i,c)∈H'→(∃c0,(i,c0)∈H)∧c.holds w F β i) (hk:(H'.map (·.1)).Nodup):XM C ds w F β H' :=
 h.trans ((Ext.refl (st:=⟨aG,H⟩) h.inv).chunks bC hk)
def uZ (i d:Nat):Nat→Option Nat:=fun x=>bif aH x i then some d else bif aH x d then none else some x
def Wk.mv {st:ah} {i d:Nat} (hd:eO d 1000=true) (aQ:aH d i=false) (hk:jm (ia (uZ i d) st.H)=true):Wk st ⟨fun t=>rl (uZ i d) 2 (st.f t),ia (uZ i d) st.H⟩:=fun C a w hr=>by
 obtain ⟨F,β,hs,Nk,hf,he⟩:=hr
 have hd:d<1000:=by simpa [gO] using hd
 have aQ:d≠i:=fun e=>by rw [e,iY] at aQ;cases aQ
 let av:Nat→Value:=fun x=>if x=d then β i else β x
 have ai:∀x y,uZ i d x=some y→av y=β x:=fun x y h=>by
  unfold uZ at h;cases h1:aH x i with
  |true=>rw [h1] at h;cases h;rw [cW h1];exact if_pos rfl
  |false =>
   rw [h1] at h;cases h2:aH x d with
   |true=>rw [h2] at h;cases h
   |false =>
    rw [h2] at h;cases h
    exact if_neg fun e=>by rw [e,iY] at h2;cases h2
 have NG:∀x x' y,uZ i d x=some y→uZ i d x'=some y→x=x':=fun x x' y h h'=>by
  unfold uZ at h h';cases h1:aH x i<;>cases nE:aH x' i<;>rw [h1] at h<;>rw [nE] at h'<;>simp only [cond_true,cond_false] at h h'
  ·cases h2:aH x d<;>cases iB:aH x' d<;>rw [h2] at h<;>rw [iB] at h'<;>simp_all
  ·cases h2:aH x d<;>rw [h2] at h<;>simp_all
  ·cases iB:aH x' d<;>rw [iB] at h'<;>simp_all
  ·rw [cW h1,cW nE]
 have db:∀b,bD av (ia (uZ i d) st.H) b→bD β st.H b:=by
  rintro b ⟨j,c,hc,hb⟩;obtain ⟨x,c0,h1,h2,_⟩:=na hc;exact ⟨x,c0,h1,by rw [←ai x j h2];exact hb⟩
 refine ⟨F,av,hs,Nk,fun t=>zW ai 2 (hf t),he.trans (f:=aG) (f':=aG) ⟨rfl,js.refl _,rfl,bG _,fun _ _ _=>rfl,fun _ h=>h,fun _ h=>.inl h,fun b hb=>.inr (db b hb),fun _ _ _=>.χ,?_,fun x hx=>if_neg (by omega)⟩⟩
 ·refine ⟨he.inv.cA,fun j c hc=>?_,w7 hk,fun b hb=>he.inv.apart b (db b hb),fun j c j' c' b hc fP hb aJ=>?_,he.inv.fh⟩
  ·obtain ⟨x,c0,h1,h2,rfl⟩:=na hc;exact rlC_holds ai h2 (he.inv.holds x c0 h1)
  ·obtain ⟨x,c0,h1,h2,_⟩:=na hc;obtain ⟨x',Mb,nE,iB,_⟩:=na fP;rw [ai x j h2] at hb;rw [ai x' j' iB] at aJ;have:=he.inv.eo x _ x' _ b h1 nE hb aJ;subst this;rw [h2] at iB;exact nu iB
def Wk.Fh {st:ah} {b q id E K:Nat} {cells:List AV} (Φ:eO id 1000=true) (hb:dO b (gY id st.H)=some (.box cells)) (hq:cells[q]?=some (.v (.slice none 0 0))) :
  Wk st ⟨fun t=>er 2 id (st.f t),(id,.own E K [])::fK b (.box (cells.set q (.o id))) (gY id st.H)⟩:=fun C a w hr=>by
 obtain ⟨F,β,hs,hd,hf,he⟩:=hr
 have pD:id<1000:=by simpa using Φ
 have ra:Below w.heap.size w w:=Below.refl _ _;have hx:=H6 (st:=⟨aG,st.H⟩) (w':=w) (F':=F) (c:=.own E K []) (v:=.slice none 0 0) pD he.inv ra (fun _ h=>h) (fun _ h=>.inl h) (fun b hb=>by cases hb) (.inl ⟨rfl,none,by simp⟩);have ai:∀i,i≠id→(fun i=>if i=id then Value.slice none 0 0 else β i) i=β i:=fun i hi=>if_neg hi;have h2:=(he.trans hx).O3;have hmb:(b,Chunk.box cells)∈gY id st.H:=fc hb;refine ⟨F,_,hs,hd,fun t=>sH ai 2 (hf t),h2.chunks (fun i c hm=>?_) ?_⟩
 ·rcases bj.1 hm with hm|hm
  ·cases hm;exact ⟨⟨_,j2⟩,h2.inv.holds _ _ j2⟩
  ·rcases nf hm with ⟨rfl,rfl,c0,h0⟩|⟨_,h0⟩
   ·refine ⟨⟨c0,cj _ h0⟩,?_⟩;obtain ⟨eZ,cs,e,h1,hh,aX,fi,fy⟩:=h2.inv.holds i _ (cj _ hmb);refine ⟨eZ,cs,e,h1,hh,by simpa using aX,fun j hj=>fi j (by simpa using hj),fun j hj=>?_⟩
    have dz:j<cells.length:=by simpa using hj
    by_cases UK:j=q
    ·subst UK
     have e1:(cells.set j (.o id)).getD j .χ=.o id:=by simp [aV,dz]
     have e2:=fy j dz;rw [List.getD_eq_getElem?_getD,hq,Option.getD_some] at e2;rw [e1,e2.bK];exact .o (by simp)
    ·have e1:(cells.set q (.o id)).getD j .χ=cells.getD j .χ:=by simp [aV,List.getElem?_set_ne (Ne.symm UK)]
     rw [e1];exact fy j dz
   ·exact ⟨⟨c,cj _ h0⟩,h2.inv.holds _ _ (cj _ h0)⟩
 ·have:=h2.inv.keys;simp only [gR,jI] at this ⊢;rw [z_];exact this
end
end
section
open Go.RowKit Go.Sort Go.Proofs Go.Shelf
section
variable {P:Program}
def ak2 (P:Program) (f:Nat):Prop :=
 (∀(p:Option Addr) (cap:Nat) (w:World),Calls P f #[.slice p 0 cap] w fun e w'=>e=.returned (.tuple #[])∧w'=w) ∧
 ∀(eZ off cap:Nat) (zs:List Int) (w:World),Holds (dC .i64) w eZ off zs.toArray→eZ<w.heap.size→zs.length<4611686018427387904 →
  Calls P f #[.slice (some ⟨eZ,off,none⟩) zs.length cap] w fun e w'=>e=.returned (.tuple #[])∧∃n os,w'=grow (putRow (dC .i64) (Sort.ahead w n) eZ off (zs.mergeSort fun x y=>decide (x≤y)).toArray) os
end
variable [M:cM] [G:dX] [R:eE]
section
variable {P:Program}
def Sp {vs:Array Value} (h:vs.size=1):vs=#[vs.getD 0 undef]:=by
 apply Array.ext
 ·simp [h]
 ·intro i h1 h2
  have:i=0:=by simp at h2;omega
  subst this;simp [h]
end
end
section
def VJ (x:Int):List Int→List Int
 |[]=>[x]
 |y::r=>if x≤y then x::y::r else y::VJ x r
def aih (l:List Int):List Int:=l.foldr VJ []
def alw {α:Type} (l:List (Int×α)):List Int:=aih (l.map (·.1))
end
end Go.Cat
set_option linter.all false
namespace Go.CatSeq
open Go Go.RowKit Go.Proofs Go.Shelf Go.Maps Go.Sort
end Go.CatSeq
namespace Go.Cat
open Go.RowKit Go.Proofs Go.Shelf Go.Maps Go.Sort
def Sa (w:World) (sv:Value) (zs:List Int):Prop :=
 (∃a c,sv=.slice a 0 c∧zs=[])∨∃b off cap,sv=.slice (some ⟨b,off,none⟩) zs.length cap∧b<w.heap.size∧∀j,j<zs.length→w.cell? ⟨b,off+j,none⟩=some (.int .i64 (zs[j]?.getD 0))
def ak5 (P:Program) (k1:Nat):Prop:=∀(Bs:Nat) (sv:Value) (zs:List Int) (w:World),zs.length*8≤140737488351232→Bs<w.heap.size→w.cell? ⟨Bs,0,none⟩=some sv→Sa w sv zs →
 SeqStopsK Fence.wide 2 P k1 #[.pointer (some ⟨Bs,0,none⟩)] (fun x:Int=>#[encZ x]) (Rx w.heap.size) (fun ys=>ys=zs) (fun pre=>pre <+: zs) zs.length w
def ak4 (P:Program) (g k1 E:Nat):Prop:=∀(w:World) (Bm:Nat) (sv:Value) (zs:List Int),w.cell? ⟨Bm,0,none⟩=some sv→Bm<w.heap.size→Sa w sv zs→zs.length*8≤140737488351232 →
 Calls P g #[.func (.func k1) #[] #[.pointer (some ⟨Bm,0,none⟩)]] w fun e w'=>∃v,e=.returned v ∧
  w'.ownsRow w.heap.size E 1 v zs.length ((zs.mergeSort fun x y=>decide (x≤y)).map (dC .i64))∧Rx w.heap.size w w'
variable [M:cM] [G:dX] [R:eE] {P:Program}
end Go.Cat
namespace Go.Cat
set_option linter.all false
section
open Go.Sort
class LL {α:Type} (c:α→α→Option Int):Prop where
 ex:∃cf,oZ c cf
def zy {α:Type} (c:α→α→Option Int) (x:α):List α→Option (List α)
 |[]=>some [x]
 |y::r=>match c x y,c y x with
  |some a,some b=>if a<0 then (if b<0 then none else some (x::y::r)) else if b<0 then (match zy c x r with|some t=>some (y::t)|none=>none) else none
  |_,_=>none
def tL {α:Type} (c:α→α→Option Int):List α→Option (List α)
 |[]=>some []
 |x::r=>match tL c r with
  |some t=>zy c x t
  |none=>none
section
variable {α:Type} {c:α→α→Option Int} {cf:α→α→Int}
def VL (h:oZ c cf) (x:α):∀{l r:List α},zy c x l=some r→r.Perm (x::l)∧(l.Pairwise (fun x y=>cf x y<0)→r.Pairwise (fun x y=>cf x y<0))
 |[],r,e=>by cases e;exact ⟨.refl _,fun _=>List.pairwise_singleton _ _⟩
 |y::l,r,e=>by
  simp only [zy,h.1] at e;by_cases h1:cf x y<0
  ·rw [if_pos h1] at e;by_cases h2:cf y x<0
   ·rw [if_pos h2] at e;cases e
   ·rw [if_neg h2] at e;cases e;refine ⟨.refl _,fun hp=>eK.2 ⟨fun z hz=>?_,hp⟩⟩
    rcases bj.1 hz with rfl|hz
    ·exact h1
    ·have h3:=(eK.1 hp).1 z hz;have:=h.2.trans x y z (decide_eq_true h1) (decide_eq_true h3);simpa using this
  ·rw [if_neg h1] at e;by_cases h2:cf y x<0
   ·rw [if_pos h2] at e;cases ht:zy c x l with
    |none=>rw [ht] at e;cases e
    |some t =>
     rw [ht] at e;cases e;obtain ⟨h3,h4⟩:=VL h x ht;refine ⟨((al8 y).2 h3).trans (.swap x y l),fun hp=>?_⟩;have gJ:=eK.1 hp;refine eK.2 ⟨fun z hz=>?_,h4 gJ.2⟩
     rcases bj.1 (h3.mem_iff.1 hz) with rfl|hz
     ·exact h2
     ·exact gJ.1 z hz
   ·rw [if_neg h2] at e;cases e
def Gq (h:oZ c cf):∀{l r:List α},tL c l=some r→r.Perm l∧r.Pairwise (fun x y=>cf x y<0)
 |[],r,e=>by cases e;exact ⟨.refl _,.nil⟩
 |x::l,r,e=>by
  simp only [tL] at e;cases ht:tL c l with
  |none=>rw [ht] at e;cases e
  |some t =>
   rw [ht] at e;obtain ⟨h1,h2⟩:=Gq h ht;obtain ⟨h3,h4⟩:=VL h x e;exact ⟨h3.trans ((al8 x).2 h1),h4 h2⟩
def alM (c:α→α→Option Int) (l:List α):Option (List α):=Ψ (l.length≤140737488355328) (tL c l)
end
open Classical in
noncomputable def xn {α:Type} (c:α→α→Option Int) (l:List α):Option (List α):=Ψ (l.length≤140737488355328) (if ∃cf,oZ c cf then tL c l else none)
def aif {α:Type} {c:α→α→Option Int} {l r:List α} (h:xn c l=some r):l.length≤140737488355328∧∃cf,oZ c cf∧tL c l=some r:=by
 unfold xn at h;obtain ⟨hl,h⟩:=aC h;refine ⟨hl,?_⟩;split at h
 ·rename_i hex;exact ⟨_,hex.choose_spec,h⟩
 ·cases h
def Ye {α:Type} {c:α→α→Option Int} [hc:LL c] {l r:List α} (hl:l.length≤140737488355328) (h:tL c l=some r):xn c l=some r:=by
 unfold xn;rw [gq hl,if_pos hc.ex,h]
end
section
open Go.RowKit
variable [M:cM] [G:dX]
def Kh:List (Nat×AV)→(Nat→AV)→Nat→AV
 |[],f=>f
 |(t,x)::r,f=>Kh r (dZ f t x)
section
variable [R:eE] {P:Program} {w:World} {F:Nat→Prop} {β av:Nat→Value}
def XQ:∀(ps:List Nat) (xs:List AV) (vs:List Value) (f:Nat→AV) (tmps:Array Value),ps.length=xs.length→vs.length=xs.length→(∀t,t∈ps→t<tmps.size) →
  (∀i,i<xs.length→Rd w F β (xs.getD i .χ) (vs.getD i undef))→(∀t,Rd w F β (f t) (tmps.getD t undef)) →
  ((ps.zip vs).foldl (fun T p=>T.setIfInBounds p.1 p.2) tmps).size=tmps.size∧∀t,Rd w F β (Kh (ps.zip xs) f t) (((ps.zip vs).foldl (fun T p=>T.setIfInBounds p.1 p.2) tmps).getD t undef)
 |[],[],[],f,tmps,_,_,_,_,hf=>⟨rfl,hf⟩
 |p::ps,x::xs,v::vs,f,tmps,h1,h2,h3,h4,hf=>by
  have:=XQ ps xs vs (dZ f p x) (tmps.setIfInBounds p v) (by simpa using h1) (by simpa using h2) (fun t ht=>by simpa using h3 t (by simp [ht])) (fun i hi=>h4 (i+1) (by simpa using hi)) fun t=>by
   unfold dZ;cases hb:aH t p with
   |true =>
    obtain rfl:=cW hb;have:=h3 t (by simp);simpa [this] using h4 0 (by simp)
   |false =>
    have aQ:p≠t:=fun e=>by rw [e,iY] at hb;cases hb
    simpa [Array.getElem?_setIfInBounds_ne aQ] using hf t
  refine ⟨by simpa using this.1,fun t=>?_⟩;have:=this.2 t;exact this
 |[],_::_,_,_,_,h1,_,_,_,_=>by cases h1
 |_::_,[],_,_,_,h1,_,_,_,_=>by cases h1
 |_,[],_::_,_,_,_,h2,_,_,_=>by cases h2
 |_,_::_,[],_,_,_,h2,_,_,_=>by cases h2
def A2 (i:Nat):Option Nat:=bif p4 1000 i then some i else none
def ab5 (ai:∀i,1000≤i→av i=β i) {x:AV} {u:Value} (hx:rl A2 2 x=x) (h:Rd w F β x u):Rd w F av x u:=by
 rw [←hx];refine zW (fun i j eT=>?_) 2 h;unfold A2 at eT;cases hb:p4 1000 i with
 |true=>rw [hb] at eT;cases eT;exact ai i (Aw hb)
 |false=>rw [hb] at eT;cases eT
def XE (k:LS→ah→Prop):Exit→ah→Prop
 |.normal,s=>k .iK s
 |.ret,s=>k .ret s
 |.exit i,s=>k (.ex i) s
 |_,_=>False
def asg (P:Program) (R0:RF) (k:LS→ah→Prop):Exit→ah→Prop:=fun e s=>match e with
 |.normal=>Ok P R0.n R0.body s (XE k)
 |_=>False
def aea {i:Nat} {c:Chunk} {H:Hp} (h:Inv w F β ((i,c)::H)):Inv w F β H :=
 h.sub (fun x hx=>cj _ hx) (ix.1 h.keys).2
def OF {H:Hp} {l:Nat} {o:Obj} (hI:Inv w F β H) (hF:¬F l) (ho:¬bD β H l):Inv (w.putObj l o) F β H :=
 have ha:ga F w (w.putObj l o):=fun b hb=>p6 fun e=>hF (e▸hb)
 ⟨fun b hb=>by rw [j5];exact hI.cA b hb,fun i c hm=>pH ha (fun _ h=>h) (fun b hb=>p6 fun e=>ho (e▸⟨i,c,hm,hb⟩)) (hI.holds i c hm),hI.keys,hI.apart,hI.eo,hI.fh.at ha⟩
end
section
variable {P:Program}
def akX {l lid:Nat} {R0:RF} {L:List (Nat×AV)} {H H1:Hp} {xs:List AV} {e0:LS} (N4:R0.ps.toList.length=xs.length) (N3:(R0.ps.toList.all fun t=>eO t R0.n)=true)
  (hL:(L.map fun p=>(p.1,rl A2 2 p.2))=L) (IL:p4 1000 lid=true) (fR:jm ((lid,.lp l e0 R0 L)::H1)=true)
  (h:Ok (R:=eE.yes) P R0.n R0.assign ⟨Kh (R0.ps.toList.zip xs) (aq L),H⟩ (asg (R:=eE.yes) P R0 fun e s=>e=e0∧Wk (R:=eE.yes) ⟨aG,s.H⟩ ⟨aq [],H1⟩)) :
  ae P (.y l) xs ⟨aG,(lid,.lp l .iK R0 L)::H⟩ fun x s=>x=.v (.bool e0.wZ)∧s.H=(lid,.lp l e0 R0 L)::H1:=by
 letI:eE:=eE.yes
 have IL:1000≤lid:=Aw IL;refine ⟨trivial,fun w F β vs hI hs hv=>?_⟩;obtain ⟨fn,tmps,D,ai,hh,hn,hr⟩:=hI.holds lid _ (j2 ..);have Φ:=kJ hh;have MZ:=aea hI;have Bk:¬F l:=hI.apart l ⟨lid,_,j2 ..,by rw [ai];rfl⟩
 have uP:¬bD β H l:=fun ⟨i,c,hm,hb⟩=>by
  have:=hI.eo i c lid _ l (cj _ hm) (j2 ..) hb (by rw [ai];rfl);subst this;exact (ix.1 hI.keys).1 (dq.2 ⟨_,hm,rfl⟩)
 have hz:(R0.ps.zip vs).foldl (fun tmps (x:Nat×Value)=>tmps.setIfInBounds x.1 x.2) tmps=(R0.ps.toList.zip vs.toList).foldl (fun T p=>T.setIfInBounds p.1 p.2) tmps:=by
  rw [←Array.foldl_toList,Array.toList_zip]
 have adE:∀t,Rd w F β (aq L t) (tmps.getD t undef):=by
  have key:∀L':List (Nat×AV),(∀p,p∈L'→p∈L)→∀t,Rd w F β (aq L' t) (tmps.getD t undef):=by
   intro L';induction L' with
   |nil=>intro _ t;exact .χ
   |cons p r ih =>
    intro hp t;obtain ⟨d,x⟩:=p;simp only [aq];cases hb:aH t d with
    |true =>
     obtain rfl:=cW hb;exact hr (t,x) (hp _ (by simp))
    |false=>exact ih (fun p gJ=>hp p (by simp [gJ])) t
  exact key L fun _ h=>h
 obtain ⟨aX,fy⟩:=XQ R0.ps.toList xs vs.toList (aq L) tmps N4 (by simpa using hs) (fun t ht=>by
  have:=ej.1 N3 t ht
  rw [hn];simpa [gO] using this) (fun i hi=>by simpa using hv i hi) adE
 have hy:=run_yield (P:=P) (args:=vs) hh (by simpa [hs] using N4.symm);refine ⟨fn,_,R0.assign,R0.body,hy,roundIn_of_wpIn (F:=Fence.wide) trivial ?_⟩;let C1:Ctx:=⟨w,F,β,H,R0.n,some l,.inr trivial,[]⟩;have iR:Rel C1 ⟨Kh (R0.ps.toList.zip xs) (aq L),H⟩ { tmps:=(R0.ps.zip vs).foldl (fun tmps (x:Nat×Value)=>tmps.setIfInBounds x.1 x.2) tmps,defers:=[] } w :=
  ⟨F,β,by rw [hz,aX,hn],trivial,fun t=>by rw [hz];exact fy t,⟨Ext.refl MZ,fun d hd=>(eJ hd).elim,qO,⟨[],rfl⟩⟩⟩
 refine wpIn_mono (h.h C1 rfl _ w iR) ?_;rintro e a1 w1 ⟨s1,⟨F1,du,g1,g2,g3,g4⟩,hq⟩;cases e with
 |normal =>
  have hq:Ok (R:=eE.yes) P R0.n R0.body s1 (XE _):=hq;have Bj:w1.heap[l]?=some (.loop { state:=LS.iK.st,pending:=LS.iK.zO,fn,tmps,params:=R0.ps,assign:=R0.assign,body:=R0.body,defers:=D }):=(g4.x.block l Φ uP).trans hh
  have UQ:¬F1 l:=fun hF=>by
   rcases g4.x.new l hF with h|h|h
   ·exact Bk h
   ·exact absurd Φ (mr.2 h)
   ·exact uP h
  have acY:¬bD du s1.H l:=fun ho=>by
   rcases g4.x.owned l ho with h|h
   ·exact absurd Φ (mr.2 h)
   ·exact uP h
  obtain ⟨ob,NT⟩:∃ob:Obj,ob=.loop { state:=.busy,pending:=none,fn,tmps,params:=R0.ps,assign:=R0.assign,body:=R0.body,defers:=D }:=⟨_,rfl⟩;refine ⟨w1.putObj l ob,by rw [NT];exact run_beginRound Bj rfl,?_⟩;let C2:Ctx:=⟨w.putObj l ob,F,β,H,R0.n,some l,.inr trivial,[]⟩;have MX:Inv (w1.putObj l ob) F1 du s1.H:=OF g4.inv UQ acY
  have ak:Ext C2.w C2.F C2.β ⟨aG,C2.H⟩ (w1.putObj l ob) F1 du ⟨aG,s1.H⟩:=by
   refine ⟨g4.x.os,g4.x.tape,g4.x.output,by show (w.putObj l ob).heap.size≤_;rw [j5,j5];exact g4.x.size,fun b hb ho=>?_,g4.x.mono,fun b hb=>(g4.x.new b hb).imp id fun h=>h.imp (fun h=>by show (w.putObj l ob).heap.size≤b;rw [j5];exact h) id,fun b hb=>(g4.x.owned b hb).imp (fun h=>by show (w.putObj l ob).heap.size≤b;rw [j5];exact h) id,fun _ _ _=>.χ,MX,g4.x.gh⟩
   have hb:b<w.heap.size:=by have hb:b<(w.putObj l ob).heap.size:=hb;rwa [j5] at hb
   show _=(w.putObj l ob).heap[b]?;by_cases e:b=l
   ·subst e;rw [LJ Φ,LJ (oh Φ g4.x.size)]
   ·rw [p6 e,p6 e];exact g4.x.block b hb ho
  have M3:ga F1 w1 (w1.putObj l ob):=fun b hb=>p6 fun e=>UQ (e▸hb)
  have N8:Rel C2 s1 a1 (w1.putObj l ob):=⟨F1,du,g1,trivial,fun t=>(g3 t).frame M3 fun _ h=>h,⟨ak,fun d hd=>by
   obtain ⟨D',q1,q2,q3,q4,q5⟩:=g4.m d hd;refine ⟨D',q1,by show (w.putObj l ob).heap.size≤D';rw [j5];exact q2,(p6 fun e=>?_).trans q3,q4,q5⟩;have q2:w.heap.size≤D':=q2
   omega,g4.nd,g4.sp⟩⟩
  refine wpIn_mono (hq.h C2 rfl a1 _ N8) ?_;rintro e a3 w3 ⟨s3,adq,jD⟩;have fin:∀(jump:Option Code) (e:LS),e.st=(if jump.isNone then .ready else .done)→e.zO=jump→jump.isNone=e.wZ→(e=e0∧Wk (R:=eE.yes) ⟨aG,s3.H⟩ ⟨aq [],H1⟩) →
    ∃v w',(Instr.endRound l jump).run P w3=.ok v w'∧∃v',Ending.returned v=.returned v'∧∃r au F' av,(r=.v (.bool e0.wZ)∧au.H=(lid,Chunk.lp l e0 R0 L)::H1)∧Rd w' F' av r v'∧Ext w F β ⟨aG,(lid,Chunk.lp l .iK R0 L)::H⟩ w' F' av au:=by
   rintro jump e bE dV jQ ⟨rfl,hW⟩;obtain ⟨F3,qF,k1,k2,k3,k4⟩:=adq;obtain ⟨F4,CX,_,_,_,k5⟩:=hW C2 a3 w3 ⟨F3,qF,k1,k2,fun _=>.χ,k4⟩;have hx:=k5.x
   have adC:w.heap.size≤w3.heap.size:=by have:=hx.size;have h2:(w.putObj l ob).heap.size≤w3.heap.size:=this;rwa [j5] at h2
   have Od:∀b,b<w.heap.size→¬bD β H b→w3.heap[b]?=(w.putObj l ob).heap[b]?:=fun b hb ho=>hx.block b (by show b<(w.putObj l ob).heap.size;rw [j5];exact hb) ho;have UW:∀b,F4 b→F b∨w.heap.size≤b∨bD β H b:=fun b hb=>(hx.new b hb).imp id fun h=>h.imp (fun h=>by have h2:(w.putObj l ob).heap.size≤b:=h;rwa [j5] at h2) id;have U6:∀b,bD CX H1 b→w.heap.size≤b∨bD β H b:=fun b hb=>(hx.owned b hb).imp (fun h=>by have h2:(w.putObj l ob).heap.size≤b:=h;rwa [j5] at h2) id
   have s4:w3.heap[l]?=some ob:=by rw [Od l Φ uP];exact LJ Φ
   rw [NT] at s4;have sR:=run_endRound (P:=P) jump s4;have acZ:=kJ s4
   have UR:¬F4 l:=fun hF=>by
    rcases UW l hF with h|h|h
    ·exact Bk h
    ·exact absurd Φ (mr.2 h)
    ·exact uP h
   have NK:¬bD CX H1 l:=fun ho=>by
    rcases U6 l ho with h|h
    ·exact absurd Φ (mr.2 h)
    ·exact uP h
   refine ⟨_,_,sR,_,rfl,_,⟨aG,(lid,Chunk.lp l e R0 L)::H1⟩,F4,CX,⟨rfl,rfl⟩,by rw [jQ];exact .i (.v (.inl rfl)),?_⟩;have MY:=k5.inv;generalize nO:w3.putObj l _=w4
   have hU:∀b,b≠l→w4.heap[b]?=w3.heap[b]?:=fun b hb=>by rw [←nO];exact p6 hb
   have Ee:Inv w4 F4 CX H1:=by rw [←nO];exact OF MY UR NK
   have I_:CX lid=.pointer (some ⟨l,0,none⟩):=(hx.gh lid IL).trans ai
   have haF:ga F w w4:=fun b hb=>by
    have aQ:b≠l:=fun e=>Bk (e▸hb);rw [hU b aQ,Od b (MZ.cA b hb) (fun ho=>MZ.apart b ho hb),p6 aQ]
   have uR:w4.os=w.os:=by rw [←nO];exact hx.os
   have Oi:js w w4:=by rw [←nO];exact hx.tape
   have hou:w4.output=w.output:=by rw [←nO];exact hx.output
   have adD:w.heap.size≤w4.heap.size:=by rw [←nO,j5];exact adC
   refine ⟨uR,Oi,hou,adD,fun b hb ho=>?_,hx.mono,fun b hb=>(UW b hb).imp id fun h=>h.imp id fun ⟨i,c,hm,hb⟩=>⟨i,c,cj _ hm,hb⟩,fun b ⟨i,c,hm,hb⟩=>?_,fun _ _ _=>.χ,⟨Ee.cA,fun i c hm=>?_,w7 fR,fun b ⟨i,c,hm,hb⟩ yD=>?_,fun i c i' c' b hm bQ hb aJ=>?_,Ee.fh⟩,hx.gh⟩
   ·have aQ:b≠l:=fun e=>ho ⟨lid,_,j2 ..,by rw [ai,e];rfl⟩;rw [hU b aQ,Od b hb (fun ⟨i,c,hm,hb⟩=>ho ⟨i,c,cj _ hm,hb⟩),p6 aQ]
   ·rcases bj.1 hm with hm|hm
    ·cases hm;exact .inr ⟨lid,_,j2 ..,by have h9:CX lid=β lid:=hx.gh lid IL;rw [←h9];exact hb⟩
    ·exact (U6 b ⟨i,c,hm,hb⟩).imp id fun ⟨i,c,hm,hb⟩=>⟨i,c,cj _ hm,hb⟩
   ·rcases bj.1 hm with hm|hm
    ·cases hm;refine ⟨fn,tmps,D,I_,?_,hn,fun p hp=>?_⟩
     ·rw [←nO,LJ acZ,bE,dV]
     ·have hpe:rl A2 2 p.2=p.2:=by
       have key:∀L':List (Nat×AV),(L'.map fun p=>(p.1,rl A2 2 p.2))=L'→∀p,p∈L'→rl A2 2 p.2=p.2:=by
        intro L';induction L' with
        |nil=>intro _ p hp;cases hp
        |cons q r ih =>
         intro he p hp;rw [jI,List.cons.injEq] at he
         rcases bj.1 hp with rfl|hp
         ·exact congrArg Prod.snd he.1
         ·exact ih he.2 p hp
       exact key L hL p hp
      exact ab5 (fun i hi=>hx.gh i hi) hpe ((hr p hp).frame haF hx.mono)
    ·exact Ee.holds i c hm
   ·rcases bj.1 hm with hm|hm
    ·cases hm;rw [I_] at hb;cases hb;exact UR yD
    ·exact Ee.apart b ⟨i,c,hm,hb⟩ yD
   ·rcases bj.1 hm with hm|hm<;>rcases bj.1 bQ with bQ|bQ
    ·cases hm;cases bQ;rfl
    ·cases hm;rw [I_] at hb;cases hb;exact (NK ⟨i',c',bQ,aJ⟩).elim
    ·cases bQ;rw [I_] at aJ;cases aJ;exact (NK ⟨i,c,hm,hb⟩).elim
    ·exact Ee.eo i c i' c' b hm bQ hb aJ
  cases e with
  |normal=>exact fin none .iK rfl rfl rfl jD
  |ret=>exact fin (some .ret) .ret rfl rfl rfl jD
  |exit i=>exact fin (some (.exit i)) (.ex i) rfl rfl rfl jD
  |goto t=>exact jD.elim
  |panic ch=>exact jD.elim
  |outgrown=>exact jD.elim
 |exit id=>exact hq.elim
 |goto t=>exact hq.elim
 |ret=>exact hq.elim
 |panic ch=>exact hq.elim
 |outgrown=>exact hq.elim
def tE (n:Nat):Code→List RF
 |.seq a b=>tE n a++tE n b
 |.cond _ a b=>tE n a++tE n b
 |.block _ c=>tE n c
 |.loop c=>tE n c
 |.scope c=>tE n c
 |.rangeFunc _ ps a b=>⟨ps,a,b,n⟩::(tE n a++tE n b)
 |_=>[]
def FJ (e:LS) (s:ah) (Q:Exit→ah→Prop):Prop:=match e with
 |.iK=>Q .normal s
 |.ret=>Q .ret s
 |.ex i=>Q (.exit i) s
 |.Ma=>False
section
variable {ρ:Type} {X Y:Option ρ} {r:ρ} {e:LS} {s:ah} {Q:Exit→ah→Prop}
def agX (h:(if e=.iK then X else Y)=some r) (y:X=some r→Q .normal s) (n:Y=some r→FJ e s Q):FJ e s Q:=by
 by_cases he:e=.iK
 ·rw [if_pos he] at h;subst he;exact y h
 ·rw [if_neg he] at h;exact n h
def agY (h:(if e=.ret then X else Y)=some r) (y:X=some r→Q .ret s) (n:Y=some r→FJ e s Q):FJ e s Q:=by
 by_cases he:e=.ret
 ·rw [if_pos he] at h;subst he;exact y h
 ·rw [if_neg he] at h;exact n h
end
def sh.mem {f:Nat→AV}:∀{L:List (Nat×AV)},sh f L→∀p,p∈L→Le (f p.1) p.2
 |[],_,_,h=>by cases h
 |(t,x)::r,hh,p,h=>by
  rcases bj.1 h with h|h
  ·subst h;exact hh.1
  ·exact hh.2.mem p h
def Ok.rangeFunc {n lid gf:Nat} {g:Operand} {ps:Array Tmp} {assign body:Code} {R0:RF} {cs:List AV} {L:List (Nat×AV)} {st:ah} {Q:Exit→ah→Prop} (hR0:R0=⟨ps,assign,body,n⟩)
  (pD:eO lid 1000=true) (hg:ev (fun t=>er 2 lid (st.f t)) g=.c (.func gf) [] cs) (hL:sh (fun t=>er 2 lid (st.f t)) L)
  (h:∀l,ae P (.f gf) (.c (.yield l) [] []::cs) ⟨fun t=>er 2 lid (st.f t),(lid,.lp l .iK R0 L)::gY lid st.H⟩ fun _ s=>∃e R' L',dO lid s.H=some (.lp l e R' L')∧FJ e ⟨s.f,oA lid s.H⟩ Q) :
  Ok (R:=eE.no) P n (.rangeFunc g ps assign body) st Q:=by
 letI:eE:=eE.no
 refine ⟨fun C hn a w iR=>?_⟩
 have pD:lid<1000:=by simpa using pD
 have EI:C.ro=none:=C.EI.resolve_right fun h=>h;obtain ⟨F,β,hs,_,hf,he⟩:=iR;refine wpIn_rangeFunc fun fn _=>?_;have adr:(fN C.ro).round=none:=EI;rw [adr];obtain ⟨W1,jd⟩:∃W1,(w.alloc (.deferred (some []))).alloc (.loop { state:=.ready,pending:=none,fn,tmps:=a.tmps,params:=ps,assign,body,defers:=w.heap.size })=W1:=⟨_,rfl⟩
 have M1:W1.heap[w.heap.size+1]?=some (.loop { state:=.ready,pending:=none,fn,tmps:=a.tmps,params:=ps,assign,body,defers:=w.heap.size }):=by
  rw [←jd];have:=aap (w.alloc (.deferred (some []))) (.loop { state:=.ready,pending:=none,fn,tmps:=a.tmps,params:=ps,assign,body,defers:=w.heap.size });rwa [World.size_alloc] at this
 have q9:W1.heap[w.heap.size]?=some (.deferred (some [])):=by
  rw [←jd];exact (Ry _ _ _ (by simp)).trans (aap w _)
 have hold:∀b,b<w.heap.size→W1.heap[b]?=w.heap[b]?:=fun b hb=>by
  rw [←jd];exact (Ry _ _ _ (by simp;omega)).trans (Ry _ _ _ hb)
 have alp:W1.heap.size=w.heap.size+2:=by rw [←jd];simp
 let bX:Nat→Value:=fun i=>if i=lid then .pointer (some ⟨w.heap.size+1,0,none⟩) else β i;have hI:=he.inv;have M3:ga F w W1:=fun b hb=>hold b (hI.cA b hb);have zw:∀i,i≠lid→bX i=β i:=fun i hi=>if_neg hi;have N6:∀t,Rd W1 F bX (er 2 lid (st.f t)) (a.tmps.getD t undef):=fun t=>sH zw 2 ((hf t).frame M3 fun _ h=>h)
 have jO:Ext w F β ⟨st.f,st.H⟩ W1 F bX ⟨fun t=>er 2 lid (st.f t),(lid,.lp (w.heap.size+1) .iK R0 L)::gY lid st.H⟩:=by
  refine qd pD hI (by rw [←jd];rfl) (by rw [←jd];exact ⟨rfl,fun _=>bG _⟩) (by rw [←jd];rfl) (by omega) (fun b hb _=>hold b hb) (fun i c' b _ hm hb=>hold b (hI.fJ ⟨i,c',hm,hb⟩)) (fun b hb=>.inl ?_) ?_
  ·simp only [bP,G_] at hb;omega
  ·rw [hR0];exact ⟨fn,a.tmps,w.heap.size,if_pos rfl,M1,by show a.tmps.size=n;rw [hs,hn],fun p hp=>hL.mem p hp _ _ _ _ (N6 p.1)⟩
 have hIb:=jO.inv
 have hgv:Rd W1 F bX (.c (.func gf) [] cs) (a.eval g):=by rw [←hg];exact AW N6 g
 obtain ⟨us,ws,gI,fB,Ov,_,hwr⟩:=hgv.nB;have e1:us=#[]:=ud (by simpa using fB);subst e1;have hc:=h (w.heap.size+1);obtain ⟨⟨fn0,c0,dK,dR,yH⟩,aco⟩:=hc
 have rv : ¬ fn0.name = "runtime.NumGoroutine" := by simpa using dR
 refine ⟨w.heap.size+1,[{ target:=.collected w.heap.size,args:=#[] }],W1,{ target:=.fn (.func gf) ws,args:=#[.func (.yield (w.heap.size+1)) #[] #[]] },W1,gf,#[.func (.yield (w.heap.size+1)) #[] #[]]++ws,W1,?_,?_,fun _ _=>trivial,?_,fun h=>(by cases h),?_⟩
 ·rw [←jd];exact run_enterLoop_outer _ _ _ _ _
 ·simp only [resolve,gI];simp [go_sem]
 ·simp [invoke,callFunc,dK,rv,yH]
 refine vZ (Calls.mono (aco W1 F bX _ hIb (by simp [Ov];omega) fun i hi=>?_) ?_)
 ·cases i with
  |zero =>
   have h0:(#[Value.func (Fn.yield (w.heap.size+1)) #[] #[]]++ws).getD 0 undef=.func (.yield (w.heap.size+1)) #[] #[]:=by simp [pX]
   rw [h0];exact .i (.c rfl rfl (fun i hi=>absurd hi (al7 _)) (fun i hi=>absurd hi (al7 _)))
  |succ i =>
   have hi:i<cs.length:=by simpa using hi
   have h2:i<ws.size:=by omega
   have:=hwr i hi;simpa [pX,h2,aV] using this
 rintro e w' ⟨v,rfl,r,s,F',av,⟨e,R',L',acO,hq⟩,hr,hx⟩;have hm:=fc acO;obtain ⟨Tv,YA,D',iU,qk,_,_⟩:=hx.inv.holds lid _ hm
 have aQ:e.st≠.busy:=by cases e<;>first|(intro h;cases h;done)|exact hq.elim
 have sR:=run_endLoop (P:=P) qk aQ;obtain ⟨ob,NT⟩:∃ob:Obj,w'.putObj (w.heap.size+1) ob=w'.putObj (w.heap.size+1) (.loop { state:=.exhausted,pending:=e.zO,fn:=Tv,tmps:=YA,params:=R'.ps,assign:=R'.assign,body:=R'.body,defers:=D' }):=⟨_,rfl⟩;have s5:=kJ qk;have uP:bD av s.H (w.heap.size+1):=⟨lid,_,hm,by rw [iU];rfl⟩;have Bk:¬F' (w.heap.size+1):=hx.inv.apart _ uP
 have Ni:∀b,bD av (oA lid s.H) b→bD av s.H b∧b≠w.heap.size+1:=fun b ⟨i,c,rp,hb⟩=>by
  obtain ⟨h1,h2⟩:=wc.1 rp;exact ⟨⟨i,c,h1,hb⟩,fun e=>h2 (hx.inv.eo i c lid _ b h1 hm hb (by rw [iU,e];rfl))⟩
 generalize nO:w'.putObj (w.heap.size+1) (.loop { state:=.exhausted,pending:=e.zO,fn:=Tv,tmps:=YA,params:=R'.ps,assign:=R'.assign,body:=R'.body,defers:=D' })=w4
 have acK:(Instr.endLoop (w.heap.size+1)).run P w'=.ok e.zO w4:=by rw [sR,←nO]
 have hU:∀b,b≠w.heap.size+1→w4.heap[b]?=w'.heap[b]?:=fun b hb=>by rw [←nO];exact p6 hb
 have MY:Inv w4 F' av (oA lid s.H):=by rw [←nO];exact OF (hx.inv.oA lid) Bk fun ho=>(Ni _ ho).2 rfl
 have ha4:ga F' w' w4:=fun b hb=>hU b fun e=>Bk (e▸hb);have hd4:Ext w' F' av ⟨aG,s.H⟩ w4 F' av ⟨aG,oA lid s.H⟩ :=
  ⟨by rw [←nO];rfl,by rw [←nO];exact ⟨rfl,fun _=>bG _⟩,by rw [←nO];rfl,by rw [←nO,j5];exact bG _,fun b _ ho=>hU b fun e=>ho (e▸uP),fun _ h=>h,fun _ h=>.inl h,fun b ho=>.inr (Ni b ho).1,fun _ _ _=>.χ,MY,fun _ _=>rfl⟩
 have kb:=((he.trans jO).trans hx.no).trans hd4
 have MU:¬bD bX ((lid,Chunk.lp (w.heap.size+1) .iK R0 L)::gY lid st.H) w.heap.size:=fun ⟨i,c,rp,hb⟩=>by
  rcases bj.1 rp with rp|rp
  ·cases rp;rw [show bX lid=.pointer (some ⟨w.heap.size+1,0,none⟩) from if_pos rfl] at hb;simp only [bP,G_] at hb;omega
  ·obtain ⟨h1,c1,h2,_⟩:=ir rp;rw [zw i h1] at hb;exact absurd (hI.fJ ⟨i,c1,h2,hb⟩) (Nat.lt_irrefl _)
 have N9:Rel C ⟨s.f,oA lid s.H⟩ { a with defers:=[{ target:=.collected w.heap.size,args:=#[] }]++a.defers } w4:=by
  have jS:C.ms ([{ target:=.collected w.heap.size,args:=#[] }]++a.defers)=[{ target:=.collected w.heap.size,args:=#[] }]++C.ms a.defers:=Ctx.aeO he.sp;refine ⟨F',av,hs,trivial,fun t=>((hx.keep t _ (N6 t)).frame ha4 fun _ h=>h),kb.x,fun d hd=>?_,?_,?_⟩
  ·rw [jS] at hd
   rcases gp.1 hd with hd|hd
   ·obtain rfl:=dB.1 hd;refine ⟨w.heap.size,rfl,he.x.size,?_,fun hF=>?_,fun ho=>?_⟩
    ·rw [hU _ (by omega),hx.block _ (by omega) MU,q9]
    ·rcases hx.new _ hF with h|h|h
     ·exact absurd (hI.cA _ h) (Nat.lt_irrefl _)
     ·omega
     ·exact MU h
    ·rcases hx.owned _ (Ni _ ho).1 with h|h
     ·omega
     ·exact MU h
   ·exact kb.m d hd
  ·rw [jS];refine List.nodup_append.2 ⟨by simp,he.nd,fun x Θ y hy e=>?_⟩;obtain rfl:=dB.1 Θ;subst e;obtain ⟨D2,q1,_,q3,_⟩:=he.m _ hy;have:=kJ q3;simp only [Deferred.mk.injEq,al9] at q1;omega
  ·obtain ⟨l,hl⟩:=he.sp;exact ⟨_::l,by rw [hl];rfl⟩
 refine ⟨e.zO,w4,acK,?_⟩;cases e with
 |iK=>exact ⟨_,N9,hq⟩
 |ret=>exact wpIn_ret ⟨_,N9,hq⟩
 |ex i=>exact wpIn_exit ⟨_,N9,hq⟩
 |Ma=>exact hq.elim
end
end
section
open Go.RowKit
def R0 {α:Type} {x:Option α}:bZ x x:=bZ.refl x
def I0 {α:Type} {p:Prop} [Decidable p] {x y x' y':Option α} (h:bZ x y) (h':bZ x' y'):bZ (if p then x else x') (if p then y else y'):=bZ.ite h h'
def lr {a:AV}:Le a a:=fun _ _ _ _ h=>h
def Q0:True:=True.intro
def Q1 {a:AV}:Le a a∧True:=⟨lr,Q0⟩
def Q2 {a b:AV}:Le a a∧Le b b∧True:=⟨lr,Q1⟩
def Q3 {a b c:AV}:Le a a∧Le b b∧Le c c∧True:=⟨lr,Q2⟩
def Q4 {a b c d:AV}:Le a a∧Le b b∧Le c c∧Le d d∧True:=⟨lr,Q3⟩
def Q5 {a b c d e:AV}:Le a a∧Le b b∧Le c c∧Le d d∧Le e e∧True:=⟨lr,Q4⟩
def Q6 {a b c d e f:AV}:Le a a∧Le b b∧Le c c∧Le d d∧Le e e∧Le f f∧True:=⟨lr,Q5⟩
def Q7 {a b c d e f g:AV}:Le a a∧Le b b∧Le c c∧Le d d∧Le e e∧Le f f∧Le g g∧True:=⟨lr,Q6⟩
def Q8 {a b c d e f g h:AV}:Le a a∧Le b b∧Le c c∧Le d d∧Le e e∧Le f f∧Le g g∧Le h h∧True:=⟨lr,Q7⟩
def hr {c:Chunk}:∃c0,some c=some c0∧iy c0 c:=⟨_,rfl,.refl _⟩
def J1 {a:Chunk}:(∃c0,some a=some c0∧iy c0 a)∧True:=⟨⟨_,rfl,.refl _⟩,Q0⟩
def J2 {a b:Chunk}:(∃c0,some a=some c0∧iy c0 a)∧(∃c0,some b=some c0∧iy c0 b)∧True:=⟨⟨_,rfl,.refl _⟩,J1⟩
def J3 {a b c:Chunk}:(∃c0,some a=some c0∧iy c0 a)∧(∃c0,some b=some c0∧iy c0 b)∧(∃c0,some c=some c0∧iy c0 c)∧True:=⟨⟨_,rfl,.refl _⟩,J2⟩
def J4 {a b c d:Chunk}:(∃c0,some a=some c0∧iy c0 a)∧(∃c0,some b=some c0∧iy c0 b)∧(∃c0,some c=some c0∧iy c0 c)∧(∃c0,some d=some c0∧iy c0 d)∧True:=⟨⟨_,rfl,.refl _⟩,J3⟩
def sj {α:Type} {a b:α} (h:some a=some b):b=a:=(nu h).symm
section
variable [M:cM] [G:dX] [R:eE]
variable {P:Program} {n:Nat} {st:ah} {Q:Exit→ah→Prop} {T:TT}
def wT {c:Code} (L:List (Nat×AV)) (H':Hp) (a:sh st.f L) (b:vP st.H H') (k:jm H'=true) (h:Ok P n c ⟨aq L,H'⟩ Q):Ok P n c st Q:=Ok.wk (Wk.tab a b k) h
def Sg {id:Nat} {ops:Array Oper} {y:Code} (hT:bL P T) (h:iW P T n ops ops.toList st (nx P n y Q .normal)):Ok P n (.seq (.region id ops false) y) st Q:=Ok.seq (Ok.region hT h)
def cn {x y:Code} {ρ:Type} {X Y:Option ρ} {r:ρ} (d:Nat) (b:Bool) (hb:st.f d=.v (.bool b)) (h:(if b=true then X else Y)=some r) (yes:b=true→X=some r→Ok P n x st Q) (no:b=false→Y=some r→Ok P n y st Q):Ok P n (.cond (.tmp d) x y) st Q:=Ok.cond hb h yes no
def sq {x y:Code} (h:Ok P n x st (nx P n y Q)):Ok P n (.seq x y) st Q:=Ok.seq h
def bl {id:Nat} {c:Code} (h:Ok P n c st (bk id Q)):Ok P n (.block id c) st Q:=Ok.block h
def sk (h:Q .normal st):Ok P n .skip st Q:=Ok.skip h
def rt (h:Q .ret st):Ok P n .ret st Q:=Ok.ret h
def xt {id:Nat} (h:Q (.exit id) st):Ok P n (.exit id) st Q:=Ok.exit h
def wt {L:List (Nat×AV)} {H':Hp} (hL:sh st.f L) (hH:vP st.H H') (hk:jm H'=true):Wk st ⟨aq L,H'⟩:=Wk.tab hL hH hk
def po {g : Nat} {fn : Func} {args : List AV} {r : AV} (hT : bL P T) (n : Nat) (dK : P.funcs[g]? = some fn) (dR : (fn.name == "runtime.NumGoroutine") = false) (hb : fn.body = some (fn.body.getD .skip)) (hn : fn.ntmps = n) (hle : p4 args.length n = true)
  (h:Ok P n (fn.body.getD .skip) ⟨lg args,[]⟩ (sK T fn.results.toList fun x st=>Fz st.H x r)):Pure P g args r:=agG hT dK dR hb hn (Aw hle) h
def pw {g E K : Nat} {fn : Func} {args : List AV} {rows : List (List AV)} (hT : bL P T) (n : Nat) (dK : P.funcs[g]? = some fn) (dR : (fn.name == "runtime.NumGoroutine") = false) (hb : fn.body = some (fn.body.getD .skip)) (hn : fn.ntmps = n) (hle : p4 args.length n = true)
  (h:Ok P n (fn.body.getD .skip) ⟨lg args,[]⟩ (sK T fn.results.toList (LN E K rows))):iN P g args E K rows:=agF hT dK dR hb hn (Aw hle) h
end
section
variable [M:cM] [G:dX]
variable {m:List (Nat×Nat)} {x x2 x3 x4:AV} {xs ys:List AV}
def n1 (t:i_ m xs ys) (h:kg x=true:=by rfl):i_ m (x::xs) (x::ys):=.cons (Ln.dL h) t
def n2 (t:i_ m xs ys) (h:kg x=true:=by rfl) (h2:kg x2=true:=by rfl):i_ m (x::x2::xs) (x::x2::ys):=n1 (n1 t h2) h
def n4 (t:i_ m xs ys) (h:kg x=true:=by rfl) (h2:kg x2=true:=by rfl) (h3:kg x3=true:=by rfl) (h4:kg x4=true:=by rfl):i_ m (x::x2::x3::x4::xs) (x::x2::x3::x4::ys):=n2 (n2 t h3 h4) h h2
def Wi:∀{xs:List AV},xs.all kg=true→i_ m xs xs
 |[],_=>.nil
 |x::xs,h=>by
  rw [List.all_cons,bJ] at h;exact .cons (Ln.dL h.1) (Wi h.2)
def nq (h:xs.all kg=true:=by rfl):i_ m xs xs:=Wi h
def l1 (t:iz xs ys):iz (x::xs) (x::ys):=.cons (Le.refl _) t
def l2 (t:iz xs ys):iz (x::x2::xs) (x::x2::ys):=l1 (l1 t)
def l4 (t:iz xs ys):iz (x::x2::x3::x4::xs) (x::x2::x3::x4::ys):=l2 (l2 t)
def lz:iz xs xs:=iz.refl xs
end
end
section
open Go.RowKit Go.Sort Go.Proofs
variable [M:cM] [G:dX] [R:eE]
def aiJ {α:Type} {cf:α→α→Int} (hw:SWO (fun x y=>decide (cf x y<0))) {l r s:List α} (h1:r.Perm l) (h2:r.Pairwise (fun x y=>cf x y<0)) (h3:s.Perm l) (h4:s.Pairwise (fun x y=>¬cf y x<0)):s=r:=by
 have acf:∀{x y:α},cf x y<0→¬cf y x<0:=fun {x y} h1 h2=>by
  have:=hw.trans x y x (decide_eq_true h1) (decide_eq_true h2);have hi:=hw.irrefl x;rw [hi] at this;cases this
 have Nd:∀a,a∈r→∀b,b∈r→a=b∨cf a b<0∨cf b a<0:=fun a ha b hb=>by
  obtain ⟨i,hi,rfl⟩:=Da.1 ha;obtain ⟨j,hj,rfl⟩:=Da.1 hb;have hp:=List.pairwise_iff_getElem.1 h2
  rcases Nat.lt_trichotomy i j with h|h|h
  ·exact .inr (.inl (hp i j hi hj h))
  ·subst h;exact .inl rfl
  ·exact .inr (.inr (hp j i hj hi h))
 refine List.Perm.eq_of_pairwise (le:=fun x y=>¬cf y x<0) (fun a b ha hb jN hba=>?_) h4 (h2.imp fun h=>acf h) (h3.trans h1.symm)
 rcases Nd a ((h3.trans h1.symm).mem_iff.1 ha) b hb with h|h|h
 ·exact h
 ·exact absurd h hba
 ·exact absurd h jN
section
variable {P:Program}
def Xh {f k E g:Nat} {α:Type} {enc:α→List AV} {c:α→α→Option Int} {l r:List α} (hS:Hk P f k) (hf:p7 P f)
  (hk:∀x,(enc x).length=k) (di:∀x y n,c x y=some n→@Pure cM.yes G P g [.a (enc x),.a (enc y)] (.v (.int .i64 n)))
  (eg:∀args w,(callFunc g args).run P w=.ok (.enter g args) w) (h:xn c l=some r) :
  mz P f [.o 1000,.c (.func g) [] []] (.own E k (l.map enc)) (fun x c=>x=.t []∧c=.own E k (r.map enc)):=by
 obtain ⟨gu,cf,hc,bT⟩:=aif h;obtain ⟨Vh,lL⟩:=Gq hc bT;refine ⟨hf,fun w F β vs hI hs jk=>?_⟩;have h0:=jk 0 (Nat.zero_lt_succ _);have h1:=jk 1 (Nat.lt_succ_self _);obtain ⟨a,n,cap,ai,e0⟩:=Rd.jY (id:=1000) h0;obtain ⟨us,ws,e1,fB,Ov,_⟩:=Rd.nB (fn:=.func g) (fs:=[]) (cs:=[]) h1;have On:us=#[]:=ud (by simpa using fB);have adS:ws=#[]:=ud (by simpa using Ov);subst On;subst adS
 have adG:vs=#[.slice a n cap,.func (.func g) #[] #[]]:=by have:=Sq (vs:=vs) (by simpa using hs);rw [e0,e1] at this;exact this
 subst adG;have hlen:=Vh.length_eq;have N7:∀W:World,∀F:Nat→Prop,bh W F (.t []) (.tuple #[]):=fun W F=>.t rfl fun i hi=>absurd hi (by simp);have hh:=hI.holds 1000 (.own E k (l.map enc)) (by simp)
 rcases hh with ⟨hr,a',iU⟩|⟨b,cp,cur,iU,Uo,hb,nL,nG,fZ,EH,eP⟩
 ·have hl:l=[]:=by simpa using hr
  subst hl;rw [iU] at ai;cases ai;have de:r=[]:=qL (by simpa using hlen);refine (hS.1 _ _ _ w).mono ?_;rintro e w' ⟨rfl,rfl⟩;exact ⟨_,rfl,_,_,F,⟨rfl,rfl⟩,N7 _ _,rfl,js.refl _,rfl,bG _,fun _ _ _=>rfl,fun _ h=>h,fun _ h=>.inl h,rfl,.inl ⟨by rw [de];rfl,_,iU⟩⟩
 ·have IM:(l.map enc).length=l.length:=ax _;rw [IM] at iU nL;rw [iU] at ai
  obtain ⟨ea,en,ec⟩:some (⟨b,0,none⟩:Addr)=a∧l.length=n∧cp=cap:=by simpa using ai
  subst ea;subst en;subst ec;have blt:b<w.heap.size:=kJ hb
  have kR:bP (β 1000)=some b:=by
   rw [iU]
   have h0:aH cp 0=false:=by cases cp<;>first|rfl|omega
   simp [bP,h0]
  have hnF:¬F b:=hI.apart b ⟨1000,.own E k (l.map enc),by simp,kR⟩;let A:Type:={ p:List Value×α // p.1.length=k∧(∀v,v∈p.1→v.oneCell'=true)∧∀j,j<k→bh w F ((enc p.2).getD j .χ) (p.1.getD j undef) };let ev:A→List Value:=fun p=>p.1.1;have jE:∀i,(hi:i<l.length)→(((gA k).map fun j=>cur.getD (i*k+j) undef),l[i]).1.length=k∧(∀v,v∈(((gA k).map fun j=>cur.getD (i*k+j) undef),l[i]).1→v.oneCell'=true) ∧
    ∀j,j<k→bh w F ((enc (((gA k).map fun j=>cur.getD (i*k+j) undef),l[i]).2).getD j .χ) ((((gA k).map fun j=>cur.getD (i*k+j) undef),l[i]).1.getD j undef):=fun i hi=>by
   have e2:(l.map enc).getD i []=enc l[i]:=by simp [aV,hi]
   refine ⟨by simp,fun v hv=>?_,fun j hj=>?_⟩
   ·obtain ⟨j,hj,rfl⟩:=dq.1 hv;exact (eP i j (by simpa using hi) (List.mem_range.1 hj)).1
   ·have:=(eP i j (by simpa using hi) hj).2;rw [e2] at this
    have e3:((gA k).map fun j=>cur.getD (i*k+j) undef).getD j undef=cur.getD (i*k+j) undef:=by simp [aV,hj]
    dsimp only;rw [e3];exact this
  let l':List A:=List.ofFn fun i:Fin l.length=>(⟨(((gA k).map fun j=>cur.getD (i.1*k+j) undef),l[i.1]),jE i.1 i.2⟩:A)
  have uN:l'.length=l.length:=by simp [l']
  have ac5:l'.map (fun p=>p.1.2)=l:=by
   apply List.ext_getElem (by simp [l']);intro i h1 h2;simp [l']
  rcases oY l.length with hz|rz
  ·-- nothing to be sorted
   have Ex:l=[]:=qL hz;subst Ex;have de:r=[]:=qL (by simpa using hlen);refine (hS.1 _ _ _ w).mono ?_;rintro e w' ⟨rfl,rfl⟩;exact ⟨_,rfl,_,_,F,⟨rfl,rfl⟩,N7 _ _,rfl,js.refl _,rfl,bG _,fun _ _ _=>rfl,fun _ h=>h,fun _ h=>.inl h,rfl,.inr ⟨b,cp,cur,by rw [de];exact iU,Uo,hb,by rw [de];exact Nat.zero_le _,nG,fZ,by rw [de];intro i hi;exact absurd hi (by simp),by rw [de];intro i j hi;exact absurd hi (by simp)⟩⟩
  haveI:Inhabited A:=⟨l'[0]'(by omega)⟩
  let uw:A→A→Int:=fun x y=>cf x.1.2 y.1.2;have Vn:SWO (fun x y=>decide (uw x y<0)):=⟨fun x=>hc.2.irrefl x.1.2,fun x y z=>hc.2.trans x.1.2 y.1.2 z.1.2,fun x y z=>hc.2.ntrans x.1.2 y.1.2 z.1.2⟩;have Ew:∀x,(ev x).length=k:=fun x=>x.2.1;have q8:∀x,∀v∈ev x,v.oneCell'=true:=fun x=>x.2.2.1
  have lJ:∀i (hi:i<l.length),l'[i]'(by omega)=(⟨(((gA k).map fun j=>cur.getD (i*k+j) undef),l[i]),jE i hi⟩:A):=fun i hi=>by simp [l']
  have hH:HoldsK ev k w b 0 l'.toArray:=fun j hj=>by
   rw [size_flatK] at hj
   have dz:j<l.length*k:=by simpa [uN] using hj
   have kY:0<k:=(oY k).elim (fun h=>by subst h;simp at dz) fun h=>h;have hq:j/k<l.length:=(Nat.div_lt_iff_lt_mul kY).2 dz;have hm:j % k<k:=Nat.mod_lt _ kY
   have hjj:j/k*k+j % k=j:=by rw [oi];exact Nat.div_add_mod j k
   have UJ:j<cur.size:=by rw [fZ];exact oh dz (cI k nL)
   refine ⟨?_,?_⟩
   ·rw [get_flatK _ _ _ _ (by simpa [uN] using dz),cell_of_row w b _ cur E (0,0) hb]
    have e2:l'.toArray[j/k]! = l'[j/k]'(by omega):=by rw [getElem!_pos _ _ (by simpa [uN] using hq)];simp
    rw [e2,lJ _ hq];show cur[0+j]?=some (((gA k).map fun q=>cur.getD (j/k*k+q) undef)[j % k]!);rw [getElem!_pos _ _ (by simpa using hm)];simp [hjj,UJ]
   ·simp [World.frozen?,hb]
  have agree:∀(m:Nat) (os:Array Obj) (dk:Array A),ga F w (sortWorldK ev k w b 0 m dk os):=fun m os dk b' aJ=>Uw (fun e=>hnF (e▸aJ)) (hI.cA b' aJ)
  have Vm:=hS.2 A ev Ew q8 uw Vn g #[] b 0 cp l'.toArray w eg (fun m os dk _ x y=>by
    let W:=sortWorldK ev k w b 0 m dk os;have hIW:Inv W F (fun _=>undef) []:=⟨fun b' aJ=>oh (hI.cA b' aJ) XY,fun _ _ h=>by simp at h,by simp,fun _ ⟨_,_,h,_⟩=>by simp at h,fun _ _ _ _ _ h=>by simp at h,hI.fh.at (agree m os dk)⟩
    have rd:∀z:A,Rd W F (fun _=>undef) (.a (enc z.1.2)) (.agg (ev z).toArray):=fun z=>by
     have mX:(ev z).length=k:=Ew z;refine .i (.a (by simp [mX,hk]) (fun i hi=>?_) fun i hi=>?_)
     ·have bm:i<(ev z).length:=by rw [mX,←hk z.1.2];exact hi
      have:(ev z).toArray.getD i undef=(ev z)[i]:=by simp [xz,bm]
      rw [this];exact q8 z _ (ek bm)
     ·have bm:i<(ev z).length:=by rw [mX,←hk z.1.2];exact hi
      have e:(ev z).toArray.getD i undef=(ev z).getD i undef:=by simp [xz,aV,bm]
      rw [e];exact (z.2.2.2 i (by rw [←hk z.1.2];exact hi)).frame (agree m os dk) fun _ h=>h
    have hp:=(di x.1.2 y.1.2 (cf x.1.2 y.1.2) (hc.1 _ _)).2 W F (fun _=>undef) #[.agg (ev x).toArray,.agg (ev y).toArray] hIW rfl (fun i hi=>by
     match i,hi with
     |0,_=>exact rd x
     |1,_=>exact rd y
     |n+2,hi=>exact absurd hi (by simp))
    refine (show Calls P g (#[.agg (ev x).toArray,.agg (ev y).toArray]++#[]) W _ from hp).mono ?_;rintro e w' ⟨v,rfl,hb,hr⟩;refine ⟨?_,hb.ab9⟩
    cases hr with|v h=>rfl) hH blt (by simp [uN];omega)
  have aX:l'.toArray.size=l.length:=by simp [uN]
  rw [aX] at Vm;refine (show Calls P f #[.slice (some ⟨b,0,none⟩) l.length cp,.func (.func g) #[] #[]] w _ from Vm).mono ?_;rintro e w' ⟨rfl,n,os,rfl⟩
  have cK:pdq (fun x y=>decide (uw x y<0)) l'.toArray 0 l.length (Lib.bitLen l.length) true true=(xm uw l').toArray:=by simp [xm,uN]
  simp only [cK];obtain ⟨zj,IZ⟩:=aie Vn l';have wS:(xm uw l').map (fun p=>p.1.2)=r:=aiJ hc.2 Vh lL (by have:=zj.map (fun p:A=>p.1.2);rw [ac5] at this;exact this) (by rw [List.pairwise_map];exact IZ);generalize ez:xm uw l'=s at wS zj IZ
  have wU:s.length=l.length:=by rw [zj.length_eq,uN]
  have hbH:=acI (enc:=ev) (k:=k) (off:=0) (n:=n) (d:=s.toArray) (os:=os) hb;subst wS;have jC:(s.map fun p=>p.1.2).length=s.length:=ax _;refine ⟨_,rfl,_,_,F,⟨rfl,rfl⟩,N7 _ _,rfl,⟨rfl,fun _=>Nat.le_add_right _ _⟩,rfl,XY,fun c hc aQ=>Uw (fun h=>aQ (by rw [kR,h])) hc,fun _ h=>h,fun _ h=>.inl h,?_,.inr ⟨b,cp,_,?_,Uo,hbH,?_,nG,?_,?_,?_⟩⟩
  ·rfl
  ·rw [iU,ax,jC,wU]
  ·rw [ax,jC,wU];exact nL
  ·simp [putCells,fZ]
  ·intro i hi;rw [ax,jC] at hi;simp [aV,hi,hk]
  ·intro i j hi hj;rw [ax,jC] at hi
   have sX:i<l.length:=by omega
   have nI:i*k+j<l.length*k:=by
    have:=cI k (show i+1≤l.length from sX);rw [Nat.add_mul,Nat.one_mul] at this;omega
   have UG:i*k+j<cur.size:=by rw [fZ];exact oh nI (cI k nL)
   have kY:0<k:=by omega
   have e4:(i*k+j)/k=i:=by rw [oi,Nat.mul_add_div kY,Nat.div_eq_of_lt hj];rfl
   have e5:(i*k+j) % k=j:=by rw [oi,Nat.mul_add_mod,Nat.mod_eq_of_lt hj]
   have Bl:i*k+j<s.length*k:=by rw [wU];exact nI
   have e6:(putCells id 0 (flatK ev k s.toArray) cur).getD (i*k+j) undef=(ev s[i]).getD j undef:=by
    have:(putCells id 0 (flatK ev k s.toArray) cur)[i*k+j]?=some ((ev s[i]).getD j undef):=by
     unfold putCells;rw [Array.getElem?_mapIdx,Array.getElem?_eq_getElem UG];have hc:0≤i*k+j∧i*k+j<0+(flatK ev k s.toArray).size:=⟨Nat.zero_le _,by rw [size_flatK];simpa using Bl⟩;rw [Option.map_some,if_pos hc,Nat.sub_zero,get_flatK _ _ _ _ (by simpa using Bl),e4,e5]
     have e2:s.toArray[i]! = s[i]:=by rw [getElem!_pos _ _ (by simpa using hi)];simp
     rw [e2];show some ((ev s[i])[j]!)=_;rw [getElem!_pos _ _ (by rw [Ew];exact hj)];simp [aV,Ew,hj]
    rw [Array.getD_eq_getD_getElem?,this];rfl
   have e7:((s.map fun p=>p.1.2).map enc).getD i []=enc s[i].1.2:=by simp [aV,hi]
   rw [e6,e7]
   have UI:j<(ev s[i]).length:=by rw [Ew];exact hj
   have e8:(ev s[i]).getD j undef=(ev s[i])[j]:=by simp [aV,UI]
   refine ⟨by rw [e8];exact q8 s[i] _ (ek UI),?_⟩;exact (s[i].2.2.2 j hj).frame (agree n os s.toArray) fun _ h=>h
end
end
end Go.Cat
