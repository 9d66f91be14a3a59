/- The logic that the walks are in, piece P6. No condition. -/
import Derived.Test.YtdcgbodbejgliaaGreatDoorXTopClientsCatP5
import Derived.Laws.AppendOwn
import Derived.Shelf.SlIterI.Nil
import Derived.Shelf.SortM.Plain
import Derived.Shelf.SortM.SortNone
import Derived.Test.YtdcgbodbejgliaaGreatDoorXTopClientsCatP1
import Derived.RangeFuncBox
import Derived.RangeFuncWrites
import Derived.RangeFuncLeaves
import Derived.Test.YtdcgbodbejgliaaGreatDoorXTopClientsCatP4
open Array renaming eq_empty_of_size_eq_zero → ue, getElem?_append → pV, getD → xl
open Bool renaming and_eq_true → bE, not_eq_true' → oV
open Go.RowKit renaming Below → QY
open Go.RowKit.Below renaming heap_alloc → QZ
open Go.Target.collected renaming injEq → alG
open Go.Value renaming int → du
open Go.World renaming putObj_size → j4, putObj_heap_other → p5, putObj_heap_same → Lu, alloc_heap_new → ZT
open List renaming length_map → az, mem_cons_of_mem → cu, mem_cons → bf, getD → aV, mem_singleton → dC, pairwise_cons → eD, mem_map → c9, all_eq_true → ej, getElem_mem → eI, not_mem_nil → eJ, mem_append → gl, mem_cons_self → j1, nodup_cons → iw, range → gw, map_cons → jJ, eq_nil_of_length_eq_zero → qQ, any_eq_false → pY, nodup_nil → qS, mem_iff_getElem → Dg, perm_cons → alF
open Nat renaming mul_le_mul_right → cG, eq_of_beq_eq_true → cT, beq → aH, le_refl → bG, eq_zero_or_pos → oW, blt → eN, blt_eq → gH, beq_refl → iW, lt_of_lt_of_le → oe, mul_comm → og, not_lt → me, le_of_ble_eq_true → AD, ble → p0, not_lt_zero → alE
open Option.some renaming inj → nn, injEq → G_
namespace Go.Cat
set_option linter.all false
section
open Go.RowKit
variable [M:bM] [G:cK] [R:dK]
section
variable {P:Program}
def Fz.w {H:Hp} {id E K d:Nat} {rows:List (List AV)} (h:dH id H=some (.own E K rows)):Fz H (.w id K d) (.s (rows.drop d)):=fun w F β u hI hr=>by
 obtain ⟨a,a',n,c,ah,hd,ha,rfl⟩:=hr.xi;have hm:=eZ h
 rcases hI.holds _ _ hm with ⟨rfl,a2,hv⟩|⟨g,cap,cur,hv,hc,hg,hn,gp,hs,hK,hr⟩
 ·rw [ah] at hv;cases hv
  have:d=0:=by omega
  subst this;exact .s0
 ·rw [ah] at hv;cases hv
  have h0:aH c 0=false:=by cases c<;>first|rfl|omega
  have eO:=(JC (hI.holds _ _ hm) ah).2.2.2;obtain ⟨u,hu⟩:=eO
  have hlen:(rows.drop d).length=rows.length-d:=by simp
  by_cases hdc:d<c
  ·have ha:=ha hdc;subst ha
   have e:(Option.map (·.add (d*K)) (some (⟨g,0,none⟩:Addr)))=some ⟨g,d*K,none⟩:=by simp [Addr.add_lit]
   rw [e,←hlen]
   have jE:∀i,i<(rows.drop d).length→(rows.drop d).getD i []=rows.getD (d+i) []:=fun i hi=>by simp [aV,List.getElem?_drop]
   refine .s (off:=d*K) (k:=K) (u:=fun i j=>u (d+i) j) (.inr ⟨id,_,hm,by rw [ah];simp [bR,h0]⟩) (by omega) (by omega) (fun i hi=>?_) (fun i j hi hj=>?_) (fun i j hi hj=>?_) fun i j hi hj=>?_
   ·rw [jE i hi];exact hK _ (by omega)
   ·have:=(hu (d+i) j (by omega) hj).1;rw [←this];congr 2;rw [Nat.add_mul];omega
   ·exact (hu (d+i) j (by omega) hj).2.1
   ·rw [jE i hi];exact (hu (d+i) j (by omega) hj).2.2.frame (fun _ _=>rfl) fun _ h=>.inl h
  ·have M5:rows.length-d=0:=by omega
   have ax:c-d=0:=by omega
   have:rows.drop d=[]:=qQ (by omega);rw [M5,ax,this];exact .s0
def Fz.wm {α:Type} {f:α→List AV} {l:List α} {H:Hp} {id E K d:Nat} (h:dH id H=some (.own E K (l.map f))):Fz H (.w id K d) (.s ((l.drop d).map f)):=by
 rw [List.map_drop];exact Fz.w h
end
end
section
open Go.RowKit
variable [M:bM] [G:cK] [R:dK]
section
variable {P:Program}
def ZW (P:Program) (g k1:Nat):Prop:=∀(b:Nat) (w:World),
 Calls P g #[.map (some b)] w fun e w'=>e=.returned (.func (.func k1) #[] #[.pointer (some ⟨w.heap.size,0,none⟩)])∧∃T,w'=w.alloc (.cells #[.map (some b)] T)
def akz (P:Program) (g k1 E:Nat):Prop:=∀(w:World) (Bm b:Nat) (es:Array MapEntry) (ck:Nat) (ks:List Int),w.cell? ⟨Bm,0,none⟩=some (.map (some b))→Bm<w.heap.size →
 w.heap[b]?=some (.map es ck)→Go.MapKept.Stamped es ck→es.toList.map (·.key)=ks.map (du .i64)→(∀n,n∈ks→Θ n)→ks.length*8≤140737488355328 →
 Calls P g #[.func (.func k1) #[] #[.pointer (some ⟨Bm,0,none⟩)]] w fun e w'=>∃v,e=.returned v ∧
  w'.ownsRow w.heap.size E 1 v ks.length ((ks.mergeSort fun x y=>decide (x≤y)).map (du .i64))∧QY w.heap.size w w'
def af.keys {g k1 id D:Nat} {ag:Bool} {rows:List (Int×List AV)} {st:ae} {k:AV→ae→Prop} (hS:ZW P g k1) (hE:p6 P g) (hc:dH id st.H=some (.mp ag rows)) (hD:eN D 1000=true) (aP:aH id D=false)
  (hk:k (.c (.func k1) [] [.b D 0]) (gJ st D (.box [.m id]))):af P g [.m id] st k:=by
 refine ⟨hE,fun w F β vs hI hs hv=>?_⟩
 have acm:id≠D:=fun e=>by rw [e,iW] at aP;cases aP
 obtain ⟨b,ah,N5⟩:=(hv 0 (by simp)).zz
 have jk:vs=#[.map (some b)]:=by
  apply Array.ext
  ·simpa using hs
  ·intro i h1 h2;have h2:i<1:=h2
   have:i=0:=by omega
   subst this;simpa [xl,h1] using N5
 subst jk;refine (hS b w).mono ?_;rintro e w' ⟨rfl,T,rfl⟩;have hb:=vR w (.cells #[.map (some b)] T);have eS:(w.alloc (.cells #[.map (some b)] T)).heap[w.heap.size]?=some (.cells #[.map (some b)] T):=(Go.MapKept.heap_alloc w _).1
 refine ⟨_,rfl,_,_,F,fun q=>if q=D then .pointer (some ⟨w.heap.size,0,none⟩) else β q,hk,.c rfl rfl (fun i hi=>by simp at hi) (fun i hi=>?_),qc (v:=.pointer (some ⟨w.heap.size,0,none⟩)) (by simpa using hD) hI hb.os hb.tape hb.output hb.size (fun b aK _=>hb.block b aK)
  (fun i c' b _ hm aK=>hb.block b (hI.fM ⟨i,c',hm,aK⟩)) (fun b aK=>.inl ?_) ?_⟩
 ·have hi:i<1:=by simpa using hi
  have:i=0:=by omega
  subst this;exact .b (by simp)
 ·simp [bR] at aK;omega
 ·refine ⟨w.heap.size,#[.map (some b)],T,by simp,eS,rfl,fun i hi=>?_,fun i hi=>?_⟩
  ·have hi:i<1:=by simpa using hi
   have:i=0:=by omega
   subst this;rfl
  ·have hi:i<1:=by simpa using hi
   have:i=0:=by omega
   subst this;exact .m (by simp [acm,ah])
end
end
section
open Go.RowKit Go.Proofs Go.Shelf Go.Maps Go.Sort
open Go.WideElems (Fit rg)
def ak4 (_:Value):Option (DataW Unit×List MemPlace):=some (.lit (.bool false),[])
end
section
variable [M:bM] [G:cK] [R:dK]
end
section
open Go.RowKit
variable [M:bM] [G:cK] [R:dK]
def cU:List (Nat×Nat)→Nat→Option Nat
 |[],_=>none
 |(i,j)::r,x=>bif aH x i then some j else cU r x
def at_mem {i j:Nat}:∀{m:List (Nat×Nat)},cU m i=some j→(i,j)∈m
 |[],h=>by cases h
 |(a,b)::r,h=>by
  simp only [cU] at h;cases hb:aH i a with
  |true=>rw [hb] at h;cases h;rw [cT hb];simp
  |false=>rw [hb] at h;exact cu _ (at_mem h)
def Ht {i j:Nat}:∀{m:List (Nat×Nat)},(m.map (·.1)).Nodup→(i,j)∈m→cU m i=some j
 |[],_,h=>by cases h
 |(a,b)::r,hn,h=>by
  simp only [jJ,iw] at hn;simp only [cU]
  rcases bf.1 h with h|h
  ·cases h;rw [iW];rfl
  ·have:aH i a=false:=by
    cases hb:aH i a with
    |false=>rfl
    |true=>exact absurd (c9.2 ⟨_,h,cT hb⟩) hn.1
   rw [this];exact Ht hn.2 h
def rl (φ:Nat→Option Nat):Nat→AV→AV
 |n,x=>match x with
  |.b i o=>match φ i with
   |some j=>.b j o
   |none=>.χ
  |.o i=>match φ i with
   |some j=>.o j
   |none=>.χ
  |.e i K m o=>match φ i with
   |some j=>.e j K m o
   |none=>.χ
  |.w i K d=>match φ i with
   |some j=>.w j K d
   |none=>.χ
  |.m i=>match φ i with
   |some j=>.m j
   |none=>.χ
  |.a cs=>match n with
   |0=>.χ
   |n+1=>.a (cs.map (rl φ n))
  |.t cs=>match n with
   |0=>.χ
   |n+1=>.t (cs.map (rl φ n))
  |.c fn fs cs=>match n with
   |0=>.χ
   |n+1=>.c fn (fs.map (rl φ n)) (cs.map (rl φ n))
  |.v x=>.v x
  |.s r=>.s r
  |.p c=>.p c
  |.z=>.z
  |.χ=>.χ
def Pk (φ:Nat→Option Nat):Chunk→Chunk
 |.box cells=>.box (cells.map (rl φ 2))
 |.own E k rows=>.own E k rows
 |.mp ag rows=>.mp ag rows
 |.lp l e R L=>.lp l e R (L.map fun p=>(p.1,rl φ 2 p.2))
 |.si s pos=>.si s pos
def hU (φ:Nat→Option Nat):Hp→Hp
 |[]=>[]
 |(i,c)::r=>match φ i with
  |some j=>(j,Pk φ c)::hU φ r
  |none=>hU φ r
section
variable {P:Program} {T:TT} {w:World} {F:Nat→Prop} {β av:Nat→Value}
def zU {φ:Nat→Option Nat} (ah:∀i j,φ i=some j→av j=β i):∀(n:Nat) {x:AV} {u:Value},Rd w F β x u→Rd w F av (rl φ n x) u:=by
 have one:∀{i:Nat} {f:Nat→AV} {u:Value},(∀j,φ i=some j→Rd w F av (f j) u)→Rd w F av (match φ i with|some j=>f j|none=>.χ) u:=fun h=>by
  split
  ·exact h _ (by assumption)
  ·exact .χ
 have leaf:∀{n:Nat} {x:AV} {u:Value},Rd w F β x u→(∀cs,x≠.a cs)→(∀cs,x≠.t cs)→(∀g fs cs,x≠.c g fs cs)→Rd w F av (rl φ n x) u:=by
  intro n x u h h1 h2 h3;cases x with
  |v x=>cases h with|i h=>cases h;cases n<;>exact .i (.v (by assumption))
  |s r=>cases n<;>exact .i h.oP
  |p c=>cases n<;>exact .i h.B0
  |z=>obtain ⟨a,rfl⟩:=h.Av;cases n<;>exact .i .z
  |χ=>cases n<;>exact .χ
  |a cs=>exact absurd rfl (h1 cs)
  |t cs=>exact absurd rfl (h2 cs)
  |c g fs cs=>exact absurd rfl (h3 g fs cs)
  |b i o =>
   obtain ⟨eX,hb,rfl⟩:=h.mz;cases n<;>exact one fun j hj=>.b ((ah i j hj).trans hb)
  |o i =>
   obtain ⟨a,k,c,hb,rfl⟩:=h.jY;cases n<;>exact one fun j hj=>.o ((ah i j hj).trans hb)
  |e i K m o =>
   obtain ⟨g,k,c,hb,rfl⟩:=h.AY;cases n<;>exact one fun j hj=>.e ((ah i j hj).trans hb)
  |w i K d =>
   obtain ⟨a,a',k,c,hb,hd,ha,rfl⟩:=h.xi;cases n<;>exact one fun j hj=>.w ((ah i j hj).trans hb) hd ha
  |m i =>
   obtain ⟨b,hb,rfl⟩:=h.zz;cases n<;>exact one fun j hj=>.m ((ah i j hj).trans hb)
 intro n;induction n with
 |zero =>
  intro x u h;cases x with
  |a cs=>exact .χ
  |t cs=>exact .χ
  |c g fs cs=>exact .χ
  |_=>exact leaf h (by simp) (by simp) (by simp)
 |succ n ih =>
  have get:∀(l:List AV) (i:Nat),i<l.length→(l.map (rl φ n)).getD i .χ=rl φ n (l.getD i .χ):=fun l i hi=>by simp [aV,hi]
  intro x u h;cases x with
  |a cs =>
   show Rd w F av (.a (cs.map (rl φ n))) u;obtain ⟨us,rfl,hs,h1,hr⟩:=h.qY;refine .a (by simpa using hs) (fun i hi=>h1 i (by simpa using hi)) fun i hi=>?_
   have hi:i<cs.length:=by simpa using hi
   rw [get cs i hi];exact ih (hr i hi)
  |t cs =>
   show Rd w F av (.t (cs.map (rl φ n))) u;obtain ⟨us,rfl,hs,hr⟩:=h.CC;refine .t (by simpa using hs) fun i hi=>?_
   have hi:i<cs.length:=by simpa using hi
   rw [get cs i hi];exact ih (hr i hi)
  |c g fs cs =>
   show Rd w F av (.c g (fs.map (rl φ n)) (cs.map (rl φ n))) u;obtain ⟨us,vs,rfl,hs,ew,hr,cJ⟩:=h.nt;refine .c (by simpa using hs) (by simpa using ew) (fun i hi=>?_) fun i hi=>?_
   ·have hi:i<fs.length:=by simpa using hi
    rw [get fs i hi];exact ih (hr i hi)
   ·have hi:i<cs.length:=by simpa using hi
    rw [get cs i hi];exact ih (cJ i hi)
  |_=>exact leaf h (by simp) (by simp) (by simp)
def rlC_holds {φ:Nat→Option Nat} (ah:∀i j,φ i=some j→av j=β i) {i j:Nat} (eQ:φ i=some j) {c:Chunk} (h:c.holds w F β i):(Pk φ c).holds w F av j:=by
 cases c with
 |box cells =>
  obtain ⟨b,cs,e,hb,hh,hs,h1,hr⟩:=h;refine ⟨b,cs,e,(ah i j eQ).trans hb,hh,by simpa using hs,fun q hq=>h1 q (by simpa using hq),fun q hq=>?_⟩
  have hq:q<cells.length:=by simpa using hq
  have:(cells.map (rl φ 2)).getD q .χ=rl φ 2 (cells.getD q .χ):=by simp [aV,hq]
  rw [this];exact zU ah 2 (hr q hq)
 |own E k rows=>exact pE (c:=.own E k rows) rfl (fun _ h=>h) (ah i j eQ) h
 |mp ag rows=>exact pE (c:=.mp ag rows) rfl (fun _ h=>h) (ah i j eQ) h
 |si s pos=>exact pE (c:=.si s pos) rfl (fun _ h=>h) (ah i j eQ) h
 |lp l e R L =>
  obtain ⟨fn,tmps,D,hb,hh,hn,hr⟩:=h;refine ⟨fn,tmps,D,(ah i j eQ).trans hb,hh,hn,fun p hp=>?_⟩;obtain ⟨q,hq,rfl⟩:=c9.1 hp;exact zU ah 2 (hr q hq)
def mX {φ:Nat→Option Nat} {j:Nat} {c:Chunk}:∀{H:Hp},(j,c)∈hU φ H→∃i c0,(i,c0)∈H∧φ i=some j∧c=Pk φ c0
 |[],h=>by cases h
 |(i,c0)::r,h=>by
  simp only [hU] at h;split at h
  ·rename_i j' hj
   rcases bf.1 h with h|h
   ·cases h;exact ⟨i,c0,by simp,hj,rfl⟩
   ·obtain ⟨i',c',h1,h2⟩:=mX h;exact ⟨i',c',cu _ h1,h2⟩
  ·obtain ⟨i',c',h1,h2⟩:=mX h;exact ⟨i',c',cu _ h1,h2⟩
def Ln (m:List (Nat×Nat)) (x y:AV):Prop:=∀(w:World) (F:Nat→Prop) (β dg:Nat→Value) (u:Value),(∀i j,cU m i=some j→dg i=β j)→Rd w F β x u→Rd w F dg y u
inductive iY (m:List (Nat×Nat)):List AV→List AV→Prop where
 |nil:iY m [] []
 |cons {x y:AV} {xs ys:List AV} (h:Ln m x y) (t:iY m xs ys):iY m (x::xs) (y::ys)
def iY.spec {m:List (Nat×Nat)} {xs ys:List AV} (h:iY m xs ys):xs.length=ys.length∧∀i,i<xs.length→Ln m (xs.getD i .χ) (ys.getD i .χ):=by
 induction h with
 |nil=>exact ⟨rfl,fun i hi=>by simp at hi⟩
 |cons h t ih =>
  refine ⟨by simp [ih.1],fun i hi=>?_⟩;cases i with
  |zero=>simpa using h
  |succ i=>simpa using ih.2 i (by simpa using hi)
section
variable {m:List (Nat×Nat)}
def Ln.dG {x:AV} (h:kg x=true):Ln m x x:=fun _ _ _ _ _ _ hr=>.i (I' h hr)
def Ln.χ {x:AV}:Ln m x .χ:=fun _ _ _ _ _ _ _=>.χ
def Ln.nil:Ln m (.v (.slice none 0 0)) (.s []):=fun _ _ _ _ _ _ hr=>by rw [hr.bN];exact .i .s0
def Ln.z:Ln m .z (.s []):=fun _ _ _ _ _ _ hr=>by obtain ⟨a,rfl⟩:=hr.Av;exact .i .s0
def Ln.b {i j off:Nat} (h:cU m i=some j):Ln m (.b j off) (.b i off):=fun _ _ _ _ _ ah hr=>by
 obtain ⟨eX,h1,rfl⟩:=hr.mz;exact .b ((ah i j h).trans h1)
def Ln.o {i j:Nat} (h:cU m i=some j):Ln m (.o j) (.o i):=fun _ _ _ _ _ ah hr=>by
 obtain ⟨a,n,c,h1,rfl⟩:=hr.jY;exact .o ((ah i j h).trans h1)
def Ln.mm {i j:Nat} (h:cU m i=some j):Ln m (.m j) (.m i):=fun _ _ _ _ _ ah hr=>by
 obtain ⟨b,h1,rfl⟩:=hr.zz;exact .m ((ah i j h).trans h1)
def Ln.a {xs ys:List AV} (h:iY m xs ys):Ln m (.a xs) (.a ys):=fun _ _ _ _ _ ah hr=>by
 obtain ⟨us,rfl,hs,h1,hu⟩:=hr.qY;obtain ⟨hl,hz⟩:=h.spec;exact .a (by omega) (fun i hi=>h1 i (by omega)) fun i hi=>hz i (by omega) _ _ _ _ _ ah (hu i (by omega))
def Ln.t {xs ys:List AV} (h:iY m xs ys):Ln m (.t xs) (.t ys):=fun _ _ _ _ _ ah hr=>by
 obtain ⟨us,rfl,hs,hu⟩:=hr.CC;obtain ⟨hl,hz⟩:=h.spec;exact .t (by omega) fun i hi=>hz i (by omega) _ _ _ _ _ ah (hu i (by omega))
def Ln.c {fn:Fn} {fs DQ cs DC:List AV} (h:iY m fs DQ) (h':iY m cs DC):Ln m (.c fn fs cs) (.c fn DQ DC):=fun _ _ _ _ _ ah hr=>by
 obtain ⟨us,vs,rfl,hs,ew,hu,hv⟩:=hr.nt;obtain ⟨hl,hz⟩:=h.spec;obtain ⟨uP,iS⟩:=h'.spec;exact .c (by omega) (by omega) (fun i hi=>hz i (by omega) _ _ _ _ _ ah (hu i (by omega))) fun i hi=>iS i (by omega) _ _ _ _ _ ah (hv i (by omega))
end
def Hh (m:List (Nat×Nat)):List (Nat×AV)→List (Nat×AV)→Prop
 |[],[]=>True
 |(t,x)::a,(t',y)::b=>t=t'∧Ln m x y∧Hh m a b
 |_,_=>False
def Hh.mem {m:List (Nat×Nat)}:∀{a b:List (Nat×AV)},Hh m a b→∀p,p∈b→∃x,(p.1,x)∈a∧Ln m x p.2
 |[],[],_,_,h=>by cases h
 |(t,x)::a,(t',y)::b,hh,p,h=>by
  obtain ⟨rfl,h1,h2⟩:=hh
  rcases bf.1 h with h|h
  ·subst h;exact ⟨x,j1 ..,h1⟩
  ·obtain ⟨x',h3,h4⟩:=h2.mem p h;exact ⟨x',cu _ h3,h4⟩
 |[],_::_,hh,_,_=>hh.elim
 |_::_,[],hh,_,_=>hh.elim
inductive Cn (m:List (Nat×Nat)):Chunk→Chunk→Prop where
 |refl {c:Chunk} (h:AU c=true):Cn m c c
 |box {a b:List AV} (h:iY m a b):Cn m (.box a) (.box b)
 |lp {l:Nat} {e e':LS} {R:RF} {a b:List (Nat×AV)} (he:e=e') (h:Hh m a b):Cn m (.lp l e R a) (.lp l e' R b)
def Cn.holds {m:List (Nat×Nat)} {c c0:Chunk} {i j:Nat} (h:Cn m c c0) (ah:∀i j,cU m i=some j→av i=β j) (eQ:cU m i=some j) (hc:c.holds w F β j):c0.holds w F av i:=by
 cases h with
 |refl h=>exact pE h (fun _ h=>h) (ah i j eQ) hc
 |box h =>
  obtain ⟨b,cs,e,hb,hh,hs,h1,hr⟩:=hc;obtain ⟨hl,hz⟩:=h.spec;exact ⟨b,cs,e,(ah i j eQ).trans hb,hh,by omega,fun q hq=>h1 q (by omega),fun q hq=>hz q (by omega) _ _ _ _ _ ah (hr q (by omega))⟩
 |lp he h =>
  subst he;obtain ⟨fn,tmps,D,hb,hh,hn,hr⟩:=hc;refine ⟨fn,tmps,D,(ah i j eQ).trans hb,hh,hn,fun p hp=>?_⟩;obtain ⟨x,hx,hz⟩:=h.mem p hp;exact hz _ _ _ _ _ ah (hr _ hx)
def vN (m:List (Nat×Nat)) (H:Hp):Hp→Prop
 |[]=>True
 |(i,c0)::r=>(∃j c,cU m i=some j∧dH j H=some c∧Cn m c c0)∧vN m H r
def vN.mem {m:List (Nat×Nat)} {H:Hp}:∀{H0:Hp},vN m H H0→∀i c0,(i,c0)∈H0→∃j c,cU m i=some j∧(j,c)∈H∧Cn m c c0
 |[],_,_,_,h=>by cases h
 |(i,c0)::r,hh,i',c',h=>by
  rcases bf.1 h with h|h
  ·cases h;obtain ⟨j,c,h1,h2,h3⟩:=hh.1;exact ⟨j,c,h1,eZ h2,h3⟩
  ·exact hh.2.mem i' c' h
def uB:List (Nat×Nat)→AV→AV
 |[],x=>x
 |p::r,x=>uB r (er 2 p.2 x)
def DL:List (Nat×Nat)→Chunk→Chunk
 |[],c=>c
 |p::r,c=>DL r (pb p.2 c)
def kq (m n:List (Nat×Nat)):Hp→Hp
 |[]=>[]
 |(i,c)::r=>bif (m.any fun p=>aH p.2 i)||(n.any fun p=>aH p.2 i) then kq m n r else (i,DL n c)::kq m n r
def SL:∀{n:List (Nat×Nat)} {β:Nat→Value},(∀j,(∀p,p∈n→p.2≠j)→av j=β j)→∀{x:AV} {u:Value},Rd w F β x u→Rd w F av (uB n x) u
 |[],β,ah,x,u,h=>by
  have:av=β:=funext fun j=>ah j fun p hp=>by cases hp
  rw [this];exact h
 |p::r,β,ah,x,u,h=>by
  refine SL (n:=r) (x:=er 2 p.2 x) (β:=fun j=>if j=p.2 then av j else β j) (fun j hj=>?_) (sN (id:=p.2) (fun i hi=>if_neg hi) 2 h);show _=if j=p.2 then av j else β j;by_cases yN:j=p.2
  ·rw [if_pos yN]
  ·rw [if_neg yN];exact ah j fun q hq=>by
    rcases bf.1 hq with rfl|hq
    ·exact fun e=>yN e.symm
    ·exact hj q hq
def erCL_holds {i:Nat}:∀{n:List (Nat×Nat)} {β:Nat→Value},(∀j,(∀p,p∈n→p.2≠j)→av j=β j)→(∀p,p∈n→p.2≠i)→∀{c:Chunk},c.holds w F β i→(DL n c).holds w F av i
 |[],β,ah,_,c,h=>by
  have:av=β:=funext fun j=>ah j fun p hp=>by cases hp
  rw [this];exact h
 |p::r,β,ah,hi,c,h=>by
  refine erCL_holds (n:=r) (c:=pb p.2 c) (β:=fun j=>if j=p.2 then av j else β j) (fun j hj=>?_) (fun q hq=>hi q (cu _ hq)) (IX (id:=p.2) (fun e=>hi p (by simp) e.symm) (fun i hi=>if_neg hi) h);show _=if j=p.2 then av j else β j;by_cases yN:j=p.2
  ·rw [if_pos yN]
  ·rw [if_neg yN];exact ah j fun q hq=>by
    rcases bf.1 hq with rfl|hq
    ·exact fun e=>yN e.symm
    ·exact hj q hq
def Pj {m n:List (Nat×Nat)} {i:Nat} {c:Chunk}:∀{H:Hp},(i,c)∈kq m n H→∃c0,(i,c0)∈H∧c=DL n c0∧(∀p,p∈m→p.2≠i)∧∀p,p∈n→p.2≠i
 |[],h=>by cases h
 |(k,c0)::r,h=>by
  simp only [kq] at h;cases hb:((m.any fun p=>aH p.2 k)||(n.any fun p=>aH p.2 k)) with
  |true =>
   rw [hb] at h;obtain ⟨c1,h1,h2⟩:=Pj (H:=r) h;exact ⟨c1,cu _ h1,h2⟩
  |false =>
   rw [hb] at h
   rcases bf.1 h with h|h
   ·cases h;simp only [Bool.or_eq_false_iff,pY] at hb;refine ⟨c0,by simp,rfl,fun p hp e=>?_,fun p hp e=>?_⟩
    ·exact hb.1 p hp (by rw [e];exact iW _)
    ·exact hb.2 p hp (by rw [e];exact iW _)
   ·obtain ⟨c1,h1,h2⟩:=Pj (H:=r) h;exact ⟨c1,cu _ h1,h2⟩
def tD:List Nat→Bool
 |[]=>true
 |x::r=>!(r.any fun y=>aH y x)&&tD r
def BU:∀{l:List Nat},tD l=true→l.Nodup
 |[],_=>qS
 |x::r,h=>by
  simp only [tD,bE,oV,pY] at h;rw [iw];exact ⟨fun hm=>h.1 x hm (iW _),BU h.2⟩
def CD (m n:List (Nat×Nat)):Bool :=
 (m.all fun p=>p0 1000 p.1)&&(tD (m.map (·.1))&&(tD (m.map (·.2))&&((n.all fun p=>eN p.2 1000)&&tD (n.map (·.2)))))
def kp (m n:List (Nat×Nat)):List (Nat×Nat):=(m.filter fun p=>!(n.any fun q=>aH q.2 p.2))++n
def Qh {i i' j:Nat}:∀{m:List (Nat×Nat)},(m.map (·.2)).Nodup→(i,j)∈m→(i',j)∈m→i=i'
 |[],_,h,_=>by cases h
 |p::r,hm,h1,h2=>by
  simp only [jJ,iw] at hm
  rcases bf.1 h1 with h1|h1<;>rcases bf.1 h2 with h2|h2
  ·rw [←h2] at h1;cases h1;rfl
  ·exact absurd (c9.2 ⟨_,h2,by rw [←h1]⟩) hm.1
  ·exact absurd (c9.2 ⟨_,h1,by rw [←h2]⟩) hm.1
  ·exact Qh hm.2 h1 h2
def Tf {xs ys:List AV} {st:ae} {H0:Hp} {m n:List (Nat×Nat)}
  (hx:iY m xs ys) (hH:vN m st.H H0) (kR:jH H0=true) (ht:CD m n=true) {vs:Array Value} (hI:Inv w F β st.H) (hv:∀i,i<xs.length→Rd w F β (xs.getD i .χ) (vs.getD i undef)) :
  xs.length=ys.length∧∃dg,Inv w F dg H0∧(∀i,i<ys.length→Rd w F dg (ys.getD i .χ) (vs.getD i undef)) ∧
   ∀(w':World) (F':Nat→Prop) (av:Nat→Value) (f':Nat→AV) (H1:Hp),jH (hU (cU (kp m n)) H1++kq m n st.H)=true→Ext w F dg ⟨aF,H0⟩ w' F' av ⟨f',H1⟩ →
    ∃cj,(∀i j,cU (kp m n) i=some j→cj j=av i)∧Ext w F β st w' F' cj ⟨fun t=>uB n (st.f t),hU (cU (kp m n)) H1++kq m n st.H⟩:=by
 obtain ⟨hl,hz⟩:=hx.spec;simp only [CD,bE,ej] at ht;obtain ⟨oF,iP,yV,Bx,lC⟩:=ht;have iP:=BU iP;have yV:=BU yV;have lC:=BU lC
 obtain ⟨dg,BL⟩:∃dg:Nat→Value,∀i j,cU m i=some j→dg i=β j:=by
  refine ⟨fun i=>match cU m i with|some j=>β j|none=>undef,fun i j eQ=>?_⟩;simp only [eQ]
 have bI:=fun i c0 hm=>hH.mem i c0 hm
 have dr:∀b,bC dg H0 b→∃i c0 j c,(i,c0)∈H0∧cU m i=some j∧(j,c)∈st.H∧bR (β j)=some b:=by
  rintro b ⟨i,c0,h1,hb⟩;obtain ⟨j,c,h2,h3,_⟩:=bI i c0 h1;exact ⟨i,c0,j,c,h1,h2,h3,by rw [←BL i j h2];exact hb⟩
 have IY:∀b,bC dg H0 b→bC β st.H b:=fun b hb=>by
  obtain ⟨_,_,j,c,_,_,h3,h4⟩:=dr b hb;exact ⟨j,c,h3,h4⟩
 have Nl:∀i i' j,cU m i=some j→cU m i'=some j→i=i':=fun i i' j h1 h2=>Qh yV (at_mem h1) (at_mem h2)
 have uF:Inv w F dg H0:=by
  refine ⟨hI.cC,fun i c0 h1=>?_,zv kR,fun b hb=>hI.apart b (IY b hb),fun i c i' c' b h1 h2 hb aK=>?_,hI.fk⟩
  ·obtain ⟨j,c,h2,h3,h4⟩:=bI i c0 h1;exact h4.holds BL h2 (hI.holds j c h3)
  ·obtain ⟨j,c,h3,h4,_⟩:=bI i c h1;obtain ⟨j',c',h5,h6,_⟩:=bI i' c' h2;rw [BL i j h3] at hb;rw [BL i' j' h5] at aK;have:=hI.eC j _ j' _ b h4 h6 hb aK;subst this;exact Nl i i' j h3 h5
 refine ⟨hl,dg,uF,fun i hi=>hz i (by omega) w F β dg _ BL (hv i (by omega)),?_⟩;intro w' F' av f' H1 fU he
 obtain ⟨cj,acF,ED⟩:∃cj:Nat→Value,(∀i j,(i,j)∈n→cj j=av i)∧∀j,(∀p,p∈n→p.2≠j)→cj j=β j:=by
  refine ⟨fun j=>match cU (n.map fun p=>(p.2,p.1)) j with|some i=>av i|none=>β j,fun i j eQ=>?_,fun j hj=>?_⟩
  ·have:cU (n.map fun p=>(p.2,p.1)) j=some i:=Ht (by rw [List.map_map];exact lC) (c9.2 ⟨_,eQ,rfl⟩);simp only [this]
  ·cases ha:cU (n.map fun p=>(p.2,p.1)) j with
   |none=>simp only [ha]
   |some i =>
    obtain ⟨p,hp,e⟩:=c9.1 (at_mem ha);cases e;exact absurd rfl (hj p hp)
 have hq:∀i j,cU (kp m n) i=some j→cj j=av i:=fun i j eQ=>by
  have eQ:=at_mem eQ;simp only [kp,gl,List.mem_filter,oV,pY] at eQ
  rcases eQ with ⟨h1,h2⟩|h1
  ·have h3:1000≤i:=by simpa using oF _ h1
   rw [he.gu i h3,BL i j (Ht iP h1)];exact ED j fun p hp e=>h2 p hp (by rw [e];exact iW _)
  ·exact acF i j h1
 have hblk:∀b,b<w.heap.size→(∀i c0 j c,(i,c0)∈H0→cU m i=some j→(j,c)∈st.H→bR (β j)≠some b)→w'.heap[b]?=w.heap[b]?:=fun b hb bp=>he.block b hb fun ho=>by
  obtain ⟨i,c0,j,c,h1,h2,h3,h4⟩:=dr b ho;exact bp i c0 j c h1 h2 h3 h4
 have hF:ga F w w':=fun b hb=>hblk b (hI.cC b hb) fun i c0 j c _ _ h3 h4=>hI.apart b ⟨j,c,h3,h4⟩ hb
 have nL:∀j c,(j,c)∈kq m n st.H→∃c0,(j,c0)∈st.H∧c=DL n c0∧(∀i,cU m i≠some j)∧cj j=β j∧∀p,p∈n→p.2≠j:=fun j c hc=>by
  obtain ⟨c0,h1,h2,h3,h4⟩:=Pj hc;exact ⟨c0,h1,h2,fun i hi=>h3 _ (at_mem hi) rfl,ED j h4,h4⟩
 have UB:∀b,bC av H1 b→w.heap.size≤b∨bC dg H0 b:=fun b hb=>he.owned b hb
 have uU:∀b,bC cj (hU (cU (kp m n)) H1++kq m n st.H) b→bC av H1 b∨∃j c0,(j,c0)∈st.H∧(∀i,cU m i≠some j)∧bR (β j)=some b:=by
  rintro b ⟨j,c,hc,hb⟩
  rcases gl.1 hc with hc|hc
  ·obtain ⟨i,c0,h1,h2,_⟩:=mX hc;exact .inl ⟨i,c0,h1,by rw [←hq i j h2];exact hb⟩
  ·obtain ⟨c0,h1,_,h2,h3,_⟩:=nL j c hc;exact .inr ⟨j,c0,h1,h2,by rw [←h3];exact hb⟩
 refine ⟨cj,hq,?_⟩;refine ⟨he.os,he.tape,he.output,he.size,fun b hb bp=>he.block b hb fun ho=>bp (IY b ho),he.mono,fun b hb=>(he.new b hb).imp id fun h=>h.imp id (IY b),fun b hb=>?_,fun t u hu=>?_,?_,fun i hi=>ED i fun p hp e=>?_⟩
 ·rcases uU b hb with h1|⟨j,c0,h1,_,h2⟩
  ·exact (UB b h1).imp id (IY b)
  ·exact .inr ⟨j,c0,h1,h2⟩
 ·exact SL ED (hu.frame hF he.mono)
 ·refine ⟨he.inv.cC,fun j c hc=>?_,zv fU,fun b hb yu=>?_,fun j c j' c' b hc eK hb aK=>?_,he.inv.fk⟩
  ·rcases gl.1 hc with hc|hc
   ·obtain ⟨i,c0,h1,h2,rfl⟩:=mX hc;exact rlC_holds hq h2 (he.inv.holds i c0 h1)
   ·obtain ⟨c0,h1,rfl,h2,h3,h4⟩:=nL j c hc
    exact erCL_holds ED h4 (pD hF he.mono (fun b hb=>hblk b (hI.fM ⟨j,c0,h1,hb⟩) fun i LY j' c' h5 h6 h7 h8=>by
     have:=hI.eC j _ j' _ b h1 h7 hb h8;subst this
     exact h2 i h6) (hI.holds j c0 h1))
  ·rcases uU b hb with h1|⟨j,c0,h1,h2,h3⟩
   ·exact he.inv.apart b h1 yu
   ·rcases he.new b yu with h4|h4|h4
    ·exact hI.apart b ⟨j,c0,h1,h3⟩ h4
    ·exact absurd (hI.fM ⟨j,c0,h1,h3⟩) (me.2 h4)
    ·obtain ⟨i,_,j',c',_,h6,h7,h8⟩:=dr b h4;have:=hI.eC j _ j' _ b h1 h7 h3 h8;subst this;exact h2 i h6
  ·have Sj:∀i c0 j c1,(i,c0)∈H1→bR (av i)=some b→(j,c1)∈st.H→(∀i,cU m i≠some j)→bR (β j)=some b→False:=fun i c0 j c1 h1 h2 h3 h4 h5=>by
    rcases UB b ⟨i,c0,h1,h2⟩ with h6|h6
    ·exact absurd (hI.fM ⟨j,c1,h3,h5⟩) (me.2 h6)
    ·obtain ⟨i',_,j',c',_,h7,h8,h9⟩:=dr b h6;have:=hI.eC j _ j' _ b h3 h8 h5 h9;subst this;exact h4 i' h7
   rcases gl.1 hc with hc|hc<;>rcases gl.1 eK with eK|eK
   ·obtain ⟨i,c0,h1,h2,_⟩:=mX hc;obtain ⟨i',LY,nB,iz,_⟩:=mX eK;rw [hq i j h2] at hb;rw [hq i' j' iz] at aK;have:=he.inv.eC i _ i' _ b h1 nB hb aK;subst this;rw [h2] at iz;exact nn iz
   ·obtain ⟨i,c0,h1,h2,_⟩:=mX hc;obtain ⟨c1,h3,_,h4,h5,_⟩:=nL j' c' eK;rw [hq i j h2] at hb;rw [h5] at aK;exact (Sj i c0 j' c1 h1 hb h3 h4 aK).elim
   ·obtain ⟨i,c0,h1,h2,_⟩:=mX eK;obtain ⟨c1,h3,_,h4,h5,_⟩:=nL j c hc;rw [hq i j' h2] at aK;rw [h5] at hb;exact (Sj i c0 j c1 h1 aK h3 h4 hb).elim
   ·obtain ⟨c1,h3,_,h4,h5,_⟩:=nL j c hc;obtain ⟨p8,h3',_,h4',h5',_⟩:=nL j' c' eK;rw [h5] at hb;rw [h5'] at aK;exact hI.eC j _ j' _ b h3 h3' hb aK
 ·have:p.2<1000:=by simpa [gH] using Bx p hp
  omega
def af.gen {g:Tg} {xs ys:List AV} {st:ae} {H0 H1:Hp} {r:AV} {k:AV→ae→Prop} {m n:List (Nat×Nat)} (h:af P g ys ⟨aF,H0⟩ fun x s=>x=r∧s.H=H1)
  (hx:iY m xs ys) (hH:vN m st.H H0) (kR:jH H0=true) (ht:CD m n=true) (fU:jH (hU (cU (kp m n)) H1++kq m n st.H)=true)
  (hk:k (rl (cU (kp m n)) 3 r) ⟨fun t=>uB n (st.f t),hU (cU (kp m n)) H1++kq m n st.H⟩):af P g xs st k:=by
 refine ⟨h.1,fun w F β vs hI hs hv=>?_⟩;obtain ⟨hl,dg,uF,ν,sZ⟩:=Tf hx hH kR ht hI hv;refine (h.2 w F dg vs uF (by omega) ν).mono ?_;rintro e w' ⟨v,rfl,x,s,F',av,⟨rfl,EN⟩,hr,he⟩;obtain ⟨cj,hq,dS⟩:=sZ w' F' av s.f H1 fU (by rw [←EN];exact he);exact ⟨v,rfl,rl (cU (kp m n)) 3 x,_,F',cj,hk,zU hq 3 hr,dS⟩
def af_ {g n : Nat} {fn : Func} {c : Code} {args : List AV} {H0 H1 : Hp} {r : AV} (hT : bO P T) (dE : P.funcs[g]? = some fn) (dN : (fn.name == "runtime.NumGoroutine") = false) (hb : fn.body = some c) (hn : fn.ntmps = n) (hle : args.length ≤ n)
  (h:Ok P n c ⟨kW args,H0⟩ (sQ T fn.results.toList fun x s=>Wk ⟨dX aF 0 x,s.H⟩ ⟨ar [(0,r)],H1⟩)):af P g args ⟨aF,H0⟩ fun x s=>x=r∧s.H=H1:=by
 refine ⟨⟨fn,c,dE,dN,hb⟩,fun w F β vs hI hs hv=>?_⟩;refine (HD hT dE hb hn hle h hI hs hv).mono ?_;rintro e w' ⟨v,rfl,x,st,F',av,hW,hx,he⟩
 obtain ⟨F2,cj,_,_,hf,h2⟩:=hW ⟨w,F,β,H0,1,none,.inl rfl,[]⟩ { tmps:=#[v],defers:=[] } w' ⟨F',av,rfl,trivial,fun t=>by
  show Rd w' F' av (bif aH t 0 then x else aF t) _;cases t with
  |zero=>exact hx
  |succ t=>exact .χ,⟨he,fun d hd=>(eJ hd).elim,qS,⟨[],rfl⟩⟩⟩
 exact ⟨v,rfl,r,⟨aF,H1⟩,F2,cj,⟨rfl,rfl⟩,hf 0,h2.x⟩
def Ext.chunks {w0:World} {F0:Nat→Prop} {oU:Nat→Value} {oR:ae} {H H':Hp} (h:Ext w0 F0 oU oR w F β ⟨aF,H⟩) (bI:∀i c,(i,c)∈H'→(∃c0,(i,c0)∈H)∧c.holds w F β i) (hk:(H'.map (·.1)).Nodup):Ext w0 F0 oU oR w F β ⟨aF,H'⟩ where
 os:=h.os
 tape:=h.tape
 output:=h.output
 size:=h.size
 block:=h.block
 mono:=h.mono
 new:=h.new
 owned b hb:=h.owned b (by obtain ⟨i,c,hm,hb⟩:=hb;obtain ⟨⟨c0,h0⟩,_⟩:=bI i c hm;exact ⟨i,c0,h0,hb⟩)
 keep _ _ _:=.χ
 inv:=⟨h.inv.cC,fun i c hm=>(bI i c hm).2,hk,
  fun b ⟨i,c,hm,hb⟩=>by obtain ⟨⟨c0,h0⟩,_⟩:=bI i c hm;exact h.inv.apart b ⟨i,c0,h0,hb⟩,
  fun i c i' c' b hm bW hb aK=>by
   obtain ⟨⟨c0,h0⟩,_⟩:=bI i c hm;obtain ⟨⟨c1,h1⟩,_⟩:=bI i' c' bW
   exact h.inv.eC i c0 i' c1 b h0 h1 hb aK,h.inv.fk⟩
 gu:=h.gu
def XM.chunks {C:Ctx} {ds:List Deferred} {H H':Hp} (h:XM C ds w F β H) (bI:∀i c,(i,c)∈H'→(∃c0,(i,c0)∈H)∧c.holds w F β i) (hk:(H'.map (·.1)).Nodup):XM C ds w F β H' :=
 h.trans ((Ext.refl (st:=⟨aF,H⟩) h.inv).chunks bI hk)
def vd (i d:Nat):Nat→Option Nat:=fun x=>bif aH x i then some d else bif aH x d then none else some x
def Wk.mv {st:ae} {i d:Nat} (hd:eN d 1000=true) (aP:aH d i=false) (hk:jH (hU (vd i d) st.H)=true):Wk st ⟨fun t=>rl (vd i d) 2 (st.f t),hU (vd i d) st.H⟩:=fun C a w hr=>by
 obtain ⟨F,β,hs,M9,hf,he⟩:=hr
 have hd:d<1000:=by simpa [gH] using hd
 have aP:d≠i:=fun e=>by rw [e,iW] at aP;cases aP
 let av:Nat→Value:=fun x=>if x=d then β i else β x
 have ah:∀x y,vd i d x=some y→av y=β x:=fun x y h=>by
  unfold vd at h;cases h1:aH x i with
  |true=>rw [h1] at h;cases h;rw [cT h1];exact if_pos rfl
  |false =>
   rw [h1] at h;cases h2:aH x d with
   |true=>rw [h2] at h;cases h
   |false =>
    rw [h2] at h;cases h
    exact if_neg fun e=>by rw [e,iW] at h2;cases h2
 have Nl:∀x x' y,vd i d x=some y→vd i d x'=some y→x=x':=fun x x' y h h'=>by
  unfold vd at h h';cases h1:aH x i<;>cases nB:aH x' i<;>rw [h1] at h<;>rw [nB] at h'<;>simp only [cond_true,cond_false] at h h'
  ·cases h2:aH x d<;>cases iz:aH x' d<;>rw [h2] at h<;>rw [iz] at h'<;>simp_all
  ·cases h2:aH x d<;>rw [h2] at h<;>simp_all
  ·cases iz:aH x' d<;>rw [iz] at h'<;>simp_all
  ·rw [cT h1,cT nB]
 have dr:∀b,bC av (hU (vd i d) st.H) b→bC β st.H b:=by
  rintro b ⟨j,c,hc,hb⟩;obtain ⟨x,c0,h1,h2,_⟩:=mX hc;exact ⟨x,c0,h1,by rw [←ah x j h2];exact hb⟩
 refine ⟨F,av,hs,M9,fun t=>zU ah 2 (hf t),he.trans (f:=aF) (f':=aF) ⟨rfl,jt.refl _,rfl,bG _,fun _ _ _=>rfl,fun _ h=>h,fun _ h=>.inl h,fun b hb=>.inr (dr b hb),fun _ _ _=>.χ,?_,fun x hx=>if_neg (by omega)⟩⟩
 ·refine ⟨he.inv.cC,fun j c hc=>?_,zv hk,fun b hb=>he.inv.apart b (dr b hb),fun j c j' c' b hc eK hb aK=>?_,he.inv.fk⟩
  ·obtain ⟨x,c0,h1,h2,rfl⟩:=mX hc;exact rlC_holds ah h2 (he.inv.holds x c0 h1)
  ·obtain ⟨x,c0,h1,h2,_⟩:=mX hc;obtain ⟨x',LY,nB,iz,_⟩:=mX eK;rw [ah x j h2] at hb;rw [ah x' j' iz] at aK;have:=he.inv.eC x _ x' _ b h1 nB hb aK;subst this;rw [h2] at iz;exact nn iz
def Wk.JD {st:ae} {b q id E K:Nat} {cells:List AV} (Φ:eN id 1000=true) (hb:dH b (gT id st.H)=some (.box cells)) (hq:cells[q]?=some (.v (.slice none 0 0))) :
  Wk st ⟨fun t=>er 2 id (st.f t),(id,.own E K [])::fN b (.box (cells.set q (.o id))) (gT id st.H)⟩:=fun C a w hr=>by
 obtain ⟨F,β,hs,hd,hf,he⟩:=hr
 have pz:id<1000:=by simpa using Φ
 have rp:Below w.heap.size w w:=Below.refl _ _;have hx:=H4 (st:=⟨aF,st.H⟩) (w':=w) (F':=F) (c:=.own E K []) (v:=.slice none 0 0) pz he.inv rp (fun _ h=>h) (fun _ h=>.inl h) (fun b hb=>by cases hb) (.inl ⟨rfl,none,by simp⟩);have ah:∀i,i≠id→(fun i=>if i=id then Value.slice none 0 0 else β i) i=β i:=fun i hi=>if_neg hi;have h2:=(he.trans hx).OP;have hmb:(b,Chunk.box cells)∈gT id st.H:=eZ hb;refine ⟨F,_,hs,hd,fun t=>sN ah 2 (hf t),h2.chunks (fun i c hm=>?_) ?_⟩
 ·rcases bf.1 hm with hm|hm
  ·cases hm;exact ⟨⟨_,j1⟩,h2.inv.holds _ _ j1⟩
  ·rcases mY hm with ⟨rfl,rfl,c0,h0⟩|⟨_,h0⟩
   ·refine ⟨⟨c0,cu _ h0⟩,?_⟩;obtain ⟨eX,cs,e,h1,hh,aX,fb,fB⟩:=h2.inv.holds i _ (cu _ hmb);refine ⟨eX,cs,e,h1,hh,by simpa using aX,fun j hj=>fb j (by simpa using hj),fun j hj=>?_⟩
    have dq:j<cells.length:=by simpa using hj
    by_cases Uh:j=q
    ·subst Uh
     have e1:(cells.set j (.o id)).getD j .χ=.o id:=by simp [aV,dq]
     have e2:=fB j dq;rw [List.getD_eq_getElem?_getD,hq,Option.getD_some] at e2;rw [e1,e2.bN];exact .o (by simp)
    ·have e1:(cells.set q (.o id)).getD j .χ=cells.getD j .χ:=by simp [aV,List.getElem?_set_ne (Ne.symm Uh)]
     rw [e1];exact fB j dq
   ·exact ⟨⟨c,cu _ h0⟩,h2.inv.holds _ _ (cu _ h0)⟩
 ·have:=h2.inv.keys;simp only [gJ,jJ] at this ⊢;rw [z7];exact this
end
end
section
open Go.RowKit Go.Sort Go.Proofs Go.Shelf
section
variable {P:Program}
def aky (P:Program) (f:Nat):Prop :=
 (∀(p:Option Addr) (cap:Nat) (w:World),Calls P f #[.slice p 0 cap] w fun e w'=>e=.returned (.tuple #[])∧w'=w) ∧
 ∀(eX off cap:Nat) (zs:List Int) (w:World),Holds (du .i64) w eX off zs.toArray→eX<w.heap.size→zs.length<4611686018427387904 →
  Calls P f #[.slice (some ⟨eX,off,none⟩) zs.length cap] w fun e w'=>e=.returned (.tuple #[])∧∃n os,w'=grow (putRow (du .i64) (Sort.ahead w n) eX off (zs.mergeSort fun x y=>decide (x≤y)).toArray) os
end
variable [M:bM] [G:cK] [R:dK]
section
variable {P:Program}
def RU {vs:Array Value} (h:vs.size=1):vs=#[vs.getD 0 undef]:=by
 apply Array.ext
 ·simp [h]
 ·intro i h1 h2
  have:i=0:=by simp at h2;omega
  subst this;simp [h]
end
end
section
def Vh (x:Int):List Int→List Int
 |[]=>[x]
 |y::r=>if x≤y then x::y::r else y::Vh x r
def ahR (l:List Int):List Int:=l.foldr Vh []
def ak3 {α:Type} (l:List (Int×α)):List Int:=ahR (l.map (·.1))
end
end Go.Cat
set_option linter.all false
namespace Go.CatSeq
open Go Go.RowKit Go.Proofs Go.Shelf Go.Maps Go.Sort
end Go.CatSeq
namespace Go.Cat
open Go.RowKit Go.Proofs Go.Shelf Go.Maps Go.Sort
def RE (w:World) (sv:Value) (zs:List Int):Prop :=
 (∃a c,sv=.slice a 0 c∧zs=[])∨∃b off cap,sv=.slice (some ⟨b,off,none⟩) zs.length cap∧b<w.heap.size∧∀j,j<zs.length→w.cell? ⟨b,off+j,none⟩=some (.int .i64 (zs[j]?.getD 0))
def akB (P:Program) (k1:Nat):Prop:=∀(Bs:Nat) (sv:Value) (zs:List Int) (w:World),zs.length*8≤140737488351232→Bs<w.heap.size→w.cell? ⟨Bs,0,none⟩=some sv→RE w sv zs →
 SeqStopsK Fence.wide 2 P k1 #[.pointer (some ⟨Bs,0,none⟩)] (fun x:Int=>#[encZ x]) (QY w.heap.size) (fun ys=>ys=zs) (fun pre=>pre <+: zs) zs.length w
def akA (P:Program) (g k1 E:Nat):Prop:=∀(w:World) (Bm:Nat) (sv:Value) (zs:List Int),w.cell? ⟨Bm,0,none⟩=some sv→Bm<w.heap.size→RE w sv zs→zs.length*8≤140737488351232 →
 Calls P g #[.func (.func k1) #[] #[.pointer (some ⟨Bm,0,none⟩)]] w fun e w'=>∃v,e=.returned v ∧
  w'.ownsRow w.heap.size E 1 v zs.length ((zs.mergeSort fun x y=>decide (x≤y)).map (du .i64))∧QY w.heap.size w w'
variable [M:bM] [G:cK] [R:dK] {P:Program}
end Go.Cat
namespace Go.Cat
set_option linter.all false
section
open Go.Sort
class Lw {α:Type} (c:α→α→Option Int):Prop where
 ex:∃cf,oX c cf
def zq {α:Type} (c:α→α→Option Int) (x:α):List α→Option (List α)
 |[]=>some [x]
 |y::r=>match c x y,c y x with
  |some a,some b=>if a<0 then (if b<0 then none else some (x::y::r)) else if b<0 then (match zq c x r with|some t=>some (y::t)|none=>none) else none
  |_,_=>none
def tV {α:Type} (c:α→α→Option Int):List α→Option (List α)
 |[]=>some []
 |x::r=>match tV c r with
  |some t=>zq c x t
  |none=>none
section
variable {α:Type} {c:α→α→Option Int} {cf:α→α→Int}
def Vj (h:oX c cf) (x:α):∀{l r:List α},zq c x l=some r→r.Perm (x::l)∧(l.Pairwise (fun x y=>cf x y<0)→r.Pairwise (fun x y=>cf x y<0))
 |[],r,e=>by cases e;exact ⟨.refl _,fun _=>List.pairwise_singleton _ _⟩
 |y::l,r,e=>by
  simp only [zq,h.1] at e;by_cases h1:cf x y<0
  ·rw [if_pos h1] at e;by_cases h2:cf y x<0
   ·rw [if_pos h2] at e;cases e
   ·rw [if_neg h2] at e;cases e;refine ⟨.refl _,fun hp=>eD.2 ⟨fun z hz=>?_,hp⟩⟩
    rcases bf.1 hz with rfl|hz
    ·exact h1
    ·have h3:=(eD.1 hp).1 z hz;have:=h.2.trans x y z (decide_eq_true h1) (decide_eq_true h3);simpa using this
  ·rw [if_neg h1] at e;by_cases h2:cf y x<0
   ·rw [if_pos h2] at e;cases ht:zq c x l with
    |none=>rw [ht] at e;cases e
    |some t =>
     rw [ht] at e;cases e;obtain ⟨h3,h4⟩:=Vj h x ht;refine ⟨((alF y).2 h3).trans (.swap x y l),fun hp=>?_⟩;have gB:=eD.1 hp;refine eD.2 ⟨fun z hz=>?_,h4 gB.2⟩
     rcases bf.1 (h3.mem_iff.1 hz) with rfl|hz
     ·exact h2
     ·exact gB.1 z hz
   ·rw [if_neg h2] at e;cases e
def Gg (h:oX c cf):∀{l r:List α},tV c l=some r→r.Perm l∧r.Pairwise (fun x y=>cf x y<0)
 |[],r,e=>by cases e;exact ⟨.refl _,.nil⟩
 |x::l,r,e=>by
  simp only [tV] at e;cases ht:tV c l with
  |none=>rw [ht] at e;cases e
  |some t =>
   rw [ht] at e;obtain ⟨h1,h2⟩:=Gg h ht;obtain ⟨h3,h4⟩:=Vj h x e;exact ⟨h3.trans ((alF x).2 h1),h4 h2⟩
def alh (c:α→α→Option Int) (l:List α):Option (List α):=Ω (l.length≤140737488355328) (tV c l)
end
open Classical in
noncomputable def xc {α:Type} (c:α→α→Option Int) (l:List α):Option (List α):=Ω (l.length≤140737488355328) (if ∃cf,oX c cf then tV c l else none)
def ahQ {α:Type} {c:α→α→Option Int} {l r:List α} (h:xc c l=some r):l.length≤140737488355328∧∃cf,oX c cf∧tV c l=some r:=by
 unfold xc at h;obtain ⟨hl,h⟩:=aG h;refine ⟨hl,?_⟩;split at h
 ·rename_i hex;exact ⟨_,hex.choose_spec,h⟩
 ·cases h
def XE {α:Type} {c:α→α→Option Int} [hc:Lw c] {l r:List α} (hl:l.length≤140737488355328) (h:tV c l=some r):xc c l=some r:=by
 unfold xc;rw [im hl,if_pos hc.ex,h]
end
section
open Go.RowKit
variable [M:bM] [G:cK]
def Kd:List (Nat×AV)→(Nat→AV)→Nat→AV
 |[],f=>f
 |(t,x)::r,f=>Kd r (dX f t x)
section
variable [R:dK] {P:Program} {w:World} {F:Nat→Prop} {β av:Nat→Value}
def Xk:∀(ps:List Nat) (xs:List AV) (vs:List Value) (f:Nat→AV) (tmps:Array Value),ps.length=xs.length→vs.length=xs.length→(∀t,t∈ps→t<tmps.size) →
  (∀i,i<xs.length→Rd w F β (xs.getD i .χ) (vs.getD i undef))→(∀t,Rd w F β (f t) (tmps.getD t undef)) →
  ((ps.zip vs).foldl (fun T p=>T.setIfInBounds p.1 p.2) tmps).size=tmps.size∧∀t,Rd w F β (Kd (ps.zip xs) f t) (((ps.zip vs).foldl (fun T p=>T.setIfInBounds p.1 p.2) tmps).getD t undef)
 |[],[],[],f,tmps,_,_,_,_,hf=>⟨rfl,hf⟩
 |p::ps,x::xs,v::vs,f,tmps,h1,h2,h3,h4,hf=>by
  have:=Xk ps xs vs (dX f p x) (tmps.setIfInBounds p v) (by simpa using h1) (by simpa using h2) (fun t ht=>by simpa using h3 t (by simp [ht])) (fun i hi=>h4 (i+1) (by simpa using hi)) fun t=>by
   unfold dX;cases hb:aH t p with
   |true =>
    obtain rfl:=cT hb;have:=h3 t (by simp);simpa [this] using h4 0 (by simp)
   |false =>
    have aP:p≠t:=fun e=>by rw [e,iW] at hb;cases hb
    simpa [Array.getElem?_setIfInBounds_ne aP] using hf t
  refine ⟨by simpa using this.1,fun t=>?_⟩;have:=this.2 t;exact this
 |[],_::_,_,_,_,h1,_,_,_,_=>by cases h1
 |_::_,[],_,_,_,h1,_,_,_,_=>by cases h1
 |_,[],_::_,_,_,_,h2,_,_,_=>by cases h2
 |_,_::_,[],_,_,_,h2,_,_,_=>by cases h2
def A7 (i:Nat):Option Nat:=bif p0 1000 i then some i else none
def aby (ah:∀i,1000≤i→av i=β i) {x:AV} {u:Value} (hx:rl A7 2 x=x) (h:Rd w F β x u):Rd w F av x u:=by
 rw [←hx];refine zU (fun i j eQ=>?_) 2 h;unfold A7 at eQ;cases hb:p0 1000 i with
 |true=>rw [hb] at eQ;cases eQ;exact ah i (AD hb)
 |false=>rw [hb] at eQ;cases eQ
def W_ (k:LS→ae→Prop):Exit→ae→Prop
 |.normal,s=>k .iI s
 |.ret,s=>k .ret s
 |.exit i,s=>k (.ex i) s
 |_,_=>False
def asg (P:Program) (R0:RF) (k:LS→ae→Prop):Exit→ae→Prop:=fun e s=>match e with
 |.normal=>Ok P R0.n R0.body s (W_ k)
 |_=>False
def adF {i:Nat} {c:Chunk} {H:Hp} (h:Inv w F β ((i,c)::H)):Inv w F β H :=
 h.sub (fun x hx=>cu _ hx) (iw.1 h.keys).2
def Ol {H:Hp} {l:Nat} {o:Obj} (hI:Inv w F β H) (hF:¬F l) (ho:¬bC β H l):Inv (w.putObj l o) F β H :=
 have ha:ga F w (w.putObj l o):=fun b hb=>p5 fun e=>hF (e▸hb)
 ⟨fun b hb=>by rw [j4];exact hI.cC b hb,fun i c hm=>pD ha (fun _ h=>h) (fun b hb=>p5 fun e=>ho (e▸⟨i,c,hm,hb⟩)) (hI.holds i c hm),hI.keys,hI.apart,hI.eC,hI.fk.at ha⟩
end
section
variable {P:Program}
def akt {l lid:Nat} {R0:RF} {L:List (Nat×AV)} {H H1:Hp} {xs:List AV} {e0:LS} (NI:R0.ps.toList.length=xs.length) (hpn:(R0.ps.toList.all fun t=>eN t R0.n)=true)
  (hL:(L.map fun p=>(p.1,rl A7 2 p.2))=L) (IL:p0 1000 lid=true) (fU:jH ((lid,.lp l e0 R0 L)::H1)=true)
  (h:Ok (R:=dK.yes) P R0.n R0.assign ⟨Kd (R0.ps.toList.zip xs) (ar L),H⟩ (asg (R:=dK.yes) P R0 fun e s=>e=e0∧Wk (R:=dK.yes) ⟨aF,s.H⟩ ⟨ar [],H1⟩)) :
  af P (.y l) xs ⟨aF,(lid,.lp l .iI R0 L)::H⟩ fun x s=>x=.v (.bool e0.wP)∧s.H=(lid,.lp l e0 R0 L)::H1:=by
 letI:dK:=dK.yes
 have IL:1000≤lid:=AD IL;refine ⟨trivial,fun w F β vs hI hs hv=>?_⟩;obtain ⟨fn,tmps,D,ah,hh,hn,hr⟩:=hI.holds lid _ (j1 ..);have Φ:=kF hh;have MN:=adF hI;have Bq:¬F l:=hI.apart l ⟨lid,_,j1 ..,by rw [ah];rfl⟩
 have uR:¬bC β H l:=fun ⟨i,c,hm,hb⟩=>by
  have:=hI.eC i c lid _ l (cu _ hm) (j1 ..) hb (by rw [ah];rfl);subst this;exact (iw.1 hI.keys).1 (c9.2 ⟨_,hm,rfl⟩)
 have hz:(R0.ps.zip vs).foldl (fun tmps (x:Nat×Value)=>tmps.setIfInBounds x.1 x.2) tmps=(R0.ps.toList.zip vs.toList).foldl (fun T p=>T.setIfInBounds p.1 p.2) tmps:=by
  rw [←Array.foldl_toList,Array.toList_zip]
 have ac8:∀t,Rd w F β (ar L t) (tmps.getD t undef):=by
  have key:∀L':List (Nat×AV),(∀p,p∈L'→p∈L)→∀t,Rd w F β (ar L' t) (tmps.getD t undef):=by
   intro L';induction L' with
   |nil=>intro _ t;exact .χ
   |cons p r ih =>
    intro hp t;obtain ⟨d,x⟩:=p;simp only [ar];cases hb:aH t d with
    |true =>
     obtain rfl:=cT hb;exact hr (t,x) (hp _ (by simp))
    |false=>exact ih (fun p gB=>hp p (by simp [gB])) t
  exact key L fun _ h=>h
 obtain ⟨aX,fB⟩:=Xk R0.ps.toList xs vs.toList (ar L) tmps NI (by simpa using hs) (fun t ht=>by
  have:=ej.1 hpn t ht
  rw [hn];simpa [gH] using this) (fun i hi=>by simpa using hv i hi) ac8
 have hy:=run_yield (P:=P) (args:=vs) hh (by simpa [hs] using NI.symm);refine ⟨fn,_,R0.assign,R0.body,hy,roundIn_of_wpIn (F:=Fence.wide) trivial ?_⟩;let C1:Ctx:=⟨w,F,β,H,R0.n,some l,.inr trivial,[]⟩;have iQ:Rel C1 ⟨Kd (R0.ps.toList.zip xs) (ar L),H⟩ { tmps:=(R0.ps.zip vs).foldl (fun tmps (x:Nat×Value)=>tmps.setIfInBounds x.1 x.2) tmps,defers:=[] } w :=
  ⟨F,β,by rw [hz,aX,hn],trivial,fun t=>by rw [hz];exact fB t,⟨Ext.refl MN,fun d hd=>(eJ hd).elim,qS,⟨[],rfl⟩⟩⟩
 refine wpIn_mono (h.h C1 rfl _ w iQ) ?_;rintro e a1 w1 ⟨s1,⟨F1,dg,g1,g2,g3,g4⟩,hq⟩;cases e with
 |normal =>
  have hq:Ok (R:=dK.yes) P R0.n R0.body s1 (W_ _):=hq;have Bp:w1.heap[l]?=some (.loop { state:=LS.iI.st,pending:=LS.iI.zL,fn,tmps,params:=R0.ps,assign:=R0.assign,body:=R0.body,defers:=D }):=(g4.x.block l Φ uR).trans hh
  have Un:¬F1 l:=fun hF=>by
   rcases g4.x.new l hF with h|h|h
   ·exact Bq h
   ·exact absurd Φ (me.2 h)
   ·exact uR h
  have acr:¬bC dg s1.H l:=fun ho=>by
   rcases g4.x.owned l ho with h|h
   ·exact absurd Φ (me.2 h)
   ·exact uR h
  obtain ⟨ob,Nz⟩:∃ob:Obj,ob=.loop { state:=.busy,pending:=none,fn,tmps,params:=R0.ps,assign:=R0.assign,body:=R0.body,defers:=D }:=⟨_,rfl⟩;refine ⟨w1.putObj l ob,by rw [Nz];exact run_beginRound Bp rfl,?_⟩;let C2:Ctx:=⟨w.putObj l ob,F,β,H,R0.n,some l,.inr trivial,[]⟩;have ML:Inv (w1.putObj l ob) F1 dg s1.H:=Ol g4.inv Un acr
  have au:Ext C2.w C2.F C2.β ⟨aF,C2.H⟩ (w1.putObj l ob) F1 dg ⟨aF,s1.H⟩:=by
   refine ⟨g4.x.os,g4.x.tape,g4.x.output,by show (w.putObj l ob).heap.size≤_;rw [j4,j4];exact g4.x.size,fun b hb ho=>?_,g4.x.mono,fun b hb=>(g4.x.new b hb).imp id fun h=>h.imp (fun h=>by show (w.putObj l ob).heap.size≤b;rw [j4];exact h) id,fun b hb=>(g4.x.owned b hb).imp (fun h=>by show (w.putObj l ob).heap.size≤b;rw [j4];exact h) id,fun _ _ _=>.χ,ML,g4.x.gu⟩
   have hb:b<w.heap.size:=by have hb:b<(w.putObj l ob).heap.size:=hb;rwa [j4] at hb
   show _=(w.putObj l ob).heap[b]?;by_cases e:b=l
   ·subst e;rw [Lu Φ,Lu (oe Φ g4.x.size)]
   ·rw [p5 e,p5 e];exact g4.x.block b hb ho
  have MR:ga F1 w1 (w1.putObj l ob):=fun b hb=>p5 fun e=>Un (e▸hb)
  have NM:Rel C2 s1 a1 (w1.putObj l ob):=⟨F1,dg,g1,trivial,fun t=>(g3 t).frame MR fun _ h=>h,⟨au,fun d hd=>by
   obtain ⟨D',q1,q2,q3,q4,q5⟩:=g4.m d hd;refine ⟨D',q1,by show (w.putObj l ob).heap.size≤D';rw [j4];exact q2,(p5 fun e=>?_).trans q3,q4,q5⟩;have q2:w.heap.size≤D':=q2
   omega,g4.nd,g4.sp⟩⟩
  refine wpIn_mono (hq.h C2 rfl a1 _ NM) ?_;rintro e a3 w3 ⟨s3,acU,jD⟩;have fin:∀(jump:Option Code) (e:LS),e.st=(if jump.isNone then .ready else .done)→e.zL=jump→jump.isNone=e.wP→(e=e0∧Wk (R:=dK.yes) ⟨aF,s3.H⟩ ⟨ar [],H1⟩) →
    ∃v w',(Instr.endRound l jump).run P w3=.ok v w'∧∃v',Ending.returned v=.returned v'∧∃r aq F' av,(r=.v (.bool e0.wP)∧aq.H=(lid,Chunk.lp l e0 R0 L)::H1)∧Rd w' F' av r v'∧Ext w F β ⟨aF,(lid,Chunk.lp l .iI R0 L)::H⟩ w' F' av aq:=by
   rintro jump e bD dS jP ⟨rfl,hW⟩;obtain ⟨F3,qK,k1,k2,k3,k4⟩:=acU;obtain ⟨F4,C7,_,_,_,k5⟩:=hW C2 a3 w3 ⟨F3,qK,k1,k2,fun _=>.χ,k4⟩;have hx:=k5.x
   have ac6:w.heap.size≤w3.heap.size:=by have:=hx.size;have h2:(w.putObj l ob).heap.size≤w3.heap.size:=this;rwa [j4] at h2
   have NS:∀b,b<w.heap.size→¬bC β H b→w3.heap[b]?=(w.putObj l ob).heap[b]?:=fun b hb ho=>hx.block b (by show b<(w.putObj l ob).heap.size;rw [j4];exact hb) ho;have Us:∀b,F4 b→F b∨w.heap.size≤b∨bC β H b:=fun b hb=>(hx.new b hb).imp id fun h=>h.imp (fun h=>by have h2:(w.putObj l ob).heap.size≤b:=h;rwa [j4] at h2) id;have UC:∀b,bC C7 H1 b→w.heap.size≤b∨bC β H b:=fun b hb=>(hx.owned b hb).imp (fun h=>by have h2:(w.putObj l ob).heap.size≤b:=h;rwa [j4] at h2) id
   have te:w3.heap[l]?=some ob:=by rw [NS l Φ uR];exact Lu Φ
   rw [Nz] at te;have sZ:=run_endRound (P:=P) jump te;have acs:=kF te
   have Uo:¬F4 l:=fun hF=>by
    rcases Us l hF with h|h|h
    ·exact Bq h
    ·exact absurd Φ (me.2 h)
    ·exact uR h
   have Nq:¬bC C7 H1 l:=fun ho=>by
    rcases UC l ho with h|h
    ·exact absurd Φ (me.2 h)
    ·exact uR h
   refine ⟨_,_,sZ,_,rfl,_,⟨aF,(lid,Chunk.lp l e R0 L)::H1⟩,F4,C7,⟨rfl,rfl⟩,by rw [jP];exact .i (.v (.inl rfl)),?_⟩;have MM:=k5.inv;generalize nN:w3.putObj l _=w4
   have gX:∀b,b≠l→w4.heap[b]?=w3.heap[b]?:=fun b hb=>by rw [←nN];exact p5 hb
   have Eh:Inv w4 F4 C7 H1:=by rw [←nN];exact Ol MM Uo Nq
   have I_:C7 lid=.pointer (some ⟨l,0,none⟩):=(hx.gu lid IL).trans ah
   have haF:ga F w w4:=fun b hb=>by
    have aP:b≠l:=fun e=>Bq (e▸hb);rw [gX b aP,NS b (MN.cC b hb) (fun ho=>MN.apart b ho hb),p5 aP]
   have uT:w4.os=w.os:=by rw [←nN];exact hx.os
   have NY:jt w w4:=by rw [←nN];exact hx.tape
   have hou:w4.output=w.output:=by rw [←nN];exact hx.output
   have ac7:w.heap.size≤w4.heap.size:=by rw [←nN,j4];exact ac6
   refine ⟨uT,NY,hou,ac7,fun b hb ho=>?_,hx.mono,fun b hb=>(Us b hb).imp id fun h=>h.imp id fun ⟨i,c,hm,hb⟩=>⟨i,c,cu _ hm,hb⟩,fun b ⟨i,c,hm,hb⟩=>?_,fun _ _ _=>.χ,⟨Eh.cC,fun i c hm=>?_,zv fU,fun b ⟨i,c,hm,hb⟩ yu=>?_,fun i c i' c' b hm bW hb aK=>?_,Eh.fk⟩,hx.gu⟩
   ·have aP:b≠l:=fun e=>ho ⟨lid,_,j1 ..,by rw [ah,e];rfl⟩;rw [gX b aP,NS b hb (fun ⟨i,c,hm,hb⟩=>ho ⟨i,c,cu _ hm,hb⟩),p5 aP]
   ·rcases bf.1 hm with hm|hm
    ·cases hm;exact .inr ⟨lid,_,j1 ..,by have h9:C7 lid=β lid:=hx.gu lid IL;rw [←h9];exact hb⟩
    ·exact (UC b ⟨i,c,hm,hb⟩).imp id fun ⟨i,c,hm,hb⟩=>⟨i,c,cu _ hm,hb⟩
   ·rcases bf.1 hm with hm|hm
    ·cases hm;refine ⟨fn,tmps,D,I_,?_,hn,fun p hp=>?_⟩
     ·rw [←nN,Lu acs,bD,dS]
     ·have hpe:rl A7 2 p.2=p.2:=by
       have key:∀L':List (Nat×AV),(L'.map fun p=>(p.1,rl A7 2 p.2))=L'→∀p,p∈L'→rl A7 2 p.2=p.2:=by
        intro L';induction L' with
        |nil=>intro _ p hp;cases hp
        |cons q r ih =>
         intro he p hp;rw [jJ,List.cons.injEq] at he
         rcases bf.1 hp with rfl|hp
         ·exact congrArg Prod.snd he.1
         ·exact ih he.2 p hp
       exact key L hL p hp
      exact aby (fun i hi=>hx.gu i hi) hpe ((hr p hp).frame haF hx.mono)
    ·exact Eh.holds i c hm
   ·rcases bf.1 hm with hm|hm
    ·cases hm;rw [I_] at hb;cases hb;exact Uo yu
    ·exact Eh.apart b ⟨i,c,hm,hb⟩ yu
   ·rcases bf.1 hm with hm|hm<;>rcases bf.1 bW with bW|bW
    ·cases hm;cases bW;rfl
    ·cases hm;rw [I_] at hb;cases hb;exact (Nq ⟨i',c',bW,aK⟩).elim
    ·cases bW;rw [I_] at aK;cases aK;exact (Nq ⟨i,c,hm,hb⟩).elim
    ·exact Eh.eC i c i' c' b hm bW hb aK
  cases e with
  |normal=>exact fin none .iI rfl rfl rfl jD
  |ret=>exact fin (some .ret) .ret rfl rfl rfl jD
  |exit i=>exact fin (some (.exit i)) (.ex i) rfl rfl rfl jD
  |goto t=>exact jD.elim
  |panic ch=>exact jD.elim
  |outgrown=>exact jD.elim
 |exit id=>exact hq.elim
 |goto t=>exact hq.elim
 |ret=>exact hq.elim
 |panic ch=>exact hq.elim
 |outgrown=>exact hq.elim
def tL (n:Nat):Code→List RF
 |.seq a b=>tL n a++tL n b
 |.cond _ a b=>tL n a++tL n b
 |.block _ c=>tL n c
 |.loop c=>tL n c
 |.scope c=>tL n c
 |.rangeFunc _ ps a b=>⟨ps,a,b,n⟩::(tL n a++tL n b)
 |_=>[]
def FK (e:LS) (s:ae) (Q:Exit→ae→Prop):Prop:=match e with
 |.iI=>Q .normal s
 |.ret=>Q .ret s
 |.ex i=>Q (.exit i) s
 |.LX=>False
section
variable {ρ:Type} {X Y:Option ρ} {r:ρ} {e:LS} {s:ae} {Q:Exit→ae→Prop}
def agw (h:(if e=.iI then X else Y)=some r) (y:X=some r→Q .normal s) (n:Y=some r→FK e s Q):FK e s Q:=by
 by_cases he:e=.iI
 ·rw [if_pos he] at h;subst he;exact y h
 ·rw [if_neg he] at h;exact n h
def agx (h:(if e=.ret then X else Y)=some r) (y:X=some r→Q .ret s) (n:Y=some r→FK e s Q):FK e s Q:=by
 by_cases he:e=.ret
 ·rw [if_pos he] at h;subst he;exact y h
 ·rw [if_neg he] at h;exact n h
end
def vM.mem {f:Nat→AV}:∀{L:List (Nat×AV)},vM f L→∀p,p∈L→Le (f p.1) p.2
 |[],_,_,h=>by cases h
 |(t,x)::r,hh,p,h=>by
  rcases bf.1 h with h|h
  ·subst h;exact hh.1
  ·exact hh.2.mem p h
def Ok.rangeFunc {n lid gf:Nat} {g:Operand} {ps:Array Tmp} {assign body:Code} {R0:RF} {cs:List AV} {L:List (Nat×AV)} {st:ae} {Q:Exit→ae→Prop} (hR0:R0=⟨ps,assign,body,n⟩)
  (pz:eN lid 1000=true) (hg:ev (fun t=>er 2 lid (st.f t)) g=.c (.func gf) [] cs) (hL:vM (fun t=>er 2 lid (st.f t)) L)
  (h:∀l,af P (.f gf) (.c (.yield l) [] []::cs) ⟨fun t=>er 2 lid (st.f t),(lid,.lp l .iI R0 L)::gT lid st.H⟩ fun _ s=>∃e R' L',dH lid s.H=some (.lp l e R' L')∧FK e ⟨s.f,ow lid s.H⟩ Q) :
  Ok (R:=dK.no) P n (.rangeFunc g ps assign body) st Q:=by
 letI:dK:=dK.no
 refine ⟨fun C hn a w iQ=>?_⟩
 have pz:lid<1000:=by simpa using pz
 have EM:C.ro=none:=C.EM.resolve_right fun h=>h;obtain ⟨F,β,hs,_,hf,he⟩:=iQ;refine wpIn_rangeFunc fun fn _=>?_;have acV:(fQ C.ro).round=none:=EM;rw [acV];obtain ⟨W1,jg⟩:∃W1,(w.alloc (.deferred (some []))).alloc (.loop { state:=.ready,pending:=none,fn,tmps:=a.tmps,params:=ps,assign,body,defers:=w.heap.size })=W1:=⟨_,rfl⟩
 have MQ:W1.heap[w.heap.size+1]?=some (.loop { state:=.ready,pending:=none,fn,tmps:=a.tmps,params:=ps,assign,body,defers:=w.heap.size }):=by
  rw [←jg];have:=ZT (w.alloc (.deferred (some []))) (.loop { state:=.ready,pending:=none,fn,tmps:=a.tmps,params:=ps,assign,body,defers:=w.heap.size });rwa [World.size_alloc] at this
 have rk:W1.heap[w.heap.size]?=some (.deferred (some [])):=by
  rw [←jg];exact (QZ _ _ _ (by simp)).trans (ZT w _)
 have hold:∀b,b<w.heap.size→W1.heap[b]?=w.heap[b]?:=fun b hb=>by
  rw [←jg];exact (QZ _ _ _ (by simp;omega)).trans (QZ _ _ _ hb)
 have akX:W1.heap.size=w.heap.size+2:=by rw [←jg];simp
 let cj:Nat→Value:=fun i=>if i=lid then .pointer (some ⟨w.heap.size+1,0,none⟩) else β i;have hI:=he.inv;have MR:ga F w W1:=fun b hb=>hold b (hI.cC b hb);have zp:∀i,i≠lid→cj i=β i:=fun i hi=>if_neg hi;have NK:∀t,Rd W1 F cj (er 2 lid (st.f t)) (a.tmps.getD t undef):=fun t=>sN zp 2 ((hf t).frame MR fun _ h=>h)
 have iA:Ext w F β ⟨st.f,st.H⟩ W1 F cj ⟨fun t=>er 2 lid (st.f t),(lid,.lp (w.heap.size+1) .iI R0 L)::gT lid st.H⟩:=by
  refine qc pz hI (by rw [←jg];rfl) (by rw [←jg];exact ⟨rfl,fun _=>bG _⟩) (by rw [←jg];rfl) (by omega) (fun b hb _=>hold b hb) (fun i c' b _ hm hb=>hold b (hI.fM ⟨i,c',hm,hb⟩)) (fun b hb=>.inl ?_) ?_
  ·simp only [bR,G_] at hb;omega
  ·rw [hR0];exact ⟨fn,a.tmps,w.heap.size,if_pos rfl,MQ,by show a.tmps.size=n;rw [hs,hn],fun p hp=>hL.mem p hp _ _ _ _ (NK p.1)⟩
 have hIb:=iA.inv
 have hgv:Rd W1 F cj (.c (.func gf) [] cs) (a.eval g):=by rw [←hg];exact A2 NK g
 obtain ⟨us,ws,gA,fD,N9,_,hwr⟩:=hgv.nt;have e1:us=#[]:=ue (by simpa using fD);subst e1;have hc:=h (w.heap.size+1);obtain ⟨⟨fn0,c0,dE,dN,yy⟩,abS⟩:=hc
 have rG : ¬ fn0.name = "runtime.NumGoroutine" := by simpa using dN
 refine ⟨w.heap.size+1,[{ target:=.collected w.heap.size,args:=#[] }],W1,{ target:=.fn (.func gf) ws,args:=#[.func (.yield (w.heap.size+1)) #[] #[]] },W1,gf,#[.func (.yield (w.heap.size+1)) #[] #[]]++ws,W1,?_,?_,fun _ _=>trivial,?_,fun h=>(by cases h),?_⟩
 ·rw [←jg];exact run_enterLoop_outer _ _ _ _ _
 ·simp only [resolve,gA];simp [go_sem]
 ·simp [invoke,callFunc,dE,rG,yy]
 refine vV (Calls.mono (abS W1 F cj _ hIb (by simp [N9];omega) fun i hi=>?_) ?_)
 ·cases i with
  |zero =>
   have h0:(#[Value.func (Fn.yield (w.heap.size+1)) #[] #[]]++ws).getD 0 undef=.func (.yield (w.heap.size+1)) #[] #[]:=by simp [pV]
   rw [h0];exact .i (.c rfl rfl (fun i hi=>absurd hi (alE _)) (fun i hi=>absurd hi (alE _)))
  |succ i =>
   have hi:i<cs.length:=by simpa using hi
   have h2:i<ws.size:=by omega
   have:=hwr i hi;simpa [pV,h2,aV] using this
 rintro e w' ⟨v,rfl,r,s,F',av,⟨e,R',L',acg,hq⟩,hr,hx⟩;have hm:=eZ acg;obtain ⟨S1,XY,D',iT,qi,_,_⟩:=hx.inv.holds lid _ hm
 have aP:e.st≠.busy:=by cases e<;>first|(intro h;cases h;done)|exact hq.elim
 have sZ:=run_endLoop (P:=P) qi aP;obtain ⟨ob,Nz⟩:∃ob:Obj,w'.putObj (w.heap.size+1) ob=w'.putObj (w.heap.size+1) (.loop { state:=.exhausted,pending:=e.zL,fn:=S1,tmps:=XY,params:=R'.ps,assign:=R'.assign,body:=R'.body,defers:=D' }):=⟨_,rfl⟩;have tg:=kF qi;have uR:bC av s.H (w.heap.size+1):=⟨lid,_,hm,by rw [iT];rfl⟩;have Bq:¬F' (w.heap.size+1):=hx.inv.apart _ uR
 have M7:∀b,bC av (ow lid s.H) b→bC av s.H b∧b≠w.heap.size+1:=fun b ⟨i,c,rD,hb⟩=>by
  obtain ⟨h1,h2⟩:=v8.1 rD;exact ⟨⟨i,c,h1,hb⟩,fun e=>h2 (hx.inv.eC i c lid _ b h1 hm hb (by rw [iT,e];rfl))⟩
 generalize nN:w'.putObj (w.heap.size+1) (.loop { state:=.exhausted,pending:=e.zL,fn:=S1,tmps:=XY,params:=R'.ps,assign:=R'.assign,body:=R'.body,defers:=D' })=w4
 have acb:(Instr.endLoop (w.heap.size+1)).run P w'=.ok e.zL w4:=by rw [sZ,←nN]
 have gX:∀b,b≠w.heap.size+1→w4.heap[b]?=w'.heap[b]?:=fun b hb=>by rw [←nN];exact p5 hb
 have MM:Inv w4 F' av (ow lid s.H):=by rw [←nN];exact Ol (hx.inv.ow lid) Bq fun ho=>(M7 _ ho).2 rfl
 have ha4:ga F' w' w4:=fun b hb=>gX b fun e=>Bq (e▸hb);have hd4:Ext w' F' av ⟨aF,s.H⟩ w4 F' av ⟨aF,ow lid s.H⟩ :=
  ⟨by rw [←nN];rfl,by rw [←nN];exact ⟨rfl,fun _=>bG _⟩,by rw [←nN];rfl,by rw [←nN,j4];exact bG _,fun b _ ho=>gX b fun e=>ho (e▸uR),fun _ h=>h,fun _ h=>.inl h,fun b ho=>.inr (M7 b ho).1,fun _ _ _=>.χ,MM,fun _ _=>rfl⟩
 have j_:=((he.trans iA).trans hx.no).trans hd4
 have MI:¬bC cj ((lid,Chunk.lp (w.heap.size+1) .iI R0 L)::gT lid st.H) w.heap.size:=fun ⟨i,c,rD,hb⟩=>by
  rcases bf.1 rD with rD|rD
  ·cases rD;rw [show cj lid=.pointer (some ⟨w.heap.size+1,0,none⟩) from if_pos rfl] at hb;simp only [bR,G_] at hb;omega
  ·obtain ⟨h1,c1,h2,_⟩:=ir rD;rw [zp i h1] at hb;exact absurd (hI.fM ⟨i,c1,h2,hb⟩) (Nat.lt_irrefl _)
 have NN:Rel C ⟨s.f,ow lid s.H⟩ { a with defers:=[{ target:=.collected w.heap.size,args:=#[] }]++a.defers } w4:=by
  have jT:C.ms ([{ target:=.collected w.heap.size,args:=#[] }]++a.defers)=[{ target:=.collected w.heap.size,args:=#[] }]++C.ms a.defers:=Ctx.aek he.sp;refine ⟨F',av,hs,trivial,fun t=>((hx.keep t _ (NK t)).frame ha4 fun _ h=>h),j_.x,fun d hd=>?_,?_,?_⟩
  ·rw [jT] at hd
   rcases gl.1 hd with hd|hd
   ·obtain rfl:=dC.1 hd;refine ⟨w.heap.size,rfl,he.x.size,?_,fun hF=>?_,fun ho=>?_⟩
    ·rw [gX _ (by omega),hx.block _ (by omega) MI,rk]
    ·rcases hx.new _ hF with h|h|h
     ·exact absurd (hI.cC _ h) (Nat.lt_irrefl _)
     ·omega
     ·exact MI h
    ·rcases hx.owned _ (M7 _ ho).1 with h|h
     ·omega
     ·exact MI h
   ·exact j_.m d hd
  ·rw [jT];refine List.nodup_append.2 ⟨by simp,he.nd,fun x Ξ y hy e=>?_⟩;obtain rfl:=dC.1 Ξ;subst e;obtain ⟨D2,q1,_,q3,_⟩:=he.m _ hy;have:=kF q3;simp only [Deferred.mk.injEq,alG] at q1;omega
  ·obtain ⟨l,hl⟩:=he.sp;exact ⟨_::l,by rw [hl];rfl⟩
 refine ⟨e.zL,w4,acb,?_⟩;cases e with
 |iI=>exact ⟨_,NN,hq⟩
 |ret=>exact wpIn_ret ⟨_,NN,hq⟩
 |ex i=>exact wpIn_exit ⟨_,NN,hq⟩
 |LX=>exact hq.elim
end
end
section
open Go.RowKit
def R0 {α:Type} {x:Option α}:cq x x:=cq.refl x
def I0 {α:Type} {p:Prop} [Decidable p] {x y x' y':Option α} (h:cq x y) (h':cq x' y'):cq (if p then x else x') (if p then y else y'):=cq.ite h h'
def lr {a:AV}:Le a a:=fun _ _ _ _ h=>h
def Q0:True:=True.intro
def Q1 {a:AV}:Le a a∧True:=⟨lr,Q0⟩
def Q2 {a b:AV}:Le a a∧Le b b∧True:=⟨lr,Q1⟩
def Q3 {a b c:AV}:Le a a∧Le b b∧Le c c∧True:=⟨lr,Q2⟩
def Q4 {a b c d:AV}:Le a a∧Le b b∧Le c c∧Le d d∧True:=⟨lr,Q3⟩
def Q5 {a b c d e:AV}:Le a a∧Le b b∧Le c c∧Le d d∧Le e e∧True:=⟨lr,Q4⟩
def Q6 {a b c d e f:AV}:Le a a∧Le b b∧Le c c∧Le d d∧Le e e∧Le f f∧True:=⟨lr,Q5⟩
def Q7 {a b c d e f g:AV}:Le a a∧Le b b∧Le c c∧Le d d∧Le e e∧Le f f∧Le g g∧True:=⟨lr,Q6⟩
def Q8 {a b c d e f g h:AV}:Le a a∧Le b b∧Le c c∧Le d d∧Le e e∧Le f f∧Le g g∧Le h h∧True:=⟨lr,Q7⟩
def hr {c:Chunk}:∃c0,some c=some c0∧ix c0 c:=⟨_,rfl,.refl _⟩
def J1 {a:Chunk}:(∃c0,some a=some c0∧ix c0 a)∧True:=⟨⟨_,rfl,.refl _⟩,Q0⟩
def J2 {a b:Chunk}:(∃c0,some a=some c0∧ix c0 a)∧(∃c0,some b=some c0∧ix c0 b)∧True:=⟨⟨_,rfl,.refl _⟩,J1⟩
def J3 {a b c:Chunk}:(∃c0,some a=some c0∧ix c0 a)∧(∃c0,some b=some c0∧ix c0 b)∧(∃c0,some c=some c0∧ix c0 c)∧True:=⟨⟨_,rfl,.refl _⟩,J2⟩
def J4 {a b c d:Chunk}:(∃c0,some a=some c0∧ix c0 a)∧(∃c0,some b=some c0∧ix c0 b)∧(∃c0,some c=some c0∧ix c0 c)∧(∃c0,some d=some c0∧ix c0 d)∧True:=⟨⟨_,rfl,.refl _⟩,J3⟩
def sj {α:Type} {a b:α} (h:some a=some b):b=a:=(nn h).symm
section
variable [M:bM] [G:cK] [R:dK]
variable {P:Program} {n:Nat} {st:ae} {Q:Exit→ae→Prop} {T:TT}
def wT {c:Code} (L:List (Nat×AV)) (H':Hp) (a:vM st.f L) (b:xF st.H H') (k:jH H'=true) (h:Ok P n c ⟨ar L,H'⟩ Q):Ok P n c st Q:=Ok.wk (Wk.tab a b k) h
def Sg {id:Nat} {ops:Array Oper} {y:Code} (hT:bO P T) (h:iV P T n ops ops.toList st (nx P n y Q .normal)):Ok P n (.seq (.region id ops false) y) st Q:=Ok.seq (Ok.region hT h)
def cn {x y:Code} {ρ:Type} {X Y:Option ρ} {r:ρ} (d:Nat) (b:Bool) (hb:st.f d=.v (.bool b)) (h:(if b=true then X else Y)=some r) (yes:b=true→X=some r→Ok P n x st Q) (no:b=false→Y=some r→Ok P n y st Q):Ok P n (.cond (.tmp d) x y) st Q:=Ok.cond hb h yes no
def sq {x y:Code} (h:Ok P n x st (nx P n y Q)):Ok P n (.seq x y) st Q:=Ok.seq h
def bl {id:Nat} {c:Code} (h:Ok P n c st (bk id Q)):Ok P n (.block id c) st Q:=Ok.block h
def sk (h:Q .normal st):Ok P n .skip st Q:=Ok.skip h
def rt (h:Q .ret st):Ok P n .ret st Q:=Ok.ret h
def xt {id:Nat} (h:Q (.exit id) st):Ok P n (.exit id) st Q:=Ok.exit h
def wt {L:List (Nat×AV)} {H':Hp} (hL:vM st.f L) (hH:xF st.H H') (hk:jH H'=true):Wk st ⟨ar L,H'⟩:=Wk.tab hL hH hk
def po {g : Nat} {fn : Func} {args : List AV} {r : AV} (hT : bO P T) (n : Nat) (dE : P.funcs[g]? = some fn) (dN : (fn.name == "runtime.NumGoroutine") = false) (hb : fn.body = some (fn.body.getD .skip)) (hn : fn.ntmps = n) (hle : p0 args.length n = true)
  (h:Ok P n (fn.body.getD .skip) ⟨kW args,[]⟩ (sQ T fn.results.toList fun x st=>Fz st.H x r)):Pure P g args r:=age hT dE dN hb hn (AD hle) h
def pw {g E K : Nat} {fn : Func} {args : List AV} {rows : List (List AV)} (hT : bO P T) (n : Nat) (dE : P.funcs[g]? = some fn) (dN : (fn.name == "runtime.NumGoroutine") = false) (hb : fn.body = some (fn.body.getD .skip)) (hn : fn.ntmps = n) (hle : p0 args.length n = true)
  (h:Ok P n (fn.body.getD .skip) ⟨kW args,[]⟩ (sQ T fn.results.toList (Ly E K rows))):iZ P g args E K rows:=agd hT dE dN hb hn (AD hle) h
end
section
variable [M:bM] [G:cK]
variable {m:List (Nat×Nat)} {x x2 x3 x4:AV} {xs ys:List AV}
def n1 (t:iY m xs ys) (h:kg x=true:=by rfl):iY m (x::xs) (x::ys):=.cons (Ln.dG h) t
def n2 (t:iY m xs ys) (h:kg x=true:=by rfl) (h2:kg x2=true:=by rfl):iY m (x::x2::xs) (x::x2::ys):=n1 (n1 t h2) h
def n4 (t:iY m xs ys) (h:kg x=true:=by rfl) (h2:kg x2=true:=by rfl) (h3:kg x3=true:=by rfl) (h4:kg x4=true:=by rfl):iY m (x::x2::x3::x4::xs) (x::x2::x3::x4::ys):=n2 (n2 t h3 h4) h h2
def VZ:∀{xs:List AV},xs.all kg=true→iY m xs xs
 |[],_=>.nil
 |x::xs,h=>by
  rw [List.all_cons,bE] at h;exact .cons (Ln.dG h.1) (VZ h.2)
def nq (h:xs.all kg=true:=by rfl):iY m xs xs:=VZ h
def l1 (t:iM xs ys):iM (x::xs) (x::ys):=.cons (Le.refl _) t
def l2 (t:iM xs ys):iM (x::x2::xs) (x::x2::ys):=l1 (l1 t)
def l4 (t:iM xs ys):iM (x::x2::x3::x4::xs) (x::x2::x3::x4::ys):=l2 (l2 t)
def lz:iM xs xs:=iM.refl xs
end
end
section
open Go.RowKit Go.Sort Go.Proofs
variable [M:bM] [G:cK] [R:dK]
def aij {α:Type} {cf:α→α→Int} (hw:SWO (fun x y=>decide (cf x y<0))) {l r s:List α} (h1:r.Perm l) (h2:r.Pairwise (fun x y=>cf x y<0)) (h3:s.Perm l) (h4:s.Pairwise (fun x y=>¬cf y x<0)):s=r:=by
 have abK:∀{x y:α},cf x y<0→¬cf y x<0:=fun {x y} h1 h2=>by
  have:=hw.trans x y x (decide_eq_true h1) (decide_eq_true h2);have hi:=hw.irrefl x;rw [hi] at this;cases this
 have M3:∀a,a∈r→∀b,b∈r→a=b∨cf a b<0∨cf b a<0:=fun a ha b hb=>by
  obtain ⟨i,hi,rfl⟩:=Dg.1 ha;obtain ⟨j,hj,rfl⟩:=Dg.1 hb;have hp:=List.pairwise_iff_getElem.1 h2
  rcases Nat.lt_trichotomy i j with h|h|h
  ·exact .inr (.inl (hp i j hi hj h))
  ·subst h;exact .inl rfl
  ·exact .inr (.inr (hp j i hj hi h))
 refine List.Perm.eq_of_pairwise (le:=fun x y=>¬cf y x<0) (fun a b ha hb jh hba=>?_) h4 (h2.imp fun h=>abK h) (h3.trans h1.symm)
 rcases M3 a ((h3.trans h1.symm).mem_iff.1 ha) b hb with h|h|h
 ·exact h
 ·exact absurd h hba
 ·exact absurd h jh
section
variable {P:Program}
def WM {f k E g:Nat} {α:Type} {enc:α→List AV} {c:α→α→Option Int} {l r:List α} (hS:Hk P f k) (hf:p6 P f)
  (hk:∀x,(enc x).length=k) (c_:∀x y n,c x y=some n→@Pure bM.yes G P g [.a (enc x),.a (enc y)] (.v (.int .i64 n)))
  (eg:∀args w,(callFunc g args).run P w=.ok (.enter g args) w) (h:xc c l=some r) :
  mq P f [.o 1000,.c (.func g) [] []] (.own E k (l.map enc)) (fun x c=>x=.t []∧c=.own E k (r.map enc)):=by
 obtain ⟨gp,cf,hc,bV⟩:=ahQ h;obtain ⟨UQ,lD⟩:=Gg hc bV;refine ⟨hf,fun w F β vs hI hs jk=>?_⟩;have h0:=jk 0 (Nat.zero_lt_succ _);have h1:=jk 1 (Nat.lt_succ_self _);obtain ⟨a,n,cap,ah,e0⟩:=Rd.jY (id:=1000) h0;obtain ⟨us,ws,e1,fD,N9,_⟩:=Rd.nt (fn:=.func g) (fs:=[]) (cs:=[]) h1;have N4:us=#[]:=ue (by simpa using fD);have adm:ws=#[]:=ue (by simpa using N9);subst N4;subst adm
 have ac_:vs=#[.slice a n cap,.func (.func g) #[] #[]]:=by have:=RV (vs:=vs) (by simpa using hs);rw [e0,e1] at this;exact this
 subst ac_;have hlen:=UQ.length_eq;have NL:∀W:World,∀F:Nat→Prop,bg W F (.t []) (.tuple #[]):=fun W F=>.t rfl fun i hi=>absurd hi (by simp);have hh:=hI.holds 1000 (.own E k (l.map enc)) (by simp)
 rcases hh with ⟨hr,a',iT⟩|⟨b,cp,cur,iT,TX,hb,nK,nD,fZ,EL,eO⟩
 ·have hl:l=[]:=by simpa using hr
  subst hl;rw [iT] at ah;cases ah;have c8:r=[]:=qQ (by simpa using hlen);refine (hS.1 _ _ _ w).mono ?_;rintro e w' ⟨rfl,rfl⟩;exact ⟨_,rfl,_,_,F,⟨rfl,rfl⟩,NL _ _,rfl,jt.refl _,rfl,bG _,fun _ _ _=>rfl,fun _ h=>h,fun _ h=>.inl h,rfl,.inl ⟨by rw [c8];rfl,_,iT⟩⟩
 ·have IM:(l.map enc).length=l.length:=az _;rw [IM] at iT nK;rw [iT] at ah
  obtain ⟨ea,en,ec⟩:some (⟨b,0,none⟩:Addr)=a∧l.length=n∧cp=cap:=by simpa using ah
  subst ea;subst en;subst ec;have blt:b<w.heap.size:=kF hb
  have kL:bR (β 1000)=some b:=by
   rw [iT]
   have h0:aH cp 0=false:=by cases cp<;>first|rfl|omega
   simp [bR,h0]
  have hnF:¬F b:=hI.apart b ⟨1000,.own E k (l.map enc),by simp,kL⟩;let A:Type:={ p:List Value×α // p.1.length=k∧(∀v,v∈p.1→v.oneCell'=true)∧∀j,j<k→bg w F ((enc p.2).getD j .χ) (p.1.getD j undef) };let ev:A→List Value:=fun p=>p.1.1;have jE:∀i,(hi:i<l.length)→(((gw k).map fun j=>cur.getD (i*k+j) undef),l[i]).1.length=k∧(∀v,v∈(((gw k).map fun j=>cur.getD (i*k+j) undef),l[i]).1→v.oneCell'=true) ∧
    ∀j,j<k→bg w F ((enc (((gw k).map fun j=>cur.getD (i*k+j) undef),l[i]).2).getD j .χ) ((((gw k).map fun j=>cur.getD (i*k+j) undef),l[i]).1.getD j undef):=fun i hi=>by
   have e2:(l.map enc).getD i []=enc l[i]:=by simp [aV,hi]
   refine ⟨by simp,fun v hv=>?_,fun j hj=>?_⟩
   ·obtain ⟨j,hj,rfl⟩:=c9.1 hv;exact (eO i j (by simpa using hi) (List.mem_range.1 hj)).1
   ·have:=(eO i j (by simpa using hi) hj).2;rw [e2] at this
    have e3:((gw k).map fun j=>cur.getD (i*k+j) undef).getD j undef=cur.getD (i*k+j) undef:=by simp [aV,hj]
    dsimp only;rw [e3];exact this
  let l':List A:=List.ofFn fun i:Fin l.length=>(⟨(((gw k).map fun j=>cur.getD (i.1*k+j) undef),l[i.1]),jE i.1 i.2⟩:A)
  have uP:l'.length=l.length:=by simp [l']
  have acz:l'.map (fun p=>p.1.2)=l:=by
   apply List.ext_getElem (by simp [l']);intro i h1 h2;simp [l']
  rcases oW l.length with hz|rI
  ·-- nothing to be sorted
   have EA:l=[]:=qQ hz;subst EA;have c8:r=[]:=qQ (by simpa using hlen);refine (hS.1 _ _ _ w).mono ?_;rintro e w' ⟨rfl,rfl⟩;exact ⟨_,rfl,_,_,F,⟨rfl,rfl⟩,NL _ _,rfl,jt.refl _,rfl,bG _,fun _ _ _=>rfl,fun _ h=>h,fun _ h=>.inl h,rfl,.inr ⟨b,cp,cur,by rw [c8];exact iT,TX,hb,by rw [c8];exact Nat.zero_le _,nD,fZ,by rw [c8];intro i hi;exact absurd hi (by simp),by rw [c8];intro i j hi;exact absurd hi (by simp)⟩⟩
  haveI:Inhabited A:=⟨l'[0]'(by omega)⟩
  let ux:A→A→Int:=fun x y=>cf x.1.2 y.1.2;have UY:SWO (fun x y=>decide (ux x y<0)):=⟨fun x=>hc.2.irrefl x.1.2,fun x y z=>hc.2.trans x.1.2 y.1.2 z.1.2,fun x y z=>hc.2.ntrans x.1.2 y.1.2 z.1.2⟩;have Ez:∀x,(ev x).length=k:=fun x=>x.2.1;have rj:∀x,∀v∈ev x,v.oneCell'=true:=fun x=>x.2.2.1
  have lB:∀i (hi:i<l.length),l'[i]'(by omega)=(⟨(((gw k).map fun j=>cur.getD (i*k+j) undef),l[i]),jE i hi⟩:A):=fun i hi=>by simp [l']
  have hH:HoldsK ev k w b 0 l'.toArray:=fun j hj=>by
   rw [size_flatK] at hj
   have dq:j<l.length*k:=by simpa [uP] using hj
   have kR:0<k:=(oW k).elim (fun h=>by subst h;simp at dq) fun h=>h;have hq:j/k<l.length:=(Nat.div_lt_iff_lt_mul kR).2 dq;have hm:j % k<k:=Nat.mod_lt _ kR
   have hjj:j/k*k+j % k=j:=by rw [og];exact Nat.div_add_mod j k
   have Ug:j<cur.size:=by rw [fZ];exact oe dq (cG k nK)
   refine ⟨?_,?_⟩
   ·rw [get_flatK _ _ _ _ (by simpa [uP] using dq),cell_of_row w b _ cur E (0,0) hb]
    have e2:l'.toArray[j/k]! = l'[j/k]'(by omega):=by rw [getElem!_pos _ _ (by simpa [uP] using hq)];simp
    rw [e2,lB _ hq];show cur[0+j]?=some (((gw k).map fun q=>cur.getD (j/k*k+q) undef)[j % k]!);rw [getElem!_pos _ _ (by simpa using hm)];simp [hjj,Ug]
   ·simp [World.frozen?,hb]
  have agree:∀(m:Nat) (os:Array Obj) (dk:Array A),ga F w (sortWorldK ev k w b 0 m dk os):=fun m os dk b' aK=>T5 (fun e=>hnF (e▸aK)) (hI.cC b' aK)
  have UX:=hS.2 A ev Ez rj ux UY g #[] b 0 cp l'.toArray w eg (fun m os dk _ x y=>by
    let W:=sortWorldK ev k w b 0 m dk os;have hIW:Inv W F (fun _=>undef) []:=⟨fun b' aK=>oe (hI.cC b' aK) Xs,fun _ _ h=>by simp at h,by simp,fun _ ⟨_,_,h,_⟩=>by simp at h,fun _ _ _ _ _ h=>by simp at h,hI.fk.at (agree m os dk)⟩
    have rd:∀z:A,Rd W F (fun _=>undef) (.a (enc z.1.2)) (.agg (ev z).toArray):=fun z=>by
     have mR:(ev z).length=k:=Ez z;refine .i (.a (by simp [mR,hk]) (fun i hi=>?_) fun i hi=>?_)
     ·have bm:i<(ev z).length:=by rw [mR,←hk z.1.2];exact hi
      have:(ev z).toArray.getD i undef=(ev z)[i]:=by simp [xl,bm]
      rw [this];exact rj z _ (eI bm)
     ·have bm:i<(ev z).length:=by rw [mR,←hk z.1.2];exact hi
      have e:(ev z).toArray.getD i undef=(ev z).getD i undef:=by simp [xl,aV,bm]
      rw [e];exact (z.2.2.2 i (by rw [←hk z.1.2];exact hi)).frame (agree m os dk) fun _ h=>h
    have hp:=(c_ x.1.2 y.1.2 (cf x.1.2 y.1.2) (hc.1 _ _)).2 W F (fun _=>undef) #[.agg (ev x).toArray,.agg (ev y).toArray] hIW rfl (fun i hi=>by
     match i,hi with
     |0,_=>exact rd x
     |1,_=>exact rd y
     |n+2,hi=>exact absurd hi (by simp))
    refine (show Calls P g (#[.agg (ev x).toArray,.agg (ev y).toArray]++#[]) W _ from hp).mono ?_;rintro e w' ⟨v,rfl,hb,hr⟩;refine ⟨?_,hb.abC⟩
    cases hr with|v h=>rfl) hH blt (by simp [uP];omega)
  have aX:l'.toArray.size=l.length:=by simp [uP]
  rw [aX] at UX;refine (show Calls P f #[.slice (some ⟨b,0,none⟩) l.length cp,.func (.func g) #[] #[]] w _ from UX).mono ?_;rintro e w' ⟨rfl,n,os,rfl⟩
  have cJ:pdq (fun x y=>decide (ux x y<0)) l'.toArray 0 l.length (Lib.bitLen l.length) true true=(xb ux l').toArray:=by simp [xb,uP]
  simp only [cJ];obtain ⟨y_,IZ⟩:=ahP UY l';have wJ:(xb ux l').map (fun p=>p.1.2)=r:=aij hc.2 UQ lD (by have:=y_.map (fun p:A=>p.1.2);rw [acz] at this;exact this) (by rw [List.pairwise_map];exact IZ);generalize ew:xb ux l'=s at wJ y_ IZ
  have zf:s.length=l.length:=by rw [y_.length_eq,uP]
  have hbH:=ab' (enc:=ev) (k:=k) (off:=0) (n:=n) (d:=s.toArray) (os:=os) hb;subst wJ;have jC:(s.map fun p=>p.1.2).length=s.length:=az _;refine ⟨_,rfl,_,_,F,⟨rfl,rfl⟩,NL _ _,rfl,⟨rfl,fun _=>Nat.le_add_right _ _⟩,rfl,Xs,fun c hc aP=>T5 (fun h=>aP (by rw [kL,h])) hc,fun _ h=>h,fun _ h=>.inl h,?_,.inr ⟨b,cp,_,?_,TX,hbH,?_,nD,?_,?_,?_⟩⟩
  ·rfl
  ·rw [iT,az,jC,zf]
  ·rw [az,jC,zf];exact nK
  ·simp [putCells,fZ]
  ·intro i hi;rw [az,jC] at hi;simp [aV,hi,hk]
  ·intro i j hi hj;rw [az,jC] at hi
   have s7:i<l.length:=by omega
   have nH:i*k+j<l.length*k:=by
    have:=cG k (show i+1≤l.length from s7);rw [Nat.add_mul,Nat.one_mul] at this;omega
   have Ud:i*k+j<cur.size:=by rw [fZ];exact oe nH (cG k nK)
   have kR:0<k:=by omega
   have e4:(i*k+j)/k=i:=by rw [og,Nat.mul_add_div kR,Nat.div_eq_of_lt hj];rfl
   have e5:(i*k+j) % k=j:=by rw [og,Nat.mul_add_mod,Nat.mod_eq_of_lt hj]
   have Bt:i*k+j<s.length*k:=by rw [zf];exact nH
   have e6:(putCells id 0 (flatK ev k s.toArray) cur).getD (i*k+j) undef=(ev s[i]).getD j undef:=by
    have:(putCells id 0 (flatK ev k s.toArray) cur)[i*k+j]?=some ((ev s[i]).getD j undef):=by
     unfold putCells;rw [Array.getElem?_mapIdx,Array.getElem?_eq_getElem Ud];have hc:0≤i*k+j∧i*k+j<0+(flatK ev k s.toArray).size:=⟨Nat.zero_le _,by rw [size_flatK];simpa using Bt⟩;rw [Option.map_some,if_pos hc,Nat.sub_zero,get_flatK _ _ _ _ (by simpa using Bt),e4,e5]
     have e2:s.toArray[i]! = s[i]:=by rw [getElem!_pos _ _ (by simpa using hi)];simp
     rw [e2];show some ((ev s[i])[j]!)=_;rw [getElem!_pos _ _ (by rw [Ez];exact hj)];simp [aV,Ez,hj]
    rw [Array.getD_eq_getD_getElem?,this];rfl
   have e7:((s.map fun p=>p.1.2).map enc).getD i []=enc s[i].1.2:=by simp [aV,hi]
   rw [e6,e7]
   have Uf:j<(ev s[i]).length:=by rw [Ez];exact hj
   have e8:(ev s[i]).getD j undef=(ev s[i])[j]:=by simp [aV,Uf]
   refine ⟨by rw [e8];exact rj s[i] _ (eI Uf),?_⟩;exact (s[i].2.2.2 j hj).frame (agree n os s.toArray) fun _ h=>h
end
end
end Go.Cat
