/- The logic that the walks are in, piece P6. No condition. -/
import Derived.Test.YtdcgbodbejgliaaGreatDoorXTopUnseenCatP5
import Derived.Laws.AppendOwn
import Derived.Shelf.SlIterI.Nil
import Derived.Shelf.SortM.Plain
import Derived.Shelf.SortM.SortNone
import Derived.Test.YtdcgbodbejgliaaGreatDoorXTopUnseenCatP1
import Derived.RangeFuncBox
import Derived.RangeFuncWrites
import Derived.RangeFuncLeaves
import Derived.Test.YtdcgbodbejgliaaGreatDoorXTopUnseenCatP4
open Array renaming eq_empty_of_size_eq_zero → tM, getElem?_append → pP, getD → xf
open Bool renaming and_eq_true → bJ, not_eq_true' → oS
open Go.RowKit renaming Below → QN
open Go.RowKit.Below renaming heap_alloc → QO
open Go.Target.collected renaming injEq → alw
open Go.Value renaming int → dv
open Go.World renaming putObj_size → j2, putObj_heap_other → pV, putObj_heap_same → Lb, alloc_heap_new → ZF
open List renaming length_map → ay, mem_cons_of_mem → cr, mem_cons → bj, getD → aY, mem_singleton → dD, pairwise_cons → eI, mem_map → dg, all_eq_true → ej, getElem_mem → eG, not_mem_nil → eH, mem_append → gg, mem_cons_self → jZ, nodup_cons → iv, range → gu, eq_nil_of_length_eq_zero → qD, map_cons → jD, any_eq_false → pS, nodup_nil → qG, mem_iff_getElem → C6, perm_cons → alv
open Nat renaming mul_le_mul_right → cI, eq_of_beq_eq_true → cR, beq → aH, le_refl → bF, eq_zero_or_pos → oT, blt → eL, blt_eq → gF, beq_refl → iX, lt_of_lt_of_le → oe, mul_comm → og, not_lt → mg, le_of_ble_eq_true → An, ble → pT, not_lt_zero → alu
open Option.some renaming inj → lP, injEq → GN
namespace Go.Cat
set_option linter.all false
section
open Go.RowKit
variable [M:bK] [G:cL] [R:dK]
section
variable {P:Program}
def Fz.w {H:Hp} {id E K d:Nat} {rows:List (List AV)} (h:dI id H=some (.own E K rows)):Fz H (.w id K d) (.s (rows.drop d)):=fun w F β u hI hr=>by
 obtain ⟨a,a',n,c,ah,hd,ha,rfl⟩:=hr.xc;have hm:=eX h
 rcases hI.holds _ _ hm with ⟨rfl,a2,hv⟩ | ⟨g,cap,cur,hv,hc,hg,hn,gk,hs,hK,hr⟩
 ·rw [ah] at hv;cases hv
  have:d=0:=by omega
  subst this;exact .s0
 ·rw [ah] at hv;cases hv
  have h0:aH c 0=false:=by cases c <;> first | rfl | omega
  have eM:=(Jk (hI.holds _ _ hm) ah).2.2.2;obtain ⟨u,hu⟩:=eM
  have hlen:(rows.drop d).length=rows.length-d:=by simp
  by_cases hdc:d<c
  ·have ha:=ha hdc;subst ha
   have e:(Option.map (·.add (d*K)) (some (⟨g,0,none⟩:Addr)))=some ⟨g,d*K,none⟩:=by simp [Addr.add_lit]
   rw [e,←hlen]
   have jy:∀i,i<(rows.drop d).length→(rows.drop d).getD i []=rows.getD (d+i) []:=fun i hi=>by simp [aY,List.getElem?_drop]
   refine .s (off:=d*K) (k:=K) (u:=fun i j=>u (d+i) j) (.inr ⟨id,_,hm,by rw [ah]; simp [bQ,h0]⟩) (by omega) (by omega) (fun i hi=>?_) (fun i j hi hj=>?_) (fun i j hi hj=>?_) fun i j hi hj=>?_
   ·rw [jy i hi]; exact hK _ (by omega)
   ·have:=(hu (d+i) j (by omega) hj).1;rw [←this];congr 2;rw [Nat.add_mul]; omega
   ·exact (hu (d+i) j (by omega) hj).2.1
   ·rw [jy i hi];exact (hu (d+i) j (by omega) hj).2.2.frame (fun _ _=>rfl) fun _ h=>.inl h
  ·have MP:rows.length-d=0:=by omega
   have aw:c-d=0:=by omega
   have:rows.drop d=[]:=qD (by omega);rw [MP,aw,this];exact .s0
def Fz.wm {α:Type} {f:α→List AV} {l:List α} {H:Hp} {id E K d:Nat} (h:dI id H=some (.own E K (l.map f))):Fz H (.w id K d) (.s ((l.drop d).map f)):=by
 rw [List.map_drop]; exact Fz.w h
end
end
section
open Go.RowKit
variable [M:bK] [G:cL] [R:dK]
section
variable {P:Program}
def ZI (P:Program) (g k1:Nat):Prop:=∀(b:Nat) (w:World),
 Calls P g #[.map (some b)] w fun e w'=>e=.returned (.func (.func k1) #[] #[.pointer (some ⟨w.heap.size,0,none⟩)])∧∃T,w'=w.alloc (.cells #[.map (some b)] T)
def akp (P:Program) (g k1 E:Nat):Prop:=∀(w:World) (Bm b:Nat) (es:Array MapEntry) (ck:Nat) (ks:List Int),w.cell? ⟨Bm,0,none⟩=some (.map (some b))→Bm<w.heap.size →
 w.heap[b]?=some (.map es ck)→Go.MapKept.Stamped es ck→es.toList.map (·.key)=ks.map (dv .i64)→(∀n,n∈ks→Θ n)→ks.length*8≤140737488355328 →
 Calls P g #[.func (.func k1) #[] #[.pointer (some ⟨Bm,0,none⟩)]] w fun e w'=>∃v,e=.returned v ∧
  w'.ownsRow w.heap.size E 1 v ks.length ((ks.mergeSort fun x y=>decide (x≤y)).map (dv .i64))∧QN w.heap.size w w'
def af.keys {g k1 id D:Nat} {ag:Bool} {rows:List (Int×List AV)} {st:ae} {k:AV→ae→Prop} (hS:ZI P g k1) (hE:pW P g) (hc:dI id st.H=some (.mp ag rows)) (hD:eL D 1000=true) (aO:aH id D=false)
  (hk:k (.c (.func k1) [] [.b D 0]) (gH st D (.box [.m id]))):af P g [.m id] st k:=by
 refine ⟨hE,fun w F β vs hI hs hv=>?_⟩
 have ab7:id≠D:=fun e=>by rw [e,iX] at aO; cases aO
 obtain ⟨b,ah,NN⟩:=(hv 0 (by simp)).zr
 have jj:vs=#[.map (some b)]:=by
  apply Array.ext
  ·simpa using hs
  ·intro i h1 h2;have h2:i<1:=h2
   have:i=0:=by omega
   subst this;simpa [xf,h1] using NN
 subst jj;refine (hS b w).mono ?_;rintro e w' ⟨rfl,T,rfl⟩;have hb:=vE w (.cells #[.map (some b)] T);have eP:(w.alloc (.cells #[.map (some b)] T)).heap[w.heap.size]?=some (.cells #[.map (some b)] T):=(Go.MapKept.heap_alloc w _).1
 refine ⟨_,rfl,_,_,F,fun q=>if q=D then .pointer (some ⟨w.heap.size,0,none⟩) else β q,hk,.c rfl rfl (fun i hi=>by simp at hi) (fun i hi=>?_),p6 (v:=.pointer (some ⟨w.heap.size,0,none⟩)) (by simpa using hD) hI hb.os hb.tape hb.output hb.size (fun b aK _=>hb.block b aK)
  (fun i c' b _ hm aK=>hb.block b (hI.fI ⟨i,c',hm,aK⟩)) (fun b aK=>.inl ?_) ?_⟩
 ·have hi:i<1:=by simpa using hi
  have:i=0:=by omega
  subst this;exact .b (by simp)
 ·simp [bQ] at aK; omega
 ·refine ⟨w.heap.size,#[.map (some b)],T,by simp,eP,rfl,fun i hi=>?_,fun i hi=>?_⟩
  ·have hi:i<1:=by simpa using hi
   have:i=0:=by omega
   subst this;rfl
  ·have hi:i<1:=by simpa using hi
   have:i=0:=by omega
   subst this;exact .m (by simp [ab7,ah])
end
end
section
open Go.RowKit Go.Proofs Go.Shelf Go.Maps Go.Sort
open Go.WideElems (Fit rg)
def akU (_:Value):Option (DataW Unit×List MemPlace):=some (.lit (.bool false),[])
end
section
variable [M:bK] [G:cL] [R:dK]
end
section
open Go.RowKit
variable [M:bK] [G:cL] [R:dK]
def cT:List (Nat×Nat)→Nat→Option Nat
 | [],_=>none
 | (i,j)::r,x=>bif aH x i then some j else cT r x
def at_mem {i j:Nat}:∀{m:List (Nat×Nat)},cT m i=some j→(i,j)∈m
 | [],h=>by cases h
 | (a,b)::r,h=>by
  simp only [cT] at h;cases hb:aH i a with
  | true=>rw [hb] at h; cases h; rw [cR hb]; simp
  | false=>rw [hb] at h; exact cr _ (at_mem h)
def G' {i j:Nat}:∀{m:List (Nat×Nat)},(m.map (·.1)).Nodup→(i,j)∈m→cT m i=some j
 | [],_,h=>by cases h
 | (a,b)::r,hn,h=>by
  simp only [jD,iv] at hn;simp only [cT]
  rcases bj.1 h with h | h
  ·cases h; rw [iX]; rfl
  ·have:aH i a=false:=by
    cases hb:aH i a with
    | false=>rfl
    | true=>exact absurd (dg.2 ⟨_,h,cR hb⟩) hn.1
   rw [this]; exact G' hn.2 h
def rl (φ:Nat→Option Nat):Nat→AV→AV
 | n,x=>match x with
  | .b i o=>match φ i with
   | some j=>.b j o
   | none=>.χ
  | .o i=>match φ i with
   | some j=>.o j
   | none=>.χ
  | .e i K m o=>match φ i with
   | some j=>.e j K m o
   | none=>.χ
  | .w i K d=>match φ i with
   | some j=>.w j K d
   | none=>.χ
  | .m i=>match φ i with
   | some j=>.m j
   | none=>.χ
  | .a cs=>match n with
   | 0=>.χ
   | n+1=>.a (cs.map (rl φ n))
  | .t cs=>match n with
   | 0=>.χ
   | n+1=>.t (cs.map (rl φ n))
  | .c fn fs cs=>match n with
   | 0=>.χ
   | n+1=>.c fn (fs.map (rl φ n)) (cs.map (rl φ n))
  | .v x=>.v x
  | .s r=>.s r
  | .p c=>.p c
  | .z=>.z
  | .χ=>.χ
def O0 (φ:Nat→Option Nat):Chunk→Chunk
 | .box cells=>.box (cells.map (rl φ 2))
 | .own E k rows=>.own E k rows
 | .mp ag rows=>.mp ag rows
 | .lp l e R L=>.lp l e R (L.map fun p=>(p.1,rl φ 2 p.2))
 | .si s pos=>.si s pos
def gZ (φ:Nat→Option Nat):Hp→Hp
 | []=>[]
 | (i,c)::r=>match φ i with
  | some j=>(j,O0 φ c)::gZ φ r
  | none=>gZ φ r
section
variable {P:Program} {T:TT} {w:World} {F:Nat→Prop} {β av:Nat→Value}
def zL {φ:Nat→Option Nat} (ah:∀i j,φ i=some j→av j=β i):∀(n:Nat) {x:AV} {u:Value},Rd w F β x u→Rd w F av (rl φ n x) u:=by
 have one:∀{i:Nat} {f:Nat→AV} {u:Value},(∀j,φ i=some j→Rd w F av (f j) u)→Rd w F av (match φ i with | some j=>f j | none=>.χ) u:=fun h=>by
  split
  ·exact h _ (by assumption)
  ·exact .χ
 have leaf:∀{n:Nat} {x:AV} {u:Value},Rd w F β x u→(∀cs,x≠.a cs)→(∀cs,x≠.t cs)→(∀g fs cs,x≠.c g fs cs)→Rd w F av (rl φ n x) u:=by
  intro n x u h h1 h2 h3;cases x with
  | v x=>cases h with | i h=>cases h; cases n <;> exact .i (.v (by assumption))
  | s r=>cases n <;> exact .i h.oN
  | p c=>cases n <;> exact .i h.BQ
  | z=>obtain ⟨a,rfl⟩:=h.Ah; cases n <;> exact .i .z
  | χ=>cases n <;> exact .χ
  | a cs=>exact absurd rfl (h1 cs)
  | t cs=>exact absurd rfl (h2 cs)
  | c g fs cs=>exact absurd rfl (h3 g fs cs)
  | b i o =>
   obtain ⟨eV,hb,rfl⟩:=h.mz;cases n <;> exact one fun j hj=>.b ((ah i j hj).trans hb)
  | o i =>
   obtain ⟨a,k,c,hb,rfl⟩:=h.jW;cases n <;> exact one fun j hj=>.o ((ah i j hj).trans hb)
  | e i K m o =>
   obtain ⟨g,k,c,hb,rfl⟩:=h.AM;cases n <;> exact one fun j hj=>.e ((ah i j hj).trans hb)
  | w i K d =>
   obtain ⟨a,a',k,c,hb,hd,ha,rfl⟩:=h.xc;cases n <;> exact one fun j hj=>.w ((ah i j hj).trans hb) hd ha
  | m i =>
   obtain ⟨b,hb,rfl⟩:=h.zr;cases n <;> exact one fun j hj=>.m ((ah i j hj).trans hb)
 intro n;induction n with
 | zero =>
  intro x u h;cases x with
  | a cs=>exact .χ
  | t cs=>exact .χ
  | c g fs cs=>exact .χ
  | _=>exact leaf h (by simp) (by simp) (by simp)
 | succ n ih =>
  have get:∀(l:List AV) (i:Nat),i<l.length→(l.map (rl φ n)).getD i .χ=rl φ n (l.getD i .χ):=fun l i hi=>by simp [aY,hi]
  intro x u h;cases x with
  | a cs =>
   show Rd w F av (.a (cs.map (rl φ n))) u;obtain ⟨us,rfl,hs,h1,hr⟩:=h.qM;refine .a (by simpa using hs) (fun i hi=>h1 i (by simpa using hi)) fun i hi=>?_
   have hi:i<cs.length:=by simpa using hi
   rw [get cs i hi]; exact ih (hr i hi)
  | t cs =>
   show Rd w F av (.t (cs.map (rl φ n))) u;obtain ⟨us,rfl,hs,hr⟩:=h.Ct;refine .t (by simpa using hs) fun i hi=>?_
   have hi:i<cs.length:=by simpa using hi
   rw [get cs i hi]; exact ih (hr i hi)
  | c g fs cs =>
   show Rd w F av (.c g (fs.map (rl φ n)) (cs.map (rl φ n))) u;obtain ⟨us,vs,rfl,hs,eu,hr,cK⟩:=h.nt;refine .c (by simpa using hs) (by simpa using eu) (fun i hi=>?_) fun i hi=>?_
   ·have hi:i<fs.length:=by simpa using hi
    rw [get fs i hi]; exact ih (hr i hi)
   ·have hi:i<cs.length:=by simpa using hi
    rw [get cs i hi]; exact ih (cK i hi)
  | _=>exact leaf h (by simp) (by simp) (by simp)
def rlC_holds {φ:Nat→Option Nat} (ah:∀i j,φ i=some j→av j=β i) {i j:Nat} (eO:φ i=some j) {c:Chunk} (h:c.holds w F β i):(O0 φ c).holds w F av j:=by
 cases c with
 | box cells =>
  obtain ⟨b,cs,e,hb,hh,hs,h1,hr⟩:=h;refine ⟨b,cs,e,(ah i j eO).trans hb,hh,by simpa using hs,fun q hq=>h1 q (by simpa using hq),fun q hq=>?_⟩
  have hq:q<cells.length:=by simpa using hq
  have:(cells.map (rl φ 2)).getD q .χ=rl φ 2 (cells.getD q .χ):=by simp [aY,hq]
  rw [this];exact zL ah 2 (hr q hq)
 | own E k rows=>exact pA (c:=.own E k rows) rfl (fun _ h=>h) (ah i j eO) h
 | mp ag rows=>exact pA (c:=.mp ag rows) rfl (fun _ h=>h) (ah i j eO) h
 | si s pos=>exact pA (c:=.si s pos) rfl (fun _ h=>h) (ah i j eO) h
 | lp l e R L =>
  obtain ⟨fn,tmps,D,hb,hh,hn,hr⟩:=h;refine ⟨fn,tmps,D,(ah i j eO).trans hb,hh,hn,fun p hp=>?_⟩;obtain ⟨q,hq,rfl⟩:=dg.1 hp;exact zL ah 2 (hr q hq)
def mX {φ:Nat→Option Nat} {j:Nat} {c:Chunk}:∀{H:Hp},(j,c)∈gZ φ H→∃i c0,(i,c0)∈H∧φ i=some j∧c=O0 φ c0
 | [],h=>by cases h
 | (i,c0)::r,h=>by
  simp only [gZ] at h;split at h
  ·rename_i j' hj
   rcases bj.1 h with h | h
   ·cases h; exact ⟨i,c0,by simp,hj,rfl⟩
   ·obtain ⟨i',c',h1,h2⟩:=mX h;exact ⟨i',c',cr _ h1,h2⟩
  ·obtain ⟨i',c',h1,h2⟩:=mX h;exact ⟨i',c',cr _ h1,h2⟩
def Ln (m:List (Nat×Nat)) (x y:AV):Prop:=∀(w:World) (F:Nat→Prop) (β dh:Nat→Value) (u:Value),(∀i j,cT m i=some j→dh i=β j)→Rd w F β x u→Rd w F dh y u
inductive iZ (m:List (Nat×Nat)):List AV→List AV→Prop where
 | nil:iZ m [] []
 | cons {x y:AV} {xs ys:List AV} (h:Ln m x y) (t:iZ m xs ys):iZ m (x::xs) (y::ys)
def iZ.spec {m:List (Nat×Nat)} {xs ys:List AV} (h:iZ m xs ys):xs.length=ys.length∧∀i,i<xs.length→Ln m (xs.getD i .χ) (ys.getD i .χ):=by
 induction h with
 | nil=>exact ⟨rfl,fun i hi=>by simp at hi⟩
 | cons h t ih =>
  refine ⟨by simp [ih.1],fun i hi=>?_⟩;cases i with
  | zero=>simpa using h
  | succ i=>simpa using ih.2 i (by simpa using hi)
section
variable {m:List (Nat×Nat)}
def Ln.dG {x:AV} (h:kb x=true):Ln m x x:=fun _ _ _ _ _ _ hr=>.i (IM h hr)
def Ln.χ {x:AV}:Ln m x .χ:=fun _ _ _ _ _ _ _=>.χ
def Ln.nil:Ln m (.v (.slice none 0 0)) (.s []):=fun _ _ _ _ _ _ hr=>by rw [hr.bL]; exact .i .s0
def Ln.z:Ln m .z (.s []):=fun _ _ _ _ _ _ hr=>by obtain ⟨a,rfl⟩:=hr.Ah; exact .i .s0
def Ln.b {i j off:Nat} (h:cT m i=some j):Ln m (.b j off) (.b i off):=fun _ _ _ _ _ ah hr=>by
 obtain ⟨eV,h1,rfl⟩:=hr.mz; exact .b ((ah i j h).trans h1)
def Ln.o {i j:Nat} (h:cT m i=some j):Ln m (.o j) (.o i):=fun _ _ _ _ _ ah hr=>by
 obtain ⟨a,n,c,h1,rfl⟩:=hr.jW; exact .o ((ah i j h).trans h1)
def Ln.mm {i j:Nat} (h:cT m i=some j):Ln m (.m j) (.m i):=fun _ _ _ _ _ ah hr=>by
 obtain ⟨b,h1,rfl⟩:=hr.zr; exact .m ((ah i j h).trans h1)
def Ln.a {xs ys:List AV} (h:iZ m xs ys):Ln m (.a xs) (.a ys):=fun _ _ _ _ _ ah hr=>by
 obtain ⟨us,rfl,hs,h1,hu⟩:=hr.qM;obtain ⟨hl,hz⟩:=h.spec;exact .a (by omega) (fun i hi=>h1 i (by omega)) fun i hi=>hz i (by omega) _ _ _ _ _ ah (hu i (by omega))
def Ln.t {xs ys:List AV} (h:iZ m xs ys):Ln m (.t xs) (.t ys):=fun _ _ _ _ _ ah hr=>by
 obtain ⟨us,rfl,hs,hu⟩:=hr.Ct;obtain ⟨hl,hz⟩:=h.spec;exact .t (by omega) fun i hi=>hz i (by omega) _ _ _ _ _ ah (hu i (by omega))
def Ln.c {fn:Fn} {fs DF cs Ds:List AV} (h:iZ m fs DF) (h':iZ m cs Ds):Ln m (.c fn fs cs) (.c fn DF Ds):=fun _ _ _ _ _ ah hr=>by
 obtain ⟨us,vs,rfl,hs,eu,hu,hv⟩:=hr.nt;obtain ⟨hl,hz⟩:=h.spec;obtain ⟨uB,iS⟩:=h'.spec;exact .c (by omega) (by omega) (fun i hi=>hz i (by omega) _ _ _ _ _ ah (hu i (by omega))) fun i hi=>iS i (by omega) _ _ _ _ _ ah (hv i (by omega))
end
def G0 (m:List (Nat×Nat)):List (Nat×AV)→List (Nat×AV)→Prop
 | [],[]=>True
 | (t,x)::a,(t',y)::b=>t=t'∧Ln m x y∧G0 m a b
 | _,_=>False
def G0.mem {m:List (Nat×Nat)}:∀{a b:List (Nat×AV)},G0 m a b→∀p,p∈b→∃x,(p.1,x)∈a∧Ln m x p.2
 | [],[],_,_,h=>by cases h
 | (t,x)::a,(t',y)::b,hh,p,h=>by
  obtain ⟨rfl,h1,h2⟩:=hh
  rcases bj.1 h with h | h
  ·subst h; exact ⟨x,jZ ..,h1⟩
  ·obtain ⟨x',h3,h4⟩:=h2.mem p h;exact ⟨x',cr _ h3,h4⟩
 | [],_::_,hh,_,_=>hh.elim
 | _::_,[],hh,_,_=>hh.elim
inductive Cn (m:List (Nat×Nat)):Chunk→Chunk→Prop where
 | refl {c:Chunk} (h:AH c=true):Cn m c c
 | box {a b:List AV} (h:iZ m a b):Cn m (.box a) (.box b)
 | lp {l:Nat} {e e':LS} {R:RF} {a b:List (Nat×AV)} (he:e=e') (h:G0 m a b):Cn m (.lp l e R a) (.lp l e' R b)
def Cn.holds {m:List (Nat×Nat)} {c c0:Chunk} {i j:Nat} (h:Cn m c c0) (ah:∀i j,cT m i=some j→av i=β j) (eO:cT m i=some j) (hc:c.holds w F β j):c0.holds w F av i:=by
 cases h with
 | refl h=>exact pA h (fun _ h=>h) (ah i j eO) hc
 | box h =>
  obtain ⟨b,cs,e,hb,hh,hs,h1,hr⟩:=hc;obtain ⟨hl,hz⟩:=h.spec;exact ⟨b,cs,e,(ah i j eO).trans hb,hh,by omega,fun q hq=>h1 q (by omega),fun q hq=>hz q (by omega) _ _ _ _ _ ah (hr q (by omega))⟩
 | lp he h =>
  subst he;obtain ⟨fn,tmps,D,hb,hh,hn,hr⟩:=hc;refine ⟨fn,tmps,D,(ah i j eO).trans hb,hh,hn,fun p hp=>?_⟩;obtain ⟨x,hx,hz⟩:=h.mem p hp;exact hz _ _ _ _ _ ah (hr _ hx)
def vz (m:List (Nat×Nat)) (H:Hp):Hp→Prop
 | []=>True
 | (i,c0)::r=>(∃j c,cT m i=some j∧dI j H=some c∧Cn m c c0)∧vz m H r
def vz.mem {m:List (Nat×Nat)} {H:Hp}:∀{H0:Hp},vz m H H0→∀i c0,(i,c0)∈H0→∃j c,cT m i=some j∧(j,c)∈H∧Cn m c c0
 | [],_,_,_,h=>by cases h
 | (i,c0)::r,hh,i',c',h=>by
  rcases bj.1 h with h | h
  ·cases h;obtain ⟨j,c,h1,h2,h3⟩:=hh.1;exact ⟨j,c,h1,eX h2,h3⟩
  ·exact hh.2.mem i' c' h
def ug:List (Nat×Nat)→AV→AV
 | [],x=>x
 | p::r,x=>ug r (er 2 p.2 x)
def DA:List (Nat×Nat)→Chunk→Chunk
 | [],c=>c
 | p::r,c=>DA r (o_ p.2 c)
def ko (m n:List (Nat×Nat)):Hp→Hp
 | []=>[]
 | (i,c)::r=>bif (m.any fun p=>aH p.2 i)||(n.any fun p=>aH p.2 i) then ko m n r else (i,DA n c)::ko m n r
def SA:∀{n:List (Nat×Nat)} {β:Nat→Value},(∀j,(∀p,p∈n→p.2≠j)→av j=β j)→∀{x:AV} {u:Value},Rd w F β x u→Rd w F av (ug n x) u
 | [],β,ah,x,u,h=>by
  have:av=β:=funext fun j=>ah j fun p hp=>by cases hp
  rw [this]; exact h
 | p::r,β,ah,x,u,h=>by
  refine SA (n:=r) (x:=er 2 p.2 x) (β:=fun j=>if j=p.2 then av j else β j) (fun j hj=>?_) (sx (id:=p.2) (fun i hi=>if_neg hi) 2 h);show _=if j=p.2 then av j else β j;by_cases yI:j=p.2
  ·rw [if_pos yI]
  ·rw [if_neg yI]; exact ah j fun q hq=>by
    rcases bj.1 hq with rfl | hq
    ·exact fun e=>yI e.symm
    ·exact hj q hq
def erCL_holds {i:Nat}:∀{n:List (Nat×Nat)} {β:Nat→Value},(∀j,(∀p,p∈n→p.2≠j)→av j=β j)→(∀p,p∈n→p.2≠i)→∀{c:Chunk},c.holds w F β i→(DA n c).holds w F av i
 | [],β,ah,_,c,h=>by
  have:av=β:=funext fun j=>ah j fun p hp=>by cases hp
  rw [this]; exact h
 | p::r,β,ah,hi,c,h=>by
  refine erCL_holds (n:=r) (c:=o_ p.2 c) (β:=fun j=>if j=p.2 then av j else β j) (fun j hj=>?_) (fun q hq=>hi q (cr _ hq)) (Iz (id:=p.2) (fun e=>hi p (by simp) e.symm) (fun i hi=>if_neg hi) h);show _=if j=p.2 then av j else β j;by_cases yI:j=p.2
  ·rw [if_pos yI]
  ·rw [if_neg yI]; exact ah j fun q hq=>by
    rcases bj.1 hq with rfl | hq
    ·exact fun e=>yI e.symm
    ·exact hj q hq
def OZ {m n:List (Nat×Nat)} {i:Nat} {c:Chunk}:∀{H:Hp},(i,c)∈ko m n H→∃c0,(i,c0)∈H∧c=DA n c0∧(∀p,p∈m→p.2≠i)∧∀p,p∈n→p.2≠i
 | [],h=>by cases h
 | (k,c0)::r,h=>by
  simp only [ko] at h;cases hb:((m.any fun p=>aH p.2 k)||(n.any fun p=>aH p.2 k)) with
  | true =>
   rw [hb] at h;obtain ⟨c1,h1,h2⟩:=OZ (H:=r) h;exact ⟨c1,cr _ h1,h2⟩
  | false =>
   rw [hb] at h
   rcases bj.1 h with h | h
   ·cases h;simp only [Bool.or_eq_false_iff,pS] at hb;refine ⟨c0,by simp,rfl,fun p hp e=>?_,fun p hp e=>?_⟩
    ·exact hb.1 p hp (by rw [e]; exact iX _)
    ·exact hb.2 p hp (by rw [e]; exact iX _)
   ·obtain ⟨c1,h1,h2⟩:=OZ (H:=r) h;exact ⟨c1,cr _ h1,h2⟩
def s6:List Nat→Bool
 | []=>true
 | x::r=>!(r.any fun y=>aH y x)&&s6 r
def BK:∀{l:List Nat},s6 l=true→l.Nodup
 | [],_=>qG
 | x::r,h=>by
  simp only [s6,bJ,oS,pS] at h;rw [iv];exact ⟨fun hm=>h.1 x hm (iX _),BK h.2⟩
def Cu (m n:List (Nat×Nat)):Bool :=
 (m.all fun p=>pT 1000 p.1)&&(s6 (m.map (·.1))&&(s6 (m.map (·.2))&&((n.all fun p=>eL p.2 1000)&&s6 (n.map (·.2)))))
def kj (m n:List (Nat×Nat)):List (Nat×Nat):=(m.filter fun p=>!(n.any fun q=>aH q.2 p.2))++n
def PY {i i' j:Nat}:∀{m:List (Nat×Nat)},(m.map (·.2)).Nodup→(i,j)∈m→(i',j)∈m→i=i'
 | [],_,h,_=>by cases h
 | p::r,hm,h1,h2=>by
  simp only [jD,iv] at hm
  rcases bj.1 h1 with h1 | h1 <;> rcases bj.1 h2 with h2 | h2
  ·rw [←h2] at h1; cases h1; rfl
  ·exact absurd (dg.2 ⟨_,h2,by rw [←h1]⟩) hm.1
  ·exact absurd (dg.2 ⟨_,h1,by rw [←h2]⟩) hm.1
  ·exact PY hm.2 h1 h2
def S9 {xs ys:List AV} {st:ae} {H0:Hp} {m n:List (Nat×Nat)}
  (hx:iZ m xs ys) (hH:vz m st.H H0) (kP:jB H0=true) (ht:Cu m n=true) {vs:Array Value} (hI:Inv w F β st.H) (hv:∀i,i<xs.length→Rd w F β (xs.getD i .χ) (vs.getD i undef)) :
  xs.length=ys.length∧∃dh,Inv w F dh H0∧(∀i,i<ys.length→Rd w F dh (ys.getD i .χ) (vs.getD i undef)) ∧
   ∀(w':World) (F':Nat→Prop) (av:Nat→Value) (f':Nat→AV) (H1:Hp),jB (gZ (cT (kj m n)) H1++ko m n st.H)=true→Ext w F dh ⟨aF,H0⟩ w' F' av ⟨f',H1⟩ →
    ∃bZ,(∀i j,cT (kj m n) i=some j→bZ j=av i)∧Ext w F β st w' F' bZ ⟨fun t=>ug n (st.f t),gZ (cT (kj m n)) H1++ko m n st.H⟩:=by
 obtain ⟨hl,hz⟩:=hx.spec;simp only [Cu,bJ,ej] at ht;obtain ⟨oD,iP,yQ,Bj,lB⟩:=ht;have iP:=BK iP;have yQ:=BK yQ;have lB:=BK lB
 obtain ⟨dh,BA⟩:∃dh:Nat→Value,∀i j,cT m i=some j→dh i=β j:=by
  refine ⟨fun i=>match cT m i with | some j=>β j | none=>undef,fun i j eO=>?_⟩;simp only [eO]
 have bH:=fun i c0 hm=>hH.mem i c0 hm
 have du:∀b,bD dh H0 b→∃i c0 j c,(i,c0)∈H0∧cT m i=some j∧(j,c)∈st.H∧bQ (β j)=some b:=by
  rintro b ⟨i,c0,h1,hb⟩;obtain ⟨j,c,h2,h3,_⟩:=bH i c0 h1;exact ⟨i,c0,j,c,h1,h2,h3,by rw [←BA i j h2]; exact hb⟩
 have IA:∀b,bD dh H0 b→bD β st.H b:=fun b hb=>by
  obtain ⟨_,_,j,c,_,_,h3,h4⟩:=du b hb;exact ⟨j,c,h3,h4⟩
 have M6:∀i i' j,cT m i=some j→cT m i'=some j→i=i':=fun i i' j h1 h2=>PY yQ (at_mem h1) (at_mem h2)
 have uo:Inv w F dh H0:=by
  refine ⟨hI.cC,fun i c0 h1=>?_,zp kP,fun b hb=>hI.apart b (IA b hb),fun i c i' c' b h1 h2 hb aK=>?_,hI.fh⟩
  ·obtain ⟨j,c,h2,h3,h4⟩:=bH i c0 h1;exact h4.holds BA h2 (hI.holds j c h3)
  ·obtain ⟨j,c,h3,h4,_⟩:=bH i c h1;obtain ⟨j',c',h5,h6,_⟩:=bH i' c' h2;rw [BA i j h3] at hb;rw [BA i' j' h5] at aK;have:=hI.eA j _ j' _ b h4 h6 hb aK;subst this;exact M6 i i' j h3 h5
 refine ⟨hl,dh,uo,fun i hi=>hz i (by omega) w F β dh _ BA (hv i (by omega)),?_⟩;intro w' F' av f' H1 fQ he
 obtain ⟨bZ,acp,Et⟩:∃bZ:Nat→Value,(∀i j,(i,j)∈n→bZ j=av i)∧∀j,(∀p,p∈n→p.2≠j)→bZ j=β j:=by
  refine ⟨fun j=>match cT (n.map fun p=>(p.2,p.1)) j with | some i=>av i | none=>β j,fun i j eO=>?_,fun j hj=>?_⟩
  ·have:cT (n.map fun p=>(p.2,p.1)) j=some i:=G' (by rw [List.map_map]; exact lB) (dg.2 ⟨_,eO,rfl⟩);simp only [this]
  ·cases ha:cT (n.map fun p=>(p.2,p.1)) j with
   | none=>simp only [ha]
   | some i =>
    obtain ⟨p,hp,e⟩:=dg.1 (at_mem ha);cases e;exact absurd rfl (hj p hp)
 have hq:∀i j,cT (kj m n) i=some j→bZ j=av i:=fun i j eO=>by
  have eO:=at_mem eO;simp only [kj,gg,List.mem_filter,oS,pS] at eO
  rcases eO with ⟨h1,h2⟩ | h1
  ·have h3:1000≤i:=by simpa using oD _ h1
   rw [he.gp i h3,BA i j (G' iP h1)];exact Et j fun p hp e=>h2 p hp (by rw [e]; exact iX _)
  ·exact acp i j h1
 have hblk:∀b,b<w.heap.size→(∀i c0 j c,(i,c0)∈H0→cT m i=some j→(j,c)∈st.H→bQ (β j)≠some b)→w'.heap[b]?=w.heap[b]?:=fun b hb bw=>he.block b hb fun ho=>by
  obtain ⟨i,c0,j,c,h1,h2,h3,h4⟩:=du b ho;exact bw i c0 j c h1 h2 h3 h4
 have hF:fZ F w w':=fun b hb=>hblk b (hI.cC b hb) fun i c0 j c _ _ h3 h4=>hI.apart b ⟨j,c,h3,h4⟩ hb
 have nK:∀j c,(j,c)∈ko m n st.H→∃c0,(j,c0)∈st.H∧c=DA n c0∧(∀i,cT m i≠some j)∧bZ j=β j∧∀p,p∈n→p.2≠j:=fun j c hc=>by
  obtain ⟨c0,h1,h2,h3,h4⟩:=OZ hc;exact ⟨c0,h1,h2,fun i hi=>h3 _ (at_mem hi) rfl,Et j h4,h4⟩
 have Us:∀b,bD av H1 b→w.heap.size≤b∨bD dh H0 b:=fun b hb=>he.owned b hb
 have uG:∀b,bD bZ (gZ (cT (kj m n)) H1++ko m n st.H) b→bD av H1 b∨∃j c0,(j,c0)∈st.H∧(∀i,cT m i≠some j)∧bQ (β j)=some b:=by
  rintro b ⟨j,c,hc,hb⟩
  rcases gg.1 hc with hc | hc
  ·obtain ⟨i,c0,h1,h2,_⟩:=mX hc;exact .inl ⟨i,c0,h1,by rw [←hq i j h2]; exact hb⟩
  ·obtain ⟨c0,h1,_,h2,h3,_⟩:=nK j c hc;exact .inr ⟨j,c0,h1,h2,by rw [←h3]; exact hb⟩
 refine ⟨bZ,hq,?_⟩;refine ⟨he.os,he.tape,he.output,he.size,fun b hb bw=>he.block b hb fun ho=>bw (IA b ho),he.mono,fun b hb=>(he.new b hb).imp id fun h=>h.imp id (IA b),fun b hb=>?_,fun t u hu=>?_,?_,fun i hi=>Et i fun p hp e=>?_⟩
 ·rcases uG b hb with h1 | ⟨j,c0,h1,_,h2⟩
  ·exact (Us b h1).imp id (IA b)
  ·exact .inr ⟨j,c0,h1,h2⟩
 ·exact SA Et (hu.frame hF he.mono)
 ·refine ⟨he.inv.cC,fun j c hc=>?_,zp fQ,fun b hb yo=>?_,fun j c j' c' b hc fO hb aK=>?_,he.inv.fh⟩
  ·rcases gg.1 hc with hc | hc
   ·obtain ⟨i,c0,h1,h2,rfl⟩:=mX hc;exact rlC_holds hq h2 (he.inv.holds i c0 h1)
   ·obtain ⟨c0,h1,rfl,h2,h3,h4⟩:=nK j c hc
    exact erCL_holds Et h4 (pz hF he.mono (fun b hb=>hblk b (hI.fI ⟨j,c0,h1,hb⟩) fun i LH j' c' h5 h6 h7 h8=>by
     have:=hI.eA j _ j' _ b h1 h7 hb h8;subst this
     exact h2 i h6) (hI.holds j c0 h1))
  ·rcases uG b hb with h1 | ⟨j,c0,h1,h2,h3⟩
   ·exact he.inv.apart b h1 yo
   ·rcases he.new b yo with h4 | h4 | h4
    ·exact hI.apart b ⟨j,c0,h1,h3⟩ h4
    ·exact absurd (hI.fI ⟨j,c0,h1,h3⟩) (mg.2 h4)
    ·obtain ⟨i,_,j',c',_,h6,h7,h8⟩:=du b h4;have:=hI.eA j _ j' _ b h1 h7 h3 h8;subst this;exact h2 i h6
  ·have R9:∀i c0 j c1,(i,c0)∈H1→bQ (av i)=some b→(j,c1)∈st.H→(∀i,cT m i≠some j)→bQ (β j)=some b→False:=fun i c0 j c1 h1 h2 h3 h4 h5=>by
    rcases Us b ⟨i,c0,h1,h2⟩ with h6 | h6
    ·exact absurd (hI.fI ⟨j,c1,h3,h5⟩) (mg.2 h6)
    ·obtain ⟨i',_,j',c',_,h7,h8,h9⟩:=du b h6;have:=hI.eA j _ j' _ b h3 h8 h5 h9;subst this;exact h4 i' h7
   rcases gg.1 hc with hc | hc <;> rcases gg.1 fO with fO | fO
   ·obtain ⟨i,c0,h1,h2,_⟩:=mX hc;obtain ⟨i',LH,nC,iy,_⟩:=mX fO;rw [hq i j h2] at hb;rw [hq i' j' iy] at aK;have:=he.inv.eA i _ i' _ b h1 nC hb aK;subst this;rw [h2] at iy; exact lP iy
   ·obtain ⟨i,c0,h1,h2,_⟩:=mX hc;obtain ⟨c1,h3,_,h4,h5,_⟩:=nK j' c' fO;rw [hq i j h2] at hb;rw [h5] at aK;exact (R9 i c0 j' c1 h1 hb h3 h4 aK).elim
   ·obtain ⟨i,c0,h1,h2,_⟩:=mX fO;obtain ⟨c1,h3,_,h4,h5,_⟩:=nK j c hc;rw [hq i j' h2] at aK;rw [h5] at hb;exact (R9 i c0 j c1 h1 aK h3 h4 hb).elim
   ·obtain ⟨c1,h3,_,h4,h5,_⟩:=nK j c hc;obtain ⟨pY,h3',_,h4',h5',_⟩:=nK j' c' fO;rw [h5] at hb;rw [h5'] at aK;exact hI.eA j _ j' _ b h3 h3' hb aK
 ·have:p.2<1000:=by simpa [gF] using Bj p hp
  omega
def af.gen {g:Tg} {xs ys:List AV} {st:ae} {H0 H1:Hp} {r:AV} {k:AV→ae→Prop} {m n:List (Nat×Nat)} (h:af P g ys ⟨aF,H0⟩ fun x s=>x=r∧s.H=H1)
  (hx:iZ m xs ys) (hH:vz m st.H H0) (kP:jB H0=true) (ht:Cu m n=true) (fQ:jB (gZ (cT (kj m n)) H1++ko m n st.H)=true)
  (hk:k (rl (cT (kj m n)) 3 r) ⟨fun t=>ug n (st.f t),gZ (cT (kj m n)) H1++ko m n st.H⟩):af P g xs st k:=by
 refine ⟨h.1,fun w F β vs hI hs hv=>?_⟩;obtain ⟨hl,dh,uo,ν,sH⟩:=S9 hx hH kP ht hI hv;refine (h.2 w F dh vs uo (by omega) ν).mono ?_;rintro e w' ⟨v,rfl,x,s,F',av,⟨rfl,ED⟩,hr,he⟩;obtain ⟨bZ,hq,dR⟩:=sH w' F' av s.f H1 fQ (by rw [←ED]; exact he);exact ⟨v,rfl,rl (cT (kj m n)) 3 x,_,F',bZ,hk,zL hq 3 hr,dR⟩
def afU {g n : Nat} {fn : Func} {c : Code} {args : List AV} {H0 H1 : Hp} {r : AV} (hT : bM P T) (dF : P.funcs[g]? = some fn) (dN : (fn.name == "runtime.NumGoroutine") = false) (hb : fn.body = some c) (hn : fn.ntmps = n) (hle : args.length ≤ n)
  (h:Ok P n c ⟨kU args,H0⟩ (sA T fn.results.toList fun x s=>Wk ⟨dW aF 0 x,s.H⟩ ⟨ar [(0,r)],H1⟩)):af P g args ⟨aF,H0⟩ fun x s=>x=r∧s.H=H1:=by
 refine ⟨⟨fn,c,dF,dN,hb⟩,fun w F β vs hI hs hv=>?_⟩;refine (Hh hT dF hb hn hle h hI hs hv).mono ?_;rintro e w' ⟨v,rfl,x,st,F',av,hW,hx,he⟩
 obtain ⟨F2,bZ,_,_,hf,h2⟩:=hW ⟨w,F,β,H0,1,none,.inl rfl,[]⟩ { tmps:=#[v],defers:=[] } w' ⟨F',av,rfl,trivial,fun t=>by
  show Rd w' F' av (bif aH t 0 then x else aF t) _;cases t with
  | zero=>exact hx
  | succ t=>exact .χ,⟨he,fun d hd=>(eH hd).elim,qG,⟨[],rfl⟩⟩⟩
 exact ⟨v,rfl,r,⟨aF,H1⟩,F2,bZ,⟨rfl,rfl⟩,hf 0,h2.x⟩
def Ext.chunks {w0:World} {F0:Nat→Prop} {oR:Nat→Value} {oP:ae} {H H':Hp} (h:Ext w0 F0 oR oP w F β ⟨aF,H⟩) (bH:∀i c,(i,c)∈H'→(∃c0,(i,c0)∈H)∧c.holds w F β i) (hk:(H'.map (·.1)).Nodup):Ext w0 F0 oR oP w F β ⟨aF,H'⟩ where
 os:=h.os
 tape:=h.tape
 output:=h.output
 size:=h.size
 block:=h.block
 mono:=h.mono
 new:=h.new
 owned b hb:=h.owned b (by obtain ⟨i,c,hm,hb⟩:=hb; obtain ⟨⟨c0,h0⟩,_⟩:=bH i c hm; exact ⟨i,c0,h0,hb⟩)
 keep _ _ _:=.χ
 inv:=⟨h.inv.cC,fun i c hm=>(bH i c hm).2,hk,
  fun b ⟨i,c,hm,hb⟩=>by obtain ⟨⟨c0,h0⟩,_⟩:=bH i c hm; exact h.inv.apart b ⟨i,c0,h0,hb⟩,
  fun i c i' c' b hm bV hb aK=>by
   obtain ⟨⟨c0,h0⟩,_⟩:=bH i c hm;obtain ⟨⟨c1,h1⟩,_⟩:=bH i' c' bV
   exact h.inv.eA i c0 i' c1 b h0 h1 hb aK,h.inv.fh⟩
 gp:=h.gp
def XM.chunks {C:Ctx} {ds:List Deferred} {H H':Hp} (h:XM C ds w F β H) (bH:∀i c,(i,c)∈H'→(∃c0,(i,c0)∈H)∧c.holds w F β i) (hk:(H'.map (·.1)).Nodup):XM C ds w F β H' :=
 h.trans ((Ext.refl (st:=⟨aF,H⟩) h.inv).chunks bH hk)
def uM (i d:Nat):Nat→Option Nat:=fun x=>bif aH x i then some d else bif aH x d then none else some x
def Wk.mv {st:ae} {i d:Nat} (hd:eL d 1000=true) (aO:aH d i=false) (hk:jB (gZ (uM i d) st.H)=true):Wk st ⟨fun t=>rl (uM i d) 2 (st.f t),gZ (uM i d) st.H⟩:=fun C a w hr=>by
 obtain ⟨F,β,hs,MT,hf,he⟩:=hr
 have hd:d<1000:=by simpa [gF] using hd
 have aO:d≠i:=fun e=>by rw [e,iX] at aO; cases aO
 let av:Nat→Value:=fun x=>if x=d then β i else β x
 have ah:∀x y,uM i d x=some y→av y=β x:=fun x y h=>by
  unfold uM at h;cases h1:aH x i with
  | true=>rw [h1] at h; cases h; rw [cR h1]; exact if_pos rfl
  | false =>
   rw [h1] at h;cases h2:aH x d with
   | true=>rw [h2] at h; cases h
   | false =>
    rw [h2] at h; cases h
    exact if_neg fun e=>by rw [e,iX] at h2; cases h2
 have M6:∀x x' y,uM i d x=some y→uM i d x'=some y→x=x':=fun x x' y h h'=>by
  unfold uM at h h';cases h1:aH x i <;> cases nC:aH x' i <;> rw [h1] at h <;> rw [nC] at h' <;> simp only [cond_true,cond_false] at h h'
  ·cases h2:aH x d <;> cases iy:aH x' d <;> rw [h2] at h <;> rw [iy] at h' <;> simp_all
  ·cases h2:aH x d <;> rw [h2] at h <;> simp_all
  ·cases iy:aH x' d <;> rw [iy] at h' <;> simp_all
  ·rw [cR h1,cR nC]
 have du:∀b,bD av (gZ (uM i d) st.H) b→bD β st.H b:=by
  rintro b ⟨j,c,hc,hb⟩;obtain ⟨x,c0,h1,h2,_⟩:=mX hc;exact ⟨x,c0,h1,by rw [←ah x j h2]; exact hb⟩
 refine ⟨F,av,hs,MT,fun t=>zL ah 2 (hf t),he.trans (f:=aF) (f':=aF) ⟨rfl,jm.refl _,rfl,bF _,fun _ _ _=>rfl,fun _ h=>h,fun _ h=>.inl h,fun b hb=>.inr (du b hb),fun _ _ _=>.χ,?_,fun x hx=>if_neg (by omega)⟩⟩
 ·refine ⟨he.inv.cC,fun j c hc=>?_,zp hk,fun b hb=>he.inv.apart b (du b hb),fun j c j' c' b hc fO hb aK=>?_,he.inv.fh⟩
  ·obtain ⟨x,c0,h1,h2,rfl⟩:=mX hc;exact rlC_holds ah h2 (he.inv.holds x c0 h1)
  ·obtain ⟨x,c0,h1,h2,_⟩:=mX hc;obtain ⟨x',LH,nC,iy,_⟩:=mX fO;rw [ah x j h2] at hb;rw [ah x' j' iy] at aK;have:=he.inv.eA x _ x' _ b h1 nC hb aK;subst this;rw [h2] at iy; exact lP iy
def Wk.Jl {st:ae} {b q id E K:Nat} {cells:List AV} (Φ:eL id 1000=true) (hb:dI b (gR id st.H)=some (.box cells)) (hq:cells[q]?=some (.v (.slice none 0 0))) :
  Wk st ⟨fun t=>er 2 id (st.f t),(id,.own E K [])::fJ b (.box (cells.set q (.o id))) (gR id st.H)⟩:=fun C a w hr=>by
 obtain ⟨F,β,hs,hd,hf,he⟩:=hr
 have pj:id<1000:=by simpa using Φ
 have q6:Below w.heap.size w w:=Below.refl _ _;have hx:=HI (st:=⟨aF,st.H⟩) (w':=w) (F':=F) (c:=.own E K []) (v:=.slice none 0 0) pj he.inv q6 (fun _ h=>h) (fun _ h=>.inl h) (fun b hb=>by cases hb) (.inl ⟨rfl,none,by simp⟩);have ah:∀i,i≠id→(fun i=>if i=id then Value.slice none 0 0 else β i) i=β i:=fun i hi=>if_neg hi;have h2:=(he.trans hx).Ov;have hmb:(b,Chunk.box cells)∈gR id st.H:=eX hb;refine ⟨F,_,hs,hd,fun t=>sx ah 2 (hf t),h2.chunks (fun i c hm=>?_) ?_⟩
 ·rcases bj.1 hm with hm | hm
  ·cases hm;exact ⟨⟨_,jZ⟩,h2.inv.holds _ _ jZ⟩
  ·rcases mY hm with ⟨rfl,rfl,c0,h0⟩ | ⟨_,h0⟩
   ·refine ⟨⟨c0,cr _ h0⟩,?_⟩;obtain ⟨eV,cs,e,h1,hh,aZ,eZ,fy⟩:=h2.inv.holds i _ (cr _ hmb);refine ⟨eV,cs,e,h1,hh,by simpa using aZ,fun j hj=>eZ j (by simpa using hj),fun j hj=>?_⟩
    have dr:j<cells.length:=by simpa using hj
    by_cases T9:j=q
    ·subst T9
     have e1:(cells.set j (.o id)).getD j .χ=.o id:=by simp [aY,dr]
     have e2:=fy j dr;rw [List.getD_eq_getElem?_getD,hq,Option.getD_some] at e2;rw [e1,e2.bL];exact .o (by simp)
    ·have e1:(cells.set q (.o id)).getD j .χ=cells.getD j .χ:=by simp [aY,List.getElem?_set_ne (Ne.symm T9)]
     rw [e1]; exact fy j dr
   ·exact ⟨⟨c,cr _ h0⟩,h2.inv.holds _ _ (cr _ h0)⟩
 ·have:=h2.inv.keys;simp only [gH,jD] at this ⊢;rw [zS]; exact this
end
end
section
open Go.RowKit Go.Sort Go.Proofs Go.Shelf
section
variable {P:Program}
def ako (P:Program) (f:Nat):Prop :=
 (∀(p:Option Addr) (cap:Nat) (w:World),Calls P f #[.slice p 0 cap] w fun e w'=>e=.returned (.tuple #[])∧w'=w) ∧
 ∀(eV off cap:Nat) (zs:List Int) (w:World),Holds (dv .i64) w eV off zs.toArray→eV<w.heap.size→zs.length<4611686018427387904 →
  Calls P f #[.slice (some ⟨eV,off,none⟩) zs.length cap] w fun e w'=>e=.returned (.tuple #[])∧∃n os,w'=grow (putRow (dv .i64) (Sort.ahead w n) eV off (zs.mergeSort fun x y=>decide (x≤y)).toArray) os
end
variable [M:bK] [G:cL] [R:dK]
section
variable {P:Program}
def RH {vs:Array Value} (h:vs.size=1):vs=#[vs.getD 0 undef]:=by
 apply Array.ext
 ·simp [h]
 ·intro i h1 h2
  have:i=0:=by simp at h2; omega
  subst this; simp [h]
end
end
section
def U_ (x:Int):List Int→List Int
 | []=>[x]
 | y::r=>if x≤y then x::y::r else y::U_ x r
def ahE (l:List Int):List Int:=l.foldr U_ []
def akT {α:Type} (l:List (Int×α)):List Int:=ahE (l.map (·.1))
end
end Go.Cat
set_option linter.all false
namespace Go.CatSeq
open Go Go.RowKit Go.Proofs Go.Shelf Go.Maps Go.Sort
end Go.CatSeq
namespace Go.Cat
open Go.RowKit Go.Proofs Go.Shelf Go.Maps Go.Sort
def Rt (w:World) (sv:Value) (zs:List Int):Prop :=
 (∃a c,sv=.slice a 0 c∧zs=[])∨∃b off cap,sv=.slice (some ⟨b,off,none⟩) zs.length cap∧b<w.heap.size∧∀j,j<zs.length→w.cell? ⟨b,off+j,none⟩=some (.int .i64 (zs[j]?.getD 0))
def akr (P:Program) (k1:Nat):Prop:=∀(Bs:Nat) (sv:Value) (zs:List Int) (w:World),zs.length*8≤140737488351232→Bs<w.heap.size→w.cell? ⟨Bs,0,none⟩=some sv→Rt w sv zs →
 SeqStopsK Fence.wide 2 P k1 #[.pointer (some ⟨Bs,0,none⟩)] (fun x:Int=>#[encZ x]) (QN w.heap.size) (fun ys=>ys=zs) (fun pre=>pre <+: zs) zs.length w
def akq (P:Program) (g k1 E:Nat):Prop:=∀(w:World) (Bm:Nat) (sv:Value) (zs:List Int),w.cell? ⟨Bm,0,none⟩=some sv→Bm<w.heap.size→Rt w sv zs→zs.length*8≤140737488351232 →
 Calls P g #[.func (.func k1) #[] #[.pointer (some ⟨Bm,0,none⟩)]] w fun e w'=>∃v,e=.returned v ∧
  w'.ownsRow w.heap.size E 1 v zs.length ((zs.mergeSort fun x y=>decide (x≤y)).map (dv .i64))∧QN w.heap.size w w'
variable [M:bK] [G:cL] [R:dK] {P:Program}
end Go.Cat
namespace Go.Cat
set_option linter.all false
section
open Go.Sort
class Ld {α:Type} (c:α→α→Option Int):Prop where
 ex:∃cf,oU c cf
def zk {α:Type} (c:α→α→Option Int) (x:α):List α→Option (List α)
 | []=>some [x]
 | y::r=>match c x y,c y x with
  | some a,some b=>if a<0 then (if b<0 then none else some (x::y::r)) else if b<0 then (match zk c x r with | some t=>some (y::t) | none=>none) else none
  | _,_=>none
def tu {α:Type} (c:α→α→Option Int):List α→Option (List α)
 | []=>some []
 | x::r=>match tu c r with
  | some t=>zk c x t
  | none=>none
section
variable {α:Type} {c:α→α→Option Int} {cf:α→α→Int}
def Va (h:oU c cf) (x:α):∀{l r:List α},zk c x l=some r→r.Perm (x::l)∧(l.Pairwise (fun x y=>cf x y<0)→r.Pairwise (fun x y=>cf x y<0))
 | [],r,e=>by cases e; exact ⟨.refl _,fun _=>List.pairwise_singleton _ _⟩
 | y::l,r,e=>by
  simp only [zk,h.1] at e;by_cases h1:cf x y<0
  ·rw [if_pos h1] at e;by_cases h2:cf y x<0
   ·rw [if_pos h2] at e; cases e
   ·rw [if_neg h2] at e; cases e;refine ⟨.refl _,fun hp=>eI.2 ⟨fun z hz=>?_,hp⟩⟩
    rcases bj.1 hz with rfl | hz
    ·exact h1
    ·have h3:=(eI.1 hp).1 z hz;have:=h.2.trans x y z (decide_eq_true h1) (decide_eq_true h3);simpa using this
  ·rw [if_neg h1] at e;by_cases h2:cf y x<0
   ·rw [if_pos h2] at e;cases ht:zk c x l with
    | none=>rw [ht] at e; cases e
    | some t =>
     rw [ht] at e; cases e;obtain ⟨h3,h4⟩:=Va h x ht;refine ⟨((alv y).2 h3).trans (.swap x y l),fun hp=>?_⟩;have gA:=eI.1 hp;refine eI.2 ⟨fun z hz=>?_,h4 gA.2⟩
     rcases bj.1 (h3.mem_iff.1 hz) with rfl | hz
     ·exact h2
     ·exact gA.1 z hz
   ·rw [if_neg h2] at e; cases e
def F8 (h:oU c cf):∀{l r:List α},tu c l=some r→r.Perm l∧r.Pairwise (fun x y=>cf x y<0)
 | [],r,e=>by cases e; exact ⟨.refl _,.nil⟩
 | x::l,r,e=>by
  simp only [tu] at e;cases ht:tu c l with
  | none=>rw [ht] at e; cases e
  | some t =>
   rw [ht] at e;obtain ⟨h1,h2⟩:=F8 h ht;obtain ⟨h3,h4⟩:=Va h x e;exact ⟨h3.trans ((alv x).2 h1),h4 h2⟩
def ak9 (c:α→α→Option Int) (l:List α):Option (List α):=Ω (l.length≤140737488355328) (tu c l)
end
open Classical in
noncomputable def wY {α:Type} (c:α→α→Option Int) (l:List α):Option (List α):=Ω (l.length≤140737488355328) (if ∃cf,oU c cf then tu c l else none)
def ahD {α:Type} {c:α→α→Option Int} {l r:List α} (h:wY c l=some r):l.length≤140737488355328∧∃cf,oU c cf∧tu c l=some r:=by
 unfold wY at h;obtain ⟨hl,h⟩:=aG h;refine ⟨hl,?_⟩;split at h
 ·rename_i hex; exact ⟨_,hex.choose_spec,h⟩
 ·cases h
def Xs {α:Type} {c:α→α→Option Int} [hc:Ld c] {l r:List α} (hl:l.length≤140737488355328) (h:tu c l=some r):wY c l=some r:=by
 unfold wY;rw [ij hl,if_pos hc.ex,h]
end
section
open Go.RowKit
variable [M:bK] [G:cL]
def JS:List (Nat×AV)→(Nat→AV)→Nat→AV
 | [],f=>f
 | (t,x)::r,f=>JS r (dW f t x)
section
variable [R:dK] {P:Program} {w:World} {F:Nat→Prop} {β av:Nat→Value}
def W9:∀(ps:List Nat) (xs:List AV) (vs:List Value) (f:Nat→AV) (tmps:Array Value),ps.length=xs.length→vs.length=xs.length→(∀t,t∈ps→t<tmps.size) →
  (∀i,i<xs.length→Rd w F β (xs.getD i .χ) (vs.getD i undef))→(∀t,Rd w F β (f t) (tmps.getD t undef)) →
  ((ps.zip vs).foldl (fun T p=>T.setIfInBounds p.1 p.2) tmps).size=tmps.size∧∀t,Rd w F β (JS (ps.zip xs) f t) (((ps.zip vs).foldl (fun T p=>T.setIfInBounds p.1 p.2) tmps).getD t undef)
 | [],[],[],f,tmps,_,_,_,_,hf=>⟨rfl,hf⟩
 | p::ps,x::xs,v::vs,f,tmps,h1,h2,h3,h4,hf=>by
  have:=W9 ps xs vs (dW f p x) (tmps.setIfInBounds p v) (by simpa using h1) (by simpa using h2) (fun t ht=>by simpa using h3 t (by simp [ht])) (fun i hi=>h4 (i+1) (by simpa using hi)) fun t=>by
   unfold dW;cases hb:aH t p with
   | true =>
    obtain rfl:=cR hb;have:=h3 t (by simp);simpa [this] using h4 0 (by simp)
   | false =>
    have aO:p≠t:=fun e=>by rw [e,iX] at hb; cases hb
    simpa [Array.getElem?_setIfInBounds_ne aO] using hf t
  refine ⟨by simpa using this.1,fun t=>?_⟩;have:=this.2 t;exact this
 | [],_::_,_,_,_,h1,_,_,_,_=>by cases h1
 | _::_,[],_,_,_,h1,_,_,_,_=>by cases h1
 | _,[],_::_,_,_,_,h2,_,_,_=>by cases h2
 | _,_::_,[],_,_,_,h2,_,_,_=>by cases h2
def AW (i:Nat):Option Nat:=bif pT 1000 i then some i else none
def abj (ah:∀i,1000≤i→av i=β i) {x:AV} {u:Value} (hx:rl AW 2 x=x) (h:Rd w F β x u):Rd w F av x u:=by
 rw [←hx];refine zL (fun i j eO=>?_) 2 h;unfold AW at eO;cases hb:pT 1000 i with
 | true=>rw [hb] at eO; cases eO; exact ah i (An hb)
 | false=>rw [hb] at eO; cases eO
def WX (k:LS→ae→Prop):Exit→ae→Prop
 | .normal,s=>k .iH s
 | .ret,s=>k .ret s
 | .exit i,s=>k (.ex i) s
 | _,_=>False
def ZY (P:Program) (R0:RF) (k:LS→ae→Prop):Exit→ae→Prop:=fun e s=>match e with
 | .normal=>Ok P R0.n R0.body s (WX k)
 | _=>False
def adr {i:Nat} {c:Chunk} {H:Hp} (h:Inv w F β ((i,c)::H)):Inv w F β H :=
 h.sub (fun x hx=>cr _ hx) (iv.1 h.keys).2
def N5 {H:Hp} {l:Nat} {o:Obj} (hI:Inv w F β H) (hF:¬F l) (ho:¬bD β H l):Inv (w.putObj l o) F β H :=
 have ha:fZ F w (w.putObj l o):=fun b hb=>pV fun e=>hF (e▸hb)
 ⟨fun b hb=>by rw [j2]; exact hI.cC b hb,fun i c hm=>pz ha (fun _ h=>h) (fun b hb=>pV fun e=>ho (e▸⟨i,c,hm,hb⟩)) (hI.holds i c hm),hI.keys,hI.apart,hI.eA,hI.fh.at ha⟩
end
section
variable {P:Program}
def akj {l lid:Nat} {R0:RF} {L:List (Nat×AV)} {H H1:Hp} {xs:List AV} {e0:LS} (Nr:R0.ps.toList.length=xs.length) (hpn:(R0.ps.toList.all fun t=>eL t R0.n)=true)
  (hL:(L.map fun p=>(p.1,rl AW 2 p.2))=L) (Ip:pT 1000 lid=true) (fQ:jB ((lid,.lp l e0 R0 L)::H1)=true)
  (h:Ok (R:=dK.yes) P R0.n R0.assign ⟨JS (R0.ps.toList.zip xs) (ar L),H⟩ (ZY (R:=dK.yes) P R0 fun e s=>e=e0∧Wk (R:=dK.yes) ⟨aF,s.H⟩ ⟨ar [],H1⟩)) :
  af P (.y l) xs ⟨aF,(lid,.lp l .iH R0 L)::H⟩ fun x s=>x=.v (.bool e0.wF)∧s.H=(lid,.lp l e0 R0 L)::H1:=by
 letI:dK:=dK.yes
 have Ip:1000≤lid:=An Ip;refine ⟨trivial,fun w F β vs hI hs hv=>?_⟩;obtain ⟨fn,tmps,D,ah,hh,hn,hr⟩:=hI.holds lid _ (jZ ..);have Φ:=kE hh;have Mx:=adr hI;have Be:¬F l:=hI.apart l ⟨lid,_,jZ ..,by rw [ah]; rfl⟩
 have uD:¬bD β H l:=fun ⟨i,c,hm,hb⟩=>by
  have:=hI.eA i c lid _ l (cr _ hm) (jZ ..) hb (by rw [ah]; rfl);subst this;exact (iv.1 hI.keys).1 (dg.2 ⟨_,hm,rfl⟩)
 have hz:(R0.ps.zip vs).foldl (fun tmps (x:Nat×Value)=>tmps.setIfInBounds x.1 x.2) tmps=(R0.ps.toList.zip vs.toList).foldl (fun T p=>T.setIfInBounds p.1 p.2) tmps:=by
  rw [←Array.foldl_toList,Array.toList_zip]
 have acT:∀t,Rd w F β (ar L t) (tmps.getD t undef):=by
  have key:∀L':List (Nat×AV),(∀p,p∈L'→p∈L)→∀t,Rd w F β (ar L' t) (tmps.getD t undef):=by
   intro L';induction L' with
   | nil=>intro _ t; exact .χ
   | cons p r ih =>
    intro hp t;obtain ⟨d,x⟩:=p;simp only [ar];cases hb:aH t d with
    | true =>
     obtain rfl:=cR hb;exact hr (t,x) (hp _ (by simp))
    | false=>exact ih (fun p gA=>hp p (by simp [gA])) t
  exact key L fun _ h=>h
 obtain ⟨aZ,fy⟩:=W9 R0.ps.toList xs vs.toList (ar L) tmps Nr (by simpa using hs) (fun t ht=>by
  have:=ej.1 hpn t ht
  rw [hn]; simpa [gF] using this) (fun i hi=>by simpa using hv i hi) acT
 have hy:=run_yield (P:=P) (args:=vs) hh (by simpa [hs] using Nr.symm);refine ⟨fn,_,R0.assign,R0.body,hy,roundIn_of_wpIn (F:=Fence.wide) trivial ?_⟩;let C1:Ctx:=⟨w,F,β,H,R0.n,some l,.inr trivial,[]⟩;have iQ:Rel C1 ⟨JS (R0.ps.toList.zip xs) (ar L),H⟩ { tmps:=(R0.ps.zip vs).foldl (fun tmps (x:Nat×Value)=>tmps.setIfInBounds x.1 x.2) tmps,defers:=[] } w :=
  ⟨F,β,by rw [hz,aZ,hn],trivial,fun t=>by rw [hz]; exact fy t,⟨Ext.refl Mx,fun d hd=>(eH hd).elim,qG,⟨[],rfl⟩⟩⟩
 refine wpIn_mono (h.h C1 rfl _ w iQ) ?_;rintro e a1 w1 ⟨s1,⟨F1,dh,g1,g2,g3,g4⟩,hq⟩;cases e with
 | normal =>
  have hq:Ok (R:=dK.yes) P R0.n R0.body s1 (WX _):=hq;have Bd:w1.heap[l]?=some (.loop { state:=LS.iH.st,pending:=LS.iH.zC,fn,tmps,params:=R0.ps,assign:=R0.assign,body:=R0.body,defers:=D }):=(g4.x.block l Φ uD).trans hh
  have Ue:¬F1 l:=fun hF=>by
   rcases g4.x.new l hF with h | h | h
   ·exact Be h
   ·exact absurd Φ (mg.2 h)
   ·exact uD h
  have aca:¬bD dh s1.H l:=fun ho=>by
   rcases g4.x.owned l ho with h | h
   ·exact absurd Φ (mg.2 h)
   ·exact uD h
  obtain ⟨ob,Nj⟩:∃ob:Obj,ob=.loop { state:=.busy,pending:=none,fn,tmps,params:=R0.ps,assign:=R0.assign,body:=R0.body,defers:=D }:=⟨_,rfl⟩;refine ⟨w1.putObj l ob,by rw [Nj]; exact run_beginRound Bd rfl,?_⟩;let C2:Ctx:=⟨w.putObj l ob,F,β,H,R0.n,some l,.inr trivial,[]⟩;have Mv:Inv (w1.putObj l ob) F1 dh s1.H:=N5 g4.inv Ue aca
  have au:Ext C2.w C2.F C2.β ⟨aF,C2.H⟩ (w1.putObj l ob) F1 dh ⟨aF,s1.H⟩:=by
   refine ⟨g4.x.os,g4.x.tape,g4.x.output,by show (w.putObj l ob).heap.size≤_; rw [j2,j2]; exact g4.x.size,fun b hb ho=>?_,g4.x.mono,fun b hb=>(g4.x.new b hb).imp id fun h=>h.imp (fun h=>by show (w.putObj l ob).heap.size≤b; rw [j2]; exact h) id,fun b hb=>(g4.x.owned b hb).imp (fun h=>by show (w.putObj l ob).heap.size≤b; rw [j2]; exact h) id,fun _ _ _=>.χ,Mv,g4.x.gp⟩
   have hb:b<w.heap.size:=by have hb:b<(w.putObj l ob).heap.size:=hb; rwa [j2] at hb
   show _=(w.putObj l ob).heap[b]?;by_cases e:b=l
   ·subst e;rw [Lb Φ,Lb (oe Φ g4.x.size)]
   ·rw [pV e,pV e]; exact g4.x.block b hb ho
  have MA:fZ F1 w1 (w1.putObj l ob):=fun b hb=>pV fun e=>Ue (e▸hb)
  have Nv:Rel C2 s1 a1 (w1.putObj l ob):=⟨F1,dh,g1,trivial,fun t=>(g3 t).frame MA fun _ h=>h,⟨au,fun d hd=>by
   obtain ⟨D',q1,q2,q3,q4,q5⟩:=g4.m d hd;refine ⟨D',q1,by show (w.putObj l ob).heap.size≤D'; rw [j2]; exact q2,(pV fun e=>?_).trans q3,q4,q5⟩;have q2:w.heap.size≤D':=q2
   omega,g4.nd,g4.sp⟩⟩
  refine wpIn_mono (hq.h C2 rfl a1 _ Nv) ?_;rintro e a3 w3 ⟨s3,acF,jx⟩;have fin:∀(jump:Option Code) (e:LS),e.st=(if jump.isNone then .ready else .done)→e.zC=jump→jump.isNone=e.wF→(e=e0∧Wk (R:=dK.yes) ⟨aF,s3.H⟩ ⟨ar [],H1⟩) →
    ∃v w',(Instr.endRound l jump).run P w3=.ok v w'∧∃v',Ending.returned v=.returned v'∧∃r aq F' av,(r=.v (.bool e0.wF)∧aq.H=(lid,Chunk.lp l e0 R0 L)::H1)∧Rd w' F' av r v'∧Ext w F β ⟨aF,(lid,Chunk.lp l .iH R0 L)::H⟩ w' F' av aq:=by
   rintro jump e bE dR jL ⟨rfl,hW⟩;obtain ⟨F3,qy,k1,k2,k3,k4⟩:=acF;obtain ⟨F4,CT,_,_,_,k5⟩:=hW C2 a3 w3 ⟨F3,qy,k1,k2,fun _=>.χ,k4⟩;have hx:=k5.x
   have acR:w.heap.size≤w3.heap.size:=by have:=hx.size; have h2:(w.putObj l ob).heap.size≤w3.heap.size:=this; rwa [j2] at h2
   have NC:∀b,b<w.heap.size→¬bD β H b→w3.heap[b]?=(w.putObj l ob).heap[b]?:=fun b hb ho=>hx.block b (by show b<(w.putObj l ob).heap.size; rw [j2]; exact hb) ho;have Ui:∀b,F4 b→F b∨w.heap.size≤b∨bD β H b:=fun b hb=>(hx.new b hb).imp id fun h=>h.imp (fun h=>by have h2:(w.putObj l ob).heap.size≤b:=h; rwa [j2] at h2) id;have Ut:∀b,bD CT H1 b→w.heap.size≤b∨bD β H b:=fun b hb=>(hx.owned b hb).imp (fun h=>by have h2:(w.putObj l ob).heap.size≤b:=h; rwa [j2] at h2) id
   have sO:w3.heap[l]?=some ob:=by rw [NC l Φ uD]; exact Lb Φ
   rw [Nj] at sO;have sH:=run_endRound (P:=P) jump sO;have acb:=kE sO
   have Uf:¬F4 l:=fun hF=>by
    rcases Ui l hF with h | h | h
    ·exact Be h
    ·exact absurd Φ (mg.2 h)
    ·exact uD h
   have M_:¬bD CT H1 l:=fun ho=>by
    rcases Ut l ho with h | h
    ·exact absurd Φ (mg.2 h)
    ·exact uD h
   refine ⟨_,_,sH,_,rfl,_,⟨aF,(lid,Chunk.lp l e R0 L)::H1⟩,F4,CT,⟨rfl,rfl⟩,by rw [jL]; exact .i (.v (.inl rfl)),?_⟩;have Mw:=k5.inv;generalize nM:w3.putObj l _=w4
   have gV:∀b,b≠l→w4.heap[b]?=w3.heap[b]?:=fun b hb=>by rw [←nM]; exact pV hb
   have D8:Inv w4 F4 CT H1:=by rw [←nM]; exact N5 Mw Uf M_
   have IL:CT lid=.pointer (some ⟨l,0,none⟩):=(hx.gp lid Ip).trans ah
   have haF:fZ F w w4:=fun b hb=>by
    have aO:b≠l:=fun e=>Be (e▸hb);rw [gV b aO,NC b (Mx.cC b hb) (fun ho=>Mx.apart b ho hb),pV aO]
   have uF:w4.os=w.os:=by rw [←nM]; exact hx.os
   have NI:jm w w4:=by rw [←nM]; exact hx.tape
   have hou:w4.output=w.output:=by rw [←nM]; exact hx.output
   have acS:w.heap.size≤w4.heap.size:=by rw [←nM,j2]; exact acR
   refine ⟨uF,NI,hou,acS,fun b hb ho=>?_,hx.mono,fun b hb=>(Ui b hb).imp id fun h=>h.imp id fun ⟨i,c,hm,hb⟩=>⟨i,c,cr _ hm,hb⟩,fun b ⟨i,c,hm,hb⟩=>?_,fun _ _ _=>.χ,⟨D8.cC,fun i c hm=>?_,zp fQ,fun b ⟨i,c,hm,hb⟩ yo=>?_,fun i c i' c' b hm bV hb aK=>?_,D8.fh⟩,hx.gp⟩
   ·have aO:b≠l:=fun e=>ho ⟨lid,_,jZ ..,by rw [ah,e]; rfl⟩;rw [gV b aO,NC b hb (fun ⟨i,c,hm,hb⟩=>ho ⟨i,c,cr _ hm,hb⟩),pV aO]
   ·rcases bj.1 hm with hm | hm
    ·cases hm;exact .inr ⟨lid,_,jZ ..,by have h9:CT lid=β lid:=hx.gp lid Ip; rw [←h9]; exact hb⟩
    ·exact (Ut b ⟨i,c,hm,hb⟩).imp id fun ⟨i,c,hm,hb⟩=>⟨i,c,cr _ hm,hb⟩
   ·rcases bj.1 hm with hm | hm
    ·cases hm;refine ⟨fn,tmps,D,IL,?_,hn,fun p hp=>?_⟩
     ·rw [←nM,Lb acb,bE,dR]
     ·have hpe:rl AW 2 p.2=p.2:=by
       have key:∀L':List (Nat×AV),(L'.map fun p=>(p.1,rl AW 2 p.2))=L'→∀p,p∈L'→rl AW 2 p.2=p.2:=by
        intro L';induction L' with
        | nil=>intro _ p hp; cases hp
        | cons q r ih =>
         intro he p hp;rw [jD,List.cons.injEq] at he
         rcases bj.1 hp with rfl | hp
         ·exact congrArg Prod.snd he.1
         ·exact ih he.2 p hp
       exact key L hL p hp
      exact abj (fun i hi=>hx.gp i hi) hpe ((hr p hp).frame haF hx.mono)
    ·exact D8.holds i c hm
   ·rcases bj.1 hm with hm | hm
    ·cases hm;rw [IL] at hb; cases hb;exact Uf yo
    ·exact D8.apart b ⟨i,c,hm,hb⟩ yo
   ·rcases bj.1 hm with hm | hm <;> rcases bj.1 bV with bV | bV
    ·cases hm; cases bV; rfl
    ·cases hm;rw [IL] at hb; cases hb;exact (M_ ⟨i',c',bV,aK⟩).elim
    ·cases bV;rw [IL] at aK; cases aK;exact (M_ ⟨i,c,hm,hb⟩).elim
    ·exact D8.eA i c i' c' b hm bV hb aK
  cases e with
  | normal=>exact fin none .iH rfl rfl rfl jx
  | ret=>exact fin (some .ret) .ret rfl rfl rfl jx
  | exit i=>exact fin (some (.exit i)) (.ex i) rfl rfl rfl jx
  | goto t=>exact jx.elim
  | panic ch=>exact jx.elim
  | outgrown=>exact jx.elim
 | exit id=>exact hq.elim
 | goto t=>exact hq.elim
 | ret=>exact hq.elim
 | panic ch=>exact hq.elim
 | outgrown=>exact hq.elim
def tj (n:Nat):Code→List RF
 | .seq a b=>tj n a++tj n b
 | .cond _ a b=>tj n a++tj n b
 | .block _ c=>tj n c
 | .loop c=>tj n c
 | .scope c=>tj n c
 | .rangeFunc _ ps a b=>⟨ps,a,b,n⟩::(tj n a++tj n b)
 | _=>[]
def Fy (e:LS) (s:ae) (Q:Exit→ae→Prop):Prop:=match e with
 | .iH=>Q .normal s
 | .ret=>Q .ret s
 | .ex i=>Q (.exit i) s
 | .LG=>False
section
variable {ρ:Type} {X Y:Option ρ} {r:ρ} {e:LS} {s:ae} {Q:Exit→ae→Prop}
def agi (h:(if e=.iH then X else Y)=some r) (y:X=some r→Q .normal s) (n:Y=some r→Fy e s Q):Fy e s Q:=by
 by_cases he:e=.iH
 ·rw [if_pos he] at h; subst he; exact y h
 ·rw [if_neg he] at h; exact n h
def agj (h:(if e=.ret then X else Y)=some r) (y:X=some r→Q .ret s) (n:Y=some r→Fy e s Q):Fy e s Q:=by
 by_cases he:e=.ret
 ·rw [if_pos he] at h; subst he; exact y h
 ·rw [if_neg he] at h; exact n h
end
def vw.mem {f:Nat→AV}:∀{L:List (Nat×AV)},vw f L→∀p,p∈L→Le (f p.1) p.2
 | [],_,_,h=>by cases h
 | (t,x)::r,hh,p,h=>by
  rcases bj.1 h with h | h
  ·subst h; exact hh.1
  ·exact hh.2.mem p h
def Ok.rangeFunc {n lid gf:Nat} {g:Operand} {ps:Array Tmp} {assign body:Code} {R0:RF} {cs:List AV} {L:List (Nat×AV)} {st:ae} {Q:Exit→ae→Prop} (hR0:R0=⟨ps,assign,body,n⟩)
  (pj:eL lid 1000=true) (hg:ev (fun t=>er 2 lid (st.f t)) g=.c (.func gf) [] cs) (hL:vw (fun t=>er 2 lid (st.f t)) L)
  (h:∀l,af P (.f gf) (.c (.yield l) [] []::cs) ⟨fun t=>er 2 lid (st.f t),(lid,.lp l .iH R0 L)::gR lid st.H⟩ fun _ s=>∃e R' L',dI lid s.H=some (.lp l e R' L')∧Fy e ⟨s.f,ow lid s.H⟩ Q) :
  Ok (R:=dK.no) P n (.rangeFunc g ps assign body) st Q:=by
 letI:dK:=dK.no
 refine ⟨fun C hn a w iQ=>?_⟩
 have pj:lid<1000:=by simpa using pj
 have EC:C.ro=none:=C.EC.resolve_right fun h=>h;obtain ⟨F,β,hs,_,hf,he⟩:=iQ;refine wpIn_rangeFunc fun fn _=>?_;have acG:(fM C.ro).round=none:=EC;rw [acG];obtain ⟨W1,jg⟩:∃W1,(w.alloc (.deferred (some []))).alloc (.loop { state:=.ready,pending:=none,fn,tmps:=a.tmps,params:=ps,assign,body,defers:=w.heap.size })=W1:=⟨_,rfl⟩
 have Mz:W1.heap[w.heap.size+1]?=some (.loop { state:=.ready,pending:=none,fn,tmps:=a.tmps,params:=ps,assign,body,defers:=w.heap.size }):=by
  rw [←jg]; have:=ZF (w.alloc (.deferred (some []))) (.loop { state:=.ready,pending:=none,fn,tmps:=a.tmps,params:=ps,assign,body,defers:=w.heap.size }); rwa [World.size_alloc] at this
 have qY:W1.heap[w.heap.size]?=some (.deferred (some [])):=by
  rw [←jg]; exact (QO _ _ _ (by simp)).trans (ZF w _)
 have hold:∀b,b<w.heap.size→W1.heap[b]?=w.heap[b]?:=fun b hb=>by
  rw [←jg]; exact (QO _ _ _ (by simp; omega)).trans (QO _ _ _ hb)
 have akN:W1.heap.size=w.heap.size+2:=by rw [←jg]; simp
 let bZ:Nat→Value:=fun i=>if i=lid then .pointer (some ⟨w.heap.size+1,0,none⟩) else β i;have hI:=he.inv;have MA:fZ F w W1:=fun b hb=>hold b (hI.cC b hb);have zi:∀i,i≠lid→bZ i=β i:=fun i hi=>if_neg hi;have Nt:∀t,Rd W1 F bZ (er 2 lid (st.f t)) (a.tmps.getD t undef):=fun t=>sx zi 2 ((hf t).frame MA fun _ h=>h)
 have jJ:Ext w F β ⟨st.f,st.H⟩ W1 F bZ ⟨fun t=>er 2 lid (st.f t),(lid,.lp (w.heap.size+1) .iH R0 L)::gR lid st.H⟩:=by
  refine p6 pj hI (by rw [←jg]; rfl) (by rw [←jg]; exact ⟨rfl,fun _=>bF _⟩) (by rw [←jg]; rfl) (by omega) (fun b hb _=>hold b hb) (fun i c' b _ hm hb=>hold b (hI.fI ⟨i,c',hm,hb⟩)) (fun b hb=>.inl ?_) ?_
  ·simp only [bQ,GN] at hb; omega
  ·rw [hR0];exact ⟨fn,a.tmps,w.heap.size,if_pos rfl,Mz,by show a.tmps.size=n; rw [hs,hn],fun p hp=>hL.mem p hp _ _ _ _ (Nt p.1)⟩
 have hIb:=jJ.inv
 have hgv:Rd W1 F bZ (.c (.func gf) [] cs) (a.eval g):=by rw [←hg]; exact AQ Nt g
 obtain ⟨us,ws,gz,fB,NR,_,hwr⟩:=hgv.nt;have e1:us=#[]:=tM (by simpa using fB);subst e1;have hc:=h (w.heap.size+1);obtain ⟨⟨fn0,c0,dF,dN,yt⟩,abD⟩:=hc
 have rk : ¬ fn0.name = "runtime.NumGoroutine" := by simpa using dN
 refine ⟨w.heap.size+1,[{ target:=.collected w.heap.size,args:=#[] }],W1,{ target:=.fn (.func gf) ws,args:=#[.func (.yield (w.heap.size+1)) #[] #[]] },W1,gf,#[.func (.yield (w.heap.size+1)) #[] #[]]++ws,W1,?_,?_,fun _ _=>trivial,?_,fun h=>(by cases h),?_⟩
 ·rw [←jg]; exact run_enterLoop_outer _ _ _ _ _
 ·simp only [resolve,gz];simp [go_sem]
 ·simp [invoke,callFunc,dF,rk,yt]
 refine vI (Calls.mono (abD W1 F bZ _ hIb (by simp [NR]; omega) fun i hi=>?_) ?_)
 ·cases i with
  | zero =>
   have h0:(#[Value.func (Fn.yield (w.heap.size+1)) #[] #[]]++ws).getD 0 undef=.func (.yield (w.heap.size+1)) #[] #[]:=by simp [pP]
   rw [h0];exact .i (.c rfl rfl (fun i hi=>absurd hi (alu _)) (fun i hi=>absurd hi (alu _)))
  | succ i =>
   have hi:i<cs.length:=by simpa using hi
   have h2:i<ws.size:=by omega
   have:=hwr i hi;simpa [pP,h2,aY] using this
 rintro e w' ⟨v,rfl,r,s,F',av,⟨e,R',L',ab2,hq⟩,hr,hx⟩;have hm:=eX ab2;obtain ⟨SQ,XK,D',iT,qb,_,_⟩:=hx.inv.holds lid _ hm
 have aO:e.st≠.busy:=by cases e <;> first | (intro h; cases h; done) | exact hq.elim
 have sH:=run_endLoop (P:=P) qb aO;obtain ⟨ob,Nj⟩:∃ob:Obj,w'.putObj (w.heap.size+1) ob=w'.putObj (w.heap.size+1) (.loop { state:=.exhausted,pending:=e.zC,fn:=SQ,tmps:=XK,params:=R'.ps,assign:=R'.assign,body:=R'.body,defers:=D' }):=⟨_,rfl⟩;have sP:=kE qb;have uD:bD av s.H (w.heap.size+1):=⟨lid,_,hm,by rw [iT]; rfl⟩;have Be:¬F' (w.heap.size+1):=hx.inv.apart _ uD
 have MR:∀b,bD av (ow lid s.H) b→bD av s.H b∧b≠w.heap.size+1:=fun b ⟨i,c,rh,hb⟩=>by
  obtain ⟨h1,h2⟩:=vN.1 rh;exact ⟨⟨i,c,h1,hb⟩,fun e=>h2 (hx.inv.eA i c lid _ b h1 hm hb (by rw [iT,e]; rfl))⟩
 generalize nM:w'.putObj (w.heap.size+1) (.loop { state:=.exhausted,pending:=e.zC,fn:=SQ,tmps:=XK,params:=R'.ps,assign:=R'.assign,body:=R'.body,defers:=D' })=w4
 have abY:(Instr.endLoop (w.heap.size+1)).run P w'=.ok e.zC w4:=by rw [sH,←nM]
 have gV:∀b,b≠w.heap.size+1→w4.heap[b]?=w'.heap[b]?:=fun b hb=>by rw [←nM]; exact pV hb
 have Mw:Inv w4 F' av (ow lid s.H):=by rw [←nM]; exact N5 (hx.inv.ow lid) Be fun ho=>(MR _ ho).2 rfl
 have ha4:fZ F' w' w4:=fun b hb=>gV b fun e=>Be (e▸hb);have hd4:Ext w' F' av ⟨aF,s.H⟩ w4 F' av ⟨aF,ow lid s.H⟩ :=
  ⟨by rw [←nM]; rfl,by rw [←nM]; exact ⟨rfl,fun _=>bF _⟩,by rw [←nM]; rfl,by rw [←nM,j2]; exact bF _,fun b _ ho=>gV b fun e=>ho (e▸uD),fun _ h=>h,fun _ h=>.inl h,fun b ho=>.inr (MR b ho).1,fun _ _ _=>.χ,Mw,fun _ _=>rfl⟩
 have j8:=((he.trans jJ).trans hx.no).trans hd4
 have Ms:¬bD bZ ((lid,Chunk.lp (w.heap.size+1) .iH R0 L)::gR lid st.H) w.heap.size:=fun ⟨i,c,rh,hb⟩=>by
  rcases bj.1 rh with rh | rh
  ·cases rh;rw [show bZ lid=.pointer (some ⟨w.heap.size+1,0,none⟩) from if_pos rfl] at hb;simp only [bQ,GN] at hb; omega
  ·obtain ⟨h1,c1,h2,_⟩:=im rh;rw [zi i h1] at hb;exact absurd (hI.fI ⟨i,c1,h2,hb⟩) (Nat.lt_irrefl _)
 have Nw:Rel C ⟨s.f,ow lid s.H⟩ { a with defers:=[{ target:=.collected w.heap.size,args:=#[] }]++a.defers } w4:=by
  have jP:C.ms ([{ target:=.collected w.heap.size,args:=#[] }]++a.defers)=[{ target:=.collected w.heap.size,args:=#[] }]++C.ms a.defers:=Ctx.ad5 he.sp;refine ⟨F',av,hs,trivial,fun t=>((hx.keep t _ (Nt t)).frame ha4 fun _ h=>h),j8.x,fun d hd=>?_,?_,?_⟩
  ·rw [jP] at hd
   rcases gg.1 hd with hd | hd
   ·obtain rfl:=dD.1 hd;refine ⟨w.heap.size,rfl,he.x.size,?_,fun hF=>?_,fun ho=>?_⟩
    ·rw [gV _ (by omega),hx.block _ (by omega) Ms,qY]
    ·rcases hx.new _ hF with h | h | h
     ·exact absurd (hI.cC _ h) (Nat.lt_irrefl _)
     ·omega
     ·exact Ms h
    ·rcases hx.owned _ (MR _ ho).1 with h | h
     ·omega
     ·exact Ms h
   ·exact j8.m d hd
  ·rw [jP];refine List.nodup_append.2 ⟨by simp,he.nd,fun x Ξ y hy e=>?_⟩;obtain rfl:=dD.1 Ξ;subst e;obtain ⟨D2,q1,_,q3,_⟩:=he.m _ hy;have:=kE q3;simp only [Deferred.mk.injEq,alw] at q1;omega
  ·obtain ⟨l,hl⟩:=he.sp;exact ⟨_::l,by rw [hl]; rfl⟩
 refine ⟨e.zC,w4,abY,?_⟩;cases e with
 | iH=>exact ⟨_,Nw,hq⟩
 | ret=>exact wpIn_ret ⟨_,Nw,hq⟩
 | ex i=>exact wpIn_exit ⟨_,Nw,hq⟩
 | LG=>exact hq.elim
end
end
section
open Go.RowKit
def R0 {α:Type} {x:Option α}:cm x x:=cm.refl x
def I0 {α:Type} {p:Prop} [Decidable p] {x y x' y':Option α} (h:cm x y) (h':cm x' y'):cm (if p then x else x') (if p then y else y'):=cm.ite h h'
def lr {a:AV}:Le a a:=fun _ _ _ _ h=>h
def Q0:True:=True.intro
def Q1 {a:AV}:Le a a∧True:=⟨lr,Q0⟩
def Q2 {a b:AV}:Le a a∧Le b b∧True:=⟨lr,Q1⟩
def Q3 {a b c:AV}:Le a a∧Le b b∧Le c c∧True:=⟨lr,Q2⟩
def Q4 {a b c d:AV}:Le a a∧Le b b∧Le c c∧Le d d∧True:=⟨lr,Q3⟩
def Q5 {a b c d e:AV}:Le a a∧Le b b∧Le c c∧Le d d∧Le e e∧True:=⟨lr,Q4⟩
def Q6 {a b c d e f:AV}:Le a a∧Le b b∧Le c c∧Le d d∧Le e e∧Le f f∧True:=⟨lr,Q5⟩
def Q7 {a b c d e f g:AV}:Le a a∧Le b b∧Le c c∧Le d d∧Le e e∧Le f f∧Le g g∧True:=⟨lr,Q6⟩
def Q8 {a b c d e f g h:AV}:Le a a∧Le b b∧Le c c∧Le d d∧Le e e∧Le f f∧Le g g∧Le h h∧True:=⟨lr,Q7⟩
def hr {c:Chunk}:∃c0,some c=some c0∧iw c0 c:=⟨_,rfl,.refl _⟩
def J1 {a:Chunk}:(∃c0,some a=some c0∧iw c0 a)∧True:=⟨⟨_,rfl,.refl _⟩,Q0⟩
def J2 {a b:Chunk}:(∃c0,some a=some c0∧iw c0 a)∧(∃c0,some b=some c0∧iw c0 b)∧True:=⟨⟨_,rfl,.refl _⟩,J1⟩
def J3 {a b c:Chunk}:(∃c0,some a=some c0∧iw c0 a)∧(∃c0,some b=some c0∧iw c0 b)∧(∃c0,some c=some c0∧iw c0 c)∧True:=⟨⟨_,rfl,.refl _⟩,J2⟩
def J4 {a b c d:Chunk}:(∃c0,some a=some c0∧iw c0 a)∧(∃c0,some b=some c0∧iw c0 b)∧(∃c0,some c=some c0∧iw c0 c)∧(∃c0,some d=some c0∧iw c0 d)∧True:=⟨⟨_,rfl,.refl _⟩,J3⟩
def sj {α:Type} {a b:α} (h:some a=some b):b=a:=(lP h).symm
section
variable [M:bK] [G:cL] [R:dK]
variable {P:Program} {n:Nat} {st:ae} {Q:Exit→ae→Prop} {T:TT}
def wT {c:Code} (L:List (Nat×AV)) (H':Hp) (a:vw st.f L) (b:xB st.H H') (k:jB H'=true) (h:Ok P n c ⟨ar L,H'⟩ Q):Ok P n c st Q:=Ok.wk (Wk.tab a b k) h
def Sg {id:Nat} {ops:Array Oper} {y:Code} (hT:bM P T) (h:iV P T n ops ops.toList st (nx P n y Q .normal)):Ok P n (.seq (.region id ops false) y) st Q:=Ok.seq (Ok.region hT h)
def cn {x y:Code} {ρ:Type} {X Y:Option ρ} {r:ρ} (d:Nat) (b:Bool) (hb:st.f d=.v (.bool b)) (h:(if b=true then X else Y)=some r) (yes:b=true→X=some r→Ok P n x st Q) (no:b=false→Y=some r→Ok P n y st Q):Ok P n (.cond (.tmp d) x y) st Q:=Ok.cond hb h yes no
def sq {x y:Code} (h:Ok P n x st (nx P n y Q)):Ok P n (.seq x y) st Q:=Ok.seq h
def bl {id:Nat} {c:Code} (h:Ok P n c st (bk id Q)):Ok P n (.block id c) st Q:=Ok.block h
def sk (h:Q .normal st):Ok P n .skip st Q:=Ok.skip h
def rt (h:Q .ret st):Ok P n .ret st Q:=Ok.ret h
def xt {id:Nat} (h:Q (.exit id) st):Ok P n (.exit id) st Q:=Ok.exit h
def wt {L:List (Nat×AV)} {H':Hp} (hL:vw st.f L) (hH:xB st.H H') (hk:jB H'=true):Wk st ⟨ar L,H'⟩:=Wk.tab hL hH hk
def po {g : Nat} {fn : Func} {args : List AV} {r : AV} (hT : bM P T) (n : Nat) (dF : P.funcs[g]? = some fn) (dN : (fn.name == "runtime.NumGoroutine") = false) (hb : fn.body = some (fn.body.getD .skip)) (hn : fn.ntmps = n) (hle : pT args.length n = true)
  (h:Ok P n (fn.body.getD .skip) ⟨kU args,[]⟩ (sA T fn.results.toList fun x st=>Fz st.H x r)):Pure P g args r:=af0 hT dF dN hb hn (An hle) h
def pw {g E K : Nat} {fn : Func} {args : List AV} {rows : List (List AV)} (hT : bM P T) (n : Nat) (dF : P.funcs[g]? = some fn) (dN : (fn.name == "runtime.NumGoroutine") = false) (hb : fn.body = some (fn.body.getD .skip)) (hn : fn.ntmps = n) (hle : pT args.length n = true)
  (h:Ok P n (fn.body.getD .skip) ⟨kU args,[]⟩ (sA T fn.results.toList (Lg E K rows))):i_ P g args E K rows:=afZ hT dF dN hb hn (An hle) h
end
section
variable [M:bK] [G:cL]
variable {m:List (Nat×Nat)} {x x2 x3 x4:AV} {xs ys:List AV}
def n1 (t:iZ m xs ys) (h:kb x=true:=by rfl):iZ m (x::xs) (x::ys):=.cons (Ln.dG h) t
def n2 (t:iZ m xs ys) (h:kb x=true:=by rfl) (h2:kb x2=true:=by rfl):iZ m (x::x2::xs) (x::x2::ys):=n1 (n1 t h2) h
def n4 (t:iZ m xs ys) (h:kb x=true:=by rfl) (h2:kb x2=true:=by rfl) (h3:kb x3=true:=by rfl) (h4:kb x4=true:=by rfl):iZ m (x::x2::x3::x4::xs) (x::x2::x3::x4::ys):=n2 (n2 t h3 h4) h h2
def VK:∀{xs:List AV},xs.all kb=true→iZ m xs xs
 | [],_=>.nil
 | x::xs,h=>by
  rw [List.all_cons,bJ] at h;exact .cons (Ln.dG h.1) (VK h.2)
def nq (h:xs.all kb=true:=by rfl):iZ m xs xs:=VK h
def l1 (t:iL xs ys):iL (x::xs) (x::ys):=.cons (Le.refl _) t
def l2 (t:iL xs ys):iL (x::x2::xs) (x::x2::ys):=l1 (l1 t)
def l4 (t:iL xs ys):iL (x::x2::x3::x4::xs) (x::x2::x3::x4::ys):=l2 (l2 t)
def lz:iL xs xs:=iL.refl xs
end
end
section
open Go.RowKit Go.Sort Go.Proofs
variable [M:bK] [G:cL] [R:dK]
def ah7 {α:Type} {cf:α→α→Int} (hw:SWO (fun x y=>decide (cf x y<0))) {l r s:List α} (h1:r.Perm l) (h2:r.Pairwise (fun x y=>cf x y<0)) (h3:s.Perm l) (h4:s.Pairwise (fun x y=>¬cf y x<0)):s=r:=by
 have abv:∀{x y:α},cf x y<0→¬cf y x<0:=fun {x y} h1 h2=>by
  have:=hw.trans x y x (decide_eq_true h1) (decide_eq_true h2);have hi:=hw.irrefl x;rw [hi] at this; cases this
 have MM:∀a,a∈r→∀b,b∈r→a=b∨cf a b<0∨cf b a<0:=fun a ha b hb=>by
  obtain ⟨i,hi,rfl⟩:=C6.1 ha;obtain ⟨j,hj,rfl⟩:=C6.1 hb;have hp:=List.pairwise_iff_getElem.1 h2
  rcases Nat.lt_trichotomy i j with h | h | h
  ·exact .inr (.inl (hp i j hi hj h))
  ·subst h; exact .inl rfl
  ·exact .inr (.inr (hp j i hj hi h))
 refine List.Perm.eq_of_pairwise (le:=fun x y=>¬cf y x<0) (fun a b ha hb jI hba=>?_) h4 (h2.imp fun h=>abv h) (h3.trans h1.symm)
 rcases MM a ((h3.trans h1.symm).mem_iff.1 ha) b hb with h | h | h
 ·exact h
 ·exact absurd h hba
 ·exact absurd h jI
section
variable {P:Program}
def Wy {f k E g:Nat} {α:Type} {enc:α→List AV} {c:α→α→Option Int} {l r:List α} (hS:G4 P f k) (hf:pW P f)
  (hk:∀x,(enc x).length=k) (da:∀x y n,c x y=some n→@Pure bK.yes G P g [.a (enc x),.a (enc y)] (.v (.int .i64 n)))
  (eg:∀args w,(callFunc g args).run P w=.ok (.enter g args) w) (h:wY c l=some r) :
  mr P f [.o 1000,.c (.func g) [] []] (.own E k (l.map enc)) (fun x c=>x=.t []∧c=.own E k (r.map enc)):=by
 obtain ⟨gk,cf,hc,bU⟩:=ahD h;obtain ⟨UH,lC⟩:=F8 hc bU;refine ⟨hf,fun w F β vs hI hs jj=>?_⟩;have h0:=jj 0 (Nat.zero_lt_succ _);have h1:=jj 1 (Nat.lt_succ_self _);obtain ⟨a,n,cap,ah,e0⟩:=Rd.jW (id:=1000) h0;obtain ⟨us,ws,e1,fB,NR,_⟩:=Rd.nt (fn:=.func g) (fs:=[]) (cs:=[]) h1;have NM:us=#[]:=tM (by simpa using fB);have ac7:ws=#[]:=tM (by simpa using NR);subst NM; subst ac7
 have acV:vs=#[.slice a n cap,.func (.func g) #[] #[]]:=by have:=RI (vs:=vs) (by simpa using hs); rw [e0,e1] at this; exact this
 subst acV;have hlen:=UH.length_eq;have Nu:∀W:World,∀F:Nat→Prop,bf W F (.t []) (.tuple #[]):=fun W F=>.t rfl fun i hi=>absurd hi (by simp);have hh:=hI.holds 1000 (.own E k (l.map enc)) (by simp)
 rcases hh with ⟨hr,a',iT⟩ | ⟨b,cp,cur,iT,TM,hb,nJ,nE,fX,EB,eM⟩
 ·have hl:l=[]:=by simpa using hr
  subst hl;rw [iT] at ah; cases ah;have c_:r=[]:=qD (by simpa using hlen);refine (hS.1 _ _ _ w).mono ?_;rintro e w' ⟨rfl,rfl⟩;exact ⟨_,rfl,_,_,F,⟨rfl,rfl⟩,Nu _ _,rfl,jm.refl _,rfl,bF _,fun _ _ _=>rfl,fun _ h=>h,fun _ h=>.inl h,rfl,.inl ⟨by rw [c_]; rfl,_,iT⟩⟩
 ·have Iq:(l.map enc).length=l.length:=ay _;rw [Iq] at iT nJ;rw [iT] at ah
  obtain ⟨ea,en,ec⟩:some (⟨b,0,none⟩:Addr)=a∧l.length=n∧cp=cap:=by simpa using ah
  subst ea; subst en; subst ec;have blt:b<w.heap.size:=kE hb
  have kJ:bQ (β 1000)=some b:=by
   rw [iT]
   have h0:aH cp 0=false:=by cases cp <;> first | rfl | omega
   simp [bQ,h0]
  have hnF:¬F b:=hI.apart b ⟨1000,.own E k (l.map enc),by simp,kJ⟩;let A:Type:={ p:List Value×α // p.1.length=k∧(∀v,v∈p.1→v.oneCell'=true)∧∀j,j<k→bf w F ((enc p.2).getD j .χ) (p.1.getD j undef) };let ev:A→List Value:=fun p=>p.1.1;have jy:∀i,(hi:i<l.length)→(((gu k).map fun j=>cur.getD (i*k+j) undef),l[i]).1.length=k∧(∀v,v∈(((gu k).map fun j=>cur.getD (i*k+j) undef),l[i]).1→v.oneCell'=true) ∧
    ∀j,j<k→bf w F ((enc (((gu k).map fun j=>cur.getD (i*k+j) undef),l[i]).2).getD j .χ) ((((gu k).map fun j=>cur.getD (i*k+j) undef),l[i]).1.getD j undef):=fun i hi=>by
   have e2:(l.map enc).getD i []=enc l[i]:=by simp [aY,hi]
   refine ⟨by simp,fun v hv=>?_,fun j hj=>?_⟩
   ·obtain ⟨j,hj,rfl⟩:=dg.1 hv;exact (eM i j (by simpa using hi) (List.mem_range.1 hj)).1
   ·have:=(eM i j (by simpa using hi) hj).2;rw [e2] at this
    have e3:((gu k).map fun j=>cur.getD (i*k+j) undef).getD j undef=cur.getD (i*k+j) undef:=by simp [aY,hj]
    dsimp only;rw [e3]; exact this
  let l':List A:=List.ofFn fun i:Fin l.length=>(⟨(((gu k).map fun j=>cur.getD (i.1*k+j) undef),l[i.1]),jy i.1 i.2⟩:A)
  have uB:l'.length=l.length:=by simp [l']
  have aci:l'.map (fun p=>p.1.2)=l:=by
   apply List.ext_getElem (by simp [l']);intro i h1 h2;simp [l']
  rcases oT l.length with hz | rp
  ·-- nothing to be sorted
   have Ep:l=[]:=qD hz;subst Ep;have c_:r=[]:=qD (by simpa using hlen);refine (hS.1 _ _ _ w).mono ?_;rintro e w' ⟨rfl,rfl⟩;exact ⟨_,rfl,_,_,F,⟨rfl,rfl⟩,Nu _ _,rfl,jm.refl _,rfl,bF _,fun _ _ _=>rfl,fun _ h=>h,fun _ h=>.inl h,rfl,.inr ⟨b,cp,cur,by rw [c_]; exact iT,TM,hb,by rw [c_]; exact Nat.zero_le _,nE,fX,by rw [c_]; intro i hi; exact absurd hi (by simp),by rw [c_]; intro i j hi; exact absurd hi (by simp)⟩⟩
  haveI:Inhabited A:=⟨l'[0]'(by omega)⟩
  let uc:A→A→Int:=fun x y=>cf x.1.2 y.1.2;have UN:SWO (fun x y=>decide (uc x y<0)):=⟨fun x=>hc.2.irrefl x.1.2,fun x y z=>hc.2.trans x.1.2 y.1.2 z.1.2,fun x y z=>hc.2.ntrans x.1.2 y.1.2 z.1.2⟩;have Eo:∀x,(ev x).length=k:=fun x=>x.2.1;have qX:∀x,∀v∈ev x,v.oneCell'=true:=fun x=>x.2.2.1
  have ly:∀i (hi:i<l.length),l'[i]'(by omega)=(⟨(((gu k).map fun j=>cur.getD (i*k+j) undef),l[i]),jy i hi⟩:A):=fun i hi=>by simp [l']
  have hH:HoldsK ev k w b 0 l'.toArray:=fun j hj=>by
   rw [size_flatK] at hj
   have dr:j<l.length*k:=by simpa [uB] using hj
   have kP:0<k:=(oT k).elim (fun h=>by subst h; simp at dr) fun h=>h;have hq:j/k<l.length:=(Nat.div_lt_iff_lt_mul kP).2 dr;have hm:j % k<k:=Nat.mod_lt _ kP
   have hjj:j/k*k+j % k=j:=by rw [og]; exact Nat.div_add_mod j k
   have T8:j<cur.size:=by rw [fX]; exact oe dr (cI k nJ)
   refine ⟨?_,?_⟩
   ·rw [get_flatK _ _ _ _ (by simpa [uB] using dr),cell_of_row w b _ cur E (0,0) hb]
    have e2:l'.toArray[j/k]! = l'[j/k]'(by omega):=by rw [getElem!_pos _ _ (by simpa [uB] using hq)]; simp
    rw [e2,ly _ hq];show cur[0+j]?=some (((gu k).map fun q=>cur.getD (j/k*k+q) undef)[j % k]!);rw [getElem!_pos _ _ (by simpa using hm)];simp [hjj,T8]
   ·simp [World.frozen?,hb]
  have agree:∀(m:Nat) (os:Array Obj) (dk:Array A),fZ F w (sortWorldK ev k w b 0 m dk os):=fun m os dk b' aK=>TV (fun e=>hnF (e▸aK)) (hI.cC b' aK)
  have UM:=hS.2 A ev Eo qX uc UN g #[] b 0 cp l'.toArray w eg (fun m os dk _ x y=>by
    let W:=sortWorldK ev k w b 0 m dk os;have hIW:Inv W F (fun _=>undef) []:=⟨fun b' aK=>oe (hI.cC b' aK) Xg,fun _ _ h=>by simp at h,by simp,fun _ ⟨_,_,h,_⟩=>by simp at h,fun _ _ _ _ _ h=>by simp at h,hI.fh.at (agree m os dk)⟩
    have rd:∀z:A,Rd W F (fun _=>undef) (.a (enc z.1.2)) (.agg (ev z).toArray):=fun z=>by
     have mT:(ev z).length=k:=Eo z;refine .i (.a (by simp [mT,hk]) (fun i hi=>?_) fun i hi=>?_)
     ·have bm:i<(ev z).length:=by rw [mT,←hk z.1.2]; exact hi
      have:(ev z).toArray.getD i undef=(ev z)[i]:=by simp [xf,bm]
      rw [this]; exact qX z _ (eG bm)
     ·have bm:i<(ev z).length:=by rw [mT,←hk z.1.2]; exact hi
      have e:(ev z).toArray.getD i undef=(ev z).getD i undef:=by simp [xf,aY,bm]
      rw [e];exact (z.2.2.2 i (by rw [←hk z.1.2]; exact hi)).frame (agree m os dk) fun _ h=>h
    have hp:=(da x.1.2 y.1.2 (cf x.1.2 y.1.2) (hc.1 _ _)).2 W F (fun _=>undef) #[.agg (ev x).toArray,.agg (ev y).toArray] hIW rfl (fun i hi=>by
     match i,hi with
     | 0,_=>exact rd x
     | 1,_=>exact rd y
     | n+2,hi=>exact absurd hi (by simp))
    refine (show Calls P g (#[.agg (ev x).toArray,.agg (ev y).toArray]++#[]) W _ from hp).mono ?_;rintro e w' ⟨v,rfl,hb,hr⟩;refine ⟨?_,hb.abn⟩
    cases hr with | v h=>rfl) hH blt (by simp [uB]; omega)
  have aZ:l'.toArray.size=l.length:=by simp [uB]
  rw [aZ] at UM;refine (show Calls P f #[.slice (some ⟨b,0,none⟩) l.length cp,.func (.func g) #[] #[]] w _ from UM).mono ?_;rintro e w' ⟨rfl,n,os,rfl⟩
  have cK:pdq (fun x y=>decide (uc x y<0)) l'.toArray 0 l.length (Lib.bitLen l.length) true true=(wX uc l').toArray:=by simp [wX,uB]
  simp only [cK];obtain ⟨yW,IB⟩:=ahC UN l';have wA:(wX uc l').map (fun p=>p.1.2)=r:=ah7 hc.2 UH lC (by have:=yW.map (fun p:A=>p.1.2); rw [aci] at this; exact this) (by rw [List.pairwise_map]; exact IB);generalize eu:wX uc l'=s at wA yW IB
  have y_:s.length=l.length:=by rw [yW.length_eq,uB]
  have hbH:=abW (enc:=ev) (k:=k) (off:=0) (n:=n) (d:=s.toArray) (os:=os) hb;subst wA;have jv:(s.map fun p=>p.1.2).length=s.length:=ay _;refine ⟨_,rfl,_,_,F,⟨rfl,rfl⟩,Nu _ _,rfl,⟨rfl,fun _=>Nat.le_add_right _ _⟩,rfl,Xg,fun c hc aO=>TV (fun h=>aO (by rw [kJ,h])) hc,fun _ h=>h,fun _ h=>.inl h,?_,.inr ⟨b,cp,_,?_,TM,hbH,?_,nE,?_,?_,?_⟩⟩
  ·rfl
  ·rw [iT,ay,jv,y_]
  ·rw [ay,jv,y_]; exact nJ
  ·simp [putCells,fX]
  ·intro i hi;rw [ay,jv] at hi;simp [aY,hi,hk]
  ·intro i j hi hj;rw [ay,jv] at hi
   have sL:i<l.length:=by omega
   have nH:i*k+j<l.length*k:=by
    have:=cI k (show i+1≤l.length from sL); rw [Nat.add_mul,Nat.one_mul] at this; omega
   have T5:i*k+j<cur.size:=by rw [fX]; exact oe nH (cI k nJ)
   have kP:0<k:=by omega
   have e4:(i*k+j)/k=i:=by rw [og,Nat.mul_add_div kP,Nat.div_eq_of_lt hj]; rfl
   have e5:(i*k+j) % k=j:=by rw [og,Nat.mul_add_mod,Nat.mod_eq_of_lt hj]
   have Bf:i*k+j<s.length*k:=by rw [y_]; exact nH
   have e6:(putCells id 0 (flatK ev k s.toArray) cur).getD (i*k+j) undef=(ev s[i]).getD j undef:=by
    have:(putCells id 0 (flatK ev k s.toArray) cur)[i*k+j]?=some ((ev s[i]).getD j undef):=by
     unfold putCells;rw [Array.getElem?_mapIdx,Array.getElem?_eq_getElem T5];have hc:0≤i*k+j∧i*k+j<0+(flatK ev k s.toArray).size:=⟨Nat.zero_le _,by rw [size_flatK]; simpa using Bf⟩;rw [Option.map_some,if_pos hc,Nat.sub_zero,get_flatK _ _ _ _ (by simpa using Bf),e4,e5]
     have e2:s.toArray[i]! = s[i]:=by rw [getElem!_pos _ _ (by simpa using hi)]; simp
     rw [e2];show some ((ev s[i])[j]!)=_;rw [getElem!_pos _ _ (by rw [Eo]; exact hj)];simp [aY,Eo,hj]
    rw [Array.getD_eq_getD_getElem?,this]; rfl
   have e7:((s.map fun p=>p.1.2).map enc).getD i []=enc s[i].1.2:=by simp [aY,hi]
   rw [e6,e7]
   have T7:j<(ev s[i]).length:=by rw [Eo]; exact hj
   have e8:(ev s[i]).getD j undef=(ev s[i])[j]:=by simp [aY,T7]
   refine ⟨by rw [e8]; exact qX s[i] _ (eG T7),?_⟩;exact (s[i].2.2.2 j hj).frame (agree n os s.toArray) fun _ h=>h
end
end
end Go.Cat
