/- The logic that the walks are in, piece P6. No condition. -/
import Derived.Test.YthkdflbnmbnbaaaGreatXShotRightCatP5
import Derived.Laws.AppendOwn
import Derived.Shelf.SlIterI.Nil
import Derived.Shelf.SortM.Plain
import Derived.Shelf.SortM.SortNone
import Derived.Test.YthkdflbnmbnbaaaGreatXShotRightCatP1
import Derived.RangeFuncBox
import Derived.RangeFuncWrites
import Derived.RangeFuncLeaves
import Derived.Test.YthkdflbnmbnbaaaGreatXShotRightCatP4
set_option linter.all false
namespace Go.Cat
open Go.RowKit
variable [M:Mono] [R:Rnds]
section
variable {P:Program}
theorem Fz.w {H:Hp} {id E K d:Nat} {rows:List (List AV)} (h:findC id H=some (.own E K rows)):Fz H (.w id K d) (.s (rows.drop d)):=fun w F β u hI hr=>by
 obtain ⟨a,a',n,c,hβ,hd,ha,rfl⟩:=hr.w_inv
 have hm:=findC_mem h
 rcases hI.holds _ _ hm with ⟨rfl,a2,hv⟩ | ⟨g,cap,cur,hv,hc,hg,hn,hmx,hs,hK,hr⟩
 ·rw [hβ] at hv
  cases hv
  have:d=0:=by omega
  subst this
  exact .s0
 ·rw [hβ] at hv
  cases hv
  have h0:Nat.beq c 0=false:=by cases c <;> first | rfl | omega
  have hcell:=(own_cell (hI.holds _ _ hm) hβ).2.2.2
  obtain ⟨u,hu⟩:=hcell
  have hlen:(rows.drop d).length=rows.length - d:=by simp
  by_cases hdc:d < c
  ·have ha:=ha hdc
   subst ha
   have e:(Option.map (·.add (d * K)) (some (⟨g,0,none⟩:Addr)))=some ⟨g,d * K,none⟩:=by simp [Addr.add_lit]
   rw [e,←hlen]
   have hrow:∀i,i < (rows.drop d).length→(rows.drop d).getD i []=rows.getD (d+i) []:=fun i hi=>by simp [List.getD,List.getElem?_drop]
   refine .s (off:=d * K) (k:=K) (u:=fun i j=>u (d+i) j) (.inr ⟨id,_,hm,by rw [hβ]; simp [blkOf,h0]⟩) (by omega) (by omega) (fun i hi=>?_) (fun i j hi hj=>?_) (fun i j hi hj=>?_) fun i j hi hj=>?_
   ·rw [hrow i hi]; exact hK _ (by omega)
   ·have:=(hu (d+i) j (by omega) hj).1
    rw [←this]
    congr 2
    rw [Nat.add_mul]; omega
   ·exact (hu (d+i) j (by omega) hj).2.1
   ·rw [hrow i hi]
    exact (hu (d+i) j (by omega) hj).2.2.frame (fun _ _=>rfl) fun _ h=>.inl h
  ·have hd1:rows.length - d=0:=by omega
   have hc1:c - d=0:=by omega
   have:rows.drop d=[]:=List.eq_nil_of_length_eq_zero (by omega)
   rw [hd1,hc1,this]
   exact .s0
theorem Fz.wm {α:Type} {f:α→List AV} {l:List α} {H:Hp} {id E K d:Nat} (h:findC id H=some (.own E K (l.map f))):Fz H (.w id K d) (.s ((l.drop d).map f)):=by
 rw [List.map_drop]; exact Fz.w h
end
end Go.Cat
set_option linter.all false
namespace Go.Cat
open Go.RowKit
variable [M:Mono] [R:Rnds]
section
variable {P:Program}
def KeysSays (P:Program) (g k1:Nat):Prop:=∀(b:Nat) (w:World),
 Calls P g #[.map (some b)] w fun e w'=>e=.returned (.func (.func k1) #[] #[.pointer (some ⟨w.heap.size,0,none⟩)])∧∃T,w'=w.alloc (.cells #[.map (some b)] T)
def SortedSays (P:Program) (g k1 E:Nat):Prop:=∀(w:World) (Bm b:Nat) (es:Array MapEntry) (ck:Nat) (ks:List Int),w.cell? ⟨Bm,0,none⟩=some (.map (some b))→Bm < w.heap.size →
 w.heap[b]?=some (.map es ck)→Go.MapKept.Stamped es ck→es.toList.map (·.key)=ks.map (Value.int .i64)→(∀n,n∈ks→InI64 n)→ks.length * 8≤140737488355328 →
 Calls P g #[.func (.func k1) #[] #[.pointer (some ⟨Bm,0,none⟩)]] w fun e w'=>∃v,e=.returned v ∧
  w'.ownsRow w.heap.size E 1 v ks.length ((ks.mergeSort fun x y=>decide (x≤y)).map (Value.int .i64))∧Go.RowKit.Below w.heap.size w w'
theorem CallOk.keys {g k1 id D:Nat} {ag:Bool} {rows:List (Int×List AV)} {st:ASt} {k:AV→ASt→Prop} (hS:KeysSays P g k1) (hE:Entered P g) (hc:findC id st.H=some (.mp ag rows)) (hD:Nat.blt D 1000=true) (hne:Nat.beq id D=false)
  (hk:k (.c (.func k1) [] [.b D 0]) (bindSt st D (.box [.m id]))):CallOk P g [.m id] st k:=by
 refine ⟨hE,fun w F β vs hI hs hv=>?_⟩
 have hidD:id≠D:=fun e=>by rw [e,Nat.beq_refl] at hne; cases hne
 obtain ⟨b,hβ,hv0⟩:=(hv 0 (by simp)).m_inv
 have hvs:vs=#[.map (some b)]:=by
  apply Array.ext
  ·simpa using hs
  ·intro i h1 h2
   have h2:i < 1:=h2
   have:i=0:=by omega
   subst this
   simpa [Array.getD,h1] using hv0
 subst hvs
 refine (hS b w).mono ?_
 rintro e w' ⟨rfl,T,rfl⟩
 have hb:=below_alloc w (.cells #[.map (some b)] T)
 have hnew:(w.alloc (.cells #[.map (some b)] T)).heap[w.heap.size]?=some (.cells #[.map (some b)] T):=(Go.MapKept.heap_alloc w _).1
 refine ⟨_,rfl,_,_,F,fun q=>if q=D then .pointer (some ⟨w.heap.size,0,none⟩) else β q,hk,.c rfl rfl (fun i hi=>by simp at hi) (fun i hi=>?_),ext_bind (v:=.pointer (some ⟨w.heap.size,0,none⟩)) (by simpa using hD) hI hb.os hb.tape hb.output hb.size (fun b hb' _=>hb.block b hb')
  (fun i c' b _ hm hb'=>hb.block b (hI.owned_lt ⟨i,c',hm,hb'⟩)) (fun b hb'=>.inl ?_) ?_⟩
 ·have hi:i < 1:=by simpa using hi
  have:i=0:=by omega
  subst this
  exact .b (by simp)
 ·simp [blkOf] at hb'; omega
 ·refine ⟨w.heap.size,#[.map (some b)],T,by simp,hnew,rfl,fun i hi=>?_,fun i hi=>?_⟩
  ·have hi:i < 1:=by simpa using hi
   have:i=0:=by omega
   subst this
   rfl
  ·have hi:i < 1:=by simpa using hi
   have:i=0:=by omega
   subst this
   exact .m (by simp [hidD,hβ])
end
end Go.Cat
set_option linter.all false
namespace Go.Cat
open Go.RowKit Go.Proofs Go.Shelf Go.Maps Go.Sort
open Go.WideElems (Fit rg)
def konst (_:Value):Option (DataW Unit×List MemPlace):=some (.lit (.bool false),[])
end Go.Cat
set_option linter.all false
namespace Go.Cat
variable [M:Mono] [R:Rnds]
end Go.Cat
set_option linter.all false
namespace Go.Cat
open Go.RowKit
variable [M:Mono] [R:Rnds]
def at?:List (Nat×Nat)→Nat→Option Nat
 | [],_=>none
 | (i,j)::r,x=>bif Nat.beq x i then some j else at? r x
theorem at_mem {i j:Nat}:∀{m:List (Nat×Nat)},at? m i=some j→(i,j)∈m
 | [],h=>by cases h
 | (a,b)::r,h=>by
  simp only [at?] at h
  cases hb:Nat.beq i a with
  | true=>rw [hb] at h; cases h; rw [Nat.eq_of_beq_eq_true hb]; simp
  | false=>rw [hb] at h; exact List.mem_cons_of_mem _ (at_mem h)
theorem at_of {i j:Nat}:∀{m:List (Nat×Nat)},(m.map (·.1)).Nodup→(i,j)∈m→at? m i=some j
 | [],_,h=>by cases h
 | (a,b)::r,hn,h=>by
  simp only [List.map_cons,List.nodup_cons] at hn
  simp only [at?]
  rcases List.mem_cons.1 h with h | h
  ·cases h; rw [Nat.beq_refl]; rfl
  ·have:Nat.beq i a=false:=by
    cases hb:Nat.beq i a with
    | false=>rfl
    | true=>exact absurd (List.mem_map.2 ⟨_,h,Nat.eq_of_beq_eq_true hb⟩) hn.1
   rw [this]; exact at_of hn.2 h
def rl (φ:Nat→Option Nat):Nat→AV→AV
 | n,x=>match x with
  | .b i o=>match φ i with
   | some j=>.b j o
   | none=>.junk
  | .o i=>match φ i with
   | some j=>.o j
   | none=>.junk
  | .e i K m o=>match φ i with
   | some j=>.e j K m o
   | none=>.junk
  | .w i K d=>match φ i with
   | some j=>.w j K d
   | none=>.junk
  | .m i=>match φ i with
   | some j=>.m j
   | none=>.junk
  | .a cs=>match n with
   | 0=>.junk
   | n+1=>.a (cs.map (rl φ n))
  | .t cs=>match n with
   | 0=>.junk
   | n+1=>.t (cs.map (rl φ n))
  | .c fn fs cs=>match n with
   | 0=>.junk
   | n+1=>.c fn (fs.map (rl φ n)) (cs.map (rl φ n))
  | .v x=>.v x
  | .s r=>.s r
  | .p c=>.p c
  | .z=>.z
  | .junk=>.junk
def rlC (φ:Nat→Option Nat):Chunk→Chunk
 | .box cells=>.box (cells.map (rl φ 2))
 | .own E k rows=>.own E k rows
 | .mp ag rows=>.mp ag rows
 | .lp l e R L=>.lp l e R (L.map fun p=>(p.1,rl φ 2 p.2))
 | .si s pos=>.si s pos
def rlH (φ:Nat→Option Nat):Hp→Hp
 | []=>[]
 | (i,c)::r=>match φ i with
  | some j=>(j,rlC φ c)::rlH φ r
  | none=>rlH φ r
section
variable {P:Program} {T:TT} {w:World} {F:Nat→Prop} {β β':Nat→Value}
theorem rl_rd {φ:Nat→Option Nat} (hβ:∀i j,φ i=some j→β' j=β i):∀(n:Nat) {x:AV} {u:Value},Rd w F β x u→Rd w F β' (rl φ n x) u:=by
 have one:∀{i:Nat} {f:Nat→AV} {u:Value},(∀j,φ i=some j→Rd w F β' (f j) u)→Rd w F β' (match φ i with | some j=>f j | none=>.junk) u:=fun h=>by
  split
  ·exact h _ (by assumption)
  ·exact .junk
 have leaf:∀{n:Nat} {x:AV} {u:Value},Rd w F β x u→(∀cs,x≠.a cs)→(∀cs,x≠.t cs)→(∀g fs cs,x≠.c g fs cs)→Rd w F β' (rl φ n x) u:=by
  intro n x u h h1 h2 h3
  cases x with
  | v x=>cases h with | i h=>cases h; cases n <;> exact .i (.v (by assumption))
  | s r=>cases n <;> exact .i h.s_inv
  | p c=>cases n <;> exact .i h.p_inv
  | z=>obtain ⟨a,rfl⟩:=h.z_inv; cases n <;> exact .i .z
  | junk=>cases n <;> exact .junk
  | a cs=>exact absurd rfl (h1 cs)
  | t cs=>exact absurd rfl (h2 cs)
  | c g fs cs=>exact absurd rfl (h3 g fs cs)
  | b i o =>
   obtain ⟨blk,hb,rfl⟩:=h.b_inv
   cases n <;> exact one fun j hj=>.b ((hβ i j hj).trans hb)
  | o i =>
   obtain ⟨a,k,c,hb,rfl⟩:=h.o_inv
   cases n <;> exact one fun j hj=>.o ((hβ i j hj).trans hb)
  | e i K m o =>
   obtain ⟨g,k,c,hb,rfl⟩:=h.e_inv
   cases n <;> exact one fun j hj=>.e ((hβ i j hj).trans hb)
  | w i K d =>
   obtain ⟨a,a',k,c,hb,hd,ha,rfl⟩:=h.w_inv
   cases n <;> exact one fun j hj=>.w ((hβ i j hj).trans hb) hd ha
  | m i =>
   obtain ⟨b,hb,rfl⟩:=h.m_inv
   cases n <;> exact one fun j hj=>.m ((hβ i j hj).trans hb)
 intro n
 induction n with
 | zero =>
  intro x u h
  cases x with
  | a cs=>exact .junk
  | t cs=>exact .junk
  | c g fs cs=>exact .junk
  | _=>exact leaf h (by simp) (by simp) (by simp)
 | succ n ih =>
  have get:∀(l:List AV) (i:Nat),i < l.length→(l.map (rl φ n)).getD i .junk=rl φ n (l.getD i .junk):=fun l i hi=>by simp [List.getD,hi]
  intro x u h
  cases x with
  | a cs =>
   show Rd w F β' (.a (cs.map (rl φ n))) u
   obtain ⟨us,rfl,hs,h1,hr⟩:=h.a_inv
   refine .a (by simpa using hs) (fun i hi=>h1 i (by simpa using hi)) fun i hi=>?_
   have hi:i < cs.length:=by simpa using hi
   rw [get cs i hi]; exact ih (hr i hi)
  | t cs =>
   show Rd w F β' (.t (cs.map (rl φ n))) u
   obtain ⟨us,rfl,hs,hr⟩:=h.t_inv
   refine .t (by simpa using hs) fun i hi=>?_
   have hi:i < cs.length:=by simpa using hi
   rw [get cs i hi]; exact ih (hr i hi)
  | c g fs cs =>
   show Rd w F β' (.c g (fs.map (rl φ n)) (cs.map (rl φ n))) u
   obtain ⟨us,vs,rfl,hs,hs',hr,hr'⟩:=h.c_inv
   refine .c (by simpa using hs) (by simpa using hs') (fun i hi=>?_) fun i hi=>?_
   ·have hi:i < fs.length:=by simpa using hi
    rw [get fs i hi]; exact ih (hr i hi)
   ·have hi:i < cs.length:=by simpa using hi
    rw [get cs i hi]; exact ih (hr' i hi)
  | _=>exact leaf h (by simp) (by simp) (by simp)
theorem rlC_holds {φ:Nat→Option Nat} (hβ:∀i j,φ i=some j→β' j=β i) {i j:Nat} (hij:φ i=some j) {c:Chunk} (h:c.holds w F β i):(rlC φ c).holds w F β' j:=by
 cases c with
 | box cells =>
  obtain ⟨b,cs,e,hb,hh,hs,h1,hr⟩:=h
  refine ⟨b,cs,e,(hβ i j hij).trans hb,hh,by simpa using hs,fun q hq=>h1 q (by simpa using hq),fun q hq=>?_⟩
  have hq:q < cells.length:=by simpa using hq
  have:(cells.map (rl φ 2)).getD q .junk=rl φ 2 (cells.getD q .junk):=by simp [List.getD,hq]
  rw [this]
  exact rl_rd hβ 2 (hr q hq)
 | own E k rows=>exact holds_imm (c:=.own E k rows) rfl (fun _ h=>h) (hβ i j hij) h
 | mp ag rows=>exact holds_imm (c:=.mp ag rows) rfl (fun _ h=>h) (hβ i j hij) h
 | si s pos=>exact holds_imm (c:=.si s pos) rfl (fun _ h=>h) (hβ i j hij) h
 | lp l e R L =>
  obtain ⟨fn,tmps,D,hb,hh,hn,hr⟩:=h
  refine ⟨fn,tmps,D,(hβ i j hij).trans hb,hh,hn,fun p hp=>?_⟩
  obtain ⟨q,hq,rfl⟩:=List.mem_map.1 hp
  exact rl_rd hβ 2 (hr q hq)
theorem rlH_mem {φ:Nat→Option Nat} {j:Nat} {c:Chunk}:∀{H:Hp},(j,c)∈rlH φ H→∃i c0,(i,c0)∈H∧φ i=some j∧c=rlC φ c0
 | [],h=>by cases h
 | (i,c0)::r,h=>by
  simp only [rlH] at h
  split at h
  ·rename_i j' hj
   rcases List.mem_cons.1 h with h | h
   ·cases h; exact ⟨i,c0,by simp,hj,rfl⟩
   ·obtain ⟨i',c',h1,h2⟩:=rlH_mem h
    exact ⟨i',c',List.mem_cons_of_mem _ h1,h2⟩
  ·obtain ⟨i',c',h1,h2⟩:=rlH_mem h
   exact ⟨i',c',List.mem_cons_of_mem _ h1,h2⟩
def Ln (m:List (Nat×Nat)) (x y:AV):Prop:=∀(w:World) (F:Nat→Prop) (β β1:Nat→Value) (u:Value),(∀i j,at? m i=some j→β1 i=β j)→Rd w F β x u→Rd w F β1 y u
inductive LnL (m:List (Nat×Nat)):List AV→List AV→Prop where
 | nil:LnL m [] []
 | cons {x y:AV} {xs ys:List AV} (h:Ln m x y) (t:LnL m xs ys):LnL m (x::xs) (y::ys)
theorem LnL.spec {m:List (Nat×Nat)} {xs ys:List AV} (h:LnL m xs ys):xs.length=ys.length∧∀i,i < xs.length→Ln m (xs.getD i .junk) (ys.getD i .junk):=by
 induction h with
 | nil=>exact ⟨rfl,fun i hi=>by simp at hi⟩
 | cons h t ih =>
  refine ⟨by simp [ih.1],fun i hi=>?_⟩
  cases i with
  | zero=>simpa using h
  | succ i=>simpa using ih.2 i (by simpa using hi)
section
variable {m:List (Nat×Nat)}
theorem Ln.imm {x:AV} (h:imm1 x=true):Ln m x x:=fun _ _ _ _ _ _ hr=>.i (imm1_rd h hr)
theorem Ln.junk {x:AV}:Ln m x .junk:=fun _ _ _ _ _ _ _=>.junk
theorem Ln.nil:Ln m (.v (.slice none 0 0)) (.s []):=fun _ _ _ _ _ _ hr=>by rw [hr.v_inv]; exact .i .s0
theorem Ln.z:Ln m .z (.s []):=fun _ _ _ _ _ _ hr=>by obtain ⟨a,rfl⟩:=hr.z_inv; exact .i .s0
theorem Ln.b {i j off:Nat} (h:at? m i=some j):Ln m (.b j off) (.b i off):=fun _ _ _ _ _ hβ hr=>by
 obtain ⟨blk,h1,rfl⟩:=hr.b_inv; exact .b ((hβ i j h).trans h1)
theorem Ln.o {i j:Nat} (h:at? m i=some j):Ln m (.o j) (.o i):=fun _ _ _ _ _ hβ hr=>by
 obtain ⟨a,n,c,h1,rfl⟩:=hr.o_inv; exact .o ((hβ i j h).trans h1)
theorem Ln.mm {i j:Nat} (h:at? m i=some j):Ln m (.m j) (.m i):=fun _ _ _ _ _ hβ hr=>by
 obtain ⟨b,h1,rfl⟩:=hr.m_inv; exact .m ((hβ i j h).trans h1)
theorem Ln.a {xs ys:List AV} (h:LnL m xs ys):Ln m (.a xs) (.a ys):=fun _ _ _ _ _ hβ hr=>by
 obtain ⟨us,rfl,hs,h1,hu⟩:=hr.a_inv
 obtain ⟨hl,hz⟩:=h.spec
 exact .a (by omega) (fun i hi=>h1 i (by omega)) fun i hi=>hz i (by omega) _ _ _ _ _ hβ (hu i (by omega))
theorem Ln.t {xs ys:List AV} (h:LnL m xs ys):Ln m (.t xs) (.t ys):=fun _ _ _ _ _ hβ hr=>by
 obtain ⟨us,rfl,hs,hu⟩:=hr.t_inv
 obtain ⟨hl,hz⟩:=h.spec
 exact .t (by omega) fun i hi=>hz i (by omega) _ _ _ _ _ hβ (hu i (by omega))
theorem Ln.c {fn:Fn} {fs fs' cs cs':List AV} (h:LnL m fs fs') (h':LnL m cs cs'):Ln m (.c fn fs cs) (.c fn fs' cs'):=fun _ _ _ _ _ hβ hr=>by
 obtain ⟨us,vs,rfl,hs,hs',hu,hv⟩:=hr.c_inv
 obtain ⟨hl,hz⟩:=h.spec
 obtain ⟨hl',hz'⟩:=h'.spec
 exact .c (by omega) (by omega) (fun i hi=>hz i (by omega) _ _ _ _ _ hβ (hu i (by omega))) fun i hi=>hz' i (by omega) _ _ _ _ _ hβ (hv i (by omega))
end
def LnT (m:List (Nat×Nat)):List (Nat×AV)→List (Nat×AV)→Prop
 | [],[]=>True
 | (t,x)::a,(t',y)::b=>t=t'∧Ln m x y∧LnT m a b
 | _,_=>False
theorem LnT.mem {m:List (Nat×Nat)}:∀{a b:List (Nat×AV)},LnT m a b→∀p,p∈b→∃x,(p.1,x)∈a∧Ln m x p.2
 | [],[],_,_,h=>by cases h
 | (t,x)::a,(t',y)::b,hh,p,h=>by
  obtain ⟨rfl,h1,h2⟩:=hh
  rcases List.mem_cons.1 h with h | h
  ·subst h; exact ⟨x,List.mem_cons_self ..,h1⟩
  ·obtain ⟨x',h3,h4⟩:=h2.mem p h
   exact ⟨x',List.mem_cons_of_mem _ h3,h4⟩
 | [],_::_,hh,_,_=>hh.elim
 | _::_,[],hh,_,_=>hh.elim
inductive Cn (m:List (Nat×Nat)):Chunk→Chunk→Prop where
 | refl {c:Chunk} (h:chunkImm c=true):Cn m c c
 | box {a b:List AV} (h:LnL m a b):Cn m (.box a) (.box b)
 | lp {l:Nat} {e e':LS} {R:RF} {a b:List (Nat×AV)} (he:e=e') (h:LnT m a b):Cn m (.lp l e R a) (.lp l e' R b)
theorem Cn.holds {m:List (Nat×Nat)} {c c0:Chunk} {i j:Nat} (h:Cn m c c0) (hβ:∀i j,at? m i=some j→β' i=β j) (hij:at? m i=some j) (hc:c.holds w F β j):c0.holds w F β' i:=by
 cases h with
 | refl h=>exact holds_imm h (fun _ h=>h) (hβ i j hij) hc
 | box h =>
  obtain ⟨b,cs,e,hb,hh,hs,h1,hr⟩:=hc
  obtain ⟨hl,hz⟩:=h.spec
  exact ⟨b,cs,e,(hβ i j hij).trans hb,hh,by omega,fun q hq=>h1 q (by omega),fun q hq=>hz q (by omega) _ _ _ _ _ hβ (hr q (by omega))⟩
 | lp he h =>
  subst he
  obtain ⟨fn,tmps,D,hb,hh,hn,hr⟩:=hc
  refine ⟨fn,tmps,D,(hβ i j hij).trans hb,hh,hn,fun p hp=>?_⟩
  obtain ⟨x,hx,hz⟩:=h.mem p hp
  exact hz _ _ _ _ _ hβ (hr _ hx)
def HasN (m:List (Nat×Nat)) (H:Hp):Hp→Prop
 | []=>True
 | (i,c0)::r=>(∃j c,at? m i=some j∧findC j H=some c∧Cn m c c0)∧HasN m H r
theorem HasN.mem {m:List (Nat×Nat)} {H:Hp}:∀{H0:Hp},HasN m H H0→∀i c0,(i,c0)∈H0→∃j c,at? m i=some j∧(j,c)∈H∧Cn m c c0
 | [],_,_,_,h=>by cases h
 | (i,c0)::r,hh,i',c',h=>by
  rcases List.mem_cons.1 h with h | h
  ·cases h
   obtain ⟨j,c,h1,h2,h3⟩:=hh.1
   exact ⟨j,c,h1,findC_mem h2,h3⟩
  ·exact hh.2.mem i' c' h
def erL:List (Nat×Nat)→AV→AV
 | [],x=>x
 | p::r,x=>erL r (er 2 p.2 x)
def erCL:List (Nat×Nat)→Chunk→Chunk
 | [],c=>c
 | p::r,c=>erCL r (erC p.2 c)
def restH (m n:List (Nat×Nat)):Hp→Hp
 | []=>[]
 | (i,c)::r=>bif (m.any fun p=>Nat.beq p.2 i)||(n.any fun p=>Nat.beq p.2 i) then restH m n r else (i,erCL n c)::restH m n r
theorem erL_rd:∀{n:List (Nat×Nat)} {β:Nat→Value},(∀j,(∀p,p∈n→p.2≠j)→β' j=β j)→∀{x:AV} {u:Value},Rd w F β x u→Rd w F β' (erL n x) u
 | [],β,hβ,x,u,h=>by
  have:β'=β:=funext fun j=>hβ j fun p hp=>by cases hp
  rw [this]; exact h
 | p::r,β,hβ,x,u,h=>by
  refine erL_rd (n:=r) (x:=er 2 p.2 x) (β:=fun j=>if j=p.2 then β' j else β j) (fun j hj=>?_) (er_rd (id:=p.2) (fun i hi=>if_neg hi) 2 h)
  show _=if j=p.2 then β' j else β j
  by_cases hjp:j=p.2
  ·rw [if_pos hjp]
  ·rw [if_neg hjp]; exact hβ j fun q hq=>by
    rcases List.mem_cons.1 hq with rfl | hq
    ·exact fun e=>hjp e.symm
    ·exact hj q hq
theorem erCL_holds {i:Nat}:∀{n:List (Nat×Nat)} {β:Nat→Value},(∀j,(∀p,p∈n→p.2≠j)→β' j=β j)→(∀p,p∈n→p.2≠i)→∀{c:Chunk},c.holds w F β i→(erCL n c).holds w F β' i
 | [],β,hβ,_,c,h=>by
  have:β'=β:=funext fun j=>hβ j fun p hp=>by cases hp
  rw [this]; exact h
 | p::r,β,hβ,hi,c,h=>by
  refine erCL_holds (n:=r) (c:=erC p.2 c) (β:=fun j=>if j=p.2 then β' j else β j) (fun j hj=>?_) (fun q hq=>hi q (List.mem_cons_of_mem _ hq)) (holds_er (id:=p.2) (fun e=>hi p (by simp) e.symm) (fun i hi=>if_neg hi) h)
  show _=if j=p.2 then β' j else β j
  by_cases hjp:j=p.2
  ·rw [if_pos hjp]
  ·rw [if_neg hjp]; exact hβ j fun q hq=>by
    rcases List.mem_cons.1 hq with rfl | hq
    ·exact fun e=>hjp e.symm
    ·exact hj q hq
theorem restH_mem {m n:List (Nat×Nat)} {i:Nat} {c:Chunk}:∀{H:Hp},(i,c)∈restH m n H→∃c0,(i,c0)∈H∧c=erCL n c0∧(∀p,p∈m→p.2≠i)∧∀p,p∈n→p.2≠i
 | [],h=>by cases h
 | (k,c0)::r,h=>by
  simp only [restH] at h
  cases hb:((m.any fun p=>Nat.beq p.2 k)||(n.any fun p=>Nat.beq p.2 k)) with
  | true =>
   rw [hb] at h
   obtain ⟨c1,h1,h2⟩:=restH_mem (H:=r) h
   exact ⟨c1,List.mem_cons_of_mem _ h1,h2⟩
  | false =>
   rw [hb] at h
   rcases List.mem_cons.1 h with h | h
   ·cases h
    simp only [Bool.or_eq_false_iff,List.any_eq_false] at hb
    refine ⟨c0,by simp,rfl,fun p hp e=>?_,fun p hp e=>?_⟩
    ·exact hb.1 p hp (by rw [e]; exact Nat.beq_refl _)
    ·exact hb.2 p hp (by rw [e]; exact Nat.beq_refl _)
   ·obtain ⟨c1,h1,h2⟩:=restH_mem (H:=r) h
    exact ⟨c1,List.mem_cons_of_mem _ h1,h2⟩
def ndB:List Nat→Bool
 | []=>true
 | x::r=>!(r.any fun y=>Nat.beq y x)&&ndB r
theorem ndB_nodup:∀{l:List Nat},ndB l=true→l.Nodup
 | [],_=>List.nodup_nil
 | x::r,h=>by
  simp only [ndB,Bool.and_eq_true,Bool.not_eq_true',List.any_eq_false] at h
  rw [List.nodup_cons]
  exact ⟨fun hm=>h.1 x hm (Nat.beq_refl _),ndB_nodup h.2⟩
def tabN (m n:List (Nat×Nat)):Bool :=
 (m.all fun p=>Nat.ble 1000 p.1)&&(ndB (m.map (·.1))&&(ndB (m.map (·.2))&&((n.all fun p=>Nat.blt p.2 1000)&&ndB (n.map (·.2)))))
def qOf (m n:List (Nat×Nat)):List (Nat×Nat):=(m.filter fun p=>!(n.any fun q=>Nat.beq q.2 p.2))++n
theorem snd_inj {i i' j:Nat}:∀{m:List (Nat×Nat)},(m.map (·.2)).Nodup→(i,j)∈m→(i',j)∈m→i=i'
 | [],_,h,_=>by cases h
 | p::r,hm,h1,h2=>by
  simp only [List.map_cons,List.nodup_cons] at hm
  rcases List.mem_cons.1 h1 with h1 | h1 <;> rcases List.mem_cons.1 h2 with h2 | h2
  ·rw [←h2] at h1; cases h1; rfl
  ·exact absurd (List.mem_map.2 ⟨_,h2,by rw [←h1]⟩) hm.1
  ·exact absurd (List.mem_map.2 ⟨_,h1,by rw [←h2]⟩) hm.1
  ·exact snd_inj hm.2 h1 h2
theorem CallOk.gen {g:Tg} {xs ys:List AV} {st:ASt} {H0 H1:Hp} {r:AV} {k:AV→ASt→Prop} {m n:List (Nat×Nat)} (h:CallOk P g ys ⟨noSlots,H0⟩ fun x s=>x=r∧s.H=H1)
  (hx:LnL m xs ys) (hH:HasN m st.H H0) (hk0:keysOk H0=true) (ht:tabN m n=true) (hk1:keysOk (rlH (at? (qOf m n)) H1++restH m n st.H)=true)
  (hk:k (rl (at? (qOf m n)) 3 r) ⟨fun t=>erL n (st.f t),rlH (at? (qOf m n)) H1++restH m n st.H⟩):CallOk P g xs st k:=by
 obtain ⟨hl,hz⟩:=hx.spec
 simp only [tabN,Bool.and_eq_true,List.all_eq_true] at ht
 obtain ⟨hm0,hm1,hm2,hn0,hn2⟩:=ht
 have hm1:=ndB_nodup hm1
 have hm2:=ndB_nodup hm2
 have hn2:=ndB_nodup hn2
 refine ⟨h.1,fun w F β vs hI hs hv=>?_⟩
 obtain ⟨β1,hβ1⟩:∃β1:Nat→Value,∀i j,at? m i=some j→β1 i=β j:=by
  refine ⟨fun i=>match at? m i with | some j=>β j | none=>undef,fun i j hij=>?_⟩
  simp only [hij]
 have hmem:=fun i c0 hm=>hH.mem i c0 hm
 have hown:∀b,Owned β1 H0 b→∃i c0 j c,(i,c0)∈H0∧at? m i=some j∧(j,c)∈st.H∧blkOf (β j)=some b:=by
  rintro b ⟨i,c0,h1,hb⟩
  obtain ⟨j,c,h2,h3,_⟩:=hmem i c0 h1
  exact ⟨i,c0,j,c,h1,h2,h3,by rw [←hβ1 i j h2]; exact hb⟩
 have hownO:∀b,Owned β1 H0 b→Owned β st.H b:=fun b hb=>by
  obtain ⟨_,_,j,c,_,_,h3,h4⟩:=hown b hb
  exact ⟨j,c,h3,h4⟩
 have hinj:∀i i' j,at? m i=some j→at? m i'=some j→i=i':=fun i i' j h1 h2=>snd_inj hm2 (at_mem h1) (at_mem h2)
 have hI1:Inv w F β1 H0:=by
  refine ⟨hI.fsize,fun i c0 h1=>?_,keysOk_nodup hk0,fun b hb=>hI.apart b (hownO b hb),fun i c i' c' b h1 h2 hb hb'=>?_⟩
  ·obtain ⟨j,c,h2,h3,h4⟩:=hmem i c0 h1
   exact h4.holds hβ1 h2 (hI.holds j c h3)
  ·obtain ⟨j,c,h3,h4,_⟩:=hmem i c h1
   obtain ⟨j',c',h5,h6,_⟩:=hmem i' c' h2
   rw [hβ1 i j h3] at hb
   rw [hβ1 i' j' h5] at hb'
   have:=hI.disj j _ j' _ b h4 h6 hb hb'
   subst this
   exact hinj i i' j h3 h5
 refine (h.2 w F β1 vs hI1 (by omega) fun i hi=>hz i (by omega) w F β β1 _ hβ1 (hv i (by omega))).mono ?_
 rintro e w' ⟨v,rfl,x,s,F',β',⟨rfl,hsH⟩,hr,he⟩
 have he:Ext w F β1 ⟨noSlots,H0⟩ w' F' β' ⟨s.f,H1⟩:=by rw [←hsH]; exact he
 obtain ⟨β2,hnew2,hold2⟩:∃β2:Nat→Value,(∀i j,(i,j)∈n→β2 j=β' i)∧∀j,(∀p,p∈n→p.2≠j)→β2 j=β j:=by
  refine ⟨fun j=>match at? (n.map fun p=>(p.2,p.1)) j with | some i=>β' i | none=>β j,fun i j hij=>?_,fun j hj=>?_⟩
  ·have:at? (n.map fun p=>(p.2,p.1)) j=some i:=at_of (by rw [List.map_map]; exact hn2) (List.mem_map.2 ⟨_,hij,rfl⟩)
   simp only [this]
  ·cases ha:at? (n.map fun p=>(p.2,p.1)) j with
   | none=>simp only [ha]
   | some i =>
    obtain ⟨p,hp,e⟩:=List.mem_map.1 (at_mem ha)
    cases e
    exact absurd rfl (hj p hp)
 have hq:∀i j,at? (qOf m n) i=some j→β2 j=β' i:=fun i j hij=>by
  have hij:=at_mem hij
  simp only [qOf,List.mem_append,List.mem_filter,Bool.not_eq_true',List.any_eq_false] at hij
  rcases hij with ⟨h1,h2⟩ | h1
  ·have h3:1000≤i:=by simpa using hm0 _ h1
   rw [he.lab i h3,hβ1 i j (at_of hm1 h1)]
   exact hold2 j fun p hp e=>h2 p hp (by rw [e]; exact Nat.beq_refl _)
  ·exact hnew2 i j h1
 have hblk:∀b,b < w.heap.size→(∀i c0 j c,(i,c0)∈H0→at? m i=some j→(j,c)∈st.H→blkOf (β j)≠some b)→w'.heap[b]?=w.heap[b]?:=fun b hb hno=>he.block b hb fun ho=>by
  obtain ⟨i,c0,j,c,h1,h2,h3,h4⟩:=hown b ho
  exact hno i c0 j c h1 h2 h3 h4
 have hF:Agree F w w':=fun b hb=>hblk b (hI.fsize b hb) fun i c0 j c _ _ h3 h4=>hI.apart b ⟨j,c,h3,h4⟩ hb
 have hrest:∀j c,(j,c)∈restH m n st.H→∃c0,(j,c0)∈st.H∧c=erCL n c0∧(∀i,at? m i≠some j)∧β2 j=β j∧∀p,p∈n→p.2≠j:=fun j c hc=>by
  obtain ⟨c0,h1,h2,h3,h4⟩:=restH_mem hc
  exact ⟨c0,h1,h2,fun i hi=>h3 _ (at_mem hi) rfl,hold2 j h4,h4⟩
 have hown1:∀b,Owned β' H1 b→w.heap.size≤b∨Owned β1 H0 b:=fun b hb=>he.owned b hb
 have hown2:∀b,Owned β2 (rlH (at? (qOf m n)) H1++restH m n st.H) b→Owned β' H1 b∨∃j c0,(j,c0)∈st.H∧(∀i,at? m i≠some j)∧blkOf (β j)=some b:=by
  rintro b ⟨j,c,hc,hb⟩
  rcases List.mem_append.1 hc with hc | hc
  ·obtain ⟨i,c0,h1,h2,_⟩:=rlH_mem hc
   exact .inl ⟨i,c0,h1,by rw [←hq i j h2]; exact hb⟩
  ·obtain ⟨c0,h1,_,h2,h3,_⟩:=hrest j c hc
   exact .inr ⟨j,c0,h1,h2,by rw [←h3]; exact hb⟩
 refine ⟨v,rfl,rl (at? (qOf m n)) 3 x,_,F',β2,hk,rl_rd hq 3 hr,?_⟩
 refine ⟨he.os,he.tape,he.output,he.size,fun b hb hno=>he.block b hb fun ho=>hno (hownO b ho),he.mono,fun b hb=>(he.new b hb).imp id fun h=>h.imp id (hownO b),fun b hb=>?_,fun t u hu=>?_,?_,fun i hi=>hold2 i fun p hp e=>?_⟩
 ·rcases hown2 b hb with h1 | ⟨j,c0,h1,_,h2⟩
  ·exact (hown1 b h1).imp id (hownO b)
  ·exact .inr ⟨j,c0,h1,h2⟩
 ·exact erL_rd hold2 (hu.frame hF he.mono)
 ·refine ⟨he.inv.fsize,fun j c hc=>?_,keysOk_nodup hk1,fun b hb hFb=>?_,fun j c j' c' b hc hc' hb hb'=>?_⟩
  ·rcases List.mem_append.1 hc with hc | hc
   ·obtain ⟨i,c0,h1,h2,rfl⟩:=rlH_mem hc
    exact rlC_holds hq h2 (he.inv.holds i c0 h1)
   ·obtain ⟨c0,h1,rfl,h2,h3,h4⟩:=hrest j c hc
    exact erCL_holds hold2 h4 (holds_frame hF he.mono (fun b hb=>hblk b (hI.owned_lt ⟨j,c0,h1,hb⟩) fun i c0' j' c' h5 h6 h7 h8=>by
     have:=hI.disj j _ j' _ b h1 h7 hb h8
     subst this
     exact h2 i h6) (hI.holds j c0 h1))
  ·rcases hown2 b hb with h1 | ⟨j,c0,h1,h2,h3⟩
   ·exact he.inv.apart b h1 hFb
   ·rcases he.new b hFb with h4 | h4 | h4
    ·exact hI.apart b ⟨j,c0,h1,h3⟩ h4
    ·exact absurd (hI.owned_lt ⟨j,c0,h1,h3⟩) (Nat.not_lt.2 h4)
    ·obtain ⟨i,_,j',c',_,h6,h7,h8⟩:=hown b h4
     have:=hI.disj j _ j' _ b h1 h7 h3 h8
     subst this
     exact h2 i h6
  ·have cross:∀i c0 j c1,(i,c0)∈H1→blkOf (β' i)=some b→(j,c1)∈st.H→(∀i,at? m i≠some j)→blkOf (β j)=some b→False:=fun i c0 j c1 h1 h2 h3 h4 h5=>by
    rcases hown1 b ⟨i,c0,h1,h2⟩ with h6 | h6
    ·exact absurd (hI.owned_lt ⟨j,c1,h3,h5⟩) (Nat.not_lt.2 h6)
    ·obtain ⟨i',_,j',c',_,h7,h8,h9⟩:=hown b h6
     have:=hI.disj j _ j' _ b h3 h8 h5 h9
     subst this
     exact h4 i' h7
   rcases List.mem_append.1 hc with hc | hc <;> rcases List.mem_append.1 hc' with hc' | hc'
   ·obtain ⟨i,c0,h1,h2,_⟩:=rlH_mem hc
    obtain ⟨i',c0',h1',h2',_⟩:=rlH_mem hc'
    rw [hq i j h2] at hb
    rw [hq i' j' h2'] at hb'
    have:=he.inv.disj i _ i' _ b h1 h1' hb hb'
    subst this
    rw [h2] at h2'; exact Option.some.inj h2'
   ·obtain ⟨i,c0,h1,h2,_⟩:=rlH_mem hc
    obtain ⟨c1,h3,_,h4,h5,_⟩:=hrest j' c' hc'
    rw [hq i j h2] at hb
    rw [h5] at hb'
    exact (cross i c0 j' c1 h1 hb h3 h4 hb').elim
   ·obtain ⟨i,c0,h1,h2,_⟩:=rlH_mem hc'
    obtain ⟨c1,h3,_,h4,h5,_⟩:=hrest j c hc
    rw [hq i j' h2] at hb'
    rw [h5] at hb
    exact (cross i c0 j c1 h1 hb' h3 h4 hb).elim
   ·obtain ⟨c1,h3,_,h4,h5,_⟩:=hrest j c hc
    obtain ⟨c1',h3',_,h4',h5',_⟩:=hrest j' c' hc'
    rw [h5] at hb
    rw [h5'] at hb'
    exact hI.disj j _ j' _ b h3 h3' hb hb'
 ·have:p.2 < 1000:=by simpa [Nat.blt_eq] using hn0 p hp
  omega
theorem pgen_of_ok {g n : Nat} {fn : Func} {c : Code} {args : List AV} {H0 H1 : Hp} {r : AV} (hT : TOk P T) (hfn : P.funcs[g]? = some fn) (hnm : (fn.name == "runtime.NumGoroutine") = false) (hb : fn.body = some c) (hn : fn.ntmps = n) (hle : args.length ≤ n)
  (h:Ok P n c ⟨initf args,H0⟩ (fpost T fn.results.toList fun x s=>Wk ⟨upd noSlots 0 x,s.H⟩ ⟨Cat.tab [(0,r)],H1⟩)):CallOk P g args ⟨noSlots,H0⟩ fun x s=>x=r∧s.H=H1:=by
 refine ⟨⟨fn,c,hfn,hnm,hb⟩,fun w F β vs hI hs hv=>?_⟩
 refine (calls_of_ok hT hfn hb hn hle h hI hs hv).mono ?_
 rintro e w' ⟨v,rfl,x,st,F',β',hW,hx,he⟩
 obtain ⟨F2,β2,_,_,hf,h2⟩:=hW ⟨w,F,β,H0,1,none,.inl rfl⟩ { tmps:=#[v],defers:=[] } w' ⟨F',β',rfl,trivial,fun t=>by
  show Rd w' F' β' (bif Nat.beq t 0 then x else noSlots t) _
  cases t with
  | zero=>exact hx
  | succ t=>exact .junk,⟨he,fun d hd=>(List.not_mem_nil hd).elim,List.nodup_nil⟩⟩
 exact ⟨v,rfl,r,⟨noSlots,H1⟩,F2,β2,⟨rfl,rfl⟩,hf 0,h2.x⟩
theorem Ext.chunks {w0:World} {F0:Nat→Prop} {β0:Nat→Value} {st0:ASt} {H H':Hp} (h:Ext w0 F0 β0 st0 w F β ⟨noSlots,H⟩) (hmem:∀i c,(i,c)∈H'→(∃c0,(i,c0)∈H)∧c.holds w F β i) (hk:(H'.map (·.1)).Nodup):Ext w0 F0 β0 st0 w F β ⟨noSlots,H'⟩ where
 os:=h.os
 tape:=h.tape
 output:=h.output
 size:=h.size
 block:=h.block
 mono:=h.mono
 new:=h.new
 owned b hb:=h.owned b (by obtain ⟨i,c,hm,hb⟩:=hb; obtain ⟨⟨c0,h0⟩,_⟩:=hmem i c hm; exact ⟨i,c0,h0,hb⟩)
 keep _ _ _:=.junk
 inv:=⟨h.inv.fsize,fun i c hm=>(hmem i c hm).2,hk,
  fun b ⟨i,c,hm,hb⟩=>by obtain ⟨⟨c0,h0⟩,_⟩:=hmem i c hm; exact h.inv.apart b ⟨i,c0,h0,hb⟩,
  fun i c i' c' b hm hm' hb hb'=>by
   obtain ⟨⟨c0,h0⟩,_⟩:=hmem i c hm
   obtain ⟨⟨c1,h1⟩,_⟩:=hmem i' c' hm'
   exact h.inv.disj i c0 i' c1 b h0 h1 hb hb'⟩
 lab:=h.lab
theorem XM.chunks {C:Ctx} {ds:List Deferred} {H H':Hp} (h:XM C ds w F β H) (hmem:∀i c,(i,c)∈H'→(∃c0,(i,c0)∈H)∧c.holds w F β i) (hk:(H'.map (·.1)).Nodup):XM C ds w F β H' :=
 h.trans ((Ext.refl (st:=⟨noSlots,H⟩) h.inv).chunks hmem hk)
def mvF (i d:Nat):Nat→Option Nat:=fun x=>bif Nat.beq x i then some d else bif Nat.beq x d then none else some x
theorem Wk.mv {st:ASt} {i d:Nat} (hd:Nat.blt d 1000=true) (hne:Nat.beq d i=false) (hk:keysOk (rlH (mvF i d) st.H)=true):Wk st ⟨fun t=>rl (mvF i d) 2 (st.f t),rlH (mvF i d) st.H⟩:=fun C a w hr=>by
 obtain ⟨F,β,hs,hdf,hf,he⟩:=hr
 have hd:d < 1000:=by simpa [Nat.blt_eq] using hd
 have hne:d≠i:=fun e=>by rw [e,Nat.beq_refl] at hne; cases hne
 let β':Nat→Value:=fun x=>if x=d then β i else β x
 have hβ:∀x y,mvF i d x=some y→β' y=β x:=fun x y h=>by
  unfold mvF at h
  cases h1:Nat.beq x i with
  | true=>rw [h1] at h; cases h; rw [Nat.eq_of_beq_eq_true h1]; exact if_pos rfl
  | false =>
   rw [h1] at h
   cases h2:Nat.beq x d with
   | true=>rw [h2] at h; cases h
   | false =>
    rw [h2] at h; cases h
    exact if_neg fun e=>by rw [e,Nat.beq_refl] at h2; cases h2
 have hinj:∀x x' y,mvF i d x=some y→mvF i d x'=some y→x=x':=fun x x' y h h'=>by
  unfold mvF at h h'
  cases h1:Nat.beq x i <;> cases h1':Nat.beq x' i <;> rw [h1] at h <;> rw [h1'] at h' <;> simp only [cond_true,cond_false] at h h'
  ·cases h2:Nat.beq x d <;> cases h2':Nat.beq x' d <;> rw [h2] at h <;> rw [h2'] at h' <;> simp_all
  ·cases h2:Nat.beq x d <;> rw [h2] at h <;> simp_all
  ·cases h2':Nat.beq x' d <;> rw [h2'] at h' <;> simp_all
  ·rw [Nat.eq_of_beq_eq_true h1,Nat.eq_of_beq_eq_true h1']
 have hown:∀b,Owned β' (rlH (mvF i d) st.H) b→Owned β st.H b:=by
  rintro b ⟨j,c,hc,hb⟩
  obtain ⟨x,c0,h1,h2,_⟩:=rlH_mem hc
  exact ⟨x,c0,h1,by rw [←hβ x j h2]; exact hb⟩
 refine ⟨F,β',hs,hdf,fun t=>rl_rd hβ 2 (hf t),he.trans (f:=noSlots) (f':=noSlots) ⟨rfl,SameT.refl _,rfl,Nat.le_refl _,fun _ _ _=>rfl,fun _ h=>h,fun _ h=>.inl h,fun b hb=>.inr (hown b hb),fun _ _ _=>.junk,?_,fun x hx=>if_neg (by omega)⟩⟩
 ·refine ⟨he.inv.fsize,fun j c hc=>?_,keysOk_nodup hk,fun b hb=>he.inv.apart b (hown b hb),fun j c j' c' b hc hc' hb hb'=>?_⟩
  ·obtain ⟨x,c0,h1,h2,rfl⟩:=rlH_mem hc
   exact rlC_holds hβ h2 (he.inv.holds x c0 h1)
  ·obtain ⟨x,c0,h1,h2,_⟩:=rlH_mem hc
   obtain ⟨x',c0',h1',h2',_⟩:=rlH_mem hc'
   rw [hβ x j h2] at hb
   rw [hβ x' j' h2'] at hb'
   have:=he.inv.disj x _ x' _ b h1 h1' hb hb'
   subst this
   rw [h2] at h2'; exact Option.some.inj h2'
theorem Wk.ownb {st:ASt} {b q id E K:Nat} {cells:List AV} (hlt:Nat.blt id 1000=true) (hb:findC b (erH id st.H)=some (.box cells)) (hq:cells[q]?=some (.v (.slice none 0 0))) :
  Wk st ⟨fun t=>er 2 id (st.f t),(id,.own E K [])::setC b (.box (cells.set q (.o id))) (erH id st.H)⟩:=fun C a w hr=>by
 obtain ⟨F,β,hs,hd,hf,he⟩:=hr
 have hlow:id < 1000:=by simpa using hlt
 have hbl:Below w.heap.size w w:=Below.refl _ _
 have hx:=ext_bindF (st:=⟨noSlots,st.H⟩) (w':=w) (F':=F) (c:=.own E K []) (v:=.slice none 0 0) hlow he.inv hbl (fun _ h=>h) (fun _ h=>.inl h) (fun b hb=>by cases hb) (.inl ⟨rfl,none,by simp⟩)
 have hβ:∀i,i≠id→(fun i=>if i=id then Value.slice none 0 0 else β i) i=β i:=fun i hi=>if_neg hi
 have h2:=(he.trans hx).noS
 have hmb:(b,Chunk.box cells)∈erH id st.H:=findC_mem hb
 refine ⟨F,_,hs,hd,fun t=>er_rd hβ 2 (hf t),h2.chunks (fun i c hm=>?_) ?_⟩
 ·rcases List.mem_cons.1 hm with hm | hm
  ·cases hm
   exact ⟨⟨_,List.mem_cons_self⟩,h2.inv.holds _ _ List.mem_cons_self⟩
  ·rcases setC_mem hm with ⟨rfl,rfl,c0,h0⟩ | ⟨_,h0⟩
   ·refine ⟨⟨c0,List.mem_cons_of_mem _ h0⟩,?_⟩
    obtain ⟨blk,cs,e,h1,hh,hsz,hone,hrd⟩:=h2.inv.holds i _ (List.mem_cons_of_mem _ hmb)
    refine ⟨blk,cs,e,h1,hh,by simpa using hsz,fun j hj=>hone j (by simpa using hj),fun j hj=>?_⟩
    have hj':j < cells.length:=by simpa using hj
    by_cases hjq:j=q
    ·subst hjq
     have e1:(cells.set j (.o id)).getD j .junk=.o id:=by simp [List.getD,hj']
     have e2:=hrd j hj'
     rw [List.getD_eq_getElem?_getD,hq,Option.getD_some] at e2
     rw [e1,e2.v_inv]
     exact .o (by simp)
    ·have e1:(cells.set q (.o id)).getD j .junk=cells.getD j .junk:=by simp [List.getD,List.getElem?_set_ne (Ne.symm hjq)]
     rw [e1]; exact hrd j hj'
   ·exact ⟨⟨c,List.mem_cons_of_mem _ h0⟩,h2.inv.holds _ _ (List.mem_cons_of_mem _ h0)⟩
 ·have:=h2.inv.keys
  simp only [bindSt,List.map_cons] at this ⊢
  rw [setC_keys]; exact this
end
end Go.Cat
set_option linter.all false
namespace Go.Cat
open Go.RowKit Go.Sort Go.Proofs Go.Shelf
section
variable {P:Program}
def SortISays (P:Program) (f:Nat):Prop :=
 (∀(p:Option Addr) (cap:Nat) (w:World),Calls P f #[.slice p 0 cap] w fun e w'=>e=.returned (.tuple #[])∧w'=w) ∧
 ∀(blk off cap:Nat) (zs:List Int) (w:World),Holds (Value.int .i64) w blk off zs.toArray→blk < w.heap.size→zs.length < 4611686018427387904 →
  Calls P f #[.slice (some ⟨blk,off,none⟩) zs.length cap] w fun e w'=>e=.returned (.tuple #[])∧∃n os,w'=grow (putRow (Value.int .i64) (Sort.ahead w n) blk off (zs.mergeSort fun x y=>decide (x≤y)).toArray) os
end
variable [M:Mono] [R:Rnds]
section
variable {P:Program}
theorem arr1 {vs:Array Value} (h:vs.size=1):vs=#[vs.getD 0 undef]:=by
 apply Array.ext
 ·simp [h]
 ·intro i h1 h2
  have:i=0:=by simp at h2; omega
  subst this; simp [h]
end
end Go.Cat
set_option linter.all false
namespace Go.Cat
def insI (x:Int):List Int→List Int
 | []=>[x]
 | y::r=>if x≤y then x::y::r else y::insI x r
def sortJ (l:List Int):List Int:=l.foldr insI []
def keysJ {α:Type} (l:List (Int×α)):List Int:=sortJ (l.map (·.1))
end Go.Cat
set_option linter.all false
namespace Go.CatSeq
open Go Go.RowKit Go.Proofs Go.Shelf Go.Maps Go.Sort
end Go.CatSeq
namespace Go.Cat
open Go.RowKit Go.Proofs Go.Shelf Go.Maps Go.Sort
def IntsIn (w:World) (sv:Value) (zs:List Int):Prop :=
 (∃a c,sv=.slice a 0 c∧zs=[])∨∃b off cap,sv=.slice (some ⟨b,off,none⟩) zs.length cap∧b < w.heap.size∧∀j,j < zs.length→w.cell? ⟨b,off+j,none⟩=some (.int .i64 (zs[j]?.getD 0))
def ValsStops (P:Program) (k1:Nat):Prop:=∀(Bs:Nat) (sv:Value) (zs:List Int) (w:World),zs.length * 8≤140737488351232→Bs < w.heap.size→w.cell? ⟨Bs,0,none⟩=some sv→IntsIn w sv zs →
 SeqStopsK Fence.wide 2 P k1 #[.pointer (some ⟨Bs,0,none⟩)] (fun x:Int=>#[encZ x]) (Go.RowKit.Below w.heap.size) (fun ys=>ys=zs) (fun pre=>pre <+: zs) zs.length w
def SortedVals (P:Program) (g k1 E:Nat):Prop:=∀(w:World) (Bm:Nat) (sv:Value) (zs:List Int),w.cell? ⟨Bm,0,none⟩=some sv→Bm < w.heap.size→IntsIn w sv zs→zs.length * 8≤140737488351232 →
 Calls P g #[.func (.func k1) #[] #[.pointer (some ⟨Bm,0,none⟩)]] w fun e w'=>∃v,e=.returned v ∧
  w'.ownsRow w.heap.size E 1 v zs.length ((zs.mergeSort fun x y=>decide (x≤y)).map (Value.int .i64))∧Go.RowKit.Below w.heap.size w w'
variable [M:Mono] [R:Rnds] {P:Program}
end Go.Cat
set_option linter.all false
namespace Go.Cat
open Go.Sort
class CmpOk {α:Type} (c:α→α→Option Int):Prop where
 ex:∃cf,CmpIs c cf
def insT {α:Type} (c:α→α→Option Int) (x:α):List α→Option (List α)
 | []=>some [x]
 | y::r=>match c x y,c y x with
  | some a,some b=>if a < 0 then (if b < 0 then none else some (x::y::r)) else if b < 0 then (match insT c x r with | some t=>some (y::t) | none=>none) else none
  | _,_=>none
def sortT {α:Type} (c:α→α→Option Int):List α→Option (List α)
 | []=>some []
 | x::r=>match sortT c r with
  | some t=>insT c x t
  | none=>none
section
variable {α:Type} {c:α→α→Option Int} {cf:α→α→Int}
theorem insT_ok (h:CmpIs c cf) (x:α):∀{l r:List α},insT c x l=some r→r.Perm (x::l)∧(l.Pairwise (fun x y=>cf x y < 0)→r.Pairwise (fun x y=>cf x y < 0))
 | [],r,e=>by cases e; exact ⟨.refl _,fun _=>List.pairwise_singleton _ _⟩
 | y::l,r,e=>by
  simp only [insT,h.1] at e
  by_cases h1:cf x y < 0
  ·rw [if_pos h1] at e
   by_cases h2:cf y x < 0
   ·rw [if_pos h2] at e; cases e
   ·rw [if_neg h2] at e; cases e
    refine ⟨.refl _,fun hp=>List.pairwise_cons.2 ⟨fun z hz=>?_,hp⟩⟩
    rcases List.mem_cons.1 hz with rfl | hz
    ·exact h1
    ·have h3:=(List.pairwise_cons.1 hp).1 z hz
     have:=h.2.trans x y z (decide_eq_true h1) (decide_eq_true h3)
     simpa using this
  ·rw [if_neg h1] at e
   by_cases h2:cf y x < 0
   ·rw [if_pos h2] at e
    cases ht:insT c x l with
    | none=>rw [ht] at e; cases e
    | some t =>
     rw [ht] at e; cases e
     obtain ⟨h3,h4⟩:=insT_ok h x ht
     refine ⟨((List.perm_cons y).2 h3).trans (.swap x y l),fun hp=>?_⟩
     have hp':=List.pairwise_cons.1 hp
     refine List.pairwise_cons.2 ⟨fun z hz=>?_,h4 hp'.2⟩
     rcases List.mem_cons.1 (h3.mem_iff.1 hz) with rfl | hz
     ·exact h2
     ·exact hp'.1 z hz
   ·rw [if_neg h2] at e; cases e
theorem sortT_ok (h:CmpIs c cf):∀{l r:List α},sortT c l=some r→r.Perm l∧r.Pairwise (fun x y=>cf x y < 0)
 | [],r,e=>by cases e; exact ⟨.refl _,.nil⟩
 | x::l,r,e=>by
  simp only [sortT] at e
  cases ht:sortT c l with
  | none=>rw [ht] at e; cases e
  | some t =>
   rw [ht] at e
   obtain ⟨h1,h2⟩:=sortT_ok h ht
   obtain ⟨h3,h4⟩:=insT_ok h x e
   exact ⟨h3.trans ((List.perm_cons x).2 h1),h4 h2⟩
theorem sortT_eq [Inhabited α] [hc:CmpOk c] {l r:List α} (h:sortT c l=some r) (hl:l.length≤140737488355328):sortF c l=some r:=by
 obtain ⟨cf,hcf⟩:=hc.ex
 obtain ⟨h1,h2⟩:=sortT_ok hcf h
 obtain ⟨r',e,h3,h4⟩:=sortF_ok hcf hl
 rw [e]
 have hasym:∀{x y:α},cf x y < 0→¬cf y x < 0:=fun {x y} h1 h2=>by
  have:=hcf.2.trans x y x (decide_eq_true h1) (decide_eq_true h2)
  have hi:=hcf.2.irrefl x
  rw [hi] at this; cases this
 have hcmp:∀a,a∈r→∀b,b∈r→a=b∨cf a b < 0∨cf b a < 0:=fun a ha b hb=>by
  obtain ⟨i,hi,rfl⟩:=List.mem_iff_getElem.1 ha
  obtain ⟨j,hj,rfl⟩:=List.mem_iff_getElem.1 hb
  have hp:=List.pairwise_iff_getElem.1 h2
  rcases Nat.lt_trichotomy i j with h | h | h
  ·exact .inr (.inl (hp i j hi hj h))
  ·subst h; exact .inl rfl
  ·exact .inr (.inr (hp j i hj hi h))
 refine congrArg some (List.Perm.eq_of_pairwise (le:=fun x y=>¬cf y x < 0) (fun a b ha hb hab hba=>?_) h4 (h2.imp fun h=>hasym h) (h3.trans h1.symm))
 rcases hcmp a ((h3.trans h1.symm).mem_iff.1 ha) b hb with h | h | h
 ·exact h
 ·exact absurd h hba
 ·exact absurd h hab
def sortTc (c:α→α→Option Int) (l:List α):Option (List α):=chk (l.length≤140737488355328) (sortT c l)
theorem le_sortT [Inhabited α] [CmpOk c] (l:List α):Le0 (sortTc c l) (sortF c l):=fun r h=>by
 obtain ⟨h1,h2⟩:=chk_some h
 exact sortT_eq h2 h1
end
open Classical in
noncomputable def sortG {α:Type} (c:α→α→Option Int) (l:List α):Option (List α):=chk (l.length≤140737488355328) (if ∃cf,CmpIs c cf then sortT c l else none)
theorem sortG_some {α:Type} {c:α→α→Option Int} {l r:List α} (h:sortG c l=some r):l.length≤140737488355328∧∃cf,CmpIs c cf∧sortT c l=some r:=by
 unfold sortG at h
 obtain ⟨hl,h⟩:=chk_some h
 refine ⟨hl,?_⟩
 split at h
 ·rename_i hex; exact ⟨_,hex.choose_spec,h⟩
 ·cases h
theorem sortG_eq {α:Type} {c:α→α→Option Int} [hc:CmpOk c] {l r:List α} (hl:l.length≤140737488355328) (h:sortT c l=some r):sortG c l=some r:=by
 unfold sortG
 rw [chk_pos hl,if_pos hc.ex,h]
theorem le_sortG {α:Type} {c:α→α→Option Int} [CmpOk c] (l:List α):Le0 (sortTc c l) (sortG c l):=fun r h=>by
 obtain ⟨h1,h2⟩:=chk_some h
 exact sortG_eq h1 h2
end Go.Cat
set_option linter.all false
namespace Go.Cat
open Go.RowKit
variable [M:Mono]
def setPs:List (Nat×AV)→(Nat→AV)→Nat→AV
 | [],f=>f
 | (t,x)::r,f=>setPs r (upd f t x)
section
variable [R:Rnds] {P:Program} {w:World} {F:Nat→Prop} {β β':Nat→Value}
def ge1000 (i:Nat):Option Nat:=bif Nat.ble 1000 i then some i else none
def rnd (k:LS→ASt→Prop):Exit→ASt→Prop
 | .normal,s=>k .rdy s
 | .ret,s=>k .ret s
 | .exit i,s=>k (.ex i) s
 | _,_=>False
def asg (P:Program) (R0:RF) (k:LS→ASt→Prop):Exit→ASt→Prop:=fun e s=>match e with
 | .normal=>Ok P R0.n R0.body s (rnd k)
 | _=>False
theorem inv_put {H:Hp} {l:Nat} {o:Obj} (hI:Inv w F β H) (hF:¬F l) (ho:¬Owned β H l):Inv (w.putObj l o) F β H :=
 have ha:Agree F w (w.putObj l o):=fun b hb=>World.putObj_heap_other fun e=>hF (e▸hb)
 ⟨fun b hb=>by rw [World.putObj_size]; exact hI.fsize b hb,fun i c hm=>holds_frame ha (fun _ h=>h) (fun b hb=>World.putObj_heap_other fun e=>ho (e▸⟨i,c,hm,hb⟩)) (hI.holds i c hm),hI.keys,hI.apart,hI.disj⟩
end
section
variable {P:Program}
def rfs (n:Nat):Code→List RF
 | .seq a b=>rfs n a++rfs n b
 | .cond _ a b=>rfs n a++rfs n b
 | .block _ c=>rfs n c
 | .loop c=>rfs n c
 | .scope c=>rfs n c
 | .rangeFunc _ ps a b=>⟨ps,a,b,n⟩::(rfs n a++rfs n b)
 | _=>[]
def rfq (e:LS) (s:ASt) (Q:Exit→ASt→Prop):Prop:=match e with
 | .rdy=>Q .normal s
 | .ret=>Q .ret s
 | .ex i=>Q (.exit i) s
 | .bsy=>False
section
variable {ρ:Type} {X Y:Option ρ} {r:ρ} {e:LS} {s:ASt} {Q:Exit→ASt→Prop}
end
theorem HasF.mem {f:Nat→AV}:∀{L:List (Nat×AV)},HasF f L→∀p,p∈L→Le (f p.1) p.2
 | [],_,_,h=>by cases h
 | (t,x)::r,hh,p,h=>by
  rcases List.mem_cons.1 h with h | h
  ·subst h; exact hh.1
  ·exact hh.2.mem p h
theorem Ok.rangeFunc {n lid gf:Nat} {g:Operand} {ps:Array Tmp} {assign body:Code} {R0:RF} {cs:List AV} {L:List (Nat×AV)} {st:ASt} {Q:Exit→ASt→Prop} (hR0:R0=⟨ps,assign,body,n⟩)
  (hlow:Nat.blt lid 1000=true) (hg:ev (fun t=>er 2 lid (st.f t)) g=.c (.func gf) [] cs) (hL:HasF (fun t=>er 2 lid (st.f t)) L)
  (h:∀l,CallOk P (.f gf) (.c (.yield l) [] []::cs) ⟨fun t=>er 2 lid (st.f t),(lid,.lp l .rdy R0 L)::erH lid st.H⟩ fun _ s=>∃e R' L',findC lid s.H=some (.lp l e R' L')∧rfq e ⟨s.f,dropC lid s.H⟩ Q) :
  Ok (R:=Rnds.no) P n (.rangeFunc g ps assign body) st Q:=by
 letI:Rnds:=Rnds.no
 refine ⟨fun C hn a w hrel=>?_⟩
 have hlow:lid < 1000:=by simpa using hlow
 have hro:C.ro=none:=C.hro.resolve_right fun h=>h
 obtain ⟨F,β,hs,_,hf,he⟩:=hrel
 refine wpIn_rangeFunc fun fn _=>?_
 have hroF:(fen C.ro).round=none:=hro
 rw [hroF]
 obtain ⟨W1,hW1⟩:∃W1,(w.alloc (.deferred (some []))).alloc (.loop { state:=.ready,pending:=none,fn,tmps:=a.tmps,params:=ps,assign,body,defers:=w.heap.size })=W1:=⟨_,rfl⟩
 have hL1:W1.heap[w.heap.size+1]?=some (.loop { state:=.ready,pending:=none,fn,tmps:=a.tmps,params:=ps,assign,body,defers:=w.heap.size }):=by
  rw [←hW1]; have:=World.alloc_heap_new (w.alloc (.deferred (some []))) (.loop { state:=.ready,pending:=none,fn,tmps:=a.tmps,params:=ps,assign,body,defers:=w.heap.size }); rwa [World.size_alloc] at this
 have hK1:W1.heap[w.heap.size]?=some (.deferred (some [])):=by
  rw [←hW1]; exact (Go.RowKit.Below.heap_alloc _ _ _ (by simp)).trans (World.alloc_heap_new w _)
 have hold:∀b,b < w.heap.size→W1.heap[b]?=w.heap[b]?:=fun b hb=>by
  rw [←hW1]; exact (Go.RowKit.Below.heap_alloc _ _ _ (by simp; omega)).trans (Go.RowKit.Below.heap_alloc _ _ _ hb)
 have hsz1:W1.heap.size=w.heap.size+2:=by rw [←hW1]; simp
 let β2:Nat→Value:=fun i=>if i=lid then .pointer (some ⟨w.heap.size+1,0,none⟩) else β i
 have hI:=he.inv
 have ha1:Agree F w W1:=fun b hb=>hold b (hI.fsize b hb)
 have hβ2:∀i,i≠lid→β2 i=β i:=fun i hi=>if_neg hi
 have hrd2:∀t,Rd W1 F β2 (er 2 lid (st.f t)) (a.tmps.getD t undef):=fun t=>er_rd hβ2 2 ((hf t).frame ha1 fun _ h=>h)
 have hb2:Ext w F β ⟨st.f,st.H⟩ W1 F β2 ⟨fun t=>er 2 lid (st.f t),(lid,.lp (w.heap.size+1) .rdy R0 L)::erH lid st.H⟩:=by
  refine ext_bind hlow hI (by rw [←hW1]; rfl) (by rw [←hW1]; exact ⟨rfl,fun _=>Nat.le_refl _⟩) (by rw [←hW1]; rfl) (by omega) (fun b hb _=>hold b hb) (fun i c' b _ hm hb=>hold b (hI.owned_lt ⟨i,c',hm,hb⟩)) (fun b hb=>.inl ?_) ?_
  ·simp only [blkOf,Option.some.injEq] at hb; omega
  ·rw [hR0]
   exact ⟨fn,a.tmps,w.heap.size,if_pos rfl,hL1,by show a.tmps.size=n; rw [hs,hn],fun p hp=>hL.mem p hp _ _ _ _ (hrd2 p.1)⟩
 have hIb:=hb2.inv
 have hgv:Rd W1 F β2 (.c (.func gf) [] cs) (a.eval g):=by rw [←hg]; exact ev_rd hrd2 g
 obtain ⟨us,ws,hge,hus,hws,_,hwr⟩:=hgv.c_inv
 have e1:us=#[]:=Array.eq_empty_of_size_eq_zero (by simpa using hus)
 subst e1
 have hc:=h (w.heap.size+1)
 obtain ⟨⟨fn0,c0,hfn,hnm,hbody⟩,hcall⟩:=hc
 have hnm' : ¬ fn0.name = "runtime.NumGoroutine" := by simpa using hnm
 refine ⟨w.heap.size+1,[{ target:=.collected w.heap.size,args:=#[] }],W1,{ target:=.fn (.func gf) ws,args:=#[.func (.yield (w.heap.size+1)) #[] #[]] },W1,gf,#[.func (.yield (w.heap.size+1)) #[] #[]]++ws,W1,?_,?_,fun _ _=>trivial,?_,fun h=>(by cases h),?_⟩
 ·rw [←hW1]; exact run_enterLoop_outer _ _ _ _ _
 ·simp only [resolve,hge]
  simp [go_sem]
 ·simp [invoke,callFunc,hfn,hnm',hbody]
 refine callsIn_fen (Calls.mono (hcall W1 F β2 _ hIb (by simp [hws]; omega) fun i hi=>?_) ?_)
 ·cases i with
  | zero =>
   have h0:(#[Value.func (Fn.yield (w.heap.size+1)) #[] #[]]++ws).getD 0 undef=.func (.yield (w.heap.size+1)) #[] #[]:=by simp [Array.getElem?_append]
   rw [h0]
   exact .i (.c rfl rfl (fun i hi=>absurd hi (Nat.not_lt_zero _)) (fun i hi=>absurd hi (Nat.not_lt_zero _)))
  | succ i =>
   have hi:i < cs.length:=by simpa using hi
   have h2:i < ws.size:=by omega
   have:=hwr i hi
   simpa [Array.getElem?_append,h2,List.getD] using this
 rintro e w' ⟨v,rfl,r,s,F',β',⟨e,R',L',hfind,hq⟩,hr,hx⟩
 have hm:=findC_mem hfind
 obtain ⟨fn',tmps',D',hβ',hh',_,_⟩:=hx.inv.holds lid _ hm
 have hne:e.st≠.busy:=by cases e <;> first | (intro h; cases h; done) | exact hq.elim
 have hend:=run_endLoop (P:=P) hh' hne
 obtain ⟨ob,hob⟩:∃ob:Obj,w'.putObj (w.heap.size+1) ob=w'.putObj (w.heap.size+1) (.loop { state:=.exhausted,pending:=e.pend,fn:=fn',tmps:=tmps',params:=R'.ps,assign:=R'.assign,body:=R'.body,defers:=D' }):=⟨_,rfl⟩
 have hlt':=blk_lt_of_heap hh'
 have hlO:Owned β' s.H (w.heap.size+1):=⟨lid,_,hm,by rw [hβ']; rfl⟩
 have hlF:¬F' (w.heap.size+1):=hx.inv.apart _ hlO
 have hdO:∀b,Owned β' (dropC lid s.H) b→Owned β' s.H b∧b≠w.heap.size+1:=fun b ⟨i,c,hmi,hb⟩=>by
  obtain ⟨h1,h2⟩:=dropC_mem.1 hmi
  exact ⟨⟨i,c,h1,hb⟩,fun e=>h2 (hx.inv.disj i c lid _ b h1 hm hb (by rw [hβ',e]; rfl))⟩
 generalize hw4:w'.putObj (w.heap.size+1) (.loop { state:=.exhausted,pending:=e.pend,fn:=fn',tmps:=tmps',params:=R'.ps,assign:=R'.assign,body:=R'.body,defers:=D' })=w4
 have hend':(Instr.endLoop (w.heap.size+1)).run P w'=.ok e.pend w4:=by rw [hend,←hw4]
 have hoth:∀b,b≠w.heap.size+1→w4.heap[b]?=w'.heap[b]?:=fun b hb=>by rw [←hw4]; exact World.putObj_heap_other hb
 have hI4:Inv w4 F' β' (dropC lid s.H):=by rw [←hw4]; exact inv_put (hx.inv.dropC lid) hlF fun ho=>(hdO _ ho).2 rfl
 have ha4:Agree F' w' w4:=fun b hb=>hoth b fun e=>hlF (e▸hb)
 have hd4:Ext w' F' β' ⟨noSlots,s.H⟩ w4 F' β' ⟨noSlots,dropC lid s.H⟩ :=
  ⟨by rw [←hw4]; rfl,by rw [←hw4]; exact ⟨rfl,fun _=>Nat.le_refl _⟩,by rw [←hw4]; rfl,by rw [←hw4,World.putObj_size]; exact Nat.le_refl _,fun b _ ho=>hoth b fun e=>ho (e▸hlO),fun _ h=>h,fun _ h=>.inl h,fun b ho=>.inr (hdO b ho).1,fun _ _ _=>.junk,hI4,fun _ _=>rfl⟩
 have he4:=((he.trans hb2).trans hx.no).trans hd4
 have hDn:¬Owned β2 ((lid,Chunk.lp (w.heap.size+1) .rdy R0 L)::erH lid st.H) w.heap.size:=fun ⟨i,c,hmi,hb⟩=>by
  rcases List.mem_cons.1 hmi with hmi | hmi
  ·cases hmi
   rw [show β2 lid=.pointer (some ⟨w.heap.size+1,0,none⟩) from if_pos rfl] at hb
   simp only [blkOf,Option.some.injEq] at hb; omega
  ·obtain ⟨h1,c1,h2,_⟩:=erH_mem hmi
   rw [hβ2 i h1] at hb
   exact absurd (hI.owned_lt ⟨i,c1,h2,hb⟩) (Nat.lt_irrefl _)
 have hrelN:Rel C ⟨s.f,dropC lid s.H⟩ { a with defers:=[{ target:=.collected w.heap.size,args:=#[] }]++a.defers } w4:=by
  refine ⟨F',β',hs,trivial,fun t=>((hx.keep t _ (hrd2 t)).frame ha4 fun _ h=>h),he4.x,fun d hd=>?_,?_⟩
  ·rcases List.mem_append.1 hd with hd | hd
   ·obtain rfl:=List.mem_singleton.1 hd
    refine ⟨w.heap.size,rfl,he.x.size,?_,fun hF=>?_,fun ho=>?_⟩
    ·rw [hoth _ (by omega),hx.block _ (by omega) hDn,hK1]
    ·rcases hx.new _ hF with h | h | h
     ·exact absurd (hI.fsize _ h) (Nat.lt_irrefl _)
     ·omega
     ·exact hDn h
    ·rcases hx.owned _ (hdO _ ho).1 with h | h
     ·omega
     ·exact hDn h
   ·exact he4.m d hd
  ·refine List.nodup_append.2 ⟨by simp,he.nd,fun x hx1 y hy e=>?_⟩
   obtain rfl:=List.mem_singleton.1 hx1
   subst e
   obtain ⟨D2,q1,_,q3,_⟩:=he.m _ hy
   have:=blk_lt_of_heap q3
   simp only [Deferred.mk.injEq,Target.collected.injEq] at q1
   omega
 refine ⟨e.pend,w4,hend',?_⟩
 cases e with
 | rdy=>exact ⟨_,hrelN,hq⟩
 | ret=>exact wpIn_ret ⟨_,hrelN,hq⟩
 | ex i=>exact wpIn_exit ⟨_,hrelN,hq⟩
 | bsy=>exact hq.elim
end
end Go.Cat
namespace Go.Cat
open Go.RowKit
theorem R0 {α:Type} {x:Option α}:Le0 x x:=Le0.refl x
theorem B0 {α β:Type} {x y:Option α} {f g:α→Option β} (h:Le0 x y) (hf:∀a,Le0 (f a) (g a)):Le0 (x.bind f) (y.bind g):=Le0.bind h hf
theorem K0 {α:Type} {p:Prop} [Decidable p] {x y:Option α} (h:Le0 x y):Le0 (Cat.chk p x) (Cat.chk p y):=Le0.chk h
theorem I0 {α:Type} {p:Prop} [Decidable p] {x y x' y':Option α} (h:Le0 x y) (h':Le0 x' y'):Le0 (if p then x else x') (if p then y else y'):=Le0.ite h h'
theorem O0 {σ ρ:Type} {x y:Option ρ} (h:Le0 x y):Le0 (Cat.out (σ:=σ) x) (Cat.out y):=Le0.out h
theorem lr {a:AV}:Le a a:=fun _ _ _ _ h=>h
theorem Q0:True:=True.intro
theorem Q1 {a:AV}:Le a a∧True:=⟨lr,Q0⟩
theorem Q2 {a b:AV}:Le a a∧Le b b∧True:=⟨lr,Q1⟩
theorem Q3 {a b c:AV}:Le a a∧Le b b∧Le c c∧True:=⟨lr,Q2⟩
theorem Q4 {a b c d:AV}:Le a a∧Le b b∧Le c c∧Le d d∧True:=⟨lr,Q3⟩
theorem Q5 {a b c d e:AV}:Le a a∧Le b b∧Le c c∧Le d d∧Le e e∧True:=⟨lr,Q4⟩
theorem Q6 {a b c d e f:AV}:Le a a∧Le b b∧Le c c∧Le d d∧Le e e∧Le f f∧True:=⟨lr,Q5⟩
theorem Q7 {a b c d e f g:AV}:Le a a∧Le b b∧Le c c∧Le d d∧Le e e∧Le f f∧Le g g∧True:=⟨lr,Q6⟩
theorem Q8 {a b c d e f g h:AV}:Le a a∧Le b b∧Le c c∧Le d d∧Le e e∧Le f f∧Le g g∧Le h h∧True:=⟨lr,Q7⟩
theorem hr {c:Chunk}:∃c0,some c=some c0∧ChLe c0 c:=⟨_,rfl,.refl _⟩
theorem J1 {a:Chunk}:(∃c0,some a=some c0∧ChLe c0 a)∧True:=⟨⟨_,rfl,.refl _⟩,Q0⟩
theorem J2 {a b:Chunk}:(∃c0,some a=some c0∧ChLe c0 a)∧(∃c0,some b=some c0∧ChLe c0 b)∧True:=⟨⟨_,rfl,.refl _⟩,J1⟩
theorem J3 {a b c:Chunk}:(∃c0,some a=some c0∧ChLe c0 a)∧(∃c0,some b=some c0∧ChLe c0 b)∧(∃c0,some c=some c0∧ChLe c0 c)∧True:=⟨⟨_,rfl,.refl _⟩,J2⟩
theorem J4 {a b c d:Chunk}:(∃c0,some a=some c0∧ChLe c0 a)∧(∃c0,some b=some c0∧ChLe c0 b)∧(∃c0,some c=some c0∧ChLe c0 c)∧(∃c0,some d=some c0∧ChLe c0 d)∧True:=⟨⟨_,rfl,.refl _⟩,J3⟩
theorem sj {α:Type} {a b:α} (h:some a=some b):b=a:=(Option.some.inj h).symm
section
variable [M:Mono] [R:Rnds]
variable {P:Program} {n:Nat} {st:ASt} {Q:Exit→ASt→Prop} {T:TT}
theorem wT {c:Code} (L:List (Nat×AV)) (H':Hp) (a:HasF st.f L) (b:HasH st.H H') (k:keysOk H'=true) (h:Ok P n c ⟨Cat.tab L,H'⟩ Q):Ok P n c st Q:=Ok.wk (Wk.tab a b k) h
theorem Sg {id:Nat} {ops:Array Oper} {y:Code} (hT:TOk P T) (h:wpo P T n ops ops.toList st (nx P n y Q .normal)):Ok P n (.seq (.region id ops false) y) st Q:=Ok.seq (Ok.region hT h)
theorem wE {c:Code} (L:List (Nat×AV)) (a:HasF st.f L) (h:Ok P n c ⟨Cat.tab L,[]⟩ Q):Ok P n c st Q:=Ok.wk (Wk.tab (H':=[]) a Q0 rfl) h
theorem cn {x y:Code} {ρ:Type} {X Y:Option ρ} {r:ρ} (d:Nat) (b:Bool) (hb:st.f d=.v (.bool b)) (h:(if b=true then X else Y)=some r) (yes:b=true→X=some r→Ok P n x st Q) (no:b=false→Y=some r→Ok P n y st Q):Ok P n (.cond (.tmp d) x y) st Q:=Ok.cond hb h yes no
theorem sq {x y:Code} (h:Ok P n x st (nx P n y Q)):Ok P n (.seq x y) st Q:=Ok.seq h
theorem bl {id:Nat} {c:Code} (h:Ok P n c st (bk id Q)):Ok P n (.block id c) st Q:=Ok.block h
theorem sk (h:Q .normal st):Ok P n .skip st Q:=Ok.skip h
theorem rt (h:Q .ret st):Ok P n .ret st Q:=Ok.ret h
theorem xt {id:Nat} (h:Q (.exit id) st):Ok P n (.exit id) st Q:=Ok.exit h
theorem wt {L:List (Nat×AV)} {H':Hp} (hL:HasF st.f L) (hH:HasH st.H H') (hk:keysOk H'=true):Wk st ⟨Cat.tab L,H'⟩:=Wk.tab hL hH hk
theorem po {g : Nat} {fn : Func} {args : List AV} {r : AV} (hT : TOk P T) (n : Nat) (hfn : P.funcs[g]? = some fn) (hnm : (fn.name == "runtime.NumGoroutine") = false) (hb : fn.body = some (fn.body.getD .skip)) (hn : fn.ntmps = n) (hle : Nat.ble args.length n = true)
  (h:Ok P n (fn.body.getD .skip) ⟨initf args,[]⟩ (fpost T fn.results.toList fun x st=>Fz st.H x r)):Pure P g args r:=pure_of_ok hT hfn hnm hb hn (Nat.le_of_ble_eq_true hle) h
theorem pw {g E K : Nat} {fn : Func} {args : List AV} {rows : List (List AV)} (hT : TOk P T) (n : Nat) (hfn : P.funcs[g]? = some fn) (hnm : (fn.name == "runtime.NumGoroutine") = false) (hb : fn.body = some (fn.body.getD .skip)) (hn : fn.ntmps = n) (hle : Nat.ble args.length n = true)
  (h:Ok P n (fn.body.getD .skip) ⟨initf args,[]⟩ (fpost T fn.results.toList (EndOwn E K rows))):POwn P g args E K rows:=pown_of_ok hT hfn hnm hb hn (Nat.le_of_ble_eq_true hle) h
end
end Go.Cat
set_option linter.all false
namespace Go.Cat
open Go.RowKit Go.Sort Go.Proofs
variable [M:Mono] [R:Rnds]
theorem uniq_sorted {α:Type} {cf:α→α→Int} (hw:SWO (fun x y=>decide (cf x y < 0))) {l r s:List α} (h1:r.Perm l) (h2:r.Pairwise (fun x y=>cf x y < 0)) (h3:s.Perm l) (h4:s.Pairwise (fun x y=>¬cf y x < 0)):s=r:=by
 have hasym:∀{x y:α},cf x y < 0→¬cf y x < 0:=fun {x y} h1 h2=>by
  have:=hw.trans x y x (decide_eq_true h1) (decide_eq_true h2)
  have hi:=hw.irrefl x
  rw [hi] at this; cases this
 have hcmp:∀a,a∈r→∀b,b∈r→a=b∨cf a b < 0∨cf b a < 0:=fun a ha b hb=>by
  obtain ⟨i,hi,rfl⟩:=List.mem_iff_getElem.1 ha
  obtain ⟨j,hj,rfl⟩:=List.mem_iff_getElem.1 hb
  have hp:=List.pairwise_iff_getElem.1 h2
  rcases Nat.lt_trichotomy i j with h | h | h
  ·exact .inr (.inl (hp i j hi hj h))
  ·subst h; exact .inl rfl
  ·exact .inr (.inr (hp j i hj hi h))
 refine List.Perm.eq_of_pairwise (le:=fun x y=>¬cf y x < 0) (fun a b ha hb hab hba=>?_) h4 (h2.imp fun h=>hasym h) (h3.trans h1.symm)
 rcases hcmp a ((h3.trans h1.symm).mem_iff.1 ha) b hb with h | h | h
 ·exact h
 ·exact absurd h hba
 ·exact absurd h hab
section
variable {P:Program}
theorem pchg_sortG {f k E g : Nat} {α : Type} {enc : α → List AV} {c : α → α → Option Int} {l r : List α} (hS : SortSays P f k) (hf : Entered P f)
    (hk : ∀ x, (enc x).length = k) (hcl : ∀ x y n, c x y = some n → @Pure Mono.yes P g [.a (enc x), .a (enc y)] (.v (.int .i64 n)))
    (eg : ∀ args w, (callFunc g args).run P w = .ok (.enter g args) w) (h : sortG c l = some r) :
    PChg P f [.o 1000, .c (.func g) [] []] (.own E k (l.map enc)) (fun x c => x = .t [] ∧ c = .own E k (r.map enc)) := by
  obtain ⟨hmx, cf, hc, hst⟩ := sortG_some h
  obtain ⟨hrp, hrs⟩ := sortT_ok hc hst
  refine ⟨hf, fun w F β vs hI hs hvs => ?_⟩
  have h0 := hvs 0 (Nat.zero_lt_succ _)
  have h1 := hvs 1 (Nat.lt_succ_self _)
  obtain ⟨a, n, cap, hβ, e0⟩ := Rd.o_inv (id := 1000) h0
  obtain ⟨us, ws, e1, hus, hws, _⟩ := Rd.c_inv (fn := .func g) (fs := []) (cs := []) h1
  have hus0 : us = #[] := Array.eq_empty_of_size_eq_zero (by simpa using hus)
  have hws0 : ws = #[] := Array.eq_empty_of_size_eq_zero (by simpa using hws)
  subst hus0; subst hws0
  have hvs' : vs = #[.slice a n cap, .func (.func g) #[] #[]] := by have := arr2 (vs := vs) (by simpa using hs); rw [e0, e1] at this; exact this
  subst hvs'
  have hlen := hrp.length_eq
  have hrdt : ∀ W : World, ∀ F : Nat → Prop, RdI W F (.t []) (.tuple #[]) := fun W F => .t rfl fun i hi => absurd hi (by simp)
  have hh := hI.holds 1000 (.own E k (l.map enc)) (by simp)
  rcases hh with ⟨hr, a', hβ'⟩ | ⟨b, cp, cur, hβ', hcp, hb, hlc, hcm, hcs, hrk, hcell⟩
  · have hl : l = [] := by simpa using hr
    subst hl
    rw [hβ'] at hβ; cases hβ
    have hr0 : r = [] := List.eq_nil_of_length_eq_zero (by simpa using hlen)
    refine (hS.1 _ _ _ w).mono ?_
    rintro e w' ⟨rfl, rfl⟩
    exact ⟨_, rfl, _, _, F, ⟨rfl, rfl⟩, hrdt _ _, rfl, SameT.refl _, rfl, Nat.le_refl _, fun _ _ _ => rfl, fun _ h => h, fun _ h => .inl h, rfl, .inl ⟨by rw [hr0]; rfl, _, hβ'⟩⟩
  · have hll : (l.map enc).length = l.length := List.length_map _
    rw [hll] at hβ' hlc
    rw [hβ'] at hβ
    obtain ⟨ea, en, ec⟩ : some (⟨b, 0, none⟩ : Addr) = a ∧ l.length = n ∧ cp = cap := by simpa using hβ
    subst ea; subst en; subst ec
    have blt : b < w.heap.size := blk_lt_of_heap hb
    have hbk : blkOf (β 1000) = some b := by
      rw [hβ']
      have h0 : Nat.beq cp 0 = false := by cases cp <;> first | rfl | omega
      simp [blkOf, h0]
    have hnF : ¬ F b := hI.apart b ⟨1000, .own E k (l.map enc), by simp, hbk⟩
    let A : Type := { p : List Value × α // p.1.length = k ∧ (∀ v, v ∈ p.1 → v.oneCell' = true) ∧ ∀ j, j < k → RdI w F ((enc p.2).getD j .junk) (p.1.getD j undef) }
    let ev : A → List Value := fun p => p.1.1
    have hrow : ∀ i, (hi : i < l.length) → (((List.range k).map fun j => cur.getD (i * k + j) undef), l[i]).1.length = k ∧ (∀ v, v ∈ (((List.range k).map fun j => cur.getD (i * k + j) undef), l[i]).1 → v.oneCell' = true) ∧
        ∀ j, j < k → RdI w F ((enc (((List.range k).map fun j => cur.getD (i * k + j) undef), l[i]).2).getD j .junk) ((((List.range k).map fun j => cur.getD (i * k + j) undef), l[i]).1.getD j undef) := fun i hi => by
      have e2 : (l.map enc).getD i [] = enc l[i] := by simp [List.getD, hi]
      refine ⟨by simp, fun v hv => ?_, fun j hj => ?_⟩
      · obtain ⟨j, hj, rfl⟩ := List.mem_map.1 hv
        exact (hcell i j (by simpa using hi) (List.mem_range.1 hj)).1
      · have := (hcell i j (by simpa using hi) hj).2
        rw [e2] at this
        have e3 : ((List.range k).map fun j => cur.getD (i * k + j) undef).getD j undef = cur.getD (i * k + j) undef := by simp [List.getD, hj]
        dsimp only
        rw [e3]; exact this
    let l' : List A := List.ofFn fun i : Fin l.length => (⟨(((List.range k).map fun j => cur.getD (i.1 * k + j) undef), l[i.1]), hrow i.1 i.2⟩ : A)
    have hl' : l'.length = l.length := by simp [l']
    have hmap : l'.map (fun p => p.1.2) = l := by
      apply List.ext_getElem (by simp [l'])
      intro i h1 h2
      simp [l']
    rcases Nat.eq_zero_or_pos l.length with hz | hpos
    · -- nothing to be sorted
      have hln : l = [] := List.eq_nil_of_length_eq_zero hz
      subst hln
      have hr0 : r = [] := List.eq_nil_of_length_eq_zero (by simpa using hlen)
      refine (hS.1 _ _ _ w).mono ?_
      rintro e w' ⟨rfl, rfl⟩
      exact ⟨_, rfl, _, _, F, ⟨rfl, rfl⟩, hrdt _ _, rfl, SameT.refl _, rfl, Nat.le_refl _, fun _ _ _ => rfl, fun _ h => h, fun _ h => .inl h, rfl, .inr ⟨b, cp, cur, by rw [hr0]; exact hβ', hcp, hb, by rw [hr0]; exact Nat.zero_le _, hcm, hcs, by rw [hr0]; intro i hi; exact absurd hi (by simp), by rw [hr0]; intro i j hi; exact absurd hi (by simp)⟩⟩
    haveI : Inhabited A := ⟨l'[0]'(by omega)⟩
    let cf' : A → A → Int := fun x y => cf x.1.2 y.1.2
    have hsw' : SWO (fun x y => decide (cf' x y < 0)) := ⟨fun x => hc.2.irrefl x.1.2, fun x y z => hc.2.trans x.1.2 y.1.2 z.1.2, fun x y z => hc.2.ntrans x.1.2 y.1.2 z.1.2⟩
    have hkv : ∀ x, (ev x).length = k := fun x => x.2.1
    have h1v : ∀ x, ∀ v ∈ ev x, v.oneCell' = true := fun x => x.2.2.1
    have hget : ∀ i (hi : i < l.length), l'[i]'(by omega) = (⟨(((List.range k).map fun j => cur.getD (i * k + j) undef), l[i]), hrow i hi⟩ : A) := fun i hi => by simp [l']
    have hH : HoldsK ev k w b 0 l'.toArray := fun j hj => by
      rw [size_flatK] at hj
      have hj' : j < l.length * k := by simpa [hl'] using hj
      have hk0 : 0 < k := by rcases Nat.eq_zero_or_pos k with h | h; · subst h; simp at hj'
                             · exact h
      have hq : j / k < l.length := (Nat.div_lt_iff_lt_mul hk0).2 hj'
      have hm : j % k < k := Nat.mod_lt _ hk0
      have hjj : j / k * k + j % k = j := by rw [Nat.mul_comm]; exact Nat.div_add_mod j k
      have hjc : j < cur.size := by rw [hcs]; exact Nat.lt_of_lt_of_le hj' (Nat.mul_le_mul_right k hlc)
      refine ⟨?_, ?_⟩
      · rw [get_flatK _ _ _ _ (by simpa [hl'] using hj'), cell_of_row w b _ cur E (0, 0) hb]
        have e2 : l'.toArray[j / k]! = l'[j / k]'(by omega) := by rw [getElem!_pos _ _ (by simpa [hl'] using hq)]; simp
        rw [e2, hget _ hq]
        show cur[0 + j]? = some (((List.range k).map fun q => cur.getD (j / k * k + q) undef)[j % k]!)
        rw [getElem!_pos _ _ (by simpa using hm)]
        simp [hjj, hjc]
      · simp [World.frozen?, hb]
    have agree : ∀ (m : Nat) (os : Array Obj) (dk : Array A), Agree F w (sortWorldK ev k w b 0 m dk os) := fun m os dk b' hb' => heap_sortWorldK_other (fun e => hnF (e ▸ hb')) (hI.fsize b' hb')
    have hsw := hS.2 A ev hkv h1v cf' hsw' g #[] b 0 cp l'.toArray w eg (fun m os dk _ x y => by
        let W := sortWorldK ev k w b 0 m dk os
        have hIW : Inv W F (fun _ => undef) [] := ⟨fun b' hb' => Nat.lt_of_lt_of_le (hI.fsize b' hb') size_sortWorldK, fun _ _ h => by simp at h, by simp, fun _ ⟨_, _, h, _⟩ => by simp at h, fun _ _ _ _ _ h => by simp at h⟩
        have rd : ∀ z : A, Rd W F (fun _ => undef) (.a (enc z.1.2)) (.agg (ev z).toArray) := fun z => by
          have hzl : (ev z).length = k := hkv z
          refine .i (.a (by simp [hzl, hk]) (fun i hi => ?_) fun i hi => ?_)
          · have hi' : i < (ev z).length := by rw [hzl, ← hk z.1.2]; exact hi
            have : (ev z).toArray.getD i undef = (ev z)[i] := by simp [Array.getD, hi']
            rw [this]; exact h1v z _ (List.getElem_mem hi')
          · have hi' : i < (ev z).length := by rw [hzl, ← hk z.1.2]; exact hi
            have e : (ev z).toArray.getD i undef = (ev z).getD i undef := by simp [Array.getD, List.getD, hi']
            rw [e]
            exact (z.2.2.2 i (by rw [← hk z.1.2]; exact hi)).frame (agree m os dk) fun _ h => h
        have hp := (hcl x.1.2 y.1.2 (cf x.1.2 y.1.2) (hc.1 _ _)).2 W F (fun _ => undef) #[.agg (ev x).toArray, .agg (ev y).toArray] hIW rfl (fun i hi => by
          match i, hi with
          | 0, _ => exact rd x
          | 1, _ => exact rd y
          | n + 2, hi => exact absurd hi (by simp))
        refine (show Calls P g (#[.agg (ev x).toArray, .agg (ev y).toArray] ++ #[]) W _ from hp).mono ?_
        rintro e w' ⟨v, rfl, hb, hr⟩
        refine ⟨?_, hb.grown_eq⟩
        cases hr with | v h => rfl) hH blt (by simp [hl']; omega)
    have hsz : l'.toArray.size = l.length := by simp [hl']
    rw [hsz] at hsw
    refine (show Calls P f #[.slice (some ⟨b, 0, none⟩) l.length cp, .func (.func g) #[] #[]] w _ from hsw).mono ?_
    rintro e w' ⟨rfl, n, os, rfl⟩
    have hr' : pdq (fun x y => decide (cf' x y < 0)) l'.toArray 0 l.length (Lib.bitLen l.length) true true = (sortBy cf' l').toArray := by simp [sortBy, hl']
    simp only [hr']
    obtain ⟨hp1, hp2⟩ := sortBy_spec hsw' l'
    have hrr : (sortBy cf' l').map (fun p => p.1.2) = r := uniq_sorted hc.2 hrp hrs (by have := hp1.map (fun p : A => p.1.2); rw [hmap] at this; exact this) (by rw [List.pairwise_map]; exact hp2)
    generalize hs' : sortBy cf' l' = s at hrr hp1 hp2
    have hsl : s.length = l.length := by rw [hp1.length_eq, hl']
    have hbH := heap_sortWorldK (enc := ev) (k := k) (off := 0) (n := n) (d := s.toArray) (os := os) hb
    subst hrr
    have hml : (s.map fun p => p.1.2).length = s.length := List.length_map _
    refine ⟨_, rfl, _, _, F, ⟨rfl, rfl⟩, hrdt _ _, rfl, ⟨rfl, fun _ => Nat.le_add_right _ _⟩, rfl, size_sortWorldK, fun c hc hne => heap_sortWorldK_other (fun h => hne (by rw [hbk, h])) hc, fun _ h => h, fun _ h => .inl h, ?_, .inr ⟨b, cp, _, ?_, hcp, hbH, ?_, hcm, ?_, ?_, ?_⟩⟩
    · rfl
    · rw [hβ', List.length_map, hml, hsl]
    · rw [List.length_map, hml, hsl]; exact hlc
    · simp [putCells, hcs]
    · intro i hi
      rw [List.length_map, hml] at hi
      simp [List.getD, hi, hk]
    · intro i j hi hj
      rw [List.length_map, hml] at hi
      have hil : i < l.length := by omega
      have hik : i * k + j < l.length * k := by
        have := Nat.mul_le_mul_right k (show i + 1 ≤ l.length from hil); rw [Nat.add_mul, Nat.one_mul] at this; omega
      have hic : i * k + j < cur.size := by rw [hcs]; exact Nat.lt_of_lt_of_le hik (Nat.mul_le_mul_right k hlc)
      have hk0 : 0 < k := by omega
      have e4 : (i * k + j) / k = i := by rw [Nat.mul_comm, Nat.mul_add_div hk0, Nat.div_eq_of_lt hj]; rfl
      have e5 : (i * k + j) % k = j := by rw [Nat.mul_comm, Nat.mul_add_mod, Nat.mod_eq_of_lt hj]
      have hlk : i * k + j < s.length * k := by rw [hsl]; exact hik
      have e6 : (putCells id 0 (flatK ev k s.toArray) cur).getD (i * k + j) undef = (ev s[i]).getD j undef := by
        have : (putCells id 0 (flatK ev k s.toArray) cur)[i * k + j]? = some ((ev s[i]).getD j undef) := by
          unfold putCells
          rw [Array.getElem?_mapIdx, Array.getElem?_eq_getElem hic]
          have hc : 0 ≤ i * k + j ∧ i * k + j < 0 + (flatK ev k s.toArray).size := ⟨Nat.zero_le _, by rw [size_flatK]; simpa using hlk⟩
          rw [Option.map_some, if_pos hc, Nat.sub_zero, get_flatK _ _ _ _ (by simpa using hlk), e4, e5]
          have e2 : s.toArray[i]! = s[i] := by rw [getElem!_pos _ _ (by simpa using hi)]; simp
          rw [e2]
          show some ((ev s[i])[j]!) = _
          rw [getElem!_pos _ _ (by rw [hkv]; exact hj)]
          simp [List.getD, hkv, hj]
        rw [Array.getD_eq_getD_getElem?, this]; rfl
      have e7 : ((s.map fun p => p.1.2).map enc).getD i [] = enc s[i].1.2 := by simp [List.getD, hi]
      rw [e6, e7]
      have hj2 : j < (ev s[i]).length := by rw [hkv]; exact hj
      have e8 : (ev s[i]).getD j undef = (ev s[i])[j] := by simp [List.getD, hj2]
      refine ⟨by rw [e8]; exact h1v s[i] _ (List.getElem_mem hj2), ?_⟩
      exact (s[i].2.2.2 j hj).frame (agree n os s.toArray) fun _ h => h
end
end Go.Cat
