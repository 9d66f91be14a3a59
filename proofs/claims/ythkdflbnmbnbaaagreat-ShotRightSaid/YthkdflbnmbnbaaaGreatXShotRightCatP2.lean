/- The logic that the walks are in, piece P2. No condition. -/
import Derived.WalkKit
import Derived.WalkSpells
import Derived.WalkLawsBesides
import Derived.KernelRfl
import Derived.MapKept
import Derived.Test.YthkdflbnmbnbaaaGreatXShotRightCatP1
import Derived.Laws.StructEq
set_option linter.all false
namespace Go.Cat
open Go.RowKit
class Mono where
 on:Prop
class Off [Mono]:Prop where
 off:¬Mono.on
abbrev Mono.yes:Mono:=⟨True⟩
abbrev Mono.no:Mono:=⟨False⟩
variable [M:Mono]
inductive AV where
 | v (x:Value)
 | s (rows:List (List AV))
 | p (cells:List AV)
 | a (cells:List AV)
 | t (vs:List AV)
 | c (fn:Fn) (first captured:List AV)
 | b (id off:Nat)
 | o (id:Nat)
 | e (id k i j:Nat)
 | w (id k d:Nat)
 | m (id:Nat)
 | z
 | junk
instance : Inhabited AV := ⟨.junk⟩
inductive RdI (w:World) (F:Nat→Prop):AV→Value→Prop where
 | v {x:Value} (h:x.oneCell'=true∨x=undef):RdI w F (.v x) x
 | s0 {a:Option Addr}:RdI w F (.s []) (.slice a 0 0)
 | z {a:Option Addr}:RdI w F .z (.slice a 0 0)
 | s {rows:List (List AV)} {b off c k:Nat} {u:Nat→Nat→Value}
   (hb:F b) (hc:rows.length≤c) (hm:c≤maxLen)
   (hk:∀i,i < rows.length→(rows.getD i []).length=k)
   (hcell:∀i j,i < rows.length→j < k→w.cell? ⟨b,off+(i * k+j),none⟩=some (u i j))
   (hone:∀i j,i < rows.length→j < k→(u i j).oneCell'=true)
   (hrd:∀i j,i < rows.length→j < k→RdI w F ((rows.getD i []).getD j .junk) (u i j)) :
   RdI w F (.s rows) (.slice (some ⟨b,off,none⟩) rows.length c)
 | p {cells:List AV} {b off:Nat} {u:Nat→Value}
   (hb:F b)
   (hcell:∀j,j < cells.length→w.cell? ⟨b,off+j,none⟩=some (u j))
   (hone:∀j,j < cells.length→(u j).oneCell'=true)
   (hrd:∀j,j < cells.length→RdI w F (cells.getD j .junk) (u j)) :
   RdI w F (.p cells) (.pointer (some ⟨b,off,none⟩))
 | a {cells:List AV} {us:Array Value} (hs:us.size=cells.length)
   (hone:∀i,i < cells.length→(us.getD i undef).oneCell'=true)
   (h:∀i,i < cells.length→RdI w F (cells.getD i .junk) (us.getD i undef)):RdI w F (.a cells) (.agg us)
 | t {cells:List AV} {us:Array Value} (hs:us.size=cells.length)
   (h:∀i,i < cells.length→RdI w F (cells.getD i .junk) (us.getD i undef)):RdI w F (.t cells) (.tuple us)
 | c {fn:Fn} {fs cs:List AV} {us vs:Array Value} (hs:us.size=fs.length) (hs':vs.size=cs.length)
   (h:∀i,i < fs.length→RdI w F (fs.getD i .junk) (us.getD i undef))
   (h':∀i,i < cs.length→RdI w F (cs.getD i .junk) (vs.getD i undef)):RdI w F (.c fn fs cs) (.func fn us vs)
inductive Rd (w:World) (F:Nat→Prop) (β:Nat→Value):AV→Value→Prop where
 | i {x:AV} {u:Value} (h:RdI w F x u):Rd w F β x u
 | junk {u:Value}:Rd w F β .junk u
 | b {id off blk:Nat} (h:β id=.pointer (some ⟨blk,0,none⟩)):Rd w F β (.b id off) (.pointer (some ⟨blk,off,none⟩))
 | o {id n c:Nat} {a:Option Addr} (h:β id=.slice a n c):Rd w F β (.o id) (.slice a n c)
 | e {id k i j g n c:Nat} (h:β id=.slice (some ⟨g,0,none⟩) n c):Rd w F β (.e id k i j) (.pointer (some ⟨g,i * k+j,none⟩))
 | m {id b:Nat} (h:β id=.map (some b)):Rd w F β (.m id) (.map (some b))
 | w {id k d n c:Nat} {a a':Option Addr} (h:β id=.slice a n c) (hd:d≤n) (ha:d < c→a'=a.map (·.add (d * k))):Rd w F β (.w id k d) (.slice a' (n - d) (c - d))
 | a {cells:List AV} {us:Array Value} (hs:us.size=cells.length)
   (hone:∀i,i < cells.length→(us.getD i undef).oneCell'=true)
   (h:∀i,i < cells.length→Rd w F β (cells.getD i .junk) (us.getD i undef)):Rd w F β (.a cells) (.agg us)
 | t {cells:List AV} {us:Array Value} (hs:us.size=cells.length)
   (h:∀i,i < cells.length→Rd w F β (cells.getD i .junk) (us.getD i undef)):Rd w F β (.t cells) (.tuple us)
 | c {fn:Fn} {fs cs:List AV} {us vs:Array Value} (hs:us.size=fs.length) (hs':vs.size=cs.length)
   (h:∀i,i < fs.length→Rd w F β (fs.getD i .junk) (us.getD i undef))
   (h':∀i,i < cs.length→Rd w F β (cs.getD i .junk) (vs.getD i undef)):Rd w F β (.c fn fs cs) (.func fn us vs)
def Agree (F:Nat→Prop) (w w':World):Prop:=∀b,F b→w'.heap[b]?=w.heap[b]?
theorem Agree.cell {F:Nat→Prop} {w w':World} (h:Agree F w w') {b o:Nat} (hb:F b):w'.cell? ⟨b,o,none⟩=w.cell? ⟨b,o,none⟩ :=
 World.cell?_of_block (w:=w) (h b hb)
theorem RdI.frame {w w':World} {F F':Nat→Prop} (ha:Agree F w w') (hF:∀b,F b→F' b) {x:AV} {u:Value} (h:RdI w F x u):RdI w' F' x u:=by
 induction h with
 | v h=>exact .v h
 | s0=>exact .s0
 | z=>exact .z
 | s hb hc hm hk hcell hone hrd ih=>exact .s (hF _ hb) hc hm hk (fun i j hi hj=>by rw [ha.cell hb]; exact hcell i j hi hj) hone ih
 | p hb hcell hone hrd ih=>exact .p (hF _ hb) (fun j hj=>by rw [ha.cell hb]; exact hcell j hj) hone ih
 | a hs hone h ih=>exact .a hs hone ih
 | t hs h ih=>exact .t hs ih
 | c hs hs' h h' ih ih'=>exact .c hs hs' ih ih'
theorem Rd.frame {w w':World} {F F':Nat→Prop} {β:Nat→Value} (ha:Agree F w w') (hF:∀b,F b→F' b) {x:AV} {u:Value} (h:Rd w F β x u):Rd w' F' β x u:=by
 induction h with
 | i h=>exact .i (h.frame ha hF)
 | junk=>exact .junk
 | b h=>exact .b h
 | o h=>exact .o h
 | e h=>exact .e h
 | w h hd ha=>exact .w h hd ha
 | m h=>exact .m h
 | a hs hone h ih=>exact .a hs hone ih
 | t hs h ih=>exact .t hs ih
 | c hs hs' h h' ih ih'=>exact .c hs hs' ih ih'
section
variable {w:World} {F:Nat→Prop} {β:Nat→Value} {u:Value}
theorem Rd.v_inv {x:Value} (h:Rd w F β (.v x) u):u=x:=by
 cases h with
 | i h=>cases h; rfl
theorem Rd.a_inv {cells:List AV} (h:Rd w F β (.a cells) u):∃us:Array Value,u=.agg us∧us.size=cells.length∧(∀i,i < cells.length→(us.getD i undef).oneCell'=true) ∧
  ∀i,i < cells.length→Rd w F β (cells.getD i .junk) (us.getD i undef):=by
 cases h with
 | i h=>cases h with | a hs hone h=>exact ⟨_,rfl,hs,hone,fun i hi=>.i (h i hi)⟩
 | a hs hone h=>exact ⟨_,rfl,hs,hone,h⟩
theorem Rd.t_inv {cells:List AV} (h:Rd w F β (.t cells) u):∃us:Array Value,u=.tuple us∧us.size=cells.length ∧
  ∀i,i < cells.length→Rd w F β (cells.getD i .junk) (us.getD i undef):=by
 cases h with
 | i h=>cases h with | t hs h=>exact ⟨_,rfl,hs,fun i hi=>.i (h i hi)⟩
 | t hs h=>exact ⟨_,rfl,hs,h⟩
theorem Rd.c_inv {fn:Fn} {fs cs:List AV} (h:Rd w F β (.c fn fs cs) u):∃us vs:Array Value,u=.func fn us vs∧us.size=fs.length∧vs.size=cs.length ∧
  (∀i,i < fs.length→Rd w F β (fs.getD i .junk) (us.getD i undef))∧(∀i,i < cs.length→Rd w F β (cs.getD i .junk) (vs.getD i undef)):=by
 cases h with
 | i h=>cases h with | c hs hs' h h'=>exact ⟨_,_,rfl,hs,hs',fun i hi=>.i (h i hi),fun i hi=>.i (h' i hi)⟩
 | c hs hs' h h'=>exact ⟨_,_,rfl,hs,hs',h,h'⟩
theorem Rd.s_inv {rows:List (List AV)} (h:Rd w F β (.s rows) u):RdI w F (.s rows) u:=by cases h; assumption
theorem Rd.p_inv {cells:List AV} (h:Rd w F β (.p cells) u):RdI w F (.p cells) u:=by cases h; assumption
theorem Rd.z_inv (h:Rd w F β .z u):∃a,u=.slice a 0 0:=by cases h with | i h=>cases h; exact ⟨_,rfl⟩
theorem Rd.b_inv {id off:Nat} (h:Rd w F β (.b id off) u):∃blk,β id=.pointer (some ⟨blk,0,none⟩)∧u=.pointer (some ⟨blk,off,none⟩):=by
 cases h with
 | i h=>cases h
 | b h=>exact ⟨_,h,rfl⟩
theorem Rd.o_inv {id:Nat} (h:Rd w F β (.o id) u):∃a n c,β id=.slice a n c∧u=.slice a n c:=by
 cases h with
 | i h=>cases h
 | o h=>exact ⟨_,_,_,h,rfl⟩
theorem Rd.e_inv {id k i j:Nat} (h:Rd w F β (.e id k i j) u):∃g n c,β id=.slice (some ⟨g,0,none⟩) n c∧u=.pointer (some ⟨g,i * k+j,none⟩):=by
 cases h with
 | i h=>cases h
 | e h=>exact ⟨_,_,_,h,rfl⟩
theorem Rd.m_inv {id:Nat} (h:Rd w F β (.m id) u):∃b,β id=.map (some b)∧u=.map (some b):=by
 cases h with
 | i h=>cases h
 | m h=>exact ⟨_,h,rfl⟩
theorem Rd.w_inv {id k d:Nat} (h:Rd w F β (.w id k d) u):∃a a' n c,β id=.slice a n c∧d≤n∧(d < c→a'=a.map (·.add (d * k)))∧u=.slice a' (n - d) (c - d):=by
 cases h with
 | i h=>cases h
 | w h hd ha=>exact ⟨_,_,_,_,h,hd,ha,rfl⟩
end
def isCell:AV→Bool
 | .v (.agg _) | .v (.tuple _) | .a _ | .t _ | .junk=>false
 | _=>true
theorem isCell_one {w:World} {F:Nat→Prop} {β:Nat→Value} {x:AV} {u:Value} (hx:isCell x=true) (h:Rd w F β x u):u.oneCell'=true:=by
 cases h with
 | i h =>
  cases h with
  | v h =>
   rcases h with h | rfl
   ·exact h
   ·simp [isCell,undef] at hx
  | s0=>rfl
  | z=>rfl
  | s=>rfl
  | p=>rfl
  | a=>simp [isCell] at hx
  | t=>simp [isCell] at hx
  | c=>rfl
 | junk=>simp [isCell] at hx
 | b=>rfl
 | o=>rfl
 | e=>rfl
 | w=>rfl
 | m=>rfl
 | a=>simp [isCell] at hx
 | t=>simp [isCell] at hx
 | c=>rfl
structure RF where
 ps:Array Tmp
 assign:Code
 body:Code
 n:Nat
def LS.st:LS→LoopState
 | .rdy=>.ready
 | .bsy=>.busy
 | _=>.done
def LS.pend:LS→Option Code
 | .ret=>some .ret
 | .ex i=>some (.exit i)
 | _=>none
inductive Chunk where
 | box (cells:List AV)
 | own (E k:Nat) (rows:List (List AV))
 | mp (ag:Bool) (rows:List (Int×List AV))
 | lp (l:Nat) (e:LS) (R:RF) (L:List (Nat×AV))
 | si (s:ByteArray) (pos:Nat)
abbrev Hp:=List (Nat×Chunk)
def blkOf:Value→Option Nat
 | .pointer (some a)=>some a.block
 | .slice (some a) _ c=>bif Nat.beq c 0 then none else some a.block
 | .map (some b)=>some b
 | _=>none
def vOf (ag:Bool) (cells:List AV):AV:=bif ag then .a cells else cells.getD 0 .junk
def Chunk.holds (w:World) (F:Nat→Prop) (β:Nat→Value) (id:Nat):Chunk→Prop
 | .box cells=>∃b c e,β id=.pointer (some ⟨b,0,none⟩)∧w.heap[b]?=some (.cells c e (0,0))∧c.size=cells.length ∧
   (∀i,i < cells.length→(c.getD i undef).oneCell'=true)∧∀i,i < cells.length→Rd w F β (cells.getD i .junk) (c.getD i undef)
 | .own E k rows=>(rows=[]∧∃a,β id=.slice a 0 0)∨∃g cap cur,β id=.slice (some ⟨g,0,none⟩) rows.length cap∧0 < cap∧w.heap[g]?=some (.cells cur E (0,0))∧rows.length≤cap∧cap≤maxLen ∧
   cur.size=cap * k∧(∀i,i < rows.length→(rows.getD i []).length=k) ∧
   ∀i j,i < rows.length→j < k→(cur.getD (i * k+j) undef).oneCell'=true∧RdI w F ((rows.getD i []).getD j .junk) (cur.getD (i * k+j) undef)
 | .mp ag rows=>∃b es ck,β id=.map (some b)∧w.heap[b]?=some (.map es ck)∧Go.MapKept.Stamped es ck∧es.size=rows.length∧es.size≤140737488355328 ∧
   ∀(i:Nat) (r:Int×List AV),rows[i]?=some r→∃e:MapEntry,es[i]?=some e∧e.key=.int .i64 r.1∧InI64 r.1∧RdI w F (vOf ag r.2) e.val
 | .lp l e R L=>∃fn tmps D,β id=.pointer (some ⟨l,0,none⟩)∧w.heap[l]?=some (.loop { state:=e.st,pending:=e.pend,fn,tmps,params:=R.ps,assign:=R.assign,body:=R.body,defers:=D })∧tmps.size=R.n ∧
   ∀p,p∈L→Rd w F β p.2 (tmps.getD p.1 undef)
 | .si s pos=>∃b,β id=.pointer (some ⟨b,0,none⟩)∧w.heap[b]?=some (.stringIter s pos)
def Owned (β:Nat→Value) (H:Hp) (b:Nat):Prop:=∃id c,(id,c)∈H∧blkOf (β id)=some b
structure Inv (w:World) (F:Nat→Prop) (β:Nat→Value) (H:Hp):Prop where
 fsize:∀b,F b→b < w.heap.size
 holds:∀id c,(id,c)∈H→c.holds w F β id
 keys:(H.map (·.1)).Nodup
 apart:∀b,Owned β H b→¬F b
 disj:∀id c id' c' b,(id,c)∈H→(id',c')∈H→blkOf (β id)=some b→blkOf (β id')=some b→id=id'
theorem blk_lt_of_heap {w:World} {b:Nat} {o:Obj} (h:w.heap[b]?=some o):b < w.heap.size:=(Array.getElem?_eq_some_iff.1 h).1
theorem holds_lt {w:World} {F:Nat→Prop} {β:Nat→Value} {id:Nat} {c:Chunk} (h:c.holds w F β id) {b:Nat} (hb:blkOf (β id)=some b):b < w.heap.size:=by
 cases c with
 | box cells =>
  obtain ⟨b',c',e,hβ,hh,_⟩:=h
  rw [hβ] at hb; simp [blkOf] at hb; subst hb
  exact blk_lt_of_heap hh
 | mp ag rows =>
  obtain ⟨b',es,ck,hβ,hh,_⟩:=h
  rw [hβ] at hb; simp [blkOf] at hb; subst hb
  exact blk_lt_of_heap hh
 | lp l e R L =>
  obtain ⟨fn,tmps,D,hβ,hh,_⟩:=h
  rw [hβ] at hb; simp [blkOf] at hb; subst hb
  exact blk_lt_of_heap hh
 | si s pos =>
  obtain ⟨b',hβ,hh⟩:=h
  rw [hβ] at hb; simp [blkOf] at hb; subst hb
  exact blk_lt_of_heap hh
 | own E k rows =>
  rcases h with ⟨_,a,hv⟩ | ⟨g,cap,cur,hv,hc,hg,_⟩
  ·rw [hv] at hb; cases a <;> simp [blkOf] at hb
  ·have h0:Nat.beq cap 0=false:=by cases cap <;> first | rfl | omega
   rw [hv] at hb; simp [blkOf,h0] at hb; subst hb
   exact blk_lt_of_heap hg
theorem Inv.owned_lt {w:World} {F:Nat→Prop} {β:Nat→Value} {H:Hp} (h:Inv w F β H) {b:Nat} (hb:Owned β H b):b < w.heap.size:=by
 obtain ⟨id,c,hm,hk⟩:=hb
 exact holds_lt (h.holds id c hm) hk
structure ASt where
 f:Nat→AV
 H:Hp
def noSlots:Nat→AV:=fun _=>.junk
def SameT [Mono] (w w':World):Prop:=w'.tape=w.tape∧(Mono.on→w.drawn≤w'.drawn)
theorem SameT.refl (w:World):SameT w w:=⟨rfl,fun _=>Nat.le_refl _⟩
theorem SameT.trans {w w' w'':World} (h:SameT w w') (h':SameT w' w''):SameT w w'':=⟨h'.1.trans h.1,fun m=>Nat.le_trans (h.2 m) (h'.2 m)⟩
structure Below (B:Nat) (w w':World):Prop where
 os:w'.os=w.os
 tape:SameT w w'
 output:w'.output=w.output
 size:w.heap.size≤w'.heap.size
 block:∀k,k < B→w'.heap[k]?=w.heap[k]?
theorem Below.old {B:Nat} {w w':World} (h:Below B w w'):Go.RowKit.Below B w w':=⟨h.os,h.tape.1,h.output,h.size,h.block⟩
theorem Below.refl (B:Nat) (w:World):Below B w w:=⟨rfl,SameT.refl _,rfl,Nat.le_refl _,fun _ _=>rfl⟩
theorem Below.trans {B:Nat} {a b c:World} (h:Below B a b) (k:Below B b c):Below B a c :=
 ⟨k.os.trans h.os,h.tape.trans k.tape,k.output.trans h.output,Nat.le_trans h.size k.size,fun i hi=>(k.block i hi).trans (h.block i hi)⟩
theorem Below.drew {B:Nat} {a w:World} (h:Below B a w):Below B a w.drew:=⟨h.os,⟨h.tape.1,fun m=>Nat.le_succ_of_le (h.tape.2 m)⟩,h.output,h.size,h.block⟩
theorem Below.alloc {B:Nat} {a w:World} (h:Below B a w) (hB:B≤w.heap.size) (o:Obj):Below B a (w.alloc o) :=
 ⟨h.os,h.tape,h.output,(h.old.alloc hB o).size,(h.old.alloc hB o).block⟩
structure Ext (w:World) (F:Nat→Prop) (β:Nat→Value) (st:ASt) (w':World) (F':Nat→Prop) (β':Nat→Value) (st':ASt):Prop where
 os:w'.os=w.os
 tape:SameT w w'
 output:w'.output=w.output
 size:w.heap.size≤w'.heap.size
 block:∀b,b < w.heap.size→¬Owned β st.H b→w'.heap[b]?=w.heap[b]?
 mono:∀b,F b→F' b
 new:∀b,F' b→F b∨w.heap.size≤b∨Owned β st.H b
 owned:∀b,Owned β' st'.H b→w.heap.size≤b∨Owned β st.H b
 keep:∀t u,Rd w F β (st.f t) u→Rd w' F' β' (st'.f t) u
 inv:Inv w' F' β' st'.H
 lab:∀i,1000≤i→β' i=β i
theorem Ext.refl {w:World} {F:Nat→Prop} {β:Nat→Value} {st:ASt} (h:Inv w F β st.H):Ext w F β st w F β st :=
 ⟨rfl,SameT.refl _,rfl,Nat.le_refl _,fun _ _ _=>rfl,fun _ h=>h,fun _ h=>.inl h,fun _ h=>.inr h,fun _ _ h=>h,h,fun _ _=>rfl⟩
theorem Ext.trans {w:World} {F:Nat→Prop} {β:Nat→Value} {st:ASt} {w':World} {F':Nat→Prop} {β':Nat→Value} {st':ASt} {w'':World} {F'':Nat→Prop} {β'':Nat→Value} {st'':ASt}
  (h:Ext w F β st w' F' β' st') (h':Ext w' F' β' st' w'' F'' β'' st''):Ext w F β st w'' F'' β'' st'' where
 os:=h'.os.trans h.os
 tape:=h.tape.trans h'.tape
 output:=h'.output.trans h.output
 size:=Nat.le_trans h.size h'.size
 block b hb hn:=by
  have h1:¬Owned β' st'.H b:=fun ho=>(h.owned b ho).elim (fun hge=>absurd hb (Nat.not_lt.2 hge)) hn
  rw [h'.block b (Nat.lt_of_lt_of_le hb h.size) h1,h.block b hb hn]
 mono b hb:=h'.mono b (h.mono b hb)
 new b hb:=by
  rcases h'.new b hb with h1 | h1 | h1
  ·exact h.new b h1
  ·exact .inr (.inl (Nat.le_trans h.size h1))
  ·exact (h.owned b h1).elim (fun x=>.inr (.inl x)) (fun x=>.inr (.inr x))
 owned b hb:=by
  rcases h'.owned b hb with h1 | h1
  ·exact .inl (Nat.le_trans h.size h1)
  ·exact h.owned b h1
 keep t u hu:=h'.keep t u (h.keep t u hu)
 inv:=h'.inv
 lab i hi:=(h'.lab i hi).trans (h.lab i hi)
end Go.Cat
set_option linter.all false
namespace Go.Cat
open Go.RowKit
variable [M:Mono]
inductive TK where
 | bool | int (k:IntKind) | str | struct (fs:List (Nat×Nat)) | slice (e:Nat) | arr (n e:Nat) | map (k e:Nat) | iface | other
structure TI where
 kind:TK
 cells:Nat
 bytes:Nat
 zero:Value
def TKof:TypeDesc→TK
 | .bool=>.bool
 | .int k=>.int k
 | .string=>.str
 | .struct fs=>.struct (fs.toList.map fun f=>(f.offset,f.type))
 | .slice e=>.slice e
 | .array n e=>.arr n e
 | .map k e=>.map k e
 | .interface _=>.iface
 | _=>.other
abbrev TT:=Nat→Option TI
def TIOk (P:Program) (t:Nat) (i:TI):Prop :=
 (P.info? t).map (fun j=>(j.zero,j.size,j.bytes))=some (some i.zero,i.cells,i.bytes)∧(P.underlying t).map TKof=some i.kind
def TOk (P:Program) (T:TT):Prop:=∀t i,T t=some i→TIOk P t i
def lk:List (Nat×TI)→TT
 | [],_=>none
 | (t,i)::r,x=>bif Nat.beq x t then some i else lk r x
def AllOk (P:Program):List (Nat×TI)→Prop
 | []=>True
 | (t,i)::r=>TIOk P t i∧AllOk P r
theorem TOk.of_list {P:Program} {l:List (Nat×TI)} (h:AllOk P l):TOk P (lk l):=by
 induction l with
 | nil=>intro t i h'; cases h'
 | cons x r ih =>
  obtain ⟨t,i⟩:=x
  intro t' i' h'
  simp only [lk] at h'
  cases hb:Nat.beq t' t with
  | true =>
   rw [hb] at h'
   have:=Nat.eq_of_beq_eq_true hb
   subst this
   cases h'
   exact h.1
  | false =>
   rw [hb] at h'
   exact ih h.2 t' i' h'
section
variable {P:Program} {t:Nat} {i:TI}
theorem TIOk.info (h:TIOk P t i):∃j,P.info? t=some j∧j.zero=some i.zero∧j.size=i.cells∧j.bytes=i.bytes:=by
 obtain ⟨h,_⟩:=h
 cases hj:P.info? t with
 | none=>simp [hj] at h
 | some j=>simp [hj] at h; exact ⟨j,rfl,h.1,h.2.1,h.2.2⟩
theorem TIOk.und (h:TIOk P t i):∃d,P.underlying t=some d∧TKof d=i.kind:=by
 obtain ⟨_,h⟩:=h
 cases hj:P.underlying t with
 | none=>simp [hj] at h
 | some j=>simp [hj] at h; exact ⟨j,rfl,h⟩
theorem TIOk.slice {e:Nat} (h:TIOk P t i) (hk:i.kind=.slice e):P.underlying t=some (.slice e):=by
 obtain ⟨d,hd,hk'⟩:=h.und
 rw [hk] at hk'
 cases d <;> simp [TKof] at hk'
 subst hk'; exact hd
theorem TIOk.arr {n e:Nat} (h:TIOk P t i) (hk:i.kind=.arr n e):P.underlying t=some (.array n e):=by
 obtain ⟨d,hd,hk'⟩:=h.und
 rw [hk] at hk'
 cases d <;> simp [TKof] at hk'
 obtain ⟨rfl,rfl⟩:=hk'; exact hd
theorem TIOk.int {k:IntKind} (h:TIOk P t i) (hk:i.kind=.int k):P.underlying t=some (.int k):=by
 obtain ⟨d,hd,hk'⟩:=h.und
 rw [hk] at hk'
 cases d <;> simp [TKof] at hk'
 subst hk'; exact hd
theorem TIOk.map {kt e:Nat} (h:TIOk P t i) (hk:i.kind=.map kt e):P.underlying t=some (.map kt e):=by
 obtain ⟨d,hd,hk'⟩:=h.und
 rw [hk] at hk'
 cases d <;> simp [TKof] at hk'
 obtain ⟨rfl,rfl⟩:=hk'; exact hd
theorem TIOk.str (h:TIOk P t i) (hk:i.kind=.str):P.underlying t=some .string:=by
 obtain ⟨d,hd,hk'⟩:=h.und
 rw [hk] at hk'
 cases d <;> simp [TKof] at hk'
 exact hd
theorem TIOk.struct {fs:List (Nat×Nat)} (h:TIOk P t i) (hk:i.kind=.struct fs):∃fields,P.underlying t=some (.struct fields)∧fields.toList.map (fun f=>(f.offset,f.type))=fs:=by
 obtain ⟨d,hd,hk'⟩:=h.und
 rw [hk] at hk'
 cases d <;> simp [TKof] at hk'
 exact ⟨_,hd,hk'⟩
theorem TIOk.run_size (h:TIOk P t i) (w:World):(sizeOf t).run P w=.ok i.cells w:=by
 obtain ⟨j,hj,_,hs,_⟩:=h.info
 simp [sizeOf,typeInfo,hj,hs]
theorem TIOk.run_zero (h:TIOk P t i) (w:World):(zeroValue t).run P w=.ok i.zero w:=by
 obtain ⟨j,hj,hz,_⟩:=h.info
 simp [zeroValue,typeInfo,hj,hz]
end
def aggK:TK→Bool
 | .struct _ | .arr _ _=>true
 | _=>false
theorem TIOk.run_agg {P:Program} {t:Nat} {i:TI} (h:TIOk P t i) (w:World):(isAgg t).run P w=.ok (aggK i.kind) w:=by
 obtain ⟨d,hd,hk⟩:=h.und
 simp only [isAgg,Sem.run_bind,run_underlying hd,Result.andThen_ok]
 cases d <;> simp [TKof] at hk <;> rw [←hk] <;> rfl
def ofV:Value→AV
 | .agg cs=>bif cs.toList.all (·.oneCell') then .a (cs.toList.map .v) else .junk
 | .tuple _=>.junk
 | x=>.v x
theorem ofV_rd (w:World) (F:Nat→Prop) (x:Value) (β:Nat→Value):Rd w F β (ofV x) x:=by
 unfold ofV
 split
 ·rename_i cs
  cases hc:cs.toList.all (·.oneCell') with
  | false=>exact .junk
  | true =>
   refine .i (.a (by simp) (fun i hi=>?_) fun i hi=>?_)
   ·simp at hi
    have:=(List.all_eq_true.1 hc) cs[i] (by simp)
    simpa [Array.getD,hi] using this
   ·simp at hi
    have:=(List.all_eq_true.1 hc) cs[i] (by simp)
    simp [Array.getD,hi]
    exact .v (.inl this)
 ·exact .junk
 ·rename_i h1 h2
  refine .i (.v (.inl ?_))
  cases x <;> first | rfl | exact absurd rfl (h1 _) | exact absurd rfl (h2 _)
def ev (f:Nat→AV):Operand→AV
 | .tmp t=>f t
 | .const v=>ofV v
 | .global _=>.junk
 | .func g=>.c (.func g) [] []
theorem ev_rd {w:World} {F:Nat→Prop} {β:Nat→Value} {f:Nat→AV} {a:Act} (h:∀t,Rd w F β (f t) (a.tmps.getD t undef)) (x:Operand):Rd w F β (ev f x) (a.eval x):=by
 cases x with
 | tmp t=>exact h t
 | const v=>exact ofV_rd _ _ _ _
 | global g=>exact .junk
 | func g=>exact .i (.c rfl rfl (fun i hi=>absurd hi (by simp)) (fun i hi=>absurd hi (by simp)))
theorem InI64.wrap {n:Int} (h:InI64 n):IntKind.i64.wrap n=n:=IntWalk.i64_in _ h
def binI (op:BinOp) (kx ky:IntKind) (a b:Int) (k:Value→Prop):Prop :=
 match op with
 | .shl=>0≤b∧∃r,kx.wrap (a * 2 ^ (min b.toNat kx.bits))=r∧k (.int kx r)
 | .shr=>0≤b∧∃r,a.fdiv (2 ^ (min b.toNat kx.bits))=r∧k (.int kx r)
 | op=>bif kx == ky then
  match op with
  | .add=>match kx with
   | .i64=>(InI64 (a+b)∧k (.int .i64 (a+b)))∨∃r,IntKind.i64.wrap (a+b)=r∧k (.int .i64 r)
   | _=>∃r,kx.wrap (a+b)=r∧k (.int kx r)
  | .sub=>match kx with
   | .i64=>(InI64 (a - b)∧k (.int .i64 (a - b)))∨∃r,IntKind.i64.wrap (a - b)=r∧k (.int .i64 r)
   | _=>∃r,kx.wrap (a - b)=r∧k (.int kx r)
  | .mul=>match kx with
   | .i64=>(InI64 (a * b)∧k (.int .i64 (a * b)))∨∃r,IntKind.i64.wrap (a * b)=r∧k (.int .i64 r)
   | _=>∃r,kx.wrap (a * b)=r∧k (.int kx r)
  | .quo=>b≠0∧∃r,kx.wrap (a.tdiv b)=r∧k (.int kx r)
  | .rem=>b≠0∧∃r,a.tmod b=r∧k (.int kx r)
  | .and=>∃r,kx.wrap (BitVec.ofInt kx.bits a &&& BitVec.ofInt kx.bits b).toNat=r∧k (.int kx r)
  | .or=>∃r,kx.wrap (BitVec.ofInt kx.bits a ||| BitVec.ofInt kx.bits b).toNat=r∧k (.int kx r)
  | .xor=>∃r,kx.wrap (BitVec.ofInt kx.bits a ^^^ BitVec.ofInt kx.bits b).toNat=r∧k (.int kx r)
  | .andNot=>∃r,kx.wrap (BitVec.ofInt kx.bits a &&& ~~~BitVec.ofInt kx.bits b).toNat=r∧k (.int kx r)
  | .eql=>k (.bool (a == b))
  | .neq=>k (.bool (a != b))
  | .lss=>k (.bool (decide (a < b)))
  | .leq=>k (.bool (decide (a≤b)))
  | .gtr=>k (.bool (decide (a > b)))
  | .geq=>k (.bool (decide (a≥b)))
  | _=>False
 else False
theorem cond_prop {c:Bool} {p:Prop} (h:bif c then p else False):c=true∧p:=by
 cases c with
 | true=>exact ⟨rfl,h⟩
 | false=>exact h.elim
theorem beqK {a b:IntKind} (h:(a == b)=true):a=b:=by
 cases a <;> cases b <;> first | rfl | exact absurd h (by decide)
theorem binI_run {P:Program} {op:BinOp} {kx ky:IntKind} {a b:Int} {k:Value→Prop} (h:binI op kx ky a b k) (t:TypeId) (w:World) :
  ∃v,(binOp op t (.int kx a) (.int ky b)).run P w=.ok v w∧v.oneCell'=true∧k v:=by
 cases op
 case shl =>
  obtain ⟨h0,r,rfl,hk⟩:=h
  exact ⟨_,by simp [binOp,Op.shift,Int.not_lt.2 h0],rfl,hk⟩
 case shr =>
  obtain ⟨h0,r,rfl,hk⟩:=h
  exact ⟨_,by simp [binOp,Op.shift,Int.not_lt.2 h0],rfl,hk⟩
 all_goals
  simp only [binI] at h
  obtain ⟨hc,h1⟩:=cond_prop h
  clear h
  obtain rfl:=beqK hc
  clear hc
 case add =>
  cases kx <;> first | (obtain ⟨r,rfl,hk⟩:=h1; exact ⟨_,by simp [binOp,Op.intArith],rfl,hk⟩) | (rcases h1 with ⟨h1,hk⟩ | ⟨r,rfl,hk⟩; exact ⟨_,by simp [binOp,Op.intArith,h1.wrap],rfl,hk⟩; exact ⟨_,by simp [binOp,Op.intArith],rfl,hk⟩)
 case sub =>
  cases kx <;> first | (obtain ⟨r,rfl,hk⟩:=h1; exact ⟨_,by simp [binOp,Op.intArith],rfl,hk⟩) | (rcases h1 with ⟨h1,hk⟩ | ⟨r,rfl,hk⟩; exact ⟨_,by simp [binOp,Op.intArith,h1.wrap],rfl,hk⟩; exact ⟨_,by simp [binOp,Op.intArith],rfl,hk⟩)
 case mul =>
  cases kx <;> first | (obtain ⟨r,rfl,hk⟩:=h1; exact ⟨_,by simp [binOp,Op.intArith],rfl,hk⟩) | (rcases h1 with ⟨h1,hk⟩ | ⟨r,rfl,hk⟩; exact ⟨_,by simp [binOp,Op.intArith,h1.wrap],rfl,hk⟩; exact ⟨_,by simp [binOp,Op.intArith],rfl,hk⟩)
 case quo =>
  obtain ⟨h0,r,rfl,hk⟩:=h1
  exact ⟨_,by simp [binOp,Op.intDiv,h0],rfl,hk⟩
 case rem =>
  obtain ⟨h0,r,rfl,hk⟩:=h1
  exact ⟨_,by simp [binOp,Op.intDiv,h0],rfl,hk⟩
 case and =>
  obtain ⟨r,rfl,hk⟩:=h1
  exact ⟨_,by simp [binOp,Op.intBits],rfl,hk⟩
 case or =>
  obtain ⟨r,rfl,hk⟩:=h1
  exact ⟨_,by simp [binOp,Op.intBits],rfl,hk⟩
 case xor =>
  obtain ⟨r,rfl,hk⟩:=h1
  exact ⟨_,by simp [binOp,Op.intBits],rfl,hk⟩
 case andNot =>
  obtain ⟨r,rfl,hk⟩:=h1
  exact ⟨_,by simp [binOp,Op.intBits],rfl,hk⟩
 all_goals exact ⟨_,by simp [binOp,Op.intCmp],rfl,h1⟩
end Go.Cat
set_option linter.all false
namespace Go.Cat
open Go.RowKit
variable [M:Mono]
inductive CK1 where
 | int (k:IntKind) | bool | str
inductive CK where
 | one (k:CK1) | st (l:List CK1)
def ck1s:CK→List CK1
 | .one k=>[k]
 | .st l=>l
def ckFits (P:Program) (t:TypeId) (k:CK1):Bool :=
 match P.underlying t,k with
 | some (.int q),.int k=>q == k
 | some .bool,.bool=>true
 | some .string,.str=>true
 | _,_=>false
def eqFs1 (P:Program):Nat→List Field→List CK1→Bool
 | _,[],[]=>true
 | o, f :: fs, k :: ks => f.name != "_" && (Nat.beq f.offset o && (ckFits P f.type k && eqFs1 P (o + 1) fs ks))
 | _,_,_=>false
def ckFit (P:Program) (t:TypeId):CK→Bool
 | .one k=>ckFits P t k
 | .st l=>(match P.underlying t with | some (.struct _)=>true | _=>false)&&(!P.stoodInHeld t&&((match P.info? t with | some i=>Nat.beq i.size l.length | none=>false)&&eqFs1 P 0 (P.fieldsOf t).toList l))
def eqFs (P:Program):Nat→List Field→List CK→Bool
 | _,[],[]=>true
 | o, f :: fs, k :: ks => f.name != "_" && (Nat.beq f.offset o && (ckFit P f.type k && eqFs P (o + (ck1s k).length) fs ks))
 | _,_,_=>false
def eqTy (P:Program) (t:TypeId) (ks:List CK):Bool :=
 (match P.underlying t with | some (.struct _)=>true | _=>false)&&(!P.stoodInHeld t&&(!P.eqGuardType P.depth t&&eqFs P 0 (P.fieldsOf t).toList ks))
def fitK1:List CK1→List AV→List AV→Bool
 | [],[],[]=>true
 | .int k::ks,.v (.int k1 _)::r,.v (.int k2 _)::r'=>k1 == k&&(k2 == k&&fitK1 ks r r')
 | .bool::ks,.v (.bool _)::r,.v (.bool _)::r'=>fitK1 ks r r'
 | .str::ks,.v (.string _)::r,.v (.string _)::r'=>fitK1 ks r r'
 | _,_,_=>false
def fitK:List CK→List AV→List AV→Bool
 | [],[],[]=>true
 | k::ks,xs,ys=>fitK1 (ck1s k) (xs.take (ck1s k).length) (ys.take (ck1s k).length)&&fitK ks (xs.drop (ck1s k).length) (ys.drop (ck1s k).length)
 | _,_,_=>false
def eqCells:List AV→List AV→Bool
 | .v (.int _ a)::r,.v (.int _ b)::r'=>a == b&&eqCells r r'
 | .v (.bool a)::r,.v (.bool b)::r'=>a == b&&eqCells r r'
 | .v (.string a)::r,.v (.string b)::r'=>a.data.toList == b.data.toList&&eqCells r r'
 | _,_=>true
theorem beqKind {a b:IntKind} (h:(a == b)=true):a=b:=by
 cases a <;> cases b <;> first | rfl | exact absurd h (by decide)
theorem run_part1 {P:Program} {w:World} {t:TypeId} {k:CK1} {us:Array Value} {o:Nat} {v:Value} (hk:ckFits P t k=true) (h:us[o]?=some v):(part t us o).run P w=.ok v w:=by
 unfold ckFits at hk
 split at hk
 ·rename_i hu; simp [part,isAgg,run_underlying hu,h]
 ·rename_i hu; simp [part,isAgg,run_underlying hu,h]
 ·rename_i hu; simp [part,isAgg,run_underlying hu,h]
 ·cases hk
theorem run_eqFields1 {P:Program} {w:World} {us vs:Array Value} {d:Nat}:∀(fs:List Field) (ks:List CK1) (xs ys:List AV) (o:Nat),eqFs1 P o fs ks=true→fitK1 ks xs ys=true →
  (∀i x,xs[i]?=some (.v x)→us[o+i]?=some x)→(∀i x,ys[i]?=some (.v x)→vs[o+i]?=some x)→(Op.eqFields (d+1) us vs fs).run P w=.ok (eqCells xs ys) w
 | [],[],[],[],_,_,_,_,_=>by simp [Op.eqFields,eqCells]
 | f::fs,k::ks,xs,ys,o,hf,hk,hx,hy=>by
  simp only [eqFs1,Bool.and_eq_true,bne_iff_ne] at hf
  obtain ⟨hname,hoff,hck,hrest⟩:=hf
  have hoff:f.offset=o:=Nat.eq_of_beq_eq_true hoff
  have hu:∃td,P.underlying f.type=some td:=by
   unfold ckFits at hck
   cases h:P.underlying f.type with
   | none=>rw [h] at hck; cases hck
   | some td=>exact ⟨td,rfl⟩
  have go:∀{x y:Value} {r r':List AV} {b:Bool},xs=.v x::r→ys=.v y::r'→fitK1 ks r r'=true→(Op.equalIn (d+1) f.type x y).run P w=.ok b w→eqCells xs ys=(b&&eqCells r r')→(Op.eqFields (d+1) us vs (f::fs)).run P w=.ok (eqCells xs ys) w:=by
   intro x y r r' b ex ey hfit he hb
   subst ex; subst ey
   have h1:=run_part1 (w:=w) hck (hx 0 x rfl)
   have h2:=run_part1 (w:=w) hck (hy 0 y rfl)
   rw [Nat.add_zero] at h1 h2
   have ih:=run_eqFields1 (P:=P) (w:=w) (us:=us) (vs:=vs) (d:=d) fs ks r r' (o+1) hrest hfit (fun i x h=>by have:=hx (i+1) x (by simpa using h); rwa [show o+1+i=o+(i+1) by omega]) (fun i x h=>by have:=hy (i+1) x (by simpa using h); rwa [show o+1+i=o+(i+1) by omega])
   rw [hb]
   simp only [Op.eqFields,if_pos hname,Sem.run_bind,hoff,h1,h2,he,Result.andThen_ok,Sem.run_ite]
   cases b
   ·simp
   ·simp [ih]
  unfold fitK1 at hk
  split at hk
  ·rename_i e; cases e
  ·rename_i e
   cases e
   simp only [Bool.and_eq_true] at hk
   have e2':=beqKind hk.1; have e3':=beqKind hk.2.1
   subst e2'; subst e3'
   unfold ckFits at hck
   split at hck
   ·rename_i hu' e; cases e
    exact go rfl rfl hk.2.2 (run_equalIn_int w d f.type _ _ _ _ hu') rfl
   ·rename_i e; cases e
   ·rename_i e; cases e
   ·cases hck
  ·rename_i e
   cases e
   unfold ckFits at hck
   split at hck
   ·rename_i e; cases e
   ·rename_i hu' e
    exact go rfl rfl hk (run_equalIn_bool' w d f.type _ _ hu') rfl
   ·rename_i e; cases e
   ·cases hck
  ·rename_i e
   cases e
   unfold ckFits at hck
   split at hck
   ·rename_i e; cases e
   ·rename_i e; cases e
   ·rename_i hu' e
    exact go rfl rfl hk (run_equalIn_string w d f.type _ _ hu') (by rw [ByteArray.toList_eq,ByteArray.toList_eq]; rfl)
   ·cases hck
  ·cases hk
 | [],_::_,_,_,_,h,_,_,_=>by simp [eqFs1] at h
 | _::_,[],_,_,_,h,_,_,_=>by simp [eqFs1] at h
 | [],[],_::_,_,_,_,h,_,_=>by simp [fitK1] at h
 | [],[],[],_::_,_,_,h,_,_=>by simp [fitK1] at h
theorem fitK1_len:∀{l:List CK1} {a b:List AV},fitK1 l a b=true→a.length=l.length∧b.length=l.length:=by
 intro l
 induction l with
 | nil =>
  intro a b h
  unfold fitK1 at h
  split at h <;> simp_all
 | cons k ks ih =>
  intro a b h
  unfold fitK1 at h
  split at h
  ·rename_i e; cases e
  ·rename_i e; cases e
   simp only [Bool.and_eq_true] at h
   have:=ih h.2.2
   simp [this.1,this.2]
  ·rename_i e; cases e
   have:=ih h
   simp [this.1,this.2]
  ·rename_i e; cases e
   have:=ih h
   simp [this.1,this.2]
  ·cases h
theorem eqCells_app:∀{l:List CK1} {a b:List AV} (r r':List AV),fitK1 l a b=true→eqCells (a++r) (b++r')=(eqCells a b&&eqCells r r'):=by
 intro l
 induction l with
 | nil =>
  intro a b r r' h
  unfold fitK1 at h
  split at h <;> simp_all [eqCells]
 | cons k ks ih =>
  intro a b r r' h
  unfold fitK1 at h
  split at h
  ·rename_i e; cases e
  ·rename_i e; cases e
   simp only [Bool.and_eq_true] at h
   simp only [List.cons_append,eqCells,ih r r' h.2.2,Bool.and_assoc]
  ·rename_i e; cases e
   simp only [List.cons_append,eqCells,ih r r' h,Bool.and_assoc]
  ·rename_i e; cases e
   simp only [List.cons_append,eqCells,ih r r' h,Bool.and_assoc]
  ·cases h
theorem run_part_st {P:Program} {w:World} {t:TypeId} {l:List CK1} {us:Array Value} {o:Nat} (hk:ckFit P t (.st l)=true):(part t us o).run P w=.ok (.agg (us.extract o (o+l.length))) w:=by
 simp only [ckFit,Bool.and_eq_true] at hk
 obtain ⟨h1,_,h3,_⟩:=hk
 cases hi:P.info? t with
 | none=>rw [hi] at h3; cases h3
 | some i =>
  rw [hi] at h3
  have hs:i.size=l.length:=Nat.eq_of_beq_eq_true h3
  cases hu:P.underlying t with
  | none=>rw [hu] at h1; cases h1
  | some d =>
   rw [hu] at h1
   cases d <;> first | (cases h1; done) | skip
   simp [part,isAgg,run_underlying hu,sizeOf,typeInfo,hi,hs]
theorem run_eqFields {P:Program} {w:World} {us vs:Array Value} {d:Nat}:∀(fs:List Field) (ks:List CK) (xs ys:List AV) (o:Nat),eqFs P o fs ks=true→fitK ks xs ys=true →
  (∀i x,xs[i]?=some (.v x)→us[o+i]?=some x)→(∀i x,ys[i]?=some (.v x)→vs[o+i]?=some x)→(Op.eqFields (d+2) us vs fs).run P w=.ok (eqCells xs ys) w
 | [],[],[],[],_,_,_,_,_=>by simp [Op.eqFields,eqCells]
 | [],_::_,_,_,_,h,_,_,_=>by simp [eqFs] at h
 | _::_,[],_,_,_,h,_,_,_=>by simp [eqFs] at h
 | [],[],_::_,_,_,_,h,_,_=>by simp [fitK] at h
 | [],[],[],_::_,_,_,h,_,_=>by simp [fitK] at h
 | f::fs,k::ks,xs,ys,o,hf,hk,hx,hy=>by
  simp only [eqFs,Bool.and_eq_true,bne_iff_ne] at hf
  obtain ⟨hname,hoff,hck,hrest⟩:=hf
  have hoff:f.offset=o:=Nat.eq_of_beq_eq_true hoff
  simp only [fitK,Bool.and_eq_true] at hk
  obtain ⟨hk1,hk2⟩:=hk
  obtain ⟨m,hm⟩:∃m,m=(ck1s k).length:=⟨_,rfl⟩
  rw [←hm] at hk1 hk2 hrest
  have hlen:=fitK1_len hk1
  rw [←hm] at hlen
  have ecs:eqCells xs ys=(eqCells (xs.take m) (ys.take m)&&eqCells (xs.drop m) (ys.drop m)):=by
   have:=eqCells_app (xs.drop m) (ys.drop m) hk1
   rwa [List.take_append_drop,List.take_append_drop] at this
  have ih:=run_eqFields (P:=P) (w:=w) (us:=us) (vs:=vs) (d:=d) fs ks (xs.drop m) (ys.drop m) (o+m) hrest hk2
   (fun i x h=>by rw [List.getElem?_drop] at h; have:=hx (m+i) x h; rwa [show o+m+i=o+(m+i) by omega])
   (fun i x h=>by rw [List.getElem?_drop] at h; have:=hy (m+i) x h; rwa [show o+m+i=o+(m+i) by omega])
  have hx':∀i x,(xs.take m)[i]?=some (.v x)→us[o+i]?=some x:=fun i x h=>by
   have hi:=(List.getElem?_eq_some_iff.1 h).1
   rw [List.getElem?_take_of_lt (by rw [hlen.1] at hi; exact hi)] at h
   exact hx i x h
  have hy':∀i x,(ys.take m)[i]?=some (.v x)→vs[o+i]?=some x:=fun i x h=>by
   have hi:=(List.getElem?_eq_some_iff.1 h).1
   rw [List.getElem?_take_of_lt (by rw [hlen.2] at hi; exact hi)] at h
   exact hy i x h
  generalize xs.take m=a at hk1 ecs hx' hlen
  generalize ys.take m=b at hk1 ecs hy' hlen
  rw [ecs]
  clear ecs
  have key:∃x y,(part f.type us o).run P w=.ok x w∧(part f.type vs o).run P w=.ok y w∧(Op.equalIn (d+2) f.type x y).run P w=.ok (eqCells a b) w:=by
   cases k with
   | one k =>
    have hck1:ckFits P f.type k=true:=hck
    have hone:(Op.eqFields (d+2) us vs [f]).run P w=.ok (eqCells a b) w :=
     run_eqFields1 (P:=P) (w:=w) (us:=us) (vs:=vs) (d:=d+1) [f] [k] a b o (by simp [eqFs1,hname,hoff,hck1]) hk1 hx' hy'
    unfold fitK1 at hk1
    simp only [ck1s] at hk1
    split at hk1
    ·rename_i e; cases e
    ·rename_i e
     cases e
     have h1:=run_part1 (w:=w) hck1 (hx' 0 _ rfl)
     have h2:=run_part1 (w:=w) hck1 (hy' 0 _ rfl)
     rw [Nat.add_zero] at h1 h2
     simp only [Bool.and_eq_true] at hk1
     have e2':=beqKind hk1.1; have e3':=beqKind hk1.2.1
     subst e2'; subst e3'
     have hnil:=fitK1_len hk1.2.2
     have ha:=List.length_eq_zero_iff.1 hnil.1
     have hb:=List.length_eq_zero_iff.1 hnil.2
     subst ha; subst hb
     refine ⟨_,_,h1,h2,?_⟩
     unfold ckFits at hck1
     split at hck1
     ·rename_i hu' e; cases e
      rw [run_equalIn_int w (d+1) f.type _ _ _ _ hu']; simp [eqCells]
     ·rename_i e; cases e
     ·rename_i e; cases e
     ·cases hck1
    ·rename_i e
     cases e
     have h1:=run_part1 (w:=w) hck1 (hx' 0 _ rfl)
     have h2:=run_part1 (w:=w) hck1 (hy' 0 _ rfl)
     rw [Nat.add_zero] at h1 h2
     have hnil:=fitK1_len hk1
     have ha:=List.length_eq_zero_iff.1 hnil.1
     have hb:=List.length_eq_zero_iff.1 hnil.2
     subst ha; subst hb
     refine ⟨_,_,h1,h2,?_⟩
     unfold ckFits at hck1
     split at hck1
     ·rename_i e; cases e
     ·rename_i hu' e
      rw [run_equalIn_bool' w (d+1) f.type _ _ hu']; simp [eqCells]
     ·rename_i e; cases e
     ·cases hck1
    ·rename_i e
     cases e
     have h1:=run_part1 (w:=w) hck1 (hx' 0 _ rfl)
     have h2:=run_part1 (w:=w) hck1 (hy' 0 _ rfl)
     rw [Nat.add_zero] at h1 h2
     have hnil:=fitK1_len hk1
     have ha:=List.length_eq_zero_iff.1 hnil.1
     have hb:=List.length_eq_zero_iff.1 hnil.2
     subst ha; subst hb
     refine ⟨_,_,h1,h2,?_⟩
     unfold ckFits at hck1
     split at hck1
     ·rename_i e; cases e
     ·rename_i e; cases e
     ·rename_i hu' e
      rw [run_equalIn_string w (d+1) f.type _ _ hu',ByteArray.toList_eq,ByteArray.toList_eq]; simp [eqCells]
     ·cases hck1
    ·cases hk1
   | st l =>
    have hml:m=l.length:=hm
    refine ⟨_,_,run_part_st hck,run_part_st hck,?_⟩
    simp only [ckFit,Bool.and_eq_true,Bool.not_eq_true'] at hck
    obtain ⟨h1,h2,_,h4⟩:=hck
    have hund:P.underlying f.type=some (.struct (P.fieldsOf f.type)):=by
     unfold Program.fieldsOf
     cases hd:P.underlying f.type with
     | none=>rw [hd] at h1; cases h1
     | some dd =>
      rw [hd] at h1
      cases dd <;> first | rfl | cases h1
    rw [run_equalIn_struct w (d+1) f.type _ _ hund h2]
    refine run_eqFields1 (P:=P) (w:=w) (d:=d) _ l a b 0 h4 hk1 (fun i x h=>?_) fun i x h=>?_
    ·have hi:=(List.getElem?_eq_some_iff.1 h).1
     rw [Nat.zero_add,Array.getElem?_extract]
     have hu:=hx' i x h
     have hlt:o+i < us.size:=(Array.getElem?_eq_some_iff.1 hu).1
     rw [if_pos (by omega)]; exact hu
    ·have hi:=(List.getElem?_eq_some_iff.1 h).1
     rw [Nat.zero_add,Array.getElem?_extract]
     have hu:=hy' i x h
     have hlt:o+i < vs.size:=(Array.getElem?_eq_some_iff.1 hu).1
     rw [if_pos (by omega)]; exact hu
  obtain ⟨x,y,p1,p2,p3⟩:=key
  simp only [Op.eqFields,if_pos hname,Sem.run_bind,hoff,p1,p2,p3,Result.andThen_ok,Sem.run_ite]
  cases eqCells a b
  ·simp
  ·simp [ih]
end Go.Cat
set_option linter.all false
namespace Go.Cat
open Go.RowKit
variable [M:Mono]
def findC (id:Nat):Hp→Option Chunk
 | []=>none
 | (i,c)::r=>bif Nat.beq i id then some c else findC id r
theorem findC_mem {id:Nat} {H:Hp} {c:Chunk} (h:findC id H=some c):(id,c)∈H:=by
 induction H with
 | nil=>cases h
 | cons x r ih =>
  obtain ⟨i,c'⟩:=x
  simp only [findC] at h
  cases hb:Nat.beq i id with
  | true =>
   rw [hb] at h
   cases h
   rw [Nat.eq_of_beq_eq_true hb]
   simp
  | false =>
   rw [hb] at h
   exact List.mem_cons_of_mem _ (ih h)
def FNew (F:Nat→Prop) (w w':World):Nat→Prop:=fun b=>F b∨(w.heap.size≤b∧b < w'.heap.size)
theorem Below.agree {w w':World} {F:Nat→Prop} (h:Below w.heap.size w w') (hF:∀b,F b→b < w.heap.size):Agree F w w':=fun b hb=>h.block b (hF b hb)
theorem Rd.later {w w':World} {F:Nat→Prop} {β:Nat→Value} {x:AV} {u:Value} (h:Rd w F β x u) (hb:Below w.heap.size w w') (hF:∀b,F b→b < w.heap.size):Rd w' (FNew F w w') β x u :=
 h.frame (Below.agree hb hF) fun _ h=>.inl h
def QOut (P:Program) (s:Sem Next) (w:World) (post:Value→World→Prop):Prop :=
 (∃v w',s.run P w=.ok (.value v) w'∧Below w.heap.size w w'∧post v w') ∨
 (∃g vs,s.run P w=.ok (.enter g vs) w∧Calls P g vs w fun e w'=>∃v,e=.returned v∧Below w.heap.size w w'∧post v w')
def Entered (P : Program) (g : FuncId) : Prop := ∃ fn c, P.funcs[g]? = some fn ∧ (fn.name == "runtime.NumGoroutine") = false ∧ fn.body = some c
def SPure (P:Program) (g:FuncId) (args:List AV) (H:Hp) (r:AV):Prop :=
 Entered P g∧∀(w:World) (F:Nat→Prop) (β:Nat→Value) (vs:Array Value),Inv w F β H→vs.size=args.length →
  (∀i,i < args.length→Rd w F β (args.getD i .junk) (vs.getD i undef)) →
  Calls P g vs w fun e w'=>∃v,e=.returned v∧Below w.heap.size w w'∧RdI w' (FNew F w w') r v
abbrev Pure (P:Program) (g:FuncId) (args:List AV) (r:AV):Prop:=SPure P g args [] r
def sPick (c a b:AV) (k:AV→Prop):Prop :=
 match c with
 | .v (.bool true)=>k a
 | .v (.bool false)=>k b
 | _=>False
def sExtract (t:AV) (i:Nat) (k:AV→Prop):Prop :=
 match t with
 | .t vs=>bif Nat.blt i vs.length then k (vs.getD i .junk) else False
 | _=>False
def sUn (op:UnOp) (x:AV) (k:AV→Prop):Prop :=
 match op,x with
 | .not,.v (.bool b)=>k (.v (.bool (!b)))
 | .neg,.v (.int kd n)=>∃r,kd.wrap (0 - n)=r∧k (.v (.int kd r))
 | _,_=>False
def strI (op:BinOp) (a b:ByteArray) (k:Value→Prop):Prop :=
 match op with
 | .add=>a.size+b.size≤9223372036854775807∧∃r,a++b=r∧k (.string r)
 | .eql=>∃r:Bool,(a.toList == b.toList)=r∧k (.bool r)
 | .neq=>∃r:Bool,(!(a.toList == b.toList))=r∧k (.bool r)
 | .lss=>∃r:Bool,Op.bytesLess a.toList b.toList=r∧k (.bool r)
 | .leq=>∃r:Bool,(Op.bytesLess a.toList b.toList||a.toList == b.toList)=r∧k (.bool r)
 | .gtr=>∃r:Bool,(!(Op.bytesLess a.toList b.toList||a.toList == b.toList))=r∧k (.bool r)
 | .geq=>∃r:Bool,(!Op.bytesLess a.toList b.toList)=r∧k (.bool r)
 | _=>False
def sBin (P:Program) (T:TT) (op:BinOp) (t:Nat) (x y:AV) (k:AV→Prop):Prop :=
 match x,y with
 | .v (.int kx a),.v (.int ky b)=>binI op kx ky a b fun v=>k (.v v)
 | .v (.string a),.v (.string b)=>strI op a b fun v=>k (.v v)
 | .v (.bool a),.v (.bool b) =>
  match T t with
  | some i=>match i.kind with
   | .bool=>match op with
    | .eql=>k (.v (.bool (a == b)))
    | .neq=>k (.v (.bool (!(a == b))))
    | _=>False
   | _=>False
  | none=>False
 | .s rows,.v (.slice none 0 0) =>
  match T t with
  | some i=>match i.kind with
   | .slice _=>match op with
    | .eql=>∀b:Bool,(b=true→rows=[])→k (.v (.bool b))
    | .neq=>∀b:Bool,(b=false→rows=[])→k (.v (.bool b))
    | _=>False
   | _=>False
  | none=>False
 | .a xs,.a ys=>∃ks,eqTy P t ks=true∧bif fitK ks xs ys then
   match op with
   | .eql=>k (.v (.bool (eqCells xs ys)))
   | .neq=>k (.v (.bool (!eqCells xs ys)))
   | _=>False
  else False
 | _,_=>False
theorem bif_of {c:Bool} {p:Prop} (hc:c=true) (h:p):bif c then p else False:=by rw [hc]; exact h
def encB (b:UInt8):List AV:=[.v (.int .u8 (b.toNat:Int))]
def sConv (T:TT) (src dst:Nat) (x:AV) (k:AV→Prop):Prop :=
 match T src,T dst with
 | some i,some j =>
  match j.kind,x with
  | .int kd,.v (.int _ n)=>∃r,kd.wrap n=r∧k (.v (.int kd r))
  | .str,.v (.string s)=>k (.v (.string s))
  | .slice e,.v (.string s) =>
   match T e with
   | some je=>match je.kind with
    | .int .u8=>s.size≤maxLen∧k (.s (s.data.toList.map encB))
    | _=>False
   | none=>False
  | .str,.s rows =>
   match i.kind with
   | .slice e=>match T e with
    | some je=>match je.kind with
     | .int .u8=>∃l:List UInt8,rows=l.map encB∧k (.v (.string ⟨l.toArray⟩))
     | _=>False
    | none=>False
   | _=>False
  | _,_=>False
 | _,_=>False
def addOff (x:AV) (off:Nat) (k:AV→Prop):Prop :=
 match x with
 | .b id o=>k (.b id (o+off))
 | .p cells=>k (.p (cells.drop off))
 | .e id K i j=>k (.e id K i (j+off))
 | _=>False
def sFieldA (T:TT) (t:Nat) (x:AV) (f:Nat) (k:AV→Prop):Prop :=
 match T t with
 | some i=>match i.kind with
  | .struct fs=>match fs[f]? with
   | some (off,ty)=>match T ty with
    | some j=>bif Nat.beq j.cells 0 then False else addOff x off k
    | none=>False
   | none=>False
  | _=>False
 | none=>False
def ldCells (i:TI) (cells:List AV) (off:Nat) (k:AV→Prop):Prop :=
 bif Nat.ble (off+i.cells) cells.length then
  bif aggK i.kind then ∃c,(cells.drop off).take i.cells=c∧k (.a c)
  else bif Nat.beq i.cells 1 then ∃x,cells[off]?=some x∧k x else False
 else False
def sLoad (T:TT) (t:Nat) (x:AV) (H:Hp) (k:AV→Prop):Prop :=
 match T t with
 | some i=>match x with
  | .b id off=>match findC id H with
   | some (.box cells)=>ldCells i cells off k
   | _=>False
  | .p cells=>ldCells i cells 0 k
  | .e id K m j=>match findC id H with
   | some (.own _ K' rows)=>∃row,rows[m]?=some row∧K=K'∧ldCells i row j k
   | _=>False
  | _=>False
 | none=>False
def sIndexA (T:TT) (t:Nat) (x i:AV) (H:Hp) (k:AV→Prop):Prop :=
 match T t with
 | some ti=>match ti.kind with
  | .slice e=>match T e with
   | some j=>match x,i with
    | .s rows,.v (.int _ n)=>∃m:Nat,n=(m:Int)∧∃row,rows[m]?=some row∧(bif Nat.beq row.length j.cells then k (.p row) else False)
    | .o id,.v (.int _ n)=>match findC id H with
     | some (.own _ K rows)=>bif Nat.beq K j.cells then ∃m:Nat,n=(m:Int)∧m < rows.length∧k (.e id K m 0) else False
     | _=>False
    | .w id Kw d,.v (.int _ n)=>match findC id H with
     | some (.own _ K rows)=>bif Nat.beq K j.cells&&Nat.beq Kw K then ∃m:Nat,n=(m:Int)∧d+m < rows.length∧k (.e id K (d+m) 0) else False
     | _=>False
    | _,_=>False
   | none=>False
  | .arr len e=>match T e with
   | some j=>match x,i with
    | .b id off,.v (.int _ n)=>∃m:Nat,n=(m:Int)∧m < len∧k (.b id (off+m * j.cells))
    | .p cells,.v (.int _ n)=>∃m:Nat,n=(m:Int)∧m < len∧k (.p (cells.drop (m * j.cells)))
    | _,_=>False
   | none=>False
  | _=>False
 | none=>False
def sIndex (T:TT) (t:Nat) (x i:AV) (k:AV→Prop):Prop :=
 match T t with
 | some ti=>match ti.kind,x,i with
  | .str,.v (.string s),.v (.int _ n)=>∃m:Nat,n=(m:Int)∧∃b:UInt8,s.data.toList[m]?=some b∧k (.v (.int .u8 (b.toNat:Int)))
  | .arr len e,.a cells,.v (.int _ n)=>match T e with
   | some j=>bif aggK j.kind then False else bif Nat.beq j.cells 1 then ∃m:Nat,n=(m:Int)∧m < len∧∃c,cells[m]?=some c∧k c else False
   | none=>False
  | _,_,_=>False
 | none=>False
def boundI (x:Option AV) (d:Nat) (k:Nat→Prop):Prop :=
 match x with
 | none=>k d
 | some (.v (.int _ n))=>∃m:Nat,n=(m:Int)∧k m
 | _=>False
def sSlice (T:TT) (t:Nat) (x:AV) (lo hi mx:Option AV) (H:Hp) (k:AV→Prop):Prop :=
 match T t,mx with
 | some ti,none=>match ti.kind,x with
  | .slice e,.s rows=>match T e with
   | some j=>boundI lo 0 fun l=>boundI hi rows.length fun h=>l≤h∧h≤rows.length∧(∀i,i < rows.length→(rows.getD i []).length=j.cells)∧∃r,(rows.take h).drop l=r∧k (.s r)
   | none=>False
  | .slice e,.o id=>match T e with
   | some j=>match findC id H,hi with
    | some (.own _ K rows),none=>bif Nat.beq K j.cells then boundI lo 0 fun l=>l≤rows.length∧k (.w id K l) else False
    | _,_=>False
   | none=>False
  | .slice e,.w id Kw d=>match T e with
   | some j=>match findC id H,hi with
    | some (.own _ K rows),none=>bif Nat.beq K j.cells&&Nat.beq Kw K then boundI lo 0 fun l=>d+l≤rows.length∧k (.w id K (d+l)) else False
    | _,_=>False
   | none=>False
  | .slice e,.v (.slice none 0 0)=>match T e with
   | some _=>boundI lo 0 fun l=>boundI hi 0 fun h=>l≤h∧h≤0∧k (.v (.slice none 0 0))
   | none=>False
  | .str,.v (.string s)=>boundI lo 0 fun l=>boundI hi s.size fun h=>l≤h∧h≤s.size∧∃r,s.extract l h=r∧k (.v (.string r))
  | _,_=>False
 | _,_=>False
def cellsL:AV→List AV
 | .a cs=>cs
 | x=>[x]
def okCells:AV→Bool
 | .a _=>true
 | x=>isCell x
def fillL (place:Nat→Option (Nat×Nat)):List (Nat×AV)→List AV→Option (List AV)
 | [],cells=>some cells
 | (i,x)::r,cells =>
  match place i with
  | none=>none
  | some (off,size) =>
   bif okCells x&&(Nat.beq (cellsL x).length size&&Nat.ble (off+size) cells.length)
   then fillL place r (cells.take off++(cellsL x++cells.drop (off+size))) else none
def placeF (T:TT) (fs:List (Nat×Nat)) (i:Nat):Option (Nat×Nat) :=
 match fs[i]? with
 | some (off,ty)=>match T ty with
  | some j=>some (off,j.cells)
  | none=>none
 | none=>none
def allTy (T:TT):List (Nat×Nat)→Bool
 | []=>true
 | (_,ty)::r=>(T ty).isSome&&allTy T r
def sBuild (T:TT) (t:Nat) (parts:List (Nat×AV)) (k:AV→Prop):Prop :=
 match T t with
 | some i =>
  match ofV i.zero with
  | .a zs=>match i.kind with
   | .struct fs=>bif allTy T fs then
     match fillL (placeF T fs) parts zs with
     | some cells=>k (.a cells)
     | none=>False
    else False
   | .arr _ e=>match T e with
    | some j=>match fillL (fun i=>some (i * j.cells,j.cells)) parts zs with
     | some cells=>k (.a cells)
     | none=>False
    | none=>False
   | _=>False
  | _=>False
 | none=>False
def rowsOf (size:Nat):Nat→List (Nat×AV)→Option (List (List AV))
 | _,[]=>some []
 | n,(i,x)::r=>bif Nat.beq i n&&(okCells x&&Nat.beq (cellsL x).length size) then (rowsOf size (n+1) r).map (cellsL x::·) else none
def sBuildS (T:TT) (t len:Nat) (parts:List (Nat×AV)) (k:List (List AV)→Nat→Nat→Prop):Prop :=
 match T t with
 | some i=>match i.kind with
  | .slice e=>match T e with
   | some j=>match rowsOf j.cells 0 parts with
    | some rows=>bif Nat.beq parts.length len&&(Nat.ble (len * j.cells) 16777216&&!(Nat.beq j.cells 0)) then k rows e j.cells else False
    | none=>False
   | none=>False
  | _=>False
 | none=>False
def imm0:AV→Bool
 | .v _ | .s _ | .p _ | .z=>true
 | _=>false
def imm1:AV→Bool
 | .a cs | .t cs=>cs.all imm0
 | .c _ fs cs=>fs.all imm0&&cs.all imm0
 | x=>imm0 x
def sNil (x:AV) (k:AV→Prop):Prop :=
 match x with
 | .b id off=>k (.b id off)
 | .p cells=>k (.p cells)
 | .e id K i j=>k (.e id K i j)
 | .c (.func g) fs cs=>k (.c (.func g) fs cs)
 | _=>False
def sLen (T:TT) (t:Nat) (x:AV) (H:Hp) (k:AV→Prop):Prop :=
 match T t with
 | some i=>match i.kind,x with
  | .slice _,.s rows=>∃n:Nat,rows.length=n∧(n≤maxLen→k (.v (.int .i64 (n:Int))))
  | .slice _,.v (.slice none 0 0)=>k (.v (.int .i64 0))
  | .slice _,.o id=>match findC id H with
   | some (.own _ _ rows)=>∃n:Nat,rows.length=n∧(n≤maxLen→k (.v (.int .i64 (n:Int))))
   | _=>False
  | .slice _,.w id _ d=>match findC id H with
   | some (.own _ _ rows)=>∃n:Nat,rows.length - d=n∧(n≤maxLen→k (.v (.int .i64 (n:Int))))
   | _=>False
  | .map _ _,.m id=>match findC id H with
   | some (.mp _ rows)=>∃n:Nat,rows.length=n∧(n≤140737488355328→k (.v (.int .i64 (n:Int))))
   | _=>False
  | .str,.v (.string s)=>∃n:Nat,s.size=n∧k (.v (.int .i64 (n:Int)))
  | .arr n _,_=>k (.v (.int .i64 (n:Int)))
  | _,_=>False
 | none=>False
def sMinMax (mn:Bool) (xs:List AV) (k:AV→Prop):Prop :=
 match xs with
 | [.v (.int kx a),.v (.int ky b)]=>bif kx == ky then ∃r,(if mn then min a b else max a b)=r∧k (.v (.int kx r)) else False
 | _=>False
def sBuiltin (T:TT) (b:Builtin) (ts:List Nat) (xs:List AV) (H:Hp) (k:AV→Prop):Prop :=
 match b,ts,xs with
 | .len,[t],[x]=>sLen T t x H k
 | .cap,[t],[.v (.slice none 0 0)]=>match T t with
  | some i=>match i.kind with
   | .slice _=>k (.v (.int .i64 0))
   | _=>False
  | none=>False
 | .min,_,xs=>sMinMax true xs k
 | .max,_,xs=>sMinMax false xs k
 | _,_,_=>False
def sCall (P:Program) (f:AV) (xs:List AV) (H:Hp) (k:AV→Prop):Prop :=
 match f with
 | .c (.func g) fs cs=>∃r,SPure P g (fs++(xs++cs)) H r∧k r
 | _=>False
def nz:AV→AV
 | .v (.slice none 0 0)=>.s []
 | x=>x
def sMake (T:TT) (t:Nat) (l c:AV) (k:AV→Prop):Prop :=
 match T t,l,c with
 | some i,.v (.int _ nl),.v (.int _ nc)=>match i.kind with
  | .slice e=>match T e with
   | some j=>bif okCells (ofV j.zero)&&(Nat.beq (cellsL (ofV j.zero)).length j.cells&&(cellsL (ofV j.zero)).all imm0) then
     ∃n m:Nat,nl=(n:Int)∧nc=(m:Int)∧n≤m∧m≤140737488355328∧m * j.bytes≤140737488355328∧∃R,List.replicate n ((cellsL (ofV j.zero)).map nz)=R∧k (.s R)
    else False
   | none=>False
  | _=>False
 | _,_,_=>False
def mval (ag:Bool) (y:AV):Option (List AV) :=
 match ag,y with
 | true,.a cs=>bif cs.all imm0 then some cs else none
 | true,_=>none
 | false,.a _=>none
 | false,x=>bif imm0 x then some [x] else none
def sLookup (T:TT) (t:Nat) (m i:AV) (c:Bool) (H:Hp) (k:AV→Prop):Prop :=
 match T t with
 | some ti=>match ti.kind with
  | .map kt e=>match T kt,T e with
   | some ik,some ie=>match ik.kind,m,i with
    | .int .i64,.m id,.v (.int .i64 n)=>match findC id H,mval (aggK ie.kind) (ofV ie.zero) with
     | some (.mp ag rows),some zc=>bif ag == aggK ie.kind then ∃r,(mget n rows).getD (zc.map nz)=r∧(bif c then ∃b,(mget n rows).isSome=b∧k (.t [vOf ag r,.v (.bool b)]) else k (vOf ag r)) else False
     | _,_=>False
    | _,_,_=>False
   | _,_=>False
  | _=>False
 | none=>False
def stepS (P:Program) (T:TT) (o:Oper) (ρ:Operand→AV) (H:Hp) (k:AV→Prop):Prop :=
 match o.op with
 | .move x=>k (ρ x)
 | .assign x=>k (ρ x)
 | .pick c a b=>sPick (ρ c) (ρ a) (ρ b) k
 | .extract t i=>sExtract (ρ t) i k
 | .unOp op _ x=>sUn op (ρ x) k
 | .binOp op t x y _=>sBin P T op t (ρ x) (ρ y) k
 | .convert src dst x=>sConv T src dst (ρ x) k
 | .fieldAddr t x f=>sFieldA T t (ρ x) f k
 | .load t x=>sLoad T t (ρ x) H k
 | .indexAddr t x i=>sIndexA T t (ρ x) (ρ i) H k
 | .index t x i=>sIndex T t (ρ x) (ρ i) k
 | .slice t x lo hi mx=>sSlice T t (ρ x) (lo.map ρ) (hi.map ρ) (mx.map ρ) H k
 | .build t parts=>sBuild T t (parts.toList.map fun q=>(q.1,ρ q.2)) k
 | .buildSlice t len parts=>sBuildS T t len (parts.toList.map fun q=>(q.1,ρ q.2)) fun rows _ _=>bif rows.all (fun r=>r.all imm0) then k (.s (rows.map fun r=>r.map nz)) else False
 | .makeFunc fn fs cs=>k (.c fn (fs.toList.map ρ) (cs.toList.map ρ))
 | .nilCheck x=>sNil (ρ x) k
 | .lookup t x i c=>sLookup T t (ρ x) (ρ i) c H k
 | .makeSlice t l c=>sMake T t (ρ l) (ρ c) k
 | .call c=>match c.callee with
  | .builtin b=>sBuiltin T b c.argTypes.toList (c.args.toList.map ρ) H k
  | .value f=>sCall P (ρ f) (c.args.toList.map ρ) H k
  | .invoke _ _=>False
 | _=>False
end Go.Cat
set_option linter.all false
namespace Go.Cat
open Go.RowKit
variable [M:Mono]
section
variable {P:Program} {T:TT} {w:World} {F:Nat→Prop} {β:Nat→Value} {H:Hp} {k:AV→Prop}
theorem Rd.here {x:AV} {u:Value} (h:Rd w F β x u):Rd w (FNew F w w) β x u:=h.frame (fun _ _=>rfl) fun _ h=>.inl h
def Gives (P:Program) (s:Sem Value) (w:World) (F:Nat→Prop) (β:Nat→Value) (k:AV→Prop):Prop :=
 ∃v w' r,s.run P w=.ok v w'∧Below w.heap.size w w'∧k r∧Rd w' (FNew F w w') β r v
theorem Gives.mk {s:Sem Value} {v:Value} {r:AV} (hr:s.run P w=.ok v w) (hk:k r) (hv:Rd w F β r v):Gives P s w F β k :=
 ⟨v,w,r,hr,Below.refl _ _,hk,hv.here⟩
def GivesS (P:Program) (s:Sem Value) (w:World) (F:Nat→Prop) (β:Nat→Value) (k:AV→Prop):Prop :=
 ∃v r,s.run P w=.ok v w∧k r∧Rd w F β r v
theorem GivesS.mk {s:Sem Value} {v:Value} {r:AV} (hr:s.run P w=.ok v w) (hk:k r) (hv:Rd w F β r v):GivesS P s w F β k:=⟨v,r,hr,hk,hv⟩
theorem GivesS.gives {s:Sem Value} (h:GivesS P s w F β k):Gives P s w F β k:=by
 obtain ⟨v,r,hr,hk,hv⟩:=h
 exact Gives.mk hr hk hv
theorem Gives.out {s:Sem Value} (h:Gives P s w F β k):QOut P (do pure (.value (←s))) w fun v w'=>∃r,k r∧Rd w' (FNew F w w') β r v:=by
 obtain ⟨v,w',r,hr,hb,hk,hv⟩:=h
 exact .inl ⟨v,w',by simp [hr],hb,r,hk,hv⟩
theorem sPick_sound {c a b:AV} {vc va vb:Value} (hc:Rd w F β c vc) (ha:Rd w F β a va) (hb:Rd w F β b vb) (h:sPick c a b k) :
  QOut P (do pure (.value (if ←asBool vc then va else vb))) w fun v w'=>∃r,k r∧Rd w' (FNew F w w') β r v:=by
 unfold sPick at h
 split at h
 ·cases hc.v_inv
  exact .inl ⟨va,w,by simp [asBool],Below.refl _ _,_,h,ha.here⟩
 ·cases hc.v_inv
  exact .inl ⟨vb,w,by simp [asBool],Below.refl _ _,_,h,hb.here⟩
 ·exact h.elim
theorem sExtract_sound {t:AV} {i:Nat} {vt:Value} (ht:Rd w F β t vt) (h:sExtract t i k):Gives P (Instr.extract vt i) w F β k:=by
 unfold sExtract at h
 split at h
 ·rename_i vs
  obtain ⟨hlt,hk⟩:=cond_prop h
  have hlt:i < vs.length:=by simpa [Nat.blt_eq] using hlt
  obtain ⟨us,rfl,hs,hu⟩:=ht.t_inv
  refine Gives.mk (v:=us.getD i undef) ?_ hk (hu i hlt)
  have hi:i < us.size:=by omega
  simp [Instr.extract,hi]
 ·exact h.elim
theorem sUn_sound {op:UnOp} {x:AV} {vx:Value} (hx:Rd w F β x vx) (h:sUn op x k):Gives P (Op.unary op vx) w F β k:=by
 unfold sUn at h
 split at h
 ·cases hx.v_inv
  exact Gives.mk (by simp [Op.unary]) h (.i (.v (.inl rfl)))
 ·cases hx.v_inv
  obtain ⟨r,rfl,hk⟩:=h
  exact Gives.mk (by simp [Op.unary,Op.intArith]) hk (.i (.v (.inl rfl)))
 ·exact h.elim
theorem strI_run {op:BinOp} {a b:ByteArray} {k:Value→Prop} (h:strI op a b k) (t:TypeId) :
  ∃v,(binOp op t (.string a) (.string b)).run P w=.ok v w∧v.oneCell'=true∧k v:=by
 cases op <;> simp only [strI] at h
 case add =>
  obtain ⟨h1,r,rfl,hk⟩:=h
  have:¬((a.size+b.size:Nat):Int) > IntKind.i64.max:=by
   have:IntKind.i64.max=9223372036854775807:=rfl
   omega
  exact ⟨_,by simp only [binOp,Op.stringOp]; rw [if_neg this]; rfl,rfl,hk⟩
 all_goals first | exact h.elim | (obtain ⟨r,rfl,h⟩:=h; exact ⟨_,by simp [binOp,Op.stringOp],rfl,h⟩)
theorem run_eqGuard_plain {op:BinOp} {t:TypeId} {x y:Operand} {u v:Value} (hu:u.oneCell'=true) (hn:u≠.nilIface):(eqGuard op t x y u v).run P w=.ok () w:=by
 have hc:eqGuard op t x y u v=if !(op matches .eql | .neq) then (pure ():Sem Unit) else pure ():=by
  unfold eqGuard
  cases u <;> first | (simp [Value.oneCell'] at hu; done) | exact absurd rfl hn | rfl
 rw [hc]; split <;> rfl
theorem run_equalIn_bool (d:Nat) {t:TypeId} (hd:P.underlying t=some .bool) (a b:Bool):(Op.equalIn (d+1) t (.bool a) (.bool b)).run P w=.ok (a == b) w:=by
 simp [Op.equalIn,run_underlying hd]
theorem run_equalIn_slice_nil (d:Nat) {t e:TypeId} (hd:P.underlying t=some (.slice e)) (a:Option Addr) (n c:Nat):(Op.equalIn (d+1) t (.slice a n c) (.slice none 0 0)).run P w=.ok a.isNone w:=by
 cases a <;> simp [Op.equalIn,run_underlying hd]
theorem sBin_sound {op:BinOp} {t:Nat} {x y:AV} {vx vy:Value} (hT:TOk P T) (hx:Rd w F β x vx) (hy:Rd w F β y vy) (ox oy:Operand) (h:sBin P T op t x y k) :
  Gives P (do eqGuard op t ox oy vx vy; binOp op t vx vy) w F β k:=by
 unfold sBin at h
 split at h
 ·cases hx.v_inv; cases hy.v_inv
  obtain ⟨v,hr,h1,hk⟩:=binI_run (P:=P) h t w
  exact Gives.mk (v:=v) (by simp [run_eqGuard_plain (u:=.int _ _) rfl (by simp),hr]) hk (.i (.v (.inl h1)))
 ·cases hx.v_inv; cases hy.v_inv
  obtain ⟨v,hr,h1,hk⟩:=strI_run (P:=P) (w:=w) h t
  exact Gives.mk (v:=v) (by simp [run_eqGuard_plain (u:=.string _) rfl (by simp),hr]) hk (.i (.v (.inl h1)))
 ·cases hx.v_inv; cases hy.v_inv
  rename_i a b
  split at h
  ·rename_i i hi
   obtain ⟨d,hd,hkd⟩:=(hT _ _ hi).und
   split at h
   ·rename_i hbool
    rw [hbool] at hkd
    have hd':P.underlying t=some .bool:=by cases d <;> simp [TKof] at hkd; exact hd
    have he:(Op.equal t (.bool a) (.bool b)).run P w=.ok (a == b) w:=by
     exact run_equalIn_bool 9999 hd' a b
    split at h
    ·exact Gives.mk (by simp [run_eqGuard_plain (u:=.bool _) rfl (by simp),binOp,he]) h (.i (.v (.inl rfl)))
    ·exact Gives.mk (by simp [run_eqGuard_plain (u:=.bool _) rfl (by simp),binOp,he]) h (.i (.v (.inl rfl)))
    ·exact h.elim
   ·exact h.elim
  ·exact h.elim
 ·rename_i rows
  cases hy.v_inv
  split at h
  ·rename_i i hi
   split at h
   ·rename_i e he
    have hu:=(hT _ _ hi).slice he
    obtain ⟨a,n,c,rfl,ha⟩:∃a n c,vx=.slice a n c∧(a=none→rows=[]):=by
     have hs:=hx.s_inv
     cases hs with
     | s0=>exact ⟨_,_,_,rfl,fun _=>rfl⟩
     | s=>exact ⟨_,_,_,rfl,fun h=>by cases h⟩
    have he':(Op.equal t (.slice a n c) (.slice none 0 0)).run P w=.ok a.isNone w:=run_equalIn_slice_nil 9999 hu a n c
    have hg:=run_eqGuard_plain (P:=P) (w:=w) (op:=op) (t:=t) (x:=ox) (y:=oy) (u:=.slice a n c) (v:=.slice none 0 0) rfl (by simp)
    split at h
    ·exact Gives.mk (by simp [run_eqGuard_plain (u:=.slice a n c) rfl (by simp),binOp,he']) (h a.isNone fun hn=>ha (by cases a <;> first | rfl | cases hn)) (.i (.v (.inl rfl)))
    ·exact Gives.mk (by simp [run_eqGuard_plain (u:=.slice a n c) rfl (by simp),binOp,he']) (h (!a.isNone) fun hn=>ha (by cases a <;> first | rfl | cases hn)) (.i (.v (.inl rfl)))
    ·exact h.elim
   ·exact h.elim
  ·exact h.elim
 ·rename_i xs ys
  obtain ⟨ks,hty,h⟩:=h
  obtain ⟨hfit,h⟩:=cond_prop h
  obtain ⟨us,rfl,hs,_,hu⟩:=hx.a_inv
  obtain ⟨vs,rfl,hs',_,hv⟩:=hy.a_inv
  simp only [eqTy,Bool.and_eq_true,Bool.not_eq_true'] at hty
  obtain ⟨hst,hsto,hgu,hfs⟩:=hty
  have hund:P.underlying t=some (.struct (P.fieldsOf t)):=by
   unfold Program.fieldsOf
   cases hd:P.underlying t with
   | none=>rw [hd] at hst; cases hst
   | some d =>
    rw [hd] at hst
    cases d <;> first | rfl | cases hst
  have cell:∀{zs:List AV} {ws:Array Value},ws.size=zs.length→(∀i,i < zs.length→Rd w F β (zs.getD i .junk) (ws.getD i undef))→∀i z,zs[i]?=some (.v z)→ws[0+i]?=some z:=by
   intro zs ws hsz hrd i z hz
   obtain ⟨hi,hz'⟩:=List.getElem?_eq_some_iff.1 hz
   have:=hrd i hi
   rw [List.getD_eq_getElem?_getD,hz,Option.getD_some] at this
   have e:=this.v_inv
   rw [Nat.zero_add,Array.getElem?_eq_getElem (by omega)]
   rw [Array.getD_eq_getD_getElem?,Array.getElem?_eq_getElem (by omega),Option.getD_some] at e
   rw [e]
  have heq:(Op.equalIn 10000 t (.agg us) (.agg vs)).run P w=.ok (eqCells xs ys) w:=by
   rw [run_equalIn_struct w 9999 t us vs hund hsto]
   exact run_eqFields (P:=P) (w:=w) (us:=us) (vs:=vs) (d:=9997) _ ks xs ys 0 hfs hfit (cell hs hu) (cell hs' hv)
  split at h
  ·exact Gives.mk (by simp [run_eqGuard_agg w _ t _ _ us vs hgu,run_eql_struct,heq]) h (.i (.v (.inl rfl)))
  ·exact Gives.mk (by simp [run_eqGuard_agg w _ t _ _ us vs hgu,run_neq_struct,heq]) h (.i (.v (.inl rfl)))
  ·exact h.elim
 ·exact h.elim
theorem addOff_sound {x:AV} {off:Nat} {vx:Value} (hx:Rd w F β x vx) (h:addOff x off k) :
  ∃b o r,vx=.pointer (some ⟨b,o,none⟩)∧k r∧Rd w F β r (.pointer (some ⟨b,o+off,none⟩)):=by
 unfold addOff at h
 split at h
 ·obtain ⟨blk,hb,rfl⟩:=hx.b_inv
  exact ⟨_,_,_,rfl,h,.b hb⟩
 ·rename_i cells
  have hp:=hx.p_inv
  cases hp with
  | p hb hcell hone hrd =>
   rename_i b o u
   refine ⟨_,_,_,rfl,h,.i ?_⟩
   refine .p (u:=fun j=>u (off+j)) hb (fun j hj=>?_) (fun j hj=>?_) (fun j hj=>?_)
   ·simp at hj
    rw [Nat.add_assoc]; exact hcell _ (by omega)
   ·simp at hj; exact hone _ (by omega)
   ·simp at hj
    have:=hrd (off+j) (by omega)
    simpa [List.getD,List.getElem?_drop] using this
 ·obtain ⟨g,n,c,hb,rfl⟩:=hx.e_inv
  refine ⟨_,_,_,rfl,h,?_⟩
  rw [Nat.add_assoc]
  exact .e hb
 ·exact h.elim
theorem sFieldA_sound {t f:Nat} {x:AV} {vx:Value} (hT:TOk P T) (hx:Rd w F β x vx) (h:sFieldA T t x f k):Gives P (Instr.fieldAt t vx f) w F β k:=by
 unfold sFieldA at h
 split at h
 ·rename_i i hi
  split at h
  ·rename_i fs hfs
   split at h
   ·rename_i off ty hf
    split at h
    ·rename_i j hj
     cases hz:Nat.beq j.cells 0 with
     | true=>rw [hz] at h; exact h.elim
     | false =>
      rw [hz] at h
      obtain ⟨b,o,r,rfl,hk,hr⟩:=addOff_sound hx h
      obtain ⟨fields,hu,hm⟩:=(hT _ _ hi).struct hfs
      have hff:∃fd,fields[f]?=some fd∧fd.offset=off∧fd.type=ty:=by
       rw [←hm] at hf
       simp only [List.getElem?_map,Option.map_eq_some_iff] at hf
       obtain ⟨fd,h1,h2⟩:=hf
       cases h2
       exact ⟨fd,by simpa using h1,rfl,rfl⟩
      obtain ⟨fd,h1,rfl,rfl⟩:=hff
      have hsz:=(hT _ _ hj).run_size w
      have hne:j.cells≠0:=by
       intro h0; rw [h0] at hz; cases hz
      refine Gives.mk (v:=.pointer (some ⟨b,o+fd.offset,none⟩)) ?_ hk hr
      simp [Instr.fieldAt,run_underlying hu,h1,Instr.sureAddr,fieldPlace,hsz,hne,Addr.add_lit]
    ·exact h.elim
   ·exact h.elim
  ·exact h.elim
 ·exact h.elim
theorem ldCells_sound {t:Nat} {i:TI} {cells:List AV} {off:Nat} (hi:TIOk P t i) (h:ldCells i cells off k) {b base:Nat} {u:Nat→Value}
  (hcell:∀j,j < cells.length→w.cell? ⟨b,base+j,none⟩=some (u j)) (hone:∀j,j < cells.length→(u j).oneCell'=true)
  (hrd:∀j,j < cells.length→Rd w F β (cells.getD j .junk) (u j)):GivesS P (Instr.loadAt t (.pointer (some ⟨b,base+off,none⟩))) w F β k:=by
 unfold ldCells at h
 obtain ⟨hle,h⟩:=cond_prop h
 have hle:off+i.cells≤cells.length:=by simpa using hle
 have hag:=hi.run_agg w
 have hsz:=hi.run_size w
 cases hg:aggK i.kind with
 | true =>
  rw [hg] at h hag
  have hl:=run_loadCells (P:=P) w ⟨b,base+off,none⟩ i.cells (fun j=>u (off+j)) (fun j hj=>by
   rw [Addr.add_lit,Nat.add_assoc]; exact hcell _ (by omega))
  obtain ⟨c,rfl,h⟩:=h
  refine GivesS.mk (v:=.agg ((List.range i.cells).map fun j=>u (off+j)).toArray) ?_ h ?_
  ·simp [Instr.loadAt,Instr.sureAddr,loadVar,hag,hsz,hl]
  ·have hlen:((cells.drop off).take i.cells).length=i.cells:=by simp; omega
   refine .a (by simp; omega) (fun j hj=>?_) fun j hj=>?_
   ·rw [hlen] at hj
    simpa [Array.getD,hj] using hone (off+j) (by omega)
   ·rw [hlen] at hj
    have:=hrd (off+j) (by omega)
    simpa [Array.getD,hj,List.getD,List.getElem?_take,List.getElem?_drop] using this
 | false =>
  rw [hg] at h hag
  obtain ⟨h1,h⟩:=cond_prop h
  have h1:i.cells=1:=Nat.eq_of_beq_eq_true h1
  obtain ⟨x,hx,h⟩:=h
  have hrd':=hrd off (by omega)
  rw [List.getD_eq_getElem?_getD,hx,Option.getD_some] at hrd'
  refine GivesS.mk (v:=u off) ?_ h hrd'
  simp [Instr.loadAt,Instr.sureAddr,loadVar,hag,hcell off (by omega)]
theorem getD_of_getElem? {α:Type} {l:List α} {i:Nat} {x d:α} (h:l[i]?=some x):l.getD i d=x:=by simp [List.getD,h]
theorem lt_of_getElem? {α:Type} {l:List α} {i:Nat} {x:α} (h:l[i]?=some x):i < l.length:=(List.getElem?_eq_some_iff.1 h).1
theorem own_cell {id E K:Nat} {rows:List (List AV)} (h:Chunk.holds w F β id (.own E K rows)) {g n c:Nat} (hβ:β id=.slice (some ⟨g,0,none⟩) n c) :
  rows.length=n∧n≤c∧c≤maxLen∧∃u:Nat→Nat→Value,∀m j,m < rows.length→j < K→w.cell? ⟨g,m * K+j,none⟩=some (u m j)∧(u m j).oneCell'=true∧RdI w F ((rows.getD m []).getD j .junk) (u m j):=by
 rcases h with ⟨rfl,a,hv⟩ | ⟨g',cap,cur,hv,_,hg,hn,hm,hs,hk,hr⟩
 ·rw [hv] at hβ
  cases hβ
  exact ⟨rfl,Nat.le_refl _,Nat.zero_le _,fun _ _=>undef,fun m j hm=>by simp at hm⟩
 ·rw [hv] at hβ
  cases hβ
  refine ⟨rfl,hn,hm,fun m j=>cur.getD (m * K+j) undef,fun m j hm' hj=>⟨?_,(hr m j hm' hj).1,(hr m j hm' hj).2⟩⟩
  have hlt:m * K+j < rows.length * K:=by
   calc m * K + j < m * K + K := by omega
    _ = (m + 1) * K := by rw [Nat.add_mul]; omega
    _ ≤ rows.length * K := Nat.mul_le_mul_right _ hm'
  rw [cell_of_row w g (m * K+j) cur E (0,0) hg]
  have hc:rows.length * K≤cur.size:=by rw [hs]; exact Nat.mul_le_mul_right _ hn
  have h2:m * K+j < cur.size:=by omega
  simp [h2]
theorem own_len {id E K:Nat} {rows:List (List AV)} (h:Chunk.holds w F β id (.own E K rows)):∀i,i < rows.length→(rows.getD i []).length=K:=by
 rcases h with ⟨rfl,_⟩ | ⟨_,_,_,_,_,_,_,_,_,hk,_⟩
 ·intro i hi; simp at hi
 ·exact hk
theorem own_form {id E K:Nat} {rows:List (List AV)} (h:Chunk.holds w F β id (.own E K rows)):(rows=[]∧∃a,β id=.slice a 0 0)∨∃g cap,β id=.slice (some ⟨g,0,none⟩) rows.length cap∧cap≤maxLen∧rows.length≤cap:=by
 rcases h with h | ⟨g,cap,cur,hv,_,hg,hn,hm,_⟩
 ·exact .inl h
 ·exact .inr ⟨g,cap,hv,hm,hn⟩
theorem sLoad_same {t:Nat} {x:AV} {vx:Value} (hT:TOk P T) (hI:Inv w F β H) (hx:Rd w F β x vx) (h:sLoad T t x H k):GivesS P (Instr.loadAt t vx) w F β k:=by
 unfold sLoad at h
 split at h
 ·rename_i i hi
  split at h
  ·rename_i id off
   split at h
   ·rename_i cells hc
    obtain ⟨b,c,e,hβ,hh,hs,h1,hr⟩:=hI.holds _ _ (findC_mem hc)
    obtain ⟨blk,hb,rfl⟩:=hx.b_inv
    rw [hβ] at hb
    cases hb
    have:=ldCells_sound (hT _ _ hi) h (b:=b) (base:=0) (u:=fun j=>c.getD j undef) (fun j hj=>by
     rw [cell_of_row w b (0+j) c e (0,0) hh,Nat.zero_add]
     have:j < c.size:=by omega
     simp [this]) h1 hr
    simpa using this
   ·exact h.elim
  ·rename_i cells
   have hp:=hx.p_inv
   cases hp with
   | p hb hcell hone hrd=>exact ldCells_sound (off:=0) (hT _ _ hi) h hcell hone fun j hj=>.i (hrd j hj)
  ·rename_i id K m j
   split at h
   ·rename_i E' K' rows hc
    obtain ⟨row,hrow,rfl,h⟩:=h
    obtain ⟨g,n,c,hβ,rfl⟩:=hx.e_inv
    have hh:=hI.holds _ _ (findC_mem hc)
    obtain ⟨_,_,_,u,hu⟩:=own_cell hh hβ
    have hm:=lt_of_getElem? hrow
    have hrl:row.length=K:=by
     have:=own_len hh m hm
     rwa [getD_of_getElem? hrow] at this
    rw [←getD_of_getElem? (d:=[]) hrow] at h hrl
    exact ldCells_sound (hT _ _ hi) h (b:=g) (base:=m * K) (u:=u m) (fun j hj=>(hu m j hm (by omega)).1) (fun j hj=>(hu m j hm (by omega)).2.1)
     fun j hj=>.i (hu m j hm (by omega)).2.2
   ·exact h.elim
  ·exact h.elim
 ·exact h.elim
theorem sLoad_sound {t:Nat} {x:AV} {vx:Value} (hT:TOk P T) (hI:Inv w F β H) (hx:Rd w F β x vx) (h:sLoad T t x H k):Gives P (Instr.loadAt t vx) w F β k :=
 (sLoad_same hT hI hx h).gives
theorem RdI.s_form {rows:List (List AV)} {u:Value} (h:RdI w F (.s rows) u):(rows=[]∧∃a,u=.slice a 0 0)∨∃(b off c K:Nat) (v:Nat→Nat→Value),F b∧rows.length≤c∧c≤maxLen∧u=.slice (some ⟨b,off,none⟩) rows.length c ∧
  (∀i,i < rows.length→(rows.getD i []).length=K)∧∀i j,i < rows.length→j < K→w.cell? ⟨b,off+(i * K+j),none⟩=some (v i j)∧(v i j).oneCell'=true∧RdI w F ((rows.getD i []).getD j .junk) (v i j):=by
 cases h with
 | s0=>exact .inl ⟨rfl,_,rfl⟩
 | s hb hc hm hk hcell hone hrd=>exact .inr ⟨_,_,_,_,_,hb,hc,hm,rfl,hk,fun i j hi hj=>⟨hcell i j hi hj,hone i j hi hj,hrd i j hi hj⟩⟩
theorem sIndexA_sound {t:Nat} {x i:AV} {vx vi:Value} (hT:TOk P T) (hI:Inv w F β H) (hx:Rd w F β x vx) (hi:Rd w F β i vi) (h:sIndexA T t x i H k):Gives P (Instr.indexAt t vx vi) w F β k:=by
 unfold sIndexA at h
 split at h
 ·rename_i ti hti
  split at h
  ·rename_i e he
   have hu:=(hT _ _ hti).slice he
   split at h
   ·rename_i j hj
    have hsz:=(hT _ _ hj).run_size w
    split at h
    ·rename_i rows kd n
     cases hi.v_inv
     obtain ⟨m,rfl,row,hrow,h⟩:=h
     obtain ⟨hrl,hk⟩:=cond_prop h
     have hrl:row.length=j.cells:=Nat.eq_of_beq_eq_true hrl
     have hm:=lt_of_getElem? hrow
     rcases hx.s_inv.s_form with ⟨rfl,_⟩ | ⟨b,off,c,K,v,hb,hc,hml,rfl,hK,hv⟩
     ·simp at hm
     ·have hKr:row.length=K:=by have:=hK m hm; rwa [getD_of_getElem? hrow] at this
      refine Gives.mk (v:=.pointer (some ⟨b,off+m * K,none⟩)) ?_ hk (.i ?_)
      ·have:(0:Int)≤(m:Int)∧(m:Int) < (rows.length:Int):=by omega
       simp [Instr.indexAt,asIntOf,run_underlying hu,hm,hsz,Addr.add_lit,←hrl,hKr]
      ·refine .p (u:=v m) hb (fun q hq=>?_) (fun q hq=>(hv m q hm (by omega)).2.1) fun q hq=>?_
       ·rw [Nat.add_assoc]; exact (hv m q hm (by omega)).1
       ·have:=(hv m q hm (by omega)).2.2
        rwa [getD_of_getElem? hrow] at this
    ·rename_i id kd n
     cases hi.v_inv
     split at h
     ·rename_i E' K rows hc
      obtain ⟨hK,h⟩:=cond_prop h
      have hK:K=j.cells:=Nat.eq_of_beq_eq_true hK
      obtain ⟨m,rfl,hm,hk⟩:=h
      obtain ⟨a,n,c,hβ,rfl⟩:=hx.o_inv
      have hh:=hI.holds _ _ (findC_mem hc)
      rcases own_form hh with ⟨rfl,_⟩ | ⟨g,cap,hv,_⟩
      ·simp at hm
      ·rw [hβ] at hv
       cases hv
       refine Gives.mk (v:=.pointer (some ⟨g,m * K+0,none⟩)) ?_ hk (.e hβ)
       simp [Instr.indexAt,asIntOf,run_underlying hu,hm,hsz,Addr.add_lit,←hK]
     ·exact h.elim
    ·rename_i id Kw d kd n
     cases hi.v_inv
     split at h
     ·rename_i E' K rows hc
      obtain ⟨hK,h⟩:=cond_prop h
      simp only [Bool.and_eq_true] at hK
      have hK1:K=j.cells:=Nat.eq_of_beq_eq_true hK.1
      have hK2:Kw=K:=Nat.eq_of_beq_eq_true hK.2
      subst hK2
      obtain ⟨m,rfl,hm,hk⟩:=h
      obtain ⟨a,a',n,c,hβ,hd,ha,rfl⟩:=hx.w_inv
      have hh:=hI.holds _ _ (findC_mem hc)
      rcases own_form hh with ⟨rfl,_⟩ | ⟨g,cap,hv,_,hcap⟩
      ·simp at hm
      ·rw [hβ] at hv
       cases hv
       have ha:=ha (by omega)
       subst ha
       refine Gives.mk (v:=.pointer (some ⟨g,(d+m) * Kw+0,none⟩)) ?_ hk (.e hβ)
       have hm':m < rows.length - d:=by omega
       have e:((⟨g,0,none⟩:Addr).add (d * Kw)).add (m * j.cells)=⟨g,(d+m) * Kw+0,none⟩:=by
        rw [←hK1,Addr.add_add,Addr.add_lit,←Nat.add_mul]; simp
       simp [Instr.indexAt,asIntOf,run_underlying hu,hm',hsz,e]
     ·exact h.elim
    ·exact h.elim
   ·exact h.elim
  ·rename_i len e he
   have hu:=(hT _ _ hti).arr he
   split at h
   ·rename_i j hj
    have hsz:=(hT _ _ hj).run_size w
    split at h
    ·cases hi.v_inv
     obtain ⟨m,rfl,hm,hk⟩:=h
     obtain ⟨blk,hb,rfl⟩:=hx.b_inv
     refine Gives.mk (v:=.pointer (some ⟨blk,_+m * j.cells,none⟩)) ?_ hk (.b hb)
     simp [Instr.indexAt,Instr.sureAddr,asIntOf,run_underlying hu,hm,hsz,Addr.add_lit]
    ·rename_i cells kd n
     cases hi.v_inv
     obtain ⟨m,rfl,hm,hk⟩:=h
     have hp:=addOff_sound (k:=fun r=>r=.p (cells.drop (m * j.cells))) hx rfl
     obtain ⟨b,o,r,rfl,rfl,hr⟩:=hp
     refine Gives.mk (v:=.pointer (some ⟨b,o+m * j.cells,none⟩)) ?_ hk hr
     simp [Instr.indexAt,Instr.sureAddr,asIntOf,run_underlying hu,hm,hsz,Addr.add_lit]
    ·exact h.elim
   ·exact h.elim
  ·exact h.elim
 ·exact h.elim
end
end Go.Cat
set_option linter.all false
namespace Go.Cat
open Go.RowKit
variable [M:Mono]
section
variable {P:Program} {T:TT} {w:World} {F:Nat→Prop} {β:Nat→Value} {H:Hp} {k:AV→Prop}
theorem run_intToInt_convert {src dst:Nat} {i j:TI} (hs:TIOk P src i) (hd:TIOk P dst j) {kd kn:IntKind} (hk:j.kind=.int kd) (n:Int) :
  (convert src dst (.int kn n)).run P w=.ok (.int kd (kd.wrap n)) w:=by
 obtain ⟨d,hd',_⟩:=hs.und
 simp [convert,run_underlying hd',run_underlying (hd.int hk),Conv.intToInt]
theorem bytes_rd {l:List UInt8} {b off c:Nat} (hb:F b) (hc:l.length≤c) (hm:c≤maxLen) (h:∀m,m < l.length→w.cell? ⟨b,off+m,none⟩=some (.int .u8 ((l.getD m 0).toNat:Int))) :
  RdI w F (.s (l.map encB)) (.slice (some ⟨b,off,none⟩) l.length c):=by
 have hl:(l.map encB).length=l.length:=by simp
 rw [←hl]
 refine .s (k:=1) (u:=fun m _=>.int .u8 ((l.getD m 0).toNat:Int)) hb (by simpa using hc) hm (fun m hm=>?_) (fun m j hm hj=>?_) (fun _ _ _ _=>rfl) fun m j hm hj=>?_
 ·simp at hm; simp [List.getD,hm,encB]
 ·simp at hm
  have:m * 1+j=m:=by omega
  rw [this]; exact h m hm
 ·simp at hm
  have:j=0:=by omega
  subst this
  simp [List.getD,hm,encB]
  exact .v (.inl rfl)
theorem zip_map_getD {l:List UInt8} {m:Nat} (h:m < l.length):(l.map encB).getD m []=encB (l.getD m 0):=by simp [List.getD,h]
theorem bytes_back {l:List UInt8} {u:Value} (h:RdI w F (.s (l.map encB)) u):(l=[]∧∃a,u=.slice a 0 0)∨∃(b off c:Nat),F b∧l.length≤c∧c≤maxLen∧u=.slice (some ⟨b,off,none⟩) l.length c ∧
  ∀m,m < l.length→w.cell? ⟨b,off+m,none⟩=some (.int .u8 ((l.getD m 0).toNat:Int)):=by
 rcases h.s_form with ⟨h1,h2⟩ | ⟨b,off,c,K,v,hb,hc,hm,rfl,hK,hv⟩
 ·exact .inl ⟨by simpa using h1,h2⟩
 ·right
  simp at hc
  refine ⟨b,off,c,hb,hc,hm,by simp,fun m hm=>?_⟩
  have hm':m < (l.map encB).length:=by simpa using hm
  have h1:=hK m hm'
  rw [zip_map_getD hm] at h1
  have hK1:K=1:=by simpa [encB] using h1.symm
  subst hK1
  have:=hv m 0 hm' (by omega)
  rw [zip_map_getD hm] at this
  have h2:=this.2.2
  have h3:v m 0=.int .u8 ((l.getD m 0).toNat:Int):=by
   have:Rd w F (fun _=>undef) (.v (.int .u8 ((l.getD m 0).toNat:Int))) (v m 0):=.i h2
   exact this.v_inv
  rw [←h3]
  simpa using this.1
theorem heap_freeze_same {w:World} {b n:Nat} {c:Array Value} {e:TypeId} (h:w.heap[b]?=some (.cells c e (0,0))):(w.freeze ⟨b,n,none⟩ 1).heap[b]?=some (.cells c e (n,n+1)):=by
 simp [World.freeze,Array.getElem?_modify,h]
theorem heap_freeze_other {w:World} {b b' n:Nat} (h:b≠b'):(w.freeze ⟨b,n,none⟩ 1).heap[b']?=w.heap[b']?:=by
 simp [World.freeze,Array.getElem?_modify,h]
theorem run_stringToBytes_out {e:Nat} (s:ByteArray) (hs:s.size≤maxLen) :
  Gives P (Conv.stringToBytes e s) w F β (fun r=>r=.s (s.data.toList.map encB)):=by
 let cap:=(Question.appendCap s.size 0 e).cut (w.tape w.drawn (.appendCap s.size 0 e))
 let cells:Array Value:=s.data.map (fun b=>Value.int .u8 b.toNat)++Array.replicate (cap - s.size) (.int .u8 0)
 have hcap:s.size≤cap:=Nat.le_add_right _ _
 have hcapm:cap≤maxLen:=grownCap_le_maxLen w s.size 0 e hs
 have hsz:cells.size=cap:=by simp only [cells,Array.size_append,Array.size_map,Array.size_replicate]; have:s.data.size=s.size:=rfl; omega
 let w1:World:={ w with drawn:=w.drawn+1 }
 let w2:=w1.alloc (.cells cells e)
 have hmk:(markStringish ⟨w.heap.size,0,none⟩).run P w2=.ok () (w2.freeze ⟨w.heap.size,cells.size,none⟩ 1):=by
  have:w2.shape? w.heap.size=some (e,cells.size):=by simp [World.shape?,w2,w1,World.alloc]
  simp [markStringish,this]
 have hrun:(Conv.stringToBytes e s).run P w=.ok (.slice (some ⟨w.heap.size,0,none⟩) s.size cap) (w2.freeze ⟨w.heap.size,cells.size,none⟩ 1):=by
  have hch:(choose (.appendCap s.size 0 e)).run P w=.ok cap w1:=by simp [Question.forced,cap,w1]
  have hnew:(newRow e cells).run P w1=.ok ⟨w.heap.size,0,none⟩ w2:=by simp [newRow,w2,w1]
  unfold Conv.stringToBytes
  rw [Sem.run_bind,hch,Result.andThen_ok]
  have:(Sem.bind (newRow e cells) fun a=>Sem.bind (markStringish a) fun _=>Sem.pure (Value.slice (some a) s.size cap)).run P w1=.ok (.slice (some ⟨w.heap.size,0,none⟩) s.size cap) (w2.freeze ⟨w.heap.size,cells.size,none⟩ 1):=by
   rw [Sem.run_bind',hnew,Result.andThen_ok,Sem.run_bind',hmk,Result.andThen_ok]; rfl
  exact this
 have hheap:(w2.freeze ⟨w.heap.size,cells.size,none⟩ 1).heap[w.heap.size]?=some (.cells cells e (cells.size,cells.size+1)) :=
  heap_freeze_same (by simp [w2,w1,World.alloc])
 have hsz2:(w2.freeze ⟨w.heap.size,cells.size,none⟩ 1).heap.size=w.heap.size+1:=by simp [World.freeze,w2,w1,World.alloc]
 have hbel:Below w.heap.size w (w2.freeze ⟨w.heap.size,cells.size,none⟩ 1):=by
  refine ⟨by simp [World.freeze,w2,w1,World.alloc],⟨by simp [World.freeze,w2,w1,World.alloc],by simp [World.freeze,w2,w1,World.alloc]⟩,by simp [World.freeze,w2,w1,World.alloc],by omega,fun b hb=>?_⟩
  have h1:w.heap.size≠b:=by omega
  have h2:b≠w.heap.size:=by omega
  rw [heap_freeze_other h1]
  exact _root_.Go.heap_alloc_old w1 _ hb
 refine ⟨_,_,_,hrun,hbel,rfl,.i ?_⟩
 have hlen:s.data.toList.length=s.size:=rfl
 rw [←hlen]
 refine bytes_rd (off:=0) (.inr ⟨Nat.le_refl _,by omega⟩) (by rw [hlen]; exact hcap) hcapm fun m hm=>?_
 have hm':m < s.data.size:=by simpa using hm
 rw [cell_of_row _ _ _ _ _ _ hheap,Nat.zero_add]
 have hm2:m < s.size:=hm'
 simp [cells,Array.getElem?_append,hm2,List.getD]
theorem sConv_sound {src dst:Nat} {x:AV} {vx:Value} (hT:TOk P T) (hx:Rd w F β x vx) (h:sConv T src dst x k):Gives P (convert src dst vx) w F β k:=by
 unfold sConv at h
 split at h
 ·rename_i i j hi hj
  have hsi:=hT _ _ hi
  have hdj:=hT _ _ hj
  split at h
  ·rename_i kd kn n hk
   cases hx.v_inv
   obtain ⟨r,rfl,hk'⟩:=h
   exact Gives.mk (run_intToInt_convert hsi hdj hk n) hk' (.i (.v (.inl rfl)))
  ·rename_i s hk
   cases hx.v_inv
   obtain ⟨d,hd',_⟩:=hsi.und
   refine Gives.mk ?_ h (.i (.v (.inl rfl)))
   simp [convert,run_underlying hd',run_underlying (hdj.str hk)]
  ·rename_i e s hk
   cases hx.v_inv
   split at h
   ·rename_i je hje
    split at h
    ·rename_i hk8
     obtain ⟨d,hd',_⟩:=hsi.und
     have hc:(convert src dst (.string s)).run P w=(Conv.stringToBytes e s).run P w:=by
      simp [convert,run_underlying hd',run_underlying (hdj.slice hk),run_underlying ((hT _ _ hje).int hk8)]
     obtain ⟨v,w',r,hr,hb,rfl,hv⟩:=run_stringToBytes_out (P:=P) (w:=w) (F:=F) (β:=β) (e:=e) s h.1
     exact ⟨v,w',_,by rw [hc]; exact hr,hb,h.2,hv⟩
    ·exact h.elim
   ·exact h.elim
  ·rename_i rows hk
   split at h
   ·rename_i e he
    split at h
    ·rename_i je hje
     split at h
     ·rename_i hk8
      obtain ⟨l,rfl,hk'⟩:=h
      have hs:=hsi.slice he
      have h8:=(hT _ _ hje).int hk8
      have hd:=hdj.str hk
      rcases bytes_back hx.s_inv with ⟨rfl,a,rfl⟩ | ⟨b,off,c,hb,hc,hm,rfl,hcell⟩
      ·cases a with
       | none=>exact Gives.mk (run_convert_bytes_nil w src e hs h8 0 0 dst hd) hk' (.i (.v (.inl rfl)))
       | some ad=>exact Gives.mk (run_convert_bytes_back w src dst e ad 0 [] hs h8 hd fun j hj=>absurd hj (by simp)) hk' (.i (.v (.inl rfl)))
      ·refine Gives.mk (run_convert_bytes_back w src dst e ⟨b,off,none⟩ c l hs h8 hd fun j hj=>?_) hk' (.i (.v (.inl rfl)))
       rw [Addr.add_lit,hcell j hj]
       simp [List.getD,hj]
     ·exact h.elim
    ·exact h.elim
   ·exact h.elim
  ·exact h.elim
 ·exact h.elim
theorem part_one {ty:TypeId} {i:TI} (hi:TIOk P ty i) (hg:aggK i.kind=false) (cs:Array Value) (off:Nat) {v:Value} (hv:cs[off]?=some v):(part ty cs off).run P w=.ok v w:=by
 have:=hi.run_agg w
 rw [hg] at this
 simp [part,this,hv]
theorem sIndex_sound {t:Nat} {x i:AV} {vx vi:Value} (hT:TOk P T) (hx:Rd w F β x vx) (hi:Rd w F β i vi) (h:sIndex T t x i k):Gives P (Instr.index t vx vi) w F β k:=by
 unfold sIndex at h
 split at h
 ·rename_i ti hti
  split at h
  ·rename_i s kd n hk
   cases hx.v_inv; cases hi.v_inv
   obtain ⟨m,rfl,b,hb,hk'⟩:=h
   refine Gives.mk (v:=.int .u8 b.toNat) ?_ hk' (.i (.v (.inl rfl)))
   have hu:=(hT _ _ hti).str hk
   have hb':s[m]?=some b:=by
    have hlt:m < s.data.size:=by have:=lt_of_getElem? hb; simpa using this
    have h2:s.data[m]?=some b:=by simpa using hb
    have h3:s.data[m]=b:=by rw [Array.getElem?_eq_getElem hlt] at h2; simpa using h2
    have hlt':m < s.size:=hlt
    rw [getElem?_pos s m hlt']
    exact congrArg some h3
   simp [Instr.index,asIntOf,run_underlying hu,hb']
  ·rename_i len e cells kd n hk
   cases hi.v_inv
   have hu:=(hT _ _ hti).arr hk
   split at h
   ·rename_i j hj
    cases hg:aggK j.kind with
    | true=>rw [hg] at h; exact h.elim
    | false =>
     rw [hg] at h
     obtain ⟨h1,h⟩:=cond_prop h
     have h1:j.cells=1:=Nat.eq_of_beq_eq_true h1
     obtain ⟨m,rfl,hm,c,hc,hk'⟩:=h
     obtain ⟨us,rfl,hs,hone,hu'⟩:=hx.a_inv
     have hlt:=lt_of_getElem? hc
     have hr:=hu' m hlt
     rw [getD_of_getElem? hc] at hr
     refine Gives.mk (v:=us.getD m undef) ?_ hk' hr
     have hsz:=(hT _ _ hj).run_size w
     have hus:us[m]?=some (us.getD m undef):=by
      have:m < us.size:=by omega
      simp [this]
     have hp:=part_one (w:=w) (hT _ _ hj) hg us m hus
     simp [Instr.index,asIntOf,run_underlying hu,hm,hsz,h1,hp]
   ·exact h.elim
  ·exact h.elim
 ·exact h.elim
def BoundV (x:Option AV) (vx:Option Value) (w:World) (F:Nat→Prop) (β:Nat→Value):Prop :=
 match x,vx with
 | none,none=>True
 | some a,some v=>Rd w F β a v
 | _,_=>False
theorem boundI_spec {x:Option AV} {vx:Option Value} {d:Nat} {k:Nat→Prop} (hx:BoundV x vx w F β) (h:boundI x d k):∃m,k m∧((vx=none∧m=d)∨∃kd,vx=some (.int kd (m:Int))):=by
 unfold boundI at h
 split at h
 ·cases vx with
  | none=>exact ⟨d,h,.inl ⟨rfl,rfl⟩⟩
  | some v=>exact hx.elim
 ·cases vx with
  | none=>exact hx.elim
  | some v =>
   have:Rd w F β _ v:=hx
   cases this.v_inv
   obtain ⟨m,rfl,hk⟩:=h
   exact ⟨m,hk,.inr ⟨_,rfl⟩⟩
 ·exact h.elim
theorem run_bounds {lo hi:Option Value} {len cap l h:Nat} {is:Bool} (hl:(lo=none∧l=0)∨∃kd,lo=some (.int kd (l:Int))) (hh:(hi=none∧h=len)∨∃kd,hi=some (.int kd (h:Int)))
  (h1:l≤h) (h2:h≤len) (h3:len≤cap):(Instr.sliceBounds is len cap lo hi none).run P w=.ok (l,h,cap) w:=by
 rcases hl with ⟨rfl,rfl⟩ | ⟨kl,rfl⟩ <;> rcases hh with ⟨rfl,rfl⟩ | ⟨kh,rfl⟩
 ·simp [Instr.sliceBounds]
 ·have:(h:Int)≤(cap:Int):=by omega
  simp [Instr.sliceBounds,run_sliceBound w kh h cap _ (by omega) (by omega)]
 ·simp [Instr.sliceBounds,run_sliceBound w kl l h _ (by omega) (by omega)]
 ·simp [Instr.sliceBounds,run_sliceBound w kl l h _ (by omega) (by omega),run_sliceBound w kh h cap _ (by omega) (by omega)]
theorem sSlice_sound {t:Nat} {x:AV} {vx:Value} {lo hi:Option AV} {vlo vhi:Option Value} (hT:TOk P T) (hx:Rd w F β x vx) (hlo:BoundV lo vlo w F β) (hhi:BoundV hi vhi w F β)
  (hI:Inv w F β H) (h:sSlice T t x lo hi none H k):Gives P (Instr.sliceAt t vx vlo vhi none) w F β k:=by
 unfold sSlice at h
 split at h
 ·rename_i ti mx hti _
  split at h
  ·rename_i e rows hk
   have hu:=(hT _ _ hti).slice hk
   split at h
   ·rename_i j hj
    have hsz:=(hT _ _ hj).run_size w
    obtain ⟨l,h,hl⟩:=boundI_spec hlo h
    obtain ⟨m,⟨hlm,hm,hlen,r,rfl,hk'⟩,hh⟩:=boundI_spec hhi h
    have hat:∀v,(Instr.sliceAt t v vlo vhi none).run P w=(Instr.slice t v vlo vhi none).run P w:=by
     intro v; simp [Instr.sliceAt,run_underlying hu]
    rcases hx.s_inv.s_form with ⟨rfl,a,rfl⟩ | ⟨b,off,c,K,v,hb,hc,hml,rfl,hK,hv⟩
    ·simp at hm
     have hl0:l=0:=by omega
     subst hm; subst hl0
     refine Gives.mk (v:=.slice a 0 0) ?_ hk' (.i (by simpa using RdI.s0))
     rw [hat]
     have hh':(vhi=none∧(0:Nat)=0)∨∃kd,vhi=some (Value.int kd ((0:Nat):Int)):=hh
     simp [Instr.slice,run_underlying hu,run_bounds (P:=P) (w:=w) (is:=true) hl hh' (Nat.le_refl _) (Nat.le_refl _) (Nat.le_refl 0),hsz]
    ·have hlen':((rows.take m).drop l).length=m - l:=by simp; omega
     refine Gives.mk (v:=.slice (some (if c=l then ⟨b,off,none⟩ else ⟨b,off+l * j.cells,none⟩)) (m - l) (c - l)) ?_ hk' (.i ?_)
     ·rw [hat]
      have hbd:=run_bounds (P:=P) (w:=w) (is:=true) hl hh hlm hm hc
      have hrn:(Instr.slice t (.slice (some ⟨b,off,none⟩) rows.length c) vlo vhi none).run P w=.ok (.slice (if c=l then some ⟨b,off,none⟩ else some ⟨b,off+l * j.cells,none⟩) (m - l) (c - l)) w:=by
       simp [Instr.slice,run_underlying hu,hbd,hsz,Addr.add_lit]
      rw [hrn]
      split <;> rfl
     ·by_cases hcl:c=l
      ·rw [if_pos hcl]
       have:m - l=0:=by omega
       have hnil:(rows.take m).drop l=[]:=by
        apply List.eq_nil_of_length_eq_zero; omega
       rw [hnil]
       have h0:RdI w F (.s []) (.slice (some ⟨b,off,none⟩) ([]:List (List AV)).length (c - l)) :=
        .s (k:=0) (u:=fun _ _=>undef) hb (by simp) (by omega) (fun _ h=>by simp at h) (fun _ _ h=>by simp at h) (fun _ _ h=>by simp at h) (fun _ _ h=>by simp at h)
       rw [this]; exact h0
      ·rw [if_neg hcl,←hlen']
       refine .s (k:=j.cells) (u:=fun q z=>v (l+q) z) hb (by omega) (by omega) (fun q hq=>?_) (fun q z hq hz=>?_) (fun q z hq hz=>?_) fun q z hq hz=>?_
       ·rw [hlen'] at hq
        have:=hlen (l+q) (by omega)
        simpa [List.getD,List.getElem?_drop,List.getElem?_take,show l+q < m by omega] using this
       all_goals
        rw [hlen'] at hq
        have hKj:K=j.cells:=by rw [←hK (l+q) (by omega)]; exact hlen (l+q) (by omega)
        have hvq:=hv (l+q) z (by omega) (by omega)
       ·rw [←hvq.1,hKj,Nat.add_mul]; congr 2; omega
       ·exact hvq.2.1
       ·have h3:=hvq.2.2
        simpa [List.getD,List.getElem?_drop,List.getElem?_take,show l+q < m by omega] using h3
   ·exact h.elim
  ·rename_i e id hk
   have hu:=(hT _ _ hti).slice hk
   split at h
   ·rename_i j hj
    have hsz:=(hT _ _ hj).run_size w
    split at h
    ·rename_i E K rows hc
     obtain ⟨hK,h⟩:=cond_prop h
     have hK1:K=j.cells:=Nat.eq_of_beq_eq_true hK
     obtain ⟨l,⟨hl1,hk'⟩,hl⟩:=boundI_spec hlo h
     obtain ⟨a,n,c,hβ,rfl⟩:=hx.o_inv
     have hnc:n=rows.length∧n≤c:=by
      rcases own_form (hI.holds _ _ (findC_mem hc)) with ⟨rfl,a2,hv⟩ | ⟨g,cap,hv,_,hcap⟩
      ·rw [hβ] at hv; cases hv; exact ⟨rfl,Nat.le_refl _⟩
      ·rw [hβ] at hv; cases hv; exact ⟨rfl,hcap⟩
     have hvhi:vhi=none:=by
      cases vhi with
      | none=>rfl
      | some v=>exact hhi.elim
     subst hvhi
     have hb:=run_bounds (P:=P) (w:=w) (is:=true) (hi:=none) (len:=n) (cap:=c) (l:=l) (h:=n) hl (.inl ⟨rfl,rfl⟩) (by omega) (Nat.le_refl _) (by omega)
     refine Gives.mk (v:=.slice (if c=l then a else a.map (·.add (l * j.cells))) (n - l) (c - l)) ?_ hk' ?_
     ·simp [Instr.sliceAt,Instr.slice,run_underlying hu,hb,hsz]
     ·refine .w hβ (by omega) fun hlt=>?_
      rw [if_neg (by omega),←hK1]
    ·exact h.elim
   ·exact h.elim
  ·rename_i e id Kw d hk
   have hu:=(hT _ _ hti).slice hk
   split at h
   ·rename_i j hj
    have hsz:=(hT _ _ hj).run_size w
    split at h
    ·rename_i E K rows hc
     obtain ⟨hK,h⟩:=cond_prop h
     simp only [Bool.and_eq_true] at hK
     have hK1:K=j.cells:=Nat.eq_of_beq_eq_true hK.1
     have hK2:Kw=K:=Nat.eq_of_beq_eq_true hK.2
     subst hK2
     obtain ⟨l,⟨hl1,hk'⟩,hl⟩:=boundI_spec hlo h
     obtain ⟨a,a',n,c,hβ,hd,ha,rfl⟩:=hx.w_inv
     have hnc:n=rows.length∧n≤c:=by
      rcases own_form (hI.holds _ _ (findC_mem hc)) with ⟨rfl,a2,hv⟩ | ⟨g,cap,hv,_,hcap⟩
      ·rw [hβ] at hv; cases hv; exact ⟨rfl,Nat.le_refl _⟩
      ·rw [hβ] at hv; cases hv; exact ⟨rfl,hcap⟩
     have hvhi:vhi=none:=by
      cases vhi with
      | none=>rfl
      | some v=>exact hhi.elim
     subst hvhi
     have hb:=run_bounds (P:=P) (w:=w) (is:=true) (hi:=none) (len:=n - d) (cap:=c - d) (l:=l) (h:=n - d) hl (.inl ⟨rfl,rfl⟩) (by omega) (Nat.le_refl _) (by omega)
     refine Gives.mk (v:=.slice (if c - d=l then a' else a'.map (·.add (l * j.cells))) (n - d - l) (c - d - l)) ?_ hk' ?_
     ·simp [Instr.sliceAt,Instr.slice,run_underlying hu,hb,hsz]
     ·have e1:n - d - l=n - (d+l):=by omega
      have e2:c - d - l=c - (d+l):=by omega
      rw [e1,e2]
      refine .w hβ (by omega) fun hlt=>?_
      rw [if_neg (by omega),ha (by omega),←hK1,Option.map_map]
      congr 1
      funext ad
      show (ad.add (d * Kw)).add (l * Kw)=_
      rw [Addr.add_add,←Nat.add_mul]
    ·exact h.elim
   ·exact h.elim
  ·rename_i e hk
   cases hx.v_inv
   have hu:=(hT _ _ hti).slice hk
   split at h
   ·rename_i j hj
    have hsz:=(hT _ _ hj).run_size w
    obtain ⟨l,h,hl⟩:=boundI_spec hlo h
    obtain ⟨m,⟨hlm,hm,hk'⟩,hh⟩:=boundI_spec hhi h
    have hm0:m=0:=by omega
    have hl0:l=0:=by omega
    subst hm0; subst hl0
    have hh':(vhi=none∧(0:Nat)=0)∨∃kd,vhi=some (Value.int kd ((0:Nat):Int)):=hh
    refine Gives.mk (v:=.slice none 0 0) ?_ hk' (.i (.v (.inl rfl)))
    simp [Instr.sliceAt,Instr.slice,run_underlying hu,run_bounds (P:=P) (w:=w) (is:=true) hl hh' (Nat.le_refl _) (Nat.le_refl _) (Nat.le_refl 0),hsz]
   ·exact h.elim
  ·rename_i s hk
   cases hx.v_inv
   have hu:=(hT _ _ hti).str hk
   obtain ⟨l,h,hl⟩:=boundI_spec hlo h
   obtain ⟨m,⟨hlm,hm,r,rfl,hk'⟩,hh⟩:=boundI_spec hhi h
   refine Gives.mk (v:=.string (s.extract l m)) ?_ hk' (.i (.v (.inl rfl)))
   simp [Instr.sliceAt,Instr.slice,run_underlying hu,run_bounds (P:=P) (w:=w) (is:=false) hl hh hlm hm (Nat.le_refl _)]
  ·exact h.elim
 ·exact h.elim
theorem sNil_sound {x:AV} {vx:Value} (hx:Rd w F β x vx) (h:sNil x k) :
  (∃r,k r∧Rd w F β r vx)∧((∃a,vx=.pointer (some a))∨∃g fs cs,vx=.func (.func g) fs cs):=by
 unfold sNil at h
 split at h
 ·obtain ⟨blk,hb,rfl⟩:=hx.b_inv
  exact ⟨⟨_,h,hx⟩,.inl ⟨_,rfl⟩⟩
 ·have hp:=hx.p_inv
  cases hp
  exact ⟨⟨_,h,hx⟩,.inl ⟨_,rfl⟩⟩
 ·obtain ⟨g,n,c,hb,rfl⟩:=hx.e_inv
  exact ⟨⟨_,h,hx⟩,.inl ⟨_,rfl⟩⟩
 ·obtain ⟨us,vs,rfl,_⟩:=hx.c_inv
  exact ⟨⟨_,h,hx⟩,.inr ⟨_,_,_,rfl⟩⟩
 ·exact h.elim
theorem sLen_sound {t ty:Nat} {x:AV} {vx:Value} (hT:TOk P T) (hI:Inv w F β H) (hx:Rd w F β x vx) (h:sLen T t x H k):Gives P (Builtin.len_ #[t] ty #[vx]) w F β k:=by
 unfold sLen at h
 split at h
 ·rename_i i hi
  split at h
  ·rename_i e rows hk
   have hu:=(hT _ _ hi).slice hk
   obtain ⟨n,rfl,h⟩:=h
   rcases hx.s_inv.s_form with ⟨rfl,a,rfl⟩ | ⟨b,off,c,K,v,hb,hc,hml,rfl,hK,hv⟩
   ·exact Gives.mk (by simp [Builtin.len_,run_underlying hu,goInt]) (h (by simp)) (.i (.v (.inl rfl)))
   ·exact Gives.mk (by simp [Builtin.len_,run_underlying hu,goInt]) (h (by omega)) (.i (.v (.inl rfl)))
  ·rename_i e hk
   have hu:=(hT _ _ hi).slice hk
   cases hx.v_inv
   exact Gives.mk (by simp [Builtin.len_,run_underlying hu,goInt]) h (.i (.v (.inl rfl)))
  ·rename_i e id hk
   have hu:=(hT _ _ hi).slice hk
   split at h
   ·rename_i E K rows hc
    obtain ⟨n,rfl,h⟩:=h
    obtain ⟨a,n,c,hβ,rfl⟩:=hx.o_inv
    have hn:n=rows.length∧rows.length≤maxLen:=by
     rcases own_form (hI.holds _ _ (findC_mem hc)) with ⟨rfl,a',hv⟩ | ⟨g,cap,hv,hm,hn⟩
     ·rw [hβ] at hv; cases hv; exact ⟨rfl,by simp⟩
     ·rw [hβ] at hv; cases hv; exact ⟨rfl,by omega⟩
    obtain ⟨rfl,hm⟩:=hn
    exact Gives.mk (by simp [Builtin.len_,run_underlying hu,goInt]) (h hm) (.i (.v (.inl rfl)))
   ·exact h.elim
  ·rename_i e id Kw d hk
   have hu:=(hT _ _ hi).slice hk
   split at h
   ·rename_i E K rows hc
    obtain ⟨n,rfl,h⟩:=h
    obtain ⟨a,a',n,c,hβ,hd,ha,rfl⟩:=hx.w_inv
    have hn:n=rows.length∧rows.length≤maxLen:=by
     rcases own_form (hI.holds _ _ (findC_mem hc)) with ⟨rfl,a2,hv⟩ | ⟨g,cap,hv,hm,hn⟩
     ·rw [hβ] at hv; cases hv; exact ⟨rfl,by simp⟩
     ·rw [hβ] at hv; cases hv; exact ⟨rfl,by omega⟩
    obtain ⟨rfl,hm⟩:=hn
    exact Gives.mk (by simp [Builtin.len_,run_underlying hu,goInt]) (h (by omega)) (.i (.v (.inl rfl)))
   ·exact h.elim
  ·rename_i kt e id hk
   have hu:=(hT _ _ hi).map hk
   split at h
   ·rename_i ag rows hc
    obtain ⟨n,rfl,h⟩:=h
    obtain ⟨b,hβ,rfl⟩:=hx.m_inv
    obtain ⟨b',es,ck,hβ',hh,_,hs,hm,_⟩:=hI.holds _ _ (findC_mem hc)
    rw [hβ] at hβ'; cases hβ'
    have hg:=Go.MapKept.run_getObj_map (P:=P) hh
    exact Gives.mk (v:=.int .i64 rows.length) (by simp [Builtin.len_,run_underlying hu,goInt,hg,hs]) (h (by omega)) (.i (.v (.inl rfl)))
   ·exact h.elim
  ·rename_i s hk
   have hu:=(hT _ _ hi).str hk
   cases hx.v_inv
   obtain ⟨n,rfl,h⟩:=h
   exact Gives.mk (by simp [Builtin.len_,run_underlying hu,goInt]) h (.i (.v (.inl rfl)))
  ·rename_i n e hk
   have hu:=(hT _ _ hi).arr hk
   exact Gives.mk (by simp [Builtin.len_,run_underlying hu,goInt]) h (.i (.v (.inl rfl)))
  ·exact h.elim
 ·exact h.elim
end
end Go.Cat
set_option linter.all false
namespace Go.Cat
open Go.RowKit
variable [M:Mono]
section
variable {P:Program} {T:TT} {w:World} {F:Nat→Prop} {β:Nat→Value} {H:Hp} {k:AV→Prop}
def RdL (w:World) (F:Nat→Prop) (β:Nat→Value) (xs:List AV) (us:Array Value):Prop :=
 us.size=xs.length∧∀i,i < xs.length→(us.getD i undef).oneCell'=true∧Rd w F β (xs.getD i .junk) (us.getD i undef)
theorem okCells_split {x:AV} (h:okCells x=true):(∃cs,x=.a cs)∨(isCell x=true∧cellsL x=[x]):=by
 cases x <;> first | exact .inl ⟨_,rfl⟩ | exact .inr ⟨h,rfl⟩
theorem cells_rd {x:AV} {u:Value} (h:Rd w F β x u) (hx:okCells x=true):RdL w F β (cellsL x) u.cells:=by
 rcases okCells_split hx with ⟨cs,rfl⟩ | ⟨hc,hl⟩
 ·obtain ⟨us,rfl,hs,h1,hr⟩:=h.a_inv
  exact ⟨hs,fun i hi=>⟨h1 i hi,hr i hi⟩⟩
 ·have h1:=isCell_one hc h
  have hc:u.cells=#[u]:=by cases u <;> simp [Value.oneCell'] at h1 <;> rfl
  rw [hc,hl]
  refine ⟨rfl,fun i hi=>?_⟩
  simp at hi
  subst hi
  exact ⟨h1,h⟩
theorem foldl_zip (off:Nat):∀(l:List Value) (n:Nat) (cs:Array Value),off+n+l.length≤cs.size →
  (l.zipIdx n).foldl (fun cs x=>cs.setIfInBounds (off+x.2) x.1) cs=(cs.toList.take (off+n)++l++cs.toList.drop (off+n+l.length)).toArray:=by
 intro l
 induction l with
 | nil=>intro n cs h; simp
 | cons x r ih =>
  intro n cs h
  simp only [List.length_cons] at h
  simp only [List.zipIdx_cons,List.foldl_cons]
  rw [ih (n+1) _ (by simp; omega)]
  have h1:off+n < cs.toList.length:=by simp; omega
  have e1:(cs.toList.set (off+n) x).take (off+(n+1))=cs.toList.take (off+n)++[x]:=by
   rw [show off+(n+1)=off+n+1 by omega,List.take_succ_eq_append_getElem (by simpa using h1)]
   rw [List.take_set,List.set_eq_of_length_le (by simp; omega)]
   simp
  have e2:(cs.toList.set (off+n) x).drop (off+(n+1)+r.length)=cs.toList.drop (off+n+(r.length+1)):=by
   rw [List.drop_set,if_pos (by omega),show off+(n+1)+r.length=off+n+(r.length+1) by omega]
  simp only [Array.toList_setIfInBounds,e1,e2,List.length_cons]
  simp
theorem fill_sound {placeA:Nat→Option (Nat×Nat)} {placeC:Nat→Option (Nat×Nat)} (hp:∀i x,placeA i=some x→placeC i=some x) :
  ∀(parts:List (Nat×AV)) (vs:List (Nat×Value)) (cells cells':List AV) (us:Array Value),parts.length=vs.length →
   (∀i,i < parts.length→(parts.getD i (0,.junk)).1=(vs.getD i (0,undef)).1∧Rd w F β (parts.getD i (0,.junk)).2 (vs.getD i (0,undef)).2) →
   RdL w F β cells us→fillL placeA parts cells=some cells'→∃us',Instr.fill placeC us vs=some us'∧RdL w F β cells' us':=by
 intro parts
 induction parts with
 | nil =>
  intro vs cells cells' us hl _ hr h
  cases vs with
  | nil=>simp [fillL] at h; subst h; exact ⟨us,rfl,hr⟩
  | cons=>simp at hl
 | cons p r ih =>
  intro vs cells cells' us hl hv hr h
  cases vs with
  | nil=>simp at hl
  | cons q s =>
   obtain ⟨i,x⟩:=p
   obtain ⟨i',u⟩:=q
   have h0:=hv 0 (by simp)
   simp at h0
   obtain ⟨rfl,hu⟩:=h0
   simp only [fillL] at h
   split at h
   ·cases h
   ·rename_i off size hpl
    cases hb:(okCells x&&(Nat.beq (cellsL x).length size&&Nat.ble (off+size) cells.length)) with
    | false=>rw [hb] at h; cases h
    | true =>
     rw [hb] at h
     simp only [Bool.and_eq_true] at hb
     obtain ⟨hok,hsz,hle⟩:=hb
     have hsz:(cellsL x).length=size:=Nat.eq_of_beq_eq_true hsz
     have hle:off+size≤cells.length:=by simpa using hle
     obtain ⟨hc1,hc2⟩:=cells_rd hu hok
     have hfold:=foldl_zip off u.cells.toList 0 us (by simp; rw [hc1,hr.1]; omega)
     simp only [Nat.add_zero] at hfold
     have hz:u.cells.zipIdx.foldl (fun cs x=>cs.setIfInBounds (off+x.2) x.1) us=(us.toList.take off++u.cells.toList++us.toList.drop (off+u.cells.toList.length)).toArray:=by
      rw [←hfold,←Array.foldl_toList,Array.toList_zipIdx]
     have hr':RdL w F β (cells.take off++(cellsL x++cells.drop (off+size))) (us.toList.take off++u.cells.toList++us.toList.drop (off+u.cells.toList.length)).toArray:=by
      have hul:us.toList.length=cells.length:=by simpa using hr.1
      have hul':us.size=cells.length:=hr.1
      have hcl:u.cells.toList.length=size:=by simp; rw [hc1]; exact hsz
      refine ⟨by simp only [List.size_toArray,List.length_append,List.length_take,List.length_drop]; omega,fun j hj=>?_⟩
      simp only [List.length_append,List.length_take,List.length_drop] at hj
      have key:∀(d:Value),(us.toList.take off++u.cells.toList++us.toList.drop (off+u.cells.toList.length)).toArray.getD j d =
        if j < off then us.getD j d else if j < off+size then u.cells.getD (j - off) d else us.getD j d:=by
       intro d
       simp only [Array.getD_eq_getD_getElem?,List.getElem?_toArray,List.getElem?_append,List.length_append,List.length_take,hcl,List.getElem?_take,List.getElem?_drop]
       by_cases h1:j < off
       ·simp [h1,show j < min off us.size+size by omega,show j < min off us.size by omega]
       ·by_cases h2:j < off+size
        ·simp [h1,h2,show min off us.size=off by omega]
        ·simp [h1,h2,show min off us.size=off by omega,show off+size+(j - (off+size))=j by omega]
      have key2:(cells.take off++(cellsL x++cells.drop (off+size))).getD j .junk=if j < off then cells.getD j .junk else if j < off+size then (cellsL x).getD (j - off) .junk else cells.getD j .junk:=by
       simp only [List.getD,List.getElem?_append,List.length_take,hsz,List.getElem?_take,List.getElem?_drop]
       by_cases h1:j < off
       ·simp [h1,show j < min off cells.length by omega]
       ·by_cases h2:j < off+size
        ·simp [h1,h2,show min off cells.length=off by omega,show j - off < size by omega]
        ·simp [h1,h2,show min off cells.length=off by omega,show ¬j - off < size by omega,show off+size+(j - off - size)=j by omega]
      rw [key,key2]
      by_cases h1:j < off
      ·rw [if_pos h1,if_pos h1]; exact hr.2 j (by omega)
      ·rw [if_neg h1,if_neg h1]
       by_cases h2:j < off+size
       ·rw [if_pos h2,if_pos h2]; exact hc2 (j - off) (by omega)
       ·rw [if_neg h2,if_neg h2]; exact hr.2 j (by omega)
     obtain ⟨us',hf,hr''⟩:=ih s _ cells' _ (by simpa using hl) (fun m hm=>by have:=hv (m+1) (by simp; omega); simpa using this) hr' h
     refine ⟨us',?_,hr''⟩
     simp only [Instr.fill,hp _ _ hpl]
     rw [if_neg ?_]
     ·have hz':(Array.foldl (fun cs (x:Value×Nat)=>cs.setIfInBounds (off+x.2) x.1) us u.cells.zipIdx)=(us.toList.take off++u.cells.toList++us.toList.drop (off+u.cells.toList.length)).toArray:=hz
      exact (congrArg (fun z=>Instr.fill placeC z s) hz').trans hf
     ·simp only [Bool.or_eq_true,ne_eq,decide_eq_true_eq,not_or,decide_not,Bool.not_eq_true']
      rw [hc1,hsz,hr.1]
      simp
      omega
theorem ofV_a {z:Value} {zs:List AV} (h:ofV z=.a zs):RdL w F β zs z.cells:=by
 have hr:=ofV_rd w F z β
 rw [h] at hr
 obtain ⟨us,rfl,hs,h1,h2⟩:=hr.a_inv
 exact ⟨hs,fun i hi=>⟨h1 i hi,h2 i hi⟩⟩
theorem RdL.agg {xs:List AV} {us:Array Value} (h:RdL w F β xs us):Rd w F β (.a xs) (.agg us):=.a h.1 (fun i hi=>(h.2 i hi).1) fun i hi=>(h.2 i hi).2
theorem run_places (hT:TOk P T):∀(fields:List Field),allTy T (fields.map fun f=>(f.offset,f.type))=true →
  ∃ps:List (Nat×Nat),(List.mapM (fun f:Field=>(do pure (f.offset,←sizeOf f.type):Sem (Nat×Nat))) fields).run P w=.ok ps w ∧
   ∀i x,placeF T (fields.map fun f=>(f.offset,f.type)) i=some x→ps[i]?=some x
 | [],_=>⟨[],by simp,fun i x h=>by simp [placeF] at h⟩
 | f::r,ha=>by
  simp only [List.map_cons,allTy,Bool.and_eq_true] at ha
  obtain ⟨ps,hr,hp⟩:=run_places hT r ha.2
  obtain ⟨j,hj⟩:=Option.isSome_iff_exists.1 ha.1
  have hsz:=(hT _ _ hj).run_size w
  refine ⟨(f.offset,j.cells)::ps,by rw [List.mapM_cons]; simp only [Sem.run_bind,Sem.run_pure,Result.andThen_ok,hsz,hr],fun i x h=>?_⟩
  cases i with
  | zero =>
   simp [placeF,hj] at h
   simpa using h
  | succ i=>exact hp i x (by simpa [placeF] using h)
theorem sBuild_sound {t:Nat} {parts:List (Nat×AV)} {vs:Array (Nat×Value)} (hT:TOk P T) (hl:parts.length=vs.size)
  (hv:∀i,i < parts.length→(parts.getD i (0,.junk)).1=(vs.toList.getD i (0,undef)).1∧Rd w F β (parts.getD i (0,.junk)).2 (vs.toList.getD i (0,undef)).2)
  (h:sBuild T t parts k):Gives P (Instr.build t vs) w F β k:=by
 unfold sBuild at h
 split at h
 ·rename_i i hi
  have hz:=(hT _ _ hi).run_zero w
  split at h
  ·rename_i zs hzs
   have hz0:=ofV_a (w:=w) (F:=F) (β:=β) hzs
   split at h
   ·rename_i fs hfs
    obtain ⟨hall,h⟩:=cond_prop h
    obtain ⟨fields,hu,rfl⟩:=(hT _ _ hi).struct hfs
    split at h
    ·rename_i cells hf
     obtain ⟨ps,hr,hp⟩:=run_places (w:=w) hT fields.toList hall
     obtain ⟨us',hf',hr'⟩:=fill_sound (w:=w) (F:=F) (β:=β) (placeC:=fun j=>ps.toArray[j]?) (fun i x hx=>by simpa using hp i x hx) parts vs.toList zs cells i.zero.cells (by simpa using hl) hv hz0 hf
     refine Gives.mk (v:=.agg us') ?_ h hr'.agg
     have hm:(fields.mapM (fun f=>(do pure (f.offset,←sizeOf f.type):Sem (Nat×Nat)))).run P w=.ok ps.toArray w:=by
      rw [Array.mapM_eq_mapM_toList]
      simp only [Sem.run_map,hr,Result.andThen_ok]
     unfold Instr.build
     simp only [Sem.run_bind,hz,Result.andThen_ok,run_underlying hu,hm,hf',Sem.run_pure]
    ·exact h.elim
   ·rename_i n e he
    have hu:=(hT _ _ hi).arr he
    split at h
    ·rename_i j hj
     have hsz:=(hT _ _ hj).run_size w
     split at h
     ·rename_i cells hf
      obtain ⟨us',hf',hr'⟩:=fill_sound (w:=w) (F:=F) (β:=β) (placeC:=fun i=>some (i * j.cells,j.cells)) (fun i x hx=>hx) parts vs.toList zs cells i.zero.cells (by simpa using hl) hv hz0 hf
      refine Gives.mk (v:=.agg us') ?_ h hr'.agg
      unfold Instr.build
      simp only [Sem.run_bind,hz,Result.andThen_ok,run_underlying hu,hsz,hf',Sem.run_pure]
     ·exact h.elim
    ·exact h.elim
   ·exact h.elim
  ·exact h.elim
 ·exact h.elim
theorem rowsOf_spec {size:Nat}:∀{parts:List (Nat×AV)} {n:Nat} {rows:List (List AV)},rowsOf size n parts=some rows→rows.length=parts.length∧∀i,i < parts.length →
  (parts.getD i (0,.junk)).1=n+i∧okCells (parts.getD i (0,.junk)).2=true∧(cellsL (parts.getD i (0,.junk)).2).length=size∧rows.getD i []=cellsL (parts.getD i (0,.junk)).2
 | [],n,rows,h=>by simp [rowsOf] at h; subst h; exact ⟨rfl,fun i hi=>by simp at hi⟩
 | (m,x)::r,n,rows,h=>by
  simp only [rowsOf] at h
  cases hb:(Nat.beq m n&&(okCells x&&Nat.beq (cellsL x).length size)) with
  | false=>rw [hb] at h; cases h
  | true =>
   rw [hb] at h
   simp only [Bool.and_eq_true] at hb
   obtain ⟨hm,hok,hs⟩:=hb
   have hm:m=n:=Nat.eq_of_beq_eq_true hm
   have hs:(cellsL x).length=size:=Nat.eq_of_beq_eq_true hs
   cases hr:rowsOf size (n+1) r with
   | none=>rw [hr] at h; cases h
   | some rs =>
    rw [hr] at h
    simp only [cond_true,Option.map_some,Option.some.injEq] at h
    subst h
    obtain ⟨hl,hi⟩:=rowsOf_spec hr
    refine ⟨by simp [hl],fun i hlt=>?_⟩
    cases i with
    | zero=>exact ⟨by simpa using hm,hok,hs,rfl⟩
    | succ i =>
     have:=hi i (by simpa using hlt)
     simpa [Nat.add_assoc,Nat.add_comm 1 i] using this
theorem flat_getD {size:Nat}:∀(rows:List (List AV)) (i j:Nat),(∀i,i < rows.length→(rows.getD i []).length=size)→i < rows.length→j < size→rows.flatten.getD (i * size+j) .junk=(rows.getD i []).getD j .junk
 | [],i,j,_,hi,_=>by simp at hi
 | r::rs,i,j,h,hi,hj=>by
  have hr:r.length=size:=by simpa using h 0 (by simp)
  cases i with
  | zero=>simp [List.getD,List.getElem?_append,hr,hj]
  | succ i =>
   have ih:=flat_getD rs i j (fun m hm=>by simpa using h (m+1) (by simpa using hm)) (by simpa using hi) hj
   have e:(i+1) * size+j=size+(i * size+j):=by rw [Nat.add_mul]; omega
   rw [e]
   simpa [List.getD,List.getElem?_append,hr,show ¬size+(i * size+j) < size by omega] using ih
theorem flat_length {size:Nat}:∀(rows:List (List AV)),(∀i,i < rows.length→(rows.getD i []).length=size)→rows.flatten.length=rows.length * size
 | [],_=>by simp
 | r::rs,h=>by
  have hr:r.length=size:=by simpa using h 0 (by simp)
  have ih:=flat_length rs (fun m hm=>by simpa using h (m+1) (by simpa using hm))
  simp [hr,ih,Nat.add_mul]; omega
theorem fill_rows {size:Nat} (hsize:0 < size):∀(parts:List (Nat×AV)) (vs:List (Nat×Value)) (n:Nat) (rows:List (List AV)) (done:List AV) (us:Array Value),parts.length=vs.length →
  (∀i,i < parts.length→(parts.getD i (0,.junk)).1=(vs.getD i (0,undef)).1∧Rd w F β (parts.getD i (0,.junk)).2 (vs.getD i (0,undef)).2) →
  rowsOf size n parts=some rows→done.length=n * size→us.size=(n+parts.length) * size →
  (∀i,i < done.length→(us.getD i undef).oneCell'=true∧Rd w F β (done.getD i .junk) (us.getD i undef)) →
  ∃us',Instr.fill (fun i=>some (i * size,size)) us vs=some us'∧RdL w F β (done++rows.flatten) us':=by
 intro parts
 induction parts with
 | nil =>
  intro vs n rows done us hl hv hr hd hu hdn
  cases vs with
  | cons=>simp at hl
  | nil =>
   simp [rowsOf] at hr
   subst hr
   refine ⟨us,rfl,?_,fun i hi=>?_⟩
   ·simpa [hd] using hu
   ·simpa using hdn i (by simpa using hi)
 | cons p r ih =>
  intro vs n rows done us hl hv hr hd hu hdn
  cases vs with
  | nil=>simp at hl
  | cons q s =>
   obtain ⟨m,x⟩:=p
   obtain ⟨m',u⟩:=q
   have h0:=hv 0 (by simp)
   simp at h0
   obtain ⟨rfl,hxu⟩:=h0
   simp only [rowsOf] at hr
   cases hb:(Nat.beq m n&&(okCells x&&Nat.beq (cellsL x).length size)) with
   | false=>rw [hb] at hr; cases hr
   | true =>
    rw [hb] at hr
    simp only [Bool.and_eq_true] at hb
    obtain ⟨hm,hok,hs⟩:=hb
    obtain rfl:m=n:=Nat.eq_of_beq_eq_true hm
    have hs:(cellsL x).length=size:=Nat.eq_of_beq_eq_true hs
    cases hr2:rowsOf size (m+1) r with
    | none=>rw [hr2] at hr; cases hr
    | some rs =>
     rw [hr2] at hr
     simp only [cond_true,Option.map_some,Option.some.injEq] at hr
     subst hr
     obtain ⟨hc1,hc2⟩:=cells_rd hxu hok
     have hul:us.size=m * size+(size+r.length * size):=by
      rw [hu]; simp only [List.length_cons,Nat.add_mul]; omega
     have hcl:u.cells.toList.length=size:=by simp; rw [hc1]; exact hs
     have hfold:=foldl_zip (m * size) u.cells.toList 0 us (by rw [hcl]; omega)
     simp only [Nat.add_zero] at hfold
     have hz:u.cells.zipIdx.foldl (fun cs x=>cs.setIfInBounds (m * size+x.2) x.1) us=(us.toList.take (m * size)++u.cells.toList++us.toList.drop (m * size+u.cells.toList.length)).toArray:=by
      rw [←hfold,←Array.foldl_toList,Array.toList_zipIdx]
     have key:∀j,j < (done++cellsL x).length→((us.toList.take (m * size)++u.cells.toList++us.toList.drop (m * size+u.cells.toList.length)).toArray.getD j undef)=if j < m * size then us.getD j undef else u.cells.getD (j - m * size) undef:=by
      intro j hj
      simp only [List.length_append,hd,hs] at hj
      simp only [Array.getD_eq_getD_getElem?,List.getElem?_toArray,List.getElem?_append,List.length_append,List.length_take,hcl,List.getElem?_take,List.getElem?_drop]
      by_cases h1:j < m * size
      ·simp [h1,show j < min (m * size) us.size+size by omega,show j < min (m * size) us.size by omega]
      ·simp [h1,show min (m * size) us.size=m * size by omega,show j < m * size+size by omega]
     obtain ⟨us',hf,hr'⟩:=ih s (m+1) rs (done++cellsL x) (us.toList.take (m * size)++u.cells.toList++us.toList.drop (m * size+u.cells.toList.length)).toArray (by simpa using hl) (fun i hi=>by have:=hv (i+1) (by simp; omega); simpa using this) hr2
      (by simp [hd,hs,Nat.add_mul])
      (by simp only [List.size_toArray,List.length_append,List.length_take,List.length_drop,hcl,Array.length_toList,Nat.add_mul]; omega)
      (fun i hi=>by
       rw [key i hi]
       by_cases h1:i < m * size
       ·rw [if_pos h1]
        have e:(done++cellsL x).getD i .junk=done.getD i .junk:=by simp [List.getD,List.getElem?_append,hd,h1]
        rw [e]; exact hdn i (by omega)
       ·rw [if_neg h1]
        have hi':i < m * size+size:=by simpa [hd,hs] using hi
        have e:(done++cellsL x).getD i .junk=(cellsL x).getD (i - m * size) .junk:=by simp [List.getD,List.getElem?_append,hd,h1]
        rw [e]; exact hc2 _ (by omega))
     refine ⟨us',?_,by simpa using hr'⟩
     simp only [Instr.fill]
     rw [if_neg ?_]
     ·exact (congrArg (fun z=>Instr.fill (fun i=>some (i * size,size)) z s) hz).trans hf
     ·simp only [Bool.or_eq_true,ne_eq,decide_eq_true_eq,not_or,decide_not,Bool.not_eq_true']
      rw [hc1,hs]
      simp
      omega
theorem imm0_rd {x:AV} {u:Value} (hx:imm0 x=true) (h:Rd w F β x u):RdI w F x u:=by
 cases x <;> first | (cases hx; done) | (cases h; assumption)
theorem imm1_rd {x:AV} {u:Value} (hx:imm1 x=true) (h:Rd w F β x u):RdI w F x u:=by
 have get:∀(l:List AV) (i:Nat),l.all imm0=true→i < l.length→imm0 (l.getD i .junk)=true:=fun l i hl hi=>by
  have:=List.all_eq_true.1 hl (l.getD i .junk) (by simp [List.getD,hi])
  exact this
 cases x with
 | a cs =>
  obtain ⟨us,rfl,hs,h1,hr⟩:=h.a_inv
  exact .a hs h1 fun i hi=>imm0_rd (get cs i hx hi) (hr i hi)
 | t cs =>
  obtain ⟨us,rfl,hs,hr⟩:=h.t_inv
  exact .t hs fun i hi=>imm0_rd (get cs i hx hi) (hr i hi)
 | c fn fs cs =>
  simp only [imm1,Bool.and_eq_true] at hx
  obtain ⟨us,vs,rfl,hs,hs',hr,hr'⟩:=h.c_inv
  exact .c hs hs' (fun i hi=>imm0_rd (get fs i hx.1 hi) (hr i hi)) fun i hi=>imm0_rd (get cs i hx.2 hi) (hr' i hi)
 | _=>exact imm0_rd hx h
theorem find_row {ag:Bool} {rows:List (Int×List AV)} {es:Array MapEntry} {ck:Nat} (hst:Go.MapKept.Stamped es ck) (hs:es.size=rows.length)
  (hr:∀(i:Nat) (r:Int×List AV),rows[i]?=some r→∃e:MapEntry,es[i]?=some e∧e.key=.int .i64 r.1∧InI64 r.1∧RdI w F (vOf ag r.2) e.val) (n:Int) :
  (∀x∈es.toList,Go.MapKept.IsKey (.int .i64) x.key) ∧
  ((Instr.findNow (.int .i64) (.int .i64 n) es.toList 0=some none∧mget n rows=none∧(∀x∈es.toList,x.key≠.int .i64 n)) ∨
   ∃(j:Nat) (e:MapEntry) (c:List AV),Instr.findNow (.int .i64) (.int .i64 n) es.toList 0=some (some (j,e.val))∧es[j]?=some e∧e.key=.int .i64 n∧rows[j]?=some (n,c)∧mget n rows=some c∧RdI w F (vOf ag c) e.val ∧
    ∀v,mset n v rows=rows.set j (n,v)):=by
 have hkey:∀(i:Nat) (e:MapEntry),es[i]?=some e→∃r,rows[i]?=some r∧e.key=.int .i64 r.1∧RdI w F (vOf ag r.2) e.val:=fun i e he=>by
  have hlt:i < rows.length:=by have:=(Array.getElem?_eq_some_iff.1 he).1; omega
  obtain ⟨e',h1,h2,_,h4⟩:=hr i rows[i] (List.getElem?_eq_getElem hlt)
  rw [he] at h1; cases h1
  exact ⟨_,List.getElem?_eq_getElem hlt,h2,h4⟩
 have hall:∀x∈es.toList,Go.MapKept.IsKey (.int .i64) x.key:=fun x hx=>by
  obtain ⟨i,hi⟩:=List.mem_iff_getElem?.1 hx
  obtain ⟨r,_,h2,_⟩:=hkey i x (by simpa using hi)
  rw [h2]; rfl
 refine ⟨hall,?_⟩
 have hat:=mget_at n ([]:List AV) rows
 rcases Go.MapKept.findNow_spec (d:=.int .i64) (k:=.int .i64 n) rfl es.toList 0 hall with ⟨h1,h2⟩ | ⟨j,e,h1,h2,h3⟩
 ·refine .inl ⟨h1,?_,h2⟩
  rcases hat with ⟨h,_,_⟩ | ⟨j,c,hj,_⟩
  ·exact h
  ·obtain ⟨e,he,hk,_⟩:=hr j _ hj
   exact (h2 e (by rw [←Array.getElem?_toList] at he; exact List.mem_of_getElem? he) hk).elim
 ·have h2':es[j]?=some e:=by simpa using h2
  obtain ⟨r,hrj,hrk,hrv⟩:=hkey j e h2'
  have hrn:r.1=n:=by rw [h3] at hrk; cases hrk; rfl
  obtain ⟨rn,rc⟩:=r
  dsimp only at hrn
  subst hrn
  refine .inr ⟨j,e,rc,by simpa using h1,h2',h3,hrj,?_⟩
  have uniq:∀(i:Nat) c,rows[i]?=some (rn,c)→i=j:=fun i c hi=>by
   obtain ⟨e',he',hk',_⟩:=hr i _ hi
   have hnd:=hst.2.2
   have l1:(es.toList.map (·.key))[i]?=some (.int .i64 rn):=by rw [List.getElem?_map]; simp [he',hk']
   have l2:(es.toList.map (·.key))[j]?=some (.int .i64 rn):=by rw [List.getElem?_map]; simp [h2',h3]
   have hnd:=List.pairwise_iff_getElem.1 hnd
   obtain ⟨a1,a2⟩:=List.getElem?_eq_some_iff.1 l1
   obtain ⟨b1,b2⟩:=List.getElem?_eq_some_iff.1 l2
   rcases Nat.lt_trichotomy i j with h | h | h
   ·exact (hnd i j a1 b1 h (by rw [a2,b2])).elim
   ·exact h
   ·exact (hnd j i b1 a1 h (by rw [a2,b2])).elim
  rcases hat with ⟨_,_,h⟩ | ⟨i,c,hi,hg,_,hlt⟩
  ·exact (h _ (List.mem_of_getElem? hrj) rfl).elim
  ·have hij:=uniq i c hi
   subst hij
   rw [hrj] at hi
   cases hi
   refine ⟨hg,hrv,fun v=>?_⟩
   rcases mget_at rn v rows with ⟨h,_,_⟩ | ⟨i',c',hi',_,hs',_⟩
   ·rw [hg] at h; cases h
   ·rw [hs',uniq i' c' hi']
theorem mval_rd {ag:Bool} {y:AV} {u:Value} {yc:List AV} (h:mval ag y=some yc) (hy:Rd w F β y u):RdI w F (vOf ag yc) u:=by
 cases ag with
 | true =>
  cases y <;> simp [mval] at h
  rename_i cs
  cases hc:cs.all imm0 with
  | false=>rw [hc] at h; cases h
  | true =>
   rw [hc] at h; cases h
   exact imm1_rd (x:=.a yc) (by simpa [imm1] using hc) hy
 | false =>
  have hi:imm0 y=true∧yc=[y]:=by
   cases y <;> simp [mval,imm0] at h ⊢ <;> exact h.symm
  rw [hi.2]
  exact imm0_rd hi.1 hy
theorem nz_rdI {x:AV} {u:Value} (h:RdI w F x u):RdI w F (nz x) u:=by
 unfold nz
 split
 ·cases h; exact .s0
 ·exact h
theorem nz_rows {rows:List (List AV)} {u:Value} (hr:RdI w F (.s rows) u):RdI w F (.s (rows.map fun r=>r.map nz)) u:=by
 cases hr with
 | s0=>exact .s0
 | @s _ b off c k u hb hc hm hk hcell hone hrd =>
  have hg:∀i,i < rows.length→(rows.map (fun r=>r.map nz)).getD i []=(rows.getD i []).map nz:=fun i hi=>by simp [List.getD,hi]
  have h2:=RdI.s (w:=w) (F:=F) (rows:=rows.map (fun r=>r.map nz)) (b:=b) (off:=off) (c:=c) (k:=k) (u:=u) hb (by simpa using hc) hm (fun i hi=>by
   have hi:i < rows.length:=by simpa using hi
   rw [hg i hi,List.length_map]; exact hk i hi) (fun i j hi hj=>hcell i j (by simpa using hi) hj) (fun i j hi hj=>hone i j (by simpa using hi) hj) (fun i j hi hj=>by
   have hi:i < rows.length:=by simpa using hi
   rw [hg i hi]
   have hkk:=hk i hi
   have:((rows.getD i []).map nz).getD j .junk=nz ((rows.getD i []).getD j .junk):=by
    have hj':j < (rows.getD i []).length:=by omega
    simp only [List.getD_eq_getElem?_getD,List.getElem?_map] at hj' ⊢
    rw [List.getElem?_eq_getElem hj']; rfl
   rw [this]; exact nz_rdI (hrd i j hi hj))
  simpa using h2
theorem vOf_nz {ag:Bool} {zc:List AV} {u:Value} (h:RdI w F (vOf ag zc) u):RdI w F (vOf ag (zc.map nz)) u:=by
 cases ag with
 | true =>
  cases h with
  | a hs h1 h =>
   refine .a (by simpa using hs) (fun i hi=>h1 i (by simpa using hi)) fun i hi=>?_
   have hi:i < zc.length:=by simpa using hi
   have:(zc.map nz).getD i .junk=nz (zc.getD i .junk):=by simp [List.getD,hi]
   rw [this]; exact nz_rdI (h i hi)
 | false =>
  show RdI w F ((zc.map nz).getD 0 .junk) u
  have h:RdI w F (zc.getD 0 .junk) u:=h
  cases zc with
  | nil=>exact h
  | cons x r=>exact nz_rdI h
theorem sLookup_sound {t:Nat} {m i:AV} {c:Bool} {vm vi:Value} (hT:TOk P T) (hI:Inv w F β H) (hm:Rd w F β m vm) (hi:Rd w F β i vi) (h:sLookup T t m i c H k):Gives P (Instr.lookup t vm vi c) w F β k:=by
 unfold sLookup at h
 split at h
 ·rename_i ti hti
  split at h
  ·rename_i kt e hk
   have hu:=(hT _ _ hti).map hk
   split at h
   ·rename_i ik ie hik hie
    split at h
    ·rename_i id n hkk
     have hd:=(hT _ _ hik).int hkk
     cases hi.v_inv
     split at h
     ·rename_i ag rows zc hc hz
      obtain ⟨hag,r,hr0,h⟩:=cond_prop h
      have hag:ag=aggK ie.kind:=by simpa using hag
      obtain ⟨b,hβ,rfl⟩:=hm.m_inv
      obtain ⟨b',es,ck,hβ',hh,hst,hs,hmx,hrr⟩:=hI.holds _ _ (findC_mem hc)
      rw [hβ] at hβ'; cases hβ'
      have hg:=Go.MapKept.run_getObj_map (P:=P) hh
      have hck:=Go.MapKept.run_checkKey (P:=P) (w:=w) (k:=.int .i64 n) hd rfl es.isEmpty 9999
      obtain ⟨_,hf⟩:=find_row hst hs hrr n
      have hzero:=(hT _ _ hie).run_zero w
      have hres:∃v ok,(Instr.lookup t (.map (some b)) (.int .i64 n) c).run P w=.ok (if c then .tuple #[v,.bool ok] else v) w∧RdI w F (vOf ag r) v∧ok=(mget n rows).isSome:=by
       rcases hf with ⟨h1,h2,_⟩ | ⟨j,e',c',h1,_,_,_,h2,h3,_⟩
       ·have hfk:=Go.MapKept.run_findKey (P:=P) (w:=w) hd h1
        refine ⟨ie.zero,false,?_,?_,by rw [h2]; rfl⟩
        ·simp [Instr.lookup,run_underlying hu,hg,hck,hfk,hzero]
        ·rw [←hr0,h2,Option.getD_none,hag]
         exact vOf_nz (mval_rd hz (ofV_rd w F ie.zero β))
       ·have hfk:=Go.MapKept.run_findKey (P:=P) (w:=w) hd h1
        refine ⟨e'.val,true,?_,?_,by rw [h2]; rfl⟩
        ·simp [Instr.lookup,run_underlying hu,hg,hck,hfk]
        ·rw [←hr0,h2,Option.getD_some]; exact h3
      obtain ⟨v,ok,hrun,hv,hok⟩:=hres
      cases c with
      | true =>
       obtain ⟨b2,hb2,hk'⟩:=h
       refine Gives.mk hrun hk' (.i (.t rfl fun i hi=>?_))
       match i,hi with
       | 0,_=>exact hv
       | 1,_ =>
        show RdI w F (.v (.bool b2)) (.bool ok)
        rw [hok,hb2]; exact .v (.inl rfl)
      | false=>exact Gives.mk hrun h (.i hv)
     ·exact h.elim
    ·exact h.elim
   ·exact h.elim
  ·exact h.elim
 ·exact h.elim
end
end Go.Cat
set_option linter.all false
namespace Go.Cat
open Go.RowKit
variable [M:Mono]
section
variable {P:Program} {T:TT} {w:World} {F:Nat→Prop} {β:Nat→Value} {H:Hp} {k:AV→Prop}
theorem below_alloc (w:World) (o:Obj):Below w.heap.size w (w.alloc o):=(Below.refl _ _).alloc (Nat.le_refl _) _
theorem run_buildSlice {t len:Nat} {parts:List (Nat×AV)} {vs:Array (Nat×Value)} (hT:TOk P T) (hl:parts.length=vs.size)
  (hv:∀i,i < parts.length→(parts.getD i (0,.junk)).1=(vs.toList.getD i (0,undef)).1∧Rd w F β (parts.getD i (0,.junk)).2 (vs.toList.getD i (0,undef)).2)
  {K:List (List AV)→Nat→Nat→Prop} (h:sBuildS T t len parts K) :
  ∃rows e size us,K rows e size∧T t=some ⟨.slice e,(((T t).map (·.cells)).getD 0),(((T t).map (·.bytes)).getD 0),(((T t).map (·.zero)).getD undef)⟩∧0 < size∧rows.length=len∧(∀i,i < rows.length→(rows.getD i []).length=size) ∧
   RdL w F β rows.flatten us∧us.size=len * size∧(Instr.buildSlice t len vs).run P w=.ok (.slice (some ⟨w.heap.size,0,none⟩) len len) (w.alloc (.cells us e))∧len≤16777216:=by
 unfold sBuildS at h
 split at h
 ·rename_i i hi
  split at h
  ·rename_i e he
   split at h
   ·rename_i j hj
    split at h
    ·rename_i rows hrows
     obtain ⟨hb,hk⟩:=cond_prop h
     simp only [Bool.and_eq_true] at hb
     obtain ⟨h1,h2,h3⟩:=hb
     have h1:parts.length=len:=Nat.eq_of_beq_eq_true h1
     have h2:len * j.cells≤16777216:=by simpa using h2
     have h3:0 < j.cells:=by
      rcases Nat.eq_zero_or_pos j.cells with h0 | h0
      ·rw [h0] at h3; cases h3
      ·exact h0
     obtain ⟨hrl,hri⟩:=rowsOf_spec hrows
     have hu:=(hT _ _ hi).slice he
     have hsz:=(hT _ _ hj).run_size w
     have hz:=(hT _ _ hj).run_zero w
     let zs:Array Value:=(Array.range (len * j.cells)).map (j.zero.cells[· % j.zero.cells.size]!)
     obtain ⟨us,hf,hus⟩:=fill_rows (w:=w) (F:=F) (β:=β) h3 parts vs.toList 0 rows [] zs (by simpa using hl) hv hrows (by simp) (by simp [zs,h1]) (fun i hi=>by simp at hi)
     simp only [List.nil_append] at hus
     have hrs:∀i,i < rows.length→(rows.getD i []).length=j.cells:=fun i hi=>by
      obtain ⟨_,_,hs,hr⟩:=hri i (by omega)
      rw [hr]; exact hs
     have hfl:=flat_length rows hrs
     refine ⟨rows,e,j.cells,us,hk,?_,h3,by omega,hrs,hus,by rw [hus.1,hfl,hrl,h1],?_,?_⟩
     ·rw [hi]; simp; rw [←he]
     ·unfold Instr.buildSlice
      simp only [Sem.run_bind,run_underlying hu,Result.andThen_ok,hsz]
      rw [if_neg (by omega)]
      by_cases hl0:len * j.cells=0
      ·have hlen0:len=0:=by rcases Nat.mul_eq_zero.1 hl0 with h | h; exact h; omega
       subst hlen0
       have hp:parts=[]:=List.eq_nil_of_length_eq_zero h1
       subst hp
       have hvs:vs.toList=[]:=List.eq_nil_of_length_eq_zero (by simpa using hl.symm)
       rw [if_pos hl0]
       have hzs:zs=#[]:=by simp [zs]
       have hus0:us=#[]:=by
        rw [hvs,hzs] at hf
        simpa [Instr.fill] using hf.symm
       subst hus0
       have hr0:Array.range 0=#[]:=Array.eq_empty_of_size_eq_zero (by simp)
       simp [hvs,Instr.fill,newRow,hr0]
      ·rw [if_neg hl0]
       simp only [Sem.run_bind,hz,Result.andThen_ok,Sem.run_pure]
       have hf':Instr.fill (fun i=>some (i * j.cells,j.cells)) ((Array.range (len * j.cells)).map (j.zero.cells[· % j.zero.cells.size]!)) vs.toList=some us:=hf
       rw [hf']
       simp [newRow]
     ·exact Nat.le_trans (Nat.le_mul_of_pos_right len h3) h2
    ·exact h.elim
   ·exact h.elim
  ·exact h.elim
 ·exact h.elim
theorem rows_rd {rows:List (List AV)} {size b cap:Nat} {us:Array Value} {e:TypeId} {fr:Nat×Nat} (hrs:∀i,i < rows.length→(rows.getD i []).length=size) (hus:∀i,i < rows.flatten.length→(us.getD i undef).oneCell'=true∧RdI w F (rows.flatten.getD i .junk) (us.getD i undef))
  (hsz:rows.flatten.length≤us.size) (hb:F b) (hh:w.heap[b]?=some (.cells us e fr)) (hc:rows.length≤cap) (hm:cap≤maxLen):RdI w F (.s rows) (.slice (some ⟨b,0,none⟩) rows.length cap):=by
 have hfl:=flat_length rows hrs
 have hlt:∀i j,i < rows.length→j < size→i * size+j < rows.flatten.length:=fun i j hi hj=>by
  rw [hfl]
  calc i * size + j < i * size + size := by omega
   _ = (i + 1) * size := by rw [Nat.add_mul]; omega
   _ ≤ rows.length * size := Nat.mul_le_mul_right _ hi
 refine .s (k:=size) (u:=fun i j=>us.getD (i * size+j) undef) hb hc hm hrs (fun i j hi hj=>?_) (fun i j hi hj=>(hus _ (hlt i j hi hj)).1) fun i j hi hj=>?_
 ·rw [cell_of_row w b _ us e fr hh,Nat.zero_add]
  have:=hlt i j hi hj
  have h2:i * size+j < us.size:=by omega
  simp [h2]
 ·have:=(hus _ (hlt i j hi hj)).2
  rwa [flat_getD rows i j hrs hi hj] at this
theorem immRows {rows:List (List AV)} {us:Array Value} (hi:rows.all (fun r=>r.all imm0)=true) (h:RdL w F β rows.flatten us) :
  ∀i,i < rows.flatten.length→(us.getD i undef).oneCell'=true∧RdI w F (rows.flatten.getD i .junk) (us.getD i undef):=by
 intro i hlt
 refine ⟨(h.2 i hlt).1,imm0_rd ?_ (h.2 i hlt).2⟩
 have hm:rows.flatten.getD i .junk∈rows.flatten:=by
  rw [List.getD_eq_getElem?_getD,List.getElem?_eq_getElem hlt]; exact List.getElem_mem hlt
 obtain ⟨r,hr,hx⟩:=List.mem_flatten.1 hm
 exact List.all_eq_true.1 (List.all_eq_true.1 hi r hr) _ hx
theorem sBuildS_sound {t len:Nat} {parts:List (Nat×AV)} {vs:Array (Nat×Value)} (hT:TOk P T) (hI:Inv w F β H) (hl:parts.length=vs.size)
  (hv:∀i,i < parts.length→(parts.getD i (0,.junk)).1=(vs.toList.getD i (0,undef)).1∧Rd w F β (parts.getD i (0,.junk)).2 (vs.toList.getD i (0,undef)).2)
  (h:sBuildS T t len parts fun rows _ _=>bif rows.all (fun r=>r.all imm0) then k (.s (rows.map fun r=>r.map nz)) else False):Gives P (Instr.buildSlice t len vs) w F β k:=by
 obtain ⟨rows,e,size,us,hk,_,hs,hrl,hrs,hus,hsz,hrun,hlen⟩:=run_buildSlice hT hl hv h
 obtain ⟨hi,hk⟩:=cond_prop hk
 have hb:=below_alloc w (.cells us e)
 have hF:=hI.fsize
 refine ⟨_,_,_,hrun,hb,hk,.i (nz_rows ?_)⟩
 have himm:=immRows hi hus
 rw [←hrl]
 refine rows_rd (size:=size) (e:=e) (fr:=(0,0)) hrs (fun i hi=>⟨(himm i hi).1,((himm i hi).2.frame (Below.agree hb hF) fun _ h=>.inl h)⟩) (by rw [hus.1]; exact Nat.le_refl _)
  (.inr ⟨Nat.le_refl _,by simp⟩) (heap_alloc_new w _) (Nat.le_refl _) (by rw [hrl]; unfold maxLen; omega)
theorem sMinMax_sound {mn:Bool} {xs:List AV} {vs:List Value} (hl:vs.length=xs.length) (hv:∀i,i < xs.length→Rd w F β (xs.getD i .junk) (vs.getD i undef)) (h:sMinMax mn xs k) (ts:Array TypeId) (ty:TypeId) :
  Gives P (if mn then Builtin.min_ ts ty vs.toArray else Builtin.max_ ts ty vs.toArray) w F β k:=by
 unfold sMinMax at h
 split at h
 ·rename_i kx a ky b
  obtain ⟨hb,r,rfl,hk⟩:=cond_prop h
  obtain rfl:=beqK hb
  match vs,hl with
  | [u,v],_ =>
   have h0:=(hv 0 (by simp)).v_inv
   have h1:=(hv 1 (by simp)).v_inv
   simp at h0 h1
   subst h0; subst h1
   cases mn with
   | true =>
    refine Gives.mk (v:=.int kx (min a b)) ?_ hk (.i (.v (.inl rfl)))
    simp [Builtin.min_,Builtin.min2]
    split <;> congr 2 <;> omega
   | false =>
    refine Gives.mk (v:=.int kx (max a b)) ?_ hk (.i (.v (.inl rfl)))
    simp [Builtin.max_,Builtin.max2]
    split <;> congr 2 <;> omega
 ·exact h.elim
theorem sBuiltin_sound {b:Builtin} {ts:List Nat} {xs:List AV} {vs:List Value} (hT:TOk P T) (hI:Inv w F β H) (hl:vs.length=xs.length)
  (hv:∀i,i < xs.length→Rd w F β (xs.getD i .junk) (vs.getD i undef)) (h:sBuiltin T b ts xs H k) (ty:TypeId) (cs:Array Bool) :
  QOut P (builtin b ts.toArray ty cs vs.toArray) w fun v w'=>∃r,k r∧Rd w' (FNew F w w') β r v:=by
 unfold sBuiltin at h
 split at h
 ·rename_i t x
  match vs,hl with
  | [u],_ =>
   exact (sLen_sound hT hI (by simpa using hv 0 (by simp)) h).out
 ·rename_i t
  match vs,hl with
  | [u],_ =>
   have hu0:Rd w F β (.v (.slice none 0 0)) u:=by simpa using hv 0 (by simp)
   cases hu0.v_inv
   split at h
   ·rename_i i hi
    split at h
    ·rename_i e he
     have hu:=(hT _ _ hi).slice he
     exact (Gives.mk (s:=Builtin.cap_ #[t] ty #[.slice none 0 0]) (by simp [Builtin.cap_,run_underlying hu,goInt]) h (.i (.v (.inl rfl)))).out
    ·exact h.elim
   ·exact h.elim
 ·exact (sMinMax_sound (mn:=true) hl hv h ts.toArray ty).out
 ·exact (sMinMax_sound (mn:=false) hl hv h ts.toArray ty).out
 ·exact h.elim
theorem sCall_sound {f:AV} {vf:Value} {xs:List AV} {vs:Array Value} (hI:Inv w F β H) (hf:Rd w F β f vf) (hl:vs.size=xs.length)
  (hv:∀i,i < xs.length→Rd w F β (xs.getD i .junk) (vs.getD i undef)) (h:sCall P f xs H k) :
  QOut P (do let d ←Deferred.ofValue vf vs; invoke d.target d.args) w fun v w'=>∃r,k r∧Rd w' (FNew F w w') β r v:=by
 unfold sCall at h
 split at h
 ·rename_i g fs cs
  obtain ⟨r,⟨⟨fn,c,hfn,hnm,hbody⟩,hp⟩,hk⟩:=h
  obtain ⟨us,ws,rfl,hs,hs',hu,hw⟩:=hf.c_inv
  refine .inr ⟨g,us++vs++ws,?_,?_⟩
  ·have hnm' : ¬ fn.name = "runtime.NumGoroutine" := by simpa using hnm
   simp [Deferred.ofValue,invoke,callFunc,hfn,hnm',hbody]
  ·refine (hp w F β (us++vs++ws) hI ?_ fun i hi=>?_).mono ?_
   ·simp [hs,hl,hs']
   ·simp only [List.length_append] at hi
    have e1:(fs++(xs++cs)).getD i .junk=if i < fs.length then fs.getD i .junk else if i < fs.length+xs.length then xs.getD (i - fs.length) .junk else cs.getD (i - fs.length - xs.length) .junk:=by
     simp only [List.getD,List.getElem?_append]
     by_cases h1:i < fs.length
     ·simp [h1]
     ·by_cases h2:i < fs.length+xs.length
      ·simp [h1,h2,show i - fs.length < xs.length by omega]
      ·simp [h1,h2,show ¬i - fs.length < xs.length by omega]
    have e2:(us++vs++ws).getD i undef=if i < fs.length then us.getD i undef else if i < fs.length+xs.length then vs.getD (i - fs.length) undef else ws.getD (i - fs.length - xs.length) undef:=by
     simp only [Array.getD_eq_getD_getElem?,Array.getElem?_append,Array.size_append,hs,hl]
     by_cases h1:i < fs.length
     ·simp [h1,show i < fs.length+xs.length by omega]
     ·by_cases h2:i < fs.length+xs.length
      ·simp [h1,h2]
      ·simp [h1,h2,Nat.sub_sub]
    rw [e1,e2]
    by_cases h1:i < fs.length
    ·rw [if_pos h1,if_pos h1]; exact hu i h1
    ·rw [if_neg h1,if_neg h1]
     by_cases h2:i < fs.length+xs.length
     ·rw [if_pos h2,if_pos h2]; exact hv _ (by omega)
     ·rw [if_neg h2,if_neg h2]; exact hw _ (by omega)
   ·rintro e w' ⟨v,rfl,hb,hr⟩
    exact ⟨v,rfl,hb,r,hk,.i hr⟩
 ·exact h.elim
theorem sBuiltin_run {b:Builtin} {args:Array Operand} {argTypes:Array TypeId} {ρ:Operand→AV} {a:Act} {type:TypeId} (hT:TOk P T) (hI:Inv w F β H)
  (hargs:∀i,i < (args.toList.map ρ).length→Rd w F β ((args.toList.map ρ).getD i .junk) ((args.map a.eval).getD i undef)) (h:sBuiltin T b argTypes.toList (args.toList.map ρ) H k) :
  QOut P (do let d ←resolve a.eval { callee:=.builtin b,args:=args,argTypes:=argTypes } type; invoke d.target d.args) w fun v w'=>∃r,k r∧Rd w' (FNew F w w') β r v:=by
 have h1:=sBuiltin_sound (P:=P) (ts:=argTypes.toList) (vs:=(args.map a.eval).toList) hT hI (by simp) (fun i hi=>by simpa using hargs i hi) h type (args.map fun | .const _=>true | _=>false)
 have e:(do let d ←resolve a.eval { callee:=.builtin b,args:=args,argTypes:=argTypes } type; invoke d.target d.args:Sem Next)=builtin b argTypes type (args.map fun | .const _=>true | _=>false) (args.map a.eval):=rfl
 rw [e]
 exact h1
theorem sCall_run {f:Operand} {args:Array Operand} {argTypes:Array TypeId} {ρ:Operand→AV} {a:Act} {type:TypeId} (hI:Inv w F β H) (hf:Rd w F β (ρ f) (a.eval f))
  (hargs:∀i,i < (args.toList.map ρ).length→Rd w F β ((args.toList.map ρ).getD i .junk) ((args.map a.eval).getD i undef)) (h:sCall P (ρ f) (args.toList.map ρ) H k) :
  QOut P (do let d ←resolve a.eval { callee:=.value f,args:=args,argTypes:=argTypes } type; invoke d.target d.args) w fun v w'=>∃r,k r∧Rd w' (FNew F w w') β r v:=by
 have e:(do let d ←resolve a.eval { callee:=.value f,args:=args,argTypes:=argTypes } type; invoke d.target d.args:Sem Next)=(do let d ←Deferred.ofValue (a.eval f) (args.map a.eval); invoke d.target d.args):=rfl
 rw [e]
 exact sCall_sound hI hf (by simp) hargs h
theorem parts_len (ρ:Operand→AV) (e:Operand→Value) (parts:Array (Nat×Operand)):(parts.toList.map fun q=>(q.1,ρ q.2)).length=(parts.map fun x=>(x.1,e x.2)).size:=by simp
theorem parts_rd {ρ:Operand→AV} {e:Operand→Value} {parts:Array (Nat×Operand)} (h:∀x,(∃i,(i,x)∈parts)→Rd w F β (ρ x) (e x)) (i:Nat) (hi:i < (parts.toList.map fun q=>(q.1,ρ q.2)).length) :
  ((parts.toList.map fun q=>(q.1,ρ q.2)).getD i (0,.junk)).1=((parts.map fun x=>(x.1,e x.2)).toList.getD i (0,undef)).1 ∧
   Rd w F β ((parts.toList.map fun q=>(q.1,ρ q.2)).getD i (0,.junk)).2 ((parts.map fun x=>(x.1,e x.2)).toList.getD i (0,undef)).2:=by
 simp at hi
 have:=h parts[i].2 ⟨parts[i].1,Array.getElem_mem hi⟩
 simpa [List.getD,hi] using this
theorem nz_rd {x:AV} {u:Value} (h:RdI w F x u):RdI w F (nz x) u:=by
 unfold nz
 split
 ·cases h; exact .s0
 ·exact h
theorem madeRow {z:Array Value} {n q:Nat} (h:q < n):((Array.range n).map (z[· % z.size]!)).getD q undef=z[q % z.size]! := by simp [h]
theorem sMake_sound {t:Nat} {l c:AV} {vl vc:Value} (hT:TOk P T) (hI:Inv w F β H) (hl:Rd w F β l vl) (hc:Rd w F β c vc) (h:sMake T t l c k):Gives P (Instr.makeSlice t vl vc) w F β k:=by
 unfold sMake at h
 split at h
 ·rename_i i kl nl kc nc hi
  cases hl.v_inv; cases hc.v_inv
  split at h
  ·rename_i e he
   have hu:=(hT _ _ hi).slice he
   split at h
   ·rename_i j hj
    obtain ⟨hb,n,m,rfl,rfl,hnm,hm,hby,R,rfl,hk⟩:=cond_prop h
    simp only [Bool.and_eq_true] at hb
    obtain ⟨hok,hlen,himm⟩:=hb
    have hlen:(cellsL (ofV j.zero)).length=j.cells:=Nat.eq_of_beq_eq_true hlen
    have hz:=cells_rd (ofV_rd w F j.zero β) hok
    have hzs:j.zero.cells.size=j.cells:=by rw [hz.1,hlen]
    obtain ⟨inf,hinf,hzero,hsize,hbytes⟩:=(hT _ _ hj).info
    have hwn:IntKind.i64.wrap (n:Int)=(n:Int):=IntWalk.i64_in _ (by omega)
    have hwm:IntKind.i64.wrap (m:Int)=(m:Int):=IntWalk.i64_in _ (by omega)
    have hbm:(inf.bytes:Int) * (m:Int)≤140737488355328:=by
     have h5:((m * j.bytes:Nat):Int)=(j.bytes:Int) * (m:Int):=by rw [Int.natCast_mul,Int.mul_comm]
     rw [hbytes,←h5]; omega
    have hrun:(Instr.makeSlice t (.int kl (n:Int)) (.int kc (m:Int))).run P w=.ok (.slice (some ⟨w.heap.size,0,none⟩) n m) (w.alloc (.cells ((Array.range (m * j.cells)).map (j.zero.cells[· % j.zero.cells.size]!)) e)):=by
     have h1:¬((m:Int) < 0):=by omega
     have h2:¬(281474976710656 < (inf.bytes:Int) * (m:Int)):=by omega
     have h3:¬((n:Int) < 0):=by omega
     have h4:¬((m:Int) < (n:Int)):=by omega
     by_cases h0:m * j.cells=0
     ·have hr0:Array.range (m * j.cells)=#[]:=by rw [h0]; exact Array.eq_empty_of_size_eq_zero (by simp)
      simp [Instr.makeSlice,run_underlying hu,asInt,asIntOf,typeInfo,hinf,hwn,hwm,h1,h2,h3,h4,sizeOf,hsize,h0,newRow]
      rw [h0] at hr0
      simp [hr0]
     ·simp [Instr.makeSlice,run_underlying hu,asInt,asIntOf,typeInfo,hinf,hwn,hwm,h1,h2,h3,h4,sizeOf,hsize,h0,newRow,zeroValue,hzero]
    let w':=w.alloc (.cells ((Array.range (m * j.cells)).map (j.zero.cells[· % j.zero.cells.size]!)) e)
    have hbel:=below_alloc w (.cells ((Array.range (m * j.cells)).map (j.zero.cells[· % j.zero.cells.size]!)) e)
    have hheap:w'.heap[w.heap.size]?=some (.cells ((Array.range (m * j.cells)).map (j.zero.cells[· % j.zero.cells.size]!)) e (0,0)):=by
     show (w.heap.push _)[w.heap.size]?=_
     exact Array.getElem?_push_size
    refine ⟨_,_,_,hrun,hbel,hk,.i ?_⟩
    have:=RdI.s (w:=w') (F:=FNew F w w') (rows:=List.replicate n ((cellsL (ofV j.zero)).map nz)) (b:=w.heap.size) (off:=0) (c:=m) (k:=j.cells) (u:=fun q z=>((Array.range (m * j.cells)).map (j.zero.cells[· % j.zero.cells.size]!)).getD (q * j.cells+z) undef)
     (.inr ⟨Nat.le_refl _,by simp [w']⟩) (by simpa using hnm) (by unfold maxLen; omega) (fun q hq=>by simp at hq; simp [List.getD,hq,hlen]) (fun q z hq hz'=>?_) (fun q z hq hz'=>?_) (fun q z hq hz'=>?_)
    ·simpa using this
    all_goals
     simp only [List.length_replicate] at hq
     have hlt:q * j.cells+z < m * j.cells:=by
      calc q * j.cells + z < q * j.cells + j.cells := by omega
       _ = (q + 1) * j.cells := by rw [Nat.add_mul]; omega
       _ ≤ m * j.cells := Nat.mul_le_mul_right _ (by omega)
    ·rw [cell_of_row _ _ _ _ _ _ hheap,Nat.zero_add]
     simp [hlt]
    all_goals
     rw [madeRow hlt,hzs]
     have e1:(q * j.cells+z) % j.cells=z:=by rw [Nat.mul_comm,Nat.mul_add_mod]; exact Nat.mod_eq_of_lt hz'
     rw [e1]
     have h2:=hz.2 z (by omega)
     have e2:j.zero.cells[z]! = j.zero.cells.getD z undef:=by
      have:z < j.zero.cells.size:=by omega
      simp [this]
     rw [e2]
    ·exact h2.1
    ·have e3:((List.replicate n ((cellsL (ofV j.zero)).map nz)).getD q []).getD z .junk=nz ((cellsL (ofV j.zero)).getD z .junk):=by
      have hz2:z < (cellsL (ofV j.zero)).length:=by omega
      simp [List.getD,hq,hz2]
     rw [e3]
     refine (nz_rd (imm0_rd (List.all_eq_true.1 himm _ ?_) h2.2)).frame (Below.agree hbel hI.fsize) fun _ h=>.inl h
     rw [List.getD_eq_getElem?_getD,List.getElem?_eq_getElem (show z < (cellsL (ofV j.zero)).length by omega)]; exact List.getElem_mem _
   ·exact h.elim
  ·exact h.elim
 ·exact h.elim
theorem stepS_sound {o:Oper} {ρ:Operand→AV} {a:Act} (hT:TOk P T) (hI:Inv w F β H) (hρ:∀x,x∈o.op.operands→Rd w F β (ρ x) (a.eval x))
  (h:stepS P T o ρ H k):QOut P (execOp a.eval o) w fun v w'=>∃r,k r∧Rd w' (FNew F w w') β r v:=by
 obtain ⟨dst,op,type,pos,after,guard⟩:=o
 cases op <;> simp only [stepS] at h <;> simp only [Op.operands] at hρ <;> simp only [execOp]
 case move x=>exact .inl ⟨_,w,rfl,Below.refl _ _,_,h,(hρ x (by simp)).here⟩
 case assign x=>exact .inl ⟨_,w,rfl,Below.refl _ _,_,h,(hρ x (by simp)).here⟩
 case pick c x y=>exact sPick_sound (hρ c (by simp)) (hρ x (by simp)) (hρ y (by simp)) h
 case extract t i=>exact (sExtract_sound (hρ t (by simp)) h).out
 case unOp op t x=>exact (sUn_sound (hρ x (by simp)) h).out
 case binOp op t x y t'=>exact (sBin_sound hT (hρ x (by simp)) (hρ y (by simp)) x y h).out
 case convert s d x=>exact (sConv_sound hT (hρ x (by simp)) h).out
 case fieldAddr t x f=>exact (sFieldA_sound hT (hρ x (by simp)) h).out
 case load t x=>exact (sLoad_sound hT hI (hρ x (by simp)) h).out
 case indexAddr t x i=>exact (sIndexA_sound hT hI (hρ x (by simp)) (hρ i (by simp)) h).out
 case lookup t x i c=>exact (sLookup_sound hT hI (hρ x (by simp)) (hρ i (by simp)) h).out
 case index t x i=>exact (sIndex_sound hT (hρ x (by simp)) (hρ i (by simp)) h).out
 case slice t x lo hi mx =>
  cases mx with
  | some m=>unfold sSlice at h; split at h <;> first | exact h.elim | (rename_i hm; cases hm)
  | none =>
   refine (sSlice_sound (vlo:=lo.map a.eval) (vhi:=hi.map a.eval) hT (hρ x (by simp)) ?_ ?_ hI h).out
   ·cases lo with
    | none=>exact True.intro
    | some l=>exact hρ l (by simp)
   ·cases hi with
    | none=>exact True.intro
    | some l=>exact hρ l (by simp)
 case build t parts =>
  exact (sBuild_sound hT (parts_len ρ a.eval parts) (parts_rd fun x hx=>hρ x (by simpa using hx)) h).out
 case buildSlice t n parts =>
  exact (sBuildS_sound hT hI (parts_len ρ a.eval parts) (parts_rd fun x hx=>hρ x (by simpa using hx)) h).out
 case makeFunc fn fs cs =>
  refine .inl ⟨_,w,rfl,Below.refl _ _,_,h,?_⟩
  refine .c (by simp) (by simp) (fun i hi=>?_) fun i hi=>?_
  ·simp at hi
   have:=hρ (fs[i]) (by simp)
   simpa [List.getD,hi] using this.here
  ·simp at hi
   have:=hρ (cs[i]) (by simp)
   simpa [List.getD,hi] using this.here
 case nilCheck x =>
  obtain ⟨⟨r,hk,hr⟩,hs⟩:=sNil_sound (hρ x (by simp)) h
  generalize a.eval x=vx at hr hs ⊢
  rcases hs with ⟨a,rfl⟩ | ⟨g,fs,cs,rfl⟩
  ·exact .inl ⟨_,w,rfl,Below.refl _ _,_,hk,hr.here⟩
  ·exact .inl ⟨_,w,rfl,Below.refl _ _,_,hk,hr.here⟩
 case makeSlice t l c=>exact (sMake_sound hT hI (hρ l (by simp)) (hρ c (by simp)) h).out
 case call c =>
  obtain ⟨callee,args,argTypes⟩:=c
  have hargs:∀i,i < (args.toList.map ρ).length→Rd w F β ((args.toList.map ρ).getD i .junk) ((args.map a.eval).getD i undef):=fun i hi=>by
   simp at hi
   have:=hρ args[i] (by simp [Call.operands])
   simpa [List.getD,hi] using this
  cases callee with
  | builtin b=>exact sBuiltin_run hT hI hargs h
  | value f=>exact sCall_run hI (hρ f (by simp [Call.operands])) hargs h
  | invoke r m=>exact h.elim
 all_goals exact h.elim
end
end Go.Cat
set_option linter.all false
namespace Go.Cat
open Go.RowKit
variable [M:Mono]
def sb (z:AV):Nat→Nat→AV→AV
 | n,id,x=>match x with
  | .b i o=>bif Nat.beq i id then .junk else .b i o
  | .o i=>bif Nat.beq i id then z else .o i
  | .e i K m j=>bif Nat.beq i id then .junk else .e i K m j
  | .w i K d=>bif Nat.beq i id then .junk else .w i K d
  | .m i=>bif Nat.beq i id then .junk else .m i
  | .a cs=>match n with
   | 0=>.junk
   | n+1=>.a (cs.map (sb z n id))
  | .t cs=>match n with
   | 0=>.junk
   | n+1=>.t (cs.map (sb z n id))
  | .c fn fs cs=>match n with
   | 0=>.junk
   | n+1=>.c fn (fs.map (sb z n id)) (cs.map (sb z n id))
  | .v x=>.v x
  | .s r=>.s r
  | .p c=>.p c
  | .z=>.z
  | .junk=>.junk
abbrev er (n id:Nat) (x:AV):AV:=sb .junk n id x
def erC (id:Nat):Chunk→Chunk
 | .box cells=>.box (cells.map (er 1 id))
 | .own E k rows=>.own E k rows
 | .mp ag rows=>.mp ag rows
 | .lp l e R L=>.lp l e R (L.map fun p=>(p.1,er 2 id p.2))
 | .si s pos=>.si s pos
def erH (id:Nat):Hp→Hp
 | []=>[]
 | (i,c)::r=>bif Nat.beq i id then erH id r else (i,erC id c)::erH id r
def upd (f:Nat→AV) (d:Nat) (x:AV):Nat→AV:=fun t=>bif Nat.beq t d then x else f t
section
variable {w:World} {F:Nat→Prop} {β β':Nat→Value}
theorem er_if {id i:Nat} {x:AV} {u:Value} (h:i≠id→Rd w F β' x u):Rd w F β' (bif Nat.beq i id then .junk else x) u:=by
 cases hb:Nat.beq i id with
 | true=>exact .junk
 | false=>exact h fun e=>by rw [e,Nat.beq_refl] at hb; cases hb
theorem sb_if {z:AV} {id i:Nat} {x:AV} {u:Value} (hz:i=id→Rd w F β' z u) (h:i≠id→Rd w F β' x u):Rd w F β' (bif Nat.beq i id then z else x) u:=by
 cases hb:Nat.beq i id with
 | true=>exact hz (Nat.eq_of_beq_eq_true hb)
 | false=>exact h fun e=>by rw [e,Nat.beq_refl] at hb; cases hb
theorem sb_rd {z:AV} {id:Nat} (hz:∀u,Rd w F β (.o id) u→Rd w F β' z u) (hβ:∀i,i≠id→β' i=β i):∀(n:Nat) {x:AV} {u:Value},Rd w F β x u→Rd w F β' (sb z n id x) u:=by
 have b_case:∀{i o:Nat} {u:Value},Rd w F β (.b i o) u→Rd w F β' (bif Nat.beq i id then .junk else .b i o) u:=fun h=>er_if fun hi=>by
  obtain ⟨blk,h1,rfl⟩:=h.b_inv; exact .b ((hβ _ hi).trans h1)
 have o_case:∀{i:Nat} {u:Value},Rd w F β (.o i) u→Rd w F β' (bif Nat.beq i id then z else .o i) u:=fun h=>sb_if (fun e=>hz _ (e▸h)) fun hi=>by
  obtain ⟨a,n,c,h1,rfl⟩:=h.o_inv; exact .o ((hβ _ hi).trans h1)
 have e_case:∀{i K m j:Nat} {u:Value},Rd w F β (.e i K m j) u→Rd w F β' (bif Nat.beq i id then .junk else .e i K m j) u:=fun h=>er_if fun hi=>by
  obtain ⟨g,n,c,h1,rfl⟩:=h.e_inv; exact .e ((hβ _ hi).trans h1)
 have m_case:∀{i:Nat} {u:Value},Rd w F β (.m i) u→Rd w F β' (bif Nat.beq i id then .junk else .m i) u:=fun h=>er_if fun hi=>by
  obtain ⟨b,h1,rfl⟩:=h.m_inv; exact .m ((hβ _ hi).trans h1)
 have w_case:∀{i K d:Nat} {u:Value},Rd w F β (.w i K d) u→Rd w F β' (bif Nat.beq i id then .junk else .w i K d) u:=fun h=>er_if fun hi=>by
  obtain ⟨a,a',n,c,h1,h2,h3,rfl⟩:=h.w_inv; exact .w ((hβ _ hi).trans h1) h2 h3
 have v_case:∀{x u:Value},Rd w F β (.v x) u→Rd w F β' (.v x) u:=fun h=>by cases h; exact .i (by assumption)
 intro n
 induction n with
 | zero =>
  intro x u h
  cases x with
  | v x=>exact v_case h
  | s r=>exact .i h.s_inv
  | p c=>exact .i h.p_inv
  | junk=>exact .junk
  | a cs=>exact .junk
  | t cs=>exact .junk
  | c fn fs cs=>exact .junk
  | b i o=>exact b_case h
  | o i=>exact o_case h
  | e i K m j=>exact e_case h
  | w i K d=>exact w_case h
  | m i=>exact m_case h
  | z=>obtain ⟨a,rfl⟩:=h.z_inv; exact .i .z
 | succ n ih =>
  have get:∀(l:List AV) (i:Nat),i < l.length→(l.map (sb z n id)).getD i .junk=sb z n id (l.getD i .junk):=fun l i hi=>by simp [List.getD,hi]
  intro x u h
  cases x with
  | v x=>exact v_case h
  | s r=>exact .i h.s_inv
  | p c=>exact .i h.p_inv
  | junk=>exact .junk
  | a cs =>
   show Rd w F β' (.a (cs.map (sb z n id))) u
   obtain ⟨us,rfl,hs,h1,hr⟩:=h.a_inv
   refine .a (by simpa using hs) (fun i hi=>h1 i (by simpa using hi)) fun i hi=>?_
   have hi:i < cs.length:=by simpa using hi
   rw [get cs i hi]; exact ih (hr i hi)
  | t cs =>
   show Rd w F β' (.t (cs.map (sb z n id))) u
   obtain ⟨us,rfl,hs,hr⟩:=h.t_inv
   refine .t (by simpa using hs) fun i hi=>?_
   have hi:i < cs.length:=by simpa using hi
   rw [get cs i hi]; exact ih (hr i hi)
  | c fn fs cs =>
   show Rd w F β' (.c fn (fs.map (sb z n id)) (cs.map (sb z n id))) u
   obtain ⟨us,vs,rfl,hs,hs',hr,hr'⟩:=h.c_inv
   refine .c (by simpa using hs) (by simpa using hs') (fun i hi=>?_) fun i hi=>?_
   ·have hi:i < fs.length:=by simpa using hi
    rw [get fs i hi]; exact ih (hr i hi)
   ·have hi:i < cs.length:=by simpa using hi
    rw [get cs i hi]; exact ih (hr' i hi)
  | b i o=>exact b_case h
  | o i=>exact o_case h
  | e i K m j=>exact e_case h
  | w i K d=>exact w_case h
  | m i=>exact m_case h
  | z=>obtain ⟨a,rfl⟩:=h.z_inv; exact .i .z
theorem er_rd {id:Nat} (hβ:∀i,i≠id→β' i=β i) (n:Nat) {x:AV} {u:Value} (h:Rd w F β x u):Rd w F β' (er n id x) u:=sb_rd (fun _ _=>.junk) hβ n h
theorem erH_mem {id:Nat}:∀{H:Hp} {i:Nat} {c:Chunk},(i,c)∈erH id H→i≠id∧∃c',(i,c')∈H∧c=erC id c'
 | [],_,_,h=>by cases h
 | (j,c')::r,i,c,h=>by
  simp only [erH] at h
  cases hb:Nat.beq j id with
  | true =>
   rw [hb] at h
   obtain ⟨h1,c2,h2,h3⟩:=erH_mem (H:=r) h
   exact ⟨h1,c2,List.mem_cons_of_mem _ h2,h3⟩
  | false =>
   rw [hb] at h
   simp only [cond_false,List.mem_cons,Prod.mk.injEq] at h
   rcases h with ⟨rfl,rfl⟩ | h
   ·exact ⟨fun e=>(by rw [e,Nat.beq_refl] at hb; cases hb),c',by simp,rfl⟩
   ·obtain ⟨h1,c2,h2,h3⟩:=erH_mem (H:=r) h
    exact ⟨h1,c2,List.mem_cons_of_mem _ h2,h3⟩
theorem erH_keys {id:Nat}:∀{H:Hp},(H.map (·.1)).Nodup→((erH id H).map (·.1)).Nodup
 | [],_=>by simp [erH]
 | (j,c)::r,h=>by
  simp only [List.map_cons,List.nodup_cons] at h
  simp only [erH]
  cases hb:Nat.beq j id with
  | true=>exact erH_keys h.2
  | false =>
   simp only [cond_false,List.map_cons,List.nodup_cons]
   refine ⟨fun hm=>?_,erH_keys h.2⟩
   obtain ⟨x,hx,hxe⟩:=List.mem_map.1 hm
   obtain ⟨i,c'⟩:=x
   obtain ⟨_,c2,h2,_⟩:=erH_mem hx
   exact h.1 (List.mem_map.2 ⟨(i,c2),h2,hxe⟩)
theorem holds_er {id i:Nat} {c:Chunk} (hi:i≠id) (hβ:∀i,i≠id→β' i=β i) (h:c.holds w F β i):(erC id c).holds w F β' i:=by
 cases c with
 | box cells =>
  obtain ⟨b,cs,e,hb,hh,hs,h1,hr⟩:=h
  refine ⟨b,cs,e,(hβ i hi).trans hb,hh,by simpa using hs,fun j hj=>h1 j (by simpa using hj),fun j hj=>?_⟩
  have hj:j < cells.length:=by simpa using hj
  have:(cells.map (er 1 id)).getD j .junk=er 1 id (cells.getD j .junk):=by simp [List.getD,hj]
  rw [this]
  exact er_rd hβ 1 (hr j hj)
 | own E k rows =>
  unfold erC Chunk.holds at *
  rw [hβ i hi]
  exact h
 | mp ag rows =>
  unfold erC Chunk.holds at *
  rw [hβ i hi]
  exact h
 | si s pos =>
  unfold erC Chunk.holds at *
  rw [hβ i hi]
  exact h
 | lp l e R L =>
  obtain ⟨fn,tmps,D,hb,hh,hn,hr⟩:=h
  refine ⟨fn,tmps,D,(hβ i hi).trans hb,hh,hn,fun p hp=>?_⟩
  obtain ⟨q,hq,rfl⟩:=List.mem_map.1 hp
  exact er_rd hβ 2 (hr q hq)
theorem holds_frame {w':World} {F':Nat→Prop} {i:Nat} {c:Chunk} (ha:Agree F w w') (hF:∀b,F b→F' b) (hb:∀b,blkOf (β i)=some b→w'.heap[b]?=w.heap[b]?) (h:c.holds w F β i):c.holds w' F' β i:=by
 cases c with
 | box cells =>
  obtain ⟨b,cs,e,hβ,hh,hs,h1,hr⟩:=h
  exact ⟨b,cs,e,hβ,by rw [hb b (by rw [hβ]; rfl)]; exact hh,hs,h1,fun j hj=>(hr j hj).frame ha hF⟩
 | mp ag rows =>
  obtain ⟨b,es,ck,hβ,hh,hst,hs,hm,hr⟩:=h
  refine ⟨b,es,ck,hβ,by rw [hb b (by rw [hβ]; rfl)]; exact hh,hst,hs,hm,fun i r hi=>?_⟩
  obtain ⟨e,h1,h2,h3,h4⟩:=hr i r hi
  exact ⟨e,h1,h2,h3,h4.frame ha hF⟩
 | lp l e R L =>
  obtain ⟨fn,tmps,D,hβ,hh,hn,hr⟩:=h
  exact ⟨fn,tmps,D,hβ,by rw [hb l (by rw [hβ]; rfl)]; exact hh,hn,fun p hp=>(hr p hp).frame ha hF⟩
 | si s pos =>
  obtain ⟨b,hβ,hh⟩:=h
  exact ⟨b,hβ,by rw [hb b (by rw [hβ]; rfl)]; exact hh⟩
 | own E k rows =>
  rcases h with h | ⟨g,cap,cur,hv,hc,hg,hn,hm,hs,hk,hr⟩
  ·exact .inl h
  ·have h0:Nat.beq cap 0=false:=by cases cap <;> first | rfl | omega
   refine .inr ⟨g,cap,cur,hv,hc,by rw [hb g (by rw [hv]; simp [blkOf,h0])]; exact hg,hn,hm,hs,hk,fun i j hi hj=>⟨(hr i j hi hj).1,(hr i j hi hj).2.frame ha hF⟩⟩
theorem ext_quiet {st:ASt} {w':World} (hI:Inv w F β st.H) (hb:Below w.heap.size w w'):Ext w F β st w' (FNew F w w') β st where
 os:=hb.os
 tape:=hb.tape
 output:=hb.output
 size:=hb.size
 block _ h _:=hb.block _ h
 mono _ h:=.inl h
 new _ h:=h.elim .inl fun h=>.inr (.inl h.1)
 owned _ h:=.inr h
 keep _ _ h:=h.later hb hI.fsize
 inv:={
  fsize:=fun b h=>h.elim (fun h=>Nat.lt_of_lt_of_le (hI.fsize b h) hb.size) fun h=>h.2
  holds:=fun id c hm=>holds_frame (Below.agree hb hI.fsize) (fun _ h=>.inl h) (fun b hbk=>hb.block b (hI.owned_lt ⟨id,c,hm,hbk⟩)) (hI.holds id c hm)
  keys:=hI.keys
  apart:=fun b ho h=>h.elim (hI.apart b ho) fun h=>absurd (hI.owned_lt ho) (Nat.not_lt.2 h.1)
  disj:=hI.disj }
 lab _ _:=rfl
theorem ext_bind {st:ASt} {w':World} {d:Nat} {c:Chunk} {v:Value} (hd:d < 1000) (hI:Inv w F β st.H) (hos:w'.os=w.os) (htape:SameT w w') (hout:w'.output=w.output) (hsize:w.heap.size≤w'.heap.size)
  (hblock:∀b,b < w.heap.size→¬Owned β st.H b→w'.heap[b]?=w.heap[b]?)
  (hother:∀i c' b,i≠d→(i,c')∈st.H→blkOf (β i)=some b→w'.heap[b]?=w.heap[b]?)
  (hnew:∀b,blkOf v=some b→w.heap.size≤b∨∃c',(d,c')∈st.H∧blkOf (β d)=some b)
  (hc:c.holds w' F (fun i=>if i=d then v else β i) d) :
  Ext w F β st w' F (fun i=>if i=d then v else β i) ⟨fun t=>er 2 d (st.f t),(d,c)::erH d st.H⟩:=by
 have hβ:∀i,i≠d→(fun i=>if i=d then v else β i) i=β i:=fun i hi=>if_neg hi
 have ha:Agree F w w':=fun b hb=>hblock b (hI.fsize b hb) fun ho=>hI.apart b ho hb
 have hown:∀b,Owned (fun i=>if i=d then v else β i) ((d,c)::erH d st.H) b→w.heap.size≤b∨Owned β st.H b:=by
  rintro b ⟨i,c',hm,hb⟩
  rcases List.mem_cons.1 hm with hm | hm
  ·cases hm
   simp only [if_true] at hb
   rcases hnew b hb with h | ⟨c',h1,h2⟩
   ·exact .inl h
   ·exact .inr ⟨d,c',h1,h2⟩
  ·obtain ⟨hi,c2,h2,_⟩:=erH_mem hm
   simp only [if_neg hi] at hb
   exact .inr ⟨i,c2,h2,hb⟩
 refine ⟨hos,htape,hout,hsize,hblock,fun _ h=>h,fun _ h=>.inl h,hown,fun t u h=>er_rd hβ 2 (h.frame ha fun _ h=>h),?_,fun i hi=>hβ i (by omega)⟩
 refine ⟨fun b hb=>Nat.lt_of_lt_of_le (hI.fsize b hb) hsize,?_,?_,?_,?_⟩
 ·intro i c' hm
  rcases List.mem_cons.1 hm with hm | hm
  ·cases hm; exact hc
  ·obtain ⟨hi,c2,h2,rfl⟩:=erH_mem hm
   exact holds_er hi hβ (holds_frame ha (fun _ h=>h) (fun b hb=>hother i c2 b hi h2 hb) (hI.holds i c2 h2))
 ·simp only [List.map_cons,List.nodup_cons]
  refine ⟨fun hm=>?_,erH_keys hI.keys⟩
  obtain ⟨x,hx,hxe⟩:=List.mem_map.1 hm
  obtain ⟨i,c'⟩:=x
  exact (erH_mem hx).1 hxe
 ·intro b ho hF
  rcases hown b ho with h | h
  ·exact absurd (hI.fsize b hF) (Nat.not_lt.2 h)
  ·exact hI.apart b h hF
 ·have key:∀i c' b,(i,c')∈erH d st.H→blkOf (β i)=some b→blkOf v=some b→False:=by
   intro i c' b hm hb hv
   obtain ⟨hi,c2,h2,_⟩:=erH_mem hm
   rcases hnew b hv with h | ⟨c3,h3,h4⟩
   ·exact absurd (hI.owned_lt ⟨i,c2,h2,hb⟩) (Nat.not_lt.2 h)
   ·exact hi (hI.disj i c2 d c3 b h2 h3 hb h4)
  intro i c1 i' c1' b hm hm' hb hb'
  rcases List.mem_cons.1 hm with hm | hm <;> rcases List.mem_cons.1 hm' with hm' | hm'
  ·cases hm; cases hm'; rfl
  ·cases hm
   simp only [if_true] at hb
   have hi':=(erH_mem hm').1
   simp only [if_neg hi'] at hb'
   exact (key i' c1' b hm' hb' hb).elim
  ·cases hm'
   simp only [if_true] at hb'
   have hi:=(erH_mem hm).1
   simp only [if_neg hi] at hb
   exact (key i c1 b hm hb hb').elim
  ·obtain ⟨hi,c2,h2,_⟩:=erH_mem hm
   obtain ⟨hi',c2',h2',_⟩:=erH_mem hm'
   simp only [if_neg hi] at hb
   simp only [if_neg hi'] at hb'
   exact hI.disj i c2 i' c2' b h2 h2' hb hb'
end
end Go.Cat
