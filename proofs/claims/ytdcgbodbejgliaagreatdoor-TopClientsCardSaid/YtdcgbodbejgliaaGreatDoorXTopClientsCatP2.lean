/- The logic that the walks are in, piece P2. No condition. -/
import Derived.WalkKit
import Derived.WalkSpells
import Derived.WalkLawsBesides
import Derived.KernelRfl
import Derived.MapKept
import Derived.Test.YtdcgbodbejgliaaGreatDoorXTopClientsCatP1
import Derived.Laws.StructEq
import Derived.ChangeKeysEq
open Array renaming getElem?_eq_getElem → gv, getElem?_eq_some_iff → lj, getD_eq_getD_getElem? → lh, getElem?_modify → pW, eq_empty_of_size_eq_zero → ue, getElem?_append → pV, range → nf, size_append → uf, getD → xl, getElem?_extract → Y5, foldl_toList → Y3, toList_zipIdx → Y9
open BitVec renaming ofInt → eH
open Bool renaming and_eq_true → bE, or_eq_true → ug, not_eq_true' → oV, and_assoc → QQ
open Go.Addr renaming add_lit → gg
open Go.Builtin renaming len_ → vA, min_ → alv, max_ → alw, cap_ → alx
open Go.ByteArray renaming toList_eq → C_
open Go.Conv renaming stringToBytes → K2
open Go.Deferred renaming ofValue → l8
open Go.Instr renaming sliceAt → lL, slice → ss, sliceBounds → Ay, makeSlice → vD, sureAddr → G1, fill → vC, buildSlice → Rc, indexAt → Db, loadAt → GY, lookup → K9, index → Re, build → Rb, extract → alr, fieldAt → als, findNow → alu
open Go.IntWalk renaming i64_in → qO
open Go.MapKept renaming run_findKey → GX, run_getObj_map → Zg, Stamped → Zf, IsKey → Ze
open Go.Op renaming bytesLess → fX, intArith → um, equalIn → vJ, eqFields → xx, intBits → Lk, eqItems → alo
open Go.Program renaming fieldsOf → ZL
open Go.Result renaming andThen_ok → mg
open Go.Sem renaming run_bind → kC, run_pure → Lm
open Go.Value renaming int → du, oneCell' → alq
open Go.World renaming alloc → lR, freeze → AH
open List renaming getElem?_eq_getElem → bU, mem_cons_of_mem → cu, mem_cons → bf, getD → aV, length_cons → cZ, length_append → dj, getElem?_eq_some_iff → fh, getD_eq_getElem?_getD → fW, length_take → dR, mem_map → c9, all_eq_true → ej, getElem_mem → eI, getElem?_take → gk, getElem?_append → gG, replicate → ij, getElem?_drop → js, mem_of_getElem? → mb, nodup_cons → iw, size_toArray → ll, map_cons → jJ, eq_nil_of_length_eq_zero → qQ, length_eq_zero_iff → sx, length_drop → l9, getElem?_map → uj, take_append_drop → vI, cons_append → Dd, getElem?_toArray → Zx, getElem?_take_of_lt → Zw, take_succ_cons → ZF, take_zero → alp
open List.cons renaming injEq → G3
open Nat renaming mul_le_mul_right → cG, eq_of_beq_eq_true → cT, beq → aH, le_refl → bG, add_mul → bP, le_trans → fi, zero_add → jL, beq_refl → iW, lt_of_lt_of_le → oe, add_zero → lO, not_lt → me, ble → p0, add_assoc → G7
open Option renaming getD_some → AF, map_some → G9
open Option.some renaming injEq → G_
namespace Go.Cat
set_option linter.all false
section
open Go.RowKit
class bM where
 on:Prop
class oY [bM]:Prop where
 off:¬bM.on
abbrev bM.yes:bM:=⟨True⟩
abbrev bM.no:bM:=⟨False⟩
class cK where
 cells:List (Nat×Value)
variable [M:bM] [G:cK]
inductive AV where
 |v (x:Value)
 |s (rows:List (List AV))
 |p (cells:List AV)
 |a (cells:List AV)
 |t (vs:List AV)
 |c (fn:Fn) (first captured:List AV)
 |b (id off:Nat)
 |o (id:Nat)
 |e (id k i j:Nat)
 |w (id k d:Nat)
 |m (id:Nat)
 |z
 |χ
instance:Inhabited AV:=⟨.χ⟩
inductive bg (w:World) (F:Nat→Prop):AV→Value→Prop where
 |v {x:Value} (h:x.oneCell'=true∨x=undef):bg w F (.v x) x
 |s0 {a:Option Addr}:bg w F (.s []) (.slice a 0 0)
 |z {a:Option Addr}:bg w F .z (.slice a 0 0)
 |s {rows:List (List AV)} {b off c k:Nat} {u:Nat→Nat→Value}
   (hb:F b) (hc:rows.length≤c) (hm:c≤maxLen)
   (hk:∀i,i<rows.length→(rows.getD i []).length=k)
   (eO:∀i j,i<rows.length→j<k→w.cell? ⟨b,off+(i*k+j),none⟩=some (u i j))
   (fb:∀i j,i<rows.length→j<k→(u i j).oneCell'=true)
   (fB:∀i j,i<rows.length→j<k→bg w F ((rows.getD i []).getD j .χ) (u i j)) :
   bg w F (.s rows) (.slice (some ⟨b,off,none⟩) rows.length c)
 |p {cells:List AV} {b off:Nat} {u:Nat→Value}
   (hb:F b)
   (eO:∀j,j<cells.length→w.cell? ⟨b,off+j,none⟩=some (u j))
   (fb:∀j,j<cells.length→(u j).oneCell'=true)
   (fB:∀j,j<cells.length→bg w F (cells.getD j .χ) (u j)) :
   bg w F (.p cells) (.pointer (some ⟨b,off,none⟩))
 |a {cells:List AV} {us:Array Value} (hs:us.size=cells.length)
   (fb:∀i,i<cells.length→(us.getD i undef).oneCell'=true)
   (h:∀i,i<cells.length→bg w F (cells.getD i .χ) (us.getD i undef)):bg w F (.a cells) (.agg us)
 |t {cells:List AV} {us:Array Value} (hs:us.size=cells.length)
   (h:∀i,i<cells.length→bg w F (cells.getD i .χ) (us.getD i undef)):bg w F (.t cells) (.tuple us)
 |c {fn:Fn} {fs cs:List AV} {us vs:Array Value} (hs:us.size=fs.length) (ew:vs.size=cs.length)
   (h:∀i,i<fs.length→bg w F (fs.getD i .χ) (us.getD i undef))
   (h':∀i,i<cs.length→bg w F (cs.getD i .χ) (vs.getD i undef)):bg w F (.c fn fs cs) (.func fn us vs)
inductive Rd (w:World) (F:Nat→Prop) (β:Nat→Value):AV→Value→Prop where
 |i {x:AV} {u:Value} (h:bg w F x u):Rd w F β x u
 |χ {u:Value}:Rd w F β .χ u
 |b {id off eX:Nat} (h:β id=.pointer (some ⟨eX,0,none⟩)):Rd w F β (.b id off) (.pointer (some ⟨eX,off,none⟩))
 |o {id n c:Nat} {a:Option Addr} (h:β id=.slice a n c):Rd w F β (.o id) (.slice a n c)
 |e {id k i j g n c:Nat} (h:β id=.slice (some ⟨g,0,none⟩) n c):Rd w F β (.e id k i j) (.pointer (some ⟨g,i*k+j,none⟩))
 |m {id b:Nat} (h:β id=.map (some b)):Rd w F β (.m id) (.map (some b))
 |w {id k d n c:Nat} {a a':Option Addr} (h:β id=.slice a n c) (hd:d≤n) (ha:d<c→a'=a.map (·.add (d*k))):Rd w F β (.w id k d) (.slice a' (n-d) (c-d))
 |a {cells:List AV} {us:Array Value} (hs:us.size=cells.length)
   (fb:∀i,i<cells.length→(us.getD i undef).oneCell'=true)
   (h:∀i,i<cells.length→Rd w F β (cells.getD i .χ) (us.getD i undef)):Rd w F β (.a cells) (.agg us)
 |t {cells:List AV} {us:Array Value} (hs:us.size=cells.length)
   (h:∀i,i<cells.length→Rd w F β (cells.getD i .χ) (us.getD i undef)):Rd w F β (.t cells) (.tuple us)
 |c {fn:Fn} {fs cs:List AV} {us vs:Array Value} (hs:us.size=fs.length) (ew:vs.size=cs.length)
   (h:∀i,i<fs.length→Rd w F β (fs.getD i .χ) (us.getD i undef))
   (h':∀i,i<cs.length→Rd w F β (cs.getD i .χ) (vs.getD i undef)):Rd w F β (.c fn fs cs) (.func fn us vs)
def ga (F:Nat→Prop) (w w':World):Prop:=∀b,F b→w'.heap[b]?=w.heap[b]?
def ga.cell {F:Nat→Prop} {w w':World} (h:ga F w w') {b o:Nat} (hb:F b):w'.cell? ⟨b,o,none⟩=w.cell? ⟨b,o,none⟩ :=
 World.cell?_of_block (w:=w) (h b hb)
def bg.frame {w w':World} {F F':Nat→Prop} (ha:ga F w w') (hF:∀b,F b→F' b) {x:AV} {u:Value} (h:bg w F x u):bg w' F' x u:=by
 induction h with
 |v h=>exact .v h
 |s0=>exact .s0
 |z=>exact .z
 |s hb hc hm hk eO fb fB ih=>exact .s (hF _ hb) hc hm hk (fun i j hi hj=>by rw [ha.cell hb];exact eO i j hi hj) fb ih
 |p hb eO fb fB ih=>exact .p (hF _ hb) (fun j hj=>by rw [ha.cell hb];exact eO j hj) fb ih
 |a hs fb h ih=>exact .a hs fb ih
 |t hs h ih=>exact .t hs ih
 |c hs ew h h' ih EX=>exact .c hs ew ih EX
def Rd.frame {w w':World} {F F':Nat→Prop} {β:Nat→Value} (ha:ga F w w') (hF:∀b,F b→F' b) {x:AV} {u:Value} (h:Rd w F β x u):Rd w' F' β x u:=by
 induction h with
 |i h=>exact .i (h.frame ha hF)
 |χ=>exact .χ
 |b h=>exact .b h
 |o h=>exact .o h
 |e h=>exact .e h
 |w h hd ha=>exact .w h hd ha
 |m h=>exact .m h
 |a hs fb h ih=>exact .a hs fb ih
 |t hs h ih=>exact .t hs ih
 |c hs ew h h' ih EX=>exact .c hs ew ih EX
section
variable {w:World} {F:Nat→Prop} {β:Nat→Value} {u:Value}
def Rd.bN {x:Value} (h:Rd w F β (.v x) u):u=x:=by
 cases h with
 |i h=>cases h;rfl
def Rd.qY {cells:List AV} (h:Rd w F β (.a cells) u):∃us:Array Value,u=.agg us∧us.size=cells.length∧(∀i,i<cells.length→(us.getD i undef).oneCell'=true) ∧
  ∀i,i<cells.length→Rd w F β (cells.getD i .χ) (us.getD i undef):=by
 cases h with
 |i h=>cases h with|a hs fb h=>exact ⟨_,rfl,hs,fb,fun i hi=>.i (h i hi)⟩
 |a hs fb h=>exact ⟨_,rfl,hs,fb,h⟩
def Rd.CC {cells:List AV} (h:Rd w F β (.t cells) u):∃us:Array Value,u=.tuple us∧us.size=cells.length ∧
  ∀i,i<cells.length→Rd w F β (cells.getD i .χ) (us.getD i undef):=by
 cases h with
 |i h=>cases h with|t hs h=>exact ⟨_,rfl,hs,fun i hi=>.i (h i hi)⟩
 |t hs h=>exact ⟨_,rfl,hs,h⟩
def Rd.nt {fn:Fn} {fs cs:List AV} (h:Rd w F β (.c fn fs cs) u):∃us vs:Array Value,u=.func fn us vs∧us.size=fs.length∧vs.size=cs.length ∧
  (∀i,i<fs.length→Rd w F β (fs.getD i .χ) (us.getD i undef))∧(∀i,i<cs.length→Rd w F β (cs.getD i .χ) (vs.getD i undef)):=by
 cases h with
 |i h=>cases h with|c hs ew h h'=>exact ⟨_,_,rfl,hs,ew,fun i hi=>.i (h i hi),fun i hi=>.i (h' i hi)⟩
 |c hs ew h h'=>exact ⟨_,_,rfl,hs,ew,h,h'⟩
def Rd.oP {rows:List (List AV)} (h:Rd w F β (.s rows) u):bg w F (.s rows) u:=by cases h;assumption
def Rd.B0 {cells:List AV} (h:Rd w F β (.p cells) u):bg w F (.p cells) u:=by cases h;assumption
def Rd.Av (h:Rd w F β .z u):∃a,u=.slice a 0 0:=by cases h with|i h=>cases h;exact ⟨_,rfl⟩
def Rd.mz {id off:Nat} (h:Rd w F β (.b id off) u):∃eX,β id=.pointer (some ⟨eX,0,none⟩)∧u=.pointer (some ⟨eX,off,none⟩):=by
 cases h with
 |i h=>cases h
 |b h=>exact ⟨_,h,rfl⟩
def Rd.jY {id:Nat} (h:Rd w F β (.o id) u):∃a n c,β id=.slice a n c∧u=.slice a n c:=by
 cases h with
 |i h=>cases h
 |o h=>exact ⟨_,_,_,h,rfl⟩
def Rd.AY {id k i j:Nat} (h:Rd w F β (.e id k i j) u):∃g n c,β id=.slice (some ⟨g,0,none⟩) n c∧u=.pointer (some ⟨g,i*k+j,none⟩):=by
 cases h with
 |i h=>cases h
 |e h=>exact ⟨_,_,_,h,rfl⟩
def Rd.zz {id:Nat} (h:Rd w F β (.m id) u):∃b,β id=.map (some b)∧u=.map (some b):=by
 cases h with
 |i h=>cases h
 |m h=>exact ⟨_,h,rfl⟩
def Rd.xi {id k d:Nat} (h:Rd w F β (.w id k d) u):∃a a' n c,β id=.slice a n c∧d≤n∧(d<c→a'=a.map (·.add (d*k)))∧u=.slice a' (n-d) (c-d):=by
 cases h with
 |i h=>cases h
 |w h hd ha=>exact ⟨_,_,_,_,h,hd,ha,rfl⟩
end
def uY:AV→Bool
 |.v (.agg _)|.v (.tuple _)|.a _|.t _|.χ=>false
 |_=>true
def adG {w:World} {F:Nat→Prop} {β:Nat→Value} {x:AV} {u:Value} (hx:uY x=true) (h:Rd w F β x u):u.oneCell'=true:=by
 cases h with
 |i h =>
  cases h with
  |v h =>
   rcases h with h|rfl
   ·exact h
   ·simp [uY,undef] at hx
  |s0=>rfl
  |z=>rfl
  |s=>rfl
  |p=>rfl
  |a=>simp [uY] at hx
  |t=>simp [uY] at hx
  |c=>rfl
 |χ=>simp [uY] at hx
 |b=>rfl
 |o=>rfl
 |e=>rfl
 |w=>rfl
 |m=>rfl
 |a=>simp [uY] at hx
 |t=>simp [uY] at hx
 |c=>rfl
structure RF where
 ps:Array Tmp
 assign:Code
 body:Code
 n:Nat
def LS.st:LS→LoopState
 |.iI=>.ready
 |.LX=>.busy
 |_=>.done
def LS.zL:LS→Option Code
 |.ret=>some .ret
 |.ex i=>some (.exit i)
 |_=>none
inductive Chunk where
 |box (cells:List AV)
 |own (E k:Nat) (rows:List (List AV))
 |mp (ag:Bool) (rows:List (Int×List AV))
 |lp (l:Nat) (e:LS) (R:RF) (L:List (Nat×AV))
 |si (s:ByteArray) (pos:Nat)
abbrev Hp:=List (Nat×Chunk)
def bR:Value→Option Nat
 |.pointer (some a)=>some a.block
 |.slice (some a) _ c=>bif aH c 0 then none else some a.block
 |.map (some b)=>some b
 |_=>none
def sa (ag:Bool) (cells:List AV):AV:=bif ag then .a cells else cells.getD 0 .χ
def Chunk.holds (w:World) (F:Nat→Prop) (β:Nat→Value) (id:Nat):Chunk→Prop
 |.box cells=>∃b c e,β id=.pointer (some ⟨b,0,none⟩)∧w.heap[b]?=some (.cells c e (0,0))∧c.size=cells.length ∧
   (∀i,i<cells.length→(c.getD i undef).oneCell'=true)∧∀i,i<cells.length→Rd w F β (cells.getD i .χ) (c.getD i undef)
 |.own E k rows=>(rows=[]∧∃a,β id=.slice a 0 0)∨∃g cap cur,β id=.slice (some ⟨g,0,none⟩) rows.length cap∧0<cap∧w.heap[g]?=some (.cells cur E (0,0))∧rows.length≤cap∧cap≤maxLen ∧
   cur.size=cap*k∧(∀i,i<rows.length→(rows.getD i []).length=k) ∧
   ∀i j,i<rows.length→j<k→(cur.getD (i*k+j) undef).oneCell'=true∧bg w F ((rows.getD i []).getD j .χ) (cur.getD (i*k+j) undef)
 |.mp ag rows=>∃b es ck,β id=.map (some b)∧w.heap[b]?=some (.map es ck)∧Zf es ck∧es.size=rows.length∧es.size≤140737488355328 ∧
   ∀(i:Nat) (r:Int×List AV),rows[i]?=some r→∃e:MapEntry,es[i]?=some e∧e.key=.int .i64 r.1∧Θ r.1∧bg w F (sa ag r.2) e.val
 |.lp l e R L=>∃fn tmps D,β id=.pointer (some ⟨l,0,none⟩)∧w.heap[l]?=some (.loop { state:=e.st,pending:=e.zL,fn,tmps,params:=R.ps,assign:=R.assign,body:=R.body,defers:=D })∧tmps.size=R.n ∧
   ∀p,p∈L→Rd w F β p.2 (tmps.getD p.1 undef)
 |.si s pos=>∃b,β id=.pointer (some ⟨b,0,none⟩)∧w.heap[b]?=some (.stringIter s pos)
def cK.ok [G:cK] (w:World) (F:Nat→Prop):Prop:=∀b v,(b,v)∈G.cells→F b∧w.cell? ⟨b,0,none⟩=some v
def cK.ok.frame {w w':World} {F F':Nat→Prop} (h:cK.ok w F) (ha:ga F w w') (hF:∀b,F b→F' b):cK.ok w' F':=fun b v hm=>⟨hF b (h b v hm).1,(ha.cell (h b v hm).1).trans (h b v hm).2⟩
def cK.ok.more {w:World} {F F':Nat→Prop} (h:cK.ok w F) (hF:∀b,F b→F' b):cK.ok w F':=h.frame (fun _ _=>rfl) hF
def cK.ok.at {w w':World} {F:Nat→Prop} (h:cK.ok w F) (ha:ga F w w'):cK.ok w' F:=h.frame ha fun _ h=>h
def bC (β:Nat→Value) (H:Hp) (b:Nat):Prop:=∃id c,(id,c)∈H∧bR (β id)=some b
structure Inv (w:World) (F:Nat→Prop) (β:Nat→Value) (H:Hp):Prop where
 cC:∀b,F b→b<w.heap.size
 holds:∀id c,(id,c)∈H→c.holds w F β id
 keys:(H.map (·.1)).Nodup
 apart:∀b,bC β H b→¬F b
 eC:∀id c EW c' b,(id,c)∈H→(EW,c')∈H→bR (β id)=some b→bR (β EW)=some b→id=EW
 fk:cK.ok w F
def kF {w:World} {b:Nat} {o:Obj} (h:w.heap[b]?=some o):b<w.heap.size:=(lj.1 h).1
def acH {w:World} {F:Nat→Prop} {β:Nat→Value} {id:Nat} {c:Chunk} (h:c.holds w F β id) {b:Nat} (hb:bR (β id)=some b):b<w.heap.size:=by
 cases c with
 |box cells =>
  obtain ⟨b',c',e,ah,hh,_⟩:=h;rw [ah] at hb;simp [bR] at hb;subst hb;exact kF hh
 |mp ag rows =>
  obtain ⟨b',es,ck,ah,hh,_⟩:=h;rw [ah] at hb;simp [bR] at hb;subst hb;exact kF hh
 |lp l e R L =>
  obtain ⟨fn,tmps,D,ah,hh,_⟩:=h;rw [ah] at hb;simp [bR] at hb;subst hb;exact kF hh
 |si s pos =>
  obtain ⟨b',ah,hh⟩:=h;rw [ah] at hb;simp [bR] at hb;subst hb;exact kF hh
 |own E k rows =>
  rcases h with ⟨_,a,hv⟩|⟨g,cap,cur,hv,hc,hg,_⟩
  ·rw [hv] at hb;cases a<;>simp [bR] at hb
  ·have h0:aH cap 0=false:=by cases cap<;>first|rfl|omega
   rw [hv] at hb;simp [bR,h0] at hb;subst hb;exact kF hg
def Inv.fM {w:World} {F:Nat→Prop} {β:Nat→Value} {H:Hp} (h:Inv w F β H) {b:Nat} (hb:bC β H b):b<w.heap.size:=by
 obtain ⟨id,c,hm,hk⟩:=hb;exact acH (h.holds id c hm) hk
structure ae where
 f:Nat→AV
 H:Hp
def aF:Nat→AV:=fun _=>.χ
def jt [bM] (w w':World):Prop:=w'.tape=w.tape∧(bM.on→w.drawn≤w'.drawn)
def jt.refl (w:World):jt w w:=⟨rfl,fun _=>bG _⟩
def jt.trans {w w' sd:World} (h:jt w w') (h':jt w' sd):jt w sd:=⟨h'.1.trans h.1,fun m=>fi (h.2 m) (h'.2 m)⟩
structure Below (B:Nat) (w w':World):Prop where
 os:w'.os=w.os
 tape:jt w w'
 output:w'.output=w.output
 size:w.heap.size≤w'.heap.size
 block:∀k,k<B→w'.heap[k]?=w.heap[k]?
def Below.old {B:Nat} {w w':World} (h:Below B w w'):Go.RowKit.Below B w w':=⟨h.os,h.tape.1,h.output,h.size,h.block⟩
def Below.refl (B:Nat) (w:World):Below B w w:=⟨rfl,jt.refl _,rfl,bG _,fun _ _=>rfl⟩
def Below.trans {B:Nat} {a b c:World} (h:Below B a b) (k:Below B b c):Below B a c :=
 ⟨k.os.trans h.os,h.tape.trans k.tape,k.output.trans h.output,fi h.size k.size,fun i hi=>(k.block i hi).trans (h.block i hi)⟩
def Below.drew {B:Nat} {a w:World} (h:Below B a w):Below B a w.drew:=⟨h.os,⟨h.tape.1,fun m=>Nat.le_succ_of_le (h.tape.2 m)⟩,h.output,h.size,h.block⟩
def Below.alloc {B:Nat} {a w:World} (h:Below B a w) (hB:B≤w.heap.size) (o:Obj):Below B a (w.alloc o) :=
 ⟨h.os,h.tape,h.output,(h.old.alloc hB o).size,(h.old.alloc hB o).block⟩
structure Ext (w:World) (F:Nat→Prop) (β:Nat→Value) (st:ae) (w':World) (F':Nat→Prop) (av:Nat→Value) (aq:ae):Prop where
 os:w'.os=w.os
 tape:jt w w'
 output:w'.output=w.output
 size:w.heap.size≤w'.heap.size
 block:∀b,b<w.heap.size→¬bC β st.H b→w'.heap[b]?=w.heap[b]?
 mono:∀b,F b→F' b
 new:∀b,F' b→F b∨w.heap.size≤b∨bC β st.H b
 owned:∀b,bC av aq.H b→w.heap.size≤b∨bC β st.H b
 keep:∀t u,Rd w F β (st.f t) u→Rd w' F' av (aq.f t) u
 inv:Inv w' F' av aq.H
 gu:∀i,1000≤i→av i=β i
def Ext.refl {w:World} {F:Nat→Prop} {β:Nat→Value} {st:ae} (h:Inv w F β st.H):Ext w F β st w F β st :=
 ⟨rfl,jt.refl _,rfl,bG _,fun _ _ _=>rfl,fun _ h=>h,fun _ h=>.inl h,fun _ h=>.inr h,fun _ _ h=>h,h,fun _ _=>rfl⟩
def Ext.trans {w:World} {F:Nat→Prop} {β:Nat→Value} {st:ae} {w':World} {F':Nat→Prop} {av:Nat→Value} {aq:ae} {sd:World} {RC:Nat→Prop} {Y2:Nat→Value} {fO:ae}
  (h:Ext w F β st w' F' av aq) (h':Ext w' F' av aq sd RC Y2 fO):Ext w F β st sd RC Y2 fO where
 os:=h'.os.trans h.os
 tape:=h.tape.trans h'.tape
 output:=h'.output.trans h.output
 size:=fi h.size h'.size
 block b hb hn:=by
  have h1:¬bC av aq.H b:=fun ho=>(h.owned b ho).elim (fun gA=>absurd hb (me.2 gA)) hn;rw [h'.block b (oe hb h.size) h1,h.block b hb hn]
 mono b hb:=h'.mono b (h.mono b hb)
 new b hb:=by
  rcases h'.new b hb with h1|h1|h1
  ·exact h.new b h1
  ·exact .inr (.inl (fi h.size h1))
  ·exact (h.owned b h1).elim (fun x=>.inr (.inl x)) (fun x=>.inr (.inr x))
 owned b hb:=by
  rcases h'.owned b hb with h1|h1
  ·exact .inl (fi h.size h1)
  ·exact h.owned b h1
 keep t u hu:=h'.keep t u (h.keep t u hu)
 inv:=h'.inv
 gu i hi:=(h'.gu i hi).trans (h.gu i hi)
end
section
open Go.RowKit
variable [M:bM] [G:cK]
inductive TK where
 |bool|int (k:IntKind)|str|struct (fs:List (Nat×Nat))|slice (e:Nat)|arr (n e:Nat)|map (k e:Nat)|iface|other
structure TI where
 kind:TK
 cells:Nat
 bytes:Nat
 zero:Value
def sA:TypeDesc→TK
 |.bool=>.bool
 |.int k=>.int k
 |.string=>.str
 |.struct fs=>.struct (fs.toList.map fun f=>(f.offset,f.type))
 |.slice e=>.slice e
 |.array n e=>.arr n e
 |.map k e=>.map k e
 |.interface _=>.iface
 |_=>.other
abbrev TT:=Nat→Option TI
def gz (P:Program) (t:Nat) (i:TI):Prop :=
 (P.info? t).map (fun j=>(j.zero,j.size,j.bytes))=some (some i.zero,i.cells,i.bytes)∧(P.underlying t).map sA=some i.kind
def bO (P:Program) (T:TT):Prop:=∀t i,T t=some i→gz P t i
def lk:List (Nat×TI)→TT
 |[],_=>none
 |(t,i)::r,x=>bif aH x t then some i else lk r x
def Rz (P:Program):List (Nat×TI)→Prop
 |[]=>True
 |(t,i)::r=>gz P t i∧Rz P r
def bO.aeC {P:Program} {l:List (Nat×TI)} (h:Rz P l):bO P (lk l):=by
 induction l with
 |nil=>intro t i h';cases h'
 |cons x r ih =>
  obtain ⟨t,i⟩:=x;intro t' i' h';simp only [lk] at h';cases hb:aH t' t with
  |true =>
   rw [hb] at h';have:=cT hb;subst this;cases h';exact h.1
  |false =>
   rw [hb] at h';exact ih h.2 t' i' h'
section
variable {P:Program} {t:Nat} {i:TI}
def gz.info (h:gz P t i):∃j,P.info? t=some j∧j.zero=some i.zero∧j.size=i.cells∧j.bytes=i.bytes:=by
 obtain ⟨h,_⟩:=h;cases hj:P.info? t with
 |none=>simp [hj] at h
 |some j=>simp [hj] at h;exact ⟨j,rfl,h.1,h.2.1,h.2.2⟩
def gz.oa (h:gz P t i):∃d,P.underlying t=some d∧sA d=i.kind:=by
 obtain ⟨_,h⟩:=h;cases hj:P.underlying t with
 |none=>simp [hj] at h
 |some j=>simp [hj] at h;exact ⟨j,rfl,h⟩
def gz.slice {e:Nat} (h:gz P t i) (hk:i.kind=.slice e):P.underlying t=some (.slice e):=by
 obtain ⟨d,hd,cI⟩:=h.oa;rw [hk] at cI;cases d<;>simp [sA] at cI;subst cI;exact hd
def gz.arr {n e:Nat} (h:gz P t i) (hk:i.kind=.arr n e):P.underlying t=some (.array n e):=by
 obtain ⟨d,hd,cI⟩:=h.oa;rw [hk] at cI;cases d<;>simp [sA] at cI;obtain ⟨rfl,rfl⟩:=cI;exact hd
def gz.int {k:IntKind} (h:gz P t i) (hk:i.kind=.int k):P.underlying t=some (.int k):=by
 obtain ⟨d,hd,cI⟩:=h.oa;rw [hk] at cI;cases d<;>simp [sA] at cI;subst cI;exact hd
def gz.map {kt e:Nat} (h:gz P t i) (hk:i.kind=.map kt e):P.underlying t=some (.map kt e):=by
 obtain ⟨d,hd,cI⟩:=h.oa;rw [hk] at cI;cases d<;>simp [sA] at cI;obtain ⟨rfl,rfl⟩:=cI;exact hd
def gz.str (h:gz P t i) (hk:i.kind=.str):P.underlying t=some .string:=by
 obtain ⟨d,hd,cI⟩:=h.oa;rw [hk] at cI;cases d<;>simp [sA] at cI;exact hd
def gz.struct {fs:List (Nat×Nat)} (h:gz P t i) (hk:i.kind=.struct fs):∃fields,P.underlying t=some (.struct fields)∧fields.toList.map (fun f=>(f.offset,f.type))=fs:=by
 obtain ⟨d,hd,cI⟩:=h.oa;rw [hk] at cI;cases d<;>simp [sA] at cI;exact ⟨_,hd,cI⟩
def gz.kZ (h:gz P t i) (w:World):(sizeOf t).run P w=.ok i.cells w:=by
 obtain ⟨j,hj,_,hs,_⟩:=h.info;simp [sizeOf,typeInfo,hj,hs]
def gz.tQ (h:gz P t i) (w:World):(zeroValue t).run P w=.ok i.zero w:=by
 obtain ⟨j,hj,hz,_⟩:=h.info;simp [zeroValue,typeInfo,hj,hz]
end
def p7:TK→Bool
 |.struct _|.arr _ _=>true
 |_=>false
def gz.J_ {P:Program} {t:Nat} {i:TI} (h:gz P t i) (w:World):(isAgg t).run P w=.ok (p7 i.kind) w:=by
 obtain ⟨d,hd,hk⟩:=h.oa;simp only [isAgg,kC,run_underlying hd,mg];cases d<;>simp [sA] at hk<;>rw [←hk]<;>rfl
def cr:Value→AV
 |.agg cs=>bif cs.toList.all (·.oneCell') then .a (cs.toList.map .v) else .χ
 |.tuple _=>.χ
 |x=>.v x
def nV (w:World) (F:Nat→Prop) (x:Value) (β:Nat→Value):Rd w F β (cr x) x:=by
 unfold cr;split
 ·rename_i cs;cases hc:cs.toList.all (·.oneCell') with
  |false=>exact .χ
  |true =>
   refine .i (.a (by simp) (fun i hi=>?_) fun i hi=>?_)
   ·simp at hi;have:=(ej.1 hc) cs[i] (by simp);simpa [xl,hi] using this
   ·simp at hi;have:=(ej.1 hc) cs[i] (by simp);simp [xl,hi];exact .v (.inl this)
 ·exact .χ
 ·rename_i h1 h2;refine .i (.v (.inl ?_))
  cases x<;>first|rfl|exact absurd rfl (h1 _)|exact absurd rfl (h2 _)
def ev (f:Nat→AV):Operand→AV
 |.tmp t=>f t
 |.const v=>cr v
 |.global _=>.χ
 |.func g=>.c (.func g) [] []
def A2 {w:World} {F:Nat→Prop} {β:Nat→Value} {f:Nat→AV} {a:Act} (h:∀t,Rd w F β (f t) (a.tmps.getD t undef)) (x:Operand):Rd w F β (ev f x) (a.eval x):=by
 cases x with
 |tmp t=>exact h t
 |const v=>exact nV _ _ _ _
 |global g=>exact .χ
 |func g=>exact .i (.c rfl rfl (fun i hi=>absurd hi (by simp)) (fun i hi=>absurd hi (by simp)))
def Θ.wrap {n:Int} (h:Θ n):IntKind.i64.wrap n=n:=qO _ h
def LN (op:BinOp) (kx ky:IntKind) (a b:Int) (k:Value→Prop):Prop :=
 match op with
 |.shl=>0≤b∧∃r,kx.wrap (a*2 ^ (min b.toNat kx.bits))=r∧k (.int kx r)
 |.shr=>0≤b∧∃r,a.fdiv (2 ^ (min b.toNat kx.bits))=r∧k (.int kx r)
 |op=>bif kx==ky then
  match op with
  |.add=>match kx with
   |.i64=>(Θ (a+b)∧k (.int .i64 (a+b)))∨∃r,IntKind.i64.wrap (a+b)=r∧k (.int .i64 r)
   |_=>∃r,kx.wrap (a+b)=r∧k (.int kx r)
  |.sub=>match kx with
   |.i64=>(Θ (a-b)∧k (.int .i64 (a-b)))∨∃r,IntKind.i64.wrap (a-b)=r∧k (.int .i64 r)
   |_=>∃r,kx.wrap (a-b)=r∧k (.int kx r)
  |.mul=>match kx with
   |.i64=>(Θ (a*b)∧k (.int .i64 (a*b)))∨∃r,IntKind.i64.wrap (a*b)=r∧k (.int .i64 r)
   |_=>∃r,kx.wrap (a*b)=r∧k (.int kx r)
  |.quo=>b≠0∧∃r,kx.wrap (a.tdiv b)=r∧k (.int kx r)
  |.rem=>b≠0∧∃r,a.tmod b=r∧k (.int kx r)
  |.and=>∃r,kx.wrap (eH kx.bits a &&& eH kx.bits b).toNat=r∧k (.int kx r)
  |.or=>∃r,kx.wrap (eH kx.bits a ||| eH kx.bits b).toNat=r∧k (.int kx r)
  |.xor=>∃r,kx.wrap (eH kx.bits a ^^^ eH kx.bits b).toNat=r∧k (.int kx r)
  |.andNot=>∃r,kx.wrap (eH kx.bits a &&& ~~~eH kx.bits b).toNat=r∧k (.int kx r)
  |.eql=>k (.bool (a==b))
  |.neq=>k (.bool (a != b))
  |.lss=>k (.bool (decide (a<b)))
  |.leq=>k (.bool (decide (a≤b)))
  |.gtr=>k (.bool (decide (a>b)))
  |.geq=>k (.bool (decide (a≥b)))
  |_=>False
 else False
def cond_prop {c:Bool} {p:Prop} (h:bif c then p else False):c=true∧p:=by
 cases c with
 |true=>exact ⟨rfl,h⟩
 |false=>cases h
def R2 {a b:IntKind} (h:(a==b)=true):a=b:=by
 cases a<;>cases b<;>first|rfl|exact absurd h (by decide)
def aad {P:Program} {op:BinOp} {kx ky:IntKind} {a b:Int} {k:Value→Prop} (h:LN op kx ky a b k) (t:TypeId) (w:World) :
  ∃v,(binOp op t (.int kx a) (.int ky b)).run P w=.ok v w∧v.oneCell'=true∧k v:=by
 cases op
 case shl =>
  obtain ⟨h0,r,rfl,hk⟩:=h;exact ⟨_,by simp [binOp,Op.shift,Int.not_lt.2 h0],rfl,hk⟩
 case shr =>
  obtain ⟨h0,r,rfl,hk⟩:=h;exact ⟨_,by simp [binOp,Op.shift,Int.not_lt.2 h0],rfl,hk⟩
 all_goals
  simp only [LN] at h;obtain ⟨hc,h1⟩:=cond_prop h;clear h;obtain rfl:=R2 hc;clear hc
 case add =>
  cases kx<;>first|(obtain ⟨r,rfl,hk⟩:=h1;exact ⟨_,by simp [binOp,um],rfl,hk⟩)|(rcases h1 with ⟨h1,hk⟩|⟨r,rfl,hk⟩;exact ⟨_,by simp [binOp,um,h1.wrap],rfl,hk⟩;exact ⟨_,by simp [binOp,um],rfl,hk⟩)
 case sub =>
  cases kx<;>first|(obtain ⟨r,rfl,hk⟩:=h1;exact ⟨_,by simp [binOp,um],rfl,hk⟩)|(rcases h1 with ⟨h1,hk⟩|⟨r,rfl,hk⟩;exact ⟨_,by simp [binOp,um,h1.wrap],rfl,hk⟩;exact ⟨_,by simp [binOp,um],rfl,hk⟩)
 case mul =>
  cases kx<;>first|(obtain ⟨r,rfl,hk⟩:=h1;exact ⟨_,by simp [binOp,um],rfl,hk⟩)|(rcases h1 with ⟨h1,hk⟩|⟨r,rfl,hk⟩;exact ⟨_,by simp [binOp,um,h1.wrap],rfl,hk⟩;exact ⟨_,by simp [binOp,um],rfl,hk⟩)
 case quo =>
  obtain ⟨h0,r,rfl,hk⟩:=h1;exact ⟨_,by simp [binOp,Op.intDiv,h0],rfl,hk⟩
 case rem =>
  obtain ⟨h0,r,rfl,hk⟩:=h1;exact ⟨_,by simp [binOp,Op.intDiv,h0],rfl,hk⟩
 case and =>
  obtain ⟨r,rfl,hk⟩:=h1;exact ⟨_,by simp [binOp,Lk],rfl,hk⟩
 case or =>
  obtain ⟨r,rfl,hk⟩:=h1;exact ⟨_,by simp [binOp,Lk],rfl,hk⟩
 case xor =>
  obtain ⟨r,rfl,hk⟩:=h1;exact ⟨_,by simp [binOp,Lk],rfl,hk⟩
 case andNot =>
  obtain ⟨r,rfl,hk⟩:=h1;exact ⟨_,by simp [binOp,Lk],rfl,hk⟩
 all_goals exact ⟨_,by simp [binOp,Op.intCmp],rfl,h1⟩
end
section
open Go.RowKit
variable [M:bM] [G:cK]
inductive oh where
 |int (k:IntKind)|bool|str
inductive CK where
 |one (k:oh)|st (l:List oh)
def vX:CK→List oh
 |.one k=>[k]
 |.st l=>l
def lu (P:Program) (t:TypeId) (k:oh):Bool :=
 match P.underlying t,k with
 |some (.int q),.int k=>q==k
 |some .bool,.bool=>true
 |some .string,.str=>true
 |_,_=>false
def yj (P:Program):Nat→List Field→List oh→Bool
 |_,[],[]=>true
 | o, f :: fs, k :: ks => f.name != "_" && (aH f.offset o && (lu P f.type k && yj P (o + 1) fs ks))
 |_,_,_=>false
def HF (P:Program) (t:TypeId):CK→Bool
 |.one k=>lu P t k
 |.st l=>(match P.underlying t with|some (.struct _)=>true|_=>false)&&(!P.stoodInHeld t&&((match P.info? t with|some i=>aH i.size l.length|none=>false)&&yj P 0 (P.fieldsOf t).toList l))
def A0 (P:Program):Nat→List Field→List CK→Bool
 |_,[],[]=>true
 | o, f :: fs, k :: ks => f.name != "_" && (aH f.offset o && (HF P f.type k && A0 P (o + (vX k).length) fs ks))
 |_,_,_=>false
def Mj (P:Program) (t:TypeId) (ks:List CK):Bool :=
 match P.underlying t with
 |some (.array n e)=>aH ks.length n&&((match P.info? e with|some i=>aH i.size 1|none=>false)&&ks.all fun k=>match k with|.one c=>lu P e c|.st _=>false)
 |_=>false
def SH (P:Program) (t:TypeId) (ks:List CK):Bool :=
 !P.eqGuardType P.depth t&&(((match P.underlying t with|some (.struct _)=>true|_=>false)&&(!P.stoodInHeld t&&A0 P 0 (P.fieldsOf t).toList ks))||Mj P t ks)
def jc:List oh→List AV→List AV→Bool
 |[],[],[]=>true
 |.int k::ks,.v (.int k1 _)::r,.v (.int k2 _)::r'=>k1==k&&(k2==k&&jc ks r r')
 |.bool::ks,.v (.bool _)::r,.v (.bool _)::r'=>jc ks r r'
 |.str::ks,.v (.string _)::r,.v (.string _)::r'=>jc ks r r'
 |_,_,_=>false
def sP:List CK→List AV→List AV→Bool
 |[],[],[]=>true
 |k::ks,xs,ys=>jc (vX k) (xs.take (vX k).length) (ys.take (vX k).length)&&sP ks (xs.drop (vX k).length) (ys.drop (vX k).length)
 |_,_,_=>false
def eE:List AV→List AV→Bool
 |.v (.int _ a)::r,.v (.int _ b)::r'=>a==b&&eE r r'
 |.v (.bool a)::r,.v (.bool b)::r'=>a==b&&eE r r'
 |.v (.string a)::r,.v (.string b)::r'=>a.data.toList==b.data.toList&&eE r r'
 |_,_=>true
def AO {a b:IntKind} (h:(a==b)=true):a=b:=by
 cases a<;>cases b<;>first|rfl|exact absurd h (by decide)
def tM {P:Program} {w:World} {t:TypeId} {k:oh} {us:Array Value} {o:Nat} {v:Value} (hk:lu P t k=true) (h:us[o]?=some v):(part t us o).run P w=.ok v w:=by
 unfold lu at hk;split at hk;iterate 3 (rename_i hu;simp [part,isAgg,run_underlying hu,h])
 ·cases hk
def Po {P:Program} {w:World} {us vs:Array Value} {d:Nat}:∀(fs:List Field) (ks:List oh) (xs ys:List AV) (o:Nat),yj P o fs ks=true→jc ks xs ys=true →
  (∀i x,xs[i]?=some (.v x)→us[o+i]?=some x)→(∀i x,ys[i]?=some (.v x)→vs[o+i]?=some x)→(xx (d+1) us vs fs).run P w=.ok (eE xs ys) w
 |[],[],[],[],_,_,_,_,_=>by simp [xx,eE]
 |f::fs,k::ks,xs,ys,o,hf,hk,hx,hy=>by
  simp only [yj,bE,bne_iff_ne] at hf;obtain ⟨IT,wE,eP,nL⟩:=hf;have wE:f.offset=o:=cT wE
  have hu:∃td,P.underlying f.type=some td:=by
   unfold lu at eP;cases h:P.underlying f.type with
   |none=>rw [h] at eP;cases eP
   |some td=>exact ⟨td,rfl⟩
  have go:∀{x y:Value} {r r':List AV} {b:Bool},xs=.v x::r→ys=.v y::r'→jc ks r r'=true→(vJ (d+1) f.type x y).run P w=.ok b w→eE xs ys=(b&&eE r r')→(xx (d+1) us vs (f::fs)).run P w=.ok (eE xs ys) w:=by
   intro x y r r' b ex ey jj he hb;subst ex;subst ey;have h1:=tM (w:=w) eP (hx 0 x rfl);have h2:=tM (w:=w) eP (hy 0 y rfl);rw [lO] at h1 h2;have ih:=Po (P:=P) (w:=w) (us:=us) (vs:=vs) (d:=d) fs ks r r' (o+1) nL jj (fun i x h=>by have:=hx (i+1) x (by simpa using h);rwa [show o+1+i=o+(i+1) by omega]) (fun i x h=>by have:=hy (i+1) x (by simpa using h);rwa [show o+1+i=o+(i+1) by omega]);rw [hb];simp only [xx,if_pos IT,kC,wE,h1,h2,he,mg,Sem.run_ite];cases b
   ·simp
   ·simp [ih]
  unfold jc at hk;split at hk
  ·rename_i e;cases e
  ·rename_i e;cases e;simp only [bE] at hk;have L8:=AO hk.1;have L9:=AO hk.2.1;subst L8;subst L9;unfold lu at eP;split at eP
   ·rename_i iR e;cases e;exact go rfl rfl hk.2.2 (run_equalIn_int w d f.type _ _ _ _ iR) rfl
   iterate 2 (rename_i e;cases e)
   ·cases eP
  ·rename_i e;cases e;unfold lu at eP;split at eP
   ·rename_i e;cases e
   ·rename_i iR e;exact go rfl rfl hk (run_equalIn_bool' w d f.type _ _ iR) rfl
   ·rename_i e;cases e
   ·cases eP
  ·rename_i e;cases e;unfold lu at eP;split at eP;iterate 2 (rename_i e;cases e)
   ·rename_i iR e;exact go rfl rfl hk (run_equalIn_string w d f.type _ _ iR) (by rw [C_,C_];rfl)
   ·cases eP
  ·cases hk
 |[],_::_,_,_,_,h,_,_,_=>by simp [yj] at h
 |_::_,[],_,_,_,h,_,_,_=>by simp [yj] at h
 |[],[],_::_,_,_,_,h,_,_=>by simp [jc] at h
 |[],[],[],_::_,_,_,h,_,_=>by simp [jc] at h
def DO:∀{l:List oh} {a b:List AV},jc l a b=true→a.length=l.length∧b.length=l.length:=by
 intro l;induction l with
 |nil =>
  intro a b h;unfold jc at h;split at h<;>simp_all
 |cons k ks ih =>
  intro a b h;unfold jc at h;split at h
  ·rename_i e;cases e
  ·rename_i e;cases e;simp only [bE] at h;have:=ih h.2.2;simp [this.1,this.2]
  ·rename_i e;cases e;have:=ih h;simp [this.1,this.2]
  ·rename_i e;cases e;have:=ih h;simp [this.1,this.2]
  ·cases h
def abd:∀{l:List oh} {a b:List AV} (r r':List AV),jc l a b=true→eE (a++r) (b++r')=(eE a b&&eE r r'):=by
 intro l;induction l with
 |nil =>
  intro a b r r' h;unfold jc at h;split at h<;>simp_all [eE]
 |cons k ks ih =>
  intro a b r r' h;unfold jc at h;split at h
  ·rename_i e;cases e
  ·rename_i e;cases e;simp only [bE] at h;simp only [Dd,eE,ih r r' h.2.2,QQ]
  ·rename_i e;cases e;simp only [Dd,eE,ih r r' h,QQ]
  ·rename_i e;cases e;simp only [Dd,eE,ih r r' h,QQ]
  ·cases h
def Xf {P:Program} {w:World} {t:TypeId} {l:List oh} {us:Array Value} {o:Nat} (hk:HF P t (.st l)=true):(part t us o).run P w=.ok (.agg (us.extract o (o+l.length))) w:=by
 simp only [HF,bE] at hk;obtain ⟨h1,_,h3,_⟩:=hk;cases hi:P.info? t with
 |none=>rw [hi] at h3;cases h3
 |some i =>
  rw [hi] at h3;have hs:i.size=l.length:=cT h3;cases hu:P.underlying t with
  |none=>rw [hu] at h1;cases h1
  |some d =>
   rw [hu] at h1
   cases d<;>first|(cases h1;done)|skip
   simp [part,isAgg,run_underlying hu,sizeOf,typeInfo,hi,hs]
def Xe {P:Program} {w:World} {us vs:Array Value} {d:Nat}:∀(fs:List Field) (ks:List CK) (xs ys:List AV) (o:Nat),A0 P o fs ks=true→sP ks xs ys=true →
  (∀i x,xs[i]?=some (.v x)→us[o+i]?=some x)→(∀i x,ys[i]?=some (.v x)→vs[o+i]?=some x)→(xx (d+2) us vs fs).run P w=.ok (eE xs ys) w
 |[],[],[],[],_,_,_,_,_=>by simp [xx,eE]
 |[],_::_,_,_,_,h,_,_,_=>by simp [A0] at h
 |_::_,[],_,_,_,h,_,_,_=>by simp [A0] at h
 |[],[],_::_,_,_,_,h,_,_=>by simp [sP] at h
 |[],[],[],_::_,_,_,h,_,_=>by simp [sP] at h
 |f::fs,k::ks,xs,ys,o,hf,hk,hx,hy=>by
  simp only [A0,bE,bne_iff_ne] at hf;obtain ⟨IT,wE,eP,nL⟩:=hf;have wE:f.offset=o:=cT wE;simp only [sP,bE] at hk;obtain ⟨fU,fz⟩:=hk;obtain ⟨m,hm⟩:∃m,m=(vX k).length:=⟨_,rfl⟩;rw [←hm] at fU fz nL;have hlen:=DO fU;rw [←hm] at hlen
  have HX:eE xs ys=(eE (xs.take m) (ys.take m)&&eE (xs.drop m) (ys.drop m)):=by
   have:=abd (xs.drop m) (ys.drop m) fU;rwa [vI,vI] at this
  have ih:=Xe (P:=P) (w:=w) (us:=us) (vs:=vs) (d:=d) fs ks (xs.drop m) (ys.drop m) (o+m) nL fz
   (fun i x h=>by rw [js] at h;have:=hx (m+i) x h;rwa [show o+m+i=o+(m+i) by omega])
   (fun i x h=>by rw [js] at h;have:=hy (m+i) x h;rwa [show o+m+i=o+(m+i) by omega])
  have gr:∀i x,(xs.take m)[i]?=some (.v x)→us[o+i]?=some x:=fun i x h=>by
   have hi:=(fh.1 h).1;rw [Zw (by rw [hlen.1] at hi;exact hi)] at h;exact hx i x h
  have tj:∀i x,(ys.take m)[i]?=some (.v x)→vs[o+i]?=some x:=fun i x h=>by
   have hi:=(fh.1 h).1;rw [Zw (by rw [hlen.2] at hi;exact hi)] at h;exact hy i x h
  generalize xs.take m=a at fU HX gr hlen;generalize ys.take m=b at fU HX tj hlen;rw [HX];clear HX
  have key:∃x y,(part f.type us o).run P w=.ok x w∧(part f.type vs o).run P w=.ok y w∧(vJ (d+2) f.type x y).run P w=.ok (eE a b) w:=by
   cases k with
   |one k =>
    have mO:lu P f.type k=true:=eP;have fb:(xx (d+2) us vs [f]).run P w=.ok (eE a b) w :=
     Po (P:=P) (w:=w) (us:=us) (vs:=vs) (d:=d+1) [f] [k] a b o (by simp [yj,IT,wE,mO]) fU gr tj
    unfold jc at fU;simp only [vX] at fU;split at fU
    ·rename_i e;cases e
    ·rename_i e;cases e;have h1:=tM (w:=w) mO (gr 0 _ rfl);have h2:=tM (w:=w) mO (tj 0 _ rfl);rw [lO] at h1 h2;simp only [bE] at fU;have L8:=AO fU.1;have L9:=AO fU.2.1;subst L8;subst L9;have pC:=DO fU.2.2;have ha:=sx.1 pC.1;have hb:=sx.1 pC.2;subst ha;subst hb;refine ⟨_,_,h1,h2,?_⟩;unfold lu at mO;split at mO
     ·rename_i iR e;cases e;rw [run_equalIn_int w (d+1) f.type _ _ _ _ iR];simp [eE]
     iterate 2 (rename_i e;cases e)
     ·cases mO
    ·rename_i e;cases e;have h1:=tM (w:=w) mO (gr 0 _ rfl);have h2:=tM (w:=w) mO (tj 0 _ rfl);rw [lO] at h1 h2;have pC:=DO fU;have ha:=sx.1 pC.1;have hb:=sx.1 pC.2;subst ha;subst hb;refine ⟨_,_,h1,h2,?_⟩;unfold lu at mO;split at mO
     ·rename_i e;cases e
     ·rename_i iR e;rw [run_equalIn_bool' w (d+1) f.type _ _ iR];simp [eE]
     ·rename_i e;cases e
     ·cases mO
    ·rename_i e;cases e;have h1:=tM (w:=w) mO (gr 0 _ rfl);have h2:=tM (w:=w) mO (tj 0 _ rfl);rw [lO] at h1 h2;have pC:=DO fU;have ha:=sx.1 pC.1;have hb:=sx.1 pC.2;subst ha;subst hb;refine ⟨_,_,h1,h2,?_⟩;unfold lu at mO;split at mO;iterate 2 (rename_i e;cases e)
     ·rename_i iR e;rw [run_equalIn_string w (d+1) f.type _ _ iR,C_,C_];simp [eE]
     ·cases mO
    ·cases fU
   |st l =>
    have jC:m=l.length:=hm;refine ⟨_,_,Xf eP,Xf eP,?_⟩;simp only [HF,bE,oV] at eP;obtain ⟨h1,h2,_,h4⟩:=eP
    have zh:P.underlying f.type=some (.struct (P.fieldsOf f.type)):=by
     unfold ZL;cases hd:P.underlying f.type with
     |none=>rw [hd] at h1;cases h1
     |some dd =>
      rw [hd] at h1
      cases dd<;>first|rfl|cases h1
    rw [run_equalIn_struct w (d+1) f.type _ _ zh h2];refine Po (P:=P) (w:=w) (d:=d) _ l a b 0 h4 fU (fun i x h=>?_) fun i x h=>?_
    ·have hi:=(fh.1 h).1;rw [jL,Y5];have hu:=gr i x h;have Φ:o+i<us.size:=(lj.1 hu).1;rw [if_pos (by omega)];exact hu
    ·have hi:=(fh.1 h).1;rw [jL,Y5];have hu:=tj i x h;have Φ:o+i<vs.size:=(lj.1 hu).1;rw [if_pos (by omega)];exact hu
  obtain ⟨x,y,p1,p2,p3⟩:=key;simp only [xx,if_pos IT,kC,wE,p1,p2,p3,mg,Sem.run_ite];cases eE a b
  ·simp
  ·simp [ih]
def agG {P:Program} {w:World} {e:TypeId} {c:oh} {x y:Value} {d:Nat} (hc:lu P e c=true) (hf:jc [c] [.v x] [.v y]=true):(vJ (d+1) e x y).run P w=.ok (eE [.v x] [.v y]) w:=by
 unfold jc at hf;split at hf
 ·rename_i h;cases h
 ·rename_i h1 h2 h3;cases h1;cases h2;cases h3;simp only [bE] at hf;have e2:=AO hf.1;have e3:=AO hf.2.1;subst e2;subst e3;unfold lu at hc;split at hc
  ·rename_i hu h;cases h;rw [run_equalIn_int w d e _ _ _ _ hu];simp [eE]
  iterate 2 (rename_i h;cases h)
  ·cases hc
 ·rename_i h1 h2 h3;cases h1;cases h2;cases h3;unfold lu at hc;split at hc
  ·rename_i h;cases h
  ·rename_i hu h;rw [run_equalIn_bool' w d e _ _ hu];simp [eE]
  ·rename_i h;cases h
  ·cases hc
 ·rename_i h1 h2 h3;cases h1;cases h2;cases h3;unfold lu at hc;split at hc;iterate 2 (rename_i h;cases h)
  ·rename_i hu h;rw [run_equalIn_string w d e _ _ hu,C_,C_];simp [eE]
  ·cases hc
 ·cases hf
def abe {x y:Value} {r r':List AV} {c:oh} (h:jc [c] [.v x] [.v y]=true):eE (.v x::r) (.v y::r')=(eE [.v x] [.v y]&&eE r r'):=by
 unfold jc at h;split at h<;>simp_all [eE]
def abo {c:oh} {a b:List AV} (h:jc [c] a b=true):∃x y,a=[.v x]∧b=[.v y]:=by
 have hl:=DO h
 rcases a with _|⟨x,_|⟨x',a⟩⟩<;>rcases b with _|⟨y,_|⟨y',b⟩⟩<;>simp at hl
 unfold jc at h;split at h<;>simp_all
def agF {P:Program} {w:World} {us vs:Array Value} {e:TypeId} {d:Nat}:∀(ks:List CK) (xs ys:List AV) (o:Nat),(ks.all fun k=>match k with|.one c=>lu P e c|.st _=>false)=true→sP ks xs ys=true →
  (∀i x,xs[i]?=some (.v x)→us[o+i]?=some x)→(∀i x,ys[i]?=some (.v x)→vs[o+i]?=some x)→(alo (d+1) e 1 us vs (List.range' o ks.length)).run P w=.ok (eE xs ys) w:=by
 intro ks;induction ks with
 |nil =>
  intro xs ys o _ hf _ _
  rcases xs with _|⟨x,xs⟩<;>rcases ys with _|⟨y,ys⟩<;>simp [sP] at hf
  simp [alo,eE]
 |cons k ks ih =>
  intro xs ys o ha hf hx hy;simp only [List.all_cons,bE] at ha;cases k with
  |st l=>exact absurd ha.1 (by simp)
  |one c =>
   simp only [sP,bE] at hf;obtain ⟨s4,IE⟩:=hf;obtain ⟨x,y,e1,e2⟩:=abo s4;change xs.take 1=_ at e1;change ys.take 1=_ at e2
   obtain ⟨r,rfl⟩:∃r,xs=.v x::r:=by
    cases xs with
    |nil=>cases e1
    |cons a r=>simp only [ZF,alp,G3,and_true] at e1;exact ⟨r,by rw [e1]⟩
   obtain ⟨r',rfl⟩:∃r,ys=.v y::r:=by
    cases ys with
    |nil=>cases e2
    |cons a r=>simp only [ZF,alp,G3,and_true] at e2;exact ⟨r,by rw [e2]⟩
   have Bh:jc [c] [.v x] [.v y]=true:=s4;have h1:=tM (w:=w) ha.1 (hx 0 x rfl);have h2:=tM (w:=w) ha.1 (hy 0 y rfl);rw [lO] at h1 h2;have h3:=agG (d:=d) (w:=w) ha.1 Bh;have hr:=ih r r' (o+1) ha.2 IE (fun i x h=>by have:=hx (i+1) x (by simpa using h);rwa [show o+1+i=o+(i+1) by omega]) (fun i x h=>by have:=hy (i+1) x (by simpa using h);rwa [show o+1+i=o+(i+1) by omega]);rw [abe Bh,cZ,List.range'_succ];simp only [alo,kC,Nat.mul_one,h1,h2,h3,mg];cases eE [.v x] [.v y]
   ·simp
   ·simp [hr]
def agE {P:Program} {w:World} {us vs:Array Value} {t:TypeId} {d:Nat} {ks:List CK} {xs ys:List AV} (h:Mj P t ks=true) (hf:sP ks xs ys=true)
  (hx:∀i x,xs[i]?=some (.v x)→us[0+i]?=some x) (hy:∀i x,ys[i]?=some (.v x)→vs[0+i]?=some x):(vJ (d+2) t (.agg us) (.agg vs)).run P w=.ok (eE xs ys) w:=by
 unfold Mj at h;split at h
 ·rename_i n e hu;simp only [bE] at h;obtain ⟨hn,hi,ha⟩:=h;have hn:=cT hn;cases uN:P.info? e with
  |none=>rw [uN] at hi;cases hi
  |some i =>
   rw [uN] at hi;have hi:=cT hi;rw [run_equalIn_array w (d+1) us vs hu uN]
   have hc:P.cellsOf e=1:=by simp [Program.cellsOf,uN,hi]
   rw [hc,←hn,List.range_eq_range'];exact agF ks xs ys 0 ha hf hx hy
 ·cases h
end
section
open Go.RowKit
variable [M:bM] [G:cK]
def dH (id:Nat):Hp→Option Chunk
 |[]=>none
 |(i,c)::r=>bif aH i id then some c else dH id r
def eZ {id:Nat} {H:Hp} {c:Chunk} (h:dH id H=some c):(id,c)∈H:=by
 induction H with
 |nil=>cases h
 |cons x r ih =>
  obtain ⟨i,c'⟩:=x;simp only [dH] at h;cases hb:aH i id with
  |true =>
   rw [hb] at h;cases h;rw [cT hb];simp
  |false =>
   rw [hb] at h;exact cu _ (ih h)
def fG (F:Nat→Prop) (w w':World):Nat→Prop:=fun b=>F b∨(w.heap.size≤b∧b<w'.heap.size)
def Below.agree {w w':World} {F:Nat→Prop} (h:Below w.heap.size w w') (hF:∀b,F b→b<w.heap.size):ga F w w':=fun b hb=>h.block b (hF b hb)
def Rd.later {w w':World} {F:Nat→Prop} {β:Nat→Value} {x:AV} {u:Value} (h:Rd w F β x u) (hb:Below w.heap.size w w') (hF:∀b,F b→b<w.heap.size):Rd w' (fG F w w') β x u :=
 h.frame (Below.agree hb hF) fun _ h=>.inl h
def uu (P:Program) (s:Sem Next) (w:World) (post:Value→World→Prop):Prop :=
 (∃v w',s.run P w=.ok (.value v) w'∧Below w.heap.size w w'∧post v w') ∨
 (∃g vs,s.run P w=.ok (.enter g vs) w∧Calls P g vs w fun e w'=>∃v,e=.returned v∧Below w.heap.size w w'∧post v w')
def p6 (P : Program) (g : FuncId) : Prop := ∃ fn c, P.funcs[g]? = some fn ∧ (fn.name == "runtime.NumGoroutine") = false ∧ fn.body = some c
def xJ (P:Program) (g:FuncId) (args:List AV) (H:Hp) (r:AV):Prop :=
 p6 P g∧∀(w:World) (F:Nat→Prop) (β:Nat→Value) (vs:Array Value),Inv w F β H→vs.size=args.length →
  (∀i,i<args.length→Rd w F β (args.getD i .χ) (vs.getD i undef)) →
  Calls P g vs w fun e w'=>∃v,e=.returned v∧Below w.heap.size w w'∧bg w' (fG F w w') r v
abbrev Pure (P:Program) (g:FuncId) (args:List AV) (r:AV):Prop:=xJ P g args [] r
def PA (c a b:AV) (k:AV→Prop):Prop :=
 match c with
 |.v (.bool true)=>k a
 |.v (.bool false)=>k b
 |_=>False
def Pt (t:AV) (i:Nat) (k:AV→Prop):Prop :=
 match t with
 |.t vs=>bif Nat.blt i vs.length then k (vs.getD i .χ) else False
 |_=>False
def PC (op:UnOp) (x:AV) (k:AV→Prop):Prop :=
 match op,x with
 |.not,.v (.bool b)=>k (.v (.bool (!b)))
 |.neg,.v (.int kd n)=>∃r,kd.wrap (0-n)=r∧k (.v (.int kd r))
 |_,_=>False
def Qn (op:BinOp) (a b:ByteArray) (k:Value→Prop):Prop :=
 match op with
 |.add=>a.size+b.size≤9223372036854775807∧∃r,a++b=r∧k (.string r)
 |.eql=>∃r:Bool,(a.toList==b.toList)=r∧k (.bool r)
 |.neq=>∃r:Bool,(!(a.toList==b.toList))=r∧k (.bool r)
 |.lss=>∃r:Bool,fX a.toList b.toList=r∧k (.bool r)
 |.leq=>∃r:Bool,(fX a.toList b.toList||a.toList==b.toList)=r∧k (.bool r)
 |.gtr=>∃r:Bool,(!(fX a.toList b.toList||a.toList==b.toList))=r∧k (.bool r)
 |.geq=>∃r:Bool,(!Op.bytesLess a.toList b.toList)=r∧k (.bool r)
 |_=>False
def Pq (P:Program) (T:TT) (op:BinOp) (t:Nat) (x y:AV) (k:AV→Prop):Prop :=
 match x,y with
 |.v (.int kx a),.v (.int ky b)=>LN op kx ky a b fun v=>k (.v v)
 |.v (.string a),.v (.string b)=>Qn op a b fun v=>k (.v v)
 |.v (.bool a),.v (.bool b) =>
  match T t with
  |some i=>match i.kind with
   |.bool=>match op with
    |.eql=>k (.v (.bool (a==b)))
    |.neq=>k (.v (.bool (!(a==b))))
    |_=>False
   |_=>False
  |none=>False
 |.s rows,.v (.slice none 0 0) =>
  match T t with
  |some i=>match i.kind with
   |.slice _=>match op with
    |.eql=>∀b:Bool,(b=true→rows=[])→k (.v (.bool b))
    |.neq=>∀b:Bool,(b=false→rows=[])→k (.v (.bool b))
    |_=>False
   |_=>False
  |none=>False
 |.a xs,.a ys=>∃ks,SH P t ks=true∧bif sP ks xs ys then
   match op with
   |.eql=>k (.v (.bool (eE xs ys)))
   |.neq=>k (.v (.bool (!eE xs ys)))
   |_=>False
  else False
 |_,_=>False
def LM {c:Bool} {p:Prop} (hc:c=true) (h:p):bif c then p else False:=by rw [hc];exact h
def lv (b:UInt8):List AV:=[.v (.int .u8 (b.toNat:Int))]
def Ps (T:TT) (src dst:Nat) (x:AV) (k:AV→Prop):Prop :=
 match T src,T dst with
 |some i,some j =>
  match j.kind,x with
  |.int kd,.v (.int _ n)=>∃r,kd.wrap n=r∧k (.v (.int kd r))
  |.str,.v (.string s)=>k (.v (.string s))
  |.slice e,.v (.string s) =>
   match T e with
   |some je=>match je.kind with
    |.int .u8=>s.size≤maxLen∧k (.s (s.data.toList.map lv))
    |_=>False
   |none=>False
  |.str,.s rows =>
   match i.kind with
   |.slice e=>match T e with
    |some je=>match je.kind with
     |.int .u8=>∃l:List UInt8,rows=l.map lv∧k (.v (.string ⟨l.toArray⟩))
     |_=>False
    |none=>False
   |_=>False
  |_,_=>False
 |_,_=>False
def LG (x:AV) (off:Nat) (k:AV→Prop):Prop :=
 match x with
 |.b id o=>k (.b id (o+off))
 |.p cells=>k (.p (cells.drop off))
 |.e id K i j=>k (.e id K i (j+off))
 |_=>False
def Pu (T:TT) (t:Nat) (x:AV) (f:Nat) (k:AV→Prop):Prop :=
 match T t with
 |some i=>match i.kind with
  |.struct fs=>match fs[f]? with
   |some (off,ty)=>match T ty with
    |some j=>bif aH j.cells 0 then False else LG x off k
    |none=>False
   |none=>False
  |_=>False
 |none=>False
def BO (i:TI) (cells:List AV) (off:Nat) (k:AV→Prop):Prop :=
 bif p0 (off+i.cells) cells.length then
  bif p7 i.kind then ∃c,(cells.drop off).take i.cells=c∧k (.a c)
  else bif aH i.cells 1 then ∃x,cells[off]?=some x∧k x else False
 else False
def Ch (T:TT) (t:Nat) (x:AV) (H:Hp) (k:AV→Prop):Prop :=
 match T t with
 |some i=>match x with
  |.b id off=>match dH id H with
   |some (.box cells)=>BO i cells off k
   |_=>False
  |.p cells=>BO i cells 0 k
  |.e id K m j=>match dH id H with
   |some (.own _ K' rows)=>∃row,rows[m]?=some row∧K=K'∧BO i row j k
   |_=>False
  |_=>False
 |none=>False
def Pw (T:TT) (t:Nat) (x i:AV) (H:Hp) (k:AV→Prop):Prop :=
 match T t with
 |some ti=>match ti.kind with
  |.slice e=>match T e with
   |some j=>match x,i with
    |.s rows,.v (.int _ n)=>∃m:Nat,n=(m:Int)∧∃row,rows[m]?=some row∧(bif aH row.length j.cells then k (.p row) else False)
    |.o id,.v (.int _ n)=>match dH id H with
     |some (.own _ K rows)=>bif aH K j.cells then ∃m:Nat,n=(m:Int)∧m<rows.length∧k (.e id K m 0) else False
     |_=>False
    |.w id Kw d,.v (.int _ n)=>match dH id H with
     |some (.own _ K rows)=>bif aH K j.cells&&aH Kw K then ∃m:Nat,n=(m:Int)∧d+m<rows.length∧k (.e id K (d+m) 0) else False
     |_=>False
    |_,_=>False
   |none=>False
  |.arr len e=>match T e with
   |some j=>match x,i with
    |.b id off,.v (.int _ n)=>∃m:Nat,n=(m:Int)∧m<len∧k (.b id (off+m*j.cells))
    |.p cells,.v (.int _ n)=>∃m:Nat,n=(m:Int)∧m<len∧k (.p (cells.drop (m*j.cells)))
    |_,_=>False
   |none=>False
  |_=>False
 |none=>False
def Pv (T:TT) (t:Nat) (x i:AV) (k:AV→Prop):Prop :=
 match T t with
 |some ti=>match ti.kind,x,i with
  |.str,.v (.string s),.v (.int _ n)=>∃m:Nat,n=(m:Int)∧∃b:UInt8,s.data.toList[m]?=some b∧k (.v (.int .u8 (b.toNat:Int)))
  |.arr len e,.a cells,.v (.int _ n)=>match T e with
   |some j=>bif p7 j.kind then False else bif aH j.cells 1 then ∃m:Nat,n=(m:Int)∧m<len∧∃c,cells[m]?=some c∧k c else False
   |none=>False
  |_,_,_=>False
 |none=>False
def sC (x:Option AV) (d:Nat) (k:Nat→Prop):Prop :=
 match x with
 |none=>k d
 |some (.v (.int _ n))=>∃m:Nat,n=(m:Int)∧k m
 |_=>False
def PB (T:TT) (t:Nat) (x:AV) (lo hi mx:Option AV) (H:Hp) (k:AV→Prop):Prop :=
 match T t,mx with
 |some ti,none=>match ti.kind,x with
  |.slice e,.s rows=>match T e with
   |some j=>sC lo 0 fun l=>sC hi rows.length fun h=>l≤h∧h≤rows.length∧(∀i,i<rows.length→(rows.getD i []).length=j.cells)∧∃r,(rows.take h).drop l=r∧k (.s r)
   |none=>False
  |.slice e,.o id=>match T e with
   |some j=>match dH id H,hi with
    |some (.own _ K rows),none=>bif aH K j.cells then sC lo 0 fun l=>l≤rows.length∧k (.w id K l) else False
    |_,_=>False
   |none=>False
  |.slice e,.w id Kw d=>match T e with
   |some j=>match dH id H,hi with
    |some (.own _ K rows),none=>bif aH K j.cells&&aH Kw K then sC lo 0 fun l=>d+l≤rows.length∧k (.w id K (d+l)) else False
    |_,_=>False
   |none=>False
  |.slice e,.v (.slice none 0 0)=>match T e with
   |some _=>sC lo 0 fun l=>sC hi 0 fun h=>l≤h∧h≤0∧k (.v (.slice none 0 0))
   |none=>False
  |.str,.v (.string s)=>sC lo 0 fun l=>sC hi s.size fun h=>l≤h∧h≤s.size∧∃r,s.extract l h=r∧k (.v (.string r))
  |_,_=>False
 |_,_=>False
def FL (T:TT) (t:Nat) (x:AV) (lo hi:Option AV) (mx:AV) (k:AV→Prop):Prop :=
 match T t,lo,hi,x,mx with
 |some ti,none,some (.v (.int _ nh)),.s rows,.v (.int _ nm)=>match ti.kind with
  |.slice e=>match T e with
   |some j=>∃h q:Nat,nh=(h:Int)∧nm=(q:Int)∧h≤q∧q≤rows.length∧(∀i,i<rows.length→(rows.getD i []).length=j.cells)∧∃r,rows.take h=r∧k (.s r)
   |none=>False
  |_=>False
 |_,_,_,_,_=>False
def bu:AV→List AV
 |.a cs=>cs
 |x=>[x]
def jm:AV→Bool
 |.a _=>true
 |x=>uY x
def A3 (place:Nat→Option (Nat×Nat)):List (Nat×AV)→List AV→Option (List AV)
 |[],cells=>some cells
 |(i,x)::r,cells =>
  match place i with
  |none=>none
  |some (off,size) =>
   bif jm x&&(aH (bu x).length size&&p0 (off+size) cells.length)
   then A3 place r (cells.take off++(bu x++cells.drop (off+size))) else none
def Fw (T:TT) (fs:List (Nat×Nat)) (i:Nat):Option (Nat×Nat) :=
 match fs[i]? with
 |some (off,ty)=>match T ty with
  |some j=>some (off,j.cells)
  |none=>none
 |none=>none
def Hq (T:TT):List (Nat×Nat)→Bool
 |[]=>true
 |(_,ty)::r=>(T ty).isSome&&Hq T r
def Pr (T:TT) (t:Nat) (parts:List (Nat×AV)) (k:AV→Prop):Prop :=
 match T t with
 |some i =>
  match cr i.zero with
  |.a zs=>match i.kind with
   |.struct fs=>bif Hq T fs then
     match A3 (Fw T fs) parts zs with
     |some cells=>k (.a cells)
     |none=>False
    else False
   |.arr _ e=>match T e with
    |some j=>match A3 (fun i=>some (i*j.cells,j.cells)) parts zs with
     |some cells=>k (.a cells)
     |none=>False
    |none=>False
   |_=>False
  |_=>False
 |none=>False
def rowsOf (size:Nat):Nat→List (Nat×AV)→Option (List (List AV))
 |_,[]=>some []
 |n,(i,x)::r=>bif aH i n&&(jm x&&aH (bu x).length size) then (rowsOf size (n+1) r).map (bu x::·) else none
def zZ (T:TT) (t len:Nat) (parts:List (Nat×AV)) (k:List (List AV)→Nat→Nat→Prop):Prop :=
 match T t with
 |some i=>match i.kind with
  |.slice e=>match T e with
   |some j=>match rowsOf j.cells 0 parts with
    |some rows=>bif aH parts.length len&&(p0 (len*j.cells) 16777216&&!(aH j.cells 0)) then k rows e j.cells else False
    |none=>False
   |none=>False
  |_=>False
 |none=>False
def fp:AV→Bool
 |.v _|.s _|.p _|.z=>true
 |_=>false
def kg:AV→Bool
 |.a cs|.t cs=>cs.all fp
 |.c _ fs cs=>fs.all fp&&cs.all fp
 |x=>fp x
def Pz (x:AV) (k:AV→Prop):Prop :=
 match x with
 |.b id off=>k (.b id off)
 |.p cells=>k (.p cells)
 |.e id K i j=>k (.e id K i j)
 |.c (.func g) fs cs=>k (.c (.func g) fs cs)
 |_=>False
def lG (T:TT) (t:Nat) (x:AV) (H:Hp) (k:AV→Prop):Prop :=
 match T t with
 |some i=>match i.kind,x with
  |.slice _,.s rows=>∃n:Nat,rows.length=n∧(n≤maxLen→k (.v (.int .i64 (n:Int))))
  |.slice _,.v (.slice none 0 0)=>k (.v (.int .i64 0))
  |.slice _,.o id=>match dH id H with
   |some (.own _ _ rows)=>∃n:Nat,rows.length=n∧(n≤maxLen→k (.v (.int .i64 (n:Int))))
   |_=>False
  |.slice _,.w id _ d=>match dH id H with
   |some (.own _ _ rows)=>∃n:Nat,rows.length-d=n∧(n≤maxLen→k (.v (.int .i64 (n:Int))))
   |_=>False
  |.map _ _,.m id=>match dH id H with
   |some (.mp _ rows)=>∃n:Nat,rows.length=n∧(n≤140737488355328→k (.v (.int .i64 (n:Int))))
   |_=>False
  |.str,.v (.string s)=>∃n:Nat,s.size=n∧k (.v (.int .i64 (n:Int)))
  |.arr n _,_=>k (.v (.int .i64 (n:Int)))
  |_,_=>False
 |none=>False
def Kc (mn:Bool) (xs:List AV) (k:AV→Prop):Prop :=
 match xs with
 |[.v (.int kx a),.v (.int ky b)]=>bif kx==ky then ∃r,(if mn then min a b else max a b)=r∧k (.v (.int kx r)) else False
 |_=>False
def Ka (T:TT) (b:Builtin) (ts:List Nat) (xs:List AV) (H:Hp) (k:AV→Prop):Prop :=
 match b,ts,xs with
 |.len,[t],[x]=>lG T t x H k
 |.cap,[t],[.v (.slice none 0 0)]=>match T t with
  |some i=>match i.kind with
   |.slice _=>k (.v (.int .i64 0))
   |_=>False
  |none=>False
 |.min,_,xs=>Kc true xs k
 |.max,_,xs=>Kc false xs k
 |_,_,_=>False
def Kb (P:Program) (f:AV) (xs:List AV) (H:Hp) (k:AV→Prop):Prop :=
 match f with
 |.c (.func g) fs cs=>∃r,xJ P g (fs++(xs++cs)) H r∧k r
 |_=>False
def nz:AV→AV
 |.v (.slice none 0 0)=>.s []
 |x=>x
def Py (T:TT) (t:Nat) (l c:AV) (k:AV→Prop):Prop :=
 match T t,l,c with
 |some i,.v (.int _ nl),.v (.int _ nc)=>match i.kind with
  |.slice e=>match T e with
   |some j=>bif jm (cr j.zero)&&(aH (bu (cr j.zero)).length j.cells&&(bu (cr j.zero)).all fp) then
     ∃n m:Nat,nl=(n:Int)∧nc=(m:Int)∧n≤m∧m≤140737488355328∧m*j.bytes≤140737488355328∧∃R,ij n ((bu (cr j.zero)).map nz)=R∧k (.s R)
    else False
   |none=>False
  |_=>False
 |_,_,_=>False
def zB (ag:Bool) (y:AV):Option (List AV) :=
 match ag,y with
 |true,.a cs=>bif cs.all fp then some cs else none
 |true,_=>none
 |false,.a _=>none
 |false,.c fn [] []=>some [.c fn [] []]
 |false,x=>bif fp x then some [x] else none
def Px (T:TT) (t:Nat) (m i:AV) (c:Bool) (H:Hp) (k:AV→Prop):Prop :=
 match T t with
 |some ti=>match ti.kind with
  |.map kt e=>match T kt,T e with
   |some ik,some ie=>match ik.kind,m,i with
    |.int .i64,.m id,.v (.int .i64 n)=>match dH id H,zB (p7 ie.kind) (cr ie.zero) with
     |some (.mp ag rows),some zc=>bif ag==p7 ie.kind then ∃r,(bn n rows).getD (zc.map nz)=r∧(bif c then ∃b,(bn n rows).isSome=b∧k (.t [sa ag r,.v (.bool b)]) else k (sa ag r)) else False
     |_,_=>False
    |_,_,_=>False
   |_,_=>False
  |_=>False
 |none=>False
def mZ (P:Program) (T:TT) (o:Oper) (ρ:Operand→AV) (H:Hp) (k:AV→Prop):Prop :=
 match o.op with
 |.move x=>k (ρ x)
 |.assign x=>k (ρ x)
 |.pick c a b=>PA (ρ c) (ρ a) (ρ b) k
 |.extract t i=>Pt (ρ t) i k
 |.unOp op _ x=>PC op (ρ x) k
 |.binOp op t x y _=>Pq P T op t (ρ x) (ρ y) k
 |.convert src dst x=>Ps T src dst (ρ x) k
 |.fieldAddr t x f=>Pu T t (ρ x) f k
 |.load t x=>Ch T t (ρ x) H k
 |.indexAddr t x i=>Pw T t (ρ x) (ρ i) H k
 |.index t x i=>Pv T t (ρ x) (ρ i) k
 |.slice t x lo hi mx=>match mx with
  |none=>PB T t (ρ x) (lo.map ρ) (hi.map ρ) none H k
  |some m=>FL T t (ρ x) (lo.map ρ) (hi.map ρ) (ρ m) k
 |.build t parts=>Pr T t (parts.toList.map fun q=>(q.1,ρ q.2)) k
 |.buildSlice t len parts=>zZ T t len (parts.toList.map fun q=>(q.1,ρ q.2)) fun rows _ _=>bif rows.all (fun r=>r.all fp) then k (.s (rows.map fun r=>r.map nz)) else False
 |.makeFunc fn fs cs=>k (.c fn (fs.toList.map ρ) (cs.toList.map ρ))
 |.nilCheck x=>Pz (ρ x) k
 |.lookup t x i c=>Px T t (ρ x) (ρ i) c H k
 |.makeSlice t l c=>Py T t (ρ l) (ρ c) k
 |.call c=>match c.callee with
  |.builtin b=>Ka T b c.argTypes.toList (c.args.toList.map ρ) H k
  |.value f=>Kb P (ρ f) (c.args.toList.map ρ) H k
  |.invoke _ _=>False
 |_=>False
end
section
open Go.RowKit
variable [M:bM] [G:cK]
section
variable {P:Program} {T:TT} {w:World} {F:Nat→Prop} {β:Nat→Value} {H:Hp} {k:AV→Prop}
def Rd.here {x:AV} {u:Value} (h:Rd w F β x u):Rd w (fG F w w) β x u:=h.frame (fun _ _=>rfl) fun _ h=>.inl h
def cz (P:Program) (s:Sem Value) (w:World) (F:Nat→Prop) (β:Nat→Value) (k:AV→Prop):Prop :=
 ∃v w' r,s.run P w=.ok v w'∧Below w.heap.size w w'∧k r∧Rd w' (fG F w w') β r v
def cz.mk {s:Sem Value} {v:Value} {r:AV} (hr:s.run P w=.ok v w) (hk:k r) (hv:Rd w F β r v):cz P s w F β k :=
 ⟨v,w,r,hr,Below.refl _ _,hk,hv.here⟩
def vL (P:Program) (s:Sem Value) (w:World) (F:Nat→Prop) (β:Nat→Value) (k:AV→Prop):Prop :=
 ∃v r,s.run P w=.ok v w∧k r∧Rd w F β r v
def vL.mk {s:Sem Value} {v:Value} {r:AV} (hr:s.run P w=.ok v w) (hk:k r) (hv:Rd w F β r v):vL P s w F β k:=⟨v,r,hr,hk,hv⟩
def vL.gives {s:Sem Value} (h:vL P s w F β k):cz P s w F β k:=by
 obtain ⟨v,r,hr,hk,hv⟩:=h;exact cz.mk hr hk hv
def cz.out {s:Sem Value} (h:cz P s w F β k):uu P (do pure (.value (←s))) w fun v w'=>∃r,k r∧Rd w' (fG F w w') β r v:=by
 obtain ⟨v,w',r,hr,hb,hk,hv⟩:=h;exact .inl ⟨v,w',by simp [hr],hb,r,hk,hv⟩
def ag2 {c a b:AV} {vc va vb:Value} (hc:Rd w F β c vc) (ha:Rd w F β a va) (hb:Rd w F β b vb) (h:PA c a b k) :
  uu P (do pure (.value (if ←asBool vc then va else vb))) w fun v w'=>∃r,k r∧Rd w' (fG F w w') β r v:=by
 unfold PA at h;split at h
 ·cases hc.bN;exact .inl ⟨va,w,by simp [asBool],Below.refl _ _,_,h,ha.here⟩
 ·cases hc.bN;exact .inl ⟨vb,w,by simp [asBool],Below.refl _ _,_,h,hb.here⟩
 ·cases h
def agT {t:AV} {i:Nat} {vt:Value} (ht:Rd w F β t vt) (h:Pt t i k):cz P (alr vt i) w F β k:=by
 unfold Pt at h;split at h
 ·rename_i vs;obtain ⟨Φ,hk⟩:=cond_prop h
  have Φ:i<vs.length:=by simpa [Nat.blt_eq] using Φ
  obtain ⟨us,rfl,hs,hu⟩:=ht.CC;refine cz.mk (v:=us.getD i undef) ?_ hk (hu i Φ)
  have hi:i<us.size:=by omega
  simp [alr,hi]
 ·cases h
def ag5 {op:UnOp} {x:AV} {vx:Value} (hx:Rd w F β x vx) (h:PC op x k):cz P (Op.unary op vx) w F β k:=by
 unfold PC at h;split at h
 ·cases hx.bN;exact cz.mk (by simp [Op.unary]) h (.i (.v (.inl rfl)))
 ·cases hx.bN;obtain ⟨r,rfl,hk⟩:=h;exact cz.mk (by simp [Op.unary,um]) hk (.i (.v (.inl rfl)))
 ·cases h
def ah0 {op:BinOp} {a b:ByteArray} {k:Value→Prop} (h:Qn op a b k) (t:TypeId) :
  ∃v,(binOp op t (.string a) (.string b)).run P w=.ok v w∧v.oneCell'=true∧k v:=by
 cases op<;>simp only [Qn] at h
 case add =>
  obtain ⟨h1,r,rfl,hk⟩:=h
  have:¬((a.size+b.size:Nat):Int)>IntKind.i64.max:=by
   have:IntKind.i64.max=9223372036854775807:=rfl;omega
  exact ⟨_,by simp only [binOp,Op.stringOp];rw [if_neg this];rfl,rfl,hk⟩
 all_goals first|exact h.elim|(obtain ⟨r,rfl,h⟩:=h;exact ⟨_,by simp [binOp,Op.stringOp],rfl,h⟩)
def zY {op:BinOp} {t:TypeId} {x y:Operand} {u v:Value} (hu:u.oneCell'=true) (hn:u≠.nilIface):(eqGuard op t x y u v).run P w=.ok () w:=by
 have hc:eqGuard op t x y u v=if !(op matches .eql|.neq) then (pure ():Sem Unit) else pure ():=by
  unfold eqGuard
  cases u<;>first|(simp [alq] at hu;done)|exact absurd rfl hn|rfl
 rw [hc];split<;>rfl
def run_equalIn_bool (d:Nat) {t:TypeId} (hd:P.underlying t=some .bool) (a b:Bool):(vJ (d+1) t (.bool a) (.bool b)).run P w=.ok (a==b) w:=by
 simp [vJ,run_underlying hd]
def run_equalIn_slice_nil (d:Nat) {t e:TypeId} (hd:P.underlying t=some (.slice e)) (a:Option Addr) (n c:Nat):(vJ (d+1) t (.slice a n c) (.slice none 0 0)).run P w=.ok a.isNone w:=by
 cases a<;>simp [vJ,run_underlying hd]
def agL {op:BinOp} {t:Nat} {x y:AV} {vx vy:Value} (hT:bO P T) (hx:Rd w F β x vx) (hy:Rd w F β y vy) (ox oy:Operand) (h:Pq P T op t x y k) :
  cz P (do eqGuard op t ox oy vx vy;binOp op t vx vy) w F β k:=by
 unfold Pq at h;split at h
 ·cases hx.bN;cases hy.bN;obtain ⟨v,hr,h1,hk⟩:=aad (P:=P) h t w;exact cz.mk (v:=v) (by simp [zY (u:=.int _ _) rfl (by simp),hr]) hk (.i (.v (.inl h1)))
 ·cases hx.bN;cases hy.bN;obtain ⟨v,hr,h1,hk⟩:=ah0 (P:=P) (w:=w) h t;exact cz.mk (v:=v) (by simp [zY (u:=.string _) rfl (by simp),hr]) hk (.i (.v (.inl h1)))
 ·cases hx.bN;cases hy.bN;rename_i a b;split at h
  ·rename_i i hi;obtain ⟨d,hd,Ui⟩:=(hT _ _ hi).oa;split at h
   ·rename_i abN;rw [abN] at Ui
    have bH:P.underlying t=some .bool:=by cases d<;>simp [sA] at Ui;exact hd
    have he:(Op.equal t (.bool a) (.bool b)).run P w=.ok (a==b) w:=by
     exact run_equalIn_bool 9999 bH a b
    split at h
    ·exact cz.mk (by simp [zY (u:=.bool _) rfl (by simp),binOp,he]) h (.i (.v (.inl rfl)))
    ·exact cz.mk (by simp [zY (u:=.bool _) rfl (by simp),binOp,he]) h (.i (.v (.inl rfl)))
    ·cases h
   ·cases h
  ·cases h
 ·rename_i rows;cases hy.bN;split at h
  ·rename_i i hi;split at h
   ·rename_i e he;have hu:=(hT _ _ hi).slice he
    obtain ⟨a,n,c,rfl,ha⟩:∃a n c,vx=.slice a n c∧(a=none→rows=[]):=by
     have hs:=hx.oP;cases hs with
     |s0=>exact ⟨_,_,_,rfl,fun _=>rfl⟩
     |s=>exact ⟨_,_,_,rfl,fun h=>by cases h⟩
    have fw:(Op.equal t (.slice a n c) (.slice none 0 0)).run P w=.ok a.isNone w:=run_equalIn_slice_nil 9999 hu a n c;have hg:=zY (P:=P) (w:=w) (op:=op) (t:=t) (x:=ox) (y:=oy) (u:=.slice a n c) (v:=.slice none 0 0) rfl (by simp);split at h
    ·exact cz.mk (by simp [zY (u:=.slice a n c) rfl (by simp),binOp,fw]) (h a.isNone fun hn=>ha (by cases a<;>first|rfl|cases hn)) (.i (.v (.inl rfl)))
    ·exact cz.mk (by simp [zY (u:=.slice a n c) rfl (by simp),binOp,fw]) (h (!a.isNone) fun hn=>ha (by cases a<;>first|rfl|cases hn)) (.i (.v (.inl rfl)))
    ·cases h
   ·cases h
  ·cases h
 ·rename_i xs ys;obtain ⟨ks,I5,h⟩:=h;obtain ⟨jj,h⟩:=cond_prop h;obtain ⟨us,rfl,hs,_,hu⟩:=hx.qY;obtain ⟨vs,rfl,ew,_,hv⟩:=hy.qY;simp only [SH,bE,ug,oV] at I5;obtain ⟨Ua,I5⟩:=I5
  have cell:∀{zs:List AV} {ws:Array Value},ws.size=zs.length→(∀i,i<zs.length→Rd w F β (zs.getD i .χ) (ws.getD i undef))→∀i z,zs[i]?=some (.v z)→ws[0+i]?=some z:=by
   intro zs ws aX fB i z hz;obtain ⟨hi,iS⟩:=fh.1 hz;have:=fB i hi;rw [fW,hz,AF] at this;have e:=this.bN;rw [jL,gv (by omega)];rw [lh,gv (by omega),AF] at e;rw [e]
  have heq:(vJ 10000 t (.agg us) (.agg vs)).run P w=.ok (eE xs ys) w:=by
   rcases I5 with ⟨bV,ac4,Ev⟩|wo
   ·have zh:P.underlying t=some (.struct (P.fieldsOf t)):=by
     unfold ZL;cases hd:P.underlying t with
     |none=>rw [hd] at bV;cases bV
     |some d =>
      rw [hd] at bV
      cases d<;>first|rfl|cases bV
    rw [run_equalIn_struct w 9999 t us vs zh ac4];exact Xe (P:=P) (w:=w) (us:=us) (vs:=vs) (d:=9997) _ ks xs ys 0 Ev jj (cell hs hu) (cell ew hv)
   ·exact agE (d:=9998) wo jj (cell hs hu) (cell ew hv)
  split at h
  ·exact cz.mk (by simp [run_eqGuard_agg w _ t _ _ us vs Ua,run_eql_struct,heq]) h (.i (.v (.inl rfl)))
  ·exact cz.mk (by simp [run_eqGuard_agg w _ t _ _ us vs Ua,run_neq_struct,heq]) h (.i (.v (.inl rfl)))
  ·cases h
 ·cases h
def RP {x:AV} {off:Nat} {vx:Value} (hx:Rd w F β x vx) (h:LG x off k) :
  ∃b o r,vx=.pointer (some ⟨b,o,none⟩)∧k r∧Rd w F β r (.pointer (some ⟨b,o+off,none⟩)):=by
 unfold LG at h;split at h
 ·obtain ⟨eX,hb,rfl⟩:=hx.mz;exact ⟨_,_,_,rfl,h,.b hb⟩
 ·rename_i cells;have hp:=hx.B0;cases hp with
  |p hb eO fb fB =>
   rename_i b o u;refine ⟨_,_,_,rfl,h,.i ?_⟩;refine .p (u:=fun j=>u (off+j)) hb (fun j hj=>?_) (fun j hj=>?_) (fun j hj=>?_)
   ·simp at hj;rw [G7];exact eO _ (by omega)
   ·simp at hj;exact fb _ (by omega)
   ·simp at hj;have:=fB (off+j) (by omega);simpa [aV,js] using this
 ·obtain ⟨g,n,c,hb,rfl⟩:=hx.AY;refine ⟨_,_,_,rfl,h,?_⟩;rw [G7];exact .e hb
 ·cases h
def agU {t f:Nat} {x:AV} {vx:Value} (hT:bO P T) (hx:Rd w F β x vx) (h:Pu T t x f k):cz P (als t vx f) w F β k:=by
 unfold Pu at h;split at h
 ·rename_i i hi;split at h
  ·rename_i fs Ev;split at h
   ·rename_i off ty hf;split at h
    ·rename_i j hj;cases hz:aH j.cells 0 with
     |true=>rw [hz] at h;cases h
     |false =>
      rw [hz] at h;obtain ⟨b,o,r,rfl,hk,hr⟩:=RP hx h;obtain ⟨fields,hu,hm⟩:=(hT _ _ hi).struct Ev
      have hff:∃fd,fields[f]?=some fd∧fd.offset=off∧fd.type=ty:=by
       rw [←hm] at hf;simp only [uj,Option.map_eq_some_iff] at hf;obtain ⟨fd,h1,h2⟩:=hf;cases h2;exact ⟨fd,by simpa using h1,rfl,rfl⟩
      obtain ⟨fd,h1,rfl,rfl⟩:=hff;have aX:=(hT _ _ hj).kZ w
      have aP:j.cells≠0:=by
       intro h0;rw [h0] at hz;cases hz
      refine cz.mk (v:=.pointer (some ⟨b,o+fd.offset,none⟩)) ?_ hk hr;simp [als,run_underlying hu,h1,G1,fieldPlace,aX,aP,gg]
    ·cases h
   ·cases h
  ·cases h
 ·cases h
def Oy {t:Nat} {i:TI} {cells:List AV} {off:Nat} (hi:gz P t i) (h:BO i cells off k) {b base:Nat} {u:Nat→Value}
  (eO:∀j,j<cells.length→w.cell? ⟨b,base+j,none⟩=some (u j)) (fb:∀j,j<cells.length→(u j).oneCell'=true)
  (fB:∀j,j<cells.length→Rd w F β (cells.getD j .χ) (u j)):vL P (GY t (.pointer (some ⟨b,base+off,none⟩))) w F β k:=by
 unfold BO at h;obtain ⟨hle,h⟩:=cond_prop h
 have hle:off+i.cells≤cells.length:=by simpa using hle
 have sW:=hi.J_ w;have aX:=hi.kZ w;cases hg:p7 i.kind with
 |true =>
  rw [hg] at h sW
  have hl:=run_loadCells (P:=P) w ⟨b,base+off,none⟩ i.cells (fun j=>u (off+j)) (fun j hj=>by
   rw [gg,G7];exact eO _ (by omega))
  obtain ⟨c,rfl,h⟩:=h;refine vL.mk (v:=.agg ((List.range i.cells).map fun j=>u (off+j)).toArray) ?_ h ?_
  ·simp [GY,G1,loadVar,sW,aX,hl]
  ·have hlen:((cells.drop off).take i.cells).length=i.cells:=by simp;omega
   refine .a (by simp;omega) (fun j hj=>?_) fun j hj=>?_
   ·rw [hlen] at hj;simpa [xl,hj] using fb (off+j) (by omega)
   ·rw [hlen] at hj;have:=fB (off+j) (by omega);simpa [xl,hj,aV,gk,js] using this
 |false =>
  rw [hg] at h sW;obtain ⟨h1,h⟩:=cond_prop h;have h1:i.cells=1:=cT h1;obtain ⟨x,hx,h⟩:=h;have UM:=fB off (by omega);rw [fW,hx,AF] at UM;refine vL.mk (v:=u off) ?_ h UM;simp [GY,G1,loadVar,sW,eO off (by omega)]
def wj {α:Type} {l:List α} {i:Nat} {x d:α} (h:l[i]?=some x):l.getD i d=x:=by simp [aV,h]
def E8 {α:Type} {l:List α} {i:Nat} {x:α} (h:l[i]?=some x):i<l.length:=(fh.1 h).1
def JC {id E K:Nat} {rows:List (List AV)} (h:Chunk.holds w F β id (.own E K rows)) {g n c:Nat} (ah:β id=.slice (some ⟨g,0,none⟩) n c) :
  rows.length=n∧n≤c∧c≤maxLen∧∃u:Nat→Nat→Value,∀m j,m<rows.length→j<K→w.cell? ⟨g,m*K+j,none⟩=some (u m j)∧(u m j).oneCell'=true∧bg w F ((rows.getD m []).getD j .χ) (u m j):=by
 rcases h with ⟨rfl,a,hv⟩|⟨g',cap,cur,hv,_,hg,hn,hm,hs,hk,hr⟩
 ·rw [hv] at ah;cases ah;exact ⟨rfl,bG _,Nat.zero_le _,fun _ _=>undef,fun m j hm=>by simp at hm⟩
 ·rw [hv] at ah;cases ah;refine ⟨rfl,hn,hm,fun m j=>cur.getD (m*K+j) undef,fun m j bW hj=>⟨?_,(hr m j bW hj).1,(hr m j bW hj).2⟩⟩
  have Φ:m*K+j<rows.length*K:=by
   calc m*K+j<m*K+K:=by omega
    _=(m+1)*K:=by rw [bP];omega
    _≤rows.length*K:=cG _ bW
  rw [cell_of_row w g (m*K+j) cur E (0,0) hg]
  have hc:rows.length*K≤cur.size:=by rw [hs];exact cG _ hn
  have h2:m*K+j<cur.size:=by omega
  simp [h2]
def V5 {id E K:Nat} {rows:List (List AV)} (h:Chunk.holds w F β id (.own E K rows)):∀i,i<rows.length→(rows.getD i []).length=K:=by
 rcases h with ⟨rfl,_⟩|⟨_,_,_,_,_,_,_,_,_,hk,_⟩
 ·intro i hi;simp at hi
 ·exact hk
def tE {id E K:Nat} {rows:List (List AV)} (h:Chunk.holds w F β id (.own E K rows)):(rows=[]∧∃a,β id=.slice a 0 0)∨∃g cap,β id=.slice (some ⟨g,0,none⟩) rows.length cap∧cap≤maxLen∧rows.length≤cap:=by
 rcases h with h|⟨g,cap,cur,hv,_,hg,hn,hm,_⟩
 ·exact .inl h
 ·exact .inr ⟨g,cap,hv,hm,hn⟩
def Xh {t:Nat} {x:AV} {vx:Value} (hT:bO P T) (hI:Inv w F β H) (hx:Rd w F β x vx) (h:Ch T t x H k):vL P (GY t vx) w F β k:=by
 unfold Ch at h;split at h
 ·rename_i i hi;split at h
  ·rename_i id off;split at h
   ·rename_i cells hc;obtain ⟨b,c,e,ah,hh,hs,h1,hr⟩:=hI.holds _ _ (eZ hc);obtain ⟨eX,hb,rfl⟩:=hx.mz;rw [ah] at hb;cases hb
    have:=Oy (hT _ _ hi) h (b:=b) (base:=0) (u:=fun j=>c.getD j undef) (fun j hj=>by
     rw [cell_of_row w b (0+j) c e (0,0) hh,jL]
     have:j<c.size:=by omega
     simp [this]) h1 hr
    simpa using this
   ·cases h
  ·rename_i cells;have hp:=hx.B0;cases hp with
   |p hb eO fb fB=>exact Oy (off:=0) (hT _ _ hi) h eO fb fun j hj=>.i (fB j hj)
  ·rename_i id K m j;split at h
   ·rename_i E' K' rows hc;obtain ⟨row,jE,rfl,h⟩:=h;obtain ⟨g,n,c,ah,rfl⟩:=hx.AY;have hh:=hI.holds _ _ (eZ hc);obtain ⟨_,_,_,u,hu⟩:=JC hh ah;have hm:=E8 jE
    have nM:row.length=K:=by
     have:=V5 hh m hm;rwa [wj jE] at this
    rw [←wj (d:=[]) jE] at h nM;exact Oy (hT _ _ hi) h (b:=g) (base:=m*K) (u:=u m) (fun j hj=>(hu m j hm (by omega)).1) (fun j hj=>(hu m j hm (by omega)).2.1)
     fun j hj=>.i (hu m j hm (by omega)).2.2
   ·cases h
  ·cases h
 ·cases h
def agY {t:Nat} {x:AV} {vx:Value} (hT:bO P T) (hI:Inv w F β H) (hx:Rd w F β x vx) (h:Ch T t x H k):cz P (GY t vx) w F β k :=
 (Xh hT hI hx h).gives
def bg.tT {rows:List (List AV)} {u:Value} (h:bg w F (.s rows) u):(rows=[]∧∃a,u=.slice a 0 0)∨∃(b off c K:Nat) (v:Nat→Nat→Value),F b∧rows.length≤c∧c≤maxLen∧u=.slice (some ⟨b,off,none⟩) rows.length c ∧
  (∀i,i<rows.length→(rows.getD i []).length=K)∧∀i j,i<rows.length→j<K→w.cell? ⟨b,off+(i*K+j),none⟩=some (v i j)∧(v i j).oneCell'=true∧bg w F ((rows.getD i []).getD j .χ) (v i j):=by
 cases h with
 |s0=>exact .inl ⟨rfl,_,rfl⟩
 |s hb hc hm hk eO fb fB=>exact .inr ⟨_,_,_,_,_,hb,hc,hm,rfl,hk,fun i j hi hj=>⟨eO i j hi hj,fb i j hi hj,fB i j hi hj⟩⟩
def agV {t:Nat} {x i:AV} {vx vi:Value} (hT:bO P T) (hI:Inv w F β H) (hx:Rd w F β x vx) (hi:Rd w F β i vi) (h:Pw T t x i H k):cz P (Db t vx vi) w F β k:=by
 unfold Pw at h;split at h
 ·rename_i ti jF;split at h
  ·rename_i e he;have hu:=(hT _ _ jF).slice he;split at h
   ·rename_i j hj;have aX:=(hT _ _ hj).kZ w;split at h
    ·rename_i rows kd n;cases hi.bN;obtain ⟨m,rfl,row,jE,h⟩:=h;obtain ⟨nM,hk⟩:=cond_prop h;have nM:row.length=j.cells:=cT nM;have hm:=E8 jE
     rcases hx.oP.tT with ⟨rfl,_⟩|⟨b,off,c,K,v,hb,hc,jC,rfl,hK,hv⟩
     ·simp at hm
     ·have A_:row.length=K:=by have:=hK m hm;rwa [wj jE] at this
      refine cz.mk (v:=.pointer (some ⟨b,off+m*K,none⟩)) ?_ hk (.i ?_)
      ·have:(0:Int)≤(m:Int)∧(m:Int)<(rows.length:Int):=by omega
       simp [Db,asIntOf,run_underlying hu,hm,aX,gg,←nM,A_]
      ·refine .p (u:=v m) hb (fun q hq=>?_) (fun q hq=>(hv m q hm (by omega)).2.1) fun q hq=>?_
       ·rw [G7];exact (hv m q hm (by omega)).1
       ·have:=(hv m q hm (by omega)).2.2;rwa [wj jE] at this
    ·rename_i id kd n;cases hi.bN;split at h
     ·rename_i E' K rows hc;obtain ⟨hK,h⟩:=cond_prop h;have hK:K=j.cells:=cT hK;obtain ⟨m,rfl,hm,hk⟩:=h;obtain ⟨a,n,c,ah,rfl⟩:=hx.jY;have hh:=hI.holds _ _ (eZ hc)
      rcases tE hh with ⟨rfl,_⟩|⟨g,cap,hv,_⟩
      ·simp at hm
      ·rw [ah] at hv;cases hv;refine cz.mk (v:=.pointer (some ⟨g,m*K+0,none⟩)) ?_ hk (.e ah);simp [Db,asIntOf,run_underlying hu,hm,aX,gg,←hK]
     ·cases h
    ·rename_i id Kw d kd n;cases hi.bN;split at h
     ·rename_i E' K rows hc;obtain ⟨hK,h⟩:=cond_prop h;simp only [bE] at hK;have rk:K=j.cells:=cT hK.1;have MP:Kw=K:=cT hK.2;subst MP;obtain ⟨m,rfl,hm,hk⟩:=h;obtain ⟨a,a',n,c,ah,hd,ha,rfl⟩:=hx.xi;have hh:=hI.holds _ _ (eZ hc)
      rcases tE hh with ⟨rfl,_⟩|⟨g,cap,hv,_,iO⟩
      ·simp at hm
      ·rw [ah] at hv;cases hv;have ha:=ha (by omega);subst ha;refine cz.mk (v:=.pointer (some ⟨g,(d+m)*Kw+0,none⟩)) ?_ hk (.e ah)
       have bW:m<rows.length-d:=by omega
       have e:((⟨g,0,none⟩:Addr).add (d*Kw)).add (m*j.cells)=⟨g,(d+m)*Kw+0,none⟩:=by
        rw [←rk,Addr.add_add,gg,←bP];simp
       simp [Db,asIntOf,run_underlying hu,bW,aX,e]
     ·cases h
    ·cases h
   ·cases h
  ·rename_i len e he;have hu:=(hT _ _ jF).arr he;split at h
   ·rename_i j hj;have aX:=(hT _ _ hj).kZ w;split at h
    ·cases hi.bN;obtain ⟨m,rfl,hm,hk⟩:=h;obtain ⟨eX,hb,rfl⟩:=hx.mz;refine cz.mk (v:=.pointer (some ⟨eX,_+m*j.cells,none⟩)) ?_ hk (.b hb);simp [Db,G1,asIntOf,run_underlying hu,hm,aX,gg]
    ·rename_i cells kd n;cases hi.bN;obtain ⟨m,rfl,hm,hk⟩:=h;have hp:=RP (k:=fun r=>r=.p (cells.drop (m*j.cells))) hx rfl;obtain ⟨b,o,r,rfl,rfl,hr⟩:=hp;refine cz.mk (v:=.pointer (some ⟨b,o+m*j.cells,none⟩)) ?_ hk hr;simp [Db,G1,asIntOf,run_underlying hu,hm,aX,gg]
    ·cases h
   ·cases h
  ·cases h
 ·cases h
end
end
section
open Go.RowKit
variable [M:bM] [G:cK]
section
variable {P:Program} {T:TT} {w:World} {F:Nat→Prop} {β:Nat→Value} {H:Hp} {k:AV→Prop}
def agH {src dst:Nat} {i j:TI} (hs:gz P src i) (hd:gz P dst j) {kd kn:IntKind} (hk:j.kind=.int kd) (n:Int) :
  (convert src dst (.int kn n)).run P w=.ok (.int kd (kd.wrap n)) w:=by
 obtain ⟨d,bH,_⟩:=hs.oa;simp [convert,run_underlying bH,run_underlying (hd.int hk),Conv.intToInt]
def aai {l:List UInt8} {b off c:Nat} (hb:F b) (hc:l.length≤c) (hm:c≤maxLen) (h:∀m,m<l.length→w.cell? ⟨b,off+m,none⟩=some (.int .u8 ((l.getD m 0).toNat:Int))) :
  bg w F (.s (l.map lv)) (.slice (some ⟨b,off,none⟩) l.length c):=by
 have hl:(l.map lv).length=l.length:=by simp
 rw [←hl];refine .s (k:=1) (u:=fun m _=>.int .u8 ((l.getD m 0).toNat:Int)) hb (by simpa using hc) hm (fun m hm=>?_) (fun m j hm hj=>?_) (fun _ _ _ _=>rfl) fun m j hm hj=>?_
 ·simp at hm;simp [aV,hm,lv]
 ·simp at hm
  have:m*1+j=m:=by omega
  rw [this];exact h m hm
 ·simp at hm
  have:j=0:=by omega
  subst this;simp [aV,hm,lv];exact .v (.inl rfl)
def Y0 {l:List UInt8} {m:Nat} (h:m<l.length):(l.map lv).getD m []=lv (l.getD m 0):=by simp [aV,h]
def aah {l:List UInt8} {u:Value} (h:bg w F (.s (l.map lv)) u):(l=[]∧∃a,u=.slice a 0 0)∨∃(b off c:Nat),F b∧l.length≤c∧c≤maxLen∧u=.slice (some ⟨b,off,none⟩) l.length c ∧
  ∀m,m<l.length→w.cell? ⟨b,off+m,none⟩=some (.int .u8 ((l.getD m 0).toNat:Int)):=by
 rcases h.tT with ⟨h1,h2⟩|⟨b,off,c,K,v,hb,hc,hm,rfl,hK,hv⟩
 ·exact .inl ⟨by simpa using h1,h2⟩
 ·right
  simp at hc;refine ⟨b,off,c,hb,hc,hm,by simp,fun m hm=>?_⟩
  have bW:m<(l.map lv).length:=by simpa using hm
  have h1:=hK m bW;rw [Y0 hm] at h1
  have rk:K=1:=by simpa [lv] using h1.symm
  subst rk;have:=hv m 0 bW (by omega);rw [Y0 hm] at this;have h2:=this.2.2
  have h3:v m 0=.int .u8 ((l.getD m 0).toNat:Int):=by
   have:Rd w F (fun _=>undef) (.v (.int .u8 ((l.getD m 0).toNat:Int))) (v m 0):=.i h2;exact this.bN
  rw [←h3];simpa using this.1
def T4 {w:World} {b n:Nat} {c:Array Value} {e:TypeId} (h:w.heap[b]?=some (.cells c e (0,0))):(w.freeze ⟨b,n,none⟩ 1).heap[b]?=some (.cells c e (n,n+1)):=by
 simp [AH,pW,h]
def T3 {w:World} {b b' n:Nat} (h:b≠b'):(w.freeze ⟨b,n,none⟩ 1).heap[b']?=w.heap[b']?:=by
 simp [AH,pW,h]
def agJ {e:Nat} (s:ByteArray) (hs:s.size≤maxLen) :
  cz P (K2 e s) w F β (fun r=>r=.s (s.data.toList.map lv)):=by
 let cap:=(Question.appendCap s.size 0 e).cut (w.tape w.drawn (.appendCap s.size 0 e));let cells:Array Value:=s.data.map (fun b=>du .u8 b.toNat)++Array.replicate (cap-s.size) (.int .u8 0);have iO:s.size≤cap:=Nat.le_add_right _ _;have abU:cap≤maxLen:=grownCap_le_maxLen w s.size 0 e hs
 have aX:cells.size=cap:=by simp only [cells,uf,Array.size_map,Array.size_replicate];have:s.data.size=s.size:=rfl;omega
 let w1:World:={ w with drawn:=w.drawn+1 };let w2:=w1.alloc (.cells cells e)
 have rE:(markStringish ⟨w.heap.size,0,none⟩).run P w2=.ok () (w2.freeze ⟨w.heap.size,cells.size,none⟩ 1):=by
  have:w2.shape? w.heap.size=some (e,cells.size):=by simp [World.shape?,w2,w1,lR]
  simp [markStringish,this]
 have aY:(K2 e s).run P w=.ok (.slice (some ⟨w.heap.size,0,none⟩) s.size cap) (w2.freeze ⟨w.heap.size,cells.size,none⟩ 1):=by
  have Er:(choose (.appendCap s.size 0 e)).run P w=.ok cap w1:=by simp [Question.forced,cap,w1]
  have eS:(newRow e cells).run P w1=.ok ⟨w.heap.size,0,none⟩ w2:=by simp [newRow,w2,w1]
  unfold K2;rw [kC,Er,mg]
  have:(Sem.bind (newRow e cells) fun a=>Sem.bind (markStringish a) fun _=>Sem.pure (Value.slice (some a) s.size cap)).run P w1=.ok (.slice (some ⟨w.heap.size,0,none⟩) s.size cap) (w2.freeze ⟨w.heap.size,cells.size,none⟩ 1):=by
   rw [Sem.run_bind',eS,mg,Sem.run_bind',rE,mg];rfl
  exact this
 have Nj:(w2.freeze ⟨w.heap.size,cells.size,none⟩ 1).heap[w.heap.size]?=some (.cells cells e (cells.size,cells.size+1)) :=
  T4 (by simp [w2,w1,lR])
 have akY:(w2.freeze ⟨w.heap.size,cells.size,none⟩ 1).heap.size=w.heap.size+1:=by simp [AH,w2,w1,lR]
 have IA:Below w.heap.size w (w2.freeze ⟨w.heap.size,cells.size,none⟩ 1):=by
  refine ⟨by simp [AH,w2,w1,lR],⟨by simp [AH,w2,w1,lR],by simp [AH,w2,w1,lR]⟩,by simp [AH,w2,w1,lR],by omega,fun b hb=>?_⟩
  have h1:w.heap.size≠b:=by omega
  have h2:b≠w.heap.size:=by omega
  rw [T3 h1];exact _root_.Go.heap_alloc_old w1 _ hb
 refine ⟨_,_,_,aY,IA,rfl,.i ?_⟩;have hlen:s.data.toList.length=s.size:=rfl;rw [←hlen];refine aai (off:=0) (.inr ⟨bG _,by omega⟩) (by rw [hlen];exact iO) abU fun m hm=>?_
 have bW:m<s.data.size:=by simpa using hm
 rw [cell_of_row _ _ _ _ _ _ Nj,jL];have yV:m<s.size:=bW;simp [cells,pV,yV,aV]
def agS {src dst:Nat} {x:AV} {vx:Value} (hT:bO P T) (hx:Rd w F β x vx) (h:Ps T src dst x k):cz P (convert src dst vx) w F β k:=by
 unfold Ps at h;split at h
 ·rename_i i j hi hj;have BJ:=hT _ _ hi;have yC:=hT _ _ hj;split at h
  ·rename_i kd kn n hk;cases hx.bN;obtain ⟨r,rfl,cI⟩:=h;exact cz.mk (agH BJ yC hk n) cI (.i (.v (.inl rfl)))
  ·rename_i s hk;cases hx.bN;obtain ⟨d,bH,_⟩:=BJ.oa;refine cz.mk ?_ h (.i (.v (.inl rfl)));simp [convert,run_underlying bH,run_underlying (yC.str hk)]
  ·rename_i e s hk;cases hx.bN;split at h
   ·rename_i je Bn;split at h
    ·rename_i Np;obtain ⟨d,bH,_⟩:=BJ.oa
     have hc:(convert src dst (.string s)).run P w=(K2 e s).run P w:=by
      simp [convert,run_underlying bH,run_underlying (yC.slice hk),run_underlying ((hT _ _ Bn).int Np)]
     obtain ⟨v,w',r,hr,hb,rfl,hv⟩:=agJ (P:=P) (w:=w) (F:=F) (β:=β) (e:=e) s h.1;exact ⟨v,w',_,by rw [hc];exact hr,hb,h.2,hv⟩
    ·cases h
   ·cases h
  ·rename_i rows hk;split at h
   ·rename_i e he;split at h
    ·rename_i je Bn;split at h
     ·rename_i Np;obtain ⟨l,rfl,cI⟩:=h;have hs:=BJ.slice he;have h8:=(hT _ _ Bn).int Np;have hd:=yC.str hk
      rcases aah hx.oP with ⟨rfl,a,rfl⟩|⟨b,off,c,hb,hc,hm,rfl,eO⟩
      ·cases a with
       |none=>exact cz.mk (run_convert_bytes_nil w src e hs h8 0 0 dst hd) cI (.i (.v (.inl rfl)))
       |some ad=>exact cz.mk (run_convert_bytes_back w src dst e ad 0 [] hs h8 hd fun j hj=>absurd hj (by simp)) cI (.i (.v (.inl rfl)))
      ·refine cz.mk (run_convert_bytes_back w src dst e ⟨b,off,none⟩ c l hs h8 hd fun j hj=>?_) cI (.i (.v (.inl rfl)));rw [gg,eO j hj];simp [aV,hj]
     ·cases h
    ·cases h
   ·cases h
  ·cases h
 ·cases h
def af6 {ty:TypeId} {i:TI} (hi:gz P ty i) (hg:p7 i.kind=false) (cs:Array Value) (off:Nat) {v:Value} (hv:cs[off]?=some v):(part ty cs off).run P w=.ok v w:=by
 have:=hi.J_ w;rw [hg] at this;simp [part,this,hv]
def agW {t:Nat} {x i:AV} {vx vi:Value} (hT:bO P T) (hx:Rd w F β x vx) (hi:Rd w F β i vi) (h:Pv T t x i k):cz P (Re t vx vi) w F β k:=by
 unfold Pv at h;split at h
 ·rename_i ti jF;split at h
  ·rename_i s kd n hk;cases hx.bN;cases hi.bN;obtain ⟨m,rfl,b,hb,cI⟩:=h;refine cz.mk (v:=.int .u8 b.toNat) ?_ cI (.i (.v (.inl rfl)));have hu:=(hT _ _ jF).str hk
   have aK:s[m]?=some b:=by
    have Φ:m<s.data.size:=by have:=E8 hb;simpa using this
    have h2:s.data[m]?=some b:=by simpa using hb
    have h3:s.data[m]=b:=by rw [gv Φ] at h2;simpa using h2
    have tg:m<s.size:=Φ;rw [getElem?_pos s m tg];exact congrArg some h3
   simp [Re,asIntOf,run_underlying hu,aK]
  ·rename_i len e cells kd n hk;cases hi.bN;have hu:=(hT _ _ jF).arr hk;split at h
   ·rename_i j hj;cases hg:p7 j.kind with
    |true=>rw [hg] at h;cases h
    |false =>
     rw [hg] at h;obtain ⟨h1,h⟩:=cond_prop h;have h1:j.cells=1:=cT h1;obtain ⟨m,rfl,hm,c,hc,cI⟩:=h;obtain ⟨us,rfl,hs,fb,iR⟩:=hx.qY;have Φ:=E8 hc;have hr:=iR m Φ;rw [wj hc] at hr;refine cz.mk (v:=us.getD m undef) ?_ cI hr;have aX:=(hT _ _ hj).kZ w
     have fD:us[m]?=some (us.getD m undef):=by
      have:m<us.size:=by omega
      simp [this]
     have hp:=af6 (w:=w) (hT _ _ hj) hg us m fD;simp [Re,asIntOf,run_underlying hu,hm,aX,h1,hp]
   ·cases h
  ·cases h
 ·cases h
def xB (x:Option AV) (vx:Option Value) (w:World) (F:Nat→Prop) (β:Nat→Value):Prop :=
 match x,vx with
 |none,none=>True
 |some a,some v=>Rd w F β a v
 |_,_=>False
def vS {x:Option AV} {vx:Option Value} {d:Nat} {k:Nat→Prop} (hx:xB x vx w F β) (h:sC x d k):∃m,k m∧((vx=none∧m=d)∨∃kd,vx=some (.int kd (m:Int))):=by
 unfold sC at h;split at h
 ·cases vx with
  |none=>exact ⟨d,h,.inl ⟨rfl,rfl⟩⟩
  |some v=>exact hx.elim
 ·cases vx with
  |none=>exact hx.elim
  |some v =>
   have:Rd w F β _ v:=hx;cases this.bN;obtain ⟨m,rfl,hk⟩:=h;exact ⟨m,hk,.inr ⟨_,rfl⟩⟩
 ·cases h
def zX {lo hi:Option Value} {len cap l h:Nat} {is:Bool} (hl:(lo=none∧l=0)∨∃kd,lo=some (.int kd (l:Int))) (hh:(hi=none∧h=len)∨∃kd,hi=some (.int kd (h:Int)))
  (h1:l≤h) (h2:h≤len) (h3:len≤cap):(Ay is len cap lo hi none).run P w=.ok (l,h,cap) w:=by
 rcases hl with ⟨rfl,rfl⟩|⟨kl,rfl⟩<;>rcases hh with ⟨rfl,rfl⟩|⟨kh,rfl⟩
 ·simp [Ay]
 ·have:(h:Int)≤(cap:Int):=by omega
  simp [Ay,run_sliceBound w kh h cap _ (by omega) (by omega)]
 ·simp [Ay,run_sliceBound w kl l h _ (by omega) (by omega)]
 ·simp [Ay,run_sliceBound w kl l h _ (by omega) (by omega),run_sliceBound w kh h cap _ (by omega) (by omega)]
def ag4 {t:Nat} {x:AV} {vx:Value} {lo hi:Option AV} {vlo vhi:Option Value} (hT:bO P T) (hx:Rd w F β x vx) (kT:xB lo vlo w F β) (kP:xB hi vhi w F β)
  (hI:Inv w F β H) (h:PB T t x lo hi none H k):cz P (lL t vx vlo vhi none) w F β k:=by
 unfold PB at h;split at h
 ·rename_i ti mx jF _;split at h
  ·rename_i e rows hk;have hu:=(hT _ _ jF).slice hk;split at h
   ·rename_i j hj;have aX:=(hT _ _ hj).kZ w;obtain ⟨l,h,hl⟩:=vS kT h;obtain ⟨m,⟨IN,hm,hlen,r,rfl,cI⟩,hh⟩:=vS kP h
    have wq:∀v,(lL t v vlo vhi none).run P w=(ss t v vlo vhi none).run P w:=by
     intro v;simp [lL,run_underlying hu]
    rcases hx.oP.tT with ⟨rfl,a,rfl⟩|⟨b,off,c,K,v,hb,hc,jC,rfl,hK,hv⟩
    ·simp at hm
     have yR:l=0:=by omega
     subst hm;subst yR;refine cz.mk (v:=.slice a 0 0) ?_ cI (.i (by simpa using bg.s0));rw [wq];have qi:(vhi=none∧(0:Nat)=0)∨∃kd,vhi=some (du kd ((0:Nat):Int)):=hh;simp [ss,run_underlying hu,zX (P:=P) (w:=w) (is:=true) hl qi (bG _) (bG _) (bG 0),aX]
    ·have uS:((rows.take m).drop l).length=m-l:=by simp;omega
     refine cz.mk (v:=.slice (some (if c=l then ⟨b,off,none⟩ else ⟨b,off+l*j.cells,none⟩)) (m-l) (c-l)) ?_ cI (.i ?_)
     ·rw [wq];have MY:=zX (P:=P) (w:=w) (is:=true) hl hh IN hm hc
      have I3:(ss t (.slice (some ⟨b,off,none⟩) rows.length c) vlo vhi none).run P w=.ok (.slice (if c=l then some ⟨b,off,none⟩ else some ⟨b,off+l*j.cells,none⟩) (m-l) (c-l)) w:=by
       simp [ss,run_underlying hu,MY,aX,gg]
      rw [I3];split<;>rfl
     ·by_cases c_:c=l
      ·rw [if_pos c_]
       have:m-l=0:=by omega
       have pC:(rows.take m).drop l=[]:=by
        apply qQ;omega
       rw [pC];have h0:bg w F (.s []) (.slice (some ⟨b,off,none⟩) ([]:List (List AV)).length (c-l)) :=
        .s (k:=0) (u:=fun _ _=>undef) hb (by simp) (by omega) (fun _ h=>by simp at h) (fun _ _ h=>by simp at h) (fun _ _ h=>by simp at h) (fun _ _ h=>by simp at h)
       rw [this];exact h0
      ·rw [if_neg c_,←uS];refine .s (k:=j.cells) (u:=fun q z=>v (l+q) z) hb (by omega) (by omega) (fun q hq=>?_) (fun q z hq hz=>?_) (fun q z hq hz=>?_) fun q z hq hz=>?_
       ·rw [uS] at hq;have:=hlen (l+q) (by omega);simpa [aV,js,gk,show l+q<m by omega] using this
       all_goals
        rw [uS] at hq
        have Ei:K=j.cells:=by rw [←hK (l+q) (by omega)];exact hlen (l+q) (by omega)
        have EO:=hv (l+q) z (by omega) (by omega)
       ·rw [←EO.1,Ei,bP];congr 2;omega
       ·exact EO.2.1
       ·have h3:=EO.2.2;simpa [aV,js,gk,show l+q<m by omega] using h3
   ·cases h
  ·rename_i e id hk;have hu:=(hT _ _ jF).slice hk;split at h
   ·rename_i j hj;have aX:=(hT _ _ hj).kZ w;split at h
    ·rename_i E K rows hc;obtain ⟨hK,h⟩:=cond_prop h;have rk:K=j.cells:=cT hK;obtain ⟨l,⟨Bp,cI⟩,hl⟩:=vS kT h;obtain ⟨a,n,c,ah,rfl⟩:=hx.jY
     have qk:n=rows.length∧n≤c:=by
      rcases tE (hI.holds _ _ (eZ hc)) with ⟨rfl,a2,hv⟩|⟨g,cap,hv,_,iO⟩
      ·rw [ah] at hv;cases hv;exact ⟨rfl,bG _⟩
      ·rw [ah] at hv;cases hv;exact ⟨rfl,iO⟩
     have N7:vhi=none:=by
      cases vhi with
      |none=>rfl
      |some v=>exact kP.elim
     subst N7;have hb:=zX (P:=P) (w:=w) (is:=true) (hi:=none) (len:=n) (cap:=c) (l:=l) (h:=n) hl (.inl ⟨rfl,rfl⟩) (by omega) (bG _) (by omega);refine cz.mk (v:=.slice (if c=l then a else a.map (·.add (l*j.cells))) (n-l) (c-l)) ?_ cI ?_
     ·simp [lL,ss,run_underlying hu,hb,aX]
     ·refine .w ah (by omega) fun Φ=>?_;rw [if_neg (by omega),←rk]
    ·cases h
   ·cases h
  ·rename_i e id Kw d hk;have hu:=(hT _ _ jF).slice hk;split at h
   ·rename_i j hj;have aX:=(hT _ _ hj).kZ w;split at h
    ·rename_i E K rows hc;obtain ⟨hK,h⟩:=cond_prop h;simp only [bE] at hK;have rk:K=j.cells:=cT hK.1;have MP:Kw=K:=cT hK.2;subst MP;obtain ⟨l,⟨Bp,cI⟩,hl⟩:=vS kT h;obtain ⟨a,a',n,c,ah,hd,ha,rfl⟩:=hx.xi
     have qk:n=rows.length∧n≤c:=by
      rcases tE (hI.holds _ _ (eZ hc)) with ⟨rfl,a2,hv⟩|⟨g,cap,hv,_,iO⟩
      ·rw [ah] at hv;cases hv;exact ⟨rfl,bG _⟩
      ·rw [ah] at hv;cases hv;exact ⟨rfl,iO⟩
     have N7:vhi=none:=by
      cases vhi with
      |none=>rfl
      |some v=>exact kP.elim
     subst N7;have hb:=zX (P:=P) (w:=w) (is:=true) (hi:=none) (len:=n-d) (cap:=c-d) (l:=l) (h:=n-d) hl (.inl ⟨rfl,rfl⟩) (by omega) (bG _) (by omega);refine cz.mk (v:=.slice (if c-d=l then a' else a'.map (·.add (l*j.cells))) (n-d-l) (c-d-l)) ?_ cI ?_
     ·simp [lL,ss,run_underlying hu,hb,aX]
     ·have e1:n-d-l=n-(d+l):=by omega
      have e2:c-d-l=c-(d+l):=by omega
      rw [e1,e2];refine .w ah (by omega) fun Φ=>?_;rw [if_neg (by omega),ha (by omega),←rk,Option.map_map];congr 1;funext ad;show (ad.add (d*Kw)).add (l*Kw)=_;rw [Addr.add_add,←bP]
    ·cases h
   ·cases h
  ·rename_i e hk;cases hx.bN;have hu:=(hT _ _ jF).slice hk;split at h
   ·rename_i j hj;have aX:=(hT _ _ hj).kZ w;obtain ⟨l,h,hl⟩:=vS kT h;obtain ⟨m,⟨IN,hm,cI⟩,hh⟩:=vS kP h
    have oF:m=0:=by omega
    have yR:l=0:=by omega
    subst oF;subst yR;have qi:(vhi=none∧(0:Nat)=0)∨∃kd,vhi=some (du kd ((0:Nat):Int)):=hh;refine cz.mk (v:=.slice none 0 0) ?_ cI (.i (.v (.inl rfl)));simp [lL,ss,run_underlying hu,zX (P:=P) (w:=w) (is:=true) hl qi (bG _) (bG _) (bG 0),aX]
   ·cases h
  ·rename_i s hk;cases hx.bN;have hu:=(hT _ _ jF).str hk;obtain ⟨l,h,hl⟩:=vS kT h;obtain ⟨m,⟨IN,hm,r,rfl,cI⟩,hh⟩:=vS kP h;refine cz.mk (v:=.string (s.extract l m)) ?_ cI (.i (.v (.inl rfl)));simp [lL,ss,run_underlying hu,zX (P:=P) (w:=w) (is:=false) hl hh IN hm (bG _)]
  ·cases h
 ·cases h
def ag1 {x:AV} {vx:Value} (hx:Rd w F β x vx) (h:Pz x k) :
  (∃r,k r∧Rd w F β r vx)∧((∃a,vx=.pointer (some a))∨∃g fs cs,vx=.func (.func g) fs cs):=by
 unfold Pz at h;split at h
 ·obtain ⟨eX,hb,rfl⟩:=hx.mz;exact ⟨⟨_,h,hx⟩,.inl ⟨_,rfl⟩⟩
 ·have hp:=hx.B0;cases hp;exact ⟨⟨_,h,hx⟩,.inl ⟨_,rfl⟩⟩
 ·obtain ⟨g,n,c,hb,rfl⟩:=hx.AY;exact ⟨⟨_,h,hx⟩,.inl ⟨_,rfl⟩⟩
 ·obtain ⟨us,vs,rfl,_⟩:=hx.nt;exact ⟨⟨_,h,hx⟩,.inr ⟨_,_,_,rfl⟩⟩
 ·cases h
def agX {t ty:Nat} {x:AV} {vx:Value} (hT:bO P T) (hI:Inv w F β H) (hx:Rd w F β x vx) (h:lG T t x H k):cz P (vA #[t] ty #[vx]) w F β k:=by
 unfold lG at h;split at h
 ·rename_i i hi;split at h
  ·rename_i e rows hk;have hu:=(hT _ _ hi).slice hk;obtain ⟨n,rfl,h⟩:=h
   rcases hx.oP.tT with ⟨rfl,a,rfl⟩|⟨b,off,c,K,v,hb,hc,jC,rfl,hK,hv⟩
   ·exact cz.mk (by simp [vA,run_underlying hu,goInt]) (h (by simp)) (.i (.v (.inl rfl)))
   ·exact cz.mk (by simp [vA,run_underlying hu,goInt]) (h (by omega)) (.i (.v (.inl rfl)))
  ·rename_i e hk;have hu:=(hT _ _ hi).slice hk;cases hx.bN;exact cz.mk (by simp [vA,run_underlying hu,goInt]) h (.i (.v (.inl rfl)))
  ·rename_i e id hk;have hu:=(hT _ _ hi).slice hk;split at h
   ·rename_i E K rows hc;obtain ⟨n,rfl,h⟩:=h;obtain ⟨a,n,c,ah,rfl⟩:=hx.jY
    have hn:n=rows.length∧rows.length≤maxLen:=by
     rcases tE (hI.holds _ _ (eZ hc)) with ⟨rfl,a',hv⟩|⟨g,cap,hv,hm,hn⟩
     ·rw [ah] at hv;cases hv;exact ⟨rfl,by simp⟩
     ·rw [ah] at hv;cases hv;exact ⟨rfl,by omega⟩
    obtain ⟨rfl,hm⟩:=hn;exact cz.mk (by simp [vA,run_underlying hu,goInt]) (h hm) (.i (.v (.inl rfl)))
   ·cases h
  ·rename_i e id Kw d hk;have hu:=(hT _ _ hi).slice hk;split at h
   ·rename_i E K rows hc;obtain ⟨n,rfl,h⟩:=h;obtain ⟨a,a',n,c,ah,hd,ha,rfl⟩:=hx.xi
    have hn:n=rows.length∧rows.length≤maxLen:=by
     rcases tE (hI.holds _ _ (eZ hc)) with ⟨rfl,a2,hv⟩|⟨g,cap,hv,hm,hn⟩
     ·rw [ah] at hv;cases hv;exact ⟨rfl,by simp⟩
     ·rw [ah] at hv;cases hv;exact ⟨rfl,by omega⟩
    obtain ⟨rfl,hm⟩:=hn;exact cz.mk (by simp [vA,run_underlying hu,goInt]) (h (by omega)) (.i (.v (.inl rfl)))
   ·cases h
  ·rename_i kt e id hk;have hu:=(hT _ _ hi).map hk;split at h
   ·rename_i ag rows hc;obtain ⟨n,rfl,h⟩:=h;obtain ⟨b,ah,rfl⟩:=hx.zz;obtain ⟨b',es,ck,iT,hh,_,hs,hm,_⟩:=hI.holds _ _ (eZ hc);rw [ah] at iT;cases iT;have hg:=Zg (P:=P) hh;exact cz.mk (v:=.int .i64 rows.length) (by simp [vA,run_underlying hu,goInt,hg,hs]) (h (by omega)) (.i (.v (.inl rfl)))
   ·cases h
  ·rename_i s hk;have hu:=(hT _ _ hi).str hk;cases hx.bN;obtain ⟨n,rfl,h⟩:=h;exact cz.mk (by simp [vA,run_underlying hu,goInt]) h (.i (.v (.inl rfl)))
  ·rename_i n e hk;have hu:=(hT _ _ hi).arr hk;exact cz.mk (by simp [vA,run_underlying hu,goInt]) h (.i (.v (.inl rfl)))
  ·cases h
 ·cases h
def Xd {len cap h q:Nat} {kh km:IntKind} (h1:h≤q) (h2:q≤cap):(Ay true len cap none (some (.int kh (h:Int))) (some (.int km (q:Int)))).run P w=.ok (0,h,q) w:=by
 simp [Ay,run_sliceBound w km q cap _ (by omega) (by omega),run_sliceBound w kh h q _ (by omega) (by omega)]
def ag3 {t:Nat} {x hi mx:AV} {vx vhi vmx:Value} (hT:bO P T) (hx:Rd w F β x vx) (kP:Rd w F β hi vhi) (gp:Rd w F β mx vmx)
  (h:FL T t x none (some hi) mx k):cz P (lL t vx none (some vhi) (some vmx)) w F β k:=by
 unfold FL at h;split at h
 ·rename_i ti kh nh rows km nm jF _ ehi;cases ehi;split at h
  ·rename_i e hk;have hu:=(hT _ _ jF).slice hk;split at h
   ·rename_i j hj;have aX:=(hT _ _ hj).kZ w;obtain ⟨m,q,rfl,rfl,hmq,hq,hlen,r,rfl,cI⟩:=h;cases kP.bN;cases gp.bN
    have wq:∀v vlo vhi vm,(lL t v vlo vhi vm).run P w=(ss t v vlo vhi vm).run P w:=by
     intro v _ _ _;simp [lL,run_underlying hu]
    rcases hx.oP.tT with ⟨rfl,a,rfl⟩|⟨b,off,c,K,v,hb,hc,jC,rfl,hK,hv⟩
    ·have UK:q=0:=by simpa using hq
     have oF:m=0:=by omega
     subst UK;subst oF;refine cz.mk (v:=.slice a 0 0) ?_ cI (.i (by simpa using bg.s0));rw [wq];have:=Xd (P:=P) (w:=w) (len:=0) (cap:=0) (h:=0) (q:=0) (kh:=kh) (km:=km) (bG _) (bG _);simp only [Int.natCast_zero] at this ⊢;simp [ss,run_underlying hu,this,aX]
    ·have uS:(rows.take m).length=m:=by simp;omega
     refine cz.mk (v:=.slice (some ⟨b,off,none⟩) m q) ?_ cI (.i ?_)
     ·rw [wq];have MY:=Xd (P:=P) (w:=w) (len:=rows.length) (cap:=c) (h:=m) (q:=q) (kh:=kh) (km:=km) hmq (by omega);simp [ss,run_underlying hu,MY,aX,gg]
     ·have:=bg.s (w:=w) (F:=F) (rows:=rows.take m) (b:=b) (off:=off) (c:=q) (k:=j.cells) (u:=fun q z=>v q z) hb (by omega) (by omega) (fun q hq=>by
        rw [uS] at hq;have:=hlen q (by omega)
        simpa [aV,gk,show q<m by omega] using this) (fun i z hi hz=>by
        rw [uS] at hi
        have Ei:K=j.cells:=by rw [←hK i (by omega)];exact hlen i (by omega)
        have EO:=hv i z (by omega) (by omega)
        rw [←EO.1,Ei]) (fun i z hi hz=>by
        rw [uS] at hi
        have Ei:K=j.cells:=by rw [←hK i (by omega)];exact hlen i (by omega)
        exact (hv i z (by omega) (by omega)).2.1) (fun i z hi hz=>by
        rw [uS] at hi
        have Ei:K=j.cells:=by rw [←hK i (by omega)];exact hlen i (by omega)
        have h3:=(hv i z (by omega) (by omega)).2.2
        simpa [aV,gk,show i<m by omega] using h3)
      rw [uS] at this;exact this
   ·cases h
  ·cases h
 ·cases h
end
end
section
open Go.RowKit
variable [M:bM] [G:cK]
section
variable {P:Program} {T:TT} {w:World} {F:Nat→Prop} {β:Nat→Value} {H:Hp} {k:AV→Prop}
def sz (w:World) (F:Nat→Prop) (β:Nat→Value) (xs:List AV) (us:Array Value):Prop :=
 us.size=xs.length∧∀i,i<xs.length→(us.getD i undef).oneCell'=true∧Rd w F β (xs.getD i .χ) (us.getD i undef)
def aeD {x:AV} (h:jm x=true):(∃cs,x=.a cs)∨(uY x=true∧bu x=[x]):=by
 cases x<;>first|exact .inl ⟨_,rfl⟩|exact .inr ⟨h,rfl⟩
def o9 {x:AV} {u:Value} (h:Rd w F β x u) (hx:jm x=true):sz w F β (bu x) u.cells:=by
 rcases aeD hx with ⟨cs,rfl⟩|⟨hc,hl⟩
 ·obtain ⟨us,rfl,hs,h1,hr⟩:=h.qY;exact ⟨hs,fun i hi=>⟨h1 i hi,hr i hi⟩⟩
 ·have h1:=adG hc h
  have hc:u.cells=#[u]:=by cases u<;>simp [alq] at h1<;>rfl
  rw [hc,hl];refine ⟨rfl,fun i hi=>?_⟩;simp at hi;subst hi;exact ⟨h1,h⟩
def S2 (off:Nat):∀(l:List Value) (n:Nat) (cs:Array Value),off+n+l.length≤cs.size →
  (l.zipIdx n).foldl (fun cs x=>cs.setIfInBounds (off+x.2) x.1) cs=(cs.toList.take (off+n)++l++cs.toList.drop (off+n+l.length)).toArray:=by
 intro l;induction l with
 |nil=>intro n cs h;simp
 |cons x r ih =>
  intro n cs h;simp only [cZ] at h;simp only [List.zipIdx_cons,List.foldl_cons];rw [ih (n+1) _ (by simp;omega)]
  have h1:off+n<cs.toList.length:=by simp;omega
  have e1:(cs.toList.set (off+n) x).take (off+(n+1))=cs.toList.take (off+n)++[x]:=by
   rw [show off+(n+1)=off+n+1 by omega,List.take_succ_eq_append_getElem (by simpa using h1)];rw [List.take_set,List.set_eq_of_length_le (by simp;omega)];simp
  have e2:(cs.toList.set (off+n) x).drop (off+(n+1)+r.length)=cs.toList.drop (off+n+(r.length+1)):=by
   rw [List.drop_set,if_pos (by omega),show off+(n+1)+r.length=off+n+(r.length+1) by omega]
  simp only [Array.toList_setIfInBounds,e1,e2,cZ];simp
def SP {WN:Nat→Option (Nat×Nat)} {placeC:Nat→Option (Nat×Nat)} (hp:∀i x,WN i=some x→placeC i=some x) :
  ∀(parts:List (Nat×AV)) (vs:List (Nat×Value)) (cells ya:List AV) (us:Array Value),parts.length=vs.length →
   (∀i,i<parts.length→(parts.getD i (0,.χ)).1=(vs.getD i (0,undef)).1∧Rd w F β (parts.getD i (0,.χ)).2 (vs.getD i (0,undef)).2) →
   sz w F β cells us→A3 WN parts cells=some ya→∃pQ,vC placeC us vs=some pQ∧sz w F β ya pQ:=by
 intro parts;induction parts with
 |nil =>
  intro vs cells ya us hl _ hr h;cases vs with
  |nil=>simp [A3] at h;subst h;exact ⟨us,rfl,hr⟩
  |cons=>simp at hl
 |cons p r ih =>
  intro vs cells ya us hl hv hr h;cases vs with
  |nil=>simp at hl
  |cons q s =>
   obtain ⟨i,x⟩:=p;obtain ⟨i',u⟩:=q;have h0:=hv 0 (by simp);simp at h0;obtain ⟨rfl,hu⟩:=h0;simp only [A3] at h;split at h
   ·cases h
   ·rename_i off size zb;cases hb:(jm x&&(aH (bu x).length size&&p0 (off+size) cells.length)) with
    |false=>rw [hb] at h;cases h
    |true =>
     rw [hb] at h;simp only [bE] at hb;obtain ⟨bX,aX,hle⟩:=hb;have aX:(bu x).length=size:=cT aX
     have hle:off+size≤cells.length:=by simpa using hle
     obtain ⟨ax,bt⟩:=o9 hu bX;have Eu:=S2 off u.cells.toList 0 us (by simp;rw [ax,hr.1];omega);simp only [lO] at Eu
     have hz:u.cells.zipIdx.foldl (fun cs x=>cs.setIfInBounds (off+x.2) x.1) us=(us.toList.take off++u.cells.toList++us.toList.drop (off+u.cells.toList.length)).toArray:=by
      rw [←Eu,←Y3,Y9]
     have cJ:sz w F β (cells.take off++(bu x++cells.drop (off+size))) (us.toList.take off++u.cells.toList++us.toList.drop (off+u.cells.toList.length)).toArray:=by
      have fc:us.toList.length=cells.length:=by simpa using hr.1
      have akZ:us.size=cells.length:=hr.1
      have c_:u.cells.toList.length=size:=by simp;rw [ax];exact aX
      refine ⟨by simp only [ll,dj,dR,l9];omega,fun j hj=>?_⟩;simp only [dj,dR,l9] at hj;have key:∀(d:Value),(us.toList.take off++u.cells.toList++us.toList.drop (off+u.cells.toList.length)).toArray.getD j d =
        if j<off then us.getD j d else if j<off+size then u.cells.getD (j-off) d else us.getD j d:=by
       intro d;simp only [lh,Zx,gG,dj,dR,c_,gk,js];by_cases h1:j<off
       ·simp [h1,show j<min off us.size+size by omega,show j<min off us.size by omega]
       ·by_cases h2:j<off+size
        ·simp [h1,h2,show min off us.size=off by omega]
        ·simp [h1,h2,show min off us.size=off by omega,show off+size+(j-(off+size))=j by omega]
      have zu:(cells.take off++(bu x++cells.drop (off+size))).getD j .χ=if j<off then cells.getD j .χ else if j<off+size then (bu x).getD (j-off) .χ else cells.getD j .χ:=by
       simp only [aV,gG,dR,aX,gk,js];by_cases h1:j<off
       ·simp [h1,show j<min off cells.length by omega]
       ·by_cases h2:j<off+size
        ·simp [h1,h2,show min off cells.length=off by omega,show j-off<size by omega]
        ·simp [h1,h2,show min off cells.length=off by omega,show ¬j-off<size by omega,show off+size+(j-off-size)=j by omega]
      rw [key,zu];by_cases h1:j<off
      ·rw [if_pos h1,if_pos h1];exact hr.2 j (by omega)
      ·rw [if_neg h1,if_neg h1];by_cases h2:j<off+size
       ·rw [if_pos h2,if_pos h2];exact bt (j-off) (by omega)
       ·rw [if_neg h2,if_neg h2];exact hr.2 j (by omega)
     obtain ⟨pQ,hf,acR⟩:=ih s _ ya _ (by simpa using hl) (fun m hm=>by have:=hv (m+1) (by simp;omega);simpa using this) cJ h;refine ⟨pQ,?_,acR⟩;simp only [vC,hp _ _ zb];rw [if_neg ?_]
     ·have iS:(Array.foldl (fun cs (x:Value×Nat)=>cs.setIfInBounds (off+x.2) x.1) us u.cells.zipIdx)=(us.toList.take off++u.cells.toList++us.toList.drop (off+u.cells.toList.length)).toArray:=hz;exact (congrArg (fun z=>vC placeC z s) iS).trans hf
     ·simp only [ug,ne_eq,decide_eq_true_eq,not_or,decide_not,oV];rw [ax,aX,hr.1];simp;omega
def aeB {z:Value} {zs:List AV} (h:cr z=.a zs):sz w F β zs z.cells:=by
 have hr:=nV w F z β;rw [h] at hr;obtain ⟨us,rfl,hs,h1,h2⟩:=hr.qY;exact ⟨hs,fun i hi=>⟨h1 i hi,h2 i hi⟩⟩
def sz.agg {xs:List AV} {us:Array Value} (h:sz w F β xs us):Rd w F β (.a xs) (.agg us):=.a h.1 (fun i hi=>(h.2 i hi).1) fun i hi=>(h.2 i hi).2
def run_places (hT:bO P T):∀(fields:List Field),Hq T (fields.map fun f=>(f.offset,f.type))=true →
  ∃ps:List (Nat×Nat),(List.mapM (fun f:Field=>(do pure (f.offset,←sizeOf f.type):Sem (Nat×Nat))) fields).run P w=.ok ps w ∧
   ∀i x,Fw T (fields.map fun f=>(f.offset,f.type)) i=some x→ps[i]?=some x
 |[],_=>⟨[],by simp,fun i x h=>by simp [Fw] at h⟩
 |f::r,ha=>by
  simp only [jJ,Hq,bE] at ha;obtain ⟨ps,hr,hp⟩:=run_places hT r ha.2;obtain ⟨j,hj⟩:=Option.isSome_iff_exists.1 ha.1;have aX:=(hT _ _ hj).kZ w;refine ⟨(f.offset,j.cells)::ps,by rw [List.mapM_cons];simp only [kC,Lm,mg,aX,hr],fun i x h=>?_⟩;cases i with
  |zero =>
   simp [Fw,hj] at h;simpa using h
  |succ i=>exact hp i x (by simpa [Fw] using h)
def agN {t:Nat} {parts:List (Nat×AV)} {vs:Array (Nat×Value)} (hT:bO P T) (hl:parts.length=vs.size)
  (hv:∀i,i<parts.length→(parts.getD i (0,.χ)).1=(vs.toList.getD i (0,undef)).1∧Rd w F β (parts.getD i (0,.χ)).2 (vs.toList.getD i (0,undef)).2)
  (h:Pr T t parts k):cz P (Rb t vs) w F β k:=by
 unfold Pr at h;split at h
 ·rename_i i hi;have hz:=(hT _ _ hi).tQ w;split at h
  ·rename_i zs iG;have EU:=aeB (w:=w) (F:=F) (β:=β) iG;split at h
   ·rename_i fs Ev;obtain ⟨d_,h⟩:=cond_prop h;obtain ⟨fields,hu,rfl⟩:=(hT _ _ hi).struct Ev;split at h
    ·rename_i cells hf;obtain ⟨ps,hr,hp⟩:=run_places (w:=w) hT fields.toList d_;obtain ⟨pQ,uI,cJ⟩:=SP (w:=w) (F:=F) (β:=β) (placeC:=fun j=>ps.toArray[j]?) (fun i x hx=>by simpa using hp i x hx) parts vs.toList zs cells i.zero.cells (by simpa using hl) hv EU hf;refine cz.mk (v:=.agg pQ) ?_ h cJ.agg
     have hm:(fields.mapM (fun f=>(do pure (f.offset,←sizeOf f.type):Sem (Nat×Nat)))).run P w=.ok ps.toArray w:=by
      rw [Array.mapM_eq_mapM_toList];simp only [Sem.run_map,hr,mg]
     unfold Rb;simp only [kC,hz,mg,run_underlying hu,hm,uI,Lm]
    ·cases h
   ·rename_i n e he;have hu:=(hT _ _ hi).arr he;split at h
    ·rename_i j hj;have aX:=(hT _ _ hj).kZ w;split at h
     ·rename_i cells hf;obtain ⟨pQ,uI,cJ⟩:=SP (w:=w) (F:=F) (β:=β) (placeC:=fun i=>some (i*j.cells,j.cells)) (fun i x hx=>hx) parts vs.toList zs cells i.zero.cells (by simpa using hl) hv EU hf;refine cz.mk (v:=.agg pQ) ?_ h cJ.agg;unfold Rb;simp only [kC,hz,mg,run_underlying hu,aX,uI,Lm]
     ·cases h
    ·cases h
   ·cases h
  ·cases h
 ·cases h
def Xb {size:Nat}:∀{parts:List (Nat×AV)} {n:Nat} {rows:List (List AV)},rowsOf size n parts=some rows→rows.length=parts.length∧∀i,i<parts.length →
  (parts.getD i (0,.χ)).1=n+i∧jm (parts.getD i (0,.χ)).2=true∧(bu (parts.getD i (0,.χ)).2).length=size∧rows.getD i []=bu (parts.getD i (0,.χ)).2
 |[],n,rows,h=>by simp [rowsOf] at h;subst h;exact ⟨rfl,fun i hi=>by simp at hi⟩
 |(m,x)::r,n,rows,h=>by
  simp only [rowsOf] at h;cases hb:(aH m n&&(jm x&&aH (bu x).length size)) with
  |false=>rw [hb] at h;cases h
  |true =>
   rw [hb] at h;simp only [bE] at hb;obtain ⟨hm,bX,hs⟩:=hb;have hm:m=n:=cT hm;have hs:(bu x).length=size:=cT hs;cases hr:rowsOf size (n+1) r with
   |none=>rw [hr] at h;cases h
   |some rs =>
    rw [hr] at h;simp only [cond_true,G9,G_] at h;subst h;obtain ⟨hl,hi⟩:=Xb hr;refine ⟨by simp [hl],fun i Φ=>?_⟩;cases i with
    |zero=>exact ⟨by simpa using hm,bX,hs,rfl⟩
    |succ i =>
     have:=hi i (by simpa using Φ);simpa [G7,Nat.add_comm 1 i] using this
def Mo {size:Nat}:∀(rows:List (List AV)) (i j:Nat),(∀i,i<rows.length→(rows.getD i []).length=size)→i<rows.length→j<size→rows.flatten.getD (i*size+j) .χ=(rows.getD i []).getD j .χ
 |[],i,j,_,hi,_=>by simp at hi
 |r::rs,i,j,h,hi,hj=>by
  have hr:r.length=size:=by simpa using h 0 (by simp)
  cases i with
  |zero=>simp [aV,gG,hr,hj]
  |succ i =>
   have ih:=Mo rs i j (fun m hm=>by simpa using h (m+1) (by simpa using hm)) (by simpa using hi) hj
   have e:(i+1)*size+j=size+(i*size+j):=by rw [bP];omega
   rw [e];simpa [aV,gG,hr,show ¬size+(i*size+j)<size by omega] using ih
def H6 {size:Nat}:∀(rows:List (List AV)),(∀i,i<rows.length→(rows.getD i []).length=size)→rows.flatten.length=rows.length*size
 |[],_=>by simp
 |r::rs,h=>by
  have hr:r.length=size:=by simpa using h 0 (by simp)
  have ih:=H6 rs (fun m hm=>by simpa using h (m+1) (by simpa using hm));simp [hr,ih,bP];omega
def abm {size:Nat} (eL:0<size):∀(parts:List (Nat×AV)) (vs:List (Nat×Value)) (n:Nat) (rows:List (List AV)) (done:List AV) (us:Array Value),parts.length=vs.length →
  (∀i,i<parts.length→(parts.getD i (0,.χ)).1=(vs.getD i (0,undef)).1∧Rd w F β (parts.getD i (0,.χ)).2 (vs.getD i (0,undef)).2) →
  rowsOf size n parts=some rows→done.length=n*size→us.size=(n+parts.length)*size →
  (∀i,i<done.length→(us.getD i undef).oneCell'=true∧Rd w F β (done.getD i .χ) (us.getD i undef)) →
  ∃pQ,vC (fun i=>some (i*size,size)) us vs=some pQ∧sz w F β (done++rows.flatten) pQ:=by
 intro parts;induction parts with
 |nil =>
  intro vs n rows done us hl hv hr hd hu M_;cases vs with
  |cons=>simp at hl
  |nil =>
   simp [rowsOf] at hr;subst hr;refine ⟨us,rfl,?_,fun i hi=>?_⟩
   ·simpa [hd] using hu
   ·simpa using M_ i (by simpa using hi)
 |cons p r ih =>
  intro vs n rows done us hl hv hr hd hu M_;cases vs with
  |nil=>simp at hl
  |cons q s =>
   obtain ⟨m,x⟩:=p;obtain ⟨m',u⟩:=q;have h0:=hv 0 (by simp);simp at h0;obtain ⟨rfl,hxu⟩:=h0;simp only [rowsOf] at hr;cases hb:(aH m n&&(jm x&&aH (bu x).length size)) with
   |false=>rw [hb] at hr;cases hr
   |true =>
    rw [hb] at hr;simp only [bE] at hb;obtain ⟨hm,bX,hs⟩:=hb;obtain rfl:m=n:=cT hm;have hs:(bu x).length=size:=cT hs;cases oJ:rowsOf size (m+1) r with
    |none=>rw [oJ] at hr;cases hr
    |some rs =>
     rw [oJ] at hr;simp only [cond_true,G9,G_] at hr;subst hr;obtain ⟨ax,bt⟩:=o9 hxu bX
     have fc:us.size=m*size+(size+r.length*size):=by
      rw [hu];simp only [cZ,bP];omega
     have c_:u.cells.toList.length=size:=by simp;rw [ax];exact hs
     have Eu:=S2 (m*size) u.cells.toList 0 us (by rw [c_];omega);simp only [lO] at Eu
     have hz:u.cells.zipIdx.foldl (fun cs x=>cs.setIfInBounds (m*size+x.2) x.1) us=(us.toList.take (m*size)++u.cells.toList++us.toList.drop (m*size+u.cells.toList.length)).toArray:=by
      rw [←Eu,←Y3,Y9]
     have key:∀j,j<(done++bu x).length→((us.toList.take (m*size)++u.cells.toList++us.toList.drop (m*size+u.cells.toList.length)).toArray.getD j undef)=if j<m*size then us.getD j undef else u.cells.getD (j-m*size) undef:=by
      intro j hj;simp only [dj,hd,hs] at hj;simp only [lh,Zx,gG,dj,dR,c_,gk,js];by_cases h1:j<m*size
      ·simp [h1,show j<min (m*size) us.size+size by omega,show j<min (m*size) us.size by omega]
      ·simp [h1,show min (m*size) us.size=m*size by omega,show j<m*size+size by omega]
     obtain ⟨pQ,hf,cJ⟩:=ih s (m+1) rs (done++bu x) (us.toList.take (m*size)++u.cells.toList++us.toList.drop (m*size+u.cells.toList.length)).toArray (by simpa using hl) (fun i hi=>by have:=hv (i+1) (by simp;omega);simpa using this) oJ
      (by simp [hd,hs,bP])
      (by simp only [ll,dj,dR,l9,c_,Array.length_toList,bP];omega)
      (fun i hi=>by
       rw [key i hi];by_cases h1:i<m*size
       ·rw [if_pos h1]
        have e:(done++bu x).getD i .χ=done.getD i .χ:=by simp [aV,gG,hd,h1]
        rw [e];exact M_ i (by omega)
       ·rw [if_neg h1]
        have bm:i<m*size+size:=by simpa [hd,hs] using hi
        have e:(done++bu x).getD i .χ=(bu x).getD (i-m*size) .χ:=by simp [aV,gG,hd,h1]
        rw [e];exact bt _ (by omega))
     refine ⟨pQ,?_,by simpa using cJ⟩;simp only [vC];rw [if_neg ?_]
     ·exact (congrArg (fun z=>vC (fun i=>some (i*size,size)) z s) hz).trans hf
     ·simp only [ug,ne_eq,decide_eq_true_eq,not_or,decide_not,oV];rw [ax,hs];simp;omega
def nQ {x:AV} {u:Value} (hx:fp x=true) (h:Rd w F β x u):bg w F x u:=by
 cases x<;>first|(cases hx;done)|(cases h;assumption)
def I' {x:AV} {u:Value} (hx:kg x=true) (h:Rd w F β x u):bg w F x u:=by
 have get:∀(l:List AV) (i:Nat),l.all fp=true→i<l.length→fp (l.getD i .χ)=true:=fun l i hl hi=>by
  have:=ej.1 hl (l.getD i .χ) (by simp [aV,hi]);exact this
 cases x with
 |a cs =>
  obtain ⟨us,rfl,hs,h1,hr⟩:=h.qY;exact .a hs h1 fun i hi=>nQ (get cs i hx hi) (hr i hi)
 |t cs =>
  obtain ⟨us,rfl,hs,hr⟩:=h.CC;exact .t hs fun i hi=>nQ (get cs i hx hi) (hr i hi)
 |c fn fs cs =>
  simp only [kg,bE] at hx;obtain ⟨us,vs,rfl,hs,ew,hr,cJ⟩:=h.nt;exact .c hs ew (fun i hi=>nQ (get fs i hx.1 hi) (hr i hi)) fun i hi=>nQ (get cs i hx.2 hi) (cJ i hi)
 |_=>exact nQ hx h
def SV {ag:Bool} {rows:List (Int×List AV)} {es:Array MapEntry} {ck:Nat} (bV:Zf es ck) (hs:es.size=rows.length)
  (hr:∀(i:Nat) (r:Int×List AV),rows[i]?=some r→∃e:MapEntry,es[i]?=some e∧e.key=.int .i64 r.1∧Θ r.1∧bg w F (sa ag r.2) e.val) (n:Int) :
  (∀x∈es.toList,Ze (.int .i64) x.key) ∧
  ((alu (.int .i64) (.int .i64 n) es.toList 0=some none∧bn n rows=none∧(∀x∈es.toList,x.key≠.int .i64 n)) ∨
   ∃(j:Nat) (e:MapEntry) (c:List AV),alu (.int .i64) (.int .i64 n) es.toList 0=some (some (j,e.val))∧es[j]?=some e∧e.key=.int .i64 n∧rows[j]?=some (n,c)∧bn n rows=some c∧bg w F (sa ag c) e.val ∧
    ∀v,ak n v rows=rows.set j (n,v)):=by
 have lW:∀(i:Nat) (e:MapEntry),es[i]?=some e→∃r,rows[i]?=some r∧e.key=.int .i64 r.1∧bg w F (sa ag r.2) e.val:=fun i e he=>by
  have Φ:i<rows.length:=by have:=(lj.1 he).1;omega
  obtain ⟨e',h1,h2,_,h4⟩:=hr i rows[i] (bU Φ);rw [he] at h1;cases h1;exact ⟨_,bU Φ,h2,h4⟩
 have d_:∀x∈es.toList,Ze (.int .i64) x.key:=fun x hx=>by
  obtain ⟨i,hi⟩:=List.mem_iff_getElem?.1 hx;obtain ⟨r,_,h2,_⟩:=lW i x (by simpa using hi);rw [h2];rfl
 refine ⟨d_,?_⟩;have wq:=BR n ([]:List AV) rows
 rcases Go.MapKept.findNow_spec (d:=.int .i64) (k:=.int .i64 n) rfl es.toList 0 d_ with ⟨h1,h2⟩|⟨j,e,h1,h2,h3⟩
 ·refine .inl ⟨h1,?_,h2⟩
  rcases wq with ⟨h,_,_⟩|⟨j,c,hj,_⟩
  ·exact h
  ·obtain ⟨e,he,hk,_⟩:=hr j _ hj;exact (h2 e (by rw [←Array.getElem?_toList] at he;exact mb he) hk).elim
 ·have iz:es[j]?=some e:=by simpa using h2
  obtain ⟨r,NO,EL,hrv⟩:=lW j e iz
  have I3:r.1=n:=by rw [h3] at EL;cases EL;rfl
  obtain ⟨rn,rc⟩:=r;dsimp only at I3;subst I3;refine .inr ⟨j,e,rc,by simpa using h1,iz,h3,NO,?_⟩
  have uniq:∀(i:Nat) c,rows[i]?=some (rn,c)→i=j:=fun i c hi=>by
   obtain ⟨e',fw,cI,_⟩:=hr i _ hi;have dJ:=bV.2.2
   have l1:(es.toList.map (·.key))[i]?=some (.int .i64 rn):=by rw [uj];simp [fw,cI]
   have l2:(es.toList.map (·.key))[j]?=some (.int .i64 rn):=by rw [uj];simp [iz,h3]
   have dJ:=List.pairwise_iff_getElem.1 dJ;obtain ⟨a1,a2⟩:=fh.1 l1;obtain ⟨b1,b2⟩:=fh.1 l2
   rcases Nat.lt_trichotomy i j with h|h|h
   ·exact (dJ i j a1 b1 h (by rw [a2,b2])).elim
   ·exact h
   ·exact (dJ j i b1 a1 h (by rw [a2,b2])).elim
  rcases wq with ⟨_,_,h⟩|⟨i,c,hi,hg,_,Φ⟩
  ·exact (h _ (mb NO) rfl).elim
  ·have eQ:=uniq i c hi;subst eQ;rw [NO] at hi;cases hi;refine ⟨hg,hrv,fun v=>?_⟩
   rcases BR rn v rows with ⟨h,_,_⟩|⟨i',c',bm,_,ew,_⟩
   ·rw [hg] at h;cases h
   ·rw [ew,uniq i' c' bm]
def VW {ag:Bool} {y:AV} {u:Value} {yc:List AV} (h:zB ag y=some yc) (hy:Rd w F β y u):bg w F (sa ag yc) u:=by
 cases ag with
 |true =>
  cases y<;>simp [zB] at h;rename_i cs;cases hc:cs.all fp with
  |false=>rw [hc] at h;cases h
  |true =>
   rw [hc] at h;cases h;exact I' (x:=.a yc) (by simpa [kg] using hc) hy
 |false =>
  by_cases hc:∃fn,y=.c fn [] []
  ·obtain ⟨fn,rfl⟩:=hc;cases (show some [AV.c fn [] []]=some yc from h);obtain ⟨us,vs,rfl,h1,h2,_,_⟩:=hy.nt
   exact .c h1 h2 (fun i hi=>by simp at hi) fun i hi=>by simp at hi
  have hi:fp y=true∧yc=[y]:=by
   cases y with
   |c fn fs cs =>
    cases fs with
    |cons a b=>simp [zB,fp] at h
    |nil=>cases cs with
     |cons a b=>simp [zB,fp] at h
     |nil=>exact (hc ⟨fn,rfl⟩).elim
   |_=>simp [zB,fp] at h ⊢<;>exact h.symm
  rw [hi.2];exact nQ hi.1 hy
def OT {x:AV} {u:Value} (h:bg w F x u):bg w F (nz x) u:=by
 unfold nz;split
 ·cases h;exact .s0
 ·exact h
def aex {rows:List (List AV)} {u:Value} (hr:bg w F (.s rows) u):bg w F (.s (rows.map fun r=>r.map nz)) u:=by
 cases hr with
 |s0=>exact .s0
 |@s _ b off c k u hb hc hm hk eO fb fB =>
  have hg:∀i,i<rows.length→(rows.map (fun r=>r.map nz)).getD i []=(rows.getD i []).map nz:=fun i hi=>by simp [aV,hi]
  have h2:=bg.s (w:=w) (F:=F) (rows:=rows.map (fun r=>r.map nz)) (b:=b) (off:=off) (c:=c) (k:=k) (u:=u) hb (by simpa using hc) hm (fun i hi=>by
   have hi:i<rows.length:=by simpa using hi
   rw [hg i hi,List.length_map];exact hk i hi) (fun i j hi hj=>eO i j (by simpa using hi) hj) (fun i j hi hj=>fb i j (by simpa using hi) hj) (fun i j hi hj=>by
   have hi:i<rows.length:=by simpa using hi
   rw [hg i hi];have rC:=hk i hi
   have:((rows.getD i []).map nz).getD j .χ=nz ((rows.getD i []).getD j .χ):=by
    have dq:j<(rows.getD i []).length:=by omega
    simp only [fW,uj] at dq ⊢;rw [bU dq];rfl
   rw [this];exact OT (fB i j hi hj))
  simpa using h2
def ail {ag:Bool} {zc:List AV} {u:Value} (h:bg w F (sa ag zc) u):bg w F (sa ag (zc.map nz)) u:=by
 cases ag with
 |true =>
  cases h with
  |a hs h1 h =>
   refine .a (by simpa using hs) (fun i hi=>h1 i (by simpa using hi)) fun i hi=>?_
   have hi:i<zc.length:=by simpa using hi
   have:(zc.map nz).getD i .χ=nz (zc.getD i .χ):=by simp [aV,hi]
   rw [this];exact OT (h i hi)
 |false =>
  show bg w F ((zc.map nz).getD 0 .χ) u;have h:bg w F (zc.getD 0 .χ) u:=h;cases zc with
  |nil=>exact h
  |cons x r=>exact OT h
def agZ {t:Nat} {m i:AV} {c:Bool} {vm vi:Value} (hT:bO P T) (hI:Inv w F β H) (hm:Rd w F β m vm) (hi:Rd w F β i vi) (h:Px T t m i c H k):cz P (K9 t vm vi c) w F β k:=by
 unfold Px at h;split at h
 ·rename_i ti jF;split at h
  ·rename_i kt e hk;have hu:=(hT _ _ jF).map hk;split at h
   ·rename_i ik ie nH uN;split at h
    ·rename_i id n rC;have hd:=(hT _ _ nH).int rC;cases hi.bN;split at h
     ·rename_i ag rows zc hc hz;obtain ⟨sW,r,c8,h⟩:=cond_prop h
      have sW:ag=p7 ie.kind:=by simpa using sW
      obtain ⟨b,ah,rfl⟩:=hm.zz;obtain ⟨b',es,ck,iT,hh,bV,hs,gp,wJ⟩:=hI.holds _ _ (eZ hc);rw [ah] at iT;cases iT;have hg:=Zg (P:=P) hh;have eP:=Go.MapKept.run_checkKey (P:=P) (w:=w) (k:=.int .i64 n) hd rfl es.isEmpty 9999;obtain ⟨_,hf⟩:=SV bV hs wJ n;have hzero:=(hT _ _ uN).tQ w
      have wI:∃v ok,(K9 t (.map (some b)) (.int .i64 n) c).run P w=.ok (if c then .tuple #[v,.bool ok] else v) w∧bg w F (sa ag r) v∧ok=(bn n rows).isSome:=by
       rcases hf with ⟨h1,h2,_⟩|⟨j,e',c',h1,_,_,_,h2,h3,_⟩
       ·have yH:=GX (P:=P) (w:=w) hd h1;refine ⟨ie.zero,false,?_,?_,by rw [h2];rfl⟩
        ·simp [K9,run_underlying hu,hg,eP,yH,hzero]
        ·rw [←c8,h2,Option.getD_none,sW];exact ail (VW hz (nV w F ie.zero β))
       ·have yH:=GX (P:=P) (w:=w) hd h1;refine ⟨e'.val,true,?_,?_,by rw [h2];rfl⟩
        ·simp [K9,run_underlying hu,hg,eP,yH]
        ·rw [←c8,h2,AF];exact h3
      obtain ⟨v,ok,aY,hv,bX⟩:=wI;cases c with
      |true =>
       obtain ⟨b2,iA,cI⟩:=h;refine cz.mk aY cI (.i (.t rfl fun i hi=>?_))
       match i,hi with
       |0,_=>exact hv
       |1,_ =>
        show bg w F (.v (.bool b2)) (.bool ok);rw [bX,iA];exact .v (.inl rfl)
      |false=>exact cz.mk aY h (.i hv)
     ·cases h
    ·cases h
   ·cases h
  ·cases h
 ·cases h
end
end
section
open Go.RowKit
variable [M:bM] [G:cK]
section
variable {P:Program} {T:TT} {w:World} {F:Nat→Prop} {β:Nat→Value} {H:Hp} {k:AV→Prop}
def vR (w:World) (o:Obj):Below w.heap.size w (w.alloc o):=(Below.refl _ _).alloc (bG _) _
def Pn {t len:Nat} {parts:List (Nat×AV)} {vs:Array (Nat×Value)} (hT:bO P T) (hl:parts.length=vs.size)
  (hv:∀i,i<parts.length→(parts.getD i (0,.χ)).1=(vs.toList.getD i (0,undef)).1∧Rd w F β (parts.getD i (0,.χ)).2 (vs.toList.getD i (0,undef)).2)
  {K:List (List AV)→Nat→Nat→Prop} (h:zZ T t len parts K) :
  ∃rows e size us,K rows e size∧T t=some ⟨.slice e,(((T t).map (·.cells)).getD 0),(((T t).map (·.bytes)).getD 0),(((T t).map (·.zero)).getD undef)⟩∧0<size∧rows.length=len∧(∀i,i<rows.length→(rows.getD i []).length=size) ∧
   sz w F β rows.flatten us∧us.size=len*size∧(Rc t len vs).run P w=.ok (.slice (some ⟨w.heap.size,0,none⟩) len len) (w.alloc (.cells us e))∧len≤16777216:=by
 unfold zZ at h;split at h
 ·rename_i i hi;split at h
  ·rename_i e he;split at h
   ·rename_i j hj;split at h
    ·rename_i rows UP;obtain ⟨hb,hk⟩:=cond_prop h;simp only [bE] at hb;obtain ⟨h1,h2,h3⟩:=hb;have h1:parts.length=len:=cT h1
     have h2:len*j.cells≤16777216:=by simpa using h2
     have h3:0<j.cells:=by
      rcases Nat.eq_zero_or_pos j.cells with h0|h0
      ·rw [h0] at h3;cases h3
      ·exact h0
     obtain ⟨nM,hri⟩:=Xb UP;have hu:=(hT _ _ hi).slice he;have aX:=(hT _ _ hj).kZ w;have hz:=(hT _ _ hj).tQ w;let zs:Array Value:=(nf (len*j.cells)).map (j.zero.cells[· % j.zero.cells.size]!);obtain ⟨us,hf,fD⟩:=abm (w:=w) (F:=F) (β:=β) h3 parts vs.toList 0 rows [] zs (by simpa using hl) hv UP (by simp) (by simp [zs,h1]) (fun i hi=>by simp at hi);simp only [List.nil_append] at fD
     have lD:∀i,i<rows.length→(rows.getD i []).length=j.cells:=fun i hi=>by
      obtain ⟨_,_,hs,hr⟩:=hri i (by omega);rw [hr];exact hs
     have Bg:=H6 rows lD;refine ⟨rows,e,j.cells,us,hk,?_,h3,by omega,lD,fD,by rw [fD.1,Bg,nM,h1],?_,?_⟩
     ·rw [hi];simp;rw [←he]
     ·unfold Rc;simp only [kC,run_underlying hu,mg,aX];rw [if_neg (by omega)];by_cases yR:len*j.cells=0
      ·have acv:len=0:=by rcases Nat.mul_eq_zero.1 yR with h|h;exact h;omega
       subst acv;have hp:parts=[]:=qQ h1;subst hp;have jk:vs.toList=[]:=qQ (by simpa using hl.symm);rw [if_pos yR]
       have iG:zs=#[]:=by simp [zs]
       have N4:us=#[]:=by
        rw [jk,iG] at hf;simpa [vC] using hf.symm
       subst N4;have c8:nf 0=#[]:=ue (by simp);simp [jk,vC,newRow,c8]
      ·rw [if_neg yR];simp only [kC,hz,mg,Lm];have uI:vC (fun i=>some (i*j.cells,j.cells)) ((nf (len*j.cells)).map (j.zero.cells[· % j.zero.cells.size]!)) vs.toList=some us:=hf;rw [uI];simp [newRow]
     ·exact fi (Nat.le_mul_of_pos_right len h3) h2
    ·cases h
   ·cases h
  ·cases h
 ·cases h
def agA {rows:List (List AV)} {size b cap:Nat} {us:Array Value} {e:TypeId} {fr:Nat×Nat} (lD:∀i,i<rows.length→(rows.getD i []).length=size) (fD:∀i,i<rows.flatten.length→(us.getD i undef).oneCell'=true∧bg w F (rows.flatten.getD i .χ) (us.getD i undef))
  (aX:rows.flatten.length≤us.size) (hb:F b) (hh:w.heap[b]?=some (.cells us e fr)) (hc:rows.length≤cap) (hm:cap≤maxLen):bg w F (.s rows) (.slice (some ⟨b,0,none⟩) rows.length cap):=by
 have Bg:=H6 rows lD
 have Φ:∀i j,i<rows.length→j<size→i*size+j<rows.flatten.length:=fun i j hi hj=>by
  rw [Bg]
  calc i*size+j<i*size+size:=by omega
   _=(i+1)*size:=by rw [bP];omega
   _≤rows.length*size:=cG _ hi
 refine .s (k:=size) (u:=fun i j=>us.getD (i*size+j) undef) hb hc hm lD (fun i j hi hj=>?_) (fun i j hi hj=>(fD _ (Φ i j hi hj)).1) fun i j hi hj=>?_
 ·rw [cell_of_row w b _ us e fr hh,jL];have:=Φ i j hi hj
  have h2:i*size+j<us.size:=by omega
  simp [h2]
 ·have:=(fD _ (Φ i j hi hj)).2;rwa [Mo rows i j lD hi hj] at this
def Vf {rows:List (List AV)} {us:Array Value} (hi:rows.all (fun r=>r.all fp)=true) (h:sz w F β rows.flatten us) :
  ∀i,i<rows.flatten.length→(us.getD i undef).oneCell'=true∧bg w F (rows.flatten.getD i .χ) (us.getD i undef):=by
 intro i Φ;refine ⟨(h.2 i Φ).1,nQ ?_ (h.2 i Φ).2⟩
 have hm:rows.flatten.getD i .χ∈rows.flatten:=by
  rw [fW,bU Φ];exact eI Φ
 obtain ⟨r,hr,hx⟩:=List.mem_flatten.1 hm;exact ej.1 (ej.1 hi r hr) _ hx
def agM {t len:Nat} {parts:List (Nat×AV)} {vs:Array (Nat×Value)} (hT:bO P T) (hI:Inv w F β H) (hl:parts.length=vs.size)
  (hv:∀i,i<parts.length→(parts.getD i (0,.χ)).1=(vs.toList.getD i (0,undef)).1∧Rd w F β (parts.getD i (0,.χ)).2 (vs.toList.getD i (0,undef)).2)
  (h:zZ T t len parts fun rows _ _=>bif rows.all (fun r=>r.all fp) then k (.s (rows.map fun r=>r.map nz)) else False):cz P (Rc t len vs) w F β k:=by
 obtain ⟨rows,e,size,us,hk,_,hs,nM,lD,fD,aX,aY,hlen⟩:=Pn hT hl hv h;obtain ⟨hi,hk⟩:=cond_prop hk;have hb:=vR w (.cells us e);have hF:=hI.cC;refine ⟨_,_,_,aY,hb,hk,.i (aex ?_)⟩;have gW:=Vf hi fD;rw [←nM];refine agA (size:=size) (e:=e) (fr:=(0,0)) lD (fun i hi=>⟨(gW i hi).1,((gW i hi).2.frame (Below.agree hb hF) fun _ h=>.inl h)⟩) (by rw [fD.1];exact bG _)
  (.inr ⟨bG _,by simp⟩) (heap_alloc_new w _) (bG _) (by rw [nM];unfold maxLen;omega)
def Xi {mn:Bool} {xs:List AV} {vs:List Value} (hl:vs.length=xs.length) (hv:∀i,i<xs.length→Rd w F β (xs.getD i .χ) (vs.getD i undef)) (h:Kc mn xs k) (ts:Array TypeId) (ty:TypeId) :
  cz P (if mn then alv ts ty vs.toArray else alw ts ty vs.toArray) w F β k:=by
 unfold Kc at h;split at h
 ·rename_i kx a ky b;obtain ⟨hb,r,rfl,hk⟩:=cond_prop h;obtain rfl:=R2 hb
  match vs,hl with
  |[u,v],_ =>
   have h0:=(hv 0 (by simp)).bN;have h1:=(hv 1 (by simp)).bN;simp at h0 h1;subst h0;subst h1;cases mn with
   |true =>
    refine cz.mk (v:=.int kx (min a b)) ?_ hk (.i (.v (.inl rfl)));simp [alv,Builtin.min2];split<;>congr 2<;>omega
   |false =>
    refine cz.mk (v:=.int kx (max a b)) ?_ hk (.i (.v (.inl rfl)));simp [alw,Builtin.max2];split<;>congr 2<;>omega
 ·cases h
def agP {b:Builtin} {ts:List Nat} {xs:List AV} {vs:List Value} (hT:bO P T) (hI:Inv w F β H) (hl:vs.length=xs.length)
  (hv:∀i,i<xs.length→Rd w F β (xs.getD i .χ) (vs.getD i undef)) (h:Ka T b ts xs H k) (ty:TypeId) (cs:Array Bool) :
  uu P (builtin b ts.toArray ty cs vs.toArray) w fun v w'=>∃r,k r∧Rd w' (fG F w w') β r v:=by
 unfold Ka at h;split at h
 ·rename_i t x
  match vs,hl with
  |[u],_ =>
   exact (agX hT hI (by simpa using hv 0 (by simp)) h).out
 ·rename_i t
  match vs,hl with
  |[u],_ =>
   have N1:Rd w F β (.v (.slice none 0 0)) u:=by simpa using hv 0 (by simp)
   cases N1.bN;split at h
   ·rename_i i hi;split at h
    ·rename_i e he;have hu:=(hT _ _ hi).slice he;exact (cz.mk (s:=alx #[t] ty #[.slice none 0 0]) (by simp [alx,run_underlying hu,goInt]) h (.i (.v (.inl rfl)))).out
    ·cases h
   ·cases h
 ·exact (Xi (mn:=true) hl hv h ts.toArray ty).out
 ·exact (Xi (mn:=false) hl hv h ts.toArray ty).out
 ·cases h
def agR {f:AV} {vf:Value} {xs:List AV} {vs:Array Value} (hI:Inv w F β H) (hf:Rd w F β f vf) (hl:vs.size=xs.length)
  (hv:∀i,i<xs.length→Rd w F β (xs.getD i .χ) (vs.getD i undef)) (h:Kb P f xs H k) :
  uu P (do let d ←l8 vf vs;invoke d.target d.args) w fun v w'=>∃r,k r∧Rd w' (fG F w w') β r v:=by
 unfold Kb at h;split at h
 ·rename_i g fs cs;obtain ⟨r,⟨⟨fn,c,dE,dN,yy⟩,hp⟩,hk⟩:=h;obtain ⟨us,ws,rfl,hs,ew,hu,hw⟩:=hf.nt;refine .inr ⟨g,us++vs++ws,?_,?_⟩
  ·have rG : ¬ fn.name = "runtime.NumGoroutine" := by simpa using dN
   simp [l8,invoke,callFunc,dE,rG,yy]
  ·refine (hp w F β (us++vs++ws) hI ?_ fun i hi=>?_).mono ?_
   ·simp [hs,hl,ew]
   ·simp only [dj] at hi
    have e1:(fs++(xs++cs)).getD i .χ=if i<fs.length then fs.getD i .χ else if i<fs.length+xs.length then xs.getD (i-fs.length) .χ else cs.getD (i-fs.length-xs.length) .χ:=by
     simp only [aV,gG];by_cases h1:i<fs.length
     ·simp [h1]
     ·by_cases h2:i<fs.length+xs.length
      ·simp [h1,h2,show i-fs.length<xs.length by omega]
      ·simp [h1,h2,show ¬i-fs.length<xs.length by omega]
    have e2:(us++vs++ws).getD i undef=if i<fs.length then us.getD i undef else if i<fs.length+xs.length then vs.getD (i-fs.length) undef else ws.getD (i-fs.length-xs.length) undef:=by
     simp only [lh,pV,uf,hs,hl];by_cases h1:i<fs.length
     ·simp [h1,show i<fs.length+xs.length by omega]
     ·by_cases h2:i<fs.length+xs.length
      ·simp [h1,h2]
      ·simp [h1,h2,Nat.sub_sub]
    rw [e1,e2];by_cases h1:i<fs.length
    ·rw [if_pos h1,if_pos h1];exact hu i h1
    ·rw [if_neg h1,if_neg h1];by_cases h2:i<fs.length+xs.length
     ·rw [if_pos h2,if_pos h2];exact hv _ (by omega)
     ·rw [if_neg h2,if_neg h2];exact hw _ (by omega)
   ·rintro e w' ⟨v,rfl,hb,hr⟩;exact ⟨v,rfl,hb,r,hk,.i hr⟩
 ·cases h
def agO {b:Builtin} {args:Array Operand} {argTypes:Array TypeId} {ρ:Operand→AV} {a:Act} {type:TypeId} (hT:bO P T) (hI:Inv w F β H)
  (mN:∀i,i<(args.toList.map ρ).length→Rd w F β ((args.toList.map ρ).getD i .χ) ((args.map a.eval).getD i undef)) (h:Ka T b argTypes.toList (args.toList.map ρ) H k) :
  uu P (do let d ←resolve a.eval { callee:=.builtin b,args:=args,argTypes:=argTypes } type;invoke d.target d.args) w fun v w'=>∃r,k r∧Rd w' (fG F w w') β r v:=by
 have h1:=agP (P:=P) (ts:=argTypes.toList) (vs:=(args.map a.eval).toList) hT hI (by simp) (fun i hi=>by simpa using mN i hi) h type (args.map fun|.const _=>true|_=>false);have e:(do let d ←resolve a.eval { callee:=.builtin b,args:=args,argTypes:=argTypes } type;invoke d.target d.args:Sem Next)=builtin b argTypes type (args.map fun|.const _=>true|_=>false) (args.map a.eval):=rfl;rw [e];exact h1
def agQ {f:Operand} {args:Array Operand} {argTypes:Array TypeId} {ρ:Operand→AV} {a:Act} {type:TypeId} (hI:Inv w F β H) (hf:Rd w F β (ρ f) (a.eval f))
  (mN:∀i,i<(args.toList.map ρ).length→Rd w F β ((args.toList.map ρ).getD i .χ) ((args.map a.eval).getD i undef)) (h:Kb P (ρ f) (args.toList.map ρ) H k) :
  uu P (do let d ←resolve a.eval { callee:=.value f,args:=args,argTypes:=argTypes } type;invoke d.target d.args) w fun v w'=>∃r,k r∧Rd w' (fG F w w') β r v:=by
 have e:(do let d ←resolve a.eval { callee:=.value f,args:=args,argTypes:=argTypes } type;invoke d.target d.args:Sem Next)=(do let d ←l8 (a.eval f) (args.map a.eval);invoke d.target d.args):=rfl;rw [e];exact agR hI hf (by simp) mN h
def JL (ρ:Operand→AV) (e:Operand→Value) (parts:Array (Nat×Operand)):(parts.toList.map fun q=>(q.1,ρ q.2)).length=(parts.map fun x=>(x.1,e x.2)).size:=by simp
def JM {ρ:Operand→AV} {e:Operand→Value} {parts:Array (Nat×Operand)} (h:∀x,(∃i,(i,x)∈parts)→Rd w F β (ρ x) (e x)) (i:Nat) (hi:i<(parts.toList.map fun q=>(q.1,ρ q.2)).length) :
  ((parts.toList.map fun q=>(q.1,ρ q.2)).getD i (0,.χ)).1=((parts.map fun x=>(x.1,e x.2)).toList.getD i (0,undef)).1 ∧
   Rd w F β ((parts.toList.map fun q=>(q.1,ρ q.2)).getD i (0,.χ)).2 ((parts.map fun x=>(x.1,e x.2)).toList.getD i (0,undef)).2:=by
 simp at hi;have:=h parts[i].2 ⟨parts[i].1,Array.getElem_mem hi⟩;simpa [aV,hi] using this
def BW {x:AV} {u:Value} (h:bg w F x u):bg w F (nz x) u:=by
 unfold nz;split
 ·cases h;exact .s0
 ·exact h
def VK {z:Array Value} {n q:Nat} (h:q<n):((nf n).map (z[· % z.size]!)).getD q undef=z[q % z.size]! := by simp [h]
def ag0 {t:Nat} {l c:AV} {vl vc:Value} (hT:bO P T) (hI:Inv w F β H) (hl:Rd w F β l vl) (hc:Rd w F β c vc) (h:Py T t l c k):cz P (vD t vl vc) w F β k:=by
 unfold Py at h;split at h
 ·rename_i i kl nl kc nc hi;cases hl.bN;cases hc.bN;split at h
  ·rename_i e he;have hu:=(hT _ _ hi).slice he;split at h
   ·rename_i j hj;obtain ⟨hb,n,m,rfl,rfl,dN,hm,kM,R,rfl,hk⟩:=cond_prop h;simp only [bE] at hb;obtain ⟨bX,hlen,gW⟩:=hb;have hlen:(bu (cr j.zero)).length=j.cells:=cT hlen;have hz:=o9 (nV w F j.zero β) bX
    have iG:j.zero.cells.size=j.cells:=by rw [hz.1,hlen]
    obtain ⟨inf,pr,hzero,eL,nC⟩:=(hT _ _ hj).info;have qo:IntKind.i64.wrap (n:Int)=(n:Int):=qO _ (by omega);have ER:IntKind.i64.wrap (m:Int)=(m:Int):=qO _ (by omega)
    have hbm:(inf.bytes:Int)*(m:Int)≤140737488355328:=by
     have h5:((m*j.bytes:Nat):Int)=(j.bytes:Int)*(m:Int):=by rw [Int.natCast_mul,Int.mul_comm]
     rw [nC,←h5];omega
    have aY:(vD t (.int kl (n:Int)) (.int kc (m:Int))).run P w=.ok (.slice (some ⟨w.heap.size,0,none⟩) n m) (w.alloc (.cells ((nf (m*j.cells)).map (j.zero.cells[· % j.zero.cells.size]!)) e)):=by
     have h1:¬((m:Int)<0):=by omega
     have h2:¬(281474976710656<(inf.bytes:Int)*(m:Int)):=by omega
     have h3:¬((n:Int)<0):=by omega
     have h4:¬((m:Int)<(n:Int)):=by omega
     by_cases h0:m*j.cells=0
     ·have c8:nf (m*j.cells)=#[]:=by rw [h0];exact ue (by simp)
      simp [vD,run_underlying hu,asInt,asIntOf,typeInfo,pr,qo,ER,h1,h2,h3,h4,sizeOf,eL,h0,newRow];rw [h0] at c8;simp [c8]
     ·simp [vD,run_underlying hu,asInt,asIntOf,typeInfo,pr,qo,ER,h1,h2,h3,h4,sizeOf,eL,h0,newRow,zeroValue,hzero]
    let w':=w.alloc (.cells ((nf (m*j.cells)).map (j.zero.cells[· % j.zero.cells.size]!)) e);have IA:=vR w (.cells ((nf (m*j.cells)).map (j.zero.cells[· % j.zero.cells.size]!)) e)
    have Nj:w'.heap[w.heap.size]?=some (.cells ((nf (m*j.cells)).map (j.zero.cells[· % j.zero.cells.size]!)) e (0,0)):=by
     show (w.heap.push _)[w.heap.size]?=_;exact Array.getElem?_push_size
    refine ⟨_,_,_,aY,IA,hk,.i ?_⟩;have:=bg.s (w:=w') (F:=fG F w w') (rows:=ij n ((bu (cr j.zero)).map nz)) (b:=w.heap.size) (off:=0) (c:=m) (k:=j.cells) (u:=fun q z=>((nf (m*j.cells)).map (j.zero.cells[· % j.zero.cells.size]!)).getD (q*j.cells+z) undef)
     (.inr ⟨bG _,by simp [w']⟩) (by simpa using dN) (by unfold maxLen;omega) (fun q hq=>by simp at hq;simp [aV,hq,hlen]) (fun q z hq iS=>?_) (fun q z hq iS=>?_) (fun q z hq iS=>?_)
    ·simpa using this
    all_goals
     simp only [List.length_replicate] at hq
     have Φ:q*j.cells+z<m*j.cells:=by
      calc q*j.cells+z<q*j.cells+j.cells:=by omega
       _=(q+1)*j.cells:=by rw [bP];omega
       _≤m*j.cells:=cG _ (by omega)
    ·rw [cell_of_row _ _ _ _ _ _ Nj,jL];simp [Φ]
    all_goals
     rw [VK Φ,iG]
     have e1:(q*j.cells+z) % j.cells=z:=by rw [Nat.mul_comm,Nat.mul_add_mod];exact Nat.mod_eq_of_lt iS
     rw [e1];have h2:=hz.2 z (by omega)
     have e2:j.zero.cells[z]! = j.zero.cells.getD z undef:=by
      have:z<j.zero.cells.size:=by omega
      simp [this]
     rw [e2]
    ·exact h2.1
    ·have e3:((ij n ((bu (cr j.zero)).map nz)).getD q []).getD z .χ=nz ((bu (cr j.zero)).getD z .χ):=by
      have zo:z<(bu (cr j.zero)).length:=by omega
      simp [aV,hq,zo]
     rw [e3];refine (BW (nQ (ej.1 gW _ ?_) h2.2)).frame (Below.agree IA hI.cC) fun _ h=>.inl h;rw [fW,bU (show z<(bu (cr j.zero)).length by omega)];exact eI _
   ·cases h
  ·cases h
 ·cases h
def KE {o:Oper} {ρ:Operand→AV} {a:Act} (hT:bO P T) (hI:Inv w F β H) (bJ:∀x,x∈o.op.operands→Rd w F β (ρ x) (a.eval x))
  (h:mZ P T o ρ H k):uu P (execOp a.eval o) w fun v w'=>∃r,k r∧Rd w' (fG F w w') β r v:=by
 obtain ⟨dst,op,type,pos,after,guard⟩:=o;cases op<;>simp only [mZ] at h<;>simp only [Op.operands] at bJ<;>simp only [execOp]
 case move x=>exact .inl ⟨_,w,rfl,Below.refl _ _,_,h,(bJ x (by simp)).here⟩
 case assign x=>exact .inl ⟨_,w,rfl,Below.refl _ _,_,h,(bJ x (by simp)).here⟩
 case pick c x y=>exact ag2 (bJ c (by simp)) (bJ x (by simp)) (bJ y (by simp)) h
 case extract t i=>exact (agT (bJ t (by simp)) h).out
 case unOp op t x=>exact (ag5 (bJ x (by simp)) h).out
 case binOp op t x y t'=>exact (agL hT (bJ x (by simp)) (bJ y (by simp)) x y h).out
 case convert s d x=>exact (agS hT (bJ x (by simp)) h).out
 case fieldAddr t x f=>exact (agU hT (bJ x (by simp)) h).out
 case load t x=>exact (agY hT hI (bJ x (by simp)) h).out
 case indexAddr t x i=>exact (agV hT hI (bJ x (by simp)) (bJ i (by simp)) h).out
 case lookup t x i c=>exact (agZ hT hI (bJ x (by simp)) (bJ i (by simp)) h).out
 case index t x i=>exact (agW hT (bJ x (by simp)) (bJ i (by simp)) h).out
 case slice t x lo hi mx =>
  cases mx with
  |some m =>
   cases lo with
   |some l=>unfold FL at h;split at h<;>first|exact h.elim|simp_all
   |none=>cases hi with
    |none=>unfold FL at h;split at h<;>first|exact h.elim|simp_all
    |some l=>exact (ag3 hT (bJ x (by simp)) (bJ l (by simp)) (bJ m (by simp)) h).out
  |none =>
   refine (ag4 (vlo:=lo.map a.eval) (vhi:=hi.map a.eval) hT (bJ x (by simp)) ?_ ?_ hI h).out
   ·cases lo with
    |none=>exact True.intro
    |some l=>exact bJ l (by simp)
   ·cases hi with
    |none=>exact True.intro
    |some l=>exact bJ l (by simp)
 case build t parts =>
  exact (agN hT (JL ρ a.eval parts) (JM fun x hx=>bJ x (by simpa using hx)) h).out
 case buildSlice t n parts =>
  exact (agM hT hI (JL ρ a.eval parts) (JM fun x hx=>bJ x (by simpa using hx)) h).out
 case makeFunc fn fs cs =>
  refine .inl ⟨_,w,rfl,Below.refl _ _,_,h,?_⟩;refine .c (by simp) (by simp) (fun i hi=>?_) fun i hi=>?_
  ·simp at hi;have:=bJ (fs[i]) (by simp);simpa [aV,hi] using this.here
  ·simp at hi;have:=bJ (cs[i]) (by simp);simpa [aV,hi] using this.here
 case nilCheck x =>
  obtain ⟨⟨r,hk,hr⟩,hs⟩:=ag1 (bJ x (by simp)) h;generalize a.eval x=vx at hr hs ⊢
  rcases hs with ⟨a,rfl⟩|⟨g,fs,cs,rfl⟩
  iterate 2 exact .inl ⟨_,w,rfl,Below.refl _ _,_,hk,hr.here⟩
 case makeSlice t l c=>exact (ag0 hT hI (bJ l (by simp)) (bJ c (by simp)) h).out
 case call c =>
  obtain ⟨callee,args,argTypes⟩:=c
  have mN:∀i,i<(args.toList.map ρ).length→Rd w F β ((args.toList.map ρ).getD i .χ) ((args.map a.eval).getD i undef):=fun i hi=>by
   simp at hi;have:=bJ args[i] (by simp [Call.operands]);simpa [aV,hi] using this
  cases callee with
  |builtin b=>exact agO hT hI mN h
  |value f=>exact agQ hI (bJ f (by simp [Call.operands])) mN h
  |invoke r m=>cases h
 all_goals cases h
end
end
section
open Go.RowKit
variable [M:bM] [G:cK]
def sb (z:AV):Nat→Nat→AV→AV
 |n,id,x=>match x with
  |.b i o=>bif aH i id then .χ else .b i o
  |.o i=>bif aH i id then z else .o i
  |.e i K m j=>bif aH i id then .χ else .e i K m j
  |.w i K d=>bif aH i id then .χ else .w i K d
  |.m i=>bif aH i id then .χ else .m i
  |.a cs=>match n with
   |0=>.χ
   |n+1=>.a (cs.map (sb z n id))
  |.t cs=>match n with
   |0=>.χ
   |n+1=>.t (cs.map (sb z n id))
  |.c fn fs cs=>match n with
   |0=>.χ
   |n+1=>.c fn (fs.map (sb z n id)) (cs.map (sb z n id))
  |.v x=>.v x
  |.s r=>.s r
  |.p c=>.p c
  |.z=>.z
  |.χ=>.χ
abbrev er (n id:Nat) (x:AV):AV:=sb .χ n id x
def pb (id:Nat):Chunk→Chunk
 |.box cells=>.box (cells.map (er 1 id))
 |.own E k rows=>.own E k rows
 |.mp ag rows=>.mp ag rows
 |.lp l e R L=>.lp l e R (L.map fun p=>(p.1,er 2 id p.2))
 |.si s pos=>.si s pos
def gT (id:Nat):Hp→Hp
 |[]=>[]
 |(i,c)::r=>bif aH i id then gT id r else (i,pb id c)::gT id r
def dX (f:Nat→AV) (d:Nat) (x:AV):Nat→AV:=fun t=>bif aH t d then x else f t
section
variable {w:World} {F:Nat→Prop} {β av:Nat→Value}
def H3 {id i:Nat} {x:AV} {u:Value} (h:i≠id→Rd w F av x u):Rd w F av (bif aH i id then .χ else x) u:=by
 cases hb:aH i id with
 |true=>exact .χ
 |false=>exact h fun e=>by rw [e,iW] at hb;cases hb
def ag8 {z:AV} {id i:Nat} {x:AV} {u:Value} (hz:i=id→Rd w F av z u) (h:i≠id→Rd w F av x u):Rd w F av (bif aH i id then z else x) u:=by
 cases hb:aH i id with
 |true=>exact hz (cT hb)
 |false=>exact h fun e=>by rw [e,iW] at hb;cases hb
def rV {z:AV} {id:Nat} (hz:∀u,Rd w F β (.o id) u→Rd w F av z u) (ah:∀i,i≠id→av i=β i):∀(n:Nat) {x:AV} {u:Value},Rd w F β x u→Rd w F av (sb z n id x) u:=by
 have RZ:∀{i o:Nat} {u:Value},Rd w F β (.b i o) u→Rd w F av (bif aH i id then .χ else .b i o) u:=fun h=>H3 fun hi=>by
  obtain ⟨eX,h1,rfl⟩:=h.mz;exact .b ((ah _ hi).trans h1)
 have V1:∀{i:Nat} {u:Value},Rd w F β (.o i) u→Rd w F av (bif aH i id then z else .o i) u:=fun h=>ag8 (fun e=>hz _ (e▸h)) fun hi=>by
  obtain ⟨a,n,c,h1,rfl⟩:=h.jY;exact .o ((ah _ hi).trans h1)
 have SE:∀{i K m j:Nat} {u:Value},Rd w F β (.e i K m j) u→Rd w F av (bif aH i id then .χ else .e i K m j) u:=fun h=>H3 fun hi=>by
  obtain ⟨g,n,c,h1,rfl⟩:=h.AY;exact .e ((ah _ hi).trans h1)
 have VJ:∀{i:Nat} {u:Value},Rd w F β (.m i) u→Rd w F av (bif aH i id then .χ else .m i) u:=fun h=>H3 fun hi=>by
  obtain ⟨b,h1,rfl⟩:=h.zz;exact .m ((ah _ hi).trans h1)
 have Yl:∀{i K d:Nat} {u:Value},Rd w F β (.w i K d) u→Rd w F av (bif aH i id then .χ else .w i K d) u:=fun h=>H3 fun hi=>by
  obtain ⟨a,a',n,c,h1,h2,h3,rfl⟩:=h.xi;exact .w ((ah _ hi).trans h1) h2 h3
 have Yh:∀{x u:Value},Rd w F β (.v x) u→Rd w F av (.v x) u:=fun h=>by cases h;exact .i (by assumption)
 intro n;induction n with
 |zero =>
  intro x u h;cases x with
  |v x=>exact Yh h
  |s r=>exact .i h.oP
  |p c=>exact .i h.B0
  |χ=>exact .χ
  |a cs=>exact .χ
  |t cs=>exact .χ
  |c fn fs cs=>exact .χ
  |b i o=>exact RZ h
  |o i=>exact V1 h
  |e i K m j=>exact SE h
  |w i K d=>exact Yl h
  |m i=>exact VJ h
  |z=>obtain ⟨a,rfl⟩:=h.Av;exact .i .z
 |succ n ih =>
  have get:∀(l:List AV) (i:Nat),i<l.length→(l.map (sb z n id)).getD i .χ=sb z n id (l.getD i .χ):=fun l i hi=>by simp [aV,hi]
  intro x u h;cases x with
  |v x=>exact Yh h
  |s r=>exact .i h.oP
  |p c=>exact .i h.B0
  |χ=>exact .χ
  |a cs =>
   show Rd w F av (.a (cs.map (sb z n id))) u;obtain ⟨us,rfl,hs,h1,hr⟩:=h.qY;refine .a (by simpa using hs) (fun i hi=>h1 i (by simpa using hi)) fun i hi=>?_
   have hi:i<cs.length:=by simpa using hi
   rw [get cs i hi];exact ih (hr i hi)
  |t cs =>
   show Rd w F av (.t (cs.map (sb z n id))) u;obtain ⟨us,rfl,hs,hr⟩:=h.CC;refine .t (by simpa using hs) fun i hi=>?_
   have hi:i<cs.length:=by simpa using hi
   rw [get cs i hi];exact ih (hr i hi)
  |c fn fs cs =>
   show Rd w F av (.c fn (fs.map (sb z n id)) (cs.map (sb z n id))) u;obtain ⟨us,vs,rfl,hs,ew,hr,cJ⟩:=h.nt;refine .c (by simpa using hs) (by simpa using ew) (fun i hi=>?_) fun i hi=>?_
   ·have hi:i<fs.length:=by simpa using hi
    rw [get fs i hi];exact ih (hr i hi)
   ·have hi:i<cs.length:=by simpa using hi
    rw [get cs i hi];exact ih (cJ i hi)
  |b i o=>exact RZ h
  |o i=>exact V1 h
  |e i K m j=>exact SE h
  |w i K d=>exact Yl h
  |m i=>exact VJ h
  |z=>obtain ⟨a,rfl⟩:=h.Av;exact .i .z
def sN {id:Nat} (ah:∀i,i≠id→av i=β i) (n:Nat) {x:AV} {u:Value} (h:Rd w F β x u):Rd w F av (er n id x) u:=rV (fun _ _=>.χ) ah n h
def ir {id:Nat}:∀{H:Hp} {i:Nat} {c:Chunk},(i,c)∈gT id H→i≠id∧∃c',(i,c')∈H∧c=pb id c'
 |[],_,_,h=>by cases h
 |(j,c')::r,i,c,h=>by
  simp only [gT] at h;cases hb:aH j id with
  |true =>
   rw [hb] at h;obtain ⟨h1,c2,h2,h3⟩:=ir (H:=r) h;exact ⟨h1,c2,cu _ h2,h3⟩
  |false =>
   rw [hb] at h;simp only [cond_false,bf,Prod.mk.injEq] at h
   rcases h with ⟨rfl,rfl⟩|h
   ·exact ⟨fun e=>(by rw [e,iW] at hb;cases hb),c',by simp,rfl⟩
   ·obtain ⟨h1,c2,h2,h3⟩:=ir (H:=r) h;exact ⟨h1,c2,cu _ h2,h3⟩
def DM {id:Nat}:∀{H:Hp},(H.map (·.1)).Nodup→((gT id H).map (·.1)).Nodup
 |[],_=>by simp [gT]
 |(j,c)::r,h=>by
  simp only [jJ,iw] at h;simp only [gT];cases hb:aH j id with
  |true=>exact DM h.2
  |false =>
   simp only [cond_false,jJ,iw];refine ⟨fun hm=>?_,DM h.2⟩;obtain ⟨x,hx,lF⟩:=c9.1 hm;obtain ⟨i,c'⟩:=x;obtain ⟨_,c2,h2,_⟩:=ir hx;exact h.1 (c9.2 ⟨(i,c2),h2,lF⟩)
def IX {id i:Nat} {c:Chunk} (hi:i≠id) (ah:∀i,i≠id→av i=β i) (h:c.holds w F β i):(pb id c).holds w F av i:=by
 cases c with
 |box cells =>
  obtain ⟨b,cs,e,hb,hh,hs,h1,hr⟩:=h;refine ⟨b,cs,e,(ah i hi).trans hb,hh,by simpa using hs,fun j hj=>h1 j (by simpa using hj),fun j hj=>?_⟩
  have hj:j<cells.length:=by simpa using hj
  have:(cells.map (er 1 id)).getD j .χ=er 1 id (cells.getD j .χ):=by simp [aV,hj]
  rw [this];exact sN ah 1 (hr j hj)
 |own E k rows =>
  unfold pb Chunk.holds at *;rw [ah i hi];exact h
 |mp ag rows =>
  unfold pb Chunk.holds at *;rw [ah i hi];exact h
 |si s pos =>
  unfold pb Chunk.holds at *;rw [ah i hi];exact h
 |lp l e R L =>
  obtain ⟨fn,tmps,D,hb,hh,hn,hr⟩:=h;refine ⟨fn,tmps,D,(ah i hi).trans hb,hh,hn,fun p hp=>?_⟩;obtain ⟨q,hq,rfl⟩:=c9.1 hp;exact sN ah 2 (hr q hq)
def pD {w':World} {F':Nat→Prop} {i:Nat} {c:Chunk} (ha:ga F w w') (hF:∀b,F b→F' b) (hb:∀b,bR (β i)=some b→w'.heap[b]?=w.heap[b]?) (h:c.holds w F β i):c.holds w' F' β i:=by
 cases c with
 |box cells =>
  obtain ⟨b,cs,e,ah,hh,hs,h1,hr⟩:=h;exact ⟨b,cs,e,ah,by rw [hb b (by rw [ah];rfl)];exact hh,hs,h1,fun j hj=>(hr j hj).frame ha hF⟩
 |mp ag rows =>
  obtain ⟨b,es,ck,ah,hh,bV,hs,hm,hr⟩:=h;refine ⟨b,es,ck,ah,by rw [hb b (by rw [ah];rfl)];exact hh,bV,hs,hm,fun i r hi=>?_⟩;obtain ⟨e,h1,h2,h3,h4⟩:=hr i r hi;exact ⟨e,h1,h2,h3,h4.frame ha hF⟩
 |lp l e R L =>
  obtain ⟨fn,tmps,D,ah,hh,hn,hr⟩:=h;exact ⟨fn,tmps,D,ah,by rw [hb l (by rw [ah];rfl)];exact hh,hn,fun p hp=>(hr p hp).frame ha hF⟩
 |si s pos =>
  obtain ⟨b,ah,hh⟩:=h;exact ⟨b,ah,by rw [hb b (by rw [ah];rfl)];exact hh⟩
 |own E k rows =>
  rcases h with h|⟨g,cap,cur,hv,hc,hg,hn,hm,hs,hk,hr⟩
  ·exact .inl h
  ·have h0:aH cap 0=false:=by cases cap<;>first|rfl|omega
   refine .inr ⟨g,cap,cur,hv,hc,by rw [hb g (by rw [hv];simp [bR,h0])];exact hg,hn,hm,hs,hk,fun i j hi hj=>⟨(hr i j hi hj).1,(hr i j hi hj).2.frame ha hF⟩⟩
def wa {st:ae} {w':World} (hI:Inv w F β st.H) (hb:Below w.heap.size w w'):Ext w F β st w' (fG F w w') β st where
 os:=hb.os
 tape:=hb.tape
 output:=hb.output
 size:=hb.size
 block _ h _:=hb.block _ h
 mono _ h:=.inl h
 new _ h:=h.elim .inl fun h=>.inr (.inl h.1)
 owned _ h:=.inr h
 keep _ _ h:=h.later hb hI.cC
 inv:={
  cC:=fun b h=>h.elim (fun h=>oe (hI.cC b h) hb.size) fun h=>h.2
  holds:=fun id c hm=>pD (Below.agree hb hI.cC) (fun _ h=>.inl h) (fun b kL=>hb.block b (hI.fM ⟨id,c,hm,kL⟩)) (hI.holds id c hm)
  keys:=hI.keys
  apart:=fun b ho h=>h.elim (hI.apart b ho) fun h=>absurd (hI.fM ho) (me.2 h.1)
  eC:=hI.eC
  fk:=hI.fk.frame (Below.agree hb hI.cC) fun _ h=>.inl h }
 gu _ _:=rfl
def qc {st:ae} {w':World} {d:Nat} {c:Chunk} {v:Value} (hd:d<1000) (hI:Inv w F β st.H) (uT:w'.os=w.os) (NV:jt w w') (th:w'.output=w.output) (eL:w.heap.size≤w'.heap.size)
  (Bb:∀b,b<w.heap.size→¬bC β st.H b→w'.heap[b]?=w.heap[b]?)
  (acI:∀i c' b,i≠d→(i,c')∈st.H→bR (β i)=some b→w'.heap[b]?=w.heap[b]?)
  (eS:∀b,bR v=some b→w.heap.size≤b∨∃c',(d,c')∈st.H∧bR (β d)=some b)
  (hc:c.holds w' F (fun i=>if i=d then v else β i) d) :
  Ext w F β st w' F (fun i=>if i=d then v else β i) ⟨fun t=>er 2 d (st.f t),(d,c)::gT d st.H⟩:=by
 have ah:∀i,i≠d→(fun i=>if i=d then v else β i) i=β i:=fun i hi=>if_neg hi;have ha:ga F w w':=fun b hb=>Bb b (hI.cC b hb) fun ho=>hI.apart b ho hb
 have dr:∀b,bC (fun i=>if i=d then v else β i) ((d,c)::gT d st.H) b→w.heap.size≤b∨bC β st.H b:=by
  rintro b ⟨i,c',hm,hb⟩
  rcases bf.1 hm with hm|hm
  ·cases hm;simp only [if_true] at hb
   rcases eS b hb with h|⟨c',h1,h2⟩
   ·exact .inl h
   ·exact .inr ⟨d,c',h1,h2⟩
  ·obtain ⟨hi,c2,h2,_⟩:=ir hm;simp only [if_neg hi] at hb;exact .inr ⟨i,c2,h2,hb⟩
 refine ⟨uT,NV,th,eL,Bb,fun _ h=>h,fun _ h=>.inl h,dr,fun t u h=>sN ah 2 (h.frame ha fun _ h=>h),?_,fun i hi=>ah i (by omega)⟩;refine ⟨fun b hb=>oe (hI.cC b hb) eL,?_,?_,?_,?_,hI.fk.at ha⟩
 ·intro i c' hm
  rcases bf.1 hm with hm|hm
  ·cases hm;exact hc
  ·obtain ⟨hi,c2,h2,rfl⟩:=ir hm;exact IX hi ah (pD ha (fun _ h=>h) (fun b hb=>acI i c2 b hi h2 hb) (hI.holds i c2 h2))
 ·simp only [jJ,iw];refine ⟨fun hm=>?_,DM hI.keys⟩;obtain ⟨x,hx,lF⟩:=c9.1 hm;obtain ⟨i,c'⟩:=x;exact (ir hx).1 lF
 ·intro b ho hF
  rcases dr b ho with h|h
  ·exact absurd (hI.cC b hF) (me.2 h)
  ·exact hI.apart b h hF
 ·have key:∀i c' b,(i,c')∈gT d st.H→bR (β i)=some b→bR v=some b→False:=by
   intro i c' b hm hb hv;obtain ⟨hi,c2,h2,_⟩:=ir hm
   rcases eS b hv with h|⟨c3,h3,h4⟩
   ·exact absurd (hI.fM ⟨i,c2,h2,hb⟩) (me.2 h)
   ·exact hi (hI.eC i c2 d c3 b h2 h3 hb h4)
  intro i c1 i' p8 b hm bW hb aK
  rcases bf.1 hm with hm|hm<;>rcases bf.1 bW with bW|bW
  ·cases hm;cases bW;rfl
  ·cases hm;simp only [if_true] at hb;have bm:=(ir bW).1;simp only [if_neg bm] at aK;exact (key i' p8 b bW aK hb).elim
  ·cases bW;simp only [if_true] at aK;have hi:=(ir hm).1;simp only [if_neg hi] at hb;exact (key i c1 b hm hb aK).elim
  ·obtain ⟨hi,c2,h2,_⟩:=ir hm;obtain ⟨bm,AP,iz,_⟩:=ir bW;simp only [if_neg hi] at hb;simp only [if_neg bm] at aK;exact hI.eC i c2 i' AP b h2 iz hb aK
end
end
end Go.Cat
