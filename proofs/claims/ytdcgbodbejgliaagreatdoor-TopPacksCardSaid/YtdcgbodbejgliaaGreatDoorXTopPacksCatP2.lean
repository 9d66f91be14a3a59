/- The logic that the walks are in, piece P2. No condition. -/
import Derived.WalkKit
import Derived.WalkSpells
import Derived.WalkLawsBesides
import Derived.KernelRfl
import Derived.MapKept
import Derived.Test.YtdcgbodbejgliaaGreatDoorXTopPacksCatP1
import Derived.Laws.StructEq
import Derived.ChangeKeysEq
open Array renaming getElem?_eq_getElem → gz, getElem?_eq_some_iff → lB, getD_eq_getD_getElem? → lA, getElem?_modify → pY, eq_empty_of_size_eq_zero → ud, getElem?_append → pX, range → nr, size_append → ue, getD → xz, getElem?_extract → ZF, foldl_toList → ZD, toList_zipIdx → ZJ
open BitVec renaming ofInt → eH
open Bool renaming and_eq_true → bJ, or_eq_true → ug, not_eq_true' → oW, and_assoc → Rq
open Go.Addr renaming add_lit → gk
open Go.Builtin renaming len_ → vD, min_ → alY, max_ → alZ, cap_ → al0
open Go.ByteArray renaming toList_eq → C3
open Go.Conv renaming stringToBytes → Li
open Go.Deferred renaming ofValue → mg
open Go.Instr renaming sliceAt → lT, slice → r_, sliceBounds → As, makeSlice → vG, sureAddr → G2, fill → vF, buildSlice → RD, indexAt → C6, loadAt → GZ, lookup → Lm, index → RE, build → RC, extract → alV, fieldAt → alW, findNow → alX
open Go.IntWalk renaming i64_in → qI
open Go.MapKept renaming run_findKey → GY, run_getObj_map → ZS, Stamped → ZR, IsKey → ZQ
open Go.Op renaming bytesLess → fX, intArith → um, equalIn → vL, eqFields → xJ, intBits → LB, eqItems → alS
open Go.Program renaming fieldsOf → aah
open Go.Result renaming andThen_ok → mw
open Go.Sem renaming run_bind → kF, run_pure → LD
open Go.Value renaming int → dC, oneCell' → alU
open Go.World renaming alloc → lZ, freeze → AA
open List renaming getElem?_eq_getElem → bF, mem_cons_of_mem → cj, mem_cons → bj, length_append → cP, getD → aV, length_cons → cZ, getElem?_eq_some_iff → fk, getD_eq_getElem?_getD → fW, length_take → dN, mem_map → dq, all_eq_true → ej, getElem_mem → ek, getElem?_take → gn, getElem?_append → gK, replicate → il, getElem?_drop → jq, mem_of_getElem? → mj, nodup_cons → ix, size_toArray → lC, map_cons → jI, eq_nil_of_length_eq_zero → qL, length_eq_zero_iff → sd, length_drop → lV, getElem?_map → uj, take_append_drop → xH, cons_append → C8, getElem?_toArray → Z7, getElem?_take_of_lt → Z6, take_succ_cons → aab, take_zero → alT
open List.cons renaming injEq → G4
open Nat renaming mul_le_mul_right → cI, eq_of_beq_eq_true → cW, beq → aH, le_refl → bG, add_mul → bM, le_trans → fo, zero_add → jJ, beq_refl → iY, lt_of_lt_of_le → oh, add_zero → lW, not_lt → mr, ble → p4, add_assoc → G8
open Option renaming getD_some → Ay, map_some → aag
open Option.some renaming injEq → G_
namespace Go.Cat
set_option linter.all false
section
open Go.RowKit
class cM where
 on:Prop
class o8 [cM]:Prop where
 off:¬cM.on
abbrev cM.yes:cM:=⟨True⟩
abbrev cM.no:cM:=⟨False⟩
class dX where
 cells:List (Nat×Value)
variable [M:cM] [G:dX]
inductive AV where
 |v (x:Value)
 |s (rows:List (List AV))
 |p (cells:List AV)
 |a (cells:List AV)
 |t (vs:List AV)
 |c (fn:Fn) (first captured:List AV)
 |b (id off:Nat)
 |o (id:Nat)
 |e (id k i j:Nat)
 |w (id k d:Nat)
 |m (id:Nat)
 |z
 |χ
instance:Inhabited AV:=⟨.χ⟩
inductive bh (w:World) (F:Nat→Prop):AV→Value→Prop where
 |v {x:Value} (h:x.oneCell'=true∨x=undef):bh w F (.v x) x
 |s0 {a:Option Addr}:bh w F (.s []) (.slice a 0 0)
 |z {a:Option Addr}:bh w F .z (.slice a 0 0)
 |s {rows:List (List AV)} {b off c k:Nat} {u:Nat→Nat→Value}
   (hb:F b) (hc:rows.length≤c) (hm:c≤maxLen)
   (hk:∀i,i<rows.length→(rows.getD i []).length=k)
   (eP:∀i j,i<rows.length→j<k→w.cell? ⟨b,off+(i*k+j),none⟩=some (u i j))
   (fi:∀i j,i<rows.length→j<k→(u i j).oneCell'=true)
   (fy:∀i j,i<rows.length→j<k→bh w F ((rows.getD i []).getD j .χ) (u i j)) :
   bh w F (.s rows) (.slice (some ⟨b,off,none⟩) rows.length c)
 |p {cells:List AV} {b off:Nat} {u:Nat→Value}
   (hb:F b)
   (eP:∀j,j<cells.length→w.cell? ⟨b,off+j,none⟩=some (u j))
   (fi:∀j,j<cells.length→(u j).oneCell'=true)
   (fy:∀j,j<cells.length→bh w F (cells.getD j .χ) (u j)) :
   bh w F (.p cells) (.pointer (some ⟨b,off,none⟩))
 |a {cells:List AV} {us:Array Value} (hs:us.size=cells.length)
   (fi:∀i,i<cells.length→(us.getD i undef).oneCell'=true)
   (h:∀i,i<cells.length→bh w F (cells.getD i .χ) (us.getD i undef)):bh w F (.a cells) (.agg us)
 |t {cells:List AV} {us:Array Value} (hs:us.size=cells.length)
   (h:∀i,i<cells.length→bh w F (cells.getD i .χ) (us.getD i undef)):bh w F (.t cells) (.tuple us)
 |c {fn:Fn} {fs cs:List AV} {us vs:Array Value} (hs:us.size=fs.length) (ez:vs.size=cs.length)
   (h:∀i,i<fs.length→bh w F (fs.getD i .χ) (us.getD i undef))
   (h':∀i,i<cs.length→bh w F (cs.getD i .χ) (vs.getD i undef)):bh w F (.c fn fs cs) (.func fn us vs)
inductive Rd (w:World) (F:Nat→Prop) (β:Nat→Value):AV→Value→Prop where
 |i {x:AV} {u:Value} (h:bh w F x u):Rd w F β x u
 |χ {u:Value}:Rd w F β .χ u
 |b {id off eZ:Nat} (h:β id=.pointer (some ⟨eZ,0,none⟩)):Rd w F β (.b id off) (.pointer (some ⟨eZ,off,none⟩))
 |o {id n c:Nat} {a:Option Addr} (h:β id=.slice a n c):Rd w F β (.o id) (.slice a n c)
 |e {id k i j g n c:Nat} (h:β id=.slice (some ⟨g,0,none⟩) n c):Rd w F β (.e id k i j) (.pointer (some ⟨g,i*k+j,none⟩))
 |m {id b:Nat} (h:β id=.map (some b)):Rd w F β (.m id) (.map (some b))
 |w {id k d n c:Nat} {a a':Option Addr} (h:β id=.slice a n c) (hd:d≤n) (ha:d<c→a'=a.map (·.add (d*k))):Rd w F β (.w id k d) (.slice a' (n-d) (c-d))
 |a {cells:List AV} {us:Array Value} (hs:us.size=cells.length)
   (fi:∀i,i<cells.length→(us.getD i undef).oneCell'=true)
   (h:∀i,i<cells.length→Rd w F β (cells.getD i .χ) (us.getD i undef)):Rd w F β (.a cells) (.agg us)
 |t {cells:List AV} {us:Array Value} (hs:us.size=cells.length)
   (h:∀i,i<cells.length→Rd w F β (cells.getD i .χ) (us.getD i undef)):Rd w F β (.t cells) (.tuple us)
 |c {fn:Fn} {fs cs:List AV} {us vs:Array Value} (hs:us.size=fs.length) (ez:vs.size=cs.length)
   (h:∀i,i<fs.length→Rd w F β (fs.getD i .χ) (us.getD i undef))
   (h':∀i,i<cs.length→Rd w F β (cs.getD i .χ) (vs.getD i undef)):Rd w F β (.c fn fs cs) (.func fn us vs)
def ga (F:Nat→Prop) (w w':World):Prop:=∀b,F b→w'.heap[b]?=w.heap[b]?
def ga.cell {F:Nat→Prop} {w w':World} (h:ga F w w') {b o:Nat} (hb:F b):w'.cell? ⟨b,o,none⟩=w.cell? ⟨b,o,none⟩ :=
 World.cell?_of_block (w:=w) (h b hb)
def bh.frame {w w':World} {F F':Nat→Prop} (ha:ga F w w') (hF:∀b,F b→F' b) {x:AV} {u:Value} (h:bh w F x u):bh w' F' x u:=by
 induction h with
 |v h=>exact .v h
 |s0=>exact .s0
 |z=>exact .z
 |s hb hc hm hk eP fi fy ih=>exact .s (hF _ hb) hc hm hk (fun i j hi hj=>by rw [ha.cell hb];exact eP i j hi hj) fi ih
 |p hb eP fi fy ih=>exact .p (hF _ hb) (fun j hj=>by rw [ha.cell hb];exact eP j hj) fi ih
 |a hs fi h ih=>exact .a hs fi ih
 |t hs h ih=>exact .t hs ih
 |c hs ez h h' ih EV=>exact .c hs ez ih EV
def Rd.frame {w w':World} {F F':Nat→Prop} {β:Nat→Value} (ha:ga F w w') (hF:∀b,F b→F' b) {x:AV} {u:Value} (h:Rd w F β x u):Rd w' F' β x u:=by
 induction h with
 |i h=>exact .i (h.frame ha hF)
 |χ=>exact .χ
 |b h=>exact .b h
 |o h=>exact .o h
 |e h=>exact .e h
 |w h hd ha=>exact .w h hd ha
 |m h=>exact .m h
 |a hs fi h ih=>exact .a hs fi ih
 |t hs h ih=>exact .t hs ih
 |c hs ez h h' ih EV=>exact .c hs ez ih EV
section
variable {w:World} {F:Nat→Prop} {β:Nat→Value} {u:Value}
def Rd.bK {x:Value} (h:Rd w F β (.v x) u):u=x:=by
 cases h with
 |i h=>cases h;rfl
def Rd.qS {cells:List AV} (h:Rd w F β (.a cells) u):∃us:Array Value,u=.agg us∧us.size=cells.length∧(∀i,i<cells.length→(us.getD i undef).oneCell'=true) ∧
  ∀i,i<cells.length→Rd w F β (cells.getD i .χ) (us.getD i undef):=by
 cases h with
 |i h=>cases h with|a hs fi h=>exact ⟨_,rfl,hs,fi,fun i hi=>.i (h i hi)⟩
 |a hs fi h=>exact ⟨_,rfl,hs,fi,h⟩
def Rd.Cy {cells:List AV} (h:Rd w F β (.t cells) u):∃us:Array Value,u=.tuple us∧us.size=cells.length ∧
  ∀i,i<cells.length→Rd w F β (cells.getD i .χ) (us.getD i undef):=by
 cases h with
 |i h=>cases h with|t hs h=>exact ⟨_,rfl,hs,fun i hi=>.i (h i hi)⟩
 |t hs h=>exact ⟨_,rfl,hs,h⟩
def Rd.nB {fn:Fn} {fs cs:List AV} (h:Rd w F β (.c fn fs cs) u):∃us vs:Array Value,u=.func fn us vs∧us.size=fs.length∧vs.size=cs.length ∧
  (∀i,i<fs.length→Rd w F β (fs.getD i .χ) (us.getD i undef))∧(∀i,i<cs.length→Rd w F β (cs.getD i .χ) (vs.getD i undef)):=by
 cases h with
 |i h=>cases h with|c hs ez h h'=>exact ⟨_,_,rfl,hs,ez,fun i hi=>.i (h i hi),fun i hi=>.i (h' i hi)⟩
 |c hs ez h h'=>exact ⟨_,_,rfl,hs,ez,h,h'⟩
def Rd.oR {rows:List (List AV)} (h:Rd w F β (.s rows) u):bh w F (.s rows) u:=by cases h;assumption
def Rd.BW {cells:List AV} (h:Rd w F β (.p cells) u):bh w F (.p cells) u:=by cases h;assumption
def Rd.Aq (h:Rd w F β .z u):∃a,u=.slice a 0 0:=by cases h with|i h=>cases h;exact ⟨_,rfl⟩
def Rd.mM {id off:Nat} (h:Rd w F β (.b id off) u):∃eZ,β id=.pointer (some ⟨eZ,0,none⟩)∧u=.pointer (some ⟨eZ,off,none⟩):=by
 cases h with
 |i h=>cases h
 |b h=>exact ⟨_,h,rfl⟩
def Rd.jY {id:Nat} (h:Rd w F β (.o id) u):∃a n c,β id=.slice a n c∧u=.slice a n c:=by
 cases h with
 |i h=>cases h
 |o h=>exact ⟨_,_,_,h,rfl⟩
def Rd.AR {id k i j:Nat} (h:Rd w F β (.e id k i j) u):∃g n c,β id=.slice (some ⟨g,0,none⟩) n c∧u=.pointer (some ⟨g,i*k+j,none⟩):=by
 cases h with
 |i h=>cases h
 |e h=>exact ⟨_,_,_,h,rfl⟩
def Rd.zD {id:Nat} (h:Rd w F β (.m id) u):∃b,β id=.map (some b)∧u=.map (some b):=by
 cases h with
 |i h=>cases h
 |m h=>exact ⟨_,h,rfl⟩
def Rd.xw {id k d:Nat} (h:Rd w F β (.w id k d) u):∃a a' n c,β id=.slice a n c∧d≤n∧(d<c→a'=a.map (·.add (d*k)))∧u=.slice a' (n-d) (c-d):=by
 cases h with
 |i h=>cases h
 |w h hd ha=>exact ⟨_,_,_,_,h,hd,ha,rfl⟩
end
def uY:AV→Bool
 |.v (.agg _)|.v (.tuple _)|.a _|.t _|.χ=>false
 |_=>true
def aeb {w:World} {F:Nat→Prop} {β:Nat→Value} {x:AV} {u:Value} (hx:uY x=true) (h:Rd w F β x u):u.oneCell'=true:=by
 cases h with
 |i h =>
  cases h with
  |v h =>
   rcases h with h|rfl
   ·exact h
   ·simp [uY,undef] at hx
  |s0=>rfl
  |z=>rfl
  |s=>rfl
  |p=>rfl
  |a=>simp [uY] at hx
  |t=>simp [uY] at hx
  |c=>rfl
 |χ=>simp [uY] at hx
 |b=>rfl
 |o=>rfl
 |e=>rfl
 |w=>rfl
 |m=>rfl
 |a=>simp [uY] at hx
 |t=>simp [uY] at hx
 |c=>rfl
structure RF where
 ps:Array Tmp
 assign:Code
 body:Code
 n:Nat
def LS.st:LS→LoopState
 |.iK=>.ready
 |.Ma=>.busy
 |_=>.done
def LS.zO:LS→Option Code
 |.ret=>some .ret
 |.ex i=>some (.exit i)
 |_=>none
inductive Chunk where
 |box (cells:List AV)
 |own (E k:Nat) (rows:List (List AV))
 |mp (ag:Bool) (rows:List (Int×List AV))
 |lp (l:Nat) (e:LS) (R:RF) (L:List (Nat×AV))
 |si (s:ByteArray) (pos:Nat)
abbrev Hp:=List (Nat×Chunk)
def bP:Value→Option Nat
 |.pointer (some a)=>some a.block
 |.slice (some a) _ c=>bif aH c 0 then none else some a.block
 |.map (some b)=>some b
 |_=>none
def rT (ag:Bool) (cells:List AV):AV:=bif ag then .a cells else cells.getD 0 .χ
def Chunk.holds (w:World) (F:Nat→Prop) (β:Nat→Value) (id:Nat):Chunk→Prop
 |.box cells=>∃b c e,β id=.pointer (some ⟨b,0,none⟩)∧w.heap[b]?=some (.cells c e (0,0))∧c.size=cells.length ∧
   (∀i,i<cells.length→(c.getD i undef).oneCell'=true)∧∀i,i<cells.length→Rd w F β (cells.getD i .χ) (c.getD i undef)
 |.own E k rows=>(rows=[]∧∃a,β id=.slice a 0 0)∨∃g cap cur,β id=.slice (some ⟨g,0,none⟩) rows.length cap∧0<cap∧w.heap[g]?=some (.cells cur E (0,0))∧rows.length≤cap∧cap≤maxLen ∧
   cur.size=cap*k∧(∀i,i<rows.length→(rows.getD i []).length=k) ∧
   ∀i j,i<rows.length→j<k→(cur.getD (i*k+j) undef).oneCell'=true∧bh w F ((rows.getD i []).getD j .χ) (cur.getD (i*k+j) undef)
 |.mp ag rows=>∃b es ck,β id=.map (some b)∧w.heap[b]?=some (.map es ck)∧ZR es ck∧es.size=rows.length∧es.size≤140737488355328 ∧
   ∀(i:Nat) (r:Int×List AV),rows[i]?=some r→∃e:MapEntry,es[i]?=some e∧e.key=.int .i64 r.1∧Ξ r.1∧bh w F (rT ag r.2) e.val
 |.lp l e R L=>∃fn tmps D,β id=.pointer (some ⟨l,0,none⟩)∧w.heap[l]?=some (.loop { state:=e.st,pending:=e.zO,fn,tmps,params:=R.ps,assign:=R.assign,body:=R.body,defers:=D })∧tmps.size=R.n ∧
   ∀p,p∈L→Rd w F β p.2 (tmps.getD p.1 undef)
 |.si s pos=>∃b,β id=.pointer (some ⟨b,0,none⟩)∧w.heap[b]?=some (.stringIter s pos)
def dX.ok [G:dX] (w:World) (F:Nat→Prop):Prop:=∀b v,(b,v)∈G.cells→F b∧w.cell? ⟨b,0,none⟩=some v
def dX.ok.frame {w w':World} {F F':Nat→Prop} (h:dX.ok w F) (ha:ga F w w') (hF:∀b,F b→F' b):dX.ok w' F':=fun b v hm=>⟨hF b (h b v hm).1,(ha.cell (h b v hm).1).trans (h b v hm).2⟩
def dX.ok.more {w:World} {F F':Nat→Prop} (h:dX.ok w F) (hF:∀b,F b→F' b):dX.ok w F':=h.frame (fun _ _=>rfl) hF
def dX.ok.at {w w':World} {F:Nat→Prop} (h:dX.ok w F) (ha:ga F w w'):dX.ok w' F:=h.frame ha fun _ h=>h
def bD (β:Nat→Value) (H:Hp) (b:Nat):Prop:=∃id c,(id,c)∈H∧bP (β id)=some b
structure Inv (w:World) (F:Nat→Prop) (β:Nat→Value) (H:Hp):Prop where
 cA:∀b,F b→b<w.heap.size
 holds:∀id c,(id,c)∈H→c.holds w F β id
 keys:(H.map (·.1)).Nodup
 apart:∀b,bD β H b→¬F b
 eo:∀id c EU c' b,(id,c)∈H→(EU,c')∈H→bP (β id)=some b→bP (β EU)=some b→id=EU
 fh:dX.ok w F
def kJ {w:World} {b:Nat} {o:Obj} (h:w.heap[b]?=some o):b<w.heap.size:=(lB.1 h).1
def adb {w:World} {F:Nat→Prop} {β:Nat→Value} {id:Nat} {c:Chunk} (h:c.holds w F β id) {b:Nat} (hb:bP (β id)=some b):b<w.heap.size:=by
 cases c with
 |box cells =>
  obtain ⟨b',c',e,ai,hh,_⟩:=h;rw [ai] at hb;simp [bP] at hb;subst hb;exact kJ hh
 |mp ag rows =>
  obtain ⟨b',es,ck,ai,hh,_⟩:=h;rw [ai] at hb;simp [bP] at hb;subst hb;exact kJ hh
 |lp l e R L =>
  obtain ⟨fn,tmps,D,ai,hh,_⟩:=h;rw [ai] at hb;simp [bP] at hb;subst hb;exact kJ hh
 |si s pos =>
  obtain ⟨b',ai,hh⟩:=h;rw [ai] at hb;simp [bP] at hb;subst hb;exact kJ hh
 |own E k rows =>
  rcases h with ⟨_,a,hv⟩|⟨g,cap,cur,hv,hc,hg,_⟩
  ·rw [hv] at hb;cases a<;>simp [bP] at hb
  ·have h0:aH cap 0=false:=by cases cap<;>first|rfl|omega
   rw [hv] at hb;simp [bP,h0] at hb;subst hb;exact kJ hg
def Inv.fJ {w:World} {F:Nat→Prop} {β:Nat→Value} {H:Hp} (h:Inv w F β H) {b:Nat} (hb:bD β H b):b<w.heap.size:=by
 obtain ⟨id,c,hm,hk⟩:=hb;exact adb (h.holds id c hm) hk
structure ah where
 f:Nat→AV
 H:Hp
def aG:Nat→AV:=fun _=>.χ
def js [cM] (w w':World):Prop:=w'.tape=w.tape∧(cM.on→w.drawn≤w'.drawn)
def js.refl (w:World):js w w:=⟨rfl,fun _=>bG _⟩
def js.trans {w w' rU:World} (h:js w w') (h':js w' rU):js w rU:=⟨h'.1.trans h.1,fun m=>fo (h.2 m) (h'.2 m)⟩
structure Below (B:Nat) (w w':World):Prop where
 os:w'.os=w.os
 tape:js w w'
 output:w'.output=w.output
 size:w.heap.size≤w'.heap.size
 block:∀k,k<B→w'.heap[k]?=w.heap[k]?
def Below.old {B:Nat} {w w':World} (h:Below B w w'):Go.RowKit.Below B w w':=⟨h.os,h.tape.1,h.output,h.size,h.block⟩
def Below.refl (B:Nat) (w:World):Below B w w:=⟨rfl,js.refl _,rfl,bG _,fun _ _=>rfl⟩
def Below.trans {B:Nat} {a b c:World} (h:Below B a b) (k:Below B b c):Below B a c :=
 ⟨k.os.trans h.os,h.tape.trans k.tape,k.output.trans h.output,fo h.size k.size,fun i hi=>(k.block i hi).trans (h.block i hi)⟩
def Below.drew {B:Nat} {a w:World} (h:Below B a w):Below B a w.drew:=⟨h.os,⟨h.tape.1,fun m=>Nat.le_succ_of_le (h.tape.2 m)⟩,h.output,h.size,h.block⟩
def Below.alloc {B:Nat} {a w:World} (h:Below B a w) (hB:B≤w.heap.size) (o:Obj):Below B a (w.alloc o) :=
 ⟨h.os,h.tape,h.output,(h.old.alloc hB o).size,(h.old.alloc hB o).block⟩
structure Ext (w:World) (F:Nat→Prop) (β:Nat→Value) (st:ah) (w':World) (F':Nat→Prop) (av:Nat→Value) (au:ah):Prop where
 os:w'.os=w.os
 tape:js w w'
 output:w'.output=w.output
 size:w.heap.size≤w'.heap.size
 block:∀b,b<w.heap.size→¬bD β st.H b→w'.heap[b]?=w.heap[b]?
 mono:∀b,F b→F' b
 new:∀b,F' b→F b∨w.heap.size≤b∨bD β st.H b
 owned:∀b,bD av au.H b→w.heap.size≤b∨bD β st.H b
 keep:∀t u,Rd w F β (st.f t) u→Rd w' F' av (au.f t) u
 inv:Inv w' F' av au.H
 gh:∀i,1000≤i→av i=β i
def Ext.refl {w:World} {F:Nat→Prop} {β:Nat→Value} {st:ah} (h:Inv w F β st.H):Ext w F β st w F β st :=
 ⟨rfl,js.refl _,rfl,bG _,fun _ _ _=>rfl,fun _ h=>h,fun _ h=>.inl h,fun _ h=>.inr h,fun _ _ h=>h,h,fun _ _=>rfl⟩
def Ext.trans {w:World} {F:Nat→Prop} {β:Nat→Value} {st:ah} {w':World} {F':Nat→Prop} {av:Nat→Value} {au:ah} {rU:World} {R9:Nat→Prop} {ZC:Nat→Value} {fL:ah}
  (h:Ext w F β st w' F' av au) (h':Ext w' F' av au rU R9 ZC fL):Ext w F β st rU R9 ZC fL where
 os:=h'.os.trans h.os
 tape:=h.tape.trans h'.tape
 output:=h'.output.trans h.output
 size:=fo h.size h'.size
 block b hb hn:=by
  have h1:¬bD av au.H b:=fun ho=>(h.owned b ho).elim (fun gI=>absurd hb (mr.2 gI)) hn;rw [h'.block b (oh hb h.size) h1,h.block b hb hn]
 mono b hb:=h'.mono b (h.mono b hb)
 new b hb:=by
  rcases h'.new b hb with h1|h1|h1
  ·exact h.new b h1
  ·exact .inr (.inl (fo h.size h1))
  ·exact (h.owned b h1).elim (fun x=>.inr (.inl x)) (fun x=>.inr (.inr x))
 owned b hb:=by
  rcases h'.owned b hb with h1|h1
  ·exact .inl (fo h.size h1)
  ·exact h.owned b h1
 keep t u hu:=h'.keep t u (h.keep t u hu)
 inv:=h'.inv
 gh i hi:=(h'.gh i hi).trans (h.gh i hi)
end
section
open Go.RowKit
variable [M:cM] [G:dX]
inductive TK where
 |bool|int (k:IntKind)|str|struct (fs:List (Nat×Nat))|slice (e:Nat)|arr (n e:Nat)|map (k e:Nat)|iface|other
structure TI where
 kind:TK
 cells:Nat
 bytes:Nat
 zero:Value
def sr:TypeDesc→TK
 |.bool=>.bool
 |.int k=>.int k
 |.string=>.str
 |.struct fs=>.struct (fs.toList.map fun f=>(f.offset,f.type))
 |.slice e=>.slice e
 |.array n e=>.arr n e
 |.map k e=>.map k e
 |.interface _=>.iface
 |_=>.other
abbrev TT:=Nat→Option TI
def gF (P:Program) (t:Nat) (i:TI):Prop :=
 (P.info? t).map (fun j=>(j.zero,j.size,j.bytes))=some (some i.zero,i.cells,i.bytes)∧(P.underlying t).map sr=some i.kind
def bL (P:Program) (T:TT):Prop:=∀t i,T t=some i→gF P t i
def lk:List (Nat×TI)→TT
 |[],_=>none
 |(t,i)::r,x=>bif aH x t then some i else lk r x
def R6 (P:Program):List (Nat×TI)→Prop
 |[]=>True
 |(t,i)::r=>gF P t i∧R6 P r
def bL.ae4 {P:Program} {l:List (Nat×TI)} (h:R6 P l):bL P (lk l):=by
 induction l with
 |nil=>intro t i h';cases h'
 |cons x r ih =>
  obtain ⟨t,i⟩:=x;intro t' i' h';simp only [lk] at h';cases hb:aH t' t with
  |true =>
   rw [hb] at h';have:=cW hb;subst this;cases h';exact h.1
  |false =>
   rw [hb] at h';exact ih h.2 t' i' h'
section
variable {P:Program} {t:Nat} {i:TI}
def gF.info (h:gF P t i):∃j,P.info? t=some j∧j.zero=some i.zero∧j.size=i.cells∧j.bytes=i.bytes:=by
 obtain ⟨h,_⟩:=h;cases hj:P.info? t with
 |none=>simp [hj] at h
 |some j=>simp [hj] at h;exact ⟨j,rfl,h.1,h.2.1,h.2.2⟩
def gF.oe (h:gF P t i):∃d,P.underlying t=some d∧sr d=i.kind:=by
 obtain ⟨_,h⟩:=h;cases hj:P.underlying t with
 |none=>simp [hj] at h
 |some j=>simp [hj] at h;exact ⟨j,rfl,h⟩
def gF.slice {e:Nat} (h:gF P t i) (hk:i.kind=.slice e):P.underlying t=some (.slice e):=by
 obtain ⟨d,hd,cJ⟩:=h.oe;rw [hk] at cJ;cases d<;>simp [sr] at cJ;subst cJ;exact hd
def gF.arr {n e:Nat} (h:gF P t i) (hk:i.kind=.arr n e):P.underlying t=some (.array n e):=by
 obtain ⟨d,hd,cJ⟩:=h.oe;rw [hk] at cJ;cases d<;>simp [sr] at cJ;obtain ⟨rfl,rfl⟩:=cJ;exact hd
def gF.int {k:IntKind} (h:gF P t i) (hk:i.kind=.int k):P.underlying t=some (.int k):=by
 obtain ⟨d,hd,cJ⟩:=h.oe;rw [hk] at cJ;cases d<;>simp [sr] at cJ;subst cJ;exact hd
def gF.map {kt e:Nat} (h:gF P t i) (hk:i.kind=.map kt e):P.underlying t=some (.map kt e):=by
 obtain ⟨d,hd,cJ⟩:=h.oe;rw [hk] at cJ;cases d<;>simp [sr] at cJ;obtain ⟨rfl,rfl⟩:=cJ;exact hd
def gF.str (h:gF P t i) (hk:i.kind=.str):P.underlying t=some .string:=by
 obtain ⟨d,hd,cJ⟩:=h.oe;rw [hk] at cJ;cases d<;>simp [sr] at cJ;exact hd
def gF.struct {fs:List (Nat×Nat)} (h:gF P t i) (hk:i.kind=.struct fs):∃fields,P.underlying t=some (.struct fields)∧fields.toList.map (fun f=>(f.offset,f.type))=fs:=by
 obtain ⟨d,hd,cJ⟩:=h.oe;rw [hk] at cJ;cases d<;>simp [sr] at cJ;exact ⟨_,hd,cJ⟩
def gF.lj (h:gF P t i) (w:World):(sizeOf t).run P w=.ok i.cells w:=by
 obtain ⟨j,hj,_,hs,_⟩:=h.info;simp [sizeOf,typeInfo,hj,hs]
def gF.tH (h:gF P t i) (w:World):(zeroValue t).run P w=.ok i.zero w:=by
 obtain ⟨j,hj,hz,_⟩:=h.info;simp [zeroValue,typeInfo,hj,hz]
end
def p8:TK→Bool
 |.struct _|.arr _ _=>true
 |_=>false
def gF.Kc {P:Program} {t:Nat} {i:TI} (h:gF P t i) (w:World):(isAgg t).run P w=.ok (p8 i.kind) w:=by
 obtain ⟨d,hd,hk⟩:=h.oe;simp only [isAgg,kF,run_underlying hd,mw];cases d<;>simp [sr] at hk<;>rw [←hk]<;>rfl
def cd:Value→AV
 |.agg cs=>bif cs.toList.all (·.oneCell') then .a (cs.toList.map .v) else .χ
 |.tuple _=>.χ
 |x=>.v x
def nV (w:World) (F:Nat→Prop) (x:Value) (β:Nat→Value):Rd w F β (cd x) x:=by
 unfold cd;split
 ·rename_i cs;cases hc:cs.toList.all (·.oneCell') with
  |false=>exact .χ
  |true =>
   refine .i (.a (by simp) (fun i hi=>?_) fun i hi=>?_)
   ·simp at hi;have:=(ej.1 hc) cs[i] (by simp);simpa [xz,hi] using this
   ·simp at hi;have:=(ej.1 hc) cs[i] (by simp);simp [xz,hi];exact .v (.inl this)
 ·exact .χ
 ·rename_i h1 h2;refine .i (.v (.inl ?_))
  cases x<;>first|rfl|exact absurd rfl (h1 _)|exact absurd rfl (h2 _)
def ev (f:Nat→AV):Operand→AV
 |.tmp t=>f t
 |.const v=>cd v
 |.global _=>.χ
 |.func g=>.c (.func g) [] []
def AW {w:World} {F:Nat→Prop} {β:Nat→Value} {f:Nat→AV} {a:Act} (h:∀t,Rd w F β (f t) (a.tmps.getD t undef)) (x:Operand):Rd w F β (ev f x) (a.eval x):=by
 cases x with
 |tmp t=>exact h t
 |const v=>exact nV _ _ _ _
 |global g=>exact .χ
 |func g=>exact .i (.c rfl rfl (fun i hi=>absurd hi (by simp)) (fun i hi=>absurd hi (by simp)))
def Ξ.wrap {n:Int} (h:Ξ n):IntKind.i64.wrap n=n:=qI _ h
def L3 (op:BinOp) (kx ky:IntKind) (a b:Int) (k:Value→Prop):Prop :=
 match op with
 |.shl=>0≤b∧∃r,kx.wrap (a*2 ^ (min b.toNat kx.bits))=r∧k (.int kx r)
 |.shr=>0≤b∧∃r,a.fdiv (2 ^ (min b.toNat kx.bits))=r∧k (.int kx r)
 |op=>bif kx==ky then
  match op with
  |.add=>match kx with
   |.i64=>(Ξ (a+b)∧k (.int .i64 (a+b)))∨∃r,IntKind.i64.wrap (a+b)=r∧k (.int .i64 r)
   |_=>∃r,kx.wrap (a+b)=r∧k (.int kx r)
  |.sub=>match kx with
   |.i64=>(Ξ (a-b)∧k (.int .i64 (a-b)))∨∃r,IntKind.i64.wrap (a-b)=r∧k (.int .i64 r)
   |_=>∃r,kx.wrap (a-b)=r∧k (.int kx r)
  |.mul=>match kx with
   |.i64=>(Ξ (a*b)∧k (.int .i64 (a*b)))∨∃r,IntKind.i64.wrap (a*b)=r∧k (.int .i64 r)
   |_=>∃r,kx.wrap (a*b)=r∧k (.int kx r)
  |.quo=>b≠0∧∃r,kx.wrap (a.tdiv b)=r∧k (.int kx r)
  |.rem=>b≠0∧∃r,a.tmod b=r∧k (.int kx r)
  |.and=>∃r,kx.wrap (eH kx.bits a &&& eH kx.bits b).toNat=r∧k (.int kx r)
  |.or=>∃r,kx.wrap (eH kx.bits a ||| eH kx.bits b).toNat=r∧k (.int kx r)
  |.xor=>∃r,kx.wrap (eH kx.bits a ^^^ eH kx.bits b).toNat=r∧k (.int kx r)
  |.andNot=>∃r,kx.wrap (eH kx.bits a &&& ~~~eH kx.bits b).toNat=r∧k (.int kx r)
  |.eql=>k (.bool (a==b))
  |.neq=>k (.bool (a != b))
  |.lss=>k (.bool (decide (a<b)))
  |.leq=>k (.bool (decide (a≤b)))
  |.gtr=>k (.bool (decide (a>b)))
  |.geq=>k (.bool (decide (a≥b)))
  |_=>False
 else False
def cond_prop {c:Bool} {p:Prop} (h:bif c then p else False):c=true∧p:=by
 cases c with
 |true=>exact ⟨rfl,h⟩
 |false=>cases h
def Su {a b:IntKind} (h:(a==b)=true):a=b:=by
 cases a<;>cases b<;>first|rfl|exact absurd h (by decide)
def aaL {P:Program} {op:BinOp} {kx ky:IntKind} {a b:Int} {k:Value→Prop} (h:L3 op kx ky a b k) (t:TypeId) (w:World) :
  ∃v,(binOp op t (.int kx a) (.int ky b)).run P w=.ok v w∧v.oneCell'=true∧k v:=by
 cases op
 case shl =>
  obtain ⟨h0,r,rfl,hk⟩:=h;exact ⟨_,by simp [binOp,Op.shift,Int.not_lt.2 h0],rfl,hk⟩
 case shr =>
  obtain ⟨h0,r,rfl,hk⟩:=h;exact ⟨_,by simp [binOp,Op.shift,Int.not_lt.2 h0],rfl,hk⟩
 all_goals
  simp only [L3] at h;obtain ⟨hc,h1⟩:=cond_prop h;clear h;obtain rfl:=Su hc;clear hc
 case add =>
  cases kx<;>first|(obtain ⟨r,rfl,hk⟩:=h1;exact ⟨_,by simp [binOp,um],rfl,hk⟩)|(rcases h1 with ⟨h1,hk⟩|⟨r,rfl,hk⟩;exact ⟨_,by simp [binOp,um,h1.wrap],rfl,hk⟩;exact ⟨_,by simp [binOp,um],rfl,hk⟩)
 case sub =>
  cases kx<;>first|(obtain ⟨r,rfl,hk⟩:=h1;exact ⟨_,by simp [binOp,um],rfl,hk⟩)|(rcases h1 with ⟨h1,hk⟩|⟨r,rfl,hk⟩;exact ⟨_,by simp [binOp,um,h1.wrap],rfl,hk⟩;exact ⟨_,by simp [binOp,um],rfl,hk⟩)
 case mul =>
  cases kx<;>first|(obtain ⟨r,rfl,hk⟩:=h1;exact ⟨_,by simp [binOp,um],rfl,hk⟩)|(rcases h1 with ⟨h1,hk⟩|⟨r,rfl,hk⟩;exact ⟨_,by simp [binOp,um,h1.wrap],rfl,hk⟩;exact ⟨_,by simp [binOp,um],rfl,hk⟩)
 case quo =>
  obtain ⟨h0,r,rfl,hk⟩:=h1;exact ⟨_,by simp [binOp,Op.intDiv,h0],rfl,hk⟩
 case rem =>
  obtain ⟨h0,r,rfl,hk⟩:=h1;exact ⟨_,by simp [binOp,Op.intDiv,h0],rfl,hk⟩
 case and =>
  obtain ⟨r,rfl,hk⟩:=h1;exact ⟨_,by simp [binOp,LB],rfl,hk⟩
 case or =>
  obtain ⟨r,rfl,hk⟩:=h1;exact ⟨_,by simp [binOp,LB],rfl,hk⟩
 case xor =>
  obtain ⟨r,rfl,hk⟩:=h1;exact ⟨_,by simp [binOp,LB],rfl,hk⟩
 case andNot =>
  obtain ⟨r,rfl,hk⟩:=h1;exact ⟨_,by simp [binOp,LB],rfl,hk⟩
 all_goals exact ⟨_,by simp [binOp,Op.intCmp],rfl,h1⟩
inductive oj where
 |int (k:IntKind)|bool|str
inductive CK where
 |one (k:oj)|st (l:List oj)
def v_:CK→List oj
 |.one k=>[k]
 |.st l=>l
def lE (P:Program) (t:TypeId) (k:oj):Bool :=
 match P.underlying t,k with
 |some (.int q),.int k=>q==k
 |some .bool,.bool=>true
 |some .string,.str=>true
 |_,_=>false
def yr (P:Program):Nat→List Field→List oj→Bool
 |_,[],[]=>true
 | o, f :: fs, k :: ks => f.name != "_" && (aH f.offset o && (lE P f.type k && yr P (o + 1) fs ks))
 |_,_,_=>false
def HH (P:Program) (t:TypeId):CK→Bool
 |.one k=>lE P t k
 |.st l=>(match P.underlying t with|some (.struct _)=>true|_=>false)&&(!P.stoodInHeld t&&((match P.info? t with|some i=>aH i.size l.length|none=>false)&&yr P 0 (P.fieldsOf t).toList l))
def AT (P:Program):Nat→List Field→List CK→Bool
 |_,[],[]=>true
 | o, f :: fs, k :: ks => f.name != "_" && (aH f.offset o && (HH P f.type k && AT P (o + (v_ k).length) fs ks))
 |_,_,_=>false
def Mx (P:Program) (t:TypeId) (ks:List CK):Bool :=
 match P.underlying t with
 |some (.array n e)=>aH ks.length n&&((match P.info? e with|some i=>aH i.size 1|none=>false)&&ks.all fun k=>match k with|.one c=>lE P e c|.st _=>false)
 |_=>false
def Th (P:Program) (t:TypeId) (ks:List CK):Bool :=
 !P.eqGuardType P.depth t&&(((match P.underlying t with|some (.struct _)=>true|_=>false)&&(!P.stoodInHeld t&&AT P 0 (P.fieldsOf t).toList ks))||Mx P t ks)
def jb:List oj→List AV→List AV→Bool
 |[],[],[]=>true
 |.int k::ks,.v (.int k1 _)::r,.v (.int k2 _)::r'=>k1==k&&(k2==k&&jb ks r r')
 |.bool::ks,.v (.bool _)::r,.v (.bool _)::r'=>jb ks r r'
 |.str::ks,.v (.string _)::r,.v (.string _)::r'=>jb ks r r'
 |_,_,_=>false
def sJ:List CK→List AV→List AV→Bool
 |[],[],[]=>true
 |k::ks,xs,ys=>jb (v_ k) (xs.take (v_ k).length) (ys.take (v_ k).length)&&sJ ks (xs.drop (v_ k).length) (ys.drop (v_ k).length)
 |_,_,_=>false
def eF:List AV→List AV→Bool
 |.v (.int _ a)::r,.v (.int _ b)::r'=>a==b&&eF r r'
 |.v (.bool a)::r,.v (.bool b)::r'=>a==b&&eF r r'
 |.v (.string a)::r,.v (.string b)::r'=>a.data.toList==b.data.toList&&eF r r'
 |_,_=>true
def AI {a b:IntKind} (h:(a==b)=true):a=b:=by
 cases a<;>cases b<;>first|rfl|exact absurd h (by decide)
def tG {P:Program} {w:World} {t:TypeId} {k:oj} {us:Array Value} {o:Nat} {v:Value} (hk:lE P t k=true) (h:us[o]?=some v):(part t us o).run P w=.ok v w:=by
 unfold lE at hk;split at hk;iterate 3 (rename_i hu;simp [part,isAgg,run_underlying hu,h])
 ·cases hk
def PA {P:Program} {w:World} {us vs:Array Value} {d:Nat}:∀(fs:List Field) (ks:List oj) (xs ys:List AV) (o:Nat),yr P o fs ks=true→jb ks xs ys=true →
  (∀i x,xs[i]?=some (.v x)→us[o+i]?=some x)→(∀i x,ys[i]?=some (.v x)→vs[o+i]?=some x)→(xJ (d+1) us vs fs).run P w=.ok (eF xs ys) w
 |[],[],[],[],_,_,_,_,_=>by simp [xJ,eF]
 |f::fs,k::ks,xs,ys,o,hf,hk,hx,hy=>by
  simp only [yr,bJ,bne_iff_ne] at hf;obtain ⟨IT,wN,eQ,nM⟩:=hf;have wN:f.offset=o:=cW wN
  have hu:∃td,P.underlying f.type=some td:=by
   unfold lE at eQ;cases h:P.underlying f.type with
   |none=>rw [h] at eQ;cases eQ
   |some td=>exact ⟨td,rfl⟩
  have go:∀{x y:Value} {r r':List AV} {b:Bool},xs=.v x::r→ys=.v y::r'→jb ks r r'=true→(vL (d+1) f.type x y).run P w=.ok b w→eF xs ys=(b&&eF r r')→(xJ (d+1) us vs (f::fs)).run P w=.ok (eF xs ys) w:=by
   intro x y r r' b ex ey jh he hb;subst ex;subst ey;have h1:=tG (w:=w) eQ (hx 0 x rfl);have h2:=tG (w:=w) eQ (hy 0 y rfl);rw [lW] at h1 h2;have ih:=PA (P:=P) (w:=w) (us:=us) (vs:=vs) (d:=d) fs ks r r' (o+1) nM jh (fun i x h=>by have:=hx (i+1) x (by simpa using h);rwa [show o+1+i=o+(i+1) by omega]) (fun i x h=>by have:=hy (i+1) x (by simpa using h);rwa [show o+1+i=o+(i+1) by omega]);rw [hb];simp only [xJ,if_pos IT,kF,wN,h1,h2,he,mw,Sem.run_ite];cases b
   ·simp
   ·simp [ih]
  unfold jb at hk;split at hk
  ·rename_i e;cases e
  ·rename_i e;cases e;simp only [bJ] at hk;have Ml:=AI hk.1;have Mm:=AI hk.2.1;subst Ml;subst Mm;unfold lE at eQ;split at eQ
   ·rename_i iS e;cases e;exact go rfl rfl hk.2.2 (run_equalIn_int w d f.type _ _ _ _ iS) rfl
   iterate 2 (rename_i e;cases e)
   ·cases eQ
  ·rename_i e;cases e;unfold lE at eQ;split at eQ
   ·rename_i e;cases e
   ·rename_i iS e;exact go rfl rfl hk (run_equalIn_bool' w d f.type _ _ iS) rfl
   ·rename_i e;cases e
   ·cases eQ
  ·rename_i e;cases e;unfold lE at eQ;split at eQ;iterate 2 (rename_i e;cases e)
   ·rename_i iS e;exact go rfl rfl hk (run_equalIn_string w d f.type _ _ iS) (by rw [C3,C3];rfl)
   ·cases eQ
  ·cases hk
 |[],_::_,_,_,_,h,_,_,_=>by simp [yr] at h
 |_::_,[],_,_,_,h,_,_,_=>by simp [yr] at h
 |[],[],_::_,_,_,_,h,_,_=>by simp [jb] at h
 |[],[],[],_::_,_,_,h,_,_=>by simp [jb] at h
def DK:∀{l:List oj} {a b:List AV},jb l a b=true→a.length=l.length∧b.length=l.length:=by
 intro l;induction l with
 |nil =>
  intro a b h;unfold jb at h;split at h<;>simp_all
 |cons k ks ih =>
  intro a b h;unfold jb at h;split at h
  ·rename_i e;cases e
  ·rename_i e;cases e;simp only [bJ] at h;have:=ih h.2.2;simp [this.1,this.2]
  ·rename_i e;cases e;have:=ih h;simp [this.1,this.2]
  ·rename_i e;cases e;have:=ih h;simp [this.1,this.2]
  ·cases h
def abM:∀{l:List oj} {a b:List AV} (r r':List AV),jb l a b=true→eF (a++r) (b++r')=(eF a b&&eF r r'):=by
 intro l;induction l with
 |nil =>
  intro a b r r' h;unfold jb at h;split at h<;>simp_all [eF]
 |cons k ks ih =>
  intro a b r r' h;unfold jb at h;split at h
  ·rename_i e;cases e
  ·rename_i e;cases e;simp only [bJ] at h;simp only [C8,eF,ih r r' h.2.2,Rq]
  ·rename_i e;cases e;simp only [C8,eF,ih r r' h,Rq]
  ·rename_i e;cases e;simp only [C8,eF,ih r r' h,Rq]
  ·cases h
def XK {P:Program} {w:World} {t:TypeId} {l:List oj} {us:Array Value} {o:Nat} (hk:HH P t (.st l)=true):(part t us o).run P w=.ok (.agg (us.extract o (o+l.length))) w:=by
 simp only [HH,bJ] at hk;obtain ⟨h1,_,h3,_⟩:=hk;cases hi:P.info? t with
 |none=>rw [hi] at h3;cases h3
 |some i =>
  rw [hi] at h3;have hs:i.size=l.length:=cW h3;cases hu:P.underlying t with
  |none=>rw [hu] at h1;cases h1
  |some d =>
   rw [hu] at h1
   cases d<;>first|(cases h1;done)|skip
   simp [part,isAgg,run_underlying hu,sizeOf,typeInfo,hi,hs]
def XJ {P:Program} {w:World} {us vs:Array Value} {d:Nat}:∀(fs:List Field) (ks:List CK) (xs ys:List AV) (o:Nat),AT P o fs ks=true→sJ ks xs ys=true →
  (∀i x,xs[i]?=some (.v x)→us[o+i]?=some x)→(∀i x,ys[i]?=some (.v x)→vs[o+i]?=some x)→(xJ (d+2) us vs fs).run P w=.ok (eF xs ys) w
 |[],[],[],[],_,_,_,_,_=>by simp [xJ,eF]
 |[],_::_,_,_,_,h,_,_,_=>by simp [AT] at h
 |_::_,[],_,_,_,h,_,_,_=>by simp [AT] at h
 |[],[],_::_,_,_,_,h,_,_=>by simp [sJ] at h
 |[],[],[],_::_,_,_,h,_,_=>by simp [sJ] at h
 |f::fs,k::ks,xs,ys,o,hf,hk,hx,hy=>by
  simp only [AT,bJ,bne_iff_ne] at hf;obtain ⟨IT,wN,eQ,nM⟩:=hf;have wN:f.offset=o:=cW wN;simp only [sJ,bJ] at hk;obtain ⟨fR,fx⟩:=hk;obtain ⟨m,hm⟩:∃m,m=(v_ k).length:=⟨_,rfl⟩;rw [←hm] at fR fx nM;have hlen:=DK fR;rw [←hm] at hlen
  have HY:eF xs ys=(eF (xs.take m) (ys.take m)&&eF (xs.drop m) (ys.drop m)):=by
   have:=abM (xs.drop m) (ys.drop m) fR;rwa [xH,xH] at this
  have ih:=XJ (P:=P) (w:=w) (us:=us) (vs:=vs) (d:=d) fs ks (xs.drop m) (ys.drop m) (o+m) nM fx
   (fun i x h=>by rw [jq] at h;have:=hx (m+i) x h;rwa [show o+m+i=o+(m+i) by omega])
   (fun i x h=>by rw [jq] at h;have:=hy (m+i) x h;rwa [show o+m+i=o+(m+i) by omega])
  have gv:∀i x,(xs.take m)[i]?=some (.v x)→us[o+i]?=some x:=fun i x h=>by
   have hi:=(fk.1 h).1;rw [Z6 (by rw [hlen.1] at hi;exact hi)] at h;exact hx i x h
  have s9:∀i x,(ys.take m)[i]?=some (.v x)→vs[o+i]?=some x:=fun i x h=>by
   have hi:=(fk.1 h).1;rw [Z6 (by rw [hlen.2] at hi;exact hi)] at h;exact hy i x h
  generalize xs.take m=a at fR HY gv hlen;generalize ys.take m=b at fR HY s9 hlen;rw [HY];clear HY
  have key:∃x y,(part f.type us o).run P w=.ok x w∧(part f.type vs o).run P w=.ok y w∧(vL (d+2) f.type x y).run P w=.ok (eF a b) w:=by
   cases k with
   |one k =>
    have mT:lE P f.type k=true:=eQ;have fi:(xJ (d+2) us vs [f]).run P w=.ok (eF a b) w :=
     PA (P:=P) (w:=w) (us:=us) (vs:=vs) (d:=d+1) [f] [k] a b o (by simp [yr,IT,wN,mT]) fR gv s9
    unfold jb at fR;simp only [v_] at fR;split at fR
    ·rename_i e;cases e
    ·rename_i e;cases e;have h1:=tG (w:=w) mT (gv 0 _ rfl);have h2:=tG (w:=w) mT (s9 0 _ rfl);rw [lW] at h1 h2;simp only [bJ] at fR;have Ml:=AI fR.1;have Mm:=AI fR.2.1;subst Ml;subst Mm;have pG:=DK fR.2.2;have ha:=sd.1 pG.1;have hb:=sd.1 pG.2;subst ha;subst hb;refine ⟨_,_,h1,h2,?_⟩;unfold lE at mT;split at mT
     ·rename_i iS e;cases e;rw [run_equalIn_int w (d+1) f.type _ _ _ _ iS];simp [eF]
     iterate 2 (rename_i e;cases e)
     ·cases mT
    ·rename_i e;cases e;have h1:=tG (w:=w) mT (gv 0 _ rfl);have h2:=tG (w:=w) mT (s9 0 _ rfl);rw [lW] at h1 h2;have pG:=DK fR;have ha:=sd.1 pG.1;have hb:=sd.1 pG.2;subst ha;subst hb;refine ⟨_,_,h1,h2,?_⟩;unfold lE at mT;split at mT
     ·rename_i e;cases e
     ·rename_i iS e;rw [run_equalIn_bool' w (d+1) f.type _ _ iS];simp [eF]
     ·rename_i e;cases e
     ·cases mT
    ·rename_i e;cases e;have h1:=tG (w:=w) mT (gv 0 _ rfl);have h2:=tG (w:=w) mT (s9 0 _ rfl);rw [lW] at h1 h2;have pG:=DK fR;have ha:=sd.1 pG.1;have hb:=sd.1 pG.2;subst ha;subst hb;refine ⟨_,_,h1,h2,?_⟩;unfold lE at mT;split at mT;iterate 2 (rename_i e;cases e)
     ·rename_i iS e;rw [run_equalIn_string w (d+1) f.type _ _ iS,C3,C3];simp [eF]
     ·cases mT
    ·cases fR
   |st l =>
    have jC:m=l.length:=hm;refine ⟨_,_,XK eQ,XK eQ,?_⟩;simp only [HH,bJ,oW] at eQ;obtain ⟨h1,h2,_,h4⟩:=eQ
    have zp:P.underlying f.type=some (.struct (P.fieldsOf f.type)):=by
     unfold aah;cases hd:P.underlying f.type with
     |none=>rw [hd] at h1;cases h1
     |some dd =>
      rw [hd] at h1
      cases dd<;>first|rfl|cases h1
    rw [run_equalIn_struct w (d+1) f.type _ _ zp h2];refine PA (P:=P) (w:=w) (d:=d) _ l a b 0 h4 fR (fun i x h=>?_) fun i x h=>?_
    ·have hi:=(fk.1 h).1;rw [jJ,ZF];have hu:=gv i x h;have Φ:o+i<us.size:=(lB.1 hu).1;rw [if_pos (by omega)];exact hu
    ·have hi:=(fk.1 h).1;rw [jJ,ZF];have hu:=s9 i x h;have Φ:o+i<vs.size:=(lB.1 hu).1;rw [if_pos (by omega)];exact hu
  obtain ⟨x,y,p1,p2,p3⟩:=key;simp only [xJ,if_pos IT,kF,wN,p1,p2,p3,mw,Sem.run_ite];cases eF a b
  ·simp
  ·simp [ih]
def ag7 {P:Program} {w:World} {e:TypeId} {c:oj} {x y:Value} {d:Nat} (hc:lE P e c=true) (hf:jb [c] [.v x] [.v y]=true):(vL (d+1) e x y).run P w=.ok (eF [.v x] [.v y]) w:=by
 unfold jb at hf;split at hf
 ·rename_i h;cases h
 ·rename_i h1 h2 h3;cases h1;cases h2;cases h3;simp only [bJ] at hf;have e2:=AI hf.1;have e3:=AI hf.2.1;subst e2;subst e3;unfold lE at hc;split at hc
  ·rename_i hu h;cases h;rw [run_equalIn_int w d e _ _ _ _ hu];simp [eF]
  iterate 2 (rename_i h;cases h)
  ·cases hc
 ·rename_i h1 h2 h3;cases h1;cases h2;cases h3;unfold lE at hc;split at hc
  ·rename_i h;cases h
  ·rename_i hu h;rw [run_equalIn_bool' w d e _ _ hu];simp [eF]
  ·rename_i h;cases h
  ·cases hc
 ·rename_i h1 h2 h3;cases h1;cases h2;cases h3;unfold lE at hc;split at hc;iterate 2 (rename_i h;cases h)
  ·rename_i hu h;rw [run_equalIn_string w d e _ _ hu,C3,C3];simp [eF]
  ·cases hc
 ·cases hf
def abN {x y:Value} {r r':List AV} {c:oj} (h:jb [c] [.v x] [.v y]=true):eF (.v x::r) (.v y::r')=(eF [.v x] [.v y]&&eF r r'):=by
 unfold jb at h;split at h<;>simp_all [eF]
def abX {c:oj} {a b:List AV} (h:jb [c] a b=true):∃x y,a=[.v x]∧b=[.v y]:=by
 have hl:=DK h
 rcases a with _|⟨x,_|⟨x',a⟩⟩<;>rcases b with _|⟨y,_|⟨y',b⟩⟩<;>simp at hl
 unfold jb at h;split at h<;>simp_all
def ag6 {P:Program} {w:World} {us vs:Array Value} {e:TypeId} {d:Nat}:∀(ks:List CK) (xs ys:List AV) (o:Nat),(ks.all fun k=>match k with|.one c=>lE P e c|.st _=>false)=true→sJ ks xs ys=true →
  (∀i x,xs[i]?=some (.v x)→us[o+i]?=some x)→(∀i x,ys[i]?=some (.v x)→vs[o+i]?=some x)→(alS (d+1) e 1 us vs (List.range' o ks.length)).run P w=.ok (eF xs ys) w:=by
 intro ks;induction ks with
 |nil =>
  intro xs ys o _ hf _ _
  rcases xs with _|⟨x,xs⟩<;>rcases ys with _|⟨y,ys⟩<;>simp [sJ] at hf
  simp [alS,eF]
 |cons k ks ih =>
  intro xs ys o ha hf hx hy;simp only [List.all_cons,bJ] at ha;cases k with
  |st l=>exact absurd ha.1 (by simp)
  |one c =>
   simp only [sJ,bJ] at hf;obtain ⟨sS,IE⟩:=hf;obtain ⟨x,y,e1,e2⟩:=abX sS;change xs.take 1=_ at e1;change ys.take 1=_ at e2
   obtain ⟨r,rfl⟩:∃r,xs=.v x::r:=by
    cases xs with
    |nil=>cases e1
    |cons a r=>simp only [aab,alT,G4,and_true] at e1;exact ⟨r,by rw [e1]⟩
   obtain ⟨r',rfl⟩:∃r,ys=.v y::r:=by
    cases ys with
    |nil=>cases e2
    |cons a r=>simp only [aab,alT,G4,and_true] at e2;exact ⟨r,by rw [e2]⟩
   have Bc:jb [c] [.v x] [.v y]=true:=sS;have h1:=tG (w:=w) ha.1 (hx 0 x rfl);have h2:=tG (w:=w) ha.1 (hy 0 y rfl);rw [lW] at h1 h2;have h3:=ag7 (d:=d) (w:=w) ha.1 Bc;have hr:=ih r r' (o+1) ha.2 IE (fun i x h=>by have:=hx (i+1) x (by simpa using h);rwa [show o+1+i=o+(i+1) by omega]) (fun i x h=>by have:=hy (i+1) x (by simpa using h);rwa [show o+1+i=o+(i+1) by omega]);rw [abN Bc,cZ,List.range'_succ];simp only [alS,kF,Nat.mul_one,h1,h2,h3,mw];cases eF [.v x] [.v y]
   ·simp
   ·simp [hr]
def ag5 {P:Program} {w:World} {us vs:Array Value} {t:TypeId} {d:Nat} {ks:List CK} {xs ys:List AV} (h:Mx P t ks=true) (hf:sJ ks xs ys=true)
  (hx:∀i x,xs[i]?=some (.v x)→us[0+i]?=some x) (hy:∀i x,ys[i]?=some (.v x)→vs[0+i]?=some x):(vL (d+2) t (.agg us) (.agg vs)).run P w=.ok (eF xs ys) w:=by
 unfold Mx at h;split at h
 ·rename_i n e hu;simp only [bJ] at h;obtain ⟨hn,hi,ha⟩:=h;have hn:=cW hn;cases uL:P.info? e with
  |none=>rw [uL] at hi;cases hi
  |some i =>
   rw [uL] at hi;have hi:=cW hi;rw [run_equalIn_array w (d+1) us vs hu uL]
   have hc:P.cellsOf e=1:=by simp [Program.cellsOf,uL,hi]
   rw [hc,←hn,List.range_eq_range'];exact ag6 ks xs ys 0 ha hf hx hy
 ·cases h
def dO (id:Nat):Hp→Option Chunk
 |[]=>none
 |(i,c)::r=>bif aH i id then some c else dO id r
def fc {id:Nat} {H:Hp} {c:Chunk} (h:dO id H=some c):(id,c)∈H:=by
 induction H with
 |nil=>cases h
 |cons x r ih =>
  obtain ⟨i,c'⟩:=x;simp only [dO] at h;cases hb:aH i id with
  |true =>
   rw [hb] at h;cases h;rw [cW hb];simp
  |false =>
   rw [hb] at h;exact cj _ (ih h)
def fF (F:Nat→Prop) (w w':World):Nat→Prop:=fun b=>F b∨(w.heap.size≤b∧b<w'.heap.size)
def Below.agree {w w':World} {F:Nat→Prop} (h:Below w.heap.size w w') (hF:∀b,F b→b<w.heap.size):ga F w w':=fun b hb=>h.block b (hF b hb)
def Rd.later {w w':World} {F:Nat→Prop} {β:Nat→Value} {x:AV} {u:Value} (h:Rd w F β x u) (hb:Below w.heap.size w w') (hF:∀b,F b→b<w.heap.size):Rd w' (fF F w w') β x u :=
 h.frame (Below.agree hb hF) fun _ h=>.inl h
def ur (P:Program) (s:Sem Next) (w:World) (post:Value→World→Prop):Prop :=
 (∃v w',s.run P w=.ok (.value v) w'∧Below w.heap.size w w'∧post v w') ∨
 (∃g vs,s.run P w=.ok (.enter g vs) w∧Calls P g vs w fun e w'=>∃v,e=.returned v∧Below w.heap.size w w'∧post v w')
def p7 (P : Program) (g : FuncId) : Prop := ∃ fn c, P.funcs[g]? = some fn ∧ (fn.name == "runtime.NumGoroutine") = false ∧ fn.body = some c
def xT (P:Program) (g:FuncId) (args:List AV) (H:Hp) (r:AV):Prop :=
 p7 P g∧∀(w:World) (F:Nat→Prop) (β:Nat→Value) (vs:Array Value),Inv w F β H→vs.size=args.length →
  (∀i,i<args.length→Rd w F β (args.getD i .χ) (vs.getD i undef)) →
  Calls P g vs w fun e w'=>∃v,e=.returned v∧Below w.heap.size w w'∧bh w' (fF F w w') r v
abbrev Pure (P:Program) (g:FuncId) (args:List AV) (r:AV):Prop:=xT P g args [] r
def PN (c a b:AV) (k:AV→Prop):Prop :=
 match c with
 |.v (.bool true)=>k a
 |.v (.bool false)=>k b
 |_=>False
def PG (t:AV) (i:Nat) (k:AV→Prop):Prop :=
 match t with
 |.t vs=>bif Nat.blt i vs.length then k (vs.getD i .χ) else False
 |_=>False
def PQ (op:UnOp) (x:AV) (k:AV→Prop):Prop :=
 match op,x with
 |.not,.v (.bool b)=>k (.v (.bool (!b)))
 |.neg,.v (.int kd n)=>∃r,kd.wrap (0-n)=r∧k (.v (.int kd r))
 |_,_=>False
def Qz (op:BinOp) (a b:ByteArray) (k:Value→Prop):Prop :=
 match op with
 |.add=>a.size+b.size≤9223372036854775807∧∃r,a++b=r∧k (.string r)
 |.eql=>∃r:Bool,(a.toList==b.toList)=r∧k (.bool r)
 |.neq=>∃r:Bool,(!(a.toList==b.toList))=r∧k (.bool r)
 |.lss=>∃r:Bool,fX a.toList b.toList=r∧k (.bool r)
 |.leq=>∃r:Bool,(fX a.toList b.toList||a.toList==b.toList)=r∧k (.bool r)
 |.gtr=>∃r:Bool,(!(fX a.toList b.toList||a.toList==b.toList))=r∧k (.bool r)
 |.geq=>∃r:Bool,(!Op.bytesLess a.toList b.toList)=r∧k (.bool r)
 |_=>False
def PC (P:Program) (T:TT) (op:BinOp) (t:Nat) (x y:AV) (k:AV→Prop):Prop :=
 match x,y with
 |.v (.int kx a),.v (.int ky b)=>L3 op kx ky a b fun v=>k (.v v)
 |.v (.string a),.v (.string b)=>Qz op a b fun v=>k (.v v)
 |.v (.bool a),.v (.bool b) =>
  match T t with
  |some i=>match i.kind with
   |.bool=>match op with
    |.eql=>k (.v (.bool (a==b)))
    |.neq=>k (.v (.bool (!(a==b))))
    |_=>False
   |_=>False
  |none=>False
 |.s rows,.v (.slice none 0 0) =>
  match T t with
  |some i=>match i.kind with
   |.slice _=>match op with
    |.eql=>∀b:Bool,(b=true→rows=[])→k (.v (.bool b))
    |.neq=>∀b:Bool,(b=false→rows=[])→k (.v (.bool b))
    |_=>False
   |_=>False
  |none=>False
 |.a xs,.a ys=>∃ks,Th P t ks=true∧bif sJ ks xs ys then
   match op with
   |.eql=>k (.v (.bool (eF xs ys)))
   |.neq=>k (.v (.bool (!eF xs ys)))
   |_=>False
  else False
 |_,_=>False
def L2 {c:Bool} {p:Prop} (hc:c=true) (h:p):bif c then p else False:=by rw [hc];exact h
def lF (b:UInt8):List AV:=[.v (.int .u8 (b.toNat:Int))]
def PE (T:TT) (src dst:Nat) (x:AV) (k:AV→Prop):Prop :=
 match T src,T dst with
 |some i,some j =>
  match j.kind,x with
  |.int kd,.v (.int _ n)=>∃r,kd.wrap n=r∧k (.v (.int kd r))
  |.str,.v (.string s)=>k (.v (.string s))
  |.slice e,.v (.string s) =>
   match T e with
   |some je=>match je.kind with
    |.int .u8=>s.size≤maxLen∧k (.s (s.data.toList.map lF))
    |_=>False
   |none=>False
  |.str,.s rows =>
   match i.kind with
   |.slice e=>match T e with
    |some je=>match je.kind with
     |.int .u8=>∃l:List UInt8,rows=l.map lF∧k (.v (.string ⟨l.toArray⟩))
     |_=>False
    |none=>False
   |_=>False
  |_,_=>False
 |_,_=>False
def LW (x:AV) (off:Nat) (k:AV→Prop):Prop :=
 match x with
 |.b id o=>k (.b id (o+off))
 |.p cells=>k (.p (cells.drop off))
 |.e id K i j=>k (.e id K i (j+off))
 |_=>False
def PH (T:TT) (t:Nat) (x:AV) (f:Nat) (k:AV→Prop):Prop :=
 match T t with
 |some i=>match i.kind with
  |.struct fs=>match fs[f]? with
   |some (off,ty)=>match T ty with
    |some j=>bif aH j.cells 0 then False else LW x off k
    |none=>False
   |none=>False
  |_=>False
 |none=>False
def BJ (i:TI) (cells:List AV) (off:Nat) (k:AV→Prop):Prop :=
 bif p4 (off+i.cells) cells.length then
  bif p8 i.kind then ∃c,(cells.drop off).take i.cells=c∧k (.a c)
  else bif aH i.cells 1 then ∃x,cells[off]?=some x∧k x else False
 else False
def Cf (T:TT) (t:Nat) (x:AV) (H:Hp) (k:AV→Prop):Prop :=
 match T t with
 |some i=>match x with
  |.b id off=>match dO id H with
   |some (.box cells)=>BJ i cells off k
   |_=>False
  |.p cells=>BJ i cells 0 k
  |.e id K m j=>match dO id H with
   |some (.own _ K' rows)=>∃row,rows[m]?=some row∧K=K'∧BJ i row j k
   |_=>False
  |_=>False
 |none=>False
def PJ (T:TT) (t:Nat) (x i:AV) (H:Hp) (k:AV→Prop):Prop :=
 match T t with
 |some ti=>match ti.kind with
  |.slice e=>match T e with
   |some j=>match x,i with
    |.s rows,.v (.int _ n)=>∃m:Nat,n=(m:Int)∧∃row,rows[m]?=some row∧(bif aH row.length j.cells then k (.p row) else False)
    |.o id,.v (.int _ n)=>match dO id H with
     |some (.own _ K rows)=>bif aH K j.cells then ∃m:Nat,n=(m:Int)∧m<rows.length∧k (.e id K m 0) else False
     |_=>False
    |.w id Kw d,.v (.int _ n)=>match dO id H with
     |some (.own _ K rows)=>bif aH K j.cells&&aH Kw K then ∃m:Nat,n=(m:Int)∧d+m<rows.length∧k (.e id K (d+m) 0) else False
     |_=>False
    |_,_=>False
   |none=>False
  |.arr len e=>match T e with
   |some j=>match x,i with
    |.b id off,.v (.int _ n)=>∃m:Nat,n=(m:Int)∧m<len∧k (.b id (off+m*j.cells))
    |.p cells,.v (.int _ n)=>∃m:Nat,n=(m:Int)∧m<len∧k (.p (cells.drop (m*j.cells)))
    |_,_=>False
   |none=>False
  |_=>False
 |none=>False
def PI (T:TT) (t:Nat) (x i:AV) (k:AV→Prop):Prop :=
 match T t with
 |some ti=>match ti.kind,x,i with
  |.str,.v (.string s),.v (.int _ n)=>∃m:Nat,n=(m:Int)∧∃b:UInt8,s.data.toList[m]?=some b∧k (.v (.int .u8 (b.toNat:Int)))
  |.arr len e,.a cells,.v (.int _ n)=>match T e with
   |some j=>bif p8 j.kind then False else bif aH j.cells 1 then ∃m:Nat,n=(m:Int)∧m<len∧∃c,cells[m]?=some c∧k c else False
   |none=>False
  |_,_,_=>False
 |none=>False
def sw (x:Option AV) (d:Nat) (k:Nat→Prop):Prop :=
 match x with
 |none=>k d
 |some (.v (.int _ n))=>∃m:Nat,n=(m:Int)∧k m
 |_=>False
def PO (T:TT) (t:Nat) (x:AV) (lo hi mx:Option AV) (H:Hp) (k:AV→Prop):Prop :=
 match T t,mx with
 |some ti,none=>match ti.kind,x with
  |.slice e,.s rows=>match T e with
   |some j=>sw lo 0 fun l=>sw hi rows.length fun h=>l≤h∧h≤rows.length∧(∀i,i<rows.length→(rows.getD i []).length=j.cells)∧∃r,(rows.take h).drop l=r∧k (.s r)
   |none=>False
  |.slice e,.o id=>match T e with
   |some j=>match dO id H,hi with
    |some (.own _ K rows),none=>bif aH K j.cells then sw lo 0 fun l=>l≤rows.length∧k (.w id K l) else False
    |_,_=>False
   |none=>False
  |.slice e,.w id Kw d=>match T e with
   |some j=>match dO id H,hi with
    |some (.own _ K rows),none=>bif aH K j.cells&&aH Kw K then sw lo 0 fun l=>d+l≤rows.length∧k (.w id K (d+l)) else False
    |_,_=>False
   |none=>False
  |.slice e,.v (.slice none 0 0)=>match T e with
   |some _=>sw lo 0 fun l=>sw hi 0 fun h=>l≤h∧h≤0∧k (.v (.slice none 0 0))
   |none=>False
  |.str,.v (.string s)=>sw lo 0 fun l=>sw hi s.size fun h=>l≤h∧h≤s.size∧∃r,s.extract l h=r∧k (.v (.string r))
  |_,_=>False
 |_,_=>False
def FK (T:TT) (t:Nat) (x:AV) (lo hi:Option AV) (mx:AV) (k:AV→Prop):Prop :=
 match T t,lo,hi,x,mx with
 |some ti,none,some (.v (.int _ nh)),.s rows,.v (.int _ nm)=>match ti.kind with
  |.slice e=>match T e with
   |some j=>∃h q:Nat,nh=(h:Int)∧nm=(q:Int)∧h≤q∧q≤rows.length∧(∀i,i<rows.length→(rows.getD i []).length=j.cells)∧∃r,rows.take h=r∧k (.s r)
   |none=>False
  |_=>False
 |_,_,_,_,_=>False
def bz:AV→List AV
 |.a cs=>cs
 |x=>[x]
def jo:AV→Bool
 |.a _=>true
 |x=>uY x
def AX (place:Nat→Option (Nat×Nat)):List (Nat×AV)→List AV→Option (List AV)
 |[],cells=>some cells
 |(i,x)::r,cells =>
  match place i with
  |none=>none
  |some (off,size) =>
   bif jo x&&(aH (bz x).length size&&p4 (off+size) cells.length)
   then AX place r (cells.take off++(bz x++cells.drop (off+size))) else none
def Fv (T:TT) (fs:List (Nat×Nat)) (i:Nat):Option (Nat×Nat) :=
 match fs[i]? with
 |some (off,ty)=>match T ty with
  |some j=>some (off,j.cells)
  |none=>none
 |none=>none
def Hq (T:TT):List (Nat×Nat)→Bool
 |[]=>true
 |(_,ty)::r=>(T ty).isSome&&Hq T r
def PD (T:TT) (t:Nat) (parts:List (Nat×AV)) (k:AV→Prop):Prop :=
 match T t with
 |some i =>
  match cd i.zero with
  |.a zs=>match i.kind with
   |.struct fs=>bif Hq T fs then
     match AX (Fv T fs) parts zs with
     |some cells=>k (.a cells)
     |none=>False
    else False
   |.arr _ e=>match T e with
    |some j=>match AX (fun i=>some (i*j.cells,j.cells)) parts zs with
     |some cells=>k (.a cells)
     |none=>False
    |none=>False
   |_=>False
  |_=>False
 |none=>False
def rowsOf (size:Nat):Nat→List (Nat×AV)→Option (List (List AV))
 |_,[]=>some []
 |n,(i,x)::r=>bif aH i n&&(jo x&&aH (bz x).length size) then (rowsOf size (n+1) r).map (bz x::·) else none
def z7 (T:TT) (t len:Nat) (parts:List (Nat×AV)) (k:List (List AV)→Nat→Nat→Prop):Prop :=
 match T t with
 |some i=>match i.kind with
  |.slice e=>match T e with
   |some j=>match rowsOf j.cells 0 parts with
    |some rows=>bif aH parts.length len&&(p4 (len*j.cells) 16777216&&!(aH j.cells 0)) then k rows e j.cells else False
    |none=>False
   |none=>False
  |_=>False
 |none=>False
def fu:AV→Bool
 |.v _|.s _|.p _|.z=>true
 |_=>false
def kg:AV→Bool
 |.a cs|.t cs=>cs.all fu
 |.c _ fs cs=>fs.all fu&&cs.all fu
 |x=>fu x
def PM (x:AV) (k:AV→Prop):Prop :=
 match x with
 |.b id off=>k (.b id off)
 |.p cells=>k (.p cells)
 |.e id K i j=>k (.e id K i j)
 |.c (.func g) fs cs=>k (.c (.func g) fs cs)
 |_=>False
def lO (T:TT) (t:Nat) (x:AV) (H:Hp) (k:AV→Prop):Prop :=
 match T t with
 |some i=>match i.kind,x with
  |.slice _,.s rows=>∃n:Nat,rows.length=n∧(n≤maxLen→k (.v (.int .i64 (n:Int))))
  |.slice _,.v (.slice none 0 0)=>k (.v (.int .i64 0))
  |.slice _,.o id=>match dO id H with
   |some (.own _ _ rows)=>∃n:Nat,rows.length=n∧(n≤maxLen→k (.v (.int .i64 (n:Int))))
   |_=>False
  |.slice _,.w id _ d=>match dO id H with
   |some (.own _ _ rows)=>∃n:Nat,rows.length-d=n∧(n≤maxLen→k (.v (.int .i64 (n:Int))))
   |_=>False
  |.map _ _,.m id=>match dO id H with
   |some (.mp _ rows)=>∃n:Nat,rows.length=n∧(n≤140737488355328→k (.v (.int .i64 (n:Int))))
   |_=>False
  |.str,.v (.string s)=>∃n:Nat,s.size=n∧k (.v (.int .i64 (n:Int)))
  |.arr n _,_=>k (.v (.int .i64 (n:Int)))
  |_,_=>False
 |none=>False
def Kg (mn:Bool) (xs:List AV) (k:AV→Prop):Prop :=
 match xs with
 |[.v (.int kx a),.v (.int ky b)]=>bif kx==ky then ∃r,(if mn then min a b else max a b)=r∧k (.v (.int kx r)) else False
 |_=>False
def Ke (T:TT) (b:Builtin) (ts:List Nat) (xs:List AV) (H:Hp) (k:AV→Prop):Prop :=
 match b,ts,xs with
 |.len,[t],[x]=>lO T t x H k
 |.cap,[t],[.v (.slice none 0 0)]=>match T t with
  |some i=>match i.kind with
   |.slice _=>k (.v (.int .i64 0))
   |_=>False
  |none=>False
 |.min,_,xs=>Kg true xs k
 |.max,_,xs=>Kg false xs k
 |_,_,_=>False
def Kf (P:Program) (f:AV) (xs:List AV) (H:Hp) (k:AV→Prop):Prop :=
 match f with
 |.c (.func g) fs cs=>∃r,xT P g (fs++(xs++cs)) H r∧k r
 |_=>False
def nz:AV→AV
 |.v (.slice none 0 0)=>.s []
 |x=>x
def PL (T:TT) (t:Nat) (l c:AV) (k:AV→Prop):Prop :=
 match T t,l,c with
 |some i,.v (.int _ nl),.v (.int _ nc)=>match i.kind with
  |.slice e=>match T e with
   |some j=>bif jo (cd j.zero)&&(aH (bz (cd j.zero)).length j.cells&&(bz (cd j.zero)).all fu) then
     ∃n m:Nat,nl=(n:Int)∧nc=(m:Int)∧n≤m∧m≤140737488355328∧m*j.bytes≤140737488355328∧∃R,il n ((bz (cd j.zero)).map nz)=R∧k (.s R)
    else False
   |none=>False
  |_=>False
 |_,_,_=>False
def zG (ag:Bool) (y:AV):Option (List AV) :=
 match ag,y with
 |true,.a cs=>bif cs.all fu then some cs else none
 |true,_=>none
 |false,.a _=>none
 |false,.c fn [] []=>some [.c fn [] []]
 |false,x=>bif fu x then some [x] else none
def PK (T:TT) (t:Nat) (m i:AV) (c:Bool) (H:Hp) (k:AV→Prop):Prop :=
 match T t with
 |some ti=>match ti.kind with
  |.map kt e=>match T kt,T e with
   |some ik,some ie=>match ik.kind,m,i with
    |.int .i64,.m id,.v (.int .i64 n)=>match dO id H,zG (p8 ie.kind) (cd ie.zero) with
     |some (.mp ag rows),some zc=>bif ag==p8 ie.kind then ∃r,(bt n rows).getD (zc.map nz)=r∧(bif c then ∃b,(bt n rows).isSome=b∧k (.t [rT ag r,.v (.bool b)]) else k (rT ag r)) else False
     |_,_=>False
    |_,_,_=>False
   |_,_=>False
  |_=>False
 |none=>False
def ni (P:Program) (T:TT) (o:Oper) (ρ:Operand→AV) (H:Hp) (k:AV→Prop):Prop :=
 match o.op with
 |.move x=>k (ρ x)
 |.assign x=>k (ρ x)
 |.pick c a b=>PN (ρ c) (ρ a) (ρ b) k
 |.extract t i=>PG (ρ t) i k
 |.unOp op _ x=>PQ op (ρ x) k
 |.binOp op t x y _=>PC P T op t (ρ x) (ρ y) k
 |.convert src dst x=>PE T src dst (ρ x) k
 |.fieldAddr t x f=>PH T t (ρ x) f k
 |.load t x=>Cf T t (ρ x) H k
 |.indexAddr t x i=>PJ T t (ρ x) (ρ i) H k
 |.index t x i=>PI T t (ρ x) (ρ i) k
 |.slice t x lo hi mx=>match mx with
  |none=>PO T t (ρ x) (lo.map ρ) (hi.map ρ) none H k
  |some m=>FK T t (ρ x) (lo.map ρ) (hi.map ρ) (ρ m) k
 |.build t parts=>PD T t (parts.toList.map fun q=>(q.1,ρ q.2)) k
 |.buildSlice t len parts=>z7 T t len (parts.toList.map fun q=>(q.1,ρ q.2)) fun rows _ _=>bif rows.all (fun r=>r.all fu) then k (.s (rows.map fun r=>r.map nz)) else False
 |.makeFunc fn fs cs=>k (.c fn (fs.toList.map ρ) (cs.toList.map ρ))
 |.nilCheck x=>PM (ρ x) k
 |.lookup t x i c=>PK T t (ρ x) (ρ i) c H k
 |.makeSlice t l c=>PL T t (ρ l) (ρ c) k
 |.call c=>match c.callee with
  |.builtin b=>Ke T b c.argTypes.toList (c.args.toList.map ρ) H k
  |.value f=>Kf P (ρ f) (c.args.toList.map ρ) H k
  |.invoke _ _=>False
 |_=>False
section
variable {P:Program} {T:TT} {w:World} {F:Nat→Prop} {β:Nat→Value} {H:Hp} {k:AV→Prop}
def Rd.here {x:AV} {u:Value} (h:Rd w F β x u):Rd w (fF F w w) β x u:=h.frame (fun _ _=>rfl) fun _ h=>.inl h
def cy (P:Program) (s:Sem Value) (w:World) (F:Nat→Prop) (β:Nat→Value) (k:AV→Prop):Prop :=
 ∃v w' r,s.run P w=.ok v w'∧Below w.heap.size w w'∧k r∧Rd w' (fF F w w') β r v
def cy.mk {s:Sem Value} {v:Value} {r:AV} (hr:s.run P w=.ok v w) (hk:k r) (hv:Rd w F β r v):cy P s w F β k :=
 ⟨v,w,r,hr,Below.refl _ _,hk,hv.here⟩
def vO (P:Program) (s:Sem Value) (w:World) (F:Nat→Prop) (β:Nat→Value) (k:AV→Prop):Prop :=
 ∃v r,s.run P w=.ok v w∧k r∧Rd w F β r v
def vO.mk {s:Sem Value} {v:Value} {r:AV} (hr:s.run P w=.ok v w) (hk:k r) (hv:Rd w F β r v):vO P s w F β k:=⟨v,r,hr,hk,hv⟩
def vO.gives {s:Sem Value} (h:vO P s w F β k):cy P s w F β k:=by
 obtain ⟨v,r,hr,hk,hv⟩:=h;exact cy.mk hr hk hv
def cy.out {s:Sem Value} (h:cy P s w F β k):ur P (do pure (.value (←s))) w fun v w'=>∃r,k r∧Rd w' (fF F w w') β r v:=by
 obtain ⟨v,w',r,hr,hb,hk,hv⟩:=h;exact .inl ⟨v,w',by simp [hr],hb,r,hk,hv⟩
def ahr {c a b:AV} {vc va vb:Value} (hc:Rd w F β c vc) (ha:Rd w F β a va) (hb:Rd w F β b vb) (h:PN c a b k) :
  ur P (do pure (.value (if ←asBool vc then va else vb))) w fun v w'=>∃r,k r∧Rd w' (fF F w w') β r v:=by
 unfold PN at h;split at h
 ·cases hc.bK;exact .inl ⟨va,w,by simp [asBool],Below.refl _ _,_,h,ha.here⟩
 ·cases hc.bK;exact .inl ⟨vb,w,by simp [asBool],Below.refl _ _,_,h,hb.here⟩
 ·cases h
def ahi {t:AV} {i:Nat} {vt:Value} (ht:Rd w F β t vt) (h:PG t i k):cy P (alV vt i) w F β k:=by
 unfold PG at h;split at h
 ·rename_i vs;obtain ⟨Φ,hk⟩:=cond_prop h
  have Φ:i<vs.length:=by simpa [Nat.blt_eq] using Φ
  obtain ⟨us,rfl,hs,hu⟩:=ht.Cy;refine cy.mk (v:=us.getD i undef) ?_ hk (hu i Φ)
  have hi:i<us.size:=by omega
  simp [alV,hi]
 ·cases h
def ahu {op:UnOp} {x:AV} {vx:Value} (hx:Rd w F β x vx) (h:PQ op x k):cy P (Op.unary op vx) w F β k:=by
 unfold PQ at h;split at h
 ·cases hx.bK;exact cy.mk (by simp [Op.unary]) h (.i (.v (.inl rfl)))
 ·cases hx.bK;obtain ⟨r,rfl,hk⟩:=h;exact cy.mk (by simp [Op.unary,um]) hk (.i (.v (.inl rfl)))
 ·cases h
def aiq {op:BinOp} {a b:ByteArray} {k:Value→Prop} (h:Qz op a b k) (t:TypeId) :
  ∃v,(binOp op t (.string a) (.string b)).run P w=.ok v w∧v.oneCell'=true∧k v:=by
 cases op<;>simp only [Qz] at h
 case add =>
  obtain ⟨h1,r,rfl,hk⟩:=h
  have:¬((a.size+b.size:Nat):Int)>IntKind.i64.max:=by
   have:IntKind.i64.max=9223372036854775807:=rfl;omega
  exact ⟨_,by simp only [binOp,Op.stringOp];rw [if_neg this];rfl,rfl,hk⟩
 all_goals first|exact h.elim|(obtain ⟨r,rfl,h⟩:=h;exact ⟨_,by simp [binOp,Op.stringOp],rfl,h⟩)
def z6 {op:BinOp} {t:TypeId} {x y:Operand} {u v:Value} (hu:u.oneCell'=true) (hn:u≠.nilIface):(eqGuard op t x y u v).run P w=.ok () w:=by
 have hc:eqGuard op t x y u v=if !(op matches .eql|.neq) then (pure ():Sem Unit) else pure ():=by
  unfold eqGuard
  cases u<;>first|(simp [alU] at hu;done)|exact absurd rfl hn|rfl
 rw [hc];split<;>rfl
def run_equalIn_bool (d:Nat) {t:TypeId} (hd:P.underlying t=some .bool) (a b:Bool):(vL (d+1) t (.bool a) (.bool b)).run P w=.ok (a==b) w:=by
 simp [vL,run_underlying hd]
def run_equalIn_slice_nil (d:Nat) {t e:TypeId} (hd:P.underlying t=some (.slice e)) (a:Option Addr) (n c:Nat):(vL (d+1) t (.slice a n c) (.slice none 0 0)).run P w=.ok a.isNone w:=by
 cases a<;>simp [vL,run_underlying hd]
def aha {op:BinOp} {t:Nat} {x y:AV} {vx vy:Value} (hT:bL P T) (hx:Rd w F β x vx) (hy:Rd w F β y vy) (ox oy:Operand) (h:PC P T op t x y k) :
  cy P (do eqGuard op t ox oy vx vy;binOp op t vx vy) w F β k:=by
 unfold PC at h;split at h
 ·cases hx.bK;cases hy.bK;obtain ⟨v,hr,h1,hk⟩:=aaL (P:=P) h t w;exact cy.mk (v:=v) (by simp [z6 (u:=.int _ _) rfl (by simp),hr]) hk (.i (.v (.inl h1)))
 ·cases hx.bK;cases hy.bK;obtain ⟨v,hr,h1,hk⟩:=aiq (P:=P) (w:=w) h t;exact cy.mk (v:=v) (by simp [z6 (u:=.string _) rfl (by simp),hr]) hk (.i (.v (.inl h1)))
 ·cases hx.bK;cases hy.bK;rename_i a b;split at h
  ·rename_i i hi;obtain ⟨d,hd,UL⟩:=(hT _ _ hi).oe;split at h
   ·rename_i aci;rw [aci] at UL
    have bH:P.underlying t=some .bool:=by cases d<;>simp [sr] at UL;exact hd
    have he:(Op.equal t (.bool a) (.bool b)).run P w=.ok (a==b) w:=by
     exact run_equalIn_bool 9999 bH a b
    split at h
    ·exact cy.mk (by simp [z6 (u:=.bool _) rfl (by simp),binOp,he]) h (.i (.v (.inl rfl)))
    ·exact cy.mk (by simp [z6 (u:=.bool _) rfl (by simp),binOp,he]) h (.i (.v (.inl rfl)))
    ·cases h
   ·cases h
  ·cases h
 ·rename_i rows;cases hy.bK;split at h
  ·rename_i i hi;split at h
   ·rename_i e he;have hu:=(hT _ _ hi).slice he
    obtain ⟨a,n,c,rfl,ha⟩:∃a n c,vx=.slice a n c∧(a=none→rows=[]):=by
     have hs:=hx.oR;cases hs with
     |s0=>exact ⟨_,_,_,rfl,fun _=>rfl⟩
     |s=>exact ⟨_,_,_,rfl,fun h=>by cases h⟩
    have fw:(Op.equal t (.slice a n c) (.slice none 0 0)).run P w=.ok a.isNone w:=run_equalIn_slice_nil 9999 hu a n c;have hg:=z6 (P:=P) (w:=w) (op:=op) (t:=t) (x:=ox) (y:=oy) (u:=.slice a n c) (v:=.slice none 0 0) rfl (by simp);split at h
    ·exact cy.mk (by simp [z6 (u:=.slice a n c) rfl (by simp),binOp,fw]) (h a.isNone fun hn=>ha (by cases a<;>first|rfl|cases hn)) (.i (.v (.inl rfl)))
    ·exact cy.mk (by simp [z6 (u:=.slice a n c) rfl (by simp),binOp,fw]) (h (!a.isNone) fun hn=>ha (by cases a<;>first|rfl|cases hn)) (.i (.v (.inl rfl)))
    ·cases h
   ·cases h
  ·cases h
 ·rename_i xs ys;obtain ⟨ks,I5,h⟩:=h;obtain ⟨jh,h⟩:=cond_prop h;obtain ⟨us,rfl,hs,_,hu⟩:=hx.qS;obtain ⟨vs,rfl,ez,_,hv⟩:=hy.qS;simp only [Th,bJ,ug,oW] at I5;obtain ⟨UC,I5⟩:=I5
  have cell:∀{zs:List AV} {ws:Array Value},ws.size=zs.length→(∀i,i<zs.length→Rd w F β (zs.getD i .χ) (ws.getD i undef))→∀i z,zs[i]?=some (.v z)→ws[0+i]?=some z:=by
   intro zs ws aX fy i z hz;obtain ⟨hi,iT⟩:=fk.1 hz;have:=fy i hi;rw [fW,hz,Ay] at this;have e:=this.bK;rw [jJ,gz (by omega)];rw [lA,gz (by omega),Ay] at e;rw [e]
  have heq:(vL 10000 t (.agg us) (.agg vs)).run P w=.ok (eF xs ys) w:=by
   rcases I5 with ⟨bT,adA,Es⟩|wA
   ·have zp:P.underlying t=some (.struct (P.fieldsOf t)):=by
     unfold aah;cases hd:P.underlying t with
     |none=>rw [hd] at bT;cases bT
     |some d =>
      rw [hd] at bT
      cases d<;>first|rfl|cases bT
    rw [run_equalIn_struct w 9999 t us vs zp adA];exact XJ (P:=P) (w:=w) (us:=us) (vs:=vs) (d:=9997) _ ks xs ys 0 Es jh (cell hs hu) (cell ez hv)
   ·exact ag5 (d:=9998) wA jh (cell hs hu) (cell ez hv)
  split at h
  ·exact cy.mk (by simp [run_eqGuard_agg w _ t _ _ us vs UC,run_eql_struct,heq]) h (.i (.v (.inl rfl)))
  ·exact cy.mk (by simp [run_eqGuard_agg w _ t _ _ us vs UC,run_neq_struct,heq]) h (.i (.v (.inl rfl)))
  ·cases h
 ·cases h
def Sk {x:AV} {off:Nat} {vx:Value} (hx:Rd w F β x vx) (h:LW x off k) :
  ∃b o r,vx=.pointer (some ⟨b,o,none⟩)∧k r∧Rd w F β r (.pointer (some ⟨b,o+off,none⟩)):=by
 unfold LW at h;split at h
 ·obtain ⟨eZ,hb,rfl⟩:=hx.mM;exact ⟨_,_,_,rfl,h,.b hb⟩
 ·rename_i cells;have hp:=hx.BW;cases hp with
  |p hb eP fi fy =>
   rename_i b o u;refine ⟨_,_,_,rfl,h,.i ?_⟩;refine .p (u:=fun j=>u (off+j)) hb (fun j hj=>?_) (fun j hj=>?_) (fun j hj=>?_)
   ·simp at hj;rw [G8];exact eP _ (by omega)
   ·simp at hj;exact fi _ (by omega)
   ·simp at hj;have:=fy (off+j) (by omega);simpa [aV,jq] using this
 ·obtain ⟨g,n,c,hb,rfl⟩:=hx.AR;refine ⟨_,_,_,rfl,h,?_⟩;rw [G8];exact .e hb
 ·cases h
def ahj {t f:Nat} {x:AV} {vx:Value} (hT:bL P T) (hx:Rd w F β x vx) (h:PH T t x f k):cy P (alW t vx f) w F β k:=by
 unfold PH at h;split at h
 ·rename_i i hi;split at h
  ·rename_i fs Es;split at h
   ·rename_i off ty hf;split at h
    ·rename_i j hj;cases hz:aH j.cells 0 with
     |true=>rw [hz] at h;cases h
     |false =>
      rw [hz] at h;obtain ⟨b,o,r,rfl,hk,hr⟩:=Sk hx h;obtain ⟨fields,hu,hm⟩:=(hT _ _ hi).struct Es
      have hff:∃fd,fields[f]?=some fd∧fd.offset=off∧fd.type=ty:=by
       rw [←hm] at hf;simp only [uj,Option.map_eq_some_iff] at hf;obtain ⟨fd,h1,h2⟩:=hf;cases h2;exact ⟨fd,by simpa using h1,rfl,rfl⟩
      obtain ⟨fd,h1,rfl,rfl⟩:=hff;have aX:=(hT _ _ hj).lj w
      have aQ:j.cells≠0:=by
       intro h0;rw [h0] at hz;cases hz
      refine cy.mk (v:=.pointer (some ⟨b,o+fd.offset,none⟩)) ?_ hk hr;simp [alW,run_underlying hu,h1,G2,fieldPlace,aX,aQ,gk]
    ·cases h
   ·cases h
  ·cases h
 ·cases h
def OP {t:Nat} {i:TI} {cells:List AV} {off:Nat} (hi:gF P t i) (h:BJ i cells off k) {b base:Nat} {u:Nat→Value}
  (eP:∀j,j<cells.length→w.cell? ⟨b,base+j,none⟩=some (u j)) (fi:∀j,j<cells.length→(u j).oneCell'=true)
  (fy:∀j,j<cells.length→Rd w F β (cells.getD j .χ) (u j)):vO P (GZ t (.pointer (some ⟨b,base+off,none⟩))) w F β k:=by
 unfold BJ at h;obtain ⟨hle,h⟩:=cond_prop h
 have hle:off+i.cells≤cells.length:=by simpa using hle
 have sP:=hi.Kc w;have aX:=hi.lj w;cases hg:p8 i.kind with
 |true =>
  rw [hg] at h sP
  have hl:=run_loadCells (P:=P) w ⟨b,base+off,none⟩ i.cells (fun j=>u (off+j)) (fun j hj=>by
   rw [gk,G8];exact eP _ (by omega))
  obtain ⟨c,rfl,h⟩:=h;refine vO.mk (v:=.agg ((List.range i.cells).map fun j=>u (off+j)).toArray) ?_ h ?_
  ·simp [GZ,G2,loadVar,sP,aX,hl]
  ·have hlen:((cells.drop off).take i.cells).length=i.cells:=by simp;omega
   refine .a (by simp;omega) (fun j hj=>?_) fun j hj=>?_
   ·rw [hlen] at hj;simpa [xz,hj] using fi (off+j) (by omega)
   ·rw [hlen] at hj;have:=fy (off+j) (by omega);simpa [xz,hj,aV,gn,jq] using this
 |false =>
  rw [hg] at h sP;obtain ⟨h1,h⟩:=cond_prop h;have h1:i.cells=1:=cW h1;obtain ⟨x,hx,h⟩:=h;have Vd:=fy off (by omega);rw [fW,hx,Ay] at Vd;refine vO.mk (v:=u off) ?_ h Vd;simp [GZ,G2,loadVar,sP,eP off (by omega)]
def wy {α:Type} {l:List α} {i:Nat} {x d:α} (h:l[i]?=some x):l.getD i d=x:=by simp [aV,h]
def E6 {α:Type} {l:List α} {i:Nat} {x:α} (h:l[i]?=some x):i<l.length:=(fk.1 h).1
def JG {id E K:Nat} {rows:List (List AV)} (h:Chunk.holds w F β id (.own E K rows)) {g n c:Nat} (ai:β id=.slice (some ⟨g,0,none⟩) n c) :
  rows.length=n∧n≤c∧c≤maxLen∧∃u:Nat→Nat→Value,∀m j,m<rows.length→j<K→w.cell? ⟨g,m*K+j,none⟩=some (u m j)∧(u m j).oneCell'=true∧bh w F ((rows.getD m []).getD j .χ) (u m j):=by
 rcases h with ⟨rfl,a,hv⟩|⟨g',cap,cur,hv,_,hg,hn,hm,hs,hk,hr⟩
 ·rw [hv] at ai;cases ai;exact ⟨rfl,bG _,Nat.zero_le _,fun _ _=>undef,fun m j hm=>by simp at hm⟩
 ·rw [hv] at ai;cases ai;refine ⟨rfl,hn,hm,fun m j=>cur.getD (m*K+j) undef,fun m j bQ hj=>⟨?_,(hr m j bQ hj).1,(hr m j bQ hj).2⟩⟩
  have Φ:m*K+j<rows.length*K:=by
   calc m*K+j<m*K+K:=by omega
    _=(m+1)*K:=by rw [bM];omega
    _≤rows.length*K:=cI _ bQ
  rw [cell_of_row w g (m*K+j) cur E (0,0) hg]
  have hc:rows.length*K≤cur.size:=by rw [hs];exact cI _ hn
  have h2:m*K+j<cur.size:=by omega
  simp [h2]
def Wr {id E K:Nat} {rows:List (List AV)} (h:Chunk.holds w F β id (.own E K rows)):∀i,i<rows.length→(rows.getD i []).length=K:=by
 rcases h with ⟨rfl,_⟩|⟨_,_,_,_,_,_,_,_,_,hk,_⟩
 ·intro i hi;simp at hi
 ·exact hk
def tr {id E K:Nat} {rows:List (List AV)} (h:Chunk.holds w F β id (.own E K rows)):(rows=[]∧∃a,β id=.slice a 0 0)∨∃g cap,β id=.slice (some ⟨g,0,none⟩) rows.length cap∧cap≤maxLen∧rows.length≤cap:=by
 rcases h with h|⟨g,cap,cur,hv,_,hg,hn,hm,_⟩
 ·exact .inl h
 ·exact .inr ⟨g,cap,hv,hm,hn⟩
def XN {t:Nat} {x:AV} {vx:Value} (hT:bL P T) (hI:Inv w F β H) (hx:Rd w F β x vx) (h:Cf T t x H k):vO P (GZ t vx) w F β k:=by
 unfold Cf at h;split at h
 ·rename_i i hi;split at h
  ·rename_i id off;split at h
   ·rename_i cells hc;obtain ⟨b,c,e,ai,hh,hs,h1,hr⟩:=hI.holds _ _ (fc hc);obtain ⟨eZ,hb,rfl⟩:=hx.mM;rw [ai] at hb;cases hb
    have:=OP (hT _ _ hi) h (b:=b) (base:=0) (u:=fun j=>c.getD j undef) (fun j hj=>by
     rw [cell_of_row w b (0+j) c e (0,0) hh,jJ]
     have:j<c.size:=by omega
     simp [this]) h1 hr
    simpa using this
   ·cases h
  ·rename_i cells;have hp:=hx.BW;cases hp with
   |p hb eP fi fy=>exact OP (off:=0) (hT _ _ hi) h eP fi fun j hj=>.i (fy j hj)
  ·rename_i id K m j;split at h
   ·rename_i E' K' rows hc;obtain ⟨row,jE,rfl,h⟩:=h;obtain ⟨g,n,c,ai,rfl⟩:=hx.AR;have hh:=hI.holds _ _ (fc hc);obtain ⟨_,_,_,u,hu⟩:=JG hh ai;have hm:=E6 jE
    have nN:row.length=K:=by
     have:=Wr hh m hm;rwa [wy jE] at this
    rw [←wy (d:=[]) jE] at h nN;exact OP (hT _ _ hi) h (b:=g) (base:=m*K) (u:=u m) (fun j hj=>(hu m j hm (by omega)).1) (fun j hj=>(hu m j hm (by omega)).2.1)
     fun j hj=>.i (hu m j hm (by omega)).2.2
   ·cases h
  ·cases h
 ·cases h
def ahn {t:Nat} {x:AV} {vx:Value} (hT:bL P T) (hI:Inv w F β H) (hx:Rd w F β x vx) (h:Cf T t x H k):cy P (GZ t vx) w F β k :=
 (XN hT hI hx h).gives
def bh.tJ {rows:List (List AV)} {u:Value} (h:bh w F (.s rows) u):(rows=[]∧∃a,u=.slice a 0 0)∨∃(b off c K:Nat) (v:Nat→Nat→Value),F b∧rows.length≤c∧c≤maxLen∧u=.slice (some ⟨b,off,none⟩) rows.length c ∧
  (∀i,i<rows.length→(rows.getD i []).length=K)∧∀i j,i<rows.length→j<K→w.cell? ⟨b,off+(i*K+j),none⟩=some (v i j)∧(v i j).oneCell'=true∧bh w F ((rows.getD i []).getD j .χ) (v i j):=by
 cases h with
 |s0=>exact .inl ⟨rfl,_,rfl⟩
 |s hb hc hm hk eP fi fy=>exact .inr ⟨_,_,_,_,_,hb,hc,hm,rfl,hk,fun i j hi hj=>⟨eP i j hi hj,fi i j hi hj,fy i j hi hj⟩⟩
def ahk {t:Nat} {x i:AV} {vx vi:Value} (hT:bL P T) (hI:Inv w F β H) (hx:Rd w F β x vx) (hi:Rd w F β i vi) (h:PJ T t x i H k):cy P (C6 t vx vi) w F β k:=by
 unfold PJ at h;split at h
 ·rename_i ti jF;split at h
  ·rename_i e he;have hu:=(hT _ _ jF).slice he;split at h
   ·rename_i j hj;have aX:=(hT _ _ hj).lj w;split at h
    ·rename_i rows kd n;cases hi.bK;obtain ⟨m,rfl,row,jE,h⟩:=h;obtain ⟨nN,hk⟩:=cond_prop h;have nN:row.length=j.cells:=cW nN;have hm:=E6 jE
     rcases hx.oR.tJ with ⟨rfl,_⟩|⟨b,off,c,K,v,hb,hc,jC,rfl,hK,hv⟩
     ·simp at hm
     ·have A5:row.length=K:=by have:=hK m hm;rwa [wy jE] at this
      refine cy.mk (v:=.pointer (some ⟨b,off+m*K,none⟩)) ?_ hk (.i ?_)
      ·have:(0:Int)≤(m:Int)∧(m:Int)<(rows.length:Int):=by omega
       simp [C6,asIntOf,run_underlying hu,hm,aX,gk,←nN,A5]
      ·refine .p (u:=v m) hb (fun q hq=>?_) (fun q hq=>(hv m q hm (by omega)).2.1) fun q hq=>?_
       ·rw [G8];exact (hv m q hm (by omega)).1
       ·have:=(hv m q hm (by omega)).2.2;rwa [wy jE] at this
    ·rename_i id kd n;cases hi.bK;split at h
     ·rename_i E' K rows hc;obtain ⟨hK,h⟩:=cond_prop h;have hK:K=j.cells:=cW hK;obtain ⟨m,rfl,hm,hk⟩:=h;obtain ⟨a,n,c,ai,rfl⟩:=hx.jY;have hh:=hI.holds _ _ (fc hc)
      rcases tr hh with ⟨rfl,_⟩|⟨g,cap,hv,_⟩
      ·simp at hm
      ·rw [ai] at hv;cases hv;refine cy.mk (v:=.pointer (some ⟨g,m*K+0,none⟩)) ?_ hk (.e ai);simp [C6,asIntOf,run_underlying hu,hm,aX,gk,←hK]
     ·cases h
    ·rename_i id Kw d kd n;cases hi.bK;split at h
     ·rename_i E' K rows hc;obtain ⟨hK,h⟩:=cond_prop h;simp only [bJ] at hK;have q9:K=j.cells:=cW hK.1;have M0:Kw=K:=cW hK.2;subst M0;obtain ⟨m,rfl,hm,hk⟩:=h;obtain ⟨a,a',n,c,ai,hd,ha,rfl⟩:=hx.xw;have hh:=hI.holds _ _ (fc hc)
      rcases tr hh with ⟨rfl,_⟩|⟨g,cap,hv,_,iP⟩
      ·simp at hm
      ·rw [ai] at hv;cases hv;have ha:=ha (by omega);subst ha;refine cy.mk (v:=.pointer (some ⟨g,(d+m)*Kw+0,none⟩)) ?_ hk (.e ai)
       have bQ:m<rows.length-d:=by omega
       have e:((⟨g,0,none⟩:Addr).add (d*Kw)).add (m*j.cells)=⟨g,(d+m)*Kw+0,none⟩:=by
        rw [←q9,Addr.add_add,gk,←bM];simp
       simp [C6,asIntOf,run_underlying hu,bQ,aX,e]
     ·cases h
    ·cases h
   ·cases h
  ·rename_i len e he;have hu:=(hT _ _ jF).arr he;split at h
   ·rename_i j hj;have aX:=(hT _ _ hj).lj w;split at h
    ·cases hi.bK;obtain ⟨m,rfl,hm,hk⟩:=h;obtain ⟨eZ,hb,rfl⟩:=hx.mM;refine cy.mk (v:=.pointer (some ⟨eZ,_+m*j.cells,none⟩)) ?_ hk (.b hb);simp [C6,G2,asIntOf,run_underlying hu,hm,aX,gk]
    ·rename_i cells kd n;cases hi.bK;obtain ⟨m,rfl,hm,hk⟩:=h;have hp:=Sk (k:=fun r=>r=.p (cells.drop (m*j.cells))) hx rfl;obtain ⟨b,o,r,rfl,rfl,hr⟩:=hp;refine cy.mk (v:=.pointer (some ⟨b,o+m*j.cells,none⟩)) ?_ hk hr;simp [C6,G2,asIntOf,run_underlying hu,hm,aX,gk]
    ·cases h
   ·cases h
  ·cases h
 ·cases h
end
section
variable {P:Program} {T:TT} {w:World} {F:Nat→Prop} {β:Nat→Value} {H:Hp} {k:AV→Prop}
def ag8 {src dst:Nat} {i j:TI} (hs:gF P src i) (hd:gF P dst j) {kd kn:IntKind} (hk:j.kind=.int kd) (n:Int) :
  (convert src dst (.int kn n)).run P w=.ok (.int kd (kd.wrap n)) w:=by
 obtain ⟨d,bH,_⟩:=hs.oe;simp [convert,run_underlying bH,run_underlying (hd.int hk),Conv.intToInt]
def aaQ {l:List UInt8} {b off c:Nat} (hb:F b) (hc:l.length≤c) (hm:c≤maxLen) (h:∀m,m<l.length→w.cell? ⟨b,off+m,none⟩=some (.int .u8 ((l.getD m 0).toNat:Int))) :
  bh w F (.s (l.map lF)) (.slice (some ⟨b,off,none⟩) l.length c):=by
 have hl:(l.map lF).length=l.length:=by simp
 rw [←hl];refine .s (k:=1) (u:=fun m _=>.int .u8 ((l.getD m 0).toNat:Int)) hb (by simpa using hc) hm (fun m hm=>?_) (fun m j hm hj=>?_) (fun _ _ _ _=>rfl) fun m j hm hj=>?_
 ·simp at hm;simp [aV,hm,lF]
 ·simp at hm
  have:m*1+j=m:=by omega
  rw [this];exact h m hm
 ·simp at hm
  have:j=0:=by omega
  subst this;simp [aV,hm,lF];exact .v (.inl rfl)
def ZA {l:List UInt8} {m:Nat} (h:m<l.length):(l.map lF).getD m []=lF (l.getD m 0):=by simp [aV,h]
def aaP {l:List UInt8} {u:Value} (h:bh w F (.s (l.map lF)) u):(l=[]∧∃a,u=.slice a 0 0)∨∃(b off c:Nat),F b∧l.length≤c∧c≤maxLen∧u=.slice (some ⟨b,off,none⟩) l.length c ∧
  ∀m,m<l.length→w.cell? ⟨b,off+m,none⟩=some (.int .u8 ((l.getD m 0).toNat:Int)):=by
 rcases h.tJ with ⟨h1,h2⟩|⟨b,off,c,K,v,hb,hc,hm,rfl,hK,hv⟩
 ·exact .inl ⟨by simpa using h1,h2⟩
 ·right
  simp at hc;refine ⟨b,off,c,hb,hc,hm,by simp,fun m hm=>?_⟩
  have bQ:m<(l.map lF).length:=by simpa using hm
  have h1:=hK m bQ;rw [ZA hm] at h1
  have q9:K=1:=by simpa [lF] using h1.symm
  subst q9;have:=hv m 0 bQ (by omega);rw [ZA hm] at this;have h2:=this.2.2
  have h3:v m 0=.int .u8 ((l.getD m 0).toNat:Int):=by
   have:Rd w F (fun _=>undef) (.v (.int .u8 ((l.getD m 0).toNat:Int))) (v m 0):=.i h2;exact this.bK
  rw [←h3];simpa using this.1
def Uv {w:World} {b n:Nat} {c:Array Value} {e:TypeId} (h:w.heap[b]?=some (.cells c e (0,0))):(w.freeze ⟨b,n,none⟩ 1).heap[b]?=some (.cells c e (n,n+1)):=by
 simp [AA,pY,h]
def Uu {w:World} {b b' n:Nat} (h:b≠b'):(w.freeze ⟨b,n,none⟩ 1).heap[b']?=w.heap[b']?:=by
 simp [AA,pY,h]
def ag_ {e:Nat} (s:ByteArray) (hs:s.size≤maxLen) :
  cy P (Li e s) w F β (fun r=>r=.s (s.data.toList.map lF)):=by
 let cap:=(Question.appendCap s.size 0 e).cut (w.tape w.drawn (.appendCap s.size 0 e));let cells:Array Value:=s.data.map (fun b=>dC .u8 b.toNat)++Array.replicate (cap-s.size) (.int .u8 0);have iP:s.size≤cap:=Nat.le_add_right _ _;have acq:cap≤maxLen:=grownCap_le_maxLen w s.size 0 e hs
 have aX:cells.size=cap:=by simp only [cells,ue,Array.size_map,Array.size_replicate];have:s.data.size=s.size:=rfl;omega
 let w1:World:={ w with drawn:=w.drawn+1 };let w2:=w1.alloc (.cells cells e)
 have rq:(markStringish ⟨w.heap.size,0,none⟩).run P w2=.ok () (w2.freeze ⟨w.heap.size,cells.size,none⟩ 1):=by
  have:w2.shape? w.heap.size=some (e,cells.size):=by simp [World.shape?,w2,w1,lZ]
  simp [markStringish,this]
 have aZ:(Li e s).run P w=.ok (.slice (some ⟨w.heap.size,0,none⟩) s.size cap) (w2.freeze ⟨w.heap.size,cells.size,none⟩ 1):=by
  have En:(choose (.appendCap s.size 0 e)).run P w=.ok cap w1:=by simp [Question.forced,cap,w1]
  have eU:(newRow e cells).run P w1=.ok ⟨w.heap.size,0,none⟩ w2:=by simp [newRow,w2,w1]
  unfold Li;rw [kF,En,mw]
  have:(Sem.bind (newRow e cells) fun a=>Sem.bind (markStringish a) fun _=>Sem.pure (Value.slice (some a) s.size cap)).run P w1=.ok (.slice (some ⟨w.heap.size,0,none⟩) s.size cap) (w2.freeze ⟨w.heap.size,cells.size,none⟩ 1):=by
   rw [Sem.run_bind',eU,mw,Sem.run_bind',rq,mw];rfl
  exact this
 have ND:(w2.freeze ⟨w.heap.size,cells.size,none⟩ 1).heap[w.heap.size]?=some (.cells cells e (cells.size,cells.size+1)) :=
  Uv (by simp [w2,w1,lZ])
 have alq:(w2.freeze ⟨w.heap.size,cells.size,none⟩ 1).heap.size=w.heap.size+1:=by simp [AA,w2,w1,lZ]
 have IA:Below w.heap.size w (w2.freeze ⟨w.heap.size,cells.size,none⟩ 1):=by
  refine ⟨by simp [AA,w2,w1,lZ],⟨by simp [AA,w2,w1,lZ],by simp [AA,w2,w1,lZ]⟩,by simp [AA,w2,w1,lZ],by omega,fun b hb=>?_⟩
  have h1:w.heap.size≠b:=by omega
  have h2:b≠w.heap.size:=by omega
  rw [Uu h1];exact _root_.Go.heap_alloc_old w1 _ hb
 refine ⟨_,_,_,aZ,IA,rfl,.i ?_⟩;have hlen:s.data.toList.length=s.size:=rfl;rw [←hlen];refine aaQ (off:=0) (.inr ⟨bG _,by omega⟩) (by rw [hlen];exact iP) acq fun m hm=>?_
 have bQ:m<s.data.size:=by simpa using hm
 rw [cell_of_row _ _ _ _ _ _ ND,jJ];have zb:m<s.size:=bQ;simp [cells,pX,zb,aV]
def ahh {src dst:Nat} {x:AV} {vx:Value} (hT:bL P T) (hx:Rd w F β x vx) (h:PE T src dst x k):cy P (convert src dst vx) w F β k:=by
 unfold PE at h;split at h
 ·rename_i i j hi hj;have BE:=hT _ _ hi;have yL:=hT _ _ hj;split at h
  ·rename_i kd kn n hk;cases hx.bK;obtain ⟨r,rfl,cJ⟩:=h;exact cy.mk (ag8 BE yL hk n) cJ (.i (.v (.inl rfl)))
  ·rename_i s hk;cases hx.bK;obtain ⟨d,bH,_⟩:=BE.oe;refine cy.mk ?_ h (.i (.v (.inl rfl)));simp [convert,run_underlying bH,run_underlying (yL.str hk)]
  ·rename_i e s hk;cases hx.bK;split at h
   ·rename_i je Bh;split at h
    ·rename_i NJ;obtain ⟨d,bH,_⟩:=BE.oe
     have hc:(convert src dst (.string s)).run P w=(Li e s).run P w:=by
      simp [convert,run_underlying bH,run_underlying (yL.slice hk),run_underlying ((hT _ _ Bh).int NJ)]
     obtain ⟨v,w',r,hr,hb,rfl,hv⟩:=ag_ (P:=P) (w:=w) (F:=F) (β:=β) (e:=e) s h.1;exact ⟨v,w',_,by rw [hc];exact hr,hb,h.2,hv⟩
    ·cases h
   ·cases h
  ·rename_i rows hk;split at h
   ·rename_i e he;split at h
    ·rename_i je Bh;split at h
     ·rename_i NJ;obtain ⟨l,rfl,cJ⟩:=h;have hs:=BE.slice he;have h8:=(hT _ _ Bh).int NJ;have hd:=yL.str hk
      rcases aaP hx.oR with ⟨rfl,a,rfl⟩|⟨b,off,c,hb,hc,hm,rfl,eP⟩
      ·cases a with
       |none=>exact cy.mk (run_convert_bytes_nil w src e hs h8 0 0 dst hd) cJ (.i (.v (.inl rfl)))
       |some ad=>exact cy.mk (run_convert_bytes_back w src dst e ad 0 [] hs h8 hd fun j hj=>absurd hj (by simp)) cJ (.i (.v (.inl rfl)))
      ·refine cy.mk (run_convert_bytes_back w src dst e ⟨b,off,none⟩ c l hs h8 hd fun j hj=>?_) cJ (.i (.v (.inl rfl)));rw [gk,eP j hj];simp [aV,hj]
     ·cases h
    ·cases h
   ·cases h
  ·cases h
 ·cases h
def agw {ty:TypeId} {i:TI} (hi:gF P ty i) (hg:p8 i.kind=false) (cs:Array Value) (off:Nat) {v:Value} (hv:cs[off]?=some v):(part ty cs off).run P w=.ok v w:=by
 have:=hi.Kc w;rw [hg] at this;simp [part,this,hv]
def ahl {t:Nat} {x i:AV} {vx vi:Value} (hT:bL P T) (hx:Rd w F β x vx) (hi:Rd w F β i vi) (h:PI T t x i k):cy P (RE t vx vi) w F β k:=by
 unfold PI at h;split at h
 ·rename_i ti jF;split at h
  ·rename_i s kd n hk;cases hx.bK;cases hi.bK;obtain ⟨m,rfl,b,hb,cJ⟩:=h;refine cy.mk (v:=.int .u8 b.toNat) ?_ cJ (.i (.v (.inl rfl)));have hu:=(hT _ _ jF).str hk
   have aJ:s[m]?=some b:=by
    have Φ:m<s.data.size:=by have:=E6 hb;simpa using this
    have h2:s.data[m]?=some b:=by simpa using hb
    have h3:s.data[m]=b:=by rw [gz Φ] at h2;simpa using h2
    have s5:m<s.size:=Φ;rw [getElem?_pos s m s5];exact congrArg some h3
   simp [RE,asIntOf,run_underlying hu,aJ]
  ·rename_i len e cells kd n hk;cases hi.bK;have hu:=(hT _ _ jF).arr hk;split at h
   ·rename_i j hj;cases hg:p8 j.kind with
    |true=>rw [hg] at h;cases h
    |false =>
     rw [hg] at h;obtain ⟨h1,h⟩:=cond_prop h;have h1:j.cells=1:=cW h1;obtain ⟨m,rfl,hm,c,hc,cJ⟩:=h;obtain ⟨us,rfl,hs,fi,iS⟩:=hx.qS;have Φ:=E6 hc;have hr:=iS m Φ;rw [wy hc] at hr;refine cy.mk (v:=us.getD m undef) ?_ cJ hr;have aX:=(hT _ _ hj).lj w
     have fB:us[m]?=some (us.getD m undef):=by
      have:m<us.size:=by omega
      simp [this]
     have hp:=agw (w:=w) (hT _ _ hj) hg us m fB;simp [RE,asIntOf,run_underlying hu,hm,aX,h1,hp]
   ·cases h
  ·cases h
 ·cases h
def xN (x:Option AV) (vx:Option Value) (w:World) (F:Nat→Prop) (β:Nat→Value):Prop :=
 match x,vx with
 |none,none=>True
 |some a,some v=>Rd w F β a v
 |_,_=>False
def vW {x:Option AV} {vx:Option Value} {d:Nat} {k:Nat→Prop} (hx:xN x vx w F β) (h:sw x d k):∃m,k m∧((vx=none∧m=d)∨∃kd,vx=some (.int kd (m:Int))):=by
 unfold sw at h;split at h
 ·cases vx with
  |none=>exact ⟨d,h,.inl ⟨rfl,rfl⟩⟩
  |some v=>exact hx.elim
 ·cases vx with
  |none=>exact hx.elim
  |some v =>
   have:Rd w F β _ v:=hx;cases this.bK;obtain ⟨m,rfl,hk⟩:=h;exact ⟨m,hk,.inr ⟨_,rfl⟩⟩
 ·cases h
def zZ {lo hi:Option Value} {len cap l h:Nat} {is:Bool} (hl:(lo=none∧l=0)∨∃kd,lo=some (.int kd (l:Int))) (hh:(hi=none∧h=len)∨∃kd,hi=some (.int kd (h:Int)))
  (h1:l≤h) (h2:h≤len) (h3:len≤cap):(As is len cap lo hi none).run P w=.ok (l,h,cap) w:=by
 rcases hl with ⟨rfl,rfl⟩|⟨kl,rfl⟩<;>rcases hh with ⟨rfl,rfl⟩|⟨kh,rfl⟩
 ·simp [As]
 ·have:(h:Int)≤(cap:Int):=by omega
  simp [As,run_sliceBound w kh h cap _ (by omega) (by omega)]
 ·simp [As,run_sliceBound w kl l h _ (by omega) (by omega)]
 ·simp [As,run_sliceBound w kl l h _ (by omega) (by omega),run_sliceBound w kh h cap _ (by omega) (by omega)]
def aht {t:Nat} {x:AV} {vx:Value} {lo hi:Option AV} {vlo vhi:Option Value} (hT:bL P T) (hx:Rd w F β x vx) (k_:xN lo vlo w F β) (kW:xN hi vhi w F β)
  (hI:Inv w F β H) (h:PO T t x lo hi none H k):cy P (lT t vx vlo vhi none) w F β k:=by
 unfold PO at h;split at h
 ·rename_i ti mx jF _;split at h
  ·rename_i e rows hk;have hu:=(hT _ _ jF).slice hk;split at h
   ·rename_i j hj;have aX:=(hT _ _ hj).lj w;obtain ⟨l,h,hl⟩:=vW k_ h;obtain ⟨m,⟨IN,hm,hlen,r,rfl,cJ⟩,hh⟩:=vW kW h
    have wB:∀v,(lT t v vlo vhi none).run P w=(r_ t v vlo vhi none).run P w:=by
     intro v;simp [lT,run_underlying hu]
    rcases hx.oR.tJ with ⟨rfl,a,rfl⟩|⟨b,off,c,K,v,hb,hc,jC,rfl,hK,hv⟩
    ·simp at hm
     have yZ:l=0:=by omega
     subst hm;subst yZ;refine cy.mk (v:=.slice a 0 0) ?_ cJ (.i (by simpa using bh.s0));rw [wB];have qk:(vhi=none∧(0:Nat)=0)∨∃kd,vhi=some (dC kd ((0:Nat):Int)):=hh;simp [r_,run_underlying hu,zZ (P:=P) (w:=w) (is:=true) hl qk (bG _) (bG _) (bG 0),aX]
    ·have uQ:((rows.take m).drop l).length=m-l:=by simp;omega
     refine cy.mk (v:=.slice (some (if c=l then ⟨b,off,none⟩ else ⟨b,off+l*j.cells,none⟩)) (m-l) (c-l)) ?_ cJ (.i ?_)
     ·rw [wB];have M_:=zZ (P:=P) (w:=w) (is:=true) hl hh IN hm hc
      have I3:(r_ t (.slice (some ⟨b,off,none⟩) rows.length c) vlo vhi none).run P w=.ok (.slice (if c=l then some ⟨b,off,none⟩ else some ⟨b,off+l*j.cells,none⟩) (m-l) (c-l)) w:=by
       simp [r_,run_underlying hu,M_,aX,gk]
      rw [I3];split<;>rfl
     ·by_cases di:c=l
      ·rw [if_pos di]
       have:m-l=0:=by omega
       have pG:(rows.take m).drop l=[]:=by
        apply qL;omega
       rw [pG];have h0:bh w F (.s []) (.slice (some ⟨b,off,none⟩) ([]:List (List AV)).length (c-l)) :=
        .s (k:=0) (u:=fun _ _=>undef) hb (by simp) (by omega) (fun _ h=>by simp at h) (fun _ _ h=>by simp at h) (fun _ _ h=>by simp at h) (fun _ _ h=>by simp at h)
       rw [this];exact h0
      ·rw [if_neg di,←uQ];refine .s (k:=j.cells) (u:=fun q z=>v (l+q) z) hb (by omega) (by omega) (fun q hq=>?_) (fun q z hq hz=>?_) (fun q z hq hz=>?_) fun q z hq hz=>?_
       ·rw [uQ] at hq;have:=hlen (l+q) (by omega);simpa [aV,jq,gn,show l+q<m by omega] using this
       all_goals
        rw [uQ] at hq
        have Ef:K=j.cells:=by rw [←hK (l+q) (by omega)];exact hlen (l+q) (by omega)
        have EK:=hv (l+q) z (by omega) (by omega)
       ·rw [←EK.1,Ef,bM];congr 2;omega
       ·exact EK.2.1
       ·have h3:=EK.2.2;simpa [aV,jq,gn,show l+q<m by omega] using h3
   ·cases h
  ·rename_i e id hk;have hu:=(hT _ _ jF).slice hk;split at h
   ·rename_i j hj;have aX:=(hT _ _ hj).lj w;split at h
    ·rename_i E K rows hc;obtain ⟨hK,h⟩:=cond_prop h;have q9:K=j.cells:=cW hK;obtain ⟨l,⟨Bj,cJ⟩,hl⟩:=vW k_ h;obtain ⟨a,n,c,ai,rfl⟩:=hx.jY
     have qm:n=rows.length∧n≤c:=by
      rcases tr (hI.holds _ _ (fc hc)) with ⟨rfl,a2,hv⟩|⟨g,cap,hv,_,iP⟩
      ·rw [ai] at hv;cases hv;exact ⟨rfl,bG _⟩
      ·rw [ai] at hv;cases hv;exact ⟨rfl,iP⟩
     have Ot:vhi=none:=by
      cases vhi with
      |none=>rfl
      |some v=>exact kW.elim
     subst Ot;have hb:=zZ (P:=P) (w:=w) (is:=true) (hi:=none) (len:=n) (cap:=c) (l:=l) (h:=n) hl (.inl ⟨rfl,rfl⟩) (by omega) (bG _) (by omega);refine cy.mk (v:=.slice (if c=l then a else a.map (·.add (l*j.cells))) (n-l) (c-l)) ?_ cJ ?_
     ·simp [lT,r_,run_underlying hu,hb,aX]
     ·refine .w ai (by omega) fun Φ=>?_;rw [if_neg (by omega),←q9]
    ·cases h
   ·cases h
  ·rename_i e id Kw d hk;have hu:=(hT _ _ jF).slice hk;split at h
   ·rename_i j hj;have aX:=(hT _ _ hj).lj w;split at h
    ·rename_i E K rows hc;obtain ⟨hK,h⟩:=cond_prop h;simp only [bJ] at hK;have q9:K=j.cells:=cW hK.1;have M0:Kw=K:=cW hK.2;subst M0;obtain ⟨l,⟨Bj,cJ⟩,hl⟩:=vW k_ h;obtain ⟨a,a',n,c,ai,hd,ha,rfl⟩:=hx.xw
     have qm:n=rows.length∧n≤c:=by
      rcases tr (hI.holds _ _ (fc hc)) with ⟨rfl,a2,hv⟩|⟨g,cap,hv,_,iP⟩
      ·rw [ai] at hv;cases hv;exact ⟨rfl,bG _⟩
      ·rw [ai] at hv;cases hv;exact ⟨rfl,iP⟩
     have Ot:vhi=none:=by
      cases vhi with
      |none=>rfl
      |some v=>exact kW.elim
     subst Ot;have hb:=zZ (P:=P) (w:=w) (is:=true) (hi:=none) (len:=n-d) (cap:=c-d) (l:=l) (h:=n-d) hl (.inl ⟨rfl,rfl⟩) (by omega) (bG _) (by omega);refine cy.mk (v:=.slice (if c-d=l then a' else a'.map (·.add (l*j.cells))) (n-d-l) (c-d-l)) ?_ cJ ?_
     ·simp [lT,r_,run_underlying hu,hb,aX]
     ·have e1:n-d-l=n-(d+l):=by omega
      have e2:c-d-l=c-(d+l):=by omega
      rw [e1,e2];refine .w ai (by omega) fun Φ=>?_;rw [if_neg (by omega),ha (by omega),←q9,Option.map_map];congr 1;funext ad;show (ad.add (d*Kw)).add (l*Kw)=_;rw [Addr.add_add,←bM]
    ·cases h
   ·cases h
  ·rename_i e hk;cases hx.bK;have hu:=(hT _ _ jF).slice hk;split at h
   ·rename_i j hj;have aX:=(hT _ _ hj).lj w;obtain ⟨l,h,hl⟩:=vW k_ h;obtain ⟨m,⟨IN,hm,cJ⟩,hh⟩:=vW kW h
    have oF:m=0:=by omega
    have yZ:l=0:=by omega
    subst oF;subst yZ;have qk:(vhi=none∧(0:Nat)=0)∨∃kd,vhi=some (dC kd ((0:Nat):Int)):=hh;refine cy.mk (v:=.slice none 0 0) ?_ cJ (.i (.v (.inl rfl)));simp [lT,r_,run_underlying hu,zZ (P:=P) (w:=w) (is:=true) hl qk (bG _) (bG _) (bG 0),aX]
   ·cases h
  ·rename_i s hk;cases hx.bK;have hu:=(hT _ _ jF).str hk;obtain ⟨l,h,hl⟩:=vW k_ h;obtain ⟨m,⟨IN,hm,r,rfl,cJ⟩,hh⟩:=vW kW h;refine cy.mk (v:=.string (s.extract l m)) ?_ cJ (.i (.v (.inl rfl)));simp [lT,r_,run_underlying hu,zZ (P:=P) (w:=w) (is:=false) hl hh IN hm (bG _)]
  ·cases h
 ·cases h
def ahq {x:AV} {vx:Value} (hx:Rd w F β x vx) (h:PM x k) :
  (∃r,k r∧Rd w F β r vx)∧((∃a,vx=.pointer (some a))∨∃g fs cs,vx=.func (.func g) fs cs):=by
 unfold PM at h;split at h
 ·obtain ⟨eZ,hb,rfl⟩:=hx.mM;exact ⟨⟨_,h,hx⟩,.inl ⟨_,rfl⟩⟩
 ·have hp:=hx.BW;cases hp;exact ⟨⟨_,h,hx⟩,.inl ⟨_,rfl⟩⟩
 ·obtain ⟨g,n,c,hb,rfl⟩:=hx.AR;exact ⟨⟨_,h,hx⟩,.inl ⟨_,rfl⟩⟩
 ·obtain ⟨us,vs,rfl,_⟩:=hx.nB;exact ⟨⟨_,h,hx⟩,.inr ⟨_,_,_,rfl⟩⟩
 ·cases h
def ahm {t ty:Nat} {x:AV} {vx:Value} (hT:bL P T) (hI:Inv w F β H) (hx:Rd w F β x vx) (h:lO T t x H k):cy P (vD #[t] ty #[vx]) w F β k:=by
 unfold lO at h;split at h
 ·rename_i i hi;split at h
  ·rename_i e rows hk;have hu:=(hT _ _ hi).slice hk;obtain ⟨n,rfl,h⟩:=h
   rcases hx.oR.tJ with ⟨rfl,a,rfl⟩|⟨b,off,c,K,v,hb,hc,jC,rfl,hK,hv⟩
   ·exact cy.mk (by simp [vD,run_underlying hu,goInt]) (h (by simp)) (.i (.v (.inl rfl)))
   ·exact cy.mk (by simp [vD,run_underlying hu,goInt]) (h (by omega)) (.i (.v (.inl rfl)))
  ·rename_i e hk;have hu:=(hT _ _ hi).slice hk;cases hx.bK;exact cy.mk (by simp [vD,run_underlying hu,goInt]) h (.i (.v (.inl rfl)))
  ·rename_i e id hk;have hu:=(hT _ _ hi).slice hk;split at h
   ·rename_i E K rows hc;obtain ⟨n,rfl,h⟩:=h;obtain ⟨a,n,c,ai,rfl⟩:=hx.jY
    have hn:n=rows.length∧rows.length≤maxLen:=by
     rcases tr (hI.holds _ _ (fc hc)) with ⟨rfl,a',hv⟩|⟨g,cap,hv,hm,hn⟩
     ·rw [ai] at hv;cases hv;exact ⟨rfl,by simp⟩
     ·rw [ai] at hv;cases hv;exact ⟨rfl,by omega⟩
    obtain ⟨rfl,hm⟩:=hn;exact cy.mk (by simp [vD,run_underlying hu,goInt]) (h hm) (.i (.v (.inl rfl)))
   ·cases h
  ·rename_i e id Kw d hk;have hu:=(hT _ _ hi).slice hk;split at h
   ·rename_i E K rows hc;obtain ⟨n,rfl,h⟩:=h;obtain ⟨a,a',n,c,ai,hd,ha,rfl⟩:=hx.xw
    have hn:n=rows.length∧rows.length≤maxLen:=by
     rcases tr (hI.holds _ _ (fc hc)) with ⟨rfl,a2,hv⟩|⟨g,cap,hv,hm,hn⟩
     ·rw [ai] at hv;cases hv;exact ⟨rfl,by simp⟩
     ·rw [ai] at hv;cases hv;exact ⟨rfl,by omega⟩
    obtain ⟨rfl,hm⟩:=hn;exact cy.mk (by simp [vD,run_underlying hu,goInt]) (h (by omega)) (.i (.v (.inl rfl)))
   ·cases h
  ·rename_i kt e id hk;have hu:=(hT _ _ hi).map hk;split at h
   ·rename_i ag rows hc;obtain ⟨n,rfl,h⟩:=h;obtain ⟨b,ai,rfl⟩:=hx.zD;obtain ⟨b',es,ck,iU,hh,_,hs,hm,_⟩:=hI.holds _ _ (fc hc);rw [ai] at iU;cases iU;have hg:=ZS (P:=P) hh;exact cy.mk (v:=.int .i64 rows.length) (by simp [vD,run_underlying hu,goInt,hg,hs]) (h (by omega)) (.i (.v (.inl rfl)))
   ·cases h
  ·rename_i s hk;have hu:=(hT _ _ hi).str hk;cases hx.bK;obtain ⟨n,rfl,h⟩:=h;exact cy.mk (by simp [vD,run_underlying hu,goInt]) h (.i (.v (.inl rfl)))
  ·rename_i n e hk;have hu:=(hT _ _ hi).arr hk;exact cy.mk (by simp [vD,run_underlying hu,goInt]) h (.i (.v (.inl rfl)))
  ·cases h
 ·cases h
def XI {len cap h q:Nat} {kh km:IntKind} (h1:h≤q) (h2:q≤cap):(As true len cap none (some (.int kh (h:Int))) (some (.int km (q:Int)))).run P w=.ok (0,h,q) w:=by
 simp [As,run_sliceBound w km q cap _ (by omega) (by omega),run_sliceBound w kh h q _ (by omega) (by omega)]
def ahs {t:Nat} {x hi mx:AV} {vx vhi vmx:Value} (hT:bL P T) (hx:Rd w F β x vx) (kW:Rd w F β hi vhi) (gu:Rd w F β mx vmx)
  (h:FK T t x none (some hi) mx k):cy P (lT t vx none (some vhi) (some vmx)) w F β k:=by
 unfold FK at h;split at h
 ·rename_i ti kh nh rows km nm jF _ ehi;cases ehi;split at h
  ·rename_i e hk;have hu:=(hT _ _ jF).slice hk;split at h
   ·rename_i j hj;have aX:=(hT _ _ hj).lj w;obtain ⟨m,q,rfl,rfl,hmq,hq,hlen,r,rfl,cJ⟩:=h;cases kW.bK;cases gu.bK
    have wB:∀v vlo vhi vm,(lT t v vlo vhi vm).run P w=(r_ t v vlo vhi vm).run P w:=by
     intro v _ _ _;simp [lT,run_underlying hu]
    rcases hx.oR.tJ with ⟨rfl,a,rfl⟩|⟨b,off,c,K,v,hb,hc,jC,rfl,hK,hv⟩
    ·have Vb:q=0:=by simpa using hq
     have oF:m=0:=by omega
     subst Vb;subst oF;refine cy.mk (v:=.slice a 0 0) ?_ cJ (.i (by simpa using bh.s0));rw [wB];have:=XI (P:=P) (w:=w) (len:=0) (cap:=0) (h:=0) (q:=0) (kh:=kh) (km:=km) (bG _) (bG _);simp only [Int.natCast_zero] at this ⊢;simp [r_,run_underlying hu,this,aX]
    ·have uQ:(rows.take m).length=m:=by simp;omega
     refine cy.mk (v:=.slice (some ⟨b,off,none⟩) m q) ?_ cJ (.i ?_)
     ·rw [wB];have M_:=XI (P:=P) (w:=w) (len:=rows.length) (cap:=c) (h:=m) (q:=q) (kh:=kh) (km:=km) hmq (by omega);simp [r_,run_underlying hu,M_,aX,gk]
     ·have:=bh.s (w:=w) (F:=F) (rows:=rows.take m) (b:=b) (off:=off) (c:=q) (k:=j.cells) (u:=fun q z=>v q z) hb (by omega) (by omega) (fun q hq=>by
        rw [uQ] at hq;have:=hlen q (by omega)
        simpa [aV,gn,show q<m by omega] using this) (fun i z hi hz=>by
        rw [uQ] at hi
        have Ef:K=j.cells:=by rw [←hK i (by omega)];exact hlen i (by omega)
        have EK:=hv i z (by omega) (by omega)
        rw [←EK.1,Ef]) (fun i z hi hz=>by
        rw [uQ] at hi
        have Ef:K=j.cells:=by rw [←hK i (by omega)];exact hlen i (by omega)
        exact (hv i z (by omega) (by omega)).2.1) (fun i z hi hz=>by
        rw [uQ] at hi
        have Ef:K=j.cells:=by rw [←hK i (by omega)];exact hlen i (by omega)
        have h3:=(hv i z (by omega) (by omega)).2.2
        simpa [aV,gn,show i<m by omega] using h3)
      rw [uQ] at this;exact this
   ·cases h
  ·cases h
 ·cases h
end
section
variable {P:Program} {T:TT} {w:World} {F:Nat→Prop} {β:Nat→Value} {H:Hp} {k:AV→Prop}
def sm (w:World) (F:Nat→Prop) (β:Nat→Value) (xs:List AV) (us:Array Value):Prop :=
 us.size=xs.length∧∀i,i<xs.length→(us.getD i undef).oneCell'=true∧Rd w F β (xs.getD i .χ) (us.getD i undef)
def ae5 {x:AV} (h:jo x=true):(∃cs,x=.a cs)∨(uY x=true∧bz x=[x]):=by
 cases x<;>first|exact .inl ⟨_,rfl⟩|exact .inr ⟨h,rfl⟩
def pa {x:AV} {u:Value} (h:Rd w F β x u) (hx:jo x=true):sm w F β (bz x) u.cells:=by
 rcases ae5 hx with ⟨cs,rfl⟩|⟨hc,hl⟩
 ·obtain ⟨us,rfl,hs,h1,hr⟩:=h.qS;exact ⟨hs,fun i hi=>⟨h1 i hi,hr i hi⟩⟩
 ·have h1:=aeb hc h
  have hc:u.cells=#[u]:=by cases u<;>simp [alU] at h1<;>rfl
  rw [hc,hl];refine ⟨rfl,fun i hi=>?_⟩;simp at hi;subst hi;exact ⟨h1,h⟩
def Tw (off:Nat):∀(l:List Value) (n:Nat) (cs:Array Value),off+n+l.length≤cs.size →
  (l.zipIdx n).foldl (fun cs x=>cs.setIfInBounds (off+x.2) x.1) cs=(cs.toList.take (off+n)++l++cs.toList.drop (off+n+l.length)).toArray:=by
 intro l;induction l with
 |nil=>intro n cs h;simp
 |cons x r ih =>
  intro n cs h;simp only [cZ] at h;simp only [List.zipIdx_cons,List.foldl_cons];rw [ih (n+1) _ (by simp;omega)]
  have h1:off+n<cs.toList.length:=by simp;omega
  have e1:(cs.toList.set (off+n) x).take (off+(n+1))=cs.toList.take (off+n)++[x]:=by
   rw [show off+(n+1)=off+n+1 by omega,List.take_succ_eq_append_getElem (by simpa using h1)];rw [List.take_set,List.set_eq_of_length_le (by simp;omega)];simp
  have e2:(cs.toList.set (off+n) x).drop (off+(n+1)+r.length)=cs.toList.drop (off+n+(r.length+1)):=by
   rw [List.drop_set,if_pos (by omega),show off+(n+1)+r.length=off+n+(r.length+1) by omega]
  simp only [Array.toList_setIfInBounds,e1,e2,cZ];simp
def Tl {Xi:Nat→Option (Nat×Nat)} {placeC:Nat→Option (Nat×Nat)} (hp:∀i x,Xi i=some x→placeC i=some x) :
  ∀(parts:List (Nat×AV)) (vs:List (Nat×Value)) (cells yk:List AV) (us:Array Value),parts.length=vs.length →
   (∀i,i<parts.length→(parts.getD i (0,.χ)).1=(vs.getD i (0,undef)).1∧Rd w F β (parts.getD i (0,.χ)).2 (vs.getD i (0,undef)).2) →
   sm w F β cells us→AX Xi parts cells=some yk→∃pU,vF placeC us vs=some pU∧sm w F β yk pU:=by
 intro parts;induction parts with
 |nil =>
  intro vs cells yk us hl _ hr h;cases vs with
  |nil=>simp [AX] at h;subst h;exact ⟨us,rfl,hr⟩
  |cons=>simp at hl
 |cons p r ih =>
  intro vs cells yk us hl hv hr h;cases vs with
  |nil=>simp at hl
  |cons q s =>
   obtain ⟨i,x⟩:=p;obtain ⟨i',u⟩:=q;have h0:=hv 0 (by simp);simp at h0;obtain ⟨rfl,hu⟩:=h0;simp only [AX] at h;split at h
   ·cases h
   ·rename_i off size uT;cases hb:(jo x&&(aH (bz x).length size&&p4 (off+size) cells.length)) with
    |false=>rw [hb] at h;cases h
    |true =>
     rw [hb] at h;simp only [bJ] at hb;obtain ⟨bU,aX,hle⟩:=hb;have aX:(bz x).length=size:=cW aX
     have hle:off+size≤cells.length:=by simpa using hle
     obtain ⟨ar,bu⟩:=pa hu bU;have Er:=Tw off u.cells.toList 0 us (by simp;rw [ar,hr.1];omega);simp only [lW] at Er
     have hz:u.cells.zipIdx.foldl (fun cs x=>cs.setIfInBounds (off+x.2) x.1) us=(us.toList.take off++u.cells.toList++us.toList.drop (off+u.cells.toList.length)).toArray:=by
      rw [←Er,←ZD,ZJ]
     have cK:sm w F β (cells.take off++(bz x++cells.drop (off+size))) (us.toList.take off++u.cells.toList++us.toList.drop (off+u.cells.toList.length)).toArray:=by
      have fj:us.toList.length=cells.length:=by simpa using hr.1
      have alr:us.size=cells.length:=hr.1
      have di:u.cells.toList.length=size:=by simp;rw [ar];exact aX
      refine ⟨by simp only [lC,cP,dN,lV];omega,fun j hj=>?_⟩;simp only [cP,dN,lV] at hj;have key:∀(d:Value),(us.toList.take off++u.cells.toList++us.toList.drop (off+u.cells.toList.length)).toArray.getD j d =
        if j<off then us.getD j d else if j<off+size then u.cells.getD (j-off) d else us.getD j d:=by
       intro d;simp only [lA,Z7,gK,cP,dN,di,gn,jq];by_cases h1:j<off
       ·simp [h1,show j<min off us.size+size by omega,show j<min off us.size by omega]
       ·by_cases h2:j<off+size
        ·simp [h1,h2,show min off us.size=off by omega]
        ·simp [h1,h2,show min off us.size=off by omega,show off+size+(j-(off+size))=j by omega]
      have zB:(cells.take off++(bz x++cells.drop (off+size))).getD j .χ=if j<off then cells.getD j .χ else if j<off+size then (bz x).getD (j-off) .χ else cells.getD j .χ:=by
       simp only [aV,gK,dN,aX,gn,jq];by_cases h1:j<off
       ·simp [h1,show j<min off cells.length by omega]
       ·by_cases h2:j<off+size
        ·simp [h1,h2,show min off cells.length=off by omega,show j-off<size by omega]
        ·simp [h1,h2,show min off cells.length=off by omega,show ¬j-off<size by omega,show off+size+(j-off-size)=j by omega]
      rw [key,zB];by_cases h1:j<off
      ·rw [if_pos h1,if_pos h1];exact hr.2 j (by omega)
      ·rw [if_neg h1,if_neg h1];by_cases h2:j<off+size
       ·rw [if_pos h2,if_pos h2];exact bu (j-off) (by omega)
       ·rw [if_neg h2,if_neg h2];exact hr.2 j (by omega)
     obtain ⟨pU,hf,adn⟩:=ih s _ yk _ (by simpa using hl) (fun m hm=>by have:=hv (m+1) (by simp;omega);simpa using this) cK h;refine ⟨pU,?_,adn⟩;simp only [vF,hp _ _ uT];rw [if_neg ?_]
     ·have iT:(Array.foldl (fun cs (x:Value×Nat)=>cs.setIfInBounds (off+x.2) x.1) us u.cells.zipIdx)=(us.toList.take off++u.cells.toList++us.toList.drop (off+u.cells.toList.length)).toArray:=hz;exact (congrArg (fun z=>vF placeC z s) iT).trans hf
     ·simp only [ug,ne_eq,decide_eq_true_eq,not_or,decide_not,oW];rw [ar,aX,hr.1];simp;omega
def ae3 {z:Value} {zs:List AV} (h:cd z=.a zs):sm w F β zs z.cells:=by
 have hr:=nV w F z β;rw [h] at hr;obtain ⟨us,rfl,hs,h1,h2⟩:=hr.qS;exact ⟨hs,fun i hi=>⟨h1 i hi,h2 i hi⟩⟩
def sm.agg {xs:List AV} {us:Array Value} (h:sm w F β xs us):Rd w F β (.a xs) (.agg us):=.a h.1 (fun i hi=>(h.2 i hi).1) fun i hi=>(h.2 i hi).2
def run_places (hT:bL P T):∀(fields:List Field),Hq T (fields.map fun f=>(f.offset,f.type))=true →
  ∃ps:List (Nat×Nat),(List.mapM (fun f:Field=>(do pure (f.offset,←sizeOf f.type):Sem (Nat×Nat))) fields).run P w=.ok ps w ∧
   ∀i x,Fv T (fields.map fun f=>(f.offset,f.type)) i=some x→ps[i]?=some x
 |[],_=>⟨[],by simp,fun i x h=>by simp [Fv] at h⟩
 |f::r,ha=>by
  simp only [jI,Hq,bJ] at ha;obtain ⟨ps,hr,hp⟩:=run_places hT r ha.2;obtain ⟨j,hj⟩:=Option.isSome_iff_exists.1 ha.1;have aX:=(hT _ _ hj).lj w;refine ⟨(f.offset,j.cells)::ps,by rw [List.mapM_cons];simp only [kF,LD,mw,aX,hr],fun i x h=>?_⟩;cases i with
  |zero =>
   simp [Fv,hj] at h;simpa using h
  |succ i=>exact hp i x (by simpa [Fv] using h)
def ahc {t:Nat} {parts:List (Nat×AV)} {vs:Array (Nat×Value)} (hT:bL P T) (hl:parts.length=vs.size)
  (hv:∀i,i<parts.length→(parts.getD i (0,.χ)).1=(vs.toList.getD i (0,undef)).1∧Rd w F β (parts.getD i (0,.χ)).2 (vs.toList.getD i (0,undef)).2)
  (h:PD T t parts k):cy P (RC t vs) w F β k:=by
 unfold PD at h;split at h
 ·rename_i i hi;have hz:=(hT _ _ hi).tH w;split at h
  ·rename_i zs iH;have ES:=ae3 (w:=w) (F:=F) (β:=β) iH;split at h
   ·rename_i fs Es;obtain ⟨ed,h⟩:=cond_prop h;obtain ⟨fields,hu,rfl⟩:=(hT _ _ hi).struct Es;split at h
    ·rename_i cells hf;obtain ⟨ps,hr,hp⟩:=run_places (w:=w) hT fields.toList ed;obtain ⟨pU,uI,cK⟩:=Tl (w:=w) (F:=F) (β:=β) (placeC:=fun j=>ps.toArray[j]?) (fun i x hx=>by simpa using hp i x hx) parts vs.toList zs cells i.zero.cells (by simpa using hl) hv ES hf;refine cy.mk (v:=.agg pU) ?_ h cK.agg
     have hm:(fields.mapM (fun f=>(do pure (f.offset,←sizeOf f.type):Sem (Nat×Nat)))).run P w=.ok ps.toArray w:=by
      rw [Array.mapM_eq_mapM_toList];simp only [Sem.run_map,hr,mw]
     unfold RC;simp only [kF,hz,mw,run_underlying hu,hm,uI,LD]
    ·cases h
   ·rename_i n e he;have hu:=(hT _ _ hi).arr he;split at h
    ·rename_i j hj;have aX:=(hT _ _ hj).lj w;split at h
     ·rename_i cells hf;obtain ⟨pU,uI,cK⟩:=Tl (w:=w) (F:=F) (β:=β) (placeC:=fun i=>some (i*j.cells,j.cells)) (fun i x hx=>hx) parts vs.toList zs cells i.zero.cells (by simpa using hl) hv ES hf;refine cy.mk (v:=.agg pU) ?_ h cK.agg;unfold RC;simp only [kF,hz,mw,run_underlying hu,aX,uI,LD]
     ·cases h
    ·cases h
   ·cases h
  ·cases h
 ·cases h
def XG {size:Nat}:∀{parts:List (Nat×AV)} {n:Nat} {rows:List (List AV)},rowsOf size n parts=some rows→rows.length=parts.length∧∀i,i<parts.length →
  (parts.getD i (0,.χ)).1=n+i∧jo (parts.getD i (0,.χ)).2=true∧(bz (parts.getD i (0,.χ)).2).length=size∧rows.getD i []=bz (parts.getD i (0,.χ)).2
 |[],n,rows,h=>by simp [rowsOf] at h;subst h;exact ⟨rfl,fun i hi=>by simp at hi⟩
 |(m,x)::r,n,rows,h=>by
  simp only [rowsOf] at h;cases hb:(aH m n&&(jo x&&aH (bz x).length size)) with
  |false=>rw [hb] at h;cases h
  |true =>
   rw [hb] at h;simp only [bJ] at hb;obtain ⟨hm,bU,hs⟩:=hb;have hm:m=n:=cW hm;have hs:(bz x).length=size:=cW hs;cases hr:rowsOf size (n+1) r with
   |none=>rw [hr] at h;cases h
   |some rs =>
    rw [hr] at h;simp only [cond_true,aag,G_] at h;subst h;obtain ⟨hl,hi⟩:=XG hr;refine ⟨by simp [hl],fun i Φ=>?_⟩;cases i with
    |zero=>exact ⟨by simpa using hm,bU,hs,rfl⟩
    |succ i =>
     have:=hi i (by simpa using Φ);simpa [G8,Nat.add_comm 1 i] using this
def MB {size:Nat}:∀(rows:List (List AV)) (i j:Nat),(∀i,i<rows.length→(rows.getD i []).length=size)→i<rows.length→j<size→rows.flatten.getD (i*size+j) .χ=(rows.getD i []).getD j .χ
 |[],i,j,_,hi,_=>by simp at hi
 |r::rs,i,j,h,hi,hj=>by
  have hr:r.length=size:=by simpa using h 0 (by simp)
  cases i with
  |zero=>simp [aV,gK,hr,hj]
  |succ i =>
   have ih:=MB rs i j (fun m hm=>by simpa using h (m+1) (by simpa using hm)) (by simpa using hi) hj
   have e:(i+1)*size+j=size+(i*size+j):=by rw [bM];omega
   rw [e];simpa [aV,gK,hr,show ¬size+(i*size+j)<size by omega] using ih
def H7 {size:Nat}:∀(rows:List (List AV)),(∀i,i<rows.length→(rows.getD i []).length=size)→rows.flatten.length=rows.length*size
 |[],_=>by simp
 |r::rs,h=>by
  have hr:r.length=size:=by simpa using h 0 (by simp)
  have ih:=H7 rs (fun m hm=>by simpa using h (m+1) (by simpa using hm));simp [hr,ih,bM];omega
def abV {size:Nat} (eM:0<size):∀(parts:List (Nat×AV)) (vs:List (Nat×Value)) (n:Nat) (rows:List (List AV)) (done:List AV) (us:Array Value),parts.length=vs.length →
  (∀i,i<parts.length→(parts.getD i (0,.χ)).1=(vs.getD i (0,undef)).1∧Rd w F β (parts.getD i (0,.χ)).2 (vs.getD i (0,undef)).2) →
  rowsOf size n parts=some rows→done.length=n*size→us.size=(n+parts.length)*size →
  (∀i,i<done.length→(us.getD i undef).oneCell'=true∧Rd w F β (done.getD i .χ) (us.getD i undef)) →
  ∃pU,vF (fun i=>some (i*size,size)) us vs=some pU∧sm w F β (done++rows.flatten) pU:=by
 intro parts;induction parts with
 |nil =>
  intro vs n rows done us hl hv hr hd hu Nl;cases vs with
  |cons=>simp at hl
  |nil =>
   simp [rowsOf] at hr;subst hr;refine ⟨us,rfl,?_,fun i hi=>?_⟩
   ·simpa [hd] using hu
   ·simpa using Nl i (by simpa using hi)
 |cons p r ih =>
  intro vs n rows done us hl hv hr hd hu Nl;cases vs with
  |nil=>simp at hl
  |cons q s =>
   obtain ⟨m,x⟩:=p;obtain ⟨m',u⟩:=q;have h0:=hv 0 (by simp);simp at h0;obtain ⟨rfl,hxu⟩:=h0;simp only [rowsOf] at hr;cases hb:(aH m n&&(jo x&&aH (bz x).length size)) with
   |false=>rw [hb] at hr;cases hr
   |true =>
    rw [hb] at hr;simp only [bJ] at hb;obtain ⟨hm,bU,hs⟩:=hb;obtain rfl:m=n:=cW hm;have hs:(bz x).length=size:=cW hs;cases oJ:rowsOf size (m+1) r with
    |none=>rw [oJ] at hr;cases hr
    |some rs =>
     rw [oJ] at hr;simp only [cond_true,aag,G_] at hr;subst hr;obtain ⟨ar,bu⟩:=pa hxu bU
     have fj:us.size=m*size+(size+r.length*size):=by
      rw [hu];simp only [cZ,bM];omega
     have di:u.cells.toList.length=size:=by simp;rw [ar];exact hs
     have Er:=Tw (m*size) u.cells.toList 0 us (by rw [di];omega);simp only [lW] at Er
     have hz:u.cells.zipIdx.foldl (fun cs x=>cs.setIfInBounds (m*size+x.2) x.1) us=(us.toList.take (m*size)++u.cells.toList++us.toList.drop (m*size+u.cells.toList.length)).toArray:=by
      rw [←Er,←ZD,ZJ]
     have key:∀j,j<(done++bz x).length→((us.toList.take (m*size)++u.cells.toList++us.toList.drop (m*size+u.cells.toList.length)).toArray.getD j undef)=if j<m*size then us.getD j undef else u.cells.getD (j-m*size) undef:=by
      intro j hj;simp only [cP,hd,hs] at hj;simp only [lA,Z7,gK,cP,dN,di,gn,jq];by_cases h1:j<m*size
      ·simp [h1,show j<min (m*size) us.size+size by omega,show j<min (m*size) us.size by omega]
      ·simp [h1,show min (m*size) us.size=m*size by omega,show j<m*size+size by omega]
     obtain ⟨pU,hf,cK⟩:=ih s (m+1) rs (done++bz x) (us.toList.take (m*size)++u.cells.toList++us.toList.drop (m*size+u.cells.toList.length)).toArray (by simpa using hl) (fun i hi=>by have:=hv (i+1) (by simp;omega);simpa using this) oJ
      (by simp [hd,hs,bM])
      (by simp only [lC,cP,dN,lV,di,Array.length_toList,bM];omega)
      (fun i hi=>by
       rw [key i hi];by_cases h1:i<m*size
       ·rw [if_pos h1]
        have e:(done++bz x).getD i .χ=done.getD i .χ:=by simp [aV,gK,hd,h1]
        rw [e];exact Nl i (by omega)
       ·rw [if_neg h1]
        have bm:i<m*size+size:=by simpa [hd,hs] using hi
        have e:(done++bz x).getD i .χ=(bz x).getD (i-m*size) .χ:=by simp [aV,gK,hd,h1]
        rw [e];exact bu _ (by omega))
     refine ⟨pU,?_,by simpa using cK⟩;simp only [vF];rw [if_neg ?_]
     ·exact (congrArg (fun z=>vF (fun i=>some (i*size,size)) z s) hz).trans hf
     ·simp only [ug,ne_eq,decide_eq_true_eq,not_or,decide_not,oW];rw [ar,hs];simp;omega
def nR {x:AV} {u:Value} (hx:fu x=true) (h:Rd w F β x u):bh w F x u:=by
 cases x<;>first|(cases hx;done)|(cases h;assumption)
def I' {x:AV} {u:Value} (hx:kg x=true) (h:Rd w F β x u):bh w F x u:=by
 have get:∀(l:List AV) (i:Nat),l.all fu=true→i<l.length→fu (l.getD i .χ)=true:=fun l i hl hi=>by
  have:=ej.1 hl (l.getD i .χ) (by simp [aV,hi]);exact this
 cases x with
 |a cs =>
  obtain ⟨us,rfl,hs,h1,hr⟩:=h.qS;exact .a hs h1 fun i hi=>nR (get cs i hx hi) (hr i hi)
 |t cs =>
  obtain ⟨us,rfl,hs,hr⟩:=h.Cy;exact .t hs fun i hi=>nR (get cs i hx hi) (hr i hi)
 |c fn fs cs =>
  simp only [kg,bJ] at hx;obtain ⟨us,vs,rfl,hs,ez,hr,cK⟩:=h.nB;exact .c hs ez (fun i hi=>nR (get fs i hx.1 hi) (hr i hi)) fun i hi=>nR (get cs i hx.2 hi) (cK i hi)
 |_=>exact nR hx h
def Ts {ag:Bool} {rows:List (Int×List AV)} {es:Array MapEntry} {ck:Nat} (bT:ZR es ck) (hs:es.size=rows.length)
  (hr:∀(i:Nat) (r:Int×List AV),rows[i]?=some r→∃e:MapEntry,es[i]?=some e∧e.key=.int .i64 r.1∧Ξ r.1∧bh w F (rT ag r.2) e.val) (n:Int) :
  (∀x∈es.toList,ZQ (.int .i64) x.key) ∧
  ((alX (.int .i64) (.int .i64 n) es.toList 0=some none∧bt n rows=none∧(∀x∈es.toList,x.key≠.int .i64 n)) ∨
   ∃(j:Nat) (e:MapEntry) (c:List AV),alX (.int .i64) (.int .i64 n) es.toList 0=some (some (j,e.val))∧es[j]?=some e∧e.key=.int .i64 n∧rows[j]?=some (n,c)∧bt n rows=some c∧bh w F (rT ag c) e.val ∧
    ∀v,cO n v rows=rows.set j (n,v)):=by
 have l7:∀(i:Nat) (e:MapEntry),es[i]?=some e→∃r,rows[i]?=some r∧e.key=.int .i64 r.1∧bh w F (rT ag r.2) e.val:=fun i e he=>by
  have Φ:i<rows.length:=by have:=(lB.1 he).1;omega
  obtain ⟨e',h1,h2,_,h4⟩:=hr i rows[i] (bF Φ);rw [he] at h1;cases h1;exact ⟨_,bF Φ,h2,h4⟩
 have ed:∀x∈es.toList,ZQ (.int .i64) x.key:=fun x hx=>by
  obtain ⟨i,hi⟩:=List.mem_iff_getElem?.1 hx;obtain ⟨r,_,h2,_⟩:=l7 i x (by simpa using hi);rw [h2];rfl
 refine ⟨ed,?_⟩;have wB:=BL n ([]:List AV) rows
 rcases Go.MapKept.findNow_spec (d:=.int .i64) (k:=.int .i64 n) rfl es.toList 0 ed with ⟨h1,h2⟩|⟨j,e,h1,h2,h3⟩
 ·refine .inl ⟨h1,?_,h2⟩
  rcases wB with ⟨h,_,_⟩|⟨j,c,hj,_⟩
  ·exact h
  ·obtain ⟨e,he,hk,_⟩:=hr j _ hj;exact (h2 e (by rw [←Array.getElem?_toList] at he;exact mj he) hk).elim
 ·have iB:es[j]?=some e:=by simpa using h2
  obtain ⟨r,N_,EH,hrv⟩:=l7 j e iB
  have I3:r.1=n:=by rw [h3] at EH;cases EH;rfl
  obtain ⟨rn,rc⟩:=r;dsimp only at I3;subst I3;refine .inr ⟨j,e,rc,by simpa using h1,iB,h3,N_,?_⟩
  have uniq:∀(i:Nat) c,rows[i]?=some (rn,c)→i=j:=fun i c hi=>by
   obtain ⟨e',fw,cJ,_⟩:=hr i _ hi;have dP:=bT.2.2
   have l1:(es.toList.map (·.key))[i]?=some (.int .i64 rn):=by rw [uj];simp [fw,cJ]
   have l2:(es.toList.map (·.key))[j]?=some (.int .i64 rn):=by rw [uj];simp [iB,h3]
   have dP:=List.pairwise_iff_getElem.1 dP;obtain ⟨a1,a2⟩:=fk.1 l1;obtain ⟨b1,b2⟩:=fk.1 l2
   rcases Nat.lt_trichotomy i j with h|h|h
   ·exact (dP i j a1 b1 h (by rw [a2,b2])).elim
   ·exact h
   ·exact (dP j i b1 a1 h (by rw [a2,b2])).elim
  rcases wB with ⟨_,_,h⟩|⟨i,c,hi,hg,_,Φ⟩
  ·exact (h _ (mj N_) rfl).elim
  ·have eT:=uniq i c hi;subst eT;rw [N_] at hi;cases hi;refine ⟨hg,hrv,fun v=>?_⟩
   rcases BL rn v rows with ⟨h,_,_⟩|⟨i',c',bm,_,ez,_⟩
   ·rw [hg] at h;cases h
   ·rw [ez,uniq i' c' bm]
def Wf {ag:Bool} {y:AV} {u:Value} {yc:List AV} (h:zG ag y=some yc) (hy:Rd w F β y u):bh w F (rT ag yc) u:=by
 cases ag with
 |true =>
  cases y<;>simp [zG] at h;rename_i cs;cases hc:cs.all fu with
  |false=>rw [hc] at h;cases h
  |true =>
   rw [hc] at h;cases h;exact I' (x:=.a yc) (by simpa [kg] using hc) hy
 |false =>
  by_cases hc:∃fn,y=.c fn [] []
  ·obtain ⟨fn,rfl⟩:=hc;cases (show some [AV.c fn [] []]=some yc from h);obtain ⟨us,vs,rfl,h1,h2,_,_⟩:=hy.nB
   exact .c h1 h2 (fun i hi=>by simp at hi) fun i hi=>by simp at hi
  have hi:fu y=true∧yc=[y]:=by
   cases y with
   |c fn fs cs =>
    cases fs with
    |cons a b=>simp [zG,fu] at h
    |nil=>cases cs with
     |cons a b=>simp [zG,fu] at h
     |nil=>exact (hc ⟨fn,rfl⟩).elim
   |_=>simp [zG,fu] at h ⊢<;>exact h.symm
  rw [hi.2];exact nR hi.1 hy
def O6 {x:AV} {u:Value} (h:bh w F x u):bh w F (nz x) u:=by
 unfold nz;split
 ·cases h;exact .s0
 ·exact h
def aeZ {rows:List (List AV)} {u:Value} (hr:bh w F (.s rows) u):bh w F (.s (rows.map fun r=>r.map nz)) u:=by
 cases hr with
 |s0=>exact .s0
 |@s _ b off c k u hb hc hm hk eP fi fy =>
  have hg:∀i,i<rows.length→(rows.map (fun r=>r.map nz)).getD i []=(rows.getD i []).map nz:=fun i hi=>by simp [aV,hi]
  have h2:=bh.s (w:=w) (F:=F) (rows:=rows.map (fun r=>r.map nz)) (b:=b) (off:=off) (c:=c) (k:=k) (u:=u) hb (by simpa using hc) hm (fun i hi=>by
   have hi:i<rows.length:=by simpa using hi
   rw [hg i hi,List.length_map];exact hk i hi) (fun i j hi hj=>eP i j (by simpa using hi) hj) (fun i j hi hj=>fi i j (by simpa using hi) hj) (fun i j hi hj=>by
   have hi:i<rows.length:=by simpa using hi
   rw [hg i hi];have rm:=hk i hi
   have:((rows.getD i []).map nz).getD j .χ=nz ((rows.getD i []).getD j .χ):=by
    have dz:j<(rows.getD i []).length:=by omega
    simp only [fW,uj] at dz ⊢;rw [bF dz];rfl
   rw [this];exact O6 (fy i j hi hj))
  simpa using h2
def aiL {ag:Bool} {zc:List AV} {u:Value} (h:bh w F (rT ag zc) u):bh w F (rT ag (zc.map nz)) u:=by
 cases ag with
 |true =>
  cases h with
  |a hs h1 h =>
   refine .a (by simpa using hs) (fun i hi=>h1 i (by simpa using hi)) fun i hi=>?_
   have hi:i<zc.length:=by simpa using hi
   have:(zc.map nz).getD i .χ=nz (zc.getD i .χ):=by simp [aV,hi]
   rw [this];exact O6 (h i hi)
 |false =>
  show bh w F ((zc.map nz).getD 0 .χ) u;have h:bh w F (zc.getD 0 .χ) u:=h;cases zc with
  |nil=>exact h
  |cons x r=>exact O6 h
def aho {t:Nat} {m i:AV} {c:Bool} {vm vi:Value} (hT:bL P T) (hI:Inv w F β H) (hm:Rd w F β m vm) (hi:Rd w F β i vi) (h:PK T t m i c H k):cy P (Lm t vm vi c) w F β k:=by
 unfold PK at h;split at h
 ·rename_i ti jF;split at h
  ·rename_i kt e hk;have hu:=(hT _ _ jF).map hk;split at h
   ·rename_i ik ie nI uL;split at h
    ·rename_i id n rm;have hd:=(hT _ _ nI).int rm;cases hi.bK;split at h
     ·rename_i ag rows zc hc hz;obtain ⟨sP,r,de,h⟩:=cond_prop h
      have sP:ag=p8 ie.kind:=by simpa using sP
      obtain ⟨b,ai,rfl⟩:=hm.zD;obtain ⟨b',es,ck,iU,hh,bT,hs,gu,wS⟩:=hI.holds _ _ (fc hc);rw [ai] at iU;cases iU;have hg:=ZS (P:=P) hh;have eQ:=Go.MapKept.run_checkKey (P:=P) (w:=w) (k:=.int .i64 n) hd rfl es.isEmpty 9999;obtain ⟨_,hf⟩:=Ts bT hs wS n;have hzero:=(hT _ _ uL).tH w
      have wR:∃v ok,(Lm t (.map (some b)) (.int .i64 n) c).run P w=.ok (if c then .tuple #[v,.bool ok] else v) w∧bh w F (rT ag r) v∧ok=(bt n rows).isSome:=by
       rcases hf with ⟨h1,h2,_⟩|⟨j,e',c',h1,_,_,_,h2,h3,_⟩
       ·have yQ:=GY (P:=P) (w:=w) hd h1;refine ⟨ie.zero,false,?_,?_,by rw [h2];rfl⟩
        ·simp [Lm,run_underlying hu,hg,eQ,yQ,hzero]
        ·rw [←de,h2,Option.getD_none,sP];exact aiL (Wf hz (nV w F ie.zero β))
       ·have yQ:=GY (P:=P) (w:=w) hd h1;refine ⟨e'.val,true,?_,?_,by rw [h2];rfl⟩
        ·simp [Lm,run_underlying hu,hg,eQ,yQ]
        ·rw [←de,h2,Ay];exact h3
      obtain ⟨v,ok,aZ,hv,bU⟩:=wR;cases c with
      |true =>
       obtain ⟨b2,jO,cJ⟩:=h;refine cy.mk aZ cJ (.i (.t rfl fun i hi=>?_))
       match i,hi with
       |0,_=>exact hv
       |1,_ =>
        show bh w F (.v (.bool b2)) (.bool ok);rw [bU,jO];exact .v (.inl rfl)
      |false=>exact cy.mk aZ h (.i hv)
     ·cases h
    ·cases h
   ·cases h
  ·cases h
 ·cases h
end
section
variable {P:Program} {T:TT} {w:World} {F:Nat→Prop} {β:Nat→Value} {H:Hp} {k:AV→Prop}
def vV (w:World) (o:Obj):Below w.heap.size w (w.alloc o):=(Below.refl _ _).alloc (bG _) _
def Pz {t len:Nat} {parts:List (Nat×AV)} {vs:Array (Nat×Value)} (hT:bL P T) (hl:parts.length=vs.size)
  (hv:∀i,i<parts.length→(parts.getD i (0,.χ)).1=(vs.toList.getD i (0,undef)).1∧Rd w F β (parts.getD i (0,.χ)).2 (vs.toList.getD i (0,undef)).2)
  {K:List (List AV)→Nat→Nat→Prop} (h:z7 T t len parts K) :
  ∃rows e size us,K rows e size∧T t=some ⟨.slice e,(((T t).map (·.cells)).getD 0),(((T t).map (·.bytes)).getD 0),(((T t).map (·.zero)).getD undef)⟩∧0<size∧rows.length=len∧(∀i,i<rows.length→(rows.getD i []).length=size) ∧
   sm w F β rows.flatten us∧us.size=len*size∧(RD t len vs).run P w=.ok (.slice (some ⟨w.heap.size,0,none⟩) len len) (w.alloc (.cells us e))∧len≤16777216:=by
 unfold z7 at h;split at h
 ·rename_i i hi;split at h
  ·rename_i e he;split at h
   ·rename_i j hj;split at h
    ·rename_i rows Vg;obtain ⟨hb,hk⟩:=cond_prop h;simp only [bJ] at hb;obtain ⟨h1,h2,h3⟩:=hb;have h1:parts.length=len:=cW h1
     have h2:len*j.cells≤16777216:=by simpa using h2
     have h3:0<j.cells:=by
      rcases Nat.eq_zero_or_pos j.cells with h0|h0
      ·rw [h0] at h3;cases h3
      ·exact h0
     obtain ⟨nN,hri⟩:=XG Vg;have hu:=(hT _ _ hi).slice he;have aX:=(hT _ _ hj).lj w;have hz:=(hT _ _ hj).tH w;let zs:Array Value:=(nr (len*j.cells)).map (j.zero.cells[· % j.zero.cells.size]!);obtain ⟨us,hf,fB⟩:=abV (w:=w) (F:=F) (β:=β) h3 parts vs.toList 0 rows [] zs (by simpa using hl) hv Vg (by simp) (by simp [zs,h1]) (fun i hi=>by simp at hi);simp only [List.nil_append] at fB
     have lL:∀i,i<rows.length→(rows.getD i []).length=j.cells:=fun i hi=>by
      obtain ⟨_,_,hs,hr⟩:=hri i (by omega);rw [hr];exact hs
     have Bb:=H7 rows lL;refine ⟨rows,e,j.cells,us,hk,?_,h3,by omega,lL,fB,by rw [fB.1,Bb,nN,h1],?_,?_⟩
     ·rw [hi];simp;rw [←he]
     ·unfold RD;simp only [kF,run_underlying hu,mw,aX];rw [if_neg (by omega)];by_cases yZ:len*j.cells=0
      ·have ac1:len=0:=by rcases Nat.mul_eq_zero.1 yZ with h|h;exact h;omega
       subst ac1;have hp:parts=[]:=qL h1;subst hp;have jk:vs.toList=[]:=qL (by simpa using hl.symm);rw [if_pos yZ]
       have iH:zs=#[]:=by simp [zs]
       have On:us=#[]:=by
        rw [jk,iH] at hf;simpa [vF] using hf.symm
       subst On;have de:nr 0=#[]:=ud (by simp);simp [jk,vF,newRow,de]
      ·rw [if_neg yZ];simp only [kF,hz,mw,LD];have uI:vF (fun i=>some (i*j.cells,j.cells)) ((nr (len*j.cells)).map (j.zero.cells[· % j.zero.cells.size]!)) vs.toList=some us:=hf;rw [uI];simp [newRow]
     ·exact fo (Nat.le_mul_of_pos_right len h3) h2
    ·cases h
   ·cases h
  ·cases h
 ·cases h
def ag1 {rows:List (List AV)} {size b cap:Nat} {us:Array Value} {e:TypeId} {fr:Nat×Nat} (lL:∀i,i<rows.length→(rows.getD i []).length=size) (fB:∀i,i<rows.flatten.length→(us.getD i undef).oneCell'=true∧bh w F (rows.flatten.getD i .χ) (us.getD i undef))
  (aX:rows.flatten.length≤us.size) (hb:F b) (hh:w.heap[b]?=some (.cells us e fr)) (hc:rows.length≤cap) (hm:cap≤maxLen):bh w F (.s rows) (.slice (some ⟨b,0,none⟩) rows.length cap):=by
 have Bb:=H7 rows lL
 have Φ:∀i j,i<rows.length→j<size→i*size+j<rows.flatten.length:=fun i j hi hj=>by
  rw [Bb]
  calc i*size+j<i*size+size:=by omega
   _=(i+1)*size:=by rw [bM];omega
   _≤rows.length*size:=cI _ hi
 refine .s (k:=size) (u:=fun i j=>us.getD (i*size+j) undef) hb hc hm lL (fun i j hi hj=>?_) (fun i j hi hj=>(fB _ (Φ i j hi hj)).1) fun i j hi hj=>?_
 ·rw [cell_of_row w b _ us e fr hh,jJ];have:=Φ i j hi hj
  have h2:i*size+j<us.size:=by omega
  simp [h2]
 ·have:=(fB _ (Φ i j hi hj)).2;rwa [MB rows i j lL hi hj] at this
def VH {rows:List (List AV)} {us:Array Value} (hi:rows.all (fun r=>r.all fu)=true) (h:sm w F β rows.flatten us) :
  ∀i,i<rows.flatten.length→(us.getD i undef).oneCell'=true∧bh w F (rows.flatten.getD i .χ) (us.getD i undef):=by
 intro i Φ;refine ⟨(h.2 i Φ).1,nR ?_ (h.2 i Φ).2⟩
 have hm:rows.flatten.getD i .χ∈rows.flatten:=by
  rw [fW,bF Φ];exact ek Φ
 obtain ⟨r,hr,hx⟩:=List.mem_flatten.1 hm;exact ej.1 (ej.1 hi r hr) _ hx
def ahb {t len:Nat} {parts:List (Nat×AV)} {vs:Array (Nat×Value)} (hT:bL P T) (hI:Inv w F β H) (hl:parts.length=vs.size)
  (hv:∀i,i<parts.length→(parts.getD i (0,.χ)).1=(vs.toList.getD i (0,undef)).1∧Rd w F β (parts.getD i (0,.χ)).2 (vs.toList.getD i (0,undef)).2)
  (h:z7 T t len parts fun rows _ _=>bif rows.all (fun r=>r.all fu) then k (.s (rows.map fun r=>r.map nz)) else False):cy P (RD t len vs) w F β k:=by
 obtain ⟨rows,e,size,us,hk,_,hs,nN,lL,fB,aX,aZ,hlen⟩:=Pz hT hl hv h;obtain ⟨hi,hk⟩:=cond_prop hk;have hb:=vV w (.cells us e);have hF:=hI.cA;refine ⟨_,_,_,aZ,hb,hk,.i (aeZ ?_)⟩;have g_:=VH hi fB;rw [←nN];refine ag1 (size:=size) (e:=e) (fr:=(0,0)) lL (fun i hi=>⟨(g_ i hi).1,((g_ i hi).2.frame (Below.agree hb hF) fun _ h=>.inl h)⟩) (by rw [fB.1];exact bG _)
  (.inr ⟨bG _,by simp⟩) (heap_alloc_new w _) (bG _) (by rw [nN];unfold maxLen;omega)
def XO {mn:Bool} {xs:List AV} {vs:List Value} (hl:vs.length=xs.length) (hv:∀i,i<xs.length→Rd w F β (xs.getD i .χ) (vs.getD i undef)) (h:Kg mn xs k) (ts:Array TypeId) (ty:TypeId) :
  cy P (if mn then alY ts ty vs.toArray else alZ ts ty vs.toArray) w F β k:=by
 unfold Kg at h;split at h
 ·rename_i kx a ky b;obtain ⟨hb,r,rfl,hk⟩:=cond_prop h;obtain rfl:=Su hb
  match vs,hl with
  |[u,v],_ =>
   have h0:=(hv 0 (by simp)).bK;have h1:=(hv 1 (by simp)).bK;simp at h0 h1;subst h0;subst h1;cases mn with
   |true =>
    refine cy.mk (v:=.int kx (min a b)) ?_ hk (.i (.v (.inl rfl)));simp [alY,Builtin.min2];split<;>congr 2<;>omega
   |false =>
    refine cy.mk (v:=.int kx (max a b)) ?_ hk (.i (.v (.inl rfl)));simp [alZ,Builtin.max2];split<;>congr 2<;>omega
 ·cases h
def ahe {b:Builtin} {ts:List Nat} {xs:List AV} {vs:List Value} (hT:bL P T) (hI:Inv w F β H) (hl:vs.length=xs.length)
  (hv:∀i,i<xs.length→Rd w F β (xs.getD i .χ) (vs.getD i undef)) (h:Ke T b ts xs H k) (ty:TypeId) (cs:Array Bool) :
  ur P (builtin b ts.toArray ty cs vs.toArray) w fun v w'=>∃r,k r∧Rd w' (fF F w w') β r v:=by
 unfold Ke at h;split at h
 ·rename_i t x
  match vs,hl with
  |[u],_ =>
   exact (ahm hT hI (by simpa using hv 0 (by simp)) h).out
 ·rename_i t
  match vs,hl with
  |[u],_ =>
   have Oj:Rd w F β (.v (.slice none 0 0)) u:=by simpa using hv 0 (by simp)
   cases Oj.bK;split at h
   ·rename_i i hi;split at h
    ·rename_i e he;have hu:=(hT _ _ hi).slice he;exact (cy.mk (s:=al0 #[t] ty #[.slice none 0 0]) (by simp [al0,run_underlying hu,goInt]) h (.i (.v (.inl rfl)))).out
    ·cases h
   ·cases h
 ·exact (XO (mn:=true) hl hv h ts.toArray ty).out
 ·exact (XO (mn:=false) hl hv h ts.toArray ty).out
 ·cases h
def ahg {f:AV} {vf:Value} {xs:List AV} {vs:Array Value} (hI:Inv w F β H) (hf:Rd w F β f vf) (hl:vs.size=xs.length)
  (hv:∀i,i<xs.length→Rd w F β (xs.getD i .χ) (vs.getD i undef)) (h:Kf P f xs H k) :
  ur P (do let d ←mg vf vs;invoke d.target d.args) w fun v w'=>∃r,k r∧Rd w' (fF F w w') β r v:=by
 unfold Kf at h;split at h
 ·rename_i g fs cs;obtain ⟨r,⟨⟨fn,c,dK,dR,yH⟩,hp⟩,hk⟩:=h;obtain ⟨us,ws,rfl,hs,ez,hu,hw⟩:=hf.nB;refine .inr ⟨g,us++vs++ws,?_,?_⟩
  ·have rv : ¬ fn.name = "runtime.NumGoroutine" := by simpa using dR
   simp [mg,invoke,callFunc,dK,rv,yH]
  ·refine (hp w F β (us++vs++ws) hI ?_ fun i hi=>?_).mono ?_
   ·simp [hs,hl,ez]
   ·simp only [cP] at hi
    have e1:(fs++(xs++cs)).getD i .χ=if i<fs.length then fs.getD i .χ else if i<fs.length+xs.length then xs.getD (i-fs.length) .χ else cs.getD (i-fs.length-xs.length) .χ:=by
     simp only [aV,gK];by_cases h1:i<fs.length
     ·simp [h1]
     ·by_cases h2:i<fs.length+xs.length
      ·simp [h1,h2,show i-fs.length<xs.length by omega]
      ·simp [h1,h2,show ¬i-fs.length<xs.length by omega]
    have e2:(us++vs++ws).getD i undef=if i<fs.length then us.getD i undef else if i<fs.length+xs.length then vs.getD (i-fs.length) undef else ws.getD (i-fs.length-xs.length) undef:=by
     simp only [lA,pX,ue,hs,hl];by_cases h1:i<fs.length
     ·simp [h1,show i<fs.length+xs.length by omega]
     ·by_cases h2:i<fs.length+xs.length
      ·simp [h1,h2]
      ·simp [h1,h2,Nat.sub_sub]
    rw [e1,e2];by_cases h1:i<fs.length
    ·rw [if_pos h1,if_pos h1];exact hu i h1
    ·rw [if_neg h1,if_neg h1];by_cases h2:i<fs.length+xs.length
     ·rw [if_pos h2,if_pos h2];exact hv _ (by omega)
     ·rw [if_neg h2,if_neg h2];exact hw _ (by omega)
   ·rintro e w' ⟨v,rfl,hb,hr⟩;exact ⟨v,rfl,hb,r,hk,.i hr⟩
 ·cases h
def ahd {b:Builtin} {args:Array Operand} {argTypes:Array TypeId} {ρ:Operand→AV} {a:Act} {type:TypeId} (hT:bL P T) (hI:Inv w F β H)
  (mR:∀i,i<(args.toList.map ρ).length→Rd w F β ((args.toList.map ρ).getD i .χ) ((args.map a.eval).getD i undef)) (h:Ke T b argTypes.toList (args.toList.map ρ) H k) :
  ur P (do let d ←resolve a.eval { callee:=.builtin b,args:=args,argTypes:=argTypes } type;invoke d.target d.args) w fun v w'=>∃r,k r∧Rd w' (fF F w w') β r v:=by
 have h1:=ahe (P:=P) (ts:=argTypes.toList) (vs:=(args.map a.eval).toList) hT hI (by simp) (fun i hi=>by simpa using mR i hi) h type (args.map fun|.const _=>true|_=>false);have e:(do let d ←resolve a.eval { callee:=.builtin b,args:=args,argTypes:=argTypes } type;invoke d.target d.args:Sem Next)=builtin b argTypes type (args.map fun|.const _=>true|_=>false) (args.map a.eval):=rfl;rw [e];exact h1
def ahf {f:Operand} {args:Array Operand} {argTypes:Array TypeId} {ρ:Operand→AV} {a:Act} {type:TypeId} (hI:Inv w F β H) (hf:Rd w F β (ρ f) (a.eval f))
  (mR:∀i,i<(args.toList.map ρ).length→Rd w F β ((args.toList.map ρ).getD i .χ) ((args.map a.eval).getD i undef)) (h:Kf P (ρ f) (args.toList.map ρ) H k) :
  ur P (do let d ←resolve a.eval { callee:=.value f,args:=args,argTypes:=argTypes } type;invoke d.target d.args) w fun v w'=>∃r,k r∧Rd w' (fF F w w') β r v:=by
 have e:(do let d ←resolve a.eval { callee:=.value f,args:=args,argTypes:=argTypes } type;invoke d.target d.args:Sem Next)=(do let d ←mg (a.eval f) (args.map a.eval);invoke d.target d.args):=rfl;rw [e];exact ahg hI hf (by simp) mR h
def JP (ρ:Operand→AV) (e:Operand→Value) (parts:Array (Nat×Operand)):(parts.toList.map fun q=>(q.1,ρ q.2)).length=(parts.map fun x=>(x.1,e x.2)).size:=by simp
def JQ {ρ:Operand→AV} {e:Operand→Value} {parts:Array (Nat×Operand)} (h:∀x,(∃i,(i,x)∈parts)→Rd w F β (ρ x) (e x)) (i:Nat) (hi:i<(parts.toList.map fun q=>(q.1,ρ q.2)).length) :
  ((parts.toList.map fun q=>(q.1,ρ q.2)).getD i (0,.χ)).1=((parts.map fun x=>(x.1,e x.2)).toList.getD i (0,undef)).1 ∧
   Rd w F β ((parts.toList.map fun q=>(q.1,ρ q.2)).getD i (0,.χ)).2 ((parts.map fun x=>(x.1,e x.2)).toList.getD i (0,undef)).2:=by
 simp at hi;have:=h parts[i].2 ⟨parts[i].1,Array.getElem_mem hi⟩;simpa [aV,hi] using this
def BR {x:AV} {u:Value} (h:bh w F x u):bh w F (nz x) u:=by
 unfold nz;split
 ·cases h;exact .s0
 ·exact h
def V9 {z:Array Value} {n q:Nat} (h:q<n):((nr n).map (z[· % z.size]!)).getD q undef=z[q % z.size]! := by simp [h]
def ahp {t:Nat} {l c:AV} {vl vc:Value} (hT:bL P T) (hI:Inv w F β H) (hl:Rd w F β l vl) (hc:Rd w F β c vc) (h:PL T t l c k):cy P (vG t vl vc) w F β k:=by
 unfold PL at h;split at h
 ·rename_i i kl nl kc nc hi;cases hl.bK;cases hc.bK;split at h
  ·rename_i e he;have hu:=(hT _ _ hi).slice he;split at h
   ·rename_i j hj;obtain ⟨hb,n,m,rfl,rfl,dR,hm,kS,R,rfl,hk⟩:=cond_prop h;simp only [bJ] at hb;obtain ⟨bU,hlen,g_⟩:=hb;have hlen:(bz (cd j.zero)).length=j.cells:=cW hlen;have hz:=pa (nV w F j.zero β) bU
    have iH:j.zero.cells.size=j.cells:=by rw [hz.1,hlen]
    obtain ⟨inf,pB,hzero,eM,nF⟩:=(hT _ _ hj).info;have qp:IntKind.i64.wrap (n:Int)=(n:Int):=qI _ (by omega);have EM:IntKind.i64.wrap (m:Int)=(m:Int):=qI _ (by omega)
    have hbm:(inf.bytes:Int)*(m:Int)≤140737488355328:=by
     have h5:((m*j.bytes:Nat):Int)=(j.bytes:Int)*(m:Int):=by rw [Int.natCast_mul,Int.mul_comm]
     rw [nF,←h5];omega
    have aZ:(vG t (.int kl (n:Int)) (.int kc (m:Int))).run P w=.ok (.slice (some ⟨w.heap.size,0,none⟩) n m) (w.alloc (.cells ((nr (m*j.cells)).map (j.zero.cells[· % j.zero.cells.size]!)) e)):=by
     have h1:¬((m:Int)<0):=by omega
     have h2:¬(281474976710656<(inf.bytes:Int)*(m:Int)):=by omega
     have h3:¬((n:Int)<0):=by omega
     have h4:¬((m:Int)<(n:Int)):=by omega
     by_cases h0:m*j.cells=0
     ·have de:nr (m*j.cells)=#[]:=by rw [h0];exact ud (by simp)
      simp [vG,run_underlying hu,asInt,asIntOf,typeInfo,pB,qp,EM,h1,h2,h3,h4,sizeOf,eM,h0,newRow];rw [h0] at de;simp [de]
     ·simp [vG,run_underlying hu,asInt,asIntOf,typeInfo,pB,qp,EM,h1,h2,h3,h4,sizeOf,eM,h0,newRow,zeroValue,hzero]
    let w':=w.alloc (.cells ((nr (m*j.cells)).map (j.zero.cells[· % j.zero.cells.size]!)) e);have IA:=vV w (.cells ((nr (m*j.cells)).map (j.zero.cells[· % j.zero.cells.size]!)) e)
    have ND:w'.heap[w.heap.size]?=some (.cells ((nr (m*j.cells)).map (j.zero.cells[· % j.zero.cells.size]!)) e (0,0)):=by
     show (w.heap.push _)[w.heap.size]?=_;exact Array.getElem?_push_size
    refine ⟨_,_,_,aZ,IA,hk,.i ?_⟩;have:=bh.s (w:=w') (F:=fF F w w') (rows:=il n ((bz (cd j.zero)).map nz)) (b:=w.heap.size) (off:=0) (c:=m) (k:=j.cells) (u:=fun q z=>((nr (m*j.cells)).map (j.zero.cells[· % j.zero.cells.size]!)).getD (q*j.cells+z) undef)
     (.inr ⟨bG _,by simp [w']⟩) (by simpa using dR) (by unfold maxLen;omega) (fun q hq=>by simp at hq;simp [aV,hq,hlen]) (fun q z hq iT=>?_) (fun q z hq iT=>?_) (fun q z hq iT=>?_)
    ·simpa using this
    all_goals
     simp only [List.length_replicate] at hq
     have Φ:q*j.cells+z<m*j.cells:=by
      calc q*j.cells+z<q*j.cells+j.cells:=by omega
       _=(q+1)*j.cells:=by rw [bM];omega
       _≤m*j.cells:=cI _ (by omega)
    ·rw [cell_of_row _ _ _ _ _ _ ND,jJ];simp [Φ]
    all_goals
     rw [V9 Φ,iH]
     have e1:(q*j.cells+z) % j.cells=z:=by rw [Nat.mul_comm,Nat.mul_add_mod];exact Nat.mod_eq_of_lt iT
     rw [e1];have h2:=hz.2 z (by omega)
     have e2:j.zero.cells[z]! = j.zero.cells.getD z undef:=by
      have:z<j.zero.cells.size:=by omega
      simp [this]
     rw [e2]
    ·exact h2.1
    ·have e3:((il n ((bz (cd j.zero)).map nz)).getD q []).getD z .χ=nz ((bz (cd j.zero)).getD z .χ):=by
      have zv:z<(bz (cd j.zero)).length:=by omega
      simp [aV,hq,zv]
     rw [e3];refine (BR (nR (ej.1 g_ _ ?_) h2.2)).frame (Below.agree IA hI.cA) fun _ h=>.inl h;rw [fW,bF (show z<(bz (cd j.zero)).length by omega)];exact ek _
   ·cases h
  ·cases h
 ·cases h
def KN {o:Oper} {ρ:Operand→AV} {a:Act} (hT:bL P T) (hI:Inv w F β H) (bI:∀x,x∈o.op.operands→Rd w F β (ρ x) (a.eval x))
  (h:ni P T o ρ H k):ur P (execOp a.eval o) w fun v w'=>∃r,k r∧Rd w' (fF F w w') β r v:=by
 obtain ⟨dst,op,type,pos,after,guard⟩:=o;cases op<;>simp only [ni] at h<;>simp only [Op.operands] at bI<;>simp only [execOp]
 case move x=>exact .inl ⟨_,w,rfl,Below.refl _ _,_,h,(bI x (by simp)).here⟩
 case assign x=>exact .inl ⟨_,w,rfl,Below.refl _ _,_,h,(bI x (by simp)).here⟩
 case pick c x y=>exact ahr (bI c (by simp)) (bI x (by simp)) (bI y (by simp)) h
 case extract t i=>exact (ahi (bI t (by simp)) h).out
 case unOp op t x=>exact (ahu (bI x (by simp)) h).out
 case binOp op t x y t'=>exact (aha hT (bI x (by simp)) (bI y (by simp)) x y h).out
 case convert s d x=>exact (ahh hT (bI x (by simp)) h).out
 case fieldAddr t x f=>exact (ahj hT (bI x (by simp)) h).out
 case load t x=>exact (ahn hT hI (bI x (by simp)) h).out
 case indexAddr t x i=>exact (ahk hT hI (bI x (by simp)) (bI i (by simp)) h).out
 case lookup t x i c=>exact (aho hT hI (bI x (by simp)) (bI i (by simp)) h).out
 case index t x i=>exact (ahl hT (bI x (by simp)) (bI i (by simp)) h).out
 case slice t x lo hi mx =>
  cases mx with
  |some m =>
   cases lo with
   |some l=>unfold FK at h;split at h<;>first|exact h.elim|simp_all
   |none=>cases hi with
    |none=>unfold FK at h;split at h<;>first|exact h.elim|simp_all
    |some l=>exact (ahs hT (bI x (by simp)) (bI l (by simp)) (bI m (by simp)) h).out
  |none =>
   refine (aht (vlo:=lo.map a.eval) (vhi:=hi.map a.eval) hT (bI x (by simp)) ?_ ?_ hI h).out
   ·cases lo with
    |none=>exact True.intro
    |some l=>exact bI l (by simp)
   ·cases hi with
    |none=>exact True.intro
    |some l=>exact bI l (by simp)
 case build t parts =>
  exact (ahc hT (JP ρ a.eval parts) (JQ fun x hx=>bI x (by simpa using hx)) h).out
 case buildSlice t n parts =>
  exact (ahb hT hI (JP ρ a.eval parts) (JQ fun x hx=>bI x (by simpa using hx)) h).out
 case makeFunc fn fs cs =>
  refine .inl ⟨_,w,rfl,Below.refl _ _,_,h,?_⟩;refine .c (by simp) (by simp) (fun i hi=>?_) fun i hi=>?_
  ·simp at hi;have:=bI (fs[i]) (by simp);simpa [aV,hi] using this.here
  ·simp at hi;have:=bI (cs[i]) (by simp);simpa [aV,hi] using this.here
 case nilCheck x =>
  obtain ⟨⟨r,hk,hr⟩,hs⟩:=ahq (bI x (by simp)) h;generalize a.eval x=vx at hr hs ⊢
  rcases hs with ⟨a,rfl⟩|⟨g,fs,cs,rfl⟩
  iterate 2 exact .inl ⟨_,w,rfl,Below.refl _ _,_,hk,hr.here⟩
 case makeSlice t l c=>exact (ahp hT hI (bI l (by simp)) (bI c (by simp)) h).out
 case call c =>
  obtain ⟨callee,args,argTypes⟩:=c
  have mR:∀i,i<(args.toList.map ρ).length→Rd w F β ((args.toList.map ρ).getD i .χ) ((args.map a.eval).getD i undef):=fun i hi=>by
   simp at hi;have:=bI args[i] (by simp [Call.operands]);simpa [aV,hi] using this
  cases callee with
  |builtin b=>exact ahd hT hI mR h
  |value f=>exact ahf hI (bI f (by simp [Call.operands])) mR h
  |invoke r m=>cases h
 all_goals cases h
end
def sb (z:AV):Nat→Nat→AV→AV
 |n,id,x=>match x with
  |.b i o=>bif aH i id then .χ else .b i o
  |.o i=>bif aH i id then z else .o i
  |.e i K m j=>bif aH i id then .χ else .e i K m j
  |.w i K d=>bif aH i id then .χ else .w i K d
  |.m i=>bif aH i id then .χ else .m i
  |.a cs=>match n with
   |0=>.χ
   |n+1=>.a (cs.map (sb z n id))
  |.t cs=>match n with
   |0=>.χ
   |n+1=>.t (cs.map (sb z n id))
  |.c fn fs cs=>match n with
   |0=>.χ
   |n+1=>.c fn (fs.map (sb z n id)) (cs.map (sb z n id))
  |.v x=>.v x
  |.s r=>.s r
  |.p c=>.p c
  |.z=>.z
  |.χ=>.χ
abbrev er (n id:Nat) (x:AV):AV:=sb .χ n id x
def ph (id:Nat):Chunk→Chunk
 |.box cells=>.box (cells.map (er 1 id))
 |.own E k rows=>.own E k rows
 |.mp ag rows=>.mp ag rows
 |.lp l e R L=>.lp l e R (L.map fun p=>(p.1,er 2 id p.2))
 |.si s pos=>.si s pos
def gY (id:Nat):Hp→Hp
 |[]=>[]
 |(i,c)::r=>bif aH i id then gY id r else (i,ph id c)::gY id r
def dZ (f:Nat→AV) (d:Nat) (x:AV):Nat→AV:=fun t=>bif aH t d then x else f t
section
variable {w:World} {F:Nat→Prop} {β av:Nat→Value}
def H4 {id i:Nat} {x:AV} {u:Value} (h:i≠id→Rd w F av x u):Rd w F av (bif aH i id then .χ else x) u:=by
 cases hb:aH i id with
 |true=>exact .χ
 |false=>exact h fun e=>by rw [e,iY] at hb;cases hb
def ahx {z:AV} {id i:Nat} {x:AV} {u:Value} (hz:i=id→Rd w F av z u) (h:i≠id→Rd w F av x u):Rd w F av (bif aH i id then z else x) u:=by
 cases hb:aH i id with
 |true=>exact hz (cW hb)
 |false=>exact h fun e=>by rw [e,iY] at hb;cases hb
def rN {z:AV} {id:Nat} (hz:∀u,Rd w F β (.o id) u→Rd w F av z u) (ai:∀i,i≠id→av i=β i):∀(n:Nat) {x:AV} {u:Value},Rd w F β x u→Rd w F av (sb z n id x) u:=by
 have St:∀{i o:Nat} {u:Value},Rd w F β (.b i o) u→Rd w F av (bif aH i id then .χ else .b i o) u:=fun h=>H4 fun hi=>by
  obtain ⟨eZ,h1,rfl⟩:=h.mM;exact .b ((ai _ hi).trans h1)
 have Wn:∀{i:Nat} {u:Value},Rd w F β (.o i) u→Rd w F av (bif aH i id then z else .o i) u:=fun h=>ahx (fun e=>hz _ (e▸h)) fun hi=>by
  obtain ⟨a,n,c,h1,rfl⟩:=h.jY;exact .o ((ai _ hi).trans h1)
 have Td:∀{i K m j:Nat} {u:Value},Rd w F β (.e i K m j) u→Rd w F av (bif aH i id then .χ else .e i K m j) u:=fun h=>H4 fun hi=>by
  obtain ⟨g,n,c,h1,rfl⟩:=h.AR;exact .e ((ai _ hi).trans h1)
 have V8:∀{i:Nat} {u:Value},Rd w F β (.m i) u→Rd w F av (bif aH i id then .χ else .m i) u:=fun h=>H4 fun hi=>by
  obtain ⟨b,h1,rfl⟩:=h.zD;exact .m ((ai _ hi).trans h1)
 have YT:∀{i K d:Nat} {u:Value},Rd w F β (.w i K d) u→Rd w F av (bif aH i id then .χ else .w i K d) u:=fun h=>H4 fun hi=>by
  obtain ⟨a,a',n,c,h1,h2,h3,rfl⟩:=h.xw;exact .w ((ai _ hi).trans h1) h2 h3
 have YO:∀{x u:Value},Rd w F β (.v x) u→Rd w F av (.v x) u:=fun h=>by cases h;exact .i (by assumption)
 intro n;induction n with
 |zero =>
  intro x u h;cases x with
  |v x=>exact YO h
  |s r=>exact .i h.oR
  |p c=>exact .i h.BW
  |χ=>exact .χ
  |a cs=>exact .χ
  |t cs=>exact .χ
  |c fn fs cs=>exact .χ
  |b i o=>exact St h
  |o i=>exact Wn h
  |e i K m j=>exact Td h
  |w i K d=>exact YT h
  |m i=>exact V8 h
  |z=>obtain ⟨a,rfl⟩:=h.Aq;exact .i .z
 |succ n ih =>
  have get:∀(l:List AV) (i:Nat),i<l.length→(l.map (sb z n id)).getD i .χ=sb z n id (l.getD i .χ):=fun l i hi=>by simp [aV,hi]
  intro x u h;cases x with
  |v x=>exact YO h
  |s r=>exact .i h.oR
  |p c=>exact .i h.BW
  |χ=>exact .χ
  |a cs =>
   show Rd w F av (.a (cs.map (sb z n id))) u;obtain ⟨us,rfl,hs,h1,hr⟩:=h.qS;refine .a (by simpa using hs) (fun i hi=>h1 i (by simpa using hi)) fun i hi=>?_
   have hi:i<cs.length:=by simpa using hi
   rw [get cs i hi];exact ih (hr i hi)
  |t cs =>
   show Rd w F av (.t (cs.map (sb z n id))) u;obtain ⟨us,rfl,hs,hr⟩:=h.Cy;refine .t (by simpa using hs) fun i hi=>?_
   have hi:i<cs.length:=by simpa using hi
   rw [get cs i hi];exact ih (hr i hi)
  |c fn fs cs =>
   show Rd w F av (.c fn (fs.map (sb z n id)) (cs.map (sb z n id))) u;obtain ⟨us,vs,rfl,hs,ez,hr,cK⟩:=h.nB;refine .c (by simpa using hs) (by simpa using ez) (fun i hi=>?_) fun i hi=>?_
   ·have hi:i<fs.length:=by simpa using hi
    rw [get fs i hi];exact ih (hr i hi)
   ·have hi:i<cs.length:=by simpa using hi
    rw [get cs i hi];exact ih (cK i hi)
  |b i o=>exact St h
  |o i=>exact Wn h
  |e i K m j=>exact Td h
  |w i K d=>exact YT h
  |m i=>exact V8 h
  |z=>obtain ⟨a,rfl⟩:=h.Aq;exact .i .z
def sH {id:Nat} (ai:∀i,i≠id→av i=β i) (n:Nat) {x:AV} {u:Value} (h:Rd w F β x u):Rd w F av (er n id x) u:=rN (fun _ _=>.χ) ai n h
def ir {id:Nat}:∀{H:Hp} {i:Nat} {c:Chunk},(i,c)∈gY id H→i≠id∧∃c',(i,c')∈H∧c=ph id c'
 |[],_,_,h=>by cases h
 |(j,c')::r,i,c,h=>by
  simp only [gY] at h;cases hb:aH j id with
  |true =>
   rw [hb] at h;obtain ⟨h1,c2,h2,h3⟩:=ir (H:=r) h;exact ⟨h1,c2,cj _ h2,h3⟩
  |false =>
   rw [hb] at h;simp only [cond_false,bj,Prod.mk.injEq] at h
   rcases h with ⟨rfl,rfl⟩|h
   ·exact ⟨fun e=>(by rw [e,iY] at hb;cases hb),c',by simp,rfl⟩
   ·obtain ⟨h1,c2,h2,h3⟩:=ir (H:=r) h;exact ⟨h1,c2,cj _ h2,h3⟩
def DI {id:Nat}:∀{H:Hp},(H.map (·.1)).Nodup→((gY id H).map (·.1)).Nodup
 |[],_=>by simp [gY]
 |(j,c)::r,h=>by
  simp only [jI,ix] at h;simp only [gY];cases hb:aH j id with
  |true=>exact DI h.2
  |false =>
   simp only [cond_false,jI,ix];refine ⟨fun hm=>?_,DI h.2⟩;obtain ⟨x,hx,lN⟩:=dq.1 hm;obtain ⟨i,c'⟩:=x;obtain ⟨_,c2,h2,_⟩:=ir hx;exact h.1 (dq.2 ⟨(i,c2),h2,lN⟩)
def IX {id i:Nat} {c:Chunk} (hi:i≠id) (ai:∀i,i≠id→av i=β i) (h:c.holds w F β i):(ph id c).holds w F av i:=by
 cases c with
 |box cells =>
  obtain ⟨b,cs,e,hb,hh,hs,h1,hr⟩:=h;refine ⟨b,cs,e,(ai i hi).trans hb,hh,by simpa using hs,fun j hj=>h1 j (by simpa using hj),fun j hj=>?_⟩
  have hj:j<cells.length:=by simpa using hj
  have:(cells.map (er 1 id)).getD j .χ=er 1 id (cells.getD j .χ):=by simp [aV,hj]
  rw [this];exact sH ai 1 (hr j hj)
 |own E k rows =>
  unfold ph Chunk.holds at *;rw [ai i hi];exact h
 |mp ag rows =>
  unfold ph Chunk.holds at *;rw [ai i hi];exact h
 |si s pos =>
  unfold ph Chunk.holds at *;rw [ai i hi];exact h
 |lp l e R L =>
  obtain ⟨fn,tmps,D,hb,hh,hn,hr⟩:=h;refine ⟨fn,tmps,D,(ai i hi).trans hb,hh,hn,fun p hp=>?_⟩;obtain ⟨q,hq,rfl⟩:=dq.1 hp;exact sH ai 2 (hr q hq)
def pH {w':World} {F':Nat→Prop} {i:Nat} {c:Chunk} (ha:ga F w w') (hF:∀b,F b→F' b) (hb:∀b,bP (β i)=some b→w'.heap[b]?=w.heap[b]?) (h:c.holds w F β i):c.holds w' F' β i:=by
 cases c with
 |box cells =>
  obtain ⟨b,cs,e,ai,hh,hs,h1,hr⟩:=h;exact ⟨b,cs,e,ai,by rw [hb b (by rw [ai];rfl)];exact hh,hs,h1,fun j hj=>(hr j hj).frame ha hF⟩
 |mp ag rows =>
  obtain ⟨b,es,ck,ai,hh,bT,hs,hm,hr⟩:=h;refine ⟨b,es,ck,ai,by rw [hb b (by rw [ai];rfl)];exact hh,bT,hs,hm,fun i r hi=>?_⟩;obtain ⟨e,h1,h2,h3,h4⟩:=hr i r hi;exact ⟨e,h1,h2,h3,h4.frame ha hF⟩
 |lp l e R L =>
  obtain ⟨fn,tmps,D,ai,hh,hn,hr⟩:=h;exact ⟨fn,tmps,D,ai,by rw [hb l (by rw [ai];rfl)];exact hh,hn,fun p hp=>(hr p hp).frame ha hF⟩
 |si s pos =>
  obtain ⟨b,ai,hh⟩:=h;exact ⟨b,ai,by rw [hb b (by rw [ai];rfl)];exact hh⟩
 |own E k rows =>
  rcases h with h|⟨g,cap,cur,hv,hc,hg,hn,hm,hs,hk,hr⟩
  ·exact .inl h
  ·have h0:aH cap 0=false:=by cases cap<;>first|rfl|omega
   refine .inr ⟨g,cap,cur,hv,hc,by rw [hb g (by rw [hv];simp [bP,h0])];exact hg,hn,hm,hs,hk,fun i j hi hj=>⟨(hr i j hi hj).1,(hr i j hi hj).2.frame ha hF⟩⟩
def wi {st:ah} {w':World} (hI:Inv w F β st.H) (hb:Below w.heap.size w w'):Ext w F β st w' (fF F w w') β st where
 os:=hb.os
 tape:=hb.tape
 output:=hb.output
 size:=hb.size
 block _ h _:=hb.block _ h
 mono _ h:=.inl h
 new _ h:=h.elim .inl fun h=>.inr (.inl h.1)
 owned _ h:=.inr h
 keep _ _ h:=h.later hb hI.cA
 inv:={
  cA:=fun b h=>h.elim (fun h=>oh (hI.cA b h) hb.size) fun h=>h.2
  holds:=fun id c hm=>pH (Below.agree hb hI.cA) (fun _ h=>.inl h) (fun b kR=>hb.block b (hI.fJ ⟨id,c,hm,kR⟩)) (hI.holds id c hm)
  keys:=hI.keys
  apart:=fun b ho h=>h.elim (hI.apart b ho) fun h=>absurd (hI.fJ ho) (mr.2 h.1)
  eo:=hI.eo
  fh:=hI.fh.frame (Below.agree hb hI.cA) fun _ h=>.inl h }
 gh _ _:=rfl
def qd {st:ah} {w':World} {d:Nat} {c:Chunk} {v:Value} (hd:d<1000) (hI:Inv w F β st.H) (uR:w'.os=w.os) (Og:js w w') (s6:w'.output=w.output) (eM:w.heap.size≤w'.heap.size)
  (A7:∀b,b<w.heap.size→¬bD β st.H b→w'.heap[b]?=w.heap[b]?)
  (ade:∀i c' b,i≠d→(i,c')∈st.H→bP (β i)=some b→w'.heap[b]?=w.heap[b]?)
  (eU:∀b,bP v=some b→w.heap.size≤b∨∃c',(d,c')∈st.H∧bP (β d)=some b)
  (hc:c.holds w' F (fun i=>if i=d then v else β i) d) :
  Ext w F β st w' F (fun i=>if i=d then v else β i) ⟨fun t=>er 2 d (st.f t),(d,c)::gY d st.H⟩:=by
 have ai:∀i,i≠d→(fun i=>if i=d then v else β i) i=β i:=fun i hi=>if_neg hi;have ha:ga F w w':=fun b hb=>A7 b (hI.cA b hb) fun ho=>hI.apart b ho hb
 have db:∀b,bD (fun i=>if i=d then v else β i) ((d,c)::gY d st.H) b→w.heap.size≤b∨bD β st.H b:=by
  rintro b ⟨i,c',hm,hb⟩
  rcases bj.1 hm with hm|hm
  ·cases hm;simp only [if_true] at hb
   rcases eU b hb with h|⟨c',h1,h2⟩
   ·exact .inl h
   ·exact .inr ⟨d,c',h1,h2⟩
  ·obtain ⟨hi,c2,h2,_⟩:=ir hm;simp only [if_neg hi] at hb;exact .inr ⟨i,c2,h2,hb⟩
 refine ⟨uR,Og,s6,eM,A7,fun _ h=>h,fun _ h=>.inl h,db,fun t u h=>sH ai 2 (h.frame ha fun _ h=>h),?_,fun i hi=>ai i (by omega)⟩;refine ⟨fun b hb=>oh (hI.cA b hb) eM,?_,?_,?_,?_,hI.fh.at ha⟩
 ·intro i c' hm
  rcases bj.1 hm with hm|hm
  ·cases hm;exact hc
  ·obtain ⟨hi,c2,h2,rfl⟩:=ir hm;exact IX hi ai (pH ha (fun _ h=>h) (fun b hb=>ade i c2 b hi h2 hb) (hI.holds i c2 h2))
 ·simp only [jI,ix];refine ⟨fun hm=>?_,DI hI.keys⟩;obtain ⟨x,hx,lN⟩:=dq.1 hm;obtain ⟨i,c'⟩:=x;exact (ir hx).1 lN
 ·intro b ho hF
  rcases db b ho with h|h
  ·exact absurd (hI.cA b hF) (mr.2 h)
  ·exact hI.apart b h hF
 ·have key:∀i c' b,(i,c')∈gY d st.H→bP (β i)=some b→bP v=some b→False:=by
   intro i c' b hm hb hv;obtain ⟨hi,c2,h2,_⟩:=ir hm
   rcases eU b hv with h|⟨c3,h3,h4⟩
   ·exact absurd (hI.fJ ⟨i,c2,h2,hb⟩) (mr.2 h)
   ·exact hi (hI.eo i c2 d c3 b h2 h3 hb h4)
  intro i c1 i' p9 b hm bQ hb aJ
  rcases bj.1 hm with hm|hm<;>rcases bj.1 bQ with bQ|bQ
  ·cases hm;cases bQ;rfl
  ·cases hm;simp only [if_true] at hb;have bm:=(ir bQ).1;simp only [if_neg bm] at aJ;exact (key i' p9 b bQ aJ hb).elim
  ·cases bQ;simp only [if_true] at aJ;have hi:=(ir hm).1;simp only [if_neg hi] at hb;exact (key i c1 b hm hb aJ).elim
  ·obtain ⟨hi,c2,h2,_⟩:=ir hm;obtain ⟨bm,AJ,iB,_⟩:=ir bQ;simp only [if_neg hi] at hb;simp only [if_neg bm] at aJ;exact hI.eo i c2 i' AJ b h2 iB hb aJ
end
end
end Go.Cat
