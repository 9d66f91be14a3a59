/- The logic that the walks are in, piece P2. No condition. -/
import Derived.WalkKit
import Derived.WalkSpells
import Derived.WalkLawsBesides
import Derived.KernelRfl
import Derived.MapKept
import Derived.Test.YtdcgbodbejgliaaGreatDoorXTopListedCatP1
import Derived.Laws.StructEq
import Derived.ChangeKeysEq
open Array renaming getElem?_eq_getElem → fL, getElem?_eq_some_iff → j4, getD_eq_getD_getElem? → j3, getElem?_modify → oa, eq_empty_of_size_eq_zero → qR, getElem?_append → n_, range → lO, size_append → qS, getD → ug, getElem?_extract → VL, foldl_toList → VJ, toList_zipIdx → VP
open BitVec renaming ofInt → iW
open Bool renaming and_eq_true → bM, not_eq_true' → my, or_eq_true → qT, and_assoc → NZ
open Go.Addr renaming add_lit → fC
open Go.Builtin renaming len_ → rZ, min_ → ahm, max_ → ahn, cap_ → aho
open Go.ByteArray renaming toList_eq → zx
open Go.Conv renaming stringToBytes → GX
open Go.Deferred renaming ofValue → kW
open Go.Instr renaming sliceAt → kF, slice → pX, sliceBounds → wX, makeSlice → sa, sureAddr → CL, fill → r_, buildSlice → Oa, indexAt → zz, loadAt → CG, lookup → G2, index → Ob, build → N_, extract → ahj, fieldAt → ahk, findNow → ahl
open Go.IntWalk renaming i64_in → uk
open Go.MapKept renaming run_findKey → CF, run_getObj_map → VT, Stamped → VS, IsKey → VR
open Go.Op renaming bytesLess → eZ, intArith → qW, equalIn → se, eqFields → uu, intBits → G', eqItems → ahh
open Go.Program renaming fieldsOf → Wh
open Go.Result renaming andThen_ok → k_
open Go.Sem renaming run_bind → jK, run_pure → Hc
open Go.Value renaming int → dB, oneCell' → ahi
open Go.World renaming alloc → kL, freeze → xf
open List renaming getElem?_eq_getElem → bO, mem_cons_of_mem → cu, mem_cons → bp, length_cons → cr, getD → aY, length_append → cZ, getD_eq_getElem?_getD → fk, length_take → da, getElem?_eq_some_iff → fX, all_eq_true → dJ, mem_map → cV, getElem?_take → fo, getElem?_append → fW, getElem_mem → eH, replicate → gl, mem_of_getElem? → iN, getElem?_drop → gJ, map_cons → eT, nodup_cons → gK, size_toArray → j6, eq_nil_of_length_eq_zero → oW, length_eq_zero_iff → p0, length_drop → lP, getElem?_map → nu, take_append_drop → p5, cons_append → wZ, getElem?_toArray → V8, getElem?_take_of_lt → V7, take_zero → ahg, take_succ_cons → Wd
open List.cons renaming injEq → CP
open Nat renaming mul_le_mul_right → bT, eq_of_beq_eq_true → cA, beq → aG, le_refl → bm, add_mul → bD, le_trans → dN, zero_add → iZ, beq_refl → iz, lt_of_lt_of_le → mJ, add_zero → kJ, not_lt → kZ, ble → og, add_assoc → CS
open Option renaming getD_some → Ha, map_some → CT
open Option.some renaming injEq → CU
namespace Go.Cat
set_option linter.all false
section
open Go.RowKit
class bU where
 on:Prop
class mP [bU]:Prop where
 off:¬bU.on
abbrev bU.yes:bU:=⟨True⟩
abbrev bU.no:bU:=⟨False⟩
class dC where
 cells:List (Nat×Value)
variable [M:bU] [G:dC]
inductive AV where
 |v (x:Value)
 |s (rows:List (List AV))
 |p (cells:List AV)
 |a (cells:List AV)
 |t (vs:List AV)
 |c (fn:Fn) (first captured:List AV)
 |b (id off:Nat)
 |o (id:Nat)
 |e (id k i j:Nat)
 |w (id k d:Nat)
 |m (id:Nat)
 |z
 |χ
instance:Inhabited AV:=⟨.χ⟩
inductive bh (w:World) (F:Nat→Prop):AV→Value→Prop where
 |v {x:Value} (h:x.oneCell'=true∨x=undef):bh w F (.v x) x
 |s0 {a:Option Addr}:bh w F (.s []) (.slice a 0 0)
 |z {a:Option Addr}:bh w F .z (.slice a 0 0)
 |s {rows:List (List AV)} {b off c k:Nat} {u:Nat→Nat→Value}
   (hb:F b) (hc:rows.length≤c) (hm:c≤maxLen)
   (hk:∀i,i<rows.length→(rows.getD i []).length=k)
   (ek:∀i j,i<rows.length→j<k→w.cell? ⟨b,off+(i*k+j),none⟩=some (u i j))
   (eF:∀i j,i<rows.length→j<k→(u i j).oneCell'=true)
   (eP:∀i j,i<rows.length→j<k→bh w F ((rows.getD i []).getD j .χ) (u i j)) :
   bh w F (.s rows) (.slice (some ⟨b,off,none⟩) rows.length c)
 |p {cells:List AV} {b off:Nat} {u:Nat→Value}
   (hb:F b)
   (ek:∀j,j<cells.length→w.cell? ⟨b,off+j,none⟩=some (u j))
   (eF:∀j,j<cells.length→(u j).oneCell'=true)
   (eP:∀j,j<cells.length→bh w F (cells.getD j .χ) (u j)) :
   bh w F (.p cells) (.pointer (some ⟨b,off,none⟩))
 |a {cells:List AV} {us:Array Value} (hs:us.size=cells.length)
   (eF:∀i,i<cells.length→(us.getD i undef).oneCell'=true)
   (h:∀i,i<cells.length→bh w F (cells.getD i .χ) (us.getD i undef)):bh w F (.a cells) (.agg us)
 |t {cells:List AV} {us:Array Value} (hs:us.size=cells.length)
   (h:∀i,i<cells.length→bh w F (cells.getD i .χ) (us.getD i undef)):bh w F (.t cells) (.tuple us)
 |c {fn:Fn} {fs cs:List AV} {us vs:Array Value} (hs:us.size=fs.length) (dL:vs.size=cs.length)
   (h:∀i,i<fs.length→bh w F (fs.getD i .χ) (us.getD i undef))
   (h':∀i,i<cs.length→bh w F (cs.getD i .χ) (vs.getD i undef)):bh w F (.c fn fs cs) (.func fn us vs)
inductive Rd (w:World) (F:Nat→Prop) (β:Nat→Value):AV→Value→Prop where
 |i {x:AV} {u:Value} (h:bh w F x u):Rd w F β x u
 |χ {u:Value}:Rd w F β .χ u
 |b {id off e9:Nat} (h:β id=.pointer (some ⟨e9,0,none⟩)):Rd w F β (.b id off) (.pointer (some ⟨e9,off,none⟩))
 |o {id n c:Nat} {a:Option Addr} (h:β id=.slice a n c):Rd w F β (.o id) (.slice a n c)
 |e {id k i j g n c:Nat} (h:β id=.slice (some ⟨g,0,none⟩) n c):Rd w F β (.e id k i j) (.pointer (some ⟨g,i*k+j,none⟩))
 |m {id b:Nat} (h:β id=.map (some b)):Rd w F β (.m id) (.map (some b))
 |w {id k d n c:Nat} {a a':Option Addr} (h:β id=.slice a n c) (hd:d≤n) (ha:d<c→a'=a.map (·.add (d*k))):Rd w F β (.w id k d) (.slice a' (n-d) (c-d))
 |a {cells:List AV} {us:Array Value} (hs:us.size=cells.length)
   (eF:∀i,i<cells.length→(us.getD i undef).oneCell'=true)
   (h:∀i,i<cells.length→Rd w F β (cells.getD i .χ) (us.getD i undef)):Rd w F β (.a cells) (.agg us)
 |t {cells:List AV} {us:Array Value} (hs:us.size=cells.length)
   (h:∀i,i<cells.length→Rd w F β (cells.getD i .χ) (us.getD i undef)):Rd w F β (.t cells) (.tuple us)
 |c {fn:Fn} {fs cs:List AV} {us vs:Array Value} (hs:us.size=fs.length) (dL:vs.size=cs.length)
   (h:∀i,i<fs.length→Rd w F β (fs.getD i .χ) (us.getD i undef))
   (h':∀i,i<cs.length→Rd w F β (cs.getD i .χ) (vs.getD i undef)):Rd w F β (.c fn fs cs) (.func fn us vs)
def fy (F:Nat→Prop) (w w':World):Prop:=∀b,F b→w'.heap[b]?=w.heap[b]?
def fy.cell {F:Nat→Prop} {w w':World} (h:fy F w w') {b o:Nat} (hb:F b):w'.cell? ⟨b,o,none⟩=w.cell? ⟨b,o,none⟩ :=
 World.cell?_of_block (w:=w) (h b hb)
def bh.frame {w w':World} {F F':Nat→Prop} (ha:fy F w w') (hF:∀b,F b→F' b) {x:AV} {u:Value} (h:bh w F x u):bh w' F' x u:=by
 induction h with
 |v h=>exact .v h
 |s0=>exact .s0
 |z=>exact .z
 |s hb hc hm hk ek eF eP ih=>exact .s (hF _ hb) hc hm hk (fun i j hi hj=>by rw [ha.cell hb];exact ek i j hi hj) eF ih
 |p hb ek eF eP ih=>exact .p (hF _ hb) (fun j hj=>by rw [ha.cell hb];exact ek j hj) eF ih
 |a hs eF h ih=>exact .a hs eF ih
 |t hs h ih=>exact .t hs ih
 |c hs dL h h' ih A2=>exact .c hs dL ih A2
def Rd.frame {w w':World} {F F':Nat→Prop} {β:Nat→Value} (ha:fy F w w') (hF:∀b,F b→F' b) {x:AV} {u:Value} (h:Rd w F β x u):Rd w' F' β x u:=by
 induction h with
 |i h=>exact .i (h.frame ha hF)
 |χ=>exact .χ
 |b h=>exact .b h
 |o h=>exact .o h
 |e h=>exact .e h
 |w h hd ha=>exact .w h hd ha
 |m h=>exact .m h
 |a hs eF h ih=>exact .a hs eF ih
 |t hs h ih=>exact .t hs ih
 |c hs dL h h' ih A2=>exact .c hs dL ih A2
section
variable {w:World} {F:Nat→Prop} {β:Nat→Value} {u:Value}
def Rd.bA {x:Value} (h:Rd w F β (.v x) u):u=x:=by
 cases h with
 |i h=>cases h;rfl
def Rd.o8 {cells:List AV} (h:Rd w F β (.a cells) u):∃us:Array Value,u=.agg us∧us.size=cells.length∧(∀i,i<cells.length→(us.getD i undef).oneCell'=true) ∧
  ∀i,i<cells.length→Rd w F β (cells.getD i .χ) (us.getD i undef):=by
 cases h with
 |i h=>cases h with|a hs eF h=>exact ⟨_,rfl,hs,eF,fun i hi=>.i (h i hi)⟩
 |a hs eF h=>exact ⟨_,rfl,hs,eF,h⟩
def Rd.ze {cells:List AV} (h:Rd w F β (.t cells) u):∃us:Array Value,u=.tuple us∧us.size=cells.length ∧
  ∀i,i<cells.length→Rd w F β (cells.getD i .χ) (us.getD i undef):=by
 cases h with
 |i h=>cases h with|t hs h=>exact ⟨_,rfl,hs,fun i hi=>.i (h i hi)⟩
 |t hs h=>exact ⟨_,rfl,hs,h⟩
def Rd.lT {fn:Fn} {fs cs:List AV} (h:Rd w F β (.c fn fs cs) u):∃us vs:Array Value,u=.func fn us vs∧us.size=fs.length∧vs.size=cs.length ∧
  (∀i,i<fs.length→Rd w F β (fs.getD i .χ) (us.getD i undef))∧(∀i,i<cs.length→Rd w F β (cs.getD i .χ) (vs.getD i undef)):=by
 cases h with
 |i h=>cases h with|c hs dL h h'=>exact ⟨_,_,rfl,hs,dL,fun i hi=>.i (h i hi),fun i hi=>.i (h' i hi)⟩
 |c hs dL h h'=>exact ⟨_,_,rfl,hs,dL,h,h'⟩
def Rd.np {rows:List (List AV)} (h:Rd w F β (.s rows) u):bh w F (.s rows) u:=by cases h;assumption
def Rd.yx {cells:List AV} (h:Rd w F β (.p cells) u):bh w F (.p cells) u:=by cases h;assumption
def Rd.wV (h:Rd w F β .z u):∃a,u=.slice a 0 0:=by cases h with|i h=>cases h;exact ⟨_,rfl⟩
def Rd.lh {id off:Nat} (h:Rd w F β (.b id off) u):∃e9,β id=.pointer (some ⟨e9,0,none⟩)∧u=.pointer (some ⟨e9,off,none⟩):=by
 cases h with
 |i h=>cases h
 |b h=>exact ⟨_,h,rfl⟩
def Rd.jo {id:Nat} (h:Rd w F β (.o id) u):∃a n c,β id=.slice a n c∧u=.slice a n c:=by
 cases h with
 |i h=>cases h
 |o h=>exact ⟨_,_,_,h,rfl⟩
def Rd.xq {id k i j:Nat} (h:Rd w F β (.e id k i j) u):∃g n c,β id=.slice (some ⟨g,0,none⟩) n c∧u=.pointer (some ⟨g,i*k+j,none⟩):=by
 cases h with
 |i h=>cases h
 |e h=>exact ⟨_,_,_,h,rfl⟩
def Rd.vY {id:Nat} (h:Rd w F β (.m id) u):∃b,β id=.map (some b)∧u=.map (some b):=by
 cases h with
 |i h=>cases h
 |m h=>exact ⟨_,h,rfl⟩
def Rd.ub {id k d:Nat} (h:Rd w F β (.w id k d) u):∃a a' n c,β id=.slice a n c∧d≤n∧(d<c→a'=a.map (·.add (d*k)))∧u=.slice a' (n-d) (c-d):=by
 cases h with
 |i h=>cases h
 |w h hd ha=>exact ⟨_,_,_,_,h,hd,ha,rfl⟩
end
def rM:AV→Bool
 |.v (.agg _)|.v (.tuple _)|.a _|.t _|.χ=>false
 |_=>true
def aa_ {w:World} {F:Nat→Prop} {β:Nat→Value} {x:AV} {u:Value} (hx:rM x=true) (h:Rd w F β x u):u.oneCell'=true:=by
 cases h with
 |i h =>
  cases h with
  |v h =>
   rcases h with h|rfl
   ·exact h
   ·simp [rM,undef] at hx
  |s0=>rfl
  |z=>rfl
  |s=>rfl
  |p=>rfl
  |a=>simp [rM] at hx
  |t=>simp [rM] at hx
  |c=>rfl
 |χ=>simp [rM] at hx
 |b=>rfl
 |o=>rfl
 |e=>rfl
 |w=>rfl
 |m=>rfl
 |a=>simp [rM] at hx
 |t=>simp [rM] at hx
 |c=>rfl
structure RF where
 ps:Array Tmp
 assign:Code
 body:Code
 n:Nat
def LS.st:LS→LoopState
 |.gY=>.ready
 |.HI=>.busy
 |_=>.done
def LS.v_:LS→Option Code
 |.ret=>some .ret
 |.ex i=>some (.exit i)
 |_=>none
inductive Chunk where
 |box (cells:List AV)
 |own (E k:Nat) (rows:List (List AV))
 |mp (ag:Bool) (rows:List (Int×List AV))
 |lp (l:Nat) (e:LS) (R:RF) (L:List (Nat×AV))
 |si (s:ByteArray) (pos:Nat)
abbrev Hp:=List (Nat×Chunk)
def bF:Value→Option Nat
 |.pointer (some a)=>some a.block
 |.slice (some a) _ c=>bif aG c 0 then none else some a.block
 |.map (some b)=>some b
 |_=>none
def pS (ag:Bool) (cells:List AV):AV:=bif ag then .a cells else cells.getD 0 .χ
def Chunk.holds (w:World) (F:Nat→Prop) (β:Nat→Value) (id:Nat):Chunk→Prop
 |.box cells=>∃b c e,β id=.pointer (some ⟨b,0,none⟩)∧w.heap[b]?=some (.cells c e (0,0))∧c.size=cells.length ∧
   (∀i,i<cells.length→(c.getD i undef).oneCell'=true)∧∀i,i<cells.length→Rd w F β (cells.getD i .χ) (c.getD i undef)
 |.own E k rows=>(rows=[]∧∃a,β id=.slice a 0 0)∨∃g cap cur,β id=.slice (some ⟨g,0,none⟩) rows.length cap∧0<cap∧w.heap[g]?=some (.cells cur E (0,0))∧rows.length≤cap∧cap≤maxLen ∧
   cur.size=cap*k∧(∀i,i<rows.length→(rows.getD i []).length=k) ∧
   ∀i j,i<rows.length→j<k→(cur.getD (i*k+j) undef).oneCell'=true∧bh w F ((rows.getD i []).getD j .χ) (cur.getD (i*k+j) undef)
 |.mp ag rows=>∃b es ck,β id=.map (some b)∧w.heap[b]?=some (.map es ck)∧VS es ck∧es.size=rows.length∧es.size≤140737488355328 ∧
   ∀(i:Nat) (r:Int×List AV),rows[i]?=some r→∃e:MapEntry,es[i]?=some e∧e.key=.int .i64 r.1∧Ψ r.1∧bh w F (pS ag r.2) e.val
 |.lp l e R L=>∃fn tmps D,β id=.pointer (some ⟨l,0,none⟩)∧w.heap[l]?=some (.loop { state:=e.st,pending:=e.v_,fn,tmps,params:=R.ps,assign:=R.assign,body:=R.body,defers:=D })∧tmps.size=R.n ∧
   ∀p,p∈L→Rd w F β p.2 (tmps.getD p.1 undef)
 |.si s pos=>∃b,β id=.pointer (some ⟨b,0,none⟩)∧w.heap[b]?=some (.stringIter s pos)
def dC.ok [G:dC] (w:World) (F:Nat→Prop):Prop:=∀b v,(b,v)∈G.cells→F b∧w.cell? ⟨b,0,none⟩=some v
def dC.ok.frame {w w':World} {F F':Nat→Prop} (h:dC.ok w F) (ha:fy F w w') (hF:∀b,F b→F' b):dC.ok w' F':=fun b v hm=>⟨hF b (h b v hm).1,(ha.cell (h b v hm).1).trans (h b v hm).2⟩
def dC.ok.more {w:World} {F F':Nat→Prop} (h:dC.ok w F) (hF:∀b,F b→F' b):dC.ok w F':=h.frame (fun _ _=>rfl) hF
def dC.ok.at {w w':World} {F:Nat→Prop} (h:dC.ok w F) (ha:fy F w w'):dC.ok w' F:=h.frame ha fun _ h=>h
def br (β:Nat→Value) (H:Hp) (b:Nat):Prop:=∃id c,(id,c)∈H∧bF (β id)=some b
structure Inv (w:World) (F:Nat→Prop) (β:Nat→Value) (H:Hp):Prop where
 bW:∀b,F b→b<w.heap.size
 holds:∀id c,(id,c)∈H→c.holds w F β id
 keys:(H.map (·.1)).Nodup
 apart:∀b,br β H b→¬F b
 dR:∀id c A1 c' b,(id,c)∈H→(A1,c')∈H→bF (β id)=some b→bF (β A1)=some b→id=A1
 eN:dC.ok w F
def jM {w:World} {b:Nat} {o:Obj} (h:w.heap[b]?=some o):b<w.heap.size:=(j4.1 h).1
def aas {w:World} {F:Nat→Prop} {β:Nat→Value} {id:Nat} {c:Chunk} (h:c.holds w F β id) {b:Nat} (hb:bF (β id)=some b):b<w.heap.size:=by
 cases c with
 |box cells =>
  obtain ⟨b',c',e,aj,hh,_⟩:=h;rw [aj] at hb;simp [bF] at hb;subst hb;exact jM hh
 |mp ag rows =>
  obtain ⟨b',es,ck,aj,hh,_⟩:=h;rw [aj] at hb;simp [bF] at hb;subst hb;exact jM hh
 |lp l e R L =>
  obtain ⟨fn,tmps,D,aj,hh,_⟩:=h;rw [aj] at hb;simp [bF] at hb;subst hb;exact jM hh
 |si s pos =>
  obtain ⟨b',aj,hh⟩:=h;rw [aj] at hb;simp [bF] at hb;subst hb;exact jM hh
 |own E k rows =>
  rcases h with ⟨_,a,hv⟩|⟨g,cap,cur,hv,hc,hg,_⟩
  ·rw [hv] at hb;cases a<;>simp [bF] at hb
  ·have h0:aG cap 0=false:=by cases cap<;>first|rfl|omega
   rw [hv] at hb;simp [bF,h0] at hb;subst hb;exact jM hg
def Inv.fj {w:World} {F:Nat→Prop} {β:Nat→Value} {H:Hp} (h:Inv w F β H) {b:Nat} (hb:br β H b):b<w.heap.size:=by
 obtain ⟨id,c,hm,hk⟩:=hb;exact aas (h.holds id c hm) hk
structure ai where
 f:Nat→AV
 H:Hp
def aM:Nat→AV:=fun _=>.χ
def iP [bU] (w w':World):Prop:=w'.tape=w.tape∧(bU.on→w.drawn≤w'.drawn)
def iP.refl (w:World):iP w w:=⟨rfl,fun _=>bm _⟩
def iP.trans {w w' pT:World} (h:iP w w') (h':iP w' pT):iP w pT:=⟨h'.1.trans h.1,fun m=>dN (h.2 m) (h'.2 m)⟩
structure Below (B:Nat) (w w':World):Prop where
 os:w'.os=w.os
 tape:iP w w'
 output:w'.output=w.output
 size:w.heap.size≤w'.heap.size
 block:∀k,k<B→w'.heap[k]?=w.heap[k]?
def Below.old {B:Nat} {w w':World} (h:Below B w w'):Go.RowKit.Below B w w':=⟨h.os,h.tape.1,h.output,h.size,h.block⟩
def Below.refl (B:Nat) (w:World):Below B w w:=⟨rfl,iP.refl _,rfl,bm _,fun _ _=>rfl⟩
def Below.trans {B:Nat} {a b c:World} (h:Below B a b) (k:Below B b c):Below B a c :=
 ⟨k.os.trans h.os,h.tape.trans k.tape,k.output.trans h.output,dN h.size k.size,fun i hi=>(k.block i hi).trans (h.block i hi)⟩
def Below.drew {B:Nat} {a w:World} (h:Below B a w):Below B a w.drew:=⟨h.os,⟨h.tape.1,fun m=>Nat.le_succ_of_le (h.tape.2 m)⟩,h.output,h.size,h.block⟩
def Below.alloc {B:Nat} {a w:World} (h:Below B a w) (hB:B≤w.heap.size) (o:Obj):Below B a (w.alloc o) :=
 ⟨h.os,h.tape,h.output,(h.old.alloc hB o).size,(h.old.alloc hB o).block⟩
structure Ext (w:World) (F:Nat→Prop) (β:Nat→Value) (st:ai) (w':World) (F':Nat→Prop) (aw:Nat→Value) (av:ai):Prop where
 os:w'.os=w.os
 tape:iP w w'
 output:w'.output=w.output
 size:w.heap.size≤w'.heap.size
 block:∀b,b<w.heap.size→¬br β st.H b→w'.heap[b]?=w.heap[b]?
 mono:∀b,F b→F' b
 new:∀b,F' b→F b∨w.heap.size≤b∨br β st.H b
 owned:∀b,br aw av.H b→w.heap.size≤b∨br β st.H b
 keep:∀t u,Rd w F β (st.f t) u→Rd w' F' aw (av.f t) u
 inv:Inv w' F' aw av.H
 fH:∀i,1000≤i→aw i=β i
def Ext.refl {w:World} {F:Nat→Prop} {β:Nat→Value} {st:ai} (h:Inv w F β st.H):Ext w F β st w F β st :=
 ⟨rfl,iP.refl _,rfl,bm _,fun _ _ _=>rfl,fun _ h=>h,fun _ h=>.inl h,fun _ h=>.inr h,fun _ _ h=>h,h,fun _ _=>rfl⟩
def Ext.trans {w:World} {F:Nat→Prop} {β:Nat→Value} {st:ai} {w':World} {F':Nat→Prop} {aw:Nat→Value} {av:ai} {pT:World} {OR:Nat→Prop} {VI:Nat→Value} {gk:ai}
  (h:Ext w F β st w' F' aw av) (h':Ext w' F' aw av pT OR VI gk):Ext w F β st pT OR VI gk where
 os:=h'.os.trans h.os
 tape:=h.tape.trans h'.tape
 output:=h'.output.trans h.output
 size:=dN h.size h'.size
 block b hb hn:=by
  have h1:¬br aw av.H b:=fun ho=>(h.owned b ho).elim (fun eC=>absurd hb (kZ.2 eC)) hn;rw [h'.block b (mJ hb h.size) h1,h.block b hb hn]
 mono b hb:=h'.mono b (h.mono b hb)
 new b hb:=by
  rcases h'.new b hb with h1|h1|h1
  ·exact h.new b h1
  ·exact .inr (.inl (dN h.size h1))
  ·exact (h.owned b h1).elim (fun x=>.inr (.inl x)) (fun x=>.inr (.inr x))
 owned b hb:=by
  rcases h'.owned b hb with h1|h1
  ·exact .inl (dN h.size h1)
  ·exact h.owned b h1
 keep t u hu:=h'.keep t u (h.keep t u hu)
 inv:=h'.inv
 fH i hi:=(h'.fH i hi).trans (h.fH i hi)
end
section
open Go.RowKit
variable [M:bU] [G:dC]
inductive TK where
 |bool|int (k:IntKind)|str|struct (fs:List (Nat×Nat))|slice (e:Nat)|arr (n e:Nat)|map (k e:Nat)|iface|other
structure TI where
 kind:TK
 cells:Nat
 bytes:Nat
 zero:Value
def qa:TypeDesc→TK
 |.bool=>.bool
 |.int k=>.int k
 |.string=>.str
 |.struct fs=>.struct (fs.toList.map fun f=>(f.offset,f.type))
 |.slice e=>.slice e
 |.array n e=>.arr n e
 |.map k e=>.map k e
 |.interface _=>.iface
 |_=>.other
abbrev TT:=Nat→Option TI
def fN (P:Program) (t:Nat) (i:TI):Prop :=
 (P.info? t).map (fun j=>(j.zero,j.size,j.bytes))=some (some i.zero,i.cells,i.bytes)∧(P.underlying t).map qa=some i.kind
def bB (P:Program) (T:TT):Prop:=∀t i,T t=some i→fN P t i
def lk:List (Nat×TI)→TT
 |[],_=>none
 |(t,i)::r,x=>bif aG x t then some i else lk r x
def OO (P:Program):List (Nat×TI)→Prop
 |[]=>True
 |(t,i)::r=>fN P t i∧OO P r
def bB.abX {P:Program} {l:List (Nat×TI)} (h:OO P l):bB P (lk l):=by
 induction l with
 |nil=>intro t i h';cases h'
 |cons x r ih =>
  obtain ⟨t,i⟩:=x;intro t' i' h';simp only [lk] at h';cases hb:aG t' t with
  |true =>
   rw [hb] at h';have:=cA hb;subst this;cases h';exact h.1
  |false =>
   rw [hb] at h';exact ih h.2 t' i' h'
section
variable {P:Program} {t:Nat} {i:TI}
def fN.info (h:fN P t i):∃j,P.info? t=some j∧j.zero=some i.zero∧j.size=i.cells∧j.bytes=i.bytes:=by
 obtain ⟨h,_⟩:=h;cases hj:P.info? t with
 |none=>simp [hj] at h
 |some j=>simp [hj] at h;exact ⟨j,rfl,h.1,h.2.1,h.2.2⟩
def fN.mr (h:fN P t i):∃d,P.underlying t=some d∧qa d=i.kind:=by
 obtain ⟨_,h⟩:=h;cases hj:P.underlying t with
 |none=>simp [hj] at h
 |some j=>simp [hj] at h;exact ⟨j,rfl,h⟩
def fN.slice {e:Nat} (h:fN P t i) (hk:i.kind=.slice e):P.underlying t=some (.slice e):=by
 obtain ⟨d,hd,cd⟩:=h.mr;rw [hk] at cd;cases d<;>simp [qa] at cd;subst cd;exact hd
def fN.arr {n e:Nat} (h:fN P t i) (hk:i.kind=.arr n e):P.underlying t=some (.array n e):=by
 obtain ⟨d,hd,cd⟩:=h.mr;rw [hk] at cd;cases d<;>simp [qa] at cd;obtain ⟨rfl,rfl⟩:=cd;exact hd
def fN.int {k:IntKind} (h:fN P t i) (hk:i.kind=.int k):P.underlying t=some (.int k):=by
 obtain ⟨d,hd,cd⟩:=h.mr;rw [hk] at cd;cases d<;>simp [qa] at cd;subst cd;exact hd
def fN.map {kt e:Nat} (h:fN P t i) (hk:i.kind=.map kt e):P.underlying t=some (.map kt e):=by
 obtain ⟨d,hd,cd⟩:=h.mr;rw [hk] at cd;cases d<;>simp [qa] at cd;obtain ⟨rfl,rfl⟩:=cd;exact hd
def fN.str (h:fN P t i) (hk:i.kind=.str):P.underlying t=some .string:=by
 obtain ⟨d,hd,cd⟩:=h.mr;rw [hk] at cd;cases d<;>simp [qa] at cd;exact hd
def fN.struct {fs:List (Nat×Nat)} (h:fN P t i) (hk:i.kind=.struct fs):∃fields,P.underlying t=some (.struct fields)∧fields.toList.map (fun f=>(f.offset,f.type))=fs:=by
 obtain ⟨d,hd,cd⟩:=h.mr;rw [hk] at cd;cases d<;>simp [qa] at cd;exact ⟨_,hd,cd⟩
def fN.j0 (h:fN P t i) (w:World):(sizeOf t).run P w=.ok i.cells w:=by
 obtain ⟨j,hj,_,hs,_⟩:=h.info;simp [sizeOf,typeInfo,hj,hs]
def fN.qL (h:fN P t i) (w:World):(zeroValue t).run P w=.ok i.zero w:=by
 obtain ⟨j,hj,hz,_⟩:=h.info;simp [zeroValue,typeInfo,hj,hz]
end
def oo:TK→Bool
 |.struct _|.arr _ _=>true
 |_=>false
def fN.FZ {P:Program} {t:Nat} {i:TI} (h:fN P t i) (w:World):(isAgg t).run P w=.ok (oo i.kind) w:=by
 obtain ⟨d,hd,hk⟩:=h.mr;simp only [isAgg,jK,run_underlying hd,k_];cases d<;>simp [qa] at hk<;>rw [←hk]<;>rfl
def bQ:Value→AV
 |.agg cs=>bif cs.toList.all (·.oneCell') then .a (cs.toList.map .v) else .χ
 |.tuple _=>.χ
 |x=>.v x
def ml (w:World) (F:Nat→Prop) (x:Value) (β:Nat→Value):Rd w F β (bQ x) x:=by
 unfold bQ;split
 ·rename_i cs;cases hc:cs.toList.all (·.oneCell') with
  |false=>exact .χ
  |true =>
   refine .i (.a (by simp) (fun i hi=>?_) fun i hi=>?_)
   ·simp at hi;have:=(dJ.1 hc) cs[i] (by simp);simpa [ug,hi] using this
   ·simp at hi;have:=(dJ.1 hc) cs[i] (by simp);simp [ug,hi];exact .v (.inl this)
 ·exact .χ
 ·rename_i h1 h2;refine .i (.v (.inl ?_))
  cases x<;>first|rfl|exact absurd rfl (h1 _)|exact absurd rfl (h2 _)
def ev (f:Nat→AV):Operand→AV
 |.tmp t=>f t
 |.const v=>bQ v
 |.global _=>.χ
 |.func g=>.c (.func g) [] []
def xx {w:World} {F:Nat→Prop} {β:Nat→Value} {f:Nat→AV} {a:Act} (h:∀t,Rd w F β (f t) (a.tmps.getD t undef)) (x:Operand):Rd w F β (ev f x) (a.eval x):=by
 cases x with
 |tmp t=>exact h t
 |const v=>exact ml _ _ _ _
 |global g=>exact .χ
 |func g=>exact .i (.c rfl rfl (fun i hi=>absurd hi (by simp)) (fun i hi=>absurd hi (by simp)))
def Ψ.wrap {n:Int} (h:Ψ n):IntKind.i64.wrap n=n:=uk _ h
def HD (op:BinOp) (kx ky:IntKind) (a b:Int) (k:Value→Prop):Prop :=
 match op with
 |.shl=>0≤b∧∃r,kx.wrap (a*2 ^ (min b.toNat kx.bits))=r∧k (.int kx r)
 |.shr=>0≤b∧∃r,a.fdiv (2 ^ (min b.toNat kx.bits))=r∧k (.int kx r)
 |op=>bif kx==ky then
  match op with
  |.add=>match kx with
   |.i64=>(Ψ (a+b)∧k (.int .i64 (a+b)))∨∃r,IntKind.i64.wrap (a+b)=r∧k (.int .i64 r)
   |_=>∃r,kx.wrap (a+b)=r∧k (.int kx r)
  |.sub=>match kx with
   |.i64=>(Ψ (a-b)∧k (.int .i64 (a-b)))∨∃r,IntKind.i64.wrap (a-b)=r∧k (.int .i64 r)
   |_=>∃r,kx.wrap (a-b)=r∧k (.int kx r)
  |.mul=>match kx with
   |.i64=>(Ψ (a*b)∧k (.int .i64 (a*b)))∨∃r,IntKind.i64.wrap (a*b)=r∧k (.int .i64 r)
   |_=>∃r,kx.wrap (a*b)=r∧k (.int kx r)
  |.quo=>b≠0∧∃r,kx.wrap (a.tdiv b)=r∧k (.int kx r)
  |.rem=>b≠0∧∃r,a.tmod b=r∧k (.int kx r)
  |.and=>∃r,kx.wrap (iW kx.bits a &&& iW kx.bits b).toNat=r∧k (.int kx r)
  |.or=>∃r,kx.wrap (iW kx.bits a ||| iW kx.bits b).toNat=r∧k (.int kx r)
  |.xor=>∃r,kx.wrap (iW kx.bits a ^^^ iW kx.bits b).toNat=r∧k (.int kx r)
  |.andNot=>∃r,kx.wrap (iW kx.bits a &&& ~~~iW kx.bits b).toNat=r∧k (.int kx r)
  |.eql=>k (.bool (a==b))
  |.neq=>k (.bool (a != b))
  |.lss=>k (.bool (decide (a<b)))
  |.leq=>k (.bool (decide (a≤b)))
  |.gtr=>k (.bool (decide (a>b)))
  |.geq=>k (.bool (decide (a≥b)))
  |_=>False
 else False
def cond_prop {c:Bool} {p:Prop} (h:bif c then p else False):c=true∧p:=by
 cases c with
 |true=>exact ⟨rfl,h⟩
 |false=>cases h
def O7 {a b:IntKind} (h:(a==b)=true):a=b:=by
 cases a<;>cases b<;>first|rfl|exact absurd h (by decide)
def WK {P:Program} {op:BinOp} {kx ky:IntKind} {a b:Int} {k:Value→Prop} (h:HD op kx ky a b k) (t:TypeId) (w:World) :
  ∃v,(binOp op t (.int kx a) (.int ky b)).run P w=.ok v w∧v.oneCell'=true∧k v:=by
 cases op
 case shl =>
  obtain ⟨h0,r,rfl,hk⟩:=h;exact ⟨_,by simp [binOp,Op.shift,Int.not_lt.2 h0],rfl,hk⟩
 case shr =>
  obtain ⟨h0,r,rfl,hk⟩:=h;exact ⟨_,by simp [binOp,Op.shift,Int.not_lt.2 h0],rfl,hk⟩
 all_goals
  simp only [HD] at h;obtain ⟨hc,h1⟩:=cond_prop h;clear h;obtain rfl:=O7 hc;clear hc
 case add =>
  cases kx<;>first|(obtain ⟨r,rfl,hk⟩:=h1;exact ⟨_,by simp [binOp,qW],rfl,hk⟩)|(rcases h1 with ⟨h1,hk⟩|⟨r,rfl,hk⟩;exact ⟨_,by simp [binOp,qW,h1.wrap],rfl,hk⟩;exact ⟨_,by simp [binOp,qW],rfl,hk⟩)
 case sub =>
  cases kx<;>first|(obtain ⟨r,rfl,hk⟩:=h1;exact ⟨_,by simp [binOp,qW],rfl,hk⟩)|(rcases h1 with ⟨h1,hk⟩|⟨r,rfl,hk⟩;exact ⟨_,by simp [binOp,qW,h1.wrap],rfl,hk⟩;exact ⟨_,by simp [binOp,qW],rfl,hk⟩)
 case mul =>
  cases kx<;>first|(obtain ⟨r,rfl,hk⟩:=h1;exact ⟨_,by simp [binOp,qW],rfl,hk⟩)|(rcases h1 with ⟨h1,hk⟩|⟨r,rfl,hk⟩;exact ⟨_,by simp [binOp,qW,h1.wrap],rfl,hk⟩;exact ⟨_,by simp [binOp,qW],rfl,hk⟩)
 case quo =>
  obtain ⟨h0,r,rfl,hk⟩:=h1;exact ⟨_,by simp [binOp,Op.intDiv,h0],rfl,hk⟩
 case rem =>
  obtain ⟨h0,r,rfl,hk⟩:=h1;exact ⟨_,by simp [binOp,Op.intDiv,h0],rfl,hk⟩
 case and =>
  obtain ⟨r,rfl,hk⟩:=h1;exact ⟨_,by simp [binOp,G'],rfl,hk⟩
 case or =>
  obtain ⟨r,rfl,hk⟩:=h1;exact ⟨_,by simp [binOp,G'],rfl,hk⟩
 case xor =>
  obtain ⟨r,rfl,hk⟩:=h1;exact ⟨_,by simp [binOp,G'],rfl,hk⟩
 case andNot =>
  obtain ⟨r,rfl,hk⟩:=h1;exact ⟨_,by simp [binOp,G'],rfl,hk⟩
 all_goals exact ⟨_,by simp [binOp,Op.intCmp],rfl,h1⟩
inductive mM where
 |int (k:IntKind)|bool|str
inductive CK where
 |one (k:mM)|st (l:List mM)
def sE:CK→List mM
 |.one k=>[k]
 |.st l=>l
def ke (P:Program) (t:TypeId) (k:mM):Bool :=
 match P.underlying t,k with
 |some (.int q),.int k=>q==k
 |some .bool,.bool=>true
 |some .string,.str=>true
 |_,_=>false
def uM (P:Program):Nat→List Field→List mM→Bool
 |_,[],[]=>true
 | o, f :: fs, k :: ks => f.name != "_" && (aG f.offset o && (ke P f.type k && uM P (o + 1) fs ks))
 |_,_,_=>false
def Dg (P:Program) (t:TypeId):CK→Bool
 |.one k=>ke P t k
 |.st l=>(match P.underlying t with|some (.struct _)=>true|_=>false)&&(!P.stoodInHeld t&&((match P.info? t with|some i=>aG i.size l.length|none=>false)&&uM P 0 (P.fieldsOf t).toList l))
def xv (P:Program):Nat→List Field→List CK→Bool
 |_,[],[]=>true
 | o, f :: fs, k :: ks => f.name != "_" && (aG f.offset o && (Dg P f.type k && xv P (o + (sE k).length) fs ks))
 |_,_,_=>false
def Ig (P:Program) (t:TypeId) (ks:List CK):Bool :=
 match P.underlying t with
 |some (.array n e)=>aG ks.length n&&((match P.info? e with|some i=>aG i.size 1|none=>false)&&ks.all fun k=>match k with|.one c=>ke P e c|.st _=>false)
 |_=>false
def PR (P:Program) (t:TypeId) (ks:List CK):Bool :=
 !P.eqGuardType P.depth t&&(((match P.underlying t with|some (.struct _)=>true|_=>false)&&(!P.stoodInHeld t&&xv P 0 (P.fieldsOf t).toList ks))||Ig P t ks)
def iC:List mM→List AV→List AV→Bool
 |[],[],[]=>true
 |.int k::ks,.v (.int k1 _)::r,.v (.int k2 _)::r'=>k1==k&&(k2==k&&iC ks r r')
 |.bool::ks,.v (.bool _)::r,.v (.bool _)::r'=>iC ks r r'
 |.str::ks,.v (.string _)::r,.v (.string _)::r'=>iC ks r r'
 |_,_,_=>false
def qi:List CK→List AV→List AV→Bool
 |[],[],[]=>true
 |k::ks,xs,ys=>iC (sE k) (xs.take (sE k).length) (ys.take (sE k).length)&&qi ks (xs.drop (sE k).length) (ys.drop (sE k).length)
 |_,_,_=>false
def dX:List AV→List AV→Bool
 |.v (.int _ a)::r,.v (.int _ b)::r'=>a==b&&dX r r'
 |.v (.bool a)::r,.v (.bool b)::r'=>a==b&&dX r r'
 |.v (.string a)::r,.v (.string b)::r'=>a.data.toList==b.data.toList&&dX r r'
 |_,_=>true
def xh {a b:IntKind} (h:(a==b)=true):a=b:=by
 cases a<;>cases b<;>first|rfl|exact absurd h (by decide)
def qK {P:Program} {w:World} {t:TypeId} {k:mM} {us:Array Value} {o:Nat} {v:Value} (hk:ke P t k=true) (h:us[o]?=some v):(part t us o).run P w=.ok v w:=by
 unfold ke at hk;split at hk;iterate 3 (rename_i hu;simp [part,isAgg,run_underlying hu,h])
 ·cases hk
def LR {P:Program} {w:World} {us vs:Array Value} {d:Nat}:∀(fs:List Field) (ks:List mM) (xs ys:List AV) (o:Nat),uM P o fs ks=true→iC ks xs ys=true →
  (∀i x,xs[i]?=some (.v x)→us[o+i]?=some x)→(∀i x,ys[i]?=some (.v x)→vs[o+i]?=some x)→(uu (d+1) us vs fs).run P w=.ok (dX xs ys) w
 |[],[],[],[],_,_,_,_,_=>by simp [uu,dX]
 |f::fs,k::ks,xs,ys,o,hf,hk,hx,hy=>by
  simp only [uM,bM,bne_iff_ne] at hf;obtain ⟨D4,s7,eo,mc⟩:=hf;have s7:f.offset=o:=cA s7
  have hu:∃td,P.underlying f.type=some td:=by
   unfold ke at eo;cases h:P.underlying f.type with
   |none=>rw [h] at eo;cases eo
   |some td=>exact ⟨td,rfl⟩
  have go:∀{x y:Value} {r r':List AV} {b:Bool},xs=.v x::r→ys=.v y::r'→iC ks r r'=true→(se (d+1) f.type x y).run P w=.ok b w→dX xs ys=(b&&dX r r')→(uu (d+1) us vs (f::fs)).run P w=.ok (dX xs ys) w:=by
   intro x y r r' b ex ey iF he hb;subst ex;subst ey;have h1:=qK (w:=w) eo (hx 0 x rfl);have h2:=qK (w:=w) eo (hy 0 y rfl);rw [kJ] at h1 h2;have ih:=LR (P:=P) (w:=w) (us:=us) (vs:=vs) (d:=d) fs ks r r' (o+1) mc iF (fun i x h=>by have:=hx (i+1) x (by simpa using h);rwa [show o+1+i=o+(i+1) by omega]) (fun i x h=>by have:=hy (i+1) x (by simpa using h);rwa [show o+1+i=o+(i+1) by omega]);rw [hb];simp only [uu,if_pos D4,jK,s7,h1,h2,he,k_,Sem.run_ite];cases b
   ·simp
   ·simp [ih]
  unfold iC at hk;split at hk
  ·rename_i e;cases e
  ·rename_i e;cases e;simp only [bM] at hk;have HY:=xh hk.1;have HZ:=xh hk.2.1;subst HY;subst HZ;unfold ke at eo;split at eo
   ·rename_i im e;cases e;exact go rfl rfl hk.2.2 (run_equalIn_int w d f.type _ _ _ _ im) rfl
   iterate 2 (rename_i e;cases e)
   ·cases eo
  ·rename_i e;cases e;unfold ke at eo;split at eo
   ·rename_i e;cases e
   ·rename_i im e;exact go rfl rfl hk (run_equalIn_bool' w d f.type _ _ im) rfl
   ·rename_i e;cases e
   ·cases eo
  ·rename_i e;cases e;unfold ke at eo;split at eo;iterate 2 (rename_i e;cases e)
   ·rename_i im e;exact go rfl rfl hk (run_equalIn_string w d f.type _ _ im) (by rw [zx,zx];rfl)
   ·cases eo
  ·cases hk
 |[],_::_,_,_,_,h,_,_,_=>by simp [uM] at h
 |_::_,[],_,_,_,h,_,_,_=>by simp [uM] at h
 |[],[],_::_,_,_,_,h,_,_=>by simp [iC] at h
 |[],[],[],_::_,_,_,h,_,_=>by simp [iC] at h
def z7:∀{l:List mM} {a b:List AV},iC l a b=true→a.length=l.length∧b.length=l.length:=by
 intro l;induction l with
 |nil =>
  intro a b h;unfold iC at h;split at h<;>simp_all
 |cons k ks ih =>
  intro a b h;unfold iC at h;split at h
  ·rename_i e;cases e
  ·rename_i e;cases e;simp only [bM] at h;have:=ih h.2.2;simp [this.1,this.2]
  ·rename_i e;cases e;have:=ih h;simp [this.1,this.2]
  ·rename_i e;cases e;have:=ih h;simp [this.1,this.2]
  ·cases h
def Yq:∀{l:List mM} {a b:List AV} (r r':List AV),iC l a b=true→dX (a++r) (b++r')=(dX a b&&dX r r'):=by
 intro l;induction l with
 |nil =>
  intro a b r r' h;unfold iC at h;split at h<;>simp_all [dX]
 |cons k ks ih =>
  intro a b r r' h;unfold iC at h;split at h
  ·rename_i e;cases e
  ·rename_i e;cases e;simp only [bM] at h;simp only [wZ,dX,ih r r' h.2.2,NZ]
  ·rename_i e;cases e;simp only [wZ,dX,ih r r' h,NZ]
  ·rename_i e;cases e;simp only [wZ,dX,ih r r' h,NZ]
  ·cases h
def Uh {P:Program} {w:World} {t:TypeId} {l:List mM} {us:Array Value} {o:Nat} (hk:Dg P t (.st l)=true):(part t us o).run P w=.ok (.agg (us.extract o (o+l.length))) w:=by
 simp only [Dg,bM] at hk;obtain ⟨h1,_,h3,_⟩:=hk;cases hi:P.info? t with
 |none=>rw [hi] at h3;cases h3
 |some i =>
  rw [hi] at h3;have hs:i.size=l.length:=cA h3;cases hu:P.underlying t with
  |none=>rw [hu] at h1;cases h1
  |some d =>
   rw [hu] at h1
   cases d<;>first|(cases h1;done)|skip
   simp [part,isAgg,run_underlying hu,sizeOf,typeInfo,hi,hs]
def Ug {P:Program} {w:World} {us vs:Array Value} {d:Nat}:∀(fs:List Field) (ks:List CK) (xs ys:List AV) (o:Nat),xv P o fs ks=true→qi ks xs ys=true →
  (∀i x,xs[i]?=some (.v x)→us[o+i]?=some x)→(∀i x,ys[i]?=some (.v x)→vs[o+i]?=some x)→(uu (d+2) us vs fs).run P w=.ok (dX xs ys) w
 |[],[],[],[],_,_,_,_,_=>by simp [uu,dX]
 |[],_::_,_,_,_,h,_,_,_=>by simp [xv] at h
 |_::_,[],_,_,_,h,_,_,_=>by simp [xv] at h
 |[],[],_::_,_,_,_,h,_,_=>by simp [qi] at h
 |[],[],[],_::_,_,_,h,_,_=>by simp [qi] at h
 |f::fs,k::ks,xs,ys,o,hf,hk,hx,hy=>by
  simp only [xv,bM,bne_iff_ne] at hf;obtain ⟨D4,s7,eo,mc⟩:=hf;have s7:f.offset=o:=cA s7;simp only [qi,bM] at hk;obtain ⟨fh,gg⟩:=hk;obtain ⟨m,hm⟩:∃m,m=(sE k).length:=⟨_,rfl⟩;rw [←hm] at fh gg mc;have hlen:=z7 fh;rw [←hm] at hlen
  have Ds:dX xs ys=(dX (xs.take m) (ys.take m)&&dX (xs.drop m) (ys.drop m)):=by
   have:=Yq (xs.drop m) (ys.drop m) fh;rwa [p5,p5] at this
  have ih:=Ug (P:=P) (w:=w) (us:=us) (vs:=vs) (d:=d) fs ks (xs.drop m) (ys.drop m) (o+m) mc gg
   (fun i x h=>by rw [gJ] at h;have:=hx (m+i) x h;rwa [show o+m+i=o+(m+i) by omega])
   (fun i x h=>by rw [gJ] at h;have:=hy (m+i) x h;rwa [show o+m+i=o+(m+i) by omega])
  have gI:∀i x,(xs.take m)[i]?=some (.v x)→us[o+i]?=some x:=fun i x h=>by
   have hi:=(fX.1 h).1;rw [V7 (by rw [hlen.1] at hi;exact hi)] at h;exact hx i x h
  have qD:∀i x,(ys.take m)[i]?=some (.v x)→vs[o+i]?=some x:=fun i x h=>by
   have hi:=(fX.1 h).1;rw [V7 (by rw [hlen.2] at hi;exact hi)] at h;exact hy i x h
  generalize xs.take m=a at fh Ds gI hlen;generalize ys.take m=b at fh Ds qD hlen;rw [Ds];clear Ds
  have key:∃x y,(part f.type us o).run P w=.ok x w∧(part f.type vs o).run P w=.ok y w∧(se (d+2) f.type x y).run P w=.ok (dX a b) w:=by
   cases k with
   |one k =>
    have lB:ke P f.type k=true:=eo;have eF:(uu (d+2) us vs [f]).run P w=.ok (dX a b) w :=
     LR (P:=P) (w:=w) (us:=us) (vs:=vs) (d:=d+1) [f] [k] a b o (by simp [uM,D4,s7,lB]) fh gI qD
    unfold iC at fh;simp only [sE] at fh;split at fh
    ·rename_i e;cases e
    ·rename_i e;cases e;have h1:=qK (w:=w) lB (gI 0 _ rfl);have h2:=qK (w:=w) lB (qD 0 _ rfl);rw [kJ] at h1 h2;simp only [bM] at fh;have HY:=xh fh.1;have HZ:=xh fh.2.1;subst HY;subst HZ;have nP:=z7 fh.2.2;have ha:=p0.1 nP.1;have hb:=p0.1 nP.2;subst ha;subst hb;refine ⟨_,_,h1,h2,?_⟩;unfold ke at lB;split at lB
     ·rename_i im e;cases e;rw [run_equalIn_int w (d+1) f.type _ _ _ _ im];simp [dX]
     iterate 2 (rename_i e;cases e)
     ·cases lB
    ·rename_i e;cases e;have h1:=qK (w:=w) lB (gI 0 _ rfl);have h2:=qK (w:=w) lB (qD 0 _ rfl);rw [kJ] at h1 h2;have nP:=z7 fh;have ha:=p0.1 nP.1;have hb:=p0.1 nP.2;subst ha;subst hb;refine ⟨_,_,h1,h2,?_⟩;unfold ke at lB;split at lB
     ·rename_i e;cases e
     ·rename_i im e;rw [run_equalIn_bool' w (d+1) f.type _ _ im];simp [dX]
     ·rename_i e;cases e
     ·cases lB
    ·rename_i e;cases e;have h1:=qK (w:=w) lB (gI 0 _ rfl);have h2:=qK (w:=w) lB (qD 0 _ rfl);rw [kJ] at h1 h2;have nP:=z7 fh;have ha:=p0.1 nP.1;have hb:=p0.1 nP.2;subst ha;subst hb;refine ⟨_,_,h1,h2,?_⟩;unfold ke at lB;split at lB;iterate 2 (rename_i e;cases e)
     ·rename_i im e;rw [run_equalIn_string w (d+1) f.type _ _ im,zx,zx];simp [dX]
     ·cases lB
    ·cases fh
   |st l =>
    have jx:m=l.length:=hm;refine ⟨_,_,Uh eo,Uh eo,?_⟩;simp only [Dg,bM,my] at eo;obtain ⟨h1,h2,_,h4⟩:=eo
    have vI:P.underlying f.type=some (.struct (P.fieldsOf f.type)):=by
     unfold Wh;cases hd:P.underlying f.type with
     |none=>rw [hd] at h1;cases h1
     |some dd =>
      rw [hd] at h1
      cases dd<;>first|rfl|cases h1
    rw [run_equalIn_struct w (d+1) f.type _ _ vI h2];refine LR (P:=P) (w:=w) (d:=d) _ l a b 0 h4 fh (fun i x h=>?_) fun i x h=>?_
    ·have hi:=(fX.1 h).1;rw [iZ,VL];have hu:=gI i x h;have Ξ:o+i<us.size:=(j4.1 hu).1;rw [if_pos (by omega)];exact hu
    ·have hi:=(fX.1 h).1;rw [iZ,VL];have hu:=qD i x h;have Ξ:o+i<vs.size:=(j4.1 hu).1;rw [if_pos (by omega)];exact hu
  obtain ⟨x,y,p1,p2,p3⟩:=key;simp only [uu,if_pos D4,jK,s7,p1,p2,p3,k_,Sem.run_ite];cases dX a b
  ·simp
  ·simp [ih]
def ac3 {P:Program} {w:World} {e:TypeId} {c:mM} {x y:Value} {d:Nat} (hc:ke P e c=true) (hf:iC [c] [.v x] [.v y]=true):(se (d+1) e x y).run P w=.ok (dX [.v x] [.v y]) w:=by
 unfold iC at hf;split at hf
 ·rename_i h;cases h
 ·rename_i h1 h2 h3;cases h1;cases h2;cases h3;simp only [bM] at hf;have e2:=xh hf.1;have e3:=xh hf.2.1;subst e2;subst e3;unfold ke at hc;split at hc
  ·rename_i hu h;cases h;rw [run_equalIn_int w d e _ _ _ _ hu];simp [dX]
  iterate 2 (rename_i h;cases h)
  ·cases hc
 ·rename_i h1 h2 h3;cases h1;cases h2;cases h3;unfold ke at hc;split at hc
  ·rename_i h;cases h
  ·rename_i hu h;rw [run_equalIn_bool' w d e _ _ hu];simp [dX]
  ·rename_i h;cases h
  ·cases hc
 ·rename_i h1 h2 h3;cases h1;cases h2;cases h3;unfold ke at hc;split at hc;iterate 2 (rename_i h;cases h)
  ·rename_i hu h;rw [run_equalIn_string w d e _ _ hu,zx,zx];simp [dX]
  ·cases hc
 ·cases hf
def Yr {x y:Value} {r r':List AV} {c:mM} (h:iC [c] [.v x] [.v y]=true):dX (.v x::r) (.v y::r')=(dX [.v x] [.v y]&&dX r r'):=by
 unfold iC at h;split at h<;>simp_all [dX]
def YE {c:mM} {a b:List AV} (h:iC [c] a b=true):∃x y,a=[.v x]∧b=[.v y]:=by
 have hl:=z7 h
 rcases a with _|⟨x,_|⟨x',a⟩⟩<;>rcases b with _|⟨y,_|⟨y',b⟩⟩<;>simp at hl
 unfold iC at h;split at h<;>simp_all
def ac2 {P:Program} {w:World} {us vs:Array Value} {e:TypeId} {d:Nat}:∀(ks:List CK) (xs ys:List AV) (o:Nat),(ks.all fun k=>match k with|.one c=>ke P e c|.st _=>false)=true→qi ks xs ys=true →
  (∀i x,xs[i]?=some (.v x)→us[o+i]?=some x)→(∀i x,ys[i]?=some (.v x)→vs[o+i]?=some x)→(ahh (d+1) e 1 us vs (List.range' o ks.length)).run P w=.ok (dX xs ys) w:=by
 intro ks;induction ks with
 |nil =>
  intro xs ys o _ hf _ _
  rcases xs with _|⟨x,xs⟩<;>rcases ys with _|⟨y,ys⟩<;>simp [qi] at hf
  simp [ahh,dX]
 |cons k ks ih =>
  intro xs ys o ha hf hx hy;simp only [List.all_cons,bM] at ha;cases k with
  |st l=>exact absurd ha.1 (by simp)
  |one c =>
   simp only [qi,bM] at hf;obtain ⟨qu,DT⟩:=hf;obtain ⟨x,y,e1,e2⟩:=YE qu;change xs.take 1=_ at e1;change ys.take 1=_ at e2
   obtain ⟨r,rfl⟩:∃r,xs=.v x::r:=by
    cases xs with
    |nil=>cases e1
    |cons a r=>simp only [Wd,ahg,CP,and_true] at e1;exact ⟨r,by rw [e1]⟩
   obtain ⟨r',rfl⟩:∃r,ys=.v y::r:=by
    cases ys with
    |nil=>cases e2
    |cons a r=>simp only [Wd,ahg,CP,and_true] at e2;exact ⟨r,by rw [e2]⟩
   have QF:iC [c] [.v x] [.v y]=true:=qu;have h1:=qK (w:=w) ha.1 (hx 0 x rfl);have h2:=qK (w:=w) ha.1 (hy 0 y rfl);rw [kJ] at h1 h2;have h3:=ac3 (d:=d) (w:=w) ha.1 QF;have hr:=ih r r' (o+1) ha.2 DT (fun i x h=>by have:=hx (i+1) x (by simpa using h);rwa [show o+1+i=o+(i+1) by omega]) (fun i x h=>by have:=hy (i+1) x (by simpa using h);rwa [show o+1+i=o+(i+1) by omega]);rw [Yr QF,cr,List.range'_succ];simp only [ahh,jK,Nat.mul_one,h1,h2,h3,k_];cases dX [.v x] [.v y]
   ·simp
   ·simp [hr]
def ac1 {P:Program} {w:World} {us vs:Array Value} {t:TypeId} {d:Nat} {ks:List CK} {xs ys:List AV} (h:Ig P t ks=true) (hf:qi ks xs ys=true)
  (hx:∀i x,xs[i]?=some (.v x)→us[0+i]?=some x) (hy:∀i x,ys[i]?=some (.v x)→vs[0+i]?=some x):(se (d+2) t (.agg us) (.agg vs)).run P w=.ok (dX xs ys) w:=by
 unfold Ig at h;split at h
 ·rename_i n e hu;simp only [bM] at h;obtain ⟨hn,hi,ha⟩:=h;have hn:=cA hn;cases rz:P.info? e with
  |none=>rw [rz] at hi;cases hi
  |some i =>
   rw [rz] at hi;have hi:=cA hi;rw [run_equalIn_array w (d+1) us vs hu rz]
   have hc:P.cellsOf e=1:=by simp [Program.cellsOf,rz,hi]
   rw [hc,←hn,List.range_eq_range'];exact ac2 ks xs ys 0 ha hf hx hy
 ·cases h
def di (id:Nat):Hp→Option Chunk
 |[]=>none
 |(i,c)::r=>bif aG i id then some c else di id r
def eE {id:Nat} {H:Hp} {c:Chunk} (h:di id H=some c):(id,c)∈H:=by
 induction H with
 |nil=>cases h
 |cons x r ih =>
  obtain ⟨i,c'⟩:=x;simp only [di] at h;cases hb:aG i id with
  |true =>
   rw [hb] at h;cases h;rw [cA hb];simp
  |false =>
   rw [hb] at h;exact cu _ (ih h)
def eU (F:Nat→Prop) (w w':World):Nat→Prop:=fun b=>F b∨(w.heap.size≤b∧b<w'.heap.size)
def Below.agree {w w':World} {F:Nat→Prop} (h:Below w.heap.size w w') (hF:∀b,F b→b<w.heap.size):fy F w w':=fun b hb=>h.block b (hF b hb)
def Rd.later {w w':World} {F:Nat→Prop} {β:Nat→Value} {x:AV} {u:Value} (h:Rd w F β x u) (hb:Below w.heap.size w w') (hF:∀b,F b→b<w.heap.size):Rd w' (eU F w w') β x u :=
 h.frame (Below.agree hb hF) fun _ h=>.inl h
def q6 (P:Program) (s:Sem Next) (w:World) (post:Value→World→Prop):Prop :=
 (∃v w',s.run P w=.ok (.value v) w'∧Below w.heap.size w w'∧post v w') ∨
 (∃g vs,s.run P w=.ok (.enter g vs) w∧Calls P g vs w fun e w'=>∃v,e=.returned v∧Below w.heap.size w w'∧post v w')
def oj (P : Program) (g : FuncId) : Prop := ∃ fn c, P.funcs[g]? = some fn ∧ (fn.name == "runtime.NumGoroutine") = false ∧ fn.body = some c
def uE (P:Program) (g:FuncId) (args:List AV) (H:Hp) (r:AV):Prop :=
 oj P g∧∀(w:World) (F:Nat→Prop) (β:Nat→Value) (vs:Array Value),Inv w F β H→vs.size=args.length →
  (∀i,i<args.length→Rd w F β (args.getD i .χ) (vs.getD i undef)) →
  Calls P g vs w fun e w'=>∃v,e=.returned v∧Below w.heap.size w w'∧bh w' (eU F w w') r v
abbrev Pure (P:Program) (g:FuncId) (args:List AV) (r:AV):Prop:=uE P g args [] r
def L5 (c a b:AV) (k:AV→Prop):Prop :=
 match c with
 |.v (.bool true)=>k a
 |.v (.bool false)=>k b
 |_=>False
def LY (t:AV) (i:Nat) (k:AV→Prop):Prop :=
 match t with
 |.t vs=>bif Nat.blt i vs.length then k (vs.getD i .χ) else False
 |_=>False
def L7 (op:UnOp) (x:AV) (k:AV→Prop):Prop :=
 match op,x with
 |.not,.v (.bool b)=>k (.v (.bool (!b)))
 |.neg,.v (.int kd n)=>∃r,kd.wrap (0-n)=r∧k (.v (.int kd r))
 |_,_=>False
def MX (op:BinOp) (a b:ByteArray) (k:Value→Prop):Prop :=
 match op with
 |.add=>a.size+b.size≤9223372036854775807∧∃r,a++b=r∧k (.string r)
 |.eql=>∃r:Bool,(a.toList==b.toList)=r∧k (.bool r)
 |.neq=>∃r:Bool,(!(a.toList==b.toList))=r∧k (.bool r)
 |.lss=>∃r:Bool,eZ a.toList b.toList=r∧k (.bool r)
 |.leq=>∃r:Bool,(eZ a.toList b.toList||a.toList==b.toList)=r∧k (.bool r)
 |.gtr=>∃r:Bool,(!(eZ a.toList b.toList||a.toList==b.toList))=r∧k (.bool r)
 |.geq=>∃r:Bool,(!Op.bytesLess a.toList b.toList)=r∧k (.bool r)
 |_=>False
def LV (P:Program) (T:TT) (op:BinOp) (t:Nat) (x y:AV) (k:AV→Prop):Prop :=
 match x,y with
 |.v (.int kx a),.v (.int ky b)=>HD op kx ky a b fun v=>k (.v v)
 |.v (.string a),.v (.string b)=>MX op a b fun v=>k (.v v)
 |.v (.bool a),.v (.bool b) =>
  match T t with
  |some i=>match i.kind with
   |.bool=>match op with
    |.eql=>k (.v (.bool (a==b)))
    |.neq=>k (.v (.bool (!(a==b))))
    |_=>False
   |_=>False
  |none=>False
 |.s rows,.v (.slice none 0 0) =>
  match T t with
  |some i=>match i.kind with
   |.slice _=>match op with
    |.eql=>∀b:Bool,(b=true→rows=[])→k (.v (.bool b))
    |.neq=>∀b:Bool,(b=false→rows=[])→k (.v (.bool b))
    |_=>False
   |_=>False
  |none=>False
 |.a xs,.a ys=>∃ks,PR P t ks=true∧bif qi ks xs ys then
   match op with
   |.eql=>k (.v (.bool (dX xs ys)))
   |.neq=>k (.v (.bool (!dX xs ys)))
   |_=>False
  else False
 |_,_=>False
def HC {c:Bool} {p:Prop} (hc:c=true) (h:p):bif c then p else False:=by rw [hc];exact h
def kg (b:UInt8):List AV:=[.v (.int .u8 (b.toNat:Int))]
def LX (T:TT) (src dst:Nat) (x:AV) (k:AV→Prop):Prop :=
 match T src,T dst with
 |some i,some j =>
  match j.kind,x with
  |.int kd,.v (.int _ n)=>∃r,kd.wrap n=r∧k (.v (.int kd r))
  |.str,.v (.string s)=>k (.v (.string s))
  |.slice e,.v (.string s) =>
   match T e with
   |some je=>match je.kind with
    |.int .u8=>s.size≤maxLen∧k (.s (s.data.toList.map kg))
    |_=>False
   |none=>False
  |.str,.s rows =>
   match i.kind with
   |.slice e=>match T e with
    |some je=>match je.kind with
     |.int .u8=>∃l:List UInt8,rows=l.map kg∧k (.v (.string ⟨l.toArray⟩))
     |_=>False
    |none=>False
   |_=>False
  |_,_=>False
 |_,_=>False
def Hw (x:AV) (off:Nat) (k:AV→Prop):Prop :=
 match x with
 |.b id o=>k (.b id (o+off))
 |.p cells=>k (.p (cells.drop off))
 |.e id K i j=>k (.e id K i (j+off))
 |_=>False
def LZ (T:TT) (t:Nat) (x:AV) (f:Nat) (k:AV→Prop):Prop :=
 match T t with
 |some i=>match i.kind with
  |.struct fs=>match fs[f]? with
   |some (off,ty)=>match T ty with
    |some j=>bif aG j.cells 0 then False else Hw x off k
    |none=>False
   |none=>False
  |_=>False
 |none=>False
def yo (i:TI) (cells:List AV) (off:Nat) (k:AV→Prop):Prop :=
 bif og (off+i.cells) cells.length then
  bif oo i.kind then ∃c,(cells.drop off).take i.cells=c∧k (.a c)
  else bif aG i.cells 1 then ∃x,cells[off]?=some x∧k x else False
 else False
def yZ (T:TT) (t:Nat) (x:AV) (H:Hp) (k:AV→Prop):Prop :=
 match T t with
 |some i=>match x with
  |.b id off=>match di id H with
   |some (.box cells)=>yo i cells off k
   |_=>False
  |.p cells=>yo i cells 0 k
  |.e id K m j=>match di id H with
   |some (.own _ K' rows)=>∃row,rows[m]?=some row∧K=K'∧yo i row j k
   |_=>False
  |_=>False
 |none=>False
def L1 (T:TT) (t:Nat) (x i:AV) (H:Hp) (k:AV→Prop):Prop :=
 match T t with
 |some ti=>match ti.kind with
  |.slice e=>match T e with
   |some j=>match x,i with
    |.s rows,.v (.int _ n)=>∃m:Nat,n=(m:Int)∧∃row,rows[m]?=some row∧(bif aG row.length j.cells then k (.p row) else False)
    |.o id,.v (.int _ n)=>match di id H with
     |some (.own _ K rows)=>bif aG K j.cells then ∃m:Nat,n=(m:Int)∧m<rows.length∧k (.e id K m 0) else False
     |_=>False
    |.w id Kw d,.v (.int _ n)=>match di id H with
     |some (.own _ K rows)=>bif aG K j.cells&&aG Kw K then ∃m:Nat,n=(m:Int)∧d+m<rows.length∧k (.e id K (d+m) 0) else False
     |_=>False
    |_,_=>False
   |none=>False
  |.arr len e=>match T e with
   |some j=>match x,i with
    |.b id off,.v (.int _ n)=>∃m:Nat,n=(m:Int)∧m<len∧k (.b id (off+m*j.cells))
    |.p cells,.v (.int _ n)=>∃m:Nat,n=(m:Int)∧m<len∧k (.p (cells.drop (m*j.cells)))
    |_,_=>False
   |none=>False
  |_=>False
 |none=>False
def L0 (T:TT) (t:Nat) (x i:AV) (k:AV→Prop):Prop :=
 match T t with
 |some ti=>match ti.kind,x,i with
  |.str,.v (.string s),.v (.int _ n)=>∃m:Nat,n=(m:Int)∧∃b:UInt8,s.data.toList[m]?=some b∧k (.v (.int .u8 (b.toNat:Int)))
  |.arr len e,.a cells,.v (.int _ n)=>match T e with
   |some j=>bif oo j.kind then False else bif aG j.cells 1 then ∃m:Nat,n=(m:Int)∧m<len∧∃c,cells[m]?=some c∧k c else False
   |none=>False
  |_,_,_=>False
 |none=>False
def qc (x:Option AV) (d:Nat) (k:Nat→Prop):Prop :=
 match x with
 |none=>k d
 |some (.v (.int _ n))=>∃m:Nat,n=(m:Int)∧k m
 |_=>False
def L6 (T:TT) (t:Nat) (x:AV) (lo hi mx:Option AV) (H:Hp) (k:AV→Prop):Prop :=
 match T t,mx with
 |some ti,none=>match ti.kind,x with
  |.slice e,.s rows=>match T e with
   |some j=>qc lo 0 fun l=>qc hi rows.length fun h=>l≤h∧h≤rows.length∧(∀i,i<rows.length→(rows.getD i []).length=j.cells)∧∃r,(rows.take h).drop l=r∧k (.s r)
   |none=>False
  |.slice e,.o id=>match T e with
   |some j=>match di id H,hi with
    |some (.own _ K rows),none=>bif aG K j.cells then qc lo 0 fun l=>l≤rows.length∧k (.w id K l) else False
    |_,_=>False
   |none=>False
  |.slice e,.w id Kw d=>match T e with
   |some j=>match di id H,hi with
    |some (.own _ K rows),none=>bif aG K j.cells&&aG Kw K then qc lo 0 fun l=>d+l≤rows.length∧k (.w id K (d+l)) else False
    |_,_=>False
   |none=>False
  |.slice e,.v (.slice none 0 0)=>match T e with
   |some _=>qc lo 0 fun l=>qc hi 0 fun h=>l≤h∧h≤0∧k (.v (.slice none 0 0))
   |none=>False
  |.str,.v (.string s)=>qc lo 0 fun l=>qc hi s.size fun h=>l≤h∧h≤s.size∧∃r,s.extract l h=r∧k (.v (.string r))
  |_,_=>False
 |_,_=>False
def Cf (T:TT) (t:Nat) (x:AV) (lo hi:Option AV) (mx:AV) (k:AV→Prop):Prop :=
 match T t,lo,hi,x,mx with
 |some ti,none,some (.v (.int _ nh)),.s rows,.v (.int _ nm)=>match ti.kind with
  |.slice e=>match T e with
   |some j=>∃h q:Nat,nh=(h:Int)∧nm=(q:Int)∧h≤q∧q≤rows.length∧(∀i,i<rows.length→(rows.getD i []).length=j.cells)∧∃r,rows.take h=r∧k (.s r)
   |none=>False
  |_=>False
 |_,_,_,_,_=>False
def bn:AV→List AV
 |.a cs=>cs
 |x=>[x]
def iL:AV→Bool
 |.a _=>true
 |x=>rM x
def xy (place:Nat→Option (Nat×Nat)):List (Nat×AV)→List AV→Option (List AV)
 |[],cells=>some cells
 |(i,x)::r,cells =>
  match place i with
  |none=>none
  |some (off,size) =>
   bif iL x&&(aG (bn x).length size&&og (off+size) cells.length)
   then xy place r (cells.take off++(bn x++cells.drop (off+size))) else none
def Bn (T:TT) (fs:List (Nat×Nat)) (i:Nat):Option (Nat×Nat) :=
 match fs[i]? with
 |some (off,ty)=>match T ty with
  |some j=>some (off,j.cells)
  |none=>none
 |none=>none
def Da (T:TT):List (Nat×Nat)→Bool
 |[]=>true
 |(_,ty)::r=>(T ty).isSome&&Da T r
def LW (T:TT) (t:Nat) (parts:List (Nat×AV)) (k:AV→Prop):Prop :=
 match T t with
 |some i =>
  match bQ i.zero with
  |.a zs=>match i.kind with
   |.struct fs=>bif Da T fs then
     match xy (Bn T fs) parts zs with
     |some cells=>k (.a cells)
     |none=>False
    else False
   |.arr _ e=>match T e with
    |some j=>match xy (fun i=>some (i*j.cells,j.cells)) parts zs with
     |some cells=>k (.a cells)
     |none=>False
    |none=>False
   |_=>False
  |_=>False
 |none=>False
def rowsOf (size:Nat):Nat→List (Nat×AV)→Option (List (List AV))
 |_,[]=>some []
 |n,(i,x)::r=>bif aG i n&&(iL x&&aG (bn x).length size) then (rowsOf size (n+1) r).map (bn x::·) else none
def wF (T:TT) (t len:Nat) (parts:List (Nat×AV)) (k:List (List AV)→Nat→Nat→Prop):Prop :=
 match T t with
 |some i=>match i.kind with
  |.slice e=>match T e with
   |some j=>match rowsOf j.cells 0 parts with
    |some rows=>bif aG parts.length len&&(og (len*j.cells) 16777216&&!(aG j.cells 0)) then k rows e j.cells else False
    |none=>False
   |none=>False
  |_=>False
 |none=>False
def eL:AV→Bool
 |.v _|.s _|.p _|.z=>true
 |_=>false
def jB:AV→Bool
 |.a cs|.t cs=>cs.all eL
 |.c _ fs cs=>fs.all eL&&cs.all eL
 |x=>eL x
def L4 (x:AV) (k:AV→Prop):Prop :=
 match x with
 |.b id off=>k (.b id off)
 |.p cells=>k (.p cells)
 |.e id K i j=>k (.e id K i j)
 |.c (.func g) fs cs=>k (.c (.func g) fs cs)
 |_=>False
def kz (T:TT) (t:Nat) (x:AV) (H:Hp) (k:AV→Prop):Prop :=
 match T t with
 |some i=>match i.kind,x with
  |.slice _,.s rows=>∃n:Nat,rows.length=n∧(n≤maxLen→k (.v (.int .i64 (n:Int))))
  |.slice _,.v (.slice none 0 0)=>k (.v (.int .i64 0))
  |.slice _,.o id=>match di id H with
   |some (.own _ _ rows)=>∃n:Nat,rows.length=n∧(n≤maxLen→k (.v (.int .i64 (n:Int))))
   |_=>False
  |.slice _,.w id _ d=>match di id H with
   |some (.own _ _ rows)=>∃n:Nat,rows.length-d=n∧(n≤maxLen→k (.v (.int .i64 (n:Int))))
   |_=>False
  |.map _ _,.m id=>match di id H with
   |some (.mp _ rows)=>∃n:Nat,rows.length=n∧(n≤140737488355328→k (.v (.int .i64 (n:Int))))
   |_=>False
  |.str,.v (.string s)=>∃n:Nat,s.size=n∧k (.v (.int .i64 (n:Int)))
  |.arr n _,_=>k (.v (.int .i64 (n:Int)))
  |_,_=>False
 |none=>False
def F9 (mn:Bool) (xs:List AV) (k:AV→Prop):Prop :=
 match xs with
 |[.v (.int kx a),.v (.int ky b)]=>bif kx==ky then ∃r,(if mn then min a b else max a b)=r∧k (.v (.int kx r)) else False
 |_=>False
def F7 (T:TT) (b:Builtin) (ts:List Nat) (xs:List AV) (H:Hp) (k:AV→Prop):Prop :=
 match b,ts,xs with
 |.len,[t],[x]=>kz T t x H k
 |.cap,[t],[.v (.slice none 0 0)]=>match T t with
  |some i=>match i.kind with
   |.slice _=>k (.v (.int .i64 0))
   |_=>False
  |none=>False
 |.min,_,xs=>F9 true xs k
 |.max,_,xs=>F9 false xs k
 |_,_,_=>False
def F8 (P:Program) (f:AV) (xs:List AV) (H:Hp) (k:AV→Prop):Prop :=
 match f with
 |.c (.func g) fs cs=>∃r,uE P g (fs++(xs++cs)) H r∧k r
 |_=>False
def nz:AV→AV
 |.v (.slice none 0 0)=>.s []
 |x=>x
def L3 (T:TT) (t:Nat) (l c:AV) (k:AV→Prop):Prop :=
 match T t,l,c with
 |some i,.v (.int _ nl),.v (.int _ nc)=>match i.kind with
  |.slice e=>match T e with
   |some j=>bif iL (bQ j.zero)&&(aG (bn (bQ j.zero)).length j.cells&&(bn (bQ j.zero)).all eL) then
     ∃n m:Nat,nl=(n:Int)∧nc=(m:Int)∧n≤m∧m≤140737488355328∧m*j.bytes≤140737488355328∧∃R,gl n ((bn (bQ j.zero)).map nz)=R∧k (.s R)
    else False
   |none=>False
  |_=>False
 |_,_,_=>False
def vZ (ag:Bool) (y:AV):Option (List AV) :=
 match ag,y with
 |true,.a cs=>bif cs.all eL then some cs else none
 |true,_=>none
 |false,.a _=>none
 |false,.c fn [] []=>some [.c fn [] []]
 |false,x=>bif eL x then some [x] else none
def L2 (T:TT) (t:Nat) (m i:AV) (c:Bool) (H:Hp) (k:AV→Prop):Prop :=
 match T t with
 |some ti=>match ti.kind with
  |.map kt e=>match T kt,T e with
   |some ik,some ie=>match ik.kind,m,i with
    |.int .i64,.m id,.v (.int .i64 n)=>match di id H,vZ (oo ie.kind) (bQ ie.zero) with
     |some (.mp ag rows),some zc=>bif ag==oo ie.kind then ∃r,(iu n rows).getD (zc.map nz)=r∧(bif c then ∃b,(iu n rows).isSome=b∧k (.t [pS ag r,.v (.bool b)]) else k (pS ag r)) else False
     |_,_=>False
    |_,_,_=>False
   |_,_=>False
  |_=>False
 |none=>False
def lK (P:Program) (T:TT) (o:Oper) (ρ:Operand→AV) (H:Hp) (k:AV→Prop):Prop :=
 match o.op with
 |.move x=>k (ρ x)
 |.assign x=>k (ρ x)
 |.pick c a b=>L5 (ρ c) (ρ a) (ρ b) k
 |.extract t i=>LY (ρ t) i k
 |.unOp op _ x=>L7 op (ρ x) k
 |.binOp op t x y _=>LV P T op t (ρ x) (ρ y) k
 |.convert src dst x=>LX T src dst (ρ x) k
 |.fieldAddr t x f=>LZ T t (ρ x) f k
 |.load t x=>yZ T t (ρ x) H k
 |.indexAddr t x i=>L1 T t (ρ x) (ρ i) H k
 |.index t x i=>L0 T t (ρ x) (ρ i) k
 |.slice t x lo hi mx=>match mx with
  |none=>L6 T t (ρ x) (lo.map ρ) (hi.map ρ) none H k
  |some m=>Cf T t (ρ x) (lo.map ρ) (hi.map ρ) (ρ m) k
 |.build t parts=>LW T t (parts.toList.map fun q=>(q.1,ρ q.2)) k
 |.buildSlice t len parts=>wF T t len (parts.toList.map fun q=>(q.1,ρ q.2)) fun rows _ _=>bif rows.all (fun r=>r.all eL) then k (.s (rows.map fun r=>r.map nz)) else False
 |.makeFunc fn fs cs=>k (.c fn (fs.toList.map ρ) (cs.toList.map ρ))
 |.nilCheck x=>L4 (ρ x) k
 |.lookup t x i c=>L2 T t (ρ x) (ρ i) c H k
 |.makeSlice t l c=>L3 T t (ρ l) (ρ c) k
 |.call c=>match c.callee with
  |.builtin b=>F7 T b c.argTypes.toList (c.args.toList.map ρ) H k
  |.value f=>F8 P (ρ f) (c.args.toList.map ρ) H k
  |.invoke _ _=>False
 |_=>False
section
variable {P:Program} {T:TT} {w:World} {F:Nat→Prop} {β:Nat→Value} {H:Hp} {k:AV→Prop}
def Rd.here {x:AV} {u:Value} (h:Rd w F β x u):Rd w (eU F w w) β x u:=h.frame (fun _ _=>rfl) fun _ h=>.inl h
def bR (P:Program) (s:Sem Value) (w:World) (F:Nat→Prop) (β:Nat→Value) (k:AV→Prop):Prop :=
 ∃v w' r,s.run P w=.ok v w'∧Below w.heap.size w w'∧k r∧Rd w' (eU F w w') β r v
def bR.mk {s:Sem Value} {v:Value} {r:AV} (hr:s.run P w=.ok v w) (hk:k r) (hv:Rd w F β r v):bR P s w F β k :=
 ⟨v,w,r,hr,Below.refl _ _,hk,hv.here⟩
def sl (P:Program) (s:Sem Value) (w:World) (F:Nat→Prop) (β:Nat→Value) (k:AV→Prop):Prop :=
 ∃v r,s.run P w=.ok v w∧k r∧Rd w F β r v
def sl.mk {s:Sem Value} {v:Value} {r:AV} (hr:s.run P w=.ok v w) (hk:k r) (hv:Rd w F β r v):sl P s w F β k:=⟨v,r,hr,hk,hv⟩
def sl.gives {s:Sem Value} (h:sl P s w F β k):bR P s w F β k:=by
 obtain ⟨v,r,hr,hk,hv⟩:=h;exact bR.mk hr hk hv
def bR.out {s:Sem Value} (h:bR P s w F β k):q6 P (do pure (.value (←s))) w fun v w'=>∃r,k r∧Rd w' (eU F w w') β r v:=by
 obtain ⟨v,w',r,hr,hb,hk,hv⟩:=h;exact .inl ⟨v,w',by simp [hr],hb,r,hk,hv⟩
def adp {c a b:AV} {vc va vb:Value} (hc:Rd w F β c vc) (ha:Rd w F β a va) (hb:Rd w F β b vb) (h:L5 c a b k) :
  q6 P (do pure (.value (if ←asBool vc then va else vb))) w fun v w'=>∃r,k r∧Rd w' (eU F w w') β r v:=by
 unfold L5 at h;split at h
 ·cases hc.bA;exact .inl ⟨va,w,by simp [asBool],Below.refl _ _,_,h,ha.here⟩
 ·cases hc.bA;exact .inl ⟨vb,w,by simp [asBool],Below.refl _ _,_,h,hb.here⟩
 ·cases h
def adg {t:AV} {i:Nat} {vt:Value} (ht:Rd w F β t vt) (h:LY t i k):bR P (ahj vt i) w F β k:=by
 unfold LY at h;split at h
 ·rename_i vs;obtain ⟨Ξ,hk⟩:=cond_prop h
  have Ξ:i<vs.length:=by simpa [Nat.blt_eq] using Ξ
  obtain ⟨us,rfl,hs,hu⟩:=ht.ze;refine bR.mk (v:=us.getD i undef) ?_ hk (hu i Ξ)
  have hi:i<us.size:=by omega
  simp [ahj,hi]
 ·cases h
def ads {op:UnOp} {x:AV} {vx:Value} (hx:Rd w F β x vx) (h:L7 op x k):bR P (Op.unary op vx) w F β k:=by
 unfold L7 at h;split at h
 ·cases hx.bA;exact bR.mk (by simp [Op.unary]) h (.i (.v (.inl rfl)))
 ·cases hx.bA;obtain ⟨r,rfl,hk⟩:=h;exact bR.mk (by simp [Op.unary,qW]) hk (.i (.v (.inl rfl)))
 ·cases h
def ad6 {op:BinOp} {a b:ByteArray} {k:Value→Prop} (h:MX op a b k) (t:TypeId) :
  ∃v,(binOp op t (.string a) (.string b)).run P w=.ok v w∧v.oneCell'=true∧k v:=by
 cases op<;>simp only [MX] at h
 case add =>
  obtain ⟨h1,r,rfl,hk⟩:=h
  have:¬((a.size+b.size:Nat):Int)>IntKind.i64.max:=by
   have:IntKind.i64.max=9223372036854775807:=rfl;omega
  exact ⟨_,by simp only [binOp,Op.stringOp];rw [if_neg this];rfl,rfl,hk⟩
 all_goals first|exact h.elim|(obtain ⟨r,rfl,h⟩:=h;exact ⟨_,by simp [binOp,Op.stringOp],rfl,h⟩)
def wE {op:BinOp} {t:TypeId} {x y:Operand} {u v:Value} (hu:u.oneCell'=true) (hn:u≠.nilIface):(eqGuard op t x y u v).run P w=.ok () w:=by
 have hc:eqGuard op t x y u v=if !(op matches .eql|.neq) then (pure ():Sem Unit) else pure ():=by
  unfold eqGuard
  cases u<;>first|(simp [ahi] at hu;done)|exact absurd rfl hn|rfl
 rw [hc];split<;>rfl
def run_equalIn_bool (d:Nat) {t:TypeId} (hd:P.underlying t=some .bool) (a b:Bool):(se (d+1) t (.bool a) (.bool b)).run P w=.ok (a==b) w:=by
 simp [se,run_underlying hd]
def run_equalIn_slice_nil (d:Nat) {t e:TypeId} (hd:P.underlying t=some (.slice e)) (a:Option Addr) (n c:Nat):(se (d+1) t (.slice a n c) (.slice none 0 0)).run P w=.ok a.isNone w:=by
 cases a<;>simp [se,run_underlying hd]
def ac8 {op:BinOp} {t:Nat} {x y:AV} {vx vy:Value} (hT:bB P T) (hx:Rd w F β x vx) (hy:Rd w F β y vy) (ox oy:Operand) (h:LV P T op t x y k) :
  bR P (do eqGuard op t ox oy vx vy;binOp op t vx vy) w F β k:=by
 unfold LV at h;split at h
 ·cases hx.bA;cases hy.bA;obtain ⟨v,hr,h1,hk⟩:=WK (P:=P) h t w;exact bR.mk (v:=v) (by simp [wE (u:=.int _ _) rfl (by simp),hr]) hk (.i (.v (.inl h1)))
 ·cases hx.bA;cases hy.bA;obtain ⟨v,hr,h1,hk⟩:=ad6 (P:=P) (w:=w) h t;exact bR.mk (v:=v) (by simp [wE (u:=.string _) rfl (by simp),hr]) hk (.i (.v (.inl h1)))
 ·cases hx.bA;cases hy.bA;rename_i a b;split at h
  ·rename_i i hi;obtain ⟨d,hd,QQ⟩:=(hT _ _ hi).mr;split at h
   ·rename_i Zu;rw [Zu] at QQ
    have bz:P.underlying t=some .bool:=by cases d<;>simp [qa] at QQ;exact hd
    have he:(Op.equal t (.bool a) (.bool b)).run P w=.ok (a==b) w:=by
     exact run_equalIn_bool 9999 bz a b
    split at h
    ·exact bR.mk (by simp [wE (u:=.bool _) rfl (by simp),binOp,he]) h (.i (.v (.inl rfl)))
    ·exact bR.mk (by simp [wE (u:=.bool _) rfl (by simp),binOp,he]) h (.i (.v (.inl rfl)))
    ·cases h
   ·cases h
  ·cases h
 ·rename_i rows;cases hy.bA;split at h
  ·rename_i i hi;split at h
   ·rename_i e he;have hu:=(hT _ _ hi).slice he
    obtain ⟨a,n,c,rfl,ha⟩:∃a n c,vx=.slice a n c∧(a=none→rows=[]):=by
     have hs:=hx.np;cases hs with
     |s0=>exact ⟨_,_,_,rfl,fun _=>rfl⟩
     |s=>exact ⟨_,_,_,rfl,fun h=>by cases h⟩
    have fP:(Op.equal t (.slice a n c) (.slice none 0 0)).run P w=.ok a.isNone w:=run_equalIn_slice_nil 9999 hu a n c;have hg:=wE (P:=P) (w:=w) (op:=op) (t:=t) (x:=ox) (y:=oy) (u:=.slice a n c) (v:=.slice none 0 0) rfl (by simp);split at h
    ·exact bR.mk (by simp [wE (u:=.slice a n c) rfl (by simp),binOp,fP]) (h a.isNone fun hn=>ha (by cases a<;>first|rfl|cases hn)) (.i (.v (.inl rfl)))
    ·exact bR.mk (by simp [wE (u:=.slice a n c) rfl (by simp),binOp,fP]) (h (!a.isNone) fun hn=>ha (by cases a<;>first|rfl|cases hn)) (.i (.v (.inl rfl)))
    ·cases h
   ·cases h
  ·cases h
 ·rename_i xs ys;obtain ⟨ks,Ef,h⟩:=h;obtain ⟨iF,h⟩:=cond_prop h;obtain ⟨us,rfl,hs,_,hu⟩:=hx.o8;obtain ⟨vs,rfl,dL,_,hv⟩:=hy.o8;simp only [PR,bM,qT,my] at Ef;obtain ⟨QI,Ef⟩:=Ef
  have cell:∀{zs:List AV} {ws:Array Value},ws.size=zs.length→(∀i,i<zs.length→Rd w F β (zs.getD i .χ) (ws.getD i undef))→∀i z,zs[i]?=some (.v z)→ws[0+i]?=some z:=by
   intro zs ws aZ eP i z hz;obtain ⟨hi,iq⟩:=fX.1 hz;have:=eP i hi;rw [fk,hz,Ha] at this;have e:=this.bA;rw [iZ,fL (by omega)];rw [j3,fL (by omega),Ha] at e;rw [e]
  have heq:(se 10000 t (.agg us) (.agg vs)).run P w=.ok (dX xs ys) w:=by
   rcases Ef with ⟨dy,aaG,Au⟩|sP
   ·have vI:P.underlying t=some (.struct (P.fieldsOf t)):=by
     unfold Wh;cases hd:P.underlying t with
     |none=>rw [hd] at dy;cases dy
     |some d =>
      rw [hd] at dy
      cases d<;>first|rfl|cases dy
    rw [run_equalIn_struct w 9999 t us vs vI aaG];exact Ug (P:=P) (w:=w) (us:=us) (vs:=vs) (d:=9997) _ ks xs ys 0 Au iF (cell hs hu) (cell dL hv)
   ·exact ac1 (d:=9998) sP iF (cell hs hu) (cell dL hv)
  split at h
  ·exact bR.mk (by simp [run_eqGuard_agg w _ t _ _ us vs QI,run_eql_struct,heq]) h (.i (.v (.inl rfl)))
  ·exact bR.mk (by simp [run_eqGuard_agg w _ t _ _ us vs QI,run_neq_struct,heq]) h (.i (.v (.inl rfl)))
  ·cases h
 ·cases h
def OY {x:AV} {off:Nat} {vx:Value} (hx:Rd w F β x vx) (h:Hw x off k) :
  ∃b o r,vx=.pointer (some ⟨b,o,none⟩)∧k r∧Rd w F β r (.pointer (some ⟨b,o+off,none⟩)):=by
 unfold Hw at h;split at h
 ·obtain ⟨e9,hb,rfl⟩:=hx.lh;exact ⟨_,_,_,rfl,h,.b hb⟩
 ·rename_i cells;have hp:=hx.yx;cases hp with
  |p hb ek eF eP =>
   rename_i b o u;refine ⟨_,_,_,rfl,h,.i ?_⟩;refine .p (u:=fun j=>u (off+j)) hb (fun j hj=>?_) (fun j hj=>?_) (fun j hj=>?_)
   ·simp at hj;rw [CS];exact ek _ (by omega)
   ·simp at hj;exact eF _ (by omega)
   ·simp at hj;have:=eP (off+j) (by omega);simpa [aY,gJ] using this
 ·obtain ⟨g,n,c,hb,rfl⟩:=hx.xq;refine ⟨_,_,_,rfl,h,?_⟩;rw [CS];exact .e hb
 ·cases h
def adh {t f:Nat} {x:AV} {vx:Value} (hT:bB P T) (hx:Rd w F β x vx) (h:LZ T t x f k):bR P (ahk t vx f) w F β k:=by
 unfold LZ at h;split at h
 ·rename_i i hi;split at h
  ·rename_i fs Au;split at h
   ·rename_i off ty hf;split at h
    ·rename_i j hj;cases hz:aG j.cells 0 with
     |true=>rw [hz] at h;cases h
     |false =>
      rw [hz] at h;obtain ⟨b,o,r,rfl,hk,hr⟩:=OY hx h;obtain ⟨fields,hu,hm⟩:=(hT _ _ hi).struct Au
      have ZY:∃fd,fields[f]?=some fd∧fd.offset=off∧fd.type=ty:=by
       rw [←hm] at hf;simp only [nu,Option.map_eq_some_iff] at hf;obtain ⟨fd,h1,h2⟩:=hf;cases h2;exact ⟨fd,by simpa using h1,rfl,rfl⟩
      obtain ⟨fd,h1,rfl,rfl⟩:=ZY;have aZ:=(hT _ _ hj).j0 w
      have aS:j.cells≠0:=by
       intro h0;rw [h0] at hz;cases hz
      refine bR.mk (v:=.pointer (some ⟨b,o+fd.offset,none⟩)) ?_ hk hr;simp [ahk,run_underlying hu,h1,CL,fieldPlace,aZ,aS,fC]
    ·cases h
   ·cases h
  ·cases h
 ·cases h
def Ko {t:Nat} {i:TI} {cells:List AV} {off:Nat} (hi:fN P t i) (h:yo i cells off k) {b base:Nat} {u:Nat→Value}
  (ek:∀j,j<cells.length→w.cell? ⟨b,base+j,none⟩=some (u j)) (eF:∀j,j<cells.length→(u j).oneCell'=true)
  (eP:∀j,j<cells.length→Rd w F β (cells.getD j .χ) (u j)):sl P (CG t (.pointer (some ⟨b,base+off,none⟩))) w F β k:=by
 unfold yo at h;obtain ⟨hle,h⟩:=cond_prop h
 have hle:off+i.cells≤cells.length:=by simpa using hle
 have qp:=hi.FZ w;have aZ:=hi.j0 w;cases hg:oo i.kind with
 |true =>
  rw [hg] at h qp
  have hl:=run_loadCells (P:=P) w ⟨b,base+off,none⟩ i.cells (fun j=>u (off+j)) (fun j hj=>by
   rw [fC,CS];exact ek _ (by omega))
  obtain ⟨c,rfl,h⟩:=h;refine sl.mk (v:=.agg ((List.range i.cells).map fun j=>u (off+j)).toArray) ?_ h ?_
  ·simp [CG,CL,loadVar,qp,aZ,hl]
  ·have hlen:((cells.drop off).take i.cells).length=i.cells:=by simp;omega
   refine .a (by simp;omega) (fun j hj=>?_) fun j hj=>?_
   ·rw [hlen] at hj;simpa [ug,hj] using eF (off+j) (by omega)
   ·rw [hlen] at hj;have:=eP (off+j) (by omega);simpa [ug,hj,aY,fo,gJ] using this
 |false =>
  rw [hg] at h qp;obtain ⟨h1,h⟩:=cond_prop h;have h1:i.cells=1:=cA h1;obtain ⟨x,hx,h⟩:=h;have Rj:=eP off (by omega);rw [fk,hx,Ha] at Rj;refine sl.mk (v:=u off) ?_ h Rj;simp [CG,CL,loadVar,qp,ek off (by omega)]
def sO {α:Type} {l:List α} {i:Nat} {x d:α} (h:l[i]?=some x):l.getD i d=x:=by simp [aY,h]
def Bb {α:Type} {l:List α} {i:Nat} {x:α} (h:l[i]?=some x):i<l.length:=(fX.1 h).1
def ES {id E K:Nat} {rows:List (List AV)} (h:Chunk.holds w F β id (.own E K rows)) {g n c:Nat} (aj:β id=.slice (some ⟨g,0,none⟩) n c) :
  rows.length=n∧n≤c∧c≤maxLen∧∃u:Nat→Nat→Value,∀m j,m<rows.length→j<K→w.cell? ⟨g,m*K+j,none⟩=some (u m j)∧(u m j).oneCell'=true∧bh w F ((rows.getD m []).getD j .χ) (u m j):=by
 rcases h with ⟨rfl,a,hv⟩|⟨g',cap,cur,hv,_,hg,hn,hm,hs,hk,hr⟩
 ·rw [hv] at aj;cases aj;exact ⟨rfl,bm _,Nat.zero_le _,fun _ _=>undef,fun m j hm=>by simp at hm⟩
 ·rw [hv] at aj;cases aj;refine ⟨rfl,hn,hm,fun m j=>cur.getD (m*K+j) undef,fun m j bE hj=>⟨?_,(hr m j bE hj).1,(hr m j bE hj).2⟩⟩
  have Ξ:m*K+j<rows.length*K:=by
   calc m*K+j<m*K+K:=by omega
    _=(m+1)*K:=by rw [bD];omega
    _≤rows.length*K:=bT _ bE
  rw [cell_of_row w g (m*K+j) cur E (0,0) hg]
  have hc:rows.length*K≤cur.size:=by rw [hs];exact bT _ hn
  have h2:m*K+j<cur.size:=by omega
  simp [h2]
def SL {id E K:Nat} {rows:List (List AV)} (h:Chunk.holds w F β id (.own E K rows)):∀i,i<rows.length→(rows.getD i []).length=K:=by
 rcases h with ⟨rfl,_⟩|⟨_,_,_,_,_,_,_,_,_,hk,_⟩
 ·intro i hi;simp at hi
 ·exact hk
def qI {id E K:Nat} {rows:List (List AV)} (h:Chunk.holds w F β id (.own E K rows)):(rows=[]∧∃a,β id=.slice a 0 0)∨∃g cap,β id=.slice (some ⟨g,0,none⟩) rows.length cap∧cap≤maxLen∧rows.length≤cap:=by
 rcases h with h|⟨g,cap,cur,hv,_,hg,hn,hm,_⟩
 ·exact .inl h
 ·exact .inr ⟨g,cap,hv,hm,hn⟩
def Uj {t:Nat} {x:AV} {vx:Value} (hT:bB P T) (hI:Inv w F β H) (hx:Rd w F β x vx) (h:yZ T t x H k):sl P (CG t vx) w F β k:=by
 unfold yZ at h;split at h
 ·rename_i i hi;split at h
  ·rename_i id off;split at h
   ·rename_i cells hc;obtain ⟨b,c,e,aj,hh,hs,h1,hr⟩:=hI.holds _ _ (eE hc);obtain ⟨e9,hb,rfl⟩:=hx.lh;rw [aj] at hb;cases hb
    have:=Ko (hT _ _ hi) h (b:=b) (base:=0) (u:=fun j=>c.getD j undef) (fun j hj=>by
     rw [cell_of_row w b (0+j) c e (0,0) hh,iZ]
     have:j<c.size:=by omega
     simp [this]) h1 hr
    simpa using this
   ·cases h
  ·rename_i cells;have hp:=hx.yx;cases hp with
   |p hb ek eF eP=>exact Ko (off:=0) (hT _ _ hi) h ek eF fun j hj=>.i (eP j hj)
  ·rename_i id K m j;split at h
   ·rename_i E' K' rows hc;obtain ⟨row,jy,rfl,h⟩:=h;obtain ⟨g,n,c,aj,rfl⟩:=hx.xq;have hh:=hI.holds _ _ (eE hc);obtain ⟨_,_,_,u,hu⟩:=ES hh aj;have hm:=Bb jy
    have me:row.length=K:=by
     have:=SL hh m hm;rwa [sO jy] at this
    rw [←sO (d:=[]) jy] at h me;exact Ko (hT _ _ hi) h (b:=g) (base:=m*K) (u:=u m) (fun j hj=>(hu m j hm (by omega)).1) (fun j hj=>(hu m j hm (by omega)).2.1)
     fun j hj=>.i (hu m j hm (by omega)).2.2
   ·cases h
  ·cases h
 ·cases h
def adl {t:Nat} {x:AV} {vx:Value} (hT:bB P T) (hI:Inv w F β H) (hx:Rd w F β x vx) (h:yZ T t x H k):bR P (CG t vx) w F β k :=
 (Uj hT hI hx h).gives
def bh.qM {rows:List (List AV)} {u:Value} (h:bh w F (.s rows) u):(rows=[]∧∃a,u=.slice a 0 0)∨∃(b off c K:Nat) (v:Nat→Nat→Value),F b∧rows.length≤c∧c≤maxLen∧u=.slice (some ⟨b,off,none⟩) rows.length c ∧
  (∀i,i<rows.length→(rows.getD i []).length=K)∧∀i j,i<rows.length→j<K→w.cell? ⟨b,off+(i*K+j),none⟩=some (v i j)∧(v i j).oneCell'=true∧bh w F ((rows.getD i []).getD j .χ) (v i j):=by
 cases h with
 |s0=>exact .inl ⟨rfl,_,rfl⟩
 |s hb hc hm hk ek eF eP=>exact .inr ⟨_,_,_,_,_,hb,hc,hm,rfl,hk,fun i j hi hj=>⟨ek i j hi hj,eF i j hi hj,eP i j hi hj⟩⟩
def adi {t:Nat} {x i:AV} {vx vi:Value} (hT:bB P T) (hI:Inv w F β H) (hx:Rd w F β x vx) (hi:Rd w F β i vi) (h:L1 T t x i H k):bR P (zz t vx vi) w F β k:=by
 unfold L1 at h;split at h
 ·rename_i ti jz;split at h
  ·rename_i e he;have hu:=(hT _ _ jz).slice he;split at h
   ·rename_i j hj;have aZ:=(hT _ _ hj).j0 w;split at h
    ·rename_i rows kd n;cases hi.bA;obtain ⟨m,rfl,row,jy,h⟩:=h;obtain ⟨me,hk⟩:=cond_prop h;have me:row.length=j.cells:=cA me;have hm:=Bb jy
     rcases hx.np.qM with ⟨rfl,_⟩|⟨b,off,c,K,v,hb,hc,jx,rfl,hK,hv⟩
     ·simp at hm
     ·have xI:row.length=K:=by have:=hK m hm;rwa [sO jy] at this
      refine bR.mk (v:=.pointer (some ⟨b,off+m*K,none⟩)) ?_ hk (.i ?_)
      ·have:(0:Int)≤(m:Int)∧(m:Int)<(rows.length:Int):=by omega
       simp [zz,asIntOf,run_underlying hu,hm,aZ,fC,←me,xI]
      ·refine .p (u:=v m) hb (fun q hq=>?_) (fun q hq=>(hv m q hm (by omega)).2.1) fun q hq=>?_
       ·rw [CS];exact (hv m q hm (by omega)).1
       ·have:=(hv m q hm (by omega)).2.2;rwa [sO jy] at this
    ·rename_i id kd n;cases hi.bA;split at h
     ·rename_i E' K rows hc;obtain ⟨hK,h⟩:=cond_prop h;have hK:K=j.cells:=cA hK;obtain ⟨m,rfl,hm,hk⟩:=h;obtain ⟨a,n,c,aj,rfl⟩:=hx.jo;have hh:=hI.holds _ _ (eE hc)
      rcases qI hh with ⟨rfl,_⟩|⟨g,cap,hv,_⟩
      ·simp at hm
      ·rw [aj] at hv;cases hv;refine bR.mk (v:=.pointer (some ⟨g,m*K+0,none⟩)) ?_ hk (.e aj);simp [zz,asIntOf,run_underlying hu,hm,aZ,fC,←hK]
     ·cases h
    ·rename_i id Kw d kd n;cases hi.bA;split at h
     ·rename_i E' K rows hc;obtain ⟨hK,h⟩:=cond_prop h;simp only [bM] at hK;have pj:K=j.cells:=cA hK.1;have IX:Kw=K:=cA hK.2;subst IX;obtain ⟨m,rfl,hm,hk⟩:=h;obtain ⟨a,a',n,c,aj,hd,ha,rfl⟩:=hx.ub;have hh:=hI.holds _ _ (eE hc)
      rcases qI hh with ⟨rfl,_⟩|⟨g,cap,hv,_,ig⟩
      ·simp at hm
      ·rw [aj] at hv;cases hv;have ha:=ha (by omega);subst ha;refine bR.mk (v:=.pointer (some ⟨g,(d+m)*Kw+0,none⟩)) ?_ hk (.e aj)
       have bE:m<rows.length-d:=by omega
       have e:((⟨g,0,none⟩:Addr).add (d*Kw)).add (m*j.cells)=⟨g,(d+m)*Kw+0,none⟩:=by
        rw [←pj,Addr.add_add,fC,←bD];simp
       simp [zz,asIntOf,run_underlying hu,bE,aZ,e]
     ·cases h
    ·cases h
   ·cases h
  ·rename_i len e he;have hu:=(hT _ _ jz).arr he;split at h
   ·rename_i j hj;have aZ:=(hT _ _ hj).j0 w;split at h
    ·cases hi.bA;obtain ⟨m,rfl,hm,hk⟩:=h;obtain ⟨e9,hb,rfl⟩:=hx.lh;refine bR.mk (v:=.pointer (some ⟨e9,_+m*j.cells,none⟩)) ?_ hk (.b hb);simp [zz,CL,asIntOf,run_underlying hu,hm,aZ,fC]
    ·rename_i cells kd n;cases hi.bA;obtain ⟨m,rfl,hm,hk⟩:=h;have hp:=OY (k:=fun r=>r=.p (cells.drop (m*j.cells))) hx rfl;obtain ⟨b,o,r,rfl,rfl,hr⟩:=hp;refine bR.mk (v:=.pointer (some ⟨b,o+m*j.cells,none⟩)) ?_ hk hr;simp [zz,CL,asIntOf,run_underlying hu,hm,aZ,fC]
    ·cases h
   ·cases h
  ·cases h
 ·cases h
end
section
variable {P:Program} {T:TT} {w:World} {F:Nat→Prop} {β:Nat→Value} {H:Hp} {k:AV→Prop}
def ac4 {src dst:Nat} {i j:TI} (hs:fN P src i) (hd:fN P dst j) {kd kn:IntKind} (hk:j.kind=.int kd) (n:Int) :
  (convert src dst (.int kn n)).run P w=.ok (.int kd (kd.wrap n)) w:=by
 obtain ⟨d,bz,_⟩:=hs.mr;simp [convert,run_underlying bz,run_underlying (hd.int hk),Conv.intToInt]
def WT {l:List UInt8} {b off c:Nat} (hb:F b) (hc:l.length≤c) (hm:c≤maxLen) (h:∀m,m<l.length→w.cell? ⟨b,off+m,none⟩=some (.int .u8 ((l.getD m 0).toNat:Int))) :
  bh w F (.s (l.map kg)) (.slice (some ⟨b,off,none⟩) l.length c):=by
 have hl:(l.map kg).length=l.length:=by simp
 rw [←hl];refine .s (k:=1) (u:=fun m _=>.int .u8 ((l.getD m 0).toNat:Int)) hb (by simpa using hc) hm (fun m hm=>?_) (fun m j hm hj=>?_) (fun _ _ _ _=>rfl) fun m j hm hj=>?_
 ·simp at hm;simp [aY,hm,kg]
 ·simp at hm
  have:m*1+j=m:=by omega
  rw [this];exact h m hm
 ·simp at hm
  have:j=0:=by omega
  subst this;simp [aY,hm,kg];exact .v (.inl rfl)
def VG {l:List UInt8} {m:Nat} (h:m<l.length):(l.map kg).getD m []=kg (l.getD m 0):=by simp [aY,h]
def WS {l:List UInt8} {u:Value} (h:bh w F (.s (l.map kg)) u):(l=[]∧∃a,u=.slice a 0 0)∨∃(b off c:Nat),F b∧l.length≤c∧c≤maxLen∧u=.slice (some ⟨b,off,none⟩) l.length c ∧
  ∀m,m<l.length→w.cell? ⟨b,off+m,none⟩=some (.int .u8 ((l.getD m 0).toNat:Int)):=by
 rcases h.qM with ⟨h1,h2⟩|⟨b,off,c,K,v,hb,hc,hm,rfl,hK,hv⟩
 ·exact .inl ⟨by simpa using h1,h2⟩
 ·right
  simp at hc;refine ⟨b,off,c,hb,hc,hm,by simp,fun m hm=>?_⟩
  have bE:m<(l.map kg).length:=by simpa using hm
  have h1:=hK m bE;rw [VG hm] at h1
  have pj:K=1:=by simpa [kg] using h1.symm
  subst pj;have:=hv m 0 bE (by omega);rw [VG hm] at this;have h2:=this.2.2
  have h3:v m 0=.int .u8 ((l.getD m 0).toNat:Int):=by
   have:Rd w F (fun _=>undef) (.v (.int .u8 ((l.getD m 0).toNat:Int))) (v m 0):=.i h2;exact this.bA
  rw [←h3];simpa using this.1
def QB {w:World} {b n:Nat} {c:Array Value} {e:TypeId} (h:w.heap[b]?=some (.cells c e (0,0))):(w.freeze ⟨b,n,none⟩ 1).heap[b]?=some (.cells c e (n,n+1)):=by
 simp [xf,oa,h]
def QA {w:World} {b b' n:Nat} (h:b≠b'):(w.freeze ⟨b,n,none⟩ 1).heap[b']?=w.heap[b']?:=by
 simp [xf,oa,h]
def ac6 {e:Nat} (s:ByteArray) (hs:s.size≤maxLen) :
  bR P (GX e s) w F β (fun r=>r=.s (s.data.toList.map kg)):=by
 let cap:=(Question.appendCap s.size 0 e).cut (w.tape w.drawn (.appendCap s.size 0 e));let cells:Array Value:=s.data.map (fun b=>dB .u8 b.toNat)++Array.replicate (cap-s.size) (.int .u8 0);have ig:s.size≤cap:=Nat.le_add_right _ _;have ZC:cap≤maxLen:=grownCap_le_maxLen w s.size 0 e hs
 have aZ:cells.size=cap:=by simp only [cells,qS,Array.size_map,Array.size_replicate];have:s.data.size=s.size:=rfl;omega
 let w1:World:={ w with drawn:=w.drawn+1 };let w2:=w1.alloc (.cells cells e)
 have rH:(markStringish ⟨w.heap.size,0,none⟩).run P w2=.ok () (w2.freeze ⟨w.heap.size,cells.size,none⟩ 1):=by
  have:w2.shape? w.heap.size=some (e,cells.size):=by simp [World.shape?,w2,w1,kL]
  simp [markStringish,this]
 have bc:(GX e s).run P w=.ok (.slice (some ⟨w.heap.size,0,none⟩) s.size cap) (w2.freeze ⟨w.heap.size,cells.size,none⟩ 1):=by
  have ZE:(choose (.appendCap s.size 0 e)).run P w=.ok cap w1:=by simp [Question.forced,cap,w1]
  have eu:(newRow e cells).run P w1=.ok ⟨w.heap.size,0,none⟩ w2:=by simp [newRow,w2,w1]
  unfold GX;rw [jK,ZE,k_]
  have:(Sem.bind (newRow e cells) fun a=>Sem.bind (markStringish a) fun _=>Sem.pure (Value.slice (some a) s.size cap)).run P w1=.ok (.slice (some ⟨w.heap.size,0,none⟩) s.size cap) (w2.freeze ⟨w.heap.size,cells.size,none⟩ 1):=by
   rw [Sem.run_bind',eu,k_,Sem.run_bind',rH,k_];rfl
  exact this
 have Jl:(w2.freeze ⟨w.heap.size,cells.size,none⟩ 1).heap[w.heap.size]?=some (.cells cells e (cells.size,cells.size+1)) :=
  QB (by simp [w2,w1,kL])
 have agW:(w2.freeze ⟨w.heap.size,cells.size,none⟩ 1).heap.size=w.heap.size+1:=by simp [xf,w2,w1,kL]
 have DM:Below w.heap.size w (w2.freeze ⟨w.heap.size,cells.size,none⟩ 1):=by
  refine ⟨by simp [xf,w2,w1,kL],⟨by simp [xf,w2,w1,kL],by simp [xf,w2,w1,kL]⟩,by simp [xf,w2,w1,kL],by omega,fun b hb=>?_⟩
  have h1:w.heap.size≠b:=by omega
  have h2:b≠w.heap.size:=by omega
  rw [QA h1];exact _root_.Go.heap_alloc_old w1 _ hb
 refine ⟨_,_,_,bc,DM,rfl,.i ?_⟩;have hlen:s.data.toList.length=s.size:=rfl;rw [←hlen];refine WT (off:=0) (.inr ⟨bm _,by omega⟩) (by rw [hlen];exact ig) ZC fun m hm=>?_
 have bE:m<s.data.size:=by simpa using hm
 rw [cell_of_row _ _ _ _ _ _ Jl,iZ];have rG:m<s.size:=bE;simp [cells,n_,rG,aY]
def adf {src dst:Nat} {x:AV} {vx:Value} (hT:bB P T) (hx:Rd w F β x vx) (h:LX T src dst x k):bR P (convert src dst vx) w F β k:=by
 unfold LX at h;split at h
 ·rename_i i j hi hj;have yj:=hT _ _ hi;have uU:=hT _ _ hj;split at h
  ·rename_i kd kn n hk;cases hx.bA;obtain ⟨r,rfl,cd⟩:=h;exact bR.mk (ac4 yj uU hk n) cd (.i (.v (.inl rfl)))
  ·rename_i s hk;cases hx.bA;obtain ⟨d,bz,_⟩:=yj.mr;refine bR.mk ?_ h (.i (.v (.inl rfl)));simp [convert,run_underlying bz,run_underlying (uU.str hk)]
  ·rename_i e s hk;cases hx.bA;split at h
   ·rename_i je xT;split at h
    ·rename_i Jq;obtain ⟨d,bz,_⟩:=yj.mr
     have hc:(convert src dst (.string s)).run P w=(GX e s).run P w:=by
      simp [convert,run_underlying bz,run_underlying (uU.slice hk),run_underlying ((hT _ _ xT).int Jq)]
     obtain ⟨v,w',r,hr,hb,rfl,hv⟩:=ac6 (P:=P) (w:=w) (F:=F) (β:=β) (e:=e) s h.1;exact ⟨v,w',_,by rw [hc];exact hr,hb,h.2,hv⟩
    ·cases h
   ·cases h
  ·rename_i rows hk;split at h
   ·rename_i e he;split at h
    ·rename_i je xT;split at h
     ·rename_i Jq;obtain ⟨l,rfl,cd⟩:=h;have hs:=yj.slice he;have h8:=(hT _ _ xT).int Jq;have hd:=uU.str hk
      rcases WS hx.np with ⟨rfl,a,rfl⟩|⟨b,off,c,hb,hc,hm,rfl,ek⟩
      ·cases a with
       |none=>exact bR.mk (run_convert_bytes_nil w src e hs h8 0 0 dst hd) cd (.i (.v (.inl rfl)))
       |some ad=>exact bR.mk (run_convert_bytes_back w src dst e ad 0 [] hs h8 hd fun j hj=>absurd hj (by simp)) cd (.i (.v (.inl rfl)))
      ·refine bR.mk (run_convert_bytes_back w src dst e ⟨b,off,none⟩ c l hs h8 hd fun j hj=>?_) cd (.i (.v (.inl rfl)));rw [fC,ek j hj];simp [aY,hj]
     ·cases h
    ·cases h
   ·cases h
  ·cases h
 ·cases h
def acj {ty:TypeId} {i:TI} (hi:fN P ty i) (hg:oo i.kind=false) (cs:Array Value) (off:Nat) {v:Value} (hv:cs[off]?=some v):(part ty cs off).run P w=.ok v w:=by
 have:=hi.FZ w;rw [hg] at this;simp [part,this,hv]
def adj {t:Nat} {x i:AV} {vx vi:Value} (hT:bB P T) (hx:Rd w F β x vx) (hi:Rd w F β i vi) (h:L0 T t x i k):bR P (Ob t vx vi) w F β k:=by
 unfold L0 at h;split at h
 ·rename_i ti jz;split at h
  ·rename_i s kd n hk;cases hx.bA;cases hi.bA;obtain ⟨m,rfl,b,hb,cd⟩:=h;refine bR.mk (v:=.int .u8 b.toNat) ?_ cd (.i (.v (.inl rfl)));have hu:=(hT _ _ jz).str hk
   have aH:s[m]?=some b:=by
    have Ξ:m<s.data.size:=by have:=Bb hb;simpa using this
    have h2:s.data[m]?=some b:=by simpa using hb
    have h3:s.data[m]=b:=by rw [fL Ξ] at h2;simpa using h2
    have qy:m<s.size:=Ξ;rw [getElem?_pos s m qy];exact congrArg some h3
   simp [Ob,asIntOf,run_underlying hu,aH]
  ·rename_i len e cells kd n hk;cases hi.bA;have hu:=(hT _ _ jz).arr hk;split at h
   ·rename_i j hj;cases hg:oo j.kind with
    |true=>rw [hg] at h;cases h
    |false =>
     rw [hg] at h;obtain ⟨h1,h⟩:=cond_prop h;have h1:j.cells=1:=cA h1;obtain ⟨m,rfl,hm,c,hc,cd⟩:=h;obtain ⟨us,rfl,hs,eF,im⟩:=hx.o8;have Ξ:=Bb hc;have hr:=im m Ξ;rw [sO hc] at hr;refine bR.mk (v:=us.getD m undef) ?_ cd hr;have aZ:=(hT _ _ hj).j0 w
     have eR:us[m]?=some (us.getD m undef):=by
      have:m<us.size:=by omega
      simp [this]
     have hp:=acj (w:=w) (hT _ _ hj) hg us m eR;simp [Ob,asIntOf,run_underlying hu,hm,aZ,h1,hp]
   ·cases h
  ·cases h
 ·cases h
def uy (x:Option AV) (vx:Option Value) (w:World) (F:Nat→Prop) (β:Nat→Value):Prop :=
 match x,vx with
 |none,none=>True
 |some a,some v=>Rd w F β a v
 |_,_=>False
def sA {x:Option AV} {vx:Option Value} {d:Nat} {k:Nat→Prop} (hx:uy x vx w F β) (h:qc x d k):∃m,k m∧((vx=none∧m=d)∨∃kd,vx=some (.int kd (m:Int))):=by
 unfold qc at h;split at h
 ·cases vx with
  |none=>exact ⟨d,h,.inl ⟨rfl,rfl⟩⟩
  |some v=>exact hx.elim
 ·cases vx with
  |none=>exact hx.elim
  |some v =>
   have:Rd w F β _ v:=hx;cases this.bA;obtain ⟨m,rfl,hk⟩:=h;exact ⟨m,hk,.inr ⟨_,rfl⟩⟩
 ·cases h
def wD {lo hi:Option Value} {len cap l h:Nat} {is:Bool} (hl:(lo=none∧l=0)∨∃kd,lo=some (.int kd (l:Int))) (hh:(hi=none∧h=len)∨∃kd,hi=some (.int kd (h:Int)))
  (h1:l≤h) (h2:h≤len) (h3:len≤cap):(wX is len cap lo hi none).run P w=.ok (l,h,cap) w:=by
 rcases hl with ⟨rfl,rfl⟩|⟨kl,rfl⟩<;>rcases hh with ⟨rfl,rfl⟩|⟨kh,rfl⟩
 ·simp [wX]
 ·have:(h:Int)≤(cap:Int):=by omega
  simp [wX,run_sliceBound w kh h cap _ (by omega) (by omega)]
 ·simp [wX,run_sliceBound w kl l h _ (by omega) (by omega)]
 ·simp [wX,run_sliceBound w kl l h _ (by omega) (by omega),run_sliceBound w kh h cap _ (by omega) (by omega)]
def adr {t:Nat} {x:AV} {vx:Value} {lo hi:Option AV} {vlo vhi:Option Value} (hT:bB P T) (hx:Rd w F β x vx) (jU:uy lo vlo w F β) (kp:uy hi vhi w F β)
  (hI:Inv w F β H) (h:L6 T t x lo hi none H k):bR P (kF t vx vlo vhi none) w F β k:=by
 unfold L6 at h;split at h
 ·rename_i ti mx jz _;split at h
  ·rename_i e rows hk;have hu:=(hT _ _ jz).slice hk;split at h
   ·rename_i j hj;have aZ:=(hT _ _ hj).j0 w;obtain ⟨l,h,hl⟩:=sA jU h;obtain ⟨m,⟨DZ,hm,hlen,r,rfl,cd⟩,hh⟩:=sA kp h
    have sQ:∀v,(kF t v vlo vhi none).run P w=(pX t v vlo vhi none).run P w:=by
     intro v;simp [kF,run_underlying hu]
    rcases hx.np.qM with ⟨rfl,a,rfl⟩|⟨b,off,c,K,v,hb,hc,jx,rfl,hK,hv⟩
    ·simp at hm
     have rC:l=0:=by omega
     subst hm;subst rC;refine bR.mk (v:=.slice a 0 0) ?_ cd (.i (by simpa using bh.s0));rw [sQ];have oE:(vhi=none∧(0:Nat)=0)∨∃kd,vhi=some (dB kd ((0:Nat):Int)):=hh;simp [pX,run_underlying hu,wD (P:=P) (w:=w) (is:=true) hl oE (bm _) (bm _) (bm 0),aZ]
    ·have rF:((rows.take m).drop l).length=m-l:=by simp;omega
     refine bR.mk (v:=.slice (some (if c=l then ⟨b,off,none⟩ else ⟨b,off+l*j.cells,none⟩)) (m-l) (c-l)) ?_ cd (.i ?_)
     ·rw [sQ];have I3:=wD (P:=P) (w:=w) (is:=true) hl hh DZ hm hc
      have Ed:(pX t (.slice (some ⟨b,off,none⟩) rows.length c) vlo vhi none).run P w=.ok (.slice (if c=l then some ⟨b,off,none⟩ else some ⟨b,off+l*j.cells,none⟩) (m-l) (c-l)) w:=by
       simp [pX,run_underlying hu,I3,aZ,fC]
      rw [Ed];split<;>rfl
     ·by_cases dH:c=l
      ·rw [if_pos dH]
       have:m-l=0:=by omega
       have nP:(rows.take m).drop l=[]:=by
        apply oW;omega
       rw [nP];have h0:bh w F (.s []) (.slice (some ⟨b,off,none⟩) ([]:List (List AV)).length (c-l)) :=
        .s (k:=0) (u:=fun _ _=>undef) hb (by simp) (by omega) (fun _ h=>by simp at h) (fun _ _ h=>by simp at h) (fun _ _ h=>by simp at h) (fun _ _ h=>by simp at h)
       rw [this];exact h0
      ·rw [if_neg dH,←rF];refine .s (k:=j.cells) (u:=fun q z=>v (l+q) z) hb (by omega) (by omega) (fun q hq=>?_) (fun q z hq hz=>?_) (fun q z hq hz=>?_) fun q z hq hz=>?_
       ·rw [rF] at hq;have:=hlen (l+q) (by omega);simpa [aY,gJ,fo,show l+q<m by omega] using this
       all_goals
        rw [rF] at hq
        have Am:K=j.cells:=by rw [←hK (l+q) (by omega)];exact hlen (l+q) (by omega)
        have AT:=hv (l+q) z (by omega) (by omega)
       ·rw [←AT.1,Am,bD];congr 2;omega
       ·exact AT.2.1
       ·have h3:=AT.2.2;simpa [aY,gJ,fo,show l+q<m by omega] using h3
   ·cases h
  ·rename_i e id hk;have hu:=(hT _ _ jz).slice hk;split at h
   ·rename_i j hj;have aZ:=(hT _ _ hj).j0 w;split at h
    ·rename_i E K rows hc;obtain ⟨hK,h⟩:=cond_prop h;have pj:K=j.cells:=cA hK;obtain ⟨l,⟨vw,cd⟩,hl⟩:=sA jU h;obtain ⟨a,n,c,aj,rfl⟩:=hx.jo
     have oF:n=rows.length∧n≤c:=by
      rcases qI (hI.holds _ _ (eE hc)) with ⟨rfl,a2,hv⟩|⟨g,cap,hv,_,ig⟩
      ·rw [aj] at hv;cases hv;exact ⟨rfl,bm _⟩
      ·rw [aj] at hv;cases hv;exact ⟨rfl,ig⟩
     have J5:vhi=none:=by
      cases vhi with
      |none=>rfl
      |some v=>exact kp.elim
     subst J5;have hb:=wD (P:=P) (w:=w) (is:=true) (hi:=none) (len:=n) (cap:=c) (l:=l) (h:=n) hl (.inl ⟨rfl,rfl⟩) (by omega) (bm _) (by omega);refine bR.mk (v:=.slice (if c=l then a else a.map (·.add (l*j.cells))) (n-l) (c-l)) ?_ cd ?_
     ·simp [kF,pX,run_underlying hu,hb,aZ]
     ·refine .w aj (by omega) fun Ξ=>?_;rw [if_neg (by omega),←pj]
    ·cases h
   ·cases h
  ·rename_i e id Kw d hk;have hu:=(hT _ _ jz).slice hk;split at h
   ·rename_i j hj;have aZ:=(hT _ _ hj).j0 w;split at h
    ·rename_i E K rows hc;obtain ⟨hK,h⟩:=cond_prop h;simp only [bM] at hK;have pj:K=j.cells:=cA hK.1;have IX:Kw=K:=cA hK.2;subst IX;obtain ⟨l,⟨vw,cd⟩,hl⟩:=sA jU h;obtain ⟨a,a',n,c,aj,hd,ha,rfl⟩:=hx.ub
     have oF:n=rows.length∧n≤c:=by
      rcases qI (hI.holds _ _ (eE hc)) with ⟨rfl,a2,hv⟩|⟨g,cap,hv,_,ig⟩
      ·rw [aj] at hv;cases hv;exact ⟨rfl,bm _⟩
      ·rw [aj] at hv;cases hv;exact ⟨rfl,ig⟩
     have J5:vhi=none:=by
      cases vhi with
      |none=>rfl
      |some v=>exact kp.elim
     subst J5;have hb:=wD (P:=P) (w:=w) (is:=true) (hi:=none) (len:=n-d) (cap:=c-d) (l:=l) (h:=n-d) hl (.inl ⟨rfl,rfl⟩) (by omega) (bm _) (by omega);refine bR.mk (v:=.slice (if c-d=l then a' else a'.map (·.add (l*j.cells))) (n-d-l) (c-d-l)) ?_ cd ?_
     ·simp [kF,pX,run_underlying hu,hb,aZ]
     ·have e1:n-d-l=n-(d+l):=by omega
      have e2:c-d-l=c-(d+l):=by omega
      rw [e1,e2];refine .w aj (by omega) fun Ξ=>?_;rw [if_neg (by omega),ha (by omega),←pj,Option.map_map];congr 1;funext ad;show (ad.add (d*Kw)).add (l*Kw)=_;rw [Addr.add_add,←bD]
    ·cases h
   ·cases h
  ·rename_i e hk;cases hx.bA;have hu:=(hT _ _ jz).slice hk;split at h
   ·rename_i j hj;have aZ:=(hT _ _ hj).j0 w;obtain ⟨l,h,hl⟩:=sA jU h;obtain ⟨m,⟨DZ,hm,cd⟩,hh⟩:=sA kp h
    have mY:m=0:=by omega
    have rC:l=0:=by omega
    subst mY;subst rC;have oE:(vhi=none∧(0:Nat)=0)∨∃kd,vhi=some (dB kd ((0:Nat):Int)):=hh;refine bR.mk (v:=.slice none 0 0) ?_ cd (.i (.v (.inl rfl)));simp [kF,pX,run_underlying hu,wD (P:=P) (w:=w) (is:=true) hl oE (bm _) (bm _) (bm 0),aZ]
   ·cases h
  ·rename_i s hk;cases hx.bA;have hu:=(hT _ _ jz).str hk;obtain ⟨l,h,hl⟩:=sA jU h;obtain ⟨m,⟨DZ,hm,r,rfl,cd⟩,hh⟩:=sA kp h;refine bR.mk (v:=.string (s.extract l m)) ?_ cd (.i (.v (.inl rfl)));simp [kF,pX,run_underlying hu,wD (P:=P) (w:=w) (is:=false) hl hh DZ hm (bm _)]
  ·cases h
 ·cases h
def ado {x:AV} {vx:Value} (hx:Rd w F β x vx) (h:L4 x k) :
  (∃r,k r∧Rd w F β r vx)∧((∃a,vx=.pointer (some a))∨∃g fs cs,vx=.func (.func g) fs cs):=by
 unfold L4 at h;split at h
 ·obtain ⟨e9,hb,rfl⟩:=hx.lh;exact ⟨⟨_,h,hx⟩,.inl ⟨_,rfl⟩⟩
 ·have hp:=hx.yx;cases hp;exact ⟨⟨_,h,hx⟩,.inl ⟨_,rfl⟩⟩
 ·obtain ⟨g,n,c,hb,rfl⟩:=hx.xq;exact ⟨⟨_,h,hx⟩,.inl ⟨_,rfl⟩⟩
 ·obtain ⟨us,vs,rfl,_⟩:=hx.lT;exact ⟨⟨_,h,hx⟩,.inr ⟨_,_,_,rfl⟩⟩
 ·cases h
def adk {t ty:Nat} {x:AV} {vx:Value} (hT:bB P T) (hI:Inv w F β H) (hx:Rd w F β x vx) (h:kz T t x H k):bR P (rZ #[t] ty #[vx]) w F β k:=by
 unfold kz at h;split at h
 ·rename_i i hi;split at h
  ·rename_i e rows hk;have hu:=(hT _ _ hi).slice hk;obtain ⟨n,rfl,h⟩:=h
   rcases hx.np.qM with ⟨rfl,a,rfl⟩|⟨b,off,c,K,v,hb,hc,jx,rfl,hK,hv⟩
   ·exact bR.mk (by simp [rZ,run_underlying hu,goInt]) (h (by simp)) (.i (.v (.inl rfl)))
   ·exact bR.mk (by simp [rZ,run_underlying hu,goInt]) (h (by omega)) (.i (.v (.inl rfl)))
  ·rename_i e hk;have hu:=(hT _ _ hi).slice hk;cases hx.bA;exact bR.mk (by simp [rZ,run_underlying hu,goInt]) h (.i (.v (.inl rfl)))
  ·rename_i e id hk;have hu:=(hT _ _ hi).slice hk;split at h
   ·rename_i E K rows hc;obtain ⟨n,rfl,h⟩:=h;obtain ⟨a,n,c,aj,rfl⟩:=hx.jo
    have hn:n=rows.length∧rows.length≤maxLen:=by
     rcases qI (hI.holds _ _ (eE hc)) with ⟨rfl,a',hv⟩|⟨g,cap,hv,hm,hn⟩
     ·rw [aj] at hv;cases hv;exact ⟨rfl,by simp⟩
     ·rw [aj] at hv;cases hv;exact ⟨rfl,by omega⟩
    obtain ⟨rfl,hm⟩:=hn;exact bR.mk (by simp [rZ,run_underlying hu,goInt]) (h hm) (.i (.v (.inl rfl)))
   ·cases h
  ·rename_i e id Kw d hk;have hu:=(hT _ _ hi).slice hk;split at h
   ·rename_i E K rows hc;obtain ⟨n,rfl,h⟩:=h;obtain ⟨a,a',n,c,aj,hd,ha,rfl⟩:=hx.ub
    have hn:n=rows.length∧rows.length≤maxLen:=by
     rcases qI (hI.holds _ _ (eE hc)) with ⟨rfl,a2,hv⟩|⟨g,cap,hv,hm,hn⟩
     ·rw [aj] at hv;cases hv;exact ⟨rfl,by simp⟩
     ·rw [aj] at hv;cases hv;exact ⟨rfl,by omega⟩
    obtain ⟨rfl,hm⟩:=hn;exact bR.mk (by simp [rZ,run_underlying hu,goInt]) (h (by omega)) (.i (.v (.inl rfl)))
   ·cases h
  ·rename_i kt e id hk;have hu:=(hT _ _ hi).map hk;split at h
   ·rename_i ag rows hc;obtain ⟨n,rfl,h⟩:=h;obtain ⟨b,aj,rfl⟩:=hx.vY;obtain ⟨b',es,ck,ir,hh,_,hs,hm,_⟩:=hI.holds _ _ (eE hc);rw [aj] at ir;cases ir;have hg:=VT (P:=P) hh;exact bR.mk (v:=.int .i64 rows.length) (by simp [rZ,run_underlying hu,goInt,hg,hs]) (h (by omega)) (.i (.v (.inl rfl)))
   ·cases h
  ·rename_i s hk;have hu:=(hT _ _ hi).str hk;cases hx.bA;obtain ⟨n,rfl,h⟩:=h;exact bR.mk (by simp [rZ,run_underlying hu,goInt]) h (.i (.v (.inl rfl)))
  ·rename_i n e hk;have hu:=(hT _ _ hi).arr hk;exact bR.mk (by simp [rZ,run_underlying hu,goInt]) h (.i (.v (.inl rfl)))
  ·cases h
 ·cases h
def Uf {len cap h q:Nat} {kh km:IntKind} (h1:h≤q) (h2:q≤cap):(wX true len cap none (some (.int kh (h:Int))) (some (.int km (q:Int)))).run P w=.ok (0,h,q) w:=by
 simp [wX,run_sliceBound w km q cap _ (by omega) (by omega),run_sliceBound w kh h q _ (by omega) (by omega)]
def adq {t:Nat} {x hi mx:AV} {vx vhi vmx:Value} (hT:bB P T) (hx:Rd w F β x vx) (kp:Rd w F β hi vhi) (fG:Rd w F β mx vmx)
  (h:Cf T t x none (some hi) mx k):bR P (kF t vx none (some vhi) (some vmx)) w F β k:=by
 unfold Cf at h;split at h
 ·rename_i ti kh nh rows km nm jz _ Yj;cases Yj;split at h
  ·rename_i e hk;have hu:=(hT _ _ jz).slice hk;split at h
   ·rename_i j hj;have aZ:=(hT _ _ hj).j0 w;obtain ⟨m,q,rfl,rfl,hmq,hq,hlen,r,rfl,cd⟩:=h;cases kp.bA;cases fG.bA
    have sQ:∀v vlo vhi vm,(kF t v vlo vhi vm).run P w=(pX t v vlo vhi vm).run P w:=by
     intro v _ _ _;simp [kF,run_underlying hu]
    rcases hx.np.qM with ⟨rfl,a,rfl⟩|⟨b,off,c,K,v,hb,hc,jx,rfl,hK,hv⟩
    ·have Rh:q=0:=by simpa using hq
     have mY:m=0:=by omega
     subst Rh;subst mY;refine bR.mk (v:=.slice a 0 0) ?_ cd (.i (by simpa using bh.s0));rw [sQ];have:=Uf (P:=P) (w:=w) (len:=0) (cap:=0) (h:=0) (q:=0) (kh:=kh) (km:=km) (bm _) (bm _);simp only [Int.natCast_zero] at this ⊢;simp [pX,run_underlying hu,this,aZ]
    ·have rF:(rows.take m).length=m:=by simp;omega
     refine bR.mk (v:=.slice (some ⟨b,off,none⟩) m q) ?_ cd (.i ?_)
     ·rw [sQ];have I3:=Uf (P:=P) (w:=w) (len:=rows.length) (cap:=c) (h:=m) (q:=q) (kh:=kh) (km:=km) hmq (by omega);simp [pX,run_underlying hu,I3,aZ,fC]
     ·have:=bh.s (w:=w) (F:=F) (rows:=rows.take m) (b:=b) (off:=off) (c:=q) (k:=j.cells) (u:=fun q z=>v q z) hb (by omega) (by omega) (fun q hq=>by
        rw [rF] at hq;have:=hlen q (by omega)
        simpa [aY,fo,show q<m by omega] using this) (fun i z hi hz=>by
        rw [rF] at hi
        have Am:K=j.cells:=by rw [←hK i (by omega)];exact hlen i (by omega)
        have AT:=hv i z (by omega) (by omega)
        rw [←AT.1,Am]) (fun i z hi hz=>by
        rw [rF] at hi
        have Am:K=j.cells:=by rw [←hK i (by omega)];exact hlen i (by omega)
        exact (hv i z (by omega) (by omega)).2.1) (fun i z hi hz=>by
        rw [rF] at hi
        have Am:K=j.cells:=by rw [←hK i (by omega)];exact hlen i (by omega)
        have h3:=(hv i z (by omega) (by omega)).2.2
        simpa [aY,fo,show i<m by omega] using h3)
      rw [rF] at this;exact this
   ·cases h
  ·cases h
 ·cases h
end
section
variable {P:Program} {T:TT} {w:World} {F:Nat→Prop} {β:Nat→Value} {H:Hp} {k:AV→Prop}
def p_ (w:World) (F:Nat→Prop) (β:Nat→Value) (xs:List AV) (us:Array Value):Prop :=
 us.size=xs.length∧∀i,i<xs.length→(us.getD i undef).oneCell'=true∧Rd w F β (xs.getD i .χ) (us.getD i undef)
def abY {x:AV} (h:iL x=true):(∃cs,x=.a cs)∨(rM x=true∧bn x=[x]):=by
 cases x<;>first|exact .inl ⟨_,rfl⟩|exact .inr ⟨h,rfl⟩
def nD {x:AV} {u:Value} (h:Rd w F β x u) (hx:iL x=true):p_ w F β (bn x) u.cells:=by
 rcases abY hx with ⟨cs,rfl⟩|⟨hc,hl⟩
 ·obtain ⟨us,rfl,hs,h1,hr⟩:=h.o8;exact ⟨hs,fun i hi=>⟨h1 i hi,hr i hi⟩⟩
 ·have h1:=aa_ hc h
  have hc:u.cells=#[u]:=by cases u<;>simp [ahi] at h1<;>rfl
  rw [hc,hl];refine ⟨rfl,fun i hi=>?_⟩;simp at hi;subst hi;exact ⟨h1,h⟩
def P2 (off:Nat):∀(l:List Value) (n:Nat) (cs:Array Value),off+n+l.length≤cs.size →
  (l.zipIdx n).foldl (fun cs x=>cs.setIfInBounds (off+x.2) x.1) cs=(cs.toList.take (off+n)++l++cs.toList.drop (off+n+l.length)).toArray:=by
 intro l;induction l with
 |nil=>intro n cs h;simp
 |cons x r ih =>
  intro n cs h;simp only [cr] at h;simp only [List.zipIdx_cons,List.foldl_cons];rw [ih (n+1) _ (by simp;omega)]
  have h1:off+n<cs.toList.length:=by simp;omega
  have e1:(cs.toList.set (off+n) x).take (off+(n+1))=cs.toList.take (off+n)++[x]:=by
   rw [show off+(n+1)=off+n+1 by omega,List.take_succ_eq_append_getElem (by simpa using h1)];rw [List.take_set,List.set_eq_of_length_le (by simp;omega)];simp
  have e2:(cs.toList.set (off+n) x).drop (off+(n+1)+r.length)=cs.toList.drop (off+n+(r.length+1)):=by
   rw [List.drop_set,if_pos (by omega),show off+(n+1)+r.length=off+n+(r.length+1) by omega]
  simp only [Array.toList_setIfInBounds,e1,e2,cr];simp
def PV {SY:Nat→Option (Nat×Nat)} {placeC:Nat→Option (Nat×Nat)} (hp:∀i x,SY i=some x→placeC i=some x) :
  ∀(parts:List (Nat×AV)) (vs:List (Nat×Value)) (cells uG:List AV) (us:Array Value),parts.length=vs.length →
   (∀i,i<parts.length→(parts.getD i (0,.χ)).1=(vs.getD i (0,undef)).1∧Rd w F β (parts.getD i (0,.χ)).2 (vs.getD i (0,undef)).2) →
   p_ w F β cells us→xy SY parts cells=some uG→∃nZ,r_ placeC us vs=some nZ∧p_ w F β uG nZ:=by
 intro parts;induction parts with
 |nil =>
  intro vs cells uG us hl _ hr h;cases vs with
  |nil=>simp [xy] at h;subst h;exact ⟨us,rfl,hr⟩
  |cons=>simp at hl
 |cons p r ih =>
  intro vs cells uG us hl hv hr h;cases vs with
  |nil=>simp at hl
  |cons q s =>
   obtain ⟨i,x⟩:=p;obtain ⟨i',u⟩:=q;have h0:=hv 0 (by simp);simp at h0;obtain ⟨rfl,hu⟩:=h0;simp only [xy] at h;split at h
   ·cases h
   ·rename_i off size s8;cases hb:(iL x&&(aG (bn x).length size&&og (off+size) cells.length)) with
    |false=>rw [hb] at h;cases h
    |true =>
     rw [hb] at h;simp only [bM] at hb;obtain ⟨bK,aZ,hle⟩:=hb;have aZ:(bn x).length=size:=cA aZ
     have hle:off+size≤cells.length:=by simpa using hle
     obtain ⟨ah,aQ⟩:=nD hu bK;have As:=P2 off u.cells.toList 0 us (by simp;rw [ah,hr.1];omega);simp only [kJ] at As
     have hz:u.cells.zipIdx.foldl (fun cs x=>cs.setIfInBounds (off+x.2) x.1) us=(us.toList.take off++u.cells.toList++us.toList.drop (off+u.cells.toList.length)).toArray:=by
      rw [←As,←VJ,VP]
     have cj:p_ w F β (cells.take off++(bn x++cells.drop (off+size))) (us.toList.take off++u.cells.toList++us.toList.drop (off+u.cells.toList.length)).toArray:=by
      have eG:us.toList.length=cells.length:=by simpa using hr.1
      have agX:us.size=cells.length:=hr.1
      have dH:u.cells.toList.length=size:=by simp;rw [ah];exact aZ
      refine ⟨by simp only [j6,cZ,da,lP];omega,fun j hj=>?_⟩;simp only [cZ,da,lP] at hj;have key:∀(d:Value),(us.toList.take off++u.cells.toList++us.toList.drop (off+u.cells.toList.length)).toArray.getD j d =
        if j<off then us.getD j d else if j<off+size then u.cells.getD (j-off) d else us.getD j d:=by
       intro d;simp only [j3,V8,fW,cZ,da,dH,fo,gJ];by_cases h1:j<off
       ·simp [h1,show j<min off us.size+size by omega,show j<min off us.size by omega]
       ·by_cases h2:j<off+size
        ·simp [h1,h2,show min off us.size=off by omega]
        ·simp [h1,h2,show min off us.size=off by omega,show off+size+(j-(off+size))=j by omega]
      have vS:(cells.take off++(bn x++cells.drop (off+size))).getD j .χ=if j<off then cells.getD j .χ else if j<off+size then (bn x).getD (j-off) .χ else cells.getD j .χ:=by
       simp only [aY,fW,da,aZ,fo,gJ];by_cases h1:j<off
       ·simp [h1,show j<min off cells.length by omega]
       ·by_cases h2:j<off+size
        ·simp [h1,h2,show min off cells.length=off by omega,show j-off<size by omega]
        ·simp [h1,h2,show min off cells.length=off by omega,show ¬j-off<size by omega,show off+size+(j-off-size)=j by omega]
      rw [key,vS];by_cases h1:j<off
      ·rw [if_pos h1,if_pos h1];exact hr.2 j (by omega)
      ·rw [if_neg h1,if_neg h1];by_cases h2:j<off+size
       ·rw [if_pos h2,if_pos h2];exact aQ (j-off) (by omega)
       ·rw [if_neg h2,if_neg h2];exact hr.2 j (by omega)
     obtain ⟨nZ,hf,aau⟩:=ih s _ uG _ (by simpa using hl) (fun m hm=>by have:=hv (m+1) (by simp;omega);simpa using this) cj h;refine ⟨nZ,?_,aau⟩;simp only [r_,hp _ _ s8];rw [if_neg ?_]
     ·have iq:(Array.foldl (fun cs (x:Value×Nat)=>cs.setIfInBounds (off+x.2) x.1) us u.cells.zipIdx)=(us.toList.take off++u.cells.toList++us.toList.drop (off+u.cells.toList.length)).toArray:=hz;exact (congrArg (fun z=>r_ placeC z s) iq).trans hf
     ·simp only [qT,ne_eq,decide_eq_true_eq,not_or,decide_not,my];rw [ah,aZ,hr.1];simp;omega
def abW {z:Value} {zs:List AV} (h:bQ z=.a zs):p_ w F β zs z.cells:=by
 have hr:=ml w F z β;rw [h] at hr;obtain ⟨us,rfl,hs,h1,h2⟩:=hr.o8;exact ⟨hs,fun i hi=>⟨h1 i hi,h2 i hi⟩⟩
def p_.agg {xs:List AV} {us:Array Value} (h:p_ w F β xs us):Rd w F β (.a xs) (.agg us):=.a h.1 (fun i hi=>(h.2 i hi).1) fun i hi=>(h.2 i hi).2
def run_places (hT:bB P T):∀(fields:List Field),Da T (fields.map fun f=>(f.offset,f.type))=true →
  ∃ps:List (Nat×Nat),(List.mapM (fun f:Field=>(do pure (f.offset,←sizeOf f.type):Sem (Nat×Nat))) fields).run P w=.ok ps w ∧
   ∀i x,Bn T (fields.map fun f=>(f.offset,f.type)) i=some x→ps[i]?=some x
 |[],_=>⟨[],by simp,fun i x h=>by simp [Bn] at h⟩
 |f::r,ha=>by
  simp only [eT,Da,bM] at ha;obtain ⟨ps,hr,hp⟩:=run_places hT r ha.2;obtain ⟨j,hj⟩:=Option.isSome_iff_exists.1 ha.1;have aZ:=(hT _ _ hj).j0 w;refine ⟨(f.offset,j.cells)::ps,by rw [List.mapM_cons];simp only [jK,Hc,k_,aZ,hr],fun i x h=>?_⟩;cases i with
  |zero =>
   simp [Bn,hj] at h;simpa using h
  |succ i=>exact hp i x (by simpa [Bn] using h)
def ac_ {t:Nat} {parts:List (Nat×AV)} {vs:Array (Nat×Value)} (hT:bB P T) (hl:parts.length=vs.size)
  (hv:∀i,i<parts.length→(parts.getD i (0,.χ)).1=(vs.toList.getD i (0,undef)).1∧Rd w F β (parts.getD i (0,.χ)).2 (vs.toList.getD i (0,undef)).2)
  (h:LW T t parts k):bR P (N_ t vs) w F β k:=by
 unfold LW at h;split at h
 ·rename_i i hi;have hz:=(hT _ _ hi).qL w;split at h
  ·rename_i zs gT;have AZ:=abW (w:=w) (F:=F) (β:=β) gT;split at h
   ·rename_i fs Au;obtain ⟨dv,h⟩:=cond_prop h;obtain ⟨fields,hu,rfl⟩:=(hT _ _ hi).struct Au;split at h
    ·rename_i cells hf;obtain ⟨ps,hr,hp⟩:=run_places (w:=w) hT fields.toList dv;obtain ⟨nZ,py,cj⟩:=PV (w:=w) (F:=F) (β:=β) (placeC:=fun j=>ps.toArray[j]?) (fun i x hx=>by simpa using hp i x hx) parts vs.toList zs cells i.zero.cells (by simpa using hl) hv AZ hf;refine bR.mk (v:=.agg nZ) ?_ h cj.agg
     have hm:(fields.mapM (fun f=>(do pure (f.offset,←sizeOf f.type):Sem (Nat×Nat)))).run P w=.ok ps.toArray w:=by
      rw [Array.mapM_eq_mapM_toList];simp only [Sem.run_map,hr,k_]
     unfold N_;simp only [jK,hz,k_,run_underlying hu,hm,py,Hc]
    ·cases h
   ·rename_i n e he;have hu:=(hT _ _ hi).arr he;split at h
    ·rename_i j hj;have aZ:=(hT _ _ hj).j0 w;split at h
     ·rename_i cells hf;obtain ⟨nZ,py,cj⟩:=PV (w:=w) (F:=F) (β:=β) (placeC:=fun i=>some (i*j.cells,j.cells)) (fun i x hx=>hx) parts vs.toList zs cells i.zero.cells (by simpa using hl) hv AZ hf;refine bR.mk (v:=.agg nZ) ?_ h cj.agg;unfold N_;simp only [jK,hz,k_,run_underlying hu,aZ,py,Hc]
     ·cases h
    ·cases h
   ·cases h
  ·cases h
 ·cases h
def Ud {size:Nat}:∀{parts:List (Nat×AV)} {n:Nat} {rows:List (List AV)},rowsOf size n parts=some rows→rows.length=parts.length∧∀i,i<parts.length →
  (parts.getD i (0,.χ)).1=n+i∧iL (parts.getD i (0,.χ)).2=true∧(bn (parts.getD i (0,.χ)).2).length=size∧rows.getD i []=bn (parts.getD i (0,.χ)).2
 |[],n,rows,h=>by simp [rowsOf] at h;subst h;exact ⟨rfl,fun i hi=>by simp at hi⟩
 |(m,x)::r,n,rows,h=>by
  simp only [rowsOf] at h;cases hb:(aG m n&&(iL x&&aG (bn x).length size)) with
  |false=>rw [hb] at h;cases h
  |true =>
   rw [hb] at h;simp only [bM] at hb;obtain ⟨hm,bK,hs⟩:=hb;have hm:m=n:=cA hm;have hs:(bn x).length=size:=cA hs;cases hr:rowsOf size (n+1) r with
   |none=>rw [hr] at h;cases h
   |some rs =>
    rw [hr] at h;simp only [cond_true,CT,CU] at h;subst h;obtain ⟨hl,hi⟩:=Ud hr;refine ⟨by simp [hl],fun i Ξ=>?_⟩;cases i with
    |zero=>exact ⟨by simpa using hm,bK,hs,rfl⟩
    |succ i =>
     have:=hi i (by simpa using Ξ);simpa [CS,Nat.add_comm 1 i] using this
def Il {size:Nat}:∀(rows:List (List AV)) (i j:Nat),(∀i,i<rows.length→(rows.getD i []).length=size)→i<rows.length→j<size→rows.flatten.getD (i*size+j) .χ=(rows.getD i []).getD j .χ
 |[],i,j,_,hi,_=>by simp at hi
 |r::rs,i,j,h,hi,hj=>by
  have hr:r.length=size:=by simpa using h 0 (by simp)
  cases i with
  |zero=>simp [aY,fW,hr,hj]
  |succ i =>
   have ih:=Il rs i j (fun m hm=>by simpa using h (m+1) (by simpa using hm)) (by simpa using hi) hj
   have e:(i+1)*size+j=size+(i*size+j):=by rw [bD];omega
   rw [e];simpa [aY,fW,hr,show ¬size+(i*size+j)<size by omega] using ih
def Dx {size:Nat}:∀(rows:List (List AV)),(∀i,i<rows.length→(rows.getD i []).length=size)→rows.flatten.length=rows.length*size
 |[],_=>by simp
 |r::rs,h=>by
  have hr:r.length=size:=by simpa using h 0 (by simp)
  have ih:=Dx rs (fun m hm=>by simpa using h (m+1) (by simpa using hm));simp [hr,ih,bD];omega
def YC {size:Nat} (eh:0<size):∀(parts:List (Nat×AV)) (vs:List (Nat×Value)) (n:Nat) (rows:List (List AV)) (done:List AV) (us:Array Value),parts.length=vs.length →
  (∀i,i<parts.length→(parts.getD i (0,.χ)).1=(vs.getD i (0,undef)).1∧Rd w F β (parts.getD i (0,.χ)).2 (vs.getD i (0,undef)).2) →
  rowsOf size n parts=some rows→done.length=n*size→us.size=(n+parts.length)*size →
  (∀i,i<done.length→(us.getD i undef).oneCell'=true∧Rd w F β (done.getD i .χ) (us.getD i undef)) →
  ∃nZ,r_ (fun i=>some (i*size,size)) us vs=some nZ∧p_ w F β (done++rows.flatten) nZ:=by
 intro parts;induction parts with
 |nil =>
  intro vs n rows done us hl hv hr hd hu Jc;cases vs with
  |cons=>simp at hl
  |nil =>
   simp [rowsOf] at hr;subst hr;refine ⟨us,rfl,?_,fun i hi=>?_⟩
   ·simpa [hd] using hu
   ·simpa using Jc i (by simpa using hi)
 |cons p r ih =>
  intro vs n rows done us hl hv hr hd hu Jc;cases vs with
  |nil=>simp at hl
  |cons q s =>
   obtain ⟨m,x⟩:=p;obtain ⟨m',u⟩:=q;have h0:=hv 0 (by simp);simp at h0;obtain ⟨rfl,hxu⟩:=h0;simp only [rowsOf] at hr;cases hb:(aG m n&&(iL x&&aG (bn x).length size)) with
   |false=>rw [hb] at hr;cases hr
   |true =>
    rw [hb] at hr;simp only [bM] at hb;obtain ⟨hm,bK,hs⟩:=hb;obtain rfl:m=n:=cA hm;have hs:(bn x).length=size:=cA hs;cases na:rowsOf size (m+1) r with
    |none=>rw [na] at hr;cases hr
    |some rs =>
     rw [na] at hr;simp only [cond_true,CT,CU] at hr;subst hr;obtain ⟨ah,aQ⟩:=nD hxu bK
     have eG:us.size=m*size+(size+r.length*size):=by
      rw [hu];simp only [cr,bD];omega
     have dH:u.cells.toList.length=size:=by simp;rw [ah];exact hs
     have As:=P2 (m*size) u.cells.toList 0 us (by rw [dH];omega);simp only [kJ] at As
     have hz:u.cells.zipIdx.foldl (fun cs x=>cs.setIfInBounds (m*size+x.2) x.1) us=(us.toList.take (m*size)++u.cells.toList++us.toList.drop (m*size+u.cells.toList.length)).toArray:=by
      rw [←As,←VJ,VP]
     have key:∀j,j<(done++bn x).length→((us.toList.take (m*size)++u.cells.toList++us.toList.drop (m*size+u.cells.toList.length)).toArray.getD j undef)=if j<m*size then us.getD j undef else u.cells.getD (j-m*size) undef:=by
      intro j hj;simp only [cZ,hd,hs] at hj;simp only [j3,V8,fW,cZ,da,dH,fo,gJ];by_cases h1:j<m*size
      ·simp [h1,show j<min (m*size) us.size+size by omega,show j<min (m*size) us.size by omega]
      ·simp [h1,show min (m*size) us.size=m*size by omega,show j<m*size+size by omega]
     obtain ⟨nZ,hf,cj⟩:=ih s (m+1) rs (done++bn x) (us.toList.take (m*size)++u.cells.toList++us.toList.drop (m*size+u.cells.toList.length)).toArray (by simpa using hl) (fun i hi=>by have:=hv (i+1) (by simp;omega);simpa using this) na
      (by simp [hd,hs,bD])
      (by simp only [j6,cZ,da,lP,dH,Array.length_toList,bD];omega)
      (fun i hi=>by
       rw [key i hi];by_cases h1:i<m*size
       ·rw [if_pos h1]
        have e:(done++bn x).getD i .χ=done.getD i .χ:=by simp [aY,fW,hd,h1]
        rw [e];exact Jc i (by omega)
       ·rw [if_neg h1]
        have bj:i<m*size+size:=by simpa [hd,hs] using hi
        have e:(done++bn x).getD i .χ=(bn x).getD (i-m*size) .χ:=by simp [aY,fW,hd,h1]
        rw [e];exact aQ _ (by omega))
     refine ⟨nZ,?_,by simpa using cj⟩;simp only [r_];rw [if_neg ?_]
     ·exact (congrArg (fun z=>r_ (fun i=>some (i*size,size)) z s) hz).trans hf
     ·simp only [qT,ne_eq,decide_eq_true_eq,not_or,decide_not,my];rw [ah,hs];simp;omega
def mj {x:AV} {u:Value} (hx:eL x=true) (h:Rd w F β x u):bh w F x u:=by
 cases x<;>first|(cases hx;done)|(cases h;assumption)
def Ek {x:AV} {u:Value} (hx:jB x=true) (h:Rd w F β x u):bh w F x u:=by
 have get:∀(l:List AV) (i:Nat),l.all eL=true→i<l.length→eL (l.getD i .χ)=true:=fun l i hl hi=>by
  have:=dJ.1 hl (l.getD i .χ) (by simp [aY,hi]);exact this
 cases x with
 |a cs =>
  obtain ⟨us,rfl,hs,h1,hr⟩:=h.o8;exact .a hs h1 fun i hi=>mj (get cs i hx hi) (hr i hi)
 |t cs =>
  obtain ⟨us,rfl,hs,hr⟩:=h.ze;exact .t hs fun i hi=>mj (get cs i hx hi) (hr i hi)
 |c fn fs cs =>
  simp only [jB,bM] at hx;obtain ⟨us,vs,rfl,hs,dL,hr,cj⟩:=h.lT;exact .c hs dL (fun i hi=>mj (get fs i hx.1 hi) (hr i hi)) fun i hi=>mj (get cs i hx.2 hi) (cj i hi)
 |_=>exact mj hx h
def PZ {ag:Bool} {rows:List (Int×List AV)} {es:Array MapEntry} {ck:Nat} (dy:VS es ck) (hs:es.size=rows.length)
  (hr:∀(i:Nat) (r:Int×List AV),rows[i]?=some r→∃e:MapEntry,es[i]?=some e∧e.key=.int .i64 r.1∧Ψ r.1∧bh w F (pS ag r.2) e.val) (n:Int) :
  (∀x∈es.toList,VR (.int .i64) x.key) ∧
  ((ahl (.int .i64) (.int .i64 n) es.toList 0=some none∧iu n rows=none∧(∀x∈es.toList,x.key≠.int .i64 n)) ∨
   ∃(j:Nat) (e:MapEntry) (c:List AV),ahl (.int .i64) (.int .i64 n) es.toList 0=some (some (j,e.val))∧es[j]?=some e∧e.key=.int .i64 n∧rows[j]?=some (n,c)∧iu n rows=some c∧bh w F (pS ag c) e.val ∧
    ∀v,fB n v rows=rows.set j (n,v)):=by
 have kQ:∀(i:Nat) (e:MapEntry),es[i]?=some e→∃r,rows[i]?=some r∧e.key=.int .i64 r.1∧bh w F (pS ag r.2) e.val:=fun i e he=>by
  have Ξ:i<rows.length:=by have:=(j4.1 he).1;omega
  obtain ⟨e',h1,h2,_,h4⟩:=hr i rows[i] (bO Ξ);rw [he] at h1;cases h1;exact ⟨_,bO Ξ,h2,h4⟩
 have dv:∀x∈es.toList,VR (.int .i64) x.key:=fun x hx=>by
  obtain ⟨i,hi⟩:=List.mem_iff_getElem?.1 hx;obtain ⟨r,_,h2,_⟩:=kQ i x (by simpa using hi);rw [h2];rfl
 refine ⟨dv,?_⟩;have sQ:=EF n ([]:List AV) rows
 rcases Go.MapKept.findNow_spec (d:=.int .i64) (k:=.int .i64 n) rfl es.toList 0 dv with ⟨h1,h2⟩|⟨j,e,h1,h2,h3⟩
 ·refine .inl ⟨h1,?_,h2⟩
  rcases sQ with ⟨h,_,_⟩|⟨j,c,hj,_⟩
  ·exact h
  ·obtain ⟨e,he,hk,_⟩:=hr j _ hj;exact (h2 e (by rw [←Array.getElem?_toList] at he;exact iN he) hk).elim
 ·have gQ:es[j]?=some e:=by simpa using h2
  obtain ⟨r,JP,AM,hrv⟩:=kQ j e gQ
  have Ed:r.1=n:=by rw [h3] at AM;cases AM;rfl
  obtain ⟨rn,rc⟩:=r;dsimp only at Ed;subst Ed;refine .inr ⟨j,e,rc,by simpa using h1,gQ,h3,JP,?_⟩
  have uniq:∀(i:Nat) c,rows[i]?=some (rn,c)→i=j:=fun i c hi=>by
   obtain ⟨e',fP,cd,_⟩:=hr i _ hi;have cX:=dy.2.2
   have l1:(es.toList.map (·.key))[i]?=some (.int .i64 rn):=by rw [nu];simp [fP,cd]
   have l2:(es.toList.map (·.key))[j]?=some (.int .i64 rn):=by rw [nu];simp [gQ,h3]
   have cX:=List.pairwise_iff_getElem.1 cX;obtain ⟨a1,a2⟩:=fX.1 l1;obtain ⟨b1,b2⟩:=fX.1 l2
   rcases Nat.lt_trichotomy i j with h|h|h
   ·exact (cX i j a1 b1 h (by rw [a2,b2])).elim
   ·exact h
   ·exact (cX j i b1 a1 h (by rw [a2,b2])).elim
  rcases sQ with ⟨_,_,h⟩|⟨i,c,hi,hg,_,Ξ⟩
  ·exact (h _ (iN JP) rfl).elim
  ·have et:=uniq i c hi;subst et;rw [JP] at hi;cases hi;refine ⟨hg,hrv,fun v=>?_⟩
   rcases EF rn v rows with ⟨h,_,_⟩|⟨i',c',bj,_,dL,_⟩
   ·rw [hg] at h;cases h
   ·rw [dL,uniq i' c' bj]
def St {ag:Bool} {y:AV} {u:Value} {yc:List AV} (h:vZ ag y=some yc) (hy:Rd w F β y u):bh w F (pS ag yc) u:=by
 cases ag with
 |true =>
  cases y<;>simp [vZ] at h;rename_i cs;cases hc:cs.all eL with
  |false=>rw [hc] at h;cases h
  |true =>
   rw [hc] at h;cases h;exact Ek (x:=.a yc) (by simpa [jB] using hc) hy
 |false =>
  by_cases hc:∃fn,y=.c fn [] []
  ·obtain ⟨fn,rfl⟩:=hc;cases (show some [AV.c fn [] []]=some yc from h);obtain ⟨us,vs,rfl,h1,h2,_,_⟩:=hy.lT
   exact .c h1 h2 (fun i hi=>by simp at hi) fun i hi=>by simp at hi
  have hi:eL y=true∧yc=[y]:=by
   cases y with
   |c fn fs cs =>
    cases fs with
    |cons a b=>simp [vZ,eL] at h
    |nil=>cases cs with
     |cons a b=>simp [vZ,eL] at h
     |nil=>exact (hc ⟨fn,rfl⟩).elim
   |_=>simp [vZ,eL] at h ⊢<;>exact h.symm
  rw [hi.2];exact mj hi.1 hy
def KE {x:AV} {u:Value} (h:bh w F x u):bh w F (nz x) u:=by
 unfold nz;split
 ·cases h;exact .s0
 ·exact h
def abU {rows:List (List AV)} {u:Value} (hr:bh w F (.s rows) u):bh w F (.s (rows.map fun r=>r.map nz)) u:=by
 cases hr with
 |s0=>exact .s0
 |@s _ b off c k u hb hc hm hk ek eF eP =>
  have hg:∀i,i<rows.length→(rows.map (fun r=>r.map nz)).getD i []=(rows.getD i []).map nz:=fun i hi=>by simp [aY,hi]
  have h2:=bh.s (w:=w) (F:=F) (rows:=rows.map (fun r=>r.map nz)) (b:=b) (off:=off) (c:=c) (k:=k) (u:=u) hb (by simpa using hc) hm (fun i hi=>by
   have hi:i<rows.length:=by simpa using hi
   rw [hg i hi,List.length_map];exact hk i hi) (fun i j hi hj=>ek i j (by simpa using hi) hj) (fun i j hi hj=>eF i j (by simpa using hi) hj) (fun i j hi hj=>by
   have hi:i<rows.length:=by simpa using hi
   rw [hg i hi];have pD:=hk i hi
   have:((rows.getD i []).map nz).getD j .χ=nz ((rows.getD i []).getD j .χ):=by
    have iH:j<(rows.getD i []).length:=by omega
    simp only [fk,nu] at iH ⊢;rw [bO iH];rfl
   rw [this];exact KE (eP i j hi hj))
  simpa using h2
def aep {ag:Bool} {zc:List AV} {u:Value} (h:bh w F (pS ag zc) u):bh w F (pS ag (zc.map nz)) u:=by
 cases ag with
 |true =>
  cases h with
  |a hs h1 h =>
   refine .a (by simpa using hs) (fun i hi=>h1 i (by simpa using hi)) fun i hi=>?_
   have hi:i<zc.length:=by simpa using hi
   have:(zc.map nz).getD i .χ=nz (zc.getD i .χ):=by simp [aY,hi]
   rw [this];exact KE (h i hi)
 |false =>
  show bh w F ((zc.map nz).getD 0 .χ) u;have h:bh w F (zc.getD 0 .χ) u:=h;cases zc with
  |nil=>exact h
  |cons x r=>exact KE h
def adm {t:Nat} {m i:AV} {c:Bool} {vm vi:Value} (hT:bB P T) (hI:Inv w F β H) (hm:Rd w F β m vm) (hi:Rd w F β i vi) (h:L2 T t m i c H k):bR P (G2 t vm vi c) w F β k:=by
 unfold L2 at h;split at h
 ·rename_i ti jz;split at h
  ·rename_i kt e hk;have hu:=(hT _ _ jz).map hk;split at h
   ·rename_i ik ie l9 rz;split at h
    ·rename_i id n pD;have hd:=(hT _ _ l9).int pD;cases hi.bA;split at h
     ·rename_i ag rows zc hc hz;obtain ⟨qp,r,cN,h⟩:=cond_prop h
      have qp:ag=oo ie.kind:=by simpa using qp
      obtain ⟨b,aj,rfl⟩:=hm.vY;obtain ⟨b',es,ck,ir,hh,dy,hs,fG,te⟩:=hI.holds _ _ (eE hc);rw [aj] at ir;cases ir;have hg:=VT (P:=P) hh;have eo:=Go.MapKept.run_checkKey (P:=P) (w:=w) (k:=.int .i64 n) hd rfl es.isEmpty 9999;obtain ⟨_,hf⟩:=PZ dy hs te n;have hzero:=(hT _ _ rz).qL w
      have s_:∃v ok,(G2 t (.map (some b)) (.int .i64 n) c).run P w=.ok (if c then .tuple #[v,.bool ok] else v) w∧bh w F (pS ag r) v∧ok=(iu n rows).isSome:=by
       rcases hf with ⟨h1,h2,_⟩|⟨j,e',c',h1,_,_,_,h2,h3,_⟩
       ·have uY:=CF (P:=P) (w:=w) hd h1;refine ⟨ie.zero,false,?_,?_,by rw [h2];rfl⟩
        ·simp [G2,run_underlying hu,hg,eo,uY,hzero]
        ·rw [←cN,h2,Option.getD_none,qp];exact aep (St hz (ml w F ie.zero β))
       ·have uY:=CF (P:=P) (w:=w) hd h1;refine ⟨e'.val,true,?_,?_,by rw [h2];rfl⟩
        ·simp [G2,run_underlying hu,hg,eo,uY]
        ·rw [←cN,h2,Ha];exact h3
      obtain ⟨v,ok,bc,hv,bK⟩:=s_;cases c with
      |true =>
       obtain ⟨b2,kP,cd⟩:=h;refine bR.mk bc cd (.i (.t rfl fun i hi=>?_))
       match i,hi with
       |0,_=>exact hv
       |1,_ =>
        show bh w F (.v (.bool b2)) (.bool ok);rw [bK,kP];exact .v (.inl rfl)
      |false=>exact bR.mk bc h (.i hv)
     ·cases h
    ·cases h
   ·cases h
  ·cases h
 ·cases h
end
section
variable {P:Program} {T:TT} {w:World} {F:Nat→Prop} {β:Nat→Value} {H:Hp} {k:AV→Prop}
def sz (w:World) (o:Obj):Below w.heap.size w (w.alloc o):=(Below.refl _ _).alloc (bm _) _
def LQ {t len:Nat} {parts:List (Nat×AV)} {vs:Array (Nat×Value)} (hT:bB P T) (hl:parts.length=vs.size)
  (hv:∀i,i<parts.length→(parts.getD i (0,.χ)).1=(vs.toList.getD i (0,undef)).1∧Rd w F β (parts.getD i (0,.χ)).2 (vs.toList.getD i (0,undef)).2)
  {K:List (List AV)→Nat→Nat→Prop} (h:wF T t len parts K) :
  ∃rows e size us,K rows e size∧T t=some ⟨.slice e,(((T t).map (·.cells)).getD 0),(((T t).map (·.bytes)).getD 0),(((T t).map (·.zero)).getD undef)⟩∧0<size∧rows.length=len∧(∀i,i<rows.length→(rows.getD i []).length=size) ∧
   p_ w F β rows.flatten us∧us.size=len*size∧(Oa t len vs).run P w=.ok (.slice (some ⟨w.heap.size,0,none⟩) len len) (w.alloc (.cells us e))∧len≤16777216:=by
 unfold wF at h;split at h
 ·rename_i i hi;split at h
  ·rename_i e he;split at h
   ·rename_i j hj;split at h
    ·rename_i rows Rm;obtain ⟨hb,hk⟩:=cond_prop h;simp only [bM] at hb;obtain ⟨h1,h2,h3⟩:=hb;have h1:parts.length=len:=cA h1
     have h2:len*j.cells≤16777216:=by simpa using h2
     have h3:0<j.cells:=by
      rcases Nat.eq_zero_or_pos j.cells with h0|h0
      ·rw [h0] at h3;cases h3
      ·exact h0
     obtain ⟨me,hri⟩:=Ud Rm;have hu:=(hT _ _ hi).slice he;have aZ:=(hT _ _ hj).j0 w;have hz:=(hT _ _ hj).qL w;let zs:Array Value:=(lO (len*j.cells)).map (j.zero.cells[· % j.zero.cells.size]!);obtain ⟨us,hf,eR⟩:=YC (w:=w) (F:=F) (β:=β) h3 parts vs.toList 0 rows [] zs (by simpa using hl) hv Rm (by simp) (by simp [zs,h1]) (fun i hi=>by simp at hi);simp only [List.nil_append] at eR
     have kr:∀i,i<rows.length→(rows.getD i []).length=j.cells:=fun i hi=>by
      obtain ⟨_,_,hs,hr⟩:=hri i (by omega);rw [hr];exact hs
     have Ji:=Dx rows kr;refine ⟨rows,e,j.cells,us,hk,?_,h3,by omega,kr,eR,by rw [eR.1,Ji,me,h1],?_,?_⟩
     ·rw [hi];simp;rw [←he]
     ·unfold Oa;simp only [jK,run_underlying hu,k_,aZ];rw [if_neg (by omega)];by_cases rC:len*j.cells=0
      ·have aaf:len=0:=by rcases Nat.mul_eq_zero.1 rC with h|h;exact h;omega
       subst aaf;have hp:parts=[]:=oW h1;subst hp;have iI:vs.toList=[]:=oW (by simpa using hl.symm);rw [if_pos rC]
       have gT:zs=#[]:=by simp [zs]
       have JZ:us=#[]:=by
        rw [iI,gT] at hf;simpa [r_] using hf.symm
       subst JZ;have cN:lO 0=#[]:=qR (by simp);simp [iI,r_,newRow,cN]
      ·rw [if_neg rC];simp only [jK,hz,k_,Hc];have py:r_ (fun i=>some (i*j.cells,j.cells)) ((lO (len*j.cells)).map (j.zero.cells[· % j.zero.cells.size]!)) vs.toList=some us:=hf;rw [py];simp [newRow]
     ·exact dN (Nat.le_mul_of_pos_right len h3) h2
    ·cases h
   ·cases h
  ·cases h
 ·cases h
def acX {rows:List (List AV)} {size b cap:Nat} {us:Array Value} {e:TypeId} {fr:Nat×Nat} (kr:∀i,i<rows.length→(rows.getD i []).length=size) (eR:∀i,i<rows.flatten.length→(us.getD i undef).oneCell'=true∧bh w F (rows.flatten.getD i .χ) (us.getD i undef))
  (aZ:rows.flatten.length≤us.size) (hb:F b) (hh:w.heap[b]?=some (.cells us e fr)) (hc:rows.length≤cap) (hm:cap≤maxLen):bh w F (.s rows) (.slice (some ⟨b,0,none⟩) rows.length cap):=by
 have Ji:=Dx rows kr
 have Ξ:∀i j,i<rows.length→j<size→i*size+j<rows.flatten.length:=fun i j hi hj=>by
  rw [Ji]
  calc i*size+j<i*size+size:=by omega
   _=(i+1)*size:=by rw [bD];omega
   _≤rows.length*size:=bT _ hi
 refine .s (k:=size) (u:=fun i j=>us.getD (i*size+j) undef) hb hc hm kr (fun i j hi hj=>?_) (fun i j hi hj=>(eR _ (Ξ i j hi hj)).1) fun i j hi hj=>?_
 ·rw [cell_of_row w b _ us e fr hh,iZ];have:=Ξ i j hi hj
  have h2:i*size+j<us.size:=by omega
  simp [h2]
 ·have:=(eR _ (Ξ i j hi hj)).2;rwa [Il rows i j kr hi hj] at this
def RN {rows:List (List AV)} {us:Array Value} (hi:rows.all (fun r=>r.all eL)=true) (h:p_ w F β rows.flatten us) :
  ∀i,i<rows.flatten.length→(us.getD i undef).oneCell'=true∧bh w F (rows.flatten.getD i .χ) (us.getD i undef):=by
 intro i Ξ;refine ⟨(h.2 i Ξ).1,mj ?_ (h.2 i Ξ).2⟩
 have hm:rows.flatten.getD i .χ∈rows.flatten:=by
  rw [fk,bO Ξ];exact eH Ξ
 obtain ⟨r,hr,hx⟩:=List.mem_flatten.1 hm;exact dJ.1 (dJ.1 hi r hr) _ hx
def ac9 {t len:Nat} {parts:List (Nat×AV)} {vs:Array (Nat×Value)} (hT:bB P T) (hI:Inv w F β H) (hl:parts.length=vs.size)
  (hv:∀i,i<parts.length→(parts.getD i (0,.χ)).1=(vs.toList.getD i (0,undef)).1∧Rd w F β (parts.getD i (0,.χ)).2 (vs.toList.getD i (0,undef)).2)
  (h:wF T t len parts fun rows _ _=>bif rows.all (fun r=>r.all eL) then k (.s (rows.map fun r=>r.map nz)) else False):bR P (Oa t len vs) w F β k:=by
 obtain ⟨rows,e,size,us,hk,_,hs,me,kr,eR,aZ,bc,hlen⟩:=LQ hT hl hv h;obtain ⟨hi,hk⟩:=cond_prop hk;have hb:=sz w (.cells us e);have hF:=hI.bW;refine ⟨_,_,_,bc,hb,hk,.i (abU ?_)⟩;have gw:=RN hi eR;rw [←me];refine acX (size:=size) (e:=e) (fr:=(0,0)) kr (fun i hi=>⟨(gw i hi).1,((gw i hi).2.frame (Below.agree hb hF) fun _ h=>.inl h)⟩) (by rw [eR.1];exact bm _)
  (.inr ⟨bm _,by simp⟩) (heap_alloc_new w _) (bm _) (by rw [me];unfold maxLen;omega)
def Uk {mn:Bool} {xs:List AV} {vs:List Value} (hl:vs.length=xs.length) (hv:∀i,i<xs.length→Rd w F β (xs.getD i .χ) (vs.getD i undef)) (h:F9 mn xs k) (ts:Array TypeId) (ty:TypeId) :
  bR P (if mn then ahm ts ty vs.toArray else ahn ts ty vs.toArray) w F β k:=by
 unfold F9 at h;split at h
 ·rename_i kx a ky b;obtain ⟨hb,r,rfl,hk⟩:=cond_prop h;obtain rfl:=O7 hb
  match vs,hl with
  |[u,v],_ =>
   have h0:=(hv 0 (by simp)).bA;have h1:=(hv 1 (by simp)).bA;simp at h0 h1;subst h0;subst h1;cases mn with
   |true =>
    refine bR.mk (v:=.int kx (min a b)) ?_ hk (.i (.v (.inl rfl)));simp [ahm,Builtin.min2];split<;>congr 2<;>omega
   |false =>
    refine bR.mk (v:=.int kx (max a b)) ?_ hk (.i (.v (.inl rfl)));simp [ahn,Builtin.max2];split<;>congr 2<;>omega
 ·cases h
def ada {b:Builtin} {ts:List Nat} {xs:List AV} {vs:List Value} (hT:bB P T) (hI:Inv w F β H) (hl:vs.length=xs.length)
  (hv:∀i,i<xs.length→Rd w F β (xs.getD i .χ) (vs.getD i undef)) (h:F7 T b ts xs H k) (ty:TypeId) (cs:Array Bool) :
  q6 P (builtin b ts.toArray ty cs vs.toArray) w fun v w'=>∃r,k r∧Rd w' (eU F w w') β r v:=by
 unfold F7 at h;split at h
 ·rename_i t x
  match vs,hl with
  |[u],_ =>
   exact (adk hT hI (by simpa using hv 0 (by simp)) h).out
 ·rename_i t
  match vs,hl with
  |[u],_ =>
   have JX:Rd w F β (.v (.slice none 0 0)) u:=by simpa using hv 0 (by simp)
   cases JX.bA;split at h
   ·rename_i i hi;split at h
    ·rename_i e he;have hu:=(hT _ _ hi).slice he;exact (bR.mk (s:=aho #[t] ty #[.slice none 0 0]) (by simp [aho,run_underlying hu,goInt]) h (.i (.v (.inl rfl)))).out
    ·cases h
   ·cases h
 ·exact (Uk (mn:=true) hl hv h ts.toArray ty).out
 ·exact (Uk (mn:=false) hl hv h ts.toArray ty).out
 ·cases h
def ade {f:AV} {vf:Value} {xs:List AV} {vs:Array Value} (hI:Inv w F β H) (hf:Rd w F β f vf) (hl:vs.size=xs.length)
  (hv:∀i,i<xs.length→Rd w F β (xs.getD i .χ) (vs.getD i undef)) (h:F8 P f xs H k) :
  q6 P (do let d ←kW vf vs;invoke d.target d.args) w fun v w'=>∃r,k r∧Rd w' (eU F w w') β r v:=by
 unfold F8 at h;split at h
 ·rename_i g fs cs;obtain ⟨r,⟨⟨fn,c,dj,dg,uR⟩,hp⟩,hk⟩:=h;obtain ⟨us,ws,rfl,hs,dL,hu,hw⟩:=hf.lT;refine .inr ⟨g,us++vs++ws,?_,?_⟩
  ·have pF : ¬ fn.name = "runtime.NumGoroutine" := by simpa using dg
   simp [kW,invoke,callFunc,dj,pF,uR]
  ·refine (hp w F β (us++vs++ws) hI ?_ fun i hi=>?_).mono ?_
   ·simp [hs,hl,dL]
   ·simp only [cZ] at hi
    have e1:(fs++(xs++cs)).getD i .χ=if i<fs.length then fs.getD i .χ else if i<fs.length+xs.length then xs.getD (i-fs.length) .χ else cs.getD (i-fs.length-xs.length) .χ:=by
     simp only [aY,fW];by_cases h1:i<fs.length
     ·simp [h1]
     ·by_cases h2:i<fs.length+xs.length
      ·simp [h1,h2,show i-fs.length<xs.length by omega]
      ·simp [h1,h2,show ¬i-fs.length<xs.length by omega]
    have e2:(us++vs++ws).getD i undef=if i<fs.length then us.getD i undef else if i<fs.length+xs.length then vs.getD (i-fs.length) undef else ws.getD (i-fs.length-xs.length) undef:=by
     simp only [j3,n_,qS,hs,hl];by_cases h1:i<fs.length
     ·simp [h1,show i<fs.length+xs.length by omega]
     ·by_cases h2:i<fs.length+xs.length
      ·simp [h1,h2]
      ·simp [h1,h2,Nat.sub_sub]
    rw [e1,e2];by_cases h1:i<fs.length
    ·rw [if_pos h1,if_pos h1];exact hu i h1
    ·rw [if_neg h1,if_neg h1];by_cases h2:i<fs.length+xs.length
     ·rw [if_pos h2,if_pos h2];exact hv _ (by omega)
     ·rw [if_neg h2,if_neg h2];exact hw _ (by omega)
   ·rintro e w' ⟨v,rfl,hb,hr⟩;exact ⟨v,rfl,hb,r,hk,.i hr⟩
 ·cases h
def ac' {b:Builtin} {args:Array Operand} {argTypes:Array TypeId} {ρ:Operand→AV} {a:Act} {type:TypeId} (hT:bB P T) (hI:Inv w F β H)
  (lA:∀i,i<(args.toList.map ρ).length→Rd w F β ((args.toList.map ρ).getD i .χ) ((args.map a.eval).getD i undef)) (h:F7 T b argTypes.toList (args.toList.map ρ) H k) :
  q6 P (do let d ←resolve a.eval { callee:=.builtin b,args:=args,argTypes:=argTypes } type;invoke d.target d.args) w fun v w'=>∃r,k r∧Rd w' (eU F w w') β r v:=by
 have h1:=ada (P:=P) (ts:=argTypes.toList) (vs:=(args.map a.eval).toList) hT hI (by simp) (fun i hi=>by simpa using lA i hi) h type (args.map fun|.const _=>true|_=>false);have e:(do let d ←resolve a.eval { callee:=.builtin b,args:=args,argTypes:=argTypes } type;invoke d.target d.args:Sem Next)=builtin b argTypes type (args.map fun|.const _=>true|_=>false) (args.map a.eval):=rfl;rw [e];exact h1
def adb {f:Operand} {args:Array Operand} {argTypes:Array TypeId} {ρ:Operand→AV} {a:Act} {type:TypeId} (hI:Inv w F β H) (hf:Rd w F β (ρ f) (a.eval f))
  (lA:∀i,i<(args.toList.map ρ).length→Rd w F β ((args.toList.map ρ).getD i .χ) ((args.map a.eval).getD i undef)) (h:F8 P (ρ f) (args.toList.map ρ) H k) :
  q6 P (do let d ←resolve a.eval { callee:=.value f,args:=args,argTypes:=argTypes } type;invoke d.target d.args) w fun v w'=>∃r,k r∧Rd w' (eU F w w') β r v:=by
 have e:(do let d ←resolve a.eval { callee:=.value f,args:=args,argTypes:=argTypes } type;invoke d.target d.args:Sem Next)=(do let d ←kW (a.eval f) (args.map a.eval);invoke d.target d.args):=rfl;rw [e];exact ade hI hf (by simp) lA h
def EW (ρ:Operand→AV) (e:Operand→Value) (parts:Array (Nat×Operand)):(parts.toList.map fun q=>(q.1,ρ q.2)).length=(parts.map fun x=>(x.1,e x.2)).size:=by simp
def EX {ρ:Operand→AV} {e:Operand→Value} {parts:Array (Nat×Operand)} (h:∀x,(∃i,(i,x)∈parts)→Rd w F β (ρ x) (e x)) (i:Nat) (hi:i<(parts.toList.map fun q=>(q.1,ρ q.2)).length) :
  ((parts.toList.map fun q=>(q.1,ρ q.2)).getD i (0,.χ)).1=((parts.map fun x=>(x.1,e x.2)).toList.getD i (0,undef)).1 ∧
   Rd w F β ((parts.toList.map fun q=>(q.1,ρ q.2)).getD i (0,.χ)).2 ((parts.map fun x=>(x.1,e x.2)).toList.getD i (0,undef)).2:=by
 simp at hi;have:=h parts[i].2 ⟨parts[i].1,Array.getElem_mem hi⟩;simpa [aY,hi] using this
def yv {x:AV} {u:Value} (h:bh w F x u):bh w F (nz x) u:=by
 unfold nz;split
 ·cases h;exact .s0
 ·exact h
def Sp {z:Array Value} {n q:Nat} (h:q<n):((lO n).map (z[· % z.size]!)).getD q undef=z[q % z.size]! := by simp [h]
def adn {t:Nat} {l c:AV} {vl vc:Value} (hT:bB P T) (hI:Inv w F β H) (hl:Rd w F β l vl) (hc:Rd w F β c vc) (h:L3 T t l c k):bR P (sa t vl vc) w F β k:=by
 unfold L3 at h;split at h
 ·rename_i i kl nl kc nc hi;cases hl.bA;cases hc.bA;split at h
  ·rename_i e he;have hu:=(hT _ _ hi).slice he;split at h
   ·rename_i j hj;obtain ⟨hb,n,m,rfl,rfl,dg,hm,jR,R,rfl,hk⟩:=cond_prop h;simp only [bM] at hb;obtain ⟨bK,hlen,gw⟩:=hb;have hlen:(bn (bQ j.zero)).length=j.cells:=cA hlen;have hz:=nD (ml w F j.zero β) bK
    have gT:j.zero.cells.size=j.cells:=by rw [hz.1,hlen]
    obtain ⟨inf,nM,hzero,eh,lZ⟩:=(hT _ _ hj).info;have oJ:IntKind.i64.wrap (n:Int)=(n:Int):=uk _ (by omega);have vL:IntKind.i64.wrap (m:Int)=(m:Int):=uk _ (by omega)
    have Zt:(inf.bytes:Int)*(m:Int)≤140737488355328:=by
     have h5:((m*j.bytes:Nat):Int)=(j.bytes:Int)*(m:Int):=by rw [Int.natCast_mul,Int.mul_comm]
     rw [lZ,←h5];omega
    have bc:(sa t (.int kl (n:Int)) (.int kc (m:Int))).run P w=.ok (.slice (some ⟨w.heap.size,0,none⟩) n m) (w.alloc (.cells ((lO (m*j.cells)).map (j.zero.cells[· % j.zero.cells.size]!)) e)):=by
     have h1:¬((m:Int)<0):=by omega
     have h2:¬(281474976710656<(inf.bytes:Int)*(m:Int)):=by omega
     have h3:¬((n:Int)<0):=by omega
     have h4:¬((m:Int)<(n:Int)):=by omega
     by_cases h0:m*j.cells=0
     ·have cN:lO (m*j.cells)=#[]:=by rw [h0];exact qR (by simp)
      simp [sa,run_underlying hu,asInt,asIntOf,typeInfo,nM,oJ,vL,h1,h2,h3,h4,sizeOf,eh,h0,newRow];rw [h0] at cN;simp [cN]
     ·simp [sa,run_underlying hu,asInt,asIntOf,typeInfo,nM,oJ,vL,h1,h2,h3,h4,sizeOf,eh,h0,newRow,zeroValue,hzero]
    let w':=w.alloc (.cells ((lO (m*j.cells)).map (j.zero.cells[· % j.zero.cells.size]!)) e);have DM:=sz w (.cells ((lO (m*j.cells)).map (j.zero.cells[· % j.zero.cells.size]!)) e)
    have Jl:w'.heap[w.heap.size]?=some (.cells ((lO (m*j.cells)).map (j.zero.cells[· % j.zero.cells.size]!)) e (0,0)):=by
     show (w.heap.push _)[w.heap.size]?=_;exact Array.getElem?_push_size
    refine ⟨_,_,_,bc,DM,hk,.i ?_⟩;have:=bh.s (w:=w') (F:=eU F w w') (rows:=gl n ((bn (bQ j.zero)).map nz)) (b:=w.heap.size) (off:=0) (c:=m) (k:=j.cells) (u:=fun q z=>((lO (m*j.cells)).map (j.zero.cells[· % j.zero.cells.size]!)).getD (q*j.cells+z) undef)
     (.inr ⟨bm _,by simp [w']⟩) (by simpa using dg) (by unfold maxLen;omega) (fun q hq=>by simp at hq;simp [aY,hq,hlen]) (fun q z hq iq=>?_) (fun q z hq iq=>?_) (fun q z hq iq=>?_)
    ·simpa using this
    all_goals
     simp only [List.length_replicate] at hq
     have Ξ:q*j.cells+z<m*j.cells:=by
      calc q*j.cells+z<q*j.cells+j.cells:=by omega
       _=(q+1)*j.cells:=by rw [bD];omega
       _≤m*j.cells:=bT _ (by omega)
    ·rw [cell_of_row _ _ _ _ _ _ Jl,iZ];simp [Ξ]
    all_goals
     rw [Sp Ξ,gT]
     have e1:(q*j.cells+z) % j.cells=z:=by rw [Nat.mul_comm,Nat.mul_add_mod];exact Nat.mod_eq_of_lt iq
     rw [e1];have h2:=hz.2 z (by omega)
     have e2:j.zero.cells[z]! = j.zero.cells.getD z undef:=by
      have:z<j.zero.cells.size:=by omega
      simp [this]
     rw [e2]
    ·exact h2.1
    ·have e3:((gl n ((bn (bQ j.zero)).map nz)).getD q []).getD z .χ=nz ((bn (bQ j.zero)).getD z .χ):=by
      have vO:z<(bn (bQ j.zero)).length:=by omega
      simp [aY,hq,vO]
     rw [e3];refine (yv (mj (dJ.1 gw _ ?_) h2.2)).frame (Below.agree DM hI.bW) fun _ h=>.inl h;rw [fk,bO (show z<(bn (bQ j.zero)).length by omega)];exact eH _
   ·cases h
  ·cases h
 ·cases h
def Gk {o:Oper} {ρ:Operand→AV} {a:Act} (hT:bB P T) (hI:Inv w F β H) (bx:∀x,x∈o.op.operands→Rd w F β (ρ x) (a.eval x))
  (h:lK P T o ρ H k):q6 P (execOp a.eval o) w fun v w'=>∃r,k r∧Rd w' (eU F w w') β r v:=by
 obtain ⟨dst,op,type,pos,after,guard⟩:=o;cases op<;>simp only [lK] at h<;>simp only [Op.operands] at bx<;>simp only [execOp]
 case move x=>exact .inl ⟨_,w,rfl,Below.refl _ _,_,h,(bx x (by simp)).here⟩
 case assign x=>exact .inl ⟨_,w,rfl,Below.refl _ _,_,h,(bx x (by simp)).here⟩
 case pick c x y=>exact adp (bx c (by simp)) (bx x (by simp)) (bx y (by simp)) h
 case extract t i=>exact (adg (bx t (by simp)) h).out
 case unOp op t x=>exact (ads (bx x (by simp)) h).out
 case binOp op t x y t'=>exact (ac8 hT (bx x (by simp)) (bx y (by simp)) x y h).out
 case convert s d x=>exact (adf hT (bx x (by simp)) h).out
 case fieldAddr t x f=>exact (adh hT (bx x (by simp)) h).out
 case load t x=>exact (adl hT hI (bx x (by simp)) h).out
 case indexAddr t x i=>exact (adi hT hI (bx x (by simp)) (bx i (by simp)) h).out
 case lookup t x i c=>exact (adm hT hI (bx x (by simp)) (bx i (by simp)) h).out
 case index t x i=>exact (adj hT (bx x (by simp)) (bx i (by simp)) h).out
 case slice t x lo hi mx =>
  cases mx with
  |some m =>
   cases lo with
   |some l=>unfold Cf at h;split at h<;>first|exact h.elim|simp_all
   |none=>cases hi with
    |none=>unfold Cf at h;split at h<;>first|exact h.elim|simp_all
    |some l=>exact (adq hT (bx x (by simp)) (bx l (by simp)) (bx m (by simp)) h).out
  |none =>
   refine (adr (vlo:=lo.map a.eval) (vhi:=hi.map a.eval) hT (bx x (by simp)) ?_ ?_ hI h).out
   ·cases lo with
    |none=>exact True.intro
    |some l=>exact bx l (by simp)
   ·cases hi with
    |none=>exact True.intro
    |some l=>exact bx l (by simp)
 case build t parts =>
  exact (ac_ hT (EW ρ a.eval parts) (EX fun x hx=>bx x (by simpa using hx)) h).out
 case buildSlice t n parts =>
  exact (ac9 hT hI (EW ρ a.eval parts) (EX fun x hx=>bx x (by simpa using hx)) h).out
 case makeFunc fn fs cs =>
  refine .inl ⟨_,w,rfl,Below.refl _ _,_,h,?_⟩;refine .c (by simp) (by simp) (fun i hi=>?_) fun i hi=>?_
  ·simp at hi;have:=bx (fs[i]) (by simp);simpa [aY,hi] using this.here
  ·simp at hi;have:=bx (cs[i]) (by simp);simpa [aY,hi] using this.here
 case nilCheck x =>
  obtain ⟨⟨r,hk,hr⟩,hs⟩:=ado (bx x (by simp)) h;generalize a.eval x=vx at hr hs ⊢
  rcases hs with ⟨a,rfl⟩|⟨g,fs,cs,rfl⟩
  iterate 2 exact .inl ⟨_,w,rfl,Below.refl _ _,_,hk,hr.here⟩
 case makeSlice t l c=>exact (adn hT hI (bx l (by simp)) (bx c (by simp)) h).out
 case call c =>
  obtain ⟨callee,args,argTypes⟩:=c
  have lA:∀i,i<(args.toList.map ρ).length→Rd w F β ((args.toList.map ρ).getD i .χ) ((args.map a.eval).getD i undef):=fun i hi=>by
   simp at hi;have:=bx args[i] (by simp [Call.operands]);simpa [aY,hi] using this
  cases callee with
  |builtin b=>exact ac' hT hI lA h
  |value f=>exact adb hI (bx f (by simp [Call.operands])) lA h
  |invoke r m=>cases h
 all_goals cases h
end
def sb (z:AV):Nat→Nat→AV→AV
 |n,id,x=>match x with
  |.b i o=>bif aG i id then .χ else .b i o
  |.o i=>bif aG i id then z else .o i
  |.e i K m j=>bif aG i id then .χ else .e i K m j
  |.w i K d=>bif aG i id then .χ else .w i K d
  |.m i=>bif aG i id then .χ else .m i
  |.a cs=>match n with
   |0=>.χ
   |n+1=>.a (cs.map (sb z n id))
  |.t cs=>match n with
   |0=>.χ
   |n+1=>.t (cs.map (sb z n id))
  |.c fn fs cs=>match n with
   |0=>.χ
   |n+1=>.c fn (fs.map (sb z n id)) (cs.map (sb z n id))
  |.v x=>.v x
  |.s r=>.s r
  |.p c=>.p c
  |.z=>.z
  |.χ=>.χ
abbrev er (n id:Nat) (x:AV):AV:=sb .χ n id x
def nG (id:Nat):Chunk→Chunk
 |.box cells=>.box (cells.map (er 1 id))
 |.own E k rows=>.own E k rows
 |.mp ag rows=>.mp ag rows
 |.lp l e R L=>.lp l e R (L.map fun p=>(p.1,er 2 id p.2))
 |.si s pos=>.si s pos
def gu (id:Nat):Hp→Hp
 |[]=>[]
 |(i,c)::r=>bif aG i id then gu id r else (i,nG id c)::gu id r
def dF (f:Nat→AV) (d:Nat) (x:AV):Nat→AV:=fun t=>bif aG t d then x else f t
section
variable {w:World} {F:Nat→Prop} {β aw:Nat→Value}
def Du {id i:Nat} {x:AV} {u:Value} (h:i≠id→Rd w F aw x u):Rd w F aw (bif aG i id then .χ else x) u:=by
 cases hb:aG i id with
 |true=>exact .χ
 |false=>exact h fun e=>by rw [e,iz] at hb;cases hb
def adu {z:AV} {id i:Nat} {x:AV} {u:Value} (hz:i=id→Rd w F aw z u) (h:i≠id→Rd w F aw x u):Rd w F aw (bif aG i id then z else x) u:=by
 cases hb:aG i id with
 |true=>exact hz (cA hb)
 |false=>exact h fun e=>by rw [e,iz] at hb;cases hb
def pP {z:AV} {id:Nat} (hz:∀u,Rd w F β (.o id) u→Rd w F aw z u) (aj:∀i,i≠id→aw i=β i):∀(n:Nat) {x:AV} {u:Value},Rd w F β x u→Rd w F aw (sb z n id x) u:=by
 have O5:∀{i o:Nat} {u:Value},Rd w F β (.b i o) u→Rd w F aw (bif aG i id then .χ else .b i o) u:=fun h=>Du fun hi=>by
  obtain ⟨e9,h1,rfl⟩:=h.lh;exact .b ((aj _ hi).trans h1)
 have SF:∀{i:Nat} {u:Value},Rd w F β (.o i) u→Rd w F aw (bif aG i id then z else .o i) u:=fun h=>adu (fun e=>hz _ (e▸h)) fun hi=>by
  obtain ⟨a,n,c,h1,rfl⟩:=h.jo;exact .o ((aj _ hi).trans h1)
 have PH:∀{i K m j:Nat} {u:Value},Rd w F β (.e i K m j) u→Rd w F aw (bif aG i id then .χ else .e i K m j) u:=fun h=>Du fun hi=>by
  obtain ⟨g,n,c,h1,rfl⟩:=h.xq;exact .e ((aj _ hi).trans h1)
 have Sn:∀{i:Nat} {u:Value},Rd w F β (.m i) u→Rd w F aw (bif aG i id then .χ else .m i) u:=fun h=>Du fun hi=>by
  obtain ⟨b,h1,rfl⟩:=h.vY;exact .m ((aj _ hi).trans h1)
 have U4:∀{i K d:Nat} {u:Value},Rd w F β (.w i K d) u→Rd w F aw (bif aG i id then .χ else .w i K d) u:=fun h=>Du fun hi=>by
  obtain ⟨a,a',n,c,h1,h2,h3,rfl⟩:=h.ub;exact .w ((aj _ hi).trans h1) h2 h3
 have U2:∀{x u:Value},Rd w F β (.v x) u→Rd w F aw (.v x) u:=fun h=>by cases h;exact .i (by assumption)
 intro n;induction n with
 |zero =>
  intro x u h;cases x with
  |v x=>exact U2 h
  |s r=>exact .i h.np
  |p c=>exact .i h.yx
  |χ=>exact .χ
  |a cs=>exact .χ
  |t cs=>exact .χ
  |c fn fs cs=>exact .χ
  |b i o=>exact O5 h
  |o i=>exact SF h
  |e i K m j=>exact PH h
  |w i K d=>exact U4 h
  |m i=>exact Sn h
  |z=>obtain ⟨a,rfl⟩:=h.wV;exact .i .z
 |succ n ih =>
  have get:∀(l:List AV) (i:Nat),i<l.length→(l.map (sb z n id)).getD i .χ=sb z n id (l.getD i .χ):=fun l i hi=>by simp [aY,hi]
  intro x u h;cases x with
  |v x=>exact U2 h
  |s r=>exact .i h.np
  |p c=>exact .i h.yx
  |χ=>exact .χ
  |a cs =>
   show Rd w F aw (.a (cs.map (sb z n id))) u;obtain ⟨us,rfl,hs,h1,hr⟩:=h.o8;refine .a (by simpa using hs) (fun i hi=>h1 i (by simpa using hi)) fun i hi=>?_
   have hi:i<cs.length:=by simpa using hi
   rw [get cs i hi];exact ih (hr i hi)
  |t cs =>
   show Rd w F aw (.t (cs.map (sb z n id))) u;obtain ⟨us,rfl,hs,hr⟩:=h.ze;refine .t (by simpa using hs) fun i hi=>?_
   have hi:i<cs.length:=by simpa using hi
   rw [get cs i hi];exact ih (hr i hi)
  |c fn fs cs =>
   show Rd w F aw (.c fn (fs.map (sb z n id)) (cs.map (sb z n id))) u;obtain ⟨us,vs,rfl,hs,dL,hr,cj⟩:=h.lT;refine .c (by simpa using hs) (by simpa using dL) (fun i hi=>?_) fun i hi=>?_
   ·have hi:i<fs.length:=by simpa using hi
    rw [get fs i hi];exact ih (hr i hi)
   ·have hi:i<cs.length:=by simpa using hi
    rw [get cs i hi];exact ih (cj i hi)
  |b i o=>exact O5 h
  |o i=>exact SF h
  |e i K m j=>exact PH h
  |w i K d=>exact U4 h
  |m i=>exact Sn h
  |z=>obtain ⟨a,rfl⟩:=h.wV;exact .i .z
def qh {id:Nat} (aj:∀i,i≠id→aw i=β i) (n:Nat) {x:AV} {u:Value} (h:Rd w F β x u):Rd w F aw (er n id x) u:=pP (fun _ _=>.χ) aj n h
def gF {id:Nat}:∀{H:Hp} {i:Nat} {c:Chunk},(i,c)∈gu id H→i≠id∧∃c',(i,c')∈H∧c=nG id c'
 |[],_,_,h=>by cases h
 |(j,c')::r,i,c,h=>by
  simp only [gu] at h;cases hb:aG j id with
  |true =>
   rw [hb] at h;obtain ⟨h1,c2,h2,h3⟩:=gF (H:=r) h;exact ⟨h1,c2,cu _ h2,h3⟩
  |false =>
   rw [hb] at h;simp only [cond_false,bp,Prod.mk.injEq] at h
   rcases h with ⟨rfl,rfl⟩|h
   ·exact ⟨fun e=>(by rw [e,iz] at hb;cases hb),c',by simp,rfl⟩
   ·obtain ⟨h1,c2,h2,h3⟩:=gF (H:=r) h;exact ⟨h1,c2,cu _ h2,h3⟩
def z6 {id:Nat}:∀{H:Hp},(H.map (·.1)).Nodup→((gu id H).map (·.1)).Nodup
 |[],_=>by simp [gu]
 |(j,c)::r,h=>by
  simp only [eT,gK] at h;simp only [gu];cases hb:aG j id with
  |true=>exact z6 h.2
  |false =>
   simp only [cond_false,eT,gK];refine ⟨fun hm=>?_,z6 h.2⟩;obtain ⟨x,hx,jX⟩:=cV.1 hm;obtain ⟨i,c'⟩:=x;obtain ⟨_,c2,h2,_⟩:=gF hx;exact h.1 (cV.2 ⟨(i,c2),h2,jX⟩)
def D7 {id i:Nat} {c:Chunk} (hi:i≠id) (aj:∀i,i≠id→aw i=β i) (h:c.holds w F β i):(nG id c).holds w F aw i:=by
 cases c with
 |box cells =>
  obtain ⟨b,cs,e,hb,hh,hs,h1,hr⟩:=h;refine ⟨b,cs,e,(aj i hi).trans hb,hh,by simpa using hs,fun j hj=>h1 j (by simpa using hj),fun j hj=>?_⟩
  have hj:j<cells.length:=by simpa using hj
  have:(cells.map (er 1 id)).getD j .χ=er 1 id (cells.getD j .χ):=by simp [aY,hj]
  rw [this];exact qh aj 1 (hr j hj)
 |own E k rows =>
  unfold nG Chunk.holds at *;rw [aj i hi];exact h
 |mp ag rows =>
  unfold nG Chunk.holds at *;rw [aj i hi];exact h
 |si s pos =>
  unfold nG Chunk.holds at *;rw [aj i hi];exact h
 |lp l e R L =>
  obtain ⟨fn,tmps,D,hb,hh,hn,hr⟩:=h;refine ⟨fn,tmps,D,(aj i hi).trans hb,hh,hn,fun p hp=>?_⟩;obtain ⟨q,hq,rfl⟩:=cV.1 hp;exact qh aj 2 (hr q hq)
def nQ {w':World} {F':Nat→Prop} {i:Nat} {c:Chunk} (ha:fy F w w') (hF:∀b,F b→F' b) (hb:∀b,bF (β i)=some b→w'.heap[b]?=w.heap[b]?) (h:c.holds w F β i):c.holds w' F' β i:=by
 cases c with
 |box cells =>
  obtain ⟨b,cs,e,aj,hh,hs,h1,hr⟩:=h;exact ⟨b,cs,e,aj,by rw [hb b (by rw [aj];rfl)];exact hh,hs,h1,fun j hj=>(hr j hj).frame ha hF⟩
 |mp ag rows =>
  obtain ⟨b,es,ck,aj,hh,dy,hs,hm,hr⟩:=h;refine ⟨b,es,ck,aj,by rw [hb b (by rw [aj];rfl)];exact hh,dy,hs,hm,fun i r hi=>?_⟩;obtain ⟨e,h1,h2,h3,h4⟩:=hr i r hi;exact ⟨e,h1,h2,h3,h4.frame ha hF⟩
 |lp l e R L =>
  obtain ⟨fn,tmps,D,aj,hh,hn,hr⟩:=h;exact ⟨fn,tmps,D,aj,by rw [hb l (by rw [aj];rfl)];exact hh,hn,fun p hp=>(hr p hp).frame ha hF⟩
 |si s pos =>
  obtain ⟨b,aj,hh⟩:=h;exact ⟨b,aj,by rw [hb b (by rw [aj];rfl)];exact hh⟩
 |own E k rows =>
  rcases h with h|⟨g,cap,cur,hv,hc,hg,hn,hm,hs,hk,hr⟩
  ·exact .inl h
  ·have h0:aG cap 0=false:=by cases cap<;>first|rfl|omega
   refine .inr ⟨g,cap,cur,hv,hc,by rw [hb g (by rw [hv];simp [bF,h0])];exact hg,hn,hm,hs,hk,fun i j hi hj=>⟨(hr i j hi hj).1,(hr i j hi hj).2.frame ha hF⟩⟩
def sL {st:ai} {w':World} (hI:Inv w F β st.H) (hb:Below w.heap.size w w'):Ext w F β st w' (eU F w w') β st where
 os:=hb.os
 tape:=hb.tape
 output:=hb.output
 size:=hb.size
 block _ h _:=hb.block _ h
 mono _ h:=.inl h
 new _ h:=h.elim .inl fun h=>.inr (.inl h.1)
 owned _ h:=.inr h
 keep _ _ h:=h.later hb hI.bW
 inv:={
  bW:=fun b h=>h.elim (fun h=>mJ (hI.bW b h) hb.size) fun h=>h.2
  holds:=fun id c hm=>nQ (Below.agree hb hI.bW) (fun _ h=>.inl h) (fun b jQ=>hb.block b (hI.fj ⟨id,c,hm,jQ⟩)) (hI.holds id c hm)
  keys:=hI.keys
  apart:=fun b ho h=>h.elim (hI.apart b ho) fun h=>absurd (hI.fj ho) (kZ.2 h.1)
  dR:=hI.dR
  eN:=hI.eN.frame (Below.agree hb hI.bW) fun _ h=>.inl h }
 fH _ _:=rfl
def ow {st:ai} {w':World} {d:Nat} {c:Chunk} {v:Value} (hd:d<1000) (hI:Inv w F β st.H) (rI:w'.os=w.os) (JU:iP w w') (qB:w'.output=w.output) (eh:w.heap.size≤w'.heap.size)
  (xK:∀b,b<w.heap.size→¬br β st.H b→w'.heap[b]?=w.heap[b]?)
  (aat:∀i c' b,i≠d→(i,c')∈st.H→bF (β i)=some b→w'.heap[b]?=w.heap[b]?)
  (eu:∀b,bF v=some b→w.heap.size≤b∨∃c',(d,c')∈st.H∧bF (β d)=some b)
  (hc:c.holds w' F (fun i=>if i=d then v else β i) d) :
  Ext w F β st w' F (fun i=>if i=d then v else β i) ⟨fun t=>er 2 d (st.f t),(d,c)::gu d st.H⟩:=by
 have aj:∀i,i≠d→(fun i=>if i=d then v else β i) i=β i:=fun i hi=>if_neg hi;have ha:fy F w w':=fun b hb=>xK b (hI.bW b hb) fun ho=>hI.apart b ho hb
 have cY:∀b,br (fun i=>if i=d then v else β i) ((d,c)::gu d st.H) b→w.heap.size≤b∨br β st.H b:=by
  rintro b ⟨i,c',hm,hb⟩
  rcases bp.1 hm with hm|hm
  ·cases hm;simp only [if_true] at hb
   rcases eu b hb with h|⟨c',h1,h2⟩
   ·exact .inl h
   ·exact .inr ⟨d,c',h1,h2⟩
  ·obtain ⟨hi,c2,h2,_⟩:=gF hm;simp only [if_neg hi] at hb;exact .inr ⟨i,c2,h2,hb⟩
 refine ⟨rI,JU,qB,eh,xK,fun _ h=>h,fun _ h=>.inl h,cY,fun t u h=>qh aj 2 (h.frame ha fun _ h=>h),?_,fun i hi=>aj i (by omega)⟩;refine ⟨fun b hb=>mJ (hI.bW b hb) eh,?_,?_,?_,?_,hI.eN.at ha⟩
 ·intro i c' hm
  rcases bp.1 hm with hm|hm
  ·cases hm;exact hc
  ·obtain ⟨hi,c2,h2,rfl⟩:=gF hm;exact D7 hi aj (nQ ha (fun _ h=>h) (fun b hb=>aat i c2 b hi h2 hb) (hI.holds i c2 h2))
 ·simp only [eT,gK];refine ⟨fun hm=>?_,z6 hI.keys⟩;obtain ⟨x,hx,jX⟩:=cV.1 hm;obtain ⟨i,c'⟩:=x;exact (gF hx).1 jX
 ·intro b ho hF
  rcases cY b ho with h|h
  ·exact absurd (hI.bW b hF) (kZ.2 h)
  ·exact hI.apart b h hF
 ·have key:∀i c' b,(i,c')∈gu d st.H→bF (β i)=some b→bF v=some b→False:=by
   intro i c' b hm hb hv;obtain ⟨hi,c2,h2,_⟩:=gF hm
   rcases eu b hv with h|⟨c3,h3,h4⟩
   ·exact absurd (hI.fj ⟨i,c2,h2,hb⟩) (kZ.2 h)
   ·exact hi (hI.dR i c2 d c3 b h2 h3 hb h4)
  intro i c1 i' oq b hm bE hb aH
  rcases bp.1 hm with hm|hm<;>rcases bp.1 bE with bE|bE
  ·cases hm;cases bE;rfl
  ·cases hm;simp only [if_true] at hb;have bj:=(gF bE).1;simp only [if_neg bj] at aH;exact (key i' oq b bE aH hb).elim
  ·cases bE;simp only [if_true] at aH;have hi:=(gF hm).1;simp only [if_neg hi] at hb;exact (key i c1 b hm hb aH).elim
  ·obtain ⟨hi,c2,h2,_⟩:=gF hm;obtain ⟨bj,xi,gQ,_⟩:=gF bE;simp only [if_neg hi] at hb;simp only [if_neg bj] at aH;exact hI.dR i c2 i' xi b h2 gQ hb aH
end
end
end Go.Cat
