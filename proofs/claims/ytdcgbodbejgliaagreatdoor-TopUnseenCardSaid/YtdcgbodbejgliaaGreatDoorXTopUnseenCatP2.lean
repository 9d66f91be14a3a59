/- The logic that the walks are in, piece P2. No condition. -/
import Derived.WalkKit
import Derived.WalkSpells
import Derived.WalkLawsBesides
import Derived.KernelRfl
import Derived.MapKept
import Derived.Test.YtdcgbodbejgliaaGreatDoorXTopUnseenCatP1
import Derived.Laws.StructEq
import Derived.ChangeKeysEq
open Array renaming getElem?_eq_getElem → gr, getElem?_eq_some_iff → lg, getD_eq_getD_getElem? → lf, getElem?_modify → pQ, eq_empty_of_size_eq_zero → tM, getElem?_append → pP, range → nj, size_append → tQ, getD → xf, getElem?_extract → YU, foldl_toList → YS, toList_zipIdx → YY
open BitVec renaming ofInt → eF
open Bool renaming and_eq_true → bJ, or_eq_true → tT, not_eq_true' → oS, and_assoc → QF
open Go.Addr renaming add_lit → f_
open Go.Builtin renaming len_ → vd, min_ → alj, max_ → alk, cap_ → alm
open Go.ByteArray renaming toList_eq → CW
open Go.Conv renaming stringToBytes → KM
open Go.Deferred renaming ofValue → l8
open Go.Instr renaming sliceAt → lL, slice → rU, sliceBounds → Ak, makeSlice → vh, sureAddr → GC, fill → vg, buildSlice → QT, indexAt → CY, loadAt → Gx, lookup → KQ, index → QU, build → QS, extract → alg, fieldAt → alh, findNow → ali
open Go.IntWalk renaming i64_in → qB
open Go.MapKept renaming run_findKey → Gw, run_getObj_map → Y7, Stamped → Y6, IsKey → Y5
open Go.Op renaming bytesLess → fV, intArith → tY, equalIn → vq, eqFields → xr, intBits → K2, eqItems → ald
open Go.Program renaming fieldsOf → Zx
open Go.Result renaming andThen_ok → mh
open Go.Sem renaming run_bind → kz, run_pure → K4
open Go.Value renaming int → dv, oneCell' → alf
open Go.World renaming alloc → lR, freeze → Ar
open List renaming getElem?_eq_getElem → bT, mem_cons_of_mem → cr, mem_cons → bj, getD → aY, length_cons → c8, length_append → dq, getElem?_eq_some_iff → fb, getD_eq_getElem?_getD → fU, length_take → dQ, mem_map → dg, all_eq_true → ej, getElem_mem → eG, getElem?_take → gb, getElem?_append → gC, replicate → ic, getElem?_drop → jl, mem_of_getElem? → mc, nodup_cons → iv, size_toArray → lh, eq_nil_of_length_eq_zero → qD, map_cons → jD, length_eq_zero_iff → rV, length_drop → l_, getElem?_map → tW, take_append_drop → xp, cons_append → C0, getElem?_toArray → Zk, getElem?_take_of_lt → Zj, take_succ_cons → Zr, take_zero → ale
open List.cons renaming injEq → GF
open Nat renaming mul_le_mul_right → cI, eq_of_beq_eq_true → cR, beq → aH, le_refl → bF, add_mul → bO, le_trans → fc, zero_add → jF, beq_refl → iX, lt_of_lt_of_le → oe, add_zero → lN, not_lt → mg, ble → pT, add_assoc → GL
open Option renaming getD_some → Ap, map_some → Zw
open Option.some renaming injEq → GN
namespace Go.Cat
set_option linter.all false
section
open Go.RowKit
class bK where
 on:Prop
class oV [bK]:Prop where
 off:¬bK.on
abbrev bK.yes:bK:=⟨True⟩
abbrev bK.no:bK:=⟨False⟩
class cL where
 cells:List (Nat×Value)
variable [M:bK] [G:cL]
inductive AV where
 | v (x:Value)
 | s (rows:List (List AV))
 | p (cells:List AV)
 | a (cells:List AV)
 | t (vs:List AV)
 | c (fn:Fn) (first captured:List AV)
 | b (id off:Nat)
 | o (id:Nat)
 | e (id k i j:Nat)
 | w (id k d:Nat)
 | m (id:Nat)
 | z
 | χ
instance:Inhabited AV:=⟨.χ⟩
inductive bf (w:World) (F:Nat→Prop):AV→Value→Prop where
 | v {x:Value} (h:x.oneCell'=true∨x=undef):bf w F (.v x) x
 | s0 {a:Option Addr}:bf w F (.s []) (.slice a 0 0)
 | z {a:Option Addr}:bf w F .z (.slice a 0 0)
 | s {rows:List (List AV)} {b off c k:Nat} {u:Nat→Nat→Value}
   (hb:F b) (hc:rows.length≤c) (hm:c≤maxLen)
   (hk:∀i,i<rows.length→(rows.getD i []).length=k)
   (eM:∀i j,i<rows.length→j<k→w.cell? ⟨b,off+(i*k+j),none⟩=some (u i j))
   (eZ:∀i j,i<rows.length→j<k→(u i j).oneCell'=true)
   (fy:∀i j,i<rows.length→j<k→bf w F ((rows.getD i []).getD j .χ) (u i j)) :
   bf w F (.s rows) (.slice (some ⟨b,off,none⟩) rows.length c)
 | p {cells:List AV} {b off:Nat} {u:Nat→Value}
   (hb:F b)
   (eM:∀j,j<cells.length→w.cell? ⟨b,off+j,none⟩=some (u j))
   (eZ:∀j,j<cells.length→(u j).oneCell'=true)
   (fy:∀j,j<cells.length→bf w F (cells.getD j .χ) (u j)) :
   bf w F (.p cells) (.pointer (some ⟨b,off,none⟩))
 | a {cells:List AV} {us:Array Value} (hs:us.size=cells.length)
   (eZ:∀i,i<cells.length→(us.getD i undef).oneCell'=true)
   (h:∀i,i<cells.length→bf w F (cells.getD i .χ) (us.getD i undef)):bf w F (.a cells) (.agg us)
 | t {cells:List AV} {us:Array Value} (hs:us.size=cells.length)
   (h:∀i,i<cells.length→bf w F (cells.getD i .χ) (us.getD i undef)):bf w F (.t cells) (.tuple us)
 | c {fn:Fn} {fs cs:List AV} {us vs:Array Value} (hs:us.size=fs.length) (eu:vs.size=cs.length)
   (h:∀i,i<fs.length→bf w F (fs.getD i .χ) (us.getD i undef))
   (h':∀i,i<cs.length→bf w F (cs.getD i .χ) (vs.getD i undef)):bf w F (.c fn fs cs) (.func fn us vs)
inductive Rd (w:World) (F:Nat→Prop) (β:Nat→Value):AV→Value→Prop where
 | i {x:AV} {u:Value} (h:bf w F x u):Rd w F β x u
 | χ {u:Value}:Rd w F β .χ u
 | b {id off eV:Nat} (h:β id=.pointer (some ⟨eV,0,none⟩)):Rd w F β (.b id off) (.pointer (some ⟨eV,off,none⟩))
 | o {id n c:Nat} {a:Option Addr} (h:β id=.slice a n c):Rd w F β (.o id) (.slice a n c)
 | e {id k i j g n c:Nat} (h:β id=.slice (some ⟨g,0,none⟩) n c):Rd w F β (.e id k i j) (.pointer (some ⟨g,i*k+j,none⟩))
 | m {id b:Nat} (h:β id=.map (some b)):Rd w F β (.m id) (.map (some b))
 | w {id k d n c:Nat} {a a':Option Addr} (h:β id=.slice a n c) (hd:d≤n) (ha:d<c→a'=a.map (·.add (d*k))):Rd w F β (.w id k d) (.slice a' (n-d) (c-d))
 | a {cells:List AV} {us:Array Value} (hs:us.size=cells.length)
   (eZ:∀i,i<cells.length→(us.getD i undef).oneCell'=true)
   (h:∀i,i<cells.length→Rd w F β (cells.getD i .χ) (us.getD i undef)):Rd w F β (.a cells) (.agg us)
 | t {cells:List AV} {us:Array Value} (hs:us.size=cells.length)
   (h:∀i,i<cells.length→Rd w F β (cells.getD i .χ) (us.getD i undef)):Rd w F β (.t cells) (.tuple us)
 | c {fn:Fn} {fs cs:List AV} {us vs:Array Value} (hs:us.size=fs.length) (eu:vs.size=cs.length)
   (h:∀i,i<fs.length→Rd w F β (fs.getD i .χ) (us.getD i undef))
   (h':∀i,i<cs.length→Rd w F β (cs.getD i .χ) (vs.getD i undef)):Rd w F β (.c fn fs cs) (.func fn us vs)
def fZ (F:Nat→Prop) (w w':World):Prop:=∀b,F b→w'.heap[b]?=w.heap[b]?
def fZ.cell {F:Nat→Prop} {w w':World} (h:fZ F w w') {b o:Nat} (hb:F b):w'.cell? ⟨b,o,none⟩=w.cell? ⟨b,o,none⟩ :=
 World.cell?_of_block (w:=w) (h b hb)
def bf.frame {w w':World} {F F':Nat→Prop} (ha:fZ F w w') (hF:∀b,F b→F' b) {x:AV} {u:Value} (h:bf w F x u):bf w' F' x u:=by
 induction h with
 | v h=>exact .v h
 | s0=>exact .s0
 | z=>exact .z
 | s hb hc hm hk eM eZ fy ih=>exact .s (hF _ hb) hc hm hk (fun i j hi hj=>by rw [ha.cell hb]; exact eM i j hi hj) eZ ih
 | p hb eM eZ fy ih=>exact .p (hF _ hb) (fun j hj=>by rw [ha.cell hb]; exact eM j hj) eZ ih
 | a hs eZ h ih=>exact .a hs eZ ih
 | t hs h ih=>exact .t hs ih
 | c hs eu h h' ih EM=>exact .c hs eu ih EM
def Rd.frame {w w':World} {F F':Nat→Prop} {β:Nat→Value} (ha:fZ F w w') (hF:∀b,F b→F' b) {x:AV} {u:Value} (h:Rd w F β x u):Rd w' F' β x u:=by
 induction h with
 | i h=>exact .i (h.frame ha hF)
 | χ=>exact .χ
 | b h=>exact .b h
 | o h=>exact .o h
 | e h=>exact .e h
 | w h hd ha=>exact .w h hd ha
 | m h=>exact .m h
 | a hs eZ h ih=>exact .a hs eZ ih
 | t hs h ih=>exact .t hs ih
 | c hs eu h h' ih EM=>exact .c hs eu ih EM
section
variable {w:World} {F:Nat→Prop} {β:Nat→Value} {u:Value}
def Rd.bL {x:Value} (h:Rd w F β (.v x) u):u=x:=by
 cases h with
 | i h=>cases h; rfl
def Rd.qM {cells:List AV} (h:Rd w F β (.a cells) u):∃us:Array Value,u=.agg us∧us.size=cells.length∧(∀i,i<cells.length→(us.getD i undef).oneCell'=true) ∧
  ∀i,i<cells.length→Rd w F β (cells.getD i .χ) (us.getD i undef):=by
 cases h with
 | i h=>cases h with | a hs eZ h=>exact ⟨_,rfl,hs,eZ,fun i hi=>.i (h i hi)⟩
 | a hs eZ h=>exact ⟨_,rfl,hs,eZ,h⟩
def Rd.Ct {cells:List AV} (h:Rd w F β (.t cells) u):∃us:Array Value,u=.tuple us∧us.size=cells.length ∧
  ∀i,i<cells.length→Rd w F β (cells.getD i .χ) (us.getD i undef):=by
 cases h with
 | i h=>cases h with | t hs h=>exact ⟨_,rfl,hs,fun i hi=>.i (h i hi)⟩
 | t hs h=>exact ⟨_,rfl,hs,h⟩
def Rd.nt {fn:Fn} {fs cs:List AV} (h:Rd w F β (.c fn fs cs) u):∃us vs:Array Value,u=.func fn us vs∧us.size=fs.length∧vs.size=cs.length ∧
  (∀i,i<fs.length→Rd w F β (fs.getD i .χ) (us.getD i undef))∧(∀i,i<cs.length→Rd w F β (cs.getD i .χ) (vs.getD i undef)):=by
 cases h with
 | i h=>cases h with | c hs eu h h'=>exact ⟨_,_,rfl,hs,eu,fun i hi=>.i (h i hi),fun i hi=>.i (h' i hi)⟩
 | c hs eu h h'=>exact ⟨_,_,rfl,hs,eu,h,h'⟩
def Rd.oN {rows:List (List AV)} (h:Rd w F β (.s rows) u):bf w F (.s rows) u:=by cases h; assumption
def Rd.BQ {cells:List AV} (h:Rd w F β (.p cells) u):bf w F (.p cells) u:=by cases h; assumption
def Rd.Ah (h:Rd w F β .z u):∃a,u=.slice a 0 0:=by cases h with | i h=>cases h; exact ⟨_,rfl⟩
def Rd.mz {id off:Nat} (h:Rd w F β (.b id off) u):∃eV,β id=.pointer (some ⟨eV,0,none⟩)∧u=.pointer (some ⟨eV,off,none⟩):=by
 cases h with
 | i h=>cases h
 | b h=>exact ⟨_,h,rfl⟩
def Rd.jW {id:Nat} (h:Rd w F β (.o id) u):∃a n c,β id=.slice a n c∧u=.slice a n c:=by
 cases h with
 | i h=>cases h
 | o h=>exact ⟨_,_,_,h,rfl⟩
def Rd.AM {id k i j:Nat} (h:Rd w F β (.e id k i j) u):∃g n c,β id=.slice (some ⟨g,0,none⟩) n c∧u=.pointer (some ⟨g,i*k+j,none⟩):=by
 cases h with
 | i h=>cases h
 | e h=>exact ⟨_,_,_,h,rfl⟩
def Rd.zr {id:Nat} (h:Rd w F β (.m id) u):∃b,β id=.map (some b)∧u=.map (some b):=by
 cases h with
 | i h=>cases h
 | m h=>exact ⟨_,h,rfl⟩
def Rd.xc {id k d:Nat} (h:Rd w F β (.w id k d) u):∃a a' n c,β id=.slice a n c∧d≤n∧(d<c→a'=a.map (·.add (d*k)))∧u=.slice a' (n-d) (c-d):=by
 cases h with
 | i h=>cases h
 | w h hd ha=>exact ⟨_,_,_,_,h,hd,ha,rfl⟩
end
def uL:AV→Bool
 | .v (.agg _) | .v (.tuple _) | .a _ | .t _ | .χ=>false
 | _=>true
def ads {w:World} {F:Nat→Prop} {β:Nat→Value} {x:AV} {u:Value} (hx:uL x=true) (h:Rd w F β x u):u.oneCell'=true:=by
 cases h with
 | i h =>
  cases h with
  | v h =>
   rcases h with h | rfl
   ·exact h
   ·simp [uL,undef] at hx
  | s0=>rfl
  | z=>rfl
  | s=>rfl
  | p=>rfl
  | a=>simp [uL] at hx
  | t=>simp [uL] at hx
  | c=>rfl
 | χ=>simp [uL] at hx
 | b=>rfl
 | o=>rfl
 | e=>rfl
 | w=>rfl
 | m=>rfl
 | a=>simp [uL] at hx
 | t=>simp [uL] at hx
 | c=>rfl
structure RF where
 ps:Array Tmp
 assign:Code
 body:Code
 n:Nat
def LS.st:LS→LoopState
 | .iH=>.ready
 | .LG=>.busy
 | _=>.done
def LS.zC:LS→Option Code
 | .ret=>some .ret
 | .ex i=>some (.exit i)
 | _=>none
inductive Chunk where
 | box (cells:List AV)
 | own (E k:Nat) (rows:List (List AV))
 | mp (ag:Bool) (rows:List (Int×List AV))
 | lp (l:Nat) (e:LS) (R:RF) (L:List (Nat×AV))
 | si (s:ByteArray) (pos:Nat)
abbrev Hp:=List (Nat×Chunk)
def bQ:Value→Option Nat
 | .pointer (some a)=>some a.block
 | .slice (some a) _ c=>bif aH c 0 then none else some a.block
 | .map (some b)=>some b
 | _=>none
def rM (ag:Bool) (cells:List AV):AV:=bif ag then .a cells else cells.getD 0 .χ
def Chunk.holds (w:World) (F:Nat→Prop) (β:Nat→Value) (id:Nat):Chunk→Prop
 | .box cells=>∃b c e,β id=.pointer (some ⟨b,0,none⟩)∧w.heap[b]?=some (.cells c e (0,0))∧c.size=cells.length ∧
   (∀i,i<cells.length→(c.getD i undef).oneCell'=true)∧∀i,i<cells.length→Rd w F β (cells.getD i .χ) (c.getD i undef)
 | .own E k rows=>(rows=[]∧∃a,β id=.slice a 0 0)∨∃g cap cur,β id=.slice (some ⟨g,0,none⟩) rows.length cap∧0<cap∧w.heap[g]?=some (.cells cur E (0,0))∧rows.length≤cap∧cap≤maxLen ∧
   cur.size=cap*k∧(∀i,i<rows.length→(rows.getD i []).length=k) ∧
   ∀i j,i<rows.length→j<k→(cur.getD (i*k+j) undef).oneCell'=true∧bf w F ((rows.getD i []).getD j .χ) (cur.getD (i*k+j) undef)
 | .mp ag rows=>∃b es ck,β id=.map (some b)∧w.heap[b]?=some (.map es ck)∧Y6 es ck∧es.size=rows.length∧es.size≤140737488355328 ∧
   ∀(i:Nat) (r:Int×List AV),rows[i]?=some r→∃e:MapEntry,es[i]?=some e∧e.key=.int .i64 r.1∧Θ r.1∧bf w F (rM ag r.2) e.val
 | .lp l e R L=>∃fn tmps D,β id=.pointer (some ⟨l,0,none⟩)∧w.heap[l]?=some (.loop { state:=e.st,pending:=e.zC,fn,tmps,params:=R.ps,assign:=R.assign,body:=R.body,defers:=D })∧tmps.size=R.n ∧
   ∀p,p∈L→Rd w F β p.2 (tmps.getD p.1 undef)
 | .si s pos=>∃b,β id=.pointer (some ⟨b,0,none⟩)∧w.heap[b]?=some (.stringIter s pos)
def cL.ok [G:cL] (w:World) (F:Nat→Prop):Prop:=∀b v,(b,v)∈G.cells→F b∧w.cell? ⟨b,0,none⟩=some v
def cL.ok.frame {w w':World} {F F':Nat→Prop} (h:cL.ok w F) (ha:fZ F w w') (hF:∀b,F b→F' b):cL.ok w' F':=fun b v hm=>⟨hF b (h b v hm).1,(ha.cell (h b v hm).1).trans (h b v hm).2⟩
def cL.ok.more {w:World} {F F':Nat→Prop} (h:cL.ok w F) (hF:∀b,F b→F' b):cL.ok w F':=h.frame (fun _ _=>rfl) hF
def cL.ok.at {w w':World} {F:Nat→Prop} (h:cL.ok w F) (ha:fZ F w w'):cL.ok w' F:=h.frame ha fun _ h=>h
def bD (β:Nat→Value) (H:Hp) (b:Nat):Prop:=∃id c,(id,c)∈H∧bQ (β id)=some b
structure Inv (w:World) (F:Nat→Prop) (β:Nat→Value) (H:Hp):Prop where
 cC:∀b,F b→b<w.heap.size
 holds:∀id c,(id,c)∈H→c.holds w F β id
 keys:(H.map (·.1)).Nodup
 apart:∀b,bD β H b→¬F b
 eA:∀id c EL c' b,(id,c)∈H→(EL,c')∈H→bQ (β id)=some b→bQ (β EL)=some b→id=EL
 fh:cL.ok w F
def kE {w:World} {b:Nat} {o:Obj} (h:w.heap[b]?=some o):b<w.heap.size:=(lg.1 h).1
def acr {w:World} {F:Nat→Prop} {β:Nat→Value} {id:Nat} {c:Chunk} (h:c.holds w F β id) {b:Nat} (hb:bQ (β id)=some b):b<w.heap.size:=by
 cases c with
 | box cells =>
  obtain ⟨b',c',e,ah,hh,_⟩:=h;rw [ah] at hb; simp [bQ] at hb; subst hb;exact kE hh
 | mp ag rows =>
  obtain ⟨b',es,ck,ah,hh,_⟩:=h;rw [ah] at hb; simp [bQ] at hb; subst hb;exact kE hh
 | lp l e R L =>
  obtain ⟨fn,tmps,D,ah,hh,_⟩:=h;rw [ah] at hb; simp [bQ] at hb; subst hb;exact kE hh
 | si s pos =>
  obtain ⟨b',ah,hh⟩:=h;rw [ah] at hb; simp [bQ] at hb; subst hb;exact kE hh
 | own E k rows =>
  rcases h with ⟨_,a,hv⟩ | ⟨g,cap,cur,hv,hc,hg,_⟩
  ·rw [hv] at hb; cases a <;> simp [bQ] at hb
  ·have h0:aH cap 0=false:=by cases cap <;> first | rfl | omega
   rw [hv] at hb; simp [bQ,h0] at hb; subst hb;exact kE hg
def Inv.fI {w:World} {F:Nat→Prop} {β:Nat→Value} {H:Hp} (h:Inv w F β H) {b:Nat} (hb:bD β H b):b<w.heap.size:=by
 obtain ⟨id,c,hm,hk⟩:=hb;exact acr (h.holds id c hm) hk
structure ae where
 f:Nat→AV
 H:Hp
def aF:Nat→AV:=fun _=>.χ
def jm [bK] (w w':World):Prop:=w'.tape=w.tape∧(bK.on→w.drawn≤w'.drawn)
def jm.refl (w:World):jm w w:=⟨rfl,fun _=>bF _⟩
def jm.trans {w w' rN:World} (h:jm w w') (h':jm w' rN):jm w rN:=⟨h'.1.trans h.1,fun m=>fc (h.2 m) (h'.2 m)⟩
structure Below (B:Nat) (w w':World):Prop where
 os:w'.os=w.os
 tape:jm w w'
 output:w'.output=w.output
 size:w.heap.size≤w'.heap.size
 block:∀k,k<B→w'.heap[k]?=w.heap[k]?
def Below.old {B:Nat} {w w':World} (h:Below B w w'):Go.RowKit.Below B w w':=⟨h.os,h.tape.1,h.output,h.size,h.block⟩
def Below.refl (B:Nat) (w:World):Below B w w:=⟨rfl,jm.refl _,rfl,bF _,fun _ _=>rfl⟩
def Below.trans {B:Nat} {a b c:World} (h:Below B a b) (k:Below B b c):Below B a c :=
 ⟨k.os.trans h.os,h.tape.trans k.tape,k.output.trans h.output,fc h.size k.size,fun i hi=>(k.block i hi).trans (h.block i hi)⟩
def Below.drew {B:Nat} {a w:World} (h:Below B a w):Below B a w.drew:=⟨h.os,⟨h.tape.1,fun m=>Nat.le_succ_of_le (h.tape.2 m)⟩,h.output,h.size,h.block⟩
def Below.alloc {B:Nat} {a w:World} (h:Below B a w) (hB:B≤w.heap.size) (o:Obj):Below B a (w.alloc o) :=
 ⟨h.os,h.tape,h.output,(h.old.alloc hB o).size,(h.old.alloc hB o).block⟩
structure Ext (w:World) (F:Nat→Prop) (β:Nat→Value) (st:ae) (w':World) (F':Nat→Prop) (av:Nat→Value) (aq:ae):Prop where
 os:w'.os=w.os
 tape:jm w w'
 output:w'.output=w.output
 size:w.heap.size≤w'.heap.size
 block:∀b,b<w.heap.size→¬bD β st.H b→w'.heap[b]?=w.heap[b]?
 mono:∀b,F b→F' b
 new:∀b,F' b→F b∨w.heap.size≤b∨bD β st.H b
 owned:∀b,bD av aq.H b→w.heap.size≤b∨bD β st.H b
 keep:∀t u,Rd w F β (st.f t) u→Rd w' F' av (aq.f t) u
 inv:Inv w' F' av aq.H
 gp:∀i,1000≤i→av i=β i
def Ext.refl {w:World} {F:Nat→Prop} {β:Nat→Value} {st:ae} (h:Inv w F β st.H):Ext w F β st w F β st :=
 ⟨rfl,jm.refl _,rfl,bF _,fun _ _ _=>rfl,fun _ h=>h,fun _ h=>.inl h,fun _ h=>.inr h,fun _ _ h=>h,h,fun _ _=>rfl⟩
def Ext.trans {w:World} {F:Nat→Prop} {β:Nat→Value} {st:ae} {w':World} {F':Nat→Prop} {av:Nat→Value} {aq:ae} {rN:World} {Rr:Nat→Prop} {YR:Nat→Value} {fK:ae}
  (h:Ext w F β st w' F' av aq) (h':Ext w' F' av aq rN Rr YR fK):Ext w F β st rN Rr YR fK where
 os:=h'.os.trans h.os
 tape:=h.tape.trans h'.tape
 output:=h'.output.trans h.output
 size:=fc h.size h'.size
 block b hb hn:=by
  have h1:¬bD av aq.H b:=fun ho=>(h.owned b ho).elim (fun gz=>absurd hb (mg.2 gz)) hn;rw [h'.block b (oe hb h.size) h1,h.block b hb hn]
 mono b hb:=h'.mono b (h.mono b hb)
 new b hb:=by
  rcases h'.new b hb with h1 | h1 | h1
  ·exact h.new b h1
  ·exact .inr (.inl (fc h.size h1))
  ·exact (h.owned b h1).elim (fun x=>.inr (.inl x)) (fun x=>.inr (.inr x))
 owned b hb:=by
  rcases h'.owned b hb with h1 | h1
  ·exact .inl (fc h.size h1)
  ·exact h.owned b h1
 keep t u hu:=h'.keep t u (h.keep t u hu)
 inv:=h'.inv
 gp i hi:=(h'.gp i hi).trans (h.gp i hi)
end
section
open Go.RowKit
variable [M:bK] [G:cL]
inductive TK where
 | bool | int (k:IntKind) | str | struct (fs:List (Nat×Nat)) | slice (e:Nat) | arr (n e:Nat) | map (k e:Nat) | iface | other
structure TI where
 kind:TK
 cells:Nat
 bytes:Nat
 zero:Value
def rY:TypeDesc→TK
 | .bool=>.bool
 | .int k=>.int k
 | .string=>.str
 | .struct fs=>.struct (fs.toList.map fun f=>(f.offset,f.type))
 | .slice e=>.slice e
 | .array n e=>.arr n e
 | .map k e=>.map k e
 | .interface _=>.iface
 | _=>.other
abbrev TT:=Nat→Option TI
def gx (P:Program) (t:Nat) (i:TI):Prop :=
 (P.info? t).map (fun j=>(j.zero,j.size,j.bytes))=some (some i.zero,i.cells,i.bytes)∧(P.underlying t).map rY=some i.kind
def bM (P:Program) (T:TT):Prop:=∀t i,T t=some i→gx P t i
def lk:List (Nat×TI)→TT
 | [],_=>none
 | (t,i)::r,x=>bif aH x t then some i else lk r x
def Ro (P:Program):List (Nat×TI)→Prop
 | []=>True
 | (t,i)::r=>gx P t i∧Ro P r
def bM.aem {P:Program} {l:List (Nat×TI)} (h:Ro P l):bM P (lk l):=by
 induction l with
 | nil=>intro t i h'; cases h'
 | cons x r ih =>
  obtain ⟨t,i⟩:=x;intro t' i' h';simp only [lk] at h';cases hb:aH t' t with
  | true =>
   rw [hb] at h';have:=cR hb;subst this;cases h';exact h.1
  | false =>
   rw [hb] at h';exact ih h.2 t' i' h'
section
variable {P:Program} {t:Nat} {i:TI}
def gx.info (h:gx P t i):∃j,P.info? t=some j∧j.zero=some i.zero∧j.size=i.cells∧j.bytes=i.bytes:=by
 obtain ⟨h,_⟩:=h;cases hj:P.info? t with
 | none=>simp [hj] at h
 | some j=>simp [hj] at h; exact ⟨j,rfl,h.1,h.2.1,h.2.2⟩
def gx.oa (h:gx P t i):∃d,P.underlying t=some d∧rY d=i.kind:=by
 obtain ⟨_,h⟩:=h;cases hj:P.underlying t with
 | none=>simp [hj] at h
 | some j=>simp [hj] at h; exact ⟨j,rfl,h⟩
def gx.slice {e:Nat} (h:gx P t i) (hk:i.kind=.slice e):P.underlying t=some (.slice e):=by
 obtain ⟨d,hd,cJ⟩:=h.oa;rw [hk] at cJ;cases d <;> simp [rY] at cJ;subst cJ; exact hd
def gx.arr {n e:Nat} (h:gx P t i) (hk:i.kind=.arr n e):P.underlying t=some (.array n e):=by
 obtain ⟨d,hd,cJ⟩:=h.oa;rw [hk] at cJ;cases d <;> simp [rY] at cJ;obtain ⟨rfl,rfl⟩:=cJ; exact hd
def gx.int {k:IntKind} (h:gx P t i) (hk:i.kind=.int k):P.underlying t=some (.int k):=by
 obtain ⟨d,hd,cJ⟩:=h.oa;rw [hk] at cJ;cases d <;> simp [rY] at cJ;subst cJ; exact hd
def gx.map {kt e:Nat} (h:gx P t i) (hk:i.kind=.map kt e):P.underlying t=some (.map kt e):=by
 obtain ⟨d,hd,cJ⟩:=h.oa;rw [hk] at cJ;cases d <;> simp [rY] at cJ;obtain ⟨rfl,rfl⟩:=cJ; exact hd
def gx.str (h:gx P t i) (hk:i.kind=.str):P.underlying t=some .string:=by
 obtain ⟨d,hd,cJ⟩:=h.oa;rw [hk] at cJ;cases d <;> simp [rY] at cJ;exact hd
def gx.struct {fs:List (Nat×Nat)} (h:gx P t i) (hk:i.kind=.struct fs):∃fields,P.underlying t=some (.struct fields)∧fields.toList.map (fun f=>(f.offset,f.type))=fs:=by
 obtain ⟨d,hd,cJ⟩:=h.oa;rw [hk] at cJ;cases d <;> simp [rY] at cJ;exact ⟨_,hd,cJ⟩
def gx.kX (h:gx P t i) (w:World):(sizeOf t).run P w=.ok i.cells w:=by
 obtain ⟨j,hj,_,hs,_⟩:=h.info;simp [sizeOf,typeInfo,hj,hs]
def gx.tp (h:gx P t i) (w:World):(zeroValue t).run P w=.ok i.zero w:=by
 obtain ⟨j,hj,hz,_⟩:=h.info;simp [zeroValue,typeInfo,hj,hz]
end
def pX:TK→Bool
 | .struct _ | .arr _ _=>true
 | _=>false
def gx.JN {P:Program} {t:Nat} {i:TI} (h:gx P t i) (w:World):(isAgg t).run P w=.ok (pX i.kind) w:=by
 obtain ⟨d,hd,hk⟩:=h.oa;simp only [isAgg,kz,run_underlying hd,mh];cases d <;> simp [rY] at hk <;> rw [←hk] <;> rfl
def cq:Value→AV
 | .agg cs=>bif cs.toList.all (·.oneCell') then .a (cs.toList.map .v) else .χ
 | .tuple _=>.χ
 | x=>.v x
def nV (w:World) (F:Nat→Prop) (x:Value) (β:Nat→Value):Rd w F β (cq x) x:=by
 unfold cq;split
 ·rename_i cs;cases hc:cs.toList.all (·.oneCell') with
  | false=>exact .χ
  | true =>
   refine .i (.a (by simp) (fun i hi=>?_) fun i hi=>?_)
   ·simp at hi;have:=(ej.1 hc) cs[i] (by simp);simpa [xf,hi] using this
   ·simp at hi;have:=(ej.1 hc) cs[i] (by simp);simp [xf,hi];exact .v (.inl this)
 ·exact .χ
 ·rename_i h1 h2;refine .i (.v (.inl ?_))
  cases x <;> first | rfl | exact absurd rfl (h1 _) | exact absurd rfl (h2 _)
def ev (f:Nat→AV):Operand→AV
 | .tmp t=>f t
 | .const v=>cq v
 | .global _=>.χ
 | .func g=>.c (.func g) [] []
def AQ {w:World} {F:Nat→Prop} {β:Nat→Value} {f:Nat→AV} {a:Act} (h:∀t,Rd w F β (f t) (a.tmps.getD t undef)) (x:Operand):Rd w F β (ev f x) (a.eval x):=by
 cases x with
 | tmp t=>exact h t
 | const v=>exact nV _ _ _ _
 | global g=>exact .χ
 | func g=>exact .i (.c rfl rfl (fun i hi=>absurd hi (by simp)) (fun i hi=>absurd hi (by simp)))
def Θ.wrap {n:Int} (h:Θ n):IntKind.i64.wrap n=n:=qB _ h
def Lw (op:BinOp) (kx ky:IntKind) (a b:Int) (k:Value→Prop):Prop :=
 match op with
 | .shl=>0≤b∧∃r,kx.wrap (a*2 ^ (min b.toNat kx.bits))=r∧k (.int kx r)
 | .shr=>0≤b∧∃r,a.fdiv (2 ^ (min b.toNat kx.bits))=r∧k (.int kx r)
 | op=>bif kx==ky then
  match op with
  | .add=>match kx with
   | .i64=>(Θ (a+b)∧k (.int .i64 (a+b)))∨∃r,IntKind.i64.wrap (a+b)=r∧k (.int .i64 r)
   | _=>∃r,kx.wrap (a+b)=r∧k (.int kx r)
  | .sub=>match kx with
   | .i64=>(Θ (a-b)∧k (.int .i64 (a-b)))∨∃r,IntKind.i64.wrap (a-b)=r∧k (.int .i64 r)
   | _=>∃r,kx.wrap (a-b)=r∧k (.int kx r)
  | .mul=>match kx with
   | .i64=>(Θ (a*b)∧k (.int .i64 (a*b)))∨∃r,IntKind.i64.wrap (a*b)=r∧k (.int .i64 r)
   | _=>∃r,kx.wrap (a*b)=r∧k (.int kx r)
  | .quo=>b≠0∧∃r,kx.wrap (a.tdiv b)=r∧k (.int kx r)
  | .rem=>b≠0∧∃r,a.tmod b=r∧k (.int kx r)
  | .and=>∃r,kx.wrap (eF kx.bits a &&& eF kx.bits b).toNat=r∧k (.int kx r)
  | .or=>∃r,kx.wrap (eF kx.bits a ||| eF kx.bits b).toNat=r∧k (.int kx r)
  | .xor=>∃r,kx.wrap (eF kx.bits a ^^^ eF kx.bits b).toNat=r∧k (.int kx r)
  | .andNot=>∃r,kx.wrap (eF kx.bits a &&& ~~~eF kx.bits b).toNat=r∧k (.int kx r)
  | .eql=>k (.bool (a==b))
  | .neq=>k (.bool (a != b))
  | .lss=>k (.bool (decide (a<b)))
  | .leq=>k (.bool (decide (a≤b)))
  | .gtr=>k (.bool (decide (a>b)))
  | .geq=>k (.bool (decide (a≥b)))
  | _=>False
 else False
def cond_prop {c:Bool} {p:Prop} (h:bif c then p else False):c=true∧p:=by
 cases c with
 | true=>exact ⟨rfl,h⟩
 | false=>cases h
def RN {a b:IntKind} (h:(a==b)=true):a=b:=by
 cases a <;> cases b <;> first | rfl | exact absurd h (by decide)
def Z2 {P:Program} {op:BinOp} {kx ky:IntKind} {a b:Int} {k:Value→Prop} (h:Lw op kx ky a b k) (t:TypeId) (w:World) :
  ∃v,(binOp op t (.int kx a) (.int ky b)).run P w=.ok v w∧v.oneCell'=true∧k v:=by
 cases op
 case shl =>
  obtain ⟨h0,r,rfl,hk⟩:=h;exact ⟨_,by simp [binOp,Op.shift,Int.not_lt.2 h0],rfl,hk⟩
 case shr =>
  obtain ⟨h0,r,rfl,hk⟩:=h;exact ⟨_,by simp [binOp,Op.shift,Int.not_lt.2 h0],rfl,hk⟩
 all_goals
  simp only [Lw] at h;obtain ⟨hc,h1⟩:=cond_prop h;clear h;obtain rfl:=RN hc;clear hc
 case add =>
  cases kx <;> first | (obtain ⟨r,rfl,hk⟩:=h1; exact ⟨_,by simp [binOp,tY],rfl,hk⟩) | (rcases h1 with ⟨h1,hk⟩ | ⟨r,rfl,hk⟩; exact ⟨_,by simp [binOp,tY,h1.wrap],rfl,hk⟩; exact ⟨_,by simp [binOp,tY],rfl,hk⟩)
 case sub =>
  cases kx <;> first | (obtain ⟨r,rfl,hk⟩:=h1; exact ⟨_,by simp [binOp,tY],rfl,hk⟩) | (rcases h1 with ⟨h1,hk⟩ | ⟨r,rfl,hk⟩; exact ⟨_,by simp [binOp,tY,h1.wrap],rfl,hk⟩; exact ⟨_,by simp [binOp,tY],rfl,hk⟩)
 case mul =>
  cases kx <;> first | (obtain ⟨r,rfl,hk⟩:=h1; exact ⟨_,by simp [binOp,tY],rfl,hk⟩) | (rcases h1 with ⟨h1,hk⟩ | ⟨r,rfl,hk⟩; exact ⟨_,by simp [binOp,tY,h1.wrap],rfl,hk⟩; exact ⟨_,by simp [binOp,tY],rfl,hk⟩)
 case quo =>
  obtain ⟨h0,r,rfl,hk⟩:=h1;exact ⟨_,by simp [binOp,Op.intDiv,h0],rfl,hk⟩
 case rem =>
  obtain ⟨h0,r,rfl,hk⟩:=h1;exact ⟨_,by simp [binOp,Op.intDiv,h0],rfl,hk⟩
 case and =>
  obtain ⟨r,rfl,hk⟩:=h1;exact ⟨_,by simp [binOp,K2],rfl,hk⟩
 case or =>
  obtain ⟨r,rfl,hk⟩:=h1;exact ⟨_,by simp [binOp,K2],rfl,hk⟩
 case xor =>
  obtain ⟨r,rfl,hk⟩:=h1;exact ⟨_,by simp [binOp,K2],rfl,hk⟩
 case andNot =>
  obtain ⟨r,rfl,hk⟩:=h1;exact ⟨_,by simp [binOp,K2],rfl,hk⟩
 all_goals exact ⟨_,by simp [binOp,Op.intCmp],rfl,h1⟩
end
section
open Go.RowKit
variable [M:bK] [G:cL]
inductive oh where
 | int (k:IntKind) | bool | str
inductive CK where
 | one (k:oh) | st (l:List oh)
def vK:CK→List oh
 | .one k=>[k]
 | .st l=>l
def ll (P:Program) (t:TypeId) (k:oh):Bool :=
 match P.underlying t,k with
 | some (.int q),.int k=>q==k
 | some .bool,.bool=>true
 | some .string,.str=>true
 | _,_=>false
def yd (P:Program):Nat→List Field→List oh→Bool
 | _,[],[]=>true
 | o, f :: fs, k :: ks => f.name != "_" && (aH f.offset o && (ll P f.type k && yd P (o + 1) fs ks))
 | _,_,_=>false
def Hj (P:Program) (t:TypeId):CK→Bool
 | .one k=>ll P t k
 | .st l=>(match P.underlying t with | some (.struct _)=>true | _=>false)&&(!P.stoodInHeld t&&((match P.info? t with | some i=>aH i.size l.length | none=>false)&&yd P 0 (P.fieldsOf t).toList l))
def AO (P:Program):Nat→List Field→List CK→Bool
 | _,[],[]=>true
 | o, f :: fs, k :: ks => f.name != "_" && (aH f.offset o && (Hj P f.type k && AO P (o + (vK k).length) fs ks))
 | _,_,_=>false
def L7 (P:Program) (t:TypeId) (ks:List CK):Bool :=
 match P.underlying t with
 | some (.array n e)=>aH ks.length n&&((match P.info? e with | some i=>aH i.size 1 | none=>false)&&ks.all fun k=>match k with | .one c=>ll P e c | .st _=>false)
 | _=>false
def Sz (P:Program) (t:TypeId) (ks:List CK):Bool :=
 !P.eqGuardType P.depth t&&(((match P.underlying t with | some (.struct _)=>true | _=>false)&&(!P.stoodInHeld t&&AO P 0 (P.fieldsOf t).toList ks))||L7 P t ks)
def jc:List oh→List AV→List AV→Bool
 | [],[],[]=>true
 | .int k::ks,.v (.int k1 _)::r,.v (.int k2 _)::r'=>k1==k&&(k2==k&&jc ks r r')
 | .bool::ks,.v (.bool _)::r,.v (.bool _)::r'=>jc ks r r'
 | .str::ks,.v (.string _)::r,.v (.string _)::r'=>jc ks r r'
 | _,_,_=>false
def sz:List CK→List AV→List AV→Bool
 | [],[],[]=>true
 | k::ks,xs,ys=>jc (vK k) (xs.take (vK k).length) (ys.take (vK k).length)&&sz ks (xs.drop (vK k).length) (ys.drop (vK k).length)
 | _,_,_=>false
def eC:List AV→List AV→Bool
 | .v (.int _ a)::r,.v (.int _ b)::r'=>a==b&&eC r r'
 | .v (.bool a)::r,.v (.bool b)::r'=>a==b&&eC r r'
 | .v (.string a)::r,.v (.string b)::r'=>a.data.toList==b.data.toList&&eC r r'
 | _,_=>true
def Az {a b:IntKind} (h:(a==b)=true):a=b:=by
 cases a <;> cases b <;> first | rfl | exact absurd h (by decide)
def tn {P:Program} {w:World} {t:TypeId} {k:oh} {us:Array Value} {o:Nat} {v:Value} (hk:ll P t k=true) (h:us[o]?=some v):(part t us o).run P w=.ok v w:=by
 unfold ll at hk;split at hk;iterate 3 (rename_i hu; simp [part,isAgg,run_underlying hu,h])
 ·cases hk
def O4 {P:Program} {w:World} {us vs:Array Value} {d:Nat}:∀(fs:List Field) (ks:List oh) (xs ys:List AV) (o:Nat),yd P o fs ks=true→jc ks xs ys=true →
  (∀i x,xs[i]?=some (.v x)→us[o+i]?=some x)→(∀i x,ys[i]?=some (.v x)→vs[o+i]?=some x)→(xr (d+1) us vs fs).run P w=.ok (eC xs ys) w
 | [],[],[],[],_,_,_,_,_=>by simp [xr,eC]
 | f::fs,k::ks,xs,ys,o,hf,hk,hx,hy=>by
  simp only [yd,bJ,bne_iff_ne] at hf;obtain ⟨Iv,wo,eN,nK⟩:=hf;have wo:f.offset=o:=cR wo
  have hu:∃td,P.underlying f.type=some td:=by
   unfold ll at eN;cases h:P.underlying f.type with
   | none=>rw [h] at eN; cases eN
   | some td=>exact ⟨td,rfl⟩
  have go:∀{x y:Value} {r r':List AV} {b:Bool},xs=.v x::r→ys=.v y::r'→jc ks r r'=true→(vq (d+1) f.type x y).run P w=.ok b w→eC xs ys=(b&&eC r r')→(xr (d+1) us vs (f::fs)).run P w=.ok (eC xs ys) w:=by
   intro x y r r' b ex ey ji he hb;subst ex; subst ey;have h1:=tn (w:=w) eN (hx 0 x rfl);have h2:=tn (w:=w) eN (hy 0 y rfl);rw [lN] at h1 h2;have ih:=O4 (P:=P) (w:=w) (us:=us) (vs:=vs) (d:=d) fs ks r r' (o+1) nK ji (fun i x h=>by have:=hx (i+1) x (by simpa using h); rwa [show o+1+i=o+(i+1) by omega]) (fun i x h=>by have:=hy (i+1) x (by simpa using h); rwa [show o+1+i=o+(i+1) by omega]);rw [hb];simp only [xr,if_pos Iv,kz,wo,h1,h2,he,mh,Sem.run_ite];cases b
   ·simp
   ·simp [ih]
  unfold jc at hk;split at hk
  ·rename_i e; cases e
  ·rename_i e;cases e;simp only [bJ] at hk;have LV:=Az hk.1; have LW:=Az hk.2.1;subst LV; subst LW;unfold ll at eN;split at eN
   ·rename_i iR e; cases e;exact go rfl rfl hk.2.2 (run_equalIn_int w d f.type _ _ _ _ iR) rfl
   iterate 2 (rename_i e; cases e)
   ·cases eN
  ·rename_i e;cases e;unfold ll at eN;split at eN
   ·rename_i e; cases e
   ·rename_i iR e;exact go rfl rfl hk (run_equalIn_bool' w d f.type _ _ iR) rfl
   ·rename_i e; cases e
   ·cases eN
  ·rename_i e;cases e;unfold ll at eN;split at eN;iterate 2 (rename_i e; cases e)
   ·rename_i iR e;exact go rfl rfl hk (run_equalIn_string w d f.type _ _ iR) (by rw [CW,CW]; rfl)
   ·cases eN
  ·cases hk
 | [],_::_,_,_,_,h,_,_,_=>by simp [yd] at h
 | _::_,[],_,_,_,h,_,_,_=>by simp [yd] at h
 | [],[],_::_,_,_,_,h,_,_=>by simp [jc] at h
 | [],[],[],_::_,_,_,h,_,_=>by simp [jc] at h
def DD:∀{l:List oh} {a b:List AV},jc l a b=true→a.length=l.length∧b.length=l.length:=by
 intro l;induction l with
 | nil =>
  intro a b h;unfold jc at h;split at h <;> simp_all
 | cons k ks ih =>
  intro a b h;unfold jc at h;split at h
  ·rename_i e; cases e
  ·rename_i e; cases e;simp only [bJ] at h;have:=ih h.2.2;simp [this.1,this.2]
  ·rename_i e; cases e;have:=ih h;simp [this.1,this.2]
  ·rename_i e; cases e;have:=ih h;simp [this.1,this.2]
  ·cases h
def aa2:∀{l:List oh} {a b:List AV} (r r':List AV),jc l a b=true→eC (a++r) (b++r')=(eC a b&&eC r r'):=by
 intro l;induction l with
 | nil =>
  intro a b r r' h;unfold jc at h;split at h <;> simp_all [eC]
 | cons k ks ih =>
  intro a b r r' h;unfold jc at h;split at h
  ·rename_i e; cases e
  ·rename_i e; cases e;simp only [bJ] at h;simp only [C0,eC,ih r r' h.2.2,QF]
  ·rename_i e; cases e;simp only [C0,eC,ih r r' h,QF]
  ·rename_i e; cases e;simp only [C0,eC,ih r r' h,QF]
  ·cases h
def W4 {P:Program} {w:World} {t:TypeId} {l:List oh} {us:Array Value} {o:Nat} (hk:Hj P t (.st l)=true):(part t us o).run P w=.ok (.agg (us.extract o (o+l.length))) w:=by
 simp only [Hj,bJ] at hk;obtain ⟨h1,_,h3,_⟩:=hk;cases hi:P.info? t with
 | none=>rw [hi] at h3; cases h3
 | some i =>
  rw [hi] at h3;have hs:i.size=l.length:=cR h3;cases hu:P.underlying t with
  | none=>rw [hu] at h1; cases h1
  | some d =>
   rw [hu] at h1
   cases d <;> first | (cases h1; done) | skip
   simp [part,isAgg,run_underlying hu,sizeOf,typeInfo,hi,hs]
def W3 {P:Program} {w:World} {us vs:Array Value} {d:Nat}:∀(fs:List Field) (ks:List CK) (xs ys:List AV) (o:Nat),AO P o fs ks=true→sz ks xs ys=true →
  (∀i x,xs[i]?=some (.v x)→us[o+i]?=some x)→(∀i x,ys[i]?=some (.v x)→vs[o+i]?=some x)→(xr (d+2) us vs fs).run P w=.ok (eC xs ys) w
 | [],[],[],[],_,_,_,_,_=>by simp [xr,eC]
 | [],_::_,_,_,_,h,_,_,_=>by simp [AO] at h
 | _::_,[],_,_,_,h,_,_,_=>by simp [AO] at h
 | [],[],_::_,_,_,_,h,_,_=>by simp [sz] at h
 | [],[],[],_::_,_,_,h,_,_=>by simp [sz] at h
 | f::fs,k::ks,xs,ys,o,hf,hk,hx,hy=>by
  simp only [AO,bJ,bne_iff_ne] at hf;obtain ⟨Iv,wo,eN,nK⟩:=hf;have wo:f.offset=o:=cR wo;simp only [sz,bJ] at hk;obtain ⟨fQ,fx⟩:=hk;obtain ⟨m,hm⟩:∃m,m=(vK k).length:=⟨_,rfl⟩;rw [←hm] at fQ fx nK;have hlen:=DD fQ;rw [←hm] at hlen
  have HD:eC xs ys=(eC (xs.take m) (ys.take m)&&eC (xs.drop m) (ys.drop m)):=by
   have:=aa2 (xs.drop m) (ys.drop m) fQ;rwa [xp,xp] at this
  have ih:=W3 (P:=P) (w:=w) (us:=us) (vs:=vs) (d:=d) fs ks (xs.drop m) (ys.drop m) (o+m) nK fx
   (fun i x h=>by rw [jl] at h; have:=hx (m+i) x h; rwa [show o+m+i=o+(m+i) by omega])
   (fun i x h=>by rw [jl] at h; have:=hy (m+i) x h; rwa [show o+m+i=o+(m+i) by omega])
  have gl:∀i x,(xs.take m)[i]?=some (.v x)→us[o+i]?=some x:=fun i x h=>by
   have hi:=(fb.1 h).1;rw [Zj (by rw [hlen.1] at hi; exact hi)] at h;exact hx i x h
  have sS:∀i x,(ys.take m)[i]?=some (.v x)→vs[o+i]?=some x:=fun i x h=>by
   have hi:=(fb.1 h).1;rw [Zj (by rw [hlen.2] at hi; exact hi)] at h;exact hy i x h
  generalize xs.take m=a at fQ HD gl hlen;generalize ys.take m=b at fQ HD sS hlen;rw [HD];clear HD
  have key:∃x y,(part f.type us o).run P w=.ok x w∧(part f.type vs o).run P w=.ok y w∧(vq (d+2) f.type x y).run P w=.ok (eC a b) w:=by
   cases k with
   | one k =>
    have mP:ll P f.type k=true:=eN;have eZ:(xr (d+2) us vs [f]).run P w=.ok (eC a b) w :=
     O4 (P:=P) (w:=w) (us:=us) (vs:=vs) (d:=d+1) [f] [k] a b o (by simp [yd,Iv,wo,mP]) fQ gl sS
    unfold jc at fQ;simp only [vK] at fQ;split at fQ
    ·rename_i e; cases e
    ·rename_i e;cases e;have h1:=tn (w:=w) mP (gl 0 _ rfl);have h2:=tn (w:=w) mP (sS 0 _ rfl);rw [lN] at h1 h2;simp only [bJ] at fQ;have LV:=Az fQ.1; have LW:=Az fQ.2.1;subst LV; subst LW;have py:=DD fQ.2.2;have ha:=rV.1 py.1;have hb:=rV.1 py.2;subst ha; subst hb;refine ⟨_,_,h1,h2,?_⟩;unfold ll at mP;split at mP
     ·rename_i iR e; cases e;rw [run_equalIn_int w (d+1) f.type _ _ _ _ iR]; simp [eC]
     iterate 2 (rename_i e; cases e)
     ·cases mP
    ·rename_i e;cases e;have h1:=tn (w:=w) mP (gl 0 _ rfl);have h2:=tn (w:=w) mP (sS 0 _ rfl);rw [lN] at h1 h2;have py:=DD fQ;have ha:=rV.1 py.1;have hb:=rV.1 py.2;subst ha; subst hb;refine ⟨_,_,h1,h2,?_⟩;unfold ll at mP;split at mP
     ·rename_i e; cases e
     ·rename_i iR e;rw [run_equalIn_bool' w (d+1) f.type _ _ iR]; simp [eC]
     ·rename_i e; cases e
     ·cases mP
    ·rename_i e;cases e;have h1:=tn (w:=w) mP (gl 0 _ rfl);have h2:=tn (w:=w) mP (sS 0 _ rfl);rw [lN] at h1 h2;have py:=DD fQ;have ha:=rV.1 py.1;have hb:=rV.1 py.2;subst ha; subst hb;refine ⟨_,_,h1,h2,?_⟩;unfold ll at mP;split at mP;iterate 2 (rename_i e; cases e)
     ·rename_i iR e;rw [run_equalIn_string w (d+1) f.type _ _ iR,CW,CW]; simp [eC]
     ·cases mP
    ·cases fQ
   | st l =>
    have jv:m=l.length:=hm;refine ⟨_,_,W4 eN,W4 eN,?_⟩;simp only [Hj,bJ,oS] at eN;obtain ⟨h1,h2,_,h4⟩:=eN
    have zb:P.underlying f.type=some (.struct (P.fieldsOf f.type)):=by
     unfold Zx;cases hd:P.underlying f.type with
     | none=>rw [hd] at h1; cases h1
     | some dd =>
      rw [hd] at h1
      cases dd <;> first | rfl | cases h1
    rw [run_equalIn_struct w (d+1) f.type _ _ zb h2];refine O4 (P:=P) (w:=w) (d:=d) _ l a b 0 h4 fQ (fun i x h=>?_) fun i x h=>?_
    ·have hi:=(fb.1 h).1;rw [jF,YU];have hu:=gl i x h;have Φ:o+i<us.size:=(lg.1 hu).1;rw [if_pos (by omega)]; exact hu
    ·have hi:=(fb.1 h).1;rw [jF,YU];have hu:=sS i x h;have Φ:o+i<vs.size:=(lg.1 hu).1;rw [if_pos (by omega)]; exact hu
  obtain ⟨x,y,p1,p2,p3⟩:=key;simp only [xr,if_pos Iv,kz,wo,p1,p2,p3,mh,Sem.run_ite];cases eC a b
  ·simp
  ·simp [ih]
def ags {P:Program} {w:World} {e:TypeId} {c:oh} {x y:Value} {d:Nat} (hc:ll P e c=true) (hf:jc [c] [.v x] [.v y]=true):(vq (d+1) e x y).run P w=.ok (eC [.v x] [.v y]) w:=by
 unfold jc at hf;split at hf
 ·rename_i h; cases h
 ·rename_i h1 h2 h3;cases h1; cases h2; cases h3;simp only [bJ] at hf;have e2:=Az hf.1; have e3:=Az hf.2.1;subst e2; subst e3;unfold ll at hc;split at hc
  ·rename_i hu h; cases h;rw [run_equalIn_int w d e _ _ _ _ hu]; simp [eC]
  iterate 2 (rename_i h; cases h)
  ·cases hc
 ·rename_i h1 h2 h3;cases h1; cases h2; cases h3;unfold ll at hc;split at hc
  ·rename_i h; cases h
  ·rename_i hu h;rw [run_equalIn_bool' w d e _ _ hu]; simp [eC]
  ·rename_i h; cases h
  ·cases hc
 ·rename_i h1 h2 h3;cases h1; cases h2; cases h3;unfold ll at hc;split at hc;iterate 2 (rename_i h; cases h)
  ·rename_i hu h;rw [run_equalIn_string w d e _ _ hu,CW,CW]; simp [eC]
  ·cases hc
 ·cases hf
def aa3 {x y:Value} {r r':List AV} {c:oh} (h:jc [c] [.v x] [.v y]=true):eC (.v x::r) (.v y::r')=(eC [.v x] [.v y]&&eC r r'):=by
 unfold jc at h;split at h <;> simp_all [eC]
def abb {c:oh} {a b:List AV} (h:jc [c] a b=true):∃x y,a=[.v x]∧b=[.v y]:=by
 have hl:=DD h
 rcases a with _ | ⟨x,_ | ⟨x',a⟩⟩ <;> rcases b with _ | ⟨y,_ | ⟨y',b⟩⟩ <;> simp at hl
 unfold jc at h;split at h <;> simp_all
def agr {P:Program} {w:World} {us vs:Array Value} {e:TypeId} {d:Nat}:∀(ks:List CK) (xs ys:List AV) (o:Nat),(ks.all fun k=>match k with | .one c=>ll P e c | .st _=>false)=true→sz ks xs ys=true →
  (∀i x,xs[i]?=some (.v x)→us[o+i]?=some x)→(∀i x,ys[i]?=some (.v x)→vs[o+i]?=some x)→(ald (d+1) e 1 us vs (List.range' o ks.length)).run P w=.ok (eC xs ys) w:=by
 intro ks;induction ks with
 | nil =>
  intro xs ys o _ hf _ _
  rcases xs with _ | ⟨x,xs⟩ <;> rcases ys with _ | ⟨y,ys⟩ <;> simp [sz] at hf
  simp [ald,eC]
 | cons k ks ih =>
  intro xs ys o ha hf hx hy;simp only [List.all_cons,bJ] at ha;cases k with
  | st l=>exact absurd ha.1 (by simp)
  | one c =>
   simp only [sz,bJ] at hf;obtain ⟨sI,Ii⟩:=hf;obtain ⟨x,y,e1,e2⟩:=abb sI;change xs.take 1=_ at e1;change ys.take 1=_ at e2
   obtain ⟨r,rfl⟩:∃r,xs=.v x::r:=by
    cases xs with
    | nil=>cases e1
    | cons a r=>simp only [Zr,ale,GF,and_true] at e1; exact ⟨r,by rw [e1]⟩
   obtain ⟨r',rfl⟩:∃r,ys=.v y::r:=by
    cases ys with
    | nil=>cases e2
    | cons a r=>simp only [Zr,ale,GF,and_true] at e2; exact ⟨r,by rw [e2]⟩
   have A7:jc [c] [.v x] [.v y]=true:=sI;have h1:=tn (w:=w) ha.1 (hx 0 x rfl);have h2:=tn (w:=w) ha.1 (hy 0 y rfl);rw [lN] at h1 h2;have h3:=ags (d:=d) (w:=w) ha.1 A7;have hr:=ih r r' (o+1) ha.2 Ii (fun i x h=>by have:=hx (i+1) x (by simpa using h); rwa [show o+1+i=o+(i+1) by omega]) (fun i x h=>by have:=hy (i+1) x (by simpa using h); rwa [show o+1+i=o+(i+1) by omega]);rw [aa3 A7,c8,List.range'_succ];simp only [ald,kz,Nat.mul_one,h1,h2,h3,mh];cases eC [.v x] [.v y]
   ·simp
   ·simp [hr]
def agq {P:Program} {w:World} {us vs:Array Value} {t:TypeId} {d:Nat} {ks:List CK} {xs ys:List AV} (h:L7 P t ks=true) (hf:sz ks xs ys=true)
  (hx:∀i x,xs[i]?=some (.v x)→us[0+i]?=some x) (hy:∀i x,ys[i]?=some (.v x)→vs[0+i]?=some x):(vq (d+2) t (.agg us) (.agg vs)).run P w=.ok (eC xs ys) w:=by
 unfold L7 at h;split at h
 ·rename_i n e hu;simp only [bJ] at h;obtain ⟨hn,hi,ha⟩:=h;have hn:=cR hn;cases uz:P.info? e with
  | none=>rw [uz] at hi; cases hi
  | some i =>
   rw [uz] at hi;have hi:=cR hi;rw [run_equalIn_array w (d+1) us vs hu uz]
   have hc:P.cellsOf e=1:=by simp [Program.cellsOf,uz,hi]
   rw [hc,←hn,List.range_eq_range'];exact agr ks xs ys 0 ha hf hx hy
 ·cases h
end
section
open Go.RowKit
variable [M:bK] [G:cL]
def dI (id:Nat):Hp→Option Chunk
 | []=>none
 | (i,c)::r=>bif aH i id then some c else dI id r
def eX {id:Nat} {H:Hp} {c:Chunk} (h:dI id H=some c):(id,c)∈H:=by
 induction H with
 | nil=>cases h
 | cons x r ih =>
  obtain ⟨i,c'⟩:=x;simp only [dI] at h;cases hb:aH i id with
  | true =>
   rw [hb] at h;cases h;rw [cR hb];simp
  | false =>
   rw [hb] at h;exact cr _ (ih h)
def fD (F:Nat→Prop) (w w':World):Nat→Prop:=fun b=>F b∨(w.heap.size≤b∧b<w'.heap.size)
def Below.agree {w w':World} {F:Nat→Prop} (h:Below w.heap.size w w') (hF:∀b,F b→b<w.heap.size):fZ F w w':=fun b hb=>h.block b (hF b hb)
def Rd.later {w w':World} {F:Nat→Prop} {β:Nat→Value} {x:AV} {u:Value} (h:Rd w F β x u) (hb:Below w.heap.size w w') (hF:∀b,F b→b<w.heap.size):Rd w' (fD F w w') β x u :=
 h.frame (Below.agree hb hF) fun _ h=>.inl h
def ua (P:Program) (s:Sem Next) (w:World) (post:Value→World→Prop):Prop :=
 (∃v w',s.run P w=.ok (.value v) w'∧Below w.heap.size w w'∧post v w') ∨
 (∃g vs,s.run P w=.ok (.enter g vs) w∧Calls P g vs w fun e w'=>∃v,e=.returned v∧Below w.heap.size w w'∧post v w')
def pW (P : Program) (g : FuncId) : Prop := ∃ fn c, P.funcs[g]? = some fn ∧ (fn.name == "runtime.NumGoroutine") = false ∧ fn.body = some c
def xF (P:Program) (g:FuncId) (args:List AV) (H:Hp) (r:AV):Prop :=
 pW P g∧∀(w:World) (F:Nat→Prop) (β:Nat→Value) (vs:Array Value),Inv w F β H→vs.size=args.length →
  (∀i,i<args.length→Rd w F β (args.getD i .χ) (vs.getD i undef)) →
  Calls P g vs w fun e w'=>∃v,e=.returned v∧Below w.heap.size w w'∧bf w' (fD F w w') r v
abbrev Pure (P:Program) (g:FuncId) (args:List AV) (r:AV):Prop:=xF P g args [] r
def Pf (c a b:AV) (k:AV→Prop):Prop :=
 match c with
 | .v (.bool true)=>k a
 | .v (.bool false)=>k b
 | _=>False
def O9 (t:AV) (i:Nat) (k:AV→Prop):Prop :=
 match t with
 | .t vs=>bif Nat.blt i vs.length then k (vs.getD i .χ) else False
 | _=>False
def Ph (op:UnOp) (x:AV) (k:AV→Prop):Prop :=
 match op,x with
 | .not,.v (.bool b)=>k (.v (.bool (!b)))
 | .neg,.v (.int kd n)=>∃r,kd.wrap (0-n)=r∧k (.v (.int kd r))
 | _,_=>False
def P5 (op:BinOp) (a b:ByteArray) (k:Value→Prop):Prop :=
 match op with
 | .add=>a.size+b.size≤9223372036854775807∧∃r,a++b=r∧k (.string r)
 | .eql=>∃r:Bool,(a.toList==b.toList)=r∧k (.bool r)
 | .neq=>∃r:Bool,(!(a.toList==b.toList))=r∧k (.bool r)
 | .lss=>∃r:Bool,fV a.toList b.toList=r∧k (.bool r)
 | .leq=>∃r:Bool,(fV a.toList b.toList||a.toList==b.toList)=r∧k (.bool r)
 | .gtr=>∃r:Bool,(!(fV a.toList b.toList||a.toList==b.toList))=r∧k (.bool r)
 | .geq=>∃r:Bool,(!Op.bytesLess a.toList b.toList)=r∧k (.bool r)
 | _=>False
def O6 (P:Program) (T:TT) (op:BinOp) (t:Nat) (x y:AV) (k:AV→Prop):Prop :=
 match x,y with
 | .v (.int kx a),.v (.int ky b)=>Lw op kx ky a b fun v=>k (.v v)
 | .v (.string a),.v (.string b)=>P5 op a b fun v=>k (.v v)
 | .v (.bool a),.v (.bool b) =>
  match T t with
  | some i=>match i.kind with
   | .bool=>match op with
    | .eql=>k (.v (.bool (a==b)))
    | .neq=>k (.v (.bool (!(a==b))))
    | _=>False
   | _=>False
  | none=>False
 | .s rows,.v (.slice none 0 0) =>
  match T t with
  | some i=>match i.kind with
   | .slice _=>match op with
    | .eql=>∀b:Bool,(b=true→rows=[])→k (.v (.bool b))
    | .neq=>∀b:Bool,(b=false→rows=[])→k (.v (.bool b))
    | _=>False
   | _=>False
  | none=>False
 | .a xs,.a ys=>∃ks,Sz P t ks=true∧bif sz ks xs ys then
   match op with
   | .eql=>k (.v (.bool (eC xs ys)))
   | .neq=>k (.v (.bool (!eC xs ys)))
   | _=>False
  else False
 | _,_=>False
def Lv {c:Bool} {p:Prop} (hc:c=true) (h:p):bif c then p else False:=by rw [hc]; exact h
def lq (b:UInt8):List AV:=[.v (.int .u8 (b.toNat:Int))]
def O8 (T:TT) (src dst:Nat) (x:AV) (k:AV→Prop):Prop :=
 match T src,T dst with
 | some i,some j =>
  match j.kind,x with
  | .int kd,.v (.int _ n)=>∃r,kd.wrap n=r∧k (.v (.int kd r))
  | .str,.v (.string s)=>k (.v (.string s))
  | .slice e,.v (.string s) =>
   match T e with
   | some je=>match je.kind with
    | .int .u8=>s.size≤maxLen∧k (.s (s.data.toList.map lq))
    | _=>False
   | none=>False
  | .str,.s rows =>
   match i.kind with
   | .slice e=>match T e with
    | some je=>match je.kind with
     | .int .u8=>∃l:List UInt8,rows=l.map lq∧k (.v (.string ⟨l.toArray⟩))
     | _=>False
    | none=>False
   | _=>False
  | _,_=>False
 | _,_=>False
def Lm (x:AV) (off:Nat) (k:AV→Prop):Prop :=
 match x with
 | .b id o=>k (.b id (o+off))
 | .p cells=>k (.p (cells.drop off))
 | .e id K i j=>k (.e id K i (j+off))
 | _=>False
def O_ (T:TT) (t:Nat) (x:AV) (f:Nat) (k:AV→Prop):Prop :=
 match T t with
 | some i=>match i.kind with
  | .struct fs=>match fs[f]? with
   | some (off,ty)=>match T ty with
    | some j=>bif aH j.cells 0 then False else Lm x off k
    | none=>False
   | none=>False
  | _=>False
 | none=>False
def BD (i:TI) (cells:List AV) (off:Nat) (k:AV→Prop):Prop :=
 bif pT (off+i.cells) cells.length then
  bif pX i.kind then ∃c,(cells.drop off).take i.cells=c∧k (.a c)
  else bif aH i.cells 1 then ∃x,cells[off]?=some x∧k x else False
 else False
def B_ (T:TT) (t:Nat) (x:AV) (H:Hp) (k:AV→Prop):Prop :=
 match T t with
 | some i=>match x with
  | .b id off=>match dI id H with
   | some (.box cells)=>BD i cells off k
   | _=>False
  | .p cells=>BD i cells 0 k
  | .e id K m j=>match dI id H with
   | some (.own _ K' rows)=>∃row,rows[m]?=some row∧K=K'∧BD i row j k
   | _=>False
  | _=>False
 | none=>False
def Pb (T:TT) (t:Nat) (x i:AV) (H:Hp) (k:AV→Prop):Prop :=
 match T t with
 | some ti=>match ti.kind with
  | .slice e=>match T e with
   | some j=>match x,i with
    | .s rows,.v (.int _ n)=>∃m:Nat,n=(m:Int)∧∃row,rows[m]?=some row∧(bif aH row.length j.cells then k (.p row) else False)
    | .o id,.v (.int _ n)=>match dI id H with
     | some (.own _ K rows)=>bif aH K j.cells then ∃m:Nat,n=(m:Int)∧m<rows.length∧k (.e id K m 0) else False
     | _=>False
    | .w id Kw d,.v (.int _ n)=>match dI id H with
     | some (.own _ K rows)=>bif aH K j.cells&&aH Kw K then ∃m:Nat,n=(m:Int)∧d+m<rows.length∧k (.e id K (d+m) 0) else False
     | _=>False
    | _,_=>False
   | none=>False
  | .arr len e=>match T e with
   | some j=>match x,i with
    | .b id off,.v (.int _ n)=>∃m:Nat,n=(m:Int)∧m<len∧k (.b id (off+m*j.cells))
    | .p cells,.v (.int _ n)=>∃m:Nat,n=(m:Int)∧m<len∧k (.p (cells.drop (m*j.cells)))
    | _,_=>False
   | none=>False
  | _=>False
 | none=>False
def O' (T:TT) (t:Nat) (x i:AV) (k:AV→Prop):Prop :=
 match T t with
 | some ti=>match ti.kind,x,i with
  | .str,.v (.string s),.v (.int _ n)=>∃m:Nat,n=(m:Int)∧∃b:UInt8,s.data.toList[m]?=some b∧k (.v (.int .u8 (b.toNat:Int)))
  | .arr len e,.a cells,.v (.int _ n)=>match T e with
   | some j=>bif pX j.kind then False else bif aH j.cells 1 then ∃m:Nat,n=(m:Int)∧m<len∧∃c,cells[m]?=some c∧k c else False
   | none=>False
  | _,_,_=>False
 | none=>False
def r_ (x:Option AV) (d:Nat) (k:Nat→Prop):Prop :=
 match x with
 | none=>k d
 | some (.v (.int _ n))=>∃m:Nat,n=(m:Int)∧k m
 | _=>False
def Pg (T:TT) (t:Nat) (x:AV) (lo hi mx:Option AV) (H:Hp) (k:AV→Prop):Prop :=
 match T t,mx with
 | some ti,none=>match ti.kind,x with
  | .slice e,.s rows=>match T e with
   | some j=>r_ lo 0 fun l=>r_ hi rows.length fun h=>l≤h∧h≤rows.length∧(∀i,i<rows.length→(rows.getD i []).length=j.cells)∧∃r,(rows.take h).drop l=r∧k (.s r)
   | none=>False
  | .slice e,.o id=>match T e with
   | some j=>match dI id H,hi with
    | some (.own _ K rows),none=>bif aH K j.cells then r_ lo 0 fun l=>l≤rows.length∧k (.w id K l) else False
    | _,_=>False
   | none=>False
  | .slice e,.w id Kw d=>match T e with
   | some j=>match dI id H,hi with
    | some (.own _ K rows),none=>bif aH K j.cells&&aH Kw K then r_ lo 0 fun l=>d+l≤rows.length∧k (.w id K (d+l)) else False
    | _,_=>False
   | none=>False
  | .slice e,.v (.slice none 0 0)=>match T e with
   | some _=>r_ lo 0 fun l=>r_ hi 0 fun h=>l≤h∧h≤0∧k (.v (.slice none 0 0))
   | none=>False
  | .str,.v (.string s)=>r_ lo 0 fun l=>r_ hi s.size fun h=>l≤h∧h≤s.size∧∃r,s.extract l h=r∧k (.v (.string r))
  | _,_=>False
 | _,_=>False
def FA (T:TT) (t:Nat) (x:AV) (lo hi:Option AV) (mx:AV) (k:AV→Prop):Prop :=
 match T t,lo,hi,x,mx with
 | some ti,none,some (.v (.int _ nh)),.s rows,.v (.int _ nm)=>match ti.kind with
  | .slice e=>match T e with
   | some j=>∃h q:Nat,nh=(h:Int)∧nm=(q:Int)∧h≤q∧q≤rows.length∧(∀i,i<rows.length→(rows.getD i []).length=j.cells)∧∃r,rows.take h=r∧k (.s r)
   | none=>False
  | _=>False
 | _,_,_,_,_=>False
def bt:AV→List AV
 | .a cs=>cs
 | x=>[x]
def jk:AV→Bool
 | .a _=>true
 | x=>uL x
def AR (place:Nat→Option (Nat×Nat)):List (Nat×AV)→List AV→Option (List AV)
 | [],cells=>some cells
 | (i,x)::r,cells =>
  match place i with
  | none=>none
  | some (off,size) =>
   bif jk x&&(aH (bt x).length size&&pT (off+size) cells.length)
   then AR place r (cells.take off++(bt x++cells.drop (off+size))) else none
def Fl (T:TT) (fs:List (Nat×Nat)) (i:Nat):Option (Nat×Nat) :=
 match fs[i]? with
 | some (off,ty)=>match T ty with
  | some j=>some (off,j.cells)
  | none=>none
 | none=>none
def G8 (T:TT):List (Nat×Nat)→Bool
 | []=>true
 | (_,ty)::r=>(T ty).isSome&&G8 T r
def O7 (T:TT) (t:Nat) (parts:List (Nat×AV)) (k:AV→Prop):Prop :=
 match T t with
 | some i =>
  match cq i.zero with
  | .a zs=>match i.kind with
   | .struct fs=>bif G8 T fs then
     match AR (Fl T fs) parts zs with
     | some cells=>k (.a cells)
     | none=>False
    else False
   | .arr _ e=>match T e with
    | some j=>match AR (fun i=>some (i*j.cells,j.cells)) parts zs with
     | some cells=>k (.a cells)
     | none=>False
    | none=>False
   | _=>False
  | _=>False
 | none=>False
def rowsOf (size:Nat):Nat→List (Nat×AV)→Option (List (List AV))
 | _,[]=>some []
 | n,(i,x)::r=>bif aH i n&&(jk x&&aH (bt x).length size) then (rowsOf size (n+1) r).map (bt x::·) else none
def zQ (T:TT) (t len:Nat) (parts:List (Nat×AV)) (k:List (List AV)→Nat→Nat→Prop):Prop :=
 match T t with
 | some i=>match i.kind with
  | .slice e=>match T e with
   | some j=>match rowsOf j.cells 0 parts with
    | some rows=>bif aH parts.length len&&(pT (len*j.cells) 16777216&&!(aH j.cells 0)) then k rows e j.cells else False
    | none=>False
   | none=>False
  | _=>False
 | none=>False
def fj:AV→Bool
 | .v _ | .s _ | .p _ | .z=>true
 | _=>false
def kb:AV→Bool
 | .a cs | .t cs=>cs.all fj
 | .c _ fs cs=>fs.all fj&&cs.all fj
 | x=>fj x
def Pe (x:AV) (k:AV→Prop):Prop :=
 match x with
 | .b id off=>k (.b id off)
 | .p cells=>k (.p cells)
 | .e id K i j=>k (.e id K i j)
 | .c (.func g) fs cs=>k (.c (.func g) fs cs)
 | _=>False
def lF (T:TT) (t:Nat) (x:AV) (H:Hp) (k:AV→Prop):Prop :=
 match T t with
 | some i=>match i.kind,x with
  | .slice _,.s rows=>∃n:Nat,rows.length=n∧(n≤maxLen→k (.v (.int .i64 (n:Int))))
  | .slice _,.v (.slice none 0 0)=>k (.v (.int .i64 0))
  | .slice _,.o id=>match dI id H with
   | some (.own _ _ rows)=>∃n:Nat,rows.length=n∧(n≤maxLen→k (.v (.int .i64 (n:Int))))
   | _=>False
  | .slice _,.w id _ d=>match dI id H with
   | some (.own _ _ rows)=>∃n:Nat,rows.length-d=n∧(n≤maxLen→k (.v (.int .i64 (n:Int))))
   | _=>False
  | .map _ _,.m id=>match dI id H with
   | some (.mp _ rows)=>∃n:Nat,rows.length=n∧(n≤140737488355328→k (.v (.int .i64 (n:Int))))
   | _=>False
  | .str,.v (.string s)=>∃n:Nat,s.size=n∧k (.v (.int .i64 (n:Int)))
  | .arr n _,_=>k (.v (.int .i64 (n:Int)))
  | _,_=>False
 | none=>False
def JR (mn:Bool) (xs:List AV) (k:AV→Prop):Prop :=
 match xs with
 | [.v (.int kx a),.v (.int ky b)]=>bif kx==ky then ∃r,(if mn then min a b else max a b)=r∧k (.v (.int kx r)) else False
 | _=>False
def JP (T:TT) (b:Builtin) (ts:List Nat) (xs:List AV) (H:Hp) (k:AV→Prop):Prop :=
 match b,ts,xs with
 | .len,[t],[x]=>lF T t x H k
 | .cap,[t],[.v (.slice none 0 0)]=>match T t with
  | some i=>match i.kind with
   | .slice _=>k (.v (.int .i64 0))
   | _=>False
  | none=>False
 | .min,_,xs=>JR true xs k
 | .max,_,xs=>JR false xs k
 | _,_,_=>False
def JQ (P:Program) (f:AV) (xs:List AV) (H:Hp) (k:AV→Prop):Prop :=
 match f with
 | .c (.func g) fs cs=>∃r,xF P g (fs++(xs++cs)) H r∧k r
 | _=>False
def nz:AV→AV
 | .v (.slice none 0 0)=>.s []
 | x=>x
def Pd (T:TT) (t:Nat) (l c:AV) (k:AV→Prop):Prop :=
 match T t,l,c with
 | some i,.v (.int _ nl),.v (.int _ nc)=>match i.kind with
  | .slice e=>match T e with
   | some j=>bif jk (cq j.zero)&&(aH (bt (cq j.zero)).length j.cells&&(bt (cq j.zero)).all fj) then
     ∃n m:Nat,nl=(n:Int)∧nc=(m:Int)∧n≤m∧m≤140737488355328∧m*j.bytes≤140737488355328∧∃R,ic n ((bt (cq j.zero)).map nz)=R∧k (.s R)
    else False
   | none=>False
  | _=>False
 | _,_,_=>False
def zu (ag:Bool) (y:AV):Option (List AV) :=
 match ag,y with
 | true,.a cs=>bif cs.all fj then some cs else none
 | true,_=>none
 | false,.a _=>none
 | false,.c fn [] []=>some [.c fn [] []]
 | false,x=>bif fj x then some [x] else none
def Pc (T:TT) (t:Nat) (m i:AV) (c:Bool) (H:Hp) (k:AV→Prop):Prop :=
 match T t with
 | some ti=>match ti.kind with
  | .map kt e=>match T kt,T e with
   | some ik,some ie=>match ik.kind,m,i with
    | .int .i64,.m id,.v (.int .i64 n)=>match dI id H,zu (pX ie.kind) (cq ie.zero) with
     | some (.mp ag rows),some zc=>bif ag==pX ie.kind then ∃r,(bn n rows).getD (zc.map nz)=r∧(bif c then ∃b,(bn n rows).isSome=b∧k (.t [rM ag r,.v (.bool b)]) else k (rM ag r)) else False
     | _,_=>False
    | _,_,_=>False
   | _,_=>False
  | _=>False
 | none=>False
def mZ (P:Program) (T:TT) (o:Oper) (ρ:Operand→AV) (H:Hp) (k:AV→Prop):Prop :=
 match o.op with
 | .move x=>k (ρ x)
 | .assign x=>k (ρ x)
 | .pick c a b=>Pf (ρ c) (ρ a) (ρ b) k
 | .extract t i=>O9 (ρ t) i k
 | .unOp op _ x=>Ph op (ρ x) k
 | .binOp op t x y _=>O6 P T op t (ρ x) (ρ y) k
 | .convert src dst x=>O8 T src dst (ρ x) k
 | .fieldAddr t x f=>O_ T t (ρ x) f k
 | .load t x=>B_ T t (ρ x) H k
 | .indexAddr t x i=>Pb T t (ρ x) (ρ i) H k
 | .index t x i=>O' T t (ρ x) (ρ i) k
 | .slice t x lo hi mx=>match mx with
  | none=>Pg T t (ρ x) (lo.map ρ) (hi.map ρ) none H k
  | some m=>FA T t (ρ x) (lo.map ρ) (hi.map ρ) (ρ m) k
 | .build t parts=>O7 T t (parts.toList.map fun q=>(q.1,ρ q.2)) k
 | .buildSlice t len parts=>zQ T t len (parts.toList.map fun q=>(q.1,ρ q.2)) fun rows _ _=>bif rows.all (fun r=>r.all fj) then k (.s (rows.map fun r=>r.map nz)) else False
 | .makeFunc fn fs cs=>k (.c fn (fs.toList.map ρ) (cs.toList.map ρ))
 | .nilCheck x=>Pe (ρ x) k
 | .lookup t x i c=>Pc T t (ρ x) (ρ i) c H k
 | .makeSlice t l c=>Pd T t (ρ l) (ρ c) k
 | .call c=>match c.callee with
  | .builtin b=>JP T b c.argTypes.toList (c.args.toList.map ρ) H k
  | .value f=>JQ P (ρ f) (c.args.toList.map ρ) H k
  | .invoke _ _=>False
 | _=>False
end
section
open Go.RowKit
variable [M:bK] [G:cL]
section
variable {P:Program} {T:TT} {w:World} {F:Nat→Prop} {β:Nat→Value} {H:Hp} {k:AV→Prop}
def Rd.here {x:AV} {u:Value} (h:Rd w F β x u):Rd w (fD F w w) β x u:=h.frame (fun _ _=>rfl) fun _ h=>.inl h
def cz (P:Program) (s:Sem Value) (w:World) (F:Nat→Prop) (β:Nat→Value) (k:AV→Prop):Prop :=
 ∃v w' r,s.run P w=.ok v w'∧Below w.heap.size w w'∧k r∧Rd w' (fD F w w') β r v
def cz.mk {s:Sem Value} {v:Value} {r:AV} (hr:s.run P w=.ok v w) (hk:k r) (hv:Rd w F β r v):cz P s w F β k :=
 ⟨v,w,r,hr,Below.refl _ _,hk,hv.here⟩
def vv (P:Program) (s:Sem Value) (w:World) (F:Nat→Prop) (β:Nat→Value) (k:AV→Prop):Prop :=
 ∃v r,s.run P w=.ok v w∧k r∧Rd w F β r v
def vv.mk {s:Sem Value} {v:Value} {r:AV} (hr:s.run P w=.ok v w) (hk:k r) (hv:Rd w F β r v):vv P s w F β k:=⟨v,r,hr,hk,hv⟩
def vv.gives {s:Sem Value} (h:vv P s w F β k):cz P s w F β k:=by
 obtain ⟨v,r,hr,hk,hv⟩:=h;exact cz.mk hr hk hv
def cz.out {s:Sem Value} (h:cz P s w F β k):ua P (do pure (.value (←s))) w fun v w'=>∃r,k r∧Rd w' (fD F w w') β r v:=by
 obtain ⟨v,w',r,hr,hb,hk,hv⟩:=h;exact .inl ⟨v,w',by simp [hr],hb,r,hk,hv⟩
def agO {c a b:AV} {vc va vb:Value} (hc:Rd w F β c vc) (ha:Rd w F β a va) (hb:Rd w F β b vb) (h:Pf c a b k) :
  ua P (do pure (.value (if ←asBool vc then va else vb))) w fun v w'=>∃r,k r∧Rd w' (fD F w w') β r v:=by
 unfold Pf at h;split at h
 ·cases hc.bL;exact .inl ⟨va,w,by simp [asBool],Below.refl _ _,_,h,ha.here⟩
 ·cases hc.bL;exact .inl ⟨vb,w,by simp [asBool],Below.refl _ _,_,h,hb.here⟩
 ·cases h
def agF {t:AV} {i:Nat} {vt:Value} (ht:Rd w F β t vt) (h:O9 t i k):cz P (alg vt i) w F β k:=by
 unfold O9 at h;split at h
 ·rename_i vs;obtain ⟨Φ,hk⟩:=cond_prop h
  have Φ:i<vs.length:=by simpa [Nat.blt_eq] using Φ
  obtain ⟨us,rfl,hs,hu⟩:=ht.Ct;refine cz.mk (v:=us.getD i undef) ?_ hk (hu i Φ)
  have hi:i<us.size:=by omega
  simp [alg,hi]
 ·cases h
def agR {op:UnOp} {x:AV} {vx:Value} (hx:Rd w F β x vx) (h:Ph op x k):cz P (Op.unary op vx) w F β k:=by
 unfold Ph at h;split at h
 ·cases hx.bL;exact cz.mk (by simp [Op.unary]) h (.i (.v (.inl rfl)))
 ·cases hx.bL;obtain ⟨r,rfl,hk⟩:=h;exact cz.mk (by simp [Op.unary,tY]) hk (.i (.v (.inl rfl)))
 ·cases h
def ahN {op:BinOp} {a b:ByteArray} {k:Value→Prop} (h:P5 op a b k) (t:TypeId) :
  ∃v,(binOp op t (.string a) (.string b)).run P w=.ok v w∧v.oneCell'=true∧k v:=by
 cases op <;> simp only [P5] at h
 case add =>
  obtain ⟨h1,r,rfl,hk⟩:=h
  have:¬((a.size+b.size:Nat):Int)>IntKind.i64.max:=by
   have:IntKind.i64.max=9223372036854775807:=rfl;omega
  exact ⟨_,by simp only [binOp,Op.stringOp]; rw [if_neg this]; rfl,rfl,hk⟩
 all_goals first | exact h.elim | (obtain ⟨r,rfl,h⟩:=h; exact ⟨_,by simp [binOp,Op.stringOp],rfl,h⟩)
def zP {op:BinOp} {t:TypeId} {x y:Operand} {u v:Value} (hu:u.oneCell'=true) (hn:u≠.nilIface):(eqGuard op t x y u v).run P w=.ok () w:=by
 have hc:eqGuard op t x y u v=if !(op matches .eql | .neq) then (pure ():Sem Unit) else pure ():=by
  unfold eqGuard
  cases u <;> first | (simp [alf] at hu; done) | exact absurd rfl hn | rfl
 rw [hc]; split <;> rfl
def run_equalIn_bool (d:Nat) {t:TypeId} (hd:P.underlying t=some .bool) (a b:Bool):(vq (d+1) t (.bool a) (.bool b)).run P w=.ok (a==b) w:=by
 simp [vq,run_underlying hd]
def run_equalIn_slice_nil (d:Nat) {t e:TypeId} (hd:P.underlying t=some (.slice e)) (a:Option Addr) (n c:Nat):(vq (d+1) t (.slice a n c) (.slice none 0 0)).run P w=.ok a.isNone w:=by
 cases a <;> simp [vq,run_underlying hd]
def agx {op:BinOp} {t:Nat} {x y:AV} {vx vy:Value} (hT:bM P T) (hx:Rd w F β x vx) (hy:Rd w F β y vy) (ox oy:Operand) (h:O6 P T op t x y k) :
  cz P (do eqGuard op t ox oy vx vy; binOp op t vx vy) w F β k:=by
 unfold O6 at h;split at h
 ·cases hx.bL; cases hy.bL;obtain ⟨v,hr,h1,hk⟩:=Z2 (P:=P) h t w;exact cz.mk (v:=v) (by simp [zP (u:=.int _ _) rfl (by simp),hr]) hk (.i (.v (.inl h1)))
 ·cases hx.bL; cases hy.bL;obtain ⟨v,hr,h1,hk⟩:=ahN (P:=P) (w:=w) h t;exact cz.mk (v:=v) (by simp [zP (u:=.string _) rfl (by simp),hr]) hk (.i (.v (.inl h1)))
 ·cases hx.bL; cases hy.bL;rename_i a b;split at h
  ·rename_i i hi;obtain ⟨d,hd,T_⟩:=(hT _ _ hi).oa;split at h
   ·rename_i aby;rw [aby] at T_
    have bG:P.underlying t=some .bool:=by cases d <;> simp [rY] at T_; exact hd
    have he:(Op.equal t (.bool a) (.bool b)).run P w=.ok (a==b) w:=by
     exact run_equalIn_bool 9999 bG a b
    split at h
    ·exact cz.mk (by simp [zP (u:=.bool _) rfl (by simp),binOp,he]) h (.i (.v (.inl rfl)))
    ·exact cz.mk (by simp [zP (u:=.bool _) rfl (by simp),binOp,he]) h (.i (.v (.inl rfl)))
    ·cases h
   ·cases h
  ·cases h
 ·rename_i rows;cases hy.bL;split at h
  ·rename_i i hi;split at h
   ·rename_i e he;have hu:=(hT _ _ hi).slice he
    obtain ⟨a,n,c,rfl,ha⟩:∃a n c,vx=.slice a n c∧(a=none→rows=[]):=by
     have hs:=hx.oN;cases hs with
     | s0=>exact ⟨_,_,_,rfl,fun _=>rfl⟩
     | s=>exact ⟨_,_,_,rfl,fun h=>by cases h⟩
    have fp:(Op.equal t (.slice a n c) (.slice none 0 0)).run P w=.ok a.isNone w:=run_equalIn_slice_nil 9999 hu a n c;have hg:=zP (P:=P) (w:=w) (op:=op) (t:=t) (x:=ox) (y:=oy) (u:=.slice a n c) (v:=.slice none 0 0) rfl (by simp);split at h
    ·exact cz.mk (by simp [zP (u:=.slice a n c) rfl (by simp),binOp,fp]) (h a.isNone fun hn=>ha (by cases a <;> first | rfl | cases hn)) (.i (.v (.inl rfl)))
    ·exact cz.mk (by simp [zP (u:=.slice a n c) rfl (by simp),binOp,fp]) (h (!a.isNone) fun hn=>ha (by cases a <;> first | rfl | cases hn)) (.i (.v (.inl rfl)))
    ·cases h
   ·cases h
  ·cases h
 ·rename_i xs ys;obtain ⟨ks,IG,h⟩:=h;obtain ⟨ji,h⟩:=cond_prop h;obtain ⟨us,rfl,hs,_,hu⟩:=hx.qM;obtain ⟨vs,rfl,eu,_,hv⟩:=hy.qM;simp only [Sz,bJ,tT,oS] at IG;obtain ⟨T2,IG⟩:=IG
  have cell:∀{zs:List AV} {ws:Array Value},ws.size=zs.length→(∀i,i<zs.length→Rd w F β (zs.getD i .χ) (ws.getD i undef))→∀i z,zs[i]?=some (.v z)→ws[0+i]?=some z:=by
   intro zs ws aZ fy i z hz;obtain ⟨hi,iS⟩:=fb.1 hz;have:=fy i hi;rw [fU,hz,Ap] at this;have e:=this.bL;rw [jF,gr (by omega)];rw [lf,gr (by omega),Ap] at e;rw [e]
  have heq:(vq 10000 t (.agg us) (.agg vs)).run P w=.ok (eC xs ys) w:=by
   rcases IG with ⟨bU,acP,Ek⟩ | vW
   ·have zb:P.underlying t=some (.struct (P.fieldsOf t)):=by
     unfold Zx;cases hd:P.underlying t with
     | none=>rw [hd] at bU; cases bU
     | some d =>
      rw [hd] at bU
      cases d <;> first | rfl | cases bU
    rw [run_equalIn_struct w 9999 t us vs zb acP];exact W3 (P:=P) (w:=w) (us:=us) (vs:=vs) (d:=9997) _ ks xs ys 0 Ek ji (cell hs hu) (cell eu hv)
   ·exact agq (d:=9998) vW ji (cell hs hu) (cell eu hv)
  split at h
  ·exact cz.mk (by simp [run_eqGuard_agg w _ t _ _ us vs T2,run_eql_struct,heq]) h (.i (.v (.inl rfl)))
  ·exact cz.mk (by simp [run_eqGuard_agg w _ t _ _ us vs T2,run_neq_struct,heq]) h (.i (.v (.inl rfl)))
  ·cases h
 ·cases h
def RD {x:AV} {off:Nat} {vx:Value} (hx:Rd w F β x vx) (h:Lm x off k) :
  ∃b o r,vx=.pointer (some ⟨b,o,none⟩)∧k r∧Rd w F β r (.pointer (some ⟨b,o+off,none⟩)):=by
 unfold Lm at h;split at h
 ·obtain ⟨eV,hb,rfl⟩:=hx.mz;exact ⟨_,_,_,rfl,h,.b hb⟩
 ·rename_i cells;have hp:=hx.BQ;cases hp with
  | p hb eM eZ fy =>
   rename_i b o u;refine ⟨_,_,_,rfl,h,.i ?_⟩;refine .p (u:=fun j=>u (off+j)) hb (fun j hj=>?_) (fun j hj=>?_) (fun j hj=>?_)
   ·simp at hj;rw [GL]; exact eM _ (by omega)
   ·simp at hj; exact eZ _ (by omega)
   ·simp at hj;have:=fy (off+j) (by omega);simpa [aY,jl] using this
 ·obtain ⟨g,n,c,hb,rfl⟩:=hx.AM;refine ⟨_,_,_,rfl,h,?_⟩;rw [GL];exact .e hb
 ·cases h
def agG {t f:Nat} {x:AV} {vx:Value} (hT:bM P T) (hx:Rd w F β x vx) (h:O_ T t x f k):cz P (alh t vx f) w F β k:=by
 unfold O_ at h;split at h
 ·rename_i i hi;split at h
  ·rename_i fs Ek;split at h
   ·rename_i off ty hf;split at h
    ·rename_i j hj;cases hz:aH j.cells 0 with
     | true=>rw [hz] at h; cases h
     | false =>
      rw [hz] at h;obtain ⟨b,o,r,rfl,hk,hr⟩:=RD hx h;obtain ⟨fields,hu,hm⟩:=(hT _ _ hi).struct Ek
      have hff:∃fd,fields[f]?=some fd∧fd.offset=off∧fd.type=ty:=by
       rw [←hm] at hf;simp only [tW,Option.map_eq_some_iff] at hf;obtain ⟨fd,h1,h2⟩:=hf;cases h2;exact ⟨fd,by simpa using h1,rfl,rfl⟩
      obtain ⟨fd,h1,rfl,rfl⟩:=hff;have aZ:=(hT _ _ hj).kX w
      have aO:j.cells≠0:=by
       intro h0; rw [h0] at hz; cases hz
      refine cz.mk (v:=.pointer (some ⟨b,o+fd.offset,none⟩)) ?_ hk hr;simp [alh,run_underlying hu,h1,GC,fieldPlace,aZ,aO,f_]
    ·cases h
   ·cases h
  ·cases h
 ·cases h
def Od {t:Nat} {i:TI} {cells:List AV} {off:Nat} (hi:gx P t i) (h:BD i cells off k) {b base:Nat} {u:Nat→Value}
  (eM:∀j,j<cells.length→w.cell? ⟨b,base+j,none⟩=some (u j)) (eZ:∀j,j<cells.length→(u j).oneCell'=true)
  (fy:∀j,j<cells.length→Rd w F β (cells.getD j .χ) (u j)):vv P (Gx t (.pointer (some ⟨b,base+off,none⟩))) w F β k:=by
 unfold BD at h;obtain ⟨hle,h⟩:=cond_prop h
 have hle:off+i.cells≤cells.length:=by simpa using hle
 have sE:=hi.JN w;have aZ:=hi.kX w;cases hg:pX i.kind with
 | true =>
  rw [hg] at h sE
  have hl:=run_loadCells (P:=P) w ⟨b,base+off,none⟩ i.cells (fun j=>u (off+j)) (fun j hj=>by
   rw [f_,GL]; exact eM _ (by omega))
  obtain ⟨c,rfl,h⟩:=h;refine vv.mk (v:=.agg ((List.range i.cells).map fun j=>u (off+j)).toArray) ?_ h ?_
  ·simp [Gx,GC,loadVar,sE,aZ,hl]
  ·have hlen:((cells.drop off).take i.cells).length=i.cells:=by simp; omega
   refine .a (by simp; omega) (fun j hj=>?_) fun j hj=>?_
   ·rw [hlen] at hj;simpa [xf,hj] using eZ (off+j) (by omega)
   ·rw [hlen] at hj;have:=fy (off+j) (by omega);simpa [xf,hj,aY,gb,jl] using this
 | false =>
  rw [hg] at h sE;obtain ⟨h1,h⟩:=cond_prop h;have h1:i.cells=1:=cR h1;obtain ⟨x,hx,h⟩:=h;have UC:=fy off (by omega);rw [fU,hx,Ap] at UC;refine vv.mk (v:=u off) ?_ h UC;simp [Gx,GC,loadVar,sE,eM off (by omega)]
def vU {α:Type} {l:List α} {i:Nat} {x d:α} (h:l[i]?=some x):l.getD i d=x:=by simp [aY,h]
def EY {α:Type} {l:List α} {i:Nat} {x:α} (h:l[i]?=some x):i<l.length:=(fb.1 h).1
def Jk {id E K:Nat} {rows:List (List AV)} (h:Chunk.holds w F β id (.own E K rows)) {g n c:Nat} (ah:β id=.slice (some ⟨g,0,none⟩) n c) :
  rows.length=n∧n≤c∧c≤maxLen∧∃u:Nat→Nat→Value,∀m j,m<rows.length→j<K→w.cell? ⟨g,m*K+j,none⟩=some (u m j)∧(u m j).oneCell'=true∧bf w F ((rows.getD m []).getD j .χ) (u m j):=by
 rcases h with ⟨rfl,a,hv⟩ | ⟨g',cap,cur,hv,_,hg,hn,hm,hs,hk,hr⟩
 ·rw [hv] at ah;cases ah;exact ⟨rfl,bF _,Nat.zero_le _,fun _ _=>undef,fun m j hm=>by simp at hm⟩
 ·rw [hv] at ah;cases ah;refine ⟨rfl,hn,hm,fun m j=>cur.getD (m*K+j) undef,fun m j bV hj=>⟨?_,(hr m j bV hj).1,(hr m j bV hj).2⟩⟩
  have Φ:m*K+j<rows.length*K:=by
   calc m*K+j<m*K+K:=by omega
    _=(m+1)*K:=by rw [bO]; omega
    _≤rows.length*K:=cI _ bV
  rw [cell_of_row w g (m*K+j) cur E (0,0) hg]
  have hc:rows.length*K≤cur.size:=by rw [hs]; exact cI _ hn
  have h2:m*K+j<cur.size:=by omega
  simp [h2]
def VQ {id E K:Nat} {rows:List (List AV)} (h:Chunk.holds w F β id (.own E K rows)):∀i,i<rows.length→(rows.getD i []).length=K:=by
 rcases h with ⟨rfl,_⟩ | ⟨_,_,_,_,_,_,_,_,_,hk,_⟩
 ·intro i hi; simp at hi
 ·exact hk
def s7 {id E K:Nat} {rows:List (List AV)} (h:Chunk.holds w F β id (.own E K rows)):(rows=[]∧∃a,β id=.slice a 0 0)∨∃g cap,β id=.slice (some ⟨g,0,none⟩) rows.length cap∧cap≤maxLen∧rows.length≤cap:=by
 rcases h with h | ⟨g,cap,cur,hv,_,hg,hn,hm,_⟩
 ·exact .inl h
 ·exact .inr ⟨g,cap,hv,hm,hn⟩
def W6 {t:Nat} {x:AV} {vx:Value} (hT:bM P T) (hI:Inv w F β H) (hx:Rd w F β x vx) (h:B_ T t x H k):vv P (Gx t vx) w F β k:=by
 unfold B_ at h;split at h
 ·rename_i i hi;split at h
  ·rename_i id off;split at h
   ·rename_i cells hc;obtain ⟨b,c,e,ah,hh,hs,h1,hr⟩:=hI.holds _ _ (eX hc);obtain ⟨eV,hb,rfl⟩:=hx.mz;rw [ah] at hb;cases hb
    have:=Od (hT _ _ hi) h (b:=b) (base:=0) (u:=fun j=>c.getD j undef) (fun j hj=>by
     rw [cell_of_row w b (0+j) c e (0,0) hh,jF]
     have:j<c.size:=by omega
     simp [this]) h1 hr
    simpa using this
   ·cases h
  ·rename_i cells;have hp:=hx.BQ;cases hp with
   | p hb eM eZ fy=>exact Od (off:=0) (hT _ _ hi) h eM eZ fun j hj=>.i (fy j hj)
  ·rename_i id K m j;split at h
   ·rename_i E' K' rows hc;obtain ⟨row,jy,rfl,h⟩:=h;obtain ⟨g,n,c,ah,rfl⟩:=hx.AM;have hh:=hI.holds _ _ (eX hc);obtain ⟨_,_,_,u,hu⟩:=Jk hh ah;have hm:=EY jy
    have nL:row.length=K:=by
     have:=VQ hh m hm;rwa [vU jy] at this
    rw [←vU (d:=[]) jy] at h nL;exact Od (hT _ _ hi) h (b:=g) (base:=m*K) (u:=u m) (fun j hj=>(hu m j hm (by omega)).1) (fun j hj=>(hu m j hm (by omega)).2.1)
     fun j hj=>.i (hu m j hm (by omega)).2.2
   ·cases h
  ·cases h
 ·cases h
def agK {t:Nat} {x:AV} {vx:Value} (hT:bM P T) (hI:Inv w F β H) (hx:Rd w F β x vx) (h:B_ T t x H k):cz P (Gx t vx) w F β k :=
 (W6 hT hI hx h).gives
def bf.tq {rows:List (List AV)} {u:Value} (h:bf w F (.s rows) u):(rows=[]∧∃a,u=.slice a 0 0)∨∃(b off c K:Nat) (v:Nat→Nat→Value),F b∧rows.length≤c∧c≤maxLen∧u=.slice (some ⟨b,off,none⟩) rows.length c ∧
  (∀i,i<rows.length→(rows.getD i []).length=K)∧∀i j,i<rows.length→j<K→w.cell? ⟨b,off+(i*K+j),none⟩=some (v i j)∧(v i j).oneCell'=true∧bf w F ((rows.getD i []).getD j .χ) (v i j):=by
 cases h with
 | s0=>exact .inl ⟨rfl,_,rfl⟩
 | s hb hc hm hk eM eZ fy=>exact .inr ⟨_,_,_,_,_,hb,hc,hm,rfl,hk,fun i j hi hj=>⟨eM i j hi hj,eZ i j hi hj,fy i j hi hj⟩⟩
def agH {t:Nat} {x i:AV} {vx vi:Value} (hT:bM P T) (hI:Inv w F β H) (hx:Rd w F β x vx) (hi:Rd w F β i vi) (h:Pb T t x i H k):cz P (CY t vx vi) w F β k:=by
 unfold Pb at h;split at h
 ·rename_i ti jz;split at h
  ·rename_i e he;have hu:=(hT _ _ jz).slice he;split at h
   ·rename_i j hj;have aZ:=(hT _ _ hj).kX w;split at h
    ·rename_i rows kd n;cases hi.bL;obtain ⟨m,rfl,row,jy,h⟩:=h;obtain ⟨nL,hk⟩:=cond_prop h;have nL:row.length=j.cells:=cR nL;have hm:=EY jy
     rcases hx.oN.tq with ⟨rfl,_⟩ | ⟨b,off,c,K,v,hb,hc,jv,rfl,hK,hv⟩
     ·simp at hm
     ·have AZ:row.length=K:=by have:=hK m hm; rwa [vU jy] at this
      refine cz.mk (v:=.pointer (some ⟨b,off+m*K,none⟩)) ?_ hk (.i ?_)
      ·have:(0:Int)≤(m:Int)∧(m:Int)<(rows.length:Int):=by omega
       simp [CY,asIntOf,run_underlying hu,hm,aZ,f_,←nL,AZ]
      ·refine .p (u:=v m) hb (fun q hq=>?_) (fun q hq=>(hv m q hm (by omega)).2.1) fun q hq=>?_
       ·rw [GL]; exact (hv m q hm (by omega)).1
       ·have:=(hv m q hm (by omega)).2.2;rwa [vU jy] at this
    ·rename_i id kd n;cases hi.bL;split at h
     ·rename_i E' K rows hc;obtain ⟨hK,h⟩:=cond_prop h;have hK:K=j.cells:=cR hK;obtain ⟨m,rfl,hm,hk⟩:=h;obtain ⟨a,n,c,ah,rfl⟩:=hx.jW;have hh:=hI.holds _ _ (eX hc)
      rcases s7 hh with ⟨rfl,_⟩ | ⟨g,cap,hv,_⟩
      ·simp at hm
      ·rw [ah] at hv;cases hv;refine cz.mk (v:=.pointer (some ⟨g,m*K+0,none⟩)) ?_ hk (.e ah);simp [CY,asIntOf,run_underlying hu,hm,aZ,f_,←hK]
     ·cases h
    ·rename_i id Kw d kd n;cases hi.bL;split at h
     ·rename_i E' K rows hc;obtain ⟨hK,h⟩:=cond_prop h;simp only [bJ] at hK;have qY:K=j.cells:=cR hK.1;have My:Kw=K:=cR hK.2;subst My;obtain ⟨m,rfl,hm,hk⟩:=h;obtain ⟨a,a',n,c,ah,hd,ha,rfl⟩:=hx.xc;have hh:=hI.holds _ _ (eX hc)
      rcases s7 hh with ⟨rfl,_⟩ | ⟨g,cap,hv,_,iO⟩
      ·simp at hm
      ·rw [ah] at hv;cases hv;have ha:=ha (by omega);subst ha;refine cz.mk (v:=.pointer (some ⟨g,(d+m)*Kw+0,none⟩)) ?_ hk (.e ah)
       have bV:m<rows.length-d:=by omega
       have e:((⟨g,0,none⟩:Addr).add (d*Kw)).add (m*j.cells)=⟨g,(d+m)*Kw+0,none⟩:=by
        rw [←qY,Addr.add_add,f_,←bO]; simp
       simp [CY,asIntOf,run_underlying hu,bV,aZ,e]
     ·cases h
    ·cases h
   ·cases h
  ·rename_i len e he;have hu:=(hT _ _ jz).arr he;split at h
   ·rename_i j hj;have aZ:=(hT _ _ hj).kX w;split at h
    ·cases hi.bL;obtain ⟨m,rfl,hm,hk⟩:=h;obtain ⟨eV,hb,rfl⟩:=hx.mz;refine cz.mk (v:=.pointer (some ⟨eV,_+m*j.cells,none⟩)) ?_ hk (.b hb);simp [CY,GC,asIntOf,run_underlying hu,hm,aZ,f_]
    ·rename_i cells kd n;cases hi.bL;obtain ⟨m,rfl,hm,hk⟩:=h;have hp:=RD (k:=fun r=>r=.p (cells.drop (m*j.cells))) hx rfl;obtain ⟨b,o,r,rfl,rfl,hr⟩:=hp;refine cz.mk (v:=.pointer (some ⟨b,o+m*j.cells,none⟩)) ?_ hk hr;simp [CY,GC,asIntOf,run_underlying hu,hm,aZ,f_]
    ·cases h
   ·cases h
  ·cases h
 ·cases h
end
end
section
open Go.RowKit
variable [M:bK] [G:cL]
section
variable {P:Program} {T:TT} {w:World} {F:Nat→Prop} {β:Nat→Value} {H:Hp} {k:AV→Prop}
def agt {src dst:Nat} {i j:TI} (hs:gx P src i) (hd:gx P dst j) {kd kn:IntKind} (hk:j.kind=.int kd) (n:Int) :
  (convert src dst (.int kn n)).run P w=.ok (.int kd (kd.wrap n)) w:=by
 obtain ⟨d,bG,_⟩:=hs.oa;simp [convert,run_underlying bG,run_underlying (hd.int hk),Conv.intToInt]
def Z7 {l:List UInt8} {b off c:Nat} (hb:F b) (hc:l.length≤c) (hm:c≤maxLen) (h:∀m,m<l.length→w.cell? ⟨b,off+m,none⟩=some (.int .u8 ((l.getD m 0).toNat:Int))) :
  bf w F (.s (l.map lq)) (.slice (some ⟨b,off,none⟩) l.length c):=by
 have hl:(l.map lq).length=l.length:=by simp
 rw [←hl];refine .s (k:=1) (u:=fun m _=>.int .u8 ((l.getD m 0).toNat:Int)) hb (by simpa using hc) hm (fun m hm=>?_) (fun m j hm hj=>?_) (fun _ _ _ _=>rfl) fun m j hm hj=>?_
 ·simp at hm; simp [aY,hm,lq]
 ·simp at hm
  have:m*1+j=m:=by omega
  rw [this]; exact h m hm
 ·simp at hm
  have:j=0:=by omega
  subst this;simp [aY,hm,lq];exact .v (.inl rfl)
def YP {l:List UInt8} {m:Nat} (h:m<l.length):(l.map lq).getD m []=lq (l.getD m 0):=by simp [aY,h]
def Z6 {l:List UInt8} {u:Value} (h:bf w F (.s (l.map lq)) u):(l=[]∧∃a,u=.slice a 0 0)∨∃(b off c:Nat),F b∧l.length≤c∧c≤maxLen∧u=.slice (some ⟨b,off,none⟩) l.length c ∧
  ∀m,m<l.length→w.cell? ⟨b,off+m,none⟩=some (.int .u8 ((l.getD m 0).toNat:Int)):=by
 rcases h.tq with ⟨h1,h2⟩ | ⟨b,off,c,K,v,hb,hc,hm,rfl,hK,hv⟩
 ·exact .inl ⟨by simpa using h1,h2⟩
 ·right
  simp at hc;refine ⟨b,off,c,hb,hc,hm,by simp,fun m hm=>?_⟩
  have bV:m<(l.map lq).length:=by simpa using hm
  have h1:=hK m bV;rw [YP hm] at h1
  have qY:K=1:=by simpa [lq] using h1.symm
  subst qY;have:=hv m 0 bV (by omega);rw [YP hm] at this;have h2:=this.2.2
  have h3:v m 0=.int .u8 ((l.getD m 0).toNat:Int):=by
   have:Rd w F (fun _=>undef) (.v (.int .u8 ((l.getD m 0).toNat:Int))) (v m 0):=.i h2;exact this.bL
  rw [←h3];simpa using this.1
def TU {w:World} {b n:Nat} {c:Array Value} {e:TypeId} (h:w.heap[b]?=some (.cells c e (0,0))):(w.freeze ⟨b,n,none⟩ 1).heap[b]?=some (.cells c e (n,n+1)):=by
 simp [Ar,pQ,h]
def TR {w:World} {b b' n:Nat} (h:b≠b'):(w.freeze ⟨b,n,none⟩ 1).heap[b']?=w.heap[b']?:=by
 simp [Ar,pQ,h]
def agv {e:Nat} (s:ByteArray) (hs:s.size≤maxLen) :
  cz P (KM e s) w F β (fun r=>r=.s (s.data.toList.map lq)):=by
 let cap:=(Question.appendCap s.size 0 e).cut (w.tape w.drawn (.appendCap s.size 0 e));let cells:Array Value:=s.data.map (fun b=>dv .u8 b.toNat)++Array.replicate (cap-s.size) (.int .u8 0);have iO:s.size≤cap:=Nat.le_add_right _ _;have abF:cap≤maxLen:=grownCap_le_maxLen w s.size 0 e hs
 have aZ:cells.size=cap:=by simp only [cells,tQ,Array.size_map,Array.size_replicate]; have:s.data.size=s.size:=rfl; omega
 let w1:World:={ w with drawn:=w.drawn+1 };let w2:=w1.alloc (.cells cells e)
 have ri:(markStringish ⟨w.heap.size,0,none⟩).run P w2=.ok () (w2.freeze ⟨w.heap.size,cells.size,none⟩ 1):=by
  have:w2.shape? w.heap.size=some (e,cells.size):=by simp [World.shape?,w2,w1,lR]
  simp [markStringish,this]
 have a_:(KM e s).run P w=.ok (.slice (some ⟨w.heap.size,0,none⟩) s.size cap) (w2.freeze ⟨w.heap.size,cells.size,none⟩ 1):=by
  have Eg:(choose (.appendCap s.size 0 e)).run P w=.ok cap w1:=by simp [Question.forced,cap,w1]
  have eP:(newRow e cells).run P w1=.ok ⟨w.heap.size,0,none⟩ w2:=by simp [newRow,w2,w1]
  unfold KM;rw [kz,Eg,mh]
  have:(Sem.bind (newRow e cells) fun a=>Sem.bind (markStringish a) fun _=>Sem.pure (Value.slice (some a) s.size cap)).run P w1=.ok (.slice (some ⟨w.heap.size,0,none⟩) s.size cap) (w2.freeze ⟨w.heap.size,cells.size,none⟩ 1):=by
   rw [Sem.run_bind',eP,mh,Sem.run_bind',ri,mh]; rfl
  exact this
 have M4:(w2.freeze ⟨w.heap.size,cells.size,none⟩ 1).heap[w.heap.size]?=some (.cells cells e (cells.size,cells.size+1)) :=
  TU (by simp [w2,w1,lR])
 have akO:(w2.freeze ⟨w.heap.size,cells.size,none⟩ 1).heap.size=w.heap.size+1:=by simp [Ar,w2,w1,lR]
 have Ic:Below w.heap.size w (w2.freeze ⟨w.heap.size,cells.size,none⟩ 1):=by
  refine ⟨by simp [Ar,w2,w1,lR],⟨by simp [Ar,w2,w1,lR],by simp [Ar,w2,w1,lR]⟩,by simp [Ar,w2,w1,lR],by omega,fun b hb=>?_⟩
  have h1:w.heap.size≠b:=by omega
  have h2:b≠w.heap.size:=by omega
  rw [TR h1];exact _root_.Go.heap_alloc_old w1 _ hb
 refine ⟨_,_,_,a_,Ic,rfl,.i ?_⟩;have hlen:s.data.toList.length=s.size:=rfl;rw [←hlen];refine Z7 (off:=0) (.inr ⟨bF _,by omega⟩) (by rw [hlen]; exact iO) abF fun m hm=>?_
 have bV:m<s.data.size:=by simpa using hm
 rw [cell_of_row _ _ _ _ _ _ M4,jF];have yQ:m<s.size:=bV;simp [cells,pP,yQ,aY]
def agE {src dst:Nat} {x:AV} {vx:Value} (hT:bM P T) (hx:Rd w F β x vx) (h:O8 T src dst x k):cz P (convert src dst vx) w F β k:=by
 unfold O8 at h;split at h
 ·rename_i i j hi hj;have By:=hT _ _ hi;have yx:=hT _ _ hj;split at h
  ·rename_i kd kn n hk;cases hx.bL;obtain ⟨r,rfl,cJ⟩:=h;exact cz.mk (agt By yx hk n) cJ (.i (.v (.inl rfl)))
  ·rename_i s hk;cases hx.bL;obtain ⟨d,bG,_⟩:=By.oa;refine cz.mk ?_ h (.i (.v (.inl rfl)));simp [convert,run_underlying bG,run_underlying (yx.str hk)]
  ·rename_i e s hk;cases hx.bL;split at h
   ·rename_i je Bb;split at h
    ·rename_i M9;obtain ⟨d,bG,_⟩:=By.oa
     have hc:(convert src dst (.string s)).run P w=(KM e s).run P w:=by
      simp [convert,run_underlying bG,run_underlying (yx.slice hk),run_underlying ((hT _ _ Bb).int M9)]
     obtain ⟨v,w',r,hr,hb,rfl,hv⟩:=agv (P:=P) (w:=w) (F:=F) (β:=β) (e:=e) s h.1;exact ⟨v,w',_,by rw [hc]; exact hr,hb,h.2,hv⟩
    ·cases h
   ·cases h
  ·rename_i rows hk;split at h
   ·rename_i e he;split at h
    ·rename_i je Bb;split at h
     ·rename_i M9;obtain ⟨l,rfl,cJ⟩:=h;have hs:=By.slice he;have h8:=(hT _ _ Bb).int M9;have hd:=yx.str hk
      rcases Z6 hx.oN with ⟨rfl,a,rfl⟩ | ⟨b,off,c,hb,hc,hm,rfl,eM⟩
      ·cases a with
       | none=>exact cz.mk (run_convert_bytes_nil w src e hs h8 0 0 dst hd) cJ (.i (.v (.inl rfl)))
       | some ad=>exact cz.mk (run_convert_bytes_back w src dst e ad 0 [] hs h8 hd fun j hj=>absurd hj (by simp)) cJ (.i (.v (.inl rfl)))
      ·refine cz.mk (run_convert_bytes_back w src dst e ⟨b,off,none⟩ c l hs h8 hd fun j hj=>?_) cJ (.i (.v (.inl rfl)));rw [f_,eM j hj];simp [aY,hj]
     ·cases h
    ·cases h
   ·cases h
  ·cases h
 ·cases h
def afQ {ty:TypeId} {i:TI} (hi:gx P ty i) (hg:pX i.kind=false) (cs:Array Value) (off:Nat) {v:Value} (hv:cs[off]?=some v):(part ty cs off).run P w=.ok v w:=by
 have:=hi.JN w;rw [hg] at this;simp [part,this,hv]
def agI {t:Nat} {x i:AV} {vx vi:Value} (hT:bM P T) (hx:Rd w F β x vx) (hi:Rd w F β i vi) (h:O' T t x i k):cz P (QU t vx vi) w F β k:=by
 unfold O' at h;split at h
 ·rename_i ti jz;split at h
  ·rename_i s kd n hk;cases hx.bL; cases hi.bL;obtain ⟨m,rfl,b,hb,cJ⟩:=h;refine cz.mk (v:=.int .u8 b.toNat) ?_ cJ (.i (.v (.inl rfl)));have hu:=(hT _ _ jz).str hk
   have aK:s[m]?=some b:=by
    have Φ:m<s.data.size:=by have:=EY hb; simpa using this
    have h2:s.data[m]?=some b:=by simpa using hb
    have h3:s.data[m]=b:=by rw [gr Φ] at h2; simpa using h2
    have sP:m<s.size:=Φ;rw [getElem?_pos s m sP];exact congrArg some h3
   simp [QU,asIntOf,run_underlying hu,aK]
  ·rename_i len e cells kd n hk;cases hi.bL;have hu:=(hT _ _ jz).arr hk;split at h
   ·rename_i j hj;cases hg:pX j.kind with
    | true=>rw [hg] at h; cases h
    | false =>
     rw [hg] at h;obtain ⟨h1,h⟩:=cond_prop h;have h1:j.cells=1:=cR h1;obtain ⟨m,rfl,hm,c,hc,cJ⟩:=h;obtain ⟨us,rfl,hs,eZ,iR⟩:=hx.qM;have Φ:=EY hc;have hr:=iR m Φ;rw [vU hc] at hr;refine cz.mk (v:=us.getD m undef) ?_ cJ hr;have aZ:=(hT _ _ hj).kX w
     have fB:us[m]?=some (us.getD m undef):=by
      have:m<us.size:=by omega
      simp [this]
     have hp:=afQ (w:=w) (hT _ _ hj) hg us m fB;simp [QU,asIntOf,run_underlying hu,hm,aZ,h1,hp]
   ·cases h
  ·cases h
 ·cases h
def xx (x:Option AV) (vx:Option Value) (w:World) (F:Nat→Prop) (β:Nat→Value):Prop :=
 match x,vx with
 | none,none=>True
 | some a,some v=>Rd w F β a v
 | _,_=>False
def vF {x:Option AV} {vx:Option Value} {d:Nat} {k:Nat→Prop} (hx:xx x vx w F β) (h:r_ x d k):∃m,k m∧((vx=none∧m=d)∨∃kd,vx=some (.int kd (m:Int))):=by
 unfold r_ at h;split at h
 ·cases vx with
  | none=>exact ⟨d,h,.inl ⟨rfl,rfl⟩⟩
  | some v=>exact hx.elim
 ·cases vx with
  | none=>exact hx.elim
  | some v =>
   have:Rd w F β _ v:=hx;cases this.bL;obtain ⟨m,rfl,hk⟩:=h;exact ⟨m,hk,.inr ⟨_,rfl⟩⟩
 ·cases h
def zO {lo hi:Option Value} {len cap l h:Nat} {is:Bool} (hl:(lo=none∧l=0)∨∃kd,lo=some (.int kd (l:Int))) (hh:(hi=none∧h=len)∨∃kd,hi=some (.int kd (h:Int)))
  (h1:l≤h) (h2:h≤len) (h3:len≤cap):(Ak is len cap lo hi none).run P w=.ok (l,h,cap) w:=by
 rcases hl with ⟨rfl,rfl⟩ | ⟨kl,rfl⟩ <;> rcases hh with ⟨rfl,rfl⟩ | ⟨kh,rfl⟩
 ·simp [Ak]
 ·have:(h:Int)≤(cap:Int):=by omega
  simp [Ak,run_sliceBound w kh h cap _ (by omega) (by omega)]
 ·simp [Ak,run_sliceBound w kl l h _ (by omega) (by omega)]
 ·simp [Ak,run_sliceBound w kl l h _ (by omega) (by omega),run_sliceBound w kh h cap _ (by omega) (by omega)]
def agQ {t:Nat} {x:AV} {vx:Value} {lo hi:Option AV} {vlo vhi:Option Value} (hT:bM P T) (hx:Rd w F β x vx) (kR:xx lo vlo w F β) (kN:xx hi vhi w F β)
  (hI:Inv w F β H) (h:Pg T t x lo hi none H k):cz P (lL t vx vlo vhi none) w F β k:=by
 unfold Pg at h;split at h
 ·rename_i ti mx jz _;split at h
  ·rename_i e rows hk;have hu:=(hT _ _ jz).slice hk;split at h
   ·rename_i j hj;have aZ:=(hT _ _ hj).kX w;obtain ⟨l,h,hl⟩:=vF kR h;obtain ⟨m,⟨Ir,hm,hlen,r,rfl,cJ⟩,hh⟩:=vF kN h
    have vX:∀v,(lL t v vlo vhi none).run P w=(rU t v vlo vhi none).run P w:=by
     intro v; simp [lL,run_underlying hu]
    rcases hx.oN.tq with ⟨rfl,a,rfl⟩ | ⟨b,off,c,K,v,hb,hc,jv,rfl,hK,hv⟩
    ·simp at hm
     have yM:l=0:=by omega
     subst hm; subst yM;refine cz.mk (v:=.slice a 0 0) ?_ cJ (.i (by simpa using bf.s0));rw [vX];have qb:(vhi=none∧(0:Nat)=0)∨∃kd,vhi=some (dv kd ((0:Nat):Int)):=hh;simp [rU,run_underlying hu,zO (P:=P) (w:=w) (is:=true) hl qb (bF _) (bF _) (bF 0),aZ]
    ·have uE:((rows.take m).drop l).length=m-l:=by simp; omega
     refine cz.mk (v:=.slice (some (if c=l then ⟨b,off,none⟩ else ⟨b,off+l*j.cells,none⟩)) (m-l) (c-l)) ?_ cJ (.i ?_)
     ·rw [vX];have MI:=zO (P:=P) (w:=w) (is:=true) hl hh Ir hm hc
      have IE:(rU t (.slice (some ⟨b,off,none⟩) rows.length c) vlo vhi none).run P w=.ok (.slice (if c=l then some ⟨b,off,none⟩ else some ⟨b,off+l*j.cells,none⟩) (m-l) (c-l)) w:=by
       simp [rU,run_underlying hu,MI,aZ,f_]
      rw [IE];split <;> rfl
     ·by_cases da:c=l
      ·rw [if_pos da]
       have:m-l=0:=by omega
       have py:(rows.take m).drop l=[]:=by
        apply qD; omega
       rw [py];have h0:bf w F (.s []) (.slice (some ⟨b,off,none⟩) ([]:List (List AV)).length (c-l)) :=
        .s (k:=0) (u:=fun _ _=>undef) hb (by simp) (by omega) (fun _ h=>by simp at h) (fun _ _ h=>by simp at h) (fun _ _ h=>by simp at h) (fun _ _ h=>by simp at h)
       rw [this]; exact h0
      ·rw [if_neg da,←uE];refine .s (k:=j.cells) (u:=fun q z=>v (l+q) z) hb (by omega) (by omega) (fun q hq=>?_) (fun q z hq hz=>?_) (fun q z hq hz=>?_) fun q z hq hz=>?_
       ·rw [uE] at hq;have:=hlen (l+q) (by omega);simpa [aY,jl,gb,show l+q<m by omega] using this
       all_goals
        rw [uE] at hq
        have D9:K=j.cells:=by rw [←hK (l+q) (by omega)]; exact hlen (l+q) (by omega)
        have EE:=hv (l+q) z (by omega) (by omega)
       ·rw [←EE.1,D9,bO]; congr 2; omega
       ·exact EE.2.1
       ·have h3:=EE.2.2;simpa [aY,jl,gb,show l+q<m by omega] using h3
   ·cases h
  ·rename_i e id hk;have hu:=(hT _ _ jz).slice hk;split at h
   ·rename_i j hj;have aZ:=(hT _ _ hj).kX w;split at h
    ·rename_i E K rows hc;obtain ⟨hK,h⟩:=cond_prop h;have qY:K=j.cells:=cR hK;obtain ⟨l,⟨Bd,cJ⟩,hl⟩:=vF kR h;obtain ⟨a,n,c,ah,rfl⟩:=hx.jW
     have qc:n=rows.length∧n≤c:=by
      rcases s7 (hI.holds _ _ (eX hc)) with ⟨rfl,a2,hv⟩ | ⟨g,cap,hv,_,iO⟩
      ·rw [ah] at hv; cases hv; exact ⟨rfl,bF _⟩
      ·rw [ah] at hv; cases hv; exact ⟨rfl,iO⟩
     have NP:vhi=none:=by
      cases vhi with
      | none=>rfl
      | some v=>exact kN.elim
     subst NP;have hb:=zO (P:=P) (w:=w) (is:=true) (hi:=none) (len:=n) (cap:=c) (l:=l) (h:=n) hl (.inl ⟨rfl,rfl⟩) (by omega) (bF _) (by omega);refine cz.mk (v:=.slice (if c=l then a else a.map (·.add (l*j.cells))) (n-l) (c-l)) ?_ cJ ?_
     ·simp [lL,rU,run_underlying hu,hb,aZ]
     ·refine .w ah (by omega) fun Φ=>?_;rw [if_neg (by omega),←qY]
    ·cases h
   ·cases h
  ·rename_i e id Kw d hk;have hu:=(hT _ _ jz).slice hk;split at h
   ·rename_i j hj;have aZ:=(hT _ _ hj).kX w;split at h
    ·rename_i E K rows hc;obtain ⟨hK,h⟩:=cond_prop h;simp only [bJ] at hK;have qY:K=j.cells:=cR hK.1;have My:Kw=K:=cR hK.2;subst My;obtain ⟨l,⟨Bd,cJ⟩,hl⟩:=vF kR h;obtain ⟨a,a',n,c,ah,hd,ha,rfl⟩:=hx.xc
     have qc:n=rows.length∧n≤c:=by
      rcases s7 (hI.holds _ _ (eX hc)) with ⟨rfl,a2,hv⟩ | ⟨g,cap,hv,_,iO⟩
      ·rw [ah] at hv; cases hv; exact ⟨rfl,bF _⟩
      ·rw [ah] at hv; cases hv; exact ⟨rfl,iO⟩
     have NP:vhi=none:=by
      cases vhi with
      | none=>rfl
      | some v=>exact kN.elim
     subst NP;have hb:=zO (P:=P) (w:=w) (is:=true) (hi:=none) (len:=n-d) (cap:=c-d) (l:=l) (h:=n-d) hl (.inl ⟨rfl,rfl⟩) (by omega) (bF _) (by omega);refine cz.mk (v:=.slice (if c-d=l then a' else a'.map (·.add (l*j.cells))) (n-d-l) (c-d-l)) ?_ cJ ?_
     ·simp [lL,rU,run_underlying hu,hb,aZ]
     ·have e1:n-d-l=n-(d+l):=by omega
      have e2:c-d-l=c-(d+l):=by omega
      rw [e1,e2];refine .w ah (by omega) fun Φ=>?_;rw [if_neg (by omega),ha (by omega),←qY,Option.map_map];congr 1;funext ad;show (ad.add (d*Kw)).add (l*Kw)=_;rw [Addr.add_add,←bO]
    ·cases h
   ·cases h
  ·rename_i e hk;cases hx.bL;have hu:=(hT _ _ jz).slice hk;split at h
   ·rename_i j hj;have aZ:=(hT _ _ hj).kX w;obtain ⟨l,h,hl⟩:=vF kR h;obtain ⟨m,⟨Ir,hm,cJ⟩,hh⟩:=vF kN h
    have oD:m=0:=by omega
    have yM:l=0:=by omega
    subst oD; subst yM;have qb:(vhi=none∧(0:Nat)=0)∨∃kd,vhi=some (dv kd ((0:Nat):Int)):=hh;refine cz.mk (v:=.slice none 0 0) ?_ cJ (.i (.v (.inl rfl)));simp [lL,rU,run_underlying hu,zO (P:=P) (w:=w) (is:=true) hl qb (bF _) (bF _) (bF 0),aZ]
   ·cases h
  ·rename_i s hk;cases hx.bL;have hu:=(hT _ _ jz).str hk;obtain ⟨l,h,hl⟩:=vF kR h;obtain ⟨m,⟨Ir,hm,r,rfl,cJ⟩,hh⟩:=vF kN h;refine cz.mk (v:=.string (s.extract l m)) ?_ cJ (.i (.v (.inl rfl)));simp [lL,rU,run_underlying hu,zO (P:=P) (w:=w) (is:=false) hl hh Ir hm (bF _)]
  ·cases h
 ·cases h
def agN {x:AV} {vx:Value} (hx:Rd w F β x vx) (h:Pe x k) :
  (∃r,k r∧Rd w F β r vx)∧((∃a,vx=.pointer (some a))∨∃g fs cs,vx=.func (.func g) fs cs):=by
 unfold Pe at h;split at h
 ·obtain ⟨eV,hb,rfl⟩:=hx.mz;exact ⟨⟨_,h,hx⟩,.inl ⟨_,rfl⟩⟩
 ·have hp:=hx.BQ;cases hp;exact ⟨⟨_,h,hx⟩,.inl ⟨_,rfl⟩⟩
 ·obtain ⟨g,n,c,hb,rfl⟩:=hx.AM;exact ⟨⟨_,h,hx⟩,.inl ⟨_,rfl⟩⟩
 ·obtain ⟨us,vs,rfl,_⟩:=hx.nt;exact ⟨⟨_,h,hx⟩,.inr ⟨_,_,_,rfl⟩⟩
 ·cases h
def agJ {t ty:Nat} {x:AV} {vx:Value} (hT:bM P T) (hI:Inv w F β H) (hx:Rd w F β x vx) (h:lF T t x H k):cz P (vd #[t] ty #[vx]) w F β k:=by
 unfold lF at h;split at h
 ·rename_i i hi;split at h
  ·rename_i e rows hk;have hu:=(hT _ _ hi).slice hk;obtain ⟨n,rfl,h⟩:=h
   rcases hx.oN.tq with ⟨rfl,a,rfl⟩ | ⟨b,off,c,K,v,hb,hc,jv,rfl,hK,hv⟩
   ·exact cz.mk (by simp [vd,run_underlying hu,goInt]) (h (by simp)) (.i (.v (.inl rfl)))
   ·exact cz.mk (by simp [vd,run_underlying hu,goInt]) (h (by omega)) (.i (.v (.inl rfl)))
  ·rename_i e hk;have hu:=(hT _ _ hi).slice hk;cases hx.bL;exact cz.mk (by simp [vd,run_underlying hu,goInt]) h (.i (.v (.inl rfl)))
  ·rename_i e id hk;have hu:=(hT _ _ hi).slice hk;split at h
   ·rename_i E K rows hc;obtain ⟨n,rfl,h⟩:=h;obtain ⟨a,n,c,ah,rfl⟩:=hx.jW
    have hn:n=rows.length∧rows.length≤maxLen:=by
     rcases s7 (hI.holds _ _ (eX hc)) with ⟨rfl,a',hv⟩ | ⟨g,cap,hv,hm,hn⟩
     ·rw [ah] at hv; cases hv; exact ⟨rfl,by simp⟩
     ·rw [ah] at hv; cases hv; exact ⟨rfl,by omega⟩
    obtain ⟨rfl,hm⟩:=hn;exact cz.mk (by simp [vd,run_underlying hu,goInt]) (h hm) (.i (.v (.inl rfl)))
   ·cases h
  ·rename_i e id Kw d hk;have hu:=(hT _ _ hi).slice hk;split at h
   ·rename_i E K rows hc;obtain ⟨n,rfl,h⟩:=h;obtain ⟨a,a',n,c,ah,hd,ha,rfl⟩:=hx.xc
    have hn:n=rows.length∧rows.length≤maxLen:=by
     rcases s7 (hI.holds _ _ (eX hc)) with ⟨rfl,a2,hv⟩ | ⟨g,cap,hv,hm,hn⟩
     ·rw [ah] at hv; cases hv; exact ⟨rfl,by simp⟩
     ·rw [ah] at hv; cases hv; exact ⟨rfl,by omega⟩
    obtain ⟨rfl,hm⟩:=hn;exact cz.mk (by simp [vd,run_underlying hu,goInt]) (h (by omega)) (.i (.v (.inl rfl)))
   ·cases h
  ·rename_i kt e id hk;have hu:=(hT _ _ hi).map hk;split at h
   ·rename_i ag rows hc;obtain ⟨n,rfl,h⟩:=h;obtain ⟨b,ah,rfl⟩:=hx.zr;obtain ⟨b',es,ck,iT,hh,_,hs,hm,_⟩:=hI.holds _ _ (eX hc);rw [ah] at iT; cases iT;have hg:=Y7 (P:=P) hh;exact cz.mk (v:=.int .i64 rows.length) (by simp [vd,run_underlying hu,goInt,hg,hs]) (h (by omega)) (.i (.v (.inl rfl)))
   ·cases h
  ·rename_i s hk;have hu:=(hT _ _ hi).str hk;cases hx.bL;obtain ⟨n,rfl,h⟩:=h;exact cz.mk (by simp [vd,run_underlying hu,goInt]) h (.i (.v (.inl rfl)))
  ·rename_i n e hk;have hu:=(hT _ _ hi).arr hk;exact cz.mk (by simp [vd,run_underlying hu,goInt]) h (.i (.v (.inl rfl)))
  ·cases h
 ·cases h
def W2 {len cap h q:Nat} {kh km:IntKind} (h1:h≤q) (h2:q≤cap):(Ak true len cap none (some (.int kh (h:Int))) (some (.int km (q:Int)))).run P w=.ok (0,h,q) w:=by
 simp [Ak,run_sliceBound w km q cap _ (by omega) (by omega),run_sliceBound w kh h q _ (by omega) (by omega)]
def agP {t:Nat} {x hi mx:AV} {vx vhi vmx:Value} (hT:bM P T) (hx:Rd w F β x vx) (kN:Rd w F β hi vhi) (gk:Rd w F β mx vmx)
  (h:FA T t x none (some hi) mx k):cz P (lL t vx none (some vhi) (some vmx)) w F β k:=by
 unfold FA at h;split at h
 ·rename_i ti kh nh rows km nm jz _ ehi;cases ehi;split at h
  ·rename_i e hk;have hu:=(hT _ _ jz).slice hk;split at h
   ·rename_i j hj;have aZ:=(hT _ _ hj).kX w;obtain ⟨m,q,rfl,rfl,hmq,hq,hlen,r,rfl,cJ⟩:=h;cases kN.bL;cases gk.bL
    have vX:∀v vlo vhi vm,(lL t v vlo vhi vm).run P w=(rU t v vlo vhi vm).run P w:=by
     intro v _ _ _; simp [lL,run_underlying hu]
    rcases hx.oN.tq with ⟨rfl,a,rfl⟩ | ⟨b,off,c,K,v,hb,hc,jv,rfl,hK,hv⟩
    ·have UA:q=0:=by simpa using hq
     have oD:m=0:=by omega
     subst UA; subst oD;refine cz.mk (v:=.slice a 0 0) ?_ cJ (.i (by simpa using bf.s0));rw [vX];have:=W2 (P:=P) (w:=w) (len:=0) (cap:=0) (h:=0) (q:=0) (kh:=kh) (km:=km) (bF _) (bF _);simp only [Int.natCast_zero] at this ⊢;simp [rU,run_underlying hu,this,aZ]
    ·have uE:(rows.take m).length=m:=by simp; omega
     refine cz.mk (v:=.slice (some ⟨b,off,none⟩) m q) ?_ cJ (.i ?_)
     ·rw [vX];have MI:=W2 (P:=P) (w:=w) (len:=rows.length) (cap:=c) (h:=m) (q:=q) (kh:=kh) (km:=km) hmq (by omega);simp [rU,run_underlying hu,MI,aZ,f_]
     ·have:=bf.s (w:=w) (F:=F) (rows:=rows.take m) (b:=b) (off:=off) (c:=q) (k:=j.cells) (u:=fun q z=>v q z) hb (by omega) (by omega) (fun q hq=>by
        rw [uE] at hq;have:=hlen q (by omega)
        simpa [aY,gb,show q<m by omega] using this) (fun i z hi hz=>by
        rw [uE] at hi
        have D9:K=j.cells:=by rw [←hK i (by omega)]; exact hlen i (by omega)
        have EE:=hv i z (by omega) (by omega)
        rw [←EE.1,D9]) (fun i z hi hz=>by
        rw [uE] at hi
        have D9:K=j.cells:=by rw [←hK i (by omega)]; exact hlen i (by omega)
        exact (hv i z (by omega) (by omega)).2.1) (fun i z hi hz=>by
        rw [uE] at hi
        have D9:K=j.cells:=by rw [←hK i (by omega)]; exact hlen i (by omega)
        have h3:=(hv i z (by omega) (by omega)).2.2
        simpa [aY,gb,show i<m by omega] using h3)
      rw [uE] at this;exact this
   ·cases h
  ·cases h
 ·cases h
end
end
section
open Go.RowKit
variable [M:bK] [G:cL]
section
variable {P:Program} {T:TT} {w:World} {F:Nat→Prop} {β:Nat→Value} {H:Hp} {k:AV→Prop}
def rX (w:World) (F:Nat→Prop) (β:Nat→Value) (xs:List AV) (us:Array Value):Prop :=
 us.size=xs.length∧∀i,i<xs.length→(us.getD i undef).oneCell'=true∧Rd w F β (xs.getD i .χ) (us.getD i undef)
def aen {x:AV} (h:jk x=true):(∃cs,x=.a cs)∨(uL x=true∧bt x=[x]):=by
 cases x <;> first | exact .inl ⟨_,rfl⟩ | exact .inr ⟨h,rfl⟩
def oY {x:AV} {u:Value} (h:Rd w F β x u) (hx:jk x=true):rX w F β (bt x) u.cells:=by
 rcases aen hx with ⟨cs,rfl⟩ | ⟨hc,hl⟩
 ·obtain ⟨us,rfl,hs,h1,hr⟩:=h.qM;exact ⟨hs,fun i hi=>⟨h1 i hi,hr i hi⟩⟩
 ·have h1:=ads hc h
  have hc:u.cells=#[u]:=by cases u <;> simp [alf] at h1 <;> rfl
  rw [hc,hl];refine ⟨rfl,fun i hi=>?_⟩;simp at hi;subst hi;exact ⟨h1,h⟩
def SR (off:Nat):∀(l:List Value) (n:Nat) (cs:Array Value),off+n+l.length≤cs.size →
  (l.zipIdx n).foldl (fun cs x=>cs.setIfInBounds (off+x.2) x.1) cs=(cs.toList.take (off+n)++l++cs.toList.drop (off+n+l.length)).toArray:=by
 intro l;induction l with
 | nil=>intro n cs h; simp
 | cons x r ih =>
  intro n cs h;simp only [c8] at h;simp only [List.zipIdx_cons,List.foldl_cons];rw [ih (n+1) _ (by simp; omega)]
  have h1:off+n<cs.toList.length:=by simp; omega
  have e1:(cs.toList.set (off+n) x).take (off+(n+1))=cs.toList.take (off+n)++[x]:=by
   rw [show off+(n+1)=off+n+1 by omega,List.take_succ_eq_append_getElem (by simpa using h1)];rw [List.take_set,List.set_eq_of_length_le (by simp; omega)];simp
  have e2:(cs.toList.set (off+n) x).drop (off+(n+1)+r.length)=cs.toList.drop (off+n+(r.length+1)):=by
   rw [List.drop_set,if_pos (by omega),show off+(n+1)+r.length=off+n+(r.length+1) by omega]
  simp only [Array.toList_setIfInBounds,e1,e2,c8];simp
def SD {Wz:Nat→Option (Nat×Nat)} {placeC:Nat→Option (Nat×Nat)} (hp:∀i x,Wz i=some x→placeC i=some x) :
  ∀(parts:List (Nat×AV)) (vs:List (Nat×Value)) (cells xW:List AV) (us:Array Value),parts.length=vs.length →
   (∀i,i<parts.length→(parts.getD i (0,.χ)).1=(vs.getD i (0,undef)).1∧Rd w F β (parts.getD i (0,.χ)).2 (vs.getD i (0,undef)).2) →
   rX w F β cells us→AR Wz parts cells=some xW→∃pM,vg placeC us vs=some pM∧rX w F β xW pM:=by
 intro parts;induction parts with
 | nil =>
  intro vs cells xW us hl _ hr h;cases vs with
  | nil=>simp [AR] at h; subst h; exact ⟨us,rfl,hr⟩
  | cons=>simp at hl
 | cons p r ih =>
  intro vs cells xW us hl hv hr h;cases vs with
  | nil=>simp at hl
  | cons q s =>
   obtain ⟨i,x⟩:=p;obtain ⟨i',u⟩:=q;have h0:=hv 0 (by simp);simp at h0;obtain ⟨rfl,hu⟩:=h0;simp only [AR] at h;split at h
   ·cases h
   ·rename_i off size yY;cases hb:(jk x&&(aH (bt x).length size&&pT (off+size) cells.length)) with
    | false=>rw [hb] at h; cases h
    | true =>
     rw [hb] at h;simp only [bJ] at hb;obtain ⟨bW,aZ,hle⟩:=hb;have aZ:(bt x).length=size:=cR aZ
     have hle:off+size≤cells.length:=by simpa using hle
     obtain ⟨aw,br⟩:=oY hu bW;have Ej:=SR off u.cells.toList 0 us (by simp; rw [aw,hr.1]; omega);simp only [lN] at Ej
     have hz:u.cells.zipIdx.foldl (fun cs x=>cs.setIfInBounds (off+x.2) x.1) us=(us.toList.take off++u.cells.toList++us.toList.drop (off+u.cells.toList.length)).toArray:=by
      rw [←Ej,←YS,YY]
     have cK:rX w F β (cells.take off++(bt x++cells.drop (off+size))) (us.toList.take off++u.cells.toList++us.toList.drop (off+u.cells.toList.length)).toArray:=by
      have fa:us.toList.length=cells.length:=by simpa using hr.1
      have akP:us.size=cells.length:=hr.1
      have da:u.cells.toList.length=size:=by simp; rw [aw]; exact aZ
      refine ⟨by simp only [lh,dq,dQ,l_]; omega,fun j hj=>?_⟩;simp only [dq,dQ,l_] at hj;have key:∀(d:Value),(us.toList.take off++u.cells.toList++us.toList.drop (off+u.cells.toList.length)).toArray.getD j d =
        if j<off then us.getD j d else if j<off+size then u.cells.getD (j-off) d else us.getD j d:=by
       intro d;simp only [lf,Zk,gC,dq,dQ,da,gb,jl];by_cases h1:j<off
       ·simp [h1,show j<min off us.size+size by omega,show j<min off us.size by omega]
       ·by_cases h2:j<off+size
        ·simp [h1,h2,show min off us.size=off by omega]
        ·simp [h1,h2,show min off us.size=off by omega,show off+size+(j-(off+size))=j by omega]
      have zo:(cells.take off++(bt x++cells.drop (off+size))).getD j .χ=if j<off then cells.getD j .χ else if j<off+size then (bt x).getD (j-off) .χ else cells.getD j .χ:=by
       simp only [aY,gC,dQ,aZ,gb,jl];by_cases h1:j<off
       ·simp [h1,show j<min off cells.length by omega]
       ·by_cases h2:j<off+size
        ·simp [h1,h2,show min off cells.length=off by omega,show j-off<size by omega]
        ·simp [h1,h2,show min off cells.length=off by omega,show ¬j-off<size by omega,show off+size+(j-off-size)=j by omega]
      rw [key,zo];by_cases h1:j<off
      ·rw [if_pos h1,if_pos h1]; exact hr.2 j (by omega)
      ·rw [if_neg h1,if_neg h1];by_cases h2:j<off+size
       ·rw [if_pos h2,if_pos h2]; exact br (j-off) (by omega)
       ·rw [if_neg h2,if_neg h2]; exact hr.2 j (by omega)
     obtain ⟨pM,hf,acC⟩:=ih s _ xW _ (by simpa using hl) (fun m hm=>by have:=hv (m+1) (by simp; omega); simpa using this) cK h;refine ⟨pM,?_,acC⟩;simp only [vg,hp _ _ yY];rw [if_neg ?_]
     ·have iS:(Array.foldl (fun cs (x:Value×Nat)=>cs.setIfInBounds (off+x.2) x.1) us u.cells.zipIdx)=(us.toList.take off++u.cells.toList++us.toList.drop (off+u.cells.toList.length)).toArray:=hz;exact (congrArg (fun z=>vg placeC z s) iS).trans hf
     ·simp only [tT,ne_eq,decide_eq_true_eq,not_or,decide_not,oS];rw [aw,aZ,hr.1];simp;omega
def ael {z:Value} {zs:List AV} (h:cq z=.a zs):rX w F β zs z.cells:=by
 have hr:=nV w F z β;rw [h] at hr;obtain ⟨us,rfl,hs,h1,h2⟩:=hr.qM;exact ⟨hs,fun i hi=>⟨h1 i hi,h2 i hi⟩⟩
def rX.agg {xs:List AV} {us:Array Value} (h:rX w F β xs us):Rd w F β (.a xs) (.agg us):=.a h.1 (fun i hi=>(h.2 i hi).1) fun i hi=>(h.2 i hi).2
def run_places (hT:bM P T):∀(fields:List Field),G8 T (fields.map fun f=>(f.offset,f.type))=true →
  ∃ps:List (Nat×Nat),(List.mapM (fun f:Field=>(do pure (f.offset,←sizeOf f.type):Sem (Nat×Nat))) fields).run P w=.ok ps w ∧
   ∀i x,Fl T (fields.map fun f=>(f.offset,f.type)) i=some x→ps[i]?=some x
 | [],_=>⟨[],by simp,fun i x h=>by simp [Fl] at h⟩
 | f::r,ha=>by
  simp only [jD,G8,bJ] at ha;obtain ⟨ps,hr,hp⟩:=run_places hT r ha.2;obtain ⟨j,hj⟩:=Option.isSome_iff_exists.1 ha.1;have aZ:=(hT _ _ hj).kX w;refine ⟨(f.offset,j.cells)::ps,by rw [List.mapM_cons]; simp only [kz,K4,mh,aZ,hr],fun i x h=>?_⟩;cases i with
  | zero =>
   simp [Fl,hj] at h;simpa using h
  | succ i=>exact hp i x (by simpa [Fl] using h)
def agz {t:Nat} {parts:List (Nat×AV)} {vs:Array (Nat×Value)} (hT:bM P T) (hl:parts.length=vs.size)
  (hv:∀i,i<parts.length→(parts.getD i (0,.χ)).1=(vs.toList.getD i (0,undef)).1∧Rd w F β (parts.getD i (0,.χ)).2 (vs.toList.getD i (0,undef)).2)
  (h:O7 T t parts k):cz P (QS t vs) w F β k:=by
 unfold O7 at h;split at h
 ·rename_i i hi;have hz:=(hT _ _ hi).tp w;split at h
  ·rename_i zs iE;have EJ:=ael (w:=w) (F:=F) (β:=β) iE;split at h
   ·rename_i fs Ek;obtain ⟨d_,h⟩:=cond_prop h;obtain ⟨fields,hu,rfl⟩:=(hT _ _ hi).struct Ek;split at h
    ·rename_i cells hf;obtain ⟨ps,hr,hp⟩:=run_places (w:=w) hT fields.toList d_;obtain ⟨pM,uu,cK⟩:=SD (w:=w) (F:=F) (β:=β) (placeC:=fun j=>ps.toArray[j]?) (fun i x hx=>by simpa using hp i x hx) parts vs.toList zs cells i.zero.cells (by simpa using hl) hv EJ hf;refine cz.mk (v:=.agg pM) ?_ h cK.agg
     have hm:(fields.mapM (fun f=>(do pure (f.offset,←sizeOf f.type):Sem (Nat×Nat)))).run P w=.ok ps.toArray w:=by
      rw [Array.mapM_eq_mapM_toList];simp only [Sem.run_map,hr,mh]
     unfold QS;simp only [kz,hz,mh,run_underlying hu,hm,uu,K4]
    ·cases h
   ·rename_i n e he;have hu:=(hT _ _ hi).arr he;split at h
    ·rename_i j hj;have aZ:=(hT _ _ hj).kX w;split at h
     ·rename_i cells hf;obtain ⟨pM,uu,cK⟩:=SD (w:=w) (F:=F) (β:=β) (placeC:=fun i=>some (i*j.cells,j.cells)) (fun i x hx=>hx) parts vs.toList zs cells i.zero.cells (by simpa using hl) hv EJ hf;refine cz.mk (v:=.agg pM) ?_ h cK.agg;unfold QS;simp only [kz,hz,mh,run_underlying hu,aZ,uu,K4]
     ·cases h
    ·cases h
   ·cases h
  ·cases h
 ·cases h
def WZ {size:Nat}:∀{parts:List (Nat×AV)} {n:Nat} {rows:List (List AV)},rowsOf size n parts=some rows→rows.length=parts.length∧∀i,i<parts.length →
  (parts.getD i (0,.χ)).1=n+i∧jk (parts.getD i (0,.χ)).2=true∧(bt (parts.getD i (0,.χ)).2).length=size∧rows.getD i []=bt (parts.getD i (0,.χ)).2
 | [],n,rows,h=>by simp [rowsOf] at h; subst h; exact ⟨rfl,fun i hi=>by simp at hi⟩
 | (m,x)::r,n,rows,h=>by
  simp only [rowsOf] at h;cases hb:(aH m n&&(jk x&&aH (bt x).length size)) with
  | false=>rw [hb] at h; cases h
  | true =>
   rw [hb] at h;simp only [bJ] at hb;obtain ⟨hm,bW,hs⟩:=hb;have hm:m=n:=cR hm;have hs:(bt x).length=size:=cR hs;cases hr:rowsOf size (n+1) r with
   | none=>rw [hr] at h; cases h
   | some rs =>
    rw [hr] at h;simp only [cond_true,Zw,GN] at h;subst h;obtain ⟨hl,hi⟩:=WZ hr;refine ⟨by simp [hl],fun i Φ=>?_⟩;cases i with
    | zero=>exact ⟨by simpa using hm,bW,hs,rfl⟩
    | succ i =>
     have:=hi i (by simpa using Φ);simpa [GL,Nat.add_comm 1 i] using this
def Mb {size:Nat}:∀(rows:List (List AV)) (i j:Nat),(∀i,i<rows.length→(rows.getD i []).length=size)→i<rows.length→j<size→rows.flatten.getD (i*size+j) .χ=(rows.getD i []).getD j .χ
 | [],i,j,_,hi,_=>by simp at hi
 | r::rs,i,j,h,hi,hj=>by
  have hr:r.length=size:=by simpa using h 0 (by simp)
  cases i with
  | zero=>simp [aY,gC,hr,hj]
  | succ i =>
   have ih:=Mb rs i j (fun m hm=>by simpa using h (m+1) (by simpa using hm)) (by simpa using hi) hj
   have e:(i+1)*size+j=size+(i*size+j):=by rw [bO]; omega
   rw [e];simpa [aY,gC,hr,show ¬size+(i*size+j)<size by omega] using ih
def HJ {size:Nat}:∀(rows:List (List AV)),(∀i,i<rows.length→(rows.getD i []).length=size)→rows.flatten.length=rows.length*size
 | [],_=>by simp
 | r::rs,h=>by
  have hr:r.length=size:=by simpa using h 0 (by simp)
  have ih:=HJ rs (fun m hm=>by simpa using h (m+1) (by simpa using hm));simp [hr,ih,bO]; omega
def aa' {size:Nat} (eJ:0<size):∀(parts:List (Nat×AV)) (vs:List (Nat×Value)) (n:Nat) (rows:List (List AV)) (done:List AV) (us:Array Value),parts.length=vs.length →
  (∀i,i<parts.length→(parts.getD i (0,.χ)).1=(vs.getD i (0,undef)).1∧Rd w F β (parts.getD i (0,.χ)).2 (vs.getD i (0,undef)).2) →
  rowsOf size n parts=some rows→done.length=n*size→us.size=(n+parts.length)*size →
  (∀i,i<done.length→(us.getD i undef).oneCell'=true∧Rd w F β (done.getD i .χ) (us.getD i undef)) →
  ∃pM,vg (fun i=>some (i*size,size)) us vs=some pM∧rX w F β (done++rows.flatten) pM:=by
 intro parts;induction parts with
 | nil =>
  intro vs n rows done us hl hv hr hd hu MU;cases vs with
  | cons=>simp at hl
  | nil =>
   simp [rowsOf] at hr;subst hr;refine ⟨us,rfl,?_,fun i hi=>?_⟩
   ·simpa [hd] using hu
   ·simpa using MU i (by simpa using hi)
 | cons p r ih =>
  intro vs n rows done us hl hv hr hd hu MU;cases vs with
  | nil=>simp at hl
  | cons q s =>
   obtain ⟨m,x⟩:=p;obtain ⟨m',u⟩:=q;have h0:=hv 0 (by simp);simp at h0;obtain ⟨rfl,hxu⟩:=h0;simp only [rowsOf] at hr;cases hb:(aH m n&&(jk x&&aH (bt x).length size)) with
   | false=>rw [hb] at hr; cases hr
   | true =>
    rw [hb] at hr;simp only [bJ] at hb;obtain ⟨hm,bW,hs⟩:=hb;obtain rfl:m=n:=cR hm;have hs:(bt x).length=size:=cR hs;cases oG:rowsOf size (m+1) r with
    | none=>rw [oG] at hr; cases hr
    | some rs =>
     rw [oG] at hr;simp only [cond_true,Zw,GN] at hr;subst hr;obtain ⟨aw,br⟩:=oY hxu bW
     have fa:us.size=m*size+(size+r.length*size):=by
      rw [hu]; simp only [c8,bO]; omega
     have da:u.cells.toList.length=size:=by simp; rw [aw]; exact hs
     have Ej:=SR (m*size) u.cells.toList 0 us (by rw [da]; omega);simp only [lN] at Ej
     have hz:u.cells.zipIdx.foldl (fun cs x=>cs.setIfInBounds (m*size+x.2) x.1) us=(us.toList.take (m*size)++u.cells.toList++us.toList.drop (m*size+u.cells.toList.length)).toArray:=by
      rw [←Ej,←YS,YY]
     have key:∀j,j<(done++bt x).length→((us.toList.take (m*size)++u.cells.toList++us.toList.drop (m*size+u.cells.toList.length)).toArray.getD j undef)=if j<m*size then us.getD j undef else u.cells.getD (j-m*size) undef:=by
      intro j hj;simp only [dq,hd,hs] at hj;simp only [lf,Zk,gC,dq,dQ,da,gb,jl];by_cases h1:j<m*size
      ·simp [h1,show j<min (m*size) us.size+size by omega,show j<min (m*size) us.size by omega]
      ·simp [h1,show min (m*size) us.size=m*size by omega,show j<m*size+size by omega]
     obtain ⟨pM,hf,cK⟩:=ih s (m+1) rs (done++bt x) (us.toList.take (m*size)++u.cells.toList++us.toList.drop (m*size+u.cells.toList.length)).toArray (by simpa using hl) (fun i hi=>by have:=hv (i+1) (by simp; omega); simpa using this) oG
      (by simp [hd,hs,bO])
      (by simp only [lh,dq,dQ,l_,da,Array.length_toList,bO]; omega)
      (fun i hi=>by
       rw [key i hi];by_cases h1:i<m*size
       ·rw [if_pos h1]
        have e:(done++bt x).getD i .χ=done.getD i .χ:=by simp [aY,gC,hd,h1]
        rw [e]; exact MU i (by omega)
       ·rw [if_neg h1]
        have bm:i<m*size+size:=by simpa [hd,hs] using hi
        have e:(done++bt x).getD i .χ=(bt x).getD (i-m*size) .χ:=by simp [aY,gC,hd,h1]
        rw [e]; exact br _ (by omega))
     refine ⟨pM,?_,by simpa using cK⟩;simp only [vg];rw [if_neg ?_]
     ·exact (congrArg (fun z=>vg (fun i=>some (i*size,size)) z s) hz).trans hf
     ·simp only [tT,ne_eq,decide_eq_true_eq,not_or,decide_not,oS];rw [aw,hs];simp;omega
def nQ {x:AV} {u:Value} (hx:fj x=true) (h:Rd w F β x u):bf w F x u:=by
 cases x <;> first | (cases hx; done) | (cases h; assumption)
def IM {x:AV} {u:Value} (hx:kb x=true) (h:Rd w F β x u):bf w F x u:=by
 have get:∀(l:List AV) (i:Nat),l.all fj=true→i<l.length→fj (l.getD i .χ)=true:=fun l i hl hi=>by
  have:=ej.1 hl (l.getD i .χ) (by simp [aY,hi]);exact this
 cases x with
 | a cs =>
  obtain ⟨us,rfl,hs,h1,hr⟩:=h.qM;exact .a hs h1 fun i hi=>nQ (get cs i hx hi) (hr i hi)
 | t cs =>
  obtain ⟨us,rfl,hs,hr⟩:=h.Ct;exact .t hs fun i hi=>nQ (get cs i hx hi) (hr i hi)
 | c fn fs cs =>
  simp only [kb,bJ] at hx;obtain ⟨us,vs,rfl,hs,eu,hr,cK⟩:=h.nt;exact .c hs eu (fun i hi=>nQ (get fs i hx.1 hi) (hr i hi)) fun i hi=>nQ (get cs i hx.2 hi) (cK i hi)
 | _=>exact nQ hx h
def SL {ag:Bool} {rows:List (Int×List AV)} {es:Array MapEntry} {ck:Nat} (bU:Y6 es ck) (hs:es.size=rows.length)
  (hr:∀(i:Nat) (r:Int×List AV),rows[i]?=some r→∃e:MapEntry,es[i]?=some e∧e.key=.int .i64 r.1∧Θ r.1∧bf w F (rM ag r.2) e.val) (n:Int) :
  (∀x∈es.toList,Y5 (.int .i64) x.key) ∧
  ((ali (.int .i64) (.int .i64 n) es.toList 0=some none∧bn n rows=none∧(∀x∈es.toList,x.key≠.int .i64 n)) ∨
   ∃(j:Nat) (e:MapEntry) (c:List AV),ali (.int .i64) (.int .i64 n) es.toList 0=some (some (j,e.val))∧es[j]?=some e∧e.key=.int .i64 n∧rows[j]?=some (n,c)∧bn n rows=some c∧bf w F (rM ag c) e.val ∧
    ∀v,ak n v rows=rows.set j (n,v)):=by
 have lW:∀(i:Nat) (e:MapEntry),es[i]?=some e→∃r,rows[i]?=some r∧e.key=.int .i64 r.1∧bf w F (rM ag r.2) e.val:=fun i e he=>by
  have Φ:i<rows.length:=by have:=(lg.1 he).1; omega
  obtain ⟨e',h1,h2,_,h4⟩:=hr i rows[i] (bT Φ);rw [he] at h1; cases h1;exact ⟨_,bT Φ,h2,h4⟩
 have d_:∀x∈es.toList,Y5 (.int .i64) x.key:=fun x hx=>by
  obtain ⟨i,hi⟩:=List.mem_iff_getElem?.1 hx;obtain ⟨r,_,h2,_⟩:=lW i x (by simpa using hi);rw [h2]; rfl
 refine ⟨d_,?_⟩;have vX:=BG n ([]:List AV) rows
 rcases Go.MapKept.findNow_spec (d:=.int .i64) (k:=.int .i64 n) rfl es.toList 0 d_ with ⟨h1,h2⟩ | ⟨j,e,h1,h2,h3⟩
 ·refine .inl ⟨h1,?_,h2⟩
  rcases vX with ⟨h,_,_⟩ | ⟨j,c,hj,_⟩
  ·exact h
  ·obtain ⟨e,he,hk,_⟩:=hr j _ hj;exact (h2 e (by rw [←Array.getElem?_toList] at he; exact mc he) hk).elim
 ·have iy:es[j]?=some e:=by simpa using h2
  obtain ⟨r,Nx,EB,hrv⟩:=lW j e iy
  have IE:r.1=n:=by rw [h3] at EB; cases EB; rfl
  obtain ⟨rn,rc⟩:=r;dsimp only at IE;subst IE;refine .inr ⟨j,e,rc,by simpa using h1,iy,h3,Nx,?_⟩
  have uniq:∀(i:Nat) c,rows[i]?=some (rn,c)→i=j:=fun i c hi=>by
   obtain ⟨e',fp,cJ,_⟩:=hr i _ hi;have dJ:=bU.2.2
   have l1:(es.toList.map (·.key))[i]?=some (.int .i64 rn):=by rw [tW]; simp [fp,cJ]
   have l2:(es.toList.map (·.key))[j]?=some (.int .i64 rn):=by rw [tW]; simp [iy,h3]
   have dJ:=List.pairwise_iff_getElem.1 dJ;obtain ⟨a1,a2⟩:=fb.1 l1;obtain ⟨b1,b2⟩:=fb.1 l2
   rcases Nat.lt_trichotomy i j with h | h | h
   ·exact (dJ i j a1 b1 h (by rw [a2,b2])).elim
   ·exact h
   ·exact (dJ j i b1 a1 h (by rw [a2,b2])).elim
  rcases vX with ⟨_,_,h⟩ | ⟨i,c,hi,hg,_,Φ⟩
  ·exact (h _ (mc Nx) rfl).elim
  ·have eO:=uniq i c hi;subst eO;rw [Nx] at hi;cases hi;refine ⟨hg,hrv,fun v=>?_⟩
   rcases BG rn v rows with ⟨h,_,_⟩ | ⟨i',c',bm,_,eu,_⟩
   ·rw [hg] at h; cases h
   ·rw [eu,uniq i' c' bm]
def VH {ag:Bool} {y:AV} {u:Value} {yc:List AV} (h:zu ag y=some yc) (hy:Rd w F β y u):bf w F (rM ag yc) u:=by
 cases ag with
 | true =>
  cases y <;> simp [zu] at h;rename_i cs;cases hc:cs.all fj with
  | false=>rw [hc] at h; cases h
  | true =>
   rw [hc] at h; cases h;exact IM (x:=.a yc) (by simpa [kb] using hc) hy
 | false =>
  by_cases hc:∃fn,y=.c fn [] []
  ·obtain ⟨fn,rfl⟩:=hc;cases (show some [AV.c fn [] []]=some yc from h);obtain ⟨us,vs,rfl,h1,h2,_,_⟩:=hy.nt
   exact .c h1 h2 (fun i hi=>by simp at hi) fun i hi=>by simp at hi
  have hi:fj y=true∧yc=[y]:=by
   cases y with
   | c fn fs cs =>
    cases fs with
    | cons a b=>simp [zu,fj] at h
    | nil=>cases cs with
     | cons a b=>simp [zu,fj] at h
     | nil=>exact (hc ⟨fn,rfl⟩).elim
   | _=>simp [zu,fj] at h ⊢ <;> exact h.symm
  rw [hi.2];exact nQ hi.1 hy
def Oz {x:AV} {u:Value} (h:bf w F x u):bf w F (nz x) u:=by
 unfold nz;split
 ·cases h; exact .s0
 ·exact h
def aeh {rows:List (List AV)} {u:Value} (hr:bf w F (.s rows) u):bf w F (.s (rows.map fun r=>r.map nz)) u:=by
 cases hr with
 | s0=>exact .s0
 | @s _ b off c k u hb hc hm hk eM eZ fy =>
  have hg:∀i,i<rows.length→(rows.map (fun r=>r.map nz)).getD i []=(rows.getD i []).map nz:=fun i hi=>by simp [aY,hi]
  have h2:=bf.s (w:=w) (F:=F) (rows:=rows.map (fun r=>r.map nz)) (b:=b) (off:=off) (c:=c) (k:=k) (u:=u) hb (by simpa using hc) hm (fun i hi=>by
   have hi:i<rows.length:=by simpa using hi
   rw [hg i hi,List.length_map]; exact hk i hi) (fun i j hi hj=>eM i j (by simpa using hi) hj) (fun i j hi hj=>eZ i j (by simpa using hi) hj) (fun i j hi hj=>by
   have hi:i<rows.length:=by simpa using hi
   rw [hg i hi];have re:=hk i hi
   have:((rows.getD i []).map nz).getD j .χ=nz ((rows.getD i []).getD j .χ):=by
    have dr:j<(rows.getD i []).length:=by omega
    simp only [fU,tW] at dr ⊢;rw [bT dr]; rfl
   rw [this]; exact Oz (fy i j hi hj))
  simpa using h2
def aib {ag:Bool} {zc:List AV} {u:Value} (h:bf w F (rM ag zc) u):bf w F (rM ag (zc.map nz)) u:=by
 cases ag with
 | true =>
  cases h with
  | a hs h1 h =>
   refine .a (by simpa using hs) (fun i hi=>h1 i (by simpa using hi)) fun i hi=>?_
   have hi:i<zc.length:=by simpa using hi
   have:(zc.map nz).getD i .χ=nz (zc.getD i .χ):=by simp [aY,hi]
   rw [this]; exact Oz (h i hi)
 | false =>
  show bf w F ((zc.map nz).getD 0 .χ) u;have h:bf w F (zc.getD 0 .χ) u:=h;cases zc with
  | nil=>exact h
  | cons x r=>exact Oz h
def agL {t:Nat} {m i:AV} {c:Bool} {vm vi:Value} (hT:bM P T) (hI:Inv w F β H) (hm:Rd w F β m vm) (hi:Rd w F β i vi) (h:Pc T t m i c H k):cz P (KQ t vm vi c) w F β k:=by
 unfold Pc at h;split at h
 ·rename_i ti jz;split at h
  ·rename_i kt e hk;have hu:=(hT _ _ jz).map hk;split at h
   ·rename_i ik ie nH uz;split at h
    ·rename_i id n re;have hd:=(hT _ _ nH).int re;cases hi.bL;split at h
     ·rename_i ag rows zc hc hz;obtain ⟨sE,r,c_,h⟩:=cond_prop h
      have sE:ag=pX ie.kind:=by simpa using sE
      obtain ⟨b,ah,rfl⟩:=hm.zr;obtain ⟨b',es,ck,iT,hh,bU,hs,gk,wA⟩:=hI.holds _ _ (eX hc);rw [ah] at iT; cases iT;have hg:=Y7 (P:=P) hh;have eN:=Go.MapKept.run_checkKey (P:=P) (w:=w) (k:=.int .i64 n) hd rfl es.isEmpty 9999;obtain ⟨_,hf⟩:=SL bU hs wA n;have hzero:=(hT _ _ uz).tp w
      have wz:∃v ok,(KQ t (.map (some b)) (.int .i64 n) c).run P w=.ok (if c then .tuple #[v,.bool ok] else v) w∧bf w F (rM ag r) v∧ok=(bn n rows).isSome:=by
       rcases hf with ⟨h1,h2,_⟩ | ⟨j,e',c',h1,_,_,_,h2,h3,_⟩
       ·have yC:=Gw (P:=P) (w:=w) hd h1;refine ⟨ie.zero,false,?_,?_,by rw [h2]; rfl⟩
        ·simp [KQ,run_underlying hu,hg,eN,yC,hzero]
        ·rw [←c_,h2,Option.getD_none,sE];exact aib (VH hz (nV w F ie.zero β))
       ·have yC:=Gw (P:=P) (w:=w) hd h1;refine ⟨e'.val,true,?_,?_,by rw [h2]; rfl⟩
        ·simp [KQ,run_underlying hu,hg,eN,yC]
        ·rw [←c_,h2,Ap]; exact h3
      obtain ⟨v,ok,a_,hv,bW⟩:=wz;cases c with
      | true =>
       obtain ⟨b2,jJ,cJ⟩:=h;refine cz.mk a_ cJ (.i (.t rfl fun i hi=>?_))
       match i,hi with
       | 0,_=>exact hv
       | 1,_ =>
        show bf w F (.v (.bool b2)) (.bool ok);rw [bW,jJ]; exact .v (.inl rfl)
      | false=>exact cz.mk a_ h (.i hv)
     ·cases h
    ·cases h
   ·cases h
  ·cases h
 ·cases h
end
end
section
open Go.RowKit
variable [M:bK] [G:cL]
section
variable {P:Program} {T:TT} {w:World} {F:Nat→Prop} {β:Nat→Value} {H:Hp} {k:AV→Prop}
def vE (w:World) (o:Obj):Below w.heap.size w (w.alloc o):=(Below.refl _ _).alloc (bF _) _
def O3 {t len:Nat} {parts:List (Nat×AV)} {vs:Array (Nat×Value)} (hT:bM P T) (hl:parts.length=vs.size)
  (hv:∀i,i<parts.length→(parts.getD i (0,.χ)).1=(vs.toList.getD i (0,undef)).1∧Rd w F β (parts.getD i (0,.χ)).2 (vs.toList.getD i (0,undef)).2)
  {K:List (List AV)→Nat→Nat→Prop} (h:zQ T t len parts K) :
  ∃rows e size us,K rows e size∧T t=some ⟨.slice e,(((T t).map (·.cells)).getD 0),(((T t).map (·.bytes)).getD 0),(((T t).map (·.zero)).getD undef)⟩∧0<size∧rows.length=len∧(∀i,i<rows.length→(rows.getD i []).length=size) ∧
   rX w F β rows.flatten us∧us.size=len*size∧(QT t len vs).run P w=.ok (.slice (some ⟨w.heap.size,0,none⟩) len len) (w.alloc (.cells us e))∧len≤16777216:=by
 unfold zQ at h;split at h
 ·rename_i i hi;split at h
  ·rename_i e he;split at h
   ·rename_i j hj;split at h
    ·rename_i rows UG;obtain ⟨hb,hk⟩:=cond_prop h;simp only [bJ] at hb;obtain ⟨h1,h2,h3⟩:=hb;have h1:parts.length=len:=cR h1
     have h2:len*j.cells≤16777216:=by simpa using h2
     have h3:0<j.cells:=by
      rcases Nat.eq_zero_or_pos j.cells with h0 | h0
      ·rw [h0] at h3; cases h3
      ·exact h0
     obtain ⟨nL,hri⟩:=WZ UG;have hu:=(hT _ _ hi).slice he;have aZ:=(hT _ _ hj).kX w;have hz:=(hT _ _ hj).tp w;let zs:Array Value:=(nj (len*j.cells)).map (j.zero.cells[· % j.zero.cells.size]!);obtain ⟨us,hf,fB⟩:=aa' (w:=w) (F:=F) (β:=β) h3 parts vs.toList 0 rows [] zs (by simpa using hl) hv UG (by simp) (by simp [zs,h1]) (fun i hi=>by simp at hi);simp only [List.nil_append] at fB
     have lC:∀i,i<rows.length→(rows.getD i []).length=j.cells:=fun i hi=>by
      obtain ⟨_,_,hs,hr⟩:=hri i (by omega);rw [hr]; exact hs
     have A6:=HJ rows lC;refine ⟨rows,e,j.cells,us,hk,?_,h3,by omega,lC,fB,by rw [fB.1,A6,nL,h1],?_,?_⟩
     ·rw [hi]; simp; rw [←he]
     ·unfold QT;simp only [kz,run_underlying hu,mh,aZ];rw [if_neg (by omega)];by_cases yM:len*j.cells=0
      ·have ace:len=0:=by rcases Nat.mul_eq_zero.1 yM with h | h; exact h; omega
       subst ace;have hp:parts=[]:=qD h1;subst hp;have jj:vs.toList=[]:=qD (by simpa using hl.symm);rw [if_pos yM]
       have iE:zs=#[]:=by simp [zs]
       have NM:us=#[]:=by
        rw [jj,iE] at hf;simpa [vg] using hf.symm
       subst NM;have c_:nj 0=#[]:=tM (by simp);simp [jj,vg,newRow,c_]
      ·rw [if_neg yM];simp only [kz,hz,mh,K4];have uu:vg (fun i=>some (i*j.cells,j.cells)) ((nj (len*j.cells)).map (j.zero.cells[· % j.zero.cells.size]!)) vs.toList=some us:=hf;rw [uu];simp [newRow]
     ·exact fc (Nat.le_mul_of_pos_right len h3) h2
    ·cases h
   ·cases h
  ·cases h
 ·cases h
def agm {rows:List (List AV)} {size b cap:Nat} {us:Array Value} {e:TypeId} {fr:Nat×Nat} (lC:∀i,i<rows.length→(rows.getD i []).length=size) (fB:∀i,i<rows.flatten.length→(us.getD i undef).oneCell'=true∧bf w F (rows.flatten.getD i .χ) (us.getD i undef))
  (aZ:rows.flatten.length≤us.size) (hb:F b) (hh:w.heap[b]?=some (.cells us e fr)) (hc:rows.length≤cap) (hm:cap≤maxLen):bf w F (.s rows) (.slice (some ⟨b,0,none⟩) rows.length cap):=by
 have A6:=HJ rows lC
 have Φ:∀i j,i<rows.length→j<size→i*size+j<rows.flatten.length:=fun i j hi hj=>by
  rw [A6]
  calc i*size+j<i*size+size:=by omega
   _=(i+1)*size:=by rw [bO]; omega
   _≤rows.length*size:=cI _ hi
 refine .s (k:=size) (u:=fun i j=>us.getD (i*size+j) undef) hb hc hm lC (fun i j hi hj=>?_) (fun i j hi hj=>(fB _ (Φ i j hi hj)).1) fun i j hi hj=>?_
 ·rw [cell_of_row w b _ us e fr hh,jF];have:=Φ i j hi hj
  have h2:i*size+j<us.size:=by omega
  simp [h2]
 ·have:=(fB _ (Φ i j hi hj)).2;rwa [Mb rows i j lC hi hj] at this
def U8 {rows:List (List AV)} {us:Array Value} (hi:rows.all (fun r=>r.all fj)=true) (h:rX w F β rows.flatten us) :
  ∀i,i<rows.flatten.length→(us.getD i undef).oneCell'=true∧bf w F (rows.flatten.getD i .χ) (us.getD i undef):=by
 intro i Φ;refine ⟨(h.2 i Φ).1,nQ ?_ (h.2 i Φ).2⟩
 have hm:rows.flatten.getD i .χ∈rows.flatten:=by
  rw [fU,bT Φ]; exact eG Φ
 obtain ⟨r,hr,hx⟩:=List.mem_flatten.1 hm;exact ej.1 (ej.1 hi r hr) _ hx
def agy {t len:Nat} {parts:List (Nat×AV)} {vs:Array (Nat×Value)} (hT:bM P T) (hI:Inv w F β H) (hl:parts.length=vs.size)
  (hv:∀i,i<parts.length→(parts.getD i (0,.χ)).1=(vs.toList.getD i (0,undef)).1∧Rd w F β (parts.getD i (0,.χ)).2 (vs.toList.getD i (0,undef)).2)
  (h:zQ T t len parts fun rows _ _=>bif rows.all (fun r=>r.all fj) then k (.s (rows.map fun r=>r.map nz)) else False):cz P (QT t len vs) w F β k:=by
 obtain ⟨rows,e,size,us,hk,_,hs,nL,lC,fB,aZ,a_,hlen⟩:=O3 hT hl hv h;obtain ⟨hi,hk⟩:=cond_prop hk;have hb:=vE w (.cells us e);have hF:=hI.cC;refine ⟨_,_,_,a_,hb,hk,.i (aeh ?_)⟩;have gU:=U8 hi fB;rw [←nL];refine agm (size:=size) (e:=e) (fr:=(0,0)) lC (fun i hi=>⟨(gU i hi).1,((gU i hi).2.frame (Below.agree hb hF) fun _ h=>.inl h)⟩) (by rw [fB.1]; exact bF _)
  (.inr ⟨bF _,by simp⟩) (heap_alloc_new w _) (bF _) (by rw [nL]; unfold maxLen; omega)
def W7 {mn:Bool} {xs:List AV} {vs:List Value} (hl:vs.length=xs.length) (hv:∀i,i<xs.length→Rd w F β (xs.getD i .χ) (vs.getD i undef)) (h:JR mn xs k) (ts:Array TypeId) (ty:TypeId) :
  cz P (if mn then alj ts ty vs.toArray else alk ts ty vs.toArray) w F β k:=by
 unfold JR at h;split at h
 ·rename_i kx a ky b;obtain ⟨hb,r,rfl,hk⟩:=cond_prop h;obtain rfl:=RN hb
  match vs,hl with
  | [u,v],_ =>
   have h0:=(hv 0 (by simp)).bL;have h1:=(hv 1 (by simp)).bL;simp at h0 h1;subst h0; subst h1;cases mn with
   | true =>
    refine cz.mk (v:=.int kx (min a b)) ?_ hk (.i (.v (.inl rfl)));simp [alj,Builtin.min2];split <;> congr 2 <;> omega
   | false =>
    refine cz.mk (v:=.int kx (max a b)) ?_ hk (.i (.v (.inl rfl)));simp [alk,Builtin.max2];split <;> congr 2 <;> omega
 ·cases h
def agB {b:Builtin} {ts:List Nat} {xs:List AV} {vs:List Value} (hT:bM P T) (hI:Inv w F β H) (hl:vs.length=xs.length)
  (hv:∀i,i<xs.length→Rd w F β (xs.getD i .χ) (vs.getD i undef)) (h:JP T b ts xs H k) (ty:TypeId) (cs:Array Bool) :
  ua P (builtin b ts.toArray ty cs vs.toArray) w fun v w'=>∃r,k r∧Rd w' (fD F w w') β r v:=by
 unfold JP at h;split at h
 ·rename_i t x
  match vs,hl with
  | [u],_ =>
   exact (agJ hT hI (by simpa using hv 0 (by simp)) h).out
 ·rename_i t
  match vs,hl with
  | [u],_ =>
   have NJ:Rd w F β (.v (.slice none 0 0)) u:=by simpa using hv 0 (by simp)
   cases NJ.bL;split at h
   ·rename_i i hi;split at h
    ·rename_i e he;have hu:=(hT _ _ hi).slice he;exact (cz.mk (s:=alm #[t] ty #[.slice none 0 0]) (by simp [alm,run_underlying hu,goInt]) h (.i (.v (.inl rfl)))).out
    ·cases h
   ·cases h
 ·exact (W7 (mn:=true) hl hv h ts.toArray ty).out
 ·exact (W7 (mn:=false) hl hv h ts.toArray ty).out
 ·cases h
def agD {f:AV} {vf:Value} {xs:List AV} {vs:Array Value} (hI:Inv w F β H) (hf:Rd w F β f vf) (hl:vs.size=xs.length)
  (hv:∀i,i<xs.length→Rd w F β (xs.getD i .χ) (vs.getD i undef)) (h:JQ P f xs H k) :
  ua P (do let d ←l8 vf vs; invoke d.target d.args) w fun v w'=>∃r,k r∧Rd w' (fD F w w') β r v:=by
 unfold JQ at h;split at h
 ·rename_i g fs cs;obtain ⟨r,⟨⟨fn,c,dF,dN,yt⟩,hp⟩,hk⟩:=h;obtain ⟨us,ws,rfl,hs,eu,hu,hw⟩:=hf.nt;refine .inr ⟨g,us++vs++ws,?_,?_⟩
  ·have rk : ¬ fn.name = "runtime.NumGoroutine" := by simpa using dN
   simp [l8,invoke,callFunc,dF,rk,yt]
  ·refine (hp w F β (us++vs++ws) hI ?_ fun i hi=>?_).mono ?_
   ·simp [hs,hl,eu]
   ·simp only [dq] at hi
    have e1:(fs++(xs++cs)).getD i .χ=if i<fs.length then fs.getD i .χ else if i<fs.length+xs.length then xs.getD (i-fs.length) .χ else cs.getD (i-fs.length-xs.length) .χ:=by
     simp only [aY,gC];by_cases h1:i<fs.length
     ·simp [h1]
     ·by_cases h2:i<fs.length+xs.length
      ·simp [h1,h2,show i-fs.length<xs.length by omega]
      ·simp [h1,h2,show ¬i-fs.length<xs.length by omega]
    have e2:(us++vs++ws).getD i undef=if i<fs.length then us.getD i undef else if i<fs.length+xs.length then vs.getD (i-fs.length) undef else ws.getD (i-fs.length-xs.length) undef:=by
     simp only [lf,pP,tQ,hs,hl];by_cases h1:i<fs.length
     ·simp [h1,show i<fs.length+xs.length by omega]
     ·by_cases h2:i<fs.length+xs.length
      ·simp [h1,h2]
      ·simp [h1,h2,Nat.sub_sub]
    rw [e1,e2];by_cases h1:i<fs.length
    ·rw [if_pos h1,if_pos h1]; exact hu i h1
    ·rw [if_neg h1,if_neg h1];by_cases h2:i<fs.length+xs.length
     ·rw [if_pos h2,if_pos h2]; exact hv _ (by omega)
     ·rw [if_neg h2,if_neg h2]; exact hw _ (by omega)
   ·rintro e w' ⟨v,rfl,hb,hr⟩;exact ⟨v,rfl,hb,r,hk,.i hr⟩
 ·cases h
def agA {b:Builtin} {args:Array Operand} {argTypes:Array TypeId} {ρ:Operand→AV} {a:Act} {type:TypeId} (hT:bM P T) (hI:Inv w F β H)
  (mO:∀i,i<(args.toList.map ρ).length→Rd w F β ((args.toList.map ρ).getD i .χ) ((args.map a.eval).getD i undef)) (h:JP T b argTypes.toList (args.toList.map ρ) H k) :
  ua P (do let d ←resolve a.eval { callee:=.builtin b,args:=args,argTypes:=argTypes } type; invoke d.target d.args) w fun v w'=>∃r,k r∧Rd w' (fD F w w') β r v:=by
 have h1:=agB (P:=P) (ts:=argTypes.toList) (vs:=(args.map a.eval).toList) hT hI (by simp) (fun i hi=>by simpa using mO i hi) h type (args.map fun | .const _=>true | _=>false);have e:(do let d ←resolve a.eval { callee:=.builtin b,args:=args,argTypes:=argTypes } type; invoke d.target d.args:Sem Next)=builtin b argTypes type (args.map fun | .const _=>true | _=>false) (args.map a.eval):=rfl;rw [e];exact h1
def agC {f:Operand} {args:Array Operand} {argTypes:Array TypeId} {ρ:Operand→AV} {a:Act} {type:TypeId} (hI:Inv w F β H) (hf:Rd w F β (ρ f) (a.eval f))
  (mO:∀i,i<(args.toList.map ρ).length→Rd w F β ((args.toList.map ρ).getD i .χ) ((args.map a.eval).getD i undef)) (h:JQ P (ρ f) (args.toList.map ρ) H k) :
  ua P (do let d ←resolve a.eval { callee:=.value f,args:=args,argTypes:=argTypes } type; invoke d.target d.args) w fun v w'=>∃r,k r∧Rd w' (fD F w w') β r v:=by
 have e:(do let d ←resolve a.eval { callee:=.value f,args:=args,argTypes:=argTypes } type; invoke d.target d.args:Sem Next)=(do let d ←l8 (a.eval f) (args.map a.eval); invoke d.target d.args):=rfl;rw [e];exact agD hI hf (by simp) mO h
def Jt (ρ:Operand→AV) (e:Operand→Value) (parts:Array (Nat×Operand)):(parts.toList.map fun q=>(q.1,ρ q.2)).length=(parts.map fun x=>(x.1,e x.2)).size:=by simp
def Ju {ρ:Operand→AV} {e:Operand→Value} {parts:Array (Nat×Operand)} (h:∀x,(∃i,(i,x)∈parts)→Rd w F β (ρ x) (e x)) (i:Nat) (hi:i<(parts.toList.map fun q=>(q.1,ρ q.2)).length) :
  ((parts.toList.map fun q=>(q.1,ρ q.2)).getD i (0,.χ)).1=((parts.map fun x=>(x.1,e x.2)).toList.getD i (0,undef)).1 ∧
   Rd w F β ((parts.toList.map fun q=>(q.1,ρ q.2)).getD i (0,.χ)).2 ((parts.map fun x=>(x.1,e x.2)).toList.getD i (0,undef)).2:=by
 simp at hi;have:=h parts[i].2 ⟨parts[i].1,Array.getElem_mem hi⟩;simpa [aY,hi] using this
def BM {x:AV} {u:Value} (h:bf w F x u):bf w F (nz x) u:=by
 unfold nz;split
 ·cases h; exact .s0
 ·exact h
def Vy {z:Array Value} {n q:Nat} (h:q<n):((nj n).map (z[· % z.size]!)).getD q undef=z[q % z.size]! := by simp [h]
def agM {t:Nat} {l c:AV} {vl vc:Value} (hT:bM P T) (hI:Inv w F β H) (hl:Rd w F β l vl) (hc:Rd w F β c vc) (h:Pd T t l c k):cz P (vh t vl vc) w F β k:=by
 unfold Pd at h;split at h
 ·rename_i i kl nl kc nc hi;cases hl.bL; cases hc.bL;split at h
  ·rename_i e he;have hu:=(hT _ _ hi).slice he;split at h
   ·rename_i j hj;obtain ⟨hb,n,m,rfl,rfl,dN,hm,kK,R,rfl,hk⟩:=cond_prop h;simp only [bJ] at hb;obtain ⟨bW,hlen,gU⟩:=hb;have hlen:(bt (cq j.zero)).length=j.cells:=cR hlen;have hz:=oY (nV w F j.zero β) bW
    have iE:j.zero.cells.size=j.cells:=by rw [hz.1,hlen]
    obtain ⟨inf,pf,hzero,eJ,nD⟩:=(hT _ _ hj).info;have qf:IntKind.i64.wrap (n:Int)=(n:Int):=qB _ (by omega);have EG:IntKind.i64.wrap (m:Int)=(m:Int):=qB _ (by omega)
    have hbm:(inf.bytes:Int)*(m:Int)≤140737488355328:=by
     have h5:((m*j.bytes:Nat):Int)=(j.bytes:Int)*(m:Int):=by rw [Int.natCast_mul,Int.mul_comm]
     rw [nD,←h5]; omega
    have a_:(vh t (.int kl (n:Int)) (.int kc (m:Int))).run P w=.ok (.slice (some ⟨w.heap.size,0,none⟩) n m) (w.alloc (.cells ((nj (m*j.cells)).map (j.zero.cells[· % j.zero.cells.size]!)) e)):=by
     have h1:¬((m:Int)<0):=by omega
     have h2:¬(281474976710656<(inf.bytes:Int)*(m:Int)):=by omega
     have h3:¬((n:Int)<0):=by omega
     have h4:¬((m:Int)<(n:Int)):=by omega
     by_cases h0:m*j.cells=0
     ·have c_:nj (m*j.cells)=#[]:=by rw [h0]; exact tM (by simp)
      simp [vh,run_underlying hu,asInt,asIntOf,typeInfo,pf,qf,EG,h1,h2,h3,h4,sizeOf,eJ,h0,newRow];rw [h0] at c_;simp [c_]
     ·simp [vh,run_underlying hu,asInt,asIntOf,typeInfo,pf,qf,EG,h1,h2,h3,h4,sizeOf,eJ,h0,newRow,zeroValue,hzero]
    let w':=w.alloc (.cells ((nj (m*j.cells)).map (j.zero.cells[· % j.zero.cells.size]!)) e);have Ic:=vE w (.cells ((nj (m*j.cells)).map (j.zero.cells[· % j.zero.cells.size]!)) e)
    have M4:w'.heap[w.heap.size]?=some (.cells ((nj (m*j.cells)).map (j.zero.cells[· % j.zero.cells.size]!)) e (0,0)):=by
     show (w.heap.push _)[w.heap.size]?=_;exact Array.getElem?_push_size
    refine ⟨_,_,_,a_,Ic,hk,.i ?_⟩;have:=bf.s (w:=w') (F:=fD F w w') (rows:=ic n ((bt (cq j.zero)).map nz)) (b:=w.heap.size) (off:=0) (c:=m) (k:=j.cells) (u:=fun q z=>((nj (m*j.cells)).map (j.zero.cells[· % j.zero.cells.size]!)).getD (q*j.cells+z) undef)
     (.inr ⟨bF _,by simp [w']⟩) (by simpa using dN) (by unfold maxLen; omega) (fun q hq=>by simp at hq; simp [aY,hq,hlen]) (fun q z hq iS=>?_) (fun q z hq iS=>?_) (fun q z hq iS=>?_)
    ·simpa using this
    all_goals
     simp only [List.length_replicate] at hq
     have Φ:q*j.cells+z<m*j.cells:=by
      calc q*j.cells+z<q*j.cells+j.cells:=by omega
       _=(q+1)*j.cells:=by rw [bO]; omega
       _≤m*j.cells:=cI _ (by omega)
    ·rw [cell_of_row _ _ _ _ _ _ M4,jF];simp [Φ]
    all_goals
     rw [Vy Φ,iE]
     have e1:(q*j.cells+z) % j.cells=z:=by rw [Nat.mul_comm,Nat.mul_add_mod]; exact Nat.mod_eq_of_lt iS
     rw [e1];have h2:=hz.2 z (by omega)
     have e2:j.zero.cells[z]! = j.zero.cells.getD z undef:=by
      have:z<j.zero.cells.size:=by omega
      simp [this]
     rw [e2]
    ·exact h2.1
    ·have e3:((ic n ((bt (cq j.zero)).map nz)).getD q []).getD z .χ=nz ((bt (cq j.zero)).getD z .χ):=by
      have zh:z<(bt (cq j.zero)).length:=by omega
      simp [aY,hq,zh]
     rw [e3];refine (BM (nQ (ej.1 gU _ ?_) h2.2)).frame (Below.agree Ic hI.cC) fun _ h=>.inl h;rw [fU,bT (show z<(bt (cq j.zero)).length by omega)]; exact eG _
   ·cases h
  ·cases h
 ·cases h
def Kj {o:Oper} {ρ:Operand→AV} {a:Act} (hT:bM P T) (hI:Inv w F β H) (bI:∀x,x∈o.op.operands→Rd w F β (ρ x) (a.eval x))
  (h:mZ P T o ρ H k):ua P (execOp a.eval o) w fun v w'=>∃r,k r∧Rd w' (fD F w w') β r v:=by
 obtain ⟨dst,op,type,pos,after,guard⟩:=o;cases op <;> simp only [mZ] at h <;> simp only [Op.operands] at bI <;> simp only [execOp]
 case move x=>exact .inl ⟨_,w,rfl,Below.refl _ _,_,h,(bI x (by simp)).here⟩
 case assign x=>exact .inl ⟨_,w,rfl,Below.refl _ _,_,h,(bI x (by simp)).here⟩
 case pick c x y=>exact agO (bI c (by simp)) (bI x (by simp)) (bI y (by simp)) h
 case extract t i=>exact (agF (bI t (by simp)) h).out
 case unOp op t x=>exact (agR (bI x (by simp)) h).out
 case binOp op t x y t'=>exact (agx hT (bI x (by simp)) (bI y (by simp)) x y h).out
 case convert s d x=>exact (agE hT (bI x (by simp)) h).out
 case fieldAddr t x f=>exact (agG hT (bI x (by simp)) h).out
 case load t x=>exact (agK hT hI (bI x (by simp)) h).out
 case indexAddr t x i=>exact (agH hT hI (bI x (by simp)) (bI i (by simp)) h).out
 case lookup t x i c=>exact (agL hT hI (bI x (by simp)) (bI i (by simp)) h).out
 case index t x i=>exact (agI hT (bI x (by simp)) (bI i (by simp)) h).out
 case slice t x lo hi mx =>
  cases mx with
  | some m =>
   cases lo with
   | some l=>unfold FA at h; split at h <;> first | exact h.elim | simp_all
   | none=>cases hi with
    | none=>unfold FA at h; split at h <;> first | exact h.elim | simp_all
    | some l=>exact (agP hT (bI x (by simp)) (bI l (by simp)) (bI m (by simp)) h).out
  | none =>
   refine (agQ (vlo:=lo.map a.eval) (vhi:=hi.map a.eval) hT (bI x (by simp)) ?_ ?_ hI h).out
   ·cases lo with
    | none=>exact True.intro
    | some l=>exact bI l (by simp)
   ·cases hi with
    | none=>exact True.intro
    | some l=>exact bI l (by simp)
 case build t parts =>
  exact (agz hT (Jt ρ a.eval parts) (Ju fun x hx=>bI x (by simpa using hx)) h).out
 case buildSlice t n parts =>
  exact (agy hT hI (Jt ρ a.eval parts) (Ju fun x hx=>bI x (by simpa using hx)) h).out
 case makeFunc fn fs cs =>
  refine .inl ⟨_,w,rfl,Below.refl _ _,_,h,?_⟩;refine .c (by simp) (by simp) (fun i hi=>?_) fun i hi=>?_
  ·simp at hi;have:=bI (fs[i]) (by simp);simpa [aY,hi] using this.here
  ·simp at hi;have:=bI (cs[i]) (by simp);simpa [aY,hi] using this.here
 case nilCheck x =>
  obtain ⟨⟨r,hk,hr⟩,hs⟩:=agN (bI x (by simp)) h;generalize a.eval x=vx at hr hs ⊢
  rcases hs with ⟨a,rfl⟩ | ⟨g,fs,cs,rfl⟩
  iterate 2 exact .inl ⟨_,w,rfl,Below.refl _ _,_,hk,hr.here⟩
 case makeSlice t l c=>exact (agM hT hI (bI l (by simp)) (bI c (by simp)) h).out
 case call c =>
  obtain ⟨callee,args,argTypes⟩:=c
  have mO:∀i,i<(args.toList.map ρ).length→Rd w F β ((args.toList.map ρ).getD i .χ) ((args.map a.eval).getD i undef):=fun i hi=>by
   simp at hi;have:=bI args[i] (by simp [Call.operands]);simpa [aY,hi] using this
  cases callee with
  | builtin b=>exact agA hT hI mO h
  | value f=>exact agC hI (bI f (by simp [Call.operands])) mO h
  | invoke r m=>cases h
 all_goals cases h
end
end
section
open Go.RowKit
variable [M:bK] [G:cL]
def sb (z:AV):Nat→Nat→AV→AV
 | n,id,x=>match x with
  | .b i o=>bif aH i id then .χ else .b i o
  | .o i=>bif aH i id then z else .o i
  | .e i K m j=>bif aH i id then .χ else .e i K m j
  | .w i K d=>bif aH i id then .χ else .w i K d
  | .m i=>bif aH i id then .χ else .m i
  | .a cs=>match n with
   | 0=>.χ
   | n+1=>.a (cs.map (sb z n id))
  | .t cs=>match n with
   | 0=>.χ
   | n+1=>.t (cs.map (sb z n id))
  | .c fn fs cs=>match n with
   | 0=>.χ
   | n+1=>.c fn (fs.map (sb z n id)) (cs.map (sb z n id))
  | .v x=>.v x
  | .s r=>.s r
  | .p c=>.p c
  | .z=>.z
  | .χ=>.χ
abbrev er (n id:Nat) (x:AV):AV:=sb .χ n id x
def o_ (id:Nat):Chunk→Chunk
 | .box cells=>.box (cells.map (er 1 id))
 | .own E k rows=>.own E k rows
 | .mp ag rows=>.mp ag rows
 | .lp l e R L=>.lp l e R (L.map fun p=>(p.1,er 2 id p.2))
 | .si s pos=>.si s pos
def gR (id:Nat):Hp→Hp
 | []=>[]
 | (i,c)::r=>bif aH i id then gR id r else (i,o_ id c)::gR id r
def dW (f:Nat→AV) (d:Nat) (x:AV):Nat→AV:=fun t=>bif aH t d then x else f t
section
variable {w:World} {F:Nat→Prop} {β av:Nat→Value}
def HH {id i:Nat} {x:AV} {u:Value} (h:i≠id→Rd w F av x u):Rd w F av (bif aH i id then .χ else x) u:=by
 cases hb:aH i id with
 | true=>exact .χ
 | false=>exact h fun e=>by rw [e,iX] at hb; cases hb
def agU {z:AV} {id i:Nat} {x:AV} {u:Value} (hz:i=id→Rd w F av z u) (h:i≠id→Rd w F av x u):Rd w F av (bif aH i id then z else x) u:=by
 cases hb:aH i id with
 | true=>exact hz (cR hb)
 | false=>exact h fun e=>by rw [e,iX] at hb; cases hb
def rH {z:AV} {id:Nat} (hz:∀u,Rd w F β (.o id) u→Rd w F av z u) (ah:∀i,i≠id→av i=β i):∀(n:Nat) {x:AV} {u:Value},Rd w F β x u→Rd w F av (sb z n id x) u:=by
 have RM:∀{i o:Nat} {u:Value},Rd w F β (.b i o) u→Rd w F av (bif aH i id then .χ else .b i o) u:=fun h=>HH fun hi=>by
  obtain ⟨eV,h1,rfl⟩:=h.mz; exact .b ((ah _ hi).trans h1)
 have VM:∀{i:Nat} {u:Value},Rd w F β (.o i) u→Rd w F av (bif aH i id then z else .o i) u:=fun h=>agU (fun e=>hz _ (e▸h)) fun hi=>by
  obtain ⟨a,n,c,h1,rfl⟩:=h.jW; exact .o ((ah _ hi).trans h1)
 have Sw:∀{i K m j:Nat} {u:Value},Rd w F β (.e i K m j) u→Rd w F av (bif aH i id then .χ else .e i K m j) u:=fun h=>HH fun hi=>by
  obtain ⟨g,n,c,h1,rfl⟩:=h.AM; exact .e ((ah _ hi).trans h1)
 have Vx:∀{i:Nat} {u:Value},Rd w F β (.m i) u→Rd w F av (bif aH i id then .χ else .m i) u:=fun h=>HH fun hi=>by
  obtain ⟨b,h1,rfl⟩:=h.zr; exact .m ((ah _ hi).trans h1)
 have X_:∀{i K d:Nat} {u:Value},Rd w F β (.w i K d) u→Rd w F av (bif aH i id then .χ else .w i K d) u:=fun h=>HH fun hi=>by
  obtain ⟨a,a',n,c,h1,h2,h3,rfl⟩:=h.xc; exact .w ((ah _ hi).trans h1) h2 h3
 have X5:∀{x u:Value},Rd w F β (.v x) u→Rd w F av (.v x) u:=fun h=>by cases h; exact .i (by assumption)
 intro n;induction n with
 | zero =>
  intro x u h;cases x with
  | v x=>exact X5 h
  | s r=>exact .i h.oN
  | p c=>exact .i h.BQ
  | χ=>exact .χ
  | a cs=>exact .χ
  | t cs=>exact .χ
  | c fn fs cs=>exact .χ
  | b i o=>exact RM h
  | o i=>exact VM h
  | e i K m j=>exact Sw h
  | w i K d=>exact X_ h
  | m i=>exact Vx h
  | z=>obtain ⟨a,rfl⟩:=h.Ah; exact .i .z
 | succ n ih =>
  have get:∀(l:List AV) (i:Nat),i<l.length→(l.map (sb z n id)).getD i .χ=sb z n id (l.getD i .χ):=fun l i hi=>by simp [aY,hi]
  intro x u h;cases x with
  | v x=>exact X5 h
  | s r=>exact .i h.oN
  | p c=>exact .i h.BQ
  | χ=>exact .χ
  | a cs =>
   show Rd w F av (.a (cs.map (sb z n id))) u;obtain ⟨us,rfl,hs,h1,hr⟩:=h.qM;refine .a (by simpa using hs) (fun i hi=>h1 i (by simpa using hi)) fun i hi=>?_
   have hi:i<cs.length:=by simpa using hi
   rw [get cs i hi]; exact ih (hr i hi)
  | t cs =>
   show Rd w F av (.t (cs.map (sb z n id))) u;obtain ⟨us,rfl,hs,hr⟩:=h.Ct;refine .t (by simpa using hs) fun i hi=>?_
   have hi:i<cs.length:=by simpa using hi
   rw [get cs i hi]; exact ih (hr i hi)
  | c fn fs cs =>
   show Rd w F av (.c fn (fs.map (sb z n id)) (cs.map (sb z n id))) u;obtain ⟨us,vs,rfl,hs,eu,hr,cK⟩:=h.nt;refine .c (by simpa using hs) (by simpa using eu) (fun i hi=>?_) fun i hi=>?_
   ·have hi:i<fs.length:=by simpa using hi
    rw [get fs i hi]; exact ih (hr i hi)
   ·have hi:i<cs.length:=by simpa using hi
    rw [get cs i hi]; exact ih (cK i hi)
  | b i o=>exact RM h
  | o i=>exact VM h
  | e i K m j=>exact Sw h
  | w i K d=>exact X_ h
  | m i=>exact Vx h
  | z=>obtain ⟨a,rfl⟩:=h.Ah; exact .i .z
def sx {id:Nat} (ah:∀i,i≠id→av i=β i) (n:Nat) {x:AV} {u:Value} (h:Rd w F β x u):Rd w F av (er n id x) u:=rH (fun _ _=>.χ) ah n h
def im {id:Nat}:∀{H:Hp} {i:Nat} {c:Chunk},(i,c)∈gR id H→i≠id∧∃c',(i,c')∈H∧c=o_ id c'
 | [],_,_,h=>by cases h
 | (j,c')::r,i,c,h=>by
  simp only [gR] at h;cases hb:aH j id with
  | true =>
   rw [hb] at h;obtain ⟨h1,c2,h2,h3⟩:=im (H:=r) h;exact ⟨h1,c2,cr _ h2,h3⟩
  | false =>
   rw [hb] at h;simp only [cond_false,bj,Prod.mk.injEq] at h
   rcases h with ⟨rfl,rfl⟩ | h
   ·exact ⟨fun e=>(by rw [e,iX] at hb; cases hb),c',by simp,rfl⟩
   ·obtain ⟨h1,c2,h2,h3⟩:=im (H:=r) h;exact ⟨h1,c2,cr _ h2,h3⟩
def DB {id:Nat}:∀{H:Hp},(H.map (·.1)).Nodup→((gR id H).map (·.1)).Nodup
 | [],_=>by simp [gR]
 | (j,c)::r,h=>by
  simp only [jD,iv] at h;simp only [gR];cases hb:aH j id with
  | true=>exact DB h.2
  | false =>
   simp only [cond_false,jD,iv];refine ⟨fun hm=>?_,DB h.2⟩;obtain ⟨x,hx,lE⟩:=dg.1 hm;obtain ⟨i,c'⟩:=x;obtain ⟨_,c2,h2,_⟩:=im hx;exact h.1 (dg.2 ⟨(i,c2),h2,lE⟩)
def Iz {id i:Nat} {c:Chunk} (hi:i≠id) (ah:∀i,i≠id→av i=β i) (h:c.holds w F β i):(o_ id c).holds w F av i:=by
 cases c with
 | box cells =>
  obtain ⟨b,cs,e,hb,hh,hs,h1,hr⟩:=h;refine ⟨b,cs,e,(ah i hi).trans hb,hh,by simpa using hs,fun j hj=>h1 j (by simpa using hj),fun j hj=>?_⟩
  have hj:j<cells.length:=by simpa using hj
  have:(cells.map (er 1 id)).getD j .χ=er 1 id (cells.getD j .χ):=by simp [aY,hj]
  rw [this];exact sx ah 1 (hr j hj)
 | own E k rows =>
  unfold o_ Chunk.holds at *;rw [ah i hi];exact h
 | mp ag rows =>
  unfold o_ Chunk.holds at *;rw [ah i hi];exact h
 | si s pos =>
  unfold o_ Chunk.holds at *;rw [ah i hi];exact h
 | lp l e R L =>
  obtain ⟨fn,tmps,D,hb,hh,hn,hr⟩:=h;refine ⟨fn,tmps,D,(ah i hi).trans hb,hh,hn,fun p hp=>?_⟩;obtain ⟨q,hq,rfl⟩:=dg.1 hp;exact sx ah 2 (hr q hq)
def pz {w':World} {F':Nat→Prop} {i:Nat} {c:Chunk} (ha:fZ F w w') (hF:∀b,F b→F' b) (hb:∀b,bQ (β i)=some b→w'.heap[b]?=w.heap[b]?) (h:c.holds w F β i):c.holds w' F' β i:=by
 cases c with
 | box cells =>
  obtain ⟨b,cs,e,ah,hh,hs,h1,hr⟩:=h;exact ⟨b,cs,e,ah,by rw [hb b (by rw [ah]; rfl)]; exact hh,hs,h1,fun j hj=>(hr j hj).frame ha hF⟩
 | mp ag rows =>
  obtain ⟨b,es,ck,ah,hh,bU,hs,hm,hr⟩:=h;refine ⟨b,es,ck,ah,by rw [hb b (by rw [ah]; rfl)]; exact hh,bU,hs,hm,fun i r hi=>?_⟩;obtain ⟨e,h1,h2,h3,h4⟩:=hr i r hi;exact ⟨e,h1,h2,h3,h4.frame ha hF⟩
 | lp l e R L =>
  obtain ⟨fn,tmps,D,ah,hh,hn,hr⟩:=h;exact ⟨fn,tmps,D,ah,by rw [hb l (by rw [ah]; rfl)]; exact hh,hn,fun p hp=>(hr p hp).frame ha hF⟩
 | si s pos =>
  obtain ⟨b,ah,hh⟩:=h;exact ⟨b,ah,by rw [hb b (by rw [ah]; rfl)]; exact hh⟩
 | own E k rows =>
  rcases h with h | ⟨g,cap,cur,hv,hc,hg,hn,hm,hs,hk,hr⟩
  ·exact .inl h
  ·have h0:aH cap 0=false:=by cases cap <;> first | rfl | omega
   refine .inr ⟨g,cap,cur,hv,hc,by rw [hb g (by rw [hv]; simp [bQ,h0])]; exact hg,hn,hm,hs,hk,fun i j hi hj=>⟨(hr i j hi hj).1,(hr i j hi hj).2.frame ha hF⟩⟩
def vQ {st:ae} {w':World} (hI:Inv w F β st.H) (hb:Below w.heap.size w w'):Ext w F β st w' (fD F w w') β st where
 os:=hb.os
 tape:=hb.tape
 output:=hb.output
 size:=hb.size
 block _ h _:=hb.block _ h
 mono _ h:=.inl h
 new _ h:=h.elim .inl fun h=>.inr (.inl h.1)
 owned _ h:=.inr h
 keep _ _ h:=h.later hb hI.cC
 inv:={
  cC:=fun b h=>h.elim (fun h=>oe (hI.cC b h) hb.size) fun h=>h.2
  holds:=fun id c hm=>pz (Below.agree hb hI.cC) (fun _ h=>.inl h) (fun b kJ=>hb.block b (hI.fI ⟨id,c,hm,kJ⟩)) (hI.holds id c hm)
  keys:=hI.keys
  apart:=fun b ho h=>h.elim (hI.apart b ho) fun h=>absurd (hI.fI ho) (mg.2 h.1)
  eA:=hI.eA
  fh:=hI.fh.frame (Below.agree hb hI.cC) fun _ h=>.inl h }
 gp _ _:=rfl
def p6 {st:ae} {w':World} {d:Nat} {c:Chunk} {v:Value} (hd:d<1000) (hI:Inv w F β st.H) (uF:w'.os=w.os) (NG:jm w w') (sQ:w'.output=w.output) (eJ:w.heap.size≤w'.heap.size)
  (A1:∀b,b<w.heap.size→¬bD β st.H b→w'.heap[b]?=w.heap[b]?)
  (acs:∀i c' b,i≠d→(i,c')∈st.H→bQ (β i)=some b→w'.heap[b]?=w.heap[b]?)
  (eP:∀b,bQ v=some b→w.heap.size≤b∨∃c',(d,c')∈st.H∧bQ (β d)=some b)
  (hc:c.holds w' F (fun i=>if i=d then v else β i) d) :
  Ext w F β st w' F (fun i=>if i=d then v else β i) ⟨fun t=>er 2 d (st.f t),(d,c)::gR d st.H⟩:=by
 have ah:∀i,i≠d→(fun i=>if i=d then v else β i) i=β i:=fun i hi=>if_neg hi;have ha:fZ F w w':=fun b hb=>A1 b (hI.cC b hb) fun ho=>hI.apart b ho hb
 have du:∀b,bD (fun i=>if i=d then v else β i) ((d,c)::gR d st.H) b→w.heap.size≤b∨bD β st.H b:=by
  rintro b ⟨i,c',hm,hb⟩
  rcases bj.1 hm with hm | hm
  ·cases hm;simp only [if_true] at hb
   rcases eP b hb with h | ⟨c',h1,h2⟩
   ·exact .inl h
   ·exact .inr ⟨d,c',h1,h2⟩
  ·obtain ⟨hi,c2,h2,_⟩:=im hm;simp only [if_neg hi] at hb;exact .inr ⟨i,c2,h2,hb⟩
 refine ⟨uF,NG,sQ,eJ,A1,fun _ h=>h,fun _ h=>.inl h,du,fun t u h=>sx ah 2 (h.frame ha fun _ h=>h),?_,fun i hi=>ah i (by omega)⟩;refine ⟨fun b hb=>oe (hI.cC b hb) eJ,?_,?_,?_,?_,hI.fh.at ha⟩
 ·intro i c' hm
  rcases bj.1 hm with hm | hm
  ·cases hm; exact hc
  ·obtain ⟨hi,c2,h2,rfl⟩:=im hm;exact Iz hi ah (pz ha (fun _ h=>h) (fun b hb=>acs i c2 b hi h2 hb) (hI.holds i c2 h2))
 ·simp only [jD,iv];refine ⟨fun hm=>?_,DB hI.keys⟩;obtain ⟨x,hx,lE⟩:=dg.1 hm;obtain ⟨i,c'⟩:=x;exact (im hx).1 lE
 ·intro b ho hF
  rcases du b ho with h | h
  ·exact absurd (hI.cC b hF) (mg.2 h)
  ·exact hI.apart b h hF
 ·have key:∀i c' b,(i,c')∈gR d st.H→bQ (β i)=some b→bQ v=some b→False:=by
   intro i c' b hm hb hv;obtain ⟨hi,c2,h2,_⟩:=im hm
   rcases eP b hv with h | ⟨c3,h3,h4⟩
   ·exact absurd (hI.fI ⟨i,c2,h2,hb⟩) (mg.2 h)
   ·exact hi (hI.eA i c2 d c3 b h2 h3 hb h4)
  intro i c1 i' pY b hm bV hb aK
  rcases bj.1 hm with hm | hm <;> rcases bj.1 bV with bV | bV
  ·cases hm; cases bV; rfl
  ·cases hm;simp only [if_true] at hb;have bm:=(im bV).1;simp only [if_neg bm] at aK;exact (key i' pY b bV aK hb).elim
  ·cases bV;simp only [if_true] at aK;have hi:=(im hm).1;simp only [if_neg hi] at hb;exact (key i c1 b hm hb aK).elim
  ·obtain ⟨hi,c2,h2,_⟩:=im hm;obtain ⟨bm,AA,iy,_⟩:=im bV;simp only [if_neg hi] at hb;simp only [if_neg bm] at aK;exact hI.eA i c2 i' AA b h2 iy hb aK
end
end
end Go.Cat
