/- The logic that the walks are in, piece P7. No condition. -/
import Derived.Test.YtdcgbodbejgliaaGreatDoorXTopClientsCatP6
import Derived.RecoverIn
import Derived.Test.YtdcgbodbejgliaaGreatDoorXTopClientsCatP5
import Derived.Test.YtdcgbodbejgliaaGreatDoorXTopClientsCatP4
import Derived.Shelf.Spec.SlicesInsertGrow
import Derived.Shelf.SlLaysE
import Derived.Lib.SlicesDelete
import Derived.Deep.RegionLaw
import Derived.Laws.CopyRow
import Derived.KernelRfl
open Array renaming getElem?_eq_getElem → gv, getElem?_eq_some_iff → lj, getD_eq_getD_getElem? → lh, length_toList → lJ, getElem?_push → na, getElem?_modify → pW, replicate → oc, getElem?_append → pV, size_append → uf
open Bool renaming and_eq_true → bE, or_eq_true → ug
open ByteArray renaming mk → lK
open Classical renaming byContradiction → xo
open Go renaming sizeOf → sr
open Go.Act renaming put → iL, eval → Aw
open Go.Addr renaming add_lit → gg
open Go.Builtin renaming zeroCells → dB, append_ → ib, copy_ → qM, firstCells → xn, clear_ → vz
open Go.Deferred renaming ofValue → l8
open Go.Extern.SlicesOverlaps renaming overlaps → sm
open Go.Fence renaming wide → gh
open Go.Instr renaming makeInterface → Zj
open Go.IntKind renaming wrap_i64 → Zm, i64 → K_
open Go.Lib renaming wpList_append_run → La
open Go.Oper renaming uponIn_value → xy, uponIn_enter → AE, uponIn_panic → ZI
open Go.Region renaming wanted → dU, binds → jM, ready → lQ
open Go.Region.linearise renaming go → Ll
open Go.Src renaming ofSlice → Q9
open Go.TypeDesc renaming tuple → ZP, slice → ZO, bool → ZM, int → ZN
open Go.Value renaming slice → Rx, bool → Dl
open Go.World renaming putObj_size → j4, putObj_heap_other → p5, alloc → lR, cell? → vK, setRow → xz, frozen? → alI
open Int renaming toNat_natCast → gP
open List renaming getElem?_eq_getElem → bU, mem_cons_of_mem → cu, mem_cons → bf, getD → aV, map → aT, length_append → dj, getElem?_eq_some_iff → fh, getD_eq_getElem?_getD → fW, mem_singleton → dC, length_take → dR, all_eq_true → ej, getElem_mem → eI, not_mem_nil → eJ, getElem?_take → gk, getElem?_append → gG, replicate → ij, mem_append → gl, getElem?_drop → js, nodup_cons → iw, size_toArray → ll, mem_filterMap → ma, append_assoc → lN, mem_range → mc, nodup_nil → qS, eq_nil_iff_forall_not_mem → AA, mem_append_right → vE, nil_append → alH, getElem_of_mem → Rn, filterMap_cons → Rk
open Nat renaming mul_le_mul_right → cG, beq → aH, le_refl → bG, add_mul → bP, le_trans → fi, blt_eq → gH, le_succ → j2, div_lt_iff_lt_mul → qU, lt_of_lt_of_le → oe, add_zero → lO, min_eq_left → xw, le_of_ble_eq_true → AD, strongRecOn → uk, ble → p0, mod_lt → sy, min → p4, div_add_mod → Rq, ne_of_lt → Li, mul_pos → Rs
open Option renaming bind_some → cD
open Prod.mk renaming injEq → il
namespace Go.Cat
set_option linter.all false
section
open Go.RowKit
variable [M:bM] [G:cK] [R:dK]
abbrev jI (E:TypeId) (n:Int):List PanicEntry:=[{ v:=.iface E (.int .i64 n),recovered:=false }]
def fP (P:Program) (E:TypeId) (g:FuncId) (args:List AV) (st:ae) (k:AV→ae→Prop) (kx:Int→ae→Prop):Prop :=
 p6 P g∧∀(w:World) (F:Nat→Prop) (β:Nat→Value) (vs:Array Value),Inv w F β st.H→vs.size=args.length →
  (∀i,i<args.length→Rd w F β (args.getD i .χ) (vs.getD i undef)) →
  Calls P g vs w fun e w'=>(∃v,e=.returned v∧∃r aq F' av,k r aq∧Rd w' F' av r v∧Ext w F β st w' F' av aq) ∨
   ∃n,e=.panicked (jI E n)∧∃aq F' av,kx n aq∧Ext w F β st w' F' av aq
def Mc (P:Program) (E:TypeId) (f:AV) (xs:List AV) (st:ae) (k:AV→ae→Prop) (kx:Int→ae→Prop):Prop :=
 match f with
 |.c (.func g) fs cs=>fP P E g (fs++(xs++cs)) st k kx
 |_=>False
def xd (P:Program) (T:TT) (E:TypeId) (o:Oper) (st:ae) (k:AV→ae→Prop) (kx:Int→ae→Prop):Prop :=
 match o.op with
 |.call c=>match c.callee with
  |.value f=>Mc P E (ev st.f f) (c.args.toList.map (ev st.f)) st k kx
  |_=>False
 |.makeInterface t x=>match ev st.f x,T t with
  |.v (.int .i64 n),some i=>match i.kind with
   |.int .i64=>k (.v (.iface t (.int .i64 n))) st
   |_=>False
  |_,_=>False
 |.panic x=>match ev st.f x with
  |.v (.iface t (.int .i64 n))=>t=E∧kx n st
  |_=>False
 |_=>False
def KF (P:Program) (T:TT) (E:TypeId) (o:Oper) (st:ae) (k:AV→ae→Prop) (kx:Int→ae→Prop):Prop :=
 step P T o st k∨xd P T E o st k kx
def GO (P:Program) (T:TT) (E:TypeId) (n:Nat) (all:Array Oper):List Oper→ae→(ae→Prop)→(Int→ae→Prop)→Prop
 |[],st,K,_=>K st
 |o::os,st,K,KX=>gd n all o st (fun st=>KF P T E o st (fun r aq=>put n o.dst aq r fun fO=>GO P T E n all os fO K KX) KX) fun st=>put n o.dst st (.v undef) fun aq=>GO P T E n all os aq K KX
section
variable {P:Program} {T:TT} {E:TypeId} {C:Ctx} {w:World} {F:Nat→Prop} {β:Nat→Value}
def RB (P:Program) (E:TypeId) (s:Sem Next) (w:World) (F:Nat→Prop) (β:Nat→Value) (st:ae) (k:AV→ae→Prop) (kx:Int→ae→Prop):Prop :=
 (∃v w',s.run P w=.ok (.value v) w'∧EPost w F β st k v w')∨(∃n,s.run P w=.halt (.panic (.iface E (.int .i64 n))) w∧kx n st) ∨
 (∃g vs,s.run P w=.ok (.enter g vs) w∧Calls P g vs w fun e w'=>(∃v,e=.returned v∧EPost w F β st k v w')∨∃n,e=.panicked (jI E n)∧∃aq F' av,kx n aq∧Ext w F β st w' F' av aq)
def Z_ {f:Nat→AV} {a:Act} (hf:∀t,Rd w F β (f t) (a.tmps.getD t undef)) (args:Array Operand):∀i,i<(args.toList.map (ev f)).length→Rd w F β ((args.toList.map (ev f)).getD i .χ) ((args.map a.eval).getD i undef):=by
 intro i hi
 have hi:i<args.size:=by simpa using hi
 have:=A2 hf args[i];simpa [aV,hi] using this
def ahX {o:Oper} {a:Act} {st:ae} {k:AV→ae→Prop} {kx:Int→ae→Prop} (hT:bO P T) (hI:Inv w F β st.H) (hf:∀t,Rd w F β (st.f t) (a.tmps.getD t undef)) (h:xd P T E o st k kx):RB P E (execOp a.eval o) w F β st k kx:=by
 obtain ⟨dst,op,type,pos,after,guard⟩:=o
 cases op<;>simp only [xd] at h<;>first|exact h.elim|skip
 case call c =>
  obtain ⟨callee,args,argTypes⟩:=c
  cases callee<;>simp only at h<;>first|exact h.elim|skip
  rename_i f;unfold Mc at h;split at h
  ·rename_i g fs cs lA;have s5:=A2 hf f;rw [lA] at s5;obtain ⟨us,ws,Nh,hs,ew,hu,hw⟩:=s5.nt;obtain ⟨⟨fn,code,dE,dN,hb⟩,h⟩:=h
   have rG : ¬ fn.name = "runtime.NumGoroutine" := by simpa using dN
   refine .inr (.inr ⟨g,us++args.map a.eval++ws,?_,?_⟩)
   ·have e:execOp a.eval { dst,op:=.call { callee:=.value f,args,argTypes },type,pos,after,guard }=(do let d ←l8 (a.eval f) (args.map a.eval);invoke d.target d.args):=rfl;rw [e,Nh];simp [l8,invoke,callFunc,dE,rG,hb]
   ·have hl:(args.map a.eval).size=(args.toList.map (ev st.f)).length:=by simp
    exact h w F β _ hI (by simp [hs,ew]) (Hs hs hl ew hu (Z_ hf args) hw)
  ·exact h.elim
 case makeInterface t x =>
  split at h
  ·rename_i n i hx hi;split at h
   ·rename_i hk;have nO:=A2 hf x;rw [hx] at nO;refine .inl ⟨.iface t (.int .i64 n),w,?_,?_⟩
    ·simp only [execOp];rw [nO.bN];have:=(hT _ _ hi).int hk;simp [Zj,run_underlying this]
    ·exact ⟨_,st,F,β,h,.i (.v (.inl rfl)),Ext.refl hI⟩
   ·exact h.elim
  ·exact h.elim
 case panic x =>
  split at h
  ·rename_i t n hx;obtain ⟨rfl,h⟩:=h;have nO:=A2 hf x;rw [hx] at nO;refine .inr (.inl ⟨n,?_,h⟩);simp only [execOp];rw [nO.bN];simp [run_panic_iface]
  ·exact h.elim
def XR {o:Oper} {st:ae} {k:AV→ae→Prop} {kx:Int→ae→Prop} (h:xd P T E o st k kx):∀c,o.op≠.defer c:=fun c e=>by
 unfold xd at h;rw [e] at h;exact h
def akk {n:Nat} {all:Array Oper} {o:Oper} {i:Nat} {st:ae} {K:ae→Prop} {KX:Int→ae→Prop} {a:Act} {w:World} {Q:Exit→Act→World→Prop} {N:Act→World→Prop} (hT:bO P T) (hn:C.n=n) (ho:all[i]?=some o) (hr:Rel C st a w)
  (hN:∀st a w,Rel C st a w→K st→N a w) (hQ:∀m st a w,Rel C st a w→KX m st→Q (.panic (jI E m)) a w)
  (h:gd n all o st (fun st=>KF P T E o st (fun r aq=>put n o.dst aq r K) KX) fun st=>put n o.dst st (.v undef) K):wpOpIn (fQ C.ro) 0 P all Q i N a w:=by
 obtain ⟨F,β,hs,hd,hf,he⟩:=hr
 have run:∀st:ae,(∀t,Rd w F β (st.f t) (a.tmps.getD t undef))→XM C a.defers w F β st.H→(xd P T E o st (fun r aq=>put n o.dst aq r K) KX)→o.wpIn (fQ C.ro) 0 P a w N Q:=by
  intro st hf he h;have dJ:=XR h
  rcases ahX hT he.inv hf h with ⟨v,w',aY,r,aq,F',av,hk,hv,hx⟩|⟨m,aY,hk⟩|⟨g,vs,aY,hc⟩
  ·refine Oper.kj dJ aY ?_;rw [xy];obtain ⟨fO,h1,h2⟩:=zN hn hs hd (fun t=>hx.keep t _ (hf t)) (he.trans (hx.vn aF)) hv hk;exact hN _ _ _ h1 h2
  ·refine Oper.kj dJ aY ?_;rw [ZI];exact hQ m st a w ⟨F,β,hs,hd,hf,he⟩ hk
  ·refine Oper.kj dJ aY ?_;rw [AE];refine ⟨fun h=>(by cases h),vV (hc.mono ?_)⟩;rintro e w' (⟨v,rfl,r,aq,F',av,hk,hv,hx⟩|⟨m,rfl,aq,F',av,hk,hx⟩)
   ·obtain ⟨fO,h1,h2⟩:=zN hn hs hd (fun t=>hx.keep t _ (hf t)) (he.trans (hx.vn aF)) hv hk;exact hN _ _ _ h1 h2
   ·exact hQ m aq a w' ⟨F',av,hs,hd,fun t=>hx.keep t _ (hf t),he.trans (hx.vn aF)⟩ hk
 by_cases hg:o.guard=none
 ·rw [sR,hg] at h;simp only at h
  rcases h with h|h
  ·refine vv (K:=K) hT hn ho ⟨F,β,hs,hd,hf,he⟩ hN ?_;rw [sR,hg];exact h
  ·unfold wpOpIn;simp only [ho]
   have hw:dU o (yielded all a.tmps)=true:=by simp [dU,hg]
   rw [if_pos hw];exact run st hf he h
 ·obtain ⟨⟨j,want⟩,hg⟩:=Option.ne_none_iff_exists'.1 hg;have h0:=h;rw [sR,hg] at h;simp only at h;split at h
  ·rename_i d oE;obtain ⟨IQ,h⟩:=cond_prop h
   have Φ:d<a.tmps.size:=by rw [hs,hn];simpa [gH] using IQ
   have gn:=hf d;split at h
   ·rename_i b hb;rw [hb] at gn;have hv:=gn.bN
    have g_:yielded all a.tmps j=some b:=by
     have h2:a.tmps[d]?=some (.bool b):=by rw [←hv];simp [Φ]
     unfold yielded;rw [oE,cD,h2]
    by_cases jA:b=want
    ·have hy:=h.y jA
     rcases hy with hy|hy
     ·refine vv (K:=K) (st:=⟨dX st.f d (.v (.bool want)),st.H⟩) hT hn ho ⟨F,β,hs,hd,CX hf hb jA,he⟩ hN ?_;rw [sR,hg];simp only [oE,IQ,cond_true,dX,Nat.beq_refl];refine Br.yes rfl ?_
      have e:dX (dX st.f d (.v (.bool want))) d (.v (.bool want))=dX st.f d (.v (.bool want)):=by
       funext t;simp only [dX];cases aH t d<;>rfl
      show step P T o ⟨dX (dX st.f d (.v (.bool want))) d (.v (.bool want)),st.H⟩ _;rw [e];exact hy
     ·unfold wpOpIn;simp only [ho]
      have hw:dU o (yielded all a.tmps)=true:=by simp [dU,hg,g_,jA]
      rw [if_pos hw];exact run ⟨dX st.f d (.v (.bool want)),st.H⟩ (CX hf hb jA) he hy
    ·have qf:b=!want:=by cases b<;>cases want<;>first|rfl|exact absurd rfl jA
     refine vv (K:=K) hT hn ho ⟨F,β,hs,hd,hf,he⟩ hN ?_;rw [sR,hg];simp only [oE,IQ,cond_true,hb];exact Br.no qf (h.n qf)
   ·rename_i vs hb;refine vv (K:=K) hT hn ho ⟨F,β,hs,hd,hf,he⟩ hN ?_;rw [sR,hg];simp only [oE,IQ,cond_true,hb];exact h
   ·exact h.elim
  ·exact h.elim
def akl {n:Nat} {all:Array Oper} {K:ae→Prop} {KX:Int→ae→Prop} {Q:Exit→Act→World→Prop} (hT:bO P T) (hn:C.n=n) (hQ:∀st a w,Rel C st a w→K st→Q .normal a w) (hX:∀m st a w,Rel C st a w→KX m st→Q (.panic (jI E m)) a w) :
  ∀(l:List Oper) (i:Nat) (st:ae) (a:Act) (w:World),(∀k,k<l.length→all[i+k]?=l[k]?)→Rel C st a w→GO P T E n all l st K KX→wpOpsIn (fQ C.ro) 0 P all Q (List.range' i l.length) a w:=by
 intro l;induction l with
 |nil=>intro i st a w _ hr h;exact hQ _ _ _ hr h
 |cons o os ih =>
  intro i st a w d_ hr h
  have ho:all[i]?=some o:=by simpa using d_ 0 (by simp)
  rw [List.length_cons,List.range'_succ,wpOpsIn_cons];refine akk (K:=fun st=>GO P T E n all os st K KX) (KX:=KX) hT hn ho hr (fun st a w hr hk=>?_) hX h;exact ih (i+1) st a w (fun k hk=>by have:=d_ (k+1) (by simp;omega);rw [show i+1+k=i+(k+1) by omega];simpa using this) hr hk
def Ok.cV {n id:Nat} {ops:Array Oper} {st:ae} {Q:Exit→ae→Prop} (E:TypeId) (hT:bO P T) (h:GO P T E n ops ops.toList st (Q .normal) fun m aq=>Q (.panic (jI E m)) aq):Ok P n (.region id ops false) st Q :=
 ⟨fun C hn a w hr=>by
  refine wpIn_region ?_;have:=akl (C:=C) (Q:=fun e a' w'=>∃aq,Rel C aq a' w'∧Q e aq) hT hn (fun st a w hr hk=>⟨st,hr,hk⟩) (fun m st a w hr hk=>⟨st,hr,hk⟩) ops.toList 0 st a w (fun k hk=>by simp) hr h
  simpa [List.range_eq_range'] using this⟩
def Mp (T:TT) (E:TypeId) (rs:List ResultVar) (R:AV→ae→Prop) (RX:Int→Prop):Exit→ae→Prop
 |.normal,st=>qC T rs st fun x=>R x st
 |.ret,st=>qC T rs st fun x=>R x st
 |.panic l,_=>∃m,l=jI E m∧RX m
 |_,_=>False
def Vz {C:Ctx} {fn:Func} {tmps:Array Value} {RR:Ending→World→Prop} {F:Nat→Prop} {β:Nat→Value} {H:Hp} {u:FrameMode} (hu:u≠.run) (rq:C.dl=[]):∀(ds:List Deferred) (w:World),XM C ds w F β H →
  (∀w',XM C [] w' F β H→(∀x u,Rd w F β x u→Rd w' F β x u)→LeavesIn gh 0 P fn tmps RR [] u w')→LeavesInM gh 0 P fn tmps RR ds u w
 |[],w,h,hk=>hk w h fun _ _ hr=>hr
 |d::ds,w,h,hk=>by
  have jT:∀l,C.ms l=l:=fun l=>Ctx.VU rq;obtain ⟨D,h1,h2,h3,h4,h5⟩:=h.m d (by rw [jT];simp);have dJ:=h.nd;rw [jT] at dJ;have Φ:=kF h3;have oG:∀b,b≠D→(w.putObj D (.deferred none)).heap[b]?=w.heap[b]?:=fun b hb=>p5 hb;have ha:ga F w (w.putObj D (.deferred none)):=fun b hb=>oG b fun e=>h4 (e▸hb);have hI:=h.inv;refine ⟨hu,.inl ⟨D,_,by rw [h1],run_takeDeferred h3,?_⟩⟩;have lV:Inv (w.putObj D (.deferred none)) F β H:=⟨fun b hb=>by rw [j4];exact hI.cC b hb,fun i c hm=>pD ha (fun _ h=>h) (fun b hb=>oG b fun e=>h5 (e▸⟨i,c,hm,hb⟩)) (hI.holds i c hm),hI.keys,hI.apart,hI.eC,hI.fk.at ha⟩;have hx:=h.x;refine Vz hu rq ds _ ⟨⟨hx.os,hx.tape,hx.output,by rw [j4];exact hx.size,fun b hb hn=>(oG b (by omega)).trans (hx.block b hb hn),hx.mono,hx.new,hx.owned,fun _ _ _=>.χ,lV,hx.gu⟩,fun d' bH=>?_,by rw [jT];exact (iw.1 dJ).2,⟨ds,by rw [rq];simp⟩⟩ fun w' oM cJ=>hk w' oM fun x u hr=>cJ x u (hr.frame ha fun _ h=>h);rw [jT] at bH;obtain ⟨D',g1,g2,g3,g4,g5⟩:=h.m d' (by rw [jT];simp [bH]);exact ⟨D',g1,g2,(oG D' fun e=>(iw.1 dJ).1 (by rw [h1,←e,←g1];exact bH)).trans g3,g4,g5⟩
def Ext.forget {w0:World} {F0:Nat→Prop} {oU:Nat→Value} {oR st:ae} (h:Ext w0 F0 oU oR w F β st):Ext w0 F0 oU oR w F β ⟨aF,[]⟩ :=
 ⟨h.os,h.tape,h.output,h.size,h.block,h.mono,h.new,fun _ ⟨_,_,hm,_⟩=>(eJ hm).elim,fun _ _ _=>.χ,h.inv.nil,h.gu⟩
def aal {g n:Nat} {fn:Func} {c:Code} {args:List AV} {H:Hp} {R0:AV→ae→Prop} {RX:Int→Prop} (hT:bO P T) (dE:P.funcs[g]?=some fn) (hb:fn.body=some c) (hn:fn.ntmps=n) (hle:args.length≤n)
  (h:Ok P n c ⟨kW args,H⟩ (Mp T E fn.results.toList R0 RX)) {vs:Array Value} (hI:Inv w F β H) (hs:vs.size=args.length) (hv:∀i,i<args.length→Rd w F β (args.getD i .χ) (vs.getD i undef)) :
  Calls P g vs w fun e w'=>(∃v,e=.returned v∧∃x st F' av,R0 x st∧Rd w' F' av x v∧Ext w F β ⟨aF,H⟩ w' F' av ⟨aF,st.H⟩) ∨
   ∃m,e=.panicked (jI E m)∧RX m∧∃F' av,Ext w F β ⟨aF,H⟩ w' F' av ⟨aF,[]⟩:=by
 refine callsIn_wide.1 (callsIn_of_wp_marks (F:=gh) (n:=0) dE hb trivial ?_);let C:Ctx:=⟨w,F,β,H,n,none,.inl rfl,[]⟩;have hr:Rel C ⟨kW args,H⟩ { tmps:=vs++oc (fn.ntmps-vs.size) undef,defers:=[] } w :=
  ⟨F,β,by simp [C,hn];omega,trivial,Oh hs hv,⟨Ext.refl hI,fun d hd=>(eJ hd).elim,qS,⟨[],rfl⟩⟩⟩
 have fin:∀(st:ae) (a':Act) (w':World),Rel C st a' w'→qC T fn.results.toList st (fun x=>R0 x st)→LeavesInM gh 0 P fn a'.tmps (fun e w'=>(∃v,e=.returned v∧∃x st F' av,R0 x st∧Rd w' F' av x v∧Ext w F β ⟨aF,H⟩ w' F' av ⟨aF,st.H⟩) ∨
   ∃m,e=.panicked (jI E m)∧RX m∧∃F' av,Ext w F β ⟨aF,H⟩ w' F' av ⟨aF,[]⟩) a'.defers .returning w':=fun st a' w' ⟨F',av,_,_,hf,he⟩ hq =>
  Ji rfl a'.defers w' he fun sd fw cJ=>by
   obtain ⟨v,x,aY,hk,hx⟩:=J8 (P:=P) (st:=st) hT fw.inv (fun t=>cJ _ _ (hf t)) hq;exact ⟨v,aY,.inl ⟨v,rfl,x,st,F',av,hk,hx,fw.x⟩⟩
 refine wpIn_mono (h.h C rfl _ w hr) ?_;rintro e a' w' ⟨st,iQ,hq⟩;cases e with
 |normal=>exact fin st a' w' iQ hq
 |ret=>exact fin st a' w' iQ hq
 |exit id=>exact hq.elim
 |goto l=>exact hq.elim
 |panic ch =>
  obtain ⟨m,rfl,hq⟩:=hq;obtain ⟨F',av,_,_,hf,he⟩:=iQ;exact Vz (by simp) rfl a'.defers w' he fun sd fw cJ=>.inr ⟨m,rfl,hq,F',av,fw.x.forget⟩
 |outgrown=>exact hq.elim
def af9 {g n : Nat} {fn : Func} {c : Code} {args : List AV} {H0 : Hp} {ρ : Type} {q : Int ⊕ ρ} {r : ρ → AV} {H1 : ρ → Hp} (hT : bO P T) (dE : P.funcs[g]? = some fn) (dN : (fn.name == "runtime.NumGoroutine") = false) (hb : fn.body = some c) (hn : fn.ntmps = n) (hle : args.length ≤ n)
  (h:Ok P n c ⟨kW args,H0⟩ (Mp T E fn.results.toList (fun x s=>∃y,q=.inr y∧Wk ⟨dX aF 0 x,s.H⟩ ⟨ar [(0,r y)],H1 y⟩) fun m=>q=.inl m)) :
  fP P E g args ⟨aF,H0⟩ (fun x s=>∃y,q=.inr y∧x=r y∧s.H=H1 y) fun m s=>q=.inl m∧s.H=[]:=by
 refine ⟨⟨fn,c,dE,dN,hb⟩,fun w F β vs hI hs hv=>?_⟩;refine (aal hT dE hb hn hle h hI hs hv).mono ?_;rintro e w' (⟨v,rfl,x,st,F',av,⟨y,hy,hW⟩,hx,he⟩|⟨m,rfl,hm,F',av,he⟩)
 ·obtain ⟨F2,cj,_,_,hf,h2⟩:=hW ⟨w,F,β,H0,1,none,.inl rfl,[]⟩ { tmps:=#[v],defers:=[] } w' ⟨F',av,rfl,trivial,fun t=>by
   show Rd w' F' av (bif aH t 0 then x else aF t) _;cases t with
   |zero=>exact hx
   |succ t=>exact .χ,⟨he,fun d hd=>(eJ hd).elim,qS,⟨[],rfl⟩⟩⟩
  exact .inl ⟨v,rfl,r y,⟨aF,H1 y⟩,F2,cj,⟨y,hy,rfl,rfl⟩,hf 0,h2.x⟩
 ·exact .inr ⟨m,rfl,⟨aF,[]⟩,F',av,⟨hm,rfl⟩,he⟩
def fP.gen {g:FuncId} {xs ys:List AV} {st:ae} {H0:Hp} {ρ:Type} {q:Int⊕ρ} {r:ρ→AV} {H1:ρ→Hp} {k:AV→ae→Prop} {kx:Int→ae→Prop} {m n:List (Nat×Nat)} (h:fP P E g ys ⟨aF,H0⟩ (fun x s=>∃y,q=.inr y∧x=r y∧s.H=H1 y) fun m s=>q=.inl m∧s.H=[])
  (hx:iY m xs ys) (hH:vN m st.H H0) (kR:jH H0=true) (ht:CD m n=true) (fU:∀y,jH (hU (cU (kp m n)) (H1 y)++kq m n st.H)=true) (fz:jH (kq m n st.H)=true)
  (hp:∀e,q=.inl e→kx e ⟨fun t=>uB n (st.f t),kq m n st.H⟩)
  (hk:∀y,q=.inr y→k (rl (cU (kp m n)) 3 (r y)) ⟨fun t=>uB n (st.f t),hU (cU (kp m n)) (H1 y)++kq m n st.H⟩):fP P E g xs st k kx:=by
 refine ⟨h.1,fun w F β vs hI hs hv=>?_⟩;obtain ⟨hl,dg,uF,ν,sZ⟩:=Tf hx hH kR ht hI hv;refine (h.2 w F dg vs uF (by omega) ν).mono ?_;rintro e w' (⟨v,rfl,x,s,F',av,⟨y,hy,rfl,EN⟩,hr,he⟩|⟨e,rfl,s,F',av,⟨he0,EN⟩,he⟩)
 ·obtain ⟨cj,hq,dS⟩:=sZ w' F' av s.f (H1 y) (fU y) (by rw [←EN];exact he);exact .inl ⟨v,rfl,rl (cU (kp m n)) 3 (r y),_,F',cj,hk y hy,zU hq 3 hr,dS⟩
 ·obtain ⟨cj,hq,dS⟩:=sZ w' F' av s.f [] fz (by rw [←EN];exact he);exact .inr ⟨e,rfl,_,F',cj,hp e he0,dS⟩
end
def lX {ρ:Type} {b:Bool} {X Y:Option ρ} {r:ρ} {G:Prop} (h:(if b=true then X else Y)=some r) (yes:b=true→X=some r→G) (no:Y=some r→G):G:=by
 cases b with
 |true=>exact yes rfl (by simpa using h)
 |false=>exact no (by simpa using h)
def kH (k:Int):AV:=if k=0 then .v .nilFunc else .c (.func k.toNat) [] []
def gM (k:Int):List AV:=[kH k]
def abr {k:Int} {n:Nat} (hb:(k==(n:Int))=true) (hn:n≠0):kH k=.c (.func n) [] []:=by
 have:k=(n:Int):=by simpa using hb
 subst this;unfold kH;rw [if_neg (by omega)];rfl
def Le.fn {k:Int} {n:Nat} (hb:(k==(n:Int))=true) (hn:n≠0):Le (kH k) (.c (.func n) [] []):=by rw [abr hb hn];exact Le.refl _
def Z8 {α:Type} {f:α→List AV} {l:List α} {n:Int} {b m:Nat} (h:(0:Int)≤n∧(l.length+n.toNat)*b≤m):((aT f l).length+n.toNat)*b≤m:=by rw [List.length_map];exact h.2
def Z9 {α:Type} {f:α→List AV} {z:α} {l:List α} {n:Nat}:aT f l++ij n (f z)=aT f (l++ij n z):=by simp
def aat {α:Type} (f:α→List AV) (l:List α) (d:Nat) (x:List α):(aT f l).take d++(aT f x).take ((aT f l).length-d)++(aT f l).drop (d+(aT f x).length)=aT f (HJ l d x):=by
 simp [HJ,List.map_take,List.map_drop]
end
section
open Go.RowKit
variable [M:bM] [G:cK] [R:dK]
def exts (ops:Array Oper):Nat→Array Bool→List (List Nat)
 |0,_=>[[]]
 |fuel+1,listed=>match lQ .any ops listed with
  |[]=>[[]]
  |r=>r.flatMap fun i=>(exts ops fuel (listed.setIfInBounds i true)).map (i::·)
def Hd {α:Type} (f:α→Prop):List α→Prop
 |[]=>True
 |x::r=>f x∧Hd f r
def Hd.mem {α:Type} {f:α→Prop}:∀{l:List α},Hd f l→∀x,x∈l→f x
 |[],_,_,h=>by cases h
 |y::r,h,x,hx=>by
  rcases bf.1 hx with rfl|hx
  ·exact h.1
  ·exact h.2.mem x hx
def abl {ops:Array Oper}:∀(fuel t:Nat) (listed:Array Bool),Ll .any ops fuel t listed []∈exts ops fuel listed:=by
 intro fuel;induction fuel with
 |zero=>intro t listed;simp [Ll,exts]
 |succ fuel ih =>
  intro t listed;simp only [Ll,exts]
  change (match (lQ .any ops listed)[t % (lQ .any ops listed).length]? with
   |some i=>Ll .any ops fuel (t/(lQ .any ops listed).length) (listed.setIfInBounds i true) [i]
   |none=>[].reverse)∈_
  cases hr:lQ .any ops listed with
  |nil=>simp
  |cons a r =>
   have Φ:t % (a::r).length<(a::r).length:=sy _ (by simp);obtain ⟨i,hi⟩:∃i,(a::r)[t % (a::r).length]?=some i:=⟨_,bU Φ⟩;simp only [hi];rw [linearise_go_acc,List.reverse_singleton,List.singleton_append];refine List.mem_flatMap.2 ⟨i,List.mem_of_getElem? hi,List.mem_map.2 ⟨_,ih _ _,rfl⟩⟩
section
variable {P:Program} {T:TT} {C:Ctx}
def YT {n:Nat} {all:Array Oper} {K:ae→Prop} {Q:Exit→Act→World→Prop} (hT:bO P T) (hn:C.n=n) (hQ:∀st a w,Rel C st a w→K st→Q .normal a w) :
  ∀(l:List Nat) (st:ae) (a:Act) (w:World),Rel C st a w→iV P T n all (l.filterMap (all[·]?)) st K→wpOpsIn (fQ C.ro) 0 P all Q l a w:=by
 intro l;induction l with
 |nil=>intro st a w hr h;exact hQ _ _ _ hr h
 |cons i r ih =>
  intro st a w hr h;rw [wpOpsIn_cons];cases ho:all[i]? with
  |none =>
   unfold wpOpIn;simp only [ho];refine ih st a w hr ?_;simpa [Rk,ho] using h
  |some o =>
   rw [Rk,ho] at h;exact vv (K:=fun st=>iV P T n all (r.filterMap (all[·]?)) st K) hT hn ho hr (fun st a w hr hk=>ih st a w hr hk) h
def Ok.aaK {n id:Nat} {ops:Array Oper} {st:ae} {Q:Exit→ae→Prop} (Ls:List (List Nat)) (hT:bO P T) (hm:P.follows .mixedOrders=true) (hc:exts ops ops.size (oc ops.size false)=Ls)
  (h:Hd (fun l=>iV P T n ops (l.filterMap (ops[·]?)) st (Q .normal)) Ls):Ok P n (.region id ops true) st Q :=
 ⟨fun C hn a w hr=>by
  refine wpIn_region_draw fun t=>?_;simp only [Region.schedule,hm,Bool.true_or,if_true];obtain ⟨F,β,hs,hd,hf,he⟩:=hr;have hb:Below w.heap.size w w.drew:=(Below.refl _ _).drew;have cJ:Rel C st a w.drew:=⟨fG F w w.drew,β,hs,hd,fun t=>(hf t).later hb he.inv.cC,he.trans (wa (st:=⟨aF,st.H⟩) he.inv hb)⟩
  exact YT (Q:=fun e a' w'=>∃aq,Rel C aq a' w'∧Q e aq) hT hn (fun st a w hr hk=>⟨st,hr,hk⟩) _ st a w.drew cJ (h.mem _ (by rw [←hc];exact abl _ _ _))⟩
end
end
section
open Go.RowKit
variable [M:bM] [G:cK] [R:dK]
abbrev kG (c x y:List AV):Hp:=[(1000,.box c),(1001,.box x),(1002,.box y)]
structure RA (P:Program) (E:TypeId) (gc:FuncId) (cf:List AV) (kf ka:Nat) (ans:Int→List AV):Prop where
 uA:p6 P gc
 ret:∀(w:World) (vs:Array Value),vs.size=3→CallsDIn gh 0 P gc vs .returning w fun e u w'=>(∃v,e=.returned v)∧u=.returning∧Below w.heap.size w w'
 Fu:∀(m:Int) (w:World) (F:Nat→Prop) (β:Nat→Value) (x y:List AV),Inv w F β (kG cf x y)→x.length=kf→y.length=ka →
  CallsDIn gh 0 P gc #[β 1000,β 1001,β 1002] (.panicking (jI E m)) w fun e u w'=>(∃v,e=.returned v)∧u=.panicking [{ v:=.iface E (.int .i64 m),recovered:=true }] ∧
   ∃F' av,Ext w F β ⟨aF,kG cf x y⟩ w' F' av ⟨aF,kG cf cf (ans m)⟩
def abv (T:TT) (E:TypeId) (rs:List ResultVar) (R0:AV→ae→Prop) (RX:Int→ae→Prop):Exit→ae→Prop
 |.normal,st=>qC T rs st fun x=>R0 x st
 |.ret,st=>qC T rs st fun x=>R0 x st
 |.panic l,st=>∃m,l=jI E m∧RX m st
 |_,_=>False
def St (q:List (Nat×Nat)) (tc:Nat) (L:List (Nat×AV)) (H:Hp):ae:=⟨dX (fun t=>rl (cU q) 2 (ar L t)) tc .χ,hU (cU q) H⟩
section
variable {P:Program} {T:TT} {E:TypeId}
def Oz {C:Ctx} {fn:Func} {tmps:Array Value} {RR:Ending→World→Prop} {F:Nat→Prop} {β:Nat→Value} {H:Hp} {u:FrameMode} (hu:u≠.run):∀(l:List Deferred) (w:World),XM C (l++C.dl) w F β H →
  (∀w',XM C C.dl w' F β H→(∀x u,Rd w F β x u→Rd w' F β x u)→LeavesInM gh 0 P fn tmps RR C.dl u w')→LeavesInM gh 0 P fn tmps RR (l++C.dl) u w
 |[],w,h,hk=>hk w h fun _ _ hr=>hr
 |d::l,w,h,hk=>by
  have hm:=h.m;have hn:=h.nd;rw [Ctx.E9] at hm hn;obtain ⟨D,h1,h2,h3,h4,h5⟩:=hm d (by simp);have Φ:=kF h3;have oG:∀b,b≠D→(w.putObj D (.deferred none)).heap[b]?=w.heap[b]?:=fun b hb=>p5 hb;have ha:ga F w (w.putObj D (.deferred none)):=fun b hb=>oG b fun e=>h4 (e▸hb);have hI:=h.inv;refine ⟨hu,.inl ⟨D,_,by rw [h1],run_takeDeferred h3,?_⟩⟩;have lV:Inv (w.putObj D (.deferred none)) F β H:=⟨fun b hb=>by rw [j4];exact hI.cC b hb,fun i c hm=>pD ha (fun _ h=>h) (fun b hb=>oG b fun e=>h5 (e▸⟨i,c,hm,hb⟩)) (hI.holds i c hm),hI.keys,hI.apart,hI.eC,hI.fk.at ha⟩;have hx:=h.x;refine Oz hu l _ ⟨⟨hx.os,hx.tape,hx.output,by rw [j4];exact hx.size,fun b hb hn=>(oG b (by omega)).trans (hx.block b hb hn),hx.mono,hx.new,hx.owned,fun _ _ _=>.χ,lV,hx.gu⟩,fun d' bH=>?_,?_,⟨l,rfl⟩⟩ fun w' oM cJ=>hk w' oM fun x u hr=>cJ x u (hr.frame ha fun _ h=>h)
  ·rw [Ctx.E9] at bH;obtain ⟨D',g1,g2,g3,g4,g5⟩:=hm d' (by simp [bH]);exact ⟨D',g1,g2,(oG D' fun e=>(iw.1 hn).1 (by rw [h1,←e,←g1];exact bH)).trans g3,g4,g5⟩
  ·rw [Ctx.E9];exact (iw.1 hn).2
def agv {q:List (Nat×Nat)} {w:World} {F:Nat→Prop} {β:Nat→Value} {H:Hp} (hI:Inv w F β H) (cY:tD (q.map (·.2))=true) (eu:tD (q.map (·.1))=true) (hk:jH (hU (cU q) H)=true) :
  ∃cj:Nat→Value,(∀i j,cU q i=some j→cj j=β i)∧Inv w F cj (hU (cU q) H)∧∀b,bC cj (hU (cU q) H) b→bC β H b:=by
 have mP:=BU cY;have lC:=BU eu;have Nl:∀i i' j,cU q i=some j→cU q i'=some j→i=i':=fun i i' j h1 h2=>Qh mP (at_mem h1) (at_mem h2)
 obtain ⟨cj,ah⟩:∃cj:Nat→Value,∀i j,cU q i=some j→cj j=β i:=by
  refine ⟨fun j=>match cU (q.map fun p=>(p.2,p.1)) j with|some i=>β i|none=>undef,fun i j eQ=>?_⟩;have:cU (q.map fun p=>(p.2,p.1)) j=some i:=Ht (by rw [List.map_map];exact mP) (List.mem_map.2 ⟨_,at_mem eQ,rfl⟩);simp only [this]
 have dr:∀b,bC cj (hU (cU q) H) b→bC β H b:=by
  rintro b ⟨j,c,hc,hb⟩;obtain ⟨x,c0,h1,h2,_⟩:=mX hc;exact ⟨x,c0,h1,by rw [←ah x j h2];exact hb⟩
 refine ⟨cj,ah,⟨hI.cC,fun j c hc=>?_,zv hk,fun b hb=>hI.apart b (dr b hb),fun j c j' c' b hc eK hb aK=>?_,hI.fk⟩,dr⟩
 ·obtain ⟨x,c0,h1,h2,rfl⟩:=mX hc;exact rlC_holds ah h2 (hI.holds x c0 h1)
 ·obtain ⟨x,c0,h1,h2,_⟩:=mX hc;obtain ⟨x',LY,nB,iz,_⟩:=mX eK;rw [ah x j h2] at hb;rw [ah x' j' iz] at aK;have:=hI.eC x _ x' _ b h1 nB hb aK;subst this;rw [h2] at iz;exact Option.some.inj iz
def aaI {g n rid gc tc s1 s2 s3 a1 a2 a3 tf ta kf ka:Nat} {jf ja:TI} {fn:Func} {A rest:Code} {mk df:Oper} {args:List AV} {L:List (Nat×AV)} {H:Hp} {q:List (Nat×Nat)} {cf:List AV} {ans:Int→List AV} {r:AV}
    (hT : bO P T) (dE : P.funcs[g]? = some fn) (dN : (fn.name == "runtime.NumGoroutine") = false) (hb : fn.body = some (.seq A (.seq (.region rid #[mk, df] false) rest))) (hn : fn.ntmps = n) (hle : args.length ≤ n)
    (rE:mk.op=.makeFunc (.func gc) #[] #[.tmp s1, .tmp s2, .tmp s3]∧mk.dst=some tc∧mk.guard=none) (M9:df.op=.defer { callee:=.value (.tmp tc), args := #[], argTypes := #[] }∧df.dst=none∧df.guard=none) (htc:tc<n)
    (M1:RA P E gc cf kf ka ans)
    (cY:tD (q.map (·.2))=true) (eu:tD (q.map (·.1))=true) (hk:jH (hU (cU q) H)=true)
    (NP:ar L s1=.b a1 0) (NQ:ar L s2=.b a2 0) (hs3:ar L s3=.b a3 0) (h1:cU q a1=some 1000) (h2:cU q a2=some 1001) (h3:cU q a3=some 1002)
    (wI:fn.results.toList=[.cell s2 tf, .cell s3 ta]) (Nn:T tf=some jf) (hja:T ta=some ja) (haf:p7 jf.kind=true) (haa:p7 ja.kind=true) (hkf:cf.length=jf.cells) (hka:∀ m, (ans m).length=ja.cells)
    (Bc:cf.all fp=true) (hai:∀ m, (ans m).all fp=true)
    (hA:Ok P n A ⟨kW args, []⟩ fun e st=>e=.normal∧Wk st ⟨ar L, H⟩)
    (nL:Ok P n rest (St q tc L H) (abv T E fn.results.toList (fun x st=>Fz st.H x r) fun m st=>st.f s2=.b 1001 0∧st.f s3=.b 1002 0∧dH 1000 st.H=some (.box cf) ∧
      (∃ x, dH 1001 st.H=some (.box x)∧x.length=kf)∧(∃ y, dH 1002 st.H=some (.box y)∧y.length=ka)∧r=.t [.a cf, .a (ans m)])):Pure P g args r:=by
  refine ⟨⟨fn, _, dE, dN, hb⟩, fun w F β vs hI hs hv => ?_⟩;refine callsIn_wide.1 (callsIn_of_wp_marks (F:=gh) (n:=0) dE hb trivial ?_);let C:Ctx:=⟨w, F, β, [], n, none, .inl rfl, []⟩;have hr:Rel C ⟨kW args, []⟩ { tmps:=vs++oc (fn.ntmps-vs.size) undef, defers:=[] } w :=
    ⟨F, β, by simp [C, hn];omega, trivial, Oh hs hv, ⟨Ext.refl hI, fun d hd=>(eJ hd).elim, qS, ⟨[], rfl⟩⟩⟩
  refine wpIn_seq (wpIn_mono (hA.h C rfl _ w hr) ?_);rintro e gQ w1 ⟨st1, acT, rfl, hW⟩;obtain ⟨F1, dg, uX, _, s4, bD⟩:=hW C gQ w1 acT;have bp:∀ b, ¬ bC β ([]:Hp) b:=fun b ⟨_, _, hm, _⟩=>(eJ hm).elim;obtain ⟨cj, zp, ML, uU⟩:=agv bD.inv cY eu hk;have p1:=s4 s1;have p2:=s4 s2;have p3:=s4 s3;change Rd _ _ _ (ar L s1) _ at p1;change Rd _ _ _ (ar L s2) _ at p2;change Rd _ _ _ (ar L s3) _ at p3;rw [NP] at p1;rw [NQ] at p2;rw [hs3] at p3;obtain ⟨b1, cO, e1⟩:=p1.mz;obtain ⟨b2, iA, e2⟩:=p2.mz;obtain ⟨b3, MW, e3⟩:=p3.mz
  have g1:gQ.tmps.getD s1 undef=cj 1000:=by rw [zp _ _ h1, cO];exact e1
  have g2:gQ.tmps.getD s2 undef=cj 1001:=by rw [zp _ _ h2, iA];exact e2
  have g3:gQ.tmps.getD s3 undef=cj 1002:=by rw [zp _ _ h3, MW];exact e3
  obtain ⟨d0, Bd⟩:∃ d0:Deferred, d0={ target:=.fn (.func gc) #[cj 1000, cj 1001, cj 1002], args := #[] }:=⟨_, rfl⟩;let Dq:Act:={ (gQ.put (some tc) (.func (.func gc) #[] #[cj 1000, cj 1001, cj 1002])) with defers:=d0::gQ.defers };have uX:gQ.tmps.size=n:=uX;let C':Ctx:=⟨w1, F1, cj, hU (cU q) H, n, none, .inl rfl, d0::gQ.defers⟩
  have NM:Rel C' (St q tc L H) Dq w1:=by
    refine ⟨F1, cj, by show (gQ.put _ _).tmps.size=n;simpa [iL] using uX, trivial, ?_, ⟨Ext.refl ML, fun d hd => ?_, ?_, ⟨[], rfl⟩⟩⟩
    · exact Rd.put (fun t=>zU zp 2 (s4 t)) .χ (by omega)
    · have:C'.ms (d0::gQ.defers)=[]:=Ctx.E9 (C:=C') (l:=[])
      rw [show C'.ms Dq.defers=[] from this] at hd;exact (eJ hd).elim
    · have:C'.ms (d0::gQ.defers)=[]:=Ctx.E9 (C:=C') (l:=[])
      rw [show C'.ms Dq.defers=[] from this];exact qS
  have ends:∀ (w5:World) (F5:Nat→Prop) (lI:Nat→Value) (H5:Hp), Ext w1 F1 cj ⟨aF, hU (cU q) H⟩ w5 F5 lI ⟨aF, H5⟩→∀ tmps:Array Value,
      (∀ w6, Inv w6 F5 lI H5→(∀ x u, Rd w5 F5 lI x u→Rd w6 F5 lI x u)→∃ v, (results fn tmps).run P w6=.ok v w6∧bg w6 (fun b=>F5 b∨bC lI H5 b) r v) →
      LeavesInM gh 0 P fn tmps (fun e w'=>∃ v, e=.returned v∧Below w.heap.size w w'∧bg w' (fG F w w') r v) gQ.defers .returning w5:=by
    intro w5 F5 lI H5 hx tmps wz;let C5:Ctx:=⟨w, F, lI, [], n, none, .inl rfl, []⟩
    have UD:∀ b, bC lI H5 b→w.heap.size≤b:=fun b hb=>by
      rcases hx.owned b hb with h|h
      · exact fi bD.x.size h
      · rcases bD.x.owned b (uU b h) with h|h
        · exact h
        · exact (bp b h).elim
    have dv:Ext w F lI ⟨aF, []⟩ w5 F5 lI ⟨aF, H5⟩:=by
      refine ⟨hx.os.trans bD.x.os, bD.x.tape.trans hx.tape, hx.output.trans bD.x.output, fi bD.x.size hx.size, fun b hb _ => ?_, fun b hb=>hx.mono b (bD.x.mono b hb), fun b hb => ?_, fun b hb=>.inl (UD b hb), fun _ _ _=>.χ, hx.inv, fun _ _=>rfl⟩
      · rw [hx.block b (oe hb bD.x.size) (fun ho => ?_)]
        · exact bD.x.block b hb (bp b)
        · rcases bD.x.owned b (uU b ho) with h|h
          · have h:w.heap.size≤b:=h;omega
          · exact bp b h
      · rcases hx.new b hb with h|h|h
        · rcases bD.x.new b h with h|h|h
          · exact .inl h
          · exact .inr (.inl h)
          · exact (bp b h).elim
        · exact .inr (.inl (fi bD.x.size h))
        · rcases bD.x.owned b (uU b h) with h|h
          · exact .inr (.inl h)
          · exact (bp b h).elim
    have hXM:XM C5 gQ.defers w5 F5 lI H5:=by
      refine ⟨dv, fun d hd => ?_, ?_, ⟨gQ.defers, (List.append_nil _).symm⟩⟩
      · have hd:d∈C.ms gQ.defers:=hd
        obtain ⟨D, q1, q2, q3, q4, q5⟩:=bD.m d hd;have Φ:=kF q3;refine ⟨D, q1, q2, (hx.block D Φ fun ho=>q5 (uU D ho)).trans q3, fun hF => ?_, fun ho => ?_⟩
        · rcases hx.new D hF with h|h|h
          · exact q4 h
          · exact absurd Φ (Nat.not_lt.2 h)
          · exact q5 (uU D h)
        · rcases hx.owned D ho with h|h
          · exact absurd Φ (Nat.not_lt.2 h)
          · exact q5 (uU D h)
      · exact bD.nd
    refine Ji rfl gQ.defers w5 hXM fun w6 h6 I2 => ?_;obtain ⟨v, aY, fB⟩:=wz w6 h6.inv I2;refine ⟨v, aY, v, rfl, ⟨h6.x.os, h6.x.tape, h6.x.output, h6.x.size, fun b hb=>h6.x.block b hb (by rintro ⟨_, _, hm, _⟩;exact (eJ hm).elim)⟩, fB.frame (fun _ _=>rfl) fun b hb => ?_⟩
    rcases hb with hb|hb
    · rcases h6.x.new b hb with h|h|h
      · exact .inl h
      · exact .inr ⟨h, h6.inv.cC b hb⟩
      · obtain ⟨_, _, hm, _⟩:=h;exact (eJ hm).elim
    · exact .inr ⟨UD b hb, h6.inv.fM hb⟩
  have Sv:∀ (u:FrameMode) (w4:World) (tmps:Array Value), u≠.run→(CallsDIn gh 0 P gc #[cj 1000, cj 1001, cj 1002] u w4 fun e u' w5=>(∃ v, e=.returned v)∧settle u'=.returning ∧
        LeavesInM gh 0 P fn tmps (fun e w'=>∃ v, e=.returned v∧Below w.heap.size w w'∧bg w' (fG F w w') r v) gQ.defers .returning w5) →
      LeavesInM gh 0 P fn tmps (fun e w'=>∃ v, e=.returned v∧Below w.heap.size w w'∧bg w' (fG F w w') r v) (d0::gQ.defers) u w4:=by
    intro u w4 tmps hu hc;obtain ⟨fnc, cc, hfc, qk, hbc⟩:=M1.uA
    have acD : ¬ fnc.name = "runtime.NumGoroutine" := by simpa using qk
    refine ⟨hu, .inr ⟨fun h=>(by cases h), .func gc, #[cj 1000, cj 1001, cj 1002], gc, #[cj 1000, cj 1001, cj 1002], by rw [Bd], by rw [Bd];simp [invoke, callFunc, hfc, acD, hbc], fun _ _=>trivial, hc.mono ?_⟩⟩;rintro e u' w5 ⟨⟨v, rfl⟩, BI, hl⟩;show LeavesInM gh 0 P fn tmps _ gQ.defers (settle u') w5;rw [BI];exact hl
  have acB:wpOpsIn gh 0 P #[mk, df] (fun e a' w'=>match e with
      |.normal=>rest.wpIn gh 0 P (bodyPostM gh 0 P fn fun e w'=>∃ v, e=.returned v∧Below w.heap.size w w'∧bg w' (fG F w w') r v) a' w'
      |e=>bodyPostM gh 0 P fn (fun e w'=>∃ v, e=.returned v∧Below w.heap.size w w'∧bg w' (fG F w w') r v) e a' w') [0, 1] gQ w1:=by
    have k0:(#[mk, df]:Array Oper)[0]? = some mk:=rfl;have k1:(#[mk, df]:Array Oper)[1]? = some df:=rfl;obtain ⟨dm, om, tm, pm, fm, gm⟩:=mk;obtain ⟨dd, od, td, pd, fd, gd'⟩:=df;obtain ⟨rfl, rfl, rfl⟩:=rE;obtain ⟨rfl, rfl, rfl⟩:=M9;have ev1:gQ.eval (.tmp s1)=cj 1000:=g1;have ev2:gQ.eval (.tmp s2)=cj 1001:=g2;have ev3:gQ.eval (.tmp s3)=cj 1002:=g3;rw [wpOpsIn_cons];unfold wpOpIn;simp only [k0];rw [if_pos (by simp [dU])];refine ⟨fun _ _=>trivial, ?_⟩;rw [Oper.semAt_eq _ _ _ (by simp)]
    have r0:(execOp gQ.eval { dst:=some tc, op:=.makeFunc (.func gc) #[] #[.tmp s1, .tmp s2, .tmp s3], type:=tm, pos:=pm, after:=fm, guard:=none }).run P w1=.ok (.value (.func (.func gc) #[] #[cj 1000, cj 1001, cj 1002])) w1:=by
      rw [← ev1, ← ev2, ← ev3];simp [execOp, Instr.makeFunc]
    rw [r0, xy, wpOpsIn_cons];unfold wpOpIn;simp only [k1];rw [if_pos (by simp [dU])];refine ⟨fun _ _=>trivial, ?_⟩
    have evc:(gQ.put (some tc) (.func (.func gc) #[] #[cj 1000, cj 1001, cj 1002])).eval (.tmp tc)=.func (.func gc) #[] #[cj 1000, cj 1001, cj 1002]:=by
      have:tc<gQ.tmps.size:=by omega
      simp [Aw, iL, this]
    have r1:(Oper.semAt none (gQ.put (some tc) (.func (.func gc) #[] #[cj 1000, cj 1001, cj 1002])).eval { dst:=none, op:=.defer { callee:=.value (.tmp tc), args := #[], argTypes := #[] }, type:=td, pos:=pd, after:=fd, guard:=none }).run P w1=.ok (.defer d0) w1:=by
      rw [Oper.semAt_none, Bd];simp [execOp, resolve, evc, l8]
    show Oper.uponIn _ _ _ _ _ _ _ ((Oper.semAt none _ _).run P w1);rw [r1, Oper.uponIn_defer]
    exact show rest.wpIn gh 0 P _ Dq w1 from by
      refine wpIn_mono (nL.h C' rfl Dq w1 NM) ?_;rintro e a3 w3 ⟨vp, ⟨F3, qK, hz3, _, T7, jP⟩, wH⟩;obtain ⟨l3, te⟩:=jP.sp;have te:a3.defers=l3++C'.dl:=te
      have V3:qC T fn.results.toList vp (fun x=>Fz vp.H x r)→LeavesInM gh 0 P fn a3.tmps (fun e w'=>∃ v, e=.returned v∧Below w.heap.size w w'∧bg w' (fG F w w') r v) a3.defers .returning w3:=by
        intro wH;rw [te];refine Oz (by simp) l3 w3 (by rw [← te];exact jP) fun w4 j_ UL => ?_;refine Sv .returning w4 a3.tmps (by simp) ((M1.ret w4 _ rfl).mono ?_);rintro e u' w5 ⟨jV, rfl, rp⟩;refine ⟨jV, rfl, ?_⟩;have EJ:Ext w4 F3 qK ⟨aF, vp.H⟩ w5 (fG F3 w4 w5) qK ⟨aF, vp.H⟩:=wa (st:=⟨aF, vp.H⟩) j_.inv rp;refine ends w5 (fG F3 w4 w5) qK vp.H (j_.x.trans EJ) a3.tmps fun w6 h6 I2 => ?_;obtain ⟨v, x, aY, cI, gr⟩:=J8 (P:=P) (st:=vp) (fn:=fn) (tmps:=a3.tmps) hT h6 (fun t=>I2 _ _ ((UL _ _ (T7 t)).later rp j_.inv.cC)) wH;exact ⟨v, aY, cI w6 _ qK v h6 gr⟩
      cases e with
      |normal=>exact V3 wH
      |ret=>exact V3 wH
      |exit id=>exact wH.elim
      |goto l=>exact wH.elim
      |outgrown=>exact wH.elim
      |panic ch =>
        obtain ⟨m, rfl, q2, q3, c1, ⟨x, c2, hxl⟩, ⟨y, c3, ET⟩, hre⟩:=wH;show LeavesInM gh 0 P fn a3.tmps _ a3.defers (.panicking (jI E m)) w3;rw [te];refine Oz (by simp) l3 w3 (by rw [← te];exact jP) fun w4 j_ UL => ?_
        have T2:Ext w1 F1 cj ⟨aF, hU (cU q) H⟩ w4 F3 qK ⟨aF, kG cf x y⟩:=j_.x.chunks (fun i c hm=>by
          have:(i, c)∈vp.H:=by
            simp only [bf, il, eJ, or_false] at hm
            rcases hm with ⟨rfl, rfl⟩|⟨rfl, rfl⟩|⟨rfl, rfl⟩
            · exact eZ c1
            · exact eZ c2
            · exact eZ c3
          exact ⟨⟨c, this⟩, j_.inv.holds i c this⟩) (by simp)
        have el:∀ i, 1000≤i→qK i=cj i:=fun i hi=>j_.x.gu i hi;have hc:=M1.Fu m w4 F3 qK x y T2.inv hxl ET;rw [el 1000 (by omega), el 1001 (by omega), el 1002 (by omega)] at hc;refine Sv (.panicking (jI E m)) w4 a3.tmps (by simp) (hc.mono ?_);rintro e u' w5 ⟨jV, rfl, F5, lI, dv⟩;refine ⟨jV, rfl, ?_⟩;refine ends w5 F5 lI _ (T2.trans dv) a3.tmps fun w6 h6 I2 => ?_;have acp:∀ i, 1000≤i→lI i=qK i:=fun i hi=>dv.gu i hi
        have WZ:∀ (s i:Nat), 1000≤i→vp.f s=.b i 0→Rd w6 F5 lI (.b i 0) (a3.tmps.getD s undef):=fun s i hi BJ=>by
          have:=T7 s;rw [BJ] at this;obtain ⟨eX, hb, he⟩:=this.mz;rw [he];exact .b ((acp i hi).trans hb)
        have acX:∀ t, Rd w6 F5 lI ((fun t=>if t=s2 then AV.b 1001 0 else if t=s3 then .b 1002 0 else .χ) t) (a3.tmps.getD t undef):=fun t=>by
          show Rd w6 F5 lI (if t=s2 then AV.b 1001 0 else if t=s3 then .b 1002 0 else .χ) _;by_cases ht:t=s2
          · rw [if_pos ht, ht];exact WZ s2 1001 (by omega) q2
          · rw [if_neg ht]
            by_cases lE:t=s3
            · rw [if_pos lE, lE];exact WZ s3 1002 (by omega) q3
            · rw [if_neg lE];exact .χ
        have aP:s3≠s2:=fun e=>by
          rw [e] at q3;rw [q2] at q3;cases q3
        have EL:qC T fn.results.toList ⟨fun t=>if t=s2 then AV.b 1001 0 else if t=s3 then .b 1002 0 else .χ, kG cf cf (ans m)⟩ (fun x=>x=.t [.a cf, .a (ans m)]):=by
          rw [wI];simp only [qC, Cg, if_pos, aP, if_false, Ch, Nn, hja];have f1:dH 1001 (kG cf cf (ans m))=some (.box cf):=rfl;have f2:dH 1002 (kG cf cf (ans m))=some (.box (ans m)):=rfl;simp only [f1, f2, BO, haf, haa, Nat.zero_add, ← hkf, ← hka m, Nat.ble_eq, bG, List.drop_zero, List.take_length]
          have b1:p0 cf.length cf.length=true:=by simp
          have b2:p0 (ans m).length (ans m).length=true:=by simp
          simp only [b1, b2, cond_true];exact ⟨_, rfl, _, rfl, rfl⟩
        obtain ⟨v, x', aY, rfl, gr⟩:=J8 (P:=P) (st:=⟨fun t=>if t=s2 then AV.b 1001 0 else if t=s3 then .b 1002 0 else .χ, kG cf cf (ans m)⟩) (fn:=fn) (tmps:=a3.tmps) hT h6 acX EL;refine ⟨v, aY, ?_⟩;rw [hre];exact (Fz.t (.cons (Fz.dG (by simpa [kg] using Bc)) (.cons (Fz.dG (by simpa [kg] using hai m)) .nil))) w6 F5 lI v h6 gr
  exact wpIn_seq (wpIn_region acB)
end
end
section
variable [M:bM] [G:cK] [R:dK]
def KJ {l:List UInt8} {a b:Int} (h:0≤a∧a≤b∧b≤(l.length:Int)):(lK l.toArray).extract a.toNat b.toNat=lK (sub l a b).toArray:=by
 apply ByteArray.ext;simp [sub,List.drop_take]
def Le.of_eq {x y:AV} (h:x=y):Le x y:=by rw [h];exact Le.refl _
def abq (k:Int) {p:Prop} (h0:kH k=.v .nilFunc→p) (h1:∀n,kH k=.c (.func n) [] []→p):p:=by
 by_cases h:k=0
 ·exact h0 (if_pos h)
 ·exact h1 _ (if_neg h)
def A1 (n d:Nat) (k:Int):er (n+1) d (kH k)=kH k:=by
 by_cases h:k=0
 ·rw [kH,if_pos h];rfl
 ·rw [kH,if_neg h];rfl
def Le.fnE {d:Nat} {k:Int}:Le (er 2 d (kH k)) (kH k):=Le.of_eq (A1 1 d k)
def Le.abt {d d':Nat} {k:Int}:Le (er 2 d (er 2 d' (kH k))) (kH k):=Le.of_eq (by rw [A1 1,A1 1])
def Le.abu {d d' d'':Nat} {k:Int}:Le (er 2 d (er 2 d' (er 2 d'' (kH k)))) (kH k):=Le.of_eq (by rw [A1 1,A1 1,A1 1])
end
section
open Go.RowKit
variable [M:bM] [G:cK] [R:dK]
local instance ak9:qW:=⟨[]⟩
local instance ak6:mi:=⟨[]⟩
def uy (P:Program) (T:TT) (E:TypeId) (n:Nat) (ops:Array Oper):List (Nat×List Nat)→ae→(ae→Prop)→(Int→ae→Prop)→Prop
 |[],st,K,_=>K st
 |c::r,st,K,KX=>match ops[c.1]? with
  |some o=>gd n ops o st (fun st=>KF P T E o st (fun x aq=>put n o.dst aq x fun fO=>qu P T ops fO c.2∧uy P T E n ops r fO K KX) fun m aq=>KX m ⟨aF,aq.H⟩) fun st=>put n o.dst st (.v undef) fun fO=>qu P T ops fO c.2∧uy P T E n ops r fO K KX
  |none=>False
section
variable {P:Program} {T:TT} {E:TypeId}
def ahW {w:World} {F:Nat→Prop} {β:Nat→Value} {o:Oper} {a:Act} {st:ae} {k:AV→ae→Prop} {kx:Int→ae→Prop} (hT:bO P T) (hI:Inv w F β st.H) (bJ:∀x,x∈o.op.operands→Rd w F β (ev st.f x) (a.eval x)) (h:xd P T E o st k kx):RB P E (execOp a.eval o) w F β st k kx:=by
 obtain ⟨dst,op,type,pos,after,guard⟩:=o
 cases op<;>simp only [xd] at h<;>first|exact h.elim|skip
 all_goals simp only [Op.operands] at bJ
 case call c =>
  obtain ⟨callee,args,argTypes⟩:=c
  cases callee<;>simp only at h<;>first|exact h.elim|skip
  rename_i f;unfold Mc at h;split at h
  ·rename_i g fs cs lA;have s5:=bJ f (by simp [Call.operands]);rw [lA] at s5;obtain ⟨us,ws,Nh,hs,ew,hu,hw⟩:=s5.nt;obtain ⟨⟨fn,code,dE,dN,hb⟩,h⟩:=h
   have rG : ¬ fn.name = "runtime.NumGoroutine" := by simpa using dN
   refine .inr (.inr ⟨g,us++args.map a.eval++ws,?_,?_⟩)
   ·have e:execOp a.eval { dst,op:=.call { callee:=.value f,args,argTypes },type,pos,after,guard }=(do let d ←l8 (a.eval f) (args.map a.eval);invoke d.target d.args):=rfl;rw [e,Nh];simp [l8,invoke,callFunc,dE,rG,hb]
   ·have hl:(args.map a.eval).size=(args.toList.map (ev st.f)).length:=by simp
    exact h w F β _ hI (by simp [hs,ew]) (Hs hs hl ew hu (fun i hi=>by
     have hi:i<args.size:=by simpa using hi
     have:=bJ args[i] (by simp [Call.operands])
     simpa [aV,hi] using this) hw)
  ·exact h.elim
 case makeInterface t x =>
  split at h
  ·rename_i n i hx hi;split at h
   ·rename_i hk;have nO:=bJ x (by simp);rw [hx] at nO;refine .inl ⟨.iface t (.int .i64 n),w,?_,?_⟩
    ·simp only [execOp];rw [nO.bN];have:=(hT _ _ hi).int hk;simp [Zj,run_underlying this]
    ·exact ⟨_,st,F,β,h,.i (.v (.inl rfl)),Ext.refl hI⟩
   ·exact h.elim
  ·exact h.elim
 case panic x =>
  split at h
  ·rename_i t n hx;obtain ⟨rfl,h⟩:=h;have nO:=bJ x (by simp);rw [hx] at nO;refine .inr (.inl ⟨n,?_,h⟩);simp only [execOp];rw [nO.bN];simp [run_panic_iface]
  ·exact h.elim
def Ok.nu {id n:Nat} {chain:List (Nat×List Nat)} {ops:Array Oper} {st:ae} {Q:Exit→ae→Prop} (hT:bO P T) (hm:P.follows .mixedOrders=true) (qh:Sa chain ops=true)
  (h:sf P T n ops (H7 chain ops) st fun st1=>uy P T E n ops chain st1 (Q .normal) (fun m aq=>Q (.panic (jI E m)) aq)):Ok P n (.region id ops true) st Q:=by
 refine ⟨fun C hn a w c8=>?_⟩;simp only [Sa,bE,ej,mc] at qh;obtain ⟨NG,abW,gn⟩:=qh
 have get:∀i o,ops[i]?=some o→yb i o=true∧uz ops i o=true∧HE ops i o=true∧L0 ops i o=true:=fun i o ho=>by
  have h1:=NG i (lj.1 ho).1;rw [ho] at h1;simp only [bE] at h1;exact ⟨h1.1,h1.2.1,h1.2.2.1,h1.2.2.2⟩
 have lt:∀{i o},ops[i]?=some o→i<ops.size:=fun h=>(lj.1 h).1
 have dec:∀i o,ops[i]?=some o→∀e,e∈o.after→jM .any e=true→e.on<i:=fun i o ho e he hb=>by
  have:=(Array.all_eq_true'.1 (get i o ho).1) e he;simpa [hb] using this
 have XK:∀i o j,ops[i]?=some o→j<ops.size→iN ops i j=true→∃e,e∈o.after∧jM .any e=true∧(e.on=j∨iN ops e.on j=true):=fun i o j ho hj hd=>by
  have h1:=(get i o ho).2.1;simp only [uz,ej,mc] at h1;have h1:=h1 j hj;simp only [hd,Bool.not_true,Bool.false_or] at h1;obtain ⟨e,he,hb⟩:=Array.any_eq_true'.1 h1;simp only [bE,ug,beq_iff_eq] at hb;exact ⟨e,he,hb.1,hb.2⟩
 have low:∀(i:Nat) (o:Oper) (d:Nat),ops[i]?=some o→o.dst=some d→d<1000:=fun i o d ho hd=>by
  have h1:=(get i o ho).2.2.1;unfold HE at h1;rw [hd] at h1;simp only [bE] at h1;simpa using h1.1
 have hp:(∀(i:Nat) (o:Oper) (j:Nat) (o':Oper) (d:Nat),i<ops.size→j<ops.size→ops[i]?=some o→ops[j]?=some o'→o.dst=some d→o'.dst=some d→i=j) ∧
   ∀(i:Nat) (o:Oper) (t j:Nat) (o':Oper),i<ops.size→j<ops.size→ops[i]?=some o→t∈o.looksAt ops→ops[j]?=some o'→o'.dst=some t→iN ops i j=true:=by
  refine ⟨fun i o j o' d hi hj ho aB hd bH=>?_,fun i o t j o' hi hj ho ht aB bH=>?_⟩
  ·have h1:=(get i o ho).2.2.1;unfold HE at h1;rw [hd] at h1;simp only [bE,ej,mc] at h1;have:=h1.2 j hj;rw [aB] at this;simpa [bH] using this
  ·have h1:=(get i o ho).2.2.2;simp only [L0,ej,mc] at h1;have:=h1 t ht j hj;rw [aB] at this;simpa [bH] using this
 have hr:=Pg c8;refine wpIn_region_any hm ?_;show wpAnyIn (fQ C.ro) 0 P .any ops _ ops.size (oc ops.size false) a w.drew;generalize w.drew=w at hr;clear c8;obtain ⟨F,β,hs,hd,hf,he⟩:=hr;have T9:∀i o,i∈uC chain ops→ops[i]?=some o→o∈H7 chain ops:=fun i o hi ho=>ma.2 ⟨i,hi,ho⟩
 have Ur:∀i j,i<ops.size→j<ops.size→iN ops i j=true→j<i:=by
  intro i;induction i using uk with
  |_ i ih =>
   intro j hi hj yE;obtain ⟨e,bD,hb,h2⟩:=XK i _ j (gv hi) hj yE;have Φ:=dec i _ (gv hi) e bD hb
   rcases h2 with h2|h2
   ·omega
   ·have:=ih e.on Φ j (by omega) hj h2;omega
 have yT:xG ops (H7 chain ops):=by
  have key:∀l:List Nat,l.Pairwise (· < ·)→(∀i,i∈l→i∈uC chain ops)→xG ops (l.filterMap fun i=>ops[i]?):=by
   intro l;induction l with
   |nil=>intro _ _;exact True.intro
   |cons i l ih =>
    intro hpw zg;have hi:=zg i (by simp);have IF:=(Jm.1 hi).1;have Ey:ops[i]?=some ops[i]:=gv IF;rw [Rk,Ey];have UJ:=List.pairwise_cons.1 hpw
    have fo:∃d,ops[i].dst=some d:=by
     have:=gn i hi;rw [Ey] at this;exact Option.isSome_iff_exists.1 this
    obtain ⟨d,oE⟩:=fo
    have mem:∀o',o'∈l.filterMap (fun i=>ops[i]?)→∃j,i<j∧ops[j]?=some o':=fun o' aB=>by
     obtain ⟨j,hj,s_⟩:=ma.1 aB;exact ⟨j,UJ.1 j hj,s_⟩
    refine ⟨⟨d,oE,fun o' aB bH=>?_⟩,fun t ht o' aB bH=>?_,ih UJ.2 fun j hj=>zg j (cu _ hj)⟩
    ·obtain ⟨j,eQ,s_⟩:=mem o' aB;have:=hp.1 i _ j o' d IF (lt s_) Ey s_ oE bH;omega
    ·have:∃j,i≤j∧ops[j]?=some o':=by
      rcases bf.1 aB with rfl|h
      ·exact ⟨i,bG _,Ey⟩
      ·obtain ⟨j,eQ,s_⟩:=mem o' h;exact ⟨j,by omega,s_⟩
     obtain ⟨j,eQ,s_⟩:=this;have gU:=hp.2 i _ t j o' IF (lt s_) Ey ht s_ bH;have:=Ur i j IF (lt s_) gU;omega
  exact key _ (List.Pairwise.filter _ List.pairwise_lt_range) fun i hi=>hi
 obtain ⟨fe,lA,hW,acy,bX⟩:=QL (H7 chain ops) _ yT h;have key:∀fuel (listed:Array Bool) (a:Act) (w:World) (done rem:List (Nat×List Nat)) (f:Nat→AV) (H:Hp),listed.size=ops.size→listed.toList.count false≤fuel →
   (∀i o,listed.getD i false=true→ops[i]?=some o→∀e,e∈o.after→jM .any e=true→listed.getD e.on false=true) →
   done++rem=chain→(∀c,c∈done→listed.getD c.1 false=true)→(∀c,c∈rem→listed.getD c.1 false=false)→p_ chain ops rem=true →
   Hg C ops ops.size f H listed a w→(H.map (·.1)).Nodup→(∀i o,i∈uC chain ops→ops[i]?=some o→listed.getD i false=false→vO P T ops H f o) →
   uy P T E n ops rem ⟨f,H⟩ (Q .normal) (fun m aq=>Q (.panic (jI E m)) aq) →
   wpAnyIn (fQ C.ro) 0 P .any ops (fun e a' w'=>∃aq,Rel C aq a' w'∧Q e aq) fuel listed a w:=by
  intro fuel;induction fuel with
  |zero =>
   intro listed a w done rem f H aX wv c_ sY IB BG sX jB IG NA hw
   have d_:∀i,i<ops.size→listed.getD i false=true:=fun i hi=>by
    have h0:listed.toList.count false=0:=by omega
    have bm:i<listed.size:=by omega
    have bI:listed[i]∈listed.toList:=by simp
    cases hb:listed[i] with
    |true=>simp [bm,hb]
    |false=>rw [hb] at bI;exact absurd bI (List.count_eq_zero.1 h0)
   have rL:lQ .any ops listed=[]:=by
    apply AA.2;intro i hi;obtain ⟨h1,o,ho,_⟩:=mem_ready.1 hi;have:=d_ i (lt ho)
    have bm:i<listed.size:=by have:=lt ho;omega
    simp [bm] at h1 this;rw [h1] at this;cases this
   refine ⟨rL,?_⟩
   have c8:rem=[]:=by
    cases rem with
    |nil=>rfl
    |cons c r =>
     simp only [p_,bE] at sX
     have Φ:c.1<ops.size:=by simpa [gH] using sX.1
     have:=BG c (by simp);rw [d_ c.1 Φ] at this;cases this
   subst c8;obtain ⟨F1,dg,g1,g2,g3,g6⟩:=jB.ex;exact ⟨⟨f,H⟩,⟨F1,dg,g1,g2,fun t=>g6 t fun i o hi _ _=>d_ i hi,g3⟩,hw⟩
  |succ fuel ih =>
   intro listed a w done rem f H aX wv c_ sY IB BG sX jB IG NA hw
   have yz:∀i,i<ops.size→(∀o,ops[i]?=some o→∀e,e∈o.after→jM .any e=true→listed.getD e.on false=true)→∀j,j<ops.size→iN ops i j=true→listed.getD j false=true:=by
    intro i;induction i using uk with
    |_ i rM =>
     intro hi fT j hj gU;obtain ⟨e,bD,cO,h⟩:=XK i _ j (gv hi) hj gU;have hl:=fT _ (gv hi) e bD cO;have tg:=dec i _ (gv hi) e bD cO
     rcases h with h|h
     ·rw [←h];exact hl
     ·exact rM e.on tg (by omega) (fun o ho=>c_ e.on o hl ho) j hj h
   have r7:∀{i o},i∈lQ .any ops listed→ops[i]?=some o→listed.getD i false=false∧∀e,e∈o.after→jM .any e=true→listed.getD e.on false=true:=fun hi ho=>by
    obtain ⟨h1,o',aB,h2⟩:=mem_ready.1 hi;rw [ho] at aB;cases aB;have:=lt ho;refine ⟨?_,h2⟩;have bm:=lt ho;rw [←aX] at bm;simpa [bm] using h1
   have isReady:∀{i o},ops[i]?=some o→listed.getD i false=false→(∀j,j<i→listed.getD j false=true)→i∈lQ .any ops listed:=fun ho h1 h2=>by
    refine mem_ready.2 ⟨?_,_,ho,fun e he hb=>h2 _ (dec _ _ ho e he hb)⟩;have bm:=lt ho;rw [←aX] at bm;simpa [bm] using h1
   have next:∀i,i<ops.size→listed.getD i false=false→(listed.setIfInBounds i true).size=ops.size∧(listed.setIfInBounds i true).toList.count false≤fuel:=fun i hi h1=>by
    refine ⟨by simpa using aX,?_⟩
    have bm:i<listed.size:=by omega
    have h2:listed.toList[i]?=some false:=by
     have:listed[i]=false:=by simpa [bm] using h1
     simp [bm,this]
    have:=count_set listed.toList i h2;simp only [Array.toList_setIfInBounds];omega
   have sG:∀i o,ops[i]?=some o→(∀e,e∈o.after→jM .any e=true→listed.getD e.on false=true) →
     ∀j o',(listed.setIfInBounds i true).getD j false=true→ops[j]?=some o'→∀e,e∈o'.after→jM .any e=true→(listed.setIfInBounds i true).getD e.on false=true:=fun i o ho fT j o' hj aB e bD cO=>by
    have bm:i<listed.size:=by rw [aX];exact lt ho
    rw [fF bm] at hj ⊢;split
    ·rfl
    ·split at hj
     ·rename_i e2;subst e2;rw [ho] at aB;cases aB;exact fT e bD cO
     ·exact c_ j o' hj aB e bD cO
   by_cases d_:∀i,i<ops.size→listed.getD i false=true
   ·-- nothing is left
    have rL:lQ .any ops listed=[]:=by
     apply AA.2;intro i hi;obtain ⟨_,o,ho,_⟩:=mem_ready.1 hi;obtain ⟨dO,_⟩:=r7 hi ho;rw [d_ i (lt ho)] at dO;cases dO
    refine ⟨fun _=>?_,fun i hi=>by rw [rL] at hi;cases hi⟩
    have c8:rem=[]:=by
     cases rem with
     |nil=>rfl
     |cons c r =>
      simp only [p_,bE] at sX
      have Φ:c.1<ops.size:=by simpa [gH] using sX.1
      have:=BG c (by simp);rw [d_ c.1 Φ] at this;cases this
    subst c8;obtain ⟨F1,dg,g1,g2,g3,g6⟩:=jB.ex;exact ⟨⟨f,H⟩,⟨F1,dg,g1,g2,fun t=>g6 t fun i o hi _ _=>d_ i hi,g3⟩,hw⟩
   ·have least:∃i,i<ops.size∧listed.getD i false=false∧∀j,j<i→listed.getD j false=true:=by
     have:∃i,i<ops.size∧listed.getD i false=false:=by
      refine xo fun bp=>d_ fun i hi=>?_;cases hb:listed.getD i false
      ·exact absurd ⟨i,hi,hb⟩ bp
      ·rfl
     obtain ⟨i,hi,hb⟩:=this;induction i using uk with
     |_ i rM =>
      by_cases aR:∀j,j<i→listed.getD j false=true
      ·exact ⟨i,hi,hb,aR⟩
      ·have:∃j,j<i∧listed.getD j false=false:=by
        refine xo fun bp=>aR fun j hj=>?_;cases hb:listed.getD j false
        ·exact absurd ⟨j,hj,hb⟩ bp
        ·rfl
       obtain ⟨j,hj,Eo⟩:=this;exact rM j hj (by omega) Eo
    obtain ⟨i0,ry,eo,yx⟩:=least;have c8:=isReady (gv ry) eo yx;refine ⟨fun h0=>(by rw [h0] at c8;cases c8),fun i hi=>?_⟩;obtain ⟨_,o,ho,_⟩:=mem_ready.1 hi;obtain ⟨dO,fT⟩:=r7 hi ho
    have gU:∀j,j<ops.size→iN ops i j=true→listed.getD j false=true:=yz i (lt ho) fun o' aB=>by rw [ho] at aB;cases aB;exact fT
    obtain ⟨mP,lC⟩:=next i (lt ho) dO
    have bm:i<listed.size:=by rw [aX];exact lt ho
    by_cases s5:i∈uC chain ops
    ·-- one of Gl free alc
     have qk:=(Jm.1 s5).2;refine abH hT hn aX ho (fun t j o' hj ht aB bH=>gU j hj (hp.2 i o t j o' (lt ho) hj ho ht aB bH)) (NA i o s5 ho dO) (acy o (T9 i o s5 ho)) jB fun a2 w2 hh=>?_;refine ih _ a2 w2 done rem f H mP lC (sG i o ho fT) sY (fun c hc=>?_) (fun c hc=>?_) sX hh IG (fun j o' hj aB hl=>?_) hw
     ·rw [fF bm];split
      ·rfl
      ·exact IB c hc
     ·rw [fF bm,if_neg]
      ·exact BG c hc
      ·exact qk c (by rw [←sY];exact vE _ hc)
     ·rw [fF bm] at hl;split at hl
      ·cases hl
      ·exact NA j o' hj aB hl
    ·-- Gl next of Gl chain
     have kQ:∃c,c∈chain∧c.1=i:=by
      refine xo fun bp=>s5 (Jm.2 ⟨lt ho,fun c hc e=>bp ⟨c,hc,e⟩⟩)
     obtain ⟨c0,oD,Bc⟩:=kQ
     have Ue:c0∈rem:=by
      rw [←sY] at oD
      rcases gl.1 oD with h|h
      ·have:=IB c0 h;rw [Bc,dO] at this;cases this
      ·exact h
     cases rem with
     |nil=>cases Ue
     |cons c r =>
      have ach:c.1=i:=by
       have LZ:∀(l:List (Nat×List Nat)) (c:Nat×List Nat),p_ chain ops (c::l)=true→c0∈l→(∀x,x∈c::l→listed.getD x.1 false=false)→False:=by
        intro l;induction l with
        |nil=>intro c _ h _;cases h
        |cons c' l Og =>
         intro c eP abQ U4;simp only [p_,bE] at eP
         rcases bf.1 abQ with rfl|h
         ·have fZ:c.1<ops.size:=by simpa [gH] using eP.1
          have:=gU c.1 fZ (by rw [←Bc];exact eP.2.2.2.1);rw [U4 c (by simp)] at this;cases this
         ·exact Og c' (by simp only [p_,bE];exact eP.2.2.2.2) h fun x hx=>U4 x (cu _ hx)
       rcases bf.1 Ue with rfl|h
       ·exact Bc
       ·exact (LZ r c sX h BG).elim
      subst ach;have abX:=sX;simp only [p_,bE] at sX;obtain ⟨_,_,Ns,_,abV⟩:=sX;simp only [uy,ho] at hw;obtain ⟨F1,dg,g1,g2,g3,g6⟩:=jB.ex;have look:∀t,t∈o.looksAt ops→Rd w F1 dg (f t) (a.tmps.getD t undef):=fun t ht=>g6 t fun j o' hj aB bH=>gU j hj (hp.2 c.1 o t j o' (lt ho) hj ho ht aB bH)
      have rR:∀x,x∈o.op.operands→Rd w F1 dg (ev f x) (a.eval x):=fun x hx=>by
       cases x with
       |tmp t=>exact look t (List.mem_append_left _ (ma.2 ⟨.tmp t,by simpa using hx,rfl⟩))
       |const v=>exact nV _ _ _ _
       |global g=>exact .χ
       |func g=>exact .i (.c rfl rfl (fun i hi=>absurd hi (by simp)) (fun i hi=>absurd hi (by simp)))
      have go:∀(v:Value) (w':World),EPost w F1 dg ⟨f,H⟩ (fun x aq=>put n o.dst aq x fun fO=>qu P T ops fO c.2∧uy P T E n ops r fO (Q .normal) (fun m aq=>Q (.panic (jI E m)) aq)) v w' →
        wpAnyIn (fQ C.ro) 0 P .any ops (fun e a' w'=>∃aq,Rel C aq a' w'∧Q e aq) fuel (listed.setIfInBounds c.1 true) (a.put o.dst v) w':=by
       rintro v w' ⟨x,aq,F2,cj,zd,hx,Nd⟩;rw [put_eq] at zd
       obtain ⟨f2,IE,hq,zf⟩:∃f2:Nat→AV,(qu P T ops ⟨f2,aq.H⟩ c.2∧uy P T E n ops r ⟨f2,aq.H⟩ (Q .normal) (fun m aq=>Q (.panic (jI E m)) aq))∧(∀t,o.dst≠some t→f2 t=aq.f t)∧∀t,o.dst=some t→f2 t=x∧t<n:=by
        cases fo:o.dst with
        |none=>rw [fo] at zd;exact ⟨aq.f,zd,fun _ _=>rfl,fun t h=>by cases h⟩
        |some d =>
         rw [fo] at zd;obtain ⟨Φ,zd⟩:=cond_prop zd;refine ⟨dX aq.f d x,zd,fun t ht=>Qu fun e=>ht (by rw [e]),fun t ht=>?_⟩;cases ht;exact ⟨Qt _ _ _,by simpa [gH] using Φ⟩
       refine ih _ _ w' (done++[c]) r f2 aq.H mP lC (sG c.1 o ho fT) (by rw [lN];exact sY) (fun c' eK=>?_) (fun c' eK=>?_) abV ⟨F2,cj,?_,?_,(by rw [put_defers];exact g3.trans (Nd.vn aF)),fun t ht=>?_⟩ Nd.inv.keys (fun j o' hj aB hl=>?_) IE.2
       ·rw [fF bm];split
        ·rfl
        ·rcases gl.1 eK with h|h
         ·exact IB c' h
         ·rename_i aP;rw [dC.1 h] at aP;exact absurd rfl aP
       ·rw [fF bm,if_neg]
        ·exact BG c' (cu _ eK)
        ·intro e
         have LZ:∀(l:List (Nat×List Nat)) (b:Nat×List Nat),p_ chain ops (b::l)=true→∀y,y∈l→b.1<y.1:=by
          intro l;induction l with
          |nil=>intro b _ y h;cases h
          |cons c' l Og =>
           intro b eP y hy;simp only [p_,bE] at eP
           have hb:b.1<ops.size:=by simpa [gH] using eP.1
           have abP:c'.1<ops.size:=by simpa [gH] using eP.2.2.2.2.1
           have h1:=Ur c'.1 b.1 abP hb eP.2.2.2.1
           rcases bf.1 hy with rfl|hy
           ·exact h1
           ·have:=Og c' (by simp only [p_,bE];exact eP.2.2.2.2) y hy;omega
         have:=LZ r c abX c' eK;omega
       ·cases fo:o.dst with
        |none=>exact g1
        |some d=>simpa [iL] using g1
       ·cases fo:o.dst with
        |none=>exact g2
        |some d=>simpa [iL] using g2
       ·by_cases pH:o.dst=some t
        ·obtain ⟨e1,e2⟩:=zf t pH;rw [e1,pH]
         have:t<a.tmps.size:=by rw [g1,hn];exact e2
         simpa [iL,this] using hx
        ·rw [hq t pH]
         have h1:=g6 t fun j o' hj aB bH=>by
          have:=ht j o' hj aB bH;rw [fF bm] at this;split at this
          ·rename_i e;subst e;rw [ho] at aB;cases aB;exact absurd bH pH
          ·exact this
         have h2:=Nd.keep t _ h1;cases fo:o.dst with
         |none=>exact h2
         |some d =>
          have aP:d≠t:=fun e=>pH (by rw [fo,e]);simpa [iL,Array.getElem?_setIfInBounds_ne aP] using h2
       ·rw [fF bm] at hl;split at hl
        ·cases hl
        ·have Nn:=Jm.1 hj;have h3:=(ej.1 Ns) j hj;simp only [ug] at h3
         rcases h3 with h3|h3
         ·have:=gU j Nn.1 h3;rw [this] at hl;cases hl
         ·exact Ow IE.1 j o' (by simpa using h3) aB
      have run:(KF P T E o ⟨f,H⟩ (fun x aq=>put n o.dst aq x fun fO=>qu P T ops fO c.2∧uy P T E n ops r fO (Q .normal) (fun m aq=>Q (.panic (jI E m)) aq)) fun m aq=>Q (.panic (jI E m)) ⟨aF,aq.H⟩)→o.wpIn (fQ C.ro) 0 P a w (wpAnyIn (fQ C.ro) 0 P .any ops (fun e a' w'=>∃aq,Rel C aq a' w'∧Q e aq) fuel (listed.setIfInBounds c.1 true)) (fun e a' w'=>∃aq,Rel C aq a' w'∧Q e aq):=fun EP=>by
       rcases EP with hw|hw
       rotate_left
       ·have Fu:∀(m:Int) (aq:ae) (w':World) (F':Nat→Prop) (av:Nat→Value),Q (.panic (jI E m)) ⟨aF,aq.H⟩→Ext w F1 dg ⟨f,H⟩ w' F' av aq→∃aq,Rel C aq a w'∧Q (.panic (jI E m)) aq:=fun m aq w' F' av hk hx=>⟨⟨aF,aq.H⟩,⟨F',av,g1,g2,fun _=>.χ,g3.trans (hx.vn aF)⟩,hk⟩;have dJ:=XR hw
        rcases ahW (st:=⟨f,H⟩) hT g3.inv rR hw with ⟨v,w',aY,rJ⟩|⟨m,aY,hk⟩|⟨g,vs,aY,hc⟩
        ·refine Oper.kj dJ aY ?_;rw [xy];exact go v w' rJ
        ·refine Oper.kj dJ aY ?_;rw [ZI];exact Fu m ⟨f,H⟩ w F1 dg hk (Ext.refl g3.inv)
        ·refine Oper.kj dJ aY ?_;rw [AE];refine ⟨fun h=>(by cases h),vV (hc.mono ?_)⟩;rintro e w' (⟨v,rfl,rJ⟩|⟨m,rfl,aq,F',av,hk,hx⟩)
         ·exact go v w' rJ
         ·exact Fu m aq w' F' av hk hx
       have dJ:=XS hw
       rcases XT (st:=⟨f,H⟩) hT g3.inv rR hw with ⟨v,w',aY,rJ⟩|⟨w',aY,rJ⟩|⟨g,vs,aY,hc⟩|⟨l,fn,tmps,assign,body,aY,hc⟩
       ·refine Oper.kj dJ aY ?_;rw [xy];exact go v w' rJ
       ·refine Oper.kj dJ aY ?_;rw [Oper.uponIn_skip];exact go undef w' rJ
       ·refine Oper.kj dJ aY ?_;rw [AE];refine ⟨fun h=>(by cases h),vV (hc.mono ?_)⟩;rintro e w' ⟨v,rfl,rJ⟩;exact go v w' rJ
       ·refine Oper.kj dJ aY ?_;rw [Oper.uponIn_round];refine ⟨fun h=>(by cases h),Xa (hc.mono ?_)⟩;rintro e w' ⟨v,rfl,rJ⟩;exact go v w' rJ
      have skip:(put n o.dst ⟨f,H⟩ (.v undef) fun fO=>qu P T ops fO c.2∧uy P T E n ops r fO (Q .normal) (fun m aq=>Q (.panic (jI E m)) aq))→wpAnyIn (fQ C.ro) 0 P .any ops (fun e a' w'=>∃aq,Rel C aq a' w'∧Q e aq) fuel (listed.setIfInBounds c.1 true) (a.put o.dst undef) w:=fun hw =>
       go undef w ⟨.v undef,⟨f,H⟩,F1,dg,hw,.i (.v (.inr rfl)),Ext.refl g3.inv⟩
      unfold wpOpIn;simp only [ho];rw [sR] at hw;cases hg:o.guard with
      |none =>
       rw [hg] at hw
       have adl:dU o (yielded ops a.tmps)=true:=by simp [dU,hg]
       rw [if_pos adl];exact run hw
      |some jw =>
       obtain ⟨j,want⟩:=jw;rw [hg] at hw;simp only at hw;split at hw
       ·rename_i d oE;obtain ⟨Nt,hw⟩:=cond_prop hw
        have uM:d∈o.looksAt ops:=by
         refine vE _ ?_;rw [hg];simp [oE]
        have gn:=look d uM
        have Nt:d<a.tmps.size:=by rw [g1,hn];simpa [gH] using Nt
        have hy:∀v,a.tmps.getD d undef=v→yielded ops a.tmps j=match v with|.bool b=>some b|_=>none:=by
         intro v hv
         have h2:a.tmps[d]?=some v:=by
          rw [←hv];simp [Nt]
         unfold yielded;rw [oE,cD,h2];cases v<;>rfl
        split at hw
        ·rename_i b hb;rw [hb] at gn;have g_:=hy _ gn.bN;simp only at g_;by_cases jA:b=want
         ·have zk:dU o (yielded ops a.tmps)=true:=by simp [dU,hg,g_,jA]
          rw [if_pos zk];have:=hw.y jA;rw [KR (by rw [hb,jA])] at this;exact run this
         ·have qf:b=!want:=by cases b<;>cases want<;>first|rfl|exact absurd rfl jA
          have zk:¬dU o (yielded ops a.tmps)=true:=by simp [dU,hg,g_,jA]
          rw [if_neg zk];have:=hw.n qf;rw [KR (by rw [hb,qf])] at this;exact ⟨fun _ _=>trivial,skip this⟩
        ·rename_i vs hb;rw [hb] at gn;have g_:=hy _ gn.bN;simp only at g_
         have zk:¬dU o (yielded ops a.tmps)=true:=by simp [dU,hg,g_]
         rw [if_neg zk];exact ⟨fun _ _=>trivial,skip hw⟩
        ·exact hw.elim
       ·exact hw.elim
 have rep:∀i,(oc ops.size false).getD i false=false:=fun i=>by
  simp only [lh,Array.getElem?_replicate];split<;>rfl
 refine key ops.size _ a w [] chain fe st.H (by simp) (by simp) (fun i o hi=>by rw [rep] at hi;cases hi) rfl (fun c hc=>by cases hc) (fun c _=>rep _) abW ⟨F,β,hs,hd,he,fun t ht=>?_⟩ he.inv.keys (fun i o hi ho _=>bX o (T9 i o hi ho)) hW
 ·have bp:∀i o,i<ops.size→ops[i]?=some o→o.dst≠some t:=fun i o hi ho bH=>by
   have:=ht i o hi ho bH;rw [rep] at this;cases this
  rw [lA t fun o ho=>by
   obtain ⟨i,hi,aB⟩:=ma.1 ho
   exact bp i o (lt aB) aB]
  exact hf t
end
end
section
open Go.Shelf Go.RowKit Go.Lib Go.Proofs
variable {P:Program} {ρ:Ren}
def lay (a:List Value) (o:Nat) (us:List Value):List Value:=a.take o++us++a.drop (o+us.length)
def mV {a:List Value} {o:Nat} {us:List Value} (h:o+us.length≤a.length):(lay a o us).length=a.length:=by
 simp [lay];omega
def zw {a:List Value} {o:Nat} {us:List Value} (h:o+us.length≤a.length) (q:Nat):(lay a o us)[q]?=if q<o then a[q]? else if q<o+us.length then us[q-o]? else a[q]?:=by
 unfold lay;simp only [gG,dj,dR,gk,js]
 have e:min o a.length=o:=by omega
 rw [e];by_cases h1:q<o
 ·have h2:q<o+us.length:=by omega
  simp [h1,h2]
 ·by_cases h2:q<o+us.length
  ·simp [h1,h2]
  ·have h3:o+us.length+(q-(o+us.length))=q:=by omega
   simp [h1,h2,h3]
def J' (w:World) (dT sT ty e:TypeId) (i:TypeInfo) (K:Nat) (hu:P.underlying dT=some (.slice e)) (hi:P.info? e=some i) (hK:i.size=K) (g o dn dc:Nat) (a:Addr) (sn sc:Nat) (cur:List Value) (t:TypeId) (hg:w.heap[g]?=some (.cells cur.toArray t (0,0)))
  (us:List Value) (hl:us.length=p4 sn dn*K) (iF:∀j v,us[j]?=some v→w.cell? (a.add j)=some v) (jj:o+us.length≤cur.length) (fb:∀v,v∈us→v.oneCell'=true) :
  (qM #[dT,sT] ty #[.slice (some ⟨g,o,none⟩) dn dc,.slice (some a) sn sc]).run P w=.ok (goInt (p4 sn dn)) (w.setRow g (lay cur o us).toArray):=by
 have Bp:=run_firstCells_some (P:=P) w K (p4 sn dn) a sn sc us hl iF;have bV:=run_storeCells_at P g o t us 0 cur.toArray w hg (by simpa using jj) fb;simp only [lO] at bV;simp [qM,run_underlying hu,Builtin.lenOf,sizeOf,typeInfo,hi,hK,Bp,bV,lay]
def agI (w:World) (tS tR e:TypeId) (ht:P.underlying tS=some (.slice e)) (size:Nat) (hz:∀ w, (sr e).run P w=.ok size w)
    (a b:Addr) (la ca lb cb:Nat) (aP:a.block≠b.block) (tA tB:TypeId) (kA kB:Nat) (hsa:w.shape? a.block=some (tA, kA)) (NT:w.shape? b.block=some (tB, kB)) (hkA:kA≠0) (hkB:kB≠0) (hfb:∀ o, w.frozen? { block:=b.block, off:=o }=false) (ace:w.frozen? b=false) :
    (sm #[tS, tS] #[tR] #[.slice (some a) la ca, .slice (some b) lb cb]).run P w=.ok (.bool false) w:=by
  have pA:(a.block != b.block)=true:=by simpa using aP
  have acC:(a.block==b.block)=false:=by simpa using aP
  change Sem.run P (α:=Value) (do
    let some t := (#[tS, tS] : Array TypeId)[0]? | stuck "slices.overlaps: no parameter types"
    let .slice elem ← underlying t | stuck "slices.overlaps: slice type expected"
    let size ← sizeOf elem
    match (some a:Option Addr), (some b:Option Addr) with
    |some a, some b =>
      if la=0∨lb=0∨size=0 then pure (Dl false)
      else if a.block != b.block&&(← frozen a)&&(← frozen b) then unsupported .addressObserved
      else do
        if a.block != b.block then do
          noView a;noView b
          if ← mayBeOne a b then return Dl ((← choose (.extern "sameAddr.stringBytes" 2)) == 1)
        pure (Dl (a.block==b.block&&a.off<b.off+lb*size&&b.off<a.off+la*size))
    |_, _=>pure (Dl false)) w=_
  by_cases h0:la=0∨lb=0∨size=0
  · simp [run_underlying ht, hz, h0]
  · cases kA with
   |zero=>exact absurd rfl hkA
   |succ kA =>
    cases kB with
    |zero=>exact absurd rfl hkB
    |succ kB =>
      have acf:=hfb (kB+1);simp [run_underlying ht, hz, h0, pA, acC, frozen, noView, viewAt, mayBeOne, stringish, shape, Sem.run, hsa, NT, ace, acf]
def Xc (w:World) (t tx ty e:TypeId) (i:TypeInfo) (K:Nat) (ht:P.underlying t=some (.slice e)) (hi:P.info? e=some i) (hK:i.size=K) (g lG z6:Nat) (cur:List Value) (hg:w.heap[g]?=some (.cells cur.toArray e (0,0)))
  (x:Value) (n:Nat) (news:List Value) (hs:Go.Src P i.size tx x n news w) (fC:lG+n≤z6) (jj:lG*K+news.length≤cur.length) :
  (ib #[t,tx] ty #[.slice (some ⟨g,0,none⟩) lG z6,x]).run P w=.ok (.slice (some ⟨g,0,none⟩) (lG+n) z6) (w.setRow g (lay cur (lG*K) news).toArray):=by
 have bV:=run_storeCells_at P g (lG*K) e news 0 cur.toArray w hg (by simpa using jj) hs.one;simp only [lO] at bV;have hc:=hs.cells;rw [hK] at hc
 rcases hs.kind with ⟨e',hk⟩|hk<;>simp [ib,run_underlying ht,run_underlying hk,sizeOf,typeInfo,hi,hK,hs.len,fC,hc,gg,bV,lay]
structure ur (P:Program) (ρ:Ren) (i0:TypeInfo) (z:Value):Prop where
 mixed:P.follows .mixedOrders=true
 f22:Bears P (ρ.f 22) (Body2.n22 ρ)
 yZ:∀args w w' v,(sm #[ρ.t 24,ρ.t 24] #[ρ.t 4] args).run P w=.ok v w'→(callFunc (ρ.f 29) args).run P w=.ok (.value v) w'
 t0:P.underlying (ρ.t 0)=some (ZP #[])
 a0:∀w,(isAgg (ρ.t 0)).run P w=.ok false w
 z0:∀w,(sr (ρ.t 0)).run P w=.ok 1 w
 v0:∀w,(zeroValue (ρ.t 0)).run P w=.ok (Value.tuple #[]) w
 t3:P.underlying (ρ.t 3)=some (ZN K_)
 a3:∀w,(isAgg (ρ.t 3)).run P w=.ok false w
 z3:∀w,(sr (ρ.t 3)).run P w=.ok 1 w
 v3:∀w,(zeroValue (ρ.t 3)).run P w=.ok (Value.int K_ 0) w
 t4:P.underlying (ρ.t 4)=some (ZM)
 a4:∀w,(isAgg (ρ.t 4)).run P w=.ok false w
 z4:∀w,(sr (ρ.t 4)).run P w=.ok 1 w
 v4:∀w,(zeroValue (ρ.t 4)).run P w=.ok (Dl false) w
 t24:P.underlying (ρ.t 24)=some (ZO (ρ.t 9))
 a24:∀w,(isAgg (ρ.t 24)).run P w=.ok false w
 z24:∀w,(sr (ρ.t 24)).run P w=.ok 1 w
 v24:∀w,(zeroValue (ρ.t 24)).run P w=.ok (Rx none 0 0) w
 i9:P.info? (ρ.t 9)=some i0
 z9:∀w,(sr (ρ.t 9)).run P w=.ok i0.size w
 k9:0<i0.size
 hz:i0.zero=some z
 zs:z.cells.size=i0.size
 z1:∀v,v∈z.cells.toList→v.oneCell'=true
set_option maxHeartbeats 4000000 in
set_option maxRecDepth 100000 in
def adA {i0:TypeInfo} {z:Value} (L:ur P ρ i0 z) (K g c n i vb vo m vc:Nat) (cur vs:List Value) (w:World) (fR:i0.size=K) (hi:i<n) (hm:0<m) (fC:n+m≤c) (TR:c≤9223372036854775807) (I6:vb≠g)
  (hg:w.heap[g]?=some (.cells cur.toArray (ρ.t 9) (0,0))) (hs:cur.length=c*K) (oL:vs.length=m*K) (jk:∀j v,vs[j]?=some v→w.cell? ⟨vb,vo+j,none⟩=some v)
  (sS:∀q v,q<n*K→cur[q]?=some v→v.oneCell'=true) (rj:∀v,v∈vs→v.oneCell'=true) :
  Calls P (ρ.f 22) #[.slice (some ⟨g,0,none⟩) n c,.int .i64 i,.slice (some ⟨vb,vo,none⟩) m vc] w fun e w' =>
   e=.returned (.slice (some ⟨g,0,none⟩) (n+m) c)∧w'=(w.drew.setRow g (lay cur ((i+m)*K) ((cur.drop (i*K)).take ((n-i)*K))).toArray).setRow g (lay (lay cur ((i+m)*K) ((cur.drop (i*K)).take ((n-i)*K))) (i*K) vs).toArray:=by
 have t0:=L.t0;have a0:=L.a0;have z0:=L.z0;have v0:=L.v0;have t3:=L.t3;have a3:=L.a3;have z3:=L.z3;have v3:=L.v3;have t4:=L.t4;have a4:=L.a4;have z4:=L.z4;have v4:=L.v4;have t24:=L.t24;have a24:=L.a24;have z24:=L.z24;have v24:=L.v24;have u0:=run_underlying L.t0;have u3:=run_underlying L.t3;have u4:=run_underlying L.t4;have Qs:=run_underlying L.t24;have z9:=L.z9;rw [fR] at z9
 have kK:0<K:=by have:=L.k9;omega
 have uX:¬((m:Int)=0):=by omega
 have zo:¬((i:Int)=(n:Int)):=by omega
 have ac0:w.shape? g=some (ρ.t 9,c*K):=by simp [World.shape?,hg,hs]
 have ac':∃cv tv fv,w.heap[vb]?=some (.cells cv tv fv)∧cv.size≠0:=by
  have rI:0<vs.length:=by rw [oL];exact Rs hm kK
  have h1:=jk 0 _ (bU rI);unfold vK at h1;split at h1
  ·rename_i h2;exact ⟨_,_,_,h2,fun h0=>by simp [h0] at h1⟩
  ·cases h1
 obtain ⟨cv,tv,fv,hvh,hcv⟩:=ac'
 have acZ:w.shape? vb=some (tv,cv.size):=by simp [World.shape?,hvh]
 have yZ:∀o lb cb,(callFunc (ρ.f 29) #[.slice (some ⟨vb,vo,none⟩) m vc,.slice (some ⟨g,o,none⟩) lb cb]).run P w=.ok (.value (.bool false)) w:=fun o lb cb =>
  L.yZ _ _ _ _ (agI w (ρ.t 24) (ρ.t 4) (ρ.t 9) L.t24 K z9 ⟨vb,vo,none⟩ ⟨g,o,none⟩ m vc lb cb I6 tv (ρ.t 9) cv.size (c*K) acZ ac0 hcv (Rs (by omega) kK |> Nat.pos_iff_ne_zero.1) (fun o=>by simp [alI,hg]) (by simp [alI,hg]))
 have mixed:=L.mixed
 have zk:IntKind.i64.wrap ((i:Int)+(m:Int))=(i:Int)+(m:Int):=by rw [Zm];omega
 have cO:(0:Int)≤(i:Int)+(m:Int):=by omega
 have kQ:i≤n:=by omega
 have htn:((i:Int)+(m:Int)).toNat=i+m:=by omega
 have iA:¬(c=i+m):=by omega
 have MW:(i:Int)≤(n:Int)+(m:Int):=by omega
 have hb4:¬(c=i):=by omega
 obtain ⟨us,fD⟩:∃us,us=(cur.drop (i*K)).take ((n-i)*K):=⟨_,rfl⟩
 have e0:i*K+(n-i)*K=n*K:=by rw [←bP,show i+(n-i)=n by omega]
 have e1:(i+m)*K+(n-i)*K=(n+m)*K:=by rw [←bP,show i+m+(n-i)=n+m by omega]
 have e2:(n+m)*K≤c*K:=cG _ fC
 have e3:i*K+m*K=(i+m)*K:=by rw [bP]
 have e4:(i+m)*K≤(n+m)*K:=cG _ (by omega);have e5:n*K≤(n+m)*K:=cG _ (by omega)
 have fc:us.length=(n-i)*K:=by rw [fD];simp;omega
 have lB:∀j v,us[j]?=some v→j<(n-i)*K∧cur[i*K+j]?=some v:=fun j v hj=>by
  have h1:=(fh.1 hj).1;rw [fc] at h1;rw [fD,gk,if_pos h1,js] at hj;exact ⟨h1,hj⟩
 have Eb:∀v,v∈us→v.oneCell'=true:=fun v hv=>by
  obtain ⟨j,hj,rfl⟩:=Rn hv;obtain ⟨h1,h2⟩:=lB j _ (bU hj);exact sS _ _ (by omega) h2
 rw [←fD];obtain ⟨c1,ax⟩:∃c1,c1=lay cur ((i+m)*K) us:=⟨_,rfl⟩
 have MZ:c1.length=c*K:=by rw [ax,mV (by rw [fc];omega),hs]
 rw [←ax];have et:w.drew.heap[g]?=some (.cells cur.toArray (ρ.t 9) (0,0)):=hg
 have abY:∀ty dc sc,(qM #[(ρ.t 24),(ρ.t 24)] ty #[.slice (some ⟨g,(i+m)*K,none⟩) (n+m-(i+m)) dc,.slice (some ⟨g,i*K,none⟩) (n+m-i) sc]).run P w.drew=.ok (goInt (p4 (n+m-i) (n+m-(i+m)))) (w.drew.setRow g c1.toArray):=fun ty dc sc=>by
  rw [ax];exact J' w.drew _ _ ty (ρ.t 9) i0 K L.t24 L.i9 fR g ((i+m)*K) (n+m-(i+m)) dc ⟨g,i*K,none⟩ (n+m-i) sc cur (ρ.t 9) et us (by rw [fc,show p4 (n+m-i) (n+m-(i+m))=n-i by rw [show ∀a b:Nat,p4 a b=min a b from fun _ _=>rfl];omega])
   (fun j v hj=>by
    obtain ⟨_,h2⟩:=lB j v hj;rw [gg]
    simp [vK,et,h2]) (by rw [fc];omega) Eb
 have Φ:g<w.heap.size:=(lj.1 hg).1
 have Δ:(w.drew.setRow g c1.toArray).heap[g]?=some (.cells c1.toArray (ρ.t 9) (0,0)):=by simp [xz,pW,et]
 have ν:∀j v,vs[j]?=some v→(w.drew.setRow g c1.toArray).cell? ⟨vb,vo+j,none⟩=some v:=fun j v hj=>by
  rw [←jk j v hj];simp [vK,xz,pW,Ne.symm I6];rfl
 have abZ:∀(W:World),W.heap=(w.drew.setRow g c1.toArray).heap→∀ty dc,(qM #[(ρ.t 24),(ρ.t 24)] ty #[.slice (some ⟨g,i*K,none⟩) (n+m-i) dc,.slice (some ⟨vb,vo,none⟩) m vc]).run P W=.ok (goInt (p4 m (n+m-i))) (W.setRow g (lay c1 (i*K) vs).toArray):=fun W hW ty dc =>
  J' W _ _ ty (ρ.t 9) i0 K L.t24 L.i9 fR g (i*K) (n+m-i) dc ⟨vb,vo,none⟩ m vc c1 (ρ.t 9) (by rw [hW];exact Δ) vs (by rw [oL,show p4 m (n+m-i)=m by rw [show ∀a b:Nat,p4 a b=min a b from fun _ _=>rfl];omega])
   (fun j v hj=>by
    rw [gg];have:=ν j v hj;unfold vK at this ⊢
    rw [hW];exact this) (by rw [oL,MZ];omega) rj
 obtain ⟨_,_,FG⟩:=L.f22;go_enter FG,Body2.n22_ntmps ρ;go_wp2_with (simp only [yZ]);go_region_law_o (refine step_copy_runI rfl _ _ (ρ.t 24) (ρ.t 24) rfl _ _ (by simp [Aw,iL]) (by simp [Aw,iL]) (abY _ _ _) ?_);go_wp2_with (at_builtin;refine wpList_copy_runI _ rfl _ _ (ρ.t 24) (ρ.t 24) rfl _ _ rfl rfl (abZ _ rfl _ _) ?_);go_ret;exact ⟨rfl,by rw [ax,fD]⟩
set_option maxHeartbeats 4000000 in
set_option maxRecDepth 100000 in
def adz {i0:TypeInfo} {z:Value} (L:ur P ρ i0 z) (K g c n vb vo m vc:Nat) (cur vs:List Value) (w:World) (fR:i0.size=K) (hm:0<m) (fC:n+m≤c) (TR:c≤9223372036854775807)
  (hg:w.heap[g]?=some (.cells cur.toArray (ρ.t 9) (0,0))) (hs:cur.length=c*K) (oL:vs.length=m*K) (jk:∀j v,vs[j]?=some v→w.cell? ⟨vb,vo+j,none⟩=some v) (rj:∀v,v∈vs→v.oneCell'=true) :
  Calls P (ρ.f 22) #[.slice (some ⟨g,0,none⟩) n c,.int .i64 n,.slice (some ⟨vb,vo,none⟩) m vc] w fun e w' =>
   e=.returned (.slice (some ⟨g,0,none⟩) (n+m) c)∧w'=w.setRow g (lay cur (n*K) vs).toArray:=by
 have t0:=L.t0;have a0:=L.a0;have z0:=L.z0;have v0:=L.v0;have t3:=L.t3;have a3:=L.a3;have z3:=L.z3;have v3:=L.v3;have t4:=L.t4;have a4:=L.a4;have z4:=L.z4;have v4:=L.v4;have t24:=L.t24;have a24:=L.a24;have z24:=L.z24;have v24:=L.v24;have u0:=run_underlying L.t0;have u3:=run_underlying L.t3;have u4:=run_underlying L.t4;have Qs:=run_underlying L.t24;have mixed:=L.mixed;have z9:=L.z9;rw [fR] at z9
 have kK:0<K:=by have:=L.k9;omega
 have uX:¬((m:Int)=0):=by omega
 have iF:Go.Src P i0.size (ρ.t 24) (.slice (some ⟨vb,vo,none⟩) m vc) m vs w:=Q9 w L.t24 ⟨vb,vo,none⟩ m vc vs (by rw [fR];exact oL) (fun j u hj=>by rw [gg];exact jk j u hj) rj
 have e1:n*K+m*K=(n+m)*K:=by rw [bP]
 have e2:(n+m)*K≤c*K:=cG _ fC
 have aY:∀ty,(ib #[(ρ.t 24),(ρ.t 24)] ty #[.slice (some ⟨g,0,none⟩) n c,.slice (some ⟨vb,vo,none⟩) m vc]).run P w=.ok (.slice (some ⟨g,0,none⟩) (n+m) c) (w.setRow g (lay cur (n*K) vs).toArray):=fun ty=>by
  exact Xc w (ρ.t 24) (ρ.t 24) ty (ρ.t 9) i0 K L.t24 L.i9 fR g n c cur hg _ m vs iF fC (by omega)
 obtain ⟨_,_,FG⟩:=L.f22;go_enter FG,Body2.n22_ntmps ρ;go_wp2_with (at_builtin;refine La _ rfl _ _ _ _ rfl _ _ rfl rfl _ _ (aY _) ?_);go_ret;exact ⟨rfl,rfl⟩
set_option maxHeartbeats 4000000 in
set_option maxRecDepth 100000 in
def Vl {i0:TypeInfo} {z:Value} (L:ur P ρ i0 z) (K:Nat) (base:Option Addr) (n c vb vo m vc:Nat) (cs vs:List Value) (w:World) (fR:i0.size=K) (hm:0<m) (qk:n≤c) (fC:c<n+m) (uG:(n+m)*i0.bytes≤140737488355328) (ME:n+m≤140737488355328)
  (c_:cs.length=n*K) (oL:vs.length=m*K) (pC:base=none→n=0) (fZ:∀a,base=some a→∀j v,cs[j]?=some v→w.cell? (a.add j)=some v)
  (jk:∀j v,vs[j]?=some v→w.cell? ⟨vb,vo+j,none⟩=some v) (rj:∀v,v∈vs→v.oneCell'=true) :
  Calls P (ρ.f 22) #[.slice base n c,.int .i64 n,.slice (some ⟨vb,vo,none⟩) m vc] w fun e w' =>
   e=.returned (.slice (some ⟨w.heap.size,0,none⟩) (n+m) (grownCap w (n+m) c (ρ.t 9))) ∧
   w'=w.drew.alloc (.cells ((cs++vs).toArray++dB z.cells (grownCap w (n+m) c (ρ.t 9)-(n+m))) (ρ.t 9)):=by
 have t0:=L.t0;have a0:=L.a0;have z0:=L.z0;have v0:=L.v0;have t3:=L.t3;have a3:=L.a3;have z3:=L.z3;have v3:=L.v3;have t4:=L.t4;have a4:=L.a4;have z4:=L.z4;have v4:=L.v4;have t24:=L.t24;have a24:=L.a24;have z24:=L.z24;have v24:=L.v24;have u0:=run_underlying L.t0;have u3:=run_underlying L.t3;have u4:=run_underlying L.t4;have Qs:=run_underlying L.t24;have mixed:=L.mixed;have z9:=L.z9;rw [fR] at z9
 have kK:0<K:=by have:=L.k9;omega
 have uX:¬((m:Int)=0):=by omega
 have iF:Go.Src P i0.size (ρ.t 24) (.slice (some ⟨vb,vo,none⟩) m vc) m vs w:=Q9 w L.t24 ⟨vb,vo,none⟩ m vc vs (by rw [fR];exact oL) (fun j u hj=>by rw [gg];exact jk j u hj) rj
 have hold:(xn i0.size n (.slice base n c)).run P w.drew=.ok cs.toArray w.drew:=by
  rw [fR];cases base with
  |none =>
   have h0:=pC rfl;subst h0;have EB:cs=[]:=List.length_eq_zero_iff.1 (by simpa using c_);rw [EB];exact run_firstCells_none w.drew K 0 0 c
  |some a=>exact run_firstCells_some w.drew K n a n c cs c_ (fun j v hj=>fZ a rfl j v hj)
 have aY:∀ty,(ib #[(ρ.t 24),(ρ.t 24)] ty #[.slice base n c,.slice (some ⟨vb,vo,none⟩) m vc]).run P w=_:=fun ty =>
  run_append_grow_src w (ρ.t 24) (ρ.t 24) ty (ρ.t 9) i0 z L.t24 L.i9 L.hz base n c cs hold _ m vs iF fC (by omega) (growslice_fits fC uG)
 obtain ⟨_,_,FG⟩:=L.f22;cases base with
 |none =>
  have h0:=pC rfl;subst h0;change Calls P (ρ.f 22) #[.slice none 0 c,.int .i64 0,.slice (some ⟨vb,vo,none⟩) m vc] w _;go_enter FG,Body2.n22_ntmps ρ;go_wp2_with (at_builtin;refine La _ rfl _ _ _ _ rfl _ _ rfl rfl _ _ (aY _) ?_);all_goals (go_ret;exact ⟨rfl,rfl⟩)
 |some a =>
  obtain ⟨ab,ao,asp⟩:=a;go_enter FG,Body2.n22_ntmps ρ;go_wp2_with (at_builtin;refine La _ rfl _ _ _ _ rfl _ _ rfl rfl _ _ (aY _) ?_);all_goals (go_ret;exact ⟨rfl,rfl⟩)
set_option maxHeartbeats 8000000 in
set_option maxRecDepth 100000 in
def adx {i0:TypeInfo} {z:Value} (L:ur P ρ i0 z) (K g c n i vb vo m vc:Nat) (cur vs:List Value) (w:World) (fR:i0.size=K) (hi:i<n) (hm:0<m) (qk:n≤c) (fC:c<n+m) (uG:(n+m)*i0.bytes≤140737488355328) (akT:n+m≤140737488355328)
  (hg:w.heap[g]?=some (.cells cur.toArray (ρ.t 9) (0,0))) (hs:cur.length=c*K) (oL:vs.length=m*K) (jk:∀j v,vs[j]?=some v→w.cell? ⟨vb,vo+j,none⟩=some v)
  (sS:∀q v,q<n*K→cur[q]?=some v→v.oneCell'=true) (rj:∀v,v∈vs→v.oneCell'=true) :
  Calls P (ρ.f 22) #[.slice (some ⟨g,0,none⟩) n c,.int .i64 i,.slice (some ⟨vb,vo,none⟩) m vc] w fun e w' =>
   e=.returned (.slice (some ⟨w.heap.size,0,none⟩) (n+m) (grownCap w (n+m) c (ρ.t 9)))∧∃r0 r1:List Value,r0.length=grownCap w (n+m) c (ρ.t 9)*K∧(∀q,q<i*K→r0[q]?=cur[q]?)∧r1=lay r0 (i*K) vs ∧
   w'=(((w.alloc (.cells r0.toArray (ρ.t 9))).drew.setRow w.heap.size r1.toArray).drew).setRow w.heap.size (lay r1 ((i+m)*K) ((cur.drop (i*K)).take ((n-i)*K))).toArray:=by
 have t0:=L.t0;have a0:=L.a0;have z0:=L.z0;have v0:=L.v0;have t3:=L.t3;have a3:=L.a3;have z3:=L.z3;have v3:=L.v3;have t4:=L.t4;have a4:=L.a4;have z4:=L.z4;have v4:=L.v4;have t24:=L.t24;have a24:=L.a24;have z24:=L.z24;have v24:=L.v24;have u0:=run_underlying L.t0;have u3:=run_underlying L.t3;have u4:=run_underlying L.t4;have Qs:=run_underlying L.t24;have mixed:=L.mixed;have z9:=L.z9;rw [fR] at z9
 have kK:0<K:=by have:=L.k9;omega
 have uX:¬((m:Int)=0):=by omega
 have zo:¬((i:Int)=(n:Int)):=by omega
 have hz3:(c:Int)<(n:Int)+(m:Int):=by omega
 have hgw:g<w.heap.size:=(lj.1 hg).1
 have hvw:vb<w.heap.size:=by
  have rI:0<vs.length:=by rw [oL];exact Rs hm kK
  exact block_lt_of_cell (jk 0 _ (bU rI))
 have rC:(n:Int)+(m:Int)-(i:Int)=((n+m-i:Nat):Int):=by omega
 have nH:i+(n+m-i)=n+m:=by omega
 have e0:i*K+(n-i)*K=n*K:=by rw [←bP,show i+(n-i)=n by omega]
 have e1:(i+m)*K+(n-i)*K=(n+m)*K:=by rw [←bP,show i+m+(n-i)=n+m by omega]
 have e3:i*K+m*K=(i+m)*K:=by rw [bP]
 have e4:(i+m)*K≤(n+m)*K:=cG _ (by omega);have e5:n*K≤c*K:=cG _ qk;have e6:i*K≤n*K:=cG _ (by omega);obtain ⟨us,fD⟩:∃us,us=(cur.drop (i*K)).take ((n-i)*K):=⟨_,rfl⟩
 have fc:us.length=(n-i)*K:=by rw [fD];simp;omega
 have lB:∀j v,us[j]?=some v→j<(n-i)*K∧cur[i*K+j]?=some v:=fun j v hj=>by
  have h1:=(fh.1 hj).1;rw [fc] at h1;rw [fD,gk,if_pos h1,js] at hj;exact ⟨h1,hj⟩
 have Eb:∀v,v∈us→v.oneCell'=true:=fun v hv=>by
  obtain ⟨j,hj,rfl⟩:=Rn hv;obtain ⟨h1,h2⟩:=lB j _ (bU hj);exact sS _ _ (by omega) h2
 have hold:(xn i0.size i (.slice (some ⟨g,0,none⟩) i c)).run P w.drew=.ok (cur.take (i*K)).toArray w.drew:=by
  rw [fR]
  exact run_firstCells_some w.drew K i ⟨g,0,none⟩ i c (cur.take (i*K)) (by rw [dR];omega) (fun j v hj=>by
   rw [gg,Nat.zero_add];rw [gk] at hj;split at hj
   ·have et:w.drew.heap[g]?=some (.cells cur.toArray (ρ.t 9) (0,0)):=hg;simp [vK,et,hj]
   ·cases hj)
 obtain ⟨G,hG⟩:∃G,G=grownCap w (n+m) c (ρ.t 9):=⟨_,rfl⟩
 have hGn:n+m≤G:=by rw [hG];exact grownCap_ge w _ _ _
 obtain ⟨r0,c8⟩:∃r0:List Value,r0=cur.take (i*K)++(dB z.cells (n+m-i)).toList++(dB z.cells (G-(n+m))).toList:=⟨_,rfl⟩;have UR:∀ty,(ib #[(ρ.t 24),(ρ.t 3)] ty #[.slice (some ⟨g,0,none⟩) i c,.int .i64 ((n:Int)+(m:Int)-(i:Int))]).run P w =
   .ok (.slice (some ⟨w.heap.size,0,none⟩) (n+m) G) (w.drew.alloc (.cells r0.toArray (ρ.t 9))):=fun ty=>by
  have h:=Lib.run_append_grow_zeros w (ρ.t 24) (ρ.t 3) ty (ρ.t 9) i0 _ .i64 .i64 L.t24 L.t3 L.i9 L.hz (some ⟨g,0,none⟩) i c (cur.take (i*K)) hold (n+m-i) (by omega) (by have:=L.k9;omega) (by omega) (by omega)
   (by have:(n+m-i)*i0.bytes≤(n+m)*i0.bytes:=cG _ (by omega);omega) (by rw [nH];exact growslice_fits fC uG)
  rw [nH,←hG] at h;rw [rC,h,c8]
  have ea:∀(l:List Value) (x y:Array Value),l.toArray++x++y=(l++x.toList++y.toList).toArray:=fun l x y=>by apply Array.ext';simp
  rw [ea]
 have mR:∀k,(dB z.cells k).toList.length=k*K:=fun k=>by
  rw [lJ];simp [dB,L.zs,fR]
 have NJ:r0.length=G*K:=by
  rw [c8,dj,dj,mR,mR,dR,xw (by omega),←bP,←bP];congr 1;omega
 have I1:∀q,q<i*K→r0[q]?=cur[q]?:=fun q hq=>by
  rw [c8,lN,List.getElem?_append_left (by rw [dR];omega),gk,if_pos hq]
 have hGK:(n+m)*K≤G*K:=cG _ hGn;obtain ⟨r1,EK⟩:∃r1,r1=lay r0 (i*K) vs:=⟨_,rfl⟩
 have acS:r1.length=G*K:=by rw [EK,mV (by rw [oL];omega),NJ]
 obtain ⟨N,hN⟩:∃N,N=w.heap.size:=⟨_,rfl⟩
 have hNg:g≠N:=by omega
 have hNv:vb≠N:=by omega
 have ha:(w.drew.alloc (.cells r0.toArray (ρ.t 9))).heap[N]?=some (.cells r0.toArray (ρ.t 9) (0,0)):=by
  rw [hN];show (w.drew.heap.push (.cells r0.toArray (ρ.t 9)))[w.drew.heap.size]?=_;rw [na,if_pos rfl]
 have MU:∀b,b<w.heap.size→(w.drew.alloc (.cells r0.toArray (ρ.t 9))).heap[b]?=w.heap[b]?:=fun b hb=>by
  have:b≠w.drew.heap.size:=Li hb;simp only [lR,na,if_neg this];rfl
 rw [←hN] at UR
 have ab0:∀(W:World),W.heap=(w.drew.alloc (.cells r0.toArray (ρ.t 9))).heap→∀ty dc,(qM #[(ρ.t 24),(ρ.t 24)] ty #[.slice (some ⟨N,i*K,none⟩) (n+m-i) dc,.slice (some ⟨vb,vo,none⟩) m vc]).run P W=.ok (goInt (p4 m (n+m-i))) (W.setRow N r1.toArray):=fun W hW ty dc=>by
  rw [EK];exact J' W _ _ ty (ρ.t 9) i0 K L.t24 L.i9 fR N (i*K) (n+m-i) dc ⟨vb,vo,none⟩ m vc r0 (ρ.t 9) (by rw [hW];exact ha) vs (by rw [oL,show ∀a b:Nat,p4 a b=min a b from fun _ _=>rfl,xw (by omega)])
   (fun j v hj=>by
    rw [gg];have:=jk j v hj;unfold vK at this ⊢
    rw [hW,MU vb hvw];exact this) (by rw [oL,NJ];omega) rj
 have cO:∀W:World,W.heap=(w.drew.alloc (.cells r0.toArray (ρ.t 9))).heap→(W.setRow N r1.toArray).heap[N]?=some (.cells r1.toArray (ρ.t 9) (0,0)):=fun W hW=>by
  simp only [xz,pW,if_true];rw [hW,ha];rfl
 have iA:∀W:World,W.heap=(w.drew.alloc (.cells r0.toArray (ρ.t 9))).heap→(W.setRow N r1.toArray).heap[g]?=some (.cells cur.toArray (ρ.t 9) (0,0)):=fun W hW=>by
  simp only [xz,pW,if_neg (Ne.symm hNg)];rw [hW,MU g hgw];exact hg
 have TY:∀(W:World),(∀b:Nat,W.heap[b]?=((w.drew.alloc (.cells r0.toArray (ρ.t 9))).setRow N r1.toArray).heap[b]?)→∀ty dc sc,(qM #[(ρ.t 24),(ρ.t 24)] ty #[.slice (some ⟨N,(i+m)*K,none⟩) (n+m-(i+m)) dc,.slice (some ⟨g,i*K,none⟩) (n-i) sc]).run P W=.ok (goInt (p4 (n-i) (n+m-(i+m)))) (W.setRow N (lay r1 ((i+m)*K) us).toArray):=fun W hW ty dc sc =>
  J' W _ _ ty (ρ.t 9) i0 K L.t24 L.i9 fR N ((i+m)*K) (n+m-(i+m)) dc ⟨g,i*K,none⟩ (n-i) sc r1 (ρ.t 9) (by rw [hW,cO _ rfl]) us (by rw [fc,show ∀a b:Nat,p4 a b=min a b from fun _ _=>rfl,xw (by omega)])
   (fun j v hj=>by
    obtain ⟨_,h2⟩:=lB j v hj;rw [gg];unfold vK;rw [hW,iA _ rfl]
    simp [h2]) (by rw [fc,acS];omega) Eb
 have akQ:G≤9223372036854775807:=by
  have:=grownCap_le_maxLen w (n+m) c (ρ.t 9) (by unfold maxLen;omega);rw [←hG] at this;unfold maxLen at this;omega
 have hGi:¬(G=i):=by omega
 have akR:¬(G=i+m):=by omega
 have Bc:¬(c=i):=by omega
 have zk:IntKind.i64.wrap ((i:Int)+(m:Int))=(i:Int)+(m:Int):=by rw [Zm];omega
 have akS:(0:Int)≤(i:Int)+(m:Int):=by omega
 have kQ:i≤n:=by omega
 have htn:((i:Int)+(m:Int)).toNat=i+m:=by omega
 have MW:(i:Int)≤(n:Int):=by omega
 have hE1:((w.alloc (.cells r0.toArray (ρ.t 9))).drew).heap=(w.drew.alloc (.cells r0.toArray (ρ.t 9))).heap:=rfl
 have hF1:∀b:Nat,(((w.alloc (.cells r0.toArray (ρ.t 9))).drew.setRow N r1.toArray).drew).heap[b]?=((w.drew.alloc (.cells r0.toArray (ρ.t 9))).setRow N r1.toArray).heap[b]?:=by
  intro b;rfl
 have wz:∃JW Pb:List Value,JW.length=G*K∧(∀q,q<i*K→JW[q]?=cur[q]?)∧Pb=lay JW (i*K) vs∧(((w.alloc (.cells r0.toArray (ρ.t 9))).drew.setRow N r1.toArray).drew).setRow N (lay r1 ((i+m)*K) us).toArray=(((w.alloc (.cells JW.toArray (ρ.t 9))).drew.setRow N Pb.toArray).drew).setRow N (lay Pb ((i+m)*K) us).toArray:=⟨r0,r1,NJ,I1,EK,rfl⟩;rw [←hG,←hN,←fD];clear rC nH hold c8 hG EK mR I1 cO iA MU ha lB fD fc hN;obtain ⟨_,_,FG⟩:=L.f22;go_enter FG,Body2.n22_ntmps ρ
 go_wp2_with (first
  |(at_builtin;refine La _ rfl _ _ _ _ rfl _ _ rfl rfl _ _ (UR _) ?_)
  |(at_builtin;refine wpList_copy_runI _ rfl _ _ (ρ.t 24) (ρ.t 24) rfl _ _ rfl rfl (ab0 _ hE1 _ _) ?_)
  |(at_builtin;refine wpList_copy_runI _ rfl _ _ (ρ.t 24) (ρ.t 24) rfl _ _ rfl rfl (TY _ (fun _=>rfl) _ _ _) ?_))
 go_region_law_o (refine step_copy_runI rfl _ _ (ρ.t 24) (ρ.t 24) rfl (.slice (some ⟨N,(i+m)*K,none⟩) (n+m-(i+m)) (G-(i+m))) (.slice (some ⟨g,i*K,none⟩) (n-i) (c-i)) (by simp [Aw,iL]) (by simp [Aw,iL]) (TY _ hF1 (ρ.t 3) (G-(i+m)) (c-i)) ?_);go_wp2;go_ret;exact ⟨rfl,wz⟩
structure AJ (P:Program) (ρ:Ren) (i0:TypeInfo) (z:Value):Prop where
 mixed:P.follows .mixedOrders=true
 f45:Bears P (ρ.f 45) (SlBodyN.n45 ρ)
 t0:P.underlying (ρ.t 0)=some (ZP #[])
 a0:∀w,(isAgg (ρ.t 0)).run P w=.ok false w
 z0:∀w,(sr (ρ.t 0)).run P w=.ok 1 w
 v0:∀w,(zeroValue (ρ.t 0)).run P w=.ok (Value.tuple #[]) w
 t3:P.underlying (ρ.t 3)=some (ZN K_)
 a3:∀w,(isAgg (ρ.t 3)).run P w=.ok false w
 z3:∀w,(sr (ρ.t 3)).run P w=.ok 1 w
 v3:∀w,(zeroValue (ρ.t 3)).run P w=.ok (Value.int K_ 0) w
 t4:P.underlying (ρ.t 4)=some (ZM)
 a4:∀w,(isAgg (ρ.t 4)).run P w=.ok false w
 z4:∀w,(sr (ρ.t 4)).run P w=.ok 1 w
 v4:∀w,(zeroValue (ρ.t 4)).run P w=.ok (Dl false) w
 t22:P.underlying (ρ.t 22)=some (ZO (ρ.t 23))
 a22:∀w,(isAgg (ρ.t 22)).run P w=.ok false w
 z22:∀w,(sr (ρ.t 22)).run P w=.ok 1 w
 v22:∀w,(zeroValue (ρ.t 22)).run P w=.ok (Rx none 0 0) w
 i23:P.info? (ρ.t 23)=some i0
 z23:∀w,(sr (ρ.t 23)).run P w=.ok i0.size w
 v23:∀w,(zeroValue (ρ.t 23)).run P w=.ok z w
 tn:0<i0.size
 zs:z.cells.size=i0.size
 z1:∀v,v∈z.cells.toList→v.oneCell'=true
def ahY {ops:Array Oper} {o:Oper} {a:Act} {w:World} {Kk:Act→World→Prop} {Q:Exit→Act→World→Prop} {E:Prop} (et:o.guard=none) (s x:Operand) (t:TypeId) (qm:o.op=Op.call { callee:=Callee.builtin Builtin.append,args:=#[s,x],argTypes:=#[t,t] })
  (v u:Value) (hs:a.eval s=v) (hx:a.eval x=u) {v':Value} {w':World} (hr:(ib #[t,t] o.type #[v,u]).run P w=.ok v' w') (hK:Kk (a.put o.dst v') w') :
  if dU o (yielded ops a.tmps)=true then Oper.wp P o a w Kk Q else E:=by
 have hw:dU o (yielded ops a.tmps)=true:=by simp [dU,et]
 rw [if_pos hw];unfold Oper.wp;simp [execOp,qm,resolve,invoke,builtin,hs,hx,hr,Result.andThen];exact hK
def agD (w:World) (t e ty:TypeId) (z:Value) (K:Nat) (ht:P.underlying t=some (.slice e)) (hv:∀w,(zeroValue e).run P w=.ok z w) (hz:z.cells.size=K) (h1:∀v,v∈z.cells.toList→v.oneCell'=true) (g o n c:Nat) (hn:0<n) (cur:List Value) (tt:TypeId)
  (hg:w.heap[g]?=some (.cells cur.toArray tt (0,0))) (jj:o+n*K≤cur.length) :
  (vz #[t] ty #[.slice (some ⟨g,o,none⟩) n c]).run P w=.ok (.tuple #[]) (w.setRow g (lay cur o (dB z.cells n).toList).toArray):=by
 have hl:(dB z.cells n).toList.length=n*K:=by rw [lJ];simp [dB,hz]
 have nB:∀v,v∈(dB z.cells n).toList→v.oneCell'=true:=fun v jV=>by
  simp [dB] at jV;obtain ⟨q,hq,rfl⟩:=jV
  have rI:0<z.cells.size:=by
   rcases Nat.eq_zero_or_pos z.cells.size with h|h
   ·rw [h] at hq;simp at hq
   ·exact h
  have Φ:=sy q rI;refine h1 _ ?_;rw [getElem!_pos z.cells _ Φ];simp
 have bV:=run_storeCells_at P g o tt (dB z.cells n).toList 0 cur.toArray w hg (by rw [hl];simpa using jj) nB;simp only [lO] at bV;obtain ⟨m,rfl⟩:∃m,n=m+1:=⟨n-1,by omega⟩;simp [vz,run_underlying ht,hv,bV,lay]
set_option maxHeartbeats 4000000 in
set_option maxRecDepth 1000000 in
def aaA {i0:TypeInfo} {z:Value} (L:AJ P ρ i0 z) (K g c n i j:Nat) (cur:List Value) (w:World) (fR:i0.size=K) (eQ:i<j) (hj:j≤n) (qk:n≤c) (TR:c≤9223372036854775807)
  (hg:w.heap[g]?=some (.cells cur.toArray (ρ.t 23) (0,0))) (hs:cur.length=c*K) (sS:∀q v,q<n*K→cur[q]?=some v→v.oneCell'=true) :
  Calls P (ρ.f 45) #[.slice (some ⟨g,0,none⟩) n c,.int .i64 i,.int .i64 j] w fun e w' =>
   e=.returned (.slice (some ⟨g,0,none⟩) (i+(n-j)) c)∧∃zs:List Value,zs.length=(j-i)*K ∧
   w'=(w.drew.setRow g (lay cur (i*K) ((cur.drop (j*K)).take ((n-j)*K))).toArray).setRow g (lay (lay cur (i*K) ((cur.drop (j*K)).take ((n-j)*K))) ((i+(n-j))*K) zs).toArray:=by
 have mixed:=L.mixed;have t0:=L.t0;have a0:=L.a0;have z0:=L.z0;have v0:=L.v0;have t3:=L.t3;have a3:=L.a3;have z3:=L.z3;have v3:=L.v3;have t4:=L.t4;have a4:=L.a4;have z4:=L.z4;have v4:=L.v4;have t22:=L.t22;have a22:=L.a22;have z22:=L.z22;have v22:=L.v22;have z23:=L.z23;rw [fR] at z23
 have kK:0<K:=by have:=L.tn;omega
 have e0:j*K+(n-j)*K=n*K:=by rw [←bP,show j+(n-j)=n by omega]
 have e1:i*K+(n-j)*K=(i+(n-j))*K:=by rw [bP]
 have e2:(i+(n-j))*K+(j-i)*K=n*K:=by rw [←bP,show i+(n-j)+(j-i)=n by omega]
 have e3:n*K≤c*K:=cG _ qk;obtain ⟨us,fD⟩:∃us,us=(cur.drop (j*K)).take ((n-j)*K):=⟨_,rfl⟩
 have fc:us.length=(n-j)*K:=by rw [fD];simp;omega
 have lB:∀q v,us[q]?=some v→q<(n-j)*K∧cur[j*K+q]?=some v:=fun q v hq=>by
  have h1:=(fh.1 hq).1;rw [fc] at h1;rw [fD,gk,if_pos h1,js] at hq;exact ⟨h1,hq⟩
 have Eb:∀v,v∈us→v.oneCell'=true:=fun v hv=>by
  obtain ⟨q,hq,rfl⟩:=Rn hv;obtain ⟨h1,h2⟩:=lB q _ (bU hq);exact sS _ _ (by omega) h2
 have et:w.drew.heap[g]?=some (.cells cur.toArray (ρ.t 23) (0,0)):=hg
 obtain ⟨A,hA,iF⟩:∃A:Addr,(if c=j then some (⟨g,0,none⟩:Addr) else some ⟨g,j*K,none⟩)=some A∧∀q u,us[q]?=some u→w.drew.cell? (A.add q)=some u:=by
  by_cases h:c=j
  ·refine ⟨⟨g,0,none⟩,by simp [h],fun q u hu=>?_⟩;have h1:=(lB q u hu).1
   have h2:n-j=0:=by omega
   rw [h2] at h1;omega
  ·refine ⟨⟨g,j*K,none⟩,by simp [h],fun q u hu=>?_⟩;have h2:=(lB q u hu).2;rw [gg];simp [vK,et,h2]
 obtain ⟨c1,ax⟩:∃c1,c1=lay cur (i*K) us:=⟨_,rfl⟩
 have MZ:c1.length=c*K:=by rw [ax,mV (by rw [fc];omega),hs]
 have TE:∀ty,(ib #[ρ.t 22,ρ.t 22] ty #[.slice (some ⟨g,0,none⟩) i c,.slice (some A) (n-j) (c-j)]).run P w.drew=.ok (.slice (some ⟨g,0,none⟩) (i+(n-j)) c) (w.drew.setRow g c1.toArray):=fun ty=>by
  rw [ax];exact Xc w.drew _ _ ty (ρ.t 23) i0 K L.t22 L.i23 fR g i c cur et _ (n-j) us (by rw [fR];exact Q9 w.drew L.t22 A (n-j) (c-j) us fc iF Eb) (by omega) (by rw [fc];omega)
 have Δ:(w.drew.setRow g c1.toArray).heap[g]?=some (.cells c1.toArray (ρ.t 23) (0,0)):=by simp [xz,pW,et]
 obtain ⟨W1,jg⟩:∃W1,W1=w.drew.setRow g c1.toArray:=⟨_,rfl⟩;obtain ⟨zs,iG⟩:∃zs:List Value,zs=(dB z.cells (n-(i+(n-j)))).toList:=⟨_,rfl⟩
 have mR:zs.length=(j-i)*K:=by
  rw [iG,lJ,show n-(i+(n-j))=j-i by omega];simp [dB,L.zs,fR]
 have c_:∀ty cc,(vz #[ρ.t 22] ty #[.slice (some ⟨g,(i+(n-j))*K,none⟩) (n-(i+(n-j))) cc]).run P W1=.ok (.tuple #[]) (W1.setRow g (lay c1 ((i+(n-j))*K) zs).toArray):=fun ty cc=>by
  rw [jg,iG]
  exact agD _ _ _ ty z K L.t22 L.v23 (by rw [L.zs,fR]) L.z1 g ((i+(n-j))*K) (n-(i+(n-j))) cc (by omega) c1 (ρ.t 23) Δ (by
   rw [MZ,show n-(i+(n-j))=j-i by omega];omega)
 rw [←fD];have wz:∃Y1:List Value,Y1.length=(j-i)*K∧W1.setRow g (lay c1 ((i+(n-j))*K) zs).toArray=(w.drew.setRow g (lay cur (i*K) us).toArray).setRow g (lay (lay cur (i*K) us) ((i+(n-j))*K) Y1).toArray:=⟨zs,mR,by rw [jg,ax]⟩
 have Ud:i≤c:=by omega
 have Ug:j≤c:=by omega
 have hle:i≤j:=by omega
 have aP:¬((i:Int)=(j:Int)):=by omega
 rw [←jg] at TE;clear jg ax fD lB fc et iG Δ;obtain ⟨_,_,FG⟩:=L.f45;go_enter FG,SlBodyN.n45_ntmps ρ;go_wp2_with fail;go_region_law_o (refine ahY rfl (.tmp 22) (.tmp 25) (ρ.t 22) rfl _ _ (by simp [Aw,iL]) (by simp [Aw,iL,hA]) (TE _) ?_);go_wp2;go_ret;exact ⟨rfl,wz⟩
end
section
open Go.Shelf Go.Proofs
variable [M:bM] [G:cK]
section
variable {w w':World} {F:Nat→Prop} {β:Nat→Value} {E K:Nat} {l l':List (List AV)} {v:Value}
def V7 (hI:Inv w F β [(1000,.own E K l)]) (uT:w'.os=w.os) (ht:jt w w') (ho:w'.output=w.output) (hs:w.heap.size≤w'.heap.size)
  (hb:∀b,b<w.heap.size→¬bC β [(1000,.own E K l)] b→w'.heap[b]?=w.heap[b]?)
  (hv:∃g cap cur,v=.slice (some ⟨g,0,none⟩) l'.length cap∧(w.heap.size≤g∨bC β [(1000,.own E K l)] g)∧0<cap∧w'.heap[g]?=some (.cells cur E (0,0))∧l'.length≤cap∧cap≤maxLen∧cur.size=cap*K∧(∀i,i<l'.length→(l'.getD i []).length=K) ∧
   ∀i j,i<l'.length→j<K→(cur.getD (i*K+j) undef).oneCell'=true∧bg w F ((l'.getD i []).getD j .χ) (cur.getD (i*K+j) undef)) :
  Ext w F β ⟨aF,[(1000,.own E K l)]⟩ w' F (fun i=>if i=900 then v else β i) ⟨aF,[(900,.own E K l')]⟩:=by
 obtain ⟨g,cap,cur,rfl,hg,oD,hh,nK,nD,fZ,hK,hr⟩:=hv;have ha:ga F w w':=fun b hF=>hb b (hI.cC b hF) fun h=>hI.apart b h hF
 have dr:∀b,bC (fun i=>if i=900 then Rx (some ⟨g,0,none⟩) l'.length cap else β i) [(900,.own E K l')] b→b=g:=by
  rintro b ⟨i,c,hm,kL⟩;simp only [dC,il] at hm;obtain ⟨rfl,rfl⟩:=hm
  have ri:aH cap 0=false:=by cases cap<;>first|rfl|omega
  simp [bR,ri] at kL;exact kL.symm
 refine ⟨uT,ht,ho,hs,hb,fun _ h=>h,fun _ h=>.inl h,fun b h=>by rw [dr b h];exact hg,fun _ _ _=>.χ,⟨fun b hF=>oe (hI.cC b hF) hs,fun i c hm=>?_,by simp,fun b h hF=>?_,fun i c i' c' b h1 h2 _ _=>?_,hI.fk.at ha⟩,fun i hi=>if_neg (by omega)⟩
 ·simp only [dC,il] at hm;obtain ⟨rfl,rfl⟩:=hm;exact .inr ⟨g,cap,cur,if_pos rfl,oD,hh,nK,nD,fZ,hK,fun i j hi hj=>⟨(hr i j hi hj).1,(hr i j hi hj).2.frame ha fun _ h=>h⟩⟩
 ·have:=dr b h;subst this
  rcases hg with h1|h1
  ·have:=hI.cC b hF;omega
  ·exact hI.apart b h1 hF
 ·simp only [dC,il] at h1 h2;rw [h1.1,h2.1]
def Vi (l x:List (List AV)) (i r:Nat) (hi:i≤l.length):(dy l (i:Int) x).getD r []=if r<i then l.getD r [] else if r<i+x.length then x.getD (r-i) [] else l.getD (r-x.length) []:=by
 simp only [dy,gP,aV,gG,dj,dR,gk,js,xw hi];by_cases h1:r<i
 ·have h2:r<i+x.length:=by omega
  simp [h1,h2]
 ·by_cases h2:r<i+x.length
  ·simp [h1,h2]
  ·have h3:i+(r-(i+x.length))=r-x.length:=by omega
   simp [h1,h2,h3]
def adw {Q:AV→Value→Prop} {x:List (List AV)} {i n:Nat} {cur vs X:List Value} (hn:n=l.length) (hi:i≤n) (hX:∀q,q<(n+x.length)*K→X[q]?=if q<i*K then cur[q]? else if q<(i+x.length)*K then vs[q-i*K]? else cur[q-x.length*K]?)
  (hl:∀r j,r<n→j<K→Q ((l.getD r []).getD j .χ) (cur.getD (r*K+j) undef)) (hx:∀r j,r<x.length→j<K→Q ((x.getD r []).getD j .χ) (vs.getD (r*K+j) undef)) :
  ∀r j,r<(dy l (i:Int) x).length→j<K→Q (((dy l (i:Int) x).getD r []).getD j .χ) (X.getD (r*K+j) undef):=by
 intro r j hr hj
 have hlen:(dy l (i:Int) x).length=n+x.length:=by simp [dy];omega
 rw [hlen] at hr
 have hq:r*K+j<(n+x.length)*K:=by
  calc r*K+j<r*K+K:=by omega
   _=(r+1)*K:=by rw [bP];omega
   _≤_:=cG _ hr
 rw [Vi l x i r (by omega),show X.getD (r*K+j) undef=(X[r*K+j]?).getD undef from fW ..,hX _ hq];by_cases h1:r<i
 ·have:r*K+j<i*K:=by
   calc r*K+j<(r+1)*K:=by rw [bP];omega
    _≤_:=cG _ h1
  rw [if_pos h1,if_pos this,show ∀(a:List Value) b,(a[b]?).getD undef=a.getD b undef from fun a b=>(fW ..).symm];exact hl r j (by omega) hj
 ·have nB:¬r*K+j<i*K:=by
   have:i*K≤r*K:=cG _ (by omega);omega
  rw [if_neg h1,if_neg nB];by_cases h2:r<i+x.length
  ·have:r*K+j<(i+x.length)*K:=by
    calc r*K+j<(r+1)*K:=by rw [bP];omega
     _≤_:=cG _ h2
   rw [if_pos h2,if_pos this]
   have e:r*K+j-i*K=(r-i)*K+j:=by
    have:i*K≤r*K:=cG _ (by omega);rw [Nat.sub_mul];omega
   rw [e,show ∀(a:List Value) b,(a[b]?).getD undef=a.getD b undef from fun a b=>(fW ..).symm];exact hx (r-i) j (by omega) hj
  ·have:¬r*K+j<(i+x.length)*K:=by
    have:(i+x.length)*K≤r*K:=cG _ (by omega);omega
   rw [if_neg h2,if_neg this]
   have e:r*K+j-x.length*K=(r-x.length)*K+j:=by
    have:x.length*K≤r*K:=cG _ (by omega);rw [Nat.sub_mul];omega
   rw [e,show ∀(a:List Value) b,(a[b]?).getD undef=a.getD b undef from fun a b=>(fW ..).symm];exact hl (r-x.length) j (by omega) hj
def adv {x:List (List AV)} {i:Nat} (hi:i≤l.length) (hl:∀r,r<l.length→(l.getD r []).length=K) (hx:∀r,r<x.length→(x.getD r []).length=K):∀r,r<(dy l (i:Int) x).length→((dy l (i:Int) x).getD r []).length=K:=by
 intro r hr
 have hlen:(dy l (i:Int) x).length=l.length+x.length:=by simp [dy];omega
 rw [hlen] at hr;rw [Vi l x i r hi];by_cases h1:r<i
 ·rw [if_pos h1];exact hl r (by omega)
 ·rw [if_neg h1];by_cases h2:r<i+x.length
  ·rw [if_pos h2];exact hx _ (by omega)
  ·rw [if_neg h2];exact hl _ (by omega)
end
def three {vs:Array Value} {a b c:Value} (hs:vs.size=3) (h0:vs.getD 0 undef=a) (h1:vs.getD 1 undef=b) (h2:vs.getD 2 undef=c):vs=#[a,b,c]:=by
 apply Array.ext
 ·simpa using hs
 ·intro i h3 h4;have h4:i<3:=h4
  have:i=0∨i=1∨i=2:=by omega
  rcases this with rfl|rfl|rfl
  ·simpa [hs] using h0
  ·simpa [hs] using h1
  ·simpa [hs] using h2
def adU {cur us vs:List Value} {K c i m n:Nat} (hc:cur.length=c*K) (hi:i≤n) (fC:n+m≤c) (hu:us=(cur.drop (i*K)).take ((n-i)*K)) (hv:vs.length=m*K) :
  ∀q,q<(n+m)*K→(lay (lay cur ((i+m)*K) us) (i*K) vs)[q]?=if q<i*K then cur[q]? else if q<(i+m)*K then vs[q-i*K]? else cur[q-m*K]?:=by
 intro q hq
 have e0:i*K+(n-i)*K=n*K:=by rw [←bP,show i+(n-i)=n by omega]
 have e1:(i+m)*K+(n-i)*K=(n+m)*K:=by rw [←bP,show i+m+(n-i)=n+m by omega]
 have e2:(n+m)*K≤c*K:=cG _ fC
 have e3:i*K+m*K=(i+m)*K:=by rw [bP]
 have e4:n*K+m*K=(n+m)*K:=by rw [bP]
 have fc:us.length=(n-i)*K:=by rw [hu];simp;omega
 rw [zw (by rw [mV (by omega)];omega),zw (by omega)];by_cases h1:q<i*K
 ·have h2:q<(i+m)*K:=by omega
  simp only [h1,h2,if_true]
 ·by_cases h2:q<(i+m)*K
  ·have h3:q<i*K+vs.length:=by omega
   simp only [h1,h2,h3,if_true,if_false]
  ·have h3:¬q<i*K+vs.length:=by omega
   have h4:q<(i+m)*K+us.length:=by omega
   simp only [h1,h2,h3,h4,if_true,if_false];rw [hu,gk,if_pos (by omega),js];congr 1;omega
def Calls.to {P:Program} {g:FuncId} {vs:Array Value} {w:World} {Q Q':Ending→World→Prop} (h:Calls P g vs w Q) (hq:∀e w',Q e w'→Q' e w'):Calls P g vs w Q':=h.mono hq
set_option maxHeartbeats 2000000 in
def adV {cur us vs r0:List Value} {K G i m n:Nat} (hr:r0.length=G*K) (hi:i≤n) (fC:n+m≤G) (c_:n*K≤cur.length) (c8:∀q,q<i*K→r0[q]?=cur[q]?) (hu:us=(cur.drop (i*K)).take ((n-i)*K)) (hv:vs.length=m*K) :
  ∀q,q<(n+m)*K→(lay (lay r0 (i*K) vs) ((i+m)*K) us)[q]?=if q<i*K then cur[q]? else if q<(i+m)*K then vs[q-i*K]? else cur[q-m*K]?:=by
 intro q hq
 have e0:i*K+(n-i)*K=n*K:=by rw [←bP,show i+(n-i)=n by omega]
 have e1:(i+m)*K+(n-i)*K=(n+m)*K:=by rw [←bP,show i+m+(n-i)=n+m by omega]
 have e2:(n+m)*K≤G*K:=cG _ fC
 have e3:i*K+m*K=(i+m)*K:=by rw [bP]
 have e4:n*K+m*K=(n+m)*K:=by rw [bP]
 have fc:us.length=(n-i)*K:=by rw [hu];simp;omega
 rw [zw (by rw [mV (by omega)];omega),zw (by omega)];by_cases h1:q<i*K
 ·have h2:q<(i+m)*K:=by omega
  simp only [h1,h2,if_true];exact c8 q h1
 ·by_cases h2:q<(i+m)*K
  ·have h3:q<i*K+vs.length:=by omega
   simp only [h1,h2,h3,if_true,if_false]
  ·have h4:q<(i+m)*K+us.length:=by omega
   simp only [h1,h2,h4,if_true,if_false];rw [hu,gk,if_pos (by omega),js];congr 1;omega
def yi (w:World) (g:Nat) (a:Array Value) {E:Nat} {c:Array Value} (h:w.heap[g]?=some (.cells c E (0,0))):(w.setRow g a).heap[g]?=some (.cells a E (0,0)):=by
 simp [xz,pW,h]
def zW (w:World) (g:Nat) (a:Array Value):(w.setRow g a).heap.size=w.heap.size:=by simp [xz]
def zV (w:World) (g:Nat) (a:Array Value) (b:Nat) (h:b≠g):(w.setRow g a).heap[b]?=w.heap[b]?:=by
 simp [xz,pW,Ne.symm h]
def Jb {P:Program} {ρ:Ren} {i0:TypeInfo} {z:Value} (L:ur P ρ i0 z) {K:Nat} (fR:i0.size=K) (kM:0<i0.bytes) (l x:List (List AV)) (i:Int) (hx:∀r,r∈x→r.length=K)
  (h:(0:Int)≤i∧i≤(l.length:Int)∧0<x.length∧(l.length+x.length)*i0.bytes≤140737488355328) :
  af P (.f (ρ.f 22)) [.o 1000,vi i,.s x] ⟨aF,[(1000,.own (ρ.t 9) K l)]⟩ fun r s=>r=.o 900∧s.H=[(900,.own (ρ.t 9) K (dy l i x))]:=by
 obtain ⟨nm,dN,hf⟩:=L.f22;refine ⟨⟨_,_,hf,dN,rfl⟩,fun w F β vs hI hs hv=>?_⟩;obtain ⟨ry,s7,hm,uG⟩:=h;obtain ⟨i',rfl⟩:∃i':Nat,i=(i':Int):=⟨i.toNat,by omega⟩
 have s7:i'≤l.length:=by omega
 have Iu:l.length+x.length≤140737488355328:=fi (Nat.le_mul_of_pos_right _ kM) uG;obtain ⟨a,n,c,ah,e0⟩:=(hv 0 (by simp)).jY;have e1:=(hv 1 (by simp)).bN;have h2:=hv 2 (by simp);change Rd w F β (.s x) _ at h2
 have hxK:∀r,r<x.length→(x.getD r []).length=K:=fun r hr=>by
  rw [fW,bU hr];exact hx _ (eI _)
 rcases h2.oP.tT with ⟨rfl,_,_⟩|⟨vb,vo,vc,K',u,yu,hvc,ak0,e2,yv,hu⟩
 ·simp at hm
 obtain ⟨news,pB⟩:=Ql (w:=w) (F:=F) (b:=vb) (off:=vo) (u:=u) (show oZ x K from hx) yv hu;have jk:=three hs e0 e1 e2;subst jk
 have kK:0<K:=by have:=L.k9;omega
 have nO:∀r j,r<x.length→j<K→(news.getD (r*K+j) undef).oneCell'=true∧bg w F ((x.getD r []).getD j .χ) (news.getD (r*K+j) undef):=fun r j hr hj=>by
  have hq:r*K+j<x.length*K:=by
   calc r*K+j<(r+1)*K:=by rw [bP];omega
    _≤_:=cG _ hr
  refine ⟨pB.one _ ?_,pB.rd r j hr hj⟩;rw [fW,bU (by rw [pB.len];exact hq)];exact eI _
 have eO:∀j v,news[j]?=some v→w.cell? ⟨vb,vo+j,none⟩=some v:=fun j v hj=>by
  have:=pB.cell j v hj;rwa [gg] at this
 have fin:∀(w':World) (v:Value),w'.os=w.os→jt w w'→w'.output=w.output→w.heap.size≤w'.heap.size→(∀b,b<w.heap.size→¬bC β [(1000,Chunk.own (ρ.t 9) K l)] b→w'.heap[b]?=w.heap[b]?) →
   (∃g cap cur,v=.slice (some ⟨g,0,none⟩) (l.length+x.length) cap∧(w.heap.size≤g∨bC β [(1000,.own (ρ.t 9) K l)] g)∧0<cap∧w'.heap[g]?=some (.cells cur (ρ.t 9) (0,0))∧l.length+x.length≤cap∧cap≤maxLen∧cur.size=cap*K∧(∀r,r<l.length→(l.getD r []).length=K) ∧
    ∀r j,r<(dy l (i':Int) x).length→j<K→(cur.getD (r*K+j) undef).oneCell'=true∧bg w F (((dy l (i':Int) x).getD r []).getD j .χ) (cur.getD (r*K+j) undef)) →
   ∃v',Ending.returned v=.returned v'∧∃r aq F' av,(r=AV.o 900∧aq.H=[(900,Chunk.own (ρ.t 9) K (dy l (i':Int) x))])∧Rd w' F' av r v'∧Ext w F β ⟨aF,[(1000,.own (ρ.t 9) K l)]⟩ w' F' av aq:=by
  rintro w' v h1 h2 h3 h4 h5 ⟨g,cap,cur,rfl,h6,h7,h8,h9,Ir,Is,It,h13⟩
  have hlen:(dy l (i':Int) x).length=l.length+x.length:=by simp [dy];omega
  refine ⟨_,rfl,.o 900,⟨aF,[(900,.own (ρ.t 9) K (dy l (i':Int) x))]⟩,F,_,⟨rfl,rfl⟩,.o ?_,V7 (v:=.slice (some ⟨g,0,none⟩) (l.length+x.length) cap) hI h1 h2 h3 h4 h5 ⟨g,cap,cur,by rw [hlen],h6,h7,h8,by rw [hlen];exact h9,Ir,Is,adv s7 It hxK,h13⟩⟩;exact if_pos rfl
 have iP:(1000,Chunk.own (ρ.t 9) K l)∈[(1000,Chunk.own (ρ.t 9) K l)]:=by simp
 rcases hI.holds _ _ iP with ⟨rfl,a',sV⟩|⟨g,cap,cur,uJ,iO,hg,nK,nD,fZ,uQ,IP⟩
 ·-- nothing yet
  rw [ah] at sV;cases sV
  have ack:i'=0:=by simpa using s7
  subst ack;refine Calls.to (Vl L K a 0 0 vb vo x.length vc [] news w fR hm (bG _) (by omega) (by simpa using uG) (by simpa using Iu) (by simp) pB.len (fun _=>rfl) (fun _ _ j v hj=>by simp at hj) eO pB.one) ?_;rintro e w' ⟨rfl,rfl⟩;have hG:=grownCap_ge w (0+x.length) 0 (ρ.t 9);refine fin _ _ rfl ⟨rfl,fun _=>j2 _⟩ rfl (by simp [lR]) (fun b hb _=>?_) ⟨w.heap.size,grownCap w (0+x.length) 0 (ρ.t 9),([]++news).toArray++dB z.cells (grownCap w (0+x.length) 0 (ρ.t 9)-(0+x.length)),by simp,.inl (bG _),by omega,?_,by simpa using hG,grownCap_le_maxLen w _ _ _ (by unfold maxLen;omega),?_,fun r hr=>by simp at hr,fun r j hr hj=>?_⟩
  ·have:b≠w.drew.heap.size:=Li hb;simp only [lR,na,if_neg this];rfl
  ·show (w.drew.heap.push _)[w.drew.heap.size]?=_;rw [na,if_pos rfl]
  ·simp only [alH,uf,ll,pB.len];rw [show (dB z.cells (grownCap w (0+x.length) 0 (ρ.t 9)-(0+x.length))).size=(grownCap w (0+x.length) 0 (ρ.t 9)-(0+x.length))*K by simp [dB,L.zs,fR],←bP];congr 1;omega
  ·have cJ:r<x.length:=by simpa [dy] using hr
   have hq:r*K+j<news.length:=by
    rw [pB.len]
    calc r*K+j<(r+1)*K:=by rw [bP];omega
     _≤_:=cG _ cJ
   have e:(([]++news).toArray++dB z.cells (grownCap w (0+x.length) 0 (ρ.t 9)-(0+x.length))).getD (r*K+j) undef=news.getD (r*K+j) undef:=by
    simp only [alH,lh,pV,ll,hq,if_true,List.getElem?_toArray,fW]
   rw [e];have:=nO r j cJ hj;simpa [dy] using this
 ·rw [ah] at uJ;cases uJ;obtain ⟨n,hn⟩:∃n,n=l.length:=⟨_,rfl⟩;obtain ⟨cl,rfl⟩:∃cl:List Value,cur=cl.toArray:=⟨cur.toList,by simp⟩
  have ri:aH c 0=false:=by cases c<;>first|rfl|omega
  have ho:bC β [(1000,Chunk.own (ρ.t 9) K l)] g:=⟨1000,_,iP,by rw [ah];simp [bR,ri]⟩;have I6:vb≠g:=fun e=>hI.apart g ho (e▸yu);have gX:∀b,¬bC β [(1000,Chunk.own (ρ.t 9) K l)] b→b≠g:=fun b hb e=>hb (e▸ho)
  have c_:cl.length=c*K:=by simpa using fZ
  have qk:n*K≤c*K:=cG _ (by omega)
  have Bu:∀r j,r<n→j<K→(cl.getD (r*K+j) undef).oneCell'=true∧bg w F ((l.getD r []).getD j .χ) (cl.getD (r*K+j) undef):=fun r j hr hj=>by
   have:=IP r j (by omega) hj;rwa [vP cl.toArray cl rfl] at this
  have sS:∀q v,q<n*K→cl[q]?=some v→v.oneCell'=true:=fun q v hq jV=>by
   have h3:q/K<n:=(qU kK).2 hq;have h4:q % K<K:=sy _ kK
   have h5:q/K*K+q % K=q:=by rw [Nat.mul_comm];exact Rq q K
   have:=(Bu _ _ h3 h4).1;rw [h5,fW,jV] at this;exact this
  have hQ:∀X:List Value,(∀q,q<(n+x.length)*K→X[q]?=if q<i'*K then cl[q]? else if q<(i'+x.length)*K then news[q-i'*K]? else cl[q-x.length*K]?) →
    ∀r j,r<(dy l (i':Int) x).length→j<K→(X.toArray.getD (r*K+j) undef).oneCell'=true∧bg w F (((dy l (i':Int) x).getD r []).getD j .χ) (X.toArray.getD (r*K+j) undef):=fun X hX r j hr hj=>by
   rw [vP X.toArray X rfl];exact adw (Q:=fun a v=>v.oneCell'=true∧bg w F a v) hn (by omega) hX Bu nO r j hr hj
  rw [←hn] at uG Iu s7 nK uQ fin ⊢
  have gp:c≤9223372036854775807:=by have:=nD;unfold maxLen at this;omega
  have qj:news.length=x.length*K:=pB.len;by_cases kQ:i'<n
  ·by_cases fC:n+x.length≤c
   ·refine Calls.to (adA L K g c n i' vb vo x.length vc cl news w fR kQ hm fC gp I6 hg c_ qj eO sS pB.one) ?_;rintro e w' ⟨rfl,rfl⟩;refine fin _ _ rfl ⟨rfl,fun _=>j2 _⟩ rfl (by rw [zW,zW];exact bG _) (fun b hb bp=>by rw [zV _ _ _ _ (gX b bp),zV _ _ _ _ (gX b bp)];rfl)
     ⟨g,c,_,rfl,.inr ho,iO,yi _ _ _ (yi _ _ _ (show w.drew.heap[g]?=_ from hg)),fC,nD,?_,uQ,hQ _ (adU c_ (by omega) fC rfl qj)⟩
    have e1:(i'+x.length)*K+(n-i')*K=(n+x.length)*K:=by rw [←bP,show i'+x.length+(n-i')=n+x.length by omega]
    have e2:(n+x.length)*K≤c*K:=cG _ fC
    have e3:i'*K+x.length*K=(i'+x.length)*K:=by rw [bP]
    have e0:i'*K+(n-i')*K=n*K:=by rw [←bP,show i'+(n-i')=n by omega]
    have fc:((cl.drop (i'*K)).take ((n-i')*K)).length=(n-i')*K:=by simp;omega
    rw [ll,mV (by rw [mV (by rw [fc];omega)];omega),mV (by rw [fc];omega)];exact c_
   ·refine Calls.to (adx L K g c n i' vb vo x.length vc cl news w fR kQ hm (by omega) (by omega) uG Iu hg c_ qj eO sS pB.one) ?_;rintro e w' ⟨rfl,r0,r1,c8,I1,rfl,rfl⟩;have hG:=grownCap_ge w (n+x.length) c (ρ.t 9)
    have eS:(w.alloc (.cells r0.toArray (ρ.t 9))).drew.heap[w.heap.size]?=some (.cells r0.toArray (ρ.t 9) (0,0)):=by
     show (w.heap.push _)[w.heap.size]?=_;rw [na,if_pos rfl]
    refine fin _ _ rfl ⟨rfl,fun _=>fi (j2 _) (j2 _)⟩ rfl ?_ (fun b hb bp=>?_)
     ⟨w.heap.size,grownCap w (n+x.length) c (ρ.t 9),_,rfl,.inl (bG _),by omega,yi _ _ _ (show _=_ from yi _ _ _ eS),hG,grownCap_le_maxLen w _ _ _ (by unfold maxLen;omega),?_,uQ,hQ _ (adV c8 (by omega) hG (by omega) I1 rfl qj)⟩
    ·rw [zW];show w.heap.size≤((w.alloc (.cells r0.toArray (ρ.t 9))).drew.setRow w.heap.size _).heap.size;rw [zW];show w.heap.size≤(w.heap.push _).size;simp
    ·have aP:b≠w.heap.size:=Li hb;rw [zV _ _ _ _ aP];show ((w.alloc (.cells r0.toArray (ρ.t 9))).drew.setRow w.heap.size _).heap[b]?=_;rw [zV _ _ _ _ aP];show (w.heap.push _)[b]?=_;rw [na,if_neg aP]
    ·have e1:(i'+x.length)*K+(n-i')*K=(n+x.length)*K:=by rw [←bP,show i'+x.length+(n-i')=n+x.length by omega]
     have e2:(n+x.length)*K≤grownCap w (n+x.length) c (ρ.t 9)*K:=cG _ hG
     have e3:i'*K+x.length*K=(i'+x.length)*K:=by rw [bP]
     have e0:i'*K+(n-i')*K=n*K:=by rw [←bP,show i'+(n-i')=n by omega]
     have fc:((cl.drop (i'*K)).take ((n-i')*K)).length=(n-i')*K:=by simp;omega
     rw [ll,mV (by rw [mV (by omega),fc];omega),mV (by omega)];exact c8
  ·have uN:i'=n:=by omega
   subst uN;by_cases fC:i'+x.length≤c
   ·refine Calls.to (adz L K g c i' vb vo x.length vc cl news w fR hm fC gp hg c_ qj eO pB.one) ?_;rintro e w' ⟨rfl,rfl⟩;have e2:(i'+x.length)*K≤c*K:=cG _ fC
    have e3:i'*K+x.length*K=(i'+x.length)*K:=by rw [bP]
    refine fin _ _ rfl ⟨rfl,fun _=>bG _⟩ rfl (by rw [zW];exact bG _) (fun b hb bp=>by rw [zV _ _ _ _ (gX b bp)])
     ⟨g,c,_,rfl,.inr ho,iO,yi _ _ _ hg,fC,nD,by rw [ll,mV (by omega)];exact c_,uQ,hQ _ fun q hq=>?_⟩
    rw [zw (by omega)];by_cases h1:q<i'*K
    ·simp only [h1,if_true]
    ·have h2:q<(i'+x.length)*K:=hq
     have h3:q<i'*K+news.length:=by omega
     simp only [h1,h2,h3,if_true,if_false]
   ·have hG:=grownCap_ge w (i'+x.length) c (ρ.t 9);refine Calls.to (Vl L K (some ⟨g,0,none⟩) i' c vb vo x.length vc (cl.take (i'*K)) news w fR hm (by omega) (by omega) uG Iu (by simp;omega) qj (fun h=>by cases h) (fun a ha j v hj=>?_) eO pB.one) ?_
    ·cases ha;rw [gk] at hj;split at hj
     ·rw [gg];simp [vK,hg,hj]
     ·cases hj
    ·rintro e w' ⟨rfl,rfl⟩
     have mR:(dB z.cells (grownCap w (i'+x.length) c (ρ.t 9)-(i'+x.length))).size=(grownCap w (i'+x.length) c (ρ.t 9)-(i'+x.length))*K:=by simp [dB,L.zs,fR]
     have e3:i'*K+x.length*K=(i'+x.length)*K:=by rw [bP]
     refine fin _ _ rfl ⟨rfl,fun _=>j2 _⟩ rfl (by simp [lR]) (fun b hb _=>?_) ⟨w.heap.size,grownCap w (i'+x.length) c (ρ.t 9),(cl.take (i'*K)++news).toArray++dB z.cells (grownCap w (i'+x.length) c (ρ.t 9)-(i'+x.length)),rfl,.inl (bG _),by omega,?_,hG,grownCap_le_maxLen w _ _ _ (by unfold maxLen;omega),?_,uQ,fun r j hr hj=>?_⟩
     ·have:b≠w.drew.heap.size:=Li hb;simp only [lR,na,if_neg this];rfl
     ·show (w.drew.heap.push _)[w.drew.heap.size]?=_;rw [na,if_pos rfl]
     ·rw [uf,mR,ll,dj,dR,xw (by omega),qj,e3,←bP];congr 1;omega
     ·have hlen:(dy l (i':Int) x).length=i'+x.length:=by simp [dy];omega
      have hq:r*K+j<(i'+x.length)*K:=by
       calc r*K+j<(r+1)*K:=by rw [bP];omega
        _≤_:=cG _ (by omega)
      have jO:(cl.take (i'*K)++news).length=(i'+x.length)*K:=by rw [dj,dR,xw (by omega),qj,e3]
      have e:((cl.take (i'*K)++news).toArray++dB z.cells (grownCap w (i'+x.length) c (ρ.t 9)-(i'+x.length))).getD (r*K+j) undef=(cl.take (i'*K)++news).toArray.getD (r*K+j) undef:=by
       simp only [lh,pV,ll,jO,hq,if_true]
      rw [e];refine hQ (cl.take (i'*K)++news) (fun q hq=>?_) r j hr hj;rw [gG,dR,xw (by omega),gk];by_cases h1:q<i'*K
      ·simp only [h1,if_true]
      ·have h2:q<(i'+x.length)*K:=hq;simp only [h1,h2,if_true,if_false]
def Sq (l:List (List AV)) (i j r:Nat) (eQ:i≤j) (hj:j≤l.length):(fY l (i:Int) (j:Int)).getD r []=if r<i then l.getD r [] else l.getD (r+(j-i)) []:=by
 simp only [fY,gP,aV,gG,dR,gk,js,xw (show i≤l.length by omega)];by_cases h1:r<i
 ·simp [h1]
 ·have h3:j+(r-i)=r+(j-i):=by omega
  simp [h1,h3]
set_option maxHeartbeats 2000000 in
def HL {P:Program} {ρ:Ren} {i0:TypeInfo} {z:Value} (L:AJ P ρ i0 z) {K:Nat} (fR:i0.size=K) (l:List (List AV)) (i j:Int) (h:(0:Int)≤i∧i<j∧j≤(l.length:Int)) :
  af P (.f (ρ.f 45)) [.o 1000,vi i,vi j] ⟨aF,[(1000,.own (ρ.t 23) K l)]⟩ fun r s=>r=.o 900∧s.H=[(900,.own (ρ.t 23) K (fY l i j))]:=by
 obtain ⟨nm,dN,hf⟩:=L.f45;refine ⟨⟨_,_,hf,dN,rfl⟩,fun w F β vs hI hs hv=>?_⟩;obtain ⟨ry,eQ,s9⟩:=h;obtain ⟨i',rfl⟩:∃i':Nat,i=(i':Int):=⟨i.toNat,by omega⟩;obtain ⟨j',rfl⟩:∃j':Nat,j=(j':Int):=⟨j.toNat,by omega⟩
 have eQ:i'<j':=by omega
 have s9:j'≤l.length:=by omega
 obtain ⟨a,n,c,ah,e0⟩:=(hv 0 (by simp)).jY;have e1:=(hv 1 (by simp)).bN;have e2:=(hv 2 (by simp)).bN;have jk:=three hs e0 e1 e2;subst jk
 have kK:0<K:=by have:=L.tn;omega
 have iP:(1000,Chunk.own (ρ.t 23) K l)∈[(1000,Chunk.own (ρ.t 23) K l)]:=by simp
 rcases hI.holds _ _ iP with ⟨rfl,a',sV⟩|⟨g,cap,cur,uJ,iO,hg,nK,nD,fZ,uQ,IP⟩
 ·simp at s9;omega
 ·rw [ah] at uJ;cases uJ;obtain ⟨n,hn⟩:∃n,n=l.length:=⟨_,rfl⟩;obtain ⟨cl,rfl⟩:∃cl:List Value,cur=cl.toArray:=⟨cur.toList,by simp⟩
  have ri:aH c 0=false:=by cases c<;>first|rfl|omega
  have ho:bC β [(1000,Chunk.own (ρ.t 23) K l)] g:=⟨1000,_,iP,by rw [ah];simp [bR,ri]⟩;have gX:∀b,¬bC β [(1000,Chunk.own (ρ.t 23) K l)] b→b≠g:=fun b hb e=>hb (e▸ho)
  have c_:cl.length=c*K:=by simpa using fZ
  have qk:n*K≤c*K:=cG _ (by omega)
  have Bu:∀r q,r<n→q<K→(cl.getD (r*K+q) undef).oneCell'=true∧bg w F ((l.getD r []).getD q .χ) (cl.getD (r*K+q) undef):=fun r q hr hq=>by
   have:=IP r q (by omega) hq;rwa [vP cl.toArray cl rfl] at this
  have sS:∀q v,q<n*K→cl[q]?=some v→v.oneCell'=true:=fun q v hq jV=>by
   have h3:q/K<n:=(qU kK).2 hq;have h4:q % K<K:=sy _ kK
   have h5:q/K*K+q % K=q:=by rw [Nat.mul_comm];exact Rq q K
   have:=(Bu _ _ h3 h4).1;rw [h5,fW,jV] at this;exact this
  rw [←hn] at s9 nK uQ ⊢
  have gp:c≤9223372036854775807:=by have:=nD;unfold maxLen at this;omega
  refine Calls.to (aaA L K g c n i' j' cl w fR eQ s9 nK gp hg c_ sS) ?_;rintro e w' ⟨rfl,zs,mR,rfl⟩
  have hlen:(fY l (i':Int) (j':Int)).length=i'+(n-j'):=by simp [fY];omega
  have e0:j'*K+(n-j')*K=n*K:=by rw [←bP,show j'+(n-j')=n by omega]
  have e1:i'*K+(n-j')*K=(i'+(n-j'))*K:=by rw [bP]
  have e2:(i'+(n-j'))*K+(j'-i')*K=n*K:=by rw [←bP,show i'+(n-j')+(j'-i')=n by omega]
  have e4:i'*K+(j'-i')*K=j'*K:=by rw [←bP,show i'+(j'-i')=j' by omega]
  have fc:((cl.drop (j'*K)).take ((n-j')*K)).length=(n-j')*K:=by simp;omega
  refine ⟨_,rfl,.o 900,⟨aF,[(900,.own (ρ.t 23) K (fY l (i':Int) (j':Int)))]⟩,F,_,⟨rfl,rfl⟩,.o (if_pos rfl),V7 (v:=.slice (some ⟨g,0,none⟩) (i'+(n-j')) c) hI rfl ⟨rfl,fun _=>j2 _⟩ rfl (by rw [zW,zW];exact bG _) (fun b hb bp=>by rw [zV _ _ _ _ (gX b bp),zV _ _ _ _ (gX b bp)];rfl)
   ⟨g,c,_,by rw [hlen],.inr ho,iO,yi _ _ _ (yi _ _ _ (show w.drew.heap[g]?=_ from hg)),by rw [hlen];omega,nD,?_,fun r hr=>?_,fun r q hr hq=>?_⟩⟩
  ·rw [ll,mV (by rw [mV (by omega)];omega),mV (by omega)];exact c_
  ·rw [hlen] at hr;rw [Sq l i' j' r (by omega) (by omega)];split
   ·exact uQ r (by omega)
   ·exact uQ _ (by omega)
  ·rw [hlen] at hr;rw [vP _ _ rfl,Sq l i' j' r (by omega) (by omega)]
   have hqr:r*K+q<(i'+(n-j'))*K:=by
    calc r*K+q<(r+1)*K:=by rw [bP];omega
     _≤_:=cG _ hr
   rw [show ∀X:List Value,X.getD (r*K+q) undef=(X[r*K+q]?).getD undef from fun X=>fW ..,zw (by rw [mV (by omega)];omega),if_pos hqr,zw (by omega)];by_cases h1:r<i'
   ·have h2:r*K+q<i'*K:=by
     calc r*K+q<(r+1)*K:=by rw [bP];omega
      _≤_:=cG _ h1
    rw [if_pos h1,if_pos h2,show ∀(a:List Value) b,(a[b]?).getD undef=a.getD b undef from fun a b=>(fW ..).symm];exact Bu r q (by omega) hq
   ·have h2:¬r*K+q<i'*K:=by
     have:i'*K≤r*K:=cG _ (by omega);omega
    have h3:r*K+q<i'*K+((cl.drop (j'*K)).take ((n-j')*K)).length:=by omega
    have h4:j'*K+(r*K+q-i'*K)=(r+(j'-i'))*K+q:=by
     have:i'*K≤r*K:=cG _ (by omega);rw [bP];omega
    rw [if_neg h1,if_neg h2,if_pos h3,gk,if_pos (by omega),js,h4,show ∀(a:List Value) b,(a[b]?).getD undef=a.getD b undef from fun a b=>(fW ..).symm];exact Bu (r+(j'-i')) q (by omega) hq
end
section
open Go.RowKit
section
variable [M:bM] [G:cK] [R:dK]
variable {P:Program} {n:Nat} {st:ae} {Q:Exit→ae→Prop} {T:TT}
def ct {x y:Code} {ρ:Type} {X Y:Option ρ} {r:ρ} {d:Nat} {b:Bool} (h:(if b=true then X else Y)=some r) (yes:b=true→X=some r→Ok P n x st Q) (no:b=false→Y=some r→Ok P n y st Q) (hb:st.f d=.v (.bool b):=by exact rfl):Ok P n (.cond (.tmp d) x y) st Q:=cn d b hb h yes no
def pq {g:Nat} {fn:Func} {args:List AV} {r:AV} (hT:bO P T) (n:Nat) (dE:P.funcs[g]?=some fn)
  (h : Ok P n (fn.body.getD .skip) ⟨kW args, []⟩ (sQ T fn.results.toList fun x st => Fz st.H x r)) (dN : (fn.name == "runtime.NumGoroutine") = false := by kernel_rfl) (hb : fn.body = some (fn.body.getD .skip) := by exact rfl) (hn : fn.ntmps = n := by exact rfl) (hle : p0 args.length n = true := by exact rfl) : Pure P g args r := po hT n dE dN hb hn hle h
def pv {g E K:Nat} {fn:Func} {args:List AV} {rows:List (List AV)} (hT:bO P T) (n:Nat) (dE:P.funcs[g]?=some fn)
  (h : Ok P n (fn.body.getD .skip) ⟨kW args, []⟩ (sQ T fn.results.toList (Ly E K rows))) (dN : (fn.name == "runtime.NumGoroutine") = false := by kernel_rfl) (hb : fn.body = some (fn.body.getD .skip) := by exact rfl) (hn : fn.ntmps = n := by exact rfl) (hle : p0 args.length n = true := by exact rfl) : iZ P g args E K rows := pw hT n dE dN hb hn hle h
def px {E:TypeId} {g:Nat} {fn:Func} {args:List AV} {H0:Hp} {ρ:Type} {q:Int⊕ρ} {r:ρ→AV} {H1:ρ→Hp} (hT:bO P T) (n:Nat) (dE:P.funcs[g]?=some fn)
  (h : Ok P n (fn.body.getD .skip) ⟨kW args, H0⟩ (Mp T E fn.results.toList (fun x s => ∃ y, q = .inr y ∧ Wk ⟨dX aF 0 x, s.H⟩ ⟨ar [(0, r y)], H1 y⟩) fun m => q = .inl m)) (dN : (fn.name == "runtime.NumGoroutine") = false := by kernel_rfl) (hb : fn.body = some (fn.body.getD .skip) := by exact rfl) (hn : fn.ntmps = n := by exact rfl) (hle : p0 args.length n = true := by exact rfl) :
  fP P E g args ⟨aF,H0⟩ (fun x s=>∃y,q=.inr y∧x=r y∧s.H=H1 y) fun m s=>q=.inl m∧s.H=[]:=af9 hT dE dN hb hn (AD hle) h
def pg {g:Nat} {fn:Func} {args:List AV} {H0 H1:Hp} {r:AV} (hT:bO P T) (n:Nat) (dE:P.funcs[g]?=some fn)
  (h : Ok P n (fn.body.getD .skip) ⟨kW args, H0⟩ (sQ T fn.results.toList fun x s => Wk ⟨dX aF 0 x, s.H⟩ ⟨ar [(0, r)], H1⟩)) (dN : (fn.name == "runtime.NumGoroutine") = false := by kernel_rfl) (hb : fn.body = some (fn.body.getD .skip) := by exact rfl) (hn : fn.ntmps = n := by exact rfl) (hle : p0 args.length n = true := by exact rfl) : af P g args ⟨aF, H0⟩ fun x s => x = r ∧ s.H = H1 := af_ hT dE dN hb hn (AD hle) h
def cg {g:Tg} {xs ys:List AV} {st:ae} {H0 H1:Hp} {r:AV} {k:AV→ae→Prop} (m n:List (Nat×Nat)) (h:af P g ys ⟨aF,H0⟩ fun x s=>x=r∧s.H=H1)
  (hx:iY m xs ys) (hH:vN m st.H H0) (hk:k (rl (cU (kp m n)) 3 r) ⟨fun t=>uB n (st.f t),hU (cU (kp m n)) H1++kq m n st.H⟩)
  (kR:jH H0=true:=by exact rfl) (ht:CD m n=true:=by exact rfl) (fU:jH (hU (cU (kp m n)) H1++kq m n st.H)=true:=by exact rfl):af P g xs st k:=af.gen h hx hH kR ht fU hk
def cx {E:TypeId} {g:FuncId} {xs ys:List AV} {st:ae} {H0:Hp} {ρ:Type} {q:Int⊕ρ} {r:ρ→AV} {H1:ρ→Hp} {k:AV→ae→Prop} {kx:Int→ae→Prop} (m n:List (Nat×Nat)) (h:fP P E g ys ⟨aF,H0⟩ (fun x s=>∃y,q=.inr y∧x=r y∧s.H=H1 y) fun m s=>q=.inl m∧s.H=[])
  (hx:iY m xs ys) (hH:vN m st.H H0)
  (hp:∀e,q=.inl e→kx e ⟨fun t=>uB n (st.f t),kq m n st.H⟩)
  (hk:∀y,q=.inr y→k (rl (cU (kp m n)) 3 (r y)) ⟨fun t=>uB n (st.f t),hU (cU (kp m n)) (H1 y)++kq m n st.H⟩)
  (kR:jH H0=true:=by exact rfl) (ht:CD m n=true:=by exact rfl) (fU:∀y,jH (hU (cU (kp m n)) (H1 y)++kq m n st.H)=true:=by exact fun _=>rfl) (fz:jH (kq m n st.H)=true:=by exact rfl):fP P E g xs st k kx:=fP.gen h hx hH kR ht fU fz hp hk
end
section
variable [M:bM] [G:cK] {H:Hp}
def S3:∀{xs:List AV},xs.all kg=true→oj H xs xs
 |[],_=>.nil
 |x::xs,h=>by
  rw [List.all_cons,bE] at h;exact .cons (Fz.dG h.1) (S3 h.2)
def fq {xs:List AV} (h:xs.all kg=true:=by rfl):oj H xs xs:=S3 h
end
section
variable [M:bM] [G:cK] [R:dK]
local instance ak_:qW:=⟨[]⟩
local instance ak7:mi:=⟨[]⟩
variable {P:Program} {n:Nat} {st:ae} {Q:Exit→ae→Prop} {T:TT}
def dw {id:Nat} {ops:Array Oper} (m:Nat) (hT:bO P T) (hm:P.follows .mixedOrders=true)
  (h:sf P T n ops (steady m ops) ⟨preB (eA m ops) (jy (eA m ops) st).f,(jy (eA m ops) st).H⟩ fun st1=>tC P st1.f (ops.toList.take m)∧q6 T n (eA m ops) st1 fun st2=>iV P T n ops (ops.toList.drop m) st2 (Q .normal)) (qh:DH m ops=true:=by kernel_rfl):Ok P n (.region id ops true) st Q:=Ok.draw hT hm qh h
end
end
end Go.Cat
