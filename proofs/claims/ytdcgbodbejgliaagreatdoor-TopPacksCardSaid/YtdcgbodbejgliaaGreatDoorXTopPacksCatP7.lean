/- The logic that the walks are in, piece P7. No condition. -/
import Derived.Test.YtdcgbodbejgliaaGreatDoorXTopPacksCatP6
import Derived.RecoverIn
import Derived.Shelf.Spec.SlicesInsertGrow
import Derived.Shelf.SlLaysE
import Derived.Lib.SlicesDelete
import Derived.Deep.RegionLaw
import Derived.Laws.CopyRow
import Derived.KernelRfl
open Array renaming getElem?_eq_getElem → gz, getElem?_eq_some_iff → lB, getD_eq_getD_getElem? → lA, length_toList → lR, getElem?_push → np, getElem?_modify → pY, replicate → og, getElem?_append → pX, size_append → ue
open Bool renaming and_eq_true → bJ, or_eq_true → ug
open ByteArray renaming mk → lS
open Classical renaming byContradiction → xC
open Go renaming sizeOf → r7
open Go.Act renaming put → iM, eval → Ar
open Go.Addr renaming add_lit → gk
open Go.Builtin renaming zeroCells → dI, append_ → ig, copy_ → qG, firstCells → xB, clear_ → vC
open Go.Deferred renaming ofValue → mg
open Go.Extern.SlicesOverlaps renaming overlaps → rZ
open Go.Fence renaming wide → gl
open Go.Instr renaming makeInterface → ZV
open Go.IntKind renaming wrap_i64 → ZY, i64 → Lo
open Go.Lib renaming wpList_append_run → Lp
open Go.Oper renaming uponIn_value → xK, uponIn_enter → Ax, uponIn_panic → aae
open Go.Region renaming wanted → dW, binds → jK, ready → lY
open Go.Region.linearise renaming go → LC
open Go.Src renaming ofSlice → Rz
open Go.TypeDesc renaming tuple → aal, slice → aak, bool → aai, int → aaj
open Go.Value renaming slice → R4, bool → Dg
open Go.World renaming putObj_size → j5, putObj_heap_other → p6, alloc → lZ, cell? → vM, setRow → xL, frozen? → ama
open Int renaming toNat_natCast → gU
open List renaming getElem?_eq_getElem → bF, mem_cons_of_mem → cj, mem_cons → bj, length_append → cP, getD → aV, map → aT, getElem?_eq_some_iff → fk, getD_eq_getElem?_getD → fW, mem_singleton → dB, length_take → dN, all_eq_true → ej, getElem_mem → ek, not_mem_nil → eJ, getElem?_take → gn, getElem?_append → gK, replicate → il, mem_append → gp, getElem?_drop → jq, nodup_cons → ix, size_toArray → lC, append_assoc → kD, mem_filterMap → mi, mem_range → mq, nodup_nil → qO, eq_nil_iff_forall_not_mem → Av, mem_append_right → vH, nil_append → al_, getElem_of_mem → RO, filterMap_cons → RL
open Nat renaming mul_le_mul_right → cI, beq → aH, le_refl → bG, add_mul → bM, le_trans → fo, blt_eq → gO, le_succ → j3, div_lt_iff_lt_mul → qP, lt_of_lt_of_le → oh, add_zero → lW, min_eq_left → xI, le_of_ble_eq_true → Aw, strongRecOn → uk, ble → p4, mod_lt → se, min → p5, div_add_mod → RU, ne_of_lt → Ly, mul_pos → RW
open Option renaming bind_some → cm
open Prod.mk renaming injEq → im
namespace Go.Cat
set_option linter.all false
section
open Go.RowKit
variable [M:cM] [G:dX] [R:eE]
abbrev jH (E:TypeId) (n:Int):List PanicEntry:=[{ v:=.iface E (.int .i64 n),recovered:=false }]
def fM (P:Program) (E:TypeId) (g:FuncId) (args:List AV) (st:ah) (k:AV→ah→Prop) (kx:Int→ah→Prop):Prop :=
 p7 P g∧∀(w:World) (F:Nat→Prop) (β:Nat→Value) (vs:Array Value),Inv w F β st.H→vs.size=args.length →
  (∀i,i<args.length→Rd w F β (args.getD i .χ) (vs.getD i undef)) →
  Calls P g vs w fun e w'=>(∃v,e=.returned v∧∃r au F' av,k r au∧Rd w' F' av r v∧Ext w F β st w' F' av au) ∨
   ∃n,e=.panicked (jH E n)∧∃au F' av,kx n au∧Ext w F β st w' F' av au
def Mq (P:Program) (E:TypeId) (f:AV) (xs:List AV) (st:ah) (k:AV→ah→Prop) (kx:Int→ah→Prop):Prop :=
 match f with
 |.c (.func g) fs cs=>fM P E g (fs++(xs++cs)) st k kx
 |_=>False
def xo (P:Program) (T:TT) (E:TypeId) (o:Oper) (st:ah) (k:AV→ah→Prop) (kx:Int→ah→Prop):Prop :=
 match o.op with
 |.call c=>match c.callee with
  |.value f=>Mq P E (ev st.f f) (c.args.toList.map (ev st.f)) st k kx
  |_=>False
 |.makeInterface t x=>match ev st.f x,T t with
  |.v (.int .i64 n),some i=>match i.kind with
   |.int .i64=>k (.v (.iface t (.int .i64 n))) st
   |_=>False
  |_,_=>False
 |.panic x=>match ev st.f x with
  |.v (.iface t (.int .i64 n))=>t=E∧kx n st
  |_=>False
 |_=>False
def KO (P:Program) (T:TT) (E:TypeId) (o:Oper) (st:ah) (k:AV→ah→Prop) (kx:Int→ah→Prop):Prop :=
 step P T o st k∨xo P T E o st k kx
def GQ (P:Program) (T:TT) (E:TypeId) (n:Nat) (all:Array Oper):List Oper→ah→(ah→Prop)→(Int→ah→Prop)→Prop
 |[],st,K,_=>K st
 |o::os,st,K,KX=>gd n all o st (fun st=>KO P T E o st (fun r au=>put n o.dst au r fun fL=>GQ P T E n all os fL K KX) KX) fun st=>put n o.dst st (.v undef) fun au=>GQ P T E n all os au K KX
section
variable {P:Program} {T:TT} {E:TypeId} {C:Ctx} {w:World} {F:Nat→Prop} {β:Nat→Value}
def R8 (P:Program) (E:TypeId) (s:Sem Next) (w:World) (F:Nat→Prop) (β:Nat→Value) (st:ah) (k:AV→ah→Prop) (kx:Int→ah→Prop):Prop :=
 (∃v w',s.run P w=.ok (.value v) w'∧EPost w F β st k v w')∨(∃n,s.run P w=.halt (.panic (.iface E (.int .i64 n))) w∧kx n st) ∨
 (∃g vs,s.run P w=.ok (.enter g vs) w∧Calls P g vs w fun e w'=>(∃v,e=.returned v∧EPost w F β st k v w')∨∃n,e=.panicked (jH E n)∧∃au F' av,kx n au∧Ext w F β st w' F' av au)
def aaG {f:Nat→AV} {a:Act} (hf:∀t,Rd w F β (f t) (a.tmps.getD t undef)) (args:Array Operand):∀i,i<(args.toList.map (ev f)).length→Rd w F β ((args.toList.map (ev f)).getD i .χ) ((args.map a.eval).getD i undef):=by
 intro i hi
 have hi:i<args.size:=by simpa using hi
 have:=AW hf args[i];simpa [aV,hi] using this
def ain {o:Oper} {a:Act} {st:ah} {k:AV→ah→Prop} {kx:Int→ah→Prop} (hT:bL P T) (hI:Inv w F β st.H) (hf:∀t,Rd w F β (st.f t) (a.tmps.getD t undef)) (h:xo P T E o st k kx):R8 P E (execOp a.eval o) w F β st k kx:=by
 obtain ⟨dst,op,type,pos,after,guard⟩:=o
 cases op<;>simp only [xo] at h<;>first|exact h.elim|skip
 case call c =>
  obtain ⟨callee,args,argTypes⟩:=c
  cases callee<;>simp only at h<;>first|exact h.elim|skip
  rename_i f;unfold Mq at h;split at h
  ·rename_i g fs cs lI;have sV:=AW hf f;rw [lI] at sV;obtain ⟨us,ws,Nt,hs,ez,hu,hw⟩:=sV.nB;obtain ⟨⟨fn,code,dK,dR,hb⟩,h⟩:=h
   have rv : ¬ fn.name = "runtime.NumGoroutine" := by simpa using dR
   refine .inr (.inr ⟨g,us++args.map a.eval++ws,?_,?_⟩)
   ·have e:execOp a.eval { dst,op:=.call { callee:=.value f,args,argTypes },type,pos,after,guard }=(do let d ←mg (a.eval f) (args.map a.eval);invoke d.target d.args):=rfl;rw [e,Nt];simp [mg,invoke,callFunc,dK,rv,hb]
   ·have hl:(args.map a.eval).size=(args.toList.map (ev st.f)).length:=by simp
    exact h w F β _ hI (by simp [hs,ez]) (Ht hs hl ez hu (aaG hf args) hw)
  ·exact h.elim
 case makeInterface t x =>
  split at h
  ·rename_i n i hx hi;split at h
   ·rename_i hk;have nP:=AW hf x;rw [hx] at nP;refine .inl ⟨.iface t (.int .i64 n),w,?_,?_⟩
    ·simp only [execOp];rw [nP.bK];have:=(hT _ _ hi).int hk;simp [ZV,run_underlying this]
    ·exact ⟨_,st,F,β,h,.i (.v (.inl rfl)),Ext.refl hI⟩
   ·exact h.elim
  ·exact h.elim
 case panic x =>
  split at h
  ·rename_i t n hx;obtain ⟨rfl,h⟩:=h;have nP:=AW hf x;rw [hx] at nP;refine .inr (.inl ⟨n,?_,h⟩);simp only [execOp];rw [nP.bK];simp [run_panic_iface]
  ·exact h.elim
def Yp {o:Oper} {st:ah} {k:AV→ah→Prop} {kx:Int→ah→Prop} (h:xo P T E o st k kx):∀c,o.op≠.defer c:=fun c e=>by
 unfold xo at h;rw [e] at h;exact h
def akO {n:Nat} {all:Array Oper} {o:Oper} {i:Nat} {st:ah} {K:ah→Prop} {KX:Int→ah→Prop} {a:Act} {w:World} {Q:Exit→Act→World→Prop} {N:Act→World→Prop} (hT:bL P T) (hn:C.n=n) (ho:all[i]?=some o) (hr:Rel C st a w)
  (hN:∀st a w,Rel C st a w→K st→N a w) (hQ:∀m st a w,Rel C st a w→KX m st→Q (.panic (jH E m)) a w)
  (h:gd n all o st (fun st=>KO P T E o st (fun r au=>put n o.dst au r K) KX) fun st=>put n o.dst st (.v undef) K):wpOpIn (fN C.ro) 0 P all Q i N a w:=by
 obtain ⟨F,β,hs,hd,hf,he⟩:=hr
 have run:∀st:ah,(∀t,Rd w F β (st.f t) (a.tmps.getD t undef))→XM C a.defers w F β st.H→(xo P T E o st (fun r au=>put n o.dst au r K) KX)→o.wpIn (fN C.ro) 0 P a w N Q:=by
  intro st hf he h;have dP:=Yp h
  rcases ain hT he.inv hf h with ⟨v,w',aZ,r,au,F',av,hk,hv,hx⟩|⟨m,aZ,hk⟩|⟨g,vs,aZ,hc⟩
  ·refine Oper.kj dP aZ ?_;rw [xK];obtain ⟨fL,h1,h2⟩:=zQ hn hs hd (fun t=>hx.keep t _ (hf t)) (he.trans (hx.vp aG)) hv hk;exact hN _ _ _ h1 h2
  ·refine Oper.kj dP aZ ?_;rw [aae];exact hQ m st a w ⟨F,β,hs,hd,hf,he⟩ hk
  ·refine Oper.kj dP aZ ?_;rw [Ax];refine ⟨fun h=>(by cases h),vZ (hc.mono ?_)⟩;rintro e w' (⟨v,rfl,r,au,F',av,hk,hv,hx⟩|⟨m,rfl,au,F',av,hk,hx⟩)
   ·obtain ⟨fL,h1,h2⟩:=zQ hn hs hd (fun t=>hx.keep t _ (hf t)) (he.trans (hx.vp aG)) hv hk;exact hN _ _ _ h1 h2
   ·exact hQ m au a w' ⟨F',av,hs,hd,fun t=>hx.keep t _ (hf t),he.trans (hx.vp aG)⟩ hk
 by_cases hg:o.guard=none
 ·rw [sM,hg] at h;simp only at h
  rcases h with h|h
  ·refine vz (K:=K) hT hn ho ⟨F,β,hs,hd,hf,he⟩ hN ?_;rw [sM,hg];exact h
  ·unfold wpOpIn;simp only [ho]
   have hw:dW o (yielded all a.tmps)=true:=by simp [dW,hg]
   rw [if_pos hw];exact run st hf he h
 ·obtain ⟨⟨j,want⟩,hg⟩:=Option.ne_none_iff_exists'.1 hg;have h0:=h;rw [sM,hg] at h;simp only at h;split at h
  ·rename_i d oE;obtain ⟨IQ,h⟩:=cond_prop h
   have Φ:d<a.tmps.size:=by rw [hs,hn];simpa [gO] using IQ
   have gr:=hf d;split at h
   ·rename_i b hb;rw [hb] at gr;have hv:=gr.bK
    have h_:yielded all a.tmps j=some b:=by
     have h2:a.tmps[d]?=some (.bool b):=by rw [←hv];simp [Φ]
     unfold yielded;rw [oE,cm,h2]
    by_cases jA:b=want
    ·have hy:=h.y jA
     rcases hy with hy|hy
     ·refine vz (K:=K) (st:=⟨dZ st.f d (.v (.bool want)),st.H⟩) hT hn ho ⟨F,β,hs,hd,CU hf hb jA,he⟩ hN ?_;rw [sM,hg];simp only [oE,IQ,cond_true,dZ,Nat.beq_refl];refine Br.yes rfl ?_
      have e:dZ (dZ st.f d (.v (.bool want))) d (.v (.bool want))=dZ st.f d (.v (.bool want)):=by
       funext t;simp only [dZ];cases aH t d<;>rfl
      show step P T o ⟨dZ (dZ st.f d (.v (.bool want))) d (.v (.bool want)),st.H⟩ _;rw [e];exact hy
     ·unfold wpOpIn;simp only [ho]
      have hw:dW o (yielded all a.tmps)=true:=by simp [dW,hg,h_,jA]
      rw [if_pos hw];exact run ⟨dZ st.f d (.v (.bool want)),st.H⟩ (CU hf hb jA) he hy
    ·have qg:b=!want:=by cases b<;>cases want<;>first|rfl|exact absurd rfl jA
     refine vz (K:=K) hT hn ho ⟨F,β,hs,hd,hf,he⟩ hN ?_;rw [sM,hg];simp only [oE,IQ,cond_true,hb];exact Br.no qg (h.n qg)
   ·rename_i vs hb;refine vz (K:=K) hT hn ho ⟨F,β,hs,hd,hf,he⟩ hN ?_;rw [sM,hg];simp only [oE,IQ,cond_true,hb];exact h
   ·exact h.elim
  ·exact h.elim
def akP {n:Nat} {all:Array Oper} {K:ah→Prop} {KX:Int→ah→Prop} {Q:Exit→Act→World→Prop} (hT:bL P T) (hn:C.n=n) (hQ:∀st a w,Rel C st a w→K st→Q .normal a w) (hX:∀m st a w,Rel C st a w→KX m st→Q (.panic (jH E m)) a w) :
  ∀(l:List Oper) (i:Nat) (st:ah) (a:Act) (w:World),(∀k,k<l.length→all[i+k]?=l[k]?)→Rel C st a w→GQ P T E n all l st K KX→wpOpsIn (fN C.ro) 0 P all Q (List.range' i l.length) a w:=by
 intro l;induction l with
 |nil=>intro i st a w _ hr h;exact hQ _ _ _ hr h
 |cons o os ih =>
  intro i st a w ed hr h
  have ho:all[i]?=some o:=by simpa using ed 0 (by simp)
  rw [List.length_cons,List.range'_succ,wpOpsIn_cons];refine akO (K:=fun st=>GQ P T E n all os st K KX) (KX:=KX) hT hn ho hr (fun st a w hr hk=>?_) hX h;exact ih (i+1) st a w (fun k hk=>by have:=ed (k+1) (by simp;omega);rw [show i+1+k=i+(k+1) by omega];simpa using this) hr hk
def Ok.cY {n id:Nat} {ops:Array Oper} {st:ah} {Q:Exit→ah→Prop} (E:TypeId) (hT:bL P T) (h:GQ P T E n ops ops.toList st (Q .normal) fun m au=>Q (.panic (jH E m)) au):Ok P n (.region id ops false) st Q :=
 ⟨fun C hn a w hr=>by
  refine wpIn_region ?_;have:=akP (C:=C) (Q:=fun e a' w'=>∃au,Rel C au a' w'∧Q e au) hT hn (fun st a w hr hk=>⟨st,hr,hk⟩) (fun m st a w hr hk=>⟨st,hr,hk⟩) ops.toList 0 st a w (fun k hk=>by simp) hr h
  simpa [List.range_eq_range'] using this⟩
def MC (T:TT) (E:TypeId) (rs:List ResultVar) (R:AV→ah→Prop) (RX:Int→Prop):Exit→ah→Prop
 |.normal,st=>qy T rs st fun x=>R x st
 |.ret,st=>qy T rs st fun x=>R x st
 |.panic l,_=>∃m,l=jH E m∧RX m
 |_,_=>False
def VZ {C:Ctx} {fn:Func} {tmps:Array Value} {RR:Ending→World→Prop} {F:Nat→Prop} {β:Nat→Value} {H:Hp} {u:FrameMode} (hu:u≠.run) (rb:C.dl=[]):∀(ds:List Deferred) (w:World),XM C ds w F β H →
  (∀w',XM C [] w' F β H→(∀x u,Rd w F β x u→Rd w' F β x u)→LeavesIn gl 0 P fn tmps RR [] u w')→LeavesInM gl 0 P fn tmps RR ds u w
 |[],w,h,hk=>hk w h fun _ _ hr=>hr
 |d::ds,w,h,hk=>by
  have jS:∀l,C.ms l=l:=fun l=>Ctx.Wd rb;obtain ⟨D,h1,h2,h3,h4,h5⟩:=h.m d (by rw [jS];simp);have dP:=h.nd;rw [jS] at dP;have Φ:=kJ h3;have oG:∀b,b≠D→(w.putObj D (.deferred none)).heap[b]?=w.heap[b]?:=fun b hb=>p6 hb;have ha:ga F w (w.putObj D (.deferred none)):=fun b hb=>oG b fun e=>h4 (e▸hb);have hI:=h.inv;refine ⟨hu,.inl ⟨D,_,by rw [h1],run_takeDeferred h3,?_⟩⟩;have kP:Inv (w.putObj D (.deferred none)) F β H:=⟨fun b hb=>by rw [j5];exact hI.cA b hb,fun i c hm=>pH ha (fun _ h=>h) (fun b hb=>oG b fun e=>h5 (e▸⟨i,c,hm,hb⟩)) (hI.holds i c hm),hI.keys,hI.apart,hI.eo,hI.fh.at ha⟩;have hx:=h.x;refine VZ hu rb ds _ ⟨⟨hx.os,hx.tape,hx.output,by rw [j5];exact hx.size,fun b hb hn=>(oG b (by omega)).trans (hx.block b hb hn),hx.mono,hx.new,hx.owned,fun _ _ _=>.χ,kP,hx.gh⟩,fun d' bH=>?_,by rw [jS];exact (ix.1 dP).2,⟨ds,by rw [rb];simp⟩⟩ fun w' oM cK=>hk w' oM fun x u hr=>cK x u (hr.frame ha fun _ h=>h);rw [jS] at bH;obtain ⟨D',g1,g2,g3,g4,g5⟩:=h.m d' (by rw [jS];simp [bH]);exact ⟨D',g1,g2,(oG D' fun e=>(ix.1 dP).1 (by rw [h1,←e,←g1];exact bH)).trans g3,g4,g5⟩
def Ext.forget {w0:World} {F0:Nat→Prop} {oV:Nat→Value} {oS st:ah} (h:Ext w0 F0 oV oS w F β st):Ext w0 F0 oV oS w F β ⟨aG,[]⟩ :=
 ⟨h.os,h.tape,h.output,h.size,h.block,h.mono,h.new,fun _ ⟨_,_,hm,_⟩=>(eJ hm).elim,fun _ _ _=>.χ,h.inv.nil,h.gh⟩
def aaT {g n:Nat} {fn:Func} {c:Code} {args:List AV} {H:Hp} {R0:AV→ah→Prop} {RX:Int→Prop} (hT:bL P T) (dK:P.funcs[g]?=some fn) (hb:fn.body=some c) (hn:fn.ntmps=n) (hle:args.length≤n)
  (h:Ok P n c ⟨lg args,H⟩ (MC T E fn.results.toList R0 RX)) {vs:Array Value} (hI:Inv w F β H) (hs:vs.size=args.length) (hv:∀i,i<args.length→Rd w F β (args.getD i .χ) (vs.getD i undef)) :
  Calls P g vs w fun e w'=>(∃v,e=.returned v∧∃x st F' av,R0 x st∧Rd w' F' av x v∧Ext w F β ⟨aG,H⟩ w' F' av ⟨aG,st.H⟩) ∨
   ∃m,e=.panicked (jH E m)∧RX m∧∃F' av,Ext w F β ⟨aG,H⟩ w' F' av ⟨aG,[]⟩:=by
 refine callsIn_wide.1 (callsIn_of_wp_marks (F:=gl) (n:=0) dK hb trivial ?_);let C:Ctx:=⟨w,F,β,H,n,none,.inl rfl,[]⟩;have hr:Rel C ⟨lg args,H⟩ { tmps:=vs++og (fn.ntmps-vs.size) undef,defers:=[] } w :=
  ⟨F,β,by simp [C,hn];omega,trivial,OD hs hv,⟨Ext.refl hI,fun d hd=>(eJ hd).elim,qO,⟨[],rfl⟩⟩⟩
 have fin:∀(st:ah) (a':Act) (w':World),Rel C st a' w'→qy T fn.results.toList st (fun x=>R0 x st)→LeavesInM gl 0 P fn a'.tmps (fun e w'=>(∃v,e=.returned v∧∃x st F' av,R0 x st∧Rd w' F' av x v∧Ext w F β ⟨aG,H⟩ w' F' av ⟨aG,st.H⟩) ∨
   ∃m,e=.panicked (jH E m)∧RX m∧∃F' av,Ext w F β ⟨aG,H⟩ w' F' av ⟨aG,[]⟩) a'.defers .returning w':=fun st a' w' ⟨F',av,_,_,hf,he⟩ hq =>
  Ji rfl a'.defers w' he fun rU fw cK=>by
   obtain ⟨v,x,aZ,hk,hx⟩:=Ka (P:=P) (st:=st) hT fw.inv (fun t=>cK _ _ (hf t)) hq;exact ⟨v,aZ,.inl ⟨v,rfl,x,st,F',av,hk,hx,fw.x⟩⟩
 refine wpIn_mono (h.h C rfl _ w hr) ?_;rintro e a' w' ⟨st,iR,hq⟩;cases e with
 |normal=>exact fin st a' w' iR hq
 |ret=>exact fin st a' w' iR hq
 |exit id=>exact hq.elim
 |goto l=>exact hq.elim
 |panic ch =>
  obtain ⟨m,rfl,hq⟩:=hq;obtain ⟨F',av,_,_,hf,he⟩:=iR;exact VZ (by simp) rfl a'.defers w' he fun rU fw cK=>.inr ⟨m,rfl,hq,F',av,fw.x.forget⟩
 |outgrown=>exact hq.elim
def agz {g n : Nat} {fn : Func} {c : Code} {args : List AV} {H0 : Hp} {ρ : Type} {q : Int ⊕ ρ} {r : ρ → AV} {H1 : ρ → Hp} (hT : bL P T) (dK : P.funcs[g]? = some fn) (dR : (fn.name == "runtime.NumGoroutine") = false) (hb : fn.body = some c) (hn : fn.ntmps = n) (hle : args.length ≤ n)
  (h:Ok P n c ⟨lg args,H0⟩ (MC T E fn.results.toList (fun x s=>∃y,q=.inr y∧Wk ⟨dZ aG 0 x,s.H⟩ ⟨aq [(0,r y)],H1 y⟩) fun m=>q=.inl m)) :
  fM P E g args ⟨aG,H0⟩ (fun x s=>∃y,q=.inr y∧x=r y∧s.H=H1 y) fun m s=>q=.inl m∧s.H=[]:=by
 refine ⟨⟨fn,c,dK,dR,hb⟩,fun w F β vs hI hs hv=>?_⟩;refine (aaT hT dK hb hn hle h hI hs hv).mono ?_;rintro e w' (⟨v,rfl,x,st,F',av,⟨y,hy,hW⟩,hx,he⟩|⟨m,rfl,hm,F',av,he⟩)
 ·obtain ⟨F2,bX,_,_,hf,h2⟩:=hW ⟨w,F,β,H0,1,none,.inl rfl,[]⟩ { tmps:=#[v],defers:=[] } w' ⟨F',av,rfl,trivial,fun t=>by
   show Rd w' F' av (bif aH t 0 then x else aG t) _;cases t with
   |zero=>exact hx
   |succ t=>exact .χ,⟨he,fun d hd=>(eJ hd).elim,qO,⟨[],rfl⟩⟩⟩
  exact .inl ⟨v,rfl,r y,⟨aG,H1 y⟩,F2,bX,⟨y,hy,rfl,rfl⟩,hf 0,h2.x⟩
 ·exact .inr ⟨m,rfl,⟨aG,[]⟩,F',av,⟨hm,rfl⟩,he⟩
def fM.gen {g:FuncId} {xs ys:List AV} {st:ah} {H0:Hp} {ρ:Type} {q:Int⊕ρ} {r:ρ→AV} {H1:ρ→Hp} {k:AV→ah→Prop} {kx:Int→ah→Prop} {m n:List (Nat×Nat)} (h:fM P E g ys ⟨aG,H0⟩ (fun x s=>∃y,q=.inr y∧x=r y∧s.H=H1 y) fun m s=>q=.inl m∧s.H=[])
  (hx:i_ m xs ys) (hH:vQ m st.H H0) (kY:jm H0=true) (ht:Cz m n=true) (fR:∀y,jm (ia (cX (kq m n)) (H1 y)++kr m n st.H)=true) (fx:jm (kr m n st.H)=true)
  (hp:∀e,q=.inl e→kx e ⟨fun t=>uA n (st.f t),kr m n st.H⟩)
  (hk:∀y,q=.inr y→k (rl (cX (kq m n)) 3 (r y)) ⟨fun t=>uA n (st.f t),ia (cX (kq m n)) (H1 y)++kr m n st.H⟩):fM P E g xs st k kx:=by
 refine ⟨h.1,fun w F β vs hI hs hv=>?_⟩;obtain ⟨hl,du,uF,ν,sR⟩:=TO hx hH kY ht hI hv;refine (h.2 w F du vs uF (by omega) ν).mono ?_;rintro e w' (⟨v,rfl,x,s,F',av,⟨y,hy,rfl,EJ⟩,hr,he⟩|⟨e,rfl,s,F',av,⟨he0,EJ⟩,he⟩)
 ·obtain ⟨bX,hq,dV⟩:=sR w' F' av s.f (H1 y) (fR y) (by rw [←EJ];exact he);exact .inl ⟨v,rfl,rl (cX (kq m n)) 3 (r y),_,F',bX,hk y hy,zW hq 3 hr,dV⟩
 ·obtain ⟨bX,hq,dV⟩:=sR w' F' av s.f [] fx (by rw [←EJ];exact he);exact .inr ⟨e,rfl,_,F',bX,hp e he0,dV⟩
end
def l8 {ρ:Type} {b:Bool} {X Y:Option ρ} {r:ρ} {G:Prop} (h:(if b=true then X else Y)=some r) (yes:b=true→X=some r→G) (no:Y=some r→G):G:=by
 cases b with
 |true=>exact yes rfl (by simpa using h)
 |false=>exact no (by simpa using h)
def kN (k:Int):AV:=if k=0 then .v .nilFunc else .c (.func k.toNat) [] []
def gS (k:Int):List AV:=[kN k]
def ab0 {k:Int} {n:Nat} (hb:(k==(n:Int))=true) (hn:n≠0):kN k=.c (.func n) [] []:=by
 have:k=(n:Int):=by simpa using hb
 subst this;unfold kN;rw [if_neg (by omega)];rfl
def Le.fn {k:Int} {n:Nat} (hb:(k==(n:Int))=true) (hn:n≠0):Le (kN k) (.c (.func n) [] []):=by rw [ab0 hb hn];exact Le.refl _
def aaE {α:Type} {f:α→List AV} {l:List α} {n:Int} {b m:Nat} (h:(0:Int)≤n∧(l.length+n.toNat)*b≤m):((aT f l).length+n.toNat)*b≤m:=by rw [List.length_map];exact h.2
def aaF {α:Type} {f:α→List AV} {z:α} {l:List α} {n:Nat}:aT f l++il n (f z)=aT f (l++il n z):=by simp
def aa1 {α:Type} (f:α→List AV) (l:List α) (d:Nat) (x:List α):(aT f l).take d++(aT f x).take ((aT f l).length-d)++(aT f l).drop (d+(aT f x).length)=aT f (HM l d x):=by
 simp [HM,List.map_take,List.map_drop]
def exts (ops:Array Oper):Nat→Array Bool→List (List Nat)
 |0,_=>[[]]
 |fuel+1,listed=>match lY .any ops listed with
  |[]=>[[]]
  |r=>r.flatMap fun i=>(exts ops fuel (listed.setIfInBounds i true)).map (i::·)
def Hd {α:Type} (f:α→Prop):List α→Prop
 |[]=>True
 |x::r=>f x∧Hd f r
def Hd.mem {α:Type} {f:α→Prop}:∀{l:List α},Hd f l→∀x,x∈l→f x
 |[],_,_,h=>by cases h
 |y::r,h,x,hx=>by
  rcases bj.1 hx with rfl|hx
  ·exact h.1
  ·exact h.2.mem x hx
def abU {ops:Array Oper}:∀(fuel t:Nat) (listed:Array Bool),LC .any ops fuel t listed []∈exts ops fuel listed:=by
 intro fuel;induction fuel with
 |zero=>intro t listed;simp [LC,exts]
 |succ fuel ih =>
  intro t listed;simp only [LC,exts]
  change (match (lY .any ops listed)[t % (lY .any ops listed).length]? with
   |some i=>LC .any ops fuel (t/(lY .any ops listed).length) (listed.setIfInBounds i true) [i]
   |none=>[].reverse)∈_
  cases hr:lY .any ops listed with
  |nil=>simp
  |cons a r =>
   have Φ:t % (a::r).length<(a::r).length:=se _ (by simp);obtain ⟨i,hi⟩:∃i,(a::r)[t % (a::r).length]?=some i:=⟨_,bF Φ⟩;simp only [hi];rw [linearise_go_acc,List.reverse_singleton,List.singleton_append];refine List.mem_flatMap.2 ⟨i,List.mem_of_getElem? hi,List.mem_map.2 ⟨_,ih _ _,rfl⟩⟩
section
variable {P:Program} {T:TT} {C:Ctx}
def Zt {n:Nat} {all:Array Oper} {K:ah→Prop} {Q:Exit→Act→World→Prop} (hT:bL P T) (hn:C.n=n) (hQ:∀st a w,Rel C st a w→K st→Q .normal a w) :
  ∀(l:List Nat) (st:ah) (a:Act) (w:World),Rel C st a w→iW P T n all (l.filterMap (all[·]?)) st K→wpOpsIn (fN C.ro) 0 P all Q l a w:=by
 intro l;induction l with
 |nil=>intro st a w hr h;exact hQ _ _ _ hr h
 |cons i r ih =>
  intro st a w hr h;rw [wpOpsIn_cons];cases ho:all[i]? with
  |none =>
   unfold wpOpIn;simp only [ho];refine ih st a w hr ?_;simpa [RL,ho] using h
  |some o =>
   rw [RL,ho] at h;exact vz (K:=fun st=>iW P T n all (r.filterMap (all[·]?)) st K) hT hn ho hr (fun st a w hr hk=>ih st a w hr hk) h
def Ok.abg {n id:Nat} {ops:Array Oper} {st:ah} {Q:Exit→ah→Prop} (Ls:List (List Nat)) (hT:bL P T) (hm:P.follows .mixedOrders=true) (hc:exts ops ops.size (og ops.size false)=Ls)
  (h:Hd (fun l=>iW P T n ops (l.filterMap (ops[·]?)) st (Q .normal)) Ls):Ok P n (.region id ops true) st Q :=
 ⟨fun C hn a w hr=>by
  refine wpIn_region_draw fun t=>?_;simp only [Region.schedule,hm,Bool.true_or,if_true];obtain ⟨F,β,hs,hd,hf,he⟩:=hr;have hb:Below w.heap.size w w.drew:=(Below.refl _ _).drew;have cK:Rel C st a w.drew:=⟨fF F w w.drew,β,hs,hd,fun t=>(hf t).later hb he.inv.cA,he.trans (wi (st:=⟨aG,st.H⟩) he.inv hb)⟩
  exact Zt (Q:=fun e a' w'=>∃au,Rel C au a' w'∧Q e au) hT hn (fun st a w hr hk=>⟨st,hr,hk⟩) _ st a w.drew cK (h.mem _ (by rw [←hc];exact abU _ _ _))⟩
end
abbrev kK (c x y:List AV):Hp:=[(1000,.box c),(1001,.box x),(1002,.box y)]
structure R7 (P:Program) (E:TypeId) (gc:FuncId) (cf:List AV) (kf ka:Nat) (ans:Int→List AV):Prop where
 uz:p7 P gc
 ret:∀(w:World) (vs:Array Value),vs.size=3→CallsDIn gl 0 P gc vs .returning w fun e u w'=>(∃v,e=.returned v)∧u=.returning∧Below w.heap.size w w'
 Ft:∀(m:Int) (w:World) (F:Nat→Prop) (β:Nat→Value) (x y:List AV),Inv w F β (kK cf x y)→x.length=kf→y.length=ka →
  CallsDIn gl 0 P gc #[β 1000,β 1001,β 1002] (.panicking (jH E m)) w fun e u w'=>(∃v,e=.returned v)∧u=.panicking [{ v:=.iface E (.int .i64 m),recovered:=true }] ∧
   ∃F' av,Ext w F β ⟨aG,kK cf x y⟩ w' F' av ⟨aG,kK cf cf (ans m)⟩
def ab3 (T:TT) (E:TypeId) (rs:List ResultVar) (R0:AV→ah→Prop) (RX:Int→ah→Prop):Exit→ah→Prop
 |.normal,st=>qy T rs st fun x=>R0 x st
 |.ret,st=>qy T rs st fun x=>R0 x st
 |.panic l,st=>∃m,l=jH E m∧RX m st
 |_,_=>False
def S4 (q:List (Nat×Nat)) (tc:Nat) (L:List (Nat×AV)) (H:Hp):ah:=⟨dZ (fun t=>rl (cX q) 2 (aq L t)) tc .χ,ia (cX q) H⟩
section
variable {P:Program} {T:TT} {E:TypeId}
def OQ {C:Ctx} {fn:Func} {tmps:Array Value} {RR:Ending→World→Prop} {F:Nat→Prop} {β:Nat→Value} {H:Hp} {u:FrameMode} (hu:u≠.run):∀(l:List Deferred) (w:World),XM C (l++C.dl) w F β H →
  (∀w',XM C C.dl w' F β H→(∀x u,Rd w F β x u→Rd w' F β x u)→LeavesInM gl 0 P fn tmps RR C.dl u w')→LeavesInM gl 0 P fn tmps RR (l++C.dl) u w
 |[],w,h,hk=>hk w h fun _ _ hr=>hr
 |d::l,w,h,hk=>by
  have hm:=h.m;have hn:=h.nd;rw [Ctx.E7] at hm hn;obtain ⟨D,h1,h2,h3,h4,h5⟩:=hm d (by simp);have Φ:=kJ h3;have oG:∀b,b≠D→(w.putObj D (.deferred none)).heap[b]?=w.heap[b]?:=fun b hb=>p6 hb;have ha:ga F w (w.putObj D (.deferred none)):=fun b hb=>oG b fun e=>h4 (e▸hb);have hI:=h.inv;refine ⟨hu,.inl ⟨D,_,by rw [h1],run_takeDeferred h3,?_⟩⟩;have kP:Inv (w.putObj D (.deferred none)) F β H:=⟨fun b hb=>by rw [j5];exact hI.cA b hb,fun i c hm=>pH ha (fun _ h=>h) (fun b hb=>oG b fun e=>h5 (e▸⟨i,c,hm,hb⟩)) (hI.holds i c hm),hI.keys,hI.apart,hI.eo,hI.fh.at ha⟩;have hx:=h.x;refine OQ hu l _ ⟨⟨hx.os,hx.tape,hx.output,by rw [j5];exact hx.size,fun b hb hn=>(oG b (by omega)).trans (hx.block b hb hn),hx.mono,hx.new,hx.owned,fun _ _ _=>.χ,kP,hx.gh⟩,fun d' bH=>?_,?_,⟨l,rfl⟩⟩ fun w' oM cK=>hk w' oM fun x u hr=>cK x u (hr.frame ha fun _ h=>h)
  ·rw [Ctx.E7] at bH;obtain ⟨D',g1,g2,g3,g4,g5⟩:=hm d' (by simp [bH]);exact ⟨D',g1,g2,(oG D' fun e=>(ix.1 hn).1 (by rw [h1,←e,←g1];exact bH)).trans g3,g4,g5⟩
  ·rw [Ctx.E7];exact (ix.1 hn).2
def agW {q:List (Nat×Nat)} {w:World} {F:Nat→Prop} {β:Nat→Value} {H:Hp} (hI:Inv w F β H) (c_:tq (q.map (·.2))=true) (ew:tq (q.map (·.1))=true) (hk:jm (ia (cX q) H)=true) :
  ∃bX:Nat→Value,(∀i j,cX q i=some j→bX j=β i)∧Inv w F bX (ia (cX q) H)∧∀b,bD bX (ia (cX q) H) b→bD β H b:=by
 have mV:=BP c_;have lK:=BP ew;have NG:∀i i' j,cX q i=some j→cX q i'=some j→i=i':=fun i i' j h1 h2=>Qt mV (at_mem h1) (at_mem h2)
 obtain ⟨bX,ai⟩:∃bX:Nat→Value,∀i j,cX q i=some j→bX j=β i:=by
  refine ⟨fun j=>match cX (q.map fun p=>(p.2,p.1)) j with|some i=>β i|none=>undef,fun i j eT=>?_⟩;have:cX (q.map fun p=>(p.2,p.1)) j=some i:=Hu (by rw [List.map_map];exact mV) (List.mem_map.2 ⟨_,at_mem eT,rfl⟩);simp only [this]
 have db:∀b,bD bX (ia (cX q) H) b→bD β H b:=by
  rintro b ⟨j,c,hc,hb⟩;obtain ⟨x,c0,h1,h2,_⟩:=na hc;exact ⟨x,c0,h1,by rw [←ai x j h2];exact hb⟩
 refine ⟨bX,ai,⟨hI.cA,fun j c hc=>?_,w7 hk,fun b hb=>hI.apart b (db b hb),fun j c j' c' b hc fP hb aJ=>?_,hI.fh⟩,db⟩
 ·obtain ⟨x,c0,h1,h2,rfl⟩:=na hc;exact rlC_holds ai h2 (hI.holds x c0 h1)
 ·obtain ⟨x,c0,h1,h2,_⟩:=na hc;obtain ⟨x',Mb,nE,iB,_⟩:=na fP;rw [ai x j h2] at hb;rw [ai x' j' iB] at aJ;have:=hI.eo x _ x' _ b h1 nE hb aJ;subst this;rw [h2] at iB;exact Option.some.inj iB
def abe {g n rid gc tc s1 s2 s3 a1 a2 a3 tf ta kf ka:Nat} {jf ja:TI} {fn:Func} {A rest:Code} {mk df:Oper} {args:List AV} {L:List (Nat×AV)} {H:Hp} {q:List (Nat×Nat)} {cf:List AV} {ans:Int→List AV} {r:AV}
    (hT : bL P T) (dK : P.funcs[g]? = some fn) (dR : (fn.name == "runtime.NumGoroutine") = false) (hb : fn.body = some (.seq A (.seq (.region rid #[mk, df] false) rest))) (hn : fn.ntmps = n) (hle : args.length ≤ n)
    (rq:mk.op=.makeFunc (.func gc) #[] #[.tmp s1, .tmp s2, .tmp s3]∧mk.dst=some tc∧mk.guard=none) (Nk:df.op=.defer { callee:=.value (.tmp tc), args := #[], argTypes := #[] }∧df.dst=none∧df.guard=none) (htc:tc<n)
    (Nc:R7 P E gc cf kf ka ans)
    (c_:tq (q.map (·.2))=true) (ew:tq (q.map (·.1))=true) (hk:jm (ia (cX q) H)=true)
    (Oa:aq L s1=.b a1 0) (Ob:aq L s2=.b a2 0) (hs3:aq L s3=.b a3 0) (h1:cX q a1=some 1000) (h2:cX q a2=some 1001) (h3:cX q a3=some 1002)
    (wR:fn.results.toList=[.cell s2 tf, .cell s3 ta]) (NH:T tf=some jf) (hja:T ta=some ja) (haf:p8 jf.kind=true) (haa:p8 ja.kind=true) (hkf:cf.length=jf.cells) (hka:∀ m, (ans m).length=ja.cells)
    (A8:cf.all fu=true) (hai:∀ m, (ans m).all fu=true)
    (hA:Ok P n A ⟨lg args, []⟩ fun e st=>e=.normal∧Wk st ⟨aq L, H⟩)
    (nM:Ok P n rest (S4 q tc L H) (ab3 T E fn.results.toList (fun x st=>Fz st.H x r) fun m st=>st.f s2=.b 1001 0∧st.f s3=.b 1002 0∧dO 1000 st.H=some (.box cf) ∧
      (∃ x, dO 1001 st.H=some (.box x)∧x.length=kf)∧(∃ y, dO 1002 st.H=some (.box y)∧y.length=ka)∧r=.t [.a cf, .a (ans m)])):Pure P g args r:=by
  refine ⟨⟨fn, _, dK, dR, hb⟩, fun w F β vs hI hs hv => ?_⟩;refine callsIn_wide.1 (callsIn_of_wp_marks (F:=gl) (n:=0) dK hb trivial ?_);let C:Ctx:=⟨w, F, β, [], n, none, .inl rfl, []⟩;have hr:Rel C ⟨lg args, []⟩ { tmps:=vs++og (fn.ntmps-vs.size) undef, defers:=[] } w :=
    ⟨F, β, by simp [C, hn];omega, trivial, OD hs hv, ⟨Ext.refl hI, fun d hd=>(eJ hd).elim, qO, ⟨[], rfl⟩⟩⟩
  refine wpIn_seq (wpIn_mono (hA.h C rfl _ w hr) ?_);rintro e gV w1 ⟨st1, adp, rfl, hW⟩;obtain ⟨F1, du, uX, _, sS, bE⟩:=hW C gV w1 adp;have bw:∀ b, ¬ bD β ([]:Hp) b:=fun b ⟨_, _, hm, _⟩=>(eJ hm).elim;obtain ⟨bX, zw, MX, uS⟩:=agW bE.inv c_ ew hk;have p1:=sS s1;have p2:=sS s2;have p3:=sS s3;change Rd _ _ _ (aq L s1) _ at p1;change Rd _ _ _ (aq L s2) _ at p2;change Rd _ _ _ (aq L s3) _ at p3;rw [Oa] at p1;rw [Ob] at p2;rw [hs3] at p3;obtain ⟨b1, cT, e1⟩:=p1.mM;obtain ⟨b2, jO, e2⟩:=p2.mM;obtain ⟨b3, M8, e3⟩:=p3.mM
  have g1:gV.tmps.getD s1 undef=bX 1000:=by rw [zw _ _ h1, cT];exact e1
  have g2:gV.tmps.getD s2 undef=bX 1001:=by rw [zw _ _ h2, jO];exact e2
  have g3:gV.tmps.getD s3 undef=bX 1002:=by rw [zw _ _ h3, M8];exact e3
  obtain ⟨d0, A9⟩:∃ d0:Deferred, d0={ target:=.fn (.func gc) #[bX 1000, bX 1001, bX 1002], args := #[] }:=⟨_, rfl⟩;let Dm:Act:={ (gV.put (some tc) (.func (.func gc) #[] #[bX 1000, bX 1001, bX 1002])) with defers:=d0::gV.defers };have uX:gV.tmps.size=n:=uX;let C':Ctx:=⟨w1, F1, bX, ia (cX q) H, n, none, .inl rfl, d0::gV.defers⟩
  have N8:Rel C' (S4 q tc L H) Dm w1:=by
    refine ⟨F1, bX, by show (gV.put _ _).tmps.size=n;simpa [iM] using uX, trivial, ?_, ⟨Ext.refl MX, fun d hd => ?_, ?_, ⟨[], rfl⟩⟩⟩
    · exact Rd.put (fun t=>zW zw 2 (sS t)) .χ (by omega)
    · have:C'.ms (d0::gV.defers)=[]:=Ctx.E7 (C:=C') (l:=[])
      rw [show C'.ms Dm.defers=[] from this] at hd;exact (eJ hd).elim
    · have:C'.ms (d0::gV.defers)=[]:=Ctx.E7 (C:=C') (l:=[])
      rw [show C'.ms Dm.defers=[] from this];exact qO
  have ends:∀ (w5:World) (F5:Nat→Prop) (lQ:Nat→Value) (H5:Hp), Ext w1 F1 bX ⟨aG, ia (cX q) H⟩ w5 F5 lQ ⟨aG, H5⟩→∀ tmps:Array Value,
      (∀ w6, Inv w6 F5 lQ H5→(∀ x u, Rd w5 F5 lQ x u→Rd w6 F5 lQ x u)→∃ v, (results fn tmps).run P w6=.ok v w6∧bh w6 (fun b=>F5 b∨bD lQ H5 b) r v) →
      LeavesInM gl 0 P fn tmps (fun e w'=>∃ v, e=.returned v∧Below w.heap.size w w'∧bh w' (fF F w w') r v) gV.defers .returning w5:=by
    intro w5 F5 lQ H5 hx tmps wH;let C5:Ctx:=⟨w, F, lQ, [], n, none, .inl rfl, []⟩
    have U7:∀ b, bD lQ H5 b→w.heap.size≤b:=fun b hb=>by
      rcases hx.owned b hb with h|h
      · exact fo bE.x.size h
      · rcases bE.x.owned b (uS b h) with h|h
        · exact h
        · exact (bw b h).elim
    have dr:Ext w F lQ ⟨aG, []⟩ w5 F5 lQ ⟨aG, H5⟩:=by
      refine ⟨hx.os.trans bE.x.os, bE.x.tape.trans hx.tape, hx.output.trans bE.x.output, fo bE.x.size hx.size, fun b hb _ => ?_, fun b hb=>hx.mono b (bE.x.mono b hb), fun b hb => ?_, fun b hb=>.inl (U7 b hb), fun _ _ _=>.χ, hx.inv, fun _ _=>rfl⟩
      · rw [hx.block b (oh hb bE.x.size) (fun ho => ?_)]
        · exact bE.x.block b hb (bw b)
        · rcases bE.x.owned b (uS b ho) with h|h
          · have h:w.heap.size≤b:=h;omega
          · exact bw b h
      · rcases hx.new b hb with h|h|h
        · rcases bE.x.new b h with h|h|h
          · exact .inl h
          · exact .inr (.inl h)
          · exact (bw b h).elim
        · exact .inr (.inl (fo bE.x.size h))
        · rcases bE.x.owned b (uS b h) with h|h
          · exact .inr (.inl h)
          · exact (bw b h).elim
    have hXM:XM C5 gV.defers w5 F5 lQ H5:=by
      refine ⟨dr, fun d hd => ?_, ?_, ⟨gV.defers, (List.append_nil _).symm⟩⟩
      · have hd:d∈C.ms gV.defers:=hd
        obtain ⟨D, q1, q2, q3, q4, q5⟩:=bE.m d hd;have Φ:=kJ q3;refine ⟨D, q1, q2, (hx.block D Φ fun ho=>q5 (uS D ho)).trans q3, fun hF => ?_, fun ho => ?_⟩
        · rcases hx.new D hF with h|h|h
          · exact q4 h
          · exact absurd Φ (Nat.not_lt.2 h)
          · exact q5 (uS D h)
        · rcases hx.owned D ho with h|h
          · exact absurd Φ (Nat.not_lt.2 h)
          · exact q5 (uS D h)
      · exact bE.nd
    refine Ji rfl gV.defers w5 hXM fun w6 h6 I2 => ?_;obtain ⟨v, aZ, fy⟩:=wH w6 h6.inv I2;refine ⟨v, aZ, v, rfl, ⟨h6.x.os, h6.x.tape, h6.x.output, h6.x.size, fun b hb=>h6.x.block b hb (by rintro ⟨_, _, hm, _⟩;exact (eJ hm).elim)⟩, fy.frame (fun _ _=>rfl) fun b hb => ?_⟩
    rcases hb with hb|hb
    · rcases h6.x.new b hb with h|h|h
      · exact .inl h
      · exact .inr ⟨h, h6.inv.cA b hb⟩
      · obtain ⟨_, _, hm, _⟩:=h;exact (eJ hm).elim
    · exact .inr ⟨U7 b hb, h6.inv.fJ hb⟩
  have S6:∀ (u:FrameMode) (w4:World) (tmps:Array Value), u≠.run→(CallsDIn gl 0 P gc #[bX 1000, bX 1001, bX 1002] u w4 fun e u' w5=>(∃ v, e=.returned v)∧settle u'=.returning ∧
        LeavesInM gl 0 P fn tmps (fun e w'=>∃ v, e=.returned v∧Below w.heap.size w w'∧bh w' (fF F w w') r v) gV.defers .returning w5) →
      LeavesInM gl 0 P fn tmps (fun e w'=>∃ v, e=.returned v∧Below w.heap.size w w'∧bh w' (fF F w w') r v) (d0::gV.defers) u w4:=by
    intro u w4 tmps hu hc;obtain ⟨fnc, cc, hfc, qm, hbc⟩:=Nc.uz
    have ac9 : ¬ fnc.name = "runtime.NumGoroutine" := by simpa using qm
    refine ⟨hu, .inr ⟨fun h=>(by cases h), .func gc, #[bX 1000, bX 1001, bX 1002], gc, #[bX 1000, bX 1001, bX 1002], by rw [A9], by rw [A9];simp [invoke, callFunc, hfc, ac9, hbc], fun _ _=>trivial, hc.mono ?_⟩⟩;rintro e u' w5 ⟨⟨v, rfl⟩, BD, hl⟩;show LeavesInM gl 0 P fn tmps _ gV.defers (settle u') w5;rw [BD];exact hl
  have ac7:wpOpsIn gl 0 P #[mk, df] (fun e a' w'=>match e with
      |.normal=>rest.wpIn gl 0 P (bodyPostM gl 0 P fn fun e w'=>∃ v, e=.returned v∧Below w.heap.size w w'∧bh w' (fF F w w') r v) a' w'
      |e=>bodyPostM gl 0 P fn (fun e w'=>∃ v, e=.returned v∧Below w.heap.size w w'∧bh w' (fF F w w') r v) e a' w') [0, 1] gV w1:=by
    have k0:(#[mk, df]:Array Oper)[0]? = some mk:=rfl;have k1:(#[mk, df]:Array Oper)[1]? = some df:=rfl;obtain ⟨dm, om, tm, pm, fm, gm⟩:=mk;obtain ⟨dd, od, td, pd, fd, gd'⟩:=df;obtain ⟨rfl, rfl, rfl⟩:=rq;obtain ⟨rfl, rfl, rfl⟩:=Nk;have ev1:gV.eval (.tmp s1)=bX 1000:=g1;have ev2:gV.eval (.tmp s2)=bX 1001:=g2;have ev3:gV.eval (.tmp s3)=bX 1002:=g3;rw [wpOpsIn_cons];unfold wpOpIn;simp only [k0];rw [if_pos (by simp [dW])];refine ⟨fun _ _=>trivial, ?_⟩;rw [Oper.semAt_eq _ _ _ (by simp)]
    have r0:(execOp gV.eval { dst:=some tc, op:=.makeFunc (.func gc) #[] #[.tmp s1, .tmp s2, .tmp s3], type:=tm, pos:=pm, after:=fm, guard:=none }).run P w1=.ok (.value (.func (.func gc) #[] #[bX 1000, bX 1001, bX 1002])) w1:=by
      rw [← ev1, ← ev2, ← ev3];simp [execOp, Instr.makeFunc]
    rw [r0, xK, wpOpsIn_cons];unfold wpOpIn;simp only [k1];rw [if_pos (by simp [dW])];refine ⟨fun _ _=>trivial, ?_⟩
    have evc:(gV.put (some tc) (.func (.func gc) #[] #[bX 1000, bX 1001, bX 1002])).eval (.tmp tc)=.func (.func gc) #[] #[bX 1000, bX 1001, bX 1002]:=by
      have:tc<gV.tmps.size:=by omega
      simp [Ar, iM, this]
    have r1:(Oper.semAt none (gV.put (some tc) (.func (.func gc) #[] #[bX 1000, bX 1001, bX 1002])).eval { dst:=none, op:=.defer { callee:=.value (.tmp tc), args := #[], argTypes := #[] }, type:=td, pos:=pd, after:=fd, guard:=none }).run P w1=.ok (.defer d0) w1:=by
      rw [Oper.semAt_none, A9];simp [execOp, resolve, evc, mg]
    show Oper.uponIn _ _ _ _ _ _ _ ((Oper.semAt none _ _).run P w1);rw [r1, Oper.uponIn_defer]
    exact show rest.wpIn gl 0 P _ Dm w1 from by
      refine wpIn_mono (nM.h C' rfl Dm w1 N8) ?_;rintro e a3 w3 ⟨vq, ⟨F3, qF, hz3, _, Uy, jQ⟩, wQ⟩;obtain ⟨l3, s4⟩:=jQ.sp;have s4:a3.defers=l3++C'.dl:=s4
      have Wp:qy T fn.results.toList vq (fun x=>Fz vq.H x r)→LeavesInM gl 0 P fn a3.tmps (fun e w'=>∃ v, e=.returned v∧Below w.heap.size w w'∧bh w' (fF F w w') r v) a3.defers .returning w3:=by
        intro wQ;rw [s4];refine OQ (by simp) l3 w3 (by rw [← s4];exact jQ) fun w4 kb Vc => ?_;refine S6 .returning w4 a3.tmps (by simp) ((Nc.ret w4 _ rfl).mono ?_);rintro e u' w5 ⟨jU, rfl, ra⟩;refine ⟨jU, rfl, ?_⟩;have EF:Ext w4 F3 qF ⟨aG, vq.H⟩ w5 (fF F3 w4 w5) qF ⟨aG, vq.H⟩:=wi (st:=⟨aG, vq.H⟩) kb.inv ra;refine ends w5 (fF F3 w4 w5) qF vq.H (kb.x.trans EF) a3.tmps fun w6 h6 I2 => ?_;obtain ⟨v, x, aZ, cJ, gv⟩:=Ka (P:=P) (st:=vq) (fn:=fn) (tmps:=a3.tmps) hT h6 (fun t=>I2 _ _ ((Vc _ _ (Uy t)).later ra kb.inv.cA)) wQ;exact ⟨v, aZ, cJ w6 _ qF v h6 gv⟩
      cases e with
      |normal=>exact Wp wQ
      |ret=>exact Wp wQ
      |exit id=>exact wQ.elim
      |goto l=>exact wQ.elim
      |outgrown=>exact wQ.elim
      |panic ch =>
        obtain ⟨m, rfl, q2, q3, c1, ⟨x, c2, hxl⟩, ⟨y, c3, ER⟩, hre⟩:=wQ;show LeavesInM gl 0 P fn a3.tmps _ a3.defers (.panicking (jH E m)) w3;rw [s4];refine OQ (by simp) l3 w3 (by rw [← s4];exact jQ) fun w4 kb Vc => ?_
        have Ut:Ext w1 F1 bX ⟨aG, ia (cX q) H⟩ w4 F3 qF ⟨aG, kK cf x y⟩:=kb.x.chunks (fun i c hm=>by
          have:(i, c)∈vq.H:=by
            simp only [bj, im, eJ, or_false] at hm
            rcases hm with ⟨rfl, rfl⟩|⟨rfl, rfl⟩|⟨rfl, rfl⟩
            · exact fc c1
            · exact fc c2
            · exact fc c3
          exact ⟨⟨c, this⟩, kb.inv.holds i c this⟩) (by simp)
        have el:∀ i, 1000≤i→qF i=bX i:=fun i hi=>kb.x.gh i hi;have hc:=Nc.Ft m w4 F3 qF x y Ut.inv hxl ER;rw [el 1000 (by omega), el 1001 (by omega), el 1002 (by omega)] at hc;refine S6 (.panicking (jH E m)) w4 a3.tmps (by simp) (hc.mono ?_);rintro e u' w5 ⟨jU, rfl, F5, lQ, dr⟩;refine ⟨jU, rfl, ?_⟩;refine ends w5 F5 lQ _ (Ut.trans dr) a3.tmps fun w6 h6 I2 => ?_;have acW:∀ i, 1000≤i→lQ i=qF i:=fun i hi=>dr.gh i hi
        have Xu:∀ (s i:Nat), 1000≤i→vq.f s=.b i 0→Rd w6 F5 lQ (.b i 0) (a3.tmps.getD s undef):=fun s i hi BE=>by
          have:=Uy s;rw [BE] at this;obtain ⟨eZ, hb, he⟩:=this.mM;rw [he];exact .b ((acW i hi).trans hb)
        have adt:∀ t, Rd w6 F5 lQ ((fun t=>if t=s2 then AV.b 1001 0 else if t=s3 then .b 1002 0 else .χ) t) (a3.tmps.getD t undef):=fun t=>by
          show Rd w6 F5 lQ (if t=s2 then AV.b 1001 0 else if t=s3 then .b 1002 0 else .χ) _;by_cases ht:t=s2
          · rw [if_pos ht, ht];exact Xu s2 1001 (by omega) q2
          · rw [if_neg ht]
            by_cases lM:t=s3
            · rw [if_pos lM, lM];exact Xu s3 1002 (by omega) q3
            · rw [if_neg lM];exact .χ
        have aQ:s3≠s2:=fun e=>by
          rw [e] at q3;rw [q2] at q3;cases q3
        have EH:qy T fn.results.toList ⟨fun t=>if t=s2 then AV.b 1001 0 else if t=s3 then .b 1002 0 else .χ, kK cf cf (ans m)⟩ (fun x=>x=.t [.a cf, .a (ans m)]):=by
          rw [wR];simp only [qy, Ce, if_pos, aQ, if_false, Cf, NH, hja];have f1:dO 1001 (kK cf cf (ans m))=some (.box cf):=rfl;have f2:dO 1002 (kK cf cf (ans m))=some (.box (ans m)):=rfl;simp only [f1, f2, BJ, haf, haa, Nat.zero_add, ← hkf, ← hka m, Nat.ble_eq, bG, List.drop_zero, List.take_length]
          have b1:p4 cf.length cf.length=true:=by simp
          have b2:p4 (ans m).length (ans m).length=true:=by simp
          simp only [b1, b2, cond_true];exact ⟨_, rfl, _, rfl, rfl⟩
        obtain ⟨v, x', aZ, rfl, gv⟩:=Ka (P:=P) (st:=⟨fun t=>if t=s2 then AV.b 1001 0 else if t=s3 then .b 1002 0 else .χ, kK cf cf (ans m)⟩) (fn:=fn) (tmps:=a3.tmps) hT h6 adt EH;refine ⟨v, aZ, ?_⟩;rw [hre];exact (Fz.t (.cons (Fz.dL (by simpa [kg] using A8)) (.cons (Fz.dL (by simpa [kg] using hai m)) .nil))) w6 F5 lQ v h6 gv
  exact wpIn_seq (wpIn_region ac7)
end
end
section
variable [M:cM] [G:dX] [R:eE]
def KS {l:List UInt8} {a b:Int} (h:0≤a∧a≤b∧b≤(l.length:Int)):(lS l.toArray).extract a.toNat b.toNat=lS (sub l a b).toArray:=by
 apply ByteArray.ext;simp [sub,List.drop_take]
def Le.of_eq {x y:AV} (h:x=y):Le x y:=by rw [h];exact Le.refl _
def abZ (k:Int) {p:Prop} (h0:kN k=.v .nilFunc→p) (h1:∀n,kN k=.c (.func n) [] []→p):p:=by
 by_cases h:k=0
 ·exact h0 (if_pos h)
 ·exact h1 _ (if_neg h)
def AU (n d:Nat) (k:Int):er (n+1) d (kN k)=kN k:=by
 by_cases h:k=0
 ·rw [kN,if_pos h];rfl
 ·rw [kN,if_neg h];rfl
def Le.fnE {d:Nat} {k:Int}:Le (er 2 d (kN k)) (kN k):=Le.of_eq (AU 1 d k)
def Le.ab1 {d d':Nat} {k:Int}:Le (er 2 d (er 2 d' (kN k))) (kN k):=Le.of_eq (by rw [AU 1,AU 1])
def Le.ab2 {d d' d'':Nat} {k:Int}:Le (er 2 d (er 2 d' (er 2 d'' (kN k)))) (kN k):=Le.of_eq (by rw [AU 1,AU 1,AU 1])
end
section
open Go.RowKit
variable [M:cM] [G:dX] [R:eE]
local instance alC:sl:=⟨[]⟩
local instance alz:nv:=⟨[]⟩
def ux (P:Program) (T:TT) (E:TypeId) (n:Nat) (ops:Array Oper):List (Nat×List Nat)→ah→(ah→Prop)→(Int→ah→Prop)→Prop
 |[],st,K,_=>K st
 |c::r,st,K,KX=>match ops[c.1]? with
  |some o=>gd n ops o st (fun st=>KO P T E o st (fun x au=>put n o.dst au x fun fL=>qs P T ops fL c.2∧ux P T E n ops r fL K KX) fun m au=>KX m ⟨aG,au.H⟩) fun st=>put n o.dst st (.v undef) fun fL=>qs P T ops fL c.2∧ux P T E n ops r fL K KX
  |none=>False
section
variable {P:Program} {T:TT} {E:TypeId}
def aim {w:World} {F:Nat→Prop} {β:Nat→Value} {o:Oper} {a:Act} {st:ah} {k:AV→ah→Prop} {kx:Int→ah→Prop} (hT:bL P T) (hI:Inv w F β st.H) (bI:∀x,x∈o.op.operands→Rd w F β (ev st.f x) (a.eval x)) (h:xo P T E o st k kx):R8 P E (execOp a.eval o) w F β st k kx:=by
 obtain ⟨dst,op,type,pos,after,guard⟩:=o
 cases op<;>simp only [xo] at h<;>first|exact h.elim|skip
 all_goals simp only [Op.operands] at bI
 case call c =>
  obtain ⟨callee,args,argTypes⟩:=c
  cases callee<;>simp only at h<;>first|exact h.elim|skip
  rename_i f;unfold Mq at h;split at h
  ·rename_i g fs cs lI;have sV:=bI f (by simp [Call.operands]);rw [lI] at sV;obtain ⟨us,ws,Nt,hs,ez,hu,hw⟩:=sV.nB;obtain ⟨⟨fn,code,dK,dR,hb⟩,h⟩:=h
   have rv : ¬ fn.name = "runtime.NumGoroutine" := by simpa using dR
   refine .inr (.inr ⟨g,us++args.map a.eval++ws,?_,?_⟩)
   ·have e:execOp a.eval { dst,op:=.call { callee:=.value f,args,argTypes },type,pos,after,guard }=(do let d ←mg (a.eval f) (args.map a.eval);invoke d.target d.args):=rfl;rw [e,Nt];simp [mg,invoke,callFunc,dK,rv,hb]
   ·have hl:(args.map a.eval).size=(args.toList.map (ev st.f)).length:=by simp
    exact h w F β _ hI (by simp [hs,ez]) (Ht hs hl ez hu (fun i hi=>by
     have hi:i<args.size:=by simpa using hi
     have:=bI args[i] (by simp [Call.operands])
     simpa [aV,hi] using this) hw)
  ·exact h.elim
 case makeInterface t x =>
  split at h
  ·rename_i n i hx hi;split at h
   ·rename_i hk;have nP:=bI x (by simp);rw [hx] at nP;refine .inl ⟨.iface t (.int .i64 n),w,?_,?_⟩
    ·simp only [execOp];rw [nP.bK];have:=(hT _ _ hi).int hk;simp [ZV,run_underlying this]
    ·exact ⟨_,st,F,β,h,.i (.v (.inl rfl)),Ext.refl hI⟩
   ·exact h.elim
  ·exact h.elim
 case panic x =>
  split at h
  ·rename_i t n hx;obtain ⟨rfl,h⟩:=h;have nP:=bI x (by simp);rw [hx] at nP;refine .inr (.inl ⟨n,?_,h⟩);simp only [execOp];rw [nP.bK];simp [run_panic_iface]
  ·exact h.elim
def Ok.mO {id n:Nat} {chain:List (Nat×List Nat)} {ops:Array Oper} {st:ah} {Q:Exit→ah→Prop} (hT:bL P T) (hm:P.follows .mixedOrders=true) (qi:SD chain ops=true)
  (h:rX P T n ops (H8 chain ops) st fun st1=>ux P T E n ops chain st1 (Q .normal) (fun m au=>Q (.panic (jH E m)) au)):Ok P n (.region id ops true) st Q:=by
 refine ⟨fun C hn a w de=>?_⟩;simp only [SD,bJ,ej,mq] at qi;obtain ⟨N1,acs,gr⟩:=qi
 have get:∀i o,ops[i]?=some o→yl i o=true∧uy ops i o=true∧HG ops i o=true∧Md ops i o=true:=fun i o ho=>by
  have h1:=N1 i (lB.1 ho).1;rw [ho] at h1;simp only [bJ] at h1;exact ⟨h1.1,h1.2.1,h1.2.2.1,h1.2.2.2⟩
 have lt:∀{i o},ops[i]?=some o→i<ops.size:=fun h=>(lB.1 h).1
 have dec:∀i o,ops[i]?=some o→∀e,e∈o.after→jK .any e=true→e.on<i:=fun i o ho e he hb=>by
  have:=(Array.all_eq_true'.1 (get i o ho).1) e he;simpa [hb] using this
 have Yj:∀i o j,ops[i]?=some o→j<ops.size→iO ops i j=true→∃e,e∈o.after∧jK .any e=true∧(e.on=j∨iO ops e.on j=true):=fun i o j ho hj hd=>by
  have h1:=(get i o ho).2.1;simp only [uy,ej,mq] at h1;have h1:=h1 j hj;simp only [hd,Bool.not_true,Bool.false_or] at h1;obtain ⟨e,he,hb⟩:=Array.any_eq_true'.1 h1;simp only [bJ,ug,beq_iff_eq] at hb;exact ⟨e,he,hb.1,hb.2⟩
 have low:∀(i:Nat) (o:Oper) (d:Nat),ops[i]?=some o→o.dst=some d→d<1000:=fun i o d ho hd=>by
  have h1:=(get i o ho).2.2.1;unfold HG at h1;rw [hd] at h1;simp only [bJ] at h1;simpa using h1.1
 have hp:(∀(i:Nat) (o:Oper) (j:Nat) (o':Oper) (d:Nat),i<ops.size→j<ops.size→ops[i]?=some o→ops[j]?=some o'→o.dst=some d→o'.dst=some d→i=j) ∧
   ∀(i:Nat) (o:Oper) (t j:Nat) (o':Oper),i<ops.size→j<ops.size→ops[i]?=some o→t∈o.looksAt ops→ops[j]?=some o'→o'.dst=some t→iO ops i j=true:=by
  refine ⟨fun i o j o' d hi hj ho aB hd bH=>?_,fun i o t j o' hi hj ho ht aB bH=>?_⟩
  ·have h1:=(get i o ho).2.2.1;unfold HG at h1;rw [hd] at h1;simp only [bJ,ej,mq] at h1;have:=h1.2 j hj;rw [aB] at this;simpa [bH] using this
  ·have h1:=(get i o ho).2.2.2;simp only [Md,ej,mq] at h1;have:=h1 t ht j hj;rw [aB] at this;simpa [bH] using this
 have hr:=Pt de;refine wpIn_region_any hm ?_;show wpAnyIn (fN C.ro) 0 P .any ops _ ops.size (og ops.size false) a w.drew;generalize w.drew=w at hr;clear de;obtain ⟨F,β,hs,hd,hf,he⟩:=hr;have UA:∀i o,i∈uC chain ops→ops[i]?=some o→o∈H8 chain ops:=fun i o hi ho=>mi.2 ⟨i,hi,ho⟩
 have UU:∀i j,i<ops.size→j<ops.size→iO ops i j=true→j<i:=by
  intro i;induction i using uk with
  |_ i ih =>
   intro j hi hj yN;obtain ⟨e,bE,hb,h2⟩:=Yj i _ j (gz hi) hj yN;have Φ:=dec i _ (gz hi) e bE hb
   rcases h2 with h2|h2
   ·omega
   ·have:=ih e.on Φ j (by omega) hj h2;omega
 have y_:xQ ops (H8 chain ops):=by
  have key:∀l:List Nat,l.Pairwise (· < ·)→(∀i,i∈l→i∈uC chain ops)→xQ ops (l.filterMap fun i=>ops[i]?):=by
   intro l;induction l with
   |nil=>intro _ _;exact True.intro
   |cons i l ih =>
    intro hpw zo;have hi:=zo i (by simp);have IF:=(Jo.1 hi).1;have Ev:ops[i]?=some ops[i]:=gz IF;rw [RL,Ev];have Va:=List.pairwise_cons.1 hpw
    have fp:∃d,ops[i].dst=some d:=by
     have:=gr i hi;rw [Ev] at this;exact Option.isSome_iff_exists.1 this
    obtain ⟨d,oE⟩:=fp
    have mem:∀o',o'∈l.filterMap (fun i=>ops[i]?)→∃j,i<j∧ops[j]?=some o':=fun o' aB=>by
     obtain ⟨j,hj,sZ⟩:=mi.1 aB;exact ⟨j,Va.1 j hj,sZ⟩
    refine ⟨⟨d,oE,fun o' aB bH=>?_⟩,fun t ht o' aB bH=>?_,ih Va.2 fun j hj=>zo j (cj _ hj)⟩
    ·obtain ⟨j,eT,sZ⟩:=mem o' aB;have:=hp.1 i _ j o' d IF (lt sZ) Ev sZ oE bH;omega
    ·have:∃j,i≤j∧ops[j]?=some o':=by
      rcases bj.1 aB with rfl|h
      ·exact ⟨i,bG _,Ev⟩
      ·obtain ⟨j,eT,sZ⟩:=mem o' h;exact ⟨j,by omega,sZ⟩
     obtain ⟨j,eT,sZ⟩:=this;have gZ:=hp.2 i _ t j o' IF (lt sZ) Ev ht sZ bH;have:=UU i j IF (lt sZ) gZ;omega
  exact key _ (List.Pairwise.filter _ List.pairwise_lt_range) fun i hi=>hi
 obtain ⟨fe,lI,hW,ac4,bU⟩:=Rl (H8 chain ops) _ y_ h;have key:∀fuel (listed:Array Bool) (a:Act) (w:World) (done rem:List (Nat×List Nat)) (f:Nat→AV) (H:Hp),listed.size=ops.size→listed.toList.count false≤fuel →
   (∀i o,listed.getD i false=true→ops[i]?=some o→∀e,e∈o.after→jK .any e=true→listed.getD e.on false=true) →
   done++rem=chain→(∀c,c∈done→listed.getD c.1 false=true)→(∀c,c∈rem→listed.getD c.1 false=false)→qa chain ops rem=true →
   Hg C ops ops.size f H listed a w→(H.map (·.1)).Nodup→(∀i o,i∈uC chain ops→ops[i]?=some o→listed.getD i false=false→vR P T ops H f o) →
   ux P T E n ops rem ⟨f,H⟩ (Q .normal) (fun m au=>Q (.panic (jH E m)) au) →
   wpAnyIn (fN C.ro) 0 P .any ops (fun e a' w'=>∃au,Rel C au a' w'∧Q e au) fuel listed a w:=by
  intro fuel;induction fuel with
  |zero =>
   intro listed a w done rem f H aX wD di qj IB BB sQ jB IG NU hw
   have ed:∀i,i<ops.size→listed.getD i false=true:=fun i hi=>by
    have h0:listed.toList.count false=0:=by omega
    have bm:i<listed.size:=by omega
    have bC:listed[i]∈listed.toList:=by simp
    cases hb:listed[i] with
    |true=>simp [bm,hb]
    |false=>rw [hb] at bC;exact absurd bC (List.count_eq_zero.1 h0)
   have rC:lY .any ops listed=[]:=by
    apply Av.2;intro i hi;obtain ⟨h1,o,ho,_⟩:=mem_ready.1 hi;have:=ed i (lt ho)
    have bm:i<listed.size:=by have:=lt ho;omega
    simp [bm] at h1 this;rw [h1] at this;cases this
   refine ⟨rC,?_⟩
   have de:rem=[]:=by
    cases rem with
    |nil=>rfl
    |cons c r =>
     simp only [qa,bJ] at sQ
     have Φ:c.1<ops.size:=by simpa [gO] using sQ.1
     have:=BB c (by simp);rw [ed c.1 Φ] at this;cases this
   subst de;obtain ⟨F1,du,g1,g2,g3,g6⟩:=jB.ex;exact ⟨⟨f,H⟩,⟨F1,du,g1,g2,fun t=>g6 t fun i o hi _ _=>ed i hi,g3⟩,hw⟩
  |succ fuel ih =>
   intro listed a w done rem f H aX wD di qj IB BB sQ jB IG NU hw
   have yI:∀i,i<ops.size→(∀o,ops[i]?=some o→∀e,e∈o.after→jK .any e=true→listed.getD e.on false=true)→∀j,j<ops.size→iO ops i j=true→listed.getD j false=true:=by
    intro i;induction i using uk with
    |_ i rD =>
     intro hi fQ j hj gZ;obtain ⟨e,bE,cT,h⟩:=Yj i _ j (gz hi) hj gZ;have hl:=fQ _ (gz hi) e bE cT;have s5:=dec i _ (gz hi) e bE cT
     rcases h with h|h
     ·rw [←h];exact hl
     ·exact rD e.on s5 (by omega) (fun o ho=>di e.on o hl ho) j hj h
   have rR:∀{i o},i∈lY .any ops listed→ops[i]?=some o→listed.getD i false=false∧∀e,e∈o.after→jK .any e=true→listed.getD e.on false=true:=fun hi ho=>by
    obtain ⟨h1,o',aB,h2⟩:=mem_ready.1 hi;rw [ho] at aB;cases aB;have:=lt ho;refine ⟨?_,h2⟩;have bm:=lt ho;rw [←aX] at bm;simpa [bm] using h1
   have isReady:∀{i o},ops[i]?=some o→listed.getD i false=false→(∀j,j<i→listed.getD j false=true)→i∈lY .any ops listed:=fun ho h1 h2=>by
    refine mem_ready.2 ⟨?_,_,ho,fun e he hb=>h2 _ (dec _ _ ho e he hb)⟩;have bm:=lt ho;rw [←aX] at bm;simpa [bm] using h1
   have next:∀i,i<ops.size→listed.getD i false=false→(listed.setIfInBounds i true).size=ops.size∧(listed.setIfInBounds i true).toList.count false≤fuel:=fun i hi h1=>by
    refine ⟨by simpa using aX,?_⟩
    have bm:i<listed.size:=by omega
    have h2:listed.toList[i]?=some false:=by
     have:listed[i]=false:=by simpa [bm] using h1
     simp [bm,this]
    have:=count_set listed.toList i h2;simp only [Array.toList_setIfInBounds];omega
   have sA:∀i o,ops[i]?=some o→(∀e,e∈o.after→jK .any e=true→listed.getD e.on false=true) →
     ∀j o',(listed.setIfInBounds i true).getD j false=true→ops[j]?=some o'→∀e,e∈o'.after→jK .any e=true→(listed.setIfInBounds i true).getD e.on false=true:=fun i o ho fQ j o' hj aB e bE cT=>by
    have bm:i<listed.size:=by rw [aX];exact lt ho
    rw [fD bm] at hj ⊢;split
    ·rfl
    ·split at hj
     ·rename_i e2;subst e2;rw [ho] at aB;cases aB;exact fQ e bE cT
     ·exact di j o' hj aB e bE cT
   by_cases ed:∀i,i<ops.size→listed.getD i false=true
   ·-- nothing is left
    have rC:lY .any ops listed=[]:=by
     apply Av.2;intro i hi;obtain ⟨_,o,ho,_⟩:=mem_ready.1 hi;obtain ⟨dS,_⟩:=rR hi ho;rw [ed i (lt ho)] at dS;cases dS
    refine ⟨fun _=>?_,fun i hi=>by rw [rC] at hi;cases hi⟩
    have de:rem=[]:=by
     cases rem with
     |nil=>rfl
     |cons c r =>
      simp only [qa,bJ] at sQ
      have Φ:c.1<ops.size:=by simpa [gO] using sQ.1
      have:=BB c (by simp);rw [ed c.1 Φ] at this;cases this
    subst de;obtain ⟨F1,du,g1,g2,g3,g6⟩:=jB.ex;exact ⟨⟨f,H⟩,⟨F1,du,g1,g2,fun t=>g6 t fun i o hi _ _=>ed i hi,g3⟩,hw⟩
   ·have least:∃i,i<ops.size∧listed.getD i false=false∧∀j,j<i→listed.getD j false=true:=by
     have:∃i,i<ops.size∧listed.getD i false=false:=by
      refine xC fun bw=>ed fun i hi=>?_;cases hb:listed.getD i false
      ·exact absurd ⟨i,hi,hb⟩ bw
      ·rfl
     obtain ⟨i,hi,hb⟩:=this;induction i using uk with
     |_ i rD =>
      by_cases aS:∀j,j<i→listed.getD j false=true
      ·exact ⟨i,hi,hb,aS⟩
      ·have:∃j,j<i∧listed.getD j false=false:=by
        refine xC fun bw=>aS fun j hj=>?_;cases hb:listed.getD j false
        ·exact absurd ⟨j,hj,hb⟩ bw
        ·rfl
       obtain ⟨j,hj,El⟩:=this;exact rD j hj (by omega) El
    obtain ⟨i0,rh,ep,yG⟩:=least;have de:=isReady (gz rh) ep yG;refine ⟨fun h0=>(by rw [h0] at de;cases de),fun i hi=>?_⟩;obtain ⟨_,o,ho,_⟩:=mem_ready.1 hi;obtain ⟨dS,fQ⟩:=rR hi ho
    have gZ:∀j,j<ops.size→iO ops i j=true→listed.getD j false=true:=yI i (lt ho) fun o' aB=>by rw [ho] at aB;cases aB;exact fQ
    obtain ⟨mV,lK⟩:=next i (lt ho) dS
    have bm:i<listed.size:=by rw [aX];exact lt ho
    by_cases sV:i∈uC chain ops
    ·-- one of Gw free alH
     have qm:=(Jo.1 sV).2;refine acd hT hn aX ho (fun t j o' hj ht aB bH=>gZ j hj (hp.2 i o t j o' (lt ho) hj ho ht aB bH)) (NU i o sV ho dS) (ac4 o (UA i o sV ho)) jB fun a2 w2 hh=>?_;refine ih _ a2 w2 done rem f H mV lK (sA i o ho fQ) qj (fun c hc=>?_) (fun c hc=>?_) sQ hh IG (fun j o' hj aB hl=>?_) hw
     ·rw [fD bm];split
      ·rfl
      ·exact IB c hc
     ·rw [fD bm,if_neg]
      ·exact BB c hc
      ·exact qm c (by rw [←qj];exact vH _ hc)
     ·rw [fD bm] at hl;split at hl
      ·cases hl
      ·exact NU j o' hj aB hl
    ·-- Gw next of Gw chain
     have kX:∃c,c∈chain∧c.1=i:=by
      refine xC fun bw=>sV (Jo.2 ⟨lt ho,fun c hc e=>bw ⟨c,hc,e⟩⟩)
     obtain ⟨c0,oD,A8⟩:=kX
     have UH:c0∈rem:=by
      rw [←qj] at oD
      rcases gp.1 oD with h|h
      ·have:=IB c0 h;rw [A8,dS] at this;cases this
      ·exact h
     cases rem with
     |nil=>cases UH
     |cons c r =>
      have acP:c.1=i:=by
       have Mc:∀(l:List (Nat×List Nat)) (c:Nat×List Nat),qa chain ops (c::l)=true→c0∈l→(∀x,x∈c::l→listed.getD x.1 false=false)→False:=by
        intro l;induction l with
        |nil=>intro c _ h _;cases h
        |cons c' l OC =>
         intro c eQ acm Vt;simp only [qa,bJ] at eQ
         rcases bj.1 acm with rfl|h
         ·have fZ:c.1<ops.size:=by simpa [gO] using eQ.1
          have:=gZ c.1 fZ (by rw [←A8];exact eQ.2.2.2.1);rw [Vt c (by simp)] at this;cases this
         ·exact OC c' (by simp only [qa,bJ];exact eQ.2.2.2.2) h fun x hx=>Vt x (cj _ hx)
       rcases bj.1 UH with rfl|h
       ·exact A8
       ·exact (Mc r c sQ h BB).elim
      subst acP;have acu:=sQ;simp only [qa,bJ] at sQ;obtain ⟨_,_,NM,_,acr⟩:=sQ;simp only [ux,ho] at hw;obtain ⟨F1,du,g1,g2,g3,g6⟩:=jB.ex;have look:∀t,t∈o.looksAt ops→Rd w F1 du (f t) (a.tmps.getD t undef):=fun t ht=>g6 t fun j o' hj aB bH=>gZ j hj (hp.2 c.1 o t j o' (lt ho) hj ho ht aB bH)
      have rJ:∀x,x∈o.op.operands→Rd w F1 du (ev f x) (a.eval x):=fun x hx=>by
       cases x with
       |tmp t=>exact look t (List.mem_append_left _ (mi.2 ⟨.tmp t,by simpa using hx,rfl⟩))
       |const v=>exact nV _ _ _ _
       |global g=>exact .χ
       |func g=>exact .i (.c rfl rfl (fun i hi=>absurd hi (by simp)) (fun i hi=>absurd hi (by simp)))
      have go:∀(v:Value) (w':World),EPost w F1 du ⟨f,H⟩ (fun x au=>put n o.dst au x fun fL=>qs P T ops fL c.2∧ux P T E n ops r fL (Q .normal) (fun m au=>Q (.panic (jH E m)) au)) v w' →
        wpAnyIn (fN C.ro) 0 P .any ops (fun e a' w'=>∃au,Rel C au a' w'∧Q e au) fuel (listed.setIfInBounds c.1 true) (a.put o.dst v) w':=by
       rintro v w' ⟨x,au,F2,bX,zm,hx,Nq⟩;rw [put_eq] at zm
       obtain ⟨f2,IE,hq,wU⟩:∃f2:Nat→AV,(qs P T ops ⟨f2,au.H⟩ c.2∧ux P T E n ops r ⟨f2,au.H⟩ (Q .normal) (fun m au=>Q (.panic (jH E m)) au))∧(∀t,o.dst≠some t→f2 t=au.f t)∧∀t,o.dst=some t→f2 t=x∧t<n:=by
        cases fp:o.dst with
        |none=>rw [fp] at zm;exact ⟨au.f,zm,fun _ _=>rfl,fun t h=>by cases h⟩
        |some d =>
         rw [fp] at zm;obtain ⟨Φ,zm⟩:=cond_prop zm;refine ⟨dZ au.f d x,zm,fun t ht=>QM fun e=>ht (by rw [e]),fun t ht=>?_⟩;cases ht;exact ⟨QL _ _ _,by simpa [gO] using Φ⟩
       refine ih _ _ w' (done++[c]) r f2 au.H mV lK (sA c.1 o ho fQ) (by rw [kD];exact qj) (fun c' fP=>?_) (fun c' fP=>?_) acr ⟨F2,bX,?_,?_,(by rw [put_defers];exact g3.trans (Nq.vp aG)),fun t ht=>?_⟩ Nq.inv.keys (fun j o' hj aB hl=>?_) IE.2
       ·rw [fD bm];split
        ·rfl
        ·rcases gp.1 fP with h|h
         ·exact IB c' h
         ·rename_i aQ;rw [dB.1 h] at aQ;exact absurd rfl aQ
       ·rw [fD bm,if_neg]
        ·exact BB c' (cj _ fP)
        ·intro e
         have Mc:∀(l:List (Nat×List Nat)) (b:Nat×List Nat),qa chain ops (b::l)=true→∀y,y∈l→b.1<y.1:=by
          intro l;induction l with
          |nil=>intro b _ y h;cases h
          |cons c' l OC =>
           intro b eQ y hy;simp only [qa,bJ] at eQ
           have hb:b.1<ops.size:=by simpa [gO] using eQ.1
           have ack:c'.1<ops.size:=by simpa [gO] using eQ.2.2.2.2.1
           have h1:=UU c'.1 b.1 ack hb eQ.2.2.2.1
           rcases bj.1 hy with rfl|hy
           ·exact h1
           ·have:=OC c' (by simp only [qa,bJ];exact eQ.2.2.2.2) y hy;omega
         have:=Mc r c acu c' fP;omega
       ·cases fp:o.dst with
        |none=>exact g1
        |some d=>simpa [iM] using g1
       ·cases fp:o.dst with
        |none=>exact g2
        |some d=>simpa [iM] using g2
       ·by_cases pL:o.dst=some t
        ·obtain ⟨e1,e2⟩:=wU t pL;rw [e1,pL]
         have:t<a.tmps.size:=by rw [g1,hn];exact e2
         simpa [iM,this] using hx
        ·rw [hq t pL]
         have h1:=g6 t fun j o' hj aB bH=>by
          have:=ht j o' hj aB bH;rw [fD bm] at this;split at this
          ·rename_i e;subst e;rw [ho] at aB;cases aB;exact absurd bH pL
          ·exact this
         have h2:=Nq.keep t _ h1;cases fp:o.dst with
         |none=>exact h2
         |some d =>
          have aQ:d≠t:=fun e=>pL (by rw [fp,e]);simpa [iM,Array.getElem?_setIfInBounds_ne aQ] using h2
       ·rw [fD bm] at hl;split at hl
        ·cases hl
        ·have NH:=Jo.1 hj;have h3:=(ej.1 NM) j hj;simp only [ug] at h3
         rcases h3 with h3|h3
         ·have:=gZ j NH.1 h3;rw [this] at hl;cases hl
         ·exact ON IE.1 j o' (by simpa using h3) aB
      have run:(KO P T E o ⟨f,H⟩ (fun x au=>put n o.dst au x fun fL=>qs P T ops fL c.2∧ux P T E n ops r fL (Q .normal) (fun m au=>Q (.panic (jH E m)) au)) fun m au=>Q (.panic (jH E m)) ⟨aG,au.H⟩)→o.wpIn (fN C.ro) 0 P a w (wpAnyIn (fN C.ro) 0 P .any ops (fun e a' w'=>∃au,Rel C au a' w'∧Q e au) fuel (listed.setIfInBounds c.1 true)) (fun e a' w'=>∃au,Rel C au a' w'∧Q e au):=fun EL=>by
       rcases EL with hw|hw
       rotate_left
       ·have Ft:∀(m:Int) (au:ah) (w':World) (F':Nat→Prop) (av:Nat→Value),Q (.panic (jH E m)) ⟨aG,au.H⟩→Ext w F1 du ⟨f,H⟩ w' F' av au→∃au,Rel C au a w'∧Q (.panic (jH E m)) au:=fun m au w' F' av hk hx=>⟨⟨aG,au.H⟩,⟨F',av,g1,g2,fun _=>.χ,g3.trans (hx.vp aG)⟩,hk⟩;have dP:=Yp hw
        rcases aim (st:=⟨f,H⟩) hT g3.inv rJ hw with ⟨v,w',aZ,rA⟩|⟨m,aZ,hk⟩|⟨g,vs,aZ,hc⟩
        ·refine Oper.kj dP aZ ?_;rw [xK];exact go v w' rA
        ·refine Oper.kj dP aZ ?_;rw [aae];exact Ft m ⟨f,H⟩ w F1 du hk (Ext.refl g3.inv)
        ·refine Oper.kj dP aZ ?_;rw [Ax];refine ⟨fun h=>(by cases h),vZ (hc.mono ?_)⟩;rintro e w' (⟨v,rfl,rA⟩|⟨m,rfl,au,F',av,hk,hx⟩)
         ·exact go v w' rA
         ·exact Ft m au w' F' av hk hx
       have dP:=Yq hw
       rcases Yr (st:=⟨f,H⟩) hT g3.inv rJ hw with ⟨v,w',aZ,rA⟩|⟨w',aZ,rA⟩|⟨g,vs,aZ,hc⟩|⟨l,fn,tmps,assign,body,aZ,hc⟩
       ·refine Oper.kj dP aZ ?_;rw [xK];exact go v w' rA
       ·refine Oper.kj dP aZ ?_;rw [Oper.uponIn_skip];exact go undef w' rA
       ·refine Oper.kj dP aZ ?_;rw [Ax];refine ⟨fun h=>(by cases h),vZ (hc.mono ?_)⟩;rintro e w' ⟨v,rfl,rA⟩;exact go v w' rA
       ·refine Oper.kj dP aZ ?_;rw [Oper.uponIn_round];refine ⟨fun h=>(by cases h),XF (hc.mono ?_)⟩;rintro e w' ⟨v,rfl,rA⟩;exact go v w' rA
      have skip:(put n o.dst ⟨f,H⟩ (.v undef) fun fL=>qs P T ops fL c.2∧ux P T E n ops r fL (Q .normal) (fun m au=>Q (.panic (jH E m)) au))→wpAnyIn (fN C.ro) 0 P .any ops (fun e a' w'=>∃au,Rel C au a' w'∧Q e au) fuel (listed.setIfInBounds c.1 true) (a.put o.dst undef) w:=fun hw =>
       go undef w ⟨.v undef,⟨f,H⟩,F1,du,hw,.i (.v (.inr rfl)),Ext.refl g3.inv⟩
      unfold wpOpIn;simp only [ho];rw [sM] at hw;cases hg:o.guard with
      |none =>
       rw [hg] at hw
       have adR:dW o (yielded ops a.tmps)=true:=by simp [dW,hg]
       rw [if_pos adR];exact run hw
      |some jw =>
       obtain ⟨j,want⟩:=jw;rw [hg] at hw;simp only at hw;split at hw
       ·rename_i d oE;obtain ⟨NN,hw⟩:=cond_prop hw
        have uK:d∈o.looksAt ops:=by
         refine vH _ ?_;rw [hg];simp [oE]
        have gr:=look d uK
        have NN:d<a.tmps.size:=by rw [g1,hn];simpa [gO] using NN
        have hy:∀v,a.tmps.getD d undef=v→yielded ops a.tmps j=match v with|.bool b=>some b|_=>none:=by
         intro v hv
         have h2:a.tmps[d]?=some v:=by
          rw [←hv];simp [NN]
         unfold yielded;rw [oE,cm,h2];cases v<;>rfl
        split at hw
        ·rename_i b hb;rw [hb] at gr;have h_:=hy _ gr.bK;simp only at h_;by_cases jA:b=want
         ·have zt:dW o (yielded ops a.tmps)=true:=by simp [dW,hg,h_,jA]
          rw [if_pos zt];have:=hw.y jA;rw [K2 (by rw [hb,jA])] at this;exact run this
         ·have qg:b=!want:=by cases b<;>cases want<;>first|rfl|exact absurd rfl jA
          have zt:¬dW o (yielded ops a.tmps)=true:=by simp [dW,hg,h_,jA]
          rw [if_neg zt];have:=hw.n qg;rw [K2 (by rw [hb,qg])] at this;exact ⟨fun _ _=>trivial,skip this⟩
        ·rename_i vs hb;rw [hb] at gr;have h_:=hy _ gr.bK;simp only at h_
         have zt:¬dW o (yielded ops a.tmps)=true:=by simp [dW,hg,h_]
         rw [if_neg zt];exact ⟨fun _ _=>trivial,skip hw⟩
        ·exact hw.elim
       ·exact hw.elim
 have rep:∀i,(og ops.size false).getD i false=false:=fun i=>by
  simp only [lA,Array.getElem?_replicate];split<;>rfl
 refine key ops.size _ a w [] chain fe st.H (by simp) (by simp) (fun i o hi=>by rw [rep] at hi;cases hi) rfl (fun c hc=>by cases hc) (fun c _=>rep _) acs ⟨F,β,hs,hd,he,fun t ht=>?_⟩ he.inv.keys (fun i o hi ho _=>bU o (UA i o hi ho)) hW
 ·have bw:∀i o,i<ops.size→ops[i]?=some o→o.dst≠some t:=fun i o hi ho bH=>by
   have:=ht i o hi ho bH;rw [rep] at this;cases this
  rw [lI t fun o ho=>by
   obtain ⟨i,hi,aB⟩:=mi.1 ho
   exact bw i o (lt aB) aB]
  exact hf t
end
end
section
open Go.Shelf Go.RowKit Go.Lib Go.Proofs
variable {P:Program} {ρ:Ren}
def lay (a:List Value) (o:Nat) (us:List Value):List Value:=a.take o++us++a.drop (o+us.length)
def mZ {a:List Value} {o:Nat} {us:List Value} (h:o+us.length≤a.length):(lay a o us).length=a.length:=by
 simp [lay];omega
def zC {a:List Value} {o:Nat} {us:List Value} (h:o+us.length≤a.length) (q:Nat):(lay a o us)[q]?=if q<o then a[q]? else if q<o+us.length then us[q-o]? else a[q]?:=by
 unfold lay;simp only [gK,cP,dN,gn,jq]
 have e:min o a.length=o:=by omega
 rw [e];by_cases h1:q<o
 ·have h2:q<o+us.length:=by omega
  simp [h1,h2]
 ·by_cases h2:q<o+us.length
  ·simp [h1,h2]
  ·have h3:o+us.length+(q-(o+us.length))=q:=by omega
   simp [h1,h2,h3]
def Kd (w:World) (dT sT ty e:TypeId) (i:TypeInfo) (K:Nat) (hu:P.underlying dT=some (.slice e)) (hi:P.info? e=some i) (hK:i.size=K) (g o dn dc:Nat) (a:Addr) (sn sc:Nat) (cur:List Value) (t:TypeId) (hg:w.heap[g]?=some (.cells cur.toArray t (0,0)))
  (us:List Value) (hl:us.length=p5 sn dn*K) (iG:∀j v,us[j]?=some v→w.cell? (a.add j)=some v) (jh:o+us.length≤cur.length) (fi:∀v,v∈us→v.oneCell'=true) :
  (qG #[dT,sT] ty #[.slice (some ⟨g,o,none⟩) dn dc,.slice (some a) sn sc]).run P w=.ok (goInt (p5 sn dn)) (w.setRow g (lay cur o us).toArray):=by
 have Bj:=run_firstCells_some (P:=P) w K (p5 sn dn) a sn sc us hl iG;have bT:=run_storeCells_at P g o t us 0 cur.toArray w hg (by simpa using jh) fi;simp only [lW] at bT;simp [qG,run_underlying hu,Builtin.lenOf,sizeOf,typeInfo,hi,hK,Bj,bT,lay]
def ag9 (w:World) (tS tR e:TypeId) (ht:P.underlying tS=some (.slice e)) (size:Nat) (hz:∀ w, (r7 e).run P w=.ok size w)
    (a b:Addr) (la ca lb cb:Nat) (aQ:a.block≠b.block) (tA tB:TypeId) (kA kB:Nat) (hsa:w.shape? a.block=some (tA, kA)) (Oe:w.shape? b.block=some (tB, kB)) (hkA:kA≠0) (hkB:kB≠0) (hfb:∀ o, w.frozen? { block:=b.block, off:=o }=false) (acM:w.frozen? b=false) :
    (rZ #[tS, tS] #[tR] #[.slice (some a) la ca, .slice (some b) lb cb]).run P w=.ok (.bool false) w:=by
  have pE:(a.block != b.block)=true:=by simpa using aQ
  have ac8:(a.block==b.block)=false:=by simpa using aQ
  change Sem.run P (α:=Value) (do
    let some t := (#[tS, tS] : Array TypeId)[0]? | stuck "slices.overlaps: no parameter types"
    let .slice elem ← underlying t | stuck "slices.overlaps: slice type expected"
    let size ← sizeOf elem
    match (some a:Option Addr), (some b:Option Addr) with
    |some a, some b =>
      if la=0∨lb=0∨size=0 then pure (Dg false)
      else if a.block != b.block&&(← frozen a)&&(← frozen b) then unsupported .addressObserved
      else do
        if a.block != b.block then do
          noView a;noView b
          if ← mayBeOne a b then return Dg ((← choose (.extern "sameAddr.stringBytes" 2)) == 1)
        pure (Dg (a.block==b.block&&a.off<b.off+lb*size&&b.off<a.off+la*size))
    |_, _=>pure (Dg false)) w=_
  by_cases h0:la=0∨lb=0∨size=0
  · simp [run_underlying ht, hz, h0]
  · cases kA with
   |zero=>exact absurd rfl hkA
   |succ kA =>
    cases kB with
    |zero=>exact absurd rfl hkB
    |succ kB =>
      have acN:=hfb (kB+1);simp [run_underlying ht, hz, h0, pE, ac8, frozen, noView, viewAt, mayBeOne, stringish, shape, Sem.run, hsa, Oe, acM, acN]
def XH (w:World) (t tx ty e:TypeId) (i:TypeInfo) (K:Nat) (ht:P.underlying t=some (.slice e)) (hi:P.info? e=some i) (hK:i.size=K) (g lO z8:Nat) (cur:List Value) (hg:w.heap[g]?=some (.cells cur.toArray e (0,0)))
  (x:Value) (n:Nat) (news:List Value) (hs:Go.Src P i.size tx x n news w) (fz:lO+n≤z8) (jh:lO*K+news.length≤cur.length) :
  (ig #[t,tx] ty #[.slice (some ⟨g,0,none⟩) lO z8,x]).run P w=.ok (.slice (some ⟨g,0,none⟩) (lO+n) z8) (w.setRow g (lay cur (lO*K) news).toArray):=by
 have bT:=run_storeCells_at P g (lO*K) e news 0 cur.toArray w hg (by simpa using jh) hs.one;simp only [lW] at bT;have hc:=hs.cells;rw [hK] at hc
 rcases hs.kind with ⟨e',hk⟩|hk<;>simp [ig,run_underlying ht,run_underlying hk,sizeOf,typeInfo,hi,hK,hs.len,fz,hc,gk,bT,lay]
structure uq (P:Program) (ρ:Ren) (i0:TypeInfo) (z:Value):Prop where
 mixed:P.follows .mixedOrders=true
 f22:Bears P (ρ.f 22) (Body2.n22 ρ)
 zh:∀args w w' v,(rZ #[ρ.t 24,ρ.t 24] #[ρ.t 4] args).run P w=.ok v w'→(callFunc (ρ.f 29) args).run P w=.ok (.value v) w'
 t0:P.underlying (ρ.t 0)=some (aal #[])
 a0:∀w,(isAgg (ρ.t 0)).run P w=.ok false w
 z0:∀w,(r7 (ρ.t 0)).run P w=.ok 1 w
 v0:∀w,(zeroValue (ρ.t 0)).run P w=.ok (Value.tuple #[]) w
 t3:P.underlying (ρ.t 3)=some (aaj Lo)
 a3:∀w,(isAgg (ρ.t 3)).run P w=.ok false w
 z3:∀w,(r7 (ρ.t 3)).run P w=.ok 1 w
 v3:∀w,(zeroValue (ρ.t 3)).run P w=.ok (Value.int Lo 0) w
 t4:P.underlying (ρ.t 4)=some (aai)
 a4:∀w,(isAgg (ρ.t 4)).run P w=.ok false w
 z4:∀w,(r7 (ρ.t 4)).run P w=.ok 1 w
 v4:∀w,(zeroValue (ρ.t 4)).run P w=.ok (Dg false) w
 t24:P.underlying (ρ.t 24)=some (aak (ρ.t 9))
 a24:∀w,(isAgg (ρ.t 24)).run P w=.ok false w
 z24:∀w,(r7 (ρ.t 24)).run P w=.ok 1 w
 v24:∀w,(zeroValue (ρ.t 24)).run P w=.ok (R4 none 0 0) w
 i9:P.info? (ρ.t 9)=some i0
 z9:∀w,(r7 (ρ.t 9)).run P w=.ok i0.size w
 k9:0<i0.size
 hz:i0.zero=some z
 zs:z.cells.size=i0.size
 z1:∀v,v∈z.cells.toList→v.oneCell'=true
set_option maxHeartbeats 4000000 in
set_option maxRecDepth 100000 in
def ad7 {i0:TypeInfo} {z:Value} (L:uq P ρ i0 z) (K g c n i vb vo m vc:Nat) (cur vs:List Value) (w:World) (fO:i0.size=K) (hi:i<n) (hm:0<m) (fz:n+m≤c) (Uk:c≤9223372036854775807) (I6:vb≠g)
  (hg:w.heap[g]?=some (.cells cur.toArray (ρ.t 9) (0,0))) (hs:cur.length=c*K) (oL:vs.length=m*K) (jk:∀j v,vs[j]?=some v→w.cell? ⟨vb,vo+j,none⟩=some v)
  (sN:∀q v,q<n*K→cur[q]?=some v→v.oneCell'=true) (q8:∀v,v∈vs→v.oneCell'=true) :
  Calls P (ρ.f 22) #[.slice (some ⟨g,0,none⟩) n c,.int .i64 i,.slice (some ⟨vb,vo,none⟩) m vc] w fun e w' =>
   e=.returned (.slice (some ⟨g,0,none⟩) (n+m) c)∧w'=(w.drew.setRow g (lay cur ((i+m)*K) ((cur.drop (i*K)).take ((n-i)*K))).toArray).setRow g (lay (lay cur ((i+m)*K) ((cur.drop (i*K)).take ((n-i)*K))) (i*K) vs).toArray:=by
 have t0:=L.t0;have a0:=L.a0;have z0:=L.z0;have v0:=L.v0;have t3:=L.t3;have a3:=L.a3;have z3:=L.z3;have v3:=L.v3;have t4:=L.t4;have a4:=L.a4;have z4:=L.z4;have v4:=L.v4;have t24:=L.t24;have a24:=L.a24;have z24:=L.z24;have v24:=L.v24;have u0:=run_underlying L.t0;have u3:=run_underlying L.t3;have u4:=run_underlying L.t4;have QK:=run_underlying L.t24;have z9:=L.z9;rw [fO] at z9
 have kQ:0<K:=by have:=L.k9;omega
 have uX:¬((m:Int)=0):=by omega
 have zv:¬((i:Int)=(n:Int)):=by omega
 have adw:w.shape? g=some (ρ.t 9,c*K):=by simp [World.shape?,hg,hs]
 have adH:∃cv tv fv,w.heap[vb]?=some (.cells cv tv fv)∧cv.size≠0:=by
  have rz:0<vs.length:=by rw [oL];exact RW hm kQ
  have h1:=jk 0 _ (bF rz);unfold vM at h1;split at h1
  ·rename_i h2;exact ⟨_,_,_,h2,fun h0=>by simp [h0] at h1⟩
  ·cases h1
 obtain ⟨cv,tv,fv,hvh,hcv⟩:=adH
 have adv:w.shape? vb=some (tv,cv.size):=by simp [World.shape?,hvh]
 have zh:∀o lb cb,(callFunc (ρ.f 29) #[.slice (some ⟨vb,vo,none⟩) m vc,.slice (some ⟨g,o,none⟩) lb cb]).run P w=.ok (.value (.bool false)) w:=fun o lb cb =>
  L.zh _ _ _ _ (ag9 w (ρ.t 24) (ρ.t 4) (ρ.t 9) L.t24 K z9 ⟨vb,vo,none⟩ ⟨g,o,none⟩ m vc lb cb I6 tv (ρ.t 9) cv.size (c*K) adv adw hcv (RW (by omega) kQ |> Nat.pos_iff_ne_zero.1) (fun o=>by simp [ama,hg]) (by simp [ama,hg]))
 have mixed:=L.mixed
 have zt:IntKind.i64.wrap ((i:Int)+(m:Int))=(i:Int)+(m:Int):=by rw [ZY];omega
 have cT:(0:Int)≤(i:Int)+(m:Int):=by omega
 have kX:i≤n:=by omega
 have htn:((i:Int)+(m:Int)).toNat=i+m:=by omega
 have jO:¬(c=i+m):=by omega
 have M8:(i:Int)≤(n:Int)+(m:Int):=by omega
 have hb4:¬(c=i):=by omega
 obtain ⟨us,fB⟩:∃us,us=(cur.drop (i*K)).take ((n-i)*K):=⟨_,rfl⟩
 have e0:i*K+(n-i)*K=n*K:=by rw [←bM,show i+(n-i)=n by omega]
 have e1:(i+m)*K+(n-i)*K=(n+m)*K:=by rw [←bM,show i+m+(n-i)=n+m by omega]
 have e2:(n+m)*K≤c*K:=cI _ fz
 have e3:i*K+m*K=(i+m)*K:=by rw [bM]
 have e4:(i+m)*K≤(n+m)*K:=cI _ (by omega);have e5:n*K≤(n+m)*K:=cI _ (by omega)
 have fj:us.length=(n-i)*K:=by rw [fB];simp;omega
 have lJ:∀j v,us[j]?=some v→j<(n-i)*K∧cur[i*K+j]?=some v:=fun j v hj=>by
  have h1:=(fk.1 hj).1;rw [fj] at h1;rw [fB,gn,if_pos h1,jq] at hj;exact ⟨h1,hj⟩
 have D9:∀v,v∈us→v.oneCell'=true:=fun v hv=>by
  obtain ⟨j,hj,rfl⟩:=RO hv;obtain ⟨h1,h2⟩:=lJ j _ (bF hj);exact sN _ _ (by omega) h2
 rw [←fB];obtain ⟨c1,ar⟩:∃c1,c1=lay cur ((i+m)*K) us:=⟨_,rfl⟩
 have Na:c1.length=c*K:=by rw [ar,mZ (by rw [fj];omega),hs]
 rw [←ar];have eu:w.drew.heap[g]?=some (.cells cur.toArray (ρ.t 9) (0,0)):=hg
 have acv:∀ty dc sc,(qG #[(ρ.t 24),(ρ.t 24)] ty #[.slice (some ⟨g,(i+m)*K,none⟩) (n+m-(i+m)) dc,.slice (some ⟨g,i*K,none⟩) (n+m-i) sc]).run P w.drew=.ok (goInt (p5 (n+m-i) (n+m-(i+m)))) (w.drew.setRow g c1.toArray):=fun ty dc sc=>by
  rw [ar];exact Kd w.drew _ _ ty (ρ.t 9) i0 K L.t24 L.i9 fO g ((i+m)*K) (n+m-(i+m)) dc ⟨g,i*K,none⟩ (n+m-i) sc cur (ρ.t 9) eu us (by rw [fj,show p5 (n+m-i) (n+m-(i+m))=n-i by rw [show ∀a b:Nat,p5 a b=min a b from fun _ _=>rfl];omega])
   (fun j v hj=>by
    obtain ⟨_,h2⟩:=lJ j v hj;rw [gk]
    simp [vM,eu,h2]) (by rw [fj];omega) D9
 have Φ:g<w.heap.size:=(lB.1 hg).1
 have Δ:(w.drew.setRow g c1.toArray).heap[g]?=some (.cells c1.toArray (ρ.t 9) (0,0)):=by simp [xL,pY,eu]
 have ν:∀j v,vs[j]?=some v→(w.drew.setRow g c1.toArray).cell? ⟨vb,vo+j,none⟩=some v:=fun j v hj=>by
  rw [←jk j v hj];simp [vM,xL,pY,Ne.symm I6];rfl
 have acw:∀(W:World),W.heap=(w.drew.setRow g c1.toArray).heap→∀ty dc,(qG #[(ρ.t 24),(ρ.t 24)] ty #[.slice (some ⟨g,i*K,none⟩) (n+m-i) dc,.slice (some ⟨vb,vo,none⟩) m vc]).run P W=.ok (goInt (p5 m (n+m-i))) (W.setRow g (lay c1 (i*K) vs).toArray):=fun W hW ty dc =>
  Kd W _ _ ty (ρ.t 9) i0 K L.t24 L.i9 fO g (i*K) (n+m-i) dc ⟨vb,vo,none⟩ m vc c1 (ρ.t 9) (by rw [hW];exact Δ) vs (by rw [oL,show p5 m (n+m-i)=m by rw [show ∀a b:Nat,p5 a b=min a b from fun _ _=>rfl];omega])
   (fun j v hj=>by
    rw [gk];have:=ν j v hj;unfold vM at this ⊢
    rw [hW];exact this) (by rw [oL,Na];omega) q8
 obtain ⟨_,_,FG⟩:=L.f22;go_enter FG,Body2.n22_ntmps ρ;go_wp2_with (simp only [zh]);go_region_law_o (refine step_copy_runI rfl _ _ (ρ.t 24) (ρ.t 24) rfl _ _ (by simp [Ar,iM]) (by simp [Ar,iM]) (acv _ _ _) ?_);go_wp2_with (at_builtin;refine wpList_copy_runI _ rfl _ _ (ρ.t 24) (ρ.t 24) rfl _ _ rfl rfl (acw _ rfl _ _) ?_);go_ret;exact ⟨rfl,by rw [ar,fB]⟩
set_option maxHeartbeats 4000000 in
set_option maxRecDepth 100000 in
def ad6 {i0:TypeInfo} {z:Value} (L:uq P ρ i0 z) (K g c n vb vo m vc:Nat) (cur vs:List Value) (w:World) (fO:i0.size=K) (hm:0<m) (fz:n+m≤c) (Uk:c≤9223372036854775807)
  (hg:w.heap[g]?=some (.cells cur.toArray (ρ.t 9) (0,0))) (hs:cur.length=c*K) (oL:vs.length=m*K) (jk:∀j v,vs[j]?=some v→w.cell? ⟨vb,vo+j,none⟩=some v) (q8:∀v,v∈vs→v.oneCell'=true) :
  Calls P (ρ.f 22) #[.slice (some ⟨g,0,none⟩) n c,.int .i64 n,.slice (some ⟨vb,vo,none⟩) m vc] w fun e w' =>
   e=.returned (.slice (some ⟨g,0,none⟩) (n+m) c)∧w'=w.setRow g (lay cur (n*K) vs).toArray:=by
 have t0:=L.t0;have a0:=L.a0;have z0:=L.z0;have v0:=L.v0;have t3:=L.t3;have a3:=L.a3;have z3:=L.z3;have v3:=L.v3;have t4:=L.t4;have a4:=L.a4;have z4:=L.z4;have v4:=L.v4;have t24:=L.t24;have a24:=L.a24;have z24:=L.z24;have v24:=L.v24;have u0:=run_underlying L.t0;have u3:=run_underlying L.t3;have u4:=run_underlying L.t4;have QK:=run_underlying L.t24;have mixed:=L.mixed;have z9:=L.z9;rw [fO] at z9
 have kQ:0<K:=by have:=L.k9;omega
 have uX:¬((m:Int)=0):=by omega
 have iG:Go.Src P i0.size (ρ.t 24) (.slice (some ⟨vb,vo,none⟩) m vc) m vs w:=Rz w L.t24 ⟨vb,vo,none⟩ m vc vs (by rw [fO];exact oL) (fun j u hj=>by rw [gk];exact jk j u hj) q8
 have e1:n*K+m*K=(n+m)*K:=by rw [bM]
 have e2:(n+m)*K≤c*K:=cI _ fz
 have aZ:∀ty,(ig #[(ρ.t 24),(ρ.t 24)] ty #[.slice (some ⟨g,0,none⟩) n c,.slice (some ⟨vb,vo,none⟩) m vc]).run P w=.ok (.slice (some ⟨g,0,none⟩) (n+m) c) (w.setRow g (lay cur (n*K) vs).toArray):=fun ty=>by
  exact XH w (ρ.t 24) (ρ.t 24) ty (ρ.t 9) i0 K L.t24 L.i9 fO g n c cur hg _ m vs iG fz (by omega)
 obtain ⟨_,_,FG⟩:=L.f22;go_enter FG,Body2.n22_ntmps ρ;go_wp2_with (at_builtin;refine Lp _ rfl _ _ _ _ rfl _ _ rfl rfl _ _ (aZ _) ?_);go_ret;exact ⟨rfl,rfl⟩
set_option maxHeartbeats 4000000 in
set_option maxRecDepth 100000 in
def VN {i0:TypeInfo} {z:Value} (L:uq P ρ i0 z) (K:Nat) (base:Option Addr) (n c vb vo m vc:Nat) (cs vs:List Value) (w:World) (fO:i0.size=K) (hm:0<m) (qm:n≤c) (fz:c<n+m) (uG:(n+m)*i0.bytes≤140737488355328) (MS:n+m≤140737488355328)
  (di:cs.length=n*K) (oL:vs.length=m*K) (pG:base=none→n=0) (fZ:∀a,base=some a→∀j v,cs[j]?=some v→w.cell? (a.add j)=some v)
  (jk:∀j v,vs[j]?=some v→w.cell? ⟨vb,vo+j,none⟩=some v) (q8:∀v,v∈vs→v.oneCell'=true) :
  Calls P (ρ.f 22) #[.slice base n c,.int .i64 n,.slice (some ⟨vb,vo,none⟩) m vc] w fun e w' =>
   e=.returned (.slice (some ⟨w.heap.size,0,none⟩) (n+m) (grownCap w (n+m) c (ρ.t 9))) ∧
   w'=w.drew.alloc (.cells ((cs++vs).toArray++dI z.cells (grownCap w (n+m) c (ρ.t 9)-(n+m))) (ρ.t 9)):=by
 have t0:=L.t0;have a0:=L.a0;have z0:=L.z0;have v0:=L.v0;have t3:=L.t3;have a3:=L.a3;have z3:=L.z3;have v3:=L.v3;have t4:=L.t4;have a4:=L.a4;have z4:=L.z4;have v4:=L.v4;have t24:=L.t24;have a24:=L.a24;have z24:=L.z24;have v24:=L.v24;have u0:=run_underlying L.t0;have u3:=run_underlying L.t3;have u4:=run_underlying L.t4;have QK:=run_underlying L.t24;have mixed:=L.mixed;have z9:=L.z9;rw [fO] at z9
 have kQ:0<K:=by have:=L.k9;omega
 have uX:¬((m:Int)=0):=by omega
 have iG:Go.Src P i0.size (ρ.t 24) (.slice (some ⟨vb,vo,none⟩) m vc) m vs w:=Rz w L.t24 ⟨vb,vo,none⟩ m vc vs (by rw [fO];exact oL) (fun j u hj=>by rw [gk];exact jk j u hj) q8
 have hold:(xB i0.size n (.slice base n c)).run P w.drew=.ok cs.toArray w.drew:=by
  rw [fO];cases base with
  |none =>
   have h0:=pG rfl;subst h0;have zd:cs=[]:=List.length_eq_zero_iff.1 (by simpa using di);rw [zd];exact run_firstCells_none w.drew K 0 0 c
  |some a=>exact run_firstCells_some w.drew K n a n c cs di (fun j v hj=>fZ a rfl j v hj)
 have aZ:∀ty,(ig #[(ρ.t 24),(ρ.t 24)] ty #[.slice base n c,.slice (some ⟨vb,vo,none⟩) m vc]).run P w=_:=fun ty =>
  run_append_grow_src w (ρ.t 24) (ρ.t 24) ty (ρ.t 9) i0 z L.t24 L.i9 L.hz base n c cs hold _ m vs iG fz (by omega) (growslice_fits fz uG)
 obtain ⟨_,_,FG⟩:=L.f22;cases base with
 |none =>
  have h0:=pG rfl;subst h0;change Calls P (ρ.f 22) #[.slice none 0 c,.int .i64 0,.slice (some ⟨vb,vo,none⟩) m vc] w _;go_enter FG,Body2.n22_ntmps ρ;go_wp2_with (at_builtin;refine Lp _ rfl _ _ _ _ rfl _ _ rfl rfl _ _ (aZ _) ?_);all_goals (go_ret;exact ⟨rfl,rfl⟩)
 |some a =>
  obtain ⟨ab,ao,asp⟩:=a;go_enter FG,Body2.n22_ntmps ρ;go_wp2_with (at_builtin;refine Lp _ rfl _ _ _ _ rfl _ _ rfl rfl _ _ (aZ _) ?_);all_goals (go_ret;exact ⟨rfl,rfl⟩)
set_option maxHeartbeats 8000000 in
set_option maxRecDepth 100000 in
def ad4 {i0:TypeInfo} {z:Value} (L:uq P ρ i0 z) (K g c n i vb vo m vc:Nat) (cur vs:List Value) (w:World) (fO:i0.size=K) (hi:i<n) (hm:0<m) (qm:n≤c) (fz:c<n+m) (uG:(n+m)*i0.bytes≤140737488355328) (alk:n+m≤140737488355328)
  (hg:w.heap[g]?=some (.cells cur.toArray (ρ.t 9) (0,0))) (hs:cur.length=c*K) (oL:vs.length=m*K) (jk:∀j v,vs[j]?=some v→w.cell? ⟨vb,vo+j,none⟩=some v)
  (sN:∀q v,q<n*K→cur[q]?=some v→v.oneCell'=true) (q8:∀v,v∈vs→v.oneCell'=true) :
  Calls P (ρ.f 22) #[.slice (some ⟨g,0,none⟩) n c,.int .i64 i,.slice (some ⟨vb,vo,none⟩) m vc] w fun e w' =>
   e=.returned (.slice (some ⟨w.heap.size,0,none⟩) (n+m) (grownCap w (n+m) c (ρ.t 9)))∧∃r0 r1:List Value,r0.length=grownCap w (n+m) c (ρ.t 9)*K∧(∀q,q<i*K→r0[q]?=cur[q]?)∧r1=lay r0 (i*K) vs ∧
   w'=(((w.alloc (.cells r0.toArray (ρ.t 9))).drew.setRow w.heap.size r1.toArray).drew).setRow w.heap.size (lay r1 ((i+m)*K) ((cur.drop (i*K)).take ((n-i)*K))).toArray:=by
 have t0:=L.t0;have a0:=L.a0;have z0:=L.z0;have v0:=L.v0;have t3:=L.t3;have a3:=L.a3;have z3:=L.z3;have v3:=L.v3;have t4:=L.t4;have a4:=L.a4;have z4:=L.z4;have v4:=L.v4;have t24:=L.t24;have a24:=L.a24;have z24:=L.z24;have v24:=L.v24;have u0:=run_underlying L.t0;have u3:=run_underlying L.t3;have u4:=run_underlying L.t4;have QK:=run_underlying L.t24;have mixed:=L.mixed;have z9:=L.z9;rw [fO] at z9
 have kQ:0<K:=by have:=L.k9;omega
 have uX:¬((m:Int)=0):=by omega
 have zv:¬((i:Int)=(n:Int)):=by omega
 have hz3:(c:Int)<(n:Int)+(m:Int):=by omega
 have hgw:g<w.heap.size:=(lB.1 hg).1
 have hvw:vb<w.heap.size:=by
  have rz:0<vs.length:=by rw [oL];exact RW hm kQ
  exact block_lt_of_cell (jk 0 _ (bF rz))
 have rm:(n:Int)+(m:Int)-(i:Int)=((n+m-i:Nat):Int):=by omega
 have nI:i+(n+m-i)=n+m:=by omega
 have e0:i*K+(n-i)*K=n*K:=by rw [←bM,show i+(n-i)=n by omega]
 have e1:(i+m)*K+(n-i)*K=(n+m)*K:=by rw [←bM,show i+m+(n-i)=n+m by omega]
 have e3:i*K+m*K=(i+m)*K:=by rw [bM]
 have e4:(i+m)*K≤(n+m)*K:=cI _ (by omega);have e5:n*K≤c*K:=cI _ qm;have e6:i*K≤n*K:=cI _ (by omega);obtain ⟨us,fB⟩:∃us,us=(cur.drop (i*K)).take ((n-i)*K):=⟨_,rfl⟩
 have fj:us.length=(n-i)*K:=by rw [fB];simp;omega
 have lJ:∀j v,us[j]?=some v→j<(n-i)*K∧cur[i*K+j]?=some v:=fun j v hj=>by
  have h1:=(fk.1 hj).1;rw [fj] at h1;rw [fB,gn,if_pos h1,jq] at hj;exact ⟨h1,hj⟩
 have D9:∀v,v∈us→v.oneCell'=true:=fun v hv=>by
  obtain ⟨j,hj,rfl⟩:=RO hv;obtain ⟨h1,h2⟩:=lJ j _ (bF hj);exact sN _ _ (by omega) h2
 have hold:(xB i0.size i (.slice (some ⟨g,0,none⟩) i c)).run P w.drew=.ok (cur.take (i*K)).toArray w.drew:=by
  rw [fO]
  exact run_firstCells_some w.drew K i ⟨g,0,none⟩ i c (cur.take (i*K)) (by rw [dN];omega) (fun j v hj=>by
   rw [gk,Nat.zero_add];rw [gn] at hj;split at hj
   ·have eu:w.drew.heap[g]?=some (.cells cur.toArray (ρ.t 9) (0,0)):=hg;simp [vM,eu,hj]
   ·cases hj)
 obtain ⟨G,hG⟩:∃G,G=grownCap w (n+m) c (ρ.t 9):=⟨_,rfl⟩
 have hGn:n+m≤G:=by rw [hG];exact grownCap_ge w _ _ _
 obtain ⟨r0,de⟩:∃r0:List Value,r0=cur.take (i*K)++(dI z.cells (n+m-i)).toList++(dI z.cells (G-(n+m))).toList:=⟨_,rfl⟩;have Vi:∀ty,(ig #[(ρ.t 24),(ρ.t 3)] ty #[.slice (some ⟨g,0,none⟩) i c,.int .i64 ((n:Int)+(m:Int)-(i:Int))]).run P w =
   .ok (.slice (some ⟨w.heap.size,0,none⟩) (n+m) G) (w.drew.alloc (.cells r0.toArray (ρ.t 9))):=fun ty=>by
  have h:=Lib.run_append_grow_zeros w (ρ.t 24) (ρ.t 3) ty (ρ.t 9) i0 _ .i64 .i64 L.t24 L.t3 L.i9 L.hz (some ⟨g,0,none⟩) i c (cur.take (i*K)) hold (n+m-i) (by omega) (by have:=L.k9;omega) (by omega) (by omega)
   (by have:(n+m-i)*i0.bytes≤(n+m)*i0.bytes:=cI _ (by omega);omega) (by rw [nI];exact growslice_fits fz uG)
  rw [nI,←hG] at h;rw [rm,h,de]
  have ea:∀(l:List Value) (x y:Array Value),l.toArray++x++y=(l++x.toList++y.toList).toArray:=fun l x y=>by apply Array.ext';simp
  rw [ea]
 have mX:∀k,(dI z.cells k).toList.length=k*K:=fun k=>by
  rw [lR];simp [dI,L.zs,fO]
 have N5:r0.length=G*K:=by
  rw [de,cP,cP,mX,mX,dN,xI (by omega),←bM,←bM];congr 1;omega
 have I1:∀q,q<i*K→r0[q]?=cur[q]?:=fun q hq=>by
  rw [de,kD,List.getElem?_append_left (by rw [dN];omega),gn,if_pos hq]
 have hGK:(n+m)*K≤G*K:=cI _ hGn;obtain ⟨r1,EG⟩:∃r1,r1=lay r0 (i*K) vs:=⟨_,rfl⟩
 have ado:r1.length=G*K:=by rw [EG,mZ (by rw [oL];omega),N5]
 obtain ⟨N,hN⟩:∃N,N=w.heap.size:=⟨_,rfl⟩
 have hNg:g≠N:=by omega
 have hNv:vb≠N:=by omega
 have ha:(w.drew.alloc (.cells r0.toArray (ρ.t 9))).heap[N]?=some (.cells r0.toArray (ρ.t 9) (0,0)):=by
  rw [hN];show (w.drew.heap.push (.cells r0.toArray (ρ.t 9)))[w.drew.heap.size]?=_;rw [np,if_pos rfl]
 have M6:∀b,b<w.heap.size→(w.drew.alloc (.cells r0.toArray (ρ.t 9))).heap[b]?=w.heap[b]?:=fun b hb=>by
  have:b≠w.drew.heap.size:=Ly hb;simp only [lZ,np,if_neg this];rfl
 rw [←hN] at Vi
 have acx:∀(W:World),W.heap=(w.drew.alloc (.cells r0.toArray (ρ.t 9))).heap→∀ty dc,(qG #[(ρ.t 24),(ρ.t 24)] ty #[.slice (some ⟨N,i*K,none⟩) (n+m-i) dc,.slice (some ⟨vb,vo,none⟩) m vc]).run P W=.ok (goInt (p5 m (n+m-i))) (W.setRow N r1.toArray):=fun W hW ty dc=>by
  rw [EG];exact Kd W _ _ ty (ρ.t 9) i0 K L.t24 L.i9 fO N (i*K) (n+m-i) dc ⟨vb,vo,none⟩ m vc r0 (ρ.t 9) (by rw [hW];exact ha) vs (by rw [oL,show ∀a b:Nat,p5 a b=min a b from fun _ _=>rfl,xI (by omega)])
   (fun j v hj=>by
    rw [gk];have:=jk j v hj;unfold vM at this ⊢
    rw [hW,M6 vb hvw];exact this) (by rw [oL,N5];omega) q8
 have cT:∀W:World,W.heap=(w.drew.alloc (.cells r0.toArray (ρ.t 9))).heap→(W.setRow N r1.toArray).heap[N]?=some (.cells r1.toArray (ρ.t 9) (0,0)):=fun W hW=>by
  simp only [xL,pY,if_true];rw [hW,ha];rfl
 have jO:∀W:World,W.heap=(w.drew.alloc (.cells r0.toArray (ρ.t 9))).heap→(W.setRow N r1.toArray).heap[g]?=some (.cells cur.toArray (ρ.t 9) (0,0)):=fun W hW=>by
  simp only [xL,pY,if_neg (Ne.symm hNg)];rw [hW,M6 g hgw];exact hg
 have Uq:∀(W:World),(∀b:Nat,W.heap[b]?=((w.drew.alloc (.cells r0.toArray (ρ.t 9))).setRow N r1.toArray).heap[b]?)→∀ty dc sc,(qG #[(ρ.t 24),(ρ.t 24)] ty #[.slice (some ⟨N,(i+m)*K,none⟩) (n+m-(i+m)) dc,.slice (some ⟨g,i*K,none⟩) (n-i) sc]).run P W=.ok (goInt (p5 (n-i) (n+m-(i+m)))) (W.setRow N (lay r1 ((i+m)*K) us).toArray):=fun W hW ty dc sc =>
  Kd W _ _ ty (ρ.t 9) i0 K L.t24 L.i9 fO N ((i+m)*K) (n+m-(i+m)) dc ⟨g,i*K,none⟩ (n-i) sc r1 (ρ.t 9) (by rw [hW,cT _ rfl]) us (by rw [fj,show ∀a b:Nat,p5 a b=min a b from fun _ _=>rfl,xI (by omega)])
   (fun j v hj=>by
    obtain ⟨_,h2⟩:=lJ j v hj;rw [gk];unfold vM;rw [hW,jO _ rfl]
    simp [h2]) (by rw [fj,ado];omega) D9
 have alh:G≤9223372036854775807:=by
  have:=grownCap_le_maxLen w (n+m) c (ρ.t 9) (by unfold maxLen;omega);rw [←hG] at this;unfold maxLen at this;omega
 have hGi:¬(G=i):=by omega
 have ali:¬(G=i+m):=by omega
 have A8:¬(c=i):=by omega
 have zt:IntKind.i64.wrap ((i:Int)+(m:Int))=(i:Int)+(m:Int):=by rw [ZY];omega
 have alj:(0:Int)≤(i:Int)+(m:Int):=by omega
 have kX:i≤n:=by omega
 have htn:((i:Int)+(m:Int)).toNat=i+m:=by omega
 have M8:(i:Int)≤(n:Int):=by omega
 have hE1:((w.alloc (.cells r0.toArray (ρ.t 9))).drew).heap=(w.drew.alloc (.cells r0.toArray (ρ.t 9))).heap:=rfl
 have hF1:∀b:Nat,(((w.alloc (.cells r0.toArray (ρ.t 9))).drew.setRow N r1.toArray).drew).heap[b]?=((w.drew.alloc (.cells r0.toArray (ρ.t 9))).setRow N r1.toArray).heap[b]?:=by
  intro b;rfl
 have wH:∃JZ Po:List Value,JZ.length=G*K∧(∀q,q<i*K→JZ[q]?=cur[q]?)∧Po=lay JZ (i*K) vs∧(((w.alloc (.cells r0.toArray (ρ.t 9))).drew.setRow N r1.toArray).drew).setRow N (lay r1 ((i+m)*K) us).toArray=(((w.alloc (.cells JZ.toArray (ρ.t 9))).drew.setRow N Po.toArray).drew).setRow N (lay Po ((i+m)*K) us).toArray:=⟨r0,r1,N5,I1,EG,rfl⟩;rw [←hG,←hN,←fB];clear rm nI hold de hG EG mX I1 cT jO M6 ha lJ fB fj hN;obtain ⟨_,_,FG⟩:=L.f22;go_enter FG,Body2.n22_ntmps ρ
 go_wp2_with (first
  |(at_builtin;refine Lp _ rfl _ _ _ _ rfl _ _ rfl rfl _ _ (Vi _) ?_)
  |(at_builtin;refine wpList_copy_runI _ rfl _ _ (ρ.t 24) (ρ.t 24) rfl _ _ rfl rfl (acx _ hE1 _ _) ?_)
  |(at_builtin;refine wpList_copy_runI _ rfl _ _ (ρ.t 24) (ρ.t 24) rfl _ _ rfl rfl (Uq _ (fun _=>rfl) _ _ _) ?_))
 go_region_law_o (refine step_copy_runI rfl _ _ (ρ.t 24) (ρ.t 24) rfl (.slice (some ⟨N,(i+m)*K,none⟩) (n+m-(i+m)) (G-(i+m))) (.slice (some ⟨g,i*K,none⟩) (n-i) (c-i)) (by simp [Ar,iM]) (by simp [Ar,iM]) (Uq _ hF1 (ρ.t 3) (G-(i+m)) (c-i)) ?_);go_wp2;go_ret;exact ⟨rfl,wH⟩
structure AD (P:Program) (ρ:Ren) (i0:TypeInfo) (z:Value):Prop where
 mixed:P.follows .mixedOrders=true
 f45:Bears P (ρ.f 45) (SlBodyN.n45 ρ)
 t0:P.underlying (ρ.t 0)=some (aal #[])
 a0:∀w,(isAgg (ρ.t 0)).run P w=.ok false w
 z0:∀w,(r7 (ρ.t 0)).run P w=.ok 1 w
 v0:∀w,(zeroValue (ρ.t 0)).run P w=.ok (Value.tuple #[]) w
 t3:P.underlying (ρ.t 3)=some (aaj Lo)
 a3:∀w,(isAgg (ρ.t 3)).run P w=.ok false w
 z3:∀w,(r7 (ρ.t 3)).run P w=.ok 1 w
 v3:∀w,(zeroValue (ρ.t 3)).run P w=.ok (Value.int Lo 0) w
 t4:P.underlying (ρ.t 4)=some (aai)
 a4:∀w,(isAgg (ρ.t 4)).run P w=.ok false w
 z4:∀w,(r7 (ρ.t 4)).run P w=.ok 1 w
 v4:∀w,(zeroValue (ρ.t 4)).run P w=.ok (Dg false) w
 t22:P.underlying (ρ.t 22)=some (aak (ρ.t 23))
 a22:∀w,(isAgg (ρ.t 22)).run P w=.ok false w
 z22:∀w,(r7 (ρ.t 22)).run P w=.ok 1 w
 v22:∀w,(zeroValue (ρ.t 22)).run P w=.ok (R4 none 0 0) w
 i23:P.info? (ρ.t 23)=some i0
 z23:∀w,(r7 (ρ.t 23)).run P w=.ok i0.size w
 v23:∀w,(zeroValue (ρ.t 23)).run P w=.ok z w
 s_:0<i0.size
 zs:z.cells.size=i0.size
 z1:∀v,v∈z.cells.toList→v.oneCell'=true
def aio {ops:Array Oper} {o:Oper} {a:Act} {w:World} {Kk:Act→World→Prop} {Q:Exit→Act→World→Prop} {E:Prop} (eu:o.guard=none) (s x:Operand) (t:TypeId) (qn:o.op=Op.call { callee:=Callee.builtin Builtin.append,args:=#[s,x],argTypes:=#[t,t] })
  (v u:Value) (hs:a.eval s=v) (hx:a.eval x=u) {v':Value} {w':World} (hr:(ig #[t,t] o.type #[v,u]).run P w=.ok v' w') (hK:Kk (a.put o.dst v') w') :
  if dW o (yielded ops a.tmps)=true then Oper.wp P o a w Kk Q else E:=by
 have hw:dW o (yielded ops a.tmps)=true:=by simp [dW,eu]
 rw [if_pos hw];unfold Oper.wp;simp [execOp,qn,resolve,invoke,builtin,hs,hx,hr,Result.andThen];exact hK
def ag4 (w:World) (t e ty:TypeId) (z:Value) (K:Nat) (ht:P.underlying t=some (.slice e)) (hv:∀w,(zeroValue e).run P w=.ok z w) (hz:z.cells.size=K) (h1:∀v,v∈z.cells.toList→v.oneCell'=true) (g o n c:Nat) (hn:0<n) (cur:List Value) (tt:TypeId)
  (hg:w.heap[g]?=some (.cells cur.toArray tt (0,0))) (jh:o+n*K≤cur.length) :
  (vC #[t] ty #[.slice (some ⟨g,o,none⟩) n c]).run P w=.ok (.tuple #[]) (w.setRow g (lay cur o (dI z.cells n).toList).toArray):=by
 have hl:(dI z.cells n).toList.length=n*K:=by rw [lR];simp [dI,hz]
 have nE:∀v,v∈(dI z.cells n).toList→v.oneCell'=true:=fun v jU=>by
  simp [dI] at jU;obtain ⟨q,hq,rfl⟩:=jU
  have rz:0<z.cells.size:=by
   rcases Nat.eq_zero_or_pos z.cells.size with h|h
   ·rw [h] at hq;simp at hq
   ·exact h
  have Φ:=se q rz;refine h1 _ ?_;rw [getElem!_pos z.cells _ Φ];simp
 have bT:=run_storeCells_at P g o tt (dI z.cells n).toList 0 cur.toArray w hg (by rw [hl];simpa using jh) nE;simp only [lW] at bT;obtain ⟨m,rfl⟩:∃m,n=m+1:=⟨n-1,by omega⟩;simp [vC,run_underlying ht,hv,bT,lay]
set_option maxHeartbeats 4000000 in
set_option maxRecDepth 1000000 in
def aa8 {i0:TypeInfo} {z:Value} (L:AD P ρ i0 z) (K g c n i j:Nat) (cur:List Value) (w:World) (fO:i0.size=K) (eT:i<j) (hj:j≤n) (qm:n≤c) (Uk:c≤9223372036854775807)
  (hg:w.heap[g]?=some (.cells cur.toArray (ρ.t 23) (0,0))) (hs:cur.length=c*K) (sN:∀q v,q<n*K→cur[q]?=some v→v.oneCell'=true) :
  Calls P (ρ.f 45) #[.slice (some ⟨g,0,none⟩) n c,.int .i64 i,.int .i64 j] w fun e w' =>
   e=.returned (.slice (some ⟨g,0,none⟩) (i+(n-j)) c)∧∃zs:List Value,zs.length=(j-i)*K ∧
   w'=(w.drew.setRow g (lay cur (i*K) ((cur.drop (j*K)).take ((n-j)*K))).toArray).setRow g (lay (lay cur (i*K) ((cur.drop (j*K)).take ((n-j)*K))) ((i+(n-j))*K) zs).toArray:=by
 have mixed:=L.mixed;have t0:=L.t0;have a0:=L.a0;have z0:=L.z0;have v0:=L.v0;have t3:=L.t3;have a3:=L.a3;have z3:=L.z3;have v3:=L.v3;have t4:=L.t4;have a4:=L.a4;have z4:=L.z4;have v4:=L.v4;have t22:=L.t22;have a22:=L.a22;have z22:=L.z22;have v22:=L.v22;have z23:=L.z23;rw [fO] at z23
 have kQ:0<K:=by have:=L.s_;omega
 have e0:j*K+(n-j)*K=n*K:=by rw [←bM,show j+(n-j)=n by omega]
 have e1:i*K+(n-j)*K=(i+(n-j))*K:=by rw [bM]
 have e2:(i+(n-j))*K+(j-i)*K=n*K:=by rw [←bM,show i+(n-j)+(j-i)=n by omega]
 have e3:n*K≤c*K:=cI _ qm;obtain ⟨us,fB⟩:∃us,us=(cur.drop (j*K)).take ((n-j)*K):=⟨_,rfl⟩
 have fj:us.length=(n-j)*K:=by rw [fB];simp;omega
 have lJ:∀q v,us[q]?=some v→q<(n-j)*K∧cur[j*K+q]?=some v:=fun q v hq=>by
  have h1:=(fk.1 hq).1;rw [fj] at h1;rw [fB,gn,if_pos h1,jq] at hq;exact ⟨h1,hq⟩
 have D9:∀v,v∈us→v.oneCell'=true:=fun v hv=>by
  obtain ⟨q,hq,rfl⟩:=RO hv;obtain ⟨h1,h2⟩:=lJ q _ (bF hq);exact sN _ _ (by omega) h2
 have eu:w.drew.heap[g]?=some (.cells cur.toArray (ρ.t 23) (0,0)):=hg
 obtain ⟨A,hA,iG⟩:∃A:Addr,(if c=j then some (⟨g,0,none⟩:Addr) else some ⟨g,j*K,none⟩)=some A∧∀q u,us[q]?=some u→w.drew.cell? (A.add q)=some u:=by
  by_cases h:c=j
  ·refine ⟨⟨g,0,none⟩,by simp [h],fun q u hu=>?_⟩;have h1:=(lJ q u hu).1
   have h2:n-j=0:=by omega
   rw [h2] at h1;omega
  ·refine ⟨⟨g,j*K,none⟩,by simp [h],fun q u hu=>?_⟩;have h2:=(lJ q u hu).2;rw [gk];simp [vM,eu,h2]
 obtain ⟨c1,ar⟩:∃c1,c1=lay cur (i*K) us:=⟨_,rfl⟩
 have Na:c1.length=c*K:=by rw [ar,mZ (by rw [fj];omega),hs]
 have Ua:∀ty,(ig #[ρ.t 22,ρ.t 22] ty #[.slice (some ⟨g,0,none⟩) i c,.slice (some A) (n-j) (c-j)]).run P w.drew=.ok (.slice (some ⟨g,0,none⟩) (i+(n-j)) c) (w.drew.setRow g c1.toArray):=fun ty=>by
  rw [ar];exact XH w.drew _ _ ty (ρ.t 23) i0 K L.t22 L.i23 fO g i c cur eu _ (n-j) us (by rw [fO];exact Rz w.drew L.t22 A (n-j) (c-j) us fj iG D9) (by omega) (by rw [fj];omega)
 have Δ:(w.drew.setRow g c1.toArray).heap[g]?=some (.cells c1.toArray (ρ.t 23) (0,0)):=by simp [xL,pY,eu]
 obtain ⟨W1,jd⟩:∃W1,W1=w.drew.setRow g c1.toArray:=⟨_,rfl⟩;obtain ⟨zs,iH⟩:∃zs:List Value,zs=(dI z.cells (n-(i+(n-j)))).toList:=⟨_,rfl⟩
 have mX:zs.length=(j-i)*K:=by
  rw [iH,lR,show n-(i+(n-j))=j-i by omega];simp [dI,L.zs,fO]
 have di:∀ty cc,(vC #[ρ.t 22] ty #[.slice (some ⟨g,(i+(n-j))*K,none⟩) (n-(i+(n-j))) cc]).run P W1=.ok (.tuple #[]) (W1.setRow g (lay c1 ((i+(n-j))*K) zs).toArray):=fun ty cc=>by
  rw [jd,iH]
  exact ag4 _ _ _ ty z K L.t22 L.v23 (by rw [L.zs,fO]) L.z1 g ((i+(n-j))*K) (n-(i+(n-j))) cc (by omega) c1 (ρ.t 23) Δ (by
   rw [Na,show n-(i+(n-j))=j-i by omega];omega)
 rw [←fB];have wH:∃ZB:List Value,ZB.length=(j-i)*K∧W1.setRow g (lay c1 ((i+(n-j))*K) zs).toArray=(w.drew.setRow g (lay cur (i*K) us).toArray).setRow g (lay (lay cur (i*K) us) ((i+(n-j))*K) ZB).toArray:=⟨zs,mX,by rw [jd,ar]⟩
 have UG:i≤c:=by omega
 have UJ:j≤c:=by omega
 have hle:i≤j:=by omega
 have aQ:¬((i:Int)=(j:Int)):=by omega
 rw [←jd] at Ua;clear jd ar fB lJ fj eu iH Δ;obtain ⟨_,_,FG⟩:=L.f45;go_enter FG,SlBodyN.n45_ntmps ρ;go_wp2_with fail;go_region_law_o (refine aio rfl (.tmp 22) (.tmp 25) (ρ.t 22) rfl _ _ (by simp [Ar,iM]) (by simp [Ar,iM,hA]) (Ua _) ?_);go_wp2;go_ret;exact ⟨rfl,wH⟩
end
section
open Go.Shelf Go.Proofs
variable [M:cM] [G:dX]
section
variable {w w':World} {F:Nat→Prop} {β:Nat→Value} {E K:Nat} {l l':List (List AV)} {v:Value}
def Wt (hI:Inv w F β [(1000,.own E K l)]) (uR:w'.os=w.os) (ht:js w w') (ho:w'.output=w.output) (hs:w.heap.size≤w'.heap.size)
  (hb:∀b,b<w.heap.size→¬bD β [(1000,.own E K l)] b→w'.heap[b]?=w.heap[b]?)
  (hv:∃g cap cur,v=.slice (some ⟨g,0,none⟩) l'.length cap∧(w.heap.size≤g∨bD β [(1000,.own E K l)] g)∧0<cap∧w'.heap[g]?=some (.cells cur E (0,0))∧l'.length≤cap∧cap≤maxLen∧cur.size=cap*K∧(∀i,i<l'.length→(l'.getD i []).length=K) ∧
   ∀i j,i<l'.length→j<K→(cur.getD (i*K+j) undef).oneCell'=true∧bh w F ((l'.getD i []).getD j .χ) (cur.getD (i*K+j) undef)) :
  Ext w F β ⟨aG,[(1000,.own E K l)]⟩ w' F (fun i=>if i=900 then v else β i) ⟨aG,[(900,.own E K l')]⟩:=by
 obtain ⟨g,cap,cur,rfl,hg,oD,hh,nL,nG,fZ,hK,hr⟩:=hv;have ha:ga F w w':=fun b hF=>hb b (hI.cA b hF) fun h=>hI.apart b h hF
 have db:∀b,bD (fun i=>if i=900 then R4 (some ⟨g,0,none⟩) l'.length cap else β i) [(900,.own E K l')] b→b=g:=by
  rintro b ⟨i,c,hm,kR⟩;simp only [dB,im] at hm;obtain ⟨rfl,rfl⟩:=hm
  have q7:aH cap 0=false:=by cases cap<;>first|rfl|omega
  simp [bP,q7] at kR;exact kR.symm
 refine ⟨uR,ht,ho,hs,hb,fun _ h=>h,fun _ h=>.inl h,fun b h=>by rw [db b h];exact hg,fun _ _ _=>.χ,⟨fun b hF=>oh (hI.cA b hF) hs,fun i c hm=>?_,by simp,fun b h hF=>?_,fun i c i' c' b h1 h2 _ _=>?_,hI.fh.at ha⟩,fun i hi=>if_neg (by omega)⟩
 ·simp only [dB,im] at hm;obtain ⟨rfl,rfl⟩:=hm;exact .inr ⟨g,cap,cur,if_pos rfl,oD,hh,nL,nG,fZ,hK,fun i j hi hj=>⟨(hr i j hi hj).1,(hr i j hi hj).2.frame ha fun _ h=>h⟩⟩
 ·have:=db b h;subst this
  rcases hg with h1|h1
  ·have:=hI.cA b hF;omega
  ·exact hI.apart b h1 hF
 ·simp only [dB,im] at h1 h2;rw [h1.1,h2.1]
def VK (l x:List (List AV)) (i r:Nat) (hi:i≤l.length):(dM l (i:Int) x).getD r []=if r<i then l.getD r [] else if r<i+x.length then x.getD (r-i) [] else l.getD (r-x.length) []:=by
 simp only [dM,gU,aV,gK,cP,dN,gn,jq,xI hi];by_cases h1:r<i
 ·have h2:r<i+x.length:=by omega
  simp [h1,h2]
 ·by_cases h2:r<i+x.length
  ·simp [h1,h2]
  ·have h3:i+(r-(i+x.length))=r-x.length:=by omega
   simp [h1,h2,h3]
def ad3 {Q:AV→Value→Prop} {x:List (List AV)} {i n:Nat} {cur vs X:List Value} (hn:n=l.length) (hi:i≤n) (hX:∀q,q<(n+x.length)*K→X[q]?=if q<i*K then cur[q]? else if q<(i+x.length)*K then vs[q-i*K]? else cur[q-x.length*K]?)
  (hl:∀r j,r<n→j<K→Q ((l.getD r []).getD j .χ) (cur.getD (r*K+j) undef)) (hx:∀r j,r<x.length→j<K→Q ((x.getD r []).getD j .χ) (vs.getD (r*K+j) undef)) :
  ∀r j,r<(dM l (i:Int) x).length→j<K→Q (((dM l (i:Int) x).getD r []).getD j .χ) (X.getD (r*K+j) undef):=by
 intro r j hr hj
 have hlen:(dM l (i:Int) x).length=n+x.length:=by simp [dM];omega
 rw [hlen] at hr
 have hq:r*K+j<(n+x.length)*K:=by
  calc r*K+j<r*K+K:=by omega
   _=(r+1)*K:=by rw [bM];omega
   _≤_:=cI _ hr
 rw [VK l x i r (by omega),show X.getD (r*K+j) undef=(X[r*K+j]?).getD undef from fW ..,hX _ hq];by_cases h1:r<i
 ·have:r*K+j<i*K:=by
   calc r*K+j<(r+1)*K:=by rw [bM];omega
    _≤_:=cI _ h1
  rw [if_pos h1,if_pos this,show ∀(a:List Value) b,(a[b]?).getD undef=a.getD b undef from fun a b=>(fW ..).symm];exact hl r j (by omega) hj
 ·have nE:¬r*K+j<i*K:=by
   have:i*K≤r*K:=cI _ (by omega);omega
  rw [if_neg h1,if_neg nE];by_cases h2:r<i+x.length
  ·have:r*K+j<(i+x.length)*K:=by
    calc r*K+j<(r+1)*K:=by rw [bM];omega
     _≤_:=cI _ h2
   rw [if_pos h2,if_pos this]
   have e:r*K+j-i*K=(r-i)*K+j:=by
    have:i*K≤r*K:=cI _ (by omega);rw [Nat.sub_mul];omega
   rw [e,show ∀(a:List Value) b,(a[b]?).getD undef=a.getD b undef from fun a b=>(fW ..).symm];exact hx (r-i) j (by omega) hj
  ·have:¬r*K+j<(i+x.length)*K:=by
    have:(i+x.length)*K≤r*K:=cI _ (by omega);omega
   rw [if_neg h2,if_neg this]
   have e:r*K+j-x.length*K=(r-x.length)*K+j:=by
    have:x.length*K≤r*K:=cI _ (by omega);rw [Nat.sub_mul];omega
   rw [e,show ∀(a:List Value) b,(a[b]?).getD undef=a.getD b undef from fun a b=>(fW ..).symm];exact hl (r-x.length) j (by omega) hj
def ad2 {x:List (List AV)} {i:Nat} (hi:i≤l.length) (hl:∀r,r<l.length→(l.getD r []).length=K) (hx:∀r,r<x.length→(x.getD r []).length=K):∀r,r<(dM l (i:Int) x).length→((dM l (i:Int) x).getD r []).length=K:=by
 intro r hr
 have hlen:(dM l (i:Int) x).length=l.length+x.length:=by simp [dM];omega
 rw [hlen] at hr;rw [VK l x i r hi];by_cases h1:r<i
 ·rw [if_pos h1];exact hl r (by omega)
 ·rw [if_neg h1];by_cases h2:r<i+x.length
  ·rw [if_pos h2];exact hx _ (by omega)
  ·rw [if_neg h2];exact hl _ (by omega)
end
def three {vs:Array Value} {a b c:Value} (hs:vs.size=3) (h0:vs.getD 0 undef=a) (h1:vs.getD 1 undef=b) (h2:vs.getD 2 undef=c):vs=#[a,b,c]:=by
 apply Array.ext
 ·simpa using hs
 ·intro i h3 h4;have h4:i<3:=h4
  have:i=0∨i=1∨i=2:=by omega
  rcases this with rfl|rfl|rfl
  ·simpa [hs] using h0
  ·simpa [hs] using h1
  ·simpa [hs] using h2
def aeo {cur us vs:List Value} {K c i m n:Nat} (hc:cur.length=c*K) (hi:i≤n) (fz:n+m≤c) (hu:us=(cur.drop (i*K)).take ((n-i)*K)) (hv:vs.length=m*K) :
  ∀q,q<(n+m)*K→(lay (lay cur ((i+m)*K) us) (i*K) vs)[q]?=if q<i*K then cur[q]? else if q<(i+m)*K then vs[q-i*K]? else cur[q-m*K]?:=by
 intro q hq
 have e0:i*K+(n-i)*K=n*K:=by rw [←bM,show i+(n-i)=n by omega]
 have e1:(i+m)*K+(n-i)*K=(n+m)*K:=by rw [←bM,show i+m+(n-i)=n+m by omega]
 have e2:(n+m)*K≤c*K:=cI _ fz
 have e3:i*K+m*K=(i+m)*K:=by rw [bM]
 have e4:n*K+m*K=(n+m)*K:=by rw [bM]
 have fj:us.length=(n-i)*K:=by rw [hu];simp;omega
 rw [zC (by rw [mZ (by omega)];omega),zC (by omega)];by_cases h1:q<i*K
 ·have h2:q<(i+m)*K:=by omega
  simp only [h1,h2,if_true]
 ·by_cases h2:q<(i+m)*K
  ·have h3:q<i*K+vs.length:=by omega
   simp only [h1,h2,h3,if_true,if_false]
  ·have h3:¬q<i*K+vs.length:=by omega
   have h4:q<(i+m)*K+us.length:=by omega
   simp only [h1,h2,h3,h4,if_true,if_false];rw [hu,gn,if_pos (by omega),jq];congr 1;omega
def Calls.to {P:Program} {g:FuncId} {vs:Array Value} {w:World} {Q Q':Ending→World→Prop} (h:Calls P g vs w Q) (hq:∀e w',Q e w'→Q' e w'):Calls P g vs w Q':=h.mono hq
set_option maxHeartbeats 2000000 in
def aep {cur us vs r0:List Value} {K G i m n:Nat} (hr:r0.length=G*K) (hi:i≤n) (fz:n+m≤G) (di:n*K≤cur.length) (de:∀q,q<i*K→r0[q]?=cur[q]?) (hu:us=(cur.drop (i*K)).take ((n-i)*K)) (hv:vs.length=m*K) :
  ∀q,q<(n+m)*K→(lay (lay r0 (i*K) vs) ((i+m)*K) us)[q]?=if q<i*K then cur[q]? else if q<(i+m)*K then vs[q-i*K]? else cur[q-m*K]?:=by
 intro q hq
 have e0:i*K+(n-i)*K=n*K:=by rw [←bM,show i+(n-i)=n by omega]
 have e1:(i+m)*K+(n-i)*K=(n+m)*K:=by rw [←bM,show i+m+(n-i)=n+m by omega]
 have e2:(n+m)*K≤G*K:=cI _ fz
 have e3:i*K+m*K=(i+m)*K:=by rw [bM]
 have e4:n*K+m*K=(n+m)*K:=by rw [bM]
 have fj:us.length=(n-i)*K:=by rw [hu];simp;omega
 rw [zC (by rw [mZ (by omega)];omega),zC (by omega)];by_cases h1:q<i*K
 ·have h2:q<(i+m)*K:=by omega
  simp only [h1,h2,if_true];exact de q h1
 ·by_cases h2:q<(i+m)*K
  ·have h3:q<i*K+vs.length:=by omega
   simp only [h1,h2,h3,if_true,if_false]
  ·have h4:q<(i+m)*K+us.length:=by omega
   simp only [h1,h2,h4,if_true,if_false];rw [hu,gn,if_pos (by omega),jq];congr 1;omega
def yq (w:World) (g:Nat) (a:Array Value) {E:Nat} {c:Array Value} (h:w.heap[g]?=some (.cells c E (0,0))):(w.setRow g a).heap[g]?=some (.cells a E (0,0)):=by
 simp [xL,pY,h]
def zY (w:World) (g:Nat) (a:Array Value):(w.setRow g a).heap.size=w.heap.size:=by simp [xL]
def zX (w:World) (g:Nat) (a:Array Value) (b:Nat) (h:b≠g):(w.setRow g a).heap[b]?=w.heap[b]?:=by
 simp [xL,pY,Ne.symm h]
def Jb {P:Program} {ρ:Ren} {i0:TypeInfo} {z:Value} (L:uq P ρ i0 z) {K:Nat} (fO:i0.size=K) (kS:0<i0.bytes) (l x:List (List AV)) (i:Int) (hx:∀r,r∈x→r.length=K)
  (h:(0:Int)≤i∧i≤(l.length:Int)∧0<x.length∧(l.length+x.length)*i0.bytes≤140737488355328) :
  ae P (.f (ρ.f 22)) [.o 1000,vi i,.s x] ⟨aG,[(1000,.own (ρ.t 9) K l)]⟩ fun r s=>r=.o 900∧s.H=[(900,.own (ρ.t 9) K (dM l i x))]:=by
 obtain ⟨nm,dR,hf⟩:=L.f22;refine ⟨⟨_,_,hf,dR,rfl⟩,fun w F β vs hI hs hv=>?_⟩;obtain ⟨rh,sX,hm,uG⟩:=h;obtain ⟨i',rfl⟩:∃i':Nat,i=(i':Int):=⟨i.toNat,by omega⟩
 have sX:i'≤l.length:=by omega
 have Iu:l.length+x.length≤140737488355328:=fo (Nat.le_mul_of_pos_right _ kS) uG;obtain ⟨a,n,c,ai,e0⟩:=(hv 0 (by simp)).jY;have e1:=(hv 1 (by simp)).bK;have h2:=hv 2 (by simp);change Rd w F β (.s x) _ at h2
 have hxK:∀r,r<x.length→(x.getD r []).length=K:=fun r hr=>by
  rw [fW,bF hr];exact hx _ (ek _)
 rcases h2.oR.tJ with ⟨rfl,_,_⟩|⟨vb,vo,vc,K',u,yD,hvc,als,e2,yE,hu⟩
 ·simp at hm
 obtain ⟨news,pF⟩:=Qx (w:=w) (F:=F) (b:=vb) (off:=vo) (u:=u) (show o9 x K from hx) yE hu;have jk:=three hs e0 e1 e2;subst jk
 have kQ:0<K:=by have:=L.k9;omega
 have nP:∀r j,r<x.length→j<K→(news.getD (r*K+j) undef).oneCell'=true∧bh w F ((x.getD r []).getD j .χ) (news.getD (r*K+j) undef):=fun r j hr hj=>by
  have hq:r*K+j<x.length*K:=by
   calc r*K+j<(r+1)*K:=by rw [bM];omega
    _≤_:=cI _ hr
  refine ⟨pF.one _ ?_,pF.rd r j hr hj⟩;rw [fW,bF (by rw [pF.len];exact hq)];exact ek _
 have eP:∀j v,news[j]?=some v→w.cell? ⟨vb,vo+j,none⟩=some v:=fun j v hj=>by
  have:=pF.cell j v hj;rwa [gk] at this
 have fin:∀(w':World) (v:Value),w'.os=w.os→js w w'→w'.output=w.output→w.heap.size≤w'.heap.size→(∀b,b<w.heap.size→¬bD β [(1000,Chunk.own (ρ.t 9) K l)] b→w'.heap[b]?=w.heap[b]?) →
   (∃g cap cur,v=.slice (some ⟨g,0,none⟩) (l.length+x.length) cap∧(w.heap.size≤g∨bD β [(1000,.own (ρ.t 9) K l)] g)∧0<cap∧w'.heap[g]?=some (.cells cur (ρ.t 9) (0,0))∧l.length+x.length≤cap∧cap≤maxLen∧cur.size=cap*K∧(∀r,r<l.length→(l.getD r []).length=K) ∧
    ∀r j,r<(dM l (i':Int) x).length→j<K→(cur.getD (r*K+j) undef).oneCell'=true∧bh w F (((dM l (i':Int) x).getD r []).getD j .χ) (cur.getD (r*K+j) undef)) →
   ∃v',Ending.returned v=.returned v'∧∃r au F' av,(r=AV.o 900∧au.H=[(900,Chunk.own (ρ.t 9) K (dM l (i':Int) x))])∧Rd w' F' av r v'∧Ext w F β ⟨aG,[(1000,.own (ρ.t 9) K l)]⟩ w' F' av au:=by
  rintro w' v h1 h2 h3 h4 h5 ⟨g,cap,cur,rfl,h6,h7,h8,h9,Ir,Is,It,h13⟩
  have hlen:(dM l (i':Int) x).length=l.length+x.length:=by simp [dM];omega
  refine ⟨_,rfl,.o 900,⟨aG,[(900,.own (ρ.t 9) K (dM l (i':Int) x))]⟩,F,_,⟨rfl,rfl⟩,.o ?_,Wt (v:=.slice (some ⟨g,0,none⟩) (l.length+x.length) cap) hI h1 h2 h3 h4 h5 ⟨g,cap,cur,by rw [hlen],h6,h7,h8,by rw [hlen];exact h9,Ir,Is,ad2 sX It hxK,h13⟩⟩;exact if_pos rfl
 have iQ:(1000,Chunk.own (ρ.t 9) K l)∈[(1000,Chunk.own (ρ.t 9) K l)]:=by simp
 rcases hI.holds _ _ iQ with ⟨rfl,a',sO⟩|⟨g,cap,cur,uJ,iP,hg,nL,nG,fZ,uO,IP⟩
 ·-- nothing yet
  rw [ai] at sO;cases sO
  have acS:i'=0:=by simpa using sX
  subst acS;refine Calls.to (VN L K a 0 0 vb vo x.length vc [] news w fO hm (bG _) (by omega) (by simpa using uG) (by simpa using Iu) (by simp) pF.len (fun _=>rfl) (fun _ _ j v hj=>by simp at hj) eP pF.one) ?_;rintro e w' ⟨rfl,rfl⟩;have hG:=grownCap_ge w (0+x.length) 0 (ρ.t 9);refine fin _ _ rfl ⟨rfl,fun _=>j3 _⟩ rfl (by simp [lZ]) (fun b hb _=>?_) ⟨w.heap.size,grownCap w (0+x.length) 0 (ρ.t 9),([]++news).toArray++dI z.cells (grownCap w (0+x.length) 0 (ρ.t 9)-(0+x.length)),by simp,.inl (bG _),by omega,?_,by simpa using hG,grownCap_le_maxLen w _ _ _ (by unfold maxLen;omega),?_,fun r hr=>by simp at hr,fun r j hr hj=>?_⟩
  ·have:b≠w.drew.heap.size:=Ly hb;simp only [lZ,np,if_neg this];rfl
  ·show (w.drew.heap.push _)[w.drew.heap.size]?=_;rw [np,if_pos rfl]
  ·simp only [al_,ue,lC,pF.len];rw [show (dI z.cells (grownCap w (0+x.length) 0 (ρ.t 9)-(0+x.length))).size=(grownCap w (0+x.length) 0 (ρ.t 9)-(0+x.length))*K by simp [dI,L.zs,fO],←bM];congr 1;omega
  ·have cK:r<x.length:=by simpa [dM] using hr
   have hq:r*K+j<news.length:=by
    rw [pF.len]
    calc r*K+j<(r+1)*K:=by rw [bM];omega
     _≤_:=cI _ cK
   have e:(([]++news).toArray++dI z.cells (grownCap w (0+x.length) 0 (ρ.t 9)-(0+x.length))).getD (r*K+j) undef=news.getD (r*K+j) undef:=by
    simp only [al_,lA,pX,lC,hq,if_true,List.getElem?_toArray,fW]
   rw [e];have:=nP r j cK hj;simpa [dM] using this
 ·rw [ai] at uJ;cases uJ;obtain ⟨n,hn⟩:∃n,n=l.length:=⟨_,rfl⟩;obtain ⟨cl,rfl⟩:∃cl:List Value,cur=cl.toArray:=⟨cur.toList,by simp⟩
  have q7:aH c 0=false:=by cases c<;>first|rfl|omega
  have ho:bD β [(1000,Chunk.own (ρ.t 9) K l)] g:=⟨1000,_,iQ,by rw [ai];simp [bP,q7]⟩;have I6:vb≠g:=fun e=>hI.apart g ho (e▸yD);have hU:∀b,¬bD β [(1000,Chunk.own (ρ.t 9) K l)] b→b≠g:=fun b hb e=>hb (e▸ho)
  have di:cl.length=c*K:=by simpa using fZ
  have qm:n*K≤c*K:=cI _ (by omega)
  have Bn:∀r j,r<n→j<K→(cl.getD (r*K+j) undef).oneCell'=true∧bh w F ((l.getD r []).getD j .χ) (cl.getD (r*K+j) undef):=fun r j hr hj=>by
   have:=IP r j (by omega) hj;rwa [vS cl.toArray cl rfl] at this
  have sN:∀q v,q<n*K→cl[q]?=some v→v.oneCell'=true:=fun q v hq jU=>by
   have h3:q/K<n:=(qP kQ).2 hq;have h4:q % K<K:=se _ kQ
   have h5:q/K*K+q % K=q:=by rw [Nat.mul_comm];exact RU q K
   have:=(Bn _ _ h3 h4).1;rw [h5,fW,jU] at this;exact this
  have hQ:∀X:List Value,(∀q,q<(n+x.length)*K→X[q]?=if q<i'*K then cl[q]? else if q<(i'+x.length)*K then news[q-i'*K]? else cl[q-x.length*K]?) →
    ∀r j,r<(dM l (i':Int) x).length→j<K→(X.toArray.getD (r*K+j) undef).oneCell'=true∧bh w F (((dM l (i':Int) x).getD r []).getD j .χ) (X.toArray.getD (r*K+j) undef):=fun X hX r j hr hj=>by
   rw [vS X.toArray X rfl];exact ad3 (Q:=fun a v=>v.oneCell'=true∧bh w F a v) hn (by omega) hX Bn nP r j hr hj
  rw [←hn] at uG Iu sX nL uO fin ⊢
  have gu:c≤9223372036854775807:=by have:=nG;unfold maxLen at this;omega
  have wK:news.length=x.length*K:=pF.len;by_cases kX:i'<n
  ·by_cases fz:n+x.length≤c
   ·refine Calls.to (ad7 L K g c n i' vb vo x.length vc cl news w fO kX hm fz gu I6 hg di wK eP sN pF.one) ?_;rintro e w' ⟨rfl,rfl⟩;refine fin _ _ rfl ⟨rfl,fun _=>j3 _⟩ rfl (by rw [zY,zY];exact bG _) (fun b hb bw=>by rw [zX _ _ _ _ (hU b bw),zX _ _ _ _ (hU b bw)];rfl)
     ⟨g,c,_,rfl,.inr ho,iP,yq _ _ _ (yq _ _ _ (show w.drew.heap[g]?=_ from hg)),fz,nG,?_,uO,hQ _ (aeo di (by omega) fz rfl wK)⟩
    have e1:(i'+x.length)*K+(n-i')*K=(n+x.length)*K:=by rw [←bM,show i'+x.length+(n-i')=n+x.length by omega]
    have e2:(n+x.length)*K≤c*K:=cI _ fz
    have e3:i'*K+x.length*K=(i'+x.length)*K:=by rw [bM]
    have e0:i'*K+(n-i')*K=n*K:=by rw [←bM,show i'+(n-i')=n by omega]
    have fj:((cl.drop (i'*K)).take ((n-i')*K)).length=(n-i')*K:=by simp;omega
    rw [lC,mZ (by rw [mZ (by rw [fj];omega)];omega),mZ (by rw [fj];omega)];exact di
   ·refine Calls.to (ad4 L K g c n i' vb vo x.length vc cl news w fO kX hm (by omega) (by omega) uG Iu hg di wK eP sN pF.one) ?_;rintro e w' ⟨rfl,r0,r1,de,I1,rfl,rfl⟩;have hG:=grownCap_ge w (n+x.length) c (ρ.t 9)
    have eU:(w.alloc (.cells r0.toArray (ρ.t 9))).drew.heap[w.heap.size]?=some (.cells r0.toArray (ρ.t 9) (0,0)):=by
     show (w.heap.push _)[w.heap.size]?=_;rw [np,if_pos rfl]
    refine fin _ _ rfl ⟨rfl,fun _=>fo (j3 _) (j3 _)⟩ rfl ?_ (fun b hb bw=>?_)
     ⟨w.heap.size,grownCap w (n+x.length) c (ρ.t 9),_,rfl,.inl (bG _),by omega,yq _ _ _ (show _=_ from yq _ _ _ eU),hG,grownCap_le_maxLen w _ _ _ (by unfold maxLen;omega),?_,uO,hQ _ (aep de (by omega) hG (by omega) I1 rfl wK)⟩
    ·rw [zY];show w.heap.size≤((w.alloc (.cells r0.toArray (ρ.t 9))).drew.setRow w.heap.size _).heap.size;rw [zY];show w.heap.size≤(w.heap.push _).size;simp
    ·have aQ:b≠w.heap.size:=Ly hb;rw [zX _ _ _ _ aQ];show ((w.alloc (.cells r0.toArray (ρ.t 9))).drew.setRow w.heap.size _).heap[b]?=_;rw [zX _ _ _ _ aQ];show (w.heap.push _)[b]?=_;rw [np,if_neg aQ]
    ·have e1:(i'+x.length)*K+(n-i')*K=(n+x.length)*K:=by rw [←bM,show i'+x.length+(n-i')=n+x.length by omega]
     have e2:(n+x.length)*K≤grownCap w (n+x.length) c (ρ.t 9)*K:=cI _ hG
     have e3:i'*K+x.length*K=(i'+x.length)*K:=by rw [bM]
     have e0:i'*K+(n-i')*K=n*K:=by rw [←bM,show i'+(n-i')=n by omega]
     have fj:((cl.drop (i'*K)).take ((n-i')*K)).length=(n-i')*K:=by simp;omega
     rw [lC,mZ (by rw [mZ (by omega),fj];omega),mZ (by omega)];exact de
  ·have uL:i'=n:=by omega
   subst uL;by_cases fz:i'+x.length≤c
   ·refine Calls.to (ad6 L K g c i' vb vo x.length vc cl news w fO hm fz gu hg di wK eP pF.one) ?_;rintro e w' ⟨rfl,rfl⟩;have e2:(i'+x.length)*K≤c*K:=cI _ fz
    have e3:i'*K+x.length*K=(i'+x.length)*K:=by rw [bM]
    refine fin _ _ rfl ⟨rfl,fun _=>bG _⟩ rfl (by rw [zY];exact bG _) (fun b hb bw=>by rw [zX _ _ _ _ (hU b bw)])
     ⟨g,c,_,rfl,.inr ho,iP,yq _ _ _ hg,fz,nG,by rw [lC,mZ (by omega)];exact di,uO,hQ _ fun q hq=>?_⟩
    rw [zC (by omega)];by_cases h1:q<i'*K
    ·simp only [h1,if_true]
    ·have h2:q<(i'+x.length)*K:=hq
     have h3:q<i'*K+news.length:=by omega
     simp only [h1,h2,h3,if_true,if_false]
   ·have hG:=grownCap_ge w (i'+x.length) c (ρ.t 9);refine Calls.to (VN L K (some ⟨g,0,none⟩) i' c vb vo x.length vc (cl.take (i'*K)) news w fO hm (by omega) (by omega) uG Iu (by simp;omega) wK (fun h=>by cases h) (fun a ha j v hj=>?_) eP pF.one) ?_
    ·cases ha;rw [gn] at hj;split at hj
     ·rw [gk];simp [vM,hg,hj]
     ·cases hj
    ·rintro e w' ⟨rfl,rfl⟩
     have mX:(dI z.cells (grownCap w (i'+x.length) c (ρ.t 9)-(i'+x.length))).size=(grownCap w (i'+x.length) c (ρ.t 9)-(i'+x.length))*K:=by simp [dI,L.zs,fO]
     have e3:i'*K+x.length*K=(i'+x.length)*K:=by rw [bM]
     refine fin _ _ rfl ⟨rfl,fun _=>j3 _⟩ rfl (by simp [lZ]) (fun b hb _=>?_) ⟨w.heap.size,grownCap w (i'+x.length) c (ρ.t 9),(cl.take (i'*K)++news).toArray++dI z.cells (grownCap w (i'+x.length) c (ρ.t 9)-(i'+x.length)),rfl,.inl (bG _),by omega,?_,hG,grownCap_le_maxLen w _ _ _ (by unfold maxLen;omega),?_,uO,fun r j hr hj=>?_⟩
     ·have:b≠w.drew.heap.size:=Ly hb;simp only [lZ,np,if_neg this];rfl
     ·show (w.drew.heap.push _)[w.drew.heap.size]?=_;rw [np,if_pos rfl]
     ·rw [ue,mX,lC,cP,dN,xI (by omega),wK,e3,←bM];congr 1;omega
     ·have hlen:(dM l (i':Int) x).length=i'+x.length:=by simp [dM];omega
      have hq:r*K+j<(i'+x.length)*K:=by
       calc r*K+j<(r+1)*K:=by rw [bM];omega
        _≤_:=cI _ (by omega)
      have jP:(cl.take (i'*K)++news).length=(i'+x.length)*K:=by rw [cP,dN,xI (by omega),wK,e3]
      have e:((cl.take (i'*K)++news).toArray++dI z.cells (grownCap w (i'+x.length) c (ρ.t 9)-(i'+x.length))).getD (r*K+j) undef=(cl.take (i'*K)++news).toArray.getD (r*K+j) undef:=by
       simp only [lA,pX,lC,jP,hq,if_true]
      rw [e];refine hQ (cl.take (i'*K)++news) (fun q hq=>?_) r j hr hj;rw [gK,dN,xI (by omega),gn];by_cases h1:q<i'*K
      ·simp only [h1,if_true]
      ·have h2:q<(i'+x.length)*K:=hq;simp only [h1,h2,if_true,if_false]
def SV (l:List (List AV)) (i j r:Nat) (eT:i≤j) (hj:j≤l.length):(fY l (i:Int) (j:Int)).getD r []=if r<i then l.getD r [] else l.getD (r+(j-i)) []:=by
 simp only [fY,gU,aV,gK,dN,gn,jq,xI (show i≤l.length by omega)];by_cases h1:r<i
 ·simp [h1]
 ·have h3:j+(r-i)=r+(j-i):=by omega
  simp [h1,h3]
set_option maxHeartbeats 2000000 in
def HP {P:Program} {ρ:Ren} {i0:TypeInfo} {z:Value} (L:AD P ρ i0 z) {K:Nat} (fO:i0.size=K) (l:List (List AV)) (i j:Int) (h:(0:Int)≤i∧i<j∧j≤(l.length:Int)) :
  ae P (.f (ρ.f 45)) [.o 1000,vi i,vi j] ⟨aG,[(1000,.own (ρ.t 23) K l)]⟩ fun r s=>r=.o 900∧s.H=[(900,.own (ρ.t 23) K (fY l i j))]:=by
 obtain ⟨nm,dR,hf⟩:=L.f45;refine ⟨⟨_,_,hf,dR,rfl⟩,fun w F β vs hI hs hv=>?_⟩;obtain ⟨rh,eT,sY⟩:=h;obtain ⟨i',rfl⟩:∃i':Nat,i=(i':Int):=⟨i.toNat,by omega⟩;obtain ⟨j',rfl⟩:∃j':Nat,j=(j':Int):=⟨j.toNat,by omega⟩
 have eT:i'<j':=by omega
 have sY:j'≤l.length:=by omega
 obtain ⟨a,n,c,ai,e0⟩:=(hv 0 (by simp)).jY;have e1:=(hv 1 (by simp)).bK;have e2:=(hv 2 (by simp)).bK;have jk:=three hs e0 e1 e2;subst jk
 have kQ:0<K:=by have:=L.s_;omega
 have iQ:(1000,Chunk.own (ρ.t 23) K l)∈[(1000,Chunk.own (ρ.t 23) K l)]:=by simp
 rcases hI.holds _ _ iQ with ⟨rfl,a',sO⟩|⟨g,cap,cur,uJ,iP,hg,nL,nG,fZ,uO,IP⟩
 ·simp at sY;omega
 ·rw [ai] at uJ;cases uJ;obtain ⟨n,hn⟩:∃n,n=l.length:=⟨_,rfl⟩;obtain ⟨cl,rfl⟩:∃cl:List Value,cur=cl.toArray:=⟨cur.toList,by simp⟩
  have q7:aH c 0=false:=by cases c<;>first|rfl|omega
  have ho:bD β [(1000,Chunk.own (ρ.t 23) K l)] g:=⟨1000,_,iQ,by rw [ai];simp [bP,q7]⟩;have hU:∀b,¬bD β [(1000,Chunk.own (ρ.t 23) K l)] b→b≠g:=fun b hb e=>hb (e▸ho)
  have di:cl.length=c*K:=by simpa using fZ
  have qm:n*K≤c*K:=cI _ (by omega)
  have Bn:∀r q,r<n→q<K→(cl.getD (r*K+q) undef).oneCell'=true∧bh w F ((l.getD r []).getD q .χ) (cl.getD (r*K+q) undef):=fun r q hr hq=>by
   have:=IP r q (by omega) hq;rwa [vS cl.toArray cl rfl] at this
  have sN:∀q v,q<n*K→cl[q]?=some v→v.oneCell'=true:=fun q v hq jU=>by
   have h3:q/K<n:=(qP kQ).2 hq;have h4:q % K<K:=se _ kQ
   have h5:q/K*K+q % K=q:=by rw [Nat.mul_comm];exact RU q K
   have:=(Bn _ _ h3 h4).1;rw [h5,fW,jU] at this;exact this
  rw [←hn] at sY nL uO ⊢
  have gu:c≤9223372036854775807:=by have:=nG;unfold maxLen at this;omega
  refine Calls.to (aa8 L K g c n i' j' cl w fO eT sY nL gu hg di sN) ?_;rintro e w' ⟨rfl,zs,mX,rfl⟩
  have hlen:(fY l (i':Int) (j':Int)).length=i'+(n-j'):=by simp [fY];omega
  have e0:j'*K+(n-j')*K=n*K:=by rw [←bM,show j'+(n-j')=n by omega]
  have e1:i'*K+(n-j')*K=(i'+(n-j'))*K:=by rw [bM]
  have e2:(i'+(n-j'))*K+(j'-i')*K=n*K:=by rw [←bM,show i'+(n-j')+(j'-i')=n by omega]
  have e4:i'*K+(j'-i')*K=j'*K:=by rw [←bM,show i'+(j'-i')=j' by omega]
  have fj:((cl.drop (j'*K)).take ((n-j')*K)).length=(n-j')*K:=by simp;omega
  refine ⟨_,rfl,.o 900,⟨aG,[(900,.own (ρ.t 23) K (fY l (i':Int) (j':Int)))]⟩,F,_,⟨rfl,rfl⟩,.o (if_pos rfl),Wt (v:=.slice (some ⟨g,0,none⟩) (i'+(n-j')) c) hI rfl ⟨rfl,fun _=>j3 _⟩ rfl (by rw [zY,zY];exact bG _) (fun b hb bw=>by rw [zX _ _ _ _ (hU b bw),zX _ _ _ _ (hU b bw)];rfl)
   ⟨g,c,_,by rw [hlen],.inr ho,iP,yq _ _ _ (yq _ _ _ (show w.drew.heap[g]?=_ from hg)),by rw [hlen];omega,nG,?_,fun r hr=>?_,fun r q hr hq=>?_⟩⟩
  ·rw [lC,mZ (by rw [mZ (by omega)];omega),mZ (by omega)];exact di
  ·rw [hlen] at hr;rw [SV l i' j' r (by omega) (by omega)];split
   ·exact uO r (by omega)
   ·exact uO _ (by omega)
  ·rw [hlen] at hr;rw [vS _ _ rfl,SV l i' j' r (by omega) (by omega)]
   have hqr:r*K+q<(i'+(n-j'))*K:=by
    calc r*K+q<(r+1)*K:=by rw [bM];omega
     _≤_:=cI _ hr
   rw [show ∀X:List Value,X.getD (r*K+q) undef=(X[r*K+q]?).getD undef from fun X=>fW ..,zC (by rw [mZ (by omega)];omega),if_pos hqr,zC (by omega)];by_cases h1:r<i'
   ·have h2:r*K+q<i'*K:=by
     calc r*K+q<(r+1)*K:=by rw [bM];omega
      _≤_:=cI _ h1
    rw [if_pos h1,if_pos h2,show ∀(a:List Value) b,(a[b]?).getD undef=a.getD b undef from fun a b=>(fW ..).symm];exact Bn r q (by omega) hq
   ·have h2:¬r*K+q<i'*K:=by
     have:i'*K≤r*K:=cI _ (by omega);omega
    have h3:r*K+q<i'*K+((cl.drop (j'*K)).take ((n-j')*K)).length:=by omega
    have h4:j'*K+(r*K+q-i'*K)=(r+(j'-i'))*K+q:=by
     have:i'*K≤r*K:=cI _ (by omega);rw [bM];omega
    rw [if_neg h1,if_neg h2,if_pos h3,gn,if_pos (by omega),jq,h4,show ∀(a:List Value) b,(a[b]?).getD undef=a.getD b undef from fun a b=>(fW ..).symm];exact Bn (r+(j'-i')) q (by omega) hq
end
section
open Go.RowKit
section
variable [M:cM] [G:dX] [R:eE]
variable {P:Program} {n:Nat} {st:ah} {Q:Exit→ah→Prop} {T:TT}
def ct {x y:Code} {ρ:Type} {X Y:Option ρ} {r:ρ} {d:Nat} {b:Bool} (h:(if b=true then X else Y)=some r) (yes:b=true→X=some r→Ok P n x st Q) (no:b=false→Y=some r→Ok P n y st Q) (hb:st.f d=.v (.bool b):=by exact rfl):Ok P n (.cond (.tmp d) x y) st Q:=cn d b hb h yes no
def pq {g:Nat} {fn:Func} {args:List AV} {r:AV} (hT:bL P T) (n:Nat) (dK:P.funcs[g]?=some fn)
  (h : Ok P n (fn.body.getD .skip) ⟨lg args, []⟩ (sK T fn.results.toList fun x st => Fz st.H x r)) (dR : (fn.name == "runtime.NumGoroutine") = false := by kernel_rfl) (hb : fn.body = some (fn.body.getD .skip) := by exact rfl) (hn : fn.ntmps = n := by exact rfl) (hle : p4 args.length n = true := by exact rfl) : Pure P g args r := po hT n dK dR hb hn hle h
def pv {g E K:Nat} {fn:Func} {args:List AV} {rows:List (List AV)} (hT:bL P T) (n:Nat) (dK:P.funcs[g]?=some fn)
  (h : Ok P n (fn.body.getD .skip) ⟨lg args, []⟩ (sK T fn.results.toList (LN E K rows))) (dR : (fn.name == "runtime.NumGoroutine") = false := by kernel_rfl) (hb : fn.body = some (fn.body.getD .skip) := by exact rfl) (hn : fn.ntmps = n := by exact rfl) (hle : p4 args.length n = true := by exact rfl) : iN P g args E K rows := pw hT n dK dR hb hn hle h
def px {E:TypeId} {g:Nat} {fn:Func} {args:List AV} {H0:Hp} {ρ:Type} {q:Int⊕ρ} {r:ρ→AV} {H1:ρ→Hp} (hT:bL P T) (n:Nat) (dK:P.funcs[g]?=some fn)
  (h : Ok P n (fn.body.getD .skip) ⟨lg args, H0⟩ (MC T E fn.results.toList (fun x s => ∃ y, q = .inr y ∧ Wk ⟨dZ aG 0 x, s.H⟩ ⟨aq [(0, r y)], H1 y⟩) fun m => q = .inl m)) (dR : (fn.name == "runtime.NumGoroutine") = false := by kernel_rfl) (hb : fn.body = some (fn.body.getD .skip) := by exact rfl) (hn : fn.ntmps = n := by exact rfl) (hle : p4 args.length n = true := by exact rfl) :
  fM P E g args ⟨aG,H0⟩ (fun x s=>∃y,q=.inr y∧x=r y∧s.H=H1 y) fun m s=>q=.inl m∧s.H=[]:=agz hT dK dR hb hn (Aw hle) h
def pg {g:Nat} {fn:Func} {args:List AV} {H0 H1:Hp} {r:AV} (hT:bL P T) (n:Nat) (dK:P.funcs[g]?=some fn)
  (h : Ok P n (fn.body.getD .skip) ⟨lg args, H0⟩ (sK T fn.results.toList fun x s => Wk ⟨dZ aG 0 x, s.H⟩ ⟨aq [(0, r)], H1⟩)) (dR : (fn.name == "runtime.NumGoroutine") = false := by kernel_rfl) (hb : fn.body = some (fn.body.getD .skip) := by exact rfl) (hn : fn.ntmps = n := by exact rfl) (hle : p4 args.length n = true := by exact rfl) : ae P g args ⟨aG, H0⟩ fun x s => x = r ∧ s.H = H1 := agA hT dK dR hb hn (Aw hle) h
def cg {g:Tg} {xs ys:List AV} {st:ah} {H0 H1:Hp} {r:AV} {k:AV→ah→Prop} (m n:List (Nat×Nat)) (h:ae P g ys ⟨aG,H0⟩ fun x s=>x=r∧s.H=H1)
  (hx:i_ m xs ys) (hH:vQ m st.H H0) (hk:k (rl (cX (kq m n)) 3 r) ⟨fun t=>uA n (st.f t),ia (cX (kq m n)) H1++kr m n st.H⟩)
  (kY:jm H0=true:=by exact rfl) (ht:Cz m n=true:=by exact rfl) (fR:jm (ia (cX (kq m n)) H1++kr m n st.H)=true:=by exact rfl):ae P g xs st k:=ae.gen h hx hH kY ht fR hk
def cx {E:TypeId} {g:FuncId} {xs ys:List AV} {st:ah} {H0:Hp} {ρ:Type} {q:Int⊕ρ} {r:ρ→AV} {H1:ρ→Hp} {k:AV→ah→Prop} {kx:Int→ah→Prop} (m n:List (Nat×Nat)) (h:fM P E g ys ⟨aG,H0⟩ (fun x s=>∃y,q=.inr y∧x=r y∧s.H=H1 y) fun m s=>q=.inl m∧s.H=[])
  (hx:i_ m xs ys) (hH:vQ m st.H H0)
  (hp:∀e,q=.inl e→kx e ⟨fun t=>uA n (st.f t),kr m n st.H⟩)
  (hk:∀y,q=.inr y→k (rl (cX (kq m n)) 3 (r y)) ⟨fun t=>uA n (st.f t),ia (cX (kq m n)) (H1 y)++kr m n st.H⟩)
  (kY:jm H0=true:=by exact rfl) (ht:Cz m n=true:=by exact rfl) (fR:∀y,jm (ia (cX (kq m n)) (H1 y)++kr m n st.H)=true:=by exact fun _=>rfl) (fx:jm (kr m n st.H)=true:=by exact rfl):fM P E g xs st k kx:=fM.gen h hx hH kY ht fR fx hp hk
end
section
variable [M:cM] [G:dX] {H:Hp}
def Tx:∀{xs:List AV},xs.all kg=true→oq H xs xs
 |[],_=>.nil
 |x::xs,h=>by
  rw [List.all_cons,bJ] at h;exact .cons (Fz.dL h.1) (Tx h.2)
def fq {xs:List AV} (h:xs.all kg=true:=by rfl):oq H xs xs:=Tx h
end
section
variable [M:cM] [G:dX] [R:eE]
local instance alD:sl:=⟨[]⟩
local instance alA:nv:=⟨[]⟩
variable {P:Program} {n:Nat} {st:ah} {Q:Exit→ah→Prop} {T:TT}
def dw {id:Nat} {ops:Array Oper} (m:Nat) (hT:bL P T) (hm:P.follows .mixedOrders=true)
  (h:rX P T n ops (steady m ops) ⟨preB (eB m ops) (jy (eB m ops) st).f,(jy (eB m ops) st).H⟩ fun st1=>tp P st1.f (ops.toList.take m)∧qU T n (eB m ops) st1 fun st2=>iW P T n ops (ops.toList.drop m) st2 (Q .normal)) (qi:DD m ops=true:=by kernel_rfl):Ok P n (.region id ops true) st Q:=Ok.draw hT hm qi h
end
end
end Go.Cat
