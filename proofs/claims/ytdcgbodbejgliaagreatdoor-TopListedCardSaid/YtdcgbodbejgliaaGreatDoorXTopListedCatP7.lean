/- The logic that the walks are in, piece P7. No condition. -/
import Derived.Test.YtdcgbodbejgliaaGreatDoorXTopListedCatP6
import Derived.RecoverIn
import Derived.Shelf.Spec.SlicesInsertGrow
import Derived.Shelf.SlLaysE
import Derived.Lib.SlicesDelete
import Derived.Deep.RegionLaw
import Derived.Laws.CopyRow
import Derived.KernelRfl
open Array renaming getElem?_eq_getElem → fL, getElem?_eq_some_iff → j4, getD_eq_getD_getElem? → j3, length_toList → kE, getElem?_push → lN, getElem?_modify → oa, replicate → mw, getElem?_append → n_, size_append → qS
open Bool renaming and_eq_true → bM, or_eq_true → qT
open ByteArray renaming mk → iX
open Classical renaming byContradiction → uj
open Go renaming sizeOf → pW
open Go.Act renaming put → hJ, eval → wW
open Go.Addr renaming add_lit → fC
open Go.Builtin renaming zeroCells → de, append_ → gB, copy_ → oT, firstCells → ui, clear_ → rY
open Go.Deferred renaming ofValue → kW
open Go.Extern.SlicesOverlaps renaming overlaps → pV
open Go.Fence renaming wide → fD
open Go.Instr renaming makeInterface → VW
open Go.IntKind renaming i64 → G3, wrap_i64 → VZ
open Go.Lib renaming wpList_append_run → G4
open Go.Oper renaming uponIn_value → uv, uponIn_enter → xc, uponIn_panic → Wf
open Go.Region renaming wanted → dA, binds → i_, ready → kK
open Go.Region.linearise renaming go → Hb
open Go.Src renaming ofSlice → N7
open Go.TypeDesc renaming tuple → Wm, slice → Wl, bool → Wi, int → Wj
open Go.Value renaming slice → OM, bool → zK
open Go.World renaming putObj_size → ju, putObj_heap_other → oi, alloc → kL, cell? → sf, setRow → uw, frozen? → ahy
open Int renaming toNat_natCast → jH
open List renaming getElem?_eq_getElem → bO, mem_cons_of_mem → cu, mem_cons → bp, getD → aY, length_append → cZ, getD_eq_getElem?_getD → fk, length_take → da, getElem?_eq_some_iff → fX, mem_singleton → dV, all_eq_true → dJ, getElem?_take → fo, not_mem_nil → eI, getElem?_append → fW, getElem_mem → eH, getElem?_drop → gJ, nodup_cons → gK, mem_append → iY, size_toArray → j6, mem_filterMap → kX, mem_range → kY, nil_append → w_, nodup_nil → oY, eq_nil_iff_forall_not_mem → w7, append_assoc → oV, mem_append_right → zA, getElem_of_mem → Ot, filterMap_cons → On
open Nat renaming mul_le_mul_right → bT, beq → aG, le_refl → bm, add_mul → bD, le_trans → dN, blt_eq → fY, le_succ → jt, lt_of_lt_of_le → mJ, add_zero → kJ, min_eq_left → ur, div_lt_iff_lt_mul → xa, le_of_ble_eq_true → xb, strongRecOn → qV, ble → og, min → oh, mod_lt → p6, div_add_mod → OE, ne_of_lt → G_, mul_pos → OH
open Option renaming bind_some → aX
open Prod.mk renaming injEq → gC
namespace Go.Cat
set_option linter.all false
section
open Go.RowKit
variable [M:bU] [G:dC] [R:dW]
abbrev iU (E:TypeId) (n:Int):List PanicEntry:=[{ v:=.iface E (.int .i64 n),recovered:=false }]
def j8 (P:Program) (E:TypeId) (g:FuncId) (args:List AV) (st:ai) (k:AV→ai→Prop) (kx:Int→ai→Prop):Prop :=
 oj P g∧∀(w:World) (F:Nat→Prop) (β:Nat→Value) (vs:Array Value),Inv w F β st.H→vs.size=args.length →
  (∀i,i<args.length→Rd w F β (args.getD i .χ) (vs.getD i undef)) →
  Calls P g vs w fun e w'=>(∃v,e=.returned v∧∃r av F' aw,k r av∧Rd w' F' aw r v∧Ext w F β st w' F' aw av) ∨
   ∃n,e=.panicked (iU E n)∧∃av F' aw,kx n av∧Ext w F β st w' F' aw av
def H6 (P:Program) (E:TypeId) (f:AV) (xs:List AV) (st:ai) (k:AV→ai→Prop) (kx:Int→ai→Prop):Prop :=
 match f with
 |.c (.func g) fs cs=>j8 P E g (fs++(xs++cs)) st k kx
 |_=>False
def tW (P:Program) (T:TT) (E:TypeId) (o:Oper) (st:ai) (k:AV→ai→Prop) (kx:Int→ai→Prop):Prop :=
 match o.op with
 |.call c=>match c.callee with
  |.value f=>H6 P E (ev st.f f) (c.args.toList.map (ev st.f)) st k kx
  |_=>False
 |.makeInterface t x=>match ev st.f x,T t with
  |.v (.int .i64 n),some i=>match i.kind with
   |.int .i64=>k (.v (.iface t (.int .i64 n))) st
   |_=>False
  |_,_=>False
 |.panic x=>match ev st.f x with
  |.v (.iface t (.int .i64 n))=>t=E∧kx n st
  |_=>False
 |_=>False
def Gl (P:Program) (T:TT) (E:TypeId) (o:Oper) (st:ai) (k:AV→ai→Prop) (kx:Int→ai→Prop):Prop :=
 step P T o st k∨tW P T E o st k kx
def CB (P:Program) (T:TT) (E:TypeId) (n:Nat) (all:Array Oper):List Oper→ai→(ai→Prop)→(Int→ai→Prop)→Prop
 |[],st,K,_=>K st
 |o::os,st,K,KX=>gd n all o st (fun st=>Gl P T E o st (fun r av=>put n o.dst av r fun gk=>CB P T E n all os gk K KX) KX) fun st=>put n o.dst st (.v undef) fun av=>CB P T E n all os av K KX
section
variable {P:Program} {T:TT} {E:TypeId} {C:Ctx} {w:World} {F:Nat→Prop} {β:Nat→Value}
def OQ (P:Program) (E:TypeId) (s:Sem Next) (w:World) (F:Nat→Prop) (β:Nat→Value) (st:ai) (k:AV→ai→Prop) (kx:Int→ai→Prop):Prop :=
 (∃v w',s.run P w=.ok (.value v) w'∧EPost w F β st k v w')∨(∃n,s.run P w=.halt (.panic (.iface E (.int .i64 n))) w∧kx n st) ∨
 (∃g vs,s.run P w=.ok (.enter g vs) w∧Calls P g vs w fun e w'=>(∃v,e=.returned v∧EPost w F β st k v w')∨∃n,e=.panicked (iU E n)∧∃av F' aw,kx n av∧Ext w F β st w' F' aw av)
def WC {f:Nat→AV} {a:Act} (hf:∀t,Rd w F β (f t) (a.tmps.getD t undef)) (args:Array Operand):∀i,i<(args.toList.map (ev f)).length→Rd w F β ((args.toList.map (ev f)).getD i .χ) ((args.map a.eval).getD i undef):=by
 intro i hi
 have hi:i<args.size:=by simpa using hi
 have:=xx hf args[i];simpa [aY,hi] using this
def ad3 {o:Oper} {a:Act} {st:ai} {k:AV→ai→Prop} {kx:Int→ai→Prop} (hT:bB P T) (hI:Inv w F β st.H) (hf:∀t,Rd w F β (st.f t) (a.tmps.getD t undef)) (h:tW P T E o st k kx):OQ P E (execOp a.eval o) w F β st k kx:=by
 obtain ⟨dst,op,type,pos,after,guard⟩:=o
 cases op<;>simp only [tW] at h<;>first|exact h.elim|skip
 case call c =>
  obtain ⟨callee,args,argTypes⟩:=c
  cases callee<;>simp only at h<;>first|exact h.elim|skip
  rename_i f;unfold H6 at h;split at h
  ·rename_i g fs cs ko;have qv:=xx hf f;rw [ko] at qv;obtain ⟨us,ws,Jj,hs,dL,hu,hw⟩:=qv.lT;obtain ⟨⟨fn,code,dj,dg,hb⟩,h⟩:=h
   have pF : ¬ fn.name = "runtime.NumGoroutine" := by simpa using dg
   refine .inr (.inr ⟨g,us++args.map a.eval++ws,?_,?_⟩)
   ·have e:execOp a.eval { dst,op:=.call { callee:=.value f,args,argTypes },type,pos,after,guard }=(do let d ←kW (a.eval f) (args.map a.eval);invoke d.target d.args):=rfl;rw [e,Jj];simp [kW,invoke,callFunc,dj,pF,hb]
   ·have hl:(args.map a.eval).size=(args.toList.map (ev st.f)).length:=by simp
    exact h w F β _ hI (by simp [hs,dL]) (Db hs hl dL hu (WC hf args) hw)
  ·exact h.elim
 case makeInterface t x =>
  split at h
  ·rename_i n i hx hi;split at h
   ·rename_i hk;have ni:=xx hf x;rw [hx] at ni;refine .inl ⟨.iface t (.int .i64 n),w,?_,?_⟩
    ·simp only [execOp];rw [ni.bA];have:=(hT _ _ hi).int hk;simp [VW,run_underlying this]
    ·exact ⟨_,st,F,β,h,.i (.v (.inl rfl)),Ext.refl hI⟩
   ·exact h.elim
  ·exact h.elim
 case panic x =>
  split at h
  ·rename_i t n hx;obtain ⟨rfl,h⟩:=h;have ni:=xx hf x;rw [hx] at ni;refine .inr (.inl ⟨n,?_,h⟩);simp only [execOp];rw [ni.bA];simp [run_panic_iface]
  ·exact h.elim
def UE {o:Oper} {st:ai} {k:AV→ai→Prop} {kx:Int→ai→Prop} (h:tW P T E o st k kx):∀c,o.op≠.defer c:=fun c e=>by
 unfold tW at h;rw [e] at h;exact h
def agt {n:Nat} {all:Array Oper} {o:Oper} {i:Nat} {st:ai} {K:ai→Prop} {KX:Int→ai→Prop} {a:Act} {w:World} {Q:Exit→Act→World→Prop} {N:Act→World→Prop} (hT:bB P T) (hn:C.n=n) (ho:all[i]?=some o) (hr:Rel C st a w)
  (hN:∀st a w,Rel C st a w→K st→N a w) (hQ:∀m st a w,Rel C st a w→KX m st→Q (.panic (iU E m)) a w)
  (h:gd n all o st (fun st=>Gl P T E o st (fun r av=>put n o.dst av r K) KX) fun st=>put n o.dst st (.v undef) K):wpOpIn (fa C.ro) 0 P all Q i N a w:=by
 obtain ⟨F,β,hs,hd,hf,he⟩:=hr
 have run:∀st:ai,(∀t,Rd w F β (st.f t) (a.tmps.getD t undef))→XM C a.defers w F β st.H→(tW P T E o st (fun r av=>put n o.dst av r K) KX)→o.wpIn (fa C.ro) 0 P a w N Q:=by
  intro st hf he h;have cX:=UE h
  rcases ad3 hT he.inv hf h with ⟨v,w',bc,r,av,F',aw,hk,hv,hx⟩|⟨m,bc,hk⟩|⟨g,vs,bc,hc⟩
  ·refine Oper.jC cX bc ?_;rw [uv];obtain ⟨gk,h1,h2⟩:=wa hn hs hd (fun t=>hx.keep t _ (hf t)) (he.trans (hx.rR aM)) hv hk;exact hN _ _ _ h1 h2
  ·refine Oper.jC cX bc ?_;rw [Wf];exact hQ m st a w ⟨F,β,hs,hd,hf,he⟩ hk
  ·refine Oper.jC cX bc ?_;rw [xc];refine ⟨fun h=>(by cases h),sC (hc.mono ?_)⟩;rintro e w' (⟨v,rfl,r,av,F',aw,hk,hv,hx⟩|⟨m,rfl,av,F',aw,hk,hx⟩)
   ·obtain ⟨gk,h1,h2⟩:=wa hn hs hd (fun t=>hx.keep t _ (hf t)) (he.trans (hx.rR aM)) hv hk;exact hN _ _ _ h1 h2
   ·exact hQ m av a w' ⟨F',aw,hs,hd,fun t=>hx.keep t _ (hf t),he.trans (hx.rR aM)⟩ hk
 by_cases hg:o.guard=none
 ·rw [qm,hg] at h;simp only at h
  rcases h with h|h
  ·refine rW (K:=K) hT hn ho ⟨F,β,hs,hd,hf,he⟩ hN ?_;rw [qm,hg];exact h
  ·unfold wpOpIn;simp only [ho]
   have hw:dA o (yielded all a.tmps)=true:=by simp [dA,hg]
   rw [if_pos hw];exact run st hf he h
 ·obtain ⟨⟨j,want⟩,hg⟩:=Option.ne_none_iff_exists'.1 hg;have h0:=h;rw [qm,hg] at h;simp only at h;split at h
  ·rename_i d l6;obtain ⟨D1,h⟩:=cond_prop h
   have Ξ:d<a.tmps.size:=by rw [hs,hn];simpa [fY] using D1
   have fF:=hf d;split at h
   ·rename_i b hb;rw [hb] at fF;have hv:=fF.bA
    have gy:yielded all a.tmps j=some b:=by
     have h2:a.tmps[d]?=some (.bool b):=by rw [←hv];simp [Ξ]
     unfold yielded;rw [l6,aX,h2]
    by_cases iR:b=want
    ·have hy:=h.y iR
     rcases hy with hy|hy
     ·refine rW (K:=K) (st:=⟨dF st.f d (.v (.bool want)),st.H⟩) hT hn ho ⟨F,β,hs,hd,zp hf hb iR,he⟩ hN ?_;rw [qm,hg];simp only [l6,D1,cond_true,dF,Nat.beq_refl];refine Br.yes rfl ?_
      have e:dF (dF st.f d (.v (.bool want))) d (.v (.bool want))=dF st.f d (.v (.bool want)):=by
       funext t;simp only [dF];cases aG t d<;>rfl
      show step P T o ⟨dF (dF st.f d (.v (.bool want))) d (.v (.bool want)),st.H⟩ _;rw [e];exact hy
     ·unfold wpOpIn;simp only [ho]
      have hw:dA o (yielded all a.tmps)=true:=by simp [dA,hg,gy,iR]
      rw [if_pos hw];exact run ⟨dF st.f d (.v (.bool want)),st.H⟩ (zp hf hb iR) he hy
    ·have oA:b=!want:=by cases b<;>cases want<;>first|rfl|exact absurd rfl iR
     refine rW (K:=K) hT hn ho ⟨F,β,hs,hd,hf,he⟩ hN ?_;rw [qm,hg];simp only [l6,D1,cond_true,hb];exact Br.no oA (h.n oA)
   ·rename_i vs hb;refine rW (K:=K) hT hn ho ⟨F,β,hs,hd,hf,he⟩ hN ?_;rw [qm,hg];simp only [l6,D1,cond_true,hb];exact h
   ·exact h.elim
  ·exact h.elim
def agu {n:Nat} {all:Array Oper} {K:ai→Prop} {KX:Int→ai→Prop} {Q:Exit→Act→World→Prop} (hT:bB P T) (hn:C.n=n) (hQ:∀st a w,Rel C st a w→K st→Q .normal a w) (hX:∀m st a w,Rel C st a w→KX m st→Q (.panic (iU E m)) a w) :
  ∀(l:List Oper) (i:Nat) (st:ai) (a:Act) (w:World),(∀k,k<l.length→all[i+k]?=l[k]?)→Rel C st a w→CB P T E n all l st K KX→wpOpsIn (fa C.ro) 0 P all Q (List.range' i l.length) a w:=by
 intro l;induction l with
 |nil=>intro i st a w _ hr h;exact hQ _ _ _ hr h
 |cons o os ih =>
  intro i st a w dv hr h
  have ho:all[i]?=some o:=by simpa using dv 0 (by simp)
  rw [List.length_cons,List.range'_succ,wpOpsIn_cons];refine agt (K:=fun st=>CB P T E n all os st K KX) (KX:=KX) hT hn ho hr (fun st a w hr hk=>?_) hX h;exact ih (i+1) st a w (fun k hk=>by have:=dv (k+1) (by simp;omega);rw [show i+1+k=i+(k+1) by omega];simpa using this) hr hk
def Ok.jq {n id:Nat} {ops:Array Oper} {st:ai} {Q:Exit→ai→Prop} (E:TypeId) (hT:bB P T) (h:CB P T E n ops ops.toList st (Q .normal) fun m av=>Q (.panic (iU E m)) av):Ok P n (.region id ops false) st Q :=
 ⟨fun C hn a w hr=>by
  refine wpIn_region ?_;have:=agu (C:=C) (Q:=fun e a' w'=>∃av,Rel C av a' w'∧Q e av) hT hn (fun st a w hr hk=>⟨st,hr,hk⟩) (fun m st a w hr hk=>⟨st,hr,hk⟩) ops.toList 0 st a w (fun k hk=>by simp) hr h
  simpa [List.range_eq_range'] using this⟩
def Im (T:TT) (E:TypeId) (rs:List ResultVar) (R:AV→ai→Prop) (RX:Int→Prop):Exit→ai→Prop
 |.normal,st=>oP T rs st fun x=>R x st
 |.ret,st=>oP T rs st fun x=>R x st
 |.panic l,_=>∃m,l=iU E m∧RX m
 |_,_=>False
def Sf {C:Ctx} {fn:Func} {tmps:Array Value} {RR:Ending→World→Prop} {F:Nat→Prop} {β:Nat→Value} {H:Hp} {u:FrameMode} (hu:u≠.run) (nK:C.dl=[]):∀(ds:List Deferred) (w:World),XM C ds w F β H →
  (∀w',XM C [] w' F β H→(∀x u,Rd w F β x u→Rd w' F β x u)→LeavesIn fD 0 P fn tmps RR [] u w')→LeavesInM fD 0 P fn tmps RR ds u w
 |[],w,h,hk=>hk w h fun _ _ hr=>hr
 |d::ds,w,h,hk=>by
  have jj:∀l,C.ms l=l:=fun l=>Ctx.Sr nK;obtain ⟨D,h1,h2,h3,h4,h5⟩:=h.m d (by rw [jj];simp);have cX:=h.nd;rw [jj] at cX;have Ξ:=jM h3;have mZ:∀b,b≠D→(w.putObj D (.deferred none)).heap[b]?=w.heap[b]?:=fun b hb=>oi hb;have ha:fy F w (w.putObj D (.deferred none)):=fun b hb=>mZ b fun e=>h4 (e▸hb);have hI:=h.inv;refine ⟨hu,.inl ⟨D,_,by rw [h1],run_takeDeferred h3,?_⟩⟩;have lY:Inv (w.putObj D (.deferred none)) F β H:=⟨fun b hb=>by rw [ju];exact hI.bW b hb,fun i c hm=>nQ ha (fun _ h=>h) (fun b hb=>mZ b fun e=>h5 (e▸⟨i,c,hm,hb⟩)) (hI.holds i c hm),hI.keys,hI.apart,hI.dR,hI.eN.at ha⟩;have hx:=h.x;refine Sf hu nK ds _ ⟨⟨hx.os,hx.tape,hx.output,by rw [ju];exact hx.size,fun b hb hn=>(mZ b (by omega)).trans (hx.block b hb hn),hx.mono,hx.new,hx.owned,fun _ _ _=>.χ,lY,hx.fH⟩,fun d' bz=>?_,by rw [jj];exact (gK.1 cX).2,⟨ds,by rw [nK];simp⟩⟩ fun w' nf cj=>hk w' nf fun x u hr=>cj x u (hr.frame ha fun _ h=>h);rw [jj] at bz;obtain ⟨D',g1,g2,g3,g4,g5⟩:=h.m d' (by rw [jj];simp [bz]);exact ⟨D',g1,g2,(mZ D' fun e=>(gK.1 cX).1 (by rw [h1,←e,←g1];exact bz)).trans g3,g4,g5⟩
def Ext.forget {w0:World} {F0:Nat→Prop} {nt:Nat→Value} {nr st:ai} (h:Ext w0 F0 nt nr w F β st):Ext w0 F0 nt nr w F β ⟨aM,[]⟩ :=
 ⟨h.os,h.tape,h.output,h.size,h.block,h.mono,h.new,fun _ ⟨_,_,hm,_⟩=>(eI hm).elim,fun _ _ _=>.χ,h.inv.nil,h.fH⟩
def WZ {g n:Nat} {fn:Func} {c:Code} {args:List AV} {H:Hp} {R0:AV→ai→Prop} {RX:Int→Prop} (hT:bB P T) (dj:P.funcs[g]?=some fn) (hb:fn.body=some c) (hn:fn.ntmps=n) (hle:args.length≤n)
  (h:Ok P n c ⟨jZ args,H⟩ (Im T E fn.results.toList R0 RX)) {vs:Array Value} (hI:Inv w F β H) (hs:vs.size=args.length) (hv:∀i,i<args.length→Rd w F β (args.getD i .χ) (vs.getD i undef)) :
  Calls P g vs w fun e w'=>(∃v,e=.returned v∧∃x st F' aw,R0 x st∧Rd w' F' aw x v∧Ext w F β ⟨aM,H⟩ w' F' aw ⟨aM,st.H⟩) ∨
   ∃m,e=.panicked (iU E m)∧RX m∧∃F' aw,Ext w F β ⟨aM,H⟩ w' F' aw ⟨aM,[]⟩:=by
 refine callsIn_wide.1 (callsIn_of_wp_marks (F:=fD) (n:=0) dj hb trivial ?_);let C:Ctx:=⟨w,F,β,H,n,none,.inl rfl,[]⟩;have hr:Rel C ⟨jZ args,H⟩ { tmps:=vs++mw (fn.ntmps-vs.size) undef,defers:=[] } w :=
  ⟨F,β,by simp [C,hn];omega,trivial,Kc hs hv,⟨Ext.refl hI,fun d hd=>(eI hd).elim,oY,⟨[],rfl⟩⟩⟩
 have fin:∀(st:ai) (a':Act) (w':World),Rel C st a' w'→oP T fn.results.toList st (fun x=>R0 x st)→LeavesInM fD 0 P fn a'.tmps (fun e w'=>(∃v,e=.returned v∧∃x st F' aw,R0 x st∧Rd w' F' aw x v∧Ext w F β ⟨aM,H⟩ w' F' aw ⟨aM,st.H⟩) ∨
   ∃m,e=.panicked (iU E m)∧RX m∧∃F' aw,Ext w F β ⟨aM,H⟩ w' F' aw ⟨aM,[]⟩) a'.defers .returning w':=fun st a' w' ⟨F',aw,_,_,hf,he⟩ hq =>
  EA rfl a'.defers w' he fun pT fP cj=>by
   obtain ⟨v,x,bc,hk,hx⟩:=FX (P:=P) (st:=st) hT fP.inv (fun t=>cj _ _ (hf t)) hq;exact ⟨v,bc,.inl ⟨v,rfl,x,st,F',aw,hk,hx,fP.x⟩⟩
 refine wpIn_mono (h.h C rfl _ w hr) ?_;rintro e a' w' ⟨st,il,hq⟩;cases e with
 |normal=>exact fin st a' w' il hq
 |ret=>exact fin st a' w' il hq
 |exit id=>exact hq.elim
 |goto l=>exact hq.elim
 |panic ch =>
  obtain ⟨m,rfl,hq⟩:=hq;obtain ⟨F',aw,_,_,hf,he⟩:=il;exact Sf (by simp) rfl a'.defers w' he fun pT fP cj=>.inr ⟨m,rfl,hq,F',aw,fP.x.forget⟩
 |outgrown=>exact hq.elim
def aco {g n : Nat} {fn : Func} {c : Code} {args : List AV} {H0 : Hp} {ρ : Type} {q : Int ⊕ ρ} {r : ρ → AV} {H1 : ρ → Hp} (hT : bB P T) (dj : P.funcs[g]? = some fn) (dg : (fn.name == "runtime.NumGoroutine") = false) (hb : fn.body = some c) (hn : fn.ntmps = n) (hle : args.length ≤ n)
  (h:Ok P n c ⟨jZ args,H0⟩ (Im T E fn.results.toList (fun x s=>∃y,q=.inr y∧Wk ⟨dF aM 0 x,s.H⟩ ⟨Γ [(0,r y)],H1 y⟩) fun m=>q=.inl m)) :
  j8 P E g args ⟨aM,H0⟩ (fun x s=>∃y,q=.inr y∧x=r y∧s.H=H1 y) fun m s=>q=.inl m∧s.H=[]:=by
 refine ⟨⟨fn,c,dj,dg,hb⟩,fun w F β vs hI hs hv=>?_⟩;refine (WZ hT dj hb hn hle h hI hs hv).mono ?_;rintro e w' (⟨v,rfl,x,st,F',aw,⟨y,hy,hW⟩,hx,he⟩|⟨m,rfl,hm,F',aw,he⟩)
 ·obtain ⟨F2,bL,_,_,hf,h2⟩:=hW ⟨w,F,β,H0,1,none,.inl rfl,[]⟩ { tmps:=#[v],defers:=[] } w' ⟨F',aw,rfl,trivial,fun t=>by
   show Rd w' F' aw (bif aG t 0 then x else aM t) _;cases t with
   |zero=>exact hx
   |succ t=>exact .χ,⟨he,fun d hd=>(eI hd).elim,oY,⟨[],rfl⟩⟩⟩
  exact .inl ⟨v,rfl,r y,⟨aM,H1 y⟩,F2,bL,⟨y,hy,rfl,rfl⟩,hf 0,h2.x⟩
 ·exact .inr ⟨m,rfl,⟨aM,[]⟩,F',aw,⟨hm,rfl⟩,he⟩
def j8.gen {g:FuncId} {xs ys:List AV} {st:ai} {H0:Hp} {ρ:Type} {q:Int⊕ρ} {r:ρ→AV} {H1:ρ→Hp} {k:AV→ai→Prop} {kx:Int→ai→Prop} {m n:List (Nat×Nat)} (h:j8 P E g ys ⟨aM,H0⟩ (fun x s=>∃y,q=.inr y∧x=r y∧s.H=H1 y) fun m s=>q=.inl m∧s.H=[])
  (hx:iA m xs ys) (hH:ss m st.H H0) (lC:iT H0=true) (ht:zf m n=true) (fh:∀y,iT (gz (cC (jE m n)) (H1 y)++jF m n st.H)=true) (gg:iT (jF m n st.H)=true)
  (hp:∀e,q=.inl e→kx e ⟨fun t=>rf n (st.f t),jF m n st.H⟩)
  (hk:∀y,q=.inr y→k (rl (cC (jE m n)) 3 (r y)) ⟨fun t=>rf n (st.f t),gz (cC (jE m n)) (H1 y)++jF m n st.H⟩):j8 P E g xs st k kx:=by
 refine ⟨h.1,fun w F β vs hI hs hv=>?_⟩;obtain ⟨hl,cT,rj,ν,qt⟩:=P_ hx hH lC ht hI hv;refine (h.2 w F cT vs rj (by omega) ν).mono ?_;rintro e w' (⟨v,rfl,x,s,F',aw,⟨y,hy,rfl,AP⟩,hr,he⟩|⟨e,rfl,s,F',aw,⟨ZP,AP⟩,he⟩)
 ·obtain ⟨bL,hq,jg⟩:=qt w' F' aw s.f (H1 y) (fh y) (by rw [←AP];exact he);exact .inl ⟨v,rfl,rl (cC (jE m n)) 3 (r y),_,F',bL,hk y hy,wA hq 3 hr,jg⟩
 ·obtain ⟨bL,hq,jg⟩:=qt w' F' aw s.f [] gg (by rw [←AP];exact he);exact .inr ⟨e,rfl,_,F',bL,hp e ZP,jg⟩
end
def Et {ρ:Type} {b:Bool} {X Y:Option ρ} {r:ρ} {G:Prop} (h:(if b=true then X else Y)=some r) (yes:b=true→X=some r→G) (no:Y=some r→G):G:=by
 cases b with
 |true=>exact yes rfl (by simpa using h)
 |false=>exact no (by simpa using h)
def jO (k:Int):AV:=if k=0 then .v .nilFunc else .c (.func k.toNat) [] []
def gb (k:Int):List AV:=[jO k]
def YJ {k:Int} {n:Nat} (hb:(k==(n:Int))=true) (hn:n≠0):jO k=.c (.func n) [] []:=by
 have:k=(n:Int):=by simpa using hb
 subst this;unfold jO;rw [if_neg (by omega)];rfl
def Le.fn {k:Int} {n:Nat} (hb:(k==(n:Int))=true) (hn:n≠0):Le (jO k) (.c (.func n) [] []):=by rw [YJ hb hn];exact Le.refl _
def exts (ops:Array Oper):Nat→Array Bool→List (List Nat)
 |0,_=>[[]]
 |fuel+1,listed=>match kK .any ops listed with
  |[]=>[[]]
  |r=>r.flatMap fun i=>(exts ops fuel (listed.setIfInBounds i true)).map (i::·)
def CZ {α:Type} (f:α→Prop):List α→Prop
 |[]=>True
 |x::r=>f x∧CZ f r
def CZ.mem {α:Type} {f:α→Prop}:∀{l:List α},CZ f l→∀x,x∈l→f x
 |[],_,_,h=>by cases h
 |y::r,h,x,hx=>by
  rcases bp.1 hx with rfl|hx
  ·exact h.1
  ·exact h.2.mem x hx
def YA {ops:Array Oper}:∀(fuel t:Nat) (listed:Array Bool),Hb .any ops fuel t listed []∈exts ops fuel listed:=by
 intro fuel;induction fuel with
 |zero=>intro t listed;simp [Hb,exts]
 |succ fuel ih =>
  intro t listed;simp only [Hb,exts]
  change (match (kK .any ops listed)[t % (kK .any ops listed).length]? with
   |some i=>Hb .any ops fuel (t/(kK .any ops listed).length) (listed.setIfInBounds i true) [i]
   |none=>[].reverse)∈_
  cases hr:kK .any ops listed with
  |nil=>simp
  |cons a r =>
   have Ξ:t % (a::r).length<(a::r).length:=p6 _ (by simp);obtain ⟨i,hi⟩:∃i,(a::r)[t % (a::r).length]?=some i:=⟨_,bO Ξ⟩;simp only [hi];rw [linearise_go_acc,List.reverse_singleton,List.singleton_append];refine List.mem_flatMap.2 ⟨i,List.mem_of_getElem? hi,List.mem_map.2 ⟨_,ih _ _,rfl⟩⟩
section
variable {P:Program} {T:TT} {C:Ctx}
def VC {n:Nat} {all:Array Oper} {K:ai→Prop} {Q:Exit→Act→World→Prop} (hT:bB P T) (hn:C.n=n) (hQ:∀st a w,Rel C st a w→K st→Q .normal a w) :
  ∀(l:List Nat) (st:ai) (a:Act) (w:World),Rel C st a w→ix P T n all (l.filterMap (all[·]?)) st K→wpOpsIn (fa C.ro) 0 P all Q l a w:=by
 intro l;induction l with
 |nil=>intro st a w hr h;exact hQ _ _ _ hr h
 |cons i r ih =>
  intro st a w hr h;rw [wpOpsIn_cons];cases ho:all[i]? with
  |none =>
   unfold wpOpIn;simp only [ho];refine ih st a w hr ?_;simpa [On,ho] using h
  |some o =>
   rw [On,ho] at h;exact rW (K:=fun st=>ix P T n all (r.filterMap (all[·]?)) st K) hT hn ho hr (fun st a w hr hk=>ih st a w hr hk) h
def Ok.Xy {n id:Nat} {ops:Array Oper} {st:ai} {Q:Exit→ai→Prop} (Ls:List (List Nat)) (hT:bB P T) (hm:P.follows .mixedOrders=true) (hc:exts ops ops.size (mw ops.size false)=Ls)
  (h:CZ (fun l=>ix P T n ops (l.filterMap (ops[·]?)) st (Q .normal)) Ls):Ok P n (.region id ops true) st Q :=
 ⟨fun C hn a w hr=>by
  refine wpIn_region_draw fun t=>?_;simp only [Region.schedule,hm,Bool.true_or,if_true];obtain ⟨F,β,hs,hd,hf,he⟩:=hr;have hb:Below w.heap.size w w.drew:=(Below.refl _ _).drew;have cj:Rel C st a w.drew:=⟨eU F w w.drew,β,hs,hd,fun t=>(hf t).later hb he.inv.bW,he.trans (sL (st:=⟨aM,st.H⟩) he.inv hb)⟩
  exact VC (Q:=fun e a' w'=>∃av,Rel C av a' w'∧Q e av) hT hn (fun st a w hr hk=>⟨st,hr,hk⟩) _ st a w.drew cj (h.mem _ (by rw [←hc];exact YA _ _ _))⟩
end
abbrev jN (c x y:List AV):Hp:=[(1000,.box c),(1001,.box x),(1002,.box y)]
structure OP (P:Program) (E:TypeId) (gc:FuncId) (cf:List AV) (kf ka:Nat) (ans:Int→List AV):Prop where
 re:oj P gc
 ret:∀(w:World) (vs:Array Value),vs.size=3→CallsDIn fD 0 P gc vs .returning w fun e u w'=>(∃v,e=.returned v)∧u=.returning∧Below w.heap.size w w'
 Bl:∀(m:Int) (w:World) (F:Nat→Prop) (β:Nat→Value) (x y:List AV),Inv w F β (jN cf x y)→x.length=kf→y.length=ka →
  CallsDIn fD 0 P gc #[β 1000,β 1001,β 1002] (.panicking (iU E m)) w fun e u w'=>(∃v,e=.returned v)∧u=.panicking [{ v:=.iface E (.int .i64 m),recovered:=true }] ∧
   ∃F' aw,Ext w F β ⟨aM,jN cf x y⟩ w' F' aw ⟨aM,jN cf cf (ans m)⟩
def YO (T:TT) (E:TypeId) (rs:List ResultVar) (R0:AV→ai→Prop) (RX:Int→ai→Prop):Exit→ai→Prop
 |.normal,st=>oP T rs st fun x=>R0 x st
 |.ret,st=>oP T rs st fun x=>R0 x st
 |.panic l,st=>∃m,l=iU E m∧RX m st
 |_,_=>False
def Pv (q:List (Nat×Nat)) (tc:Nat) (L:List (Nat×AV)) (H:Hp):ai:=⟨dF (fun t=>rl (cC q) 2 (Γ L t)) tc .χ,gz (cC q) H⟩
section
variable {P:Program} {T:TT} {E:TypeId}
def Kp {C:Ctx} {fn:Func} {tmps:Array Value} {RR:Ending→World→Prop} {F:Nat→Prop} {β:Nat→Value} {H:Hp} {u:FrameMode} (hu:u≠.run):∀(l:List Deferred) (w:World),XM C (l++C.dl) w F β H →
  (∀w',XM C C.dl w' F β H→(∀x u,Rd w F β x u→Rd w' F β x u)→LeavesInM fD 0 P fn tmps RR C.dl u w')→LeavesInM fD 0 P fn tmps RR (l++C.dl) u w
 |[],w,h,hk=>hk w h fun _ _ hr=>hr
 |d::l,w,h,hk=>by
  have hm:=h.m;have hn:=h.nd;rw [Ctx.Bc] at hm hn;obtain ⟨D,h1,h2,h3,h4,h5⟩:=hm d (by simp);have Ξ:=jM h3;have mZ:∀b,b≠D→(w.putObj D (.deferred none)).heap[b]?=w.heap[b]?:=fun b hb=>oi hb;have ha:fy F w (w.putObj D (.deferred none)):=fun b hb=>mZ b fun e=>h4 (e▸hb);have hI:=h.inv;refine ⟨hu,.inl ⟨D,_,by rw [h1],run_takeDeferred h3,?_⟩⟩;have lY:Inv (w.putObj D (.deferred none)) F β H:=⟨fun b hb=>by rw [ju];exact hI.bW b hb,fun i c hm=>nQ ha (fun _ h=>h) (fun b hb=>mZ b fun e=>h5 (e▸⟨i,c,hm,hb⟩)) (hI.holds i c hm),hI.keys,hI.apart,hI.dR,hI.eN.at ha⟩;have hx:=h.x;refine Kp hu l _ ⟨⟨hx.os,hx.tape,hx.output,by rw [ju];exact hx.size,fun b hb hn=>(mZ b (by omega)).trans (hx.block b hb hn),hx.mono,hx.new,hx.owned,fun _ _ _=>.χ,lY,hx.fH⟩,fun d' bz=>?_,?_,⟨l,rfl⟩⟩ fun w' nf cj=>hk w' nf fun x u hr=>cj x u (hr.frame ha fun _ h=>h)
  ·rw [Ctx.Bc] at bz;obtain ⟨D',g1,g2,g3,g4,g5⟩:=hm d' (by simp [bz]);exact ⟨D',g1,g2,(mZ D' fun e=>(gK.1 hn).1 (by rw [h1,←e,←g1];exact bz)).trans g3,g4,g5⟩
  ·rw [Ctx.Bc];exact (gK.1 hn).2
def acT {q:List (Nat×Nat)} {w:World} {F:Nat→Prop} {β:Nat→Value} {H:Hp} (hI:Inv w F β H) (fQ:qG (q.map (·.2))=true) (kS:qG (q.map (·.1))=true) (hk:iT (gz (cC q) H)=true) :
  ∃bL:Nat→Value,(∀i j,cC q i=some j→bL j=β i)∧Inv w F bL (gz (cC q) H)∧∀b,br bL (gz (cC q) H) b→br β H b:=by
 have lD:=yu fQ;have kq:=yu kS;have Jn:∀i i' j,cC q i=some j→cC q i'=some j→i=i':=fun i i' j h1 h2=>MT lD (at_mem h1) (at_mem h2)
 obtain ⟨bL,aj⟩:∃bL:Nat→Value,∀i j,cC q i=some j→bL j=β i:=by
  refine ⟨fun j=>match cC (q.map fun p=>(p.2,p.1)) j with|some i=>β i|none=>undef,fun i j et=>?_⟩;have:cC (q.map fun p=>(p.2,p.1)) j=some i:=Dc (by rw [List.map_map];exact lD) (List.mem_map.2 ⟨_,at_mem et,rfl⟩);simp only [this]
 have cY:∀b,br bL (gz (cC q) H) b→br β H b:=by
  rintro b ⟨j,c,hc,hb⟩;obtain ⟨x,c0,h1,h2,_⟩:=lI hc;exact ⟨x,c0,h1,by rw [←aj x j h2];exact hb⟩
 refine ⟨bL,aj,⟨hI.bW,fun j c hc=>?_,vT hk,fun b hb=>hI.apart b (cY b hb),fun j c j' c' b hc fc hb aH=>?_,hI.eN⟩,cY⟩
 ·obtain ⟨x,c0,h1,h2,rfl⟩:=lI hc;exact rlC_holds aj h2 (hI.holds x c0 h1)
 ·obtain ⟨x,c0,h1,h2,_⟩:=lI hc;obtain ⟨x',HK,lX,gQ,_⟩:=lI fc;rw [aj x j h2] at hb;rw [aj x' j' gQ] at aH;have:=hI.dR x _ x' _ b h1 lX hb aH;subst this;rw [h2] at gQ;exact Option.some.inj gQ
def Xx {g n rid gc tc s1 s2 s3 a1 a2 a3 tf ta kf ka:Nat} {jf ja:TI} {fn:Func} {A rest:Code} {mk df:Oper} {args:List AV} {L:List (Nat×AV)} {H:Hp} {q:List (Nat×Nat)} {cf:List AV} {ans:Int→List AV} {r:AV}
    (hT : bB P T) (dj : P.funcs[g]? = some fn) (dg : (fn.name == "runtime.NumGoroutine") = false) (hb : fn.body = some (.seq A (.seq (.region rid #[mk, df] false) rest))) (hn : fn.ntmps = n) (hle : args.length ≤ n)
    (rH:mk.op=.makeFunc (.func gc) #[] #[.tmp s1, .tmp s2, .tmp s3]∧mk.dst=some tc∧mk.guard=none) (Jb:df.op=.defer { callee:=.value (.tmp tc), args := #[], argTypes := #[] }∧df.dst=none∧df.guard=none) (htc:tc<n)
    (I5:OP P E gc cf kf ka ans)
    (fQ:qG (q.map (·.2))=true) (kS:qG (q.map (·.1))=true) (hk:iT (gz (cC q) H)=true)
    (AO:Γ L s1=.b a1 0) (Ee:Γ L s2=.b a2 0) (hs3:Γ L s3=.b a3 0) (h1:cC q a1=some 1000) (h2:cC q a2=some 1001) (h3:cC q a3=some 1002)
    (s_:fn.results.toList=[.cell s2 tf, .cell s3 ta]) (Jo:T tf=some jf) (Z':T ta=some ja) (Zj:oo jf.kind=true) (Zi:oo ja.kind=true) (hkf:cf.length=jf.cells) (hka:∀ m, (ans m).length=ja.cells)
    (xM:cf.all eL=true) (Zk:∀ m, (ans m).all eL=true)
    (hA:Ok P n A ⟨jZ args, []⟩ fun e st=>e=.normal∧Wk st ⟨Γ L, H⟩)
    (mc:Ok P n rest (Pv q tc L H) (YO T E fn.results.toList (fun x st=>Fz st.H x r) fun m st=>st.f s2=.b 1001 0∧st.f s3=.b 1002 0∧di 1000 st.H=some (.box cf) ∧
      (∃ x, di 1001 st.H=some (.box x)∧x.length=kf)∧(∃ y, di 1002 st.H=some (.box y)∧y.length=ka)∧r=.t [.a cf, .a (ans m)])):Pure P g args r:=by
  refine ⟨⟨fn, _, dj, dg, hb⟩, fun w F β vs hI hs hv => ?_⟩;refine callsIn_wide.1 (callsIn_of_wp_marks (F:=fD) (n:=0) dj hb trivial ?_);let C:Ctx:=⟨w, F, β, [], n, none, .inl rfl, []⟩;have hr:Rel C ⟨jZ args, []⟩ { tmps:=vs++mw (fn.ntmps-vs.size) undef, defers:=[] } w :=
    ⟨F, β, by simp [C, hn];omega, trivial, Kc hs hv, ⟨Ext.refl hI, fun d hd=>(eI hd).elim, oY, ⟨[], rfl⟩⟩⟩
  refine wpIn_seq (wpIn_mono (hA.h C rfl _ w hr) ?_);rintro e gn w1 ⟨st1, aaw, rfl, hW⟩;obtain ⟨F1, cT, vN, _, qu, cH⟩:=hW C gn w1 aaw;have bw:∀ b, ¬ br β ([]:Hp) b:=fun b ⟨_, _, hm, _⟩=>(eI hm).elim;obtain ⟨bL, vP, IT, rJ⟩:=acT cH.inv fQ kS hk;have p1:=qu s1;have p2:=qu s2;have p3:=qu s3;change Rd _ _ _ (Γ L s1) _ at p1;change Rd _ _ _ (Γ L s2) _ at p2;change Rd _ _ _ (Γ L s3) _ at p3;rw [AO] at p1;rw [Ee] at p2;rw [hs3] at p3;obtain ⟨b1, cy, e1⟩:=p1.lh;obtain ⟨b2, kP, e2⟩:=p2.lh;obtain ⟨b3, I1, e3⟩:=p3.lh
  have g1:gn.tmps.getD s1 undef=bL 1000:=by rw [vP _ _ h1, cy];exact e1
  have g2:gn.tmps.getD s2 undef=bL 1001:=by rw [vP _ _ h2, kP];exact e2
  have g3:gn.tmps.getD s3 undef=bL 1002:=by rw [vP _ _ h3, I1];exact e3
  obtain ⟨d0, xN⟩:∃ d0:Deferred, d0={ target:=.fn (.func gc) #[bL 1000, bL 1001, bL 1002], args := #[] }:=⟨_, rfl⟩;let zN:Act:={ (gn.put (some tc) (.func (.func gc) #[] #[bL 1000, bL 1001, bL 1002])) with defers:=d0::gn.defers };have vN:gn.tmps.size=n:=vN;let C':Ctx:=⟨w1, F1, bL, gz (cC q) H, n, none, .inl rfl, d0::gn.defers⟩
  have JN:Rel C' (Pv q tc L H) zN w1:=by
    refine ⟨F1, bL, by show (gn.put _ _).tmps.size=n;simpa [hJ] using vN, trivial, ?_, ⟨Ext.refl IT, fun d hd => ?_, ?_, ⟨[], rfl⟩⟩⟩
    · exact Rd.put (fun t=>wA vP 2 (qu t)) .χ (by omega)
    · have:C'.ms (d0::gn.defers)=[]:=Ctx.Bc (C:=C') (l:=[])
      rw [show C'.ms zN.defers=[] from this] at hd;exact (eI hd).elim
    · have:C'.ms (d0::gn.defers)=[]:=Ctx.Bc (C:=C') (l:=[])
      rw [show C'.ms zN.defers=[] from this];exact oY
  have ends:∀ (w5:World) (F5:Nat→Prop) (kD:Nat→Value) (H5:Hp), Ext w1 F1 bL ⟨aM, gz (cC q) H⟩ w5 F5 kD ⟨aM, H5⟩→∀ tmps:Array Value,
      (∀ w6, Inv w6 F5 kD H5→(∀ x u, Rd w5 F5 kD x u→Rd w6 F5 kD x u)→∃ v, (results fn tmps).run P w6=.ok v w6∧bh w6 (fun b=>F5 b∨br kD H5 b) r v) →
      LeavesInM fD 0 P fn tmps (fun e w'=>∃ v, e=.returned v∧Below w.heap.size w w'∧bh w' (eU F w w') r v) gn.defers .returning w5:=by
    intro w5 F5 kD H5 hx tmps sU;let C5:Ctx:=⟨w, F, kD, [], n, none, .inl rfl, []⟩
    have Re:∀ b, br kD H5 b→w.heap.size≤b:=fun b hb=>by
      rcases hx.owned b hb with h|h
      · exact dN cH.x.size h
      · rcases cH.x.owned b (rJ b h) with h|h
        · exact h
        · exact (bw b h).elim
    have bJ:Ext w F kD ⟨aM, []⟩ w5 F5 kD ⟨aM, H5⟩:=by
      refine ⟨hx.os.trans cH.x.os, cH.x.tape.trans hx.tape, hx.output.trans cH.x.output, dN cH.x.size hx.size, fun b hb _ => ?_, fun b hb=>hx.mono b (cH.x.mono b hb), fun b hb => ?_, fun b hb=>.inl (Re b hb), fun _ _ _=>.χ, hx.inv, fun _ _=>rfl⟩
      · rw [hx.block b (mJ hb cH.x.size) (fun ho => ?_)]
        · exact cH.x.block b hb (bw b)
        · rcases cH.x.owned b (rJ b ho) with h|h
          · have h:w.heap.size≤b:=h;omega
          · exact bw b h
      · rcases hx.new b hb with h|h|h
        · rcases cH.x.new b h with h|h|h
          · exact .inl h
          · exact .inr (.inl h)
          · exact (bw b h).elim
        · exact .inr (.inl (dN cH.x.size h))
        · rcases cH.x.owned b (rJ b h) with h|h
          · exact .inr (.inl h)
          · exact (bw b h).elim
    have Ze:XM C5 gn.defers w5 F5 kD H5:=by
      refine ⟨bJ, fun d hd => ?_, ?_, ⟨gn.defers, (List.append_nil _).symm⟩⟩
      · have hd:d∈C.ms gn.defers:=hd
        obtain ⟨D, q1, q2, q3, q4, q5⟩:=cH.m d hd;have Ξ:=jM q3;refine ⟨D, q1, q2, (hx.block D Ξ fun ho=>q5 (rJ D ho)).trans q3, fun hF => ?_, fun ho => ?_⟩
        · rcases hx.new D hF with h|h|h
          · exact q4 h
          · exact absurd Ξ (Nat.not_lt.2 h)
          · exact q5 (rJ D h)
        · rcases hx.owned D ho with h|h
          · exact absurd Ξ (Nat.not_lt.2 h)
          · exact q5 (rJ D h)
      · exact cH.nd
    refine EA rfl gn.defers w5 Ze fun w6 h6 Ec => ?_;obtain ⟨v, bc, eP⟩:=sU w6 h6.inv Ec;refine ⟨v, bc, v, rfl, ⟨h6.x.os, h6.x.tape, h6.x.output, h6.x.size, fun b hb=>h6.x.block b hb (by rintro ⟨_, _, hm, _⟩;exact (eI hm).elim)⟩, eP.frame (fun _ _=>rfl) fun b hb => ?_⟩
    rcases hb with hb|hb
    · rcases h6.x.new b hb with h|h|h
      · exact .inl h
      · exact .inr ⟨h, h6.inv.bW b hb⟩
      · obtain ⟨_, _, hm, _⟩:=h;exact (eI hm).elim
    · exact .inr ⟨Re b hb, h6.inv.fj hb⟩
  have Pw:∀ (u:FrameMode) (w4:World) (tmps:Array Value), u≠.run→(CallsDIn fD 0 P gc #[bL 1000, bL 1001, bL 1002] u w4 fun e u' w5=>(∃ v, e=.returned v)∧settle u'=.returning ∧
        LeavesInM fD 0 P fn tmps (fun e w'=>∃ v, e=.returned v∧Below w.heap.size w w'∧bh w' (eU F w w') r v) gn.defers .returning w5) →
      LeavesInM fD 0 P fn tmps (fun e w'=>∃ v, e=.returned v∧Below w.heap.size w w'∧bh w' (eU F w w') r v) (d0::gn.defers) u w4:=by
    intro u w4 tmps hu hc;obtain ⟨YN, cc, ZX, oF, Zs⟩:=I5.re
    have aan : ¬ YN.name = "runtime.NumGoroutine" := by simpa using oF
    refine ⟨hu, .inr ⟨fun h=>(by cases h), .func gc, #[bL 1000, bL 1001, bL 1002], gc, #[bL 1000, bL 1001, bL 1002], by rw [xN], by rw [xN];simp [invoke, callFunc, ZX, aan, Zs], fun _ _=>trivial, hc.mono ?_⟩⟩;rintro e u' w5 ⟨⟨v, rfl⟩, yi, hl⟩;show LeavesInM fD 0 P fn tmps _ gn.defers (settle u') w5;rw [yi];exact hl
  have aal:wpOpsIn fD 0 P #[mk, df] (fun e a' w'=>match e with
      |.normal=>rest.wpIn fD 0 P (bodyPostM fD 0 P fn fun e w'=>∃ v, e=.returned v∧Below w.heap.size w w'∧bh w' (eU F w w') r v) a' w'
      |e=>bodyPostM fD 0 P fn (fun e w'=>∃ v, e=.returned v∧Below w.heap.size w w'∧bh w' (eU F w w') r v) e a' w') [0, 1] gn w1:=by
    have k0:(#[mk, df]:Array Oper)[0]? = some mk:=rfl;have k1:(#[mk, df]:Array Oper)[1]? = some df:=rfl;obtain ⟨dm, om, tm, pm, fm, gm⟩:=mk;obtain ⟨dd, od, td, pd, fd, gd'⟩:=df;obtain ⟨rfl, rfl, rfl⟩:=rH;obtain ⟨rfl, rfl, rfl⟩:=Jb;have Yu:gn.eval (.tmp s1)=bL 1000:=g1;have Yv:gn.eval (.tmp s2)=bL 1001:=g2;have Yw:gn.eval (.tmp s3)=bL 1002:=g3;rw [wpOpsIn_cons];unfold wpOpIn;simp only [k0];rw [if_pos (by simp [dA])];refine ⟨fun _ _=>trivial, ?_⟩;rw [Oper.semAt_eq _ _ _ (by simp)]
    have r0:(execOp gn.eval { dst:=some tc, op:=.makeFunc (.func gc) #[] #[.tmp s1, .tmp s2, .tmp s3], type:=tm, pos:=pm, after:=fm, guard:=none }).run P w1=.ok (.value (.func (.func gc) #[] #[bL 1000, bL 1001, bL 1002])) w1:=by
      rw [← Yu, ← Yv, ← Yw];simp [execOp, Instr.makeFunc]
    rw [r0, uv, wpOpsIn_cons];unfold wpOpIn;simp only [k1];rw [if_pos (by simp [dA])];refine ⟨fun _ _=>trivial, ?_⟩
    have Yx:(gn.put (some tc) (.func (.func gc) #[] #[bL 1000, bL 1001, bL 1002])).eval (.tmp tc)=.func (.func gc) #[] #[bL 1000, bL 1001, bL 1002]:=by
      have:tc<gn.tmps.size:=by omega
      simp [wW, hJ, this]
    have r1:(Oper.semAt none (gn.put (some tc) (.func (.func gc) #[] #[bL 1000, bL 1001, bL 1002])).eval { dst:=none, op:=.defer { callee:=.value (.tmp tc), args := #[], argTypes := #[] }, type:=td, pos:=pd, after:=fd, guard:=none }).run P w1=.ok (.defer d0) w1:=by
      rw [Oper.semAt_none, xN];simp [execOp, resolve, Yx, kW]
    show Oper.uponIn _ _ _ _ _ _ _ ((Oper.semAt none _ _).run P w1);rw [r1, Oper.uponIn_defer]
    exact show rest.wpIn fD 0 P _ zN w1 from by
      refine wpIn_mono (mc.h C' rfl zN w1 JN) ?_;rintro e a3 w3 ⟨rT, ⟨F3, oS, hz3, _, QE, pn⟩, s9⟩;obtain ⟨l3, qx⟩:=pn.sp;have qx:a3.defers=l3++C'.dl:=qx
      have SH:oP T fn.results.toList rT (fun x=>Fz rT.H x r)→LeavesInM fD 0 P fn a3.tmps (fun e w'=>∃ v, e=.returned v∧Below w.heap.size w w'∧bh w' (eU F w w') r v) a3.defers .returning w3:=by
        intro s9;rw [qx];refine Kp (by simp) l3 w3 (by rw [← qx];exact pn) fun w4 mX Ri => ?_;refine Pw .returning w4 a3.tmps (by simp) ((I5.ret w4 _ rfl).mono ?_);rintro e u' w5 ⟨jk, rfl, pk⟩;refine ⟨jk, rfl, ?_⟩;have AK:Ext w4 F3 oS ⟨aM, rT.H⟩ w5 (eU F3 w4 w5) oS ⟨aM, rT.H⟩:=sL (st:=⟨aM, rT.H⟩) mX.inv pk;refine ends w5 (eU F3 w4 w5) oS rT.H (mX.x.trans AK) a3.tmps fun w6 h6 Ec => ?_;obtain ⟨v, x, bc, cd, gI⟩:=FX (P:=P) (st:=rT) (fn:=fn) (tmps:=a3.tmps) hT h6 (fun t=>Ec _ _ ((Ri _ _ (QE t)).later pk mX.inv.bW)) s9;exact ⟨v, bc, cd w6 _ oS v h6 gI⟩
      cases e with
      |normal=>exact SH s9
      |ret=>exact SH s9
      |exit id=>exact s9.elim
      |goto l=>exact s9.elim
      |outgrown=>exact s9.elim
      |panic ch =>
        obtain ⟨m, rfl, q2, q3, c1, ⟨x, c2, RD⟩, ⟨y, c3, AY⟩, hre⟩:=s9;show LeavesInM fD 0 P fn a3.tmps _ a3.defers (.panicking (iU E m)) w3;rw [qx];refine Kp (by simp) l3 w3 (by rw [← qx];exact pn) fun w4 mX Ri => ?_
        have Qz:Ext w1 F1 bL ⟨aM, gz (cC q) H⟩ w4 F3 oS ⟨aM, jN cf x y⟩:=mX.x.chunks (fun i c hm=>by
          have:(i, c)∈rT.H:=by
            simp only [bp, gC, eI, or_false] at hm
            rcases hm with ⟨rfl, rfl⟩|⟨rfl, rfl⟩|⟨rfl, rfl⟩
            · exact eE c1
            · exact eE c2
            · exact eE c3
          exact ⟨⟨c, this⟩, mX.inv.holds i c this⟩) (by simp)
        have el:∀ i, 1000≤i→oS i=bL i:=fun i hi=>mX.x.fH i hi;have hc:=I5.Bl m w4 F3 oS x y Qz.inv RD AY;rw [el 1000 (by omega), el 1001 (by omega), el 1002 (by omega)] at hc;refine Pw (.panicking (iU E m)) w4 a3.tmps (by simp) (hc.mono ?_);rintro e u' w5 ⟨jk, rfl, F5, kD, bJ⟩;refine ⟨jk, rfl, ?_⟩;refine ends w5 F5 kD _ (Qz.trans bJ) a3.tmps fun w6 h6 Ec => ?_;have aaa:∀ i, 1000≤i→kD i=oS i:=fun i hi=>bJ.fH i hi
        have Ta:∀ (s i:Nat), 1000≤i→rT.f s=.b i 0→Rd w6 F5 kD (.b i 0) (a3.tmps.getD s undef):=fun s i hi yj=>by
          have:=QE s;rw [yj] at this;obtain ⟨e9, hb, he⟩:=this.lh;rw [he];exact .b ((aaa i hi).trans hb)
        have aaA:∀ t, Rd w6 F5 kD ((fun t=>if t=s2 then AV.b 1001 0 else if t=s3 then .b 1002 0 else .χ) t) (a3.tmps.getD t undef):=fun t=>by
          show Rd w6 F5 kD (if t=s2 then AV.b 1001 0 else if t=s3 then .b 1002 0 else .χ) _;by_cases ht:t=s2
          · rw [if_pos ht, ht];exact Ta s2 1001 (by omega) q2
          · rw [if_neg ht]
            by_cases JT:t=s3
            · rw [if_pos JT, JT];exact Ta s3 1002 (by omega) q3
            · rw [if_neg JT];exact .χ
        have aS:s3≠s2:=fun e=>by
          rw [e] at q3;rw [q2] at q3;cases q3
        have AM:oP T fn.results.toList ⟨fun t=>if t=s2 then AV.b 1001 0 else if t=s3 then .b 1002 0 else .χ, jN cf cf (ans m)⟩ (fun x=>x=.t [.a cf, .a (ans m)]):=by
          rw [s_];simp only [oP, yY, if_pos, aS, if_false, yZ, Jo, Z'];have f1:di 1001 (jN cf cf (ans m))=some (.box cf):=rfl;have f2:di 1002 (jN cf cf (ans m))=some (.box (ans m)):=rfl;simp only [f1, f2, yo, Zj, Zi, Nat.zero_add, ← hkf, ← hka m, Nat.ble_eq, bm, List.drop_zero, List.take_length]
          have b1:og cf.length cf.length=true:=by simp
          have b2:og (ans m).length (ans m).length=true:=by simp
          simp only [b1, b2, cond_true];exact ⟨_, rfl, _, rfl, rfl⟩
        obtain ⟨v, x', bc, rfl, gI⟩:=FX (P:=P) (st:=⟨fun t=>if t=s2 then AV.b 1001 0 else if t=s3 then .b 1002 0 else .χ, jN cf cf (ans m)⟩) (fn:=fn) (tmps:=a3.tmps) hT h6 aaA AM;refine ⟨v, bc, ?_⟩;rw [hre];exact (Fz.t (.cons (Fz.cq (by simpa [jB] using xM)) (.cons (Fz.cq (by simpa [jB] using Zk m)) .nil))) w6 F5 kD v h6 gI
  exact wpIn_seq (wpIn_region aal)
end
end
section
variable [M:bU] [G:dC] [R:dW]
def zd {l:List UInt8} {a b:Int} (h:0≤a∧a≤b∧b≤(l.length:Int)):(iX l.toArray).extract a.toNat b.toNat=iX (sub l a b).toArray:=by
 apply ByteArray.ext;simp [sub,List.drop_take]
def Le.of_eq {x y:AV} (h:x=y):Le x y:=by rw [h];exact Le.refl _
def YI (k:Int) {p:Prop} (h0:jO k=.v .nilFunc→p) (h1:∀n,jO k=.c (.func n) [] []→p):p:=by
 by_cases h:k=0
 ·exact h0 (if_pos h)
 ·exact h1 _ (if_neg h)
def xw (n d:Nat) (k:Int):er (n+1) d (jO k)=jO k:=by
 by_cases h:k=0
 ·rw [jO,if_pos h];rfl
 ·rw [jO,if_neg h];rfl
def Le.YK {d:Nat} {k:Int}:Le (er 2 d (jO k)) (jO k):=Le.of_eq (xw 1 d k)
def Le.YL {d d':Nat} {k:Int}:Le (er 2 d (er 2 d' (jO k))) (jO k):=Le.of_eq (by rw [xw 1,xw 1])
def Le.YM {d d' Xc:Nat} {k:Int}:Le (er 2 d (er 2 d' (er 2 Xc (jO k)))) (jO k):=Le.of_eq (by rw [xw 1,xw 1,xw 1])
end
section
open Go.RowKit
variable [M:bU] [G:dC] [R:dW]
local instance ag9:p8:=⟨[]⟩
local instance ag6:lR:=⟨[]⟩
def q9 (P:Program) (T:TT) (E:TypeId) (n:Nat) (ops:Array Oper):List (Nat×List Nat)→ai→(ai→Prop)→(Int→ai→Prop)→Prop
 |[],st,K,_=>K st
 |c::r,st,K,KX=>match ops[c.1]? with
  |some o=>gd n ops o st (fun st=>Gl P T E o st (fun x av=>put n o.dst av x fun gk=>qE P T ops gk c.2∧q9 P T E n ops r gk K KX) fun m av=>KX m ⟨aM,av.H⟩) fun st=>put n o.dst st (.v undef) fun gk=>qE P T ops gk c.2∧q9 P T E n ops r gk K KX
  |none=>False
section
variable {P:Program} {T:TT} {E:TypeId}
def ad2 {w:World} {F:Nat→Prop} {β:Nat→Value} {o:Oper} {a:Act} {st:ai} {k:AV→ai→Prop} {kx:Int→ai→Prop} (hT:bB P T) (hI:Inv w F β st.H) (bx:∀x,x∈o.op.operands→Rd w F β (ev st.f x) (a.eval x)) (h:tW P T E o st k kx):OQ P E (execOp a.eval o) w F β st k kx:=by
 obtain ⟨dst,op,type,pos,after,guard⟩:=o
 cases op<;>simp only [tW] at h<;>first|exact h.elim|skip
 all_goals simp only [Op.operands] at bx
 case call c =>
  obtain ⟨callee,args,argTypes⟩:=c
  cases callee<;>simp only at h<;>first|exact h.elim|skip
  rename_i f;unfold H6 at h;split at h
  ·rename_i g fs cs ko;have qv:=bx f (by simp [Call.operands]);rw [ko] at qv;obtain ⟨us,ws,Jj,hs,dL,hu,hw⟩:=qv.lT;obtain ⟨⟨fn,code,dj,dg,hb⟩,h⟩:=h
   have pF : ¬ fn.name = "runtime.NumGoroutine" := by simpa using dg
   refine .inr (.inr ⟨g,us++args.map a.eval++ws,?_,?_⟩)
   ·have e:execOp a.eval { dst,op:=.call { callee:=.value f,args,argTypes },type,pos,after,guard }=(do let d ←kW (a.eval f) (args.map a.eval);invoke d.target d.args):=rfl;rw [e,Jj];simp [kW,invoke,callFunc,dj,pF,hb]
   ·have hl:(args.map a.eval).size=(args.toList.map (ev st.f)).length:=by simp
    exact h w F β _ hI (by simp [hs,dL]) (Db hs hl dL hu (fun i hi=>by
     have hi:i<args.size:=by simpa using hi
     have:=bx args[i] (by simp [Call.operands])
     simpa [aY,hi] using this) hw)
  ·exact h.elim
 case makeInterface t x =>
  split at h
  ·rename_i n i hx hi;split at h
   ·rename_i hk;have ni:=bx x (by simp);rw [hx] at ni;refine .inl ⟨.iface t (.int .i64 n),w,?_,?_⟩
    ·simp only [execOp];rw [ni.bA];have:=(hT _ _ hi).int hk;simp [VW,run_underlying this]
    ·exact ⟨_,st,F,β,h,.i (.v (.inl rfl)),Ext.refl hI⟩
   ·exact h.elim
  ·exact h.elim
 case panic x =>
  split at h
  ·rename_i t n hx;obtain ⟨rfl,h⟩:=h;have ni:=bx x (by simp);rw [hx] at ni;refine .inr (.inl ⟨n,?_,h⟩);simp only [execOp];rw [ni.bA];simp [run_panic_iface]
  ·exact h.elim
def Ok.uH {id n:Nat} {chain:List (Nat×List Nat)} {ops:Array Oper} {st:ai} {Q:Exit→ai→Prop} (hT:bB P T) (hm:P.follows .mixedOrders=true) (oB:Pg chain ops=true)
  (h:pU P T n ops (Dy chain ops) st fun st1=>q9 P T E n ops chain st1 (Q .normal) (fun m av=>Q (.panic (iU E m)) av)):Ok P n (.region id ops true) st Q:=by
 refine ⟨fun C hn a w cN=>?_⟩;simp only [Pg,bM,dJ,kY] at oB;obtain ⟨JG,ZF,fF⟩:=oB
 have get:∀i o,ops[i]?=some o→uI i o=true∧q_ ops i o=true∧Df ops i o=true∧HN ops i o=true:=fun i o ho=>by
  have h1:=JG i (j4.1 ho).1;rw [ho] at h1;simp only [bM] at h1;exact ⟨h1.1,h1.2.1,h1.2.2.1,h1.2.2.2⟩
 have lt:∀{i o},ops[i]?=some o→i<ops.size:=fun h=>(j4.1 h).1
 have dec:∀i o,ops[i]?=some o→∀e,e∈o.after→i_ .any e=true→e.on<i:=fun i o ho e he hb=>by
  have:=(Array.all_eq_true'.1 (get i o ho).1) e he;simpa [hb] using this
 have Uy:∀i o j,ops[i]?=some o→j<ops.size→ib ops i j=true→∃e,e∈o.after∧i_ .any e=true∧(e.on=j∨ib ops e.on j=true):=fun i o j ho hj hd=>by
  have h1:=(get i o ho).2.1;simp only [q_,dJ,kY] at h1;have h1:=h1 j hj;simp only [hd,Bool.not_true,Bool.false_or] at h1;obtain ⟨e,he,hb⟩:=Array.any_eq_true'.1 h1;simp only [bM,qT,beq_iff_eq] at hb;exact ⟨e,he,hb.1,hb.2⟩
 have low:∀(i:Nat) (o:Oper) (d:Nat),ops[i]?=some o→o.dst=some d→d<1000:=fun i o d ho hd=>by
  have h1:=(get i o ho).2.2.1;unfold Df at h1;rw [hd] at h1;simp only [bM] at h1;simpa using h1.1
 have hp:(∀(i:Nat) (o:Oper) (j:Nat) (o':Oper) (d:Nat),i<ops.size→j<ops.size→ops[i]?=some o→ops[j]?=some o'→o.dst=some d→o'.dst=some d→i=j) ∧
   ∀(i:Nat) (o:Oper) (t j:Nat) (o':Oper),i<ops.size→j<ops.size→ops[i]?=some o→t∈o.looksAt ops→ops[j]?=some o'→o'.dst=some t→ib ops i j=true:=by
  refine ⟨fun i o j o' d hi hj ho aD hd bz=>?_,fun i o t j o' hi hj ho ht aD bz=>?_⟩
  ·have h1:=(get i o ho).2.2.1;unfold Df at h1;rw [hd] at h1;simp only [bM,dJ,kY] at h1;have:=h1.2 j hj;rw [aD] at this;simpa [bz] using this
  ·have h1:=(get i o ho).2.2.2;simp only [HN,dJ,kY] at h1;have:=h1 t ht j hj;rw [aD] at this;simpa [bz] using this
 have hr:=LJ cN;refine wpIn_region_any hm ?_;show wpAnyIn (fa C.ro) 0 P .any ops _ ops.size (mw ops.size false) a w.drew;generalize w.drew=w at hr;clear cN;obtain ⟨F,β,hs,hd,hf,he⟩:=hr;have QG:∀i o,i∈rh chain ops→ops[i]?=some o→o∈Dy chain ops:=fun i o hi ho=>kX.2 ⟨i,hi,ho⟩
 have QY:∀i j,i<ops.size→j<ops.size→ib ops i j=true→j<i:=by
  intro i;induction i using qV with
  |_ i ih =>
   intro j hi hj uW;obtain ⟨e,cH,hb,h2⟩:=Uy i _ j (fL hi) hj uW;have Ξ:=dec i _ (fL hi) e cH hb
   rcases h2 with h2|h2
   ·omega
   ·have:=ih e.on Ξ j (by omega) hj h2;omega
 have vA:uB ops (Dy chain ops):=by
  have key:∀l:List Nat,l.Pairwise (· < ·)→(∀i,i∈l→i∈rh chain ops)→uB ops (l.filterMap fun i=>ops[i]?):=by
   intro l;induction l with
   |nil=>intro _ _;exact True.intro
   |cons i l ih =>
    intro hpw rK;have hi:=rK i (by simp);have DU:=(EE.1 hi).1;have AA:ops[i]?=some ops[i]:=fL DU;rw [On,AA];have Rg:=List.pairwise_cons.1 hpw
    have eK:∃d,ops[i].dst=some d:=by
     have:=fF i hi;rw [AA] at this;exact Option.isSome_iff_exists.1 this
    obtain ⟨d,l6⟩:=eK
    have mem:∀o',o'∈l.filterMap (fun i=>ops[i]?)→∃j,i<j∧ops[j]?=some o':=fun o' aD=>by
     obtain ⟨j,hj,qw⟩:=kX.1 aD;exact ⟨j,Rg.1 j hj,qw⟩
    refine ⟨⟨d,l6,fun o' aD bz=>?_⟩,fun t ht o' aD bz=>?_,ih Rg.2 fun j hj=>rK j (cu _ hj)⟩
    ·obtain ⟨j,et,qw⟩:=mem o' aD;have:=hp.1 i _ j o' d DU (lt qw) AA qw l6 bz;omega
    ·have:∃j,i≤j∧ops[j]?=some o':=by
      rcases bp.1 aD with rfl|h
      ·exact ⟨i,bm _,AA⟩
      ·obtain ⟨j,et,qw⟩:=mem o' h;exact ⟨j,by omega,qw⟩
     obtain ⟨j,et,qw⟩:=this;have gv:=hp.2 i _ t j o' DU (lt qw) AA ht qw bz;have:=QY i j DU (lt qw) gv;omega
  exact key _ (List.Pairwise.filter _ List.pairwise_lt_range) fun i hi=>hi
 obtain ⟨fe,ko,hW,aai,bK⟩:=NU (Dy chain ops) _ vA h;have key:∀fuel (listed:Array Bool) (a:Act) (w:World) (done rem:List (Nat×List Nat)) (f:Nat→AV) (H:Hp),listed.size=ops.size→listed.toList.count false≤fuel →
   (∀i o,listed.getD i false=true→ops[i]?=some o→∀e,e∈o.after→i_ .any e=true→listed.getD e.on false=true) →
   done++rem=chain→(∀c,c∈done→listed.getD c.1 false=true)→(∀c,c∈rem→listed.getD c.1 false=false)→ot chain ops rem=true →
   C4 C ops ops.size f H listed a w→(H.map (·.1)).Nodup→(∀i o,i∈rh chain ops→ops[i]?=some o→listed.getD i false=false→sv P T ops H f o) →
   q9 P T E n ops rem ⟨f,H⟩ (Q .normal) (fun m av=>Q (.panic (iU E m)) av) →
   wpAnyIn (fa C.ro) 0 P .any ops (fun e a' w'=>∃av,Rel C av a' w'∧Q e av) fuel listed a w:=by
  intro fuel;induction fuel with
  |zero =>
   intro listed a w done rem f H aZ sR dH oC DR yg qq iS DV JB hw
   have dv:∀i,i<ops.size→listed.getD i false=true:=fun i hi=>by
    have h0:listed.toList.count false=0:=by omega
    have bj:i<listed.size:=by omega
    have bu:listed[i]∈listed.toList:=by simp
    cases hb:listed[i] with
    |true=>simp [bj,hb]
    |false=>rw [hb] at bu;exact absurd bu (List.count_eq_zero.1 h0)
   have pK:kK .any ops listed=[]:=by
    apply w7.2;intro i hi;obtain ⟨h1,o,ho,_⟩:=mem_ready.1 hi;have:=dv i (lt ho)
    have bj:i<listed.size:=by have:=lt ho;omega
    simp [bj] at h1 this;rw [h1] at this;cases this
   refine ⟨pK,?_⟩
   have cN:rem=[]:=by
    cases rem with
    |nil=>rfl
    |cons c r =>
     simp only [ot,bM] at qq
     have Ξ:c.1<ops.size:=by simpa [fY] using qq.1
     have:=yg c (by simp);rw [dv c.1 Ξ] at this;cases this
   subst cN;obtain ⟨F1,cT,g1,g2,g3,g6⟩:=iS.ex;exact ⟨⟨f,H⟩,⟨F1,cT,g1,g2,fun t=>g6 t fun i o hi _ _=>dv i hi,g3⟩,hw⟩
  |succ fuel ih =>
   intro listed a w done rem f H aZ sR dH oC DR yg qq iS DV JB hw
   have uS:∀i,i<ops.size→(∀o,ops[i]?=some o→∀e,e∈o.after→i_ .any e=true→listed.getD e.on false=true)→∀j,j<ops.size→ib ops i j=true→listed.getD j false=true:=by
    intro i;induction i using qV with
    |_ i pL =>
     intro hi fg j hj gv;obtain ⟨e,cH,cy,h⟩:=Uy i _ j (fL hi) hj gv;have hl:=fg _ (fL hi) e cH cy;have qy:=dec i _ (fL hi) e cH cy
     rcases h with h|h
     ·rw [←h];exact hl
     ·exact pL e.on qy (by omega) (fun o ho=>dH e.on o hl ho) j hj h
   have pR:∀{i o},i∈kK .any ops listed→ops[i]?=some o→listed.getD i false=false∧∀e,e∈o.after→i_ .any e=true→listed.getD e.on false=true:=fun hi ho=>by
    obtain ⟨h1,o',aD,h2⟩:=mem_ready.1 hi;rw [ho] at aD;cases aD;have:=lt ho;refine ⟨?_,h2⟩;have bj:=lt ho;rw [←aZ] at bj;simpa [bj] using h1
   have isReady:∀{i o},ops[i]?=some o→listed.getD i false=false→(∀j,j<i→listed.getD j false=true)→i∈kK .any ops listed:=fun ho h1 h2=>by
    refine mem_ready.2 ⟨?_,_,ho,fun e he hb=>h2 _ (dec _ _ ho e he hb)⟩;have bj:=lt ho;rw [←aZ] at bj;simpa [bj] using h1
   have next:∀i,i<ops.size→listed.getD i false=false→(listed.setIfInBounds i true).size=ops.size∧(listed.setIfInBounds i true).toList.count false≤fuel:=fun i hi h1=>by
    refine ⟨by simpa using aZ,?_⟩
    have bj:i<listed.size:=by omega
    have h2:listed.toList[i]?=some false:=by
     have:listed[i]=false:=by simpa [bj] using h1
     simp [bj,this]
    have:=count_set listed.toList i h2;simp only [Array.toList_setIfInBounds];omega
   have qe:∀i o,ops[i]?=some o→(∀e,e∈o.after→i_ .any e=true→listed.getD e.on false=true) →
     ∀j o',(listed.setIfInBounds i true).getD j false=true→ops[j]?=some o'→∀e,e∈o'.after→i_ .any e=true→(listed.setIfInBounds i true).getD e.on false=true:=fun i o ho fg j o' hj aD e cH cy=>by
    have bj:i<listed.size:=by rw [aZ];exact lt ho
    rw [eS bj] at hj ⊢;split
    ·rfl
    ·split at hj
     ·rename_i e2;subst e2;rw [ho] at aD;cases aD;exact fg e cH cy
     ·exact dH j o' hj aD e cH cy
   by_cases dv:∀i,i<ops.size→listed.getD i false=true
   ·-- nothing is left
    have pK:kK .any ops listed=[]:=by
     apply w7.2;intro i hi;obtain ⟨_,o,ho,_⟩:=mem_ready.1 hi;obtain ⟨dr,_⟩:=pR hi ho;rw [dv i (lt ho)] at dr;cases dr
    refine ⟨fun _=>?_,fun i hi=>by rw [pK] at hi;cases hi⟩
    have cN:rem=[]:=by
     cases rem with
     |nil=>rfl
     |cons c r =>
      simp only [ot,bM] at qq
      have Ξ:c.1<ops.size:=by simpa [fY] using qq.1
      have:=yg c (by simp);rw [dv c.1 Ξ] at this;cases this
    subst cN;obtain ⟨F1,cT,g1,g2,g3,g6⟩:=iS.ex;exact ⟨⟨f,H⟩,⟨F1,cT,g1,g2,fun t=>g6 t fun i o hi _ _=>dv i hi,g3⟩,hw⟩
   ·have least:∃i,i<ops.size∧listed.getD i false=false∧∀j,j<i→listed.getD j false=true:=by
     have:∃i,i<ops.size∧listed.getD i false=false:=by
      refine uj fun bw=>dv fun i hi=>?_;cases hb:listed.getD i false
      ·exact absurd ⟨i,hi,hb⟩ bw
      ·rfl
     obtain ⟨i,hi,hb⟩:=this;induction i using qV with
     |_ i pL =>
      by_cases aW:∀j,j<i→listed.getD j false=true
      ·exact ⟨i,hi,hb,aW⟩
      ·have:∃j,j<i∧listed.getD j false=false:=by
        refine uj fun bw=>aW fun j hj=>?_;cases hb:listed.getD j false
        ·exact absurd ⟨j,hj,hb⟩ bw
        ·rfl
       obtain ⟨j,hj,Ap⟩:=this;exact pL j hj (by omega) Ap
    obtain ⟨i0,pA,dY,uQ⟩:=least;have cN:=isReady (fL pA) dY uQ;refine ⟨fun h0=>(by rw [h0] at cN;cases cN),fun i hi=>?_⟩;obtain ⟨_,o,ho,_⟩:=mem_ready.1 hi;obtain ⟨dr,fg⟩:=pR hi ho
    have gv:∀j,j<ops.size→ib ops i j=true→listed.getD j false=true:=uS i (lt ho) fun o' aD=>by rw [ho] at aD;cases aD;exact fg
    obtain ⟨lD,kq⟩:=next i (lt ho) dr
    have bj:i<listed.size:=by rw [aZ];exact lt ho
    by_cases qv:i∈rh chain ops
    ·-- one of Co free aha
     have oF:=(EE.1 qv).2;refine Zm hT hn aZ ho (fun t j o' hj ht aD bz=>gv j hj (hp.2 i o t j o' (lt ho) hj ho ht aD bz)) (JB i o qv ho dr) (aai o (QG i o qv ho)) iS fun a2 w2 hh=>?_;refine ih _ a2 w2 done rem f H lD kq (qe i o ho fg) oC (fun c hc=>?_) (fun c hc=>?_) qq hh DV (fun j o' hj aD hl=>?_) hw
     ·rw [eS bj];split
      ·rfl
      ·exact DR c hc
     ·rw [eS bj,if_neg]
      ·exact yg c hc
      ·exact oF c (by rw [←oC];exact zA _ hc)
     ·rw [eS bj] at hl;split at hl
      ·cases hl
      ·exact JB j o' hj aD hl
    ·-- Co next of Co chain
     have sY:∃c,c∈chain∧c.1=i:=by
      refine uj fun bw=>qv (EE.2 ⟨lt ho,fun c hc e=>bw ⟨c,hc,e⟩⟩)
     obtain ⟨c0,mW,xM⟩:=sY
     have QL:c0∈rem:=by
      rw [←oC] at mW
      rcases iY.1 mW with h|h
      ·have:=DR c0 h;rw [xM,dr] at this;cases this
      ·exact h
     cases rem with
     |nil=>cases QL
     |cons c r =>
      have Z0:c.1=i:=by
       have HM:∀(l:List (Nat×List Nat)) (c:Nat×List Nat),ot chain ops (c::l)=true→c0∈l→(∀x,x∈c::l→listed.getD x.1 false=false)→False:=by
        intro l;induction l with
        |nil=>intro c _ h _;cases h
        |cons c' l Kb =>
         intro c eo Zx Ry;simp only [ot,bM] at eo
         rcases bp.1 Zx with rfl|h
         ·have eO:c.1<ops.size:=by simpa [fY] using eo.1
          have:=gv c.1 eO (by rw [←xM];exact eo.2.2.2.1);rw [Ry c (by simp)] at this;cases this
         ·exact Kb c' (by simp only [ot,bM];exact eo.2.2.2.2) h fun x hx=>Ry x (cu _ hx)
       rcases bp.1 QL with rfl|h
       ·exact xM
       ·exact (HM r c qq h yg).elim
      subst Z0;have ZG:=qq;simp only [ot,bM] at qq;obtain ⟨_,_,Jt,_,ZD⟩:=qq;simp only [q9,ho] at hw;obtain ⟨F1,cT,g1,g2,g3,g6⟩:=iS.ex;have look:∀t,t∈o.looksAt ops→Rd w F1 cT (f t) (a.tmps.getD t undef):=fun t ht=>g6 t fun j o' hj aD bz=>gv j hj (hp.2 c.1 o t j o' (lt ho) hj ho ht aD bz)
      have pM:∀x,x∈o.op.operands→Rd w F1 cT (ev f x) (a.eval x):=fun x hx=>by
       cases x with
       |tmp t=>exact look t (List.mem_append_left _ (kX.2 ⟨.tmp t,by simpa using hx,rfl⟩))
       |const v=>exact ml _ _ _ _
       |global g=>exact .χ
       |func g=>exact .i (.c rfl rfl (fun i hi=>absurd hi (by simp)) (fun i hi=>absurd hi (by simp)))
      have go:∀(v:Value) (w':World),EPost w F1 cT ⟨f,H⟩ (fun x av=>put n o.dst av x fun gk=>qE P T ops gk c.2∧q9 P T E n ops r gk (Q .normal) (fun m av=>Q (.panic (iU E m)) av)) v w' →
        wpAnyIn (fa C.ro) 0 P .any ops (fun e a' w'=>∃av,Rel C av a' w'∧Q e av) fuel (listed.setIfInBounds c.1 true) (a.put o.dst v) w':=by
       rintro v w' ⟨x,av,F2,bL,vF,hx,Jf⟩;rw [put_eq] at vF
       obtain ⟨f2,DT,hq,AQ⟩:∃f2:Nat→AV,(qE P T ops ⟨f2,av.H⟩ c.2∧q9 P T E n ops r ⟨f2,av.H⟩ (Q .normal) (fun m av=>Q (.panic (iU E m)) av))∧(∀t,o.dst≠some t→f2 t=av.f t)∧∀t,o.dst=some t→f2 t=x∧t<n:=by
        cases eK:o.dst with
        |none=>rw [eK] at vF;exact ⟨av.f,vF,fun _ _=>rfl,fun t h=>by cases h⟩
        |some d =>
         rw [eK] at vF;obtain ⟨Ξ,vF⟩:=cond_prop vF;refine ⟨dF av.f d x,vF,fun t ht=>Nz fun e=>ht (by rw [e]),fun t ht=>?_⟩;cases ht;exact ⟨Ny _ _ _,by simpa [fY] using Ξ⟩
       refine ih _ _ w' (done++[c]) r f2 av.H lD kq (qe c.1 o ho fg) (by rw [oV];exact oC) (fun c' fc=>?_) (fun c' fc=>?_) ZD ⟨F2,bL,?_,?_,(by rw [put_defers];exact g3.trans (Jf.rR aM)),fun t ht=>?_⟩ Jf.inv.keys (fun j o' hj aD hl=>?_) DT.2
       ·rw [eS bj];split
        ·rfl
        ·rcases iY.1 fc with h|h
         ·exact DR c' h
         ·rename_i aS;rw [dV.1 h] at aS;exact absurd rfl aS
       ·rw [eS bj,if_neg]
        ·exact yg c' (cu _ fc)
        ·intro e
         have HM:∀(l:List (Nat×List Nat)) (b:Nat×List Nat),ot chain ops (b::l)=true→∀y,y∈l→b.1<y.1:=by
          intro l;induction l with
          |nil=>intro b _ y h;cases h
          |cons c' l Kb =>
           intro b eo y hy;simp only [ot,bM] at eo
           have hb:b.1<ops.size:=by simpa [fY] using eo.1
           have Zw:c'.1<ops.size:=by simpa [fY] using eo.2.2.2.2.1
           have h1:=QY c'.1 b.1 Zw hb eo.2.2.2.1
           rcases bp.1 hy with rfl|hy
           ·exact h1
           ·have:=Kb c' (by simp only [ot,bM];exact eo.2.2.2.2) y hy;omega
         have:=HM r c ZG c' fc;omega
       ·cases eK:o.dst with
        |none=>exact g1
        |some d=>simpa [hJ] using g1
       ·cases eK:o.dst with
        |none=>exact g2
        |some d=>simpa [hJ] using g2
       ·by_cases nS:o.dst=some t
        ·obtain ⟨e1,e2⟩:=AQ t nS;rw [e1,nS]
         have:t<a.tmps.size:=by rw [g1,hn];exact e2
         simpa [hJ,this] using hx
        ·rw [hq t nS]
         have h1:=g6 t fun j o' hj aD bz=>by
          have:=ht j o' hj aD bz;rw [eS bj] at this;split at this
          ·rename_i e;subst e;rw [ho] at aD;cases aD;exact absurd bz nS
          ·exact this
         have h2:=Jf.keep t _ h1;cases eK:o.dst with
         |none=>exact h2
         |some d =>
          have aS:d≠t:=fun e=>nS (by rw [eK,e]);simpa [hJ,Array.getElem?_setIfInBounds_ne aS] using h2
       ·rw [eS bj] at hl;split at hl
        ·cases hl
        ·have Jo:=EE.1 hj;have h3:=(dJ.1 Jt) j hj;simp only [qT] at h3
         rcases h3 with h3|h3
         ·have:=gv j Jo.1 h3;rw [this] at hl;cases hl
         ·exact Km DT.1 j o' (by simpa using h3) aD
      have run:(Gl P T E o ⟨f,H⟩ (fun x av=>put n o.dst av x fun gk=>qE P T ops gk c.2∧q9 P T E n ops r gk (Q .normal) (fun m av=>Q (.panic (iU E m)) av)) fun m av=>Q (.panic (iU E m)) ⟨aM,av.H⟩)→o.wpIn (fa C.ro) 0 P a w (wpAnyIn (fa C.ro) 0 P .any ops (fun e a' w'=>∃av,Rel C av a' w'∧Q e av) fuel (listed.setIfInBounds c.1 true)) (fun e a' w'=>∃av,Rel C av a' w'∧Q e av):=fun AU=>by
       rcases AU with hw|hw
       rotate_left
       ·have Bl:∀(m:Int) (av:ai) (w':World) (F':Nat→Prop) (aw:Nat→Value),Q (.panic (iU E m)) ⟨aM,av.H⟩→Ext w F1 cT ⟨f,H⟩ w' F' aw av→∃av,Rel C av a w'∧Q (.panic (iU E m)) av:=fun m av w' F' aw hk hx=>⟨⟨aM,av.H⟩,⟨F',aw,g1,g2,fun _=>.χ,g3.trans (hx.rR aM)⟩,hk⟩;have cX:=UE hw
        rcases ad2 (st:=⟨f,H⟩) hT g3.inv pM hw with ⟨v,w',bc,pI⟩|⟨m,bc,hk⟩|⟨g,vs,bc,hc⟩
        ·refine Oper.jC cX bc ?_;rw [uv];exact go v w' pI
        ·refine Oper.jC cX bc ?_;rw [Wf];exact Bl m ⟨f,H⟩ w F1 cT hk (Ext.refl g3.inv)
        ·refine Oper.jC cX bc ?_;rw [xc];refine ⟨fun h=>(by cases h),sC (hc.mono ?_)⟩;rintro e w' (⟨v,rfl,pI⟩|⟨m,rfl,av,F',aw,hk,hx⟩)
         ·exact go v w' pI
         ·exact Bl m av w' F' aw hk hx
       have cX:=UF hw
       rcases UG (st:=⟨f,H⟩) hT g3.inv pM hw with ⟨v,w',bc,pI⟩|⟨w',bc,pI⟩|⟨g,vs,bc,hc⟩|⟨l,fn,tmps,assign,body,bc,hc⟩
       ·refine Oper.jC cX bc ?_;rw [uv];exact go v w' pI
       ·refine Oper.jC cX bc ?_;rw [Oper.uponIn_skip];exact go undef w' pI
       ·refine Oper.jC cX bc ?_;rw [xc];refine ⟨fun h=>(by cases h),sC (hc.mono ?_)⟩;rintro e w' ⟨v,rfl,pI⟩;exact go v w' pI
       ·refine Oper.jC cX bc ?_;rw [Oper.uponIn_round];refine ⟨fun h=>(by cases h),Uc (hc.mono ?_)⟩;rintro e w' ⟨v,rfl,pI⟩;exact go v w' pI
      have skip:(put n o.dst ⟨f,H⟩ (.v undef) fun gk=>qE P T ops gk c.2∧q9 P T E n ops r gk (Q .normal) (fun m av=>Q (.panic (iU E m)) av))→wpAnyIn (fa C.ro) 0 P .any ops (fun e a' w'=>∃av,Rel C av a' w'∧Q e av) fuel (listed.setIfInBounds c.1 true) (a.put o.dst undef) w:=fun hw =>
       go undef w ⟨.v undef,⟨f,H⟩,F1,cT,hw,.i (.v (.inr rfl)),Ext.refl g3.inv⟩
      unfold wpOpIn;simp only [ho];rw [qm] at hw;cases hg:o.guard with
      |none =>
       rw [hg] at hw
       have aaS:dA o (yielded ops a.tmps)=true:=by simp [dA,hg]
       rw [if_pos aaS];exact run hw
      |some jw =>
       obtain ⟨j,want⟩:=jw;rw [hg] at hw;simp only at hw;split at hw
       ·rename_i d l6;obtain ⟨Jv,hw⟩:=cond_prop hw
        have ry:d∈o.looksAt ops:=by
         refine zA _ ?_;rw [hg];simp [l6]
        have fF:=look d ry
        have Jv:d<a.tmps.size:=by rw [g1,hn];simpa [fY] using Jv
        have hy:∀v,a.tmps.getD d undef=v→yielded ops a.tmps j=match v with|.bool b=>some b|_=>none:=by
         intro v hv
         have h2:a.tmps[d]?=some v:=by
          rw [←hv];simp [Jv]
         unfold yielded;rw [l6,aX,h2];cases v<;>rfl
        split at hw
        ·rename_i b hb;rw [hb] at fF;have gy:=hy _ fF.bA;simp only at gy;by_cases iR:b=want
         ·have vK:dA o (yielded ops a.tmps)=true:=by simp [dA,hg,gy,iR]
          rw [if_pos vK];have:=hw.y iR;rw [GG (by rw [hb,iR])] at this;exact run this
         ·have oA:b=!want:=by cases b<;>cases want<;>first|rfl|exact absurd rfl iR
          have vK:¬dA o (yielded ops a.tmps)=true:=by simp [dA,hg,gy,iR]
          rw [if_neg vK];have:=hw.n oA;rw [GG (by rw [hb,oA])] at this;exact ⟨fun _ _=>trivial,skip this⟩
        ·rename_i vs hb;rw [hb] at fF;have gy:=hy _ fF.bA;simp only at gy
         have vK:¬dA o (yielded ops a.tmps)=true:=by simp [dA,hg,gy]
         rw [if_neg vK];exact ⟨fun _ _=>trivial,skip hw⟩
        ·exact hw.elim
       ·exact hw.elim
 have rep:∀i,(mw ops.size false).getD i false=false:=fun i=>by
  simp only [j3,Array.getElem?_replicate];split<;>rfl
 refine key ops.size _ a w [] chain fe st.H (by simp) (by simp) (fun i o hi=>by rw [rep] at hi;cases hi) rfl (fun c hc=>by cases hc) (fun c _=>rep _) ZF ⟨F,β,hs,hd,he,fun t ht=>?_⟩ he.inv.keys (fun i o hi ho _=>bK o (QG i o hi ho)) hW
 ·have bw:∀i o,i<ops.size→ops[i]?=some o→o.dst≠some t:=fun i o hi ho bz=>by
   have:=ht i o hi ho bz;rw [rep] at this;cases this
  rw [ko t fun o ho=>by
   obtain ⟨i,hi,aD⟩:=kX.1 ho
   exact bw i o (lt aD) aD]
  exact hf t
end
end
section
open Go.Shelf Go.RowKit Go.Lib Go.Proofs
variable {P:Program} {ρ:Ren}
def lay (a:List Value) (o:Nat) (us:List Value):List Value:=a.take o++us++a.drop (o+us.length)
def lH {a:List Value} {o:Nat} {us:List Value} (h:o+us.length≤a.length):(lay a o us).length=a.length:=by
 simp [lay];omega
def vU {a:List Value} {o:Nat} {us:List Value} (h:o+us.length≤a.length) (q:Nat):(lay a o us)[q]?=if q<o then a[q]? else if q<o+us.length then us[q-o]? else a[q]?:=by
 unfold lay;simp only [fW,cZ,da,fo,gJ]
 have e:min o a.length=o:=by omega
 rw [e];by_cases h1:q<o
 ·have h2:q<o+us.length:=by omega
  simp [h1,h2]
 ·by_cases h2:q<o+us.length
  ·simp [h1,h2]
  ·have h3:o+us.length+(q-(o+us.length))=q:=by omega
   simp [h1,h2,h3]
def F6 (w:World) (dT sT ty e:TypeId) (i:TypeInfo) (K:Nat) (hu:P.underlying dT=some (.slice e)) (hi:P.info? e=some i) (hK:i.size=K) (g o dn dc:Nat) (a:Addr) (sn sc:Nat) (cur:List Value) (t:TypeId) (hg:w.heap[g]?=some (.cells cur.toArray t (0,0)))
  (us:List Value) (hl:us.length=oh sn dn*K) (gS:∀j v,us[j]?=some v→w.cell? (a.add j)=some v) (iF:o+us.length≤cur.length) (eF:∀v,v∈us→v.oneCell'=true) :
  (oT #[dT,sT] ty #[.slice (some ⟨g,o,none⟩) dn dc,.slice (some a) sn sc]).run P w=.ok (goInt (oh sn dn)) (w.setRow g (lay cur o us).toArray):=by
 have vw:=run_firstCells_some (P:=P) w K (oh sn dn) a sn sc us hl gS;have dy:=run_storeCells_at P g o t us 0 cur.toArray w hg (by simpa using iF) eF;simp only [kJ] at dy;simp [oT,run_underlying hu,Builtin.lenOf,sizeOf,typeInfo,hi,hK,vw,dy,lay]
def ac5 (w:World) (tS tR e:TypeId) (ht:P.underlying tS=some (.slice e)) (size:Nat) (hz:∀ w, (pW e).run P w=.ok size w)
    (a b:Addr) (la ca lb cb:Nat) (aS:a.block≠b.block) (tA tB:TypeId) (kA kB:Nat) (hsa:w.shape? a.block=some (tA, kA)) (JR:w.shape? b.block=some (tB, kB)) (hkA:kA≠0) (hkB:kB≠0) (ZU:∀ o, w.frozen? { block:=b.block, off:=o }=false) (ZV:w.frozen? b=false) :
    (pV #[tS, tS] #[tR] #[.slice (some a) la ca, .slice (some b) lb cb]).run P w=.ok (.bool false) w:=by
  have qz:(a.block != b.block)=true:=by simpa using aS
  have aam:(a.block==b.block)=false:=by simpa using aS
  change Sem.run P (α:=Value) (do
    let some t := (#[tS, tS] : Array TypeId)[0]? | stuck "slices.overlaps: no parameter types"
    let .slice elem ← underlying t | stuck "slices.overlaps: slice type expected"
    let size ← sizeOf elem
    match (some a:Option Addr), (some b:Option Addr) with
    |some a, some b =>
      if la=0∨lb=0∨size=0 then pure (zK false)
      else if a.block != b.block&&(← frozen a)&&(← frozen b) then unsupported .addressObserved
      else do
        if a.block != b.block then do
          noView a;noView b
          if ← mayBeOne a b then return zK ((← choose (.extern "sameAddr.stringBytes" 2)) == 1)
        pure (zK (a.block==b.block&&a.off<b.off+lb*size&&b.off<a.off+la*size))
    |_, _=>pure (zK false)) w=_
  by_cases h0:la=0∨lb=0∨size=0
  · simp [run_underlying ht, hz, h0]
  · cases kA with
   |zero=>exact absurd rfl hkA
   |succ kA =>
    cases kB with
    |zero=>exact absurd rfl hkB
    |succ kB =>
      have ZW:=ZU (kB+1);simp [run_underlying ht, hz, h0, qz, aam, frozen, noView, viewAt, mayBeOne, stringish, shape, Sem.run, hsa, JR, ZV, ZW]
def Ue (w:World) (t tx ty e:TypeId) (i:TypeInfo) (K:Nat) (ht:P.underlying t=some (.slice e)) (hi:P.info? e=some i) (hK:i.size=K) (g kz wG:Nat) (cur:List Value) (hg:w.heap[g]?=some (.cells cur.toArray e (0,0)))
  (x:Value) (n:Nat) (news:List Value) (hs:Go.Src P i.size tx x n news w) (eQ:kz+n≤wG) (iF:kz*K+news.length≤cur.length) :
  (gB #[t,tx] ty #[.slice (some ⟨g,0,none⟩) kz wG,x]).run P w=.ok (.slice (some ⟨g,0,none⟩) (kz+n) wG) (w.setRow g (lay cur (kz*K) news).toArray):=by
 have dy:=run_storeCells_at P g (kz*K) e news 0 cur.toArray w hg (by simpa using iF) hs.one;simp only [kJ] at dy;have hc:=hs.cells;rw [hK] at hc
 rcases hs.kind with ⟨e',hk⟩|hk<;>simp [gB,run_underlying ht,run_underlying hk,sizeOf,typeInfo,hi,hK,hs.len,eQ,hc,fC,dy,lay]
structure qZ (P:Program) (ρ:Ren) (i0:TypeInfo) (z:Value):Prop where
 mixed:P.follows .mixedOrders=true
 f22:Bears P (ρ.f 22) (Body2.n22 ρ)
 vC:∀args w w' v,(pV #[ρ.t 24,ρ.t 24] #[ρ.t 4] args).run P w=.ok v w'→(callFunc (ρ.f 29) args).run P w=.ok (.value v) w'
 t0:P.underlying (ρ.t 0)=some (Wm #[])
 a0:∀w,(isAgg (ρ.t 0)).run P w=.ok false w
 z0:∀w,(pW (ρ.t 0)).run P w=.ok 1 w
 v0:∀w,(zeroValue (ρ.t 0)).run P w=.ok (Value.tuple #[]) w
 t3:P.underlying (ρ.t 3)=some (Wj G3)
 a3:∀w,(isAgg (ρ.t 3)).run P w=.ok false w
 z3:∀w,(pW (ρ.t 3)).run P w=.ok 1 w
 v3:∀w,(zeroValue (ρ.t 3)).run P w=.ok (Value.int G3 0) w
 t4:P.underlying (ρ.t 4)=some (Wi)
 a4:∀w,(isAgg (ρ.t 4)).run P w=.ok false w
 z4:∀w,(pW (ρ.t 4)).run P w=.ok 1 w
 v4:∀w,(zeroValue (ρ.t 4)).run P w=.ok (zK false) w
 t24:P.underlying (ρ.t 24)=some (Wl (ρ.t 9))
 a24:∀w,(isAgg (ρ.t 24)).run P w=.ok false w
 z24:∀w,(pW (ρ.t 24)).run P w=.ok 1 w
 v24:∀w,(zeroValue (ρ.t 24)).run P w=.ok (OM none 0 0) w
 i9:P.info? (ρ.t 9)=some i0
 z9:∀w,(pW (ρ.t 9)).run P w=.ok i0.size w
 k9:0<i0.size
 hz:i0.zero=some z
 zs:z.cells.size=i0.size
 z1:∀v,v∈z.cells.toList→v.oneCell'=true
set_option maxHeartbeats 4000000 in
set_option maxRecDepth 100000 in
def aa4 {i0:TypeInfo} {z:Value} (L:qZ P ρ i0 z) (K g c n i vb vo m vc:Nat) (cur vs:List Value) (w:World) (fb:i0.size=K) (hi:i<n) (hm:0<m) (eQ:n+m≤c) (Qt:c≤9223372036854775807) (Eg:vb≠g)
  (hg:w.heap[g]?=some (.cells cur.toArray (ρ.t 9) (0,0))) (hs:cur.length=c*K) (lE:vs.length=m*K) (iI:∀j v,vs[j]?=some v→w.cell? ⟨vb,vo+j,none⟩=some v)
  (qn:∀q v,q<n*K→cur[q]?=some v→v.oneCell'=true) (ph:∀v,v∈vs→v.oneCell'=true) :
  Calls P (ρ.f 22) #[.slice (some ⟨g,0,none⟩) n c,.int .i64 i,.slice (some ⟨vb,vo,none⟩) m vc] w fun e w' =>
   e=.returned (.slice (some ⟨g,0,none⟩) (n+m) c)∧w'=(w.drew.setRow g (lay cur ((i+m)*K) ((cur.drop (i*K)).take ((n-i)*K))).toArray).setRow g (lay (lay cur ((i+m)*K) ((cur.drop (i*K)).take ((n-i)*K))) (i*K) vs).toArray:=by
 have t0:=L.t0;have a0:=L.a0;have z0:=L.z0;have v0:=L.v0;have t3:=L.t3;have a3:=L.a3;have z3:=L.z3;have v3:=L.v3;have t4:=L.t4;have a4:=L.a4;have z4:=L.z4;have v4:=L.v4;have t24:=L.t24;have a24:=L.a24;have z24:=L.z24;have v24:=L.v24;have u0:=run_underlying L.t0;have u3:=run_underlying L.t3;have u4:=run_underlying L.t4;have Nx:=run_underlying L.t24;have z9:=L.z9;rw [fb] at z9
 have jP:0<K:=by have:=L.k9;omega
 have vN:¬((m:Int)=0):=by omega
 have vO:¬((i:Int)=(n:Int)):=by omega
 have aaC:w.shape? g=some (ρ.t 9,c*K):=by simp [World.shape?,hg,hs]
 have aaM:∃cv tv fv,w.heap[vb]?=some (.cells cv tv fv)∧cv.size≠0:=by
  have pH:0<vs.length:=by rw [lE];exact OH hm jP
  have h1:=iI 0 _ (bO pH);unfold sf at h1;split at h1
  ·rename_i h2;exact ⟨_,_,_,h2,fun h0=>by simp [h0] at h1⟩
  ·cases h1
 obtain ⟨cv,tv,fv,hvh,ZK⟩:=aaM
 have aaB:w.shape? vb=some (tv,cv.size):=by simp [World.shape?,hvh]
 have vC:∀o lb cb,(callFunc (ρ.f 29) #[.slice (some ⟨vb,vo,none⟩) m vc,.slice (some ⟨g,o,none⟩) lb cb]).run P w=.ok (.value (.bool false)) w:=fun o lb cb =>
  L.vC _ _ _ _ (ac5 w (ρ.t 24) (ρ.t 4) (ρ.t 9) L.t24 K z9 ⟨vb,vo,none⟩ ⟨g,o,none⟩ m vc lb cb Eg tv (ρ.t 9) cv.size (c*K) aaB aaC ZK (OH (by omega) jP |> Nat.pos_iff_ne_zero.1) (fun o=>by simp [ahy,hg]) (by simp [ahy,hg]))
 have mixed:=L.mixed
 have vK:IntKind.i64.wrap ((i:Int)+(m:Int))=(i:Int)+(m:Int):=by rw [VZ];omega
 have cy:(0:Int)≤(i:Int)+(m:Int):=by omega
 have sY:i≤n:=by omega
 have htn:((i:Int)+(m:Int)).toNat=i+m:=by omega
 have kP:¬(c=i+m):=by omega
 have I1:(i:Int)≤(n:Int)+(m:Int):=by omega
 have hb4:¬(c=i):=by omega
 obtain ⟨us,eR⟩:∃us,us=(cur.drop (i*K)).take ((n-i)*K):=⟨_,rfl⟩
 have e0:i*K+(n-i)*K=n*K:=by rw [←bD,show i+(n-i)=n by omega]
 have e1:(i+m)*K+(n-i)*K=(n+m)*K:=by rw [←bD,show i+m+(n-i)=n+m by omega]
 have e2:(n+m)*K≤c*K:=bT _ eQ
 have e3:i*K+m*K=(i+m)*K:=by rw [bD]
 have e4:(i+m)*K≤(n+m)*K:=bT _ (by omega);have e5:n*K≤(n+m)*K:=bT _ (by omega)
 have eG:us.length=(n-i)*K:=by rw [eR];simp;omega
 have l8:∀j v,us[j]?=some v→j<(n-i)*K∧cur[i*K+j]?=some v:=fun j v hj=>by
  have h1:=(fX.1 hj).1;rw [eG] at h1;rw [eR,fo,if_pos h1,gJ] at hj;exact ⟨h1,hj⟩
 have Af:∀v,v∈us→v.oneCell'=true:=fun v hv=>by
  obtain ⟨j,hj,rfl⟩:=Ot hv;obtain ⟨h1,h2⟩:=l8 j _ (bO hj);exact qn _ _ (by omega) h2
 rw [←eR];obtain ⟨c1,ah⟩:∃c1,c1=lay cur ((i+m)*K) us:=⟨_,rfl⟩
 have I4:c1.length=c*K:=by rw [ah,lH (by rw [eG];omega),hs]
 rw [←ah];have dZ:w.drew.heap[g]?=some (.cells cur.toArray (ρ.t 9) (0,0)):=hg
 have ZH:∀ty dc sc,(oT #[(ρ.t 24),(ρ.t 24)] ty #[.slice (some ⟨g,(i+m)*K,none⟩) (n+m-(i+m)) dc,.slice (some ⟨g,i*K,none⟩) (n+m-i) sc]).run P w.drew=.ok (goInt (oh (n+m-i) (n+m-(i+m)))) (w.drew.setRow g c1.toArray):=fun ty dc sc=>by
  rw [ah];exact F6 w.drew _ _ ty (ρ.t 9) i0 K L.t24 L.i9 fb g ((i+m)*K) (n+m-(i+m)) dc ⟨g,i*K,none⟩ (n+m-i) sc cur (ρ.t 9) dZ us (by rw [eG,show oh (n+m-i) (n+m-(i+m))=n-i by rw [show ∀a b:Nat,oh a b=min a b from fun _ _=>rfl];omega])
   (fun j v hj=>by
    obtain ⟨_,h2⟩:=l8 j v hj;rw [fC]
    simp [sf,dZ,h2]) (by rw [eG];omega) Af
 have Ξ:g<w.heap.size:=(j4.1 hg).1
 have ξ:(w.drew.setRow g c1.toArray).heap[g]?=some (.cells c1.toArray (ρ.t 9) (0,0)):=by simp [uw,oa,dZ]
 have ν:∀j v,vs[j]?=some v→(w.drew.setRow g c1.toArray).cell? ⟨vb,vo+j,none⟩=some v:=fun j v hj=>by
  rw [←iI j v hj];simp [sf,uw,oa,Ne.symm Eg];rfl
 have ZI:∀(W:World),W.heap=(w.drew.setRow g c1.toArray).heap→∀ty dc,(oT #[(ρ.t 24),(ρ.t 24)] ty #[.slice (some ⟨g,i*K,none⟩) (n+m-i) dc,.slice (some ⟨vb,vo,none⟩) m vc]).run P W=.ok (goInt (oh m (n+m-i))) (W.setRow g (lay c1 (i*K) vs).toArray):=fun W hW ty dc =>
  F6 W _ _ ty (ρ.t 9) i0 K L.t24 L.i9 fb g (i*K) (n+m-i) dc ⟨vb,vo,none⟩ m vc c1 (ρ.t 9) (by rw [hW];exact ξ) vs (by rw [lE,show oh m (n+m-i)=m by rw [show ∀a b:Nat,oh a b=min a b from fun _ _=>rfl];omega])
   (fun j v hj=>by
    rw [fC];have:=ν j v hj;unfold sf at this ⊢
    rw [hW];exact this) (by rw [lE,I4];omega) ph
 obtain ⟨_,_,FG⟩:=L.f22;go_enter FG,Body2.n22_ntmps ρ;go_wp2_with (simp only [vC]);go_region_law_o (refine step_copy_runI rfl _ _ (ρ.t 24) (ρ.t 24) rfl _ _ (by simp [wW,hJ]) (by simp [wW,hJ]) (ZH _ _ _) ?_);go_wp2_with (at_builtin;refine wpList_copy_runI _ rfl _ _ (ρ.t 24) (ρ.t 24) rfl _ _ rfl rfl (ZI _ rfl _ _) ?_);go_ret;exact ⟨rfl,by rw [ah,eR]⟩
set_option maxHeartbeats 4000000 in
set_option maxRecDepth 100000 in
def aa3 {i0:TypeInfo} {z:Value} (L:qZ P ρ i0 z) (K g c n vb vo m vc:Nat) (cur vs:List Value) (w:World) (fb:i0.size=K) (hm:0<m) (eQ:n+m≤c) (Qt:c≤9223372036854775807)
  (hg:w.heap[g]?=some (.cells cur.toArray (ρ.t 9) (0,0))) (hs:cur.length=c*K) (lE:vs.length=m*K) (iI:∀j v,vs[j]?=some v→w.cell? ⟨vb,vo+j,none⟩=some v) (ph:∀v,v∈vs→v.oneCell'=true) :
  Calls P (ρ.f 22) #[.slice (some ⟨g,0,none⟩) n c,.int .i64 n,.slice (some ⟨vb,vo,none⟩) m vc] w fun e w' =>
   e=.returned (.slice (some ⟨g,0,none⟩) (n+m) c)∧w'=w.setRow g (lay cur (n*K) vs).toArray:=by
 have t0:=L.t0;have a0:=L.a0;have z0:=L.z0;have v0:=L.v0;have t3:=L.t3;have a3:=L.a3;have z3:=L.z3;have v3:=L.v3;have t4:=L.t4;have a4:=L.a4;have z4:=L.z4;have v4:=L.v4;have t24:=L.t24;have a24:=L.a24;have z24:=L.z24;have v24:=L.v24;have u0:=run_underlying L.t0;have u3:=run_underlying L.t3;have u4:=run_underlying L.t4;have Nx:=run_underlying L.t24;have mixed:=L.mixed;have z9:=L.z9;rw [fb] at z9
 have jP:0<K:=by have:=L.k9;omega
 have vN:¬((m:Int)=0):=by omega
 have gS:Go.Src P i0.size (ρ.t 24) (.slice (some ⟨vb,vo,none⟩) m vc) m vs w:=N7 w L.t24 ⟨vb,vo,none⟩ m vc vs (by rw [fb];exact lE) (fun j u hj=>by rw [fC];exact iI j u hj) ph
 have e1:n*K+m*K=(n+m)*K:=by rw [bD]
 have e2:(n+m)*K≤c*K:=bT _ eQ
 have bc:∀ty,(gB #[(ρ.t 24),(ρ.t 24)] ty #[.slice (some ⟨g,0,none⟩) n c,.slice (some ⟨vb,vo,none⟩) m vc]).run P w=.ok (.slice (some ⟨g,0,none⟩) (n+m) c) (w.setRow g (lay cur (n*K) vs).toArray):=fun ty=>by
  exact Ue w (ρ.t 24) (ρ.t 24) ty (ρ.t 9) i0 K L.t24 L.i9 fb g n c cur hg _ m vs gS eQ (by omega)
 obtain ⟨_,_,FG⟩:=L.f22;go_enter FG,Body2.n22_ntmps ρ;go_wp2_with (at_builtin;refine G4 _ rfl _ _ _ _ rfl _ _ rfl rfl _ _ (bc _) ?_);go_ret;exact ⟨rfl,rfl⟩
set_option maxHeartbeats 4000000 in
set_option maxRecDepth 100000 in
def RS {i0:TypeInfo} {z:Value} (L:qZ P ρ i0 z) (K:Nat) (base:Option Addr) (n c vb vo m vc:Nat) (cs vs:List Value) (w:World) (fb:i0.size=K) (hm:0<m) (oF:n≤c) (eQ:c<n+m) (rk:(n+m)*i0.bytes≤140737488355328) (IN:n+m≤140737488355328)
  (dH:cs.length=n*K) (lE:vs.length=m*K) (nP:base=none→n=0) (eO:∀a,base=some a→∀j v,cs[j]?=some v→w.cell? (a.add j)=some v)
  (iI:∀j v,vs[j]?=some v→w.cell? ⟨vb,vo+j,none⟩=some v) (ph:∀v,v∈vs→v.oneCell'=true) :
  Calls P (ρ.f 22) #[.slice base n c,.int .i64 n,.slice (some ⟨vb,vo,none⟩) m vc] w fun e w' =>
   e=.returned (.slice (some ⟨w.heap.size,0,none⟩) (n+m) (grownCap w (n+m) c (ρ.t 9))) ∧
   w'=w.drew.alloc (.cells ((cs++vs).toArray++de z.cells (grownCap w (n+m) c (ρ.t 9)-(n+m))) (ρ.t 9)):=by
 have t0:=L.t0;have a0:=L.a0;have z0:=L.z0;have v0:=L.v0;have t3:=L.t3;have a3:=L.a3;have z3:=L.z3;have v3:=L.v3;have t4:=L.t4;have a4:=L.a4;have z4:=L.z4;have v4:=L.v4;have t24:=L.t24;have a24:=L.a24;have z24:=L.z24;have v24:=L.v24;have u0:=run_underlying L.t0;have u3:=run_underlying L.t3;have u4:=run_underlying L.t4;have Nx:=run_underlying L.t24;have mixed:=L.mixed;have z9:=L.z9;rw [fb] at z9
 have jP:0<K:=by have:=L.k9;omega
 have vN:¬((m:Int)=0):=by omega
 have gS:Go.Src P i0.size (ρ.t 24) (.slice (some ⟨vb,vo,none⟩) m vc) m vs w:=N7 w L.t24 ⟨vb,vo,none⟩ m vc vs (by rw [fb];exact lE) (fun j u hj=>by rw [fC];exact iI j u hj) ph
 have hold:(ui i0.size n (.slice base n c)).run P w.drew=.ok cs.toArray w.drew:=by
  rw [fb];cases base with
  |none =>
   have h0:=nP rfl;subst h0;have D5:cs=[]:=List.length_eq_zero_iff.1 (by simpa using dH);rw [D5];exact run_firstCells_none w.drew K 0 0 c
  |some a=>exact run_firstCells_some w.drew K n a n c cs dH (fun j v hj=>eO a rfl j v hj)
 have bc:∀ty,(gB #[(ρ.t 24),(ρ.t 24)] ty #[.slice base n c,.slice (some ⟨vb,vo,none⟩) m vc]).run P w=_:=fun ty =>
  run_append_grow_src w (ρ.t 24) (ρ.t 24) ty (ρ.t 9) i0 z L.t24 L.i9 L.hz base n c cs hold _ m vs gS eQ (by omega) (growslice_fits eQ rk)
 obtain ⟨_,_,FG⟩:=L.f22;cases base with
 |none =>
  have h0:=nP rfl;subst h0;change Calls P (ρ.f 22) #[.slice none 0 c,.int .i64 0,.slice (some ⟨vb,vo,none⟩) m vc] w _;go_enter FG,Body2.n22_ntmps ρ;go_wp2_with (at_builtin;refine G4 _ rfl _ _ _ _ rfl _ _ rfl rfl _ _ (bc _) ?_);all_goals (go_ret;exact ⟨rfl,rfl⟩)
 |some a =>
  obtain ⟨ab,ao,asp⟩:=a;go_enter FG,Body2.n22_ntmps ρ;go_wp2_with (at_builtin;refine G4 _ rfl _ _ _ _ rfl _ _ rfl rfl _ _ (bc _) ?_);all_goals (go_ret;exact ⟨rfl,rfl⟩)
set_option maxHeartbeats 8000000 in
set_option maxRecDepth 100000 in
def aa1 {i0:TypeInfo} {z:Value} (L:qZ P ρ i0 z) (K g c n i vb vo m vc:Nat) (cur vs:List Value) (w:World) (fb:i0.size=K) (hi:i<n) (hm:0<m) (oF:n≤c) (eQ:c<n+m) (rk:(n+m)*i0.bytes≤140737488355328) (agO:n+m≤140737488355328)
  (hg:w.heap[g]?=some (.cells cur.toArray (ρ.t 9) (0,0))) (hs:cur.length=c*K) (lE:vs.length=m*K) (iI:∀j v,vs[j]?=some v→w.cell? ⟨vb,vo+j,none⟩=some v)
  (qn:∀q v,q<n*K→cur[q]?=some v→v.oneCell'=true) (ph:∀v,v∈vs→v.oneCell'=true) :
  Calls P (ρ.f 22) #[.slice (some ⟨g,0,none⟩) n c,.int .i64 i,.slice (some ⟨vb,vo,none⟩) m vc] w fun e w' =>
   e=.returned (.slice (some ⟨w.heap.size,0,none⟩) (n+m) (grownCap w (n+m) c (ρ.t 9)))∧∃r0 r1:List Value,r0.length=grownCap w (n+m) c (ρ.t 9)*K∧(∀q,q<i*K→r0[q]?=cur[q]?)∧r1=lay r0 (i*K) vs ∧
   w'=(((w.alloc (.cells r0.toArray (ρ.t 9))).drew.setRow w.heap.size r1.toArray).drew).setRow w.heap.size (lay r1 ((i+m)*K) ((cur.drop (i*K)).take ((n-i)*K))).toArray:=by
 have t0:=L.t0;have a0:=L.a0;have z0:=L.z0;have v0:=L.v0;have t3:=L.t3;have a3:=L.a3;have z3:=L.z3;have v3:=L.v3;have t4:=L.t4;have a4:=L.a4;have z4:=L.z4;have v4:=L.v4;have t24:=L.t24;have a24:=L.a24;have z24:=L.z24;have v24:=L.v24;have u0:=run_underlying L.t0;have u3:=run_underlying L.t3;have u4:=run_underlying L.t4;have Nx:=run_underlying L.t24;have mixed:=L.mixed;have z9:=L.z9;rw [fb] at z9
 have jP:0<K:=by have:=L.k9;omega
 have vN:¬((m:Int)=0):=by omega
 have vO:¬((i:Int)=(n:Int)):=by omega
 have hz3:(c:Int)<(n:Int)+(m:Int):=by omega
 have Z4:g<w.heap.size:=(j4.1 hg).1
 have hvw:vb<w.heap.size:=by
  have pH:0<vs.length:=by rw [lE];exact OH hm jP
  exact block_lt_of_cell (iI 0 _ (bO pH))
 have pD:(n:Int)+(m:Int)-(i:Int)=((n+m-i:Nat):Int):=by omega
 have l9:i+(n+m-i)=n+m:=by omega
 have e0:i*K+(n-i)*K=n*K:=by rw [←bD,show i+(n-i)=n by omega]
 have e1:(i+m)*K+(n-i)*K=(n+m)*K:=by rw [←bD,show i+m+(n-i)=n+m by omega]
 have e3:i*K+m*K=(i+m)*K:=by rw [bD]
 have e4:(i+m)*K≤(n+m)*K:=bT _ (by omega);have e5:n*K≤c*K:=bT _ oF;have e6:i*K≤n*K:=bT _ (by omega);obtain ⟨us,eR⟩:∃us,us=(cur.drop (i*K)).take ((n-i)*K):=⟨_,rfl⟩
 have eG:us.length=(n-i)*K:=by rw [eR];simp;omega
 have l8:∀j v,us[j]?=some v→j<(n-i)*K∧cur[i*K+j]?=some v:=fun j v hj=>by
  have h1:=(fX.1 hj).1;rw [eG] at h1;rw [eR,fo,if_pos h1,gJ] at hj;exact ⟨h1,hj⟩
 have Af:∀v,v∈us→v.oneCell'=true:=fun v hv=>by
  obtain ⟨j,hj,rfl⟩:=Ot hv;obtain ⟨h1,h2⟩:=l8 j _ (bO hj);exact qn _ _ (by omega) h2
 have hold:(ui i0.size i (.slice (some ⟨g,0,none⟩) i c)).run P w.drew=.ok (cur.take (i*K)).toArray w.drew:=by
  rw [fb]
  exact run_firstCells_some w.drew K i ⟨g,0,none⟩ i c (cur.take (i*K)) (by rw [da];omega) (fun j v hj=>by
   rw [fC,Nat.zero_add];rw [fo] at hj;split at hj
   ·have dZ:w.drew.heap[g]?=some (.cells cur.toArray (ρ.t 9) (0,0)):=hg;simp [sf,dZ,hj]
   ·cases hj)
 obtain ⟨G,hG⟩:∃G,G=grownCap w (n+m) c (ρ.t 9):=⟨_,rfl⟩
 have Y7:n+m≤G:=by rw [hG];exact grownCap_ge w _ _ _
 obtain ⟨r0,cN⟩:∃r0:List Value,r0=cur.take (i*K)++(de z.cells (n+m-i)).toList++(de z.cells (G-(n+m))).toList:=⟨_,rfl⟩;have Ro:∀ty,(gB #[(ρ.t 24),(ρ.t 3)] ty #[.slice (some ⟨g,0,none⟩) i c,.int .i64 ((n:Int)+(m:Int)-(i:Int))]).run P w =
   .ok (.slice (some ⟨w.heap.size,0,none⟩) (n+m) G) (w.drew.alloc (.cells r0.toArray (ρ.t 9))):=fun ty=>by
  have h:=Lib.run_append_grow_zeros w (ρ.t 24) (ρ.t 3) ty (ρ.t 9) i0 _ .i64 .i64 L.t24 L.t3 L.i9 L.hz (some ⟨g,0,none⟩) i c (cur.take (i*K)) hold (n+m-i) (by omega) (by have:=L.k9;omega) (by omega) (by omega)
   (by have:(n+m-i)*i0.bytes≤(n+m)*i0.bytes:=bT _ (by omega);omega) (by rw [l9];exact growslice_fits eQ rk)
  rw [l9,←hG] at h;rw [pD,h,cN]
  have ea:∀(l:List Value) (x y:Array Value),l.toArray++x++y=(l++x.toList++y.toList).toArray:=fun l x y=>by apply Array.ext';simp
  rw [ea]
 have lF:∀k,(de z.cells k).toList.length=k*K:=fun k=>by
  rw [kE];simp [de,L.zs,fb]
 have JK:r0.length=G*K:=by
  rw [cN,cZ,cZ,lF,lF,da,ur (by omega),←bD,←bD];congr 1;omega
 have Eb:∀q,q<i*K→r0[q]?=cur[q]?:=fun q hq=>by
  rw [cN,oV,List.getElem?_append_left (by rw [da];omega),fo,if_pos hq]
 have hGK:(n+m)*K≤G*K:=bT _ Y7;obtain ⟨r1,AL⟩:∃r1,r1=lay r0 (i*K) vs:=⟨_,rfl⟩
 have aav:r1.length=G*K:=by rw [AL,lH (by rw [lE];omega),JK]
 obtain ⟨N,hN⟩:∃N,N=w.heap.size:=⟨_,rfl⟩
 have Zb:g≠N:=by omega
 have hNv:vb≠N:=by omega
 have ha:(w.drew.alloc (.cells r0.toArray (ρ.t 9))).heap[N]?=some (.cells r0.toArray (ρ.t 9) (0,0)):=by
  rw [hN];show (w.drew.heap.push (.cells r0.toArray (ρ.t 9)))[w.drew.heap.size]?=_;rw [lN,if_pos rfl]
 have IZ:∀b,b<w.heap.size→(w.drew.alloc (.cells r0.toArray (ρ.t 9))).heap[b]?=w.heap[b]?:=fun b hb=>by
  have:b≠w.drew.heap.size:=G_ hb;simp only [kL,lN,if_neg this];rfl
 rw [←hN] at Ro
 have ZJ:∀(W:World),W.heap=(w.drew.alloc (.cells r0.toArray (ρ.t 9))).heap→∀ty dc,(oT #[(ρ.t 24),(ρ.t 24)] ty #[.slice (some ⟨N,i*K,none⟩) (n+m-i) dc,.slice (some ⟨vb,vo,none⟩) m vc]).run P W=.ok (goInt (oh m (n+m-i))) (W.setRow N r1.toArray):=fun W hW ty dc=>by
  rw [AL];exact F6 W _ _ ty (ρ.t 9) i0 K L.t24 L.i9 fb N (i*K) (n+m-i) dc ⟨vb,vo,none⟩ m vc r0 (ρ.t 9) (by rw [hW];exact ha) vs (by rw [lE,show ∀a b:Nat,oh a b=min a b from fun _ _=>rfl,ur (by omega)])
   (fun j v hj=>by
    rw [fC];have:=iI j v hj;unfold sf at this ⊢
    rw [hW,IZ vb hvw];exact this) (by rw [lE,JK];omega) ph
 have cy:∀W:World,W.heap=(w.drew.alloc (.cells r0.toArray (ρ.t 9))).heap→(W.setRow N r1.toArray).heap[N]?=some (.cells r1.toArray (ρ.t 9) (0,0)):=fun W hW=>by
  simp only [uw,oa,if_true];rw [hW,ha];rfl
 have kP:∀W:World,W.heap=(w.drew.alloc (.cells r0.toArray (ρ.t 9))).heap→(W.setRow N r1.toArray).heap[g]?=some (.cells cur.toArray (ρ.t 9) (0,0)):=fun W hW=>by
  simp only [uw,oa,if_neg (Ne.symm Zb)];rw [hW,IZ g Z4];exact hg
 have Qv:∀(W:World),(∀b:Nat,W.heap[b]?=((w.drew.alloc (.cells r0.toArray (ρ.t 9))).setRow N r1.toArray).heap[b]?)→∀ty dc sc,(oT #[(ρ.t 24),(ρ.t 24)] ty #[.slice (some ⟨N,(i+m)*K,none⟩) (n+m-(i+m)) dc,.slice (some ⟨g,i*K,none⟩) (n-i) sc]).run P W=.ok (goInt (oh (n-i) (n+m-(i+m)))) (W.setRow N (lay r1 ((i+m)*K) us).toArray):=fun W hW ty dc sc =>
  F6 W _ _ ty (ρ.t 9) i0 K L.t24 L.i9 fb N ((i+m)*K) (n+m-(i+m)) dc ⟨g,i*K,none⟩ (n-i) sc r1 (ρ.t 9) (by rw [hW,cy _ rfl]) us (by rw [eG,show ∀a b:Nat,oh a b=min a b from fun _ _=>rfl,ur (by omega)])
   (fun j v hj=>by
    obtain ⟨_,h2⟩:=l8 j v hj;rw [fC];unfold sf;rw [hW,kP _ rfl]
    simp [h2]) (by rw [eG,aav];omega) Af
 have agL:G≤9223372036854775807:=by
  have:=grownCap_le_maxLen w (n+m) c (ρ.t 9) (by unfold maxLen;omega);rw [←hG] at this;unfold maxLen at this;omega
 have hGi:¬(G=i):=by omega
 have agM:¬(G=i+m):=by omega
 have xM:¬(c=i):=by omega
 have vK:IntKind.i64.wrap ((i:Int)+(m:Int))=(i:Int)+(m:Int):=by rw [VZ];omega
 have agN:(0:Int)≤(i:Int)+(m:Int):=by omega
 have sY:i≤n:=by omega
 have htn:((i:Int)+(m:Int)).toNat=i+m:=by omega
 have I1:(i:Int)≤(n:Int):=by omega
 have Y4:((w.alloc (.cells r0.toArray (ρ.t 9))).drew).heap=(w.drew.alloc (.cells r0.toArray (ρ.t 9))).heap:=rfl
 have Y5:∀b:Nat,(((w.alloc (.cells r0.toArray (ρ.t 9))).drew.setRow N r1.toArray).drew).heap[b]?=((w.drew.alloc (.cells r0.toArray (ρ.t 9))).setRow N r1.toArray).heap[b]?:=by
  intro b;rfl
 have sU:∃E2 La:List Value,E2.length=G*K∧(∀q,q<i*K→E2[q]?=cur[q]?)∧La=lay E2 (i*K) vs∧(((w.alloc (.cells r0.toArray (ρ.t 9))).drew.setRow N r1.toArray).drew).setRow N (lay r1 ((i+m)*K) us).toArray=(((w.alloc (.cells E2.toArray (ρ.t 9))).drew.setRow N La.toArray).drew).setRow N (lay La ((i+m)*K) us).toArray:=⟨r0,r1,JK,Eb,AL,rfl⟩;rw [←hG,←hN,←eR];clear pD l9 hold cN hG AL lF Eb cy kP IZ ha l8 eR eG hN;obtain ⟨_,_,FG⟩:=L.f22;go_enter FG,Body2.n22_ntmps ρ
 go_wp2_with (first
  |(at_builtin;refine G4 _ rfl _ _ _ _ rfl _ _ rfl rfl _ _ (Ro _) ?_)
  |(at_builtin;refine wpList_copy_runI _ rfl _ _ (ρ.t 24) (ρ.t 24) rfl _ _ rfl rfl (ZJ _ Y4 _ _) ?_)
  |(at_builtin;refine wpList_copy_runI _ rfl _ _ (ρ.t 24) (ρ.t 24) rfl _ _ rfl rfl (Qv _ (fun _=>rfl) _ _ _) ?_))
 go_region_law_o (refine step_copy_runI rfl _ _ (ρ.t 24) (ρ.t 24) rfl (.slice (some ⟨N,(i+m)*K,none⟩) (n+m-(i+m)) (G-(i+m))) (.slice (some ⟨g,i*K,none⟩) (n-i) (c-i)) (by simp [wW,hJ]) (by simp [wW,hJ]) (Qv _ Y5 (ρ.t 3) (G-(i+m)) (c-i)) ?_);go_wp2;go_ret;exact ⟨rfl,sU⟩
structure xg (P:Program) (ρ:Ren) (i0:TypeInfo) (z:Value):Prop where
 mixed:P.follows .mixedOrders=true
 f45:Bears P (ρ.f 45) (SlBodyN.n45 ρ)
 t0:P.underlying (ρ.t 0)=some (Wm #[])
 a0:∀w,(isAgg (ρ.t 0)).run P w=.ok false w
 z0:∀w,(pW (ρ.t 0)).run P w=.ok 1 w
 v0:∀w,(zeroValue (ρ.t 0)).run P w=.ok (Value.tuple #[]) w
 t3:P.underlying (ρ.t 3)=some (Wj G3)
 a3:∀w,(isAgg (ρ.t 3)).run P w=.ok false w
 z3:∀w,(pW (ρ.t 3)).run P w=.ok 1 w
 v3:∀w,(zeroValue (ρ.t 3)).run P w=.ok (Value.int G3 0) w
 t4:P.underlying (ρ.t 4)=some (Wi)
 a4:∀w,(isAgg (ρ.t 4)).run P w=.ok false w
 z4:∀w,(pW (ρ.t 4)).run P w=.ok 1 w
 v4:∀w,(zeroValue (ρ.t 4)).run P w=.ok (zK false) w
 t22:P.underlying (ρ.t 22)=some (Wl (ρ.t 23))
 a22:∀w,(isAgg (ρ.t 22)).run P w=.ok false w
 z22:∀w,(pW (ρ.t 22)).run P w=.ok 1 w
 v22:∀w,(zeroValue (ρ.t 22)).run P w=.ok (OM none 0 0) w
 i23:P.info? (ρ.t 23)=some i0
 z23:∀w,(pW (ρ.t 23)).run P w=.ok i0.size w
 v23:∀w,(zeroValue (ρ.t 23)).run P w=.ok z w
 tp:0<i0.size
 zs:z.cells.size=i0.size
 z1:∀v,v∈z.cells.toList→v.oneCell'=true
def ad4 {ops:Array Oper} {o:Oper} {a:Act} {w:World} {Kk:Act→World→Prop} {Q:Exit→Act→World→Prop} {E:Prop} (dZ:o.guard=none) (s x:Operand) (t:TypeId) (oG:o.op=Op.call { callee:=Callee.builtin Builtin.append,args:=#[s,x],argTypes:=#[t,t] })
  (v u:Value) (hs:a.eval s=v) (hx:a.eval x=u) {v':Value} {w':World} (hr:(gB #[t,t] o.type #[v,u]).run P w=.ok v' w') (hK:Kk (a.put o.dst v') w') :
  if dA o (yielded ops a.tmps)=true then Oper.wp P o a w Kk Q else E:=by
 have hw:dA o (yielded ops a.tmps)=true:=by simp [dA,dZ]
 rw [if_pos hw];unfold Oper.wp;simp [execOp,oG,resolve,invoke,builtin,hs,hx,hr,Result.andThen];exact hK
def ac0 (w:World) (t e ty:TypeId) (z:Value) (K:Nat) (ht:P.underlying t=some (.slice e)) (hv:∀w,(zeroValue e).run P w=.ok z w) (hz:z.cells.size=K) (h1:∀v,v∈z.cells.toList→v.oneCell'=true) (g o n c:Nat) (hn:0<n) (cur:List Value) (tt:TypeId)
  (hg:w.heap[g]?=some (.cells cur.toArray tt (0,0))) (iF:o+n*K≤cur.length) :
  (rY #[t] ty #[.slice (some ⟨g,o,none⟩) n c]).run P w=.ok (.tuple #[]) (w.setRow g (lay cur o (de z.cells n).toList).toArray):=by
 have hl:(de z.cells n).toList.length=n*K:=by rw [kE];simp [de,hz]
 have lX:∀v,v∈(de z.cells n).toList→v.oneCell'=true:=fun v jk=>by
  simp [de] at jk;obtain ⟨q,hq,rfl⟩:=jk
  have pH:0<z.cells.size:=by
   rcases Nat.eq_zero_or_pos z.cells.size with h|h
   ·rw [h] at hq;simp at hq
   ·exact h
  have Ξ:=p6 q pH;refine h1 _ ?_;rw [getElem!_pos z.cells _ Ξ];simp
 have dy:=run_storeCells_at P g o tt (de z.cells n).toList 0 cur.toArray w hg (by rw [hl];simpa using iF) lX;simp only [kJ] at dy;obtain ⟨m,rfl⟩:∃m,n=m+1:=⟨n-1,by omega⟩;simp [rY,run_underlying ht,hv,dy,lay]
set_option maxHeartbeats 4000000 in
set_option maxRecDepth 1000000 in
def Xn {i0:TypeInfo} {z:Value} (L:xg P ρ i0 z) (K g c n i j:Nat) (cur:List Value) (w:World) (fb:i0.size=K) (et:i<j) (hj:j≤n) (oF:n≤c) (Qt:c≤9223372036854775807)
  (hg:w.heap[g]?=some (.cells cur.toArray (ρ.t 23) (0,0))) (hs:cur.length=c*K) (qn:∀q v,q<n*K→cur[q]?=some v→v.oneCell'=true) :
  Calls P (ρ.f 45) #[.slice (some ⟨g,0,none⟩) n c,.int .i64 i,.int .i64 j] w fun e w' =>
   e=.returned (.slice (some ⟨g,0,none⟩) (i+(n-j)) c)∧∃zs:List Value,zs.length=(j-i)*K ∧
   w'=(w.drew.setRow g (lay cur (i*K) ((cur.drop (j*K)).take ((n-j)*K))).toArray).setRow g (lay (lay cur (i*K) ((cur.drop (j*K)).take ((n-j)*K))) ((i+(n-j))*K) zs).toArray:=by
 have mixed:=L.mixed;have t0:=L.t0;have a0:=L.a0;have z0:=L.z0;have v0:=L.v0;have t3:=L.t3;have a3:=L.a3;have z3:=L.z3;have v3:=L.v3;have t4:=L.t4;have a4:=L.a4;have z4:=L.z4;have v4:=L.v4;have t22:=L.t22;have a22:=L.a22;have z22:=L.z22;have v22:=L.v22;have z23:=L.z23;rw [fb] at z23
 have jP:0<K:=by have:=L.tp;omega
 have e0:j*K+(n-j)*K=n*K:=by rw [←bD,show j+(n-j)=n by omega]
 have e1:i*K+(n-j)*K=(i+(n-j))*K:=by rw [bD]
 have e2:(i+(n-j))*K+(j-i)*K=n*K:=by rw [←bD,show i+(n-j)+(j-i)=n by omega]
 have e3:n*K≤c*K:=bT _ oF;obtain ⟨us,eR⟩:∃us,us=(cur.drop (j*K)).take ((n-j)*K):=⟨_,rfl⟩
 have eG:us.length=(n-j)*K:=by rw [eR];simp;omega
 have l8:∀q v,us[q]?=some v→q<(n-j)*K∧cur[j*K+q]?=some v:=fun q v hq=>by
  have h1:=(fX.1 hq).1;rw [eG] at h1;rw [eR,fo,if_pos h1,gJ] at hq;exact ⟨h1,hq⟩
 have Af:∀v,v∈us→v.oneCell'=true:=fun v hv=>by
  obtain ⟨q,hq,rfl⟩:=Ot hv;obtain ⟨h1,h2⟩:=l8 q _ (bO hq);exact qn _ _ (by omega) h2
 have dZ:w.drew.heap[g]?=some (.cells cur.toArray (ρ.t 23) (0,0)):=hg
 obtain ⟨A,hA,gS⟩:∃A:Addr,(if c=j then some (⟨g,0,none⟩:Addr) else some ⟨g,j*K,none⟩)=some A∧∀q u,us[q]?=some u→w.drew.cell? (A.add q)=some u:=by
  by_cases h:c=j
  ·refine ⟨⟨g,0,none⟩,by simp [h],fun q u hu=>?_⟩;have h1:=(l8 q u hu).1
   have h2:n-j=0:=by omega
   rw [h2] at h1;omega
  ·refine ⟨⟨g,j*K,none⟩,by simp [h],fun q u hu=>?_⟩;have h2:=(l8 q u hu).2;rw [fC];simp [sf,dZ,h2]
 obtain ⟨c1,ah⟩:∃c1,c1=lay cur (i*K) us:=⟨_,rfl⟩
 have I4:c1.length=c*K:=by rw [ah,lH (by rw [eG];omega),hs]
 have Ql:∀ty,(gB #[ρ.t 22,ρ.t 22] ty #[.slice (some ⟨g,0,none⟩) i c,.slice (some A) (n-j) (c-j)]).run P w.drew=.ok (.slice (some ⟨g,0,none⟩) (i+(n-j)) c) (w.drew.setRow g c1.toArray):=fun ty=>by
  rw [ah];exact Ue w.drew _ _ ty (ρ.t 23) i0 K L.t22 L.i23 fb g i c cur dZ _ (n-j) us (by rw [fb];exact N7 w.drew L.t22 A (n-j) (c-j) us eG gS Af) (by omega) (by rw [eG];omega)
 have ξ:(w.drew.setRow g c1.toArray).heap[g]?=some (.cells c1.toArray (ρ.t 23) (0,0)):=by simp [uw,oa,dZ]
 obtain ⟨W1,iD⟩:∃W1,W1=w.drew.setRow g c1.toArray:=⟨_,rfl⟩;obtain ⟨zs,gT⟩:∃zs:List Value,zs=(de z.cells (n-(i+(n-j)))).toList:=⟨_,rfl⟩
 have lF:zs.length=(j-i)*K:=by
  rw [gT,kE,show n-(i+(n-j))=j-i by omega];simp [de,L.zs,fb]
 have dH:∀ty cc,(rY #[ρ.t 22] ty #[.slice (some ⟨g,(i+(n-j))*K,none⟩) (n-(i+(n-j))) cc]).run P W1=.ok (.tuple #[]) (W1.setRow g (lay c1 ((i+(n-j))*K) zs).toArray):=fun ty cc=>by
  rw [iD,gT]
  exact ac0 _ _ _ ty z K L.t22 L.v23 (by rw [L.zs,fb]) L.z1 g ((i+(n-j))*K) (n-(i+(n-j))) cc (by omega) c1 (ρ.t 23) ξ (by
   rw [I4,show n-(i+(n-j))=j-i by omega];omega)
 rw [←eR];have sU:∃VH:List Value,VH.length=(j-i)*K∧W1.setRow g (lay c1 ((i+(n-j))*K) zs).toArray=(w.drew.setRow g (lay cur (i*K) us).toArray).setRow g (lay (lay cur (i*K) us) ((i+(n-j))*K) VH).toArray:=⟨zs,lF,by rw [iD,ah]⟩
 have QK:i≤c:=by omega
 have QO:j≤c:=by omega
 have hle:i≤j:=by omega
 have aS:¬((i:Int)=(j:Int)):=by omega
 rw [←iD] at Ql;clear iD ah eR l8 eG dZ gT ξ;obtain ⟨_,_,FG⟩:=L.f45;go_enter FG,SlBodyN.n45_ntmps ρ;go_wp2_with fail;go_region_law_o (refine ad4 rfl (.tmp 22) (.tmp 25) (ρ.t 22) rfl _ _ (by simp [wW,hJ]) (by simp [wW,hJ,hA]) (Ql _) ?_);go_wp2;go_ret;exact ⟨rfl,sU⟩
end
section
open Go.Shelf Go.Proofs
variable [M:bU] [G:dC]
section
variable {w w':World} {F:Nat→Prop} {β:Nat→Value} {E K:Nat} {l l':List (List AV)} {v:Value}
def SN (hI:Inv w F β [(1000,.own E K l)]) (rI:w'.os=w.os) (ht:iP w w') (ho:w'.output=w.output) (hs:w.heap.size≤w'.heap.size)
  (hb:∀b,b<w.heap.size→¬br β [(1000,.own E K l)] b→w'.heap[b]?=w.heap[b]?)
  (hv:∃g cap cur,v=.slice (some ⟨g,0,none⟩) l'.length cap∧(w.heap.size≤g∨br β [(1000,.own E K l)] g)∧0<cap∧w'.heap[g]?=some (.cells cur E (0,0))∧l'.length≤cap∧cap≤maxLen∧cur.size=cap*K∧(∀i,i<l'.length→(l'.getD i []).length=K) ∧
   ∀i j,i<l'.length→j<K→(cur.getD (i*K+j) undef).oneCell'=true∧bh w F ((l'.getD i []).getD j .χ) (cur.getD (i*K+j) undef)) :
  Ext w F β ⟨aM,[(1000,.own E K l)]⟩ w' F (fun i=>if i=900 then v else β i) ⟨aM,[(900,.own E K l')]⟩:=by
 obtain ⟨g,cap,cur,rfl,hg,mW,hh,mb,l5,eO,hK,hr⟩:=hv;have ha:fy F w w':=fun b hF=>hb b (hI.bW b hF) fun h=>hI.apart b h hF
 have cY:∀b,br (fun i=>if i=900 then OM (some ⟨g,0,none⟩) l'.length cap else β i) [(900,.own E K l')] b→b=g:=by
  rintro b ⟨i,c,hm,jQ⟩;simp only [dV,gC] at hm;obtain ⟨rfl,rfl⟩:=hm
  have pc:aG cap 0=false:=by cases cap<;>first|rfl|omega
  simp [bF,pc] at jQ;exact jQ.symm
 refine ⟨rI,ht,ho,hs,hb,fun _ h=>h,fun _ h=>.inl h,fun b h=>by rw [cY b h];exact hg,fun _ _ _=>.χ,⟨fun b hF=>mJ (hI.bW b hF) hs,fun i c hm=>?_,by simp,fun b h hF=>?_,fun i c i' c' b h1 h2 _ _=>?_,hI.eN.at ha⟩,fun i hi=>if_neg (by omega)⟩
 ·simp only [dV,gC] at hm;obtain ⟨rfl,rfl⟩:=hm;exact .inr ⟨g,cap,cur,if_pos rfl,mW,hh,mb,l5,eO,hK,fun i j hi hj=>⟨(hr i j hi hj).1,(hr i j hi hj).2.frame ha fun _ h=>h⟩⟩
 ·have:=cY b h;subst this
  rcases hg with h1|h1
  ·have:=hI.bW b hF;omega
  ·exact hI.apart b h1 hF
 ·simp only [dV,gC] at h1 h2;rw [h1.1,h2.1]
def RO (l x:List (List AV)) (i r:Nat) (hi:i≤l.length):(eW l (i:Int) x).getD r []=if r<i then l.getD r [] else if r<i+x.length then x.getD (r-i) [] else l.getD (r-x.length) []:=by
 simp only [eW,jH,aY,fW,cZ,da,fo,gJ,ur hi];by_cases h1:r<i
 ·have h2:r<i+x.length:=by omega
  simp [h1,h2]
 ·by_cases h2:r<i+x.length
  ·simp [h1,h2]
  ·have h3:i+(r-(i+x.length))=r-x.length:=by omega
   simp [h1,h2,h3]
def aa0 {Q:AV→Value→Prop} {x:List (List AV)} {i n:Nat} {cur vs X:List Value} (hn:n=l.length) (hi:i≤n) (hX:∀q,q<(n+x.length)*K→X[q]?=if q<i*K then cur[q]? else if q<(i+x.length)*K then vs[q-i*K]? else cur[q-x.length*K]?)
  (hl:∀r j,r<n→j<K→Q ((l.getD r []).getD j .χ) (cur.getD (r*K+j) undef)) (hx:∀r j,r<x.length→j<K→Q ((x.getD r []).getD j .χ) (vs.getD (r*K+j) undef)) :
  ∀r j,r<(eW l (i:Int) x).length→j<K→Q (((eW l (i:Int) x).getD r []).getD j .χ) (X.getD (r*K+j) undef):=by
 intro r j hr hj
 have hlen:(eW l (i:Int) x).length=n+x.length:=by simp [eW];omega
 rw [hlen] at hr
 have hq:r*K+j<(n+x.length)*K:=by
  calc r*K+j<r*K+K:=by omega
   _=(r+1)*K:=by rw [bD];omega
   _≤_:=bT _ hr
 rw [RO l x i r (by omega),show X.getD (r*K+j) undef=(X[r*K+j]?).getD undef from fk ..,hX _ hq];by_cases h1:r<i
 ·have:r*K+j<i*K:=by
   calc r*K+j<(r+1)*K:=by rw [bD];omega
    _≤_:=bT _ h1
  rw [if_pos h1,if_pos this,show ∀(a:List Value) b,(a[b]?).getD undef=a.getD b undef from fun a b=>(fk ..).symm];exact hl r j (by omega) hj
 ·have lX:¬r*K+j<i*K:=by
   have:i*K≤r*K:=bT _ (by omega);omega
  rw [if_neg h1,if_neg lX];by_cases h2:r<i+x.length
  ·have:r*K+j<(i+x.length)*K:=by
    calc r*K+j<(r+1)*K:=by rw [bD];omega
     _≤_:=bT _ h2
   rw [if_pos h2,if_pos this]
   have e:r*K+j-i*K=(r-i)*K+j:=by
    have:i*K≤r*K:=bT _ (by omega);rw [Nat.sub_mul];omega
   rw [e,show ∀(a:List Value) b,(a[b]?).getD undef=a.getD b undef from fun a b=>(fk ..).symm];exact hx (r-i) j (by omega) hj
  ·have:¬r*K+j<(i+x.length)*K:=by
    have:(i+x.length)*K≤r*K:=bT _ (by omega);omega
   rw [if_neg h2,if_neg this]
   have e:r*K+j-x.length*K=(r-x.length)*K+j:=by
    have:x.length*K≤r*K:=bT _ (by omega);rw [Nat.sub_mul];omega
   rw [e,show ∀(a:List Value) b,(a[b]?).getD undef=a.getD b undef from fun a b=>(fk ..).symm];exact hl (r-x.length) j (by omega) hj
def aaZ {x:List (List AV)} {i:Nat} (hi:i≤l.length) (hl:∀r,r<l.length→(l.getD r []).length=K) (hx:∀r,r<x.length→(x.getD r []).length=K):∀r,r<(eW l (i:Int) x).length→((eW l (i:Int) x).getD r []).length=K:=by
 intro r hr
 have hlen:(eW l (i:Int) x).length=l.length+x.length:=by simp [eW];omega
 rw [hlen] at hr;rw [RO l x i r hi];by_cases h1:r<i
 ·rw [if_pos h1];exact hl r (by omega)
 ·rw [if_neg h1];by_cases h2:r<i+x.length
  ·rw [if_pos h2];exact hx _ (by omega)
  ·rw [if_neg h2];exact hl _ (by omega)
end
def three {vs:Array Value} {a b c:Value} (hs:vs.size=3) (h0:vs.getD 0 undef=a) (h1:vs.getD 1 undef=b) (h2:vs.getD 2 undef=c):vs=#[a,b,c]:=by
 apply Array.ext
 ·simpa using hs
 ·intro i h3 h4;have h4:i<3:=h4
  have:i=0∨i=1∨i=2:=by omega
  rcases this with rfl|rfl|rfl
  ·simpa [hs] using h0
  ·simpa [hs] using h1
  ·simpa [hs] using h2
def abm {cur us vs:List Value} {K c i m n:Nat} (hc:cur.length=c*K) (hi:i≤n) (eQ:n+m≤c) (hu:us=(cur.drop (i*K)).take ((n-i)*K)) (hv:vs.length=m*K) :
  ∀q,q<(n+m)*K→(lay (lay cur ((i+m)*K) us) (i*K) vs)[q]?=if q<i*K then cur[q]? else if q<(i+m)*K then vs[q-i*K]? else cur[q-m*K]?:=by
 intro q hq
 have e0:i*K+(n-i)*K=n*K:=by rw [←bD,show i+(n-i)=n by omega]
 have e1:(i+m)*K+(n-i)*K=(n+m)*K:=by rw [←bD,show i+m+(n-i)=n+m by omega]
 have e2:(n+m)*K≤c*K:=bT _ eQ
 have e3:i*K+m*K=(i+m)*K:=by rw [bD]
 have e4:n*K+m*K=(n+m)*K:=by rw [bD]
 have eG:us.length=(n-i)*K:=by rw [hu];simp;omega
 rw [vU (by rw [lH (by omega)];omega),vU (by omega)];by_cases h1:q<i*K
 ·have h2:q<(i+m)*K:=by omega
  simp only [h1,h2,if_true]
 ·by_cases h2:q<(i+m)*K
  ·have h3:q<i*K+vs.length:=by omega
   simp only [h1,h2,h3,if_true,if_false]
  ·have h3:¬q<i*K+vs.length:=by omega
   have h4:q<(i+m)*K+us.length:=by omega
   simp only [h1,h2,h3,h4,if_true,if_false];rw [hu,fo,if_pos (by omega),gJ];congr 1;omega
def Calls.to {P:Program} {g:FuncId} {vs:Array Value} {w:World} {Q Q':Ending→World→Prop} (h:Calls P g vs w Q) (hq:∀e w',Q e w'→Q' e w'):Calls P g vs w Q':=h.mono hq
set_option maxHeartbeats 2000000 in
def abn {cur us vs r0:List Value} {K G i m n:Nat} (hr:r0.length=G*K) (hi:i≤n) (eQ:n+m≤G) (dH:n*K≤cur.length) (cN:∀q,q<i*K→r0[q]?=cur[q]?) (hu:us=(cur.drop (i*K)).take ((n-i)*K)) (hv:vs.length=m*K) :
  ∀q,q<(n+m)*K→(lay (lay r0 (i*K) vs) ((i+m)*K) us)[q]?=if q<i*K then cur[q]? else if q<(i+m)*K then vs[q-i*K]? else cur[q-m*K]?:=by
 intro q hq
 have e0:i*K+(n-i)*K=n*K:=by rw [←bD,show i+(n-i)=n by omega]
 have e1:(i+m)*K+(n-i)*K=(n+m)*K:=by rw [←bD,show i+m+(n-i)=n+m by omega]
 have e2:(n+m)*K≤G*K:=bT _ eQ
 have e3:i*K+m*K=(i+m)*K:=by rw [bD]
 have e4:n*K+m*K=(n+m)*K:=by rw [bD]
 have eG:us.length=(n-i)*K:=by rw [hu];simp;omega
 rw [vU (by rw [lH (by omega)];omega),vU (by omega)];by_cases h1:q<i*K
 ·have h2:q<(i+m)*K:=by omega
  simp only [h1,h2,if_true];exact cN q h1
 ·by_cases h2:q<(i+m)*K
  ·have h3:q<i*K+vs.length:=by omega
   simp only [h1,h2,h3,if_true,if_false]
  ·have h4:q<(i+m)*K+us.length:=by omega
   simp only [h1,h2,h4,if_true,if_false];rw [hu,fo,if_pos (by omega),gJ];congr 1;omega
def uK (w:World) (g:Nat) (a:Array Value) {E:Nat} {c:Array Value} (h:w.heap[g]?=some (.cells c E (0,0))):(w.setRow g a).heap[g]?=some (.cells a E (0,0)):=by
 simp [uw,oa,h]
def wC (w:World) (g:Nat) (a:Array Value):(w.setRow g a).heap.size=w.heap.size:=by simp [uw]
def wB (w:World) (g:Nat) (a:Array Value) (b:Nat) (h:b≠g):(w.setRow g a).heap[b]?=w.heap[b]?:=by
 simp [uw,oa,Ne.symm h]
def Em {P:Program} {ρ:Ren} {i0:TypeInfo} {z:Value} (L:qZ P ρ i0 z) {K:Nat} (fb:i0.size=K) (jR:0<i0.bytes) (l x:List (List AV)) (i:Int) (hx:∀r,r∈x→r.length=K)
  (h:(0:Int)≤i∧i≤(l.length:Int)∧0<x.length∧(l.length+x.length)*i0.bytes≤140737488355328) :
  Θ P (.f (ρ.f 22)) [.o 1000,vi i,.s x] ⟨aM,[(1000,.own (ρ.t 9) K l)]⟩ fun r s=>r=.o 900∧s.H=[(900,.own (ρ.t 9) K (eW l i x))]:=by
 obtain ⟨nm,dg,hf⟩:=L.f22;refine ⟨⟨_,_,hf,dg,rfl⟩,fun w F β vs hI hs hv=>?_⟩;obtain ⟨pA,sX,hm,rk⟩:=h;obtain ⟨i',rfl⟩:∃i':Nat,i=(i':Int):=⟨i.toNat,by omega⟩
 have sX:i'≤l.length:=by omega
 have qo:l.length+x.length≤140737488355328:=dN (Nat.le_mul_of_pos_right _ jR) rk;obtain ⟨a,n,c,aj,e0⟩:=(hv 0 (by simp)).jo;have e1:=(hv 1 (by simp)).bA;have h2:=hv 2 (by simp);change Rd w F β (.s x) _ at h2
 have hxK:∀r,r<x.length→(x.getD r []).length=K:=fun r hr=>by
  rw [fk,bO hr];exact hx _ (eH _)
 rcases h2.np.qM with ⟨rfl,_,_⟩|⟨vb,vo,vc,K',u,uP,hvc,agY,e2,IW,hu⟩
 ·simp at hm
 obtain ⟨news,nO⟩:=MW (w:=w) (F:=F) (b:=vb) (off:=vo) (u:=u) (show nC x K from hx) IW hu;have iI:=three hs e0 e1 e2;subst iI
 have jP:0<K:=by have:=L.k9;omega
 have ni:∀r j,r<x.length→j<K→(news.getD (r*K+j) undef).oneCell'=true∧bh w F ((x.getD r []).getD j .χ) (news.getD (r*K+j) undef):=fun r j hr hj=>by
  have hq:r*K+j<x.length*K:=by
   calc r*K+j<(r+1)*K:=by rw [bD];omega
    _≤_:=bT _ hr
  refine ⟨nO.one _ ?_,nO.rd r j hr hj⟩;rw [fk,bO (by rw [nO.len];exact hq)];exact eH _
 have ek:∀j v,news[j]?=some v→w.cell? ⟨vb,vo+j,none⟩=some v:=fun j v hj=>by
  have:=nO.cell j v hj;rwa [fC] at this
 have fin:∀(w':World) (v:Value),w'.os=w.os→iP w w'→w'.output=w.output→w.heap.size≤w'.heap.size→(∀b,b<w.heap.size→¬br β [(1000,Chunk.own (ρ.t 9) K l)] b→w'.heap[b]?=w.heap[b]?) →
   (∃g cap cur,v=.slice (some ⟨g,0,none⟩) (l.length+x.length) cap∧(w.heap.size≤g∨br β [(1000,.own (ρ.t 9) K l)] g)∧0<cap∧w'.heap[g]?=some (.cells cur (ρ.t 9) (0,0))∧l.length+x.length≤cap∧cap≤maxLen∧cur.size=cap*K∧(∀r,r<l.length→(l.getD r []).length=K) ∧
    ∀r j,r<(eW l (i':Int) x).length→j<K→(cur.getD (r*K+j) undef).oneCell'=true∧bh w F (((eW l (i':Int) x).getD r []).getD j .χ) (cur.getD (r*K+j) undef)) →
   ∃v',Ending.returned v=.returned v'∧∃r av F' aw,(r=AV.o 900∧av.H=[(900,Chunk.own (ρ.t 9) K (eW l (i':Int) x))])∧Rd w' F' aw r v'∧Ext w F β ⟨aM,[(1000,.own (ρ.t 9) K l)]⟩ w' F' aw av:=by
  rintro w' v h1 h2 h3 h4 h5 ⟨g,cap,cur,rfl,h6,h7,h8,h9,DG,DH,pf,Y0⟩
  have hlen:(eW l (i':Int) x).length=l.length+x.length:=by simp [eW];omega
  refine ⟨_,rfl,.o 900,⟨aM,[(900,.own (ρ.t 9) K (eW l (i':Int) x))]⟩,F,_,⟨rfl,rfl⟩,.o ?_,SN (v:=.slice (some ⟨g,0,none⟩) (l.length+x.length) cap) hI h1 h2 h3 h4 h5 ⟨g,cap,cur,by rw [hlen],h6,h7,h8,by rw [hlen];exact h9,DG,DH,aaZ sX pf hxK,Y0⟩⟩;exact if_pos rfl
 have ij:(1000,Chunk.own (ρ.t 9) K l)∈[(1000,Chunk.own (ρ.t 9) K l)]:=by simp
 rcases hI.holds _ _ ij with ⟨rfl,a',nI⟩|⟨g,cap,cur,rq,ig,hg,mb,l5,eO,rD,D0⟩
 ·-- nothing yet
  rw [aj] at nI;cases nI
  have Z8:i'=0:=by simpa using sX
  subst Z8;refine Calls.to (RS L K a 0 0 vb vo x.length vc [] news w fb hm (bm _) (by omega) (by simpa using rk) (by simpa using qo) (by simp) nO.len (fun _=>rfl) (fun _ _ j v hj=>by simp at hj) ek nO.one) ?_;rintro e w' ⟨rfl,rfl⟩;have hG:=grownCap_ge w (0+x.length) 0 (ρ.t 9);refine fin _ _ rfl ⟨rfl,fun _=>jt _⟩ rfl (by simp [kL]) (fun b hb _=>?_) ⟨w.heap.size,grownCap w (0+x.length) 0 (ρ.t 9),([]++news).toArray++de z.cells (grownCap w (0+x.length) 0 (ρ.t 9)-(0+x.length)),by simp,.inl (bm _),by omega,?_,by simpa using hG,grownCap_le_maxLen w _ _ _ (by unfold maxLen;omega),?_,fun r hr=>by simp at hr,fun r j hr hj=>?_⟩
  ·have:b≠w.drew.heap.size:=G_ hb;simp only [kL,lN,if_neg this];rfl
  ·show (w.drew.heap.push _)[w.drew.heap.size]?=_;rw [lN,if_pos rfl]
  ·simp only [w_,qS,j6,nO.len];rw [show (de z.cells (grownCap w (0+x.length) 0 (ρ.t 9)-(0+x.length))).size=(grownCap w (0+x.length) 0 (ρ.t 9)-(0+x.length))*K by simp [de,L.zs,fb],←bD];congr 1;omega
  ·have cj:r<x.length:=by simpa [eW] using hr
   have hq:r*K+j<news.length:=by
    rw [nO.len]
    calc r*K+j<(r+1)*K:=by rw [bD];omega
     _≤_:=bT _ cj
   have e:(([]++news).toArray++de z.cells (grownCap w (0+x.length) 0 (ρ.t 9)-(0+x.length))).getD (r*K+j) undef=news.getD (r*K+j) undef:=by
    simp only [w_,j3,n_,j6,hq,if_true,List.getElem?_toArray,fk]
   rw [e];have:=ni r j cj hj;simpa [eW] using this
 ·rw [aj] at rq;cases rq;obtain ⟨n,hn⟩:∃n,n=l.length:=⟨_,rfl⟩;obtain ⟨cl,rfl⟩:∃cl:List Value,cur=cl.toArray:=⟨cur.toList,by simp⟩
  have pc:aG c 0=false:=by cases c<;>first|rfl|omega
  have ho:br β [(1000,Chunk.own (ρ.t 9) K l)] g:=⟨1000,_,ij,by rw [aj];simp [bF,pc]⟩;have Eg:vb≠g:=fun e=>hI.apart g ho (e▸uP);have gx:∀b,¬br β [(1000,Chunk.own (ρ.t 9) K l)] b→b≠g:=fun b hb e=>hb (e▸ho)
  have dH:cl.length=c*K:=by simpa using eO
  have oF:n*K≤c*K:=bT _ (by omega)
  have xY:∀r j,r<n→j<K→(cl.getD (r*K+j) undef).oneCell'=true∧bh w F ((l.getD r []).getD j .χ) (cl.getD (r*K+j) undef):=fun r j hr hj=>by
   have:=D0 r j (by omega) hj;rwa [sy cl.toArray cl rfl] at this
  have qn:∀q v,q<n*K→cl[q]?=some v→v.oneCell'=true:=fun q v hq jk=>by
   have h3:q/K<n:=(xa jP).2 hq;have h4:q % K<K:=p6 _ jP
   have h5:q/K*K+q % K=q:=by rw [Nat.mul_comm];exact OE q K
   have:=(xY _ _ h3 h4).1;rw [h5,fk,jk] at this;exact this
  have hQ:∀X:List Value,(∀q,q<(n+x.length)*K→X[q]?=if q<i'*K then cl[q]? else if q<(i'+x.length)*K then news[q-i'*K]? else cl[q-x.length*K]?) →
    ∀r j,r<(eW l (i':Int) x).length→j<K→(X.toArray.getD (r*K+j) undef).oneCell'=true∧bh w F (((eW l (i':Int) x).getD r []).getD j .χ) (X.toArray.getD (r*K+j) undef):=fun X hX r j hr hj=>by
   rw [sy X.toArray X rfl];exact aa0 (Q:=fun a v=>v.oneCell'=true∧bh w F a v) hn (by omega) hX xY ni r j hr hj
  rw [←hn] at rk qo sX mb rD fin ⊢
  have fG:c≤9223372036854775807:=by have:=l5;unfold maxLen at this;omega
  have sZ:news.length=x.length*K:=nO.len;by_cases sY:i'<n
  ·by_cases eQ:n+x.length≤c
   ·refine Calls.to (aa4 L K g c n i' vb vo x.length vc cl news w fb sY hm eQ fG Eg hg dH sZ ek qn nO.one) ?_;rintro e w' ⟨rfl,rfl⟩;refine fin _ _ rfl ⟨rfl,fun _=>jt _⟩ rfl (by rw [wC,wC];exact bm _) (fun b hb bw=>by rw [wB _ _ _ _ (gx b bw),wB _ _ _ _ (gx b bw)];rfl)
     ⟨g,c,_,rfl,.inr ho,ig,uK _ _ _ (uK _ _ _ (show w.drew.heap[g]?=_ from hg)),eQ,l5,?_,rD,hQ _ (abm dH (by omega) eQ rfl sZ)⟩
    have e1:(i'+x.length)*K+(n-i')*K=(n+x.length)*K:=by rw [←bD,show i'+x.length+(n-i')=n+x.length by omega]
    have e2:(n+x.length)*K≤c*K:=bT _ eQ
    have e3:i'*K+x.length*K=(i'+x.length)*K:=by rw [bD]
    have e0:i'*K+(n-i')*K=n*K:=by rw [←bD,show i'+(n-i')=n by omega]
    have eG:((cl.drop (i'*K)).take ((n-i')*K)).length=(n-i')*K:=by simp;omega
    rw [j6,lH (by rw [lH (by rw [eG];omega)];omega),lH (by rw [eG];omega)];exact dH
   ·refine Calls.to (aa1 L K g c n i' vb vo x.length vc cl news w fb sY hm (by omega) (by omega) rk qo hg dH sZ ek qn nO.one) ?_;rintro e w' ⟨rfl,r0,r1,cN,Eb,rfl,rfl⟩;have hG:=grownCap_ge w (n+x.length) c (ρ.t 9)
    have eu:(w.alloc (.cells r0.toArray (ρ.t 9))).drew.heap[w.heap.size]?=some (.cells r0.toArray (ρ.t 9) (0,0)):=by
     show (w.heap.push _)[w.heap.size]?=_;rw [lN,if_pos rfl]
    refine fin _ _ rfl ⟨rfl,fun _=>dN (jt _) (jt _)⟩ rfl ?_ (fun b hb bw=>?_)
     ⟨w.heap.size,grownCap w (n+x.length) c (ρ.t 9),_,rfl,.inl (bm _),by omega,uK _ _ _ (show _=_ from uK _ _ _ eu),hG,grownCap_le_maxLen w _ _ _ (by unfold maxLen;omega),?_,rD,hQ _ (abn cN (by omega) hG (by omega) Eb rfl sZ)⟩
    ·rw [wC];show w.heap.size≤((w.alloc (.cells r0.toArray (ρ.t 9))).drew.setRow w.heap.size _).heap.size;rw [wC];show w.heap.size≤(w.heap.push _).size;simp
    ·have aS:b≠w.heap.size:=G_ hb;rw [wB _ _ _ _ aS];show ((w.alloc (.cells r0.toArray (ρ.t 9))).drew.setRow w.heap.size _).heap[b]?=_;rw [wB _ _ _ _ aS];show (w.heap.push _)[b]?=_;rw [lN,if_neg aS]
    ·have e1:(i'+x.length)*K+(n-i')*K=(n+x.length)*K:=by rw [←bD,show i'+x.length+(n-i')=n+x.length by omega]
     have e2:(n+x.length)*K≤grownCap w (n+x.length) c (ρ.t 9)*K:=bT _ hG
     have e3:i'*K+x.length*K=(i'+x.length)*K:=by rw [bD]
     have e0:i'*K+(n-i')*K=n*K:=by rw [←bD,show i'+(n-i')=n by omega]
     have eG:((cl.drop (i'*K)).take ((n-i')*K)).length=(n-i')*K:=by simp;omega
     rw [j6,lH (by rw [lH (by omega),eG];omega),lH (by omega)];exact cN
  ·have rz:i'=n:=by omega
   subst rz;by_cases eQ:i'+x.length≤c
   ·refine Calls.to (aa3 L K g c i' vb vo x.length vc cl news w fb hm eQ fG hg dH sZ ek nO.one) ?_;rintro e w' ⟨rfl,rfl⟩;have e2:(i'+x.length)*K≤c*K:=bT _ eQ
    have e3:i'*K+x.length*K=(i'+x.length)*K:=by rw [bD]
    refine fin _ _ rfl ⟨rfl,fun _=>bm _⟩ rfl (by rw [wC];exact bm _) (fun b hb bw=>by rw [wB _ _ _ _ (gx b bw)])
     ⟨g,c,_,rfl,.inr ho,ig,uK _ _ _ hg,eQ,l5,by rw [j6,lH (by omega)];exact dH,rD,hQ _ fun q hq=>?_⟩
    rw [vU (by omega)];by_cases h1:q<i'*K
    ·simp only [h1,if_true]
    ·have h2:q<(i'+x.length)*K:=hq
     have h3:q<i'*K+news.length:=by omega
     simp only [h1,h2,h3,if_true,if_false]
   ·have hG:=grownCap_ge w (i'+x.length) c (ρ.t 9);refine Calls.to (RS L K (some ⟨g,0,none⟩) i' c vb vo x.length vc (cl.take (i'*K)) news w fb hm (by omega) (by omega) rk qo (by simp;omega) sZ (fun h=>by cases h) (fun a ha j v hj=>?_) ek nO.one) ?_
    ·cases ha;rw [fo] at hj;split at hj
     ·rw [fC];simp [sf,hg,hj]
     ·cases hj
    ·rintro e w' ⟨rfl,rfl⟩
     have lF:(de z.cells (grownCap w (i'+x.length) c (ρ.t 9)-(i'+x.length))).size=(grownCap w (i'+x.length) c (ρ.t 9)-(i'+x.length))*K:=by simp [de,L.zs,fb]
     have e3:i'*K+x.length*K=(i'+x.length)*K:=by rw [bD]
     refine fin _ _ rfl ⟨rfl,fun _=>jt _⟩ rfl (by simp [kL]) (fun b hb _=>?_) ⟨w.heap.size,grownCap w (i'+x.length) c (ρ.t 9),(cl.take (i'*K)++news).toArray++de z.cells (grownCap w (i'+x.length) c (ρ.t 9)-(i'+x.length)),rfl,.inl (bm _),by omega,?_,hG,grownCap_le_maxLen w _ _ _ (by unfold maxLen;omega),?_,rD,fun r j hr hj=>?_⟩
     ·have:b≠w.drew.heap.size:=G_ hb;simp only [kL,lN,if_neg this];rfl
     ·show (w.drew.heap.push _)[w.drew.heap.size]?=_;rw [lN,if_pos rfl]
     ·rw [qS,lF,j6,cZ,da,ur (by omega),sZ,e3,←bD];congr 1;omega
     ·have hlen:(eW l (i':Int) x).length=i'+x.length:=by simp [eW];omega
      have hq:r*K+j<(i'+x.length)*K:=by
       calc r*K+j<(r+1)*K:=by rw [bD];omega
        _≤_:=bT _ (by omega)
      have jd:(cl.take (i'*K)++news).length=(i'+x.length)*K:=by rw [cZ,da,ur (by omega),sZ,e3]
      have e:((cl.take (i'*K)++news).toArray++de z.cells (grownCap w (i'+x.length) c (ρ.t 9)-(i'+x.length))).getD (r*K+j) undef=(cl.take (i'*K)++news).toArray.getD (r*K+j) undef:=by
       simp only [j3,n_,j6,jd,hq,if_true]
      rw [e];refine hQ (cl.take (i'*K)++news) (fun q hq=>?_) r j hr hj;rw [fW,da,ur (by omega),fo];by_cases h1:q<i'*K
      ·simp only [h1,if_true]
      ·have h2:q<(i'+x.length)*K:=hq;simp only [h1,h2,if_true,if_false]
def Pu (l:List (List AV)) (i j r:Nat) (et:i≤j) (hj:j≤l.length):(lU l (i:Int) (j:Int)).getD r []=if r<i then l.getD r [] else l.getD (r+(j-i)) []:=by
 simp only [lU,jH,aY,fW,da,fo,gJ,ur (show i≤l.length by omega)];by_cases h1:r<i
 ·simp [h1]
 ·have h3:j+(r-i)=r+(j-i):=by omega
  simp [h1,h3]
set_option maxHeartbeats 2000000 in
def Dj {P:Program} {ρ:Ren} {i0:TypeInfo} {z:Value} (L:xg P ρ i0 z) {K:Nat} (fb:i0.size=K) (l:List (List AV)) (i j:Int) (h:(0:Int)≤i∧i<j∧j≤(l.length:Int)) :
  Θ P (.f (ρ.f 45)) [.o 1000,vi i,vi j] ⟨aM,[(1000,.own (ρ.t 23) K l)]⟩ fun r s=>r=.o 900∧s.H=[(900,.own (ρ.t 23) K (lU l i j))]:=by
 obtain ⟨nm,dg,hf⟩:=L.f45;refine ⟨⟨_,_,hf,dg,rfl⟩,fun w F β vs hI hs hv=>?_⟩;obtain ⟨pA,et,pC⟩:=h;obtain ⟨i',rfl⟩:∃i':Nat,i=(i':Int):=⟨i.toNat,by omega⟩;obtain ⟨j',rfl⟩:∃j':Nat,j=(j':Int):=⟨j.toNat,by omega⟩
 have et:i'<j':=by omega
 have pC:j'≤l.length:=by omega
 obtain ⟨a,n,c,aj,e0⟩:=(hv 0 (by simp)).jo;have e1:=(hv 1 (by simp)).bA;have e2:=(hv 2 (by simp)).bA;have iI:=three hs e0 e1 e2;subst iI
 have jP:0<K:=by have:=L.tp;omega
 have ij:(1000,Chunk.own (ρ.t 23) K l)∈[(1000,Chunk.own (ρ.t 23) K l)]:=by simp
 rcases hI.holds _ _ ij with ⟨rfl,a',nI⟩|⟨g,cap,cur,rq,ig,hg,mb,l5,eO,rD,D0⟩
 ·simp at pC;omega
 ·rw [aj] at rq;cases rq;obtain ⟨n,hn⟩:∃n,n=l.length:=⟨_,rfl⟩;obtain ⟨cl,rfl⟩:∃cl:List Value,cur=cl.toArray:=⟨cur.toList,by simp⟩
  have pc:aG c 0=false:=by cases c<;>first|rfl|omega
  have ho:br β [(1000,Chunk.own (ρ.t 23) K l)] g:=⟨1000,_,ij,by rw [aj];simp [bF,pc]⟩;have gx:∀b,¬br β [(1000,Chunk.own (ρ.t 23) K l)] b→b≠g:=fun b hb e=>hb (e▸ho)
  have dH:cl.length=c*K:=by simpa using eO
  have oF:n*K≤c*K:=bT _ (by omega)
  have xY:∀r q,r<n→q<K→(cl.getD (r*K+q) undef).oneCell'=true∧bh w F ((l.getD r []).getD q .χ) (cl.getD (r*K+q) undef):=fun r q hr hq=>by
   have:=D0 r q (by omega) hq;rwa [sy cl.toArray cl rfl] at this
  have qn:∀q v,q<n*K→cl[q]?=some v→v.oneCell'=true:=fun q v hq jk=>by
   have h3:q/K<n:=(xa jP).2 hq;have h4:q % K<K:=p6 _ jP
   have h5:q/K*K+q % K=q:=by rw [Nat.mul_comm];exact OE q K
   have:=(xY _ _ h3 h4).1;rw [h5,fk,jk] at this;exact this
  rw [←hn] at pC mb rD ⊢
  have fG:c≤9223372036854775807:=by have:=l5;unfold maxLen at this;omega
  refine Calls.to (Xn L K g c n i' j' cl w fb et pC mb fG hg dH qn) ?_;rintro e w' ⟨rfl,zs,lF,rfl⟩
  have hlen:(lU l (i':Int) (j':Int)).length=i'+(n-j'):=by simp [lU];omega
  have e0:j'*K+(n-j')*K=n*K:=by rw [←bD,show j'+(n-j')=n by omega]
  have e1:i'*K+(n-j')*K=(i'+(n-j'))*K:=by rw [bD]
  have e2:(i'+(n-j'))*K+(j'-i')*K=n*K:=by rw [←bD,show i'+(n-j')+(j'-i')=n by omega]
  have e4:i'*K+(j'-i')*K=j'*K:=by rw [←bD,show i'+(j'-i')=j' by omega]
  have eG:((cl.drop (j'*K)).take ((n-j')*K)).length=(n-j')*K:=by simp;omega
  refine ⟨_,rfl,.o 900,⟨aM,[(900,.own (ρ.t 23) K (lU l (i':Int) (j':Int)))]⟩,F,_,⟨rfl,rfl⟩,.o (if_pos rfl),SN (v:=.slice (some ⟨g,0,none⟩) (i'+(n-j')) c) hI rfl ⟨rfl,fun _=>jt _⟩ rfl (by rw [wC,wC];exact bm _) (fun b hb bw=>by rw [wB _ _ _ _ (gx b bw),wB _ _ _ _ (gx b bw)];rfl)
   ⟨g,c,_,by rw [hlen],.inr ho,ig,uK _ _ _ (uK _ _ _ (show w.drew.heap[g]?=_ from hg)),by rw [hlen];omega,l5,?_,fun r hr=>?_,fun r q hr hq=>?_⟩⟩
  ·rw [j6,lH (by rw [lH (by omega)];omega),lH (by omega)];exact dH
  ·rw [hlen] at hr;rw [Pu l i' j' r (by omega) (by omega)];split
   ·exact rD r (by omega)
   ·exact rD _ (by omega)
  ·rw [hlen] at hr;rw [sy _ _ rfl,Pu l i' j' r (by omega) (by omega)]
   have hqr:r*K+q<(i'+(n-j'))*K:=by
    calc r*K+q<(r+1)*K:=by rw [bD];omega
     _≤_:=bT _ hr
   rw [show ∀X:List Value,X.getD (r*K+q) undef=(X[r*K+q]?).getD undef from fun X=>fk ..,vU (by rw [lH (by omega)];omega),if_pos hqr,vU (by omega)];by_cases h1:r<i'
   ·have h2:r*K+q<i'*K:=by
     calc r*K+q<(r+1)*K:=by rw [bD];omega
      _≤_:=bT _ h1
    rw [if_pos h1,if_pos h2,show ∀(a:List Value) b,(a[b]?).getD undef=a.getD b undef from fun a b=>(fk ..).symm];exact xY r q (by omega) hq
   ·have h2:¬r*K+q<i'*K:=by
     have:i'*K≤r*K:=bT _ (by omega);omega
    have h3:r*K+q<i'*K+((cl.drop (j'*K)).take ((n-j')*K)).length:=by omega
    have h4:j'*K+(r*K+q-i'*K)=(r+(j'-i'))*K+q:=by
     have:i'*K≤r*K:=bT _ (by omega);rw [bD];omega
    rw [if_neg h1,if_neg h2,if_pos h3,fo,if_pos (by omega),gJ,h4,show ∀(a:List Value) b,(a[b]?).getD undef=a.getD b undef from fun a b=>(fk ..).symm];exact xY (r+(j'-i')) q (by omega) hq
end
section
open Go.RowKit
section
variable [M:bU] [G:dC] [R:dW]
variable {P:Program} {n:Nat} {st:ai} {Q:Exit→ai→Prop} {T:TT}
def ct {x y:Code} {ρ:Type} {X Y:Option ρ} {r:ρ} {d:Nat} {b:Bool} (h:(if b=true then X else Y)=some r) (yes:b=true→X=some r→Ok P n x st Q) (no:b=false→Y=some r→Ok P n y st Q) (hb:st.f d=.v (.bool b):=by exact rfl):Ok P n (.cond (.tmp d) x y) st Q:=cn d b hb h yes no
def pq {g:Nat} {fn:Func} {args:List AV} {r:AV} (hT:bB P T) (n:Nat) (dj:P.funcs[g]?=some fn)
  (h : Ok P n (fn.body.getD .skip) ⟨jZ args, []⟩ (qj T fn.results.toList fun x st => Fz st.H x r)) (dg : (fn.name == "runtime.NumGoroutine") = false := by kernel_rfl) (hb : fn.body = some (fn.body.getD .skip) := by exact rfl) (hn : fn.ntmps = n := by exact rfl) (hle : og args.length n = true := by exact rfl) : Pure P g args r := po hT n dj dg hb hn hle h
def pv {g E K:Nat} {fn:Func} {args:List AV} {rows:List (List AV)} (hT:bB P T) (n:Nat) (dj:P.funcs[g]?=some fn)
  (h : Ok P n (fn.body.getD .skip) ⟨jZ args, []⟩ (qj T fn.results.toList (Hk E K rows))) (dg : (fn.name == "runtime.NumGoroutine") = false := by kernel_rfl) (hb : fn.body = some (fn.body.getD .skip) := by exact rfl) (hn : fn.ntmps = n := by exact rfl) (hle : og args.length n = true := by exact rfl) : jb P g args E K rows := pw hT n dj dg hb hn hle h
def px {E:TypeId} {g:Nat} {fn:Func} {args:List AV} {H0:Hp} {ρ:Type} {q:Int⊕ρ} {r:ρ→AV} {H1:ρ→Hp} (hT:bB P T) (n:Nat) (dj:P.funcs[g]?=some fn)
  (h : Ok P n (fn.body.getD .skip) ⟨jZ args, H0⟩ (Im T E fn.results.toList (fun x s => ∃ y, q = .inr y ∧ Wk ⟨dF aM 0 x, s.H⟩ ⟨Γ [(0, r y)], H1 y⟩) fun m => q = .inl m)) (dg : (fn.name == "runtime.NumGoroutine") = false := by kernel_rfl) (hb : fn.body = some (fn.body.getD .skip) := by exact rfl) (hn : fn.ntmps = n := by exact rfl) (hle : og args.length n = true := by exact rfl) :
  j8 P E g args ⟨aM,H0⟩ (fun x s=>∃y,q=.inr y∧x=r y∧s.H=H1 y) fun m s=>q=.inl m∧s.H=[]:=aco hT dj dg hb hn (xb hle) h
def pg {g:Nat} {fn:Func} {args:List AV} {H0 H1:Hp} {r:AV} (hT:bB P T) (n:Nat) (dj:P.funcs[g]?=some fn)
  (h : Ok P n (fn.body.getD .skip) ⟨jZ args, H0⟩ (qj T fn.results.toList fun x s => Wk ⟨dF aM 0 x, s.H⟩ ⟨Γ [(0, r)], H1⟩)) (dg : (fn.name == "runtime.NumGoroutine") = false := by kernel_rfl) (hb : fn.body = some (fn.body.getD .skip) := by exact rfl) (hn : fn.ntmps = n := by exact rfl) (hle : og args.length n = true := by exact rfl) : Θ P g args ⟨aM, H0⟩ fun x s => x = r ∧ s.H = H1 := acp hT dj dg hb hn (xb hle) h
def cg {g:Tg} {xs ys:List AV} {st:ai} {H0 H1:Hp} {r:AV} {k:AV→ai→Prop} (m n:List (Nat×Nat)) (h:Θ P g ys ⟨aM,H0⟩ fun x s=>x=r∧s.H=H1)
  (hx:iA m xs ys) (hH:ss m st.H H0) (hk:k (rl (cC (jE m n)) 3 r) ⟨fun t=>rf n (st.f t),gz (cC (jE m n)) H1++jF m n st.H⟩)
  (lC:iT H0=true:=by exact rfl) (ht:zf m n=true:=by exact rfl) (fh:iT (gz (cC (jE m n)) H1++jF m n st.H)=true:=by exact rfl):Θ P g xs st k:=Θ.gen h hx hH lC ht fh hk
def cx {E:TypeId} {g:FuncId} {xs ys:List AV} {st:ai} {H0:Hp} {ρ:Type} {q:Int⊕ρ} {r:ρ→AV} {H1:ρ→Hp} {k:AV→ai→Prop} {kx:Int→ai→Prop} (m n:List (Nat×Nat)) (h:j8 P E g ys ⟨aM,H0⟩ (fun x s=>∃y,q=.inr y∧x=r y∧s.H=H1 y) fun m s=>q=.inl m∧s.H=[])
  (hx:iA m xs ys) (hH:ss m st.H H0)
  (hp:∀e,q=.inl e→kx e ⟨fun t=>rf n (st.f t),jF m n st.H⟩)
  (hk:∀y,q=.inr y→k (rl (cC (jE m n)) 3 (r y)) ⟨fun t=>rf n (st.f t),gz (cC (jE m n)) (H1 y)++jF m n st.H⟩)
  (lC:iT H0=true:=by exact rfl) (ht:zf m n=true:=by exact rfl) (fh:∀y,iT (gz (cC (jE m n)) (H1 y)++jF m n st.H)=true:=by exact fun _=>rfl) (gg:iT (jF m n st.H)=true:=by exact rfl):j8 P E g xs st k kx:=j8.gen h hx hH lC ht fh gg hp hk
end
section
variable [M:bU] [G:dC] {H:Hp}
def P3:∀{xs:List AV},xs.all jB=true→nB H xs xs
 |[],_=>.nil
 |x::xs,h=>by
  rw [List.all_cons,bM] at h;exact .cons (Fz.cq h.1) (P3 h.2)
def fq {xs:List AV} (h:xs.all jB=true:=by rfl):nB H xs xs:=P3 h
end
section
variable [M:bU] [G:dC] [R:dW]
local instance ag_:p8:=⟨[]⟩
local instance ag7:lR:=⟨[]⟩
variable {P:Program} {n:Nat} {st:ai} {Q:Exit→ai→Prop} {T:TT}
def dw {id:Nat} {ops:Array Oper} (m:Nat) (hT:bB P T) (hm:P.follows .mixedOrders=true)
  (h:pU P T n ops (steady m ops) ⟨preB (dQ m ops) (iQ (dQ m ops) st).f,(iQ (dQ m ops) st).H⟩ fun st1=>qF P st1.f (ops.toList.take m)∧o_ T n (dQ m ops) st1 fun st2=>ix P T n ops (ops.toList.drop m) st2 (Q .normal)) (oB:zY m ops=true:=by kernel_rfl):Ok P n (.region id ops true) st Q:=Ok.draw hT hm oB h
end
end
end Go.Cat
