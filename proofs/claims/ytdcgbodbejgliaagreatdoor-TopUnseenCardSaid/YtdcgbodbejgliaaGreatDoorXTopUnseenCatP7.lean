/- The logic that the walks are in, piece P7. No condition. -/
import Derived.Test.YtdcgbodbejgliaaGreatDoorXTopUnseenCatP6
import Derived.RecoverIn
import Derived.Test.YtdcgbodbejgliaaGreatDoorXTopUnseenCatP5
import Derived.Test.YtdcgbodbejgliaaGreatDoorXTopUnseenCatP4
import Derived.Shelf.Spec.SlicesInsertGrow
import Derived.Shelf.SlLaysE
import Derived.Lib.SlicesDelete
import Derived.Deep.RegionLaw
import Derived.Laws.CopyRow
import Derived.KernelRfl
open Array renaming getElem?_eq_getElem → gr, getElem?_eq_some_iff → lg, getD_eq_getD_getElem? → lf, length_toList → lJ, getElem?_push → ni, getElem?_modify → pQ, replicate → oc, getElem?_append → pP, size_append → tQ
open Bool renaming and_eq_true → bJ, or_eq_true → tT
open ByteArray renaming mk → lK
open Classical renaming byContradiction → xi
open Go renaming sizeOf → rT
open Go.Act renaming put → iK, eval → Ai
open Go.Addr renaming add_lit → f_
open Go.Builtin renaming zeroCells → dC, append_ → h_, copy_ → qz, firstCells → xh, clear_ → u_
open Go.Deferred renaming ofValue → l8
open Go.Extern.SlicesOverlaps renaming overlaps → rS
open Go.Fence renaming wide → ga
open Go.Instr renaming makeInterface → Y_
open Go.IntKind renaming wrap_i64 → Zb, i64 → KR
open Go.Lib renaming wpList_append_run → KS
open Go.Oper renaming uponIn_value → xu, uponIn_enter → Ao, uponIn_panic → Zu
open Go.Region renaming wanted → dS, binds → jG, ready → lQ
open Go.Region.linearise renaming go → K3
open Go.Src renaming ofSlice → QP
open Go.TypeDesc renaming tuple → ZB, slice → ZA, bool → Zy, int → Zz
open Go.Value renaming slice → Rm, bool → Da
open Go.World renaming putObj_size → j2, putObj_heap_other → pV, alloc → lR, cell? → vr, setRow → xv, frozen? → aly
open Int renaming toNat_natCast → gM
open List renaming getElem?_eq_getElem → bT, mem_cons_of_mem → cr, mem_cons → bj, getD → aY, map → aU, length_append → dq, getElem?_eq_some_iff → fb, getD_eq_getElem?_getD → fU, mem_singleton → dD, length_take → dQ, all_eq_true → ej, getElem_mem → eG, not_mem_nil → eH, getElem?_take → gb, getElem?_append → gC, replicate → ic, mem_append → gg, getElem?_drop → jl, nodup_cons → iv, size_toArray → lh, mem_filterMap → mb, mem_range → me, append_assoc → l9, nodup_nil → qG, eq_nil_iff_forall_not_mem → Am, mem_append_right → vj, nil_append → alx, getElem_of_mem → Rb, filterMap_cons → Q9
open Nat renaming mul_le_mul_right → cI, beq → aH, le_refl → bF, add_mul → bO, le_trans → fc, blt_eq → gF, le_succ → j0, div_lt_iff_lt_mul → qI, lt_of_lt_of_le → oe, add_zero → lN, min_eq_left → xq, le_of_ble_eq_true → An, strongRecOn → tX, ble → pT, mod_lt → rW, min → pU, div_add_mod → Rf, ne_of_lt → K0, mul_pos → Rh
open Option renaming bind_some → cD
open Prod.mk renaming injEq → ig
namespace Go.Cat
set_option linter.all false
section
open Go.RowKit
variable [M:bK] [G:cL] [R:dK]
abbrev jC (E:TypeId) (n:Int):List PanicEntry:=[{ v:=.iface E (.int .i64 n),recovered:=false }]
def fL (P:Program) (E:TypeId) (g:FuncId) (args:List AV) (st:ae) (k:AV→ae→Prop) (kx:Int→ae→Prop):Prop :=
 pW P g∧∀(w:World) (F:Nat→Prop) (β:Nat→Value) (vs:Array Value),Inv w F β st.H→vs.size=args.length →
  (∀i,i<args.length→Rd w F β (args.getD i .χ) (vs.getD i undef)) →
  Calls P g vs w fun e w'=>(∃v,e=.returned v∧∃r aq F' av,k r aq∧Rd w' F' av r v∧Ext w F β st w' F' av aq) ∨
   ∃n,e=.panicked (jC E n)∧∃aq F' av,kx n aq∧Ext w F β st w' F' av aq
def L0 (P:Program) (E:TypeId) (f:AV) (xs:List AV) (st:ae) (k:AV→ae→Prop) (kx:Int→ae→Prop):Prop :=
 match f with
 | .c (.func g) fs cs=>fL P E g (fs++(xs++cs)) st k kx
 | _=>False
def wZ (P:Program) (T:TT) (E:TypeId) (o:Oper) (st:ae) (k:AV→ae→Prop) (kx:Int→ae→Prop):Prop :=
 match o.op with
 | .call c=>match c.callee with
  | .value f=>L0 P E (ev st.f f) (c.args.toList.map (ev st.f)) st k kx
  | _=>False
 | .makeInterface t x=>match ev st.f x,T t with
  | .v (.int .i64 n),some i=>match i.kind with
   | .int .i64=>k (.v (.iface t (.int .i64 n))) st
   | _=>False
  | _,_=>False
 | .panic x=>match ev st.f x with
  | .v (.iface t (.int .i64 n))=>t=E∧kx n st
  | _=>False
 | _=>False
def Kl (P:Program) (T:TT) (E:TypeId) (o:Oper) (st:ae) (k:AV→ae→Prop) (kx:Int→ae→Prop):Prop :=
 step P T o st k∨wZ P T E o st k kx
def Gr (P:Program) (T:TT) (E:TypeId) (n:Nat) (all:Array Oper):List Oper→ae→(ae→Prop)→(Int→ae→Prop)→Prop
 | [],st,K,_=>K st
 | o::os,st,K,KX=>gd n all o st (fun st=>Kl P T E o st (fun r aq=>put n o.dst aq r fun fK=>Gr P T E n all os fK K KX) KX) fun st=>put n o.dst st (.v undef) fun aq=>Gr P T E n all os aq K KX
section
variable {P:Program} {T:TT} {E:TypeId} {C:Ctx} {w:World} {F:Nat→Prop} {β:Nat→Value}
def Rq (P:Program) (E:TypeId) (s:Sem Next) (w:World) (F:Nat→Prop) (β:Nat→Value) (st:ae) (k:AV→ae→Prop) (kx:Int→ae→Prop):Prop :=
 (∃v w',s.run P w=.ok (.value v) w'∧EPost w F β st k v w')∨(∃n,s.run P w=.halt (.panic (.iface E (.int .i64 n))) w∧kx n st) ∨
 (∃g vs,s.run P w=.ok (.enter g vs) w∧Calls P g vs w fun e w'=>(∃v,e=.returned v∧EPost w F β st k v w')∨∃n,e=.panicked (jC E n)∧∃aq F' av,kx n aq∧Ext w F β st w' F' av aq)
def ZW {f:Nat→AV} {a:Act} (hf:∀t,Rd w F β (f t) (a.tmps.getD t undef)) (args:Array Operand):∀i,i<(args.toList.map (ev f)).length→Rd w F β ((args.toList.map (ev f)).getD i .χ) ((args.map a.eval).getD i undef):=by
 intro i hi
 have hi:i<args.size:=by simpa using hi
 have:=AQ hf args[i];simpa [aY,hi] using this
def ahK {o:Oper} {a:Act} {st:ae} {k:AV→ae→Prop} {kx:Int→ae→Prop} (hT:bM P T) (hI:Inv w F β st.H) (hf:∀t,Rd w F β (st.f t) (a.tmps.getD t undef)) (h:wZ P T E o st k kx):Rq P E (execOp a.eval o) w F β st k kx:=by
 obtain ⟨dst,op,type,pos,after,guard⟩:=o
 cases op <;> simp only [wZ] at h <;> first | exact h.elim | skip
 case call c =>
  obtain ⟨callee,args,argTypes⟩:=c
  cases callee <;> simp only at h <;> first | exact h.elim | skip
  rename_i f;unfold L0 at h;split at h
  ·rename_i g fs cs lx;have sJ:=AQ hf f;rw [lx] at sJ;obtain ⟨us,ws,M1,hs,eu,hu,hw⟩:=sJ.nt;obtain ⟨⟨fn,code,dF,dN,hb⟩,h⟩:=h
   have rk : ¬ fn.name = "runtime.NumGoroutine" := by simpa using dN
   refine .inr (.inr ⟨g,us++args.map a.eval++ws,?_,?_⟩)
   ·have e:execOp a.eval { dst,op:=.call { callee:=.value f,args,argTypes },type,pos,after,guard }=(do let d ←l8 (a.eval f) (args.map a.eval); invoke d.target d.args):=rfl;rw [e,M1];simp [l8,invoke,callFunc,dF,rk,hb]
   ·have hl:(args.map a.eval).size=(args.toList.map (ev st.f)).length:=by simp
    exact h w F β _ hI (by simp [hs,eu]) (G_ hs hl eu hu (ZW hf args) hw)
  ·exact h.elim
 case makeInterface t x =>
  split at h
  ·rename_i n i hx hi;split at h
   ·rename_i hk;have nO:=AQ hf x;rw [hx] at nO;refine .inl ⟨.iface t (.int .i64 n),w,?_,?_⟩
    ·simp only [execOp];rw [nO.bL];have:=(hT _ _ hi).int hk;simp [Y_,run_underlying this]
    ·exact ⟨_,st,F,β,h,.i (.v (.inl rfl)),Ext.refl hI⟩
   ·exact h.elim
  ·exact h.elim
 case panic x =>
  split at h
  ·rename_i t n hx;obtain ⟨rfl,h⟩:=h;have nO:=AQ hf x;rw [hx] at nO;refine .inr (.inl ⟨n,?_,h⟩);simp only [execOp];rw [nO.bL];simp [run_panic_iface]
  ·exact h.elim
def XD {o:Oper} {st:ae} {k:AV→ae→Prop} {kx:Int→ae→Prop} (h:wZ P T E o st k kx):∀c,o.op≠.defer c:=fun c e=>by
 unfold wZ at h; rw [e] at h; exact h
def akb {n:Nat} {all:Array Oper} {o:Oper} {i:Nat} {st:ae} {K:ae→Prop} {KX:Int→ae→Prop} {a:Act} {w:World} {Q:Exit→Act→World→Prop} {N:Act→World→Prop} (hT:bM P T) (hn:C.n=n) (ho:all[i]?=some o) (hr:Rel C st a w)
  (hN:∀st a w,Rel C st a w→K st→N a w) (hQ:∀m st a w,Rel C st a w→KX m st→Q (.panic (jC E m)) a w)
  (h:gd n all o st (fun st=>Kl P T E o st (fun r aq=>put n o.dst aq r K) KX) fun st=>put n o.dst st (.v undef) K):wpOpIn (fM C.ro) 0 P all Q i N a w:=by
 obtain ⟨F,β,hs,hd,hf,he⟩:=hr
 have run:∀st:ae,(∀t,Rd w F β (st.f t) (a.tmps.getD t undef))→XM C a.defers w F β st.H→(wZ P T E o st (fun r aq=>put n o.dst aq r K) KX)→o.wpIn (fM C.ro) 0 P a w N Q:=by
  intro st hf he h;have dJ:=XD h
  rcases ahK hT he.inv hf h with ⟨v,w',a_,r,aq,F',av,hk,hv,hx⟩ | ⟨m,a_,hk⟩ | ⟨g,vs,a_,hc⟩
  ·refine Oper.ke dJ a_ ?_;rw [xu];obtain ⟨fK,h1,h2⟩:=zF hn hs hd (fun t=>hx.keep t _ (hf t)) (he.trans (hx.uS aF)) hv hk;exact hN _ _ _ h1 h2
  ·refine Oper.ke dJ a_ ?_;rw [Zu];exact hQ m st a w ⟨F,β,hs,hd,hf,he⟩ hk
  ·refine Oper.ke dJ a_ ?_;rw [Ao];refine ⟨fun h=>(by cases h),vI (hc.mono ?_)⟩;rintro e w' (⟨v,rfl,r,aq,F',av,hk,hv,hx⟩ | ⟨m,rfl,aq,F',av,hk,hx⟩)
   ·obtain ⟨fK,h1,h2⟩:=zF hn hs hd (fun t=>hx.keep t _ (hf t)) (he.trans (hx.uS aF)) hv hk;exact hN _ _ _ h1 h2
   ·exact hQ m aq a w' ⟨F',av,hs,hd,fun t=>hx.keep t _ (hf t),he.trans (hx.uS aF)⟩ hk
 by_cases hg:o.guard=none
 ·rw [sB,hg] at h;simp only at h
  rcases h with h | h
  ·refine uX (K:=K) hT hn ho ⟨F,β,hs,hd,hf,he⟩ hN ?_;rw [sB,hg]; exact h
  ·unfold wpOpIn;simp only [ho]
   have hw:dS o (yielded all a.tmps)=true:=by simp [dS,hg]
   rw [if_pos hw];exact run st hf he h
 ·obtain ⟨⟨j,want⟩,hg⟩:=Option.ne_none_iff_exists'.1 hg;have h0:=h;rw [sB,hg] at h;simp only at h;split at h
  ·rename_i d oC;obtain ⟨It,h⟩:=cond_prop h
   have Φ:d<a.tmps.size:=by rw [hs,hn]; simpa [gF] using It
   have gh:=hf d;split at h
   ·rename_i b hb;rw [hb] at gh;have hv:=gh.bL
    have gY:yielded all a.tmps j=some b:=by
     have h2:a.tmps[d]?=some (.bool b):=by rw [←hv]; simp [Φ]
     unfold yielded;rw [oC,cD,h2]
    by_cases jt:b=want
    ·have hy:=h.y jt
     rcases hy with hy | hy
     ·refine uX (K:=K) (st:=⟨dW st.f d (.v (.bool want)),st.H⟩) hT hn ho ⟨F,β,hs,hd,CP hf hb jt,he⟩ hN ?_;rw [sB,hg];simp only [oC,It,cond_true,dW,Nat.beq_refl];refine Br.yes rfl ?_
      have e:dW (dW st.f d (.v (.bool want))) d (.v (.bool want))=dW st.f d (.v (.bool want)):=by
       funext t; simp only [dW]; cases aH t d <;> rfl
      show step P T o ⟨dW (dW st.f d (.v (.bool want))) d (.v (.bool want)),st.H⟩ _;rw [e]; exact hy
     ·unfold wpOpIn;simp only [ho]
      have hw:dS o (yielded all a.tmps)=true:=by simp [dS,hg,gY,jt]
      rw [if_pos hw];exact run ⟨dW st.f d (.v (.bool want)),st.H⟩ (CP hf hb jt) he hy
    ·have p9:b=!want:=by cases b <;> cases want <;> first | rfl | exact absurd rfl jt
     refine uX (K:=K) hT hn ho ⟨F,β,hs,hd,hf,he⟩ hN ?_;rw [sB,hg];simp only [oC,It,cond_true,hb];exact Br.no p9 (h.n p9)
   ·rename_i vs hb;refine uX (K:=K) hT hn ho ⟨F,β,hs,hd,hf,he⟩ hN ?_;rw [sB,hg];simp only [oC,It,cond_true,hb];exact h
   ·exact h.elim
  ·exact h.elim
def akc {n:Nat} {all:Array Oper} {K:ae→Prop} {KX:Int→ae→Prop} {Q:Exit→Act→World→Prop} (hT:bM P T) (hn:C.n=n) (hQ:∀st a w,Rel C st a w→K st→Q .normal a w) (hX:∀m st a w,Rel C st a w→KX m st→Q (.panic (jC E m)) a w) :
  ∀(l:List Oper) (i:Nat) (st:ae) (a:Act) (w:World),(∀k,k<l.length→all[i+k]?=l[k]?)→Rel C st a w→Gr P T E n all l st K KX→wpOpsIn (fM C.ro) 0 P all Q (List.range' i l.length) a w:=by
 intro l;induction l with
 | nil=>intro i st a w _ hr h; exact hQ _ _ _ hr h
 | cons o os ih =>
  intro i st a w d_ hr h
  have ho:all[i]?=some o:=by simpa using d_ 0 (by simp)
  rw [List.length_cons,List.range'_succ,wpOpsIn_cons];refine akb (K:=fun st=>Gr P T E n all os st K KX) (KX:=KX) hT hn ho hr (fun st a w hr hk=>?_) hX h;exact ih (i+1) st a w (fun k hk=>by have:=d_ (k+1) (by simp; omega); rw [show i+1+k=i+(k+1) by omega]; simpa using this) hr hk
def Ok.cW {n id:Nat} {ops:Array Oper} {st:ae} {Q:Exit→ae→Prop} (E:TypeId) (hT:bM P T) (h:Gr P T E n ops ops.toList st (Q .normal) fun m aq=>Q (.panic (jC E m)) aq):Ok P n (.region id ops false) st Q :=
 ⟨fun C hn a w hr=>by
  refine wpIn_region ?_;have:=akc (C:=C) (Q:=fun e a' w'=>∃aq,Rel C aq a' w'∧Q e aq) hT hn (fun st a w hr hk=>⟨st,hr,hk⟩) (fun m st a w hr hk=>⟨st,hr,hk⟩) ops.toList 0 st a w (fun k hk=>by simp) hr h
  simpa [List.range_eq_range'] using this⟩
def Mc (T:TT) (E:TypeId) (rs:List ResultVar) (R:AV→ae→Prop) (RX:Int→Prop):Exit→ae→Prop
 | .normal,st=>qo T rs st fun x=>R x st
 | .ret,st=>qo T rs st fun x=>R x st
 | .panic l,_=>∃m,l=jC E m∧RX m
 | _,_=>False
def Vo {C:Ctx} {fn:Func} {tmps:Array Value} {RR:Ending→World→Prop} {F:Nat→Prop} {β:Nat→Value} {H:Hp} {u:FrameMode} (hu:u≠.run) (q7:C.dl=[]):∀(ds:List Deferred) (w:World),XM C ds w F β H →
  (∀w',XM C [] w' F β H→(∀x u,Rd w F β x u→Rd w' F β x u)→LeavesIn ga 0 P fn tmps RR [] u w')→LeavesInM ga 0 P fn tmps RR ds u w
 | [],w,h,hk=>hk w h fun _ _ hr=>hr
 | d::ds,w,h,hk=>by
  have jP:∀l,C.ms l=l:=fun l=>Ctx.VE q7;obtain ⟨D,h1,h2,h3,h4,h5⟩:=h.m d (by rw [jP]; simp);have dJ:=h.nd;rw [jP] at dJ;have Φ:=kE h3;have oE:∀b,b≠D→(w.putObj D (.deferred none)).heap[b]?=w.heap[b]?:=fun b hb=>pV hb;have ha:fZ F w (w.putObj D (.deferred none)):=fun b hb=>oE b fun e=>h4 (e▸hb);have hI:=h.inv;refine ⟨hu,.inl ⟨D,_,by rw [h1],run_takeDeferred h3,?_⟩⟩;have lV:Inv (w.putObj D (.deferred none)) F β H:=⟨fun b hb=>by rw [j2]; exact hI.cC b hb,fun i c hm=>pz ha (fun _ h=>h) (fun b hb=>oE b fun e=>h5 (e▸⟨i,c,hm,hb⟩)) (hI.holds i c hm),hI.keys,hI.apart,hI.eA,hI.fh.at ha⟩;have hx:=h.x;refine Vo hu q7 ds _ ⟨⟨hx.os,hx.tape,hx.output,by rw [j2]; exact hx.size,fun b hb hn=>(oE b (by omega)).trans (hx.block b hb hn),hx.mono,hx.new,hx.owned,fun _ _ _=>.χ,lV,hx.gp⟩,fun d' bG=>?_,by rw [jP]; exact (iv.1 dJ).2,⟨ds,by rw [q7]; simp⟩⟩ fun w' oJ cK=>hk w' oJ fun x u hr=>cK x u (hr.frame ha fun _ h=>h);rw [jP] at bG;obtain ⟨D',g1,g2,g3,g4,g5⟩:=h.m d' (by rw [jP]; simp [bG]);exact ⟨D',g1,g2,(oE D' fun e=>(iv.1 dJ).1 (by rw [h1,←e,←g1]; exact bG)).trans g3,g4,g5⟩
def Ext.forget {w0:World} {F0:Nat→Prop} {oR:Nat→Value} {oP st:ae} (h:Ext w0 F0 oR oP w F β st):Ext w0 F0 oR oP w F β ⟨aF,[]⟩ :=
 ⟨h.os,h.tape,h.output,h.size,h.block,h.mono,h.new,fun _ ⟨_,_,hm,_⟩=>(eH hm).elim,fun _ _ _=>.χ,h.inv.nil,h.gp⟩
def Z' {g n:Nat} {fn:Func} {c:Code} {args:List AV} {H:Hp} {R0:AV→ae→Prop} {RX:Int→Prop} (hT:bM P T) (dF:P.funcs[g]?=some fn) (hb:fn.body=some c) (hn:fn.ntmps=n) (hle:args.length≤n)
  (h:Ok P n c ⟨kU args,H⟩ (Mc T E fn.results.toList R0 RX)) {vs:Array Value} (hI:Inv w F β H) (hs:vs.size=args.length) (hv:∀i,i<args.length→Rd w F β (args.getD i .χ) (vs.getD i undef)) :
  Calls P g vs w fun e w'=>(∃v,e=.returned v∧∃x st F' av,R0 x st∧Rd w' F' av x v∧Ext w F β ⟨aF,H⟩ w' F' av ⟨aF,st.H⟩) ∨
   ∃m,e=.panicked (jC E m)∧RX m∧∃F' av,Ext w F β ⟨aF,H⟩ w' F' av ⟨aF,[]⟩:=by
 refine callsIn_wide.1 (callsIn_of_wp_marks (F:=ga) (n:=0) dF hb trivial ?_);let C:Ctx:=⟨w,F,β,H,n,none,.inl rfl,[]⟩;have hr:Rel C ⟨kU args,H⟩ { tmps:=vs++oc (fn.ntmps-vs.size) undef,defers:=[] } w :=
  ⟨F,β,by simp [C,hn]; omega,trivial,N3 hs hv,⟨Ext.refl hI,fun d hd=>(eH hd).elim,qG,⟨[],rfl⟩⟩⟩
 have fin:∀(st:ae) (a':Act) (w':World),Rel C st a' w'→qo T fn.results.toList st (fun x=>R0 x st)→LeavesInM ga 0 P fn a'.tmps (fun e w'=>(∃v,e=.returned v∧∃x st F' av,R0 x st∧Rd w' F' av x v∧Ext w F β ⟨aF,H⟩ w' F' av ⟨aF,st.H⟩) ∨
   ∃m,e=.panicked (jC E m)∧RX m∧∃F' av,Ext w F β ⟨aF,H⟩ w' F' av ⟨aF,[]⟩) a'.defers .returning w':=fun st a' w' ⟨F',av,_,_,hf,he⟩ hq =>
  IX rfl a'.defers w' he fun rN fp cK=>by
   obtain ⟨v,x,a_,hk,hx⟩:=JL (P:=P) (st:=st) hT fp.inv (fun t=>cK _ _ (hf t)) hq;exact ⟨v,a_,.inl ⟨v,rfl,x,st,F',av,hk,hx,fp.x⟩⟩
 refine wpIn_mono (h.h C rfl _ w hr) ?_;rintro e a' w' ⟨st,iQ,hq⟩;cases e with
 | normal=>exact fin st a' w' iQ hq
 | ret=>exact fin st a' w' iQ hq
 | exit id=>exact hq.elim
 | goto l=>exact hq.elim
 | panic ch =>
  obtain ⟨m,rfl,hq⟩:=hq;obtain ⟨F',av,_,_,hf,he⟩:=iQ;exact Vo (by simp) rfl a'.defers w' he fun rN fp cK=>.inr ⟨m,rfl,hq,F',av,fp.x.forget⟩
 | outgrown=>exact hq.elim
def afT {g n : Nat} {fn : Func} {c : Code} {args : List AV} {H0 : Hp} {ρ : Type} {q : Int ⊕ ρ} {r : ρ → AV} {H1 : ρ → Hp} (hT : bM P T) (dF : P.funcs[g]? = some fn) (dN : (fn.name == "runtime.NumGoroutine") = false) (hb : fn.body = some c) (hn : fn.ntmps = n) (hle : args.length ≤ n)
  (h:Ok P n c ⟨kU args,H0⟩ (Mc T E fn.results.toList (fun x s=>∃y,q=.inr y∧Wk ⟨dW aF 0 x,s.H⟩ ⟨ar [(0,r y)],H1 y⟩) fun m=>q=.inl m)) :
  fL P E g args ⟨aF,H0⟩ (fun x s=>∃y,q=.inr y∧x=r y∧s.H=H1 y) fun m s=>q=.inl m∧s.H=[]:=by
 refine ⟨⟨fn,c,dF,dN,hb⟩,fun w F β vs hI hs hv=>?_⟩;refine (Z' hT dF hb hn hle h hI hs hv).mono ?_;rintro e w' (⟨v,rfl,x,st,F',av,⟨y,hy,hW⟩,hx,he⟩ | ⟨m,rfl,hm,F',av,he⟩)
 ·obtain ⟨F2,bZ,_,_,hf,h2⟩:=hW ⟨w,F,β,H0,1,none,.inl rfl,[]⟩ { tmps:=#[v],defers:=[] } w' ⟨F',av,rfl,trivial,fun t=>by
   show Rd w' F' av (bif aH t 0 then x else aF t) _;cases t with
   | zero=>exact hx
   | succ t=>exact .χ,⟨he,fun d hd=>(eH hd).elim,qG,⟨[],rfl⟩⟩⟩
  exact .inl ⟨v,rfl,r y,⟨aF,H1 y⟩,F2,bZ,⟨y,hy,rfl,rfl⟩,hf 0,h2.x⟩
 ·exact .inr ⟨m,rfl,⟨aF,[]⟩,F',av,⟨hm,rfl⟩,he⟩
def fL.gen {g:FuncId} {xs ys:List AV} {st:ae} {H0:Hp} {ρ:Type} {q:Int⊕ρ} {r:ρ→AV} {H1:ρ→Hp} {k:AV→ae→Prop} {kx:Int→ae→Prop} {m n:List (Nat×Nat)} (h:fL P E g ys ⟨aF,H0⟩ (fun x s=>∃y,q=.inr y∧x=r y∧s.H=H1 y) fun m s=>q=.inl m∧s.H=[])
  (hx:iZ m xs ys) (hH:vz m st.H H0) (kP:jB H0=true) (ht:Cu m n=true) (fQ:∀y,jB (gZ (cT (kj m n)) (H1 y)++ko m n st.H)=true) (fx:jB (ko m n st.H)=true)
  (hp:∀e,q=.inl e→kx e ⟨fun t=>ug n (st.f t),ko m n st.H⟩)
  (hk:∀y,q=.inr y→k (rl (cT (kj m n)) 3 (r y)) ⟨fun t=>ug n (st.f t),gZ (cT (kj m n)) (H1 y)++ko m n st.H⟩):fL P E g xs st k kx:=by
 refine ⟨h.1,fun w F β vs hI hs hv=>?_⟩;obtain ⟨hl,dh,uo,ν,sH⟩:=S9 hx hH kP ht hI hv;refine (h.2 w F dh vs uo (by omega) ν).mono ?_;rintro e w' (⟨v,rfl,x,s,F',av,⟨y,hy,rfl,ED⟩,hr,he⟩ | ⟨e,rfl,s,F',av,⟨he0,ED⟩,he⟩)
 ·obtain ⟨bZ,hq,dR⟩:=sH w' F' av s.f (H1 y) (fQ y) (by rw [←ED]; exact he);exact .inl ⟨v,rfl,rl (cT (kj m n)) 3 (r y),_,F',bZ,hk y hy,zL hq 3 hr,dR⟩
 ·obtain ⟨bZ,hq,dR⟩:=sH w' F' av s.f [] fx (by rw [←ED]; exact he);exact .inr ⟨e,rfl,_,F',bZ,hp e he0,dR⟩
end
def lX {ρ:Type} {b:Bool} {X Y:Option ρ} {r:ρ} {G:Prop} (h:(if b=true then X else Y)=some r) (yes:b=true→X=some r→G) (no:Y=some r→G):G:=by
 cases b with
 | true=>exact yes rfl (by simpa using h)
 | false=>exact no (by simpa using h)
def kG (k:Int):AV:=if k=0 then .v .nilFunc else .c (.func k.toNat) [] []
def gI (k:Int):List AV:=[kG k]
def abe {k:Int} {n:Nat} (hb:(k==(n:Int))=true) (hn:n≠0):kG k=.c (.func n) [] []:=by
 have:k=(n:Int):=by simpa using hb
 subst this;unfold kG;rw [if_neg (by omega)];rfl
def Le.fn {k:Int} {n:Nat} (hb:(k==(n:Int))=true) (hn:n≠0):Le (kG k) (.c (.func n) [] []):=by rw [abe hb hn]; exact Le.refl _
def ZU {α:Type} {f:α→List AV} {l:List α} {n:Int} {b m:Nat} (h:(0:Int)≤n∧(l.length+n.toNat)*b≤m):((aU f l).length+n.toNat)*b≤m:=by rw [List.length_map]; exact h.2
def ZV {α:Type} {f:α→List AV} {z:α} {l:List α} {n:Nat}:aU f l++ic n (f z)=aU f (l++ic n z):=by simp
def aah {α:Type} (f:α→List AV) (l:List α) (d:Nat) (x:List α):(aU f l).take d++(aU f x).take ((aU f l).length-d)++(aU f l).drop (d+(aU f x).length)=aU f (Hq l d x):=by
 simp [Hq,List.map_take,List.map_drop]
end
section
open Go.RowKit
variable [M:bK] [G:cL] [R:dK]
def exts (ops:Array Oper):Nat→Array Bool→List (List Nat)
 | 0,_=>[[]]
 | fuel+1,listed=>match lQ .any ops listed with
  | []=>[[]]
  | r=>r.flatMap fun i=>(exts ops fuel (listed.setIfInBounds i true)).map (i::·)
def GV {α:Type} (f:α→Prop):List α→Prop
 | []=>True
 | x::r=>f x∧GV f r
def GV.mem {α:Type} {f:α→Prop}:∀{l:List α},GV f l→∀x,x∈l→f x
 | [],_,_,h=>by cases h
 | y::r,h,x,hx=>by
  rcases bj.1 hx with rfl | hx
  ·exact h.1
  ·exact h.2.mem x hx
def aa_ {ops:Array Oper}:∀(fuel t:Nat) (listed:Array Bool),K3 .any ops fuel t listed []∈exts ops fuel listed:=by
 intro fuel;induction fuel with
 | zero=>intro t listed; simp [K3,exts]
 | succ fuel ih =>
  intro t listed;simp only [K3,exts]
  change (match (lQ .any ops listed)[t % (lQ .any ops listed).length]? with
   | some i=>K3 .any ops fuel (t/(lQ .any ops listed).length) (listed.setIfInBounds i true) [i]
   | none=>[].reverse)∈_
  cases hr:lQ .any ops listed with
  | nil=>simp
  | cons a r =>
   have Φ:t % (a::r).length<(a::r).length:=rW _ (by simp);obtain ⟨i,hi⟩:∃i,(a::r)[t % (a::r).length]?=some i:=⟨_,bT Φ⟩;simp only [hi];rw [linearise_go_acc,List.reverse_singleton,List.singleton_append];refine List.mem_flatMap.2 ⟨i,List.mem_of_getElem? hi,List.mem_map.2 ⟨_,ih _ _,rfl⟩⟩
section
variable {P:Program} {T:TT} {C:Ctx}
def YH {n:Nat} {all:Array Oper} {K:ae→Prop} {Q:Exit→Act→World→Prop} (hT:bM P T) (hn:C.n=n) (hQ:∀st a w,Rel C st a w→K st→Q .normal a w) :
  ∀(l:List Nat) (st:ae) (a:Act) (w:World),Rel C st a w→iV P T n all (l.filterMap (all[·]?)) st K→wpOpsIn (fM C.ro) 0 P all Q l a w:=by
 intro l;induction l with
 | nil=>intro st a w hr h; exact hQ _ _ _ hr h
 | cons i r ih =>
  intro st a w hr h;rw [wpOpsIn_cons];cases ho:all[i]? with
  | none =>
   unfold wpOpIn;simp only [ho];refine ih st a w hr ?_;simpa [Q9,ho] using h
  | some o =>
   rw [Q9,ho] at h;exact uX (K:=fun st=>iV P T n all (r.filterMap (all[·]?)) st K) hT hn ho hr (fun st a w hr hk=>ih st a w hr hk) h
def Ok.aax {n id:Nat} {ops:Array Oper} {st:ae} {Q:Exit→ae→Prop} (Ls:List (List Nat)) (hT:bM P T) (hm:P.follows .mixedOrders=true) (hc:exts ops ops.size (oc ops.size false)=Ls)
  (h:GV (fun l=>iV P T n ops (l.filterMap (ops[·]?)) st (Q .normal)) Ls):Ok P n (.region id ops true) st Q :=
 ⟨fun C hn a w hr=>by
  refine wpIn_region_draw fun t=>?_;simp only [Region.schedule,hm,Bool.true_or,if_true];obtain ⟨F,β,hs,hd,hf,he⟩:=hr;have hb:Below w.heap.size w w.drew:=(Below.refl _ _).drew;have cK:Rel C st a w.drew:=⟨fD F w w.drew,β,hs,hd,fun t=>(hf t).later hb he.inv.cC,he.trans (vQ (st:=⟨aF,st.H⟩) he.inv hb)⟩
  exact YH (Q:=fun e a' w'=>∃aq,Rel C aq a' w'∧Q e aq) hT hn (fun st a w hr hk=>⟨st,hr,hk⟩) _ st a w.drew cK (h.mem _ (by rw [←hc]; exact aa_ _ _ _))⟩
end
end
section
open Go.RowKit
variable [M:bK] [G:cL] [R:dK]
abbrev kF (c x y:List AV):Hp:=[(1000,.box c),(1001,.box x),(1002,.box y)]
structure Rp (P:Program) (E:TypeId) (gc:FuncId) (cf:List AV) (kf ka:Nat) (ans:Int→List AV):Prop where
 uf:pW P gc
 ret:∀(w:World) (vs:Array Value),vs.size=3→CallsDIn ga 0 P gc vs .returning w fun e u w'=>(∃v,e=.returned v)∧u=.returning∧Below w.heap.size w w'
 Fk:∀(m:Int) (w:World) (F:Nat→Prop) (β:Nat→Value) (x y:List AV),Inv w F β (kF cf x y)→x.length=kf→y.length=ka →
  CallsDIn ga 0 P gc #[β 1000,β 1001,β 1002] (.panicking (jC E m)) w fun e u w'=>(∃v,e=.returned v)∧u=.panicking [{ v:=.iface E (.int .i64 m),recovered:=true }] ∧
   ∃F' av,Ext w F β ⟨aF,kF cf x y⟩ w' F' av ⟨aF,kF cf cf (ans m)⟩
def abh (T:TT) (E:TypeId) (rs:List ResultVar) (R0:AV→ae→Prop) (RX:Int→ae→Prop):Exit→ae→Prop
 | .normal,st=>qo T rs st fun x=>R0 x st
 | .ret,st=>qo T rs st fun x=>R0 x st
 | .panic l,st=>∃m,l=jC E m∧RX m st
 | _,_=>False
def Sj (q:List (Nat×Nat)) (tc:Nat) (L:List (Nat×AV)) (H:Hp):ae:=⟨dW (fun t=>rl (cT q) 2 (ar L t)) tc .χ,gZ (cT q) H⟩
section
variable {P:Program} {T:TT} {E:TypeId}
def Oe {C:Ctx} {fn:Func} {tmps:Array Value} {RR:Ending→World→Prop} {F:Nat→Prop} {β:Nat→Value} {H:Hp} {u:FrameMode} (hu:u≠.run):∀(l:List Deferred) (w:World),XM C (l++C.dl) w F β H →
  (∀w',XM C C.dl w' F β H→(∀x u,Rd w F β x u→Rd w' F β x u)→LeavesInM ga 0 P fn tmps RR C.dl u w')→LeavesInM ga 0 P fn tmps RR (l++C.dl) u w
 | [],w,h,hk=>hk w h fun _ _ hr=>hr
 | d::l,w,h,hk=>by
  have hm:=h.m;have hn:=h.nd;rw [Ctx.EZ] at hm hn;obtain ⟨D,h1,h2,h3,h4,h5⟩:=hm d (by simp);have Φ:=kE h3;have oE:∀b,b≠D→(w.putObj D (.deferred none)).heap[b]?=w.heap[b]?:=fun b hb=>pV hb;have ha:fZ F w (w.putObj D (.deferred none)):=fun b hb=>oE b fun e=>h4 (e▸hb);have hI:=h.inv;refine ⟨hu,.inl ⟨D,_,by rw [h1],run_takeDeferred h3,?_⟩⟩;have lV:Inv (w.putObj D (.deferred none)) F β H:=⟨fun b hb=>by rw [j2]; exact hI.cC b hb,fun i c hm=>pz ha (fun _ h=>h) (fun b hb=>oE b fun e=>h5 (e▸⟨i,c,hm,hb⟩)) (hI.holds i c hm),hI.keys,hI.apart,hI.eA,hI.fh.at ha⟩;have hx:=h.x;refine Oe hu l _ ⟨⟨hx.os,hx.tape,hx.output,by rw [j2]; exact hx.size,fun b hb hn=>(oE b (by omega)).trans (hx.block b hb hn),hx.mono,hx.new,hx.owned,fun _ _ _=>.χ,lV,hx.gp⟩,fun d' bG=>?_,?_,⟨l,rfl⟩⟩ fun w' oJ cK=>hk w' oJ fun x u hr=>cK x u (hr.frame ha fun _ h=>h)
  ·rw [Ctx.EZ] at bG;obtain ⟨D',g1,g2,g3,g4,g5⟩:=hm d' (by simp [bG]);exact ⟨D',g1,g2,(oE D' fun e=>(iv.1 hn).1 (by rw [h1,←e,←g1]; exact bG)).trans g3,g4,g5⟩
  ·rw [Ctx.EZ]; exact (iv.1 hn).2
def agh {q:List (Nat×Nat)} {w:World} {F:Nat→Prop} {β:Nat→Value} {H:Hp} (hI:Inv w F β H) (cZ:s6 (q.map (·.2))=true) (et:s6 (q.map (·.1))=true) (hk:jB (gZ (cT q) H)=true) :
  ∃bZ:Nat→Value,(∀i j,cT q i=some j→bZ j=β i)∧Inv w F bZ (gZ (cT q) H)∧∀b,bD bZ (gZ (cT q) H) b→bD β H b:=by
 have mQ:=BK cZ;have lB:=BK et;have M6:∀i i' j,cT q i=some j→cT q i'=some j→i=i':=fun i i' j h1 h2=>PY mQ (at_mem h1) (at_mem h2)
 obtain ⟨bZ,ah⟩:∃bZ:Nat→Value,∀i j,cT q i=some j→bZ j=β i:=by
  refine ⟨fun j=>match cT (q.map fun p=>(p.2,p.1)) j with | some i=>β i | none=>undef,fun i j eO=>?_⟩;have:cT (q.map fun p=>(p.2,p.1)) j=some i:=G' (by rw [List.map_map]; exact mQ) (List.mem_map.2 ⟨_,at_mem eO,rfl⟩);simp only [this]
 have du:∀b,bD bZ (gZ (cT q) H) b→bD β H b:=by
  rintro b ⟨j,c,hc,hb⟩;obtain ⟨x,c0,h1,h2,_⟩:=mX hc;exact ⟨x,c0,h1,by rw [←ah x j h2]; exact hb⟩
 refine ⟨bZ,ah,⟨hI.cC,fun j c hc=>?_,zp hk,fun b hb=>hI.apart b (du b hb),fun j c j' c' b hc fO hb aK=>?_,hI.fh⟩,du⟩
 ·obtain ⟨x,c0,h1,h2,rfl⟩:=mX hc;exact rlC_holds ah h2 (hI.holds x c0 h1)
 ·obtain ⟨x,c0,h1,h2,_⟩:=mX hc;obtain ⟨x',LH,nC,iy,_⟩:=mX fO;rw [ah x j h2] at hb;rw [ah x' j' iy] at aK;have:=hI.eA x _ x' _ b h1 nC hb aK;subst this;rw [h2] at iy; exact Option.some.inj iy
def aav {g n rid gc tc s1 s2 s3 a1 a2 a3 tf ta kf ka:Nat} {jf ja:TI} {fn:Func} {A rest:Code} {mk df:Oper} {args:List AV} {L:List (Nat×AV)} {H:Hp} {q:List (Nat×Nat)} {cf:List AV} {ans:Int→List AV} {r:AV}
    (hT : bM P T) (dF : P.funcs[g]? = some fn) (dN : (fn.name == "runtime.NumGoroutine") = false) (hb : fn.body = some (.seq A (.seq (.region rid #[mk, df] false) rest))) (hn : fn.ntmps = n) (hle : args.length ≤ n)
    (ri:mk.op=.makeFunc (.func gc) #[] #[.tmp s1, .tmp s2, .tmp s3]∧mk.dst=some tc∧mk.guard=none) (MT:df.op=.defer { callee:=.value (.tmp tc), args := #[], argTypes := #[] }∧df.dst=none∧df.guard=none) (htc:tc<n)
    (ML:Rp P E gc cf kf ka ans)
    (cZ:s6 (q.map (·.2))=true) (et:s6 (q.map (·.1))=true) (hk:jB (gZ (cT q) H)=true)
    (Ny:ar L s1=.b a1 0) (Nz:ar L s2=.b a2 0) (hs3:ar L s3=.b a3 0) (h1:cT q a1=some 1000) (h2:cT q a2=some 1001) (h3:cT q a3=some 1002)
    (wz:fn.results.toList=[.cell s2 tf, .cell s3 ta]) (M7:T tf=some jf) (hja:T ta=some ja) (haf:pX jf.kind=true) (haa:pX ja.kind=true) (hkf:cf.length=jf.cells) (hka:∀ m, (ans m).length=ja.cells)
    (A2:cf.all fj=true) (hai:∀ m, (ans m).all fj=true)
    (hA:Ok P n A ⟨kU args, []⟩ fun e st=>e=.normal∧Wk st ⟨ar L, H⟩)
    (nK:Ok P n rest (Sj q tc L H) (abh T E fn.results.toList (fun x st=>Fz st.H x r) fun m st=>st.f s2=.b 1001 0∧st.f s3=.b 1002 0∧dI 1000 st.H=some (.box cf) ∧
      (∃ x, dI 1001 st.H=some (.box x)∧x.length=kf)∧(∃ y, dI 1002 st.H=some (.box y)∧y.length=ka)∧r=.t [.a cf, .a (ans m)])):Pure P g args r:=by
  refine ⟨⟨fn, _, dF, dN, hb⟩, fun w F β vs hI hs hv => ?_⟩;refine callsIn_wide.1 (callsIn_of_wp_marks (F:=ga) (n:=0) dF hb trivial ?_);let C:Ctx:=⟨w, F, β, [], n, none, .inl rfl, []⟩;have hr:Rel C ⟨kU args, []⟩ { tmps:=vs++oc (fn.ntmps-vs.size) undef, defers:=[] } w :=
    ⟨F, β, by simp [C, hn]; omega, trivial, N3 hs hv, ⟨Ext.refl hI, fun d hd=>(eH hd).elim, qG, ⟨[], rfl⟩⟩⟩
  refine wpIn_seq (wpIn_mono (hA.h C rfl _ w hr) ?_);rintro e gO w1 ⟨st1, acE, rfl, hW⟩;obtain ⟨F1, dh, uK, _, sI, bE⟩:=hW C gO w1 acE;have bw:∀ b, ¬ bD β ([]:Hp) b:=fun b ⟨_, _, hm, _⟩=>(eH hm).elim;obtain ⟨bZ, zi, Mv, uG⟩:=agh bE.inv cZ et hk;have p1:=sI s1; have p2:=sI s2; have p3:=sI s3;change Rd _ _ _ (ar L s1) _ at p1;change Rd _ _ _ (ar L s2) _ at p2;change Rd _ _ _ (ar L s3) _ at p3;rw [Ny] at p1; rw [Nz] at p2; rw [hs3] at p3;obtain ⟨b1, cO, e1⟩:=p1.mz;obtain ⟨b2, jJ, e2⟩:=p2.mz;obtain ⟨b3, MG, e3⟩:=p3.mz
  have g1:gO.tmps.getD s1 undef=bZ 1000:=by rw [zi _ _ h1, cO]; exact e1
  have g2:gO.tmps.getD s2 undef=bZ 1001:=by rw [zi _ _ h2, jJ]; exact e2
  have g3:gO.tmps.getD s3 undef=bZ 1002:=by rw [zi _ _ h3, MG]; exact e3
  obtain ⟨d0, A3⟩:∃ d0:Deferred, d0={ target:=.fn (.func gc) #[bZ 1000, bZ 1001, bZ 1002], args := #[] }:=⟨_, rfl⟩;let Df:Act:={ (gO.put (some tc) (.func (.func gc) #[] #[bZ 1000, bZ 1001, bZ 1002])) with defers:=d0::gO.defers };have uK:gO.tmps.size=n:=uK;let C':Ctx:=⟨w1, F1, bZ, gZ (cT q) H, n, none, .inl rfl, d0::gO.defers⟩
  have Nv:Rel C' (Sj q tc L H) Df w1:=by
    refine ⟨F1, bZ, by show (gO.put _ _).tmps.size=n; simpa [iK] using uK, trivial, ?_, ⟨Ext.refl Mv, fun d hd => ?_, ?_, ⟨[], rfl⟩⟩⟩
    · exact Rd.put (fun t=>zL zi 2 (sI t)) .χ (by omega)
    · have:C'.ms (d0::gO.defers)=[]:=Ctx.EZ (C:=C') (l:=[])
      rw [show C'.ms Df.defers=[] from this] at hd; exact (eH hd).elim
    · have:C'.ms (d0::gO.defers)=[]:=Ctx.EZ (C:=C') (l:=[])
      rw [show C'.ms Df.defers=[] from this]; exact qG
  have ends:∀ (w5:World) (F5:Nat→Prop) (lI:Nat→Value) (H5:Hp), Ext w1 F1 bZ ⟨aF, gZ (cT q) H⟩ w5 F5 lI ⟨aF, H5⟩→∀ tmps:Array Value,
      (∀ w6, Inv w6 F5 lI H5→(∀ x u, Rd w5 F5 lI x u→Rd w6 F5 lI x u)→∃ v, (results fn tmps).run P w6=.ok v w6∧bf w6 (fun b=>F5 b∨bD lI H5 b) r v) →
      LeavesInM ga 0 P fn tmps (fun e w'=>∃ v, e=.returned v∧Below w.heap.size w w'∧bf w' (fD F w w') r v) gO.defers .returning w5:=by
    intro w5 F5 lI H5 hx tmps wb;let C5:Ctx:=⟨w, F, lI, [], n, none, .inl rfl, []⟩
    have Uu:∀ b, bD lI H5 b→w.heap.size≤b:=fun b hb=>by
      rcases hx.owned b hb with h | h
      · exact fc bE.x.size h
      · rcases bE.x.owned b (uG b h) with h | h
        · exact h
        · exact (bw b h).elim
    have dA:Ext w F lI ⟨aF, []⟩ w5 F5 lI ⟨aF, H5⟩:=by
      refine ⟨hx.os.trans bE.x.os, bE.x.tape.trans hx.tape, hx.output.trans bE.x.output, fc bE.x.size hx.size, fun b hb _ => ?_, fun b hb=>hx.mono b (bE.x.mono b hb), fun b hb => ?_, fun b hb=>.inl (Uu b hb), fun _ _ _=>.χ, hx.inv, fun _ _=>rfl⟩
      · rw [hx.block b (oe hb bE.x.size) (fun ho => ?_)]
        · exact bE.x.block b hb (bw b)
        · rcases bE.x.owned b (uG b ho) with h | h
          · have h:w.heap.size≤b:=h; omega
          · exact bw b h
      · rcases hx.new b hb with h | h | h
        · rcases bE.x.new b h with h | h | h
          · exact .inl h
          · exact .inr (.inl h)
          · exact (bw b h).elim
        · exact .inr (.inl (fc bE.x.size h))
        · rcases bE.x.owned b (uG b h) with h | h
          · exact .inr (.inl h)
          · exact (bw b h).elim
    have hXM:XM C5 gO.defers w5 F5 lI H5:=by
      refine ⟨dA, fun d hd => ?_, ?_, ⟨gO.defers, (List.append_nil _).symm⟩⟩
      · have hd:d∈C.ms gO.defers:=hd
        obtain ⟨D, q1, q2, q3, q4, q5⟩:=bE.m d hd;have Φ:=kE q3;refine ⟨D, q1, q2, (hx.block D Φ fun ho=>q5 (uG D ho)).trans q3, fun hF => ?_, fun ho => ?_⟩
        · rcases hx.new D hF with h | h | h
          · exact q4 h
          · exact absurd Φ (Nat.not_lt.2 h)
          · exact q5 (uG D h)
        · rcases hx.owned D ho with h | h
          · exact absurd Φ (Nat.not_lt.2 h)
          · exact q5 (uG D h)
      · exact bE.nd
    refine IX rfl gO.defers w5 hXM fun w6 h6 ID => ?_;obtain ⟨v, a_, fy⟩:=wb w6 h6.inv ID;refine ⟨v, a_, v, rfl, ⟨h6.x.os, h6.x.tape, h6.x.output, h6.x.size, fun b hb=>h6.x.block b hb (by rintro ⟨_, _, hm, _⟩; exact (eH hm).elim)⟩, fy.frame (fun _ _=>rfl) fun b hb => ?_⟩
    rcases hb with hb | hb
    · rcases h6.x.new b hb with h | h | h
      · exact .inl h
      · exact .inr ⟨h, h6.inv.cC b hb⟩
      · obtain ⟨_, _, hm, _⟩:=h; exact (eH hm).elim
    · exact .inr ⟨Uu b hb, h6.inv.fI hb⟩
  have Sl:∀ (u:FrameMode) (w4:World) (tmps:Array Value), u≠.run→(CallsDIn ga 0 P gc #[bZ 1000, bZ 1001, bZ 1002] u w4 fun e u' w5=>(∃ v, e=.returned v)∧settle u'=.returning ∧
        LeavesInM ga 0 P fn tmps (fun e w'=>∃ v, e=.returned v∧Below w.heap.size w w'∧bf w' (fD F w w') r v) gO.defers .returning w5) →
      LeavesInM ga 0 P fn tmps (fun e w'=>∃ v, e=.returned v∧Below w.heap.size w w'∧bf w' (fD F w w') r v) (d0::gO.defers) u w4:=by
    intro u w4 tmps hu hc;obtain ⟨fnc, cc, hfc, qc, hbc⟩:=ML.uf
    have acn : ¬ fnc.name = "runtime.NumGoroutine" := by simpa using qc
    refine ⟨hu, .inr ⟨fun h=>(by cases h), .func gc, #[bZ 1000, bZ 1001, bZ 1002], gc, #[bZ 1000, bZ 1001, bZ 1002], by rw [A3], by rw [A3]; simp [invoke, callFunc, hfc, acn, hbc], fun _ _=>trivial, hc.mono ?_⟩⟩;rintro e u' w5 ⟨⟨v, rfl⟩, Bx, hl⟩;show LeavesInM ga 0 P fn tmps _ gO.defers (settle u') w5;rw [Bx]; exact hl
  have ack:wpOpsIn ga 0 P #[mk, df] (fun e a' w'=>match e with
      | .normal=>rest.wpIn ga 0 P (bodyPostM ga 0 P fn fun e w'=>∃ v, e=.returned v∧Below w.heap.size w w'∧bf w' (fD F w w') r v) a' w'
      | e=>bodyPostM ga 0 P fn (fun e w'=>∃ v, e=.returned v∧Below w.heap.size w w'∧bf w' (fD F w w') r v) e a' w') [0, 1] gO w1:=by
    have k0:(#[mk, df]:Array Oper)[0]? = some mk:=rfl;have k1:(#[mk, df]:Array Oper)[1]? = some df:=rfl;obtain ⟨dm, om, tm, pm, fm, gm⟩:=mk;obtain ⟨dd, od, td, pd, fd, gd'⟩:=df;obtain ⟨rfl, rfl, rfl⟩:=ri;obtain ⟨rfl, rfl, rfl⟩:=MT;have ev1:gO.eval (.tmp s1)=bZ 1000:=g1;have ev2:gO.eval (.tmp s2)=bZ 1001:=g2;have ev3:gO.eval (.tmp s3)=bZ 1002:=g3;rw [wpOpsIn_cons];unfold wpOpIn;simp only [k0];rw [if_pos (by simp [dS])];refine ⟨fun _ _=>trivial, ?_⟩;rw [Oper.semAt_eq _ _ _ (by simp)]
    have r0:(execOp gO.eval { dst:=some tc, op:=.makeFunc (.func gc) #[] #[.tmp s1, .tmp s2, .tmp s3], type:=tm, pos:=pm, after:=fm, guard:=none }).run P w1=.ok (.value (.func (.func gc) #[] #[bZ 1000, bZ 1001, bZ 1002])) w1:=by
      rw [← ev1, ← ev2, ← ev3]; simp [execOp, Instr.makeFunc]
    rw [r0, xu, wpOpsIn_cons];unfold wpOpIn;simp only [k1];rw [if_pos (by simp [dS])];refine ⟨fun _ _=>trivial, ?_⟩
    have evc:(gO.put (some tc) (.func (.func gc) #[] #[bZ 1000, bZ 1001, bZ 1002])).eval (.tmp tc)=.func (.func gc) #[] #[bZ 1000, bZ 1001, bZ 1002]:=by
      have:tc<gO.tmps.size:=by omega
      simp [Ai, iK, this]
    have r1:(Oper.semAt none (gO.put (some tc) (.func (.func gc) #[] #[bZ 1000, bZ 1001, bZ 1002])).eval { dst:=none, op:=.defer { callee:=.value (.tmp tc), args := #[], argTypes := #[] }, type:=td, pos:=pd, after:=fd, guard:=none }).run P w1=.ok (.defer d0) w1:=by
      rw [Oper.semAt_none, A3];simp [execOp, resolve, evc, l8]
    show Oper.uponIn _ _ _ _ _ _ _ ((Oper.semAt none _ _).run P w1);rw [r1, Oper.uponIn_defer]
    exact show rest.wpIn ga 0 P _ Df w1 from by
      refine wpIn_mono (nK.h C' rfl Df w1 Nv) ?_;rintro e a3 w3 ⟨uT, ⟨F3, qy, hz3, _, TX, jL⟩, wy⟩;obtain ⟨l3, sO⟩:=jL.sp;have sO:a3.defers=l3++C'.dl:=sO
      have VO:qo T fn.results.toList uT (fun x=>Fz uT.H x r)→LeavesInM ga 0 P fn a3.tmps (fun e w'=>∃ v, e=.returned v∧Below w.heap.size w w'∧bf w' (fD F w w') r v) a3.defers .returning w3:=by
        intro wy;rw [sO];refine Oe (by simp) l3 w3 (by rw [← sO]; exact jL) fun w4 j8 UB => ?_;refine Sl .returning w4 a3.tmps (by simp) ((ML.ret w4 _ rfl).mono ?_);rintro e u' w5 ⟨jR, rfl, q6⟩;refine ⟨jR, rfl, ?_⟩;have Ez:Ext w4 F3 qy ⟨aF, uT.H⟩ w5 (fD F3 w4 w5) qy ⟨aF, uT.H⟩:=vQ (st:=⟨aF, uT.H⟩) j8.inv q6;refine ends w5 (fD F3 w4 w5) qy uT.H (j8.x.trans Ez) a3.tmps fun w6 h6 ID => ?_;obtain ⟨v, x, a_, cJ, gl⟩:=JL (P:=P) (st:=uT) (fn:=fn) (tmps:=a3.tmps) hT h6 (fun t=>ID _ _ ((UB _ _ (TX t)).later q6 j8.inv.cC)) wy;exact ⟨v, a_, cJ w6 _ qy v h6 gl⟩
      cases e with
      | normal=>exact VO wy
      | ret=>exact VO wy
      | exit id=>exact wy.elim
      | goto l=>exact wy.elim
      | outgrown=>exact wy.elim
      | panic ch =>
        obtain ⟨m, rfl, q2, q3, c1, ⟨x, c2, hxl⟩, ⟨y, c3, EI⟩, hre⟩:=wy;show LeavesInM ga 0 P fn a3.tmps _ a3.defers (.panicking (jC E m)) w3;rw [sO];refine Oe (by simp) l3 w3 (by rw [← sO]; exact jL) fun w4 j8 UB => ?_
        have TQ:Ext w1 F1 bZ ⟨aF, gZ (cT q) H⟩ w4 F3 qy ⟨aF, kF cf x y⟩:=j8.x.chunks (fun i c hm=>by
          have:(i, c)∈uT.H:=by
            simp only [bj, ig, eH, or_false] at hm
            rcases hm with ⟨rfl, rfl⟩ | ⟨rfl, rfl⟩ | ⟨rfl, rfl⟩
            · exact eX c1
            · exact eX c2
            · exact eX c3
          exact ⟨⟨c, this⟩, j8.inv.holds i c this⟩) (by simp)
        have el:∀ i, 1000≤i→qy i=bZ i:=fun i hi=>j8.x.gp i hi;have hc:=ML.Fk m w4 F3 qy x y TQ.inv hxl EI;rw [el 1000 (by omega), el 1001 (by omega), el 1002 (by omega)] at hc;refine Sl (.panicking (jC E m)) w4 a3.tmps (by simp) (hc.mono ?_);rintro e u' w5 ⟨jR, rfl, F5, lI, dA⟩;refine ⟨jR, rfl, ?_⟩;refine ends w5 F5 lI _ (TQ.trans dA) a3.tmps fun w6 h6 ID => ?_;have ab_:∀ i, 1000≤i→lI i=qy i:=fun i hi=>dA.gp i hi
        have WM:∀ (s i:Nat), 1000≤i→uT.f s=.b i 0→Rd w6 F5 lI (.b i 0) (a3.tmps.getD s undef):=fun s i hi By=>by
          have:=TX s;rw [By] at this;obtain ⟨eV, hb, he⟩:=this.mz;rw [he];exact .b ((ab_ i hi).trans hb)
        have acI:∀ t, Rd w6 F5 lI ((fun t=>if t=s2 then AV.b 1001 0 else if t=s3 then .b 1002 0 else .χ) t) (a3.tmps.getD t undef):=fun t=>by
          show Rd w6 F5 lI (if t=s2 then AV.b 1001 0 else if t=s3 then .b 1002 0 else .χ) _;by_cases ht:t=s2
          · rw [if_pos ht, ht]; exact WM s2 1001 (by omega) q2
          · rw [if_neg ht]
            by_cases lD:t=s3
            · rw [if_pos lD, lD]; exact WM s3 1002 (by omega) q3
            · rw [if_neg lD]; exact .χ
        have aO:s3≠s2:=fun e=>by
          rw [e] at q3; rw [q2] at q3; cases q3
        have EB:qo T fn.results.toList ⟨fun t=>if t=s2 then AV.b 1001 0 else if t=s3 then .b 1002 0 else .χ, kF cf cf (ans m)⟩ (fun x=>x=.t [.a cf, .a (ans m)]):=by
          rw [wz];simp only [qo, B9, if_pos, aO, if_false, B_, M7, hja];have f1:dI 1001 (kF cf cf (ans m))=some (.box cf):=rfl;have f2:dI 1002 (kF cf cf (ans m))=some (.box (ans m)):=rfl;simp only [f1, f2, BD, haf, haa, Nat.zero_add, ← hkf, ← hka m, Nat.ble_eq, bF, List.drop_zero, List.take_length]
          have b1:pT cf.length cf.length=true:=by simp
          have b2:pT (ans m).length (ans m).length=true:=by simp
          simp only [b1, b2, cond_true];exact ⟨_, rfl, _, rfl, rfl⟩
        obtain ⟨v, x', a_, rfl, gl⟩:=JL (P:=P) (st:=⟨fun t=>if t=s2 then AV.b 1001 0 else if t=s3 then .b 1002 0 else .χ, kF cf cf (ans m)⟩) (fn:=fn) (tmps:=a3.tmps) hT h6 acI EB;refine ⟨v, a_, ?_⟩;rw [hre];exact (Fz.t (.cons (Fz.dG (by simpa [kb] using A2)) (.cons (Fz.dG (by simpa [kb] using hai m)) .nil))) w6 F5 lI v h6 gl
  exact wpIn_seq (wpIn_region ack)
end
end
section
variable [M:bK] [G:cL] [R:dK]
def Kp {l:List UInt8} {a b:Int} (h:0≤a∧a≤b∧b≤(l.length:Int)):(lK l.toArray).extract a.toNat b.toNat=lK (sub l a b).toArray:=by
 apply ByteArray.ext;simp [sub,List.drop_take]
def Le.of_eq {x y:AV} (h:x=y):Le x y:=by rw [h]; exact Le.refl _
def abd (k:Int) {p:Prop} (h0:kG k=.v .nilFunc→p) (h1:∀n,kG k=.c (.func n) [] []→p):p:=by
 by_cases h:k=0
 ·exact h0 (if_pos h)
 ·exact h1 _ (if_neg h)
def AP (n d:Nat) (k:Int):er (n+1) d (kG k)=kG k:=by
 by_cases h:k=0
 ·rw [kG,if_pos h]; rfl
 ·rw [kG,if_neg h]; rfl
def Le.fnE {d:Nat} {k:Int}:Le (er 2 d (kG k)) (kG k):=Le.of_eq (AP 1 d k)
def Le.abf {d d':Nat} {k:Int}:Le (er 2 d (er 2 d' (kG k))) (kG k):=Le.of_eq (by rw [AP 1,AP 1])
def Le.abg {d d' d'':Nat} {k:Int}:Le (er 2 d (er 2 d' (er 2 d'' (kG k)))) (kG k):=Le.of_eq (by rw [AP 1,AP 1,AP 1])
end
section
open Go.RowKit
variable [M:bK] [G:cL] [R:dK]
local instance akZ:qK:=⟨[]⟩
local instance akW:mj:=⟨[]⟩
def ud (P:Program) (T:TT) (E:TypeId) (n:Nat) (ops:Array Oper):List (Nat×List Nat)→ae→(ae→Prop)→(Int→ae→Prop)→Prop
 | [],st,K,_=>K st
 | c::r,st,K,KX=>match ops[c.1]? with
  | some o=>gd n ops o st (fun st=>Kl P T E o st (fun x aq=>put n o.dst aq x fun fK=>qh P T ops fK c.2∧ud P T E n ops r fK K KX) fun m aq=>KX m ⟨aF,aq.H⟩) fun st=>put n o.dst st (.v undef) fun fK=>qh P T ops fK c.2∧ud P T E n ops r fK K KX
  | none=>False
section
variable {P:Program} {T:TT} {E:TypeId}
def ahJ {w:World} {F:Nat→Prop} {β:Nat→Value} {o:Oper} {a:Act} {st:ae} {k:AV→ae→Prop} {kx:Int→ae→Prop} (hT:bM P T) (hI:Inv w F β st.H) (bI:∀x,x∈o.op.operands→Rd w F β (ev st.f x) (a.eval x)) (h:wZ P T E o st k kx):Rq P E (execOp a.eval o) w F β st k kx:=by
 obtain ⟨dst,op,type,pos,after,guard⟩:=o
 cases op <;> simp only [wZ] at h <;> first | exact h.elim | skip
 all_goals simp only [Op.operands] at bI
 case call c =>
  obtain ⟨callee,args,argTypes⟩:=c
  cases callee <;> simp only at h <;> first | exact h.elim | skip
  rename_i f;unfold L0 at h;split at h
  ·rename_i g fs cs lx;have sJ:=bI f (by simp [Call.operands]);rw [lx] at sJ;obtain ⟨us,ws,M1,hs,eu,hu,hw⟩:=sJ.nt;obtain ⟨⟨fn,code,dF,dN,hb⟩,h⟩:=h
   have rk : ¬ fn.name = "runtime.NumGoroutine" := by simpa using dN
   refine .inr (.inr ⟨g,us++args.map a.eval++ws,?_,?_⟩)
   ·have e:execOp a.eval { dst,op:=.call { callee:=.value f,args,argTypes },type,pos,after,guard }=(do let d ←l8 (a.eval f) (args.map a.eval); invoke d.target d.args):=rfl;rw [e,M1];simp [l8,invoke,callFunc,dF,rk,hb]
   ·have hl:(args.map a.eval).size=(args.toList.map (ev st.f)).length:=by simp
    exact h w F β _ hI (by simp [hs,eu]) (G_ hs hl eu hu (fun i hi=>by
     have hi:i<args.size:=by simpa using hi
     have:=bI args[i] (by simp [Call.operands])
     simpa [aY,hi] using this) hw)
  ·exact h.elim
 case makeInterface t x =>
  split at h
  ·rename_i n i hx hi;split at h
   ·rename_i hk;have nO:=bI x (by simp);rw [hx] at nO;refine .inl ⟨.iface t (.int .i64 n),w,?_,?_⟩
    ·simp only [execOp];rw [nO.bL];have:=(hT _ _ hi).int hk;simp [Y_,run_underlying this]
    ·exact ⟨_,st,F,β,h,.i (.v (.inl rfl)),Ext.refl hI⟩
   ·exact h.elim
  ·exact h.elim
 case panic x =>
  split at h
  ·rename_i t n hx;obtain ⟨rfl,h⟩:=h;have nO:=bI x (by simp);rw [hx] at nO;refine .inr (.inl ⟨n,?_,h⟩);simp only [execOp];rw [nO.bL];simp [run_panic_iface]
  ·exact h.elim
def Ok.nu {id n:Nat} {chain:List (Nat×List Nat)} {ops:Array Oper} {st:ae} {Q:Exit→ae→Prop} (hT:bM P T) (hm:P.follows .mixedOrders=true) (qa:RZ chain ops=true)
  (h:rP P T n ops (HK chain ops) st fun st1=>ud P T E n ops chain st1 (Q .normal) (fun m aq=>Q (.panic (jC E m)) aq)):Ok P n (.region id ops true) st Q:=by
 refine ⟨fun C hn a w c_=>?_⟩;simp only [RZ,bJ,ej,me] at qa;obtain ⟨Np,abH,gh⟩:=qa
 have get:∀i o,ops[i]?=some o→xX i o=true∧ue ops i o=true∧Hi ops i o=true∧LJ ops i o=true:=fun i o ho=>by
  have h1:=Np i (lg.1 ho).1;rw [ho] at h1;simp only [bJ] at h1;exact ⟨h1.1,h1.2.1,h1.2.2.1,h1.2.2.2⟩
 have lt:∀{i o},ops[i]?=some o→i<ops.size:=fun h=>(lg.1 h).1
 have dec:∀i o,ops[i]?=some o→∀e,e∈o.after→jG .any e=true→e.on<i:=fun i o ho e he hb=>by
  have:=(Array.all_eq_true'.1 (get i o ho).1) e he;simpa [hb] using this
 have Xx:∀i o j,ops[i]?=some o→j<ops.size→iM ops i j=true→∃e,e∈o.after∧jG .any e=true∧(e.on=j∨iM ops e.on j=true):=fun i o j ho hj hd=>by
  have h1:=(get i o ho).2.1;simp only [ue,ej,me] at h1;have h1:=h1 j hj;simp only [hd,Bool.not_true,Bool.false_or] at h1;obtain ⟨e,he,hb⟩:=Array.any_eq_true'.1 h1;simp only [bJ,tT,beq_iff_eq] at hb;exact ⟨e,he,hb.1,hb.2⟩
 have low:∀(i:Nat) (o:Oper) (d:Nat),ops[i]?=some o→o.dst=some d→d<1000:=fun i o d ho hd=>by
  have h1:=(get i o ho).2.2.1;unfold Hi at h1; rw [hd] at h1;simp only [bJ] at h1;simpa using h1.1
 have hp:(∀(i:Nat) (o:Oper) (j:Nat) (o':Oper) (d:Nat),i<ops.size→j<ops.size→ops[i]?=some o→ops[j]?=some o'→o.dst=some d→o'.dst=some d→i=j) ∧
   ∀(i:Nat) (o:Oper) (t j:Nat) (o':Oper),i<ops.size→j<ops.size→ops[i]?=some o→t∈o.looksAt ops→ops[j]?=some o'→o'.dst=some t→iM ops i j=true:=by
  refine ⟨fun i o j o' d hi hj ho aB hd bG=>?_,fun i o t j o' hi hj ho ht aB bG=>?_⟩
  ·have h1:=(get i o ho).2.2.1;unfold Hi at h1;rw [hd] at h1;simp only [bJ,ej,me] at h1;have:=h1.2 j hj;rw [aB] at this;simpa [bG] using this
  ·have h1:=(get i o ho).2.2.2;simp only [LJ,ej,me] at h1;have:=h1 t ht j hj;rw [aB] at this;simpa [bG] using this
 have hr:=OX c_;refine wpIn_region_any hm ?_;show wpAnyIn (fM C.ro) 0 P .any ops _ ops.size (oc ops.size false) a w.drew;generalize w.drew=w at hr;clear c_;obtain ⟨F,β,hs,hd,hf,he⟩:=hr;have TZ:∀i o,i∈uj chain ops→ops[i]?=some o→o∈HK chain ops:=fun i o hi ho=>mb.2 ⟨i,hi,ho⟩
 have Uh:∀i j,i<ops.size→j<ops.size→iM ops i j=true→j<i:=by
  intro i;induction i using tX with
  | _ i ih =>
   intro j hi hj yz;obtain ⟨e,bE,hb,h2⟩:=Xx i _ j (gr hi) hj yz;have Φ:=dec i _ (gr hi) e bE hb
   rcases h2 with h2 | h2
   ·omega
   ·have:=ih e.on Φ j (by omega) hj h2; omega
 have yO:xC ops (HK chain ops):=by
  have key:∀l:List Nat,l.Pairwise (· < ·)→(∀i,i∈l→i∈uj chain ops)→xC ops (l.filterMap fun i=>ops[i]?):=by
   intro l;induction l with
   | nil=>intro _ _; exact True.intro
   | cons i l ih =>
    intro hpw za;have hi:=za i (by simp);have Ij:=(I4.1 hi).1;have En:ops[i]?=some ops[i]:=gr Ij;rw [Q9,En];have Uz:=List.pairwise_cons.1 hpw
    have fi:∃d,ops[i].dst=some d:=by
     have:=gh i hi;rw [En] at this;exact Option.isSome_iff_exists.1 this
    obtain ⟨d,oC⟩:=fi
    have mem:∀o',o'∈l.filterMap (fun i=>ops[i]?)→∃j,i<j∧ops[j]?=some o':=fun o' aB=>by
     obtain ⟨j,hj,sN⟩:=mb.1 aB;exact ⟨j,Uz.1 j hj,sN⟩
    refine ⟨⟨d,oC,fun o' aB bG=>?_⟩,fun t ht o' aB bG=>?_,ih Uz.2 fun j hj=>za j (cr _ hj)⟩
    ·obtain ⟨j,eO,sN⟩:=mem o' aB;have:=hp.1 i _ j o' d Ij (lt sN) En sN oC bG;omega
    ·have:∃j,i≤j∧ops[j]?=some o':=by
      rcases bj.1 aB with rfl | h
      ·exact ⟨i,bF _,En⟩
      ·obtain ⟨j,eO,sN⟩:=mem o' h;exact ⟨j,by omega,sN⟩
     obtain ⟨j,eO,sN⟩:=this;have gS:=hp.2 i _ t j o' Ij (lt sN) En ht sN bG;have:=Uh i j Ij (lt sN) gS;omega
  exact key _ (List.Pairwise.filter _ List.pairwise_lt_range) fun i hi=>hi
 obtain ⟨fe,lx,hW,ach,bW⟩:=QA (HK chain ops) _ yO h;have key:∀fuel (listed:Array Bool) (a:Act) (w:World) (done rem:List (Nat×List Nat)) (f:Nat→AV) (H:Hp),listed.size=ops.size→listed.toList.count false≤fuel →
   (∀i o,listed.getD i false=true→ops[i]?=some o→∀e,e∈o.after→jG .any e=true→listed.getD e.on false=true) →
   done++rem=chain→(∀c,c∈done→listed.getD c.1 false=true)→(∀c,c∈rem→listed.getD c.1 false=false)→p0 chain ops rem=true →
   GZ C ops ops.size f H listed a w→(H.map (·.1)).Nodup→(∀i o,i∈uj chain ops→ops[i]?=some o→listed.getD i false=false→vA P T ops H f o) →
   ud P T E n ops rem ⟨f,H⟩ (Q .normal) (fun m aq=>Q (.panic (jC E m)) aq) →
   wpAnyIn (fM C.ro) 0 P .any ops (fun e a' w'=>∃aq,Rel C aq a' w'∧Q e aq) fuel listed a w:=by
  intro fuel;induction fuel with
  | zero =>
   intro listed a w done rem f H aZ vZ da sG Ie Bv sF ju Ik Nk hw
   have d_:∀i,i<ops.size→listed.getD i false=true:=fun i hi=>by
    have h0:listed.toList.count false=0:=by omega
    have bm:i<listed.size:=by omega
    have bH:listed[i]∈listed.toList:=by simp
    cases hb:listed[i] with
    | true=>simp [bm,hb]
    | false=>rw [hb] at bH; exact absurd bH (List.count_eq_zero.1 h0)
   have rv:lQ .any ops listed=[]:=by
    apply Am.2;intro i hi;obtain ⟨h1,o,ho,_⟩:=mem_ready.1 hi;have:=d_ i (lt ho)
    have bm:i<listed.size:=by have:=lt ho; omega
    simp [bm] at h1 this;rw [h1] at this; cases this
   refine ⟨rv,?_⟩
   have c_:rem=[]:=by
    cases rem with
    | nil=>rfl
    | cons c r =>
     simp only [p0,bJ] at sF
     have Φ:c.1<ops.size:=by simpa [gF] using sF.1
     have:=Bv c (by simp);rw [d_ c.1 Φ] at this; cases this
   subst c_;obtain ⟨F1,dh,g1,g2,g3,g6⟩:=ju.ex;exact ⟨⟨f,H⟩,⟨F1,dh,g1,g2,fun t=>g6 t fun i o hi _ _=>d_ i hi,g3⟩,hw⟩
  | succ fuel ih =>
   intro listed a w done rem f H aZ vZ da sG Ie Bv sF ju Ik Nk hw
   have yu:∀i,i<ops.size→(∀o,ops[i]?=some o→∀e,e∈o.after→jG .any e=true→listed.getD e.on false=true)→∀j,j<ops.size→iM ops i j=true→listed.getD j false=true:=by
    intro i;induction i using tX with
    | _ i ry =>
     intro hi fP j hj gS;obtain ⟨e,bE,cO,h⟩:=Xx i _ j (gr hi) hj gS;have hl:=fP _ (gr hi) e bE cO;have sP:=dec i _ (gr hi) e bE cO
     rcases h with h | h
     ·rw [←h]; exact hl
     ·exact ry e.on sP (by omega) (fun o ho=>da e.on o hl ho) j hj h
   have rK:∀{i o},i∈lQ .any ops listed→ops[i]?=some o→listed.getD i false=false∧∀e,e∈o.after→jG .any e=true→listed.getD e.on false=true:=fun hi ho=>by
    obtain ⟨h1,o',aB,h2⟩:=mem_ready.1 hi;rw [ho] at aB; cases aB;have:=lt ho;refine ⟨?_,h2⟩;have bm:=lt ho;rw [←aZ] at bm;simpa [bm] using h1
   have isReady:∀{i o},ops[i]?=some o→listed.getD i false=false→(∀j,j<i→listed.getD j false=true)→i∈lQ .any ops listed:=fun ho h1 h2=>by
    refine mem_ready.2 ⟨?_,_,ho,fun e he hb=>h2 _ (dec _ _ ho e he hb)⟩;have bm:=lt ho;rw [←aZ] at bm;simpa [bm] using h1
   have next:∀i,i<ops.size→listed.getD i false=false→(listed.setIfInBounds i true).size=ops.size∧(listed.setIfInBounds i true).toList.count false≤fuel:=fun i hi h1=>by
    refine ⟨by simpa using aZ,?_⟩
    have bm:i<listed.size:=by omega
    have h2:listed.toList[i]?=some false:=by
     have:listed[i]=false:=by simpa [bm] using h1
     simp [bm,this]
    have:=count_set listed.toList i h2;simp only [Array.toList_setIfInBounds];omega
   have sf:∀i o,ops[i]?=some o→(∀e,e∈o.after→jG .any e=true→listed.getD e.on false=true) →
     ∀j o',(listed.setIfInBounds i true).getD j false=true→ops[j]?=some o'→∀e,e∈o'.after→jG .any e=true→(listed.setIfInBounds i true).getD e.on false=true:=fun i o ho fP j o' hj aB e bE cO=>by
    have bm:i<listed.size:=by rw [aZ]; exact lt ho
    rw [fC bm] at hj ⊢;split
    ·rfl
    ·split at hj
     ·rename_i e2;subst e2;rw [ho] at aB; cases aB;exact fP e bE cO
     ·exact da j o' hj aB e bE cO
   by_cases d_:∀i,i<ops.size→listed.getD i false=true
   ·-- nothing is left
    have rv:lQ .any ops listed=[]:=by
     apply Am.2;intro i hi;obtain ⟨_,o,ho,_⟩:=mem_ready.1 hi;obtain ⟨dO,_⟩:=rK hi ho;rw [d_ i (lt ho)] at dO; cases dO
    refine ⟨fun _=>?_,fun i hi=>by rw [rv] at hi; cases hi⟩
    have c_:rem=[]:=by
     cases rem with
     | nil=>rfl
     | cons c r =>
      simp only [p0,bJ] at sF
      have Φ:c.1<ops.size:=by simpa [gF] using sF.1
      have:=Bv c (by simp);rw [d_ c.1 Φ] at this; cases this
    subst c_;obtain ⟨F1,dh,g1,g2,g3,g6⟩:=ju.ex;exact ⟨⟨f,H⟩,⟨F1,dh,g1,g2,fun t=>g6 t fun i o hi _ _=>d_ i hi,g3⟩,hw⟩
   ·have least:∃i,i<ops.size∧listed.getD i false=false∧∀j,j<i→listed.getD j false=true:=by
     have:∃i,i<ops.size∧listed.getD i false=false:=by
      refine xi fun bw=>d_ fun i hi=>?_;cases hb:listed.getD i false
      ·exact absurd ⟨i,hi,hb⟩ bw
      ·rfl
     obtain ⟨i,hi,hb⟩:=this;induction i using tX with
     | _ i ry =>
      by_cases aR:∀j,j<i→listed.getD j false=true
      ·exact ⟨i,hi,hb,aR⟩
      ·have:∃j,j<i∧listed.getD j false=false:=by
        refine xi fun bw=>aR fun j hj=>?_;cases hb:listed.getD j false
        ·exact absurd ⟨j,hj,hb⟩ bw
        ·rfl
       obtain ⟨j,hj,Ee⟩:=this;exact ry j hj (by omega) Ee
    obtain ⟨i0,q9,ek,yr⟩:=least;have c_:=isReady (gr q9) ek yr;refine ⟨fun h0=>(by rw [h0] at c_; cases c_),fun i hi=>?_⟩;obtain ⟨_,o,ho,_⟩:=mem_ready.1 hi;obtain ⟨dO,fP⟩:=rK hi ho
    have gS:∀j,j<ops.size→iM ops i j=true→listed.getD j false=true:=yu i (lt ho) fun o' aB=>by rw [ho] at aB; cases aB; exact fP
    obtain ⟨mQ,lB⟩:=next i (lt ho) dO
    have bm:i<listed.size:=by rw [aZ]; exact lt ho
    by_cases sJ:i∈uj chain ops
    ·-- one of Gc free ak4
     have qc:=(I4.1 sJ).2;refine abt hT hn aZ ho (fun t j o' hj ht aB bG=>gS j hj (hp.2 i o t j o' (lt ho) hj ho ht aB bG)) (Nk i o sJ ho dO) (ach o (TZ i o sJ ho)) ju fun a2 w2 hh=>?_;refine ih _ a2 w2 done rem f H mQ lB (sf i o ho fP) sG (fun c hc=>?_) (fun c hc=>?_) sF hh Ik (fun j o' hj aB hl=>?_) hw
     ·rw [fC bm]; split
      ·rfl
      ·exact Ie c hc
     ·rw [fC bm,if_neg]
      ·exact Bv c hc
      ·exact qc c (by rw [←sG]; exact vj _ hc)
     ·rw [fC bm] at hl;split at hl
      ·cases hl
      ·exact Nk j o' hj aB hl
    ·-- Gc next of Gc chain
     have kO:∃c,c∈chain∧c.1=i:=by
      refine xi fun bw=>sJ (I4.2 ⟨lt ho,fun c hc e=>bw ⟨c,hc,e⟩⟩)
     obtain ⟨c0,oB,A2⟩:=kO
     have T6:c0∈rem:=by
      rw [←sG] at oB
      rcases gg.1 oB with h | h
      ·have:=Ie c0 h; rw [A2,dO] at this; cases this
      ·exact h
     cases rem with
     | nil=>cases T6
     | cons c r =>
      have ab3:c.1=i:=by
       have LI:∀(l:List (Nat×List Nat)) (c:Nat×List Nat),p0 chain ops (c::l)=true→c0∈l→(∀x,x∈c::l→listed.getD x.1 false=false)→False:=by
        intro l;induction l with
        | nil=>intro c _ h _; cases h
        | cons c' l N2 =>
         intro c eN abB UU;simp only [p0,bJ] at eN
         rcases bj.1 abB with rfl | h
         ·have fX:c.1<ops.size:=by simpa [gF] using eN.1
          have:=gS c.1 fX (by rw [←A2]; exact eN.2.2.2.1);rw [UU c (by simp)] at this; cases this
         ·exact N2 c' (by simp only [p0,bJ]; exact eN.2.2.2.2) h fun x hx=>UU x (cr _ hx)
       rcases bj.1 T6 with rfl | h
       ·exact A2
       ·exact (LI r c sF h Bv).elim
      subst ab3;have abI:=sF;simp only [p0,bJ] at sF;obtain ⟨_,_,Nb,_,abG⟩:=sF;simp only [ud,ho] at hw;obtain ⟨F1,dh,g1,g2,g3,g6⟩:=ju.ex;have look:∀t,t∈o.looksAt ops→Rd w F1 dh (f t) (a.tmps.getD t undef):=fun t ht=>g6 t fun j o' hj aB bG=>gS j hj (hp.2 c.1 o t j o' (lt ho) hj ho ht aB bG)
      have rD:∀x,x∈o.op.operands→Rd w F1 dh (ev f x) (a.eval x):=fun x hx=>by
       cases x with
       | tmp t=>exact look t (List.mem_append_left _ (mb.2 ⟨.tmp t,by simpa using hx,rfl⟩))
       | const v=>exact nV _ _ _ _
       | global g=>exact .χ
       | func g=>exact .i (.c rfl rfl (fun i hi=>absurd hi (by simp)) (fun i hi=>absurd hi (by simp)))
      have go:∀(v:Value) (w':World),EPost w F1 dh ⟨f,H⟩ (fun x aq=>put n o.dst aq x fun fK=>qh P T ops fK c.2∧ud P T E n ops r fK (Q .normal) (fun m aq=>Q (.panic (jC E m)) aq)) v w' →
        wpAnyIn (fM C.ro) 0 P .any ops (fun e a' w'=>∃aq,Rel C aq a' w'∧Q e aq) fuel (listed.setIfInBounds c.1 true) (a.put o.dst v) w':=by
       rintro v w' ⟨x,aq,F2,bZ,yZ,hx,MY⟩;rw [put_eq] at yZ
       obtain ⟨f2,Ii,hq,y_⟩:∃f2:Nat→AV,(qh P T ops ⟨f2,aq.H⟩ c.2∧ud P T E n ops r ⟨f2,aq.H⟩ (Q .normal) (fun m aq=>Q (.panic (jC E m)) aq))∧(∀t,o.dst≠some t→f2 t=aq.f t)∧∀t,o.dst=some t→f2 t=x∧t<n:=by
        cases fi:o.dst with
        | none=>rw [fi] at yZ; exact ⟨aq.f,yZ,fun _ _=>rfl,fun t h=>by cases h⟩
        | some d =>
         rw [fi] at yZ;obtain ⟨Φ,yZ⟩:=cond_prop yZ;refine ⟨dW aq.f d x,yZ,fun t ht=>Qa fun e=>ht (by rw [e]),fun t ht=>?_⟩;cases ht;exact ⟨P' _ _ _,by simpa [gF] using Φ⟩
       refine ih _ _ w' (done++[c]) r f2 aq.H mQ lB (sf c.1 o ho fP) (by rw [l9]; exact sG) (fun c' fO=>?_) (fun c' fO=>?_) abG ⟨F2,bZ,?_,?_,(by rw [put_defers]; exact g3.trans (MY.uS aF)),fun t ht=>?_⟩ MY.inv.keys (fun j o' hj aB hl=>?_) Ii.2
       ·rw [fC bm];split
        ·rfl
        ·rcases gg.1 fO with h | h
         ·exact Ie c' h
         ·rename_i aO; rw [dD.1 h] at aO; exact absurd rfl aO
       ·rw [fC bm,if_neg]
        ·exact Bv c' (cr _ fO)
        ·intro e
         have LI:∀(l:List (Nat×List Nat)) (b:Nat×List Nat),p0 chain ops (b::l)=true→∀y,y∈l→b.1<y.1:=by
          intro l;induction l with
          | nil=>intro b _ y h; cases h
          | cons c' l N2 =>
           intro b eN y hy;simp only [p0,bJ] at eN
           have hb:b.1<ops.size:=by simpa [gF] using eN.1
           have abA:c'.1<ops.size:=by simpa [gF] using eN.2.2.2.2.1
           have h1:=Uh c'.1 b.1 abA hb eN.2.2.2.1
           rcases bj.1 hy with rfl | hy
           ·exact h1
           ·have:=N2 c' (by simp only [p0,bJ]; exact eN.2.2.2.2) y hy; omega
         have:=LI r c abI c' fO;omega
       ·cases fi:o.dst with
        | none=>exact g1
        | some d=>simpa [iK] using g1
       ·cases fi:o.dst with
        | none=>exact g2
        | some d=>simpa [iK] using g2
       ·by_cases pD:o.dst=some t
        ·obtain ⟨e1,e2⟩:=y_ t pD;rw [e1,pD]
         have:t<a.tmps.size:=by rw [g1,hn]; exact e2
         simpa [iK,this] using hx
        ·rw [hq t pD]
         have h1:=g6 t fun j o' hj aB bG=>by
          have:=ht j o' hj aB bG;rw [fC bm] at this;split at this
          ·rename_i e;subst e;rw [ho] at aB; cases aB;exact absurd bG pD
          ·exact this
         have h2:=MY.keep t _ h1;cases fi:o.dst with
         | none=>exact h2
         | some d =>
          have aO:d≠t:=fun e=>pD (by rw [fi,e]);simpa [iK,Array.getElem?_setIfInBounds_ne aO] using h2
       ·rw [fC bm] at hl;split at hl
        ·cases hl
        ·have M7:=I4.1 hj;have h3:=(ej.1 Nb) j hj;simp only [tT] at h3
         rcases h3 with h3 | h3
         ·have:=gS j M7.1 h3;rw [this] at hl; cases hl
         ·exact Ob Ii.1 j o' (by simpa using h3) aB
      have run:(Kl P T E o ⟨f,H⟩ (fun x aq=>put n o.dst aq x fun fK=>qh P T ops fK c.2∧ud P T E n ops r fK (Q .normal) (fun m aq=>Q (.panic (jC E m)) aq)) fun m aq=>Q (.panic (jC E m)) ⟨aF,aq.H⟩)→o.wpIn (fM C.ro) 0 P a w (wpAnyIn (fM C.ro) 0 P .any ops (fun e a' w'=>∃aq,Rel C aq a' w'∧Q e aq) fuel (listed.setIfInBounds c.1 true)) (fun e a' w'=>∃aq,Rel C aq a' w'∧Q e aq):=fun EF=>by
       rcases EF with hw | hw
       rotate_left
       ·have Fk:∀(m:Int) (aq:ae) (w':World) (F':Nat→Prop) (av:Nat→Value),Q (.panic (jC E m)) ⟨aF,aq.H⟩→Ext w F1 dh ⟨f,H⟩ w' F' av aq→∃aq,Rel C aq a w'∧Q (.panic (jC E m)) aq:=fun m aq w' F' av hk hx=>⟨⟨aF,aq.H⟩,⟨F',av,g1,g2,fun _=>.χ,g3.trans (hx.uS aF)⟩,hk⟩;have dJ:=XD hw
        rcases ahJ (st:=⟨f,H⟩) hT g3.inv rD hw with ⟨v,w',a_,rq⟩ | ⟨m,a_,hk⟩ | ⟨g,vs,a_,hc⟩
        ·refine Oper.ke dJ a_ ?_;rw [xu];exact go v w' rq
        ·refine Oper.ke dJ a_ ?_;rw [Zu];exact Fk m ⟨f,H⟩ w F1 dh hk (Ext.refl g3.inv)
        ·refine Oper.ke dJ a_ ?_;rw [Ao];refine ⟨fun h=>(by cases h),vI (hc.mono ?_)⟩;rintro e w' (⟨v,rfl,rq⟩ | ⟨m,rfl,aq,F',av,hk,hx⟩)
         ·exact go v w' rq
         ·exact Fk m aq w' F' av hk hx
       have dJ:=XE hw
       rcases XF (st:=⟨f,H⟩) hT g3.inv rD hw with ⟨v,w',a_,rq⟩ | ⟨w',a_,rq⟩ | ⟨g,vs,a_,hc⟩ | ⟨l,fn,tmps,assign,body,a_,hc⟩
       ·refine Oper.ke dJ a_ ?_;rw [xu];exact go v w' rq
       ·refine Oper.ke dJ a_ ?_;rw [Oper.uponIn_skip];exact go undef w' rq
       ·refine Oper.ke dJ a_ ?_;rw [Ao];refine ⟨fun h=>(by cases h),vI (hc.mono ?_)⟩;rintro e w' ⟨v,rfl,rq⟩;exact go v w' rq
       ·refine Oper.ke dJ a_ ?_;rw [Oper.uponIn_round];refine ⟨fun h=>(by cases h),WY (hc.mono ?_)⟩;rintro e w' ⟨v,rfl,rq⟩;exact go v w' rq
      have skip:(put n o.dst ⟨f,H⟩ (.v undef) fun fK=>qh P T ops fK c.2∧ud P T E n ops r fK (Q .normal) (fun m aq=>Q (.panic (jC E m)) aq))→wpAnyIn (fM C.ro) 0 P .any ops (fun e a' w'=>∃aq,Rel C aq a' w'∧Q e aq) fuel (listed.setIfInBounds c.1 true) (a.put o.dst undef) w:=fun hw =>
       go undef w ⟨.v undef,⟨f,H⟩,F1,dh,hw,.i (.v (.inr rfl)),Ext.refl g3.inv⟩
      unfold wpOpIn;simp only [ho];rw [sB] at hw;cases hg:o.guard with
      | none =>
       rw [hg] at hw
       have ac6:dS o (yielded ops a.tmps)=true:=by simp [dS,hg]
       rw [if_pos ac6];exact run hw
      | some jw =>
       obtain ⟨j,want⟩:=jw;rw [hg] at hw;simp only at hw;split at hw
       ·rename_i d oC;obtain ⟨Nc,hw⟩:=cond_prop hw
        have uy:d∈o.looksAt ops:=by
         refine vj _ ?_;rw [hg];simp [oC]
        have gh:=look d uy
        have Nc:d<a.tmps.size:=by rw [g1,hn]; simpa [gF] using Nc
        have hy:∀v,a.tmps.getD d undef=v→yielded ops a.tmps j=match v with | .bool b=>some b | _=>none:=by
         intro v hv
         have h2:a.tmps[d]?=some v:=by
          rw [←hv]; simp [Nc]
         unfold yielded;rw [oC,cD,h2];cases v <;> rfl
        split at hw
        ·rename_i b hb;rw [hb] at gh;have gY:=hy _ gh.bL;simp only at gY;by_cases jt:b=want
         ·have zf:dS o (yielded ops a.tmps)=true:=by simp [dS,hg,gY,jt]
          rw [if_pos zf];have:=hw.y jt;rw [Kz (by rw [hb,jt])] at this;exact run this
         ·have p9:b=!want:=by cases b <;> cases want <;> first | rfl | exact absurd rfl jt
          have zf:¬dS o (yielded ops a.tmps)=true:=by simp [dS,hg,gY,jt]
          rw [if_neg zf];have:=hw.n p9;rw [Kz (by rw [hb,p9])] at this;exact ⟨fun _ _=>trivial,skip this⟩
        ·rename_i vs hb;rw [hb] at gh;have gY:=hy _ gh.bL;simp only at gY
         have zf:¬dS o (yielded ops a.tmps)=true:=by simp [dS,hg,gY]
         rw [if_neg zf];exact ⟨fun _ _=>trivial,skip hw⟩
        ·exact hw.elim
       ·exact hw.elim
 have rep:∀i,(oc ops.size false).getD i false=false:=fun i=>by
  simp only [lf,Array.getElem?_replicate];split <;> rfl
 refine key ops.size _ a w [] chain fe st.H (by simp) (by simp) (fun i o hi=>by rw [rep] at hi; cases hi) rfl (fun c hc=>by cases hc) (fun c _=>rep _) abH ⟨F,β,hs,hd,he,fun t ht=>?_⟩ he.inv.keys (fun i o hi ho _=>bW o (TZ i o hi ho)) hW
 ·have bw:∀i o,i<ops.size→ops[i]?=some o→o.dst≠some t:=fun i o hi ho bG=>by
   have:=ht i o hi ho bG;rw [rep] at this; cases this
  rw [lx t fun o ho=>by
   obtain ⟨i,hi,aB⟩:=mb.1 ho
   exact bw i o (lt aB) aB]
  exact hf t
end
end
section
open Go.Shelf Go.RowKit Go.Lib Go.Proofs
variable {P:Program} {ρ:Ren}
def lay (a:List Value) (o:Nat) (us:List Value):List Value:=a.take o++us++a.drop (o+us.length)
def mW {a:List Value} {o:Nat} {us:List Value} (h:o+us.length≤a.length):(lay a o us).length=a.length:=by
 simp [lay]; omega
def zq {a:List Value} {o:Nat} {us:List Value} (h:o+us.length≤a.length) (q:Nat):(lay a o us)[q]?=if q<o then a[q]? else if q<o+us.length then us[q-o]? else a[q]?:=by
 unfold lay;simp only [gC,dq,dQ,gb,jl]
 have e:min o a.length=o:=by omega
 rw [e];by_cases h1:q<o
 ·have h2:q<o+us.length:=by omega
  simp [h1,h2]
 ·by_cases h2:q<o+us.length
  ·simp [h1,h2]
  ·have h3:o+us.length+(q-(o+us.length))=q:=by omega
   simp [h1,h2,h3]
def JO (w:World) (dT sT ty e:TypeId) (i:TypeInfo) (K:Nat) (hu:P.underlying dT=some (.slice e)) (hi:P.info? e=some i) (hK:i.size=K) (g o dn dc:Nat) (a:Addr) (sn sc:Nat) (cur:List Value) (t:TypeId) (hg:w.heap[g]?=some (.cells cur.toArray t (0,0)))
  (us:List Value) (hl:us.length=pU sn dn*K) (iD:∀j v,us[j]?=some v→w.cell? (a.add j)=some v) (ji:o+us.length≤cur.length) (eZ:∀v,v∈us→v.oneCell'=true) :
  (qz #[dT,sT] ty #[.slice (some ⟨g,o,none⟩) dn dc,.slice (some a) sn sc]).run P w=.ok (goInt (pU sn dn)) (w.setRow g (lay cur o us).toArray):=by
 have Bd:=run_firstCells_some (P:=P) w K (pU sn dn) a sn sc us hl iD;have bU:=run_storeCells_at P g o t us 0 cur.toArray w hg (by simpa using ji) eZ;simp only [lN] at bU;simp [qz,run_underlying hu,Builtin.lenOf,sizeOf,typeInfo,hi,hK,Bd,bU,lay]
def agu (w:World) (tS tR e:TypeId) (ht:P.underlying tS=some (.slice e)) (size:Nat) (hz:∀ w, (rT e).run P w=.ok size w)
    (a b:Addr) (la ca lb cb:Nat) (aO:a.block≠b.block) (tA tB:TypeId) (kA kB:Nat) (hsa:w.shape? a.block=some (tA, kA)) (ND:w.shape? b.block=some (tB, kB)) (hkA:kA≠0) (hkB:kB≠0) (hfb:∀ o, w.frozen? { block:=b.block, off:=o }=false) (ab0:w.frozen? b=false) :
    (rS #[tS, tS] #[tR] #[.slice (some a) la ca, .slice (some b) lb cb]).run P w=.ok (.bool false) w:=by
  have pk:(a.block != b.block)=true:=by simpa using aO
  have acm:(a.block==b.block)=false:=by simpa using aO
  change Sem.run P (α:=Value) (do
    let some t := (#[tS, tS] : Array TypeId)[0]? | stuck "slices.overlaps: no parameter types"
    let .slice elem ← underlying t | stuck "slices.overlaps: slice type expected"
    let size ← sizeOf elem
    match (some a:Option Addr), (some b:Option Addr) with
    | some a, some b =>
      if la=0∨lb=0∨size=0 then pure (Da false)
      else if a.block != b.block&&(← frozen a)&&(← frozen b) then unsupported .addressObserved
      else do
        if a.block != b.block then do
          noView a; noView b
          if ← mayBeOne a b then return Da ((← choose (.extern "sameAddr.stringBytes" 2)) == 1)
        pure (Da (a.block==b.block&&a.off<b.off+lb*size&&b.off<a.off+la*size))
    | _, _=>pure (Da false)) w=_
  by_cases h0:la=0∨lb=0∨size=0
  · simp [run_underlying ht, hz, h0]
  · cases kA with
   | zero=>exact absurd rfl hkA
   | succ kA =>
    cases kB with
    | zero=>exact absurd rfl hkB
    | succ kB =>
      have ab1:=hfb (kB+1);simp [run_underlying ht, hz, h0, pk, acm, frozen, noView, viewAt, mayBeOne, stringish, shape, Sem.run, hsa, ND, ab0, ab1]
def W0 (w:World) (t tx ty e:TypeId) (i:TypeInfo) (K:Nat) (ht:P.underlying t=some (.slice e)) (hi:P.info? e=some i) (hK:i.size=K) (g lF zR:Nat) (cur:List Value) (hg:w.heap[g]?=some (.cells cur.toArray e (0,0)))
  (x:Value) (n:Nat) (news:List Value) (hs:Go.Src P i.size tx x n news w) (fz:lF+n≤zR) (ji:lF*K+news.length≤cur.length) :
  (h_ #[t,tx] ty #[.slice (some ⟨g,0,none⟩) lF zR,x]).run P w=.ok (.slice (some ⟨g,0,none⟩) (lF+n) zR) (w.setRow g (lay cur (lF*K) news).toArray):=by
 have bU:=run_storeCells_at P g (lF*K) e news 0 cur.toArray w hg (by simpa using ji) hs.one;simp only [lN] at bU;have hc:=hs.cells;rw [hK] at hc
 rcases hs.kind with ⟨e',hk⟩ | hk <;> simp [h_,run_underlying ht,run_underlying hk,sizeOf,typeInfo,hi,hK,hs.len,fz,hc,f_,bU,lay]
structure t_ (P:Program) (ρ:Ren) (i0:TypeInfo) (z:Value):Prop where
 mixed:P.follows .mixedOrders=true
 f22:Bears P (ρ.f 22) (Body2.n22 ρ)
 yU:∀args w w' v,(rS #[ρ.t 24,ρ.t 24] #[ρ.t 4] args).run P w=.ok v w'→(callFunc (ρ.f 29) args).run P w=.ok (.value v) w'
 t0:P.underlying (ρ.t 0)=some (ZB #[])
 a0:∀w,(isAgg (ρ.t 0)).run P w=.ok false w
 z0:∀w,(rT (ρ.t 0)).run P w=.ok 1 w
 v0:∀w,(zeroValue (ρ.t 0)).run P w=.ok (Value.tuple #[]) w
 t3:P.underlying (ρ.t 3)=some (Zz KR)
 a3:∀w,(isAgg (ρ.t 3)).run P w=.ok false w
 z3:∀w,(rT (ρ.t 3)).run P w=.ok 1 w
 v3:∀w,(zeroValue (ρ.t 3)).run P w=.ok (Value.int KR 0) w
 t4:P.underlying (ρ.t 4)=some (Zy)
 a4:∀w,(isAgg (ρ.t 4)).run P w=.ok false w
 z4:∀w,(rT (ρ.t 4)).run P w=.ok 1 w
 v4:∀w,(zeroValue (ρ.t 4)).run P w=.ok (Da false) w
 t24:P.underlying (ρ.t 24)=some (ZA (ρ.t 9))
 a24:∀w,(isAgg (ρ.t 24)).run P w=.ok false w
 z24:∀w,(rT (ρ.t 24)).run P w=.ok 1 w
 v24:∀w,(zeroValue (ρ.t 24)).run P w=.ok (Rm none 0 0) w
 i9:P.info? (ρ.t 9)=some i0
 z9:∀w,(rT (ρ.t 9)).run P w=.ok i0.size w
 k9:0<i0.size
 hz:i0.zero=some z
 zs:z.cells.size=i0.size
 z1:∀v,v∈z.cells.toList→v.oneCell'=true
set_option maxHeartbeats 4000000 in
set_option maxRecDepth 100000 in
def adm {i0:TypeInfo} {z:Value} (L:t_ P ρ i0 z) (K g c n i vb vo m vc:Nat) (cur vs:List Value) (w:World) (fN:i0.size=K) (hi:i<n) (hm:0<m) (fz:n+m≤c) (TG:c≤9223372036854775807) (II:vb≠g)
  (hg:w.heap[g]?=some (.cells cur.toArray (ρ.t 9) (0,0))) (hs:cur.length=c*K) (oH:vs.length=m*K) (jj:∀j v,vs[j]?=some v→w.cell? ⟨vb,vo+j,none⟩=some v)
  (sC:∀q v,q<n*K→cur[q]?=some v→v.oneCell'=true) (qX:∀v,v∈vs→v.oneCell'=true) :
  Calls P (ρ.f 22) #[.slice (some ⟨g,0,none⟩) n c,.int .i64 i,.slice (some ⟨vb,vo,none⟩) m vc] w fun e w' =>
   e=.returned (.slice (some ⟨g,0,none⟩) (n+m) c)∧w'=(w.drew.setRow g (lay cur ((i+m)*K) ((cur.drop (i*K)).take ((n-i)*K))).toArray).setRow g (lay (lay cur ((i+m)*K) ((cur.drop (i*K)).take ((n-i)*K))) (i*K) vs).toArray:=by
 have t0:=L.t0; have a0:=L.a0; have z0:=L.z0; have v0:=L.v0; have t3:=L.t3; have a3:=L.a3; have z3:=L.z3; have v3:=L.v3; have t4:=L.t4; have a4:=L.a4; have z4:=L.z4; have v4:=L.v4; have t24:=L.t24; have a24:=L.a24; have z24:=L.z24; have v24:=L.v24;have u0:=run_underlying L.t0; have u3:=run_underlying L.t3; have u4:=run_underlying L.t4; have P_:=run_underlying L.t24;have z9:=L.z9;rw [fN] at z9
 have kI:0<K:=by have:=L.k9; omega
 have uK:¬((m:Int)=0):=by omega
 have zh:¬((i:Int)=(n:Int)):=by omega
 have acL:w.shape? g=some (ρ.t 9,c*K):=by simp [World.shape?,hg,hs]
 have acW:∃cv tv fv,w.heap[vb]?=some (.cells cv tv fv)∧cv.size≠0:=by
  have rp:0<vs.length:=by rw [oH]; exact Rh hm kI
  have h1:=jj 0 _ (bT rp);unfold vr at h1;split at h1
  ·rename_i h2; exact ⟨_,_,_,h2,fun h0=>by simp [h0] at h1⟩
  ·cases h1
 obtain ⟨cv,tv,fv,hvh,hcv⟩:=acW
 have acK:w.shape? vb=some (tv,cv.size):=by simp [World.shape?,hvh]
 have yU:∀o lb cb,(callFunc (ρ.f 29) #[.slice (some ⟨vb,vo,none⟩) m vc,.slice (some ⟨g,o,none⟩) lb cb]).run P w=.ok (.value (.bool false)) w:=fun o lb cb =>
  L.yU _ _ _ _ (agu w (ρ.t 24) (ρ.t 4) (ρ.t 9) L.t24 K z9 ⟨vb,vo,none⟩ ⟨g,o,none⟩ m vc lb cb II tv (ρ.t 9) cv.size (c*K) acK acL hcv (Rh (by omega) kI |> Nat.pos_iff_ne_zero.1) (fun o=>by simp [aly,hg]) (by simp [aly,hg]))
 have mixed:=L.mixed
 have zf:IntKind.i64.wrap ((i:Int)+(m:Int))=(i:Int)+(m:Int):=by rw [Zb]; omega
 have cO:(0:Int)≤(i:Int)+(m:Int):=by omega
 have kO:i≤n:=by omega
 have htn:((i:Int)+(m:Int)).toNat=i+m:=by omega
 have jJ:¬(c=i+m):=by omega
 have MG:(i:Int)≤(n:Int)+(m:Int):=by omega
 have hb4:¬(c=i):=by omega
 obtain ⟨us,fB⟩:∃us,us=(cur.drop (i*K)).take ((n-i)*K):=⟨_,rfl⟩
 have e0:i*K+(n-i)*K=n*K:=by rw [←bO,show i+(n-i)=n by omega]
 have e1:(i+m)*K+(n-i)*K=(n+m)*K:=by rw [←bO,show i+m+(n-i)=n+m by omega]
 have e2:(n+m)*K≤c*K:=cI _ fz
 have e3:i*K+m*K=(i+m)*K:=by rw [bO]
 have e4:(i+m)*K≤(n+m)*K:=cI _ (by omega);have e5:n*K≤(n+m)*K:=cI _ (by omega)
 have fa:us.length=(n-i)*K:=by rw [fB]; simp; omega
 have ly:∀j v,us[j]?=some v→j<(n-i)*K∧cur[i*K+j]?=some v:=fun j v hj=>by
  have h1:=(fb.1 hj).1;rw [fa] at h1;rw [fB,gb,if_pos h1,jl] at hj;exact ⟨h1,hj⟩
 have D0:∀v,v∈us→v.oneCell'=true:=fun v hv=>by
  obtain ⟨j,hj,rfl⟩:=Rb hv;obtain ⟨h1,h2⟩:=ly j _ (bT hj);exact sC _ _ (by omega) h2
 rw [←fB];obtain ⟨c1,aw⟩:∃c1,c1=lay cur ((i+m)*K) us:=⟨_,rfl⟩
 have MJ:c1.length=c*K:=by rw [aw,mW (by rw [fa]; omega),hs]
 rw [←aw];have ep:w.drew.heap[g]?=some (.cells cur.toArray (ρ.t 9) (0,0)):=hg
 have abJ:∀ty dc sc,(qz #[(ρ.t 24),(ρ.t 24)] ty #[.slice (some ⟨g,(i+m)*K,none⟩) (n+m-(i+m)) dc,.slice (some ⟨g,i*K,none⟩) (n+m-i) sc]).run P w.drew=.ok (goInt (pU (n+m-i) (n+m-(i+m)))) (w.drew.setRow g c1.toArray):=fun ty dc sc=>by
  rw [aw];exact JO w.drew _ _ ty (ρ.t 9) i0 K L.t24 L.i9 fN g ((i+m)*K) (n+m-(i+m)) dc ⟨g,i*K,none⟩ (n+m-i) sc cur (ρ.t 9) ep us (by rw [fa,show pU (n+m-i) (n+m-(i+m))=n-i by rw [show ∀a b:Nat,pU a b=min a b from fun _ _=>rfl]; omega])
   (fun j v hj=>by
    obtain ⟨_,h2⟩:=ly j v hj;rw [f_]
    simp [vr,ep,h2]) (by rw [fa]; omega) D0
 have Φ:g<w.heap.size:=(lg.1 hg).1
 have Δ:(w.drew.setRow g c1.toArray).heap[g]?=some (.cells c1.toArray (ρ.t 9) (0,0)):=by simp [xv,pQ,ep]
 have ν:∀j v,vs[j]?=some v→(w.drew.setRow g c1.toArray).cell? ⟨vb,vo+j,none⟩=some v:=fun j v hj=>by
  rw [←jj j v hj];simp [vr,xv,pQ,Ne.symm II];rfl
 have abK:∀(W:World),W.heap=(w.drew.setRow g c1.toArray).heap→∀ty dc,(qz #[(ρ.t 24),(ρ.t 24)] ty #[.slice (some ⟨g,i*K,none⟩) (n+m-i) dc,.slice (some ⟨vb,vo,none⟩) m vc]).run P W=.ok (goInt (pU m (n+m-i))) (W.setRow g (lay c1 (i*K) vs).toArray):=fun W hW ty dc =>
  JO W _ _ ty (ρ.t 9) i0 K L.t24 L.i9 fN g (i*K) (n+m-i) dc ⟨vb,vo,none⟩ m vc c1 (ρ.t 9) (by rw [hW]; exact Δ) vs (by rw [oH,show pU m (n+m-i)=m by rw [show ∀a b:Nat,pU a b=min a b from fun _ _=>rfl]; omega])
   (fun j v hj=>by
    rw [f_];have:=ν j v hj;unfold vr at this ⊢
    rw [hW]; exact this) (by rw [oH,MJ]; omega) qX
 obtain ⟨_,_,FG⟩:=L.f22;go_enter FG,Body2.n22_ntmps ρ;go_wp2_with (simp only [yU]);go_region_law_o (refine step_copy_runI rfl _ _ (ρ.t 24) (ρ.t 24) rfl _ _ (by simp [Ai,iK]) (by simp [Ai,iK]) (abJ _ _ _) ?_);go_wp2_with (at_builtin; refine wpList_copy_runI _ rfl _ _ (ρ.t 24) (ρ.t 24) rfl _ _ rfl rfl (abK _ rfl _ _) ?_);go_ret;exact ⟨rfl,by rw [aw,fB]⟩
set_option maxHeartbeats 4000000 in
set_option maxRecDepth 100000 in
def adl {i0:TypeInfo} {z:Value} (L:t_ P ρ i0 z) (K g c n vb vo m vc:Nat) (cur vs:List Value) (w:World) (fN:i0.size=K) (hm:0<m) (fz:n+m≤c) (TG:c≤9223372036854775807)
  (hg:w.heap[g]?=some (.cells cur.toArray (ρ.t 9) (0,0))) (hs:cur.length=c*K) (oH:vs.length=m*K) (jj:∀j v,vs[j]?=some v→w.cell? ⟨vb,vo+j,none⟩=some v) (qX:∀v,v∈vs→v.oneCell'=true) :
  Calls P (ρ.f 22) #[.slice (some ⟨g,0,none⟩) n c,.int .i64 n,.slice (some ⟨vb,vo,none⟩) m vc] w fun e w' =>
   e=.returned (.slice (some ⟨g,0,none⟩) (n+m) c)∧w'=w.setRow g (lay cur (n*K) vs).toArray:=by
 have t0:=L.t0; have a0:=L.a0; have z0:=L.z0; have v0:=L.v0; have t3:=L.t3; have a3:=L.a3; have z3:=L.z3; have v3:=L.v3; have t4:=L.t4; have a4:=L.a4; have z4:=L.z4; have v4:=L.v4; have t24:=L.t24; have a24:=L.a24; have z24:=L.z24; have v24:=L.v24;have u0:=run_underlying L.t0; have u3:=run_underlying L.t3; have u4:=run_underlying L.t4; have P_:=run_underlying L.t24;have mixed:=L.mixed;have z9:=L.z9;rw [fN] at z9
 have kI:0<K:=by have:=L.k9; omega
 have uK:¬((m:Int)=0):=by omega
 have iD:Go.Src P i0.size (ρ.t 24) (.slice (some ⟨vb,vo,none⟩) m vc) m vs w:=QP w L.t24 ⟨vb,vo,none⟩ m vc vs (by rw [fN]; exact oH) (fun j u hj=>by rw [f_]; exact jj j u hj) qX
 have e1:n*K+m*K=(n+m)*K:=by rw [bO]
 have e2:(n+m)*K≤c*K:=cI _ fz
 have a_:∀ty,(h_ #[(ρ.t 24),(ρ.t 24)] ty #[.slice (some ⟨g,0,none⟩) n c,.slice (some ⟨vb,vo,none⟩) m vc]).run P w=.ok (.slice (some ⟨g,0,none⟩) (n+m) c) (w.setRow g (lay cur (n*K) vs).toArray):=fun ty=>by
  exact W0 w (ρ.t 24) (ρ.t 24) ty (ρ.t 9) i0 K L.t24 L.i9 fN g n c cur hg _ m vs iD fz (by omega)
 obtain ⟨_,_,FG⟩:=L.f22;go_enter FG,Body2.n22_ntmps ρ;go_wp2_with (at_builtin; refine KS _ rfl _ _ _ _ rfl _ _ rfl rfl _ _ (a_ _) ?_);go_ret;exact ⟨rfl,rfl⟩
set_option maxHeartbeats 4000000 in
set_option maxRecDepth 100000 in
def Vc {i0:TypeInfo} {z:Value} (L:t_ P ρ i0 z) (K:Nat) (base:Option Addr) (n c vb vo m vc:Nat) (cs vs:List Value) (w:World) (fN:i0.size=K) (hm:0<m) (qc:n≤c) (fz:c<n+m) (uq:(n+m)*i0.bytes≤140737488355328) (Mq:n+m≤140737488355328)
  (da:cs.length=n*K) (oH:vs.length=m*K) (py:base=none→n=0) (fX:∀a,base=some a→∀j v,cs[j]?=some v→w.cell? (a.add j)=some v)
  (jj:∀j v,vs[j]?=some v→w.cell? ⟨vb,vo+j,none⟩=some v) (qX:∀v,v∈vs→v.oneCell'=true) :
  Calls P (ρ.f 22) #[.slice base n c,.int .i64 n,.slice (some ⟨vb,vo,none⟩) m vc] w fun e w' =>
   e=.returned (.slice (some ⟨w.heap.size,0,none⟩) (n+m) (grownCap w (n+m) c (ρ.t 9))) ∧
   w'=w.drew.alloc (.cells ((cs++vs).toArray++dC z.cells (grownCap w (n+m) c (ρ.t 9)-(n+m))) (ρ.t 9)):=by
 have t0:=L.t0; have a0:=L.a0; have z0:=L.z0; have v0:=L.v0; have t3:=L.t3; have a3:=L.a3; have z3:=L.z3; have v3:=L.v3; have t4:=L.t4; have a4:=L.a4; have z4:=L.z4; have v4:=L.v4; have t24:=L.t24; have a24:=L.a24; have z24:=L.z24; have v24:=L.v24;have u0:=run_underlying L.t0; have u3:=run_underlying L.t3; have u4:=run_underlying L.t4; have P_:=run_underlying L.t24;have mixed:=L.mixed;have z9:=L.z9;rw [fN] at z9
 have kI:0<K:=by have:=L.k9; omega
 have uK:¬((m:Int)=0):=by omega
 have iD:Go.Src P i0.size (ρ.t 24) (.slice (some ⟨vb,vo,none⟩) m vc) m vs w:=QP w L.t24 ⟨vb,vo,none⟩ m vc vs (by rw [fN]; exact oH) (fun j u hj=>by rw [f_]; exact jj j u hj) qX
 have hold:(xh i0.size n (.slice base n c)).run P w.drew=.ok cs.toArray w.drew:=by
  rw [fN];cases base with
  | none =>
   have h0:=py rfl;subst h0;have Er:cs=[]:=List.length_eq_zero_iff.1 (by simpa using da);rw [Er];exact run_firstCells_none w.drew K 0 0 c
  | some a=>exact run_firstCells_some w.drew K n a n c cs da (fun j v hj=>fX a rfl j v hj)
 have a_:∀ty,(h_ #[(ρ.t 24),(ρ.t 24)] ty #[.slice base n c,.slice (some ⟨vb,vo,none⟩) m vc]).run P w=_:=fun ty =>
  run_append_grow_src w (ρ.t 24) (ρ.t 24) ty (ρ.t 9) i0 z L.t24 L.i9 L.hz base n c cs hold _ m vs iD fz (by omega) (growslice_fits fz uq)
 obtain ⟨_,_,FG⟩:=L.f22;cases base with
 | none =>
  have h0:=py rfl;subst h0;change Calls P (ρ.f 22) #[.slice none 0 c,.int .i64 0,.slice (some ⟨vb,vo,none⟩) m vc] w _;go_enter FG,Body2.n22_ntmps ρ;go_wp2_with (at_builtin; refine KS _ rfl _ _ _ _ rfl _ _ rfl rfl _ _ (a_ _) ?_);all_goals (go_ret; exact ⟨rfl,rfl⟩)
 | some a =>
  obtain ⟨ab,ao,asp⟩:=a;go_enter FG,Body2.n22_ntmps ρ;go_wp2_with (at_builtin; refine KS _ rfl _ _ _ _ rfl _ _ rfl rfl _ _ (a_ _) ?_);all_goals (go_ret; exact ⟨rfl,rfl⟩)
set_option maxHeartbeats 8000000 in
set_option maxRecDepth 100000 in
def adj {i0:TypeInfo} {z:Value} (L:t_ P ρ i0 z) (K g c n i vb vo m vc:Nat) (cur vs:List Value) (w:World) (fN:i0.size=K) (hi:i<n) (hm:0<m) (qc:n≤c) (fz:c<n+m) (uq:(n+m)*i0.bytes≤140737488355328) (akJ:n+m≤140737488355328)
  (hg:w.heap[g]?=some (.cells cur.toArray (ρ.t 9) (0,0))) (hs:cur.length=c*K) (oH:vs.length=m*K) (jj:∀j v,vs[j]?=some v→w.cell? ⟨vb,vo+j,none⟩=some v)
  (sC:∀q v,q<n*K→cur[q]?=some v→v.oneCell'=true) (qX:∀v,v∈vs→v.oneCell'=true) :
  Calls P (ρ.f 22) #[.slice (some ⟨g,0,none⟩) n c,.int .i64 i,.slice (some ⟨vb,vo,none⟩) m vc] w fun e w' =>
   e=.returned (.slice (some ⟨w.heap.size,0,none⟩) (n+m) (grownCap w (n+m) c (ρ.t 9)))∧∃r0 r1:List Value,r0.length=grownCap w (n+m) c (ρ.t 9)*K∧(∀q,q<i*K→r0[q]?=cur[q]?)∧r1=lay r0 (i*K) vs ∧
   w'=(((w.alloc (.cells r0.toArray (ρ.t 9))).drew.setRow w.heap.size r1.toArray).drew).setRow w.heap.size (lay r1 ((i+m)*K) ((cur.drop (i*K)).take ((n-i)*K))).toArray:=by
 have t0:=L.t0; have a0:=L.a0; have z0:=L.z0; have v0:=L.v0; have t3:=L.t3; have a3:=L.a3; have z3:=L.z3; have v3:=L.v3; have t4:=L.t4; have a4:=L.a4; have z4:=L.z4; have v4:=L.v4; have t24:=L.t24; have a24:=L.a24; have z24:=L.z24; have v24:=L.v24;have u0:=run_underlying L.t0; have u3:=run_underlying L.t3; have u4:=run_underlying L.t4; have P_:=run_underlying L.t24;have mixed:=L.mixed;have z9:=L.z9;rw [fN] at z9
 have kI:0<K:=by have:=L.k9; omega
 have uK:¬((m:Int)=0):=by omega
 have zh:¬((i:Int)=(n:Int)):=by omega
 have hz3:(c:Int)<(n:Int)+(m:Int):=by omega
 have hgw:g<w.heap.size:=(lg.1 hg).1
 have hvw:vb<w.heap.size:=by
  have rp:0<vs.length:=by rw [oH]; exact Rh hm kI
  exact block_lt_of_cell (jj 0 _ (bT rp))
 have re:(n:Int)+(m:Int)-(i:Int)=((n+m-i:Nat):Int):=by omega
 have nH:i+(n+m-i)=n+m:=by omega
 have e0:i*K+(n-i)*K=n*K:=by rw [←bO,show i+(n-i)=n by omega]
 have e1:(i+m)*K+(n-i)*K=(n+m)*K:=by rw [←bO,show i+m+(n-i)=n+m by omega]
 have e3:i*K+m*K=(i+m)*K:=by rw [bO]
 have e4:(i+m)*K≤(n+m)*K:=cI _ (by omega);have e5:n*K≤c*K:=cI _ qc;have e6:i*K≤n*K:=cI _ (by omega);obtain ⟨us,fB⟩:∃us,us=(cur.drop (i*K)).take ((n-i)*K):=⟨_,rfl⟩
 have fa:us.length=(n-i)*K:=by rw [fB]; simp; omega
 have ly:∀j v,us[j]?=some v→j<(n-i)*K∧cur[i*K+j]?=some v:=fun j v hj=>by
  have h1:=(fb.1 hj).1;rw [fa] at h1;rw [fB,gb,if_pos h1,jl] at hj;exact ⟨h1,hj⟩
 have D0:∀v,v∈us→v.oneCell'=true:=fun v hv=>by
  obtain ⟨j,hj,rfl⟩:=Rb hv;obtain ⟨h1,h2⟩:=ly j _ (bT hj);exact sC _ _ (by omega) h2
 have hold:(xh i0.size i (.slice (some ⟨g,0,none⟩) i c)).run P w.drew=.ok (cur.take (i*K)).toArray w.drew:=by
  rw [fN]
  exact run_firstCells_some w.drew K i ⟨g,0,none⟩ i c (cur.take (i*K)) (by rw [dQ]; omega) (fun j v hj=>by
   rw [f_,Nat.zero_add];rw [gb] at hj;split at hj
   ·have ep:w.drew.heap[g]?=some (.cells cur.toArray (ρ.t 9) (0,0)):=hg;simp [vr,ep,hj]
   ·cases hj)
 obtain ⟨G,hG⟩:∃G,G=grownCap w (n+m) c (ρ.t 9):=⟨_,rfl⟩
 have hGn:n+m≤G:=by rw [hG]; exact grownCap_ge w _ _ _
 obtain ⟨r0,c_⟩:∃r0:List Value,r0=cur.take (i*K)++(dC z.cells (n+m-i)).toList++(dC z.cells (G-(n+m))).toList:=⟨_,rfl⟩;have UI:∀ty,(h_ #[(ρ.t 24),(ρ.t 3)] ty #[.slice (some ⟨g,0,none⟩) i c,.int .i64 ((n:Int)+(m:Int)-(i:Int))]).run P w =
   .ok (.slice (some ⟨w.heap.size,0,none⟩) (n+m) G) (w.drew.alloc (.cells r0.toArray (ρ.t 9))):=fun ty=>by
  have h:=Lib.run_append_grow_zeros w (ρ.t 24) (ρ.t 3) ty (ρ.t 9) i0 _ .i64 .i64 L.t24 L.t3 L.i9 L.hz (some ⟨g,0,none⟩) i c (cur.take (i*K)) hold (n+m-i) (by omega) (by have:=L.k9; omega) (by omega) (by omega)
   (by have:(n+m-i)*i0.bytes≤(n+m)*i0.bytes:=cI _ (by omega); omega) (by rw [nH]; exact growslice_fits fz uq)
  rw [nH,←hG] at h;rw [re,h,c_]
  have ea:∀(l:List Value) (x y:Array Value),l.toArray++x++y=(l++x.toList++y.toList).toArray:=fun l x y=>by apply Array.ext'; simp
  rw [ea]
 have mT:∀k,(dC z.cells k).toList.length=k*K:=fun k=>by
  rw [lJ]; simp [dC,L.zs,fN]
 have Ns:r0.length=G*K:=by
  rw [c_,dq,dq,mT,mT,dQ,xq (by omega),←bO,←bO];congr 1; omega
 have IC:∀q,q<i*K→r0[q]?=cur[q]?:=fun q hq=>by
  rw [c_,l9,List.getElem?_append_left (by rw [dQ]; omega),gb,if_pos hq]
 have hGK:(n+m)*K≤G*K:=cI _ hGn;obtain ⟨r1,EA⟩:∃r1,r1=lay r0 (i*K) vs:=⟨_,rfl⟩
 have acD:r1.length=G*K:=by rw [EA,mW (by rw [oH]; omega),Ns]
 obtain ⟨N,hN⟩:∃N,N=w.heap.size:=⟨_,rfl⟩
 have hNg:g≠N:=by omega
 have hNv:vb≠N:=by omega
 have ha:(w.drew.alloc (.cells r0.toArray (ρ.t 9))).heap[N]?=some (.cells r0.toArray (ρ.t 9) (0,0)):=by
  rw [hN];show (w.drew.heap.push (.cells r0.toArray (ρ.t 9)))[w.drew.heap.size]?=_;rw [ni,if_pos rfl]
 have ME:∀b,b<w.heap.size→(w.drew.alloc (.cells r0.toArray (ρ.t 9))).heap[b]?=w.heap[b]?:=fun b hb=>by
  have:b≠w.drew.heap.size:=K0 hb;simp only [lR,ni,if_neg this];rfl
 rw [←hN] at UI
 have abL:∀(W:World),W.heap=(w.drew.alloc (.cells r0.toArray (ρ.t 9))).heap→∀ty dc,(qz #[(ρ.t 24),(ρ.t 24)] ty #[.slice (some ⟨N,i*K,none⟩) (n+m-i) dc,.slice (some ⟨vb,vo,none⟩) m vc]).run P W=.ok (goInt (pU m (n+m-i))) (W.setRow N r1.toArray):=fun W hW ty dc=>by
  rw [EA];exact JO W _ _ ty (ρ.t 9) i0 K L.t24 L.i9 fN N (i*K) (n+m-i) dc ⟨vb,vo,none⟩ m vc r0 (ρ.t 9) (by rw [hW]; exact ha) vs (by rw [oH,show ∀a b:Nat,pU a b=min a b from fun _ _=>rfl,xq (by omega)])
   (fun j v hj=>by
    rw [f_];have:=jj j v hj;unfold vr at this ⊢
    rw [hW,ME vb hvw]; exact this) (by rw [oH,Ns]; omega) qX
 have cO:∀W:World,W.heap=(w.drew.alloc (.cells r0.toArray (ρ.t 9))).heap→(W.setRow N r1.toArray).heap[N]?=some (.cells r1.toArray (ρ.t 9) (0,0)):=fun W hW=>by
  simp only [xv,pQ,if_true];rw [hW,ha]; rfl
 have jJ:∀W:World,W.heap=(w.drew.alloc (.cells r0.toArray (ρ.t 9))).heap→(W.setRow N r1.toArray).heap[g]?=some (.cells cur.toArray (ρ.t 9) (0,0)):=fun W hW=>by
  simp only [xv,pQ,if_neg (Ne.symm hNg)];rw [hW,ME g hgw]; exact hg
 have TN:∀(W:World),(∀b:Nat,W.heap[b]?=((w.drew.alloc (.cells r0.toArray (ρ.t 9))).setRow N r1.toArray).heap[b]?)→∀ty dc sc,(qz #[(ρ.t 24),(ρ.t 24)] ty #[.slice (some ⟨N,(i+m)*K,none⟩) (n+m-(i+m)) dc,.slice (some ⟨g,i*K,none⟩) (n-i) sc]).run P W=.ok (goInt (pU (n-i) (n+m-(i+m)))) (W.setRow N (lay r1 ((i+m)*K) us).toArray):=fun W hW ty dc sc =>
  JO W _ _ ty (ρ.t 9) i0 K L.t24 L.i9 fN N ((i+m)*K) (n+m-(i+m)) dc ⟨g,i*K,none⟩ (n-i) sc r1 (ρ.t 9) (by rw [hW,cO _ rfl]) us (by rw [fa,show ∀a b:Nat,pU a b=min a b from fun _ _=>rfl,xq (by omega)])
   (fun j v hj=>by
    obtain ⟨_,h2⟩:=ly j v hj;rw [f_];unfold vr;rw [hW,jJ _ rfl]
    simp [h2]) (by rw [fa,acD]; omega) D0
 have akG:G≤9223372036854775807:=by
  have:=grownCap_le_maxLen w (n+m) c (ρ.t 9) (by unfold maxLen; omega);rw [←hG] at this;unfold maxLen at this;omega
 have hGi:¬(G=i):=by omega
 have akH:¬(G=i+m):=by omega
 have A2:¬(c=i):=by omega
 have zf:IntKind.i64.wrap ((i:Int)+(m:Int))=(i:Int)+(m:Int):=by rw [Zb]; omega
 have akI:(0:Int)≤(i:Int)+(m:Int):=by omega
 have kO:i≤n:=by omega
 have htn:((i:Int)+(m:Int)).toNat=i+m:=by omega
 have MG:(i:Int)≤(n:Int):=by omega
 have hE1:((w.alloc (.cells r0.toArray (ρ.t 9))).drew).heap=(w.drew.alloc (.cells r0.toArray (ρ.t 9))).heap:=rfl
 have hF1:∀b:Nat,(((w.alloc (.cells r0.toArray (ρ.t 9))).drew.setRow N r1.toArray).drew).heap[b]?=((w.drew.alloc (.cells r0.toArray (ρ.t 9))).setRow N r1.toArray).heap[b]?:=by
  intro b;rfl
 have wb:∃JC OS:List Value,JC.length=G*K∧(∀q,q<i*K→JC[q]?=cur[q]?)∧OS=lay JC (i*K) vs∧(((w.alloc (.cells r0.toArray (ρ.t 9))).drew.setRow N r1.toArray).drew).setRow N (lay r1 ((i+m)*K) us).toArray=(((w.alloc (.cells JC.toArray (ρ.t 9))).drew.setRow N OS.toArray).drew).setRow N (lay OS ((i+m)*K) us).toArray:=⟨r0,r1,Ns,IC,EA,rfl⟩;rw [←hG,←hN,←fB];clear re nH hold c_ hG EA mT IC cO jJ ME ha ly fB fa hN;obtain ⟨_,_,FG⟩:=L.f22;go_enter FG,Body2.n22_ntmps ρ
 go_wp2_with (first
  | (at_builtin; refine KS _ rfl _ _ _ _ rfl _ _ rfl rfl _ _ (UI _) ?_)
  | (at_builtin; refine wpList_copy_runI _ rfl _ _ (ρ.t 24) (ρ.t 24) rfl _ _ rfl rfl (abL _ hE1 _ _) ?_)
  | (at_builtin; refine wpList_copy_runI _ rfl _ _ (ρ.t 24) (ρ.t 24) rfl _ _ rfl rfl (TN _ (fun _=>rfl) _ _ _) ?_))
 go_region_law_o (refine step_copy_runI rfl _ _ (ρ.t 24) (ρ.t 24) rfl (.slice (some ⟨N,(i+m)*K,none⟩) (n+m-(i+m)) (G-(i+m))) (.slice (some ⟨g,i*K,none⟩) (n-i) (c-i)) (by simp [Ai,iK]) (by simp [Ai,iK]) (TN _ hF1 (ρ.t 3) (G-(i+m)) (c-i)) ?_);go_wp2;go_ret;exact ⟨rfl,wb⟩
structure Au (P:Program) (ρ:Ren) (i0:TypeInfo) (z:Value):Prop where
 mixed:P.follows .mixedOrders=true
 f45:Bears P (ρ.f 45) (SlBodyN.n45 ρ)
 t0:P.underlying (ρ.t 0)=some (ZB #[])
 a0:∀w,(isAgg (ρ.t 0)).run P w=.ok false w
 z0:∀w,(rT (ρ.t 0)).run P w=.ok 1 w
 v0:∀w,(zeroValue (ρ.t 0)).run P w=.ok (Value.tuple #[]) w
 t3:P.underlying (ρ.t 3)=some (Zz KR)
 a3:∀w,(isAgg (ρ.t 3)).run P w=.ok false w
 z3:∀w,(rT (ρ.t 3)).run P w=.ok 1 w
 v3:∀w,(zeroValue (ρ.t 3)).run P w=.ok (Value.int KR 0) w
 t4:P.underlying (ρ.t 4)=some (Zy)
 a4:∀w,(isAgg (ρ.t 4)).run P w=.ok false w
 z4:∀w,(rT (ρ.t 4)).run P w=.ok 1 w
 v4:∀w,(zeroValue (ρ.t 4)).run P w=.ok (Da false) w
 t22:P.underlying (ρ.t 22)=some (ZA (ρ.t 23))
 a22:∀w,(isAgg (ρ.t 22)).run P w=.ok false w
 z22:∀w,(rT (ρ.t 22)).run P w=.ok 1 w
 v22:∀w,(zeroValue (ρ.t 22)).run P w=.ok (Rm none 0 0) w
 i23:P.info? (ρ.t 23)=some i0
 z23:∀w,(rT (ρ.t 23)).run P w=.ok i0.size w
 v23:∀w,(zeroValue (ρ.t 23)).run P w=.ok z w
 sV:0<i0.size
 zs:z.cells.size=i0.size
 z1:∀v,v∈z.cells.toList→v.oneCell'=true
def ahL {ops:Array Oper} {o:Oper} {a:Act} {w:World} {Kk:Act→World→Prop} {Q:Exit→Act→World→Prop} {E:Prop} (ep:o.guard=none) (s x:Operand) (t:TypeId) (qd:o.op=Op.call { callee:=Callee.builtin Builtin.append,args:=#[s,x],argTypes:=#[t,t] })
  (v u:Value) (hs:a.eval s=v) (hx:a.eval x=u) {v':Value} {w':World} (hr:(h_ #[t,t] o.type #[v,u]).run P w=.ok v' w') (hK:Kk (a.put o.dst v') w') :
  if dS o (yielded ops a.tmps)=true then Oper.wp P o a w Kk Q else E:=by
 have hw:dS o (yielded ops a.tmps)=true:=by simp [dS,ep]
 rw [if_pos hw];unfold Oper.wp;simp [execOp,qd,resolve,invoke,builtin,hs,hx,hr,Result.andThen];exact hK
def agp (w:World) (t e ty:TypeId) (z:Value) (K:Nat) (ht:P.underlying t=some (.slice e)) (hv:∀w,(zeroValue e).run P w=.ok z w) (hz:z.cells.size=K) (h1:∀v,v∈z.cells.toList→v.oneCell'=true) (g o n c:Nat) (hn:0<n) (cur:List Value) (tt:TypeId)
  (hg:w.heap[g]?=some (.cells cur.toArray tt (0,0))) (ji:o+n*K≤cur.length) :
  (u_ #[t] ty #[.slice (some ⟨g,o,none⟩) n c]).run P w=.ok (.tuple #[]) (w.setRow g (lay cur o (dC z.cells n).toList).toArray):=by
 have hl:(dC z.cells n).toList.length=n*K:=by rw [lJ]; simp [dC,hz]
 have nC:∀v,v∈(dC z.cells n).toList→v.oneCell'=true:=fun v jR=>by
  simp [dC] at jR;obtain ⟨q,hq,rfl⟩:=jR
  have rp:0<z.cells.size:=by
   rcases Nat.eq_zero_or_pos z.cells.size with h | h
   ·rw [h] at hq; simp at hq
   ·exact h
  have Φ:=rW q rp;refine h1 _ ?_;rw [getElem!_pos z.cells _ Φ];simp
 have bU:=run_storeCells_at P g o tt (dC z.cells n).toList 0 cur.toArray w hg (by rw [hl]; simpa using ji) nC;simp only [lN] at bU;obtain ⟨m,rfl⟩:∃m,n=m+1:=⟨n-1,by omega⟩;simp [u_,run_underlying ht,hv,bU,lay]
set_option maxHeartbeats 4000000 in
set_option maxRecDepth 1000000 in
def aan {i0:TypeInfo} {z:Value} (L:Au P ρ i0 z) (K g c n i j:Nat) (cur:List Value) (w:World) (fN:i0.size=K) (eO:i<j) (hj:j≤n) (qc:n≤c) (TG:c≤9223372036854775807)
  (hg:w.heap[g]?=some (.cells cur.toArray (ρ.t 23) (0,0))) (hs:cur.length=c*K) (sC:∀q v,q<n*K→cur[q]?=some v→v.oneCell'=true) :
  Calls P (ρ.f 45) #[.slice (some ⟨g,0,none⟩) n c,.int .i64 i,.int .i64 j] w fun e w' =>
   e=.returned (.slice (some ⟨g,0,none⟩) (i+(n-j)) c)∧∃zs:List Value,zs.length=(j-i)*K ∧
   w'=(w.drew.setRow g (lay cur (i*K) ((cur.drop (j*K)).take ((n-j)*K))).toArray).setRow g (lay (lay cur (i*K) ((cur.drop (j*K)).take ((n-j)*K))) ((i+(n-j))*K) zs).toArray:=by
 have mixed:=L.mixed; have t0:=L.t0; have a0:=L.a0; have z0:=L.z0; have v0:=L.v0; have t3:=L.t3; have a3:=L.a3; have z3:=L.z3; have v3:=L.v3; have t4:=L.t4; have a4:=L.a4; have z4:=L.z4; have v4:=L.v4; have t22:=L.t22; have a22:=L.a22; have z22:=L.z22; have v22:=L.v22;have z23:=L.z23;rw [fN] at z23
 have kI:0<K:=by have:=L.sV; omega
 have e0:j*K+(n-j)*K=n*K:=by rw [←bO,show j+(n-j)=n by omega]
 have e1:i*K+(n-j)*K=(i+(n-j))*K:=by rw [bO]
 have e2:(i+(n-j))*K+(j-i)*K=n*K:=by rw [←bO,show i+(n-j)+(j-i)=n by omega]
 have e3:n*K≤c*K:=cI _ qc;obtain ⟨us,fB⟩:∃us,us=(cur.drop (j*K)).take ((n-j)*K):=⟨_,rfl⟩
 have fa:us.length=(n-j)*K:=by rw [fB]; simp; omega
 have ly:∀q v,us[q]?=some v→q<(n-j)*K∧cur[j*K+q]?=some v:=fun q v hq=>by
  have h1:=(fb.1 hq).1;rw [fa] at h1;rw [fB,gb,if_pos h1,jl] at hq;exact ⟨h1,hq⟩
 have D0:∀v,v∈us→v.oneCell'=true:=fun v hv=>by
  obtain ⟨q,hq,rfl⟩:=Rb hv;obtain ⟨h1,h2⟩:=ly q _ (bT hq);exact sC _ _ (by omega) h2
 have ep:w.drew.heap[g]?=some (.cells cur.toArray (ρ.t 23) (0,0)):=hg
 obtain ⟨A,hA,iD⟩:∃A:Addr,(if c=j then some (⟨g,0,none⟩:Addr) else some ⟨g,j*K,none⟩)=some A∧∀q u,us[q]?=some u→w.drew.cell? (A.add q)=some u:=by
  by_cases h:c=j
  ·refine ⟨⟨g,0,none⟩,by simp [h],fun q u hu=>?_⟩;have h1:=(ly q u hu).1
   have h2:n-j=0:=by omega
   rw [h2] at h1; omega
  ·refine ⟨⟨g,j*K,none⟩,by simp [h],fun q u hu=>?_⟩;have h2:=(ly q u hu).2;rw [f_];simp [vr,ep,h2]
 obtain ⟨c1,aw⟩:∃c1,c1=lay cur (i*K) us:=⟨_,rfl⟩
 have MJ:c1.length=c*K:=by rw [aw,mW (by rw [fa]; omega),hs]
 have Tv:∀ty,(h_ #[ρ.t 22,ρ.t 22] ty #[.slice (some ⟨g,0,none⟩) i c,.slice (some A) (n-j) (c-j)]).run P w.drew=.ok (.slice (some ⟨g,0,none⟩) (i+(n-j)) c) (w.drew.setRow g c1.toArray):=fun ty=>by
  rw [aw];exact W0 w.drew _ _ ty (ρ.t 23) i0 K L.t22 L.i23 fN g i c cur ep _ (n-j) us (by rw [fN]; exact QP w.drew L.t22 A (n-j) (c-j) us fa iD D0) (by omega) (by rw [fa]; omega)
 have Δ:(w.drew.setRow g c1.toArray).heap[g]?=some (.cells c1.toArray (ρ.t 23) (0,0)):=by simp [xv,pQ,ep]
 obtain ⟨W1,jg⟩:∃W1,W1=w.drew.setRow g c1.toArray:=⟨_,rfl⟩;obtain ⟨zs,iE⟩:∃zs:List Value,zs=(dC z.cells (n-(i+(n-j)))).toList:=⟨_,rfl⟩
 have mT:zs.length=(j-i)*K:=by
  rw [iE,lJ,show n-(i+(n-j))=j-i by omega]; simp [dC,L.zs,fN]
 have da:∀ty cc,(u_ #[ρ.t 22] ty #[.slice (some ⟨g,(i+(n-j))*K,none⟩) (n-(i+(n-j))) cc]).run P W1=.ok (.tuple #[]) (W1.setRow g (lay c1 ((i+(n-j))*K) zs).toArray):=fun ty cc=>by
  rw [jg,iE]
  exact agp _ _ _ ty z K L.t22 L.v23 (by rw [L.zs,fN]) L.z1 g ((i+(n-j))*K) (n-(i+(n-j))) cc (by omega) c1 (ρ.t 23) Δ (by
   rw [MJ,show n-(i+(n-j))=j-i by omega]; omega)
 rw [←fB];have wb:∃YQ:List Value,YQ.length=(j-i)*K∧W1.setRow g (lay c1 ((i+(n-j))*K) zs).toArray=(w.drew.setRow g (lay cur (i*K) us).toArray).setRow g (lay (lay cur (i*K) us) ((i+(n-j))*K) YQ).toArray:=⟨zs,mT,by rw [jg,aw]⟩
 have T5:i≤c:=by omega
 have T8:j≤c:=by omega
 have hle:i≤j:=by omega
 have aO:¬((i:Int)=(j:Int)):=by omega
 rw [←jg] at Tv;clear jg aw fB ly fa ep iE Δ;obtain ⟨_,_,FG⟩:=L.f45;go_enter FG,SlBodyN.n45_ntmps ρ;go_wp2_with fail;go_region_law_o (refine ahL rfl (.tmp 22) (.tmp 25) (ρ.t 22) rfl _ _ (by simp [Ai,iK]) (by simp [Ai,iK,hA]) (Tv _) ?_);go_wp2;go_ret;exact ⟨rfl,wb⟩
end
section
open Go.Shelf Go.Proofs
variable [M:bK] [G:cL]
section
variable {w w':World} {F:Nat→Prop} {β:Nat→Value} {E K:Nat} {l l':List (List AV)} {v:Value}
def VS (hI:Inv w F β [(1000,.own E K l)]) (uF:w'.os=w.os) (ht:jm w w') (ho:w'.output=w.output) (hs:w.heap.size≤w'.heap.size)
  (hb:∀b,b<w.heap.size→¬bD β [(1000,.own E K l)] b→w'.heap[b]?=w.heap[b]?)
  (hv:∃g cap cur,v=.slice (some ⟨g,0,none⟩) l'.length cap∧(w.heap.size≤g∨bD β [(1000,.own E K l)] g)∧0<cap∧w'.heap[g]?=some (.cells cur E (0,0))∧l'.length≤cap∧cap≤maxLen∧cur.size=cap*K∧(∀i,i<l'.length→(l'.getD i []).length=K) ∧
   ∀i j,i<l'.length→j<K→(cur.getD (i*K+j) undef).oneCell'=true∧bf w F ((l'.getD i []).getD j .χ) (cur.getD (i*K+j) undef)) :
  Ext w F β ⟨aF,[(1000,.own E K l)]⟩ w' F (fun i=>if i=900 then v else β i) ⟨aF,[(900,.own E K l')]⟩:=by
 obtain ⟨g,cap,cur,rfl,hg,oB,hh,nJ,nE,fX,hK,hr⟩:=hv;have ha:fZ F w w':=fun b hF=>hb b (hI.cC b hF) fun h=>hI.apart b h hF
 have du:∀b,bD (fun i=>if i=900 then Rm (some ⟨g,0,none⟩) l'.length cap else β i) [(900,.own E K l')] b→b=g:=by
  rintro b ⟨i,c,hm,kJ⟩;simp only [dD,ig] at hm;obtain ⟨rfl,rfl⟩:=hm
  have qW:aH cap 0=false:=by cases cap <;> first | rfl | omega
  simp [bQ,qW] at kJ;exact kJ.symm
 refine ⟨uF,ht,ho,hs,hb,fun _ h=>h,fun _ h=>.inl h,fun b h=>by rw [du b h]; exact hg,fun _ _ _=>.χ,⟨fun b hF=>oe (hI.cC b hF) hs,fun i c hm=>?_,by simp,fun b h hF=>?_,fun i c i' c' b h1 h2 _ _=>?_,hI.fh.at ha⟩,fun i hi=>if_neg (by omega)⟩
 ·simp only [dD,ig] at hm;obtain ⟨rfl,rfl⟩:=hm;exact .inr ⟨g,cap,cur,if_pos rfl,oB,hh,nJ,nE,fX,hK,fun i j hi hj=>⟨(hr i j hi hj).1,(hr i j hi hj).2.frame ha fun _ h=>h⟩⟩
 ·have:=du b h;subst this
  rcases hg with h1 | h1
  ·have:=hI.cC b hF; omega
  ·exact hI.apart b h1 hF
 ·simp only [dD,ig] at h1 h2;rw [h1.1,h2.1]
def U' (l x:List (List AV)) (i r:Nat) (hi:i≤l.length):(dH l (i:Int) x).getD r []=if r<i then l.getD r [] else if r<i+x.length then x.getD (r-i) [] else l.getD (r-x.length) []:=by
 simp only [dH,gM,aY,gC,dq,dQ,gb,jl,xq hi];by_cases h1:r<i
 ·have h2:r<i+x.length:=by omega
  simp [h1,h2]
 ·by_cases h2:r<i+x.length
  ·simp [h1,h2]
  ·have h3:i+(r-(i+x.length))=r-x.length:=by omega
   simp [h1,h2,h3]
def adi {Q:AV→Value→Prop} {x:List (List AV)} {i n:Nat} {cur vs X:List Value} (hn:n=l.length) (hi:i≤n) (hX:∀q,q<(n+x.length)*K→X[q]?=if q<i*K then cur[q]? else if q<(i+x.length)*K then vs[q-i*K]? else cur[q-x.length*K]?)
  (hl:∀r j,r<n→j<K→Q ((l.getD r []).getD j .χ) (cur.getD (r*K+j) undef)) (hx:∀r j,r<x.length→j<K→Q ((x.getD r []).getD j .χ) (vs.getD (r*K+j) undef)) :
  ∀r j,r<(dH l (i:Int) x).length→j<K→Q (((dH l (i:Int) x).getD r []).getD j .χ) (X.getD (r*K+j) undef):=by
 intro r j hr hj
 have hlen:(dH l (i:Int) x).length=n+x.length:=by simp [dH]; omega
 rw [hlen] at hr
 have hq:r*K+j<(n+x.length)*K:=by
  calc r*K+j<r*K+K:=by omega
   _=(r+1)*K:=by rw [bO]; omega
   _≤_:=cI _ hr
 rw [U' l x i r (by omega),show X.getD (r*K+j) undef=(X[r*K+j]?).getD undef from fU ..,hX _ hq];by_cases h1:r<i
 ·have:r*K+j<i*K:=by
   calc r*K+j<(r+1)*K:=by rw [bO]; omega
    _≤_:=cI _ h1
  rw [if_pos h1,if_pos this,show ∀(a:List Value) b,(a[b]?).getD undef=a.getD b undef from fun a b=>(fU ..).symm];exact hl r j (by omega) hj
 ·have nC:¬r*K+j<i*K:=by
   have:i*K≤r*K:=cI _ (by omega);omega
  rw [if_neg h1,if_neg nC];by_cases h2:r<i+x.length
  ·have:r*K+j<(i+x.length)*K:=by
    calc r*K+j<(r+1)*K:=by rw [bO]; omega
     _≤_:=cI _ h2
   rw [if_pos h2,if_pos this]
   have e:r*K+j-i*K=(r-i)*K+j:=by
    have:i*K≤r*K:=cI _ (by omega);rw [Nat.sub_mul]; omega
   rw [e,show ∀(a:List Value) b,(a[b]?).getD undef=a.getD b undef from fun a b=>(fU ..).symm];exact hx (r-i) j (by omega) hj
  ·have:¬r*K+j<(i+x.length)*K:=by
    have:(i+x.length)*K≤r*K:=cI _ (by omega);omega
   rw [if_neg h2,if_neg this]
   have e:r*K+j-x.length*K=(r-x.length)*K+j:=by
    have:x.length*K≤r*K:=cI _ (by omega);rw [Nat.sub_mul]; omega
   rw [e,show ∀(a:List Value) b,(a[b]?).getD undef=a.getD b undef from fun a b=>(fU ..).symm];exact hl (r-x.length) j (by omega) hj
def adh {x:List (List AV)} {i:Nat} (hi:i≤l.length) (hl:∀r,r<l.length→(l.getD r []).length=K) (hx:∀r,r<x.length→(x.getD r []).length=K):∀r,r<(dH l (i:Int) x).length→((dH l (i:Int) x).getD r []).length=K:=by
 intro r hr
 have hlen:(dH l (i:Int) x).length=l.length+x.length:=by simp [dH]; omega
 rw [hlen] at hr;rw [U' l x i r hi];by_cases h1:r<i
 ·rw [if_pos h1]; exact hl r (by omega)
 ·rw [if_neg h1];by_cases h2:r<i+x.length
  ·rw [if_pos h2]; exact hx _ (by omega)
  ·rw [if_neg h2]; exact hl _ (by omega)
end
def three {vs:Array Value} {a b c:Value} (hs:vs.size=3) (h0:vs.getD 0 undef=a) (h1:vs.getD 1 undef=b) (h2:vs.getD 2 undef=c):vs=#[a,b,c]:=by
 apply Array.ext
 ·simpa using hs
 ·intro i h3 h4;have h4:i<3:=h4
  have:i=0∨i=1∨i=2:=by omega
  rcases this with rfl | rfl | rfl
  ·simpa [hs] using h0
  ·simpa [hs] using h1
  ·simpa [hs] using h2
def adF {cur us vs:List Value} {K c i m n:Nat} (hc:cur.length=c*K) (hi:i≤n) (fz:n+m≤c) (hu:us=(cur.drop (i*K)).take ((n-i)*K)) (hv:vs.length=m*K) :
  ∀q,q<(n+m)*K→(lay (lay cur ((i+m)*K) us) (i*K) vs)[q]?=if q<i*K then cur[q]? else if q<(i+m)*K then vs[q-i*K]? else cur[q-m*K]?:=by
 intro q hq
 have e0:i*K+(n-i)*K=n*K:=by rw [←bO,show i+(n-i)=n by omega]
 have e1:(i+m)*K+(n-i)*K=(n+m)*K:=by rw [←bO,show i+m+(n-i)=n+m by omega]
 have e2:(n+m)*K≤c*K:=cI _ fz
 have e3:i*K+m*K=(i+m)*K:=by rw [bO]
 have e4:n*K+m*K=(n+m)*K:=by rw [bO]
 have fa:us.length=(n-i)*K:=by rw [hu]; simp; omega
 rw [zq (by rw [mW (by omega)]; omega),zq (by omega)];by_cases h1:q<i*K
 ·have h2:q<(i+m)*K:=by omega
  simp only [h1,h2,if_true]
 ·by_cases h2:q<(i+m)*K
  ·have h3:q<i*K+vs.length:=by omega
   simp only [h1,h2,h3,if_true,if_false]
  ·have h3:¬q<i*K+vs.length:=by omega
   have h4:q<(i+m)*K+us.length:=by omega
   simp only [h1,h2,h3,h4,if_true,if_false];rw [hu,gb,if_pos (by omega),jl];congr 1; omega
def Calls.to {P:Program} {g:FuncId} {vs:Array Value} {w:World} {Q Q':Ending→World→Prop} (h:Calls P g vs w Q) (hq:∀e w',Q e w'→Q' e w'):Calls P g vs w Q':=h.mono hq
set_option maxHeartbeats 2000000 in
def adG {cur us vs r0:List Value} {K G i m n:Nat} (hr:r0.length=G*K) (hi:i≤n) (fz:n+m≤G) (da:n*K≤cur.length) (c_:∀q,q<i*K→r0[q]?=cur[q]?) (hu:us=(cur.drop (i*K)).take ((n-i)*K)) (hv:vs.length=m*K) :
  ∀q,q<(n+m)*K→(lay (lay r0 (i*K) vs) ((i+m)*K) us)[q]?=if q<i*K then cur[q]? else if q<(i+m)*K then vs[q-i*K]? else cur[q-m*K]?:=by
 intro q hq
 have e0:i*K+(n-i)*K=n*K:=by rw [←bO,show i+(n-i)=n by omega]
 have e1:(i+m)*K+(n-i)*K=(n+m)*K:=by rw [←bO,show i+m+(n-i)=n+m by omega]
 have e2:(n+m)*K≤G*K:=cI _ fz
 have e3:i*K+m*K=(i+m)*K:=by rw [bO]
 have e4:n*K+m*K=(n+m)*K:=by rw [bO]
 have fa:us.length=(n-i)*K:=by rw [hu]; simp; omega
 rw [zq (by rw [mW (by omega)]; omega),zq (by omega)];by_cases h1:q<i*K
 ·have h2:q<(i+m)*K:=by omega
  simp only [h1,h2,if_true];exact c_ q h1
 ·by_cases h2:q<(i+m)*K
  ·have h3:q<i*K+vs.length:=by omega
   simp only [h1,h2,h3,if_true,if_false]
  ·have h4:q<(i+m)*K+us.length:=by omega
   simp only [h1,h2,h4,if_true,if_false];rw [hu,gb,if_pos (by omega),jl];congr 1; omega
def yb (w:World) (g:Nat) (a:Array Value) {E:Nat} {c:Array Value} (h:w.heap[g]?=some (.cells c E (0,0))):(w.setRow g a).heap[g]?=some (.cells a E (0,0)):=by
 simp [xv,pQ,h]
def zN (w:World) (g:Nat) (a:Array Value):(w.setRow g a).heap.size=w.heap.size:=by simp [xv]
def zM (w:World) (g:Nat) (a:Array Value) (b:Nat) (h:b≠g):(w.setRow g a).heap[b]?=w.heap[b]?:=by
 simp [xv,pQ,Ne.symm h]
def IP {P:Program} {ρ:Ren} {i0:TypeInfo} {z:Value} (L:t_ P ρ i0 z) {K:Nat} (fN:i0.size=K) (kK:0<i0.bytes) (l x:List (List AV)) (i:Int) (hx:∀r,r∈x→r.length=K)
  (h:(0:Int)≤i∧i≤(l.length:Int)∧0<x.length∧(l.length+x.length)*i0.bytes≤140737488355328) :
  af P (.f (ρ.f 22)) [.o 1000,vi i,.s x] ⟨aF,[(1000,.own (ρ.t 9) K l)]⟩ fun r s=>r=.o 900∧s.H=[(900,.own (ρ.t 9) K (dH l i x))]:=by
 obtain ⟨nm,dN,hf⟩:=L.f22;refine ⟨⟨_,_,hf,dN,rfl⟩,fun w F β vs hI hs hv=>?_⟩;obtain ⟨q9,sL,hm,uq⟩:=h;obtain ⟨i',rfl⟩:∃i':Nat,i=(i':Int):=⟨i.toNat,by omega⟩
 have sL:i'≤l.length:=by omega
 have H7:l.length+x.length≤140737488355328:=fc (Nat.le_mul_of_pos_right _ kK) uq;obtain ⟨a,n,c,ah,e0⟩:=(hv 0 (by simp)).jW;have e1:=(hv 1 (by simp)).bL;have h2:=hv 2 (by simp);change Rd w F β (.s x) _ at h2
 have hxK:∀r,r<x.length→(x.getD r []).length=K:=fun r hr=>by
  rw [fU,bT hr]; exact hx _ (eG _)
 rcases h2.oN.tq with ⟨rfl,_,_⟩ | ⟨vb,vo,vc,K',u,yo,hvc,akQ,e2,yp,hu⟩
 ·simp at hm
 obtain ⟨news,pr⟩:=P3 (w:=w) (F:=F) (b:=vb) (off:=vo) (u:=u) (show oW x K from hx) yp hu;have jj:=three hs e0 e1 e2;subst jj
 have kI:0<K:=by have:=L.k9; omega
 have nO:∀r j,r<x.length→j<K→(news.getD (r*K+j) undef).oneCell'=true∧bf w F ((x.getD r []).getD j .χ) (news.getD (r*K+j) undef):=fun r j hr hj=>by
  have hq:r*K+j<x.length*K:=by
   calc r*K+j<(r+1)*K:=by rw [bO]; omega
    _≤_:=cI _ hr
  refine ⟨pr.one _ ?_,pr.rd r j hr hj⟩;rw [fU,bT (by rw [pr.len]; exact hq)];exact eG _
 have eM:∀j v,news[j]?=some v→w.cell? ⟨vb,vo+j,none⟩=some v:=fun j v hj=>by
  have:=pr.cell j v hj;rwa [f_] at this
 have fin:∀(w':World) (v:Value),w'.os=w.os→jm w w'→w'.output=w.output→w.heap.size≤w'.heap.size→(∀b,b<w.heap.size→¬bD β [(1000,Chunk.own (ρ.t 9) K l)] b→w'.heap[b]?=w.heap[b]?) →
   (∃g cap cur,v=.slice (some ⟨g,0,none⟩) (l.length+x.length) cap∧(w.heap.size≤g∨bD β [(1000,.own (ρ.t 9) K l)] g)∧0<cap∧w'.heap[g]?=some (.cells cur (ρ.t 9) (0,0))∧l.length+x.length≤cap∧cap≤maxLen∧cur.size=cap*K∧(∀r,r<l.length→(l.getD r []).length=K) ∧
    ∀r j,r<(dH l (i':Int) x).length→j<K→(cur.getD (r*K+j) undef).oneCell'=true∧bf w F (((dH l (i':Int) x).getD r []).getD j .χ) (cur.getD (r*K+j) undef)) →
   ∃v',Ending.returned v=.returned v'∧∃r aq F' av,(r=AV.o 900∧aq.H=[(900,Chunk.own (ρ.t 9) K (dH l (i':Int) x))])∧Rd w' F' av r v'∧Ext w F β ⟨aF,[(1000,.own (ρ.t 9) K l)]⟩ w' F' av aq:=by
  rintro w' v h1 h2 h3 h4 h5 ⟨g,cap,cur,rfl,h6,h7,h8,h9,H3,H4,H6,h13⟩
  have hlen:(dH l (i':Int) x).length=l.length+x.length:=by simp [dH]; omega
  refine ⟨_,rfl,.o 900,⟨aF,[(900,.own (ρ.t 9) K (dH l (i':Int) x))]⟩,F,_,⟨rfl,rfl⟩,.o ?_,VS (v:=.slice (some ⟨g,0,none⟩) (l.length+x.length) cap) hI h1 h2 h3 h4 h5 ⟨g,cap,cur,by rw [hlen],h6,h7,h8,by rw [hlen]; exact h9,H3,H4,adh sL H6 hxK,h13⟩⟩;exact if_pos rfl
 have iP:(1000,Chunk.own (ρ.t 9) K l)∈[(1000,Chunk.own (ρ.t 9) K l)]:=by simp
 rcases hI.holds _ _ iP with ⟨rfl,a',sD⟩ | ⟨g,cap,cur,uv,iO,hg,nJ,nE,fX,uC,Is⟩
 ·-- nothing yet
  rw [ah] at sD;cases sD
  have ab6:i'=0:=by simpa using sL
  subst ab6;refine Calls.to (Vc L K a 0 0 vb vo x.length vc [] news w fN hm (bF _) (by omega) (by simpa using uq) (by simpa using H7) (by simp) pr.len (fun _=>rfl) (fun _ _ j v hj=>by simp at hj) eM pr.one) ?_;rintro e w' ⟨rfl,rfl⟩;have hG:=grownCap_ge w (0+x.length) 0 (ρ.t 9);refine fin _ _ rfl ⟨rfl,fun _=>j0 _⟩ rfl (by simp [lR]) (fun b hb _=>?_) ⟨w.heap.size,grownCap w (0+x.length) 0 (ρ.t 9),([]++news).toArray++dC z.cells (grownCap w (0+x.length) 0 (ρ.t 9)-(0+x.length)),by simp,.inl (bF _),by omega,?_,by simpa using hG,grownCap_le_maxLen w _ _ _ (by unfold maxLen; omega),?_,fun r hr=>by simp at hr,fun r j hr hj=>?_⟩
  ·have:b≠w.drew.heap.size:=K0 hb;simp only [lR,ni,if_neg this]; rfl
  ·show (w.drew.heap.push _)[w.drew.heap.size]?=_;rw [ni,if_pos rfl]
  ·simp only [alx,tQ,lh,pr.len];rw [show (dC z.cells (grownCap w (0+x.length) 0 (ρ.t 9)-(0+x.length))).size=(grownCap w (0+x.length) 0 (ρ.t 9)-(0+x.length))*K by simp [dC,L.zs,fN],←bO];congr 1; omega
  ·have cK:r<x.length:=by simpa [dH] using hr
   have hq:r*K+j<news.length:=by
    rw [pr.len]
    calc r*K+j<(r+1)*K:=by rw [bO]; omega
     _≤_:=cI _ cK
   have e:(([]++news).toArray++dC z.cells (grownCap w (0+x.length) 0 (ρ.t 9)-(0+x.length))).getD (r*K+j) undef=news.getD (r*K+j) undef:=by
    simp only [alx,lf,pP,lh,hq,if_true,List.getElem?_toArray,fU]
   rw [e];have:=nO r j cK hj;simpa [dH] using this
 ·rw [ah] at uv;cases uv;obtain ⟨n,hn⟩:∃n,n=l.length:=⟨_,rfl⟩;obtain ⟨cl,rfl⟩:∃cl:List Value,cur=cl.toArray:=⟨cur.toList,by simp⟩
  have qW:aH c 0=false:=by cases c <;> first | rfl | omega
  have ho:bD β [(1000,Chunk.own (ρ.t 9) K l)] g:=⟨1000,_,iP,by rw [ah]; simp [bQ,qW]⟩;have II:vb≠g:=fun e=>hI.apart g ho (e▸yo);have gV:∀b,¬bD β [(1000,Chunk.own (ρ.t 9) K l)] b→b≠g:=fun b hb e=>hb (e▸ho)
  have da:cl.length=c*K:=by simpa using fX
  have qc:n*K≤c*K:=cI _ (by omega)
  have Bg:∀r j,r<n→j<K→(cl.getD (r*K+j) undef).oneCell'=true∧bf w F ((l.getD r []).getD j .χ) (cl.getD (r*K+j) undef):=fun r j hr hj=>by
   have:=Is r j (by omega) hj;rwa [vB cl.toArray cl rfl] at this
  have sC:∀q v,q<n*K→cl[q]?=some v→v.oneCell'=true:=fun q v hq jR=>by
   have h3:q/K<n:=(qI kI).2 hq;have h4:q % K<K:=rW _ kI
   have h5:q/K*K+q % K=q:=by rw [Nat.mul_comm]; exact Rf q K
   have:=(Bg _ _ h3 h4).1;rw [h5,fU,jR] at this;exact this
  have hQ:∀X:List Value,(∀q,q<(n+x.length)*K→X[q]?=if q<i'*K then cl[q]? else if q<(i'+x.length)*K then news[q-i'*K]? else cl[q-x.length*K]?) →
    ∀r j,r<(dH l (i':Int) x).length→j<K→(X.toArray.getD (r*K+j) undef).oneCell'=true∧bf w F (((dH l (i':Int) x).getD r []).getD j .χ) (X.toArray.getD (r*K+j) undef):=fun X hX r j hr hj=>by
   rw [vB X.toArray X rfl];exact adi (Q:=fun a v=>v.oneCell'=true∧bf w F a v) hn (by omega) hX Bg nO r j hr hj
  rw [←hn] at uq H7 sL nJ uC fin ⊢
  have gk:c≤9223372036854775807:=by have:=nE; unfold maxLen at this; omega
  have wg:news.length=x.length*K:=pr.len;by_cases kO:i'<n
  ·by_cases fz:n+x.length≤c
   ·refine Calls.to (adm L K g c n i' vb vo x.length vc cl news w fN kO hm fz gk II hg da wg eM sC pr.one) ?_;rintro e w' ⟨rfl,rfl⟩;refine fin _ _ rfl ⟨rfl,fun _=>j0 _⟩ rfl (by rw [zN,zN]; exact bF _) (fun b hb bw=>by rw [zM _ _ _ _ (gV b bw),zM _ _ _ _ (gV b bw)]; rfl)
     ⟨g,c,_,rfl,.inr ho,iO,yb _ _ _ (yb _ _ _ (show w.drew.heap[g]?=_ from hg)),fz,nE,?_,uC,hQ _ (adF da (by omega) fz rfl wg)⟩
    have e1:(i'+x.length)*K+(n-i')*K=(n+x.length)*K:=by rw [←bO,show i'+x.length+(n-i')=n+x.length by omega]
    have e2:(n+x.length)*K≤c*K:=cI _ fz
    have e3:i'*K+x.length*K=(i'+x.length)*K:=by rw [bO]
    have e0:i'*K+(n-i')*K=n*K:=by rw [←bO,show i'+(n-i')=n by omega]
    have fa:((cl.drop (i'*K)).take ((n-i')*K)).length=(n-i')*K:=by simp; omega
    rw [lh,mW (by rw [mW (by rw [fa]; omega)]; omega),mW (by rw [fa]; omega)];exact da
   ·refine Calls.to (adj L K g c n i' vb vo x.length vc cl news w fN kO hm (by omega) (by omega) uq H7 hg da wg eM sC pr.one) ?_;rintro e w' ⟨rfl,r0,r1,c_,IC,rfl,rfl⟩;have hG:=grownCap_ge w (n+x.length) c (ρ.t 9)
    have eP:(w.alloc (.cells r0.toArray (ρ.t 9))).drew.heap[w.heap.size]?=some (.cells r0.toArray (ρ.t 9) (0,0)):=by
     show (w.heap.push _)[w.heap.size]?=_;rw [ni,if_pos rfl]
    refine fin _ _ rfl ⟨rfl,fun _=>fc (j0 _) (j0 _)⟩ rfl ?_ (fun b hb bw=>?_)
     ⟨w.heap.size,grownCap w (n+x.length) c (ρ.t 9),_,rfl,.inl (bF _),by omega,yb _ _ _ (show _=_ from yb _ _ _ eP),hG,grownCap_le_maxLen w _ _ _ (by unfold maxLen; omega),?_,uC,hQ _ (adG c_ (by omega) hG (by omega) IC rfl wg)⟩
    ·rw [zN];show w.heap.size≤((w.alloc (.cells r0.toArray (ρ.t 9))).drew.setRow w.heap.size _).heap.size;rw [zN];show w.heap.size≤(w.heap.push _).size;simp
    ·have aO:b≠w.heap.size:=K0 hb;rw [zM _ _ _ _ aO];show ((w.alloc (.cells r0.toArray (ρ.t 9))).drew.setRow w.heap.size _).heap[b]?=_;rw [zM _ _ _ _ aO];show (w.heap.push _)[b]?=_;rw [ni,if_neg aO]
    ·have e1:(i'+x.length)*K+(n-i')*K=(n+x.length)*K:=by rw [←bO,show i'+x.length+(n-i')=n+x.length by omega]
     have e2:(n+x.length)*K≤grownCap w (n+x.length) c (ρ.t 9)*K:=cI _ hG
     have e3:i'*K+x.length*K=(i'+x.length)*K:=by rw [bO]
     have e0:i'*K+(n-i')*K=n*K:=by rw [←bO,show i'+(n-i')=n by omega]
     have fa:((cl.drop (i'*K)).take ((n-i')*K)).length=(n-i')*K:=by simp; omega
     rw [lh,mW (by rw [mW (by omega),fa]; omega),mW (by omega)];exact c_
  ·have uz:i'=n:=by omega
   subst uz;by_cases fz:i'+x.length≤c
   ·refine Calls.to (adl L K g c i' vb vo x.length vc cl news w fN hm fz gk hg da wg eM pr.one) ?_;rintro e w' ⟨rfl,rfl⟩;have e2:(i'+x.length)*K≤c*K:=cI _ fz
    have e3:i'*K+x.length*K=(i'+x.length)*K:=by rw [bO]
    refine fin _ _ rfl ⟨rfl,fun _=>bF _⟩ rfl (by rw [zN]; exact bF _) (fun b hb bw=>by rw [zM _ _ _ _ (gV b bw)])
     ⟨g,c,_,rfl,.inr ho,iO,yb _ _ _ hg,fz,nE,by rw [lh,mW (by omega)]; exact da,uC,hQ _ fun q hq=>?_⟩
    rw [zq (by omega)];by_cases h1:q<i'*K
    ·simp only [h1,if_true]
    ·have h2:q<(i'+x.length)*K:=hq
     have h3:q<i'*K+news.length:=by omega
     simp only [h1,h2,h3,if_true,if_false]
   ·have hG:=grownCap_ge w (i'+x.length) c (ρ.t 9);refine Calls.to (Vc L K (some ⟨g,0,none⟩) i' c vb vo x.length vc (cl.take (i'*K)) news w fN hm (by omega) (by omega) uq H7 (by simp; omega) wg (fun h=>by cases h) (fun a ha j v hj=>?_) eM pr.one) ?_
    ·cases ha;rw [gb] at hj;split at hj
     ·rw [f_]; simp [vr,hg,hj]
     ·cases hj
    ·rintro e w' ⟨rfl,rfl⟩
     have mT:(dC z.cells (grownCap w (i'+x.length) c (ρ.t 9)-(i'+x.length))).size=(grownCap w (i'+x.length) c (ρ.t 9)-(i'+x.length))*K:=by simp [dC,L.zs,fN]
     have e3:i'*K+x.length*K=(i'+x.length)*K:=by rw [bO]
     refine fin _ _ rfl ⟨rfl,fun _=>j0 _⟩ rfl (by simp [lR]) (fun b hb _=>?_) ⟨w.heap.size,grownCap w (i'+x.length) c (ρ.t 9),(cl.take (i'*K)++news).toArray++dC z.cells (grownCap w (i'+x.length) c (ρ.t 9)-(i'+x.length)),rfl,.inl (bF _),by omega,?_,hG,grownCap_le_maxLen w _ _ _ (by unfold maxLen; omega),?_,uC,fun r j hr hj=>?_⟩
     ·have:b≠w.drew.heap.size:=K0 hb;simp only [lR,ni,if_neg this]; rfl
     ·show (w.drew.heap.push _)[w.drew.heap.size]?=_;rw [ni,if_pos rfl]
     ·rw [tQ,mT,lh,dq,dQ,xq (by omega),wg,e3,←bO];congr 1; omega
     ·have hlen:(dH l (i':Int) x).length=i'+x.length:=by simp [dH]; omega
      have hq:r*K+j<(i'+x.length)*K:=by
       calc r*K+j<(r+1)*K:=by rw [bO]; omega
        _≤_:=cI _ (by omega)
      have jK:(cl.take (i'*K)++news).length=(i'+x.length)*K:=by rw [dq,dQ,xq (by omega),wg,e3]
      have e:((cl.take (i'*K)++news).toArray++dC z.cells (grownCap w (i'+x.length) c (ρ.t 9)-(i'+x.length))).getD (r*K+j) undef=(cl.take (i'*K)++news).toArray.getD (r*K+j) undef:=by
       simp only [lf,pP,lh,jK,hq,if_true]
      rw [e];refine hQ (cl.take (i'*K)++news) (fun q hq=>?_) r j hr hj;rw [gC,dQ,xq (by omega),gb];by_cases h1:q<i'*K
      ·simp only [h1,if_true]
      ·have h2:q<(i'+x.length)*K:=hq;simp only [h1,h2,if_true,if_false]
def Sd (l:List (List AV)) (i j r:Nat) (eO:i≤j) (hj:j≤l.length):(fW l (i:Int) (j:Int)).getD r []=if r<i then l.getD r [] else l.getD (r+(j-i)) []:=by
 simp only [fW,gM,aY,gC,dQ,gb,jl,xq (show i≤l.length by omega)];by_cases h1:r<i
 ·simp [h1]
 ·have h3:j+(r-i)=r+(j-i):=by omega
  simp [h1,h3]
set_option maxHeartbeats 2000000 in
def Ht {P:Program} {ρ:Ren} {i0:TypeInfo} {z:Value} (L:Au P ρ i0 z) {K:Nat} (fN:i0.size=K) (l:List (List AV)) (i j:Int) (h:(0:Int)≤i∧i<j∧j≤(l.length:Int)) :
  af P (.f (ρ.f 45)) [.o 1000,vi i,vi j] ⟨aF,[(1000,.own (ρ.t 23) K l)]⟩ fun r s=>r=.o 900∧s.H=[(900,.own (ρ.t 23) K (fW l i j))]:=by
 obtain ⟨nm,dN,hf⟩:=L.f45;refine ⟨⟨_,_,hf,dN,rfl⟩,fun w F β vs hI hs hv=>?_⟩;obtain ⟨q9,eO,sM⟩:=h;obtain ⟨i',rfl⟩:∃i':Nat,i=(i':Int):=⟨i.toNat,by omega⟩;obtain ⟨j',rfl⟩:∃j':Nat,j=(j':Int):=⟨j.toNat,by omega⟩
 have eO:i'<j':=by omega
 have sM:j'≤l.length:=by omega
 obtain ⟨a,n,c,ah,e0⟩:=(hv 0 (by simp)).jW;have e1:=(hv 1 (by simp)).bL;have e2:=(hv 2 (by simp)).bL;have jj:=three hs e0 e1 e2;subst jj
 have kI:0<K:=by have:=L.sV; omega
 have iP:(1000,Chunk.own (ρ.t 23) K l)∈[(1000,Chunk.own (ρ.t 23) K l)]:=by simp
 rcases hI.holds _ _ iP with ⟨rfl,a',sD⟩ | ⟨g,cap,cur,uv,iO,hg,nJ,nE,fX,uC,Is⟩
 ·simp at sM; omega
 ·rw [ah] at uv;cases uv;obtain ⟨n,hn⟩:∃n,n=l.length:=⟨_,rfl⟩;obtain ⟨cl,rfl⟩:∃cl:List Value,cur=cl.toArray:=⟨cur.toList,by simp⟩
  have qW:aH c 0=false:=by cases c <;> first | rfl | omega
  have ho:bD β [(1000,Chunk.own (ρ.t 23) K l)] g:=⟨1000,_,iP,by rw [ah]; simp [bQ,qW]⟩;have gV:∀b,¬bD β [(1000,Chunk.own (ρ.t 23) K l)] b→b≠g:=fun b hb e=>hb (e▸ho)
  have da:cl.length=c*K:=by simpa using fX
  have qc:n*K≤c*K:=cI _ (by omega)
  have Bg:∀r q,r<n→q<K→(cl.getD (r*K+q) undef).oneCell'=true∧bf w F ((l.getD r []).getD q .χ) (cl.getD (r*K+q) undef):=fun r q hr hq=>by
   have:=Is r q (by omega) hq;rwa [vB cl.toArray cl rfl] at this
  have sC:∀q v,q<n*K→cl[q]?=some v→v.oneCell'=true:=fun q v hq jR=>by
   have h3:q/K<n:=(qI kI).2 hq;have h4:q % K<K:=rW _ kI
   have h5:q/K*K+q % K=q:=by rw [Nat.mul_comm]; exact Rf q K
   have:=(Bg _ _ h3 h4).1;rw [h5,fU,jR] at this;exact this
  rw [←hn] at sM nJ uC ⊢
  have gk:c≤9223372036854775807:=by have:=nE; unfold maxLen at this; omega
  refine Calls.to (aan L K g c n i' j' cl w fN eO sM nJ gk hg da sC) ?_;rintro e w' ⟨rfl,zs,mT,rfl⟩
  have hlen:(fW l (i':Int) (j':Int)).length=i'+(n-j'):=by simp [fW]; omega
  have e0:j'*K+(n-j')*K=n*K:=by rw [←bO,show j'+(n-j')=n by omega]
  have e1:i'*K+(n-j')*K=(i'+(n-j'))*K:=by rw [bO]
  have e2:(i'+(n-j'))*K+(j'-i')*K=n*K:=by rw [←bO,show i'+(n-j')+(j'-i')=n by omega]
  have e4:i'*K+(j'-i')*K=j'*K:=by rw [←bO,show i'+(j'-i')=j' by omega]
  have fa:((cl.drop (j'*K)).take ((n-j')*K)).length=(n-j')*K:=by simp; omega
  refine ⟨_,rfl,.o 900,⟨aF,[(900,.own (ρ.t 23) K (fW l (i':Int) (j':Int)))]⟩,F,_,⟨rfl,rfl⟩,.o (if_pos rfl),VS (v:=.slice (some ⟨g,0,none⟩) (i'+(n-j')) c) hI rfl ⟨rfl,fun _=>j0 _⟩ rfl (by rw [zN,zN]; exact bF _) (fun b hb bw=>by rw [zM _ _ _ _ (gV b bw),zM _ _ _ _ (gV b bw)]; rfl)
   ⟨g,c,_,by rw [hlen],.inr ho,iO,yb _ _ _ (yb _ _ _ (show w.drew.heap[g]?=_ from hg)),by rw [hlen]; omega,nE,?_,fun r hr=>?_,fun r q hr hq=>?_⟩⟩
  ·rw [lh,mW (by rw [mW (by omega)]; omega),mW (by omega)];exact da
  ·rw [hlen] at hr;rw [Sd l i' j' r (by omega) (by omega)];split
   ·exact uC r (by omega)
   ·exact uC _ (by omega)
  ·rw [hlen] at hr;rw [vB _ _ rfl,Sd l i' j' r (by omega) (by omega)]
   have hqr:r*K+q<(i'+(n-j'))*K:=by
    calc r*K+q<(r+1)*K:=by rw [bO]; omega
     _≤_:=cI _ hr
   rw [show ∀X:List Value,X.getD (r*K+q) undef=(X[r*K+q]?).getD undef from fun X=>fU ..,zq (by rw [mW (by omega)]; omega),if_pos hqr,zq (by omega)];by_cases h1:r<i'
   ·have h2:r*K+q<i'*K:=by
     calc r*K+q<(r+1)*K:=by rw [bO]; omega
      _≤_:=cI _ h1
    rw [if_pos h1,if_pos h2,show ∀(a:List Value) b,(a[b]?).getD undef=a.getD b undef from fun a b=>(fU ..).symm];exact Bg r q (by omega) hq
   ·have h2:¬r*K+q<i'*K:=by
     have:i'*K≤r*K:=cI _ (by omega);omega
    have h3:r*K+q<i'*K+((cl.drop (j'*K)).take ((n-j')*K)).length:=by omega
    have h4:j'*K+(r*K+q-i'*K)=(r+(j'-i'))*K+q:=by
     have:i'*K≤r*K:=cI _ (by omega);rw [bO]; omega
    rw [if_neg h1,if_neg h2,if_pos h3,gb,if_pos (by omega),jl,h4,show ∀(a:List Value) b,(a[b]?).getD undef=a.getD b undef from fun a b=>(fU ..).symm];exact Bg (r+(j'-i')) q (by omega) hq
end
section
open Go.RowKit
section
variable [M:bK] [G:cL] [R:dK]
variable {P:Program} {n:Nat} {st:ae} {Q:Exit→ae→Prop} {T:TT}
def ct {x y:Code} {ρ:Type} {X Y:Option ρ} {r:ρ} {d:Nat} {b:Bool} (h:(if b=true then X else Y)=some r) (yes:b=true→X=some r→Ok P n x st Q) (no:b=false→Y=some r→Ok P n y st Q) (hb:st.f d=.v (.bool b):=by exact rfl):Ok P n (.cond (.tmp d) x y) st Q:=cn d b hb h yes no
def pq {g:Nat} {fn:Func} {args:List AV} {r:AV} (hT:bM P T) (n:Nat) (dF:P.funcs[g]?=some fn)
  (h : Ok P n (fn.body.getD .skip) ⟨kU args, []⟩ (sA T fn.results.toList fun x st => Fz st.H x r)) (dN : (fn.name == "runtime.NumGoroutine") = false := by kernel_rfl) (hb : fn.body = some (fn.body.getD .skip) := by exact rfl) (hn : fn.ntmps = n := by exact rfl) (hle : pT args.length n = true := by exact rfl) : Pure P g args r := po hT n dF dN hb hn hle h
def pv {g E K:Nat} {fn:Func} {args:List AV} {rows:List (List AV)} (hT:bM P T) (n:Nat) (dF:P.funcs[g]?=some fn)
  (h : Ok P n (fn.body.getD .skip) ⟨kU args, []⟩ (sA T fn.results.toList (Lg E K rows))) (dN : (fn.name == "runtime.NumGoroutine") = false := by kernel_rfl) (hb : fn.body = some (fn.body.getD .skip) := by exact rfl) (hn : fn.ntmps = n := by exact rfl) (hle : pT args.length n = true := by exact rfl) : i_ P g args E K rows := pw hT n dF dN hb hn hle h
def px {E:TypeId} {g:Nat} {fn:Func} {args:List AV} {H0:Hp} {ρ:Type} {q:Int⊕ρ} {r:ρ→AV} {H1:ρ→Hp} (hT:bM P T) (n:Nat) (dF:P.funcs[g]?=some fn)
  (h : Ok P n (fn.body.getD .skip) ⟨kU args, H0⟩ (Mc T E fn.results.toList (fun x s => ∃ y, q = .inr y ∧ Wk ⟨dW aF 0 x, s.H⟩ ⟨ar [(0, r y)], H1 y⟩) fun m => q = .inl m)) (dN : (fn.name == "runtime.NumGoroutine") = false := by kernel_rfl) (hb : fn.body = some (fn.body.getD .skip) := by exact rfl) (hn : fn.ntmps = n := by exact rfl) (hle : pT args.length n = true := by exact rfl) :
  fL P E g args ⟨aF,H0⟩ (fun x s=>∃y,q=.inr y∧x=r y∧s.H=H1 y) fun m s=>q=.inl m∧s.H=[]:=afT hT dF dN hb hn (An hle) h
def pg {g:Nat} {fn:Func} {args:List AV} {H0 H1:Hp} {r:AV} (hT:bM P T) (n:Nat) (dF:P.funcs[g]?=some fn)
  (h : Ok P n (fn.body.getD .skip) ⟨kU args, H0⟩ (sA T fn.results.toList fun x s => Wk ⟨dW aF 0 x, s.H⟩ ⟨ar [(0, r)], H1⟩)) (dN : (fn.name == "runtime.NumGoroutine") = false := by kernel_rfl) (hb : fn.body = some (fn.body.getD .skip) := by exact rfl) (hn : fn.ntmps = n := by exact rfl) (hle : pT args.length n = true := by exact rfl) : af P g args ⟨aF, H0⟩ fun x s => x = r ∧ s.H = H1 := afU hT dF dN hb hn (An hle) h
def cg {g:Tg} {xs ys:List AV} {st:ae} {H0 H1:Hp} {r:AV} {k:AV→ae→Prop} (m n:List (Nat×Nat)) (h:af P g ys ⟨aF,H0⟩ fun x s=>x=r∧s.H=H1)
  (hx:iZ m xs ys) (hH:vz m st.H H0) (hk:k (rl (cT (kj m n)) 3 r) ⟨fun t=>ug n (st.f t),gZ (cT (kj m n)) H1++ko m n st.H⟩)
  (kP:jB H0=true:=by exact rfl) (ht:Cu m n=true:=by exact rfl) (fQ:jB (gZ (cT (kj m n)) H1++ko m n st.H)=true:=by exact rfl):af P g xs st k:=af.gen h hx hH kP ht fQ hk
def cx {E:TypeId} {g:FuncId} {xs ys:List AV} {st:ae} {H0:Hp} {ρ:Type} {q:Int⊕ρ} {r:ρ→AV} {H1:ρ→Hp} {k:AV→ae→Prop} {kx:Int→ae→Prop} (m n:List (Nat×Nat)) (h:fL P E g ys ⟨aF,H0⟩ (fun x s=>∃y,q=.inr y∧x=r y∧s.H=H1 y) fun m s=>q=.inl m∧s.H=[])
  (hx:iZ m xs ys) (hH:vz m st.H H0)
  (hp:∀e,q=.inl e→kx e ⟨fun t=>ug n (st.f t),ko m n st.H⟩)
  (hk:∀y,q=.inr y→k (rl (cT (kj m n)) 3 (r y)) ⟨fun t=>ug n (st.f t),gZ (cT (kj m n)) (H1 y)++ko m n st.H⟩)
  (kP:jB H0=true:=by exact rfl) (ht:Cu m n=true:=by exact rfl) (fQ:∀y,jB (gZ (cT (kj m n)) (H1 y)++ko m n st.H)=true:=by exact fun _=>rfl) (fx:jB (ko m n st.H)=true:=by exact rfl):fL P E g xs st k kx:=fL.gen h hx hH kP ht fQ fx hp hk
end
section
variable [M:bK] [G:cL] {H:Hp}
def SS:∀{xs:List AV},xs.all kb=true→oj H xs xs
 | [],_=>.nil
 | x::xs,h=>by
  rw [List.all_cons,bJ] at h;exact .cons (Fz.dG h.1) (SS h.2)
def fq {xs:List AV} (h:xs.all kb=true:=by rfl):oj H xs xs:=SS h
end
section
variable [M:bK] [G:cL] [R:dK]
local instance ak0:qK:=⟨[]⟩
local instance akX:mj:=⟨[]⟩
variable {P:Program} {n:Nat} {st:ae} {Q:Exit→ae→Prop} {T:TT}
def dw {id:Nat} {ops:Array Oper} (m:Nat) (hT:bM P T) (hm:P.follows .mixedOrders=true)
  (h:rP P T n ops (steady m ops) ⟨preB (ew m ops) (js (ew m ops) st).f,(js (ew m ops) st).H⟩ fun st1=>s5 P st1.f (ops.toList.take m)∧qO T n (ew m ops) st1 fun st2=>iV P T n ops (ops.toList.drop m) st2 (Q .normal)) (qa:Dw m ops=true:=by kernel_rfl):Ok P n (.region id ops true) st Q:=Ok.draw hT hm qa h
end
end
end Go.Cat
