/- The logic that the walks are in, piece P4. No condition. -/
import Derived.Test.YtdcgbodbejgliaaGreatDoorXTopListedCatP3
import Derived.ProofKit
open Array renaming getElem?_eq_getElem → fL, getElem?_eq_some_iff → j4, getD_eq_getD_getElem? → j3, length_toList → kE, getElem?_setIfInBounds_ne → uh, replicate → mw, toList_setIfInBounds → VO, getElem?_replicate → VM, getElem?_eq_none → VK, mem_map → ahu
open Bool renaming and_eq_true → bM, or_eq_true → qT
open Classical renaming byContradiction → uj
open Go.Act renaming put → hJ
open Go.Call renaming operands → oU
open Go.DataW renaming trod → zy, TrodAll → GY, trod_step → N5, trodStep → N4
open Go.Deferred renaming ofValue → kW
open Go.Fence renaming wide → fD
open Go.Op renaming operands → qX
open Go.OpenSpec renaming ofChange → We
open Go.Oper renaming uponIn_value → uv, uponIn_enter → xc
open Go.Region renaming wanted → dA, binds → i_, ready → kK
open Go.Value renaming okWide → zL, pointer → OL
open Go.World renaming putObj_size → ju, cells?_some → ON
open List renaming getElem?_eq_getElem → bO, mem_cons_of_mem → cu, mem_cons → bp, getD → aY, length_take → da, mem_singleton → dV, mem_filter → dU, all_eq_true → dJ, mem_map → cV, not_mem_nil → eI, getElem?_append → fW, replicate → gl, map_cons → eT, nodup_cons → gK, drop_eq_nil_of_le → kH, range → fM, mem_filterMap → kX, mem_range → kY, map_congr_left → oX, drop_eq_getElem_cons → pZ, mem_append_left → p4, take_append_drop → p5, nodup_nil → oY, eq_nil_iff_forall_not_mem → w7, append_nil → sd, mem_append_right → zA, mem_iff_getElem → zB, getElem_take → CQ, count_eq_zero → V3, drop_drop → aht
open Nat renaming eq_of_beq_eq_true → cA, beq → aG, le_refl → bm, add_mul → bD, lt_or_ge → eY, blt → ej, blt_eq → fY, zero_add → iZ, beq_refl → iz, lt_of_lt_of_le → mJ, not_lt → kZ, strongRecOn → qV
open Ne renaming symm → jJ
open Option renaming bind_some → aX, map_eq_some_iff → zI, bind_eq_some_iff → Wg
open Prod.mk renaming injEq → gC
namespace Go.Cat
set_option linter.all false
section
open Go.RowKit
variable [M:bU] [G:dC]
class p8 where
 md:List Nat
class lR where
 ch:List (Nat×Chunk)
def dD [MD:p8] (o:Oper):Option (Nat×Option Nat) :=
 match o.op,o.dst,o.guard with
 |.alloc t,some d,none=>some (d,some t)
 |.call _,some d,none=>bif MD.md.elem d then some (d,none) else none
 |_,_,_=>none
def vR [MD:p8] (o:Oper):Bool :=
 match dD o with
 |some (_,some _)=>true
 |_=>false
def tq (d:Nat):Chunk→AV
 |.box _=>.b d 0
 |.own ..=>.o d
 |.mp ..=>.m d
 |.lp ..=>.χ
 |.si ..=>.b d 0
def tr:List (Nat×Chunk)→Nat→Option Chunk
 |[],_=>none
 |(i,c)::r,d=>bif aG d i then some c else tr r d
def iQ:List (Nat×Option Nat)→ai→ai
 |[],st=>st
 |(d,_)::r,st=>iQ r ⟨fun t=>er 2 d (st.f t),gu d st.H⟩
def tG [CH:lR] (d:Nat):Bool:=match tr CH.ch d with|some (.own ..)=>true|_=>false
def preB [CH:lR]:List (Nat×Option Nat)→(Nat→AV)→Nat→AV
 |[],f=>f
 |(d,none)::r,f=>preB r (bif tG d then dF f d (.o d) else f)
 |(_,some _)::r,f=>preB r f
def Bp [CH:lR] {t:Nat}:∀{l:List (Nat×Option Nat)} {f:Nat→AV},(∀x,(t,x)∉l)→preB l f t=f t
 |[],f,_=>rfl
 |(d,none)::r,f,h=>by
  have aS:t≠d:=fun e=>h none (by rw [e];exact List.mem_cons_self ..);unfold preB;rw [Bp fun x hx=>h x (cu _ hx)]
  have hb:aG t d=false:=by
   cases h':aG t d with
   |false=>rfl
   |true=>exact absurd (cA h') aS
  cases tG d with
  |true=>show (bif aG t d then _ else _)=_;rw [hb];rfl
  |false=>rfl
 |(d,some y)::r,f,h=>by
  unfold preB;exact Bp fun x hx=>h x (cu _ hx)
def EZ [CH:lR] {t:Nat} (hp:tG t=true):∀{l:List (Nat×Option Nat)} {f:Nat→AV},(l.map (·.1)).Nodup→(t,none)∈l→preB l f t=.o t
 |(d,none)::r,f,hn,hm=>by
  rw [eT,gK] at hn;unfold preB;by_cases e:t=d
  ·subst e;rw [hp,Bp fun x hx=>hn.1 (cV.2 ⟨(t,x),hx,rfl⟩)];show (bif aG t t then _ else _)=_;rw [iz];rfl
  ·exact EZ hp hn.2 ((bp.1 hm).resolve_left fun h=>e (by cases h;rfl))
 |(d,some y)::r,f,hn,hm=>by
  rw [eT,gK] at hn;unfold preB;exact EZ hp hn.2 ((bp.1 hm).resolve_left fun h=>by cases h)
def o_ [CH:lR] (T:TT) (n:Nat):List (Nat×Option Nat)→ai→(ai→Prop)→Prop
 |[],st,K=>K st
 |(d,some t)::r,st,K=>match T t with
  |some i=>bif iL (bQ i.zero)&&ej d n then o_ T n r ⟨dF st.f d (.b d 0),(d,.box (bn (bQ i.zero)))::st.H⟩ K else False
  |none=>False
 |(d,none)::r,st,K=>match tr CH.ch d with
  |some c=>bif ej d n then o_ T n r ⟨dF st.f d (tq d c),(d,c)::st.H⟩ K else False
  |none=>False
def j9 [CH:lR] (T:TT) (d:Nat) (x:Option Nat) (c:Chunk):Prop :=
 match x with
 |some t=>∃z,T t=some z∧iL (bQ z.zero)=true∧c=.box (bn (bQ z.zero))
 |none=>tr CH.ch d=some c
def j9.uniq [CH:lR] {T:TT} {d:Nat} {x:Option Nat} {c c':Chunk} (h:j9 T d x c) (h':j9 T d x c'):c=c':=by
 cases x with
 |some t =>
  obtain ⟨z,h1,_,rfl⟩:=h;obtain ⟨z',lX,_,rfl⟩:=h';rw [h1] at lX;cases lX;rfl
 |none =>
  unfold j9 at h h';simp only at h h';rw [h] at h';exact Option.some.inj h'
def Hl (P:Program) (g:FuncId) (args:List AV) (c:Chunk):Prop :=
 oj P g∧∀(w:World) (F:Nat→Prop) (β:Nat→Value) (vs:Array Value),Inv w F β []→vs.size=args.length→(∀i,i<args.length→Rd w F β (args.getD i .χ) (vs.getD i undef)) →
  Calls P g vs w fun e w'=>∃v,e=.returned v∧Below w.heap.size w w'∧∃F',(∀b,F b→F' b)∧(∀b,F' b→eU F w w' b)∧(∀aw i,aw i=v→c.holds w' F' aw i∧Rd w' F' aw (tq i c) v) ∧
   ∀b,bF v=some b→w.heap.size≤b∧¬F' b
def C8 (P:Program) (f:Nat→AV) (o:Oper) (c:Chunk):Prop :=
 match o.op with
 |.call q=>match q.callee with
  |.value x=>match ev f x with
   |.c (.func g) fs cs=>∃ys,Hl P g ys c∧h_ (fs++(q.args.toList.map (ev f)++cs)) ys
   |_=>False
  |_=>False
 |_=>False
def qF [MD:p8] [CH:lR] (P:Program) (f:Nat→AV):List Oper→Prop
 |[]=>True
 |o::r=>match dD o with
  |some (d,none)=>(match tr CH.ch d with
   |some c=>C8 P f o c
   |none=>False)∧qF P f r
  |_=>qF P f r
def EG [MD:p8] [CH:lR] {P:Program} {f:Nat→AV} {o:Oper} {d:Nat}:∀{l:List Oper},qF P f l→o∈l→dD o=some (d,none)→∃c,tr CH.ch d=some c∧C8 P f o c
 |[],_,h,_=>by cases h
 |p::r,hl,h,ha=>by
  rcases bp.1 h with rfl|h
  ·simp only [qF,ha] at hl;have h1:=hl.1;split at h1
   ·rename_i c hc;exact ⟨c,hc,h1⟩
   ·exact h1.elim
  ·simp only [qF] at hl;split at hl
   ·exact EG hl.2 h ha
   ·exact EG hl h ha
def LU (T:TT) (t t':Nat) (s x:AV) (H:Hp) (k:AV→Prop):Prop :=
 match T t with
 |some i=>match i.kind with
  |.slice e=>match T e with
   |some j =>
    bif aG j.bytes 0||(aG j.cells 0||!(aG j.zero.cells.size j.cells)) then False else
    bif (match s with|.v (.slice none 0 0)=>true|.z=>true|_=>false) then
     zO T t t' e x 5000 H fun bG=>nC bG j.cells∧bG.length*j.bytes≤140737488355328∧∃R,bG=R∧k (.s R)
    else False
   |none=>False
  |_=>False
 |none=>False
def mq (P:Program) (T:TT) (o:Oper) (ρ:Operand→AV) (H:Hp) (k:AV→Prop):Prop :=
 match o.op with
 |.buildSlice t n parts=>match n with
  |0=>wF T t 0 (parts.toList.map fun q=>(q.1,ρ q.2)) fun _ _ _=>k .z
  |n+1=>wF T t (n+1) (parts.toList.map fun q=>(q.1,ρ q.2)) fun rows _ _=>bif rows.all (fun r=>r.all eL) then k (.s (rows.map fun r=>r.map nz)) else False
 |.call c=>match c.callee with
  |.builtin .append=>match c.argTypes.toList,c.args.toList.map ρ with
   |[t,t'],[s,x]=>LU T t t' s x H k
   |_,_=>False
  |_=>lK P T o ρ H k
 |_=>lK P T o ρ H k
def pU (P:Program) (T:TT) (n:Nat) (all:Array Oper):List Oper→ai→(ai→Prop)→Prop
 |[],st,K=>K st
 |o::os,st,K=>gd n all o st (fun st=>∃r,mq P T o (ev st.f) st.H (fun r'=>r'=r)∧put n o.dst st r fun av=>pU P T n all os av K) fun st=>put n o.dst st (.v undef) fun av=>pU P T n all os av K
section
variable {P:Program} {T:TT} {w:World} {F:Nat→Prop} {β aw:Nat→Value} {H:Hp}
def UC {o:Oper} {ρ n0:Operand→AV} {k:AV→Prop} (h:∀x,x∈o.op.operands→ρ x=n0 x) (hs:lK P T o ρ H k):lK P T o n0 H k:=by
 obtain ⟨dst,op,type,pos,after,guard⟩:=o;have parts:∀ps:Array (Nat×Operand),(∀x,x∈ps.map (·.2)→ρ x=n0 x)→(ps.toList.map fun q=>(q.1,ρ q.2))=ps.toList.map fun q=>(q.1,n0 q.2):=fun ps hp =>
  oX fun q hq=>by rw [hp q.2 (ahu.2 ⟨q,by simpa using hq,rfl⟩)]
 have Ba:∀xs:Array Operand,(∀x,x∈xs→ρ x=n0 x)→xs.toList.map ρ=xs.toList.map n0:=fun xs hp=>oX fun x hx=>hp x (by simpa using hx);cases op<;>simp only [qX] at h<;>simp only [lK] at hs ⊢
 case build t ps=>rwa [←parts ps fun x hx=>h x (by simpa using hx)]
 case buildSlice t n ps=>rwa [←parts ps fun x hx=>h x (by simpa using hx)]
 case makeFunc fn fs cs=>rwa [←Ba fs fun x hx=>h x (by simp [hx]),←Ba cs fun x hx=>h x (by simp [hx])]
 case slice t x lo hi mx=>cases lo<;>cases hi<;>cases mx<;>simp_all
 case call c =>
  obtain ⟨callee,args,argTypes⟩:=c;have ha:=Ba args fun x hx=>h x (by simp [oU,hx]);cases callee with
  |builtin b=>simp only at hs ⊢;rwa [←ha]
  |value f=>simp only at hs ⊢;rwa [←ha,←h f (by simp [oU])]
  |invoke r m=>exact hs
 all_goals first|exact hs|(simp_all;done)
def Uz {o:Oper} {ρ n0:Operand→AV} {k:AV→Prop} (h:∀x,x∈o.op.operands→ρ x=n0 x) (hs:mq P T o ρ H k):mq P T o n0 H k:=by
 obtain ⟨dst,op,type,pos,after,guard⟩:=o;have parts:∀ps:Array (Nat×Operand),(∀x,x∈ps.map (·.2)→ρ x=n0 x)→(ps.toList.map fun q=>(q.1,ρ q.2))=ps.toList.map fun q=>(q.1,n0 q.2):=fun ps hp =>
  oX fun q hq=>by rw [hp q.2 (ahu.2 ⟨q,by simpa using hq,rfl⟩)]
 have Ba:∀xs:Array Operand,(∀x,x∈xs→ρ x=n0 x)→xs.toList.map ρ=xs.toList.map n0:=fun xs hp=>oX fun x hx=>hp x (by simpa using hx);cases op
 case buildSlice t n ps =>
  cases n with
  |zero=>simp only [mq] at hs ⊢;rwa [←parts ps fun x hx=>h x (by simpa [qX] using hx)]
  |succ n=>simp only [mq] at hs ⊢;rwa [←parts ps fun x hx=>h x (by simpa [qX] using hx)]
 case call c =>
  obtain ⟨callee,args,argTypes⟩:=c;have ha:=Ba args fun x hx=>h x (by simp [qX,oU,hx]);have old:=UC (P:=P) (T:=T) (k:=k) (H:=H) (o:=⟨dst,.call ⟨callee,args,argTypes⟩,type,pos,after,guard⟩) h;cases callee with
  |builtin b=>cases b<;>first|exact old hs|(simp only [mq] at hs ⊢;rwa [←ha])
  |value f=>exact old hs
  |invoke r m=>exact old hs
 all_goals exact UC (P:=P) (T:=T) (H:=H) (k:=k) h hs
def ac7 {t t':Nat} {s x:AV} {vs vx:Value} {k:AV→Prop} (hT:bB P T) (hI:Inv w F β H) (hs:Rd w F β s vs) (hx:Rd w F β x vx) (h:LU T t t' s x H k) (ty:TypeId) :
  bR P (Builtin.append_ #[t,t'] ty #[vs,vx]) w F β k:=by
 unfold LU at h;split at h
 ·rename_i i hi;split at h
  ·rename_i e he;split at h
   ·rename_i j hj;cases hb:(aG j.bytes 0||(aG j.cells 0||!(aG j.zero.cells.size j.cells))) with
    |true=>rw [hb] at h;cases h
    |false =>
     rw [hb] at h;simp only [Bool.or_eq_false_iff,Bool.not_eq_false'] at hb
     have dY:j.bytes≠0:=fun e=>by have:=hb.1;rw [e] at this;cases this
     have hz:j.zero.cells.size=j.cells:=cA hb.2.2;simp only [cond_false] at h;obtain ⟨aZ,h⟩:=cond_prop h
     obtain ⟨a,rfl⟩:∃a,vs=.slice a 0 0:=by
      split at aZ
      ·exact ⟨none,hs.bA⟩
      ·exact hs.wV
      ·cases aZ
     obtain ⟨rows,⟨hlen,jR,R,rfl,hk⟩,news,gS,eP⟩:=Hy (st:=⟨aM,H⟩) (kk:=fun bG=>nC bG j.cells∧bG.length*j.bytes≤140737488355328∧∃R,bG=R∧k (.s R)) hT hI hi he hj hx h fun rows hr=>hr.1;have xG:Inv w F (fun i=>if i=0 then .slice a 0 0 else β i) [(0,.own e j.cells [])] :=
      ⟨hI.bW,fun i c hm=>by simp only [dV,gC] at hm;obtain ⟨rfl,rfl⟩:=hm;exact .inl ⟨rfl,a,if_pos rfl⟩,by simp,
       fun b ⟨i,c,hm,hb⟩=>by simp only [dV,gC] at hm;obtain ⟨rfl,rfl⟩:=hm;simp only [if_true] at hb;cases a<;>simp [bF] at hb,
       fun i c i' c' b h h' _ _=>by simp only [dV,gC] at h h';rw [h.1,h'.1],hI.eN⟩
     obtain ⟨v',w',hr,r,av,F',aw,⟨rfl,rfl⟩,hv,hx⟩:=Hz (st:=⟨aM,[(0,.own e j.cells [])]⟩) (L:=0) (rows:=[]) (bG:=rows) (v:=.slice a 0 0) (k:=fun r av=>r=.o 0∧av=gq ⟨aM,[(0,.own e j.cells [])]⟩ 0 (.own e j.cells rows)) (ty:=ty)
      (by decide) hT xG hi he hj dY hz (.inr ⟨by simp,if_pos rfl⟩) ⟨news,gS,eP⟩ hlen (by simpa using jR) ⟨rfl,by simp⟩
     have bw:∀b,¬br (fun i=>if i=0 then Value.slice a 0 0 else β i) [(0,.own e j.cells [])] b:=fun b ⟨i,c,hm,hb⟩=>by
      simp only [dV,gC] at hm;obtain ⟨rfl,rfl⟩:=hm;simp only [if_true] at hb;cases a<;>simp [bF] at hb
     have mY:(0,Chunk.own e j.cells rows)∈(gq ⟨aM,[(0,.own e j.cells [])]⟩ 0 (.own e j.cells rows)).H:=by simp [gq]
     refine ⟨v',w',.s rows,hr,⟨hx.os,hx.tape,hx.output,hx.size,fun b hb=>hx.block b hb (bw b)⟩,hk,.i ?_⟩;refine (Iq hx.inv mY hv).frame (fun _ _=>rfl) fun b hb=>?_
     rcases hb with hb|hb
     ·rcases hx.new b hb with h1|h1|h1
      ·exact .inl h1
      ·exact .inr ⟨h1,hx.inv.bW b hb⟩
      ·exact absurd h1 (bw b)
     ·have ho:br aw (gq ⟨aM,[(0,.own e j.cells [])]⟩ 0 (.own e j.cells rows)).H b:=⟨0,_,mY,hb⟩
      rcases hx.owned b ho with h1|h1
      ·exact .inr ⟨h1,hx.inv.fj ho⟩
      ·exact absurd h1 (bw b)
   ·cases h
  ·cases h
 ·cases h
def UB {o:Oper} {ρ:Operand→AV} {a:Act} {k:AV→Prop} (hT:bB P T) (hI:Inv w F β H) (bx:∀x,x∈o.op.operands→Rd w F β (ρ x) (a.eval x))
  (h:mq P T o ρ H k):q6 P (execOp a.eval o) w fun v w'=>∃r,k r∧Rd w' (eU F w w') β r v:=by
 obtain ⟨dst,op,type,pos,after,guard⟩:=o;cases op
 case buildSlice t n parts =>
  cases n with
  |succ n=>exact Gk (o:=⟨dst,.buildSlice t (n+1) parts,type,pos,after,guard⟩) hT hI bx h
  |zero =>
   simp only [mq] at h;simp only [qX] at bx;simp only [execOp];obtain ⟨rows,e,size,us,hk,_,hs,me,kr,eR,aZ,bc,hlen⟩:=LQ (P:=P) (w:=w) (F:=F) (β:=β) hT (EW ρ a.eval parts) (EX fun x hx=>bx x (by simpa using hx)) h;exact (show bR P (Instr.buildSlice t 0 (parts.map fun x=>(x.1,a.eval x.2))) w F β k from ⟨_,_,_,bc,sz w (.cells us e),hk,.i .z⟩).out
 case call c =>
  obtain ⟨callee,args,argTypes⟩:=c;have old:=Gk (P:=P) (T:=T) (w:=w) (F:=F) (β:=β) (H:=H) (k:=k) (o:=⟨dst,.call ⟨callee,args,argTypes⟩,type,pos,after,guard⟩) (ρ:=ρ) (a:=a) hT hI bx;cases callee with
  |value f=>exact old h
  |invoke r m=>exact old h
  |builtin b =>
   cases b
   case append =>
    simp only [mq] at h;simp only [execOp]
    have lA:∀i,i<(args.toList.map ρ).length→Rd w F β ((args.toList.map ρ).getD i .χ) ((args.map a.eval).getD i undef):=fun i hi=>by
     simp at hi;have:=bx args[i] (by simp [qX,oU]);simpa [aY,hi] using this
    split at h
    ·rename_i t t' s x e1 e2
     have HX:argTypes=#[t,t']:=by rw [←Array.toArray_toList (xs:=argTypes),e1]
     have hl:args.size=2:=by have:=congrArg List.length e2;simpa using this
     rw [e2] at lA;have h0:=lA 0 (by simp);have h1:=lA 1 (by simp)
     have ea:args.map a.eval=#[(args.map a.eval).getD 0 undef,(args.map a.eval).getD 1 undef]:=by
      apply Array.ext
      ·simp [hl]
      ·intro i h1 h2
       have:i=0∨i=1:=by simp at h2;omega
       rcases this with rfl|rfl<;>simp [hl]
     have e:(do let d ←resolve a.eval { callee:=.builtin .append,args:=args,argTypes:=argTypes } type;invoke d.target d.args:Sem Next)=builtin .append argTypes type (args.map fun|.const _=>true|_=>false) (args.map a.eval):=rfl;rw [e,ea,HX];exact (ac7 (ty:=type) hT hI (by simpa using h0) (by simpa using h1) h).out
    ·cases h
   all_goals exact old h
 all_goals exact Gk (P:=P) (T:=T) (H:=H) (k:=k) hT hI bx h
def Rd.zo {d:Nat} (hd:β d=undef) (aj:∀i,i≠d→aw i=β i) {x:AV} {u:Value} (h:Rd w F β x u):Rd w F aw x u:=by
 have ne:∀{i:Nat} {v:Value},β i=v→v≠undef→i≠d:=fun h hv e=>hv (by rw [←h,e,hd]);induction h with
 |i h=>exact .i h
 |χ=>exact .χ
 |b h=>exact .b ((aj _ (ne h (by simp [undef]))).trans h)
 |o h=>exact .o ((aj _ (ne h (by simp [undef]))).trans h)
 |e h=>exact .e ((aj _ (ne h (by simp [undef]))).trans h)
 |w h hd ha=>exact .w ((aj _ (ne h (by simp [undef]))).trans h) hd ha
 |m h=>exact .m ((aj _ (ne h (by simp [undef]))).trans h)
 |a hs eF h ih=>exact .a hs eF ih
 |t hs h ih=>exact .t hs ih
 |c hs dL h h' ih A2=>exact .c hs dL ih A2
def Ra {d i:Nat} {c:Chunk} (hd:β d=undef) (aj:∀i,i≠d→aw i=β i) (hi:i≠d) (h:c.holds w F β i):c.holds w F aw i:=by
 cases c with
 |box cells =>
  obtain ⟨b,cs,e,hb,hh,hs,h1,hr⟩:=h;exact ⟨b,cs,e,(aj i hi).trans hb,hh,hs,h1,fun j hj=>(hr j hj).zo hd aj⟩
 |own E k rows =>
  unfold Chunk.holds at *;rw [aj i hi];exact h
 |mp ag rows =>
  unfold Chunk.holds at *;rw [aj i hi];exact h
 |si s pos =>
  unfold Chunk.holds at *;rw [aj i hi];exact h
 |lp l e R L =>
  obtain ⟨fn,tmps,D,hb,hh,hn,hr⟩:=h;exact ⟨fn,tmps,D,(aj i hi).trans hb,hh,hn,fun p hp=>(hr p hp).zo hd aj⟩
def Inv.sub {H':Hp} (h:Inv w F β H) (rK:∀x,x∈H'→x∈H) (hk:(H'.map (·.1)).Nodup):Inv w F β H' :=
 ⟨h.bW,fun id c hm=>h.holds id c (rK _ hm),hk,fun b ⟨id,c,hm,hb⟩=>h.apart b ⟨id,c,rK _ hm,hb⟩,fun id c A1 c' b h1 h2=>h.dR id c A1 c' b (rK _ h1) (rK _ h2),h.eN⟩
def Ext.xm {w0:World} {F0:Nat→Prop} {nt:Nat→Value} {nr:ai} {H':Hp} (h:Ext w0 F0 nt nr w F β ⟨aM,H⟩) (bu:∀x,x∈H'↔x∈H) (hk:(H'.map (·.1)).Nodup):Ext w0 F0 nt nr w F β ⟨aM,H'⟩ where
 os:=h.os
 tape:=h.tape
 output:=h.output
 size:=h.size
 block:=h.block
 mono:=h.mono
 new:=h.new
 owned:=fun b ⟨id,c,hm,hb⟩=>h.owned b ⟨id,c,(bu _).1 hm,hb⟩
 keep:=fun _ _ _=>.χ
 inv:=h.inv.sub (fun x hx=>(bu x).1 hx) hk
 fH:=h.fH
def Yy {d:Nat} {cells:List AV} {us:Array Value} {e:TypeId} {f:Nat→AV} (nN:d<1000) (hI:Inv w F β H) (hd:β d=undef) (kQ:∀c,(d,c)∉H) (hs:us.size=cells.length) (h1:∀i,i<cells.length→(us.getD i undef).oneCell'=true)
  (hr:∀β,∀i,i<cells.length→Rd (w.alloc (.cells us e)) F β (cells.getD i .χ) (us.getD i undef)) :
  Ext w F β ⟨f,H⟩ (w.alloc (.cells us e)) F (fun i=>if i=d then .pointer (some ⟨w.heap.size,0,none⟩) else β i) ⟨f,(d,.box cells)::H⟩:=by
 have aj:∀i,i≠d→(fun i=>if i=d then OL (some ⟨w.heap.size,0,none⟩) else β i) i=β i:=fun i hi=>if_neg hi;have aW:∀b,b<w.heap.size→(w.alloc (.cells us e)).heap[b]?=w.heap[b]?:=fun b hb=>_root_.Go.heap_alloc_old w _ hb;have ha:fy F w (w.alloc (.cells us e)):=fun b hb=>aW b (hI.bW b hb);have aS:∀{i c},(i,c)∈H→i≠d:=fun hm e=>kQ _ (e▸hm)
 have cY:∀b,br (fun i=>if i=d then OL (some ⟨w.heap.size,0,none⟩) else β i) ((d,.box cells)::H) b→b=w.heap.size∨br β H b:=by
  rintro b ⟨i,c,hm,hb⟩
  rcases bp.1 hm with hm|hm
  ·cases hm;simp [bF] at hb;exact .inl hb.symm
  ·simp only [if_neg (aS hm)] at hb;exact .inr ⟨i,c,hm,hb⟩
 refine ⟨rfl,⟨rfl,fun _=>(by first|exact bm _|exact Nat.le_succ _)⟩,rfl,by simp,fun b hb _=>aW b hb,fun _ h=>h,fun _ h=>.inl h,fun b hb=>(cY b hb).elim (fun h=>.inl (by omega)) .inr,fun t u h=>(h.frame ha fun _ h=>h).zo hd aj,?_,fun i hi=>aj i (by omega)⟩;refine ⟨fun b hb=>by have:=hI.bW b hb;simp;omega,fun i c hm=>?_,?_,fun b ho hF=>?_,?_,hI.eN.at ha⟩
 ·rcases bp.1 hm with hm|hm
  ·cases hm;exact ⟨w.heap.size,us,e,by simp,heap_alloc_new w _,hs,h1,hr _⟩
  ·exact Ra hd aj (aS hm) (nQ ha (fun _ h=>h) (fun b hb=>aW b (hI.fj ⟨i,c,hm,hb⟩)) (hI.holds i c hm))
 ·simp only [eT,gK];refine ⟨fun hm=>?_,hI.keys⟩;obtain ⟨x,hx,jX⟩:=cV.1 hm;exact kQ x.2 (by rw [←jX];exact hx)
 ·rcases cY b ho with rfl|h
  ·have:=hI.bW _ hF;omega
  ·exact hI.apart b h hF
 ·intro i c i' c' b hm bE hb aH
  rcases bp.1 hm with hm|hm<;>rcases bp.1 bE with bE|bE
  ·cases hm;cases bE;rfl
  ·cases hm;simp [bF] at hb;simp only [if_neg (aS bE)] at aH;have:=hI.fj ⟨i',c',bE,aH⟩;omega
  ·cases bE;simp [bF] at aH;simp only [if_neg (aS hm)] at hb;have:=hI.fj ⟨i,c,hm,hb⟩;omega
  ·simp only [if_neg (aS hm)] at hb;simp only [if_neg (aS bE)] at aH;exact hI.dR i c i' c' b hm bE hb aH
def sv (P:Program) (T:TT) (all:Array Oper) (H:Hp) (fe:Nat→AV) (o:Oper):Prop :=
 ∃d,o.dst=some d∧match o.guard with
 |none=>mq P T o (ev fe) H fun r=>r=fe d
 |some (j,want)=>∃g,(all[j]?).bind (·.dst)=some g ∧
   ((fe g=.v (.bool want)∧mq P T o (ev fe) H fun r=>r=fe d)∨(fe g=.v (.bool (!want))∧fe d=.v undef)∨((∃vs,fe g=.v (.tuple vs))∧fe d=.v undef))
def uB (all:Array Oper):List Oper→Prop
 |[]=>True
 |o::r=>(∃d,o.dst=some d∧∀o',o'∈r→o'.dst≠some d)∧(∀t,t∈o.looksAt all→∀o',o'∈o::r→o'.dst≠some t)∧uB all r
def GG {f:Nat→AV} {d:Nat} {x:AV} (h:f d=x):dF f d x=f:=by
 funext t;unfold dF;cases hb:aG t d with
 |true=>rw [cA hb,cond_true,h]
 |false=>rfl
def Ny (f:Nat→AV) (d:Nat) (x:AV):dF f d x d=x:=by simp [dF]
def Nz {f:Nat→AV} {d t:Nat} {x:AV} (h:t≠d):dF f d x t=f t:=by
 unfold dF;cases hb:aG t d with
 |true=>exact absurd (cA hb) h
 |false=>rfl
def NU {n:Nat} {all:Array Oper} {K:ai→Prop}:∀(l:List Oper) (st:ai),uB all l→pU P T n all l st K →
  ∃fe,(∀t,(∀o,o∈l→o.dst≠some t)→fe t=st.f t)∧K ⟨fe,st.H⟩∧(∀o,o∈l→∀d,o.dst=some d→d<n)∧∀o,o∈l→sv P T all st.H fe o:=by
 intro l;induction l with
 |nil=>intro st _ h;exact ⟨st.f,fun _ _=>rfl,h,fun o ho=>(eI ho).elim,fun o ho=>(eI ho).elim⟩
 |cons o r ih =>
  intro st vA h;obtain ⟨⟨d,hd,oC⟩,aah,aag⟩:=vA;have on:∀x,put n o.dst st x (fun av=>pU P T n all r av K)→∃fe,(∀t,(∀o',o'∈o::r→o'.dst≠some t)→fe t=st.f t)∧K ⟨fe,st.H⟩∧(∀o',o'∈o::r→∀d,o'.dst=some d→d<n)∧(∀o',o'∈r→sv P T all st.H fe o')∧fe d=x ∧
    ∀t,t∈o.looksAt all→fe t=st.f t:=by
   intro x hx;rw [hd,put_eq] at hx;obtain ⟨Ξ,hx⟩:=cond_prop hx
   have Ξ:d<n:=by simpa [fY] using Ξ
   obtain ⟨fe,h1,h2,h3,h4⟩:=ih ⟨dF st.f d x,st.H⟩ aag hx
   have fF:fe d=x:=by rw [h1 d oC];exact Ny _ _ _
   have qB:∀t,(∀o',o'∈o::r→o'.dst≠some t)→fe t=st.f t:=fun t ht=>by
    rw [h1 t fun o' aD=>ht o' (cu _ aD)];exact Nz fun e=>ht o (by simp) (by rw [hd,e])
   refine ⟨fe,qB,h2,fun o' aD d' bz=>?_,h4,fF,fun t ht=>qB t (aah t ht)⟩
   rcases bp.1 aD with rfl|aD
   ·rw [hd] at bz;cases bz;exact Ξ
   ·exact h3 o' aD d' bz
  have ops:∀{fe:Nat→AV},(∀t,t∈o.looksAt all→fe t=st.f t)→∀x,x∈o.op.operands→ev st.f x=ev fe x:=fun ko x hx=>by
   cases x with
   |tmp t =>
    refine (ko t ?_).symm;exact p4 _ (kX.2 ⟨.tmp t,by simpa using hx,rfl⟩)
   |_=>rfl
  unfold pU at h;rw [qm] at h;cases hg:o.guard with
  |none =>
   rw [hg] at h;obtain ⟨x,hs,hp⟩:=h;obtain ⟨fe,h1,h2,h3,h4,h5,h6⟩:=on x hp;refine ⟨fe,h1,h2,h3,fun o' aD=>?_⟩
   rcases bp.1 aD with rfl|aD
   ·refine ⟨d,hd,?_⟩;rw [hg,h5];exact Uz (ops h6) hs
   ·exact h4 o' aD
  |some jw =>
   obtain ⟨j,want⟩:=jw;rw [hg] at h;simp only at h;split at h
   ·rename_i g dZ;obtain ⟨_,h⟩:=cond_prop h
    have ry:g∈o.looksAt all:=by
     refine zA _ ?_;rw [hg];simp [dZ]
    split at h
    ·rename_i b hb;by_cases iR:b=want
     ·have:=h.y iR;rw [GG (by rw [hb,iR])] at this;obtain ⟨x,hs,hp⟩:=this;obtain ⟨fe,h1,h2,h3,h4,h5,h6⟩:=on x hp;refine ⟨fe,h1,h2,h3,fun o' aD=>?_⟩
      rcases bp.1 aD with rfl|aD
      ·refine ⟨d,hd,?_⟩;rw [hg,h5];exact ⟨g,dZ,.inl ⟨by rw [h6 g ry,hb,iR],Uz (ops h6) hs⟩⟩
      ·exact h4 o' aD
     ·have oA:b=!want:=by cases b<;>cases want<;>first|rfl|exact absurd rfl iR
      have:=h.n oA;rw [GG (by rw [hb,oA])] at this;obtain ⟨fe,h1,h2,h3,h4,h5,h6⟩:=on _ this;refine ⟨fe,h1,h2,h3,fun o' aD=>?_⟩
      rcases bp.1 aD with rfl|aD
      ·refine ⟨d,hd,?_⟩;rw [hg];exact ⟨g,dZ,.inr (.inl ⟨by rw [h6 g ry,hb,oA],h5⟩)⟩
      ·exact h4 o' aD
    ·rename_i vs hb;obtain ⟨fe,h1,h2,h3,h4,h5,h6⟩:=on _ h;refine ⟨fe,h1,h2,h3,fun o' aD=>?_⟩
     rcases bp.1 aD with rfl|aD
     ·refine ⟨d,hd,?_⟩;rw [hg];exact ⟨g,dZ,.inr (.inr ⟨⟨vs,by rw [h6 g ry,hb]⟩,h5⟩)⟩
     ·exact h4 o' aD
    ·cases h
   ·cases h
end
end
section
open Go.RowKit
variable [M:bU] [G:dC] [MD:p8] [CH:lR] [R:dW]
def bitsOf (ops:Array Oper):Array Nat:=Region.before ops
def ib (ops:Array Oper) (i j:Nat):Bool:=((bitsOf ops).getD i 0).testBit j
def uI (i:Nat) (o:Oper):Bool:=o.after.all fun e=>!Region.binds .any e||decide (e.on<i)
def q_ (ops:Array Oper) (i:Nat) (o:Oper):Bool:=(fM ops.size).all fun j=>!ib ops i j||o.after.any fun e=>i_ .any e&&(e.on==j||ib ops e.on j)
def sD (m:Nat) (ops:Array Oper) (i:Nat) (o:Oper):Bool :=
 match o.dst with
 |none=>false
 |some d=>ej d 1000&&(fM m).all fun j=>i==j||((ops[j]?).bind (·.dst)) != some d
def pN (o:Oper):Bool:=match dD o with|some (d,none)=>tG d|_=>false
def xj (m:Nat) (ops:Array Oper) (i:Nat) (o:Oper):Bool :=
 vR o||(o.looksAt ops).all fun t=>(fM m).all fun j=>match ops[j]? with
  |none=>true
  |some o'=>(o'.dst != some t)||(ib ops i j&&((dD o').isNone||pN o'))
def xk (ops:Array Oper) (i:Nat):Bool:=(fM i).all fun j=>ib ops i j
def zY (m:Nat) (ops:Array Oper):Bool :=
 Nat.ble m ops.size&&((fM ops.size).all fun i=>match ops[i]? with
  |none=>true
  |some o=>uI i o&&(q_ ops i o&&(bif ej i m then sD m ops i o&&xj m ops i o else xk ops i)))
structure Plan0 (ops:Array Oper) (m:Nat) (dep:Nat→Nat→Prop):Prop where
 le:m≤ops.size
 dec:∀i o,ops[i]?=some o→∀e,e∈o.after→i_ .any e=true→e.on<i
 step:∀i o j,ops[i]?=some o→j<ops.size→dep i j→∃e,e∈o.after∧i_ .any e=true∧(e.on=j∨dep e.on j)
 dst:∀i o,i<m→ops[i]?=some o→∃d,o.dst=some d
 one:∀i o j o' d,i<m→j<m→ops[i]?=some o→ops[j]?=some o'→o.dst=some d→o'.dst=some d→i=j
 low:∀i o d,i<m→ops[i]?=some o→o.dst=some d→d<1000
 look:∀i o t j o',i<m→j<m→ops[i]?=some o→vR o=false→t∈o.looksAt ops→ops[j]?=some o'→o'.dst=some t→dep i j∧(dD o'=none∨pN o'=true)
structure OV (ops:Array Oper) (m:Nat) (dep:Nat→Nat→Prop):Prop where
 one:∀i o j o' d,i<m→j<m→ops[i]?=some o→ops[j]?=some o'→o.dst=some d→o'.dst=some d→i=j
 look:∀i o t j o',i<m→j<m→ops[i]?=some o→vR o=false→t∈o.looksAt ops→ops[j]?=some o'→o'.dst=some t→dep i j∧(dD o'=none∨pN o'=true)
def Plan0.s {ops:Array Oper} {m:Nat} {dep:Nat→Nat→Prop} (hp:Plan0 ops m dep):OV ops m dep:=⟨hp.one,hp.look⟩
structure Ww (ops:Array Oper) (m:Nat) (dep:Nat→Nat→Prop):Prop extends Plan0 ops m dep where
 tail:∀i j,m≤i→i<ops.size→j<i→dep i j
def SZ {m:Nat} {ops:Array Oper} (hle:m≤ops.size) (get:∀i o,ops[i]?=some o→uI i o=true∧q_ ops i o=true∧(i<m→sD m ops i o=true∧xj m ops i o=true)):Plan0 ops m fun i j=>ib ops i j=true:=by
 refine ⟨hle,fun i o ho e he hb=>?_,fun i o j ho hj hd=>?_,fun i o hi ho=>?_,fun i o j o' d hi hj ho aD hd bz=>?_,fun i o d hi ho hd=>?_,fun i o t j o' hi hj ho aW ht aD bz=>?_⟩
 ·have:=(Array.all_eq_true'.1 (get i o ho).1) e he;simpa [hb] using this
 ·have h1:=(get i o ho).2.1;simp only [q_,dJ,kY] at h1;have h1:=h1 j hj;simp only [hd,Bool.not_true,Bool.false_or] at h1;obtain ⟨e,he,hb⟩:=Array.any_eq_true'.1 h1;simp only [bM,qT,beq_iff_eq] at hb;exact ⟨e,he,hb.1,hb.2⟩
 ·have h1:=((get i o ho).2.2 hi).1;unfold sD at h1;cases hd:o.dst with
  |none=>rw [hd] at h1;exact absurd h1 (by simp)
  |some d=>exact ⟨d,rfl⟩
 ·have h1:=((get i o ho).2.2 hi).1;unfold sD at h1;rw [hd] at h1;simp only [bM,dJ,kY] at h1;have:=h1.2 j hj;rw [aD] at this;simpa [bz] using this
 ·have h1:=((get i o ho).2.2 hi).1;unfold sD at h1;rw [hd] at h1;simp only [bM] at h1;simpa using h1.1
 ·have h1:=((get i o ho).2.2 hi).2;simp only [xj,aW,Bool.false_or,dJ,kY] at h1;have:=h1 t ht j hj;rw [aD] at this;simpa [bz] using this
def acu {m:Nat} {ops:Array Oper} (h:zY m ops=true):Ww ops m fun i j=>ib ops i j=true:=by
 simp only [zY,bM,dJ,kY] at h;obtain ⟨hle,h⟩:=h
 have hle:m≤ops.size:=by simpa using hle
 have get:∀i o,ops[i]?=some o→uI i o=true∧q_ ops i o=true∧(i<m→sD m ops i o=true∧xj m ops i o=true)∧(m≤i→xk ops i=true):=fun i o ho=>by
  have h1:=h i (j4.1 ho).1;rw [ho] at h1;simp only [bM] at h1;refine ⟨h1.1,h1.2.1,fun hi=>?_,fun hi=>?_⟩
  ·have hb:ej i m=true:=by simpa [fY] using hi
   have:=h1.2.2;rw [hb] at this;simpa using this
  ·have hb:ej i m=false:=by
    cases hb:ej i m
    ·rfl
    ·have:i<m:=by simpa [fY] using hb
     omega
   have:=h1.2.2;rw [hb] at this;simpa using this
 refine ⟨SZ hle fun i o ho=>⟨(get i o ho).1,(get i o ho).2.1,(get i o ho).2.2.1⟩,fun i j hi hn hj=>?_⟩
 ·have h1:=(get i _ (fL hn)).2.2.2 hi;simp only [xk,dJ,kY] at h1;exact h1 j hj
def Dk (m:Nat) (late:List Nat) (ops:Array Oper):Bool :=
 ej m ops.size&&((fM ops.size).all fun i=>match ops[i]? with
  |none=>true
  |some o=>uI i o&&(q_ ops i o&&(bif ej i m then (sD m ops i o&&xj m ops i o)&&(ib ops m i||((dD o).isNone&&late.elem i)) else (bif ej m i then xk ops i else o.dst.isNone&&(o.guard.isNone&&((o.looksAt ops).all fun t=>(fM m).all fun j=>match ops[j]? with
   |none=>true
   |some o'=>(o'.dst != some t)||ib ops m j))))))
structure Wx (ops:Array Oper) (m:Nat) (late:List Nat) (dep:Nat→Nat→Prop):Prop extends Plan0 ops m dep where
 lt:m<ops.size
 tail:∀i j,m<i→i<ops.size→j<i→dep i j
 late:∀i o,i<m→ops[i]?=some o→dep m i∨(dD o=none∧i∈late)
 store:∀o,ops[m]?=some o→o.dst=none∧o.guard=none
 abt:∀o t j o',ops[m]?=some o→t∈o.looksAt ops→j<m→ops[j]?=some o'→o'.dst=some t→dep m j
def acs {m:Nat} {late:List Nat} {ops:Array Oper} (h:Dk m late ops=true):Wx ops m late fun i j=>ib ops i j=true:=by
 simp only [Dk,bM,dJ,kY] at h;obtain ⟨Ξ,h⟩:=h
 have Ξ:m<ops.size:=by simpa [fY] using Ξ
 have get:∀i o,ops[i]?=some o→uI i o=true∧q_ ops i o=true∧(i<m→sD m ops i o=true∧xj m ops i o=true∧(ib ops m i=true∨(dD o=none∧i∈late)))∧(m<i→xk ops i=true)∧(i=m→o.dst=none∧o.guard=none∧∀t,t∈o.looksAt ops→∀j,j<m→(match ops[j]? with|none=>true|some o'=>(o'.dst != some t)||ib ops m j)=true):=fun i o ho=>by
  have h1:=h i (j4.1 ho).1;rw [ho] at h1;simp only [bM] at h1;obtain ⟨h1,h2,h3⟩:=h1;refine ⟨h1,h2,fun hi=>?_,fun hi=>?_,fun hi=>?_⟩
  ·have hb:ej i m=true:=by simpa [fY] using hi
   rw [hb] at h3;simp only [cond_true,bM,qT] at h3;refine ⟨h3.1.1,h3.1.2,h3.2.imp (fun h=>h) fun h=>by simpa using h⟩
  ·have hb:ej i m=false:=by
    cases hb:ej i m
    ·rfl
    ·have:i<m:=by simpa [fY] using hb
     omega
   have kP:ej m i=true:=by simpa [fY] using hi
   rw [hb,kP] at h3;simpa using h3
  ·subst hi
   have hb:ej i i=false:=by
    cases hb:ej i i
    ·rfl
    ·have:i<i:=by simpa [fY] using hb
     omega
   rw [hb] at h3;simpa [hb] using h3
 refine ⟨SZ (by omega) fun i o ho=>⟨(get i o ho).1,(get i o ho).2.1,fun hi=>⟨((get i o ho).2.2.1 hi).1,((get i o ho).2.2.1 hi).2.1⟩⟩,Ξ,fun i j hi hn hj=>?_,fun i o hi ho=>((get i o ho).2.2.1 hi).2.2,fun o ho=>⟨((get m o ho).2.2.2.2 rfl).1,((get m o ho).2.2.2.2 rfl).2.1⟩,fun o t j o' ho ht hj aD hd=>by
  have:=((get m o ho).2.2.2.2 rfl).2.2 t ht j hj;rw [aD] at this
  simpa [hd] using this⟩
 have h1:=(get i _ (fL hn)).2.2.2.1 hi;simp only [xk,dJ,kY] at h1;exact h1 j hj
section
variable {P:Program} {T:TT} {C:Ctx} {ds:List Deferred}
def UA {o:Oper} {ρ:Operand→AV} {H:Hp} {k:AV→Prop} (h:mq P T o ρ H k):∀c,o.op≠.defer c:=fun c e=>by
 unfold mq at h;rw [e] at h;exact UD h c e
def Ys {d:Nat} (nN:d<1000) {st:ai} {w:World} {F:Nat→Prop} {β:Nat→Value} {g:Nat→Value} (hf:∀t,Rd w F β (st.f t) (g t)) (he:XM C ds w F β st.H) :
  let aw:=fun i=>if i=d then undef else β i
  (∀t,Rd w F aw (er 2 d (st.f t)) (g t))∧XM C ds w F aw (gu d st.H):=by
 intro aw;have go:Ext w F β ⟨aM,st.H⟩ w F aw ⟨aM,gu d st.H⟩→_:=fun h=>he.trans h;have aj:∀i,i≠d→aw i=β i:=fun i hi=>if_neg hi;have hI:Inv w F β st.H:=he.inv
 have cY:∀b,br aw (gu d st.H) b→br β st.H b:=by
  rintro b ⟨i,c,hm,hb⟩;obtain ⟨hi,c',bE,_⟩:=gF hm;exact ⟨i,c',bE,by rw [←aj i hi];exact hb⟩
 refine ⟨fun t=>qh aj 2 (hf t),go ⟨rfl,iP.refl _,rfl,bm _,fun _ _ _=>rfl,fun _ h=>h,fun _ h=>.inl h,fun b hb=>.inr (cY b hb),fun _ _ _=>.χ,?_,fun i hi=>aj i (by omega)⟩⟩;refine ⟨hI.bW,fun i c hm=>?_,z6 hI.keys,fun b hb=>hI.apart b (cY b hb),fun i c i' c' b hm bE hb aH=>?_,hI.eN⟩
 ·obtain ⟨hi,c',bE,rfl⟩:=gF hm;exact D7 hi aj (hI.holds i c' bE)
 ·obtain ⟨hi,c2,h2,_⟩:=gF hm;obtain ⟨bj,xi,gQ,_⟩:=gF bE;rw [aj i hi] at hb;rw [aj i' bj] at aH;exact hI.dR i c2 i' xi b h2 gQ hb aH
def Ih {w:World} {F:Nat→Prop} {g:Nat→Value}:∀(al:List (Nat×Option Nat)) (_:∀d t,(d,t)∈al→d<1000) {st:ai} {β:Nat→Value},(∀t,Rd w F β (st.f t) (g t))→XM C ds w F β st.H →
  ∃aw,(∀t,Rd w F aw ((iQ al st).f t) (g t))∧XM C ds w F aw (iQ al st).H ∧
   (∀d,β d=undef∨(∃t,(d,t)∈al)→aw d=undef)∧(∀d,(∀c,(d,c)∉st.H)∨(∃t,(d,t)∈al)→∀c,(d,c)∉(iQ al st).H)
 |[],_,st,β,hf,he=>by
  refine ⟨β,hf,he,fun d h=>?_,fun d h=>?_⟩
  ·rcases h with h|⟨t,ht⟩
   ·exact h
   ·exact (eI ht).elim
  ·rcases h with h|⟨t,ht⟩
   ·exact h
   ·exact (eI ht).elim
 |(d,t)::r,nN,st,β,hf,he=>by
  obtain ⟨h1,h2⟩:=Ys (d:=d) (nN d t (by simp)) hf he;obtain ⟨aw,h3,h4,h5,h6⟩:=Ih r (fun d t h=>nN d t (by simp [h])) (st:=⟨fun t=>er 2 d (st.f t),gu d st.H⟩) h1 h2;refine ⟨aw,h3,h4,fun e he=>h5 e ?_,fun e he=>h6 e ?_⟩
  ·by_cases xO:e=d
   ·left;simp [xO]
   ·rcases he with he|⟨t',yk⟩
    ·left;simp [xO,he]
    ·rcases bp.1 yk with h|h
     ·cases h;exact absurd rfl xO
     ·exact .inr ⟨t',h⟩
  ·by_cases xO:e=d
   ·left;intro c hc;exact (gF hc).1 xO
   ·rcases he with he|⟨t',yk⟩
    ·left;intro c hc
     obtain ⟨_,c',fc,_⟩:=gF hc;exact he c' fc
    ·rcases bp.1 yk with h|h
     ·cases h;exact absurd rfl xO
     ·exact .inr ⟨t',h⟩
def HE {n:Nat} {K:ai→Prop}:∀(al:List (Nat×Option Nat)) (st:ai),o_ T n al st K→(al.map (·.1)).Nodup→(∀d t,(d,t)∈al→∀c,(d,c)∉st.H)→(st.H.map (·.1)).Nodup →
  ∃fA HA,K ⟨fA,HA⟩∧(∀t,(∀ty,(t,ty)∉al)→fA t=st.f t)∧(∀d t,(d,t)∈al→d<n∧∃c,j9 T d t c∧fA d=tq d c)∧(HA.map (·.1)).Nodup ∧
   ∀x,x∈HA↔x∈st.H∨∃d t c,(d,t)∈al∧j9 T d t c∧x=(d,c)
 |[],st,h,_,_,hk=>⟨st.f,st.H,h,fun _ _=>rfl,fun d t ht=>(eI ht).elim,hk,fun x=>⟨.inl,fun h=>h.elim id fun ⟨_,_,_,h,_⟩=>(eI h).elim⟩⟩
 |(d,t)::r,st,h,hn,eu,hk=>by
  obtain ⟨c0,mW,Ξ,h⟩:∃c,j9 T d t c∧d<n∧o_ T n r ⟨dF st.f d (tq d c),(d,c)::st.H⟩ K:=by
   cases t with
   |some t =>
    simp only [o_] at h;split at h
    ·rename_i z hz;obtain ⟨hb,h⟩:=cond_prop h;simp only [bM] at hb;exact ⟨_,⟨z,hz,hb.1,rfl⟩,by simpa [fY] using hb.2,h⟩
    ·cases h
   |none =>
    simp only [o_] at h;split at h
    ·rename_i c hc;obtain ⟨hb,h⟩:=cond_prop h;exact ⟨c,hc,by simpa [fY] using hb,h⟩
    ·cases h
  simp only [eT,gK] at hn;have oC:∀ty,(d,ty)∉r:=fun ty hm=>hn.1 (cV.2 ⟨_,hm,rfl⟩)
  obtain ⟨fA,HA,h1,h2,h3,h4,h5⟩:=HE r ⟨dF st.f d (tq d c0),(d,c0)::st.H⟩ h hn.2 (fun d' t' hm c hc=>by
   rcases bp.1 hc with hc|hc
   ·cases hc;exact oC _ hm
   ·exact eu d' t' (cu _ hm) c hc) (by
   simp only [eT,gK];refine ⟨fun hm=>?_,hk⟩;obtain ⟨x,hx,jX⟩:=cV.1 hm
   exact eu d t (by simp) x.2 (by rw [←jX];exact hx))
  refine ⟨fA,HA,h1,fun t' yk=>?_,fun d' t' hm=>?_,h4,fun x=>?_⟩
  ·rw [h2 t' fun ty hm=>yk ty (cu _ hm)];exact Nz fun e=>yk t (by rw [e];simp)
  ·rcases bp.1 hm with hm|hm
   ·cases hm;exact ⟨Ξ,c0,mW,by rw [h2 d oC];exact Ny _ _ _⟩
   ·exact h3 d' t' hm
  ·rw [h5 x,bp];constructor
   ·rintro ((rfl|h)|⟨d',t',c',hm,iq,rfl⟩)
    ·exact .inr ⟨d,t,c0,by simp,mW,rfl⟩
    ·exact .inl h
    ·exact .inr ⟨d',t',c',cu _ hm,iq,rfl⟩
   ·rintro (h|⟨d',t',c',hm,iq,rfl⟩)
    ·exact .inl (.inr h)
    ·rcases bp.1 hm with hm|hm
     ·cases hm;rw [iq.uniq mW];exact .inl (.inl rfl)
     ·exact .inr ⟨d',t',c',hm,iq,rfl⟩
def count_set:∀(l:List Bool) (i:Nat),l[i]?=some false→(l.set i true).count false+1=l.count false
 |[],i,h=>by simp at h
 |b::r,0,h=>by simp at h;subst h;simp
 |b::r,i+1,h=>by
  have:=count_set r i (by simpa using h);cases b<;>simp<;>omega
def steady (m:Nat) (ops:Array Oper):List Oper:=(ops.toList.take m).filter fun o=>(dD o).isNone
def dQ (m:Nat) (ops:Array Oper):List (Nat×Option Nat):=(ops.toList.take m).filterMap dD
def nk {ops:Array Oper} {m:Nat} {o:Oper}:o∈ops.toList.take m↔∃i,i<m∧ops[i]?=some o:=by
 constructor
 ·intro h;obtain ⟨i,hi,rfl⟩:=zB.1 h;simp only [da,kE] at hi;refine ⟨i,by omega,?_⟩
  have:i<ops.size:=by omega
  simp [CQ,this]
 ·rintro ⟨i,hi,ho⟩;obtain ⟨Ξ,rfl⟩:=j4.1 ho;rw [zB];refine ⟨i,by simp only [da,kE];omega,by simp [CQ]⟩
def jL {o:Oper} {d:Nat} {t:Option Nat} (h:dD o=some (d,t)):o.dst=some d∧o.guard=none:=by
 unfold dD at h;split at h
 ·cases h;exact ⟨by assumption,by assumption⟩
 ·rename_i d' _ _ _;cases hb:MD.md.elem d' with
  |true=>rw [hb] at h;cases h;exact ⟨by assumption,by assumption⟩
  |false=>rw [hb] at h;cases h
 ·cases h
def WB {o:Oper} {d t:Nat} (h:dD o=some (d,some t)):o.op=.alloc t:=by
 unfold dD at h;split at h
 ·cases h;assumption
 ·rename_i d' _ _ _;cases hb:MD.md.elem d' with
  |true=>rw [hb] at h;cases h
  |false=>rw [hb] at h;cases h
 ·cases h
def Kf {o:Oper} (h:dD o=none):vR o=false:=by unfold vR;rw [h]
def RV {o:Oper} {d:Nat} (h:dD o=some (d,none)):vR o=false:=by unfold vR;rw [h]
structure mO (C:Ctx) (CO:Nat→Option Nat→Chunk→Prop) (ops:Array Oper) (m:Nat) (fA:Nat→AV) (Hm:Hp) (listed:Array Bool) (a:Act) (w:World):Prop where
 ex:∃F β H,a.tmps.size=C.n∧True∧XM C a.defers w F β H ∧
  (∀x,x∈H↔x∈Hm∨∃i o d t c,i<m∧listed.getD i false=true∧ops[i]?=some o∧dD o=some (d,t)∧CO d t c∧x=(d,c)) ∧
  (∀i o d t,i<m→ops[i]?=some o→dD o=some (d,t)→listed.getD i false=false→β d=undef) ∧
  (∀t,(∀i o,i<m→ops[i]?=some o→o.dst=some t→listed.getD i false=true)→Rd w F β (fA t) (a.tmps.getD t undef))
def eS {listed:Array Bool} {i j:Nat} (hi:i<listed.size):(listed.setIfInBounds i true).getD j false=(if j=i then true else listed.getD j false):=by
 by_cases h:j=i
 ·subst h;simp [hi]
 ·simp [uh (jJ h),h]
def IY {CO:Nat→Option Nat→Chunk→Prop} {ops:Array Oper} {m i n:Nat} {dep:Nat→Nat→Prop} {o:Oper} {fA fe:Nat→AV} {Hm:Hp} {listed:Array Bool} {a:Act} {w:World} {Q:Exit→Act→World→Prop} {N:Act→World→Prop}
  (hT:bB P T) (hn:C.n=n) (hp:OV ops m dep) (aZ:listed.size=ops.size) (hi:i<m) (ho:ops[i]?=some o) (aW:dD o=none) (dr:listed.getD i false=false)
  (Ja:∀j,j<m→dep i j→listed.getD j false=true) (ko:∀t,(∀j o' ty,j<m→ops[j]?=some o'→dD o'=some (t,ty)→pN o'=true)→fA t=fe t)
  (IS:(Hm.map (·.1)).Nodup) (bK:sv P T ops Hm fe o) (Ξ:∀d,o.dst=some d→d<n) (h:mO C CO ops m fA Hm listed a w)
  (hN:∀a w,mO C CO ops m fA Hm (listed.setIfInBounds i true) a w→N a w):wpOpIn (fa C.ro) 0 P ops Q i N a w:=by
 obtain ⟨F,β,H,hs,hd,he,bu,vJ,hf⟩:=h.ex;obtain ⟨d,eK,bK⟩:=bK
 have uV:d<a.tmps.size:=by rw [hs,hn];exact Ξ d eK
 have eh:i<listed.size:=by rw [aZ];exact (j4.1 ho).1
 have look:∀t,t∈o.looksAt ops→Rd w F β (fe t) (a.tmps.getD t undef):=fun t ht=>by
  have bw:∀j o' ty,j<m→ops[j]?=some o'→dD o'=some (t,ty)→pN o'=true:=fun j o' ty hj aD iE=>by
   have:=(hp.look i o t j o' hi hj ho (Kf aW) ht aD (jL iE).1).2
   rcases this with this|this
   ·rw [this] at iE;cases iE
   ·exact this
  rw [←ko t bw];exact hf t fun j o' hj aD bz=>Ja j hj (hp.look i o t j o' hi hj ho (Kf aW) ht aD bz).1
 have pM:∀x,x∈o.op.operands→Rd w F β (ev fe x) (a.eval x):=fun x hx=>by
  cases x with
  |tmp t=>exact look t (p4 _ (kX.2 ⟨.tmp t,by simpa using hx,rfl⟩))
  |const v=>exact ml _ _ _ _
  |global g=>exact .χ
  |func g=>exact .i (.c rfl rfl (fun i hi=>absurd hi (by simp)) (fun i hi=>absurd hi (by simp)))
 have hI:Inv w F β Hm:=he.inv.sub (fun x hx=>(bu x).2 (.inl hx)) IS
 have ZM:∀j o' ty,j<m→ops[j]?=some o'→dD o'≠some (d,ty):=fun j o' ty hj aD iE=>by
  have:=hp.one i o j o' d hi hj ho aD eK (jL iE).1;subst this;rw [ho] at aD;cases aD;rw [aW] at iE;cases iE
 have done:∀(v:Value) (w':World),Below w.heap.size w w'→Rd w' (eU F w w') β (fe d) v→mO C CO ops m fA Hm (listed.setIfInBounds i true) (a.put (some d) v) w':=fun v w' hb hv=>by
  have hx:=sL (st:=⟨aM,H⟩) he.inv hb;refine ⟨eU F w w',β,H,by simpa [hJ] using hs,hd,he.trans hx,fun x=>?_,fun j o' d' t hj aD iE hl=>?_,fun t ht=>?_⟩
  ·rw [bu x];constructor
   ·rintro (h|⟨j,o',d',t,z,h1,h2,h3,h4,h5,h6⟩)
    ·exact .inl h
    ·exact .inr ⟨j,o',d',t,z,h1,by rw [eS eh];split<;>first|rfl|exact h2,h3,h4,h5,h6⟩
   ·rintro (h|⟨j,o',d',t,z,h1,h2,h3,h4,h5,h6⟩)
    ·exact .inl h
    ·refine .inr ⟨j,o',d',t,z,h1,?_,h3,h4,h5,h6⟩;rw [eS eh] at h2;split at h2
     ·rename_i e;subst e;rw [ho] at h3;cases h3;rw [aW] at h4;cases h4
     ·exact h2
  ·rw [eS eh] at hl;split at hl
   ·cases hl
   ·exact vJ j o' d' t hj aD iE hl
  ·by_cases nS:t=d
   ·subst nS;rw [ko t fun j o' ty hj aD iE=>absurd iE (ZM j o' ty hj aD)];simpa [hJ,uV] using hv
   ·have h1:=(hf t fun j o' hj aD bz=>by
     have:=ht j o' hj aD bz;rw [eS eh] at this;split at this
     ·rename_i e;subst e;rw [ho] at aD;cases aD;rw [eK] at bz;cases bz;exact absurd rfl nS
     ·exact this).later hb he.inv.bW
    simpa [hJ,uh (jJ nS)] using h1
 have run:(mq P T o (ev fe) Hm fun r=>r=fe d)→o.wpIn (fa C.ro) 0 P a w N Q:=fun hs=>by
  have cX:=UA hs
  rcases UB hT hI pM hs with ⟨v,w',bc,hb,r,rfl,hv⟩|⟨g,vs,bc,hc⟩
  ·refine Oper.jC cX bc ?_;rw [uv,eK];exact hN _ _ (done v w' hb hv)
  ·refine Oper.jC cX bc ?_;rw [xc];refine ⟨fun h=>(by cases h),sC (hc.mono ?_)⟩;rintro e w' ⟨v,rfl,hb,r,rfl,hv⟩;rw [eK];exact hN _ _ (done v w' hb hv)
 have skip:fe d=.v undef→N (a.put o.dst undef) w:=fun h0=>by
  rw [eK];exact hN _ _ (done undef w (Below.refl _ _) (by rw [h0];exact .i (.v (.inr rfl))))
 unfold wpOpIn;simp only [ho];cases hg:o.guard with
 |none =>
  rw [hg] at bK
  have hw:dA o (yielded ops a.tmps)=true:=by simp [dA,hg]
  rw [if_pos hw];exact run bK
 |some jw =>
  obtain ⟨j,want⟩:=jw;rw [hg] at bK;obtain ⟨g,dZ,bK⟩:=bK
  have ry:g∈o.looksAt ops:=by
   refine zA _ ?_;rw [hg];simp [dZ]
  have nL:=look g ry
  have hy:∀v,v≠undef→a.tmps.getD g undef=v→yielded ops a.tmps j=match v with|.bool b=>some b|_=>none:=by
   intro v aS hv
   have h2:a.tmps[g]?=some v:=by
    by_cases hl:g<a.tmps.size
    ·rw [←hv];simp [hl]
    ·exact absurd (by rw [←hv];simp [hl]) aS
   unfold yielded;rw [dZ,aX,h2];cases v<;>rfl
  rcases bK with ⟨h1,h2⟩|⟨h1,h2⟩|⟨⟨vs,h1⟩,h2⟩
  ·rw [h1] at nL;have gy:=hy _ (by simp [undef]) nL.bA
   have hw:dA o (yielded ops a.tmps)=true:=by simp [dA,hg,gy]
   rw [if_pos hw];exact run h2
  ·rw [h1] at nL;have gy:=hy _ (by simp [undef]) nL.bA
   have hw:¬dA o (yielded ops a.tmps)=true:=by simp [dA,hg,gy]
   rw [if_neg hw];exact ⟨fun _ _=>trivial,skip h2⟩
  ·rw [h1] at nL;have hv:=nL.bA
   have gy:yielded ops a.tmps j=none:=by
    unfold yielded;rw [dZ,aX];by_cases hl:g<a.tmps.size
    ·have h3:a.tmps[g]?=some (.tuple vs):=by rw [←hv];simp [hl]
     rw [h3]
    ·simp [VK (Nat.le_of_not_lt hl)]
   have hw:¬dA o (yielded ops a.tmps)=true:=by simp [dA,hg,gy]
   rw [if_neg hw];exact ⟨fun _ _=>trivial,skip h2⟩
def WY {o:Oper} {q:Call} {x:Operand} {g:FuncId} {fs cs ys:List AV} {f:Nat→AV} {a:Act} {w:World} {F:Nat→Prop} {β:Nat→Value} {post:Value→World→Prop} (oG:o.op=.call q) (hc:q.callee=.value x)
  (hf:ev f x=.c (.func g) fs cs) (hle:h_ (fs++(q.args.toList.map (ev f)++cs)) ys) (hE:oj P g) (pM:∀x,x∈o.op.operands→Rd w F β (ev f x) (a.eval x))
  (h:∀vs:Array Value,vs.size=ys.length→(∀i,i<ys.length→Rd w F β (ys.getD i .χ) (vs.getD i undef))→Calls P g vs w fun e w'=>∃v,e=.returned v∧post v w') :
  ∃vs,(execOp a.eval o).run P w=.ok (.enter g vs) w∧Calls P g vs w fun e w'=>∃v,e=.returned v∧post v w':=by
 obtain ⟨dst,op,type,pos,after,guard⟩:=o;simp only at oG;subst oG;obtain ⟨callee,args,argTypes⟩:=q;simp only at hc;subst hc;have hx:=pM x (by simp [qX,oU]);rw [hf] at hx;obtain ⟨us,ws,sS,hs,dL,hu,hw⟩:=hx.lT
 have lA:∀i,i<(args.toList.map (ev f)).length→Rd w F β ((args.toList.map (ev f)).getD i .χ) ((args.map a.eval).getD i undef):=fun i hi=>by
  simp at hi;have:=pM args[i] (by simp [qX,oU]);simpa [aY,hi] using this
 have hj:=Db hs (vs:=args.map a.eval) (by simp) dL hu lA hw;obtain ⟨hl,hz⟩:=hle.spec;obtain ⟨fn,c,dj,dg,uR⟩:=hE;refine ⟨us++args.map a.eval++ws,?_,h _ ?_ fun i hi=>hz i (by rw [hl];exact hi) _ _ _ _ (hj i (by rw [hl];exact hi))⟩
 ·have pF : ¬ fn.name = "runtime.NumGoroutine" := by simpa using dg
  simp only [execOp];have e:(do let d ←resolve a.eval { callee:=.value x,args:=args,argTypes:=argTypes } type;invoke d.target d.args:Sem Next)=(do let d ←kW (a.eval x) (args.map a.eval);invoke d.target d.args):=rfl;rw [e,sS];simp [kW,invoke,callFunc,dj,pF,uR]
 ·rw [←hl];simp [hs,dL]
def Qh {ops:Array Oper} {m i n:Nat} {dep:Nat→Nat→Prop} {o:Oper} {d t:Nat} {z:TI} {fA:Nat→AV} {Hm:Hp} {listed:Array Bool} {a:Act} {w:World} {Q:Exit→Act→World→Prop} {N:Act→World→Prop}
  (hT:bB P T) (hn:C.n=n) (hp:Plan0 ops m dep) (aZ:listed.size=ops.size) (hi:i<m) (ho:ops[i]?=some o) (aW:dD o=some (d,some t)) (dr:listed.getD i false=false)
  (hz:T t=some z) (JC:iL (bQ z.zero)=true) (fF:fA d=.b d 0) (Ξ:d<n) (eu:∀c,(d,c)∉Hm) (h:mO C (j9 T) ops m fA Hm listed a w)
  (hN:∀a w,mO C (j9 T) ops m fA Hm (listed.setIfInBounds i true) a w→N a w):wpOpIn (fa C.ro) 0 P ops Q i N a w:=by
 obtain ⟨F,β,H,hs,hd,he,bu,vJ,hf⟩:=h.ex;obtain ⟨eK,dZ⟩:=jL aW;have oG:=WB aW
 have uV:d<a.tmps.size:=by rw [hs,hn];exact Ξ
 have eh:i<listed.size:=by rw [aZ];exact (j4.1 ho).1
 have A0:=vJ i o d t hi ho aW dr
 have kQ:∀c,(d,c)∉H:=fun c hc=>by
  rcases (bu _).1 hc with h|⟨j,o',d',t',z',h1,h2,h3,h4,h5,h6⟩
  ·exact eu c h
  ·cases h6;have:=hp.one i o j o' d hi h1 ho h3 eK (jL h4).1;subst this;rw [dr] at h2;cases h2
 have J':=(hT _ _ hz).qL w
 have bc:(execOp a.eval o).run P w=.ok (.value (.pointer (some ⟨w.heap.size,0,none⟩))) (w.alloc (.cells z.zero.cells t)):=by
  unfold execOp;rw [oG];simp [Instr.alloc,J',newVar,newRow]
 have hr:=fun aw:Nat→Value=>nD (ml (w.alloc (.cells z.zero.cells t)) F z.zero aw) JC;have hx:=Yy (f:=aM) (e:=t) (hp.low i o d hi ho eK) he.inv A0 kQ (hr β).1 (fun j hj=>((hr β).2 j hj).1) (fun aw j hj=>((hr aw).2 j hj).2);have ir:∀i,i≠d→(fun i=>if i=d then OL (some ⟨w.heap.size,0,none⟩) else β i) i=β i:=fun i hi=>if_neg hi;have ha:fy F w (w.alloc (.cells z.zero.cells t)):=Below.agree (sz w _) he.inv.bW
 have hw:dA o (yielded ops a.tmps)=true:=by simp [dA,dZ]
 unfold wpOpIn;simp only [ho];rw [if_pos hw];refine Oper.jC (fun c e=>by rw [oG] at e;cases e) bc ?_;rw [uv,eK];refine hN _ _ ⟨F,_,(d,.box (bn (bQ z.zero)))::H,by simpa [hJ] using hs,hd,he.trans hx,fun x=>?_,fun j o' d' t' hj aD iE hl=>?_,fun q hq=>?_⟩
 ·rw [bp,bu x];constructor
  ·rintro (rfl|h|⟨j,o',d',t',z',h1,h2,h3,h4,h5,h6⟩)
   ·exact .inr ⟨i,o,d,some t,_,hi,by rw [eS eh,if_pos rfl],ho,aW,⟨z,hz,JC,rfl⟩,rfl⟩
   ·exact .inl h
   ·exact .inr ⟨j,o',d',t',z',h1,by rw [eS eh];split<;>first|rfl|exact h2,h3,h4,h5,h6⟩
  ·rintro (h|⟨j,o',d',t',z',h1,h2,h3,h4,h5,h6⟩)
   ·exact .inr (.inl h)
   ·rw [eS eh] at h2;split at h2
    ·rename_i e;subst e;rw [ho] at h3;cases h3;rw [aW] at h4;cases h4;rw [h5.uniq ⟨z,hz,JC,rfl⟩] at h6;exact .inl h6
    ·exact .inr (.inr ⟨j,o',d',t',z',h1,h2,h3,h4,h5,h6⟩)
 ·rw [eS eh] at hl;split at hl
  ·cases hl
  ·have aS:d'≠d:=fun e=>by
    subst e;have:=hp.one i o j o' d' hi hj ho aD eK (jL iE).1;rename_i vn;exact vn this.symm
   show (if d'=d then _ else β d')=undef;rw [if_neg aS];exact vJ j o' d' t' hj aD iE hl
 ·by_cases pJ:q=d
  ·subst pJ;rw [fF]
   have:(a.put (some q) (.pointer (some ⟨w.heap.size,0,none⟩))).tmps.getD q undef=.pointer (some ⟨w.heap.size,0,none⟩):=by simp [hJ,uV]
   rw [this];exact .b (by simp)
  ·have h1:=(hf q fun j o' hj aD bz=>by
    have:=hq j o' hj aD bz;rw [eS eh] at this;split at this
    ·rename_i e;subst e;rw [ho] at aD;cases aD;rw [eK] at bz;cases bz;exact absurd rfl pJ
    ·exact this)
   have h2:=(h1.frame ha fun _ h=>h).zo A0 ir;simpa [hJ,uh (jJ pJ)] using h2
def Yz {w w':World} {F F':Nat→Prop} {β:Nat→Value} {H:Hp} {d:Nat} {c:Chunk} {v:Value} {f:Nat→AV} (nN:d<1000) (hI:Inv w F β H) (hd:β d=undef) (kQ:∀c,(d,c)∉H) (hb:Below w.heap.size w w') (kR:∀b,F b→F' b) (ri:∀b,F' b→eU F w w' b)
  (eu:∀b,bF v=some b→w.heap.size≤b∧¬F' b) (hc:c.holds w' F' (fun i=>if i=d then v else β i) d) :
  Ext w F β ⟨f,H⟩ w' F' (fun i=>if i=d then v else β i) ⟨f,(d,c)::H⟩:=by
 have aj:∀i,i≠d→(fun i=>if i=d then v else β i) i=β i:=fun i hi=>if_neg hi;have ha:fy F w w':=Below.agree hb hI.bW
 have cY:∀b,br (fun i=>if i=d then v else β i) ((d,c)::H) b→(w.heap.size≤b∧¬F' b)∨br β H b:=by
  rintro b ⟨i,c',hm,aH⟩
  rcases bp.1 hm with hm|hm
  ·cases hm;simp only [if_true] at aH;exact .inl (eu b aH)
  ·have hi:i≠d:=fun e=>kQ c' (e▸hm);simp only [if_neg hi] at aH;exact .inr ⟨i,c',hm,aH⟩
 refine ⟨hb.os,hb.tape,hb.output,hb.size,fun b h _=>hb.block b h,kR,fun b h=>(ri b h).elim .inl fun h=>.inr (.inl h.1),fun b h=>(cY b h).elim (fun h=>.inl h.1) .inr,fun t u h=>(h.frame ha kR).zo hd aj,?_,fun i hi=>aj i (by omega)⟩;refine ⟨fun b h=>(ri b h).elim (fun h=>mJ (hI.bW b h) hb.size) fun h=>h.2,?_,?_,fun b ho hF=>?_,?_,hI.eN.frame ha kR⟩
 ·intro i c' hm
  rcases bp.1 hm with hm|hm
  ·cases hm;exact hc
  ·have hi:i≠d:=fun e=>kQ c' (e▸hm);exact Ra hd aj hi (nQ ha kR (fun b aH=>hb.block b (hI.fj ⟨i,c',hm,aH⟩)) (hI.holds i c' hm))
 ·show ((d::(H.map (·.1)))).Nodup;rw [gK];refine ⟨fun hm=>?_,hI.keys⟩;obtain ⟨x,hx,jX⟩:=cV.1 hm;obtain ⟨i,c'⟩:=x;exact kQ c' (by rw [←jX];exact hx)
 ·rcases cY b ho with h|h
  ·exact h.2 hF
  ·rcases ri b hF with h1|h1
   ·exact hI.apart b h h1
   ·exact absurd (hI.fj h) (kZ.2 h1.1)
 ·have key:∀i c' b,(i,c')∈H→bF (β i)=some b→bF v=some b→False:=fun i c' b hm cy hv =>
   absurd (hI.fj ⟨i,c',hm,cy⟩) (kZ.2 (eu b hv).1)
  intro i c1 i' oq b hm bE cy aH
  rcases bp.1 hm with hm|hm<;>rcases bp.1 bE with bE|bE
  ·cases hm;cases bE;rfl
  ·cases hm;have hi:i'≠d:=fun e=>kQ oq (e▸bE);simp only [if_true] at cy;simp only [if_neg hi] at aH;exact (key i' oq b bE aH cy).elim
  ·cases bE;have hi:i≠d:=fun e=>kQ c1 (e▸hm);simp only [if_true] at aH;simp only [if_neg hi] at cy;exact (key i c1 b hm cy aH).elim
  ·have hi:i≠d:=fun e=>kQ c1 (e▸hm);have bj:i'≠d:=fun e=>kQ oq (e▸bE);simp only [if_neg hi] at cy;simp only [if_neg bj] at aH;exact hI.dR i c1 i' oq b hm bE cy aH
def Qi {ops:Array Oper} {m i n:Nat} {dep:Nat→Nat→Prop} {o:Oper} {d:Nat} {c:Chunk} {fA fe:Nat→AV} {Hm:Hp} {listed:Array Bool} {a:Act} {w:World} {Q:Exit→Act→World→Prop} {N:Act→World→Prop}
  (hn:C.n=n) (hp:Plan0 ops m dep) (aZ:listed.size=ops.size) (hi:i<m) (ho:ops[i]?=some o) (aW:dD o=some (d,none)) (dr:listed.getD i false=false)
  (Ja:∀j,j<m→dep i j→listed.getD j false=true) (ko:∀t,(∀j o' ty,j<m→ops[j]?=some o'→dD o'=some (t,ty)→pN o'=true)→fA t=fe t)
  (hc:j9 T d none c) (bK:C8 P fe o c) (fF:fA d=tq d c) (Ξ:d<n) (eu:∀c,(d,c)∉Hm) (h:mO C (j9 T) ops m fA Hm listed a w)
  (hN:∀a w,mO C (j9 T) ops m fA Hm (listed.setIfInBounds i true) a w→N a w):wpOpIn (fa C.ro) 0 P ops Q i N a w:=by
 obtain ⟨F,β,H,hs,hd,he,bu,vJ,hf⟩:=h.ex;obtain ⟨eK,dZ⟩:=jL aW
 have uV:d<a.tmps.size:=by rw [hs,hn];exact Ξ
 have eh:i<listed.size:=by rw [aZ];exact (j4.1 ho).1
 have A0:=vJ i o d none hi ho aW dr
 have look:∀t,t∈o.looksAt ops→Rd w F β (fe t) (a.tmps.getD t undef):=fun t ht=>by
  have bw:∀j o' ty,j<m→ops[j]?=some o'→dD o'=some (t,ty)→pN o'=true:=fun j o' ty hj aD iE=>by
   have:=(hp.look i o t j o' hi hj ho (RV aW) ht aD (jL iE).1).2
   rcases this with this|this
   ·rw [this] at iE;cases iE
   ·exact this
  rw [←ko t bw];exact hf t fun j o' hj aD bz=>Ja j hj (hp.look i o t j o' hi hj ho (RV aW) ht aD bz).1
 have pM:∀x,x∈o.op.operands→Rd w F β (ev fe x) (a.eval x):=fun x hx=>by
  cases x with
  |tmp t=>exact look t (p4 _ (kX.2 ⟨.tmp t,by simpa using hx,rfl⟩))
  |const v=>exact ml _ _ _ _
  |global g=>exact .χ
  |func g=>exact .i (.c rfl rfl (fun i hi=>absurd hi (by simp)) (fun i hi=>absurd hi (by simp)))
 have kQ:∀c,(d,c)∉H:=fun c hc=>by
  rcases (bu _).1 hc with h|⟨j,o',d',t',z',h1,h2,h3,h4,h5,h6⟩
  ·exact eu c h
  ·cases h6;have:=hp.one i o j o' d hi h1 ho h3 eK (jL h4).1;subst this;rw [dr] at h2;cases h2
 obtain ⟨q,x,g,fs,cs,ys,oG,Zz,sS,hM,hle⟩:∃q x g fs cs ys,o.op=.call q∧q.callee=.value x∧ev fe x=.c (.func g) fs cs∧Hl P g ys c∧h_ (fs++(q.args.toList.map (ev fe)++cs)) ys:=by
  unfold C8 at bK;split at bK
  ·rename_i q oG;split at bK
   ·rename_i x hx;split at bK
    ·rename_i g fs cs sS;obtain ⟨ys,h1,h2⟩:=bK;exact ⟨q,x,g,fs,cs,ys,oG,hx,sS,h1,h2⟩
    ·exact bK.elim
   ·exact bK.elim
  ·exact bK.elim
 have hw:dA o (yielded ops a.tmps)=true:=by simp [dA,dZ]
 obtain ⟨vs,bc,ZB⟩:=WY (P:=P) oG Zz sS hle hM.1 pM fun vs iI eP=>hM.2 w F β vs he.inv.nil iI eP;unfold wpOpIn;simp only [ho];rw [if_pos hw];refine Oper.jC (fun c e=>by rw [oG] at e;cases e) bc ?_;rw [xc];refine ⟨fun h=>(by cases h),sC (ZB.mono ?_)⟩;rintro e w' ⟨v,rfl,hb,F',kR,ri,hv,Z1⟩;rw [eK];have hx:=Yz (f:=aM) (hp.low i o d hi ho eK) he.inv A0 kQ hb kR ri Z1 (hv (fun i=>if i=d then v else β i) d (if_pos rfl)).1;have ir:∀i,i≠d→(fun i=>if i=d then v else β i) i=β i:=fun i hi=>if_neg hi;have ha:fy F w w':=Below.agree hb he.inv.bW;refine hN _ _ ⟨F',_,(d,c)::H,by simpa [hJ] using hs,hd,he.trans hx,fun x=>?_,fun j o' d' t' hj aD iE hl=>?_,fun q hq=>?_⟩
 ·rw [bp,bu x];constructor
  ·rintro (rfl|h|⟨j,o',d',t',z',h1,h2,h3,h4,h5,h6⟩)
   ·exact .inr ⟨i,o,d,none,_,hi,by rw [eS eh,if_pos rfl],ho,aW,hc,rfl⟩
   ·exact .inl h
   ·exact .inr ⟨j,o',d',t',z',h1,by rw [eS eh];split<;>first|rfl|exact h2,h3,h4,h5,h6⟩
  ·rintro (h|⟨j,o',d',t',z',h1,h2,h3,h4,h5,h6⟩)
   ·exact .inr (.inl h)
   ·rw [eS eh] at h2;split at h2
    ·rename_i e;subst e;rw [ho] at h3;cases h3;rw [aW] at h4;cases h4;rw [h5.uniq hc] at h6;exact .inl h6
    ·exact .inr (.inr ⟨j,o',d',t',z',h1,h2,h3,h4,h5,h6⟩)
 ·rw [eS eh] at hl;split at hl
  ·cases hl
  ·have aS:d'≠d:=fun e=>by
    subst e;have:=hp.one i o j o' d' hi hj ho aD eK (jL iE).1;rename_i vn;exact vn this.symm
   show (if d'=d then _ else β d')=undef;rw [if_neg aS];exact vJ j o' d' t' hj aD iE hl
 ·by_cases pJ:q=d
  ·subst pJ;rw [fF]
   have:(a.put (some q) v).tmps.getD q undef=v:=by simp [hJ,uV]
   rw [this];exact (hv (fun i=>if i=q then v else β i) q (if_pos rfl)).2
  ·have h1:=(hf q fun j o' hj aD bz=>by
    have:=hq j o' hj aD bz;rw [eS eh] at this;split at this
    ·rename_i e;subst e;rw [ho] at aD;cases aD;rw [eK] at bz;cases bz;exact absurd rfl pJ
    ·exact this)
   have h2:=(h1.frame ha kR).zo A0 ir;simpa [hJ,uh (jJ pJ)] using h2
end
section
variable {P:Program} {T:TT} {C:Ctx}
def Plan0.lt {ops:Array Oper} {m:Nat} {dep:Nat→Nat→Prop} (hp:Plan0 ops m dep):∀i j,i<ops.size→j<ops.size→dep i j→j<i:=by
 intro i;induction i using qV with
 |_ i ih =>
  intro j hi hj hd;obtain ⟨e,he,hb,h⟩:=hp.step i _ j (fL hi) hj hd;have Ξ:=hp.dec i _ (fL hi) e he hb
  rcases h with h|h
  ·omega
  ·have:=ih e.on Ξ j (by omega) hj h;omega
def drop_cons {ops:Array Oper} {k:Nat} (h:k<ops.size):ops.toList.drop k=ops[k]::ops.toList.drop (k+1):=by
 rw [pZ (by simpa using h)];simp
def Kv {ops:Array Oper} {m k:Nat} {o:Oper} (h:o∈(ops.toList.take m).drop k):∃i,k≤i∧i<m∧ops[i]?=some o:=by
 obtain ⟨i,hi,rfl⟩:=zB.1 h;simp only [List.length_drop,da,kE] at hi;refine ⟨k+i,by omega,by omega,?_⟩
 have:k+i<ops.size:=by omega
 simp [CQ,this]
def Plan0.Si {ops:Array Oper} {m:Nat} {dep:Nat→Nat→Prop} (hp:Plan0 ops m dep):∀q k,q+k=m→uB ops (((ops.toList.take m).drop k).filter fun o=>(dD o).isNone):=by
 intro q;induction q with
 |zero =>
  intro k hk;have:(ops.toList.take m).drop k=[]:=kH (by simp;omega);rw [this];exact True.intro
 |succ q ih =>
  intro k hk
  have xV:k<m:=by omega
  have gG:k<ops.size:=by have:=hp.le;omega
  have I7:(ops.toList.take m).drop k=ops[k]::(ops.toList.take m).drop (k+1):=by
   rw [pZ (by simp;omega)];simp [CQ]
  rw [I7,List.filter_cons];have ho:ops[k]?=some ops[k]:=fL gG;split
  ·rename_i aW
   have aW:dD ops[k]=none:=by simpa using aW
   obtain ⟨d,hd⟩:=hp.dst k _ xV ho;refine ⟨⟨d,hd,fun o' aD bz=>?_⟩,fun t ht o' aD bz=>?_,ih (k+1) (by omega)⟩
   ·obtain ⟨i,Az,pB,vj⟩:=Kv (dU.1 aD).1;have:=hp.one k _ i o' d xV pB ho vj hd bz;omega
   ·have:∃i,k≤i∧i<m∧ops[i]?=some o':=by
     rcases bp.1 aD with rfl|h
     ·exact ⟨k,bm _,xV,ho⟩
     ·obtain ⟨i,Az,pB,vj⟩:=Kv (dU.1 h).1;exact ⟨i,by omega,pB,vj⟩
    obtain ⟨i,Az,pB,vj⟩:=this;have gv:=(hp.look k _ t i o' xV pB ho (Kf aW) ht vj bz).1;have:=hp.lt k i gG (by have:=hp.le;omega) gv;omega
  ·exact ih (k+1) (by omega)
def O_ {ops:Array Oper} {m:Nat} {dep:Nat→Nat→Prop} (hp:Plan0 ops m dep):∀q k,q+k=m→((((ops.toList.take m).drop k).filterMap dD).map (·.1)).Nodup:=by
 intro q;induction q with
 |zero =>
  intro k hk;have:(ops.toList.take m).drop k=[]:=kH (by simp;omega);rw [this];simp
 |succ q ih =>
  intro k hk
  have xV:k<m:=by omega
  have gG:k<ops.size:=by have:=hp.le;omega
  have I7:(ops.toList.take m).drop k=ops[k]::(ops.toList.take m).drop (k+1):=by
   rw [pZ (by simp;omega)];simp [CQ]
  have ho:ops[k]?=some ops[k]:=fL gG;rw [I7,List.filterMap_cons];split
  ·exact ih (k+1) (by omega)
  ·rename_i x hx;simp only [eT,gK];refine ⟨fun hm=>?_,ih (k+1) (by omega)⟩;obtain ⟨y,hy,RJ⟩:=cV.1 hm;obtain ⟨o',aD,iE⟩:=kX.1 hy;obtain ⟨i,Az,pB,vj⟩:=Kv aD;obtain ⟨d,t⟩:=x;obtain ⟨d',t'⟩:=y;simp only at RJ;subst RJ;have:=hp.one k _ i o' d' xV pB ho vj (jL hx).1 (jL iE).1;omega
def zu {n:Nat} {ops:Array Oper} {st:ai} {K:ai→Prop} (h:ix P T n ops (ops.toList.drop ops.size) st K):K st:=by
 have:ops.toList.drop ops.size=[]:=kH (by simp);rw [this] at h;exact h
def XM.xm {ds:List Deferred} {w:World} {F:Nat→Prop} {β:Nat→Value} {H H':Hp} (h:XM C ds w F β H) (bu:∀x,x∈H'↔x∈H) (hk:(H'.map (·.1)).Nodup):XM C ds w F β H' :=
 h.trans ((Ext.refl (st:=⟨aM,H⟩) h.inv).xm bu hk)
def LJ {st:ai} {a:Act} {w:World} (h:Rel C st a w):Rel C st a w.drew:=by
 obtain ⟨F,β,hs,hd,hf,he⟩:=h;have hb:Below w.heap.size w w.drew:=(Below.refl _ _).drew;exact ⟨eU F w w.drew,β,hs,hd,fun t=>(hf t).later hb he.inv.bW,he.trans (sL (st:=⟨aM,st.H⟩) he.inv hb)⟩
def Xz {id m n:Nat} {ops:Array Oper} {st:ai} {K:ai→Prop} (hT:bB P T) (hm:P.follows .mixedOrders=true) (oB:zY m ops=true)
  (h:pU P T n ops (steady m ops) ⟨preB (dQ m ops) (iQ (dQ m ops) st).f,(iQ (dQ m ops) st).H⟩ fun st1=>qF P st1.f (ops.toList.take m)∧o_ T n (dQ m ops) st1 fun st2=>ix P T n ops (ops.toList.drop m) st2 K):C3 P n id ops st K:=by
 refine ⟨fun C hn a w cN=>?_⟩;have hp:=acu oB;have hr:=LJ cN;refine wpIn_region_any hm ?_;show wpAnyIn (fa C.ro) 0 P .any ops _ ops.size (mw ops.size false) a w.drew;generalize w.drew=w at hr;clear cN;obtain ⟨F,β,hs,hd,hf,he⟩:=hr
 obtain ⟨aw,py,fP,vI,DV⟩:=Ih (dQ m ops) (fun d t h=>by
  obtain ⟨o,Jw,ho⟩:=kX.1 h;obtain ⟨i,hi,aD⟩:=nk.1 Jw
  exact hp.low i o d hi aD (jL ho).1) hf he
 have vA:uB ops (steady m ops):=by simpa [steady] using hp.Si m 0 (by omega)
 obtain ⟨fe,ko,hb,Ξ,bK⟩:=NU (steady m ops) _ vA h
 have cX:((dQ m ops).map (·.1)).Nodup:=by simpa [dQ] using O_ hp.toPlan0 m 0 (by omega)
 have eu:∀d t,(d,t)∈dQ m ops→∀c,(d,c)∉(iQ (dQ m ops) st).H:=fun d t hm=>DV d (.inr ⟨t,hm⟩);obtain ⟨fA,HA,hK,IP,Ag,Ah,DI⟩:=HE (dQ m ops) ⟨fe,(iQ (dQ m ops) st).H⟩ hb.2 cX eu fP.inv.keys;generalize Y8:(iQ (dQ m ops) st).H=Hm at *
 have jm:∀{d t},(d,t)∈dQ m ops↔∃i o,i<m∧ops[i]?=some o∧dD o=some (d,t):=by
  intro d t;constructor
  ·intro h;obtain ⟨o,ho,aW⟩:=kX.1 h;obtain ⟨i,hi,ho⟩:=nk.1 ho;exact ⟨i,o,hi,ho,aW⟩
  ·rintro ⟨i,o,hi,ho,aW⟩;exact kX.2 ⟨o,nk.2 ⟨i,hi,ho⟩,aW⟩
 have yq:∀{i o},i<m→ops[i]?=some o→dD o=none→o∈steady m ops:=fun hi ho aW=>dU.2 ⟨nk.2 ⟨_,hi,ho⟩,by simp [aW]⟩
 have Aj:∀t,(∀j o' ty,j<m→ops[j]?=some o'→dD o'≠some (t,ty))→fA t=fe t:=fun t ht=>IP t fun ty hm=>by
  obtain ⟨j,o',hj,aD,aW⟩:=jm.1 hm;exact ht j o' ty hj aD aW
 have Ai:∀t,(∀j o' ty,j<m→ops[j]?=some o'→dD o'=some (t,ty)→pN o'=true)→fA t=fe t:=fun t ht=>by
  by_cases hex:∃j o' ty,j<m∧ops[j]?=some o'∧dD o'=some (t,ty)
  ·obtain ⟨j,o',ty,hj,aD,aW⟩:=hex;have gH:=ht j o' ty hj aD aW;unfold pN at gH;rw [aW] at gH;cases ty with
   |some y=>cases gH
   |none =>
    have hm:=jm.2 ⟨j,o',hj,aD,aW⟩;obtain ⟨_,c,hc,Jg⟩:=Ag t none hm
    have Jh:fe t=.o t:=by
     rw [ko t fun o ho=>by
      obtain ⟨i,hi,AF⟩:=nk.1 (dU.1 ho).1;intro bz;have:=hp.one i o j o' t hi hj AF aD bz (jL aW).1;subst this;rw [AF] at aD;cases aD;have:=(dU.1 ho).2
      simp [aW] at this]
     exact EZ gH cX hm
    have cY:tq t c=.o t:=by
     have fc:tr CH.ch t=some c:=hc;have vE:tG t=true:=gH;unfold tG at vE;rw [fc] at vE
     cases c<;>first|rfl|cases vE
    rw [Jg,cY,Jh]
  ·exact Aj t fun j o' ty hj aD aW=>hex ⟨j,o',ty,hj,aD,aW⟩
 have lt:∀{i o},ops[i]?=some o→i<ops.size:=fun h=>(j4.1 h).1;have key:∀fuel (listed:Array Bool) (a:Act) (w:World),listed.size=ops.size→listed.toList.count false≤fuel →
   (∀i o,listed.getD i false=true→ops[i]?=some o→∀e,e∈o.after→i_ .any e=true→listed.getD e.on false=true) →
   (((∀i,m≤i→listed.getD i false=false)∧mO C (j9 T) ops m fA Hm listed a w) ∨
    ∃k,m≤k∧k≤ops.size∧(∀i,i<ops.size→(listed.getD i false=true↔i<k))∧∃st,Rel C st a w∧ix P T n ops (ops.toList.drop k) st K) →
   wpAnyIn (fa C.ro) 0 P .any ops (fun e a' w'=>∃av,Rel C av a' w'∧(match e with|.normal=>K av|_=>False)) fuel listed a w:=by
  intro fuel;induction fuel with
  |zero =>
   intro listed a w aZ sR dH pG
   have dv:∀i,i<ops.size→listed.getD i false=true:=fun i hi=>by
    have h0:listed.toList.count false=0:=by omega
    have bj:i<listed.size:=by omega
    have bu:listed[i]∈listed.toList:=by simp
    cases hb:listed[i] with
    |true=>simp [bj,hb]
    |false=>rw [hb] at bu;exact absurd bu (V3.1 h0)
   have pK:kK .any ops listed=[]:=by
    apply w7.2;intro i hi;obtain ⟨h1,o,ho,_⟩:=mem_ready.1 hi;have:=dv i (lt ho)
    have bj:i<listed.size:=by have:=lt ho;omega
    simp [bj] at h1 this;rw [h1] at this;cases this
   refine ⟨pK,?_⟩
   rcases pG with ⟨eC,iS⟩|⟨k,fh,gg,ma,av,il,hw⟩
   ·have jj:m=ops.size:=by
     rcases eY m ops.size with h|h
     ·have:=eC m (bm _);rw [dv m h] at this;cases this
     ·have:=hp.le;omega
    obtain ⟨F1,cT,H1,g1,g2,g3,g4,g5,g6⟩:=iS.ex;refine ⟨⟨fA,HA⟩,⟨F1,cT,g1,g2,fun t=>g6 t fun i o hi _ _=>dv i (by omega),g3.xm (fun x=>?_) Ah⟩,?_⟩
    ·rw [g4 x,DI x];constructor
     ·rintro (h|⟨d,t,z,h1,h2,h3⟩)
      ·exact .inl h
      ·obtain ⟨i,o,hi,ho,aW⟩:=jm.1 h1;exact .inr ⟨i,o,d,t,z,hi,dv i (by omega),ho,aW,h2,h3⟩
     ·rintro (h|⟨i,o,d,t,z,hi,_,ho,aW,h2,h3⟩)
      ·exact .inl h
      ·exact .inr ⟨d,t,z,jm.2 ⟨i,o,hi,ho,aW⟩,h2,h3⟩
    ·rw [jj] at hK;exact zu hK
   ·have gG:k=ops.size:=by
     rcases eY k ops.size with h|h
     ·have:=(ma k h).1 (dv k h);omega
     ·omega
    refine ⟨av,il,?_⟩;rw [gG] at hw;exact zu hw
  |succ fuel ih =>
   intro listed a w aZ sR dH pG
   have uS:∀i,i<ops.size→(∀o,ops[i]?=some o→∀e,e∈o.after→i_ .any e=true→listed.getD e.on false=true)→∀j,j<ops.size→ib ops i j=true→listed.getD j false=true:=by
    intro i;induction i using qV with
    |_ i pL =>
     intro hi fg j hj gv;obtain ⟨e,cH,cy,h⟩:=hp.step i _ j (fL hi) hj gv;have hl:=fg _ (fL hi) e cH cy;have qy:=hp.dec i _ (fL hi) e cH cy
     rcases h with h|h
     ·rw [←h];exact hl
     ·exact pL e.on qy (by omega) (fun o ho=>dH e.on o hl ho) j hj h
   have pR:∀{i o},i∈kK .any ops listed→ops[i]?=some o→listed.getD i false=false∧∀e,e∈o.after→i_ .any e=true→listed.getD e.on false=true:=fun hi ho=>by
    obtain ⟨h1,o',aD,h2⟩:=mem_ready.1 hi;rw [ho] at aD;cases aD;have:=lt ho;refine ⟨?_,h2⟩;have bj:=lt ho;rw [←aZ] at bj;simpa [bj] using h1
   have isReady:∀{i o},ops[i]?=some o→listed.getD i false=false→(∀j,j<i→listed.getD j false=true)→i∈kK .any ops listed:=fun ho h1 h2=>by
    refine mem_ready.2 ⟨?_,_,ho,fun e he hb=>h2 _ (hp.dec _ _ ho e he hb)⟩;have bj:=lt ho;rw [←aZ] at bj;simpa [bj] using h1
   have next:∀i,i<ops.size→listed.getD i false=false→(listed.setIfInBounds i true).size=ops.size∧(listed.setIfInBounds i true).toList.count false≤fuel:=fun i hi h1=>by
    refine ⟨by simpa using aZ,?_⟩
    have bj:i<listed.size:=by omega
    have h2:listed.toList[i]?=some false:=by
     have:listed[i]=false:=by simpa [bj] using h1
     simp [bj,this]
    have:=count_set listed.toList i h2;simp only [VO];omega
   have qe:∀i o,ops[i]?=some o→(∀e,e∈o.after→i_ .any e=true→listed.getD e.on false=true) →
     ∀j o',(listed.setIfInBounds i true).getD j false=true→ops[j]?=some o'→∀e,e∈o'.after→i_ .any e=true→(listed.setIfInBounds i true).getD e.on false=true:=fun i o ho fg j o' hj aD e cH cy=>by
    have bj:i<listed.size:=by rw [aZ];exact lt ho
    rw [eS bj] at hj ⊢;split
    ·rfl
    ·split at hj
     ·rename_i e2;subst e2;rw [ho] at aD;cases aD;exact fg e cH cy
     ·exact dH j o' hj aD e cH cy
   have second:(∃k,m≤k∧k≤ops.size∧(∀i,i<ops.size→(listed.getD i false=true↔i<k))∧∃st,Rel C st a w∧ix P T n ops (ops.toList.drop k) st K) →
     wpAnyIn (fa C.ro) 0 P .any ops (fun e a' w'=>∃av,Rel C av a' w'∧(match e with|.normal=>K av|_=>False)) (fuel+1) listed a w:=by
    rintro ⟨k,fh,gg,ma,av,il,hw⟩
    rcases eY k ops.size with gG|gG
    ·have vB:ops[k]?=some ops[k]:=fL gG
     have vv:listed.getD k false=false:=by
      cases hb:listed.getD k false
      ·rfl
      ·have:=(ma k gG).1 hb;omega
     have jT:=isReady vB vv fun j hj=>(ma j (by omega)).2 hj;refine ⟨fun h0=>(by rw [h0] at jT;cases jT),fun i hi=>?_⟩;obtain ⟨_,o,ho,_⟩:=mem_ready.1 hi;obtain ⟨dr,fg⟩:=pR hi ho
     have l9:i=k:=by
      have h1:¬i<k:=fun h=>by rw [(ma i (lt ho)).2 h] at dr;cases dr
      rcases eY k i with h2|h2
      ·have:=uS i (lt ho) (fun o' aD=>by rw [ho] at aD;cases aD;exact fg) k gG (hp.tail i k (by omega) (lt ho) h2);rw [this] at vv;cases vv
      ·omega
     subst l9;rw [drop_cons gG] at hw;rw [ho] at vB;cases vB;obtain ⟨lD,kq⟩:=next i gG dr;refine rW (K:=fun st=>ix P T n ops (ops.toList.drop (i+1)) st K) hT hn ho il (fun st2 a2 w2 na Jp=>?_) hw;refine ih _ a2 w2 lD kq (qe i _ ho fg) (.inr ⟨i+1,by omega,by omega,fun j hj=>?_,st2,na,Jp⟩)
     have bj:i<listed.size:=by rw [aZ];exact gG
     rw [eS bj];split
     ·rename_i e2;subst e2;simp
     ·rw [ma j hj];omega
    ·have dv:∀i,i<ops.size→listed.getD i false=true:=fun i hi=>(ma i hi).2 (by omega)
     have pK:kK .any ops listed=[]:=by
      apply w7.2;intro i hi;obtain ⟨_,o,ho,_⟩:=mem_ready.1 hi;obtain ⟨dr,_⟩:=pR hi ho;rw [dv i (lt ho)] at dr;cases dr
     refine ⟨fun _=>⟨av,il,?_⟩,fun i hi=>by rw [pK] at hi;cases hi⟩
     have:k=ops.size:=by omega
     rw [this] at hw;exact zu hw
   rcases pG with ⟨eC,iS⟩|pG
   ·by_cases qC:∀i,i<m→listed.getD i false=true
    ·refine second ⟨m,bm _,hp.le,fun i hi=>⟨fun h=>?_,fun h=>qC i h⟩,⟨fA,HA⟩,?_,hK⟩
     ·rcases eY i m with h1|h1
      ·exact h1
      ·rw [eC i h1] at h;cases h
     ·obtain ⟨F1,cT,H1,g1,g2,g3,g4,g5,g6⟩:=iS.ex;refine ⟨F1,cT,g1,g2,fun t=>g6 t fun i o hi _ _=>qC i hi,g3.xm (fun x=>?_) Ah⟩;rw [g4 x,DI x];constructor
      ·rintro (h|⟨d,t,z,h1,h2,h3⟩)
       ·exact .inl h
       ·obtain ⟨i,o,hi,ho,aW⟩:=jm.1 h1;exact .inr ⟨i,o,d,t,z,hi,qC i hi,ho,aW,h2,h3⟩
      ·rintro (h|⟨i,o,d,t,z,hi,_,ho,aW,h2,h3⟩)
       ·exact .inl h
       ·exact .inr ⟨d,t,z,jm.2 ⟨i,o,hi,ho,aW⟩,h2,h3⟩
    ·-- Co least ahf is not done
     have hex:∃i,i<m∧listed.getD i false=false∧∀j,j<i→listed.getD j false=true:=by
      have:∃i,i<m∧listed.getD i false=false:=by
       refine uj fun bw=>qC fun i hi=>?_;cases hb:listed.getD i false
       ·exact absurd ⟨i,hi,hb⟩ bw
       ·rfl
      obtain ⟨i,hi,hb⟩:=this;induction i using qV with
      |_ i pL =>
       by_cases dv:∀j,j<i→listed.getD j false=true
       ·exact ⟨i,hi,hb,dv⟩
       ·have:∃j,j<i∧listed.getD j false=false:=by
         refine uj fun bw=>dv fun j hj=>?_;cases hb:listed.getD j false
         ·exact absurd ⟨j,hj,hb⟩ bw
         ·rfl
        obtain ⟨j,hj,Ap⟩:=this;exact pL j hj (by omega) Ap
     obtain ⟨i0,pA,dY,uQ⟩:=hex
     have vh:i0<ops.size:=by have:=hp.le;omega
     have cN:=isReady (fL vh) dY uQ;refine ⟨fun h0=>(by rw [h0] at cN;cases cN),fun i hi=>?_⟩;obtain ⟨_,o,ho,_⟩:=mem_ready.1 hi;obtain ⟨dr,fg⟩:=pR hi ho;have gv:∀j,j<ops.size→ib ops i j=true→listed.getD j false=true:=fun j hj hd=>uS i (lt ho) (fun o' aD=>by rw [ho] at aD;cases aD;exact fg) j hj hd
     have gR:i<m:=by
      rcases eY i m with h|h
      ·exact h
      ·have:=gv i0 vh (hp.tail i i0 h (lt ho) (by omega));rw [this] at dY;cases dY
     obtain ⟨lD,kq⟩:=next i (lt ho) dr
     have cont:∀a w,mO C (j9 T) ops m fA Hm (listed.setIfInBounds i true) a w→wpAnyIn (fa C.ro) 0 P .any ops (fun e a' w'=>∃av,Rel C av a' w'∧(match e with|.normal=>K av|_=>False)) fuel (listed.setIfInBounds i true) a w:=fun a2 w2 hh=>by
      refine ih _ a2 w2 lD kq (qe i o ho fg) (.inl ⟨fun j hj=>?_,hh⟩)
      have bj:i<listed.size:=by rw [aZ];exact lt ho
      rw [eS bj];split
      ·omega
      ·exact eC j hj
     cases aW:dD o with
     |none=>exact IY hT hn hp.toPlan0.s aZ gR ho aW dr (fun j hj hd=>gv j (by have:=hp.le;omega) hd) Ai fP.inv.keys (bK o (yq gR ho aW)) (Ξ o (yq gR ho aW)) iS cont
     |some x =>
      obtain ⟨d,t⟩:=x;obtain ⟨q2,c,uT,q1⟩:=Ag d t (jm.2 ⟨i,o,gR,ho,aW⟩);cases t with
      |some t =>
       obtain ⟨z,q3,q4,rfl⟩:=uT;exact Qh hT hn hp.toPlan0 aZ gR ho aW dr q3 q4 q1 q2 (eu d _ (jm.2 ⟨i,o,gR,ho,aW⟩)) iS cont
      |none =>
       obtain ⟨c',fc,rH⟩:=EG hb.1 (nk.2 ⟨i,gR,ho⟩) aW;obtain rfl:c'=c:=j9.uniq (T:=T) (x:=none) fc uT;exact Qi hn hp.toPlan0 aZ gR ho aW dr (fun j hj hd=>gv j (by have:=hp.le;omega) hd) Ai uT rH q1 q2 (eu d _ (jm.2 ⟨i,o,gR,ho,aW⟩)) iS cont
   ·exact second pG
 have rep:∀i,(mw ops.size false).getD i false=false:=fun i=>by
  simp only [j3,VM];split<;>rfl
 refine key ops.size _ a w (by simp) (by simp) (fun i o hi=>by rw [rep] at hi;cases hi) (.inl ⟨fun i _=>rep i,F,aw,Hm,hs,hd,fP,fun x=>⟨.inl,fun h=>?_⟩,fun i o d t hi ho aW _=>vI d (.inr ⟨t,jm.2 ⟨i,o,hi,ho,aW⟩⟩),fun t ht=>?_⟩)
 ·rcases h with h|⟨i,o,d,t,z,h1,h2,_⟩
  ·exact h
  ·rw [rep] at h2;cases h2
 ·have bw:∀i o,i<m→ops[i]?=some o→o.dst≠some t:=fun i o hi ho bz=>by
   have:=ht i o hi ho bz;rw [rep] at this;cases this
  rw [Aj t fun j o' ty hj aD aW=>bw j o' hj aD (jL aW).1,ko t fun o ho=>by
   obtain ⟨i,hi,aD⟩:=nk.1 (dU.1 ho).1
   exact bw i o hi aD]
  show Rd _ _ _ (preB (dQ m ops) (iQ (dQ m ops) st).f t) _
  rw [Bp fun x hx=>by
   obtain ⟨j,o',hj,aD,aW⟩:=jm.1 hx
   exact bw j o' hj aD (jL aW).1]
  exact py t
def HB (T:TT) (ops:Array Oper) (m:Nat) (st:ai) (K:ai→Prop):Prop :=
 match ops[m]? with
 |some o=>match o.op with
  |.store t x y=>sJ T t (ev st.f x) (ev st.f y) st fun _ av=>K av
  |_=>False
 |none=>False
def qE (P:Program) (T:TT) (ops:Array Oper) (st:ai):List Nat→Prop
 |[]=>True
 |j::r=>(match ops[j]? with
  |some o=>sv P T ops st.H st.f o
  |none=>False)∧qE P T ops st r
def Km {ops:Array Oper} {st:ai}:∀{late:List Nat},qE P T ops st late→∀j o,j∈late→ops[j]?=some o→sv P T ops st.H st.f o
 |[],_,_,_,h,_=>by cases h
 |i::r,hl,j,o,h,ho=>by
  rcases bp.1 h with rfl|h
  ·have:=hl.1;rw [ho] at this;exact this
  ·exact Km hl.2 j o h ho
def XW {t:Nat} {x y:AV} {st:ai} {k:AV→ai→Prop} (h:sJ T t x y st k):∃H',k (.v undef) ⟨st.f,H'⟩∧(∀f,sJ T t x y ⟨f,st.H⟩ fun _ s=>s=⟨f,H'⟩)∧H'.map (·.1)=st.H.map (·.1):=by
 unfold sJ at h ⊢;split at h
 ·rename_i i hi;split at h
  ·rename_i id off;split at h
   ·rename_i cells hc;unfold y9 at h ⊢;obtain ⟨hb,C,hC,h⟩:=cond_prop h;exact ⟨_,h,fun f=>by simp only [hc];exact HC hb ⟨C,hC,rfl⟩,wH _⟩
   ·cases h
  ·rename_i id K m j;split at h
   ·rename_i E K' rows hc;obtain ⟨pA,row,jy,hK,h⟩:=cond_prop h;unfold y9 at h ⊢;obtain ⟨hb,C,hC,R,hR,h⟩:=cond_prop h;exact ⟨_,h,fun f=>by simp only [hc];exact HC pA ⟨row,jy,hK,HC hb ⟨C,hC,R,hR,rfl⟩⟩,wH _⟩
   ·cases h
  ·cases h
 ·cases h
def XA {id m n:Nat} {late:List Nat} {ops:Array Oper} {st:ai} {K:ai→Prop} (hT:bB P T) (hm:P.follows .mixedOrders=true) (oB:Dk m late ops=true)
  (h:pU P T n ops (steady m ops) ⟨preB (dQ m ops) (iQ (dQ m ops) st).f,(iQ (dQ m ops) st).H⟩ fun st1=>qF P st1.f (ops.toList.take m)∧o_ T n (dQ m ops) st1 fun st1=>HB T ops m st1 fun st2=>qE P T ops st2 late∧ix P T n ops (ops.toList.drop (m+1)) st2 K):C3 P n id ops st K:=by
 refine ⟨fun C hn a w cN=>?_⟩;have hp:=acs oB;have hr:=LJ cN;refine wpIn_region_any hm ?_;show wpAnyIn (fa C.ro) 0 P .any ops _ ops.size (mw ops.size false) a w.drew;generalize w.drew=w at hr;clear cN;obtain ⟨F,β,hs,hd,hf,he⟩:=hr
 obtain ⟨aw,py,fP,vI,aab⟩:=Ih (dQ m ops) (fun d t h=>by
  obtain ⟨o,Jw,ho⟩:=kX.1 h;obtain ⟨i,hi,aD⟩:=nk.1 Jw
  exact hp.low i o d hi aD (jL ho).1) hf he
 have vA:uB ops (steady m ops):=by simpa [steady] using hp.Si m 0 (by omega)
 obtain ⟨fe,ko,hb,Ξ,bK⟩:=NU (steady m ops) _ vA h
 have cX:((dQ m ops).map (·.1)).Nodup:=by simpa [dQ] using O_ hp.toPlan0 m 0 (by omega)
 have eu:∀d t,(d,t)∈dQ m ops→∀c,(d,c)∉(iQ (dQ m ops) st).H:=fun d t hm=>aab d (.inr ⟨t,hm⟩);obtain ⟨fA,HA,xJ,IP,Ag,Ah,DI⟩:=HE (dQ m ops) ⟨fe,(iQ (dQ m ops) st).H⟩ hb.2 cX eu fP.inv.keys;generalize Y8:(iQ (dQ m ops) st).H=Hm at *
 have jm:∀{d t},(d,t)∈dQ m ops↔∃i o,i<m∧ops[i]?=some o∧dD o=some (d,t):=by
  intro d t;constructor
  ·intro h;obtain ⟨o,ho,aW⟩:=kX.1 h;obtain ⟨i,hi,ho⟩:=nk.1 ho;exact ⟨i,o,hi,ho,aW⟩
  ·rintro ⟨i,o,hi,ho,aW⟩;exact kX.2 ⟨o,nk.2 ⟨i,hi,ho⟩,aW⟩
 have yq:∀{i o},i<m→ops[i]?=some o→dD o=none→o∈steady m ops:=fun hi ho aW=>dU.2 ⟨nk.2 ⟨_,hi,ho⟩,by simp [aW]⟩
 have Aj:∀t,(∀j o' ty,j<m→ops[j]?=some o'→dD o'≠some (t,ty))→fA t=fe t:=fun t ht=>IP t fun ty hm=>by
  obtain ⟨j,o',hj,aD,aW⟩:=jm.1 hm;exact ht j o' ty hj aD aW
 have Ai:∀t,(∀j o' ty,j<m→ops[j]?=some o'→dD o'=some (t,ty)→pN o'=true)→fA t=fe t:=fun t ht=>by
  by_cases hex:∃j o' ty,j<m∧ops[j]?=some o'∧dD o'=some (t,ty)
  ·obtain ⟨j,o',ty,hj,aD,aW⟩:=hex;have gH:=ht j o' ty hj aD aW;unfold pN at gH;rw [aW] at gH;cases ty with
   |some y=>cases gH
   |none =>
    have hm:=jm.2 ⟨j,o',hj,aD,aW⟩;obtain ⟨_,c,hc,Jg⟩:=Ag t none hm
    have Jh:fe t=.o t:=by
     rw [ko t fun o ho=>by
      obtain ⟨i,hi,AF⟩:=nk.1 (dU.1 ho).1;intro bz;have:=hp.one i o j o' t hi hj AF aD bz (jL aW).1;subst this;rw [AF] at aD;cases aD;have:=(dU.1 ho).2
      simp [aW] at this]
     exact EZ gH cX hm
    have cY:tq t c=.o t:=by
     have fc:tr CH.ch t=some c:=hc;have vE:tG t=true:=gH;unfold tG at vE;rw [fc] at vE
     cases c<;>first|rfl|cases vE
    rw [Jg,cY,Jh]
  ·exact Aj t fun j o' ty hj aD aW=>hex ⟨j,o',ty,hj,aD,aW⟩
 have lt:∀{i o},ops[i]?=some o→i<ops.size:=fun h=>(j4.1 h).1;obtain ⟨om,yd⟩:∃om,ops[m]?=some om:=⟨_,fL hp.lt⟩;unfold HB at xJ;rw [yd] at xJ;simp only at xJ;split at xJ
 case h_2=>exact xJ.elim
 rename_i ts xs ys JF;obtain ⟨H',⟨Jt,hK⟩,dy,IS⟩:=XW xJ;let T0:Nat→Option Nat→Chunk→Prop:=fun _ _ _=>False
 have QS:(H'.map (·.1)).Nodup:=by rw [IS];exact Ah
 have Zl:∀{listed:Array Bool} {a:Act} {w:World} {F β},(∀i o,i<m→ops[i]?=some o→dD o≠none→listed.getD i false=true)→a.tmps.size=C.n→True→XM C a.defers w F β H' →
   (∀t,(∀i o,i<m→ops[i]?=some o→o.dst=some t→listed.getD i false=true)→Rd w F β (fA t) (a.tmps.getD t undef))→mO C T0 ops m fA H' listed a w :=
  fun aW h1 h2 h3 h4=>⟨_,_,_,h1,h2,h3,fun x=>⟨.inl,fun h=>h.elim (fun h=>h) fun ⟨i,o,d,t,z,_,_,_,_,hz,_⟩=>by cases hz⟩,
   ⟨fun i o d t hi ho ha hl=>(by rw [aW i o hi ho (by rw [ha];simp)] at hl;cases hl),h4⟩⟩
 have Qj:∀{listed:Array Bool} {a:Act} {w:World},mO C T0 ops m fA H' listed a w→∃F β,a.tmps.size=C.n∧True∧XM C a.defers w F β H' ∧
   (∀t,(∀i o,i<m→ops[i]?=some o→o.dst=some t→listed.getD i false=true)→Rd w F β (fA t) (a.tmps.getD t undef)):=fun hh=>by
  obtain ⟨F1,cT,H1,g1,g2,g3,g4,g5,g6⟩:=hh.ex;refine ⟨F1,cT,g1,g2,g3.xm (fun x=>?_) QS,g6⟩;rw [g4 x];exact ⟨.inl,fun h=>h.elim (fun h=>h) fun ⟨i,o,d,t,z,_,_,_,_,hz,_⟩=>by cases hz⟩
 have key:∀fuel (listed:Array Bool) (a:Act) (w:World),listed.size=ops.size→listed.toList.count false≤fuel →
   (∀i o,listed.getD i false=true→ops[i]?=some o→∀e,e∈o.after→i_ .any e=true→listed.getD e.on false=true) →
   (((∀i,m≤i→listed.getD i false=false)∧mO C (j9 T) ops m fA Hm listed a w) ∨
    (listed.getD m false=true∧(∀i,m<i→listed.getD i false=false)∧mO C T0 ops m fA H' listed a w) ∨
    ∃k,m<k∧k≤ops.size∧(∀i,i<ops.size→(listed.getD i false=true↔i<k))∧∃st,Rel C st a w∧ix P T n ops (ops.toList.drop k) st K) →
   wpAnyIn (fa C.ro) 0 P .any ops (fun e a' w'=>∃av,Rel C av a' w'∧(match e with|.normal=>K av|_=>False)) fuel listed a w:=by
  intro fuel;induction fuel with
  |zero =>
   intro listed a w aZ sR dH pG
   have dv:∀i,i<ops.size→listed.getD i false=true:=fun i hi=>by
    have h0:listed.toList.count false=0:=by omega
    have bj:i<listed.size:=by omega
    have bu:listed[i]∈listed.toList:=by simp
    cases hb:listed[i] with
    |true=>simp [bj,hb]
    |false=>rw [hb] at bu;exact absurd bu (V3.1 h0)
   have pK:kK .any ops listed=[]:=by
    apply w7.2;intro i hi;obtain ⟨h1,o,ho,_⟩:=mem_ready.1 hi;have:=dv i (lt ho)
    have bj:i<listed.size:=by have:=lt ho;omega
    simp [bj] at h1 this;rw [h1] at this;cases this
   refine ⟨pK,?_⟩
   rcases pG with ⟨eC,_⟩|⟨_,eC,iS⟩|⟨k,fh,gg,ma,av,il,hw⟩
   ·have:=eC m (bm _);rw [dv m hp.lt] at this;cases this
   ·have jj:m+1=ops.size:=by
     rcases eY (m+1) ops.size with h|h
     ·have:=eC (m+1) (by omega);rw [dv (m+1) h] at this;cases this
     ·have:=hp.lt;omega
    obtain ⟨F1,cT,g1,g2,g3,g6⟩:=Qj iS;refine ⟨⟨fA,H'⟩,⟨F1,cT,g1,g2,fun t=>g6 t fun i o hi _ _=>dv i (by omega),g3⟩,?_⟩;rw [jj] at hK;exact zu hK
   ·have gG:k=ops.size:=by
     rcases eY k ops.size with h|h
     ·have:=(ma k h).1 (dv k h);omega
     ·omega
    refine ⟨av,il,?_⟩;rw [gG] at hw;exact zu hw
  |succ fuel ih =>
   intro listed a w aZ sR dH pG
   have uS:∀i,i<ops.size→(∀o,ops[i]?=some o→∀e,e∈o.after→i_ .any e=true→listed.getD e.on false=true)→∀j,j<ops.size→ib ops i j=true→listed.getD j false=true:=by
    intro i;induction i using qV with
    |_ i pL =>
     intro hi fg j hj gv;obtain ⟨e,cH,cy,h⟩:=hp.step i _ j (fL hi) hj gv;have hl:=fg _ (fL hi) e cH cy;have qy:=hp.dec i _ (fL hi) e cH cy
     rcases h with h|h
     ·rw [←h];exact hl
     ·exact pL e.on qy (by omega) (fun o ho=>dH e.on o hl ho) j hj h
   have pR:∀{i o},i∈kK .any ops listed→ops[i]?=some o→listed.getD i false=false∧∀e,e∈o.after→i_ .any e=true→listed.getD e.on false=true:=fun hi ho=>by
    obtain ⟨h1,o',aD,h2⟩:=mem_ready.1 hi;rw [ho] at aD;cases aD;have:=lt ho;refine ⟨?_,h2⟩;have bj:=lt ho;rw [←aZ] at bj;simpa [bj] using h1
   have isReady:∀{i o},ops[i]?=some o→listed.getD i false=false→(∀j,j<i→listed.getD j false=true)→i∈kK .any ops listed:=fun ho h1 h2=>by
    refine mem_ready.2 ⟨?_,_,ho,fun e he hb=>h2 _ (hp.dec _ _ ho e he hb)⟩;have bj:=lt ho;rw [←aZ] at bj;simpa [bj] using h1
   have next:∀i,i<ops.size→listed.getD i false=false→(listed.setIfInBounds i true).size=ops.size∧(listed.setIfInBounds i true).toList.count false≤fuel:=fun i hi h1=>by
    refine ⟨by simpa using aZ,?_⟩
    have bj:i<listed.size:=by omega
    have h2:listed.toList[i]?=some false:=by
     have:listed[i]=false:=by simpa [bj] using h1
     simp [bj,this]
    have:=count_set listed.toList i h2;simp only [VO];omega
   have qe:∀i o,ops[i]?=some o→(∀e,e∈o.after→i_ .any e=true→listed.getD e.on false=true) →
     ∀j o',(listed.setIfInBounds i true).getD j false=true→ops[j]?=some o'→∀e,e∈o'.after→i_ .any e=true→(listed.setIfInBounds i true).getD e.on false=true:=fun i o ho fg j o' hj aD e cH cy=>by
    have bj:i<listed.size:=by rw [aZ];exact lt ho
    rw [eS bj] at hj ⊢;split
    ·rfl
    ·split at hj
     ·rename_i e2;subst e2;rw [ho] at aD;cases aD;exact fg e cH cy
     ·exact dH j o' hj aD e cH cy
   have least:∀(q:Nat),(¬∀i,i<q→listed.getD i false=true)→∃i,i<q∧listed.getD i false=false∧∀j,j<i→listed.getD j false=true:=fun q qC=>by
    have:∃i,i<q∧listed.getD i false=false:=by
     refine uj fun bw=>qC fun i hi=>?_;cases hb:listed.getD i false
     ·exact absurd ⟨i,hi,hb⟩ bw
     ·rfl
    obtain ⟨i,hi,hb⟩:=this;induction i using qV with
    |_ i pL =>
     by_cases dv:∀j,j<i→listed.getD j false=true
     ·exact ⟨i,hi,hb,dv⟩
     ·have:∃j,j<i∧listed.getD j false=false:=by
       refine uj fun bw=>dv fun j hj=>?_;cases hb:listed.getD j false
       ·exact absurd ⟨j,hj,hb⟩ bw
       ·rfl
      obtain ⟨j,hj,Ap⟩:=this;exact pL j hj (by omega) Ap
   have HP:∀{i o},ops[i]?=some o→(∀e,e∈o.after→i_ .any e=true→listed.getD e.on false=true)→∀j,j<ops.size→ib ops i j=true→listed.getD j false=true :=
    fun ho fg j hj hd=>uS _ (lt ho) (fun o' aD=>by rw [ho] at aD;cases aD;exact fg) j hj hd
   have UN:(∃k,m<k∧k≤ops.size∧(∀i,i<ops.size→(listed.getD i false=true↔i<k))∧∃st,Rel C st a w∧ix P T n ops (ops.toList.drop k) st K) →
     wpAnyIn (fa C.ro) 0 P .any ops (fun e a' w'=>∃av,Rel C av a' w'∧(match e with|.normal=>K av|_=>False)) (fuel+1) listed a w:=by
    rintro ⟨k,fh,gg,ma,av,il,hw⟩
    rcases eY k ops.size with gG|gG
    ·have vB:ops[k]?=some ops[k]:=fL gG
     have vv:listed.getD k false=false:=by
      cases hb:listed.getD k false
      ·rfl
      ·have:=(ma k gG).1 hb;omega
     have jT:=isReady vB vv fun j hj=>(ma j (by omega)).2 hj;refine ⟨fun h0=>(by rw [h0] at jT;cases jT),fun i hi=>?_⟩;obtain ⟨_,o,ho,_⟩:=mem_ready.1 hi;obtain ⟨dr,fg⟩:=pR hi ho
     have l9:i=k:=by
      have h1:¬i<k:=fun h=>by rw [(ma i (lt ho)).2 h] at dr;cases dr
      rcases eY k i with h2|h2
      ·have:=HP ho fg k gG (hp.tail i k (by omega) (lt ho) h2);rw [this] at vv;cases vv
      ·omega
     subst l9;rw [drop_cons gG] at hw;rw [ho] at vB;cases vB;obtain ⟨lD,kq⟩:=next i gG dr;refine rW (K:=fun st=>ix P T n ops (ops.toList.drop (i+1)) st K) hT hn ho il (fun st2 a2 w2 na Jp=>?_) hw;refine ih _ a2 w2 lD kq (qe i _ ho fg) (.inr (.inr ⟨i+1,by omega,by omega,fun j hj=>?_,st2,na,Jp⟩))
     have bj:i<listed.size:=by rw [aZ];exact gG
     rw [eS bj];split
     ·rename_i e2;subst e2;simp
     ·rw [ma j hj];omega
    ·have dv:∀i,i<ops.size→listed.getD i false=true:=fun i hi=>(ma i hi).2 (by omega)
     have pK:kK .any ops listed=[]:=by
      apply w7.2;intro i hi;obtain ⟨_,o,ho,_⟩:=mem_ready.1 hi;obtain ⟨dr,_⟩:=pR hi ho;rw [dv i (lt ho)] at dr;cases dr
     refine ⟨fun _=>⟨av,il,?_⟩,fun i hi=>by rw [pK] at hi;cases hi⟩
     have:k=ops.size:=by omega
     rw [this] at hw;exact zu hw
   rcases pG with ⟨eC,iS⟩|⟨D3,eC,iS⟩|pG
   ·-- Co store is to agJ
    have Jy:=eC m (bm _)
    obtain ⟨i0,pA,dY,uQ⟩:=least (m+1) fun hh=>by have:=hh m (by omega);rw [Jy] at this;cases this
    have vh:i0<ops.size:=by have:=hp.lt;omega
    have cN:=isReady (fL vh) dY uQ;refine ⟨fun h0=>(by rw [h0] at cN;cases cN),fun i hi=>?_⟩;obtain ⟨_,o,ho,_⟩:=mem_ready.1 hi;obtain ⟨dr,fg⟩:=pR hi ho;have gv:=HP ho fg;obtain ⟨lD,kq⟩:=next i (lt ho) dr
    have gR:i≤m:=by
     rcases eY m i with h|h
     ·have:=gv m hp.lt (hp.tail i m h (lt ho) h);rw [this] at Jy;cases Jy
     ·exact h
    have bj:i<listed.size:=by rw [aZ];exact lt ho
    rcases eY i m with gR|gR
    ·have cont:∀a w,mO C (j9 T) ops m fA Hm (listed.setIfInBounds i true) a w→wpAnyIn (fa C.ro) 0 P .any ops (fun e a' w'=>∃av,Rel C av a' w'∧(match e with|.normal=>K av|_=>False)) fuel (listed.setIfInBounds i true) a w:=fun a2 w2 hh=>by
      refine ih _ a2 w2 lD kq (qe i o ho fg) (.inl ⟨fun j hj=>?_,hh⟩);rw [eS bj];split
      ·omega
      ·exact eC j hj
     cases aW:dD o with
     |none=>exact IY hT hn hp.toPlan0.s aZ gR ho aW dr (fun j hj hd=>gv j (by have:=hp.lt;omega) hd) Ai fP.inv.keys (bK o (yq gR ho aW)) (Ξ o (yq gR ho aW)) iS cont
     |some x =>
      obtain ⟨d,t⟩:=x;obtain ⟨q2,c,uT,q1⟩:=Ag d t (jm.2 ⟨i,o,gR,ho,aW⟩);cases t with
      |some t =>
       obtain ⟨z,q3,q4,rfl⟩:=uT;exact Qh hT hn hp.toPlan0 aZ gR ho aW dr q3 q4 q1 q2 (eu d _ (jm.2 ⟨i,o,gR,ho,aW⟩)) iS cont
      |none =>
       obtain ⟨c',fc,rH⟩:=EG hb.1 (nk.2 ⟨i,gR,ho⟩) aW;obtain rfl:c'=c:=j9.uniq (T:=T) (x:=none) fc uT;exact Qi hn hp.toPlan0 aZ gR ho aW dr (fun j hj hd=>gv j (by have:=hp.lt;omega) hd) Ai uT rH q1 q2 (eu d _ (jm.2 ⟨i,o,gR,ho,aW⟩)) iS cont
    ·obtain rfl:i=m:=by omega
     rw [yd] at ho;cases ho
     have Qk:∀j o',j<i→ops[j]?=some o'→dD o'≠none→listed.getD j false=true:=fun j o' hj aD ha=>by
      rcases hp.late j o' hj aD with h|h
      ·exact gv j (lt aD) h
      ·exact absurd h.1 ha
     obtain ⟨F1,cT,g1,g2,g3,g6⟩:∃F β,a.tmps.size=C.n∧True∧XM C a.defers w F β HA ∧
       (∀t,(∀j o,j<i→ops[j]?=some o→o.dst=some t→listed.getD j false=true)→Rd w F β (fA t) (a.tmps.getD t undef)):=by
      obtain ⟨F1,cT,H1,g1,g2,g3,g4,g5,g6⟩:=iS.ex;refine ⟨F1,cT,g1,g2,g3.xm (fun x=>?_) Ah,g6⟩;rw [g4 x,DI x];constructor
      ·rintro (h|⟨d,t,z,h1,h2,h3⟩)
       ·exact .inl h
       ·obtain ⟨j,o',hj,aD,aW⟩:=jm.1 h1;exact .inr ⟨j,o',d,t,z,hj,Qk j o' hj aD (by rw [aW];simp),aD,aW,h2,h3⟩
      ·rintro (h|⟨j,o',d,t,z,hj,_,aD,aW,h2,h3⟩)
       ·exact .inl h
       ·exact .inr ⟨d,t,z,jm.2 ⟨j,o',hj,aD,aW⟩,h2,h3⟩
     obtain ⟨eK,dZ⟩:=hp.store _ yd
     obtain ⟨known,QT,pE⟩:∃known:Nat→AV,(∀t,(∀j o,j<i→ops[j]?=some o→o.dst=some t→listed.getD j false=true)→known t=fA t)∧∀t,Rd w F1 cT (known t) (a.tmps.getD t undef):=by
      classical
      refine ⟨fun t=>if ∀j o,j<i→ops[j]?=some o→o.dst=some t→listed.getD j false=true then fA t else .χ,fun t ht=>if_pos ht,fun t=>?_⟩;simp only;split
      ·rename_i hh;exact g6 t hh
      ·exact .χ
     have xX:∀t,t∈om.looksAt ops→known t=fA t:=fun t ht=>QT t fun j o' hj aD bz=>by
      exact gv j (by have:=lt aD;omega) (hp.abt om t j o' yd ht hj aD bz)
     have sS:∀x,x∈om.op.operands→ev known x=ev fA x:=fun x hx=>by
      cases x with
      |tmp t=>exact xX t (p4 _ (kX.2 ⟨.tmp t,by simpa using hx,rfl⟩))
      |_=>rfl
     have aaF:gd n ops om ⟨known,HA⟩ (fun st=>step P T om st fun r av=>put n om.dst av r fun s=>s=⟨known,H'⟩) fun st=>put n om.dst st (.v undef) fun s=>s=⟨known,H'⟩:=by
      rw [qm,dZ];have h1:=dy known;have e1:ev known xs=ev fA xs:=sS xs (by rw [JF];simp [qX]);have e2:ev known ys=ev fA ys:=sS ys (by rw [JF];simp [qX])
      have h2:sJ T ts (ev known xs) (ev known ys) ⟨known,HA⟩ fun r av=>put n om.dst av r fun s=>s=⟨known,H'⟩:=by
       rw [e1,e2,eK]
       have:(fun (r:AV) (av:ai)=>put n none av r fun s=>s=⟨known,H'⟩)=fun _ av=>av=⟨known,H'⟩:=by
        funext r av;rw [put_eq]
       rw [this];exact h1
      have h3:step P T om ⟨known,HA⟩ (fun r av=>put n om.dst av r fun s=>s=⟨known,H'⟩)=y_ P T om ⟨known,HA⟩ fun r av=>put n om.dst av r fun s=>s=⟨known,H'⟩:=by
       unfold step;rw [eK];rfl
      show step P T om ⟨known,HA⟩ _;rw [h3];unfold y_;rw [JF];exact h2
     refine rW (st:=⟨known,HA⟩) (K:=fun s=>s=⟨known,H'⟩) hT hn yd ⟨F1,cT,g1,g2,pE,g3⟩ (fun st2 a2 w2 na gg=>?_) aaF;subst gg;obtain ⟨F2,bL,q1,q2,q3,q4⟩:=na;refine ih _ a2 w2 lD kq (qe i om yd fg) (.inr (.inl ⟨by rw [eS bj,if_pos rfl],fun j hj=>?_,Zl (fun j o' hj aD ha=>by rw [eS bj];split;rfl;exact Qk j o' hj aD ha) q1 q2 q4 fun t ht=>?_⟩))
     ·rw [eS bj,if_neg (by omega)];exact eC j (by omega)
     ·have h1:=q3 t
      have:known t=fA t:=QT t fun j o' hj aD bz=>by
       have:=ht j o' hj aD bz;rwa [eS bj,if_neg (by omega)] at this
      rw [←this];exact h1
   ·-- Co store is done
    by_cases qC:∀i,i<m→listed.getD i false=true
    ·refine UN ⟨m+1,by omega,by have:=hp.lt;omega,fun i hi=>⟨fun h=>?_,fun h=>?_⟩,⟨fA,H'⟩,?_,hK⟩
     ·rcases eY m i with h1|h1
      ·rw [eC i h1] at h;cases h
      ·omega
     ·rcases eY i m with h1|h1
      ·exact qC i h1
      ·obtain rfl:i=m:=by omega
       exact D3
     ·obtain ⟨F1,cT,g1,g2,g3,g6⟩:=Qj iS;exact ⟨F1,cT,g1,g2,fun t=>g6 t fun i o hi _ _=>qC i hi,g3⟩
    ·obtain ⟨i0,pA,dY,uQ⟩:=least m qC
     have vh:i0<ops.size:=by have:=hp.lt;omega
     have cN:=isReady (fL vh) dY uQ;refine ⟨fun h0=>(by rw [h0] at cN;cases cN),fun i hi=>?_⟩;obtain ⟨_,o,ho,_⟩:=mem_ready.1 hi;obtain ⟨dr,fg⟩:=pR hi ho;have gv:=HP ho fg;obtain ⟨lD,kq⟩:=next i (lt ho) dr
     have bj:i<listed.size:=by rw [aZ];exact lt ho
     have gR:i<m:=by
      rcases eY m i with h|h
      ·have:=gv i0 vh (hp.tail i i0 h (lt ho) (by omega));rw [this] at dY;cases dY
      ·rcases eY i m with h2|h2
       ·exact h2
       ·obtain rfl:i=m:=by omega
        rw [D3] at dr;cases dr
     obtain ⟨aW,aaq⟩:dD o=none∧sv P T ops H' fA o:=by
      rcases hp.late i o gR ho with h|h
      ·have:=uS m hp.lt (fun o ho=>dH m o D3 ho) i (by omega) h;rw [this] at dr;cases dr
      ·exact ⟨h.1,Km Jt i o h.2 ho⟩
     refine IY hT hn hp.toPlan0.s aZ gR ho aW dr (fun j hj hd=>gv j (by have:=hp.lt;omega) hd) (fun _ _=>rfl) QS aaq (Ξ o (yq gR ho aW)) iS fun a2 w2 hh=>?_;refine ih _ a2 w2 lD kq (qe i o ho fg) (.inr (.inl ⟨?_,fun j hj=>?_,hh⟩))
     ·rw [eS bj];split
      ·rfl
      ·exact D3
     ·rw [eS bj,if_neg (by omega)];exact eC j hj
   ·exact UN pG
 have rep:∀i,(mw ops.size false).getD i false=false:=fun i=>by
  simp only [j3,VM];split<;>rfl
 refine key ops.size _ a w (by simp) (by simp) (fun i o hi=>by rw [rep] at hi;cases hi) (.inl ⟨fun i _=>rep i,F,aw,Hm,hs,hd,fP,fun x=>⟨.inl,fun h=>?_⟩,fun i o d t hi ho aW _=>vI d (.inr ⟨t,jm.2 ⟨i,o,hi,ho,aW⟩⟩),fun t ht=>?_⟩)
 ·rcases h with h|⟨i,o,d,t,z,h1,h2,_⟩
  ·exact h
  ·rw [rep] at h2;cases h2
 ·have bw:∀i o,i<m→ops[i]?=some o→o.dst≠some t:=fun i o hi ho bz=>by
   have:=ht i o hi ho bz;rw [rep] at this;cases this
  rw [Aj t fun j o' ty hj aD aW=>bw j o' hj aD (jL aW).1,ko t fun o ho=>by
   obtain ⟨i,hi,aD⟩:=nk.1 (dU.1 ho).1
   exact bw i o hi aD]
  show Rd _ _ _ (preB (dQ m ops) (iQ (dQ m ops) st).f t) _
  rw [Bp fun x hx=>by
   obtain ⟨j,o',hj,aD,aW⟩:=jm.1 hx
   exact bw j o' hj aD (jL aW).1]
  exact py t
end
end
section
open Go.RowKit
variable [M:bU] [G:dC]
section
variable {P:Program} {T:TT} {w:World} {F:Nat→Prop} {β:Nat→Value}
def Ii {st:ai} {w':World} {F':Nat→Prop} {d:Nat} {c:Chunk} {v:Value} (hd:d<1000) (hI:Inv w F β st.H) (hb:Below w.heap.size w w') (kR:∀b,F b→F' b) (ri:∀b,F' b→eU F w w' b)
  (eu:∀b,bF v=some b→w.heap.size≤b∧¬F' b) (hc:c.holds w' F' (fun i=>if i=d then v else β i) d) :
  Ext w F β st w' F' (fun i=>if i=d then v else β i) (gq st d c):=by
 have aj:∀i,i≠d→(fun i=>if i=d then v else β i) i=β i:=fun i hi=>if_neg hi;have ha:fy F w w':=Below.agree hb hI.bW
 have cY:∀b,br (fun i=>if i=d then v else β i) ((d,c)::gu d st.H) b→(w.heap.size≤b∧¬F' b)∨br β st.H b:=by
  rintro b ⟨i,c',hm,aH⟩
  rcases bp.1 hm with hm|hm
  ·cases hm;simp only [if_true] at aH;exact .inl (eu b aH)
  ·obtain ⟨hi,c2,h2,_⟩:=gF hm;simp only [if_neg hi] at aH;exact .inr ⟨i,c2,h2,aH⟩
 refine ⟨hb.os,hb.tape,hb.output,hb.size,fun b h _=>hb.block b h,kR,fun b h=>(ri b h).elim .inl fun h=>.inr (.inl h.1),fun b h=>(cY b h).elim (fun h=>.inl h.1) .inr,fun t u h=>qh aj 2 (h.frame ha kR),?_,fun i hi=>aj i (by omega)⟩;refine ⟨fun b h=>(ri b h).elim (fun h=>mJ (hI.bW b h) hb.size) fun h=>h.2,?_,?_,fun b ho hF=>?_,?_,hI.eN.frame ha kR⟩
 ·intro i c' hm
  rcases bp.1 hm with hm|hm
  ·cases hm;exact hc
  ·obtain ⟨hi,c2,h2,rfl⟩:=gF hm;exact D7 hi aj (nQ ha kR (fun b aH=>hb.block b (hI.fj ⟨i,c2,h2,aH⟩)) (hI.holds i c2 h2))
 ·show ((d::(gu d st.H).map (·.1))).Nodup;rw [gK];refine ⟨fun hm=>?_,z6 hI.keys⟩;obtain ⟨x,hx,jX⟩:=cV.1 hm;obtain ⟨i,c'⟩:=x;exact (gF hx).1 jX
 ·rcases cY b ho with h|h
  ·exact h.2 hF
  ·rcases ri b hF with h1|h1
   ·exact hI.apart b h h1
   ·exact absurd (hI.fj h) (kZ.2 h1.1)
 ·have key:∀i c' b,(i,c')∈gu d st.H→bF (β i)=some b→bF v=some b→False:=fun i c' b hm cy hv=>by
   obtain ⟨hi,c2,h2,_⟩:=gF hm;exact absurd (hI.fj ⟨i,c2,h2,cy⟩) (kZ.2 (eu b hv).1)
  intro i c1 i' oq b hm bE cy aH
  rcases bp.1 hm with hm|hm<;>rcases bp.1 bE with bE|bE
  ·cases hm;cases bE;rfl
  ·cases hm;simp only [if_true] at cy;simp only [if_neg (gF bE).1] at aH;exact (key i' oq b bE aH cy).elim
  ·cases bE;simp only [if_true] at aH;simp only [if_neg (gF hm).1] at cy;exact (key i c1 b hm cy aH).elim
  ·obtain ⟨hi,c2,h2,_⟩:=gF hm;obtain ⟨bj,xi,gQ,_⟩:=gF bE;simp only [if_neg hi] at cy;simp only [if_neg bj] at aH;exact hI.dR i c2 i' xi b h2 gQ cy aH
def jb (P:Program) (g:FuncId) (args:List AV) (E K:Nat) (rows:List (List AV)):Prop :=
 oj P g∧∀(w:World) (F:Nat→Prop) (β:Nat→Value) (vs:Array Value),Inv w F β []→vs.size=args.length→(∀i,i<args.length→Rd w F β (args.getD i .χ) (vs.getD i undef)) →
  Calls P g vs w fun e w'=>∃v,e=.returned v∧Below w.heap.size w w'∧∃F',(∀b,F b→F' b)∧(∀b,F' b→eU F w w' b)∧Chunk.holds w' F' (fun _=>v) 0 (.own E K rows)∧(∃a n c,v=.slice a n c) ∧
   ∀b,bF v=some b→w.heap.size≤b∧¬F' b
def Hk (E K:Nat) (rows:List (List AV)) (x:AV) (st:ai):Prop :=
 (x=.v (.slice none 0 0)∧rows=[])∨∃id,x=.o id∧di id st.H=some (.own E K rows)
def KH {id:Nat} {E K:Nat} {rows:List (List AV)} (h:Chunk.holds w F β id (.own E K rows)):∀(aw:Nat→Value) (i:Nat),aw i=β id→Chunk.holds w F aw i (.own E K rows):=by
 intro aw i hi;unfold Chunk.holds at *;rw [hi];exact h
def Θ.own {g:FuncId} {xs ys:List AV} {st:ai} {E K D:Nat} {rows:List (List AV)} {k:AV→ai→Prop} (h:jb P g ys E K rows) (hle:h_ xs ys) (hD:ej D 1000=true) (hk:k (.o D) (gq st D (.own E K rows))):Θ P g xs st k:=by
 obtain ⟨hl,hz⟩:=hle.spec;refine ⟨h.1,fun w F β vs hI hs hv=>(h.2 w F β vs hI.nil (by omega) fun i hi=>hz i (by omega) _ _ _ _ (hv i (by omega))).mono ?_⟩;rintro e w' ⟨v,rfl,hb,F',h1,h2,h3,⟨a,m,c,rfl⟩,h4⟩;exact ⟨_,rfl,.o D,_,F',_,hk,.o (by simp),Ii (by simpa using hD) hI hb h1 h2 h4 (KH h3 _ _ (by simp))⟩
def jb.makes {g:FuncId} {args:List AV} {E K:Nat} {rows:List (List AV)} (h:jb P g args E K rows):Hl P g args (.own E K rows) :=
 ⟨h.1,fun w F β vs hI hs hv=>(h.2 w F β vs hI hs hv).mono fun e w'=>by
  rintro ⟨v,rfl,hb,F',hm,hn,hc,⟨a,n,c,rfl⟩,hf⟩
  exact ⟨_,rfl,hb,F',hm,hn,fun aw i hi=>⟨KH hc aw i hi,.o hi⟩,hf⟩⟩
def jb.pure {g:FuncId} {args:List AV} {E K:Nat} {rows:List (List AV)} (h:jb P g args E K rows):Pure P g args (.s rows):=by
 refine ⟨h.1,fun w F β vs hI hs hv=>(h.2 w F β vs hI hs hv).mono ?_⟩;rintro e w' ⟨v,rfl,hb,F',h1,h2,h3,⟨a,m,c,rfl⟩,h4⟩;refine ⟨_,rfl,hb,?_⟩
 rcases h3 with ⟨rfl,a',hv⟩|⟨g',cap,cur,hv,hc,hg,hn,fG,aZ,hK,hr⟩
 ·cases hv;exact .s0
 ·cases hv
  have h0:aG c 0=false:=by cases c<;>first|rfl|omega
  have eC:=(h4 g' (by simp [bF,h0])).1;refine .s (off:=0) (k:=K) (u:=fun i j=>cur.getD (i*K+j) undef) (.inr ⟨eC,jM hg⟩) hn fG hK (fun i j hi hj=>?_) (fun i j hi hj=>(hr i j hi hj).1) fun i j hi hj=>(hr i j hi hj).2.frame (fun _ _=>rfl) h2;rw [iZ,cell_of_row w' g' _ cur E (0,0) hg]
  have:i*K+j<cur.size:=by
   rw [aZ]
   calc i*K+j<i*K+K:=by omega
    _=(i+1)*K:=by rw [bD];omega
    _≤c*K:=Nat.mul_le_mul_right _ (by omega)
  simp [this]
end
abbrev vi (n:Int):AV:=.v (.int .i64 n)
abbrev vb (b:Bool):AV:=.v (.bool b)
abbrev bs (l:List UInt8):AV:=.s (l.map kg)
def encI (n:Int):List AV:=[.v (.int .i64 n)]
abbrev is (l:List Int):AV:=.s (l.map encI)
def Fz.v' {H:Hp} {x y:Value} (h:x=y):Fz H (.v x) (.v y):=h▸Fz.v
def Fz.s' {H:Hp} {x y:List (List AV)} (h:x=y):Fz H (.s x) (.s y):=h▸Fz.s
def cL {α:Type} {f:α→List AV} {n:Nat} (h:∀x,(f x).length=n) (l:List α):nC (l.map f) n:=fun r hr=>by
 obtain ⟨x,_,rfl⟩:=cV.1 hr;exact h x
end
section
open Go.ChangeShapes Go.WideShapes Go.RowKit
variable [M:bU] [G:dC]
mutual
inductive ez (P:Program):TypeId→List AV→Prop where
 |bool {t:TypeId} {b:Bool} (h:P.underlying t=some .bool):ez P t [.v (.bool b)]
 |int {t:TypeId} {k:IntKind} {n:Int} (h:P.underlying t=some (.int k)) (hn:(Lit.int k n).wf=true):ez P t [.v (.int k n)]
 |str {t:TypeId} {s:ByteArray} (h:P.underlying t=some .string) (hs:s.size≤maxLen):ez P t [.v (.string s)]
 |slice {t e:TypeId} {rows:List (List AV)} (h:P.underlying t=some (.slice e)) (hl:rows.length≤maxLen) (hk:∀r,r∈rows→r.length=P.cellsOf e) (hr:∀r,r∈rows→ez P e r):ez P t [.s rows]
 |struct {t:TypeId} {fs:Array Field} {xs:List AV} (h:P.underlying t=some (.struct fs)) (hf:lf P (fs.toList.map (·.type)) xs):ez P t xs
 |arr {t e:TypeId} {n:Nat} {xs:List AV} (h:P.underlying t=some (.array n e)) (hf:lf P (gl n e) xs):ez P t xs
inductive lf (P:Program):List TypeId→List AV→Prop where
 |nil:lf P [] []
 |cons {t:TypeId} {ts:List TypeId} {xs ys:List AV} (h:ez P t xs) (hs:lf P ts ys):lf P (t::ts) (xs++ys)
end
def oZ (P:Program) (t:TypeId) (x:AV):Prop :=
 match P.underlying t with
 |some (.struct _)=>∃cs,x=.a cs∧ez P t cs
 |some (.array _ _)=>∃cs,x=.a cs∧ez P t cs
 |_=>ez P t [x]
inductive mN (P:Program):List TypeId→List AV→Prop where
 |nil:mN P [] []
 |cons {t:TypeId} {ts:List TypeId} {x:AV} {xs:List AV} (h:oZ P t x) (hs:mN P ts xs):mN P (t::ts) (x::xs)
def oN (P:Program):Nat→TypeId→Bool
 |0,_=>false
 |n+1,t=>match P.underlying t with
  |some .bool|some (.int _)|some .string=>true
  |some (.slice e)=>oN P n e&&ej 0 (P.cellsOf e)
  |some (.struct fs)=>fs.toList.all fun f=>oN P n f.type
  |some (.array _ e)=>oN P n e
  |_=>false
def jc (P:Program) (t:TypeId):Prop:=t<P.types.size∧∃n,oN P n t=true
def jc.slice {P:Program} (hl:laidOutB P=true) {t e:TypeId} (h:jc P t) (hu:P.underlying t=some (.slice e)):jc P e∧0<P.cellsOf e:=by
 obtain ⟨ht,n,hn⟩:=h;cases n with
 |zero=>cases hn
 |succ n =>
  simp only [oN,hu,bM,fY] at hn;exact ⟨⟨kid_slice hl ht hu,n,hn.1⟩,hn.2⟩
def jc.struct {P:Program} (hl:laidOutB P=true) {t:TypeId} {fs:Array Field} (h:jc P t) (hu:P.underlying t=some (.struct fs)) :
  (∀f∈fs.toList,jc P f.type)∧P.cellsOf t=(fs.toList.map fun f=>P.cellsOf f.type).sum∧∀(j:Nat) f,fs.toList[j]?=some f→f.offset=((fs.toList.take j).map fun f=>P.cellsOf f.type).sum:=by
 obtain ⟨ht,n,hn⟩:=h;obtain ⟨h1,h2,h3⟩:=kid_struct hl ht hu;refine ⟨fun f hf=>⟨h1 f hf,?_⟩,h2,h3⟩;cases n with
 |zero=>cases hn
 |succ n =>
  simp only [oN,hu,dJ] at hn;exact ⟨n,hn f hf⟩
def jc.array {P:Program} (hl:laidOutB P=true) {t e:TypeId} {k:Nat} (h:jc P t) (hu:P.underlying t=some (.array k e)):jc P e∧P.cellsOf t=k*P.cellsOf e:=by
 obtain ⟨ht,n,hn⟩:=h;obtain ⟨h1,h2⟩:=kid_array hl ht hu;cases n with
 |zero=>cases hn
 |succ n =>
  simp only [oN,hu] at hn;exact ⟨⟨h1,n,hn⟩,h2⟩
def jc.no {P:Program} {t:TypeId} (h:jc P t):(∀e,P.underlying t≠some (.pointer e))∧(∀k e,P.underlying t≠some (.map k e)):=by
 obtain ⟨_,n,hn⟩:=h;cases n with
 |zero=>cases hn
 |succ n=>refine ⟨fun e he=>?_,fun k e he=>?_⟩<;>simp [oN,he] at hn
def acr {P:Program} (hl:laidOutB P=true):Kids P (jc P) :=
 ⟨fun h hu=>(h.no.1 _ hu).elim,fun h hu=>(h.slice hl hu).1,fun h hu=>h.array hl hu,fun h hu=>h.struct hl hu,fun h hu=>(h.no.2 _ _ hu).elim⟩
section
variable {H:Type} {enc:TypeId×Value→H} {P:Program} {w:World} {base:Nat} {held:Bool}
abbrev Old (w:World):Nat→Prop:=fun b=>b<w.heap.size
structure Good (P:Program) (w:World) (D:List AV→Prop) (cs:List Value) (xs:List AV):Prop where
 len:xs.length=cs.length
 uJ:D xs
 rd:∀i,i<cs.length→bh w (Old w) (xs.getD i .χ) (cs.getD i undef)∧(cs.getD i undef).oneCell'=true
def Good.one {D:List AV→Prop} {x:AV} {v:Value} (hd:D [x]) (hr:bh w (Old w) x v) (h1:v.oneCell'=true):Good P w D [v] [x] :=
 ⟨rfl,hd,fun i hi=>by
  have:i=0:=by simpa using hi
  subst this;exact ⟨hr,h1⟩⟩
def Good.app {t:TypeId} {ts:List TypeId} {a b:List Value} {xs ys:List AV} (h:Good P w (ez P t) a xs) (h':Good P w (lf P ts) b ys):Good P w (lf P (t::ts)) (a++b) (xs++ys):=by
 refine ⟨by simp [h.len,h'.len],.cons h.uJ h'.uJ,fun i hi=>?_⟩;by_cases Ξ:i<a.length
 ·have e1:(xs++ys).getD i .χ=xs.getD i .χ:=by simp [aY,fW,h.len,Ξ]
  have e2:(a++b).getD i undef=a.getD i undef:=by simp [aY,fW,Ξ]
  rw [e1,e2];exact h.rd i Ξ
 ·have e1:(xs++ys).getD i .χ=ys.getD (i-a.length) .χ:=by simp [aY,fW,h.len,Ξ]
  have e2:(a++b).getD i undef=b.getD (i-a.length) undef:=by simp [aY,fW,Ξ]
  rw [e1,e2];exact h'.rd _ (by rw [List.length_append] at hi;omega)
def Qa {r:TypeId→List Value→Option (DataW H×List MemPlace)} (hr:∀t cs x,jc P t→r t cs=some x→∃xs,Good P w (ez P t) cs xs) :
  ∀(fs:List Field) (o:Nat) (cs:List Value),(∀f,f∈fs→jc P f.type)→(∀(j:Nat) f,fs[j]?=some f→f.offset=o+((fs.take j).map fun f=>P.cellsOf f.type).sum)→cs.length=o+(fs.map fun f=>P.cellsOf f.type).sum →
   (∀f,f∈fs→∃x,r f.type ((cs.drop f.offset).take (P.cellsOf f.type))=some x)→∃xs,Good P w (lf P (fs.map (·.type))) (cs.drop o) xs
 |[],o,cs,_,_,hl,_=>by
  have:cs.drop o=[]:=kH (by simp at hl;omega);rw [this];exact ⟨[],rfl,.nil,fun i hi=>by simp at hi⟩
 |f::fs,o,cs,hp,ho,hl,hx=>by
  have h0:f.offset=o:=by simpa using ho 0 f rfl
  obtain ⟨x,J7⟩:=hx f (by simp);obtain ⟨xs,hg⟩:=hr _ _ _ (hp f (by simp)) J7;rw [h0] at hg
  obtain ⟨ys,xP⟩:=Qa hr fs (o+P.cellsOf f.type) cs (fun g hg=>hp g (by simp [hg])) (fun j g hg=>by
   have:=ho (j+1) g (by simpa using hg)
   rw [this];simp;omega) (by simp at hl;omega) (fun g hg=>hx g (by simp [hg]))
  refine ⟨xs++ys,?_⟩
  have e:cs.drop o=(cs.drop o).take (P.cellsOf f.type)++cs.drop (o+P.cellsOf f.type):=by
   rw [←aht,p5]
  rw [e];exact hg.app xP
def EC {α β:Type} {f:α→Option β} {l:List α} {r:List β} (h:l.mapM f=some r) {x:α} (hx:x∈l):∃y,f x=some y:=by
 cases hf:f x with
 |none=>rw [mapM_none_of hx hf] at h;cases h
 |some y=>exact ⟨y,rfl⟩
def P' {r:TypeId→List Value→Option (DataW H×List MemPlace)} (hr:∀t cs x,jc P t→r t cs=some x→∃xs,Good P w (ez P t) cs xs) {e:TypeId} (he:jc P e) :
  ∀(n o:Nat) (cs:List Value),cs.length=o+n*P.cellsOf e→(∀i,i<n→∃x,r e ((cs.drop (o+i*P.cellsOf e)).take (P.cellsOf e))=some x)→∃xs,Good P w (lf P (gl n e)) (cs.drop o) xs
 |0,o,cs,hl,_=>by
  have:cs.drop o=[]:=kH (by simp at hl;omega);rw [this];exact ⟨[],rfl,.nil,fun i hi=>by simp at hi⟩
 |n+1,o,cs,hl,hx=>by
  obtain ⟨x,J7⟩:=hx 0 (Nat.succ_pos n);obtain ⟨xs,hg⟩:=hr _ _ _ he J7;rw [Nat.zero_mul,Nat.add_zero] at hg
  obtain ⟨ys,xP⟩:=P' hr he n (o+P.cellsOf e) cs (by rw [hl,bD];omega) (fun i hi=>by
   have:=hx (i+1) (by omega)
   rwa [bD,Nat.one_mul,show o+(i*P.cellsOf e+P.cellsOf e)=o+P.cellsOf e+i*P.cellsOf e by omega] at this)
  refine ⟨xs++ys,?_⟩
  have e0:cs.drop o=(cs.drop o).take (P.cellsOf e)++cs.drop (o+P.cellsOf e):=by
   rw [←aht,p5]
  rw [e0,List.replicate_succ];exact hg.app xP
def YX {t e:TypeId} {a:Addr} {len cap:Nat} (hu:P.underlying t=some (.slice e)) (hk:0<P.cellsOf e) (mb:len≤cap) (l5:cap≤maxLen)
  (h:∀i,i<cap→∃ci,w.cells? base (a.add (i*P.cellsOf e)) (P.cellsOf e)=some ci∧∃xs,Good P w (ez P e) ci xs):∃xs,Good P w (ez P t) [.slice (some a) len cap] xs:=by
 by_cases hc:cap=0
 ·obtain rfl:len=0:=by omega
  subst hc;exact ⟨_,Good.one (.slice (rows:=[]) hu (Nat.zero_le _) (fun _ h=>by cases h) (fun _ h=>by cases h)) .s0 rfl⟩
 ·obtain ⟨f,hf⟩:=Classical.axiomOfChoice (r:=fun i (p:List Value×List AV)=>i<cap→w.cells? base (a.add (i*P.cellsOf e)) (P.cellsOf e)=some p.1∧Good P w (ez P e) p.1 p.2) (fun i=>by
   by_cases hi:i<cap
   ·obtain ⟨ci,h1,xs,h2⟩:=h i hi;exact ⟨(ci,xs),fun _=>⟨h1,h2⟩⟩
   ·exact ⟨([],[]),fun h=>(hi h).elim⟩)
  obtain ⟨b,off,sp⟩:=a
  have c0:∃v,w.cell? ⟨b,off,sp⟩=some v:=by
   obtain ⟨_,hlen,hc⟩:=ON (hf 0 (by omega)).1;have:=hc 0 hk;rw [bO (by omega)] at this;refine ⟨_,Eq.trans ?_ this⟩;simp [Addr.add]
  obtain ⟨v0,c0⟩:=c0;obtain rfl:sp=none:=World.cell?_spot c0
  have cell:∀i j,i<cap→j<P.cellsOf e→w.cell? ⟨b,off+(i*P.cellsOf e+j),none⟩=some ((f i).1.getD j undef):=fun i j hi hj=>by
   obtain ⟨_,hlen,hc⟩:=ON (hf i hi).1;have:=hc j hj;rw [bO (by omega)] at this;simp only [aY,bO (show j<(f i).1.length by omega),Option.getD_some];rw [←this];congr 1;unfold Addr.add;by_cases h1:i*P.cellsOf e=0<;>by_cases h2:j=0<;>simp [h1,h2,Nat.add_assoc]
  have hb:b<w.heap.size:=by
   unfold World.cell? at c0;split at c0
   ·rename_i he;exact jM he
   ·cases c0
  have DX:∀i,i<cap→(f i).2.length=P.cellsOf e∧(f i).1.length=P.cellsOf e:=fun i hi=>by
   obtain ⟨_,hlen,_⟩:=ON (hf i hi).1;exact ⟨(hf i hi).2.len.trans hlen,hlen⟩
  have hlen:((fM len).map fun i=>(f i).2).length=len:=by simp
  have get:∀i,i<len→((fM len).map fun i=>(f i).2).getD i []=(f i).2:=fun i hi=>by simp [aY,hi]
  have mem:∀r,r∈((fM len).map fun i=>(f i).2)→∃i,i<len∧r=(f i).2:=fun r hr=>by
   obtain ⟨i,hi,rfl⟩:=cV.1 hr;exact ⟨i,kY.1 hi,rfl⟩
  refine ⟨[.s ((fM len).map fun i=>(f i).2)],Good.one (.slice hu (by rw [hlen];omega) (fun r hr=>?_) (fun r hr=>?_)) ?_ rfl⟩
  ·obtain ⟨i,hi,rfl⟩:=mem r hr;exact (DX i (by omega)).1
  ·obtain ⟨i,hi,rfl⟩:=mem r hr;exact (hf i (by omega)).2.uJ
  ·have:=bh.s (w:=w) (F:=Old w) (rows:=(fM len).map fun i=>(f i).2) (b:=b) (off:=off) (c:=cap) (k:=P.cellsOf e) (u:=fun i j=>(f i).1.getD j undef) hb (by rw [hlen];exact mb) l5
    (fun i hi=>by rw [hlen] at hi;rw [get i hi];exact (DX i (by omega)).1)
    (fun i j hi hj=>cell i j (by rw [hlen] at hi;omega) hj)
    (fun i j hi hj=>by rw [hlen] at hi;exact ((hf i (by omega)).2.rd j (by rw [(DX i (by omega)).2];exact hj)).2)
    (fun i j hi hj=>by rw [hlen] at hi;rw [get i hi];exact ((hf i (by omega)).2.rd j (by rw [(DX i (by omega)).2];exact hj)).1)
   rwa [hlen] at this
def YY (hl:laidOutB P=true):∀(n:Nat) (t:TypeId) (cs:List Value) (x:DataW H×List MemPlace),jc P t →
  zy enc P w base (fun _=>true) held n t cs=some x→∃xs,Good P w (ez P t) cs xs:=by
 intro n;induction n with
 |zero=>intro t cs x _ h;simp [zy] at h
 |succ n ih =>
  intro t cs x hp h;have gH:=hp;obtain ⟨ht,m,hm⟩:=gH;cases m with
  |zero=>cases hm
  |succ m =>
   cases hu:P.underlying t with
   |none=>simp [oN,hu] at hm
   |some d =>
    cases d with
    |bool =>
     simp only [zy,hu] at h;split at h<;>simp_all;exact ⟨_,Good.one (.bool hu) (.v (.inl rfl)) rfl⟩
    |int k =>
     simp only [zy,hu] at h;split at h<;>simp_all;obtain ⟨⟨rfl,hw⟩,_⟩:=h;exact ⟨_,Good.one (.int hu hw) (.v (.inl rfl)) rfl⟩
    |string =>
     simp only [zy,hu] at h;split at h<;>simp_all;exact ⟨_,Good.one (.str hu h.1) (.v (.inl rfl)) rfl⟩
    |slice e =>
     obtain ⟨he,hk⟩:=hp.slice hl hu;rw [N5] at h;unfold N4 at h;rw [hu] at h;split at h
     case h_7=>exact ⟨_,Good.one (.slice (rows:=[]) hu (Nat.zero_le _) (fun _ h=>by cases h) (fun _ h=>by cases h)) .s0 rfl⟩
     case h_8 e' a len cap e1 =>
      cases e1;simp only at h;split at h
      case isFalse=>cases h
      case isTrue hb =>
      obtain ⟨_,mb,l5⟩:=hb;cases Je:List.mapM (fun i=>(w.cells? base (a.add (i*P.cellsOf e)) (P.cellsOf e)).bind (zy enc P w base (fun x=>true) held n e)) (fM len) with
      |none=>rw [Je] at h;cases h
      |some elems =>
      rw [Je] at h;simp only [aX,if_true,zI] at h;obtain ⟨rest,mc,_⟩:=h
      exact YX hu hk mb l5 fun i hi=>by
       by_cases sX:i<len
       ·obtain ⟨y,hy⟩:=EC Je (kY.2 sX);obtain ⟨ci,hc,hy⟩:=Wg.1 hy;exact ⟨ci,hc,ih _ _ _ he hy⟩
       ·obtain ⟨y,hy⟩:=EC mc (kY.2 (show i-len<cap-len by omega));rw [show len+(i-len)=i by omega] at hy;obtain ⟨ci,hc,hy⟩:=Wg.1 hy;exact ⟨ci,hc,ih _ _ _ he hy⟩
     all_goals first|(rename_i e1;cases e1;done)|(rename_i e1 _;cases e1;done)|cases h
    |struct fs =>
     obtain ⟨h1,h2,h3⟩:=hp.struct hl hu;rw [N5] at h;unfold N4 at h;rw [hu] at h;simp only at h;split at h
     case isFalse=>cases h
     case isTrue eO =>
     obtain ⟨l,jx,_⟩:=zI.1 h;obtain ⟨xs,hg⟩:=Qa (fun t cs x=>ih t cs x) fs.toList 0 cs h1 (fun j f hf=>by rw [iZ];exact h3 j f hf) (by rw [iZ,←h2];exact eO)
      fun f hf=>EC jx hf
     exact ⟨xs,hg.len,.struct hu hg.uJ,hg.rd⟩
    |array k e =>
     obtain ⟨he,hc⟩:=hp.array hl hu;rw [N5] at h;unfold N4 at h;rw [hu] at h;simp only at h;split at h
     case isFalse=>cases h
     case isTrue eO =>
     obtain ⟨l,jx,_⟩:=zI.1 h;obtain ⟨xs,hg⟩:=P' (fun t cs x=>ih t cs x) he k 0 cs (by rw [iZ,←hc];exact eO)
      fun i hi=>by rw [iZ];exact EC jx (kY.2 hi)
     exact ⟨xs,hg.len,.arr hu hg.uJ,hg.rd⟩
    |_=>simp [oN,hu] at hm
def Xk (hl:laidOutB P=true) {t:TypeId} {v:Value} {d:DataW H} {p:List MemPlace} {b0:Nat} (hp:jc P t) (bK:zL P w .any b0 t v) (h:DataW.Trod enc P w base (fun _=>true) held t v d p) :
  ∃x,oZ P t x∧bh w (Old w) x v:=by
 obtain ⟨n,hn⟩:=h;obtain ⟨xs,hg⟩:=YY hl n t _ _ hp hn;by_cases hs:(∃fs,P.underlying t=some (.struct fs))∨∃n e,P.underlying t=some (.array n e)
 ·have eO:∃cs,v=.agg cs:=by
   rcases hs with ⟨fs,hu⟩|⟨k,e,hu⟩
   ·simp only [zL,hu] at bK;obtain ⟨cs,rfl,_,_⟩:=bK;exact ⟨cs,rfl⟩
   ·simp only [zL,hu] at bK;obtain ⟨cs,rfl,_,_⟩:=bK;exact ⟨cs,rfl⟩
  obtain ⟨cs,rfl⟩:=eO
  have dH:cs.toList.length=cs.size:=by simp
  have get:∀i,cs.getD i undef=cs.toList.getD i undef:=fun i=>by simp [j3,aY]
  refine ⟨.a xs,?_,.a (by rw [hg.len];simp [Value.cells]) (fun i hi=>?_) fun i hi=>?_⟩
  ·rcases hs with ⟨fs,hu⟩|⟨k,e,hu⟩
   iterate 2 (simp only [oZ,hu];exact ⟨xs,rfl,hg.uJ⟩)
  ·rw [get];exact (hg.rd i (by rw [←hg.len];exact hi)).2
  ·rw [get];exact (hg.rd i (by rw [←hg.len];exact hi)).1
 ·have ek:v.cells.toList=[v]:=by
   cases v with
   |agg cs =>
    have ha:∀fs,P.underlying t≠some (.struct fs):=fun fs he=>hs (.inl ⟨fs,he⟩);have hb:∀n e,P.underlying t≠some (.array n e):=fun n e he=>hs (.inr ⟨n,e,he⟩);unfold zL at bK;split at bK
    ·rename_i he;exact (ha _ he).elim
    ·rename_i he;exact (hb _ _ he).elim
    ·unfold Cell.okWide at bK
     split at bK<;>first|contradiction|(unfold Cell.ok at bK;split at bK<;>first|contradiction|cases bK)
   |_=>rfl
  rw [ek] at hg
  obtain ⟨x,rfl⟩:∃x,xs=[x]:=by
   have:=hg.len
   match xs,this with
   |[x],_=>exact ⟨x,rfl⟩
  refine ⟨x,?_,(hg.rd 0 (by simp)).1⟩;unfold oZ;split
  ·rename_i he;exact (hs (.inl ⟨_,he⟩)).elim
  ·rename_i he;exact (hs (.inr ⟨_,_,he⟩)).elim
  ·exact hg.uJ
def Pr (hl:laidOutB P=true):∀{ts:List TypeId} {vs:List Value} {ds:List (DataW H)} {ps:List MemPlace},GY enc P w base (fun _=>true) held ts vs ds ps→(∀t,t∈ts→jc P t) →
  (∀(j:Nat) t v,ts[j]?=some t→vs[j]?=some v→zL P w .any base t v) →
  ∃xs,mN P ts xs∧xs.length=vs.length∧∀i,i<xs.length→bh w (Old w) (xs.getD i .χ) (vs.getD i undef)
 |[],vs,ds,ps,h,_,_=>by
  obtain ⟨rfl,rfl,rfl⟩:=trodAll_nil h;exact ⟨[],.nil,rfl,fun i hi=>by simp at hi⟩
 |t::ts,vs,ds,ps,h,hp,bK=>by
  obtain ⟨v,U3,d,Pz,p,q,rfl,rfl,rfl,h1,h2⟩:=trodAll_cons h;obtain ⟨x,hx,hr⟩:=Xk hl (hp t (by simp)) (bK 0 t v rfl rfl) h1;obtain ⟨xs,mh,hlen,kr⟩:=Pr hl h2 (fun t ht=>hp t (by simp [ht])) fun j t v ht hv=>bK (j+1) t v (by simpa using ht) (by simpa using hv);refine ⟨x::xs,.cons hx mh,by simp [hlen],fun i hi=>?_⟩;cases i with
  |zero=>simpa using hr
  |succ i=>simpa using kr i (by simpa using hi)
def UZ {w':World} (hl:laidOutB P=true) (hb:Below w.heap.size w w') {sp:Nat→Bool}:∀{ts:List TypeId} {vs:List Value} {ds:List (DataW H)} {ps:List MemPlace},
  GY enc P w 0 (fun _=>true) true ts vs ds ps→(∀t,t∈ts→jc P t)→(∀p,p∈ps→sp p.block=true)→GY enc P w' 0 sp true ts vs ds ps
 |[],vs,ds,ps,h,_,_=>by
  obtain ⟨rfl,rfl,rfl⟩:=trodAll_nil h;exact rfl
 |t::ts,vs,ds,ps,h,hp,hs=>by
  have Ξ:=h.lt;obtain ⟨v,U3,d,Pz,p,q,rfl,rfl,rfl,⟨n,h1⟩,h2⟩:=trodAll_cons h;refine ⟨p,q,⟨n,?_⟩,UZ hl hb h2 (fun t ht=>hp t (by simp [ht])) fun p gH=>hs p (by simp [gH]),rfl⟩;refine DataW.trod_stays (acr hl) (fun hT hu=>(hT.slice hl hu).2) (fun hf=>by cases hf) (hp t (by simp)) h1 (fun p' gH=>?_) fun p' gH=>hs p' (by simp [gH]);have aH:=hb.block p'.block (Ξ p' (by simp [gH]));cases p' with
  |cell b off=>exact World.cell?_of_block (w:=w) aH
  |map b=>exact aH
def abd {w':World} (hb:Below w.heap.size w w') (may:MemPlace→Prop):w.keptBut w' may:=by
 refine ⟨hb.os,hb.output,fun i hi=>?_⟩;rw [hb.block i hi];cases w.heap[i]? with
 |none=>rfl
 |some o=>cases o<;>simp
def abk {C:Checked} {f:FuncId} {fn:Func} {s:ChangeSpec} {tb:TypeId} {W:World} {base:Nat} {args:Array Value} {ds gs:List (DataW H)} {before:List MemPlace} (hl:laidOutB C.prog=true)
  (hv:s.vars=[]) (hs:∀ds:List (DataW H),ds.length=fn.params.toList.length→s.fn H ds={ results:=[.lit (.bool true)],args:=ds })
  (hr:fn.resultTypes=#[tb]) (JV:C.prog.underlying tb=some .bool) (s8:fn.params.toList.all (fun t=>ej t C.prog.types.size&&oN C.prog 12 t)=true)
  (rq:dC.ok W (Old W)) (h:∀xs,mN C.prog fn.params.toList xs→Pure C.prog f xs (.v (.bool true)))
  (J0:∀(j:Nat) t v,fn.params[j]?=some t→args[j]?=some v→zL C.prog W .any base t v)
  (hW:DataW.Whole enc C.prog fn.params.toList s.vars false W args.toList ds gs before) :
  Calls C.prog f args W fun e W'=>∃v,e=.returned v∧s.post enc C.prog fn false true false false W args v W':=by
 have Qg:=hW;obtain ⟨p,q,hA,hV,rfl,hfz,cX⟩:=hW
 have Rf:∀t,t∈fn.params.toList→jc C.prog t:=fun t ht=>by
  have:=dJ.1 s8 t ht;simp only [bM,fY] at this;exact ⟨this.1,_,this.2⟩
 rw [hv] at hV;obtain ⟨rfl,rfl⟩:=trodVars_none hV;obtain ⟨xs,mh,hlen,eP⟩:=Pr hl hA Rf fun j t v ht hv=>Value.okWide_any_base (J0 j t v (by simpa using ht) (by simpa using hv));have hI:Inv W (Old W) (fun _=>undef) [] :=
  ⟨fun _ h=>h,fun _ _ hm=>(eI hm).elim,oY,fun _ ⟨_,_,hm,_⟩=>(eI hm).elim,fun _ _ _ _ _ hm=>(eI hm).elim,rq⟩
 refine ((h xs mh).2 W (Old W) (fun _=>undef) args hI (by rw [hlen];simp) fun i hi=>.i ?_).mono ?_
 ·have:=eP i hi
  have e:args.getD i undef=args.toList.getD i undef:=by simp [j3,aY]
  rw [e];exact this
 rintro e W' ⟨v,rfl,hb,hx⟩;cases hx
 have Ar:ds.length=fn.params.toList.length:=by
  have:∀{ts:List TypeId} {vs:List Value} {ds:List (DataW H)} {ps:List MemPlace},GY enc C.prog W 0 (fun _=>true) true ts vs ds ps→ds.length=ts.length:=by
   intro ts;induction ts with
   |nil=>intro vs ds ps h;obtain ⟨rfl,rfl,rfl⟩:=trodAll_nil h;rfl
   |cons t ts ih=>intro vs ds ps h;obtain ⟨v,U3,d,Pz,p,q,rfl,rfl,rfl,h1,h2⟩:=trodAll_cons h;simp [ih h2]
  exact this hA
 have hold:∀q,q∈p→(fun b=>decide (b<W.heap.size)) q.block=true:=fun q hq=>by simpa using Qg.lt q (by simp [hq])
 refine ⟨_,rfl,ds,[],p++[],[],p,[],Qg,?_,?_,?_,abd hb _,fun h=>by cases h⟩
 ·rw [sd,hs ds Ar,hr];exact trodAll_mk1 (shut_bool JV true)
 ·rw [sd,hs ds Ar];exact UZ hl hb hA Rf hold
 ·rw [sd,hs ds Ar,hv];exact rfl
def W0 {w:World} {a:Addr} {v:Value} (h:w.cell? a=some v):a.block<w.heap.size:=by
 refine Nat.lt_of_not_le fun hle=>?_
 have:w.heap[a.block]?=none:=by simpa using hle
 simp [World.cell?,this] at h
def abl {C:Checked} {os:Os} {f:FuncId} {fn:Func} {s:ChangeSpec} {tb:TypeId} {X:World→Prop} (hX:∀w w':World,w.heap=w'.heap→X w→X w') (hl:laidOutB C.prog=true) (own:ownKnob C.prog.godebug=none) (started:os.Started) (abL:C.prog.inits.idxOf? f=none) (dj:C.prog.funcs[f]?=some fn)
  (witness:∃(w:World) (tape:Tape) (i:Input),w.os=os∧(w.forCall tape i).Shaped C.prog∧i.vars=[]∧Input.okWide C.prog (w.forCall tape i) .any w.heap.size f i ∧
   ((s.pre enc C.prog fn [] false (w.forCall tape i).memory i.args∧X (w.forCall tape i).memory)∧sizedMet enc C.prog fn (We s) false (w.forCall tape i).memory i.args)∧({}:Assume).holds C.prog (lone (Frame.enter C.prog f i.args .normal) [] (w.forCall tape i)))
  (hv:s.vars=[]) (hs:∀ds:List (DataW H),ds.length=fn.params.toList.length→s.fn H ds={ results:=[.lit (.bool true)],args:=ds })
  (hr:fn.resultTypes=#[tb]) (JV:C.prog.underlying tb=some .bool) (s8:fn.params.toList.all (fun t=>ej t C.prog.types.size&&oN C.prog 12 t)=true)
  (rq:∀W:World,X W→dC.ok W (Old W)) (h:∀xs,mN C.prog fn.params.toList xs→Pure C.prog f xs (.v (.bool true))) :
  ReturnsInHanded {} C os f .any (fun w args=>(s.pre enc C.prog fn [] false w args∧X w)∧sizedMet enc C.prog fn (We s) false w args) (s.post enc C.prog fn false true false false):=by
 refine returnsInHanded_of_change_and (C:=C) (X:=fun w _=>X w) (fun w w' _ hh hx=>hX w w' hh hx) own started abL dj witness ?_;intro W base args ds gs before J0 hW _ _ hx _;exact abk hl hv hs hr JV s8 (rq W hx) h J0 hW
end
end
section
open Go.RowKit
variable [M:bU] [G:dC]
section
variable {P:Program} {T:TT} {w:World} {F:Nat→Prop} {β:Nat→Value}
def lg (P:Program) (g:FuncId) (args:List AV) (c:Chunk) (R:AV→Chunk→Prop):Prop :=
 oj P g∧∀(w:World) (F:Nat→Prop) (β:Nat→Value) (vs:Array Value),Inv w F β [(1000,c)]→vs.size=args.length →
  (∀i,i<args.length→Rd w F β (args.getD i .χ) (vs.getD i undef)) →
  Calls P g vs w fun e w'=>∃v,e=.returned v∧∃r c' F',R r c'∧bh w' F' r v∧w'.os=w.os∧iP w w'∧w'.output=w.output∧w.heap.size≤w'.heap.size ∧
   (∀b,b<w.heap.size→bF (β 1000)≠some b→w'.heap[b]?=w.heap[b]?)∧(∀b,F b→F' b)∧(∀b,F' b→eU F w w' b)∧xl c'=true∧c'.holds w' F' β 1000
def Ws (R:AV→Chunk→Prop) (x:AV) (st:ai):Prop:=∃r c',R r c'∧di 1000 st.H=some c'∧xl c'=true∧Fz (mT 1000 st.H) x r
def Lr (id:Nat) (x y:AV):Prop:=∀(w:World) (F:Nat→Prop) (β aw:Nat→Value) (u:Value),aw 1000=β id→Rd w F β x u→Rd w F aw y u
inductive uC (id:Nat):List AV→List AV→Prop where
 |nil:uC id [] []
 |cons {x y:AV} {xs ys:List AV} (h:Lr id x y) (t:uC id xs ys):uC id (x::xs) (y::ys)
def uC.spec {id:Nat} {xs ys:List AV} (h:uC id xs ys):xs.length=ys.length∧∀i,i<xs.length→Lr id (xs.getD i .χ) (ys.getD i .χ):=by
 induction h with
 |nil=>exact ⟨rfl,fun i hi=>by simp at hi⟩
 |cons h t ih =>
  refine ⟨by simp [ih.1],fun i hi=>?_⟩;cases i with
  |zero=>simpa using h
  |succ i=>simpa using ih.2 i (by simpa using hi)
def Lr.cq {id:Nat} {x:AV} (h:jB x=true):Lr id x x:=fun _ _ _ _ _ _ hr=>.i (Ek h hr)
def Lr.nil {id:Nat}:Lr id (.v (.slice none 0 0)) (.s []):=fun _ _ _ _ _ _ hr=>by rw [hr.bA];exact .i .s0
def Lr.b {id off:Nat}:Lr id (.b id off) (.b 1000 off):=fun _ _ _ _ _ aj hr=>by
 obtain ⟨e9,h1,rfl⟩:=hr.lh;exact .b (aj.trans h1)
def Lr.o {id:Nat}:Lr id (.o id) (.o 1000):=fun _ _ _ _ _ aj hr=>by
 obtain ⟨a,n,c,h1,rfl⟩:=hr.jo;exact .o (aj.trans h1)
def Θ.W2 {g:FuncId} {id:Nat} {xs ys:List AV} {st:ai} {c:Chunk} {R:AV→Chunk→Prop} {k:AV→ai→Prop} (h:lg P g ys c R) (hc:di id st.H=some c) (gw:xl c=true) (hle:uC id xs ys)
  (hk:∀r c',R r c'→k r ⟨st.f,eX id c' st.H⟩):Θ P g xs st k:=by
 obtain ⟨hl,hz⟩:=hle.spec;have hm:=eE hc;refine ⟨h.1,fun w F β vs hI hs hv=>?_⟩;let cT:Nat→Value:=fun i=>if i=1000 then β id else undef;have cy:cT 1000=β id:=if_pos rfl
 have rj:Inv w F cT [(1000,c)]:=by
  refine ⟨hI.bW,fun i c' bE=>?_,by simp,fun b ⟨i,c',bE,hb⟩=>?_,fun i c1 i' oq b h1 h2 _ _=>?_,hI.eN⟩
  ·simp only [dV,gC] at bE;obtain ⟨rfl,rfl⟩:=bE;exact nR gw (fun _ h=>h) cy (hI.holds _ _ hm)
  ·simp only [dV,gC] at bE;obtain ⟨rfl,rfl⟩:=bE;rw [cy] at hb;exact hI.apart b ⟨id,c',hm,hb⟩
  ·simp only [dV,gC] at h1 h2;rw [h1.1,h2.1]
 refine (h.2 w F cT vs rj (by omega) fun i hi=>hz i (by omega) w F β cT _ cy (hv i (by omega))).mono ?_;rintro e w' ⟨v,rfl,r,c',F',hR,hr,rI,JW,qB,aZ,hblk,kR,eu,Jm,fc⟩;rw [cy] at hblk
 have cY:∀b,br β (eX id c' st.H) b→br β st.H b:=by
  rintro b ⟨i,c2,h,hb⟩
  rcases lJ h with ⟨rfl,_,c3,h3⟩|⟨_,h3⟩
  ·exact ⟨i,c3,h3,hb⟩
  ·exact ⟨i,c2,h3,hb⟩
 have I2:∀b,F b→w'.heap[b]?=w.heap[b]?:=fun b hb=>hblk b (hI.bW b hb) fun he=>hI.apart b ⟨id,c,hm,he⟩ hb;refine ⟨v,rfl,r,_,F',β,hk r c' hR,.i hr,⟨rI,JW,qB,aZ,fun b hb bw=>hblk b hb fun he=>bw ⟨id,c,hm,he⟩,kR,fun b hb=>(eu b hb).elim .inl fun h=>.inr (.inl h.1),fun b hb=>.inr (cY b hb),fun t u hu=>hu.frame I2 kR,?_,fun _ _=>rfl⟩⟩;refine ⟨fun b hb=>(eu b hb).elim (fun h=>mJ (hI.bW b h) aZ) fun h=>h.2,fun i c2 h=>?_,by rw [wH];exact hI.keys,fun b ho hF=>?_,fun i c1 i' oq b h h' hb aH=>?_,hI.eN.frame I2 kR⟩
 ·rcases lJ h with ⟨rfl,rfl,_⟩|⟨hi,h2⟩
  ·exact nR Jm (fun _ h=>h) cy.symm fc
  ·exact nQ I2 kR (fun b hb=>hblk b (hI.fj ⟨i,c2,h2,hb⟩) fun he=>hi (hI.dR i c2 id c b h2 hm hb he)) (hI.holds i c2 h2)
 ·rcases eu b hF with h1|h1
  ·exact hI.apart b (cY b ho) h1
  ·exact absurd (hI.fj (cY b ho)) (kZ.2 h1.1)
 ·have hx:∃c,(i,c)∈st.H:=by rcases lJ h with ⟨_,_,c2,h2⟩|⟨_,h2⟩<;>exact ⟨_,h2⟩
  have hy:∃c,(i',c)∈st.H:=by rcases lJ h' with ⟨_,_,c2,h2⟩|⟨_,h2⟩<;>exact ⟨_,h2⟩
  obtain ⟨c2,h2⟩:=hx;obtain ⟨c3,h3⟩:=hy;exact hI.dR i c2 i' c3 b h2 h3 hb aH
def Θ.freeze {g:Tg} {id E K:Nat} {rows:List (List AV)} {xs:List AV} {st:ai} {k:AV→ai→Prop} (hc:di id st.H=some (.own E K rows)) (h:Θ P g (xs.map (sb (.s rows) 2 id)) (Io id rows st) k):Θ P g xs st k:=by
 have hm:=eE hc;refine ⟨h.1,fun w F β vs hI hs hv=>?_⟩
 have hz:∀u,Rd w (fun b=>F b∨bF (β id)=some b) β (.o id) u→Rd w (fun b=>F b∨bF (β id)=some b) β (.s rows) u:=fun u hu=>by
  refine .i (Iq hI hm ?_);obtain ⟨a,n,c,h1,rfl⟩:=hu.jo;exact .o h1
 have up:∀{x u},Rd w F β x u→Rd w (fun b=>F b∨bF (β id)=some b) β x u:=fun h=>h.frame (fun _ _=>rfl) fun _ h=>.inl h
 have lY:Inv w (fun b=>F b∨bF (β id)=some b) β (mV id rows st.H):=by
  refine ⟨fun b hb=>hb.elim (hI.bW b) fun hb=>hI.fj ⟨id,_,hm,hb⟩,fun i c h=>?_,z8 hI.keys,fun b ⟨i,c,h,hb⟩ hF=>?_,fun i c i' c' b h h' hb aH=>?_,hI.eN.more fun _ h=>.inl h⟩
  ·obtain ⟨hi,c',h',rfl⟩:=kj h;have hh:=hI.holds i c' h';cases c' with
   |own E' K' r=>exact nR (c:=.own E' K' r) rfl (fun _ h=>.inl h) rfl hh
   |mp ag r=>exact nR (c:=.mp ag r) rfl (fun _ h=>.inl h) rfl hh
   |si s pos=>exact nR (c:=.si s pos) rfl (fun _ h=>.inl h) rfl hh
   |lp l e R L =>
    obtain ⟨fn,tmps,D,hb,vg,qz,vG⟩:=hh;refine ⟨fn,tmps,D,hb,vg,qz,fun p hp=>?_⟩;obtain ⟨q,hq,rfl⟩:=cV.1 hp;exact pP hz (fun _ _=>rfl) 2 (up (vG q hq))
   |box cells =>
    obtain ⟨b,cs,e,hb,hh,hs,h1,hr⟩:=hh;refine ⟨b,cs,e,hb,hh,by simpa using hs,fun j hj=>h1 j (by simpa using hj),fun j hj=>?_⟩
    have hj:j<cells.length:=by simpa using hj
    have:(cells.map (sb (.s rows) 1 id)).getD j .χ=sb (.s rows) 1 id (cells.getD j .χ):=by simp [aY,hj]
    rw [this];exact pP hz (fun _ _=>rfl) 1 (up (hr j hj))
  ·obtain ⟨hi,c',h',_⟩:=kj h
   rcases hF with hF|hF
   ·exact hI.apart b ⟨i,c',h',hb⟩ hF
   ·exact hi (hI.dR i c' id _ b h' hm hb hF)
  ·obtain ⟨_,c2,h2,_⟩:=kj h;obtain ⟨_,c3,h3,_⟩:=kj h';exact hI.dR i c2 i' c3 b h2 h3 hb aH
 have vD:∀b,br β (mV id rows st.H) b→br β st.H b:=fun b ⟨i,c,h,hb⟩=>by
  obtain ⟨_,c2,h2,_⟩:=kj h;exact ⟨i,c2,h2,hb⟩
 refine (h.2 w _ β vs lY (by simpa using hs) fun i hi=>?_).mono ?_
 ·have hi:i<xs.length:=by simpa using hi
  have:(xs.map (sb (.s rows) 2 id)).getD i .χ=sb (.s rows) 2 id (xs.getD i .χ):=by simp [aY,hi]
  rw [this];exact pP hz (fun _ _=>rfl) 2 (up (hv i hi))
 ·rintro e w' ⟨v,rfl,r,av,F',aw,hk,hr,hx⟩
  refine ⟨v,rfl,r,av,F',aw,hk,hr,hx.os,hx.tape,hx.output,hx.size,fun b hb bw=>hx.block b hb fun ho=>bw (vD b ho),fun b hb=>hx.mono b (.inl hb),fun b hb=>?_,fun b hb=>(hx.owned b hb).elim .inl fun h=>.inr (vD b h),
   fun t u hu=>hx.keep t u (pP hz (fun _ _=>rfl) 2 (up hu)),hx.inv,hx.fH⟩
  rcases hx.new b hb with h1|h1|h1
  ·rcases h1 with h1|h1
   ·exact .inl h1
   ·exact .inr (.inr ⟨id,_,hm,h1⟩)
  ·exact .inr (.inl h1)
  ·exact .inr (.inr (vD b h1))
def Fz.c {H:Hp} {fn:Fn} {fs z_ cs zW:List AV} (h:nB H fs z_) (h':nB H cs zW):Fz H (.c fn fs cs) (.c fn z_ zW):=fun _ _ _ _ hI hr=>by
 obtain ⟨us,vs,rfl,hs,dL,hu,hv⟩:=hr.lT;obtain ⟨hl,hz⟩:=h.spec;obtain ⟨rB,iq⟩:=h'.spec;exact .c (by omega) (by omega) (fun i hi=>hz i (by omega) _ _ _ _ hI (hu i (by omega))) fun i hi=>iq i (by omega) _ _ _ _ hI (hv i (by omega))
def Fz.b {H:Hp} {id:Nat} {cells:List AV} (h:di id H=some (.box cells)) (gw:cells.all eL=true):Fz H (.b id 0) (.p cells):=fun w F β u hI hr=>by
 have hm:=eE h;obtain ⟨e9,hb,rfl⟩:=hr.lh;obtain ⟨b,cs,e,aj,hh,hs,h1,eP⟩:=hI.holds _ _ hm;rw [hb] at aj;cases aj;refine .p (b:=e9) (off:=0) (u:=fun j=>cs.getD j undef) (.inr ⟨id,_,hm,by rw [hb];rfl⟩) (fun j hj=>?_) h1 fun j hj=>?_
 ·rw [iZ,cell_of_row w e9 _ cs e (0,0) hh];simp [hs,hj]
 ·have:eL (cells.getD j .χ)=true:=dJ.1 gw _ (by rw [List.getD_eq_getElem?_getD,bO hj];exact List.getElem_mem _);exact (mj this (eP j hj)).frame (fun _ _=>rfl) fun _ h=>.inl h
end
end
section
open Go.RowKit
variable [M:bU] [G:dC] [R:dW]
structure Ok (P:Program) (n:Nat) (c:Code) (st:ai) (Q:Exit→ai→Prop):Prop where
 h:∀C:Ctx,C.n=n→CY P C c st Q
def Wk (s s':ai):Prop:=∀(C:Ctx) (a:Act) (w:World),Rel C s a w→Rel C s' a w
def nx (P:Program) (n:Nat) (y:Code) (Q:Exit→ai→Prop):Exit→ai→Prop:=fun e s=>match e with
 |.normal=>Ok P n y s Q
 |e=>Q e s
def bk (id:Nat) (Q:Exit→ai→Prop):Exit→ai→Prop:=fun e s=>match e with
 |.exit i=>bif aG i id then Q .normal s else Q (.exit i) s
 |e=>Q e s
def jn (s1:ai) (Q:Exit→ai→Prop):Exit→ai→Prop:=fun e s=>match e with
 |.normal=>Wk s s1
 |e=>Q e s
def jnE {σ:Type} (J:σ→ai) (S:σ→Prop) (Q:Exit→ai→Prop):Exit→ai→Prop:=fun e s=>match e with
 |.normal=>∃v,S v∧Wk s (J v)
 |e=>Q e s
section
variable {P:Program} {T:TT} {n:Nat} {st:ai} {Q:Exit→ai→Prop}
def Wk.refl (s:ai):Wk s s:=fun _ _ _ h=>h
def Wk.trans {a b c:ai} (h:Wk a b) (h':Wk b c):Wk a c:=fun C x w hr=>h' C x w (h C x w hr)
def Ok.wk {c:Code} {s':ai} (h:Wk st s') (hc:Ok P n c s' Q):Ok P n c st Q:=⟨fun C hn a w hr=>hc.h C hn a w (h C a w hr)⟩
def Ok.skip (h:Q .normal st):Ok P n .skip st Q:=⟨fun _ _ _ _ hr=>wpIn_skip ⟨st,hr,h⟩⟩
def Ok.label {l:Nat} (h:Q .normal st):Ok P n (.label l) st Q:=⟨fun _ _ _ _ hr=>wpIn_label ⟨st,hr,h⟩⟩
def Ok.exit {id:Nat} (h:Q (.exit id) st):Ok P n (.exit id) st Q:=⟨fun _ _ _ _ hr=>wpIn_exit ⟨st,hr,h⟩⟩
def Ok.ret (h:Q .ret st):Ok P n .ret st Q:=⟨fun _ _ _ _ hr=>wpIn_ret ⟨st,hr,h⟩⟩
def Ok.seq {x y:Code} (h:Ok P n x st (nx P n y Q)):Ok P n (.seq x y) st Q:=⟨fun C hn a w hr=>by
 refine wpIn_seq (wpIn_mono (h.h C hn a w hr) ?_);rintro e a' w' ⟨av,cj,hq⟩
 cases e<;>first|exact (show Ok P n y av Q from hq).h C hn a' w' cj|exact ⟨av,cj,hq⟩⟩
def Ok.aB {x y:Code} (s1:ai) (hx:Ok P n x st (jn s1 Q)) (hy:Ok P n y s1 Q):Ok P n (.seq x y) st Q:=⟨fun C hn a w hr=>by
 refine wpIn_seq (wpIn_mono (hx.h C hn a w hr) ?_);rintro e a' w' ⟨av,cj,hq⟩
 cases e<;>first|exact hy.h C hn a' w' ((show Wk av s1 from hq) C a' w' cj)|exact ⟨av,cj,hq⟩⟩
def Ok.cU {σ:Type} {x y:Code} (J:σ→ai) (S:σ→Prop) (hx:Ok P n x st (jnE J S Q)) (hy:∀v,S v→Ok P n y (J v) Q):Ok P n (.seq x y) st Q:=⟨fun C hn a w hr=>by
 refine wpIn_seq (wpIn_mono (hx.h C hn a w hr) ?_);rintro e a' w' ⟨av,cj,hq⟩
 cases e<;>first|(obtain ⟨v,hv,hw⟩:=(show ∃v,S v∧Wk av (J v) from hq);exact (hy v hv).h C hn a' w' (hw C a' w' cj))|exact ⟨av,cj,hq⟩⟩
def Ok.region {id:Nat} {ops:Array Oper} (hT:bB P T) (h:ix P T n ops ops.toList st (Q .normal)):Ok P n (.region id ops false) st Q :=
 ⟨fun C hn=>NT (C:=C) hT hn (.region id ops false) st Q h⟩
def Ok.draw [MD:p8] [CH:lR] {id m:Nat} {ops:Array Oper} (hT:bB P T) (hm:P.follows .mixedOrders=true) (oB:zY m ops=true)
  (h:pU P T n ops (steady m ops) ⟨preB (dQ m ops) (iQ (dQ m ops) st).f,(iQ (dQ m ops) st).H⟩ fun st1=>qF P st1.f (ops.toList.take m)∧o_ T n (dQ m ops) st1 fun st2=>ix P T n ops (ops.toList.drop m) st2 (Q .normal)):Ok P n (.region id ops true) st Q :=
 ⟨fun C hn=>NT (C:=C) hT hn (.region id ops true) st Q (Xz hT hm oB h)⟩
def Ok.gP [MD:p8] [CH:lR] {id m:Nat} {late:List Nat} {ops:Array Oper} (hT:bB P T) (hm:P.follows .mixedOrders=true) (oB:Dk m late ops=true)
  (h:pU P T n ops (steady m ops) ⟨preB (dQ m ops) (iQ (dQ m ops) st).f,(iQ (dQ m ops) st).H⟩ fun st1=>qF P st1.f (ops.toList.take m)∧o_ T n (dQ m ops) st1 fun st1=>HB T ops m st1 fun st2=>qE P T ops st2 late∧ix P T n ops (ops.toList.drop (m+1)) st2 (Q .normal)):Ok P n (.region id ops true) st Q :=
 ⟨fun C hn=>NT (C:=C) hT hn (.region id ops true) st Q (XA hT hm oB h)⟩
def Ok.cond {d:Nat} {b:Bool} {x y:Code} {ρ:Type} {X Y:Option ρ} {r:ρ} (hb:st.f d=.v (.bool b)) (h:(if b=true then X else Y)=some r)
  (yes:b=true→X=some r→Ok P n x st Q) (no:b=false→Y=some r→Ok P n y st Q):Ok P n (.cond (.tmp d) x y) st Q:=⟨fun C hn a w hr=>by
 have cj:=hr;obtain ⟨F,β,hs,hd,hf,he⟩:=cj;have fF:=hf d;rw [hb] at fF;have hv:a.eval (.tmp d)=.bool b:=fF.bA;refine wpIn_cond_split hv (fun ht=>?_) fun ht=>?_
 ·exact (yes ht (by simpa [ht] using h)).h C hn a w hr
 ·exact (no (by simpa using ht) (by simpa [ht] using h)).h C hn a w hr⟩
def Ok.Xa {d:Nat} {x y:Code} (hb:st.f d=.v (.bool true)) (h:Ok P n x st Q):Ok P n (.cond (.tmp d) x y) st Q :=
 .cond (ρ:=Unit) (X:=some ()) (Y:=none) (r:=()) hb rfl (fun _ _=>h) fun h=>by cases h
def Ok.W_ {d:Nat} {x y:Code} (hb:st.f d=.v (.bool false)) (h:Ok P n y st Q):Ok P n (.cond (.tmp d) x y) st Q :=
 .cond (ρ:=Unit) (X:=none) (Y:=some ()) (r:=()) hb rfl (fun h=>by cases h) fun _ _=>h
def Ok.block {id:Nat} {c:Code} (h:Ok P n c st (bk id Q)):Ok P n (.block id c) st Q:=⟨fun C hn a w hr=>by
 refine wpIn_block (wpIn_mono (h.h C hn a w hr) ?_);rintro e a' w' ⟨av,cj,hq⟩;cases e with
 |exit i =>
  have hq:bif aG i id then Q .normal av else Q (.exit i) av:=hq;by_cases hi:i=id
  ·subst hi;simp only [iz,cond_true] at hq;simp only [Exit.inBlock,if_true];exact ⟨av,cj,hq⟩
  ·have:aG i id=false:=by cases hb:aG i id;rfl;exact absurd (cA hb) hi
   simp only [this,cond_false] at hq;simp only [Exit.inBlock,if_neg hi];exact ⟨av,cj,hq⟩
 |_=>exact ⟨av,cj,hq⟩⟩
def lp {σ ρ:Type} (J:σ→ai) (x:σ⊕ρ) (Q:Exit→ai→Prop):Exit→ai→Prop:=fun e s=>match e with
 |.normal=>∃v,x=.inl v∧Wk s (J v)
 |e=>Q e s
def Ok.loop [K:LK] {σ ρ:Type} {c:Code} (J:σ→ai) (B:σ→Option (σ⊕ρ)) {r:ρ} {s0:σ} (h:Cat.loop B s0=some r) (h0:Wk st (J s0))
  (round:∀s x,B s=some x→(∀r',x=.inr r'→r'=r)→Ok P n c (J s) (lp J x Q)):Ok P n (.loop c) st Q:=⟨fun C hn a w hr=>by
 obtain ⟨k0,lC⟩:=Ku h
 refine wpIn_loop (fun a w=>∃s k,fI B k s=some r∧Rel C (J s) a w) (fun a w=>by
  classical exact if h:∃k s,(fI B k s=some r∧Rel C (J s) a w)∧∀k' s',fI B k' s'=some r∧Rel C (J s') a w→k≤k' then h.choose else 0) ⟨s0,k0,lC,h0 C a w hr⟩ ?_
 intro a w hex
 have DW:∃k s,(fI B k s=some r∧Rel C (J s) a w)∧∀k' s',fI B k' s'=some r∧Rel C (J s') a w→k≤k':=by
  obtain ⟨s,k,hi⟩:=hex
  have key:∀m k s,k=m→fI B k s=some r∧Rel C (J s) a w→∃k s,(fI B k s=some r∧Rel C (J s) a w)∧∀k' s',fI B k' s'=some r∧Rel C (J s') a w→k≤k':=by
   intro m;induction m using qV with
   |_ m ih =>
    intro k s hm hi;by_cases Rp:∃k' s',(fI B k' s'=some r∧Rel C (J s') a w)∧k'<m
    ·obtain ⟨k',s',bj,Ξ⟩:=Rp;exact ih k' Ξ k' s' rfl bj
    ·refine ⟨k,s,hi,fun k' s' bj=>?_⟩
     rcases eY k' k with h|h
     ·exact absurd ⟨k',s',bj,hm▸h⟩ Rp
     ·exact h
  exact key _ k s rfl hi
 obtain ⟨s,⟨hi,il⟩,agS⟩:=DW.choose_spec
 have hk:∃k,DW.choose=k+1:=by
  cases hc:DW.choose with
  |zero=>rw [hc] at hi;cases hi
  |succ k=>exact ⟨k,rfl⟩
 obtain ⟨k,hk⟩:=hk;have pA:=hi;rw [hk] at hi
 obtain ⟨x,hx,sU⟩:∃x,B s=some x∧(∀r',x=.inr r'→r'=r)∧∀s',x=.inl s'→fI B k s'=some r:=by
  cases hB:B s with
  |none=>simp [fI,hB] at hi
  |some x =>
   refine ⟨x,rfl,fun r' cj=>?_,fun s' dL=>?_⟩
   ·subst cj;simpa [fI,hB] using hi
   ·subst dL;simpa [fI,hB] using hi
 refine wpIn_mono ((round s x hx sU.1).h C hn a w il) ?_;rintro e a' w' ⟨av,cj,hq⟩;cases e with
 |normal =>
  obtain ⟨v,hv,hwk⟩:=(show ∃v,x=.inl v∧Wk av (J v) from hq);have jk:=sU.2 v hv;have Rl:=hwk C a' w' cj;refine ⟨⟨v,k,jk,Rl⟩,?_⟩;rw [dif_pos DW,hk];split
  ·rename_i h';obtain ⟨_,_,hm⟩:=h'.choose_spec;exact Nat.lt_succ_of_le (hm k v ⟨jk,Rl⟩)
  ·exact Nat.succ_pos _
 |_=>exact ⟨av,cj,hq⟩⟩
def Γ:List (Nat×AV)→Nat→AV
 |[],_=>.χ
 |(d,x)::r,t=>bif aG t d then x else Γ r t
def sr (f:Nat→AV):List (Nat×AV)→Prop
 |[]=>True
 |(d,x)::r=>Le (f d) x∧sr f r
inductive gM:Chunk→Chunk→Prop where
 |refl (c:Chunk):gM c c
 |box {a b:List AV} (h:h_ a b):gM (.box a) (.box b)
 |lp {l:Nat} {e:LS} {R:RF} {a b:List (Nat×AV)} (h:∀p,p∈b→∃x,(p.1,x)∈a∧Le x p.2):gM (.lp l e R a) (.lp l e R b)
def gM.holds {w:World} {F:Nat→Prop} {β:Nat→Value} {i:Nat} {c c':Chunk} (h:gM c c') (hc:c.holds w F β i):c'.holds w F β i:=by
 cases h with
 |refl=>exact hc
 |box h =>
  obtain ⟨b,cs,e,aj,hh,hs,h1,hr⟩:=hc;obtain ⟨hl,hz⟩:=h.spec;exact ⟨b,cs,e,aj,hh,by omega,fun j hj=>h1 j (by omega),fun j hj=>hz j (by omega) _ _ _ _ (hr j (by omega))⟩
 |lp h =>
  obtain ⟨fn,tmps,D,aj,hh,hn,hr⟩:=hc;refine ⟨fn,tmps,D,aj,hh,hn,fun p hp=>?_⟩;obtain ⟨x,hx,hz⟩:=h p hp;exact hz _ _ _ _ (hr _ hx)
def uA (H:Hp):Hp→Prop
 |[]=>True
 |(i,c)::r=>(∃c0,di i H=some c0∧gM c0 c)∧uA H r
def iT:Hp→Bool
 |[]=>true
 |(i,_)::r=>r.all (fun p=>!Nat.beq p.1 i)&&iT r
def vT:∀{H:Hp},iT H=true→(H.map (·.1)).Nodup
 |[],_=>oY
 |(i,c)::r,h=>by
  simp only [iT,bM] at h;simp only [eT,gK];refine ⟨fun hm=>?_,vT h.2⟩;obtain ⟨x,hx,jX⟩:=cV.1 hm;have:=dJ.1 h.1 x hx;rw [jX,iz] at this;cases this
def uA.mem {H:Hp}:∀{H':Hp},uA H H'→∀i c,(i,c)∈H'→∃c0,(i,c0)∈H∧gM c0 c
 |[],_,_,_,hx=>by cases hx
 |(i,c)::r,h,j,d,hx=>by
  rcases bp.1 hx with hx|hx
  ·cases hx;obtain ⟨c0,hc,hl⟩:=h.1;exact ⟨c0,eE hc,hl⟩
  ·exact uA.mem h.2 j d hx
def UL {w:World} {F:Nat→Prop} {β:Nat→Value} {f:Nat→AV} {g:Nat→Value} (hf:∀t,Rd w F β (f t) (g t)):∀{L:List (Nat×AV)},sr f L→∀t,Rd w F β (Γ L t) (g t)
 |[],_,_=>.χ
 |(d,x)::r,h,t=>by
  simp only [Γ];cases hb:aG t d with
  |true =>
   obtain rfl:=cA hb;exact h.1 _ _ _ _ (hf t)
  |false=>exact UL hf h.2 t
def Ext.sub {w0:World} {F0:Nat→Prop} {nt:Nat→Value} {nr:ai} {w:World} {F:Nat→Prop} {β:Nat→Value} {H H':Hp} (h:Ext w0 F0 nt nr w F β ⟨aM,H⟩) (bu:∀i c,(i,c)∈H'→∃c0,(i,c0)∈H∧gM c0 c) (hk:(H'.map (·.1)).Nodup):Ext w0 F0 nt nr w F β ⟨aM,H'⟩ where
 os:=h.os
 tape:=h.tape
 output:=h.output
 size:=h.size
 block:=h.block
 mono:=h.mono
 new:=h.new
 owned b hb:=h.owned b (by obtain ⟨i,c,hm,hb⟩:=hb;obtain ⟨c0,h0,_⟩:=bu i c hm;exact ⟨i,c0,h0,hb⟩)
 keep _ _ _:=.χ
 inv:=⟨h.inv.bW,fun i c hm=>by obtain ⟨c0,h0,hl⟩:=bu i c hm;exact hl.holds (h.inv.holds i c0 h0),hk,
  fun b ⟨i,c,hm,hb⟩=>by obtain ⟨c0,h0,_⟩:=bu i c hm;exact h.inv.apart b ⟨i,c0,h0,hb⟩,
  fun i c i' c' b hm bE hb aH=>by
   obtain ⟨c0,h0,_⟩:=bu i c hm;obtain ⟨c1,h1,_⟩:=bu i' c' bE
   exact h.inv.dR i c0 i' c1 b h0 h1 hb aH,h.inv.eN⟩
 fH:=h.fH
def XM.sub {C:Ctx} {ds:List Deferred} {w:World} {F:Nat→Prop} {β:Nat→Value} {H H':Hp} (h:XM C ds w F β H) (bu:∀i c,(i,c)∈H'→∃c0,(i,c0)∈H∧gM c0 c) (hk:(H'.map (·.1)).Nodup):XM C ds w F β H' :=
 h.trans ((Ext.refl (st:=⟨aM,H⟩) h.inv).sub bu hk)
def Wk.tab {L:List (Nat×AV)} {H':Hp} (hL:sr st.f L) (hH:uA st.H H') (hk:iT H'=true):Wk st ⟨Γ L,H'⟩:=fun C a w hr=>by
 obtain ⟨F,β,hs,hd,hf,he⟩:=hr;exact ⟨F,β,hs,hd,UL hf hL,he.sub hH.mem (vT hk)⟩
def Ext.KD {w0:World} {F0:Nat→Prop} {nt:Nat→Value} {nr:ai} {w:World} {F:Nat→Prop} {β:Nat→Value} {f:Nat→AV} {H:Hp} (h:Ext w0 F0 nt nr w F β ⟨f,H⟩):Ext w0 F0 nt nr w F β ⟨aM,H⟩ where
 os:=h.os
 tape:=h.tape
 output:=h.output
 size:=h.size
 block:=h.block
 mono:=h.mono
 new:=h.new
 owned:=h.owned
 keep _ _ _:=.χ
 inv:=h.inv
 fH:=h.fH
def Wk.nn {t id E K:Nat} (Ξ:ej id 1000=true) (ht:st.f t=.v (.slice none 0 0)):Wk st ⟨dF (fun t=>er 2 id (st.f t)) t (.o id),(id,.own E K [])::gu id st.H⟩:=fun C a w hr=>by
 obtain ⟨F,β,hs,hd,hf,he⟩:=hr
 have nN:id<1000:=by simpa using Ξ
 have hb:Below w.heap.size w w:=Below.refl _ _;have hx:=Ii (st:=⟨aM,st.H⟩) (w':=w) (F':=F) (c:=.own E K []) (v:=.slice none 0 0) nN he.inv hb (fun _ h=>h) (fun _ h=>.inl h) (fun b hb=>by cases hb) (.inl ⟨rfl,none,by simp⟩);have aj:∀i,i≠id→(fun i=>if i=id then Value.slice none 0 0 else β i) i=β i:=fun i hi=>if_neg hi;refine ⟨F,_,hs,hd,fun q=>?_,(he.trans hx).KD⟩;show Rd w F _ (bif aG q t then AV.o id else er 2 id (st.f q)) _;cases hq:aG q t with
 |true =>
  obtain rfl:=cA hq;have h1:=hf q;rw [ht] at h1;rw [cond_true,h1.bA];exact .o (by simp)
 |false=>exact qh aj 2 (hf q)
def Wk.freeze {id E K:Nat} {rows:List (List AV)} (hc:di id st.H=some (.own E K rows)):Wk st (Io id rows st):=fun C a w hr=>by
 obtain ⟨F,β,hs,hd,hf,he⟩:=hr;have hI:=he.inv;have hm:=eE hc
 have hz:∀u,Rd w (fun b=>F b∨bF (β id)=some b) β (.o id) u→Rd w (fun b=>F b∨bF (β id)=some b) β (.s rows) u:=fun u hu=>by
  refine .i (Iq hI hm ?_);obtain ⟨a,n,c,h1,rfl⟩:=hu.jo;exact .o h1
 have up:∀{x u},Rd w F β x u→Rd w (fun b=>F b∨bF (β id)=some b) β x u:=fun h=>h.frame (fun _ _=>rfl) fun _ h=>.inl h
 have lY:Inv w (fun b=>F b∨bF (β id)=some b) β (mV id rows st.H):=by
  refine ⟨fun b hb=>hb.elim (hI.bW b) fun hb=>hI.fj ⟨id,_,hm,hb⟩,fun i c h=>?_,z8 hI.keys,fun b ⟨i,c,h,hb⟩ hF=>?_,fun i c i' c' b h h' hb aH=>?_,hI.eN.more fun _ h=>.inl h⟩
  ·obtain ⟨hi,c',h',rfl⟩:=kj h;have hh:=hI.holds i c' h';cases c' with
   |own E' K' r=>exact nR (c:=.own E' K' r) rfl (fun _ h=>.inl h) rfl hh
   |mp ag r=>exact nR (c:=.mp ag r) rfl (fun _ h=>.inl h) rfl hh
   |si s pos=>exact nR (c:=.si s pos) rfl (fun _ h=>.inl h) rfl hh
   |lp l e R L =>
    obtain ⟨fn,tmps,D,hb,vg,qz,vG⟩:=hh;refine ⟨fn,tmps,D,hb,vg,qz,fun p hp=>?_⟩;obtain ⟨q,hq,rfl⟩:=cV.1 hp;exact pP hz (fun _ _=>rfl) 2 (up (vG q hq))
   |box cells =>
    obtain ⟨b,cs,e,hb,hh,hs,h1,hr⟩:=hh;refine ⟨b,cs,e,hb,hh,by simpa using hs,fun j hj=>h1 j (by simpa using hj),fun j hj=>?_⟩
    have hj:j<cells.length:=by simpa using hj
    have:(cells.map (sb (.s rows) 1 id)).getD j .χ=sb (.s rows) 1 id (cells.getD j .χ):=by simp [aY,hj]
    rw [this];exact pP hz (fun _ _=>rfl) 1 (up (hr j hj))
  ·obtain ⟨hi,c',h',_⟩:=kj h
   rcases hF with hF|hF
   ·exact hI.apart b ⟨i,c',h',hb⟩ hF
   ·exact hi (hI.dR i c' id _ b h' hm hb hF)
  ·obtain ⟨_,c2,h2,_⟩:=kj h;obtain ⟨_,c3,h3,_⟩:=kj h';exact hI.dR i c2 i' c3 b h2 h3 hb aH
 have vD:∀b,br β (mV id rows st.H) b→br β st.H b:=fun b ⟨i,c,h,hb⟩=>by
  obtain ⟨_,c2,h2,_⟩:=kj h;exact ⟨i,c2,h2,hb⟩
 refine ⟨_,β,hs,hd,fun t=>pP hz (fun _ _=>rfl) 2 (up (hf t)),he.trans (f:=aM) (f':=aM) ⟨rfl,iP.refl _,rfl,bm _,fun _ _ _=>rfl,fun b hb=>.inl hb,fun b hb=>hb.elim .inl fun hb=>.inr (.inr ⟨id,_,hm,hb⟩),fun b hb=>.inr (vD b hb),fun _ _ _=>.χ,lY,fun _ _=>rfl⟩⟩
def EA {C:Ctx} {fn:Func} {tmps:Array Value} {RR:Ending→World→Prop} {F:Nat→Prop} {β:Nat→Value} {H:Hp} (nK:C.dl=[]):∀(ds:List Deferred) (w:World),XM C ds w F β H →
  (∀w',XM C [] w' F β H→(∀x u,Rd w F β x u→Rd w' F β x u)→LeavesIn fD 0 P fn tmps RR [] .returning w')→LeavesInM fD 0 P fn tmps RR ds .returning w
 |[],w,h,hk=>hk w h fun _ _ hr=>hr
 |d::ds,w,h,hk=>by
  have jj:∀l,C.ms l=l:=fun l=>Ctx.Sr nK;obtain ⟨D,h1,h2,h3,h4,h5⟩:=h.m d (by rw [jj];simp);have cX:=h.nd;rw [jj] at cX;have Ξ:=jM h3;have mZ:∀b,b≠D→(w.putObj D (.deferred none)).heap[b]?=w.heap[b]?:=fun b hb=>World.putObj_heap_other hb;have ha:fy F w (w.putObj D (.deferred none)):=fun b hb=>mZ b fun e=>h4 (e▸hb);have hI:=h.inv;refine ⟨by simp,.inl ⟨D,_,by rw [h1],run_takeDeferred h3,?_⟩⟩;have lY:Inv (w.putObj D (.deferred none)) F β H:=⟨fun b hb=>by rw [ju];exact hI.bW b hb,fun i c hm=>nQ ha (fun _ h=>h) (fun b hb=>mZ b fun e=>h5 (e▸⟨i,c,hm,hb⟩)) (hI.holds i c hm),hI.keys,hI.apart,hI.dR,hI.eN.at ha⟩;have hx:=h.x;refine EA nK ds _ ⟨⟨hx.os,hx.tape,hx.output,by rw [ju];exact hx.size,fun b hb hn=>(mZ b (by omega)).trans (hx.block b hb hn),hx.mono,hx.new,hx.owned,fun _ _ _=>.χ,lY,hx.fH⟩,fun d' bz=>?_,by rw [jj];exact (gK.1 cX).2,⟨ds,by rw [nK];simp⟩⟩ fun w' nf cj=>hk w' nf fun x u hr=>cj x u (hr.frame ha fun _ h=>h);rw [jj] at bz;obtain ⟨D',g1,g2,g3,g4,g5⟩:=h.m d' (by rw [jj];simp [bz]);exact ⟨D',g1,g2,(mZ D' fun e=>(gK.1 cX).1 (by rw [h1,←e,←g1];exact bz)).trans g3,g4,g5⟩
def De {g:Nat} {fn:Func} {c:Code} {args:List AV} {H:Hp} {R0:AV→ai→Prop} {w:World} {F:Nat→Prop} {β:Nat→Value} (hT:bB P T) (dj:P.funcs[g]?=some fn) (hb:fn.body=some c) (hn:fn.ntmps=n) (hle:args.length≤n)
  (h:Ok P n c ⟨jZ args,H⟩ (qj T fn.results.toList R0)) {vs:Array Value} (hI:Inv w F β H) (hs:vs.size=args.length) (hv:∀i,i<args.length→Rd w F β (args.getD i .χ) (vs.getD i undef)) :
  Calls P g vs w fun e w'=>∃v,e=.returned v∧∃x st F' aw,R0 x st∧Rd w' F' aw x v∧Ext w F β ⟨aM,H⟩ w' F' aw ⟨aM,st.H⟩:=by
 refine callsIn_wide.1 (callsIn_of_wp_marks (F:=fD) (n:=0) dj hb trivial ?_);let C:Ctx:=⟨w,F,β,H,n,none,.inl rfl,[]⟩;have hr:Rel C ⟨jZ args,H⟩ { tmps:=vs++mw (fn.ntmps-vs.size) undef,defers:=[] } w :=
  ⟨F,β,by simp [C,hn];omega,trivial,Kc hs hv,⟨Ext.refl hI,fun d hd=>(eI hd).elim,oY,⟨[],rfl⟩⟩⟩
 have fin:∀(st:ai) (a':Act) (w':World),Rel C st a' w'→oP T fn.results.toList st (fun x=>R0 x st)→LeavesInM fD 0 P fn a'.tmps (fun e w'=>∃v,e=.returned v∧∃x st F' aw,R0 x st∧Rd w' F' aw x v∧Ext w F β ⟨aM,H⟩ w' F' aw ⟨aM,st.H⟩) a'.defers .returning w':=fun st a' w' ⟨F',aw,_,_,hf,he⟩ hq =>
  EA rfl a'.defers w' he fun pT fP cj=>by
   obtain ⟨v,x,bc,hk,hx⟩:=FX (P:=P) (st:=st) hT fP.inv (fun t=>cj _ _ (hf t)) hq;exact ⟨v,bc,v,rfl,x,st,F',aw,hk,hx,fP.x⟩
 refine wpIn_mono (h.h C rfl _ w hr) ?_;rintro e a' w' ⟨st,il,hq⟩;cases e with
 |normal=>exact fin st a' w' il hq
 |ret=>exact fin st a' w' il hq
 |exit id=>exact hq.elim
 |goto l=>exact hq.elim
 |panic ch=>exact hq.elim
 |outgrown=>exact hq.elim
def acw {g : Nat} {fn : Func} {c : Code} {args : List AV} {r : AV} (hT : bB P T) (dj : P.funcs[g]? = some fn) (dg : (fn.name == "runtime.NumGoroutine") = false) (hb : fn.body = some c) (hn : fn.ntmps = n) (hle : args.length ≤ n)
  (h:Ok P n c ⟨jZ args,[]⟩ (qj T fn.results.toList fun x st=>Fz st.H x r)):Pure P g args r:=by
 refine ⟨⟨fn,c,dj,dg,hb⟩,fun w F β vs hI hs hv=>?_⟩;refine (De hT dj hb hn hle h hI hs hv).mono ?_;rintro e w' ⟨v,rfl,x,st,F',aw,hz,hx,he⟩
 have bw:∀b,¬br β ([]:Hp) b:=by rintro b ⟨id,c,hm,_⟩;cases hm
 refine ⟨v,rfl,⟨he.os,he.tape,he.output,he.size,fun b aH=>he.block b aH (bw b)⟩,?_⟩;refine (hz w' F' aw v he.inv hx).frame (fun _ _=>rfl) fun b aH=>?_
 rcases aH with aH|aH
 ·rcases he.new b aH with h1|h1|h1
  ·exact .inl h1
  ·exact .inr ⟨h1,he.inv.bW b aH⟩
  ·exact (bw b h1).elim
 ·rcases he.owned b aH with h1|h1
  ·exact .inr ⟨h1,he.inv.fj aH⟩
  ·exact (bw b h1).elim
def acv {g E K : Nat} {fn : Func} {c : Code} {args : List AV} {rows : List (List AV)} (hT : bB P T) (dj : P.funcs[g]? = some fn) (dg : (fn.name == "runtime.NumGoroutine") = false) (hb : fn.body = some c) (hn : fn.ntmps = n) (hle : args.length ≤ n)
  (h:Ok P n c ⟨jZ args,[]⟩ (qj T fn.results.toList (Hk E K rows))):jb P g args E K rows:=by
 refine ⟨⟨fn,c,dj,dg,hb⟩,fun w F β vs hI hs hv=>?_⟩;refine (De hT dj hb hn hle h hI hs hv).mono ?_;rintro e w' ⟨v,rfl,x,st,F',aw,hz,hx,he⟩
 have bw:∀b,¬br β ([]:Hp) b:=by rintro b ⟨id,c,hm,_⟩;cases hm
 refine ⟨v,rfl,⟨he.os,he.tape,he.output,he.size,fun b aH=>he.block b aH (bw b)⟩,F',he.mono,fun b aH=>?_,?_⟩
 ·rcases he.new b aH with h1|h1|h1
  ·exact .inl h1
  ·exact .inr ⟨h1,he.inv.bW b aH⟩
  ·exact (bw b h1).elim
 ·rcases hz with ⟨rfl,rfl⟩|⟨id,rfl,hc⟩
  ·rw [hx.bA];exact ⟨.inl ⟨rfl,none,rfl⟩,⟨_,_,_,rfl⟩,fun b aH=>by cases aH⟩
  ·obtain ⟨a,m,cp,aj,rfl⟩:=hx.jo;have hm:=eE hc;refine ⟨KH (he.inv.holds _ _ hm) _ _ aj.symm,⟨_,_,_,rfl⟩,fun b aH=>?_⟩;have ho:br aw st.H b:=⟨id,_,hm,by rw [aj];exact aH⟩;refine ⟨?_,he.inv.apart b ho⟩
   rcases he.owned b ho with h1|h1
   ·exact h1
   ·exact (bw b h1).elim
def oM {g : Nat} {fn : Func} {c : Code} {args : List AV} {ch : Chunk} {R1 : AV → Chunk → Prop} (hT : bB P T) (dj : P.funcs[g]? = some fn) (dg : (fn.name == "runtime.NumGoroutine") = false) (hb : fn.body = some c) (hn : fn.ntmps = n) (hle : args.length ≤ n)
  (h:Ok P n c ⟨jZ args,[(1000,ch)]⟩ (qj T fn.results.toList (Ws R1))):lg P g args ch R1:=by
 refine ⟨⟨fn,c,dj,dg,hb⟩,fun w F β vs hI hs hv=>?_⟩;refine (De hT dj hb hn hle h hI hs hv).mono ?_;rintro e w' ⟨v,rfl,x,st,F',aw,⟨r,c',hR,fc,gw,hz⟩,hx,he⟩;have hm:=eE fc;have Js:aw 1000=β 1000:=he.fH 1000 (bm _);have xG:=he.inv.mT 1000
 have JH:∀b,br β [(1000,ch)] b↔bF (β 1000)=some b:=fun b=>⟨fun ⟨i,c,hm,hb⟩=>by
  simp only [dV,gC] at hm;rw [←hm.1];exact hb,fun hb=>⟨1000,ch,by simp,hb⟩⟩
 have aak:∀b,bF (β 1000)=some b→br aw st.H b:=fun b hb=>⟨1000,c',hm,by rw [Js];exact hb⟩;refine ⟨v,rfl,r,c',fun b=>F' b∨br aw (mT 1000 st.H) b,hR,hz w' F' aw v xG hx,he.os,he.tape,he.output,he.size,fun b aH aS=>he.block b aH fun ho=>aS ((JH b).1 ho),fun b hb=>.inl (he.mono b hb),fun b hb=>?_,gw,?_⟩
 ·rcases hb with hb|⟨i,ci,jV,hb⟩
  ·rcases he.new b hb with h1|h1|h1
   ·exact .inl h1
   ·exact .inr ⟨h1,he.inv.bW b hb⟩
   ·exact absurd hb (he.inv.apart b (aak b ((JH b).1 h1)))
  ·have ho:br aw st.H b:=⟨i,ci,(sI.1 jV).1,hb⟩
   rcases he.owned b ho with h1|h1
   ·exact .inr ⟨h1,he.inv.fj ho⟩
   ·exact absurd (he.inv.dR i ci 1000 c' b (sI.1 jV).1 hm hb (by rw [Js];exact (JH b).1 h1)) (sI.1 jV).2
 ·exact nR gw (fun _ h=>.inl h) Js.symm (he.inv.holds _ _ hm)
end
instance ahc:dW:=dW.no
local instance ag8:p8:=⟨[]⟩
local instance ag5:lR:=⟨[]⟩
def Df (ops:Array Oper) (i:Nat) (o:Oper):Bool :=
 match o.dst with
 |none=>true
 |some d=>ej d 1000&&(fM ops.size).all fun j=>i==j||((ops[j]?).bind (·.dst)) != some d
def HN (ops:Array Oper) (i:Nat) (o:Oper):Bool :=
 (o.looksAt ops).all fun t=>(fM ops.size).all fun j=>match ops[j]? with
  |none=>true
  |some o'=>(o'.dst != some t)||ib ops i j
def rh (chain:List (Nat×List Nat)) (ops:Array Oper):List Nat:=(fM ops.size).filter fun i=>!(chain.any fun c=>aG c.1 i)
def ot (chain:List (Nat×List Nat)) (ops:Array Oper):List (Nat×List Nat)→Bool
 |[]=>true
 |c::r=>ej c.1 ops.size&&((match ops[c.1]? with|some _=>true|none=>false)&&(((rh chain ops).all fun i=>ib ops c.1 i||c.2.elem i)&&((match r with|[]=>true|c'::_=>ib ops c'.1 c.1)&&ot chain ops r)))
def Pg (chain:List (Nat×List Nat)) (ops:Array Oper):Bool :=
 ((fM ops.size).all fun i=>match ops[i]? with
  |none=>true
  |some o=>uI i o&&(q_ ops i o&&(Df ops i o&&HN ops i o)))&&(ot chain ops chain&&((rh chain ops).all fun i=>match ops[i]? with|some o=>o.dst.isSome|none=>true))
def Dy (chain:List (Nat×List Nat)) (ops:Array Oper):List Oper:=(rh chain ops).filterMap fun i=>ops[i]?
section
variable {P:Program} {T:TT} {C:Ctx}
structure C4 (C:Ctx) (ops:Array Oper) (m:Nat) (fA:Nat→AV) (Hm:Hp) (listed:Array Bool) (a:Act) (w:World):Prop where
 ex:∃F β,a.tmps.size=C.n∧True∧XM C a.defers w F β Hm ∧
  (∀t,(∀i o,i<m→ops[i]?=some o→o.dst=some t→listed.getD i false=true)→Rd w F β (fA t) (a.tmps.getD t undef))
def Zm {ops:Array Oper} {m i n:Nat} {o:Oper} {fe:Nat→AV} {Hm:Hp} {listed:Array Bool} {a:Act} {w:World} {Q:Exit→Act→World→Prop} {N:Act→World→Prop}
  (hT:bB P T) (hn:C.n=n) (aZ:listed.size=ops.size) (ho:ops[i]?=some o)
  (xX:∀t j o',j<m→t∈o.looksAt ops→ops[j]?=some o'→o'.dst=some t→listed.getD j false=true)
  (bK:sv P T ops Hm fe o) (Ξ:∀d,o.dst=some d→d<n) (h:C4 C ops m fe Hm listed a w)
  (hN:∀a w,C4 C ops m fe Hm (listed.setIfInBounds i true) a w→N a w):wpOpIn (fa C.ro) 0 P ops Q i N a w:=by
 obtain ⟨F,β,hs,hd,he,hf⟩:=h.ex;obtain ⟨d,eK,bK⟩:=bK
 have uV:d<a.tmps.size:=by rw [hs,hn];exact Ξ d eK
 have eh:i<listed.size:=by rw [aZ];exact (j4.1 ho).1
 have look:∀t,t∈o.looksAt ops→Rd w F β (fe t) (a.tmps.getD t undef):=fun t ht=>hf t fun j o' hj aD bz=>xX t j o' hj ht aD bz
 have pM:∀x,x∈o.op.operands→Rd w F β (ev fe x) (a.eval x):=fun x hx=>by
  cases x with
  |tmp t=>exact look t (p4 _ (kX.2 ⟨.tmp t,by simpa using hx,rfl⟩))
  |const v=>exact ml _ _ _ _
  |global g=>exact .χ
  |func g=>exact .i (.c rfl rfl (fun i hi=>absurd hi (by simp)) (fun i hi=>absurd hi (by simp)))
 have hI:Inv w F β Hm:=he.inv
 have done:∀(v:Value) (w':World),Below w.heap.size w w'→Rd w' (eU F w w') β (fe d) v→C4 C ops m fe Hm (listed.setIfInBounds i true) (a.put (some d) v) w':=fun v w' hb hv=>by
  have hx:=sL (st:=⟨aM,Hm⟩) he.inv hb;refine ⟨eU F w w',β,by simpa [hJ] using hs,hd,he.trans hx,fun t ht=>?_⟩;by_cases nS:t=d
  ·subst nS;simpa [hJ,uV] using hv
  ·have h1:=(hf t fun j o' hj aD bz=>by
    have:=ht j o' hj aD bz;rw [eS eh] at this;split at this
    ·rename_i e;subst e;rw [ho] at aD;cases aD;rw [eK] at bz;cases bz;exact absurd rfl nS
    ·exact this).later hb he.inv.bW
   simpa [hJ,uh (jJ nS)] using h1
 have run:(mq P T o (ev fe) Hm fun r=>r=fe d)→o.wpIn (fa C.ro) 0 P a w N Q:=fun hs=>by
  have cX:=UA hs
  rcases UB hT hI pM hs with ⟨v,w',bc,hb,r,rfl,hv⟩|⟨g,vs,bc,hc⟩
  ·refine Oper.jC cX bc ?_;rw [uv,eK];exact hN _ _ (done v w' hb hv)
  ·refine Oper.jC cX bc ?_;rw [xc];refine ⟨fun h=>(by cases h),sC (hc.mono ?_)⟩;rintro e w' ⟨v,rfl,hb,r,rfl,hv⟩;rw [eK];exact hN _ _ (done v w' hb hv)
 have skip:fe d=.v undef→N (a.put o.dst undef) w:=fun h0=>by
  rw [eK];exact hN _ _ (done undef w (Below.refl _ _) (by rw [h0];exact .i (.v (.inr rfl))))
 unfold wpOpIn;simp only [ho];cases hg:o.guard with
 |none =>
  rw [hg] at bK
  have hw:dA o (yielded ops a.tmps)=true:=by simp [dA,hg]
  rw [if_pos hw];exact run bK
 |some jw =>
  obtain ⟨j,want⟩:=jw;rw [hg] at bK;obtain ⟨g,dZ,bK⟩:=bK
  have ry:g∈o.looksAt ops:=by
   refine zA _ ?_;rw [hg];simp [dZ]
  have nL:=look g ry
  have hy:∀v,v≠undef→a.tmps.getD g undef=v→yielded ops a.tmps j=match v with|.bool b=>some b|_=>none:=by
   intro v aS hv
   have h2:a.tmps[g]?=some v:=by
    by_cases hl:g<a.tmps.size
    ·rw [←hv];simp [hl]
    ·exact absurd (by rw [←hv];simp [hl]) aS
   unfold yielded;rw [dZ,aX,h2];cases v<;>rfl
  rcases bK with ⟨h1,h2⟩|⟨h1,h2⟩|⟨⟨vs,h1⟩,h2⟩
  ·rw [h1] at nL;have gy:=hy _ (by simp [undef]) nL.bA
   have hw:dA o (yielded ops a.tmps)=true:=by simp [dA,hg,gy]
   rw [if_pos hw];exact run h2
  ·rw [h1] at nL;have gy:=hy _ (by simp [undef]) nL.bA
   have hw:¬dA o (yielded ops a.tmps)=true:=by simp [dA,hg,gy]
   rw [if_neg hw];exact ⟨fun _ _=>trivial,skip h2⟩
  ·rw [h1] at nL;have hv:=nL.bA
   have gy:yielded ops a.tmps j=none:=by
    unfold yielded;rw [dZ,aX];by_cases hl:g<a.tmps.size
    ·have h3:a.tmps[g]?=some (.tuple vs):=by rw [←hv];simp [hl]
     rw [h3]
    ·simp [VK (Nat.le_of_not_lt hl)]
   have hw:¬dA o (yielded ops a.tmps)=true:=by simp [dA,hg,gy]
   rw [if_neg hw];exact ⟨fun _ _=>trivial,skip h2⟩
def EE {chain:List (Nat×List Nat)} {ops:Array Oper} {i:Nat}:i∈rh chain ops↔i<ops.size∧∀c,c∈chain→c.1≠i:=by
 unfold rh;rw [dU,kY];refine and_congr_right fun _=>?_;simp only [Bool.not_eq_true',List.any_eq_false];refine ⟨fun h c hc e=>h c hc (by rw [e];exact iz _),fun h c hc e=>h c hc (cA e)⟩
end
end
end Go.Cat
