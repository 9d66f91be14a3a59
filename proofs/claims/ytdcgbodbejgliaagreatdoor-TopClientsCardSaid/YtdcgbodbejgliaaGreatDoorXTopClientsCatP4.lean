/- The logic that the walks are in, piece P4. No condition. -/
import Derived.Test.YtdcgbodbejgliaaGreatDoorXTopClientsCatP3
import Derived.ProofKit
open Array renaming getElem?_eq_getElem → gv, getElem?_eq_some_iff → lj, getD_eq_getD_getElem? → lh, length_toList → lJ, getElem?_setIfInBounds_ne → xm, replicate → oc, toList_setIfInBounds → Y8, getElem?_replicate → Y6, getElem?_eq_none → Y4, mem_map → alD
open Bool renaming and_eq_true → bE, or_eq_true → ug
open Classical renaming byContradiction → xo
open Go.Act renaming put → iL
open Go.Call renaming operands → qN
open Go.DataW renaming trod → Da, TrodAll → K3, trod_step → QX, trodStep → QW
open Go.Deferred renaming ofValue → l8
open Go.Fence renaming wide → gh
open Go.Op renaming operands → uo
open Go.OpenSpec renaming ofChange → ZH
open Go.Oper renaming uponIn_value → xy, uponIn_enter → AE
open Go.Region renaming wanted → dU, binds → jM, ready → lQ
open Go.Value renaming okWide → Dm, pointer → Rw
open Go.World renaming putObj_size → j4, cells?_some → Ry
open List renaming getElem?_eq_getElem → bU, mem_cons_of_mem → cu, mem_cons → bf, getD → aV, mem_singleton → dC, length_take → dR, mem_filter → ek, mem_map → c9, all_eq_true → ej, not_mem_nil → eJ, getElem?_append → gG, replicate → ij, nodup_cons → iw, range → gw, map_cons → jJ, mem_filterMap → ma, drop_eq_nil_of_le → qP, mem_range → mc, drop_eq_getElem_cons → xr, mem_append_left → qR, nodup_nil → qS, append_nil → xq, eq_nil_iff_forall_not_mem → AA, take_append_drop → vI, mem_append_right → vE, mem_iff_getElem → Dg, map_congr_left → Lc, getElem_take → G5, count_eq_zero → Zr, drop_drop → alC
open Nat renaming eq_of_beq_eq_true → cT, beq → aH, le_refl → bG, add_mul → bP, lt_or_ge → gI, blt → eN, blt_eq → gH, zero_add → jL, beq_refl → iW, lt_of_lt_of_le → oe, not_lt → me, strongRecOn → uk
open Ne renaming symm → j3
open Option renaming bind_some → cD, map_eq_some_iff → Dj, bind_eq_some_iff → ZJ
open Prod.mk renaming injEq → il
namespace Go.Cat
set_option linter.all false
section
open Go.RowKit
variable [M:bM] [G:cK]
class qW where
 md:List Nat
class mi where
 ch:List (Nat×Chunk)
def dV [MD:qW] (o:Oper):Option (Nat×Option Nat) :=
 match o.op,o.dst,o.guard with
 |.alloc t,some d,none=>some (d,some t)
 |.call _,some d,none=>bif MD.md.elem d then some (d,none) else none
 |_,_,_=>none
def zr [MD:qW] (o:Oper):Bool :=
 match dV o with
 |some (_,some _)=>true
 |_=>false
def wQ (d:Nat):Chunk→AV
 |.box _=>.b d 0
 |.own ..=>.o d
 |.mp ..=>.m d
 |.lp ..=>.χ
 |.si ..=>.b d 0
def wR:List (Nat×Chunk)→Nat→Option Chunk
 |[],_=>none
 |(i,c)::r,d=>bif aH d i then some c else wR r d
def jy:List (Nat×Option Nat)→ae→ae
 |[],st=>st
 |(d,_)::r,st=>jy r ⟨fun t=>er 2 d (st.f t),gT d st.H⟩
def wY [CH:mi] (d:Nat):Bool:=match wR CH.ch d with|some (.own ..)=>true|_=>false
def preB [CH:mi]:List (Nat×Option Nat)→(Nat→AV)→Nat→AV
 |[],f=>f
 |(d,none)::r,f=>preB r (bif wY d then dX f d (.o d) else f)
 |(_,some _)::r,f=>preB r f
def Fx [CH:mi] {t:Nat}:∀{l:List (Nat×Option Nat)} {f:Nat→AV},(∀x,(t,x)∉l)→preB l f t=f t
 |[],f,_=>rfl
 |(d,none)::r,f,h=>by
  have aP:t≠d:=fun e=>h none (by rw [e];exact List.mem_cons_self ..);unfold preB;rw [Fx fun x hx=>h x (cu _ hx)]
  have hb:aH t d=false:=by
   cases h':aH t d with
   |false=>rfl
   |true=>exact absurd (cT h') aP
  cases wY d with
  |true=>show (bif aH t d then _ else _)=_;rw [hb];rfl
  |false=>rfl
 |(d,some y)::r,f,h=>by
  unfold preB;exact Fx fun x hx=>h x (cu _ hx)
def JP [CH:mi] {t:Nat} (hp:wY t=true):∀{l:List (Nat×Option Nat)} {f:Nat→AV},(l.map (·.1)).Nodup→(t,none)∈l→preB l f t=.o t
 |(d,none)::r,f,hn,hm=>by
  rw [jJ,iw] at hn;unfold preB;by_cases e:t=d
  ·subst e;rw [hp,Fx fun x hx=>hn.1 (c9.2 ⟨(t,x),hx,rfl⟩)];show (bif aH t t then _ else _)=_;rw [iW];rfl
  ·exact JP hp hn.2 ((bf.1 hm).resolve_left fun h=>e (by cases h;rfl))
 |(d,some y)::r,f,hn,hm=>by
  rw [jJ,iw] at hn;unfold preB;exact JP hp hn.2 ((bf.1 hm).resolve_left fun h=>by cases h)
def q6 [CH:mi] (T:TT) (n:Nat):List (Nat×Option Nat)→ae→(ae→Prop)→Prop
 |[],st,K=>K st
 |(d,some t)::r,st,K=>match T t with
  |some i=>bif jm (cr i.zero)&&eN d n then q6 T n r ⟨dX st.f d (.b d 0),(d,.box (bu (cr i.zero)))::st.H⟩ K else False
  |none=>False
 |(d,none)::r,st,K=>match wR CH.ch d with
  |some c=>bif eN d n then q6 T n r ⟨dX st.f d (wQ d c),(d,c)::st.H⟩ K else False
  |none=>False
def lq [CH:mi] (T:TT) (d:Nat) (x:Option Nat) (c:Chunk):Prop :=
 match x with
 |some t=>∃z,T t=some z∧jm (cr z.zero)=true∧c=.box (bu (cr z.zero))
 |none=>wR CH.ch d=some c
def lq.uniq [CH:mi] {T:TT} {d:Nat} {x:Option Nat} {c c':Chunk} (h:lq T d x c) (h':lq T d x c'):c=c':=by
 cases x with
 |some t =>
  obtain ⟨z,h1,_,rfl⟩:=h;obtain ⟨z',nB,_,rfl⟩:=h';rw [h1] at nB;cases nB;rfl
 |none =>
  unfold lq at h h';simp only at h h';rw [h] at h';exact Option.some.inj h'
def LB (P:Program) (g:FuncId) (args:List AV) (c:Chunk):Prop :=
 p6 P g∧∀(w:World) (F:Nat→Prop) (β:Nat→Value) (vs:Array Value),Inv w F β []→vs.size=args.length→(∀i,i<args.length→Rd w F β (args.getD i .χ) (vs.getD i undef)) →
  Calls P g vs w fun e w'=>∃v,e=.returned v∧Below w.heap.size w w'∧∃F',(∀b,F b→F' b)∧(∀b,F' b→fG F w w' b)∧(∀av i,av i=v→c.holds w' F' av i∧Rd w' F' av (wQ i c) v) ∧
   ∀b,bR v=some b→w.heap.size≤b∧¬F' b
def Hi (P:Program) (f:Nat→AV) (o:Oper) (c:Chunk):Prop :=
 match o.op with
 |.call q=>match q.callee with
  |.value x=>match ev f x with
   |.c (.func g) fs cs=>∃ys,LB P g ys c∧iM (fs++(q.args.toList.map (ev f)++cs)) ys
   |_=>False
  |_=>False
 |_=>False
def tC [MD:qW] [CH:mi] (P:Program) (f:Nat→AV):List Oper→Prop
 |[]=>True
 |o::r=>match dV o with
  |some (d,none)=>(match wR CH.ch d with
   |some c=>Hi P f o c
   |none=>False)∧tC P f r
  |_=>tC P f r
def Jo [MD:qW] [CH:mi] {P:Program} {f:Nat→AV} {o:Oper} {d:Nat}:∀{l:List Oper},tC P f l→o∈l→dV o=some (d,none)→∃c,wR CH.ch d=some c∧Hi P f o c
 |[],_,h,_=>by cases h
 |p::r,hl,h,ha=>by
  rcases bf.1 h with rfl|h
  ·simp only [tC,ha] at hl;have h1:=hl.1;split at h1
   ·rename_i c hc;exact ⟨c,hc,h1⟩
   ·exact h1.elim
  ·simp only [tC] at hl;split at hl
   ·exact Jo hl.2 h ha
   ·exact Jo hl h ha
def Pp (T:TT) (t t':Nat) (s x:AV) (H:Hp) (k:AV→Prop):Prop :=
 match T t with
 |some i=>match i.kind with
  |.slice e=>match T e with
   |some j =>
    bif aH j.bytes 0||(aH j.cells 0||!(aH j.zero.cells.size j.cells)) then False else
    bif (match s with|.v (.slice none 0 0)=>true|.z=>true|_=>false) then
     Ds T t t' e x 5000 H fun bT=>oZ bT j.cells∧bT.length*j.bytes≤140737488355328∧∃R,bT=R∧k (.s R)
    else False
   |none=>False
  |_=>False
 |none=>False
def nY (P:Program) (T:TT) (o:Oper) (ρ:Operand→AV) (H:Hp) (k:AV→Prop):Prop :=
 match o.op with
 |.buildSlice t n parts=>match n with
  |0=>zZ T t 0 (parts.toList.map fun q=>(q.1,ρ q.2)) fun _ _ _=>k .z
  |n+1=>zZ T t (n+1) (parts.toList.map fun q=>(q.1,ρ q.2)) fun rows _ _=>bif rows.all (fun r=>r.all fp) then k (.s (rows.map fun r=>r.map nz)) else False
 |.call c=>match c.callee with
  |.builtin .append=>match c.argTypes.toList,c.args.toList.map ρ with
   |[t,t'],[s,x]=>Pp T t t' s x H k
   |_,_=>False
  |_=>mZ P T o ρ H k
 |_=>mZ P T o ρ H k
def sf (P:Program) (T:TT) (n:Nat) (all:Array Oper):List Oper→ae→(ae→Prop)→Prop
 |[],st,K=>K st
 |o::os,st,K=>gd n all o st (fun st=>∃r,nY P T o (ev st.f) st.H (fun r'=>r'=r)∧put n o.dst st r fun aq=>sf P T n all os aq K) fun st=>put n o.dst st (.v undef) fun aq=>sf P T n all os aq K
section
variable {P:Program} {T:TT} {w:World} {F:Nat→Prop} {β av:Nat→Value} {H:Hp}
def XP {o:Oper} {ρ pU:Operand→AV} {k:AV→Prop} (h:∀x,x∈o.op.operands→ρ x=pU x) (hs:mZ P T o ρ H k):mZ P T o pU H k:=by
 obtain ⟨dst,op,type,pos,after,guard⟩:=o;have parts:∀ps:Array (Nat×Operand),(∀x,x∈ps.map (·.2)→ρ x=pU x)→(ps.toList.map fun q=>(q.1,ρ q.2))=ps.toList.map fun q=>(q.1,pU q.2):=fun ps hp =>
  Lc fun q hq=>by rw [hp q.2 (alD.2 ⟨q,by simpa using hq,rfl⟩)]
 have E7:∀xs:Array Operand,(∀x,x∈xs→ρ x=pU x)→xs.toList.map ρ=xs.toList.map pU:=fun xs hp=>Lc fun x hx=>hp x (by simpa using hx);cases op<;>simp only [uo] at h<;>simp only [mZ] at hs ⊢
 case build t ps=>rwa [←parts ps fun x hx=>h x (by simpa using hx)]
 case buildSlice t n ps=>rwa [←parts ps fun x hx=>h x (by simpa using hx)]
 case makeFunc fn fs cs=>rwa [←E7 fs fun x hx=>h x (by simp [hx]),←E7 cs fun x hx=>h x (by simp [hx])]
 case slice t x lo hi mx=>cases lo<;>cases hi<;>cases mx<;>simp_all
 case call c =>
  obtain ⟨callee,args,argTypes⟩:=c;have ha:=E7 args fun x hx=>h x (by simp [qN,hx]);cases callee with
  |builtin b=>simp only at hs ⊢;rwa [←ha]
  |value f=>simp only at hs ⊢;rwa [←ha,←h f (by simp [qN])]
  |invoke r m=>exact hs
 all_goals first|exact hs|(simp_all;done)
def XL {o:Oper} {ρ pU:Operand→AV} {k:AV→Prop} (h:∀x,x∈o.op.operands→ρ x=pU x) (hs:nY P T o ρ H k):nY P T o pU H k:=by
 obtain ⟨dst,op,type,pos,after,guard⟩:=o;have parts:∀ps:Array (Nat×Operand),(∀x,x∈ps.map (·.2)→ρ x=pU x)→(ps.toList.map fun q=>(q.1,ρ q.2))=ps.toList.map fun q=>(q.1,pU q.2):=fun ps hp =>
  Lc fun q hq=>by rw [hp q.2 (alD.2 ⟨q,by simpa using hq,rfl⟩)]
 have E7:∀xs:Array Operand,(∀x,x∈xs→ρ x=pU x)→xs.toList.map ρ=xs.toList.map pU:=fun xs hp=>Lc fun x hx=>hp x (by simpa using hx);cases op
 case buildSlice t n ps =>
  cases n with
  |zero=>simp only [nY] at hs ⊢;rwa [←parts ps fun x hx=>h x (by simpa [uo] using hx)]
  |succ n=>simp only [nY] at hs ⊢;rwa [←parts ps fun x hx=>h x (by simpa [uo] using hx)]
 case call c =>
  obtain ⟨callee,args,argTypes⟩:=c;have ha:=E7 args fun x hx=>h x (by simp [uo,qN,hx]);have old:=XP (P:=P) (T:=T) (k:=k) (H:=H) (o:=⟨dst,.call ⟨callee,args,argTypes⟩,type,pos,after,guard⟩) h;cases callee with
  |builtin b=>cases b<;>first|exact old hs|(simp only [nY] at hs ⊢;rwa [←ha])
  |value f=>exact old hs
  |invoke r m=>exact old hs
 all_goals exact XP (P:=P) (T:=T) (H:=H) (k:=k) h hs
def agK {t t':Nat} {s x:AV} {vs vx:Value} {k:AV→Prop} (hT:bO P T) (hI:Inv w F β H) (hs:Rd w F β s vs) (hx:Rd w F β x vx) (h:Pp T t t' s x H k) (ty:TypeId) :
  cz P (Builtin.append_ #[t,t'] ty #[vs,vx]) w F β k:=by
 unfold Pp at h;split at h
 ·rename_i i hi;split at h
  ·rename_i e he;split at h
   ·rename_i j hj;cases hb:(aH j.bytes 0||(aH j.cells 0||!(aH j.zero.cells.size j.cells))) with
    |true=>rw [hb] at h;cases h
    |false =>
     rw [hb] at h;simp only [Bool.or_eq_false_iff,Bool.not_eq_false'] at hb
     have eo:j.bytes≠0:=fun e=>by have:=hb.1;rw [e] at this;cases this
     have hz:j.zero.cells.size=j.cells:=cT hb.2.2;simp only [cond_false] at h;obtain ⟨aX,h⟩:=cond_prop h
     obtain ⟨a,rfl⟩:∃a,vs=.slice a 0 0:=by
      split at aX
      ·exact ⟨none,hs.bN⟩
      ·exact hs.Av
      ·cases aX
     obtain ⟨rows,⟨hlen,kM,R,rfl,hk⟩,news,iF,fB⟩:=LH (st:=⟨aF,H⟩) (kk:=fun bT=>oZ bT j.cells∧bT.length*j.bytes≤140737488355328∧∃R,bT=R∧k (.s R)) hT hI hi he hj hx h fun rows hr=>hr.1;have A8:Inv w F (fun i=>if i=0 then .slice a 0 0 else β i) [(0,.own e j.cells [])] :=
      ⟨hI.cC,fun i c hm=>by simp only [dC,il] at hm;obtain ⟨rfl,rfl⟩:=hm;exact .inl ⟨rfl,a,if_pos rfl⟩,by simp,
       fun b ⟨i,c,hm,hb⟩=>by simp only [dC,il] at hm;obtain ⟨rfl,rfl⟩:=hm;simp only [if_true] at hb;cases a<;>simp [bR] at hb,
       fun i c i' c' b h h' _ _=>by simp only [dC,il] at h h';rw [h.1,h'.1],hI.fk⟩
     obtain ⟨v',w',hr,r,aq,F',av,⟨rfl,rfl⟩,hv,hx⟩:=LI (st:=⟨aF,[(0,.own e j.cells [])]⟩) (L:=0) (rows:=[]) (bT:=rows) (v:=.slice a 0 0) (k:=fun r aq=>r=.o 0∧aq=gJ ⟨aF,[(0,.own e j.cells [])]⟩ 0 (.own e j.cells rows)) (ty:=ty)
      (by decide) hT A8 hi he hj eo hz (.inr ⟨by simp,if_pos rfl⟩) ⟨news,iF,fB⟩ hlen (by simpa using kM) ⟨rfl,by simp⟩
     have bp:∀b,¬bC (fun i=>if i=0 then Value.slice a 0 0 else β i) [(0,.own e j.cells [])] b:=fun b ⟨i,c,hm,hb⟩=>by
      simp only [dC,il] at hm;obtain ⟨rfl,rfl⟩:=hm;simp only [if_true] at hb;cases a<;>simp [bR] at hb
     have oF:(0,Chunk.own e j.cells rows)∈(gJ ⟨aF,[(0,.own e j.cells [])]⟩ 0 (.own e j.cells rows)).H:=by simp [gJ]
     refine ⟨v',w',.s rows,hr,⟨hx.os,hx.tape,hx.output,hx.size,fun b hb=>hx.block b hb (bp b)⟩,hk,.i ?_⟩;refine (Mr hx.inv oF hv).frame (fun _ _=>rfl) fun b hb=>?_
     rcases hb with hb|hb
     ·rcases hx.new b hb with h1|h1|h1
      ·exact .inl h1
      ·exact .inr ⟨h1,hx.inv.cC b hb⟩
      ·exact absurd h1 (bp b)
     ·have ho:bC av (gJ ⟨aF,[(0,.own e j.cells [])]⟩ 0 (.own e j.cells rows)).H b:=⟨0,_,oF,hb⟩
      rcases hx.owned b ho with h1|h1
      ·exact .inr ⟨h1,hx.inv.fM ho⟩
      ·exact absurd h1 (bp b)
   ·cases h
  ·cases h
 ·cases h
def XO {o:Oper} {ρ:Operand→AV} {a:Act} {k:AV→Prop} (hT:bO P T) (hI:Inv w F β H) (bJ:∀x,x∈o.op.operands→Rd w F β (ρ x) (a.eval x))
  (h:nY P T o ρ H k):uu P (execOp a.eval o) w fun v w'=>∃r,k r∧Rd w' (fG F w w') β r v:=by
 obtain ⟨dst,op,type,pos,after,guard⟩:=o;cases op
 case buildSlice t n parts =>
  cases n with
  |succ n=>exact KE (o:=⟨dst,.buildSlice t (n+1) parts,type,pos,after,guard⟩) hT hI bJ h
  |zero =>
   simp only [nY] at h;simp only [uo] at bJ;simp only [execOp];obtain ⟨rows,e,size,us,hk,_,hs,nM,lD,fD,aX,aY,hlen⟩:=Pn (P:=P) (w:=w) (F:=F) (β:=β) hT (JL ρ a.eval parts) (JM fun x hx=>bJ x (by simpa using hx)) h;exact (show cz P (Instr.buildSlice t 0 (parts.map fun x=>(x.1,a.eval x.2))) w F β k from ⟨_,_,_,aY,vR w (.cells us e),hk,.i .z⟩).out
 case call c =>
  obtain ⟨callee,args,argTypes⟩:=c;have old:=KE (P:=P) (T:=T) (w:=w) (F:=F) (β:=β) (H:=H) (k:=k) (o:=⟨dst,.call ⟨callee,args,argTypes⟩,type,pos,after,guard⟩) (ρ:=ρ) (a:=a) hT hI bJ;cases callee with
  |value f=>exact old h
  |invoke r m=>exact old h
  |builtin b =>
   cases b
   case append =>
    simp only [nY] at h;simp only [execOp]
    have mN:∀i,i<(args.toList.map ρ).length→Rd w F β ((args.toList.map ρ).getD i .χ) ((args.map a.eval).getD i undef):=fun i hi=>by
     simp at hi;have:=bJ args[i] (by simp [uo,qN]);simpa [aV,hi] using this
    split at h
    ·rename_i t t' s x e1 e2
     have L7:argTypes=#[t,t']:=by rw [←Array.toArray_toList (xs:=argTypes),e1]
     have hl:args.size=2:=by have:=congrArg List.length e2;simpa using this
     rw [e2] at mN;have h0:=mN 0 (by simp);have h1:=mN 1 (by simp)
     have ea:args.map a.eval=#[(args.map a.eval).getD 0 undef,(args.map a.eval).getD 1 undef]:=by
      apply Array.ext
      ·simp [hl]
      ·intro i h1 h2
       have:i=0∨i=1:=by simp at h2;omega
       rcases this with rfl|rfl<;>simp [hl]
     have e:(do let d ←resolve a.eval { callee:=.builtin .append,args:=args,argTypes:=argTypes } type;invoke d.target d.args:Sem Next)=builtin .append argTypes type (args.map fun|.const _=>true|_=>false) (args.map a.eval):=rfl;rw [e,ea,L7];exact (agK (ty:=type) hT hI (by simpa using h0) (by simpa using h1) h).out
    ·cases h
   all_goals exact old h
 all_goals exact KE (P:=P) (T:=T) (H:=H) (k:=k) hT hI bJ h
def Rd.CW {d:Nat} (hd:β d=undef) (ah:∀i,i≠d→av i=β i) {x:AV} {u:Value} (h:Rd w F β x u):Rd w F av x u:=by
 have ne:∀{i:Nat} {v:Value},β i=v→v≠undef→i≠d:=fun h hv e=>hv (by rw [←h,e,hd]);induction h with
 |i h=>exact .i h
 |χ=>exact .χ
 |b h=>exact .b ((ah _ (ne h (by simp [undef]))).trans h)
 |o h=>exact .o ((ah _ (ne h (by simp [undef]))).trans h)
 |e h=>exact .e ((ah _ (ne h (by simp [undef]))).trans h)
 |w h hd ha=>exact .w ((ah _ (ne h (by simp [undef]))).trans h) hd ha
 |m h=>exact .m ((ah _ (ne h (by simp [undef]))).trans h)
 |a hs fb h ih=>exact .a hs fb ih
 |t hs h ih=>exact .t hs ih
 |c hs ew h h' ih EX=>exact .c hs ew ih EX
def UA {d i:Nat} {c:Chunk} (hd:β d=undef) (ah:∀i,i≠d→av i=β i) (hi:i≠d) (h:c.holds w F β i):c.holds w F av i:=by
 cases c with
 |box cells =>
  obtain ⟨b,cs,e,hb,hh,hs,h1,hr⟩:=h;exact ⟨b,cs,e,(ah i hi).trans hb,hh,hs,h1,fun j hj=>(hr j hj).CW hd ah⟩
 |own E k rows =>
  unfold Chunk.holds at *;rw [ah i hi];exact h
 |mp ag rows =>
  unfold Chunk.holds at *;rw [ah i hi];exact h
 |si s pos =>
  unfold Chunk.holds at *;rw [ah i hi];exact h
 |lp l e R L =>
  obtain ⟨fn,tmps,D,hb,hh,hn,hr⟩:=h;exact ⟨fn,tmps,D,(ah i hi).trans hb,hh,hn,fun p hp=>(hr p hp).CW hd ah⟩
def Inv.sub {H':Hp} (h:Inv w F β H) (zg:∀x,x∈H'→x∈H) (hk:(H'.map (·.1)).Nodup):Inv w F β H' :=
 ⟨h.cC,fun id c hm=>h.holds id c (zg _ hm),hk,fun b ⟨id,c,hm,hb⟩=>h.apart b ⟨id,c,zg _ hm,hb⟩,fun id c EW c' b h1 h2=>h.eC id c EW c' b (zg _ h1) (zg _ h2),h.fk⟩
def Ext.AW {w0:World} {F0:Nat→Prop} {oU:Nat→Value} {oR:ae} {H':Hp} (h:Ext w0 F0 oU oR w F β ⟨aF,H⟩) (bI:∀x,x∈H'↔x∈H) (hk:(H'.map (·.1)).Nodup):Ext w0 F0 oU oR w F β ⟨aF,H'⟩ where
 os:=h.os
 tape:=h.tape
 output:=h.output
 size:=h.size
 block:=h.block
 mono:=h.mono
 new:=h.new
 owned:=fun b ⟨id,c,hm,hb⟩=>h.owned b ⟨id,c,(bI _).1 hm,hb⟩
 keep:=fun _ _ _=>.χ
 inv:=h.inv.sub (fun x hx=>(bI x).1 hx) hk
 gu:=h.gu
def abj {d:Nat} {cells:List AV} {us:Array Value} {e:TypeId} {f:Nat→AV} (pz:d<1000) (hI:Inv w F β H) (hd:β d=undef) (lW:∀c,(d,c)∉H) (hs:us.size=cells.length) (h1:∀i,i<cells.length→(us.getD i undef).oneCell'=true)
  (hr:∀β,∀i,i<cells.length→Rd (w.alloc (.cells us e)) F β (cells.getD i .χ) (us.getD i undef)) :
  Ext w F β ⟨f,H⟩ (w.alloc (.cells us e)) F (fun i=>if i=d then .pointer (some ⟨w.heap.size,0,none⟩) else β i) ⟨f,(d,.box cells)::H⟩:=by
 have ah:∀i,i≠d→(fun i=>if i=d then Rw (some ⟨w.heap.size,0,none⟩) else β i) i=β i:=fun i hi=>if_neg hi;have aR:∀b,b<w.heap.size→(w.alloc (.cells us e)).heap[b]?=w.heap[b]?:=fun b hb=>_root_.Go.heap_alloc_old w _ hb;have ha:ga F w (w.alloc (.cells us e)):=fun b hb=>aR b (hI.cC b hb);have aP:∀{i c},(i,c)∈H→i≠d:=fun hm e=>lW _ (e▸hm)
 have dr:∀b,bC (fun i=>if i=d then Rw (some ⟨w.heap.size,0,none⟩) else β i) ((d,.box cells)::H) b→b=w.heap.size∨bC β H b:=by
  rintro b ⟨i,c,hm,hb⟩
  rcases bf.1 hm with hm|hm
  ·cases hm;simp [bR] at hb;exact .inl hb.symm
  ·simp only [if_neg (aP hm)] at hb;exact .inr ⟨i,c,hm,hb⟩
 refine ⟨rfl,⟨rfl,fun _=>(by first|exact bG _|exact Nat.le_succ _)⟩,rfl,by simp,fun b hb _=>aR b hb,fun _ h=>h,fun _ h=>.inl h,fun b hb=>(dr b hb).elim (fun h=>.inl (by omega)) .inr,fun t u h=>(h.frame ha fun _ h=>h).CW hd ah,?_,fun i hi=>ah i (by omega)⟩;refine ⟨fun b hb=>by have:=hI.cC b hb;simp;omega,fun i c hm=>?_,?_,fun b ho hF=>?_,?_,hI.fk.at ha⟩
 ·rcases bf.1 hm with hm|hm
  ·cases hm;exact ⟨w.heap.size,us,e,by simp,heap_alloc_new w _,hs,h1,hr _⟩
  ·exact UA hd ah (aP hm) (pD ha (fun _ h=>h) (fun b hb=>aR b (hI.fM ⟨i,c,hm,hb⟩)) (hI.holds i c hm))
 ·simp only [jJ,iw];refine ⟨fun hm=>?_,hI.keys⟩;obtain ⟨x,hx,lF⟩:=c9.1 hm;exact lW x.2 (by rw [←lF];exact hx)
 ·rcases dr b ho with rfl|h
  ·have:=hI.cC _ hF;omega
  ·exact hI.apart b h hF
 ·intro i c i' c' b hm bW hb aK
  rcases bf.1 hm with hm|hm<;>rcases bf.1 bW with bW|bW
  ·cases hm;cases bW;rfl
  ·cases hm;simp [bR] at hb;simp only [if_neg (aP bW)] at aK;have:=hI.fM ⟨i',c',bW,aK⟩;omega
  ·cases bW;simp [bR] at aK;simp only [if_neg (aP hm)] at hb;have:=hI.fM ⟨i,c,hm,hb⟩;omega
  ·simp only [if_neg (aP hm)] at hb;simp only [if_neg (aP bW)] at aK;exact hI.eC i c i' c' b hm bW hb aK
def vO (P:Program) (T:TT) (all:Array Oper) (H:Hp) (fe:Nat→AV) (o:Oper):Prop :=
 ∃d,o.dst=some d∧match o.guard with
 |none=>nY P T o (ev fe) H fun r=>r=fe d
 |some (j,want)=>∃g,(all[j]?).bind (·.dst)=some g ∧
   ((fe g=.v (.bool want)∧nY P T o (ev fe) H fun r=>r=fe d)∨(fe g=.v (.bool (!want))∧fe d=.v undef)∨((∃vs,fe g=.v (.tuple vs))∧fe d=.v undef))
def xG (all:Array Oper):List Oper→Prop
 |[]=>True
 |o::r=>(∃d,o.dst=some d∧∀o',o'∈r→o'.dst≠some d)∧(∀t,t∈o.looksAt all→∀o',o'∈o::r→o'.dst≠some t)∧xG all r
def KR {f:Nat→AV} {d:Nat} {x:AV} (h:f d=x):dX f d x=f:=by
 funext t;unfold dX;cases hb:aH t d with
 |true=>rw [cT hb,cond_true,h]
 |false=>rfl
def Qt (f:Nat→AV) (d:Nat) (x:AV):dX f d x d=x:=by simp [dX]
def Qu {f:Nat→AV} {d t:Nat} {x:AV} (h:t≠d):dX f d x t=f t:=by
 unfold dX;cases hb:aH t d with
 |true=>exact absurd (cT hb) h
 |false=>rfl
def QL {n:Nat} {all:Array Oper} {K:ae→Prop}:∀(l:List Oper) (st:ae),xG all l→sf P T n all l st K →
  ∃fe,(∀t,(∀o,o∈l→o.dst≠some t)→fe t=st.f t)∧K ⟨fe,st.H⟩∧(∀o,o∈l→∀d,o.dst=some d→d<n)∧∀o,o∈l→vO P T all st.H fe o:=by
 intro l;induction l with
 |nil=>intro st _ h;exact ⟨st.f,fun _ _=>rfl,h,fun o ho=>(eJ ho).elim,fun o ho=>(eJ ho).elim⟩
 |cons o r ih =>
  intro st yT h;obtain ⟨⟨d,hd,sY⟩,acx,acw⟩:=yT;have on:∀x,put n o.dst st x (fun aq=>sf P T n all r aq K)→∃fe,(∀t,(∀o',o'∈o::r→o'.dst≠some t)→fe t=st.f t)∧K ⟨fe,st.H⟩∧(∀o',o'∈o::r→∀d,o'.dst=some d→d<n)∧(∀o',o'∈r→vO P T all st.H fe o')∧fe d=x ∧
    ∀t,t∈o.looksAt all→fe t=st.f t:=by
   intro x hx;rw [hd,put_eq] at hx;obtain ⟨Φ,hx⟩:=cond_prop hx
   have Φ:d<n:=by simpa [gH] using Φ
   obtain ⟨fe,h1,h2,h3,h4⟩:=ih ⟨dX st.f d x,st.H⟩ acw hx
   have gn:fe d=x:=by rw [h1 d sY];exact Qt _ _ _
   have th:∀t,(∀o',o'∈o::r→o'.dst≠some t)→fe t=st.f t:=fun t ht=>by
    rw [h1 t fun o' aB=>ht o' (cu _ aB)];exact Qu fun e=>ht o (by simp) (by rw [hd,e])
   refine ⟨fe,th,h2,fun o' aB d' bH=>?_,h4,gn,fun t ht=>th t (acx t ht)⟩
   rcases bf.1 aB with rfl|aB
   ·rw [hd] at bH;cases bH;exact Φ
   ·exact h3 o' aB d' bH
  have ops:∀{fe:Nat→AV},(∀t,t∈o.looksAt all→fe t=st.f t)→∀x,x∈o.op.operands→ev st.f x=ev fe x:=fun lA x hx=>by
   cases x with
   |tmp t =>
    refine (lA t ?_).symm;exact qR _ (ma.2 ⟨.tmp t,by simpa using hx,rfl⟩)
   |_=>rfl
  unfold sf at h;rw [sR] at h;cases hg:o.guard with
  |none =>
   rw [hg] at h;obtain ⟨x,hs,hp⟩:=h;obtain ⟨fe,h1,h2,h3,h4,h5,h6⟩:=on x hp;refine ⟨fe,h1,h2,h3,fun o' aB=>?_⟩
   rcases bf.1 aB with rfl|aB
   ·refine ⟨d,hd,?_⟩;rw [hg,h5];exact XL (ops h6) hs
   ·exact h4 o' aB
  |some jw =>
   obtain ⟨j,want⟩:=jw;rw [hg] at h;simp only at h;split at h
   ·rename_i g et;obtain ⟨_,h⟩:=cond_prop h
    have uM:g∈o.looksAt all:=by
     refine vE _ ?_;rw [hg];simp [et]
    split at h
    ·rename_i b hb;by_cases jA:b=want
     ·have:=h.y jA;rw [KR (by rw [hb,jA])] at this;obtain ⟨x,hs,hp⟩:=this;obtain ⟨fe,h1,h2,h3,h4,h5,h6⟩:=on x hp;refine ⟨fe,h1,h2,h3,fun o' aB=>?_⟩
      rcases bf.1 aB with rfl|aB
      ·refine ⟨d,hd,?_⟩;rw [hg,h5];exact ⟨g,et,.inl ⟨by rw [h6 g uM,hb,jA],XL (ops h6) hs⟩⟩
      ·exact h4 o' aB
     ·have qf:b=!want:=by cases b<;>cases want<;>first|rfl|exact absurd rfl jA
      have:=h.n qf;rw [KR (by rw [hb,qf])] at this;obtain ⟨fe,h1,h2,h3,h4,h5,h6⟩:=on _ this;refine ⟨fe,h1,h2,h3,fun o' aB=>?_⟩
      rcases bf.1 aB with rfl|aB
      ·refine ⟨d,hd,?_⟩;rw [hg];exact ⟨g,et,.inr (.inl ⟨by rw [h6 g uM,hb,qf],h5⟩)⟩
      ·exact h4 o' aB
    ·rename_i vs hb;obtain ⟨fe,h1,h2,h3,h4,h5,h6⟩:=on _ h;refine ⟨fe,h1,h2,h3,fun o' aB=>?_⟩
     rcases bf.1 aB with rfl|aB
     ·refine ⟨d,hd,?_⟩;rw [hg];exact ⟨g,et,.inr (.inr ⟨⟨vs,by rw [h6 g uM,hb]⟩,h5⟩)⟩
     ·exact h4 o' aB
    ·cases h
   ·cases h
end
end
section
open Go.RowKit
variable [M:bM] [G:cK] [MD:qW] [CH:mi] [R:dK]
def bitsOf (ops:Array Oper):Array Nat:=Region.before ops
def iN (ops:Array Oper) (i j:Nat):Bool:=((bitsOf ops).getD i 0).testBit j
def yb (i:Nat) (o:Oper):Bool:=o.after.all fun e=>!Region.binds .any e||decide (e.on<i)
def uz (ops:Array Oper) (i:Nat) (o:Oper):Bool:=(gw ops.size).all fun j=>!iN ops i j||o.after.any fun e=>jM .any e&&(e.on==j||iN ops e.on j)
def vW (m:Nat) (ops:Array Oper) (i:Nat) (o:Oper):Bool :=
 match o.dst with
 |none=>false
 |some d=>eN d 1000&&(gw m).all fun j=>i==j||((ops[j]?).bind (·.dst)) != some d
def rU (o:Oper):Bool:=match dV o with|some (d,none)=>wY d|_=>false
def AS (m:Nat) (ops:Array Oper) (i:Nat) (o:Oper):Bool :=
 zr o||(o.looksAt ops).all fun t=>(gw m).all fun j=>match ops[j]? with
  |none=>true
  |some o'=>(o'.dst != some t)||(iN ops i j&&((dV o').isNone||rU o'))
def AT (ops:Array Oper) (i:Nat):Bool:=(gw i).all fun j=>iN ops i j
def DH (m:Nat) (ops:Array Oper):Bool :=
 Nat.ble m ops.size&&((gw ops.size).all fun i=>match ops[i]? with
  |none=>true
  |some o=>yb i o&&(uz ops i o&&(bif eN i m then vW m ops i o&&AS m ops i o else AT ops i)))
structure Plan0 (ops:Array Oper) (m:Nat) (dep:Nat→Nat→Prop):Prop where
 le:m≤ops.size
 dec:∀i o,ops[i]?=some o→∀e,e∈o.after→jM .any e=true→e.on<i
 step:∀i o j,ops[i]?=some o→j<ops.size→dep i j→∃e,e∈o.after∧jM .any e=true∧(e.on=j∨dep e.on j)
 dst:∀i o,i<m→ops[i]?=some o→∃d,o.dst=some d
 one:∀i o j o' d,i<m→j<m→ops[i]?=some o→ops[j]?=some o'→o.dst=some d→o'.dst=some d→i=j
 low:∀i o d,i<m→ops[i]?=some o→o.dst=some d→d<1000
 look:∀i o t j o',i<m→j<m→ops[i]?=some o→zr o=false→t∈o.looksAt ops→ops[j]?=some o'→o'.dst=some t→dep i j∧(dV o'=none∨rU o'=true)
structure RJ (ops:Array Oper) (m:Nat) (dep:Nat→Nat→Prop):Prop where
 one:∀i o j o' d,i<m→j<m→ops[i]?=some o→ops[j]?=some o'→o.dst=some d→o'.dst=some d→i=j
 look:∀i o t j o',i<m→j<m→ops[i]?=some o→zr o=false→t∈o.looksAt ops→ops[j]?=some o'→o'.dst=some t→dep i j∧(dV o'=none∨rU o'=true)
def Plan0.s {ops:Array Oper} {m:Nat} {dep:Nat→Nat→Prop} (hp:Plan0 ops m dep):RJ ops m dep:=⟨hp.one,hp.look⟩
structure ZX (ops:Array Oper) (m:Nat) (dep:Nat→Nat→Prop):Prop extends Plan0 ops m dep where
 tail:∀i j,m≤i→i<ops.size→j<i→dep i j
def WO {m:Nat} {ops:Array Oper} (hle:m≤ops.size) (get:∀i o,ops[i]?=some o→yb i o=true∧uz ops i o=true∧(i<m→vW m ops i o=true∧AS m ops i o=true)):Plan0 ops m fun i j=>iN ops i j=true:=by
 refine ⟨hle,fun i o ho e he hb=>?_,fun i o j ho hj hd=>?_,fun i o hi ho=>?_,fun i o j o' d hi hj ho aB hd bH=>?_,fun i o d hi ho hd=>?_,fun i o t j o' hi hj ho aR ht aB bH=>?_⟩
 ·have:=(Array.all_eq_true'.1 (get i o ho).1) e he;simpa [hb] using this
 ·have h1:=(get i o ho).2.1;simp only [uz,ej,mc] at h1;have h1:=h1 j hj;simp only [hd,Bool.not_true,Bool.false_or] at h1;obtain ⟨e,he,hb⟩:=Array.any_eq_true'.1 h1;simp only [bE,ug,beq_iff_eq] at hb;exact ⟨e,he,hb.1,hb.2⟩
 ·have h1:=((get i o ho).2.2 hi).1;unfold vW at h1;cases hd:o.dst with
  |none=>rw [hd] at h1;exact absurd h1 (by simp)
  |some d=>exact ⟨d,rfl⟩
 ·have h1:=((get i o ho).2.2 hi).1;unfold vW at h1;rw [hd] at h1;simp only [bE,ej,mc] at h1;have:=h1.2 j hj;rw [aB] at this;simpa [bH] using this
 ·have h1:=((get i o ho).2.2 hi).1;unfold vW at h1;rw [hd] at h1;simp only [bE] at h1;simpa using h1.1
 ·have h1:=((get i o ho).2.2 hi).2;simp only [AS,aR,Bool.false_or,ej,mc] at h1;have:=h1 t ht j hj;rw [aB] at this;simpa [bH] using this
def agc {m:Nat} {ops:Array Oper} (h:DH m ops=true):ZX ops m fun i j=>iN ops i j=true:=by
 simp only [DH,bE,ej,mc] at h;obtain ⟨hle,h⟩:=h
 have hle:m≤ops.size:=by simpa using hle
 have get:∀i o,ops[i]?=some o→yb i o=true∧uz ops i o=true∧(i<m→vW m ops i o=true∧AS m ops i o=true)∧(m≤i→AT ops i=true):=fun i o ho=>by
  have h1:=h i (lj.1 ho).1;rw [ho] at h1;simp only [bE] at h1;refine ⟨h1.1,h1.2.1,fun hi=>?_,fun hi=>?_⟩
  ·have hb:eN i m=true:=by simpa [gH] using hi
   have:=h1.2.2;rw [hb] at this;simpa using this
  ·have hb:eN i m=false:=by
    cases hb:eN i m
    ·rfl
    ·have:i<m:=by simpa [gH] using hb
     omega
   have:=h1.2.2;rw [hb] at this;simpa using this
 refine ⟨WO hle fun i o ho=>⟨(get i o ho).1,(get i o ho).2.1,(get i o ho).2.2.1⟩,fun i j hi hn hj=>?_⟩
 ·have h1:=(get i _ (gv hn)).2.2.2 hi;simp only [AT,ej,mc] at h1;exact h1 j hj
def HQ (m:Nat) (late:List Nat) (ops:Array Oper):Bool :=
 eN m ops.size&&((gw ops.size).all fun i=>match ops[i]? with
  |none=>true
  |some o=>yb i o&&(uz ops i o&&(bif eN i m then (vW m ops i o&&AS m ops i o)&&(iN ops m i||((dV o).isNone&&late.elem i)) else (bif eN m i then AT ops i else o.dst.isNone&&(o.guard.isNone&&((o.looksAt ops).all fun t=>(gw m).all fun j=>match ops[j]? with
   |none=>true
   |some o'=>(o'.dst != some t)||iN ops m j))))))
structure ZY (ops:Array Oper) (m:Nat) (late:List Nat) (dep:Nat→Nat→Prop):Prop extends Plan0 ops m dep where
 lt:m<ops.size
 tail:∀i j,m<i→i<ops.size→j<i→dep i j
 late:∀i o,i<m→ops[i]?=some o→dep m i∨(dV o=none∧i∈late)
 store:∀o,ops[m]?=some o→o.dst=none∧o.guard=none
 ad0:∀o t j o',ops[m]?=some o→t∈o.looksAt ops→j<m→ops[j]?=some o'→o'.dst=some t→dep m j
def agb {m:Nat} {late:List Nat} {ops:Array Oper} (h:HQ m late ops=true):ZY ops m late fun i j=>iN ops i j=true:=by
 simp only [HQ,bE,ej,mc] at h;obtain ⟨Φ,h⟩:=h
 have Φ:m<ops.size:=by simpa [gH] using Φ
 have get:∀i o,ops[i]?=some o→yb i o=true∧uz ops i o=true∧(i<m→vW m ops i o=true∧AS m ops i o=true∧(iN ops m i=true∨(dV o=none∧i∈late)))∧(m<i→AT ops i=true)∧(i=m→o.dst=none∧o.guard=none∧∀t,t∈o.looksAt ops→∀j,j<m→(match ops[j]? with|none=>true|some o'=>(o'.dst != some t)||iN ops m j)=true):=fun i o ho=>by
  have h1:=h i (lj.1 ho).1;rw [ho] at h1;simp only [bE] at h1;obtain ⟨h1,h2,h3⟩:=h1;refine ⟨h1,h2,fun hi=>?_,fun hi=>?_,fun hi=>?_⟩
  ·have hb:eN i m=true:=by simpa [gH] using hi
   rw [hb] at h3;simp only [cond_true,bE,ug] at h3;refine ⟨h3.1.1,h3.1.2,h3.2.imp (fun h=>h) fun h=>by simpa using h⟩
  ·have hb:eN i m=false:=by
    cases hb:eN i m
    ·rfl
    ·have:i<m:=by simpa [gH] using hb
     omega
   have iA:eN m i=true:=by simpa [gH] using hi
   rw [hb,iA] at h3;simpa using h3
  ·subst hi
   have hb:eN i i=false:=by
    cases hb:eN i i
    ·rfl
    ·have:i<i:=by simpa [gH] using hb
     omega
   rw [hb] at h3;simpa [hb] using h3
 refine ⟨WO (by omega) fun i o ho=>⟨(get i o ho).1,(get i o ho).2.1,fun hi=>⟨((get i o ho).2.2.1 hi).1,((get i o ho).2.2.1 hi).2.1⟩⟩,Φ,fun i j hi hn hj=>?_,fun i o hi ho=>((get i o ho).2.2.1 hi).2.2,fun o ho=>⟨((get m o ho).2.2.2.2 rfl).1,((get m o ho).2.2.2.2 rfl).2.1⟩,fun o t j o' ho ht hj aB hd=>by
  have:=((get m o ho).2.2.2.2 rfl).2.2 t ht j hj;rw [aB] at this
  simpa [hd] using this⟩
 have h1:=(get i _ (gv hn)).2.2.2.1 hi;simp only [AT,ej,mc] at h1;exact h1 j hj
section
variable {P:Program} {T:TT} {C:Ctx} {ds:List Deferred}
def XN {o:Oper} {ρ:Operand→AV} {H:Hp} {k:AV→Prop} (h:nY P T o ρ H k):∀c,o.op≠.defer c:=fun c e=>by
 unfold nY at h;rw [e] at h;exact XQ h c e
def abh {d:Nat} (pz:d<1000) {st:ae} {w:World} {F:Nat→Prop} {β:Nat→Value} {g:Nat→Value} (hf:∀t,Rd w F β (st.f t) (g t)) (he:XM C ds w F β st.H) :
  let av:=fun i=>if i=d then undef else β i
  (∀t,Rd w F av (er 2 d (st.f t)) (g t))∧XM C ds w F av (gT d st.H):=by
 intro av;have go:Ext w F β ⟨aF,st.H⟩ w F av ⟨aF,gT d st.H⟩→_:=fun h=>he.trans h;have ah:∀i,i≠d→av i=β i:=fun i hi=>if_neg hi;have hI:Inv w F β st.H:=he.inv
 have dr:∀b,bC av (gT d st.H) b→bC β st.H b:=by
  rintro b ⟨i,c,hm,hb⟩;obtain ⟨hi,c',bW,_⟩:=ir hm;exact ⟨i,c',bW,by rw [←ah i hi];exact hb⟩
 refine ⟨fun t=>sN ah 2 (hf t),go ⟨rfl,jt.refl _,rfl,bG _,fun _ _ _=>rfl,fun _ h=>h,fun _ h=>.inl h,fun b hb=>.inr (dr b hb),fun _ _ _=>.χ,?_,fun i hi=>ah i (by omega)⟩⟩;refine ⟨hI.cC,fun i c hm=>?_,DM hI.keys,fun b hb=>hI.apart b (dr b hb),fun i c i' c' b hm bW hb aK=>?_,hI.fk⟩
 ·obtain ⟨hi,c',bW,rfl⟩:=ir hm;exact IX hi ah (hI.holds i c' bW)
 ·obtain ⟨hi,c2,h2,_⟩:=ir hm;obtain ⟨bm,AP,iz,_⟩:=ir bW;rw [ah i hi] at hb;rw [ah i' bm] at aK;exact hI.eC i c2 i' AP b h2 iz hb aK
def Mk {w:World} {F:Nat→Prop} {g:Nat→Value}:∀(al:List (Nat×Option Nat)) (_:∀d t,(d,t)∈al→d<1000) {st:ae} {β:Nat→Value},(∀t,Rd w F β (st.f t) (g t))→XM C ds w F β st.H →
  ∃av,(∀t,Rd w F av ((jy al st).f t) (g t))∧XM C ds w F av (jy al st).H ∧
   (∀d,β d=undef∨(∃t,(d,t)∈al)→av d=undef)∧(∀d,(∀c,(d,c)∉st.H)∨(∃t,(d,t)∈al)→∀c,(d,c)∉(jy al st).H)
 |[],_,st,β,hf,he=>by
  refine ⟨β,hf,he,fun d h=>?_,fun d h=>?_⟩
  ·rcases h with h|⟨t,ht⟩
   ·exact h
   ·exact (eJ ht).elim
  ·rcases h with h|⟨t,ht⟩
   ·exact h
   ·exact (eJ ht).elim
 |(d,t)::r,pz,st,β,hf,he=>by
  obtain ⟨h1,h2⟩:=abh (d:=d) (pz d t (by simp)) hf he;obtain ⟨av,h3,h4,h5,h6⟩:=Mk r (fun d t h=>pz d t (by simp [h])) (st:=⟨fun t=>er 2 d (st.f t),gT d st.H⟩) h1 h2;refine ⟨av,h3,h4,fun e he=>h5 e ?_,fun e he=>h6 e ?_⟩
  ·by_cases Bf:e=d
   ·left;simp [Bf]
   ·rcases he with he|⟨t',BK⟩
    ·left;simp [Bf,he]
    ·rcases bf.1 BK with h|h
     ·cases h;exact absurd rfl Bf
     ·exact .inr ⟨t',h⟩
  ·by_cases Bf:e=d
   ·left;intro c hc;exact (ir hc).1 Bf
   ·rcases he with he|⟨t',BK⟩
    ·left;intro c hc
     obtain ⟨_,c',eK,_⟩:=ir hc;exact he c' eK
    ·rcases bf.1 BK with h|h
     ·cases h;exact absurd rfl Bf
     ·exact .inr ⟨t',h⟩
def LO {n:Nat} {K:ae→Prop}:∀(al:List (Nat×Option Nat)) (st:ae),q6 T n al st K→(al.map (·.1)).Nodup→(∀d t,(d,t)∈al→∀c,(d,c)∉st.H)→(st.H.map (·.1)).Nodup →
  ∃fA HA,K ⟨fA,HA⟩∧(∀t,(∀ty,(t,ty)∉al)→fA t=st.f t)∧(∀d t,(d,t)∈al→d<n∧∃c,lq T d t c∧fA d=wQ d c)∧(HA.map (·.1)).Nodup ∧
   ∀x,x∈HA↔x∈st.H∨∃d t c,(d,t)∈al∧lq T d t c∧x=(d,c)
 |[],st,h,_,_,hk=>⟨st.f,st.H,h,fun _ _=>rfl,fun d t ht=>(eJ ht).elim,hk,fun x=>⟨.inl,fun h=>h.elim id fun ⟨_,_,_,h,_⟩=>(eJ h).elim⟩⟩
 |(d,t)::r,st,h,hn,eS,hk=>by
  obtain ⟨c0,oD,Φ,h⟩:∃c,lq T d t c∧d<n∧q6 T n r ⟨dX st.f d (wQ d c),(d,c)::st.H⟩ K:=by
   cases t with
   |some t =>
    simp only [q6] at h;split at h
    ·rename_i z hz;obtain ⟨hb,h⟩:=cond_prop h;simp only [bE] at hb;exact ⟨_,⟨z,hz,hb.1,rfl⟩,by simpa [gH] using hb.2,h⟩
    ·cases h
   |none =>
    simp only [q6] at h;split at h
    ·rename_i c hc;obtain ⟨hb,h⟩:=cond_prop h;exact ⟨c,hc,by simpa [gH] using hb,h⟩
    ·cases h
  simp only [jJ,iw] at hn;have sY:∀ty,(d,ty)∉r:=fun ty hm=>hn.1 (c9.2 ⟨_,hm,rfl⟩)
  obtain ⟨fA,HA,h1,h2,h3,h4,h5⟩:=LO r ⟨dX st.f d (wQ d c0),(d,c0)::st.H⟩ h hn.2 (fun d' t' hm c hc=>by
   rcases bf.1 hc with hc|hc
   ·cases hc;exact sY _ hm
   ·exact eS d' t' (cu _ hm) c hc) (by
   simp only [jJ,iw];refine ⟨fun hm=>?_,hk⟩;obtain ⟨x,hx,lF⟩:=c9.1 hm
   exact eS d t (by simp) x.2 (by rw [←lF];exact hx))
  refine ⟨fA,HA,h1,fun t' BK=>?_,fun d' t' hm=>?_,h4,fun x=>?_⟩
  ·rw [h2 t' fun ty hm=>BK ty (cu _ hm)];exact Qu fun e=>BK t (by rw [e];simp)
  ·rcases bf.1 hm with hm|hm
   ·cases hm;exact ⟨Φ,c0,oD,by rw [h2 d sY];exact Qt _ _ _⟩
   ·exact h3 d' t' hm
  ·rw [h5 x,bf];constructor
   ·rintro ((rfl|h)|⟨d',t',c',hm,iS,rfl⟩)
    ·exact .inr ⟨d,t,c0,by simp,oD,rfl⟩
    ·exact .inl h
    ·exact .inr ⟨d',t',c',cu _ hm,iS,rfl⟩
   ·rintro (h|⟨d',t',c',hm,iS,rfl⟩)
    ·exact .inl (.inr h)
    ·rcases bf.1 hm with hm|hm
     ·cases hm;rw [iS.uniq oD];exact .inl (.inl rfl)
     ·exact .inr ⟨d',t',c',hm,iS,rfl⟩
def count_set:∀(l:List Bool) (i:Nat),l[i]?=some false→(l.set i true).count false+1=l.count false
 |[],i,h=>by simp at h
 |b::r,0,h=>by simp at h;subst h;simp
 |b::r,i+1,h=>by
  have:=count_set r i (by simpa using h);cases b<;>simp<;>omega
def steady (m:Nat) (ops:Array Oper):List Oper:=(ops.toList.take m).filter fun o=>(dV o).isNone
def eA (m:Nat) (ops:Array Oper):List (Nat×Option Nat):=(ops.toList.take m).filterMap dV
def oO {ops:Array Oper} {m:Nat} {o:Oper}:o∈ops.toList.take m↔∃i,i<m∧ops[i]?=some o:=by
 constructor
 ·intro h;obtain ⟨i,hi,rfl⟩:=Dg.1 h;simp only [dR,lJ] at hi;refine ⟨i,by omega,?_⟩
  have:i<ops.size:=by omega
  simp [G5,this]
 ·rintro ⟨i,hi,ho⟩;obtain ⟨Φ,rfl⟩:=lj.1 ho;rw [Dg];refine ⟨i,by simp only [dR,lJ];omega,by simp [G5]⟩
def kE {o:Oper} {d:Nat} {t:Option Nat} (h:dV o=some (d,t)):o.dst=some d∧o.guard=none:=by
 unfold dV at h;split at h
 ·cases h;exact ⟨by assumption,by assumption⟩
 ·rename_i d' _ _ _;cases hb:MD.md.elem d' with
  |true=>rw [hb] at h;cases h;exact ⟨by assumption,by assumption⟩
  |false=>rw [hb] at h;cases h
 ·cases h
def Z1 {o:Oper} {d t:Nat} (h:dV o=some (d,some t)):o.op=.alloc t:=by
 unfold dV at h;split at h
 ·cases h;assumption
 ·rename_i d' _ _ _;cases hb:MD.md.elem d' with
  |true=>rw [hb] at h;cases h
  |false=>rw [hb] at h;cases h
 ·cases h
def Om {o:Oper} (h:dV o=none):zr o=false:=by unfold zr;rw [h]
def Vo {o:Oper} {d:Nat} (h:dV o=some (d,none)):zr o=false:=by unfold zr;rw [h]
structure oo (C:Ctx) (CO:Nat→Option Nat→Chunk→Prop) (ops:Array Oper) (m:Nat) (fA:Nat→AV) (Hm:Hp) (listed:Array Bool) (a:Act) (w:World):Prop where
 ex:∃F β H,a.tmps.size=C.n∧True∧XM C a.defers w F β H ∧
  (∀x,x∈H↔x∈Hm∨∃i o d t c,i<m∧listed.getD i false=true∧ops[i]?=some o∧dV o=some (d,t)∧CO d t c∧x=(d,c)) ∧
  (∀i o d t,i<m→ops[i]?=some o→dV o=some (d,t)→listed.getD i false=false→β d=undef) ∧
  (∀t,(∀i o,i<m→ops[i]?=some o→o.dst=some t→listed.getD i false=true)→Rd w F β (fA t) (a.tmps.getD t undef))
def fF {listed:Array Bool} {i j:Nat} (hi:i<listed.size):(listed.setIfInBounds i true).getD j false=(if j=i then true else listed.getD j false):=by
 by_cases h:j=i
 ·subst h;simp [hi]
 ·simp [xm (j3 h),h]
def MT {CO:Nat→Option Nat→Chunk→Prop} {ops:Array Oper} {m i n:Nat} {dep:Nat→Nat→Prop} {o:Oper} {fA fe:Nat→AV} {Hm:Hp} {listed:Array Bool} {a:Act} {w:World} {Q:Exit→Act→World→Prop} {N:Act→World→Prop}
  (hT:bO P T) (hn:C.n=n) (hp:RJ ops m dep) (aX:listed.size=ops.size) (hi:i<m) (ho:ops[i]?=some o) (aR:dV o=none) (dO:listed.getD i false=false)
  (M8:∀j,j<m→dep i j→listed.getD j false=true) (lA:∀t,(∀j o' ty,j<m→ops[j]?=some o'→dV o'=some (t,ty)→rU o'=true)→fA t=fe t)
  (MK:(Hm.map (·.1)).Nodup) (bX:vO P T ops Hm fe o) (Φ:∀d,o.dst=some d→d<n) (h:oo C CO ops m fA Hm listed a w)
  (hN:∀a w,oo C CO ops m fA Hm (listed.setIfInBounds i true) a w→N a w):wpOpIn (fQ C.ro) 0 P ops Q i N a w:=by
 obtain ⟨F,β,H,hs,hd,he,bI,zi,hf⟩:=h.ex;obtain ⟨d,fo,bX⟩:=bX
 have yD:d<a.tmps.size:=by rw [hs,hn];exact Φ d fo
 have eL:i<listed.size:=by rw [aX];exact (lj.1 ho).1
 have look:∀t,t∈o.looksAt ops→Rd w F β (fe t) (a.tmps.getD t undef):=fun t ht=>by
  have bp:∀j o' ty,j<m→ops[j]?=some o'→dV o'=some (t,ty)→rU o'=true:=fun j o' ty hj aB ji=>by
   have:=(hp.look i o t j o' hi hj ho (Om aR) ht aB (kE ji).1).2
   rcases this with this|this
   ·rw [this] at ji;cases ji
   ·exact this
  rw [←lA t bp];exact hf t fun j o' hj aB bH=>M8 j hj (hp.look i o t j o' hi hj ho (Om aR) ht aB bH).1
 have rR:∀x,x∈o.op.operands→Rd w F β (ev fe x) (a.eval x):=fun x hx=>by
  cases x with
  |tmp t=>exact look t (qR _ (ma.2 ⟨.tmp t,by simpa using hx,rfl⟩))
  |const v=>exact nV _ _ _ _
  |global g=>exact .χ
  |func g=>exact .i (.c rfl rfl (fun i hi=>absurd hi (by simp)) (fun i hi=>absurd hi (by simp)))
 have hI:Inv w F β Hm:=he.inv.sub (fun x hx=>(bI x).2 (.inl hx)) MK
 have ab1:∀j o' ty,j<m→ops[j]?=some o'→dV o'≠some (d,ty):=fun j o' ty hj aB ji=>by
  have:=hp.one i o j o' d hi hj ho aB fo (kE ji).1;subst this;rw [ho] at aB;cases aB;rw [aR] at ji;cases ji
 have done:∀(v:Value) (w':World),Below w.heap.size w w'→Rd w' (fG F w w') β (fe d) v→oo C CO ops m fA Hm (listed.setIfInBounds i true) (a.put (some d) v) w':=fun v w' hb hv=>by
  have hx:=wa (st:=⟨aF,H⟩) he.inv hb;refine ⟨fG F w w',β,H,by simpa [iL] using hs,hd,he.trans hx,fun x=>?_,fun j o' d' t hj aB ji hl=>?_,fun t ht=>?_⟩
  ·rw [bI x];constructor
   ·rintro (h|⟨j,o',d',t,z,h1,h2,h3,h4,h5,h6⟩)
    ·exact .inl h
    ·exact .inr ⟨j,o',d',t,z,h1,by rw [fF eL];split<;>first|rfl|exact h2,h3,h4,h5,h6⟩
   ·rintro (h|⟨j,o',d',t,z,h1,h2,h3,h4,h5,h6⟩)
    ·exact .inl h
    ·refine .inr ⟨j,o',d',t,z,h1,?_,h3,h4,h5,h6⟩;rw [fF eL] at h2;split at h2
     ·rename_i e;subst e;rw [ho] at h3;cases h3;rw [aR] at h4;cases h4
     ·exact h2
  ·rw [fF eL] at hl;split at hl
   ·cases hl
   ·exact zi j o' d' t hj aB ji hl
  ·by_cases pH:t=d
   ·subst pH;rw [lA t fun j o' ty hj aB ji=>absurd ji (ab1 j o' ty hj aB)];simpa [iL,yD] using hv
   ·have h1:=(hf t fun j o' hj aB bH=>by
     have:=ht j o' hj aB bH;rw [fF eL] at this;split at this
     ·rename_i e;subst e;rw [ho] at aB;cases aB;rw [fo] at bH;cases bH;exact absurd rfl pH
     ·exact this).later hb he.inv.cC
    simpa [iL,xm (j3 pH)] using h1
 have run:(nY P T o (ev fe) Hm fun r=>r=fe d)→o.wpIn (fQ C.ro) 0 P a w N Q:=fun hs=>by
  have dJ:=XN hs
  rcases XO hT hI rR hs with ⟨v,w',aY,hb,r,rfl,hv⟩|⟨g,vs,aY,hc⟩
  ·refine Oper.kj dJ aY ?_;rw [xy,fo];exact hN _ _ (done v w' hb hv)
  ·refine Oper.kj dJ aY ?_;rw [AE];refine ⟨fun h=>(by cases h),vV (hc.mono ?_)⟩;rintro e w' ⟨v,rfl,hb,r,rfl,hv⟩;rw [fo];exact hN _ _ (done v w' hb hv)
 have skip:fe d=.v undef→N (a.put o.dst undef) w:=fun h0=>by
  rw [fo];exact hN _ _ (done undef w (Below.refl _ _) (by rw [h0];exact .i (.v (.inr rfl))))
 unfold wpOpIn;simp only [ho];cases hg:o.guard with
 |none =>
  rw [hg] at bX
  have hw:dU o (yielded ops a.tmps)=true:=by simp [dU,hg]
  rw [if_pos hw];exact run bX
 |some jw =>
  obtain ⟨j,want⟩:=jw;rw [hg] at bX;obtain ⟨g,et,bX⟩:=bX
  have uM:g∈o.looksAt ops:=by
   refine vE _ ?_;rw [hg];simp [et]
  have pk:=look g uM
  have hy:∀v,v≠undef→a.tmps.getD g undef=v→yielded ops a.tmps j=match v with|.bool b=>some b|_=>none:=by
   intro v aP hv
   have h2:a.tmps[g]?=some v:=by
    by_cases hl:g<a.tmps.size
    ·rw [←hv];simp [hl]
    ·exact absurd (by rw [←hv];simp [hl]) aP
   unfold yielded;rw [et,cD,h2];cases v<;>rfl
  rcases bX with ⟨h1,h2⟩|⟨h1,h2⟩|⟨⟨vs,h1⟩,h2⟩
  ·rw [h1] at pk;have g_:=hy _ (by simp [undef]) pk.bN
   have hw:dU o (yielded ops a.tmps)=true:=by simp [dU,hg,g_]
   rw [if_pos hw];exact run h2
  ·rw [h1] at pk;have g_:=hy _ (by simp [undef]) pk.bN
   have hw:¬dU o (yielded ops a.tmps)=true:=by simp [dU,hg,g_]
   rw [if_neg hw];exact ⟨fun _ _=>trivial,skip h2⟩
  ·rw [h1] at pk;have hv:=pk.bN
   have g_:yielded ops a.tmps j=none:=by
    unfold yielded;rw [et,cD];by_cases hl:g<a.tmps.size
    ·have h3:a.tmps[g]?=some (.tuple vs):=by rw [←hv];simp [hl]
     rw [h3]
    ·simp [Y4 (Nat.le_of_not_lt hl)]
   have hw:¬dU o (yielded ops a.tmps)=true:=by simp [dU,hg,g_]
   rw [if_neg hw];exact ⟨fun _ _=>trivial,skip h2⟩
def aak {o:Oper} {q:Call} {x:Operand} {g:FuncId} {fs cs ys:List AV} {f:Nat→AV} {a:Act} {w:World} {F:Nat→Prop} {β:Nat→Value} {post:Value→World→Prop} (qm:o.op=.call q) (hc:q.callee=.value x)
  (hf:ev f x=.c (.func g) fs cs) (hle:iM (fs++(q.args.toList.map (ev f)++cs)) ys) (hE:p6 P g) (rR:∀x,x∈o.op.operands→Rd w F β (ev f x) (a.eval x))
  (h:∀vs:Array Value,vs.size=ys.length→(∀i,i<ys.length→Rd w F β (ys.getD i .χ) (vs.getD i undef))→Calls P g vs w fun e w'=>∃v,e=.returned v∧post v w') :
  ∃vs,(execOp a.eval o).run P w=.ok (.enter g vs) w∧Calls P g vs w fun e w'=>∃v,e=.returned v∧post v w':=by
 obtain ⟨dst,op,type,pos,after,guard⟩:=o;simp only at qm;subst qm;obtain ⟨callee,args,argTypes⟩:=q;simp only at hc;subst hc;have hx:=rR x (by simp [uo,qN]);rw [hf] at hx;obtain ⟨us,ws,wy,hs,ew,hu,hw⟩:=hx.nt
 have mN:∀i,i<(args.toList.map (ev f)).length→Rd w F β ((args.toList.map (ev f)).getD i .χ) ((args.map a.eval).getD i undef):=fun i hi=>by
  simp at hi;have:=rR args[i] (by simp [uo,qN]);simpa [aV,hi] using this
 have hj:=Hs hs (vs:=args.map a.eval) (by simp) ew hu mN hw;obtain ⟨hl,hz⟩:=hle.spec;obtain ⟨fn,c,dE,dN,yy⟩:=hE;refine ⟨us++args.map a.eval++ws,?_,h _ ?_ fun i hi=>hz i (by rw [hl];exact hi) _ _ _ _ (hj i (by rw [hl];exact hi))⟩
 ·have rG : ¬ fn.name = "runtime.NumGoroutine" := by simpa using dN
  simp only [execOp];have e:(do let d ←resolve a.eval { callee:=.value x,args:=args,argTypes:=argTypes } type;invoke d.target d.args:Sem Next)=(do let d ←l8 (a.eval x) (args.map a.eval);invoke d.target d.args):=rfl;rw [e,wy];simp [l8,invoke,callFunc,dE,rG,yy]
 ·rw [←hl];simp [hs,ew]
def TA {ops:Array Oper} {m i n:Nat} {dep:Nat→Nat→Prop} {o:Oper} {d t:Nat} {z:TI} {fA:Nat→AV} {Hm:Hp} {listed:Array Bool} {a:Act} {w:World} {Q:Exit→Act→World→Prop} {N:Act→World→Prop}
  (hT:bO P T) (hn:C.n=n) (hp:Plan0 ops m dep) (aX:listed.size=ops.size) (hi:i<m) (ho:ops[i]?=some o) (aR:dV o=some (d,some t)) (dO:listed.getD i false=false)
  (hz:T t=some z) (NC:jm (cr z.zero)=true) (gn:fA d=.b d 0) (Φ:d<n) (eS:∀c,(d,c)∉Hm) (h:oo C (lq T) ops m fA Hm listed a w)
  (hN:∀a w,oo C (lq T) ops m fA Hm (listed.setIfInBounds i true) a w→N a w):wpOpIn (fQ C.ro) 0 P ops Q i N a w:=by
 obtain ⟨F,β,H,hs,hd,he,bI,zi,hf⟩:=h.ex;obtain ⟨fo,et⟩:=kE aR;have qm:=Z1 aR
 have yD:d<a.tmps.size:=by rw [hs,hn];exact Φ
 have eL:i<listed.size:=by rw [aX];exact (lj.1 ho).1
 have EV:=zi i o d t hi ho aR dO
 have lW:∀c,(d,c)∉H:=fun c hc=>by
  rcases (bI _).1 hc with h|⟨j,o',d',t',z',h1,h2,h3,h4,h5,h6⟩
  ·exact eS c h
  ·cases h6;have:=hp.one i o j o' d hi h1 ho h3 fo (kE h4).1;subst this;rw [dO] at h2;cases h2
 have Oe:=(hT _ _ hz).tQ w
 have aY:(execOp a.eval o).run P w=.ok (.value (.pointer (some ⟨w.heap.size,0,none⟩))) (w.alloc (.cells z.zero.cells t)):=by
  unfold execOp;rw [qm];simp [Instr.alloc,Oe,newVar,newRow]
 have hr:=fun av:Nat→Value=>o9 (nV (w.alloc (.cells z.zero.cells t)) F z.zero av) NC;have hx:=abj (f:=aF) (e:=t) (hp.low i o d hi ho fo) he.inv EV lW (hr β).1 (fun j hj=>((hr β).2 j hj).1) (fun av j hj=>((hr av).2 j hj).2);have iT:∀i,i≠d→(fun i=>if i=d then Rw (some ⟨w.heap.size,0,none⟩) else β i) i=β i:=fun i hi=>if_neg hi;have ha:ga F w (w.alloc (.cells z.zero.cells t)):=Below.agree (vR w _) he.inv.cC
 have hw:dU o (yielded ops a.tmps)=true:=by simp [dU,et]
 unfold wpOpIn;simp only [ho];rw [if_pos hw];refine Oper.kj (fun c e=>by rw [qm] at e;cases e) aY ?_;rw [xy,fo];refine hN _ _ ⟨F,_,(d,.box (bu (cr z.zero)))::H,by simpa [iL] using hs,hd,he.trans hx,fun x=>?_,fun j o' d' t' hj aB ji hl=>?_,fun q hq=>?_⟩
 ·rw [bf,bI x];constructor
  ·rintro (rfl|h|⟨j,o',d',t',z',h1,h2,h3,h4,h5,h6⟩)
   ·exact .inr ⟨i,o,d,some t,_,hi,by rw [fF eL,if_pos rfl],ho,aR,⟨z,hz,NC,rfl⟩,rfl⟩
   ·exact .inl h
   ·exact .inr ⟨j,o',d',t',z',h1,by rw [fF eL];split<;>first|rfl|exact h2,h3,h4,h5,h6⟩
  ·rintro (h|⟨j,o',d',t',z',h1,h2,h3,h4,h5,h6⟩)
   ·exact .inr (.inl h)
   ·rw [fF eL] at h2;split at h2
    ·rename_i e;subst e;rw [ho] at h3;cases h3;rw [aR] at h4;cases h4;rw [h5.uniq ⟨z,hz,NC,rfl⟩] at h6;exact .inl h6
    ·exact .inr (.inr ⟨j,o',d',t',z',h1,h2,h3,h4,h5,h6⟩)
 ·rw [fF eL] at hl;split at hl
  ·cases hl
  ·have aP:d'≠d:=fun e=>by
    subst e;have:=hp.one i o j o' d' hi hj ho aB fo (kE ji).1;rename_i uO;exact uO this.symm
   show (if d'=d then _ else β d')=undef;rw [if_neg aP];exact zi j o' d' t' hj aB ji hl
 ·by_cases rK:q=d
  ·subst rK;rw [gn]
   have:(a.put (some q) (.pointer (some ⟨w.heap.size,0,none⟩))).tmps.getD q undef=.pointer (some ⟨w.heap.size,0,none⟩):=by simp [iL,yD]
   rw [this];exact .b (by simp)
  ·have h1:=(hf q fun j o' hj aB bH=>by
    have:=hq j o' hj aB bH;rw [fF eL] at this;split at this
    ·rename_i e;subst e;rw [ho] at aB;cases aB;rw [fo] at bH;cases bH;exact absurd rfl rK
    ·exact this)
   have h2:=(h1.frame ha fun _ h=>h).CW EV iT;simpa [iL,xm (j3 rK)] using h2
def abk {w w':World} {F F':Nat→Prop} {β:Nat→Value} {H:Hp} {d:Nat} {c:Chunk} {v:Value} {f:Nat→AV} (pz:d<1000) (hI:Inv w F β H) (hd:β d=undef) (lW:∀c,(d,c)∉H) (hb:Below w.heap.size w w') (kb:∀b,F b→F' b) (uE:∀b,F' b→fG F w w' b)
  (eS:∀b,bR v=some b→w.heap.size≤b∧¬F' b) (hc:c.holds w' F' (fun i=>if i=d then v else β i) d) :
  Ext w F β ⟨f,H⟩ w' F' (fun i=>if i=d then v else β i) ⟨f,(d,c)::H⟩:=by
 have ah:∀i,i≠d→(fun i=>if i=d then v else β i) i=β i:=fun i hi=>if_neg hi;have ha:ga F w w':=Below.agree hb hI.cC
 have dr:∀b,bC (fun i=>if i=d then v else β i) ((d,c)::H) b→(w.heap.size≤b∧¬F' b)∨bC β H b:=by
  rintro b ⟨i,c',hm,aK⟩
  rcases bf.1 hm with hm|hm
  ·cases hm;simp only [if_true] at aK;exact .inl (eS b aK)
  ·have hi:i≠d:=fun e=>lW c' (e▸hm);simp only [if_neg hi] at aK;exact .inr ⟨i,c',hm,aK⟩
 refine ⟨hb.os,hb.tape,hb.output,hb.size,fun b h _=>hb.block b h,kb,fun b h=>(uE b h).elim .inl fun h=>.inr (.inl h.1),fun b h=>(dr b h).elim (fun h=>.inl h.1) .inr,fun t u h=>(h.frame ha kb).CW hd ah,?_,fun i hi=>ah i (by omega)⟩;refine ⟨fun b h=>(uE b h).elim (fun h=>oe (hI.cC b h) hb.size) fun h=>h.2,?_,?_,fun b ho hF=>?_,?_,hI.fk.frame ha kb⟩
 ·intro i c' hm
  rcases bf.1 hm with hm|hm
  ·cases hm;exact hc
  ·have hi:i≠d:=fun e=>lW c' (e▸hm);exact UA hd ah hi (pD ha kb (fun b aK=>hb.block b (hI.fM ⟨i,c',hm,aK⟩)) (hI.holds i c' hm))
 ·show ((d::(H.map (·.1)))).Nodup;rw [iw];refine ⟨fun hm=>?_,hI.keys⟩;obtain ⟨x,hx,lF⟩:=c9.1 hm;obtain ⟨i,c'⟩:=x;exact lW c' (by rw [←lF];exact hx)
 ·rcases dr b ho with h|h
  ·exact h.2 hF
  ·rcases uE b hF with h1|h1
   ·exact hI.apart b h h1
   ·exact absurd (hI.fM h) (me.2 h1.1)
 ·have key:∀i c' b,(i,c')∈H→bR (β i)=some b→bR v=some b→False:=fun i c' b hm cO hv =>
   absurd (hI.fM ⟨i,c',hm,cO⟩) (me.2 (eS b hv).1)
  intro i c1 i' p8 b hm bW cO aK
  rcases bf.1 hm with hm|hm<;>rcases bf.1 bW with bW|bW
  ·cases hm;cases bW;rfl
  ·cases hm;have hi:i'≠d:=fun e=>lW p8 (e▸bW);simp only [if_true] at cO;simp only [if_neg hi] at aK;exact (key i' p8 b bW aK cO).elim
  ·cases bW;have hi:i≠d:=fun e=>lW c1 (e▸hm);simp only [if_true] at aK;simp only [if_neg hi] at cO;exact (key i c1 b hm cO aK).elim
  ·have hi:i≠d:=fun e=>lW c1 (e▸hm);have bm:i'≠d:=fun e=>lW p8 (e▸bW);simp only [if_neg hi] at cO;simp only [if_neg bm] at aK;exact hI.eC i c1 i' p8 b hm bW cO aK
def TB {ops:Array Oper} {m i n:Nat} {dep:Nat→Nat→Prop} {o:Oper} {d:Nat} {c:Chunk} {fA fe:Nat→AV} {Hm:Hp} {listed:Array Bool} {a:Act} {w:World} {Q:Exit→Act→World→Prop} {N:Act→World→Prop}
  (hn:C.n=n) (hp:Plan0 ops m dep) (aX:listed.size=ops.size) (hi:i<m) (ho:ops[i]?=some o) (aR:dV o=some (d,none)) (dO:listed.getD i false=false)
  (M8:∀j,j<m→dep i j→listed.getD j false=true) (lA:∀t,(∀j o' ty,j<m→ops[j]?=some o'→dV o'=some (t,ty)→rU o'=true)→fA t=fe t)
  (hc:lq T d none c) (bX:Hi P fe o c) (gn:fA d=wQ d c) (Φ:d<n) (eS:∀c,(d,c)∉Hm) (h:oo C (lq T) ops m fA Hm listed a w)
  (hN:∀a w,oo C (lq T) ops m fA Hm (listed.setIfInBounds i true) a w→N a w):wpOpIn (fQ C.ro) 0 P ops Q i N a w:=by
 obtain ⟨F,β,H,hs,hd,he,bI,zi,hf⟩:=h.ex;obtain ⟨fo,et⟩:=kE aR
 have yD:d<a.tmps.size:=by rw [hs,hn];exact Φ
 have eL:i<listed.size:=by rw [aX];exact (lj.1 ho).1
 have EV:=zi i o d none hi ho aR dO
 have look:∀t,t∈o.looksAt ops→Rd w F β (fe t) (a.tmps.getD t undef):=fun t ht=>by
  have bp:∀j o' ty,j<m→ops[j]?=some o'→dV o'=some (t,ty)→rU o'=true:=fun j o' ty hj aB ji=>by
   have:=(hp.look i o t j o' hi hj ho (Vo aR) ht aB (kE ji).1).2
   rcases this with this|this
   ·rw [this] at ji;cases ji
   ·exact this
  rw [←lA t bp];exact hf t fun j o' hj aB bH=>M8 j hj (hp.look i o t j o' hi hj ho (Vo aR) ht aB bH).1
 have rR:∀x,x∈o.op.operands→Rd w F β (ev fe x) (a.eval x):=fun x hx=>by
  cases x with
  |tmp t=>exact look t (qR _ (ma.2 ⟨.tmp t,by simpa using hx,rfl⟩))
  |const v=>exact nV _ _ _ _
  |global g=>exact .χ
  |func g=>exact .i (.c rfl rfl (fun i hi=>absurd hi (by simp)) (fun i hi=>absurd hi (by simp)))
 have lW:∀c,(d,c)∉H:=fun c hc=>by
  rcases (bI _).1 hc with h|⟨j,o',d',t',z',h1,h2,h3,h4,h5,h6⟩
  ·exact eS c h
  ·cases h6;have:=hp.one i o j o' d hi h1 ho h3 fo (kE h4).1;subst this;rw [dO] at h2;cases h2
 obtain ⟨q,x,g,fs,cs,ys,qm,abR,wy,hM,hle⟩:∃q x g fs cs ys,o.op=.call q∧q.callee=.value x∧ev fe x=.c (.func g) fs cs∧LB P g ys c∧iM (fs++(q.args.toList.map (ev fe)++cs)) ys:=by
  unfold Hi at bX;split at bX
  ·rename_i q qm;split at bX
   ·rename_i x hx;split at bX
    ·rename_i g fs cs wy;obtain ⟨ys,h1,h2⟩:=bX;exact ⟨q,x,g,fs,cs,ys,qm,hx,wy,h1,h2⟩
    ·exact bX.elim
   ·exact bX.elim
  ·exact bX.elim
 have hw:dU o (yielded ops a.tmps)=true:=by simp [dU,et]
 obtain ⟨vs,aY,abT⟩:=aak (P:=P) qm abR wy hle hM.1 rR fun vs jk fB=>hM.2 w F β vs he.inv.nil jk fB;unfold wpOpIn;simp only [ho];rw [if_pos hw];refine Oper.kj (fun c e=>by rw [qm] at e;cases e) aY ?_;rw [AE];refine ⟨fun h=>(by cases h),vV (abT.mono ?_)⟩;rintro e w' ⟨v,rfl,hb,F',kb,uE,hv,aci⟩;rw [fo];have hx:=abk (f:=aF) (hp.low i o d hi ho fo) he.inv EV lW hb kb uE aci (hv (fun i=>if i=d then v else β i) d (if_pos rfl)).1;have iT:∀i,i≠d→(fun i=>if i=d then v else β i) i=β i:=fun i hi=>if_neg hi;have ha:ga F w w':=Below.agree hb he.inv.cC;refine hN _ _ ⟨F',_,(d,c)::H,by simpa [iL] using hs,hd,he.trans hx,fun x=>?_,fun j o' d' t' hj aB ji hl=>?_,fun q hq=>?_⟩
 ·rw [bf,bI x];constructor
  ·rintro (rfl|h|⟨j,o',d',t',z',h1,h2,h3,h4,h5,h6⟩)
   ·exact .inr ⟨i,o,d,none,_,hi,by rw [fF eL,if_pos rfl],ho,aR,hc,rfl⟩
   ·exact .inl h
   ·exact .inr ⟨j,o',d',t',z',h1,by rw [fF eL];split<;>first|rfl|exact h2,h3,h4,h5,h6⟩
  ·rintro (h|⟨j,o',d',t',z',h1,h2,h3,h4,h5,h6⟩)
   ·exact .inr (.inl h)
   ·rw [fF eL] at h2;split at h2
    ·rename_i e;subst e;rw [ho] at h3;cases h3;rw [aR] at h4;cases h4;rw [h5.uniq hc] at h6;exact .inl h6
    ·exact .inr (.inr ⟨j,o',d',t',z',h1,h2,h3,h4,h5,h6⟩)
 ·rw [fF eL] at hl;split at hl
  ·cases hl
  ·have aP:d'≠d:=fun e=>by
    subst e;have:=hp.one i o j o' d' hi hj ho aB fo (kE ji).1;rename_i uO;exact uO this.symm
   show (if d'=d then _ else β d')=undef;rw [if_neg aP];exact zi j o' d' t' hj aB ji hl
 ·by_cases rK:q=d
  ·subst rK;rw [gn]
   have:(a.put (some q) v).tmps.getD q undef=v:=by simp [iL,yD]
   rw [this];exact (hv (fun i=>if i=q then v else β i) q (if_pos rfl)).2
  ·have h1:=(hf q fun j o' hj aB bH=>by
    have:=hq j o' hj aB bH;rw [fF eL] at this;split at this
    ·rename_i e;subst e;rw [ho] at aB;cases aB;rw [fo] at bH;cases bH;exact absurd rfl rK
    ·exact this)
   have h2:=(h1.frame ha kb).CW EV iT;simpa [iL,xm (j3 rK)] using h2
end
end
section
open Go.RowKit
variable [M:bM] [G:cK] [MD:qW] [CH:mi] [R:dK]
section
variable {P:Program} {T:TT} {C:Ctx}
def Plan0.lt {ops:Array Oper} {m:Nat} {dep:Nat→Nat→Prop} (hp:Plan0 ops m dep):∀i j,i<ops.size→j<ops.size→dep i j→j<i:=by
 intro i;induction i using uk with
 |_ i ih =>
  intro j hi hj hd;obtain ⟨e,he,hb,h⟩:=hp.step i _ j (gv hi) hj hd;have Φ:=hp.dec i _ (gv hi) e he hb
  rcases h with h|h
  ·omega
  ·have:=ih e.on Φ j (by omega) hj h;omega
def drop_cons {ops:Array Oper} {k:Nat} (h:k<ops.size):ops.toList.drop k=ops[k]::ops.toList.drop (k+1):=by
 rw [xr (by simpa using h)];simp
def OG {ops:Array Oper} {m k:Nat} {o:Oper} (h:o∈(ops.toList.take m).drop k):∃i,k≤i∧i<m∧ops[i]?=some o:=by
 obtain ⟨i,hi,rfl⟩:=Dg.1 h;simp only [List.length_drop,dR,lJ] at hi;refine ⟨k+i,by omega,by omega,?_⟩
 have:k+i<ops.size:=by omega
 simp [G5,this]
def Plan0.VB {ops:Array Oper} {m:Nat} {dep:Nat→Nat→Prop} (hp:Plan0 ops m dep):∀q k,q+k=m→xG ops (((ops.toList.take m).drop k).filter fun o=>(dV o).isNone):=by
 intro q;induction q with
 |zero =>
  intro k hk;have:(ops.toList.take m).drop k=[]:=qP (by simp;omega);rw [this];exact True.intro
 |succ q ih =>
  intro k hk
  have Bo:k<m:=by omega
  have iv:k<ops.size:=by have:=hp.le;omega
  have M4:(ops.toList.take m).drop k=ops[k]::(ops.toList.take m).drop (k+1):=by
   rw [xr (by simp;omega)];simp [G5]
  rw [M4,List.filter_cons];have ho:ops[k]?=some ops[k]:=gv iv;split
  ·rename_i aR
   have aR:dV ops[k]=none:=by simpa using aR
   obtain ⟨d,hd⟩:=hp.dst k _ Bo ho;refine ⟨⟨d,hd,fun o' aB bH=>?_⟩,fun t ht o' aB bH=>?_,ih (k+1) (by omega)⟩
   ·obtain ⟨i,rz,rA,yL⟩:=OG (ek.1 aB).1;have:=hp.one k _ i o' d Bo rA ho yL hd bH;omega
   ·have:∃i,k≤i∧i<m∧ops[i]?=some o':=by
     rcases bf.1 aB with rfl|h
     ·exact ⟨k,bG _,Bo,ho⟩
     ·obtain ⟨i,rz,rA,yL⟩:=OG (ek.1 h).1;exact ⟨i,by omega,rA,yL⟩
    obtain ⟨i,rz,rA,yL⟩:=this;have gU:=(hp.look k _ t i o' Bo rA ho (Om aR) ht yL bH).1;have:=hp.lt k i iv (by have:=hp.le;omega) gU;omega
  ·exact ih (k+1) (by omega)
def R5 {ops:Array Oper} {m:Nat} {dep:Nat→Nat→Prop} (hp:Plan0 ops m dep):∀q k,q+k=m→((((ops.toList.take m).drop k).filterMap dV).map (·.1)).Nodup:=by
 intro q;induction q with
 |zero =>
  intro k hk;have:(ops.toList.take m).drop k=[]:=qP (by simp;omega);rw [this];simp
 |succ q ih =>
  intro k hk
  have Bo:k<m:=by omega
  have iv:k<ops.size:=by have:=hp.le;omega
  have M4:(ops.toList.take m).drop k=ops[k]::(ops.toList.take m).drop (k+1):=by
   rw [xr (by simp;omega)];simp [G5]
  have ho:ops[k]?=some ops[k]:=gv iv;rw [M4,List.filterMap_cons];split
  ·exact ih (k+1) (by omega)
  ·rename_i x hx;simp only [jJ,iw];refine ⟨fun hm=>?_,ih (k+1) (by omega)⟩;obtain ⟨y,hy,Vb⟩:=c9.1 hm;obtain ⟨o',aB,ji⟩:=ma.1 hy;obtain ⟨i,rz,rA,yL⟩:=OG aB;obtain ⟨d,t⟩:=x;obtain ⟨d',t'⟩:=y;simp only at Vb;subst Vb;have:=hp.one k _ i o' d' Bo rA ho yL (kE hx).1 (kE ji).1;omega
def C6 {n:Nat} {ops:Array Oper} {st:ae} {K:ae→Prop} (h:iV P T n ops (ops.toList.drop ops.size) st K):K st:=by
 have:ops.toList.drop ops.size=[]:=qP (by simp);rw [this] at h;exact h
def XM.AW {ds:List Deferred} {w:World} {F:Nat→Prop} {β:Nat→Value} {H H':Hp} (h:XM C ds w F β H) (bI:∀x,x∈H'↔x∈H) (hk:(H'.map (·.1)).Nodup):XM C ds w F β H' :=
 h.trans ((Ext.refl (st:=⟨aF,H⟩) h.inv).AW bI hk)
def Pg {st:ae} {a:Act} {w:World} (h:Rel C st a w):Rel C st a w.drew:=by
 obtain ⟨F,β,hs,hd,hf,he⟩:=h;have hb:Below w.heap.size w w.drew:=(Below.refl _ _).drew;exact ⟨fG F w w.drew,β,hs,hd,fun t=>(hf t).later hb he.inv.cC,he.trans (wa (st:=⟨aF,st.H⟩) he.inv hb)⟩
def aaL {id m n:Nat} {ops:Array Oper} {st:ae} {K:ae→Prop} (hT:bO P T) (hm:P.follows .mixedOrders=true) (qh:DH m ops=true)
  (h:sf P T n ops (steady m ops) ⟨preB (eA m ops) (jy (eA m ops) st).f,(jy (eA m ops) st).H⟩ fun st1=>tC P st1.f (ops.toList.take m)∧q6 T n (eA m ops) st1 fun st2=>iV P T n ops (ops.toList.drop m) st2 K):He P n id ops st K:=by
 refine ⟨fun C hn a w c8=>?_⟩;have hp:=agc qh;have hr:=Pg c8;refine wpIn_region_any hm ?_;show wpAnyIn (fQ C.ro) 0 P .any ops _ ops.size (oc ops.size false) a w.drew;generalize w.drew=w at hr;clear c8;obtain ⟨F,β,hs,hd,hf,he⟩:=hr
 obtain ⟨av,uI,fw,zh,IG⟩:=Mk (eA m ops) (fun d t h=>by
  obtain ⟨o,Nu,ho⟩:=ma.1 h;obtain ⟨i,hi,aB⟩:=oO.1 Nu
  exact hp.low i o d hi aB (kE ho).1) hf he
 have yT:xG ops (steady m ops):=by simpa [steady] using hp.VB m 0 (by omega)
 obtain ⟨fe,lA,hb,Φ,bX⟩:=QL (steady m ops) _ yT h
 have dJ:((eA m ops).map (·.1)).Nodup:=by simpa [eA] using R5 hp.toPlan0 m 0 (by omega)
 have eS:∀d t,(d,t)∈eA m ops→∀c,(d,c)∉(jy (eA m ops) st).H:=fun d t hm=>IG d (.inr ⟨t,hm⟩);obtain ⟨fA,HA,hK,MG,Ec,Ed,Iw⟩:=LO (eA m ops) ⟨fe,(jy (eA m ops) st).H⟩ hb.2 dJ eS fw.inv.keys;generalize hHm:(jy (eA m ops) st).H=Hm at *
 have jW:∀{d t},(d,t)∈eA m ops↔∃i o,i<m∧ops[i]?=some o∧dV o=some (d,t):=by
  intro d t;constructor
  ·intro h;obtain ⟨o,ho,aR⟩:=ma.1 h;obtain ⟨i,hi,ho⟩:=oO.1 ho;exact ⟨i,o,hi,ho,aR⟩
  ·rintro ⟨i,o,hi,ho,aR⟩;exact ma.2 ⟨o,oO.2 ⟨i,hi,ho⟩,aR⟩
 have BQ:∀{i o},i<m→ops[i]?=some o→dV o=none→o∈steady m ops:=fun hi ho aR=>ek.2 ⟨oO.2 ⟨_,hi,ho⟩,by simp [aR]⟩
 have Ef:∀t,(∀j o' ty,j<m→ops[j]?=some o'→dV o'≠some (t,ty))→fA t=fe t:=fun t ht=>MG t fun ty hm=>by
  obtain ⟨j,o',hj,aB,aR⟩:=jW.1 hm;exact ht j o' ty hj aB aR
 have Ee:∀t,(∀j o' ty,j<m→ops[j]?=some o'→dV o'=some (t,ty)→rU o'=true)→fA t=fe t:=fun t ht=>by
  by_cases hex:∃j o' ty,j<m∧ops[j]?=some o'∧dV o'=some (t,ty)
  ·obtain ⟨j,o',ty,hj,aB,aR⟩:=hex;have gB:=ht j o' ty hj aB aR;unfold rU at gB;rw [aR] at gB;cases ty with
   |some y=>cases gB
   |none =>
    have hm:=jW.2 ⟨j,o',hj,aB,aR⟩;obtain ⟨_,c,hc,Nf⟩:=Ec t none hm
    have Ng:fe t=.o t:=by
     rw [lA t fun o ho=>by
      obtain ⟨i,hi,EC⟩:=oO.1 (ek.1 ho).1;intro bH;have:=hp.one i o j o' t hi hj EC aB bH (kE aR).1;subst this;rw [EC] at aB;cases aB;have:=(ek.1 ho).2
      simp [aR] at this]
     exact JP gB dJ hm
    have dr:wQ t c=.o t:=by
     have eK:wR CH.ch t=some c:=hc;have za:wY t=true:=gB;unfold wY at za;rw [eK] at za
     cases c<;>first|rfl|cases za
    rw [Nf,dr,Ng]
  ·exact Ef t fun j o' ty hj aB aR=>hex ⟨j,o',ty,hj,aB,aR⟩
 have lt:∀{i o},ops[i]?=some o→i<ops.size:=fun h=>(lj.1 h).1;have key:∀fuel (listed:Array Bool) (a:Act) (w:World),listed.size=ops.size→listed.toList.count false≤fuel →
   (∀i o,listed.getD i false=true→ops[i]?=some o→∀e,e∈o.after→jM .any e=true→listed.getD e.on false=true) →
   (((∀i,m≤i→listed.getD i false=false)∧oo C (lq T) ops m fA Hm listed a w) ∨
    ∃k,m≤k∧k≤ops.size∧(∀i,i<ops.size→(listed.getD i false=true↔i<k))∧∃st,Rel C st a w∧iV P T n ops (ops.toList.drop k) st K) →
   wpAnyIn (fQ C.ro) 0 P .any ops (fun e a' w'=>∃aq,Rel C aq a' w'∧(match e with|.normal=>K aq|_=>False)) fuel listed a w:=by
  intro fuel;induction fuel with
  |zero =>
   intro listed a w aX wv c_ rH
   have d_:∀i,i<ops.size→listed.getD i false=true:=fun i hi=>by
    have h0:listed.toList.count false=0:=by omega
    have bm:i<listed.size:=by omega
    have bI:listed[i]∈listed.toList:=by simp
    cases hb:listed[i] with
    |true=>simp [bm,hb]
    |false=>rw [hb] at bI;exact absurd bI (Zr.1 h0)
   have rL:lQ .any ops listed=[]:=by
    apply AA.2;intro i hi;obtain ⟨h1,o,ho,_⟩:=mem_ready.1 hi;have:=d_ i (lt ho)
    have bm:i<listed.size:=by have:=lt ho;omega
    simp [bm] at h1 this;rw [h1] at this;cases this
   refine ⟨rL,?_⟩
   rcases rH with ⟨gA,jB⟩|⟨k,fU,fz,nJ,aq,iQ,hw⟩
   ·have jT:m=ops.size:=by
     rcases gI m ops.size with h|h
     ·have:=gA m (bG _);rw [d_ m h] at this;cases this
     ·have:=hp.le;omega
    obtain ⟨F1,dg,H1,g1,g2,g3,g4,g5,g6⟩:=jB.ex;refine ⟨⟨fA,HA⟩,⟨F1,dg,g1,g2,fun t=>g6 t fun i o hi _ _=>d_ i (by omega),g3.AW (fun x=>?_) Ed⟩,?_⟩
    ·rw [g4 x,Iw x];constructor
     ·rintro (h|⟨d,t,z,h1,h2,h3⟩)
      ·exact .inl h
      ·obtain ⟨i,o,hi,ho,aR⟩:=jW.1 h1;exact .inr ⟨i,o,d,t,z,hi,d_ i (by omega),ho,aR,h2,h3⟩
     ·rintro (h|⟨i,o,d,t,z,hi,_,ho,aR,h2,h3⟩)
      ·exact .inl h
      ·exact .inr ⟨d,t,z,jW.2 ⟨i,o,hi,ho,aR⟩,h2,h3⟩
    ·rw [jT] at hK;exact C6 hK
   ·have iv:k=ops.size:=by
     rcases gI k ops.size with h|h
     ·have:=(nJ k h).1 (d_ k h);omega
     ·omega
    refine ⟨aq,iQ,?_⟩;rw [iv] at hw;exact C6 hw
  |succ fuel ih =>
   intro listed a w aX wv c_ rH
   have yz:∀i,i<ops.size→(∀o,ops[i]?=some o→∀e,e∈o.after→jM .any e=true→listed.getD e.on false=true)→∀j,j<ops.size→iN ops i j=true→listed.getD j false=true:=by
    intro i;induction i using uk with
    |_ i rM =>
     intro hi fT j hj gU;obtain ⟨e,bD,cO,h⟩:=hp.step i _ j (gv hi) hj gU;have hl:=fT _ (gv hi) e bD cO;have tg:=hp.dec i _ (gv hi) e bD cO
     rcases h with h|h
     ·rw [←h];exact hl
     ·exact rM e.on tg (by omega) (fun o ho=>c_ e.on o hl ho) j hj h
   have r7:∀{i o},i∈lQ .any ops listed→ops[i]?=some o→listed.getD i false=false∧∀e,e∈o.after→jM .any e=true→listed.getD e.on false=true:=fun hi ho=>by
    obtain ⟨h1,o',aB,h2⟩:=mem_ready.1 hi;rw [ho] at aB;cases aB;have:=lt ho;refine ⟨?_,h2⟩;have bm:=lt ho;rw [←aX] at bm;simpa [bm] using h1
   have isReady:∀{i o},ops[i]?=some o→listed.getD i false=false→(∀j,j<i→listed.getD j false=true)→i∈lQ .any ops listed:=fun ho h1 h2=>by
    refine mem_ready.2 ⟨?_,_,ho,fun e he hb=>h2 _ (hp.dec _ _ ho e he hb)⟩;have bm:=lt ho;rw [←aX] at bm;simpa [bm] using h1
   have next:∀i,i<ops.size→listed.getD i false=false→(listed.setIfInBounds i true).size=ops.size∧(listed.setIfInBounds i true).toList.count false≤fuel:=fun i hi h1=>by
    refine ⟨by simpa using aX,?_⟩
    have bm:i<listed.size:=by omega
    have h2:listed.toList[i]?=some false:=by
     have:listed[i]=false:=by simpa [bm] using h1
     simp [bm,this]
    have:=count_set listed.toList i h2;simp only [Y8];omega
   have sG:∀i o,ops[i]?=some o→(∀e,e∈o.after→jM .any e=true→listed.getD e.on false=true) →
     ∀j o',(listed.setIfInBounds i true).getD j false=true→ops[j]?=some o'→∀e,e∈o'.after→jM .any e=true→(listed.setIfInBounds i true).getD e.on false=true:=fun i o ho fT j o' hj aB e bD cO=>by
    have bm:i<listed.size:=by rw [aX];exact lt ho
    rw [fF bm] at hj ⊢;split
    ·rfl
    ·split at hj
     ·rename_i e2;subst e2;rw [ho] at aB;cases aB;exact fT e bD cO
     ·exact c_ j o' hj aB e bD cO
   have second:(∃k,m≤k∧k≤ops.size∧(∀i,i<ops.size→(listed.getD i false=true↔i<k))∧∃st,Rel C st a w∧iV P T n ops (ops.toList.drop k) st K) →
     wpAnyIn (fQ C.ro) 0 P .any ops (fun e a' w'=>∃aq,Rel C aq a' w'∧(match e with|.normal=>K aq|_=>False)) (fuel+1) listed a w:=by
    rintro ⟨k,fU,fz,nJ,aq,iQ,hw⟩
    rcases gI k ops.size with iv|iv
    ·have yW:ops[k]?=some ops[k]:=gv iv
     have yQ:listed.getD k false=false:=by
      cases hb:listed.getD k false
      ·rfl
      ·have:=(nJ k iv).1 hb;omega
     have kS:=isReady yW yQ fun j hj=>(nJ j (by omega)).2 hj;refine ⟨fun h0=>(by rw [h0] at kS;cases kS),fun i hi=>?_⟩;obtain ⟨_,o,ho,_⟩:=mem_ready.1 hi;obtain ⟨dO,fT⟩:=r7 hi ho
     have nH:i=k:=by
      have h1:¬i<k:=fun h=>by rw [(nJ i (lt ho)).2 h] at dO;cases dO
      rcases gI k i with h2|h2
      ·have:=yz i (lt ho) (fun o' aB=>by rw [ho] at aB;cases aB;exact fT) k iv (hp.tail i k (by omega) (lt ho) h2);rw [this] at yQ;cases yQ
      ·omega
     subst nH;rw [drop_cons iv] at hw;rw [ho] at yW;cases yW;obtain ⟨mP,lC⟩:=next i iv dO;refine vv (K:=fun st=>iV P T n ops (ops.toList.drop (i+1)) st K) hT hn ho iQ (fun st2 a2 w2 oJ No=>?_) hw;refine ih _ a2 w2 mP lC (sG i _ ho fT) (.inr ⟨i+1,by omega,by omega,fun j hj=>?_,st2,oJ,No⟩)
     have bm:i<listed.size:=by rw [aX];exact iv
     rw [fF bm];split
     ·rename_i e2;subst e2;simp
     ·rw [nJ j hj];omega
    ·have d_:∀i,i<ops.size→listed.getD i false=true:=fun i hi=>(nJ i hi).2 (by omega)
     have rL:lQ .any ops listed=[]:=by
      apply AA.2;intro i hi;obtain ⟨_,o,ho,_⟩:=mem_ready.1 hi;obtain ⟨dO,_⟩:=r7 hi ho;rw [d_ i (lt ho)] at dO;cases dO
     refine ⟨fun _=>⟨aq,iQ,?_⟩,fun i hi=>by rw [rL] at hi;cases hi⟩
     have:k=ops.size:=by omega
     rw [this] at hw;exact C6 hw
   rcases rH with ⟨gA,jB⟩|rH
   ·by_cases pF:∀i,i<m→listed.getD i false=true
    ·refine second ⟨m,bG _,hp.le,fun i hi=>⟨fun h=>?_,fun h=>pF i h⟩,⟨fA,HA⟩,?_,hK⟩
     ·rcases gI i m with h1|h1
      ·exact h1
      ·rw [gA i h1] at h;cases h
     ·obtain ⟨F1,dg,H1,g1,g2,g3,g4,g5,g6⟩:=jB.ex;refine ⟨F1,dg,g1,g2,fun t=>g6 t fun i o hi _ _=>pF i hi,g3.AW (fun x=>?_) Ed⟩;rw [g4 x,Iw x];constructor
      ·rintro (h|⟨d,t,z,h1,h2,h3⟩)
       ·exact .inl h
       ·obtain ⟨i,o,hi,ho,aR⟩:=jW.1 h1;exact .inr ⟨i,o,d,t,z,hi,pF i hi,ho,aR,h2,h3⟩
      ·rintro (h|⟨i,o,d,t,z,hi,_,ho,aR,h2,h3⟩)
       ·exact .inl h
       ·exact .inr ⟨d,t,z,jW.2 ⟨i,o,hi,ho,aR⟩,h2,h3⟩
    ·-- Gl least alj is not done
     have hex:∃i,i<m∧listed.getD i false=false∧∀j,j<i→listed.getD j false=true:=by
      have:∃i,i<m∧listed.getD i false=false:=by
       refine xo fun bp=>pF fun i hi=>?_;cases hb:listed.getD i false
       ·exact absurd ⟨i,hi,hb⟩ bp
       ·rfl
      obtain ⟨i,hi,hb⟩:=this;induction i using uk with
      |_ i rM =>
       by_cases d_:∀j,j<i→listed.getD j false=true
       ·exact ⟨i,hi,hb,d_⟩
       ·have:∃j,j<i∧listed.getD j false=false:=by
         refine xo fun bp=>d_ fun j hj=>?_;cases hb:listed.getD j false
         ·exact absurd ⟨j,hj,hb⟩ bp
         ·rfl
        obtain ⟨j,hj,Eo⟩:=this;exact rM j hj (by omega) Eo
     obtain ⟨i0,ry,eo,yx⟩:=hex
     have yK:i0<ops.size:=by have:=hp.le;omega
     have c8:=isReady (gv yK) eo yx;refine ⟨fun h0=>(by rw [h0] at c8;cases c8),fun i hi=>?_⟩;obtain ⟨_,o,ho,_⟩:=mem_ready.1 hi;obtain ⟨dO,fT⟩:=r7 hi ho;have gU:∀j,j<ops.size→iN ops i j=true→listed.getD j false=true:=fun j hj hd=>yz i (lt ho) (fun o' aB=>by rw [ho] at aB;cases aB;exact fT) j hj hd
     have iE:i<m:=by
      rcases gI i m with h|h
      ·exact h
      ·have:=gU i0 yK (hp.tail i i0 h (lt ho) (by omega));rw [this] at eo;cases eo
     obtain ⟨mP,lC⟩:=next i (lt ho) dO
     have cont:∀a w,oo C (lq T) ops m fA Hm (listed.setIfInBounds i true) a w→wpAnyIn (fQ C.ro) 0 P .any ops (fun e a' w'=>∃aq,Rel C aq a' w'∧(match e with|.normal=>K aq|_=>False)) fuel (listed.setIfInBounds i true) a w:=fun a2 w2 hh=>by
      refine ih _ a2 w2 mP lC (sG i o ho fT) (.inl ⟨fun j hj=>?_,hh⟩)
      have bm:i<listed.size:=by rw [aX];exact lt ho
      rw [fF bm];split
      ·omega
      ·exact gA j hj
     cases aR:dV o with
     |none=>exact MT hT hn hp.toPlan0.s aX iE ho aR dO (fun j hj hd=>gU j (by have:=hp.le;omega) hd) Ee fw.inv.keys (bX o (BQ iE ho aR)) (Φ o (BQ iE ho aR)) jB cont
     |some x =>
      obtain ⟨d,t⟩:=x;obtain ⟨q2,c,yA,q1⟩:=Ec d t (jW.2 ⟨i,o,iE,ho,aR⟩);cases t with
      |some t =>
       obtain ⟨z,q3,q4,rfl⟩:=yA;exact TA hT hn hp.toPlan0 aX iE ho aR dO q3 q4 q1 q2 (eS d _ (jW.2 ⟨i,o,iE,ho,aR⟩)) jB cont
      |none =>
       obtain ⟨c',eK,rE⟩:=Jo hb.1 (oO.2 ⟨i,iE,ho⟩) aR;obtain rfl:c'=c:=lq.uniq (T:=T) (x:=none) eK yA;exact TB hn hp.toPlan0 aX iE ho aR dO (fun j hj hd=>gU j (by have:=hp.le;omega) hd) Ee yA rE q1 q2 (eS d _ (jW.2 ⟨i,o,iE,ho,aR⟩)) jB cont
   ·exact second rH
 have rep:∀i,(oc ops.size false).getD i false=false:=fun i=>by
  simp only [lh,Y6];split<;>rfl
 refine key ops.size _ a w (by simp) (by simp) (fun i o hi=>by rw [rep] at hi;cases hi) (.inl ⟨fun i _=>rep i,F,av,Hm,hs,hd,fw,fun x=>⟨.inl,fun h=>?_⟩,fun i o d t hi ho aR _=>zh d (.inr ⟨t,jW.2 ⟨i,o,hi,ho,aR⟩⟩),fun t ht=>?_⟩)
 ·rcases h with h|⟨i,o,d,t,z,h1,h2,_⟩
  ·exact h
  ·rw [rep] at h2;cases h2
 ·have bp:∀i o,i<m→ops[i]?=some o→o.dst≠some t:=fun i o hi ho bH=>by
   have:=ht i o hi ho bH;rw [rep] at this;cases this
  rw [Ef t fun j o' ty hj aB aR=>bp j o' hj aB (kE aR).1,lA t fun o ho=>by
   obtain ⟨i,hi,aB⟩:=oO.1 (ek.1 ho).1
   exact bp i o hi aB]
  show Rd _ _ _ (preB (eA m ops) (jy (eA m ops) st).f t) _
  rw [Fx fun x hx=>by
   obtain ⟨j,o',hj,aB,aR⟩:=jW.1 hx
   exact bp j o' hj aB (kE aR).1]
  exact uI t
def LJ (T:TT) (ops:Array Oper) (m:Nat) (st:ae) (K:ae→Prop):Prop :=
 match ops[m]? with
 |some o=>match o.op with
  |.store t x y=>v_ T t (ev st.f x) (ev st.f y) st fun _ aq=>K aq
  |_=>False
 |none=>False
def qu (P:Program) (T:TT) (ops:Array Oper) (st:ae):List Nat→Prop
 |[]=>True
 |j::r=>(match ops[j]? with
  |some o=>vO P T ops st.H st.f o
  |none=>False)∧qu P T ops st r
def Ow {ops:Array Oper} {st:ae}:∀{late:List Nat},qu P T ops st late→∀j o,j∈late→ops[j]?=some o→vO P T ops st.H st.f o
 |[],_,_,_,h,_=>by cases h
 |i::r,hl,j,o,h,ho=>by
  rcases bf.1 h with rfl|h
  ·have:=hl.1;rw [ho] at this;exact this
  ·exact Ow hl.2 j o h ho
def aa6 {t:Nat} {x y:AV} {st:ae} {k:AV→ae→Prop} (h:v_ T t x y st k):∃H',k (.v undef) ⟨st.f,H'⟩∧(∀f,v_ T t x y ⟨f,st.H⟩ fun _ s=>s=⟨f,H'⟩)∧H'.map (·.1)=st.H.map (·.1):=by
 unfold v_ at h ⊢;split at h
 ·rename_i i hi;split at h
  ·rename_i id off;split at h
   ·rename_i cells hc;unfold Cx at h ⊢;obtain ⟨hb,C,hC,h⟩:=cond_prop h;exact ⟨_,h,fun f=>by simp only [hc];exact LM hb ⟨C,hC,rfl⟩,z7 _⟩
   ·cases h
  ·rename_i id K m j;split at h
   ·rename_i E K' rows hc;obtain ⟨ry,row,jE,hK,h⟩:=cond_prop h;unfold Cx at h ⊢;obtain ⟨hb,C,hC,R,hR,h⟩:=cond_prop h;exact ⟨_,h,fun f=>by simp only [hc];exact LM ry ⟨row,jE,hK,LM hb ⟨C,hC,R,hR,rfl⟩⟩,z7 _⟩
   ·cases h
  ·cases h
 ·cases h
def aaM {id m n:Nat} {late:List Nat} {ops:Array Oper} {st:ae} {K:ae→Prop} (hT:bO P T) (hm:P.follows .mixedOrders=true) (qh:HQ m late ops=true)
  (h:sf P T n ops (steady m ops) ⟨preB (eA m ops) (jy (eA m ops) st).f,(jy (eA m ops) st).H⟩ fun st1=>tC P st1.f (ops.toList.take m)∧q6 T n (eA m ops) st1 fun st1=>LJ T ops m st1 fun st2=>qu P T ops st2 late∧iV P T n ops (ops.toList.drop (m+1)) st2 K):He P n id ops st K:=by
 refine ⟨fun C hn a w c8=>?_⟩;have hp:=agb qh;have hr:=Pg c8;refine wpIn_region_any hm ?_;show wpAnyIn (fQ C.ro) 0 P .any ops _ ops.size (oc ops.size false) a w.drew;generalize w.drew=w at hr;clear c8;obtain ⟨F,β,hs,hd,hf,he⟩:=hr
 obtain ⟨av,uI,fw,zh,acq⟩:=Mk (eA m ops) (fun d t h=>by
  obtain ⟨o,Nu,ho⟩:=ma.1 h;obtain ⟨i,hi,aB⟩:=oO.1 Nu
  exact hp.low i o d hi aB (kE ho).1) hf he
 have yT:xG ops (steady m ops):=by simpa [steady] using hp.VB m 0 (by omega)
 obtain ⟨fe,lA,hb,Φ,bX⟩:=QL (steady m ops) _ yT h
 have dJ:((eA m ops).map (·.1)).Nodup:=by simpa [eA] using R5 hp.toPlan0 m 0 (by omega)
 have eS:∀d t,(d,t)∈eA m ops→∀c,(d,c)∉(jy (eA m ops) st).H:=fun d t hm=>acq d (.inr ⟨t,hm⟩);obtain ⟨fA,HA,rm,MG,Ec,Ed,Iw⟩:=LO (eA m ops) ⟨fe,(jy (eA m ops) st).H⟩ hb.2 dJ eS fw.inv.keys;generalize hHm:(jy (eA m ops) st).H=Hm at *
 have jW:∀{d t},(d,t)∈eA m ops↔∃i o,i<m∧ops[i]?=some o∧dV o=some (d,t):=by
  intro d t;constructor
  ·intro h;obtain ⟨o,ho,aR⟩:=ma.1 h;obtain ⟨i,hi,ho⟩:=oO.1 ho;exact ⟨i,o,hi,ho,aR⟩
  ·rintro ⟨i,o,hi,ho,aR⟩;exact ma.2 ⟨o,oO.2 ⟨i,hi,ho⟩,aR⟩
 have BQ:∀{i o},i<m→ops[i]?=some o→dV o=none→o∈steady m ops:=fun hi ho aR=>ek.2 ⟨oO.2 ⟨_,hi,ho⟩,by simp [aR]⟩
 have Ef:∀t,(∀j o' ty,j<m→ops[j]?=some o'→dV o'≠some (t,ty))→fA t=fe t:=fun t ht=>MG t fun ty hm=>by
  obtain ⟨j,o',hj,aB,aR⟩:=jW.1 hm;exact ht j o' ty hj aB aR
 have Ee:∀t,(∀j o' ty,j<m→ops[j]?=some o'→dV o'=some (t,ty)→rU o'=true)→fA t=fe t:=fun t ht=>by
  by_cases hex:∃j o' ty,j<m∧ops[j]?=some o'∧dV o'=some (t,ty)
  ·obtain ⟨j,o',ty,hj,aB,aR⟩:=hex;have gB:=ht j o' ty hj aB aR;unfold rU at gB;rw [aR] at gB;cases ty with
   |some y=>cases gB
   |none =>
    have hm:=jW.2 ⟨j,o',hj,aB,aR⟩;obtain ⟨_,c,hc,Nf⟩:=Ec t none hm
    have Ng:fe t=.o t:=by
     rw [lA t fun o ho=>by
      obtain ⟨i,hi,EC⟩:=oO.1 (ek.1 ho).1;intro bH;have:=hp.one i o j o' t hi hj EC aB bH (kE aR).1;subst this;rw [EC] at aB;cases aB;have:=(ek.1 ho).2
      simp [aR] at this]
     exact JP gB dJ hm
    have dr:wQ t c=.o t:=by
     have eK:wR CH.ch t=some c:=hc;have za:wY t=true:=gB;unfold wY at za;rw [eK] at za
     cases c<;>first|rfl|cases za
    rw [Nf,dr,Ng]
  ·exact Ef t fun j o' ty hj aB aR=>hex ⟨j,o',ty,hj,aB,aR⟩
 have lt:∀{i o},ops[i]?=some o→i<ops.size:=fun h=>(lj.1 h).1;obtain ⟨om,BD⟩:∃om,ops[m]?=some om:=⟨_,gv hp.lt⟩;unfold LJ at rm;rw [BD] at rm;simp only at rm;split at rm
 case h_2=>exact rm.elim
 rename_i ts xs ys NF;obtain ⟨H',⟨Ns,hK⟩,bV,MK⟩:=aa6 rm;let T0:Nat→Option Nat→Chunk→Prop:=fun _ _ _=>False
 have Uk:(H'.map (·.1)).Nodup:=by rw [MK];exact Ed
 have abG:∀{listed:Array Bool} {a:Act} {w:World} {F β},(∀i o,i<m→ops[i]?=some o→dV o≠none→listed.getD i false=true)→a.tmps.size=C.n→True→XM C a.defers w F β H' →
   (∀t,(∀i o,i<m→ops[i]?=some o→o.dst=some t→listed.getD i false=true)→Rd w F β (fA t) (a.tmps.getD t undef))→oo C T0 ops m fA H' listed a w :=
  fun aR h1 h2 h3 h4=>⟨_,_,_,h1,h2,h3,fun x=>⟨.inl,fun h=>h.elim (fun h=>h) fun ⟨i,o,d,t,z,_,_,_,_,hz,_⟩=>by cases hz⟩,
   ⟨fun i o d t hi ho ha hl=>(by rw [aR i o hi ho (by rw [ha];simp)] at hl;cases hl),h4⟩⟩
 have TC:∀{listed:Array Bool} {a:Act} {w:World},oo C T0 ops m fA H' listed a w→∃F β,a.tmps.size=C.n∧True∧XM C a.defers w F β H' ∧
   (∀t,(∀i o,i<m→ops[i]?=some o→o.dst=some t→listed.getD i false=true)→Rd w F β (fA t) (a.tmps.getD t undef)):=fun hh=>by
  obtain ⟨F1,dg,H1,g1,g2,g3,g4,g5,g6⟩:=hh.ex;refine ⟨F1,dg,g1,g2,g3.AW (fun x=>?_) Uk,g6⟩;rw [g4 x];exact ⟨.inl,fun h=>h.elim (fun h=>h) fun ⟨i,o,d,t,z,_,_,_,_,hz,_⟩=>by cases hz⟩
 have key:∀fuel (listed:Array Bool) (a:Act) (w:World),listed.size=ops.size→listed.toList.count false≤fuel →
   (∀i o,listed.getD i false=true→ops[i]?=some o→∀e,e∈o.after→jM .any e=true→listed.getD e.on false=true) →
   (((∀i,m≤i→listed.getD i false=false)∧oo C (lq T) ops m fA Hm listed a w) ∨
    (listed.getD m false=true∧(∀i,m<i→listed.getD i false=false)∧oo C T0 ops m fA H' listed a w) ∨
    ∃k,m<k∧k≤ops.size∧(∀i,i<ops.size→(listed.getD i false=true↔i<k))∧∃st,Rel C st a w∧iV P T n ops (ops.toList.drop k) st K) →
   wpAnyIn (fQ C.ro) 0 P .any ops (fun e a' w'=>∃aq,Rel C aq a' w'∧(match e with|.normal=>K aq|_=>False)) fuel listed a w:=by
  intro fuel;induction fuel with
  |zero =>
   intro listed a w aX wv c_ rH
   have d_:∀i,i<ops.size→listed.getD i false=true:=fun i hi=>by
    have h0:listed.toList.count false=0:=by omega
    have bm:i<listed.size:=by omega
    have bI:listed[i]∈listed.toList:=by simp
    cases hb:listed[i] with
    |true=>simp [bm,hb]
    |false=>rw [hb] at bI;exact absurd bI (Zr.1 h0)
   have rL:lQ .any ops listed=[]:=by
    apply AA.2;intro i hi;obtain ⟨h1,o,ho,_⟩:=mem_ready.1 hi;have:=d_ i (lt ho)
    have bm:i<listed.size:=by have:=lt ho;omega
    simp [bm] at h1 this;rw [h1] at this;cases this
   refine ⟨rL,?_⟩
   rcases rH with ⟨gA,_⟩|⟨_,gA,jB⟩|⟨k,fU,fz,nJ,aq,iQ,hw⟩
   ·have:=gA m (bG _);rw [d_ m hp.lt] at this;cases this
   ·have jT:m+1=ops.size:=by
     rcases gI (m+1) ops.size with h|h
     ·have:=gA (m+1) (by omega);rw [d_ (m+1) h] at this;cases this
     ·have:=hp.lt;omega
    obtain ⟨F1,dg,g1,g2,g3,g6⟩:=TC jB;refine ⟨⟨fA,H'⟩,⟨F1,dg,g1,g2,fun t=>g6 t fun i o hi _ _=>d_ i (by omega),g3⟩,?_⟩;rw [jT] at hK;exact C6 hK
   ·have iv:k=ops.size:=by
     rcases gI k ops.size with h|h
     ·have:=(nJ k h).1 (d_ k h);omega
     ·omega
    refine ⟨aq,iQ,?_⟩;rw [iv] at hw;exact C6 hw
  |succ fuel ih =>
   intro listed a w aX wv c_ rH
   have yz:∀i,i<ops.size→(∀o,ops[i]?=some o→∀e,e∈o.after→jM .any e=true→listed.getD e.on false=true)→∀j,j<ops.size→iN ops i j=true→listed.getD j false=true:=by
    intro i;induction i using uk with
    |_ i rM =>
     intro hi fT j hj gU;obtain ⟨e,bD,cO,h⟩:=hp.step i _ j (gv hi) hj gU;have hl:=fT _ (gv hi) e bD cO;have tg:=hp.dec i _ (gv hi) e bD cO
     rcases h with h|h
     ·rw [←h];exact hl
     ·exact rM e.on tg (by omega) (fun o ho=>c_ e.on o hl ho) j hj h
   have r7:∀{i o},i∈lQ .any ops listed→ops[i]?=some o→listed.getD i false=false∧∀e,e∈o.after→jM .any e=true→listed.getD e.on false=true:=fun hi ho=>by
    obtain ⟨h1,o',aB,h2⟩:=mem_ready.1 hi;rw [ho] at aB;cases aB;have:=lt ho;refine ⟨?_,h2⟩;have bm:=lt ho;rw [←aX] at bm;simpa [bm] using h1
   have isReady:∀{i o},ops[i]?=some o→listed.getD i false=false→(∀j,j<i→listed.getD j false=true)→i∈lQ .any ops listed:=fun ho h1 h2=>by
    refine mem_ready.2 ⟨?_,_,ho,fun e he hb=>h2 _ (hp.dec _ _ ho e he hb)⟩;have bm:=lt ho;rw [←aX] at bm;simpa [bm] using h1
   have next:∀i,i<ops.size→listed.getD i false=false→(listed.setIfInBounds i true).size=ops.size∧(listed.setIfInBounds i true).toList.count false≤fuel:=fun i hi h1=>by
    refine ⟨by simpa using aX,?_⟩
    have bm:i<listed.size:=by omega
    have h2:listed.toList[i]?=some false:=by
     have:listed[i]=false:=by simpa [bm] using h1
     simp [bm,this]
    have:=count_set listed.toList i h2;simp only [Y8];omega
   have sG:∀i o,ops[i]?=some o→(∀e,e∈o.after→jM .any e=true→listed.getD e.on false=true) →
     ∀j o',(listed.setIfInBounds i true).getD j false=true→ops[j]?=some o'→∀e,e∈o'.after→jM .any e=true→(listed.setIfInBounds i true).getD e.on false=true:=fun i o ho fT j o' hj aB e bD cO=>by
    have bm:i<listed.size:=by rw [aX];exact lt ho
    rw [fF bm] at hj ⊢;split
    ·rfl
    ·split at hj
     ·rename_i e2;subst e2;rw [ho] at aB;cases aB;exact fT e bD cO
     ·exact c_ j o' hj aB e bD cO
   have least:∀(q:Nat),(¬∀i,i<q→listed.getD i false=true)→∃i,i<q∧listed.getD i false=false∧∀j,j<i→listed.getD j false=true:=fun q pF=>by
    have:∃i,i<q∧listed.getD i false=false:=by
     refine xo fun bp=>pF fun i hi=>?_;cases hb:listed.getD i false
     ·exact absurd ⟨i,hi,hb⟩ bp
     ·rfl
    obtain ⟨i,hi,hb⟩:=this;induction i using uk with
    |_ i rM =>
     by_cases d_:∀j,j<i→listed.getD j false=true
     ·exact ⟨i,hi,hb,d_⟩
     ·have:∃j,j<i∧listed.getD j false=false:=by
       refine xo fun bp=>d_ fun j hj=>?_;cases hb:listed.getD j false
       ·exact absurd ⟨j,hj,hb⟩ bp
       ·rfl
      obtain ⟨j,hj,Eo⟩:=this;exact rM j hj (by omega) Eo
   have L2:∀{i o},ops[i]?=some o→(∀e,e∈o.after→jM .any e=true→listed.getD e.on false=true)→∀j,j<ops.size→iN ops i j=true→listed.getD j false=true :=
    fun ho fT j hj hd=>yz _ (lt ho) (fun o' aB=>by rw [ho] at aB;cases aB;exact fT) j hj hd
   have XX:(∃k,m<k∧k≤ops.size∧(∀i,i<ops.size→(listed.getD i false=true↔i<k))∧∃st,Rel C st a w∧iV P T n ops (ops.toList.drop k) st K) →
     wpAnyIn (fQ C.ro) 0 P .any ops (fun e a' w'=>∃aq,Rel C aq a' w'∧(match e with|.normal=>K aq|_=>False)) (fuel+1) listed a w:=by
    rintro ⟨k,fU,fz,nJ,aq,iQ,hw⟩
    rcases gI k ops.size with iv|iv
    ·have yW:ops[k]?=some ops[k]:=gv iv
     have yQ:listed.getD k false=false:=by
      cases hb:listed.getD k false
      ·rfl
      ·have:=(nJ k iv).1 hb;omega
     have kS:=isReady yW yQ fun j hj=>(nJ j (by omega)).2 hj;refine ⟨fun h0=>(by rw [h0] at kS;cases kS),fun i hi=>?_⟩;obtain ⟨_,o,ho,_⟩:=mem_ready.1 hi;obtain ⟨dO,fT⟩:=r7 hi ho
     have nH:i=k:=by
      have h1:¬i<k:=fun h=>by rw [(nJ i (lt ho)).2 h] at dO;cases dO
      rcases gI k i with h2|h2
      ·have:=L2 ho fT k iv (hp.tail i k (by omega) (lt ho) h2);rw [this] at yQ;cases yQ
      ·omega
     subst nH;rw [drop_cons iv] at hw;rw [ho] at yW;cases yW;obtain ⟨mP,lC⟩:=next i iv dO;refine vv (K:=fun st=>iV P T n ops (ops.toList.drop (i+1)) st K) hT hn ho iQ (fun st2 a2 w2 oJ No=>?_) hw;refine ih _ a2 w2 mP lC (sG i _ ho fT) (.inr (.inr ⟨i+1,by omega,by omega,fun j hj=>?_,st2,oJ,No⟩))
     have bm:i<listed.size:=by rw [aX];exact iv
     rw [fF bm];split
     ·rename_i e2;subst e2;simp
     ·rw [nJ j hj];omega
    ·have d_:∀i,i<ops.size→listed.getD i false=true:=fun i hi=>(nJ i hi).2 (by omega)
     have rL:lQ .any ops listed=[]:=by
      apply AA.2;intro i hi;obtain ⟨_,o,ho,_⟩:=mem_ready.1 hi;obtain ⟨dO,_⟩:=r7 hi ho;rw [d_ i (lt ho)] at dO;cases dO
     refine ⟨fun _=>⟨aq,iQ,?_⟩,fun i hi=>by rw [rL] at hi;cases hi⟩
     have:k=ops.size:=by omega
     rw [this] at hw;exact C6 hw
   rcases rH with ⟨gA,jB⟩|⟨IS,gA,jB⟩|rH
   ·-- Gl store is to akP
    have Nw:=gA m (bG _)
    obtain ⟨i0,ry,eo,yx⟩:=least (m+1) fun hh=>by have:=hh m (by omega);rw [Nw] at this;cases this
    have yK:i0<ops.size:=by have:=hp.lt;omega
    have c8:=isReady (gv yK) eo yx;refine ⟨fun h0=>(by rw [h0] at c8;cases c8),fun i hi=>?_⟩;obtain ⟨_,o,ho,_⟩:=mem_ready.1 hi;obtain ⟨dO,fT⟩:=r7 hi ho;have gU:=L2 ho fT;obtain ⟨mP,lC⟩:=next i (lt ho) dO
    have iE:i≤m:=by
     rcases gI m i with h|h
     ·have:=gU m hp.lt (hp.tail i m h (lt ho) h);rw [this] at Nw;cases Nw
     ·exact h
    have bm:i<listed.size:=by rw [aX];exact lt ho
    rcases gI i m with iE|iE
    ·have cont:∀a w,oo C (lq T) ops m fA Hm (listed.setIfInBounds i true) a w→wpAnyIn (fQ C.ro) 0 P .any ops (fun e a' w'=>∃aq,Rel C aq a' w'∧(match e with|.normal=>K aq|_=>False)) fuel (listed.setIfInBounds i true) a w:=fun a2 w2 hh=>by
      refine ih _ a2 w2 mP lC (sG i o ho fT) (.inl ⟨fun j hj=>?_,hh⟩);rw [fF bm];split
      ·omega
      ·exact gA j hj
     cases aR:dV o with
     |none=>exact MT hT hn hp.toPlan0.s aX iE ho aR dO (fun j hj hd=>gU j (by have:=hp.lt;omega) hd) Ee fw.inv.keys (bX o (BQ iE ho aR)) (Φ o (BQ iE ho aR)) jB cont
     |some x =>
      obtain ⟨d,t⟩:=x;obtain ⟨q2,c,yA,q1⟩:=Ec d t (jW.2 ⟨i,o,iE,ho,aR⟩);cases t with
      |some t =>
       obtain ⟨z,q3,q4,rfl⟩:=yA;exact TA hT hn hp.toPlan0 aX iE ho aR dO q3 q4 q1 q2 (eS d _ (jW.2 ⟨i,o,iE,ho,aR⟩)) jB cont
      |none =>
       obtain ⟨c',eK,rE⟩:=Jo hb.1 (oO.2 ⟨i,iE,ho⟩) aR;obtain rfl:c'=c:=lq.uniq (T:=T) (x:=none) eK yA;exact TB hn hp.toPlan0 aX iE ho aR dO (fun j hj hd=>gU j (by have:=hp.lt;omega) hd) Ee yA rE q1 q2 (eS d _ (jW.2 ⟨i,o,iE,ho,aR⟩)) jB cont
    ·obtain rfl:i=m:=by omega
     rw [BD] at ho;cases ho
     have TD:∀j o',j<i→ops[j]?=some o'→dV o'≠none→listed.getD j false=true:=fun j o' hj aB ha=>by
      rcases hp.late j o' hj aB with h|h
      ·exact gU j (lt aB) h
      ·exact absurd h.1 ha
     obtain ⟨F1,dg,g1,g2,g3,g6⟩:∃F β,a.tmps.size=C.n∧True∧XM C a.defers w F β HA ∧
       (∀t,(∀j o,j<i→ops[j]?=some o→o.dst=some t→listed.getD j false=true)→Rd w F β (fA t) (a.tmps.getD t undef)):=by
      obtain ⟨F1,dg,H1,g1,g2,g3,g4,g5,g6⟩:=jB.ex;refine ⟨F1,dg,g1,g2,g3.AW (fun x=>?_) Ed,g6⟩;rw [g4 x,Iw x];constructor
      ·rintro (h|⟨d,t,z,h1,h2,h3⟩)
       ·exact .inl h
       ·obtain ⟨j,o',hj,aB,aR⟩:=jW.1 h1;exact .inr ⟨j,o',d,t,z,hj,TD j o' hj aB (by rw [aR];simp),aB,aR,h2,h3⟩
      ·rintro (h|⟨j,o',d,t,z,hj,_,aB,aR,h2,h3⟩)
       ·exact .inl h
       ·exact .inr ⟨d,t,z,jW.2 ⟨j,o',hj,aB,aR⟩,h2,h3⟩
     obtain ⟨fo,et⟩:=hp.store _ BD
     obtain ⟨known,Ul,yP⟩:∃known:Nat→AV,(∀t,(∀j o,j<i→ops[j]?=some o→o.dst=some t→listed.getD j false=true)→known t=fA t)∧∀t,Rd w F1 dg (known t) (a.tmps.getD t undef):=by
      classical
      refine ⟨fun t=>if ∀j o,j<i→ops[j]?=some o→o.dst=some t→listed.getD j false=true then fA t else .χ,fun t ht=>if_pos ht,fun t=>?_⟩;simp only;split
      ·rename_i hh;exact g6 t hh
      ·exact .χ
     have Bt:∀t,t∈om.looksAt ops→known t=fA t:=fun t ht=>Ul t fun j o' hj aB bH=>by
      exact gU j (by have:=lt aB;omega) (hp.ad0 om t j o' BD ht hj aB bH)
     have wy:∀x,x∈om.op.operands→ev known x=ev fA x:=fun x hx=>by
      cases x with
      |tmp t=>exact Bt t (qR _ (ma.2 ⟨.tmp t,by simpa using hx,rfl⟩))
      |_=>rfl
     have ac3:gd n ops om ⟨known,HA⟩ (fun st=>step P T om st fun r aq=>put n om.dst aq r fun s=>s=⟨known,H'⟩) fun st=>put n om.dst st (.v undef) fun s=>s=⟨known,H'⟩:=by
      rw [sR,et];have h1:=bV known;have e1:ev known xs=ev fA xs:=wy xs (by rw [NF];simp [uo]);have e2:ev known ys=ev fA ys:=wy ys (by rw [NF];simp [uo])
      have h2:v_ T ts (ev known xs) (ev known ys) ⟨known,HA⟩ fun r aq=>put n om.dst aq r fun s=>s=⟨known,H'⟩:=by
       rw [e1,e2,fo]
       have:(fun (r:AV) (aq:ae)=>put n none aq r fun s=>s=⟨known,H'⟩)=fun _ aq=>aq=⟨known,H'⟩:=by
        funext r aq;rw [put_eq]
       rw [this];exact h1
      have h3:step P T om ⟨known,HA⟩ (fun r aq=>put n om.dst aq r fun s=>s=⟨known,H'⟩)=Cy P T om ⟨known,HA⟩ fun r aq=>put n om.dst aq r fun s=>s=⟨known,H'⟩:=by
       unfold step;rw [fo];rfl
      show step P T om ⟨known,HA⟩ _;rw [h3];unfold Cy;rw [NF];exact h2
     refine vv (st:=⟨known,HA⟩) (K:=fun s=>s=⟨known,H'⟩) hT hn BD ⟨F1,dg,g1,g2,yP,g3⟩ (fun st2 a2 w2 oJ fz=>?_) ac3;subst fz;obtain ⟨F2,cj,q1,q2,q3,q4⟩:=oJ;refine ih _ a2 w2 mP lC (sG i om BD fT) (.inr (.inl ⟨by rw [fF bm,if_pos rfl],fun j hj=>?_,abG (fun j o' hj aB ha=>by rw [fF bm];split;rfl;exact TD j o' hj aB ha) q1 q2 q4 fun t ht=>?_⟩))
     ·rw [fF bm,if_neg (by omega)];exact gA j (by omega)
     ·have h1:=q3 t
      have:known t=fA t:=Ul t fun j o' hj aB bH=>by
       have:=ht j o' hj aB bH;rwa [fF bm,if_neg (by omega)] at this
      rw [←this];exact h1
   ·-- Gl store is done
    by_cases pF:∀i,i<m→listed.getD i false=true
    ·refine XX ⟨m+1,by omega,by have:=hp.lt;omega,fun i hi=>⟨fun h=>?_,fun h=>?_⟩,⟨fA,H'⟩,?_,hK⟩
     ·rcases gI m i with h1|h1
      ·rw [gA i h1] at h;cases h
      ·omega
     ·rcases gI i m with h1|h1
      ·exact pF i h1
      ·obtain rfl:i=m:=by omega
       exact IS
     ·obtain ⟨F1,dg,g1,g2,g3,g6⟩:=TC jB;exact ⟨F1,dg,g1,g2,fun t=>g6 t fun i o hi _ _=>pF i hi,g3⟩
    ·obtain ⟨i0,ry,eo,yx⟩:=least m pF
     have yK:i0<ops.size:=by have:=hp.lt;omega
     have c8:=isReady (gv yK) eo yx;refine ⟨fun h0=>(by rw [h0] at c8;cases c8),fun i hi=>?_⟩;obtain ⟨_,o,ho,_⟩:=mem_ready.1 hi;obtain ⟨dO,fT⟩:=r7 hi ho;have gU:=L2 ho fT;obtain ⟨mP,lC⟩:=next i (lt ho) dO
     have bm:i<listed.size:=by rw [aX];exact lt ho
     have iE:i<m:=by
      rcases gI m i with h|h
      ·have:=gU i0 yK (hp.tail i i0 h (lt ho) (by omega));rw [this] at eo;cases eo
      ·rcases gI i m with h2|h2
       ·exact h2
       ·obtain rfl:i=m:=by omega
        rw [IS] at dO;cases dO
     obtain ⟨aR,acG⟩:dV o=none∧vO P T ops H' fA o:=by
      rcases hp.late i o iE ho with h|h
      ·have:=yz m hp.lt (fun o ho=>c_ m o IS ho) i (by omega) h;rw [this] at dO;cases dO
      ·exact ⟨h.1,Ow Ns i o h.2 ho⟩
     refine MT hT hn hp.toPlan0.s aX iE ho aR dO (fun j hj hd=>gU j (by have:=hp.lt;omega) hd) (fun _ _=>rfl) Uk acG (Φ o (BQ iE ho aR)) jB fun a2 w2 hh=>?_;refine ih _ a2 w2 mP lC (sG i o ho fT) (.inr (.inl ⟨?_,fun j hj=>?_,hh⟩))
     ·rw [fF bm];split
      ·rfl
      ·exact IS
     ·rw [fF bm,if_neg (by omega)];exact gA j hj
   ·exact XX rH
 have rep:∀i,(oc ops.size false).getD i false=false:=fun i=>by
  simp only [lh,Y6];split<;>rfl
 refine key ops.size _ a w (by simp) (by simp) (fun i o hi=>by rw [rep] at hi;cases hi) (.inl ⟨fun i _=>rep i,F,av,Hm,hs,hd,fw,fun x=>⟨.inl,fun h=>?_⟩,fun i o d t hi ho aR _=>zh d (.inr ⟨t,jW.2 ⟨i,o,hi,ho,aR⟩⟩),fun t ht=>?_⟩)
 ·rcases h with h|⟨i,o,d,t,z,h1,h2,_⟩
  ·exact h
  ·rw [rep] at h2;cases h2
 ·have bp:∀i o,i<m→ops[i]?=some o→o.dst≠some t:=fun i o hi ho bH=>by
   have:=ht i o hi ho bH;rw [rep] at this;cases this
  rw [Ef t fun j o' ty hj aB aR=>bp j o' hj aB (kE aR).1,lA t fun o ho=>by
   obtain ⟨i,hi,aB⟩:=oO.1 (ek.1 ho).1
   exact bp i o hi aB]
  show Rd _ _ _ (preB (eA m ops) (jy (eA m ops) st).f t) _
  rw [Fx fun x hx=>by
   obtain ⟨j,o',hj,aB,aR⟩:=jW.1 hx
   exact bp j o' hj aB (kE aR).1]
  exact uI t
end
end
section
open Go.RowKit
variable [M:bM] [G:cK]
section
variable {P:Program} {T:TT} {w:World} {F:Nat→Prop} {β:Nat→Value}
def H4 {st:ae} {w':World} {F':Nat→Prop} {d:Nat} {c:Chunk} {v:Value} (hd:d<1000) (hI:Inv w F β st.H) (hb:Below w.heap.size w w') (kb:∀b,F b→F' b) (uE:∀b,F' b→fG F w w' b)
  (eS:∀b,bR v=some b→w.heap.size≤b∧¬F' b) (hc:c.holds w' F' (fun i=>if i=d then v else β i) d) :
  Ext w F β st w' F' (fun i=>if i=d then v else β i) (gJ st d c):=by
 have ah:∀i,i≠d→(fun i=>if i=d then v else β i) i=β i:=fun i hi=>if_neg hi;have ha:ga F w w':=Below.agree hb hI.cC
 have dr:∀b,bC (fun i=>if i=d then v else β i) ((d,c)::gT d st.H) b→(w.heap.size≤b∧¬F' b)∨bC β st.H b:=by
  rintro b ⟨i,c',hm,aK⟩
  rcases bf.1 hm with hm|hm
  ·cases hm;simp only [if_true] at aK;exact .inl (eS b aK)
  ·obtain ⟨hi,c2,h2,_⟩:=ir hm;simp only [if_neg hi] at aK;exact .inr ⟨i,c2,h2,aK⟩
 refine ⟨hb.os,hb.tape,hb.output,hb.size,fun b h _=>hb.block b h,kb,fun b h=>(uE b h).elim .inl fun h=>.inr (.inl h.1),fun b h=>(dr b h).elim (fun h=>.inl h.1) .inr,fun t u h=>sN ah 2 (h.frame ha kb),?_,fun i hi=>ah i (by omega)⟩;refine ⟨fun b h=>(uE b h).elim (fun h=>oe (hI.cC b h) hb.size) fun h=>h.2,?_,?_,fun b ho hF=>?_,?_,hI.fk.frame ha kb⟩
 ·intro i c' hm
  rcases bf.1 hm with hm|hm
  ·cases hm;exact hc
  ·obtain ⟨hi,c2,h2,rfl⟩:=ir hm;exact IX hi ah (pD ha kb (fun b aK=>hb.block b (hI.fM ⟨i,c2,h2,aK⟩)) (hI.holds i c2 h2))
 ·show ((d::(gT d st.H).map (·.1))).Nodup;rw [iw];refine ⟨fun hm=>?_,DM hI.keys⟩;obtain ⟨x,hx,lF⟩:=c9.1 hm;obtain ⟨i,c'⟩:=x;exact (ir hx).1 lF
 ·rcases dr b ho with h|h
  ·exact h.2 hF
  ·rcases uE b hF with h1|h1
   ·exact hI.apart b h h1
   ·exact absurd (hI.fM h) (me.2 h1.1)
 ·have key:∀i c' b,(i,c')∈gT d st.H→bR (β i)=some b→bR v=some b→False:=fun i c' b hm cO hv=>by
   obtain ⟨hi,c2,h2,_⟩:=ir hm;exact absurd (hI.fM ⟨i,c2,h2,cO⟩) (me.2 (eS b hv).1)
  intro i c1 i' p8 b hm bW cO aK
  rcases bf.1 hm with hm|hm<;>rcases bf.1 bW with bW|bW
  ·cases hm;cases bW;rfl
  ·cases hm;simp only [if_true] at cO;simp only [if_neg (ir bW).1] at aK;exact (key i' p8 b bW aK cO).elim
  ·cases bW;simp only [if_true] at aK;simp only [if_neg (ir hm).1] at cO;exact (key i c1 b hm cO aK).elim
  ·obtain ⟨hi,c2,h2,_⟩:=ir hm;obtain ⟨bm,AP,iz,_⟩:=ir bW;simp only [if_neg hi] at cO;simp only [if_neg bm] at aK;exact hI.eC i c2 i' AP b h2 iz cO aK
def iZ (P:Program) (g:FuncId) (args:List AV) (E K:Nat) (rows:List (List AV)):Prop :=
 p6 P g∧∀(w:World) (F:Nat→Prop) (β:Nat→Value) (vs:Array Value),Inv w F β []→vs.size=args.length→(∀i,i<args.length→Rd w F β (args.getD i .χ) (vs.getD i undef)) →
  Calls P g vs w fun e w'=>∃v,e=.returned v∧Below w.heap.size w w'∧∃F',(∀b,F b→F' b)∧(∀b,F' b→fG F w w' b)∧Chunk.holds w' F' (fun _=>v) 0 (.own E K rows)∧(∃a n c,v=.slice a n c) ∧
   ∀b,bR v=some b→w.heap.size≤b∧¬F' b
def Ly (E K:Nat) (rows:List (List AV)) (x:AV) (st:ae):Prop :=
 (x=.v (.slice none 0 0)∧rows=[])∨∃id,x=.o id∧dH id st.H=some (.own E K rows)
def JB {id:Nat} {E K:Nat} {rows:List (List AV)} (h:Chunk.holds w F β id (.own E K rows)):∀(av:Nat→Value) (i:Nat),av i=β id→Chunk.holds w F av i (.own E K rows):=by
 intro av i hi;unfold Chunk.holds at *;rw [hi];exact h
def af.own {g:FuncId} {xs ys:List AV} {st:ae} {E K D:Nat} {rows:List (List AV)} {k:AV→ae→Prop} (h:iZ P g ys E K rows) (hle:iM xs ys) (hD:eN D 1000=true) (hk:k (.o D) (gJ st D (.own E K rows))):af P g xs st k:=by
 obtain ⟨hl,hz⟩:=hle.spec;refine ⟨h.1,fun w F β vs hI hs hv=>(h.2 w F β vs hI.nil (by omega) fun i hi=>hz i (by omega) _ _ _ _ (hv i (by omega))).mono ?_⟩;rintro e w' ⟨v,rfl,hb,F',h1,h2,h3,⟨a,m,c,rfl⟩,h4⟩;exact ⟨_,rfl,.o D,_,F',_,hk,.o (by simp),H4 (by simpa using hD) hI hb h1 h2 h4 (JB h3 _ _ (by simp))⟩
def iZ.makes {g:FuncId} {args:List AV} {E K:Nat} {rows:List (List AV)} (h:iZ P g args E K rows):LB P g args (.own E K rows) :=
 ⟨h.1,fun w F β vs hI hs hv=>(h.2 w F β vs hI hs hv).mono fun e w'=>by
  rintro ⟨v,rfl,hb,F',hm,hn,hc,⟨a,n,c,rfl⟩,hf⟩
  exact ⟨_,rfl,hb,F',hm,hn,fun av i hi=>⟨JB hc av i hi,.o hi⟩,hf⟩⟩
def iZ.pure {g:FuncId} {args:List AV} {E K:Nat} {rows:List (List AV)} (h:iZ P g args E K rows):Pure P g args (.s rows):=by
 refine ⟨h.1,fun w F β vs hI hs hv=>(h.2 w F β vs hI hs hv).mono ?_⟩;rintro e w' ⟨v,rfl,hb,F',h1,h2,h3,⟨a,m,c,rfl⟩,h4⟩;refine ⟨_,rfl,hb,?_⟩
 rcases h3 with ⟨rfl,a',hv⟩|⟨g',cap,cur,hv,hc,hg,hn,gp,aX,hK,hr⟩
 ·cases hv;exact .s0
 ·cases hv
  have h0:aH c 0=false:=by cases c<;>first|rfl|omega
  have gA:=(h4 g' (by simp [bR,h0])).1;refine .s (off:=0) (k:=K) (u:=fun i j=>cur.getD (i*K+j) undef) (.inr ⟨gA,kF hg⟩) hn gp hK (fun i j hi hj=>?_) (fun i j hi hj=>(hr i j hi hj).1) fun i j hi hj=>(hr i j hi hj).2.frame (fun _ _=>rfl) h2;rw [jL,cell_of_row w' g' _ cur E (0,0) hg]
  have:i*K+j<cur.size:=by
   rw [aX]
   calc i*K+j<i*K+K:=by omega
    _=(i+1)*K:=by rw [bP];omega
    _≤c*K:=Nat.mul_le_mul_right _ (by omega)
  simp [this]
end
abbrev vi (n:Int):AV:=.v (.int .i64 n)
abbrev vb (b:Bool):AV:=.v (.bool b)
abbrev bs (l:List UInt8):AV:=.s (l.map lv)
def encI (n:Int):List AV:=[.v (.int .i64 n)]
abbrev is (l:List Int):AV:=.s (l.map encI)
def Fz.v' {H:Hp} {x y:Value} (h:x=y):Fz H (.v x) (.v y):=h▸Fz.v
def Fz.s' {H:Hp} {x y:List (List AV)} (h:x=y):Fz H (.s x) (.s y):=h▸Fz.s
def hZ {α:Type} {f:α→List AV} {n:Nat} (h:∀x,(f x).length=n) (l:List α):oZ (l.map f) n:=fun r hr=>by
 obtain ⟨x,_,rfl⟩:=c9.1 hr;exact h x
end
section
open Go.ChangeShapes Go.WideShapes Go.RowKit
variable [M:bM] [G:cK]
mutual
inductive eW (P:Program):TypeId→List AV→Prop where
 |bool {t:TypeId} {b:Bool} (h:P.underlying t=some .bool):eW P t [.v (.bool b)]
 |int {t:TypeId} {k:IntKind} {n:Int} (h:P.underlying t=some (.int k)) (hn:(Lit.int k n).wf=true):eW P t [.v (.int k n)]
 |str {t:TypeId} {s:ByteArray} (h:P.underlying t=some .string) (hs:s.size≤maxLen):eW P t [.v (.string s)]
 |slice {t e:TypeId} {rows:List (List AV)} (h:P.underlying t=some (.slice e)) (hl:rows.length≤maxLen) (hk:∀r,r∈rows→r.length=P.cellsOf e) (hr:∀r,r∈rows→eW P e r):eW P t [.s rows]
 |struct {t:TypeId} {fs:Array Field} {xs:List AV} (h:P.underlying t=some (.struct fs)) (hf:mh P (fs.toList.map (·.type)) xs):eW P t xs
 |arr {t e:TypeId} {n:Nat} {xs:List AV} (h:P.underlying t=some (.array n e)) (hf:mh P (ij n e) xs):eW P t xs
inductive mh (P:Program):List TypeId→List AV→Prop where
 |nil:mh P [] []
 |cons {t:TypeId} {ts:List TypeId} {xs ys:List AV} (h:eW P t xs) (hs:mh P ts ys):mh P (t::ts) (xs++ys)
end
def qV (P:Program) (t:TypeId) (x:AV):Prop :=
 match P.underlying t with
 |some (.struct _)=>∃cs,x=.a cs∧eW P t cs
 |some (.array _ _)=>∃cs,x=.a cs∧eW P t cs
 |_=>eW P t [x]
inductive oi (P:Program):List TypeId→List AV→Prop where
 |nil:oi P [] []
 |cons {t:TypeId} {ts:List TypeId} {x:AV} {xs:List AV} (h:qV P t x) (hs:oi P ts xs):oi P (t::ts) (x::xs)
def qz (P:Program):Nat→TypeId→Bool
 |0,_=>false
 |n+1,t=>match P.underlying t with
  |some .bool|some (.int _)|some .string=>true
  |some (.slice e)=>qz P n e&&eN 0 (P.cellsOf e)
  |some (.struct fs)=>fs.toList.all fun f=>qz P n f.type
  |some (.array _ e)=>qz P n e
  |_=>false
def jN (P:Program) (t:TypeId):Prop:=t<P.types.size∧∃n,qz P n t=true
def jN.slice {P:Program} (hl:laidOutB P=true) {t e:TypeId} (h:jN P t) (hu:P.underlying t=some (.slice e)):jN P e∧0<P.cellsOf e:=by
 obtain ⟨ht,n,hn⟩:=h;cases n with
 |zero=>cases hn
 |succ n =>
  simp only [qz,hu,bE,gH] at hn;exact ⟨⟨kid_slice hl ht hu,n,hn.1⟩,hn.2⟩
def jN.struct {P:Program} (hl:laidOutB P=true) {t:TypeId} {fs:Array Field} (h:jN P t) (hu:P.underlying t=some (.struct fs)) :
  (∀f∈fs.toList,jN P f.type)∧P.cellsOf t=(fs.toList.map fun f=>P.cellsOf f.type).sum∧∀(j:Nat) f,fs.toList[j]?=some f→f.offset=((fs.toList.take j).map fun f=>P.cellsOf f.type).sum:=by
 obtain ⟨ht,n,hn⟩:=h;obtain ⟨h1,h2,h3⟩:=kid_struct hl ht hu;refine ⟨fun f hf=>⟨h1 f hf,?_⟩,h2,h3⟩;cases n with
 |zero=>cases hn
 |succ n =>
  simp only [qz,hu,ej] at hn;exact ⟨n,hn f hf⟩
def jN.array {P:Program} (hl:laidOutB P=true) {t e:TypeId} {k:Nat} (h:jN P t) (hu:P.underlying t=some (.array k e)):jN P e∧P.cellsOf t=k*P.cellsOf e:=by
 obtain ⟨ht,n,hn⟩:=h;obtain ⟨h1,h2⟩:=kid_array hl ht hu;cases n with
 |zero=>cases hn
 |succ n =>
  simp only [qz,hu] at hn;exact ⟨⟨h1,n,hn⟩,h2⟩
def jN.no {P:Program} {t:TypeId} (h:jN P t):(∀e,P.underlying t≠some (.pointer e))∧(∀k e,P.underlying t≠some (.map k e)):=by
 obtain ⟨_,n,hn⟩:=h;cases n with
 |zero=>cases hn
 |succ n=>refine ⟨fun e he=>?_,fun k e he=>?_⟩<;>simp [qz,he] at hn
def aga {P:Program} (hl:laidOutB P=true):Kids P (jN P) :=
 ⟨fun h hu=>(h.no.1 _ hu).elim,fun h hu=>(h.slice hl hu).1,fun h hu=>h.array hl hu,fun h hu=>h.struct hl hu,fun h hu=>(h.no.2 _ _ hu).elim⟩
section
variable {H:Type} {enc:TypeId×Value→H} {P:Program} {w:World} {base:Nat} {held:Bool}
abbrev Old (w:World):Nat→Prop:=fun b=>b<w.heap.size
structure Good (P:Program) (w:World) (D:List AV→Prop) (cs:List Value) (xs:List AV):Prop where
 len:xs.length=cs.length
 yg:D xs
 rd:∀i,i<cs.length→bg w (Old w) (xs.getD i .χ) (cs.getD i undef)∧(cs.getD i undef).oneCell'=true
def Good.one {D:List AV→Prop} {x:AV} {v:Value} (hd:D [x]) (hr:bg w (Old w) x v) (h1:v.oneCell'=true):Good P w D [v] [x] :=
 ⟨rfl,hd,fun i hi=>by
  have:i=0:=by simpa using hi
  subst this;exact ⟨hr,h1⟩⟩
def Good.app {t:TypeId} {ts:List TypeId} {a b:List Value} {xs ys:List AV} (h:Good P w (eW P t) a xs) (h':Good P w (mh P ts) b ys):Good P w (mh P (t::ts)) (a++b) (xs++ys):=by
 refine ⟨by simp [h.len,h'.len],.cons h.yg h'.yg,fun i hi=>?_⟩;by_cases Φ:i<a.length
 ·have e1:(xs++ys).getD i .χ=xs.getD i .χ:=by simp [aV,gG,h.len,Φ]
  have e2:(a++b).getD i undef=a.getD i undef:=by simp [aV,gG,Φ]
  rw [e1,e2];exact h.rd i Φ
 ·have e1:(xs++ys).getD i .χ=ys.getD (i-a.length) .χ:=by simp [aV,gG,h.len,Φ]
  have e2:(a++b).getD i undef=b.getD (i-a.length) undef:=by simp [aV,gG,Φ]
  rw [e1,e2];exact h'.rd _ (by rw [List.length_append] at hi;omega)
def Tl {r:TypeId→List Value→Option (DataW H×List MemPlace)} (hr:∀t cs x,jN P t→r t cs=some x→∃xs,Good P w (eW P t) cs xs) :
  ∀(fs:List Field) (o:Nat) (cs:List Value),(∀f,f∈fs→jN P f.type)→(∀(j:Nat) f,fs[j]?=some f→f.offset=o+((fs.take j).map fun f=>P.cellsOf f.type).sum)→cs.length=o+(fs.map fun f=>P.cellsOf f.type).sum →
   (∀f,f∈fs→∃x,r f.type ((cs.drop f.offset).take (P.cellsOf f.type))=some x)→∃xs,Good P w (mh P (fs.map (·.type))) (cs.drop o) xs
 |[],o,cs,_,_,hl,_=>by
  have:cs.drop o=[]:=qP (by simp at hl;omega);rw [this];exact ⟨[],rfl,.nil,fun i hi=>by simp at hi⟩
 |f::fs,o,cs,hp,ho,hl,hx=>by
  have h0:f.offset=o:=by simpa using ho 0 f rfl
  obtain ⟨x,N_⟩:=hx f (by simp);obtain ⟨xs,hg⟩:=hr _ _ _ (hp f (by simp)) N_;rw [h0] at hg
  obtain ⟨ys,Bj⟩:=Tl hr fs (o+P.cellsOf f.type) cs (fun g hg=>hp g (by simp [hg])) (fun j g hg=>by
   have:=ho (j+1) g (by simpa using hg)
   rw [this];simp;omega) (by simp at hl;omega) (fun g hg=>hx g (by simp [hg]))
  refine ⟨xs++ys,?_⟩
  have e:cs.drop o=(cs.drop o).take (P.cellsOf f.type)++cs.drop (o+P.cellsOf f.type):=by
   rw [←alC,vI]
  rw [e];exact hg.app Bj
def Jl {α β:Type} {f:α→Option β} {l:List α} {r:List β} (h:l.mapM f=some r) {x:α} (hx:x∈l):∃y,f x=some y:=by
 cases hf:f x with
 |none=>rw [mapM_none_of hx hf] at h;cases h
 |some y=>exact ⟨y,rfl⟩
def Tk {r:TypeId→List Value→Option (DataW H×List MemPlace)} (hr:∀t cs x,jN P t→r t cs=some x→∃xs,Good P w (eW P t) cs xs) {e:TypeId} (he:jN P e) :
  ∀(n o:Nat) (cs:List Value),cs.length=o+n*P.cellsOf e→(∀i,i<n→∃x,r e ((cs.drop (o+i*P.cellsOf e)).take (P.cellsOf e))=some x)→∃xs,Good P w (mh P (ij n e)) (cs.drop o) xs
 |0,o,cs,hl,_=>by
  have:cs.drop o=[]:=qP (by simp at hl;omega);rw [this];exact ⟨[],rfl,.nil,fun i hi=>by simp at hi⟩
 |n+1,o,cs,hl,hx=>by
  obtain ⟨x,N_⟩:=hx 0 (Nat.succ_pos n);obtain ⟨xs,hg⟩:=hr _ _ _ he N_;rw [Nat.zero_mul,Nat.add_zero] at hg
  obtain ⟨ys,Bj⟩:=Tk hr he n (o+P.cellsOf e) cs (by rw [hl,bP];omega) (fun i hi=>by
   have:=hx (i+1) (by omega)
   rwa [bP,Nat.one_mul,show o+(i*P.cellsOf e+P.cellsOf e)=o+P.cellsOf e+i*P.cellsOf e by omega] at this)
  refine ⟨xs++ys,?_⟩
  have e0:cs.drop o=(cs.drop o).take (P.cellsOf e)++cs.drop (o+P.cellsOf e):=by
   rw [←alC,vI]
  rw [e0,List.replicate_succ];exact hg.app Bj
def abA {t e:TypeId} {a:Addr} {len cap:Nat} (hu:P.underlying t=some (.slice e)) (hk:0<P.cellsOf e) (nK:len≤cap) (nD:cap≤maxLen)
  (h:∀i,i<cap→∃ci,w.cells? base (a.add (i*P.cellsOf e)) (P.cellsOf e)=some ci∧∃xs,Good P w (eW P e) ci xs):∃xs,Good P w (eW P t) [.slice (some a) len cap] xs:=by
 by_cases hc:cap=0
 ·obtain rfl:len=0:=by omega
  subst hc;exact ⟨_,Good.one (.slice (rows:=[]) hu (Nat.zero_le _) (fun _ h=>by cases h) (fun _ h=>by cases h)) .s0 rfl⟩
 ·obtain ⟨f,hf⟩:=Classical.axiomOfChoice (r:=fun i (p:List Value×List AV)=>i<cap→w.cells? base (a.add (i*P.cellsOf e)) (P.cellsOf e)=some p.1∧Good P w (eW P e) p.1 p.2) (fun i=>by
   by_cases hi:i<cap
   ·obtain ⟨ci,h1,xs,h2⟩:=h i hi;exact ⟨(ci,xs),fun _=>⟨h1,h2⟩⟩
   ·exact ⟨([],[]),fun h=>(hi h).elim⟩)
  obtain ⟨b,off,sp⟩:=a
  have c0:∃v,w.cell? ⟨b,off,sp⟩=some v:=by
   obtain ⟨_,hlen,hc⟩:=Ry (hf 0 (by omega)).1;have:=hc 0 hk;rw [bU (by omega)] at this;refine ⟨_,Eq.trans ?_ this⟩;simp [Addr.add]
  obtain ⟨v0,c0⟩:=c0;obtain rfl:sp=none:=World.cell?_spot c0
  have cell:∀i j,i<cap→j<P.cellsOf e→w.cell? ⟨b,off+(i*P.cellsOf e+j),none⟩=some ((f i).1.getD j undef):=fun i j hi hj=>by
   obtain ⟨_,hlen,hc⟩:=Ry (hf i hi).1;have:=hc j hj;rw [bU (by omega)] at this;simp only [aV,bU (show j<(f i).1.length by omega),Option.getD_some];rw [←this];congr 1;unfold Addr.add;by_cases h1:i*P.cellsOf e=0<;>by_cases h2:j=0<;>simp [h1,h2,Nat.add_assoc]
  have hb:b<w.heap.size:=by
   unfold World.cell? at c0;split at c0
   ·rename_i he;exact kF he
   ·cases c0
  have IK:∀i,i<cap→(f i).2.length=P.cellsOf e∧(f i).1.length=P.cellsOf e:=fun i hi=>by
   obtain ⟨_,hlen,_⟩:=Ry (hf i hi).1;exact ⟨(hf i hi).2.len.trans hlen,hlen⟩
  have hlen:((gw len).map fun i=>(f i).2).length=len:=by simp
  have get:∀i,i<len→((gw len).map fun i=>(f i).2).getD i []=(f i).2:=fun i hi=>by simp [aV,hi]
  have mem:∀r,r∈((gw len).map fun i=>(f i).2)→∃i,i<len∧r=(f i).2:=fun r hr=>by
   obtain ⟨i,hi,rfl⟩:=c9.1 hr;exact ⟨i,mc.1 hi,rfl⟩
  refine ⟨[.s ((gw len).map fun i=>(f i).2)],Good.one (.slice hu (by rw [hlen];omega) (fun r hr=>?_) (fun r hr=>?_)) ?_ rfl⟩
  ·obtain ⟨i,hi,rfl⟩:=mem r hr;exact (IK i (by omega)).1
  ·obtain ⟨i,hi,rfl⟩:=mem r hr;exact (hf i (by omega)).2.yg
  ·have:=bg.s (w:=w) (F:=Old w) (rows:=(gw len).map fun i=>(f i).2) (b:=b) (off:=off) (c:=cap) (k:=P.cellsOf e) (u:=fun i j=>(f i).1.getD j undef) hb (by rw [hlen];exact nK) nD
    (fun i hi=>by rw [hlen] at hi;rw [get i hi];exact (IK i (by omega)).1)
    (fun i j hi hj=>cell i j (by rw [hlen] at hi;omega) hj)
    (fun i j hi hj=>by rw [hlen] at hi;exact ((hf i (by omega)).2.rd j (by rw [(IK i (by omega)).2];exact hj)).2)
    (fun i j hi hj=>by rw [hlen] at hi;rw [get i hi];exact ((hf i (by omega)).2.rd j (by rw [(IK i (by omega)).2];exact hj)).1)
   rwa [hlen] at this
def abB (hl:laidOutB P=true):∀(n:Nat) (t:TypeId) (cs:List Value) (x:DataW H×List MemPlace),jN P t →
  Da enc P w base (fun _=>true) held n t cs=some x→∃xs,Good P w (eW P t) cs xs:=by
 intro n;induction n with
 |zero=>intro t cs x _ h;simp [Da] at h
 |succ n ih =>
  intro t cs x hp h;have gB:=hp;obtain ⟨ht,m,hm⟩:=gB;cases m with
  |zero=>cases hm
  |succ m =>
   cases hu:P.underlying t with
   |none=>simp [qz,hu] at hm
   |some d =>
    cases d with
    |bool =>
     simp only [Da,hu] at h;split at h<;>simp_all;exact ⟨_,Good.one (.bool hu) (.v (.inl rfl)) rfl⟩
    |int k =>
     simp only [Da,hu] at h;split at h<;>simp_all;obtain ⟨⟨rfl,hw⟩,_⟩:=h;exact ⟨_,Good.one (.int hu hw) (.v (.inl rfl)) rfl⟩
    |string =>
     simp only [Da,hu] at h;split at h<;>simp_all;exact ⟨_,Good.one (.str hu h.1) (.v (.inl rfl)) rfl⟩
    |slice e =>
     obtain ⟨he,hk⟩:=hp.slice hl hu;rw [QX] at h;unfold QW at h;rw [hu] at h;split at h
     case h_7=>exact ⟨_,Good.one (.slice (rows:=[]) hu (Nat.zero_le _) (fun _ h=>by cases h) (fun _ h=>by cases h)) .s0 rfl⟩
     case h_8 e' a len cap e1 =>
      cases e1;simp only at h;split at h
      case isFalse=>cases h
      case isTrue hb =>
      obtain ⟨_,nK,nD⟩:=hb;cases ID:List.mapM (fun i=>(w.cells? base (a.add (i*P.cellsOf e)) (P.cellsOf e)).bind (Da enc P w base (fun x=>true) held n e)) (gw len) with
      |none=>rw [ID] at h;cases h
      |some elems =>
      rw [ID] at h;simp only [cD,if_true,Dj] at h;obtain ⟨rest,nL,_⟩:=h
      exact abA hu hk nK nD fun i hi=>by
       by_cases s7:i<len
       ·obtain ⟨y,hy⟩:=Jl ID (mc.2 s7);obtain ⟨ci,hc,hy⟩:=ZJ.1 hy;exact ⟨ci,hc,ih _ _ _ he hy⟩
       ·obtain ⟨y,hy⟩:=Jl nL (mc.2 (show i-len<cap-len by omega));rw [show len+(i-len)=i by omega] at hy;obtain ⟨ci,hc,hy⟩:=ZJ.1 hy;exact ⟨ci,hc,ih _ _ _ he hy⟩
     all_goals first|(rename_i e1;cases e1;done)|(rename_i e1 _;cases e1;done)|cases h
    |struct fs =>
     obtain ⟨h1,h2,h3⟩:=hp.struct hl hu;rw [QX] at h;unfold QW at h;rw [hu] at h;simp only at h;split at h
     case isFalse=>cases h
     case isTrue fZ =>
     obtain ⟨l,jC,_⟩:=Dj.1 h;obtain ⟨xs,hg⟩:=Tl (fun t cs x=>ih t cs x) fs.toList 0 cs h1 (fun j f hf=>by rw [jL];exact h3 j f hf) (by rw [jL,←h2];exact fZ)
      fun f hf=>Jl jC hf
     exact ⟨xs,hg.len,.struct hu hg.yg,hg.rd⟩
    |array k e =>
     obtain ⟨he,hc⟩:=hp.array hl hu;rw [QX] at h;unfold QW at h;rw [hu] at h;simp only at h;split at h
     case isFalse=>cases h
     case isTrue fZ =>
     obtain ⟨l,jC,_⟩:=Dj.1 h;obtain ⟨xs,hg⟩:=Tk (fun t cs x=>ih t cs x) he k 0 cs (by rw [jL,←hc];exact fZ)
      fun i hi=>by rw [jL];exact Jl jC (mc.2 hi)
     exact ⟨xs,hg.len,.arr hu hg.yg,hg.rd⟩
    |_=>simp [qz,hu] at hm
def aaw (hl:laidOutB P=true) {t:TypeId} {v:Value} {d:DataW H} {p:List MemPlace} {b0:Nat} (hp:jN P t) (bX:Dm P w .any b0 t v) (h:DataW.Trod enc P w base (fun _=>true) held t v d p) :
  ∃x,qV P t x∧bg w (Old w) x v:=by
 obtain ⟨n,hn⟩:=h;obtain ⟨xs,hg⟩:=abB hl n t _ _ hp hn;by_cases hs:(∃fs,P.underlying t=some (.struct fs))∨∃n e,P.underlying t=some (.array n e)
 ·have fZ:∃cs,v=.agg cs:=by
   rcases hs with ⟨fs,hu⟩|⟨k,e,hu⟩
   ·simp only [Dm,hu] at bX;obtain ⟨cs,rfl,_,_⟩:=bX;exact ⟨cs,rfl⟩
   ·simp only [Dm,hu] at bX;obtain ⟨cs,rfl,_,_⟩:=bX;exact ⟨cs,rfl⟩
  obtain ⟨cs,rfl⟩:=fZ
  have c_:cs.toList.length=cs.size:=by simp
  have get:∀i,cs.getD i undef=cs.toList.getD i undef:=fun i=>by simp [lh,aV]
  refine ⟨.a xs,?_,.a (by rw [hg.len];simp [Value.cells]) (fun i hi=>?_) fun i hi=>?_⟩
  ·rcases hs with ⟨fs,hu⟩|⟨k,e,hu⟩
   iterate 2 (simp only [qV,hu];exact ⟨xs,rfl,hg.yg⟩)
  ·rw [get];exact (hg.rd i (by rw [←hg.len];exact hi)).2
  ·rw [get];exact (hg.rd i (by rw [←hg.len];exact hi)).1
 ·have eO:v.cells.toList=[v]:=by
   cases v with
   |agg cs =>
    have ha:∀fs,P.underlying t≠some (.struct fs):=fun fs he=>hs (.inl ⟨fs,he⟩);have hb:∀n e,P.underlying t≠some (.array n e):=fun n e he=>hs (.inr ⟨n,e,he⟩);unfold Dm at bX;split at bX
    ·rename_i he;exact (ha _ he).elim
    ·rename_i he;exact (hb _ _ he).elim
    ·unfold Cell.okWide at bX
     split at bX<;>first|contradiction|(unfold Cell.ok at bX;split at bX<;>first|contradiction|cases bX)
   |_=>rfl
  rw [eO] at hg
  obtain ⟨x,rfl⟩:∃x,xs=[x]:=by
   have:=hg.len
   match xs,this with
   |[x],_=>exact ⟨x,rfl⟩
  refine ⟨x,?_,(hg.rd 0 (by simp)).1⟩;unfold qV;split
  ·rename_i he;exact (hs (.inl ⟨_,he⟩)).elim
  ·rename_i he;exact (hs (.inr ⟨_,_,he⟩)).elim
  ·exact hg.yg
def Sl (hl:laidOutB P=true):∀{ts:List TypeId} {vs:List Value} {ds:List (DataW H)} {ps:List MemPlace},K3 enc P w base (fun _=>true) held ts vs ds ps→(∀t,t∈ts→jN P t) →
  (∀(j:Nat) t v,ts[j]?=some t→vs[j]?=some v→Dm P w .any base t v) →
  ∃xs,oi P ts xs∧xs.length=vs.length∧∀i,i<xs.length→bg w (Old w) (xs.getD i .χ) (vs.getD i undef)
 |[],vs,ds,ps,h,_,_=>by
  obtain ⟨rfl,rfl,rfl⟩:=trodAll_nil h;exact ⟨[],.nil,rfl,fun i hi=>by simp at hi⟩
 |t::ts,vs,ds,ps,h,hp,bX=>by
  obtain ⟨v,Yj,d,SA,p,q,rfl,rfl,rfl,h1,h2⟩:=trodAll_cons h;obtain ⟨x,hx,hr⟩:=aaw hl (hp t (by simp)) (bX 0 t v rfl rfl) h1;obtain ⟨xs,nP,hlen,lD⟩:=Sl hl h2 (fun t ht=>hp t (by simp [ht])) fun j t v ht hv=>bX (j+1) t v (by simpa using ht) (by simpa using hv);refine ⟨x::xs,.cons hx nP,by simp [hlen],fun i hi=>?_⟩;cases i with
  |zero=>simpa using hr
  |succ i=>simpa using lD i (by simpa using hi)
def X5 {w':World} (hl:laidOutB P=true) (hb:Below w.heap.size w w') {sp:Nat→Bool}:∀{ts:List TypeId} {vs:List Value} {ds:List (DataW H)} {ps:List MemPlace},
  K3 enc P w 0 (fun _=>true) true ts vs ds ps→(∀t,t∈ts→jN P t)→(∀p,p∈ps→sp p.block=true)→K3 enc P w' 0 sp true ts vs ds ps
 |[],vs,ds,ps,h,_,_=>by
  obtain ⟨rfl,rfl,rfl⟩:=trodAll_nil h;exact rfl
 |t::ts,vs,ds,ps,h,hp,hs=>by
  have Φ:=h.lt;obtain ⟨v,Yj,d,SA,p,q,rfl,rfl,rfl,⟨n,h1⟩,h2⟩:=trodAll_cons h;refine ⟨p,q,⟨n,?_⟩,X5 hl hb h2 (fun t ht=>hp t (by simp [ht])) fun p gB=>hs p (by simp [gB]),rfl⟩;refine DataW.trod_stays (aga hl) (fun hT hu=>(hT.slice hl hu).2) (fun hf=>by cases hf) (hp t (by simp)) h1 (fun p' gB=>?_) fun p' gB=>hs p' (by simp [gB]);have aK:=hb.block p'.block (Φ p' (by simp [gB]));cases p' with
  |cell b off=>exact World.cell?_of_block (w:=w) aK
  |map b=>exact aK
def adK {w':World} (hb:Below w.heap.size w w') (may:MemPlace→Prop):w.keptBut w' may:=by
 refine ⟨hb.os,hb.output,fun i hi=>?_⟩;rw [hb.block i hi];cases w.heap[i]? with
 |none=>rfl
 |some o=>cases o<;>simp
def adS {C:Checked} {f:FuncId} {fn:Func} {s:ChangeSpec} {tb:TypeId} {W:World} {base:Nat} {args:Array Value} {ds gs:List (DataW H)} {before:List MemPlace} (hl:laidOutB C.prog=true)
  (hv:s.vars=[]) (hs:∀ds:List (DataW H),ds.length=fn.params.toList.length→s.fn H ds={ results:=[.lit (.bool true)],args:=ds })
  (hr:fn.resultTypes=#[tb]) (NW:C.prog.underlying tb=some .bool) (zb:fn.params.toList.all (fun t=>eN t C.prog.types.size&&qz C.prog 12 t)=true)
  (uJ:cK.ok W (Old W)) (h:∀xs,oi C.prog fn.params.toList xs→Pure C.prog f xs (.v (.bool true)))
  (N6:∀(j:Nat) t v,fn.params[j]?=some t→args[j]?=some v→Dm C.prog W .any base t v)
  (hW:DataW.Whole enc C.prog fn.params.toList s.vars false W args.toList ds gs before) :
  Calls C.prog f args W fun e W'=>∃v,e=.returned v∧s.post enc C.prog fn false true false false W args v W':=by
 have Tx:=hW;obtain ⟨p,q,hA,hV,rfl,hfz,dJ⟩:=hW
 have UH:∀t,t∈fn.params.toList→jN C.prog t:=fun t ht=>by
  have:=ej.1 zb t ht;simp only [bE,gH] at this;exact ⟨this.1,_,this.2⟩
 rw [hv] at hV;obtain ⟨rfl,rfl⟩:=trodVars_none hV;obtain ⟨xs,nP,hlen,fB⟩:=Sl hl hA UH fun j t v ht hv=>Value.okWide_any_base (N6 j t v (by simpa using ht) (by simpa using hv));have hI:Inv W (Old W) (fun _=>undef) [] :=
  ⟨fun _ h=>h,fun _ _ hm=>(eJ hm).elim,qS,fun _ ⟨_,_,hm,_⟩=>(eJ hm).elim,fun _ _ _ _ _ hm=>(eJ hm).elim,uJ⟩
 refine ((h xs nP).2 W (Old W) (fun _=>undef) args hI (by rw [hlen];simp) fun i hi=>.i ?_).mono ?_
 ·have:=fB i hi
  have e:args.getD i undef=args.toList.getD i undef:=by simp [lh,aV]
  rw [e];exact this
 rintro e W' ⟨v,rfl,hb,hx⟩;cases hx
 have Es:ds.length=fn.params.toList.length:=by
  have:∀{ts:List TypeId} {vs:List Value} {ds:List (DataW H)} {ps:List MemPlace},K3 enc C.prog W 0 (fun _=>true) true ts vs ds ps→ds.length=ts.length:=by
   intro ts;induction ts with
   |nil=>intro vs ds ps h;obtain ⟨rfl,rfl,rfl⟩:=trodAll_nil h;rfl
   |cons t ts ih=>intro vs ds ps h;obtain ⟨v,Yj,d,SA,p,q,rfl,rfl,rfl,h1,h2⟩:=trodAll_cons h;simp [ih h2]
  exact this hA
 have hold:∀q,q∈p→(fun b=>decide (b<W.heap.size)) q.block=true:=fun q hq=>by simpa using Tx.lt q (by simp [hq])
 refine ⟨_,rfl,ds,[],p++[],[],p,[],Tx,?_,?_,?_,adK hb _,fun h=>by cases h⟩
 ·rw [xq,hs ds Es,hr];exact trodAll_mk1 (shut_bool NW true)
 ·rw [xq,hs ds Es];exact X5 hl hb hA UH hold
 ·rw [xq,hs ds Es,hv];exact rfl
def aam {w:World} {a:Addr} {v:Value} (h:w.cell? a=some v):a.block<w.heap.size:=by
 refine Nat.lt_of_not_le fun hle=>?_
 have:w.heap[a.block]?=none:=by simpa using hle
 simp [World.cell?,this] at h
def adT {C:Checked} {os:Os} {f:FuncId} {fn:Func} {s:ChangeSpec} {tb:TypeId} {X:World→Prop} (hX:∀w w':World,w.heap=w'.heap→X w→X w') (hl:laidOutB C.prog=true) (own:ownKnob C.prog.godebug=none) (started:os.Started) (aes:C.prog.inits.idxOf? f=none) (dE:C.prog.funcs[f]?=some fn)
  (witness:∃(w:World) (tape:Tape) (i:Input),w.os=os∧(w.forCall tape i).Shaped C.prog∧i.vars=[]∧Input.okWide C.prog (w.forCall tape i) .any w.heap.size f i ∧
   ((s.pre enc C.prog fn [] false (w.forCall tape i).memory i.args∧X (w.forCall tape i).memory)∧sizedMet enc C.prog fn (ZH s) false (w.forCall tape i).memory i.args)∧({}:Assume).holds C.prog (lone (Frame.enter C.prog f i.args .normal) [] (w.forCall tape i)))
  (hv:s.vars=[]) (hs:∀ds:List (DataW H),ds.length=fn.params.toList.length→s.fn H ds={ results:=[.lit (.bool true)],args:=ds })
  (hr:fn.resultTypes=#[tb]) (NW:C.prog.underlying tb=some .bool) (zb:fn.params.toList.all (fun t=>eN t C.prog.types.size&&qz C.prog 12 t)=true)
  (uJ:∀W:World,X W→cK.ok W (Old W)) (h:∀xs,oi C.prog fn.params.toList xs→Pure C.prog f xs (.v (.bool true))) :
  ReturnsInHanded {} C os f .any (fun w args=>(s.pre enc C.prog fn [] false w args∧X w)∧sizedMet enc C.prog fn (ZH s) false w args) (s.post enc C.prog fn false true false false):=by
 refine returnsInHanded_of_change_and (C:=C) (X:=fun w _=>X w) (fun w w' _ hh hx=>hX w w' hh hx) own started aes dE witness ?_;intro W base args ds gs before N6 hW _ _ hx _;exact adS hl hv hs hr NW zb (uJ W hx) h N6 hW
end
end
section
open Go.RowKit
variable [M:bM] [G:cK]
section
variable {P:Program} {T:TT} {w:World} {F:Nat→Prop} {β:Nat→Value}
def mq (P:Program) (g:FuncId) (args:List AV) (c:Chunk) (R:AV→Chunk→Prop):Prop :=
 p6 P g∧∀(w:World) (F:Nat→Prop) (β:Nat→Value) (vs:Array Value),Inv w F β [(1000,c)]→vs.size=args.length →
  (∀i,i<args.length→Rd w F β (args.getD i .χ) (vs.getD i undef)) →
  Calls P g vs w fun e w'=>∃v,e=.returned v∧∃r c' F',R r c'∧bg w' F' r v∧w'.os=w.os∧jt w w'∧w'.output=w.output∧w.heap.size≤w'.heap.size ∧
   (∀b,b<w.heap.size→bR (β 1000)≠some b→w'.heap[b]?=w.heap[b]?)∧(∀b,F b→F' b)∧(∀b,F' b→fG F w w' b)∧AU c'=true∧c'.holds w' F' β 1000
def ZU (R:AV→Chunk→Prop) (x:AV) (st:ae):Prop:=∃r c',R r c'∧dH 1000 st.H=some c'∧AU c'=true∧Fz (ow 1000 st.H) x r
def Lr (id:Nat) (x y:AV):Prop:=∀(w:World) (F:Nat→Prop) (β av:Nat→Value) (u:Value),av 1000=β id→Rd w F β x u→Rd w F av y u
inductive xH (id:Nat):List AV→List AV→Prop where
 |nil:xH id [] []
 |cons {x y:AV} {xs ys:List AV} (h:Lr id x y) (t:xH id xs ys):xH id (x::xs) (y::ys)
def xH.spec {id:Nat} {xs ys:List AV} (h:xH id xs ys):xs.length=ys.length∧∀i,i<xs.length→Lr id (xs.getD i .χ) (ys.getD i .χ):=by
 induction h with
 |nil=>exact ⟨rfl,fun i hi=>by simp at hi⟩
 |cons h t ih =>
  refine ⟨by simp [ih.1],fun i hi=>?_⟩;cases i with
  |zero=>simpa using h
  |succ i=>simpa using ih.2 i (by simpa using hi)
def Lr.dG {id:Nat} {x:AV} (h:kg x=true):Lr id x x:=fun _ _ _ _ _ _ hr=>.i (I' h hr)
def Lr.nil {id:Nat}:Lr id (.v (.slice none 0 0)) (.s []):=fun _ _ _ _ _ _ hr=>by rw [hr.bN];exact .i .s0
def Lr.b {id off:Nat}:Lr id (.b id off) (.b 1000 off):=fun _ _ _ _ _ ah hr=>by
 obtain ⟨eX,h1,rfl⟩:=hr.mz;exact .b (ah.trans h1)
def Lr.o {id:Nat}:Lr id (.o id) (.o 1000):=fun _ _ _ _ _ ah hr=>by
 obtain ⟨a,n,c,h1,rfl⟩:=hr.jY;exact .o (ah.trans h1)
def af.chg {g:FuncId} {id:Nat} {xs ys:List AV} {st:ae} {c:Chunk} {R:AV→Chunk→Prop} {k:AV→ae→Prop} (h:mq P g ys c R) (hc:dH id st.H=some c) (gW:AU c=true) (hle:xH id xs ys)
  (hk:∀r c',R r c'→k r ⟨st.f,fN id c' st.H⟩):af P g xs st k:=by
 obtain ⟨hl,hz⟩:=hle.spec;have hm:=eZ hc;refine ⟨h.1,fun w F β vs hI hs hv=>?_⟩;let dg:Nat→Value:=fun i=>if i=1000 then β id else undef;have cO:dg 1000=β id:=if_pos rfl
 have uF:Inv w F dg [(1000,c)]:=by
  refine ⟨hI.cC,fun i c' bW=>?_,by simp,fun b ⟨i,c',bW,hb⟩=>?_,fun i c1 i' p8 b h1 h2 _ _=>?_,hI.fk⟩
  ·simp only [dC,il] at bW;obtain ⟨rfl,rfl⟩:=bW;exact pE gW (fun _ h=>h) cO (hI.holds _ _ hm)
  ·simp only [dC,il] at bW;obtain ⟨rfl,rfl⟩:=bW;rw [cO] at hb;exact hI.apart b ⟨id,c',hm,hb⟩
  ·simp only [dC,il] at h1 h2;rw [h1.1,h2.1]
 refine (h.2 w F dg vs uF (by omega) fun i hi=>hz i (by omega) w F β dg _ cO (hv i (by omega))).mono ?_;rintro e w' ⟨v,rfl,r,c',F',hR,hr,uT,NY,th,aX,hblk,kb,eS,Nk,eK⟩;rw [cO] at hblk
 have dr:∀b,bC β (fN id c' st.H) b→bC β st.H b:=by
  rintro b ⟨i,c2,h,hb⟩
  rcases mY h with ⟨rfl,_,c3,h3⟩|⟨_,h3⟩
  ·exact ⟨i,c3,h3,hb⟩
  ·exact ⟨i,c2,h3,hb⟩
 have MX:∀b,F b→w'.heap[b]?=w.heap[b]?:=fun b hb=>hblk b (hI.cC b hb) fun he=>hI.apart b ⟨id,c,hm,he⟩ hb;refine ⟨v,rfl,r,_,F',β,hk r c' hR,.i hr,⟨uT,NY,th,aX,fun b hb bp=>hblk b hb fun he=>bp ⟨id,c,hm,he⟩,kb,fun b hb=>(eS b hb).elim .inl fun h=>.inr (.inl h.1),fun b hb=>.inr (dr b hb),fun t u hu=>hu.frame MX kb,?_,fun _ _=>rfl⟩⟩;refine ⟨fun b hb=>(eS b hb).elim (fun h=>oe (hI.cC b h) aX) fun h=>h.2,fun i c2 h=>?_,by rw [z7];exact hI.keys,fun b ho hF=>?_,fun i c1 i' p8 b h h' hb aK=>?_,hI.fk.frame MX kb⟩
 ·rcases mY h with ⟨rfl,rfl,_⟩|⟨hi,h2⟩
  ·exact pE Nk (fun _ h=>h) cO.symm eK
  ·exact pD MX kb (fun b hb=>hblk b (hI.fM ⟨i,c2,h2,hb⟩) fun he=>hi (hI.eC i c2 id c b h2 hm hb he)) (hI.holds i c2 h2)
 ·rcases eS b hF with h1|h1
  ·exact hI.apart b (dr b ho) h1
  ·exact absurd (hI.fM (dr b ho)) (me.2 h1.1)
 ·have hx:∃c,(i,c)∈st.H:=by rcases mY h with ⟨_,_,c2,h2⟩|⟨_,h2⟩<;>exact ⟨_,h2⟩
  have hy:∃c,(i',c)∈st.H:=by rcases mY h' with ⟨_,_,c2,h2⟩|⟨_,h2⟩<;>exact ⟨_,h2⟩
  obtain ⟨c2,h2⟩:=hx;obtain ⟨c3,h3⟩:=hy;exact hI.eC i c2 i' c3 b h2 h3 hb aK
def af.freeze {g:Tg} {id E K:Nat} {rows:List (List AV)} {xs:List AV} {st:ae} {k:AV→ae→Prop} (hc:dH id st.H=some (.own E K rows)) (h:af P g (xs.map (sb (.s rows) 2 id)) (Mq id rows st) k):af P g xs st k:=by
 have hm:=eZ hc;refine ⟨h.1,fun w F β vs hI hs hv=>?_⟩
 have hz:∀u,Rd w (fun b=>F b∨bR (β id)=some b) β (.o id) u→Rd w (fun b=>F b∨bR (β id)=some b) β (.s rows) u:=fun u hu=>by
  refine .i (Mr hI hm ?_);obtain ⟨a,n,c,h1,rfl⟩:=hu.jY;exact .o h1
 have up:∀{x u},Rd w F β x u→Rd w (fun b=>F b∨bR (β id)=some b) β x u:=fun h=>h.frame (fun _ _=>rfl) fun _ h=>.inl h
 have lV:Inv w (fun b=>F b∨bR (β id)=some b) β (oA id rows st.H):=by
  refine ⟨fun b hb=>hb.elim (hI.cC b) fun hb=>hI.fM ⟨id,_,hm,hb⟩,fun i c h=>?_,DP hI.keys,fun b ⟨i,c,h,hb⟩ hF=>?_,fun i c i' c' b h h' hb aK=>?_,hI.fk.more fun _ h=>.inl h⟩
  ·obtain ⟨hi,c',h',rfl⟩:=lx h;have hh:=hI.holds i c' h';cases c' with
   |own E' K' r=>exact pE (c:=.own E' K' r) rfl (fun _ h=>.inl h) rfl hh
   |mp ag r=>exact pE (c:=.mp ag r) rfl (fun _ h=>.inl h) rfl hh
   |si s pos=>exact pE (c:=.si s pos) rfl (fun _ h=>.inl h) rfl hh
   |lp l e R L =>
    obtain ⟨fn,tmps,D,hb,yJ,pA,ze⟩:=hh;refine ⟨fn,tmps,D,hb,yJ,pA,fun p hp=>?_⟩;obtain ⟨q,hq,rfl⟩:=c9.1 hp;exact rV hz (fun _ _=>rfl) 2 (up (ze q hq))
   |box cells =>
    obtain ⟨b,cs,e,hb,hh,hs,h1,hr⟩:=hh;refine ⟨b,cs,e,hb,hh,by simpa using hs,fun j hj=>h1 j (by simpa using hj),fun j hj=>?_⟩
    have hj:j<cells.length:=by simpa using hj
    have:(cells.map (sb (.s rows) 1 id)).getD j .χ=sb (.s rows) 1 id (cells.getD j .χ):=by simp [aV,hj]
    rw [this];exact rV hz (fun _ _=>rfl) 1 (up (hr j hj))
  ·obtain ⟨hi,c',h',_⟩:=lx h
   rcases hF with hF|hF
   ·exact hI.apart b ⟨i,c',h',hb⟩ hF
   ·exact hi (hI.eC i c' id _ b h' hm hb hF)
  ·obtain ⟨_,c2,h2,_⟩:=lx h;obtain ⟨_,c3,h3,_⟩:=lx h';exact hI.eC i c2 i' c3 b h2 h3 hb aK
 have y0:∀b,bC β (oA id rows st.H) b→bC β st.H b:=fun b ⟨i,c,h,hb⟩=>by
  obtain ⟨_,c2,h2,_⟩:=lx h;exact ⟨i,c2,h2,hb⟩
 refine (h.2 w _ β vs lV (by simpa using hs) fun i hi=>?_).mono ?_
 ·have hi:i<xs.length:=by simpa using hi
  have:(xs.map (sb (.s rows) 2 id)).getD i .χ=sb (.s rows) 2 id (xs.getD i .χ):=by simp [aV,hi]
  rw [this];exact rV hz (fun _ _=>rfl) 2 (up (hv i hi))
 ·rintro e w' ⟨v,rfl,r,aq,F',av,hk,hr,hx⟩
  refine ⟨v,rfl,r,aq,F',av,hk,hr,hx.os,hx.tape,hx.output,hx.size,fun b hb bp=>hx.block b hb fun ho=>bp (y0 b ho),fun b hb=>hx.mono b (.inl hb),fun b hb=>?_,fun b hb=>(hx.owned b hb).elim .inl fun h=>.inr (y0 b h),
   fun t u hu=>hx.keep t u (rV hz (fun _ _=>rfl) 2 (up hu)),hx.inv,hx.gu⟩
  rcases hx.new b hb with h1|h1|h1
  ·rcases h1 with h1|h1
   ·exact .inl h1
   ·exact .inr (.inr ⟨id,_,hm,h1⟩)
  ·exact .inr (.inl h1)
  ·exact .inr (.inr (y0 b h1))
def Fz.c {H:Hp} {fn:Fn} {fs DQ cs DC:List AV} (h:oj H fs DQ) (h':oj H cs DC):Fz H (.c fn fs cs) (.c fn DQ DC):=fun _ _ _ _ hI hr=>by
 obtain ⟨us,vs,rfl,hs,ew,hu,hv⟩:=hr.nt;obtain ⟨hl,hz⟩:=h.spec;obtain ⟨uP,iS⟩:=h'.spec;exact .c (by omega) (by omega) (fun i hi=>hz i (by omega) _ _ _ _ hI (hu i (by omega))) fun i hi=>iS i (by omega) _ _ _ _ hI (hv i (by omega))
def Fz.b {H:Hp} {id:Nat} {cells:List AV} (h:dH id H=some (.box cells)) (gW:cells.all fp=true):Fz H (.b id 0) (.p cells):=fun w F β u hI hr=>by
 have hm:=eZ h;obtain ⟨eX,hb,rfl⟩:=hr.mz;obtain ⟨b,cs,e,ah,hh,hs,h1,fB⟩:=hI.holds _ _ hm;rw [hb] at ah;cases ah;refine .p (b:=eX) (off:=0) (u:=fun j=>cs.getD j undef) (.inr ⟨id,_,hm,by rw [hb];rfl⟩) (fun j hj=>?_) h1 fun j hj=>?_
 ·rw [jL,cell_of_row w eX _ cs e (0,0) hh];simp [hs,hj]
 ·have:fp (cells.getD j .χ)=true:=ej.1 gW _ (by rw [List.getD_eq_getElem?_getD,bU hj];exact List.getElem_mem _);exact (nQ this (fB j hj)).frame (fun _ _=>rfl) fun _ h=>.inl h
end
end
section
open Go.RowKit
variable [M:bM] [G:cK] [R:dK]
structure Ok (P:Program) (n:Nat) (c:Code) (st:ae) (Q:Exit→ae→Prop):Prop where
 h:∀C:Ctx,C.n=n→Hc P C c st Q
def Wk (s s':ae):Prop:=∀(C:Ctx) (a:Act) (w:World),Rel C s a w→Rel C s' a w
def nx (P:Program) (n:Nat) (y:Code) (Q:Exit→ae→Prop):Exit→ae→Prop:=fun e s=>match e with
 |.normal=>Ok P n y s Q
 |e=>Q e s
def bk (id:Nat) (Q:Exit→ae→Prop):Exit→ae→Prop:=fun e s=>match e with
 |.exit i=>bif aH i id then Q .normal s else Q (.exit i) s
 |e=>Q e s
def jn (s1:ae) (Q:Exit→ae→Prop):Exit→ae→Prop:=fun e s=>match e with
 |.normal=>Wk s s1
 |e=>Q e s
def jnE {σ:Type} (J:σ→ae) (S:σ→Prop) (Q:Exit→ae→Prop):Exit→ae→Prop:=fun e s=>match e with
 |.normal=>∃v,S v∧Wk s (J v)
 |e=>Q e s
section
variable {P:Program} {T:TT} {n:Nat} {st:ae} {Q:Exit→ae→Prop}
def Wk.refl (s:ae):Wk s s:=fun _ _ _ h=>h
def Wk.trans {a b c:ae} (h:Wk a b) (h':Wk b c):Wk a c:=fun C x w hr=>h' C x w (h C x w hr)
def Ok.wk {c:Code} {s':ae} (h:Wk st s') (hc:Ok P n c s' Q):Ok P n c st Q:=⟨fun C hn a w hr=>hc.h C hn a w (h C a w hr)⟩
def Ok.skip (h:Q .normal st):Ok P n .skip st Q:=⟨fun _ _ _ _ hr=>wpIn_skip ⟨st,hr,h⟩⟩
def Ok.label {l:Nat} (h:Q .normal st):Ok P n (.label l) st Q:=⟨fun _ _ _ _ hr=>wpIn_label ⟨st,hr,h⟩⟩
def Ok.exit {id:Nat} (h:Q (.exit id) st):Ok P n (.exit id) st Q:=⟨fun _ _ _ _ hr=>wpIn_exit ⟨st,hr,h⟩⟩
def Ok.ret (h:Q .ret st):Ok P n .ret st Q:=⟨fun _ _ _ _ hr=>wpIn_ret ⟨st,hr,h⟩⟩
def Ok.seq {x y:Code} (h:Ok P n x st (nx P n y Q)):Ok P n (.seq x y) st Q:=⟨fun C hn a w hr=>by
 refine wpIn_seq (wpIn_mono (h.h C hn a w hr) ?_);rintro e a' w' ⟨aq,cJ,hq⟩
 cases e<;>first|exact (show Ok P n y aq Q from hq).h C hn a' w' cJ|exact ⟨aq,cJ,hq⟩⟩
def Ok.bj {x y:Code} (s1:ae) (hx:Ok P n x st (jn s1 Q)) (hy:Ok P n y s1 Q):Ok P n (.seq x y) st Q:=⟨fun C hn a w hr=>by
 refine wpIn_seq (wpIn_mono (hx.h C hn a w hr) ?_);rintro e a' w' ⟨aq,cJ,hq⟩
 cases e<;>first|exact hy.h C hn a' w' ((show Wk aq s1 from hq) C a' w' cJ)|exact ⟨aq,cJ,hq⟩⟩
def Ok.fg {σ:Type} {x y:Code} (J:σ→ae) (S:σ→Prop) (hx:Ok P n x st (jnE J S Q)) (hy:∀v,S v→Ok P n y (J v) Q):Ok P n (.seq x y) st Q:=⟨fun C hn a w hr=>by
 refine wpIn_seq (wpIn_mono (hx.h C hn a w hr) ?_);rintro e a' w' ⟨aq,cJ,hq⟩
 cases e<;>first|(obtain ⟨v,hv,hw⟩:=(show ∃v,S v∧Wk aq (J v) from hq);exact (hy v hv).h C hn a' w' (hw C a' w' cJ))|exact ⟨aq,cJ,hq⟩⟩
def Ok.region {id:Nat} {ops:Array Oper} (hT:bO P T) (h:iV P T n ops ops.toList st (Q .normal)):Ok P n (.region id ops false) st Q :=
 ⟨fun C hn=>QK (C:=C) hT hn (.region id ops false) st Q h⟩
def Ok.draw [MD:qW] [CH:mi] {id m:Nat} {ops:Array Oper} (hT:bO P T) (hm:P.follows .mixedOrders=true) (qh:DH m ops=true)
  (h:sf P T n ops (steady m ops) ⟨preB (eA m ops) (jy (eA m ops) st).f,(jy (eA m ops) st).H⟩ fun st1=>tC P st1.f (ops.toList.take m)∧q6 T n (eA m ops) st1 fun st2=>iV P T n ops (ops.toList.drop m) st2 (Q .normal)):Ok P n (.region id ops true) st Q :=
 ⟨fun C hn=>QK (C:=C) hT hn (.region id ops true) st Q (aaL hT hm qh h)⟩
def Ok.q_ [MD:qW] [CH:mi] {id m:Nat} {late:List Nat} {ops:Array Oper} (hT:bO P T) (hm:P.follows .mixedOrders=true) (qh:HQ m late ops=true)
  (h:sf P T n ops (steady m ops) ⟨preB (eA m ops) (jy (eA m ops) st).f,(jy (eA m ops) st).H⟩ fun st1=>tC P st1.f (ops.toList.take m)∧q6 T n (eA m ops) st1 fun st1=>LJ T ops m st1 fun st2=>qu P T ops st2 late∧iV P T n ops (ops.toList.drop (m+1)) st2 (Q .normal)):Ok P n (.region id ops true) st Q :=
 ⟨fun C hn=>QK (C:=C) hT hn (.region id ops true) st Q (aaM hT hm qh h)⟩
def Ok.cond {d:Nat} {b:Bool} {x y:Code} {ρ:Type} {X Y:Option ρ} {r:ρ} (hb:st.f d=.v (.bool b)) (h:(if b=true then X else Y)=some r)
  (yes:b=true→X=some r→Ok P n x st Q) (no:b=false→Y=some r→Ok P n y st Q):Ok P n (.cond (.tmp d) x y) st Q:=⟨fun C hn a w hr=>by
 have cJ:=hr;obtain ⟨F,β,hs,hd,hf,he⟩:=cJ;have gn:=hf d;rw [hb] at gn;have hv:a.eval (.tmp d)=.bool b:=gn.bN;refine wpIn_cond_split hv (fun ht=>?_) fun ht=>?_
 ·exact (yes ht (by simpa [ht] using h)).h C hn a w hr
 ·exact (no (by simpa using ht) (by simpa [ht] using h)).h C hn a w hr⟩
def Ok.aas {d:Nat} {x y:Code} (hb:st.f d=.v (.bool true)) (h:Ok P n x st Q):Ok P n (.cond (.tmp d) x y) st Q :=
 .cond (ρ:=Unit) (X:=some ()) (Y:=none) (r:=()) hb rfl (fun _ _=>h) fun h=>by cases h
def Ok.aar {d:Nat} {x y:Code} (hb:st.f d=.v (.bool false)) (h:Ok P n y st Q):Ok P n (.cond (.tmp d) x y) st Q :=
 .cond (ρ:=Unit) (X:=none) (Y:=some ()) (r:=()) hb rfl (fun h=>by cases h) fun _ _=>h
def Ok.block {id:Nat} {c:Code} (h:Ok P n c st (bk id Q)):Ok P n (.block id c) st Q:=⟨fun C hn a w hr=>by
 refine wpIn_block (wpIn_mono (h.h C hn a w hr) ?_);rintro e a' w' ⟨aq,cJ,hq⟩;cases e with
 |exit i =>
  have hq:bif aH i id then Q .normal aq else Q (.exit i) aq:=hq;by_cases hi:i=id
  ·subst hi;simp only [iW,cond_true] at hq;simp only [Exit.inBlock,if_true];exact ⟨aq,cJ,hq⟩
  ·have:aH i id=false:=by cases hb:aH i id;rfl;exact absurd (cT hb) hi
   simp only [this,cond_false] at hq;simp only [Exit.inBlock,if_neg hi];exact ⟨aq,cJ,hq⟩
 |_=>exact ⟨aq,cJ,hq⟩⟩
def lp {σ ρ:Type} (J:σ→ae) (x:σ⊕ρ) (Q:Exit→ae→Prop):Exit→ae→Prop:=fun e s=>match e with
 |.normal=>∃v,x=.inl v∧Wk s (J v)
 |e=>Q e s
def Ok.loop {σ ρ:Type} {c:Code} (J:σ→ae) (B:σ→Option (σ⊕ρ)) {r:ρ} {s0:σ} (h:Cat.loop B s0=some r) (h0:Wk st (J s0))
  (round:∀s x,B s=some x→(∀r',x=.inr r'→r'=r)→Ok P n c (J s) (lp J x Q)):Ok P n (.loop c) st Q:=⟨fun C hn a w hr=>by
 obtain ⟨k0,kR⟩:=Jk h
 refine wpIn_loop (fun a w=>∃s k,gO B k s=some r∧Rel C (J s) a w) (fun a w=>by
  classical exact if h:∃k s,(gO B k s=some r∧Rel C (J s) a w)∧∀k' s',gO B k' s'=some r∧Rel C (J s') a w→k≤k' then h.choose else 0) ⟨s0,k0,kR,h0 C a w hr⟩ ?_
 intro a w hex
 have IJ:∃k s,(gO B k s=some r∧Rel C (J s) a w)∧∀k' s',gO B k' s'=some r∧Rel C (J s') a w→k≤k':=by
  obtain ⟨s,k,hi⟩:=hex
  have key:∀m k s,k=m→gO B k s=some r∧Rel C (J s) a w→∃k s,(gO B k s=some r∧Rel C (J s) a w)∧∀k' s',gO B k' s'=some r∧Rel C (J s') a w→k≤k':=by
   intro m;induction m using uk with
   |_ m ih =>
    intro k s hm hi;by_cases US:∃k' s',(gO B k' s'=some r∧Rel C (J s') a w)∧k'<m
    ·obtain ⟨k',s',bm,Φ⟩:=US;exact ih k' Φ k' s' rfl bm
    ·refine ⟨k,s,hi,fun k' s' bm=>?_⟩
     rcases gI k' k with h|h
     ·exact absurd ⟨k',s',bm,hm▸h⟩ US
     ·exact h
  exact key _ k s rfl hi
 obtain ⟨s,⟨hi,iQ⟩,akV⟩:=IJ.choose_spec
 have hk:∃k,IJ.choose=k+1:=by
  cases hc:IJ.choose with
  |zero=>rw [hc] at hi;cases hi
  |succ k=>exact ⟨k,rfl⟩
 obtain ⟨k,hk⟩:=hk;have ry:=hi;rw [hk] at hi
 obtain ⟨x,hx,wz⟩:∃x,B s=some x∧(∀r',x=.inr r'→r'=r)∧∀s',x=.inl s'→gO B k s'=some r:=by
  cases hB:B s with
  |none=>simp [gO,hB] at hi
  |some x =>
   refine ⟨x,rfl,fun r' cJ=>?_,fun s' ew=>?_⟩
   ·subst cJ;simpa [gO,hB] using hi
   ·subst ew;simpa [gO,hB] using hi
 refine wpIn_mono ((round s x hx wz.1).h C hn a w iQ) ?_;rintro e a' w' ⟨aq,cJ,hq⟩;cases e with
 |normal =>
  obtain ⟨v,hv,hwk⟩:=(show ∃v,x=.inl v∧Wk aq (J v) from hq);have jV:=wz.2 v hv;have UO:=hwk C a' w' cJ;refine ⟨⟨v,k,jV,UO⟩,?_⟩;rw [dif_pos IJ,hk];split
  ·rename_i h';obtain ⟨_,_,hm⟩:=h'.choose_spec;exact Nat.lt_succ_of_le (hm k v ⟨jV,UO⟩)
  ·exact Nat.succ_pos _
 |_=>exact ⟨aq,cJ,hq⟩⟩
def ar:List (Nat×AV)→Nat→AV
 |[],_=>.χ
 |(d,x)::r,t=>bif aH t d then x else ar r t
def vM (f:Nat→AV):List (Nat×AV)→Prop
 |[]=>True
 |(d,x)::r=>Le (f d) x∧vM f r
inductive ix:Chunk→Chunk→Prop where
 |refl (c:Chunk):ix c c
 |box {a b:List AV} (h:iM a b):ix (.box a) (.box b)
 |lp {l:Nat} {e:LS} {R:RF} {a b:List (Nat×AV)} (h:∀p,p∈b→∃x,(p.1,x)∈a∧Le x p.2):ix (.lp l e R a) (.lp l e R b)
def ix.holds {w:World} {F:Nat→Prop} {β:Nat→Value} {i:Nat} {c c':Chunk} (h:ix c c') (hc:c.holds w F β i):c'.holds w F β i:=by
 cases h with
 |refl=>exact hc
 |box h =>
  obtain ⟨b,cs,e,ah,hh,hs,h1,hr⟩:=hc;obtain ⟨hl,hz⟩:=h.spec;exact ⟨b,cs,e,ah,hh,by omega,fun j hj=>h1 j (by omega),fun j hj=>hz j (by omega) _ _ _ _ (hr j (by omega))⟩
 |lp h =>
  obtain ⟨fn,tmps,D,ah,hh,hn,hr⟩:=hc;refine ⟨fn,tmps,D,ah,hh,hn,fun p hp=>?_⟩;obtain ⟨x,hx,hz⟩:=h p hp;exact hz _ _ _ _ (hr _ hx)
def xF (H:Hp):Hp→Prop
 |[]=>True
 |(i,c)::r=>(∃c0,dH i H=some c0∧ix c0 c)∧xF H r
def jH:Hp→Bool
 |[]=>true
 |(i,_)::r=>r.all (fun p=>!Nat.beq p.1 i)&&jH r
def zv:∀{H:Hp},jH H=true→(H.map (·.1)).Nodup
 |[],_=>qS
 |(i,c)::r,h=>by
  simp only [jH,bE] at h;simp only [jJ,iw];refine ⟨fun hm=>?_,zv h.2⟩;obtain ⟨x,hx,lF⟩:=c9.1 hm;have:=ej.1 h.1 x hx;rw [lF,iW] at this;cases this
def xF.mem {H:Hp}:∀{H':Hp},xF H H'→∀i c,(i,c)∈H'→∃c0,(i,c0)∈H∧ix c0 c
 |[],_,_,_,hx=>by cases hx
 |(i,c)::r,h,j,d,hx=>by
  rcases bf.1 hx with hx|hx
  ·cases hx;obtain ⟨c0,hc,hl⟩:=h.1;exact ⟨c0,eZ hc,hl⟩
  ·exact xF.mem h.2 j d hx
def XV {w:World} {F:Nat→Prop} {β:Nat→Value} {f:Nat→AV} {g:Nat→Value} (hf:∀t,Rd w F β (f t) (g t)):∀{L:List (Nat×AV)},vM f L→∀t,Rd w F β (ar L t) (g t)
 |[],_,_=>.χ
 |(d,x)::r,h,t=>by
  simp only [ar];cases hb:aH t d with
  |true =>
   obtain rfl:=cT hb;exact h.1 _ _ _ _ (hf t)
  |false=>exact XV hf h.2 t
def Ext.sub {w0:World} {F0:Nat→Prop} {oU:Nat→Value} {oR:ae} {w:World} {F:Nat→Prop} {β:Nat→Value} {H H':Hp} (h:Ext w0 F0 oU oR w F β ⟨aF,H⟩) (bI:∀i c,(i,c)∈H'→∃c0,(i,c0)∈H∧ix c0 c) (hk:(H'.map (·.1)).Nodup):Ext w0 F0 oU oR w F β ⟨aF,H'⟩ where
 os:=h.os
 tape:=h.tape
 output:=h.output
 size:=h.size
 block:=h.block
 mono:=h.mono
 new:=h.new
 owned b hb:=h.owned b (by obtain ⟨i,c,hm,hb⟩:=hb;obtain ⟨c0,h0,_⟩:=bI i c hm;exact ⟨i,c0,h0,hb⟩)
 keep _ _ _:=.χ
 inv:=⟨h.inv.cC,fun i c hm=>by obtain ⟨c0,h0,hl⟩:=bI i c hm;exact hl.holds (h.inv.holds i c0 h0),hk,
  fun b ⟨i,c,hm,hb⟩=>by obtain ⟨c0,h0,_⟩:=bI i c hm;exact h.inv.apart b ⟨i,c0,h0,hb⟩,
  fun i c i' c' b hm bW hb aK=>by
   obtain ⟨c0,h0,_⟩:=bI i c hm;obtain ⟨c1,h1,_⟩:=bI i' c' bW
   exact h.inv.eC i c0 i' c1 b h0 h1 hb aK,h.inv.fk⟩
 gu:=h.gu
def XM.sub {C:Ctx} {ds:List Deferred} {w:World} {F:Nat→Prop} {β:Nat→Value} {H H':Hp} (h:XM C ds w F β H) (bI:∀i c,(i,c)∈H'→∃c0,(i,c0)∈H∧ix c0 c) (hk:(H'.map (·.1)).Nodup):XM C ds w F β H' :=
 h.trans ((Ext.refl (st:=⟨aF,H⟩) h.inv).sub bI hk)
def Wk.tab {L:List (Nat×AV)} {H':Hp} (hL:vM st.f L) (hH:xF st.H H') (hk:jH H'=true):Wk st ⟨ar L,H'⟩:=fun C a w hr=>by
 obtain ⟨F,β,hs,hd,hf,he⟩:=hr;exact ⟨F,β,hs,hd,XV hf hL,he.sub hH.mem (zv hk)⟩
def Ext.OP {w0:World} {F0:Nat→Prop} {oU:Nat→Value} {oR:ae} {w:World} {F:Nat→Prop} {β:Nat→Value} {f:Nat→AV} {H:Hp} (h:Ext w0 F0 oU oR w F β ⟨f,H⟩):Ext w0 F0 oU oR w F β ⟨aF,H⟩ where
 os:=h.os
 tape:=h.tape
 output:=h.output
 size:=h.size
 block:=h.block
 mono:=h.mono
 new:=h.new
 owned:=h.owned
 keep _ _ _:=.χ
 inv:=h.inv
 gu:=h.gu
def Wk.BZ {t id E K:Nat} (Φ:eN id 1000=true) (ht:st.f t=.v (.slice none 0 0)):Wk st ⟨dX (fun t=>er 2 id (st.f t)) t (.o id),(id,.own E K [])::gT id st.H⟩:=fun C a w hr=>by
 obtain ⟨F,β,hs,hd,hf,he⟩:=hr
 have pz:id<1000:=by simpa using Φ
 have hb:Below w.heap.size w w:=Below.refl _ _;have hx:=H4 (st:=⟨aF,st.H⟩) (w':=w) (F':=F) (c:=.own E K []) (v:=.slice none 0 0) pz he.inv hb (fun _ h=>h) (fun _ h=>.inl h) (fun b hb=>by cases hb) (.inl ⟨rfl,none,by simp⟩);have ah:∀i,i≠id→(fun i=>if i=id then Value.slice none 0 0 else β i) i=β i:=fun i hi=>if_neg hi;refine ⟨F,_,hs,hd,fun q=>?_,(he.trans hx).OP⟩;show Rd w F _ (bif aH q t then AV.o id else er 2 id (st.f q)) _;cases hq:aH q t with
 |true =>
  obtain rfl:=cT hq;have h1:=hf q;rw [ht] at h1;rw [cond_true,h1.bN];exact .o (by simp)
 |false=>exact sN ah 2 (hf q)
def Wk.freeze {id E K:Nat} {rows:List (List AV)} (hc:dH id st.H=some (.own E K rows)):Wk st (Mq id rows st):=fun C a w hr=>by
 obtain ⟨F,β,hs,hd,hf,he⟩:=hr;have hI:=he.inv;have hm:=eZ hc
 have hz:∀u,Rd w (fun b=>F b∨bR (β id)=some b) β (.o id) u→Rd w (fun b=>F b∨bR (β id)=some b) β (.s rows) u:=fun u hu=>by
  refine .i (Mr hI hm ?_);obtain ⟨a,n,c,h1,rfl⟩:=hu.jY;exact .o h1
 have up:∀{x u},Rd w F β x u→Rd w (fun b=>F b∨bR (β id)=some b) β x u:=fun h=>h.frame (fun _ _=>rfl) fun _ h=>.inl h
 have lV:Inv w (fun b=>F b∨bR (β id)=some b) β (oA id rows st.H):=by
  refine ⟨fun b hb=>hb.elim (hI.cC b) fun hb=>hI.fM ⟨id,_,hm,hb⟩,fun i c h=>?_,DP hI.keys,fun b ⟨i,c,h,hb⟩ hF=>?_,fun i c i' c' b h h' hb aK=>?_,hI.fk.more fun _ h=>.inl h⟩
  ·obtain ⟨hi,c',h',rfl⟩:=lx h;have hh:=hI.holds i c' h';cases c' with
   |own E' K' r=>exact pE (c:=.own E' K' r) rfl (fun _ h=>.inl h) rfl hh
   |mp ag r=>exact pE (c:=.mp ag r) rfl (fun _ h=>.inl h) rfl hh
   |si s pos=>exact pE (c:=.si s pos) rfl (fun _ h=>.inl h) rfl hh
   |lp l e R L =>
    obtain ⟨fn,tmps,D,hb,yJ,pA,ze⟩:=hh;refine ⟨fn,tmps,D,hb,yJ,pA,fun p hp=>?_⟩;obtain ⟨q,hq,rfl⟩:=c9.1 hp;exact rV hz (fun _ _=>rfl) 2 (up (ze q hq))
   |box cells =>
    obtain ⟨b,cs,e,hb,hh,hs,h1,hr⟩:=hh;refine ⟨b,cs,e,hb,hh,by simpa using hs,fun j hj=>h1 j (by simpa using hj),fun j hj=>?_⟩
    have hj:j<cells.length:=by simpa using hj
    have:(cells.map (sb (.s rows) 1 id)).getD j .χ=sb (.s rows) 1 id (cells.getD j .χ):=by simp [aV,hj]
    rw [this];exact rV hz (fun _ _=>rfl) 1 (up (hr j hj))
  ·obtain ⟨hi,c',h',_⟩:=lx h
   rcases hF with hF|hF
   ·exact hI.apart b ⟨i,c',h',hb⟩ hF
   ·exact hi (hI.eC i c' id _ b h' hm hb hF)
  ·obtain ⟨_,c2,h2,_⟩:=lx h;obtain ⟨_,c3,h3,_⟩:=lx h';exact hI.eC i c2 i' c3 b h2 h3 hb aK
 have y0:∀b,bC β (oA id rows st.H) b→bC β st.H b:=fun b ⟨i,c,h,hb⟩=>by
  obtain ⟨_,c2,h2,_⟩:=lx h;exact ⟨i,c2,h2,hb⟩
 refine ⟨_,β,hs,hd,fun t=>rV hz (fun _ _=>rfl) 2 (up (hf t)),he.trans (f:=aF) (f':=aF) ⟨rfl,jt.refl _,rfl,bG _,fun _ _ _=>rfl,fun b hb=>.inl hb,fun b hb=>hb.elim .inl fun hb=>.inr (.inr ⟨id,_,hm,hb⟩),fun b hb=>.inr (y0 b hb),fun _ _ _=>.χ,lV,fun _ _=>rfl⟩⟩
def Ji {C:Ctx} {fn:Func} {tmps:Array Value} {RR:Ending→World→Prop} {F:Nat→Prop} {β:Nat→Value} {H:Hp} (rq:C.dl=[]):∀(ds:List Deferred) (w:World),XM C ds w F β H →
  (∀w',XM C [] w' F β H→(∀x u,Rd w F β x u→Rd w' F β x u)→LeavesIn gh 0 P fn tmps RR [] .returning w')→LeavesInM gh 0 P fn tmps RR ds .returning w
 |[],w,h,hk=>hk w h fun _ _ hr=>hr
 |d::ds,w,h,hk=>by
  have jT:∀l,C.ms l=l:=fun l=>Ctx.VU rq;obtain ⟨D,h1,h2,h3,h4,h5⟩:=h.m d (by rw [jT];simp);have dJ:=h.nd;rw [jT] at dJ;have Φ:=kF h3;have oG:∀b,b≠D→(w.putObj D (.deferred none)).heap[b]?=w.heap[b]?:=fun b hb=>World.putObj_heap_other hb;have ha:ga F w (w.putObj D (.deferred none)):=fun b hb=>oG b fun e=>h4 (e▸hb);have hI:=h.inv;refine ⟨by simp,.inl ⟨D,_,by rw [h1],run_takeDeferred h3,?_⟩⟩;have lV:Inv (w.putObj D (.deferred none)) F β H:=⟨fun b hb=>by rw [j4];exact hI.cC b hb,fun i c hm=>pD ha (fun _ h=>h) (fun b hb=>oG b fun e=>h5 (e▸⟨i,c,hm,hb⟩)) (hI.holds i c hm),hI.keys,hI.apart,hI.eC,hI.fk.at ha⟩;have hx:=h.x;refine Ji rq ds _ ⟨⟨hx.os,hx.tape,hx.output,by rw [j4];exact hx.size,fun b hb hn=>(oG b (by omega)).trans (hx.block b hb hn),hx.mono,hx.new,hx.owned,fun _ _ _=>.χ,lV,hx.gu⟩,fun d' bH=>?_,by rw [jT];exact (iw.1 dJ).2,⟨ds,by rw [rq];simp⟩⟩ fun w' oM cJ=>hk w' oM fun x u hr=>cJ x u (hr.frame ha fun _ h=>h);rw [jT] at bH;obtain ⟨D',g1,g2,g3,g4,g5⟩:=h.m d' (by rw [jT];simp [bH]);exact ⟨D',g1,g2,(oG D' fun e=>(iw.1 dJ).1 (by rw [h1,←e,←g1];exact bH)).trans g3,g4,g5⟩
def HD {g:Nat} {fn:Func} {c:Code} {args:List AV} {H:Hp} {R0:AV→ae→Prop} {w:World} {F:Nat→Prop} {β:Nat→Value} (hT:bO P T) (dE:P.funcs[g]?=some fn) (hb:fn.body=some c) (hn:fn.ntmps=n) (hle:args.length≤n)
  (h:Ok P n c ⟨kW args,H⟩ (sQ T fn.results.toList R0)) {vs:Array Value} (hI:Inv w F β H) (hs:vs.size=args.length) (hv:∀i,i<args.length→Rd w F β (args.getD i .χ) (vs.getD i undef)) :
  Calls P g vs w fun e w'=>∃v,e=.returned v∧∃x st F' av,R0 x st∧Rd w' F' av x v∧Ext w F β ⟨aF,H⟩ w' F' av ⟨aF,st.H⟩:=by
 refine callsIn_wide.1 (callsIn_of_wp_marks (F:=gh) (n:=0) dE hb trivial ?_);let C:Ctx:=⟨w,F,β,H,n,none,.inl rfl,[]⟩;have hr:Rel C ⟨kW args,H⟩ { tmps:=vs++oc (fn.ntmps-vs.size) undef,defers:=[] } w :=
  ⟨F,β,by simp [C,hn];omega,trivial,Oh hs hv,⟨Ext.refl hI,fun d hd=>(eJ hd).elim,qS,⟨[],rfl⟩⟩⟩
 have fin:∀(st:ae) (a':Act) (w':World),Rel C st a' w'→qC T fn.results.toList st (fun x=>R0 x st)→LeavesInM gh 0 P fn a'.tmps (fun e w'=>∃v,e=.returned v∧∃x st F' av,R0 x st∧Rd w' F' av x v∧Ext w F β ⟨aF,H⟩ w' F' av ⟨aF,st.H⟩) a'.defers .returning w':=fun st a' w' ⟨F',av,_,_,hf,he⟩ hq =>
  Ji rfl a'.defers w' he fun sd fw cJ=>by
   obtain ⟨v,x,aY,hk,hx⟩:=J8 (P:=P) (st:=st) hT fw.inv (fun t=>cJ _ _ (hf t)) hq;exact ⟨v,aY,v,rfl,x,st,F',av,hk,hx,fw.x⟩
 refine wpIn_mono (h.h C rfl _ w hr) ?_;rintro e a' w' ⟨st,iQ,hq⟩;cases e with
 |normal=>exact fin st a' w' iQ hq
 |ret=>exact fin st a' w' iQ hq
 |exit id=>exact hq.elim
 |goto l=>exact hq.elim
 |panic ch=>exact hq.elim
 |outgrown=>exact hq.elim
def age {g : Nat} {fn : Func} {c : Code} {args : List AV} {r : AV} (hT : bO P T) (dE : P.funcs[g]? = some fn) (dN : (fn.name == "runtime.NumGoroutine") = false) (hb : fn.body = some c) (hn : fn.ntmps = n) (hle : args.length ≤ n)
  (h:Ok P n c ⟨kW args,[]⟩ (sQ T fn.results.toList fun x st=>Fz st.H x r)):Pure P g args r:=by
 refine ⟨⟨fn,c,dE,dN,hb⟩,fun w F β vs hI hs hv=>?_⟩;refine (HD hT dE hb hn hle h hI hs hv).mono ?_;rintro e w' ⟨v,rfl,x,st,F',av,hz,hx,he⟩
 have bp:∀b,¬bC β ([]:Hp) b:=by rintro b ⟨id,c,hm,_⟩;cases hm
 refine ⟨v,rfl,⟨he.os,he.tape,he.output,he.size,fun b aK=>he.block b aK (bp b)⟩,?_⟩;refine (hz w' F' av v he.inv hx).frame (fun _ _=>rfl) fun b aK=>?_
 rcases aK with aK|aK
 ·rcases he.new b aK with h1|h1|h1
  ·exact .inl h1
  ·exact .inr ⟨h1,he.inv.cC b aK⟩
  ·exact (bp b h1).elim
 ·rcases he.owned b aK with h1|h1
  ·exact .inr ⟨h1,he.inv.fM aK⟩
  ·exact (bp b h1).elim
def agd {g E K : Nat} {fn : Func} {c : Code} {args : List AV} {rows : List (List AV)} (hT : bO P T) (dE : P.funcs[g]? = some fn) (dN : (fn.name == "runtime.NumGoroutine") = false) (hb : fn.body = some c) (hn : fn.ntmps = n) (hle : args.length ≤ n)
  (h:Ok P n c ⟨kW args,[]⟩ (sQ T fn.results.toList (Ly E K rows))):iZ P g args E K rows:=by
 refine ⟨⟨fn,c,dE,dN,hb⟩,fun w F β vs hI hs hv=>?_⟩;refine (HD hT dE hb hn hle h hI hs hv).mono ?_;rintro e w' ⟨v,rfl,x,st,F',av,hz,hx,he⟩
 have bp:∀b,¬bC β ([]:Hp) b:=by rintro b ⟨id,c,hm,_⟩;cases hm
 refine ⟨v,rfl,⟨he.os,he.tape,he.output,he.size,fun b aK=>he.block b aK (bp b)⟩,F',he.mono,fun b aK=>?_,?_⟩
 ·rcases he.new b aK with h1|h1|h1
  ·exact .inl h1
  ·exact .inr ⟨h1,he.inv.cC b aK⟩
  ·exact (bp b h1).elim
 ·rcases hz with ⟨rfl,rfl⟩|⟨id,rfl,hc⟩
  ·rw [hx.bN];exact ⟨.inl ⟨rfl,none,rfl⟩,⟨_,_,_,rfl⟩,fun b aK=>by cases aK⟩
  ·obtain ⟨a,m,cp,ah,rfl⟩:=hx.jY;have hm:=eZ hc;refine ⟨JB (he.inv.holds _ _ hm) _ _ ah.symm,⟨_,_,_,rfl⟩,fun b aK=>?_⟩;have ho:bC av st.H b:=⟨id,_,hm,by rw [ah];exact aK⟩;refine ⟨?_,he.inv.apart b ho⟩
   rcases he.owned b ho with h1|h1
   ·exact h1
   ·exact (bp b h1).elim
def qx {g : Nat} {fn : Func} {c : Code} {args : List AV} {ch : Chunk} {R1 : AV → Chunk → Prop} (hT : bO P T) (dE : P.funcs[g]? = some fn) (dN : (fn.name == "runtime.NumGoroutine") = false) (hb : fn.body = some c) (hn : fn.ntmps = n) (hle : args.length ≤ n)
  (h:Ok P n c ⟨kW args,[(1000,ch)]⟩ (sQ T fn.results.toList (ZU R1))):mq P g args ch R1:=by
 refine ⟨⟨fn,c,dE,dN,hb⟩,fun w F β vs hI hs hv=>?_⟩;refine (HD hT dE hb hn hle h hI hs hv).mono ?_;rintro e w' ⟨v,rfl,x,st,F',av,⟨r,c',hR,eK,gW,hz⟩,hx,he⟩;have hm:=eZ eK;have Nr:av 1000=β 1000:=he.gu 1000 (bG _);have A8:=he.inv.ow 1000
 have NH:∀b,bC β [(1000,ch)] b↔bR (β 1000)=some b:=fun b=>⟨fun ⟨i,c,hm,hb⟩=>by
  simp only [dC,il] at hm;rw [←hm.1];exact hb,fun hb=>⟨1000,ch,by simp,hb⟩⟩
 have acA:∀b,bR (β 1000)=some b→bC av st.H b:=fun b hb=>⟨1000,c',hm,by rw [Nr];exact hb⟩;refine ⟨v,rfl,r,c',fun b=>F' b∨bC av (ow 1000 st.H) b,hR,hz w' F' av v A8 hx,he.os,he.tape,he.output,he.size,fun b aK aP=>he.block b aK fun ho=>aP ((NH b).1 ho),fun b hb=>.inl (he.mono b hb),fun b hb=>?_,gW,?_⟩
 ·rcases hb with hb|⟨i,ci,rD,hb⟩
  ·rcases he.new b hb with h1|h1|h1
   ·exact .inl h1
   ·exact .inr ⟨h1,he.inv.cC b hb⟩
   ·exact absurd hb (he.inv.apart b (acA b ((NH b).1 h1)))
  ·have ho:bC av st.H b:=⟨i,ci,(v8.1 rD).1,hb⟩
   rcases he.owned b ho with h1|h1
   ·exact .inr ⟨h1,he.inv.fM ho⟩
   ·exact absurd (he.inv.eC i ci 1000 c' b (v8.1 rD).1 hm hb (by rw [Nr];exact (NH b).1 h1)) (v8.1 rD).2
 ·exact pE gW (fun _ h=>.inl h) Nr.symm (he.inv.holds _ _ hm)
end
instance ale:dK:=dK.no
end
section
open Go.RowKit
variable [M:bM] [G:cK] [R:dK]
local instance ak8:qW:=⟨[]⟩
local instance ak5:mi:=⟨[]⟩
def HE (ops:Array Oper) (i:Nat) (o:Oper):Bool :=
 match o.dst with
 |none=>true
 |some d=>eN d 1000&&(gw ops.size).all fun j=>i==j||((ops[j]?).bind (·.dst)) != some d
def L0 (ops:Array Oper) (i:Nat) (o:Oper):Bool :=
 (o.looksAt ops).all fun t=>(gw ops.size).all fun j=>match ops[j]? with
  |none=>true
  |some o'=>(o'.dst != some t)||iN ops i j
def uC (chain:List (Nat×List Nat)) (ops:Array Oper):List Nat:=(gw ops.size).filter fun i=>!(chain.any fun c=>aH c.1 i)
def p_ (chain:List (Nat×List Nat)) (ops:Array Oper):List (Nat×List Nat)→Bool
 |[]=>true
 |c::r=>eN c.1 ops.size&&((match ops[c.1]? with|some _=>true|none=>false)&&(((uC chain ops).all fun i=>iN ops c.1 i||c.2.elem i)&&((match r with|[]=>true|c'::_=>iN ops c'.1 c.1)&&p_ chain ops r)))
def Sa (chain:List (Nat×List Nat)) (ops:Array Oper):Bool :=
 ((gw ops.size).all fun i=>match ops[i]? with
  |none=>true
  |some o=>yb i o&&(uz ops i o&&(HE ops i o&&L0 ops i o)))&&(p_ chain ops chain&&((uC chain ops).all fun i=>match ops[i]? with|some o=>o.dst.isSome|none=>true))
def H7 (chain:List (Nat×List Nat)) (ops:Array Oper):List Oper:=(uC chain ops).filterMap fun i=>ops[i]?
def Sb (P:Program) (T:TT) (n:Nat) (ops:Array Oper):List (Nat×List Nat)→ae→(ae→Prop)→Prop
 |[],st,K=>K st
 |c::r,st,K=>match ops[c.1]? with
  |some o=>gd n ops o st (fun st=>step P T o st fun x aq=>put n o.dst aq x fun fO=>qu P T ops fO c.2∧Sb P T n ops r fO K) fun st=>put n o.dst st (.v undef) fun fO=>qu P T ops fO c.2∧Sb P T n ops r fO K
  |none=>False
section
variable {P:Program} {T:TT} {C:Ctx}
structure Hg (C:Ctx) (ops:Array Oper) (m:Nat) (fA:Nat→AV) (Hm:Hp) (listed:Array Bool) (a:Act) (w:World):Prop where
 ex:∃F β,a.tmps.size=C.n∧True∧XM C a.defers w F β Hm ∧
  (∀t,(∀i o,i<m→ops[i]?=some o→o.dst=some t→listed.getD i false=true)→Rd w F β (fA t) (a.tmps.getD t undef))
def abH {ops:Array Oper} {m i n:Nat} {o:Oper} {fe:Nat→AV} {Hm:Hp} {listed:Array Bool} {a:Act} {w:World} {Q:Exit→Act→World→Prop} {N:Act→World→Prop}
  (hT:bO P T) (hn:C.n=n) (aX:listed.size=ops.size) (ho:ops[i]?=some o)
  (Bt:∀t j o',j<m→t∈o.looksAt ops→ops[j]?=some o'→o'.dst=some t→listed.getD j false=true)
  (bX:vO P T ops Hm fe o) (Φ:∀d,o.dst=some d→d<n) (h:Hg C ops m fe Hm listed a w)
  (hN:∀a w,Hg C ops m fe Hm (listed.setIfInBounds i true) a w→N a w):wpOpIn (fQ C.ro) 0 P ops Q i N a w:=by
 obtain ⟨F,β,hs,hd,he,hf⟩:=h.ex;obtain ⟨d,fo,bX⟩:=bX
 have yD:d<a.tmps.size:=by rw [hs,hn];exact Φ d fo
 have eL:i<listed.size:=by rw [aX];exact (lj.1 ho).1
 have look:∀t,t∈o.looksAt ops→Rd w F β (fe t) (a.tmps.getD t undef):=fun t ht=>hf t fun j o' hj aB bH=>Bt t j o' hj ht aB bH
 have rR:∀x,x∈o.op.operands→Rd w F β (ev fe x) (a.eval x):=fun x hx=>by
  cases x with
  |tmp t=>exact look t (qR _ (ma.2 ⟨.tmp t,by simpa using hx,rfl⟩))
  |const v=>exact nV _ _ _ _
  |global g=>exact .χ
  |func g=>exact .i (.c rfl rfl (fun i hi=>absurd hi (by simp)) (fun i hi=>absurd hi (by simp)))
 have hI:Inv w F β Hm:=he.inv
 have done:∀(v:Value) (w':World),Below w.heap.size w w'→Rd w' (fG F w w') β (fe d) v→Hg C ops m fe Hm (listed.setIfInBounds i true) (a.put (some d) v) w':=fun v w' hb hv=>by
  have hx:=wa (st:=⟨aF,Hm⟩) he.inv hb;refine ⟨fG F w w',β,by simpa [iL] using hs,hd,he.trans hx,fun t ht=>?_⟩;by_cases pH:t=d
  ·subst pH;simpa [iL,yD] using hv
  ·have h1:=(hf t fun j o' hj aB bH=>by
    have:=ht j o' hj aB bH;rw [fF eL] at this;split at this
    ·rename_i e;subst e;rw [ho] at aB;cases aB;rw [fo] at bH;cases bH;exact absurd rfl pH
    ·exact this).later hb he.inv.cC
   simpa [iL,xm (j3 pH)] using h1
 have run:(nY P T o (ev fe) Hm fun r=>r=fe d)→o.wpIn (fQ C.ro) 0 P a w N Q:=fun hs=>by
  have dJ:=XN hs
  rcases XO hT hI rR hs with ⟨v,w',aY,hb,r,rfl,hv⟩|⟨g,vs,aY,hc⟩
  ·refine Oper.kj dJ aY ?_;rw [xy,fo];exact hN _ _ (done v w' hb hv)
  ·refine Oper.kj dJ aY ?_;rw [AE];refine ⟨fun h=>(by cases h),vV (hc.mono ?_)⟩;rintro e w' ⟨v,rfl,hb,r,rfl,hv⟩;rw [fo];exact hN _ _ (done v w' hb hv)
 have skip:fe d=.v undef→N (a.put o.dst undef) w:=fun h0=>by
  rw [fo];exact hN _ _ (done undef w (Below.refl _ _) (by rw [h0];exact .i (.v (.inr rfl))))
 unfold wpOpIn;simp only [ho];cases hg:o.guard with
 |none =>
  rw [hg] at bX
  have hw:dU o (yielded ops a.tmps)=true:=by simp [dU,hg]
  rw [if_pos hw];exact run bX
 |some jw =>
  obtain ⟨j,want⟩:=jw;rw [hg] at bX;obtain ⟨g,et,bX⟩:=bX
  have uM:g∈o.looksAt ops:=by
   refine vE _ ?_;rw [hg];simp [et]
  have pk:=look g uM
  have hy:∀v,v≠undef→a.tmps.getD g undef=v→yielded ops a.tmps j=match v with|.bool b=>some b|_=>none:=by
   intro v aP hv
   have h2:a.tmps[g]?=some v:=by
    by_cases hl:g<a.tmps.size
    ·rw [←hv];simp [hl]
    ·exact absurd (by rw [←hv];simp [hl]) aP
   unfold yielded;rw [et,cD,h2];cases v<;>rfl
  rcases bX with ⟨h1,h2⟩|⟨h1,h2⟩|⟨⟨vs,h1⟩,h2⟩
  ·rw [h1] at pk;have g_:=hy _ (by simp [undef]) pk.bN
   have hw:dU o (yielded ops a.tmps)=true:=by simp [dU,hg,g_]
   rw [if_pos hw];exact run h2
  ·rw [h1] at pk;have g_:=hy _ (by simp [undef]) pk.bN
   have hw:¬dU o (yielded ops a.tmps)=true:=by simp [dU,hg,g_]
   rw [if_neg hw];exact ⟨fun _ _=>trivial,skip h2⟩
  ·rw [h1] at pk;have hv:=pk.bN
   have g_:yielded ops a.tmps j=none:=by
    unfold yielded;rw [et,cD];by_cases hl:g<a.tmps.size
    ·have h3:a.tmps[g]?=some (.tuple vs):=by rw [←hv];simp [hl]
     rw [h3]
    ·simp [Y4 (Nat.le_of_not_lt hl)]
   have hw:¬dU o (yielded ops a.tmps)=true:=by simp [dU,hg,g_]
   rw [if_neg hw];exact ⟨fun _ _=>trivial,skip h2⟩
def Jm {chain:List (Nat×List Nat)} {ops:Array Oper} {i:Nat}:i∈uC chain ops↔i<ops.size∧∀c,c∈chain→c.1≠i:=by
 unfold uC;rw [ek,mc];refine and_congr_right fun _=>?_;simp only [Bool.not_eq_true',List.any_eq_false];refine ⟨fun h c hc e=>h c hc (by rw [e];exact iW _),fun h c hc e=>h c hc (cT e)⟩
end
end
end Go.Cat
