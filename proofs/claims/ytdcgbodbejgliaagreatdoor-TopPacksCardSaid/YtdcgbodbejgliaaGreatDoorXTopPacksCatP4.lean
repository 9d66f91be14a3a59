/- The logic that the walks are in, piece P4. No condition. -/
import Derived.Test.YtdcgbodbejgliaaGreatDoorXTopPacksCatP3
import Derived.ProofKit
open Array renaming getElem?_eq_getElem → gz, getElem?_eq_some_iff → lB, getD_eq_getD_getElem? → lA, length_toList → lR, getElem?_setIfInBounds_ne → xA, replicate → og, toList_setIfInBounds → ZI, getElem?_replicate → ZG, getElem?_eq_none → ZE, mem_map → al6
open Bool renaming and_eq_true → bJ, or_eq_true → ug
open Classical renaming byContradiction → xC
open Go.Act renaming put → iM
open Go.Call renaming operands → qH
open Go.DataW renaming trod → C4, TrodAll → Lj, trod_step → Rw, trodStep → Rv
open Go.Deferred renaming ofValue → mg
open Go.Fence renaming wide → gl
open Go.Op renaming operands → uo
open Go.OpenSpec renaming ofChange → aad
open Go.Oper renaming uponIn_value → xK, uponIn_enter → Ax
open Go.Region renaming wanted → dW, binds → jK, ready → lY
open Go.Value renaming okWide → Dh, pointer → R3
open Go.World renaming putObj_size → j5, cells?_some → R5
open List renaming getElem?_eq_getElem → bF, mem_cons_of_mem → cj, mem_cons → bj, getD → aV, mem_singleton → dB, length_take → dN, mem_map → dq, mem_filter → eD, all_eq_true → ej, not_mem_nil → eJ, getElem?_append → gK, replicate → il, nodup_cons → ix, range → gA, map_cons → jI, mem_filterMap → mi, drop_eq_nil_of_le → qK, mem_range → mq, drop_eq_getElem_cons → sa, mem_append_left → qM, nodup_nil → qO, append_nil → qJ, eq_nil_iff_forall_not_mem → Av, mem_append_right → vH, take_append_drop → xH, mem_iff_getElem → Da, map_congr_left → Lt, getElem_take → G7, count_eq_zero → Z2, drop_drop → al5
open Nat renaming eq_of_beq_eq_true → cW, beq → aH, le_refl → bG, add_mul → bM, lt_or_ge → gP, blt → eO, blt_eq → gO, zero_add → jJ, beq_refl → iY, lt_of_lt_of_le → oh, not_lt → mr, strongRecOn → uk
open Ne renaming symm → j4
open Option renaming bind_some → cm, map_eq_some_iff → De, bind_eq_some_iff → aaf
open Prod.mk renaming injEq → im
namespace Go.Cat
set_option linter.all false
section
open Go.RowKit
variable [M:cM] [G:dX]
class sl where
 md:List Nat
class nv where
 ch:List (Nat×Chunk)
def dY [MD:sl] (o:Oper):Option (Nat×Option Nat) :=
 match o.op,o.dst,o.guard with
 |.alloc t,some d,none=>some (d,some t)
 |.call _,some d,none=>bif MD.md.elem d then some (d,none) else none
 |_,_,_=>none
def zz [MD:sl] (o:Oper):Bool :=
 match dY o with
 |some (_,some _)=>true
 |_=>false
def w8 (d:Nat):Chunk→AV
 |.box _=>.b d 0
 |.own ..=>.o d
 |.mp ..=>.m d
 |.lp ..=>.χ
 |.si ..=>.b d 0
def w9:List (Nat×Chunk)→Nat→Option Chunk
 |[],_=>none
 |(i,c)::r,d=>bif aH d i then some c else w9 r d
def jy:List (Nat×Option Nat)→ah→ah
 |[],st=>st
 |(d,_)::r,st=>jy r ⟨fun t=>er 2 d (st.f t),gY d st.H⟩
def xe [CH:nv] (d:Nat):Bool:=match w9 CH.ch d with|some (.own ..)=>true|_=>false
def preB [CH:nv]:List (Nat×Option Nat)→(Nat→AV)→Nat→AV
 |[],f=>f
 |(d,none)::r,f=>preB r (bif xe d then dZ f d (.o d) else f)
 |(_,some _)::r,f=>preB r f
def Fw [CH:nv] {t:Nat}:∀{l:List (Nat×Option Nat)} {f:Nat→AV},(∀x,(t,x)∉l)→preB l f t=f t
 |[],f,_=>rfl
 |(d,none)::r,f,h=>by
  have aQ:t≠d:=fun e=>h none (by rw [e];exact List.mem_cons_self ..);unfold preB;rw [Fw fun x hx=>h x (cj _ hx)]
  have hb:aH t d=false:=by
   cases h':aH t d with
   |false=>rfl
   |true=>exact absurd (cW h') aQ
  cases xe d with
  |true=>show (bif aH t d then _ else _)=_;rw [hb];rfl
  |false=>rfl
 |(d,some y)::r,f,h=>by
  unfold preB;exact Fw fun x hx=>h x (cj _ hx)
def JT [CH:nv] {t:Nat} (hp:xe t=true):∀{l:List (Nat×Option Nat)} {f:Nat→AV},(l.map (·.1)).Nodup→(t,none)∈l→preB l f t=.o t
 |(d,none)::r,f,hn,hm=>by
  rw [jI,ix] at hn;unfold preB;by_cases e:t=d
  ·subst e;rw [hp,Fw fun x hx=>hn.1 (dq.2 ⟨(t,x),hx,rfl⟩)];show (bif aH t t then _ else _)=_;rw [iY];rfl
  ·exact JT hp hn.2 ((bj.1 hm).resolve_left fun h=>e (by cases h;rfl))
 |(d,some y)::r,f,hn,hm=>by
  rw [jI,ix] at hn;unfold preB;exact JT hp hn.2 ((bj.1 hm).resolve_left fun h=>by cases h)
def qU [CH:nv] (T:TT) (n:Nat):List (Nat×Option Nat)→ah→(ah→Prop)→Prop
 |[],st,K=>K st
 |(d,some t)::r,st,K=>match T t with
  |some i=>bif jo (cd i.zero)&&eO d n then qU T n r ⟨dZ st.f d (.b d 0),(d,.box (bz (cd i.zero)))::st.H⟩ K else False
  |none=>False
 |(d,none)::r,st,K=>match w9 CH.ch d with
  |some c=>bif eO d n then qU T n r ⟨dZ st.f d (w8 d c),(d,c)::st.H⟩ K else False
  |none=>False
def lD [CH:nv] (T:TT) (d:Nat) (x:Option Nat) (c:Chunk):Prop :=
 match x with
 |some t=>∃z,T t=some z∧jo (cd z.zero)=true∧c=.box (bz (cd z.zero))
 |none=>w9 CH.ch d=some c
def lD.uniq [CH:nv] {T:TT} {d:Nat} {x:Option Nat} {c c':Chunk} (h:lD T d x c) (h':lD T d x c'):c=c':=by
 cases x with
 |some t =>
  obtain ⟨z,h1,_,rfl⟩:=h;obtain ⟨z',nE,_,rfl⟩:=h';rw [h1] at nE;cases nE;rfl
 |none =>
  unfold lD at h h';simp only at h h';rw [h] at h';exact Option.some.inj h'
def LP (P:Program) (g:FuncId) (args:List AV) (c:Chunk):Prop :=
 p7 P g∧∀(w:World) (F:Nat→Prop) (β:Nat→Value) (vs:Array Value),Inv w F β []→vs.size=args.length→(∀i,i<args.length→Rd w F β (args.getD i .χ) (vs.getD i undef)) →
  Calls P g vs w fun e w'=>∃v,e=.returned v∧Below w.heap.size w w'∧∃F',(∀b,F b→F' b)∧(∀b,F' b→fF F w w' b)∧(∀av i,av i=v→c.holds w' F' av i∧Rd w' F' av (w8 i c) v) ∧
   ∀b,bP v=some b→w.heap.size≤b∧¬F' b
def Hi (P:Program) (f:Nat→AV) (o:Oper) (c:Chunk):Prop :=
 match o.op with
 |.call q=>match q.callee with
  |.value x=>match ev f x with
   |.c (.func g) fs cs=>∃ys,LP P g ys c∧iz (fs++(q.args.toList.map (ev f)++cs)) ys
   |_=>False
  |_=>False
 |_=>False
def tp [MD:sl] [CH:nv] (P:Program) (f:Nat→AV):List Oper→Prop
 |[]=>True
 |o::r=>match dY o with
  |some (d,none)=>(match w9 CH.ch d with
   |some c=>Hi P f o c
   |none=>False)∧tp P f r
  |_=>tp P f r
def Jq [MD:sl] [CH:nv] {P:Program} {f:Nat→AV} {o:Oper} {d:Nat}:∀{l:List Oper},tp P f l→o∈l→dY o=some (d,none)→∃c,w9 CH.ch d=some c∧Hi P f o c
 |[],_,h,_=>by cases h
 |p::r,hl,h,ha=>by
  rcases bj.1 h with rfl|h
  ·simp only [tp,ha] at hl;have h1:=hl.1;split at h1
   ·rename_i c hc;exact ⟨c,hc,h1⟩
   ·exact h1.elim
  ·simp only [tp] at hl;split at hl
   ·exact Jq hl.2 h ha
   ·exact Jq hl h ha
def PB (T:TT) (t t':Nat) (s x:AV) (H:Hp) (k:AV→Prop):Prop :=
 match T t with
 |some i=>match i.kind with
  |.slice e=>match T e with
   |some j =>
    bif aH j.bytes 0||(aH j.cells 0||!(aH j.zero.cells.size j.cells)) then False else
    bif (match s with|.v (.slice none 0 0)=>true|.z=>true|_=>false) then
     Dp T t t' e x 5000 H fun bR=>o9 bR j.cells∧bR.length*j.bytes≤140737488355328∧∃R,bR=R∧k (.s R)
    else False
   |none=>False
  |_=>False
 |none=>False
def n_ (P:Program) (T:TT) (o:Oper) (ρ:Operand→AV) (H:Hp) (k:AV→Prop):Prop :=
 match o.op with
 |.buildSlice t n parts=>match n with
  |0=>z7 T t 0 (parts.toList.map fun q=>(q.1,ρ q.2)) fun _ _ _=>k .z
  |n+1=>z7 T t (n+1) (parts.toList.map fun q=>(q.1,ρ q.2)) fun rows _ _=>bif rows.all (fun r=>r.all fu) then k (.s (rows.map fun r=>r.map nz)) else False
 |.call c=>match c.callee with
  |.builtin .append=>match c.argTypes.toList,c.args.toList.map ρ with
   |[t,t'],[s,x]=>PB T t t' s x H k
   |_,_=>False
  |_=>ni P T o ρ H k
 |_=>ni P T o ρ H k
def rX (P:Program) (T:TT) (n:Nat) (all:Array Oper):List Oper→ah→(ah→Prop)→Prop
 |[],st,K=>K st
 |o::os,st,K=>gd n all o st (fun st=>∃r,n_ P T o (ev st.f) st.H (fun r'=>r'=r)∧put n o.dst st r fun au=>rX P T n all os au K) fun st=>put n o.dst st (.v undef) fun au=>rX P T n all os au K
section
variable {P:Program} {T:TT} {w:World} {F:Nat→Prop} {β av:Nat→Value} {H:Hp}
def Yn {o:Oper} {ρ pW:Operand→AV} {k:AV→Prop} (h:∀x,x∈o.op.operands→ρ x=pW x) (hs:ni P T o ρ H k):ni P T o pW H k:=by
 obtain ⟨dst,op,type,pos,after,guard⟩:=o;have parts:∀ps:Array (Nat×Operand),(∀x,x∈ps.map (·.2)→ρ x=pW x)→(ps.toList.map fun q=>(q.1,ρ q.2))=ps.toList.map fun q=>(q.1,pW q.2):=fun ps hp =>
  Lt fun q hq=>by rw [hp q.2 (al6.2 ⟨q,by simpa using hq,rfl⟩)]
 have E5:∀xs:Array Operand,(∀x,x∈xs→ρ x=pW x)→xs.toList.map ρ=xs.toList.map pW:=fun xs hp=>Lt fun x hx=>hp x (by simpa using hx);cases op<;>simp only [uo] at h<;>simp only [ni] at hs ⊢
 case build t ps=>rwa [←parts ps fun x hx=>h x (by simpa using hx)]
 case buildSlice t n ps=>rwa [←parts ps fun x hx=>h x (by simpa using hx)]
 case makeFunc fn fs cs=>rwa [←E5 fs fun x hx=>h x (by simp [hx]),←E5 cs fun x hx=>h x (by simp [hx])]
 case slice t x lo hi mx=>cases lo<;>cases hi<;>cases mx<;>simp_all
 case call c =>
  obtain ⟨callee,args,argTypes⟩:=c;have ha:=E5 args fun x hx=>h x (by simp [qH,hx]);cases callee with
  |builtin b=>simp only at hs ⊢;rwa [←ha]
  |value f=>simp only at hs ⊢;rwa [←ha,←h f (by simp [qH])]
  |invoke r m=>exact hs
 all_goals first|exact hs|(simp_all;done)
def Yk {o:Oper} {ρ pW:Operand→AV} {k:AV→Prop} (h:∀x,x∈o.op.operands→ρ x=pW x) (hs:n_ P T o ρ H k):n_ P T o pW H k:=by
 obtain ⟨dst,op,type,pos,after,guard⟩:=o;have parts:∀ps:Array (Nat×Operand),(∀x,x∈ps.map (·.2)→ρ x=pW x)→(ps.toList.map fun q=>(q.1,ρ q.2))=ps.toList.map fun q=>(q.1,pW q.2):=fun ps hp =>
  Lt fun q hq=>by rw [hp q.2 (al6.2 ⟨q,by simpa using hq,rfl⟩)]
 have E5:∀xs:Array Operand,(∀x,x∈xs→ρ x=pW x)→xs.toList.map ρ=xs.toList.map pW:=fun xs hp=>Lt fun x hx=>hp x (by simpa using hx);cases op
 case buildSlice t n ps =>
  cases n with
  |zero=>simp only [n_] at hs ⊢;rwa [←parts ps fun x hx=>h x (by simpa [uo] using hx)]
  |succ n=>simp only [n_] at hs ⊢;rwa [←parts ps fun x hx=>h x (by simpa [uo] using hx)]
 case call c =>
  obtain ⟨callee,args,argTypes⟩:=c;have ha:=E5 args fun x hx=>h x (by simp [uo,qH,hx]);have old:=Yn (P:=P) (T:=T) (k:=k) (H:=H) (o:=⟨dst,.call ⟨callee,args,argTypes⟩,type,pos,after,guard⟩) h;cases callee with
  |builtin b=>cases b<;>first|exact old hs|(simp only [n_] at hs ⊢;rwa [←ha])
  |value f=>exact old hs
  |invoke r m=>exact old hs
 all_goals exact Yn (P:=P) (T:=T) (H:=H) (k:=k) h hs
def ag' {t t':Nat} {s x:AV} {vs vx:Value} {k:AV→Prop} (hT:bL P T) (hI:Inv w F β H) (hs:Rd w F β s vs) (hx:Rd w F β x vx) (h:PB T t t' s x H k) (ty:TypeId) :
  cy P (Builtin.append_ #[t,t'] ty #[vs,vx]) w F β k:=by
 unfold PB at h;split at h
 ·rename_i i hi;split at h
  ·rename_i e he;split at h
   ·rename_i j hj;cases hb:(aH j.bytes 0||(aH j.cells 0||!(aH j.zero.cells.size j.cells))) with
    |true=>rw [hb] at h;cases h
    |false =>
     rw [hb] at h;simp only [Bool.or_eq_false_iff,Bool.not_eq_false'] at hb
     have ep:j.bytes≠0:=fun e=>by have:=hb.1;rw [e] at this;cases this
     have hz:j.zero.cells.size=j.cells:=cW hb.2.2;simp only [cond_false] at h;obtain ⟨aX,h⟩:=cond_prop h
     obtain ⟨a,rfl⟩:∃a,vs=.slice a 0 0:=by
      split at aX
      ·exact ⟨none,hs.bK⟩
      ·exact hs.Aq
      ·cases aX
     obtain ⟨rows,⟨hlen,kS,R,rfl,hk⟩,news,iG,fy⟩:=LX (st:=⟨aG,H⟩) (kk:=fun bR=>o9 bR j.cells∧bR.length*j.bytes≤140737488355328∧∃R,bR=R∧k (.s R)) hT hI hi he hj hx h fun rows hr=>hr.1;have A3:Inv w F (fun i=>if i=0 then .slice a 0 0 else β i) [(0,.own e j.cells [])] :=
      ⟨hI.cA,fun i c hm=>by simp only [dB,im] at hm;obtain ⟨rfl,rfl⟩:=hm;exact .inl ⟨rfl,a,if_pos rfl⟩,by simp,
       fun b ⟨i,c,hm,hb⟩=>by simp only [dB,im] at hm;obtain ⟨rfl,rfl⟩:=hm;simp only [if_true] at hb;cases a<;>simp [bP] at hb,
       fun i c i' c' b h h' _ _=>by simp only [dB,im] at h h';rw [h.1,h'.1],hI.fh⟩
     obtain ⟨v',w',hr,r,au,F',av,⟨rfl,rfl⟩,hv,hx⟩:=LY (st:=⟨aG,[(0,.own e j.cells [])]⟩) (L:=0) (rows:=[]) (bR:=rows) (v:=.slice a 0 0) (k:=fun r au=>r=.o 0∧au=gR ⟨aG,[(0,.own e j.cells [])]⟩ 0 (.own e j.cells rows)) (ty:=ty)
      (by decide) hT A3 hi he hj ep hz (.inr ⟨by simp,if_pos rfl⟩) ⟨news,iG,fy⟩ hlen (by simpa using kS) ⟨rfl,by simp⟩
     have bw:∀b,¬bD (fun i=>if i=0 then Value.slice a 0 0 else β i) [(0,.own e j.cells [])] b:=fun b ⟨i,c,hm,hb⟩=>by
      simp only [dB,im] at hm;obtain ⟨rfl,rfl⟩:=hm;simp only [if_true] at hb;cases a<;>simp [bP] at hb
     have oF:(0,Chunk.own e j.cells rows)∈(gR ⟨aG,[(0,.own e j.cells [])]⟩ 0 (.own e j.cells rows)).H:=by simp [gR]
     refine ⟨v',w',.s rows,hr,⟨hx.os,hx.tape,hx.output,hx.size,fun b hb=>hx.block b hb (bw b)⟩,hk,.i ?_⟩;refine (MF hx.inv oF hv).frame (fun _ _=>rfl) fun b hb=>?_
     rcases hb with hb|hb
     ·rcases hx.new b hb with h1|h1|h1
      ·exact .inl h1
      ·exact .inr ⟨h1,hx.inv.cA b hb⟩
      ·exact absurd h1 (bw b)
     ·have ho:bD av (gR ⟨aG,[(0,.own e j.cells [])]⟩ 0 (.own e j.cells rows)).H b:=⟨0,_,oF,hb⟩
      rcases hx.owned b ho with h1|h1
      ·exact .inr ⟨h1,hx.inv.fJ ho⟩
      ·exact absurd h1 (bw b)
   ·cases h
  ·cases h
 ·cases h
def Ym {o:Oper} {ρ:Operand→AV} {a:Act} {k:AV→Prop} (hT:bL P T) (hI:Inv w F β H) (bI:∀x,x∈o.op.operands→Rd w F β (ρ x) (a.eval x))
  (h:n_ P T o ρ H k):ur P (execOp a.eval o) w fun v w'=>∃r,k r∧Rd w' (fF F w w') β r v:=by
 obtain ⟨dst,op,type,pos,after,guard⟩:=o;cases op
 case buildSlice t n parts =>
  cases n with
  |succ n=>exact KN (o:=⟨dst,.buildSlice t (n+1) parts,type,pos,after,guard⟩) hT hI bI h
  |zero =>
   simp only [n_] at h;simp only [uo] at bI;simp only [execOp];obtain ⟨rows,e,size,us,hk,_,hs,nN,lL,fB,aX,aZ,hlen⟩:=Pz (P:=P) (w:=w) (F:=F) (β:=β) hT (JP ρ a.eval parts) (JQ fun x hx=>bI x (by simpa using hx)) h;exact (show cy P (Instr.buildSlice t 0 (parts.map fun x=>(x.1,a.eval x.2))) w F β k from ⟨_,_,_,aZ,vV w (.cells us e),hk,.i .z⟩).out
 case call c =>
  obtain ⟨callee,args,argTypes⟩:=c;have old:=KN (P:=P) (T:=T) (w:=w) (F:=F) (β:=β) (H:=H) (k:=k) (o:=⟨dst,.call ⟨callee,args,argTypes⟩,type,pos,after,guard⟩) (ρ:=ρ) (a:=a) hT hI bI;cases callee with
  |value f=>exact old h
  |invoke r m=>exact old h
  |builtin b =>
   cases b
   case append =>
    simp only [n_] at h;simp only [execOp]
    have mR:∀i,i<(args.toList.map ρ).length→Rd w F β ((args.toList.map ρ).getD i .χ) ((args.map a.eval).getD i undef):=fun i hi=>by
     simp at hi;have:=bI args[i] (by simp [uo,qH]);simpa [aV,hi] using this
    split at h
    ·rename_i t t' s x e1 e2
     have Mk:argTypes=#[t,t']:=by rw [←Array.toArray_toList (xs:=argTypes),e1]
     have hl:args.size=2:=by have:=congrArg List.length e2;simpa using this
     rw [e2] at mR;have h0:=mR 0 (by simp);have h1:=mR 1 (by simp)
     have ea:args.map a.eval=#[(args.map a.eval).getD 0 undef,(args.map a.eval).getD 1 undef]:=by
      apply Array.ext
      ·simp [hl]
      ·intro i h1 h2
       have:i=0∨i=1:=by simp at h2;omega
       rcases this with rfl|rfl<;>simp [hl]
     have e:(do let d ←resolve a.eval { callee:=.builtin .append,args:=args,argTypes:=argTypes } type;invoke d.target d.args:Sem Next)=builtin .append argTypes type (args.map fun|.const _=>true|_=>false) (args.map a.eval):=rfl;rw [e,ea,Mk];exact (ag' (ty:=type) hT hI (by simpa using h0) (by simpa using h1) h).out
    ·cases h
   all_goals exact old h
 all_goals exact KN (P:=P) (T:=T) (H:=H) (k:=k) hT hI bI h
def Rd.CT {d:Nat} (hd:β d=undef) (ai:∀i,i≠d→av i=β i) {x:AV} {u:Value} (h:Rd w F β x u):Rd w F av x u:=by
 have ne:∀{i:Nat} {v:Value},β i=v→v≠undef→i≠d:=fun h hv e=>hv (by rw [←h,e,hd]);induction h with
 |i h=>exact .i h
 |χ=>exact .χ
 |b h=>exact .b ((ai _ (ne h (by simp [undef]))).trans h)
 |o h=>exact .o ((ai _ (ne h (by simp [undef]))).trans h)
 |e h=>exact .e ((ai _ (ne h (by simp [undef]))).trans h)
 |w h hd ha=>exact .w ((ai _ (ne h (by simp [undef]))).trans h) hd ha
 |m h=>exact .m ((ai _ (ne h (by simp [undef]))).trans h)
 |a hs fi h ih=>exact .a hs fi ih
 |t hs h ih=>exact .t hs ih
 |c hs ez h h' ih EV=>exact .c hs ez ih EV
def U4 {d i:Nat} {c:Chunk} (hd:β d=undef) (ai:∀i,i≠d→av i=β i) (hi:i≠d) (h:c.holds w F β i):c.holds w F av i:=by
 cases c with
 |box cells =>
  obtain ⟨b,cs,e,hb,hh,hs,h1,hr⟩:=h;exact ⟨b,cs,e,(ai i hi).trans hb,hh,hs,h1,fun j hj=>(hr j hj).CT hd ai⟩
 |own E k rows =>
  unfold Chunk.holds at *;rw [ai i hi];exact h
 |mp ag rows =>
  unfold Chunk.holds at *;rw [ai i hi];exact h
 |si s pos =>
  unfold Chunk.holds at *;rw [ai i hi];exact h
 |lp l e R L =>
  obtain ⟨fn,tmps,D,hb,hh,hn,hr⟩:=h;exact ⟨fn,tmps,D,(ai i hi).trans hb,hh,hn,fun p hp=>(hr p hp).CT hd ai⟩
def Inv.sub {H':Hp} (h:Inv w F β H) (zo:∀x,x∈H'→x∈H) (hk:(H'.map (·.1)).Nodup):Inv w F β H' :=
 ⟨h.cA,fun id c hm=>h.holds id c (zo _ hm),hk,fun b ⟨id,c,hm,hb⟩=>h.apart b ⟨id,c,zo _ hm,hb⟩,fun id c EU c' b h1 h2=>h.eo id c EU c' b (zo _ h1) (zo _ h2),h.fh⟩
def Ext.AP {w0:World} {F0:Nat→Prop} {oV:Nat→Value} {oS:ah} {H':Hp} (h:Ext w0 F0 oV oS w F β ⟨aG,H⟩) (bC:∀x,x∈H'↔x∈H) (hk:(H'.map (·.1)).Nodup):Ext w0 F0 oV oS w F β ⟨aG,H'⟩ where
 os:=h.os
 tape:=h.tape
 output:=h.output
 size:=h.size
 block:=h.block
 mono:=h.mono
 new:=h.new
 owned:=fun b ⟨id,c,hm,hb⟩=>h.owned b ⟨id,c,(bC _).1 hm,hb⟩
 keep:=fun _ _ _=>.χ
 inv:=h.inv.sub (fun x hx=>(bC x).1 hx) hk
 gh:=h.gh
def abS {d:Nat} {cells:List AV} {us:Array Value} {e:TypeId} {f:Nat→AV} (pD:d<1000) (hI:Inv w F β H) (hd:β d=undef) (l7:∀c,(d,c)∉H) (hs:us.size=cells.length) (h1:∀i,i<cells.length→(us.getD i undef).oneCell'=true)
  (hr:∀β,∀i,i<cells.length→Rd (w.alloc (.cells us e)) F β (cells.getD i .χ) (us.getD i undef)) :
  Ext w F β ⟨f,H⟩ (w.alloc (.cells us e)) F (fun i=>if i=d then .pointer (some ⟨w.heap.size,0,none⟩) else β i) ⟨f,(d,.box cells)::H⟩:=by
 have ai:∀i,i≠d→(fun i=>if i=d then R3 (some ⟨w.heap.size,0,none⟩) else β i) i=β i:=fun i hi=>if_neg hi;have aS:∀b,b<w.heap.size→(w.alloc (.cells us e)).heap[b]?=w.heap[b]?:=fun b hb=>_root_.Go.heap_alloc_old w _ hb;have ha:ga F w (w.alloc (.cells us e)):=fun b hb=>aS b (hI.cA b hb);have aQ:∀{i c},(i,c)∈H→i≠d:=fun hm e=>l7 _ (e▸hm)
 have db:∀b,bD (fun i=>if i=d then R3 (some ⟨w.heap.size,0,none⟩) else β i) ((d,.box cells)::H) b→b=w.heap.size∨bD β H b:=by
  rintro b ⟨i,c,hm,hb⟩
  rcases bj.1 hm with hm|hm
  ·cases hm;simp [bP] at hb;exact .inl hb.symm
  ·simp only [if_neg (aQ hm)] at hb;exact .inr ⟨i,c,hm,hb⟩
 refine ⟨rfl,⟨rfl,fun _=>(by first|exact bG _|exact Nat.le_succ _)⟩,rfl,by simp,fun b hb _=>aS b hb,fun _ h=>h,fun _ h=>.inl h,fun b hb=>(db b hb).elim (fun h=>.inl (by omega)) .inr,fun t u h=>(h.frame ha fun _ h=>h).CT hd ai,?_,fun i hi=>ai i (by omega)⟩;refine ⟨fun b hb=>by have:=hI.cA b hb;simp;omega,fun i c hm=>?_,?_,fun b ho hF=>?_,?_,hI.fh.at ha⟩
 ·rcases bj.1 hm with hm|hm
  ·cases hm;exact ⟨w.heap.size,us,e,by simp,heap_alloc_new w _,hs,h1,hr _⟩
  ·exact U4 hd ai (aQ hm) (pH ha (fun _ h=>h) (fun b hb=>aS b (hI.fJ ⟨i,c,hm,hb⟩)) (hI.holds i c hm))
 ·simp only [jI,ix];refine ⟨fun hm=>?_,hI.keys⟩;obtain ⟨x,hx,lN⟩:=dq.1 hm;exact l7 x.2 (by rw [←lN];exact hx)
 ·rcases db b ho with rfl|h
  ·have:=hI.cA _ hF;omega
  ·exact hI.apart b h hF
 ·intro i c i' c' b hm bQ hb aJ
  rcases bj.1 hm with hm|hm<;>rcases bj.1 bQ with bQ|bQ
  ·cases hm;cases bQ;rfl
  ·cases hm;simp [bP] at hb;simp only [if_neg (aQ bQ)] at aJ;have:=hI.fJ ⟨i',c',bQ,aJ⟩;omega
  ·cases bQ;simp [bP] at aJ;simp only [if_neg (aQ hm)] at hb;have:=hI.fJ ⟨i,c,hm,hb⟩;omega
  ·simp only [if_neg (aQ hm)] at hb;simp only [if_neg (aQ bQ)] at aJ;exact hI.eo i c i' c' b hm bQ hb aJ
def vR (P:Program) (T:TT) (all:Array Oper) (H:Hp) (fe:Nat→AV) (o:Oper):Prop :=
 ∃d,o.dst=some d∧match o.guard with
 |none=>n_ P T o (ev fe) H fun r=>r=fe d
 |some (j,want)=>∃g,(all[j]?).bind (·.dst)=some g ∧
   ((fe g=.v (.bool want)∧n_ P T o (ev fe) H fun r=>r=fe d)∨(fe g=.v (.bool (!want))∧fe d=.v undef)∨((∃vs,fe g=.v (.tuple vs))∧fe d=.v undef))
def xQ (all:Array Oper):List Oper→Prop
 |[]=>True
 |o::r=>(∃d,o.dst=some d∧∀o',o'∈r→o'.dst≠some d)∧(∀t,t∈o.looksAt all→∀o',o'∈o::r→o'.dst≠some t)∧xQ all r
def K2 {f:Nat→AV} {d:Nat} {x:AV} (h:f d=x):dZ f d x=f:=by
 funext t;unfold dZ;cases hb:aH t d with
 |true=>rw [cW hb,cond_true,h]
 |false=>rfl
def QL (f:Nat→AV) (d:Nat) (x:AV):dZ f d x d=x:=by simp [dZ]
def QM {f:Nat→AV} {d t:Nat} {x:AV} (h:t≠d):dZ f d x t=f t:=by
 unfold dZ;cases hb:aH t d with
 |true=>exact absurd (cW hb) h
 |false=>rfl
def Rl {n:Nat} {all:Array Oper} {K:ah→Prop}:∀(l:List Oper) (st:ah),xQ all l→rX P T n all l st K →
  ∃fe,(∀t,(∀o,o∈l→o.dst≠some t)→fe t=st.f t)∧K ⟨fe,st.H⟩∧(∀o,o∈l→∀d,o.dst=some d→d<n)∧∀o,o∈l→vR P T all st.H fe o:=by
 intro l;induction l with
 |nil=>intro st _ h;exact ⟨st.f,fun _ _=>rfl,h,fun o ho=>(eJ ho).elim,fun o ho=>(eJ ho).elim⟩
 |cons o r ih =>
  intro st y_ h;obtain ⟨⟨d,hd,qj⟩,ac3,ac2⟩:=y_;have on:∀x,put n o.dst st x (fun au=>rX P T n all r au K)→∃fe,(∀t,(∀o',o'∈o::r→o'.dst≠some t)→fe t=st.f t)∧K ⟨fe,st.H⟩∧(∀o',o'∈o::r→∀d,o'.dst=some d→d<n)∧(∀o',o'∈r→vR P T all st.H fe o')∧fe d=x ∧
    ∀t,t∈o.looksAt all→fe t=st.f t:=by
   intro x hx;rw [hd,put_eq] at hx;obtain ⟨Φ,hx⟩:=cond_prop hx
   have Φ:d<n:=by simpa [gO] using Φ
   obtain ⟨fe,h1,h2,h3,h4⟩:=ih ⟨dZ st.f d x,st.H⟩ ac2 hx
   have gr:fe d=x:=by rw [h1 d qj];exact QL _ _ _
   have s6:∀t,(∀o',o'∈o::r→o'.dst≠some t)→fe t=st.f t:=fun t ht=>by
    rw [h1 t fun o' aB=>ht o' (cj _ aB)];exact QM fun e=>ht o (by simp) (by rw [hd,e])
   refine ⟨fe,s6,h2,fun o' aB d' bH=>?_,h4,gr,fun t ht=>s6 t (ac3 t ht)⟩
   rcases bj.1 aB with rfl|aB
   ·rw [hd] at bH;cases bH;exact Φ
   ·exact h3 o' aB d' bH
  have ops:∀{fe:Nat→AV},(∀t,t∈o.looksAt all→fe t=st.f t)→∀x,x∈o.op.operands→ev st.f x=ev fe x:=fun lI x hx=>by
   cases x with
   |tmp t =>
    refine (lI t ?_).symm;exact qM _ (mi.2 ⟨.tmp t,by simpa using hx,rfl⟩)
   |_=>rfl
  unfold rX at h;rw [sM] at h;cases hg:o.guard with
  |none =>
   rw [hg] at h;obtain ⟨x,hs,hp⟩:=h;obtain ⟨fe,h1,h2,h3,h4,h5,h6⟩:=on x hp;refine ⟨fe,h1,h2,h3,fun o' aB=>?_⟩
   rcases bj.1 aB with rfl|aB
   ·refine ⟨d,hd,?_⟩;rw [hg,h5];exact Yk (ops h6) hs
   ·exact h4 o' aB
  |some jw =>
   obtain ⟨j,want⟩:=jw;rw [hg] at h;simp only at h;split at h
   ·rename_i g eu;obtain ⟨_,h⟩:=cond_prop h
    have uK:g∈o.looksAt all:=by
     refine vH _ ?_;rw [hg];simp [eu]
    split at h
    ·rename_i b hb;by_cases jA:b=want
     ·have:=h.y jA;rw [K2 (by rw [hb,jA])] at this;obtain ⟨x,hs,hp⟩:=this;obtain ⟨fe,h1,h2,h3,h4,h5,h6⟩:=on x hp;refine ⟨fe,h1,h2,h3,fun o' aB=>?_⟩
      rcases bj.1 aB with rfl|aB
      ·refine ⟨d,hd,?_⟩;rw [hg,h5];exact ⟨g,eu,.inl ⟨by rw [h6 g uK,hb,jA],Yk (ops h6) hs⟩⟩
      ·exact h4 o' aB
     ·have qg:b=!want:=by cases b<;>cases want<;>first|rfl|exact absurd rfl jA
      have:=h.n qg;rw [K2 (by rw [hb,qg])] at this;obtain ⟨fe,h1,h2,h3,h4,h5,h6⟩:=on _ this;refine ⟨fe,h1,h2,h3,fun o' aB=>?_⟩
      rcases bj.1 aB with rfl|aB
      ·refine ⟨d,hd,?_⟩;rw [hg];exact ⟨g,eu,.inr (.inl ⟨by rw [h6 g uK,hb,qg],h5⟩)⟩
      ·exact h4 o' aB
    ·rename_i vs hb;obtain ⟨fe,h1,h2,h3,h4,h5,h6⟩:=on _ h;refine ⟨fe,h1,h2,h3,fun o' aB=>?_⟩
     rcases bj.1 aB with rfl|aB
     ·refine ⟨d,hd,?_⟩;rw [hg];exact ⟨g,eu,.inr (.inr ⟨⟨vs,by rw [h6 g uK,hb]⟩,h5⟩)⟩
     ·exact h4 o' aB
    ·cases h
   ·cases h
end
end
section
open Go.RowKit
variable [M:cM] [G:dX] [MD:sl] [CH:nv] [R:eE]
def bitsOf (ops:Array Oper):Array Nat:=Region.before ops
def iO (ops:Array Oper) (i j:Nat):Bool:=((bitsOf ops).getD i 0).testBit j
def yl (i:Nat) (o:Oper):Bool:=o.after.all fun e=>!Region.binds .any e||decide (e.on<i)
def uy (ops:Array Oper) (i:Nat) (o:Oper):Bool:=(gA ops.size).all fun j=>!iO ops i j||o.after.any fun e=>jK .any e&&(e.on==j||iO ops e.on j)
def v8 (m:Nat) (ops:Array Oper) (i:Nat) (o:Oper):Bool :=
 match o.dst with
 |none=>false
 |some d=>eO d 1000&&(gA m).all fun j=>i==j||((ops[j]?).bind (·.dst)) != some d
def rM (o:Oper):Bool:=match dY o with|some (d,none)=>xe d|_=>false
def AM (m:Nat) (ops:Array Oper) (i:Nat) (o:Oper):Bool :=
 zz o||(o.looksAt ops).all fun t=>(gA m).all fun j=>match ops[j]? with
  |none=>true
  |some o'=>(o'.dst != some t)||(iO ops i j&&((dY o').isNone||rM o'))
def AN (ops:Array Oper) (i:Nat):Bool:=(gA i).all fun j=>iO ops i j
def DD (m:Nat) (ops:Array Oper):Bool :=
 Nat.ble m ops.size&&((gA ops.size).all fun i=>match ops[i]? with
  |none=>true
  |some o=>yl i o&&(uy ops i o&&(bif eO i m then v8 m ops i o&&AM m ops i o else AN ops i)))
structure Plan0 (ops:Array Oper) (m:Nat) (dep:Nat→Nat→Prop):Prop where
 le:m≤ops.size
 dec:∀i o,ops[i]?=some o→∀e,e∈o.after→jK .any e=true→e.on<i
 step:∀i o j,ops[i]?=some o→j<ops.size→dep i j→∃e,e∈o.after∧jK .any e=true∧(e.on=j∨dep e.on j)
 dst:∀i o,i<m→ops[i]?=some o→∃d,o.dst=some d
 one:∀i o j o' d,i<m→j<m→ops[i]?=some o→ops[j]?=some o'→o.dst=some d→o'.dst=some d→i=j
 low:∀i o d,i<m→ops[i]?=some o→o.dst=some d→d<1000
 look:∀i o t j o',i<m→j<m→ops[i]?=some o→zz o=false→t∈o.looksAt ops→ops[j]?=some o'→o'.dst=some t→dep i j∧(dY o'=none∨rM o'=true)
structure Sd (ops:Array Oper) (m:Nat) (dep:Nat→Nat→Prop):Prop where
 one:∀i o j o' d,i<m→j<m→ops[i]?=some o→ops[j]?=some o'→o.dst=some d→o'.dst=some d→i=j
 look:∀i o t j o',i<m→j<m→ops[i]?=some o→zz o=false→t∈o.looksAt ops→ops[j]?=some o'→o'.dst=some t→dep i j∧(dY o'=none∨rM o'=true)
def Plan0.s {ops:Array Oper} {m:Nat} {dep:Nat→Nat→Prop} (hp:Plan0 ops m dep):Sd ops m dep:=⟨hp.one,hp.look⟩
structure aat (ops:Array Oper) (m:Nat) (dep:Nat→Nat→Prop):Prop extends Plan0 ops m dep where
 tail:∀i j,m≤i→i<ops.size→j<i→dep i j
def Xj {m:Nat} {ops:Array Oper} (hle:m≤ops.size) (get:∀i o,ops[i]?=some o→yl i o=true∧uy ops i o=true∧(i<m→v8 m ops i o=true∧AM m ops i o=true)):Plan0 ops m fun i j=>iO ops i j=true:=by
 refine ⟨hle,fun i o ho e he hb=>?_,fun i o j ho hj hd=>?_,fun i o hi ho=>?_,fun i o j o' d hi hj ho aB hd bH=>?_,fun i o d hi ho hd=>?_,fun i o t j o' hi hj ho aS ht aB bH=>?_⟩
 ·have:=(Array.all_eq_true'.1 (get i o ho).1) e he;simpa [hb] using this
 ·have h1:=(get i o ho).2.1;simp only [uy,ej,mq] at h1;have h1:=h1 j hj;simp only [hd,Bool.not_true,Bool.false_or] at h1;obtain ⟨e,he,hb⟩:=Array.any_eq_true'.1 h1;simp only [bJ,ug,beq_iff_eq] at hb;exact ⟨e,he,hb.1,hb.2⟩
 ·have h1:=((get i o ho).2.2 hi).1;unfold v8 at h1;cases hd:o.dst with
  |none=>rw [hd] at h1;exact absurd h1 (by simp)
  |some d=>exact ⟨d,rfl⟩
 ·have h1:=((get i o ho).2.2 hi).1;unfold v8 at h1;rw [hd] at h1;simp only [bJ,ej,mq] at h1;have:=h1.2 j hj;rw [aB] at this;simpa [bH] using this
 ·have h1:=((get i o ho).2.2 hi).1;unfold v8 at h1;rw [hd] at h1;simp only [bJ] at h1;simpa using h1.1
 ·have h1:=((get i o ho).2.2 hi).2;simp only [AM,aS,Bool.false_or,ej,mq] at h1;have:=h1 t ht j hj;rw [aB] at this;simpa [bH] using this
def agE {m:Nat} {ops:Array Oper} (h:DD m ops=true):aat ops m fun i j=>iO ops i j=true:=by
 simp only [DD,bJ,ej,mq] at h;obtain ⟨hle,h⟩:=h
 have hle:m≤ops.size:=by simpa using hle
 have get:∀i o,ops[i]?=some o→yl i o=true∧uy ops i o=true∧(i<m→v8 m ops i o=true∧AM m ops i o=true)∧(m≤i→AN ops i=true):=fun i o ho=>by
  have h1:=h i (lB.1 ho).1;rw [ho] at h1;simp only [bJ] at h1;refine ⟨h1.1,h1.2.1,fun hi=>?_,fun hi=>?_⟩
  ·have hb:eO i m=true:=by simpa [gO] using hi
   have:=h1.2.2;rw [hb] at this;simpa using this
  ·have hb:eO i m=false:=by
    cases hb:eO i m
    ·rfl
    ·have:i<m:=by simpa [gO] using hb
     omega
   have:=h1.2.2;rw [hb] at this;simpa using this
 refine ⟨Xj hle fun i o ho=>⟨(get i o ho).1,(get i o ho).2.1,(get i o ho).2.2.1⟩,fun i j hi hn hj=>?_⟩
 ·have h1:=(get i _ (gz hn)).2.2.2 hi;simp only [AN,ej,mq] at h1;exact h1 j hj
def HR (m:Nat) (late:List Nat) (ops:Array Oper):Bool :=
 eO m ops.size&&((gA ops.size).all fun i=>match ops[i]? with
  |none=>true
  |some o=>yl i o&&(uy ops i o&&(bif eO i m then (v8 m ops i o&&AM m ops i o)&&(iO ops m i||((dY o).isNone&&late.elem i)) else (bif eO m i then AN ops i else o.dst.isNone&&(o.guard.isNone&&((o.looksAt ops).all fun t=>(gA m).all fun j=>match ops[j]? with
   |none=>true
   |some o'=>(o'.dst != some t)||iO ops m j))))))
structure aau (ops:Array Oper) (m:Nat) (late:List Nat) (dep:Nat→Nat→Prop):Prop extends Plan0 ops m dep where
 lt:m<ops.size
 tail:∀i j,m<i→i<ops.size→j<i→dep i j
 late:∀i o,i<m→ops[i]?=some o→dep m i∨(dY o=none∧i∈late)
 store:∀o,ops[m]?=some o→o.dst=none∧o.guard=none
 aeu:∀o t j o',ops[m]?=some o→t∈o.looksAt ops→j<m→ops[j]?=some o'→o'.dst=some t→dep m j
def agD {m:Nat} {late:List Nat} {ops:Array Oper} (h:HR m late ops=true):aau ops m late fun i j=>iO ops i j=true:=by
 simp only [HR,bJ,ej,mq] at h;obtain ⟨Φ,h⟩:=h
 have Φ:m<ops.size:=by simpa [gO] using Φ
 have get:∀i o,ops[i]?=some o→yl i o=true∧uy ops i o=true∧(i<m→v8 m ops i o=true∧AM m ops i o=true∧(iO ops m i=true∨(dY o=none∧i∈late)))∧(m<i→AN ops i=true)∧(i=m→o.dst=none∧o.guard=none∧∀t,t∈o.looksAt ops→∀j,j<m→(match ops[j]? with|none=>true|some o'=>(o'.dst != some t)||iO ops m j)=true):=fun i o ho=>by
  have h1:=h i (lB.1 ho).1;rw [ho] at h1;simp only [bJ] at h1;obtain ⟨h1,h2,h3⟩:=h1;refine ⟨h1,h2,fun hi=>?_,fun hi=>?_,fun hi=>?_⟩
  ·have hb:eO i m=true:=by simpa [gO] using hi
   rw [hb] at h3;simp only [cond_true,bJ,ug] at h3;refine ⟨h3.1.1,h3.1.2,h3.2.imp (fun h=>h) fun h=>by simpa using h⟩
  ·have hb:eO i m=false:=by
    cases hb:eO i m
    ·rfl
    ·have:i<m:=by simpa [gO] using hb
     omega
   have jO:eO m i=true:=by simpa [gO] using hi
   rw [hb,jO] at h3;simpa using h3
  ·subst hi
   have hb:eO i i=false:=by
    cases hb:eO i i
    ·rfl
    ·have:i<i:=by simpa [gO] using hb
     omega
   rw [hb] at h3;simpa [hb] using h3
 refine ⟨Xj (by omega) fun i o ho=>⟨(get i o ho).1,(get i o ho).2.1,fun hi=>⟨((get i o ho).2.2.1 hi).1,((get i o ho).2.2.1 hi).2.1⟩⟩,Φ,fun i j hi hn hj=>?_,fun i o hi ho=>((get i o ho).2.2.1 hi).2.2,fun o ho=>⟨((get m o ho).2.2.2.2 rfl).1,((get m o ho).2.2.2.2 rfl).2.1⟩,fun o t j o' ho ht hj aB hd=>by
  have:=((get m o ho).2.2.2.2 rfl).2.2 t ht j hj;rw [aB] at this
  simpa [hd] using this⟩
 have h1:=(get i _ (gz hn)).2.2.2.1 hi;simp only [AN,ej,mq] at h1;exact h1 j hj
section
variable {P:Program} {T:TT} {C:Ctx} {ds:List Deferred}
def Yl {o:Oper} {ρ:Operand→AV} {H:Hp} {k:AV→Prop} (h:n_ P T o ρ H k):∀c,o.op≠.defer c:=fun c e=>by
 unfold n_ at h;rw [e] at h;exact Yo h c e
def abQ {d:Nat} (pD:d<1000) {st:ah} {w:World} {F:Nat→Prop} {β:Nat→Value} {g:Nat→Value} (hf:∀t,Rd w F β (st.f t) (g t)) (he:XM C ds w F β st.H) :
  let av:=fun i=>if i=d then undef else β i
  (∀t,Rd w F av (er 2 d (st.f t)) (g t))∧XM C ds w F av (gY d st.H):=by
 intro av;have go:Ext w F β ⟨aG,st.H⟩ w F av ⟨aG,gY d st.H⟩→_:=fun h=>he.trans h;have ai:∀i,i≠d→av i=β i:=fun i hi=>if_neg hi;have hI:Inv w F β st.H:=he.inv
 have db:∀b,bD av (gY d st.H) b→bD β st.H b:=by
  rintro b ⟨i,c,hm,hb⟩;obtain ⟨hi,c',bQ,_⟩:=ir hm;exact ⟨i,c',bQ,by rw [←ai i hi];exact hb⟩
 refine ⟨fun t=>sH ai 2 (hf t),go ⟨rfl,js.refl _,rfl,bG _,fun _ _ _=>rfl,fun _ h=>h,fun _ h=>.inl h,fun b hb=>.inr (db b hb),fun _ _ _=>.χ,?_,fun i hi=>ai i (by omega)⟩⟩;refine ⟨hI.cA,fun i c hm=>?_,DI hI.keys,fun b hb=>hI.apart b (db b hb),fun i c i' c' b hm bQ hb aJ=>?_,hI.fh⟩
 ·obtain ⟨hi,c',bQ,rfl⟩:=ir hm;exact IX hi ai (hI.holds i c' bQ)
 ·obtain ⟨hi,c2,h2,_⟩:=ir hm;obtain ⟨bm,AJ,iB,_⟩:=ir bQ;rw [ai i hi] at hb;rw [ai i' bm] at aJ;exact hI.eo i c2 i' AJ b h2 iB hb aJ
def My {w:World} {F:Nat→Prop} {g:Nat→Value}:∀(al:List (Nat×Option Nat)) (_:∀d t,(d,t)∈al→d<1000) {st:ah} {β:Nat→Value},(∀t,Rd w F β (st.f t) (g t))→XM C ds w F β st.H →
  ∃av,(∀t,Rd w F av ((jy al st).f t) (g t))∧XM C ds w F av (jy al st).H ∧
   (∀d,β d=undef∨(∃t,(d,t)∈al)→av d=undef)∧(∀d,(∀c,(d,c)∉st.H)∨(∃t,(d,t)∈al)→∀c,(d,c)∉(jy al st).H)
 |[],_,st,β,hf,he=>by
  refine ⟨β,hf,he,fun d h=>?_,fun d h=>?_⟩
  ·rcases h with h|⟨t,ht⟩
   ·exact h
   ·exact (eJ ht).elim
  ·rcases h with h|⟨t,ht⟩
   ·exact h
   ·exact (eJ ht).elim
 |(d,t)::r,pD,st,β,hf,he=>by
  obtain ⟨h1,h2⟩:=abQ (d:=d) (pD d t (by simp)) hf he;obtain ⟨av,h3,h4,h5,h6⟩:=My r (fun d t h=>pD d t (by simp [h])) (st:=⟨fun t=>er 2 d (st.f t),gY d st.H⟩) h1 h2;refine ⟨av,h3,h4,fun e he=>h5 e ?_,fun e he=>h6 e ?_⟩
  ·by_cases Ba:e=d
   ·left;simp [Ba]
   ·rcases he with he|⟨t',BF⟩
    ·left;simp [Ba,he]
    ·rcases bj.1 BF with h|h
     ·cases h;exact absurd rfl Ba
     ·exact .inr ⟨t',h⟩
  ·by_cases Ba:e=d
   ·left;intro c hc;exact (ir hc).1 Ba
   ·rcases he with he|⟨t',BF⟩
    ·left;intro c hc
     obtain ⟨_,c',fP,_⟩:=ir hc;exact he c' fP
    ·rcases bj.1 BF with h|h
     ·cases h;exact absurd rfl Ba
     ·exact .inr ⟨t',h⟩
def L4 {n:Nat} {K:ah→Prop}:∀(al:List (Nat×Option Nat)) (st:ah),qU T n al st K→(al.map (·.1)).Nodup→(∀d t,(d,t)∈al→∀c,(d,c)∉st.H)→(st.H.map (·.1)).Nodup →
  ∃fA HA,K ⟨fA,HA⟩∧(∀t,(∀ty,(t,ty)∉al)→fA t=st.f t)∧(∀d t,(d,t)∈al→d<n∧∃c,lD T d t c∧fA d=w8 d c)∧(HA.map (·.1)).Nodup ∧
   ∀x,x∈HA↔x∈st.H∨∃d t c,(d,t)∈al∧lD T d t c∧x=(d,c)
 |[],st,h,_,_,hk=>⟨st.f,st.H,h,fun _ _=>rfl,fun d t ht=>(eJ ht).elim,hk,fun x=>⟨.inl,fun h=>h.elim id fun ⟨_,_,_,h,_⟩=>(eJ h).elim⟩⟩
 |(d,t)::r,st,h,hn,eU,hk=>by
  obtain ⟨c0,oD,Φ,h⟩:∃c,lD T d t c∧d<n∧qU T n r ⟨dZ st.f d (w8 d c),(d,c)::st.H⟩ K:=by
   cases t with
   |some t =>
    simp only [qU] at h;split at h
    ·rename_i z hz;obtain ⟨hb,h⟩:=cond_prop h;simp only [bJ] at hb;exact ⟨_,⟨z,hz,hb.1,rfl⟩,by simpa [gO] using hb.2,h⟩
    ·cases h
   |none =>
    simp only [qU] at h;split at h
    ·rename_i c hc;obtain ⟨hb,h⟩:=cond_prop h;exact ⟨c,hc,by simpa [gO] using hb,h⟩
    ·cases h
  simp only [jI,ix] at hn;have qj:∀ty,(d,ty)∉r:=fun ty hm=>hn.1 (dq.2 ⟨_,hm,rfl⟩)
  obtain ⟨fA,HA,h1,h2,h3,h4,h5⟩:=L4 r ⟨dZ st.f d (w8 d c0),(d,c0)::st.H⟩ h hn.2 (fun d' t' hm c hc=>by
   rcases bj.1 hc with hc|hc
   ·cases hc;exact qj _ hm
   ·exact eU d' t' (cj _ hm) c hc) (by
   simp only [jI,ix];refine ⟨fun hm=>?_,hk⟩;obtain ⟨x,hx,lN⟩:=dq.1 hm
   exact eU d t (by simp) x.2 (by rw [←lN];exact hx))
  refine ⟨fA,HA,h1,fun t' BF=>?_,fun d' t' hm=>?_,h4,fun x=>?_⟩
  ·rw [h2 t' fun ty hm=>BF ty (cj _ hm)];exact QM fun e=>BF t (by rw [e];simp)
  ·rcases bj.1 hm with hm|hm
   ·cases hm;exact ⟨Φ,c0,oD,by rw [h2 d qj];exact QL _ _ _⟩
   ·exact h3 d' t' hm
  ·rw [h5 x,bj];constructor
   ·rintro ((rfl|h)|⟨d',t',c',hm,iT,rfl⟩)
    ·exact .inr ⟨d,t,c0,by simp,oD,rfl⟩
    ·exact .inl h
    ·exact .inr ⟨d',t',c',cj _ hm,iT,rfl⟩
   ·rintro (h|⟨d',t',c',hm,iT,rfl⟩)
    ·exact .inl (.inr h)
    ·rcases bj.1 hm with hm|hm
     ·cases hm;rw [iT.uniq oD];exact .inl (.inl rfl)
     ·exact .inr ⟨d',t',c',hm,iT,rfl⟩
def count_set:∀(l:List Bool) (i:Nat),l[i]?=some false→(l.set i true).count false+1=l.count false
 |[],i,h=>by simp at h
 |b::r,0,h=>by simp at h;subst h;simp
 |b::r,i+1,h=>by
  have:=count_set r i (by simpa using h);cases b<;>simp<;>omega
def steady (m:Nat) (ops:Array Oper):List Oper:=(ops.toList.take m).filter fun o=>(dY o).isNone
def eB (m:Nat) (ops:Array Oper):List (Nat×Option Nat):=(ops.toList.take m).filterMap dY
def oQ {ops:Array Oper} {m:Nat} {o:Oper}:o∈ops.toList.take m↔∃i,i<m∧ops[i]?=some o:=by
 constructor
 ·intro h;obtain ⟨i,hi,rfl⟩:=Da.1 h;simp only [dN,lR] at hi;refine ⟨i,by omega,?_⟩
  have:i<ops.size:=by omega
  simp [G7,this]
 ·rintro ⟨i,hi,ho⟩;obtain ⟨Φ,rfl⟩:=lB.1 ho;rw [Da];refine ⟨i,by simp only [dN,lR];omega,by simp [G7]⟩
def kI {o:Oper} {d:Nat} {t:Option Nat} (h:dY o=some (d,t)):o.dst=some d∧o.guard=none:=by
 unfold dY at h;split at h
 ·cases h;exact ⟨by assumption,by assumption⟩
 ·rename_i d' _ _ _;cases hb:MD.md.elem d' with
  |true=>rw [hb] at h;cases h;exact ⟨by assumption,by assumption⟩
  |false=>rw [hb] at h;cases h
 ·cases h
def aax {o:Oper} {d t:Nat} (h:dY o=some (d,some t)):o.op=.alloc t:=by
 unfold dY at h;split at h
 ·cases h;assumption
 ·rename_i d' _ _ _;cases hb:MD.md.elem d' with
  |true=>rw [hb] at h;cases h
  |false=>rw [hb] at h;cases h
 ·cases h
def OG {o:Oper} (h:dY o=none):zz o=false:=by unfold zz;rw [h]
def VP {o:Oper} {d:Nat} (h:dY o=some (d,none)):zz o=false:=by unfold zz;rw [h]
structure ot (C:Ctx) (CO:Nat→Option Nat→Chunk→Prop) (ops:Array Oper) (m:Nat) (fA:Nat→AV) (Hm:Hp) (listed:Array Bool) (a:Act) (w:World):Prop where
 ex:∃F β H,a.tmps.size=C.n∧True∧XM C a.defers w F β H ∧
  (∀x,x∈H↔x∈Hm∨∃i o d t c,i<m∧listed.getD i false=true∧ops[i]?=some o∧dY o=some (d,t)∧CO d t c∧x=(d,c)) ∧
  (∀i o d t,i<m→ops[i]?=some o→dY o=some (d,t)→listed.getD i false=false→β d=undef) ∧
  (∀t,(∀i o,i<m→ops[i]?=some o→o.dst=some t→listed.getD i false=true)→Rd w F β (fA t) (a.tmps.getD t undef))
def fD {listed:Array Bool} {i j:Nat} (hi:i<listed.size):(listed.setIfInBounds i true).getD j false=(if j=i then true else listed.getD j false):=by
 by_cases h:j=i
 ·subst h;simp [hi]
 ·simp [xA (j4 h),h]
def M5 {CO:Nat→Option Nat→Chunk→Prop} {ops:Array Oper} {m i n:Nat} {dep:Nat→Nat→Prop} {o:Oper} {fA fe:Nat→AV} {Hm:Hp} {listed:Array Bool} {a:Act} {w:World} {Q:Exit→Act→World→Prop} {N:Act→World→Prop}
  (hT:bL P T) (hn:C.n=n) (hp:Sd ops m dep) (aX:listed.size=ops.size) (hi:i<m) (ho:ops[i]?=some o) (aS:dY o=none) (dS:listed.getD i false=false)
  (Nj:∀j,j<m→dep i j→listed.getD j false=true) (lI:∀t,(∀j o' ty,j<m→ops[j]?=some o'→dY o'=some (t,ty)→rM o'=true)→fA t=fe t)
  (MW:(Hm.map (·.1)).Nodup) (bU:vR P T ops Hm fe o) (Φ:∀d,o.dst=some d→d<n) (h:ot C CO ops m fA Hm listed a w)
  (hN:∀a w,ot C CO ops m fA Hm (listed.setIfInBounds i true) a w→N a w):wpOpIn (fN C.ro) 0 P ops Q i N a w:=by
 obtain ⟨F,β,H,hs,hd,he,bC,zq,hf⟩:=h.ex;obtain ⟨d,fp,bU⟩:=bU
 have yM:d<a.tmps.size:=by rw [hs,hn];exact Φ d fp
 have eM:i<listed.size:=by rw [aX];exact (lB.1 ho).1
 have look:∀t,t∈o.looksAt ops→Rd w F β (fe t) (a.tmps.getD t undef):=fun t ht=>by
  have bw:∀j o' ty,j<m→ops[j]?=some o'→dY o'=some (t,ty)→rM o'=true:=fun j o' ty hj aB jg=>by
   have:=(hp.look i o t j o' hi hj ho (OG aS) ht aB (kI jg).1).2
   rcases this with this|this
   ·rw [this] at jg;cases jg
   ·exact this
  rw [←lI t bw];exact hf t fun j o' hj aB bH=>Nj j hj (hp.look i o t j o' hi hj ho (OG aS) ht aB bH).1
 have rJ:∀x,x∈o.op.operands→Rd w F β (ev fe x) (a.eval x):=fun x hx=>by
  cases x with
  |tmp t=>exact look t (qM _ (mi.2 ⟨.tmp t,by simpa using hx,rfl⟩))
  |const v=>exact nV _ _ _ _
  |global g=>exact .χ
  |func g=>exact .i (.c rfl rfl (fun i hi=>absurd hi (by simp)) (fun i hi=>absurd hi (by simp)))
 have hI:Inv w F β Hm:=he.inv.sub (fun x hx=>(bC x).2 (.inl hx)) MW
 have acy:∀j o' ty,j<m→ops[j]?=some o'→dY o'≠some (d,ty):=fun j o' ty hj aB jg=>by
  have:=hp.one i o j o' d hi hj ho aB fp (kI jg).1;subst this;rw [ho] at aB;cases aB;rw [aS] at jg;cases jg
 have done:∀(v:Value) (w':World),Below w.heap.size w w'→Rd w' (fF F w w') β (fe d) v→ot C CO ops m fA Hm (listed.setIfInBounds i true) (a.put (some d) v) w':=fun v w' hb hv=>by
  have hx:=wi (st:=⟨aG,H⟩) he.inv hb;refine ⟨fF F w w',β,H,by simpa [iM] using hs,hd,he.trans hx,fun x=>?_,fun j o' d' t hj aB jg hl=>?_,fun t ht=>?_⟩
  ·rw [bC x];constructor
   ·rintro (h|⟨j,o',d',t,z,h1,h2,h3,h4,h5,h6⟩)
    ·exact .inl h
    ·exact .inr ⟨j,o',d',t,z,h1,by rw [fD eM];split<;>first|rfl|exact h2,h3,h4,h5,h6⟩
   ·rintro (h|⟨j,o',d',t,z,h1,h2,h3,h4,h5,h6⟩)
    ·exact .inl h
    ·refine .inr ⟨j,o',d',t,z,h1,?_,h3,h4,h5,h6⟩;rw [fD eM] at h2;split at h2
     ·rename_i e;subst e;rw [ho] at h3;cases h3;rw [aS] at h4;cases h4
     ·exact h2
  ·rw [fD eM] at hl;split at hl
   ·cases hl
   ·exact zq j o' d' t hj aB jg hl
  ·by_cases pL:t=d
   ·subst pL;rw [lI t fun j o' ty hj aB jg=>absurd jg (acy j o' ty hj aB)];simpa [iM,yM] using hv
   ·have h1:=(hf t fun j o' hj aB bH=>by
     have:=ht j o' hj aB bH;rw [fD eM] at this;split at this
     ·rename_i e;subst e;rw [ho] at aB;cases aB;rw [fp] at bH;cases bH;exact absurd rfl pL
     ·exact this).later hb he.inv.cA
    simpa [iM,xA (j4 pL)] using h1
 have run:(n_ P T o (ev fe) Hm fun r=>r=fe d)→o.wpIn (fN C.ro) 0 P a w N Q:=fun hs=>by
  have dP:=Yl hs
  rcases Ym hT hI rJ hs with ⟨v,w',aZ,hb,r,rfl,hv⟩|⟨g,vs,aZ,hc⟩
  ·refine Oper.kj dP aZ ?_;rw [xK,fp];exact hN _ _ (done v w' hb hv)
  ·refine Oper.kj dP aZ ?_;rw [Ax];refine ⟨fun h=>(by cases h),vZ (hc.mono ?_)⟩;rintro e w' ⟨v,rfl,hb,r,rfl,hv⟩;rw [fp];exact hN _ _ (done v w' hb hv)
 have skip:fe d=.v undef→N (a.put o.dst undef) w:=fun h0=>by
  rw [fp];exact hN _ _ (done undef w (Below.refl _ _) (by rw [h0];exact .i (.v (.inr rfl))))
 unfold wpOpIn;simp only [ho];cases hg:o.guard with
 |none =>
  rw [hg] at bU
  have hw:dW o (yielded ops a.tmps)=true:=by simp [dW,hg]
  rw [if_pos hw];exact run bU
 |some jw =>
  obtain ⟨j,want⟩:=jw;rw [hg] at bU;obtain ⟨g,eu,bU⟩:=bU
  have uK:g∈o.looksAt ops:=by
   refine vH _ ?_;rw [hg];simp [eu]
  have py:=look g uK
  have hy:∀v,v≠undef→a.tmps.getD g undef=v→yielded ops a.tmps j=match v with|.bool b=>some b|_=>none:=by
   intro v aQ hv
   have h2:a.tmps[g]?=some v:=by
    by_cases hl:g<a.tmps.size
    ·rw [←hv];simp [hl]
    ·exact absurd (by rw [←hv];simp [hl]) aQ
   unfold yielded;rw [eu,cm,h2];cases v<;>rfl
  rcases bU with ⟨h1,h2⟩|⟨h1,h2⟩|⟨⟨vs,h1⟩,h2⟩
  ·rw [h1] at py;have h_:=hy _ (by simp [undef]) py.bK
   have hw:dW o (yielded ops a.tmps)=true:=by simp [dW,hg,h_]
   rw [if_pos hw];exact run h2
  ·rw [h1] at py;have h_:=hy _ (by simp [undef]) py.bK
   have hw:¬dW o (yielded ops a.tmps)=true:=by simp [dW,hg,h_]
   rw [if_neg hw];exact ⟨fun _ _=>trivial,skip h2⟩
  ·rw [h1] at py;have hv:=py.bK
   have h_:yielded ops a.tmps j=none:=by
    unfold yielded;rw [eu,cm];by_cases hl:g<a.tmps.size
    ·have h3:a.tmps[g]?=some (.tuple vs):=by rw [←hv];simp [hl]
     rw [h3]
    ·simp [ZE (Nat.le_of_not_lt hl)]
   have hw:¬dW o (yielded ops a.tmps)=true:=by simp [dW,hg,h_]
   rw [if_neg hw];exact ⟨fun _ _=>trivial,skip h2⟩
def aaS {o:Oper} {q:Call} {x:Operand} {g:FuncId} {fs cs ys:List AV} {f:Nat→AV} {a:Act} {w:World} {F:Nat→Prop} {β:Nat→Value} {post:Value→World→Prop} (qn:o.op=.call q) (hc:q.callee=.value x)
  (hf:ev f x=.c (.func g) fs cs) (hle:iz (fs++(q.args.toList.map (ev f)++cs)) ys) (hE:p7 P g) (rJ:∀x,x∈o.op.operands→Rd w F β (ev f x) (a.eval x))
  (h:∀vs:Array Value,vs.size=ys.length→(∀i,i<ys.length→Rd w F β (ys.getD i .χ) (vs.getD i undef))→Calls P g vs w fun e w'=>∃v,e=.returned v∧post v w') :
  ∃vs,(execOp a.eval o).run P w=.ok (.enter g vs) w∧Calls P g vs w fun e w'=>∃v,e=.returned v∧post v w':=by
 obtain ⟨dst,op,type,pos,after,guard⟩:=o;simp only at qn;subst qn;obtain ⟨callee,args,argTypes⟩:=q;simp only at hc;subst hc;have hx:=rJ x (by simp [uo,qH]);rw [hf] at hx;obtain ⟨us,ws,wG,hs,ez,hu,hw⟩:=hx.nB
 have mR:∀i,i<(args.toList.map (ev f)).length→Rd w F β ((args.toList.map (ev f)).getD i .χ) ((args.map a.eval).getD i undef):=fun i hi=>by
  simp at hi;have:=rJ args[i] (by simp [uo,qH]);simpa [aV,hi] using this
 have hj:=Ht hs (vs:=args.map a.eval) (by simp) ez hu mR hw;obtain ⟨hl,hz⟩:=hle.spec;obtain ⟨fn,c,dK,dR,yH⟩:=hE;refine ⟨us++args.map a.eval++ws,?_,h _ ?_ fun i hi=>hz i (by rw [hl];exact hi) _ _ _ _ (hj i (by rw [hl];exact hi))⟩
 ·have rv : ¬ fn.name = "runtime.NumGoroutine" := by simpa using dR
  simp only [execOp];have e:(do let d ←resolve a.eval { callee:=.value x,args:=args,argTypes:=argTypes } type;invoke d.target d.args:Sem Next)=(do let d ←mg (a.eval x) (args.map a.eval);invoke d.target d.args):=rfl;rw [e,wG];simp [mg,invoke,callFunc,dK,rv,yH]
 ·rw [←hl];simp [hs,ez]
def T7 {ops:Array Oper} {m i n:Nat} {dep:Nat→Nat→Prop} {o:Oper} {d t:Nat} {z:TI} {fA:Nat→AV} {Hm:Hp} {listed:Array Bool} {a:Act} {w:World} {Q:Exit→Act→World→Prop} {N:Act→World→Prop}
  (hT:bL P T) (hn:C.n=n) (hp:Plan0 ops m dep) (aX:listed.size=ops.size) (hi:i<m) (ho:ops[i]?=some o) (aS:dY o=some (d,some t)) (dS:listed.getD i false=false)
  (hz:T t=some z) (NV:jo (cd z.zero)=true) (gr:fA d=.b d 0) (Φ:d<n) (eU:∀c,(d,c)∉Hm) (h:ot C (lD T) ops m fA Hm listed a w)
  (hN:∀a w,ot C (lD T) ops m fA Hm (listed.setIfInBounds i true) a w→N a w):wpOpIn (fN C.ro) 0 P ops Q i N a w:=by
 obtain ⟨F,β,H,hs,hd,he,bC,zq,hf⟩:=h.ex;obtain ⟨fp,eu⟩:=kI aS;have qn:=aax aS
 have yM:d<a.tmps.size:=by rw [hs,hn];exact Φ
 have eM:i<listed.size:=by rw [aX];exact (lB.1 ho).1
 have ET:=zq i o d t hi ho aS dS
 have l7:∀c,(d,c)∉H:=fun c hc=>by
  rcases (bC _).1 hc with h|⟨j,o',d',t',z',h1,h2,h3,h4,h5,h6⟩
  ·exact eU c h
  ·cases h6;have:=hp.one i o j o' d hi h1 ho h3 fp (kI h4).1;subst this;rw [dS] at h2;cases h2
 have Oz:=(hT _ _ hz).tH w
 have aZ:(execOp a.eval o).run P w=.ok (.value (.pointer (some ⟨w.heap.size,0,none⟩))) (w.alloc (.cells z.zero.cells t)):=by
  unfold execOp;rw [qn];simp [Instr.alloc,Oz,newVar,newRow]
 have hr:=fun av:Nat→Value=>pa (nV (w.alloc (.cells z.zero.cells t)) F z.zero av) NV;have hx:=abS (f:=aG) (e:=t) (hp.low i o d hi ho fp) he.inv ET l7 (hr β).1 (fun j hj=>((hr β).2 j hj).1) (fun av j hj=>((hr av).2 j hj).2);have iU:∀i,i≠d→(fun i=>if i=d then R3 (some ⟨w.heap.size,0,none⟩) else β i) i=β i:=fun i hi=>if_neg hi;have ha:ga F w (w.alloc (.cells z.zero.cells t)):=Below.agree (vV w _) he.inv.cA
 have hw:dW o (yielded ops a.tmps)=true:=by simp [dW,eu]
 unfold wpOpIn;simp only [ho];rw [if_pos hw];refine Oper.kj (fun c e=>by rw [qn] at e;cases e) aZ ?_;rw [xK,fp];refine hN _ _ ⟨F,_,(d,.box (bz (cd z.zero)))::H,by simpa [iM] using hs,hd,he.trans hx,fun x=>?_,fun j o' d' t' hj aB jg hl=>?_,fun q hq=>?_⟩
 ·rw [bj,bC x];constructor
  ·rintro (rfl|h|⟨j,o',d',t',z',h1,h2,h3,h4,h5,h6⟩)
   ·exact .inr ⟨i,o,d,some t,_,hi,by rw [fD eM,if_pos rfl],ho,aS,⟨z,hz,NV,rfl⟩,rfl⟩
   ·exact .inl h
   ·exact .inr ⟨j,o',d',t',z',h1,by rw [fD eM];split<;>first|rfl|exact h2,h3,h4,h5,h6⟩
  ·rintro (h|⟨j,o',d',t',z',h1,h2,h3,h4,h5,h6⟩)
   ·exact .inr (.inl h)
   ·rw [fD eM] at h2;split at h2
    ·rename_i e;subst e;rw [ho] at h3;cases h3;rw [aS] at h4;cases h4;rw [h5.uniq ⟨z,hz,NV,rfl⟩] at h6;exact .inl h6
    ·exact .inr (.inr ⟨j,o',d',t',z',h1,h2,h3,h4,h5,h6⟩)
 ·rw [fD eM] at hl;split at hl
  ·cases hl
  ·have aQ:d'≠d:=fun e=>by
    subst e;have:=hp.one i o j o' d' hi hj ho aB fp (kI jg).1;rename_i uM;exact uM this.symm
   show (if d'=d then _ else β d')=undef;rw [if_neg aQ];exact zq j o' d' t' hj aB jg hl
 ·by_cases rB:q=d
  ·subst rB;rw [gr]
   have:(a.put (some q) (.pointer (some ⟨w.heap.size,0,none⟩))).tmps.getD q undef=.pointer (some ⟨w.heap.size,0,none⟩):=by simp [iM,yM]
   rw [this];exact .b (by simp)
  ·have h1:=(hf q fun j o' hj aB bH=>by
    have:=hq j o' hj aB bH;rw [fD eM] at this;split at this
    ·rename_i e;subst e;rw [ho] at aB;cases aB;rw [fp] at bH;cases bH;exact absurd rfl rB
    ·exact this)
   have h2:=(h1.frame ha fun _ h=>h).CT ET iU;simpa [iM,xA (j4 rB)] using h2
def abT {w w':World} {F F':Nat→Prop} {β:Nat→Value} {H:Hp} {d:Nat} {c:Chunk} {v:Value} {f:Nat→AV} (pD:d<1000) (hI:Inv w F β H) (hd:β d=undef) (l7:∀c,(d,c)∉H) (hb:Below w.heap.size w w') (ke:∀b,F b→F' b) (uE:∀b,F' b→fF F w w' b)
  (eU:∀b,bP v=some b→w.heap.size≤b∧¬F' b) (hc:c.holds w' F' (fun i=>if i=d then v else β i) d) :
  Ext w F β ⟨f,H⟩ w' F' (fun i=>if i=d then v else β i) ⟨f,(d,c)::H⟩:=by
 have ai:∀i,i≠d→(fun i=>if i=d then v else β i) i=β i:=fun i hi=>if_neg hi;have ha:ga F w w':=Below.agree hb hI.cA
 have db:∀b,bD (fun i=>if i=d then v else β i) ((d,c)::H) b→(w.heap.size≤b∧¬F' b)∨bD β H b:=by
  rintro b ⟨i,c',hm,aJ⟩
  rcases bj.1 hm with hm|hm
  ·cases hm;simp only [if_true] at aJ;exact .inl (eU b aJ)
  ·have hi:i≠d:=fun e=>l7 c' (e▸hm);simp only [if_neg hi] at aJ;exact .inr ⟨i,c',hm,aJ⟩
 refine ⟨hb.os,hb.tape,hb.output,hb.size,fun b h _=>hb.block b h,ke,fun b h=>(uE b h).elim .inl fun h=>.inr (.inl h.1),fun b h=>(db b h).elim (fun h=>.inl h.1) .inr,fun t u h=>(h.frame ha ke).CT hd ai,?_,fun i hi=>ai i (by omega)⟩;refine ⟨fun b h=>(uE b h).elim (fun h=>oh (hI.cA b h) hb.size) fun h=>h.2,?_,?_,fun b ho hF=>?_,?_,hI.fh.frame ha ke⟩
 ·intro i c' hm
  rcases bj.1 hm with hm|hm
  ·cases hm;exact hc
  ·have hi:i≠d:=fun e=>l7 c' (e▸hm);exact U4 hd ai hi (pH ha ke (fun b aJ=>hb.block b (hI.fJ ⟨i,c',hm,aJ⟩)) (hI.holds i c' hm))
 ·show ((d::(H.map (·.1)))).Nodup;rw [ix];refine ⟨fun hm=>?_,hI.keys⟩;obtain ⟨x,hx,lN⟩:=dq.1 hm;obtain ⟨i,c'⟩:=x;exact l7 c' (by rw [←lN];exact hx)
 ·rcases db b ho with h|h
  ·exact h.2 hF
  ·rcases uE b hF with h1|h1
   ·exact hI.apart b h h1
   ·exact absurd (hI.fJ h) (mr.2 h1.1)
 ·have key:∀i c' b,(i,c')∈H→bP (β i)=some b→bP v=some b→False:=fun i c' b hm cT hv =>
   absurd (hI.fJ ⟨i,c',hm,cT⟩) (mr.2 (eU b hv).1)
  intro i c1 i' p9 b hm bQ cT aJ
  rcases bj.1 hm with hm|hm<;>rcases bj.1 bQ with bQ|bQ
  ·cases hm;cases bQ;rfl
  ·cases hm;have hi:i'≠d:=fun e=>l7 p9 (e▸bQ);simp only [if_true] at cT;simp only [if_neg hi] at aJ;exact (key i' p9 b bQ aJ cT).elim
  ·cases bQ;have hi:i≠d:=fun e=>l7 c1 (e▸hm);simp only [if_true] at aJ;simp only [if_neg hi] at cT;exact (key i c1 b hm cT aJ).elim
  ·have hi:i≠d:=fun e=>l7 c1 (e▸hm);have bm:i'≠d:=fun e=>l7 p9 (e▸bQ);simp only [if_neg hi] at cT;simp only [if_neg bm] at aJ;exact hI.eo i c1 i' p9 b hm bQ cT aJ
def T8 {ops:Array Oper} {m i n:Nat} {dep:Nat→Nat→Prop} {o:Oper} {d:Nat} {c:Chunk} {fA fe:Nat→AV} {Hm:Hp} {listed:Array Bool} {a:Act} {w:World} {Q:Exit→Act→World→Prop} {N:Act→World→Prop}
  (hn:C.n=n) (hp:Plan0 ops m dep) (aX:listed.size=ops.size) (hi:i<m) (ho:ops[i]?=some o) (aS:dY o=some (d,none)) (dS:listed.getD i false=false)
  (Nj:∀j,j<m→dep i j→listed.getD j false=true) (lI:∀t,(∀j o' ty,j<m→ops[j]?=some o'→dY o'=some (t,ty)→rM o'=true)→fA t=fe t)
  (hc:lD T d none c) (bU:Hi P fe o c) (gr:fA d=w8 d c) (Φ:d<n) (eU:∀c,(d,c)∉Hm) (h:ot C (lD T) ops m fA Hm listed a w)
  (hN:∀a w,ot C (lD T) ops m fA Hm (listed.setIfInBounds i true) a w→N a w):wpOpIn (fN C.ro) 0 P ops Q i N a w:=by
 obtain ⟨F,β,H,hs,hd,he,bC,zq,hf⟩:=h.ex;obtain ⟨fp,eu⟩:=kI aS
 have yM:d<a.tmps.size:=by rw [hs,hn];exact Φ
 have eM:i<listed.size:=by rw [aX];exact (lB.1 ho).1
 have ET:=zq i o d none hi ho aS dS
 have look:∀t,t∈o.looksAt ops→Rd w F β (fe t) (a.tmps.getD t undef):=fun t ht=>by
  have bw:∀j o' ty,j<m→ops[j]?=some o'→dY o'=some (t,ty)→rM o'=true:=fun j o' ty hj aB jg=>by
   have:=(hp.look i o t j o' hi hj ho (VP aS) ht aB (kI jg).1).2
   rcases this with this|this
   ·rw [this] at jg;cases jg
   ·exact this
  rw [←lI t bw];exact hf t fun j o' hj aB bH=>Nj j hj (hp.look i o t j o' hi hj ho (VP aS) ht aB bH).1
 have rJ:∀x,x∈o.op.operands→Rd w F β (ev fe x) (a.eval x):=fun x hx=>by
  cases x with
  |tmp t=>exact look t (qM _ (mi.2 ⟨.tmp t,by simpa using hx,rfl⟩))
  |const v=>exact nV _ _ _ _
  |global g=>exact .χ
  |func g=>exact .i (.c rfl rfl (fun i hi=>absurd hi (by simp)) (fun i hi=>absurd hi (by simp)))
 have l7:∀c,(d,c)∉H:=fun c hc=>by
  rcases (bC _).1 hc with h|⟨j,o',d',t',z',h1,h2,h3,h4,h5,h6⟩
  ·exact eU c h
  ·cases h6;have:=hp.one i o j o' d hi h1 ho h3 fp (kI h4).1;subst this;rw [dS] at h2;cases h2
 obtain ⟨q,x,g,fs,cs,ys,qn,acn,wG,hM,hle⟩:∃q x g fs cs ys,o.op=.call q∧q.callee=.value x∧ev fe x=.c (.func g) fs cs∧LP P g ys c∧iz (fs++(q.args.toList.map (ev fe)++cs)) ys:=by
  unfold Hi at bU;split at bU
  ·rename_i q qn;split at bU
   ·rename_i x hx;split at bU
    ·rename_i g fs cs wG;obtain ⟨ys,h1,h2⟩:=bU;exact ⟨q,x,g,fs,cs,ys,qn,hx,wG,h1,h2⟩
    ·exact bU.elim
   ·exact bU.elim
  ·exact bU.elim
 have hw:dW o (yielded ops a.tmps)=true:=by simp [dW,eu]
 obtain ⟨vs,aZ,acp⟩:=aaS (P:=P) qn acn wG hle hM.1 rJ fun vs jk fy=>hM.2 w F β vs he.inv.nil jk fy;unfold wpOpIn;simp only [ho];rw [if_pos hw];refine Oper.kj (fun c e=>by rw [qn] at e;cases e) aZ ?_;rw [Ax];refine ⟨fun h=>(by cases h),vZ (acp.mono ?_)⟩;rintro e w' ⟨v,rfl,hb,F',ke,uE,hv,acQ⟩;rw [fp];have hx:=abT (f:=aG) (hp.low i o d hi ho fp) he.inv ET l7 hb ke uE acQ (hv (fun i=>if i=d then v else β i) d (if_pos rfl)).1;have iU:∀i,i≠d→(fun i=>if i=d then v else β i) i=β i:=fun i hi=>if_neg hi;have ha:ga F w w':=Below.agree hb he.inv.cA;refine hN _ _ ⟨F',_,(d,c)::H,by simpa [iM] using hs,hd,he.trans hx,fun x=>?_,fun j o' d' t' hj aB jg hl=>?_,fun q hq=>?_⟩
 ·rw [bj,bC x];constructor
  ·rintro (rfl|h|⟨j,o',d',t',z',h1,h2,h3,h4,h5,h6⟩)
   ·exact .inr ⟨i,o,d,none,_,hi,by rw [fD eM,if_pos rfl],ho,aS,hc,rfl⟩
   ·exact .inl h
   ·exact .inr ⟨j,o',d',t',z',h1,by rw [fD eM];split<;>first|rfl|exact h2,h3,h4,h5,h6⟩
  ·rintro (h|⟨j,o',d',t',z',h1,h2,h3,h4,h5,h6⟩)
   ·exact .inr (.inl h)
   ·rw [fD eM] at h2;split at h2
    ·rename_i e;subst e;rw [ho] at h3;cases h3;rw [aS] at h4;cases h4;rw [h5.uniq hc] at h6;exact .inl h6
    ·exact .inr (.inr ⟨j,o',d',t',z',h1,h2,h3,h4,h5,h6⟩)
 ·rw [fD eM] at hl;split at hl
  ·cases hl
  ·have aQ:d'≠d:=fun e=>by
    subst e;have:=hp.one i o j o' d' hi hj ho aB fp (kI jg).1;rename_i uM;exact uM this.symm
   show (if d'=d then _ else β d')=undef;rw [if_neg aQ];exact zq j o' d' t' hj aB jg hl
 ·by_cases rB:q=d
  ·subst rB;rw [gr]
   have:(a.put (some q) v).tmps.getD q undef=v:=by simp [iM,yM]
   rw [this];exact (hv (fun i=>if i=q then v else β i) q (if_pos rfl)).2
  ·have h1:=(hf q fun j o' hj aB bH=>by
    have:=hq j o' hj aB bH;rw [fD eM] at this;split at this
    ·rename_i e;subst e;rw [ho] at aB;cases aB;rw [fp] at bH;cases bH;exact absurd rfl rB
    ·exact this)
   have h2:=(h1.frame ha ke).CT ET iU;simpa [iM,xA (j4 rB)] using h2
end
section
variable {P:Program} {T:TT} {C:Ctx}
def Plan0.lt {ops:Array Oper} {m:Nat} {dep:Nat→Nat→Prop} (hp:Plan0 ops m dep):∀i j,i<ops.size→j<ops.size→dep i j→j<i:=by
 intro i;induction i using uk with
 |_ i ih =>
  intro j hi hj hd;obtain ⟨e,he,hb,h⟩:=hp.step i _ j (gz hi) hj hd;have Φ:=hp.dec i _ (gz hi) e he hb
  rcases h with h|h
  ·omega
  ·have:=ih e.on Φ j (by omega) hj h;omega
def drop_cons {ops:Array Oper} {k:Nat} (h:k<ops.size):ops.toList.drop k=ops[k]::ops.toList.drop (k+1):=by
 rw [sa (by simpa using h)];simp
def OW {ops:Array Oper} {m k:Nat} {o:Oper} (h:o∈(ops.toList.take m).drop k):∃i,k≤i∧i<m∧ops[i]?=some o:=by
 obtain ⟨i,hi,rfl⟩:=Da.1 h;simp only [List.length_drop,dN,lR] at hi;refine ⟨k+i,by omega,by omega,?_⟩
 have:k+i<ops.size:=by omega
 simp [G7,this]
def Plan0.V1 {ops:Array Oper} {m:Nat} {dep:Nat→Nat→Prop} (hp:Plan0 ops m dep):∀q k,q+k=m→xQ ops (((ops.toList.take m).drop k).filter fun o=>(dY o).isNone):=by
 intro q;induction q with
 |zero =>
  intro k hk;have:(ops.toList.take m).drop k=[]:=qK (by simp;omega);rw [this];exact True.intro
 |succ q ih =>
  intro k hk
  have Bi:k<m:=by omega
  have iv:k<ops.size:=by have:=hp.le;omega
  have Nf:(ops.toList.take m).drop k=ops[k]::(ops.toList.take m).drop (k+1):=by
   rw [sa (by simp;omega)];simp [G7]
  rw [Nf,List.filter_cons];have ho:ops[k]?=some ops[k]:=gz iv;split
  ·rename_i aS
   have aS:dY ops[k]=none:=by simpa using aS
   obtain ⟨d,hd⟩:=hp.dst k _ Bi ho;refine ⟨⟨d,hd,fun o' aB bH=>?_⟩,fun t ht o' aB bH=>?_,ih (k+1) (by omega)⟩
   ·obtain ⟨i,ri,rj,yT⟩:=OW (eD.1 aB).1;have:=hp.one k _ i o' d Bi rj ho yT hd bH;omega
   ·have:∃i,k≤i∧i<m∧ops[i]?=some o':=by
     rcases bj.1 aB with rfl|h
     ·exact ⟨k,bG _,Bi,ho⟩
     ·obtain ⟨i,ri,rj,yT⟩:=OW (eD.1 h).1;exact ⟨i,by omega,rj,yT⟩
    obtain ⟨i,ri,rj,yT⟩:=this;have gZ:=(hp.look k _ t i o' Bi rj ho (OG aS) ht yT bH).1;have:=hp.lt k i iv (by have:=hp.le;omega) gZ;omega
  ·exact ih (k+1) (by omega)
def Sx {ops:Array Oper} {m:Nat} {dep:Nat→Nat→Prop} (hp:Plan0 ops m dep):∀q k,q+k=m→((((ops.toList.take m).drop k).filterMap dY).map (·.1)).Nodup:=by
 intro q;induction q with
 |zero =>
  intro k hk;have:(ops.toList.take m).drop k=[]:=qK (by simp;omega);rw [this];simp
 |succ q ih =>
  intro k hk
  have Bi:k<m:=by omega
  have iv:k<ops.size:=by have:=hp.le;omega
  have Nf:(ops.toList.take m).drop k=ops[k]::(ops.toList.take m).drop (k+1):=by
   rw [sa (by simp;omega)];simp [G7]
  have ho:ops[k]?=some ops[k]:=gz iv;rw [Nf,List.filterMap_cons];split
  ·exact ih (k+1) (by omega)
  ·rename_i x hx;simp only [jI,ix];refine ⟨fun hm=>?_,ih (k+1) (by omega)⟩;obtain ⟨y,hy,VC⟩:=dq.1 hm;obtain ⟨o',aB,jg⟩:=mi.1 hy;obtain ⟨i,ri,rj,yT⟩:=OW aB;obtain ⟨d,t⟩:=x;obtain ⟨d',t'⟩:=y;simp only at VC;subst VC;have:=hp.one k _ i o' d' Bi rj ho yT (kI hx).1 (kI jg).1;omega
def CW {n:Nat} {ops:Array Oper} {st:ah} {K:ah→Prop} (h:iW P T n ops (ops.toList.drop ops.size) st K):K st:=by
 have:ops.toList.drop ops.size=[]:=qK (by simp);rw [this] at h;exact h
def XM.AP {ds:List Deferred} {w:World} {F:Nat→Prop} {β:Nat→Value} {H H':Hp} (h:XM C ds w F β H) (bC:∀x,x∈H'↔x∈H) (hk:(H'.map (·.1)).Nodup):XM C ds w F β H' :=
 h.trans ((Ext.refl (st:=⟨aG,H⟩) h.inv).AP bC hk)
def Pt {st:ah} {a:Act} {w:World} (h:Rel C st a w):Rel C st a w.drew:=by
 obtain ⟨F,β,hs,hd,hf,he⟩:=h;have hb:Below w.heap.size w w.drew:=(Below.refl _ _).drew;exact ⟨fF F w w.drew,β,hs,hd,fun t=>(hf t).later hb he.inv.cA,he.trans (wi (st:=⟨aG,st.H⟩) he.inv hb)⟩
def abh {id m n:Nat} {ops:Array Oper} {st:ah} {K:ah→Prop} (hT:bL P T) (hm:P.follows .mixedOrders=true) (qi:DD m ops=true)
  (h:rX P T n ops (steady m ops) ⟨preB (eB m ops) (jy (eB m ops) st).f,(jy (eB m ops) st).H⟩ fun st1=>tp P st1.f (ops.toList.take m)∧qU T n (eB m ops) st1 fun st2=>iW P T n ops (ops.toList.drop m) st2 K):He P n id ops st K:=by
 refine ⟨fun C hn a w de=>?_⟩;have hp:=agE qi;have hr:=Pt de;refine wpIn_region_any hm ?_;show wpAnyIn (fN C.ro) 0 P .any ops _ ops.size (og ops.size false) a w.drew;generalize w.drew=w at hr;clear de;obtain ⟨F,β,hs,hd,hf,he⟩:=hr
 obtain ⟨av,uI,fw,zp,IG⟩:=My (eB m ops) (fun d t h=>by
  obtain ⟨o,NO,ho⟩:=mi.1 h;obtain ⟨i,hi,aB⟩:=oQ.1 NO
  exact hp.low i o d hi aB (kI ho).1) hf he
 have y_:xQ ops (steady m ops):=by simpa [steady] using hp.V1 m 0 (by omega)
 obtain ⟨fe,lI,hb,Φ,bU⟩:=Rl (steady m ops) _ y_ h
 have dP:((eB m ops).map (·.1)).Nodup:=by simpa [eB] using Sx hp.toPlan0 m 0 (by omega)
 have eU:∀d t,(d,t)∈eB m ops→∀c,(d,c)∉(jy (eB m ops) st).H:=fun d t hm=>IG d (.inr ⟨t,hm⟩);obtain ⟨fA,HA,hK,MT,D_,Ea,Iw⟩:=L4 (eB m ops) ⟨fe,(jy (eB m ops) st).H⟩ hb.2 dP eU fw.inv.keys;generalize hHm:(jy (eB m ops) st).H=Hm at *
 have jW:∀{d t},(d,t)∈eB m ops↔∃i o,i<m∧ops[i]?=some o∧dY o=some (d,t):=by
  intro d t;constructor
  ·intro h;obtain ⟨o,ho,aS⟩:=mi.1 h;obtain ⟨i,hi,ho⟩:=oQ.1 ho;exact ⟨i,o,hi,ho,aS⟩
  ·rintro ⟨i,o,hi,ho,aS⟩;exact mi.2 ⟨o,oQ.2 ⟨i,hi,ho⟩,aS⟩
 have BK:∀{i o},i<m→ops[i]?=some o→dY o=none→o∈steady m ops:=fun hi ho aS=>eD.2 ⟨oQ.2 ⟨_,hi,ho⟩,by simp [aS]⟩
 have Ec:∀t,(∀j o' ty,j<m→ops[j]?=some o'→dY o'≠some (t,ty))→fA t=fe t:=fun t ht=>MT t fun ty hm=>by
  obtain ⟨j,o',hj,aB,aS⟩:=jW.1 hm;exact ht j o' ty hj aB aS
 have Eb:∀t,(∀j o' ty,j<m→ops[j]?=some o'→dY o'=some (t,ty)→rM o'=true)→fA t=fe t:=fun t ht=>by
  by_cases hex:∃j o' ty,j<m∧ops[j]?=some o'∧dY o'=some (t,ty)
  ·obtain ⟨j,o',ty,hj,aB,aS⟩:=hex;have gJ:=ht j o' ty hj aB aS;unfold rM at gJ;rw [aS] at gJ;cases ty with
   |some y=>cases gJ
   |none =>
    have hm:=jW.2 ⟨j,o',hj,aB,aS⟩;obtain ⟨_,c,hc,Nr⟩:=D_ t none hm
    have Ns:fe t=.o t:=by
     rw [lI t fun o ho=>by
      obtain ⟨i,hi,Ey⟩:=oQ.1 (eD.1 ho).1;intro bH;have:=hp.one i o j o' t hi hj Ey aB bH (kI aS).1;subst this;rw [Ey] at aB;cases aB;have:=(eD.1 ho).2
      simp [aS] at this]
     exact JT gJ dP hm
    have db:w8 t c=.o t:=by
     have fP:w9 CH.ch t=some c:=hc;have zk:xe t=true:=gJ;unfold xe at zk;rw [fP] at zk
     cases c<;>first|rfl|cases zk
    rw [Nr,db,Ns]
  ·exact Ec t fun j o' ty hj aB aS=>hex ⟨j,o',ty,hj,aB,aS⟩
 have lt:∀{i o},ops[i]?=some o→i<ops.size:=fun h=>(lB.1 h).1;have key:∀fuel (listed:Array Bool) (a:Act) (w:World),listed.size=ops.size→listed.toList.count false≤fuel →
   (∀i o,listed.getD i false=true→ops[i]?=some o→∀e,e∈o.after→jK .any e=true→listed.getD e.on false=true) →
   (((∀i,m≤i→listed.getD i false=false)∧ot C (lD T) ops m fA Hm listed a w) ∨
    ∃k,m≤k∧k≤ops.size∧(∀i,i<ops.size→(listed.getD i false=true↔i<k))∧∃st,Rel C st a w∧iW P T n ops (ops.toList.drop k) st K) →
   wpAnyIn (fN C.ro) 0 P .any ops (fun e a' w'=>∃au,Rel C au a' w'∧(match e with|.normal=>K au|_=>False)) fuel listed a w:=by
  intro fuel;induction fuel with
  |zero =>
   intro listed a w aX wD di ry
   have ed:∀i,i<ops.size→listed.getD i false=true:=fun i hi=>by
    have h0:listed.toList.count false=0:=by omega
    have bm:i<listed.size:=by omega
    have bC:listed[i]∈listed.toList:=by simp
    cases hb:listed[i] with
    |true=>simp [bm,hb]
    |false=>rw [hb] at bC;exact absurd bC (Z2.1 h0)
   have rC:lY .any ops listed=[]:=by
    apply Av.2;intro i hi;obtain ⟨h1,o,ho,_⟩:=mem_ready.1 hi;have:=ed i (lt ho)
    have bm:i<listed.size:=by have:=lt ho;omega
    simp [bm] at h1 this;rw [h1] at this;cases this
   refine ⟨rC,?_⟩
   rcases ry with ⟨gI,jB⟩|⟨k,fR,fx,nK,au,iR,hw⟩
   ·have jS:m=ops.size:=by
     rcases gP m ops.size with h|h
     ·have:=gI m (bG _);rw [ed m h] at this;cases this
     ·have:=hp.le;omega
    obtain ⟨F1,du,H1,g1,g2,g3,g4,g5,g6⟩:=jB.ex;refine ⟨⟨fA,HA⟩,⟨F1,du,g1,g2,fun t=>g6 t fun i o hi _ _=>ed i (by omega),g3.AP (fun x=>?_) Ea⟩,?_⟩
    ·rw [g4 x,Iw x];constructor
     ·rintro (h|⟨d,t,z,h1,h2,h3⟩)
      ·exact .inl h
      ·obtain ⟨i,o,hi,ho,aS⟩:=jW.1 h1;exact .inr ⟨i,o,d,t,z,hi,ed i (by omega),ho,aS,h2,h3⟩
     ·rintro (h|⟨i,o,d,t,z,hi,_,ho,aS,h2,h3⟩)
      ·exact .inl h
      ·exact .inr ⟨d,t,z,jW.2 ⟨i,o,hi,ho,aS⟩,h2,h3⟩
    ·rw [jS] at hK;exact CW hK
   ·have iv:k=ops.size:=by
     rcases gP k ops.size with h|h
     ·have:=(nK k h).1 (ed k h);omega
     ·omega
    refine ⟨au,iR,?_⟩;rw [iv] at hw;exact CW hw
  |succ fuel ih =>
   intro listed a w aX wD di ry
   have yI:∀i,i<ops.size→(∀o,ops[i]?=some o→∀e,e∈o.after→jK .any e=true→listed.getD e.on false=true)→∀j,j<ops.size→iO ops i j=true→listed.getD j false=true:=by
    intro i;induction i using uk with
    |_ i rD =>
     intro hi fQ j hj gZ;obtain ⟨e,bE,cT,h⟩:=hp.step i _ j (gz hi) hj gZ;have hl:=fQ _ (gz hi) e bE cT;have s5:=hp.dec i _ (gz hi) e bE cT
     rcases h with h|h
     ·rw [←h];exact hl
     ·exact rD e.on s5 (by omega) (fun o ho=>di e.on o hl ho) j hj h
   have rR:∀{i o},i∈lY .any ops listed→ops[i]?=some o→listed.getD i false=false∧∀e,e∈o.after→jK .any e=true→listed.getD e.on false=true:=fun hi ho=>by
    obtain ⟨h1,o',aB,h2⟩:=mem_ready.1 hi;rw [ho] at aB;cases aB;have:=lt ho;refine ⟨?_,h2⟩;have bm:=lt ho;rw [←aX] at bm;simpa [bm] using h1
   have isReady:∀{i o},ops[i]?=some o→listed.getD i false=false→(∀j,j<i→listed.getD j false=true)→i∈lY .any ops listed:=fun ho h1 h2=>by
    refine mem_ready.2 ⟨?_,_,ho,fun e he hb=>h2 _ (hp.dec _ _ ho e he hb)⟩;have bm:=lt ho;rw [←aX] at bm;simpa [bm] using h1
   have next:∀i,i<ops.size→listed.getD i false=false→(listed.setIfInBounds i true).size=ops.size∧(listed.setIfInBounds i true).toList.count false≤fuel:=fun i hi h1=>by
    refine ⟨by simpa using aX,?_⟩
    have bm:i<listed.size:=by omega
    have h2:listed.toList[i]?=some false:=by
     have:listed[i]=false:=by simpa [bm] using h1
     simp [bm,this]
    have:=count_set listed.toList i h2;simp only [ZI];omega
   have sA:∀i o,ops[i]?=some o→(∀e,e∈o.after→jK .any e=true→listed.getD e.on false=true) →
     ∀j o',(listed.setIfInBounds i true).getD j false=true→ops[j]?=some o'→∀e,e∈o'.after→jK .any e=true→(listed.setIfInBounds i true).getD e.on false=true:=fun i o ho fQ j o' hj aB e bE cT=>by
    have bm:i<listed.size:=by rw [aX];exact lt ho
    rw [fD bm] at hj ⊢;split
    ·rfl
    ·split at hj
     ·rename_i e2;subst e2;rw [ho] at aB;cases aB;exact fQ e bE cT
     ·exact di j o' hj aB e bE cT
   have second:(∃k,m≤k∧k≤ops.size∧(∀i,i<ops.size→(listed.getD i false=true↔i<k))∧∃st,Rel C st a w∧iW P T n ops (ops.toList.drop k) st K) →
     wpAnyIn (fN C.ro) 0 P .any ops (fun e a' w'=>∃au,Rel C au a' w'∧(match e with|.normal=>K au|_=>False)) (fuel+1) listed a w:=by
    rintro ⟨k,fR,fx,nK,au,iR,hw⟩
    rcases gP k ops.size with iv|iv
    ·have ze:ops[k]?=some ops[k]:=gz iv
     have yY:listed.getD k false=false:=by
      cases hb:listed.getD k false
      ·rfl
      ·have:=(nK k iv).1 hb;omega
     have kZ:=isReady ze yY fun j hj=>(nK j (by omega)).2 hj;refine ⟨fun h0=>(by rw [h0] at kZ;cases kZ),fun i hi=>?_⟩;obtain ⟨_,o,ho,_⟩:=mem_ready.1 hi;obtain ⟨dS,fQ⟩:=rR hi ho
     have nI:i=k:=by
      have h1:¬i<k:=fun h=>by rw [(nK i (lt ho)).2 h] at dS;cases dS
      rcases gP k i with h2|h2
      ·have:=yI i (lt ho) (fun o' aB=>by rw [ho] at aB;cases aB;exact fQ) k iv (hp.tail i k (by omega) (lt ho) h2);rw [this] at yY;cases yY
      ·omega
     subst nI;rw [drop_cons iv] at hw;rw [ho] at ze;cases ze;obtain ⟨mV,lK⟩:=next i iv dS;refine vz (K:=fun st=>iW P T n ops (ops.toList.drop (i+1)) st K) hT hn ho iR (fun st2 a2 w2 oJ NI=>?_) hw;refine ih _ a2 w2 mV lK (sA i _ ho fQ) (.inr ⟨i+1,by omega,by omega,fun j hj=>?_,st2,oJ,NI⟩)
     have bm:i<listed.size:=by rw [aX];exact iv
     rw [fD bm];split
     ·rename_i e2;subst e2;simp
     ·rw [nK j hj];omega
    ·have ed:∀i,i<ops.size→listed.getD i false=true:=fun i hi=>(nK i hi).2 (by omega)
     have rC:lY .any ops listed=[]:=by
      apply Av.2;intro i hi;obtain ⟨_,o,ho,_⟩:=mem_ready.1 hi;obtain ⟨dS,_⟩:=rR hi ho;rw [ed i (lt ho)] at dS;cases dS
     refine ⟨fun _=>⟨au,iR,?_⟩,fun i hi=>by rw [rC] at hi;cases hi⟩
     have:k=ops.size:=by omega
     rw [this] at hw;exact CW hw
   rcases ry with ⟨gI,jB⟩|ry
   ·by_cases pJ:∀i,i<m→listed.getD i false=true
    ·refine second ⟨m,bG _,hp.le,fun i hi=>⟨fun h=>?_,fun h=>pJ i h⟩,⟨fA,HA⟩,?_,hK⟩
     ·rcases gP i m with h1|h1
      ·exact h1
      ·rw [gI i h1] at h;cases h
     ·obtain ⟨F1,du,H1,g1,g2,g3,g4,g5,g6⟩:=jB.ex;refine ⟨F1,du,g1,g2,fun t=>g6 t fun i o hi _ _=>pJ i hi,g3.AP (fun x=>?_) Ea⟩;rw [g4 x,Iw x];constructor
      ·rintro (h|⟨d,t,z,h1,h2,h3⟩)
       ·exact .inl h
       ·obtain ⟨i,o,hi,ho,aS⟩:=jW.1 h1;exact .inr ⟨i,o,d,t,z,hi,pJ i hi,ho,aS,h2,h3⟩
      ·rintro (h|⟨i,o,d,t,z,hi,_,ho,aS,h2,h3⟩)
       ·exact .inl h
       ·exact .inr ⟨d,t,z,jW.2 ⟨i,o,hi,ho,aS⟩,h2,h3⟩
    ·-- Gw least alO is not done
     have hex:∃i,i<m∧listed.getD i false=false∧∀j,j<i→listed.getD j false=true:=by
      have:∃i,i<m∧listed.getD i false=false:=by
       refine xC fun bw=>pJ fun i hi=>?_;cases hb:listed.getD i false
       ·exact absurd ⟨i,hi,hb⟩ bw
       ·rfl
      obtain ⟨i,hi,hb⟩:=this;induction i using uk with
      |_ i rD =>
       by_cases ed:∀j,j<i→listed.getD j false=true
       ·exact ⟨i,hi,hb,ed⟩
       ·have:∃j,j<i∧listed.getD j false=false:=by
         refine xC fun bw=>ed fun j hj=>?_;cases hb:listed.getD j false
         ·exact absurd ⟨j,hj,hb⟩ bw
         ·rfl
        obtain ⟨j,hj,El⟩:=this;exact rD j hj (by omega) El
     obtain ⟨i0,rh,ep,yG⟩:=hex
     have yS:i0<ops.size:=by have:=hp.le;omega
     have de:=isReady (gz yS) ep yG;refine ⟨fun h0=>(by rw [h0] at de;cases de),fun i hi=>?_⟩;obtain ⟨_,o,ho,_⟩:=mem_ready.1 hi;obtain ⟨dS,fQ⟩:=rR hi ho;have gZ:∀j,j<ops.size→iO ops i j=true→listed.getD j false=true:=fun j hj hd=>yI i (lt ho) (fun o' aB=>by rw [ho] at aB;cases aB;exact fQ) j hj hd
     have iF:i<m:=by
      rcases gP i m with h|h
      ·exact h
      ·have:=gZ i0 yS (hp.tail i i0 h (lt ho) (by omega));rw [this] at ep;cases ep
     obtain ⟨mV,lK⟩:=next i (lt ho) dS
     have cont:∀a w,ot C (lD T) ops m fA Hm (listed.setIfInBounds i true) a w→wpAnyIn (fN C.ro) 0 P .any ops (fun e a' w'=>∃au,Rel C au a' w'∧(match e with|.normal=>K au|_=>False)) fuel (listed.setIfInBounds i true) a w:=fun a2 w2 hh=>by
      refine ih _ a2 w2 mV lK (sA i o ho fQ) (.inl ⟨fun j hj=>?_,hh⟩)
      have bm:i<listed.size:=by rw [aX];exact lt ho
      rw [fD bm];split
      ·omega
      ·exact gI j hj
     cases aS:dY o with
     |none=>exact M5 hT hn hp.toPlan0.s aX iF ho aS dS (fun j hj hd=>gZ j (by have:=hp.le;omega) hd) Eb fw.inv.keys (bU o (BK iF ho aS)) (Φ o (BK iF ho aS)) jB cont
     |some x =>
      obtain ⟨d,t⟩:=x;obtain ⟨q2,c,yJ,q1⟩:=D_ d t (jW.2 ⟨i,o,iF,ho,aS⟩);cases t with
      |some t =>
       obtain ⟨z,q3,q4,rfl⟩:=yJ;exact T7 hT hn hp.toPlan0 aX iF ho aS dS q3 q4 q1 q2 (eU d _ (jW.2 ⟨i,o,iF,ho,aS⟩)) jB cont
      |none =>
       obtain ⟨c',fP,rq⟩:=Jq hb.1 (oQ.2 ⟨i,iF,ho⟩) aS;obtain rfl:c'=c:=lD.uniq (T:=T) (x:=none) fP yJ;exact T8 hn hp.toPlan0 aX iF ho aS dS (fun j hj hd=>gZ j (by have:=hp.le;omega) hd) Eb yJ rq q1 q2 (eU d _ (jW.2 ⟨i,o,iF,ho,aS⟩)) jB cont
   ·exact second ry
 have rep:∀i,(og ops.size false).getD i false=false:=fun i=>by
  simp only [lA,ZG];split<;>rfl
 refine key ops.size _ a w (by simp) (by simp) (fun i o hi=>by rw [rep] at hi;cases hi) (.inl ⟨fun i _=>rep i,F,av,Hm,hs,hd,fw,fun x=>⟨.inl,fun h=>?_⟩,fun i o d t hi ho aS _=>zp d (.inr ⟨t,jW.2 ⟨i,o,hi,ho,aS⟩⟩),fun t ht=>?_⟩)
 ·rcases h with h|⟨i,o,d,t,z,h1,h2,_⟩
  ·exact h
  ·rw [rep] at h2;cases h2
 ·have bw:∀i o,i<m→ops[i]?=some o→o.dst≠some t:=fun i o hi ho bH=>by
   have:=ht i o hi ho bH;rw [rep] at this;cases this
  rw [Ec t fun j o' ty hj aB aS=>bw j o' hj aB (kI aS).1,lI t fun o ho=>by
   obtain ⟨i,hi,aB⟩:=oQ.1 (eD.1 ho).1
   exact bw i o hi aB]
  show Rd _ _ _ (preB (eB m ops) (jy (eB m ops) st).f t) _
  rw [Fw fun x hx=>by
   obtain ⟨j,o',hj,aB,aS⟩:=jW.1 hx
   exact bw j o' hj aB (kI aS).1]
  exact uI t
def LZ (T:TT) (ops:Array Oper) (m:Nat) (st:ah) (K:ah→Prop):Prop :=
 match ops[m]? with
 |some o=>match o.op with
  |.store t x y=>wg T t (ev st.f x) (ev st.f y) st fun _ au=>K au
  |_=>False
 |none=>False
def qs (P:Program) (T:TT) (ops:Array Oper) (st:ah):List Nat→Prop
 |[]=>True
 |j::r=>(match ops[j]? with
  |some o=>vR P T ops st.H st.f o
  |none=>False)∧qs P T ops st r
def ON {ops:Array Oper} {st:ah}:∀{late:List Nat},qs P T ops st late→∀j o,j∈late→ops[j]?=some o→vR P T ops st.H st.f o
 |[],_,_,_,h,_=>by cases h
 |i::r,hl,j,o,h,ho=>by
  rcases bj.1 h with rfl|h
  ·have:=hl.1;rw [ho] at this;exact this
  ·exact ON hl.2 j o h ho
def abD {t:Nat} {x y:AV} {st:ah} {k:AV→ah→Prop} (h:wg T t x y st k):∃H',k (.v undef) ⟨st.f,H'⟩∧(∀f,wg T t x y ⟨f,st.H⟩ fun _ s=>s=⟨f,H'⟩)∧H'.map (·.1)=st.H.map (·.1):=by
 unfold wg at h ⊢;split at h
 ·rename_i i hi;split at h
  ·rename_i id off;split at h
   ·rename_i cells hc;unfold Cv at h ⊢;obtain ⟨hb,C,hC,h⟩:=cond_prop h;exact ⟨_,h,fun f=>by simp only [hc];exact L2 hb ⟨C,hC,rfl⟩,z_ _⟩
   ·cases h
  ·rename_i id K m j;split at h
   ·rename_i E K' rows hc;obtain ⟨rh,row,jE,hK,h⟩:=cond_prop h;unfold Cv at h ⊢;obtain ⟨hb,C,hC,R,hR,h⟩:=cond_prop h;exact ⟨_,h,fun f=>by simp only [hc];exact L2 rh ⟨row,jE,hK,L2 hb ⟨C,hC,R,hR,rfl⟩⟩,z_ _⟩
   ·cases h
  ·cases h
 ·cases h
def abi {id m n:Nat} {late:List Nat} {ops:Array Oper} {st:ah} {K:ah→Prop} (hT:bL P T) (hm:P.follows .mixedOrders=true) (qi:HR m late ops=true)
  (h:rX P T n ops (steady m ops) ⟨preB (eB m ops) (jy (eB m ops) st).f,(jy (eB m ops) st).H⟩ fun st1=>tp P st1.f (ops.toList.take m)∧qU T n (eB m ops) st1 fun st1=>LZ T ops m st1 fun st2=>qs P T ops st2 late∧iW P T n ops (ops.toList.drop (m+1)) st2 K):He P n id ops st K:=by
 refine ⟨fun C hn a w de=>?_⟩;have hp:=agD qi;have hr:=Pt de;refine wpIn_region_any hm ?_;show wpAnyIn (fN C.ro) 0 P .any ops _ ops.size (og ops.size false) a w.drew;generalize w.drew=w at hr;clear de;obtain ⟨F,β,hs,hd,hf,he⟩:=hr
 obtain ⟨av,uI,fw,zp,acX⟩:=My (eB m ops) (fun d t h=>by
  obtain ⟨o,NO,ho⟩:=mi.1 h;obtain ⟨i,hi,aB⟩:=oQ.1 NO
  exact hp.low i o d hi aB (kI ho).1) hf he
 have y_:xQ ops (steady m ops):=by simpa [steady] using hp.V1 m 0 (by omega)
 obtain ⟨fe,lI,hb,Φ,bU⟩:=Rl (steady m ops) _ y_ h
 have dP:((eB m ops).map (·.1)).Nodup:=by simpa [eB] using Sx hp.toPlan0 m 0 (by omega)
 have eU:∀d t,(d,t)∈eB m ops→∀c,(d,c)∉(jy (eB m ops) st).H:=fun d t hm=>acX d (.inr ⟨t,hm⟩);obtain ⟨fA,HA,q_,MT,D_,Ea,Iw⟩:=L4 (eB m ops) ⟨fe,(jy (eB m ops) st).H⟩ hb.2 dP eU fw.inv.keys;generalize hHm:(jy (eB m ops) st).H=Hm at *
 have jW:∀{d t},(d,t)∈eB m ops↔∃i o,i<m∧ops[i]?=some o∧dY o=some (d,t):=by
  intro d t;constructor
  ·intro h;obtain ⟨o,ho,aS⟩:=mi.1 h;obtain ⟨i,hi,ho⟩:=oQ.1 ho;exact ⟨i,o,hi,ho,aS⟩
  ·rintro ⟨i,o,hi,ho,aS⟩;exact mi.2 ⟨o,oQ.2 ⟨i,hi,ho⟩,aS⟩
 have BK:∀{i o},i<m→ops[i]?=some o→dY o=none→o∈steady m ops:=fun hi ho aS=>eD.2 ⟨oQ.2 ⟨_,hi,ho⟩,by simp [aS]⟩
 have Ec:∀t,(∀j o' ty,j<m→ops[j]?=some o'→dY o'≠some (t,ty))→fA t=fe t:=fun t ht=>MT t fun ty hm=>by
  obtain ⟨j,o',hj,aB,aS⟩:=jW.1 hm;exact ht j o' ty hj aB aS
 have Eb:∀t,(∀j o' ty,j<m→ops[j]?=some o'→dY o'=some (t,ty)→rM o'=true)→fA t=fe t:=fun t ht=>by
  by_cases hex:∃j o' ty,j<m∧ops[j]?=some o'∧dY o'=some (t,ty)
  ·obtain ⟨j,o',ty,hj,aB,aS⟩:=hex;have gJ:=ht j o' ty hj aB aS;unfold rM at gJ;rw [aS] at gJ;cases ty with
   |some y=>cases gJ
   |none =>
    have hm:=jW.2 ⟨j,o',hj,aB,aS⟩;obtain ⟨_,c,hc,Nr⟩:=D_ t none hm
    have Ns:fe t=.o t:=by
     rw [lI t fun o ho=>by
      obtain ⟨i,hi,Ey⟩:=oQ.1 (eD.1 ho).1;intro bH;have:=hp.one i o j o' t hi hj Ey aB bH (kI aS).1;subst this;rw [Ey] at aB;cases aB;have:=(eD.1 ho).2
      simp [aS] at this]
     exact JT gJ dP hm
    have db:w8 t c=.o t:=by
     have fP:w9 CH.ch t=some c:=hc;have zk:xe t=true:=gJ;unfold xe at zk;rw [fP] at zk
     cases c<;>first|rfl|cases zk
    rw [Nr,db,Ns]
  ·exact Ec t fun j o' ty hj aB aS=>hex ⟨j,o',ty,hj,aB,aS⟩
 have lt:∀{i o},ops[i]?=some o→i<ops.size:=fun h=>(lB.1 h).1;obtain ⟨om,By⟩:∃om,ops[m]?=some om:=⟨_,gz hp.lt⟩;unfold LZ at q_;rw [By] at q_;simp only at q_;split at q_
 case h_2=>exact q_.elim
 rename_i ts xs ys NY;obtain ⟨H',⟨NM,hK⟩,bT,MW⟩:=abD q_;let T0:Nat→Option Nat→Chunk→Prop:=fun _ _ _=>False
 have UN:(H'.map (·.1)).Nodup:=by rw [MW];exact Ea
 have acb:∀{listed:Array Bool} {a:Act} {w:World} {F β},(∀i o,i<m→ops[i]?=some o→dY o≠none→listed.getD i false=true)→a.tmps.size=C.n→True→XM C a.defers w F β H' →
   (∀t,(∀i o,i<m→ops[i]?=some o→o.dst=some t→listed.getD i false=true)→Rd w F β (fA t) (a.tmps.getD t undef))→ot C T0 ops m fA H' listed a w :=
  fun aS h1 h2 h3 h4=>⟨_,_,_,h1,h2,h3,fun x=>⟨.inl,fun h=>h.elim (fun h=>h) fun ⟨i,o,d,t,z,_,_,_,_,hz,_⟩=>by cases hz⟩,
   ⟨fun i o d t hi ho ha hl=>(by rw [aS i o hi ho (by rw [ha];simp)] at hl;cases hl),h4⟩⟩
 have T9:∀{listed:Array Bool} {a:Act} {w:World},ot C T0 ops m fA H' listed a w→∃F β,a.tmps.size=C.n∧True∧XM C a.defers w F β H' ∧
   (∀t,(∀i o,i<m→ops[i]?=some o→o.dst=some t→listed.getD i false=true)→Rd w F β (fA t) (a.tmps.getD t undef)):=fun hh=>by
  obtain ⟨F1,du,H1,g1,g2,g3,g4,g5,g6⟩:=hh.ex;refine ⟨F1,du,g1,g2,g3.AP (fun x=>?_) UN,g6⟩;rw [g4 x];exact ⟨.inl,fun h=>h.elim (fun h=>h) fun ⟨i,o,d,t,z,_,_,_,_,hz,_⟩=>by cases hz⟩
 have key:∀fuel (listed:Array Bool) (a:Act) (w:World),listed.size=ops.size→listed.toList.count false≤fuel →
   (∀i o,listed.getD i false=true→ops[i]?=some o→∀e,e∈o.after→jK .any e=true→listed.getD e.on false=true) →
   (((∀i,m≤i→listed.getD i false=false)∧ot C (lD T) ops m fA Hm listed a w) ∨
    (listed.getD m false=true∧(∀i,m<i→listed.getD i false=false)∧ot C T0 ops m fA H' listed a w) ∨
    ∃k,m<k∧k≤ops.size∧(∀i,i<ops.size→(listed.getD i false=true↔i<k))∧∃st,Rel C st a w∧iW P T n ops (ops.toList.drop k) st K) →
   wpAnyIn (fN C.ro) 0 P .any ops (fun e a' w'=>∃au,Rel C au a' w'∧(match e with|.normal=>K au|_=>False)) fuel listed a w:=by
  intro fuel;induction fuel with
  |zero =>
   intro listed a w aX wD di ry
   have ed:∀i,i<ops.size→listed.getD i false=true:=fun i hi=>by
    have h0:listed.toList.count false=0:=by omega
    have bm:i<listed.size:=by omega
    have bC:listed[i]∈listed.toList:=by simp
    cases hb:listed[i] with
    |true=>simp [bm,hb]
    |false=>rw [hb] at bC;exact absurd bC (Z2.1 h0)
   have rC:lY .any ops listed=[]:=by
    apply Av.2;intro i hi;obtain ⟨h1,o,ho,_⟩:=mem_ready.1 hi;have:=ed i (lt ho)
    have bm:i<listed.size:=by have:=lt ho;omega
    simp [bm] at h1 this;rw [h1] at this;cases this
   refine ⟨rC,?_⟩
   rcases ry with ⟨gI,_⟩|⟨_,gI,jB⟩|⟨k,fR,fx,nK,au,iR,hw⟩
   ·have:=gI m (bG _);rw [ed m hp.lt] at this;cases this
   ·have jS:m+1=ops.size:=by
     rcases gP (m+1) ops.size with h|h
     ·have:=gI (m+1) (by omega);rw [ed (m+1) h] at this;cases this
     ·have:=hp.lt;omega
    obtain ⟨F1,du,g1,g2,g3,g6⟩:=T9 jB;refine ⟨⟨fA,H'⟩,⟨F1,du,g1,g2,fun t=>g6 t fun i o hi _ _=>ed i (by omega),g3⟩,?_⟩;rw [jS] at hK;exact CW hK
   ·have iv:k=ops.size:=by
     rcases gP k ops.size with h|h
     ·have:=(nK k h).1 (ed k h);omega
     ·omega
    refine ⟨au,iR,?_⟩;rw [iv] at hw;exact CW hw
  |succ fuel ih =>
   intro listed a w aX wD di ry
   have yI:∀i,i<ops.size→(∀o,ops[i]?=some o→∀e,e∈o.after→jK .any e=true→listed.getD e.on false=true)→∀j,j<ops.size→iO ops i j=true→listed.getD j false=true:=by
    intro i;induction i using uk with
    |_ i rD =>
     intro hi fQ j hj gZ;obtain ⟨e,bE,cT,h⟩:=hp.step i _ j (gz hi) hj gZ;have hl:=fQ _ (gz hi) e bE cT;have s5:=hp.dec i _ (gz hi) e bE cT
     rcases h with h|h
     ·rw [←h];exact hl
     ·exact rD e.on s5 (by omega) (fun o ho=>di e.on o hl ho) j hj h
   have rR:∀{i o},i∈lY .any ops listed→ops[i]?=some o→listed.getD i false=false∧∀e,e∈o.after→jK .any e=true→listed.getD e.on false=true:=fun hi ho=>by
    obtain ⟨h1,o',aB,h2⟩:=mem_ready.1 hi;rw [ho] at aB;cases aB;have:=lt ho;refine ⟨?_,h2⟩;have bm:=lt ho;rw [←aX] at bm;simpa [bm] using h1
   have isReady:∀{i o},ops[i]?=some o→listed.getD i false=false→(∀j,j<i→listed.getD j false=true)→i∈lY .any ops listed:=fun ho h1 h2=>by
    refine mem_ready.2 ⟨?_,_,ho,fun e he hb=>h2 _ (hp.dec _ _ ho e he hb)⟩;have bm:=lt ho;rw [←aX] at bm;simpa [bm] using h1
   have next:∀i,i<ops.size→listed.getD i false=false→(listed.setIfInBounds i true).size=ops.size∧(listed.setIfInBounds i true).toList.count false≤fuel:=fun i hi h1=>by
    refine ⟨by simpa using aX,?_⟩
    have bm:i<listed.size:=by omega
    have h2:listed.toList[i]?=some false:=by
     have:listed[i]=false:=by simpa [bm] using h1
     simp [bm,this]
    have:=count_set listed.toList i h2;simp only [ZI];omega
   have sA:∀i o,ops[i]?=some o→(∀e,e∈o.after→jK .any e=true→listed.getD e.on false=true) →
     ∀j o',(listed.setIfInBounds i true).getD j false=true→ops[j]?=some o'→∀e,e∈o'.after→jK .any e=true→(listed.setIfInBounds i true).getD e.on false=true:=fun i o ho fQ j o' hj aB e bE cT=>by
    have bm:i<listed.size:=by rw [aX];exact lt ho
    rw [fD bm] at hj ⊢;split
    ·rfl
    ·split at hj
     ·rename_i e2;subst e2;rw [ho] at aB;cases aB;exact fQ e bE cT
     ·exact di j o' hj aB e bE cT
   have least:∀(q:Nat),(¬∀i,i<q→listed.getD i false=true)→∃i,i<q∧listed.getD i false=false∧∀j,j<i→listed.getD j false=true:=fun q pJ=>by
    have:∃i,i<q∧listed.getD i false=false:=by
     refine xC fun bw=>pJ fun i hi=>?_;cases hb:listed.getD i false
     ·exact absurd ⟨i,hi,hb⟩ bw
     ·rfl
    obtain ⟨i,hi,hb⟩:=this;induction i using uk with
    |_ i rD =>
     by_cases ed:∀j,j<i→listed.getD j false=true
     ·exact ⟨i,hi,hb,ed⟩
     ·have:∃j,j<i∧listed.getD j false=false:=by
       refine xC fun bw=>ed fun j hj=>?_;cases hb:listed.getD j false
       ·exact absurd ⟨j,hj,hb⟩ bw
       ·rfl
      obtain ⟨j,hj,El⟩:=this;exact rD j hj (by omega) El
   have Mf:∀{i o},ops[i]?=some o→(∀e,e∈o.after→jK .any e=true→listed.getD e.on false=true)→∀j,j<ops.size→iO ops i j=true→listed.getD j false=true :=
    fun ho fQ j hj hd=>yI _ (lt ho) (fun o' aB=>by rw [ho] at aB;cases aB;exact fQ) j hj hd
   have Yz:(∃k,m<k∧k≤ops.size∧(∀i,i<ops.size→(listed.getD i false=true↔i<k))∧∃st,Rel C st a w∧iW P T n ops (ops.toList.drop k) st K) →
     wpAnyIn (fN C.ro) 0 P .any ops (fun e a' w'=>∃au,Rel C au a' w'∧(match e with|.normal=>K au|_=>False)) (fuel+1) listed a w:=by
    rintro ⟨k,fR,fx,nK,au,iR,hw⟩
    rcases gP k ops.size with iv|iv
    ·have ze:ops[k]?=some ops[k]:=gz iv
     have yY:listed.getD k false=false:=by
      cases hb:listed.getD k false
      ·rfl
      ·have:=(nK k iv).1 hb;omega
     have kZ:=isReady ze yY fun j hj=>(nK j (by omega)).2 hj;refine ⟨fun h0=>(by rw [h0] at kZ;cases kZ),fun i hi=>?_⟩;obtain ⟨_,o,ho,_⟩:=mem_ready.1 hi;obtain ⟨dS,fQ⟩:=rR hi ho
     have nI:i=k:=by
      have h1:¬i<k:=fun h=>by rw [(nK i (lt ho)).2 h] at dS;cases dS
      rcases gP k i with h2|h2
      ·have:=Mf ho fQ k iv (hp.tail i k (by omega) (lt ho) h2);rw [this] at yY;cases yY
      ·omega
     subst nI;rw [drop_cons iv] at hw;rw [ho] at ze;cases ze;obtain ⟨mV,lK⟩:=next i iv dS;refine vz (K:=fun st=>iW P T n ops (ops.toList.drop (i+1)) st K) hT hn ho iR (fun st2 a2 w2 oJ NI=>?_) hw;refine ih _ a2 w2 mV lK (sA i _ ho fQ) (.inr (.inr ⟨i+1,by omega,by omega,fun j hj=>?_,st2,oJ,NI⟩))
     have bm:i<listed.size:=by rw [aX];exact iv
     rw [fD bm];split
     ·rename_i e2;subst e2;simp
     ·rw [nK j hj];omega
    ·have ed:∀i,i<ops.size→listed.getD i false=true:=fun i hi=>(nK i hi).2 (by omega)
     have rC:lY .any ops listed=[]:=by
      apply Av.2;intro i hi;obtain ⟨_,o,ho,_⟩:=mem_ready.1 hi;obtain ⟨dS,_⟩:=rR hi ho;rw [ed i (lt ho)] at dS;cases dS
     refine ⟨fun _=>⟨au,iR,?_⟩,fun i hi=>by rw [rC] at hi;cases hi⟩
     have:k=ops.size:=by omega
     rw [this] at hw;exact CW hw
   rcases ry with ⟨gI,jB⟩|⟨IS,gI,jB⟩|ry
   ·-- Gw store is to alg
    have NQ:=gI m (bG _)
    obtain ⟨i0,rh,ep,yG⟩:=least (m+1) fun hh=>by have:=hh m (by omega);rw [NQ] at this;cases this
    have yS:i0<ops.size:=by have:=hp.lt;omega
    have de:=isReady (gz yS) ep yG;refine ⟨fun h0=>(by rw [h0] at de;cases de),fun i hi=>?_⟩;obtain ⟨_,o,ho,_⟩:=mem_ready.1 hi;obtain ⟨dS,fQ⟩:=rR hi ho;have gZ:=Mf ho fQ;obtain ⟨mV,lK⟩:=next i (lt ho) dS
    have iF:i≤m:=by
     rcases gP m i with h|h
     ·have:=gZ m hp.lt (hp.tail i m h (lt ho) h);rw [this] at NQ;cases NQ
     ·exact h
    have bm:i<listed.size:=by rw [aX];exact lt ho
    rcases gP i m with iF|iF
    ·have cont:∀a w,ot C (lD T) ops m fA Hm (listed.setIfInBounds i true) a w→wpAnyIn (fN C.ro) 0 P .any ops (fun e a' w'=>∃au,Rel C au a' w'∧(match e with|.normal=>K au|_=>False)) fuel (listed.setIfInBounds i true) a w:=fun a2 w2 hh=>by
      refine ih _ a2 w2 mV lK (sA i o ho fQ) (.inl ⟨fun j hj=>?_,hh⟩);rw [fD bm];split
      ·omega
      ·exact gI j hj
     cases aS:dY o with
     |none=>exact M5 hT hn hp.toPlan0.s aX iF ho aS dS (fun j hj hd=>gZ j (by have:=hp.lt;omega) hd) Eb fw.inv.keys (bU o (BK iF ho aS)) (Φ o (BK iF ho aS)) jB cont
     |some x =>
      obtain ⟨d,t⟩:=x;obtain ⟨q2,c,yJ,q1⟩:=D_ d t (jW.2 ⟨i,o,iF,ho,aS⟩);cases t with
      |some t =>
       obtain ⟨z,q3,q4,rfl⟩:=yJ;exact T7 hT hn hp.toPlan0 aX iF ho aS dS q3 q4 q1 q2 (eU d _ (jW.2 ⟨i,o,iF,ho,aS⟩)) jB cont
      |none =>
       obtain ⟨c',fP,rq⟩:=Jq hb.1 (oQ.2 ⟨i,iF,ho⟩) aS;obtain rfl:c'=c:=lD.uniq (T:=T) (x:=none) fP yJ;exact T8 hn hp.toPlan0 aX iF ho aS dS (fun j hj hd=>gZ j (by have:=hp.lt;omega) hd) Eb yJ rq q1 q2 (eU d _ (jW.2 ⟨i,o,iF,ho,aS⟩)) jB cont
    ·obtain rfl:i=m:=by omega
     rw [By] at ho;cases ho
     have T_:∀j o',j<i→ops[j]?=some o'→dY o'≠none→listed.getD j false=true:=fun j o' hj aB ha=>by
      rcases hp.late j o' hj aB with h|h
      ·exact gZ j (lt aB) h
      ·exact absurd h.1 ha
     obtain ⟨F1,du,g1,g2,g3,g6⟩:∃F β,a.tmps.size=C.n∧True∧XM C a.defers w F β HA ∧
       (∀t,(∀j o,j<i→ops[j]?=some o→o.dst=some t→listed.getD j false=true)→Rd w F β (fA t) (a.tmps.getD t undef)):=by
      obtain ⟨F1,du,H1,g1,g2,g3,g4,g5,g6⟩:=jB.ex;refine ⟨F1,du,g1,g2,g3.AP (fun x=>?_) Ea,g6⟩;rw [g4 x,Iw x];constructor
      ·rintro (h|⟨d,t,z,h1,h2,h3⟩)
       ·exact .inl h
       ·obtain ⟨j,o',hj,aB,aS⟩:=jW.1 h1;exact .inr ⟨j,o',d,t,z,hj,T_ j o' hj aB (by rw [aS];simp),aB,aS,h2,h3⟩
      ·rintro (h|⟨j,o',d,t,z,hj,_,aB,aS,h2,h3⟩)
       ·exact .inl h
       ·exact .inr ⟨d,t,z,jW.2 ⟨j,o',hj,aB,aS⟩,h2,h3⟩
     obtain ⟨fp,eu⟩:=hp.store _ By
     obtain ⟨known,UO,yX⟩:∃known:Nat→AV,(∀t,(∀j o,j<i→ops[j]?=some o→o.dst=some t→listed.getD j false=true)→known t=fA t)∧∀t,Rd w F1 du (known t) (a.tmps.getD t undef):=by
      classical
      refine ⟨fun t=>if ∀j o,j<i→ops[j]?=some o→o.dst=some t→listed.getD j false=true then fA t else .χ,fun t ht=>if_pos ht,fun t=>?_⟩;simp only;split
      ·rename_i hh;exact g6 t hh
      ·exact .χ
     have Bl:∀t,t∈om.looksAt ops→known t=fA t:=fun t ht=>UO t fun j o' hj aB bH=>by
      exact gZ j (by have:=lt aB;omega) (hp.aeu om t j o' By ht hj aB bH)
     have wG:∀x,x∈om.op.operands→ev known x=ev fA x:=fun x hx=>by
      cases x with
      |tmp t=>exact Bl t (qM _ (mi.2 ⟨.tmp t,by simpa using hx,rfl⟩))
      |_=>rfl
     have adz:gd n ops om ⟨known,HA⟩ (fun st=>step P T om st fun r au=>put n om.dst au r fun s=>s=⟨known,H'⟩) fun st=>put n om.dst st (.v undef) fun s=>s=⟨known,H'⟩:=by
      rw [sM,eu];have h1:=bT known;have e1:ev known xs=ev fA xs:=wG xs (by rw [NY];simp [uo]);have e2:ev known ys=ev fA ys:=wG ys (by rw [NY];simp [uo])
      have h2:wg T ts (ev known xs) (ev known ys) ⟨known,HA⟩ fun r au=>put n om.dst au r fun s=>s=⟨known,H'⟩:=by
       rw [e1,e2,fp]
       have:(fun (r:AV) (au:ah)=>put n none au r fun s=>s=⟨known,H'⟩)=fun _ au=>au=⟨known,H'⟩:=by
        funext r au;rw [put_eq]
       rw [this];exact h1
      have h3:step P T om ⟨known,HA⟩ (fun r au=>put n om.dst au r fun s=>s=⟨known,H'⟩)=Cw P T om ⟨known,HA⟩ fun r au=>put n om.dst au r fun s=>s=⟨known,H'⟩:=by
       unfold step;rw [fp];rfl
      show step P T om ⟨known,HA⟩ _;rw [h3];unfold Cw;rw [NY];exact h2
     refine vz (st:=⟨known,HA⟩) (K:=fun s=>s=⟨known,H'⟩) hT hn By ⟨F1,du,g1,g2,yX,g3⟩ (fun st2 a2 w2 oJ fx=>?_) adz;subst fx;obtain ⟨F2,bX,q1,q2,q3,q4⟩:=oJ;refine ih _ a2 w2 mV lK (sA i om By fQ) (.inr (.inl ⟨by rw [fD bm,if_pos rfl],fun j hj=>?_,acb (fun j o' hj aB ha=>by rw [fD bm];split;rfl;exact T_ j o' hj aB ha) q1 q2 q4 fun t ht=>?_⟩))
     ·rw [fD bm,if_neg (by omega)];exact gI j (by omega)
     ·have h1:=q3 t
      have:known t=fA t:=UO t fun j o' hj aB bH=>by
       have:=ht j o' hj aB bH;rwa [fD bm,if_neg (by omega)] at this
      rw [←this];exact h1
   ·-- Gw store is done
    by_cases pJ:∀i,i<m→listed.getD i false=true
    ·refine Yz ⟨m+1,by omega,by have:=hp.lt;omega,fun i hi=>⟨fun h=>?_,fun h=>?_⟩,⟨fA,H'⟩,?_,hK⟩
     ·rcases gP m i with h1|h1
      ·rw [gI i h1] at h;cases h
      ·omega
     ·rcases gP i m with h1|h1
      ·exact pJ i h1
      ·obtain rfl:i=m:=by omega
       exact IS
     ·obtain ⟨F1,du,g1,g2,g3,g6⟩:=T9 jB;exact ⟨F1,du,g1,g2,fun t=>g6 t fun i o hi _ _=>pJ i hi,g3⟩
    ·obtain ⟨i0,rh,ep,yG⟩:=least m pJ
     have yS:i0<ops.size:=by have:=hp.lt;omega
     have de:=isReady (gz yS) ep yG;refine ⟨fun h0=>(by rw [h0] at de;cases de),fun i hi=>?_⟩;obtain ⟨_,o,ho,_⟩:=mem_ready.1 hi;obtain ⟨dS,fQ⟩:=rR hi ho;have gZ:=Mf ho fQ;obtain ⟨mV,lK⟩:=next i (lt ho) dS
     have bm:i<listed.size:=by rw [aX];exact lt ho
     have iF:i<m:=by
      rcases gP m i with h|h
      ·have:=gZ i0 yS (hp.tail i i0 h (lt ho) (by omega));rw [this] at ep;cases ep
      ·rcases gP i m with h2|h2
       ·exact h2
       ·obtain rfl:i=m:=by omega
        rw [IS] at dS;cases dS
     obtain ⟨aS,ada⟩:dY o=none∧vR P T ops H' fA o:=by
      rcases hp.late i o iF ho with h|h
      ·have:=yI m hp.lt (fun o ho=>di m o IS ho) i (by omega) h;rw [this] at dS;cases dS
      ·exact ⟨h.1,ON NM i o h.2 ho⟩
     refine M5 hT hn hp.toPlan0.s aX iF ho aS dS (fun j hj hd=>gZ j (by have:=hp.lt;omega) hd) (fun _ _=>rfl) UN ada (Φ o (BK iF ho aS)) jB fun a2 w2 hh=>?_;refine ih _ a2 w2 mV lK (sA i o ho fQ) (.inr (.inl ⟨?_,fun j hj=>?_,hh⟩))
     ·rw [fD bm];split
      ·rfl
      ·exact IS
     ·rw [fD bm,if_neg (by omega)];exact gI j hj
   ·exact Yz ry
 have rep:∀i,(og ops.size false).getD i false=false:=fun i=>by
  simp only [lA,ZG];split<;>rfl
 refine key ops.size _ a w (by simp) (by simp) (fun i o hi=>by rw [rep] at hi;cases hi) (.inl ⟨fun i _=>rep i,F,av,Hm,hs,hd,fw,fun x=>⟨.inl,fun h=>?_⟩,fun i o d t hi ho aS _=>zp d (.inr ⟨t,jW.2 ⟨i,o,hi,ho,aS⟩⟩),fun t ht=>?_⟩)
 ·rcases h with h|⟨i,o,d,t,z,h1,h2,_⟩
  ·exact h
  ·rw [rep] at h2;cases h2
 ·have bw:∀i o,i<m→ops[i]?=some o→o.dst≠some t:=fun i o hi ho bH=>by
   have:=ht i o hi ho bH;rw [rep] at this;cases this
  rw [Ec t fun j o' ty hj aB aS=>bw j o' hj aB (kI aS).1,lI t fun o ho=>by
   obtain ⟨i,hi,aB⟩:=oQ.1 (eD.1 ho).1
   exact bw i o hi aB]
  show Rd _ _ _ (preB (eB m ops) (jy (eB m ops) st).f t) _
  rw [Fw fun x hx=>by
   obtain ⟨j,o',hj,aB,aS⟩:=jW.1 hx
   exact bw j o' hj aB (kI aS).1]
  exact uI t
end
end
section
open Go.RowKit
variable [M:cM] [G:dX]
section
variable {P:Program} {T:TT} {w:World} {F:Nat→Prop} {β:Nat→Value}
def H6 {st:ah} {w':World} {F':Nat→Prop} {d:Nat} {c:Chunk} {v:Value} (hd:d<1000) (hI:Inv w F β st.H) (hb:Below w.heap.size w w') (ke:∀b,F b→F' b) (uE:∀b,F' b→fF F w w' b)
  (eU:∀b,bP v=some b→w.heap.size≤b∧¬F' b) (hc:c.holds w' F' (fun i=>if i=d then v else β i) d) :
  Ext w F β st w' F' (fun i=>if i=d then v else β i) (gR st d c):=by
 have ai:∀i,i≠d→(fun i=>if i=d then v else β i) i=β i:=fun i hi=>if_neg hi;have ha:ga F w w':=Below.agree hb hI.cA
 have db:∀b,bD (fun i=>if i=d then v else β i) ((d,c)::gY d st.H) b→(w.heap.size≤b∧¬F' b)∨bD β st.H b:=by
  rintro b ⟨i,c',hm,aJ⟩
  rcases bj.1 hm with hm|hm
  ·cases hm;simp only [if_true] at aJ;exact .inl (eU b aJ)
  ·obtain ⟨hi,c2,h2,_⟩:=ir hm;simp only [if_neg hi] at aJ;exact .inr ⟨i,c2,h2,aJ⟩
 refine ⟨hb.os,hb.tape,hb.output,hb.size,fun b h _=>hb.block b h,ke,fun b h=>(uE b h).elim .inl fun h=>.inr (.inl h.1),fun b h=>(db b h).elim (fun h=>.inl h.1) .inr,fun t u h=>sH ai 2 (h.frame ha ke),?_,fun i hi=>ai i (by omega)⟩;refine ⟨fun b h=>(uE b h).elim (fun h=>oh (hI.cA b h) hb.size) fun h=>h.2,?_,?_,fun b ho hF=>?_,?_,hI.fh.frame ha ke⟩
 ·intro i c' hm
  rcases bj.1 hm with hm|hm
  ·cases hm;exact hc
  ·obtain ⟨hi,c2,h2,rfl⟩:=ir hm;exact IX hi ai (pH ha ke (fun b aJ=>hb.block b (hI.fJ ⟨i,c2,h2,aJ⟩)) (hI.holds i c2 h2))
 ·show ((d::(gY d st.H).map (·.1))).Nodup;rw [ix];refine ⟨fun hm=>?_,DI hI.keys⟩;obtain ⟨x,hx,lN⟩:=dq.1 hm;obtain ⟨i,c'⟩:=x;exact (ir hx).1 lN
 ·rcases db b ho with h|h
  ·exact h.2 hF
  ·rcases uE b hF with h1|h1
   ·exact hI.apart b h h1
   ·exact absurd (hI.fJ h) (mr.2 h1.1)
 ·have key:∀i c' b,(i,c')∈gY d st.H→bP (β i)=some b→bP v=some b→False:=fun i c' b hm cT hv=>by
   obtain ⟨hi,c2,h2,_⟩:=ir hm;exact absurd (hI.fJ ⟨i,c2,h2,cT⟩) (mr.2 (eU b hv).1)
  intro i c1 i' p9 b hm bQ cT aJ
  rcases bj.1 hm with hm|hm<;>rcases bj.1 bQ with bQ|bQ
  ·cases hm;cases bQ;rfl
  ·cases hm;simp only [if_true] at cT;simp only [if_neg (ir bQ).1] at aJ;exact (key i' p9 b bQ aJ cT).elim
  ·cases bQ;simp only [if_true] at aJ;simp only [if_neg (ir hm).1] at cT;exact (key i c1 b hm cT aJ).elim
  ·obtain ⟨hi,c2,h2,_⟩:=ir hm;obtain ⟨bm,AJ,iB,_⟩:=ir bQ;simp only [if_neg hi] at cT;simp only [if_neg bm] at aJ;exact hI.eo i c2 i' AJ b h2 iB cT aJ
def iN (P:Program) (g:FuncId) (args:List AV) (E K:Nat) (rows:List (List AV)):Prop :=
 p7 P g∧∀(w:World) (F:Nat→Prop) (β:Nat→Value) (vs:Array Value),Inv w F β []→vs.size=args.length→(∀i,i<args.length→Rd w F β (args.getD i .χ) (vs.getD i undef)) →
  Calls P g vs w fun e w'=>∃v,e=.returned v∧Below w.heap.size w w'∧∃F',(∀b,F b→F' b)∧(∀b,F' b→fF F w w' b)∧Chunk.holds w' F' (fun _=>v) 0 (.own E K rows)∧(∃a n c,v=.slice a n c) ∧
   ∀b,bP v=some b→w.heap.size≤b∧¬F' b
def LN (E K:Nat) (rows:List (List AV)) (x:AV) (st:ah):Prop :=
 (x=.v (.slice none 0 0)∧rows=[])∨∃id,x=.o id∧dO id st.H=some (.own E K rows)
def JF {id:Nat} {E K:Nat} {rows:List (List AV)} (h:Chunk.holds w F β id (.own E K rows)):∀(av:Nat→Value) (i:Nat),av i=β id→Chunk.holds w F av i (.own E K rows):=by
 intro av i hi;unfold Chunk.holds at *;rw [hi];exact h
def ae.own {g:FuncId} {xs ys:List AV} {st:ah} {E K D:Nat} {rows:List (List AV)} {k:AV→ah→Prop} (h:iN P g ys E K rows) (hle:iz xs ys) (hD:eO D 1000=true) (hk:k (.o D) (gR st D (.own E K rows))):ae P g xs st k:=by
 obtain ⟨hl,hz⟩:=hle.spec;refine ⟨h.1,fun w F β vs hI hs hv=>(h.2 w F β vs hI.nil (by omega) fun i hi=>hz i (by omega) _ _ _ _ (hv i (by omega))).mono ?_⟩;rintro e w' ⟨v,rfl,hb,F',h1,h2,h3,⟨a,m,c,rfl⟩,h4⟩;exact ⟨_,rfl,.o D,_,F',_,hk,.o (by simp),H6 (by simpa using hD) hI hb h1 h2 h4 (JF h3 _ _ (by simp))⟩
def iN.makes {g:FuncId} {args:List AV} {E K:Nat} {rows:List (List AV)} (h:iN P g args E K rows):LP P g args (.own E K rows) :=
 ⟨h.1,fun w F β vs hI hs hv=>(h.2 w F β vs hI hs hv).mono fun e w'=>by
  rintro ⟨v,rfl,hb,F',hm,hn,hc,⟨a,n,c,rfl⟩,hf⟩
  exact ⟨_,rfl,hb,F',hm,hn,fun av i hi=>⟨JF hc av i hi,.o hi⟩,hf⟩⟩
def iN.pure {g:FuncId} {args:List AV} {E K:Nat} {rows:List (List AV)} (h:iN P g args E K rows):Pure P g args (.s rows):=by
 refine ⟨h.1,fun w F β vs hI hs hv=>(h.2 w F β vs hI hs hv).mono ?_⟩;rintro e w' ⟨v,rfl,hb,F',h1,h2,h3,⟨a,m,c,rfl⟩,h4⟩;refine ⟨_,rfl,hb,?_⟩
 rcases h3 with ⟨rfl,a',hv⟩|⟨g',cap,cur,hv,hc,hg,hn,gu,aX,hK,hr⟩
 ·cases hv;exact .s0
 ·cases hv
  have h0:aH c 0=false:=by cases c<;>first|rfl|omega
  have gI:=(h4 g' (by simp [bP,h0])).1;refine .s (off:=0) (k:=K) (u:=fun i j=>cur.getD (i*K+j) undef) (.inr ⟨gI,kJ hg⟩) hn gu hK (fun i j hi hj=>?_) (fun i j hi hj=>(hr i j hi hj).1) fun i j hi hj=>(hr i j hi hj).2.frame (fun _ _=>rfl) h2;rw [jJ,cell_of_row w' g' _ cur E (0,0) hg]
  have:i*K+j<cur.size:=by
   rw [aX]
   calc i*K+j<i*K+K:=by omega
    _=(i+1)*K:=by rw [bM];omega
    _≤c*K:=Nat.mul_le_mul_right _ (by omega)
  simp [this]
end
abbrev vi (n:Int):AV:=.v (.int .i64 n)
abbrev vb (b:Bool):AV:=.v (.bool b)
abbrev bs (l:List UInt8):AV:=.s (l.map lF)
def encI (n:Int):List AV:=[.v (.int .i64 n)]
abbrev is (l:List Int):AV:=.s (l.map encI)
def Fz.v' {H:Hp} {x y:Value} (h:x=y):Fz H (.v x) (.v y):=h▸Fz.v
def Fz.s' {H:Hp} {x y:List (List AV)} (h:x=y):Fz H (.s x) (.s y):=h▸Fz.s
def gy {α:Type} {f:α→List AV} {n:Nat} (h:∀x,(f x).length=n) (l:List α):o9 (l.map f) n:=fun r hr=>by
 obtain ⟨x,_,rfl⟩:=dq.1 hr;exact h x
end
section
open Go.ChangeShapes Go.WideShapes Go.RowKit
variable [M:cM] [G:dX]
mutual
inductive eY (P:Program):TypeId→List AV→Prop where
 |bool {t:TypeId} {b:Bool} (h:P.underlying t=some .bool):eY P t [.v (.bool b)]
 |int {t:TypeId} {k:IntKind} {n:Int} (h:P.underlying t=some (.int k)) (hn:(Lit.int k n).wf=true):eY P t [.v (.int k n)]
 |str {t:TypeId} {s:ByteArray} (h:P.underlying t=some .string) (hs:s.size≤maxLen):eY P t [.v (.string s)]
 |slice {t e:TypeId} {rows:List (List AV)} (h:P.underlying t=some (.slice e)) (hl:rows.length≤maxLen) (hk:∀r,r∈rows→r.length=P.cellsOf e) (hr:∀r,r∈rows→eY P e r):eY P t [.s rows]
 |struct {t:TypeId} {fs:Array Field} {xs:List AV} (h:P.underlying t=some (.struct fs)) (hf:my P (fs.toList.map (·.type)) xs):eY P t xs
 |arr {t e:TypeId} {n:Nat} {xs:List AV} (h:P.underlying t=some (.array n e)) (hf:my P (il n e) xs):eY P t xs
inductive my (P:Program):List TypeId→List AV→Prop where
 |nil:my P [] []
 |cons {t:TypeId} {ts:List TypeId} {xs ys:List AV} (h:eY P t xs) (hs:my P ts ys):my P (t::ts) (xs++ys)
end
def qQ (P:Program) (t:TypeId) (x:AV):Prop :=
 match P.underlying t with
 |some (.struct _)=>∃cs,x=.a cs∧eY P t cs
 |some (.array _ _)=>∃cs,x=.a cs∧eY P t cs
 |_=>eY P t [x]
inductive oo (P:Program):List TypeId→List AV→Prop where
 |nil:oo P [] []
 |cons {t:TypeId} {ts:List TypeId} {x:AV} {xs:List AV} (h:qQ P t x) (hs:oo P ts xs):oo P (t::ts) (x::xs)
def qw (P:Program):Nat→TypeId→Bool
 |0,_=>false
 |n+1,t=>match P.underlying t with
  |some .bool|some (.int _)|some .string=>true
  |some (.slice e)=>qw P n e&&eO 0 (P.cellsOf e)
  |some (.struct fs)=>fs.toList.all fun f=>qw P n f.type
  |some (.array _ e)=>qw P n e
  |_=>false
def jL (P:Program) (t:TypeId):Prop:=t<P.types.size∧∃n,qw P n t=true
def jL.slice {P:Program} (hl:laidOutB P=true) {t e:TypeId} (h:jL P t) (hu:P.underlying t=some (.slice e)):jL P e∧0<P.cellsOf e:=by
 obtain ⟨ht,n,hn⟩:=h;cases n with
 |zero=>cases hn
 |succ n =>
  simp only [qw,hu,bJ,gO] at hn;exact ⟨⟨kid_slice hl ht hu,n,hn.1⟩,hn.2⟩
def jL.struct {P:Program} (hl:laidOutB P=true) {t:TypeId} {fs:Array Field} (h:jL P t) (hu:P.underlying t=some (.struct fs)) :
  (∀f∈fs.toList,jL P f.type)∧P.cellsOf t=(fs.toList.map fun f=>P.cellsOf f.type).sum∧∀(j:Nat) f,fs.toList[j]?=some f→f.offset=((fs.toList.take j).map fun f=>P.cellsOf f.type).sum:=by
 obtain ⟨ht,n,hn⟩:=h;obtain ⟨h1,h2,h3⟩:=kid_struct hl ht hu;refine ⟨fun f hf=>⟨h1 f hf,?_⟩,h2,h3⟩;cases n with
 |zero=>cases hn
 |succ n =>
  simp only [qw,hu,ej] at hn;exact ⟨n,hn f hf⟩
def jL.array {P:Program} (hl:laidOutB P=true) {t e:TypeId} {k:Nat} (h:jL P t) (hu:P.underlying t=some (.array k e)):jL P e∧P.cellsOf t=k*P.cellsOf e:=by
 obtain ⟨ht,n,hn⟩:=h;obtain ⟨h1,h2⟩:=kid_array hl ht hu;cases n with
 |zero=>cases hn
 |succ n =>
  simp only [qw,hu] at hn;exact ⟨⟨h1,n,hn⟩,h2⟩
def jL.no {P:Program} {t:TypeId} (h:jL P t):(∀e,P.underlying t≠some (.pointer e))∧(∀k e,P.underlying t≠some (.map k e)):=by
 obtain ⟨_,n,hn⟩:=h;cases n with
 |zero=>cases hn
 |succ n=>refine ⟨fun e he=>?_,fun k e he=>?_⟩<;>simp [qw,he] at hn
def agC {P:Program} (hl:laidOutB P=true):Kids P (jL P) :=
 ⟨fun h hu=>(h.no.1 _ hu).elim,fun h hu=>(h.slice hl hu).1,fun h hu=>h.array hl hu,fun h hu=>h.struct hl hu,fun h hu=>(h.no.2 _ _ hu).elim⟩
section
variable {H:Type} {enc:TypeId×Value→H} {P:Program} {w:World} {base:Nat} {held:Bool}
abbrev Old (w:World):Nat→Prop:=fun b=>b<w.heap.size
structure Good (P:Program) (w:World) (D:List AV→Prop) (cs:List Value) (xs:List AV):Prop where
 len:xs.length=cs.length
 yo:D xs
 rd:∀i,i<cs.length→bh w (Old w) (xs.getD i .χ) (cs.getD i undef)∧(cs.getD i undef).oneCell'=true
def Good.one {D:List AV→Prop} {x:AV} {v:Value} (hd:D [x]) (hr:bh w (Old w) x v) (h1:v.oneCell'=true):Good P w D [v] [x] :=
 ⟨rfl,hd,fun i hi=>by
  have:i=0:=by simpa using hi
  subst this;exact ⟨hr,h1⟩⟩
def Good.app {t:TypeId} {ts:List TypeId} {a b:List Value} {xs ys:List AV} (h:Good P w (eY P t) a xs) (h':Good P w (my P ts) b ys):Good P w (my P (t::ts)) (a++b) (xs++ys):=by
 refine ⟨by simp [h.len,h'.len],.cons h.yo h'.yo,fun i hi=>?_⟩;by_cases Φ:i<a.length
 ·have e1:(xs++ys).getD i .χ=xs.getD i .χ:=by simp [aV,gK,h.len,Φ]
  have e2:(a++b).getD i undef=a.getD i undef:=by simp [aV,gK,Φ]
  rw [e1,e2];exact h.rd i Φ
 ·have e1:(xs++ys).getD i .χ=ys.getD (i-a.length) .χ:=by simp [aV,gK,h.len,Φ]
  have e2:(a++b).getD i undef=b.getD (i-a.length) undef:=by simp [aV,gK,Φ]
  rw [e1,e2];exact h'.rd _ (by rw [List.length_append] at hi;omega)
def TU {r:TypeId→List Value→Option (DataW H×List MemPlace)} (hr:∀t cs x,jL P t→r t cs=some x→∃xs,Good P w (eY P t) cs xs) :
  ∀(fs:List Field) (o:Nat) (cs:List Value),(∀f,f∈fs→jL P f.type)→(∀(j:Nat) f,fs[j]?=some f→f.offset=o+((fs.take j).map fun f=>P.cellsOf f.type).sum)→cs.length=o+(fs.map fun f=>P.cellsOf f.type).sum →
   (∀f,f∈fs→∃x,r f.type ((cs.drop f.offset).take (P.cellsOf f.type))=some x)→∃xs,Good P w (my P (fs.map (·.type))) (cs.drop o) xs
 |[],o,cs,_,_,hl,_=>by
  have:cs.drop o=[]:=qK (by simp at hl;omega);rw [this];exact ⟨[],rfl,.nil,fun i hi=>by simp at hi⟩
 |f::fs,o,cs,hp,ho,hl,hx=>by
  have h0:f.offset=o:=by simpa using ho 0 f rfl
  obtain ⟨x,Ow⟩:=hx f (by simp);obtain ⟨xs,hg⟩:=hr _ _ _ (hp f (by simp)) Ow;rw [h0] at hg
  obtain ⟨ys,Be⟩:=TU hr fs (o+P.cellsOf f.type) cs (fun g hg=>hp g (by simp [hg])) (fun j g hg=>by
   have:=ho (j+1) g (by simpa using hg)
   rw [this];simp;omega) (by simp at hl;omega) (fun g hg=>hx g (by simp [hg]))
  refine ⟨xs++ys,?_⟩
  have e:cs.drop o=(cs.drop o).take (P.cellsOf f.type)++cs.drop (o+P.cellsOf f.type):=by
   rw [←al5,xH]
  rw [e];exact hg.app Be
def Jn {α β:Type} {f:α→Option β} {l:List α} {r:List β} (h:l.mapM f=some r) {x:α} (hx:x∈l):∃y,f x=some y:=by
 cases hf:f x with
 |none=>rw [mapM_none_of hx hf] at h;cases h
 |some y=>exact ⟨y,rfl⟩
def TR {r:TypeId→List Value→Option (DataW H×List MemPlace)} (hr:∀t cs x,jL P t→r t cs=some x→∃xs,Good P w (eY P t) cs xs) {e:TypeId} (he:jL P e) :
  ∀(n o:Nat) (cs:List Value),cs.length=o+n*P.cellsOf e→(∀i,i<n→∃x,r e ((cs.drop (o+i*P.cellsOf e)).take (P.cellsOf e))=some x)→∃xs,Good P w (my P (il n e)) (cs.drop o) xs
 |0,o,cs,hl,_=>by
  have:cs.drop o=[]:=qK (by simp at hl;omega);rw [this];exact ⟨[],rfl,.nil,fun i hi=>by simp at hi⟩
 |n+1,o,cs,hl,hx=>by
  obtain ⟨x,Ow⟩:=hx 0 (Nat.succ_pos n);obtain ⟨xs,hg⟩:=hr _ _ _ he Ow;rw [Nat.zero_mul,Nat.add_zero] at hg
  obtain ⟨ys,Be⟩:=TR hr he n (o+P.cellsOf e) cs (by rw [hl,bM];omega) (fun i hi=>by
   have:=hx (i+1) (by omega)
   rwa [bM,Nat.one_mul,show o+(i*P.cellsOf e+P.cellsOf e)=o+P.cellsOf e+i*P.cellsOf e by omega] at this)
  refine ⟨xs++ys,?_⟩
  have e0:cs.drop o=(cs.drop o).take (P.cellsOf e)++cs.drop (o+P.cellsOf e):=by
   rw [←al5,xH]
  rw [e0,List.replicate_succ];exact hg.app Be
def ab7 {t e:TypeId} {a:Addr} {len cap:Nat} (hu:P.underlying t=some (.slice e)) (hk:0<P.cellsOf e) (nL:len≤cap) (nG:cap≤maxLen)
  (h:∀i,i<cap→∃ci,w.cells? base (a.add (i*P.cellsOf e)) (P.cellsOf e)=some ci∧∃xs,Good P w (eY P e) ci xs):∃xs,Good P w (eY P t) [.slice (some a) len cap] xs:=by
 by_cases hc:cap=0
 ·obtain rfl:len=0:=by omega
  subst hc;exact ⟨_,Good.one (.slice (rows:=[]) hu (Nat.zero_le _) (fun _ h=>by cases h) (fun _ h=>by cases h)) .s0 rfl⟩
 ·obtain ⟨f,hf⟩:=Classical.axiomOfChoice (r:=fun i (p:List Value×List AV)=>i<cap→w.cells? base (a.add (i*P.cellsOf e)) (P.cellsOf e)=some p.1∧Good P w (eY P e) p.1 p.2) (fun i=>by
   by_cases hi:i<cap
   ·obtain ⟨ci,h1,xs,h2⟩:=h i hi;exact ⟨(ci,xs),fun _=>⟨h1,h2⟩⟩
   ·exact ⟨([],[]),fun h=>(hi h).elim⟩)
  obtain ⟨b,off,sp⟩:=a
  have c0:∃v,w.cell? ⟨b,off,sp⟩=some v:=by
   obtain ⟨_,hlen,hc⟩:=R5 (hf 0 (by omega)).1;have:=hc 0 hk;rw [bF (by omega)] at this;refine ⟨_,Eq.trans ?_ this⟩;simp [Addr.add]
  obtain ⟨v0,c0⟩:=c0;obtain rfl:sp=none:=World.cell?_spot c0
  have cell:∀i j,i<cap→j<P.cellsOf e→w.cell? ⟨b,off+(i*P.cellsOf e+j),none⟩=some ((f i).1.getD j undef):=fun i j hi hj=>by
   obtain ⟨_,hlen,hc⟩:=R5 (hf i hi).1;have:=hc j hj;rw [bF (by omega)] at this;simp only [aV,bF (show j<(f i).1.length by omega),Option.getD_some];rw [←this];congr 1;unfold Addr.add;by_cases h1:i*P.cellsOf e=0<;>by_cases h2:j=0<;>simp [h1,h2,Nat.add_assoc]
  have hb:b<w.heap.size:=by
   unfold World.cell? at c0;split at c0
   ·rename_i he;exact kJ he
   ·cases c0
  have IK:∀i,i<cap→(f i).2.length=P.cellsOf e∧(f i).1.length=P.cellsOf e:=fun i hi=>by
   obtain ⟨_,hlen,_⟩:=R5 (hf i hi).1;exact ⟨(hf i hi).2.len.trans hlen,hlen⟩
  have hlen:((gA len).map fun i=>(f i).2).length=len:=by simp
  have get:∀i,i<len→((gA len).map fun i=>(f i).2).getD i []=(f i).2:=fun i hi=>by simp [aV,hi]
  have mem:∀r,r∈((gA len).map fun i=>(f i).2)→∃i,i<len∧r=(f i).2:=fun r hr=>by
   obtain ⟨i,hi,rfl⟩:=dq.1 hr;exact ⟨i,mq.1 hi,rfl⟩
  refine ⟨[.s ((gA len).map fun i=>(f i).2)],Good.one (.slice hu (by rw [hlen];omega) (fun r hr=>?_) (fun r hr=>?_)) ?_ rfl⟩
  ·obtain ⟨i,hi,rfl⟩:=mem r hr;exact (IK i (by omega)).1
  ·obtain ⟨i,hi,rfl⟩:=mem r hr;exact (hf i (by omega)).2.yo
  ·have:=bh.s (w:=w) (F:=Old w) (rows:=(gA len).map fun i=>(f i).2) (b:=b) (off:=off) (c:=cap) (k:=P.cellsOf e) (u:=fun i j=>(f i).1.getD j undef) hb (by rw [hlen];exact nL) nG
    (fun i hi=>by rw [hlen] at hi;rw [get i hi];exact (IK i (by omega)).1)
    (fun i j hi hj=>cell i j (by rw [hlen] at hi;omega) hj)
    (fun i j hi hj=>by rw [hlen] at hi;exact ((hf i (by omega)).2.rd j (by rw [(IK i (by omega)).2];exact hj)).2)
    (fun i j hi hj=>by rw [hlen] at hi;rw [get i hi];exact ((hf i (by omega)).2.rd j (by rw [(IK i (by omega)).2];exact hj)).1)
   rwa [hlen] at this
def ab8 (hl:laidOutB P=true):∀(n:Nat) (t:TypeId) (cs:List Value) (x:DataW H×List MemPlace),jL P t →
  C4 enc P w base (fun _=>true) held n t cs=some x→∃xs,Good P w (eY P t) cs xs:=by
 intro n;induction n with
 |zero=>intro t cs x _ h;simp [C4] at h
 |succ n ih =>
  intro t cs x hp h;have gJ:=hp;obtain ⟨ht,m,hm⟩:=gJ;cases m with
  |zero=>cases hm
  |succ m =>
   cases hu:P.underlying t with
   |none=>simp [qw,hu] at hm
   |some d =>
    cases d with
    |bool =>
     simp only [C4,hu] at h;split at h<;>simp_all;exact ⟨_,Good.one (.bool hu) (.v (.inl rfl)) rfl⟩
    |int k =>
     simp only [C4,hu] at h;split at h<;>simp_all;obtain ⟨⟨rfl,hw⟩,_⟩:=h;exact ⟨_,Good.one (.int hu hw) (.v (.inl rfl)) rfl⟩
    |string =>
     simp only [C4,hu] at h;split at h<;>simp_all;exact ⟨_,Good.one (.str hu h.1) (.v (.inl rfl)) rfl⟩
    |slice e =>
     obtain ⟨he,hk⟩:=hp.slice hl hu;rw [Rw] at h;unfold Rv at h;rw [hu] at h;split at h
     case h_7=>exact ⟨_,Good.one (.slice (rows:=[]) hu (Nat.zero_le _) (fun _ h=>by cases h) (fun _ h=>by cases h)) .s0 rfl⟩
     case h_8 e' a len cap e1 =>
      cases e1;simp only at h;split at h
      case isFalse=>cases h
      case isTrue hb =>
      obtain ⟨_,nL,nG⟩:=hb;cases ID:List.mapM (fun i=>(w.cells? base (a.add (i*P.cellsOf e)) (P.cellsOf e)).bind (C4 enc P w base (fun x=>true) held n e)) (gA len) with
      |none=>rw [ID] at h;cases h
      |some elems =>
      rw [ID] at h;simp only [cm,if_true,De] at h;obtain ⟨rest,nM,_⟩:=h
      exact ab7 hu hk nL nG fun i hi=>by
       by_cases sX:i<len
       ·obtain ⟨y,hy⟩:=Jn ID (mq.2 sX);obtain ⟨ci,hc,hy⟩:=aaf.1 hy;exact ⟨ci,hc,ih _ _ _ he hy⟩
       ·obtain ⟨y,hy⟩:=Jn nM (mq.2 (show i-len<cap-len by omega));rw [show len+(i-len)=i by omega] at hy;obtain ⟨ci,hc,hy⟩:=aaf.1 hy;exact ⟨ci,hc,ih _ _ _ he hy⟩
     all_goals first|(rename_i e1;cases e1;done)|(rename_i e1 _;cases e1;done)|cases h
    |struct fs =>
     obtain ⟨h1,h2,h3⟩:=hp.struct hl hu;rw [Rw] at h;unfold Rv at h;rw [hu] at h;simp only at h;split at h
     case isFalse=>cases h
     case isTrue fZ =>
     obtain ⟨l,jC,_⟩:=De.1 h;obtain ⟨xs,hg⟩:=TU (fun t cs x=>ih t cs x) fs.toList 0 cs h1 (fun j f hf=>by rw [jJ];exact h3 j f hf) (by rw [jJ,←h2];exact fZ)
      fun f hf=>Jn jC hf
     exact ⟨xs,hg.len,.struct hu hg.yo,hg.rd⟩
    |array k e =>
     obtain ⟨he,hc⟩:=hp.array hl hu;rw [Rw] at h;unfold Rv at h;rw [hu] at h;simp only at h;split at h
     case isFalse=>cases h
     case isTrue fZ =>
     obtain ⟨l,jC,_⟩:=De.1 h;obtain ⟨xs,hg⟩:=TR (fun t cs x=>ih t cs x) he k 0 cs (by rw [jJ,←hc];exact fZ)
      fun i hi=>by rw [jJ];exact Jn jC (mq.2 hi)
     exact ⟨xs,hg.len,.arr hu hg.yo,hg.rd⟩
    |_=>simp [qw,hu] at hm
def aa4 (hl:laidOutB P=true) {t:TypeId} {v:Value} {d:DataW H} {p:List MemPlace} {b0:Nat} (hp:jL P t) (bU:Dh P w .any b0 t v) (h:DataW.Trod enc P w base (fun _=>true) held t v d p) :
  ∃x,qQ P t x∧bh w (Old w) x v:=by
 obtain ⟨n,hn⟩:=h;obtain ⟨xs,hg⟩:=ab8 hl n t _ _ hp hn;by_cases hs:(∃fs,P.underlying t=some (.struct fs))∨∃n e,P.underlying t=some (.array n e)
 ·have fZ:∃cs,v=.agg cs:=by
   rcases hs with ⟨fs,hu⟩|⟨k,e,hu⟩
   ·simp only [Dh,hu] at bU;obtain ⟨cs,rfl,_,_⟩:=bU;exact ⟨cs,rfl⟩
   ·simp only [Dh,hu] at bU;obtain ⟨cs,rfl,_,_⟩:=bU;exact ⟨cs,rfl⟩
  obtain ⟨cs,rfl⟩:=fZ
  have di:cs.toList.length=cs.size:=by simp
  have get:∀i,cs.getD i undef=cs.toList.getD i undef:=fun i=>by simp [lA,aV]
  refine ⟨.a xs,?_,.a (by rw [hg.len];simp [Value.cells]) (fun i hi=>?_) fun i hi=>?_⟩
  ·rcases hs with ⟨fs,hu⟩|⟨k,e,hu⟩
   iterate 2 (simp only [qQ,hu];exact ⟨xs,rfl,hg.yo⟩)
  ·rw [get];exact (hg.rd i (by rw [←hg.len];exact hi)).2
  ·rw [get];exact (hg.rd i (by rw [←hg.len];exact hi)).1
 ·have eP:v.cells.toList=[v]:=by
   cases v with
   |agg cs =>
    have ha:∀fs,P.underlying t≠some (.struct fs):=fun fs he=>hs (.inl ⟨fs,he⟩);have hb:∀n e,P.underlying t≠some (.array n e):=fun n e he=>hs (.inr ⟨n,e,he⟩);unfold Dh at bU;split at bU
    ·rename_i he;exact (ha _ he).elim
    ·rename_i he;exact (hb _ _ he).elim
    ·unfold Cell.okWide at bU
     split at bU<;>first|contradiction|(unfold Cell.ok at bU;split at bU<;>first|contradiction|cases bU)
   |_=>rfl
  rw [eP] at hg
  obtain ⟨x,rfl⟩:∃x,xs=[x]:=by
   have:=hg.len
   match xs,this with
   |[x],_=>exact ⟨x,rfl⟩
  refine ⟨x,?_,(hg.rd 0 (by simp)).1⟩;unfold qQ;split
  ·rename_i he;exact (hs (.inl ⟨_,he⟩)).elim
  ·rename_i he;exact (hs (.inr ⟨_,_,he⟩)).elim
  ·exact hg.yo
def SR (hl:laidOutB P=true):∀{ts:List TypeId} {vs:List Value} {ds:List (DataW H)} {ps:List MemPlace},Lj enc P w base (fun _=>true) held ts vs ds ps→(∀t,t∈ts→jL P t) →
  (∀(j:Nat) t v,ts[j]?=some t→vs[j]?=some v→Dh P w .any base t v) →
  ∃xs,oo P ts xs∧xs.length=vs.length∧∀i,i<xs.length→bh w (Old w) (xs.getD i .χ) (vs.getD i undef)
 |[],vs,ds,ps,h,_,_=>by
  obtain ⟨rfl,rfl,rfl⟩:=trodAll_nil h;exact ⟨[],.nil,rfl,fun i hi=>by simp at hi⟩
 |t::ts,vs,ds,ps,h,hp,bU=>by
  obtain ⟨v,YR,d,S',p,q,rfl,rfl,rfl,h1,h2⟩:=trodAll_cons h;obtain ⟨x,hx,hr⟩:=aa4 hl (hp t (by simp)) (bU 0 t v rfl rfl) h1;obtain ⟨xs,nQ,hlen,lL⟩:=SR hl h2 (fun t ht=>hp t (by simp [ht])) fun j t v ht hv=>bU (j+1) t v (by simpa using ht) (by simpa using hv);refine ⟨x::xs,.cons hx nQ,by simp [hlen],fun i hi=>?_⟩;cases i with
  |zero=>simpa using hr
  |succ i=>simpa using lL i (by simpa using hi)
def YH {w':World} (hl:laidOutB P=true) (hb:Below w.heap.size w w') {sp:Nat→Bool}:∀{ts:List TypeId} {vs:List Value} {ds:List (DataW H)} {ps:List MemPlace},
  Lj enc P w 0 (fun _=>true) true ts vs ds ps→(∀t,t∈ts→jL P t)→(∀p,p∈ps→sp p.block=true)→Lj enc P w' 0 sp true ts vs ds ps
 |[],vs,ds,ps,h,_,_=>by
  obtain ⟨rfl,rfl,rfl⟩:=trodAll_nil h;exact rfl
 |t::ts,vs,ds,ps,h,hp,hs=>by
  have Φ:=h.lt;obtain ⟨v,YR,d,S',p,q,rfl,rfl,rfl,⟨n,h1⟩,h2⟩:=trodAll_cons h;refine ⟨p,q,⟨n,?_⟩,YH hl hb h2 (fun t ht=>hp t (by simp [ht])) fun p gJ=>hs p (by simp [gJ]),rfl⟩;refine DataW.trod_stays (agC hl) (fun hT hu=>(hT.slice hl hu).2) (fun hf=>by cases hf) (hp t (by simp)) h1 (fun p' gJ=>?_) fun p' gJ=>hs p' (by simp [gJ]);have aJ:=hb.block p'.block (Φ p' (by simp [gJ]));cases p' with
  |cell b off=>exact World.cell?_of_block (w:=w) aJ
  |map b=>exact aJ
def aef {w':World} (hb:Below w.heap.size w w') (may:MemPlace→Prop):w.keptBut w' may:=by
 refine ⟨hb.os,hb.output,fun i hi=>?_⟩;rw [hb.block i hi];cases w.heap[i]? with
 |none=>rfl
 |some o=>cases o<;>simp
def aem {C:Checked} {f:FuncId} {fn:Func} {s:ChangeSpec} {tb:TypeId} {W:World} {base:Nat} {args:Array Value} {ds gs:List (DataW H)} {before:List MemPlace} (hl:laidOutB C.prog=true)
  (hv:s.vars=[]) (hs:∀ds:List (DataW H),ds.length=fn.params.toList.length→s.fn H ds={ results:=[.lit (.bool true)],args:=ds })
  (hr:fn.resultTypes=#[tb]) (Oh:C.prog.underlying tb=some .bool) (uT:fn.params.toList.all (fun t=>eO t C.prog.types.size&&qw C.prog 12 t)=true)
  (uJ:dX.ok W (Old W)) (h:∀xs,oo C.prog fn.params.toList xs→Pure C.prog f xs (.v (.bool true)))
  (Oq:∀(j:Nat) t v,fn.params[j]?=some t→args[j]?=some v→Dh C.prog W .any base t v)
  (hW:DataW.Whole enc C.prog fn.params.toList s.vars false W args.toList ds gs before) :
  Calls C.prog f args W fun e W'=>∃v,e=.returned v∧s.post enc C.prog fn false true false false W args v W':=by
 have T5:=hW;obtain ⟨p,q,hA,hV,rfl,hfz,dP⟩:=hW
 have U_:∀t,t∈fn.params.toList→jL C.prog t:=fun t ht=>by
  have:=ej.1 uT t ht;simp only [bJ,gO] at this;exact ⟨this.1,_,this.2⟩
 rw [hv] at hV;obtain ⟨rfl,rfl⟩:=trodVars_none hV;obtain ⟨xs,nQ,hlen,fy⟩:=SR hl hA U_ fun j t v ht hv=>Value.okWide_any_base (Oq j t v (by simpa using ht) (by simpa using hv));have hI:Inv W (Old W) (fun _=>undef) [] :=
  ⟨fun _ h=>h,fun _ _ hm=>(eJ hm).elim,qO,fun _ ⟨_,_,hm,_⟩=>(eJ hm).elim,fun _ _ _ _ _ hm=>(eJ hm).elim,uJ⟩
 refine ((h xs nQ).2 W (Old W) (fun _=>undef) args hI (by rw [hlen];simp) fun i hi=>.i ?_).mono ?_
 ·have:=fy i hi
  have e:args.getD i undef=args.toList.getD i undef:=by simp [lA,aV]
  rw [e];exact this
 rintro e W' ⟨v,rfl,hb,hx⟩;cases hx
 have Eo:ds.length=fn.params.toList.length:=by
  have:∀{ts:List TypeId} {vs:List Value} {ds:List (DataW H)} {ps:List MemPlace},Lj enc C.prog W 0 (fun _=>true) true ts vs ds ps→ds.length=ts.length:=by
   intro ts;induction ts with
   |nil=>intro vs ds ps h;obtain ⟨rfl,rfl,rfl⟩:=trodAll_nil h;rfl
   |cons t ts ih=>intro vs ds ps h;obtain ⟨v,YR,d,S',p,q,rfl,rfl,rfl,h1,h2⟩:=trodAll_cons h;simp [ih h2]
  exact this hA
 have hold:∀q,q∈p→(fun b=>decide (b<W.heap.size)) q.block=true:=fun q hq=>by simpa using T5.lt q (by simp [hq])
 refine ⟨_,rfl,ds,[],p++[],[],p,[],T5,?_,?_,?_,aef hb _,fun h=>by cases h⟩
 ·rw [qJ,hs ds Eo,hr];exact trodAll_mk1 (shut_bool Oh true)
 ·rw [qJ,hs ds Eo];exact YH hl hb hA U_ hold
 ·rw [qJ,hs ds Eo,hv];exact rfl
def aaU {w:World} {a:Addr} {v:Value} (h:w.cell? a=some v):a.block<w.heap.size:=by
 refine Nat.lt_of_not_le fun hle=>?_
 have:w.heap[a.block]?=none:=by simpa using hle
 simp [World.cell?,this] at h
def aen {C:Checked} {os:Os} {f:FuncId} {fn:Func} {s:ChangeSpec} {tb:TypeId} {X:World→Prop} (hX:∀w w':World,w.heap=w'.heap→X w→X w') (hl:laidOutB C.prog=true) (own:ownKnob C.prog.godebug=none) (started:os.Started) (aeW:C.prog.inits.idxOf? f=none) (dK:C.prog.funcs[f]?=some fn)
  (witness:∃(w:World) (tape:Tape) (i:Input),w.os=os∧(w.forCall tape i).Shaped C.prog∧i.vars=[]∧Input.okWide C.prog (w.forCall tape i) .any w.heap.size f i ∧
   ((s.pre enc C.prog fn [] false (w.forCall tape i).memory i.args∧X (w.forCall tape i).memory)∧sizedMet enc C.prog fn (aad s) false (w.forCall tape i).memory i.args)∧({}:Assume).holds C.prog (lone (Frame.enter C.prog f i.args .normal) [] (w.forCall tape i)))
  (hv:s.vars=[]) (hs:∀ds:List (DataW H),ds.length=fn.params.toList.length→s.fn H ds={ results:=[.lit (.bool true)],args:=ds })
  (hr:fn.resultTypes=#[tb]) (Oh:C.prog.underlying tb=some .bool) (uT:fn.params.toList.all (fun t=>eO t C.prog.types.size&&qw C.prog 12 t)=true)
  (uJ:∀W:World,X W→dX.ok W (Old W)) (h:∀xs,oo C.prog fn.params.toList xs→Pure C.prog f xs (.v (.bool true))) :
  ReturnsInHanded {} C os f .any (fun w args=>(s.pre enc C.prog fn [] false w args∧X w)∧sizedMet enc C.prog fn (aad s) false w args) (s.post enc C.prog fn false true false false):=by
 refine returnsInHanded_of_change_and (C:=C) (X:=fun w _=>X w) (fun w w' _ hh hx=>hX w w' hh hx) own started aeW dK witness ?_;intro W base args ds gs before Oq hW _ _ hx _;exact aem hl hv hs hr Oh uT (uJ W hx) h Oq hW
end
end
section
open Go.RowKit
variable [M:cM] [G:dX]
section
variable {P:Program} {T:TT} {w:World} {F:Nat→Prop} {β:Nat→Value}
def mz (P:Program) (g:FuncId) (args:List AV) (c:Chunk) (R:AV→Chunk→Prop):Prop :=
 p7 P g∧∀(w:World) (F:Nat→Prop) (β:Nat→Value) (vs:Array Value),Inv w F β [(1000,c)]→vs.size=args.length →
  (∀i,i<args.length→Rd w F β (args.getD i .χ) (vs.getD i undef)) →
  Calls P g vs w fun e w'=>∃v,e=.returned v∧∃r c' F',R r c'∧bh w' F' r v∧w'.os=w.os∧js w w'∧w'.output=w.output∧w.heap.size≤w'.heap.size ∧
   (∀b,b<w.heap.size→bP (β 1000)≠some b→w'.heap[b]?=w.heap[b]?)∧(∀b,F b→F' b)∧(∀b,F' b→fF F w w' b)∧AO c'=true∧c'.holds w' F' β 1000
def aaq (R:AV→Chunk→Prop) (x:AV) (st:ah):Prop:=∃r c',R r c'∧dO 1000 st.H=some c'∧AO c'=true∧Fz (oA 1000 st.H) x r
def Lr (id:Nat) (x y:AV):Prop:=∀(w:World) (F:Nat→Prop) (β av:Nat→Value) (u:Value),av 1000=β id→Rd w F β x u→Rd w F av y u
inductive xR (id:Nat):List AV→List AV→Prop where
 |nil:xR id [] []
 |cons {x y:AV} {xs ys:List AV} (h:Lr id x y) (t:xR id xs ys):xR id (x::xs) (y::ys)
def xR.spec {id:Nat} {xs ys:List AV} (h:xR id xs ys):xs.length=ys.length∧∀i,i<xs.length→Lr id (xs.getD i .χ) (ys.getD i .χ):=by
 induction h with
 |nil=>exact ⟨rfl,fun i hi=>by simp at hi⟩
 |cons h t ih =>
  refine ⟨by simp [ih.1],fun i hi=>?_⟩;cases i with
  |zero=>simpa using h
  |succ i=>simpa using ih.2 i (by simpa using hi)
def Lr.dL {id:Nat} {x:AV} (h:kg x=true):Lr id x x:=fun _ _ _ _ _ _ hr=>.i (I' h hr)
def Lr.nil {id:Nat}:Lr id (.v (.slice none 0 0)) (.s []):=fun _ _ _ _ _ _ hr=>by rw [hr.bK];exact .i .s0
def Lr.b {id off:Nat}:Lr id (.b id off) (.b 1000 off):=fun _ _ _ _ _ ai hr=>by
 obtain ⟨eZ,h1,rfl⟩:=hr.mM;exact .b (ai.trans h1)
def Lr.o {id:Nat}:Lr id (.o id) (.o 1000):=fun _ _ _ _ _ ai hr=>by
 obtain ⟨a,n,c,h1,rfl⟩:=hr.jY;exact .o (ai.trans h1)
def ae.chg {g:FuncId} {id:Nat} {xs ys:List AV} {st:ah} {c:Chunk} {R:AV→Chunk→Prop} {k:AV→ah→Prop} (h:mz P g ys c R) (hc:dO id st.H=some c) (g_:AO c=true) (hle:xR id xs ys)
  (hk:∀r c',R r c'→k r ⟨st.f,fK id c' st.H⟩):ae P g xs st k:=by
 obtain ⟨hl,hz⟩:=hle.spec;have hm:=fc hc;refine ⟨h.1,fun w F β vs hI hs hv=>?_⟩;let du:Nat→Value:=fun i=>if i=1000 then β id else undef;have cT:du 1000=β id:=if_pos rfl
 have uF:Inv w F du [(1000,c)]:=by
  refine ⟨hI.cA,fun i c' bQ=>?_,by simp,fun b ⟨i,c',bQ,hb⟩=>?_,fun i c1 i' p9 b h1 h2 _ _=>?_,hI.fh⟩
  ·simp only [dB,im] at bQ;obtain ⟨rfl,rfl⟩:=bQ;exact pI g_ (fun _ h=>h) cT (hI.holds _ _ hm)
  ·simp only [dB,im] at bQ;obtain ⟨rfl,rfl⟩:=bQ;rw [cT] at hb;exact hI.apart b ⟨id,c',hm,hb⟩
  ·simp only [dB,im] at h1 h2;rw [h1.1,h2.1]
 refine (h.2 w F du vs uF (by omega) fun i hi=>hz i (by omega) w F β du _ cT (hv i (by omega))).mono ?_;rintro e w' ⟨v,rfl,r,c',F',hR,hr,uR,Oi,s6,aX,hblk,ke,eU,NF,fP⟩;rw [cT] at hblk
 have db:∀b,bD β (fK id c' st.H) b→bD β st.H b:=by
  rintro b ⟨i,c2,h,hb⟩
  rcases nf h with ⟨rfl,_,c3,h3⟩|⟨_,h3⟩
  ·exact ⟨i,c3,h3,hb⟩
  ·exact ⟨i,c2,h3,hb⟩
 have M9:∀b,F b→w'.heap[b]?=w.heap[b]?:=fun b hb=>hblk b (hI.cA b hb) fun he=>hI.apart b ⟨id,c,hm,he⟩ hb;refine ⟨v,rfl,r,_,F',β,hk r c' hR,.i hr,⟨uR,Oi,s6,aX,fun b hb bw=>hblk b hb fun he=>bw ⟨id,c,hm,he⟩,ke,fun b hb=>(eU b hb).elim .inl fun h=>.inr (.inl h.1),fun b hb=>.inr (db b hb),fun t u hu=>hu.frame M9 ke,?_,fun _ _=>rfl⟩⟩;refine ⟨fun b hb=>(eU b hb).elim (fun h=>oh (hI.cA b h) aX) fun h=>h.2,fun i c2 h=>?_,by rw [z_];exact hI.keys,fun b ho hF=>?_,fun i c1 i' p9 b h h' hb aJ=>?_,hI.fh.frame M9 ke⟩
 ·rcases nf h with ⟨rfl,rfl,_⟩|⟨hi,h2⟩
  ·exact pI NF (fun _ h=>h) cT.symm fP
  ·exact pH M9 ke (fun b hb=>hblk b (hI.fJ ⟨i,c2,h2,hb⟩) fun he=>hi (hI.eo i c2 id c b h2 hm hb he)) (hI.holds i c2 h2)
 ·rcases eU b hF with h1|h1
  ·exact hI.apart b (db b ho) h1
  ·exact absurd (hI.fJ (db b ho)) (mr.2 h1.1)
 ·have hx:∃c,(i,c)∈st.H:=by rcases nf h with ⟨_,_,c2,h2⟩|⟨_,h2⟩<;>exact ⟨_,h2⟩
  have hy:∃c,(i',c)∈st.H:=by rcases nf h' with ⟨_,_,c2,h2⟩|⟨_,h2⟩<;>exact ⟨_,h2⟩
  obtain ⟨c2,h2⟩:=hx;obtain ⟨c3,h3⟩:=hy;exact hI.eo i c2 i' c3 b h2 h3 hb aJ
def ae.freeze {g:Tg} {id E K:Nat} {rows:List (List AV)} {xs:List AV} {st:ah} {k:AV→ah→Prop} (hc:dO id st.H=some (.own E K rows)) (h:ae P g (xs.map (sb (.s rows) 2 id)) (ME id rows st) k):ae P g xs st k:=by
 have hm:=fc hc;refine ⟨h.1,fun w F β vs hI hs hv=>?_⟩
 have hz:∀u,Rd w (fun b=>F b∨bP (β id)=some b) β (.o id) u→Rd w (fun b=>F b∨bP (β id)=some b) β (.s rows) u:=fun u hu=>by
  refine .i (MF hI hm ?_);obtain ⟨a,n,c,h1,rfl⟩:=hu.jY;exact .o h1
 have up:∀{x u},Rd w F β x u→Rd w (fun b=>F b∨bP (β id)=some b) β x u:=fun h=>h.frame (fun _ _=>rfl) fun _ h=>.inl h
 have kP:Inv w (fun b=>F b∨bP (β id)=some b) β (oC id rows st.H):=by
  refine ⟨fun b hb=>hb.elim (hI.cA b) fun hb=>hI.fJ ⟨id,_,hm,hb⟩,fun i c h=>?_,DL hI.keys,fun b ⟨i,c,h,hb⟩ hF=>?_,fun i c i' c' b h h' hb aJ=>?_,hI.fh.more fun _ h=>.inl h⟩
  ·obtain ⟨hi,c',h',rfl⟩:=lG h;have hh:=hI.holds i c' h';cases c' with
   |own E' K' r=>exact pI (c:=.own E' K' r) rfl (fun _ h=>.inl h) rfl hh
   |mp ag r=>exact pI (c:=.mp ag r) rfl (fun _ h=>.inl h) rfl hh
   |si s pos=>exact pI (c:=.si s pos) rfl (fun _ h=>.inl h) rfl hh
   |lp l e R L =>
    obtain ⟨fn,tmps,D,hb,yR,pE,zn⟩:=hh;refine ⟨fn,tmps,D,hb,yR,pE,fun p hp=>?_⟩;obtain ⟨q,hq,rfl⟩:=dq.1 hp;exact rN hz (fun _ _=>rfl) 2 (up (zn q hq))
   |box cells =>
    obtain ⟨b,cs,e,hb,hh,hs,h1,hr⟩:=hh;refine ⟨b,cs,e,hb,hh,by simpa using hs,fun j hj=>h1 j (by simpa using hj),fun j hj=>?_⟩
    have hj:j<cells.length:=by simpa using hj
    have:(cells.map (sb (.s rows) 1 id)).getD j .χ=sb (.s rows) 1 id (cells.getD j .χ):=by simp [aV,hj]
    rw [this];exact rN hz (fun _ _=>rfl) 1 (up (hr j hj))
  ·obtain ⟨hi,c',h',_⟩:=lG h
   rcases hF with hF|hF
   ·exact hI.apart b ⟨i,c',h',hb⟩ hF
   ·exact hi (hI.eo i c' id _ b h' hm hb hF)
  ·obtain ⟨_,c2,h2,_⟩:=lG h;obtain ⟨_,c3,h3,_⟩:=lG h';exact hI.eo i c2 i' c3 b h2 h3 hb aJ
 have zi:∀b,bD β (oC id rows st.H) b→bD β st.H b:=fun b ⟨i,c,h,hb⟩=>by
  obtain ⟨_,c2,h2,_⟩:=lG h;exact ⟨i,c2,h2,hb⟩
 refine (h.2 w _ β vs kP (by simpa using hs) fun i hi=>?_).mono ?_
 ·have hi:i<xs.length:=by simpa using hi
  have:(xs.map (sb (.s rows) 2 id)).getD i .χ=sb (.s rows) 2 id (xs.getD i .χ):=by simp [aV,hi]
  rw [this];exact rN hz (fun _ _=>rfl) 2 (up (hv i hi))
 ·rintro e w' ⟨v,rfl,r,au,F',av,hk,hr,hx⟩
  refine ⟨v,rfl,r,au,F',av,hk,hr,hx.os,hx.tape,hx.output,hx.size,fun b hb bw=>hx.block b hb fun ho=>bw (zi b ho),fun b hb=>hx.mono b (.inl hb),fun b hb=>?_,fun b hb=>(hx.owned b hb).elim .inl fun h=>.inr (zi b h),
   fun t u hu=>hx.keep t u (rN hz (fun _ _=>rfl) 2 (up hu)),hx.inv,hx.gh⟩
  rcases hx.new b hb with h1|h1|h1
  ·rcases h1 with h1|h1
   ·exact .inl h1
   ·exact .inr (.inr ⟨id,_,hm,h1⟩)
  ·exact .inr (.inl h1)
  ·exact .inr (.inr (zi b h1))
def Fz.c {H:Hp} {fn:Fn} {fs DM cs Dz:List AV} (h:oq H fs DM) (h':oq H cs Dz):Fz H (.c fn fs cs) (.c fn DM Dz):=fun _ _ _ _ hI hr=>by
 obtain ⟨us,vs,rfl,hs,ez,hu,hv⟩:=hr.nB;obtain ⟨hl,hz⟩:=h.spec;obtain ⟨uN,iT⟩:=h'.spec;exact .c (by omega) (by omega) (fun i hi=>hz i (by omega) _ _ _ _ hI (hu i (by omega))) fun i hi=>iT i (by omega) _ _ _ _ hI (hv i (by omega))
def Fz.b {H:Hp} {id:Nat} {cells:List AV} (h:dO id H=some (.box cells)) (g_:cells.all fu=true):Fz H (.b id 0) (.p cells):=fun w F β u hI hr=>by
 have hm:=fc h;obtain ⟨eZ,hb,rfl⟩:=hr.mM;obtain ⟨b,cs,e,ai,hh,hs,h1,fy⟩:=hI.holds _ _ hm;rw [hb] at ai;cases ai;refine .p (b:=eZ) (off:=0) (u:=fun j=>cs.getD j undef) (.inr ⟨id,_,hm,by rw [hb];rfl⟩) (fun j hj=>?_) h1 fun j hj=>?_
 ·rw [jJ,cell_of_row w eZ _ cs e (0,0) hh];simp [hs,hj]
 ·have:fu (cells.getD j .χ)=true:=ej.1 g_ _ (by rw [List.getD_eq_getElem?_getD,bF hj];exact List.getElem_mem _);exact (nR this (fy j hj)).frame (fun _ _=>rfl) fun _ h=>.inl h
end
end
section
open Go.RowKit
variable [M:cM] [G:dX] [R:eE]
structure Ok (P:Program) (n:Nat) (c:Code) (st:ah) (Q:Exit→ah→Prop):Prop where
 h:∀C:Ctx,C.n=n→Hc P C c st Q
def Wk (s s':ah):Prop:=∀(C:Ctx) (a:Act) (w:World),Rel C s a w→Rel C s' a w
def nx (P:Program) (n:Nat) (y:Code) (Q:Exit→ah→Prop):Exit→ah→Prop:=fun e s=>match e with
 |.normal=>Ok P n y s Q
 |e=>Q e s
def bk (id:Nat) (Q:Exit→ah→Prop):Exit→ah→Prop:=fun e s=>match e with
 |.exit i=>bif aH i id then Q .normal s else Q (.exit i) s
 |e=>Q e s
def jn (s1:ah) (Q:Exit→ah→Prop):Exit→ah→Prop:=fun e s=>match e with
 |.normal=>Wk s s1
 |e=>Q e s
def jnE {σ:Type} (J:σ→ah) (S:σ→Prop) (Q:Exit→ah→Prop):Exit→ah→Prop:=fun e s=>match e with
 |.normal=>∃v,S v∧Wk s (J v)
 |e=>Q e s
section
variable {P:Program} {T:TT} {n:Nat} {st:ah} {Q:Exit→ah→Prop}
def Wk.refl (s:ah):Wk s s:=fun _ _ _ h=>h
def Wk.trans {a b c:ah} (h:Wk a b) (h':Wk b c):Wk a c:=fun C x w hr=>h' C x w (h C x w hr)
def Ok.wk {c:Code} {s':ah} (h:Wk st s') (hc:Ok P n c s' Q):Ok P n c st Q:=⟨fun C hn a w hr=>hc.h C hn a w (h C a w hr)⟩
def Ok.skip (h:Q .normal st):Ok P n .skip st Q:=⟨fun _ _ _ _ hr=>wpIn_skip ⟨st,hr,h⟩⟩
def Ok.label {l:Nat} (h:Q .normal st):Ok P n (.label l) st Q:=⟨fun _ _ _ _ hr=>wpIn_label ⟨st,hr,h⟩⟩
def Ok.exit {id:Nat} (h:Q (.exit id) st):Ok P n (.exit id) st Q:=⟨fun _ _ _ _ hr=>wpIn_exit ⟨st,hr,h⟩⟩
def Ok.ret (h:Q .ret st):Ok P n .ret st Q:=⟨fun _ _ _ _ hr=>wpIn_ret ⟨st,hr,h⟩⟩
def Ok.seq {x y:Code} (h:Ok P n x st (nx P n y Q)):Ok P n (.seq x y) st Q:=⟨fun C hn a w hr=>by
 refine wpIn_seq (wpIn_mono (h.h C hn a w hr) ?_);rintro e a' w' ⟨au,cK,hq⟩
 cases e<;>first|exact (show Ok P n y au Q from hq).h C hn a' w' cK|exact ⟨au,cK,hq⟩⟩
def Ok.bg {x y:Code} (s1:ah) (hx:Ok P n x st (jn s1 Q)) (hy:Ok P n y s1 Q):Ok P n (.seq x y) st Q:=⟨fun C hn a w hr=>by
 refine wpIn_seq (wpIn_mono (hx.h C hn a w hr) ?_);rintro e a' w' ⟨au,cK,hq⟩
 cases e<;>first|exact hy.h C hn a' w' ((show Wk au s1 from hq) C a' w' cK)|exact ⟨au,cK,hq⟩⟩
def Ok.eC {σ:Type} {x y:Code} (J:σ→ah) (S:σ→Prop) (hx:Ok P n x st (jnE J S Q)) (hy:∀v,S v→Ok P n y (J v) Q):Ok P n (.seq x y) st Q:=⟨fun C hn a w hr=>by
 refine wpIn_seq (wpIn_mono (hx.h C hn a w hr) ?_);rintro e a' w' ⟨au,cK,hq⟩
 cases e<;>first|(obtain ⟨v,hv,hw⟩:=(show ∃v,S v∧Wk au (J v) from hq);exact (hy v hv).h C hn a' w' (hw C a' w' cK))|exact ⟨au,cK,hq⟩⟩
def Ok.region {id:Nat} {ops:Array Oper} (hT:bL P T) (h:iW P T n ops ops.toList st (Q .normal)):Ok P n (.region id ops false) st Q :=
 ⟨fun C hn=>Rk (C:=C) hT hn (.region id ops false) st Q h⟩
def Ok.draw [MD:sl] [CH:nv] {id m:Nat} {ops:Array Oper} (hT:bL P T) (hm:P.follows .mixedOrders=true) (qi:DD m ops=true)
  (h:rX P T n ops (steady m ops) ⟨preB (eB m ops) (jy (eB m ops) st).f,(jy (eB m ops) st).H⟩ fun st1=>tp P st1.f (ops.toList.take m)∧qU T n (eB m ops) st1 fun st2=>iW P T n ops (ops.toList.drop m) st2 (Q .normal)):Ok P n (.region id ops true) st Q :=
 ⟨fun C hn=>Rk (C:=C) hT hn (.region id ops true) st Q (abh hT hm qi h)⟩
def Ok.qb [MD:sl] [CH:nv] {id m:Nat} {late:List Nat} {ops:Array Oper} (hT:bL P T) (hm:P.follows .mixedOrders=true) (qi:HR m late ops=true)
  (h:rX P T n ops (steady m ops) ⟨preB (eB m ops) (jy (eB m ops) st).f,(jy (eB m ops) st).H⟩ fun st1=>tp P st1.f (ops.toList.take m)∧qU T n (eB m ops) st1 fun st1=>LZ T ops m st1 fun st2=>qs P T ops st2 late∧iW P T n ops (ops.toList.drop (m+1)) st2 (Q .normal)):Ok P n (.region id ops true) st Q :=
 ⟨fun C hn=>Rk (C:=C) hT hn (.region id ops true) st Q (abi hT hm qi h)⟩
def Ok.cond {d:Nat} {b:Bool} {x y:Code} {ρ:Type} {X Y:Option ρ} {r:ρ} (hb:st.f d=.v (.bool b)) (h:(if b=true then X else Y)=some r)
  (yes:b=true→X=some r→Ok P n x st Q) (no:b=false→Y=some r→Ok P n y st Q):Ok P n (.cond (.tmp d) x y) st Q:=⟨fun C hn a w hr=>by
 have cK:=hr;obtain ⟨F,β,hs,hd,hf,he⟩:=cK;have gr:=hf d;rw [hb] at gr;have hv:a.eval (.tmp d)=.bool b:=gr.bK;refine wpIn_cond_split hv (fun ht=>?_) fun ht=>?_
 ·exact (yes ht (by simpa [ht] using h)).h C hn a w hr
 ·exact (no (by simpa using ht) (by simpa [ht] using h)).h C hn a w hr⟩
def Ok.aa0 {d:Nat} {x y:Code} (hb:st.f d=.v (.bool true)) (h:Ok P n x st Q):Ok P n (.cond (.tmp d) x y) st Q :=
 .cond (ρ:=Unit) (X:=some ()) (Y:=none) (r:=()) hb rfl (fun _ _=>h) fun h=>by cases h
def Ok.aaZ {d:Nat} {x y:Code} (hb:st.f d=.v (.bool false)) (h:Ok P n y st Q):Ok P n (.cond (.tmp d) x y) st Q :=
 .cond (ρ:=Unit) (X:=none) (Y:=some ()) (r:=()) hb rfl (fun h=>by cases h) fun _ _=>h
def Ok.block {id:Nat} {c:Code} (h:Ok P n c st (bk id Q)):Ok P n (.block id c) st Q:=⟨fun C hn a w hr=>by
 refine wpIn_block (wpIn_mono (h.h C hn a w hr) ?_);rintro e a' w' ⟨au,cK,hq⟩;cases e with
 |exit i =>
  have hq:bif aH i id then Q .normal au else Q (.exit i) au:=hq;by_cases hi:i=id
  ·subst hi;simp only [iY,cond_true] at hq;simp only [Exit.inBlock,if_true];exact ⟨au,cK,hq⟩
  ·have:aH i id=false:=by cases hb:aH i id;rfl;exact absurd (cW hb) hi
   simp only [this,cond_false] at hq;simp only [Exit.inBlock,if_neg hi];exact ⟨au,cK,hq⟩
 |_=>exact ⟨au,cK,hq⟩⟩
def lp {σ ρ:Type} (J:σ→ah) (x:σ⊕ρ) (Q:Exit→ah→Prop):Exit→ah→Prop:=fun e s=>match e with
 |.normal=>∃v,x=.inl v∧Wk s (J v)
 |e=>Q e s
def Ok.loop {σ ρ:Type} {c:Code} (J:σ→ah) (B:σ→Option (σ⊕ρ)) {r:ρ} {s0:σ} (h:Cat.loop B s0=some r) (h0:Wk st (J s0))
  (round:∀s x,B s=some x→(∀r',x=.inr r'→r'=r)→Ok P n c (J s) (lp J x Q)):Ok P n (.loop c) st Q:=⟨fun C hn a w hr=>by
 obtain ⟨k0,kY⟩:=Jm h
 refine wpIn_loop (fun a w=>∃s k,gT B k s=some r∧Rel C (J s) a w) (fun a w=>by
  classical exact if h:∃k s,(gT B k s=some r∧Rel C (J s) a w)∧∀k' s',gT B k' s'=some r∧Rel C (J s') a w→k≤k' then h.choose else 0) ⟨s0,k0,kY,h0 C a w hr⟩ ?_
 intro a w hex
 have IJ:∃k s,(gT B k s=some r∧Rel C (J s) a w)∧∀k' s',gT B k' s'=some r∧Rel C (J s') a w→k≤k':=by
  obtain ⟨s,k,hi⟩:=hex
  have key:∀m k s,k=m→gT B k s=some r∧Rel C (J s) a w→∃k s,(gT B k s=some r∧Rel C (J s) a w)∧∀k' s',gT B k' s'=some r∧Rel C (J s') a w→k≤k':=by
   intro m;induction m using uk with
   |_ m ih =>
    intro k s hm hi;by_cases Vj:∃k' s',(gT B k' s'=some r∧Rel C (J s') a w)∧k'<m
    ·obtain ⟨k',s',bm,Φ⟩:=Vj;exact ih k' Φ k' s' rfl bm
    ·refine ⟨k,s,hi,fun k' s' bm=>?_⟩
     rcases gP k' k with h|h
     ·exact absurd ⟨k',s',bm,hm▸h⟩ Vj
     ·exact h
  exact key _ k s rfl hi
 obtain ⟨s,⟨hi,iR⟩,aln⟩:=IJ.choose_spec
 have hk:∃k,IJ.choose=k+1:=by
  cases hc:IJ.choose with
  |zero=>rw [hc] at hi;cases hi
  |succ k=>exact ⟨k,rfl⟩
 obtain ⟨k,hk⟩:=hk;have rh:=hi;rw [hk] at hi
 obtain ⟨x,hx,wH⟩:∃x,B s=some x∧(∀r',x=.inr r'→r'=r)∧∀s',x=.inl s'→gT B k s'=some r:=by
  cases hB:B s with
  |none=>simp [gT,hB] at hi
  |some x =>
   refine ⟨x,rfl,fun r' cK=>?_,fun s' ez=>?_⟩
   ·subst cK;simpa [gT,hB] using hi
   ·subst ez;simpa [gT,hB] using hi
 refine wpIn_mono ((round s x hx wH.1).h C hn a w iR) ?_;rintro e a' w' ⟨au,cK,hq⟩;cases e with
 |normal =>
  obtain ⟨v,hv,hwk⟩:=(show ∃v,x=.inl v∧Wk au (J v) from hq);have jU:=wH.2 v hv;have Vf:=hwk C a' w' cK;refine ⟨⟨v,k,jU,Vf⟩,?_⟩;rw [dif_pos IJ,hk];split
  ·rename_i h';obtain ⟨_,_,hm⟩:=h'.choose_spec;exact Nat.lt_succ_of_le (hm k v ⟨jU,Vf⟩)
  ·exact Nat.succ_pos _
 |_=>exact ⟨au,cK,hq⟩⟩
def aq:List (Nat×AV)→Nat→AV
 |[],_=>.χ
 |(d,x)::r,t=>bif aH t d then x else aq r t
def sh (f:Nat→AV):List (Nat×AV)→Prop
 |[]=>True
 |(d,x)::r=>Le (f d) x∧sh f r
inductive iy:Chunk→Chunk→Prop where
 |refl (c:Chunk):iy c c
 |box {a b:List AV} (h:iz a b):iy (.box a) (.box b)
 |lp {l:Nat} {e:LS} {R:RF} {a b:List (Nat×AV)} (h:∀p,p∈b→∃x,(p.1,x)∈a∧Le x p.2):iy (.lp l e R a) (.lp l e R b)
def iy.holds {w:World} {F:Nat→Prop} {β:Nat→Value} {i:Nat} {c c':Chunk} (h:iy c c') (hc:c.holds w F β i):c'.holds w F β i:=by
 cases h with
 |refl=>exact hc
 |box h =>
  obtain ⟨b,cs,e,ai,hh,hs,h1,hr⟩:=hc;obtain ⟨hl,hz⟩:=h.spec;exact ⟨b,cs,e,ai,hh,by omega,fun j hj=>h1 j (by omega),fun j hj=>hz j (by omega) _ _ _ _ (hr j (by omega))⟩
 |lp h =>
  obtain ⟨fn,tmps,D,ai,hh,hn,hr⟩:=hc;refine ⟨fn,tmps,D,ai,hh,hn,fun p hp=>?_⟩;obtain ⟨x,hx,hz⟩:=h p hp;exact hz _ _ _ _ (hr _ hx)
def vP (H:Hp):Hp→Prop
 |[]=>True
 |(i,c)::r=>(∃c0,dO i H=some c0∧iy c0 c)∧vP H r
def jm:Hp→Bool
 |[]=>true
 |(i,_)::r=>r.all (fun p=>!Nat.beq p.1 i)&&jm r
def w7:∀{H:Hp},jm H=true→(H.map (·.1)).Nodup
 |[],_=>qO
 |(i,c)::r,h=>by
  simp only [jm,bJ] at h;simp only [jI,ix];refine ⟨fun hm=>?_,w7 h.2⟩;obtain ⟨x,hx,lN⟩:=dq.1 hm;have:=ej.1 h.1 x hx;rw [lN,iY] at this;cases this
def vP.mem {H:Hp}:∀{H':Hp},vP H H'→∀i c,(i,c)∈H'→∃c0,(i,c0)∈H∧iy c0 c
 |[],_,_,_,hx=>by cases hx
 |(i,c)::r,h,j,d,hx=>by
  rcases bj.1 hx with hx|hx
  ·cases hx;obtain ⟨c0,hc,hl⟩:=h.1;exact ⟨c0,fc hc,hl⟩
  ·exact vP.mem h.2 j d hx
def Yw {w:World} {F:Nat→Prop} {β:Nat→Value} {f:Nat→AV} {g:Nat→Value} (hf:∀t,Rd w F β (f t) (g t)):∀{L:List (Nat×AV)},sh f L→∀t,Rd w F β (aq L t) (g t)
 |[],_,_=>.χ
 |(d,x)::r,h,t=>by
  simp only [aq];cases hb:aH t d with
  |true =>
   obtain rfl:=cW hb;exact h.1 _ _ _ _ (hf t)
  |false=>exact Yw hf h.2 t
def Ext.sub {w0:World} {F0:Nat→Prop} {oV:Nat→Value} {oS:ah} {w:World} {F:Nat→Prop} {β:Nat→Value} {H H':Hp} (h:Ext w0 F0 oV oS w F β ⟨aG,H⟩) (bC:∀i c,(i,c)∈H'→∃c0,(i,c0)∈H∧iy c0 c) (hk:(H'.map (·.1)).Nodup):Ext w0 F0 oV oS w F β ⟨aG,H'⟩ where
 os:=h.os
 tape:=h.tape
 output:=h.output
 size:=h.size
 block:=h.block
 mono:=h.mono
 new:=h.new
 owned b hb:=h.owned b (by obtain ⟨i,c,hm,hb⟩:=hb;obtain ⟨c0,h0,_⟩:=bC i c hm;exact ⟨i,c0,h0,hb⟩)
 keep _ _ _:=.χ
 inv:=⟨h.inv.cA,fun i c hm=>by obtain ⟨c0,h0,hl⟩:=bC i c hm;exact hl.holds (h.inv.holds i c0 h0),hk,
  fun b ⟨i,c,hm,hb⟩=>by obtain ⟨c0,h0,_⟩:=bC i c hm;exact h.inv.apart b ⟨i,c0,h0,hb⟩,
  fun i c i' c' b hm bQ hb aJ=>by
   obtain ⟨c0,h0,_⟩:=bC i c hm;obtain ⟨c1,h1,_⟩:=bC i' c' bQ
   exact h.inv.eo i c0 i' c1 b h0 h1 hb aJ,h.inv.fh⟩
 gh:=h.gh
def XM.sub {C:Ctx} {ds:List Deferred} {w:World} {F:Nat→Prop} {β:Nat→Value} {H H':Hp} (h:XM C ds w F β H) (bC:∀i c,(i,c)∈H'→∃c0,(i,c0)∈H∧iy c0 c) (hk:(H'.map (·.1)).Nodup):XM C ds w F β H' :=
 h.trans ((Ext.refl (st:=⟨aG,H⟩) h.inv).sub bC hk)
def Wk.tab {L:List (Nat×AV)} {H':Hp} (hL:sh st.f L) (hH:vP st.H H') (hk:jm H'=true):Wk st ⟨aq L,H'⟩:=fun C a w hr=>by
 obtain ⟨F,β,hs,hd,hf,he⟩:=hr;exact ⟨F,β,hs,hd,Yw hf hL,he.sub hH.mem (w7 hk)⟩
def Ext.O3 {w0:World} {F0:Nat→Prop} {oV:Nat→Value} {oS:ah} {w:World} {F:Nat→Prop} {β:Nat→Value} {f:Nat→AV} {H:Hp} (h:Ext w0 F0 oV oS w F β ⟨f,H⟩):Ext w0 F0 oV oS w F β ⟨aG,H⟩ where
 os:=h.os
 tape:=h.tape
 output:=h.output
 size:=h.size
 block:=h.block
 mono:=h.mono
 new:=h.new
 owned:=h.owned
 keep _ _ _:=.χ
 inv:=h.inv
 gh:=h.gh
def Wk.BU {t id E K:Nat} (Φ:eO id 1000=true) (ht:st.f t=.v (.slice none 0 0)):Wk st ⟨dZ (fun t=>er 2 id (st.f t)) t (.o id),(id,.own E K [])::gY id st.H⟩:=fun C a w hr=>by
 obtain ⟨F,β,hs,hd,hf,he⟩:=hr
 have pD:id<1000:=by simpa using Φ
 have hb:Below w.heap.size w w:=Below.refl _ _;have hx:=H6 (st:=⟨aG,st.H⟩) (w':=w) (F':=F) (c:=.own E K []) (v:=.slice none 0 0) pD he.inv hb (fun _ h=>h) (fun _ h=>.inl h) (fun b hb=>by cases hb) (.inl ⟨rfl,none,by simp⟩);have ai:∀i,i≠id→(fun i=>if i=id then Value.slice none 0 0 else β i) i=β i:=fun i hi=>if_neg hi;refine ⟨F,_,hs,hd,fun q=>?_,(he.trans hx).O3⟩;show Rd w F _ (bif aH q t then AV.o id else er 2 id (st.f q)) _;cases hq:aH q t with
 |true =>
  obtain rfl:=cW hq;have h1:=hf q;rw [ht] at h1;rw [cond_true,h1.bK];exact .o (by simp)
 |false=>exact sH ai 2 (hf q)
def Wk.freeze {id E K:Nat} {rows:List (List AV)} (hc:dO id st.H=some (.own E K rows)):Wk st (ME id rows st):=fun C a w hr=>by
 obtain ⟨F,β,hs,hd,hf,he⟩:=hr;have hI:=he.inv;have hm:=fc hc
 have hz:∀u,Rd w (fun b=>F b∨bP (β id)=some b) β (.o id) u→Rd w (fun b=>F b∨bP (β id)=some b) β (.s rows) u:=fun u hu=>by
  refine .i (MF hI hm ?_);obtain ⟨a,n,c,h1,rfl⟩:=hu.jY;exact .o h1
 have up:∀{x u},Rd w F β x u→Rd w (fun b=>F b∨bP (β id)=some b) β x u:=fun h=>h.frame (fun _ _=>rfl) fun _ h=>.inl h
 have kP:Inv w (fun b=>F b∨bP (β id)=some b) β (oC id rows st.H):=by
  refine ⟨fun b hb=>hb.elim (hI.cA b) fun hb=>hI.fJ ⟨id,_,hm,hb⟩,fun i c h=>?_,DL hI.keys,fun b ⟨i,c,h,hb⟩ hF=>?_,fun i c i' c' b h h' hb aJ=>?_,hI.fh.more fun _ h=>.inl h⟩
  ·obtain ⟨hi,c',h',rfl⟩:=lG h;have hh:=hI.holds i c' h';cases c' with
   |own E' K' r=>exact pI (c:=.own E' K' r) rfl (fun _ h=>.inl h) rfl hh
   |mp ag r=>exact pI (c:=.mp ag r) rfl (fun _ h=>.inl h) rfl hh
   |si s pos=>exact pI (c:=.si s pos) rfl (fun _ h=>.inl h) rfl hh
   |lp l e R L =>
    obtain ⟨fn,tmps,D,hb,yR,pE,zn⟩:=hh;refine ⟨fn,tmps,D,hb,yR,pE,fun p hp=>?_⟩;obtain ⟨q,hq,rfl⟩:=dq.1 hp;exact rN hz (fun _ _=>rfl) 2 (up (zn q hq))
   |box cells =>
    obtain ⟨b,cs,e,hb,hh,hs,h1,hr⟩:=hh;refine ⟨b,cs,e,hb,hh,by simpa using hs,fun j hj=>h1 j (by simpa using hj),fun j hj=>?_⟩
    have hj:j<cells.length:=by simpa using hj
    have:(cells.map (sb (.s rows) 1 id)).getD j .χ=sb (.s rows) 1 id (cells.getD j .χ):=by simp [aV,hj]
    rw [this];exact rN hz (fun _ _=>rfl) 1 (up (hr j hj))
  ·obtain ⟨hi,c',h',_⟩:=lG h
   rcases hF with hF|hF
   ·exact hI.apart b ⟨i,c',h',hb⟩ hF
   ·exact hi (hI.eo i c' id _ b h' hm hb hF)
  ·obtain ⟨_,c2,h2,_⟩:=lG h;obtain ⟨_,c3,h3,_⟩:=lG h';exact hI.eo i c2 i' c3 b h2 h3 hb aJ
 have zi:∀b,bD β (oC id rows st.H) b→bD β st.H b:=fun b ⟨i,c,h,hb⟩=>by
  obtain ⟨_,c2,h2,_⟩:=lG h;exact ⟨i,c2,h2,hb⟩
 refine ⟨_,β,hs,hd,fun t=>rN hz (fun _ _=>rfl) 2 (up (hf t)),he.trans (f:=aG) (f':=aG) ⟨rfl,js.refl _,rfl,bG _,fun _ _ _=>rfl,fun b hb=>.inl hb,fun b hb=>hb.elim .inl fun hb=>.inr (.inr ⟨id,_,hm,hb⟩),fun b hb=>.inr (zi b hb),fun _ _ _=>.χ,kP,fun _ _=>rfl⟩⟩
def Ji {C:Ctx} {fn:Func} {tmps:Array Value} {RR:Ending→World→Prop} {F:Nat→Prop} {β:Nat→Value} {H:Hp} (rb:C.dl=[]):∀(ds:List Deferred) (w:World),XM C ds w F β H →
  (∀w',XM C [] w' F β H→(∀x u,Rd w F β x u→Rd w' F β x u)→LeavesIn gl 0 P fn tmps RR [] .returning w')→LeavesInM gl 0 P fn tmps RR ds .returning w
 |[],w,h,hk=>hk w h fun _ _ hr=>hr
 |d::ds,w,h,hk=>by
  have jS:∀l,C.ms l=l:=fun l=>Ctx.Wd rb;obtain ⟨D,h1,h2,h3,h4,h5⟩:=h.m d (by rw [jS];simp);have dP:=h.nd;rw [jS] at dP;have Φ:=kJ h3;have oG:∀b,b≠D→(w.putObj D (.deferred none)).heap[b]?=w.heap[b]?:=fun b hb=>World.putObj_heap_other hb;have ha:ga F w (w.putObj D (.deferred none)):=fun b hb=>oG b fun e=>h4 (e▸hb);have hI:=h.inv;refine ⟨by simp,.inl ⟨D,_,by rw [h1],run_takeDeferred h3,?_⟩⟩;have kP:Inv (w.putObj D (.deferred none)) F β H:=⟨fun b hb=>by rw [j5];exact hI.cA b hb,fun i c hm=>pH ha (fun _ h=>h) (fun b hb=>oG b fun e=>h5 (e▸⟨i,c,hm,hb⟩)) (hI.holds i c hm),hI.keys,hI.apart,hI.eo,hI.fh.at ha⟩;have hx:=h.x;refine Ji rb ds _ ⟨⟨hx.os,hx.tape,hx.output,by rw [j5];exact hx.size,fun b hb hn=>(oG b (by omega)).trans (hx.block b hb hn),hx.mono,hx.new,hx.owned,fun _ _ _=>.χ,kP,hx.gh⟩,fun d' bH=>?_,by rw [jS];exact (ix.1 dP).2,⟨ds,by rw [rb];simp⟩⟩ fun w' oM cK=>hk w' oM fun x u hr=>cK x u (hr.frame ha fun _ h=>h);rw [jS] at bH;obtain ⟨D',g1,g2,g3,g4,g5⟩:=h.m d' (by rw [jS];simp [bH]);exact ⟨D',g1,g2,(oG D' fun e=>(ix.1 dP).1 (by rw [h1,←e,←g1];exact bH)).trans g3,g4,g5⟩
def HF {g:Nat} {fn:Func} {c:Code} {args:List AV} {H:Hp} {R0:AV→ah→Prop} {w:World} {F:Nat→Prop} {β:Nat→Value} (hT:bL P T) (dK:P.funcs[g]?=some fn) (hb:fn.body=some c) (hn:fn.ntmps=n) (hle:args.length≤n)
  (h:Ok P n c ⟨lg args,H⟩ (sK T fn.results.toList R0)) {vs:Array Value} (hI:Inv w F β H) (hs:vs.size=args.length) (hv:∀i,i<args.length→Rd w F β (args.getD i .χ) (vs.getD i undef)) :
  Calls P g vs w fun e w'=>∃v,e=.returned v∧∃x st F' av,R0 x st∧Rd w' F' av x v∧Ext w F β ⟨aG,H⟩ w' F' av ⟨aG,st.H⟩:=by
 refine callsIn_wide.1 (callsIn_of_wp_marks (F:=gl) (n:=0) dK hb trivial ?_);let C:Ctx:=⟨w,F,β,H,n,none,.inl rfl,[]⟩;have hr:Rel C ⟨lg args,H⟩ { tmps:=vs++og (fn.ntmps-vs.size) undef,defers:=[] } w :=
  ⟨F,β,by simp [C,hn];omega,trivial,OD hs hv,⟨Ext.refl hI,fun d hd=>(eJ hd).elim,qO,⟨[],rfl⟩⟩⟩
 have fin:∀(st:ah) (a':Act) (w':World),Rel C st a' w'→qy T fn.results.toList st (fun x=>R0 x st)→LeavesInM gl 0 P fn a'.tmps (fun e w'=>∃v,e=.returned v∧∃x st F' av,R0 x st∧Rd w' F' av x v∧Ext w F β ⟨aG,H⟩ w' F' av ⟨aG,st.H⟩) a'.defers .returning w':=fun st a' w' ⟨F',av,_,_,hf,he⟩ hq =>
  Ji rfl a'.defers w' he fun rU fw cK=>by
   obtain ⟨v,x,aZ,hk,hx⟩:=Ka (P:=P) (st:=st) hT fw.inv (fun t=>cK _ _ (hf t)) hq;exact ⟨v,aZ,v,rfl,x,st,F',av,hk,hx,fw.x⟩
 refine wpIn_mono (h.h C rfl _ w hr) ?_;rintro e a' w' ⟨st,iR,hq⟩;cases e with
 |normal=>exact fin st a' w' iR hq
 |ret=>exact fin st a' w' iR hq
 |exit id=>exact hq.elim
 |goto l=>exact hq.elim
 |panic ch=>exact hq.elim
 |outgrown=>exact hq.elim
def agG {g : Nat} {fn : Func} {c : Code} {args : List AV} {r : AV} (hT : bL P T) (dK : P.funcs[g]? = some fn) (dR : (fn.name == "runtime.NumGoroutine") = false) (hb : fn.body = some c) (hn : fn.ntmps = n) (hle : args.length ≤ n)
  (h:Ok P n c ⟨lg args,[]⟩ (sK T fn.results.toList fun x st=>Fz st.H x r)):Pure P g args r:=by
 refine ⟨⟨fn,c,dK,dR,hb⟩,fun w F β vs hI hs hv=>?_⟩;refine (HF hT dK hb hn hle h hI hs hv).mono ?_;rintro e w' ⟨v,rfl,x,st,F',av,hz,hx,he⟩
 have bw:∀b,¬bD β ([]:Hp) b:=by rintro b ⟨id,c,hm,_⟩;cases hm
 refine ⟨v,rfl,⟨he.os,he.tape,he.output,he.size,fun b aJ=>he.block b aJ (bw b)⟩,?_⟩;refine (hz w' F' av v he.inv hx).frame (fun _ _=>rfl) fun b aJ=>?_
 rcases aJ with aJ|aJ
 ·rcases he.new b aJ with h1|h1|h1
  ·exact .inl h1
  ·exact .inr ⟨h1,he.inv.cA b aJ⟩
  ·exact (bw b h1).elim
 ·rcases he.owned b aJ with h1|h1
  ·exact .inr ⟨h1,he.inv.fJ aJ⟩
  ·exact (bw b h1).elim
def agF {g E K : Nat} {fn : Func} {c : Code} {args : List AV} {rows : List (List AV)} (hT : bL P T) (dK : P.funcs[g]? = some fn) (dR : (fn.name == "runtime.NumGoroutine") = false) (hb : fn.body = some c) (hn : fn.ntmps = n) (hle : args.length ≤ n)
  (h:Ok P n c ⟨lg args,[]⟩ (sK T fn.results.toList (LN E K rows))):iN P g args E K rows:=by
 refine ⟨⟨fn,c,dK,dR,hb⟩,fun w F β vs hI hs hv=>?_⟩;refine (HF hT dK hb hn hle h hI hs hv).mono ?_;rintro e w' ⟨v,rfl,x,st,F',av,hz,hx,he⟩
 have bw:∀b,¬bD β ([]:Hp) b:=by rintro b ⟨id,c,hm,_⟩;cases hm
 refine ⟨v,rfl,⟨he.os,he.tape,he.output,he.size,fun b aJ=>he.block b aJ (bw b)⟩,F',he.mono,fun b aJ=>?_,?_⟩
 ·rcases he.new b aJ with h1|h1|h1
  ·exact .inl h1
  ·exact .inr ⟨h1,he.inv.cA b aJ⟩
  ·exact (bw b h1).elim
 ·rcases hz with ⟨rfl,rfl⟩|⟨id,rfl,hc⟩
  ·rw [hx.bK];exact ⟨.inl ⟨rfl,none,rfl⟩,⟨_,_,_,rfl⟩,fun b aJ=>by cases aJ⟩
  ·obtain ⟨a,m,cp,ai,rfl⟩:=hx.jY;have hm:=fc hc;refine ⟨JF (he.inv.holds _ _ hm) _ _ ai.symm,⟨_,_,_,rfl⟩,fun b aJ=>?_⟩;have ho:bD av st.H b:=⟨id,_,hm,by rw [ai];exact aJ⟩;refine ⟨?_,he.inv.apart b ho⟩
   rcases he.owned b ho with h1|h1
   ·exact h1
   ·exact (bw b h1).elim
def qv {g : Nat} {fn : Func} {c : Code} {args : List AV} {ch : Chunk} {R1 : AV → Chunk → Prop} (hT : bL P T) (dK : P.funcs[g]? = some fn) (dR : (fn.name == "runtime.NumGoroutine") = false) (hb : fn.body = some c) (hn : fn.ntmps = n) (hle : args.length ≤ n)
  (h:Ok P n c ⟨lg args,[(1000,ch)]⟩ (sK T fn.results.toList (aaq R1))):mz P g args ch R1:=by
 refine ⟨⟨fn,c,dK,dR,hb⟩,fun w F β vs hI hs hv=>?_⟩;refine (HF hT dK hb hn hle h hI hs hv).mono ?_;rintro e w' ⟨v,rfl,x,st,F',av,⟨r,c',hR,fP,g_,hz⟩,hx,he⟩;have hm:=fc fP;have NL:av 1000=β 1000:=he.gh 1000 (bG _);have A3:=he.inv.oA 1000
 have N2:∀b,bD β [(1000,ch)] b↔bP (β 1000)=some b:=fun b=>⟨fun ⟨i,c,hm,hb⟩=>by
  simp only [dB,im] at hm;rw [←hm.1];exact hb,fun hb=>⟨1000,ch,by simp,hb⟩⟩
 have ac6:∀b,bP (β 1000)=some b→bD av st.H b:=fun b hb=>⟨1000,c',hm,by rw [NL];exact hb⟩;refine ⟨v,rfl,r,c',fun b=>F' b∨bD av (oA 1000 st.H) b,hR,hz w' F' av v A3 hx,he.os,he.tape,he.output,he.size,fun b aJ aQ=>he.block b aJ fun ho=>aQ ((N2 b).1 ho),fun b hb=>.inl (he.mono b hb),fun b hb=>?_,g_,?_⟩
 ·rcases hb with hb|⟨i,ci,rp,hb⟩
  ·rcases he.new b hb with h1|h1|h1
   ·exact .inl h1
   ·exact .inr ⟨h1,he.inv.cA b hb⟩
   ·exact absurd hb (he.inv.apart b (ac6 b ((N2 b).1 h1)))
  ·have ho:bD av st.H b:=⟨i,ci,(wc.1 rp).1,hb⟩
   rcases he.owned b ho with h1|h1
   ·exact .inr ⟨h1,he.inv.fJ ho⟩
   ·exact absurd (he.inv.eo i ci 1000 c' b (wc.1 rp).1 hm hb (by rw [NL];exact (N2 b).1 h1)) (wc.1 rp).2
 ·exact pI g_ (fun _ h=>.inl h) NL.symm (he.inv.holds _ _ hm)
end
instance alJ:eE:=eE.no
local instance alB:sl:=⟨[]⟩
local instance aly:nv:=⟨[]⟩
def HG (ops:Array Oper) (i:Nat) (o:Oper):Bool :=
 match o.dst with
 |none=>true
 |some d=>eO d 1000&&(gA ops.size).all fun j=>i==j||((ops[j]?).bind (·.dst)) != some d
def Md (ops:Array Oper) (i:Nat) (o:Oper):Bool :=
 (o.looksAt ops).all fun t=>(gA ops.size).all fun j=>match ops[j]? with
  |none=>true
  |some o'=>(o'.dst != some t)||iO ops i j
def uC (chain:List (Nat×List Nat)) (ops:Array Oper):List Nat:=(gA ops.size).filter fun i=>!(chain.any fun c=>aH c.1 i)
def qa (chain:List (Nat×List Nat)) (ops:Array Oper):List (Nat×List Nat)→Bool
 |[]=>true
 |c::r=>eO c.1 ops.size&&((match ops[c.1]? with|some _=>true|none=>false)&&(((uC chain ops).all fun i=>iO ops c.1 i||c.2.elem i)&&((match r with|[]=>true|c'::_=>iO ops c'.1 c.1)&&qa chain ops r)))
def SD (chain:List (Nat×List Nat)) (ops:Array Oper):Bool :=
 ((gA ops.size).all fun i=>match ops[i]? with
  |none=>true
  |some o=>yl i o&&(uy ops i o&&(HG ops i o&&Md ops i o)))&&(qa chain ops chain&&((uC chain ops).all fun i=>match ops[i]? with|some o=>o.dst.isSome|none=>true))
def H8 (chain:List (Nat×List Nat)) (ops:Array Oper):List Oper:=(uC chain ops).filterMap fun i=>ops[i]?
def SE (P:Program) (T:TT) (n:Nat) (ops:Array Oper):List (Nat×List Nat)→ah→(ah→Prop)→Prop
 |[],st,K=>K st
 |c::r,st,K=>match ops[c.1]? with
  |some o=>gd n ops o st (fun st=>step P T o st fun x au=>put n o.dst au x fun fL=>qs P T ops fL c.2∧SE P T n ops r fL K) fun st=>put n o.dst st (.v undef) fun fL=>qs P T ops fL c.2∧SE P T n ops r fL K
  |none=>False
section
variable {P:Program} {T:TT} {C:Ctx}
structure Hg (C:Ctx) (ops:Array Oper) (m:Nat) (fA:Nat→AV) (Hm:Hp) (listed:Array Bool) (a:Act) (w:World):Prop where
 ex:∃F β,a.tmps.size=C.n∧True∧XM C a.defers w F β Hm ∧
  (∀t,(∀i o,i<m→ops[i]?=some o→o.dst=some t→listed.getD i false=true)→Rd w F β (fA t) (a.tmps.getD t undef))
def acd {ops:Array Oper} {m i n:Nat} {o:Oper} {fe:Nat→AV} {Hm:Hp} {listed:Array Bool} {a:Act} {w:World} {Q:Exit→Act→World→Prop} {N:Act→World→Prop}
  (hT:bL P T) (hn:C.n=n) (aX:listed.size=ops.size) (ho:ops[i]?=some o)
  (Bl:∀t j o',j<m→t∈o.looksAt ops→ops[j]?=some o'→o'.dst=some t→listed.getD j false=true)
  (bU:vR P T ops Hm fe o) (Φ:∀d,o.dst=some d→d<n) (h:Hg C ops m fe Hm listed a w)
  (hN:∀a w,Hg C ops m fe Hm (listed.setIfInBounds i true) a w→N a w):wpOpIn (fN C.ro) 0 P ops Q i N a w:=by
 obtain ⟨F,β,hs,hd,he,hf⟩:=h.ex;obtain ⟨d,fp,bU⟩:=bU
 have yM:d<a.tmps.size:=by rw [hs,hn];exact Φ d fp
 have eM:i<listed.size:=by rw [aX];exact (lB.1 ho).1
 have look:∀t,t∈o.looksAt ops→Rd w F β (fe t) (a.tmps.getD t undef):=fun t ht=>hf t fun j o' hj aB bH=>Bl t j o' hj ht aB bH
 have rJ:∀x,x∈o.op.operands→Rd w F β (ev fe x) (a.eval x):=fun x hx=>by
  cases x with
  |tmp t=>exact look t (qM _ (mi.2 ⟨.tmp t,by simpa using hx,rfl⟩))
  |const v=>exact nV _ _ _ _
  |global g=>exact .χ
  |func g=>exact .i (.c rfl rfl (fun i hi=>absurd hi (by simp)) (fun i hi=>absurd hi (by simp)))
 have hI:Inv w F β Hm:=he.inv
 have done:∀(v:Value) (w':World),Below w.heap.size w w'→Rd w' (fF F w w') β (fe d) v→Hg C ops m fe Hm (listed.setIfInBounds i true) (a.put (some d) v) w':=fun v w' hb hv=>by
  have hx:=wi (st:=⟨aG,Hm⟩) he.inv hb;refine ⟨fF F w w',β,by simpa [iM] using hs,hd,he.trans hx,fun t ht=>?_⟩;by_cases pL:t=d
  ·subst pL;simpa [iM,yM] using hv
  ·have h1:=(hf t fun j o' hj aB bH=>by
    have:=ht j o' hj aB bH;rw [fD eM] at this;split at this
    ·rename_i e;subst e;rw [ho] at aB;cases aB;rw [fp] at bH;cases bH;exact absurd rfl pL
    ·exact this).later hb he.inv.cA
   simpa [iM,xA (j4 pL)] using h1
 have run:(n_ P T o (ev fe) Hm fun r=>r=fe d)→o.wpIn (fN C.ro) 0 P a w N Q:=fun hs=>by
  have dP:=Yl hs
  rcases Ym hT hI rJ hs with ⟨v,w',aZ,hb,r,rfl,hv⟩|⟨g,vs,aZ,hc⟩
  ·refine Oper.kj dP aZ ?_;rw [xK,fp];exact hN _ _ (done v w' hb hv)
  ·refine Oper.kj dP aZ ?_;rw [Ax];refine ⟨fun h=>(by cases h),vZ (hc.mono ?_)⟩;rintro e w' ⟨v,rfl,hb,r,rfl,hv⟩;rw [fp];exact hN _ _ (done v w' hb hv)
 have skip:fe d=.v undef→N (a.put o.dst undef) w:=fun h0=>by
  rw [fp];exact hN _ _ (done undef w (Below.refl _ _) (by rw [h0];exact .i (.v (.inr rfl))))
 unfold wpOpIn;simp only [ho];cases hg:o.guard with
 |none =>
  rw [hg] at bU
  have hw:dW o (yielded ops a.tmps)=true:=by simp [dW,hg]
  rw [if_pos hw];exact run bU
 |some jw =>
  obtain ⟨j,want⟩:=jw;rw [hg] at bU;obtain ⟨g,eu,bU⟩:=bU
  have uK:g∈o.looksAt ops:=by
   refine vH _ ?_;rw [hg];simp [eu]
  have py:=look g uK
  have hy:∀v,v≠undef→a.tmps.getD g undef=v→yielded ops a.tmps j=match v with|.bool b=>some b|_=>none:=by
   intro v aQ hv
   have h2:a.tmps[g]?=some v:=by
    by_cases hl:g<a.tmps.size
    ·rw [←hv];simp [hl]
    ·exact absurd (by rw [←hv];simp [hl]) aQ
   unfold yielded;rw [eu,cm,h2];cases v<;>rfl
  rcases bU with ⟨h1,h2⟩|⟨h1,h2⟩|⟨⟨vs,h1⟩,h2⟩
  ·rw [h1] at py;have h_:=hy _ (by simp [undef]) py.bK
   have hw:dW o (yielded ops a.tmps)=true:=by simp [dW,hg,h_]
   rw [if_pos hw];exact run h2
  ·rw [h1] at py;have h_:=hy _ (by simp [undef]) py.bK
   have hw:¬dW o (yielded ops a.tmps)=true:=by simp [dW,hg,h_]
   rw [if_neg hw];exact ⟨fun _ _=>trivial,skip h2⟩
  ·rw [h1] at py;have hv:=py.bK
   have h_:yielded ops a.tmps j=none:=by
    unfold yielded;rw [eu,cm];by_cases hl:g<a.tmps.size
    ·have h3:a.tmps[g]?=some (.tuple vs):=by rw [←hv];simp [hl]
     rw [h3]
    ·simp [ZE (Nat.le_of_not_lt hl)]
   have hw:¬dW o (yielded ops a.tmps)=true:=by simp [dW,hg,h_]
   rw [if_neg hw];exact ⟨fun _ _=>trivial,skip h2⟩
def Jo {chain:List (Nat×List Nat)} {ops:Array Oper} {i:Nat}:i∈uC chain ops↔i<ops.size∧∀c,c∈chain→c.1≠i:=by
 unfold uC;rw [eD,mq];refine and_congr_right fun _=>?_;simp only [Bool.not_eq_true',List.any_eq_false];refine ⟨fun h c hc e=>h c hc (by rw [e];exact iY _),fun h c hc e=>h c hc (cW e)⟩
end
end
end Go.Cat
