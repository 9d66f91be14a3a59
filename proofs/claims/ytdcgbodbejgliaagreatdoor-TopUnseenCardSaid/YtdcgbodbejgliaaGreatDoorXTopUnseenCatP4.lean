/- The logic that the walks are in, piece P4. No condition. -/
import Derived.Test.YtdcgbodbejgliaaGreatDoorXTopUnseenCatP3
import Derived.ProofKit
open Array renaming getElem?_eq_getElem → gr, getElem?_eq_some_iff → lg, getD_eq_getD_getElem? → lf, length_toList → lJ, getElem?_setIfInBounds_ne → xg, replicate → oc, toList_setIfInBounds → YX, getElem?_replicate → YV, getElem?_eq_none → YT, mem_map → als
open Bool renaming and_eq_true → bJ, or_eq_true → tT
open Classical renaming byContradiction → xi
open Go.Act renaming put → iK
open Go.Call renaming operands → qA
open Go.DataW renaming trod → CX, TrodAll → KN, trod_step → QM, trodStep → QL
open Go.Deferred renaming ofValue → l8
open Go.Fence renaming wide → ga
open Go.Op renaming operands → tZ
open Go.OpenSpec renaming ofChange → Zt
open Go.Oper renaming uponIn_value → xu, uponIn_enter → Ao
open Go.Region renaming wanted → dS, binds → jG, ready → lQ
open Go.Value renaming okWide → Db, pointer → Rl
open Go.World renaming putObj_size → j2, cells?_some → Rn
open List renaming getElem?_eq_getElem → bT, mem_cons_of_mem → cr, mem_cons → bj, getD → aY, mem_singleton → dD, length_take → dQ, mem_map → dg, mem_filter → eB, all_eq_true → ej, not_mem_nil → eH, getElem?_append → gC, replicate → ic, nodup_cons → iv, range → gu, mem_filterMap → mb, map_cons → jD, drop_eq_nil_of_le → qC, mem_range → me, drop_eq_getElem_cons → xl, mem_append_left → qE, nodup_nil → qG, append_nil → xk, eq_nil_iff_forall_not_mem → Am, mem_append_right → vj, take_append_drop → xp, mem_iff_getElem → C6, map_congr_left → KU, getElem_take → GJ, count_eq_zero → Zf, drop_drop → alr
open Nat renaming eq_of_beq_eq_true → cR, beq → aH, le_refl → bF, add_mul → bO, lt_or_ge → gG, blt → eL, blt_eq → gF, zero_add → jF, beq_refl → iX, lt_of_lt_of_le → oe, not_lt → mg, strongRecOn → tX
open Ne renaming symm → j1
open Option renaming bind_some → cD, map_eq_some_iff → C9, bind_eq_some_iff → Zv
open Prod.mk renaming injEq → ig
namespace Go.Cat
set_option linter.all false
section
open Go.RowKit
variable [M:bK] [G:cL]
class qK where
 md:List Nat
class mj where
 ch:List (Nat×Chunk)
def dU [MD:qK] (o:Oper):Option (Nat×Option Nat) :=
 match o.op,o.dst,o.guard with
 | .alloc t,some d,none=>some (d,some t)
 | .call _,some d,none=>bif MD.md.elem d then some (d,none) else none
 | _,_,_=>none
def zm [MD:qK] (o:Oper):Bool :=
 match dU o with
 | some (_,some _)=>true
 | _=>false
def wG (d:Nat):Chunk→AV
 | .box _=>.b d 0
 | .own ..=>.o d
 | .mp ..=>.m d
 | .lp ..=>.χ
 | .si ..=>.b d 0
def wH:List (Nat×Chunk)→Nat→Option Chunk
 | [],_=>none
 | (i,c)::r,d=>bif aH d i then some c else wH r d
def js:List (Nat×Option Nat)→ae→ae
 | [],st=>st
 | (d,_)::r,st=>js r ⟨fun t=>er 2 d (st.f t),gR d st.H⟩
def wO [CH:mj] (d:Nat):Bool:=match wH CH.ch d with | some (.own ..)=>true | _=>false
def preB [CH:mj]:List (Nat×Option Nat)→(Nat→AV)→Nat→AV
 | [],f=>f
 | (d,none)::r,f=>preB r (bif wO d then dW f d (.o d) else f)
 | (_,some _)::r,f=>preB r f
def Fm [CH:mj] {t:Nat}:∀{l:List (Nat×Option Nat)} {f:Nat→AV},(∀x,(t,x)∉l)→preB l f t=f t
 | [],f,_=>rfl
 | (d,none)::r,f,h=>by
  have aO:t≠d:=fun e=>h none (by rw [e]; exact List.mem_cons_self ..);unfold preB;rw [Fm fun x hx=>h x (cr _ hx)]
  have hb:aH t d=false:=by
   cases h':aH t d with
   | false=>rfl
   | true=>exact absurd (cR h') aO
  cases wO d with
  | true=>show (bif aH t d then _ else _)=_; rw [hb]; rfl
  | false=>rfl
 | (d,some y)::r,f,h=>by
  unfold preB;exact Fm fun x hx=>h x (cr _ hx)
def Jx [CH:mj] {t:Nat} (hp:wO t=true):∀{l:List (Nat×Option Nat)} {f:Nat→AV},(l.map (·.1)).Nodup→(t,none)∈l→preB l f t=.o t
 | (d,none)::r,f,hn,hm=>by
  rw [jD,iv] at hn;unfold preB;by_cases e:t=d
  ·subst e;rw [hp,Fm fun x hx=>hn.1 (dg.2 ⟨(t,x),hx,rfl⟩)];show (bif aH t t then _ else _)=_;rw [iX]; rfl
  ·exact Jx hp hn.2 ((bj.1 hm).resolve_left fun h=>e (by cases h; rfl))
 | (d,some y)::r,f,hn,hm=>by
  rw [jD,iv] at hn;unfold preB;exact Jx hp hn.2 ((bj.1 hm).resolve_left fun h=>by cases h)
def qO [CH:mj] (T:TT) (n:Nat):List (Nat×Option Nat)→ae→(ae→Prop)→Prop
 | [],st,K=>K st
 | (d,some t)::r,st,K=>match T t with
  | some i=>bif jk (cq i.zero)&&eL d n then qO T n r ⟨dW st.f d (.b d 0),(d,.box (bt (cq i.zero)))::st.H⟩ K else False
  | none=>False
 | (d,none)::r,st,K=>match wH CH.ch d with
  | some c=>bif eL d n then qO T n r ⟨dW st.f d (wG d c),(d,c)::st.H⟩ K else False
  | none=>False
def lj [CH:mj] (T:TT) (d:Nat) (x:Option Nat) (c:Chunk):Prop :=
 match x with
 | some t=>∃z,T t=some z∧jk (cq z.zero)=true∧c=.box (bt (cq z.zero))
 | none=>wH CH.ch d=some c
def lj.uniq [CH:mj] {T:TT} {d:Nat} {x:Option Nat} {c c':Chunk} (h:lj T d x c) (h':lj T d x c'):c=c':=by
 cases x with
 | some t =>
  obtain ⟨z,h1,_,rfl⟩:=h;obtain ⟨z',nC,_,rfl⟩:=h';rw [h1] at nC; cases nC; rfl
 | none =>
  unfold lj at h h';simp only at h h';rw [h] at h'; exact Option.some.inj h'
def Li (P:Program) (g:FuncId) (args:List AV) (c:Chunk):Prop :=
 pW P g∧∀(w:World) (F:Nat→Prop) (β:Nat→Value) (vs:Array Value),Inv w F β []→vs.size=args.length→(∀i,i<args.length→Rd w F β (args.getD i .χ) (vs.getD i undef)) →
  Calls P g vs w fun e w'=>∃v,e=.returned v∧Below w.heap.size w w'∧∃F',(∀b,F b→F' b)∧(∀b,F' b→fD F w w' b)∧(∀av i,av i=v→c.holds w' F' av i∧Rd w' F' av (wG i c) v) ∧
   ∀b,bQ v=some b→w.heap.size≤b∧¬F' b
def G1 (P:Program) (f:Nat→AV) (o:Oper) (c:Chunk):Prop :=
 match o.op with
 | .call q=>match q.callee with
  | .value x=>match ev f x with
   | .c (.func g) fs cs=>∃ys,Li P g ys c∧iL (fs++(q.args.toList.map (ev f)++cs)) ys
   | _=>False
  | _=>False
 | _=>False
def s5 [MD:qK] [CH:mj] (P:Program) (f:Nat→AV):List Oper→Prop
 | []=>True
 | o::r=>match dU o with
  | some (d,none)=>(match wH CH.ch d with
   | some c=>G1 P f o c
   | none=>False)∧s5 P f r
  | _=>s5 P f r
def I6 [MD:qK] [CH:mj] {P:Program} {f:Nat→AV} {o:Oper} {d:Nat}:∀{l:List Oper},s5 P f l→o∈l→dU o=some (d,none)→∃c,wH CH.ch d=some c∧G1 P f o c
 | [],_,h,_=>by cases h
 | p::r,hl,h,ha=>by
  rcases bj.1 h with rfl | h
  ·simp only [s5,ha] at hl;have h1:=hl.1;split at h1
   ·rename_i c hc; exact ⟨c,hc,h1⟩
   ·exact h1.elim
  ·simp only [s5] at hl;split at hl
   ·exact I6 hl.2 h ha
   ·exact I6 hl h ha
def O5 (T:TT) (t t':Nat) (s x:AV) (H:Hp) (k:AV→Prop):Prop :=
 match T t with
 | some i=>match i.kind with
  | .slice e=>match T e with
   | some j =>
    bif aH j.bytes 0||(aH j.cells 0||!(aH j.zero.cells.size j.cells)) then False else
    bif (match s with | .v (.slice none 0 0)=>true | .z=>true | _=>false) then
     Dh T t t' e x 5000 H fun bR=>oW bR j.cells∧bR.length*j.bytes≤140737488355328∧∃R,bR=R∧k (.s R)
    else False
   | none=>False
  | _=>False
 | none=>False
def nY (P:Program) (T:TT) (o:Oper) (ρ:Operand→AV) (H:Hp) (k:AV→Prop):Prop :=
 match o.op with
 | .buildSlice t n parts=>match n with
  | 0=>zQ T t 0 (parts.toList.map fun q=>(q.1,ρ q.2)) fun _ _ _=>k .z
  | n+1=>zQ T t (n+1) (parts.toList.map fun q=>(q.1,ρ q.2)) fun rows _ _=>bif rows.all (fun r=>r.all fj) then k (.s (rows.map fun r=>r.map nz)) else False
 | .call c=>match c.callee with
  | .builtin .append=>match c.argTypes.toList,c.args.toList.map ρ with
   | [t,t'],[s,x]=>O5 T t t' s x H k
   | _,_=>False
  | _=>mZ P T o ρ H k
 | _=>mZ P T o ρ H k
def rP (P:Program) (T:TT) (n:Nat) (all:Array Oper):List Oper→ae→(ae→Prop)→Prop
 | [],st,K=>K st
 | o::os,st,K=>gd n all o st (fun st=>∃r,nY P T o (ev st.f) st.H (fun r'=>r'=r)∧put n o.dst st r fun aq=>rP P T n all os aq K) fun st=>put n o.dst st (.v undef) fun aq=>rP P T n all os aq K
section
variable {P:Program} {T:TT} {w:World} {F:Nat→Prop} {β av:Nat→Value} {H:Hp}
def XB {o:Oper} {ρ pO:Operand→AV} {k:AV→Prop} (h:∀x,x∈o.op.operands→ρ x=pO x) (hs:mZ P T o ρ H k):mZ P T o pO H k:=by
 obtain ⟨dst,op,type,pos,after,guard⟩:=o;have parts:∀ps:Array (Nat×Operand),(∀x,x∈ps.map (·.2)→ρ x=pO x)→(ps.toList.map fun q=>(q.1,ρ q.2))=ps.toList.map fun q=>(q.1,pO q.2):=fun ps hp =>
  KU fun q hq=>by rw [hp q.2 (als.2 ⟨q,by simpa using hq,rfl⟩)]
 have EX:∀xs:Array Operand,(∀x,x∈xs→ρ x=pO x)→xs.toList.map ρ=xs.toList.map pO:=fun xs hp=>KU fun x hx=>hp x (by simpa using hx);cases op <;> simp only [tZ] at h <;> simp only [mZ] at hs ⊢
 case build t ps=>rwa [←parts ps fun x hx=>h x (by simpa using hx)]
 case buildSlice t n ps=>rwa [←parts ps fun x hx=>h x (by simpa using hx)]
 case makeFunc fn fs cs=>rwa [←EX fs fun x hx=>h x (by simp [hx]),←EX cs fun x hx=>h x (by simp [hx])]
 case slice t x lo hi mx=>cases lo <;> cases hi <;> cases mx <;> simp_all
 case call c =>
  obtain ⟨callee,args,argTypes⟩:=c;have ha:=EX args fun x hx=>h x (by simp [qA,hx]);cases callee with
  | builtin b=>simp only at hs ⊢; rwa [←ha]
  | value f=>simp only at hs ⊢; rwa [←ha,←h f (by simp [qA])]
  | invoke r m=>exact hs
 all_goals first | exact hs | (simp_all; done)
def Xy {o:Oper} {ρ pO:Operand→AV} {k:AV→Prop} (h:∀x,x∈o.op.operands→ρ x=pO x) (hs:nY P T o ρ H k):nY P T o pO H k:=by
 obtain ⟨dst,op,type,pos,after,guard⟩:=o;have parts:∀ps:Array (Nat×Operand),(∀x,x∈ps.map (·.2)→ρ x=pO x)→(ps.toList.map fun q=>(q.1,ρ q.2))=ps.toList.map fun q=>(q.1,pO q.2):=fun ps hp =>
  KU fun q hq=>by rw [hp q.2 (als.2 ⟨q,by simpa using hq,rfl⟩)]
 have EX:∀xs:Array Operand,(∀x,x∈xs→ρ x=pO x)→xs.toList.map ρ=xs.toList.map pO:=fun xs hp=>KU fun x hx=>hp x (by simpa using hx);cases op
 case buildSlice t n ps =>
  cases n with
  | zero=>simp only [nY] at hs ⊢; rwa [←parts ps fun x hx=>h x (by simpa [tZ] using hx)]
  | succ n=>simp only [nY] at hs ⊢; rwa [←parts ps fun x hx=>h x (by simpa [tZ] using hx)]
 case call c =>
  obtain ⟨callee,args,argTypes⟩:=c;have ha:=EX args fun x hx=>h x (by simp [tZ,qA,hx]);have old:=XB (P:=P) (T:=T) (k:=k) (H:=H) (o:=⟨dst,.call ⟨callee,args,argTypes⟩,type,pos,after,guard⟩) h;cases callee with
  | builtin b=>cases b <;> first | exact old hs | (simp only [nY] at hs ⊢; rwa [←ha])
  | value f=>exact old hs
  | invoke r m=>exact old hs
 all_goals exact XB (P:=P) (T:=T) (H:=H) (k:=k) h hs
def agw {t t':Nat} {s x:AV} {vs vx:Value} {k:AV→Prop} (hT:bM P T) (hI:Inv w F β H) (hs:Rd w F β s vs) (hx:Rd w F β x vx) (h:O5 T t t' s x H k) (ty:TypeId) :
  cz P (Builtin.append_ #[t,t'] ty #[vs,vx]) w F β k:=by
 unfold O5 at h;split at h
 ·rename_i i hi;split at h
  ·rename_i e he;split at h
   ·rename_i j hj;cases hb:(aH j.bytes 0||(aH j.cells 0||!(aH j.zero.cells.size j.cells))) with
    | true=>rw [hb] at h; cases h
    | false =>
     rw [hb] at h;simp only [Bool.or_eq_false_iff,Bool.not_eq_false'] at hb
     have ek:j.bytes≠0:=fun e=>by have:=hb.1; rw [e] at this; cases this
     have hz:j.zero.cells.size=j.cells:=cR hb.2.2;simp only [cond_false] at h;obtain ⟨aZ,h⟩:=cond_prop h
     obtain ⟨a,rfl⟩:∃a,vs=.slice a 0 0:=by
      split at aZ
      ·exact ⟨none,hs.bL⟩
      ·exact hs.Ah
      ·cases aZ
     obtain ⟨rows,⟨hlen,kK,R,rfl,hk⟩,news,iD,fy⟩:=Lo (st:=⟨aF,H⟩) (kk:=fun bR=>oW bR j.cells∧bR.length*j.bytes≤140737488355328∧∃R,bR=R∧k (.s R)) hT hI hi he hj hx h fun rows hr=>hr.1;have AX:Inv w F (fun i=>if i=0 then .slice a 0 0 else β i) [(0,.own e j.cells [])] :=
      ⟨hI.cC,fun i c hm=>by simp only [dD,ig] at hm; obtain ⟨rfl,rfl⟩:=hm; exact .inl ⟨rfl,a,if_pos rfl⟩,by simp,
       fun b ⟨i,c,hm,hb⟩=>by simp only [dD,ig] at hm; obtain ⟨rfl,rfl⟩:=hm; simp only [if_true] at hb; cases a <;> simp [bQ] at hb,
       fun i c i' c' b h h' _ _=>by simp only [dD,ig] at h h'; rw [h.1,h'.1],hI.fh⟩
     obtain ⟨v',w',hr,r,aq,F',av,⟨rfl,rfl⟩,hv,hx⟩:=Lp (st:=⟨aF,[(0,.own e j.cells [])]⟩) (L:=0) (rows:=[]) (bR:=rows) (v:=.slice a 0 0) (k:=fun r aq=>r=.o 0∧aq=gH ⟨aF,[(0,.own e j.cells [])]⟩ 0 (.own e j.cells rows)) (ty:=ty)
      (by decide) hT AX hi he hj ek hz (.inr ⟨by simp,if_pos rfl⟩) ⟨news,iD,fy⟩ hlen (by simpa using kK) ⟨rfl,by simp⟩
     have bw:∀b,¬bD (fun i=>if i=0 then Value.slice a 0 0 else β i) [(0,.own e j.cells [])] b:=fun b ⟨i,c,hm,hb⟩=>by
      simp only [dD,ig] at hm; obtain ⟨rfl,rfl⟩:=hm; simp only [if_true] at hb; cases a <;> simp [bQ] at hb
     have oD:(0,Chunk.own e j.cells rows)∈(gH ⟨aF,[(0,.own e j.cells [])]⟩ 0 (.own e j.cells rows)).H:=by simp [gH]
     refine ⟨v',w',.s rows,hr,⟨hx.os,hx.tape,hx.output,hx.size,fun b hb=>hx.block b hb (bw b)⟩,hk,.i ?_⟩;refine (Me hx.inv oD hv).frame (fun _ _=>rfl) fun b hb=>?_
     rcases hb with hb | hb
     ·rcases hx.new b hb with h1 | h1 | h1
      ·exact .inl h1
      ·exact .inr ⟨h1,hx.inv.cC b hb⟩
      ·exact absurd h1 (bw b)
     ·have ho:bD av (gH ⟨aF,[(0,.own e j.cells [])]⟩ 0 (.own e j.cells rows)).H b:=⟨0,_,oD,hb⟩
      rcases hx.owned b ho with h1 | h1
      ·exact .inr ⟨h1,hx.inv.fI ho⟩
      ·exact absurd h1 (bw b)
   ·cases h
  ·cases h
 ·cases h
def XA {o:Oper} {ρ:Operand→AV} {a:Act} {k:AV→Prop} (hT:bM P T) (hI:Inv w F β H) (bI:∀x,x∈o.op.operands→Rd w F β (ρ x) (a.eval x))
  (h:nY P T o ρ H k):ua P (execOp a.eval o) w fun v w'=>∃r,k r∧Rd w' (fD F w w') β r v:=by
 obtain ⟨dst,op,type,pos,after,guard⟩:=o;cases op
 case buildSlice t n parts =>
  cases n with
  | succ n=>exact Kj (o:=⟨dst,.buildSlice t (n+1) parts,type,pos,after,guard⟩) hT hI bI h
  | zero =>
   simp only [nY] at h;simp only [tZ] at bI;simp only [execOp];obtain ⟨rows,e,size,us,hk,_,hs,nL,lC,fB,aZ,a_,hlen⟩:=O3 (P:=P) (w:=w) (F:=F) (β:=β) hT (Jt ρ a.eval parts) (Ju fun x hx=>bI x (by simpa using hx)) h;exact (show cz P (Instr.buildSlice t 0 (parts.map fun x=>(x.1,a.eval x.2))) w F β k from ⟨_,_,_,a_,vE w (.cells us e),hk,.i .z⟩).out
 case call c =>
  obtain ⟨callee,args,argTypes⟩:=c;have old:=Kj (P:=P) (T:=T) (w:=w) (F:=F) (β:=β) (H:=H) (k:=k) (o:=⟨dst,.call ⟨callee,args,argTypes⟩,type,pos,after,guard⟩) (ρ:=ρ) (a:=a) hT hI bI;cases callee with
  | value f=>exact old h
  | invoke r m=>exact old h
  | builtin b =>
   cases b
   case append =>
    simp only [nY] at h;simp only [execOp]
    have mO:∀i,i<(args.toList.map ρ).length→Rd w F β ((args.toList.map ρ).getD i .χ) ((args.map a.eval).getD i undef):=fun i hi=>by
     simp at hi;have:=bI args[i] (by simp [tZ,qA]);simpa [aY,hi] using this
    split at h
    ·rename_i t t' s x e1 e2
     have LU:argTypes=#[t,t']:=by rw [←Array.toArray_toList (xs:=argTypes),e1]
     have hl:args.size=2:=by have:=congrArg List.length e2; simpa using this
     rw [e2] at mO;have h0:=mO 0 (by simp);have h1:=mO 1 (by simp)
     have ea:args.map a.eval=#[(args.map a.eval).getD 0 undef,(args.map a.eval).getD 1 undef]:=by
      apply Array.ext
      ·simp [hl]
      ·intro i h1 h2
       have:i=0∨i=1:=by simp at h2; omega
       rcases this with rfl | rfl <;> simp [hl]
     have e:(do let d ←resolve a.eval { callee:=.builtin .append,args:=args,argTypes:=argTypes } type; invoke d.target d.args:Sem Next)=builtin .append argTypes type (args.map fun | .const _=>true | _=>false) (args.map a.eval):=rfl;rw [e,ea,LU];exact (agw (ty:=type) hT hI (by simpa using h0) (by simpa using h1) h).out
    ·cases h
   all_goals exact old h
 all_goals exact Kj (P:=P) (T:=T) (H:=H) (k:=k) hT hI bI h
def Rd.CN {d:Nat} (hd:β d=undef) (ah:∀i,i≠d→av i=β i) {x:AV} {u:Value} (h:Rd w F β x u):Rd w F av x u:=by
 have ne:∀{i:Nat} {v:Value},β i=v→v≠undef→i≠d:=fun h hv e=>hv (by rw [←h,e,hd]);induction h with
 | i h=>exact .i h
 | χ=>exact .χ
 | b h=>exact .b ((ah _ (ne h (by simp [undef]))).trans h)
 | o h=>exact .o ((ah _ (ne h (by simp [undef]))).trans h)
 | e h=>exact .e ((ah _ (ne h (by simp [undef]))).trans h)
 | w h hd ha=>exact .w ((ah _ (ne h (by simp [undef]))).trans h) hd ha
 | m h=>exact .m ((ah _ (ne h (by simp [undef]))).trans h)
 | a hs eZ h ih=>exact .a hs eZ ih
 | t hs h ih=>exact .t hs ih
 | c hs eu h h' ih EM=>exact .c hs eu ih EM
def Ur {d i:Nat} {c:Chunk} (hd:β d=undef) (ah:∀i,i≠d→av i=β i) (hi:i≠d) (h:c.holds w F β i):c.holds w F av i:=by
 cases c with
 | box cells =>
  obtain ⟨b,cs,e,hb,hh,hs,h1,hr⟩:=h;exact ⟨b,cs,e,(ah i hi).trans hb,hh,hs,h1,fun j hj=>(hr j hj).CN hd ah⟩
 | own E k rows =>
  unfold Chunk.holds at *;rw [ah i hi];exact h
 | mp ag rows =>
  unfold Chunk.holds at *;rw [ah i hi];exact h
 | si s pos =>
  unfold Chunk.holds at *;rw [ah i hi];exact h
 | lp l e R L =>
  obtain ⟨fn,tmps,D,hb,hh,hn,hr⟩:=h;exact ⟨fn,tmps,D,(ah i hi).trans hb,hh,hn,fun p hp=>(hr p hp).CN hd ah⟩
def Inv.sub {H':Hp} (h:Inv w F β H) (za:∀x,x∈H'→x∈H) (hk:(H'.map (·.1)).Nodup):Inv w F β H' :=
 ⟨h.cC,fun id c hm=>h.holds id c (za _ hm),hk,fun b ⟨id,c,hm,hb⟩=>h.apart b ⟨id,c,za _ hm,hb⟩,fun id c EL c' b h1 h2=>h.eA id c EL c' b (za _ h1) (za _ h2),h.fh⟩
def Ext.AI {w0:World} {F0:Nat→Prop} {oR:Nat→Value} {oP:ae} {H':Hp} (h:Ext w0 F0 oR oP w F β ⟨aF,H⟩) (bH:∀x,x∈H'↔x∈H) (hk:(H'.map (·.1)).Nodup):Ext w0 F0 oR oP w F β ⟨aF,H'⟩ where
 os:=h.os
 tape:=h.tape
 output:=h.output
 size:=h.size
 block:=h.block
 mono:=h.mono
 new:=h.new
 owned:=fun b ⟨id,c,hm,hb⟩=>h.owned b ⟨id,c,(bH _).1 hm,hb⟩
 keep:=fun _ _ _=>.χ
 inv:=h.inv.sub (fun x hx=>(bH x).1 hx) hk
 gp:=h.gp
def aa8 {d:Nat} {cells:List AV} {us:Array Value} {e:TypeId} {f:Nat→AV} (pj:d<1000) (hI:Inv w F β H) (hd:β d=undef) (lW:∀c,(d,c)∉H) (hs:us.size=cells.length) (h1:∀i,i<cells.length→(us.getD i undef).oneCell'=true)
  (hr:∀β,∀i,i<cells.length→Rd (w.alloc (.cells us e)) F β (cells.getD i .χ) (us.getD i undef)) :
  Ext w F β ⟨f,H⟩ (w.alloc (.cells us e)) F (fun i=>if i=d then .pointer (some ⟨w.heap.size,0,none⟩) else β i) ⟨f,(d,.box cells)::H⟩:=by
 have ah:∀i,i≠d→(fun i=>if i=d then Rl (some ⟨w.heap.size,0,none⟩) else β i) i=β i:=fun i hi=>if_neg hi;have aR:∀b,b<w.heap.size→(w.alloc (.cells us e)).heap[b]?=w.heap[b]?:=fun b hb=>_root_.Go.heap_alloc_old w _ hb;have ha:fZ F w (w.alloc (.cells us e)):=fun b hb=>aR b (hI.cC b hb);have aO:∀{i c},(i,c)∈H→i≠d:=fun hm e=>lW _ (e▸hm)
 have du:∀b,bD (fun i=>if i=d then Rl (some ⟨w.heap.size,0,none⟩) else β i) ((d,.box cells)::H) b→b=w.heap.size∨bD β H b:=by
  rintro b ⟨i,c,hm,hb⟩
  rcases bj.1 hm with hm | hm
  ·cases hm;simp [bQ] at hb;exact .inl hb.symm
  ·simp only [if_neg (aO hm)] at hb;exact .inr ⟨i,c,hm,hb⟩
 refine ⟨rfl,⟨rfl,fun _=>(by first | exact bF _ | exact Nat.le_succ _)⟩,rfl,by simp,fun b hb _=>aR b hb,fun _ h=>h,fun _ h=>.inl h,fun b hb=>(du b hb).elim (fun h=>.inl (by omega)) .inr,fun t u h=>(h.frame ha fun _ h=>h).CN hd ah,?_,fun i hi=>ah i (by omega)⟩;refine ⟨fun b hb=>by have:=hI.cC b hb; simp; omega,fun i c hm=>?_,?_,fun b ho hF=>?_,?_,hI.fh.at ha⟩
 ·rcases bj.1 hm with hm | hm
  ·cases hm;exact ⟨w.heap.size,us,e,by simp,heap_alloc_new w _,hs,h1,hr _⟩
  ·exact Ur hd ah (aO hm) (pz ha (fun _ h=>h) (fun b hb=>aR b (hI.fI ⟨i,c,hm,hb⟩)) (hI.holds i c hm))
 ·simp only [jD,iv];refine ⟨fun hm=>?_,hI.keys⟩;obtain ⟨x,hx,lE⟩:=dg.1 hm;exact lW x.2 (by rw [←lE]; exact hx)
 ·rcases du b ho with rfl | h
  ·have:=hI.cC _ hF; omega
  ·exact hI.apart b h hF
 ·intro i c i' c' b hm bV hb aK
  rcases bj.1 hm with hm | hm <;> rcases bj.1 bV with bV | bV
  ·cases hm; cases bV; rfl
  ·cases hm;simp [bQ] at hb;simp only [if_neg (aO bV)] at aK;have:=hI.fI ⟨i',c',bV,aK⟩; omega
  ·cases bV;simp [bQ] at aK;simp only [if_neg (aO hm)] at hb;have:=hI.fI ⟨i,c,hm,hb⟩; omega
  ·simp only [if_neg (aO hm)] at hb;simp only [if_neg (aO bV)] at aK;exact hI.eA i c i' c' b hm bV hb aK
def vA (P:Program) (T:TT) (all:Array Oper) (H:Hp) (fe:Nat→AV) (o:Oper):Prop :=
 ∃d,o.dst=some d∧match o.guard with
 | none=>nY P T o (ev fe) H fun r=>r=fe d
 | some (j,want)=>∃g,(all[j]?).bind (·.dst)=some g ∧
   ((fe g=.v (.bool want)∧nY P T o (ev fe) H fun r=>r=fe d)∨(fe g=.v (.bool (!want))∧fe d=.v undef)∨((∃vs,fe g=.v (.tuple vs))∧fe d=.v undef))
def xC (all:Array Oper):List Oper→Prop
 | []=>True
 | o::r=>(∃d,o.dst=some d∧∀o',o'∈r→o'.dst≠some d)∧(∀t,t∈o.looksAt all→∀o',o'∈o::r→o'.dst≠some t)∧xC all r
def Kz {f:Nat→AV} {d:Nat} {x:AV} (h:f d=x):dW f d x=f:=by
 funext t;unfold dW;cases hb:aH t d with
 | true=>rw [cR hb,cond_true,h]
 | false=>rfl
def P' (f:Nat→AV) (d:Nat) (x:AV):dW f d x d=x:=by simp [dW]
def Qa {f:Nat→AV} {d t:Nat} {x:AV} (h:t≠d):dW f d x t=f t:=by
 unfold dW;cases hb:aH t d with
 | true=>exact absurd (cR hb) h
 | false=>rfl
def QA {n:Nat} {all:Array Oper} {K:ae→Prop}:∀(l:List Oper) (st:ae),xC all l→rP P T n all l st K →
  ∃fe,(∀t,(∀o,o∈l→o.dst≠some t)→fe t=st.f t)∧K ⟨fe,st.H⟩∧(∀o,o∈l→∀d,o.dst=some d→d<n)∧∀o,o∈l→vA P T all st.H fe o:=by
 intro l;induction l with
 | nil=>intro st _ h; exact ⟨st.f,fun _ _=>rfl,h,fun o ho=>(eH ho).elim,fun o ho=>(eH ho).elim⟩
 | cons o r ih =>
  intro st yO h;obtain ⟨⟨d,hd,sG⟩,acg,acf⟩:=yO;have on:∀x,put n o.dst st x (fun aq=>rP P T n all r aq K)→∃fe,(∀t,(∀o',o'∈o::r→o'.dst≠some t)→fe t=st.f t)∧K ⟨fe,st.H⟩∧(∀o',o'∈o::r→∀d,o'.dst=some d→d<n)∧(∀o',o'∈r→vA P T all st.H fe o')∧fe d=x ∧
    ∀t,t∈o.looksAt all→fe t=st.f t:=by
   intro x hx;rw [hd,put_eq] at hx;obtain ⟨Φ,hx⟩:=cond_prop hx
   have Φ:d<n:=by simpa [gF] using Φ
   obtain ⟨fe,h1,h2,h3,h4⟩:=ih ⟨dW st.f d x,st.H⟩ acf hx
   have gh:fe d=x:=by rw [h1 d sG]; exact P' _ _ _
   have sQ:∀t,(∀o',o'∈o::r→o'.dst≠some t)→fe t=st.f t:=fun t ht=>by
    rw [h1 t fun o' aB=>ht o' (cr _ aB)];exact Qa fun e=>ht o (by simp) (by rw [hd,e])
   refine ⟨fe,sQ,h2,fun o' aB d' bG=>?_,h4,gh,fun t ht=>sQ t (acg t ht)⟩
   rcases bj.1 aB with rfl | aB
   ·rw [hd] at bG; cases bG; exact Φ
   ·exact h3 o' aB d' bG
  have ops:∀{fe:Nat→AV},(∀t,t∈o.looksAt all→fe t=st.f t)→∀x,x∈o.op.operands→ev st.f x=ev fe x:=fun lx x hx=>by
   cases x with
   | tmp t =>
    refine (lx t ?_).symm;exact qE _ (mb.2 ⟨.tmp t,by simpa using hx,rfl⟩)
   | _=>rfl
  unfold rP at h;rw [sB] at h;cases hg:o.guard with
  | none =>
   rw [hg] at h;obtain ⟨x,hs,hp⟩:=h;obtain ⟨fe,h1,h2,h3,h4,h5,h6⟩:=on x hp;refine ⟨fe,h1,h2,h3,fun o' aB=>?_⟩
   rcases bj.1 aB with rfl | aB
   ·refine ⟨d,hd,?_⟩;rw [hg,h5];exact Xy (ops h6) hs
   ·exact h4 o' aB
  | some jw =>
   obtain ⟨j,want⟩:=jw;rw [hg] at h;simp only at h;split at h
   ·rename_i g ep;obtain ⟨_,h⟩:=cond_prop h
    have uy:g∈o.looksAt all:=by
     refine vj _ ?_;rw [hg];simp [ep]
    split at h
    ·rename_i b hb;by_cases jt:b=want
     ·have:=h.y jt;rw [Kz (by rw [hb,jt])] at this;obtain ⟨x,hs,hp⟩:=this;obtain ⟨fe,h1,h2,h3,h4,h5,h6⟩:=on x hp;refine ⟨fe,h1,h2,h3,fun o' aB=>?_⟩
      rcases bj.1 aB with rfl | aB
      ·refine ⟨d,hd,?_⟩;rw [hg,h5];exact ⟨g,ep,.inl ⟨by rw [h6 g uy,hb,jt],Xy (ops h6) hs⟩⟩
      ·exact h4 o' aB
     ·have p9:b=!want:=by cases b <;> cases want <;> first | rfl | exact absurd rfl jt
      have:=h.n p9;rw [Kz (by rw [hb,p9])] at this;obtain ⟨fe,h1,h2,h3,h4,h5,h6⟩:=on _ this;refine ⟨fe,h1,h2,h3,fun o' aB=>?_⟩
      rcases bj.1 aB with rfl | aB
      ·refine ⟨d,hd,?_⟩;rw [hg];exact ⟨g,ep,.inr (.inl ⟨by rw [h6 g uy,hb,p9],h5⟩)⟩
      ·exact h4 o' aB
    ·rename_i vs hb;obtain ⟨fe,h1,h2,h3,h4,h5,h6⟩:=on _ h;refine ⟨fe,h1,h2,h3,fun o' aB=>?_⟩
     rcases bj.1 aB with rfl | aB
     ·refine ⟨d,hd,?_⟩;rw [hg];exact ⟨g,ep,.inr (.inr ⟨⟨vs,by rw [h6 g uy,hb]⟩,h5⟩)⟩
     ·exact h4 o' aB
    ·cases h
   ·cases h
end
end
section
open Go.RowKit
variable [M:bK] [G:cL] [MD:qK] [CH:mj] [R:dK]
def bitsOf (ops:Array Oper):Array Nat:=Region.before ops
def iM (ops:Array Oper) (i j:Nat):Bool:=((bitsOf ops).getD i 0).testBit j
def xX (i:Nat) (o:Oper):Bool:=o.after.all fun e=>!Region.binds .any e||decide (e.on<i)
def ue (ops:Array Oper) (i:Nat) (o:Oper):Bool:=(gu ops.size).all fun j=>!iM ops i j||o.after.any fun e=>jG .any e&&(e.on==j||iM ops e.on j)
def vJ (m:Nat) (ops:Array Oper) (i:Nat) (o:Oper):Bool :=
 match o.dst with
 | none=>false
 | some d=>eL d 1000&&(gu m).all fun j=>i==j||((ops[j]?).bind (·.dst)) != some d
def rG (o:Oper):Bool:=match dU o with | some (d,none)=>wO d | _=>false
def AF (m:Nat) (ops:Array Oper) (i:Nat) (o:Oper):Bool :=
 zm o||(o.looksAt ops).all fun t=>(gu m).all fun j=>match ops[j]? with
  | none=>true
  | some o'=>(o'.dst != some t)||(iM ops i j&&((dU o').isNone||rG o'))
def AG (ops:Array Oper) (i:Nat):Bool:=(gu i).all fun j=>iM ops i j
def Dw (m:Nat) (ops:Array Oper):Bool :=
 Nat.ble m ops.size&&((gu ops.size).all fun i=>match ops[i]? with
  | none=>true
  | some o=>xX i o&&(ue ops i o&&(bif eL i m then vJ m ops i o&&AF m ops i o else AG ops i)))
structure Plan0 (ops:Array Oper) (m:Nat) (dep:Nat→Nat→Prop):Prop where
 le:m≤ops.size
 dec:∀i o,ops[i]?=some o→∀e,e∈o.after→jG .any e=true→e.on<i
 step:∀i o j,ops[i]?=some o→j<ops.size→dep i j→∃e,e∈o.after∧jG .any e=true∧(e.on=j∨dep e.on j)
 dst:∀i o,i<m→ops[i]?=some o→∃d,o.dst=some d
 one:∀i o j o' d,i<m→j<m→ops[i]?=some o→ops[j]?=some o'→o.dst=some d→o'.dst=some d→i=j
 low:∀i o d,i<m→ops[i]?=some o→o.dst=some d→d<1000
 look:∀i o t j o',i<m→j<m→ops[i]?=some o→zm o=false→t∈o.looksAt ops→ops[j]?=some o'→o'.dst=some t→dep i j∧(dU o'=none∨rG o'=true)
structure Ry (ops:Array Oper) (m:Nat) (dep:Nat→Nat→Prop):Prop where
 one:∀i o j o' d,i<m→j<m→ops[i]?=some o→ops[j]?=some o'→o.dst=some d→o'.dst=some d→i=j
 look:∀i o t j o',i<m→j<m→ops[i]?=some o→zm o=false→t∈o.looksAt ops→ops[j]?=some o'→o'.dst=some t→dep i j∧(dU o'=none∨rG o'=true)
def Plan0.s {ops:Array Oper} {m:Nat} {dep:Nat→Nat→Prop} (hp:Plan0 ops m dep):Ry ops m dep:=⟨hp.one,hp.look⟩
structure ZJ (ops:Array Oper) (m:Nat) (dep:Nat→Nat→Prop):Prop extends Plan0 ops m dep where
 tail:∀i j,m≤i→i<ops.size→j<i→dep i j
def WA {m:Nat} {ops:Array Oper} (hle:m≤ops.size) (get:∀i o,ops[i]?=some o→xX i o=true∧ue ops i o=true∧(i<m→vJ m ops i o=true∧AF m ops i o=true)):Plan0 ops m fun i j=>iM ops i j=true:=by
 refine ⟨hle,fun i o ho e he hb=>?_,fun i o j ho hj hd=>?_,fun i o hi ho=>?_,fun i o j o' d hi hj ho aB hd bG=>?_,fun i o d hi ho hd=>?_,fun i o t j o' hi hj ho aR ht aB bG=>?_⟩
 ·have:=(Array.all_eq_true'.1 (get i o ho).1) e he;simpa [hb] using this
 ·have h1:=(get i o ho).2.1;simp only [ue,ej,me] at h1;have h1:=h1 j hj;simp only [hd,Bool.not_true,Bool.false_or] at h1;obtain ⟨e,he,hb⟩:=Array.any_eq_true'.1 h1;simp only [bJ,tT,beq_iff_eq] at hb;exact ⟨e,he,hb.1,hb.2⟩
 ·have h1:=((get i o ho).2.2 hi).1;unfold vJ at h1;cases hd:o.dst with
  | none=>rw [hd] at h1; exact absurd h1 (by simp)
  | some d=>exact ⟨d,rfl⟩
 ·have h1:=((get i o ho).2.2 hi).1;unfold vJ at h1;rw [hd] at h1;simp only [bJ,ej,me] at h1;have:=h1.2 j hj;rw [aB] at this;simpa [bG] using this
 ·have h1:=((get i o ho).2.2 hi).1;unfold vJ at h1;rw [hd] at h1;simp only [bJ] at h1;simpa using h1.1
 ·have h1:=((get i o ho).2.2 hi).2;simp only [AF,aR,Bool.false_or,ej,me] at h1;have:=h1 t ht j hj;rw [aB] at this;simpa [bG] using this
def afY {m:Nat} {ops:Array Oper} (h:Dw m ops=true):ZJ ops m fun i j=>iM ops i j=true:=by
 simp only [Dw,bJ,ej,me] at h;obtain ⟨hle,h⟩:=h
 have hle:m≤ops.size:=by simpa using hle
 have get:∀i o,ops[i]?=some o→xX i o=true∧ue ops i o=true∧(i<m→vJ m ops i o=true∧AF m ops i o=true)∧(m≤i→AG ops i=true):=fun i o ho=>by
  have h1:=h i (lg.1 ho).1;rw [ho] at h1;simp only [bJ] at h1;refine ⟨h1.1,h1.2.1,fun hi=>?_,fun hi=>?_⟩
  ·have hb:eL i m=true:=by simpa [gF] using hi
   have:=h1.2.2;rw [hb] at this;simpa using this
  ·have hb:eL i m=false:=by
    cases hb:eL i m
    ·rfl
    ·have:i<m:=by simpa [gF] using hb
     omega
   have:=h1.2.2;rw [hb] at this;simpa using this
 refine ⟨WA hle fun i o ho=>⟨(get i o ho).1,(get i o ho).2.1,(get i o ho).2.2.1⟩,fun i j hi hn hj=>?_⟩
 ·have h1:=(get i _ (gr hn)).2.2.2 hi;simp only [AG,ej,me] at h1;exact h1 j hj
def Hu (m:Nat) (late:List Nat) (ops:Array Oper):Bool :=
 eL m ops.size&&((gu ops.size).all fun i=>match ops[i]? with
  | none=>true
  | some o=>xX i o&&(ue ops i o&&(bif eL i m then (vJ m ops i o&&AF m ops i o)&&(iM ops m i||((dU o).isNone&&late.elem i)) else (bif eL m i then AG ops i else o.dst.isNone&&(o.guard.isNone&&((o.looksAt ops).all fun t=>(gu m).all fun j=>match ops[j]? with
   | none=>true
   | some o'=>(o'.dst != some t)||iM ops m j))))))
structure ZK (ops:Array Oper) (m:Nat) (late:List Nat) (dep:Nat→Nat→Prop):Prop extends Plan0 ops m dep where
 lt:m<ops.size
 tail:∀i j,m<i→i<ops.size→j<i→dep i j
 late:∀i o,i<m→ops[i]?=some o→dep m i∨(dU o=none∧i∈late)
 store:∀o,ops[m]?=some o→o.dst=none∧o.guard=none
 adL:∀o t j o',ops[m]?=some o→t∈o.looksAt ops→j<m→ops[j]?=some o'→o'.dst=some t→dep m j
def afX {m:Nat} {late:List Nat} {ops:Array Oper} (h:Hu m late ops=true):ZK ops m late fun i j=>iM ops i j=true:=by
 simp only [Hu,bJ,ej,me] at h;obtain ⟨Φ,h⟩:=h
 have Φ:m<ops.size:=by simpa [gF] using Φ
 have get:∀i o,ops[i]?=some o→xX i o=true∧ue ops i o=true∧(i<m→vJ m ops i o=true∧AF m ops i o=true∧(iM ops m i=true∨(dU o=none∧i∈late)))∧(m<i→AG ops i=true)∧(i=m→o.dst=none∧o.guard=none∧∀t,t∈o.looksAt ops→∀j,j<m→(match ops[j]? with | none=>true | some o'=>(o'.dst != some t)||iM ops m j)=true):=fun i o ho=>by
  have h1:=h i (lg.1 ho).1;rw [ho] at h1;simp only [bJ] at h1;obtain ⟨h1,h2,h3⟩:=h1;refine ⟨h1,h2,fun hi=>?_,fun hi=>?_,fun hi=>?_⟩
  ·have hb:eL i m=true:=by simpa [gF] using hi
   rw [hb] at h3;simp only [cond_true,bJ,tT] at h3;refine ⟨h3.1.1,h3.1.2,h3.2.imp (fun h=>h) fun h=>by simpa using h⟩
  ·have hb:eL i m=false:=by
    cases hb:eL i m
    ·rfl
    ·have:i<m:=by simpa [gF] using hb
     omega
   have jJ:eL m i=true:=by simpa [gF] using hi
   rw [hb,jJ] at h3;simpa using h3
  ·subst hi
   have hb:eL i i=false:=by
    cases hb:eL i i
    ·rfl
    ·have:i<i:=by simpa [gF] using hb
     omega
   rw [hb] at h3;simpa [hb] using h3
 refine ⟨WA (by omega) fun i o ho=>⟨(get i o ho).1,(get i o ho).2.1,fun hi=>⟨((get i o ho).2.2.1 hi).1,((get i o ho).2.2.1 hi).2.1⟩⟩,Φ,fun i j hi hn hj=>?_,fun i o hi ho=>((get i o ho).2.2.1 hi).2.2,fun o ho=>⟨((get m o ho).2.2.2.2 rfl).1,((get m o ho).2.2.2.2 rfl).2.1⟩,fun o t j o' ho ht hj aB hd=>by
  have:=((get m o ho).2.2.2.2 rfl).2.2 t ht j hj;rw [aB] at this
  simpa [hd] using this⟩
 have h1:=(get i _ (gr hn)).2.2.2.1 hi;simp only [AG,ej,me] at h1;exact h1 j hj
section
variable {P:Program} {T:TT} {C:Ctx} {ds:List Deferred}
def Xz {o:Oper} {ρ:Operand→AV} {H:Hp} {k:AV→Prop} (h:nY P T o ρ H k):∀c,o.op≠.defer c:=fun c e=>by
 unfold nY at h;rw [e] at h;exact XC h c e
def aa6 {d:Nat} (pj:d<1000) {st:ae} {w:World} {F:Nat→Prop} {β:Nat→Value} {g:Nat→Value} (hf:∀t,Rd w F β (st.f t) (g t)) (he:XM C ds w F β st.H) :
  let av:=fun i=>if i=d then undef else β i
  (∀t,Rd w F av (er 2 d (st.f t)) (g t))∧XM C ds w F av (gR d st.H):=by
 intro av;have go:Ext w F β ⟨aF,st.H⟩ w F av ⟨aF,gR d st.H⟩→_:=fun h=>he.trans h;have ah:∀i,i≠d→av i=β i:=fun i hi=>if_neg hi;have hI:Inv w F β st.H:=he.inv
 have du:∀b,bD av (gR d st.H) b→bD β st.H b:=by
  rintro b ⟨i,c,hm,hb⟩;obtain ⟨hi,c',bV,_⟩:=im hm;exact ⟨i,c',bV,by rw [←ah i hi]; exact hb⟩
 refine ⟨fun t=>sx ah 2 (hf t),go ⟨rfl,jm.refl _,rfl,bF _,fun _ _ _=>rfl,fun _ h=>h,fun _ h=>.inl h,fun b hb=>.inr (du b hb),fun _ _ _=>.χ,?_,fun i hi=>ah i (by omega)⟩⟩;refine ⟨hI.cC,fun i c hm=>?_,DB hI.keys,fun b hb=>hI.apart b (du b hb),fun i c i' c' b hm bV hb aK=>?_,hI.fh⟩
 ·obtain ⟨hi,c',bV,rfl⟩:=im hm;exact Iz hi ah (hI.holds i c' bV)
 ·obtain ⟨hi,c2,h2,_⟩:=im hm;obtain ⟨bm,AA,iy,_⟩:=im bV;rw [ah i hi] at hb;rw [ah i' bm] at aK;exact hI.eA i c2 i' AA b h2 iy hb aK
def L8 {w:World} {F:Nat→Prop} {g:Nat→Value}:∀(al:List (Nat×Option Nat)) (_:∀d t,(d,t)∈al→d<1000) {st:ae} {β:Nat→Value},(∀t,Rd w F β (st.f t) (g t))→XM C ds w F β st.H →
  ∃av,(∀t,Rd w F av ((js al st).f t) (g t))∧XM C ds w F av (js al st).H ∧
   (∀d,β d=undef∨(∃t,(d,t)∈al)→av d=undef)∧(∀d,(∀c,(d,c)∉st.H)∨(∃t,(d,t)∈al)→∀c,(d,c)∉(js al st).H)
 | [],_,st,β,hf,he=>by
  refine ⟨β,hf,he,fun d h=>?_,fun d h=>?_⟩
  ·rcases h with h | ⟨t,ht⟩
   ·exact h
   ·exact (eH ht).elim
  ·rcases h with h | ⟨t,ht⟩
   ·exact h
   ·exact (eH ht).elim
 | (d,t)::r,pj,st,β,hf,he=>by
  obtain ⟨h1,h2⟩:=aa6 (d:=d) (pj d t (by simp)) hf he;obtain ⟨av,h3,h4,h5,h6⟩:=L8 r (fun d t h=>pj d t (by simp [h])) (st:=⟨fun t=>er 2 d (st.f t),gR d st.H⟩) h1 h2;refine ⟨av,h3,h4,fun e he=>h5 e ?_,fun e he=>h6 e ?_⟩
  ·by_cases A5:e=d
   ·left; simp [A5]
   ·rcases he with he | ⟨t',Bz⟩
    ·left; simp [A5,he]
    ·rcases bj.1 Bz with h | h
     ·cases h; exact absurd rfl A5
     ·exact .inr ⟨t',h⟩
  ·by_cases A5:e=d
   ·left; intro c hc; exact (im hc).1 A5
   ·rcases he with he | ⟨t',Bz⟩
    ·left; intro c hc
     obtain ⟨_,c',fO,_⟩:=im hc;exact he c' fO
    ·rcases bj.1 Bz with h | h
     ·cases h; exact absurd rfl A5
     ·exact .inr ⟨t',h⟩
def Lx {n:Nat} {K:ae→Prop}:∀(al:List (Nat×Option Nat)) (st:ae),qO T n al st K→(al.map (·.1)).Nodup→(∀d t,(d,t)∈al→∀c,(d,c)∉st.H)→(st.H.map (·.1)).Nodup →
  ∃fA HA,K ⟨fA,HA⟩∧(∀t,(∀ty,(t,ty)∉al)→fA t=st.f t)∧(∀d t,(d,t)∈al→d<n∧∃c,lj T d t c∧fA d=wG d c)∧(HA.map (·.1)).Nodup ∧
   ∀x,x∈HA↔x∈st.H∨∃d t c,(d,t)∈al∧lj T d t c∧x=(d,c)
 | [],st,h,_,_,hk=>⟨st.f,st.H,h,fun _ _=>rfl,fun d t ht=>(eH ht).elim,hk,fun x=>⟨.inl,fun h=>h.elim id fun ⟨_,_,_,h,_⟩=>(eH h).elim⟩⟩
 | (d,t)::r,st,h,hn,eP,hk=>by
  obtain ⟨c0,oB,Φ,h⟩:∃c,lj T d t c∧d<n∧qO T n r ⟨dW st.f d (wG d c),(d,c)::st.H⟩ K:=by
   cases t with
   | some t =>
    simp only [qO] at h;split at h
    ·rename_i z hz;obtain ⟨hb,h⟩:=cond_prop h;simp only [bJ] at hb;exact ⟨_,⟨z,hz,hb.1,rfl⟩,by simpa [gF] using hb.2,h⟩
    ·cases h
   | none =>
    simp only [qO] at h;split at h
    ·rename_i c hc;obtain ⟨hb,h⟩:=cond_prop h;exact ⟨c,hc,by simpa [gF] using hb,h⟩
    ·cases h
  simp only [jD,iv] at hn;have sG:∀ty,(d,ty)∉r:=fun ty hm=>hn.1 (dg.2 ⟨_,hm,rfl⟩)
  obtain ⟨fA,HA,h1,h2,h3,h4,h5⟩:=Lx r ⟨dW st.f d (wG d c0),(d,c0)::st.H⟩ h hn.2 (fun d' t' hm c hc=>by
   rcases bj.1 hc with hc | hc
   ·cases hc; exact sG _ hm
   ·exact eP d' t' (cr _ hm) c hc) (by
   simp only [jD,iv];refine ⟨fun hm=>?_,hk⟩;obtain ⟨x,hx,lE⟩:=dg.1 hm
   exact eP d t (by simp) x.2 (by rw [←lE]; exact hx))
  refine ⟨fA,HA,h1,fun t' Bz=>?_,fun d' t' hm=>?_,h4,fun x=>?_⟩
  ·rw [h2 t' fun ty hm=>Bz ty (cr _ hm)];exact Qa fun e=>Bz t (by rw [e]; simp)
  ·rcases bj.1 hm with hm | hm
   ·cases hm;exact ⟨Φ,c0,oB,by rw [h2 d sG]; exact P' _ _ _⟩
   ·exact h3 d' t' hm
  ·rw [h5 x,bj];constructor
   ·rintro ((rfl | h) | ⟨d',t',c',hm,iS,rfl⟩)
    ·exact .inr ⟨d,t,c0,by simp,oB,rfl⟩
    ·exact .inl h
    ·exact .inr ⟨d',t',c',cr _ hm,iS,rfl⟩
   ·rintro (h | ⟨d',t',c',hm,iS,rfl⟩)
    ·exact .inl (.inr h)
    ·rcases bj.1 hm with hm | hm
     ·cases hm;rw [iS.uniq oB];exact .inl (.inl rfl)
     ·exact .inr ⟨d',t',c',hm,iS,rfl⟩
def count_set:∀(l:List Bool) (i:Nat),l[i]?=some false→(l.set i true).count false+1=l.count false
 | [],i,h=>by simp at h
 | b::r,0,h=>by simp at h; subst h; simp
 | b::r,i+1,h=>by
  have:=count_set r i (by simpa using h);cases b <;> simp <;> omega
def steady (m:Nat) (ops:Array Oper):List Oper:=(ops.toList.take m).filter fun o=>(dU o).isNone
def ew (m:Nat) (ops:Array Oper):List (Nat×Option Nat):=(ops.toList.take m).filterMap dU
def oM {ops:Array Oper} {m:Nat} {o:Oper}:o∈ops.toList.take m↔∃i,i<m∧ops[i]?=some o:=by
 constructor
 ·intro h;obtain ⟨i,hi,rfl⟩:=C6.1 h;simp only [dQ,lJ] at hi;refine ⟨i,by omega,?_⟩
  have:i<ops.size:=by omega
  simp [GJ,this]
 ·rintro ⟨i,hi,ho⟩;obtain ⟨Φ,rfl⟩:=lg.1 ho;rw [C6];refine ⟨i,by simp only [dQ,lJ]; omega,by simp [GJ]⟩
def kD {o:Oper} {d:Nat} {t:Option Nat} (h:dU o=some (d,t)):o.dst=some d∧o.guard=none:=by
 unfold dU at h;split at h
 ·cases h; exact ⟨by assumption,by assumption⟩
 ·rename_i d' _ _ _;cases hb:MD.md.elem d' with
  | true=>rw [hb] at h; cases h; exact ⟨by assumption,by assumption⟩
  | false=>rw [hb] at h; cases h
 ·cases h
def ZN {o:Oper} {d t:Nat} (h:dU o=some (d,some t)):o.op=.alloc t:=by
 unfold dU at h;split at h
 ·cases h; assumption
 ·rename_i d' _ _ _;cases hb:MD.md.elem d' with
  | true=>rw [hb] at h; cases h
  | false=>rw [hb] at h; cases h
 ·cases h
def N6 {o:Oper} (h:dU o=none):zm o=false:=by unfold zm; rw [h]
def Ve {o:Oper} {d:Nat} (h:dU o=some (d,none)):zm o=false:=by unfold zm; rw [h]
structure oo (C:Ctx) (CO:Nat→Option Nat→Chunk→Prop) (ops:Array Oper) (m:Nat) (fA:Nat→AV) (Hm:Hp) (listed:Array Bool) (a:Act) (w:World):Prop where
 ex:∃F β H,a.tmps.size=C.n∧True∧XM C a.defers w F β H ∧
  (∀x,x∈H↔x∈Hm∨∃i o d t c,i<m∧listed.getD i false=true∧ops[i]?=some o∧dU o=some (d,t)∧CO d t c∧x=(d,c)) ∧
  (∀i o d t,i<m→ops[i]?=some o→dU o=some (d,t)→listed.getD i false=false→β d=undef) ∧
  (∀t,(∀i o,i<m→ops[i]?=some o→o.dst=some t→listed.getD i false=true)→Rd w F β (fA t) (a.tmps.getD t undef))
def fC {listed:Array Bool} {i j:Nat} (hi:i<listed.size):(listed.setIfInBounds i true).getD j false=(if j=i then true else listed.getD j false):=by
 by_cases h:j=i
 ·subst h; simp [hi]
 ·simp [xg (j1 h),h]
def MC {CO:Nat→Option Nat→Chunk→Prop} {ops:Array Oper} {m i n:Nat} {dep:Nat→Nat→Prop} {o:Oper} {fA fe:Nat→AV} {Hm:Hp} {listed:Array Bool} {a:Act} {w:World} {Q:Exit→Act→World→Prop} {N:Act→World→Prop}
  (hT:bM P T) (hn:C.n=n) (hp:Ry ops m dep) (aZ:listed.size=ops.size) (hi:i<m) (ho:ops[i]?=some o) (aR:dU o=none) (dO:listed.getD i false=false)
  (MS:∀j,j<m→dep i j→listed.getD j false=true) (lx:∀t,(∀j o' ty,j<m→ops[j]?=some o'→dU o'=some (t,ty)→rG o'=true)→fA t=fe t)
  (Mu:(Hm.map (·.1)).Nodup) (bW:vA P T ops Hm fe o) (Φ:∀d,o.dst=some d→d<n) (h:oo C CO ops m fA Hm listed a w)
  (hN:∀a w,oo C CO ops m fA Hm (listed.setIfInBounds i true) a w→N a w):wpOpIn (fM C.ro) 0 P ops Q i N a w:=by
 obtain ⟨F,β,H,hs,hd,he,bH,zd,hf⟩:=h.ex;obtain ⟨d,fi,bW⟩:=bW
 have yy:d<a.tmps.size:=by rw [hs,hn]; exact Φ d fi
 have eJ:i<listed.size:=by rw [aZ]; exact (lg.1 ho).1
 have look:∀t,t∈o.looksAt ops→Rd w F β (fe t) (a.tmps.getD t undef):=fun t ht=>by
  have bw:∀j o' ty,j<m→ops[j]?=some o'→dU o'=some (t,ty)→rG o'=true:=fun j o' ty hj aB jh=>by
   have:=(hp.look i o t j o' hi hj ho (N6 aR) ht aB (kD jh).1).2
   rcases this with this | this
   ·rw [this] at jh; cases jh
   ·exact this
  rw [←lx t bw];exact hf t fun j o' hj aB bG=>MS j hj (hp.look i o t j o' hi hj ho (N6 aR) ht aB bG).1
 have rD:∀x,x∈o.op.operands→Rd w F β (ev fe x) (a.eval x):=fun x hx=>by
  cases x with
  | tmp t=>exact look t (qE _ (mb.2 ⟨.tmp t,by simpa using hx,rfl⟩))
  | const v=>exact nV _ _ _ _
  | global g=>exact .χ
  | func g=>exact .i (.c rfl rfl (fun i hi=>absurd hi (by simp)) (fun i hi=>absurd hi (by simp)))
 have hI:Inv w F β Hm:=he.inv.sub (fun x hx=>(bH x).2 (.inl hx)) Mu
 have abM:∀j o' ty,j<m→ops[j]?=some o'→dU o'≠some (d,ty):=fun j o' ty hj aB jh=>by
  have:=hp.one i o j o' d hi hj ho aB fi (kD jh).1;subst this;rw [ho] at aB; cases aB;rw [aR] at jh; cases jh
 have done:∀(v:Value) (w':World),Below w.heap.size w w'→Rd w' (fD F w w') β (fe d) v→oo C CO ops m fA Hm (listed.setIfInBounds i true) (a.put (some d) v) w':=fun v w' hb hv=>by
  have hx:=vQ (st:=⟨aF,H⟩) he.inv hb;refine ⟨fD F w w',β,H,by simpa [iK] using hs,hd,he.trans hx,fun x=>?_,fun j o' d' t hj aB jh hl=>?_,fun t ht=>?_⟩
  ·rw [bH x];constructor
   ·rintro (h | ⟨j,o',d',t,z,h1,h2,h3,h4,h5,h6⟩)
    ·exact .inl h
    ·exact .inr ⟨j,o',d',t,z,h1,by rw [fC eJ]; split <;> first | rfl | exact h2,h3,h4,h5,h6⟩
   ·rintro (h | ⟨j,o',d',t,z,h1,h2,h3,h4,h5,h6⟩)
    ·exact .inl h
    ·refine .inr ⟨j,o',d',t,z,h1,?_,h3,h4,h5,h6⟩;rw [fC eJ] at h2;split at h2
     ·rename_i e;subst e;rw [ho] at h3; cases h3;rw [aR] at h4; cases h4
     ·exact h2
  ·rw [fC eJ] at hl;split at hl
   ·cases hl
   ·exact zd j o' d' t hj aB jh hl
  ·by_cases pD:t=d
   ·subst pD;rw [lx t fun j o' ty hj aB jh=>absurd jh (abM j o' ty hj aB)];simpa [iK,yy] using hv
   ·have h1:=(hf t fun j o' hj aB bG=>by
     have:=ht j o' hj aB bG;rw [fC eJ] at this;split at this
     ·rename_i e;subst e;rw [ho] at aB; cases aB;rw [fi] at bG; cases bG; exact absurd rfl pD
     ·exact this).later hb he.inv.cC
    simpa [iK,xg (j1 pD)] using h1
 have run:(nY P T o (ev fe) Hm fun r=>r=fe d)→o.wpIn (fM C.ro) 0 P a w N Q:=fun hs=>by
  have dJ:=Xz hs
  rcases XA hT hI rD hs with ⟨v,w',a_,hb,r,rfl,hv⟩ | ⟨g,vs,a_,hc⟩
  ·refine Oper.ke dJ a_ ?_;rw [xu,fi];exact hN _ _ (done v w' hb hv)
  ·refine Oper.ke dJ a_ ?_;rw [Ao];refine ⟨fun h=>(by cases h),vI (hc.mono ?_)⟩;rintro e w' ⟨v,rfl,hb,r,rfl,hv⟩;rw [fi];exact hN _ _ (done v w' hb hv)
 have skip:fe d=.v undef→N (a.put o.dst undef) w:=fun h0=>by
  rw [fi];exact hN _ _ (done undef w (Below.refl _ _) (by rw [h0]; exact .i (.v (.inr rfl))))
 unfold wpOpIn;simp only [ho];cases hg:o.guard with
 | none =>
  rw [hg] at bW
  have hw:dS o (yielded ops a.tmps)=true:=by simp [dS,hg]
  rw [if_pos hw];exact run bW
 | some jw =>
  obtain ⟨j,want⟩:=jw;rw [hg] at bW;obtain ⟨g,ep,bW⟩:=bW
  have uy:g∈o.looksAt ops:=by
   refine vj _ ?_;rw [hg];simp [ep]
  have pc:=look g uy
  have hy:∀v,v≠undef→a.tmps.getD g undef=v→yielded ops a.tmps j=match v with | .bool b=>some b | _=>none:=by
   intro v aO hv
   have h2:a.tmps[g]?=some v:=by
    by_cases hl:g<a.tmps.size
    ·rw [←hv]; simp [hl]
    ·exact absurd (by rw [←hv]; simp [hl]) aO
   unfold yielded;rw [ep,cD,h2];cases v <;> rfl
  rcases bW with ⟨h1,h2⟩ | ⟨h1,h2⟩ | ⟨⟨vs,h1⟩,h2⟩
  ·rw [h1] at pc;have gY:=hy _ (by simp [undef]) pc.bL
   have hw:dS o (yielded ops a.tmps)=true:=by simp [dS,hg,gY]
   rw [if_pos hw];exact run h2
  ·rw [h1] at pc;have gY:=hy _ (by simp [undef]) pc.bL
   have hw:¬dS o (yielded ops a.tmps)=true:=by simp [dS,hg,gY]
   rw [if_neg hw];exact ⟨fun _ _=>trivial,skip h2⟩
  ·rw [h1] at pc;have hv:=pc.bL
   have gY:yielded ops a.tmps j=none:=by
    unfold yielded;rw [ep,cD];by_cases hl:g<a.tmps.size
    ·have h3:a.tmps[g]?=some (.tuple vs):=by rw [←hv]; simp [hl]
     rw [h3]
    ·simp [YT (Nat.le_of_not_lt hl)]
   have hw:¬dS o (yielded ops a.tmps)=true:=by simp [dS,hg,gY]
   rw [if_neg hw];exact ⟨fun _ _=>trivial,skip h2⟩
def Z_ {o:Oper} {q:Call} {x:Operand} {g:FuncId} {fs cs ys:List AV} {f:Nat→AV} {a:Act} {w:World} {F:Nat→Prop} {β:Nat→Value} {post:Value→World→Prop} (qd:o.op=.call q) (hc:q.callee=.value x)
  (hf:ev f x=.c (.func g) fs cs) (hle:iL (fs++(q.args.toList.map (ev f)++cs)) ys) (hE:pW P g) (rD:∀x,x∈o.op.operands→Rd w F β (ev f x) (a.eval x))
  (h:∀vs:Array Value,vs.size=ys.length→(∀i,i<ys.length→Rd w F β (ys.getD i .χ) (vs.getD i undef))→Calls P g vs w fun e w'=>∃v,e=.returned v∧post v w') :
  ∃vs,(execOp a.eval o).run P w=.ok (.enter g vs) w∧Calls P g vs w fun e w'=>∃v,e=.returned v∧post v w':=by
 obtain ⟨dst,op,type,pos,after,guard⟩:=o;simp only at qd; subst qd;obtain ⟨callee,args,argTypes⟩:=q;simp only at hc; subst hc;have hx:=rD x (by simp [tZ,qA]);rw [hf] at hx;obtain ⟨us,ws,wa,hs,eu,hu,hw⟩:=hx.nt
 have mO:∀i,i<(args.toList.map (ev f)).length→Rd w F β ((args.toList.map (ev f)).getD i .χ) ((args.map a.eval).getD i undef):=fun i hi=>by
  simp at hi;have:=rD args[i] (by simp [tZ,qA]);simpa [aY,hi] using this
 have hj:=G_ hs (vs:=args.map a.eval) (by simp) eu hu mO hw;obtain ⟨hl,hz⟩:=hle.spec;obtain ⟨fn,c,dF,dN,yt⟩:=hE;refine ⟨us++args.map a.eval++ws,?_,h _ ?_ fun i hi=>hz i (by rw [hl]; exact hi) _ _ _ _ (hj i (by rw [hl]; exact hi))⟩
 ·have rk : ¬ fn.name = "runtime.NumGoroutine" := by simpa using dN
  simp only [execOp];have e:(do let d ←resolve a.eval { callee:=.value x,args:=args,argTypes:=argTypes } type; invoke d.target d.args:Sem Next)=(do let d ←l8 (a.eval x) (args.map a.eval); invoke d.target d.args):=rfl;rw [e,wa];simp [l8,invoke,callFunc,dF,rk,yt]
 ·rw [←hl]; simp [hs,eu]
def Tq {ops:Array Oper} {m i n:Nat} {dep:Nat→Nat→Prop} {o:Oper} {d t:Nat} {z:TI} {fA:Nat→AV} {Hm:Hp} {listed:Array Bool} {a:Act} {w:World} {Q:Exit→Act→World→Prop} {N:Act→World→Prop}
  (hT:bM P T) (hn:C.n=n) (hp:Plan0 ops m dep) (aZ:listed.size=ops.size) (hi:i<m) (ho:ops[i]?=some o) (aR:dU o=some (d,some t)) (dO:listed.getD i false=false)
  (hz:T t=some z) (Nl:jk (cq z.zero)=true) (gh:fA d=.b d 0) (Φ:d<n) (eP:∀c,(d,c)∉Hm) (h:oo C (lj T) ops m fA Hm listed a w)
  (hN:∀a w,oo C (lj T) ops m fA Hm (listed.setIfInBounds i true) a w→N a w):wpOpIn (fM C.ro) 0 P ops Q i N a w:=by
 obtain ⟨F,β,H,hs,hd,he,bH,zd,hf⟩:=h.ex;obtain ⟨fi,ep⟩:=kD aR;have qd:=ZN aR
 have yy:d<a.tmps.size:=by rw [hs,hn]; exact Φ
 have eJ:i<listed.size:=by rw [aZ]; exact (lg.1 ho).1
 have EK:=zd i o d t hi ho aR dO
 have lW:∀c,(d,c)∉H:=fun c hc=>by
  rcases (bH _).1 hc with h | ⟨j,o',d',t',z',h1,h2,h3,h4,h5,h6⟩
  ·exact eP c h
  ·cases h6;have:=hp.one i o j o' d hi h1 ho h3 fi (kD h4).1;subst this;rw [dO] at h2; cases h2
 have NY:=(hT _ _ hz).tp w
 have a_:(execOp a.eval o).run P w=.ok (.value (.pointer (some ⟨w.heap.size,0,none⟩))) (w.alloc (.cells z.zero.cells t)):=by
  unfold execOp;rw [qd];simp [Instr.alloc,NY,newVar,newRow]
 have hr:=fun av:Nat→Value=>oY (nV (w.alloc (.cells z.zero.cells t)) F z.zero av) Nl;have hx:=aa8 (f:=aF) (e:=t) (hp.low i o d hi ho fi) he.inv EK lW (hr β).1 (fun j hj=>((hr β).2 j hj).1) (fun av j hj=>((hr av).2 j hj).2);have iT:∀i,i≠d→(fun i=>if i=d then Rl (some ⟨w.heap.size,0,none⟩) else β i) i=β i:=fun i hi=>if_neg hi;have ha:fZ F w (w.alloc (.cells z.zero.cells t)):=Below.agree (vE w _) he.inv.cC
 have hw:dS o (yielded ops a.tmps)=true:=by simp [dS,ep]
 unfold wpOpIn;simp only [ho];rw [if_pos hw];refine Oper.ke (fun c e=>by rw [qd] at e; cases e) a_ ?_;rw [xu,fi];refine hN _ _ ⟨F,_,(d,.box (bt (cq z.zero)))::H,by simpa [iK] using hs,hd,he.trans hx,fun x=>?_,fun j o' d' t' hj aB jh hl=>?_,fun q hq=>?_⟩
 ·rw [bj,bH x];constructor
  ·rintro (rfl | h | ⟨j,o',d',t',z',h1,h2,h3,h4,h5,h6⟩)
   ·exact .inr ⟨i,o,d,some t,_,hi,by rw [fC eJ,if_pos rfl],ho,aR,⟨z,hz,Nl,rfl⟩,rfl⟩
   ·exact .inl h
   ·exact .inr ⟨j,o',d',t',z',h1,by rw [fC eJ]; split <;> first | rfl | exact h2,h3,h4,h5,h6⟩
  ·rintro (h | ⟨j,o',d',t',z',h1,h2,h3,h4,h5,h6⟩)
   ·exact .inr (.inl h)
   ·rw [fC eJ] at h2;split at h2
    ·rename_i e;subst e;rw [ho] at h3; cases h3;rw [aR] at h4; cases h4;rw [h5.uniq ⟨z,hz,Nl,rfl⟩] at h6;exact .inl h6
    ·exact .inr (.inr ⟨j,o',d',t',z',h1,h2,h3,h4,h5,h6⟩)
 ·rw [fC eJ] at hl;split at hl
  ·cases hl
  ·have aO:d'≠d:=fun e=>by
    subst e;have:=hp.one i o j o' d' hi hj ho aB fi (kD jh).1;rename_i uA;exact uA this.symm
   show (if d'=d then _ else β d')=undef;rw [if_neg aO];exact zd j o' d' t' hj aB jh hl
 ·by_cases ru:q=d
  ·subst ru;rw [gh]
   have:(a.put (some q) (.pointer (some ⟨w.heap.size,0,none⟩))).tmps.getD q undef=.pointer (some ⟨w.heap.size,0,none⟩):=by simp [iK,yy]
   rw [this];exact .b (by simp)
  ·have h1:=(hf q fun j o' hj aB bG=>by
    have:=hq j o' hj aB bG;rw [fC eJ] at this;split at this
    ·rename_i e;subst e;rw [ho] at aB; cases aB;rw [fi] at bG; cases bG; exact absurd rfl ru
    ·exact this)
   have h2:=(h1.frame ha fun _ h=>h).CN EK iT;simpa [iK,xg (j1 ru)] using h2
def aa9 {w w':World} {F F':Nat→Prop} {β:Nat→Value} {H:Hp} {d:Nat} {c:Chunk} {v:Value} {f:Nat→AV} (pj:d<1000) (hI:Inv w F β H) (hd:β d=undef) (lW:∀c,(d,c)∉H) (hb:Below w.heap.size w w') (j9:∀b,F b→F' b) (um:∀b,F' b→fD F w w' b)
  (eP:∀b,bQ v=some b→w.heap.size≤b∧¬F' b) (hc:c.holds w' F' (fun i=>if i=d then v else β i) d) :
  Ext w F β ⟨f,H⟩ w' F' (fun i=>if i=d then v else β i) ⟨f,(d,c)::H⟩:=by
 have ah:∀i,i≠d→(fun i=>if i=d then v else β i) i=β i:=fun i hi=>if_neg hi;have ha:fZ F w w':=Below.agree hb hI.cC
 have du:∀b,bD (fun i=>if i=d then v else β i) ((d,c)::H) b→(w.heap.size≤b∧¬F' b)∨bD β H b:=by
  rintro b ⟨i,c',hm,aK⟩
  rcases bj.1 hm with hm | hm
  ·cases hm;simp only [if_true] at aK;exact .inl (eP b aK)
  ·have hi:i≠d:=fun e=>lW c' (e▸hm);simp only [if_neg hi] at aK;exact .inr ⟨i,c',hm,aK⟩
 refine ⟨hb.os,hb.tape,hb.output,hb.size,fun b h _=>hb.block b h,j9,fun b h=>(um b h).elim .inl fun h=>.inr (.inl h.1),fun b h=>(du b h).elim (fun h=>.inl h.1) .inr,fun t u h=>(h.frame ha j9).CN hd ah,?_,fun i hi=>ah i (by omega)⟩;refine ⟨fun b h=>(um b h).elim (fun h=>oe (hI.cC b h) hb.size) fun h=>h.2,?_,?_,fun b ho hF=>?_,?_,hI.fh.frame ha j9⟩
 ·intro i c' hm
  rcases bj.1 hm with hm | hm
  ·cases hm; exact hc
  ·have hi:i≠d:=fun e=>lW c' (e▸hm);exact Ur hd ah hi (pz ha j9 (fun b aK=>hb.block b (hI.fI ⟨i,c',hm,aK⟩)) (hI.holds i c' hm))
 ·show ((d::(H.map (·.1)))).Nodup;rw [iv];refine ⟨fun hm=>?_,hI.keys⟩;obtain ⟨x,hx,lE⟩:=dg.1 hm;obtain ⟨i,c'⟩:=x;exact lW c' (by rw [←lE]; exact hx)
 ·rcases du b ho with h | h
  ·exact h.2 hF
  ·rcases um b hF with h1 | h1
   ·exact hI.apart b h h1
   ·exact absurd (hI.fI h) (mg.2 h1.1)
 ·have key:∀i c' b,(i,c')∈H→bQ (β i)=some b→bQ v=some b→False:=fun i c' b hm cO hv =>
   absurd (hI.fI ⟨i,c',hm,cO⟩) (mg.2 (eP b hv).1)
  intro i c1 i' pY b hm bV cO aK
  rcases bj.1 hm with hm | hm <;> rcases bj.1 bV with bV | bV
  ·cases hm; cases bV; rfl
  ·cases hm;have hi:i'≠d:=fun e=>lW pY (e▸bV);simp only [if_true] at cO;simp only [if_neg hi] at aK;exact (key i' pY b bV aK cO).elim
  ·cases bV;have hi:i≠d:=fun e=>lW c1 (e▸hm);simp only [if_true] at aK;simp only [if_neg hi] at cO;exact (key i c1 b hm cO aK).elim
  ·have hi:i≠d:=fun e=>lW c1 (e▸hm);have bm:i'≠d:=fun e=>lW pY (e▸bV);simp only [if_neg hi] at cO;simp only [if_neg bm] at aK;exact hI.eA i c1 i' pY b hm bV cO aK
def Ts {ops:Array Oper} {m i n:Nat} {dep:Nat→Nat→Prop} {o:Oper} {d:Nat} {c:Chunk} {fA fe:Nat→AV} {Hm:Hp} {listed:Array Bool} {a:Act} {w:World} {Q:Exit→Act→World→Prop} {N:Act→World→Prop}
  (hn:C.n=n) (hp:Plan0 ops m dep) (aZ:listed.size=ops.size) (hi:i<m) (ho:ops[i]?=some o) (aR:dU o=some (d,none)) (dO:listed.getD i false=false)
  (MS:∀j,j<m→dep i j→listed.getD j false=true) (lx:∀t,(∀j o' ty,j<m→ops[j]?=some o'→dU o'=some (t,ty)→rG o'=true)→fA t=fe t)
  (hc:lj T d none c) (bW:G1 P fe o c) (gh:fA d=wG d c) (Φ:d<n) (eP:∀c,(d,c)∉Hm) (h:oo C (lj T) ops m fA Hm listed a w)
  (hN:∀a w,oo C (lj T) ops m fA Hm (listed.setIfInBounds i true) a w→N a w):wpOpIn (fM C.ro) 0 P ops Q i N a w:=by
 obtain ⟨F,β,H,hs,hd,he,bH,zd,hf⟩:=h.ex;obtain ⟨fi,ep⟩:=kD aR
 have yy:d<a.tmps.size:=by rw [hs,hn]; exact Φ
 have eJ:i<listed.size:=by rw [aZ]; exact (lg.1 ho).1
 have EK:=zd i o d none hi ho aR dO
 have look:∀t,t∈o.looksAt ops→Rd w F β (fe t) (a.tmps.getD t undef):=fun t ht=>by
  have bw:∀j o' ty,j<m→ops[j]?=some o'→dU o'=some (t,ty)→rG o'=true:=fun j o' ty hj aB jh=>by
   have:=(hp.look i o t j o' hi hj ho (Ve aR) ht aB (kD jh).1).2
   rcases this with this | this
   ·rw [this] at jh; cases jh
   ·exact this
  rw [←lx t bw];exact hf t fun j o' hj aB bG=>MS j hj (hp.look i o t j o' hi hj ho (Ve aR) ht aB bG).1
 have rD:∀x,x∈o.op.operands→Rd w F β (ev fe x) (a.eval x):=fun x hx=>by
  cases x with
  | tmp t=>exact look t (qE _ (mb.2 ⟨.tmp t,by simpa using hx,rfl⟩))
  | const v=>exact nV _ _ _ _
  | global g=>exact .χ
  | func g=>exact .i (.c rfl rfl (fun i hi=>absurd hi (by simp)) (fun i hi=>absurd hi (by simp)))
 have lW:∀c,(d,c)∉H:=fun c hc=>by
  rcases (bH _).1 hc with h | ⟨j,o',d',t',z',h1,h2,h3,h4,h5,h6⟩
  ·exact eP c h
  ·cases h6;have:=hp.one i o j o' d hi h1 ho h3 fi (kD h4).1;subst this;rw [dO] at h2; cases h2
 obtain ⟨q,x,g,fs,cs,ys,qd,abC,wa,hM,hle⟩:∃q x g fs cs ys,o.op=.call q∧q.callee=.value x∧ev fe x=.c (.func g) fs cs∧Li P g ys c∧iL (fs++(q.args.toList.map (ev fe)++cs)) ys:=by
  unfold G1 at bW;split at bW
  ·rename_i q qd;split at bW
   ·rename_i x hx;split at bW
    ·rename_i g fs cs wa;obtain ⟨ys,h1,h2⟩:=bW;exact ⟨q,x,g,fs,cs,ys,qd,hx,wa,h1,h2⟩
    ·exact bW.elim
   ·exact bW.elim
  ·exact bW.elim
 have hw:dS o (yielded ops a.tmps)=true:=by simp [dS,ep]
 obtain ⟨vs,a_,abE⟩:=Z_ (P:=P) qd abC wa hle hM.1 rD fun vs jj fy=>hM.2 w F β vs he.inv.nil jj fy;unfold wpOpIn;simp only [ho];rw [if_pos hw];refine Oper.ke (fun c e=>by rw [qd] at e; cases e) a_ ?_;rw [Ao];refine ⟨fun h=>(by cases h),vI (abE.mono ?_)⟩;rintro e w' ⟨v,rfl,hb,F',j9,um,hv,ab4⟩;rw [fi];have hx:=aa9 (f:=aF) (hp.low i o d hi ho fi) he.inv EK lW hb j9 um ab4 (hv (fun i=>if i=d then v else β i) d (if_pos rfl)).1;have iT:∀i,i≠d→(fun i=>if i=d then v else β i) i=β i:=fun i hi=>if_neg hi;have ha:fZ F w w':=Below.agree hb he.inv.cC;refine hN _ _ ⟨F',_,(d,c)::H,by simpa [iK] using hs,hd,he.trans hx,fun x=>?_,fun j o' d' t' hj aB jh hl=>?_,fun q hq=>?_⟩
 ·rw [bj,bH x];constructor
  ·rintro (rfl | h | ⟨j,o',d',t',z',h1,h2,h3,h4,h5,h6⟩)
   ·exact .inr ⟨i,o,d,none,_,hi,by rw [fC eJ,if_pos rfl],ho,aR,hc,rfl⟩
   ·exact .inl h
   ·exact .inr ⟨j,o',d',t',z',h1,by rw [fC eJ]; split <;> first | rfl | exact h2,h3,h4,h5,h6⟩
  ·rintro (h | ⟨j,o',d',t',z',h1,h2,h3,h4,h5,h6⟩)
   ·exact .inr (.inl h)
   ·rw [fC eJ] at h2;split at h2
    ·rename_i e;subst e;rw [ho] at h3; cases h3;rw [aR] at h4; cases h4;rw [h5.uniq hc] at h6;exact .inl h6
    ·exact .inr (.inr ⟨j,o',d',t',z',h1,h2,h3,h4,h5,h6⟩)
 ·rw [fC eJ] at hl;split at hl
  ·cases hl
  ·have aO:d'≠d:=fun e=>by
    subst e;have:=hp.one i o j o' d' hi hj ho aB fi (kD jh).1;rename_i uA;exact uA this.symm
   show (if d'=d then _ else β d')=undef;rw [if_neg aO];exact zd j o' d' t' hj aB jh hl
 ·by_cases ru:q=d
  ·subst ru;rw [gh]
   have:(a.put (some q) v).tmps.getD q undef=v:=by simp [iK,yy]
   rw [this];exact (hv (fun i=>if i=q then v else β i) q (if_pos rfl)).2
  ·have h1:=(hf q fun j o' hj aB bG=>by
    have:=hq j o' hj aB bG;rw [fC eJ] at this;split at this
    ·rename_i e;subst e;rw [ho] at aB; cases aB;rw [fi] at bG; cases bG; exact absurd rfl ru
    ·exact this)
   have h2:=(h1.frame ha j9).CN EK iT;simpa [iK,xg (j1 ru)] using h2
end
end
section
open Go.RowKit
variable [M:bK] [G:cL] [MD:qK] [CH:mj] [R:dK]
section
variable {P:Program} {T:TT} {C:Ctx}
def Plan0.lt {ops:Array Oper} {m:Nat} {dep:Nat→Nat→Prop} (hp:Plan0 ops m dep):∀i j,i<ops.size→j<ops.size→dep i j→j<i:=by
 intro i;induction i using tX with
 | _ i ih =>
  intro j hi hj hd;obtain ⟨e,he,hb,h⟩:=hp.step i _ j (gr hi) hj hd;have Φ:=hp.dec i _ (gr hi) e he hb
  rcases h with h | h
  ·omega
  ·have:=ih e.on Φ j (by omega) hj h; omega
def drop_cons {ops:Array Oper} {k:Nat} (h:k<ops.size):ops.toList.drop k=ops[k]::ops.toList.drop (k+1):=by
 rw [xl (by simpa using h)]; simp
def Ol {ops:Array Oper} {m k:Nat} {o:Oper} (h:o∈(ops.toList.take m).drop k):∃i,k≤i∧i<m∧ops[i]?=some o:=by
 obtain ⟨i,hi,rfl⟩:=C6.1 h;simp only [List.length_drop,dQ,lJ] at hi;refine ⟨k+i,by omega,by omega,?_⟩
 have:k+i<ops.size:=by omega
 simp [GJ,this]
def Plan0.Vq {ops:Array Oper} {m:Nat} {dep:Nat→Nat→Prop} (hp:Plan0 ops m dep):∀q k,q+k=m→xC ops (((ops.toList.take m).drop k).filter fun o=>(dU o).isNone):=by
 intro q;induction q with
 | zero =>
  intro k hk;have:(ops.toList.take m).drop k=[]:=qC (by simp; omega);rw [this]; exact True.intro
 | succ q ih =>
  intro k hk
  have Bc:k<m:=by omega
  have iu:k<ops.size:=by have:=hp.le; omega
  have MN:(ops.toList.take m).drop k=ops[k]::(ops.toList.take m).drop (k+1):=by
   rw [xl (by simp; omega)];simp [GJ]
  rw [MN,List.filter_cons];have ho:ops[k]?=some ops[k]:=gr iu;split
  ·rename_i aR
   have aR:dU ops[k]=none:=by simpa using aR
   obtain ⟨d,hd⟩:=hp.dst k _ Bc ho;refine ⟨⟨d,hd,fun o' aB bG=>?_⟩,fun t ht o' aB bG=>?_,ih (k+1) (by omega)⟩
   ·obtain ⟨i,q_,ra,yG⟩:=Ol (eB.1 aB).1;have:=hp.one k _ i o' d Bc ra ho yG hd bG;omega
   ·have:∃i,k≤i∧i<m∧ops[i]?=some o':=by
     rcases bj.1 aB with rfl | h
     ·exact ⟨k,bF _,Bc,ho⟩
     ·obtain ⟨i,q_,ra,yG⟩:=Ol (eB.1 h).1;exact ⟨i,by omega,ra,yG⟩
    obtain ⟨i,q_,ra,yG⟩:=this;have gS:=(hp.look k _ t i o' Bc ra ho (N6 aR) ht yG bG).1;have:=hp.lt k i iu (by have:=hp.le; omega) gS;omega
  ·exact ih (k+1) (by omega)
def RQ {ops:Array Oper} {m:Nat} {dep:Nat→Nat→Prop} (hp:Plan0 ops m dep):∀q k,q+k=m→((((ops.toList.take m).drop k).filterMap dU).map (·.1)).Nodup:=by
 intro q;induction q with
 | zero =>
  intro k hk;have:(ops.toList.take m).drop k=[]:=qC (by simp; omega);rw [this]; simp
 | succ q ih =>
  intro k hk
  have Bc:k<m:=by omega
  have iu:k<ops.size:=by have:=hp.le; omega
  have MN:(ops.toList.take m).drop k=ops[k]::(ops.toList.take m).drop (k+1):=by
   rw [xl (by simp; omega)];simp [GJ]
  have ho:ops[k]?=some ops[k]:=gr iu;rw [MN,List.filterMap_cons];split
  ·exact ih (k+1) (by omega)
  ·rename_i x hx;simp only [jD,iv];refine ⟨fun hm=>?_,ih (k+1) (by omega)⟩;obtain ⟨y,hy,U4⟩:=dg.1 hm;obtain ⟨o',aB,jh⟩:=mb.1 hy;obtain ⟨i,q_,ra,yG⟩:=Ol aB;obtain ⟨d,t⟩:=x;obtain ⟨d',t'⟩:=y;simp only at U4;subst U4;have:=hp.one k _ i o' d' Bc ra ho yG (kD hx).1 (kD jh).1;omega
def CS {n:Nat} {ops:Array Oper} {st:ae} {K:ae→Prop} (h:iV P T n ops (ops.toList.drop ops.size) st K):K st:=by
 have:ops.toList.drop ops.size=[]:=qC (by simp);rw [this] at h; exact h
def XM.AI {ds:List Deferred} {w:World} {F:Nat→Prop} {β:Nat→Value} {H H':Hp} (h:XM C ds w F β H) (bH:∀x,x∈H'↔x∈H) (hk:(H'.map (·.1)).Nodup):XM C ds w F β H' :=
 h.trans ((Ext.refl (st:=⟨aF,H⟩) h.inv).AI bH hk)
def OX {st:ae} {a:Act} {w:World} (h:Rel C st a w):Rel C st a w.drew:=by
 obtain ⟨F,β,hs,hd,hf,he⟩:=h;have hb:Below w.heap.size w w.drew:=(Below.refl _ _).drew;exact ⟨fD F w w.drew,β,hs,hd,fun t=>(hf t).later hb he.inv.cC,he.trans (vQ (st:=⟨aF,st.H⟩) he.inv hb)⟩
def aay {id m n:Nat} {ops:Array Oper} {st:ae} {K:ae→Prop} (hT:bM P T) (hm:P.follows .mixedOrders=true) (qa:Dw m ops=true)
  (h:rP P T n ops (steady m ops) ⟨preB (ew m ops) (js (ew m ops) st).f,(js (ew m ops) st).H⟩ fun st1=>s5 P st1.f (ops.toList.take m)∧qO T n (ew m ops) st1 fun st2=>iV P T n ops (ops.toList.drop m) st2 K):GX P n id ops st K:=by
 refine ⟨fun C hn a w c_=>?_⟩;have hp:=afY qa;have hr:=OX c_;refine wpIn_region_any hm ?_;show wpAnyIn (fM C.ro) 0 P .any ops _ ops.size (oc ops.size false) a w.drew;generalize w.drew=w at hr;clear c_;obtain ⟨F,β,hs,hd,hf,he⟩:=hr
 obtain ⟨av,uu,fp,zb,Ik⟩:=L8 (ew m ops) (fun d t h=>by
  obtain ⟨o,Nd,ho⟩:=mb.1 h;obtain ⟨i,hi,aB⟩:=oM.1 Nd
  exact hp.low i o d hi aB (kD ho).1) hf he
 have yO:xC ops (steady m ops):=by simpa [steady] using hp.Vq m 0 (by omega)
 obtain ⟨fe,lx,hb,Φ,bW⟩:=QA (steady m ops) _ yO h
 have dJ:((ew m ops).map (·.1)).Nodup:=by simpa [ew] using RQ hp.toPlan0 m 0 (by omega)
 have eP:∀d t,(d,t)∈ew m ops→∀c,(d,c)∉(js (ew m ops) st).H:=fun d t hm=>Ik d (.inr ⟨t,hm⟩);obtain ⟨fA,HA,hK,Mr,D1,D3,H9⟩:=Lx (ew m ops) ⟨fe,(js (ew m ops) st).H⟩ hb.2 dJ eP fp.inv.keys;generalize hHm:(js (ew m ops) st).H=Hm at *
 have jU:∀{d t},(d,t)∈ew m ops↔∃i o,i<m∧ops[i]?=some o∧dU o=some (d,t):=by
  intro d t;constructor
  ·intro h;obtain ⟨o,ho,aR⟩:=mb.1 h;obtain ⟨i,hi,ho⟩:=oM.1 ho;exact ⟨i,o,hi,ho,aR⟩
  ·rintro ⟨i,o,hi,ho,aR⟩;exact mb.2 ⟨o,oM.2 ⟨i,hi,ho⟩,aR⟩
 have BF:∀{i o},i<m→ops[i]?=some o→dU o=none→o∈steady m ops:=fun hi ho aR=>eB.2 ⟨oM.2 ⟨_,hi,ho⟩,by simp [aR]⟩
 have D5:∀t,(∀j o' ty,j<m→ops[j]?=some o'→dU o'≠some (t,ty))→fA t=fe t:=fun t ht=>Mr t fun ty hm=>by
  obtain ⟨j,o',hj,aB,aR⟩:=jU.1 hm;exact ht j o' ty hj aB aR
 have D4:∀t,(∀j o' ty,j<m→ops[j]?=some o'→dU o'=some (t,ty)→rG o'=true)→fA t=fe t:=fun t ht=>by
  by_cases hex:∃j o' ty,j<m∧ops[j]?=some o'∧dU o'=some (t,ty)
  ·obtain ⟨j,o',ty,hj,aB,aR⟩:=hex;have gA:=ht j o' ty hj aB aR;unfold rG at gA;rw [aR] at gA;cases ty with
   | some y=>cases gA
   | none =>
    have hm:=jU.2 ⟨j,o',hj,aB,aR⟩;obtain ⟨_,c,hc,MZ⟩:=D1 t none hm
    have M0:fe t=.o t:=by
     rw [lx t fun o ho=>by
      obtain ⟨i,hi,Es⟩:=oM.1 (eB.1 ho).1;intro bG;have:=hp.one i o j o' t hi hj Es aB bG (kD aR).1;subst this;rw [Es] at aB; cases aB;have:=(eB.1 ho).2
      simp [aR] at this]
     exact Jx gA dJ hm
    have du:wG t c=.o t:=by
     have fO:wH CH.ch t=some c:=hc;have yX:wO t=true:=gA;unfold wO at yX;rw [fO] at yX
     cases c <;> first | rfl | cases yX
    rw [MZ,du,M0]
  ·exact D5 t fun j o' ty hj aB aR=>hex ⟨j,o',ty,hj,aB,aR⟩
 have lt:∀{i o},ops[i]?=some o→i<ops.size:=fun h=>(lg.1 h).1;have key:∀fuel (listed:Array Bool) (a:Act) (w:World),listed.size=ops.size→listed.toList.count false≤fuel →
   (∀i o,listed.getD i false=true→ops[i]?=some o→∀e,e∈o.after→jG .any e=true→listed.getD e.on false=true) →
   (((∀i,m≤i→listed.getD i false=false)∧oo C (lj T) ops m fA Hm listed a w) ∨
    ∃k,m≤k∧k≤ops.size∧(∀i,i<ops.size→(listed.getD i false=true↔i<k))∧∃st,Rel C st a w∧iV P T n ops (ops.toList.drop k) st K) →
   wpAnyIn (fM C.ro) 0 P .any ops (fun e a' w'=>∃aq,Rel C aq a' w'∧(match e with | .normal=>K aq | _=>False)) fuel listed a w:=by
  intro fuel;induction fuel with
  | zero =>
   intro listed a w aZ vZ da rm
   have d_:∀i,i<ops.size→listed.getD i false=true:=fun i hi=>by
    have h0:listed.toList.count false=0:=by omega
    have bm:i<listed.size:=by omega
    have bH:listed[i]∈listed.toList:=by simp
    cases hb:listed[i] with
    | true=>simp [bm,hb]
    | false=>rw [hb] at bH; exact absurd bH (Zf.1 h0)
   have rv:lQ .any ops listed=[]:=by
    apply Am.2;intro i hi;obtain ⟨h1,o,ho,_⟩:=mem_ready.1 hi;have:=d_ i (lt ho)
    have bm:i<listed.size:=by have:=lt ho; omega
    simp [bm] at h1 this;rw [h1] at this; cases this
   refine ⟨rv,?_⟩
   rcases rm with ⟨gz,ju⟩ | ⟨k,fQ,fx,lA,aq,iQ,hw⟩
   ·have jP:m=ops.size:=by
     rcases gG m ops.size with h | h
     ·have:=gz m (bF _); rw [d_ m h] at this; cases this
     ·have:=hp.le; omega
    obtain ⟨F1,dh,H1,g1,g2,g3,g4,g5,g6⟩:=ju.ex;refine ⟨⟨fA,HA⟩,⟨F1,dh,g1,g2,fun t=>g6 t fun i o hi _ _=>d_ i (by omega),g3.AI (fun x=>?_) D3⟩,?_⟩
    ·rw [g4 x,H9 x];constructor
     ·rintro (h | ⟨d,t,z,h1,h2,h3⟩)
      ·exact .inl h
      ·obtain ⟨i,o,hi,ho,aR⟩:=jU.1 h1;exact .inr ⟨i,o,d,t,z,hi,d_ i (by omega),ho,aR,h2,h3⟩
     ·rintro (h | ⟨i,o,d,t,z,hi,_,ho,aR,h2,h3⟩)
      ·exact .inl h
      ·exact .inr ⟨d,t,z,jU.2 ⟨i,o,hi,ho,aR⟩,h2,h3⟩
    ·rw [jP] at hK;exact CS hK
   ·have iu:k=ops.size:=by
     rcases gG k ops.size with h | h
     ·have:=(lA k h).1 (d_ k h); omega
     ·omega
    refine ⟨aq,iQ,?_⟩;rw [iu] at hw;exact CS hw
  | succ fuel ih =>
   intro listed a w aZ vZ da rm
   have yu:∀i,i<ops.size→(∀o,ops[i]?=some o→∀e,e∈o.after→jG .any e=true→listed.getD e.on false=true)→∀j,j<ops.size→iM ops i j=true→listed.getD j false=true:=by
    intro i;induction i using tX with
    | _ i ry =>
     intro hi fP j hj gS;obtain ⟨e,bE,cO,h⟩:=hp.step i _ j (gr hi) hj gS;have hl:=fP _ (gr hi) e bE cO;have sP:=hp.dec i _ (gr hi) e bE cO
     rcases h with h | h
     ·rw [←h]; exact hl
     ·exact ry e.on sP (by omega) (fun o ho=>da e.on o hl ho) j hj h
   have rK:∀{i o},i∈lQ .any ops listed→ops[i]?=some o→listed.getD i false=false∧∀e,e∈o.after→jG .any e=true→listed.getD e.on false=true:=fun hi ho=>by
    obtain ⟨h1,o',aB,h2⟩:=mem_ready.1 hi;rw [ho] at aB; cases aB;have:=lt ho;refine ⟨?_,h2⟩;have bm:=lt ho;rw [←aZ] at bm;simpa [bm] using h1
   have isReady:∀{i o},ops[i]?=some o→listed.getD i false=false→(∀j,j<i→listed.getD j false=true)→i∈lQ .any ops listed:=fun ho h1 h2=>by
    refine mem_ready.2 ⟨?_,_,ho,fun e he hb=>h2 _ (hp.dec _ _ ho e he hb)⟩;have bm:=lt ho;rw [←aZ] at bm;simpa [bm] using h1
   have next:∀i,i<ops.size→listed.getD i false=false→(listed.setIfInBounds i true).size=ops.size∧(listed.setIfInBounds i true).toList.count false≤fuel:=fun i hi h1=>by
    refine ⟨by simpa using aZ,?_⟩
    have bm:i<listed.size:=by omega
    have h2:listed.toList[i]?=some false:=by
     have:listed[i]=false:=by simpa [bm] using h1
     simp [bm,this]
    have:=count_set listed.toList i h2;simp only [YX];omega
   have sf:∀i o,ops[i]?=some o→(∀e,e∈o.after→jG .any e=true→listed.getD e.on false=true) →
     ∀j o',(listed.setIfInBounds i true).getD j false=true→ops[j]?=some o'→∀e,e∈o'.after→jG .any e=true→(listed.setIfInBounds i true).getD e.on false=true:=fun i o ho fP j o' hj aB e bE cO=>by
    have bm:i<listed.size:=by rw [aZ]; exact lt ho
    rw [fC bm] at hj ⊢;split
    ·rfl
    ·split at hj
     ·rename_i e2;subst e2;rw [ho] at aB; cases aB;exact fP e bE cO
     ·exact da j o' hj aB e bE cO
   have second:(∃k,m≤k∧k≤ops.size∧(∀i,i<ops.size→(listed.getD i false=true↔i<k))∧∃st,Rel C st a w∧iV P T n ops (ops.toList.drop k) st K) →
     wpAnyIn (fM C.ro) 0 P .any ops (fun e a' w'=>∃aq,Rel C aq a' w'∧(match e with | .normal=>K aq | _=>False)) (fuel+1) listed a w:=by
    rintro ⟨k,fQ,fx,lA,aq,iQ,hw⟩
    rcases gG k ops.size with iu | iu
    ·have yR:ops[k]?=some ops[k]:=gr iu
     have yL:listed.getD k false=false:=by
      cases hb:listed.getD k false
      ·rfl
      ·have:=(lA k iu).1 hb; omega
     have kQ:=isReady yR yL fun j hj=>(lA j (by omega)).2 hj;refine ⟨fun h0=>(by rw [h0] at kQ; cases kQ),fun i hi=>?_⟩;obtain ⟨_,o,ho,_⟩:=mem_ready.1 hi;obtain ⟨dO,fP⟩:=rK hi ho
     have nH:i=k:=by
      have h1:¬i<k:=fun h=>by rw [(lA i (lt ho)).2 h] at dO; cases dO
      rcases gG k i with h2 | h2
      ·have:=yu i (lt ho) (fun o' aB=>by rw [ho] at aB; cases aB; exact fP) k iu (hp.tail i k (by omega) (lt ho) h2);rw [this] at yL; cases yL
      ·omega
     subst nH;rw [drop_cons iu] at hw;rw [ho] at yR;cases yR;obtain ⟨mQ,lB⟩:=next i iu dO;refine uX (K:=fun st=>iV P T n ops (ops.toList.drop (i+1)) st K) hT hn ho iQ (fun st2 a2 w2 oG M8=>?_) hw;refine ih _ a2 w2 mQ lB (sf i _ ho fP) (.inr ⟨i+1,by omega,by omega,fun j hj=>?_,st2,oG,M8⟩)
     have bm:i<listed.size:=by rw [aZ]; exact iu
     rw [fC bm];split
     ·rename_i e2; subst e2; simp
     ·rw [lA j hj]; omega
    ·have d_:∀i,i<ops.size→listed.getD i false=true:=fun i hi=>(lA i hi).2 (by omega)
     have rv:lQ .any ops listed=[]:=by
      apply Am.2;intro i hi;obtain ⟨_,o,ho,_⟩:=mem_ready.1 hi;obtain ⟨dO,_⟩:=rK hi ho;rw [d_ i (lt ho)] at dO; cases dO
     refine ⟨fun _=>⟨aq,iQ,?_⟩,fun i hi=>by rw [rv] at hi; cases hi⟩
     have:k=ops.size:=by omega
     rw [this] at hw;exact CS hw
   rcases rm with ⟨gz,ju⟩ | rm
   ·by_cases pB:∀i,i<m→listed.getD i false=true
    ·refine second ⟨m,bF _,hp.le,fun i hi=>⟨fun h=>?_,fun h=>pB i h⟩,⟨fA,HA⟩,?_,hK⟩
     ·rcases gG i m with h1 | h1
      ·exact h1
      ·rw [gz i h1] at h; cases h
     ·obtain ⟨F1,dh,H1,g1,g2,g3,g4,g5,g6⟩:=ju.ex;refine ⟨F1,dh,g1,g2,fun t=>g6 t fun i o hi _ _=>pB i hi,g3.AI (fun x=>?_) D3⟩;rw [g4 x,H9 x];constructor
      ·rintro (h | ⟨d,t,z,h1,h2,h3⟩)
       ·exact .inl h
       ·obtain ⟨i,o,hi,ho,aR⟩:=jU.1 h1;exact .inr ⟨i,o,d,t,z,hi,pB i hi,ho,aR,h2,h3⟩
      ·rintro (h | ⟨i,o,d,t,z,hi,_,ho,aR,h2,h3⟩)
       ·exact .inl h
       ·exact .inr ⟨d,t,z,jU.2 ⟨i,o,hi,ho,aR⟩,h2,h3⟩
    ·-- Gc least ak' is not done
     have hex:∃i,i<m∧listed.getD i false=false∧∀j,j<i→listed.getD j false=true:=by
      have:∃i,i<m∧listed.getD i false=false:=by
       refine xi fun bw=>pB fun i hi=>?_;cases hb:listed.getD i false
       ·exact absurd ⟨i,hi,hb⟩ bw
       ·rfl
      obtain ⟨i,hi,hb⟩:=this;induction i using tX with
      | _ i ry =>
       by_cases d_:∀j,j<i→listed.getD j false=true
       ·exact ⟨i,hi,hb,d_⟩
       ·have:∃j,j<i∧listed.getD j false=false:=by
         refine xi fun bw=>d_ fun j hj=>?_;cases hb:listed.getD j false
         ·exact absurd ⟨j,hj,hb⟩ bw
         ·rfl
        obtain ⟨j,hj,Ee⟩:=this;exact ry j hj (by omega) Ee
     obtain ⟨i0,q9,ek,yr⟩:=hex
     have yF:i0<ops.size:=by have:=hp.le; omega
     have c_:=isReady (gr yF) ek yr;refine ⟨fun h0=>(by rw [h0] at c_; cases c_),fun i hi=>?_⟩;obtain ⟨_,o,ho,_⟩:=mem_ready.1 hi;obtain ⟨dO,fP⟩:=rK hi ho;have gS:∀j,j<ops.size→iM ops i j=true→listed.getD j false=true:=fun j hj hd=>yu i (lt ho) (fun o' aB=>by rw [ho] at aB; cases aB; exact fP) j hj hd
     have iC:i<m:=by
      rcases gG i m with h | h
      ·exact h
      ·have:=gS i0 yF (hp.tail i i0 h (lt ho) (by omega));rw [this] at ek; cases ek
     obtain ⟨mQ,lB⟩:=next i (lt ho) dO
     have cont:∀a w,oo C (lj T) ops m fA Hm (listed.setIfInBounds i true) a w→wpAnyIn (fM C.ro) 0 P .any ops (fun e a' w'=>∃aq,Rel C aq a' w'∧(match e with | .normal=>K aq | _=>False)) fuel (listed.setIfInBounds i true) a w:=fun a2 w2 hh=>by
      refine ih _ a2 w2 mQ lB (sf i o ho fP) (.inl ⟨fun j hj=>?_,hh⟩)
      have bm:i<listed.size:=by rw [aZ]; exact lt ho
      rw [fC bm];split
      ·omega
      ·exact gz j hj
     cases aR:dU o with
     | none=>exact MC hT hn hp.toPlan0.s aZ iC ho aR dO (fun j hj hd=>gS j (by have:=hp.le; omega) hd) D4 fp.inv.keys (bW o (BF iC ho aR)) (Φ o (BF iC ho aR)) ju cont
     | some x =>
      obtain ⟨d,t⟩:=x;obtain ⟨q2,c,yv,q1⟩:=D1 d t (jU.2 ⟨i,o,iC,ho,aR⟩);cases t with
      | some t =>
       obtain ⟨z,q3,q4,rfl⟩:=yv;exact Tq hT hn hp.toPlan0 aZ iC ho aR dO q3 q4 q1 q2 (eP d _ (jU.2 ⟨i,o,iC,ho,aR⟩)) ju cont
      | none =>
       obtain ⟨c',fO,ri⟩:=I6 hb.1 (oM.2 ⟨i,iC,ho⟩) aR;obtain rfl:c'=c:=lj.uniq (T:=T) (x:=none) fO yv;exact Ts hn hp.toPlan0 aZ iC ho aR dO (fun j hj hd=>gS j (by have:=hp.le; omega) hd) D4 yv ri q1 q2 (eP d _ (jU.2 ⟨i,o,iC,ho,aR⟩)) ju cont
   ·exact second rm
 have rep:∀i,(oc ops.size false).getD i false=false:=fun i=>by
  simp only [lf,YV];split <;> rfl
 refine key ops.size _ a w (by simp) (by simp) (fun i o hi=>by rw [rep] at hi; cases hi) (.inl ⟨fun i _=>rep i,F,av,Hm,hs,hd,fp,fun x=>⟨.inl,fun h=>?_⟩,fun i o d t hi ho aR _=>zb d (.inr ⟨t,jU.2 ⟨i,o,hi,ho,aR⟩⟩),fun t ht=>?_⟩)
 ·rcases h with h | ⟨i,o,d,t,z,h1,h2,_⟩
  ·exact h
  ·rw [rep] at h2; cases h2
 ·have bw:∀i o,i<m→ops[i]?=some o→o.dst≠some t:=fun i o hi ho bG=>by
   have:=ht i o hi ho bG;rw [rep] at this; cases this
  rw [D5 t fun j o' ty hj aB aR=>bw j o' hj aB (kD aR).1,lx t fun o ho=>by
   obtain ⟨i,hi,aB⟩:=oM.1 (eB.1 ho).1
   exact bw i o hi aB]
  show Rd _ _ _ (preB (ew m ops) (js (ew m ops) st).f t) _
  rw [Fm fun x hx=>by
   obtain ⟨j,o',hj,aB,aR⟩:=jU.1 hx
   exact bw j o' hj aB (kD aR).1]
  exact uu t
def Lq (T:TT) (ops:Array Oper) (m:Nat) (st:ae) (K:ae→Prop):Prop :=
 match ops[m]? with
 | some o=>match o.op with
  | .store t x y=>vP T t (ev st.f x) (ev st.f y) st fun _ aq=>K aq
  | _=>False
 | none=>False
def qh (P:Program) (T:TT) (ops:Array Oper) (st:ae):List Nat→Prop
 | []=>True
 | j::r=>(match ops[j]? with
  | some o=>vA P T ops st.H st.f o
  | none=>False)∧qh P T ops st r
def Ob {ops:Array Oper} {st:ae}:∀{late:List Nat},qh P T ops st late→∀j o,j∈late→ops[j]?=some o→vA P T ops st.H st.f o
 | [],_,_,_,h,_=>by cases h
 | i::r,hl,j,o,h,ho=>by
  rcases bj.1 h with rfl | h
  ·have:=hl.1;rw [ho] at this;exact this
  ·exact Ob hl.2 j o h ho
def aaT {t:Nat} {x y:AV} {st:ae} {k:AV→ae→Prop} (h:vP T t x y st k):∃H',k (.v undef) ⟨st.f,H'⟩∧(∀f,vP T t x y ⟨f,st.H⟩ fun _ s=>s=⟨f,H'⟩)∧H'.map (·.1)=st.H.map (·.1):=by
 unfold vP at h ⊢;split at h
 ·rename_i i hi;split at h
  ·rename_i id off;split at h
   ·rename_i cells hc;unfold Cp at h ⊢;obtain ⟨hb,C,hC,h⟩:=cond_prop h;exact ⟨_,h,fun f=>by simp only [hc]; exact Lv hb ⟨C,hC,rfl⟩,zS _⟩
   ·cases h
  ·rename_i id K m j;split at h
   ·rename_i E K' rows hc;obtain ⟨q9,row,jy,hK,h⟩:=cond_prop h;unfold Cp at h ⊢;obtain ⟨hb,C,hC,R,hR,h⟩:=cond_prop h;exact ⟨_,h,fun f=>by simp only [hc]; exact Lv q9 ⟨row,jy,hK,Lv hb ⟨C,hC,R,hR,rfl⟩⟩,zS _⟩
   ·cases h
  ·cases h
 ·cases h
def aaz {id m n:Nat} {late:List Nat} {ops:Array Oper} {st:ae} {K:ae→Prop} (hT:bM P T) (hm:P.follows .mixedOrders=true) (qa:Hu m late ops=true)
  (h:rP P T n ops (steady m ops) ⟨preB (ew m ops) (js (ew m ops) st).f,(js (ew m ops) st).H⟩ fun st1=>s5 P st1.f (ops.toList.take m)∧qO T n (ew m ops) st1 fun st1=>Lq T ops m st1 fun st2=>qh P T ops st2 late∧iV P T n ops (ops.toList.drop (m+1)) st2 K):GX P n id ops st K:=by
 refine ⟨fun C hn a w c_=>?_⟩;have hp:=afX qa;have hr:=OX c_;refine wpIn_region_any hm ?_;show wpAnyIn (fM C.ro) 0 P .any ops _ ops.size (oc ops.size false) a w.drew;generalize w.drew=w at hr;clear c_;obtain ⟨F,β,hs,hd,hf,he⟩:=hr
 obtain ⟨av,uu,fp,zb,ab'⟩:=L8 (ew m ops) (fun d t h=>by
  obtain ⟨o,Nd,ho⟩:=mb.1 h;obtain ⟨i,hi,aB⟩:=oM.1 Nd
  exact hp.low i o d hi aB (kD ho).1) hf he
 have yO:xC ops (steady m ops):=by simpa [steady] using hp.Vq m 0 (by omega)
 obtain ⟨fe,lx,hb,Φ,bW⟩:=QA (steady m ops) _ yO h
 have dJ:((ew m ops).map (·.1)).Nodup:=by simpa [ew] using RQ hp.toPlan0 m 0 (by omega)
 have eP:∀d t,(d,t)∈ew m ops→∀c,(d,c)∉(js (ew m ops) st).H:=fun d t hm=>ab' d (.inr ⟨t,hm⟩);obtain ⟨fA,HA,qZ,Mr,D1,D3,H9⟩:=Lx (ew m ops) ⟨fe,(js (ew m ops) st).H⟩ hb.2 dJ eP fp.inv.keys;generalize hHm:(js (ew m ops) st).H=Hm at *
 have jU:∀{d t},(d,t)∈ew m ops↔∃i o,i<m∧ops[i]?=some o∧dU o=some (d,t):=by
  intro d t;constructor
  ·intro h;obtain ⟨o,ho,aR⟩:=mb.1 h;obtain ⟨i,hi,ho⟩:=oM.1 ho;exact ⟨i,o,hi,ho,aR⟩
  ·rintro ⟨i,o,hi,ho,aR⟩;exact mb.2 ⟨o,oM.2 ⟨i,hi,ho⟩,aR⟩
 have BF:∀{i o},i<m→ops[i]?=some o→dU o=none→o∈steady m ops:=fun hi ho aR=>eB.2 ⟨oM.2 ⟨_,hi,ho⟩,by simp [aR]⟩
 have D5:∀t,(∀j o' ty,j<m→ops[j]?=some o'→dU o'≠some (t,ty))→fA t=fe t:=fun t ht=>Mr t fun ty hm=>by
  obtain ⟨j,o',hj,aB,aR⟩:=jU.1 hm;exact ht j o' ty hj aB aR
 have D4:∀t,(∀j o' ty,j<m→ops[j]?=some o'→dU o'=some (t,ty)→rG o'=true)→fA t=fe t:=fun t ht=>by
  by_cases hex:∃j o' ty,j<m∧ops[j]?=some o'∧dU o'=some (t,ty)
  ·obtain ⟨j,o',ty,hj,aB,aR⟩:=hex;have gA:=ht j o' ty hj aB aR;unfold rG at gA;rw [aR] at gA;cases ty with
   | some y=>cases gA
   | none =>
    have hm:=jU.2 ⟨j,o',hj,aB,aR⟩;obtain ⟨_,c,hc,MZ⟩:=D1 t none hm
    have M0:fe t=.o t:=by
     rw [lx t fun o ho=>by
      obtain ⟨i,hi,Es⟩:=oM.1 (eB.1 ho).1;intro bG;have:=hp.one i o j o' t hi hj Es aB bG (kD aR).1;subst this;rw [Es] at aB; cases aB;have:=(eB.1 ho).2
      simp [aR] at this]
     exact Jx gA dJ hm
    have du:wG t c=.o t:=by
     have fO:wH CH.ch t=some c:=hc;have yX:wO t=true:=gA;unfold wO at yX;rw [fO] at yX
     cases c <;> first | rfl | cases yX
    rw [MZ,du,M0]
  ·exact D5 t fun j o' ty hj aB aR=>hex ⟨j,o',ty,hj,aB,aR⟩
 have lt:∀{i o},ops[i]?=some o→i<ops.size:=fun h=>(lg.1 h).1;obtain ⟨om,Bq⟩:∃om,ops[m]?=some om:=⟨_,gr hp.lt⟩;unfold Lq at qZ;rw [Bq] at qZ;simp only at qZ;split at qZ
 case h_2=>exact qZ.elim
 rename_i ts xs ys No;obtain ⟨H',⟨Nb,hK⟩,bU,Mu⟩:=aaT qZ;let T0:Nat→Option Nat→Chunk→Prop:=fun _ _ _=>False
 have Ub:(H'.map (·.1)).Nodup:=by rw [Mu]; exact D3
 have abr:∀{listed:Array Bool} {a:Act} {w:World} {F β},(∀i o,i<m→ops[i]?=some o→dU o≠none→listed.getD i false=true)→a.tmps.size=C.n→True→XM C a.defers w F β H' →
   (∀t,(∀i o,i<m→ops[i]?=some o→o.dst=some t→listed.getD i false=true)→Rd w F β (fA t) (a.tmps.getD t undef))→oo C T0 ops m fA H' listed a w :=
  fun aR h1 h2 h3 h4=>⟨_,_,_,h1,h2,h3,fun x=>⟨.inl,fun h=>h.elim (fun h=>h) fun ⟨i,o,d,t,z,_,_,_,_,hz,_⟩=>by cases hz⟩,
   ⟨fun i o d t hi ho ha hl=>(by rw [aR i o hi ho (by rw [ha]; simp)] at hl; cases hl),h4⟩⟩
 have Tt:∀{listed:Array Bool} {a:Act} {w:World},oo C T0 ops m fA H' listed a w→∃F β,a.tmps.size=C.n∧True∧XM C a.defers w F β H' ∧
   (∀t,(∀i o,i<m→ops[i]?=some o→o.dst=some t→listed.getD i false=true)→Rd w F β (fA t) (a.tmps.getD t undef)):=fun hh=>by
  obtain ⟨F1,dh,H1,g1,g2,g3,g4,g5,g6⟩:=hh.ex;refine ⟨F1,dh,g1,g2,g3.AI (fun x=>?_) Ub,g6⟩;rw [g4 x];exact ⟨.inl,fun h=>h.elim (fun h=>h) fun ⟨i,o,d,t,z,_,_,_,_,hz,_⟩=>by cases hz⟩
 have key:∀fuel (listed:Array Bool) (a:Act) (w:World),listed.size=ops.size→listed.toList.count false≤fuel →
   (∀i o,listed.getD i false=true→ops[i]?=some o→∀e,e∈o.after→jG .any e=true→listed.getD e.on false=true) →
   (((∀i,m≤i→listed.getD i false=false)∧oo C (lj T) ops m fA Hm listed a w) ∨
    (listed.getD m false=true∧(∀i,m<i→listed.getD i false=false)∧oo C T0 ops m fA H' listed a w) ∨
    ∃k,m<k∧k≤ops.size∧(∀i,i<ops.size→(listed.getD i false=true↔i<k))∧∃st,Rel C st a w∧iV P T n ops (ops.toList.drop k) st K) →
   wpAnyIn (fM C.ro) 0 P .any ops (fun e a' w'=>∃aq,Rel C aq a' w'∧(match e with | .normal=>K aq | _=>False)) fuel listed a w:=by
  intro fuel;induction fuel with
  | zero =>
   intro listed a w aZ vZ da rm
   have d_:∀i,i<ops.size→listed.getD i false=true:=fun i hi=>by
    have h0:listed.toList.count false=0:=by omega
    have bm:i<listed.size:=by omega
    have bH:listed[i]∈listed.toList:=by simp
    cases hb:listed[i] with
    | true=>simp [bm,hb]
    | false=>rw [hb] at bH; exact absurd bH (Zf.1 h0)
   have rv:lQ .any ops listed=[]:=by
    apply Am.2;intro i hi;obtain ⟨h1,o,ho,_⟩:=mem_ready.1 hi;have:=d_ i (lt ho)
    have bm:i<listed.size:=by have:=lt ho; omega
    simp [bm] at h1 this;rw [h1] at this; cases this
   refine ⟨rv,?_⟩
   rcases rm with ⟨gz,_⟩ | ⟨_,gz,ju⟩ | ⟨k,fQ,fx,lA,aq,iQ,hw⟩
   ·have:=gz m (bF _); rw [d_ m hp.lt] at this; cases this
   ·have jP:m+1=ops.size:=by
     rcases gG (m+1) ops.size with h | h
     ·have:=gz (m+1) (by omega); rw [d_ (m+1) h] at this; cases this
     ·have:=hp.lt; omega
    obtain ⟨F1,dh,g1,g2,g3,g6⟩:=Tt ju;refine ⟨⟨fA,H'⟩,⟨F1,dh,g1,g2,fun t=>g6 t fun i o hi _ _=>d_ i (by omega),g3⟩,?_⟩;rw [jP] at hK;exact CS hK
   ·have iu:k=ops.size:=by
     rcases gG k ops.size with h | h
     ·have:=(lA k h).1 (d_ k h); omega
     ·omega
    refine ⟨aq,iQ,?_⟩;rw [iu] at hw;exact CS hw
  | succ fuel ih =>
   intro listed a w aZ vZ da rm
   have yu:∀i,i<ops.size→(∀o,ops[i]?=some o→∀e,e∈o.after→jG .any e=true→listed.getD e.on false=true)→∀j,j<ops.size→iM ops i j=true→listed.getD j false=true:=by
    intro i;induction i using tX with
    | _ i ry =>
     intro hi fP j hj gS;obtain ⟨e,bE,cO,h⟩:=hp.step i _ j (gr hi) hj gS;have hl:=fP _ (gr hi) e bE cO;have sP:=hp.dec i _ (gr hi) e bE cO
     rcases h with h | h
     ·rw [←h]; exact hl
     ·exact ry e.on sP (by omega) (fun o ho=>da e.on o hl ho) j hj h
   have rK:∀{i o},i∈lQ .any ops listed→ops[i]?=some o→listed.getD i false=false∧∀e,e∈o.after→jG .any e=true→listed.getD e.on false=true:=fun hi ho=>by
    obtain ⟨h1,o',aB,h2⟩:=mem_ready.1 hi;rw [ho] at aB; cases aB;have:=lt ho;refine ⟨?_,h2⟩;have bm:=lt ho;rw [←aZ] at bm;simpa [bm] using h1
   have isReady:∀{i o},ops[i]?=some o→listed.getD i false=false→(∀j,j<i→listed.getD j false=true)→i∈lQ .any ops listed:=fun ho h1 h2=>by
    refine mem_ready.2 ⟨?_,_,ho,fun e he hb=>h2 _ (hp.dec _ _ ho e he hb)⟩;have bm:=lt ho;rw [←aZ] at bm;simpa [bm] using h1
   have next:∀i,i<ops.size→listed.getD i false=false→(listed.setIfInBounds i true).size=ops.size∧(listed.setIfInBounds i true).toList.count false≤fuel:=fun i hi h1=>by
    refine ⟨by simpa using aZ,?_⟩
    have bm:i<listed.size:=by omega
    have h2:listed.toList[i]?=some false:=by
     have:listed[i]=false:=by simpa [bm] using h1
     simp [bm,this]
    have:=count_set listed.toList i h2;simp only [YX];omega
   have sf:∀i o,ops[i]?=some o→(∀e,e∈o.after→jG .any e=true→listed.getD e.on false=true) →
     ∀j o',(listed.setIfInBounds i true).getD j false=true→ops[j]?=some o'→∀e,e∈o'.after→jG .any e=true→(listed.setIfInBounds i true).getD e.on false=true:=fun i o ho fP j o' hj aB e bE cO=>by
    have bm:i<listed.size:=by rw [aZ]; exact lt ho
    rw [fC bm] at hj ⊢;split
    ·rfl
    ·split at hj
     ·rename_i e2;subst e2;rw [ho] at aB; cases aB;exact fP e bE cO
     ·exact da j o' hj aB e bE cO
   have least:∀(q:Nat),(¬∀i,i<q→listed.getD i false=true)→∃i,i<q∧listed.getD i false=false∧∀j,j<i→listed.getD j false=true:=fun q pB=>by
    have:∃i,i<q∧listed.getD i false=false:=by
     refine xi fun bw=>pB fun i hi=>?_;cases hb:listed.getD i false
     ·exact absurd ⟨i,hi,hb⟩ bw
     ·rfl
    obtain ⟨i,hi,hb⟩:=this;induction i using tX with
    | _ i ry =>
     by_cases d_:∀j,j<i→listed.getD j false=true
     ·exact ⟨i,hi,hb,d_⟩
     ·have:∃j,j<i∧listed.getD j false=false:=by
       refine xi fun bw=>d_ fun j hj=>?_;cases hb:listed.getD j false
       ·exact absurd ⟨j,hj,hb⟩ bw
       ·rfl
      obtain ⟨j,hj,Ee⟩:=this;exact ry j hj (by omega) Ee
   have LM:∀{i o},ops[i]?=some o→(∀e,e∈o.after→jG .any e=true→listed.getD e.on false=true)→∀j,j<ops.size→iM ops i j=true→listed.getD j false=true :=
    fun ho fP j hj hd=>yu _ (lt ho) (fun o' aB=>by rw [ho] at aB; cases aB; exact fP) j hj hd
   have XJ:(∃k,m<k∧k≤ops.size∧(∀i,i<ops.size→(listed.getD i false=true↔i<k))∧∃st,Rel C st a w∧iV P T n ops (ops.toList.drop k) st K) →
     wpAnyIn (fM C.ro) 0 P .any ops (fun e a' w'=>∃aq,Rel C aq a' w'∧(match e with | .normal=>K aq | _=>False)) (fuel+1) listed a w:=by
    rintro ⟨k,fQ,fx,lA,aq,iQ,hw⟩
    rcases gG k ops.size with iu | iu
    ·have yR:ops[k]?=some ops[k]:=gr iu
     have yL:listed.getD k false=false:=by
      cases hb:listed.getD k false
      ·rfl
      ·have:=(lA k iu).1 hb; omega
     have kQ:=isReady yR yL fun j hj=>(lA j (by omega)).2 hj;refine ⟨fun h0=>(by rw [h0] at kQ; cases kQ),fun i hi=>?_⟩;obtain ⟨_,o,ho,_⟩:=mem_ready.1 hi;obtain ⟨dO,fP⟩:=rK hi ho
     have nH:i=k:=by
      have h1:¬i<k:=fun h=>by rw [(lA i (lt ho)).2 h] at dO; cases dO
      rcases gG k i with h2 | h2
      ·have:=LM ho fP k iu (hp.tail i k (by omega) (lt ho) h2);rw [this] at yL; cases yL
      ·omega
     subst nH;rw [drop_cons iu] at hw;rw [ho] at yR;cases yR;obtain ⟨mQ,lB⟩:=next i iu dO;refine uX (K:=fun st=>iV P T n ops (ops.toList.drop (i+1)) st K) hT hn ho iQ (fun st2 a2 w2 oG M8=>?_) hw;refine ih _ a2 w2 mQ lB (sf i _ ho fP) (.inr (.inr ⟨i+1,by omega,by omega,fun j hj=>?_,st2,oG,M8⟩))
     have bm:i<listed.size:=by rw [aZ]; exact iu
     rw [fC bm];split
     ·rename_i e2; subst e2; simp
     ·rw [lA j hj]; omega
    ·have d_:∀i,i<ops.size→listed.getD i false=true:=fun i hi=>(lA i hi).2 (by omega)
     have rv:lQ .any ops listed=[]:=by
      apply Am.2;intro i hi;obtain ⟨_,o,ho,_⟩:=mem_ready.1 hi;obtain ⟨dO,_⟩:=rK hi ho;rw [d_ i (lt ho)] at dO; cases dO
     refine ⟨fun _=>⟨aq,iQ,?_⟩,fun i hi=>by rw [rv] at hi; cases hi⟩
     have:k=ops.size:=by omega
     rw [this] at hw;exact CS hw
   rcases rm with ⟨gz,ju⟩ | ⟨Iu,gz,ju⟩ | rm
   ·-- Gc store is to akF
    have Ng:=gz m (bF _)
    obtain ⟨i0,q9,ek,yr⟩:=least (m+1) fun hh=>by have:=hh m (by omega); rw [Ng] at this; cases this
    have yF:i0<ops.size:=by have:=hp.lt; omega
    have c_:=isReady (gr yF) ek yr;refine ⟨fun h0=>(by rw [h0] at c_; cases c_),fun i hi=>?_⟩;obtain ⟨_,o,ho,_⟩:=mem_ready.1 hi;obtain ⟨dO,fP⟩:=rK hi ho;have gS:=LM ho fP;obtain ⟨mQ,lB⟩:=next i (lt ho) dO
    have iC:i≤m:=by
     rcases gG m i with h | h
     ·have:=gS m hp.lt (hp.tail i m h (lt ho) h);rw [this] at Ng; cases Ng
     ·exact h
    have bm:i<listed.size:=by rw [aZ]; exact lt ho
    rcases gG i m with iC | iC
    ·have cont:∀a w,oo C (lj T) ops m fA Hm (listed.setIfInBounds i true) a w→wpAnyIn (fM C.ro) 0 P .any ops (fun e a' w'=>∃aq,Rel C aq a' w'∧(match e with | .normal=>K aq | _=>False)) fuel (listed.setIfInBounds i true) a w:=fun a2 w2 hh=>by
      refine ih _ a2 w2 mQ lB (sf i o ho fP) (.inl ⟨fun j hj=>?_,hh⟩);rw [fC bm];split
      ·omega
      ·exact gz j hj
     cases aR:dU o with
     | none=>exact MC hT hn hp.toPlan0.s aZ iC ho aR dO (fun j hj hd=>gS j (by have:=hp.lt; omega) hd) D4 fp.inv.keys (bW o (BF iC ho aR)) (Φ o (BF iC ho aR)) ju cont
     | some x =>
      obtain ⟨d,t⟩:=x;obtain ⟨q2,c,yv,q1⟩:=D1 d t (jU.2 ⟨i,o,iC,ho,aR⟩);cases t with
      | some t =>
       obtain ⟨z,q3,q4,rfl⟩:=yv;exact Tq hT hn hp.toPlan0 aZ iC ho aR dO q3 q4 q1 q2 (eP d _ (jU.2 ⟨i,o,iC,ho,aR⟩)) ju cont
      | none =>
       obtain ⟨c',fO,ri⟩:=I6 hb.1 (oM.2 ⟨i,iC,ho⟩) aR;obtain rfl:c'=c:=lj.uniq (T:=T) (x:=none) fO yv;exact Ts hn hp.toPlan0 aZ iC ho aR dO (fun j hj hd=>gS j (by have:=hp.lt; omega) hd) D4 yv ri q1 q2 (eP d _ (jU.2 ⟨i,o,iC,ho,aR⟩)) ju cont
    ·obtain rfl:i=m:=by omega
     rw [Bq] at ho;cases ho
     have Tu:∀j o',j<i→ops[j]?=some o'→dU o'≠none→listed.getD j false=true:=fun j o' hj aB ha=>by
      rcases hp.late j o' hj aB with h | h
      ·exact gS j (lt aB) h
      ·exact absurd h.1 ha
     obtain ⟨F1,dh,g1,g2,g3,g6⟩:∃F β,a.tmps.size=C.n∧True∧XM C a.defers w F β HA ∧
       (∀t,(∀j o,j<i→ops[j]?=some o→o.dst=some t→listed.getD j false=true)→Rd w F β (fA t) (a.tmps.getD t undef)):=by
      obtain ⟨F1,dh,H1,g1,g2,g3,g4,g5,g6⟩:=ju.ex;refine ⟨F1,dh,g1,g2,g3.AI (fun x=>?_) D3,g6⟩;rw [g4 x,H9 x];constructor
      ·rintro (h | ⟨d,t,z,h1,h2,h3⟩)
       ·exact .inl h
       ·obtain ⟨j,o',hj,aB,aR⟩:=jU.1 h1;exact .inr ⟨j,o',d,t,z,hj,Tu j o' hj aB (by rw [aR]; simp),aB,aR,h2,h3⟩
      ·rintro (h | ⟨j,o',d,t,z,hj,_,aB,aR,h2,h3⟩)
       ·exact .inl h
       ·exact .inr ⟨d,t,z,jU.2 ⟨j,o',hj,aB,aR⟩,h2,h3⟩
     obtain ⟨fi,ep⟩:=hp.store _ Bq
     obtain ⟨known,Uc,yK⟩:∃known:Nat→AV,(∀t,(∀j o,j<i→ops[j]?=some o→o.dst=some t→listed.getD j false=true)→known t=fA t)∧∀t,Rd w F1 dh (known t) (a.tmps.getD t undef):=by
      classical
      refine ⟨fun t=>if ∀j o,j<i→ops[j]?=some o→o.dst=some t→listed.getD j false=true then fA t else .χ,fun t ht=>if_pos ht,fun t=>?_⟩;simp only;split
      ·rename_i hh; exact g6 t hh
      ·exact .χ
     have Bf:∀t,t∈om.looksAt ops→known t=fA t:=fun t ht=>Uc t fun j o' hj aB bG=>by
      exact gS j (by have:=lt aB; omega) (hp.adL om t j o' Bq ht hj aB bG)
     have wa:∀x,x∈om.op.operands→ev known x=ev fA x:=fun x hx=>by
      cases x with
      | tmp t=>exact Bf t (qE _ (mb.2 ⟨.tmp t,by simpa using hx,rfl⟩))
      | _=>rfl
     have acO:gd n ops om ⟨known,HA⟩ (fun st=>step P T om st fun r aq=>put n om.dst aq r fun s=>s=⟨known,H'⟩) fun st=>put n om.dst st (.v undef) fun s=>s=⟨known,H'⟩:=by
      rw [sB,ep];have h1:=bU known;have e1:ev known xs=ev fA xs:=wa xs (by rw [No]; simp [tZ]);have e2:ev known ys=ev fA ys:=wa ys (by rw [No]; simp [tZ])
      have h2:vP T ts (ev known xs) (ev known ys) ⟨known,HA⟩ fun r aq=>put n om.dst aq r fun s=>s=⟨known,H'⟩:=by
       rw [e1,e2,fi]
       have:(fun (r:AV) (aq:ae)=>put n none aq r fun s=>s=⟨known,H'⟩)=fun _ aq=>aq=⟨known,H'⟩:=by
        funext r aq; rw [put_eq]
       rw [this]; exact h1
      have h3:step P T om ⟨known,HA⟩ (fun r aq=>put n om.dst aq r fun s=>s=⟨known,H'⟩)=Cq P T om ⟨known,HA⟩ fun r aq=>put n om.dst aq r fun s=>s=⟨known,H'⟩:=by
       unfold step; rw [fi]; rfl
      show step P T om ⟨known,HA⟩ _;rw [h3];unfold Cq;rw [No];exact h2
     refine uX (st:=⟨known,HA⟩) (K:=fun s=>s=⟨known,H'⟩) hT hn Bq ⟨F1,dh,g1,g2,yK,g3⟩ (fun st2 a2 w2 oG fx=>?_) acO;subst fx;obtain ⟨F2,bZ,q1,q2,q3,q4⟩:=oG;refine ih _ a2 w2 mQ lB (sf i om Bq fP) (.inr (.inl ⟨by rw [fC bm,if_pos rfl],fun j hj=>?_,abr (fun j o' hj aB ha=>by rw [fC bm]; split; rfl; exact Tu j o' hj aB ha) q1 q2 q4 fun t ht=>?_⟩))
     ·rw [fC bm,if_neg (by omega)]; exact gz j (by omega)
     ·have h1:=q3 t
      have:known t=fA t:=Uc t fun j o' hj aB bG=>by
       have:=ht j o' hj aB bG;rwa [fC bm,if_neg (by omega)] at this
      rw [←this]; exact h1
   ·-- Gc store is done
    by_cases pB:∀i,i<m→listed.getD i false=true
    ·refine XJ ⟨m+1,by omega,by have:=hp.lt; omega,fun i hi=>⟨fun h=>?_,fun h=>?_⟩,⟨fA,H'⟩,?_,hK⟩
     ·rcases gG m i with h1 | h1
      ·rw [gz i h1] at h; cases h
      ·omega
     ·rcases gG i m with h1 | h1
      ·exact pB i h1
      ·obtain rfl:i=m:=by omega
       exact Iu
     ·obtain ⟨F1,dh,g1,g2,g3,g6⟩:=Tt ju;exact ⟨F1,dh,g1,g2,fun t=>g6 t fun i o hi _ _=>pB i hi,g3⟩
    ·obtain ⟨i0,q9,ek,yr⟩:=least m pB
     have yF:i0<ops.size:=by have:=hp.lt; omega
     have c_:=isReady (gr yF) ek yr;refine ⟨fun h0=>(by rw [h0] at c_; cases c_),fun i hi=>?_⟩;obtain ⟨_,o,ho,_⟩:=mem_ready.1 hi;obtain ⟨dO,fP⟩:=rK hi ho;have gS:=LM ho fP;obtain ⟨mQ,lB⟩:=next i (lt ho) dO
     have bm:i<listed.size:=by rw [aZ]; exact lt ho
     have iC:i<m:=by
      rcases gG m i with h | h
      ·have:=gS i0 yF (hp.tail i i0 h (lt ho) (by omega));rw [this] at ek; cases ek
      ·rcases gG i m with h2 | h2
       ·exact h2
       ·obtain rfl:i=m:=by omega
        rw [Iu] at dO; cases dO
     obtain ⟨aR,acq⟩:dU o=none∧vA P T ops H' fA o:=by
      rcases hp.late i o iC ho with h | h
      ·have:=yu m hp.lt (fun o ho=>da m o Iu ho) i (by omega) h;rw [this] at dO; cases dO
      ·exact ⟨h.1,Ob Nb i o h.2 ho⟩
     refine MC hT hn hp.toPlan0.s aZ iC ho aR dO (fun j hj hd=>gS j (by have:=hp.lt; omega) hd) (fun _ _=>rfl) Ub acq (Φ o (BF iC ho aR)) ju fun a2 w2 hh=>?_;refine ih _ a2 w2 mQ lB (sf i o ho fP) (.inr (.inl ⟨?_,fun j hj=>?_,hh⟩))
     ·rw [fC bm]; split
      ·rfl
      ·exact Iu
     ·rw [fC bm,if_neg (by omega)]; exact gz j hj
   ·exact XJ rm
 have rep:∀i,(oc ops.size false).getD i false=false:=fun i=>by
  simp only [lf,YV];split <;> rfl
 refine key ops.size _ a w (by simp) (by simp) (fun i o hi=>by rw [rep] at hi; cases hi) (.inl ⟨fun i _=>rep i,F,av,Hm,hs,hd,fp,fun x=>⟨.inl,fun h=>?_⟩,fun i o d t hi ho aR _=>zb d (.inr ⟨t,jU.2 ⟨i,o,hi,ho,aR⟩⟩),fun t ht=>?_⟩)
 ·rcases h with h | ⟨i,o,d,t,z,h1,h2,_⟩
  ·exact h
  ·rw [rep] at h2; cases h2
 ·have bw:∀i o,i<m→ops[i]?=some o→o.dst≠some t:=fun i o hi ho bG=>by
   have:=ht i o hi ho bG;rw [rep] at this; cases this
  rw [D5 t fun j o' ty hj aB aR=>bw j o' hj aB (kD aR).1,lx t fun o ho=>by
   obtain ⟨i,hi,aB⟩:=oM.1 (eB.1 ho).1
   exact bw i o hi aB]
  show Rd _ _ _ (preB (ew m ops) (js (ew m ops) st).f t) _
  rw [Fm fun x hx=>by
   obtain ⟨j,o',hj,aB,aR⟩:=jU.1 hx
   exact bw j o' hj aB (kD aR).1]
  exact uu t
end
end
section
open Go.RowKit
variable [M:bK] [G:cL]
section
variable {P:Program} {T:TT} {w:World} {F:Nat→Prop} {β:Nat→Value}
def HI {st:ae} {w':World} {F':Nat→Prop} {d:Nat} {c:Chunk} {v:Value} (hd:d<1000) (hI:Inv w F β st.H) (hb:Below w.heap.size w w') (j9:∀b,F b→F' b) (um:∀b,F' b→fD F w w' b)
  (eP:∀b,bQ v=some b→w.heap.size≤b∧¬F' b) (hc:c.holds w' F' (fun i=>if i=d then v else β i) d) :
  Ext w F β st w' F' (fun i=>if i=d then v else β i) (gH st d c):=by
 have ah:∀i,i≠d→(fun i=>if i=d then v else β i) i=β i:=fun i hi=>if_neg hi;have ha:fZ F w w':=Below.agree hb hI.cC
 have du:∀b,bD (fun i=>if i=d then v else β i) ((d,c)::gR d st.H) b→(w.heap.size≤b∧¬F' b)∨bD β st.H b:=by
  rintro b ⟨i,c',hm,aK⟩
  rcases bj.1 hm with hm | hm
  ·cases hm;simp only [if_true] at aK;exact .inl (eP b aK)
  ·obtain ⟨hi,c2,h2,_⟩:=im hm;simp only [if_neg hi] at aK;exact .inr ⟨i,c2,h2,aK⟩
 refine ⟨hb.os,hb.tape,hb.output,hb.size,fun b h _=>hb.block b h,j9,fun b h=>(um b h).elim .inl fun h=>.inr (.inl h.1),fun b h=>(du b h).elim (fun h=>.inl h.1) .inr,fun t u h=>sx ah 2 (h.frame ha j9),?_,fun i hi=>ah i (by omega)⟩;refine ⟨fun b h=>(um b h).elim (fun h=>oe (hI.cC b h) hb.size) fun h=>h.2,?_,?_,fun b ho hF=>?_,?_,hI.fh.frame ha j9⟩
 ·intro i c' hm
  rcases bj.1 hm with hm | hm
  ·cases hm; exact hc
  ·obtain ⟨hi,c2,h2,rfl⟩:=im hm;exact Iz hi ah (pz ha j9 (fun b aK=>hb.block b (hI.fI ⟨i,c2,h2,aK⟩)) (hI.holds i c2 h2))
 ·show ((d::(gR d st.H).map (·.1))).Nodup;rw [iv];refine ⟨fun hm=>?_,DB hI.keys⟩;obtain ⟨x,hx,lE⟩:=dg.1 hm;obtain ⟨i,c'⟩:=x;exact (im hx).1 lE
 ·rcases du b ho with h | h
  ·exact h.2 hF
  ·rcases um b hF with h1 | h1
   ·exact hI.apart b h h1
   ·exact absurd (hI.fI h) (mg.2 h1.1)
 ·have key:∀i c' b,(i,c')∈gR d st.H→bQ (β i)=some b→bQ v=some b→False:=fun i c' b hm cO hv=>by
   obtain ⟨hi,c2,h2,_⟩:=im hm;exact absurd (hI.fI ⟨i,c2,h2,cO⟩) (mg.2 (eP b hv).1)
  intro i c1 i' pY b hm bV cO aK
  rcases bj.1 hm with hm | hm <;> rcases bj.1 bV with bV | bV
  ·cases hm; cases bV; rfl
  ·cases hm;simp only [if_true] at cO;simp only [if_neg (im bV).1] at aK;exact (key i' pY b bV aK cO).elim
  ·cases bV;simp only [if_true] at aK;simp only [if_neg (im hm).1] at cO;exact (key i c1 b hm cO aK).elim
  ·obtain ⟨hi,c2,h2,_⟩:=im hm;obtain ⟨bm,AA,iy,_⟩:=im bV;simp only [if_neg hi] at cO;simp only [if_neg bm] at aK;exact hI.eA i c2 i' AA b h2 iy cO aK
def i_ (P:Program) (g:FuncId) (args:List AV) (E K:Nat) (rows:List (List AV)):Prop :=
 pW P g∧∀(w:World) (F:Nat→Prop) (β:Nat→Value) (vs:Array Value),Inv w F β []→vs.size=args.length→(∀i,i<args.length→Rd w F β (args.getD i .χ) (vs.getD i undef)) →
  Calls P g vs w fun e w'=>∃v,e=.returned v∧Below w.heap.size w w'∧∃F',(∀b,F b→F' b)∧(∀b,F' b→fD F w w' b)∧Chunk.holds w' F' (fun _=>v) 0 (.own E K rows)∧(∃a n c,v=.slice a n c) ∧
   ∀b,bQ v=some b→w.heap.size≤b∧¬F' b
def Lg (E K:Nat) (rows:List (List AV)) (x:AV) (st:ae):Prop :=
 (x=.v (.slice none 0 0)∧rows=[])∨∃id,x=.o id∧dI id st.H=some (.own E K rows)
def Jj {id:Nat} {E K:Nat} {rows:List (List AV)} (h:Chunk.holds w F β id (.own E K rows)):∀(av:Nat→Value) (i:Nat),av i=β id→Chunk.holds w F av i (.own E K rows):=by
 intro av i hi;unfold Chunk.holds at *;rw [hi]; exact h
def af.own {g:FuncId} {xs ys:List AV} {st:ae} {E K D:Nat} {rows:List (List AV)} {k:AV→ae→Prop} (h:i_ P g ys E K rows) (hle:iL xs ys) (hD:eL D 1000=true) (hk:k (.o D) (gH st D (.own E K rows))):af P g xs st k:=by
 obtain ⟨hl,hz⟩:=hle.spec;refine ⟨h.1,fun w F β vs hI hs hv=>(h.2 w F β vs hI.nil (by omega) fun i hi=>hz i (by omega) _ _ _ _ (hv i (by omega))).mono ?_⟩;rintro e w' ⟨v,rfl,hb,F',h1,h2,h3,⟨a,m,c,rfl⟩,h4⟩;exact ⟨_,rfl,.o D,_,F',_,hk,.o (by simp),HI (by simpa using hD) hI hb h1 h2 h4 (Jj h3 _ _ (by simp))⟩
def i_.makes {g:FuncId} {args:List AV} {E K:Nat} {rows:List (List AV)} (h:i_ P g args E K rows):Li P g args (.own E K rows) :=
 ⟨h.1,fun w F β vs hI hs hv=>(h.2 w F β vs hI hs hv).mono fun e w'=>by
  rintro ⟨v,rfl,hb,F',hm,hn,hc,⟨a,n,c,rfl⟩,hf⟩
  exact ⟨_,rfl,hb,F',hm,hn,fun av i hi=>⟨Jj hc av i hi,.o hi⟩,hf⟩⟩
def i_.pure {g:FuncId} {args:List AV} {E K:Nat} {rows:List (List AV)} (h:i_ P g args E K rows):Pure P g args (.s rows):=by
 refine ⟨h.1,fun w F β vs hI hs hv=>(h.2 w F β vs hI hs hv).mono ?_⟩;rintro e w' ⟨v,rfl,hb,F',h1,h2,h3,⟨a,m,c,rfl⟩,h4⟩;refine ⟨_,rfl,hb,?_⟩
 rcases h3 with ⟨rfl,a',hv⟩ | ⟨g',cap,cur,hv,hc,hg,hn,gk,aZ,hK,hr⟩
 ·cases hv; exact .s0
 ·cases hv
  have h0:aH c 0=false:=by cases c <;> first | rfl | omega
  have gz:=(h4 g' (by simp [bQ,h0])).1;refine .s (off:=0) (k:=K) (u:=fun i j=>cur.getD (i*K+j) undef) (.inr ⟨gz,kE hg⟩) hn gk hK (fun i j hi hj=>?_) (fun i j hi hj=>(hr i j hi hj).1) fun i j hi hj=>(hr i j hi hj).2.frame (fun _ _=>rfl) h2;rw [jF,cell_of_row w' g' _ cur E (0,0) hg]
  have:i*K+j<cur.size:=by
   rw [aZ]
   calc i*K+j<i*K+K:=by omega
    _=(i+1)*K:=by rw [bO]; omega
    _≤c*K:=Nat.mul_le_mul_right _ (by omega)
  simp [this]
end
abbrev vi (n:Int):AV:=.v (.int .i64 n)
abbrev vb (b:Bool):AV:=.v (.bool b)
abbrev bs (l:List UInt8):AV:=.s (l.map lq)
def encI (n:Int):List AV:=[.v (.int .i64 n)]
abbrev is (l:List Int):AV:=.s (l.map encI)
def Fz.v' {H:Hp} {x y:Value} (h:x=y):Fz H (.v x) (.v y):=h▸Fz.v
def Fz.s' {H:Hp} {x y:List (List AV)} (h:x=y):Fz H (.s x) (.s y):=h▸Fz.s
def g_ {α:Type} {f:α→List AV} {n:Nat} (h:∀x,(f x).length=n) (l:List α):oW (l.map f) n:=fun r hr=>by
 obtain ⟨x,_,rfl⟩:=dg.1 hr;exact h x
end
section
open Go.ChangeShapes Go.WideShapes Go.RowKit
variable [M:bK] [G:cL]
mutual
inductive eU (P:Program):TypeId→List AV→Prop where
 | bool {t:TypeId} {b:Bool} (h:P.underlying t=some .bool):eU P t [.v (.bool b)]
 | int {t:TypeId} {k:IntKind} {n:Int} (h:P.underlying t=some (.int k)) (hn:(Lit.int k n).wf=true):eU P t [.v (.int k n)]
 | str {t:TypeId} {s:ByteArray} (h:P.underlying t=some .string) (hs:s.size≤maxLen):eU P t [.v (.string s)]
 | slice {t e:TypeId} {rows:List (List AV)} (h:P.underlying t=some (.slice e)) (hl:rows.length≤maxLen) (hk:∀r,r∈rows→r.length=P.cellsOf e) (hr:∀r,r∈rows→eU P e r):eU P t [.s rows]
 | struct {t:TypeId} {fs:Array Field} {xs:List AV} (h:P.underlying t=some (.struct fs)) (hf:mi P (fs.toList.map (·.type)) xs):eU P t xs
 | arr {t e:TypeId} {n:Nat} {xs:List AV} (h:P.underlying t=some (.array n e)) (hf:mi P (ic n e) xs):eU P t xs
inductive mi (P:Program):List TypeId→List AV→Prop where
 | nil:mi P [] []
 | cons {t:TypeId} {ts:List TypeId} {xs ys:List AV} (h:eU P t xs) (hs:mi P ts ys):mi P (t::ts) (xs++ys)
end
def qJ (P:Program) (t:TypeId) (x:AV):Prop :=
 match P.underlying t with
 | some (.struct _)=>∃cs,x=.a cs∧eU P t cs
 | some (.array _ _)=>∃cs,x=.a cs∧eU P t cs
 | _=>eU P t [x]
inductive oi (P:Program):List TypeId→List AV→Prop where
 | nil:oi P [] []
 | cons {t:TypeId} {ts:List TypeId} {x:AV} {xs:List AV} (h:qJ P t x) (hs:oi P ts xs):oi P (t::ts) (x::xs)
def qm (P:Program):Nat→TypeId→Bool
 | 0,_=>false
 | n+1,t=>match P.underlying t with
  | some .bool | some (.int _) | some .string=>true
  | some (.slice e)=>qm P n e&&eL 0 (P.cellsOf e)
  | some (.struct fs)=>fs.toList.all fun f=>qm P n f.type
  | some (.array _ e)=>qm P n e
  | _=>false
def jH (P:Program) (t:TypeId):Prop:=t<P.types.size∧∃n,qm P n t=true
def jH.slice {P:Program} (hl:laidOutB P=true) {t e:TypeId} (h:jH P t) (hu:P.underlying t=some (.slice e)):jH P e∧0<P.cellsOf e:=by
 obtain ⟨ht,n,hn⟩:=h;cases n with
 | zero=>cases hn
 | succ n =>
  simp only [qm,hu,bJ,gF] at hn;exact ⟨⟨kid_slice hl ht hu,n,hn.1⟩,hn.2⟩
def jH.struct {P:Program} (hl:laidOutB P=true) {t:TypeId} {fs:Array Field} (h:jH P t) (hu:P.underlying t=some (.struct fs)) :
  (∀f∈fs.toList,jH P f.type)∧P.cellsOf t=(fs.toList.map fun f=>P.cellsOf f.type).sum∧∀(j:Nat) f,fs.toList[j]?=some f→f.offset=((fs.toList.take j).map fun f=>P.cellsOf f.type).sum:=by
 obtain ⟨ht,n,hn⟩:=h;obtain ⟨h1,h2,h3⟩:=kid_struct hl ht hu;refine ⟨fun f hf=>⟨h1 f hf,?_⟩,h2,h3⟩;cases n with
 | zero=>cases hn
 | succ n =>
  simp only [qm,hu,ej] at hn;exact ⟨n,hn f hf⟩
def jH.array {P:Program} (hl:laidOutB P=true) {t e:TypeId} {k:Nat} (h:jH P t) (hu:P.underlying t=some (.array k e)):jH P e∧P.cellsOf t=k*P.cellsOf e:=by
 obtain ⟨ht,n,hn⟩:=h;obtain ⟨h1,h2⟩:=kid_array hl ht hu;cases n with
 | zero=>cases hn
 | succ n =>
  simp only [qm,hu] at hn;exact ⟨⟨h1,n,hn⟩,h2⟩
def jH.no {P:Program} {t:TypeId} (h:jH P t):(∀e,P.underlying t≠some (.pointer e))∧(∀k e,P.underlying t≠some (.map k e)):=by
 obtain ⟨_,n,hn⟩:=h;cases n with
 | zero=>cases hn
 | succ n=>refine ⟨fun e he=>?_,fun k e he=>?_⟩ <;> simp [qm,he] at hn
def afW {P:Program} (hl:laidOutB P=true):Kids P (jH P) :=
 ⟨fun h hu=>(h.no.1 _ hu).elim,fun h hu=>(h.slice hl hu).1,fun h hu=>h.array hl hu,fun h hu=>h.struct hl hu,fun h hu=>(h.no.2 _ _ hu).elim⟩
section
variable {H:Type} {enc:TypeId×Value→H} {P:Program} {w:World} {base:Nat} {held:Bool}
abbrev Old (w:World):Nat→Prop:=fun b=>b<w.heap.size
structure Good (P:Program) (w:World) (D:List AV→Prop) (cs:List Value) (xs:List AV):Prop where
 len:xs.length=cs.length
 x_:D xs
 rd:∀i,i<cs.length→bf w (Old w) (xs.getD i .χ) (cs.getD i undef)∧(cs.getD i undef).oneCell'=true
def Good.one {D:List AV→Prop} {x:AV} {v:Value} (hd:D [x]) (hr:bf w (Old w) x v) (h1:v.oneCell'=true):Good P w D [v] [x] :=
 ⟨rfl,hd,fun i hi=>by
  have:i=0:=by simpa using hi
  subst this; exact ⟨hr,h1⟩⟩
def Good.app {t:TypeId} {ts:List TypeId} {a b:List Value} {xs ys:List AV} (h:Good P w (eU P t) a xs) (h':Good P w (mi P ts) b ys):Good P w (mi P (t::ts)) (a++b) (xs++ys):=by
 refine ⟨by simp [h.len,h'.len],.cons h.x_ h'.x_,fun i hi=>?_⟩;by_cases Φ:i<a.length
 ·have e1:(xs++ys).getD i .χ=xs.getD i .χ:=by simp [aY,gC,h.len,Φ]
  have e2:(a++b).getD i undef=a.getD i undef:=by simp [aY,gC,Φ]
  rw [e1,e2]; exact h.rd i Φ
 ·have e1:(xs++ys).getD i .χ=ys.getD (i-a.length) .χ:=by simp [aY,gC,h.len,Φ]
  have e2:(a++b).getD i undef=b.getD (i-a.length) undef:=by simp [aY,gC,Φ]
  rw [e1,e2];exact h'.rd _ (by rw [List.length_append] at hi; omega)
def Tb {r:TypeId→List Value→Option (DataW H×List MemPlace)} (hr:∀t cs x,jH P t→r t cs=some x→∃xs,Good P w (eU P t) cs xs) :
  ∀(fs:List Field) (o:Nat) (cs:List Value),(∀f,f∈fs→jH P f.type)→(∀(j:Nat) f,fs[j]?=some f→f.offset=o+((fs.take j).map fun f=>P.cellsOf f.type).sum)→cs.length=o+(fs.map fun f=>P.cellsOf f.type).sum →
   (∀f,f∈fs→∃x,r f.type ((cs.drop f.offset).take (P.cellsOf f.type))=some x)→∃xs,Good P w (mi P (fs.map (·.type))) (cs.drop o) xs
 | [],o,cs,_,_,hl,_=>by
  have:cs.drop o=[]:=qC (by simp at hl; omega);rw [this];exact ⟨[],rfl,.nil,fun i hi=>by simp at hi⟩
 | f::fs,o,cs,hp,ho,hl,hx=>by
  have h0:f.offset=o:=by simpa using ho 0 f rfl
  obtain ⟨x,NS⟩:=hx f (by simp);obtain ⟨xs,hg⟩:=hr _ _ _ (hp f (by simp)) NS;rw [h0] at hg
  obtain ⟨ys,A9⟩:=Tb hr fs (o+P.cellsOf f.type) cs (fun g hg=>hp g (by simp [hg])) (fun j g hg=>by
   have:=ho (j+1) g (by simpa using hg)
   rw [this]; simp; omega) (by simp at hl; omega) (fun g hg=>hx g (by simp [hg]))
  refine ⟨xs++ys,?_⟩
  have e:cs.drop o=(cs.drop o).take (P.cellsOf f.type)++cs.drop (o+P.cellsOf f.type):=by
   rw [←alr,xp]
  rw [e];exact hg.app A9
def I3 {α β:Type} {f:α→Option β} {l:List α} {r:List β} (h:l.mapM f=some r) {x:α} (hx:x∈l):∃y,f x=some y:=by
 cases hf:f x with
 | none=>rw [mapM_none_of hx hf] at h; cases h
 | some y=>exact ⟨y,rfl⟩
def Ta {r:TypeId→List Value→Option (DataW H×List MemPlace)} (hr:∀t cs x,jH P t→r t cs=some x→∃xs,Good P w (eU P t) cs xs) {e:TypeId} (he:jH P e) :
  ∀(n o:Nat) (cs:List Value),cs.length=o+n*P.cellsOf e→(∀i,i<n→∃x,r e ((cs.drop (o+i*P.cellsOf e)).take (P.cellsOf e))=some x)→∃xs,Good P w (mi P (ic n e)) (cs.drop o) xs
 | 0,o,cs,hl,_=>by
  have:cs.drop o=[]:=qC (by simp at hl; omega);rw [this];exact ⟨[],rfl,.nil,fun i hi=>by simp at hi⟩
 | n+1,o,cs,hl,hx=>by
  obtain ⟨x,NS⟩:=hx 0 (Nat.succ_pos n);obtain ⟨xs,hg⟩:=hr _ _ _ he NS;rw [Nat.zero_mul,Nat.add_zero] at hg
  obtain ⟨ys,A9⟩:=Ta hr he n (o+P.cellsOf e) cs (by rw [hl,bO]; omega) (fun i hi=>by
   have:=hx (i+1) (by omega)
   rwa [bO,Nat.one_mul,show o+(i*P.cellsOf e+P.cellsOf e)=o+P.cellsOf e+i*P.cellsOf e by omega] at this)
  refine ⟨xs++ys,?_⟩
  have e0:cs.drop o=(cs.drop o).take (P.cellsOf e)++cs.drop (o+P.cellsOf e):=by
   rw [←alr,xp]
  rw [e0,List.replicate_succ];exact hg.app A9
def abl {t e:TypeId} {a:Addr} {len cap:Nat} (hu:P.underlying t=some (.slice e)) (hk:0<P.cellsOf e) (nJ:len≤cap) (nE:cap≤maxLen)
  (h:∀i,i<cap→∃ci,w.cells? base (a.add (i*P.cellsOf e)) (P.cellsOf e)=some ci∧∃xs,Good P w (eU P e) ci xs):∃xs,Good P w (eU P t) [.slice (some a) len cap] xs:=by
 by_cases hc:cap=0
 ·obtain rfl:len=0:=by omega
  subst hc;exact ⟨_,Good.one (.slice (rows:=[]) hu (Nat.zero_le _) (fun _ h=>by cases h) (fun _ h=>by cases h)) .s0 rfl⟩
 ·obtain ⟨f,hf⟩:=Classical.axiomOfChoice (r:=fun i (p:List Value×List AV)=>i<cap→w.cells? base (a.add (i*P.cellsOf e)) (P.cellsOf e)=some p.1∧Good P w (eU P e) p.1 p.2) (fun i=>by
   by_cases hi:i<cap
   ·obtain ⟨ci,h1,xs,h2⟩:=h i hi;exact ⟨(ci,xs),fun _=>⟨h1,h2⟩⟩
   ·exact ⟨([],[]),fun h=>(hi h).elim⟩)
  obtain ⟨b,off,sp⟩:=a
  have c0:∃v,w.cell? ⟨b,off,sp⟩=some v:=by
   obtain ⟨_,hlen,hc⟩:=Rn (hf 0 (by omega)).1;have:=hc 0 hk;rw [bT (by omega)] at this;refine ⟨_,Eq.trans ?_ this⟩;simp [Addr.add]
  obtain ⟨v0,c0⟩:=c0;obtain rfl:sp=none:=World.cell?_spot c0
  have cell:∀i j,i<cap→j<P.cellsOf e→w.cell? ⟨b,off+(i*P.cellsOf e+j),none⟩=some ((f i).1.getD j undef):=fun i j hi hj=>by
   obtain ⟨_,hlen,hc⟩:=Rn (hf i hi).1;have:=hc j hj;rw [bT (by omega)] at this;simp only [aY,bT (show j<(f i).1.length by omega),Option.getD_some];rw [←this];congr 1;unfold Addr.add;by_cases h1:i*P.cellsOf e=0 <;> by_cases h2:j=0 <;> simp [h1,h2,Nat.add_assoc]
  have hb:b<w.heap.size:=by
   unfold World.cell? at c0;split at c0
   ·rename_i he; exact kE he
   ·cases c0
  have Io:∀i,i<cap→(f i).2.length=P.cellsOf e∧(f i).1.length=P.cellsOf e:=fun i hi=>by
   obtain ⟨_,hlen,_⟩:=Rn (hf i hi).1;exact ⟨(hf i hi).2.len.trans hlen,hlen⟩
  have hlen:((gu len).map fun i=>(f i).2).length=len:=by simp
  have get:∀i,i<len→((gu len).map fun i=>(f i).2).getD i []=(f i).2:=fun i hi=>by simp [aY,hi]
  have mem:∀r,r∈((gu len).map fun i=>(f i).2)→∃i,i<len∧r=(f i).2:=fun r hr=>by
   obtain ⟨i,hi,rfl⟩:=dg.1 hr;exact ⟨i,me.1 hi,rfl⟩
  refine ⟨[.s ((gu len).map fun i=>(f i).2)],Good.one (.slice hu (by rw [hlen]; omega) (fun r hr=>?_) (fun r hr=>?_)) ?_ rfl⟩
  ·obtain ⟨i,hi,rfl⟩:=mem r hr;exact (Io i (by omega)).1
  ·obtain ⟨i,hi,rfl⟩:=mem r hr;exact (hf i (by omega)).2.x_
  ·have:=bf.s (w:=w) (F:=Old w) (rows:=(gu len).map fun i=>(f i).2) (b:=b) (off:=off) (c:=cap) (k:=P.cellsOf e) (u:=fun i j=>(f i).1.getD j undef) hb (by rw [hlen]; exact nJ) nE
    (fun i hi=>by rw [hlen] at hi; rw [get i hi]; exact (Io i (by omega)).1)
    (fun i j hi hj=>cell i j (by rw [hlen] at hi; omega) hj)
    (fun i j hi hj=>by rw [hlen] at hi; exact ((hf i (by omega)).2.rd j (by rw [(Io i (by omega)).2]; exact hj)).2)
    (fun i j hi hj=>by rw [hlen] at hi; rw [get i hi]; exact ((hf i (by omega)).2.rd j (by rw [(Io i (by omega)).2]; exact hj)).1)
   rwa [hlen] at this
def abm (hl:laidOutB P=true):∀(n:Nat) (t:TypeId) (cs:List Value) (x:DataW H×List MemPlace),jH P t →
  CX enc P w base (fun _=>true) held n t cs=some x→∃xs,Good P w (eU P t) cs xs:=by
 intro n;induction n with
 | zero=>intro t cs x _ h; simp [CX] at h
 | succ n ih =>
  intro t cs x hp h;have gA:=hp;obtain ⟨ht,m,hm⟩:=gA;cases m with
  | zero=>cases hm
  | succ m =>
   cases hu:P.underlying t with
   | none=>simp [qm,hu] at hm
   | some d =>
    cases d with
    | bool =>
     simp only [CX,hu] at h;split at h <;> simp_all;exact ⟨_,Good.one (.bool hu) (.v (.inl rfl)) rfl⟩
    | int k =>
     simp only [CX,hu] at h;split at h <;> simp_all;obtain ⟨⟨rfl,hw⟩,_⟩:=h;exact ⟨_,Good.one (.int hu hw) (.v (.inl rfl)) rfl⟩
    | string =>
     simp only [CX,hu] at h;split at h <;> simp_all;exact ⟨_,Good.one (.str hu h.1) (.v (.inl rfl)) rfl⟩
    | slice e =>
     obtain ⟨he,hk⟩:=hp.slice hl hu;rw [QM] at h;unfold QL at h;rw [hu] at h;split at h
     case h_7=>exact ⟨_,Good.one (.slice (rows:=[]) hu (Nat.zero_le _) (fun _ h=>by cases h) (fun _ h=>by cases h)) .s0 rfl⟩
     case h_8 e' a len cap e1 =>
      cases e1;simp only at h;split at h
      case isFalse=>cases h
      case isTrue hb =>
      obtain ⟨_,nJ,nE⟩:=hb;cases Ih:List.mapM (fun i=>(w.cells? base (a.add (i*P.cellsOf e)) (P.cellsOf e)).bind (CX enc P w base (fun x=>true) held n e)) (gu len) with
      | none=>rw [Ih] at h; cases h
      | some elems =>
      rw [Ih] at h;simp only [cD,if_true,C9] at h;obtain ⟨rest,nK,_⟩:=h
      exact abl hu hk nJ nE fun i hi=>by
       by_cases sL:i<len
       ·obtain ⟨y,hy⟩:=I3 Ih (me.2 sL);obtain ⟨ci,hc,hy⟩:=Zv.1 hy;exact ⟨ci,hc,ih _ _ _ he hy⟩
       ·obtain ⟨y,hy⟩:=I3 nK (me.2 (show i-len<cap-len by omega));rw [show len+(i-len)=i by omega] at hy;obtain ⟨ci,hc,hy⟩:=Zv.1 hy;exact ⟨ci,hc,ih _ _ _ he hy⟩
     all_goals first | (rename_i e1; cases e1; done) | (rename_i e1 _; cases e1; done) | cases h
    | struct fs =>
     obtain ⟨h1,h2,h3⟩:=hp.struct hl hu;rw [QM] at h;unfold QL at h;rw [hu] at h;simp only at h;split at h
     case isFalse=>cases h
     case isTrue fX =>
     obtain ⟨l,jv,_⟩:=C9.1 h;obtain ⟨xs,hg⟩:=Tb (fun t cs x=>ih t cs x) fs.toList 0 cs h1 (fun j f hf=>by rw [jF]; exact h3 j f hf) (by rw [jF,←h2]; exact fX)
      fun f hf=>I3 jv hf
     exact ⟨xs,hg.len,.struct hu hg.x_,hg.rd⟩
    | array k e =>
     obtain ⟨he,hc⟩:=hp.array hl hu;rw [QM] at h;unfold QL at h;rw [hu] at h;simp only at h;split at h
     case isFalse=>cases h
     case isTrue fX =>
     obtain ⟨l,jv,_⟩:=C9.1 h;obtain ⟨xs,hg⟩:=Ta (fun t cs x=>ih t cs x) he k 0 cs (by rw [jF,←hc]; exact fX)
      fun i hi=>by rw [jF]; exact I3 jv (me.2 hi)
     exact ⟨xs,hg.len,.arr hu hg.x_,hg.rd⟩
    | _=>simp [qm,hu] at hm
def aak (hl:laidOutB P=true) {t:TypeId} {v:Value} {d:DataW H} {p:List MemPlace} {b0:Nat} (hp:jH P t) (bW:Db P w .any b0 t v) (h:DataW.Trod enc P w base (fun _=>true) held t v d p) :
  ∃x,qJ P t x∧bf w (Old w) x v:=by
 obtain ⟨n,hn⟩:=h;obtain ⟨xs,hg⟩:=abm hl n t _ _ hp hn;by_cases hs:(∃fs,P.underlying t=some (.struct fs))∨∃n e,P.underlying t=some (.array n e)
 ·have fX:∃cs,v=.agg cs:=by
   rcases hs with ⟨fs,hu⟩ | ⟨k,e,hu⟩
   ·simp only [Db,hu] at bW;obtain ⟨cs,rfl,_,_⟩:=bW;exact ⟨cs,rfl⟩
   ·simp only [Db,hu] at bW;obtain ⟨cs,rfl,_,_⟩:=bW;exact ⟨cs,rfl⟩
  obtain ⟨cs,rfl⟩:=fX
  have da:cs.toList.length=cs.size:=by simp
  have get:∀i,cs.getD i undef=cs.toList.getD i undef:=fun i=>by simp [lf,aY]
  refine ⟨.a xs,?_,.a (by rw [hg.len]; simp [Value.cells]) (fun i hi=>?_) fun i hi=>?_⟩
  ·rcases hs with ⟨fs,hu⟩ | ⟨k,e,hu⟩
   iterate 2 (simp only [qJ,hu]; exact ⟨xs,rfl,hg.x_⟩)
  ·rw [get]; exact (hg.rd i (by rw [←hg.len]; exact hi)).2
  ·rw [get]; exact (hg.rd i (by rw [←hg.len]; exact hi)).1
 ·have eM:v.cells.toList=[v]:=by
   cases v with
   | agg cs =>
    have ha:∀fs,P.underlying t≠some (.struct fs):=fun fs he=>hs (.inl ⟨fs,he⟩);have hb:∀n e,P.underlying t≠some (.array n e):=fun n e he=>hs (.inr ⟨n,e,he⟩);unfold Db at bW;split at bW
    ·rename_i he; exact (ha _ he).elim
    ·rename_i he; exact (hb _ _ he).elim
    ·unfold Cell.okWide at bW
     split at bW <;> first | contradiction | (unfold Cell.ok at bW; split at bW <;> first | contradiction | cases bW)
   | _=>rfl
  rw [eM] at hg
  obtain ⟨x,rfl⟩:∃x,xs=[x]:=by
   have:=hg.len
   match xs,this with
   | [x],_=>exact ⟨x,rfl⟩
  refine ⟨x,?_,(hg.rd 0 (by simp)).1⟩;unfold qJ;split
  ·rename_i he; exact (hs (.inl ⟨_,he⟩)).elim
  ·rename_i he; exact (hs (.inr ⟨_,_,he⟩)).elim
  ·exact hg.x_
def Sa (hl:laidOutB P=true):∀{ts:List TypeId} {vs:List Value} {ds:List (DataW H)} {ps:List MemPlace},KN enc P w base (fun _=>true) held ts vs ds ps→(∀t,t∈ts→jH P t) →
  (∀(j:Nat) t v,ts[j]?=some t→vs[j]?=some v→Db P w .any base t v) →
  ∃xs,oi P ts xs∧xs.length=vs.length∧∀i,i<xs.length→bf w (Old w) (xs.getD i .χ) (vs.getD i undef)
 | [],vs,ds,ps,h,_,_=>by
  obtain ⟨rfl,rfl,rfl⟩:=trodAll_nil h;exact ⟨[],.nil,rfl,fun i hi=>by simp at hi⟩
 | t::ts,vs,ds,ps,h,hp,bW=>by
  obtain ⟨v,X8,d,Ss,p,q,rfl,rfl,rfl,h1,h2⟩:=trodAll_cons h;obtain ⟨x,hx,hr⟩:=aak hl (hp t (by simp)) (bW 0 t v rfl rfl) h1;obtain ⟨xs,nP,hlen,lC⟩:=Sa hl h2 (fun t ht=>hp t (by simp [ht])) fun j t v ht hv=>bW (j+1) t v (by simpa using ht) (by simpa using hv);refine ⟨x::xs,.cons hx nP,by simp [hlen],fun i hi=>?_⟩;cases i with
  | zero=>simpa using hr
  | succ i=>simpa using lC i (by simpa using hi)
def XS {w':World} (hl:laidOutB P=true) (hb:Below w.heap.size w w') {sp:Nat→Bool}:∀{ts:List TypeId} {vs:List Value} {ds:List (DataW H)} {ps:List MemPlace},
  KN enc P w 0 (fun _=>true) true ts vs ds ps→(∀t,t∈ts→jH P t)→(∀p,p∈ps→sp p.block=true)→KN enc P w' 0 sp true ts vs ds ps
 | [],vs,ds,ps,h,_,_=>by
  obtain ⟨rfl,rfl,rfl⟩:=trodAll_nil h;exact rfl
 | t::ts,vs,ds,ps,h,hp,hs=>by
  have Φ:=h.lt;obtain ⟨v,X8,d,Ss,p,q,rfl,rfl,rfl,⟨n,h1⟩,h2⟩:=trodAll_cons h;refine ⟨p,q,⟨n,?_⟩,XS hl hb h2 (fun t ht=>hp t (by simp [ht])) fun p gA=>hs p (by simp [gA]),rfl⟩;refine DataW.trod_stays (afW hl) (fun hT hu=>(hT.slice hl hu).2) (fun hf=>by cases hf) (hp t (by simp)) h1 (fun p' gA=>?_) fun p' gA=>hs p' (by simp [gA]);have aK:=hb.block p'.block (Φ p' (by simp [gA]));cases p' with
  | cell b off=>exact World.cell?_of_block (w:=w) aK
  | map b=>exact aK
def adw {w':World} (hb:Below w.heap.size w w') (may:MemPlace→Prop):w.keptBut w' may:=by
 refine ⟨hb.os,hb.output,fun i hi=>?_⟩;rw [hb.block i hi];cases w.heap[i]? with
 | none=>rfl
 | some o=>cases o <;> simp
def adD {C:Checked} {f:FuncId} {fn:Func} {s:ChangeSpec} {tb:TypeId} {W:World} {base:Nat} {args:Array Value} {ds gs:List (DataW H)} {before:List MemPlace} (hl:laidOutB C.prog=true)
  (hv:s.vars=[]) (hs:∀ds:List (DataW H),ds.length=fn.params.toList.length→s.fn H ds={ results:=[.lit (.bool true)],args:=ds })
  (hr:fn.resultTypes=#[tb]) (NH:C.prog.underlying tb=some .bool) (yY:fn.params.toList.all (fun t=>eL t C.prog.types.size&&qm C.prog 12 t)=true)
  (uv:cL.ok W (Old W)) (h:∀xs,oi C.prog fn.params.toList xs→Pure C.prog f xs (.v (.bool true)))
  (NO:∀(j:Nat) t v,fn.params[j]?=some t→args[j]?=some v→Db C.prog W .any base t v)
  (hW:DataW.Whole enc C.prog fn.params.toList s.vars false W args.toList ds gs before) :
  Calls C.prog f args W fun e W'=>∃v,e=.returned v∧s.post enc C.prog fn false true false false W args v W':=by
 have Tn:=hW;obtain ⟨p,q,hA,hV,rfl,hfz,dJ⟩:=hW
 have Ux:∀t,t∈fn.params.toList→jH C.prog t:=fun t ht=>by
  have:=ej.1 yY t ht;simp only [bJ,gF] at this;exact ⟨this.1,_,this.2⟩
 rw [hv] at hV;obtain ⟨rfl,rfl⟩:=trodVars_none hV;obtain ⟨xs,nP,hlen,fy⟩:=Sa hl hA Ux fun j t v ht hv=>Value.okWide_any_base (NO j t v (by simpa using ht) (by simpa using hv));have hI:Inv W (Old W) (fun _=>undef) [] :=
  ⟨fun _ h=>h,fun _ _ hm=>(eH hm).elim,qG,fun _ ⟨_,_,hm,_⟩=>(eH hm).elim,fun _ _ _ _ _ hm=>(eH hm).elim,uv⟩
 refine ((h xs nP).2 W (Old W) (fun _=>undef) args hI (by rw [hlen]; simp) fun i hi=>.i ?_).mono ?_
 ·have:=fy i hi
  have e:args.getD i undef=args.toList.getD i undef:=by simp [lf,aY]
  rw [e]; exact this
 rintro e W' ⟨v,rfl,hb,hx⟩;cases hx
 have Eh:ds.length=fn.params.toList.length:=by
  have:∀{ts:List TypeId} {vs:List Value} {ds:List (DataW H)} {ps:List MemPlace},KN enc C.prog W 0 (fun _=>true) true ts vs ds ps→ds.length=ts.length:=by
   intro ts;induction ts with
   | nil=>intro vs ds ps h; obtain ⟨rfl,rfl,rfl⟩:=trodAll_nil h; rfl
   | cons t ts ih=>intro vs ds ps h; obtain ⟨v,X8,d,Ss,p,q,rfl,rfl,rfl,h1,h2⟩:=trodAll_cons h; simp [ih h2]
  exact this hA
 have hold:∀q,q∈p→(fun b=>decide (b<W.heap.size)) q.block=true:=fun q hq=>by simpa using Tn.lt q (by simp [hq])
 refine ⟨_,rfl,ds,[],p++[],[],p,[],Tn,?_,?_,?_,adw hb _,fun h=>by cases h⟩
 ·rw [xk,hs ds Eh,hr];exact trodAll_mk1 (shut_bool NH true)
 ·rw [xk,hs ds Eh];exact XS hl hb hA Ux hold
 ·rw [xk,hs ds Eh,hv];exact rfl
def aaa {w:World} {a:Addr} {v:Value} (h:w.cell? a=some v):a.block<w.heap.size:=by
 refine Nat.lt_of_not_le fun hle=>?_
 have:w.heap[a.block]?=none:=by simpa using hle
 simp [World.cell?,this] at h
def adE {C:Checked} {os:Os} {f:FuncId} {fn:Func} {s:ChangeSpec} {tb:TypeId} {X:World→Prop} (hX:∀w w':World,w.heap=w'.heap→X w→X w') (hl:laidOutB C.prog=true) (own:ownKnob C.prog.godebug=none) (started:os.Started) (aeb:C.prog.inits.idxOf? f=none) (dF:C.prog.funcs[f]?=some fn)
  (witness:∃(w:World) (tape:Tape) (i:Input),w.os=os∧(w.forCall tape i).Shaped C.prog∧i.vars=[]∧Input.okWide C.prog (w.forCall tape i) .any w.heap.size f i ∧
   ((s.pre enc C.prog fn [] false (w.forCall tape i).memory i.args∧X (w.forCall tape i).memory)∧sizedMet enc C.prog fn (Zt s) false (w.forCall tape i).memory i.args)∧({}:Assume).holds C.prog (lone (Frame.enter C.prog f i.args .normal) [] (w.forCall tape i)))
  (hv:s.vars=[]) (hs:∀ds:List (DataW H),ds.length=fn.params.toList.length→s.fn H ds={ results:=[.lit (.bool true)],args:=ds })
  (hr:fn.resultTypes=#[tb]) (NH:C.prog.underlying tb=some .bool) (yY:fn.params.toList.all (fun t=>eL t C.prog.types.size&&qm C.prog 12 t)=true)
  (uv:∀W:World,X W→cL.ok W (Old W)) (h:∀xs,oi C.prog fn.params.toList xs→Pure C.prog f xs (.v (.bool true))) :
  ReturnsInHanded {} C os f .any (fun w args=>(s.pre enc C.prog fn [] false w args∧X w)∧sizedMet enc C.prog fn (Zt s) false w args) (s.post enc C.prog fn false true false false):=by
 refine returnsInHanded_of_change_and (C:=C) (X:=fun w _=>X w) (fun w w' _ hh hx=>hX w w' hh hx) own started aeb dF witness ?_;intro W base args ds gs before NO hW _ _ hx _;exact adD hl hv hs hr NH yY (uv W hx) h NO hW
end
end
section
open Go.RowKit
variable [M:bK] [G:cL]
section
variable {P:Program} {T:TT} {w:World} {F:Nat→Prop} {β:Nat→Value}
def mr (P:Program) (g:FuncId) (args:List AV) (c:Chunk) (R:AV→Chunk→Prop):Prop :=
 pW P g∧∀(w:World) (F:Nat→Prop) (β:Nat→Value) (vs:Array Value),Inv w F β [(1000,c)]→vs.size=args.length →
  (∀i,i<args.length→Rd w F β (args.getD i .χ) (vs.getD i undef)) →
  Calls P g vs w fun e w'=>∃v,e=.returned v∧∃r c' F',R r c'∧bf w' F' r v∧w'.os=w.os∧jm w w'∧w'.output=w.output∧w.heap.size≤w'.heap.size ∧
   (∀b,b<w.heap.size→bQ (β 1000)≠some b→w'.heap[b]?=w.heap[b]?)∧(∀b,F b→F' b)∧(∀b,F' b→fD F w w' b)∧AH c'=true∧c'.holds w' F' β 1000
def ZG (R:AV→Chunk→Prop) (x:AV) (st:ae):Prop:=∃r c',R r c'∧dI 1000 st.H=some c'∧AH c'=true∧Fz (ow 1000 st.H) x r
def Lr (id:Nat) (x y:AV):Prop:=∀(w:World) (F:Nat→Prop) (β av:Nat→Value) (u:Value),av 1000=β id→Rd w F β x u→Rd w F av y u
inductive xD (id:Nat):List AV→List AV→Prop where
 | nil:xD id [] []
 | cons {x y:AV} {xs ys:List AV} (h:Lr id x y) (t:xD id xs ys):xD id (x::xs) (y::ys)
def xD.spec {id:Nat} {xs ys:List AV} (h:xD id xs ys):xs.length=ys.length∧∀i,i<xs.length→Lr id (xs.getD i .χ) (ys.getD i .χ):=by
 induction h with
 | nil=>exact ⟨rfl,fun i hi=>by simp at hi⟩
 | cons h t ih =>
  refine ⟨by simp [ih.1],fun i hi=>?_⟩;cases i with
  | zero=>simpa using h
  | succ i=>simpa using ih.2 i (by simpa using hi)
def Lr.dG {id:Nat} {x:AV} (h:kb x=true):Lr id x x:=fun _ _ _ _ _ _ hr=>.i (IM h hr)
def Lr.nil {id:Nat}:Lr id (.v (.slice none 0 0)) (.s []):=fun _ _ _ _ _ _ hr=>by rw [hr.bL]; exact .i .s0
def Lr.b {id off:Nat}:Lr id (.b id off) (.b 1000 off):=fun _ _ _ _ _ ah hr=>by
 obtain ⟨eV,h1,rfl⟩:=hr.mz; exact .b (ah.trans h1)
def Lr.o {id:Nat}:Lr id (.o id) (.o 1000):=fun _ _ _ _ _ ah hr=>by
 obtain ⟨a,n,c,h1,rfl⟩:=hr.jW; exact .o (ah.trans h1)
def af.chg {g:FuncId} {id:Nat} {xs ys:List AV} {st:ae} {c:Chunk} {R:AV→Chunk→Prop} {k:AV→ae→Prop} (h:mr P g ys c R) (hc:dI id st.H=some c) (gU:AH c=true) (hle:xD id xs ys)
  (hk:∀r c',R r c'→k r ⟨st.f,fJ id c' st.H⟩):af P g xs st k:=by
 obtain ⟨hl,hz⟩:=hle.spec;have hm:=eX hc;refine ⟨h.1,fun w F β vs hI hs hv=>?_⟩;let dh:Nat→Value:=fun i=>if i=1000 then β id else undef;have cO:dh 1000=β id:=if_pos rfl
 have uo:Inv w F dh [(1000,c)]:=by
  refine ⟨hI.cC,fun i c' bV=>?_,by simp,fun b ⟨i,c',bV,hb⟩=>?_,fun i c1 i' pY b h1 h2 _ _=>?_,hI.fh⟩
  ·simp only [dD,ig] at bV;obtain ⟨rfl,rfl⟩:=bV;exact pA gU (fun _ h=>h) cO (hI.holds _ _ hm)
  ·simp only [dD,ig] at bV;obtain ⟨rfl,rfl⟩:=bV;rw [cO] at hb;exact hI.apart b ⟨id,c',hm,hb⟩
  ·simp only [dD,ig] at h1 h2;rw [h1.1,h2.1]
 refine (h.2 w F dh vs uo (by omega) fun i hi=>hz i (by omega) w F β dh _ cO (hv i (by omega))).mono ?_;rintro e w' ⟨v,rfl,r,c',F',hR,hr,uF,NI,sQ,aZ,hblk,j9,eP,M5,fO⟩;rw [cO] at hblk
 have du:∀b,bD β (fJ id c' st.H) b→bD β st.H b:=by
  rintro b ⟨i,c2,h,hb⟩
  rcases mY h with ⟨rfl,_,c3,h3⟩ | ⟨_,h3⟩
  ·exact ⟨i,c3,h3,hb⟩
  ·exact ⟨i,c2,h3,hb⟩
 have MH:∀b,F b→w'.heap[b]?=w.heap[b]?:=fun b hb=>hblk b (hI.cC b hb) fun he=>hI.apart b ⟨id,c,hm,he⟩ hb;refine ⟨v,rfl,r,_,F',β,hk r c' hR,.i hr,⟨uF,NI,sQ,aZ,fun b hb bw=>hblk b hb fun he=>bw ⟨id,c,hm,he⟩,j9,fun b hb=>(eP b hb).elim .inl fun h=>.inr (.inl h.1),fun b hb=>.inr (du b hb),fun t u hu=>hu.frame MH j9,?_,fun _ _=>rfl⟩⟩;refine ⟨fun b hb=>(eP b hb).elim (fun h=>oe (hI.cC b h) aZ) fun h=>h.2,fun i c2 h=>?_,by rw [zS]; exact hI.keys,fun b ho hF=>?_,fun i c1 i' pY b h h' hb aK=>?_,hI.fh.frame MH j9⟩
 ·rcases mY h with ⟨rfl,rfl,_⟩ | ⟨hi,h2⟩
  ·exact pA M5 (fun _ h=>h) cO.symm fO
  ·exact pz MH j9 (fun b hb=>hblk b (hI.fI ⟨i,c2,h2,hb⟩) fun he=>hi (hI.eA i c2 id c b h2 hm hb he)) (hI.holds i c2 h2)
 ·rcases eP b hF with h1 | h1
  ·exact hI.apart b (du b ho) h1
  ·exact absurd (hI.fI (du b ho)) (mg.2 h1.1)
 ·have hx:∃c,(i,c)∈st.H:=by rcases mY h with ⟨_,_,c2,h2⟩ | ⟨_,h2⟩ <;> exact ⟨_,h2⟩
  have hy:∃c,(i',c)∈st.H:=by rcases mY h' with ⟨_,_,c2,h2⟩ | ⟨_,h2⟩ <;> exact ⟨_,h2⟩
  obtain ⟨c2,h2⟩:=hx;obtain ⟨c3,h3⟩:=hy;exact hI.eA i c2 i' c3 b h2 h3 hb aK
def af.freeze {g:Tg} {id E K:Nat} {rows:List (List AV)} {xs:List AV} {st:ae} {k:AV→ae→Prop} (hc:dI id st.H=some (.own E K rows)) (h:af P g (xs.map (sb (.s rows) 2 id)) (Md id rows st) k):af P g xs st k:=by
 have hm:=eX hc;refine ⟨h.1,fun w F β vs hI hs hv=>?_⟩
 have hz:∀u,Rd w (fun b=>F b∨bQ (β id)=some b) β (.o id) u→Rd w (fun b=>F b∨bQ (β id)=some b) β (.s rows) u:=fun u hu=>by
  refine .i (Me hI hm ?_);obtain ⟨a,n,c,h1,rfl⟩:=hu.jW;exact .o h1
 have up:∀{x u},Rd w F β x u→Rd w (fun b=>F b∨bQ (β id)=some b) β x u:=fun h=>h.frame (fun _ _=>rfl) fun _ h=>.inl h
 have lV:Inv w (fun b=>F b∨bQ (β id)=some b) β (oA id rows st.H):=by
  refine ⟨fun b hb=>hb.elim (hI.cC b) fun hb=>hI.fI ⟨id,_,hm,hb⟩,fun i c h=>?_,DE hI.keys,fun b ⟨i,c,h,hb⟩ hF=>?_,fun i c i' c' b h h' hb aK=>?_,hI.fh.more fun _ h=>.inl h⟩
  ·obtain ⟨hi,c',h',rfl⟩:=lu h;have hh:=hI.holds i c' h';cases c' with
   | own E' K' r=>exact pA (c:=.own E' K' r) rfl (fun _ h=>.inl h) rfl hh
   | mp ag r=>exact pA (c:=.mp ag r) rfl (fun _ h=>.inl h) rfl hh
   | si s pos=>exact pA (c:=.si s pos) rfl (fun _ h=>.inl h) rfl hh
   | lp l e R L =>
    obtain ⟨fn,tmps,D,hb,yE,pk,y0⟩:=hh;refine ⟨fn,tmps,D,hb,yE,pk,fun p hp=>?_⟩;obtain ⟨q,hq,rfl⟩:=dg.1 hp;exact rH hz (fun _ _=>rfl) 2 (up (y0 q hq))
   | box cells =>
    obtain ⟨b,cs,e,hb,hh,hs,h1,hr⟩:=hh;refine ⟨b,cs,e,hb,hh,by simpa using hs,fun j hj=>h1 j (by simpa using hj),fun j hj=>?_⟩
    have hj:j<cells.length:=by simpa using hj
    have:(cells.map (sb (.s rows) 1 id)).getD j .χ=sb (.s rows) 1 id (cells.getD j .χ):=by simp [aY,hj]
    rw [this];exact rH hz (fun _ _=>rfl) 1 (up (hr j hj))
  ·obtain ⟨hi,c',h',_⟩:=lu h
   rcases hF with hF | hF
   ·exact hI.apart b ⟨i,c',h',hb⟩ hF
   ·exact hi (hI.eA i c' id _ b h' hm hb hF)
  ·obtain ⟨_,c2,h2,_⟩:=lu h;obtain ⟨_,c3,h3,_⟩:=lu h';exact hI.eA i c2 i' c3 b h2 h3 hb aK
 have yV:∀b,bD β (oA id rows st.H) b→bD β st.H b:=fun b ⟨i,c,h,hb⟩=>by
  obtain ⟨_,c2,h2,_⟩:=lu h;exact ⟨i,c2,h2,hb⟩
 refine (h.2 w _ β vs lV (by simpa using hs) fun i hi=>?_).mono ?_
 ·have hi:i<xs.length:=by simpa using hi
  have:(xs.map (sb (.s rows) 2 id)).getD i .χ=sb (.s rows) 2 id (xs.getD i .χ):=by simp [aY,hi]
  rw [this];exact rH hz (fun _ _=>rfl) 2 (up (hv i hi))
 ·rintro e w' ⟨v,rfl,r,aq,F',av,hk,hr,hx⟩
  refine ⟨v,rfl,r,aq,F',av,hk,hr,hx.os,hx.tape,hx.output,hx.size,fun b hb bw=>hx.block b hb fun ho=>bw (yV b ho),fun b hb=>hx.mono b (.inl hb),fun b hb=>?_,fun b hb=>(hx.owned b hb).elim .inl fun h=>.inr (yV b h),
   fun t u hu=>hx.keep t u (rH hz (fun _ _=>rfl) 2 (up hu)),hx.inv,hx.gp⟩
  rcases hx.new b hb with h1 | h1 | h1
  ·rcases h1 with h1 | h1
   ·exact .inl h1
   ·exact .inr (.inr ⟨id,_,hm,h1⟩)
  ·exact .inr (.inl h1)
  ·exact .inr (.inr (yV b h1))
def Fz.c {H:Hp} {fn:Fn} {fs DF cs Ds:List AV} (h:oj H fs DF) (h':oj H cs Ds):Fz H (.c fn fs cs) (.c fn DF Ds):=fun _ _ _ _ hI hr=>by
 obtain ⟨us,vs,rfl,hs,eu,hu,hv⟩:=hr.nt;obtain ⟨hl,hz⟩:=h.spec;obtain ⟨uB,iS⟩:=h'.spec;exact .c (by omega) (by omega) (fun i hi=>hz i (by omega) _ _ _ _ hI (hu i (by omega))) fun i hi=>iS i (by omega) _ _ _ _ hI (hv i (by omega))
def Fz.b {H:Hp} {id:Nat} {cells:List AV} (h:dI id H=some (.box cells)) (gU:cells.all fj=true):Fz H (.b id 0) (.p cells):=fun w F β u hI hr=>by
 have hm:=eX h;obtain ⟨eV,hb,rfl⟩:=hr.mz;obtain ⟨b,cs,e,ah,hh,hs,h1,fy⟩:=hI.holds _ _ hm;rw [hb] at ah;cases ah;refine .p (b:=eV) (off:=0) (u:=fun j=>cs.getD j undef) (.inr ⟨id,_,hm,by rw [hb]; rfl⟩) (fun j hj=>?_) h1 fun j hj=>?_
 ·rw [jF,cell_of_row w eV _ cs e (0,0) hh];simp [hs,hj]
 ·have:fj (cells.getD j .χ)=true:=ej.1 gU _ (by rw [List.getD_eq_getElem?_getD,bT hj]; exact List.getElem_mem _);exact (nQ this (fy j hj)).frame (fun _ _=>rfl) fun _ h=>.inl h
end
end
section
open Go.RowKit
variable [M:bK] [G:cL] [R:dK]
structure Ok (P:Program) (n:Nat) (c:Code) (st:ae) (Q:Exit→ae→Prop):Prop where
 h:∀C:Ctx,C.n=n→GU P C c st Q
def Wk (s s':ae):Prop:=∀(C:Ctx) (a:Act) (w:World),Rel C s a w→Rel C s' a w
def nx (P:Program) (n:Nat) (y:Code) (Q:Exit→ae→Prop):Exit→ae→Prop:=fun e s=>match e with
 | .normal=>Ok P n y s Q
 | e=>Q e s
def bk (id:Nat) (Q:Exit→ae→Prop):Exit→ae→Prop:=fun e s=>match e with
 | .exit i=>bif aH i id then Q .normal s else Q (.exit i) s
 | e=>Q e s
def jn (s1:ae) (Q:Exit→ae→Prop):Exit→ae→Prop:=fun e s=>match e with
 | .normal=>Wk s s1
 | e=>Q e s
def jnE {σ:Type} (J:σ→ae) (S:σ→Prop) (Q:Exit→ae→Prop):Exit→ae→Prop:=fun e s=>match e with
 | .normal=>∃v,S v∧Wk s (J v)
 | e=>Q e s
section
variable {P:Program} {T:TT} {n:Nat} {st:ae} {Q:Exit→ae→Prop}
def Wk.refl (s:ae):Wk s s:=fun _ _ _ h=>h
def Wk.trans {a b c:ae} (h:Wk a b) (h':Wk b c):Wk a c:=fun C x w hr=>h' C x w (h C x w hr)
def Ok.wk {c:Code} {s':ae} (h:Wk st s') (hc:Ok P n c s' Q):Ok P n c st Q:=⟨fun C hn a w hr=>hc.h C hn a w (h C a w hr)⟩
def Ok.skip (h:Q .normal st):Ok P n .skip st Q:=⟨fun _ _ _ _ hr=>wpIn_skip ⟨st,hr,h⟩⟩
def Ok.label {l:Nat} (h:Q .normal st):Ok P n (.label l) st Q:=⟨fun _ _ _ _ hr=>wpIn_label ⟨st,hr,h⟩⟩
def Ok.exit {id:Nat} (h:Q (.exit id) st):Ok P n (.exit id) st Q:=⟨fun _ _ _ _ hr=>wpIn_exit ⟨st,hr,h⟩⟩
def Ok.ret (h:Q .ret st):Ok P n .ret st Q:=⟨fun _ _ _ _ hr=>wpIn_ret ⟨st,hr,h⟩⟩
def Ok.seq {x y:Code} (h:Ok P n x st (nx P n y Q)):Ok P n (.seq x y) st Q:=⟨fun C hn a w hr=>by
 refine wpIn_seq (wpIn_mono (h.h C hn a w hr) ?_);rintro e a' w' ⟨aq,cK,hq⟩
 cases e <;> first | exact (show Ok P n y aq Q from hq).h C hn a' w' cK | exact ⟨aq,cK,hq⟩⟩
def Ok.bh {x y:Code} (s1:ae) (hx:Ok P n x st (jn s1 Q)) (hy:Ok P n y s1 Q):Ok P n (.seq x y) st Q:=⟨fun C hn a w hr=>by
 refine wpIn_seq (wpIn_mono (hx.h C hn a w hr) ?_);rintro e a' w' ⟨aq,cK,hq⟩
 cases e <;> first | exact hy.h C hn a' w' ((show Wk aq s1 from hq) C a' w' cK) | exact ⟨aq,cK,hq⟩⟩
def Ok.eW {σ:Type} {x y:Code} (J:σ→ae) (S:σ→Prop) (hx:Ok P n x st (jnE J S Q)) (hy:∀v,S v→Ok P n y (J v) Q):Ok P n (.seq x y) st Q:=⟨fun C hn a w hr=>by
 refine wpIn_seq (wpIn_mono (hx.h C hn a w hr) ?_);rintro e a' w' ⟨aq,cK,hq⟩
 cases e <;> first | (obtain ⟨v,hv,hw⟩:=(show ∃v,S v∧Wk aq (J v) from hq); exact (hy v hv).h C hn a' w' (hw C a' w' cK)) | exact ⟨aq,cK,hq⟩⟩
def Ok.region {id:Nat} {ops:Array Oper} (hT:bM P T) (h:iV P T n ops ops.toList st (Q .normal)):Ok P n (.region id ops false) st Q :=
 ⟨fun C hn=>Qz (C:=C) hT hn (.region id ops false) st Q h⟩
def Ok.draw [MD:qK] [CH:mj] {id m:Nat} {ops:Array Oper} (hT:bM P T) (hm:P.follows .mixedOrders=true) (qa:Dw m ops=true)
  (h:rP P T n ops (steady m ops) ⟨preB (ew m ops) (js (ew m ops) st).f,(js (ew m ops) st).H⟩ fun st1=>s5 P st1.f (ops.toList.take m)∧qO T n (ew m ops) st1 fun st2=>iV P T n ops (ops.toList.drop m) st2 (Q .normal)):Ok P n (.region id ops true) st Q :=
 ⟨fun C hn=>Qz (C:=C) hT hn (.region id ops true) st Q (aay hT hm qa h)⟩
def Ok.p4 [MD:qK] [CH:mj] {id m:Nat} {late:List Nat} {ops:Array Oper} (hT:bM P T) (hm:P.follows .mixedOrders=true) (qa:Hu m late ops=true)
  (h:rP P T n ops (steady m ops) ⟨preB (ew m ops) (js (ew m ops) st).f,(js (ew m ops) st).H⟩ fun st1=>s5 P st1.f (ops.toList.take m)∧qO T n (ew m ops) st1 fun st1=>Lq T ops m st1 fun st2=>qh P T ops st2 late∧iV P T n ops (ops.toList.drop (m+1)) st2 (Q .normal)):Ok P n (.region id ops true) st Q :=
 ⟨fun C hn=>Qz (C:=C) hT hn (.region id ops true) st Q (aaz hT hm qa h)⟩
def Ok.cond {d:Nat} {b:Bool} {x y:Code} {ρ:Type} {X Y:Option ρ} {r:ρ} (hb:st.f d=.v (.bool b)) (h:(if b=true then X else Y)=some r)
  (yes:b=true→X=some r→Ok P n x st Q) (no:b=false→Y=some r→Ok P n y st Q):Ok P n (.cond (.tmp d) x y) st Q:=⟨fun C hn a w hr=>by
 have cK:=hr;obtain ⟨F,β,hs,hd,hf,he⟩:=cK;have gh:=hf d;rw [hb] at gh;have hv:a.eval (.tmp d)=.bool b:=gh.bL;refine wpIn_cond_split hv (fun ht=>?_) fun ht=>?_
 ·exact (yes ht (by simpa [ht] using h)).h C hn a w hr
 ·exact (no (by simpa using ht) (by simpa [ht] using h)).h C hn a w hr⟩
def Ok.aag {d:Nat} {x y:Code} (hb:st.f d=.v (.bool true)) (h:Ok P n x st Q):Ok P n (.cond (.tmp d) x y) st Q :=
 .cond (ρ:=Unit) (X:=some ()) (Y:=none) (r:=()) hb rfl (fun _ _=>h) fun h=>by cases h
def Ok.aaf {d:Nat} {x y:Code} (hb:st.f d=.v (.bool false)) (h:Ok P n y st Q):Ok P n (.cond (.tmp d) x y) st Q :=
 .cond (ρ:=Unit) (X:=none) (Y:=some ()) (r:=()) hb rfl (fun h=>by cases h) fun _ _=>h
def Ok.block {id:Nat} {c:Code} (h:Ok P n c st (bk id Q)):Ok P n (.block id c) st Q:=⟨fun C hn a w hr=>by
 refine wpIn_block (wpIn_mono (h.h C hn a w hr) ?_);rintro e a' w' ⟨aq,cK,hq⟩;cases e with
 | exit i =>
  have hq:bif aH i id then Q .normal aq else Q (.exit i) aq:=hq;by_cases hi:i=id
  ·subst hi;simp only [iX,cond_true] at hq;simp only [Exit.inBlock,if_true];exact ⟨aq,cK,hq⟩
  ·have:aH i id=false:=by cases hb:aH i id; rfl; exact absurd (cR hb) hi
   simp only [this,cond_false] at hq;simp only [Exit.inBlock,if_neg hi];exact ⟨aq,cK,hq⟩
 | _=>exact ⟨aq,cK,hq⟩⟩
def lp {σ ρ:Type} (J:σ→ae) (x:σ⊕ρ) (Q:Exit→ae→Prop):Exit→ae→Prop:=fun e s=>match e with
 | .normal=>∃v,x=.inl v∧Wk s (J v)
 | e=>Q e s
def Ok.loop {σ ρ:Type} {c:Code} (J:σ→ae) (B:σ→Option (σ⊕ρ)) {r:ρ} {s0:σ} (h:Cat.loop B s0=some r) (h0:Wk st (J s0))
  (round:∀s x,B s=some x→(∀r',x=.inr r'→r'=r)→Ok P n c (J s) (lp J x Q)):Ok P n (.loop c) st Q:=⟨fun C hn a w hr=>by
 obtain ⟨k0,kP⟩:=I2 h
 refine wpIn_loop (fun a w=>∃s k,gJ B k s=some r∧Rel C (J s) a w) (fun a w=>by
  classical exact if h:∃k s,(gJ B k s=some r∧Rel C (J s) a w)∧∀k' s',gJ B k' s'=some r∧Rel C (J s') a w→k≤k' then h.choose else 0) ⟨s0,k0,kP,h0 C a w hr⟩ ?_
 intro a w hex
 have Im:∃k s,(gJ B k s=some r∧Rel C (J s) a w)∧∀k' s',gJ B k' s'=some r∧Rel C (J s') a w→k≤k':=by
  obtain ⟨s,k,hi⟩:=hex
  have key:∀m k s,k=m→gJ B k s=some r∧Rel C (J s) a w→∃k s,(gJ B k s=some r∧Rel C (J s) a w)∧∀k' s',gJ B k' s'=some r∧Rel C (J s') a w→k≤k':=by
   intro m;induction m using tX with
   | _ m ih =>
    intro k s hm hi;by_cases UJ:∃k' s',(gJ B k' s'=some r∧Rel C (J s') a w)∧k'<m
    ·obtain ⟨k',s',bm,Φ⟩:=UJ;exact ih k' Φ k' s' rfl bm
    ·refine ⟨k,s,hi,fun k' s' bm=>?_⟩
     rcases gG k' k with h | h
     ·exact absurd ⟨k',s',bm,hm▸h⟩ UJ
     ·exact h
  exact key _ k s rfl hi
 obtain ⟨s,⟨hi,iQ⟩,akL⟩:=Im.choose_spec
 have hk:∃k,Im.choose=k+1:=by
  cases hc:Im.choose with
  | zero=>rw [hc] at hi; cases hi
  | succ k=>exact ⟨k,rfl⟩
 obtain ⟨k,hk⟩:=hk;have q9:=hi;rw [hk] at hi
 obtain ⟨x,hx,wb⟩:∃x,B s=some x∧(∀r',x=.inr r'→r'=r)∧∀s',x=.inl s'→gJ B k s'=some r:=by
  cases hB:B s with
  | none=>simp [gJ,hB] at hi
  | some x =>
   refine ⟨x,rfl,fun r' cK=>?_,fun s' eu=>?_⟩
   ·subst cK; simpa [gJ,hB] using hi
   ·subst eu; simpa [gJ,hB] using hi
 refine wpIn_mono ((round s x hx wb.1).h C hn a w iQ) ?_;rintro e a' w' ⟨aq,cK,hq⟩;cases e with
 | normal =>
  obtain ⟨v,hv,hwk⟩:=(show ∃v,x=.inl v∧Wk aq (J v) from hq);have jR:=wb.2 v hv;have UE:=hwk C a' w' cK;refine ⟨⟨v,k,jR,UE⟩,?_⟩;rw [dif_pos Im,hk];split
  ·rename_i h';obtain ⟨_,_,hm⟩:=h'.choose_spec;exact Nat.lt_succ_of_le (hm k v ⟨jR,UE⟩)
  ·exact Nat.succ_pos _
 | _=>exact ⟨aq,cK,hq⟩⟩
def ar:List (Nat×AV)→Nat→AV
 | [],_=>.χ
 | (d,x)::r,t=>bif aH t d then x else ar r t
def vw (f:Nat→AV):List (Nat×AV)→Prop
 | []=>True
 | (d,x)::r=>Le (f d) x∧vw f r
inductive iw:Chunk→Chunk→Prop where
 | refl (c:Chunk):iw c c
 | box {a b:List AV} (h:iL a b):iw (.box a) (.box b)
 | lp {l:Nat} {e:LS} {R:RF} {a b:List (Nat×AV)} (h:∀p,p∈b→∃x,(p.1,x)∈a∧Le x p.2):iw (.lp l e R a) (.lp l e R b)
def iw.holds {w:World} {F:Nat→Prop} {β:Nat→Value} {i:Nat} {c c':Chunk} (h:iw c c') (hc:c.holds w F β i):c'.holds w F β i:=by
 cases h with
 | refl=>exact hc
 | box h =>
  obtain ⟨b,cs,e,ah,hh,hs,h1,hr⟩:=hc;obtain ⟨hl,hz⟩:=h.spec;exact ⟨b,cs,e,ah,hh,by omega,fun j hj=>h1 j (by omega),fun j hj=>hz j (by omega) _ _ _ _ (hr j (by omega))⟩
 | lp h =>
  obtain ⟨fn,tmps,D,ah,hh,hn,hr⟩:=hc;refine ⟨fn,tmps,D,ah,hh,hn,fun p hp=>?_⟩;obtain ⟨x,hx,hz⟩:=h p hp;exact hz _ _ _ _ (hr _ hx)
def xB (H:Hp):Hp→Prop
 | []=>True
 | (i,c)::r=>(∃c0,dI i H=some c0∧iw c0 c)∧xB H r
def jB:Hp→Bool
 | []=>true
 | (i,_)::r=>r.all (fun p=>!Nat.beq p.1 i)&&jB r
def zp:∀{H:Hp},jB H=true→(H.map (·.1)).Nodup
 | [],_=>qG
 | (i,c)::r,h=>by
  simp only [jB,bJ] at h;simp only [jD,iv];refine ⟨fun hm=>?_,zp h.2⟩;obtain ⟨x,hx,lE⟩:=dg.1 hm;have:=ej.1 h.1 x hx;rw [lE,iX] at this;cases this
def xB.mem {H:Hp}:∀{H':Hp},xB H H'→∀i c,(i,c)∈H'→∃c0,(i,c0)∈H∧iw c0 c
 | [],_,_,_,hx=>by cases hx
 | (i,c)::r,h,j,d,hx=>by
  rcases bj.1 hx with hx | hx
  ·cases hx;obtain ⟨c0,hc,hl⟩:=h.1;exact ⟨c0,eX hc,hl⟩
  ·exact xB.mem h.2 j d hx
def XH {w:World} {F:Nat→Prop} {β:Nat→Value} {f:Nat→AV} {g:Nat→Value} (hf:∀t,Rd w F β (f t) (g t)):∀{L:List (Nat×AV)},vw f L→∀t,Rd w F β (ar L t) (g t)
 | [],_,_=>.χ
 | (d,x)::r,h,t=>by
  simp only [ar];cases hb:aH t d with
  | true =>
   obtain rfl:=cR hb;exact h.1 _ _ _ _ (hf t)
  | false=>exact XH hf h.2 t
def Ext.sub {w0:World} {F0:Nat→Prop} {oR:Nat→Value} {oP:ae} {w:World} {F:Nat→Prop} {β:Nat→Value} {H H':Hp} (h:Ext w0 F0 oR oP w F β ⟨aF,H⟩) (bH:∀i c,(i,c)∈H'→∃c0,(i,c0)∈H∧iw c0 c) (hk:(H'.map (·.1)).Nodup):Ext w0 F0 oR oP w F β ⟨aF,H'⟩ where
 os:=h.os
 tape:=h.tape
 output:=h.output
 size:=h.size
 block:=h.block
 mono:=h.mono
 new:=h.new
 owned b hb:=h.owned b (by obtain ⟨i,c,hm,hb⟩:=hb; obtain ⟨c0,h0,_⟩:=bH i c hm; exact ⟨i,c0,h0,hb⟩)
 keep _ _ _:=.χ
 inv:=⟨h.inv.cC,fun i c hm=>by obtain ⟨c0,h0,hl⟩:=bH i c hm; exact hl.holds (h.inv.holds i c0 h0),hk,
  fun b ⟨i,c,hm,hb⟩=>by obtain ⟨c0,h0,_⟩:=bH i c hm; exact h.inv.apart b ⟨i,c0,h0,hb⟩,
  fun i c i' c' b hm bV hb aK=>by
   obtain ⟨c0,h0,_⟩:=bH i c hm;obtain ⟨c1,h1,_⟩:=bH i' c' bV
   exact h.inv.eA i c0 i' c1 b h0 h1 hb aK,h.inv.fh⟩
 gp:=h.gp
def XM.sub {C:Ctx} {ds:List Deferred} {w:World} {F:Nat→Prop} {β:Nat→Value} {H H':Hp} (h:XM C ds w F β H) (bH:∀i c,(i,c)∈H'→∃c0,(i,c0)∈H∧iw c0 c) (hk:(H'.map (·.1)).Nodup):XM C ds w F β H' :=
 h.trans ((Ext.refl (st:=⟨aF,H⟩) h.inv).sub bH hk)
def Wk.tab {L:List (Nat×AV)} {H':Hp} (hL:vw st.f L) (hH:xB st.H H') (hk:jB H'=true):Wk st ⟨ar L,H'⟩:=fun C a w hr=>by
 obtain ⟨F,β,hs,hd,hf,he⟩:=hr;exact ⟨F,β,hs,hd,XH hf hL,he.sub hH.mem (zp hk)⟩
def Ext.Ov {w0:World} {F0:Nat→Prop} {oR:Nat→Value} {oP:ae} {w:World} {F:Nat→Prop} {β:Nat→Value} {f:Nat→AV} {H:Hp} (h:Ext w0 F0 oR oP w F β ⟨f,H⟩):Ext w0 F0 oR oP w F β ⟨aF,H⟩ where
 os:=h.os
 tape:=h.tape
 output:=h.output
 size:=h.size
 block:=h.block
 mono:=h.mono
 new:=h.new
 owned:=h.owned
 keep _ _ _:=.χ
 inv:=h.inv
 gp:=h.gp
def Wk.BP {t id E K:Nat} (Φ:eL id 1000=true) (ht:st.f t=.v (.slice none 0 0)):Wk st ⟨dW (fun t=>er 2 id (st.f t)) t (.o id),(id,.own E K [])::gR id st.H⟩:=fun C a w hr=>by
 obtain ⟨F,β,hs,hd,hf,he⟩:=hr
 have pj:id<1000:=by simpa using Φ
 have hb:Below w.heap.size w w:=Below.refl _ _;have hx:=HI (st:=⟨aF,st.H⟩) (w':=w) (F':=F) (c:=.own E K []) (v:=.slice none 0 0) pj he.inv hb (fun _ h=>h) (fun _ h=>.inl h) (fun b hb=>by cases hb) (.inl ⟨rfl,none,by simp⟩);have ah:∀i,i≠id→(fun i=>if i=id then Value.slice none 0 0 else β i) i=β i:=fun i hi=>if_neg hi;refine ⟨F,_,hs,hd,fun q=>?_,(he.trans hx).Ov⟩;show Rd w F _ (bif aH q t then AV.o id else er 2 id (st.f q)) _;cases hq:aH q t with
 | true =>
  obtain rfl:=cR hq;have h1:=hf q;rw [ht] at h1;rw [cond_true,h1.bL];exact .o (by simp)
 | false=>exact sx ah 2 (hf q)
def Wk.freeze {id E K:Nat} {rows:List (List AV)} (hc:dI id st.H=some (.own E K rows)):Wk st (Md id rows st):=fun C a w hr=>by
 obtain ⟨F,β,hs,hd,hf,he⟩:=hr;have hI:=he.inv;have hm:=eX hc
 have hz:∀u,Rd w (fun b=>F b∨bQ (β id)=some b) β (.o id) u→Rd w (fun b=>F b∨bQ (β id)=some b) β (.s rows) u:=fun u hu=>by
  refine .i (Me hI hm ?_);obtain ⟨a,n,c,h1,rfl⟩:=hu.jW;exact .o h1
 have up:∀{x u},Rd w F β x u→Rd w (fun b=>F b∨bQ (β id)=some b) β x u:=fun h=>h.frame (fun _ _=>rfl) fun _ h=>.inl h
 have lV:Inv w (fun b=>F b∨bQ (β id)=some b) β (oA id rows st.H):=by
  refine ⟨fun b hb=>hb.elim (hI.cC b) fun hb=>hI.fI ⟨id,_,hm,hb⟩,fun i c h=>?_,DE hI.keys,fun b ⟨i,c,h,hb⟩ hF=>?_,fun i c i' c' b h h' hb aK=>?_,hI.fh.more fun _ h=>.inl h⟩
  ·obtain ⟨hi,c',h',rfl⟩:=lu h;have hh:=hI.holds i c' h';cases c' with
   | own E' K' r=>exact pA (c:=.own E' K' r) rfl (fun _ h=>.inl h) rfl hh
   | mp ag r=>exact pA (c:=.mp ag r) rfl (fun _ h=>.inl h) rfl hh
   | si s pos=>exact pA (c:=.si s pos) rfl (fun _ h=>.inl h) rfl hh
   | lp l e R L =>
    obtain ⟨fn,tmps,D,hb,yE,pk,y0⟩:=hh;refine ⟨fn,tmps,D,hb,yE,pk,fun p hp=>?_⟩;obtain ⟨q,hq,rfl⟩:=dg.1 hp;exact rH hz (fun _ _=>rfl) 2 (up (y0 q hq))
   | box cells =>
    obtain ⟨b,cs,e,hb,hh,hs,h1,hr⟩:=hh;refine ⟨b,cs,e,hb,hh,by simpa using hs,fun j hj=>h1 j (by simpa using hj),fun j hj=>?_⟩
    have hj:j<cells.length:=by simpa using hj
    have:(cells.map (sb (.s rows) 1 id)).getD j .χ=sb (.s rows) 1 id (cells.getD j .χ):=by simp [aY,hj]
    rw [this];exact rH hz (fun _ _=>rfl) 1 (up (hr j hj))
  ·obtain ⟨hi,c',h',_⟩:=lu h
   rcases hF with hF | hF
   ·exact hI.apart b ⟨i,c',h',hb⟩ hF
   ·exact hi (hI.eA i c' id _ b h' hm hb hF)
  ·obtain ⟨_,c2,h2,_⟩:=lu h;obtain ⟨_,c3,h3,_⟩:=lu h';exact hI.eA i c2 i' c3 b h2 h3 hb aK
 have yV:∀b,bD β (oA id rows st.H) b→bD β st.H b:=fun b ⟨i,c,h,hb⟩=>by
  obtain ⟨_,c2,h2,_⟩:=lu h;exact ⟨i,c2,h2,hb⟩
 refine ⟨_,β,hs,hd,fun t=>rH hz (fun _ _=>rfl) 2 (up (hf t)),he.trans (f:=aF) (f':=aF) ⟨rfl,jm.refl _,rfl,bF _,fun _ _ _=>rfl,fun b hb=>.inl hb,fun b hb=>hb.elim .inl fun hb=>.inr (.inr ⟨id,_,hm,hb⟩),fun b hb=>.inr (yV b hb),fun _ _ _=>.χ,lV,fun _ _=>rfl⟩⟩
def IX {C:Ctx} {fn:Func} {tmps:Array Value} {RR:Ending→World→Prop} {F:Nat→Prop} {β:Nat→Value} {H:Hp} (q7:C.dl=[]):∀(ds:List Deferred) (w:World),XM C ds w F β H →
  (∀w',XM C [] w' F β H→(∀x u,Rd w F β x u→Rd w' F β x u)→LeavesIn ga 0 P fn tmps RR [] .returning w')→LeavesInM ga 0 P fn tmps RR ds .returning w
 | [],w,h,hk=>hk w h fun _ _ hr=>hr
 | d::ds,w,h,hk=>by
  have jP:∀l,C.ms l=l:=fun l=>Ctx.VE q7;obtain ⟨D,h1,h2,h3,h4,h5⟩:=h.m d (by rw [jP]; simp);have dJ:=h.nd;rw [jP] at dJ;have Φ:=kE h3;have oE:∀b,b≠D→(w.putObj D (.deferred none)).heap[b]?=w.heap[b]?:=fun b hb=>World.putObj_heap_other hb;have ha:fZ F w (w.putObj D (.deferred none)):=fun b hb=>oE b fun e=>h4 (e▸hb);have hI:=h.inv;refine ⟨by simp,.inl ⟨D,_,by rw [h1],run_takeDeferred h3,?_⟩⟩;have lV:Inv (w.putObj D (.deferred none)) F β H:=⟨fun b hb=>by rw [j2]; exact hI.cC b hb,fun i c hm=>pz ha (fun _ h=>h) (fun b hb=>oE b fun e=>h5 (e▸⟨i,c,hm,hb⟩)) (hI.holds i c hm),hI.keys,hI.apart,hI.eA,hI.fh.at ha⟩;have hx:=h.x;refine IX q7 ds _ ⟨⟨hx.os,hx.tape,hx.output,by rw [j2]; exact hx.size,fun b hb hn=>(oE b (by omega)).trans (hx.block b hb hn),hx.mono,hx.new,hx.owned,fun _ _ _=>.χ,lV,hx.gp⟩,fun d' bG=>?_,by rw [jP]; exact (iv.1 dJ).2,⟨ds,by rw [q7]; simp⟩⟩ fun w' oJ cK=>hk w' oJ fun x u hr=>cK x u (hr.frame ha fun _ h=>h);rw [jP] at bG;obtain ⟨D',g1,g2,g3,g4,g5⟩:=h.m d' (by rw [jP]; simp [bG]);exact ⟨D',g1,g2,(oE D' fun e=>(iv.1 dJ).1 (by rw [h1,←e,←g1]; exact bG)).trans g3,g4,g5⟩
def Hh {g:Nat} {fn:Func} {c:Code} {args:List AV} {H:Hp} {R0:AV→ae→Prop} {w:World} {F:Nat→Prop} {β:Nat→Value} (hT:bM P T) (dF:P.funcs[g]?=some fn) (hb:fn.body=some c) (hn:fn.ntmps=n) (hle:args.length≤n)
  (h:Ok P n c ⟨kU args,H⟩ (sA T fn.results.toList R0)) {vs:Array Value} (hI:Inv w F β H) (hs:vs.size=args.length) (hv:∀i,i<args.length→Rd w F β (args.getD i .χ) (vs.getD i undef)) :
  Calls P g vs w fun e w'=>∃v,e=.returned v∧∃x st F' av,R0 x st∧Rd w' F' av x v∧Ext w F β ⟨aF,H⟩ w' F' av ⟨aF,st.H⟩:=by
 refine callsIn_wide.1 (callsIn_of_wp_marks (F:=ga) (n:=0) dF hb trivial ?_);let C:Ctx:=⟨w,F,β,H,n,none,.inl rfl,[]⟩;have hr:Rel C ⟨kU args,H⟩ { tmps:=vs++oc (fn.ntmps-vs.size) undef,defers:=[] } w :=
  ⟨F,β,by simp [C,hn]; omega,trivial,N3 hs hv,⟨Ext.refl hI,fun d hd=>(eH hd).elim,qG,⟨[],rfl⟩⟩⟩
 have fin:∀(st:ae) (a':Act) (w':World),Rel C st a' w'→qo T fn.results.toList st (fun x=>R0 x st)→LeavesInM ga 0 P fn a'.tmps (fun e w'=>∃v,e=.returned v∧∃x st F' av,R0 x st∧Rd w' F' av x v∧Ext w F β ⟨aF,H⟩ w' F' av ⟨aF,st.H⟩) a'.defers .returning w':=fun st a' w' ⟨F',av,_,_,hf,he⟩ hq =>
  IX rfl a'.defers w' he fun rN fp cK=>by
   obtain ⟨v,x,a_,hk,hx⟩:=JL (P:=P) (st:=st) hT fp.inv (fun t=>cK _ _ (hf t)) hq;exact ⟨v,a_,v,rfl,x,st,F',av,hk,hx,fp.x⟩
 refine wpIn_mono (h.h C rfl _ w hr) ?_;rintro e a' w' ⟨st,iQ,hq⟩;cases e with
 | normal=>exact fin st a' w' iQ hq
 | ret=>exact fin st a' w' iQ hq
 | exit id=>exact hq.elim
 | goto l=>exact hq.elim
 | panic ch=>exact hq.elim
 | outgrown=>exact hq.elim
def af0 {g : Nat} {fn : Func} {c : Code} {args : List AV} {r : AV} (hT : bM P T) (dF : P.funcs[g]? = some fn) (dN : (fn.name == "runtime.NumGoroutine") = false) (hb : fn.body = some c) (hn : fn.ntmps = n) (hle : args.length ≤ n)
  (h:Ok P n c ⟨kU args,[]⟩ (sA T fn.results.toList fun x st=>Fz st.H x r)):Pure P g args r:=by
 refine ⟨⟨fn,c,dF,dN,hb⟩,fun w F β vs hI hs hv=>?_⟩;refine (Hh hT dF hb hn hle h hI hs hv).mono ?_;rintro e w' ⟨v,rfl,x,st,F',av,hz,hx,he⟩
 have bw:∀b,¬bD β ([]:Hp) b:=by rintro b ⟨id,c,hm,_⟩; cases hm
 refine ⟨v,rfl,⟨he.os,he.tape,he.output,he.size,fun b aK=>he.block b aK (bw b)⟩,?_⟩;refine (hz w' F' av v he.inv hx).frame (fun _ _=>rfl) fun b aK=>?_
 rcases aK with aK | aK
 ·rcases he.new b aK with h1 | h1 | h1
  ·exact .inl h1
  ·exact .inr ⟨h1,he.inv.cC b aK⟩
  ·exact (bw b h1).elim
 ·rcases he.owned b aK with h1 | h1
  ·exact .inr ⟨h1,he.inv.fI aK⟩
  ·exact (bw b h1).elim
def afZ {g E K : Nat} {fn : Func} {c : Code} {args : List AV} {rows : List (List AV)} (hT : bM P T) (dF : P.funcs[g]? = some fn) (dN : (fn.name == "runtime.NumGoroutine") = false) (hb : fn.body = some c) (hn : fn.ntmps = n) (hle : args.length ≤ n)
  (h:Ok P n c ⟨kU args,[]⟩ (sA T fn.results.toList (Lg E K rows))):i_ P g args E K rows:=by
 refine ⟨⟨fn,c,dF,dN,hb⟩,fun w F β vs hI hs hv=>?_⟩;refine (Hh hT dF hb hn hle h hI hs hv).mono ?_;rintro e w' ⟨v,rfl,x,st,F',av,hz,hx,he⟩
 have bw:∀b,¬bD β ([]:Hp) b:=by rintro b ⟨id,c,hm,_⟩; cases hm
 refine ⟨v,rfl,⟨he.os,he.tape,he.output,he.size,fun b aK=>he.block b aK (bw b)⟩,F',he.mono,fun b aK=>?_,?_⟩
 ·rcases he.new b aK with h1 | h1 | h1
  ·exact .inl h1
  ·exact .inr ⟨h1,he.inv.cC b aK⟩
  ·exact (bw b h1).elim
 ·rcases hz with ⟨rfl,rfl⟩ | ⟨id,rfl,hc⟩
  ·rw [hx.bL];exact ⟨.inl ⟨rfl,none,rfl⟩,⟨_,_,_,rfl⟩,fun b aK=>by cases aK⟩
  ·obtain ⟨a,m,cp,ah,rfl⟩:=hx.jW;have hm:=eX hc;refine ⟨Jj (he.inv.holds _ _ hm) _ _ ah.symm,⟨_,_,_,rfl⟩,fun b aK=>?_⟩;have ho:bD av st.H b:=⟨id,_,hm,by rw [ah]; exact aK⟩;refine ⟨?_,he.inv.apart b ho⟩
   rcases he.owned b ho with h1 | h1
   ·exact h1
   ·exact (bw b h1).elim
def qk {g : Nat} {fn : Func} {c : Code} {args : List AV} {ch : Chunk} {R1 : AV → Chunk → Prop} (hT : bM P T) (dF : P.funcs[g]? = some fn) (dN : (fn.name == "runtime.NumGoroutine") = false) (hb : fn.body = some c) (hn : fn.ntmps = n) (hle : args.length ≤ n)
  (h:Ok P n c ⟨kU args,[(1000,ch)]⟩ (sA T fn.results.toList (ZG R1))):mr P g args ch R1:=by
 refine ⟨⟨fn,c,dF,dN,hb⟩,fun w F β vs hI hs hv=>?_⟩;refine (Hh hT dF hb hn hle h hI hs hv).mono ?_;rintro e w' ⟨v,rfl,x,st,F',av,⟨r,c',hR,fO,gU,hz⟩,hx,he⟩;have hm:=eX fO;have Na:av 1000=β 1000:=he.gp 1000 (bF _);have AX:=he.inv.ow 1000
 have Nq:∀b,bD β [(1000,ch)] b↔bQ (β 1000)=some b:=fun b=>⟨fun ⟨i,c,hm,hb⟩=>by
  simp only [dD,ig] at hm; rw [←hm.1]; exact hb,fun hb=>⟨1000,ch,by simp,hb⟩⟩
 have acj:∀b,bQ (β 1000)=some b→bD av st.H b:=fun b hb=>⟨1000,c',hm,by rw [Na]; exact hb⟩;refine ⟨v,rfl,r,c',fun b=>F' b∨bD av (ow 1000 st.H) b,hR,hz w' F' av v AX hx,he.os,he.tape,he.output,he.size,fun b aK aO=>he.block b aK fun ho=>aO ((Nq b).1 ho),fun b hb=>.inl (he.mono b hb),fun b hb=>?_,gU,?_⟩
 ·rcases hb with hb | ⟨i,ci,rh,hb⟩
  ·rcases he.new b hb with h1 | h1 | h1
   ·exact .inl h1
   ·exact .inr ⟨h1,he.inv.cC b hb⟩
   ·exact absurd hb (he.inv.apart b (acj b ((Nq b).1 h1)))
  ·have ho:bD av st.H b:=⟨i,ci,(vN.1 rh).1,hb⟩
   rcases he.owned b ho with h1 | h1
   ·exact .inr ⟨h1,he.inv.fI ho⟩
   ·exact absurd (he.inv.eA i ci 1000 c' b (vN.1 rh).1 hm hb (by rw [Na]; exact (Nq b).1 h1)) (vN.1 rh).2
 ·exact pA gU (fun _ h=>.inl h) Na.symm (he.inv.holds _ _ hm)
end
instance ak6:dK:=dK.no
end
section
open Go.RowKit
variable [M:bK] [G:cL] [R:dK]
local instance akY:qK:=⟨[]⟩
local instance akV:mj:=⟨[]⟩
def Hi (ops:Array Oper) (i:Nat) (o:Oper):Bool :=
 match o.dst with
 | none=>true
 | some d=>eL d 1000&&(gu ops.size).all fun j=>i==j||((ops[j]?).bind (·.dst)) != some d
def LJ (ops:Array Oper) (i:Nat) (o:Oper):Bool :=
 (o.looksAt ops).all fun t=>(gu ops.size).all fun j=>match ops[j]? with
  | none=>true
  | some o'=>(o'.dst != some t)||iM ops i j
def uj (chain:List (Nat×List Nat)) (ops:Array Oper):List Nat:=(gu ops.size).filter fun i=>!(chain.any fun c=>aH c.1 i)
def p0 (chain:List (Nat×List Nat)) (ops:Array Oper):List (Nat×List Nat)→Bool
 | []=>true
 | c::r=>eL c.1 ops.size&&((match ops[c.1]? with | some _=>true | none=>false)&&(((uj chain ops).all fun i=>iM ops c.1 i||c.2.elem i)&&((match r with | []=>true | c'::_=>iM ops c'.1 c.1)&&p0 chain ops r)))
def RZ (chain:List (Nat×List Nat)) (ops:Array Oper):Bool :=
 ((gu ops.size).all fun i=>match ops[i]? with
  | none=>true
  | some o=>xX i o&&(ue ops i o&&(Hi ops i o&&LJ ops i o)))&&(p0 chain ops chain&&((uj chain ops).all fun i=>match ops[i]? with | some o=>o.dst.isSome | none=>true))
def HK (chain:List (Nat×List Nat)) (ops:Array Oper):List Oper:=(uj chain ops).filterMap fun i=>ops[i]?
def R2 (P:Program) (T:TT) (n:Nat) (ops:Array Oper):List (Nat×List Nat)→ae→(ae→Prop)→Prop
 | [],st,K=>K st
 | c::r,st,K=>match ops[c.1]? with
  | some o=>gd n ops o st (fun st=>step P T o st fun x aq=>put n o.dst aq x fun fK=>qh P T ops fK c.2∧R2 P T n ops r fK K) fun st=>put n o.dst st (.v undef) fun fK=>qh P T ops fK c.2∧R2 P T n ops r fK K
  | none=>False
section
variable {P:Program} {T:TT} {C:Ctx}
structure GZ (C:Ctx) (ops:Array Oper) (m:Nat) (fA:Nat→AV) (Hm:Hp) (listed:Array Bool) (a:Act) (w:World):Prop where
 ex:∃F β,a.tmps.size=C.n∧True∧XM C a.defers w F β Hm ∧
  (∀t,(∀i o,i<m→ops[i]?=some o→o.dst=some t→listed.getD i false=true)→Rd w F β (fA t) (a.tmps.getD t undef))
def abt {ops:Array Oper} {m i n:Nat} {o:Oper} {fe:Nat→AV} {Hm:Hp} {listed:Array Bool} {a:Act} {w:World} {Q:Exit→Act→World→Prop} {N:Act→World→Prop}
  (hT:bM P T) (hn:C.n=n) (aZ:listed.size=ops.size) (ho:ops[i]?=some o)
  (Bf:∀t j o',j<m→t∈o.looksAt ops→ops[j]?=some o'→o'.dst=some t→listed.getD j false=true)
  (bW:vA P T ops Hm fe o) (Φ:∀d,o.dst=some d→d<n) (h:GZ C ops m fe Hm listed a w)
  (hN:∀a w,GZ C ops m fe Hm (listed.setIfInBounds i true) a w→N a w):wpOpIn (fM C.ro) 0 P ops Q i N a w:=by
 obtain ⟨F,β,hs,hd,he,hf⟩:=h.ex;obtain ⟨d,fi,bW⟩:=bW
 have yy:d<a.tmps.size:=by rw [hs,hn]; exact Φ d fi
 have eJ:i<listed.size:=by rw [aZ]; exact (lg.1 ho).1
 have look:∀t,t∈o.looksAt ops→Rd w F β (fe t) (a.tmps.getD t undef):=fun t ht=>hf t fun j o' hj aB bG=>Bf t j o' hj ht aB bG
 have rD:∀x,x∈o.op.operands→Rd w F β (ev fe x) (a.eval x):=fun x hx=>by
  cases x with
  | tmp t=>exact look t (qE _ (mb.2 ⟨.tmp t,by simpa using hx,rfl⟩))
  | const v=>exact nV _ _ _ _
  | global g=>exact .χ
  | func g=>exact .i (.c rfl rfl (fun i hi=>absurd hi (by simp)) (fun i hi=>absurd hi (by simp)))
 have hI:Inv w F β Hm:=he.inv
 have done:∀(v:Value) (w':World),Below w.heap.size w w'→Rd w' (fD F w w') β (fe d) v→GZ C ops m fe Hm (listed.setIfInBounds i true) (a.put (some d) v) w':=fun v w' hb hv=>by
  have hx:=vQ (st:=⟨aF,Hm⟩) he.inv hb;refine ⟨fD F w w',β,by simpa [iK] using hs,hd,he.trans hx,fun t ht=>?_⟩;by_cases pD:t=d
  ·subst pD;simpa [iK,yy] using hv
  ·have h1:=(hf t fun j o' hj aB bG=>by
    have:=ht j o' hj aB bG;rw [fC eJ] at this;split at this
    ·rename_i e;subst e;rw [ho] at aB; cases aB;rw [fi] at bG; cases bG; exact absurd rfl pD
    ·exact this).later hb he.inv.cC
   simpa [iK,xg (j1 pD)] using h1
 have run:(nY P T o (ev fe) Hm fun r=>r=fe d)→o.wpIn (fM C.ro) 0 P a w N Q:=fun hs=>by
  have dJ:=Xz hs
  rcases XA hT hI rD hs with ⟨v,w',a_,hb,r,rfl,hv⟩ | ⟨g,vs,a_,hc⟩
  ·refine Oper.ke dJ a_ ?_;rw [xu,fi];exact hN _ _ (done v w' hb hv)
  ·refine Oper.ke dJ a_ ?_;rw [Ao];refine ⟨fun h=>(by cases h),vI (hc.mono ?_)⟩;rintro e w' ⟨v,rfl,hb,r,rfl,hv⟩;rw [fi];exact hN _ _ (done v w' hb hv)
 have skip:fe d=.v undef→N (a.put o.dst undef) w:=fun h0=>by
  rw [fi];exact hN _ _ (done undef w (Below.refl _ _) (by rw [h0]; exact .i (.v (.inr rfl))))
 unfold wpOpIn;simp only [ho];cases hg:o.guard with
 | none =>
  rw [hg] at bW
  have hw:dS o (yielded ops a.tmps)=true:=by simp [dS,hg]
  rw [if_pos hw];exact run bW
 | some jw =>
  obtain ⟨j,want⟩:=jw;rw [hg] at bW;obtain ⟨g,ep,bW⟩:=bW
  have uy:g∈o.looksAt ops:=by
   refine vj _ ?_;rw [hg];simp [ep]
  have pc:=look g uy
  have hy:∀v,v≠undef→a.tmps.getD g undef=v→yielded ops a.tmps j=match v with | .bool b=>some b | _=>none:=by
   intro v aO hv
   have h2:a.tmps[g]?=some v:=by
    by_cases hl:g<a.tmps.size
    ·rw [←hv]; simp [hl]
    ·exact absurd (by rw [←hv]; simp [hl]) aO
   unfold yielded;rw [ep,cD,h2];cases v <;> rfl
  rcases bW with ⟨h1,h2⟩ | ⟨h1,h2⟩ | ⟨⟨vs,h1⟩,h2⟩
  ·rw [h1] at pc;have gY:=hy _ (by simp [undef]) pc.bL
   have hw:dS o (yielded ops a.tmps)=true:=by simp [dS,hg,gY]
   rw [if_pos hw];exact run h2
  ·rw [h1] at pc;have gY:=hy _ (by simp [undef]) pc.bL
   have hw:¬dS o (yielded ops a.tmps)=true:=by simp [dS,hg,gY]
   rw [if_neg hw];exact ⟨fun _ _=>trivial,skip h2⟩
  ·rw [h1] at pc;have hv:=pc.bL
   have gY:yielded ops a.tmps j=none:=by
    unfold yielded;rw [ep,cD];by_cases hl:g<a.tmps.size
    ·have h3:a.tmps[g]?=some (.tuple vs):=by rw [←hv]; simp [hl]
     rw [h3]
    ·simp [YT (Nat.le_of_not_lt hl)]
   have hw:¬dS o (yielded ops a.tmps)=true:=by simp [dS,hg,gY]
   rw [if_neg hw];exact ⟨fun _ _=>trivial,skip h2⟩
def I4 {chain:List (Nat×List Nat)} {ops:Array Oper} {i:Nat}:i∈uj chain ops↔i<ops.size∧∀c,c∈chain→c.1≠i:=by
 unfold uj;rw [eB,me];refine and_congr_right fun _=>?_;simp only [Bool.not_eq_true',List.any_eq_false];refine ⟨fun h c hc e=>h c hc (by rw [e]; exact iX _),fun h c hc e=>h c hc (cR e)⟩
end
end
end Go.Cat
