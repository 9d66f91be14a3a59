/- The logic that the walks are in, piece P4. No condition. -/
import Derived.Test.YthkdflbnmbnbaaaGreatXShotRightCatP3
import Derived.ProofKit
set_option linter.all false
namespace Go.Cat
open Go.RowKit
variable [M:Mono]
class Mks where
 md:List Nat
class Mch where
 ch:List (Nat×Chunk)
def alOf [MD:Mks] (o:Oper):Option (Nat×Option Nat) :=
 match o.op,o.dst,o.guard with
 | .alloc t,some d,none=>some (d,some t)
 | .call _,some d,none=>bif MD.md.elem d then some (d,none) else none
 | _,_,_=>none
def isAl [MD:Mks] (o:Oper):Bool :=
 match alOf o with
 | some (_,some _)=>true
 | _=>false
def labAV (d:Nat):Chunk→AV
 | .box _=>.b d 0
 | .own ..=>.o d
 | .mp ..=>.m d
 | .lp ..=>.junk
 | .si ..=>.b d 0
def lkCh:List (Nat×Chunk)→Nat→Option Chunk
 | [],_=>none
 | (i,c)::r,d=>bif Nat.beq d i then some c else lkCh r d
def eraseAll:List (Nat×Option Nat)→ASt→ASt
 | [],st=>st
 | (d,_)::r,st=>eraseAll r ⟨fun t=>er 2 d (st.f t),erH d st.H⟩
def preOf [CH:Mch] (d:Nat):Bool:=match lkCh CH.ch d with | some (.own ..)=>true | _=>false
def preB [CH:Mch]:List (Nat×Option Nat)→(Nat→AV)→Nat→AV
 | [],f=>f
 | (d,none)::r,f=>preB r (bif preOf d then upd f d (.o d) else f)
 | (_,some _)::r,f=>preB r f
theorem preB_no [CH:Mch] {t:Nat}:∀{l:List (Nat×Option Nat)} {f:Nat→AV},(∀x,(t,x)∉l)→preB l f t=f t
 | [],f,_=>rfl
 | (d,none)::r,f,h=>by
  have hne:t≠d:=fun e=>h none (by rw [e]; exact List.mem_cons_self ..)
  unfold preB
  rw [preB_no fun x hx=>h x (List.mem_cons_of_mem _ hx)]
  have hb:Nat.beq t d=false:=by
   cases h':Nat.beq t d with
   | false=>rfl
   | true=>exact absurd (Nat.eq_of_beq_eq_true h') hne
  cases preOf d with
  | true=>show (bif Nat.beq t d then _ else _)=_; rw [hb]; rfl
  | false=>rfl
 | (d,some y)::r,f,h=>by
  unfold preB
  exact preB_no fun x hx=>h x (List.mem_cons_of_mem _ hx)
theorem preB_yes [CH:Mch] {t:Nat} (hp:preOf t=true):∀{l:List (Nat×Option Nat)} {f:Nat→AV},(l.map (·.1)).Nodup→(t,none)∈l→preB l f t=.o t
 | (d,none)::r,f,hn,hm=>by
  rw [List.map_cons,List.nodup_cons] at hn
  unfold preB
  by_cases e:t=d
  ·subst e
   rw [hp,preB_no fun x hx=>hn.1 (List.mem_map.2 ⟨(t,x),hx,rfl⟩)]
   show (bif Nat.beq t t then _ else _)=_
   rw [Nat.beq_refl]; rfl
  ·exact preB_yes hp hn.2 ((List.mem_cons.1 hm).resolve_left fun h=>e (by cases h; rfl))
 | (d,some y)::r,f,hn,hm=>by
  rw [List.map_cons,List.nodup_cons] at hn
  unfold preB
  exact preB_yes hp hn.2 ((List.mem_cons.1 hm).resolve_left fun h=>by cases h)
def bindAll [CH:Mch] (T:TT) (n:Nat):List (Nat×Option Nat)→ASt→(ASt→Prop)→Prop
 | [],st,K=>K st
 | (d,some t)::r,st,K=>match T t with
  | some i=>bif okCells (ofV i.zero)&&Nat.blt d n then bindAll T n r ⟨upd st.f d (.b d 0),(d,.box (cellsL (ofV i.zero)))::st.H⟩ K else False
  | none=>False
 | (d,none)::r,st,K=>match lkCh CH.ch d with
  | some c=>bif Nat.blt d n then bindAll T n r ⟨upd st.f d (labAV d c),(d,c)::st.H⟩ K else False
  | none=>False
def ChOf [CH:Mch] (T:TT) (d:Nat) (x:Option Nat) (c:Chunk):Prop :=
 match x with
 | some t=>∃z,T t=some z∧okCells (ofV z.zero)=true∧c=.box (cellsL (ofV z.zero))
 | none=>lkCh CH.ch d=some c
theorem ChOf.uniq [CH:Mch] {T:TT} {d:Nat} {x:Option Nat} {c c':Chunk} (h:ChOf T d x c) (h':ChOf T d x c'):c=c':=by
 cases x with
 | some t =>
  obtain ⟨z,h1,_,rfl⟩:=h
  obtain ⟨z',h1',_,rfl⟩:=h'
  rw [h1] at h1'; cases h1'; rfl
 | none =>
  unfold ChOf at h h'
  simp only at h h'
  rw [h] at h'; exact Option.some.inj h'
def Makes (P:Program) (g:FuncId) (args:List AV) (c:Chunk):Prop :=
 Entered P g∧∀(w:World) (F:Nat→Prop) (β:Nat→Value) (vs:Array Value),Inv w F β []→vs.size=args.length→(∀i,i < args.length→Rd w F β (args.getD i .junk) (vs.getD i undef)) →
  Calls P g vs w fun e w'=>∃v,e=.returned v∧Below w.heap.size w w'∧∃F',(∀b,F b→F' b)∧(∀b,F' b→FNew F w w' b)∧(∀β' i,β' i=v→c.holds w' F' β' i∧Rd w' F' β' (labAV i c) v) ∧
   ∀b,blkOf v=some b→w.heap.size≤b∧¬F' b
def MkOk (P:Program) (f:Nat→AV) (o:Oper) (c:Chunk):Prop :=
 match o.op with
 | .call q=>match q.callee with
  | .value x=>match ev f x with
   | .c (.func g) fs cs=>∃ys,Makes P g ys c∧LeL (fs++(q.args.toList.map (ev f)++cs)) ys
   | _=>False
  | _=>False
 | _=>False
def mksOk [MD:Mks] [CH:Mch] (P:Program) (f:Nat→AV):List Oper→Prop
 | []=>True
 | o::r=>match alOf o with
  | some (d,none)=>(match lkCh CH.ch d with
   | some c=>MkOk P f o c
   | none=>False)∧mksOk P f r
  | _=>mksOk P f r
theorem mksOk_mem [MD:Mks] [CH:Mch] {P:Program} {f:Nat→AV} {o:Oper} {d:Nat}:∀{l:List Oper},mksOk P f l→o∈l→alOf o=some (d,none)→∃c,lkCh CH.ch d=some c∧MkOk P f o c
 | [],_,h,_=>by cases h
 | p::r,hl,h,ha=>by
  rcases List.mem_cons.1 h with rfl | h
  ·simp only [mksOk,ha] at hl
   have h1:=hl.1
   split at h1
   ·rename_i c hc; exact ⟨c,hc,h1⟩
   ·exact h1.elim
  ·simp only [mksOk] at hl
   split at hl
   ·exact mksOk_mem hl.2 h ha
   ·exact mksOk_mem hl h ha
def sAppend (T:TT) (t t':Nat) (s x:AV) (H:Hp) (k:AV→Prop):Prop :=
 match T t with
 | some i=>match i.kind with
  | .slice e=>match T e with
   | some j =>
    bif Nat.beq j.bytes 0||(Nat.beq j.cells 0||!(Nat.beq j.zero.cells.size j.cells)) then False else
    bif (match s with | .v (.slice none 0 0)=>true | .z=>true | _=>false) then
     appSrc T t t' e x 5000 H fun rows'=>RowsLen rows' j.cells∧rows'.length * j.bytes≤140737488355328∧∃R,rows'=R∧k (.s R)
    else False
   | none=>False
  | _=>False
 | none=>False
def stepD (P:Program) (T:TT) (o:Oper) (ρ:Operand→AV) (H:Hp) (k:AV→Prop):Prop :=
 match o.op with
 | .buildSlice t n parts=>match n with
  | 0=>sBuildS T t 0 (parts.toList.map fun q=>(q.1,ρ q.2)) fun _ _ _=>k .z
  | n+1=>sBuildS T t (n+1) (parts.toList.map fun q=>(q.1,ρ q.2)) fun rows _ _=>bif rows.all (fun r=>r.all imm0) then k (.s (rows.map fun r=>r.map nz)) else False
 | .call c=>match c.callee with
  | .builtin .append=>match c.argTypes.toList,c.args.toList.map ρ with
   | [t,t'],[s,x]=>sAppend T t t' s x H k
   | _,_=>False
  | _=>stepS P T o ρ H k
 | _=>stepS P T o ρ H k
def wpd (P:Program) (T:TT) (n:Nat) (all:Array Oper):List Oper→ASt→(ASt→Prop)→Prop
 | [],st,K=>K st
 | o::os,st,K=>gd n all o st (fun st=>∃r,stepD P T o (ev st.f) st.H (fun r'=>r'=r)∧put n o.dst st r fun st'=>wpd P T n all os st' K) fun st=>put n o.dst st (.v undef) fun st'=>wpd P T n all os st' K
section
variable {P:Program} {T:TT} {w:World} {F:Nat→Prop} {β β':Nat→Value} {H:Hp}
theorem stepS_congr {o:Oper} {ρ ρ':Operand→AV} {k:AV→Prop} (h:∀x,x∈o.op.operands→ρ x=ρ' x) (hs:stepS P T o ρ H k):stepS P T o ρ' H k:=by
 obtain ⟨dst,op,type,pos,after,guard⟩:=o
 have parts:∀ps:Array (Nat×Operand),(∀x,x∈ps.map (·.2)→ρ x=ρ' x)→(ps.toList.map fun q=>(q.1,ρ q.2))=ps.toList.map fun q=>(q.1,ρ' q.2):=fun ps hp =>
  List.map_congr_left fun q hq=>by rw [hp q.2 (Array.mem_map.2 ⟨q,by simpa using hq,rfl⟩)]
 have lst:∀xs:Array Operand,(∀x,x∈xs→ρ x=ρ' x)→xs.toList.map ρ=xs.toList.map ρ':=fun xs hp=>List.map_congr_left fun x hx=>hp x (by simpa using hx)
 cases op <;> simp only [Op.operands] at h <;> simp only [stepS] at hs ⊢
 case build t ps=>rwa [←parts ps fun x hx=>h x (by simpa using hx)]
 case buildSlice t n ps=>rwa [←parts ps fun x hx=>h x (by simpa using hx)]
 case makeFunc fn fs cs=>rwa [←lst fs fun x hx=>h x (by simp [hx]),←lst cs fun x hx=>h x (by simp [hx])]
 case slice t x lo hi mx=>cases lo <;> cases hi <;> cases mx <;> simp_all
 case call c =>
  obtain ⟨callee,args,argTypes⟩:=c
  have ha:=lst args fun x hx=>h x (by simp [Call.operands,hx])
  cases callee with
  | builtin b=>simp only at hs ⊢; rwa [←ha]
  | value f=>simp only at hs ⊢; rwa [←ha,←h f (by simp [Call.operands])]
  | invoke r m=>exact hs
 all_goals first | exact hs | (simp_all; done)
theorem stepD_congr {o:Oper} {ρ ρ':Operand→AV} {k:AV→Prop} (h:∀x,x∈o.op.operands→ρ x=ρ' x) (hs:stepD P T o ρ H k):stepD P T o ρ' H k:=by
 obtain ⟨dst,op,type,pos,after,guard⟩:=o
 have parts:∀ps:Array (Nat×Operand),(∀x,x∈ps.map (·.2)→ρ x=ρ' x)→(ps.toList.map fun q=>(q.1,ρ q.2))=ps.toList.map fun q=>(q.1,ρ' q.2):=fun ps hp =>
  List.map_congr_left fun q hq=>by rw [hp q.2 (Array.mem_map.2 ⟨q,by simpa using hq,rfl⟩)]
 have lst:∀xs:Array Operand,(∀x,x∈xs→ρ x=ρ' x)→xs.toList.map ρ=xs.toList.map ρ':=fun xs hp=>List.map_congr_left fun x hx=>hp x (by simpa using hx)
 cases op
 case buildSlice t n ps =>
  cases n with
  | zero=>simp only [stepD] at hs ⊢; rwa [←parts ps fun x hx=>h x (by simpa [Op.operands] using hx)]
  | succ n=>simp only [stepD] at hs ⊢; rwa [←parts ps fun x hx=>h x (by simpa [Op.operands] using hx)]
 case call c =>
  obtain ⟨callee,args,argTypes⟩:=c
  have ha:=lst args fun x hx=>h x (by simp [Op.operands,Call.operands,hx])
  have old:=stepS_congr (P:=P) (T:=T) (k:=k) (H:=H) (o:=⟨dst,.call ⟨callee,args,argTypes⟩,type,pos,after,guard⟩) h
  cases callee with
  | builtin b=>cases b <;> first | exact old hs | (simp only [stepD] at hs ⊢; rwa [←ha])
  | value f=>exact old hs
  | invoke r m=>exact old hs
 all_goals exact stepS_congr (P:=P) (T:=T) (H:=H) (k:=k) h hs
theorem sAppend_sound {t t':Nat} {s x:AV} {vs vx:Value} {k:AV→Prop} (hT:TOk P T) (hI:Inv w F β H) (hs:Rd w F β s vs) (hx:Rd w F β x vx) (h:sAppend T t t' s x H k) (ty:TypeId) :
  Gives P (Builtin.append_ #[t,t'] ty #[vs,vx]) w F β k:=by
 unfold sAppend at h
 split at h
 ·rename_i i hi
  split at h
  ·rename_i e he
   split at h
   ·rename_i j hj
    cases hb:(Nat.beq j.bytes 0||(Nat.beq j.cells 0||!(Nat.beq j.zero.cells.size j.cells))) with
    | true=>rw [hb] at h; exact h.elim
    | false =>
     rw [hb] at h
     simp only [Bool.or_eq_false_iff,Bool.not_eq_false'] at hb
     have hb0:j.bytes≠0:=fun e=>by have:=hb.1; rw [e] at this; cases this
     have hz:j.zero.cells.size=j.cells:=Nat.eq_of_beq_eq_true hb.2.2
     simp only [cond_false] at h
     obtain ⟨hsz,h⟩:=cond_prop h
     obtain ⟨a,rfl⟩:∃a,vs=.slice a 0 0:=by
      split at hsz
      ·exact ⟨none,hs.v_inv⟩
      ·exact hs.z_inv
      ·cases hsz
     obtain ⟨rows,⟨hlen,hby,R,rfl,hk⟩,news,hsrc,hrd⟩:=appSrc_spec (st:=⟨noSlots,H⟩) (kk:=fun rows'=>RowsLen rows' j.cells∧rows'.length * j.bytes≤140737488355328∧∃R,rows'=R∧k (.s R)) hT hI hi he hj hx h fun rows hr=>hr.1
     have hI0:Inv w F (fun i=>if i=0 then .slice a 0 0 else β i) [(0,.own e j.cells [])] :=
      ⟨hI.fsize,fun i c hm=>by simp only [List.mem_singleton,Prod.mk.injEq] at hm; obtain ⟨rfl,rfl⟩:=hm; exact .inl ⟨rfl,a,if_pos rfl⟩,by simp,
       fun b ⟨i,c,hm,hb⟩=>by simp only [List.mem_singleton,Prod.mk.injEq] at hm; obtain ⟨rfl,rfl⟩:=hm; simp only [if_true] at hb; cases a <;> simp [blkOf] at hb,
       fun i c i' c' b h h' _ _=>by simp only [List.mem_singleton,Prod.mk.injEq] at h h'; rw [h.1,h'.1]⟩
     obtain ⟨v',w',hr,r,st',F',β',⟨rfl,rfl⟩,hv,hx⟩:=append_sound (st:=⟨noSlots,[(0,.own e j.cells [])]⟩) (L:=0) (rows:=[]) (rows':=rows) (v:=.slice a 0 0) (k:=fun r st'=>r=.o 0∧st'=bindSt ⟨noSlots,[(0,.own e j.cells [])]⟩ 0 (.own e j.cells rows)) (ty:=ty)
      (by decide) hT hI0 hi he hj hb0 hz (.inr ⟨by simp,if_pos rfl⟩) ⟨news,hsrc,hrd⟩ hlen (by simpa using hby) ⟨rfl,by simp⟩
     have hno:∀b,¬Owned (fun i=>if i=0 then Value.slice a 0 0 else β i) [(0,.own e j.cells [])] b:=fun b ⟨i,c,hm,hb⟩=>by
      simp only [List.mem_singleton,Prod.mk.injEq] at hm; obtain ⟨rfl,rfl⟩:=hm; simp only [if_true] at hb; cases a <;> simp [blkOf] at hb
     have hm0:(0,Chunk.own e j.cells rows)∈(bindSt ⟨noSlots,[(0,.own e j.cells [])]⟩ 0 (.own e j.cells rows)).H:=by simp [bindSt]
     refine ⟨v',w',.s rows,hr,⟨hx.os,hx.tape,hx.output,hx.size,fun b hb=>hx.block b hb (hno b)⟩,hk,.i ?_⟩
     refine (freeze_rd hx.inv hm0 hv).frame (fun _ _=>rfl) fun b hb=>?_
     rcases hb with hb | hb
     ·rcases hx.new b hb with h1 | h1 | h1
      ·exact .inl h1
      ·exact .inr ⟨h1,hx.inv.fsize b hb⟩
      ·exact absurd h1 (hno b)
     ·have ho:Owned β' (bindSt ⟨noSlots,[(0,.own e j.cells [])]⟩ 0 (.own e j.cells rows)).H b:=⟨0,_,hm0,hb⟩
      rcases hx.owned b ho with h1 | h1
      ·exact .inr ⟨h1,hx.inv.owned_lt ho⟩
      ·exact absurd h1 (hno b)
   ·exact h.elim
  ·exact h.elim
 ·exact h.elim
theorem stepD_sound {o:Oper} {ρ:Operand→AV} {a:Act} {k:AV→Prop} (hT:TOk P T) (hI:Inv w F β H) (hρ:∀x,x∈o.op.operands→Rd w F β (ρ x) (a.eval x))
  (h:stepD P T o ρ H k):QOut P (execOp a.eval o) w fun v w'=>∃r,k r∧Rd w' (FNew F w w') β r v:=by
 obtain ⟨dst,op,type,pos,after,guard⟩:=o
 cases op
 case buildSlice t n parts =>
  cases n with
  | succ n=>exact stepS_sound (o:=⟨dst,.buildSlice t (n+1) parts,type,pos,after,guard⟩) hT hI hρ h
  | zero =>
   simp only [stepD] at h
   simp only [Op.operands] at hρ
   simp only [execOp]
   obtain ⟨rows,e,size,us,hk,_,hs,hrl,hrs,hus,hsz,hrun,hlen⟩:=run_buildSlice (P:=P) (w:=w) (F:=F) (β:=β) hT (parts_len ρ a.eval parts) (parts_rd fun x hx=>hρ x (by simpa using hx)) h
   exact (show Gives P (Instr.buildSlice t 0 (parts.map fun x=>(x.1,a.eval x.2))) w F β k from ⟨_,_,_,hrun,below_alloc w (.cells us e),hk,.i .z⟩).out
 case call c =>
  obtain ⟨callee,args,argTypes⟩:=c
  have old:=stepS_sound (P:=P) (T:=T) (w:=w) (F:=F) (β:=β) (H:=H) (k:=k) (o:=⟨dst,.call ⟨callee,args,argTypes⟩,type,pos,after,guard⟩) (ρ:=ρ) (a:=a) hT hI hρ
  cases callee with
  | value f=>exact old h
  | invoke r m=>exact old h
  | builtin b =>
   cases b
   case append =>
    simp only [stepD] at h
    simp only [execOp]
    have hargs:∀i,i < (args.toList.map ρ).length→Rd w F β ((args.toList.map ρ).getD i .junk) ((args.map a.eval).getD i undef):=fun i hi=>by
     simp at hi
     have:=hρ args[i] (by simp [Op.operands,Call.operands])
     simpa [List.getD,hi] using this
    split at h
    ·rename_i t t' s x e1 e2
     have e1':argTypes=#[t,t']:=by rw [←Array.toArray_toList (xs:=argTypes),e1]
     have hl:args.size=2:=by have:=congrArg List.length e2; simpa using this
     rw [e2] at hargs
     have h0:=hargs 0 (by simp)
     have h1:=hargs 1 (by simp)
     have ea:args.map a.eval=#[(args.map a.eval).getD 0 undef,(args.map a.eval).getD 1 undef]:=by
      apply Array.ext
      ·simp [hl]
      ·intro i h1 h2
       have:i=0∨i=1:=by simp at h2; omega
       rcases this with rfl | rfl <;> simp [hl]
     have e:(do let d ←resolve a.eval { callee:=.builtin .append,args:=args,argTypes:=argTypes } type; invoke d.target d.args:Sem Next)=builtin .append argTypes type (args.map fun | .const _=>true | _=>false) (args.map a.eval):=rfl
     rw [e,ea,e1']
     exact (sAppend_sound (ty:=type) hT hI (by simpa using h0) (by simpa using h1) h).out
    ·exact h.elim
   all_goals exact old h
 all_goals exact stepS_sound (P:=P) (T:=T) (H:=H) (k:=k) hT hI hρ h
theorem Rd.undef_change {d:Nat} (hd:β d=undef) (hβ:∀i,i≠d→β' i=β i) {x:AV} {u:Value} (h:Rd w F β x u):Rd w F β' x u:=by
 have ne:∀{i:Nat} {v:Value},β i=v→v≠undef→i≠d:=fun h hv e=>hv (by rw [←h,e,hd])
 induction h with
 | i h=>exact .i h
 | junk=>exact .junk
 | b h=>exact .b ((hβ _ (ne h (by simp [undef]))).trans h)
 | o h=>exact .o ((hβ _ (ne h (by simp [undef]))).trans h)
 | e h=>exact .e ((hβ _ (ne h (by simp [undef]))).trans h)
 | w h hd ha=>exact .w ((hβ _ (ne h (by simp [undef]))).trans h) hd ha
 | m h=>exact .m ((hβ _ (ne h (by simp [undef]))).trans h)
 | a hs hone h ih=>exact .a hs hone ih
 | t hs h ih=>exact .t hs ih
 | c hs hs' h h' ih ih'=>exact .c hs hs' ih ih'
theorem holds_change {d i:Nat} {c:Chunk} (hd:β d=undef) (hβ:∀i,i≠d→β' i=β i) (hi:i≠d) (h:c.holds w F β i):c.holds w F β' i:=by
 cases c with
 | box cells =>
  obtain ⟨b,cs,e,hb,hh,hs,h1,hr⟩:=h
  exact ⟨b,cs,e,(hβ i hi).trans hb,hh,hs,h1,fun j hj=>(hr j hj).undef_change hd hβ⟩
 | own E k rows =>
  unfold Chunk.holds at *
  rw [hβ i hi]
  exact h
 | mp ag rows =>
  unfold Chunk.holds at *
  rw [hβ i hi]
  exact h
 | si s pos =>
  unfold Chunk.holds at *
  rw [hβ i hi]
  exact h
 | lp l e R L =>
  obtain ⟨fn,tmps,D,hb,hh,hn,hr⟩:=h
  exact ⟨fn,tmps,D,(hβ i hi).trans hb,hh,hn,fun p hp=>(hr p hp).undef_change hd hβ⟩
theorem Inv.sub {H':Hp} (h:Inv w F β H) (hsub:∀x,x∈H'→x∈H) (hk:(H'.map (·.1)).Nodup):Inv w F β H' :=
 ⟨h.fsize,fun id c hm=>h.holds id c (hsub _ hm),hk,fun b ⟨id,c,hm,hb⟩=>h.apart b ⟨id,c,hsub _ hm,hb⟩,fun id c id' c' b h1 h2=>h.disj id c id' c' b (hsub _ h1) (hsub _ h2)⟩
theorem Ext.congr_heap {w0:World} {F0:Nat→Prop} {β0:Nat→Value} {st0:ASt} {H':Hp} (h:Ext w0 F0 β0 st0 w F β ⟨noSlots,H⟩) (hmem:∀x,x∈H'↔x∈H) (hk:(H'.map (·.1)).Nodup):Ext w0 F0 β0 st0 w F β ⟨noSlots,H'⟩ where
 os:=h.os
 tape:=h.tape
 output:=h.output
 size:=h.size
 block:=h.block
 mono:=h.mono
 new:=h.new
 owned:=fun b ⟨id,c,hm,hb⟩=>h.owned b ⟨id,c,(hmem _).1 hm,hb⟩
 keep:=fun _ _ _=>.junk
 inv:=h.inv.sub (fun x hx=>(hmem x).1 hx) hk
 lab:=h.lab
theorem ext_alloc {d:Nat} {cells:List AV} {us:Array Value} {e:TypeId} {f:Nat→AV} (hlow:d < 1000) (hI:Inv w F β H) (hd:β d=undef) (hkey:∀c,(d,c)∉H) (hs:us.size=cells.length) (h1:∀i,i < cells.length→(us.getD i undef).oneCell'=true)
  (hr:∀β,∀i,i < cells.length→Rd (w.alloc (.cells us e)) F β (cells.getD i .junk) (us.getD i undef)) :
  Ext w F β ⟨f,H⟩ (w.alloc (.cells us e)) F (fun i=>if i=d then .pointer (some ⟨w.heap.size,0,none⟩) else β i) ⟨f,(d,.box cells)::H⟩:=by
 have hβ:∀i,i≠d→(fun i=>if i=d then Value.pointer (some ⟨w.heap.size,0,none⟩) else β i) i=β i:=fun i hi=>if_neg hi
 have hal:∀b,b < w.heap.size→(w.alloc (.cells us e)).heap[b]?=w.heap[b]?:=fun b hb=>_root_.Go.heap_alloc_old w _ hb
 have ha:Agree F w (w.alloc (.cells us e)):=fun b hb=>hal b (hI.fsize b hb)
 have hne:∀{i c},(i,c)∈H→i≠d:=fun hm e=>hkey _ (e▸hm)
 have hown:∀b,Owned (fun i=>if i=d then Value.pointer (some ⟨w.heap.size,0,none⟩) else β i) ((d,.box cells)::H) b→b=w.heap.size∨Owned β H b:=by
  rintro b ⟨i,c,hm,hb⟩
  rcases List.mem_cons.1 hm with hm | hm
  ·cases hm
   simp [blkOf] at hb
   exact .inl hb.symm
  ·simp only [if_neg (hne hm)] at hb
   exact .inr ⟨i,c,hm,hb⟩
 refine ⟨rfl,⟨rfl,fun _=>(by first | exact Nat.le_refl _ | exact Nat.le_succ _)⟩,rfl,by simp,fun b hb _=>hal b hb,fun _ h=>h,fun _ h=>.inl h,fun b hb=>(hown b hb).elim (fun h=>.inl (by omega)) .inr,fun t u h=>(h.frame ha fun _ h=>h).undef_change hd hβ,?_,fun i hi=>hβ i (by omega)⟩
 refine ⟨fun b hb=>by have:=hI.fsize b hb; simp; omega,fun i c hm=>?_,?_,fun b ho hF=>?_,?_⟩
 ·rcases List.mem_cons.1 hm with hm | hm
  ·cases hm
   exact ⟨w.heap.size,us,e,by simp,heap_alloc_new w _,hs,h1,hr _⟩
  ·exact holds_change hd hβ (hne hm) (holds_frame ha (fun _ h=>h) (fun b hb=>hal b (hI.owned_lt ⟨i,c,hm,hb⟩)) (hI.holds i c hm))
 ·simp only [List.map_cons,List.nodup_cons]
  refine ⟨fun hm=>?_,hI.keys⟩
  obtain ⟨x,hx,hxe⟩:=List.mem_map.1 hm
  exact hkey x.2 (by rw [←hxe]; exact hx)
 ·rcases hown b ho with rfl | h
  ·have:=hI.fsize _ hF; omega
  ·exact hI.apart b h hF
 ·intro i c i' c' b hm hm' hb hb'
  rcases List.mem_cons.1 hm with hm | hm <;> rcases List.mem_cons.1 hm' with hm' | hm'
  ·cases hm; cases hm'; rfl
  ·cases hm
   simp [blkOf] at hb
   simp only [if_neg (hne hm')] at hb'
   have:=hI.owned_lt ⟨i',c',hm',hb'⟩; omega
  ·cases hm'
   simp [blkOf] at hb'
   simp only [if_neg (hne hm)] at hb
   have:=hI.owned_lt ⟨i,c,hm,hb⟩; omega
  ·simp only [if_neg (hne hm)] at hb
   simp only [if_neg (hne hm')] at hb'
   exact hI.disj i c i' c' b hm hm' hb hb'
def OpOk (P:Program) (T:TT) (all:Array Oper) (H:Hp) (fe:Nat→AV) (o:Oper):Prop :=
 ∃d,o.dst=some d∧match o.guard with
 | none=>stepD P T o (ev fe) H fun r=>r=fe d
 | some (j,want)=>∃g,(all[j]?).bind (·.dst)=some g ∧
   ((fe g=.v (.bool want)∧stepD P T o (ev fe) H fun r=>r=fe d)∨(fe g=.v (.bool (!want))∧fe d=.v undef)∨((∃vs,fe g=.v (.tuple vs))∧fe d=.v undef))
def Lin (all:Array Oper):List Oper→Prop
 | []=>True
 | o::r=>(∃d,o.dst=some d∧∀o',o'∈r→o'.dst≠some d)∧(∀t,t∈o.looksAt all→∀o',o'∈o::r→o'.dst≠some t)∧Lin all r
theorem upd_id {f:Nat→AV} {d:Nat} {x:AV} (h:f d=x):upd f d x=f:=by
 funext t
 unfold upd
 cases hb:Nat.beq t d with
 | true=>rw [Nat.eq_of_beq_eq_true hb,cond_true,h]
 | false=>rfl
theorem upd_at (f:Nat→AV) (d:Nat) (x:AV):upd f d x d=x:=by simp [upd]
theorem upd_ne {f:Nat→AV} {d t:Nat} {x:AV} (h:t≠d):upd f d x t=f t:=by
 unfold upd
 cases hb:Nat.beq t d with
 | true=>exact absurd (Nat.eq_of_beq_eq_true hb) h
 | false=>rfl
theorem wpd_extract {n:Nat} {all:Array Oper} {K:ASt→Prop}:∀(l:List Oper) (st:ASt),Lin all l→wpd P T n all l st K →
  ∃fe,(∀t,(∀o,o∈l→o.dst≠some t)→fe t=st.f t)∧K ⟨fe,st.H⟩∧(∀o,o∈l→∀d,o.dst=some d→d < n)∧∀o,o∈l→OpOk P T all st.H fe o:=by
 intro l
 induction l with
 | nil=>intro st _ h; exact ⟨st.f,fun _ _=>rfl,h,fun o ho=>(List.not_mem_nil ho).elim,fun o ho=>(List.not_mem_nil ho).elim⟩
 | cons o r ih =>
  intro st hlin h
  obtain ⟨⟨d,hd,hdr⟩,hlook,hlinr⟩:=hlin
  have on:∀x,put n o.dst st x (fun st'=>wpd P T n all r st' K)→∃fe,(∀t,(∀o',o'∈o::r→o'.dst≠some t)→fe t=st.f t)∧K ⟨fe,st.H⟩∧(∀o',o'∈o::r→∀d,o'.dst=some d→d < n)∧(∀o',o'∈r→OpOk P T all st.H fe o')∧fe d=x ∧
    ∀t,t∈o.looksAt all→fe t=st.f t:=by
   intro x hx
   rw [hd,put_eq] at hx
   obtain ⟨hlt,hx⟩:=cond_prop hx
   have hlt:d < n:=by simpa [Nat.blt_eq] using hlt
   obtain ⟨fe,h1,h2,h3,h4⟩:=ih ⟨upd st.f d x,st.H⟩ hlinr hx
   have hfd:fe d=x:=by rw [h1 d hdr]; exact upd_at _ _ _
   have hout:∀t,(∀o',o'∈o::r→o'.dst≠some t)→fe t=st.f t:=fun t ht=>by
    rw [h1 t fun o' ho'=>ht o' (List.mem_cons_of_mem _ ho')]
    exact upd_ne fun e=>ht o (by simp) (by rw [hd,e])
   refine ⟨fe,hout,h2,fun o' ho' d' hd'=>?_,h4,hfd,fun t ht=>hout t (hlook t ht)⟩
   rcases List.mem_cons.1 ho' with rfl | ho'
   ·rw [hd] at hd'; cases hd'; exact hlt
   ·exact h3 o' ho' d' hd'
  have ops:∀{fe:Nat→AV},(∀t,t∈o.looksAt all→fe t=st.f t)→∀x,x∈o.op.operands→ev st.f x=ev fe x:=fun hfe x hx=>by
   cases x with
   | tmp t =>
    refine (hfe t ?_).symm
    exact List.mem_append_left _ (List.mem_filterMap.2 ⟨.tmp t,by simpa using hx,rfl⟩)
   | _=>rfl
  unfold wpd at h
  rw [gd_eq] at h
  cases hg:o.guard with
  | none =>
   rw [hg] at h
   obtain ⟨x,hs,hp⟩:=h
   obtain ⟨fe,h1,h2,h3,h4,h5,h6⟩:=on x hp
   refine ⟨fe,h1,h2,h3,fun o' ho'=>?_⟩
   rcases List.mem_cons.1 ho' with rfl | ho'
   ·refine ⟨d,hd,?_⟩
    rw [hg,h5]
    exact stepD_congr (ops h6) hs
   ·exact h4 o' ho'
  | some jw =>
   obtain ⟨j,want⟩:=jw
   rw [hg] at h
   simp only at h
   split at h
   ·rename_i g hgd
    obtain ⟨_,h⟩:=cond_prop h
    have hgl:g∈o.looksAt all:=by
     refine List.mem_append_right _ ?_
     rw [hg]
     simp [hgd]
    split at h
    ·rename_i b hb
     by_cases hbw:b=want
     ·have:=h.y hbw
      rw [upd_id (by rw [hb,hbw])] at this
      obtain ⟨x,hs,hp⟩:=this
      obtain ⟨fe,h1,h2,h3,h4,h5,h6⟩:=on x hp
      refine ⟨fe,h1,h2,h3,fun o' ho'=>?_⟩
      rcases List.mem_cons.1 ho' with rfl | ho'
      ·refine ⟨d,hd,?_⟩
       rw [hg,h5]
       exact ⟨g,hgd,.inl ⟨by rw [h6 g hgl,hb,hbw],stepD_congr (ops h6) hs⟩⟩
      ·exact h4 o' ho'
     ·have hbn:b=!want:=by cases b <;> cases want <;> first | rfl | exact absurd rfl hbw
      have:=h.n hbn
      rw [upd_id (by rw [hb,hbn])] at this
      obtain ⟨fe,h1,h2,h3,h4,h5,h6⟩:=on _ this
      refine ⟨fe,h1,h2,h3,fun o' ho'=>?_⟩
      rcases List.mem_cons.1 ho' with rfl | ho'
      ·refine ⟨d,hd,?_⟩
       rw [hg]
       exact ⟨g,hgd,.inr (.inl ⟨by rw [h6 g hgl,hb,hbn],h5⟩)⟩
      ·exact h4 o' ho'
    ·rename_i vs hb
     obtain ⟨fe,h1,h2,h3,h4,h5,h6⟩:=on _ h
     refine ⟨fe,h1,h2,h3,fun o' ho'=>?_⟩
     rcases List.mem_cons.1 ho' with rfl | ho'
     ·refine ⟨d,hd,?_⟩
      rw [hg]
      exact ⟨g,hgd,.inr (.inr ⟨⟨vs,by rw [h6 g hgl,hb]⟩,h5⟩)⟩
     ·exact h4 o' ho'
    ·exact h.elim
   ·exact h.elim
end
end Go.Cat
set_option linter.all false
namespace Go.Cat
open Go.RowKit
variable [M:Mono] [MD:Mks] [CH:Mch] [R:Rnds]
def bitsOf (ops:Array Oper):Array Nat:=Region.before ops
def depOf (ops:Array Oper) (i j:Nat):Bool:=((bitsOf ops).getD i 0).testBit j
def chkA (i:Nat) (o:Oper):Bool:=o.after.all fun e=>!Region.binds .any e||decide (e.on < i)
def chkB (ops:Array Oper) (i:Nat) (o:Oper):Bool:=(List.range ops.size).all fun j=>!depOf ops i j||o.after.any fun e=>Region.binds .any e&&(e.on == j||depOf ops e.on j)
def chkD (m:Nat) (ops:Array Oper) (i:Nat) (o:Oper):Bool :=
 match o.dst with
 | none=>false
 | some d=>Nat.blt d 1000&&(List.range m).all fun j=>i == j||((ops[j]?).bind (·.dst)) != some d
def preO (o:Oper):Bool:=match alOf o with | some (d,none)=>preOf d | _=>false
def chkL (m:Nat) (ops:Array Oper) (i:Nat) (o:Oper):Bool :=
 isAl o||(o.looksAt ops).all fun t=>(List.range m).all fun j=>match ops[j]? with
  | none=>true
  | some o'=>(o'.dst != some t)||(depOf ops i j&&((alOf o').isNone||preO o'))
def chkT (ops:Array Oper) (i:Nat):Bool:=(List.range i).all fun j=>depOf ops i j
def drawChk (m:Nat) (ops:Array Oper):Bool :=
 Nat.ble m ops.size&&((List.range ops.size).all fun i=>match ops[i]? with
  | none=>true
  | some o=>chkA i o&&(chkB ops i o&&(bif Nat.blt i m then chkD m ops i o&&chkL m ops i o else chkT ops i)))
structure Plan0 (ops:Array Oper) (m:Nat) (dep:Nat→Nat→Prop):Prop where
 le:m≤ops.size
 dec:∀i o,ops[i]?=some o→∀e,e∈o.after→Region.binds .any e=true→e.on < i
 step:∀i o j,ops[i]?=some o→j < ops.size→dep i j→∃e,e∈o.after∧Region.binds .any e=true∧(e.on=j∨dep e.on j)
 dst:∀i o,i < m→ops[i]?=some o→∃d,o.dst=some d
 one:∀i o j o' d,i < m→j < m→ops[i]?=some o→ops[j]?=some o'→o.dst=some d→o'.dst=some d→i=j
 low:∀i o d,i < m→ops[i]?=some o→o.dst=some d→d < 1000
 look:∀i o t j o',i < m→j < m→ops[i]?=some o→isAl o=false→t∈o.looksAt ops→ops[j]?=some o'→o'.dst=some t→dep i j∧(alOf o'=none∨preO o'=true)
structure PlanS (ops:Array Oper) (m:Nat) (dep:Nat→Nat→Prop):Prop where
 one:∀i o j o' d,i < m→j < m→ops[i]?=some o→ops[j]?=some o'→o.dst=some d→o'.dst=some d→i=j
 look:∀i o t j o',i < m→j < m→ops[i]?=some o→isAl o=false→t∈o.looksAt ops→ops[j]?=some o'→o'.dst=some t→dep i j∧(alOf o'=none∨preO o'=true)
theorem Plan0.s {ops:Array Oper} {m:Nat} {dep:Nat→Nat→Prop} (hp:Plan0 ops m dep):PlanS ops m dep:=⟨hp.one,hp.look⟩
structure Plan (ops:Array Oper) (m:Nat) (dep:Nat→Nat→Prop):Prop extends Plan0 ops m dep where
 tail:∀i j,m≤i→i < ops.size→j < i→dep i j
theorem plan0_of {m:Nat} {ops:Array Oper} (hle:m≤ops.size) (get:∀i o,ops[i]?=some o→chkA i o=true∧chkB ops i o=true∧(i < m→chkD m ops i o=true∧chkL m ops i o=true)):Plan0 ops m fun i j=>depOf ops i j=true:=by
 refine ⟨hle,fun i o ho e he hb=>?_,fun i o j ho hj hd=>?_,fun i o hi ho=>?_,fun i o j o' d hi hj ho ho' hd hd'=>?_,fun i o d hi ho hd=>?_,fun i o t j o' hi hj ho hal ht ho' hd'=>?_⟩
 ·have:=(Array.all_eq_true'.1 (get i o ho).1) e he
  simpa [hb] using this
 ·have h1:=(get i o ho).2.1
  simp only [chkB,List.all_eq_true,List.mem_range] at h1
  have h1:=h1 j hj
  simp only [hd,Bool.not_true,Bool.false_or] at h1
  obtain ⟨e,he,hb⟩:=Array.any_eq_true'.1 h1
  simp only [Bool.and_eq_true,Bool.or_eq_true,beq_iff_eq] at hb
  exact ⟨e,he,hb.1,hb.2⟩
 ·have h1:=((get i o ho).2.2 hi).1
  unfold chkD at h1
  cases hd:o.dst with
  | none=>rw [hd] at h1; exact absurd h1 (by simp)
  | some d=>exact ⟨d,rfl⟩
 ·have h1:=((get i o ho).2.2 hi).1
  unfold chkD at h1
  rw [hd] at h1
  simp only [Bool.and_eq_true,List.all_eq_true,List.mem_range] at h1
  have:=h1.2 j hj
  rw [ho'] at this
  simpa [hd'] using this
 ·have h1:=((get i o ho).2.2 hi).1
  unfold chkD at h1
  rw [hd] at h1
  simp only [Bool.and_eq_true] at h1
  simpa using h1.1
 ·have h1:=((get i o ho).2.2 hi).2
  simp only [chkL,hal,Bool.false_or,List.all_eq_true,List.mem_range] at h1
  have:=h1 t ht j hj
  rw [ho'] at this
  simpa [hd'] using this
theorem plan_of_chk {m:Nat} {ops:Array Oper} (h:drawChk m ops=true):Plan ops m fun i j=>depOf ops i j=true:=by
 simp only [drawChk,Bool.and_eq_true,List.all_eq_true,List.mem_range] at h
 obtain ⟨hle,h⟩:=h
 have hle:m≤ops.size:=by simpa using hle
 have get:∀i o,ops[i]?=some o→chkA i o=true∧chkB ops i o=true∧(i < m→chkD m ops i o=true∧chkL m ops i o=true)∧(m≤i→chkT ops i=true):=fun i o ho=>by
  have h1:=h i (Array.getElem?_eq_some_iff.1 ho).1
  rw [ho] at h1
  simp only [Bool.and_eq_true] at h1
  refine ⟨h1.1,h1.2.1,fun hi=>?_,fun hi=>?_⟩
  ·have hb:Nat.blt i m=true:=by simpa [Nat.blt_eq] using hi
   have:=h1.2.2
   rw [hb] at this
   simpa using this
  ·have hb:Nat.blt i m=false:=by
    cases hb:Nat.blt i m
    ·rfl
    ·have:i < m:=by simpa [Nat.blt_eq] using hb
     omega
   have:=h1.2.2
   rw [hb] at this
   simpa using this
 refine ⟨plan0_of hle fun i o ho=>⟨(get i o ho).1,(get i o ho).2.1,(get i o ho).2.2.1⟩,fun i j hi hn hj=>?_⟩
 ·have h1:=(get i _ (Array.getElem?_eq_getElem hn)).2.2.2 hi
  simp only [chkT,List.all_eq_true,List.mem_range] at h1
  exact h1 j hj
def drawChk2 (m:Nat) (late:List Nat) (ops:Array Oper):Bool :=
 Nat.blt m ops.size&&((List.range ops.size).all fun i=>match ops[i]? with
  | none=>true
  | some o=>chkA i o&&(chkB ops i o&&(bif Nat.blt i m then (chkD m ops i o&&chkL m ops i o)&&(depOf ops m i||((alOf o).isNone&&late.elem i)) else (bif Nat.blt m i then chkT ops i else o.dst.isNone&&(o.guard.isNone&&((o.looksAt ops).all fun t=>(List.range m).all fun j=>match ops[j]? with
   | none=>true
   | some o'=>(o'.dst != some t)||depOf ops m j))))))
structure Plan2 (ops:Array Oper) (m:Nat) (late:List Nat) (dep:Nat→Nat→Prop):Prop extends Plan0 ops m dep where
 lt:m < ops.size
 tail:∀i j,m < i→i < ops.size→j < i→dep i j
 late:∀i o,i < m→ops[i]?=some o→dep m i∨(alOf o=none∧i∈late)
 store:∀o,ops[m]?=some o→o.dst=none∧o.guard=none
 lookm:∀o t j o',ops[m]?=some o→t∈o.looksAt ops→j < m→ops[j]?=some o'→o'.dst=some t→dep m j
theorem plan2_of_chk {m:Nat} {late:List Nat} {ops:Array Oper} (h:drawChk2 m late ops=true):Plan2 ops m late fun i j=>depOf ops i j=true:=by
 simp only [drawChk2,Bool.and_eq_true,List.all_eq_true,List.mem_range] at h
 obtain ⟨hlt,h⟩:=h
 have hlt:m < ops.size:=by simpa [Nat.blt_eq] using hlt
 have get:∀i o,ops[i]?=some o→chkA i o=true∧chkB ops i o=true∧(i < m→chkD m ops i o=true∧chkL m ops i o=true∧(depOf ops m i=true∨(alOf o=none∧i∈late)))∧(m < i→chkT ops i=true)∧(i=m→o.dst=none∧o.guard=none∧∀t,t∈o.looksAt ops→∀j,j < m→(match ops[j]? with | none=>true | some o'=>(o'.dst != some t)||depOf ops m j)=true):=fun i o ho=>by
  have h1:=h i (Array.getElem?_eq_some_iff.1 ho).1
  rw [ho] at h1
  simp only [Bool.and_eq_true] at h1
  obtain ⟨h1,h2,h3⟩:=h1
  refine ⟨h1,h2,fun hi=>?_,fun hi=>?_,fun hi=>?_⟩
  ·have hb:Nat.blt i m=true:=by simpa [Nat.blt_eq] using hi
   rw [hb] at h3
   simp only [cond_true,Bool.and_eq_true,Bool.or_eq_true] at h3
   refine ⟨h3.1.1,h3.1.2,h3.2.imp (fun h=>h) fun h=>by simpa using h⟩
  ·have hb:Nat.blt i m=false:=by
    cases hb:Nat.blt i m
    ·rfl
    ·have:i < m:=by simpa [Nat.blt_eq] using hb
     omega
   have hb2:Nat.blt m i=true:=by simpa [Nat.blt_eq] using hi
   rw [hb,hb2] at h3
   simpa using h3
  ·subst hi
   have hb:Nat.blt i i=false:=by
    cases hb:Nat.blt i i
    ·rfl
    ·have:i < i:=by simpa [Nat.blt_eq] using hb
     omega
   rw [hb] at h3
   simpa [hb] using h3
 refine ⟨plan0_of (by omega) fun i o ho=>⟨(get i o ho).1,(get i o ho).2.1,fun hi=>⟨((get i o ho).2.2.1 hi).1,((get i o ho).2.2.1 hi).2.1⟩⟩,hlt,fun i j hi hn hj=>?_,fun i o hi ho=>((get i o ho).2.2.1 hi).2.2,fun o ho=>⟨((get m o ho).2.2.2.2 rfl).1,((get m o ho).2.2.2.2 rfl).2.1⟩,fun o t j o' ho ht hj ho' hd=>by
  have:=((get m o ho).2.2.2.2 rfl).2.2 t ht j hj
  rw [ho'] at this
  simpa [hd] using this⟩
 have h1:=(get i _ (Array.getElem?_eq_getElem hn)).2.2.2.1 hi
 simp only [chkT,List.all_eq_true,List.mem_range] at h1
 exact h1 j hj
section
variable {P:Program} {T:TT} {C:Ctx} {ds:List Deferred}
theorem stepD_nodefer {o:Oper} {ρ:Operand→AV} {H:Hp} {k:AV→Prop} (h:stepD P T o ρ H k):∀c,o.op≠.defer c:=fun c e=>by
 unfold stepD at h
 rw [e] at h
 exact stepS_nodefer h c e
theorem erase_one {d:Nat} (hlow:d < 1000) {st:ASt} {w:World} {F:Nat→Prop} {β:Nat→Value} {g:Nat→Value} (hf:∀t,Rd w F β (st.f t) (g t)) (he:XM C ds w F β st.H) :
  let β':=fun i=>if i=d then undef else β i
  (∀t,Rd w F β' (er 2 d (st.f t)) (g t))∧XM C ds w F β' (erH d st.H):=by
 intro β'
 have go:Ext w F β ⟨noSlots,st.H⟩ w F β' ⟨noSlots,erH d st.H⟩→_:=fun h=>he.trans h
 have hβ:∀i,i≠d→β' i=β i:=fun i hi=>if_neg hi
 have hI:Inv w F β st.H:=he.inv
 have hown:∀b,Owned β' (erH d st.H) b→Owned β st.H b:=by
  rintro b ⟨i,c,hm,hb⟩
  obtain ⟨hi,c',hm',_⟩:=erH_mem hm
  exact ⟨i,c',hm',by rw [←hβ i hi]; exact hb⟩
 refine ⟨fun t=>er_rd hβ 2 (hf t),go ⟨rfl,SameT.refl _,rfl,Nat.le_refl _,fun _ _ _=>rfl,fun _ h=>h,fun _ h=>.inl h,fun b hb=>.inr (hown b hb),fun _ _ _=>.junk,?_,fun i hi=>hβ i (by omega)⟩⟩
 refine ⟨hI.fsize,fun i c hm=>?_,erH_keys hI.keys,fun b hb=>hI.apart b (hown b hb),fun i c i' c' b hm hm' hb hb'=>?_⟩
 ·obtain ⟨hi,c',hm',rfl⟩:=erH_mem hm
  exact holds_er hi hβ (hI.holds i c' hm')
 ·obtain ⟨hi,c2,h2,_⟩:=erH_mem hm
  obtain ⟨hi',c2',h2',_⟩:=erH_mem hm'
  rw [hβ i hi] at hb
  rw [hβ i' hi'] at hb'
  exact hI.disj i c2 i' c2' b h2 h2' hb hb'
theorem erase_all {w:World} {F:Nat→Prop} {g:Nat→Value}:∀(al:List (Nat×Option Nat)) (_:∀d t,(d,t)∈al→d < 1000) {st:ASt} {β:Nat→Value},(∀t,Rd w F β (st.f t) (g t))→XM C ds w F β st.H →
  ∃β',(∀t,Rd w F β' ((eraseAll al st).f t) (g t))∧XM C ds w F β' (eraseAll al st).H ∧
   (∀d,β d=undef∨(∃t,(d,t)∈al)→β' d=undef)∧(∀d,(∀c,(d,c)∉st.H)∨(∃t,(d,t)∈al)→∀c,(d,c)∉(eraseAll al st).H)
 | [],_,st,β,hf,he=>by
  refine ⟨β,hf,he,fun d h=>?_,fun d h=>?_⟩
  ·rcases h with h | ⟨t,ht⟩
   ·exact h
   ·exact (List.not_mem_nil ht).elim
  ·rcases h with h | ⟨t,ht⟩
   ·exact h
   ·exact (List.not_mem_nil ht).elim
 | (d,t)::r,hlow,st,β,hf,he=>by
  obtain ⟨h1,h2⟩:=erase_one (d:=d) (hlow d t (by simp)) hf he
  obtain ⟨β',h3,h4,h5,h6⟩:=erase_all r (fun d t h=>hlow d t (by simp [h])) (st:=⟨fun t=>er 2 d (st.f t),erH d st.H⟩) h1 h2
  refine ⟨β',h3,h4,fun e he=>h5 e ?_,fun e he=>h6 e ?_⟩
  ·by_cases hed:e=d
   ·left; simp [hed]
   ·rcases he with he | ⟨t',ht'⟩
    ·left; simp [hed,he]
    ·rcases List.mem_cons.1 ht' with h | h
     ·cases h; exact absurd rfl hed
     ·exact .inr ⟨t',h⟩
  ·by_cases hed:e=d
   ·left; intro c hc; exact (erH_mem hc).1 hed
   ·rcases he with he | ⟨t',ht'⟩
    ·left; intro c hc
     obtain ⟨_,c',hc',_⟩:=erH_mem hc
     exact he c' hc'
    ·rcases List.mem_cons.1 ht' with h | h
     ·cases h; exact absurd rfl hed
     ·exact .inr ⟨t',h⟩
theorem bindAll_spec {n:Nat} {K:ASt→Prop}:∀(al:List (Nat×Option Nat)) (st:ASt),bindAll T n al st K→(al.map (·.1)).Nodup→(∀d t,(d,t)∈al→∀c,(d,c)∉st.H)→(st.H.map (·.1)).Nodup →
  ∃fA HA,K ⟨fA,HA⟩∧(∀t,(∀ty,(t,ty)∉al)→fA t=st.f t)∧(∀d t,(d,t)∈al→d < n∧∃c,ChOf T d t c∧fA d=labAV d c)∧(HA.map (·.1)).Nodup ∧
   ∀x,x∈HA↔x∈st.H∨∃d t c,(d,t)∈al∧ChOf T d t c∧x=(d,c)
 | [],st,h,_,_,hk=>⟨st.f,st.H,h,fun _ _=>rfl,fun d t ht=>(List.not_mem_nil ht).elim,hk,fun x=>⟨.inl,fun h=>h.elim id fun ⟨_,_,_,h,_⟩=>(List.not_mem_nil h).elim⟩⟩
 | (d,t)::r,st,h,hn,hnew,hk=>by
  obtain ⟨c0,hc0,hlt,h⟩:∃c,ChOf T d t c∧d < n∧bindAll T n r ⟨upd st.f d (labAV d c),(d,c)::st.H⟩ K:=by
   cases t with
   | some t =>
    simp only [bindAll] at h
    split at h
    ·rename_i z hz
     obtain ⟨hb,h⟩:=cond_prop h
     simp only [Bool.and_eq_true] at hb
     exact ⟨_,⟨z,hz,hb.1,rfl⟩,by simpa [Nat.blt_eq] using hb.2,h⟩
    ·exact h.elim
   | none =>
    simp only [bindAll] at h
    split at h
    ·rename_i c hc
     obtain ⟨hb,h⟩:=cond_prop h
     exact ⟨c,hc,by simpa [Nat.blt_eq] using hb,h⟩
    ·exact h.elim
  simp only [List.map_cons,List.nodup_cons] at hn
  have hdr:∀ty,(d,ty)∉r:=fun ty hm=>hn.1 (List.mem_map.2 ⟨_,hm,rfl⟩)
  obtain ⟨fA,HA,h1,h2,h3,h4,h5⟩:=bindAll_spec r ⟨upd st.f d (labAV d c0),(d,c0)::st.H⟩ h hn.2 (fun d' t' hm c hc=>by
   rcases List.mem_cons.1 hc with hc | hc
   ·cases hc; exact hdr _ hm
   ·exact hnew d' t' (List.mem_cons_of_mem _ hm) c hc) (by
   simp only [List.map_cons,List.nodup_cons]
   refine ⟨fun hm=>?_,hk⟩
   obtain ⟨x,hx,hxe⟩:=List.mem_map.1 hm
   exact hnew d t (by simp) x.2 (by rw [←hxe]; exact hx))
  refine ⟨fA,HA,h1,fun t' ht'=>?_,fun d' t' hm=>?_,h4,fun x=>?_⟩
  ·rw [h2 t' fun ty hm=>ht' ty (List.mem_cons_of_mem _ hm)]
   exact upd_ne fun e=>ht' t (by rw [e]; simp)
  ·rcases List.mem_cons.1 hm with hm | hm
   ·cases hm
    exact ⟨hlt,c0,hc0,by rw [h2 d hdr]; exact upd_at _ _ _⟩
   ·exact h3 d' t' hm
  ·rw [h5 x,List.mem_cons]
   constructor
   ·rintro ((rfl | h) | ⟨d',t',c',hm,hz',rfl⟩)
    ·exact .inr ⟨d,t,c0,by simp,hc0,rfl⟩
    ·exact .inl h
    ·exact .inr ⟨d',t',c',List.mem_cons_of_mem _ hm,hz',rfl⟩
   ·rintro (h | ⟨d',t',c',hm,hz',rfl⟩)
    ·exact .inl (.inr h)
    ·rcases List.mem_cons.1 hm with hm | hm
     ·cases hm
      rw [hz'.uniq hc0]
      exact .inl (.inl rfl)
     ·exact .inr ⟨d',t',c',hm,hz',rfl⟩
theorem count_set:∀(l:List Bool) (i:Nat),l[i]?=some false→(l.set i true).count false+1=l.count false
 | [],i,h=>by simp at h
 | b::r,0,h=>by simp at h; subst h; simp
 | b::r,i+1,h=>by
  have:=count_set r i (by simpa using h)
  cases b <;> simp <;> omega
def steady (m:Nat) (ops:Array Oper):List Oper:=(ops.toList.take m).filter fun o=>(alOf o).isNone
def boxesOf (m:Nat) (ops:Array Oper):List (Nat×Option Nat):=(ops.toList.take m).filterMap alOf
theorem mem_take {ops:Array Oper} {m:Nat} {o:Oper}:o∈ops.toList.take m↔∃i,i < m∧ops[i]?=some o:=by
 constructor
 ·intro h
  obtain ⟨i,hi,rfl⟩:=List.mem_iff_getElem.1 h
  simp only [List.length_take,Array.length_toList] at hi
  refine ⟨i,by omega,?_⟩
  have:i < ops.size:=by omega
  simp [List.getElem_take,this]
 ·rintro ⟨i,hi,ho⟩
  obtain ⟨hlt,rfl⟩:=Array.getElem?_eq_some_iff.1 ho
  rw [List.mem_iff_getElem]
  refine ⟨i,by simp only [List.length_take,Array.length_toList]; omega,by simp [List.getElem_take]⟩
theorem alOf_dst {o:Oper} {d:Nat} {t:Option Nat} (h:alOf o=some (d,t)):o.dst=some d∧o.guard=none:=by
 unfold alOf at h
 split at h
 ·cases h; exact ⟨by assumption,by assumption⟩
 ·rename_i d' _ _ _
  cases hb:MD.md.elem d' with
  | true=>rw [hb] at h; cases h; exact ⟨by assumption,by assumption⟩
  | false=>rw [hb] at h; cases h
 ·cases h
theorem alOf_al {o:Oper} {d t:Nat} (h:alOf o=some (d,some t)):o.op=.alloc t:=by
 unfold alOf at h
 split at h
 ·cases h; assumption
 ·rename_i d' _ _ _
  cases hb:MD.md.elem d' with
  | true=>rw [hb] at h; cases h
  | false=>rw [hb] at h; cases h
 ·cases h
theorem isAl_none {o:Oper} (h:alOf o=none):isAl o=false:=by unfold isAl; rw [h]
theorem isAl_mk {o:Oper} {d:Nat} (h:alOf o=some (d,none)):isAl o=false:=by unfold isAl; rw [h]
structure Half (C:Ctx) (CO:Nat→Option Nat→Chunk→Prop) (ops:Array Oper) (m:Nat) (fA:Nat→AV) (Hm:Hp) (listed:Array Bool) (a:Act) (w:World):Prop where
 ex:∃F β H,a.tmps.size=C.n∧True∧XM C a.defers w F β H ∧
  (∀x,x∈H↔x∈Hm∨∃i o d t c,i < m∧listed.getD i false=true∧ops[i]?=some o∧alOf o=some (d,t)∧CO d t c∧x=(d,c)) ∧
  (∀i o d t,i < m→ops[i]?=some o→alOf o=some (d,t)→listed.getD i false=false→β d=undef) ∧
  (∀t,(∀i o,i < m→ops[i]?=some o→o.dst=some t→listed.getD i false=true)→Rd w F β (fA t) (a.tmps.getD t undef))
theorem set_get {listed:Array Bool} {i j:Nat} (hi:i < listed.size):(listed.setIfInBounds i true).getD j false=(if j=i then true else listed.getD j false):=by
 by_cases h:j=i
 ·subst h; simp [hi]
 ·simp [Array.getElem?_setIfInBounds_ne (Ne.symm h),h]
theorem half_steady {CO:Nat→Option Nat→Chunk→Prop} {ops:Array Oper} {m i n:Nat} {dep:Nat→Nat→Prop} {o:Oper} {fA fe:Nat→AV} {Hm:Hp} {listed:Array Bool} {a:Act} {w:World} {Q:Exit→Act→World→Prop} {N:Act→World→Prop}
  (hT:TOk P T) (hn:C.n=n) (hp:PlanS ops m dep) (hsz:listed.size=ops.size) (hi:i < m) (ho:ops[i]?=some o) (hal:alOf o=none) (hun:listed.getD i false=false)
  (hdeps:∀j,j < m→dep i j→listed.getD j false=true) (hfe:∀t,(∀j o' ty,j < m→ops[j]?=some o'→alOf o'=some (t,ty)→preO o'=true)→fA t=fe t)
  (hHk:(Hm.map (·.1)).Nodup) (hok:OpOk P T ops Hm fe o) (hlt:∀d,o.dst=some d→d < n) (h:Half C CO ops m fA Hm listed a w)
  (hN:∀a w,Half C CO ops m fA Hm (listed.setIfInBounds i true) a w→N a w):wpOpIn (fen C.ro) 0 P ops Q i N a w:=by
 obtain ⟨F,β,H,hs,hd,he,hmem,hundef,hf⟩:=h.ex
 obtain ⟨d,hdst,hok⟩:=hok
 have hdlt:d < a.tmps.size:=by rw [hs,hn]; exact hlt d hdst
 have hsize:i < listed.size:=by rw [hsz]; exact (Array.getElem?_eq_some_iff.1 ho).1
 have look:∀t,t∈o.looksAt ops→Rd w F β (fe t) (a.tmps.getD t undef):=fun t ht=>by
  have hno:∀j o' ty,j < m→ops[j]?=some o'→alOf o'=some (t,ty)→preO o'=true:=fun j o' ty hj ho' hal'=>by
   have:=(hp.look i o t j o' hi hj ho (isAl_none hal) ht ho' (alOf_dst hal').1).2
   rcases this with this | this
   ·rw [this] at hal'; cases hal'
   ·exact this
  rw [←hfe t hno]
  exact hf t fun j o' hj ho' hd'=>hdeps j hj (hp.look i o t j o' hi hj ho (isAl_none hal) ht ho' hd').1
 have opnd:∀x,x∈o.op.operands→Rd w F β (ev fe x) (a.eval x):=fun x hx=>by
  cases x with
  | tmp t=>exact look t (List.mem_append_left _ (List.mem_filterMap.2 ⟨.tmp t,by simpa using hx,rfl⟩))
  | const v=>exact ofV_rd _ _ _ _
  | global g=>exact .junk
  | func g=>exact .i (.c rfl rfl (fun i hi=>absurd hi (by simp)) (fun i hi=>absurd hi (by simp)))
 have hI:Inv w F β Hm:=he.inv.sub (fun x hx=>(hmem x).2 (.inl hx)) hHk
 have hdal:∀j o' ty,j < m→ops[j]?=some o'→alOf o'≠some (d,ty):=fun j o' ty hj ho' hal'=>by
  have:=hp.one i o j o' d hi hj ho ho' hdst (alOf_dst hal').1
  subst this
  rw [ho] at ho'; cases ho'
  rw [hal] at hal'; cases hal'
 have done:∀(v:Value) (w':World),Below w.heap.size w w'→Rd w' (FNew F w w') β (fe d) v→Half C CO ops m fA Hm (listed.setIfInBounds i true) (a.put (some d) v) w':=fun v w' hb hv=>by
  have hx:=ext_quiet (st:=⟨noSlots,H⟩) he.inv hb
  refine ⟨FNew F w w',β,H,by simpa [Act.put] using hs,hd,he.trans hx,fun x=>?_,fun j o' d' t hj ho' hal' hl=>?_,fun t ht=>?_⟩
  ·rw [hmem x]
   constructor
   ·rintro (h | ⟨j,o',d',t,z,h1,h2,h3,h4,h5,h6⟩)
    ·exact .inl h
    ·exact .inr ⟨j,o',d',t,z,h1,by rw [set_get hsize]; split <;> first | rfl | exact h2,h3,h4,h5,h6⟩
   ·rintro (h | ⟨j,o',d',t,z,h1,h2,h3,h4,h5,h6⟩)
    ·exact .inl h
    ·refine .inr ⟨j,o',d',t,z,h1,?_,h3,h4,h5,h6⟩
     rw [set_get hsize] at h2
     split at h2
     ·rename_i e
      subst e
      rw [ho] at h3; cases h3
      rw [hal] at h4; cases h4
     ·exact h2
  ·rw [set_get hsize] at hl
   split at hl
   ·cases hl
   ·exact hundef j o' d' t hj ho' hal' hl
  ·by_cases htd:t=d
   ·subst htd
    rw [hfe t fun j o' ty hj ho' hal'=>absurd hal' (hdal j o' ty hj ho')]
    simpa [Act.put,hdlt] using hv
   ·have h1:=(hf t fun j o' hj ho' hd'=>by
     have:=ht j o' hj ho' hd'
     rw [set_get hsize] at this
     split at this
     ·rename_i e
      subst e
      rw [ho] at ho'; cases ho'
      rw [hdst] at hd'; cases hd'; exact absurd rfl htd
     ·exact this).later hb he.inv.fsize
    simpa [Act.put,Array.getElem?_setIfInBounds_ne (Ne.symm htd)] using h1
 have run:(stepD P T o (ev fe) Hm fun r=>r=fe d)→o.wpIn (fen C.ro) 0 P a w N Q:=fun hs=>by
  have hnd:=stepD_nodefer hs
  rcases stepD_sound hT hI opnd hs with ⟨v,w',hrun,hb,r,rfl,hv⟩ | ⟨g,vs,hrun,hc⟩
  ·refine Oper.inW hnd hrun ?_
   rw [Oper.uponIn_value,hdst]
   exact hN _ _ (done v w' hb hv)
  ·refine Oper.inW hnd hrun ?_
   rw [Oper.uponIn_enter]
   refine ⟨fun h=>(by cases h),callsIn_fen (hc.mono ?_)⟩
   rintro e w' ⟨v,rfl,hb,r,rfl,hv⟩
   rw [hdst]
   exact hN _ _ (done v w' hb hv)
 have skip:fe d=.v undef→N (a.put o.dst undef) w:=fun h0=>by
  rw [hdst]
  exact hN _ _ (done undef w (Below.refl _ _) (by rw [h0]; exact .i (.v (.inr rfl))))
 unfold wpOpIn
 simp only [ho]
 cases hg:o.guard with
 | none =>
  rw [hg] at hok
  have hw:Region.wanted o (yielded ops a.tmps)=true:=by simp [Region.wanted,hg]
  rw [if_pos hw]
  exact run hok
 | some jw =>
  obtain ⟨j,want⟩:=jw
  rw [hg] at hok
  obtain ⟨g,hgd,hok⟩:=hok
  have hgl:g∈o.looksAt ops:=by
   refine List.mem_append_right _ ?_
   rw [hg]
   simp [hgd]
  have hfg:=look g hgl
  have hy:∀v,v≠undef→a.tmps.getD g undef=v→yielded ops a.tmps j=match v with | .bool b=>some b | _=>none:=by
   intro v hne hv
   have h2:a.tmps[g]?=some v:=by
    by_cases hl:g < a.tmps.size
    ·rw [←hv]; simp [hl]
    ·exact absurd (by rw [←hv]; simp [hl]) hne
   unfold yielded
   rw [hgd,Option.bind_some,h2]
   cases v <;> rfl
  rcases hok with ⟨h1,h2⟩ | ⟨h1,h2⟩ | ⟨⟨vs,h1⟩,h2⟩
  ·rw [h1] at hfg
   have hyb:=hy _ (by simp [undef]) hfg.v_inv
   have hw:Region.wanted o (yielded ops a.tmps)=true:=by simp [Region.wanted,hg,hyb]
   rw [if_pos hw]
   exact run h2
  ·rw [h1] at hfg
   have hyb:=hy _ (by simp [undef]) hfg.v_inv
   have hw:¬Region.wanted o (yielded ops a.tmps)=true:=by simp [Region.wanted,hg,hyb]
   rw [if_neg hw]
   exact ⟨fun _ _=>trivial,skip h2⟩
  ·rw [h1] at hfg
   have hv:=hfg.v_inv
   have hyb:yielded ops a.tmps j=none:=by
    unfold yielded
    rw [hgd,Option.bind_some]
    by_cases hl:g < a.tmps.size
    ·have h3:a.tmps[g]?=some (.tuple vs):=by rw [←hv]; simp [hl]
     rw [h3]
    ·simp [Array.getElem?_eq_none (Nat.le_of_not_lt hl)]
   have hw:¬Region.wanted o (yielded ops a.tmps)=true:=by simp [Region.wanted,hg,hyb]
   rw [if_neg hw]
   exact ⟨fun _ _=>trivial,skip h2⟩
theorem call_run {o:Oper} {q:Call} {x:Operand} {g:FuncId} {fs cs ys:List AV} {f:Nat→AV} {a:Act} {w:World} {F:Nat→Prop} {β:Nat→Value} {post:Value→World→Prop} (hop:o.op=.call q) (hc:q.callee=.value x)
  (hf:ev f x=.c (.func g) fs cs) (hle:LeL (fs++(q.args.toList.map (ev f)++cs)) ys) (hE:Entered P g) (opnd:∀x,x∈o.op.operands→Rd w F β (ev f x) (a.eval x))
  (h:∀vs:Array Value,vs.size=ys.length→(∀i,i < ys.length→Rd w F β (ys.getD i .junk) (vs.getD i undef))→Calls P g vs w fun e w'=>∃v,e=.returned v∧post v w') :
  ∃vs,(execOp a.eval o).run P w=.ok (.enter g vs) w∧Calls P g vs w fun e w'=>∃v,e=.returned v∧post v w':=by
 obtain ⟨dst,op,type,pos,after,guard⟩:=o
 simp only at hop; subst hop
 obtain ⟨callee,args,argTypes⟩:=q
 simp only at hc; subst hc
 have hx:=opnd x (by simp [Op.operands,Call.operands])
 rw [hf] at hx
 obtain ⟨us,ws,hev,hs,hs',hu,hw⟩:=hx.c_inv
 have hargs:∀i,i < (args.toList.map (ev f)).length→Rd w F β ((args.toList.map (ev f)).getD i .junk) ((args.map a.eval).getD i undef):=fun i hi=>by
  simp at hi
  have:=opnd args[i] (by simp [Op.operands,Call.operands])
  simpa [List.getD,hi] using this
 have hj:=args_join hs (vs:=args.map a.eval) (by simp) hs' hu hargs hw
 obtain ⟨hl,hz⟩:=hle.spec
 obtain ⟨fn,c,hfn,hnm,hbody⟩:=hE
 refine ⟨us++args.map a.eval++ws,?_,h _ ?_ fun i hi=>hz i (by rw [hl]; exact hi) _ _ _ _ (hj i (by rw [hl]; exact hi))⟩
 ·have hnm' : ¬ fn.name = "runtime.NumGoroutine" := by simpa using hnm
  simp only [execOp]
  have e:(do let d ←resolve a.eval { callee:=.value x,args:=args,argTypes:=argTypes } type; invoke d.target d.args:Sem Next)=(do let d ←Deferred.ofValue (a.eval x) (args.map a.eval); invoke d.target d.args):=rfl
  rw [e,hev]
  simp [Deferred.ofValue,invoke,callFunc,hfn,hnm',hbody]
 ·rw [←hl]; simp [hs,hs']
theorem half_alloc {ops:Array Oper} {m i n:Nat} {dep:Nat→Nat→Prop} {o:Oper} {d t:Nat} {z:TI} {fA:Nat→AV} {Hm:Hp} {listed:Array Bool} {a:Act} {w:World} {Q:Exit→Act→World→Prop} {N:Act→World→Prop}
  (hT:TOk P T) (hn:C.n=n) (hp:Plan0 ops m dep) (hsz:listed.size=ops.size) (hi:i < m) (ho:ops[i]?=some o) (hal:alOf o=some (d,some t)) (hun:listed.getD i false=false)
  (hz:T t=some z) (hokz:okCells (ofV z.zero)=true) (hfd:fA d=.b d 0) (hlt:d < n) (hnew:∀c,(d,c)∉Hm) (h:Half C (ChOf T) ops m fA Hm listed a w)
  (hN:∀a w,Half C (ChOf T) ops m fA Hm (listed.setIfInBounds i true) a w→N a w):wpOpIn (fen C.ro) 0 P ops Q i N a w:=by
 obtain ⟨F,β,H,hs,hd,he,hmem,hundef,hf⟩:=h.ex
 obtain ⟨hdst,hgd⟩:=alOf_dst hal
 have hop:=alOf_al hal
 have hdlt:d < a.tmps.size:=by rw [hs,hn]; exact hlt
 have hsize:i < listed.size:=by rw [hsz]; exact (Array.getElem?_eq_some_iff.1 ho).1
 have hβd:=hundef i o d t hi ho hal hun
 have hkey:∀c,(d,c)∉H:=fun c hc=>by
  rcases (hmem _).1 hc with h | ⟨j,o',d',t',z',h1,h2,h3,h4,h5,h6⟩
  ·exact hnew c h
  ·cases h6
   have:=hp.one i o j o' d hi h1 ho h3 hdst (alOf_dst h4).1
   subst this
   rw [hun] at h2; cases h2
 have hzr:=(hT _ _ hz).run_zero w
 have hrun:(execOp a.eval o).run P w=.ok (.value (.pointer (some ⟨w.heap.size,0,none⟩))) (w.alloc (.cells z.zero.cells t)):=by
  unfold execOp
  rw [hop]
  simp [Instr.alloc,hzr,newVar,newRow]
 have hr:=fun β':Nat→Value=>cells_rd (ofV_rd (w.alloc (.cells z.zero.cells t)) F z.zero β') hokz
 have hx:=ext_alloc (f:=noSlots) (e:=t) (hp.low i o d hi ho hdst) he.inv hβd hkey (hr β).1 (fun j hj=>((hr β).2 j hj).1) (fun β' j hj=>((hr β').2 j hj).2)
 have hβ':∀i,i≠d→(fun i=>if i=d then Value.pointer (some ⟨w.heap.size,0,none⟩) else β i) i=β i:=fun i hi=>if_neg hi
 have ha:Agree F w (w.alloc (.cells z.zero.cells t)):=Below.agree (below_alloc w _) he.inv.fsize
 have hw:Region.wanted o (yielded ops a.tmps)=true:=by simp [Region.wanted,hgd]
 unfold wpOpIn
 simp only [ho]
 rw [if_pos hw]
 refine Oper.inW (fun c e=>by rw [hop] at e; cases e) hrun ?_
 rw [Oper.uponIn_value,hdst]
 refine hN _ _ ⟨F,_,(d,.box (cellsL (ofV z.zero)))::H,by simpa [Act.put] using hs,hd,he.trans hx,fun x=>?_,fun j o' d' t' hj ho' hal' hl=>?_,fun q hq=>?_⟩
 ·rw [List.mem_cons,hmem x]
  constructor
  ·rintro (rfl | h | ⟨j,o',d',t',z',h1,h2,h3,h4,h5,h6⟩)
   ·exact .inr ⟨i,o,d,some t,_,hi,by rw [set_get hsize,if_pos rfl],ho,hal,⟨z,hz,hokz,rfl⟩,rfl⟩
   ·exact .inl h
   ·exact .inr ⟨j,o',d',t',z',h1,by rw [set_get hsize]; split <;> first | rfl | exact h2,h3,h4,h5,h6⟩
  ·rintro (h | ⟨j,o',d',t',z',h1,h2,h3,h4,h5,h6⟩)
   ·exact .inr (.inl h)
   ·rw [set_get hsize] at h2
    split at h2
    ·rename_i e
     subst e
     rw [ho] at h3; cases h3
     rw [hal] at h4; cases h4
     rw [h5.uniq ⟨z,hz,hokz,rfl⟩] at h6
     exact .inl h6
    ·exact .inr (.inr ⟨j,o',d',t',z',h1,h2,h3,h4,h5,h6⟩)
 ·rw [set_get hsize] at hl
  split at hl
  ·cases hl
  ·have hne:d'≠d:=fun e=>by
    subst e
    have:=hp.one i o j o' d' hi hj ho ho' hdst (alOf_dst hal').1
    rename_i hji
    exact hji this.symm
   show (if d'=d then _ else β d')=undef
   rw [if_neg hne]
   exact hundef j o' d' t' hj ho' hal' hl
 ·by_cases hqd:q=d
  ·subst hqd
   rw [hfd]
   have:(a.put (some q) (.pointer (some ⟨w.heap.size,0,none⟩))).tmps.getD q undef=.pointer (some ⟨w.heap.size,0,none⟩):=by simp [Act.put,hdlt]
   rw [this]
   exact .b (by simp)
  ·have h1:=(hf q fun j o' hj ho' hd'=>by
    have:=hq j o' hj ho' hd'
    rw [set_get hsize] at this
    split at this
    ·rename_i e
     subst e
     rw [ho] at ho'; cases ho'
     rw [hdst] at hd'; cases hd'; exact absurd rfl hqd
    ·exact this)
   have h2:=(h1.frame ha fun _ h=>h).undef_change hβd hβ'
   simpa [Act.put,Array.getElem?_setIfInBounds_ne (Ne.symm hqd)] using h2
theorem ext_make {w w':World} {F F':Nat→Prop} {β:Nat→Value} {H:Hp} {d:Nat} {c:Chunk} {v:Value} {f:Nat→AV} (hlow:d < 1000) (hI:Inv w F β H) (hd:β d=undef) (hkey:∀c,(d,c)∉H) (hb:Below w.heap.size w w') (hmono:∀b,F b→F' b) (hFnew:∀b,F' b→FNew F w w' b)
  (hnew:∀b,blkOf v=some b→w.heap.size≤b∧¬F' b) (hc:c.holds w' F' (fun i=>if i=d then v else β i) d) :
  Ext w F β ⟨f,H⟩ w' F' (fun i=>if i=d then v else β i) ⟨f,(d,c)::H⟩:=by
 have hβ:∀i,i≠d→(fun i=>if i=d then v else β i) i=β i:=fun i hi=>if_neg hi
 have ha:Agree F w w':=Below.agree hb hI.fsize
 have hown:∀b,Owned (fun i=>if i=d then v else β i) ((d,c)::H) b→(w.heap.size≤b∧¬F' b)∨Owned β H b:=by
  rintro b ⟨i,c',hm,hb'⟩
  rcases List.mem_cons.1 hm with hm | hm
  ·cases hm
   simp only [if_true] at hb'
   exact .inl (hnew b hb')
  ·have hi:i≠d:=fun e=>hkey c' (e▸hm)
   simp only [if_neg hi] at hb'
   exact .inr ⟨i,c',hm,hb'⟩
 refine ⟨hb.os,hb.tape,hb.output,hb.size,fun b h _=>hb.block b h,hmono,fun b h=>(hFnew b h).elim .inl fun h=>.inr (.inl h.1),fun b h=>(hown b h).elim (fun h=>.inl h.1) .inr,fun t u h=>(h.frame ha hmono).undef_change hd hβ,?_,fun i hi=>hβ i (by omega)⟩
 refine ⟨fun b h=>(hFnew b h).elim (fun h=>Nat.lt_of_lt_of_le (hI.fsize b h) hb.size) fun h=>h.2,?_,?_,fun b ho hF=>?_,?_⟩
 ·intro i c' hm
  rcases List.mem_cons.1 hm with hm | hm
  ·cases hm; exact hc
  ·have hi:i≠d:=fun e=>hkey c' (e▸hm)
   exact holds_change hd hβ hi (holds_frame ha hmono (fun b hb'=>hb.block b (hI.owned_lt ⟨i,c',hm,hb'⟩)) (hI.holds i c' hm))
 ·show ((d::(H.map (·.1)))).Nodup
  rw [List.nodup_cons]
  refine ⟨fun hm=>?_,hI.keys⟩
  obtain ⟨x,hx,hxe⟩:=List.mem_map.1 hm
  obtain ⟨i,c'⟩:=x
  exact hkey c' (by rw [←hxe]; exact hx)
 ·rcases hown b ho with h | h
  ·exact h.2 hF
  ·rcases hFnew b hF with h1 | h1
   ·exact hI.apart b h h1
   ·exact absurd (hI.owned_lt h) (Nat.not_lt.2 h1.1)
 ·have key:∀i c' b,(i,c')∈H→blkOf (β i)=some b→blkOf v=some b→False:=fun i c' b hm hb1 hv =>
   absurd (hI.owned_lt ⟨i,c',hm,hb1⟩) (Nat.not_lt.2 (hnew b hv).1)
  intro i c1 i' c1' b hm hm' hb1 hb'
  rcases List.mem_cons.1 hm with hm | hm <;> rcases List.mem_cons.1 hm' with hm' | hm'
  ·cases hm; cases hm'; rfl
  ·cases hm
   have hi:i'≠d:=fun e=>hkey c1' (e▸hm')
   simp only [if_true] at hb1
   simp only [if_neg hi] at hb'
   exact (key i' c1' b hm' hb' hb1).elim
  ·cases hm'
   have hi:i≠d:=fun e=>hkey c1 (e▸hm)
   simp only [if_true] at hb'
   simp only [if_neg hi] at hb1
   exact (key i c1 b hm hb1 hb').elim
  ·have hi:i≠d:=fun e=>hkey c1 (e▸hm)
   have hi':i'≠d:=fun e=>hkey c1' (e▸hm')
   simp only [if_neg hi] at hb1
   simp only [if_neg hi'] at hb'
   exact hI.disj i c1 i' c1' b hm hm' hb1 hb'
theorem half_call {ops:Array Oper} {m i n:Nat} {dep:Nat→Nat→Prop} {o:Oper} {d:Nat} {c:Chunk} {fA fe:Nat→AV} {Hm:Hp} {listed:Array Bool} {a:Act} {w:World} {Q:Exit→Act→World→Prop} {N:Act→World→Prop}
  (hn:C.n=n) (hp:Plan0 ops m dep) (hsz:listed.size=ops.size) (hi:i < m) (ho:ops[i]?=some o) (hal:alOf o=some (d,none)) (hun:listed.getD i false=false)
  (hdeps:∀j,j < m→dep i j→listed.getD j false=true) (hfe:∀t,(∀j o' ty,j < m→ops[j]?=some o'→alOf o'=some (t,ty)→preO o'=true)→fA t=fe t)
  (hc:ChOf T d none c) (hok:MkOk P fe o c) (hfd:fA d=labAV d c) (hlt:d < n) (hnew:∀c,(d,c)∉Hm) (h:Half C (ChOf T) ops m fA Hm listed a w)
  (hN:∀a w,Half C (ChOf T) ops m fA Hm (listed.setIfInBounds i true) a w→N a w):wpOpIn (fen C.ro) 0 P ops Q i N a w:=by
 obtain ⟨F,β,H,hs,hd,he,hmem,hundef,hf⟩:=h.ex
 obtain ⟨hdst,hgd⟩:=alOf_dst hal
 have hdlt:d < a.tmps.size:=by rw [hs,hn]; exact hlt
 have hsize:i < listed.size:=by rw [hsz]; exact (Array.getElem?_eq_some_iff.1 ho).1
 have hβd:=hundef i o d none hi ho hal hun
 have look:∀t,t∈o.looksAt ops→Rd w F β (fe t) (a.tmps.getD t undef):=fun t ht=>by
  have hno:∀j o' ty,j < m→ops[j]?=some o'→alOf o'=some (t,ty)→preO o'=true:=fun j o' ty hj ho' hal'=>by
   have:=(hp.look i o t j o' hi hj ho (isAl_mk hal) ht ho' (alOf_dst hal').1).2
   rcases this with this | this
   ·rw [this] at hal'; cases hal'
   ·exact this
  rw [←hfe t hno]
  exact hf t fun j o' hj ho' hd'=>hdeps j hj (hp.look i o t j o' hi hj ho (isAl_mk hal) ht ho' hd').1
 have opnd:∀x,x∈o.op.operands→Rd w F β (ev fe x) (a.eval x):=fun x hx=>by
  cases x with
  | tmp t=>exact look t (List.mem_append_left _ (List.mem_filterMap.2 ⟨.tmp t,by simpa using hx,rfl⟩))
  | const v=>exact ofV_rd _ _ _ _
  | global g=>exact .junk
  | func g=>exact .i (.c rfl rfl (fun i hi=>absurd hi (by simp)) (fun i hi=>absurd hi (by simp)))
 have hkey:∀c,(d,c)∉H:=fun c hc=>by
  rcases (hmem _).1 hc with h | ⟨j,o',d',t',z',h1,h2,h3,h4,h5,h6⟩
  ·exact hnew c h
  ·cases h6
   have:=hp.one i o j o' d hi h1 ho h3 hdst (alOf_dst h4).1
   subst this
   rw [hun] at h2; cases h2
 obtain ⟨q,x,g,fs,cs,ys,hop,hcal,hev,hM,hle⟩:∃q x g fs cs ys,o.op=.call q∧q.callee=.value x∧ev fe x=.c (.func g) fs cs∧Makes P g ys c∧LeL (fs++(q.args.toList.map (ev fe)++cs)) ys:=by
  unfold MkOk at hok
  split at hok
  ·rename_i q hop
   split at hok
   ·rename_i x hx
    split at hok
    ·rename_i g fs cs hev
     obtain ⟨ys,h1,h2⟩:=hok
     exact ⟨q,x,g,fs,cs,ys,hop,hx,hev,h1,h2⟩
    ·exact hok.elim
   ·exact hok.elim
  ·exact hok.elim
 have hw:Region.wanted o (yielded ops a.tmps)=true:=by simp [Region.wanted,hgd]
 obtain ⟨vs,hrun,hcalls⟩:=call_run (P:=P) hop hcal hev hle hM.1 opnd fun vs hvs hrd=>hM.2 w F β vs he.inv.nil hvs hrd
 unfold wpOpIn
 simp only [ho]
 rw [if_pos hw]
 refine Oper.inW (fun c e=>by rw [hop] at e; cases e) hrun ?_
 rw [Oper.uponIn_enter]
 refine ⟨fun h=>(by cases h),callsIn_fen (hcalls.mono ?_)⟩
 rintro e w' ⟨v,rfl,hb,F',hmono,hFnew,hv,hfresh⟩
 rw [hdst]
 have hx:=ext_make (f:=noSlots) (hp.low i o d hi ho hdst) he.inv hβd hkey hb hmono hFnew hfresh (hv (fun i=>if i=d then v else β i) d (if_pos rfl)).1
 have hβ':∀i,i≠d→(fun i=>if i=d then v else β i) i=β i:=fun i hi=>if_neg hi
 have ha:Agree F w w':=Below.agree hb he.inv.fsize
 refine hN _ _ ⟨F',_,(d,c)::H,by simpa [Act.put] using hs,hd,he.trans hx,fun x=>?_,fun j o' d' t' hj ho' hal' hl=>?_,fun q hq=>?_⟩
 ·rw [List.mem_cons,hmem x]
  constructor
  ·rintro (rfl | h | ⟨j,o',d',t',z',h1,h2,h3,h4,h5,h6⟩)
   ·exact .inr ⟨i,o,d,none,_,hi,by rw [set_get hsize,if_pos rfl],ho,hal,hc,rfl⟩
   ·exact .inl h
   ·exact .inr ⟨j,o',d',t',z',h1,by rw [set_get hsize]; split <;> first | rfl | exact h2,h3,h4,h5,h6⟩
  ·rintro (h | ⟨j,o',d',t',z',h1,h2,h3,h4,h5,h6⟩)
   ·exact .inr (.inl h)
   ·rw [set_get hsize] at h2
    split at h2
    ·rename_i e
     subst e
     rw [ho] at h3; cases h3
     rw [hal] at h4; cases h4
     rw [h5.uniq hc] at h6
     exact .inl h6
    ·exact .inr (.inr ⟨j,o',d',t',z',h1,h2,h3,h4,h5,h6⟩)
 ·rw [set_get hsize] at hl
  split at hl
  ·cases hl
  ·have hne:d'≠d:=fun e=>by
    subst e
    have:=hp.one i o j o' d' hi hj ho ho' hdst (alOf_dst hal').1
    rename_i hji
    exact hji this.symm
   show (if d'=d then _ else β d')=undef
   rw [if_neg hne]
   exact hundef j o' d' t' hj ho' hal' hl
 ·by_cases hqd:q=d
  ·subst hqd
   rw [hfd]
   have:(a.put (some q) v).tmps.getD q undef=v:=by simp [Act.put,hdlt]
   rw [this]
   exact (hv (fun i=>if i=q then v else β i) q (if_pos rfl)).2
  ·have h1:=(hf q fun j o' hj ho' hd'=>by
    have:=hq j o' hj ho' hd'
    rw [set_get hsize] at this
    split at this
    ·rename_i e
     subst e
     rw [ho] at ho'; cases ho'
     rw [hdst] at hd'; cases hd'; exact absurd rfl hqd
    ·exact this)
   have h2:=(h1.frame ha hmono).undef_change hβd hβ'
   simpa [Act.put,Array.getElem?_setIfInBounds_ne (Ne.symm hqd)] using h2
end
end Go.Cat
set_option linter.all false
namespace Go.Cat
open Go.RowKit
variable [M:Mono] [MD:Mks] [CH:Mch] [R:Rnds]
section
variable {P:Program} {T:TT} {C:Ctx}
theorem Plan0.lt {ops:Array Oper} {m:Nat} {dep:Nat→Nat→Prop} (hp:Plan0 ops m dep):∀i j,i < ops.size→j < ops.size→dep i j→j < i:=by
 intro i
 induction i using Nat.strongRecOn with
 | _ i ih =>
  intro j hi hj hd
  obtain ⟨e,he,hb,h⟩:=hp.step i _ j (Array.getElem?_eq_getElem hi) hj hd
  have hlt:=hp.dec i _ (Array.getElem?_eq_getElem hi) e he hb
  rcases h with h | h
  ·omega
  ·have:=ih e.on hlt j (by omega) hj h; omega
theorem drop_cons {ops:Array Oper} {k:Nat} (h:k < ops.size):ops.toList.drop k=ops[k]::ops.toList.drop (k+1):=by
 rw [List.drop_eq_getElem_cons (by simpa using h)]; simp
theorem mem_take_drop {ops:Array Oper} {m k:Nat} {o:Oper} (h:o∈(ops.toList.take m).drop k):∃i,k≤i∧i < m∧ops[i]?=some o:=by
 obtain ⟨i,hi,rfl⟩:=List.mem_iff_getElem.1 h
 simp only [List.length_drop,List.length_take,Array.length_toList] at hi
 refine ⟨k+i,by omega,by omega,?_⟩
 have:k+i < ops.size:=by omega
 simp [List.getElem_take,this]
theorem Plan0.lin {ops:Array Oper} {m:Nat} {dep:Nat→Nat→Prop} (hp:Plan0 ops m dep):∀q k,q+k=m→Lin ops (((ops.toList.take m).drop k).filter fun o=>(alOf o).isNone):=by
 intro q
 induction q with
 | zero =>
  intro k hk
  have:(ops.toList.take m).drop k=[]:=List.drop_eq_nil_of_le (by simp; omega)
  rw [this]; exact True.intro
 | succ q ih =>
  intro k hk
  have hkm:k < m:=by omega
  have hks:k < ops.size:=by have:=hp.le; omega
  have hcons:(ops.toList.take m).drop k=ops[k]::(ops.toList.take m).drop (k+1):=by
   rw [List.drop_eq_getElem_cons (by simp; omega)]
   simp [List.getElem_take]
  rw [hcons,List.filter_cons]
  have ho:ops[k]?=some ops[k]:=Array.getElem?_eq_getElem hks
  split
  ·rename_i hal
   have hal:alOf ops[k]=none:=by simpa using hal
   obtain ⟨d,hd⟩:=hp.dst k _ hkm ho
   refine ⟨⟨d,hd,fun o' ho' hd'=>?_⟩,fun t ht o' ho' hd'=>?_,ih (k+1) (by omega)⟩
   ·obtain ⟨i,hi1,hi2,hi3⟩:=mem_take_drop (List.mem_filter.1 ho').1
    have:=hp.one k _ i o' d hkm hi2 ho hi3 hd hd'
    omega
   ·have:∃i,k≤i∧i < m∧ops[i]?=some o':=by
     rcases List.mem_cons.1 ho' with rfl | h
     ·exact ⟨k,Nat.le_refl _,hkm,ho⟩
     ·obtain ⟨i,hi1,hi2,hi3⟩:=mem_take_drop (List.mem_filter.1 h).1
      exact ⟨i,by omega,hi2,hi3⟩
    obtain ⟨i,hi1,hi2,hi3⟩:=this
    have hdep:=(hp.look k _ t i o' hkm hi2 ho (isAl_none hal) ht hi3 hd').1
    have:=hp.lt k i hks (by have:=hp.le; omega) hdep
    omega
  ·exact ih (k+1) (by omega)
theorem boxes_nodup {ops:Array Oper} {m:Nat} {dep:Nat→Nat→Prop} (hp:Plan0 ops m dep):∀q k,q+k=m→((((ops.toList.take m).drop k).filterMap alOf).map (·.1)).Nodup:=by
 intro q
 induction q with
 | zero =>
  intro k hk
  have:(ops.toList.take m).drop k=[]:=List.drop_eq_nil_of_le (by simp; omega)
  rw [this]; simp
 | succ q ih =>
  intro k hk
  have hkm:k < m:=by omega
  have hks:k < ops.size:=by have:=hp.le; omega
  have hcons:(ops.toList.take m).drop k=ops[k]::(ops.toList.take m).drop (k+1):=by
   rw [List.drop_eq_getElem_cons (by simp; omega)]
   simp [List.getElem_take]
  have ho:ops[k]?=some ops[k]:=Array.getElem?_eq_getElem hks
  rw [hcons,List.filterMap_cons]
  split
  ·exact ih (k+1) (by omega)
  ·rename_i x hx
   simp only [List.map_cons,List.nodup_cons]
   refine ⟨fun hm=>?_,ih (k+1) (by omega)⟩
   obtain ⟨y,hy,hyx⟩:=List.mem_map.1 hm
   obtain ⟨o',ho',hal'⟩:=List.mem_filterMap.1 hy
   obtain ⟨i,hi1,hi2,hi3⟩:=mem_take_drop ho'
   obtain ⟨d,t⟩:=x
   obtain ⟨d',t'⟩:=y
   simp only at hyx
   subst hyx
   have:=hp.one k _ i o' d' hkm hi2 ho hi3 (alOf_dst hx).1 (alOf_dst hal').1
   omega
theorem wpo_end {n:Nat} {ops:Array Oper} {st:ASt} {K:ASt→Prop} (h:wpo P T n ops (ops.toList.drop ops.size) st K):K st:=by
 have:ops.toList.drop ops.size=[]:=List.drop_eq_nil_of_le (by simp)
 rw [this] at h; exact h
theorem XM.congr_heap {ds:List Deferred} {w:World} {F:Nat→Prop} {β:Nat→Value} {H H':Hp} (h:XM C ds w F β H) (hmem:∀x,x∈H'↔x∈H) (hk:(H'.map (·.1)).Nodup):XM C ds w F β H' :=
 h.trans ((Ext.refl (st:=⟨noSlots,H⟩) h.inv).congr_heap hmem hk)
theorem rel_drew {st:ASt} {a:Act} {w:World} (h:Rel C st a w):Rel C st a w.drew:=by
 obtain ⟨F,β,hs,hd,hf,he⟩:=h
 have hb:Below w.heap.size w w.drew:=(Below.refl _ _).drew
 exact ⟨FNew F w w.drew,β,hs,hd,fun t=>(hf t).later hb he.inv.fsize,he.trans (ext_quiet (st:=⟨noSlots,st.H⟩) he.inv hb)⟩
theorem draw_rule {id m n:Nat} {ops:Array Oper} {st:ASt} {K:ASt→Prop} (hT:TOk P T) (hm:P.follows .mixedOrders=true) (hchk:drawChk m ops=true)
  (h:wpd P T n ops (steady m ops) ⟨preB (boxesOf m ops) (eraseAll (boxesOf m ops) st).f,(eraseAll (boxesOf m ops) st).H⟩ fun st1=>mksOk P st1.f (ops.toList.take m)∧bindAll T n (boxesOf m ops) st1 fun st2=>wpo P T n ops (ops.toList.drop m) st2 K):DrawOk P n id ops st K:=by
 refine ⟨fun C hn a w hr0=>?_⟩
 have hp:=plan_of_chk hchk
 have hr:=rel_drew hr0
 refine wpIn_region_any hm ?_
 show wpAnyIn (fen C.ro) 0 P .any ops _ ops.size (Array.replicate ops.size false) a w.drew
 generalize w.drew=w at hr
 clear hr0
 obtain ⟨F,β,hs,hd,hf,he⟩:=hr
 obtain ⟨β',hf',he',hund,hkeys⟩:=erase_all (boxesOf m ops) (fun d t h=>by
  obtain ⟨o,hmo,ho⟩:=List.mem_filterMap.1 h
  obtain ⟨i,hi,ho'⟩:=mem_take.1 hmo
  exact hp.low i o d hi ho' (alOf_dst ho).1) hf he
 have hlin:Lin ops (steady m ops):=by simpa [steady] using hp.lin m 0 (by omega)
 obtain ⟨fe,hfe,hb,hlt,hok⟩:=wpd_extract (steady m ops) _ hlin h
 have hnd:((boxesOf m ops).map (·.1)).Nodup:=by simpa [boxesOf] using boxes_nodup hp.toPlan0 m 0 (by omega)
 have hnew:∀d t,(d,t)∈boxesOf m ops→∀c,(d,c)∉(eraseAll (boxesOf m ops) st).H:=fun d t hm=>hkeys d (.inr ⟨t,hm⟩)
 obtain ⟨fA,HA,hK,hA1,hA2,hA3,hA4⟩:=bindAll_spec (boxesOf m ops) ⟨fe,(eraseAll (boxesOf m ops) st).H⟩ hb.2 hnd hnew he'.inv.keys
 generalize hHm:(eraseAll (boxesOf m ops) st).H=Hm at *
 have memBox:∀{d t},(d,t)∈boxesOf m ops↔∃i o,i < m∧ops[i]?=some o∧alOf o=some (d,t):=by
  intro d t
  constructor
  ·intro h
   obtain ⟨o,ho,hal⟩:=List.mem_filterMap.1 h
   obtain ⟨i,hi,ho⟩:=mem_take.1 ho
   exact ⟨i,o,hi,ho,hal⟩
  ·rintro ⟨i,o,hi,ho,hal⟩
   exact List.mem_filterMap.2 ⟨o,mem_take.2 ⟨i,hi,ho⟩,hal⟩
 have memSteady:∀{i o},i < m→ops[i]?=some o→alOf o=none→o∈steady m ops:=fun hi ho hal=>List.mem_filter.2 ⟨mem_take.2 ⟨_,hi,ho⟩,by simp [hal]⟩
 have hAfe0:∀t,(∀j o' ty,j < m→ops[j]?=some o'→alOf o'≠some (t,ty))→fA t=fe t:=fun t ht=>hA1 t fun ty hm=>by
  obtain ⟨j,o',hj,ho',hal⟩:=memBox.1 hm
  exact ht j o' ty hj ho' hal
 have hAfe:∀t,(∀j o' ty,j < m→ops[j]?=some o'→alOf o'=some (t,ty)→preO o'=true)→fA t=fe t:=fun t ht=>by
  by_cases hex:∃j o' ty,j < m∧ops[j]?=some o'∧alOf o'=some (t,ty)
  ·obtain ⟨j,o',ty,hj,ho',hal⟩:=hex
   have hp':=ht j o' ty hj ho' hal
   unfold preO at hp'
   rw [hal] at hp'
   cases ty with
   | some y=>cases hp'
   | none =>
    have hm:=memBox.2 ⟨j,o',hj,ho',hal⟩
    obtain ⟨_,c,hc,hfA⟩:=hA2 t none hm
    have hfe':fe t=.o t:=by
     rw [hfe t fun o ho=>by
      obtain ⟨i,hi,hoi⟩:=mem_take.1 (List.mem_filter.1 ho).1
      intro hd'
      have:=hp.one i o j o' t hi hj hoi ho' hd' (alOf_dst hal).1
      subst this
      rw [hoi] at ho'; cases ho'
      have:=(List.mem_filter.1 ho).2
      simp [hal] at this]
     exact preB_yes hp' hnd hm
    have hown:labAV t c=.o t:=by
     have hc':lkCh CH.ch t=some c:=hc
     have hp4:preOf t=true:=hp'
     unfold preOf at hp4
     rw [hc'] at hp4
     cases c <;> first | rfl | cases hp4
    rw [hfA,hown,hfe']
  ·exact hAfe0 t fun j o' ty hj ho' hal=>hex ⟨j,o',ty,hj,ho',hal⟩
 have lt:∀{i o},ops[i]?=some o→i < ops.size:=fun h=>(Array.getElem?_eq_some_iff.1 h).1
 have key:∀fuel (listed:Array Bool) (a:Act) (w:World),listed.size=ops.size→listed.toList.count false≤fuel →
   (∀i o,listed.getD i false=true→ops[i]?=some o→∀e,e∈o.after→Region.binds .any e=true→listed.getD e.on false=true) →
   (((∀i,m≤i→listed.getD i false=false)∧Half C (ChOf T) ops m fA Hm listed a w) ∨
    ∃k,m≤k∧k≤ops.size∧(∀i,i < ops.size→(listed.getD i false=true↔i < k))∧∃st,Rel C st a w∧wpo P T n ops (ops.toList.drop k) st K) →
   wpAnyIn (fen C.ro) 0 P .any ops (fun e a' w'=>∃st',Rel C st' a' w'∧(match e with | .normal=>K st' | _=>False)) fuel listed a w:=by
  intro fuel
  induction fuel with
  | zero =>
   intro listed a w hsz hcnt hcl hph
   have hall:∀i,i < ops.size→listed.getD i false=true:=fun i hi=>by
    have h0:listed.toList.count false=0:=by omega
    have hi':i < listed.size:=by omega
    have hmem:listed[i]∈listed.toList:=by simp
    cases hb:listed[i] with
    | true=>simp [hi',hb]
    | false=>rw [hb] at hmem; exact absurd hmem (List.count_eq_zero.1 h0)
   have hready:Region.ready .any ops listed=[]:=by
    apply List.eq_nil_iff_forall_not_mem.2
    intro i hi
    obtain ⟨h1,o,ho,_⟩:=mem_ready.1 hi
    have:=hall i (lt ho)
    have hi':i < listed.size:=by have:=lt ho; omega
    simp [hi'] at h1 this
    rw [h1] at this; cases this
   refine ⟨hready,?_⟩
   rcases hph with ⟨hge,hhalf⟩ | ⟨k,hk1,hk2,hk3,st',hrel,hw⟩
   ·have hms:m=ops.size:=by
     rcases Nat.lt_or_ge m ops.size with h | h
     ·have:=hge m (Nat.le_refl _); rw [hall m h] at this; cases this
     ·have:=hp.le; omega
    obtain ⟨F1,β1,H1,g1,g2,g3,g4,g5,g6⟩:=hhalf.ex
    refine ⟨⟨fA,HA⟩,⟨F1,β1,g1,g2,fun t=>g6 t fun i o hi _ _=>hall i (by omega),g3.congr_heap (fun x=>?_) hA3⟩,?_⟩
    ·rw [g4 x,hA4 x]
     constructor
     ·rintro (h | ⟨d,t,z,h1,h2,h3⟩)
      ·exact .inl h
      ·obtain ⟨i,o,hi,ho,hal⟩:=memBox.1 h1
       exact .inr ⟨i,o,d,t,z,hi,hall i (by omega),ho,hal,h2,h3⟩
     ·rintro (h | ⟨i,o,d,t,z,hi,_,ho,hal,h2,h3⟩)
      ·exact .inl h
      ·exact .inr ⟨d,t,z,memBox.2 ⟨i,o,hi,ho,hal⟩,h2,h3⟩
    ·rw [hms] at hK
     exact wpo_end hK
   ·have hks:k=ops.size:=by
     rcases Nat.lt_or_ge k ops.size with h | h
     ·have:=(hk3 k h).1 (hall k h); omega
     ·omega
    refine ⟨st',hrel,?_⟩
    rw [hks] at hw
    exact wpo_end hw
  | succ fuel ih =>
   intro listed a w hsz hcnt hcl hph
   have hclosed:∀i,i < ops.size→(∀o,ops[i]?=some o→∀e,e∈o.after→Region.binds .any e=true→listed.getD e.on false=true)→∀j,j < ops.size→depOf ops i j=true→listed.getD j false=true:=by
    intro i
    induction i using Nat.strongRecOn with
    | _ i ihi =>
     intro hi hdir j hj hdep
     obtain ⟨e,he1,hb1,h⟩:=hp.step i _ j (Array.getElem?_eq_getElem hi) hj hdep
     have hl:=hdir _ (Array.getElem?_eq_getElem hi) e he1 hb1
     have hlt':=hp.dec i _ (Array.getElem?_eq_getElem hi) e he1 hb1
     rcases h with h | h
     ·rw [←h]; exact hl
     ·exact ihi e.on hlt' (by omega) (fun o ho=>hcl e.on o hl ho) j hj h
   have unl:∀{i o},i∈Region.ready .any ops listed→ops[i]?=some o→listed.getD i false=false∧∀e,e∈o.after→Region.binds .any e=true→listed.getD e.on false=true:=fun hi ho=>by
    obtain ⟨h1,o',ho',h2⟩:=mem_ready.1 hi
    rw [ho] at ho'; cases ho'
    have:=lt ho
    refine ⟨?_,h2⟩
    have hi':=lt ho
    rw [←hsz] at hi'
    simpa [hi'] using h1
   have isReady:∀{i o},ops[i]?=some o→listed.getD i false=false→(∀j,j < i→listed.getD j false=true)→i∈Region.ready .any ops listed:=fun ho h1 h2=>by
    refine mem_ready.2 ⟨?_,_,ho,fun e he hb=>h2 _ (hp.dec _ _ ho e he hb)⟩
    have hi':=lt ho
    rw [←hsz] at hi'
    simpa [hi'] using h1
   have next:∀i,i < ops.size→listed.getD i false=false→(listed.setIfInBounds i true).size=ops.size∧(listed.setIfInBounds i true).toList.count false≤fuel:=fun i hi h1=>by
    refine ⟨by simpa using hsz,?_⟩
    have hi':i < listed.size:=by omega
    have h2:listed.toList[i]?=some false:=by
     have:listed[i]=false:=by simpa [hi'] using h1
     simp [hi',this]
    have:=count_set listed.toList i h2
    simp only [Array.toList_setIfInBounds]
    omega
   have closedNext:∀i o,ops[i]?=some o→(∀e,e∈o.after→Region.binds .any e=true→listed.getD e.on false=true) →
     ∀j o',(listed.setIfInBounds i true).getD j false=true→ops[j]?=some o'→∀e,e∈o'.after→Region.binds .any e=true→(listed.setIfInBounds i true).getD e.on false=true:=fun i o ho hdir j o' hj ho' e he1 hb1=>by
    have hi':i < listed.size:=by rw [hsz]; exact lt ho
    rw [set_get hi'] at hj ⊢
    split
    ·rfl
    ·split at hj
     ·rename_i e2
      subst e2
      rw [ho] at ho'; cases ho'
      exact hdir e he1 hb1
     ·exact hcl j o' hj ho' e he1 hb1
   have second:(∃k,m≤k∧k≤ops.size∧(∀i,i < ops.size→(listed.getD i false=true↔i < k))∧∃st,Rel C st a w∧wpo P T n ops (ops.toList.drop k) st K) →
     wpAnyIn (fen C.ro) 0 P .any ops (fun e a' w'=>∃st',Rel C st' a' w'∧(match e with | .normal=>K st' | _=>False)) (fuel+1) listed a w:=by
    rintro ⟨k,hk1,hk2,hk3,st',hrel,hw⟩
    rcases Nat.lt_or_ge k ops.size with hks | hks
    ·have hok':ops[k]?=some ops[k]:=Array.getElem?_eq_getElem hks
     have hkun:listed.getD k false=false:=by
      cases hb:listed.getD k false
      ·rfl
      ·have:=(hk3 k hks).1 hb; omega
     have hkr:=isReady hok' hkun fun j hj=>(hk3 j (by omega)).2 hj
     refine ⟨fun h0=>(by rw [h0] at hkr; cases hkr),fun i hi=>?_⟩
     obtain ⟨_,o,ho,_⟩:=mem_ready.1 hi
     obtain ⟨hun,hdir⟩:=unl hi ho
     have hik:i=k:=by
      have h1:¬i < k:=fun h=>by rw [(hk3 i (lt ho)).2 h] at hun; cases hun
      rcases Nat.lt_or_ge k i with h2 | h2
      ·have:=hclosed i (lt ho) (fun o' ho'=>by rw [ho] at ho'; cases ho'; exact hdir) k hks (hp.tail i k (by omega) (lt ho) h2)
       rw [this] at hkun; cases hkun
      ·omega
     subst hik
     rw [drop_cons hks] at hw
     rw [ho] at hok'
     cases hok'
     obtain ⟨hn1,hn2⟩:=next i hks hun
     refine wpOp_one (K:=fun st=>wpo P T n ops (ops.toList.drop (i+1)) st K) hT hn ho hrel (fun st2 a2 w2 hr2 hk2'=>?_) hw
     refine ih _ a2 w2 hn1 hn2 (closedNext i _ ho hdir) (.inr ⟨i+1,by omega,by omega,fun j hj=>?_,st2,hr2,hk2'⟩)
     have hi':i < listed.size:=by rw [hsz]; exact hks
     rw [set_get hi']
     split
     ·rename_i e2; subst e2; simp
     ·rw [hk3 j hj]; omega
    ·have hall:∀i,i < ops.size→listed.getD i false=true:=fun i hi=>(hk3 i hi).2 (by omega)
     have hready:Region.ready .any ops listed=[]:=by
      apply List.eq_nil_iff_forall_not_mem.2
      intro i hi
      obtain ⟨_,o,ho,_⟩:=mem_ready.1 hi
      obtain ⟨hun,_⟩:=unl hi ho
      rw [hall i (lt ho)] at hun; cases hun
     refine ⟨fun _=>⟨st',hrel,?_⟩,fun i hi=>by rw [hready] at hi; cases hi⟩
     have:k=ops.size:=by omega
     rw [this] at hw
     exact wpo_end hw
   rcases hph with ⟨hge,hhalf⟩ | hph
   ·by_cases hpre:∀i,i < m→listed.getD i false=true
    ·refine second ⟨m,Nat.le_refl _,hp.le,fun i hi=>⟨fun h=>?_,fun h=>hpre i h⟩,⟨fA,HA⟩,?_,hK⟩
     ·rcases Nat.lt_or_ge i m with h1 | h1
      ·exact h1
      ·rw [hge i h1] at h; cases h
     ·obtain ⟨F1,β1,H1,g1,g2,g3,g4,g5,g6⟩:=hhalf.ex
      refine ⟨F1,β1,g1,g2,fun t=>g6 t fun i o hi _ _=>hpre i hi,g3.congr_heap (fun x=>?_) hA3⟩
      rw [g4 x,hA4 x]
      constructor
      ·rintro (h | ⟨d,t,z,h1,h2,h3⟩)
       ·exact .inl h
       ·obtain ⟨i,o,hi,ho,hal⟩:=memBox.1 h1
        exact .inr ⟨i,o,d,t,z,hi,hpre i hi,ho,hal,h2,h3⟩
      ·rintro (h | ⟨i,o,d,t,z,hi,_,ho,hal,h2,h3⟩)
       ·exact .inl h
       ·exact .inr ⟨d,t,z,memBox.2 ⟨i,o,hi,ho,hal⟩,h2,h3⟩
    ·-- the least that is not done
     have hex:∃i,i < m∧listed.getD i false=false∧∀j,j < i→listed.getD j false=true:=by
      have:∃i,i < m∧listed.getD i false=false:=by
       refine Classical.byContradiction fun hno=>hpre fun i hi=>?_
       cases hb:listed.getD i false
       ·exact absurd ⟨i,hi,hb⟩ hno
       ·rfl
      obtain ⟨i,hi,hb⟩:=this
      induction i using Nat.strongRecOn with
      | _ i ihi =>
       by_cases hall:∀j,j < i→listed.getD j false=true
       ·exact ⟨i,hi,hb,hall⟩
       ·have:∃j,j < i∧listed.getD j false=false:=by
         refine Classical.byContradiction fun hno=>hall fun j hj=>?_
         cases hb:listed.getD j false
         ·exact absurd ⟨j,hj,hb⟩ hno
         ·rfl
        obtain ⟨j,hj,hbj⟩:=this
        exact ihi j hj (by omega) hbj
     obtain ⟨i0,hi0,hb0,hall0⟩:=hex
     have hi0s:i0 < ops.size:=by have:=hp.le; omega
     have hr0:=isReady (Array.getElem?_eq_getElem hi0s) hb0 hall0
     refine ⟨fun h0=>(by rw [h0] at hr0; cases hr0),fun i hi=>?_⟩
     obtain ⟨_,o,ho,_⟩:=mem_ready.1 hi
     obtain ⟨hun,hdir⟩:=unl hi ho
     have hdep:∀j,j < ops.size→depOf ops i j=true→listed.getD j false=true:=fun j hj hd=>hclosed i (lt ho) (fun o' ho'=>by rw [ho] at ho'; cases ho'; exact hdir) j hj hd
     have him:i < m:=by
      rcases Nat.lt_or_ge i m with h | h
      ·exact h
      ·have:=hdep i0 hi0s (hp.tail i i0 h (lt ho) (by omega))
       rw [this] at hb0; cases hb0
     obtain ⟨hn1,hn2⟩:=next i (lt ho) hun
     have cont:∀a w,Half C (ChOf T) ops m fA Hm (listed.setIfInBounds i true) a w→wpAnyIn (fen C.ro) 0 P .any ops (fun e a' w'=>∃st',Rel C st' a' w'∧(match e with | .normal=>K st' | _=>False)) fuel (listed.setIfInBounds i true) a w:=fun a2 w2 hh=>by
      refine ih _ a2 w2 hn1 hn2 (closedNext i o ho hdir) (.inl ⟨fun j hj=>?_,hh⟩)
      have hi':i < listed.size:=by rw [hsz]; exact lt ho
      rw [set_get hi']
      split
      ·omega
      ·exact hge j hj
     cases hal:alOf o with
     | none=>exact half_steady hT hn hp.toPlan0.s hsz him ho hal hun (fun j hj hd=>hdep j (by have:=hp.le; omega) hd) hAfe he'.inv.keys (hok o (memSteady him ho hal)) (hlt o (memSteady him ho hal)) hhalf cont
     | some x =>
      obtain ⟨d,t⟩:=x
      obtain ⟨q2,c,hco,q1⟩:=hA2 d t (memBox.2 ⟨i,o,him,ho,hal⟩)
      cases t with
      | some t =>
       obtain ⟨z,q3,q4,rfl⟩:=hco
       exact half_alloc hT hn hp.toPlan0 hsz him ho hal hun q3 q4 q1 q2 (hnew d _ (memBox.2 ⟨i,o,him,ho,hal⟩)) hhalf cont
      | none =>
       obtain ⟨c',hc',hmk⟩:=mksOk_mem hb.1 (mem_take.2 ⟨i,him,ho⟩) hal
       obtain rfl:c'=c:=ChOf.uniq (T:=T) (x:=none) hc' hco
       exact half_call hn hp.toPlan0 hsz him ho hal hun (fun j hj hd=>hdep j (by have:=hp.le; omega) hd) hAfe hco hmk q1 q2 (hnew d _ (memBox.2 ⟨i,o,him,ho,hal⟩)) hhalf cont
   ·exact second hph
 have rep:∀i,(Array.replicate ops.size false).getD i false=false:=fun i=>by
  simp only [Array.getD_eq_getD_getElem?,Array.getElem?_replicate]
  split <;> rfl
 refine key ops.size _ a w (by simp) (by simp) (fun i o hi=>by rw [rep] at hi; cases hi) (.inl ⟨fun i _=>rep i,F,β',Hm,hs,hd,he',fun x=>⟨.inl,fun h=>?_⟩,fun i o d t hi ho hal _=>hund d (.inr ⟨t,memBox.2 ⟨i,o,hi,ho,hal⟩⟩),fun t ht=>?_⟩)
 ·rcases h with h | ⟨i,o,d,t,z,h1,h2,_⟩
  ·exact h
  ·rw [rep] at h2; cases h2
 ·have hno:∀i o,i < m→ops[i]?=some o→o.dst≠some t:=fun i o hi ho hd'=>by
   have:=ht i o hi ho hd'
   rw [rep] at this; cases this
  rw [hAfe0 t fun j o' ty hj ho' hal=>hno j o' hj ho' (alOf_dst hal).1,hfe t fun o ho=>by
   obtain ⟨i,hi,ho'⟩:=mem_take.1 (List.mem_filter.1 ho).1
   exact hno i o hi ho']
  show Rd _ _ _ (preB (boxesOf m ops) (eraseAll (boxesOf m ops) st).f t) _
  rw [preB_no fun x hx=>by
   obtain ⟨j,o',hj,ho',hal⟩:=memBox.1 hx
   exact hno j o' hj ho' (alOf_dst hal).1]
  exact hf' t
def atStore (T:TT) (ops:Array Oper) (m:Nat) (st:ASt) (K:ASt→Prop):Prop :=
 match ops[m]? with
 | some o=>match o.op with
  | .store t x y=>eStore T t (ev st.f x) (ev st.f y) st fun _ st'=>K st'
  | _=>False
 | none=>False
def lateL (P:Program) (T:TT) (ops:Array Oper) (st:ASt):List Nat→Prop
 | []=>True
 | j::r=>(match ops[j]? with
  | some o=>OpOk P T ops st.H st.f o
  | none=>False)∧lateL P T ops st r
theorem lateL_mem {ops:Array Oper} {st:ASt}:∀{late:List Nat},lateL P T ops st late→∀j o,j∈late→ops[j]?=some o→OpOk P T ops st.H st.f o
 | [],_,_,_,h,_=>by cases h
 | i::r,hl,j,o,h,ho=>by
  rcases List.mem_cons.1 h with rfl | h
  ·have:=hl.1
   rw [ho] at this
   exact this
  ·exact lateL_mem hl.2 j o h ho
theorem eStore_at {t:Nat} {x y:AV} {st:ASt} {k:AV→ASt→Prop} (h:eStore T t x y st k):∃H',k (.v undef) ⟨st.f,H'⟩∧(∀f,eStore T t x y ⟨f,st.H⟩ fun _ s=>s=⟨f,H'⟩)∧H'.map (·.1)=st.H.map (·.1):=by
 unfold eStore at h ⊢
 split at h
 ·rename_i i hi
  split at h
  ·rename_i id off
   split at h
   ·rename_i cells hc
    unfold stCells at h ⊢
    obtain ⟨hb,C,hC,h⟩:=cond_prop h
    exact ⟨_,h,fun f=>by simp only [hc]; exact bif_of hb ⟨C,hC,rfl⟩,setC_keys _⟩
   ·exact h.elim
  ·rename_i id K m j
   split at h
   ·rename_i E K' rows hc
    obtain ⟨hi0,row,hrow,hK,h⟩:=cond_prop h
    unfold stCells at h ⊢
    obtain ⟨hb,C,hC,R,hR,h⟩:=cond_prop h
    exact ⟨_,h,fun f=>by simp only [hc]; exact bif_of hi0 ⟨row,hrow,hK,bif_of hb ⟨C,hC,R,hR,rfl⟩⟩,setC_keys _⟩
   ·exact h.elim
  ·exact h.elim
 ·exact h.elim
theorem draw_rule2 {id m n:Nat} {late:List Nat} {ops:Array Oper} {st:ASt} {K:ASt→Prop} (hT:TOk P T) (hm:P.follows .mixedOrders=true) (hchk:drawChk2 m late ops=true)
  (h:wpd P T n ops (steady m ops) ⟨preB (boxesOf m ops) (eraseAll (boxesOf m ops) st).f,(eraseAll (boxesOf m ops) st).H⟩ fun st1=>mksOk P st1.f (ops.toList.take m)∧bindAll T n (boxesOf m ops) st1 fun st1=>atStore T ops m st1 fun st2=>lateL P T ops st2 late∧wpo P T n ops (ops.toList.drop (m+1)) st2 K):DrawOk P n id ops st K:=by
 refine ⟨fun C hn a w hr0=>?_⟩
 have hp:=plan2_of_chk hchk
 have hr:=rel_drew hr0
 refine wpIn_region_any hm ?_
 show wpAnyIn (fen C.ro) 0 P .any ops _ ops.size (Array.replicate ops.size false) a w.drew
 generalize w.drew=w at hr
 clear hr0
 obtain ⟨F,β,hs,hd,hf,he⟩:=hr
 obtain ⟨β',hf',he',hund,hkeysB⟩:=erase_all (boxesOf m ops) (fun d t h=>by
  obtain ⟨o,hmo,ho⟩:=List.mem_filterMap.1 h
  obtain ⟨i,hi,ho'⟩:=mem_take.1 hmo
  exact hp.low i o d hi ho' (alOf_dst ho).1) hf he
 have hlin:Lin ops (steady m ops):=by simpa [steady] using hp.lin m 0 (by omega)
 obtain ⟨fe,hfe,hb,hlt,hok⟩:=wpd_extract (steady m ops) _ hlin h
 have hnd:((boxesOf m ops).map (·.1)).Nodup:=by simpa [boxesOf] using boxes_nodup hp.toPlan0 m 0 (by omega)
 have hnew:∀d t,(d,t)∈boxesOf m ops→∀c,(d,c)∉(eraseAll (boxesOf m ops) st).H:=fun d t hm=>hkeysB d (.inr ⟨t,hm⟩)
 obtain ⟨fA,HA,hbA,hA1,hA2,hA3,hA4⟩:=bindAll_spec (boxesOf m ops) ⟨fe,(eraseAll (boxesOf m ops) st).H⟩ hb.2 hnd hnew he'.inv.keys
 generalize hHm:(eraseAll (boxesOf m ops) st).H=Hm at *
 have memBox:∀{d t},(d,t)∈boxesOf m ops↔∃i o,i < m∧ops[i]?=some o∧alOf o=some (d,t):=by
  intro d t
  constructor
  ·intro h
   obtain ⟨o,ho,hal⟩:=List.mem_filterMap.1 h
   obtain ⟨i,hi,ho⟩:=mem_take.1 ho
   exact ⟨i,o,hi,ho,hal⟩
  ·rintro ⟨i,o,hi,ho,hal⟩
   exact List.mem_filterMap.2 ⟨o,mem_take.2 ⟨i,hi,ho⟩,hal⟩
 have memSteady:∀{i o},i < m→ops[i]?=some o→alOf o=none→o∈steady m ops:=fun hi ho hal=>List.mem_filter.2 ⟨mem_take.2 ⟨_,hi,ho⟩,by simp [hal]⟩
 have hAfe0:∀t,(∀j o' ty,j < m→ops[j]?=some o'→alOf o'≠some (t,ty))→fA t=fe t:=fun t ht=>hA1 t fun ty hm=>by
  obtain ⟨j,o',hj,ho',hal⟩:=memBox.1 hm
  exact ht j o' ty hj ho' hal
 have hAfe:∀t,(∀j o' ty,j < m→ops[j]?=some o'→alOf o'=some (t,ty)→preO o'=true)→fA t=fe t:=fun t ht=>by
  by_cases hex:∃j o' ty,j < m∧ops[j]?=some o'∧alOf o'=some (t,ty)
  ·obtain ⟨j,o',ty,hj,ho',hal⟩:=hex
   have hp':=ht j o' ty hj ho' hal
   unfold preO at hp'
   rw [hal] at hp'
   cases ty with
   | some y=>cases hp'
   | none =>
    have hm:=memBox.2 ⟨j,o',hj,ho',hal⟩
    obtain ⟨_,c,hc,hfA⟩:=hA2 t none hm
    have hfe':fe t=.o t:=by
     rw [hfe t fun o ho=>by
      obtain ⟨i,hi,hoi⟩:=mem_take.1 (List.mem_filter.1 ho).1
      intro hd'
      have:=hp.one i o j o' t hi hj hoi ho' hd' (alOf_dst hal).1
      subst this
      rw [hoi] at ho'; cases ho'
      have:=(List.mem_filter.1 ho).2
      simp [hal] at this]
     exact preB_yes hp' hnd hm
    have hown:labAV t c=.o t:=by
     have hc':lkCh CH.ch t=some c:=hc
     have hp4:preOf t=true:=hp'
     unfold preOf at hp4
     rw [hc'] at hp4
     cases c <;> first | rfl | cases hp4
    rw [hfA,hown,hfe']
  ·exact hAfe0 t fun j o' ty hj ho' hal=>hex ⟨j,o',ty,hj,ho',hal⟩
 have lt:∀{i o},ops[i]?=some o→i < ops.size:=fun h=>(Array.getElem?_eq_some_iff.1 h).1
 obtain ⟨om,hom⟩:∃om,ops[m]?=some om:=⟨_,Array.getElem?_eq_getElem hp.lt⟩
 unfold atStore at hbA
 rw [hom] at hbA
 simp only at hbA
 split at hbA
 case h_2=>exact hbA.elim
 rename_i ts xs ys hopm
 obtain ⟨H',⟨hlate,hK⟩,hst,hHk⟩:=eStore_at hbA
 let T0:Nat→Option Nat→Chunk→Prop:=fun _ _ _=>False
 have hkeys':(H'.map (·.1)).Nodup:=by rw [hHk]; exact hA3
 have half_mk:∀{listed:Array Bool} {a:Act} {w:World} {F β},(∀i o,i < m→ops[i]?=some o→alOf o≠none→listed.getD i false=true)→a.tmps.size=C.n→True→XM C a.defers w F β H' →
   (∀t,(∀i o,i < m→ops[i]?=some o→o.dst=some t→listed.getD i false=true)→Rd w F β (fA t) (a.tmps.getD t undef))→Half C T0 ops m fA H' listed a w :=
  fun hal h1 h2 h3 h4=>⟨_,_,_,h1,h2,h3,fun x=>⟨.inl,fun h=>h.elim (fun h=>h) fun ⟨i,o,d,t,z,_,_,_,_,hz,_⟩=>by cases hz⟩,
   ⟨fun i o d t hi ho ha hl=>(by rw [hal i o hi ho (by rw [ha]; simp)] at hl; cases hl),h4⟩⟩
 have half_get:∀{listed:Array Bool} {a:Act} {w:World},Half C T0 ops m fA H' listed a w→∃F β,a.tmps.size=C.n∧True∧XM C a.defers w F β H' ∧
   (∀t,(∀i o,i < m→ops[i]?=some o→o.dst=some t→listed.getD i false=true)→Rd w F β (fA t) (a.tmps.getD t undef)):=fun hh=>by
  obtain ⟨F1,β1,H1,g1,g2,g3,g4,g5,g6⟩:=hh.ex
  refine ⟨F1,β1,g1,g2,g3.congr_heap (fun x=>?_) hkeys',g6⟩
  rw [g4 x]
  exact ⟨.inl,fun h=>h.elim (fun h=>h) fun ⟨i,o,d,t,z,_,_,_,_,hz,_⟩=>by cases hz⟩
 have key:∀fuel (listed:Array Bool) (a:Act) (w:World),listed.size=ops.size→listed.toList.count false≤fuel →
   (∀i o,listed.getD i false=true→ops[i]?=some o→∀e,e∈o.after→Region.binds .any e=true→listed.getD e.on false=true) →
   (((∀i,m≤i→listed.getD i false=false)∧Half C (ChOf T) ops m fA Hm listed a w) ∨
    (listed.getD m false=true∧(∀i,m < i→listed.getD i false=false)∧Half C T0 ops m fA H' listed a w) ∨
    ∃k,m < k∧k≤ops.size∧(∀i,i < ops.size→(listed.getD i false=true↔i < k))∧∃st,Rel C st a w∧wpo P T n ops (ops.toList.drop k) st K) →
   wpAnyIn (fen C.ro) 0 P .any ops (fun e a' w'=>∃st',Rel C st' a' w'∧(match e with | .normal=>K st' | _=>False)) fuel listed a w:=by
  intro fuel
  induction fuel with
  | zero =>
   intro listed a w hsz hcnt hcl hph
   have hall:∀i,i < ops.size→listed.getD i false=true:=fun i hi=>by
    have h0:listed.toList.count false=0:=by omega
    have hi':i < listed.size:=by omega
    have hmem:listed[i]∈listed.toList:=by simp
    cases hb:listed[i] with
    | true=>simp [hi',hb]
    | false=>rw [hb] at hmem; exact absurd hmem (List.count_eq_zero.1 h0)
   have hready:Region.ready .any ops listed=[]:=by
    apply List.eq_nil_iff_forall_not_mem.2
    intro i hi
    obtain ⟨h1,o,ho,_⟩:=mem_ready.1 hi
    have:=hall i (lt ho)
    have hi':i < listed.size:=by have:=lt ho; omega
    simp [hi'] at h1 this
    rw [h1] at this; cases this
   refine ⟨hready,?_⟩
   rcases hph with ⟨hge,_⟩ | ⟨_,hge,hhalf⟩ | ⟨k,hk1,hk2,hk3,st',hrel,hw⟩
   ·have:=hge m (Nat.le_refl _); rw [hall m hp.lt] at this; cases this
   ·have hms:m+1=ops.size:=by
     rcases Nat.lt_or_ge (m+1) ops.size with h | h
     ·have:=hge (m+1) (by omega); rw [hall (m+1) h] at this; cases this
     ·have:=hp.lt; omega
    obtain ⟨F1,β1,g1,g2,g3,g6⟩:=half_get hhalf
    refine ⟨⟨fA,H'⟩,⟨F1,β1,g1,g2,fun t=>g6 t fun i o hi _ _=>hall i (by omega),g3⟩,?_⟩
    rw [hms] at hK
    exact wpo_end hK
   ·have hks:k=ops.size:=by
     rcases Nat.lt_or_ge k ops.size with h | h
     ·have:=(hk3 k h).1 (hall k h); omega
     ·omega
    refine ⟨st',hrel,?_⟩
    rw [hks] at hw
    exact wpo_end hw
  | succ fuel ih =>
   intro listed a w hsz hcnt hcl hph
   have hclosed:∀i,i < ops.size→(∀o,ops[i]?=some o→∀e,e∈o.after→Region.binds .any e=true→listed.getD e.on false=true)→∀j,j < ops.size→depOf ops i j=true→listed.getD j false=true:=by
    intro i
    induction i using Nat.strongRecOn with
    | _ i ihi =>
     intro hi hdir j hj hdep
     obtain ⟨e,he1,hb1,h⟩:=hp.step i _ j (Array.getElem?_eq_getElem hi) hj hdep
     have hl:=hdir _ (Array.getElem?_eq_getElem hi) e he1 hb1
     have hlt':=hp.dec i _ (Array.getElem?_eq_getElem hi) e he1 hb1
     rcases h with h | h
     ·rw [←h]; exact hl
     ·exact ihi e.on hlt' (by omega) (fun o ho=>hcl e.on o hl ho) j hj h
   have unl:∀{i o},i∈Region.ready .any ops listed→ops[i]?=some o→listed.getD i false=false∧∀e,e∈o.after→Region.binds .any e=true→listed.getD e.on false=true:=fun hi ho=>by
    obtain ⟨h1,o',ho',h2⟩:=mem_ready.1 hi
    rw [ho] at ho'; cases ho'
    have:=lt ho
    refine ⟨?_,h2⟩
    have hi':=lt ho
    rw [←hsz] at hi'
    simpa [hi'] using h1
   have isReady:∀{i o},ops[i]?=some o→listed.getD i false=false→(∀j,j < i→listed.getD j false=true)→i∈Region.ready .any ops listed:=fun ho h1 h2=>by
    refine mem_ready.2 ⟨?_,_,ho,fun e he hb=>h2 _ (hp.dec _ _ ho e he hb)⟩
    have hi':=lt ho
    rw [←hsz] at hi'
    simpa [hi'] using h1
   have next:∀i,i < ops.size→listed.getD i false=false→(listed.setIfInBounds i true).size=ops.size∧(listed.setIfInBounds i true).toList.count false≤fuel:=fun i hi h1=>by
    refine ⟨by simpa using hsz,?_⟩
    have hi':i < listed.size:=by omega
    have h2:listed.toList[i]?=some false:=by
     have:listed[i]=false:=by simpa [hi'] using h1
     simp [hi',this]
    have:=count_set listed.toList i h2
    simp only [Array.toList_setIfInBounds]
    omega
   have closedNext:∀i o,ops[i]?=some o→(∀e,e∈o.after→Region.binds .any e=true→listed.getD e.on false=true) →
     ∀j o',(listed.setIfInBounds i true).getD j false=true→ops[j]?=some o'→∀e,e∈o'.after→Region.binds .any e=true→(listed.setIfInBounds i true).getD e.on false=true:=fun i o ho hdir j o' hj ho' e he1 hb1=>by
    have hi':i < listed.size:=by rw [hsz]; exact lt ho
    rw [set_get hi'] at hj ⊢
    split
    ·rfl
    ·split at hj
     ·rename_i e2
      subst e2
      rw [ho] at ho'; cases ho'
      exact hdir e he1 hb1
     ·exact hcl j o' hj ho' e he1 hb1
   have least:∀(q:Nat),(¬∀i,i < q→listed.getD i false=true)→∃i,i < q∧listed.getD i false=false∧∀j,j < i→listed.getD j false=true:=fun q hpre=>by
    have:∃i,i < q∧listed.getD i false=false:=by
     refine Classical.byContradiction fun hno=>hpre fun i hi=>?_
     cases hb:listed.getD i false
     ·exact absurd ⟨i,hi,hb⟩ hno
     ·rfl
    obtain ⟨i,hi,hb⟩:=this
    induction i using Nat.strongRecOn with
    | _ i ihi =>
     by_cases hall:∀j,j < i→listed.getD j false=true
     ·exact ⟨i,hi,hb,hall⟩
     ·have:∃j,j < i∧listed.getD j false=false:=by
       refine Classical.byContradiction fun hno=>hall fun j hj=>?_
       cases hb:listed.getD j false
       ·exact absurd ⟨j,hj,hb⟩ hno
       ·rfl
      obtain ⟨j,hj,hbj⟩:=this
      exact ihi j hj (by omega) hbj
   have depL:∀{i o},ops[i]?=some o→(∀e,e∈o.after→Region.binds .any e=true→listed.getD e.on false=true)→∀j,j < ops.size→depOf ops i j=true→listed.getD j false=true :=
    fun ho hdir j hj hd=>hclosed _ (lt ho) (fun o' ho'=>by rw [ho] at ho'; cases ho'; exact hdir) j hj hd
   have third:(∃k,m < k∧k≤ops.size∧(∀i,i < ops.size→(listed.getD i false=true↔i < k))∧∃st,Rel C st a w∧wpo P T n ops (ops.toList.drop k) st K) →
     wpAnyIn (fen C.ro) 0 P .any ops (fun e a' w'=>∃st',Rel C st' a' w'∧(match e with | .normal=>K st' | _=>False)) (fuel+1) listed a w:=by
    rintro ⟨k,hk1,hk2,hk3,st',hrel,hw⟩
    rcases Nat.lt_or_ge k ops.size with hks | hks
    ·have hok':ops[k]?=some ops[k]:=Array.getElem?_eq_getElem hks
     have hkun:listed.getD k false=false:=by
      cases hb:listed.getD k false
      ·rfl
      ·have:=(hk3 k hks).1 hb; omega
     have hkr:=isReady hok' hkun fun j hj=>(hk3 j (by omega)).2 hj
     refine ⟨fun h0=>(by rw [h0] at hkr; cases hkr),fun i hi=>?_⟩
     obtain ⟨_,o,ho,_⟩:=mem_ready.1 hi
     obtain ⟨hun,hdir⟩:=unl hi ho
     have hik:i=k:=by
      have h1:¬i < k:=fun h=>by rw [(hk3 i (lt ho)).2 h] at hun; cases hun
      rcases Nat.lt_or_ge k i with h2 | h2
      ·have:=depL ho hdir k hks (hp.tail i k (by omega) (lt ho) h2)
       rw [this] at hkun; cases hkun
      ·omega
     subst hik
     rw [drop_cons hks] at hw
     rw [ho] at hok'
     cases hok'
     obtain ⟨hn1,hn2⟩:=next i hks hun
     refine wpOp_one (K:=fun st=>wpo P T n ops (ops.toList.drop (i+1)) st K) hT hn ho hrel (fun st2 a2 w2 hr2 hk2'=>?_) hw
     refine ih _ a2 w2 hn1 hn2 (closedNext i _ ho hdir) (.inr (.inr ⟨i+1,by omega,by omega,fun j hj=>?_,st2,hr2,hk2'⟩))
     have hi':i < listed.size:=by rw [hsz]; exact hks
     rw [set_get hi']
     split
     ·rename_i e2; subst e2; simp
     ·rw [hk3 j hj]; omega
    ·have hall:∀i,i < ops.size→listed.getD i false=true:=fun i hi=>(hk3 i hi).2 (by omega)
     have hready:Region.ready .any ops listed=[]:=by
      apply List.eq_nil_iff_forall_not_mem.2
      intro i hi
      obtain ⟨_,o,ho,_⟩:=mem_ready.1 hi
      obtain ⟨hun,_⟩:=unl hi ho
      rw [hall i (lt ho)] at hun; cases hun
     refine ⟨fun _=>⟨st',hrel,?_⟩,fun i hi=>by rw [hready] at hi; cases hi⟩
     have:k=ops.size:=by omega
     rw [this] at hw
     exact wpo_end hw
   rcases hph with ⟨hge,hhalf⟩ | ⟨hmd,hge,hhalf⟩ | hph
   ·-- the store is to come
    have hmun:=hge m (Nat.le_refl _)
    obtain ⟨i0,hi0,hb0,hall0⟩:=least (m+1) fun hh=>by have:=hh m (by omega); rw [hmun] at this; cases this
    have hi0s:i0 < ops.size:=by have:=hp.lt; omega
    have hr0:=isReady (Array.getElem?_eq_getElem hi0s) hb0 hall0
    refine ⟨fun h0=>(by rw [h0] at hr0; cases hr0),fun i hi=>?_⟩
    obtain ⟨_,o,ho,_⟩:=mem_ready.1 hi
    obtain ⟨hun,hdir⟩:=unl hi ho
    have hdep:=depL ho hdir
    obtain ⟨hn1,hn2⟩:=next i (lt ho) hun
    have him:i≤m:=by
     rcases Nat.lt_or_ge m i with h | h
     ·have:=hdep m hp.lt (hp.tail i m h (lt ho) h)
      rw [this] at hmun; cases hmun
     ·exact h
    have hi':i < listed.size:=by rw [hsz]; exact lt ho
    rcases Nat.lt_or_ge i m with him | him
    ·have cont:∀a w,Half C (ChOf T) ops m fA Hm (listed.setIfInBounds i true) a w→wpAnyIn (fen C.ro) 0 P .any ops (fun e a' w'=>∃st',Rel C st' a' w'∧(match e with | .normal=>K st' | _=>False)) fuel (listed.setIfInBounds i true) a w:=fun a2 w2 hh=>by
      refine ih _ a2 w2 hn1 hn2 (closedNext i o ho hdir) (.inl ⟨fun j hj=>?_,hh⟩)
      rw [set_get hi']
      split
      ·omega
      ·exact hge j hj
     cases hal:alOf o with
     | none=>exact half_steady hT hn hp.toPlan0.s hsz him ho hal hun (fun j hj hd=>hdep j (by have:=hp.lt; omega) hd) hAfe he'.inv.keys (hok o (memSteady him ho hal)) (hlt o (memSteady him ho hal)) hhalf cont
     | some x =>
      obtain ⟨d,t⟩:=x
      obtain ⟨q2,c,hco,q1⟩:=hA2 d t (memBox.2 ⟨i,o,him,ho,hal⟩)
      cases t with
      | some t =>
       obtain ⟨z,q3,q4,rfl⟩:=hco
       exact half_alloc hT hn hp.toPlan0 hsz him ho hal hun q3 q4 q1 q2 (hnew d _ (memBox.2 ⟨i,o,him,ho,hal⟩)) hhalf cont
      | none =>
       obtain ⟨c',hc',hmk⟩:=mksOk_mem hb.1 (mem_take.2 ⟨i,him,ho⟩) hal
       obtain rfl:c'=c:=ChOf.uniq (T:=T) (x:=none) hc' hco
       exact half_call hn hp.toPlan0 hsz him ho hal hun (fun j hj hd=>hdep j (by have:=hp.lt; omega) hd) hAfe hco hmk q1 q2 (hnew d _ (memBox.2 ⟨i,o,him,ho,hal⟩)) hhalf cont
    ·obtain rfl:i=m:=by omega
     rw [hom] at ho
     cases ho
     have hals:∀j o',j < i→ops[j]?=some o'→alOf o'≠none→listed.getD j false=true:=fun j o' hj ho' ha=>by
      rcases hp.late j o' hj ho' with h | h
      ·exact hdep j (lt ho') h
      ·exact absurd h.1 ha
     obtain ⟨F1,β1,g1,g2,g3,g6⟩:∃F β,a.tmps.size=C.n∧True∧XM C a.defers w F β HA ∧
       (∀t,(∀j o,j < i→ops[j]?=some o→o.dst=some t→listed.getD j false=true)→Rd w F β (fA t) (a.tmps.getD t undef)):=by
      obtain ⟨F1,β1,H1,g1,g2,g3,g4,g5,g6⟩:=hhalf.ex
      refine ⟨F1,β1,g1,g2,g3.congr_heap (fun x=>?_) hA3,g6⟩
      rw [g4 x,hA4 x]
      constructor
      ·rintro (h | ⟨d,t,z,h1,h2,h3⟩)
       ·exact .inl h
       ·obtain ⟨j,o',hj,ho',hal⟩:=memBox.1 h1
        exact .inr ⟨j,o',d,t,z,hj,hals j o' hj ho' (by rw [hal]; simp),ho',hal,h2,h3⟩
      ·rintro (h | ⟨j,o',d,t,z,hj,_,ho',hal,h2,h3⟩)
       ·exact .inl h
       ·exact .inr ⟨d,t,z,memBox.2 ⟨j,o',hj,ho',hal⟩,h2,h3⟩
     obtain ⟨hdst,hgd⟩:=hp.store _ hom
     obtain ⟨known,hknown,hkn⟩:∃known:Nat→AV,(∀t,(∀j o,j < i→ops[j]?=some o→o.dst=some t→listed.getD j false=true)→known t=fA t)∧∀t,Rd w F1 β1 (known t) (a.tmps.getD t undef):=by
      classical
      refine ⟨fun t=>if ∀j o,j < i→ops[j]?=some o→o.dst=some t→listed.getD j false=true then fA t else .junk,fun t ht=>if_pos ht,fun t=>?_⟩
      simp only
      split
      ·rename_i hh; exact g6 t hh
      ·exact .junk
     have hlk:∀t,t∈om.looksAt ops→known t=fA t:=fun t ht=>hknown t fun j o' hj ho' hd'=>by
      exact hdep j (by have:=lt ho'; omega) (hp.lookm om t j o' hom ht hj ho' hd')
     have hev:∀x,x∈om.op.operands→ev known x=ev fA x:=fun x hx=>by
      cases x with
      | tmp t=>exact hlk t (List.mem_append_left _ (List.mem_filterMap.2 ⟨.tmp t,by simpa using hx,rfl⟩))
      | _=>rfl
     have hstep:gd n ops om ⟨known,HA⟩ (fun st=>step P T om st fun r st'=>put n om.dst st' r fun s=>s=⟨known,H'⟩) fun st=>put n om.dst st (.v undef) fun s=>s=⟨known,H'⟩:=by
      rw [gd_eq,hgd]
      have h1:=hst known
      have e1:ev known xs=ev fA xs:=hev xs (by rw [hopm]; simp [Op.operands])
      have e2:ev known ys=ev fA ys:=hev ys (by rw [hopm]; simp [Op.operands])
      have h2:eStore T ts (ev known xs) (ev known ys) ⟨known,HA⟩ fun r st'=>put n om.dst st' r fun s=>s=⟨known,H'⟩:=by
       rw [e1,e2,hdst]
       have:(fun (r:AV) (st':ASt)=>put n none st' r fun s=>s=⟨known,H'⟩)=fun _ st'=>st'=⟨known,H'⟩:=by
        funext r st'; rw [put_eq]
       rw [this]; exact h1
      have h3:step P T om ⟨known,HA⟩ (fun r st'=>put n om.dst st' r fun s=>s=⟨known,H'⟩)=step0 P T om ⟨known,HA⟩ fun r st'=>put n om.dst st' r fun s=>s=⟨known,H'⟩:=by
       unfold step; rw [hdst]; rfl
      show step P T om ⟨known,HA⟩ _
      rw [h3]
      unfold step0
      rw [hopm]
      exact h2
     refine wpOp_one (st:=⟨known,HA⟩) (K:=fun s=>s=⟨known,H'⟩) hT hn hom ⟨F1,β1,g1,g2,hkn,g3⟩ (fun st2 a2 w2 hr2 hk2=>?_) hstep
     subst hk2
     obtain ⟨F2,β2,q1,q2,q3,q4⟩:=hr2
     refine ih _ a2 w2 hn1 hn2 (closedNext i om hom hdir) (.inr (.inl ⟨by rw [set_get hi',if_pos rfl],fun j hj=>?_,half_mk (fun j o' hj ho' ha=>by rw [set_get hi']; split; rfl; exact hals j o' hj ho' ha) q1 q2 q4 fun t ht=>?_⟩))
     ·rw [set_get hi',if_neg (by omega)]; exact hge j (by omega)
     ·have h1:=q3 t
      have:known t=fA t:=hknown t fun j o' hj ho' hd'=>by
       have:=ht j o' hj ho' hd'
       rwa [set_get hi',if_neg (by omega)] at this
      rw [←this]; exact h1
   ·-- the store is done
    by_cases hpre:∀i,i < m→listed.getD i false=true
    ·refine third ⟨m+1,by omega,by have:=hp.lt; omega,fun i hi=>⟨fun h=>?_,fun h=>?_⟩,⟨fA,H'⟩,?_,hK⟩
     ·rcases Nat.lt_or_ge m i with h1 | h1
      ·rw [hge i h1] at h; cases h
      ·omega
     ·rcases Nat.lt_or_ge i m with h1 | h1
      ·exact hpre i h1
      ·obtain rfl:i=m:=by omega
       exact hmd
     ·obtain ⟨F1,β1,g1,g2,g3,g6⟩:=half_get hhalf
      exact ⟨F1,β1,g1,g2,fun t=>g6 t fun i o hi _ _=>hpre i hi,g3⟩
    ·obtain ⟨i0,hi0,hb0,hall0⟩:=least m hpre
     have hi0s:i0 < ops.size:=by have:=hp.lt; omega
     have hr0:=isReady (Array.getElem?_eq_getElem hi0s) hb0 hall0
     refine ⟨fun h0=>(by rw [h0] at hr0; cases hr0),fun i hi=>?_⟩
     obtain ⟨_,o,ho,_⟩:=mem_ready.1 hi
     obtain ⟨hun,hdir⟩:=unl hi ho
     have hdep:=depL ho hdir
     obtain ⟨hn1,hn2⟩:=next i (lt ho) hun
     have hi':i < listed.size:=by rw [hsz]; exact lt ho
     have him:i < m:=by
      rcases Nat.lt_or_ge m i with h | h
      ·have:=hdep i0 hi0s (hp.tail i i0 h (lt ho) (by omega))
       rw [this] at hb0; cases hb0
      ·rcases Nat.lt_or_ge i m with h2 | h2
       ·exact h2
       ·obtain rfl:i=m:=by omega
        rw [hmd] at hun; cases hun
     obtain ⟨hal,hoklate⟩:alOf o=none∧OpOk P T ops H' fA o:=by
      rcases hp.late i o him ho with h | h
      ·have:=hclosed m hp.lt (fun o ho=>hcl m o hmd ho) i (by omega) h
       rw [this] at hun; cases hun
      ·exact ⟨h.1,lateL_mem hlate i o h.2 ho⟩
     refine half_steady hT hn hp.toPlan0.s hsz him ho hal hun (fun j hj hd=>hdep j (by have:=hp.lt; omega) hd) (fun _ _=>rfl) hkeys' hoklate (hlt o (memSteady him ho hal)) hhalf fun a2 w2 hh=>?_
     refine ih _ a2 w2 hn1 hn2 (closedNext i o ho hdir) (.inr (.inl ⟨?_,fun j hj=>?_,hh⟩))
     ·rw [set_get hi']; split
      ·rfl
      ·exact hmd
     ·rw [set_get hi',if_neg (by omega)]; exact hge j hj
   ·exact third hph
 have rep:∀i,(Array.replicate ops.size false).getD i false=false:=fun i=>by
  simp only [Array.getD_eq_getD_getElem?,Array.getElem?_replicate]
  split <;> rfl
 refine key ops.size _ a w (by simp) (by simp) (fun i o hi=>by rw [rep] at hi; cases hi) (.inl ⟨fun i _=>rep i,F,β',Hm,hs,hd,he',fun x=>⟨.inl,fun h=>?_⟩,fun i o d t hi ho hal _=>hund d (.inr ⟨t,memBox.2 ⟨i,o,hi,ho,hal⟩⟩),fun t ht=>?_⟩)
 ·rcases h with h | ⟨i,o,d,t,z,h1,h2,_⟩
  ·exact h
  ·rw [rep] at h2; cases h2
 ·have hno:∀i o,i < m→ops[i]?=some o→o.dst≠some t:=fun i o hi ho hd'=>by
   have:=ht i o hi ho hd'
   rw [rep] at this; cases this
  rw [hAfe0 t fun j o' ty hj ho' hal=>hno j o' hj ho' (alOf_dst hal).1,hfe t fun o ho=>by
   obtain ⟨i,hi,ho'⟩:=mem_take.1 (List.mem_filter.1 ho).1
   exact hno i o hi ho']
  show Rd _ _ _ (preB (boxesOf m ops) (eraseAll (boxesOf m ops) st).f t) _
  rw [preB_no fun x hx=>by
   obtain ⟨j,o',hj,ho',hal⟩:=memBox.1 hx
   exact hno j o' hj ho' (alOf_dst hal).1]
  exact hf' t
end
end Go.Cat
set_option linter.all false
namespace Go.Cat
open Go.RowKit
variable [M:Mono]
section
variable {P:Program} {T:TT} {w:World} {F:Nat→Prop} {β:Nat→Value}
theorem ext_bindF {st:ASt} {w':World} {F':Nat→Prop} {d:Nat} {c:Chunk} {v:Value} (hd:d < 1000) (hI:Inv w F β st.H) (hb:Below w.heap.size w w') (hmono:∀b,F b→F' b) (hFnew:∀b,F' b→FNew F w w' b)
  (hnew:∀b,blkOf v=some b→w.heap.size≤b∧¬F' b) (hc:c.holds w' F' (fun i=>if i=d then v else β i) d) :
  Ext w F β st w' F' (fun i=>if i=d then v else β i) (bindSt st d c):=by
 have hβ:∀i,i≠d→(fun i=>if i=d then v else β i) i=β i:=fun i hi=>if_neg hi
 have ha:Agree F w w':=Below.agree hb hI.fsize
 have hown:∀b,Owned (fun i=>if i=d then v else β i) ((d,c)::erH d st.H) b→(w.heap.size≤b∧¬F' b)∨Owned β st.H b:=by
  rintro b ⟨i,c',hm,hb'⟩
  rcases List.mem_cons.1 hm with hm | hm
  ·cases hm
   simp only [if_true] at hb'
   exact .inl (hnew b hb')
  ·obtain ⟨hi,c2,h2,_⟩:=erH_mem hm
   simp only [if_neg hi] at hb'
   exact .inr ⟨i,c2,h2,hb'⟩
 refine ⟨hb.os,hb.tape,hb.output,hb.size,fun b h _=>hb.block b h,hmono,fun b h=>(hFnew b h).elim .inl fun h=>.inr (.inl h.1),fun b h=>(hown b h).elim (fun h=>.inl h.1) .inr,fun t u h=>er_rd hβ 2 (h.frame ha hmono),?_,fun i hi=>hβ i (by omega)⟩
 refine ⟨fun b h=>(hFnew b h).elim (fun h=>Nat.lt_of_lt_of_le (hI.fsize b h) hb.size) fun h=>h.2,?_,?_,fun b ho hF=>?_,?_⟩
 ·intro i c' hm
  rcases List.mem_cons.1 hm with hm | hm
  ·cases hm; exact hc
  ·obtain ⟨hi,c2,h2,rfl⟩:=erH_mem hm
   exact holds_er hi hβ (holds_frame ha hmono (fun b hb'=>hb.block b (hI.owned_lt ⟨i,c2,h2,hb'⟩)) (hI.holds i c2 h2))
 ·show ((d::(erH d st.H).map (·.1))).Nodup
  rw [List.nodup_cons]
  refine ⟨fun hm=>?_,erH_keys hI.keys⟩
  obtain ⟨x,hx,hxe⟩:=List.mem_map.1 hm
  obtain ⟨i,c'⟩:=x
  exact (erH_mem hx).1 hxe
 ·rcases hown b ho with h | h
  ·exact h.2 hF
  ·rcases hFnew b hF with h1 | h1
   ·exact hI.apart b h h1
   ·exact absurd (hI.owned_lt h) (Nat.not_lt.2 h1.1)
 ·have key:∀i c' b,(i,c')∈erH d st.H→blkOf (β i)=some b→blkOf v=some b→False:=fun i c' b hm hb1 hv=>by
   obtain ⟨hi,c2,h2,_⟩:=erH_mem hm
   exact absurd (hI.owned_lt ⟨i,c2,h2,hb1⟩) (Nat.not_lt.2 (hnew b hv).1)
  intro i c1 i' c1' b hm hm' hb1 hb'
  rcases List.mem_cons.1 hm with hm | hm <;> rcases List.mem_cons.1 hm' with hm' | hm'
  ·cases hm; cases hm'; rfl
  ·cases hm
   simp only [if_true] at hb1
   simp only [if_neg (erH_mem hm').1] at hb'
   exact (key i' c1' b hm' hb' hb1).elim
  ·cases hm'
   simp only [if_true] at hb'
   simp only [if_neg (erH_mem hm).1] at hb1
   exact (key i c1 b hm hb1 hb').elim
  ·obtain ⟨hi,c2,h2,_⟩:=erH_mem hm
   obtain ⟨hi',c2',h2',_⟩:=erH_mem hm'
   simp only [if_neg hi] at hb1
   simp only [if_neg hi'] at hb'
   exact hI.disj i c2 i' c2' b h2 h2' hb1 hb'
def POwn (P:Program) (g:FuncId) (args:List AV) (E K:Nat) (rows:List (List AV)):Prop :=
 Entered P g∧∀(w:World) (F:Nat→Prop) (β:Nat→Value) (vs:Array Value),Inv w F β []→vs.size=args.length→(∀i,i < args.length→Rd w F β (args.getD i .junk) (vs.getD i undef)) →
  Calls P g vs w fun e w'=>∃v,e=.returned v∧Below w.heap.size w w'∧∃F',(∀b,F b→F' b)∧(∀b,F' b→FNew F w w' b)∧Chunk.holds w' F' (fun _=>v) 0 (.own E K rows)∧(∃a n c,v=.slice a n c) ∧
   ∀b,blkOf v=some b→w.heap.size≤b∧¬F' b
def EndOwn (E K:Nat) (rows:List (List AV)) (x:AV) (st:ASt):Prop :=
 (x=.v (.slice none 0 0)∧rows=[])∨∃id,x=.o id∧findC id st.H=some (.own E K rows)
theorem own_any {id:Nat} {E K:Nat} {rows:List (List AV)} (h:Chunk.holds w F β id (.own E K rows)):∀(β':Nat→Value) (i:Nat),β' i=β id→Chunk.holds w F β' i (.own E K rows):=by
 intro β' i hi
 unfold Chunk.holds at *
 rw [hi]; exact h
theorem CallOk.own {g:FuncId} {xs ys:List AV} {st:ASt} {E K D:Nat} {rows:List (List AV)} {k:AV→ASt→Prop} (h:POwn P g ys E K rows) (hle:LeL xs ys) (hD:Nat.blt D 1000=true) (hk:k (.o D) (bindSt st D (.own E K rows))):CallOk P g xs st k:=by
 obtain ⟨hl,hz⟩:=hle.spec
 refine ⟨h.1,fun w F β vs hI hs hv=>(h.2 w F β vs hI.nil (by omega) fun i hi=>hz i (by omega) _ _ _ _ (hv i (by omega))).mono ?_⟩
 rintro e w' ⟨v,rfl,hb,F',h1,h2,h3,⟨a,m,c,rfl⟩,h4⟩
 exact ⟨_,rfl,.o D,_,F',_,hk,.o (by simp),ext_bindF (by simpa using hD) hI hb h1 h2 h4 (own_any h3 _ _ (by simp))⟩
theorem POwn.makes {g:FuncId} {args:List AV} {E K:Nat} {rows:List (List AV)} (h:POwn P g args E K rows):Makes P g args (.own E K rows) :=
 ⟨h.1,fun w F β vs hI hs hv=>(h.2 w F β vs hI hs hv).mono fun e w'=>by
  rintro ⟨v,rfl,hb,F',hm,hn,hc,⟨a,n,c,rfl⟩,hf⟩
  exact ⟨_,rfl,hb,F',hm,hn,fun β' i hi=>⟨own_any hc β' i hi,.o hi⟩,hf⟩⟩
theorem POwn.pure {g:FuncId} {args:List AV} {E K:Nat} {rows:List (List AV)} (h:POwn P g args E K rows):Pure P g args (.s rows):=by
 refine ⟨h.1,fun w F β vs hI hs hv=>(h.2 w F β vs hI hs hv).mono ?_⟩
 rintro e w' ⟨v,rfl,hb,F',h1,h2,h3,⟨a,m,c,rfl⟩,h4⟩
 refine ⟨_,rfl,hb,?_⟩
 rcases h3 with ⟨rfl,a',hv⟩ | ⟨g',cap,cur,hv,hc,hg,hn,hmx,hsz,hK,hr⟩
 ·cases hv; exact .s0
 ·cases hv
  have h0:Nat.beq c 0=false:=by cases c <;> first | rfl | omega
  have hge:=(h4 g' (by simp [blkOf,h0])).1
  refine .s (off:=0) (k:=K) (u:=fun i j=>cur.getD (i * K+j) undef) (.inr ⟨hge,blk_lt_of_heap hg⟩) hn hmx hK (fun i j hi hj=>?_) (fun i j hi hj=>(hr i j hi hj).1) fun i j hi hj=>(hr i j hi hj).2.frame (fun _ _=>rfl) h2
  rw [Nat.zero_add,cell_of_row w' g' _ cur E (0,0) hg]
  have:i * K+j < cur.size:=by
   rw [hsz]
   calc i * K + j < i * K + K := by omega
    _ = (i + 1) * K := by rw [Nat.add_mul]; omega
    _ ≤ c * K := Nat.mul_le_mul_right _ (by omega)
  simp [this]
end
abbrev vi (n:Int):AV:=.v (.int .i64 n)
abbrev vb (b:Bool):AV:=.v (.bool b)
abbrev bs (l:List UInt8):AV:=.s (l.map encB)
def encI (n:Int):List AV:=[.v (.int .i64 n)]
abbrev is (l:List Int):AV:=.s (l.map encI)
theorem Fz.v' {H:Hp} {x y:Value} (h:x=y):Fz H (.v x) (.v y):=h▸Fz.v
theorem Fz.s' {H:Hp} {x y:List (List AV)} (h:x=y):Fz H (.s x) (.s y):=h▸Fz.s
theorem rowsLen_map {α:Type} {f:α→List AV} {n:Nat} (h:∀x,(f x).length=n) (l:List α):RowsLen (l.map f) n:=fun r hr=>by
 obtain ⟨x,_,rfl⟩:=List.mem_map.1 hr
 exact h x
end Go.Cat
set_option linter.all false
namespace Go.Cat
open Go.ChangeShapes Go.WideShapes Go.RowKit
variable [M:Mono]
mutual
inductive Dat (P:Program):TypeId→List AV→Prop where
 | bool {t:TypeId} {b:Bool} (h:P.underlying t=some .bool):Dat P t [.v (.bool b)]
 | int {t:TypeId} {k:IntKind} {n:Int} (h:P.underlying t=some (.int k)) (hn:(Lit.int k n).wf=true):Dat P t [.v (.int k n)]
 | str {t:TypeId} {s:ByteArray} (h:P.underlying t=some .string) (hs:s.size≤maxLen):Dat P t [.v (.string s)]
 | slice {t e:TypeId} {rows:List (List AV)} (h:P.underlying t=some (.slice e)) (hl:rows.length≤maxLen) (hk:∀r,r∈rows→r.length=P.cellsOf e) (hr:∀r,r∈rows→Dat P e r):Dat P t [.s rows]
 | struct {t:TypeId} {fs:Array Field} {xs:List AV} (h:P.underlying t=some (.struct fs)) (hf:DatF P (fs.toList.map (·.type)) xs):Dat P t xs
 | arr {t e:TypeId} {n:Nat} {xs:List AV} (h:P.underlying t=some (.array n e)) (hf:DatF P (List.replicate n e) xs):Dat P t xs
inductive DatF (P:Program):List TypeId→List AV→Prop where
 | nil:DatF P [] []
 | cons {t:TypeId} {ts:List TypeId} {xs ys:List AV} (h:Dat P t xs) (hs:DatF P ts ys):DatF P (t::ts) (xs++ys)
end
def DatV (P:Program) (t:TypeId) (x:AV):Prop :=
 match P.underlying t with
 | some (.struct _)=>∃cs,x=.a cs∧Dat P t cs
 | some (.array _ _)=>∃cs,x=.a cs∧Dat P t cs
 | _=>Dat P t [x]
inductive DatL (P:Program):List TypeId→List AV→Prop where
 | nil:DatL P [] []
 | cons {t:TypeId} {ts:List TypeId} {x:AV} {xs:List AV} (h:DatV P t x) (hs:DatL P ts xs):DatL P (t::ts) (x::xs)
def plainTy (P:Program):Nat→TypeId→Bool
 | 0,_=>false
 | n+1,t=>match P.underlying t with
  | some .bool | some (.int _) | some .string=>true
  | some (.slice e)=>plainTy P n e&&Nat.blt 0 (P.cellsOf e)
  | some (.struct fs)=>fs.toList.all fun f=>plainTy P n f.type
  | some (.array _ e)=>plainTy P n e
  | _=>false
def PlainT (P:Program) (t:TypeId):Prop:=t < P.types.size∧∃n,plainTy P n t=true
theorem PlainT.slice {P:Program} (hl:laidOutB P=true) {t e:TypeId} (h:PlainT P t) (hu:P.underlying t=some (.slice e)):PlainT P e∧0 < P.cellsOf e:=by
 obtain ⟨ht,n,hn⟩:=h
 cases n with
 | zero=>cases hn
 | succ n =>
  simp only [plainTy,hu,Bool.and_eq_true,Nat.blt_eq] at hn
  exact ⟨⟨kid_slice hl ht hu,n,hn.1⟩,hn.2⟩
theorem PlainT.struct {P:Program} (hl:laidOutB P=true) {t:TypeId} {fs:Array Field} (h:PlainT P t) (hu:P.underlying t=some (.struct fs)) :
  (∀f∈fs.toList,PlainT P f.type)∧P.cellsOf t=(fs.toList.map fun f=>P.cellsOf f.type).sum∧∀(j:Nat) f,fs.toList[j]?=some f→f.offset=((fs.toList.take j).map fun f=>P.cellsOf f.type).sum:=by
 obtain ⟨ht,n,hn⟩:=h
 obtain ⟨h1,h2,h3⟩:=kid_struct hl ht hu
 refine ⟨fun f hf=>⟨h1 f hf,?_⟩,h2,h3⟩
 cases n with
 | zero=>cases hn
 | succ n =>
  simp only [plainTy,hu,List.all_eq_true] at hn
  exact ⟨n,hn f hf⟩
theorem PlainT.array {P:Program} (hl:laidOutB P=true) {t e:TypeId} {k:Nat} (h:PlainT P t) (hu:P.underlying t=some (.array k e)):PlainT P e∧P.cellsOf t=k * P.cellsOf e:=by
 obtain ⟨ht,n,hn⟩:=h
 obtain ⟨h1,h2⟩:=kid_array hl ht hu
 cases n with
 | zero=>cases hn
 | succ n =>
  simp only [plainTy,hu] at hn
  exact ⟨⟨h1,n,hn⟩,h2⟩
theorem PlainT.no {P:Program} {t:TypeId} (h:PlainT P t):(∀e,P.underlying t≠some (.pointer e))∧(∀k e,P.underlying t≠some (.map k e)):=by
 obtain ⟨_,n,hn⟩:=h
 cases n with
 | zero=>cases hn
 | succ n=>refine ⟨fun e he=>?_,fun k e he=>?_⟩ <;> simp [plainTy,he] at hn
theorem plain_kids {P:Program} (hl:laidOutB P=true):Kids P (PlainT P) :=
 ⟨fun h hu=>(h.no.1 _ hu).elim,fun h hu=>(h.slice hl hu).1,fun h hu=>h.array hl hu,fun h hu=>h.struct hl hu,fun h hu=>(h.no.2 _ _ hu).elim⟩
section
variable {H:Type} {enc:TypeId×Value→H} {P:Program} {w:World} {base:Nat} {held:Bool}
abbrev Old (w:World):Nat→Prop:=fun b=>b < w.heap.size
structure Good (P:Program) (w:World) (D:List AV→Prop) (cs:List Value) (xs:List AV):Prop where
 len:xs.length=cs.length
 dat:D xs
 rd:∀i,i < cs.length→RdI w (Old w) (xs.getD i .junk) (cs.getD i undef)∧(cs.getD i undef).oneCell'=true
theorem Good.one {D:List AV→Prop} {x:AV} {v:Value} (hd:D [x]) (hr:RdI w (Old w) x v) (h1:v.oneCell'=true):Good P w D [v] [x] :=
 ⟨rfl,hd,fun i hi=>by
  have:i=0:=by simpa using hi
  subst this; exact ⟨hr,h1⟩⟩
theorem Good.app {t:TypeId} {ts:List TypeId} {a b:List Value} {xs ys:List AV} (h:Good P w (Dat P t) a xs) (h':Good P w (DatF P ts) b ys):Good P w (DatF P (t::ts)) (a++b) (xs++ys):=by
 refine ⟨by simp [h.len,h'.len],.cons h.dat h'.dat,fun i hi=>?_⟩
 by_cases hlt:i < a.length
 ·have e1:(xs++ys).getD i .junk=xs.getD i .junk:=by simp [List.getD,List.getElem?_append,h.len,hlt]
  have e2:(a++b).getD i undef=a.getD i undef:=by simp [List.getD,List.getElem?_append,hlt]
  rw [e1,e2]; exact h.rd i hlt
 ·have e1:(xs++ys).getD i .junk=ys.getD (i - a.length) .junk:=by simp [List.getD,List.getElem?_append,h.len,hlt]
  have e2:(a++b).getD i undef=b.getD (i - a.length) undef:=by simp [List.getD,List.getElem?_append,hlt]
  rw [e1,e2]
  exact h'.rd _ (by rw [List.length_append] at hi; omega)
theorem good_fields {r:TypeId→List Value→Option (DataW H×List MemPlace)} (hr:∀t cs x,PlainT P t→r t cs=some x→∃xs,Good P w (Dat P t) cs xs) :
  ∀(fs:List Field) (o:Nat) (cs:List Value),(∀f,f∈fs→PlainT P f.type)→(∀(j:Nat) f,fs[j]?=some f→f.offset=o+((fs.take j).map fun f=>P.cellsOf f.type).sum)→cs.length=o+(fs.map fun f=>P.cellsOf f.type).sum →
   (∀f,f∈fs→∃x,r f.type ((cs.drop f.offset).take (P.cellsOf f.type))=some x)→∃xs,Good P w (DatF P (fs.map (·.type))) (cs.drop o) xs
 | [],o,cs,_,_,hl,_=>by
  have:cs.drop o=[]:=List.drop_eq_nil_of_le (by simp at hl; omega)
  rw [this]
  exact ⟨[],rfl,.nil,fun i hi=>by simp at hi⟩
 | f::fs,o,cs,hp,ho,hl,hx=>by
  have h0:f.offset=o:=by simpa using ho 0 f rfl
  obtain ⟨x,hx0⟩:=hx f (by simp)
  obtain ⟨xs,hg⟩:=hr _ _ _ (hp f (by simp)) hx0
  rw [h0] at hg
  obtain ⟨ys,hg'⟩:=good_fields hr fs (o+P.cellsOf f.type) cs (fun g hg=>hp g (by simp [hg])) (fun j g hg=>by
   have:=ho (j+1) g (by simpa using hg)
   rw [this]; simp; omega) (by simp at hl; omega) (fun g hg=>hx g (by simp [hg]))
  refine ⟨xs++ys,?_⟩
  have e:cs.drop o=(cs.drop o).take (P.cellsOf f.type)++cs.drop (o+P.cellsOf f.type):=by
   rw [←List.drop_drop,List.take_append_drop]
  rw [e]
  exact hg.app hg'
theorem mapM_some_of_mem {α β:Type} {f:α→Option β} {l:List α} {r:List β} (h:l.mapM f=some r) {x:α} (hx:x∈l):∃y,f x=some y:=by
 cases hf:f x with
 | none=>rw [mapM_none_of hx hf] at h; cases h
 | some y=>exact ⟨y,rfl⟩
theorem good_arr {r:TypeId→List Value→Option (DataW H×List MemPlace)} (hr:∀t cs x,PlainT P t→r t cs=some x→∃xs,Good P w (Dat P t) cs xs) {e:TypeId} (he:PlainT P e) :
  ∀(n o:Nat) (cs:List Value),cs.length=o+n * P.cellsOf e→(∀i,i < n→∃x,r e ((cs.drop (o+i * P.cellsOf e)).take (P.cellsOf e))=some x)→∃xs,Good P w (DatF P (List.replicate n e)) (cs.drop o) xs
 | 0,o,cs,hl,_=>by
  have:cs.drop o=[]:=List.drop_eq_nil_of_le (by simp at hl; omega)
  rw [this]
  exact ⟨[],rfl,.nil,fun i hi=>by simp at hi⟩
 | n+1,o,cs,hl,hx=>by
  obtain ⟨x,hx0⟩:=hx 0 (Nat.succ_pos n)
  obtain ⟨xs,hg⟩:=hr _ _ _ he hx0
  rw [Nat.zero_mul,Nat.add_zero] at hg
  obtain ⟨ys,hg'⟩:=good_arr hr he n (o+P.cellsOf e) cs (by rw [hl,Nat.add_mul]; omega) (fun i hi=>by
   have:=hx (i+1) (by omega)
   rwa [Nat.add_mul,Nat.one_mul,show o+(i * P.cellsOf e+P.cellsOf e)=o+P.cellsOf e+i * P.cellsOf e by omega] at this)
  refine ⟨xs++ys,?_⟩
  have e0:cs.drop o=(cs.drop o).take (P.cellsOf e)++cs.drop (o+P.cellsOf e):=by
   rw [←List.drop_drop,List.take_append_drop]
  rw [e0,List.replicate_succ]
  exact hg.app hg'
theorem good_slice {t e:TypeId} {a:Addr} {len cap:Nat} (hu:P.underlying t=some (.slice e)) (hk:0 < P.cellsOf e) (hlc:len≤cap) (hcm:cap≤maxLen)
  (h:∀i,i < cap→∃ci,w.cells? base (a.add (i * P.cellsOf e)) (P.cellsOf e)=some ci∧∃xs,Good P w (Dat P e) ci xs):∃xs,Good P w (Dat P t) [.slice (some a) len cap] xs:=by
 by_cases hc:cap=0
 ·obtain rfl:len=0:=by omega
  subst hc
  exact ⟨_,Good.one (.slice (rows:=[]) hu (Nat.zero_le _) (fun _ h=>by cases h) (fun _ h=>by cases h)) .s0 rfl⟩
 ·obtain ⟨f,hf⟩:=Classical.axiomOfChoice (r:=fun i (p:List Value×List AV)=>i < cap→w.cells? base (a.add (i * P.cellsOf e)) (P.cellsOf e)=some p.1∧Good P w (Dat P e) p.1 p.2) (fun i=>by
   by_cases hi:i < cap
   ·obtain ⟨ci,h1,xs,h2⟩:=h i hi
    exact ⟨(ci,xs),fun _=>⟨h1,h2⟩⟩
   ·exact ⟨([],[]),fun h=>(hi h).elim⟩)
  obtain ⟨b,off,sp⟩:=a
  have c0:∃v,w.cell? ⟨b,off,sp⟩=some v:=by
   obtain ⟨_,hlen,hc⟩:=World.cells?_some (hf 0 (by omega)).1
   have:=hc 0 hk
   rw [List.getElem?_eq_getElem (by omega)] at this
   refine ⟨_,Eq.trans ?_ this⟩
   simp [Addr.add]
  obtain ⟨v0,c0⟩:=c0
  obtain rfl:sp=none:=World.cell?_spot c0
  have cell:∀i j,i < cap→j < P.cellsOf e→w.cell? ⟨b,off+(i * P.cellsOf e+j),none⟩=some ((f i).1.getD j undef):=fun i j hi hj=>by
   obtain ⟨_,hlen,hc⟩:=World.cells?_some (hf i hi).1
   have:=hc j hj
   rw [List.getElem?_eq_getElem (by omega)] at this
   simp only [List.getD,List.getElem?_eq_getElem (show j < (f i).1.length by omega),Option.getD_some]
   rw [←this]
   congr 1
   unfold Addr.add
   by_cases h1:i * P.cellsOf e=0 <;> by_cases h2:j=0 <;> simp [h1,h2,Nat.add_assoc]
  have hb:b < w.heap.size:=by
   unfold World.cell? at c0
   split at c0
   ·rename_i he; exact blk_lt_of_heap he
   ·cases c0
  have hlenf:∀i,i < cap→(f i).2.length=P.cellsOf e∧(f i).1.length=P.cellsOf e:=fun i hi=>by
   obtain ⟨_,hlen,_⟩:=World.cells?_some (hf i hi).1
   exact ⟨(hf i hi).2.len.trans hlen,hlen⟩
  have hlen:((List.range len).map fun i=>(f i).2).length=len:=by simp
  have get:∀i,i < len→((List.range len).map fun i=>(f i).2).getD i []=(f i).2:=fun i hi=>by simp [List.getD,hi]
  have mem:∀r,r∈((List.range len).map fun i=>(f i).2)→∃i,i < len∧r=(f i).2:=fun r hr=>by
   obtain ⟨i,hi,rfl⟩:=List.mem_map.1 hr
   exact ⟨i,List.mem_range.1 hi,rfl⟩
  refine ⟨[.s ((List.range len).map fun i=>(f i).2)],Good.one (.slice hu (by rw [hlen]; omega) (fun r hr=>?_) (fun r hr=>?_)) ?_ rfl⟩
  ·obtain ⟨i,hi,rfl⟩:=mem r hr
   exact (hlenf i (by omega)).1
  ·obtain ⟨i,hi,rfl⟩:=mem r hr
   exact (hf i (by omega)).2.dat
  ·have:=RdI.s (w:=w) (F:=Old w) (rows:=(List.range len).map fun i=>(f i).2) (b:=b) (off:=off) (c:=cap) (k:=P.cellsOf e) (u:=fun i j=>(f i).1.getD j undef) hb (by rw [hlen]; exact hlc) hcm
    (fun i hi=>by rw [hlen] at hi; rw [get i hi]; exact (hlenf i (by omega)).1)
    (fun i j hi hj=>cell i j (by rw [hlen] at hi; omega) hj)
    (fun i j hi hj=>by rw [hlen] at hi; exact ((hf i (by omega)).2.rd j (by rw [(hlenf i (by omega)).2]; exact hj)).2)
    (fun i j hi hj=>by rw [hlen] at hi; rw [get i hi]; exact ((hf i (by omega)).2.rd j (by rw [(hlenf i (by omega)).2]; exact hj)).1)
   rwa [hlen] at this
theorem good_trod (hl:laidOutB P=true):∀(n:Nat) (t:TypeId) (cs:List Value) (x:DataW H×List MemPlace),PlainT P t →
  DataW.trod enc P w base (fun _=>true) held n t cs=some x→∃xs,Good P w (Dat P t) cs xs:=by
 intro n
 induction n with
 | zero=>intro t cs x _ h; simp [DataW.trod] at h
 | succ n ih =>
  intro t cs x hp h
  have hp':=hp
  obtain ⟨ht,m,hm⟩:=hp'
  cases m with
  | zero=>cases hm
  | succ m =>
   cases hu:P.underlying t with
   | none=>simp [plainTy,hu] at hm
   | some d =>
    cases d with
    | bool =>
     simp only [DataW.trod,hu] at h
     split at h <;> simp_all
     exact ⟨_,Good.one (.bool hu) (.v (.inl rfl)) rfl⟩
    | int k =>
     simp only [DataW.trod,hu] at h
     split at h <;> simp_all
     obtain ⟨⟨rfl,hw⟩,_⟩:=h
     exact ⟨_,Good.one (.int hu hw) (.v (.inl rfl)) rfl⟩
    | string =>
     simp only [DataW.trod,hu] at h
     split at h <;> simp_all
     exact ⟨_,Good.one (.str hu h.1) (.v (.inl rfl)) rfl⟩
    | slice e =>
     obtain ⟨he,hk⟩:=hp.slice hl hu
     rw [DataW.trod_step] at h
     unfold DataW.trodStep at h
     rw [hu] at h
     split at h
     case h_7=>exact ⟨_,Good.one (.slice (rows:=[]) hu (Nat.zero_le _) (fun _ h=>by cases h) (fun _ h=>by cases h)) .s0 rfl⟩
     case h_8 e' a len cap e1 =>
      cases e1
      simp only at h
      split at h
      case isFalse=>cases h
      case isTrue hb =>
      obtain ⟨_,hlc,hcm⟩:=hb
      cases hel:List.mapM (fun i=>(w.cells? base (a.add (i * P.cellsOf e)) (P.cellsOf e)).bind (DataW.trod enc P w base (fun x=>true) held n e)) (List.range len) with
      | none=>rw [hel] at h; cases h
      | some elems =>
      rw [hel] at h
      simp only [Option.bind_some,if_true,Option.map_eq_some_iff] at h
      obtain ⟨rest,hrest,_⟩:=h
      exact good_slice hu hk hlc hcm fun i hi=>by
       by_cases hil:i < len
       ·obtain ⟨y,hy⟩:=mapM_some_of_mem hel (List.mem_range.2 hil)
        obtain ⟨ci,hc,hy⟩:=Option.bind_eq_some_iff.1 hy
        exact ⟨ci,hc,ih _ _ _ he hy⟩
       ·obtain ⟨y,hy⟩:=mapM_some_of_mem hrest (List.mem_range.2 (show i - len < cap - len by omega))
        rw [show len+(i - len)=i by omega] at hy
        obtain ⟨ci,hc,hy⟩:=Option.bind_eq_some_iff.1 hy
        exact ⟨ci,hc,ih _ _ _ he hy⟩
     all_goals first | (rename_i e1; cases e1; done) | (rename_i e1 _; cases e1; done) | cases h
    | struct fs =>
     obtain ⟨h1,h2,h3⟩:=hp.struct hl hu
     rw [DataW.trod_step] at h
     unfold DataW.trodStep at h
     rw [hu] at h
     simp only at h
     split at h
     case isFalse=>cases h
     case isTrue hcs =>
     obtain ⟨l,hml,_⟩:=Option.map_eq_some_iff.1 h
     obtain ⟨xs,hg⟩:=good_fields (fun t cs x=>ih t cs x) fs.toList 0 cs h1 (fun j f hf=>by rw [Nat.zero_add]; exact h3 j f hf) (by rw [Nat.zero_add,←h2]; exact hcs)
      fun f hf=>mapM_some_of_mem hml hf
     exact ⟨xs,hg.len,.struct hu hg.dat,hg.rd⟩
    | array k e =>
     obtain ⟨he,hc⟩:=hp.array hl hu
     rw [DataW.trod_step] at h
     unfold DataW.trodStep at h
     rw [hu] at h
     simp only at h
     split at h
     case isFalse=>cases h
     case isTrue hcs =>
     obtain ⟨l,hml,_⟩:=Option.map_eq_some_iff.1 h
     obtain ⟨xs,hg⟩:=good_arr (fun t cs x=>ih t cs x) he k 0 cs (by rw [Nat.zero_add,←hc]; exact hcs)
      fun i hi=>by rw [Nat.zero_add]; exact mapM_some_of_mem hml (List.mem_range.2 hi)
     exact ⟨xs,hg.len,.arr hu hg.dat,hg.rd⟩
    | _=>simp [plainTy,hu] at hm
theorem datV_of (hl:laidOutB P=true) {t:TypeId} {v:Value} {d:DataW H} {p:List MemPlace} {b0:Nat} (hp:PlainT P t) (hok:Value.okWide P w .any b0 t v) (h:DataW.Trod enc P w base (fun _=>true) held t v d p) :
  ∃x,DatV P t x∧RdI w (Old w) x v:=by
 obtain ⟨n,hn⟩:=h
 obtain ⟨xs,hg⟩:=good_trod hl n t _ _ hp hn
 by_cases hs:(∃fs,P.underlying t=some (.struct fs))∨∃n e,P.underlying t=some (.array n e)
 ·have hcs:∃cs,v=.agg cs:=by
   rcases hs with ⟨fs,hu⟩ | ⟨k,e,hu⟩
   ·simp only [Value.okWide,hu] at hok
    obtain ⟨cs,rfl,_,_⟩:=hok
    exact ⟨cs,rfl⟩
   ·simp only [Value.okWide,hu] at hok
    obtain ⟨cs,rfl,_,_⟩:=hok
    exact ⟨cs,rfl⟩
  obtain ⟨cs,rfl⟩:=hcs
  have hcl:cs.toList.length=cs.size:=by simp
  have get:∀i,cs.getD i undef=cs.toList.getD i undef:=fun i=>by simp [Array.getD_eq_getD_getElem?,List.getD]
  refine ⟨.a xs,?_,.a (by rw [hg.len]; simp [Value.cells]) (fun i hi=>?_) fun i hi=>?_⟩
  ·rcases hs with ⟨fs,hu⟩ | ⟨k,e,hu⟩
   ·simp only [DatV,hu]; exact ⟨xs,rfl,hg.dat⟩
   ·simp only [DatV,hu]; exact ⟨xs,rfl,hg.dat⟩
  ·rw [get]; exact (hg.rd i (by rw [←hg.len]; exact hi)).2
  ·rw [get]; exact (hg.rd i (by rw [←hg.len]; exact hi)).1
 ·have hcell:v.cells.toList=[v]:=by
   cases v with
   | agg cs =>
    have ha:∀fs,P.underlying t≠some (.struct fs):=fun fs he=>hs (.inl ⟨fs,he⟩)
    have hb:∀n e,P.underlying t≠some (.array n e):=fun n e he=>hs (.inr ⟨n,e,he⟩)
    unfold Value.okWide at hok
    split at hok
    ·rename_i he; exact (ha _ he).elim
    ·rename_i he; exact (hb _ _ he).elim
    ·unfold Cell.okWide at hok
     split at hok <;> first | contradiction | (unfold Cell.ok at hok; split at hok <;> first | contradiction | cases hok)
   | _=>rfl
  rw [hcell] at hg
  obtain ⟨x,rfl⟩:∃x,xs=[x]:=by
   have:=hg.len
   match xs,this with
   | [x],_=>exact ⟨x,rfl⟩
  refine ⟨x,?_,(hg.rd 0 (by simp)).1⟩
  unfold DatV
  split
  ·rename_i he; exact (hs (.inl ⟨_,he⟩)).elim
  ·rename_i he; exact (hs (.inr ⟨_,_,he⟩)).elim
  ·exact hg.dat
theorem datL_of (hl:laidOutB P=true):∀{ts:List TypeId} {vs:List Value} {ds:List (DataW H)} {ps:List MemPlace},DataW.TrodAll enc P w base (fun _=>true) held ts vs ds ps→(∀t,t∈ts→PlainT P t) →
  (∀(j:Nat) t v,ts[j]?=some t→vs[j]?=some v→Value.okWide P w .any base t v) →
  ∃xs,DatL P ts xs∧xs.length=vs.length∧∀i,i < xs.length→RdI w (Old w) (xs.getD i .junk) (vs.getD i undef)
 | [],vs,ds,ps,h,_,_=>by
  obtain ⟨rfl,rfl,rfl⟩:=trodAll_nil h
  exact ⟨[],.nil,rfl,fun i hi=>by simp at hi⟩
 | t::ts,vs,ds,ps,h,hp,hok=>by
  obtain ⟨v,vs',d,ds',p,q,rfl,rfl,rfl,h1,h2⟩:=trodAll_cons h
  obtain ⟨x,hx,hr⟩:=datV_of hl (hp t (by simp)) (hok 0 t v rfl rfl) h1
  obtain ⟨xs,hxs,hlen,hrs⟩:=datL_of hl h2 (fun t ht=>hp t (by simp [ht])) fun j t v ht hv=>hok (j+1) t v (by simpa using ht) (by simpa using hv)
  refine ⟨x::xs,.cons hx hxs,by simp [hlen],fun i hi=>?_⟩
  cases i with
  | zero=>simpa using hr
  | succ i=>simpa using hrs i (by simpa using hi)
theorem trodAll_stays {w':World} (hl:laidOutB P=true) (hb:Below w.heap.size w w') {sp:Nat→Bool}:∀{ts:List TypeId} {vs:List Value} {ds:List (DataW H)} {ps:List MemPlace},
  DataW.TrodAll enc P w 0 (fun _=>true) true ts vs ds ps→(∀t,t∈ts→PlainT P t)→(∀p,p∈ps→sp p.block=true)→DataW.TrodAll enc P w' 0 sp true ts vs ds ps
 | [],vs,ds,ps,h,_,_=>by
  obtain ⟨rfl,rfl,rfl⟩:=trodAll_nil h
  exact rfl
 | t::ts,vs,ds,ps,h,hp,hs=>by
  have hlt:=h.lt
  obtain ⟨v,vs',d,ds',p,q,rfl,rfl,rfl,⟨n,h1⟩,h2⟩:=trodAll_cons h
  refine ⟨p,q,⟨n,?_⟩,trodAll_stays hl hb h2 (fun t ht=>hp t (by simp [ht])) fun p hp'=>hs p (by simp [hp']),rfl⟩
  refine DataW.trod_stays (plain_kids hl) (fun hT hu=>(hT.slice hl hu).2) (fun hf=>by cases hf) (hp t (by simp)) h1 (fun p' hp'=>?_) fun p' hp'=>hs p' (by simp [hp'])
  have hb':=hb.block p'.block (hlt p' (by simp [hp']))
  cases p' with
  | cell b off=>exact World.cell?_of_block (w:=w) hb'
  | map b=>exact hb'
theorem keptBut_below {w':World} (hb:Below w.heap.size w w') (may:MemPlace→Prop):w.keptBut w' may:=by
 refine ⟨hb.os,hb.output,fun i hi=>?_⟩
 rw [hb.block i hi]
 cases w.heap[i]? with
 | none=>rfl
 | some o=>cases o <;> simp
theorem law_handed {C:Checked} {os:Os} {f:FuncId} {fn:Func} {s:ChangeSpec} {tb:TypeId} (hl:laidOutB C.prog=true) (own:ownKnob C.prog.godebug=none) (started:os.Started) (noInit:C.prog.inits.idxOf? f=none) (hfn:C.prog.funcs[f]?=some fn)
  (witness:∃(w:World) (tape:Tape) (i:Input),w.os=os∧(w.forCall tape i).Shaped C.prog∧i.vars=[]∧Input.okWide C.prog (w.forCall tape i) .any w.heap.size f i ∧
   s.pre6 enc C.prog fn [] false (w.forCall tape i).memory i.args∧({}:Assume).holds C.prog (lone (Frame.enter C.prog f i.args .normal) [] (w.forCall tape i)))
  (hv:s.vars=[]) (hs:∀ds:List (DataW H),ds.length=fn.params.toList.length→s.fn H ds={ results:=[.lit (.bool true)],args:=ds })
  (hr:fn.resultTypes=#[tb]) (htb:C.prog.underlying tb=some .bool) (hpl:fn.params.toList.all (fun t=>Nat.blt t C.prog.types.size&&plainTy C.prog 12 t)=true)
  (h:∀xs,DatL C.prog fn.params.toList xs→Pure C.prog f xs (.v (.bool true))) :
  ReturnsInHanded {} C os f .any (s.pre6 enc C.prog fn [] false) (s.post enc C.prog fn false true false false):=by
 refine returnsInHanded_of_change (C:=C) own started noInit hfn witness ?_
 intro W base args ds gs before hval hW _ _
 have hW':=hW
 obtain ⟨p,q,hA,hV,rfl,hfz,hnd⟩:=hW
 have hpt:∀t,t∈fn.params.toList→PlainT C.prog t:=fun t ht=>by
  have:=List.all_eq_true.1 hpl t ht
  simp only [Bool.and_eq_true,Nat.blt_eq] at this
  exact ⟨this.1,_,this.2⟩
 rw [hv] at hV
 obtain ⟨rfl,rfl⟩:=trodVars_none hV
 obtain ⟨xs,hxs,hlen,hrd⟩:=datL_of hl hA hpt fun j t v ht hv=>Value.okWide_any_base (hval j t v (by simpa using ht) (by simpa using hv))
 have hI:Inv W (Old W) (fun _=>undef) [] :=
  ⟨fun _ h=>h,fun _ _ hm=>(List.not_mem_nil hm).elim,List.nodup_nil,fun _ ⟨_,_,hm,_⟩=>(List.not_mem_nil hm).elim,fun _ _ _ _ _ hm=>(List.not_mem_nil hm).elim⟩
 refine ((h xs hxs).2 W (Old W) (fun _=>undef) args hI (by rw [hlen]; simp) fun i hi=>.i ?_).mono ?_
 ·have:=hrd i hi
  have e:args.getD i undef=args.toList.getD i undef:=by simp [Array.getD_eq_getD_getElem?,List.getD]
  rw [e]; exact this
 rintro e W' ⟨v,rfl,hb,hx⟩
 cases hx
 have hds:ds.length=fn.params.toList.length:=by
  have:∀{ts:List TypeId} {vs:List Value} {ds:List (DataW H)} {ps:List MemPlace},DataW.TrodAll enc C.prog W 0 (fun _=>true) true ts vs ds ps→ds.length=ts.length:=by
   intro ts
   induction ts with
   | nil=>intro vs ds ps h; obtain ⟨rfl,rfl,rfl⟩:=trodAll_nil h; rfl
   | cons t ts ih=>intro vs ds ps h; obtain ⟨v,vs',d,ds',p,q,rfl,rfl,rfl,h1,h2⟩:=trodAll_cons h; simp [ih h2]
  exact this hA
 have hold:∀q,q∈p→(fun b=>decide (b < W.heap.size)) q.block=true:=fun q hq=>by simpa using hW'.lt q (by simp [hq])
 refine ⟨_,rfl,ds,[],p++[],[],p,[],hW',?_,?_,?_,keptBut_below hb _,fun h=>by cases h⟩
 ·rw [List.append_nil,hs ds hds,hr]
  exact trodAll_mk1 (shut_bool htb true)
 ·rw [List.append_nil,hs ds hds]
  exact trodAll_stays hl hb hA hpt hold
 ·rw [List.append_nil,hs ds hds,hv]
  exact rfl
end
end Go.Cat
set_option linter.all false
namespace Go.Cat
open Go.RowKit
variable [M:Mono]
section
variable {P:Program} {T:TT} {w:World} {F:Nat→Prop} {β:Nat→Value}
def PChg (P:Program) (g:FuncId) (args:List AV) (c:Chunk) (R:AV→Chunk→Prop):Prop :=
 Entered P g∧∀(w:World) (F:Nat→Prop) (β:Nat→Value) (vs:Array Value),Inv w F β [(1000,c)]→vs.size=args.length →
  (∀i,i < args.length→Rd w F β (args.getD i .junk) (vs.getD i undef)) →
  Calls P g vs w fun e w'=>∃v,e=.returned v∧∃r c' F',R r c'∧RdI w' F' r v∧w'.os=w.os∧SameT w w'∧w'.output=w.output∧w.heap.size≤w'.heap.size ∧
   (∀b,b < w.heap.size→blkOf (β 1000)≠some b→w'.heap[b]?=w.heap[b]?)∧(∀b,F b→F' b)∧(∀b,F' b→FNew F w w' b)∧chunkImm c'=true∧c'.holds w' F' β 1000
def EndChg (R:AV→Chunk→Prop) (x:AV) (st:ASt):Prop:=∃r c',R r c'∧findC 1000 st.H=some c'∧chunkImm c'=true∧Fz (dropC 1000 st.H) x r
def Lr (id:Nat) (x y:AV):Prop:=∀(w:World) (F:Nat→Prop) (β β':Nat→Value) (u:Value),β' 1000=β id→Rd w F β x u→Rd w F β' y u
inductive LrL (id:Nat):List AV→List AV→Prop where
 | nil:LrL id [] []
 | cons {x y:AV} {xs ys:List AV} (h:Lr id x y) (t:LrL id xs ys):LrL id (x::xs) (y::ys)
theorem LrL.spec {id:Nat} {xs ys:List AV} (h:LrL id xs ys):xs.length=ys.length∧∀i,i < xs.length→Lr id (xs.getD i .junk) (ys.getD i .junk):=by
 induction h with
 | nil=>exact ⟨rfl,fun i hi=>by simp at hi⟩
 | cons h t ih =>
  refine ⟨by simp [ih.1],fun i hi=>?_⟩
  cases i with
  | zero=>simpa using h
  | succ i=>simpa using ih.2 i (by simpa using hi)
theorem Lr.imm {id:Nat} {x:AV} (h:imm1 x=true):Lr id x x:=fun _ _ _ _ _ _ hr=>.i (imm1_rd h hr)
theorem Lr.nil {id:Nat}:Lr id (.v (.slice none 0 0)) (.s []):=fun _ _ _ _ _ _ hr=>by rw [hr.v_inv]; exact .i .s0
theorem Lr.b {id off:Nat}:Lr id (.b id off) (.b 1000 off):=fun _ _ _ _ _ hβ hr=>by
 obtain ⟨blk,h1,rfl⟩:=hr.b_inv; exact .b (hβ.trans h1)
theorem Lr.o {id:Nat}:Lr id (.o id) (.o 1000):=fun _ _ _ _ _ hβ hr=>by
 obtain ⟨a,n,c,h1,rfl⟩:=hr.o_inv; exact .o (hβ.trans h1)
theorem CallOk.chg {g:FuncId} {id:Nat} {xs ys:List AV} {st:ASt} {c:Chunk} {R:AV→Chunk→Prop} {k:AV→ASt→Prop} (h:PChg P g ys c R) (hc:findC id st.H=some c) (himm:chunkImm c=true) (hle:LrL id xs ys)
  (hk:∀r c',R r c'→k r ⟨st.f,setC id c' st.H⟩):CallOk P g xs st k:=by
 obtain ⟨hl,hz⟩:=hle.spec
 have hm:=findC_mem hc
 refine ⟨h.1,fun w F β vs hI hs hv=>?_⟩
 let β1:Nat→Value:=fun i=>if i=1000 then β id else undef
 have hb1:β1 1000=β id:=if_pos rfl
 have hI1:Inv w F β1 [(1000,c)]:=by
  refine ⟨hI.fsize,fun i c' hm'=>?_,by simp,fun b ⟨i,c',hm',hb⟩=>?_,fun i c1 i' c1' b h1 h2 _ _=>?_⟩
  ·simp only [List.mem_singleton,Prod.mk.injEq] at hm'
   obtain ⟨rfl,rfl⟩:=hm'
   exact holds_imm himm (fun _ h=>h) hb1 (hI.holds _ _ hm)
  ·simp only [List.mem_singleton,Prod.mk.injEq] at hm'
   obtain ⟨rfl,rfl⟩:=hm'
   rw [hb1] at hb
   exact hI.apart b ⟨id,c',hm,hb⟩
  ·simp only [List.mem_singleton,Prod.mk.injEq] at h1 h2
   rw [h1.1,h2.1]
 refine (h.2 w F β1 vs hI1 (by omega) fun i hi=>hz i (by omega) w F β β1 _ hb1 (hv i (by omega))).mono ?_
 rintro e w' ⟨v,rfl,r,c',F',hR,hr,hos,htp,hout,hsz,hblk,hmono,hnew,himm',hc'⟩
 rw [hb1] at hblk
 have hown:∀b,Owned β (setC id c' st.H) b→Owned β st.H b:=by
  rintro b ⟨i,c2,h,hb⟩
  rcases setC_mem h with ⟨rfl,_,c3,h3⟩ | ⟨_,h3⟩
  ·exact ⟨i,c3,h3,hb⟩
  ·exact ⟨i,c2,h3,hb⟩
 have hbF:∀b,F b→w'.heap[b]?=w.heap[b]?:=fun b hb=>hblk b (hI.fsize b hb) fun he=>hI.apart b ⟨id,c,hm,he⟩ hb
 refine ⟨v,rfl,r,_,F',β,hk r c' hR,.i hr,⟨hos,htp,hout,hsz,fun b hb hno=>hblk b hb fun he=>hno ⟨id,c,hm,he⟩,hmono,fun b hb=>(hnew b hb).elim .inl fun h=>.inr (.inl h.1),fun b hb=>.inr (hown b hb),fun t u hu=>hu.frame hbF hmono,?_,fun _ _=>rfl⟩⟩
 refine ⟨fun b hb=>(hnew b hb).elim (fun h=>Nat.lt_of_lt_of_le (hI.fsize b h) hsz) fun h=>h.2,fun i c2 h=>?_,by rw [setC_keys]; exact hI.keys,fun b ho hF=>?_,fun i c1 i' c1' b h h' hb hb'=>?_⟩
 ·rcases setC_mem h with ⟨rfl,rfl,_⟩ | ⟨hi,h2⟩
  ·exact holds_imm himm' (fun _ h=>h) hb1.symm hc'
  ·exact holds_frame hbF hmono (fun b hb=>hblk b (hI.owned_lt ⟨i,c2,h2,hb⟩) fun he=>hi (hI.disj i c2 id c b h2 hm hb he)) (hI.holds i c2 h2)
 ·rcases hnew b hF with h1 | h1
  ·exact hI.apart b (hown b ho) h1
  ·exact absurd (hI.owned_lt (hown b ho)) (Nat.not_lt.2 h1.1)
 ·have hx:∃c,(i,c)∈st.H:=by rcases setC_mem h with ⟨_,_,c2,h2⟩ | ⟨_,h2⟩ <;> exact ⟨_,h2⟩
  have hy:∃c,(i',c)∈st.H:=by rcases setC_mem h' with ⟨_,_,c2,h2⟩ | ⟨_,h2⟩ <;> exact ⟨_,h2⟩
  obtain ⟨c2,h2⟩:=hx
  obtain ⟨c3,h3⟩:=hy
  exact hI.disj i c2 i' c3 b h2 h3 hb hb'
theorem CallOk.freeze {g:Tg} {id E K:Nat} {rows:List (List AV)} {xs:List AV} {st:ASt} {k:AV→ASt→Prop} (hc:findC id st.H=some (.own E K rows)) (h:CallOk P g (xs.map (sb (.s rows) 2 id)) (frSt id rows st) k):CallOk P g xs st k:=by
 have hm:=findC_mem hc
 refine ⟨h.1,fun w F β vs hI hs hv=>?_⟩
 have hz:∀u,Rd w (fun b=>F b∨blkOf (β id)=some b) β (.o id) u→Rd w (fun b=>F b∨blkOf (β id)=some b) β (.s rows) u:=fun u hu=>by
  refine .i (freeze_rd hI hm ?_)
  obtain ⟨a,n,c,h1,rfl⟩:=hu.o_inv
  exact .o h1
 have up:∀{x u},Rd w F β x u→Rd w (fun b=>F b∨blkOf (β id)=some b) β x u:=fun h=>h.frame (fun _ _=>rfl) fun _ h=>.inl h
 have hI':Inv w (fun b=>F b∨blkOf (β id)=some b) β (frH id rows st.H):=by
  refine ⟨fun b hb=>hb.elim (hI.fsize b) fun hb=>hI.owned_lt ⟨id,_,hm,hb⟩,fun i c h=>?_,frH_keys hI.keys,fun b ⟨i,c,h,hb⟩ hF=>?_,fun i c i' c' b h h' hb hb'=>?_⟩
  ·obtain ⟨hi,c',h',rfl⟩:=frH_mem h
   have hh:=hI.holds i c' h'
   cases c' with
   | own E' K' r=>exact holds_imm (c:=.own E' K' r) rfl (fun _ h=>.inl h) rfl hh
   | mp ag r=>exact holds_imm (c:=.mp ag r) rfl (fun _ h=>.inl h) rfl hh
   | si s pos=>exact holds_imm (c:=.si s pos) rfl (fun _ h=>.inl h) rfl hh
   | lp l e R L =>
    obtain ⟨fn,tmps,D,hb,hhb,hnb,hrb⟩:=hh
    refine ⟨fn,tmps,D,hb,hhb,hnb,fun p hp=>?_⟩
    obtain ⟨q,hq,rfl⟩:=List.mem_map.1 hp
    exact sb_rd hz (fun _ _=>rfl) 2 (up (hrb q hq))
   | box cells =>
    obtain ⟨b,cs,e,hb,hh,hs,h1,hr⟩:=hh
    refine ⟨b,cs,e,hb,hh,by simpa using hs,fun j hj=>h1 j (by simpa using hj),fun j hj=>?_⟩
    have hj:j < cells.length:=by simpa using hj
    have:(cells.map (sb (.s rows) 1 id)).getD j .junk=sb (.s rows) 1 id (cells.getD j .junk):=by simp [List.getD,hj]
    rw [this]
    exact sb_rd hz (fun _ _=>rfl) 1 (up (hr j hj))
  ·obtain ⟨hi,c',h',_⟩:=frH_mem h
   rcases hF with hF | hF
   ·exact hI.apart b ⟨i,c',h',hb⟩ hF
   ·exact hi (hI.disj i c' id _ b h' hm hb hF)
  ·obtain ⟨_,c2,h2,_⟩:=frH_mem h
   obtain ⟨_,c3,h3,_⟩:=frH_mem h'
   exact hI.disj i c2 i' c3 b h2 h3 hb hb'
 have hownF:∀b,Owned β (frH id rows st.H) b→Owned β st.H b:=fun b ⟨i,c,h,hb⟩=>by
  obtain ⟨_,c2,h2,_⟩:=frH_mem h
  exact ⟨i,c2,h2,hb⟩
 refine (h.2 w _ β vs hI' (by simpa using hs) fun i hi=>?_).mono ?_
 ·have hi:i < xs.length:=by simpa using hi
  have:(xs.map (sb (.s rows) 2 id)).getD i .junk=sb (.s rows) 2 id (xs.getD i .junk):=by simp [List.getD,hi]
  rw [this]
  exact sb_rd hz (fun _ _=>rfl) 2 (up (hv i hi))
 ·rintro e w' ⟨v,rfl,r,st',F',β',hk,hr,hx⟩
  refine ⟨v,rfl,r,st',F',β',hk,hr,hx.os,hx.tape,hx.output,hx.size,fun b hb hno=>hx.block b hb fun ho=>hno (hownF b ho),fun b hb=>hx.mono b (.inl hb),fun b hb=>?_,fun b hb=>(hx.owned b hb).elim .inl fun h=>.inr (hownF b h),
   fun t u hu=>hx.keep t u (sb_rd hz (fun _ _=>rfl) 2 (up hu)),hx.inv,hx.lab⟩
  rcases hx.new b hb with h1 | h1 | h1
  ·rcases h1 with h1 | h1
   ·exact .inl h1
   ·exact .inr (.inr ⟨id,_,hm,h1⟩)
  ·exact .inr (.inl h1)
  ·exact .inr (.inr (hownF b h1))
theorem Fz.c {H:Hp} {fn:Fn} {fs fs' cs cs':List AV} (h:FzL H fs fs') (h':FzL H cs cs'):Fz H (.c fn fs cs) (.c fn fs' cs'):=fun _ _ _ _ hI hr=>by
 obtain ⟨us,vs,rfl,hs,hs',hu,hv⟩:=hr.c_inv
 obtain ⟨hl,hz⟩:=h.spec
 obtain ⟨hl',hz'⟩:=h'.spec
 exact .c (by omega) (by omega) (fun i hi=>hz i (by omega) _ _ _ _ hI (hu i (by omega))) fun i hi=>hz' i (by omega) _ _ _ _ hI (hv i (by omega))
theorem Fz.b {H:Hp} {id:Nat} {cells:List AV} (h:findC id H=some (.box cells)) (himm:cells.all imm0=true):Fz H (.b id 0) (.p cells):=fun w F β u hI hr=>by
 have hm:=findC_mem h
 obtain ⟨blk,hb,rfl⟩:=hr.b_inv
 obtain ⟨b,cs,e,hβ,hh,hs,h1,hrd⟩:=hI.holds _ _ hm
 rw [hb] at hβ
 cases hβ
 refine .p (b:=blk) (off:=0) (u:=fun j=>cs.getD j undef) (.inr ⟨id,_,hm,by rw [hb]; rfl⟩) (fun j hj=>?_) h1 fun j hj=>?_
 ·rw [Nat.zero_add,cell_of_row w blk _ cs e (0,0) hh]
  simp [hs,hj]
 ·have:imm0 (cells.getD j .junk)=true:=List.all_eq_true.1 himm _ (by rw [List.getD_eq_getElem?_getD,List.getElem?_eq_getElem hj]; exact List.getElem_mem _)
  exact (imm0_rd this (hrd j hj)).frame (fun _ _=>rfl) fun _ h=>.inl h
end
end Go.Cat
set_option linter.all false
namespace Go.Cat
open Go.RowKit
variable [M:Mono] [R:Rnds]
structure Ok (P:Program) (n:Nat) (c:Code) (st:ASt) (Q:Exit→ASt→Prop):Prop where
 h:∀C:Ctx,C.n=n→AWp P C c st Q
def Wk (s s':ASt):Prop:=∀(C:Ctx) (a:Act) (w:World),Rel C s a w→Rel C s' a w
def nx (P:Program) (n:Nat) (y:Code) (Q:Exit→ASt→Prop):Exit→ASt→Prop:=fun e s=>match e with
 | .normal=>Ok P n y s Q
 | e=>Q e s
def bk (id:Nat) (Q:Exit→ASt→Prop):Exit→ASt→Prop:=fun e s=>match e with
 | .exit i=>bif Nat.beq i id then Q .normal s else Q (.exit i) s
 | e=>Q e s
def jn (s1:ASt) (Q:Exit→ASt→Prop):Exit→ASt→Prop:=fun e s=>match e with
 | .normal=>Wk s s1
 | e=>Q e s
def jnE {σ:Type} (J:σ→ASt) (S:σ→Prop) (Q:Exit→ASt→Prop):Exit→ASt→Prop:=fun e s=>match e with
 | .normal=>∃v,S v∧Wk s (J v)
 | e=>Q e s
section
variable {P:Program} {T:TT} {n:Nat} {st:ASt} {Q:Exit→ASt→Prop}
theorem Wk.refl (s:ASt):Wk s s:=fun _ _ _ h=>h
theorem Wk.trans {a b c:ASt} (h:Wk a b) (h':Wk b c):Wk a c:=fun C x w hr=>h' C x w (h C x w hr)
theorem Ok.wk {c:Code} {s':ASt} (h:Wk st s') (hc:Ok P n c s' Q):Ok P n c st Q:=⟨fun C hn a w hr=>hc.h C hn a w (h C a w hr)⟩
theorem Ok.skip (h:Q .normal st):Ok P n .skip st Q:=⟨fun _ _ _ _ hr=>wpIn_skip ⟨st,hr,h⟩⟩
theorem Ok.label {l:Nat} (h:Q .normal st):Ok P n (.label l) st Q:=⟨fun _ _ _ _ hr=>wpIn_label ⟨st,hr,h⟩⟩
theorem Ok.exit {id:Nat} (h:Q (.exit id) st):Ok P n (.exit id) st Q:=⟨fun _ _ _ _ hr=>wpIn_exit ⟨st,hr,h⟩⟩
theorem Ok.ret (h:Q .ret st):Ok P n .ret st Q:=⟨fun _ _ _ _ hr=>wpIn_ret ⟨st,hr,h⟩⟩
theorem Ok.seq {x y:Code} (h:Ok P n x st (nx P n y Q)):Ok P n (.seq x y) st Q:=⟨fun C hn a w hr=>by
 refine wpIn_seq (wpIn_mono (h.h C hn a w hr) ?_)
 rintro e a' w' ⟨st',hr',hq⟩
 cases e <;> first | exact (show Ok P n y st' Q from hq).h C hn a' w' hr' | exact ⟨st',hr',hq⟩⟩
theorem Ok.seqw {x y:Code} (s1:ASt) (hx:Ok P n x st (jn s1 Q)) (hy:Ok P n y s1 Q):Ok P n (.seq x y) st Q:=⟨fun C hn a w hr=>by
 refine wpIn_seq (wpIn_mono (hx.h C hn a w hr) ?_)
 rintro e a' w' ⟨st',hr',hq⟩
 cases e <;> first | exact hy.h C hn a' w' ((show Wk st' s1 from hq) C a' w' hr') | exact ⟨st',hr',hq⟩⟩
theorem Ok.seqj {σ:Type} {x y:Code} (J:σ→ASt) (S:σ→Prop) (hx:Ok P n x st (jnE J S Q)) (hy:∀v,S v→Ok P n y (J v) Q):Ok P n (.seq x y) st Q:=⟨fun C hn a w hr=>by
 refine wpIn_seq (wpIn_mono (hx.h C hn a w hr) ?_)
 rintro e a' w' ⟨st',hr',hq⟩
 cases e <;> first | (obtain ⟨v,hv,hw⟩:=(show ∃v,S v∧Wk st' (J v) from hq); exact (hy v hv).h C hn a' w' (hw C a' w' hr')) | exact ⟨st',hr',hq⟩⟩
theorem Ok.region {id:Nat} {ops:Array Oper} (hT:TOk P T) (h:wpo P T n ops ops.toList st (Q .normal)):Ok P n (.region id ops false) st Q :=
 ⟨fun C hn=>wpc_sound (C:=C) hT hn (.region id ops false) st Q h⟩
theorem Ok.draw [MD:Mks] [CH:Mch] {id m:Nat} {ops:Array Oper} (hT:TOk P T) (hm:P.follows .mixedOrders=true) (hchk:drawChk m ops=true)
  (h:wpd P T n ops (steady m ops) ⟨preB (boxesOf m ops) (eraseAll (boxesOf m ops) st).f,(eraseAll (boxesOf m ops) st).H⟩ fun st1=>mksOk P st1.f (ops.toList.take m)∧bindAll T n (boxesOf m ops) st1 fun st2=>wpo P T n ops (ops.toList.drop m) st2 (Q .normal)):Ok P n (.region id ops true) st Q :=
 ⟨fun C hn=>wpc_sound (C:=C) hT hn (.region id ops true) st Q (draw_rule hT hm hchk h)⟩
theorem Ok.draw2 [MD:Mks] [CH:Mch] {id m:Nat} {late:List Nat} {ops:Array Oper} (hT:TOk P T) (hm:P.follows .mixedOrders=true) (hchk:drawChk2 m late ops=true)
  (h:wpd P T n ops (steady m ops) ⟨preB (boxesOf m ops) (eraseAll (boxesOf m ops) st).f,(eraseAll (boxesOf m ops) st).H⟩ fun st1=>mksOk P st1.f (ops.toList.take m)∧bindAll T n (boxesOf m ops) st1 fun st1=>atStore T ops m st1 fun st2=>lateL P T ops st2 late∧wpo P T n ops (ops.toList.drop (m+1)) st2 (Q .normal)):Ok P n (.region id ops true) st Q :=
 ⟨fun C hn=>wpc_sound (C:=C) hT hn (.region id ops true) st Q (draw_rule2 hT hm hchk h)⟩
theorem Ok.cond {d:Nat} {b:Bool} {x y:Code} {ρ:Type} {X Y:Option ρ} {r:ρ} (hb:st.f d=.v (.bool b)) (h:(if b=true then X else Y)=some r)
  (yes:b=true→X=some r→Ok P n x st Q) (no:b=false→Y=some r→Ok P n y st Q):Ok P n (.cond (.tmp d) x y) st Q:=⟨fun C hn a w hr=>by
 have hr':=hr
 obtain ⟨F,β,hs,hd,hf,he⟩:=hr'
 have hfd:=hf d
 rw [hb] at hfd
 have hv:a.eval (.tmp d)=.bool b:=hfd.v_inv
 refine wpIn_cond_split hv (fun ht=>?_) fun ht=>?_
 ·exact (yes ht (by simpa [ht] using h)).h C hn a w hr
 ·exact (no (by simpa using ht) (by simpa [ht] using h)).h C hn a w hr⟩
theorem Ok.condT {d:Nat} {x y:Code} (hb:st.f d=.v (.bool true)) (h:Ok P n x st Q):Ok P n (.cond (.tmp d) x y) st Q :=
 .cond (ρ:=Unit) (X:=some ()) (Y:=none) (r:=()) hb rfl (fun _ _=>h) fun h=>by cases h
theorem Ok.condF {d:Nat} {x y:Code} (hb:st.f d=.v (.bool false)) (h:Ok P n y st Q):Ok P n (.cond (.tmp d) x y) st Q :=
 .cond (ρ:=Unit) (X:=none) (Y:=some ()) (r:=()) hb rfl (fun h=>by cases h) fun _ _=>h
theorem Ok.block {id:Nat} {c:Code} (h:Ok P n c st (bk id Q)):Ok P n (.block id c) st Q:=⟨fun C hn a w hr=>by
 refine wpIn_block (wpIn_mono (h.h C hn a w hr) ?_)
 rintro e a' w' ⟨st',hr',hq⟩
 cases e with
 | exit i =>
  have hq:bif Nat.beq i id then Q .normal st' else Q (.exit i) st':=hq
  by_cases hi:i=id
  ·subst hi
   simp only [Nat.beq_refl,cond_true] at hq
   simp only [Exit.inBlock,if_true]
   exact ⟨st',hr',hq⟩
  ·have:Nat.beq i id=false:=by cases hb:Nat.beq i id; rfl; exact absurd (Nat.eq_of_beq_eq_true hb) hi
   simp only [this,cond_false] at hq
   simp only [Exit.inBlock,if_neg hi]
   exact ⟨st',hr',hq⟩
 | _=>exact ⟨st',hr',hq⟩⟩
def lp {σ ρ:Type} (J:σ→ASt) (x:σ⊕ρ) (Q:Exit→ASt→Prop):Exit→ASt→Prop:=fun e s=>match e with
 | .normal=>∃v,x=.inl v∧Wk s (J v)
 | e=>Q e s
theorem Ok.loop {σ ρ:Type} {c:Code} (J:σ→ASt) (B:σ→Option (σ⊕ρ)) {r:ρ} {s0:σ} (h:Cat.loop B s0=some r) (h0:Wk st (J s0))
  (round:∀s x,B s=some x→(∀r',x=.inr r'→r'=r)→Ok P n c (J s) (lp J x Q)):Ok P n (.loop c) st Q:=⟨fun C hn a w hr=>by
 obtain ⟨k0,hk0⟩:=loop_some h
 refine wpIn_loop (fun a w=>∃s k,loopN B k s=some r∧Rel C (J s) a w) (fun a w=>by
  classical exact if h:∃k s,(loopN B k s=some r∧Rel C (J s) a w)∧∀k' s',loopN B k' s'=some r∧Rel C (J s') a w→k≤k' then h.choose else 0) ⟨s0,k0,hk0,h0 C a w hr⟩ ?_
 intro a w hex
 have hleast:∃k s,(loopN B k s=some r∧Rel C (J s) a w)∧∀k' s',loopN B k' s'=some r∧Rel C (J s') a w→k≤k':=by
  obtain ⟨s,k,hi⟩:=hex
  have key:∀m k s,k=m→loopN B k s=some r∧Rel C (J s) a w→∃k s,(loopN B k s=some r∧Rel C (J s) a w)∧∀k' s',loopN B k' s'=some r∧Rel C (J s') a w→k≤k':=by
   intro m
   induction m using Nat.strongRecOn with
   | _ m ih =>
    intro k s hm hi
    by_cases hsm:∃k' s',(loopN B k' s'=some r∧Rel C (J s') a w)∧k' < m
    ·obtain ⟨k',s',hi',hlt⟩:=hsm
     exact ih k' hlt k' s' rfl hi'
    ·refine ⟨k,s,hi,fun k' s' hi'=>?_⟩
     rcases Nat.lt_or_ge k' k with h | h
     ·exact absurd ⟨k',s',hi',hm▸h⟩ hsm
     ·exact h
  exact key _ k s rfl hi
 obtain ⟨s,⟨hi,hrel⟩,hmin⟩:=hleast.choose_spec
 have hk:∃k,hleast.choose=k+1:=by
  cases hc:hleast.choose with
  | zero=>rw [hc] at hi; cases hi
  | succ k=>exact ⟨k,rfl⟩
 obtain ⟨k,hk⟩:=hk
 have hi0:=hi
 rw [hk] at hi
 obtain ⟨x,hx,hfin⟩:∃x,B s=some x∧(∀r',x=.inr r'→r'=r)∧∀s',x=.inl s'→loopN B k s'=some r:=by
  cases hB:B s with
  | none=>simp [loopN,hB] at hi
  | some x =>
   refine ⟨x,rfl,fun r' hr'=>?_,fun s' hs'=>?_⟩
   ·subst hr'; simpa [loopN,hB] using hi
   ·subst hs'; simpa [loopN,hB] using hi
 refine wpIn_mono ((round s x hx hfin.1).h C hn a w hrel) ?_
 rintro e a' w' ⟨st',hr',hq⟩
 cases e with
 | normal =>
  obtain ⟨v,hv,hwk⟩:=(show ∃v,x=.inl v∧Wk st' (J v) from hq)
  have hv':=hfin.2 v hv
  have hrel':=hwk C a' w' hr'
  refine ⟨⟨v,k,hv',hrel'⟩,?_⟩
  rw [dif_pos hleast,hk]
  split
  ·rename_i h'
   obtain ⟨_,_,hm⟩:=h'.choose_spec
   exact Nat.lt_succ_of_le (hm k v ⟨hv',hrel'⟩)
  ·exact Nat.succ_pos _
 | _=>exact ⟨st',hr',hq⟩⟩
def tab:List (Nat×AV)→Nat→AV
 | [],_=>.junk
 | (d,x)::r,t=>bif Nat.beq t d then x else tab r t
def HasF (f:Nat→AV):List (Nat×AV)→Prop
 | []=>True
 | (d,x)::r=>Le (f d) x∧HasF f r
inductive ChLe:Chunk→Chunk→Prop where
 | refl (c:Chunk):ChLe c c
 | box {a b:List AV} (h:LeL a b):ChLe (.box a) (.box b)
 | lp {l:Nat} {e:LS} {R:RF} {a b:List (Nat×AV)} (h:∀p,p∈b→∃x,(p.1,x)∈a∧Le x p.2):ChLe (.lp l e R a) (.lp l e R b)
theorem ChLe.holds {w:World} {F:Nat→Prop} {β:Nat→Value} {i:Nat} {c c':Chunk} (h:ChLe c c') (hc:c.holds w F β i):c'.holds w F β i:=by
 cases h with
 | refl=>exact hc
 | box h =>
  obtain ⟨b,cs,e,hβ,hh,hs,h1,hr⟩:=hc
  obtain ⟨hl,hz⟩:=h.spec
  exact ⟨b,cs,e,hβ,hh,by omega,fun j hj=>h1 j (by omega),fun j hj=>hz j (by omega) _ _ _ _ (hr j (by omega))⟩
 | lp h =>
  obtain ⟨fn,tmps,D,hβ,hh,hn,hr⟩:=hc
  refine ⟨fn,tmps,D,hβ,hh,hn,fun p hp=>?_⟩
  obtain ⟨x,hx,hz⟩:=h p hp
  exact hz _ _ _ _ (hr _ hx)
def HasH (H:Hp):Hp→Prop
 | []=>True
 | (i,c)::r=>(∃c0,findC i H=some c0∧ChLe c0 c)∧HasH H r
def keysOk:Hp→Bool
 | []=>true
 | (i,_)::r=>r.all (fun p=>!Nat.beq p.1 i)&&keysOk r
theorem keysOk_nodup:∀{H:Hp},keysOk H=true→(H.map (·.1)).Nodup
 | [],_=>List.nodup_nil
 | (i,c)::r,h=>by
  simp only [keysOk,Bool.and_eq_true] at h
  simp only [List.map_cons,List.nodup_cons]
  refine ⟨fun hm=>?_,keysOk_nodup h.2⟩
  obtain ⟨x,hx,hxe⟩:=List.mem_map.1 hm
  have:=List.all_eq_true.1 h.1 x hx
  rw [hxe,Nat.beq_refl] at this
  cases this
theorem HasH.mem {H:Hp}:∀{H':Hp},HasH H H'→∀i c,(i,c)∈H'→∃c0,(i,c0)∈H∧ChLe c0 c
 | [],_,_,_,hx=>by cases hx
 | (i,c)::r,h,j,d,hx=>by
  rcases List.mem_cons.1 hx with hx | hx
  ·cases hx
   obtain ⟨c0,hc,hl⟩:=h.1
   exact ⟨c0,findC_mem hc,hl⟩
  ·exact HasH.mem h.2 j d hx
theorem tab_rd {w:World} {F:Nat→Prop} {β:Nat→Value} {f:Nat→AV} {g:Nat→Value} (hf:∀t,Rd w F β (f t) (g t)):∀{L:List (Nat×AV)},HasF f L→∀t,Rd w F β (tab L t) (g t)
 | [],_,_=>.junk
 | (d,x)::r,h,t=>by
  simp only [tab]
  cases hb:Nat.beq t d with
  | true =>
   obtain rfl:=Nat.eq_of_beq_eq_true hb
   exact h.1 _ _ _ _ (hf t)
  | false=>exact tab_rd hf h.2 t
theorem Ext.sub {w0:World} {F0:Nat→Prop} {β0:Nat→Value} {st0:ASt} {w:World} {F:Nat→Prop} {β:Nat→Value} {H H':Hp} (h:Ext w0 F0 β0 st0 w F β ⟨noSlots,H⟩) (hmem:∀i c,(i,c)∈H'→∃c0,(i,c0)∈H∧ChLe c0 c) (hk:(H'.map (·.1)).Nodup):Ext w0 F0 β0 st0 w F β ⟨noSlots,H'⟩ where
 os:=h.os
 tape:=h.tape
 output:=h.output
 size:=h.size
 block:=h.block
 mono:=h.mono
 new:=h.new
 owned b hb:=h.owned b (by obtain ⟨i,c,hm,hb⟩:=hb; obtain ⟨c0,h0,_⟩:=hmem i c hm; exact ⟨i,c0,h0,hb⟩)
 keep _ _ _:=.junk
 inv:=⟨h.inv.fsize,fun i c hm=>by obtain ⟨c0,h0,hl⟩:=hmem i c hm; exact hl.holds (h.inv.holds i c0 h0),hk,
  fun b ⟨i,c,hm,hb⟩=>by obtain ⟨c0,h0,_⟩:=hmem i c hm; exact h.inv.apart b ⟨i,c0,h0,hb⟩,
  fun i c i' c' b hm hm' hb hb'=>by
   obtain ⟨c0,h0,_⟩:=hmem i c hm
   obtain ⟨c1,h1,_⟩:=hmem i' c' hm'
   exact h.inv.disj i c0 i' c1 b h0 h1 hb hb'⟩
 lab:=h.lab
theorem XM.sub {C:Ctx} {ds:List Deferred} {w:World} {F:Nat→Prop} {β:Nat→Value} {H H':Hp} (h:XM C ds w F β H) (hmem:∀i c,(i,c)∈H'→∃c0,(i,c0)∈H∧ChLe c0 c) (hk:(H'.map (·.1)).Nodup):XM C ds w F β H' :=
 h.trans ((Ext.refl (st:=⟨noSlots,H⟩) h.inv).sub hmem hk)
theorem Wk.tab {L:List (Nat×AV)} {H':Hp} (hL:HasF st.f L) (hH:HasH st.H H') (hk:keysOk H'=true):Wk st ⟨Cat.tab L,H'⟩:=fun C a w hr=>by
 obtain ⟨F,β,hs,hd,hf,he⟩:=hr
 exact ⟨F,β,hs,hd,tab_rd hf hL,he.sub hH.mem (keysOk_nodup hk)⟩
theorem Ext.noS {w0:World} {F0:Nat→Prop} {β0:Nat→Value} {st0:ASt} {w:World} {F:Nat→Prop} {β:Nat→Value} {f:Nat→AV} {H:Hp} (h:Ext w0 F0 β0 st0 w F β ⟨f,H⟩):Ext w0 F0 β0 st0 w F β ⟨noSlots,H⟩ where
 os:=h.os
 tape:=h.tape
 output:=h.output
 size:=h.size
 block:=h.block
 mono:=h.mono
 new:=h.new
 owned:=h.owned
 keep _ _ _:=.junk
 inv:=h.inv
 lab:=h.lab
theorem Wk.own0 {t id E K:Nat} (hlt:Nat.blt id 1000=true) (ht:st.f t=.v (.slice none 0 0)):Wk st ⟨upd (fun t=>er 2 id (st.f t)) t (.o id),(id,.own E K [])::erH id st.H⟩:=fun C a w hr=>by
 obtain ⟨F,β,hs,hd,hf,he⟩:=hr
 have hlow:id < 1000:=by simpa using hlt
 have hb:Below w.heap.size w w:=Below.refl _ _
 have hx:=ext_bindF (st:=⟨noSlots,st.H⟩) (w':=w) (F':=F) (c:=.own E K []) (v:=.slice none 0 0) hlow he.inv hb (fun _ h=>h) (fun _ h=>.inl h) (fun b hb=>by cases hb) (.inl ⟨rfl,none,by simp⟩)
 have hβ:∀i,i≠id→(fun i=>if i=id then Value.slice none 0 0 else β i) i=β i:=fun i hi=>if_neg hi
 refine ⟨F,_,hs,hd,fun q=>?_,(he.trans hx).noS⟩
 show Rd w F _ (bif Nat.beq q t then AV.o id else er 2 id (st.f q)) _
 cases hq:Nat.beq q t with
 | true =>
  obtain rfl:=Nat.eq_of_beq_eq_true hq
  have h1:=hf q
  rw [ht] at h1
  rw [cond_true,h1.v_inv]
  exact .o (by simp)
 | false=>exact er_rd hβ 2 (hf q)
theorem Wk.freeze {id E K:Nat} {rows:List (List AV)} (hc:findC id st.H=some (.own E K rows)):Wk st (frSt id rows st):=fun C a w hr=>by
 obtain ⟨F,β,hs,hd,hf,he⟩:=hr
 have hI:=he.inv
 have hm:=findC_mem hc
 have hz:∀u,Rd w (fun b=>F b∨blkOf (β id)=some b) β (.o id) u→Rd w (fun b=>F b∨blkOf (β id)=some b) β (.s rows) u:=fun u hu=>by
  refine .i (freeze_rd hI hm ?_)
  obtain ⟨a,n,c,h1,rfl⟩:=hu.o_inv
  exact .o h1
 have up:∀{x u},Rd w F β x u→Rd w (fun b=>F b∨blkOf (β id)=some b) β x u:=fun h=>h.frame (fun _ _=>rfl) fun _ h=>.inl h
 have hI':Inv w (fun b=>F b∨blkOf (β id)=some b) β (frH id rows st.H):=by
  refine ⟨fun b hb=>hb.elim (hI.fsize b) fun hb=>hI.owned_lt ⟨id,_,hm,hb⟩,fun i c h=>?_,frH_keys hI.keys,fun b ⟨i,c,h,hb⟩ hF=>?_,fun i c i' c' b h h' hb hb'=>?_⟩
  ·obtain ⟨hi,c',h',rfl⟩:=frH_mem h
   have hh:=hI.holds i c' h'
   cases c' with
   | own E' K' r=>exact holds_imm (c:=.own E' K' r) rfl (fun _ h=>.inl h) rfl hh
   | mp ag r=>exact holds_imm (c:=.mp ag r) rfl (fun _ h=>.inl h) rfl hh
   | si s pos=>exact holds_imm (c:=.si s pos) rfl (fun _ h=>.inl h) rfl hh
   | lp l e R L =>
    obtain ⟨fn,tmps,D,hb,hhb,hnb,hrb⟩:=hh
    refine ⟨fn,tmps,D,hb,hhb,hnb,fun p hp=>?_⟩
    obtain ⟨q,hq,rfl⟩:=List.mem_map.1 hp
    exact sb_rd hz (fun _ _=>rfl) 2 (up (hrb q hq))
   | box cells =>
    obtain ⟨b,cs,e,hb,hh,hs,h1,hr⟩:=hh
    refine ⟨b,cs,e,hb,hh,by simpa using hs,fun j hj=>h1 j (by simpa using hj),fun j hj=>?_⟩
    have hj:j < cells.length:=by simpa using hj
    have:(cells.map (sb (.s rows) 1 id)).getD j .junk=sb (.s rows) 1 id (cells.getD j .junk):=by simp [List.getD,hj]
    rw [this]
    exact sb_rd hz (fun _ _=>rfl) 1 (up (hr j hj))
  ·obtain ⟨hi,c',h',_⟩:=frH_mem h
   rcases hF with hF | hF
   ·exact hI.apart b ⟨i,c',h',hb⟩ hF
   ·exact hi (hI.disj i c' id _ b h' hm hb hF)
  ·obtain ⟨_,c2,h2,_⟩:=frH_mem h
   obtain ⟨_,c3,h3,_⟩:=frH_mem h'
   exact hI.disj i c2 i' c3 b h2 h3 hb hb'
 have hownF:∀b,Owned β (frH id rows st.H) b→Owned β st.H b:=fun b ⟨i,c,h,hb⟩=>by
  obtain ⟨_,c2,h2,_⟩:=frH_mem h
  exact ⟨i,c2,h2,hb⟩
 refine ⟨_,β,hs,hd,fun t=>sb_rd hz (fun _ _=>rfl) 2 (up (hf t)),he.trans (f:=noSlots) (f':=noSlots) ⟨rfl,SameT.refl _,rfl,Nat.le_refl _,fun _ _ _=>rfl,fun b hb=>.inl hb,fun b hb=>hb.elim .inl fun hb=>.inr (.inr ⟨id,_,hm,hb⟩),fun b hb=>.inr (hownF b hb),fun _ _ _=>.junk,hI',fun _ _=>rfl⟩⟩
theorem leavesM {C:Ctx} {fn:Func} {tmps:Array Value} {RR:Ending→World→Prop} {F:Nat→Prop} {β:Nat→Value} {H:Hp}:∀(ds:List Deferred) (w:World),XM C ds w F β H →
  (∀w',XM C [] w' F β H→(∀x u,Rd w F β x u→Rd w' F β x u)→LeavesIn Fence.wide 0 P fn tmps RR [] .returning w')→LeavesInM Fence.wide 0 P fn tmps RR ds .returning w
 | [],w,h,hk=>hk w h fun _ _ hr=>hr
 | d::ds,w,h,hk=>by
  obtain ⟨D,h1,h2,h3,h4,h5⟩:=h.m d (by simp)
  have hlt:=blk_lt_of_heap h3
  have hot:∀b,b≠D→(w.putObj D (.deferred none)).heap[b]?=w.heap[b]?:=fun b hb=>World.putObj_heap_other hb
  have ha:Agree F w (w.putObj D (.deferred none)):=fun b hb=>hot b fun e=>h4 (e▸hb)
  have hI:=h.inv
  refine ⟨by simp,.inl ⟨D,_,by rw [h1],run_takeDeferred h3,?_⟩⟩
  have hI':Inv (w.putObj D (.deferred none)) F β H:=⟨fun b hb=>by rw [World.putObj_size]; exact hI.fsize b hb,fun i c hm=>holds_frame ha (fun _ h=>h) (fun b hb=>hot b fun e=>h5 (e▸⟨i,c,hm,hb⟩)) (hI.holds i c hm),hI.keys,hI.apart,hI.disj⟩
  have hx:=h.x
  refine leavesM ds _ ⟨⟨hx.os,hx.tape,hx.output,by rw [World.putObj_size]; exact hx.size,fun b hb hn=>(hot b (by omega)).trans (hx.block b hb hn),hx.mono,hx.new,hx.owned,fun _ _ _=>.junk,hI',hx.lab⟩,fun d' hd'=>?_,(List.nodup_cons.1 h.nd).2⟩ fun w' hw' hr'=>hk w' hw' fun x u hr=>hr' x u (hr.frame ha fun _ h=>h)
  obtain ⟨D',g1,g2,g3,g4,g5⟩:=h.m d' (by simp [hd'])
  exact ⟨D',g1,g2,(hot D' fun e=>(List.nodup_cons.1 h.nd).1 (by rw [h1,←e,←g1]; exact hd')).trans g3,g4,g5⟩
theorem calls_of_ok {g:Nat} {fn:Func} {c:Code} {args:List AV} {H:Hp} {R0:AV→ASt→Prop} {w:World} {F:Nat→Prop} {β:Nat→Value} (hT:TOk P T) (hfn:P.funcs[g]?=some fn) (hb:fn.body=some c) (hn:fn.ntmps=n) (hle:args.length≤n)
  (h:Ok P n c ⟨initf args,H⟩ (fpost T fn.results.toList R0)) {vs:Array Value} (hI:Inv w F β H) (hs:vs.size=args.length) (hv:∀i,i < args.length→Rd w F β (args.getD i .junk) (vs.getD i undef)) :
  Calls P g vs w fun e w'=>∃v,e=.returned v∧∃x st F' β',R0 x st∧Rd w' F' β' x v∧Ext w F β ⟨noSlots,H⟩ w' F' β' ⟨noSlots,st.H⟩:=by
 refine callsIn_wide.1 (callsIn_of_wp_marks (F:=Fence.wide) (n:=0) hfn hb trivial ?_)
 let C:Ctx:=⟨w,F,β,H,n,none,.inl rfl⟩
 have hr:Rel C ⟨initf args,H⟩ { tmps:=vs++Array.replicate (fn.ntmps - vs.size) undef,defers:=[] } w :=
  ⟨F,β,by simp [C,hn]; omega,trivial,init_rd hs hv,⟨Ext.refl hI,fun d hd=>(List.not_mem_nil hd).elim,List.nodup_nil⟩⟩
 have fin:∀(st:ASt) (a':Act) (w':World),Rel C st a' w'→resK T fn.results.toList st (fun x=>R0 x st)→LeavesInM Fence.wide 0 P fn a'.tmps (fun e w'=>∃v,e=.returned v∧∃x st F' β',R0 x st∧Rd w' F' β' x v∧Ext w F β ⟨noSlots,H⟩ w' F' β' ⟨noSlots,st.H⟩) a'.defers .returning w':=fun st a' w' ⟨F',β',_,_,hf,he⟩ hq =>
  leavesM a'.defers w' he fun w'' he' hr'=>by
   obtain ⟨v,x,hrun,hk,hx⟩:=resK_sound (P:=P) (st:=st) hT he'.inv (fun t=>hr' _ _ (hf t)) hq
   exact ⟨v,hrun,v,rfl,x,st,F',β',hk,hx,he'.x⟩
 refine wpIn_mono (h.h C rfl _ w hr) ?_
 rintro e a' w' ⟨st,hrel,hq⟩
 cases e with
 | normal=>exact fin st a' w' hrel hq
 | ret=>exact fin st a' w' hrel hq
 | exit id=>exact hq.elim
 | goto l=>exact hq.elim
 | panic ch=>exact hq.elim
 | outgrown=>exact hq.elim
theorem pure_of_ok {g : Nat} {fn : Func} {c : Code} {args : List AV} {r : AV} (hT : TOk P T) (hfn : P.funcs[g]? = some fn) (hnm : (fn.name == "runtime.NumGoroutine") = false) (hb : fn.body = some c) (hn : fn.ntmps = n) (hle : args.length ≤ n)
  (h:Ok P n c ⟨initf args,[]⟩ (fpost T fn.results.toList fun x st=>Fz st.H x r)):Pure P g args r:=by
 refine ⟨⟨fn,c,hfn,hnm,hb⟩,fun w F β vs hI hs hv=>?_⟩
 refine (calls_of_ok hT hfn hb hn hle h hI hs hv).mono ?_
 rintro e w' ⟨v,rfl,x,st,F',β',hz,hx,he⟩
 have hno:∀b,¬Owned β ([]:Hp) b:=by rintro b ⟨id,c,hm,_⟩; cases hm
 refine ⟨v,rfl,⟨he.os,he.tape,he.output,he.size,fun b hb'=>he.block b hb' (hno b)⟩,?_⟩
 refine (hz w' F' β' v he.inv hx).frame (fun _ _=>rfl) fun b hb'=>?_
 rcases hb' with hb' | hb'
 ·rcases he.new b hb' with h1 | h1 | h1
  ·exact .inl h1
  ·exact .inr ⟨h1,he.inv.fsize b hb'⟩
  ·exact (hno b h1).elim
 ·rcases he.owned b hb' with h1 | h1
  ·exact .inr ⟨h1,he.inv.owned_lt hb'⟩
  ·exact (hno b h1).elim
theorem pown_of_ok {g E K : Nat} {fn : Func} {c : Code} {args : List AV} {rows : List (List AV)} (hT : TOk P T) (hfn : P.funcs[g]? = some fn) (hnm : (fn.name == "runtime.NumGoroutine") = false) (hb : fn.body = some c) (hn : fn.ntmps = n) (hle : args.length ≤ n)
  (h:Ok P n c ⟨initf args,[]⟩ (fpost T fn.results.toList (EndOwn E K rows))):POwn P g args E K rows:=by
 refine ⟨⟨fn,c,hfn,hnm,hb⟩,fun w F β vs hI hs hv=>?_⟩
 refine (calls_of_ok hT hfn hb hn hle h hI hs hv).mono ?_
 rintro e w' ⟨v,rfl,x,st,F',β',hz,hx,he⟩
 have hno:∀b,¬Owned β ([]:Hp) b:=by rintro b ⟨id,c,hm,_⟩; cases hm
 refine ⟨v,rfl,⟨he.os,he.tape,he.output,he.size,fun b hb'=>he.block b hb' (hno b)⟩,F',he.mono,fun b hb'=>?_,?_⟩
 ·rcases he.new b hb' with h1 | h1 | h1
  ·exact .inl h1
  ·exact .inr ⟨h1,he.inv.fsize b hb'⟩
  ·exact (hno b h1).elim
 ·rcases hz with ⟨rfl,rfl⟩ | ⟨id,rfl,hc⟩
  ·rw [hx.v_inv]
   exact ⟨.inl ⟨rfl,none,rfl⟩,⟨_,_,_,rfl⟩,fun b hb'=>by cases hb'⟩
  ·obtain ⟨a,m,cp,hβ,rfl⟩:=hx.o_inv
   have hm:=findC_mem hc
   refine ⟨own_any (he.inv.holds _ _ hm) _ _ hβ.symm,⟨_,_,_,rfl⟩,fun b hb'=>?_⟩
   have ho:Owned β' st.H b:=⟨id,_,hm,by rw [hβ]; exact hb'⟩
   refine ⟨?_,he.inv.apart b ho⟩
   rcases he.owned b ho with h1 | h1
   ·exact h1
   ·exact (hno b h1).elim
theorem pchg_of_ok {g : Nat} {fn : Func} {c : Code} {args : List AV} {ch : Chunk} {R1 : AV → Chunk → Prop} (hT : TOk P T) (hfn : P.funcs[g]? = some fn) (hnm : (fn.name == "runtime.NumGoroutine") = false) (hb : fn.body = some c) (hn : fn.ntmps = n) (hle : args.length ≤ n)
  (h:Ok P n c ⟨initf args,[(1000,ch)]⟩ (fpost T fn.results.toList (EndChg R1))):PChg P g args ch R1:=by
 refine ⟨⟨fn,c,hfn,hnm,hb⟩,fun w F β vs hI hs hv=>?_⟩
 refine (calls_of_ok hT hfn hb hn hle h hI hs hv).mono ?_
 rintro e w' ⟨v,rfl,x,st,F',β',⟨r,c',hR,hc',himm,hz⟩,hx,he⟩
 have hm:=findC_mem hc'
 have hlab:β' 1000=β 1000:=he.lab 1000 (Nat.le_refl _)
 have hI0:=he.inv.dropC 1000
 have hown0:∀b,Owned β [(1000,ch)] b↔blkOf (β 1000)=some b:=fun b=>⟨fun ⟨i,c,hm,hb⟩=>by
  simp only [List.mem_singleton,Prod.mk.injEq] at hm; rw [←hm.1]; exact hb,fun hb=>⟨1000,ch,by simp,hb⟩⟩
 have hmine:∀b,blkOf (β 1000)=some b→Owned β' st.H b:=fun b hb=>⟨1000,c',hm,by rw [hlab]; exact hb⟩
 refine ⟨v,rfl,r,c',fun b=>F' b∨Owned β' (dropC 1000 st.H) b,hR,hz w' F' β' v hI0 hx,he.os,he.tape,he.output,he.size,fun b hb' hne=>he.block b hb' fun ho=>hne ((hown0 b).1 ho),fun b hb=>.inl (he.mono b hb),fun b hb=>?_,himm,?_⟩
 ·rcases hb with hb | ⟨i,ci,hmi,hb⟩
  ·rcases he.new b hb with h1 | h1 | h1
   ·exact .inl h1
   ·exact .inr ⟨h1,he.inv.fsize b hb⟩
   ·exact absurd hb (he.inv.apart b (hmine b ((hown0 b).1 h1)))
  ·have ho:Owned β' st.H b:=⟨i,ci,(dropC_mem.1 hmi).1,hb⟩
   rcases he.owned b ho with h1 | h1
   ·exact .inr ⟨h1,he.inv.owned_lt ho⟩
   ·exact absurd (he.inv.disj i ci 1000 c' b (dropC_mem.1 hmi).1 hm hb (by rw [hlab]; exact (hown0 b).1 h1)) (dropC_mem.1 hmi).2
 ·exact holds_imm himm (fun _ h=>.inl h) hlab.symm (he.inv.holds _ _ hm)
end
instance rnds0 : Rnds := Rnds.no
end Go.Cat
set_option linter.all false
namespace Go.Cat
open Go.RowKit
variable [M:Mono] [R:Rnds]
local instance mks0:Mks:=⟨[]⟩
local instance mch0:Mch:=⟨[]⟩
def chkU (ops:Array Oper) (i:Nat) (o:Oper):Bool :=
 match o.dst with
 | none=>true
 | some d=>Nat.blt d 1000&&(List.range ops.size).all fun j=>i == j||((ops[j]?).bind (·.dst)) != some d
def chkLk (ops:Array Oper) (i:Nat) (o:Oper):Bool :=
 (o.looksAt ops).all fun t=>(List.range ops.size).all fun j=>match ops[j]? with
  | none=>true
  | some o'=>(o'.dst != some t)||depOf ops i j
def freeOf (chain:List (Nat×List Nat)) (ops:Array Oper):List Nat:=(List.range ops.size).filter fun i=>!(chain.any fun c=>Nat.beq c.1 i)
def chkC (chain:List (Nat×List Nat)) (ops:Array Oper):List (Nat×List Nat)→Bool
 | []=>true
 | c::r=>Nat.blt c.1 ops.size&&((match ops[c.1]? with | some _=>true | none=>false)&&(((freeOf chain ops).all fun i=>depOf ops c.1 i||c.2.elem i)&&((match r with | []=>true | c'::_=>depOf ops c'.1 c.1)&&chkC chain ops r)))
def chainChk (chain:List (Nat×List Nat)) (ops:Array Oper):Bool :=
 ((List.range ops.size).all fun i=>match ops[i]? with
  | none=>true
  | some o=>chkA i o&&(chkB ops i o&&(chkU ops i o&&chkLk ops i o)))&&(chkC chain ops chain&&((freeOf chain ops).all fun i=>match ops[i]? with | some o=>o.dst.isSome | none=>true))
def freeOps (chain:List (Nat×List Nat)) (ops:Array Oper):List Oper:=(freeOf chain ops).filterMap fun i=>ops[i]?
def chainW (P:Program) (T:TT) (n:Nat) (ops:Array Oper):List (Nat×List Nat)→ASt→(ASt→Prop)→Prop
 | [],st,K=>K st
 | c::r,st,K=>match ops[c.1]? with
  | some o=>gd n ops o st (fun st=>step P T o st fun x st'=>put n o.dst st' x fun st''=>lateL P T ops st'' c.2∧chainW P T n ops r st'' K) fun st=>put n o.dst st (.v undef) fun st''=>lateL P T ops st'' c.2∧chainW P T n ops r st'' K
  | none=>False
section
variable {P:Program} {T:TT} {C:Ctx}
structure Half0 (C:Ctx) (ops:Array Oper) (m:Nat) (fA:Nat→AV) (Hm:Hp) (listed:Array Bool) (a:Act) (w:World):Prop where
 ex:∃F β,a.tmps.size=C.n∧True∧XM C a.defers w F β Hm ∧
  (∀t,(∀i o,i < m→ops[i]?=some o→o.dst=some t→listed.getD i false=true)→Rd w F β (fA t) (a.tmps.getD t undef))
theorem half_steady0 {ops:Array Oper} {m i n:Nat} {o:Oper} {fe:Nat→AV} {Hm:Hp} {listed:Array Bool} {a:Act} {w:World} {Q:Exit→Act→World→Prop} {N:Act→World→Prop}
  (hT:TOk P T) (hn:C.n=n) (hsz:listed.size=ops.size) (ho:ops[i]?=some o)
  (hlk:∀t j o',j < m→t∈o.looksAt ops→ops[j]?=some o'→o'.dst=some t→listed.getD j false=true)
  (hok:OpOk P T ops Hm fe o) (hlt:∀d,o.dst=some d→d < n) (h:Half0 C ops m fe Hm listed a w)
  (hN:∀a w,Half0 C ops m fe Hm (listed.setIfInBounds i true) a w→N a w):wpOpIn (fen C.ro) 0 P ops Q i N a w:=by
 obtain ⟨F,β,hs,hd,he,hf⟩:=h.ex
 obtain ⟨d,hdst,hok⟩:=hok
 have hdlt:d < a.tmps.size:=by rw [hs,hn]; exact hlt d hdst
 have hsize:i < listed.size:=by rw [hsz]; exact (Array.getElem?_eq_some_iff.1 ho).1
 have look:∀t,t∈o.looksAt ops→Rd w F β (fe t) (a.tmps.getD t undef):=fun t ht=>hf t fun j o' hj ho' hd'=>hlk t j o' hj ht ho' hd'
 have opnd:∀x,x∈o.op.operands→Rd w F β (ev fe x) (a.eval x):=fun x hx=>by
  cases x with
  | tmp t=>exact look t (List.mem_append_left _ (List.mem_filterMap.2 ⟨.tmp t,by simpa using hx,rfl⟩))
  | const v=>exact ofV_rd _ _ _ _
  | global g=>exact .junk
  | func g=>exact .i (.c rfl rfl (fun i hi=>absurd hi (by simp)) (fun i hi=>absurd hi (by simp)))
 have hI:Inv w F β Hm:=he.inv
 have done:∀(v:Value) (w':World),Below w.heap.size w w'→Rd w' (FNew F w w') β (fe d) v→Half0 C ops m fe Hm (listed.setIfInBounds i true) (a.put (some d) v) w':=fun v w' hb hv=>by
  have hx:=ext_quiet (st:=⟨noSlots,Hm⟩) he.inv hb
  refine ⟨FNew F w w',β,by simpa [Act.put] using hs,hd,he.trans hx,fun t ht=>?_⟩
  by_cases htd:t=d
  ·subst htd
   simpa [Act.put,hdlt] using hv
  ·have h1:=(hf t fun j o' hj ho' hd'=>by
    have:=ht j o' hj ho' hd'
    rw [set_get hsize] at this
    split at this
    ·rename_i e
     subst e
     rw [ho] at ho'; cases ho'
     rw [hdst] at hd'; cases hd'; exact absurd rfl htd
    ·exact this).later hb he.inv.fsize
   simpa [Act.put,Array.getElem?_setIfInBounds_ne (Ne.symm htd)] using h1
 have run:(stepD P T o (ev fe) Hm fun r=>r=fe d)→o.wpIn (fen C.ro) 0 P a w N Q:=fun hs=>by
  have hnd:=stepD_nodefer hs
  rcases stepD_sound hT hI opnd hs with ⟨v,w',hrun,hb,r,rfl,hv⟩ | ⟨g,vs,hrun,hc⟩
  ·refine Oper.inW hnd hrun ?_
   rw [Oper.uponIn_value,hdst]
   exact hN _ _ (done v w' hb hv)
  ·refine Oper.inW hnd hrun ?_
   rw [Oper.uponIn_enter]
   refine ⟨fun h=>(by cases h),callsIn_fen (hc.mono ?_)⟩
   rintro e w' ⟨v,rfl,hb,r,rfl,hv⟩
   rw [hdst]
   exact hN _ _ (done v w' hb hv)
 have skip:fe d=.v undef→N (a.put o.dst undef) w:=fun h0=>by
  rw [hdst]
  exact hN _ _ (done undef w (Below.refl _ _) (by rw [h0]; exact .i (.v (.inr rfl))))
 unfold wpOpIn
 simp only [ho]
 cases hg:o.guard with
 | none =>
  rw [hg] at hok
  have hw:Region.wanted o (yielded ops a.tmps)=true:=by simp [Region.wanted,hg]
  rw [if_pos hw]
  exact run hok
 | some jw =>
  obtain ⟨j,want⟩:=jw
  rw [hg] at hok
  obtain ⟨g,hgd,hok⟩:=hok
  have hgl:g∈o.looksAt ops:=by
   refine List.mem_append_right _ ?_
   rw [hg]
   simp [hgd]
  have hfg:=look g hgl
  have hy:∀v,v≠undef→a.tmps.getD g undef=v→yielded ops a.tmps j=match v with | .bool b=>some b | _=>none:=by
   intro v hne hv
   have h2:a.tmps[g]?=some v:=by
    by_cases hl:g < a.tmps.size
    ·rw [←hv]; simp [hl]
    ·exact absurd (by rw [←hv]; simp [hl]) hne
   unfold yielded
   rw [hgd,Option.bind_some,h2]
   cases v <;> rfl
  rcases hok with ⟨h1,h2⟩ | ⟨h1,h2⟩ | ⟨⟨vs,h1⟩,h2⟩
  ·rw [h1] at hfg
   have hyb:=hy _ (by simp [undef]) hfg.v_inv
   have hw:Region.wanted o (yielded ops a.tmps)=true:=by simp [Region.wanted,hg,hyb]
   rw [if_pos hw]
   exact run h2
  ·rw [h1] at hfg
   have hyb:=hy _ (by simp [undef]) hfg.v_inv
   have hw:¬Region.wanted o (yielded ops a.tmps)=true:=by simp [Region.wanted,hg,hyb]
   rw [if_neg hw]
   exact ⟨fun _ _=>trivial,skip h2⟩
  ·rw [h1] at hfg
   have hv:=hfg.v_inv
   have hyb:yielded ops a.tmps j=none:=by
    unfold yielded
    rw [hgd,Option.bind_some]
    by_cases hl:g < a.tmps.size
    ·have h3:a.tmps[g]?=some (.tuple vs):=by rw [←hv]; simp [hl]
     rw [h3]
    ·simp [Array.getElem?_eq_none (Nat.le_of_not_lt hl)]
   have hw:¬Region.wanted o (yielded ops a.tmps)=true:=by simp [Region.wanted,hg,hyb]
   rw [if_neg hw]
   exact ⟨fun _ _=>trivial,skip h2⟩
theorem mem_freeOf {chain:List (Nat×List Nat)} {ops:Array Oper} {i:Nat}:i∈freeOf chain ops↔i < ops.size∧∀c,c∈chain→c.1≠i:=by
 unfold freeOf
 rw [List.mem_filter,List.mem_range]
 refine and_congr_right fun _=>?_
 simp only [Bool.not_eq_true',List.any_eq_false]
 refine ⟨fun h c hc e=>h c hc (by rw [e]; exact Nat.beq_refl _),fun h c hc e=>h c hc (Nat.eq_of_beq_eq_true e)⟩
theorem chain_draw {id n:Nat} {chain:List (Nat×List Nat)} {ops:Array Oper} {st:ASt} {K:ASt→Prop} (hT:TOk P T) (hm:P.follows .mixedOrders=true) (hchk:chainChk chain ops=true)
  (h:wpd P T n ops (freeOps chain ops) st fun st1=>chainW P T n ops chain st1 K):DrawOk P n id ops st K:=by
 refine ⟨fun C hn a w hr0=>?_⟩
 simp only [chainChk,Bool.and_eq_true,List.all_eq_true,List.mem_range] at hchk
 obtain ⟨hops,hchain,hfd⟩:=hchk
 have get:∀i o,ops[i]?=some o→chkA i o=true∧chkB ops i o=true∧chkU ops i o=true∧chkLk ops i o=true:=fun i o ho=>by
  have h1:=hops i (Array.getElem?_eq_some_iff.1 ho).1
  rw [ho] at h1
  simp only [Bool.and_eq_true] at h1
  exact ⟨h1.1,h1.2.1,h1.2.2.1,h1.2.2.2⟩
 have lt:∀{i o},ops[i]?=some o→i < ops.size:=fun h=>(Array.getElem?_eq_some_iff.1 h).1
 have dec:∀i o,ops[i]?=some o→∀e,e∈o.after→Region.binds .any e=true→e.on < i:=fun i o ho e he hb=>by
  have:=(Array.all_eq_true'.1 (get i o ho).1) e he
  simpa [hb] using this
 have step':∀i o j,ops[i]?=some o→j < ops.size→depOf ops i j=true→∃e,e∈o.after∧Region.binds .any e=true∧(e.on=j∨depOf ops e.on j=true):=fun i o j ho hj hd=>by
  have h1:=(get i o ho).2.1
  simp only [chkB,List.all_eq_true,List.mem_range] at h1
  have h1:=h1 j hj
  simp only [hd,Bool.not_true,Bool.false_or] at h1
  obtain ⟨e,he,hb⟩:=Array.any_eq_true'.1 h1
  simp only [Bool.and_eq_true,Bool.or_eq_true,beq_iff_eq] at hb
  exact ⟨e,he,hb.1,hb.2⟩
 have low:∀(i:Nat) (o:Oper) (d:Nat),ops[i]?=some o→o.dst=some d→d < 1000:=fun i o d ho hd=>by
  have h1:=(get i o ho).2.2.1
  unfold chkU at h1; rw [hd] at h1
  simp only [Bool.and_eq_true] at h1
  simpa using h1.1
 have hp:(∀(i:Nat) (o:Oper) (j:Nat) (o':Oper) (d:Nat),i < ops.size→j < ops.size→ops[i]?=some o→ops[j]?=some o'→o.dst=some d→o'.dst=some d→i=j) ∧
   ∀(i:Nat) (o:Oper) (t j:Nat) (o':Oper),i < ops.size→j < ops.size→ops[i]?=some o→t∈o.looksAt ops→ops[j]?=some o'→o'.dst=some t→depOf ops i j=true:=by
  refine ⟨fun i o j o' d hi hj ho ho' hd hd'=>?_,fun i o t j o' hi hj ho ht ho' hd'=>?_⟩
  ·have h1:=(get i o ho).2.2.1
   unfold chkU at h1
   rw [hd] at h1
   simp only [Bool.and_eq_true,List.all_eq_true,List.mem_range] at h1
   have:=h1.2 j hj
   rw [ho'] at this
   simpa [hd'] using this
  ·have h1:=(get i o ho).2.2.2
   simp only [chkLk,List.all_eq_true,List.mem_range] at h1
   have:=h1 t ht j hj
   rw [ho'] at this
   simpa [hd'] using this
 have hr:=rel_drew hr0
 refine wpIn_region_any hm ?_
 show wpAnyIn (fen C.ro) 0 P .any ops _ ops.size (Array.replicate ops.size false) a w.drew
 generalize w.drew=w at hr
 clear hr0
 obtain ⟨F,β,hs,hd,hf,he⟩:=hr
 have hfree:∀i o,i∈freeOf chain ops→ops[i]?=some o→o∈freeOps chain ops:=fun i o hi ho=>List.mem_filterMap.2 ⟨i,hi,ho⟩
 have hltdep:∀i j,i < ops.size→j < ops.size→depOf ops i j=true→j < i:=by
  intro i
  induction i using Nat.strongRecOn with
  | _ i ih =>
   intro j hi hj hdp
   obtain ⟨e,he1,hb,h2⟩:=step' i _ j (Array.getElem?_eq_getElem hi) hj hdp
   have hlt:=dec i _ (Array.getElem?_eq_getElem hi) e he1 hb
   rcases h2 with h2 | h2
   ·omega
   ·have:=ih e.on hlt j (by omega) hj h2; omega
 have hlin:Lin ops (freeOps chain ops):=by
  have key:∀l:List Nat,l.Pairwise (· < ·)→(∀i,i∈l→i∈freeOf chain ops)→Lin ops (l.filterMap fun i=>ops[i]?):=by
   intro l
   induction l with
   | nil=>intro _ _; exact True.intro
   | cons i l ih =>
    intro hpw hsub
    have hi:=hsub i (by simp)
    have his:=(mem_freeOf.1 hi).1
    have hio:ops[i]?=some ops[i]:=Array.getElem?_eq_getElem his
    rw [List.filterMap_cons,hio]
    have hpw':=List.pairwise_cons.1 hpw
    have hdst:∃d,ops[i].dst=some d:=by
     have:=hfd i hi
     rw [hio] at this
     exact Option.isSome_iff_exists.1 this
    obtain ⟨d,hdd⟩:=hdst
    have mem:∀o',o'∈l.filterMap (fun i=>ops[i]?)→∃j,i < j∧ops[j]?=some o':=fun o' ho'=>by
     obtain ⟨j,hj,hjo⟩:=List.mem_filterMap.1 ho'
     exact ⟨j,hpw'.1 j hj,hjo⟩
    refine ⟨⟨d,hdd,fun o' ho' hd'=>?_⟩,fun t ht o' ho' hd'=>?_,ih hpw'.2 fun j hj=>hsub j (List.mem_cons_of_mem _ hj)⟩
    ·obtain ⟨j,hij,hjo⟩:=mem o' ho'
     have:=hp.1 i _ j o' d his (lt hjo) hio hjo hdd hd'
     omega
    ·have:∃j,i≤j∧ops[j]?=some o':=by
      rcases List.mem_cons.1 ho' with rfl | h
      ·exact ⟨i,Nat.le_refl _,hio⟩
      ·obtain ⟨j,hij,hjo⟩:=mem o' h
       exact ⟨j,by omega,hjo⟩
     obtain ⟨j,hij,hjo⟩:=this
     have hdep:=hp.2 i _ t j o' his (lt hjo) hio ht hjo hd'
     have:=hltdep i j his (lt hjo) hdep
     omega
  exact key _ (List.Pairwise.filter _ List.pairwise_lt_range) fun i hi=>hi
 obtain ⟨fe,hfe,hW,hltn,hok⟩:=wpd_extract (freeOps chain ops) _ hlin h
 have key:∀fuel (listed:Array Bool) (a:Act) (w:World) (done rem:List (Nat×List Nat)) (f:Nat→AV) (H:Hp),listed.size=ops.size→listed.toList.count false≤fuel →
   (∀i o,listed.getD i false=true→ops[i]?=some o→∀e,e∈o.after→Region.binds .any e=true→listed.getD e.on false=true) →
   done++rem=chain→(∀c,c∈done→listed.getD c.1 false=true)→(∀c,c∈rem→listed.getD c.1 false=false)→chkC chain ops rem=true →
   Half0 C ops ops.size f H listed a w→(H.map (·.1)).Nodup→(∀i o,i∈freeOf chain ops→ops[i]?=some o→listed.getD i false=false→OpOk P T ops H f o) →
   chainW P T n ops rem ⟨f,H⟩ K →
   wpAnyIn (fen C.ro) 0 P .any ops (fun e a' w'=>∃st',Rel C st' a' w'∧(match e with | .normal=>K st' | _=>False)) fuel listed a w:=by
  intro fuel
  induction fuel with
  | zero =>
   intro listed a w done rem f H hsz hcnt hcl hdr hdone hrem hcc hhalf hkeys hoks hw
   have hall:∀i,i < ops.size→listed.getD i false=true:=fun i hi=>by
    have h0:listed.toList.count false=0:=by omega
    have hi':i < listed.size:=by omega
    have hmem:listed[i]∈listed.toList:=by simp
    cases hb:listed[i] with
    | true=>simp [hi',hb]
    | false=>rw [hb] at hmem; exact absurd hmem (List.count_eq_zero.1 h0)
   have hready:Region.ready .any ops listed=[]:=by
    apply List.eq_nil_iff_forall_not_mem.2
    intro i hi
    obtain ⟨h1,o,ho,_⟩:=mem_ready.1 hi
    have:=hall i (lt ho)
    have hi':i < listed.size:=by have:=lt ho; omega
    simp [hi'] at h1 this
    rw [h1] at this; cases this
   refine ⟨hready,?_⟩
   have hr0:rem=[]:=by
    cases rem with
    | nil=>rfl
    | cons c r =>
     simp only [chkC,Bool.and_eq_true] at hcc
     have hlt:c.1 < ops.size:=by simpa [Nat.blt_eq] using hcc.1
     have:=hrem c (by simp)
     rw [hall c.1 hlt] at this; cases this
   subst hr0
   obtain ⟨F1,β1,g1,g2,g3,g6⟩:=hhalf.ex
   exact ⟨⟨f,H⟩,⟨F1,β1,g1,g2,fun t=>g6 t fun i o hi _ _=>hall i hi,g3⟩,hw⟩
  | succ fuel ih =>
   intro listed a w done rem f H hsz hcnt hcl hdr hdone hrem hcc hhalf hkeys hoks hw
   have hclosed:∀i,i < ops.size→(∀o,ops[i]?=some o→∀e,e∈o.after→Region.binds .any e=true→listed.getD e.on false=true)→∀j,j < ops.size→depOf ops i j=true→listed.getD j false=true:=by
    intro i
    induction i using Nat.strongRecOn with
    | _ i ihi =>
     intro hi hdir j hj hdep
     obtain ⟨e,he1,hb1,h⟩:=step' i _ j (Array.getElem?_eq_getElem hi) hj hdep
     have hl:=hdir _ (Array.getElem?_eq_getElem hi) e he1 hb1
     have hlt':=dec i _ (Array.getElem?_eq_getElem hi) e he1 hb1
     rcases h with h | h
     ·rw [←h]; exact hl
     ·exact ihi e.on hlt' (by omega) (fun o ho=>hcl e.on o hl ho) j hj h
   have unl:∀{i o},i∈Region.ready .any ops listed→ops[i]?=some o→listed.getD i false=false∧∀e,e∈o.after→Region.binds .any e=true→listed.getD e.on false=true:=fun hi ho=>by
    obtain ⟨h1,o',ho',h2⟩:=mem_ready.1 hi
    rw [ho] at ho'; cases ho'
    have:=lt ho
    refine ⟨?_,h2⟩
    have hi':=lt ho
    rw [←hsz] at hi'
    simpa [hi'] using h1
   have isReady:∀{i o},ops[i]?=some o→listed.getD i false=false→(∀j,j < i→listed.getD j false=true)→i∈Region.ready .any ops listed:=fun ho h1 h2=>by
    refine mem_ready.2 ⟨?_,_,ho,fun e he hb=>h2 _ (dec _ _ ho e he hb)⟩
    have hi':=lt ho
    rw [←hsz] at hi'
    simpa [hi'] using h1
   have next:∀i,i < ops.size→listed.getD i false=false→(listed.setIfInBounds i true).size=ops.size∧(listed.setIfInBounds i true).toList.count false≤fuel:=fun i hi h1=>by
    refine ⟨by simpa using hsz,?_⟩
    have hi':i < listed.size:=by omega
    have h2:listed.toList[i]?=some false:=by
     have:listed[i]=false:=by simpa [hi'] using h1
     simp [hi',this]
    have:=count_set listed.toList i h2
    simp only [Array.toList_setIfInBounds]
    omega
   have closedNext:∀i o,ops[i]?=some o→(∀e,e∈o.after→Region.binds .any e=true→listed.getD e.on false=true) →
     ∀j o',(listed.setIfInBounds i true).getD j false=true→ops[j]?=some o'→∀e,e∈o'.after→Region.binds .any e=true→(listed.setIfInBounds i true).getD e.on false=true:=fun i o ho hdir j o' hj ho' e he1 hb1=>by
    have hi':i < listed.size:=by rw [hsz]; exact lt ho
    rw [set_get hi'] at hj ⊢
    split
    ·rfl
    ·split at hj
     ·rename_i e2
      subst e2
      rw [ho] at ho'; cases ho'
      exact hdir e he1 hb1
     ·exact hcl j o' hj ho' e he1 hb1
   by_cases hall:∀i,i < ops.size→listed.getD i false=true
   ·-- nothing is left
    have hready:Region.ready .any ops listed=[]:=by
     apply List.eq_nil_iff_forall_not_mem.2
     intro i hi
     obtain ⟨_,o,ho,_⟩:=mem_ready.1 hi
     obtain ⟨hun,_⟩:=unl hi ho
     rw [hall i (lt ho)] at hun; cases hun
    refine ⟨fun _=>?_,fun i hi=>by rw [hready] at hi; cases hi⟩
    have hr0:rem=[]:=by
     cases rem with
     | nil=>rfl
     | cons c r =>
      simp only [chkC,Bool.and_eq_true] at hcc
      have hlt:c.1 < ops.size:=by simpa [Nat.blt_eq] using hcc.1
      have:=hrem c (by simp)
      rw [hall c.1 hlt] at this; cases this
    subst hr0
    obtain ⟨F1,β1,g1,g2,g3,g6⟩:=hhalf.ex
    exact ⟨⟨f,H⟩,⟨F1,β1,g1,g2,fun t=>g6 t fun i o hi _ _=>hall i hi,g3⟩,hw⟩
   ·have least:∃i,i < ops.size∧listed.getD i false=false∧∀j,j < i→listed.getD j false=true:=by
     have:∃i,i < ops.size∧listed.getD i false=false:=by
      refine Classical.byContradiction fun hno=>hall fun i hi=>?_
      cases hb:listed.getD i false
      ·exact absurd ⟨i,hi,hb⟩ hno
      ·rfl
     obtain ⟨i,hi,hb⟩:=this
     induction i using Nat.strongRecOn with
     | _ i ihi =>
      by_cases hal:∀j,j < i→listed.getD j false=true
      ·exact ⟨i,hi,hb,hal⟩
      ·have:∃j,j < i∧listed.getD j false=false:=by
        refine Classical.byContradiction fun hno=>hal fun j hj=>?_
        cases hb:listed.getD j false
        ·exact absurd ⟨j,hj,hb⟩ hno
        ·rfl
       obtain ⟨j,hj,hbj⟩:=this
       exact ihi j hj (by omega) hbj
    obtain ⟨i0,hi0,hb0,hall0⟩:=least
    have hr0:=isReady (Array.getElem?_eq_getElem hi0) hb0 hall0
    refine ⟨fun h0=>(by rw [h0] at hr0; cases hr0),fun i hi=>?_⟩
    obtain ⟨_,o,ho,_⟩:=mem_ready.1 hi
    obtain ⟨hun,hdir⟩:=unl hi ho
    have hdep:∀j,j < ops.size→depOf ops i j=true→listed.getD j false=true:=hclosed i (lt ho) fun o' ho'=>by rw [ho] at ho'; cases ho'; exact hdir
    obtain ⟨hn1,hn2⟩:=next i (lt ho) hun
    have hi':i < listed.size:=by rw [hsz]; exact lt ho
    by_cases hfr:i∈freeOf chain ops
    ·-- one of the free ones
     have hnc:=(mem_freeOf.1 hfr).2
     refine half_steady0 hT hn hsz ho (fun t j o' hj ht ho' hd'=>hdep j hj (hp.2 i o t j o' (lt ho) hj ho ht ho' hd')) (hoks i o hfr ho hun) (hltn o (hfree i o hfr ho)) hhalf fun a2 w2 hh=>?_
     refine ih _ a2 w2 done rem f H hn1 hn2 (closedNext i o ho hdir) hdr (fun c hc=>?_) (fun c hc=>?_) hcc hh hkeys (fun j o' hj ho' hl=>?_) hw
     ·rw [set_get hi']; split
      ·rfl
      ·exact hdone c hc
     ·rw [set_get hi',if_neg]
      ·exact hrem c hc
      ·exact hnc c (by rw [←hdr]; exact List.mem_append_right _ hc)
     ·rw [set_get hi'] at hl
      split at hl
      ·cases hl
      ·exact hoks j o' hj ho' hl
    ·-- the next of the chain
     have hin:∃c,c∈chain∧c.1=i:=by
      refine Classical.byContradiction fun hno=>hfr (mem_freeOf.2 ⟨lt ho,fun c hc e=>hno ⟨c,hc,e⟩⟩)
     obtain ⟨c0,hc0,hci⟩:=hin
     have hinrem:c0∈rem:=by
      rw [←hdr] at hc0
      rcases List.mem_append.1 hc0 with h | h
      ·have:=hdone c0 h; rw [hci,hun] at this; cases this
      ·exact h
     cases rem with
     | nil=>cases hinrem
     | cons c r =>
      have hfirst:c.1=i:=by
       have chainlt:∀(l:List (Nat×List Nat)) (c:Nat×List Nat),chkC chain ops (c::l)=true→c0∈l→(∀x,x∈c::l→listed.getD x.1 false=false)→False:=by
        intro l
        induction l with
        | nil=>intro c _ h _; cases h
        | cons c' l ihl =>
         intro c hck hc0l hun'
         simp only [chkC,Bool.and_eq_true] at hck
         rcases List.mem_cons.1 hc0l with rfl | h
         ·have hcs:c.1 < ops.size:=by simpa [Nat.blt_eq] using hck.1
          have:=hdep c.1 hcs (by rw [←hci]; exact hck.2.2.2.1)
          rw [hun' c (by simp)] at this; cases this
         ·exact ihl c' (by simp only [chkC,Bool.and_eq_true]; exact hck.2.2.2.2) h fun x hx=>hun' x (List.mem_cons_of_mem _ hx)
       rcases List.mem_cons.1 hinrem with rfl | h
       ·exact hci
       ·exact (chainlt r c hcc h hrem).elim
      subst hfirst
      have hchainc:=hcc
      simp only [chkC,Bool.and_eq_true] at hcc
      obtain ⟨_,_,hlate,_,hccr⟩:=hcc
      simp only [chainW,ho] at hw
      obtain ⟨F1,β1,g1,g2,g3,g6⟩:=hhalf.ex
      have look:∀t,t∈o.looksAt ops→Rd w F1 β1 (f t) (a.tmps.getD t undef):=fun t ht=>g6 t fun j o' hj ho' hd'=>hdep j hj (hp.2 c.1 o t j o' (lt ho) hj ho ht ho' hd')
      have opnd:∀x,x∈o.op.operands→Rd w F1 β1 (ev f x) (a.eval x):=fun x hx=>by
       cases x with
       | tmp t=>exact look t (List.mem_append_left _ (List.mem_filterMap.2 ⟨.tmp t,by simpa using hx,rfl⟩))
       | const v=>exact ofV_rd _ _ _ _
       | global g=>exact .junk
       | func g=>exact .i (.c rfl rfl (fun i hi=>absurd hi (by simp)) (fun i hi=>absurd hi (by simp)))
      have go:∀(v:Value) (w':World),EPost w F1 β1 ⟨f,H⟩ (fun x st'=>put n o.dst st' x fun st''=>lateL P T ops st'' c.2∧chainW P T n ops r st'' K) v w' →
        wpAnyIn (fen C.ro) 0 P .any ops (fun e a' w'=>∃st',Rel C st' a' w'∧(match e with | .normal=>K st' | _=>False)) fuel (listed.setIfInBounds c.1 true) (a.put o.dst v) w':=by
       rintro v w' ⟨x,st',F2,β2,hput,hx,hext⟩
       rw [put_eq] at hput
       obtain ⟨f2,hf2,hq,hsl⟩:∃f2:Nat→AV,(lateL P T ops ⟨f2,st'.H⟩ c.2∧chainW P T n ops r ⟨f2,st'.H⟩ K)∧(∀t,o.dst≠some t→f2 t=st'.f t)∧∀t,o.dst=some t→f2 t=x∧t < n:=by
        cases hdst:o.dst with
        | none=>rw [hdst] at hput; exact ⟨st'.f,hput,fun _ _=>rfl,fun t h=>by cases h⟩
        | some d =>
         rw [hdst] at hput
         obtain ⟨hlt,hput⟩:=cond_prop hput
         refine ⟨upd st'.f d x,hput,fun t ht=>upd_ne fun e=>ht (by rw [e]),fun t ht=>?_⟩
         cases ht
         exact ⟨upd_at _ _ _,by simpa [Nat.blt_eq] using hlt⟩
       refine ih _ _ w' (done++[c]) r f2 st'.H hn1 hn2 (closedNext c.1 o ho hdir) (by rw [List.append_assoc]; exact hdr) (fun c' hc'=>?_) (fun c' hc'=>?_) hccr ⟨F2,β2,?_,?_,(by rw [put_defers]; exact g3.trans (hext.slots noSlots)),fun t ht=>?_⟩ hext.inv.keys (fun j o' hj ho' hl=>?_) hf2.2
       ·rw [set_get hi']
        split
        ·rfl
        ·rcases List.mem_append.1 hc' with h | h
         ·exact hdone c' h
         ·rename_i hne; rw [List.mem_singleton.1 h] at hne; exact absurd rfl hne
       ·rw [set_get hi',if_neg]
        ·exact hrem c' (List.mem_cons_of_mem _ hc')
        ·intro e
         have chainlt:∀(l:List (Nat×List Nat)) (b:Nat×List Nat),chkC chain ops (b::l)=true→∀y,y∈l→b.1 < y.1:=by
          intro l
          induction l with
          | nil=>intro b _ y h; cases h
          | cons c' l ihl =>
           intro b hck y hy
           simp only [chkC,Bool.and_eq_true] at hck
           have hb:b.1 < ops.size:=by simpa [Nat.blt_eq] using hck.1
           have hc'':c'.1 < ops.size:=by simpa [Nat.blt_eq] using hck.2.2.2.2.1
           have h1:=hltdep c'.1 b.1 hc'' hb hck.2.2.2.1
           rcases List.mem_cons.1 hy with rfl | hy
           ·exact h1
           ·have:=ihl c' (by simp only [chkC,Bool.and_eq_true]; exact hck.2.2.2.2) y hy; omega
         have:=chainlt r c hchainc c' hc'
         omega
       ·cases hdst:o.dst with
        | none=>exact g1
        | some d=>simpa [Act.put] using g1
       ·cases hdst:o.dst with
        | none=>exact g2
        | some d=>simpa [Act.put] using g2
       ·by_cases htd:o.dst=some t
        ·obtain ⟨e1,e2⟩:=hsl t htd
         rw [e1,htd]
         have:t < a.tmps.size:=by rw [g1,hn]; exact e2
         simpa [Act.put,this] using hx
        ·rw [hq t htd]
         have h1:=g6 t fun j o' hj ho' hd'=>by
          have:=ht j o' hj ho' hd'
          rw [set_get hi'] at this
          split at this
          ·rename_i e
           subst e
           rw [ho] at ho'; cases ho'
           exact absurd hd' htd
          ·exact this
         have h2:=hext.keep t _ h1
         cases hdst:o.dst with
         | none=>exact h2
         | some d =>
          have hne:d≠t:=fun e=>htd (by rw [hdst,e])
          simpa [Act.put,Array.getElem?_setIfInBounds_ne hne] using h2
       ·rw [set_get hi'] at hl
        split at hl
        ·cases hl
        ·have hjf:=mem_freeOf.1 hj
         have h3:=(List.all_eq_true.1 hlate) j hj
         simp only [Bool.or_eq_true] at h3
         rcases h3 with h3 | h3
         ·have:=hdep j hjf.1 h3
          rw [this] at hl; cases hl
         ·exact lateL_mem hf2.1 j o' (by simpa using h3) ho'
      have run:(step P T o ⟨f,H⟩ fun x st'=>put n o.dst st' x fun st''=>lateL P T ops st'' c.2∧chainW P T n ops r st'' K)→o.wpIn (fen C.ro) 0 P a w (wpAnyIn (fen C.ro) 0 P .any ops (fun e a' w'=>∃st',Rel C st' a' w'∧(match e with | .normal=>K st' | _=>False)) fuel (listed.setIfInBounds c.1 true)) (fun e a' w'=>∃st',Rel C st' a' w'∧(match e with | .normal=>K st' | _=>False)):=fun hw=>by
       have hnd:=step_nodefer hw
       rcases step_sound_at (st:=⟨f,H⟩) hT g3.inv opnd hw with ⟨v,w',hrun,hpost⟩ | ⟨w',hrun,hpost⟩ | ⟨g,vs,hrun,hc⟩ | ⟨l,fn,tmps,assign,body,hrun,hc⟩
       ·refine Oper.inW hnd hrun ?_
        rw [Oper.uponIn_value]
        exact go v w' hpost
       ·refine Oper.inW hnd hrun ?_
        rw [Oper.uponIn_skip]
        exact go undef w' hpost
       ·refine Oper.inW hnd hrun ?_
        rw [Oper.uponIn_enter]
        refine ⟨fun h=>(by cases h),callsIn_fen (hc.mono ?_)⟩
        rintro e w' ⟨v,rfl,hpost⟩
        exact go v w' hpost
       ·refine Oper.inW hnd hrun ?_
        rw [Oper.uponIn_round]
        refine ⟨fun h=>(by cases h),roundIn_fen (hc.mono ?_)⟩
        rintro e w' ⟨v,rfl,hpost⟩
        exact go v w' hpost
      have skip:(put n o.dst ⟨f,H⟩ (.v undef) fun st''=>lateL P T ops st'' c.2∧chainW P T n ops r st'' K)→wpAnyIn (fen C.ro) 0 P .any ops (fun e a' w'=>∃st',Rel C st' a' w'∧(match e with | .normal=>K st' | _=>False)) fuel (listed.setIfInBounds c.1 true) (a.put o.dst undef) w:=fun hw =>
       go undef w ⟨.v undef,⟨f,H⟩,F1,β1,hw,.i (.v (.inr rfl)),Ext.refl g3.inv⟩
      unfold wpOpIn
      simp only [ho]
      rw [gd_eq] at hw
      cases hg:o.guard with
      | none =>
       rw [hg] at hw
       have hwant:Region.wanted o (yielded ops a.tmps)=true:=by simp [Region.wanted,hg]
       rw [if_pos hwant]
       exact run hw
      | some jw =>
       obtain ⟨j,want⟩:=jw
       rw [hg] at hw
       simp only at hw
       split at hw
       ·rename_i d hdd
        obtain ⟨hltd,hw⟩:=cond_prop hw
        have hgl:d∈o.looksAt ops:=by
         refine List.mem_append_right _ ?_
         rw [hg]
         simp [hdd]
        have hfd:=look d hgl
        have hltd:d < a.tmps.size:=by rw [g1,hn]; simpa [Nat.blt_eq] using hltd
        have hy:∀v,a.tmps.getD d undef=v→yielded ops a.tmps j=match v with | .bool b=>some b | _=>none:=by
         intro v hv
         have h2:a.tmps[d]?=some v:=by
          rw [←hv]; simp [hltd]
         unfold yielded
         rw [hdd,Option.bind_some,h2]
         cases v <;> rfl
        split at hw
        ·rename_i b hb
         rw [hb] at hfd
         have hyb:=hy _ hfd.v_inv
         simp only at hyb
         by_cases hbw:b=want
         ·have hw1:Region.wanted o (yielded ops a.tmps)=true:=by simp [Region.wanted,hg,hyb,hbw]
          rw [if_pos hw1]
          have:=hw.y hbw
          rw [upd_id (by rw [hb,hbw])] at this
          exact run this
         ·have hbn:b=!want:=by cases b <;> cases want <;> first | rfl | exact absurd rfl hbw
          have hw1:¬Region.wanted o (yielded ops a.tmps)=true:=by simp [Region.wanted,hg,hyb,hbw]
          rw [if_neg hw1]
          have:=hw.n hbn
          rw [upd_id (by rw [hb,hbn])] at this
          exact ⟨fun _ _=>trivial,skip this⟩
        ·rename_i vs hb
         rw [hb] at hfd
         have hyb:=hy _ hfd.v_inv
         simp only at hyb
         have hw1:¬Region.wanted o (yielded ops a.tmps)=true:=by simp [Region.wanted,hg,hyb]
         rw [if_neg hw1]
         exact ⟨fun _ _=>trivial,skip hw⟩
        ·exact hw.elim
       ·exact hw.elim
 have rep:∀i,(Array.replicate ops.size false).getD i false=false:=fun i=>by
  simp only [Array.getD_eq_getD_getElem?,Array.getElem?_replicate]
  split <;> rfl
 refine key ops.size _ a w [] chain fe st.H (by simp) (by simp) (fun i o hi=>by rw [rep] at hi; cases hi) rfl (fun c hc=>by cases hc) (fun c _=>rep _) hchain ⟨F,β,hs,hd,he,fun t ht=>?_⟩ he.inv.keys (fun i o hi ho _=>hok o (hfree i o hi ho)) hW
 ·have hno:∀i o,i < ops.size→ops[i]?=some o→o.dst≠some t:=fun i o hi ho hd'=>by
   have:=ht i o hi ho hd'
   rw [rep] at this; cases this
  rw [hfe t fun o ho=>by
   obtain ⟨i,hi,ho'⟩:=List.mem_filterMap.1 ho
   exact hno i o (lt ho') ho']
  exact hf t
theorem Ok.chain {n id:Nat} {st:ASt} {Q:Exit→ASt→Prop} {chain:List (Nat×List Nat)} {ops:Array Oper} (hT:TOk P T) (hm:P.follows .mixedOrders=true) (hchk:chainChk chain ops=true)
  (h:wpd P T n ops (freeOps chain ops) st fun st1=>chainW P T n ops chain st1 (Q .normal)):Ok P n (.region id ops true) st Q :=
 ⟨fun C hn=>wpc_sound (C:=C) hT hn (.region id ops true) st Q (chain_draw hT hm hchk h)⟩
end
end Go.Cat
