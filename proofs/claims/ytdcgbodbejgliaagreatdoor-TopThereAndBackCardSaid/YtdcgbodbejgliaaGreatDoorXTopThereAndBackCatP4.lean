/- The logic that the walks are in, piece P4. No condition. -/
import Derived.Test.YtdcgbodbejgliaaGreatDoorXTopThereAndBackCatP3
import Derived.ProofKit
open Option renaming some->V
open Array renaming getElem?_eq_getElem->gK,getElem?_eq_some_iff->lB,getD_eq_getD_getElem?->lA,length_toList->lZ,getElem?_setIfInBounds_ne->wW,replicate->oj,toList_setIfInBounds->ZN,getElem?_replicate->ZL,getElem?_eq_none->ZJ,mem_map->alj
open Bool renaming and_eq_true->bR,or_eq_true->s6
open Classical renaming byContradiction->wY
open Go.Act renaming put->jg
open Go.Call renaming operands->qF
open Go.DataW renaming trod->Cx,TrodAll->KG,trod_step->Rt,trodStep->Rs
open Go.Deferred renaming ofValue->mw
open Go.Fence renaming wide->gu
open Go.Op renaming operands->te
open Go.OpenSpec renaming ofChange->aad
open Go.Oper renaming uponIn_value->xd,uponIn_enter->zU
open Go.Region renaming wanted->d_,binds->j4,ready->l9
open Go.Value renaming okWide->CI,pointer->R_
open Go.World renaming putObj_size->kz,cells?_some->Sb
open List renaming getElem?_eq_getElem->bD,mem_cons->bp,mem_cons_of_mem->cw,getD->bc,mem_singleton->cV,length_take->dq,mem_filter->dK,mem_map->cL,all_eq_true->eo,not_mem_nil->fu,getElem?_append->gV,replicate->ia,map_cons->fT,nodup_cons->iO,drop_eq_nil_of_le->kN,range->gM,mem_append_left->nC,mem_filterMap->my,mem_range->mz,drop_eq_getElem_cons->rO,append_nil->qH,take_append_drop->qL,nodup_nil->qK,eq_nil_iff_forall_not_mem->zQ,mem_append_right->uJ,map_congr_left->KO,mem_iff_getElem->CA,getElem_take->Gu,count_eq_zero->ZZ,drop_drop->ali
open Nat renaming eq_of_beq_eq_true->cT,le_refl->bm,beq->aM,add_mul->bM,lt_or_ge->fa,blt->eS,blt_eq->gW,zero_add->j3,beq_refl->jv,lt_of_lt_of_le->ou,not_lt->mJ,strongRecOn->s9
open Ne renaming symm->lG
open Option renaming bind_some->aS,map_eq_some_iff->CE,bind_eq_some_iff->aaf
open Prod.mk renaming injEq->iF
namespace Go.Cat
set_option linter.all false
section
open Go.RowKit
variable[M:cD][G:ed]
class rR where
 md:List Nat
class nE where
 ch:List (Nat×Chunk)
def ee[MD:rR](o:Oper):Option (Nat×Option Nat):=
 match o.op,o.dst,o.guard with
 |.alloc t,V d,none=>V (d,V t)
 |.call _,V d,none=>bif MD.md.elem d then V (d,none)else none
 |_,_,_=>none
def yE[MD:rR](o:Oper):Bool:=
 match ee o with
 |some (_,V _)=>true
 |_=>false
def vX(d:Nat):Chunk->AV
 |.box _=>.b d 0
 |.own ..=>.o d
 |.mp ..=>.m d
 |.lp ..=>.Δ
 |.si ..=>.b d 0
def vY:List (Nat×Chunk)->Nat->Option Chunk
 |[],_=>none
 |(i,c)::r,d=>bif aM d i then V c else vY r d
def jM:List (Nat×Option Nat)->ak->ak
 |[],st=>st
 |(d,_)::r,st=>jM r ⟨λt=>er 2 d (st.f t),iq d st.H⟩
def wi[CH:nE](d:Nat):Bool:=match vY CH.ch d with|some (.own ..)=>true|_=>false
def preB[CH:nE]:List (Nat×Option Nat)->(Nat->AV)->Nat->AV
 |[],f=>f
 |(d,none)::r,f=>preB r (bif wi d then ej f d (.o d)else f)
 |(_,V _)::r,f=>preB r f
def ED[CH:nE]{t:Nat}:∀{l:List (Nat×Option Nat)}{f:Nat->AV},(∀x,(t,x)∉l)->preB l f t=f t
 |[],f,_=>rfl
 |(d,none)::r,f,h=>by
  have aI:t≠d:=λe=>h none (by rw[e];exact List.mem_cons_self ..);unfold preB;rw[ED λx hx=>h x (cw _ hx)]
  have hb:aM t d=false:=by
   cases h':aM t d with
   |false=>rfl
   |true=>exact absurd (cT h') aI
  cases wi d with
  |true=>show(bif aM t d then _ else _)=_;rw[hb];rfl
  |false=>rfl
 |(d,V y)::r,f,h=>by
  unfold preB;exact ED λx hx=>h x (cw _ hx)
def I2[CH:nE]{t:Nat}(hp:wi t=true):∀{l:List (Nat×Option Nat)}{f:Nat->AV},(l.map (·.1)).Nodup->(t,none)∈l->preB l f t=.o t
 |(d,none)::r,f,hn,hm=>by
  rw[fT,iO]at hn;unfold preB;by_cases e:t=d
  .subst e;rw[hp,ED λx hx=>hn.1 (cL.2 ⟨(t,x),hx,rfl⟩)];show(bif aM t t then _ else _)=_;rw[jv];rfl
  .exact I2 hp hn.2 ((bp.1 hm).resolve_left λh=>e (by cases h;rfl))
 |(d,V y)::r,f,hn,hm=>by
  rw[fT,iO]at hn;unfold preB;exact I2 hp hn.2 ((bp.1 hm).resolve_left λh=>by cases h)
def qQ[CH:nE](T:TT)(n:Nat):List (Nat×Option Nat)->ak->(ak->Prop)->Prop
 |[],st,K=>K st
 |(d,V t)::r,st,K=>match T t with
  |some i=>bif jH (bZ i.zero)&&eS d n then qQ T n r ⟨ej st.f d (.b d 0),(d,.box (bx (bZ i.zero)))::st.H⟩ K else False
  |none=>False
 |(d,none)::r,st,K=>match vY CH.ch d with
  |some c=>bif eS d n then qQ T n r ⟨ej st.f d (vX d c),(d,c)::st.H⟩ K else False
  |none=>False
def lH[CH:nE](T:TT)(d:Nat)(x:Option Nat)(c:Chunk):Prop:=
 match x with
 |some t=>∃z,T t=V z/\jH (bZ z.zero)=true/\c=.box (bx (bZ z.zero))
 |none=>vY CH.ch d=V c
def lH.uniq[CH:nE]{T:TT}{d:Nat}{x:Option Nat}{c c':Chunk}(h:lH T d x c)(h':lH T d x c'):c=c':=by
 cases x with
 |some t =>
  obtain⟨z,h1,_,rfl⟩:=h;obtain⟨z',nJ,_,rfl⟩:=h';rw[h1]at nJ;cases nJ;rfl
 |none =>
  unfold lH at h h';simp only at h h';rw[h]at h';exact Option.some.inj h'
def K_(P:Program)(g:FuncId)(args:List AV)(c:Chunk):Prop:=
 qb P g/\∀(w:World)(F:Nat->Prop)(β:Nat->Value)(vs:Array Value),Inv w F β []->vs.size=args.length->(∀i,i<args.length->Rd w F β (args.getD i .Δ) (vs.getD i undef)) ->
  Calls P g vs w λe w'=>∃v,e=.returned v/\Below w.heap.size w w'/\∃F',(∀b,F b->F' b)/\(∀b,F' b->fK F w w' b)/\(∀ay i,ay i=v->c.holds w' F' ay i/\Rd w' F' ay (vX i c) v) /\
   ∀b,bP v=V b->w.heap.size<=b/\¬F' b
def GK(P:Program)(f:Nat->AV)(o:Oper)(c:Chunk):Prop:=
 match o.op with
 |.call q=>match q.callee with
  |.value x=>match ev f x with
   |.c (.func g) fs cs=>∃ys,K_ P g ys c/\jh (fs++(q.args.toList.map (ev f)++cs)) ys
   |_=>False
  |_=>False
 |_=>False
def sJ[MD:rR][CH:nE](P:Program)(f:Nat->AV):List Oper->Prop
 |[]=>True
 |o::r=>match ee o with
  |some (d,none)=>(match vY CH.ch d with
   |some c=>GK P f o c
   |none=>False)/\sJ P f r
  |_=>sJ P f r
def IB[MD:rR][CH:nE]{P:Program}{f:Nat->AV}{o:Oper}{d:Nat}:∀{l:List Oper},sJ P f l->o∈l->ee o=V (d,none)->∃c,vY CH.ch d=V c/\GK P f o c
 |[],_,h,_=>by cases h
 |p::r,hl,h,ha=>by
  rcases bp.1 h with rfl|h
  .simp only[sJ,ha]at hl;have h1:=hl.1;split at h1
   .rename_i c hc;exact⟨c,hc,h1⟩
   .exact h1.elim
  .simp only[sJ]at hl;split at hl
   .exact IB hl.2 h ha
   .exact IB hl h ha
def PC(T:TT)(t t':Nat)(s x:AV)(H:Hp)(k:AV->Prop):Prop:=
 match T t with
 |some i=>match i.kind with
  |.slice e=>match T e with
   |some j =>
    bif aM j.bytes 0||(aM j.cells 0||!(aM j.zero.cells.size j.cells))then False else
    bif (match s with|.v (.slice none 0 0)=>true|.z=>true|_=>false)then
     CN T t t' e x 5000 H λbQ=>pj bQ j.cells/\bQ.length*j.bytes<=140737488355328/\∃R,bQ=R/\k (.s R)
    else False
   |none=>False
  |_=>False
 |none=>False
def og(P:Program)(T:TT)(o:Oper)(ρ:Operand->AV)(H:Hp)(k:AV->Prop):Prop:=
 match o.op with
 |.buildSlice t n parts=>match n with
  |0=>zn T t 0 (parts.toList.map λq=>(q.1,ρ q.2)) λ_ _ _=>k .z
  |n+1=>zn T t (n+1) (parts.toList.map λq=>(q.1,ρ q.2)) λrows _ _=>bif rows.all (λr=>r.all fx)then k (.s (rows.map λr=>r.map nz))else False
 |.call c=>match c.callee with
  |.builtin .append=>match c.argTypes.toList,c.args.toList.map ρ with
   |[t,t'],[s,x]=>PC T t t' s x H k
   |_,_=>False
  |_=>nr P T o ρ H k
 |_=>nr P T o ρ H k
def rI(P:Program)(T:TT)(n:Nat)(all:Array Oper):List Oper->ak->(ak->Prop)->Prop
 |[],st,K=>K st
 |o::os,st,K=>gd n all o st (λst=>∃r,og P T o (ev st.f) st.H (λr'=>r'=r)/\put n o.dst st r λax=>rI P T n all os ax K) λst=>put n o.dst st (.v undef) λax=>rI P T n all os ax K
section
variable{P:Program}{T:TT}{w:World}{F:Nat->Prop}{β ay:Nat->Value}{H:Hp}
def YA{o:Oper}{ρ pY:Operand->AV}{k:AV->Prop}(h:∀x,x∈o.op.operands->ρ x=pY x)(hs:nr P T o ρ H k):nr P T o pY H k:=by
 obtain⟨dst,op,type,pos,after,guard⟩:=o;have parts:∀ps:Array (Nat×Operand),(∀x,x∈ps.map (·.2)->ρ x=pY x)->(ps.toList.map λq=>(q.1,ρ q.2))=ps.toList.map λq=>(q.1,pY q.2):=λps hp =>
  KO λq hq=>by rw[hp q.2 (alj.2 ⟨q,by simpa using hq,rfl⟩)]
 have El:∀xs:Array Operand,(∀x,x∈xs->ρ x=pY x)->xs.toList.map ρ=xs.toList.map pY:=λxs hp=>KO λx hx=>hp x (by simpa using hx);cases op<;>simp only[te]at h<;>simp only[nr]at hs ⊢
 case build t ps=>rwa [<-parts ps λx hx=>h x (by simpa using hx)]
 case buildSlice t n ps=>rwa [<-parts ps λx hx=>h x (by simpa using hx)]
 case makeFunc fn fs cs=>rwa [<-El fs λx hx=>h x (by simp[hx]),<-El cs λx hx=>h x (by simp[hx])]
 case slice t x lo hi mx=>cases lo<;>cases hi<;>cases mx<;>simp_all
 case call c =>
  obtain⟨callee,args,argTypes⟩:=c;have ha:=El args λx hx=>h x (by simp[qF,hx]);cases callee with
  |builtin b=>simp only at hs ⊢;rwa [<-ha]
  |value f=>simp only at hs ⊢;rwa [<-ha,<-h f (by simp[qF])]
  |invoke r m=>exact hs
 all_goals first|exact hs|(simp_all;done)
def Yx{o:Oper}{ρ pY:Operand->AV}{k:AV->Prop}(h:∀x,x∈o.op.operands->ρ x=pY x)(hs:og P T o ρ H k):og P T o pY H k:=by
 obtain⟨dst,op,type,pos,after,guard⟩:=o;have parts:∀ps:Array (Nat×Operand),(∀x,x∈ps.map (·.2)->ρ x=pY x)->(ps.toList.map λq=>(q.1,ρ q.2))=ps.toList.map λq=>(q.1,pY q.2):=λps hp =>
  KO λq hq=>by rw[hp q.2 (alj.2 ⟨q,by simpa using hq,rfl⟩)]
 have El:∀xs:Array Operand,(∀x,x∈xs->ρ x=pY x)->xs.toList.map ρ=xs.toList.map pY:=λxs hp=>KO λx hx=>hp x (by simpa using hx);cases op
 case buildSlice t n ps =>
  cases n with
  |zero=>simp only[og]at hs ⊢;rwa [<-parts ps λx hx=>h x (by simpa [te]using hx)]
  |succ n=>simp only[og]at hs ⊢;rwa [<-parts ps λx hx=>h x (by simpa [te]using hx)]
 case call c =>
  obtain⟨callee,args,argTypes⟩:=c;have ha:=El args λx hx=>h x (by simp[te,qF,hx]);have old:=YA (P:=P) (T:=T) (k:=k) (H:=H) (o:=⟨dst,.call ⟨callee,args,argTypes⟩,type,pos,after,guard⟩) h;cases callee with
  |builtin b=>cases b<;>first|exact old hs|(simp only[og]at hs ⊢;rwa [<-ha])
  |value f=>exact old hs
  |invoke r m=>exact old hs
 all_goals exact YA (P:=P) (T:=T) (H:=H) (k:=k) h hs
def agx{t t':Nat}{s x:AV}{vs vx:Value}{k:AV->Prop}(hT:bL P T)(hI:Inv w F β H)(hs:Rd w F β s vs)(hx:Rd w F β x vx)(h:PC T t t' s x H k)(ty:TypeId):
  cj P (Builtin.append_ #[t,t'] ty #[vs,vx]) w F β k:=by
 unfold PC at h;split at h
 .rename_i i hi;split at h
  .rename_i e he;split at h
   .rename_i j hj;cases hb:(aM j.bytes 0||(aM j.cells 0||!(aM j.zero.cells.size j.cells)))with
    |true=>rw[hb]at h;cases h
    |false =>
     rw[hb]at h;simp only[Bool.or_eq_false_iff,Bool.not_eq_false']at hb
     have eu:j.bytes≠0:=λe=>by have:=hb.1;rw[e]at this;cases this
     have hz:j.zero.cells.size=j.cells:=cT hb.2.2;simp only[cond_false]at h;obtain⟨bd,h⟩:=cond_prop h
     obtain⟨a,rfl⟩:∃a,vs=.slice a 0 0:=by
      split at bd
      .exact⟨none,hs.bK⟩
      .exact hs.zK
      .cases bd
     obtain⟨rows,⟨hlen,kY,R,rfl,hk⟩,news,iY,fE⟩:=Lg (st:=⟨aR,H⟩) (kk:=λbQ=>pj bQ j.cells/\bQ.length*j.bytes<=140737488355328/\∃R,bQ=R/\k (.s R)) hT hI hi he hj hx h λrows hr=>hr.1;have AA:Inv w F (λi=>if i=0 then .slice a 0 0 else β i) [(0,.own e j.cells [])]:=
      ⟨hI.cH,λi c hm=>by simp only[cV,iF]at hm;obtain⟨rfl,rfl⟩:=hm;exact .inl ⟨rfl,a,if_pos rfl⟩,by simp,
       λb ⟨i,c,hm,hb⟩=>by simp only[cV,iF]at hm;obtain⟨rfl,rfl⟩:=hm;simp only[if_true]at hb;cases a<;>simp[bP]at hb,
       λi c i' c' b h h' _ _=>by simp only[cV,iF]at h h';rw[h.1,h'.1],hI.fC⟩
     obtain⟨v',w',hr,r,ax,F',ay,⟨rfl,rfl⟩,hv,hx⟩:=Lh (st:=⟨aR,[(0,.own e j.cells [])]⟩) (L:=0) (rows:=[]) (bQ:=rows) (v:=.slice a 0 0) (k:=λr ax=>r=.o 0/\ax=ij ⟨aR,[(0,.own e j.cells [])]⟩ 0 (.own e j.cells rows)) (ty:=ty)
      (by decide) hT AA hi he hj eu hz (.inr ⟨by simp,if_pos rfl⟩) ⟨news,iY,fE⟩ hlen (by simpa using kY) ⟨rfl,by simp⟩
     have bu:∀b,¬bH (λi=>if i=0 then Value.slice a 0 0 else β i) [(0,.own e j.cells [])] b:=λb ⟨i,c,hm,hb⟩=>by
      simp only[cV,iF]at hm;obtain⟨rfl,rfl⟩:=hm;simp only[if_true]at hb;cases a<;>simp[bP]at hb
     have lS:(0,Chunk.own e j.cells rows)∈(ij ⟨aR,[(0,.own e j.cells [])]⟩ 0 (.own e j.cells rows)).H:=by simp[ij]
     refine⟨v',w',.s rows,hr,⟨hx.os,hx.tape,hx.output,hx.size,λb hb=>hx.block b hb (bu b)⟩,hk,.i ?_⟩;refine(Mb hx.inv lS hv).frame (λ_ _=>rfl) λb hb=>?_
     rcases hb with hb|hb
     .rcases hx.new b hb with h1|h1|h1
      .exact .inl h1
      .exact .inr ⟨h1,hx.inv.cH b hb⟩
      .exact absurd h1 (bu b)
     .have ho:bH ay (ij ⟨aR,[(0,.own e j.cells [])]⟩ 0 (.own e j.cells rows)).H b:=⟨0,_,lS,hb⟩
      rcases hx.owned b ho with h1|h1
      .exact .inr ⟨h1,hx.inv.gg ho⟩
      .exact absurd h1 (bu b)
   .cases h
  .cases h
 .cases h
def Yz{o:Oper}{ρ:Operand->AV}{a:Act}{k:AV->Prop}(hT:bL P T)(hI:Inv w F β H)(bI:∀x,x∈o.op.operands->Rd w F β (ρ x) (a.eval x))
  (h:og P T o ρ H k):tn P (execOp a.eval o) w λv w'=>∃r,k r/\Rd w' (fK F w w') β r v:=by
 obtain⟨dst,op,type,pos,after,guard⟩:=o;cases op
 case buildSlice t n parts =>
  cases n with
  |succ n=>exact Kf (o:=⟨dst,.buildSlice t (n+1) parts,type,pos,after,guard⟩) hT hI bI h
  |zero =>
   simp only[og]at h;simp only[te]at bI;simp only[execOp];obtain⟨rows,e,size,us,hk,_,hs,nT,lV,fG,bd,bf,hlen⟩:=PA (P:=P) (w:=w) (F:=F) (β:=β) hT (IZ ρ a.eval parts) (I1 λx hx=>bI x (by simpa using hx)) h;exact(show cj P (Instr.buildSlice t 0 (parts.map λx=>(x.1,a.eval x.2))) w F β k from⟨_,_,_,bf,uV w (.cells us e),hk,.i .z⟩).out
 case call c =>
  obtain⟨callee,args,argTypes⟩:=c;have old:=Kf (P:=P) (T:=T) (w:=w) (F:=F) (β:=β) (H:=H) (k:=k) (o:=⟨dst,.call ⟨callee,args,argTypes⟩,type,pos,after,guard⟩) (ρ:=ρ) (a:=a) hT hI bI;cases callee with
  |value f=>exact old h
  |invoke r m=>exact old h
  |builtin b =>
   cases b
   case append =>
    simp only[og]at h;simp only[execOp]
    have mW:∀i,i<(args.toList.map ρ).length->Rd w F β ((args.toList.map ρ).getD i .Δ) ((args.map a.eval).getD i undef):=λi hi=>by
     simp at hi;have:=bI args[i] (by simp[te,qF]);simpa [bc,hi]using this
    split at h
    .rename_i t t' s x e1 e2
     have C3:argTypes=#[t,t']:=by rw[<-Array.toArray_toList (xs:=argTypes),e1]
     have hl:args.size=2:=by have:=congrArg List.length e2;simpa using this
     rw[e2]at mW;have h0:=mW 0 (by simp);have h1:=mW 1 (by simp)
     have ea:args.map a.eval=#[(args.map a.eval).getD 0 undef,(args.map a.eval).getD 1 undef]:=by
      apply Array.ext
      .simp[hl]
      .intro i h1 h2
       have:i=0\/i=1:=by simp at h2;omega
       rcases this with rfl|rfl<;>simp[hl]
     have e:(do let d <-resolve a.eval { callee:=.builtin .append,args:=args,argTypes:=argTypes } type;invoke d.target d.args:Sem Next)=builtin .append argTypes type (args.map λ|.const _=>true|_=>false) (args.map a.eval):=rfl;rw[e,ea,C3];exact(agx (ty:=type) hT hI (by simpa using h0) (by simpa using h1) h).out
    .cases h
   all_goals exact old h
 all_goals exact Kf (P:=P) (T:=T) (H:=H) (k:=k) hT hI bI h
def Rd.Co{d:Nat}(hd:β d=undef)(an:∀i,i≠d->ay i=β i){x:AV}{u:Value}(h:Rd w F β x u):Rd w F ay x u:=by
 have ne:∀{i:Nat}{v:Value},β i=v->v≠undef->i≠d:=λh hv e=>hv (by rw[<-h,e,hd]);induction h with
 |i h=>exact .i h
 |Δ=>exact .Δ
 |b h=>exact .b ((an _ (ne h (by simp[undef]))).trans h)
 |o h=>exact .o ((an _ (ne h (by simp[undef]))).trans h)
 |e h=>exact .e ((an _ (ne h (by simp[undef]))).trans h)
 |w h hd ha=>exact .w ((an _ (ne h (by simp[undef]))).trans h) hd ha
 |m h=>exact .m ((an _ (ne h (by simp[undef]))).trans h)
 |a hs fo h ih=>exact .a hs fo ih
 |t hs h ih=>exact .t hs ih
 |c hs dG h h' ih Ec=>exact .c hs dG ih Ec
def UW{d i:Nat}{c:Chunk}(hd:β d=undef)(an:∀i,i≠d->ay i=β i)(hi:i≠d)(h:c.holds w F β i):c.holds w F ay i:=by
 cases c with
 |box cells =>
  obtain⟨b,cs,e,hb,hh,hs,h1,hr⟩:=h;exact⟨b,cs,e,(an i hi).trans hb,hh,hs,h1,λj hj=>(hr j hj).Co hd an⟩
 |own E k rows =>
  unfold Chunk.holds at *;rw[an i hi];exact h
 |mp ag rows =>
  unfold Chunk.holds at *;rw[an i hi];exact h
 |si s pos =>
  unfold Chunk.holds at *;rw[an i hi];exact h
 |lp l e R L =>
  obtain⟨fn,tmps,D,hb,hh,hn,hr⟩:=h;exact⟨fn,tmps,D,(an i hi).trans hb,hh,hn,λp hp=>(hr p hp).Co hd an⟩
def Inv.sub{H':Hp}(h:Inv w F β H)(ui:∀x,x∈H'->x∈H)(hk:(H'.map (·.1)).Nodup):Inv w F β H':=
 ⟨h.cH,λid c hm=>h.holds id c (ui _ hm),hk,λb ⟨id,c,hm,hb⟩=>h.apart b ⟨id,c,ui _ hm,hb⟩,λid c Eb c' b h1 h2=>h.eD id c Eb c' b (ui _ h1) (ui _ h2),h.fC⟩
def Ext.Ah{w0:World}{F0:Nat->Prop}{oZ:Nat->Value}{oY:ak}{H':Hp}(h:Ext w0 F0 oZ oY w F β ⟨aR,H⟩)(bn:∀x,x∈H'↔x∈H)(hk:(H'.map (·.1)).Nodup):Ext w0 F0 oZ oY w F β ⟨aR,H'⟩ where
 os:=h.os
 tape:=h.tape
 output:=h.output
 size:=h.size
 block:=h.block
 mono:=h.mono
 new:=h.new
 owned:=λb ⟨id,c,hm,hb⟩=>h.owned b ⟨id,c,(bn _).1 hm,hb⟩
 keep:=λ_ _ _=>.Δ
 inv:=h.inv.sub (λx hx=>(bn x).1 hx) hk
 gC:=h.gC
def ab7{d:Nat}{cells:List AV}{us:Array Value}{e:TypeId}{f:Nat->AV}(pJ:d<1000)(hI:Inv w F β H)(hd:β d=undef)(mi:∀c,(d,c)∉H)(hs:us.size=cells.length)(h1:∀i,i<cells.length->(us.getD i undef).oneCell'=true)
  (hr:∀β,∀i,i<cells.length->Rd (w.alloc (.cells us e)) F β (cells.getD i .Δ) (us.getD i undef)) :
  Ext w F β ⟨f,H⟩ (w.alloc (.cells us e)) F (λi=>if i=d then .pointer (V ⟨w.heap.size,0,none⟩)else β i) ⟨f,(d,.box cells)::H⟩:=by
 have an:∀i,i≠d->(λi=>if i=d then R_ (V ⟨w.heap.size,0,none⟩)else β i) i=β i:=λi hi=>if_neg hi;have aY:∀b,b<w.heap.size->(w.alloc (.cells us e)).heap[b]?=w.heap[b]?:=λb hb=>_root_.Go.heap_alloc_old w _ hb;have ha:gn F w (w.alloc (.cells us e)):=λb hb=>aY b (hI.cH b hb);have aI:∀{i c},(i,c)∈H->i≠d:=λhm e=>mi _ (e▸hm)
 have dB:∀b,bH (λi=>if i=d then R_ (V ⟨w.heap.size,0,none⟩)else β i) ((d,.box cells)::H) b->b=w.heap.size\/bH β H b:=by
  rintro b ⟨i,c,hm,hb⟩
  rcases bp.1 hm with hm|hm
  .cases hm;simp[bP]at hb;exact .inl hb.symm
  .simp only[if_neg (aI hm)]at hb;exact .inr ⟨i,c,hm,hb⟩
 refine⟨rfl,⟨rfl,λ_=>(by first|exact bm _|exact Nat.le_succ _)⟩,rfl,by simp,λb hb _=>aY b hb,λ_ h=>h,λ_ h=>.inl h,λb hb=>(dB b hb).elim (λh=>.inl (by omega)) .inr,λt u h=>(h.frame ha λ_ h=>h).Co hd an,?_,λi hi=>an i (by omega)⟩;refine⟨λb hb=>by have:=hI.cH b hb;simp;omega,λi c hm=>?_,?_,λb ho hF=>?_,?_,hI.fC.at ha⟩
 .rcases bp.1 hm with hm|hm
  .cases hm;exact⟨w.heap.size,us,e,by simp,heap_alloc_new w _,hs,h1,hr _⟩
  .exact UW hd an (aI hm) (pM ha (λ_ h=>h) (λb hb=>aY b (hI.gg ⟨i,c,hm,hb⟩)) (hI.holds i c hm))
 .simp only[fT,iO];refine⟨λhm=>?_,hI.keys⟩;obtain⟨x,hx,jU⟩:=cL.1 hm;exact mi x.2 (by rw[<-jU];exact hx)
 .rcases dB b ho with rfl|h
  .have:=hI.cH _ hF;omega
  .exact hI.apart b h hF
 .intro i c i' c' b hm bN hb aN
  rcases bp.1 hm with hm|hm<;>rcases bp.1 bN with bN|bN
  .cases hm;cases bN;rfl
  .cases hm;simp[bP]at hb;simp only[if_neg (aI bN)]at aN;have:=hI.gg ⟨i',c',bN,aN⟩;omega
  .cases bN;simp[bP]at aN;simp only[if_neg (aI hm)]at hb;have:=hI.gg ⟨i,c,hm,hb⟩;omega
  .simp only[if_neg (aI hm)]at hb;simp only[if_neg (aI bN)]at aN;exact hI.eD i c i' c' b hm bN hb aN
def uS(P:Program)(T:TT)(all:Array Oper)(H:Hp)(fe:Nat->AV)(o:Oper):Prop:=
 ∃d,o.dst=V d/\match o.guard with
 |none=>og P T o (ev fe) H λr=>r=fe d
 |some (j,want)=>∃g,(all[j]?).bind (·.dst)=V g /\
   ((fe g=.v (.bool want)/\og P T o (ev fe) H λr=>r=fe d)\/(fe g=.v (.bool (!want))/\fe d=.v undef)\/((∃vs,fe g=.v (.tuple vs))/\fe d=.v undef))
def xj(all:Array Oper):List Oper->Prop
 |[]=>True
 |o::r=>(∃d,o.dst=V d/\∀o',o'∈r->o'.dst≠V d)/\(∀t,t∈o.looksAt all->∀o',o'∈o::r->o'.dst≠V t)/\xj all r
def Kq{f:Nat->AV}{d:Nat}{x:AV}(h:f d=x):ej f d x=f:=by
 funext t;unfold ej;cases hb:aM t d with
 |true=>rw[cT hb,cond_true,h]
 |false=>rfl
def QM(f:Nat->AV)(d:Nat)(x:AV):ej f d x d=x:=by simp[ej]
def QO{f:Nat->AV}{d t:Nat}{x:AV}(h:t≠d):ej f d x t=f t:=by
 unfold ej;cases hb:aM t d with
 |true=>exact absurd (cT hb) h
 |false=>rfl
def Rh{n:Nat}{all:Array Oper}{K:ak->Prop}:∀(l:List Oper)(st:ak),xj all l->rI P T n all l st K ->
  ∃fe,(∀t,(∀o,o∈l->o.dst≠V t)->fe t=st.f t)/\K ⟨fe,st.H⟩/\(∀o,o∈l->∀d,o.dst=V d->d<n)/\∀o,o∈l->uS P T all st.H fe o:=by
 intro l;induction l with
 |nil=>intro st _ h;exact⟨st.f,λ_ _=>rfl,h,λo ho=>(fu ho).elim,λo ho=>(fu ho).elim⟩
 |cons o r ih =>
  intro st yk h;obtain⟨⟨d,hd,qk⟩,ade,adb⟩:=yk;have on:∀x,put n o.dst st x (λax=>rI P T n all r ax K)->∃fe,(∀t,(∀o',o'∈o::r->o'.dst≠V t)->fe t=st.f t)/\K ⟨fe,st.H⟩/\(∀o',o'∈o::r->∀d,o'.dst=V d->d<n)/\(∀o',o'∈r->uS P T all st.H fe o')/\fe d=x /\
    ∀t,t∈o.looksAt all->fe t=st.f t:=by
   intro x hx;rw[hd,put_eq]at hx;obtain⟨Ξ,hx⟩:=cond_prop hx
   have Ξ:d<n:=by simpa [gW]using Ξ
   obtain⟨fe,h1,h2,h3,h4⟩:=ih ⟨ej st.f d x,st.H⟩ adb hx
   have gz:fe d=x:=by rw[h1 d qk];exact QM _ _ _
   have sF:∀t,(∀o',o'∈o::r->o'.dst≠V t)->fe t=st.f t:=λt ht=>by
    rw[h1 t λo' aF=>ht o' (cw _ aF)];exact QO λe=>ht o (by simp) (by rw[hd,e])
   refine⟨fe,sF,h2,λo' aF d' bF=>?_,h4,gz,λt ht=>sF t (ade t ht)⟩
   rcases bp.1 aF with rfl|aF
   .rw[hd]at bF;cases bF;exact Ξ
   .exact h3 o' aF d' bF
  have ops:∀{fe:Nat->AV},(∀t,t∈o.looksAt all->fe t=st.f t)->∀x,x∈o.op.operands->ev st.f x=ev fe x:=λlQ x hx=>by
   cases x with
   |tmp t =>
    refine(lQ t ?_).symm;exact nC _ (my.2 ⟨.tmp t,by simpa using hx,rfl⟩)
   |_=>rfl
  unfold rI at h;rw[sa]at h;cases hg:o.guard with
  |none =>
   rw[hg]at h;obtain⟨x,hs,hp⟩:=h;obtain⟨fe,h1,h2,h3,h4,h5,h6⟩:=on x hp;refine⟨fe,h1,h2,h3,λo' aF=>?_⟩
   rcases bp.1 aF with rfl|aF
   .refine⟨d,hd,?_⟩;rw[hg,h5];exact Yx (ops h6) hs
   .exact h4 o' aF
  |some jw =>
   obtain⟨j,want⟩:=jw;rw[hg]at h;simp only at h;split at h
   .rename_i g ew;obtain⟨_,h⟩:=cond_prop h
    have tY:g∈o.looksAt all:=by
     refine uJ _ ?_;rw[hg];simp[ew]
    split at h
    .rename_i b hb;by_cases jN:b=want
     .have:=h.y jN;rw[Kq (by rw[hb,jN])]at this;obtain⟨x,hs,hp⟩:=this;obtain⟨fe,h1,h2,h3,h4,h5,h6⟩:=on x hp;refine⟨fe,h1,h2,h3,λo' aF=>?_⟩
      rcases bp.1 aF with rfl|aF
      .refine⟨d,hd,?_⟩;rw[hg,h5];exact⟨g,ew,.inl ⟨by rw[h6 g tY,hb,jN],Yx (ops h6) hs⟩⟩
      .exact h4 o' aF
     .have qi:b=!want:=by cases b<;>cases want<;>first|rfl|exact absurd rfl jN
      have:=h.n qi;rw[Kq (by rw[hb,qi])]at this;obtain⟨fe,h1,h2,h3,h4,h5,h6⟩:=on _ this;refine⟨fe,h1,h2,h3,λo' aF=>?_⟩
      rcases bp.1 aF with rfl|aF
      .refine⟨d,hd,?_⟩;rw[hg];exact⟨g,ew,.inr (.inl ⟨by rw[h6 g tY,hb,qi],h5⟩)⟩
      .exact h4 o' aF
    .rename_i vs hb;obtain⟨fe,h1,h2,h3,h4,h5,h6⟩:=on _ h;refine⟨fe,h1,h2,h3,λo' aF=>?_⟩
     rcases bp.1 aF with rfl|aF
     .refine⟨d,hd,?_⟩;rw[hg];exact⟨g,ew,.inr (.inr ⟨⟨vs,by rw[h6 g tY,hb]⟩,h5⟩)⟩
     .exact h4 o' aF
    .cases h
   .cases h
end
end
section
open Go.RowKit
variable[M:cD][G:ed][MD:rR][CH:nE][R:eF]
def bitsOf(ops:Array Oper):Array Nat:=Region.before ops
def jj(ops:Array Oper)(i j:Nat):Bool:=((bitsOf ops).getD i 0).testBit j
def xD(i:Nat)(o:Oper):Bool:=o.after.all λe=>!Region.binds .any e||decide (e.on<i)
def tz(ops:Array Oper)(i:Nat)(o:Oper):Bool:=(gM ops.size).all λj=>!jj ops i j||o.after.any λe=>j4 .any e&&(e.on==j||jj ops e.on j)
def u_(m:Nat)(ops:Array Oper)(i:Nat)(o:Oper):Bool:=
 match o.dst with
 |none=>false
 |some d=>eS d 1000&&(gM m).all λj=>i==j||((ops[j]?).bind (·.dst)) != V d
def rA(o:Oper):Bool:=match ee o with|some (d,none)=>wi d|_=>false
def Ac(m:Nat)(ops:Array Oper)(i:Nat)(o:Oper):Bool:=
 yE o||(o.looksAt ops).all λt=>(gM m).all λj=>match ops[j]? with
  |none=>true
  |some o'=>(o'.dst != V t)||(jj ops i j&&((ee o').isNone||rA o'))
def Ad(ops:Array Oper)(i:Nat):Bool:=(gM i).all λj=>jj ops i j
def C0(m:Nat)(ops:Array Oper):Bool:=
 Nat.ble m ops.size&&((gM ops.size).all λi=>match ops[i]? with
  |none=>true
  |some o=>xD i o&&(tz ops i o&&(bif eS i m then u_ m ops i o&&Ac m ops i o else Ad ops i)))
structure Plan0(ops:Array Oper)(m:Nat)(dep:Nat->Nat->Prop):Prop where
 le:m<=ops.size
 dec:∀i o,ops[i]?=V o->∀e,e∈o.after->j4 .any e=true->e.on<i
 step:∀i o j,ops[i]?=V o->j<ops.size->dep i j->∃e,e∈o.after/\j4 .any e=true/\(e.on=j\/dep e.on j)
 dst:∀i o,i<m->ops[i]?=V o->∃d,o.dst=V d
 one:∀i o j o' d,i<m->j<m->ops[i]?=V o->ops[j]?=V o'->o.dst=V d->o'.dst=V d->i=j
 low:∀i o d,i<m->ops[i]?=V o->o.dst=V d->d<1000
 look:∀i o t j o',i<m->j<m->ops[i]?=V o->yE o=false->t∈o.looksAt ops->ops[j]?=V o'->o'.dst=V t->dep i j/\(ee o'=none\/rA o'=true)
structure Sk(ops:Array Oper)(m:Nat)(dep:Nat->Nat->Prop):Prop where
 one:∀i o j o' d,i<m->j<m->ops[i]?=V o->ops[j]?=V o'->o.dst=V d->o'.dst=V d->i=j
 look:∀i o t j o',i<m->j<m->ops[i]?=V o->yE o=false->t∈o.looksAt ops->ops[j]?=V o'->o'.dst=V t->dep i j/\(ee o'=none\/rA o'=true)
def Plan0.s{ops:Array Oper}{m:Nat}{dep:Nat->Nat->Prop}(hp:Plan0 ops m dep):Sk ops m dep:=⟨hp.one,hp.look⟩
structure aau(ops:Array Oper)(m:Nat)(dep:Nat->Nat->Prop):Prop extends Plan0 ops m dep where
 tail:∀i j,m<=i->i<ops.size->j<i->dep i j
def WR{m:Nat}{ops:Array Oper}(hle:m<=ops.size)(get:∀i o,ops[i]?=V o->xD i o=true/\tz ops i o=true/\(i<m->u_ m ops i o=true/\Ac m ops i o=true)):Plan0 ops m λi j=>jj ops i j=true:=by
 refine⟨hle,λi o ho e he hb=>?_,λi o j ho hj hd=>?_,λi o hi ho=>?_,λi o j o' d hi hj ho aF hd bF=>?_,λi o d hi ho hd=>?_,λi o t j o' hi hj ho aY ht aF bF=>?_⟩
 .have:=(Array.all_eq_true'.1 (get i o ho).1) e he;simpa [hb]using this
 .have h1:=(get i o ho).2.1;simp only[tz,eo,mz]at h1;have h1:=h1 j hj;simp only[hd,Bool.not_true,Bool.false_or]at h1;obtain⟨e,he,hb⟩:=Array.any_eq_true'.1 h1;simp only[bR,s6,beq_iff_eq]at hb;exact⟨e,he,hb.1,hb.2⟩
 .have h1:=((get i o ho).2.2 hi).1;unfold u_ at h1;cases hd:o.dst with
  |none=>rw[hd]at h1;exact absurd h1 (by simp)
  |some d=>exact⟨d,rfl⟩
 .have h1:=((get i o ho).2.2 hi).1;unfold u_ at h1;rw[hd]at h1;simp only[bR,eo,mz]at h1;have:=h1.2 j hj;rw[aF]at this;simpa [bF]using this
 .have h1:=((get i o ho).2.2 hi).1;unfold u_ at h1;rw[hd]at h1;simp only[bR]at h1;simpa using h1.1
 .have h1:=((get i o ho).2.2 hi).2;simp only[Ac,aY,Bool.false_or,eo,mz]at h1;have:=h1 t ht j hj;rw[aF]at this;simpa [bF]using this
def afP{m:Nat}{ops:Array Oper}(h:C0 m ops=true):aau ops m λi j=>jj ops i j=true:=by
 simp only[C0,bR,eo,mz]at h;obtain⟨hle,h⟩:=h
 have hle:m<=ops.size:=by simpa using hle
 have get:∀i o,ops[i]?=V o->xD i o=true/\tz ops i o=true/\(i<m->u_ m ops i o=true/\Ac m ops i o=true)/\(m<=i->Ad ops i=true):=λi o ho=>by
  have h1:=h i (lB.1 ho).1;rw[ho]at h1;simp only[bR]at h1;refine⟨h1.1,h1.2.1,λhi=>?_,λhi=>?_⟩
  .have hb:eS i m=true:=by simpa [gW]using hi
   have:=h1.2.2;rw[hb]at this;simpa using this
  .have hb:eS i m=false:=by
    cases hb:eS i m
    .rfl
    .have:i<m:=by simpa [gW]using hb
     omega
   have:=h1.2.2;rw[hb]at this;simpa using this
 refine⟨WR hle λi o ho=>⟨(get i o ho).1,(get i o ho).2.1,(get i o ho).2.2.1⟩,λi j hi hn hj=>?_⟩
 .have h1:=(get i _ (gK hn)).2.2.2 hi;simp only[Ad,eo,mz]at h1;exact h1 j hj
def G9(m:Nat)(late:List Nat)(ops:Array Oper):Bool:=
 eS m ops.size&&((gM ops.size).all λi=>match ops[i]? with
  |none=>true
  |some o=>xD i o&&(tz ops i o&&(bif eS i m then(u_ m ops i o&&Ac m ops i o)&&(jj ops m i||((ee o).isNone&&late.elem i))else(bif eS m i then Ad ops i else o.dst.isNone&&(o.guard.isNone&&((o.looksAt ops).all λt=>(gM m).all λj=>match ops[j]? with
   |none=>true
   |some o'=>(o'.dst != V t)||jj ops m j))))))
structure aav(ops:Array Oper)(m:Nat)(late:List Nat)(dep:Nat->Nat->Prop):Prop extends Plan0 ops m dep where
 lt:m<ops.size
 tail:∀i j,m<i->i<ops.size->j<i->dep i j
 late:∀i o,i<m->ops[i]?=V o->dep m i\/(ee o=none/\i∈late)
 store:∀o,ops[m]?=V o->o.dst=none/\o.guard=none
 aet:∀o t j o',ops[m]?=V o->t∈o.looksAt ops->j<m->ops[j]?=V o'->o'.dst=V t->dep m j
def afO{m:Nat}{late:List Nat}{ops:Array Oper}(h:G9 m late ops=true):aav ops m late λi j=>jj ops i j=true:=by
 simp only[G9,bR,eo,mz]at h;obtain⟨Ξ,h⟩:=h
 have Ξ:m<ops.size:=by simpa [gW]using Ξ
 have get:∀i o,ops[i]?=V o->xD i o=true/\tz ops i o=true/\(i<m->u_ m ops i o=true/\Ac m ops i o=true/\(jj ops m i=true\/(ee o=none/\i∈late)))/\(m<i->Ad ops i=true)/\(i=m->o.dst=none/\o.guard=none/\∀t,t∈o.looksAt ops->∀j,j<m->(match ops[j]? with|none=>true|some o'=>(o'.dst != V t)||jj ops m j)=true):=λi o ho=>by
  have h1:=h i (lB.1 ho).1;rw[ho]at h1;simp only[bR]at h1;obtain⟨h1,h2,h3⟩:=h1;refine⟨h1,h2,λhi=>?_,λhi=>?_,λhi=>?_⟩
  .have hb:eS i m=true:=by simpa [gW]using hi
   rw[hb]at h3;simp only[cond_true,bR,s6]at h3;refine⟨h3.1.1,h3.1.2,h3.2.imp (λh=>h) λh=>by simpa using h⟩
  .have hb:eS i m=false:=by
    cases hb:eS i m
    .rfl
    .have:i<m:=by simpa [gW]using hb
     omega
   have me:eS m i=true:=by simpa [gW]using hi
   rw[hb,me]at h3;simpa using h3
  .subst hi
   have hb:eS i i=false:=by
    cases hb:eS i i
    .rfl
    .have:i<i:=by simpa [gW]using hb
     omega
   rw[hb]at h3;simpa [hb]using h3
 refine⟨WR (by omega) λi o ho=>⟨(get i o ho).1,(get i o ho).2.1,λhi=>⟨((get i o ho).2.2.1 hi).1,((get i o ho).2.2.1 hi).2.1⟩⟩,Ξ,λi j hi hn hj=>?_,λi o hi ho=>((get i o ho).2.2.1 hi).2.2,λo ho=>⟨((get m o ho).2.2.2.2 rfl).1,((get m o ho).2.2.2.2 rfl).2.1⟩,λo t j o' ho ht hj aF hd=>by
  have:=((get m o ho).2.2.2.2 rfl).2.2 t ht j hj;rw[aF]at this
  simpa [hd]using this⟩
 have h1:=(get i _ (gK hn)).2.2.2.1 hi;simp only[Ad,eo,mz]at h1;exact h1 j hj
section
variable{P:Program}{T:TT}{C:Ctx}{ds:List Deferred}
def Yy{o:Oper}{ρ:Operand->AV}{H:Hp}{k:AV->Prop}(h:og P T o ρ H k):∀c,o.op≠.defer c:=λc e=>by
 unfold og at h;rw[e]at h;exact YB h c e
def ab5{d:Nat}(pJ:d<1000){st:ak}{w:World}{F:Nat->Prop}{β:Nat->Value}{g:Nat->Value}(hf:∀t,Rd w F β (st.f t) (g t))(he:XM C ds w F β st.H):
  let ay:=λi=>if i=d then undef else β i
  (∀t,Rd w F ay (er 2 d (st.f t)) (g t))/\XM C ds w F ay (iq d st.H):=by
 intro ay;have go:Ext w F β ⟨aR,st.H⟩ w F ay ⟨aR,iq d st.H⟩->_:=λh=>he.trans h;have an:∀i,i≠d->ay i=β i:=λi hi=>if_neg hi;have hI:Inv w F β st.H:=he.inv
 have dB:∀b,bH ay (iq d st.H) b->bH β st.H b:=by
  rintro b ⟨i,c,hm,hb⟩;obtain⟨hi,c',bN,_⟩:=iH hm;exact⟨i,c',bN,by rw[<-an i hi];exact hb⟩
 refine⟨λt=>rZ an 2 (hf t),go ⟨rfl,jL.refl _,rfl,bm _,λ_ _ _=>rfl,λ_ h=>h,λ_ h=>.inl h,λb hb=>.inr (dB b hb),λ_ _ _=>.Δ,?_,λi hi=>an i (by omega)⟩⟩;refine⟨hI.cH,λi c hm=>?_,C8 hI.keys,λb hb=>hI.apart b (dB b hb),λi c i' c' b hm bN hb aN=>?_,hI.fC⟩
 .obtain⟨hi,c',bN,rfl⟩:=iH hm;exact HY hi an (hI.holds i c' bN)
 .obtain⟨hi,c2,h2,_⟩:=iH hm;obtain⟨br,z_,iT,_⟩:=iH bN;rw[an i hi]at hb;rw[an i' br]at aN;exact hI.eD i c2 i' z_ b h2 iT hb aN
def L3{w:World}{F:Nat->Prop}{g:Nat->Value}:∀(al:List (Nat×Option Nat))(_:∀d t,(d,t)∈al->d<1000){st:ak}{β:Nat->Value},(∀t,Rd w F β (st.f t) (g t))->XM C ds w F β st.H ->
  ∃ay,(∀t,Rd w F ay ((jM al st).f t) (g t))/\XM C ds w F ay (jM al st).H /\
   (∀d,β d=undef\/(∃t,(d,t)∈al)->ay d=undef)/\(∀d,(∀c,(d,c)∉st.H)\/(∃t,(d,t)∈al)->∀c,(d,c)∉(jM al st).H)
 |[],_,st,β,hf,he=>by
  refine⟨β,hf,he,λd h=>?_,λd h=>?_⟩
  .rcases h with h|⟨t,ht⟩
   .exact h
   .exact(fu ht).elim
  .rcases h with h|⟨t,ht⟩
   .exact h
   .exact(fu ht).elim
 |(d,t)::r,pJ,st,β,hf,he=>by
  obtain⟨h1,h2⟩:=ab5 (d:=d) (pJ d t (by simp)) hf he;obtain⟨ay,h3,h4,h5,h6⟩:=L3 r (λd t h=>pJ d t (by simp[h])) (st:=⟨λt=>er 2 d (st.f t),iq d st.H⟩) h1 h2;refine⟨ay,h3,h4,λe he=>h5 e ?_,λe he=>h6 e ?_⟩
  .by_cases AI:e=d
   .left;simp[AI]
   .rcases he with he|⟨t',A7⟩
    .left;simp[AI,he]
    .rcases bp.1 A7 with h|h
     .cases h;exact absurd rfl AI
     .exact .inr ⟨t',h⟩
  .by_cases AI:e=d
   .left;intro c hc;exact(iH hc).1 AI
   .rcases he with he|⟨t',A7⟩
    .left;intro c hc
     obtain⟨_,c',fZ,_⟩:=iH hc;exact he c' fZ
    .rcases bp.1 A7 with h|h
     .cases h;exact absurd rfl AI
     .exact .inr ⟨t',h⟩
def Lo{n:Nat}{K:ak->Prop}:∀(al:List (Nat×Option Nat))(st:ak),qQ T n al st K->(al.map (·.1)).Nodup->(∀d t,(d,t)∈al->∀c,(d,c)∉st.H)->(st.H.map (·.1)).Nodup ->
  ∃fA HA,K ⟨fA,HA⟩/\(∀t,(∀ty,(t,ty)∉al)->fA t=st.f t)/\(∀d t,(d,t)∈al->d<n/\∃c,lH T d t c/\fA d=vX d c)/\(HA.map (·.1)).Nodup /\
   ∀x,x∈HA↔x∈st.H\/∃d t c,(d,t)∈al/\lH T d t c/\x=(d,c)
 |[],st,h,_,_,hk=>⟨st.f,st.H,h,λ_ _=>rfl,λd t ht=>(fu ht).elim,hk,λx=>⟨.inl,λh=>h.elim id λ⟨_,_,_,h,_⟩=>(fu h).elim⟩⟩
 |(d,t)::r,st,h,hn,eY,hk=>by
  obtain⟨c0,oK,Ξ,h⟩:∃c,lH T d t c/\d<n/\qQ T n r ⟨ej st.f d (vX d c),(d,c)::st.H⟩ K:=by
   cases t with
   |some t =>
    simp only[qQ]at h;split at h
    .rename_i z hz;obtain⟨hb,h⟩:=cond_prop h;simp only[bR]at hb;exact⟨_,⟨z,hz,hb.1,rfl⟩,by simpa [gW]using hb.2,h⟩
    .cases h
   |none =>
    simp only[qQ]at h;split at h
    .rename_i c hc;obtain⟨hb,h⟩:=cond_prop h;exact⟨c,hc,by simpa [gW]using hb,h⟩
    .cases h
  simp only[fT,iO]at hn;have qk:∀ty,(d,ty)∉r:=λty hm=>hn.1 (cL.2 ⟨_,hm,rfl⟩)
  obtain⟨fA,HA,h1,h2,h3,h4,h5⟩:=Lo r ⟨ej st.f d (vX d c0),(d,c0)::st.H⟩ h hn.2 (λd' t' hm c hc=>by
   rcases bp.1 hc with hc|hc
   .cases hc;exact qk _ hm
   .exact eY d' t' (cw _ hm) c hc) (by
   simp only[fT,iO];refine⟨λhm=>?_,hk⟩;obtain⟨x,hx,jU⟩:=cL.1 hm
   exact eY d t (by simp) x.2 (by rw[<-jU];exact hx))
  refine⟨fA,HA,h1,λt' A7=>?_,λd' t' hm=>?_,h4,λx=>?_⟩
  .rw[h2 t' λty hm=>A7 ty (cw _ hm)];exact QO λe=>A7 t (by rw[e];simp)
  .rcases bp.1 hm with hm|hm
   .cases hm;exact⟨Ξ,c0,oK,by rw[h2 d qk];exact QM _ _ _⟩
   .exact h3 d' t' hm
  .rw[h5 x,bp];constructor
   .rintro ((rfl|h)|⟨d',t',c',hm,g_,rfl⟩)
    .exact .inr ⟨d,t,c0,by simp,oK,rfl⟩
    .exact .inl h
    .exact .inr ⟨d',t',c',cw _ hm,g_,rfl⟩
   .rintro (h|⟨d',t',c',hm,g_,rfl⟩)
    .exact .inl (.inr h)
    .rcases bp.1 hm with hm|hm
     .cases hm;rw[g_.uniq oK];exact .inl (.inl rfl)
     .exact .inr ⟨d',t',c',hm,g_,rfl⟩
def count_set:∀(l:List Bool)(i:Nat),l[i]?=V false->(l.set i true).count false+1=l.count false
 |[],i,h=>by simp at h
 |b::r,0,h=>by simp at h;subst h;simp
 |b::r,i+1,h=>by
  have:=count_set r i (by simpa using h);cases b<;>simp<;>omega
def steady(m:Nat)(ops:Array Oper):List Oper:=(ops.toList.take m).filter λo=>(ee o).isNone
def eC(m:Nat)(ops:Array Oper):List (Nat×Option Nat):=(ops.toList.take m).filterMap ee
def oU{ops:Array Oper}{m:Nat}{o:Oper}:o∈ops.toList.take m↔∃i,i<m/\ops[i]?=V o:=by
 constructor
 .intro h;obtain⟨i,hi,rfl⟩:=CA.1 h;simp only[dq,lZ]at hi;refine⟨i,by omega,?_⟩
  have:i<ops.size:=by omega
  simp[Gu,this]
 .rintro ⟨i,hi,ho⟩;obtain⟨Ξ,rfl⟩:=lB.1 ho;rw[CA];refine⟨i,by simp only[dq,lZ];omega,by simp[Gu]⟩
def kR{o:Oper}{d:Nat}{t:Option Nat}(h:ee o=V (d,t)):o.dst=V d/\o.guard=none:=by
 unfold ee at h;split at h
 .cases h;exact⟨by assumption,by assumption⟩
 .rename_i d' _ _ _;cases hb:MD.md.elem d' with
  |true=>rw[hb]at h;cases h;exact⟨by assumption,by assumption⟩
  |false=>rw[hb]at h;cases h
 .cases h
def aay{o:Oper}{d t:Nat}(h:ee o=V (d,V t)):o.op=.alloc t:=by
 unfold ee at h;split at h
 .cases h;assumption
 .rename_i d' _ _ _;cases hb:MD.md.elem d' with
  |true=>rw[hb]at h;cases h
  |false=>rw[hb]at h;cases h
 .cases h
def N4{o:Oper}(h:ee o=none):yE o=false:=by unfold yE;rw[h]
def VE{o:Oper}{d:Nat}(h:ee o=V (d,none)):yE o=false:=by unfold yE;rw[h]
structure oB(C:Ctx)(CO:Nat->Option Nat->Chunk->Prop)(ops:Array Oper)(m:Nat)(fA:Nat->AV)(Hm:Hp)(listed:Array Bool)(a:Act)(w:World):Prop where
 ex:∃F β H,a.tmps.size=C.n/\True/\XM C a.defers w F β H /\
  (∀x,x∈H↔x∈Hm\/∃i o d t c,i<m/\listed.getD i false=true/\ops[i]?=V o/\ee o=V (d,t)/\CO d t c/\x=(d,c)) /\
  (∀i o d t,i<m->ops[i]?=V o->ee o=V (d,t)->listed.getD i false=false->β d=undef) /\
  (∀t,(∀i o,i<m->ops[i]?=V o->o.dst=V t->listed.getD i false=true)->Rd w F β (fA t) (a.tmps.getD t undef))
def fI{listed:Array Bool}{i j:Nat}(hi:i<listed.size):(listed.setIfInBounds i true).getD j false=(if j=i then true else listed.getD j false):=by
 by_cases h:j=i
 .subst h;simp[hi]
 .simp[wW (lG h),h]
def Mx{CO:Nat->Option Nat->Chunk->Prop}{ops:Array Oper}{m i n:Nat}{dep:Nat->Nat->Prop}{o:Oper}{fA fe:Nat->AV}{Hm:Hp}{listed:Array Bool}{a:Act}{w:World}{Q:Exit->Act->World->Prop}{N:Act->World->Prop}
  (hT:bL P T) (hn:C.n=n) (hp:Sk ops m dep) (bd:listed.size=ops.size) (hi:i<m) (ho:ops[i]?=V o) (aY:ee o=none) (dH:listed.getD i false=false)
  (MJ:∀j,j<m->dep i j->listed.getD j false=true) (lQ:∀t,(∀j o' ty,j<m->ops[j]?=V o'->ee o'=V (t,ty)->rA o'=true)->fA t=fe t)
  (Mq:(Hm.map (·.1)).Nodup) (bU:uS P T ops Hm fe o) (Ξ:∀d,o.dst=V d->d<n) (h:oB C CO ops m fA Hm listed a w)
  (hN:∀a w,oB C CO ops m fA Hm (listed.setIfInBounds i true) a w->N a w):wpOpIn (fW C.ro) 0 P ops Q i N a w:=by
 obtain⟨F,β,H,hs,hd,he,bn,yw,hf⟩:=h.ex;obtain⟨d,fw,bU⟩:=bU
 have xX:d<a.tmps.size:=by rw[hs,hn];exact Ξ d fw
 have eO:i<listed.size:=by rw[bd];exact(lB.1 ho).1
 have look:∀t,t∈o.looksAt ops->Rd w F β (fe t) (a.tmps.getD t undef):=λt ht=>by
  have bu:∀j o' ty,j<m->ops[j]?=V o'->ee o'=V (t,ty)->rA o'=true:=λj o' ty hj aF jC=>by
   have:=(hp.look i o t j o' hi hj ho (N4 aY) ht aF (kR jC).1).2
   rcases this with this|this
   .rw[this]at jC;cases jC
   .exact this
  rw[<-lQ t bu];exact hf t λj o' hj aF bF=>MJ j hj (hp.look i o t j o' hi hj ho (N4 aY) ht aF bF).1
 have rz:∀x,x∈o.op.operands->Rd w F β (ev fe x) (a.eval x):=λx hx=>by
  cases x with
  |tmp t=>exact look t (nC _ (my.2 ⟨.tmp t,by simpa using hx,rfl⟩))
  |const v=>exact oa _ _ _ _
  |global g=>exact .Δ
  |func g=>exact .i (.c rfl rfl (λi hi=>absurd hi (by simp)) (λi hi=>absurd hi (by simp)))
 have hI:Inv w F β Hm:=he.inv.sub (λx hx=>(bn x).2 (.inl hx)) Mq
 have acO:∀j o' ty,j<m->ops[j]?=V o'->ee o'≠V (d,ty):=λj o' ty hj aF jC=>by
  have:=hp.one i o j o' d hi hj ho aF fw (kR jC).1;subst this;rw[ho]at aF;cases aF;rw[aY]at jC;cases jC
 have done:∀(v:Value)(w':World),Below w.heap.size w w'->Rd w' (fK F w w') β (fe d) v->oB C CO ops m fA Hm (listed.setIfInBounds i true) (a.put (V d) v) w':=λv w' hb hv=>by
  have hx:=vq (st:=⟨aR,H⟩) he.inv hb;refine⟨fK F w w',β,H,by simpa [jg]using hs,hd,he.trans hx,λx=>?_,λj o' d' t hj aF jC hl=>?_,λt ht=>?_⟩
  .rw[bn x];constructor
   .rintro (h|⟨j,o',d',t,z,h1,h2,h3,h4,h5,h6⟩)
    .exact .inl h
    .exact .inr ⟨j,o',d',t,z,h1,by rw[fI eO];split<;>first|rfl|exact h2,h3,h4,h5,h6⟩
   .rintro (h|⟨j,o',d',t,z,h1,h2,h3,h4,h5,h6⟩)
    .exact .inl h
    .refine .inr ⟨j,o',d',t,z,h1,?_,h3,h4,h5,h6⟩;rw[fI eO]at h2;split at h2
     .rename_i e;subst e;rw[ho]at h3;cases h3;rw[aY]at h4;cases h4
     .exact h2
  .rw[fI eO]at hl;split at hl
   .cases hl
   .exact yw j o' d' t hj aF jC hl
  .by_cases pQ:t=d
   .subst pQ;rw[lQ t λj o' ty hj aF jC=>absurd jC (acO j o' ty hj aF)];simpa [jg,xX]using hv
   .have h1:=(hf t λj o' hj aF bF=>by
     have:=ht j o' hj aF bF;rw[fI eO]at this;split at this
     .rename_i e;subst e;rw[ho]at aF;cases aF;rw[fw]at bF;cases bF;exact absurd rfl pQ
     .exact this).later hb he.inv.cH
    simpa [jg,wW (lG pQ)]using h1
 have run:(og P T o (ev fe) Hm λr=>r=fe d)->o.wpIn (fW C.ro) 0 P a w N Q:=λhs=>by
  have cz:=Yy hs
  rcases Yz hT hI rz hs with⟨v,w',bf,hb,r,rfl,hv⟩|⟨g,vs,bf,hc⟩
  .refine Oper.kI cz bf ?_;rw[xd,fw];exact hN _ _ (done v w' hb hv)
  .refine Oper.kI cz bf ?_;rw[zU];refine⟨λh=>(by cases h),uZ (hc.mono ?_)⟩;rintro e w' ⟨v,rfl,hb,r,rfl,hv⟩;rw[fw];exact hN _ _ (done v w' hb hv)
 have skip:fe d=.v undef->N (a.put o.dst undef) w:=λh0=>by
  rw[fw];exact hN _ _ (done undef w (Below.refl _ _) (by rw[h0];exact .i (.v (.inr rfl))))
 unfold wpOpIn;simp only[ho];cases hg:o.guard with
 |none =>
  rw[hg]at bU
  have hw:d_ o (yielded ops a.tmps)=true:=by simp[d_,hg]
  rw[if_pos hw];exact run bU
 |some jw =>
  obtain⟨j,want⟩:=jw;rw[hg]at bU;obtain⟨g,ew,bU⟩:=bU
  have tY:g∈o.looksAt ops:=by
   refine uJ _ ?_;rw[hg];simp[ew]
  have pF:=look g tY
  have hy:∀v,v≠undef->a.tmps.getD g undef=v->yielded ops a.tmps j=match v with|.bool b=>V b|_=>none:=by
   intro v aI hv
   have h2:a.tmps[g]?=V v:=by
    by_cases hl:g<a.tmps.size
    .rw[<-hv];simp[hl]
    .exact absurd (by rw[<-hv];simp[hl]) aI
   unfold yielded;rw[ew,aS,h2];cases v<;>rfl
  rcases bU with⟨h1,h2⟩|⟨h1,h2⟩|⟨⟨vs,h1⟩,h2⟩
  .rw[h1]at pF;have ix:=hy _ (by simp[undef]) pF.bK
   have hw:d_ o (yielded ops a.tmps)=true:=by simp[d_,hg,ix]
   rw[if_pos hw];exact run h2
  .rw[h1]at pF;have ix:=hy _ (by simp[undef]) pF.bK
   have hw:¬d_ o (yielded ops a.tmps)=true:=by simp[d_,hg,ix]
   rw[if_neg hw];exact⟨λ_ _=>trivial,skip h2⟩
  .rw[h1]at pF;have hv:=pF.bK
   have ix:yielded ops a.tmps j=none:=by
    unfold yielded;rw[ew,aS];by_cases hl:g<a.tmps.size
    .have h3:a.tmps[g]?=V (.tuple vs):=by rw[<-hv];simp[hl]
     rw[h3]
    .simp[ZJ (Nat.le_of_not_lt hl)]
   have hw:¬d_ o (yielded ops a.tmps)=true:=by simp[d_,hg,ix]
   rw[if_neg hw];exact⟨λ_ _=>trivial,skip h2⟩
def aaL{o:Oper}{q:Call}{x:Operand}{g:FuncId}{fs cs ys:List AV}{f:Nat->AV}{a:Act}{w:World}{F:Nat->Prop}{β:Nat->Value}{post:Value->World->Prop}(qo:o.op=.call q)(hc:q.callee=.value x)
  (hf:ev f x=.c (.func g) fs cs) (hle:jh (fs++(q.args.toList.map (ev f)++cs)) ys) (hE:qb P g) (rz:∀x,x∈o.op.operands->Rd w F β (ev f x) (a.eval x))
  (h:∀vs:Array Value,vs.size=ys.length->(∀i,i<ys.length->Rd w F β (ys.getD i .Δ) (vs.getD i undef))->Calls P g vs w λe w'=>∃v,e=.returned v/\post v w') :
  ∃vs,(execOp a.eval o).run P w=.ok (.enter g vs) w/\Calls P g vs w λe w'=>∃v,e=.returned v/\post v w':=by
 obtain⟨dst,op,type,pos,after,guard⟩:=o;simp only at qo;subst qo;obtain⟨callee,args,argTypes⟩:=q;simp only at hc;subst hc;have hx:=rz x (by simp[te,qF]);rw[hf]at hx;obtain⟨us,ws,vF,hs,dG,hu,hw⟩:=hx.nG
 have mW:∀i,i<(args.toList.map (ev f)).length->Rd w F β ((args.toList.map (ev f)).getD i .Δ) ((args.map a.eval).getD i undef):=λi hi=>by
  simp at hi;have:=rz args[i] (by simp[te,qF]);simpa [bc,hi]using this
 have hj:=GQ hs (vs:=args.map a.eval) (by simp) dG hu mW hw;obtain⟨hl,hz⟩:=hle.spec;obtain⟨fn,c,dR,dM,xR⟩:=hE;refine⟨us++args.map a.eval++ws,?_,h _ ?_ λi hi=>hz i (by rw[hl];exact hi) _ _ _ _ (hj i (by rw[hl];exact hi))⟩
 .have ri:¬ fn.name = "runtime.NumGoroutine":=by simpa using dM
  simp only[execOp];have e:(do let d <-resolve a.eval { callee:=.value x,args:=args,argTypes:=argTypes } type;invoke d.target d.args:Sem Next)=(do let d <-mw (a.eval x) (args.map a.eval);invoke d.target d.args):=rfl;rw[e,vF];simp[mw,invoke,callFunc,dR,ri,xR]
 .rw[<-hl];simp[hs,dG]
def T1{ops:Array Oper}{m i n:Nat}{dep:Nat->Nat->Prop}{o:Oper}{d t:Nat}{z:TI}{fA:Nat->AV}{Hm:Hp}{listed:Array Bool}{a:Act}{w:World}{Q:Exit->Act->World->Prop}{N:Act->World->Prop}
  (hT:bL P T) (hn:C.n=n) (hp:Plan0 ops m dep) (bd:listed.size=ops.size) (hi:i<m) (ho:ops[i]?=V o) (aY:ee o=V (d,V t)) (dH:listed.getD i false=false)
  (hz:T t=V z) (Nh:jH (bZ z.zero)=true) (gz:fA d=.b d 0) (Ξ:d<n) (eY:∀c,(d,c)∉Hm) (h:oB C (lH T) ops m fA Hm listed a w)
  (hN:∀a w,oB C (lH T) ops m fA Hm (listed.setIfInBounds i true) a w->N a w):wpOpIn (fW C.ro) 0 P ops Q i N a w:=by
 obtain⟨F,β,H,hs,hd,he,bn,yw,hf⟩:=h.ex;obtain⟨fw,ew⟩:=kR aY;have qo:=aay aY
 have xX:d<a.tmps.size:=by rw[hs,hn];exact Ξ
 have eO:i<listed.size:=by rw[bd];exact(lB.1 ho).1
 have Ea:=yw i o d t hi ho aY dH
 have mi:∀c,(d,c)∉H:=λc hc=>by
  rcases (bn _).1 hc with h|⟨j,o',d',t',z',h1,h2,h3,h4,h5,h6⟩
  .exact eY c h
  .cases h6;have:=hp.one i o j o' d hi h1 ho h3 fw (kR h4).1;subst this;rw[dH]at h2;cases h2
 have NT:=(hT _ _ hz).sS w
 have bf:(execOp a.eval o).run P w=.ok (.value (.pointer (V ⟨w.heap.size,0,none⟩))) (w.alloc (.cells z.zero.cells t)):=by
  unfold execOp;rw[qo];simp[Instr.alloc,NT,newVar,newRow]
 have hr:=λay:Nat->Value=>py (oa (w.alloc (.cells z.zero.cells t)) F z.zero ay) Nh;have hx:=ab7 (f:=aR) (e:=t) (hp.low i o d hi ho fw) he.inv Ea mi (hr β).1 (λj hj=>((hr β).2 j hj).1) (λay j hj=>((hr ay).2 j hj).2);have jr:∀i,i≠d->(λi=>if i=d then R_ (V ⟨w.heap.size,0,none⟩)else β i) i=β i:=λi hi=>if_neg hi;have ha:gn F w (w.alloc (.cells z.zero.cells t)):=Below.agree (uV w _) he.inv.cH
 have hw:d_ o (yielded ops a.tmps)=true:=by simp[d_,ew]
 unfold wpOpIn;simp only[ho];rw[if_pos hw];refine Oper.kI (λc e=>by rw[qo]at e;cases e) bf ?_;rw[xd,fw];refine hN _ _ ⟨F,_,(d,.box (bx (bZ z.zero)))::H,by simpa [jg]using hs,hd,he.trans hx,λx=>?_,λj o' d' t' hj aF jC hl=>?_,λq hq=>?_⟩
 .rw[bp,bn x];constructor
  .rintro (rfl|h|⟨j,o',d',t',z',h1,h2,h3,h4,h5,h6⟩)
   .exact .inr ⟨i,o,d,V t,_,hi,by rw[fI eO,if_pos rfl],ho,aY,⟨z,hz,Nh,rfl⟩,rfl⟩
   .exact .inl h
   .exact .inr ⟨j,o',d',t',z',h1,by rw[fI eO];split<;>first|rfl|exact h2,h3,h4,h5,h6⟩
  .rintro (h|⟨j,o',d',t',z',h1,h2,h3,h4,h5,h6⟩)
   .exact .inr (.inl h)
   .rw[fI eO]at h2;split at h2
    .rename_i e;subst e;rw[ho]at h3;cases h3;rw[aY]at h4;cases h4;rw[h5.uniq ⟨z,hz,Nh,rfl⟩]at h6;exact .inl h6
    .exact .inr (.inr ⟨j,o',d',t',z',h1,h2,h3,h4,h5,h6⟩)
 .rw[fI eO]at hl;split at hl
  .cases hl
  .have aI:d'≠d:=λe=>by
    subst e;have:=hp.one i o j o' d' hi hj ho aF fw (kR jC).1;rename_i sx;exact sx this.symm
   show(if d'=d then _ else β d')=undef;rw[if_neg aI];exact yw j o' d' t' hj aF jC hl
 .by_cases rp:q=d
  .subst rp;rw[gz]
   have:(a.put (V q) (.pointer (V ⟨w.heap.size,0,none⟩))).tmps.getD q undef=.pointer (V ⟨w.heap.size,0,none⟩):=by simp[jg,xX]
   rw[this];exact .b (by simp)
  .have h1:=(hf q λj o' hj aF bF=>by
    have:=hq j o' hj aF bF;rw[fI eO]at this;split at this
    .rename_i e;subst e;rw[ho]at aF;cases aF;rw[fw]at bF;cases bF;exact absurd rfl rp
    .exact this)
   have h2:=(h1.frame ha λ_ h=>h).Co Ea jr;simpa [jg,wW (lG rp)]using h2
def ab8{w w':World}{F F':Nat->Prop}{β:Nat->Value}{H:Hp}{d:Nat}{c:Chunk}{v:Value}{f:Nat->AV}(pJ:d<1000)(hI:Inv w F β H)(hd:β d=undef)(mi:∀c,(d,c)∉H)(hb:Below w.heap.size w w')(kE:∀b,F b->F' b)(tM:∀b,F' b->fK F w w' b)
  (eY:∀b,bP v=V b->w.heap.size<=b/\¬F' b) (hc:c.holds w' F' (λi=>if i=d then v else β i) d) :
  Ext w F β ⟨f,H⟩ w' F' (λi=>if i=d then v else β i) ⟨f,(d,c)::H⟩:=by
 have an:∀i,i≠d->(λi=>if i=d then v else β i) i=β i:=λi hi=>if_neg hi;have ha:gn F w w':=Below.agree hb hI.cH
 have dB:∀b,bH (λi=>if i=d then v else β i) ((d,c)::H) b->(w.heap.size<=b/\¬F' b)\/bH β H b:=by
  rintro b ⟨i,c',hm,aN⟩
  rcases bp.1 hm with hm|hm
  .cases hm;simp only[if_true]at aN;exact .inl (eY b aN)
  .have hi:i≠d:=λe=>mi c' (e▸hm);simp only[if_neg hi]at aN;exact .inr ⟨i,c',hm,aN⟩
 refine⟨hb.os,hb.tape,hb.output,hb.size,λb h _=>hb.block b h,kE,λb h=>(tM b h).elim .inl λh=>.inr (.inl h.1),λb h=>(dB b h).elim (λh=>.inl h.1) .inr,λt u h=>(h.frame ha kE).Co hd an,?_,λi hi=>an i (by omega)⟩;refine⟨λb h=>(tM b h).elim (λh=>ou (hI.cH b h) hb.size) λh=>h.2,?_,?_,λb ho hF=>?_,?_,hI.fC.frame ha kE⟩
 .intro i c' hm
  rcases bp.1 hm with hm|hm
  .cases hm;exact hc
  .have hi:i≠d:=λe=>mi c' (e▸hm);exact UW hd an hi (pM ha kE (λb aN=>hb.block b (hI.gg ⟨i,c',hm,aN⟩)) (hI.holds i c' hm))
 .show ((d::(H.map (·.1)))).Nodup;rw[iO];refine⟨λhm=>?_,hI.keys⟩;obtain⟨x,hx,jU⟩:=cL.1 hm;obtain⟨i,c'⟩:=x;exact mi c' (by rw[<-jU];exact hx)
 .rcases dB b ho with h|h
  .exact h.2 hF
  .rcases tM b hF with h1|h1
   .exact hI.apart b h h1
   .exact absurd (hI.gg h) (mJ.2 h1.1)
 .have key:∀i c' b,(i,c')∈H->bP (β i)=V b->bP v=V b->False:=λi c' b hm cR hv =>
   absurd (hI.gg ⟨i,c',hm,cR⟩) (mJ.2 (eY b hv).1)
  intro i c1 i' pn b hm bN cR aN
  rcases bp.1 hm with hm|hm<;>rcases bp.1 bN with bN|bN
  .cases hm;cases bN;rfl
  .cases hm;have hi:i'≠d:=λe=>mi pn (e▸bN);simp only[if_true]at cR;simp only[if_neg hi]at aN;exact(key i' pn b bN aN cR).elim
  .cases bN;have hi:i≠d:=λe=>mi c1 (e▸hm);simp only[if_true]at aN;simp only[if_neg hi]at cR;exact(key i c1 b hm cR aN).elim
  .have hi:i≠d:=λe=>mi c1 (e▸hm);have br:i'≠d:=λe=>mi pn (e▸bN);simp only[if_neg hi]at cR;simp only[if_neg br]at aN;exact hI.eD i c1 i' pn b hm bN cR aN
def T2{ops:Array Oper}{m i n:Nat}{dep:Nat->Nat->Prop}{o:Oper}{d:Nat}{c:Chunk}{fA fe:Nat->AV}{Hm:Hp}{listed:Array Bool}{a:Act}{w:World}{Q:Exit->Act->World->Prop}{N:Act->World->Prop}
  (hn:C.n=n) (hp:Plan0 ops m dep) (bd:listed.size=ops.size) (hi:i<m) (ho:ops[i]?=V o) (aY:ee o=V (d,none)) (dH:listed.getD i false=false)
  (MJ:∀j,j<m->dep i j->listed.getD j false=true) (lQ:∀t,(∀j o' ty,j<m->ops[j]?=V o'->ee o'=V (t,ty)->rA o'=true)->fA t=fe t)
  (hc:lH T d none c) (bU:GK P fe o c) (gz:fA d=vX d c) (Ξ:d<n) (eY:∀c,(d,c)∉Hm) (h:oB C (lH T) ops m fA Hm listed a w)
  (hN:∀a w,oB C (lH T) ops m fA Hm (listed.setIfInBounds i true) a w->N a w):wpOpIn (fW C.ro) 0 P ops Q i N a w:=by
 obtain⟨F,β,H,hs,hd,he,bn,yw,hf⟩:=h.ex;obtain⟨fw,ew⟩:=kR aY
 have xX:d<a.tmps.size:=by rw[hs,hn];exact Ξ
 have eO:i<listed.size:=by rw[bd];exact(lB.1 ho).1
 have Ea:=yw i o d none hi ho aY dH
 have look:∀t,t∈o.looksAt ops->Rd w F β (fe t) (a.tmps.getD t undef):=λt ht=>by
  have bu:∀j o' ty,j<m->ops[j]?=V o'->ee o'=V (t,ty)->rA o'=true:=λj o' ty hj aF jC=>by
   have:=(hp.look i o t j o' hi hj ho (VE aY) ht aF (kR jC).1).2
   rcases this with this|this
   .rw[this]at jC;cases jC
   .exact this
  rw[<-lQ t bu];exact hf t λj o' hj aF bF=>MJ j hj (hp.look i o t j o' hi hj ho (VE aY) ht aF bF).1
 have rz:∀x,x∈o.op.operands->Rd w F β (ev fe x) (a.eval x):=λx hx=>by
  cases x with
  |tmp t=>exact look t (nC _ (my.2 ⟨.tmp t,by simpa using hx,rfl⟩))
  |const v=>exact oa _ _ _ _
  |global g=>exact .Δ
  |func g=>exact .i (.c rfl rfl (λi hi=>absurd hi (by simp)) (λi hi=>absurd hi (by simp)))
 have mi:∀c,(d,c)∉H:=λc hc=>by
  rcases (bn _).1 hc with h|⟨j,o',d',t',z',h1,h2,h3,h4,h5,h6⟩
  .exact eY c h
  .cases h6;have:=hp.one i o j o' d hi h1 ho h3 fw (kR h4).1;subst this;rw[dH]at h2;cases h2
 obtain⟨q,x,g,fs,cs,ys,qo,acE,vF,hM,hle⟩:∃q x g fs cs ys,o.op=.call q/\q.callee=.value x/\ev fe x=.c (.func g) fs cs/\K_ P g ys c/\jh (fs++(q.args.toList.map (ev fe)++cs)) ys:=by
  unfold GK at bU;split at bU
  .rename_i q qo;split at bU
   .rename_i x hx;split at bU
    .rename_i g fs cs vF;obtain⟨ys,h1,h2⟩:=bU;exact⟨q,x,g,fs,cs,ys,qo,hx,vF,h1,h2⟩
    .exact bU.elim
   .exact bU.elim
  .exact bU.elim
 have hw:d_ o (yielded ops a.tmps)=true:=by simp[d_,ew]
 obtain⟨vs,bf,acG⟩:=aaL (P:=P) qo acE vF hle hM.1 rz λvs jG fE=>hM.2 w F β vs he.inv.nil jG fE;unfold wpOpIn;simp only[ho];rw[if_pos hw];refine Oper.kI (λc e=>by rw[qo]at e;cases e) bf ?_;rw[zU];refine⟨λh=>(by cases h),uZ (acG.mono ?_)⟩;rintro e w' ⟨v,rfl,hb,F',kE,tM,hv,ac2⟩;rw[fw];have hx:=ab8 (f:=aR) (hp.low i o d hi ho fw) he.inv Ea mi hb kE tM ac2 (hv (λi=>if i=d then v else β i) d (if_pos rfl)).1;have jr:∀i,i≠d->(λi=>if i=d then v else β i) i=β i:=λi hi=>if_neg hi;have ha:gn F w w':=Below.agree hb he.inv.cH;refine hN _ _ ⟨F',_,(d,c)::H,by simpa [jg]using hs,hd,he.trans hx,λx=>?_,λj o' d' t' hj aF jC hl=>?_,λq hq=>?_⟩
 .rw[bp,bn x];constructor
  .rintro (rfl|h|⟨j,o',d',t',z',h1,h2,h3,h4,h5,h6⟩)
   .exact .inr ⟨i,o,d,none,_,hi,by rw[fI eO,if_pos rfl],ho,aY,hc,rfl⟩
   .exact .inl h
   .exact .inr ⟨j,o',d',t',z',h1,by rw[fI eO];split<;>first|rfl|exact h2,h3,h4,h5,h6⟩
  .rintro (h|⟨j,o',d',t',z',h1,h2,h3,h4,h5,h6⟩)
   .exact .inr (.inl h)
   .rw[fI eO]at h2;split at h2
    .rename_i e;subst e;rw[ho]at h3;cases h3;rw[aY]at h4;cases h4;rw[h5.uniq hc]at h6;exact .inl h6
    .exact .inr (.inr ⟨j,o',d',t',z',h1,h2,h3,h4,h5,h6⟩)
 .rw[fI eO]at hl;split at hl
  .cases hl
  .have aI:d'≠d:=λe=>by
    subst e;have:=hp.one i o j o' d' hi hj ho aF fw (kR jC).1;rename_i sx;exact sx this.symm
   show(if d'=d then _ else β d')=undef;rw[if_neg aI];exact yw j o' d' t' hj aF jC hl
 .by_cases rp:q=d
  .subst rp;rw[gz]
   have:(a.put (V q) v).tmps.getD q undef=v:=by simp[jg,xX]
   rw[this];exact(hv (λi=>if i=q then v else β i) q (if_pos rfl)).2
  .have h1:=(hf q λj o' hj aF bF=>by
    have:=hq j o' hj aF bF;rw[fI eO]at this;split at this
    .rename_i e;subst e;rw[ho]at aF;cases aF;rw[fw]at bF;cases bF;exact absurd rfl rp
    .exact this)
   have h2:=(h1.frame ha kE).Co Ea jr;simpa [jg,wW (lG rp)]using h2
end
section
variable{P:Program}{T:TT}{C:Ctx}
def Plan0.lt{ops:Array Oper}{m:Nat}{dep:Nat->Nat->Prop}(hp:Plan0 ops m dep):∀i j,i<ops.size->j<ops.size->dep i j->j<i:=by
 intro i;induction i using s9 with
 |_ i ih =>
  intro j hi hj hd;obtain⟨e,he,hb,h⟩:=hp.step i _ j (gK hi) hj hd;have Ξ:=hp.dec i _ (gK hi) e he hb
  rcases h with h|h
  .omega
  .have:=ih e.on Ξ j (by omega) hj h;omega
def drop_cons{ops:Array Oper}{k:Nat}(h:k<ops.size):ops.toList.drop k=ops[k]::ops.toList.drop (k+1):=by
 rw[rO (by simpa using h)];simp
def Oj{ops:Array Oper}{m k:Nat}{o:Oper}(h:o∈(ops.toList.take m).drop k):∃i,k<=i/\i<m/\ops[i]?=V o:=by
 obtain⟨i,hi,rfl⟩:=CA.1 h;simp only[List.length_drop,dq,lZ]at hi;refine⟨k+i,by omega,by omega,?_⟩
 have:k+i<ops.size:=by omega
 simp[Gu,this]
def Plan0.VY{ops:Array Oper}{m:Nat}{dep:Nat->Nat->Prop}(hp:Plan0 ops m dep):∀q k,q+k=m->xj ops (((ops.toList.take m).drop k).filter λo=>(ee o).isNone):=by
 intro q;induction q with
 |zero =>
  intro k hk;have:(ops.toList.take m).drop k=[]:=kN (by simp;omega);rw[this];exact True.intro
 |succ q ih =>
  intro k hk
  have ua:k<m:=by omega
  have iI:k<ops.size:=by have:=hp.le;omega
  have MG:(ops.toList.take m).drop k=ops[k]::(ops.toList.take m).drop (k+1):=by
   rw[rO (by simp;omega)];simp[Gu]
  rw[MG,List.filter_cons];have ho:ops[k]?=V ops[k]:=gK iI;split
  .rename_i aY
   have aY:ee ops[k]=none:=by simpa using aY
   obtain⟨d,hd⟩:=hp.dst k _ ua ho;refine⟨⟨d,hd,λo' aF bF=>?_⟩,λt ht o' aF bF=>?_,ih (k+1) (by omega)⟩
   .obtain⟨i,DH,ra,yd⟩:=Oj (dK.1 aF).1;have:=hp.one k _ i o' d ua ra ho yd hd bF;omega
   .have:∃i,k<=i/\i<m/\ops[i]?=V o':=by
     rcases bp.1 aF with rfl|h
     .exact⟨k,bm _,ua,ho⟩
     .obtain⟨i,DH,ra,yd⟩:=Oj (dK.1 h).1;exact⟨i,by omega,ra,yd⟩
    obtain⟨i,DH,ra,yd⟩:=this;have iu:=(hp.look k _ t i o' ua ra ho (N4 aY) ht yd bF).1;have:=hp.lt k i iI (by have:=hp.le;omega) iu;omega
  .exact ih (k+1) (by omega)
def Sy{ops:Array Oper}{m:Nat}{dep:Nat->Nat->Prop}(hp:Plan0 ops m dep):∀q k,q+k=m->((((ops.toList.take m).drop k).filterMap ee).map (·.1)).Nodup:=by
 intro q;induction q with
 |zero =>
  intro k hk;have:(ops.toList.take m).drop k=[]:=kN (by simp;omega);rw[this];simp
 |succ q ih =>
  intro k hk
  have ua:k<m:=by omega
  have iI:k<ops.size:=by have:=hp.le;omega
  have MG:(ops.toList.take m).drop k=ops[k]::(ops.toList.take m).drop (k+1):=by
   rw[rO (by simp;omega)];simp[Gu]
  have ho:ops[k]?=V ops[k]:=gK iI;rw[MG,List.filterMap_cons];split
  .exact ih (k+1) (by omega)
  .rename_i x hx;simp only[fT,iO];refine⟨λhm=>?_,ih (k+1) (by omega)⟩;obtain⟨y,hy,Vt⟩:=cL.1 hm;obtain⟨o',aF,jC⟩:=my.1 hy;obtain⟨i,DH,ra,yd⟩:=Oj aF;obtain⟨d,t⟩:=x;obtain⟨d',t'⟩:=y;simp only at Vt;subst Vt;have:=hp.one k _ i o' d' ua ra ho yd (kR hx).1 (kR jC).1;omega
def Ct{n:Nat}{ops:Array Oper}{st:ak}{K:ak->Prop}(h:ju P T n ops (ops.toList.drop ops.size) st K):K st:=by
 have:ops.toList.drop ops.size=[]:=kN (by simp);rw[this]at h;exact h
def XM.Ah{ds:List Deferred}{w:World}{F:Nat->Prop}{β:Nat->Value}{H H':Hp}(h:XM C ds w F β H)(bn:∀x,x∈H'↔x∈H)(hk:(H'.map (·.1)).Nodup):XM C ds w F β H':=
 h.trans ((Ext.refl (st:=⟨aR,H⟩) h.inv).Ah bn hk)
def Pu{st:ak}{a:Act}{w:World}(h:Rel C st a w):Rel C st a w.drew:=by
 obtain⟨F,β,hs,hd,hf,he⟩:=h;have hb:Below w.heap.size w w.drew:=(Below.refl _ _).drew;exact⟨fK F w w.drew,β,hs,hd,λt=>(hf t).later hb he.inv.cH,he.trans (vq (st:=⟨aR,st.H⟩) he.inv hb)⟩
def abl{id m n:Nat}{ops:Array Oper}{st:ak}{K:ak->Prop}(hT:bL P T)(hm:P.follows .mixedOrders=true)(qj:C0 m ops=true)
  (h:rI P T n ops (steady m ops) ⟨preB (eC m ops) (jM (eC m ops) st).f,(jM (eC m ops) st).H⟩ λst1=>sJ P st1.f (ops.toList.take m)/\qQ T n (eC m ops) st1 λst2=>ju P T n ops (ops.toList.drop m) st2 K):GG P n id ops st K:=by
 refine⟨λC hn a w db=>?_⟩;have hp:=afP qj;have hr:=Pu db;refine wpIn_region_any hm ?_;show wpAnyIn (fW C.ro) 0 P .any ops _ ops.size (oj ops.size false) a w.drew;generalize w.drew=w at hr;clear db;obtain⟨F,β,hs,hd,hf,he⟩:=hr
 obtain⟨ay,q7,eN,yv,HP⟩:=L3 (eC m ops) (λd t h=>by
  obtain⟨o,Na,ho⟩:=my.1 h;obtain⟨i,hi,aF⟩:=oU.1 Na
  exact hp.low i o d hi aF (kR ho).1) hf he
 have yk:xj ops (steady m ops):=by simpa [steady]using hp.VY m 0 (by omega)
 obtain⟨fe,lQ,hb,Ξ,bU⟩:=Rh (steady m ops) _ yk h
 have cz:((eC m ops).map (·.1)).Nodup:=by simpa [eC]using Sy hp.toPlan0 m 0 (by omega)
 have eY:∀d t,(d,t)∈eC m ops->∀c,(d,c)∉(jM (eC m ops) st).H:=λd t hm=>HP d (.inr ⟨t,hm⟩);obtain⟨fA,HA,hK,Mo,Dl,Dm,HD⟩:=Lo (eC m ops) ⟨fe,(jM (eC m ops) st).H⟩ hb.2 cz eY eN.inv.keys;generalize hHm:(jM (eC m ops) st).H=Hm at *
 have kg:∀{d t},(d,t)∈eC m ops↔∃i o,i<m/\ops[i]?=V o/\ee o=V (d,t):=by
  intro d t;constructor
  .intro h;obtain⟨o,ho,aY⟩:=my.1 h;obtain⟨i,hi,ho⟩:=oU.1 ho;exact⟨i,o,hi,ho,aY⟩
  .rintro ⟨i,o,hi,ho,aY⟩;exact my.2 ⟨o,oU.2 ⟨i,hi,ho⟩,aY⟩
 have Bg:∀{i o},i<m->ops[i]?=V o->ee o=none->o∈steady m ops:=λhi ho aY=>dK.2 ⟨oU.2 ⟨_,hi,ho⟩,by simp[aY]⟩
 have Dp:∀t,(∀j o' ty,j<m->ops[j]?=V o'->ee o'≠V (t,ty))->fA t=fe t:=λt ht=>Mo t λty hm=>by
  obtain⟨j,o',hj,aF,aY⟩:=kg.1 hm;exact ht j o' ty hj aF aY
 have Dn:∀t,(∀j o' ty,j<m->ops[j]?=V o'->ee o'=V (t,ty)->rA o'=true)->fA t=fe t:=λt ht=>by
  by_cases hex:∃j o' ty,j<m/\ops[j]?=V o'/\ee o'=V (t,ty)
  .obtain⟨j,o',ty,hj,aF,aY⟩:=hex;have iJ:=ht j o' ty hj aF aY;unfold rA at iJ;rw[aY]at iJ;cases ty with
   |some y=>cases iJ
   |none =>
    have hm:=kg.2 ⟨j,o',hj,aF,aY⟩;obtain⟨_,c,hc,MQ⟩:=Dl t none hm
    have MR:fe t=.o t:=by
     rw[lQ t λo ho=>by
      obtain⟨i,hi,DM⟩:=oU.1 (dK.1 ho).1;intro bF;have:=hp.one i o j o' t hi hj DM aF bF (kR aY).1;subst this;rw[DM]at aF;cases aF;have:=(dK.1 ho).2
      simp[aY]at this]
     exact I2 iJ cz hm
    have dB:vX t c=.o t:=by
     have fZ:vY CH.ch t=V c:=hc;have yp:wi t=true:=iJ;unfold wi at yp;rw[fZ]at yp
     cases c<;>first|rfl|cases yp
    rw[MQ,dB,MR]
  .exact Dp t λj o' ty hj aF aY=>hex ⟨j,o',ty,hj,aF,aY⟩
 have lt:∀{i o},ops[i]?=V o->i<ops.size:=λh=>(lB.1 h).1;have key:∀fuel(listed:Array Bool)(a:Act)(w:World),listed.size=ops.size->listed.toList.count false<=fuel ->
   (∀i o,listed.getD i false=true->ops[i]?=V o->∀e,e∈o.after->j4 .any e=true->listed.getD e.on false=true) ->
   (((∀i,m<=i->listed.getD i false=false)/\oB C (lH T) ops m fA Hm listed a w) \/
    ∃k,m<=k/\k<=ops.size/\(∀i,i<ops.size->(listed.getD i false=true↔i<k))/\∃st,Rel C st a w/\ju P T n ops (ops.toList.drop k) st K) ->
   wpAnyIn (fW C.ro) 0 P .any ops (λe a' w'=>∃ax,Rel C ax a' w'/\(match e with|.normal=>K ax|_=>False)) fuel listed a w:=by
  intro fuel;induction fuel with
  |zero =>
   intro listed a w bd vD cY rj
   have dQ:∀i,i<ops.size->listed.getD i false=true:=λi hi=>by
    have h0:listed.toList.count false=0:=by omega
    have br:i<listed.size:=by omega
    have bn:listed[i]∈listed.toList:=by simp
    cases hb:listed[i]with
    |true=>simp[br,hb]
    |false=>rw[hb]at bn;exact absurd bn (ZZ.1 h0)
   have rq:l9 .any ops listed=[]:=by
    apply zQ.2;intro i hi;obtain⟨h1,o,ho,_⟩:=mem_ready.1 hi;have:=dQ i (lt ho)
    have br:i<listed.size:=by have:=lt ho;omega
    simp[br]at h1 this;rw[h1]at this;cases this
   refine⟨rq,?_⟩
   rcases rj with⟨eW,jP⟩|⟨k,ek,dz,mh,ax,jo,hw⟩
   .have j9:m=ops.size:=by
     rcases fa m ops.size with h|h
     .have:=eW m (bm _);rw[dQ m h]at this;cases this
     .have:=hp.le;omega
    obtain⟨F1,dv,H1,g1,g2,g3,g4,g5,g6⟩:=jP.ex;refine⟨⟨fA,HA⟩,⟨F1,dv,g1,g2,λt=>g6 t λi o hi _ _=>dQ i (by omega),g3.Ah (λx=>?_) Dm⟩,?_⟩
    .rw[g4 x,HD x];constructor
     .rintro (h|⟨d,t,z,h1,h2,h3⟩)
      .exact .inl h
      .obtain⟨i,o,hi,ho,aY⟩:=kg.1 h1;exact .inr ⟨i,o,d,t,z,hi,dQ i (by omega),ho,aY,h2,h3⟩
     .rintro (h|⟨i,o,d,t,z,hi,_,ho,aY,h2,h3⟩)
      .exact .inl h
      .exact .inr ⟨d,t,z,kg.2 ⟨i,o,hi,ho,aY⟩,h2,h3⟩
    .rw[j9]at hK;exact Ct hK
   .have iI:k=ops.size:=by
     rcases fa k ops.size with h|h
     .have:=(mh k h).1 (dQ k h);omega
     .omega
    refine⟨ax,jo,?_⟩;rw[iI]at hw;exact Ct hw
  |succ fuel ih =>
   intro listed a w bd vD cY rj
   have xS:∀i,i<ops.size->(∀o,ops[i]?=V o->∀e,e∈o.after->j4 .any e=true->listed.getD e.on false=true)->∀j,j<ops.size->jj ops i j=true->listed.getD j false=true:=by
    intro i;induction i using s9 with
    |_ i rv =>
     intro hi f_ j hj iu;obtain⟨e,cW,cR,h⟩:=hp.step i _ j (gK hi) hj iu;have hl:=f_ _ (gK hi) e cW cR;have sA:=hp.dec i _ (gK hi) e cW cR
     rcases h with h|h
     .rw[<-h];exact hl
     .exact rv e.on sA (by omega) (λo ho=>cY e.on o hl ho) j hj h
   have rF:∀{i o},i∈l9 .any ops listed->ops[i]?=V o->listed.getD i false=false/\∀e,e∈o.after->j4 .any e=true->listed.getD e.on false=true:=λhi ho=>by
    obtain⟨h1,o',aF,h2⟩:=mem_ready.1 hi;rw[ho]at aF;cases aF;have:=lt ho;refine⟨?_,h2⟩;have br:=lt ho;rw[<-bd]at br;simpa [br]using h1
   have isReady:∀{i o},ops[i]?=V o->listed.getD i false=false->(∀j,j<i->listed.getD j false=true)->i∈l9 .any ops listed:=λho h1 h2=>by
    refine mem_ready.2 ⟨?_,_,ho,λe he hb=>h2 _ (hp.dec _ _ ho e he hb)⟩;have br:=lt ho;rw[<-bd]at br;simpa [br]using h1
   have next:∀i,i<ops.size->listed.getD i false=false->(listed.setIfInBounds i true).size=ops.size/\(listed.setIfInBounds i true).toList.count false<=fuel:=λi hi h1=>by
    refine⟨by simpa using bd,?_⟩
    have br:i<listed.size:=by omega
    have h2:listed.toList[i]?=V false:=by
     have:listed[i]=false:=by simpa [br]using h1
     simp[br,this]
    have:=count_set listed.toList i h2;simp only[ZN];omega
   have rY:∀i o,ops[i]?=V o->(∀e,e∈o.after->j4 .any e=true->listed.getD e.on false=true) ->
     ∀j o',(listed.setIfInBounds i true).getD j false=true->ops[j]?=V o'->∀e,e∈o'.after->j4 .any e=true->(listed.setIfInBounds i true).getD e.on false=true:=λi o ho f_ j o' hj aF e cW cR=>by
    have br:i<listed.size:=by rw[bd];exact lt ho
    rw[fI br]at hj ⊢;split
    .rfl
    .split at hj
     .rename_i e2;subst e2;rw[ho]at aF;cases aF;exact f_ e cW cR
     .exact cY j o' hj aF e cW cR
   have second:(∃k,m<=k/\k<=ops.size/\(∀i,i<ops.size->(listed.getD i false=true↔i<k))/\∃st,Rel C st a w/\ju P T n ops (ops.toList.drop k) st K) ->
     wpAnyIn (fW C.ro) 0 P .any ops (λe a' w'=>∃ax,Rel C ax a' w'/\(match e with|.normal=>K ax|_=>False)) (fuel+1) listed a w:=by
    rintro⟨k,ek,dz,mh,ax,jo,hw⟩
    rcases fa k ops.size with iI|iI
    .have ym:ops[k]?=V ops[k]:=gK iI
     have yh:listed.getD k false=false:=by
      cases hb:listed.getD k false
      .rfl
      .have:=(mh k iI).1 hb;omega
     have lg:=isReady ym yh λj hj=>(mh j (by omega)).2 hj;refine⟨λh0=>(by rw[h0]at lg;cases lg),λi hi=>?_⟩;obtain⟨_,o,ho,_⟩:=mem_ready.1 hi;obtain⟨dH,f_⟩:=rF hi ho
     have nP:i=k:=by
      have h1:¬i<k:=λh=>by rw[(mh i (lt ho)).2 h]at dH;cases dH
      rcases fa k i with h2|h2
      .have:=xS i (lt ho) (λo' aF=>by rw[ho]at aF;cases aF;exact f_) k iI (hp.tail i k (by omega) (lt ho) h2);rw[this]at yh;cases yh
      .omega
     subst nP;rw[drop_cons iI]at hw;rw[ho]at ym;cases ym;obtain⟨lT,lU⟩:=next i iI dH;refine uB (K:=λst=>ju P T n ops (ops.toList.drop (i+1)) st K) hT hn ho jo (λst2 a2 w2 oQ M0=>?_) hw;refine ih _ a2 w2 lT lU (rY i _ ho f_) (.inr ⟨i+1,by omega,by omega,λj hj=>?_,st2,oQ,M0⟩)
     have br:i<listed.size:=by rw[bd];exact iI
     rw[fI br];split
     .rename_i e2;subst e2;simp
     .rw[mh j hj];omega
    .have dQ:∀i,i<ops.size->listed.getD i false=true:=λi hi=>(mh i hi).2 (by omega)
     have rq:l9 .any ops listed=[]:=by
      apply zQ.2;intro i hi;obtain⟨_,o,ho,_⟩:=mem_ready.1 hi;obtain⟨dH,_⟩:=rF hi ho;rw[dQ i (lt ho)]at dH;cases dH
     refine⟨λ_=>⟨ax,jo,?_⟩,λi hi=>by rw[rq]at hi;cases hi⟩
     have:k=ops.size:=by omega
     rw[this]at hw;exact Ct hw
   rcases rj with⟨eW,jP⟩|rj
   .by_cases sG:∀i,i<m->listed.getD i false=true
    .refine second ⟨m,bm _,hp.le,λi hi=>⟨λh=>?_,λh=>sG i h⟩,⟨fA,HA⟩,?_,hK⟩
     .rcases fa i m with h1|h1
      .exact h1
      .rw[eW i h1]at h;cases h
     .obtain⟨F1,dv,H1,g1,g2,g3,g4,g5,g6⟩:=jP.ex;refine⟨F1,dv,g1,g2,λt=>g6 t λi o hi _ _=>sG i hi,g3.Ah (λx=>?_) Dm⟩;rw[g4 x,HD x];constructor
      .rintro (h|⟨d,t,z,h1,h2,h3⟩)
       .exact .inl h
       .obtain⟨i,o,hi,ho,aY⟩:=kg.1 h1;exact .inr ⟨i,o,d,t,z,hi,sG i hi,ho,aY,h2,h3⟩
      .rintro (h|⟨i,o,d,t,z,hi,_,ho,aY,h2,h3⟩)
       .exact .inl h
       .exact .inr ⟨d,t,z,kg.2 ⟨i,o,hi,ho,aY⟩,h2,h3⟩
    ·-- FY least ak3 is not done
     have hex:∃i,i<m/\listed.getD i false=false/\∀j,j<i->listed.getD j false=true:=by
      have:∃i,i<m/\listed.getD i false=false:=by
       refine wY λbu=>sG λi hi=>?_;cases hb:listed.getD i false
       .exact absurd ⟨i,hi,hb⟩ bu
       .rfl
      obtain⟨i,hi,hb⟩:=this;induction i using s9 with
      |_ i rv =>
       by_cases dQ:∀j,j<i->listed.getD j false=true
       .exact⟨i,hi,hb,dQ⟩
       .have:∃j,j<i/\listed.getD j false=false:=by
         refine wY λbu=>dQ λj hj=>?_;cases hb:listed.getD j false
         .exact absurd ⟨j,hj,hb⟩ bu
         .rfl
        obtain⟨j,hj,Dz⟩:=this;exact rv j hj (by omega) Dz
     obtain⟨i0,q_,eu,xQ⟩:=hex
     have yb:i0<ops.size:=by have:=hp.le;omega
     have db:=isReady (gK yb) eu xQ;refine⟨λh0=>(by rw[h0]at db;cases db),λi hi=>?_⟩;obtain⟨_,o,ho,_⟩:=mem_ready.1 hi;obtain⟨dH,f_⟩:=rF hi ho;have iu:∀j,j<ops.size->jj ops i j=true->listed.getD j false=true:=λj hj hd=>xS i (lt ho) (λo' aF=>by rw[ho]at aF;cases aF;exact f_) j hj hd
     have iX:i<m:=by
      rcases fa i m with h|h
      .exact h
      .have:=iu i0 yb (hp.tail i i0 h (lt ho) (by omega));rw[this]at eu;cases eu
     obtain⟨lT,lU⟩:=next i (lt ho) dH
     have cont:∀a w,oB C (lH T) ops m fA Hm (listed.setIfInBounds i true) a w->wpAnyIn (fW C.ro) 0 P .any ops (λe a' w'=>∃ax,Rel C ax a' w'/\(match e with|.normal=>K ax|_=>False)) fuel (listed.setIfInBounds i true) a w:=λa2 w2 hh=>by
      refine ih _ a2 w2 lT lU (rY i o ho f_) (.inl ⟨λj hj=>?_,hh⟩)
      have br:i<listed.size:=by rw[bd];exact lt ho
      rw[fI br];split
      .omega
      .exact eW j hj
     cases aY:ee o with
     |none=>exact Mx hT hn hp.toPlan0.s bd iX ho aY dH (λj hj hd=>iu j (by have:=hp.le;omega) hd) Dn eN.inv.keys (bU o (Bg iX ho aY)) (Ξ o (Bg iX ho aY)) jP cont
     |some x =>
      obtain⟨d,t⟩:=x;obtain⟨q2,c,xT,q1⟩:=Dl d t (kg.2 ⟨i,o,iX,ho,aY⟩);cases t with
      |some t =>
       obtain⟨z,q3,q4,rfl⟩:=xT;exact T1 hT hn hp.toPlan0 bd iX ho aY dH q3 q4 q1 q2 (eY d _ (kg.2 ⟨i,o,iX,ho,aY⟩)) jP cont
      |none =>
       obtain⟨c',fZ,qm⟩:=IB hb.1 (oU.2 ⟨i,iX,ho⟩) aY;obtain rfl:c'=c:=lH.uniq (T:=T) (x:=none) fZ xT;exact T2 hn hp.toPlan0 bd iX ho aY dH (λj hj hd=>iu j (by have:=hp.le;omega) hd) Dn xT qm q1 q2 (eY d _ (kg.2 ⟨i,o,iX,ho,aY⟩)) jP cont
   .exact second rj
 have rep:∀i,(oj ops.size false).getD i false=false:=λi=>by
  simp only[lA,ZL];split<;>rfl
 refine key ops.size _ a w (by simp) (by simp) (λi o hi=>by rw[rep]at hi;cases hi) (.inl ⟨λi _=>rep i,F,ay,Hm,hs,hd,eN,λx=>⟨.inl,λh=>?_⟩,λi o d t hi ho aY _=>yv d (.inr ⟨t,kg.2 ⟨i,o,hi,ho,aY⟩⟩),λt ht=>?_⟩)
 .rcases h with h|⟨i,o,d,t,z,h1,h2,_⟩
  .exact h
  .rw[rep]at h2;cases h2
 .have bu:∀i o,i<m->ops[i]?=V o->o.dst≠V t:=λi o hi ho bF=>by
   have:=ht i o hi ho bF;rw[rep]at this;cases this
  rw[Dp t λj o' ty hj aF aY=>bu j o' hj aF (kR aY).1,lQ t λo ho=>by
   obtain⟨i,hi,aF⟩:=oU.1 (dK.1 ho).1
   exact bu i o hi aF]
  show Rd _ _ _ (preB (eC m ops) (jM (eC m ops) st).f t) _
  rw[ED λx hx=>by
   obtain⟨j,o',hj,aF,aY⟩:=kg.1 hx
   exact bu j o' hj aF (kR aY).1]
  exact q7 t
def Li(T:TT)(ops:Array Oper)(m:Nat)(st:ak)(K:ak->Prop):Prop:=
 match ops[m]? with
 |some o=>match o.op with
  |.store t x y=>vn T t (ev st.f x) (ev st.f y) st λ_ ax=>K ax
  |_=>False
 |none=>False
def sI(P:Program)(T:TT)(ops:Array Oper)(st:ak):List Nat->Prop
 |[]=>True
 |j::r=>(match ops[j]? with
  |some o=>uS P T ops st.H st.f o
  |none=>False)/\sI P T ops st r
def Oa{ops:Array Oper}{st:ak}:∀{late:List Nat},sI P T ops st late->∀j o,j∈late->ops[j]?=V o->uS P T ops st.H st.f o
 |[],_,_,_,h,_=>by cases h
 |i::r,hl,j,o,h,ho=>by
  rcases bp.1 h with rfl|h
  .have:=hl.1;rw[ho]at this;exact this
  .exact Oa hl.2 j o h ho
def abI{t:Nat}{x y:AV}{st:ak}{k:AV->ak->Prop}(h:vn T t x y st k):∃H',k (.v undef) ⟨st.f,H'⟩/\(∀f,vn T t x y ⟨f,st.H⟩ λ_ s=>s=⟨f,H'⟩)/\H'.map (·.1)=st.H.map (·.1):=by
 unfold vn at h ⊢;split at h
 .rename_i i hi;split at h
  .rename_i id off;split at h
   .rename_i cells hc;unfold B1 at h ⊢;obtain⟨hb,C,hC,h⟩:=cond_prop h;exact⟨_,h,λf=>by simp only[hc];exact Ll hb ⟨C,hC,rfl⟩,zp _⟩
   .cases h
  .rename_i id K m j;split at h
   .rename_i E K' rows hc;obtain⟨q_,row,kF,hK,h⟩:=cond_prop h;unfold B1 at h ⊢;obtain⟨hb,C,hC,R,hR,h⟩:=cond_prop h;exact⟨_,h,λf=>by simp only[hc];exact Ll q_ ⟨row,kF,hK,Ll hb ⟨C,hC,R,hR,rfl⟩⟩,zp _⟩
   .cases h
  .cases h
 .cases h
def abm{id m n:Nat}{late:List Nat}{ops:Array Oper}{st:ak}{K:ak->Prop}(hT:bL P T)(hm:P.follows .mixedOrders=true)(qj:G9 m late ops=true)
  (h:rI P T n ops (steady m ops) ⟨preB (eC m ops) (jM (eC m ops) st).f,(jM (eC m ops) st).H⟩ λst1=>sJ P st1.f (ops.toList.take m)/\qQ T n (eC m ops) st1 λst1=>Li T ops m st1 λst2=>sI P T ops st2 late/\ju P T n ops (ops.toList.drop (m+1)) st2 K):GG P n id ops st K:=by
 refine⟨λC hn a w db=>?_⟩;have hp:=afO qj;have hr:=Pu db;refine wpIn_region_any hm ?_;show wpAnyIn (fW C.ro) 0 P .any ops _ ops.size (oj ops.size false) a w.drew;generalize w.drew=w at hr;clear db;obtain⟨F,β,hs,hd,hf,he⟩:=hr
 obtain⟨ay,q7,eN,yv,ac9⟩:=L3 (eC m ops) (λd t h=>by
  obtain⟨o,Na,ho⟩:=my.1 h;obtain⟨i,hi,aF⟩:=oU.1 Na
  exact hp.low i o d hi aF (kR ho).1) hf he
 have yk:xj ops (steady m ops):=by simpa [steady]using hp.VY m 0 (by omega)
 obtain⟨fe,lQ,hb,Ξ,bU⟩:=Rh (steady m ops) _ yk h
 have cz:((eC m ops).map (·.1)).Nodup:=by simpa [eC]using Sy hp.toPlan0 m 0 (by omega)
 have eY:∀d t,(d,t)∈eC m ops->∀c,(d,c)∉(jM (eC m ops) st).H:=λd t hm=>ac9 d (.inr ⟨t,hm⟩);obtain⟨fA,HA,qW,Mo,Dl,Dm,HD⟩:=Lo (eC m ops) ⟨fe,(jM (eC m ops) st).H⟩ hb.2 cz eY eN.inv.keys;generalize hHm:(jM (eC m ops) st).H=Hm at *
 have kg:∀{d t},(d,t)∈eC m ops↔∃i o,i<m/\ops[i]?=V o/\ee o=V (d,t):=by
  intro d t;constructor
  .intro h;obtain⟨o,ho,aY⟩:=my.1 h;obtain⟨i,hi,ho⟩:=oU.1 ho;exact⟨i,o,hi,ho,aY⟩
  .rintro ⟨i,o,hi,ho,aY⟩;exact my.2 ⟨o,oU.2 ⟨i,hi,ho⟩,aY⟩
 have Bg:∀{i o},i<m->ops[i]?=V o->ee o=none->o∈steady m ops:=λhi ho aY=>dK.2 ⟨oU.2 ⟨_,hi,ho⟩,by simp[aY]⟩
 have Dp:∀t,(∀j o' ty,j<m->ops[j]?=V o'->ee o'≠V (t,ty))->fA t=fe t:=λt ht=>Mo t λty hm=>by
  obtain⟨j,o',hj,aF,aY⟩:=kg.1 hm;exact ht j o' ty hj aF aY
 have Dn:∀t,(∀j o' ty,j<m->ops[j]?=V o'->ee o'=V (t,ty)->rA o'=true)->fA t=fe t:=λt ht=>by
  by_cases hex:∃j o' ty,j<m/\ops[j]?=V o'/\ee o'=V (t,ty)
  .obtain⟨j,o',ty,hj,aF,aY⟩:=hex;have iJ:=ht j o' ty hj aF aY;unfold rA at iJ;rw[aY]at iJ;cases ty with
   |some y=>cases iJ
   |none =>
    have hm:=kg.2 ⟨j,o',hj,aF,aY⟩;obtain⟨_,c,hc,MQ⟩:=Dl t none hm
    have MR:fe t=.o t:=by
     rw[lQ t λo ho=>by
      obtain⟨i,hi,DM⟩:=oU.1 (dK.1 ho).1;intro bF;have:=hp.one i o j o' t hi hj DM aF bF (kR aY).1;subst this;rw[DM]at aF;cases aF;have:=(dK.1 ho).2
      simp[aY]at this]
     exact I2 iJ cz hm
    have dB:vX t c=.o t:=by
     have fZ:vY CH.ch t=V c:=hc;have yp:wi t=true:=iJ;unfold wi at yp;rw[fZ]at yp
     cases c<;>first|rfl|cases yp
    rw[MQ,dB,MR]
  .exact Dp t λj o' ty hj aF aY=>hex ⟨j,o',ty,hj,aF,aY⟩
 have lt:∀{i o},ops[i]?=V o->i<ops.size:=λh=>(lB.1 h).1;obtain⟨om,AZ⟩:∃om,ops[m]?=V om:=⟨_,gK hp.lt⟩;unfold Li at qW;rw[AZ]at qW;simp only at qW;split at qW
 case h_2=>exact qW.elim
 rename_i ts xs ys Nk;obtain⟨H',⟨M8,hK⟩,cO,Mq⟩:=abI qW;let T0:Nat->Option Nat->Chunk->Prop:=λ_ _ _=>False
 have UH:(H'.map (·.1)).Nodup:=by rw[Mq];exact Dm
 have acu:∀{listed:Array Bool}{a:Act}{w:World}{F β},(∀i o,i<m->ops[i]?=V o->ee o≠none->listed.getD i false=true)->a.tmps.size=C.n->True->XM C a.defers w F β H' ->
   (∀t,(∀i o,i<m->ops[i]?=V o->o.dst=V t->listed.getD i false=true)->Rd w F β (fA t) (a.tmps.getD t undef))->oB C T0 ops m fA H' listed a w:=
  λaY h1 h2 h3 h4=>⟨_,_,_,h1,h2,h3,λx=>⟨.inl,λh=>h.elim (λh=>h) λ⟨i,o,d,t,z,_,_,_,_,hz,_⟩=>by cases hz⟩,
   ⟨λi o d t hi ho ha hl=>(by rw[aY i o hi ho (by rw[ha];simp)]at hl;cases hl),h4⟩⟩
 have T3:∀{listed:Array Bool}{a:Act}{w:World},oB C T0 ops m fA H' listed a w->∃F β,a.tmps.size=C.n/\True/\XM C a.defers w F β H' /\
   (∀t,(∀i o,i<m->ops[i]?=V o->o.dst=V t->listed.getD i false=true)->Rd w F β (fA t) (a.tmps.getD t undef)):=λhh=>by
  obtain⟨F1,dv,H1,g1,g2,g3,g4,g5,g6⟩:=hh.ex;refine⟨F1,dv,g1,g2,g3.Ah (λx=>?_) UH,g6⟩;rw[g4 x];exact⟨.inl,λh=>h.elim (λh=>h) λ⟨i,o,d,t,z,_,_,_,_,hz,_⟩=>by cases hz⟩
 have key:∀fuel(listed:Array Bool)(a:Act)(w:World),listed.size=ops.size->listed.toList.count false<=fuel ->
   (∀i o,listed.getD i false=true->ops[i]?=V o->∀e,e∈o.after->j4 .any e=true->listed.getD e.on false=true) ->
   (((∀i,m<=i->listed.getD i false=false)/\oB C (lH T) ops m fA Hm listed a w) \/
    (listed.getD m false=true/\(∀i,m<i->listed.getD i false=false)/\oB C T0 ops m fA H' listed a w) \/
    ∃k,m<k/\k<=ops.size/\(∀i,i<ops.size->(listed.getD i false=true↔i<k))/\∃st,Rel C st a w/\ju P T n ops (ops.toList.drop k) st K) ->
   wpAnyIn (fW C.ro) 0 P .any ops (λe a' w'=>∃ax,Rel C ax a' w'/\(match e with|.normal=>K ax|_=>False)) fuel listed a w:=by
  intro fuel;induction fuel with
  |zero =>
   intro listed a w bd vD cY rj
   have dQ:∀i,i<ops.size->listed.getD i false=true:=λi hi=>by
    have h0:listed.toList.count false=0:=by omega
    have br:i<listed.size:=by omega
    have bn:listed[i]∈listed.toList:=by simp
    cases hb:listed[i]with
    |true=>simp[br,hb]
    |false=>rw[hb]at bn;exact absurd bn (ZZ.1 h0)
   have rq:l9 .any ops listed=[]:=by
    apply zQ.2;intro i hi;obtain⟨h1,o,ho,_⟩:=mem_ready.1 hi;have:=dQ i (lt ho)
    have br:i<listed.size:=by have:=lt ho;omega
    simp[br]at h1 this;rw[h1]at this;cases this
   refine⟨rq,?_⟩
   rcases rj with⟨eW,_⟩|⟨_,eW,jP⟩|⟨k,ek,dz,mh,ax,jo,hw⟩
   .have:=eW m (bm _);rw[dQ m hp.lt]at this;cases this
   .have j9:m+1=ops.size:=by
     rcases fa (m+1) ops.size with h|h
     .have:=eW (m+1) (by omega);rw[dQ (m+1) h]at this;cases this
     .have:=hp.lt;omega
    obtain⟨F1,dv,g1,g2,g3,g6⟩:=T3 jP;refine⟨⟨fA,H'⟩,⟨F1,dv,g1,g2,λt=>g6 t λi o hi _ _=>dQ i (by omega),g3⟩,?_⟩;rw[j9]at hK;exact Ct hK
   .have iI:k=ops.size:=by
     rcases fa k ops.size with h|h
     .have:=(mh k h).1 (dQ k h);omega
     .omega
    refine⟨ax,jo,?_⟩;rw[iI]at hw;exact Ct hw
  |succ fuel ih =>
   intro listed a w bd vD cY rj
   have xS:∀i,i<ops.size->(∀o,ops[i]?=V o->∀e,e∈o.after->j4 .any e=true->listed.getD e.on false=true)->∀j,j<ops.size->jj ops i j=true->listed.getD j false=true:=by
    intro i;induction i using s9 with
    |_ i rv =>
     intro hi f_ j hj iu;obtain⟨e,cW,cR,h⟩:=hp.step i _ j (gK hi) hj iu;have hl:=f_ _ (gK hi) e cW cR;have sA:=hp.dec i _ (gK hi) e cW cR
     rcases h with h|h
     .rw[<-h];exact hl
     .exact rv e.on sA (by omega) (λo ho=>cY e.on o hl ho) j hj h
   have rF:∀{i o},i∈l9 .any ops listed->ops[i]?=V o->listed.getD i false=false/\∀e,e∈o.after->j4 .any e=true->listed.getD e.on false=true:=λhi ho=>by
    obtain⟨h1,o',aF,h2⟩:=mem_ready.1 hi;rw[ho]at aF;cases aF;have:=lt ho;refine⟨?_,h2⟩;have br:=lt ho;rw[<-bd]at br;simpa [br]using h1
   have isReady:∀{i o},ops[i]?=V o->listed.getD i false=false->(∀j,j<i->listed.getD j false=true)->i∈l9 .any ops listed:=λho h1 h2=>by
    refine mem_ready.2 ⟨?_,_,ho,λe he hb=>h2 _ (hp.dec _ _ ho e he hb)⟩;have br:=lt ho;rw[<-bd]at br;simpa [br]using h1
   have next:∀i,i<ops.size->listed.getD i false=false->(listed.setIfInBounds i true).size=ops.size/\(listed.setIfInBounds i true).toList.count false<=fuel:=λi hi h1=>by
    refine⟨by simpa using bd,?_⟩
    have br:i<listed.size:=by omega
    have h2:listed.toList[i]?=V false:=by
     have:listed[i]=false:=by simpa [br]using h1
     simp[br,this]
    have:=count_set listed.toList i h2;simp only[ZN];omega
   have rY:∀i o,ops[i]?=V o->(∀e,e∈o.after->j4 .any e=true->listed.getD e.on false=true) ->
     ∀j o',(listed.setIfInBounds i true).getD j false=true->ops[j]?=V o'->∀e,e∈o'.after->j4 .any e=true->(listed.setIfInBounds i true).getD e.on false=true:=λi o ho f_ j o' hj aF e cW cR=>by
    have br:i<listed.size:=by rw[bd];exact lt ho
    rw[fI br]at hj ⊢;split
    .rfl
    .split at hj
     .rename_i e2;subst e2;rw[ho]at aF;cases aF;exact f_ e cW cR
     .exact cY j o' hj aF e cW cR
   have least:∀(q:Nat),(¬∀i,i<q->listed.getD i false=true)->∃i,i<q/\listed.getD i false=false/\∀j,j<i->listed.getD j false=true:=λq sG=>by
    have:∃i,i<q/\listed.getD i false=false:=by
     refine wY λbu=>sG λi hi=>?_;cases hb:listed.getD i false
     .exact absurd ⟨i,hi,hb⟩ bu
     .rfl
    obtain⟨i,hi,hb⟩:=this;induction i using s9 with
    |_ i rv =>
     by_cases dQ:∀j,j<i->listed.getD j false=true
     .exact⟨i,hi,hb,dQ⟩
     .have:∃j,j<i/\listed.getD j false=false:=by
       refine wY λbu=>dQ λj hj=>?_;cases hb:listed.getD j false
       .exact absurd ⟨j,hj,hb⟩ bu
       .rfl
      obtain⟨j,hj,Dz⟩:=this;exact rv j hj (by omega) Dz
   have LC:∀{i o},ops[i]?=V o->(∀e,e∈o.after->j4 .any e=true->listed.getD e.on false=true)->∀j,j<ops.size->jj ops i j=true->listed.getD j false=true:=
    λho f_ j hj hd=>xS _ (lt ho) (λo' aF=>by rw[ho]at aF;cases aF;exact f_) j hj hd
   have YJ:(∃k,m<k/\k<=ops.size/\(∀i,i<ops.size->(listed.getD i false=true↔i<k))/\∃st,Rel C st a w/\ju P T n ops (ops.toList.drop k) st K) ->
     wpAnyIn (fW C.ro) 0 P .any ops (λe a' w'=>∃ax,Rel C ax a' w'/\(match e with|.normal=>K ax|_=>False)) (fuel+1) listed a w:=by
    rintro⟨k,ek,dz,mh,ax,jo,hw⟩
    rcases fa k ops.size with iI|iI
    .have ym:ops[k]?=V ops[k]:=gK iI
     have yh:listed.getD k false=false:=by
      cases hb:listed.getD k false
      .rfl
      .have:=(mh k iI).1 hb;omega
     have lg:=isReady ym yh λj hj=>(mh j (by omega)).2 hj;refine⟨λh0=>(by rw[h0]at lg;cases lg),λi hi=>?_⟩;obtain⟨_,o,ho,_⟩:=mem_ready.1 hi;obtain⟨dH,f_⟩:=rF hi ho
     have nP:i=k:=by
      have h1:¬i<k:=λh=>by rw[(mh i (lt ho)).2 h]at dH;cases dH
      rcases fa k i with h2|h2
      .have:=LC ho f_ k iI (hp.tail i k (by omega) (lt ho) h2);rw[this]at yh;cases yh
      .omega
     subst nP;rw[drop_cons iI]at hw;rw[ho]at ym;cases ym;obtain⟨lT,lU⟩:=next i iI dH;refine uB (K:=λst=>ju P T n ops (ops.toList.drop (i+1)) st K) hT hn ho jo (λst2 a2 w2 oQ M0=>?_) hw;refine ih _ a2 w2 lT lU (rY i _ ho f_) (.inr (.inr ⟨i+1,by omega,by omega,λj hj=>?_,st2,oQ,M0⟩))
     have br:i<listed.size:=by rw[bd];exact iI
     rw[fI br];split
     .rename_i e2;subst e2;simp
     .rw[mh j hj];omega
    .have dQ:∀i,i<ops.size->listed.getD i false=true:=λi hi=>(mh i hi).2 (by omega)
     have rq:l9 .any ops listed=[]:=by
      apply zQ.2;intro i hi;obtain⟨_,o,ho,_⟩:=mem_ready.1 hi;obtain⟨dH,_⟩:=rF hi ho;rw[dQ i (lt ho)]at dH;cases dH
     refine⟨λ_=>⟨ax,jo,?_⟩,λi hi=>by rw[rq]at hi;cases hi⟩
     have:k=ops.size:=by omega
     rw[this]at hw;exact Ct hw
   rcases rj with⟨eW,jP⟩|⟨vL,eW,jP⟩|rj
   ·-- FY store is to akn
    have Nc:=eW m (bm _)
    obtain⟨i0,q_,eu,xQ⟩:=least (m+1) λhh=>by have:=hh m (by omega);rw[Nc]at this;cases this
    have yb:i0<ops.size:=by have:=hp.lt;omega
    have db:=isReady (gK yb) eu xQ;refine⟨λh0=>(by rw[h0]at db;cases db),λi hi=>?_⟩;obtain⟨_,o,ho,_⟩:=mem_ready.1 hi;obtain⟨dH,f_⟩:=rF hi ho;have iu:=LC ho f_;obtain⟨lT,lU⟩:=next i (lt ho) dH
    have iX:i<=m:=by
     rcases fa m i with h|h
     .have:=iu m hp.lt (hp.tail i m h (lt ho) h);rw[this]at Nc;cases Nc
     .exact h
    have br:i<listed.size:=by rw[bd];exact lt ho
    rcases fa i m with iX|iX
    .have cont:∀a w,oB C (lH T) ops m fA Hm (listed.setIfInBounds i true) a w->wpAnyIn (fW C.ro) 0 P .any ops (λe a' w'=>∃ax,Rel C ax a' w'/\(match e with|.normal=>K ax|_=>False)) fuel (listed.setIfInBounds i true) a w:=λa2 w2 hh=>by
      refine ih _ a2 w2 lT lU (rY i o ho f_) (.inl ⟨λj hj=>?_,hh⟩);rw[fI br];split
      .omega
      .exact eW j hj
     cases aY:ee o with
     |none=>exact Mx hT hn hp.toPlan0.s bd iX ho aY dH (λj hj hd=>iu j (by have:=hp.lt;omega) hd) Dn eN.inv.keys (bU o (Bg iX ho aY)) (Ξ o (Bg iX ho aY)) jP cont
     |some x =>
      obtain⟨d,t⟩:=x;obtain⟨q2,c,xT,q1⟩:=Dl d t (kg.2 ⟨i,o,iX,ho,aY⟩);cases t with
      |some t =>
       obtain⟨z,q3,q4,rfl⟩:=xT;exact T1 hT hn hp.toPlan0 bd iX ho aY dH q3 q4 q1 q2 (eY d _ (kg.2 ⟨i,o,iX,ho,aY⟩)) jP cont
      |none =>
       obtain⟨c',fZ,qm⟩:=IB hb.1 (oU.2 ⟨i,iX,ho⟩) aY;obtain rfl:c'=c:=lH.uniq (T:=T) (x:=none) fZ xT;exact T2 hn hp.toPlan0 bd iX ho aY dH (λj hj hd=>iu j (by have:=hp.lt;omega) hd) Dn xT qm q1 q2 (eY d _ (kg.2 ⟨i,o,iX,ho,aY⟩)) jP cont
    .obtain rfl:i=m:=by omega
     rw[AZ]at ho;cases ho
     have T4:∀j o',j<i->ops[j]?=V o'->ee o'≠none->listed.getD j false=true:=λj o' hj aF ha=>by
      rcases hp.late j o' hj aF with h|h
      .exact iu j (lt aF) h
      .exact absurd h.1 ha
     obtain⟨F1,dv,g1,g2,g3,g6⟩:∃F β,a.tmps.size=C.n/\True/\XM C a.defers w F β HA /\
       (∀t,(∀j o,j<i->ops[j]?=V o->o.dst=V t->listed.getD j false=true)->Rd w F β (fA t) (a.tmps.getD t undef)):=by
      obtain⟨F1,dv,H1,g1,g2,g3,g4,g5,g6⟩:=jP.ex;refine⟨F1,dv,g1,g2,g3.Ah (λx=>?_) Dm,g6⟩;rw[g4 x,HD x];constructor
      .rintro (h|⟨d,t,z,h1,h2,h3⟩)
       .exact .inl h
       .obtain⟨j,o',hj,aF,aY⟩:=kg.1 h1;exact .inr ⟨j,o',d,t,z,hj,T4 j o' hj aF (by rw[aY];simp),aF,aY,h2,h3⟩
      .rintro (h|⟨j,o',d,t,z,hj,_,aF,aY,h2,h3⟩)
       .exact .inl h
       .exact .inr ⟨d,t,z,kg.2 ⟨j,o',hj,aF,aY⟩,h2,h3⟩
     obtain⟨fw,ew⟩:=hp.store _ AZ
     obtain⟨known,UI,jQ⟩:∃known:Nat->AV,(∀t,(∀j o,j<i->ops[j]?=V o->o.dst=V t->listed.getD j false=true)->known t=fA t)/\∀t,Rd w F1 dv (known t) (a.tmps.getD t undef):=by
      classical
      refine⟨λt=>if∀j o,j<i->ops[j]?=V o->o.dst=V t->listed.getD j false=true then fA t else .Δ,λt ht=>if_pos ht,λt=>?_⟩;simp only;split
      .rename_i hh;exact g6 t hh
      .exact .Δ
     have AQ:∀t,t∈om.looksAt ops->known t=fA t:=λt ht=>UI t λj o' hj aF bF=>by
      exact iu j (by have:=lt aF;omega) (hp.aet om t j o' AZ ht hj aF bF)
     have vF:∀x,x∈om.op.operands->ev known x=ev fA x:=λx hx=>by
      cases x with
      |tmp t=>exact AQ t (nC _ (my.2 ⟨.tmp t,by simpa using hx,rfl⟩))
      |_=>rfl
     have adF:gd n ops om ⟨known,HA⟩ (λst=>step P T om st λr ax=>put n om.dst ax r λs=>s=⟨known,H'⟩) λst=>put n om.dst st (.v undef) λs=>s=⟨known,H'⟩:=by
      rw[sa,ew];have h1:=cO known;have e1:ev known xs=ev fA xs:=vF xs (by rw[Nk];simp[te]);have e2:ev known ys=ev fA ys:=vF ys (by rw[Nk];simp[te])
      have h2:vn T ts (ev known xs) (ev known ys) ⟨known,HA⟩ λr ax=>put n om.dst ax r λs=>s=⟨known,H'⟩:=by
       rw[e1,e2,fw]
       have:(λ(r:AV)(ax:ak)=>put n none ax r λs=>s=⟨known,H'⟩)=λ_ ax=>ax=⟨known,H'⟩:=by
        funext r ax;rw[put_eq]
       rw[this];exact h1
      have h3:step P T om ⟨known,HA⟩ (λr ax=>put n om.dst ax r λs=>s=⟨known,H'⟩)=B2 P T om ⟨known,HA⟩ λr ax=>put n om.dst ax r λs=>s=⟨known,H'⟩:=by
       unfold step;rw[fw];rfl
      show step P T om ⟨known,HA⟩ _;rw[h3];unfold B2;rw[Nk];exact h2
     refine uB (st:=⟨known,HA⟩) (K:=λs=>s=⟨known,H'⟩) hT hn AZ ⟨F1,dv,g1,g2,jQ,g3⟩ (λst2 a2 w2 oQ dz=>?_) adF;subst dz;obtain⟨F2,bW,q1,q2,q3,q4⟩:=oQ;refine ih _ a2 w2 lT lU (rY i om AZ f_) (.inr (.inl ⟨by rw[fI br,if_pos rfl],λj hj=>?_,acu (λj o' hj aF ha=>by rw[fI br];split;rfl;exact T4 j o' hj aF ha) q1 q2 q4 λt ht=>?_⟩))
     .rw[fI br,if_neg (by omega)];exact eW j (by omega)
     .have h1:=q3 t
      have:known t=fA t:=UI t λj o' hj aF bF=>by
       have:=ht j o' hj aF bF;rwa [fI br,if_neg (by omega)]at this
      rw[<-this];exact h1
   ·-- FY store is done
    by_cases sG:∀i,i<m->listed.getD i false=true
    .refine YJ ⟨m+1,by omega,by have:=hp.lt;omega,λi hi=>⟨λh=>?_,λh=>?_⟩,⟨fA,H'⟩,?_,hK⟩
     .rcases fa m i with h1|h1
      .rw[eW i h1]at h;cases h
      .omega
     .rcases fa i m with h1|h1
      .exact sG i h1
      .obtain rfl:i=m:=by omega
       exact vL
     .obtain⟨F1,dv,g1,g2,g3,g6⟩:=T3 jP;exact⟨F1,dv,g1,g2,λt=>g6 t λi o hi _ _=>sG i hi,g3⟩
    .obtain⟨i0,q_,eu,xQ⟩:=least m sG
     have yb:i0<ops.size:=by have:=hp.lt;omega
     have db:=isReady (gK yb) eu xQ;refine⟨λh0=>(by rw[h0]at db;cases db),λi hi=>?_⟩;obtain⟨_,o,ho,_⟩:=mem_ready.1 hi;obtain⟨dH,f_⟩:=rF hi ho;have iu:=LC ho f_;obtain⟨lT,lU⟩:=next i (lt ho) dH
     have br:i<listed.size:=by rw[bd];exact lt ho
     have iX:i<m:=by
      rcases fa m i with h|h
      .have:=iu i0 yb (hp.tail i i0 h (lt ho) (by omega));rw[this]at eu;cases eu
      .rcases fa i m with h2|h2
       .exact h2
       .obtain rfl:i=m:=by omega
        rw[vL]at dH;cases dH
     obtain⟨aY,adp⟩:ee o=none/\uS P T ops H' fA o:=by
      rcases hp.late i o iX ho with h|h
      .have:=xS m hp.lt (λo ho=>cY m o vL ho) i (by omega) h;rw[this]at dH;cases dH
      .exact⟨h.1,Oa M8 i o h.2 ho⟩
     refine Mx hT hn hp.toPlan0.s bd iX ho aY dH (λj hj hd=>iu j (by have:=hp.lt;omega) hd) (λ_ _=>rfl) UH adp (Ξ o (Bg iX ho aY)) jP λa2 w2 hh=>?_;refine ih _ a2 w2 lT lU (rY i o ho f_) (.inr (.inl ⟨?_,λj hj=>?_,hh⟩))
     .rw[fI br];split
      .rfl
      .exact vL
     .rw[fI br,if_neg (by omega)];exact eW j hj
   .exact YJ rj
 have rep:∀i,(oj ops.size false).getD i false=false:=λi=>by
  simp only[lA,ZL];split<;>rfl
 refine key ops.size _ a w (by simp) (by simp) (λi o hi=>by rw[rep]at hi;cases hi) (.inl ⟨λi _=>rep i,F,ay,Hm,hs,hd,eN,λx=>⟨.inl,λh=>?_⟩,λi o d t hi ho aY _=>yv d (.inr ⟨t,kg.2 ⟨i,o,hi,ho,aY⟩⟩),λt ht=>?_⟩)
 .rcases h with h|⟨i,o,d,t,z,h1,h2,_⟩
  .exact h
  .rw[rep]at h2;cases h2
 .have bu:∀i o,i<m->ops[i]?=V o->o.dst≠V t:=λi o hi ho bF=>by
   have:=ht i o hi ho bF;rw[rep]at this;cases this
  rw[Dp t λj o' ty hj aF aY=>bu j o' hj aF (kR aY).1,lQ t λo ho=>by
   obtain⟨i,hi,aF⟩:=oU.1 (dK.1 ho).1
   exact bu i o hi aF]
  show Rd _ _ _ (preB (eC m ops) (jM (eC m ops) st).f t) _
  rw[ED λx hx=>by
   obtain⟨j,o',hj,aF,aY⟩:=kg.1 hx
   exact bu j o' hj aF (kR aY).1]
  exact q7 t
end
end
section
open Go.RowKit
variable[M:cD][G:ed]
section
variable{P:Program}{T:TT}{w:World}{F:Nat->Prop}{β:Nat->Value}
def L4{st:ak}{w':World}{F':Nat->Prop}{d:Nat}{c:Chunk}{v:Value}(hd:d<1000)(hI:Inv w F β st.H)(hb:Below w.heap.size w w')(kE:∀b,F b->F' b)(tM:∀b,F' b->fK F w w' b)
  (eY:∀b,bP v=V b->w.heap.size<=b/\¬F' b) (hc:c.holds w' F' (λi=>if i=d then v else β i) d) :
  Ext w F β st w' F' (λi=>if i=d then v else β i) (ij st d c):=by
 have an:∀i,i≠d->(λi=>if i=d then v else β i) i=β i:=λi hi=>if_neg hi;have ha:gn F w w':=Below.agree hb hI.cH
 have dB:∀b,bH (λi=>if i=d then v else β i) ((d,c)::iq d st.H) b->(w.heap.size<=b/\¬F' b)\/bH β st.H b:=by
  rintro b ⟨i,c',hm,aN⟩
  rcases bp.1 hm with hm|hm
  .cases hm;simp only[if_true]at aN;exact .inl (eY b aN)
  .obtain⟨hi,c2,h2,_⟩:=iH hm;simp only[if_neg hi]at aN;exact .inr ⟨i,c2,h2,aN⟩
 refine⟨hb.os,hb.tape,hb.output,hb.size,λb h _=>hb.block b h,kE,λb h=>(tM b h).elim .inl λh=>.inr (.inl h.1),λb h=>(dB b h).elim (λh=>.inl h.1) .inr,λt u h=>rZ an 2 (h.frame ha kE),?_,λi hi=>an i (by omega)⟩;refine⟨λb h=>(tM b h).elim (λh=>ou (hI.cH b h) hb.size) λh=>h.2,?_,?_,λb ho hF=>?_,?_,hI.fC.frame ha kE⟩
 .intro i c' hm
  rcases bp.1 hm with hm|hm
  .cases hm;exact hc
  .obtain⟨hi,c2,h2,rfl⟩:=iH hm;exact HY hi an (pM ha kE (λb aN=>hb.block b (hI.gg ⟨i,c2,h2,aN⟩)) (hI.holds i c2 h2))
 .show ((d::(iq d st.H).map (·.1))).Nodup;rw[iO];refine⟨λhm=>?_,C8 hI.keys⟩;obtain⟨x,hx,jU⟩:=cL.1 hm;obtain⟨i,c'⟩:=x;exact(iH hx).1 jU
 .rcases dB b ho with h|h
  .exact h.2 hF
  .rcases tM b hF with h1|h1
   .exact hI.apart b h h1
   .exact absurd (hI.gg h) (mJ.2 h1.1)
 .have key:∀i c' b,(i,c')∈iq d st.H->bP (β i)=V b->bP v=V b->False:=λi c' b hm cR hv=>by
   obtain⟨hi,c2,h2,_⟩:=iH hm;exact absurd (hI.gg ⟨i,c2,h2,cR⟩) (mJ.2 (eY b hv).1)
  intro i c1 i' pn b hm bN cR aN
  rcases bp.1 hm with hm|hm<;>rcases bp.1 bN with bN|bN
  .cases hm;cases bN;rfl
  .cases hm;simp only[if_true]at cR;simp only[if_neg (iH bN).1]at aN;exact(key i' pn b bN aN cR).elim
  .cases bN;simp only[if_true]at aN;simp only[if_neg (iH hm).1]at cR;exact(key i c1 b hm cR aN).elim
  .obtain⟨hi,c2,h2,_⟩:=iH hm;obtain⟨br,z_,iT,_⟩:=iH bN;simp only[if_neg hi]at cR;simp only[if_neg br]at aN;exact hI.eD i c2 i' z_ b h2 iT cR aN
def j5(P:Program)(g:FuncId)(args:List AV)(E K:Nat)(rows:List (List AV)):Prop:=
 qb P g/\∀(w:World)(F:Nat->Prop)(β:Nat->Value)(vs:Array Value),Inv w F β []->vs.size=args.length->(∀i,i<args.length->Rd w F β (args.getD i .Δ) (vs.getD i undef)) ->
  Calls P g vs w λe w'=>∃v,e=.returned v/\Below w.heap.size w w'/\∃F',(∀b,F b->F' b)/\(∀b,F' b->fK F w w' b)/\Chunk.holds w' F' (λ_=>v) 0 (.own E K rows)/\(∃a n c,v=.slice a n c) /\
   ∀b,bP v=V b->w.heap.size<=b/\¬F' b
def K9(E K:Nat)(rows:List (List AV))(x:AV)(st:ak):Prop:=
 (x=.v (.slice none 0 0)/\rows=[])\/∃id,x=.o id/\dP id st.H=V (.own E K rows)
def Oz{id:Nat}{E K:Nat}{rows:List (List AV)}(h:Chunk.holds w F β id (.own E K rows)):∀(ay:Nat->Value)(i:Nat),ay i=β id->Chunk.holds w F ay i (.own E K rows):=by
 intro ay i hi;unfold Chunk.holds at *;rw[hi];exact h
def Ω.own{g:FuncId}{xs ys:List AV}{st:ak}{E K D:Nat}{rows:List (List AV)}{k:AV->ak->Prop}(h:j5 P g ys E K rows)(hle:jh xs ys)(hD:eS D 1000=true)(hk:k (.o D) (ij st D (.own E K rows))):Ω P g xs st k:=by
 obtain⟨hl,hz⟩:=hle.spec;refine⟨h.1,λw F β vs hI hs hv=>(h.2 w F β vs hI.nil (by omega) λi hi=>hz i (by omega) _ _ _ _ (hv i (by omega))).mono ?_⟩;rintro e w' ⟨v,rfl,hb,F',h1,h2,h3,⟨a,m,c,rfl⟩,h4⟩;exact⟨_,rfl,.o D,_,F',_,hk,.o (by simp),L4 (by simpa using hD) hI hb h1 h2 h4 (Oz h3 _ _ (by simp))⟩
def j5.makes{g:FuncId}{args:List AV}{E K:Nat}{rows:List (List AV)}(h:j5 P g args E K rows):K_ P g args (.own E K rows):=
 ⟨h.1,λw F β vs hI hs hv=>(h.2 w F β vs hI hs hv).mono λe w'=>by
  rintro⟨v,rfl,hb,F',hm,hn,hc,⟨a,n,c,rfl⟩,hf⟩
  exact⟨_,rfl,hb,F',hm,hn,λay i hi=>⟨Oz hc ay i hi,.o hi⟩,hf⟩⟩
def j5.pure{g:FuncId}{args:List AV}{E K:Nat}{rows:List (List AV)}(h:j5 P g args E K rows):Pure P g args (.s rows):=by
 refine⟨h.1,λw F β vs hI hs hv=>(h.2 w F β vs hI hs hv).mono ?_⟩;rintro e w' ⟨v,rfl,hb,F',h1,h2,h3,⟨a,m,c,rfl⟩,h4⟩;refine⟨_,rfl,hb,?_⟩
 rcases h3 with⟨rfl,a',hv⟩|⟨g',cap,cur,hv,hc,hg,hn,gA,bd,hK,hr⟩
 .cases hv;exact .s0
 .cases hv
  have h0:aM c 0=false:=by cases c<;>first|rfl|omega
  have eW:=(h4 g' (by simp[bP,h0])).1;refine .s (off:=0) (k:=K) (u:=λi j=>cur.getD (i*K+j) undef) (.inr ⟨eW,kS hg⟩) hn gA hK (λi j hi hj=>?_) (λi j hi hj=>(hr i j hi hj).1) λi j hi hj=>(hr i j hi hj).2.frame (λ_ _=>rfl) h2;rw[j3,cell_of_row w' g' _ cur E (0,0) hg]
  have:i*K+j<cur.size:=by
   rw[bd]
   calc i*K+j<i*K+K:=by omega
    _=(i+1)*K:=by rw[bM];omega
    _<=c*K:=Nat.mul_le_mul_right _ (by omega)
  simp[this]
end
abbrev vi(n:Int):AV:=.v (.int .i64 n)
abbrev vb(b:Bool):AV:=.v (.bool b)
abbrev bs(l:List UInt8):AV:=.s (l.map lM)
def encI(n:Int):List AV:=[.v (.int .i64 n)]
abbrev is(l:List Int):AV:=.s (l.map encI)
def Fz.v'{H:Hp}{x y:Value}(h:x=y):Fz H (.v x) (.v y):=h▸Fz.v
def Fz.s'{H:Hp}{x y:List (List AV)}(h:x=y):Fz H (.s x) (.s y):=h▸Fz.s
def c_{α:Type}{f:α->List AV}{n:Nat}(h:∀x,(f x).length=n)(l:List α):pj (l.map f) n:=λr hr=>by
 obtain⟨x,_,rfl⟩:=cL.1 hr;exact h x
end
section
open Go.ChangeShapes Go.WideShapes Go.RowKit
variable[M:cD][G:ed]
mutual
inductive fb(P:Program):TypeId->List AV->Prop where
 |bool {t:TypeId} {b:Bool} (h:P.underlying t=V .bool):fb P t [.v (.bool b)]
 |int {t:TypeId} {k:IntKind} {n:Int} (h:P.underlying t=V (.int k)) (hn:(Lit.int k n).wf=true):fb P t [.v (.int k n)]
 |str {t:TypeId} {s:ByteArray} (h:P.underlying t=V .string) (hs:s.size<=maxLen):fb P t [.v (.string s)]
 |slice {t e:TypeId} {rows:List (List AV)} (h:P.underlying t=V (.slice e)) (hl:rows.length<=maxLen) (hk:∀r,r∈rows->r.length=P.cellsOf e) (hr:∀r,r∈rows->fb P e r):fb P t [.s rows]
 |struct {t:TypeId} {fs:Array Field} {xs:List AV} (h:P.underlying t=V (.struct fs)) (hf:mM P (fs.toList.map (·.type)) xs):fb P t xs
 |arr {t e:TypeId} {n:Nat} {xs:List AV} (h:P.underlying t=V (.array n e)) (hf:mM P (ia n e) xs):fb P t xs
inductive mM(P:Program):List TypeId->List AV->Prop where
 |nil:mM P [] []
 |cons {t:TypeId} {ts:List TypeId} {xs ys:List AV} (h:fb P t xs) (hs:mM P ts ys):mM P (t::ts) (xs++ys)
end
def qM(P:Program)(t:TypeId)(x:AV):Prop:=
 match P.underlying t with
 |some (.struct _)=>∃cs,x=.a cs/\fb P t cs
 |some (.array _ _)=>∃cs,x=.a cs/\fb P t cs
 |_=>fb P t [x]
inductive oA(P:Program):List TypeId->List AV->Prop where
 |nil:oA P [] []
 |cons {t:TypeId} {ts:List TypeId} {x:AV} {xs:List AV} (h:qM P t x) (hs:oA P ts xs):oA P (t::ts) (x::xs)
def qw(P:Program):Nat->TypeId->Bool
 |0,_=>false
 |n+1,t=>match P.underlying t with
  |some .bool|some (.int _)|some .string=>true
  |some (.slice e)=>qw P n e&&eS 0 (P.cellsOf e)
  |some (.struct fs)=>fs.toList.all λf=>qw P n f.type
  |some (.array _ e)=>qw P n e
  |_=>false
def j6(P:Program)(t:TypeId):Prop:=t<P.types.size/\∃n,qw P n t=true
def j6.slice{P:Program}(hl:laidOutB P=true){t e:TypeId}(h:j6 P t)(hu:P.underlying t=V (.slice e)):j6 P e/\0<P.cellsOf e:=by
 obtain⟨ht,n,hn⟩:=h;cases n with
 |zero=>cases hn
 |succ n =>
  simp only[qw,hu,bR,gW]at hn;exact⟨⟨kid_slice hl ht hu,n,hn.1⟩,hn.2⟩
def j6.struct{P:Program}(hl:laidOutB P=true){t:TypeId}{fs:Array Field}(h:j6 P t)(hu:P.underlying t=V (.struct fs)):
  (∀f∈fs.toList,j6 P f.type)/\P.cellsOf t=(fs.toList.map λf=>P.cellsOf f.type).sum/\∀(j:Nat)f,fs.toList[j]?=V f->f.offset=((fs.toList.take j).map λf=>P.cellsOf f.type).sum:=by
 obtain⟨ht,n,hn⟩:=h;obtain⟨h1,h2,h3⟩:=kid_struct hl ht hu;refine⟨λf hf=>⟨h1 f hf,?_⟩,h2,h3⟩;cases n with
 |zero=>cases hn
 |succ n =>
  simp only[qw,hu,eo]at hn;exact⟨n,hn f hf⟩
def j6.array{P:Program}(hl:laidOutB P=true){t e:TypeId}{k:Nat}(h:j6 P t)(hu:P.underlying t=V (.array k e)):j6 P e/\P.cellsOf t=k*P.cellsOf e:=by
 obtain⟨ht,n,hn⟩:=h;obtain⟨h1,h2⟩:=kid_array hl ht hu;cases n with
 |zero=>cases hn
 |succ n =>
  simp only[qw,hu]at hn;exact⟨⟨h1,n,hn⟩,h2⟩
def j6.no{P:Program}{t:TypeId}(h:j6 P t):(∀e,P.underlying t≠V (.pointer e))/\(∀k e,P.underlying t≠V (.map k e)):=by
 obtain⟨_,n,hn⟩:=h;cases n with
 |zero=>cases hn
 |succ n=>refine⟨λe he=>?_,λk e he=>?_⟩<;>simp[qw,he]at hn
def afN{P:Program}(hl:laidOutB P=true):Kids P (j6 P):=
 ⟨λh hu=>(h.no.1 _ hu).elim,λh hu=>(h.slice hl hu).1,λh hu=>h.array hl hu,λh hu=>h.struct hl hu,λh hu=>(h.no.2 _ _ hu).elim⟩
section
variable{H:Type}{enc:TypeId×Value->H}{P:Program}{w:World}{base:Nat}{held:Bool}
abbrev Old(w:World):Nat->Prop:=λb=>b<w.heap.size
structure Good(P:Program)(w:World)(D:List AV->Prop)(cs:List Value)(xs:List AV):Prop where
 len:xs.length=cs.length
 xE:D xs
 rd:∀i,i<cs.length->bq w (Old w) (xs.getD i .Δ) (cs.getD i undef)/\(cs.getD i undef).oneCell'=true
def Good.one{D:List AV->Prop}{x:AV}{v:Value}(hd:D [x])(hr:bq w (Old w) x v)(h1:v.oneCell'=true):Good P w D [v] [x]:=
 ⟨rfl,hd,λi hi=>by
  have:i=0:=by simpa using hi
  subst this;exact⟨hr,h1⟩⟩
def Good.app{t:TypeId}{ts:List TypeId}{a b:List Value}{xs ys:List AV}(h:Good P w (fb P t) a xs)(h':Good P w (mM P ts) b ys):Good P w (mM P (t::ts)) (a++b) (xs++ys):=by
 refine⟨by simp[h.len,h'.len],.cons h.xE h'.xE,λi hi=>?_⟩;by_cases Ξ:i<a.length
 .have e1:(xs++ys).getD i .Δ=xs.getD i .Δ:=by simp[bc,gV,h.len,Ξ]
  have e2:(a++b).getD i undef=a.getD i undef:=by simp[bc,gV,Ξ]
  rw[e1,e2];exact h.rd i Ξ
 .have e1:(xs++ys).getD i .Δ=ys.getD (i-a.length) .Δ:=by simp[bc,gV,h.len,Ξ]
  have e2:(a++b).getD i undef=b.getD (i-a.length) undef:=by simp[bc,gV,Ξ]
  rw[e1,e2];exact h'.rd _ (by rw[List.length_append]at hi;omega)
def TO{r:TypeId->List Value->Option (DataW H×List MemPlace)}(hr:∀t cs x,j6 P t->r t cs=V x->∃xs,Good P w (fb P t) cs xs):
  ∀(fs:List Field)(o:Nat)(cs:List Value),(∀f,f∈fs->j6 P f.type)->(∀(j:Nat)f,fs[j]?=V f->f.offset=o+((fs.take j).map λf=>P.cellsOf f.type).sum)->cs.length=o+(fs.map λf=>P.cellsOf f.type).sum ->
   (∀f,f∈fs->∃x,r f.type ((cs.drop f.offset).take (P.cellsOf f.type))=V x)->∃xs,Good P w (mM P (fs.map (·.type))) (cs.drop o) xs
 |[],o,cs,_,_,hl,_=>by
  have:cs.drop o=[]:=kN (by simp at hl;omega);rw[this];exact⟨[],rfl,.nil,λi hi=>by simp at hi⟩
 |f::fs,o,cs,hp,ho,hl,hx=>by
  have h0:f.offset=o:=by simpa using ho 0 f rfl
  obtain⟨x,NQ⟩:=hx f (by simp);obtain⟨xs,hg⟩:=hr _ _ _ (hp f (by simp)) NQ;rw[h0]at hg
  obtain⟨ys,AL⟩:=TO hr fs (o+P.cellsOf f.type) cs (λg hg=>hp g (by simp[hg])) (λj g hg=>by
   have:=ho (j+1) g (by simpa using hg)
   rw[this];simp;omega) (by simp at hl;omega) (λg hg=>hx g (by simp[hg]))
  refine⟨xs++ys,?_⟩
  have e:cs.drop o=(cs.drop o).take (P.cellsOf f.type)++cs.drop (o+P.cellsOf f.type):=by
   rw[<-ali,qL]
  rw[e];exact hg.app AL
def Iy{α β:Type}{f:α->Option β}{l:List α}{r:List β}(h:l.mapM f=V r){x:α}(hx:x∈l):∃y,f x=V y:=by
 cases hf:f x with
 |none=>rw[mapM_none_of hx hf]at h;cases h
 |some y=>exact⟨y,rfl⟩
def TN{r:TypeId->List Value->Option (DataW H×List MemPlace)}(hr:∀t cs x,j6 P t->r t cs=V x->∃xs,Good P w (fb P t) cs xs){e:TypeId}(he:j6 P e):
  ∀(n o:Nat)(cs:List Value),cs.length=o+n*P.cellsOf e->(∀i,i<n->∃x,r e ((cs.drop (o+i*P.cellsOf e)).take (P.cellsOf e))=V x)->∃xs,Good P w (mM P (ia n e)) (cs.drop o) xs
 |0,o,cs,hl,_=>by
  have:cs.drop o=[]:=kN (by simp at hl;omega);rw[this];exact⟨[],rfl,.nil,λi hi=>by simp at hi⟩
 |n+1,o,cs,hl,hx=>by
  obtain⟨x,NQ⟩:=hx 0 (Nat.succ_pos n);obtain⟨xs,hg⟩:=hr _ _ _ he NQ;rw[Nat.zero_mul,Nat.add_zero]at hg
  obtain⟨ys,AL⟩:=TN hr he n (o+P.cellsOf e) cs (by rw[hl,bM];omega) (λi hi=>by
   have:=hx (i+1) (by omega)
   rwa [bM,Nat.one_mul,show o+(i*P.cellsOf e+P.cellsOf e)=o+P.cellsOf e+i*P.cellsOf e by omega]at this)
  refine⟨xs++ys,?_⟩
  have e0:cs.drop o=(cs.drop o).take (P.cellsOf e)++cs.drop (o+P.cellsOf e):=by
   rw[<-ali,qL]
  rw[e0,List.replicate_succ];exact hg.app AL
def aco{t e:TypeId}{a:Addr}{len cap:Nat}(hu:P.underlying t=V (.slice e))(hk:0<P.cellsOf e)(nR:len<=cap)(nM:cap<=maxLen)
  (h:∀i,i<cap->∃ci,w.cells? base (a.add (i*P.cellsOf e)) (P.cellsOf e)=V ci/\∃xs,Good P w (fb P e) ci xs):∃xs,Good P w (fb P t) [.slice (V a) len cap] xs:=by
 by_cases hc:cap=0
 .obtain rfl:len=0:=by omega
  subst hc;exact⟨_,Good.one (.slice (rows:=[]) hu (Nat.zero_le _) (λ_ h=>by cases h) (λ_ h=>by cases h)) .s0 rfl⟩
 .obtain⟨f,hf⟩:=Classical.axiomOfChoice (r:=λi(p:List Value×List AV)=>i<cap->w.cells? base (a.add (i*P.cellsOf e)) (P.cellsOf e)=V p.1/\Good P w (fb P e) p.1 p.2) (λi=>by
   by_cases hi:i<cap
   .obtain⟨ci,h1,xs,h2⟩:=h i hi;exact⟨(ci,xs),λ_=>⟨h1,h2⟩⟩
   .exact⟨([],[]),λh=>(hi h).elim⟩)
  obtain⟨b,off,sp⟩:=a
  have c0:∃v,w.cell? ⟨b,off,sp⟩=V v:=by
   obtain⟨_,hlen,hc⟩:=Sb (hf 0 (by omega)).1;have:=hc 0 hk;rw[bD (by omega)]at this;refine⟨_,Eq.trans ?_ this⟩;simp[Addr.add]
  obtain⟨v0,c0⟩:=c0;obtain rfl:sp=none:=World.cell?_spot c0
  have cell:∀i j,i<cap->j<P.cellsOf e->w.cell? ⟨b,off+(i*P.cellsOf e+j),none⟩=V ((f i).1.getD j undef):=λi j hi hj=>by
   obtain⟨_,hlen,hc⟩:=Sb (hf i hi).1;have:=hc j hj;rw[bD (by omega)]at this;simp only[bc,bD (show j<(f i).1.length by omega),Option.getD_some];rw[<-this];congr 1;unfold Addr.add;by_cases h1:i*P.cellsOf e=0<;>by_cases h2:j=0<;>simp[h1,h2,Nat.add_assoc]
  have hb:b<w.heap.size:=by
   unfold World.cell? at c0;split at c0
   .rename_i he;exact kS he
   .cases c0
  have HR:∀i,i<cap->(f i).2.length=P.cellsOf e/\(f i).1.length=P.cellsOf e:=λi hi=>by
   obtain⟨_,hlen,_⟩:=Sb (hf i hi).1;exact⟨(hf i hi).2.len.trans hlen,hlen⟩
  have hlen:((gM len).map λi=>(f i).2).length=len:=by simp
  have get:∀i,i<len->((gM len).map λi=>(f i).2).getD i []=(f i).2:=λi hi=>by simp[bc,hi]
  have mem:∀r,r∈((gM len).map λi=>(f i).2)->∃i,i<len/\r=(f i).2:=λr hr=>by
   obtain⟨i,hi,rfl⟩:=cL.1 hr;exact⟨i,mz.1 hi,rfl⟩
  refine⟨[.s ((gM len).map λi=>(f i).2)],Good.one (.slice hu (by rw[hlen];omega) (λr hr=>?_) (λr hr=>?_)) ?_ rfl⟩
  .obtain⟨i,hi,rfl⟩:=mem r hr;exact(HR i (by omega)).1
  .obtain⟨i,hi,rfl⟩:=mem r hr;exact(hf i (by omega)).2.xE
  .have:=bq.s (w:=w) (F:=Old w) (rows:=(gM len).map λi=>(f i).2) (b:=b) (off:=off) (c:=cap) (k:=P.cellsOf e) (u:=λi j=>(f i).1.getD j undef) hb (by rw[hlen];exact nR) nM
    (λi hi=>by rw[hlen]at hi;rw[get i hi];exact(HR i (by omega)).1)
    (λi j hi hj=>cell i j (by rw[hlen]at hi;omega) hj)
    (λi j hi hj=>by rw[hlen]at hi;exact((hf i (by omega)).2.rd j (by rw[(HR i (by omega)).2];exact hj)).2)
    (λi j hi hj=>by rw[hlen]at hi;rw[get i hi];exact((hf i (by omega)).2.rd j (by rw[(HR i (by omega)).2];exact hj)).1)
   rwa [hlen]at this
def acp(hl:laidOutB P=true):∀(n:Nat)(t:TypeId)(cs:List Value)(x:DataW H×List MemPlace),j6 P t ->
  Cx enc P w base (λ_=>true) held n t cs=V x->∃xs,Good P w (fb P t) cs xs:=by
 intro n;induction n with
 |zero=>intro t cs x _ h;simp[Cx]at h
 |succ n ih =>
  intro t cs x hp h;have iJ:=hp;obtain⟨ht,m,hm⟩:=iJ;cases m with
  |zero=>cases hm
  |succ m =>
   cases hu:P.underlying t with
   |none=>simp[qw,hu]at hm
   |some d =>
    cases d with
    |bool =>
     simp only[Cx,hu]at h;split at h<;>simp_all;exact⟨_,Good.one (.bool hu) (.v (.inl rfl)) rfl⟩
    |int k =>
     simp only[Cx,hu]at h;split at h<;>simp_all;obtain⟨⟨rfl,hw⟩,_⟩:=h;exact⟨_,Good.one (.int hu hw) (.v (.inl rfl)) rfl⟩
    |string =>
     simp only[Cx,hu]at h;split at h<;>simp_all;exact⟨_,Good.one (.str hu h.1) (.v (.inl rfl)) rfl⟩
    |slice e =>
     obtain⟨he,hk⟩:=hp.slice hl hu;rw[Rt]at h;unfold Rs at h;rw[hu]at h;split at h
     case h_7=>exact⟨_,Good.one (.slice (rows:=[]) hu (Nat.zero_le _) (λ_ h=>by cases h) (λ_ h=>by cases h)) .s0 rfl⟩
     case h_8 e' a len cap e1 =>
      cases e1;simp only at h;split at h
      case isFalse=>cases h
      case isTrue hb =>
      obtain⟨_,nR,nM⟩:=hb;cases MN:List.mapM (λi=>(w.cells? base (a.add (i*P.cellsOf e)) (P.cellsOf e)).bind (Cx enc P w base (λx=>true) held n e)) (gM len)with
      |none=>rw[MN]at h;cases h
      |some elems =>
      rw[MN]at h;simp only[aS,if_true,CE]at h;obtain⟨rest,nS,_⟩:=h
      exact aco hu hk nR nM λi hi=>by
       by_cases vK:i<len
       .obtain⟨y,hy⟩:=Iy MN (mz.2 vK);obtain⟨ci,hc,hy⟩:=aaf.1 hy;exact⟨ci,hc,ih _ _ _ he hy⟩
       .obtain⟨y,hy⟩:=Iy nS (mz.2 (show i-len<cap-len by omega));rw[show len+(i-len)=i by omega]at hy;obtain⟨ci,hc,hy⟩:=aaf.1 hy;exact⟨ci,hc,ih _ _ _ he hy⟩
     all_goals first|(rename_i e1;cases e1;done)|(rename_i e1 _;cases e1;done)|cases h
    |struct fs =>
     obtain⟨h1,h2,h3⟩:=hp.struct hl hu;rw[Rt]at h;unfold Rs at h;rw[hu]at h;simp only at h;split at h
     case isFalse=>cases h
     case isTrue fD =>
     obtain⟨l,j8,_⟩:=CE.1 h;obtain⟨xs,hg⟩:=TO (λt cs x=>ih t cs x) fs.toList 0 cs h1 (λj f hf=>by rw[j3];exact h3 j f hf) (by rw[j3,<-h2];exact fD)
      λf hf=>Iy j8 hf
     exact⟨xs,hg.len,.struct hu hg.xE,hg.rd⟩
    |array k e =>
     obtain⟨he,hc⟩:=hp.array hl hu;rw[Rt]at h;unfold Rs at h;rw[hu]at h;simp only at h;split at h
     case isFalse=>cases h
     case isTrue fD =>
     obtain⟨l,j8,_⟩:=CE.1 h;obtain⟨xs,hg⟩:=TN (λt cs x=>ih t cs x) he k 0 cs (by rw[j3,<-hc];exact fD)
      λi hi=>by rw[j3];exact Iy j8 (mz.2 hi)
     exact⟨xs,hg.len,.arr hu hg.xE,hg.rd⟩
    |_=>simp[qw,hu]at hm
def aa4(hl:laidOutB P=true){t:TypeId}{v:Value}{d:DataW H}{p:List MemPlace}{b0:Nat}(hp:j6 P t)(bU:CI P w .any b0 t v)(h:DataW.Trod enc P w base (λ_=>true) held t v d p):
  ∃x,qM P t x/\bq w (Old w) x v:=by
 obtain⟨n,hn⟩:=h;obtain⟨xs,hg⟩:=acp hl n t _ _ hp hn;by_cases hs:(∃fs,P.underlying t=V (.struct fs))\/∃n e,P.underlying t=V (.array n e)
 .have fD:∃cs,v=.agg cs:=by
   rcases hs with⟨fs,hu⟩|⟨k,e,hu⟩
   .simp only[CI,hu]at bU;obtain⟨cs,rfl,_,_⟩:=bU;exact⟨cs,rfl⟩
   .simp only[CI,hu]at bU;obtain⟨cs,rfl,_,_⟩:=bU;exact⟨cs,rfl⟩
  obtain⟨cs,rfl⟩:=fD
  have cY:cs.toList.length=cs.size:=by simp
  have get:∀i,cs.getD i undef=cs.toList.getD i undef:=λi=>by simp[lA,bc]
  refine⟨.a xs,?_,.a (by rw[hg.len];simp[Value.cells]) (λi hi=>?_) λi hi=>?_⟩
  .rcases hs with⟨fs,hu⟩|⟨k,e,hu⟩
   iterate 2 (simp only[qM,hu];exact⟨xs,rfl,hg.xE⟩)
  .rw[get];exact(hg.rd i (by rw[<-hg.len];exact hi)).2
  .rw[get];exact(hg.rd i (by rw[<-hg.len];exact hi)).1
 .have eT:v.cells.toList=[v]:=by
   cases v with
   |agg cs =>
    have ha:∀fs,P.underlying t≠V (.struct fs):=λfs he=>hs (.inl ⟨fs,he⟩);have hb:∀n e,P.underlying t≠V (.array n e):=λn e he=>hs (.inr ⟨n,e,he⟩);unfold CI at bU;split at bU
    .rename_i he;exact(ha _ he).elim
    .rename_i he;exact(hb _ _ he).elim
    .unfold Cell.okWide at bU
     split at bU<;>first|contradiction|(unfold Cell.ok at bU;split at bU<;>first|contradiction|cases bU)
   |_=>rfl
  rw[eT]at hg
  obtain⟨x,rfl⟩:∃x,xs=[x]:=by
   have:=hg.len
   match xs,this with
   |[x],_=>exact⟨x,rfl⟩
  refine⟨x,?_,(hg.rd 0 (by simp)).1⟩;unfold qM;split
  .rename_i he;exact(hs (.inl ⟨_,he⟩)).elim
  .rename_i he;exact(hs (.inr ⟨_,_,he⟩)).elim
  .exact hg.xE
def SS(hl:laidOutB P=true):∀{ts:List TypeId}{vs:List Value}{ds:List (DataW H)}{ps:List MemPlace},KG enc P w base (λ_=>true) held ts vs ds ps->(∀t,t∈ts->j6 P t) ->
  (∀(j:Nat)t v,ts[j]?=V t->vs[j]?=V v->CI P w .any base t v) ->
  ∃xs,oA P ts xs/\xs.length=vs.length/\∀i,i<xs.length->bq w (Old w) (xs.getD i .Δ) (vs.getD i undef)
 |[],vs,ds,ps,h,_,_=>by
  obtain⟨rfl,rfl,rfl⟩:=trodAll_nil h;exact⟨[],.nil,rfl,λi hi=>by simp at hi⟩
 |t::ts,vs,ds,ps,h,hp,bU=>by
  obtain⟨v,Y0,d,S8,p,q,rfl,rfl,rfl,h1,h2⟩:=trodAll_cons h;obtain⟨x,hx,hr⟩:=aa4 hl (hp t (by simp)) (bU 0 t v rfl rfl) h1;obtain⟨xs,nX,hlen,lV⟩:=SS hl h2 (λt ht=>hp t (by simp[ht])) λj t v ht hv=>bU (j+1) t v (by simpa using ht) (by simpa using hv);refine⟨x::xs,.cons hx nX,by simp[hlen],λi hi=>?_⟩;cases i with
  |zero=>simpa using hr
  |succ i=>simpa using lV i (by simpa using hi)
def YS{w':World}(hl:laidOutB P=true)(hb:Below w.heap.size w w'){sp:Nat->Bool}:∀{ts:List TypeId}{vs:List Value}{ds:List (DataW H)}{ps:List MemPlace},
  KG enc P w 0 (λ_=>true) true ts vs ds ps->(∀t,t∈ts->j6 P t)->(∀p,p∈ps->sp p.block=true)->KG enc P w' 0 sp true ts vs ds ps
 |[],vs,ds,ps,h,_,_=>by
  obtain⟨rfl,rfl,rfl⟩:=trodAll_nil h;exact rfl
 |t::ts,vs,ds,ps,h,hp,hs=>by
  have Ξ:=h.lt;obtain⟨v,Y0,d,S8,p,q,rfl,rfl,rfl,⟨n,h1⟩,h2⟩:=trodAll_cons h;refine⟨p,q,⟨n,?_⟩,YS hl hb h2 (λt ht=>hp t (by simp[ht])) λp iJ=>hs p (by simp[iJ]),rfl⟩;refine DataW.trod_stays (afN hl) (λhT hu=>(hT.slice hl hu).2) (λhf=>by cases hf) (hp t (by simp)) h1 (λp' iJ=>?_) λp' iJ=>hs p' (by simp[iJ]);have aN:=hb.block p'.block (Ξ p' (by simp[iJ]));cases p' with
  |cell b off=>exact World.cell?_of_block (w:=w) aN
  |map b=>exact aN
def aec{w':World}(hb:Below w.heap.size w w')(may:MemPlace->Prop):w.keptBut w' may:=by
 refine⟨hb.os,hb.output,λi hi=>?_⟩;rw[hb.block i hi];cases w.heap[i]? with
 |none=>rfl
 |some o=>cases o<;>simp
def aei{C:Checked}{f:FuncId}{fn:Func}{s:ChangeSpec}{tb:TypeId}{W:World}{base:Nat}{args:Array Value}{ds gs:List (DataW H)}{before:List MemPlace}(hl:laidOutB C.prog=true)
  (hv:s.vars=[]) (hs:∀ds:List (DataW H),ds.length=fn.params.toList.length->s.fn H ds={ results:=[.lit (.bool true)],args:=ds })
  (hr:fn.resultTypes=#[tb]) (ND:C.prog.underlying tb=V .bool) (rk:fn.params.toList.all (λt=>eS t C.prog.types.size&&qw C.prog 12 t)=true)
  (tW:ed.ok W (Old W)) (h:∀xs,oA C.prog fn.params.toList xs->Pure C.prog f xs (.v (.bool true)))
  (NM:∀(j:Nat)t v,fn.params[j]?=V t->args[j]?=V v->CI C.prog W .any base t v)
  (hW:DataW.Whole enc C.prog fn.params.toList s.vars false W args.toList ds gs before) :
  Calls C.prog f args W λe W'=>∃v,e=.returned v/\s.post enc C.prog fn false true false false W args v W':=by
 have TZ:=hW;obtain⟨p,q,hA,hV,rfl,hfz,cz⟩:=hW
 have U0:∀t,t∈fn.params.toList->j6 C.prog t:=λt ht=>by
  have:=eo.1 rk t ht;simp only[bR,gW]at this;exact⟨this.1,_,this.2⟩
 rw[hv]at hV;obtain⟨rfl,rfl⟩:=trodVars_none hV;obtain⟨xs,nX,hlen,fE⟩:=SS hl hA U0 λj t v ht hv=>Value.okWide_any_base (NM j t v (by simpa using ht) (by simpa using hv));have hI:Inv W (Old W) (λ_=>undef) []:=
  ⟨λ_ h=>h,λ_ _ hm=>(fu hm).elim,qK,λ_ ⟨_,_,hm,_⟩=>(fu hm).elim,λ_ _ _ _ _ hm=>(fu hm).elim,tW⟩
 refine((h xs nX).2 W (Old W) (λ_=>undef) args hI (by rw[hlen];simp) λi hi=>.i ?_).mono ?_
 .have:=fE i hi
  have e:args.getD i undef=args.toList.getD i undef:=by simp[lA,bc]
  rw[e];exact this
 rintro e W' ⟨v,rfl,hb,hx⟩;cases hx
 have DA:ds.length=fn.params.toList.length:=by
  have:∀{ts:List TypeId}{vs:List Value}{ds:List (DataW H)}{ps:List MemPlace},KG enc C.prog W 0 (λ_=>true) true ts vs ds ps->ds.length=ts.length:=by
   intro ts;induction ts with
   |nil=>intro vs ds ps h;obtain⟨rfl,rfl,rfl⟩:=trodAll_nil h;rfl
   |cons t ts ih=>intro vs ds ps h;obtain⟨v,Y0,d,S8,p,q,rfl,rfl,rfl,h1,h2⟩:=trodAll_cons h;simp[ih h2]
  exact this hA
 have hold:∀q,q∈p->(λb=>decide (b<W.heap.size)) q.block=true:=λq hq=>by simpa using TZ.lt q (by simp[hq])
 refine⟨_,rfl,ds,[],p++[],[],p,[],TZ,?_,?_,?_,aec hb _,λh=>by cases h⟩
 .rw[qH,hs ds DA,hr];exact trodAll_mk1 (shut_bool ND true)
 .rw[qH,hs ds DA];exact YS hl hb hA U0 hold
 .rw[qH,hs ds DA,hv];exact rfl
def aaN{w:World}{a:Addr}{v:Value}(h:w.cell? a=V v):a.block<w.heap.size:=by
 refine Nat.lt_of_not_le λhle=>?_
 have:w.heap[a.block]?=none:=by simpa using hle
 simp[World.cell?,this]at h
def aej{C:Checked}{os:Os}{f:FuncId}{fn:Func}{s:ChangeSpec}{tb:TypeId}{X:World->Prop}(hX:∀w w':World,w.heap=w'.heap->X w->X w')(hl:laidOutB C.prog=true)(own:ownKnob C.prog.godebug=none)(started:os.Started)(aeU:C.prog.inits.idxOf? f=none)(dR:C.prog.funcs[f]?=V fn)
  (witness:∃(w:World) (tape:Tape) (i:Input),w.os=os/\(w.forCall tape i).Shaped C.prog/\i.vars=[]/\Input.okWide C.prog (w.forCall tape i) .any w.heap.size f i /\
   ((s.pre enc C.prog fn [] false (w.forCall tape i).memory i.args/\X (w.forCall tape i).memory)/\sizedMet enc C.prog fn (aad s) false (w.forCall tape i).memory i.args)/\({}:Assume).holds C.prog (lone (Frame.enter C.prog f i.args .normal) [] (w.forCall tape i)))
  (hv:s.vars=[]) (hs:∀ds:List (DataW H),ds.length=fn.params.toList.length->s.fn H ds={ results:=[.lit (.bool true)],args:=ds })
  (hr:fn.resultTypes=#[tb]) (ND:C.prog.underlying tb=V .bool) (rk:fn.params.toList.all (λt=>eS t C.prog.types.size&&qw C.prog 12 t)=true)
  (tW:∀W:World,X W->ed.ok W (Old W)) (h:∀xs,oA C.prog fn.params.toList xs->Pure C.prog f xs (.v (.bool true))) :
  ReturnsInHanded {} C os f .any (λw args=>(s.pre enc C.prog fn [] false w args/\X w)/\sizedMet enc C.prog fn (aad s) false w args) (s.post enc C.prog fn false true false false):=by
 refine returnsInHanded_of_change_and (C:=C) (X:=λw _=>X w) (λw w' _ hh hx=>hX w w' hh hx) own started aeU dR witness ?_;intro W base args ds gs before NM hW _ _ hx _;exact aei hl hv hs hr ND rk (tW W hx) h NM hW
end
end
section
open Go.RowKit
variable[M:cD][G:ed]
section
variable{P:Program}{T:TT}{w:World}{F:Nat->Prop}{β:Nat->Value}
def mO(P:Program)(g:FuncId)(args:List AV)(c:Chunk)(R:AV->Chunk->Prop):Prop:=
 qb P g/\∀(w:World)(F:Nat->Prop)(β:Nat->Value)(vs:Array Value),Inv w F β [(1000,c)]->vs.size=args.length ->
  (∀i,i<args.length->Rd w F β (args.getD i .Δ) (vs.getD i undef)) ->
  Calls P g vs w λe w'=>∃v,e=.returned v/\∃r c' F',R r c'/\bq w' F' r v/\w'.os=w.os/\jL w w'/\w'.output=w.output/\w.heap.size<=w'.heap.size /\
   (∀b,b<w.heap.size->bP (β 1000)≠V b->w'.heap[b]?=w.heap[b]?)/\(∀b,F b->F' b)/\(∀b,F' b->fK F w w' b)/\Ae c'=true/\c'.holds w' F' β 1000
def aar(R:AV->Chunk->Prop)(x:AV)(st:ak):Prop:=∃r c',R r c'/\dP 1000 st.H=V c'/\Ae c'=true/\Fz (oE 1000 st.H) x r
def Lr(id:Nat)(x y:AV):Prop:=∀(w:World)(F:Nat->Prop)(β ay:Nat->Value)(u:Value),ay 1000=β id->Rd w F β x u->Rd w F ay y u
inductive xk(id:Nat):List AV->List AV->Prop where
 |nil:xk id [] []
 |cons {x y:AV} {xs ys:List AV} (h:Lr id x y) (t:xk id xs ys):xk id (x::xs) (y::ys)
def xk.spec{id:Nat}{xs ys:List AV}(h:xk id xs ys):xs.length=ys.length/\∀i,i<xs.length->Lr id (xs.getD i .Δ) (ys.getD i .Δ):=by
 induction h with
 |nil=>exact⟨rfl,λi hi=>by simp at hi⟩
 |cons h t ih =>
  refine⟨by simp[ih.1],λi hi=>?_⟩;cases i with
  |zero=>simpa using h
  |succ i=>simpa using ih.2 i (by simpa using hi)
def Lr.cP{id:Nat}{x:AV}(h:kH x=true):Lr id x x:=λ_ _ _ _ _ _ hr=>.i (Ig h hr)
def Lr.nil{id:Nat}:Lr id (.v (.slice none 0 0)) (.s []):=λ_ _ _ _ _ _ hr=>by rw[hr.bK];exact .i .s0
def Lr.b{id off:Nat}:Lr id (.b id off) (.b 1000 off):=λ_ _ _ _ _ an hr=>by
 obtain⟨fV,h1,rfl⟩:=hr.mP;exact .b (an.trans h1)
def Lr.o{id:Nat}:Lr id (.o id) (.o 1000):=λ_ _ _ _ _ an hr=>by
 obtain⟨a,n,c,h1,rfl⟩:=hr.ko;exact .o (an.trans h1)
def Ω.chg{g:FuncId}{id:Nat}{xs ys:List AV}{st:ak}{c:Chunk}{R:AV->Chunk->Prop}{k:AV->ak->Prop}(h:mO P g ys c R)(hc:dP id st.H=V c)(iv:Ae c=true)(hle:xk id xs ys)
  (hk:∀r c',R r c'->k r ⟨st.f,fQ id c' st.H⟩):Ω P g xs st k:=by
 obtain⟨hl,hz⟩:=hle.spec;have hm:=fk hc;refine⟨h.1,λw F β vs hI hs hv=>?_⟩;let dv:Nat->Value:=λi=>if i=1000 then β id else undef;have cR:dv 1000=β id:=if_pos rfl
 have tQ:Inv w F dv [(1000,c)]:=by
  refine⟨hI.cH,λi c' bN=>?_,by simp,λb ⟨i,c',bN,hb⟩=>?_,λi c1 i' pn b h1 h2 _ _=>?_,hI.fC⟩
  .simp only[cV,iF]at bN;obtain⟨rfl,rfl⟩:=bN;exact pN iv (λ_ h=>h) cR (hI.holds _ _ hm)
  .simp only[cV,iF]at bN;obtain⟨rfl,rfl⟩:=bN;rw[cR]at hb;exact hI.apart b ⟨id,c',hm,hb⟩
  .simp only[cV,iF]at h1 h2;rw[h1.1,h2.1]
 refine(h.2 w F dv vs tQ (by omega) λi hi=>hz i (by omega) w F β dv _ cR (hv i (by omega))).mono ?_;rintro e w' ⟨v,rfl,r,c',F',hR,hr,ug,NG,sF,bd,hblk,kE,eY,MX,fZ⟩;rw[cR]at hblk
 have dB:∀b,bH β (fQ id c' st.H) b->bH β st.H b:=by
  rintro b ⟨i,c2,h,hb⟩
  rcases nn h with⟨rfl,_,c3,h3⟩|⟨_,h3⟩
  .exact⟨i,c3,h3,hb⟩
  .exact⟨i,c2,h3,hb⟩
 have MA:∀b,F b->w'.heap[b]?=w.heap[b]?:=λb hb=>hblk b (hI.cH b hb) λhe=>hI.apart b ⟨id,c,hm,he⟩ hb;refine⟨v,rfl,r,_,F',β,hk r c' hR,.i hr,⟨ug,NG,sF,bd,λb hb bu=>hblk b hb λhe=>bu ⟨id,c,hm,he⟩,kE,λb hb=>(eY b hb).elim .inl λh=>.inr (.inl h.1),λb hb=>.inr (dB b hb),λt u hu=>hu.frame MA kE,?_,λ_ _=>rfl⟩⟩;refine⟨λb hb=>(eY b hb).elim (λh=>ou (hI.cH b h) bd) λh=>h.2,λi c2 h=>?_,by rw[zp];exact hI.keys,λb ho hF=>?_,λi c1 i' pn b h h' hb aN=>?_,hI.fC.frame MA kE⟩
 .rcases nn h with⟨rfl,rfl,_⟩|⟨hi,h2⟩
  .exact pN MX (λ_ h=>h) cR.symm fZ
  .exact pM MA kE (λb hb=>hblk b (hI.gg ⟨i,c2,h2,hb⟩) λhe=>hi (hI.eD i c2 id c b h2 hm hb he)) (hI.holds i c2 h2)
 .rcases eY b hF with h1|h1
  .exact hI.apart b (dB b ho) h1
  .exact absurd (hI.gg (dB b ho)) (mJ.2 h1.1)
 .have hx:∃c,(i,c)∈st.H:=by rcases nn h with⟨_,_,c2,h2⟩|⟨_,h2⟩<;>exact⟨_,h2⟩
  have hy:∃c,(i',c)∈st.H:=by rcases nn h' with⟨_,_,c2,h2⟩|⟨_,h2⟩<;>exact⟨_,h2⟩
  obtain⟨c2,h2⟩:=hx;obtain⟨c3,h3⟩:=hy;exact hI.eD i c2 i' c3 b h2 h3 hb aN
def Ω.freeze{g:Tg}{id E K:Nat}{rows:List (List AV)}{xs:List AV}{st:ak}{k:AV->ak->Prop}(hc:dP id st.H=V (.own E K rows))(h:Ω P g (xs.map (sb (.s rows) 2 id)) (Ma id rows st) k):Ω P g xs st k:=by
 have hm:=fk hc;refine⟨h.1,λw F β vs hI hs hv=>?_⟩
 have hz:∀u,Rd w (λb=>F b\/bP (β id)=V b) β (.o id) u->Rd w (λb=>F b\/bP (β id)=V b) β (.s rows) u:=λu hu=>by
  refine .i (Mb hI hm ?_);obtain⟨a,n,c,h1,rfl⟩:=hu.ko;exact .o h1
 have up:∀{x u},Rd w F β x u->Rd w (λb=>F b\/bP (β id)=V b) β x u:=λh=>h.frame (λ_ _=>rfl) λ_ h=>.inl h
 have nK:Inv w (λb=>F b\/bP (β id)=V b) β (oG id rows st.H):=by
  refine⟨λb hb=>hb.elim (hI.cH b) λhb=>hI.gg ⟨id,_,hm,hb⟩,λi c h=>?_,Da hI.keys,λb ⟨i,c,h,hb⟩ hF=>?_,λi c i' c' b h h' hb aN=>?_,hI.fC.more λ_ h=>.inl h⟩
  .obtain⟨hi,c',h',rfl⟩:=lN h;have hh:=hI.holds i c' h';cases c' with
   |own E' K' r=>exact pN (c:=.own E' K' r) rfl (λ_ h=>.inl h) rfl hh
   |mp ag r=>exact pN (c:=.mp ag r) rfl (λ_ h=>.inl h) rfl hh
   |si s pos=>exact pN (c:=.si s pos) rfl (λ_ h=>.inl h) rfl hh
   |lp l e R L =>
    obtain⟨fn,tmps,D,hb,ya,sC,yr⟩:=hh;refine⟨fn,tmps,D,hb,ya,sC,λp hp=>?_⟩;obtain⟨q,hq,rfl⟩:=cL.1 hp;exact rC hz (λ_ _=>rfl) 2 (up (yr q hq))
   |box cells =>
    obtain⟨b,cs,e,hb,hh,hs,h1,hr⟩:=hh;refine⟨b,cs,e,hb,hh,by simpa using hs,λj hj=>h1 j (by simpa using hj),λj hj=>?_⟩
    have hj:j<cells.length:=by simpa using hj
    have:(cells.map (sb (.s rows) 1 id)).getD j .Δ=sb (.s rows) 1 id (cells.getD j .Δ):=by simp[bc,hj]
    rw[this];exact rC hz (λ_ _=>rfl) 1 (up (hr j hj))
  .obtain⟨hi,c',h',_⟩:=lN h
   rcases hF with hF|hF
   .exact hI.apart b ⟨i,c',h',hb⟩ hF
   .exact hi (hI.eD i c' id _ b h' hm hb hF)
  .obtain⟨_,c2,h2,_⟩:=lN h;obtain⟨_,c3,h3,_⟩:=lN h';exact hI.eD i c2 i' c3 b h2 h3 hb aN
 have yo:∀b,bH β (oG id rows st.H) b->bH β st.H b:=λb ⟨i,c,h,hb⟩=>by
  obtain⟨_,c2,h2,_⟩:=lN h;exact⟨i,c2,h2,hb⟩
 refine(h.2 w _ β vs nK (by simpa using hs) λi hi=>?_).mono ?_
 .have hi:i<xs.length:=by simpa using hi
  have:(xs.map (sb (.s rows) 2 id)).getD i .Δ=sb (.s rows) 2 id (xs.getD i .Δ):=by simp[bc,hi]
  rw[this];exact rC hz (λ_ _=>rfl) 2 (up (hv i hi))
 .rintro e w' ⟨v,rfl,r,ax,F',ay,hk,hr,hx⟩
  refine⟨v,rfl,r,ax,F',ay,hk,hr,hx.os,hx.tape,hx.output,hx.size,λb hb bu=>hx.block b hb λho=>bu (yo b ho),λb hb=>hx.mono b (.inl hb),λb hb=>?_,λb hb=>(hx.owned b hb).elim .inl λh=>.inr (yo b h),
   λt u hu=>hx.keep t u (rC hz (λ_ _=>rfl) 2 (up hu)),hx.inv,hx.gC⟩
  rcases hx.new b hb with h1|h1|h1
  .rcases h1 with h1|h1
   .exact .inl h1
   .exact .inr (.inr ⟨id,_,hm,h1⟩)
  .exact .inr (.inl h1)
  .exact .inr (.inr (yo b h1))
def Fz.c{H:Hp}{fn:Fn}{fs Db cs CW:List AV}(h:ph H fs Db)(h':ph H cs CW):Fz H (.c fn fs cs) (.c fn Db CW):=λ_ _ _ _ hI hr=>by
 obtain⟨us,vs,rfl,hs,dG,hu,hv⟩:=hr.nG;obtain⟨hl,hz⟩:=h.spec;obtain⟨ub,g_⟩:=h'.spec;exact .c (by omega) (by omega) (λi hi=>hz i (by omega) _ _ _ _ hI (hu i (by omega))) λi hi=>g_ i (by omega) _ _ _ _ hI (hv i (by omega))
def Fz.b{H:Hp}{id:Nat}{cells:List AV}(h:dP id H=V (.box cells))(iv:cells.all fx=true):Fz H (.b id 0) (.p cells):=λw F β u hI hr=>by
 have hm:=fk h;obtain⟨fV,hb,rfl⟩:=hr.mP;obtain⟨b,cs,e,an,hh,hs,h1,fE⟩:=hI.holds _ _ hm;rw[hb]at an;cases an;refine .p (b:=fV) (off:=0) (u:=λj=>cs.getD j undef) (.inr ⟨id,_,hm,by rw[hb];rfl⟩) (λj hj=>?_) h1 λj hj=>?_
 .rw[j3,cell_of_row w fV _ cs e (0,0) hh];simp[hs,hj]
 .have:fx (cells.getD j .Δ)=true:=eo.1 iv _ (by rw[List.getD_eq_getElem?_getD,bD hj];exact List.getElem_mem _);exact(nY this (fE j hj)).frame (λ_ _=>rfl) λ_ h=>.inl h
end
end
section
open Go.RowKit
variable[M:cD][G:ed][R:eF]
structure Ok(P:Program)(n:Nat)(c:Code)(st:ak)(Q:Exit->ak->Prop):Prop where
 h:∀C:Ctx,C.n=n->GD P C c st Q
def Wk(s s':ak):Prop:=∀(C:Ctx)(a:Act)(w:World),Rel C s a w->Rel C s' a w
def nx(P:Program)(n:Nat)(y:Code)(Q:Exit->ak->Prop):Exit->ak->Prop:=λe s=>match e with
 |.normal=>Ok P n y s Q
 |e=>Q e s
def bk(id:Nat)(Q:Exit->ak->Prop):Exit->ak->Prop:=λe s=>match e with
 |.exit i=>bif aM i id then Q .normal s else Q (.exit i) s
 |e=>Q e s
def jn(s1:ak)(Q:Exit->ak->Prop):Exit->ak->Prop:=λe s=>match e with
 |.normal=>Wk s s1
 |e=>Q e s
def jnE{σ:Type}(J:σ->ak)(S:σ->Prop)(Q:Exit->ak->Prop):Exit->ak->Prop:=λe s=>match e with
 |.normal=>∃v,S v/\Wk s (J v)
 |e=>Q e s
section
variable{P:Program}{T:TT}{n:Nat}{st:ak}{Q:Exit->ak->Prop}
def Wk.refl(s:ak):Wk s s:=λ_ _ _ h=>h
def Wk.trans{a b c:ak}(h:Wk a b)(h':Wk b c):Wk a c:=λC x w hr=>h' C x w (h C x w hr)
def Ok.wk{c:Code}{s':ak}(h:Wk st s')(hc:Ok P n c s' Q):Ok P n c st Q:=⟨λC hn a w hr=>hc.h C hn a w (h C a w hr)⟩
def Ok.skip(h:Q .normal st):Ok P n .skip st Q:=⟨λ_ _ _ _ hr=>wpIn_skip ⟨st,hr,h⟩⟩
def Ok.label{l:Nat}(h:Q .normal st):Ok P n (.label l) st Q:=⟨λ_ _ _ _ hr=>wpIn_label ⟨st,hr,h⟩⟩
def Ok.exit{id:Nat}(h:Q (.exit id) st):Ok P n (.exit id) st Q:=⟨λ_ _ _ _ hr=>wpIn_exit ⟨st,hr,h⟩⟩
def Ok.ret(h:Q .ret st):Ok P n .ret st Q:=⟨λ_ _ _ _ hr=>wpIn_ret ⟨st,hr,h⟩⟩
def Ok.seq{x y:Code}(h:Ok P n x st (nx P n y Q)):Ok P n (.seq x y) st Q:=⟨λC hn a w hr=>by
 refine wpIn_seq (wpIn_mono (h.h C hn a w hr) ?_);rintro e a' w' ⟨ax,cr,hq⟩
 cases e<;>first|exact(show Ok P n y ax Q from hq).h C hn a' w' cr|exact⟨ax,cr,hq⟩⟩
def Ok.aD{x y:Code}(s1:ak)(hx:Ok P n x st (jn s1 Q))(hy:Ok P n y s1 Q):Ok P n (.seq x y) st Q:=⟨λC hn a w hr=>by
 refine wpIn_seq (wpIn_mono (hx.h C hn a w hr) ?_);rintro e a' w' ⟨ax,cr,hq⟩
 cases e<;>first|exact hy.h C hn a' w' ((show Wk ax s1 from hq) C a' w' cr)|exact⟨ax,cr,hq⟩⟩
def Ok.dy{σ:Type}{x y:Code}(J:σ->ak)(S:σ->Prop)(hx:Ok P n x st (jnE J S Q))(hy:∀v,S v->Ok P n y (J v) Q):Ok P n (.seq x y) st Q:=⟨λC hn a w hr=>by
 refine wpIn_seq (wpIn_mono (hx.h C hn a w hr) ?_);rintro e a' w' ⟨ax,cr,hq⟩
 cases e<;>first|(obtain⟨v,hv,hw⟩:=(show∃v,S v/\Wk ax (J v)from hq);exact(hy v hv).h C hn a' w' (hw C a' w' cr))|exact⟨ax,cr,hq⟩⟩
def Ok.region{id:Nat}{ops:Array Oper}(hT:bL P T)(h:ju P T n ops ops.toList st (Q .normal)):Ok P n (.region id ops false) st Q:=
 ⟨λC hn=>Rg (C:=C) hT hn (.region id ops false) st Q h⟩
def Ok.draw[MD:rR][CH:nE]{id m:Nat}{ops:Array Oper}(hT:bL P T)(hm:P.follows .mixedOrders=true)(qj:C0 m ops=true)
  (h:rI P T n ops (steady m ops) ⟨preB (eC m ops) (jM (eC m ops) st).f,(jM (eC m ops) st).H⟩ λst1=>sJ P st1.f (ops.toList.take m)/\qQ T n (eC m ops) st1 λst2=>ju P T n ops (ops.toList.drop m) st2 (Q .normal)):Ok P n (.region id ops true) st Q:=
 ⟨λC hn=>Rg (C:=C) hT hn (.region id ops true) st Q (abl hT hm qj h)⟩
def Ok.iG[MD:rR][CH:nE]{id m:Nat}{late:List Nat}{ops:Array Oper}(hT:bL P T)(hm:P.follows .mixedOrders=true)(qj:G9 m late ops=true)
  (h:rI P T n ops (steady m ops) ⟨preB (eC m ops) (jM (eC m ops) st).f,(jM (eC m ops) st).H⟩ λst1=>sJ P st1.f (ops.toList.take m)/\qQ T n (eC m ops) st1 λst1=>Li T ops m st1 λst2=>sI P T ops st2 late/\ju P T n ops (ops.toList.drop (m+1)) st2 (Q .normal)):Ok P n (.region id ops true) st Q:=
 ⟨λC hn=>Rg (C:=C) hT hn (.region id ops true) st Q (abm hT hm qj h)⟩
def Ok.cond{d:Nat}{b:Bool}{x y:Code}{ρ:Type}{X Y:Option ρ}{r:ρ}(hb:st.f d=.v (.bool b))(h:(if b=true then X else Y)=V r)
  (yes:b=true->X=V r->Ok P n x st Q) (no:b=false->Y=V r->Ok P n y st Q):Ok P n (.cond (.tmp d) x y) st Q:=⟨λC hn a w hr=>by
 have cr:=hr;obtain⟨F,β,hs,hd,hf,he⟩:=cr;have gz:=hf d;rw[hb]at gz;have hv:a.eval (.tmp d)=.bool b:=gz.bK;refine wpIn_cond_split hv (λht=>?_) λht=>?_
 .exact(yes ht (by simpa [ht]using h)).h C hn a w hr
 .exact(no (by simpa using ht) (by simpa [ht]using h)).h C hn a w hr⟩
def Ok.aaV{d:Nat}{x y:Code}(hb:st.f d=.v (.bool true))(h:Ok P n x st Q):Ok P n (.cond (.tmp d) x y) st Q:=
 .cond (ρ:=Unit) (X:=V ()) (Y:=none) (r:=()) hb rfl (λ_ _=>h) λh=>by cases h
def Ok.aaU{d:Nat}{x y:Code}(hb:st.f d=.v (.bool false))(h:Ok P n y st Q):Ok P n (.cond (.tmp d) x y) st Q:=
 .cond (ρ:=Unit) (X:=none) (Y:=V ()) (r:=()) hb rfl (λh=>by cases h) λ_ _=>h
def Ok.block{id:Nat}{c:Code}(h:Ok P n c st (bk id Q)):Ok P n (.block id c) st Q:=⟨λC hn a w hr=>by
 refine wpIn_block (wpIn_mono (h.h C hn a w hr) ?_);rintro e a' w' ⟨ax,cr,hq⟩;cases e with
 |exit i =>
  have hq:bif aM i id then Q .normal ax else Q (.exit i) ax:=hq;by_cases hi:i=id
  .subst hi;simp only[jv,cond_true]at hq;simp only[Exit.inBlock,if_true];exact⟨ax,cr,hq⟩
  .have:aM i id=false:=by cases hb:aM i id;rfl;exact absurd (cT hb) hi
   simp only[this,cond_false]at hq;simp only[Exit.inBlock,if_neg hi];exact⟨ax,cr,hq⟩
 |_=>exact⟨ax,cr,hq⟩⟩
def lp{σ ρ:Type}(J:σ->ak)(x:σ⊕ρ)(Q:Exit->ak->Prop):Exit->ak->Prop:=λe s=>match e with
 |.normal=>∃v,x=.inl v/\Wk s (J v)
 |e=>Q e s
def Ok.loop[K:LK]{σ ρ:Type}{c:Code}(J:σ->ak)(B:σ->Option (σ⊕ρ)){r:ρ}{s0:σ}(h:Cat.loop B s0=V r)(h0:Wk st (J s0))
  (round:∀s x,B s=V x->(∀r',x=.inr r'->r'=r)->Ok P n c (J s) (lp J x Q)):Ok P n (.loop c) st Q:=⟨λC hn a w hr=>by
 obtain⟨k0,lf⟩:=Iv h
 refine wpIn_loop (λa w=>∃s k,gF B k s=V r/\Rel C (J s) a w) (λa w=>by
  classical exact if h:∃k s,(gF B k s=V r/\Rel C (J s) a w)/\∀k' s',gF B k' s'=V r/\Rel C (J s') a w->k<=k' then h.choose else 0) ⟨s0,k0,lf,h0 C a w hr⟩ ?_
 intro a w hex
 have HQ:∃k s,(gF B k s=V r/\Rel C (J s) a w)/\∀k' s',gF B k' s'=V r/\Rel C (J s') a w->k<=k':=by
  obtain⟨s,k,hi⟩:=hex
  have key:∀m k s,k=m->gF B k s=V r/\Rel C (J s) a w->∃k s,(gF B k s=V r/\Rel C (J s) a w)/\∀k' s',gF B k' s'=V r/\Rel C (J s') a w->k<=k':=by
   intro m;induction m using s9 with
   |_ m ih =>
    intro k s hm hi;by_cases DZ:∃k' s',(gF B k' s'=V r/\Rel C (J s') a w)/\k'<m
    .obtain⟨k',s',br,Ξ⟩:=DZ;exact ih k' Ξ k' s' rfl br
    .refine⟨k,s,hi,λk' s' br=>?_⟩
     rcases fa k' k with h|h
     .exact absurd ⟨k',s',br,hm▸h⟩ DZ
     .exact h
  exact key _ k s rfl hi
 obtain⟨s,⟨hi,jo⟩,akC⟩:=HQ.choose_spec
 have hk:∃k,HQ.choose=k+1:=by
  cases hc:HQ.choose with
  |zero=>rw[hc]at hi;cases hi
  |succ k=>exact⟨k,rfl⟩
 obtain⟨k,hk⟩:=hk;have q_:=hi;rw[hk]at hi
 obtain⟨x,hx,vG⟩:∃x,B s=V x/\(∀r',x=.inr r'->r'=r)/\∀s',x=.inl s'->gF B k s'=V r:=by
  cases hB:B s with
  |none=>simp[gF,hB]at hi
  |some x =>
   refine⟨x,rfl,λr' cr=>?_,λs' dG=>?_⟩
   .subst cr;simpa [gF,hB]using hi
   .subst dG;simpa [gF,hB]using hi
 refine wpIn_mono ((round s x hx vG.1).h C hn a w jo) ?_;rintro e a' w' ⟨ax,cr,hq⟩;cases e with
 |normal =>
  obtain⟨v,hv,hwk⟩:=(show∃v,x=.inl v/\Wk ax (J v)from hq);have j_:=vG.2 v hv;have U8:=hwk C a' w' cr;refine⟨⟨v,k,j_,U8⟩,?_⟩;rw[dif_pos HQ,hk];split
  .rename_i h';obtain⟨_,_,hm⟩:=h'.choose_spec;exact Nat.lt_succ_of_le (hm k v ⟨j_,U8⟩)
  .exact Nat.succ_pos _
 |_=>exact⟨ax,cr,hq⟩⟩
def Ψ:List (Nat×AV)->Nat->AV
 |[],_=>.Δ
 |(d,x)::r,t=>bif aM t d then x else Ψ r t
def uQ(f:Nat->AV):List (Nat×AV)->Prop
 |[]=>True
 |(d,x)::r=>Le (f d) x/\uQ f r
inductive iQ:Chunk->Chunk->Prop where
 |refl (c:Chunk):iQ c c
 |box {a b:List AV} (h:jh a b):iQ (.box a) (.box b)
 |lp {l:Nat} {e:LS} {R:RF} {a b:List (Nat×AV)} (h:∀p,p∈b->∃x,(p.1,x)∈a/\Le x p.2):iQ (.lp l e R a) (.lp l e R b)
def iQ.holds{w:World}{F:Nat->Prop}{β:Nat->Value}{i:Nat}{c c':Chunk}(h:iQ c c')(hc:c.holds w F β i):c'.holds w F β i:=by
 cases h with
 |refl=>exact hc
 |box h =>
  obtain⟨b,cs,e,an,hh,hs,h1,hr⟩:=hc;obtain⟨hl,hz⟩:=h.spec;exact⟨b,cs,e,an,hh,by omega,λj hj=>h1 j (by omega),λj hj=>hz j (by omega) _ _ _ _ (hr j (by omega))⟩
 |lp h =>
  obtain⟨fn,tmps,D,an,hh,hn,hr⟩:=hc;refine⟨fn,tmps,D,an,hh,hn,λp hp=>?_⟩;obtain⟨x,hx,hz⟩:=h p hp;exact hz _ _ _ _ (hr _ hx)
def xi(H:Hp):Hp->Prop
 |[]=>True
 |(i,c)::r=>(∃c0,dP i H=V c0/\iQ c0 c)/\xi H r
def jV:Hp->Bool
 |[]=>true
 |(i,_)::r=>r.all (λp=>!Nat.beq p.1 i)&&jV r
def yG:∀{H:Hp},jV H=true->(H.map (·.1)).Nodup
 |[],_=>qK
 |(i,c)::r,h=>by
  simp only[jV,bR]at h;simp only[fT,iO];refine⟨λhm=>?_,yG h.2⟩;obtain⟨x,hx,jU⟩:=cL.1 hm;have:=eo.1 h.1 x hx;rw[jU,jv]at this;cases this
def xi.mem{H:Hp}:∀{H':Hp},xi H H'->∀i c,(i,c)∈H'->∃c0,(i,c0)∈H/\iQ c0 c
 |[],_,_,_,hx=>by cases hx
 |(i,c)::r,h,j,d,hx=>by
  rcases bp.1 hx with hx|hx
  .cases hx;obtain⟨c0,hc,hl⟩:=h.1;exact⟨c0,fk hc,hl⟩
  .exact xi.mem h.2 j d hx
def YI{w:World}{F:Nat->Prop}{β:Nat->Value}{f:Nat->AV}{g:Nat->Value}(hf:∀t,Rd w F β (f t) (g t)):∀{L:List (Nat×AV)},uQ f L->∀t,Rd w F β (Ψ L t) (g t)
 |[],_,_=>.Δ
 |(d,x)::r,h,t=>by
  simp only[Ψ];cases hb:aM t d with
  |true =>
   obtain rfl:=cT hb;exact h.1 _ _ _ _ (hf t)
  |false=>exact YI hf h.2 t
def Ext.sub{w0:World}{F0:Nat->Prop}{oZ:Nat->Value}{oY:ak}{w:World}{F:Nat->Prop}{β:Nat->Value}{H H':Hp}(h:Ext w0 F0 oZ oY w F β ⟨aR,H⟩)(bn:∀i c,(i,c)∈H'->∃c0,(i,c0)∈H/\iQ c0 c)(hk:(H'.map (·.1)).Nodup):Ext w0 F0 oZ oY w F β ⟨aR,H'⟩ where
 os:=h.os
 tape:=h.tape
 output:=h.output
 size:=h.size
 block:=h.block
 mono:=h.mono
 new:=h.new
 owned b hb:=h.owned b (by obtain⟨i,c,hm,hb⟩:=hb;obtain⟨c0,h0,_⟩:=bn i c hm;exact⟨i,c0,h0,hb⟩)
 keep _ _ _:=.Δ
 inv:=⟨h.inv.cH,λi c hm=>by obtain⟨c0,h0,hl⟩:=bn i c hm;exact hl.holds (h.inv.holds i c0 h0),hk,
  λb ⟨i,c,hm,hb⟩=>by obtain⟨c0,h0,_⟩:=bn i c hm;exact h.inv.apart b ⟨i,c0,h0,hb⟩,
  λi c i' c' b hm bN hb aN=>by
   obtain⟨c0,h0,_⟩:=bn i c hm;obtain⟨c1,h1,_⟩:=bn i' c' bN
   exact h.inv.eD i c0 i' c1 b h0 h1 hb aN,h.inv.fC⟩
 gC:=h.gC
def XM.sub{C:Ctx}{ds:List Deferred}{w:World}{F:Nat->Prop}{β:Nat->Value}{H H':Hp}(h:XM C ds w F β H)(bn:∀i c,(i,c)∈H'->∃c0,(i,c0)∈H/\iQ c0 c)(hk:(H'.map (·.1)).Nodup):XM C ds w F β H':=
 h.trans ((Ext.refl (st:=⟨aR,H⟩) h.inv).sub bn hk)
def Wk.tab{L:List (Nat×AV)}{H':Hp}(hL:uQ st.f L)(hH:xi st.H H')(hk:jV H'=true):Wk st ⟨Ψ L,H'⟩:=λC a w hr=>by
 obtain⟨F,β,hs,hd,hf,he⟩:=hr;exact⟨F,β,hs,hd,YI hf hL,he.sub hH.mem (yG hk)⟩
def Ext.Oq{w0:World}{F0:Nat->Prop}{oZ:Nat->Value}{oY:ak}{w:World}{F:Nat->Prop}{β:Nat->Value}{f:Nat->AV}{H:Hp}(h:Ext w0 F0 oZ oY w F β ⟨f,H⟩):Ext w0 F0 oZ oY w F β ⟨aR,H⟩ where
 os:=h.os
 tape:=h.tape
 output:=h.output
 size:=h.size
 block:=h.block
 mono:=h.mono
 new:=h.new
 owned:=h.owned
 keep _ _ _:=.Δ
 inv:=h.inv
 gC:=h.gC
def Wk.oW{t id E K:Nat}(Ξ:eS id 1000=true)(ht:st.f t=.v (.slice none 0 0)):Wk st ⟨ej (λt=>er 2 id (st.f t)) t (.o id),(id,.own E K [])::iq id st.H⟩:=λC a w hr=>by
 obtain⟨F,β,hs,hd,hf,he⟩:=hr
 have pJ:id<1000:=by simpa using Ξ
 have hb:Below w.heap.size w w:=Below.refl _ _;have hx:=L4 (st:=⟨aR,st.H⟩) (w':=w) (F':=F) (c:=.own E K []) (v:=.slice none 0 0) pJ he.inv hb (λ_ h=>h) (λ_ h=>.inl h) (λb hb=>by cases hb) (.inl ⟨rfl,none,by simp⟩);have an:∀i,i≠id->(λi=>if i=id then Value.slice none 0 0 else β i) i=β i:=λi hi=>if_neg hi;refine⟨F,_,hs,hd,λq=>?_,(he.trans hx).Oq⟩;show Rd w F _ (bif aM q t then AV.o id else er 2 id (st.f q)) _;cases hq:aM q t with
 |true =>
  obtain rfl:=cT hq;have h1:=hf q;rw[ht]at h1;rw[cond_true,h1.bK];exact .o (by simp)
 |false=>exact rZ an 2 (hf q)
def Wk.freeze{id E K:Nat}{rows:List (List AV)}(hc:dP id st.H=V (.own E K rows)):Wk st (Ma id rows st):=λC a w hr=>by
 obtain⟨F,β,hs,hd,hf,he⟩:=hr;have hI:=he.inv;have hm:=fk hc
 have hz:∀u,Rd w (λb=>F b\/bP (β id)=V b) β (.o id) u->Rd w (λb=>F b\/bP (β id)=V b) β (.s rows) u:=λu hu=>by
  refine .i (Mb hI hm ?_);obtain⟨a,n,c,h1,rfl⟩:=hu.ko;exact .o h1
 have up:∀{x u},Rd w F β x u->Rd w (λb=>F b\/bP (β id)=V b) β x u:=λh=>h.frame (λ_ _=>rfl) λ_ h=>.inl h
 have nK:Inv w (λb=>F b\/bP (β id)=V b) β (oG id rows st.H):=by
  refine⟨λb hb=>hb.elim (hI.cH b) λhb=>hI.gg ⟨id,_,hm,hb⟩,λi c h=>?_,Da hI.keys,λb ⟨i,c,h,hb⟩ hF=>?_,λi c i' c' b h h' hb aN=>?_,hI.fC.more λ_ h=>.inl h⟩
  .obtain⟨hi,c',h',rfl⟩:=lN h;have hh:=hI.holds i c' h';cases c' with
   |own E' K' r=>exact pN (c:=.own E' K' r) rfl (λ_ h=>.inl h) rfl hh
   |mp ag r=>exact pN (c:=.mp ag r) rfl (λ_ h=>.inl h) rfl hh
   |si s pos=>exact pN (c:=.si s pos) rfl (λ_ h=>.inl h) rfl hh
   |lp l e R L =>
    obtain⟨fn,tmps,D,hb,ya,sC,yr⟩:=hh;refine⟨fn,tmps,D,hb,ya,sC,λp hp=>?_⟩;obtain⟨q,hq,rfl⟩:=cL.1 hp;exact rC hz (λ_ _=>rfl) 2 (up (yr q hq))
   |box cells =>
    obtain⟨b,cs,e,hb,hh,hs,h1,hr⟩:=hh;refine⟨b,cs,e,hb,hh,by simpa using hs,λj hj=>h1 j (by simpa using hj),λj hj=>?_⟩
    have hj:j<cells.length:=by simpa using hj
    have:(cells.map (sb (.s rows) 1 id)).getD j .Δ=sb (.s rows) 1 id (cells.getD j .Δ):=by simp[bc,hj]
    rw[this];exact rC hz (λ_ _=>rfl) 1 (up (hr j hj))
  .obtain⟨hi,c',h',_⟩:=lN h
   rcases hF with hF|hF
   .exact hI.apart b ⟨i,c',h',hb⟩ hF
   .exact hi (hI.eD i c' id _ b h' hm hb hF)
  .obtain⟨_,c2,h2,_⟩:=lN h;obtain⟨_,c3,h3,_⟩:=lN h';exact hI.eD i c2 i' c3 b h2 h3 hb aN
 have yo:∀b,bH β (oG id rows st.H) b->bH β st.H b:=λb ⟨i,c,h,hb⟩=>by
  obtain⟨_,c2,h2,_⟩:=lN h;exact⟨i,c2,h2,hb⟩
 refine⟨_,β,hs,hd,λt=>rC hz (λ_ _=>rfl) 2 (up (hf t)),he.trans (f:=aR) (f':=aR) ⟨rfl,jL.refl _,rfl,bm _,λ_ _ _=>rfl,λb hb=>.inl hb,λb hb=>hb.elim .inl λhb=>.inr (.inr ⟨id,_,hm,hb⟩),λb hb=>.inr (yo b hb),λ_ _ _=>.Δ,nK,λ_ _=>rfl⟩⟩
def Is{C:Ctx}{fn:Func}{tmps:Array Value}{RR:Ending->World->Prop}{F:Nat->Prop}{β:Nat->Value}{H:Hp}(mg:C.dl=[]):∀(ds:List Deferred)(w:World),XM C ds w F β H ->
  (∀w',XM C [] w' F β H->(∀x u,Rd w F β x u->Rd w' F β x u)->LeavesIn gu 0 P fn tmps RR [] .returning w')->LeavesInM gu 0 P fn tmps RR ds .returning w
 |[],w,h,hk=>hk w h λ_ _ hr=>hr
 |d::ds,w,h,hk=>by
  have j9:∀l,C.ms l=l:=λl=>Ctx.V7 mg;obtain⟨D,h1,h2,h3,h4,h5⟩:=h.m d (by rw[j9];simp);have cz:=h.nd;rw[j9]at cz;have Ξ:=kS h3;have oP:∀b,b≠D->(w.putObj D (.deferred none)).heap[b]?=w.heap[b]?:=λb hb=>World.putObj_heap_other hb;have ha:gn F w (w.putObj D (.deferred none)):=λb hb=>oP b λe=>h4 (e▸hb);have hI:=h.inv;refine⟨by simp,.inl ⟨D,_,by rw[h1],run_takeDeferred h3,?_⟩⟩;have nK:Inv (w.putObj D (.deferred none)) F β H:=⟨λb hb=>by rw[kz];exact hI.cH b hb,λi c hm=>pM ha (λ_ h=>h) (λb hb=>oP b λe=>h5 (e▸⟨i,c,hm,hb⟩)) (hI.holds i c hm),hI.keys,hI.apart,hI.eD,hI.fC.at ha⟩;have hx:=h.x;refine Is mg ds _ ⟨⟨hx.os,hx.tape,hx.output,by rw[kz];exact hx.size,λb hb hn=>(oP b (by omega)).trans (hx.block b hb hn),hx.mono,hx.new,hx.owned,λ_ _ _=>.Δ,nK,hx.gC⟩,λd' bF=>?_,by rw[j9];exact(iO.1 cz).2,⟨ds,by rw[mg];simp⟩⟩ λw' oR cr=>hk w' oR λx u hr=>cr x u (hr.frame ha λ_ h=>h);rw[j9]at bF;obtain⟨D',g1,g2,g3,g4,g5⟩:=h.m d' (by rw[j9];simp[bF]);exact⟨D',g1,g2,(oP D' λe=>(iO.1 cz).1 (by rw[h1,<-e,<-g1];exact bF)).trans g3,g4,g5⟩
def G1{g:Nat}{fn:Func}{c:Code}{args:List AV}{H:Hp}{R0:AV->ak->Prop}{w:World}{F:Nat->Prop}{β:Nat->Value}(hT:bL P T)(dR:P.funcs[g]?=V fn)(hb:fn.body=V c)(hn:fn.ntmps=n)(hle:args.length<=n)
  (h:Ok P n c ⟨lq args,H⟩ (r_ T fn.results.toList R0)) {vs:Array Value} (hI:Inv w F β H) (hs:vs.size=args.length) (hv:∀i,i<args.length->Rd w F β (args.getD i .Δ) (vs.getD i undef)) :
  Calls P g vs w λe w'=>∃v,e=.returned v/\∃x st F' ay,R0 x st/\Rd w' F' ay x v/\Ext w F β ⟨aR,H⟩ w' F' ay ⟨aR,st.H⟩:=by
 refine callsIn_wide.1 (callsIn_of_wp_marks (F:=gu) (n:=0) dR hb trivial ?_);let C:Ctx:=⟨w,F,β,H,n,none,.inl rfl,[]⟩;have hr:Rel C ⟨lq args,H⟩ { tmps:=vs++oj (fn.ntmps-vs.size) undef,defers:=[] } w:=
  ⟨F,β,by simp[C,hn];omega,trivial,NW hs hv,⟨Ext.refl hI,λd hd=>(fu hd).elim,qK,⟨[],rfl⟩⟩⟩
 have fin:∀(st:ak)(a':Act)(w':World),Rel C st a' w'->qy T fn.results.toList st (λx=>R0 x st)->LeavesInM gu 0 P fn a'.tmps (λe w'=>∃v,e=.returned v/\∃x st F' ay,R0 x st/\Rd w' F' ay x v/\Ext w F β ⟨aR,H⟩ w' F' ay ⟨aR,st.H⟩) a'.defers .returning w':=λst a' w' ⟨F',ay,_,_,hf,he⟩ hq =>
  Is rfl a'.defers w' he λrH eN cr=>by
   obtain⟨v,x,bf,hk,hx⟩:=JP (P:=P) (st:=st) hT eN.inv (λt=>cr _ _ (hf t)) hq;exact⟨v,bf,v,rfl,x,st,F',ay,hk,hx,eN.x⟩
 refine wpIn_mono (h.h C rfl _ w hr) ?_;rintro e a' w' ⟨st,jo,hq⟩;cases e with
 |normal=>exact fin st a' w' jo hq
 |ret=>exact fin st a' w' jo hq
 |exit id=>exact hq.elim
 |goto l=>exact hq.elim
 |panic ch=>exact hq.elim
 |outgrown=>exact hq.elim
def afS{g:Nat}{fn:Func}{c:Code}{args:List AV}{r:AV}(hT:bL P T)(dR:P.funcs[g]?=V fn) (dM:(fn.name == "runtime.NumGoroutine")=false) (hb:fn.body=V c) (hn:fn.ntmps=n) (hle:args.length <= n)
  (h:Ok P n c ⟨lq args,[]⟩ (r_ T fn.results.toList λx st=>Fz st.H x r)):Pure P g args r:=by
 refine⟨⟨fn,c,dR,dM,hb⟩,λw F β vs hI hs hv=>?_⟩;refine(G1 hT dR hb hn hle h hI hs hv).mono ?_;rintro e w' ⟨v,rfl,x,st,F',ay,hz,hx,he⟩
 have bu:∀b,¬bH β ([]:Hp) b:=by rintro b ⟨id,c,hm,_⟩;cases hm
 refine⟨v,rfl,⟨he.os,he.tape,he.output,he.size,λb aN=>he.block b aN (bu b)⟩,?_⟩;refine(hz w' F' ay v he.inv hx).frame (λ_ _=>rfl) λb aN=>?_
 rcases aN with aN|aN
 .rcases he.new b aN with h1|h1|h1
  .exact .inl h1
  .exact .inr ⟨h1,he.inv.cH b aN⟩
  .exact(bu b h1).elim
 .rcases he.owned b aN with h1|h1
  .exact .inr ⟨h1,he.inv.gg aN⟩
  .exact(bu b h1).elim
def afR{g E K:Nat}{fn:Func}{c:Code}{args:List AV}{rows:List (List AV)}(hT:bL P T)(dR:P.funcs[g]?=V fn) (dM:(fn.name == "runtime.NumGoroutine")=false) (hb:fn.body=V c) (hn:fn.ntmps=n) (hle:args.length <= n)
  (h:Ok P n c ⟨lq args,[]⟩ (r_ T fn.results.toList (K9 E K rows))):j5 P g args E K rows:=by
 refine⟨⟨fn,c,dR,dM,hb⟩,λw F β vs hI hs hv=>?_⟩;refine(G1 hT dR hb hn hle h hI hs hv).mono ?_;rintro e w' ⟨v,rfl,x,st,F',ay,hz,hx,he⟩
 have bu:∀b,¬bH β ([]:Hp) b:=by rintro b ⟨id,c,hm,_⟩;cases hm
 refine⟨v,rfl,⟨he.os,he.tape,he.output,he.size,λb aN=>he.block b aN (bu b)⟩,F',he.mono,λb aN=>?_,?_⟩
 .rcases he.new b aN with h1|h1|h1
  .exact .inl h1
  .exact .inr ⟨h1,he.inv.cH b aN⟩
  .exact(bu b h1).elim
 .rcases hz with⟨rfl,rfl⟩|⟨id,rfl,hc⟩
  .rw[hx.bK];exact⟨.inl ⟨rfl,none,rfl⟩,⟨_,_,_,rfl⟩,λb aN=>by cases aN⟩
  .obtain⟨a,m,cp,an,rfl⟩:=hx.ko;have hm:=fk hc;refine⟨Oz (he.inv.holds _ _ hm) _ _ an.symm,⟨_,_,_,rfl⟩,λb aN=>?_⟩;have ho:bH ay st.H b:=⟨id,_,hm,by rw[an];exact aN⟩;refine⟨?_,he.inv.apart b ho⟩
   rcases he.owned b ho with h1|h1
   .exact h1
   .exact(bu b h1).elim
def qv{g:Nat}{fn:Func}{c:Code}{args:List AV}{ch:Chunk}{R1:AV->Chunk->Prop}(hT:bL P T)(dR:P.funcs[g]?=V fn) (dM:(fn.name == "runtime.NumGoroutine")=false) (hb:fn.body=V c) (hn:fn.ntmps=n) (hle:args.length <= n)
  (h:Ok P n c ⟨lq args,[(1000,ch)]⟩ (r_ T fn.results.toList (aar R1))):mO P g args ch R1:=by
 refine⟨⟨fn,c,dR,dM,hb⟩,λw F β vs hI hs hv=>?_⟩;refine(G1 hT dR hb hn hle h hI hs hv).mono ?_;rintro e w' ⟨v,rfl,x,st,F',ay,⟨r,c',hR,fZ,iv,hz⟩,hx,he⟩;have hm:=fk fZ;have M6:ay 1000=β 1000:=he.gC 1000 (bm _);have AA:=he.inv.oE 1000
 have Nn:∀b,bH β [(1000,ch)] b↔bP (β 1000)=V b:=λb=>⟨λ⟨i,c,hm,hb⟩=>by
  simp only[cV,iF]at hm;rw[<-hm.1];exact hb,λhb=>⟨1000,ch,by simp,hb⟩⟩
 have adh:∀b,bP (β 1000)=V b->bH ay st.H b:=λb hb=>⟨1000,c',hm,by rw[M6];exact hb⟩;refine⟨v,rfl,r,c',λb=>F' b\/bH ay (oE 1000 st.H) b,hR,hz w' F' ay v AA hx,he.os,he.tape,he.output,he.size,λb aN aI=>he.block b aN λho=>aI ((Nn b).1 ho),λb hb=>.inl (he.mono b hb),λb hb=>?_,iv,?_⟩
 .rcases hb with hb|⟨i,ci,lj,hb⟩
  .rcases he.new b hb with h1|h1|h1
   .exact .inl h1
   .exact .inr ⟨h1,he.inv.cH b hb⟩
   .exact absurd hb (he.inv.apart b (adh b ((Nn b).1 h1)))
  .have ho:bH ay st.H b:=⟨i,ci,(vk.1 lj).1,hb⟩
   rcases he.owned b ho with h1|h1
   .exact .inr ⟨h1,he.inv.gg ho⟩
   .exact absurd (he.inv.eD i ci 1000 c' b (vk.1 lj).1 hm hb (by rw[M6];exact(Nn b).1 h1)) (vk.1 lj).2
 .exact pN iv (λ_ h=>.inl h) M6.symm (he.inv.holds _ _ hm)
end
instance ak0:eF:=eF.no
local instance akU:rR:=⟨[]⟩
local instance akR:nE:=⟨[]⟩
def G2(ops:Array Oper)(i:Nat)(o:Oper):Bool:=
 match o.dst with
 |none=>true
 |some d=>eS d 1000&&(gM ops.size).all λj=>i==j||((ops[j]?).bind (·.dst)) != V d
def LA(ops:Array Oper)(i:Nat)(o:Oper):Bool:=
 (o.looksAt ops).all λt=>(gM ops.size).all λj=>match ops[j]? with
  |none=>true
  |some o'=>(o'.dst != V t)||jj ops i j
def tL(chain:List (Nat×List Nat))(ops:Array Oper):List Nat:=(gM ops.size).filter λi=>!(chain.any λc=>aM c.1 i)
def qe(chain:List (Nat×List Nat))(ops:Array Oper):List (Nat×List Nat)->Bool
 |[]=>true
 |c::r=>eS c.1 ops.size&&((match ops[c.1]? with|some _=>true|none=>false)&&(((tL chain ops).all λi=>jj ops c.1 i||c.2.elem i)&&((match r with|[]=>true|c'::_=>jj ops c'.1 c.1)&&qe chain ops r)))
def SD(chain:List (Nat×List Nat))(ops:Array Oper):Bool:=
 ((gM ops.size).all λi=>match ops[i]? with
  |none=>true
  |some o=>xD i o&&(tz ops i o&&(G2 ops i o&&LA ops i o)))&&(qe chain ops chain&&((tL chain ops).all λi=>match ops[i]? with|some o=>o.dst.isSome|none=>true))
def Hj(chain:List (Nat×List Nat))(ops:Array Oper):List Oper:=(tL chain ops).filterMap λi=>ops[i]?
section
variable{P:Program}{T:TT}{C:Ctx}
structure GH(C:Ctx)(ops:Array Oper)(m:Nat)(fA:Nat->AV)(Hm:Hp)(listed:Array Bool)(a:Act)(w:World):Prop where
 ex:∃F β,a.tmps.size=C.n/\True/\XM C a.defers w F β Hm /\
  (∀t,(∀i o,i<m->ops[i]?=V o->o.dst=V t->listed.getD i false=true)->Rd w F β (fA t) (a.tmps.getD t undef))
def acv{ops:Array Oper}{m i n:Nat}{o:Oper}{fe:Nat->AV}{Hm:Hp}{listed:Array Bool}{a:Act}{w:World}{Q:Exit->Act->World->Prop}{N:Act->World->Prop}
  (hT:bL P T) (hn:C.n=n) (bd:listed.size=ops.size) (ho:ops[i]?=V o)
  (AQ:∀t j o',j<m->t∈o.looksAt ops->ops[j]?=V o'->o'.dst=V t->listed.getD j false=true)
  (bU:uS P T ops Hm fe o) (Ξ:∀d,o.dst=V d->d<n) (h:GH C ops m fe Hm listed a w)
  (hN:∀a w,GH C ops m fe Hm (listed.setIfInBounds i true) a w->N a w):wpOpIn (fW C.ro) 0 P ops Q i N a w:=by
 obtain⟨F,β,hs,hd,he,hf⟩:=h.ex;obtain⟨d,fw,bU⟩:=bU
 have xX:d<a.tmps.size:=by rw[hs,hn];exact Ξ d fw
 have eO:i<listed.size:=by rw[bd];exact(lB.1 ho).1
 have look:∀t,t∈o.looksAt ops->Rd w F β (fe t) (a.tmps.getD t undef):=λt ht=>hf t λj o' hj aF bF=>AQ t j o' hj ht aF bF
 have rz:∀x,x∈o.op.operands->Rd w F β (ev fe x) (a.eval x):=λx hx=>by
  cases x with
  |tmp t=>exact look t (nC _ (my.2 ⟨.tmp t,by simpa using hx,rfl⟩))
  |const v=>exact oa _ _ _ _
  |global g=>exact .Δ
  |func g=>exact .i (.c rfl rfl (λi hi=>absurd hi (by simp)) (λi hi=>absurd hi (by simp)))
 have hI:Inv w F β Hm:=he.inv
 have done:∀(v:Value)(w':World),Below w.heap.size w w'->Rd w' (fK F w w') β (fe d) v->GH C ops m fe Hm (listed.setIfInBounds i true) (a.put (V d) v) w':=λv w' hb hv=>by
  have hx:=vq (st:=⟨aR,Hm⟩) he.inv hb;refine⟨fK F w w',β,by simpa [jg]using hs,hd,he.trans hx,λt ht=>?_⟩;by_cases pQ:t=d
  .subst pQ;simpa [jg,xX]using hv
  .have h1:=(hf t λj o' hj aF bF=>by
    have:=ht j o' hj aF bF;rw[fI eO]at this;split at this
    .rename_i e;subst e;rw[ho]at aF;cases aF;rw[fw]at bF;cases bF;exact absurd rfl pQ
    .exact this).later hb he.inv.cH
   simpa [jg,wW (lG pQ)]using h1
 have run:(og P T o (ev fe) Hm λr=>r=fe d)->o.wpIn (fW C.ro) 0 P a w N Q:=λhs=>by
  have cz:=Yy hs
  rcases Yz hT hI rz hs with⟨v,w',bf,hb,r,rfl,hv⟩|⟨g,vs,bf,hc⟩
  .refine Oper.kI cz bf ?_;rw[xd,fw];exact hN _ _ (done v w' hb hv)
  .refine Oper.kI cz bf ?_;rw[zU];refine⟨λh=>(by cases h),uZ (hc.mono ?_)⟩;rintro e w' ⟨v,rfl,hb,r,rfl,hv⟩;rw[fw];exact hN _ _ (done v w' hb hv)
 have skip:fe d=.v undef->N (a.put o.dst undef) w:=λh0=>by
  rw[fw];exact hN _ _ (done undef w (Below.refl _ _) (by rw[h0];exact .i (.v (.inr rfl))))
 unfold wpOpIn;simp only[ho];cases hg:o.guard with
 |none =>
  rw[hg]at bU
  have hw:d_ o (yielded ops a.tmps)=true:=by simp[d_,hg]
  rw[if_pos hw];exact run bU
 |some jw =>
  obtain⟨j,want⟩:=jw;rw[hg]at bU;obtain⟨g,ew,bU⟩:=bU
  have tY:g∈o.looksAt ops:=by
   refine uJ _ ?_;rw[hg];simp[ew]
  have pF:=look g tY
  have hy:∀v,v≠undef->a.tmps.getD g undef=v->yielded ops a.tmps j=match v with|.bool b=>V b|_=>none:=by
   intro v aI hv
   have h2:a.tmps[g]?=V v:=by
    by_cases hl:g<a.tmps.size
    .rw[<-hv];simp[hl]
    .exact absurd (by rw[<-hv];simp[hl]) aI
   unfold yielded;rw[ew,aS,h2];cases v<;>rfl
  rcases bU with⟨h1,h2⟩|⟨h1,h2⟩|⟨⟨vs,h1⟩,h2⟩
  .rw[h1]at pF;have ix:=hy _ (by simp[undef]) pF.bK
   have hw:d_ o (yielded ops a.tmps)=true:=by simp[d_,hg,ix]
   rw[if_pos hw];exact run h2
  .rw[h1]at pF;have ix:=hy _ (by simp[undef]) pF.bK
   have hw:¬d_ o (yielded ops a.tmps)=true:=by simp[d_,hg,ix]
   rw[if_neg hw];exact⟨λ_ _=>trivial,skip h2⟩
  .rw[h1]at pF;have hv:=pF.bK
   have ix:yielded ops a.tmps j=none:=by
    unfold yielded;rw[ew,aS];by_cases hl:g<a.tmps.size
    .have h3:a.tmps[g]?=V (.tuple vs):=by rw[<-hv];simp[hl]
     rw[h3]
    .simp[ZJ (Nat.le_of_not_lt hl)]
   have hw:¬d_ o (yielded ops a.tmps)=true:=by simp[d_,hg,ix]
   rw[if_neg hw];exact⟨λ_ _=>trivial,skip h2⟩
def IA{chain:List (Nat×List Nat)}{ops:Array Oper}{i:Nat}:i∈tL chain ops↔i<ops.size/\∀c,c∈chain->c.1≠i:=by
 unfold tL;rw[dK,mz];refine and_congr_right λ_=>?_;simp only[Bool.not_eq_true',List.any_eq_false];refine⟨λh c hc e=>h c hc (by rw[e];exact jv _),λh c hc e=>h c hc (cT e)⟩
end
end
end Go.Cat
