/- The logic that the walks are in, piece P7. No condition. -/
import Derived.Test.YtdcgbodbejgliaaGreatDoorXTopThereAndBackCatP6
import Derived.RecoverIn
import Derived.Shelf.Spec.SlicesInsertGrow
import Derived.Shelf.SlLaysE
import Derived.Lib.SlicesDelete
import Derived.Deep.RegionLaw
import Derived.Laws.CopyRow
import Derived.KernelRfl
open Option renaming some->V
open Array renaming getElem?_eq_getElem->gK,getElem?_eq_some_iff->lB,getD_eq_getD_getElem?->lA,length_toList->lZ,getElem?_push->nv,getElem?_modify->p0,replicate->oj,getElem?_append->pZ,size_append->s5
open Bool renaming and_eq_true->bR,or_eq_true->s6
open ByteArray renaming mk->j1
open Classical renaming byContradiction->wY
open Go renaming sizeOf->rL
open Go.Act renaming put->jg,eval->zL
open Go.Addr renaming add_lit->gr
open Go.Builtin renaming zeroCells->dJ,append_->iD,copy_->qE,firstCells->wX,clear_->uD
open Go.Deferred renaming ofValue->mw
open Go.Extern.SlicesOverlaps renaming overlaps->rK
open Go.Fence renaming wide->gu
open Go.Instr renaming makeInterface->ZV
open Go.IntKind renaming i64->KK,wrap_i64->ZY
open Go.Lib renaming wpList_append_run->KL
open Go.Oper renaming uponIn_value->xd,uponIn_enter->zU,uponIn_panic->aae
open Go.Region renaming wanted->d_,binds->j4,ready->l9
open Go.Region.linearise renaming go->KW
open Go.Src renaming ofSlice->Rv
open Go.TypeDesc renaming tuple->aal,slice->aak,bool->aai,int->aaj
open Go.Value renaming slice->Sa,bool->CG
open Go.World renaming putObj_size->kz,putObj_heap_other->qa,alloc->l_,cell?->uN,setRow->xe,frozen?->alo
open Int renaming toNat_natCast->gv
open List renaming getElem?_eq_getElem->bD,mem_cons->bp,mem_cons_of_mem->cw,getD->bc,mem_singleton->cV,length_append->cZ,getElem?_eq_some_iff->eZ,getD_eq_getElem?_getD->gk,length_take->dq,mem_append->ep,all_eq_true->eo,getElem_mem->eA,getElem?_take->fS,not_mem_nil->fu,getElem?_append->gV,getElem?_drop->iN,nodup_cons->iO,size_toArray->lF,mem_filterMap->my,append_assoc->l7,mem_range->mz,nil_append->uK,nodup_nil->qK,eq_nil_iff_forall_not_mem->zQ,mem_append_right->uJ,getElem_of_mem->RP,filterMap_cons->RL
open Nat renaming mul_le_mul_right->cC,le_refl->bm,beq->aM,add_mul->bM,le_trans->dZ,blt_eq->gW,le_succ->ku,lt_of_lt_of_le->ou,add_zero->l8,min_eq_left->xb,div_lt_iff_lt_mul->zS,le_of_ble_eq_true->zT,strongRecOn->s9,ble->p9,min->p_,mod_lt->rP,div_add_mod->R4,ne_of_lt->KT,mul_pos->R7
open Option renaming bind_some->aS
open Prod.mk renaming injEq->iF
namespace Go.Cat
set_option linter.all false
section
open Go.RowKit
variable[M:cD][G:ed][R:eF]
abbrev jX(E:TypeId)(n:Int):List PanicEntry:=[{ v:=.iface E (.int .i64 n),recovered:=false }]
def kQ(P:Program)(E:TypeId)(g:FuncId)(args:List AV)(st:ak)(k:AV->ak->Prop)(kx:Int->ak->Prop):Prop:=
 qb P g/\∀(w:World)(F:Nat->Prop)(β:Nat->Value)(vs:Array Value),Inv w F β st.H->vs.size=args.length ->
  (∀i,i<args.length->Rd w F β (args.getD i .Δ) (vs.getD i undef)) ->
  Calls P g vs w λe w'=>(∃v,e=.returned v/\∃r ax F' ay,k r ax/\Rd w' F' ay r v/\Ext w F β st w' F' ay ax) \/
   ∃n,e=.panicked (jX E n)/\∃ax F' ay,kx n ax/\Ext w F β st w' F' ay ax
def LQ(P:Program)(E:TypeId)(f:AV)(xs:List AV)(st:ak)(k:AV->ak->Prop)(kx:Int->ak->Prop):Prop:=
 match f with
 |.c (.func g) fs cs=>kQ P E g (fs++(xs++cs)) st k kx
 |_=>False
def wK(P:Program)(T:TT)(E:TypeId)(o:Oper)(st:ak)(k:AV->ak->Prop)(kx:Int->ak->Prop):Prop:=
 match o.op with
 |.call c=>match c.callee with
  |.value f=>LQ P E (ev st.f f) (c.args.toList.map (ev st.f)) st k kx
  |_=>False
 |.makeInterface t x=>match ev st.f x,T t with
  |.v (.int .i64 n),V i=>match i.kind with
   |.int .i64=>k (.v (.iface t (.int .i64 n))) st
   |_=>False
  |_,_=>False
 |.panic x=>match ev st.f x with
  |.v (.iface t (.int .i64 n))=>t=E/\kx n st
  |_=>False
 |_=>False
def Kg(P:Program)(T:TT)(E:TypeId)(o:Oper)(st:ak)(k:AV->ak->Prop)(kx:Int->ak->Prop):Prop:=
 step P T o st k\/wK P T E o st k kx
def Gi(P:Program)(T:TT)(E:TypeId)(n:Nat)(all:Array Oper):List Oper->ak->(ak->Prop)->(Int->ak->Prop)->Prop
 |[],st,K,_=>K st
 |o::os,st,K,KX=>gd n all o st (λst=>Kg P T E o st (λr ax=>put n o.dst ax r λhZ=>Gi P T E n all os hZ K KX) KX) λst=>put n o.dst st (.v undef) λax=>Gi P T E n all os ax K KX
section
variable{P:Program}{T:TT}{E:TypeId}{C:Ctx}{w:World}{F:Nat->Prop}{β:Nat->Value}
def Se(P:Program)(E:TypeId)(s:Sem Next)(w:World)(F:Nat->Prop)(β:Nat->Value)(st:ak)(k:AV->ak->Prop)(kx:Int->ak->Prop):Prop:=
 (∃v w',s.run P w=.ok (.value v) w'/\EPost w F β st k v w')\/(∃n,s.run P w=.halt (.panic (.iface E (.int .i64 n))) w/\kx n st) \/
 (∃g vs,s.run P w=.ok (.enter g vs) w/\Calls P g vs w λe w'=>(∃v,e=.returned v/\EPost w F β st k v w')\/∃n,e=.panicked (jX E n)/\∃ax F' ay,kx n ax/\Ext w F β st w' F' ay ax)
def aaz{f:Nat->AV}{a:Act}(hf:∀t,Rd w F β (f t) (a.tmps.getD t undef))(args:Array Operand):∀i,i<(args.toList.map (ev f)).length->Rd w F β ((args.toList.map (ev f)).getD i .Δ) ((args.map a.eval).getD i undef):=by
 intro i hi
 have hi:i<args.size:=by simpa using hi
 have:=Ao hf args[i];simpa [bc,hi]using this
def ahm{o:Oper}{a:Act}{st:ak}{k:AV->ak->Prop}{kx:Int->ak->Prop}(hT:bL P T)(hI:Inv w F β st.H)(hf:∀t,Rd w F β (st.f t) (a.tmps.getD t undef))(h:wK P T E o st k kx):Se P E (execOp a.eval o) w F β st k kx:=by
 obtain⟨dst,op,type,pos,after,guard⟩:=o
 cases op<;>simp only[wK]at h<;>first|exact h.elim|skip
 case call c =>
  obtain⟨callee,args,argTypes⟩:=c
  cases callee<;>simp only at h<;>first|exact h.elim|skip
  rename_i f;unfold LQ at h;split at h
  .rename_i g fs cs lQ;have ss:=Ao hf f;rw[lQ]at ss;obtain⟨us,ws,MU,hs,dG,hu,hw⟩:=ss.nG;obtain⟨⟨fn,code,dR,dM,hb⟩,h⟩:=h
   have ri:¬ fn.name = "runtime.NumGoroutine":=by simpa using dM
   refine .inr (.inr ⟨g,us++args.map a.eval++ws,?_,?_⟩)
   .have e:execOp a.eval { dst,op:=.call { callee:=.value f,args,argTypes },type,pos,after,guard }=(do let d <-mw (a.eval f) (args.map a.eval);invoke d.target d.args):=rfl;rw[e,MU];simp[mw,invoke,callFunc,dR,ri,hb]
   .have hl:(args.map a.eval).size=(args.toList.map (ev st.f)).length:=by simp
    exact h w F β _ hI (by simp[hs,dG]) (GQ hs hl dG hu (aaz hf args) hw)
  .exact h.elim
 case makeInterface t x =>
  split at h
  .rename_i n i hx hi;split at h
   .rename_i hk;have nW:=Ao hf x;rw[hx]at nW;refine .inl ⟨.iface t (.int .i64 n),w,?_,?_⟩
    .simp only[execOp];rw[nW.bK];have:=(hT _ _ hi).int hk;simp[ZV,run_underlying this]
    .exact⟨_,st,F,β,h,.i (.v (.inl rfl)),Ext.refl hI⟩
   .exact h.elim
  .exact h.elim
 case panic x =>
  split at h
  .rename_i t n hx;obtain⟨rfl,h⟩:=h;have nW:=Ao hf x;rw[hx]at nW;refine .inr (.inl ⟨n,?_,h⟩);simp only[execOp];rw[nW.bK];simp[run_panic_iface]
  .exact h.elim
def YC{o:Oper}{st:ak}{k:AV->ak->Prop}{kx:Int->ak->Prop}(h:wK P T E o st k kx):∀c,o.op≠.defer c:=λc e=>by
 unfold wK at h;rw[e]at h;exact h
def ajV{n:Nat}{all:Array Oper}{o:Oper}{i:Nat}{st:ak}{K:ak->Prop}{KX:Int->ak->Prop}{a:Act}{w:World}{Q:Exit->Act->World->Prop}{N:Act->World->Prop}(hT:bL P T)(hn:C.n=n)(ho:all[i]?=V o)(hr:Rel C st a w)
  (hN:∀st a w,Rel C st a w->K st->N a w) (hQ:∀m st a w,Rel C st a w->KX m st->Q (.panic (jX E m)) a w)
  (h:gd n all o st (λst=>Kg P T E o st (λr ax=>put n o.dst ax r K) KX) λst=>put n o.dst st (.v undef) K):wpOpIn (fW C.ro) 0 P all Q i N a w:=by
 obtain⟨F,β,hs,hd,hf,he⟩:=hr
 have run:∀st:ak,(∀t,Rd w F β (st.f t) (a.tmps.getD t undef))->XM C a.defers w F β st.H->(wK P T E o st (λr ax=>put n o.dst ax r K) KX)->o.wpIn (fW C.ro) 0 P a w N Q:=by
  intro st hf he h;have cz:=YC h
  rcases ahm hT he.inv hf h with⟨v,w',bf,r,ax,F',ay,hk,hv,hx⟩|⟨m,bf,hk⟩|⟨g,vs,bf,hc⟩
  .refine Oper.kI cz bf ?_;rw[xd];obtain⟨hZ,h1,h2⟩:=yQ hn hs hd (λt=>hx.keep t _ (hf t)) (he.trans (hx.uw aR)) hv hk;exact hN _ _ _ h1 h2
  .refine Oper.kI cz bf ?_;rw[aae];exact hQ m st a w ⟨F,β,hs,hd,hf,he⟩ hk
  .refine Oper.kI cz bf ?_;rw[zU];refine⟨λh=>(by cases h),uZ (hc.mono ?_)⟩;rintro e w' (⟨v,rfl,r,ax,F',ay,hk,hv,hx⟩|⟨m,rfl,ax,F',ay,hk,hx⟩)
   .obtain⟨hZ,h1,h2⟩:=yQ hn hs hd (λt=>hx.keep t _ (hf t)) (he.trans (hx.uw aR)) hv hk;exact hN _ _ _ h1 h2
   .exact hQ m ax a w' ⟨F',ay,hs,hd,λt=>hx.keep t _ (hf t),he.trans (hx.uw aR)⟩ hk
 by_cases hg:o.guard=none
 .rw[sa,hg]at h;simp only at h
  rcases h with h|h
  .refine uB (K:=K) hT hn ho ⟨F,β,hs,hd,hf,he⟩ hN ?_;rw[sa,hg];exact h
  .unfold wpOpIn;simp only[ho]
   have hw:d_ o (yielded all a.tmps)=true:=by simp[d_,hg]
   rw[if_pos hw];exact run st hf he h
 .obtain⟨⟨j,want⟩,hg⟩:=Option.ne_none_iff_exists'.1 hg;have h0:=h;rw[sa,hg]at h;simp only at h;split at h
  .rename_i d jO;obtain⟨HV,h⟩:=cond_prop h
   have Ξ:d<a.tmps.size:=by rw[hs,hn];simpa [gW]using HV
   have gz:=hf d;split at h
   .rename_i b hb;rw[hb]at gz;have hv:=gz.bK
    have ix:yielded all a.tmps j=V b:=by
     have h2:a.tmps[d]?=V (.bool b):=by rw[<-hv];simp[Ξ]
     unfold yielded;rw[jO,aS,h2]
    by_cases jN:b=want
    .have hy:=h.y jN
     rcases hy with hy|hy
     .refine uB (K:=K) (st:=⟨ej st.f d (.v (.bool want)),st.H⟩) hT hn ho ⟨F,β,hs,hd,Cp hf hb jN,he⟩ hN ?_;rw[sa,hg];simp only[jO,HV,cond_true,ej,Nat.beq_refl];refine Br.yes rfl ?_
      have e:ej (ej st.f d (.v (.bool want))) d (.v (.bool want))=ej st.f d (.v (.bool want)):=by
       funext t;simp only[ej];cases aM t d<;>rfl
      show step P T o ⟨ej (ej st.f d (.v (.bool want))) d (.v (.bool want)),st.H⟩ _;rw[e];exact hy
     .unfold wpOpIn;simp only[ho]
      have hw:d_ o (yielded all a.tmps)=true:=by simp[d_,hg,ix,jN]
      rw[if_pos hw];exact run ⟨ej st.f d (.v (.bool want)),st.H⟩ (Cp hf hb jN) he hy
    .have qi:b=!want:=by cases b<;>cases want<;>first|rfl|exact absurd rfl jN
     refine uB (K:=K) hT hn ho ⟨F,β,hs,hd,hf,he⟩ hN ?_;rw[sa,hg];simp only[jO,HV,cond_true,hb];exact Br.no qi (h.n qi)
   .rename_i vs hb;refine uB (K:=K) hT hn ho ⟨F,β,hs,hd,hf,he⟩ hN ?_;rw[sa,hg];simp only[jO,HV,cond_true,hb];exact h
   .exact h.elim
  .exact h.elim
def ajW{n:Nat}{all:Array Oper}{K:ak->Prop}{KX:Int->ak->Prop}{Q:Exit->Act->World->Prop}(hT:bL P T)(hn:C.n=n)(hQ:∀st a w,Rel C st a w->K st->Q .normal a w)(hX:∀m st a w,Rel C st a w->KX m st->Q (.panic (jX E m)) a w):
  ∀(l:List Oper)(i:Nat)(st:ak)(a:Act)(w:World),(∀k,k<l.length->all[i+k]?=l[k]?)->Rel C st a w->Gi P T E n all l st K KX->wpOpsIn (fW C.ro) 0 P all Q (List.range' i l.length) a w:=by
 intro l;induction l with
 |nil=>intro i st a w _ hr h;exact hQ _ _ _ hr h
 |cons o os ih =>
  intro i st a w dQ hr h
  have ho:all[i]?=V o:=by simpa using dQ 0 (by simp)
  rw[List.length_cons,List.range'_succ,wpOpsIn_cons];refine ajV (K:=λst=>Gi P T E n all os st K KX) (KX:=KX) hT hn ho hr (λst a w hr hk=>?_) hX h;exact ih (i+1) st a w (λk hk=>by have:=dQ (k+1) (by simp;omega);rw[show i+1+k=i+(k+1) by omega];simpa using this) hr hk
def Ok.jI{n id:Nat}{ops:Array Oper}{st:ak}{Q:Exit->ak->Prop}(E:TypeId)(hT:bL P T)(h:Gi P T E n ops ops.toList st (Q .normal) λm ax=>Q (.panic (jX E m)) ax):Ok P n (.region id ops false) st Q:=
 ⟨λC hn a w hr=>by
  refine wpIn_region ?_;have:=ajW (C:=C) (Q:=λe a' w'=>∃ax,Rel C ax a' w'/\Q e ax) hT hn (λst a w hr hk=>⟨st,hr,hk⟩) (λm st a w hr hk=>⟨st,hr,hk⟩) ops.toList 0 st a w (λk hk=>by simp) hr h
  simpa [List.range_eq_range']using this⟩
def L_(T:TT)(E:TypeId)(rs:List ResultVar)(R:AV->ak->Prop)(RX:Int->Prop):Exit->ak->Prop
 |.normal,st=>qy T rs st λx=>R x st
 |.ret,st=>qy T rs st λx=>R x st
 |.panic l,_=>∃m,l=jX E m/\RX m
 |_,_=>False
def VW{C:Ctx}{fn:Func}{tmps:Array Value}{RR:Ending->World->Prop}{F:Nat->Prop}{β:Nat->Value}{H:Hp}{u:FrameMode}(hu:u≠.run)(mg:C.dl=[]):∀(ds:List Deferred)(w:World),XM C ds w F β H ->
  (∀w',XM C [] w' F β H->(∀x u,Rd w F β x u->Rd w' F β x u)->LeavesIn gu 0 P fn tmps RR [] u w')->LeavesInM gu 0 P fn tmps RR ds u w
 |[],w,h,hk=>hk w h λ_ _ hr=>hr
 |d::ds,w,h,hk=>by
  have j9:∀l,C.ms l=l:=λl=>Ctx.V7 mg;obtain⟨D,h1,h2,h3,h4,h5⟩:=h.m d (by rw[j9];simp);have cz:=h.nd;rw[j9]at cz;have Ξ:=kS h3;have oP:∀b,b≠D->(w.putObj D (.deferred none)).heap[b]?=w.heap[b]?:=λb hb=>qa hb;have ha:gn F w (w.putObj D (.deferred none)):=λb hb=>oP b λe=>h4 (e▸hb);have hI:=h.inv;refine⟨hu,.inl ⟨D,_,by rw[h1],run_takeDeferred h3,?_⟩⟩;have nK:Inv (w.putObj D (.deferred none)) F β H:=⟨λb hb=>by rw[kz];exact hI.cH b hb,λi c hm=>pM ha (λ_ h=>h) (λb hb=>oP b λe=>h5 (e▸⟨i,c,hm,hb⟩)) (hI.holds i c hm),hI.keys,hI.apart,hI.eD,hI.fC.at ha⟩;have hx:=h.x;refine VW hu mg ds _ ⟨⟨hx.os,hx.tape,hx.output,by rw[kz];exact hx.size,λb hb hn=>(oP b (by omega)).trans (hx.block b hb hn),hx.mono,hx.new,hx.owned,λ_ _ _=>.Δ,nK,hx.gC⟩,λd' bF=>?_,by rw[j9];exact(iO.1 cz).2,⟨ds,by rw[mg];simp⟩⟩ λw' oR cr=>hk w' oR λx u hr=>cr x u (hr.frame ha λ_ h=>h);rw[j9]at bF;obtain⟨D',g1,g2,g3,g4,g5⟩:=h.m d' (by rw[j9];simp[bF]);exact⟨D',g1,g2,(oP D' λe=>(iO.1 cz).1 (by rw[h1,<-e,<-g1];exact bF)).trans g3,g4,g5⟩
def Ext.forget{w0:World}{F0:Nat->Prop}{oZ:Nat->Value}{oY st:ak}(h:Ext w0 F0 oZ oY w F β st):Ext w0 F0 oZ oY w F β ⟨aR,[]⟩:=
 ⟨h.os,h.tape,h.output,h.size,h.block,h.mono,h.new,λ_ ⟨_,_,hm,_⟩=>(fu hm).elim,λ_ _ _=>.Δ,h.inv.nil,h.gC⟩
def aaM{g n:Nat}{fn:Func}{c:Code}{args:List AV}{H:Hp}{R0:AV->ak->Prop}{RX:Int->Prop}(hT:bL P T)(dR:P.funcs[g]?=V fn)(hb:fn.body=V c)(hn:fn.ntmps=n)(hle:args.length<=n)
  (h:Ok P n c ⟨lq args,H⟩ (L_ T E fn.results.toList R0 RX)) {vs:Array Value} (hI:Inv w F β H) (hs:vs.size=args.length) (hv:∀i,i<args.length->Rd w F β (args.getD i .Δ) (vs.getD i undef)) :
  Calls P g vs w λe w'=>(∃v,e=.returned v/\∃x st F' ay,R0 x st/\Rd w' F' ay x v/\Ext w F β ⟨aR,H⟩ w' F' ay ⟨aR,st.H⟩) \/
   ∃m,e=.panicked (jX E m)/\RX m/\∃F' ay,Ext w F β ⟨aR,H⟩ w' F' ay ⟨aR,[]⟩:=by
 refine callsIn_wide.1 (callsIn_of_wp_marks (F:=gu) (n:=0) dR hb trivial ?_);let C:Ctx:=⟨w,F,β,H,n,none,.inl rfl,[]⟩;have hr:Rel C ⟨lq args,H⟩ { tmps:=vs++oj (fn.ntmps-vs.size) undef,defers:=[] } w:=
  ⟨F,β,by simp[C,hn];omega,trivial,NW hs hv,⟨Ext.refl hI,λd hd=>(fu hd).elim,qK,⟨[],rfl⟩⟩⟩
 have fin:∀(st:ak)(a':Act)(w':World),Rel C st a' w'->qy T fn.results.toList st (λx=>R0 x st)->LeavesInM gu 0 P fn a'.tmps (λe w'=>(∃v,e=.returned v/\∃x st F' ay,R0 x st/\Rd w' F' ay x v/\Ext w F β ⟨aR,H⟩ w' F' ay ⟨aR,st.H⟩) \/
   ∃m,e=.panicked (jX E m)/\RX m/\∃F' ay,Ext w F β ⟨aR,H⟩ w' F' ay ⟨aR,[]⟩) a'.defers .returning w':=λst a' w' ⟨F',ay,_,_,hf,he⟩ hq =>
  Is rfl a'.defers w' he λrH eN cr=>by
   obtain⟨v,x,bf,hk,hx⟩:=JP (P:=P) (st:=st) hT eN.inv (λt=>cr _ _ (hf t)) hq;exact⟨v,bf,.inl ⟨v,rfl,x,st,F',ay,hk,hx,eN.x⟩⟩
 refine wpIn_mono (h.h C rfl _ w hr) ?_;rintro e a' w' ⟨st,jo,hq⟩;cases e with
 |normal=>exact fin st a' w' jo hq
 |ret=>exact fin st a' w' jo hq
 |exit id=>exact hq.elim
 |goto l=>exact hq.elim
 |panic ch =>
  obtain⟨m,rfl,hq⟩:=hq;obtain⟨F',ay,_,_,hf,he⟩:=jo;exact VW (by simp) rfl a'.defers w' he λrH eN cr=>.inr ⟨m,rfl,hq,F',ay,eN.x.forget⟩
 |outgrown=>exact hq.elim
def afK{g n:Nat}{fn:Func}{c:Code}{args:List AV}{H0:Hp}{ρ:Type}{q:Int ⊕ ρ}{r:ρ->AV}{H1:ρ->Hp}(hT:bL P T)(dR:P.funcs[g]?=V fn) (dM:(fn.name == "runtime.NumGoroutine")=false) (hb:fn.body=V c) (hn:fn.ntmps=n) (hle:args.length <= n)
  (h:Ok P n c ⟨lq args,H0⟩ (L_ T E fn.results.toList (λx s=>∃y,q=.inr y/\Wk ⟨ej aR 0 x,s.H⟩ ⟨Ψ [(0,r y)],H1 y⟩) λm=>q=.inl m)) :
  kQ P E g args ⟨aR,H0⟩ (λx s=>∃y,q=.inr y/\x=r y/\s.H=H1 y) λm s=>q=.inl m/\s.H=[]:=by
 refine⟨⟨fn,c,dR,dM,hb⟩,λw F β vs hI hs hv=>?_⟩;refine(aaM hT dR hb hn hle h hI hs hv).mono ?_;rintro e w' (⟨v,rfl,x,st,F',ay,⟨y,hy,hW⟩,hx,he⟩|⟨m,rfl,hm,F',ay,he⟩)
 .obtain⟨F2,bW,_,_,hf,h2⟩:=hW ⟨w,F,β,H0,1,none,.inl rfl,[]⟩ { tmps:=#[v],defers:=[] } w' ⟨F',ay,rfl,trivial,λt=>by
   show Rd w' F' ay (bif aM t 0 then x else aR t) _;cases t with
   |zero=>exact hx
   |succ t=>exact .Δ,⟨he,λd hd=>(fu hd).elim,qK,⟨[],rfl⟩⟩⟩
  exact .inl ⟨v,rfl,r y,⟨aR,H1 y⟩,F2,bW,⟨y,hy,rfl,rfl⟩,hf 0,h2.x⟩
 .exact .inr ⟨m,rfl,⟨aR,[]⟩,F',ay,⟨hm,rfl⟩,he⟩
def kQ.gen{g:FuncId}{xs ys:List AV}{st:ak}{H0:Hp}{ρ:Type}{q:Int⊕ρ}{r:ρ->AV}{H1:ρ->Hp}{k:AV->ak->Prop}{kx:Int->ak->Prop}{m n:List (Nat×Nat)}(h:kQ P E g ys ⟨aR,H0⟩ (λx s=>∃y,q=.inr y/\x=r y/\s.H=H1 y) λm s=>q=.inl m/\s.H=[])
  (hx:jx m xs ys) (hH:uR m st.H H0) (lf:jV H0=true) (ht:B7 m n=true) (ek:∀y,jV (iA (cU (kL m n)) (H1 y)++kM m n st.H)=true) (dz:jV (kM m n st.H)=true)
  (hp:∀e,q=.inl e->kx e ⟨λt=>tK n (st.f t),kM m n st.H⟩)
  (hk:∀y,q=.inr y->k (rl (cU (kL m n)) 3 (r y)) ⟨λt=>tK n (st.f t),iA (cU (kL m n)) (H1 y)++kM m n st.H⟩):kQ P E g xs st k kx:=by
 refine⟨h.1,λw F β vs hI hs hv=>?_⟩;obtain⟨hl,dv,tQ,ν,sl⟩:=TL hx hH lf ht hI hv;refine(h.2 w F dv vs tQ (by omega) ν).mono ?_;rintro e w' (⟨v,rfl,x,s,F',ay,⟨y,hy,rfl,DY⟩,hr,he⟩|⟨e,rfl,s,F',ay,⟨he0,DY⟩,he⟩)
 .obtain⟨bW,hq,j7⟩:=sl w' F' ay s.f (H1 y) (ek y) (by rw[<-DY];exact he);exact .inl ⟨v,rfl,rl (cU (kL m n)) 3 (r y),_,F',bW,hk y hy,zh hq 3 hr,j7⟩
 .obtain⟨bW,hq,j7⟩:=sl w' F' ay s.f [] dz (by rw[<-DY];exact he);exact .inr ⟨e,rfl,_,F',bW,hp e he0,j7⟩
end
def Ef{ρ:Type}{b:Bool}{X Y:Option ρ}{r:ρ}{G:Prop}(h:(if b=true then X else Y)=V r)(yes:b=true->X=V r->G)(no:Y=V r->G):G:=by
 cases b with
 |true=>exact yes rfl (by simpa using h)
 |false=>exact no (by simpa using h)
def kV(k:Int):AV:=if k=0 then .v .nilFunc else .c (.func k.toNat) [] []
def gZ(k:Int):List AV:=[kV k]
def acg{k:Int}{n:Nat}(hb:(k==(n:Int))=true)(hn:n≠0):kV k=.c (.func n) [] []:=by
 have:k=(n:Int):=by simpa using hb
 subst this;unfold kV;rw[if_neg (by omega)];rfl
def Le.fn{k:Int}{n:Nat}(hb:(k==(n:Int))=true)(hn:n≠0):Le (kV k) (.c (.func n) [] []):=by rw[acg hb hn];exact Le.refl _
def exts(ops:Array Oper):Nat->Array Bool->List (List Nat)
 |0,_=>[[]]
 |fuel+1,listed=>match l9 .any ops listed with
  |[]=>[[]]
  |r=>r.flatMap λi=>(exts ops fuel (listed.setIfInBounds i true)).map (i::·)
def GF{α:Type}(f:α->Prop):List α->Prop
 |[]=>True
 |x::r=>f x/\GF f r
def GF.mem{α:Type}{f:α->Prop}:∀{l:List α},GF f l->∀x,x∈l->f x
 |[],_,_,h=>by cases h
 |y::r,h,x,hx=>by
  rcases bp.1 hx with rfl|hx
  .exact h.1
  .exact h.2.mem x hx
def ab9{ops:Array Oper}:∀(fuel t:Nat)(listed:Array Bool),KW .any ops fuel t listed []∈exts ops fuel listed:=by
 intro fuel;induction fuel with
 |zero=>intro t listed;simp[KW,exts]
 |succ fuel ih =>
  intro t listed;simp only[KW,exts]
  change (match(l9 .any ops listed)[t % (l9 .any ops listed).length]? with
   |some i=>KW .any ops fuel (t/(l9 .any ops listed).length) (listed.setIfInBounds i true) [i]
   |none=>[].reverse)∈_
  cases hr:l9 .any ops listed with
  |nil=>simp
  |cons a r =>
   have Ξ:t % (a::r).length<(a::r).length:=rP _ (by simp);obtain⟨i,hi⟩:∃i,(a::r)[t % (a::r).length]?=V i:=⟨_,bD Ξ⟩;simp only[hi];rw[linearise_go_acc,List.reverse_singleton,List.singleton_append];refine List.mem_flatMap.2 ⟨i,List.mem_of_getElem? hi,List.mem_map.2 ⟨_,ih _ _,rfl⟩⟩
section
variable{P:Program}{T:TT}{C:Ctx}
def ZA{n:Nat}{all:Array Oper}{K:ak->Prop}{Q:Exit->Act->World->Prop}(hT:bL P T)(hn:C.n=n)(hQ:∀st a w,Rel C st a w->K st->Q .normal a w):
  ∀(l:List Nat)(st:ak)(a:Act)(w:World),Rel C st a w->ju P T n all (l.filterMap (all[·]?)) st K->wpOpsIn (fW C.ro) 0 P all Q l a w:=by
 intro l;induction l with
 |nil=>intro st a w hr h;exact hQ _ _ _ hr h
 |cons i r ih =>
  intro st a w hr h;rw[wpOpsIn_cons];cases ho:all[i]? with
  |none =>
   unfold wpOpIn;simp only[ho];refine ih st a w hr ?_;simpa [RL,ho]using h
  |some o =>
   rw[RL,ho]at h;exact uB (K:=λst=>ju P T n all (r.filterMap (all[·]?)) st K) hT hn ho hr (λst a w hr hk=>ih st a w hr hk) h
def Ok.abk{n id:Nat}{ops:Array Oper}{st:ak}{Q:Exit->ak->Prop}(Ls:List (List Nat))(hT:bL P T)(hm:P.follows .mixedOrders=true)(hc:exts ops ops.size (oj ops.size false)=Ls)
  (h:GF (λl=>ju P T n ops (l.filterMap (ops[·]?)) st (Q .normal)) Ls):Ok P n (.region id ops true) st Q:=
 ⟨λC hn a w hr=>by
  refine wpIn_region_draw λt=>?_;simp only[Region.schedule,hm,Bool.true_or,if_true];obtain⟨F,β,hs,hd,hf,he⟩:=hr;have hb:Below w.heap.size w w.drew:=(Below.refl _ _).drew;have cr:Rel C st a w.drew:=⟨fK F w w.drew,β,hs,hd,λt=>(hf t).later hb he.inv.cH,he.trans (vq (st:=⟨aR,st.H⟩) he.inv hb)⟩
  exact ZA (Q:=λe a' w'=>∃ax,Rel C ax a' w'/\Q e ax) hT hn (λst a w hr hk=>⟨st,hr,hk⟩) _ st a w.drew cr (h.mem _ (by rw[<-hc];exact ab9 _ _ _))⟩
end
abbrev kT(c x y:List AV):Hp:=[(1000,.box c),(1001,.box x),(1002,.box y)]
structure Sd(P:Program)(E:TypeId)(gc:FuncId)(cf:List AV)(kf ka:Nat)(ans:Int->List AV):Prop where
 tH:qb P gc
 ret:∀(w:World)(vs:Array Value),vs.size=3->CallsDIn gu 0 P gc vs .returning w λe u w'=>(∃v,e=.returned v)/\u=.returning/\Below w.heap.size w w'
 Ez:∀(m:Int)(w:World)(F:Nat->Prop)(β:Nat->Value)(x y:List AV),Inv w F β (kT cf x y)->x.length=kf->y.length=ka ->
  CallsDIn gu 0 P gc #[β 1000,β 1001,β 1002] (.panicking (jX E m)) w λe u w'=>(∃v,e=.returned v)/\u=.panicking [{ v:=.iface E (.int .i64 m),recovered:=true }] /\
   ∃F' ay,Ext w F β ⟨aR,kT cf x y⟩ w' F' ay ⟨aR,kT cf cf (ans m)⟩
def acj(T:TT)(E:TypeId)(rs:List ResultVar)(R0:AV->ak->Prop)(RX:Int->ak->Prop):Exit->ak->Prop
 |.normal,st=>qy T rs st λx=>R0 x st
 |.ret,st=>qy T rs st λx=>R0 x st
 |.panic l,st=>∃m,l=jX E m/\RX m st
 |_,_=>False
def SY(q:List (Nat×Nat))(tc:Nat)(L:List (Nat×AV))(H:Hp):ak:=⟨ej (λt=>rl (cU q) 2 (Ψ L t)) tc .Δ,iA (cU q) H⟩
section
variable{P:Program}{T:TT}{E:TypeId}
def Od{C:Ctx}{fn:Func}{tmps:Array Value}{RR:Ending->World->Prop}{F:Nat->Prop}{β:Nat->Value}{H:Hp}{u:FrameMode}(hu:u≠.run):∀(l:List Deferred)(w:World),XM C (l++C.dl) w F β H ->
  (∀w',XM C C.dl w' F β H->(∀x u,Rd w F β x u->Rd w' F β x u)->LeavesInM gu 0 P fn tmps RR C.dl u w')->LeavesInM gu 0 P fn tmps RR (l++C.dl) u w
 |[],w,h,hk=>hk w h λ_ _ hr=>hr
 |d::l,w,h,hk=>by
  have hm:=h.m;have hn:=h.nd;rw[Ctx.Ep]at hm hn;obtain⟨D,h1,h2,h3,h4,h5⟩:=hm d (by simp);have Ξ:=kS h3;have oP:∀b,b≠D->(w.putObj D (.deferred none)).heap[b]?=w.heap[b]?:=λb hb=>qa hb;have ha:gn F w (w.putObj D (.deferred none)):=λb hb=>oP b λe=>h4 (e▸hb);have hI:=h.inv;refine⟨hu,.inl ⟨D,_,by rw[h1],run_takeDeferred h3,?_⟩⟩;have nK:Inv (w.putObj D (.deferred none)) F β H:=⟨λb hb=>by rw[kz];exact hI.cH b hb,λi c hm=>pM ha (λ_ h=>h) (λb hb=>oP b λe=>h5 (e▸⟨i,c,hm,hb⟩)) (hI.holds i c hm),hI.keys,hI.apart,hI.eD,hI.fC.at ha⟩;have hx:=h.x;refine Od hu l _ ⟨⟨hx.os,hx.tape,hx.output,by rw[kz];exact hx.size,λb hb hn=>(oP b (by omega)).trans (hx.block b hb hn),hx.mono,hx.new,hx.owned,λ_ _ _=>.Δ,nK,hx.gC⟩,λd' bF=>?_,?_,⟨l,rfl⟩⟩ λw' oR cr=>hk w' oR λx u hr=>cr x u (hr.frame ha λ_ h=>h)
  .rw[Ctx.Ep]at bF;obtain⟨D',g1,g2,g3,g4,g5⟩:=hm d' (by simp[bF]);exact⟨D',g1,g2,(oP D' λe=>(iO.1 hn).1 (by rw[h1,<-e,<-g1];exact bF)).trans g3,g4,g5⟩
  .rw[Ctx.Ep];exact(iO.1 hn).2
def agf{q:List (Nat×Nat)}{w:World}{F:Nat->Prop}{β:Nat->Value}{H:Hp}(hI:Inv w F β H)(gq:sK (q.map (·.2))=true)(mj:sK (q.map (·.1))=true)(hk:jV (iA (cU q) H)=true):
  ∃bW:Nat->Value,(∀i j,cU q i=V j->bW j=β i)/\Inv w F bW (iA (cU q) H)/\∀b,bH bW (iA (cU q) H) b->bH β H b:=by
 have lT:=Bj gq;have lU:=Bj mj;have MY:∀i i' j,cU q i=V j->cU q i'=V j->i=i':=λi i' j h1 h2=>Ql lT (at_mem h1) (at_mem h2)
 obtain⟨bW,an⟩:∃bW:Nat->Value,∀i j,cU q i=V j->bW j=β i:=by
  refine⟨λj=>match cU (q.map λp=>(p.2,p.1)) j with|some i=>β i|none=>undef,λi j eX=>?_⟩;have:cU (q.map λp=>(p.2,p.1)) j=V i:=GR (by rw[List.map_map];exact lT) (List.mem_map.2 ⟨_,at_mem eX,rfl⟩);simp only[this]
 have dB:∀b,bH bW (iA (cU q) H) b->bH β H b:=by
  rintro b ⟨j,c,hc,hb⟩;obtain⟨x,c0,h1,h2,_⟩:=nk hc;exact⟨x,c0,h1,by rw[<-an x j h2];exact hb⟩
 refine⟨bW,an,⟨hI.cH,λj c hc=>?_,yG hk,λb hb=>hI.apart b (dB b hb),λj c j' c' b hc fZ hb aN=>?_,hI.fC⟩,dB⟩
 .obtain⟨x,c0,h1,h2,rfl⟩:=nk hc;exact rlC_holds an h2 (hI.holds x c0 h1)
 .obtain⟨x,c0,h1,h2,_⟩:=nk hc;obtain⟨x',Lx,nJ,iT,_⟩:=nk fZ;rw[an x j h2]at hb;rw[an x' j' iT]at aN;have:=hI.eD x _ x' _ b h1 nJ hb aN;subst this;rw[h2]at iT;exact Option.some.inj iT
def abi{g n rid gc tc s1 s2 s3 a1 a2 a3 tf ta kf ka:Nat}{jf ja:TI}{fn:Func}{A rest:Code}{mk df:Oper}{args:List AV}{L:List (Nat×AV)}{H:Hp}{q:List (Nat×Nat)}{cf:List AV}{ans:Int->List AV}{r:AV}
    (hT:bL P T) (dR:P.funcs[g]?=V fn) (dM:(fn.name == "runtime.NumGoroutine")=false) (hb:fn.body=V (.seq A (.seq (.region rid #[mk,df] false) rest))) (hn:fn.ntmps=n) (hle:args.length <= n)
    (qm:mk.op=.makeFunc (.func gc) #[] #[.tmp s1,.tmp s2,.tmp s3]/\mk.dst=V tc/\mk.guard=none) (MK:df.op=.defer { callee:=.value (.tmp tc),args:=#[],argTypes:=#[] }/\df.dst=none/\df.guard=none) (htc:tc<n)
    (ME:Sd P E gc cf kf ka ans)
    (gq:sK (q.map (·.2))=true) (mj:sK (q.map (·.1))=true) (hk:jV (iA (cU q) H)=true)
    (DX:Ψ L s1=.b a1 0) (Nw:Ψ L s2=.b a2 0) (hs3:Ψ L s3=.b a3 0) (h1:cU q a1=V 1000) (h2:cU q a2=V 1001) (h3:cU q a3=V 1002)
    (vO:fn.results.toList=[.cell s2 tf,.cell s3 ta]) (MZ:T tf=V jf) (hja:T ta=V ja) (haf:qd jf.kind=true) (haa:qd ja.kind=true) (hkf:cf.length=jf.cells) (hka:∀ m,(ans m).length=ja.cells)
    (AG:cf.all fx=true) (hai:∀ m,(ans m).all fx=true)
    (hA:Ok P n A ⟨lq args,[]⟩ λe st=>e=.normal/\Wk st ⟨Ψ L,H⟩)
    (nS:Ok P n rest (SY q tc L H) (acj T E fn.results.toList (λx st=>Fz st.H x r) λm st=>st.f s2=.b 1001 0/\st.f s3=.b 1002 0/\dP 1000 st.H=V (.box cf) /\
      (∃ x,dP 1001 st.H=V (.box x)/\x.length=kf)/\(∃ y,dP 1002 st.H=V (.box y)/\y.length=ka)/\r=.t [.a cf,.a (ans m)])):Pure P g args r:=by
  refine⟨⟨fn,_,dR,dM,hb⟩,λw F β vs hI hs hv => ?_⟩;refine callsIn_wide.1 (callsIn_of_wp_marks (F:=gu) (n:=0) dR hb trivial ?_);let C:Ctx:=⟨w,F,β,[],n,none,.inl rfl,[]⟩;have hr:Rel C ⟨lq args,[]⟩ { tmps:=vs++oj (fn.ntmps-vs.size) undef,defers:=[] } w:=
    ⟨F,β,by simp[C,hn];omega,trivial,NW hs hv,⟨Ext.refl hI,λd hd=>(fu hd).elim,qK,⟨[],rfl⟩⟩⟩
  refine wpIn_seq (wpIn_mono (hA.h C rfl _ w hr) ?_);rintro e ic w1 ⟨st1,adu,rfl,hW⟩;obtain⟨F1,dv,yz,_,sr,cW⟩:=hW C ic w1 adu;have bu:∀ b,¬ bH β ([]:Hp) b:=λb ⟨_,_,hm,_⟩=>(fu hm).elim;obtain⟨bW,yB,Mr,uh⟩:=agf cW.inv gq mj hk;have p1:=sr s1;have p2:=sr s2;have p3:=sr s3;change Rd _ _ _ (Ψ L s1) _ at p1;change Rd _ _ _ (Ψ L s2) _ at p2;change Rd _ _ _ (Ψ L s3) _ at p3;rw[DX]at p1;rw[Nw]at p2;rw[hs3]at p3;obtain⟨b1,cR,e1⟩:=p1.mP;obtain⟨b2,me,e2⟩:=p2.mP;obtain⟨b3,Mz,e3⟩:=p3.mP
  have g1:ic.tmps.getD s1 undef=bW 1000:=by rw[yB _ _ h1,cR];exact e1
  have g2:ic.tmps.getD s2 undef=bW 1001:=by rw[yB _ _ h2,me];exact e2
  have g3:ic.tmps.getD s3 undef=bW 1002:=by rw[yB _ _ h3,Mz];exact e3
  obtain⟨d0,vE⟩:∃ d0:Deferred,d0={ target:=.fn (.func gc) #[bW 1000,bW 1001,bW 1002],args:=#[] }:=⟨_,rfl⟩;let CM:Act:={ (ic.put (V tc) (.func (.func gc) #[] #[bW 1000,bW 1001,bW 1002]))with defers:=d0::ic.defers };have yz:ic.tmps.size=n:=yz;let C':Ctx:=⟨w1,F1,bW,iA (cU q) H,n,none,.inl rfl,d0::ic.defers⟩
  have Nt:Rel C' (SY q tc L H) CM w1:=by
    refine⟨F1,bW,by show(ic.put _ _).tmps.size=n;simpa [jg]using yz,trivial,?_,⟨Ext.refl Mr,λd hd => ?_,?_,⟨[],rfl⟩⟩⟩
    · exact Rd.put (λt=>zh yB 2 (sr t)) .Δ (by omega)
    · have:C'.ms (d0::ic.defers)=[]:=Ctx.Ep (C:=C') (l:=[])
      rw[show C'.ms CM.defers=[]from this]at hd;exact(fu hd).elim
    · have:C'.ms (d0::ic.defers)=[]:=Ctx.Ep (C:=C') (l:=[])
      rw[show C'.ms CM.defers=[]from this];exact qK
  have ends:∀(w5:World)(F5:Nat->Prop)(lY:Nat->Value)(H5:Hp),Ext w1 F1 bW ⟨aR,iA (cU q) H⟩ w5 F5 lY ⟨aR,H5⟩->∀ tmps:Array Value,
      (∀ w6,Inv w6 F5 lY H5->(∀ x u,Rd w5 F5 lY x u->Rd w6 F5 lY x u)->∃ v,(results fn tmps).run P w6=.ok v w6/\bq w6 (λb=>F5 b\/bH lY H5 b) r v) ->
      LeavesInM gu 0 P fn tmps (λe w'=>∃ v,e=.returned v/\Below w.heap.size w w'/\bq w' (fK F w w') r v) ic.defers .returning w5:=by
    intro w5 F5 lY H5 hx tmps vG;let C5:Ctx:=⟨w,F,lY,[],n,none,.inl rfl,[]⟩
    have UZ:∀ b,bH lY H5 b->w.heap.size<=b:=λb hb=>by
      rcases hx.owned b hb with h|h
      · exact dZ cW.x.size h
      · rcases cW.x.owned b (uh b h)with h|h
        · exact h
        · exact(bu b h).elim
    have bT:Ext w F lY ⟨aR,[]⟩ w5 F5 lY ⟨aR,H5⟩:=by
      refine⟨hx.os.trans cW.x.os,cW.x.tape.trans hx.tape,hx.output.trans cW.x.output,dZ cW.x.size hx.size,λb hb _ => ?_,λb hb=>hx.mono b (cW.x.mono b hb),λb hb => ?_,λb hb=>.inl (UZ b hb),λ_ _ _=>.Δ,hx.inv,λ_ _=>rfl⟩
      · rw[hx.block b (ou hb cW.x.size) (λho => ?_)]
        · exact cW.x.block b hb (bu b)
        · rcases cW.x.owned b (uh b ho)with h|h
          · have h:w.heap.size<=b:=h;omega
          · exact bu b h
      · rcases hx.new b hb with h|h|h
        · rcases cW.x.new b h with h|h|h
          · exact .inl h
          · exact .inr (.inl h)
          · exact(bu b h).elim
        · exact .inr (.inl (dZ cW.x.size h))
        · rcases cW.x.owned b (uh b h)with h|h
          · exact .inr (.inl h)
          · exact(bu b h).elim
    have hXM:XM C5 ic.defers w5 F5 lY H5:=by
      refine⟨bT,λd hd => ?_,?_,⟨ic.defers,(List.append_nil _).symm⟩⟩
      · have hd:d∈C.ms ic.defers:=hd
        obtain⟨D,q1,q2,q3,q4,q5⟩:=cW.m d hd;have Ξ:=kS q3;refine⟨D,q1,q2,(hx.block D Ξ λho=>q5 (uh D ho)).trans q3,λhF => ?_,λho => ?_⟩
        · rcases hx.new D hF with h|h|h
          · exact q4 h
          · exact absurd Ξ (Nat.not_lt.2 h)
          · exact q5 (uh D h)
        · rcases hx.owned D ho with h|h
          · exact absurd Ξ (Nat.not_lt.2 h)
          · exact q5 (uh D h)
      · exact cW.nd
    refine Is rfl ic.defers w5 hXM λw6 h6 H7 => ?_;obtain⟨v,bf,fE⟩:=vG w6 h6.inv H7;refine⟨v,bf,v,rfl,⟨h6.x.os,h6.x.tape,h6.x.output,h6.x.size,λb hb=>h6.x.block b hb (by rintro⟨_,_,hm,_⟩;exact(fu hm).elim)⟩,fE.frame (λ_ _=>rfl) λb hb => ?_⟩
    rcases hb with hb|hb
    · rcases h6.x.new b hb with h|h|h
      · exact .inl h
      · exact .inr ⟨h,h6.inv.cH b hb⟩
      · obtain⟨_,_,hm,_⟩:=h;exact(fu hm).elim
    · exact .inr ⟨UZ b hb,h6.inv.gg hb⟩
  have S4:∀(u:FrameMode)(w4:World)(tmps:Array Value),u≠.run->(CallsDIn gu 0 P gc #[bW 1000,bW 1001,bW 1002] u w4 λe u' w5=>(∃ v,e=.returned v)/\settle u'=.returning /\
        LeavesInM gu 0 P fn tmps (λe w'=>∃ v,e=.returned v/\Below w.heap.size w w'/\bq w' (fK F w w') r v) ic.defers .returning w5) ->
      LeavesInM gu 0 P fn tmps (λe w'=>∃ v,e=.returned v/\Below w.heap.size w w'/\bq w' (fK F w w') r v) (d0::ic.defers) u w4:=by
    intro u w4 tmps hu hc;obtain⟨fnc,cc,hfc,qn,hbc⟩:=ME.tH
    have adk:¬ fnc.name = "runtime.NumGoroutine":=by simpa using qn
    refine⟨hu,.inr ⟨λh=>(by cases h),.func gc,#[bW 1000,bW 1001,bW 1002],gc,#[bW 1000,bW 1001,bW 1002],by rw[vE],by rw[vE];simp[invoke,callFunc,hfc,adk,hbc],λ_ _=>trivial,hc.mono ?_⟩⟩;rintro e u' w5 ⟨⟨v,rfl⟩,A5,hl⟩;show LeavesInM gu 0 P fn tmps _ ic.defers (settle u') w5;rw[A5];exact hl
  have adi:wpOpsIn gu 0 P #[mk,df] (λe a' w'=>match e with
      |.normal=>rest.wpIn gu 0 P (bodyPostM gu 0 P fn λe w'=>∃ v,e=.returned v/\Below w.heap.size w w'/\bq w' (fK F w w') r v) a' w'
      |e=>bodyPostM gu 0 P fn (λe w'=>∃ v,e=.returned v/\Below w.heap.size w w'/\bq w' (fK F w w') r v) e a' w') [0,1] ic w1:=by
    have k0:(#[mk,df]:Array Oper)[0]?=V mk:=rfl;have k1:(#[mk,df]:Array Oper)[1]?=V df:=rfl;obtain⟨dm,om,tm,pm,fm,gm⟩:=mk;obtain⟨dd,od,td,pd,fd,gd'⟩:=df;obtain⟨rfl,rfl,rfl⟩:=qm;obtain⟨rfl,rfl,rfl⟩:=MK;have ev1:ic.eval (.tmp s1)=bW 1000:=g1;have ev2:ic.eval (.tmp s2)=bW 1001:=g2;have ev3:ic.eval (.tmp s3)=bW 1002:=g3;rw[wpOpsIn_cons];unfold wpOpIn;simp only[k0];rw[if_pos (by simp[d_])];refine⟨λ_ _=>trivial,?_⟩;rw[Oper.semAt_eq _ _ _ (by simp)]
    have r0:(execOp ic.eval { dst:=V tc,op:=.makeFunc (.func gc) #[] #[.tmp s1,.tmp s2,.tmp s3],type:=tm,pos:=pm,after:=fm,guard:=none }).run P w1=.ok (.value (.func (.func gc) #[] #[bW 1000,bW 1001,bW 1002])) w1:=by
      rw[<- ev1,<- ev2,<- ev3];simp[execOp,Instr.makeFunc]
    rw[r0,xd,wpOpsIn_cons];unfold wpOpIn;simp only[k1];rw[if_pos (by simp[d_])];refine⟨λ_ _=>trivial,?_⟩
    have evc:(ic.put (V tc) (.func (.func gc) #[] #[bW 1000,bW 1001,bW 1002])).eval (.tmp tc)=.func (.func gc) #[] #[bW 1000,bW 1001,bW 1002]:=by
      have:tc<ic.tmps.size:=by omega
      simp[zL,jg,this]
    have r1:(Oper.semAt none (ic.put (V tc) (.func (.func gc) #[] #[bW 1000,bW 1001,bW 1002])).eval { dst:=none,op:=.defer { callee:=.value (.tmp tc),args:=#[],argTypes:=#[] },type:=td,pos:=pd,after:=fd,guard:=none }).run P w1=.ok (.defer d0) w1:=by
      rw[Oper.semAt_none,vE];simp[execOp,resolve,evc,mw]
    show Oper.uponIn _ _ _ _ _ _ _ ((Oper.semAt none _ _).run P w1);rw[r1,Oper.uponIn_defer]
    exact show rest.wpIn gu 0 P _ CM w1 from by
      refine wpIn_mono (nS.h C' rfl CM w1 Nt) ?_;rintro e a3 w3 ⟨uy,⟨F3,qD,hz3,_,Us,qZ⟩,vN⟩;obtain⟨l3,sz⟩:=qZ.sp;have sz:a3.defers=l3++C'.dl:=sz
      have Wn:qy T fn.results.toList uy (λx=>Fz uy.H x r)->LeavesInM gu 0 P fn a3.tmps (λe w'=>∃ v,e=.returned v/\Below w.heap.size w w'/\bq w' (fK F w w') r v) a3.defers .returning w3:=by
        intro vN;rw[sz];refine Od (by simp) l3 w3 (by rw[<- sz];exact qZ) λw4 oL U5 => ?_;refine S4 .returning w4 a3.tmps (by simp) ((ME.ret w4 _ rfl).mono ?_);rintro e u' w5 ⟨j_,rfl,qX⟩;refine⟨j_,rfl,?_⟩;have DT:Ext w4 F3 qD ⟨aR,uy.H⟩ w5 (fK F3 w4 w5) qD ⟨aR,uy.H⟩:=vq (st:=⟨aR,uy.H⟩) oL.inv qX;refine ends w5 (fK F3 w4 w5) qD uy.H (oL.x.trans DT) a3.tmps λw6 h6 H7 => ?_;obtain⟨v,x,bf,bG,fN⟩:=JP (P:=P) (st:=uy) (fn:=fn) (tmps:=a3.tmps) hT h6 (λt=>H7 _ _ ((U5 _ _ (Us t)).later qX oL.inv.cH)) vN;exact⟨v,bf,bG w6 _ qD v h6 fN⟩
      cases e with
      |normal=>exact Wn vN
      |ret=>exact Wn vN
      |exit id=>exact vN.elim
      |goto l=>exact vN.elim
      |outgrown=>exact vN.elim
      |panic ch =>
        obtain⟨m,rfl,q2,q3,c1,⟨x,c2,Vq⟩,⟨y,c3,D9⟩,hre⟩:=vN;show LeavesInM gu 0 P fn a3.tmps _ a3.defers (.panicking (jX E m)) w3;rw[sz];refine Od (by simp) l3 w3 (by rw[<- sz];exact qZ) λw4 oL U5 => ?_
        have Ul:Ext w1 F1 bW ⟨aR,iA (cU q) H⟩ w4 F3 qD ⟨aR,kT cf x y⟩:=oL.x.chunks (λi c hm=>by
          have:(i,c)∈uy.H:=by
            simp only[bp,iF,fu,or_false]at hm
            rcases hm with⟨rfl,rfl⟩|⟨rfl,rfl⟩|⟨rfl,rfl⟩
            · exact fk c1
            · exact fk c2
            · exact fk c3
          exact⟨⟨c,this⟩,oL.inv.holds i c this⟩) (by simp)
        have el:∀ i,1000<=i->qD i=bW i:=λi hi=>oL.x.gC i hi;have hc:=ME.Ez m w4 F3 qD x y Ul.inv Vq D9;rw[el 1000 (by omega),el 1001 (by omega),el 1002 (by omega)]at hc;refine S4 (.panicking (jX E m)) w4 a3.tmps (by simp) (hc.mono ?_);rintro e u' w5 ⟨j_,rfl,F5,lY,bT⟩;refine⟨j_,rfl,?_⟩;refine ends w5 F5 lY _ (Ul.trans bT) a3.tmps λw6 h6 H7 => ?_;have ac8:∀ i,1000<=i->lY i=qD i:=λi hi=>bT.gC i hi
        have Xa:∀(s i:Nat),1000<=i->uy.f s=.b i 0->Rd w6 F5 lY (.b i 0) (a3.tmps.getD s undef):=λs i hi A6=>by
          have:=Us s;rw[A6]at this;obtain⟨fV,hb,he⟩:=this.mP;rw[he];exact .b ((ac8 i hi).trans hb)
        have ady:∀ t,Rd w6 F5 lY ((λt=>if t=s2 then AV.b 1001 0 else if t=s3 then .b 1002 0 else .Δ) t) (a3.tmps.getD t undef):=λt=>by
          show Rd w6 F5 lY (if t=s2 then AV.b 1001 0 else if t=s3 then .b 1002 0 else .Δ) _;by_cases ht:t=s2
          · rw[if_pos ht,ht];exact Xa s2 1001 (by omega) q2
          · rw[if_neg ht]
            by_cases NB:t=s3
            · rw[if_pos NB,NB];exact Xa s3 1002 (by omega) q3
            · rw[if_neg NB];exact .Δ
        have aI:s3≠s2:=λe=>by
          rw[e]at q3;rw[q2]at q3;cases q3
        have DV:qy T fn.results.toList ⟨λt=>if t=s2 then AV.b 1001 0 else if t=s3 then .b 1002 0 else .Δ,kT cf cf (ans m)⟩ (λx=>x=.t [.a cf,.a (ans m)]):=by
          rw[vO];simp only[qy,BO,if_pos,aI,if_false,BP,MZ,hja];have f1:dP 1001 (kT cf cf (ans m))=V (.box cf):=rfl;have f2:dP 1002 (kT cf cf (ans m))=V (.box (ans m)):=rfl;simp only[f1,f2,Be,haf,haa,Nat.zero_add,<- hkf,<- hka m,Nat.ble_eq,bm,List.drop_zero,List.take_length]
          have b1:p9 cf.length cf.length=true:=by simp
          have b2:p9 (ans m).length (ans m).length=true:=by simp
          simp only[b1,b2,cond_true];exact⟨_,rfl,_,rfl,rfl⟩
        obtain⟨v,x',bf,rfl,fN⟩:=JP (P:=P) (st:=⟨λt=>if t=s2 then AV.b 1001 0 else if t=s3 then .b 1002 0 else .Δ,kT cf cf (ans m)⟩) (fn:=fn) (tmps:=a3.tmps) hT h6 ady DV;refine⟨v,bf,?_⟩;rw[hre];exact(Fz.t (.cons (Fz.cP (by simpa [kH]using AG)) (.cons (Fz.cP (by simpa [kH]using hai m)) .nil))) w6 F5 lY v h6 fN
  exact wpIn_seq (wpIn_region adi)
end
end
section
variable[M:cD][G:ed][R:eF]
def B5{l:List UInt8}{a b:Int}(h:0<=a/\a<=b/\b<=(l.length:Int)):(j1 l.toArray).extract a.toNat b.toNat=j1 (sub l a b).toArray:=by
 apply ByteArray.ext;simp[sub,List.drop_take]
def Le.of_eq{x y:AV}(h:x=y):Le x y:=by rw[h];exact Le.refl _
def acf(k:Int){p:Prop}(h0:kV k=.v .nilFunc->p)(h1:∀n,kV k=.c (.func n) [] []->p):p:=by
 by_cases h:k=0
 .exact h0 (if_pos h)
 .exact h1 _ (if_neg h)
def An(n d:Nat)(k:Int):er (n+1) d (kV k)=kV k:=by
 by_cases h:k=0
 .rw[kV,if_pos h];rfl
 .rw[kV,if_neg h];rfl
def Le.fnE{d:Nat}{k:Int}:Le (er 2 d (kV k)) (kV k):=Le.of_eq (An 1 d k)
def Le.ach{d d':Nat}{k:Int}:Le (er 2 d (er 2 d' (kV k))) (kV k):=Le.of_eq (by rw[An 1,An 1])
def Le.aci{d d' d'':Nat}{k:Int}:Le (er 2 d (er 2 d' (er 2 d'' (kV k)))) (kV k):=Le.of_eq (by rw[An 1,An 1,An 1])
end
section
open Go.RowKit
variable[M:cD][G:ed][R:eF]
local instance akV:rR:=⟨[]⟩
local instance akS:nE:=⟨[]⟩
def tu(P:Program)(T:TT)(E:TypeId)(n:Nat)(ops:Array Oper):List (Nat×List Nat)->ak->(ak->Prop)->(Int->ak->Prop)->Prop
 |[],st,K,_=>K st
 |c::r,st,K,KX=>match ops[c.1]? with
  |some o=>gd n ops o st (λst=>Kg P T E o st (λx ax=>put n o.dst ax x λhZ=>sI P T ops hZ c.2/\tu P T E n ops r hZ K KX) λm ax=>KX m ⟨aR,ax.H⟩) λst=>put n o.dst st (.v undef) λhZ=>sI P T ops hZ c.2/\tu P T E n ops r hZ K KX
  |none=>False
section
variable{P:Program}{T:TT}{E:TypeId}
def ahl{w:World}{F:Nat->Prop}{β:Nat->Value}{o:Oper}{a:Act}{st:ak}{k:AV->ak->Prop}{kx:Int->ak->Prop}(hT:bL P T)(hI:Inv w F β st.H)(bI:∀x,x∈o.op.operands->Rd w F β (ev st.f x) (a.eval x))(h:wK P T E o st k kx):Se P E (execOp a.eval o) w F β st k kx:=by
 obtain⟨dst,op,type,pos,after,guard⟩:=o
 cases op<;>simp only[wK]at h<;>first|exact h.elim|skip
 all_goals simp only[Op.operands]at bI
 case call c =>
  obtain⟨callee,args,argTypes⟩:=c
  cases callee<;>simp only at h<;>first|exact h.elim|skip
  rename_i f;unfold LQ at h;split at h
  .rename_i g fs cs lQ;have ss:=bI f (by simp[Call.operands]);rw[lQ]at ss;obtain⟨us,ws,MU,hs,dG,hu,hw⟩:=ss.nG;obtain⟨⟨fn,code,dR,dM,hb⟩,h⟩:=h
   have ri:¬ fn.name = "runtime.NumGoroutine":=by simpa using dM
   refine .inr (.inr ⟨g,us++args.map a.eval++ws,?_,?_⟩)
   .have e:execOp a.eval { dst,op:=.call { callee:=.value f,args,argTypes },type,pos,after,guard }=(do let d <-mw (a.eval f) (args.map a.eval);invoke d.target d.args):=rfl;rw[e,MU];simp[mw,invoke,callFunc,dR,ri,hb]
   .have hl:(args.map a.eval).size=(args.toList.map (ev st.f)).length:=by simp
    exact h w F β _ hI (by simp[hs,dG]) (GQ hs hl dG hu (λi hi=>by
     have hi:i<args.size:=by simpa using hi
     have:=bI args[i] (by simp[Call.operands])
     simpa [bc,hi]using this) hw)
  .exact h.elim
 case makeInterface t x =>
  split at h
  .rename_i n i hx hi;split at h
   .rename_i hk;have nW:=bI x (by simp);rw[hx]at nW;refine .inl ⟨.iface t (.int .i64 n),w,?_,?_⟩
    .simp only[execOp];rw[nW.bK];have:=(hT _ _ hi).int hk;simp[ZV,run_underlying this]
    .exact⟨_,st,F,β,h,.i (.v (.inl rfl)),Ext.refl hI⟩
   .exact h.elim
  .exact h.elim
 case panic x =>
  split at h
  .rename_i t n hx;obtain⟨rfl,h⟩:=h;have nW:=bI x (by simp);rw[hx]at nW;refine .inr (.inl ⟨n,?_,h⟩);simp only[execOp];rw[nW.bK];simp[run_panic_iface]
  .exact h.elim
def Ok.xC{id n:Nat}{chain:List (Nat×List Nat)}{ops:Array Oper}{st:ak}{Q:Exit->ak->Prop}(hT:bL P T)(hm:P.follows .mixedOrders=true)(qj:SD chain ops=true)
  (h:rI P T n ops (Hj chain ops) st λst1=>tu P T E n ops chain st1 (Q .normal) (λm ax=>Q (.panic (jX E m)) ax)):Ok P n (.region id ops true) st Q:=by
 refine⟨λC hn a w db=>?_⟩;simp only[SD,bR,eo,mz]at qj;obtain⟨Nl,acJ,gz⟩:=qj
 have get:∀i o,ops[i]?=V o->xD i o=true/\tz ops i o=true/\G2 ops i o=true/\LA ops i o=true:=λi o ho=>by
  have h1:=Nl i (lB.1 ho).1;rw[ho]at h1;simp only[bR]at h1;exact⟨h1.1,h1.2.1,h1.2.2.1,h1.2.2.2⟩
 have lt:∀{i o},ops[i]?=V o->i<ops.size:=λh=>(lB.1 h).1
 have dec:∀i o,ops[i]?=V o->∀e,e∈o.after->j4 .any e=true->e.on<i:=λi o ho e he hb=>by
  have:=(Array.all_eq_true'.1 (get i o ho).1) e he;simpa [hb]using this
 have Yw:∀i o j,ops[i]?=V o->j<ops.size->jj ops i j=true->∃e,e∈o.after/\j4 .any e=true/\(e.on=j\/jj ops e.on j=true):=λi o j ho hj hd=>by
  have h1:=(get i o ho).2.1;simp only[tz,eo,mz]at h1;have h1:=h1 j hj;simp only[hd,Bool.not_true,Bool.false_or]at h1;obtain⟨e,he,hb⟩:=Array.any_eq_true'.1 h1;simp only[bR,s6,beq_iff_eq]at hb;exact⟨e,he,hb.1,hb.2⟩
 have low:∀(i:Nat)(o:Oper)(d:Nat),ops[i]?=V o->o.dst=V d->d<1000:=λi o d ho hd=>by
  have h1:=(get i o ho).2.2.1;unfold G2 at h1;rw[hd]at h1;simp only[bR]at h1;simpa using h1.1
 have hp:(∀(i:Nat)(o:Oper)(j:Nat)(o':Oper)(d:Nat),i<ops.size->j<ops.size->ops[i]?=V o->ops[j]?=V o'->o.dst=V d->o'.dst=V d->i=j) /\
   ∀(i:Nat)(o:Oper)(t j:Nat)(o':Oper),i<ops.size->j<ops.size->ops[i]?=V o->t∈o.looksAt ops->ops[j]?=V o'->o'.dst=V t->jj ops i j=true:=by
  refine⟨λi o j o' d hi hj ho aF hd bF=>?_,λi o t j o' hi hj ho ht aF bF=>?_⟩
  .have h1:=(get i o ho).2.2.1;unfold G2 at h1;rw[hd]at h1;simp only[bR,eo,mz]at h1;have:=h1.2 j hj;rw[aF]at this;simpa [bF]using this
  .have h1:=(get i o ho).2.2.2;simp only[LA,eo,mz]at h1;have:=h1 t ht j hj;rw[aF]at this;simpa [bF]using this
 have hr:=Pu db;refine wpIn_region_any hm ?_;show wpAnyIn (fW C.ro) 0 P .any ops _ ops.size (oj ops.size false) a w.drew;generalize w.drew=w at hr;clear db;obtain⟨F,β,hs,hd,hf,he⟩:=hr;have AK:∀i o,i∈tL chain ops->ops[i]?=V o->o∈Hj chain ops:=λi o hi ho=>my.2 ⟨i,hi,ho⟩
 have UN:∀i j,i<ops.size->j<ops.size->jj ops i j=true->j<i:=by
  intro i;induction i using s9 with
  |_ i ih =>
   intro j hi hj xY;obtain⟨e,cW,hb,h2⟩:=Yw i _ j (gK hi) hj xY;have Ξ:=dec i _ (gK hi) e cW hb
   rcases h2 with h2|h2
   .omega
   .have:=ih e.on Ξ j (by omega) hj h2;omega
 have yk:xj ops (Hj chain ops):=by
  have key:∀l:List Nat,l.Pairwise (· < ·)->(∀i,i∈l->i∈tL chain ops)->xj ops (l.filterMap λi=>ops[i]?):=by
   intro l;induction l with
   |nil=>intro _ _;exact True.intro
   |cons i l ih =>
    intro hpw ui;have hi:=ui i (by simp);have HO:=(IA.1 hi).1;have DI:ops[i]?=V ops[i]:=gK HO;rw[RL,DI];have U2:=List.pairwise_cons.1 hpw
    have fw:∃d,ops[i].dst=V d:=by
     have:=gz i hi;rw[DI]at this;exact Option.isSome_iff_exists.1 this
    obtain⟨d,jO⟩:=fw
    have mem:∀o',o'∈l.filterMap (λi=>ops[i]?)->∃j,i<j/\ops[j]?=V o':=λo' aF=>by
     obtain⟨j,hj,sy⟩:=my.1 aF;exact⟨j,U2.1 j hj,sy⟩
    refine⟨⟨d,jO,λo' aF bF=>?_⟩,λt ht o' aF bF=>?_,ih U2.2 λj hj=>ui j (cw _ hj)⟩
    .obtain⟨j,eX,sy⟩:=mem o' aF;have:=hp.1 i _ j o' d HO (lt sy) DI sy jO bF;omega
    .have:∃j,i<=j/\ops[j]?=V o':=by
      rcases bp.1 aF with rfl|h
      .exact⟨i,bm _,DI⟩
      .obtain⟨j,eX,sy⟩:=mem o' h;exact⟨j,by omega,sy⟩
     obtain⟨j,eX,sy⟩:=this;have iu:=hp.2 i _ t j o' HO (lt sy) DI ht sy bF;have:=UN i j HO (lt sy) iu;omega
  exact key _ (List.Pairwise.filter _ List.pairwise_lt_range) λi hi=>hi
 obtain⟨fe,lQ,hW,adf,bU⟩:=Rh (Hj chain ops) _ yk h;have key:∀fuel(listed:Array Bool)(a:Act)(w:World)(done rem:List (Nat×List Nat))(f:Nat->AV)(H:Hp),listed.size=ops.size->listed.toList.count false<=fuel ->
   (∀i o,listed.getD i false=true->ops[i]?=V o->∀e,e∈o.after->j4 .any e=true->listed.getD e.on false=true) ->
   done++rem=chain->(∀c,c∈done->listed.getD c.1 false=true)->(∀c,c∈rem->listed.getD c.1 false=false)->qe chain ops rem=true ->
   GH C ops ops.size f H listed a w->(H.map (·.1)).Nodup->(∀i o,i∈tL chain ops->ops[i]?=V o->listed.getD i false=false->uS P T ops H f o) ->
   tu P T E n ops rem ⟨f,H⟩ (Q .normal) (λm ax=>Q (.panic (jX E m)) ax) ->
   wpAnyIn (fW C.ro) 0 P .any ops (λe a' w'=>∃ax,Rel C ax a' w'/\Q e ax) fuel listed a w:=by
  intro fuel;induction fuel with
  |zero =>
   intro listed a w done rem f H bd vD cY qk HJ A3 sh jP HP Ng hw
   have dQ:∀i,i<ops.size->listed.getD i false=true:=λi hi=>by
    have h0:listed.toList.count false=0:=by omega
    have br:i<listed.size:=by omega
    have bn:listed[i]∈listed.toList:=by simp
    cases hb:listed[i]with
    |true=>simp[br,hb]
    |false=>rw[hb]at bn;exact absurd bn (List.count_eq_zero.1 h0)
   have rq:l9 .any ops listed=[]:=by
    apply zQ.2;intro i hi;obtain⟨h1,o,ho,_⟩:=mem_ready.1 hi;have:=dQ i (lt ho)
    have br:i<listed.size:=by have:=lt ho;omega
    simp[br]at h1 this;rw[h1]at this;cases this
   refine⟨rq,?_⟩
   have db:rem=[]:=by
    cases rem with
    |nil=>rfl
    |cons c r =>
     simp only[qe,bR]at sh
     have Ξ:c.1<ops.size:=by simpa [gW]using sh.1
     have:=A3 c (by simp);rw[dQ c.1 Ξ]at this;cases this
   subst db;obtain⟨F1,dv,g1,g2,g3,g6⟩:=jP.ex;exact⟨⟨f,H⟩,⟨F1,dv,g1,g2,λt=>g6 t λi o hi _ _=>dQ i hi,g3⟩,hw⟩
  |succ fuel ih =>
   intro listed a w done rem f H bd vD cY qk HJ A3 sh jP HP Ng hw
   have xS:∀i,i<ops.size->(∀o,ops[i]?=V o->∀e,e∈o.after->j4 .any e=true->listed.getD e.on false=true)->∀j,j<ops.size->jj ops i j=true->listed.getD j false=true:=by
    intro i;induction i using s9 with
    |_ i rv =>
     intro hi f_ j hj iu;obtain⟨e,cW,cR,h⟩:=Yw i _ j (gK hi) hj iu;have hl:=f_ _ (gK hi) e cW cR;have sA:=dec i _ (gK hi) e cW cR
     rcases h with h|h
     .rw[<-h];exact hl
     .exact rv e.on sA (by omega) (λo ho=>cY e.on o hl ho) j hj h
   have rF:∀{i o},i∈l9 .any ops listed->ops[i]?=V o->listed.getD i false=false/\∀e,e∈o.after->j4 .any e=true->listed.getD e.on false=true:=λhi ho=>by
    obtain⟨h1,o',aF,h2⟩:=mem_ready.1 hi;rw[ho]at aF;cases aF;have:=lt ho;refine⟨?_,h2⟩;have br:=lt ho;rw[<-bd]at br;simpa [br]using h1
   have isReady:∀{i o},ops[i]?=V o->listed.getD i false=false->(∀j,j<i->listed.getD j false=true)->i∈l9 .any ops listed:=λho h1 h2=>by
    refine mem_ready.2 ⟨?_,_,ho,λe he hb=>h2 _ (dec _ _ ho e he hb)⟩;have br:=lt ho;rw[<-bd]at br;simpa [br]using h1
   have next:∀i,i<ops.size->listed.getD i false=false->(listed.setIfInBounds i true).size=ops.size/\(listed.setIfInBounds i true).toList.count false<=fuel:=λi hi h1=>by
    refine⟨by simpa using bd,?_⟩
    have br:i<listed.size:=by omega
    have h2:listed.toList[i]?=V false:=by
     have:listed[i]=false:=by simpa [br]using h1
     simp[br,this]
    have:=count_set listed.toList i h2;simp only[Array.toList_setIfInBounds];omega
   have rY:∀i o,ops[i]?=V o->(∀e,e∈o.after->j4 .any e=true->listed.getD e.on false=true) ->
     ∀j o',(listed.setIfInBounds i true).getD j false=true->ops[j]?=V o'->∀e,e∈o'.after->j4 .any e=true->(listed.setIfInBounds i true).getD e.on false=true:=λi o ho f_ j o' hj aF e cW cR=>by
    have br:i<listed.size:=by rw[bd];exact lt ho
    rw[fI br]at hj ⊢;split
    .rfl
    .split at hj
     .rename_i e2;subst e2;rw[ho]at aF;cases aF;exact f_ e cW cR
     .exact cY j o' hj aF e cW cR
   by_cases dQ:∀i,i<ops.size->listed.getD i false=true
   ·-- nothing is left
    have rq:l9 .any ops listed=[]:=by
     apply zQ.2;intro i hi;obtain⟨_,o,ho,_⟩:=mem_ready.1 hi;obtain⟨dH,_⟩:=rF hi ho;rw[dQ i (lt ho)]at dH;cases dH
    refine⟨λ_=>?_,λi hi=>by rw[rq]at hi;cases hi⟩
    have db:rem=[]:=by
     cases rem with
     |nil=>rfl
     |cons c r =>
      simp only[qe,bR]at sh
      have Ξ:c.1<ops.size:=by simpa [gW]using sh.1
      have:=A3 c (by simp);rw[dQ c.1 Ξ]at this;cases this
    subst db;obtain⟨F1,dv,g1,g2,g3,g6⟩:=jP.ex;exact⟨⟨f,H⟩,⟨F1,dv,g1,g2,λt=>g6 t λi o hi _ _=>dQ i hi,g3⟩,hw⟩
   .have least:∃i,i<ops.size/\listed.getD i false=false/\∀j,j<i->listed.getD j false=true:=by
     have:∃i,i<ops.size/\listed.getD i false=false:=by
      refine wY λbu=>dQ λi hi=>?_;cases hb:listed.getD i false
      .exact absurd ⟨i,hi,hb⟩ bu
      .rfl
     obtain⟨i,hi,hb⟩:=this;induction i using s9 with
     |_ i rv =>
      by_cases aY:∀j,j<i->listed.getD j false=true
      .exact⟨i,hi,hb,aY⟩
      .have:∃j,j<i/\listed.getD j false=false:=by
        refine wY λbu=>aY λj hj=>?_;cases hb:listed.getD j false
        .exact absurd ⟨j,hj,hb⟩ bu
        .rfl
       obtain⟨j,hj,Dz⟩:=this;exact rv j hj (by omega) Dz
    obtain⟨i0,q_,eu,xQ⟩:=least;have db:=isReady (gK q_) eu xQ;refine⟨λh0=>(by rw[h0]at db;cases db),λi hi=>?_⟩;obtain⟨_,o,ho,_⟩:=mem_ready.1 hi;obtain⟨dH,f_⟩:=rF hi ho
    have iu:∀j,j<ops.size->jj ops i j=true->listed.getD j false=true:=xS i (lt ho) λo' aF=>by rw[ho]at aF;cases aF;exact f_
    obtain⟨lT,lU⟩:=next i (lt ho) dH
    have br:i<listed.size:=by rw[bd];exact lt ho
    by_cases ss:i∈tL chain ops
    ·-- one of FY free akY
     have qn:=(IA.1 ss).2;refine acv hT hn bd ho (λt j o' hj ht aF bF=>iu j hj (hp.2 i o t j o' (lt ho) hj ho ht aF bF)) (Ng i o ss ho dH) (adf o (AK i o ss ho)) jP λa2 w2 hh=>?_;refine ih _ a2 w2 done rem f H lT lU (rY i o ho f_) qk (λc hc=>?_) (λc hc=>?_) sh hh HP (λj o' hj aF hl=>?_) hw
     .rw[fI br];split
      .rfl
      .exact HJ c hc
     .rw[fI br,if_neg]
      .exact A3 c hc
      .exact qn c (by rw[<-qk];exact uJ _ hc)
     .rw[fI br]at hl;split at hl
      .cases hl
      .exact Ng j o' hj aF hl
    ·-- FY next of FY chain
     have oO:∃c,c∈chain/\c.1=i:=by
      refine wY λbu=>ss (IA.2 ⟨lt ho,λc hc e=>bu ⟨c,hc,e⟩⟩)
     obtain⟨c0,oK,AG⟩:=oO
     have Uz:c0∈rem:=by
      rw[<-qk]at oK
      rcases ep.1 oK with h|h
      .have:=HJ c0 h;rw[AG,dH]at this;cases this
      .exact h
     cases rem with
     |nil=>cases Uz
     |cons c r =>
      have ac1:c.1=i:=by
       have Ly:∀(l:List (Nat×List Nat))(c:Nat×List Nat),qe chain ops (c::l)=true->c0∈l->(∀x,x∈c::l->listed.getD x.1 false=false)->False:=by
        intro l;induction l with
        |nil=>intro c _ h _;cases h
        |cons c' l NV =>
         intro c eU acD Vk;simp only[qe,bR]at eU
         rcases bp.1 acD with rfl|h
         .have fD:c.1<ops.size:=by simpa [gW]using eU.1
          have:=iu c.1 fD (by rw[<-AG];exact eU.2.2.2.1);rw[Vk c (by simp)]at this;cases this
         .exact NV c' (by simp only[qe,bR];exact eU.2.2.2.2) h λx hx=>Vk x (cw _ hx)
       rcases bp.1 Uz with rfl|h
       .exact AG
       .exact(Ly r c sh h A3).elim
      subst ac1;have acK:=sh;simp only[qe,bR]at sh;obtain⟨_,_,M8,_,acI⟩:=sh;simp only[tu,ho]at hw;obtain⟨F1,dv,g1,g2,g3,g6⟩:=jP.ex;have look:∀t,t∈o.looksAt ops->Rd w F1 dv (f t) (a.tmps.getD t undef):=λt ht=>g6 t λj o' hj aF bF=>iu j hj (hp.2 c.1 o t j o' (lt ho) hj ho ht aF bF)
      have rz:∀x,x∈o.op.operands->Rd w F1 dv (ev f x) (a.eval x):=λx hx=>by
       cases x with
       |tmp t=>exact look t (List.mem_append_left _ (my.2 ⟨.tmp t,by simpa using hx,rfl⟩))
       |const v=>exact oa _ _ _ _
       |global g=>exact .Δ
       |func g=>exact .i (.c rfl rfl (λi hi=>absurd hi (by simp)) (λi hi=>absurd hi (by simp)))
      have go:∀(v:Value)(w':World),EPost w F1 dv ⟨f,H⟩ (λx ax=>put n o.dst ax x λhZ=>sI P T ops hZ c.2/\tu P T E n ops r hZ (Q .normal) (λm ax=>Q (.panic (jX E m)) ax)) v w' ->
        wpAnyIn (fW C.ro) 0 P .any ops (λe a' w'=>∃ax,Rel C ax a' w'/\Q e ax) fuel (listed.setIfInBounds c.1 true) (a.put o.dst v) w':=by
       rintro v w' ⟨x,ax,F2,bW,yq,hx,MP⟩;rw[put_eq]at yq
       obtain⟨f2,HM,hq,yt⟩:∃f2:Nat->AV,(sI P T ops ⟨f2,ax.H⟩ c.2/\tu P T E n ops r ⟨f2,ax.H⟩ (Q .normal) (λm ax=>Q (.panic (jX E m)) ax))/\(∀t,o.dst≠V t->f2 t=ax.f t)/\∀t,o.dst=V t->f2 t=x/\t<n:=by
        cases fw:o.dst with
        |none=>rw[fw]at yq;exact⟨ax.f,yq,λ_ _=>rfl,λt h=>by cases h⟩
        |some d =>
         rw[fw]at yq;obtain⟨Ξ,yq⟩:=cond_prop yq;refine⟨ej ax.f d x,yq,λt ht=>QO λe=>ht (by rw[e]),λt ht=>?_⟩;cases ht;exact⟨QM _ _ _,by simpa [gW]using Ξ⟩
       refine ih _ _ w' (done++[c]) r f2 ax.H lT lU (rY c.1 o ho f_) (by rw[l7];exact qk) (λc' fZ=>?_) (λc' fZ=>?_) acI ⟨F2,bW,?_,?_,(by rw[put_defers];exact g3.trans (MP.uw aR)),λt ht=>?_⟩ MP.inv.keys (λj o' hj aF hl=>?_) HM.2
       .rw[fI br];split
        .rfl
        .rcases ep.1 fZ with h|h
         .exact HJ c' h
         .rename_i aI;rw[cV.1 h]at aI;exact absurd rfl aI
       .rw[fI br,if_neg]
        .exact A3 c' (cw _ fZ)
        .intro e
         have Ly:∀(l:List (Nat×List Nat))(b:Nat×List Nat),qe chain ops (b::l)=true->∀y,y∈l->b.1<y.1:=by
          intro l;induction l with
          |nil=>intro b _ y h;cases h
          |cons c' l NV =>
           intro b eU y hy;simp only[qe,bR]at eU
           have hb:b.1<ops.size:=by simpa [gW]using eU.1
           have acC:c'.1<ops.size:=by simpa [gW]using eU.2.2.2.2.1
           have h1:=UN c'.1 b.1 acC hb eU.2.2.2.1
           rcases bp.1 hy with rfl|hy
           .exact h1
           .have:=NV c' (by simp only[qe,bR];exact eU.2.2.2.2) y hy;omega
         have:=Ly r c acK c' fZ;omega
       .cases fw:o.dst with
        |none=>exact g1
        |some d=>simpa [jg]using g1
       .cases fw:o.dst with
        |none=>exact g2
        |some d=>simpa [jg]using g2
       .by_cases pQ:o.dst=V t
        .obtain⟨e1,e2⟩:=yt t pQ;rw[e1,pQ]
         have:t<a.tmps.size:=by rw[g1,hn];exact e2
         simpa [jg,this]using hx
        .rw[hq t pQ]
         have h1:=g6 t λj o' hj aF bF=>by
          have:=ht j o' hj aF bF;rw[fI br]at this;split at this
          .rename_i e;subst e;rw[ho]at aF;cases aF;exact absurd bF pQ
          .exact this
         have h2:=MP.keep t _ h1;cases fw:o.dst with
         |none=>exact h2
         |some d =>
          have aI:d≠t:=λe=>pQ (by rw[fw,e]);simpa [jg,Array.getElem?_setIfInBounds_ne aI]using h2
       .rw[fI br]at hl;split at hl
        .cases hl
        .have MZ:=IA.1 hj;have h3:=(eo.1 M8) j hj;simp only[s6]at h3
         rcases h3 with h3|h3
         .have:=iu j MZ.1 h3;rw[this]at hl;cases hl
         .exact Oa HM.1 j o' (by simpa using h3) aF
      have run:(Kg P T E o ⟨f,H⟩ (λx ax=>put n o.dst ax x λhZ=>sI P T ops hZ c.2/\tu P T E n ops r hZ (Q .normal) (λm ax=>Q (.panic (jX E m)) ax)) λm ax=>Q (.panic (jX E m)) ⟨aR,ax.H⟩)->o.wpIn (fW C.ro) 0 P a w (wpAnyIn (fW C.ro) 0 P .any ops (λe a' w'=>∃ax,Rel C ax a' w'/\Q e ax) fuel (listed.setIfInBounds c.1 true)) (λe a' w'=>∃ax,Rel C ax a' w'/\Q e ax):=λD3=>by
       rcases D3 with hw|hw
       rotate_left
       .have Ez:∀(m:Int)(ax:ak)(w':World)(F':Nat->Prop)(ay:Nat->Value),Q (.panic (jX E m)) ⟨aR,ax.H⟩->Ext w F1 dv ⟨f,H⟩ w' F' ay ax->∃ax,Rel C ax a w'/\Q (.panic (jX E m)) ax:=λm ax w' F' ay hk hx=>⟨⟨aR,ax.H⟩,⟨F',ay,g1,g2,λ_=>.Δ,g3.trans (hx.uw aR)⟩,hk⟩;have cz:=YC hw
        rcases ahl (st:=⟨f,H⟩) hT g3.inv rz hw with⟨v,w',bf,rm⟩|⟨m,bf,hk⟩|⟨g,vs,bf,hc⟩
        .refine Oper.kI cz bf ?_;rw[xd];exact go v w' rm
        .refine Oper.kI cz bf ?_;rw[aae];exact Ez m ⟨f,H⟩ w F1 dv hk (Ext.refl g3.inv)
        .refine Oper.kI cz bf ?_;rw[zU];refine⟨λh=>(by cases h),uZ (hc.mono ?_)⟩;rintro e w' (⟨v,rfl,rm⟩|⟨m,rfl,ax,F',ay,hk,hx⟩)
         .exact go v w' rm
         .exact Ez m ax w' F' ay hk hx
       have cz:=YD hw
       rcases YE (st:=⟨f,H⟩) hT g3.inv rz hw with⟨v,w',bf,rm⟩|⟨w',bf,rm⟩|⟨g,vs,bf,hc⟩|⟨l,fn,tmps,assign,body,bf,hc⟩
       .refine Oper.kI cz bf ?_;rw[xd];exact go v w' rm
       .refine Oper.kI cz bf ?_;rw[Oper.uponIn_skip];exact go undef w' rm
       .refine Oper.kI cz bf ?_;rw[zU];refine⟨λh=>(by cases h),uZ (hc.mono ?_)⟩;rintro e w' ⟨v,rfl,rm⟩;exact go v w' rm
       .refine Oper.kI cz bf ?_;rw[Oper.uponIn_round];refine⟨λh=>(by cases h),X3 (hc.mono ?_)⟩;rintro e w' ⟨v,rfl,rm⟩;exact go v w' rm
      have skip:(put n o.dst ⟨f,H⟩ (.v undef) λhZ=>sI P T ops hZ c.2/\tu P T E n ops r hZ (Q .normal) (λm ax=>Q (.panic (jX E m)) ax))->wpAnyIn (fW C.ro) 0 P .any ops (λe a' w'=>∃ax,Rel C ax a' w'/\Q e ax) fuel (listed.setIfInBounds c.1 true) (a.put o.dst undef) w:=λhw =>
       go undef w ⟨.v undef,⟨f,H⟩,F1,dv,hw,.i (.v (.inr rfl)),Ext.refl g3.inv⟩
      unfold wpOpIn;simp only[ho];rw[sa]at hw;cases hg:o.guard with
      |none =>
       rw[hg]at hw
       have adT:d_ o (yielded ops a.tmps)=true:=by simp[d_,hg]
       rw[if_pos adT];exact run hw
      |some jw =>
       obtain⟨j,want⟩:=jw;rw[hg]at hw;simp only at hw;split at hw
       .rename_i d jO;obtain⟨M9,hw⟩:=cond_prop hw
        have tY:d∈o.looksAt ops:=by
         refine uJ _ ?_;rw[hg];simp[jO]
        have gz:=look d tY
        have M9:d<a.tmps.size:=by rw[g1,hn];simpa [gW]using M9
        have hy:∀v,a.tmps.getD d undef=v->yielded ops a.tmps j=match v with|.bool b=>V b|_=>none:=by
         intro v hv
         have h2:a.tmps[d]?=V v:=by
          rw[<-hv];simp[M9]
         unfold yielded;rw[jO,aS,h2];cases v<;>rfl
        split at hw
        .rename_i b hb;rw[hb]at gz;have ix:=hy _ gz.bK;simp only at ix;by_cases jN:b=want
         .have yx:d_ o (yielded ops a.tmps)=true:=by simp[d_,hg,ix,jN]
          rw[if_pos yx];have:=hw.y jN;rw[Kq (by rw[hb,jN])]at this;exact run this
         .have qi:b=!want:=by cases b<;>cases want<;>first|rfl|exact absurd rfl jN
          have yx:¬d_ o (yielded ops a.tmps)=true:=by simp[d_,hg,ix,jN]
          rw[if_neg yx];have:=hw.n qi;rw[Kq (by rw[hb,qi])]at this;exact⟨λ_ _=>trivial,skip this⟩
        .rename_i vs hb;rw[hb]at gz;have ix:=hy _ gz.bK;simp only at ix
         have yx:¬d_ o (yielded ops a.tmps)=true:=by simp[d_,hg,ix]
         rw[if_neg yx];exact⟨λ_ _=>trivial,skip hw⟩
        .exact hw.elim
       .exact hw.elim
 have rep:∀i,(oj ops.size false).getD i false=false:=λi=>by
  simp only[lA,Array.getElem?_replicate];split<;>rfl
 refine key ops.size _ a w [] chain fe st.H (by simp) (by simp) (λi o hi=>by rw[rep]at hi;cases hi) rfl (λc hc=>by cases hc) (λc _=>rep _) acJ ⟨F,β,hs,hd,he,λt ht=>?_⟩ he.inv.keys (λi o hi ho _=>bU o (AK i o hi ho)) hW
 .have bu:∀i o,i<ops.size->ops[i]?=V o->o.dst≠V t:=λi o hi ho bF=>by
   have:=ht i o hi ho bF;rw[rep]at this;cases this
  rw[lQ t λo ho=>by
   obtain⟨i,hi,aF⟩:=my.1 ho
   exact bu i o (lt aF) aF]
  exact hf t
end
end
section
open Go.Shelf Go.RowKit Go.Lib Go.Proofs
variable{P:Program}{ρ:Ren}
def lay(a:List Value)(o:Nat)(us:List Value):List Value:=a.take o++us++a.drop (o+us.length)
def nj{a:List Value}{o:Nat}{us:List Value}(h:o+us.length<=a.length):(lay a o us).length=a.length:=by
 simp[lay];omega
def yH{a:List Value}{o:Nat}{us:List Value}(h:o+us.length<=a.length)(q:Nat):(lay a o us)[q]?=if q<o then a[q]? else if q<o+us.length then us[q-o]? else a[q]?:=by
 unfold lay;simp only[gV,cZ,dq,fS,iN]
 have e:min o a.length=o:=by omega
 rw[e];by_cases h1:q<o
 .have h2:q<o+us.length:=by omega
  simp[h1,h2]
 .by_cases h2:q<o+us.length
  .simp[h1,h2]
  .have h3:o+us.length+(q-(o+us.length))=q:=by omega
   simp[h1,h2,h3]
def JS(w:World)(dT sT ty e:TypeId)(i:TypeInfo)(K:Nat)(hu:P.underlying dT=V (.slice e))(hi:P.info? e=V i)(hK:i.size=K)(g o dn dc:Nat)(a:Addr)(sn sc:Nat)(cur:List Value)(t:TypeId)(hg:w.heap[g]?=V (.cells cur.toArray t (0,0)))
  (us:List Value) (hl:us.length=p_ sn dn*K) (iY:∀j v,us[j]?=V v->w.cell? (a.add j)=V v) (jE:o+us.length<=cur.length) (fo:∀v,v∈us->v.oneCell'=true) :
  (qE #[dT,sT] ty #[.slice (V ⟨g,o,none⟩) dn dc,.slice (V a) sn sc]).run P w=.ok (goInt (p_ sn dn)) (w.setRow g (lay cur o us).toArray):=by
 have yi:=run_firstCells_some (P:=P) w K (p_ sn dn) a sn sc us hl iY;have cO:=run_storeCells_at P g o t us 0 cur.toArray w hg (by simpa using jE) fo;simp only[l8]at cO;simp[qE,run_underlying hu,Builtin.lenOf,sizeOf,typeInfo,hi,hK,yi,cO,lay]
def agv(w:World)(tS tR e:TypeId)(ht:P.underlying tS=V (.slice e))(size:Nat)(hz:∀ w,(rL e).run P w=.ok size w)
    (a b:Addr) (la ca lb cb:Nat) (aI:a.block≠b.block) (tA tB:TypeId) (kA kB:Nat) (hsa:w.shape? a.block=V (tA,kA)) (Nz:w.shape? b.block=V (tB,kB)) (hkA:kA≠0) (hkB:kB≠0) (hfb:∀ o,w.frozen? { block:=b.block,off:=o }=false) (acY:w.frozen? b=false) :
    (rK #[tS,tS] #[tR] #[.slice (V a) la ca,.slice (V b) lb cb]).run P w=.ok (.bool false) w:=by
  have sC:(a.block != b.block)=true:=by simpa using aI
  have adj:(a.block==b.block)=false:=by simpa using aI
  change Sem.run P (α:=Value) (do
    let V t :=(#[tS,tS]:Array TypeId)[0]? | stuck "slices.overlaps: no parameter types"
    let .slice elem <- underlying t | stuck "slices.overlaps: slice type expected"
    let size <- sizeOf elem
    match(V a:Option Addr),(V b:Option Addr)with
    |some a,V b =>
      if la=0\/lb=0\/size=0 then pure (CG false)
      else if a.block != b.block&&(<- frozen a)&&(<- frozen b)then unsupported .addressObserved
      else do
        if a.block != b.block then do
          noView a;noView b
          if <- mayBeOne a b then return CG ((<- choose (.extern "sameAddr.stringBytes" 2)) == 1)
        pure (CG (a.block==b.block&&a.off<b.off+lb*size&&b.off<a.off+la*size))
    |_,_=>pure (CG false)) w=_
  by_cases h0:la=0\/lb=0\/size=0
  · simp[run_underlying ht,hz,h0]
  · cases kA with
   |zero=>exact absurd rfl hkA
   |succ kA =>
    cases kB with
    |zero=>exact absurd rfl hkB
    |succ kB =>
      have acZ:=hfb (kB+1);simp[run_underlying ht,hz,h0,sC,adj,frozen,noView,viewAt,mayBeOne,stringish,shape,Sem.run,hsa,Nz,acY,acZ]
def X5(w:World)(t tx ty e:TypeId)(i:TypeInfo)(K:Nat)(ht:P.underlying t=V (.slice e))(hi:P.info? e=V i)(hK:i.size=K)(g lX zo:Nat)(cur:List Value)(hg:w.heap[g]?=V (.cells cur.toArray e (0,0)))
  (x:Value) (n:Nat) (news:List Value) (hs:Go.Src P i.size tx x n news w) (fF:lX+n<=zo) (jE:lX*K+news.length<=cur.length) :
  (iD #[t,tx] ty #[.slice (V ⟨g,0,none⟩) lX zo,x]).run P w=.ok (.slice (V ⟨g,0,none⟩) (lX+n) zo) (w.setRow g (lay cur (lX*K) news).toArray):=by
 have cO:=run_storeCells_at P g (lX*K) e news 0 cur.toArray w hg (by simpa using jE) hs.one;simp only[l8]at cO;have hc:=hs.cells;rw[hK]at hc
 rcases hs.kind with⟨e',hk⟩|hk<;>simp[iD,run_underlying ht,run_underlying hk,sizeOf,typeInfo,hi,hK,hs.len,fF,hc,gr,cO,lay]
structure tj(P:Program)(ρ:Ren)(i0:TypeInfo)(z:Value):Prop where
 mixed:P.follows .mixedOrders=true
 f22:Bears P (ρ.f 22) (Body2.n22 ρ)
 yn:∀args w w' v,(rK #[ρ.t 24,ρ.t 24] #[ρ.t 4] args).run P w=.ok v w'->(callFunc (ρ.f 29) args).run P w=.ok (.value v) w'
 t0:P.underlying (ρ.t 0)=V (aal #[])
 a0:∀w,(isAgg (ρ.t 0)).run P w=.ok false w
 z0:∀w,(rL (ρ.t 0)).run P w=.ok 1 w
 v0:∀w,(zeroValue (ρ.t 0)).run P w=.ok (Value.tuple #[]) w
 t3:P.underlying (ρ.t 3)=V (aaj KK)
 a3:∀w,(isAgg (ρ.t 3)).run P w=.ok false w
 z3:∀w,(rL (ρ.t 3)).run P w=.ok 1 w
 v3:∀w,(zeroValue (ρ.t 3)).run P w=.ok (Value.int KK 0) w
 t4:P.underlying (ρ.t 4)=V (aai)
 a4:∀w,(isAgg (ρ.t 4)).run P w=.ok false w
 z4:∀w,(rL (ρ.t 4)).run P w=.ok 1 w
 v4:∀w,(zeroValue (ρ.t 4)).run P w=.ok (CG false) w
 t24:P.underlying (ρ.t 24)=V (aak (ρ.t 9))
 a24:∀w,(isAgg (ρ.t 24)).run P w=.ok false w
 z24:∀w,(rL (ρ.t 24)).run P w=.ok 1 w
 v24:∀w,(zeroValue (ρ.t 24)).run P w=.ok (Sa none 0 0) w
 i9:P.info? (ρ.t 9)=V i0
 z9:∀w,(rL (ρ.t 9)).run P w=.ok i0.size w
 k9:0<i0.size
 hz:i0.zero=V z
 zs:z.cells.size=i0.size
 z1:∀v,v∈z.cells.toList->v.oneCell'=true
set_option maxHeartbeats 4000000 in
set_option maxRecDepth 100000 in
def ad5{i0:TypeInfo}{z:Value}(L:tj P ρ i0 z)(K g c n i vb vo m vc:Nat)(cur vs:List Value)(w:World)(fX:i0.size=K)(hi:i<n)(hm:0<m)(fF:n+m<=c)(Ue:c<=9223372036854775807)(Ia:vb≠g)
  (hg:w.heap[g]?=V (.cells cur.toArray (ρ.t 9) (0,0))) (hs:cur.length=c*K) (na:vs.length=m*K) (jG:∀j v,vs[j]?=V v->w.cell? ⟨vb,vo+j,none⟩=V v)
  (sd:∀q v,q<n*K->cur[q]?=V v->v.oneCell'=true) (qU:∀v,v∈vs->v.oneCell'=true) :
  Calls P (ρ.f 22) #[.slice (V ⟨g,0,none⟩) n c,.int .i64 i,.slice (V ⟨vb,vo,none⟩) m vc] w λe w' =>
   e=.returned (.slice (V ⟨g,0,none⟩) (n+m) c)/\w'=(w.drew.setRow g (lay cur ((i+m)*K) ((cur.drop (i*K)).take ((n-i)*K))).toArray).setRow g (lay (lay cur ((i+m)*K) ((cur.drop (i*K)).take ((n-i)*K))) (i*K) vs).toArray:=by
 have t0:=L.t0;have a0:=L.a0;have z0:=L.z0;have v0:=L.v0;have t3:=L.t3;have a3:=L.a3;have z3:=L.z3;have v3:=L.v3;have t4:=L.t4;have a4:=L.a4;have z4:=L.z4;have v4:=L.v4;have t24:=L.t24;have a24:=L.a24;have z24:=L.z24;have v24:=L.v24;have u0:=run_underlying L.t0;have u3:=run_underlying L.t3;have u4:=run_underlying L.t4;have QL:=run_underlying L.t24;have z9:=L.z9;rw[fX]at z9
 have kW:0<K:=by have:=L.k9;omega
 have yz:¬((m:Int)=0):=by omega
 have yA:¬((i:Int)=(n:Int)):=by omega
 have adB:w.shape? g=V (ρ.t 9,c*K):=by simp[World.shape?,hg,hs]
 have adN:∃cv tv fv,w.heap[vb]?=V (.cells cv tv fv)/\cv.size≠0:=by
  have pO:0<vs.length:=by rw[na];exact R7 hm kW
  have h1:=jG 0 _ (bD pO);unfold uN at h1;split at h1
  .rename_i h2;exact⟨_,_,_,h2,λh0=>by simp[h0]at h1⟩
  .cases h1
 obtain⟨cv,tv,fv,hvh,hcv⟩:=adN
 have adA:w.shape? vb=V (tv,cv.size):=by simp[World.shape?,hvh]
 have yn:∀o lb cb,(callFunc (ρ.f 29) #[.slice (V ⟨vb,vo,none⟩) m vc,.slice (V ⟨g,o,none⟩) lb cb]).run P w=.ok (.value (.bool false)) w:=λo lb cb =>
  L.yn _ _ _ _ (agv w (ρ.t 24) (ρ.t 4) (ρ.t 9) L.t24 K z9 ⟨vb,vo,none⟩ ⟨g,o,none⟩ m vc lb cb Ia tv (ρ.t 9) cv.size (c*K) adA adB hcv (R7 (by omega) kW |> Nat.pos_iff_ne_zero.1) (λo=>by simp[alo,hg]) (by simp[alo,hg]))
 have mixed:=L.mixed
 have yx:IntKind.i64.wrap ((i:Int)+(m:Int))=(i:Int)+(m:Int):=by rw[ZY];omega
 have cR:(0:Int)<=(i:Int)+(m:Int):=by omega
 have oO:i<=n:=by omega
 have htn:((i:Int)+(m:Int)).toNat=i+m:=by omega
 have me:¬(c=i+m):=by omega
 have Mz:(i:Int)<=(n:Int)+(m:Int):=by omega
 have hb4:¬(c=i):=by omega
 obtain⟨us,fG⟩:∃us,us=(cur.drop (i*K)).take ((n-i)*K):=⟨_,rfl⟩
 have e0:i*K+(n-i)*K=n*K:=by rw[<-bM,show i+(n-i)=n by omega]
 have e1:(i+m)*K+(n-i)*K=(n+m)*K:=by rw[<-bM,show i+m+(n-i)=n+m by omega]
 have e2:(n+m)*K<=c*K:=cC _ fF
 have e3:i*K+m*K=(i+m)*K:=by rw[bM]
 have e4:(i+m)*K<=(n+m)*K:=cC _ (by omega);have e5:n*K<=(n+m)*K:=cC _ (by omega)
 have fp:us.length=(n-i)*K:=by rw[fG];simp;omega
 have nO:∀j v,us[j]?=V v->j<(n-i)*K/\cur[i*K+j]?=V v:=λj v hj=>by
  have h1:=(eZ.1 hj).1;rw[fp]at h1;rw[fG,fS,if_pos h1,iN]at hj;exact⟨h1,hj⟩
 have Dj:∀v,v∈us->v.oneCell'=true:=λv hv=>by
  obtain⟨j,hj,rfl⟩:=RP hv;obtain⟨h1,h2⟩:=nO j _ (bD hj);exact sd _ _ (by omega) h2
 rw[<-fG];obtain⟨c1,aj⟩:∃c1,c1=lay cur ((i+m)*K) us:=⟨_,rfl⟩
 have MB:c1.length=c*K:=by rw[aj,nj (by rw[fp];omega),hs]
 rw[<-aj];have ew:w.drew.heap[g]?=V (.cells cur.toArray (ρ.t 9) (0,0)):=hg
 have acL:∀ty dc sc,(qE #[(ρ.t 24),(ρ.t 24)] ty #[.slice (V ⟨g,(i+m)*K,none⟩) (n+m-(i+m)) dc,.slice (V ⟨g,i*K,none⟩) (n+m-i) sc]).run P w.drew=.ok (goInt (p_ (n+m-i) (n+m-(i+m)))) (w.drew.setRow g c1.toArray):=λty dc sc=>by
  rw[aj];exact JS w.drew _ _ ty (ρ.t 9) i0 K L.t24 L.i9 fX g ((i+m)*K) (n+m-(i+m)) dc ⟨g,i*K,none⟩ (n+m-i) sc cur (ρ.t 9) ew us (by rw[fp,show p_ (n+m-i) (n+m-(i+m))=n-i by rw[show∀a b:Nat,p_ a b=min a b fromλ_ _=>rfl];omega])
   (λj v hj=>by
    obtain⟨_,h2⟩:=nO j v hj;rw[gr]
    simp[uN,ew,h2]) (by rw[fp];omega) Dj
 have Ξ:g<w.heap.size:=(lB.1 hg).1
 have ξ:(w.drew.setRow g c1.toArray).heap[g]?=V (.cells c1.toArray (ρ.t 9) (0,0)):=by simp[xe,p0,ew]
 have ν:∀j v,vs[j]?=V v->(w.drew.setRow g c1.toArray).cell? ⟨vb,vo+j,none⟩=V v:=λj v hj=>by
  rw[<-jG j v hj];simp[uN,xe,p0,Ne.symm Ia];rfl
 have acM:∀(W:World),W.heap=(w.drew.setRow g c1.toArray).heap->∀ty dc,(qE #[(ρ.t 24),(ρ.t 24)] ty #[.slice (V ⟨g,i*K,none⟩) (n+m-i) dc,.slice (V ⟨vb,vo,none⟩) m vc]).run P W=.ok (goInt (p_ m (n+m-i))) (W.setRow g (lay c1 (i*K) vs).toArray):=λW hW ty dc =>
  JS W _ _ ty (ρ.t 9) i0 K L.t24 L.i9 fX g (i*K) (n+m-i) dc ⟨vb,vo,none⟩ m vc c1 (ρ.t 9) (by rw[hW];exact ξ) vs (by rw[na,show p_ m (n+m-i)=m by rw[show∀a b:Nat,p_ a b=min a b fromλ_ _=>rfl];omega])
   (λj v hj=>by
    rw[gr];have:=ν j v hj;unfold uN at this ⊢
    rw[hW];exact this) (by rw[na,MB];omega) qU
 obtain⟨_,_,FG⟩:=L.f22;go_enter FG,Body2.n22_ntmps ρ;go_wp2_with (simp only[yn]);go_region_law_o (refine step_copy_runI rfl _ _ (ρ.t 24) (ρ.t 24) rfl _ _ (by simp[zL,jg]) (by simp[zL,jg]) (acL _ _ _) ?_);go_wp2_with (at_builtin;refine wpList_copy_runI _ rfl _ _ (ρ.t 24) (ρ.t 24) rfl _ _ rfl rfl (acM _ rfl _ _) ?_);go_ret;exact⟨rfl,by rw[aj,fG]⟩
set_option maxHeartbeats 4000000 in
set_option maxRecDepth 100000 in
def ad4{i0:TypeInfo}{z:Value}(L:tj P ρ i0 z)(K g c n vb vo m vc:Nat)(cur vs:List Value)(w:World)(fX:i0.size=K)(hm:0<m)(fF:n+m<=c)(Ue:c<=9223372036854775807)
  (hg:w.heap[g]?=V (.cells cur.toArray (ρ.t 9) (0,0))) (hs:cur.length=c*K) (na:vs.length=m*K) (jG:∀j v,vs[j]?=V v->w.cell? ⟨vb,vo+j,none⟩=V v) (qU:∀v,v∈vs->v.oneCell'=true) :
  Calls P (ρ.f 22) #[.slice (V ⟨g,0,none⟩) n c,.int .i64 n,.slice (V ⟨vb,vo,none⟩) m vc] w λe w' =>
   e=.returned (.slice (V ⟨g,0,none⟩) (n+m) c)/\w'=w.setRow g (lay cur (n*K) vs).toArray:=by
 have t0:=L.t0;have a0:=L.a0;have z0:=L.z0;have v0:=L.v0;have t3:=L.t3;have a3:=L.a3;have z3:=L.z3;have v3:=L.v3;have t4:=L.t4;have a4:=L.a4;have z4:=L.z4;have v4:=L.v4;have t24:=L.t24;have a24:=L.a24;have z24:=L.z24;have v24:=L.v24;have u0:=run_underlying L.t0;have u3:=run_underlying L.t3;have u4:=run_underlying L.t4;have QL:=run_underlying L.t24;have mixed:=L.mixed;have z9:=L.z9;rw[fX]at z9
 have kW:0<K:=by have:=L.k9;omega
 have yz:¬((m:Int)=0):=by omega
 have iY:Go.Src P i0.size (ρ.t 24) (.slice (V ⟨vb,vo,none⟩) m vc) m vs w:=Rv w L.t24 ⟨vb,vo,none⟩ m vc vs (by rw[fX];exact na) (λj u hj=>by rw[gr];exact jG j u hj) qU
 have e1:n*K+m*K=(n+m)*K:=by rw[bM]
 have e2:(n+m)*K<=c*K:=cC _ fF
 have bf:∀ty,(iD #[(ρ.t 24),(ρ.t 24)] ty #[.slice (V ⟨g,0,none⟩) n c,.slice (V ⟨vb,vo,none⟩) m vc]).run P w=.ok (.slice (V ⟨g,0,none⟩) (n+m) c) (w.setRow g (lay cur (n*K) vs).toArray):=λty=>by
  exact X5 w (ρ.t 24) (ρ.t 24) ty (ρ.t 9) i0 K L.t24 L.i9 fX g n c cur hg _ m vs iY fF (by omega)
 obtain⟨_,_,FG⟩:=L.f22;go_enter FG,Body2.n22_ntmps ρ;go_wp2_with (at_builtin;refine KL _ rfl _ _ _ _ rfl _ _ rfl rfl _ _ (bf _) ?_);go_ret;exact⟨rfl,rfl⟩
set_option maxHeartbeats 4000000 in
set_option maxRecDepth 100000 in
def VC{i0:TypeInfo}{z:Value}(L:tj P ρ i0 z)(K:Nat)(base:Option Addr)(n c vb vo m vc:Nat)(cs vs:List Value)(w:World)(fX:i0.size=K)(hm:0<m)(qn:n<=c)(fF:c<n+m)(tT:(n+m)*i0.bytes<=140737488355328)(Mn:n+m<=140737488355328)
  (cY:cs.length=n*K) (na:vs.length=m*K) (pL:base=none->n=0) (fD:∀a,base=V a->∀j v,cs[j]?=V v->w.cell? (a.add j)=V v)
  (jG:∀j v,vs[j]?=V v->w.cell? ⟨vb,vo+j,none⟩=V v) (qU:∀v,v∈vs->v.oneCell'=true) :
  Calls P (ρ.f 22) #[.slice base n c,.int .i64 n,.slice (V ⟨vb,vo,none⟩) m vc] w λe w' =>
   e=.returned (.slice (V ⟨w.heap.size,0,none⟩) (n+m) (grownCap w (n+m) c (ρ.t 9))) /\
   w'=w.drew.alloc (.cells ((cs++vs).toArray++dJ z.cells (grownCap w (n+m) c (ρ.t 9)-(n+m))) (ρ.t 9)):=by
 have t0:=L.t0;have a0:=L.a0;have z0:=L.z0;have v0:=L.v0;have t3:=L.t3;have a3:=L.a3;have z3:=L.z3;have v3:=L.v3;have t4:=L.t4;have a4:=L.a4;have z4:=L.z4;have v4:=L.v4;have t24:=L.t24;have a24:=L.a24;have z24:=L.z24;have v24:=L.v24;have u0:=run_underlying L.t0;have u3:=run_underlying L.t3;have u4:=run_underlying L.t4;have QL:=run_underlying L.t24;have mixed:=L.mixed;have z9:=L.z9;rw[fX]at z9
 have kW:0<K:=by have:=L.k9;omega
 have yz:¬((m:Int)=0):=by omega
 have iY:Go.Src P i0.size (ρ.t 24) (.slice (V ⟨vb,vo,none⟩) m vc) m vs w:=Rv w L.t24 ⟨vb,vo,none⟩ m vc vs (by rw[fX];exact na) (λj u hj=>by rw[gr];exact jG j u hj) qU
 have hold:(wX i0.size n (.slice base n c)).run P w.drew=.ok cs.toArray w.drew:=by
  rw[fX];cases base with
  |none =>
   have h0:=pL rfl;subst h0;have AW:cs=[]:=List.length_eq_zero_iff.1 (by simpa using cY);rw[AW];exact run_firstCells_none w.drew K 0 0 c
  |some a=>exact run_firstCells_some w.drew K n a n c cs cY (λj v hj=>fD a rfl j v hj)
 have bf:∀ty,(iD #[(ρ.t 24),(ρ.t 24)] ty #[.slice base n c,.slice (V ⟨vb,vo,none⟩) m vc]).run P w=_:=λty =>
  run_append_grow_src w (ρ.t 24) (ρ.t 24) ty (ρ.t 9) i0 z L.t24 L.i9 L.hz base n c cs hold _ m vs iY fF (by omega) (growslice_fits fF tT)
 obtain⟨_,_,FG⟩:=L.f22;cases base with
 |none =>
  have h0:=pL rfl;subst h0;change Calls P (ρ.f 22) #[.slice none 0 c,.int .i64 0,.slice (V ⟨vb,vo,none⟩) m vc] w _;go_enter FG,Body2.n22_ntmps ρ;go_wp2_with (at_builtin;refine KL _ rfl _ _ _ _ rfl _ _ rfl rfl _ _ (bf _) ?_);all_goals (go_ret;exact⟨rfl,rfl⟩)
 |some a =>
  obtain⟨ab,ao,asp⟩:=a;go_enter FG,Body2.n22_ntmps ρ;go_wp2_with (at_builtin;refine KL _ rfl _ _ _ _ rfl _ _ rfl rfl _ _ (bf _) ?_);all_goals (go_ret;exact⟨rfl,rfl⟩)
set_option maxHeartbeats 8000000 in
set_option maxRecDepth 100000 in
def ad2{i0:TypeInfo}{z:Value}(L:tj P ρ i0 z)(K g c n i vb vo m vc:Nat)(cur vs:List Value)(w:World)(fX:i0.size=K)(hi:i<n)(hm:0<m)(qn:n<=c)(fF:c<n+m)(tT:(n+m)*i0.bytes<=140737488355328)(akt:n+m<=140737488355328)
  (hg:w.heap[g]?=V (.cells cur.toArray (ρ.t 9) (0,0))) (hs:cur.length=c*K) (na:vs.length=m*K) (jG:∀j v,vs[j]?=V v->w.cell? ⟨vb,vo+j,none⟩=V v)
  (sd:∀q v,q<n*K->cur[q]?=V v->v.oneCell'=true) (qU:∀v,v∈vs->v.oneCell'=true) :
  Calls P (ρ.f 22) #[.slice (V ⟨g,0,none⟩) n c,.int .i64 i,.slice (V ⟨vb,vo,none⟩) m vc] w λe w' =>
   e=.returned (.slice (V ⟨w.heap.size,0,none⟩) (n+m) (grownCap w (n+m) c (ρ.t 9)))/\∃r0 r1:List Value,r0.length=grownCap w (n+m) c (ρ.t 9)*K/\(∀q,q<i*K->r0[q]?=cur[q]?)/\r1=lay r0 (i*K) vs /\
   w'=(((w.alloc (.cells r0.toArray (ρ.t 9))).drew.setRow w.heap.size r1.toArray).drew).setRow w.heap.size (lay r1 ((i+m)*K) ((cur.drop (i*K)).take ((n-i)*K))).toArray:=by
 have t0:=L.t0;have a0:=L.a0;have z0:=L.z0;have v0:=L.v0;have t3:=L.t3;have a3:=L.a3;have z3:=L.z3;have v3:=L.v3;have t4:=L.t4;have a4:=L.a4;have z4:=L.z4;have v4:=L.v4;have t24:=L.t24;have a24:=L.a24;have z24:=L.z24;have v24:=L.v24;have u0:=run_underlying L.t0;have u3:=run_underlying L.t3;have u4:=run_underlying L.t4;have QL:=run_underlying L.t24;have mixed:=L.mixed;have z9:=L.z9;rw[fX]at z9
 have kW:0<K:=by have:=L.k9;omega
 have yz:¬((m:Int)=0):=by omega
 have yA:¬((i:Int)=(n:Int)):=by omega
 have hz3:(c:Int)<(n:Int)+(m:Int):=by omega
 have hgw:g<w.heap.size:=(lB.1 hg).1
 have hvw:vb<w.heap.size:=by
  have pO:0<vs.length:=by rw[na];exact R7 hm kW
  exact block_lt_of_cell (jG 0 _ (bD pO))
 have re:(n:Int)+(m:Int)-(i:Int)=((n+m-i:Nat):Int):=by omega
 have nP:i+(n+m-i)=n+m:=by omega
 have e0:i*K+(n-i)*K=n*K:=by rw[<-bM,show i+(n-i)=n by omega]
 have e1:(i+m)*K+(n-i)*K=(n+m)*K:=by rw[<-bM,show i+m+(n-i)=n+m by omega]
 have e3:i*K+m*K=(i+m)*K:=by rw[bM]
 have e4:(i+m)*K<=(n+m)*K:=cC _ (by omega);have e5:n*K<=c*K:=cC _ qn;have e6:i*K<=n*K:=cC _ (by omega);obtain⟨us,fG⟩:∃us,us=(cur.drop (i*K)).take ((n-i)*K):=⟨_,rfl⟩
 have fp:us.length=(n-i)*K:=by rw[fG];simp;omega
 have nO:∀j v,us[j]?=V v->j<(n-i)*K/\cur[i*K+j]?=V v:=λj v hj=>by
  have h1:=(eZ.1 hj).1;rw[fp]at h1;rw[fG,fS,if_pos h1,iN]at hj;exact⟨h1,hj⟩
 have Dj:∀v,v∈us->v.oneCell'=true:=λv hv=>by
  obtain⟨j,hj,rfl⟩:=RP hv;obtain⟨h1,h2⟩:=nO j _ (bD hj);exact sd _ _ (by omega) h2
 have hold:(wX i0.size i (.slice (V ⟨g,0,none⟩) i c)).run P w.drew=.ok (cur.take (i*K)).toArray w.drew:=by
  rw[fX]
  exact run_firstCells_some w.drew K i ⟨g,0,none⟩ i c (cur.take (i*K)) (by rw[dq];omega) (λj v hj=>by
   rw[gr,Nat.zero_add];rw[fS]at hj;split at hj
   .have ew:w.drew.heap[g]?=V (.cells cur.toArray (ρ.t 9) (0,0)):=hg;simp[uN,ew,hj]
   .cases hj)
 obtain⟨G,hG⟩:∃G,G=grownCap w (n+m) c (ρ.t 9):=⟨_,rfl⟩
 have hGn:n+m<=G:=by rw[hG];exact grownCap_ge w _ _ _
 obtain⟨r0,db⟩:∃r0:List Value,r0=cur.take (i*K)++(dJ z.cells (n+m-i)).toList++(dJ z.cells (G-(n+m))).toList:=⟨_,rfl⟩;have Vb:∀ty,(iD #[(ρ.t 24),(ρ.t 3)] ty #[.slice (V ⟨g,0,none⟩) i c,.int .i64 ((n:Int)+(m:Int)-(i:Int))]).run P w =
   .ok (.slice (V ⟨w.heap.size,0,none⟩) (n+m) G) (w.drew.alloc (.cells r0.toArray (ρ.t 9))):=λty=>by
  have h:=Lib.run_append_grow_zeros w (ρ.t 24) (ρ.t 3) ty (ρ.t 9) i0 _ .i64 .i64 L.t24 L.t3 L.i9 L.hz (V ⟨g,0,none⟩) i c (cur.take (i*K)) hold (n+m-i) (by omega) (by have:=L.k9;omega) (by omega) (by omega)
   (by have:(n+m-i)*i0.bytes<=(n+m)*i0.bytes:=cC _ (by omega);omega) (by rw[nP];exact growslice_fits fF tT)
  rw[nP,<-hG]at h;rw[re,h,db]
  have ea:∀(l:List Value)(x y:Array Value),l.toArray++x++y=(l++x.toList++y.toList).toArray:=λl x y=>by apply Array.ext';simp
  rw[ea]
 have nf:∀k,(dJ z.cells k).toList.length=k*K:=λk=>by
  rw[lZ];simp[dJ,L.zs,fX]
 have Nq:r0.length=G*K:=by
  rw[db,cZ,cZ,nf,nf,dq,xb (by omega),<-bM,<-bM];congr 1;omega
 have H6:∀q,q<i*K->r0[q]?=cur[q]?:=λq hq=>by
  rw[db,l7,List.getElem?_append_left (by rw[dq];omega),fS,if_pos hq]
 have hGK:(n+m)*K<=G*K:=cC _ hGn;obtain⟨r1,DU⟩:∃r1,r1=lay r0 (i*K) vs:=⟨_,rfl⟩
 have adt:r1.length=G*K:=by rw[DU,nj (by rw[na];omega),Nq]
 obtain⟨N,hN⟩:∃N,N=w.heap.size:=⟨_,rfl⟩
 have hNg:g≠N:=by omega
 have hNv:vb≠N:=by omega
 have ha:(w.drew.alloc (.cells r0.toArray (ρ.t 9))).heap[N]?=V (.cells r0.toArray (ρ.t 9) (0,0)):=by
  rw[hN];show(w.drew.heap.push (.cells r0.toArray (ρ.t 9)))[w.drew.heap.size]?=_;rw[nv,if_pos rfl]
 have My:∀b,b<w.heap.size->(w.drew.alloc (.cells r0.toArray (ρ.t 9))).heap[b]?=w.heap[b]?:=λb hb=>by
  have:b≠w.drew.heap.size:=KT hb;simp only[l_,nv,if_neg this];rfl
 rw[<-hN]at Vb
 have acN:∀(W:World),W.heap=(w.drew.alloc (.cells r0.toArray (ρ.t 9))).heap->∀ty dc,(qE #[(ρ.t 24),(ρ.t 24)] ty #[.slice (V ⟨N,i*K,none⟩) (n+m-i) dc,.slice (V ⟨vb,vo,none⟩) m vc]).run P W=.ok (goInt (p_ m (n+m-i))) (W.setRow N r1.toArray):=λW hW ty dc=>by
  rw[DU];exact JS W _ _ ty (ρ.t 9) i0 K L.t24 L.i9 fX N (i*K) (n+m-i) dc ⟨vb,vo,none⟩ m vc r0 (ρ.t 9) (by rw[hW];exact ha) vs (by rw[na,show∀a b:Nat,p_ a b=min a b fromλ_ _=>rfl,xb (by omega)])
   (λj v hj=>by
    rw[gr];have:=jG j v hj;unfold uN at this ⊢
    rw[hW,My vb hvw];exact this) (by rw[na,Nq];omega) qU
 have cR:∀W:World,W.heap=(w.drew.alloc (.cells r0.toArray (ρ.t 9))).heap->(W.setRow N r1.toArray).heap[N]?=V (.cells r1.toArray (ρ.t 9) (0,0)):=λW hW=>by
  simp only[xe,p0,if_true];rw[hW,ha];rfl
 have me:∀W:World,W.heap=(w.drew.alloc (.cells r0.toArray (ρ.t 9))).heap->(W.setRow N r1.toArray).heap[g]?=V (.cells cur.toArray (ρ.t 9) (0,0)):=λW hW=>by
  simp only[xe,p0,if_neg (Ne.symm hNg)];rw[hW,My g hgw];exact hg
 have Ui:∀(W:World),(∀b:Nat,W.heap[b]?=((w.drew.alloc (.cells r0.toArray (ρ.t 9))).setRow N r1.toArray).heap[b]?)->∀ty dc sc,(qE #[(ρ.t 24),(ρ.t 24)] ty #[.slice (V ⟨N,(i+m)*K,none⟩) (n+m-(i+m)) dc,.slice (V ⟨g,i*K,none⟩) (n-i) sc]).run P W=.ok (goInt (p_ (n-i) (n+m-(i+m)))) (W.setRow N (lay r1 ((i+m)*K) us).toArray):=λW hW ty dc sc =>
  JS W _ _ ty (ρ.t 9) i0 K L.t24 L.i9 fX N ((i+m)*K) (n+m-(i+m)) dc ⟨g,i*K,none⟩ (n-i) sc r1 (ρ.t 9) (by rw[hW,cR _ rfl]) us (by rw[fp,show∀a b:Nat,p_ a b=min a b fromλ_ _=>rfl,xb (by omega)])
   (λj v hj=>by
    obtain⟨_,h2⟩:=nO j v hj;rw[gr];unfold uN;rw[hW,me _ rfl]
    simp[h2]) (by rw[fp,adt];omega) Dj
 have akq:G<=9223372036854775807:=by
  have:=grownCap_le_maxLen w (n+m) c (ρ.t 9) (by unfold maxLen;omega);rw[<-hG]at this;unfold maxLen at this;omega
 have hGi:¬(G=i):=by omega
 have akr:¬(G=i+m):=by omega
 have AG:¬(c=i):=by omega
 have yx:IntKind.i64.wrap ((i:Int)+(m:Int))=(i:Int)+(m:Int):=by rw[ZY];omega
 have aks:(0:Int)<=(i:Int)+(m:Int):=by omega
 have oO:i<=n:=by omega
 have htn:((i:Int)+(m:Int)).toNat=i+m:=by omega
 have Mz:(i:Int)<=(n:Int):=by omega
 have hE1:((w.alloc (.cells r0.toArray (ρ.t 9))).drew).heap=(w.drew.alloc (.cells r0.toArray (ρ.t 9))).heap:=rfl
 have hF1:∀b:Nat,(((w.alloc (.cells r0.toArray (ρ.t 9))).drew.setRow N r1.toArray).drew).heap[b]?=((w.drew.alloc (.cells r0.toArray (ρ.t 9))).setRow N r1.toArray).heap[b]?:=by
  intro b;rfl
 have vG:∃I6 OX:List Value,I6.length=G*K/\(∀q,q<i*K->I6[q]?=cur[q]?)/\OX=lay I6 (i*K) vs/\(((w.alloc (.cells r0.toArray (ρ.t 9))).drew.setRow N r1.toArray).drew).setRow N (lay r1 ((i+m)*K) us).toArray=(((w.alloc (.cells I6.toArray (ρ.t 9))).drew.setRow N OX.toArray).drew).setRow N (lay OX ((i+m)*K) us).toArray:=⟨r0,r1,Nq,H6,DU,rfl⟩;rw[<-hG,<-hN,<-fG];clear re nP hold db hG DU nf H6 cR me My ha nO fG fp hN;obtain⟨_,_,FG⟩:=L.f22;go_enter FG,Body2.n22_ntmps ρ
 go_wp2_with (first
  |(at_builtin;refine KL _ rfl _ _ _ _ rfl _ _ rfl rfl _ _ (Vb _) ?_)
  |(at_builtin;refine wpList_copy_runI _ rfl _ _ (ρ.t 24) (ρ.t 24) rfl _ _ rfl rfl (acN _ hE1 _ _) ?_)
  |(at_builtin;refine wpList_copy_runI _ rfl _ _ (ρ.t 24) (ρ.t 24) rfl _ _ rfl rfl (Ui _ (λ_=>rfl) _ _ _) ?_))
 go_region_law_o (refine step_copy_runI rfl _ _ (ρ.t 24) (ρ.t 24) rfl (.slice (V ⟨N,(i+m)*K,none⟩) (n+m-(i+m)) (G-(i+m))) (.slice (V ⟨g,i*K,none⟩) (n-i) (c-i)) (by simp[zL,jg]) (by simp[zL,jg]) (Ui _ hF1 (ρ.t 3) (G-(i+m)) (c-i)) ?_);go_wp2;go_ret;exact⟨rfl,vG⟩
structure zX(P:Program)(ρ:Ren)(i0:TypeInfo)(z:Value):Prop where
 mixed:P.follows .mixedOrders=true
 f45:Bears P (ρ.f 45) (SlBodyN.n45 ρ)
 t0:P.underlying (ρ.t 0)=V (aal #[])
 a0:∀w,(isAgg (ρ.t 0)).run P w=.ok false w
 z0:∀w,(rL (ρ.t 0)).run P w=.ok 1 w
 v0:∀w,(zeroValue (ρ.t 0)).run P w=.ok (Value.tuple #[]) w
 t3:P.underlying (ρ.t 3)=V (aaj KK)
 a3:∀w,(isAgg (ρ.t 3)).run P w=.ok false w
 z3:∀w,(rL (ρ.t 3)).run P w=.ok 1 w
 v3:∀w,(zeroValue (ρ.t 3)).run P w=.ok (Value.int KK 0) w
 t4:P.underlying (ρ.t 4)=V (aai)
 a4:∀w,(isAgg (ρ.t 4)).run P w=.ok false w
 z4:∀w,(rL (ρ.t 4)).run P w=.ok 1 w
 v4:∀w,(zeroValue (ρ.t 4)).run P w=.ok (CG false) w
 t22:P.underlying (ρ.t 22)=V (aak (ρ.t 23))
 a22:∀w,(isAgg (ρ.t 22)).run P w=.ok false w
 z22:∀w,(rL (ρ.t 22)).run P w=.ok 1 w
 v22:∀w,(zeroValue (ρ.t 22)).run P w=.ok (Sa none 0 0) w
 i23:P.info? (ρ.t 23)=V i0
 z23:∀w,(rL (ρ.t 23)).run P w=.ok i0.size w
 v23:∀w,(zeroValue (ρ.t 23)).run P w=.ok z w
 vW:0<i0.size
 zs:z.cells.size=i0.size
 z1:∀v,v∈z.cells.toList->v.oneCell'=true
def ahn{ops:Array Oper}{o:Oper}{a:Act}{w:World}{Kk:Act->World->Prop}{Q:Exit->Act->World->Prop}{E:Prop}(ew:o.guard=none)(s x:Operand)(t:TypeId)(qo:o.op=Op.call { callee:=Callee.builtin Builtin.append,args:=#[s,x],argTypes:=#[t,t] })
  (v u:Value) (hs:a.eval s=v) (hx:a.eval x=u) {v':Value} {w':World} (hr:(iD #[t,t] o.type #[v,u]).run P w=.ok v' w') (hK:Kk (a.put o.dst v') w') :
  if d_ o (yielded ops a.tmps)=true then Oper.wp P o a w Kk Q else E:=by
 have hw:d_ o (yielded ops a.tmps)=true:=by simp[d_,ew]
 rw[if_pos hw];unfold Oper.wp;simp[execOp,qo,resolve,invoke,builtin,hs,hx,hr,Result.andThen];exact hK
def agq(w:World)(t e ty:TypeId)(z:Value)(K:Nat)(ht:P.underlying t=V (.slice e))(hv:∀w,(zeroValue e).run P w=.ok z w)(hz:z.cells.size=K)(h1:∀v,v∈z.cells.toList->v.oneCell'=true)(g o n c:Nat)(hn:0<n)(cur:List Value)(tt:TypeId)
  (hg:w.heap[g]?=V (.cells cur.toArray tt (0,0))) (jE:o+n*K<=cur.length) :
  (uD #[t] ty #[.slice (V ⟨g,o,none⟩) n c]).run P w=.ok (.tuple #[]) (w.setRow g (lay cur o (dJ z.cells n).toList).toArray):=by
 have hl:(dJ z.cells n).toList.length=n*K:=by rw[lZ];simp[dJ,hz]
 have nJ:∀v,v∈(dJ z.cells n).toList->v.oneCell'=true:=λv j_=>by
  simp[dJ]at j_;obtain⟨q,hq,rfl⟩:=j_
  have pO:0<z.cells.size:=by
   rcases Nat.eq_zero_or_pos z.cells.size with h|h
   .rw[h]at hq;simp at hq
   .exact h
  have Ξ:=rP q pO;refine h1 _ ?_;rw[getElem!_pos z.cells _ Ξ];simp
 have cO:=run_storeCells_at P g o tt (dJ z.cells n).toList 0 cur.toArray w hg (by rw[hl];simpa using jE) nJ;simp only[l8]at cO;obtain⟨m,rfl⟩:∃m,n=m+1:=⟨n-1,by omega⟩;simp[uD,run_underlying ht,hv,cO,lay]
set_option maxHeartbeats 4000000 in
set_option maxRecDepth 1000000 in
def aa9{i0:TypeInfo}{z:Value}(L:zX P ρ i0 z)(K g c n i j:Nat)(cur:List Value)(w:World)(fX:i0.size=K)(eX:i<j)(hj:j<=n)(qn:n<=c)(Ue:c<=9223372036854775807)
  (hg:w.heap[g]?=V (.cells cur.toArray (ρ.t 23) (0,0))) (hs:cur.length=c*K) (sd:∀q v,q<n*K->cur[q]?=V v->v.oneCell'=true) :
  Calls P (ρ.f 45) #[.slice (V ⟨g,0,none⟩) n c,.int .i64 i,.int .i64 j] w λe w' =>
   e=.returned (.slice (V ⟨g,0,none⟩) (i+(n-j)) c)/\∃zs:List Value,zs.length=(j-i)*K /\
   w'=(w.drew.setRow g (lay cur (i*K) ((cur.drop (j*K)).take ((n-j)*K))).toArray).setRow g (lay (lay cur (i*K) ((cur.drop (j*K)).take ((n-j)*K))) ((i+(n-j))*K) zs).toArray:=by
 have mixed:=L.mixed;have t0:=L.t0;have a0:=L.a0;have z0:=L.z0;have v0:=L.v0;have t3:=L.t3;have a3:=L.a3;have z3:=L.z3;have v3:=L.v3;have t4:=L.t4;have a4:=L.a4;have z4:=L.z4;have v4:=L.v4;have t22:=L.t22;have a22:=L.a22;have z22:=L.z22;have v22:=L.v22;have z23:=L.z23;rw[fX]at z23
 have kW:0<K:=by have:=L.vW;omega
 have e0:j*K+(n-j)*K=n*K:=by rw[<-bM,show j+(n-j)=n by omega]
 have e1:i*K+(n-j)*K=(i+(n-j))*K:=by rw[bM]
 have e2:(i+(n-j))*K+(j-i)*K=n*K:=by rw[<-bM,show i+(n-j)+(j-i)=n by omega]
 have e3:n*K<=c*K:=cC _ qn;obtain⟨us,fG⟩:∃us,us=(cur.drop (j*K)).take ((n-j)*K):=⟨_,rfl⟩
 have fp:us.length=(n-j)*K:=by rw[fG];simp;omega
 have nO:∀q v,us[q]?=V v->q<(n-j)*K/\cur[j*K+q]?=V v:=λq v hq=>by
  have h1:=(eZ.1 hq).1;rw[fp]at h1;rw[fG,fS,if_pos h1,iN]at hq;exact⟨h1,hq⟩
 have Dj:∀v,v∈us->v.oneCell'=true:=λv hv=>by
  obtain⟨q,hq,rfl⟩:=RP hv;obtain⟨h1,h2⟩:=nO q _ (bD hq);exact sd _ _ (by omega) h2
 have ew:w.drew.heap[g]?=V (.cells cur.toArray (ρ.t 23) (0,0)):=hg
 obtain⟨A,hA,iY⟩:∃A:Addr,(if c=j then V (⟨g,0,none⟩:Addr)else V ⟨g,j*K,none⟩)=V A/\∀q u,us[q]?=V u->w.drew.cell? (A.add q)=V u:=by
  by_cases h:c=j
  .refine⟨⟨g,0,none⟩,by simp[h],λq u hu=>?_⟩;have h1:=(nO q u hu).1
   have h2:n-j=0:=by omega
   rw[h2]at h1;omega
  .refine⟨⟨g,j*K,none⟩,by simp[h],λq u hu=>?_⟩;have h2:=(nO q u hu).2;rw[gr];simp[uN,ew,h2]
 obtain⟨c1,aj⟩:∃c1,c1=lay cur (i*K) us:=⟨_,rfl⟩
 have MB:c1.length=c*K:=by rw[aj,nj (by rw[fp];omega),hs]
 have T5:∀ty,(iD #[ρ.t 22,ρ.t 22] ty #[.slice (V ⟨g,0,none⟩) i c,.slice (V A) (n-j) (c-j)]).run P w.drew=.ok (.slice (V ⟨g,0,none⟩) (i+(n-j)) c) (w.drew.setRow g c1.toArray):=λty=>by
  rw[aj];exact X5 w.drew _ _ ty (ρ.t 23) i0 K L.t22 L.i23 fX g i c cur ew _ (n-j) us (by rw[fX];exact Rv w.drew L.t22 A (n-j) (c-j) us fp iY Dj) (by omega) (by rw[fp];omega)
 have ξ:(w.drew.setRow g c1.toArray).heap[g]?=V (.cells c1.toArray (ρ.t 23) (0,0)):=by simp[xe,p0,ew]
 obtain⟨W1,jB⟩:∃W1,W1=w.drew.setRow g c1.toArray:=⟨_,rfl⟩;obtain⟨zs,iZ⟩:∃zs:List Value,zs=(dJ z.cells (n-(i+(n-j)))).toList:=⟨_,rfl⟩
 have nf:zs.length=(j-i)*K:=by
  rw[iZ,lZ,show n-(i+(n-j))=j-i by omega];simp[dJ,L.zs,fX]
 have cY:∀ty cc,(uD #[ρ.t 22] ty #[.slice (V ⟨g,(i+(n-j))*K,none⟩) (n-(i+(n-j))) cc]).run P W1=.ok (.tuple #[]) (W1.setRow g (lay c1 ((i+(n-j))*K) zs).toArray):=λty cc=>by
  rw[jB,iZ]
  exact agq _ _ _ ty z K L.t22 L.v23 (by rw[L.zs,fX]) L.z1 g ((i+(n-j))*K) (n-(i+(n-j))) cc (by omega) c1 (ρ.t 23) ξ (by
   rw[MB,show n-(i+(n-j))=j-i by omega];omega)
 rw[<-fG];have vG:∃ZG:List Value,ZG.length=(j-i)*K/\W1.setRow g (lay c1 ((i+(n-j))*K) zs).toArray=(w.drew.setRow g (lay cur (i*K) us).toArray).setRow g (lay (lay cur (i*K) us) ((i+(n-j))*K) ZG).toArray:=⟨zs,nf,by rw[jB,aj]⟩
 have Ux:i<=c:=by omega
 have UC:j<=c:=by omega
 have hle:i<=j:=by omega
 have aI:¬((i:Int)=(j:Int)):=by omega
 rw[<-jB]at T5;clear jB aj fG nO fp ew iZ ξ;obtain⟨_,_,FG⟩:=L.f45;go_enter FG,SlBodyN.n45_ntmps ρ;go_wp2_with fail;go_region_law_o (refine ahn rfl (.tmp 22) (.tmp 25) (ρ.t 22) rfl _ _ (by simp[zL,jg]) (by simp[zL,jg,hA]) (T5 _) ?_);go_wp2;go_ret;exact⟨rfl,vG⟩
end
section
open Go.Shelf Go.Proofs
variable[M:cD][G:ed]
section
variable{w w':World}{F:Nat->Prop}{β:Nat->Value}{E K:Nat}{l l':List (List AV)}{v:Value}
def Ws(hI:Inv w F β [(1000,.own E K l)])(ug:w'.os=w.os)(ht:jL w w')(ho:w'.output=w.output)(hs:w.heap.size<=w'.heap.size)
  (hb:∀b,b<w.heap.size->¬bH β [(1000,.own E K l)] b->w'.heap[b]?=w.heap[b]?)
  (hv:∃g cap cur,v=.slice (V ⟨g,0,none⟩) l'.length cap/\(w.heap.size<=g\/bH β [(1000,.own E K l)] g)/\0<cap/\w'.heap[g]?=V (.cells cur E (0,0))/\l'.length<=cap/\cap<=maxLen/\cur.size=cap*K/\(∀i,i<l'.length->(l'.getD i []).length=K) /\
   ∀i j,i<l'.length->j<K->(cur.getD (i*K+j) undef).oneCell'=true/\bq w F ((l'.getD i []).getD j .Δ) (cur.getD (i*K+j) undef)) :
  Ext w F β ⟨aR,[(1000,.own E K l)]⟩ w' F (λi=>if i=900 then v else β i) ⟨aR,[(900,.own E K l')]⟩:=by
 obtain⟨g,cap,cur,rfl,hg,oK,hh,nR,nM,fD,hK,hr⟩:=hv;have ha:gn F w w':=λb hF=>hb b (hI.cH b hF) λh=>hI.apart b h hF
 have dB:∀b,bH (λi=>if i=900 then Sa (V ⟨g,0,none⟩) l'.length cap else β i) [(900,.own E K l')] b->b=g:=by
  rintro b ⟨i,c,hm,kX⟩;simp only[cV,iF]at hm;obtain⟨rfl,rfl⟩:=hm
  have qT:aM cap 0=false:=by cases cap<;>first|rfl|omega
  simp[bP,qT]at kX;exact kX.symm
 refine⟨ug,ht,ho,hs,hb,λ_ h=>h,λ_ h=>.inl h,λb h=>by rw[dB b h];exact hg,λ_ _ _=>.Δ,⟨λb hF=>ou (hI.cH b hF) hs,λi c hm=>?_,by simp,λb h hF=>?_,λi c i' c' b h1 h2 _ _=>?_,hI.fC.at ha⟩,λi hi=>if_neg (by omega)⟩
 .simp only[cV,iF]at hm;obtain⟨rfl,rfl⟩:=hm;exact .inr ⟨g,cap,cur,if_pos rfl,oK,hh,nR,nM,fD,hK,λi j hi hj=>⟨(hr i j hi hj).1,(hr i j hi hj).2.frame ha λ_ h=>h⟩⟩
 .have:=dB b h;subst this
  rcases hg with h1|h1
  .have:=hI.cH b hF;omega
  .exact hI.apart b h1 hF
 .simp only[cV,iF]at h1 h2;rw[h1.1,h2.1]
def Vy(l x:List (List AV))(i r:Nat)(hi:i<=l.length):(eQ l (i:Int) x).getD r []=if r<i then l.getD r []else if r<i+x.length then x.getD (r-i) []else l.getD (r-x.length) []:=by
 simp only[eQ,gv,bc,gV,cZ,dq,fS,iN,xb hi];by_cases h1:r<i
 .have h2:r<i+x.length:=by omega
  simp[h1,h2]
 .by_cases h2:r<i+x.length
  .simp[h1,h2]
  .have h3:i+(r-(i+x.length))=r-x.length:=by omega
   simp[h1,h2,h3]
def ad1{Q:AV->Value->Prop}{x:List (List AV)}{i n:Nat}{cur vs X:List Value}(hn:n=l.length)(hi:i<=n)(hX:∀q,q<(n+x.length)*K->X[q]?=if q<i*K then cur[q]? else if q<(i+x.length)*K then vs[q-i*K]? else cur[q-x.length*K]?)
  (hl:∀r j,r<n->j<K->Q ((l.getD r []).getD j .Δ) (cur.getD (r*K+j) undef)) (hx:∀r j,r<x.length->j<K->Q ((x.getD r []).getD j .Δ) (vs.getD (r*K+j) undef)) :
  ∀r j,r<(eQ l (i:Int) x).length->j<K->Q (((eQ l (i:Int) x).getD r []).getD j .Δ) (X.getD (r*K+j) undef):=by
 intro r j hr hj
 have hlen:(eQ l (i:Int) x).length=n+x.length:=by simp[eQ];omega
 rw[hlen]at hr
 have hq:r*K+j<(n+x.length)*K:=by
  calc r*K+j<r*K+K:=by omega
   _=(r+1)*K:=by rw[bM];omega
   _<=_:=cC _ hr
 rw[Vy l x i r (by omega),show X.getD (r*K+j) undef=(X[r*K+j]?).getD undef from gk ..,hX _ hq];by_cases h1:r<i
 .have:r*K+j<i*K:=by
   calc r*K+j<(r+1)*K:=by rw[bM];omega
    _<=_:=cC _ h1
  rw[if_pos h1,if_pos this,show∀(a:List Value)b,(a[b]?).getD undef=a.getD b undef fromλa b=>(gk ..).symm];exact hl r j (by omega) hj
 .have nJ:¬r*K+j<i*K:=by
   have:i*K<=r*K:=cC _ (by omega);omega
  rw[if_neg h1,if_neg nJ];by_cases h2:r<i+x.length
  .have:r*K+j<(i+x.length)*K:=by
    calc r*K+j<(r+1)*K:=by rw[bM];omega
     _<=_:=cC _ h2
   rw[if_pos h2,if_pos this]
   have e:r*K+j-i*K=(r-i)*K+j:=by
    have:i*K<=r*K:=cC _ (by omega);rw[Nat.sub_mul];omega
   rw[e,show∀(a:List Value)b,(a[b]?).getD undef=a.getD b undef fromλa b=>(gk ..).symm];exact hx (r-i) j (by omega) hj
  .have:¬r*K+j<(i+x.length)*K:=by
    have:(i+x.length)*K<=r*K:=cC _ (by omega);omega
   rw[if_neg h2,if_neg this]
   have e:r*K+j-x.length*K=(r-x.length)*K+j:=by
    have:x.length*K<=r*K:=cC _ (by omega);rw[Nat.sub_mul];omega
   rw[e,show∀(a:List Value)b,(a[b]?).getD undef=a.getD b undef fromλa b=>(gk ..).symm];exact hl (r-x.length) j (by omega) hj
def ad0{x:List (List AV)}{i:Nat}(hi:i<=l.length)(hl:∀r,r<l.length->(l.getD r []).length=K)(hx:∀r,r<x.length->(x.getD r []).length=K):∀r,r<(eQ l (i:Int) x).length->((eQ l (i:Int) x).getD r []).length=K:=by
 intro r hr
 have hlen:(eQ l (i:Int) x).length=l.length+x.length:=by simp[eQ];omega
 rw[hlen]at hr;rw[Vy l x i r hi];by_cases h1:r<i
 .rw[if_pos h1];exact hl r (by omega)
 .rw[if_neg h1];by_cases h2:r<i+x.length
  .rw[if_pos h2];exact hx _ (by omega)
  .rw[if_neg h2];exact hl _ (by omega)
end
def three{vs:Array Value}{a b c:Value}(hs:vs.size=3)(h0:vs.getD 0 undef=a)(h1:vs.getD 1 undef=b)(h2:vs.getD 2 undef=c):vs=#[a,b,c]:=by
 apply Array.ext
 .simpa using hs
 .intro i h3 h4;have h4:i<3:=h4
  have:i=0\/i=1\/i=2:=by omega
  rcases this with rfl|rfl|rfl
  .simpa [hs]using h0
  .simpa [hs]using h1
  .simpa [hs]using h2
def aek{cur us vs:List Value}{K c i m n:Nat}(hc:cur.length=c*K)(hi:i<=n)(fF:n+m<=c)(hu:us=(cur.drop (i*K)).take ((n-i)*K))(hv:vs.length=m*K):
  ∀q,q<(n+m)*K->(lay (lay cur ((i+m)*K) us) (i*K) vs)[q]?=if q<i*K then cur[q]? else if q<(i+m)*K then vs[q-i*K]? else cur[q-m*K]?:=by
 intro q hq
 have e0:i*K+(n-i)*K=n*K:=by rw[<-bM,show i+(n-i)=n by omega]
 have e1:(i+m)*K+(n-i)*K=(n+m)*K:=by rw[<-bM,show i+m+(n-i)=n+m by omega]
 have e2:(n+m)*K<=c*K:=cC _ fF
 have e3:i*K+m*K=(i+m)*K:=by rw[bM]
 have e4:n*K+m*K=(n+m)*K:=by rw[bM]
 have fp:us.length=(n-i)*K:=by rw[hu];simp;omega
 rw[yH (by rw[nj (by omega)];omega),yH (by omega)];by_cases h1:q<i*K
 .have h2:q<(i+m)*K:=by omega
  simp only[h1,h2,if_true]
 .by_cases h2:q<(i+m)*K
  .have h3:q<i*K+vs.length:=by omega
   simp only[h1,h2,h3,if_true,if_false]
  .have h3:¬q<i*K+vs.length:=by omega
   have h4:q<(i+m)*K+us.length:=by omega
   simp only[h1,h2,h3,h4,if_true,if_false];rw[hu,fS,if_pos (by omega),iN];congr 1;omega
def Calls.to{P:Program}{g:FuncId}{vs:Array Value}{w:World}{Q Q':Ending->World->Prop}(h:Calls P g vs w Q)(hq:∀e w',Q e w'->Q' e w'):Calls P g vs w Q':=h.mono hq
set_option maxHeartbeats 2000000 in
def ael{cur us vs r0:List Value}{K G i m n:Nat}(hr:r0.length=G*K)(hi:i<=n)(fF:n+m<=G)(cY:n*K<=cur.length)(db:∀q,q<i*K->r0[q]?=cur[q]?)(hu:us=(cur.drop (i*K)).take ((n-i)*K))(hv:vs.length=m*K):
  ∀q,q<(n+m)*K->(lay (lay r0 (i*K) vs) ((i+m)*K) us)[q]?=if q<i*K then cur[q]? else if q<(i+m)*K then vs[q-i*K]? else cur[q-m*K]?:=by
 intro q hq
 have e0:i*K+(n-i)*K=n*K:=by rw[<-bM,show i+(n-i)=n by omega]
 have e1:(i+m)*K+(n-i)*K=(n+m)*K:=by rw[<-bM,show i+m+(n-i)=n+m by omega]
 have e2:(n+m)*K<=G*K:=cC _ fF
 have e3:i*K+m*K=(i+m)*K:=by rw[bM]
 have e4:n*K+m*K=(n+m)*K:=by rw[bM]
 have fp:us.length=(n-i)*K:=by rw[hu];simp;omega
 rw[yH (by rw[nj (by omega)];omega),yH (by omega)];by_cases h1:q<i*K
 .have h2:q<(i+m)*K:=by omega
  simp only[h1,h2,if_true];exact db q h1
 .by_cases h2:q<(i+m)*K
  .have h3:q<i*K+vs.length:=by omega
   simp only[h1,h2,h3,if_true,if_false]
  .have h4:q<(i+m)*K+us.length:=by omega
   simp only[h1,h2,h4,if_true,if_false];rw[hu,fS,if_pos (by omega),iN];congr 1;omega
def xF(w:World)(g:Nat)(a:Array Value){E:Nat}{c:Array Value}(h:w.heap[g]?=V (.cells c E (0,0))):(w.setRow g a).heap[g]?=V (.cells a E (0,0)):=by
 simp[xe,p0,h]
def zj(w:World)(g:Nat)(a:Array Value):(w.setRow g a).heap.size=w.heap.size:=by simp[xe]
def zi(w:World)(g:Nat)(a:Array Value)(b:Nat)(h:b≠g):(w.setRow g a).heap[b]?=w.heap[b]?:=by
 simp[xe,p0,Ne.symm h]
def Ii{P:Program}{ρ:Ren}{i0:TypeInfo}{z:Value}(L:tj P ρ i0 z){K:Nat}(fX:i0.size=K)(kY:0<i0.bytes)(l x:List (List AV))(i:Int)(hx:∀r,r∈x->r.length=K)
  (h:(0:Int)<=i/\i<=(l.length:Int)/\0<x.length/\(l.length+x.length)*i0.bytes<=140737488355328) :
  Ω P (.f (ρ.f 22)) [.o 1000,vi i,.s x] ⟨aR,[(1000,.own (ρ.t 9) K l)]⟩ λr s=>r=.o 900/\s.H=[(900,.own (ρ.t 9) K (eQ l i x))]:=by
 obtain⟨nm,dM,hf⟩:=L.f22;refine⟨⟨_,_,hf,dM,rfl⟩,λw F β vs hI hs hv=>?_⟩;obtain⟨q_,vK,hm,tT⟩:=h;obtain⟨i',rfl⟩:∃i':Nat,i=(i':Int):=⟨i.toNat,by omega⟩
 have vK:i'<=l.length:=by omega
 have se:l.length+x.length<=140737488355328:=dZ (Nat.le_mul_of_pos_right _ kY) tT;obtain⟨a,n,c,an,e0⟩:=(hv 0 (by simp)).ko;have e1:=(hv 1 (by simp)).bK;have h2:=hv 2 (by simp);change Rd w F β (.s x) _ at h2
 have hxK:∀r,r<x.length->(x.getD r []).length=K:=λr hr=>by
  rw[gk,bD hr];exact hx _ (eA _)
 rcases h2.oX.sV with⟨rfl,_,_⟩|⟨vb,vo,vc,K',u,xO,hvc,akI,e2,xP,hu⟩
 .simp at hm
 obtain⟨news,pK⟩:=Qo (w:=w) (F:=F) (b:=vb) (off:=vo) (u:=u) (show pj x K from hx) xP hu;have jG:=three hs e0 e1 e2;subst jG
 have kW:0<K:=by have:=L.k9;omega
 have nW:∀r j,r<x.length->j<K->(news.getD (r*K+j) undef).oneCell'=true/\bq w F ((x.getD r []).getD j .Δ) (news.getD (r*K+j) undef):=λr j hr hj=>by
  have hq:r*K+j<x.length*K:=by
   calc r*K+j<(r+1)*K:=by rw[bM];omega
    _<=_:=cC _ hr
  refine⟨pK.one _ ?_,pK.rd r j hr hj⟩;rw[gk,bD (by rw[pK.len];exact hq)];exact eA _
 have eT:∀j v,news[j]?=V v->w.cell? ⟨vb,vo+j,none⟩=V v:=λj v hj=>by
  have:=pK.cell j v hj;rwa [gr]at this
 have fin:∀(w':World)(v:Value),w'.os=w.os->jL w w'->w'.output=w.output->w.heap.size<=w'.heap.size->(∀b,b<w.heap.size->¬bH β [(1000,Chunk.own (ρ.t 9) K l)] b->w'.heap[b]?=w.heap[b]?) ->
   (∃g cap cur,v=.slice (V ⟨g,0,none⟩) (l.length+x.length) cap/\(w.heap.size<=g\/bH β [(1000,.own (ρ.t 9) K l)] g)/\0<cap/\w'.heap[g]?=V (.cells cur (ρ.t 9) (0,0))/\l.length+x.length<=cap/\cap<=maxLen/\cur.size=cap*K/\(∀r,r<l.length->(l.getD r []).length=K) /\
    ∀r j,r<(eQ l (i':Int) x).length->j<K->(cur.getD (r*K+j) undef).oneCell'=true/\bq w F (((eQ l (i':Int) x).getD r []).getD j .Δ) (cur.getD (r*K+j) undef)) ->
   ∃v',Ending.returned v=.returned v'/\∃r ax F' ay,(r=AV.o 900/\ax.H=[(900,Chunk.own (ρ.t 9) K (eQ l (i':Int) x))])/\Rd w' F' ay r v'/\Ext w F β ⟨aR,[(1000,.own (ρ.t 9) K l)]⟩ w' F' ay ax:=by
  rintro w' v h1 h2 h3 h4 h5 ⟨g,cap,cur,rfl,h6,h7,h8,h9,HC,Ay,oJ,h13⟩
  have hlen:(eQ l (i':Int) x).length=l.length+x.length:=by simp[eQ];omega
  refine⟨_,rfl,.o 900,⟨aR,[(900,.own (ρ.t 9) K (eQ l (i':Int) x))]⟩,F,_,⟨rfl,rfl⟩,.o ?_,Ws (v:=.slice (V ⟨g,0,none⟩) (l.length+x.length) cap) hI h1 h2 h3 h4 h5 ⟨g,cap,cur,by rw[hlen],h6,h7,h8,by rw[hlen];exact h9,HC,Ay,ad0 vK oJ hxK,h13⟩⟩;exact if_pos rfl
 have jR:(1000,Chunk.own (ρ.t 9) K l)∈[(1000,Chunk.own (ρ.t 9) K l)]:=by simp
 rcases hI.holds _ _ jR with⟨rfl,a',pE⟩|⟨g,cap,cur,tW,jk,hg,nR,nM,fD,uc,HU⟩
 ·-- nothing yet
  rw[an]at pE;cases pE
  have ac4:i'=0:=by simpa using vK
  subst ac4;refine Calls.to (VC L K a 0 0 vb vo x.length vc [] news w fX hm (bm _) (by omega) (by simpa using tT) (by simpa using se) (by simp) pK.len (λ_=>rfl) (λ_ _ j v hj=>by simp at hj) eT pK.one) ?_;rintro e w' ⟨rfl,rfl⟩;have hG:=grownCap_ge w (0+x.length) 0 (ρ.t 9);refine fin _ _ rfl ⟨rfl,λ_=>ku _⟩ rfl (by simp[l_]) (λb hb _=>?_) ⟨w.heap.size,grownCap w (0+x.length) 0 (ρ.t 9),([]++news).toArray++dJ z.cells (grownCap w (0+x.length) 0 (ρ.t 9)-(0+x.length)),by simp,.inl (bm _),by omega,?_,by simpa using hG,grownCap_le_maxLen w _ _ _ (by unfold maxLen;omega),?_,λr hr=>by simp at hr,λr j hr hj=>?_⟩
  .have:b≠w.drew.heap.size:=KT hb;simp only[l_,nv,if_neg this];rfl
  .show (w.drew.heap.push _)[w.drew.heap.size]?=_;rw[nv,if_pos rfl]
  .simp only[uK,s5,lF,pK.len];rw[show(dJ z.cells (grownCap w (0+x.length) 0 (ρ.t 9)-(0+x.length))).size=(grownCap w (0+x.length) 0 (ρ.t 9)-(0+x.length))*K by simp[dJ,L.zs,fX],<-bM];congr 1;omega
  .have cr:r<x.length:=by simpa [eQ]using hr
   have hq:r*K+j<news.length:=by
    rw[pK.len]
    calc r*K+j<(r+1)*K:=by rw[bM];omega
     _<=_:=cC _ cr
   have e:(([]++news).toArray++dJ z.cells (grownCap w (0+x.length) 0 (ρ.t 9)-(0+x.length))).getD (r*K+j) undef=news.getD (r*K+j) undef:=by
    simp only[uK,lA,pZ,lF,hq,if_true,List.getElem?_toArray,gk]
   rw[e];have:=nW r j cr hj;simpa [eQ]using this
 .rw[an]at tW;cases tW;obtain⟨n,hn⟩:∃n,n=l.length:=⟨_,rfl⟩;obtain⟨cl,rfl⟩:∃cl:List Value,cur=cl.toArray:=⟨cur.toList,by simp⟩
  have qT:aM c 0=false:=by cases c<;>first|rfl|omega
  have ho:bH β [(1000,Chunk.own (ρ.t 9) K l)] g:=⟨1000,_,jR,by rw[an];simp[bP,qT]⟩;have Ia:vb≠g:=λe=>hI.apart g ho (e▸xO);have iw:∀b,¬bH β [(1000,Chunk.own (ρ.t 9) K l)] b->b≠g:=λb hb e=>hb (e▸ho)
  have cY:cl.length=c*K:=by simpa using fD
  have qn:n*K<=c*K:=cC _ (by omega)
  have AR:∀r j,r<n->j<K->(cl.getD (r*K+j) undef).oneCell'=true/\bq w F ((l.getD r []).getD j .Δ) (cl.getD (r*K+j) undef):=λr j hr hj=>by
   have:=HU r j (by omega) hj;rwa [uU cl.toArray cl rfl]at this
  have sd:∀q v,q<n*K->cl[q]?=V v->v.oneCell'=true:=λq v hq j_=>by
   have h3:q/K<n:=(zS kW).2 hq;have h4:q % K<K:=rP _ kW
   have h5:q/K*K+q % K=q:=by rw[Nat.mul_comm];exact R4 q K
   have:=(AR _ _ h3 h4).1;rw[h5,gk,j_]at this;exact this
  have hQ:∀X:List Value,(∀q,q<(n+x.length)*K->X[q]?=if q<i'*K then cl[q]? else if q<(i'+x.length)*K then news[q-i'*K]? else cl[q-x.length*K]?) ->
    ∀r j,r<(eQ l (i':Int) x).length->j<K->(X.toArray.getD (r*K+j) undef).oneCell'=true/\bq w F (((eQ l (i':Int) x).getD r []).getD j .Δ) (X.toArray.getD (r*K+j) undef):=λX hX r j hr hj=>by
   rw[uU X.toArray X rfl];exact ad1 (Q:=λa v=>v.oneCell'=true/\bq w F a v) hn (by omega) hX AR nW r j hr hj
  rw[<-hn]at tT se vK nR uc fin ⊢
  have gA:c<=9223372036854775807:=by have:=nM;unfold maxLen at this;omega
  have sB:news.length=x.length*K:=pK.len;by_cases oO:i'<n
  .by_cases fF:n+x.length<=c
   .refine Calls.to (ad5 L K g c n i' vb vo x.length vc cl news w fX oO hm fF gA Ia hg cY sB eT sd pK.one) ?_;rintro e w' ⟨rfl,rfl⟩;refine fin _ _ rfl ⟨rfl,λ_=>ku _⟩ rfl (by rw[zj,zj];exact bm _) (λb hb bu=>by rw[zi _ _ _ _ (iw b bu),zi _ _ _ _ (iw b bu)];rfl)
     ⟨g,c,_,rfl,.inr ho,jk,xF _ _ _ (xF _ _ _ (show w.drew.heap[g]?=_ from hg)),fF,nM,?_,uc,hQ _ (aek cY (by omega) fF rfl sB)⟩
    have e1:(i'+x.length)*K+(n-i')*K=(n+x.length)*K:=by rw[<-bM,show i'+x.length+(n-i')=n+x.length by omega]
    have e2:(n+x.length)*K<=c*K:=cC _ fF
    have e3:i'*K+x.length*K=(i'+x.length)*K:=by rw[bM]
    have e0:i'*K+(n-i')*K=n*K:=by rw[<-bM,show i'+(n-i')=n by omega]
    have fp:((cl.drop (i'*K)).take ((n-i')*K)).length=(n-i')*K:=by simp;omega
    rw[lF,nj (by rw[nj (by rw[fp];omega)];omega),nj (by rw[fp];omega)];exact cY
   .refine Calls.to (ad2 L K g c n i' vb vo x.length vc cl news w fX oO hm (by omega) (by omega) tT se hg cY sB eT sd pK.one) ?_;rintro e w' ⟨rfl,r0,r1,db,H6,rfl,rfl⟩;have hG:=grownCap_ge w (n+x.length) c (ρ.t 9)
    have eY:(w.alloc (.cells r0.toArray (ρ.t 9))).drew.heap[w.heap.size]?=V (.cells r0.toArray (ρ.t 9) (0,0)):=by
     show(w.heap.push _)[w.heap.size]?=_;rw[nv,if_pos rfl]
    refine fin _ _ rfl ⟨rfl,λ_=>dZ (ku _) (ku _)⟩ rfl ?_ (λb hb bu=>?_)
     ⟨w.heap.size,grownCap w (n+x.length) c (ρ.t 9),_,rfl,.inl (bm _),by omega,xF _ _ _ (show _=_ from xF _ _ _ eY),hG,grownCap_le_maxLen w _ _ _ (by unfold maxLen;omega),?_,uc,hQ _ (ael db (by omega) hG (by omega) H6 rfl sB)⟩
    .rw[zj];show w.heap.size<=((w.alloc (.cells r0.toArray (ρ.t 9))).drew.setRow w.heap.size _).heap.size;rw[zj];show w.heap.size<=(w.heap.push _).size;simp
    .have aI:b≠w.heap.size:=KT hb;rw[zi _ _ _ _ aI];show((w.alloc (.cells r0.toArray (ρ.t 9))).drew.setRow w.heap.size _).heap[b]?=_;rw[zi _ _ _ _ aI];show(w.heap.push _)[b]?=_;rw[nv,if_neg aI]
    .have e1:(i'+x.length)*K+(n-i')*K=(n+x.length)*K:=by rw[<-bM,show i'+x.length+(n-i')=n+x.length by omega]
     have e2:(n+x.length)*K<=grownCap w (n+x.length) c (ρ.t 9)*K:=cC _ hG
     have e3:i'*K+x.length*K=(i'+x.length)*K:=by rw[bM]
     have e0:i'*K+(n-i')*K=n*K:=by rw[<-bM,show i'+(n-i')=n by omega]
     have fp:((cl.drop (i'*K)).take ((n-i')*K)).length=(n-i')*K:=by simp;omega
     rw[lF,nj (by rw[nj (by omega),fp];omega),nj (by omega)];exact db
  .have tZ:i'=n:=by omega
   subst tZ;by_cases fF:i'+x.length<=c
   .refine Calls.to (ad4 L K g c i' vb vo x.length vc cl news w fX hm fF gA hg cY sB eT pK.one) ?_;rintro e w' ⟨rfl,rfl⟩;have e2:(i'+x.length)*K<=c*K:=cC _ fF
    have e3:i'*K+x.length*K=(i'+x.length)*K:=by rw[bM]
    refine fin _ _ rfl ⟨rfl,λ_=>bm _⟩ rfl (by rw[zj];exact bm _) (λb hb bu=>by rw[zi _ _ _ _ (iw b bu)])
     ⟨g,c,_,rfl,.inr ho,jk,xF _ _ _ hg,fF,nM,by rw[lF,nj (by omega)];exact cY,uc,hQ _ λq hq=>?_⟩
    rw[yH (by omega)];by_cases h1:q<i'*K
    .simp only[h1,if_true]
    .have h2:q<(i'+x.length)*K:=hq
     have h3:q<i'*K+news.length:=by omega
     simp only[h1,h2,h3,if_true,if_false]
   .have hG:=grownCap_ge w (i'+x.length) c (ρ.t 9);refine Calls.to (VC L K (V ⟨g,0,none⟩) i' c vb vo x.length vc (cl.take (i'*K)) news w fX hm (by omega) (by omega) tT se (by simp;omega) sB (λh=>by cases h) (λa ha j v hj=>?_) eT pK.one) ?_
    .cases ha;rw[fS]at hj;split at hj
     .rw[gr];simp[uN,hg,hj]
     .cases hj
    .rintro e w' ⟨rfl,rfl⟩
     have nf:(dJ z.cells (grownCap w (i'+x.length) c (ρ.t 9)-(i'+x.length))).size=(grownCap w (i'+x.length) c (ρ.t 9)-(i'+x.length))*K:=by simp[dJ,L.zs,fX]
     have e3:i'*K+x.length*K=(i'+x.length)*K:=by rw[bM]
     refine fin _ _ rfl ⟨rfl,λ_=>ku _⟩ rfl (by simp[l_]) (λb hb _=>?_) ⟨w.heap.size,grownCap w (i'+x.length) c (ρ.t 9),(cl.take (i'*K)++news).toArray++dJ z.cells (grownCap w (i'+x.length) c (ρ.t 9)-(i'+x.length)),rfl,.inl (bm _),by omega,?_,hG,grownCap_le_maxLen w _ _ _ (by unfold maxLen;omega),?_,uc,λr j hr hj=>?_⟩
     .have:b≠w.drew.heap.size:=KT hb;simp only[l_,nv,if_neg this];rfl
     .show (w.drew.heap.push _)[w.drew.heap.size]?=_;rw[nv,if_pos rfl]
     .rw[s5,nf,lF,cZ,dq,xb (by omega),sB,e3,<-bM];congr 1;omega
     .have hlen:(eQ l (i':Int) x).length=i'+x.length:=by simp[eQ];omega
      have hq:r*K+j<(i'+x.length)*K:=by
       calc r*K+j<(r+1)*K:=by rw[bM];omega
        _<=_:=cC _ (by omega)
      have jD:(cl.take (i'*K)++news).length=(i'+x.length)*K:=by rw[cZ,dq,xb (by omega),sB,e3]
      have e:((cl.take (i'*K)++news).toArray++dJ z.cells (grownCap w (i'+x.length) c (ρ.t 9)-(i'+x.length))).getD (r*K+j) undef=(cl.take (i'*K)++news).toArray.getD (r*K+j) undef:=by
       simp only[lA,pZ,lF,jD,hq,if_true]
      rw[e];refine hQ (cl.take (i'*K)++news) (λq hq=>?_) r j hr hj;rw[gV,dq,xb (by omega),fS];by_cases h1:q<i'*K
      .simp only[h1,if_true]
      .have h2:q<(i'+x.length)*K:=hq;simp only[h1,h2,if_true,if_false]
def SV(l:List (List AV))(i j r:Nat)(eX:i<=j)(hj:j<=l.length):(kU l (i:Int) (j:Int)).getD r []=if r<i then l.getD r []else l.getD (r+(j-i)) []:=by
 simp only[kU,gv,bc,gV,dq,fS,iN,xb (show i<=l.length by omega)];by_cases h1:r<i
 .simp[h1]
 .have h3:j+(r-i)=r+(j-i):=by omega
  simp[h1,h3]
set_option maxHeartbeats 2000000 in
def G7{P:Program}{ρ:Ren}{i0:TypeInfo}{z:Value}(L:zX P ρ i0 z){K:Nat}(fX:i0.size=K)(l:List (List AV))(i j:Int)(h:(0:Int)<=i/\i<j/\j<=(l.length:Int)):
  Ω P (.f (ρ.f 45)) [.o 1000,vi i,vi j] ⟨aR,[(1000,.own (ρ.t 23) K l)]⟩ λr s=>r=.o 900/\s.H=[(900,.own (ρ.t 23) K (kU l i j))]:=by
 obtain⟨nm,dM,hf⟩:=L.f45;refine⟨⟨_,_,hf,dM,rfl⟩,λw F β vs hI hs hv=>?_⟩;obtain⟨q_,eX,mZ⟩:=h;obtain⟨i',rfl⟩:∃i':Nat,i=(i':Int):=⟨i.toNat,by omega⟩;obtain⟨j',rfl⟩:∃j':Nat,j=(j':Int):=⟨j.toNat,by omega⟩
 have eX:i'<j':=by omega
 have mZ:j'<=l.length:=by omega
 obtain⟨a,n,c,an,e0⟩:=(hv 0 (by simp)).ko;have e1:=(hv 1 (by simp)).bK;have e2:=(hv 2 (by simp)).bK;have jG:=three hs e0 e1 e2;subst jG
 have kW:0<K:=by have:=L.vW;omega
 have jR:(1000,Chunk.own (ρ.t 23) K l)∈[(1000,Chunk.own (ρ.t 23) K l)]:=by simp
 rcases hI.holds _ _ jR with⟨rfl,a',pE⟩|⟨g,cap,cur,tW,jk,hg,nR,nM,fD,uc,HU⟩
 .simp at mZ;omega
 .rw[an]at tW;cases tW;obtain⟨n,hn⟩:∃n,n=l.length:=⟨_,rfl⟩;obtain⟨cl,rfl⟩:∃cl:List Value,cur=cl.toArray:=⟨cur.toList,by simp⟩
  have qT:aM c 0=false:=by cases c<;>first|rfl|omega
  have ho:bH β [(1000,Chunk.own (ρ.t 23) K l)] g:=⟨1000,_,jR,by rw[an];simp[bP,qT]⟩;have iw:∀b,¬bH β [(1000,Chunk.own (ρ.t 23) K l)] b->b≠g:=λb hb e=>hb (e▸ho)
  have cY:cl.length=c*K:=by simpa using fD
  have qn:n*K<=c*K:=cC _ (by omega)
  have AR:∀r q,r<n->q<K->(cl.getD (r*K+q) undef).oneCell'=true/\bq w F ((l.getD r []).getD q .Δ) (cl.getD (r*K+q) undef):=λr q hr hq=>by
   have:=HU r q (by omega) hq;rwa [uU cl.toArray cl rfl]at this
  have sd:∀q v,q<n*K->cl[q]?=V v->v.oneCell'=true:=λq v hq j_=>by
   have h3:q/K<n:=(zS kW).2 hq;have h4:q % K<K:=rP _ kW
   have h5:q/K*K+q % K=q:=by rw[Nat.mul_comm];exact R4 q K
   have:=(AR _ _ h3 h4).1;rw[h5,gk,j_]at this;exact this
  rw[<-hn]at mZ nR uc ⊢
  have gA:c<=9223372036854775807:=by have:=nM;unfold maxLen at this;omega
  refine Calls.to (aa9 L K g c n i' j' cl w fX eX mZ nR gA hg cY sd) ?_;rintro e w' ⟨rfl,zs,nf,rfl⟩
  have hlen:(kU l (i':Int) (j':Int)).length=i'+(n-j'):=by simp[kU];omega
  have e0:j'*K+(n-j')*K=n*K:=by rw[<-bM,show j'+(n-j')=n by omega]
  have e1:i'*K+(n-j')*K=(i'+(n-j'))*K:=by rw[bM]
  have e2:(i'+(n-j'))*K+(j'-i')*K=n*K:=by rw[<-bM,show i'+(n-j')+(j'-i')=n by omega]
  have e4:i'*K+(j'-i')*K=j'*K:=by rw[<-bM,show i'+(j'-i')=j' by omega]
  have fp:((cl.drop (j'*K)).take ((n-j')*K)).length=(n-j')*K:=by simp;omega
  refine⟨_,rfl,.o 900,⟨aR,[(900,.own (ρ.t 23) K (kU l (i':Int) (j':Int)))]⟩,F,_,⟨rfl,rfl⟩,.o (if_pos rfl),Ws (v:=.slice (V ⟨g,0,none⟩) (i'+(n-j')) c) hI rfl ⟨rfl,λ_=>ku _⟩ rfl (by rw[zj,zj];exact bm _) (λb hb bu=>by rw[zi _ _ _ _ (iw b bu),zi _ _ _ _ (iw b bu)];rfl)
   ⟨g,c,_,by rw[hlen],.inr ho,jk,xF _ _ _ (xF _ _ _ (show w.drew.heap[g]?=_ from hg)),by rw[hlen];omega,nM,?_,λr hr=>?_,λr q hr hq=>?_⟩⟩
  .rw[lF,nj (by rw[nj (by omega)];omega),nj (by omega)];exact cY
  .rw[hlen]at hr;rw[SV l i' j' r (by omega) (by omega)];split
   .exact uc r (by omega)
   .exact uc _ (by omega)
  .rw[hlen]at hr;rw[uU _ _ rfl,SV l i' j' r (by omega) (by omega)]
   have hqr:r*K+q<(i'+(n-j'))*K:=by
    calc r*K+q<(r+1)*K:=by rw[bM];omega
     _<=_:=cC _ hr
   rw[show∀X:List Value,X.getD (r*K+q) undef=(X[r*K+q]?).getD undef fromλX=>gk ..,yH (by rw[nj (by omega)];omega),if_pos hqr,yH (by omega)];by_cases h1:r<i'
   .have h2:r*K+q<i'*K:=by
     calc r*K+q<(r+1)*K:=by rw[bM];omega
      _<=_:=cC _ h1
    rw[if_pos h1,if_pos h2,show∀(a:List Value)b,(a[b]?).getD undef=a.getD b undef fromλa b=>(gk ..).symm];exact AR r q (by omega) hq
   .have h2:¬r*K+q<i'*K:=by
     have:i'*K<=r*K:=cC _ (by omega);omega
    have h3:r*K+q<i'*K+((cl.drop (j'*K)).take ((n-j')*K)).length:=by omega
    have h4:j'*K+(r*K+q-i'*K)=(r+(j'-i'))*K+q:=by
     have:i'*K<=r*K:=cC _ (by omega);rw[bM];omega
    rw[if_neg h1,if_neg h2,if_pos h3,fS,if_pos (by omega),iN,h4,show∀(a:List Value)b,(a[b]?).getD undef=a.getD b undef fromλa b=>(gk ..).symm];exact AR (r+(j'-i')) q (by omega) hq
end
section
open Go.RowKit
section
variable[M:cD][G:ed][R:eF]
variable{P:Program}{n:Nat}{st:ak}{Q:Exit->ak->Prop}{T:TT}
def ct{x y:Code}{ρ:Type}{X Y:Option ρ}{r:ρ}{d:Nat}{b:Bool}(h:(if b=true then X else Y)=V r)(yes:b=true->X=V r->Ok P n x st Q)(no:b=false->Y=V r->Ok P n y st Q)(hb:st.f d=.v (.bool b):=by exact rfl):Ok P n (.cond (.tmp d) x y) st Q:=cn d b hb h yes no
def pq{g:Nat}{fn:Func}{args:List AV}{r:AV}(hT:bL P T)(n:Nat)(dR:P.funcs[g]?=V fn)
  (h:Ok P n (fn.body.getD .skip) ⟨lq args,[]⟩ (r_ T fn.results.toList λx st => Fz st.H x r)) (dM:(fn.name == "runtime.NumGoroutine")=false:=by kernel_rfl) (hb:fn.body=V (fn.body.getD .skip):=by exact rfl) (hn:fn.ntmps=n:=by exact rfl) (hle:p9 args.length n=true:=by exact rfl):Pure P g args r:=po hT n dR dM hb hn hle h
def pv{g E K:Nat}{fn:Func}{args:List AV}{rows:List (List AV)}(hT:bL P T)(n:Nat)(dR:P.funcs[g]?=V fn)
  (h:Ok P n (fn.body.getD .skip) ⟨lq args,[]⟩ (r_ T fn.results.toList (K9 E K rows))) (dM:(fn.name == "runtime.NumGoroutine")=false:=by kernel_rfl) (hb:fn.body=V (fn.body.getD .skip):=by exact rfl) (hn:fn.ntmps=n:=by exact rfl) (hle:p9 args.length n=true:=by exact rfl):j5 P g args E K rows:=pw hT n dR dM hb hn hle h
def px{E:TypeId}{g:Nat}{fn:Func}{args:List AV}{H0:Hp}{ρ:Type}{q:Int⊕ρ}{r:ρ->AV}{H1:ρ->Hp}(hT:bL P T)(n:Nat)(dR:P.funcs[g]?=V fn)
  (h:Ok P n (fn.body.getD .skip) ⟨lq args,H0⟩ (L_ T E fn.results.toList (λx s =>∃ y,q=.inr y /\ Wk ⟨ej aR 0 x,s.H⟩ ⟨Ψ [(0,r y)],H1 y⟩) λm => q=.inl m)) (dM:(fn.name == "runtime.NumGoroutine")=false:=by kernel_rfl) (hb:fn.body=V (fn.body.getD .skip):=by exact rfl) (hn:fn.ntmps=n:=by exact rfl) (hle:p9 args.length n=true:=by exact rfl) :
  kQ P E g args ⟨aR,H0⟩ (λx s=>∃y,q=.inr y/\x=r y/\s.H=H1 y) λm s=>q=.inl m/\s.H=[]:=afK hT dR dM hb hn (zT hle) h
def pg{g:Nat}{fn:Func}{args:List AV}{H0 H1:Hp}{r:AV}(hT:bL P T)(n:Nat)(dR:P.funcs[g]?=V fn)
  (h:Ok P n (fn.body.getD .skip) ⟨lq args,H0⟩ (r_ T fn.results.toList λx s => Wk ⟨ej aR 0 x,s.H⟩ ⟨Ψ [(0,r)],H1⟩)) (dM:(fn.name == "runtime.NumGoroutine")=false:=by kernel_rfl) (hb:fn.body=V (fn.body.getD .skip):=by exact rfl) (hn:fn.ntmps=n:=by exact rfl) (hle:p9 args.length n=true:=by exact rfl):Ω P g args ⟨aR,H0⟩ λx s => x=r /\ s.H=H1:=afL hT dR dM hb hn (zT hle) h
def cg{g:Tg}{xs ys:List AV}{st:ak}{H0 H1:Hp}{r:AV}{k:AV->ak->Prop}(m n:List (Nat×Nat))(h:Ω P g ys ⟨aR,H0⟩ λx s=>x=r/\s.H=H1)
  (hx:jx m xs ys) (hH:uR m st.H H0) (hk:k (rl (cU (kL m n)) 3 r) ⟨λt=>tK n (st.f t),iA (cU (kL m n)) H1++kM m n st.H⟩)
  (lf:jV H0=true:=by exact rfl) (ht:B7 m n=true:=by exact rfl) (ek:jV (iA (cU (kL m n)) H1++kM m n st.H)=true:=by exact rfl):Ω P g xs st k:=Ω.gen h hx hH lf ht ek hk
def cx{E:TypeId}{g:FuncId}{xs ys:List AV}{st:ak}{H0:Hp}{ρ:Type}{q:Int⊕ρ}{r:ρ->AV}{H1:ρ->Hp}{k:AV->ak->Prop}{kx:Int->ak->Prop}(m n:List (Nat×Nat))(h:kQ P E g ys ⟨aR,H0⟩ (λx s=>∃y,q=.inr y/\x=r y/\s.H=H1 y) λm s=>q=.inl m/\s.H=[])
  (hx:jx m xs ys) (hH:uR m st.H H0)
  (hp:∀e,q=.inl e->kx e ⟨λt=>tK n (st.f t),kM m n st.H⟩)
  (hk:∀y,q=.inr y->k (rl (cU (kL m n)) 3 (r y)) ⟨λt=>tK n (st.f t),iA (cU (kL m n)) (H1 y)++kM m n st.H⟩)
  (lf:jV H0=true:=by exact rfl) (ht:B7 m n=true:=by exact rfl) (ek:∀y,jV (iA (cU (kL m n)) (H1 y)++kM m n st.H)=true:=by exactλ_=>rfl) (dz:jV (kM m n st.H)=true:=by exact rfl):kQ P E g xs st k kx:=kQ.gen h hx hH lf ht ek dz hp hk
end
section
variable[M:cD][G:ed]{H:Hp}
def Tx:∀{xs:List AV},xs.all kH=true->ph H xs xs
 |[],_=>.nil
 |x::xs,h=>by
  rw[List.all_cons,bR]at h;exact .cons (Fz.cP h.1) (Tx h.2)
def fq{xs:List AV}(h:xs.all kH=true:=by rfl):ph H xs xs:=Tx h
end
section
variable[M:cD][G:ed][R:eF]
local instance akW:rR:=⟨[]⟩
local instance akT:nE:=⟨[]⟩
variable{P:Program}{n:Nat}{st:ak}{Q:Exit->ak->Prop}{T:TT}
def dw{id:Nat}{ops:Array Oper}(m:Nat)(hT:bL P T)(hm:P.follows .mixedOrders=true)
  (h:rI P T n ops (steady m ops) ⟨preB (eC m ops) (jM (eC m ops) st).f,(jM (eC m ops) st).H⟩ λst1=>sJ P st1.f (ops.toList.take m)/\qQ T n (eC m ops) st1 λst2=>ju P T n ops (ops.toList.drop m) st2 (Q .normal)) (qj:C0 m ops=true:=by kernel_rfl):Ok P n (.region id ops true) st Q:=Ok.draw hT hm qj h
end
end
end Go.Cat
